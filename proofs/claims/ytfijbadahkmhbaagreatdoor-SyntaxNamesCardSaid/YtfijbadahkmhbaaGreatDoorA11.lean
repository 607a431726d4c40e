/-
  Part 11: lemmas, and walks through the functions that the laws of chapter 43 call. Each theorem states its own conditions.
-/
import Derived.Sort.Grow
import Derived.Sort.EncStr
import Derived.Shelf.Strings.Builder1
import Derived.Shelf.Strings.Builder2
import Derived.Shelf.Strings.OnBuilder
import Derived.Shelf.Strings.Trim
import Derived.Shelf.Small.Utf8
import Derived.Shelf.Small.Bits
import Derived.Shelf.Small.Strs
import Derived.Shelf.Small.Wraps
import Derived.Shelf.Strings.BuilderF
import Derived.Shelf.Strings.BuilderK
import Derived.Shelf.Utf8.RuneCount
import Derived.Shelf.Strings.Builder2Cap
import Derived.Shelf.Strconv.Itoa0
import Derived.Shelf.Strings.Search1
import Derived.Shelf.Strings.Search2
import Derived.Shelf.Strings.Search3
import Derived.Shelf.Strings.Cut
import Derived.Shelf.Strings.Count
import Derived.Shelf.LaysM
import Derived.Shelf.Strings.Shaped
import Derived.Shelf.Sort.Plain
import Derived.Shelf.Strings.Prefix
import Derived.Shelf.Strings.Split
import Derived.Shelf.Strings.Replace
import Derived.Shelf.Strings.SplitShaped
import Derived.Shelf.Unicode.Decode
import Derived.Shelf.Strings.Runes
import Derived.Shelf.Strings.RuneCount
import Derived.Shelf.Strings.AsciiSet
import Derived.Shelf.Bits.Mul64
import Derived.Shelf.Unicode.DecodeSlow
import Derived.Shelf.Unicode.DecodeAny
import Derived.Shelf.Strings.BuilderCap
import Derived.Shelf.Slices.Turned
import Derived.Shelf.Slices.Equal
import Derived.Shelf.Slices.CompactS
import Derived.Ground.Names2Prog
import Derived.Shelf.Slices.SearchI
import Derived.Shelf.Slices.Cells
import Derived.Shelf.Slices.In.SortNone
import Derived.Shelf.Slices.Empties2
import Derived.Test.YtfijbadahkmhbaaGreatDoorProg
import Derived.ChangeSame
import Derived.OpenShut
import Derived.RowKit3
import Derived.ProofKit
import Derived.Deep.Slices
import Derived.Carry
import Derived.ChangeMaps5
import Derived.Test.YtfijbadahkmhbaaGreatDoorCards
import Derived.Test.YtfijbadahkmhbaaGreatDoorTie
import Derived.WalkKit
import Derived.Deep.DeepHandedRow
import Derived.Lib.LaidTab
import Derived.Test.YtfijbadahkmhbaaGreatDoorA04
import Derived.Test.YtfijbadahkmhbaaGreatDoorA09
import Derived.Test.YtfijbadahkmhbaaGreatDoorA10
set_option linter.unusedVariables false
set_option linter.unusedSimpArgs false
namespace Go.Via
open Go Go.RowKit Go.Sort Go.Proofs
theorem LRel.rowMod {B : Bs} {w w' : World} {L : List Blk} (h : LRel B L w) {k : Nat} {b : Blk} (hk : L[k]? = some b) (ho : b.own = true) {g : Nat} (hg : b.base = some g) (hn0 : b.n ≠ 0) (f : Array Value → Array Value) (cs' : List Value)
    (hf : ∀ cur : Array Value, cur.size = b.n → cur.toList.take b.cs.length = b.cs → (f cur).size = b.n ∧ (f cur).toList.take cs'.length = cs')
    (h1 : w'.os = w.os) (h2 : w'.tape = w.tape) (h3 : w'.output = w.output) (h4 : w.heap.size ≤ w'.heap.size) (h5 : ∀ i, i < w.heap.size → i ≠ g → w'.heap[i]? = w.heap[i]?)
    (h6 : ∀ cur : Array Value, w.heap[g]? = some (.cells cur b.e (0, 0)) → w'.heap[g]? = some (.cells (f cur) b.e (0, 0))) : LRel B (L.set k { b with cs := cs' }) w' := by
  obtain ⟨cur, ⟨e', fr, a1, a2, _⟩, a3, a4⟩ := ((h.blk k b hk).1 g hg).cells (.inl hn0)
  obtain ⟨rfl, rfl⟩ := a2 ho
  obtain ⟨b1, b2⟩ := hf cur a3 a4
  have hs := h.set hk ho hg (f cur) cs' b1 b2
  have hh := setRow_heap w g cur (f cur) b.e (0, 0) a1
  have hsz : (w.setRow g (f cur)).heap.size = w.heap.size := by simp
  refine hs.same ⟨h1, h2, h3, by rw [hsz]; exact h4, fun i hi => ?_⟩
  rw [hsz] at hi
  by_cases e : i = g
  · subst e; rw [h6 cur a1, hh]
  · rw [h5 i hi e, setRow_other w g i _ e]
def SB (l : List Bs8) : List Value := l.map fun s => .string (strU s)
theorem SB_length (l : List Bs8) : (SB l).length = l.length := by simp [SB]
abbrev SBk (b : Option Nat) (l : List Bs8) (n : Nat) : Blk := ⟨b, 9, SB l, n, true⟩
theorem SB_get {l : List Bs8} {i : Nat} {s : Bs8} (h : l[i]? = some s) : ((SB l).drop (i * 1)).take 1 = [.string (strU s)] := by
  obtain ⟨hl, rfl⟩ := List.getElem?_eq_some_iff.1 h
  rw [Nat.mul_one]
  unfold SB
  rw [← List.map_drop, List.drop_eq_getElem_cons hl]
  rfl
theorem SB_append (a b : List Bs8) : SB (a ++ b) = SB a ++ SB b := by simp [SB]
theorem LRel.strs {B : Bs} {w : World} {L : List Blk} (h : LRel B L w) {k : Nat} {g e n : Nat} {l : List Bs8} {pre : List Value} {o : Bool} (hk : L[k]? = some ⟨some g, e, pre ++ SB l, n, o⟩) {j : Nat} {s : Bs8} (hj : l[j]? = some s) : w.cell? ⟨g, pre.length + j, none⟩ = some (.string (strU s)) := by
  have hj2 : (pre ++ SB l)[pre.length + j]? = some (.string (strU s)) := by
    rw [List.getElem?_append_right (by omega), Nat.add_sub_cancel_left]
    unfold SB; rw [List.getElem?_map, hj]; rfl
  obtain ⟨g', hg', h2⟩ := h.cell (k := k) hk hj2
  cases hg'
  exact h2
theorem LRel.loose {B : Bs} {w : World} {L : List Blk} (h : LRel B L w) {k : Nat} {b : Blk} (hk : L[k]? = some b) (ho : b.own = true) {g : Nat} (hg : b.base = some g) (hn0 : b.n ≠ 0) (j : Nat) : w.frozen? ⟨g, j, none⟩ = false := by
  obtain ⟨cur, ⟨e', fr, a1, a2, _⟩, a3, a4⟩ := ((h.blk k b hk).1 g hg).cells (.inl hn0)
  obtain ⟨rfl, rfl⟩ := a2 ho
  simp [World.frozen?, a1]
theorem putCells_ok {d : List Bs8} {cur : Array Value} (h : d.length ≤ cur.size) : (putCells encStr 0 d.toArray cur).size = cur.size ∧ (putCells encStr 0 d.toArray cur).toList.take (SB d).length = SB d := by
  refine ⟨by simp [putCells], ?_⟩
  apply List.ext_getElem?
  intro i
  rw [SB_length, List.getElem?_take]
  split
  · rename_i hi
    unfold SB
    rw [List.getElem?_map, List.getElem?_eq_getElem hi, Array.getElem?_toList]
    unfold putCells
    rw [Array.getElem?_mapIdx, Array.getElem?_eq_getElem (by omega)]
    simp only [Option.map_some, Nat.zero_le, true_and, List.size_toArray, Nat.zero_add, hi, if_true, Nat.sub_zero]
    rw [getElem!_pos d.toArray i (by simpa using hi)]
    rfl
  · rename_i hi
    unfold SB
    rw [List.getElem?_map, List.getElem?_eq_none (by omega)]
    rfl
theorem LRel.putRow {B : Bs} {w : World} {L : List Blk} (h : LRel B L w) {k g n m : Nat} {l l' : List Bs8} {os : Array Obj} (hk : L[k]? = some (SBk (some g) l n)) (hl : l'.length ≤ n) (hn0 : n ≠ 0) :
    LRel B (L.set k (SBk (some g) l' n)) (grow (putRow encStr (Sort.ahead w m) g 0 l'.toArray) os) := by
  have hlt := h.lt hk rfl
  have e1 : (grow (Go.Sort.putRow encStr (Sort.ahead w m) g 0 l'.toArray) os).heap = (w.heap.modify g (onCells (putCells encStr 0 l'.toArray))) ++ os := rfl
  refine h.rowMod hk rfl rfl hn0 (putCells encStr 0 l'.toArray) (SB l') (fun cur hc _ => by
    have hc' : cur.size = n := hc
    obtain ⟨p1, p2⟩ := putCells_ok (d := l') (cur := cur) (by omega)
    exact ⟨p1.trans hc, p2⟩) rfl rfl rfl (by rw [e1]; simp) (fun i hi hne => ?_) (fun cur hcur => ?_)
  · rw [e1, Array.getElem?_append_left (by simpa using hi), Array.getElem?_modify, if_neg (fun e => hne e.symm)]
  · rw [e1, Array.getElem?_append_left (by simpa using hlt), Array.getElem?_modify, if_pos rfl, hcur]
    rfl
end Go.Via
namespace Go.Via
open Go Go.RowKit
theorem XT.size_eq (x : XT) : x.size = 1 + XT.sizes x.args := by cases x; rw [XT.size]; rfl
theorem XT.sizes_drop {l : List XT} {i : Nat} {y : XT} (h : l[i]? = some y) : XT.sizes (l.drop i) = y.size + XT.sizes (l.drop (i + 1)) := by
  obtain ⟨hl, rfl⟩ := List.getElem?_eq_some_iff.1 h
  rw [List.drop_eq_getElem_cons hl, XT.sizes]
theorem XT.len_sizes : ∀ l : List XT, l.length ≤ XT.sizes l
  | [] => Nat.zero_le _
  | x :: l => by
    have := XT.len_sizes l
    have := x.size_pos
    rw [XT.sizes, List.length_cons]; omega
section
variable (st : XT → Nat → Nat → Nat)
mutual
def foldN : XT → Nat → Nat → Nat
  | .mk o nm u l, lv, n => foldsN l (lv + 1) (st (.mk o nm u l) lv n)
def foldsN : List XT → Nat → Nat → Nat
  | [], _, n => n
  | x :: l, lv, n => foldsN l lv (foldN x lv n)
end
theorem foldN_eq (x : XT) (lv n : Nat) : foldN st x lv n = foldsN st x.args (lv + 1) (st x lv n) := by cases x; rw [foldN]; rfl
theorem foldsN_step {l : List XT} {i : Nat} {y : XT} (h : l[i]? = some y) (lv n : Nat) : foldsN st (l.drop i) lv n = foldsN st (l.drop (i + 1)) lv (foldN st y lv n) := by
  obtain ⟨hl, rfl⟩ := List.getElem?_eq_some_iff.1 h
  rw [List.drop_eq_getElem_cons hl, foldsN]
mutual
theorem foldN_le (hst : ∀ y lv n, st y lv n ≤ max n lv + 1) : ∀ (x : XT) (lv n : Nat), foldN st x lv n ≤ max n lv + x.size
  | .mk o nm u l, lv, n => by
    rw [foldN, XT.size]
    have h1 := foldsN_le hst l (lv + 1) (st (.mk o nm u l) lv n)
    have h2 := hst (.mk o nm u l) lv n
    omega
theorem foldsN_le (hst : ∀ y lv n, st y lv n ≤ max n lv + 1) : ∀ (l : List XT) (lv n : Nat), foldsN st l lv n ≤ max n lv + XT.sizes l
  | [], lv, n => by rw [foldsN, XT.sizes]; omega
  | x :: l, lv, n => by
    rw [foldsN, XT.sizes]
    have h1 := foldsN_le hst l lv (foldN st x lv n)
    have h2 := foldN_le hst x lv n
    omega
end
end
mutual
def varsL : XT → List Bs8
  | .mk o nm u l => (if o = 4 then [nm] else []) ++ varsLs l
def varsLs : List XT → List Bs8
  | [] => []
  | x :: l => varsL x ++ varsLs l
end
theorem varsL_eq (x : XT) : varsL x = (if x.op = 4 then [x.name] else []) ++ varsLs x.args := by cases x; rw [varsL]; rfl
theorem varsLs_step {l : List XT} {i : Nat} {y : XT} (h : l[i]? = some y) : varsLs (l.drop i) = varsL y ++ varsLs (l.drop (i + 1)) := by
  obtain ⟨hl, rfl⟩ := List.getElem?_eq_some_iff.1 h
  rw [List.drop_eq_getElem_cons hl, varsLs]
mutual
theorem varsL_len : ∀ x : XT, (varsL x).length ≤ x.size
  | .mk o nm u l => by
    rw [varsL, XT.size, List.length_append]
    have := varsLs_len l
    split <;> simp <;> omega
theorem varsLs_len : ∀ l : List XT, (varsLs l).length ≤ XT.sizes l
  | [] => by rw [varsLs]; exact Nat.zero_le _
  | x :: l => by
    rw [varsLs, XT.sizes, List.length_append]
    have := varsL_len x
    have := varsLs_len l
    omega
end
structure SRw (l : List Bs8) where
  b : Option Nat
  n : Nat
  cap : Nat
  h1 : l.length ≤ cap
  h2 : cap ≤ n
abbrev VV (gv : Nat) {l : List Bs8} (s : SRw l) : Blk := ⟨some gv, 36, [slv s.b 0 l.length s.cap], 1, true⟩
abbrev VR {l : List Bs8} (s : SRw l) : Blk := SBk s.b l s.n
def SRw.cast {l m : List Bs8} (h : l = m) (s : SRw l) : SRw m := ⟨s.b, s.n, s.cap, by rw [← h]; exact s.h1, s.h2⟩
theorem SRw.cast_blk {l m : List Bs8} (h : l = m) (s : SRw l) (gv : Nat) : [VV gv (s.cast h), VR (s.cast h)] = [VV gv s, VR s] := by subst h; rfl
def SRw.add {l : List Bs8} (x : Bs8) (r : AR (l.length + 1) 1) : SRw (l ++ [x]) := ⟨some r.g, r.n, r.cap, by rw [List.length_append]; exact r.h, by have := r.hn; omega⟩
end Go.Via
namespace Go.Proofs
open Go.Shelf
def Tryz.lays190_ren : Go.Shelf.Ren := ⟨fun | 190 => 55 | 125 => 92 | 258 => 91 | 128 => 120 | 129 => 121 | 302 => 111 | 303 => 112 | 304 => 113 | 305 => 114 | 306 => 115 | 307 => 116 | 308 => 117 | 309 => 118 | 310 => 119 | 333 => 146 | 329 => 147 | 330 => 148 | 334 => 149 | 335 => 150 | 336 => 151 | 344 => 165 | n => n, fun | 31 => 36 | 9 => 9 | 3 => 3 | 46 => 123 | 0 => 0 | 51 => 161 | 53 => 163 | 4 => 4 | 183 => 154 | 182 => 153 | 131 => 119 | 5 => 5 | 218 => 189 | 222 => 69 | 228 => 205 | 229 => 206 | n => n, fun | n => n⟩
theorem Tryz.lays190 : Go.Proofs.Lays.n190 Tryz.prog Tryz.lays190_ren := {
  mixed := by kernel_rfl
  f125 := Tryz.func92.trans (congrArg some (by kernel_rfl))
  f128 := Tryz.func120.trans (congrArg some (by kernel_rfl))
  f129 := Tryz.func121.trans (congrArg some (by kernel_rfl))
  f190 := Tryz.func55.trans (congrArg some (by kernel_rfl))
  f258 := Tryz.func91.trans (congrArg some (by kernel_rfl))
  f302 := Tryz.func111.trans (congrArg some (by kernel_rfl))
  f303 := Tryz.func112.trans (congrArg some (by kernel_rfl))
  f304 := Tryz.func113.trans (congrArg some (by kernel_rfl))
  f305 := Tryz.func114.trans (congrArg some (by kernel_rfl))
  f306 := Tryz.func115.trans (congrArg some (by kernel_rfl))
  f307 := Tryz.func116.trans (congrArg some (by kernel_rfl))
  f308 := Tryz.func117.trans (congrArg some (by kernel_rfl))
  f309 := Tryz.func118.trans (congrArg some (by kernel_rfl))
  f310 := Tryz.func119.trans (congrArg some (by kernel_rfl))
  f329 := Tryz.func147.trans (congrArg some (by kernel_rfl))
  f330 := Tryz.func148.trans (congrArg some (by kernel_rfl))
  f333 := Tryz.func146.trans (congrArg some (by kernel_rfl))
  f334 := Tryz.func149.trans (congrArg some (by kernel_rfl))
  f335 := Tryz.func150.trans (congrArg some (by kernel_rfl))
  f336 := Tryz.func151.trans (congrArg some (by kernel_rfl))
  f344 := Tryz.func165.trans (congrArg some (by kernel_rfl))
  t0 := Tryz.underlying0
  a0 := Tryz.isAgg0
  z0 := Tryz.sizeOf0
  v0 := Tryz.zeroValue0
  t3 := Tryz.underlying3
  a3 := Tryz.isAgg3
  z3 := Tryz.sizeOf3
  v3 := Tryz.zeroValue3
  t4 := Tryz.underlying4
  a4 := Tryz.isAgg4
  z4 := Tryz.sizeOf4
  v4 := Tryz.zeroValue4
  t5 := Tryz.underlying5
  a5 := Tryz.isAgg5
  z5 := Tryz.sizeOf5
  v5 := Tryz.zeroValue5
  t9 := Tryz.underlying9
  a9 := Tryz.isAgg9
  z9 := Tryz.sizeOf9
  v9 := Tryz.zeroValue9
  t31 := Tryz.underlying36
  a31 := Tryz.isAgg36
  z31 := Tryz.sizeOf36
  v31 := Tryz.zeroValue36
  t46 := Tryz.underlying123
  a46 := Tryz.isAgg123
  z46 := Tryz.sizeOf123
  v46 := Tryz.zeroValue123
  t51 := Tryz.underlying161
  a51 := Tryz.isAgg161
  z51 := Tryz.sizeOf161
  v51 := Tryz.zeroValue161
  t53 := Tryz.underlying163
  a53 := Tryz.isAgg163
  z53 := Tryz.sizeOf163
  v53 := Tryz.zeroValue163
  t131 := Tryz.underlying119
  a131 := Tryz.isAgg119
  z131 := Tryz.sizeOf119
  v131 := Tryz.zeroValue119
  t182 := Tryz.underlying153
  a182 := Tryz.isAgg153
  z182 := Tryz.sizeOf153
  v182 := Tryz.zeroValue153
  t183 := Tryz.underlying154
  a183 := Tryz.isAgg154
  z183 := Tryz.sizeOf154
  v183 := Tryz.zeroValue154
  t218 := Tryz.underlying189
  a218 := Tryz.isAgg189
  z218 := Tryz.sizeOf189
  v218 := Tryz.zeroValue189
  t222 := Tryz.underlying69
  a222 := Tryz.isAgg69
  z222 := Tryz.sizeOf69
  v222 := Tryz.zeroValue69
  t228 := Tryz.underlying205
  a228 := Tryz.isAgg205
  z228 := Tryz.sizeOf205
  v228 := Tryz.zeroValue205
  t229 := Tryz.underlying206
  a229 := Tryz.isAgg206
  z229 := Tryz.sizeOf206
  v229 := Tryz.zeroValue206 }
open Go.Sort Go.RowKit in
theorem Tryz.slices_Sort_string (blk off cap : Nat) (ss : List (List UInt8)) (w : World) (hH : Holds encStr w blk off ss.toArray) (hblk : blk < w.heap.size) (hsz : ss.length < 4611686018427387904) :
    Calls Tryz.prog 55 #[.slice (some ⟨blk, off, none⟩) ss.length cap] w fun e w' =>
      e = .returned (.tuple #[]) ∧ ∃ n os, w' = grow (putRow encStr (Sort.ahead w n) blk off (ss.mergeSort fun x y => decide (x ≤ y)).toArray) os := Any.slices_Sort_string Tryz.lays190 blk off cap ss w hH hblk hsz
def Tryz.lays110_ren : Go.Shelf.Ren := ⟨fun | 110 => 60 | 109 => 98 | n => n, fun | 31 => 36 | 9 => 9 | 4 => 4 | 3 => 3 | 0 => 0 | n => n, fun | n => n⟩
theorem Tryz.lays110 : Go.Proofs.Lays.n110 Tryz.prog Tryz.lays110_ren := {
  mixed := by kernel_rfl
  f109 := Tryz.func98.trans (congrArg some (by kernel_rfl))
  f110 := Tryz.func60.trans (congrArg some (by kernel_rfl))
  t0 := Tryz.underlying0
  a0 := Tryz.isAgg0
  z0 := Tryz.sizeOf0
  v0 := Tryz.zeroValue0
  t3 := Tryz.underlying3
  a3 := Tryz.isAgg3
  z3 := Tryz.sizeOf3
  v3 := Tryz.zeroValue3
  t4 := Tryz.underlying4
  a4 := Tryz.isAgg4
  z4 := Tryz.sizeOf4
  v4 := Tryz.zeroValue4
  t9 := Tryz.underlying9
  a9 := Tryz.isAgg9
  z9 := Tryz.sizeOf9
  v9 := Tryz.zeroValue9
  t31 := Tryz.underlying36
  a31 := Tryz.isAgg36
  z31 := Tryz.sizeOf36
  v31 := Tryz.zeroValue36 }
open Go.Lib in
theorem Tryz.slices_Contains_string (b off n c : Nat) (zs : List ByteArray) (x : ByteArray) (w : World) (hz : n ≤ zs.length) (hbig : n ≤ 9223372036854775807) (hc : ∀ j, j < zs.length → w.cell? ⟨b, off + j, none⟩ = some (.string (zs.getD j ByteArray.empty))) :
    Calls Tryz.prog 60 #[.slice (some ⟨b, off, none⟩) n c, .string x] w fun e w' => e = .returned (.bool (Lib.containsS (zs.take n) x)) ∧ w' = w := Any.slices_Contains_string Tryz.lays110 b off n c zs x w hz hbig hc
open Go.Lib in
theorem Tryz.slices_Contains_string_empty (a : Option Addr) (c : Nat) (x : ByteArray) (w : World) :
    Calls Tryz.prog 60 #[.slice a 0 c, .string x] w fun e w' => e = .returned (.bool false) ∧ w' = w := Any.slices_Contains_string_empty Tryz.lays110 a c x w
def Tryz.lays194_ren : Go.Shelf.Ren := ⟨fun | 194 => 56 | n => n, fun | 31 => 36 | 9 => 9 | 3 => 3 | 4 => 4 | 0 => 0 | n => n, fun | n => n⟩
theorem Tryz.lays194 : Go.Proofs.Lays.n194 Tryz.prog Tryz.lays194_ren := {
  mixed := by kernel_rfl
  f194 := Tryz.func56.trans (congrArg some (by kernel_rfl))
  t0 := Tryz.underlying0
  a0 := Tryz.isAgg0
  z0 := Tryz.sizeOf0
  v0 := Tryz.zeroValue0
  t3 := Tryz.underlying3
  a3 := Tryz.isAgg3
  z3 := Tryz.sizeOf3
  v3 := Tryz.zeroValue3
  t4 := Tryz.underlying4
  a4 := Tryz.isAgg4
  z4 := Tryz.sizeOf4
  v4 := Tryz.zeroValue4
  t9 := Tryz.underlying9
  a9 := Tryz.isAgg9
  z9 := Tryz.sizeOf9
  v9 := Tryz.zeroValue9
  t31 := Tryz.underlying36
  a31 := Tryz.isAgg36
  z31 := Tryz.sizeOf36
  v31 := Tryz.zeroValue36 }
open Go.RowKit Go.Lib Go.Sort in
theorem Tryz.slices_Compact_string (blk off cap : Nat) (zs : List (List UInt8)) (w : World) (hH : Holds encStr w blk off zs.toArray) (hsz : zs.length ≤ 9223372036854775807) (hcap : zs.length ≤ cap) :
    Calls Tryz.prog 56 #[.slice (some ⟨blk, off, none⟩) zs.length cap] w fun e w' => e = .returned (.slice (some ⟨blk, off, none⟩) (Lib.compact zs).length cap) ∧ ∃ q, w' = putRow encStr (Sort.ahead w q) blk off (Lib.compact zs ++ List.replicate (zs.length - (Lib.compact zs).length) []).toArray := Any.slices_Compact_string Tryz.lays194 blk off cap zs w hH hsz hcap
open Go.RowKit Go.Lib Go.Sort in
theorem Tryz.slices_Compact_string_empty (a : Option Addr) (cap : Nat) (w : World) :
    Calls Tryz.prog 56 #[.slice a 0 cap] w fun e w' => e = .returned (.slice a 0 cap) ∧ w' = w := Any.slices_Compact_string_empty Tryz.lays194 a cap w
open Go.RowKit Go.Sort in
theorem Tryz.slices_Sort_string_none (p : Option Addr) (cap : Nat) (w : World) :
    Calls Tryz.prog 55 #[.slice p 0 cap] w fun e w' => e = .returned (.tuple #[]) ∧ w' = w := Any.slices_Sort_string_none Tryz.lays190 p cap w
end Go.Proofs
namespace Go.Proofs.YtfijbadahkmhbaaGreatDoor
open Go Go.RowKit Go.Sort Go.Via
def sortL (l : List Bs8) : List Bs8 := l.mergeSort fun x y => decide (x ≤ y)
theorem SBk_holds {B : Bs} {w : World} {L : List Blk} (h : LRel B L w) {k g n : Nat} {l : List Bs8} (hk : L[k]? = some (SBk (some g) l n)) (hn0 : n ≠ 0) : Holds encStr w g 0 l.toArray := fun j hj => by
  have hj' : j < l.length := by simpa using hj
  have h1 := h.strs (pre := []) (s := l[j]) (k := k) hk (List.getElem?_eq_getElem hj')
  refine ⟨?_, h.loose hk rfl rfl hn0 _⟩
  rw [getElem!_pos l.toArray j hj]
  exact h1
theorem c_Sort (b : Option Nat) (l : List Bs8) (n cap : Nat) (hl : l.length ≤ 1000000) (hn : l.length ≤ n) : ECall Tryz.prog 55 [SBk b l n] [slv b 0 l.length cap] Unit (fun _ => .tuple #[]) (fun _ => [SBk b (sortL l) n]) := by
  refine ⟨by kernel_rfl, fun B w hD hL => ?_⟩
  by_cases h0 : l = []
  · subst h0
    have h1 := Tryz.slices_Sort_string_none (b.map fun g => ⟨g, 0, none⟩) cap w
    refine Calls.mono h1 ?_
    rintro e w' ⟨rfl, rfl⟩
    have e0 : sortL [] = [] := by simp [sortL]
    refine ⟨(), rfl, ?_⟩
    show LRel B [SBk b (sortL []) n] _
    rw [e0]
    exact hL
  · cases b with
    | none =>
      have h2 := ((hL.blk 0 _ rfl).2 rfl).1
      exact absurd (List.eq_nil_of_length_eq_zero (by have := congrArg List.length h2; rwa [SB_length] at this)) h0
    | some g =>
      have hn0 : n ≠ 0 := by have := List.length_pos_iff.2 h0; omega
      have h1 := Tryz.slices_Sort_string g 0 cap l w (SBk_holds (k := 0) hL rfl hn0) (hL.lt (k := 0) rfl rfl) (by omega)
      refine Calls.mono h1 ?_
      rintro e w' ⟨rfl, m, os, rfl⟩
      exact ⟨(), rfl, hL.putRow (k := 0) rfl (by unfold sortL; rw [List.length_mergeSort]; exact hn) hn0⟩
theorem compact_le (l : List Bs8) : (Lib.compact l).length ≤ l.length := by
  unfold Lib.compact Lib.compactUpTo
  rw [List.length_map]
  exact Nat.le_trans (List.length_filter_le _ _) (by simp)
theorem c_Compact (b : Option Nat) (l : List Bs8) (n cap : Nat) (hl : l.length ≤ 1000000) (hn : cap ≤ n) (hcap : l.length ≤ cap) : ECall Tryz.prog 56 [SBk b l n] [slv b 0 l.length cap] Unit (fun _ => slv b 0 (Lib.compact l).length cap) (fun _ => [SBk b (Lib.compact l) n]) := by
  refine ⟨by kernel_rfl, fun B w hD hL => ?_⟩
  by_cases h0 : l = []
  · subst h0
    have h1 := Tryz.slices_Compact_string_empty (b.map fun g => ⟨g, 0, none⟩) cap w
    refine Calls.mono h1 ?_
    rintro e w' ⟨rfl, rfl⟩
    exact ⟨(), rfl, hL⟩
  · cases b with
    | none =>
      have h2 := ((hL.blk 0 _ rfl).2 rfl).1
      exact absurd (List.eq_nil_of_length_eq_zero (by have := congrArg List.length h2; rwa [SB_length] at this)) h0
    | some g =>
      have hn0 : n ≠ 0 := by have := List.length_pos_iff.2 h0; omega
      have h1 := Tryz.slices_Compact_string g 0 cap l w (SBk_holds (k := 0) hL rfl hn0) (by omega) hcap
      refine Calls.mono h1 ?_
      rintro e w' ⟨rfl, m, rfl⟩
      refine ⟨(), rfl, ?_⟩
      have hc := compact_le l
      have h2 := hL.putRow (k := 0) (m := m) (os := #[]) (l' := Lib.compact l ++ List.replicate (l.length - (Lib.compact l).length) []) rfl (by rw [List.length_append, List.length_replicate]; omega) hn0
      rw [grow_empty] at h2
      exact h2.picks [some 0] ⟨⟨_, rfl, ⟨rfl, rfl, rfl, ⟨(Lib.compact l).length, by
        show SB (Lib.compact l) = List.take _ (SB (_ ++ _))
        rw [SB_append]; exact (List.take_left' (SB_length _)).symm⟩, id⟩⟩, trivial⟩ rfl rfl
abbrev VBk (b : Option Nat) (e : Nat) (pre : List Value) (l : List Bs8) (n : Nat) : Blk := ⟨b, e, pre ++ SB l, n, false⟩
theorem c_Contains (b : Option Nat) (e : Nat) (pre : List Value) (l : List Bs8) (n cap : Nat) (hl : l.length ≤ 1000000) (s : Bs8) :
    SCall Tryz.prog 60 [VBk b e pre l n] [.slice (b.map fun g => ⟨g, pre.length, none⟩) l.length cap, .string (strU s)] Unit (fun _ => .bool (l.contains s)) (fun _ => []) := by
  refine ⟨by kernel_rfl, fun w hL => ?_⟩
  by_cases h0 : l = []
  · subst h0
    have h1 := Tryz.slices_Contains_string_empty (b.map fun g => ⟨g, pre.length, none⟩) cap (strU s) w
    refine Calls.mono h1 ?_
    rintro e w' ⟨rfl, rfl⟩
    exact ⟨(), rfl, hL.picks [] trivial rfl rfl⟩
  · cases b with
    | none =>
      have h2 := ((hL.blk 0 _ rfl).2 rfl).1
      have h3 := congrArg List.length h2
      rw [List.length_append, SB_length] at h3
      exact absurd (List.eq_nil_of_length_eq_zero (by simp at h3; simp [h3.2])) h0
    | some g =>
      have h1 := Tryz.slices_Contains_string g pre.length l.length cap (l.map strU) (strU s) w (by simp) (by omega) (fun j hj => by
        have hj' : j < l.length := by simpa using hj
        rw [hL.strs (k := 0) (s := l[j]) rfl (List.getElem?_eq_getElem hj')]
        rw [List.getD_eq_getElem?_getD, List.getElem?_map, List.getElem?_eq_getElem hj']
        rfl)
      refine Calls.mono h1 ?_
      rintro e w' ⟨rfl, rfl⟩
      refine ⟨(), ?_, hL.picks [] trivial rfl rfl⟩
      have h5 : Lib.containsS ((l.map strU).take l.length) (strU s) = l.contains s := by
        rw [Bool.eq_iff_iff, Lib.containsS_iff, List.take_of_length_le (by simp), List.mem_map, List.contains_iff_mem]
        constructor
        · rintro ⟨a, ha, hb⟩
          rw [← strU_inj hb]; exact ha
        · exact fun h => ⟨s, h, rfl⟩
      rw [h5]
end Go.Proofs.YtfijbadahkmhbaaGreatDoor
namespace Go.Proofs.YtfijbadahkmhbaaGreatDoor
open Go Go.RowKit Go.Via
def EachN (fn : Nat) (stp : XT → Nat → Nat → Nat) (gv : Nat) (y : XT) : Prop := ∀ (u : XR y) (lv n : Nat), max n lv + y.size ≤ 1099511627776 →
  ECall Tryz.prog 51 [VN gv n, gB u.T false] [u.v, .int .i64 (lv : Nat), .func (.func fn) #[] #[.pointer (some ⟨gv, 0, none⟩)]] Unit (fun _ => .tuple #[]) (fun _ => [VN gv (foldN stp y lv n)])
end Go.Proofs.YtfijbadahkmhbaaGreatDoor
set_option maxHeartbeats 20000000
namespace Go.Proofs.YtfijbadahkmhbaaGreatDoor
open Go Go.RowKit Go.Via
set_option maxRecDepth 20000 in
theorem c_each_step {x : XT} (z : XR x) (fn : Nat) (stp : XT → Nat → Nat → Nat) (hst : ∀ y lv n, stp y lv n ≤ max n lv + 1) (gv : Nat) (hf : ∀ {y : XT} (u : XR y) (lv n : Nat), lv ≤ 1099511627776 → n ≤ 1099511627776 → ECall Tryz.prog fn [VN gv n] [u.v, .int .i64 (lv : Nat), .pointer (some ⟨gv, 0, none⟩)] Unit (fun _ => .tuple #[]) (fun _ => [VN gv (stp y lv n)])) (H : ∀ y : XT, y.size < x.size → EachN fn stp gv y) (lv n : Nat) (hM : max n lv + x.size ≤ 1099511627776) : ECall Tryz.prog 51 [VN gv n, gB z.T false] [z.v, .int .i64 (lv : Nat), .func (.func fn) #[] #[.pointer (some ⟨gv, 0, none⟩)]] Unit (fun _ => .tuple #[]) (fun _ => [VN gv (foldN stp x lv n)]) := by
 refine ⟨by kernel_rfl, fun B w hD hL0 => ?_⟩;obtain ⟨h1, h2, h3, h4, h5, h6⟩ := z.inv;have hsz := x.size_eq;have hal := XT.len_sizes x.args;have hst1 := hst x lv n;refine cB3 25 Tryz.func51 hL0 ?_;refine A2 ?_;refine Bo [_, _, _, _, _, _, _] 7 (fun g => [_, _, ⟨some g, 30, _, 7, true⟩]) (fun g0 => ?_);refine A3 ?_;refine at_regionM ?_;refine A1 ?_;refine r_load 2 0 [_, _, _, _, _, _, _] rfl rfl rfl rfl ti30 rfl rfl rfl rfl ?_;refine r_know 9 (z.v) rfl rfl ?_;refine A1 ?_;refine r_gfcallM (f := fn) (A := [VN gv n]) (C := []) [z.v, .int .i64 (lv : Nat)] [.pointer (some ⟨gv, 0, none⟩)] [0] [] (fun _ => [VN gv (stp x lv n), _, _]) rfl rfl rfl rfl rfl (hf z lv n (by omega) (by omega)) (by decide) rfl rfl trivial rfl rfl (fun _ => rfl) (fun _ => allOwn rfl) (fun _ => rfl) (fun _ => ?_);refine A11 ?_;refine El (ι := {q : Nat × Nat // q.1 ≤ x.args.length ∧ foldsN stp x.args (lv + 1) (stp x lv n) = foldsN stp (x.args.drop q.1) (lv + 1) q.2 ∧ max q.2 (lv + 1) + XT.sizes (x.args.drop q.1) ≤ 1099511627776}) (fun ⟨⟨i, m⟩, hi, hI, hB⟩ => ([(1, .int .i64 (lv : Nat)), (2, .func (.func fn) #[] #[.pointer (some ⟨gv, 0, none⟩)]), (13, .slice z.a z.n z.cap), (14, .int .i64 (z.n : Nat)), (15, .int .i64 (i : Nat))], [VN gv m, gB z.T false], x.args.length - i)) ⟨(0, stp x lv n), Nat.zero_le _, rfl, by show max (stp x lv n) (lv + 1) + XT.sizes x.args ≤ _; omega⟩ ?_ (hL := Weak.auto);rintro ⟨⟨i, m⟩, hi, hI, hB⟩;(try dsimp only);dsimp only at hi hI hB;refine A6 ?_;refine at_cond rfl (fun hb1 => ?_) (fun hb1 => ?_)
 ·
  have hlt : i < x.args.length := by have := of_decide_eq_true hb1; omega
  obtain ⟨y, hy⟩ : ∃ y, x.args[i]? = some y := ⟨x.args[i], List.getElem?_eq_getElem hlt⟩
  obtain ⟨ga, oa, ca, u, hza, hma, hra, hTa, hna⟩ := z.arg hy;have hsd := XT.sizes_drop hy;refine A6 ?_;refine r_indexAddrG (gg := ga) (len := z.n) (cap := z.cap) (oa + i * 7) u28 ti30 rfl rfl (congrArg (fun a => some (Value.slice a z.n z.cap)) hza) rfl (by omega) (by omega) (by show oa + Int.toNat _ * 7 = _; omega) ?_;refine r_loadT (v := u.v) 1 (oa + i * 7) u.cs rfl rfl rfl z.hT hma hna rfl ti30 hra rfl rfl rfl ?_;refine r_alloc [_, _, _, _, _, _, _] 7 (fun g => [_, _, ⟨some g, 30, _, 7, true⟩]) rfl rfl z30 rfl rfl (fun _ => rfl) (fun g1 => ?_);refine So 2 0 [_, _, ⟨some g1, 30, _, 7, true⟩] [_, _, _, _, _, _, _] ?_;refine A2 ?_;refine at_regionM ?_;refine r_load 2 0 [_, _, _, _, _, _, _] rfl rfl rfl rfl ti30 rfl rfl rfl rfl ?_;refine r_know 19 (u.v) rfl rfl ?_;refine A1 ?_;refine Ar (((lv + 1 : Nat) : Int)) ?_;refine A1 ?_;refine Gm 1 [0] [1] (fun _ => [VN gv (foldN stp y (lv + 1) m), _, _]) (by have h := H y (XT.arg_lt hy) u (lv + 1) m (by omega); rw [hTa] at h; exact h) (fun _ => ?_);refine A4 ?_;refine Ar (((i + 1 : Nat) : Int)) ?_;refine A3 ?_;exact Nl ⟨(i + 1, foldN stp y (lv + 1) m), hlt, by rw [hI, foldsN_step stp hy], by have := foldN_le stp hst y (lv + 1) m; show max (foldN stp y (lv + 1) m) (lv + 1) + XT.sizes (x.args.drop (i + 1)) ≤ _; omega⟩ (hL := Weak.auto)
 ·
  have hge : i = x.args.length := by have := of_decide_eq_false hb1; omega
  refine A4 ?_
  refine at_end0n rfl  (fun w hL => by
  have e : foldN stp x lv n = m := by rw [foldN_eq, hI, hge, List.drop_length, foldsN]
  rw [e]
  exact ⟨(), rfl, hL.pk [some 0]⟩)
set_option maxRecDepth 20000 in
theorem c_Size_1 {x : XT} (z : XR x) (lv n gv : Nat) (hlv : lv ≤ 1099511627776) (hn : n ≤ 1099511627776) : ECall Tryz.prog 52 [VN gv n] [z.v, .int .i64 (lv : Nat), .pointer (some ⟨gv, 0, none⟩)] Unit (fun _ => .tuple #[]) (fun _ => [VN gv (n + 1)]) := by
 refine ⟨by kernel_rfl, fun B w hD hL0 => ?_⟩;refine cB3 7 Tryz.func52 hL0 ?_;refine A2 ?_;refine Bo [_, _, _, _, _, _, _] 7 (fun g => [_, ⟨some g, 30, _, 7, true⟩]) (fun g0 => ?_);refine A4 ?_;refine Ar (((n + 1 : Nat) : Int)) ?_;refine So 0 0 [⟨some gv, 3, _, 1, true⟩, _] [_] ?_;refine A1 ?_
 refine at_end0n rfl  (fun w hL => ⟨(), rfl, hL.pk [some 0]⟩)
set_option maxRecDepth 20000 in
theorem c_Depth_1 {x : XT} (z : XR x) (lv n gv : Nat) (hlv : lv ≤ 1099511627776) (hn : n ≤ 1099511627776) : ECall Tryz.prog 53 [VN gv n] [z.v, .int .i64 (lv : Nat), .pointer (some ⟨gv, 0, none⟩)] Unit (fun _ => .tuple #[]) (fun _ => [VN gv (max n lv)]) := by
 refine ⟨by kernel_rfl, fun B w hD hL0 => ?_⟩;refine cB3 8 Tryz.func53 hL0 ?_;refine A2 ?_;refine Bo [_, _, _, _, _, _, _] 7 (fun g => [_, ⟨some g, 30, _, 7, true⟩]) (fun g0 => ?_);refine A5 ?_;refine r_maxI rfl rfl rfl rfl ?_;refine r_know 7 (.int .i64 (max n lv : Nat)) rfl (congrArg (Value.int .i64) (by omega)) ?_;refine So 0 0 [⟨some gv, 3, _, 1, true⟩, _] [_] ?_;refine A1 ?_
 refine at_end0n rfl  (fun w hL => ⟨(), rfl, hL.pk [some 0]⟩)
end Go.Proofs.YtfijbadahkmhbaaGreatDoor
namespace Go.Proofs.YtfijbadahkmhbaaGreatDoor
open Go Go.RowKit Go.Via
theorem c_each (fn : Nat) (stp : XT → Nat → Nat → Nat) (hst : ∀ y lv n, stp y lv n ≤ max n lv + 1) (gv : Nat) (hf : ∀ {y : XT} (u : XR y) (lv n : Nat), lv ≤ 1099511627776 → n ≤ 1099511627776 → ECall Tryz.prog fn [VN gv n] [u.v, .int .i64 (lv : Nat), .pointer (some ⟨gv, 0, none⟩)] Unit (fun _ => .tuple #[]) (fun _ => [VN gv (stp y lv n)])) (x : XT) : EachN fn stp gv x := by
  suffices h : ∀ k : Nat, ∀ x : XT, x.size < k → EachN fn stp gv x from h _ x (Nat.lt_succ_self _)
  intro k
  induction k with
  | zero => intro x h; omega
  | succ k ih => exact fun x hx u lv n hM => c_each_step u fn stp hst gv hf (fun y hy => ih y (by omega)) lv n hM
end Go.Proofs.YtfijbadahkmhbaaGreatDoor
namespace Go.Via
open Go Go.RowKit
theorem at_weakL {B : Bs} {nt : Nat} {t : List (Nat × Value)} {L L' : List Blk} {Q : Act → World → Prop} (h : Weak L L') (k : At B ⟨nt, t, L'⟩ Q) : At B ⟨nt, t, L⟩ Q := fun a w hr => k a w ⟨hr.df, hr.size, hr.tmp, h _ _ hr.mem⟩
def SRw.zero : SRw [] := ⟨none, 0, 0, Nat.le_refl _, Nat.le_refl _⟩
theorem SRw.add_blk {l : List Bs8} (x : Bs8) (r : AR (l.length + 1) 1) (s : SRw l) (gv : Nat) {M : List Blk} {B : Bs} {w : World}
    (h : LRel B ([⟨some gv, 36, [slv (some r.g) 0 (l.length + 1) r.cap], 1, true⟩, ⟨some r.g, 9, SB l ++ [.string (strU x)], r.n, true⟩] ++ M) w) : LRel B [VV gv (SRw.add x r), VR (SRw.add x r)] w := by
  have h1 := LRel.take h
  show LRel B [⟨some gv, 36, [slv (some r.g) 0 (l ++ [x]).length r.cap], 1, true⟩, ⟨some r.g, 9, SB (l ++ [x]), r.n, true⟩] w
  rw [SB_append, List.length_append]
  exact h1
end Go.Via
namespace Go.Proofs.YtfijbadahkmhbaaGreatDoor
open Go Go.RowKit Go.Via
def EachV (gv : Nat) (y : XT) : Prop := ∀ (u : XR y) (lv : Nat) (l : List Bs8) (s : SRw l), l.length + y.size ≤ 1000000000 → lv + y.size ≤ 1099511627776 →
  ECall Tryz.prog 51 [VV gv s, VR s, gB u.T false] [u.v, .int .i64 (lv : Nat), .func (.func 54) #[] #[.pointer (some ⟨gv, 0, none⟩)]] (SRw (l ++ varsL y)) (fun _ => .tuple #[]) (fun s1 => [VV gv s1, VR s1])
def varsU (x : XT) : List Bs8 := Lib.compact (sortL (varsL x))
theorem sortL_len (l : List Bs8) : (sortL l).length = l.length := by unfold sortL; rw [List.length_mergeSort]
end Go.Proofs.YtfijbadahkmhbaaGreatDoor
namespace Go.Via
open Go Go.RowKit
def dchar (n : Nat) : UInt8 := UInt8.ofNat (48 + n % 10)
theorem dchar_nat (n : Nat) : (dchar n).toNat = 48 + n % 10 := by
  unfold dchar
  rw [UInt8.toNat_ofNat']
  omega
theorem dchar_zero {n : Nat} : dchar n = 48 ↔ n % 10 = 0 := by
  rw [← UInt8.toNat_inj, dchar_nat]
  show 48 + n % 10 = 48 ↔ _
  omega
def ldig : Nat → Nat → Bs8
  | 0, _ => []
  | k + 1, n => dchar n :: ldig k (n / 10)
theorem ldig_len : ∀ (k n : Nat), (ldig k n).length = k
  | 0, _ => rfl
  | k + 1, n => by rw [ldig, List.length_cons, ldig_len]
theorem ldig_add : ∀ (a b n : Nat), ldig (a + b) n = ldig a n ++ ldig b (n / 10 ^ a)
  | 0, b, n => by simp [ldig]
  | a + 1, b, n => by
    rw [show a + 1 + b = (a + b) + 1 by omega, ldig, ldig, ldig_add a b, List.cons_append, Nat.div_div_eq_div_mul, Nat.pow_succ, Nat.mul_comm (10 ^ a) 10]
theorem ldig_snoc (k n : Nat) : ldig (k + 1) n = ldig k n ++ [dchar (n / 10 ^ k)] := by
  rw [ldig_add]; rfl
theorem ldig_mod : ∀ (k n : Nat), ldig k (n % 10 ^ k) = ldig k n
  | 0, n => rfl
  | k + 1, n => by
    rw [ldig, ldig, ← ldig_mod k (n / 10)]
    have h1 : n % 10 ^ (k + 1) / 10 = n / 10 % 10 ^ k := by
      rw [Nat.pow_succ, Nat.mul_comm, Nat.mod_mul_right_div_self]
    have h2 : n % 10 ^ (k + 1) % 10 = n % 10 := by
      rw [Nat.pow_succ, Nat.mul_comm, Nat.mod_mul_right_mod]
    rw [h1]
    congr 1
    unfold dchar
    rw [h2]
def stripT : Bs8 → Bs8
  | [] => []
  | d :: l => match stripT l with
    | [] => if d = 48 then [] else [d]
    | x :: m => d :: x :: m
theorem stripT_zero : ∀ l : Bs8, stripT (l ++ [48]) = stripT l
  | [] => rfl
  | d :: l => by
    rw [List.cons_append, stripT, stripT, stripT_zero l]
theorem stripT_full {c : UInt8} (h : c ≠ 48) : ∀ l : Bs8, stripT (l ++ [c]) = l ++ [c]
  | [] => by simp [stripT, h]
  | d :: l => by
    rw [List.cons_append, stripT, stripT_full h l]
    cases l <;> rfl
def decR : Nat → Nat → Bs8
  | 0, _ => []
  | f + 1, n => if n = 0 then [] else dchar n :: decR f (n / 10)
theorem decR_nil {f n : Nat} (h : n < 10 ^ f) : decR f n = [] ↔ n = 0 := by
  cases f with
  | zero => simp [decR]; simpa using h
  | succ f =>
    rw [decR]
    by_cases h0 : n = 0
    · simp [h0]
    · simp [h0]
theorem decR_eq : ∀ (f g n : Nat), n < 10 ^ f → n < 10 ^ g → decR f n = decR g n
  | 0, g, n, h, h' => by
    have : n = 0 := by simpa using h
    subst this
    cases g <;> simp [decR]
  | f + 1, 0, n, h, h' => by
    have : n = 0 := by simpa using h'
    subst this
    simp [decR]
  | f + 1, g + 1, n, h, h' => by
    rw [decR, decR]
    split
    · rfl
    · rw [decR_eq f g (n / 10) (by rw [Nat.pow_succ] at h; omega) (by rw [Nat.pow_succ] at h'; omega)]
theorem stripT_ldig : ∀ (K n : Nat), n < 10 ^ K → stripT (ldig K n) = decR K n
  | 0, n, h => rfl
  | K + 1, n, h => by
    have h1 : n / 10 < 10 ^ K := by rw [Nat.pow_succ] at h; omega
    rw [ldig, stripT, stripT_ldig K (n / 10) h1, decR]
    cases hq : decR K (n / 10) with
    | nil =>
      have h2 := (decR_nil h1).1 hq
      by_cases h0 : n = 0
      · subst h0; rfl
      · rw [if_neg h0]
        dsimp only
        rw [if_neg (fun e => by have := dchar_zero.1 e; omega)]
    | cons x m =>
      have h0 : n ≠ 0 := fun e => by
        rw [(decR_nil h1).2 (by rw [e])] at hq
        cases hq
      rw [if_neg h0]
theorem lt_pow10 (n : Nat) : n < 10 ^ n := Nat.lt_pow_self (by decide)
def decS (n : Nat) : Bs8 := if n = 0 then [48] else (decR n n).reverse
def intS (z : Int) : Bs8 := if z < 0 then 45 :: decS z.natAbs else decS z.natAbs
def ratS (q : Rat) : Bs8 := if q.den = 1 then intS q.num else intS q.num ++ 47 :: intS (q.den : Int)
theorem strip_decS {K n : Nat} (h : n < 10 ^ K) (h0 : n ≠ 0) : (stripT (ldig K n)).reverse = decS n := by
  unfold decS
  rw [if_neg h0, stripT_ldig K n h, decR_eq K n n h (lt_pow10 n)]
def RevI (l c : Bs8) (i : Nat) : Prop := c.length = l.length ∧ ∀ j, j < l.length → c[j]? = if j < i ∨ l.length - 1 - i < j then l[l.length - 1 - j]? else l[j]?
theorem RevI.zero (l : Bs8) : RevI l l 0 := ⟨rfl, fun j hj => by rw [if_neg (by omega)]⟩
theorem RevI.done {l c : Bs8} {i : Nat} (h : RevI l c i) (hi : l.length ≤ 2 * i + 1) : c = l.reverse := by
  apply List.ext_getElem?
  intro j
  by_cases hj : j < l.length
  · rw [h.2 j hj, List.getElem?_reverse hj]
    by_cases hc : j < i ∨ l.length - 1 - i < j
    · rw [if_pos hc]
    · rw [if_neg hc]
      congr 1
      omega
  · rw [List.getElem?_eq_none (by rw [h.1]; omega), List.getElem?_eq_none (by simp; omega)]
theorem RevI.step {l c : Bs8} {i : Nat} {a b : UInt8} (h : RevI l c i) (hi : 2 * i + 1 < l.length) (ha : c[i]? = some a) (hb : c[l.length - 1 - i]? = some b) : RevI l ((c.set i b).set (l.length - 1 - i) a) (i + 1) := by
  refine ⟨by simp [h.1], fun j hj => ?_⟩
  have e1 := h.2 i (by omega)
  have e2 := h.2 (l.length - 1 - i) (by omega)
  rw [if_neg (by omega)] at e1 e2
  rw [ha] at e1
  rw [hb] at e2
  by_cases h1 : j = l.length - 1 - i
  · subst h1
    rw [List.getElem?_set_self (by simp [h.1]; omega), if_pos (by omega)]
    rw [e1]; congr 1; omega
  · rw [List.getElem?_set_ne (fun e => h1 e.symm)]
    by_cases h2 : j = i
    · subst h2
      rw [List.getElem?_set_self (by rw [h.1]; omega), if_pos (by omega), e2]
    · rw [List.getElem?_set_ne (fun e => h2 e.symm), h.2 j hj]
      by_cases hc : j < i ∨ l.length - 1 - i < j
      · rw [if_pos hc, if_pos (by omega)]
      · rw [if_neg hc, if_neg (by omega)]
theorem NB_get {l : Bs8} {i : Nat} {c : UInt8} (h : l[i]? = some c) : (NB l)[i]? = some (.int .u8 (c.toNat : Nat)) := by
  unfold NB; rw [List.getElem?_map, h]; rfl
theorem NB_set (l : Bs8) (i : Nat) (c : UInt8) : (NB l).set i (.int .u8 (c.toNat : Nat)) = NB (l.set i c) := by
  unfold NB; rw [List.map_set]
theorem NB_take (l : Bs8) (i : Nat) : (NB l).take i = NB (l.take i) := by
  unfold NB; rw [List.map_take]
theorem pw10_nb {N a : Nat} (h : 10 ^ a ≤ N) : a ≤ 3 * nb N := by
  rw [← Nat.not_lt]
  intro h2
  have h3 : N < 256 ^ nb N := lt_nb N
  have h4 : 256 ^ nb N ≤ 1000 ^ nb N := Nat.pow_le_pow_left (by decide) _
  have h5 : (1000 : Nat) ^ nb N = 10 ^ (3 * nb N) := by rw [Nat.pow_mul]
  have h6 : (10 : Nat) ^ (3 * nb N) ≤ 10 ^ a := Nat.pow_le_pow_right (by decide) (by omega)
  omega
theorem quo32 {x y : Int} (m n : Nat) (hx : x = (m : Int)) (hy : y = (n : Int)) (h : m / n < 4294967296) : IntKind.u32.wrap (x.tdiv y) = ((m / n : Nat) : Int) := by
  subst hx; subst hy; rw [← Int.ofNat_tdiv, IntKind.wrap_u32]; generalize m / n = q at *; omega
theorem decS_ne {n : Nat} (h : n ≠ 0) : decS n ≠ [] := by
  unfold decS
  rw [if_neg h]
  intro e
  have := List.reverse_eq_nil_iff.1 e
  exact h ((decR_nil (lt_pow10 n)).1 this)
structure PrS (N : Nat) where
  k : Nat
  cx : Nat
  b : Option Nat
  n : Nat
  cap : Nat
  hx : (digs B32 (N / 10 ^ (9 * k))).length ≤ cx
  h1 : 9 * k ≤ cap
  h2 : cap ≤ n
  hk : 9 * k ≤ 3 * nb N + 9
structure PrJ (K : Nat) where
  j : Nat
  b : Option Nat
  n : Nat
  cap : Nat
  hj : j ≤ 9
  h1 : K + j ≤ cap
  h2 : cap ≤ n
theorem pr_zero (N : Nat) : N / 10 ^ (9 * 0) = N := by simp
theorem pr_next (N k : Nat) : ldig (9 * k) N ++ ldig 9 (N / 10 ^ (9 * k) % 1000000000) = ldig (9 * (k + 1)) N := by
  rw [show (1000000000 : Nat) = 10 ^ 9 from rfl, ldig_mod, show 9 * (k + 1) = 9 * k + 9 by omega, ldig_add]
theorem pr_div (N k : Nat) : N / 10 ^ (9 * k) / 1000000000 = N / 10 ^ (9 * (k + 1)) := by
  rw [Nat.div_div_eq_div_mul, show 9 * (k + 1) = 9 * k + 9 by omega, Nat.pow_add]
theorem pr_row {N k : Nat} : NV .u32 (digs B32 (N / 10 ^ (9 * (k + 1)))) = (NV .u32 (row (digs B32 (N / 10 ^ (9 * k))).length (shoQ (N / 10 ^ (9 * k)) 1000000000))).take (digs B32 (N / 10 ^ (9 * (k + 1)))).length := by
  have h := trim_take B32_two (l := row (digs B32 (N / 10 ^ (9 * k))).length (shoQ (N / 10 ^ (9 * k)) 1000000000)) (row_lt fun j => B32_mod _)
  rw [shoQ_val, pr_div] at h
  rw [NV_take, h]
theorem at_some {B : Bs} {nt : Nat} {t : List (Nat × Value)} {L : List Blk} {Q : Act → World → Prop} (k : Nat) {b : Option Nat} {e n : Nat} {cs : List Value} {o : Bool} (hk : L[k]? = some ⟨b, e, cs, n, o⟩) (hcs : cs ≠ []) (h : b.isSome = true → At B ⟨nt, t, L⟩ Q) : At B ⟨nt, t, L⟩ Q := fun a w hr => h (by
  cases b with
  | none => exact absurd ((hr.mem.blk k _ hk).2 rfl).1 hcs
  | some g => rfl) a w hr
theorem strip_step {l : Bs8} {j : Nat} {c : UInt8} (h : l[j]? = some c) : l.take (j + 1) = l.take j ++ [c] := by rw [List.take_add_one, h]; rfl
theorem strN_NB (l : Bs8) : NB l = NV .u8 (l.map UInt8.toNat) := by
  unfold NB NV
  rw [List.map_map]; rfl
theorem strN_U (l : Bs8) : strN (l.map UInt8.toNat) = strU l := by
  unfold strN strU
  rw [List.map_map]
  congr 2
  rw [show (UInt8.ofNat ∘ UInt8.toNat) = id from funext fun x => by simp]
  simp
end Go.Via
set_option maxHeartbeats 20000000
namespace Go.Proofs.YtfijbadahkmhbaaGreatDoor
open Go Go.RowKit Go.Via
set_option maxRecDepth 20000 in
theorem c_integer_Print (z : Int) (hz0 : szI z ≤ 1000000) : PCall Tryz.prog 102 #[I z] (.string (strU (intS z))) := by
 have hz1 : nb z.natAbs ≤ 1000000 := hz0;refine ⟨by kernel_rfl, fun w => ?_⟩;refine cB1 81 Tryz.func102 (LRel.nil w) ?_;refine A2 ?_;refine Bo [_, _] 2 (fun g => [⟨some g, 25, _, 2, true⟩]) (fun g0 => ?_);refine A11 ?_;refine at_cond rfl (fun hb0 => ?_) (fun hb0 => ?_)
 ·
  have hN0 : z.natAbs = 0 := by have hh := hb0; rw [beq_empty] at hh; exact of_decide_eq_true hh
  refine A7 ?_;refine at_end1 rfl (res_tmp rfl) (fun w hL => ⟨?_, hL.below⟩)
  have e : z = 0 := by omega
  subst e;exact rfl
 ·
  have hN0 : z.natAbs ≠ 0 := by have hh := hb0; rw [beq_empty] at hh; exact of_decide_eq_false hh
  have hdl := dig_len_le (n := z.natAbs) (Nat.le_refl _);refine A12 ?_;refine r_scall [.string (mag z.natAbs)] [] rfl rfl rfl (c_integer_digits z.natAbs (by omega)) trivial rfl (.inr fun _ b hb => by rw [List.mem_singleton.1 hb]) (fun g1 => ?_);refine A4 ?_;refine El (ι := PrS z.natAbs) (fun ⟨k, cx, b, n, cap, hx, h1, h2, hkk⟩ => ([(1, .pointer (some ⟨g0, 0, none⟩)), (3, slv b 0 (9 * k) cap), (4, slv (some g1) 0 (digs B32 (z.natAbs / 10 ^ (9 * k))).length cx)], [⟨some g0, 25, [.bool (decide (z < 0)), .string (mag z.natAbs)], 2, true⟩, ⟨some g1, 161, NV .u32 (digs B32 (z.natAbs / 10 ^ (9 * k))), (digs B32 z.natAbs).length, true⟩, ⟨b, 5, NB (ldig (9 * k) z.natAbs), n, true⟩], z.natAbs / 10 ^ (9 * k))) ⟨0, (digs B32 z.natAbs).length, none, 0, 0, by rw [pr_zero]; exact Nat.le_refl _, Nat.le_refl _, Nat.le_refl _, Nat.zero_le _⟩ ?_ (ht := ⟨rfl, rfl, (look_val rfl (by rw [pr_zero])), trivial⟩) (hL := (Weak.trans (Weak.nilB _ (by decide : 5 < mapMark)) (weak_picks [some 0, some 1, some 2] ⟨⟨_, rfl, Blk.le_refl _⟩, ⟨_, rfl, le_same (by rw [pr_zero])⟩, ⟨_, rfl, Blk.le_refl _⟩, trivial⟩ rfl rfl)));rintro ⟨k, cx, b, n, cap, hx, h1, h2, hkk⟩;(try dsimp only);refine A8 ?_;refine at_cond rfl (fun hb2 => ?_) (fun hb2 => ?_)
  ·
   have hm0 : z.natAbs / 10 ^ (9 * k) ≠ 0 := fun e => by have := of_decide_eq_true hb2; rw [e] at this; simp [digs] at this
   have hpk : 9 * k ≤ 3 * nb z.natAbs := pw10_nb (Nat.le_of_not_lt fun h => hm0 (Nat.div_eq_of_lt h));have hnm : nb (z.natAbs / 10 ^ (9 * k)) ≤ nb z.natAbs := nb_mono (Nat.div_le_self _ _);have hdm := dig_len_le (n := z.natAbs / 10 ^ (9 * k)) (Nat.le_refl _);refine A5 ?_;refine at_regionM ?_;refine A1 ?_;refine r_mcall [_, _] 1 [_, ⟨some g1, 161, NV .u32 (row (digs B32 (z.natAbs / 10 ^ (9 * k))).length (shoQ (z.natAbs / 10 ^ (9 * k)) 1000000000)), _, true⟩, _] rfl rfl rfl rfl (c_nat_short (z.natAbs / 10 ^ (9 * k)) 1000000000 (by omega) (by decide) (by decide) g1 _ cx) rfl rfl ?_;have hR9 : (z.natAbs / 10 ^ (9 * k) % 1000000000) < 1000000000 := Nat.mod_lt _ (by decide);refine A9 ?_;refine El (ι := PrJ (9 * k)) (fun ⟨j, b, n, cap, hj, h1, h2⟩ => ([(1, .pointer (some ⟨g0, 0, none⟩)), (3, slv b 0 (9 * k + j) cap), (4, slv (some g1) 0 (digs B32 (z.natAbs / 10 ^ (9 * k))).length cx), (5, .int .u32 ((z.natAbs / 10 ^ (9 * k) % 1000000000) / 10 ^ j : Nat)), (21, .int .i64 (j : Nat))], [⟨some g0, 25, [.bool (decide (z < 0)), .string (mag z.natAbs)], 2, true⟩, ⟨some g1, 161, NV .u32 (row (digs B32 (z.natAbs / 10 ^ (9 * k))).length (shoQ (z.natAbs / 10 ^ (9 * k)) 1000000000)), (digs B32 z.natAbs).length, true⟩, ⟨b, 5, NB (ldig (9 * k) z.natAbs ++ ldig j (z.natAbs / 10 ^ (9 * k) % 1000000000)), n, true⟩], 9 - j)) ⟨0, b, n, cap, by omega, h1, h2⟩ ?_ (ht := ⟨rfl, rfl, rfl, (look_val rfl (congrArg (fun n : Nat => Value.int .u32 (n : Int)) (by rw [Nat.pow_zero, Nat.div_one]))), rfl, trivial⟩) (hL := (weak_picks [some 0, some 1, some 2] ⟨⟨_, rfl, Blk.le_refl _⟩, ⟨_, rfl, Blk.le_refl _⟩, ⟨_, rfl, le_same (by rw [ldig, List.append_nil])⟩, trivial⟩ rfl rfl));rintro ⟨j, b, n, cap, hj, h1, h2⟩;(try dsimp only);refine A6 ?_;refine at_cond rfl (fun hb4 => ?_) (fun hb4 => ?_)
   ·
    have hlt : j < 9 := (by have := of_decide_eq_true hb4; omega)
    refine A7 ?_;refine r_div (r := (((z.natAbs / 10 ^ (9 * k) % 1000000000) / 10 ^ j % 10 : Nat) : Int)) rfl rfl rfl rfl (by omega) (congrArg some (rem_n _ _ rfl rfl)) ?_;refine r_arith (r := ((48 + (z.natAbs / 10 ^ (9 * k) % 1000000000) / 10 ^ j % 10 : Nat) : Int)) rfl rfl rfl rfl (congrArg some (by rw [IntKind.wrap_u32]; omega)) ?_;refine r_conv (r := ((dchar ((z.natAbs / 10 ^ (9 * k) % 1000000000) / 10 ^ j)).toNat : Int)) u161 u5 rfl rfl rfl (by rw [dchar_nat, IntKind.wrap_u8]; omega) ?_;refine r_buildSlice [(0, _)] (fun g => [_, _, _, ⟨some g, 5, _, 1, true⟩]) rfl rfl rfl (bs125_1) rfl (fun _ => rfl) (fun g1 => ?_);refine q_append (b := ⟨b, 5, NB (ldig (9 * k) z.natAbs ++ ldig j (z.natAbs / 10 ^ (9 * k) % 1000000000)), n, true⟩) (len := 9 * k + j) (cap := cap) (n2 := 1) 2 3 (fun r => [_, _, ⟨some r.g, 5, NB (ldig (9 * k) z.natAbs ++ ldig j (z.natAbs / 10 ^ (9 * k) % 1000000000)) ++ [.int .u8 ((dchar ((z.natAbs / 10 ^ (9 * k) % 1000000000) / 10 ^ j)).toNat : Nat)], r.n, true⟩, _]) u125 el5 rfl rfl rfl rfl rfl rfl rfl rfl rfl rfl rfl rfl (by rw [NB_length, List.length_append, ldig_len, ldig_len, Nat.mul_one]) h1 (by rw [Nat.mul_one]; exact h2) rfl (fun v hv => by rw [List.mem_singleton.1 hv]; rfl) (by omega) (fun r => rfl) (fun r => ?_);refine A1 ?_;refine r_div (r := (((z.natAbs / 10 ^ (9 * k) % 1000000000) / 10 ^ j / 10 : Nat) : Int)) rfl rfl rfl rfl (by omega) (congrArg some (quo32 ((z.natAbs / 10 ^ (9 * k) % 1000000000) / 10 ^ j) 10 rfl rfl (Nat.lt_of_le_of_lt (Nat.div_le_self _ _) (Nat.lt_of_le_of_lt (Nat.div_le_self _ _) (Nat.lt_trans hR9 (by decide)))))) ?_;refine A6 ?_;refine Ar (((j + 1 : Nat) : Int)) ?_;refine A3 ?_;exact Nl ⟨j + 1, some r.g, r.n, r.cap, hlt, r.h, by have := r.hn; omega⟩ (ht := ⟨rfl, rfl, rfl, (look_val rfl (congrArg (fun n : Nat => Value.int .u32 (n : Int)) (by rw [Nat.div_div_eq_div_mul, ← Nat.pow_succ]))), rfl, trivial⟩) (hL := (weak_picks [some 0, some 1, some 2] ⟨⟨_, rfl, Blk.le_refl _⟩, ⟨_, rfl, Blk.le_refl _⟩, ⟨_, rfl, le_same (by rw [ldig_snoc, ← List.append_assoc, NB_append]; rfl)⟩, trivial⟩ rfl rfl))
   ·
    have hge : j = 9 := (by have := of_decide_eq_false hb4; omega)
    subst hge;refine A8 ?_;refine r_scall0 [slv (some g1) 0 (digs B32 (z.natAbs / 10 ^ (9 * k))).length cx] [1] rfl rfl rfl (c_nat_trim (row (digs B32 (z.natAbs / 10 ^ (9 * k))).length (shoQ (z.natAbs / 10 ^ (9 * k)) 1000000000)) (row_lt fun j => B32_mod _) (by rw [row_length]; omega) (row_length _ _) ⟨some g1, _, cx, hx⟩) ⟨⟨_, rfl, le_share⟩, trivial⟩ rfl ?_;refine r_know 18 (slv (some g1) 0 (digs B32 (z.natAbs / 10 ^ (9 * (k + 1)))).length cx) rfl (by rw [shoQ_val, pr_div]) ?_;refine A3 ?_;exact Nl ⟨k + 1, cx, b, n, cap, Nat.le_trans (digs_length_mono (by decide) (by rw [← pr_div]; exact Nat.div_le_self _ _)) hx, by omega, h2, by omega⟩ (hμ := (by show z.natAbs / 10 ^ (9 * (k + 1)) < z.natAbs / 10 ^ (9 * k); rw [← pr_div]; exact Nat.div_lt_self (Nat.pos_of_ne_zero hm0) (by decide))) (hL := (weak_picks [some 0, some 1, some 2] ⟨⟨_, rfl, Blk.le_refl _⟩, ⟨_, rfl, ⟨rfl, rfl, rfl, ⟨(digs B32 (z.natAbs / 10 ^ (9 * (k + 1)))).length, pr_row⟩, id⟩⟩, ⟨_, rfl, le_same (by rw [pr_next])⟩, trivial⟩ rfl rfl))
  ·
   have hm0 : z.natAbs / 10 ^ (9 * k) = 0 := by
    by_cases e : z.natAbs / 10 ^ (9 * k) = 0
    · exact e
    · have := dig_pos e; have h2 := of_decide_eq_false hb2; omega
   have hK : z.natAbs < 10 ^ (9 * k) := by
    rw [← Nat.not_le]; intro h2;have := Nat.div_pos h2 (Nat.pow_pos (by decide)); omega
   refine A7 ?_;refine El (ι := {j : Nat // j ≤ 9 * k ∧ stripT ((ldig (9 * k) z.natAbs).take j) = stripT (ldig (9 * k) z.natAbs)}) (fun ⟨j, hj, hI⟩ => ([(1, .pointer (some ⟨g0, 0, none⟩)), (3, slv b 0 j cap)], [⟨some g0, 25, [.bool (decide (z < 0)), .string (mag z.natAbs)], 2, true⟩, ⟨b, 5, NB (ldig (9 * k) z.natAbs), n, true⟩], j)) ⟨9 * k, Nat.le_refl _, by rw [List.take_of_length_le (by rw [ldig_len]; exact Nat.le_refl _)]⟩ ?_ (hL := (weak_pk [some 0, some 2]));rintro ⟨j, hj, hI⟩;(try dsimp only);refine A7 ?_;refine r_split 36 rfl (fun hb4 => ?_) (fun hb4 => ?_)
   ·
    have hj0 : 0 < j := (by have := of_decide_eq_true hb4; omega)
    obtain ⟨c, hxc⟩ : ∃ c, (ldig (9 * k) z.natAbs)[j - 1]? = some c := ⟨(ldig (9 * k) z.natAbs)[j - 1]'(by rw [ldig_len]; omega), List.getElem?_eq_getElem _⟩
    refine A3 ?_;refine Ar (((j - 1 : Nat) : Int)) ?_;refine r_indexAddr 1 (j - 1) u125 ti5 rfl rfl rfl rfl rfl (by omega) (by omega) (fun e => by have := congrArg List.length e; rw [NB_length, ldig_len] at this; simp at this; omega) (by show 0 + Int.toNat _ * 1 = _; omega) ?_;refine r_load1 (v := .int .u8 (c.toNat : Nat)) 1 (j - 1) ti5 rfl rfl rfl rfl (NB_get hxc) ?_;refine A4 ?_;refine at_cond rfl (fun hb5 => ?_) (fun hb5 => ?_)
    ·
     have hc48 : c = 48 := by
      have hh := hb5;exact UInt8.toNat_inj.1 (by have := eq_of_beq hh; simpa using Int.ofNat_inj.1 this)
     refine A7 ?_;refine Ar (((j - 1 : Nat) : Int)) ?_;refine r_sliceH (j - 1) u125 ti5 rfl rfl rfl rfl (by omega) (by omega) (by omega) ?_;refine A4 ?_
     exact nextL ⟨j - 1, by omega, by
       rw [← hI];have e := strip_step hxc;rw [Nat.sub_add_cancel hj0, hc48] at e
       rw [e, stripT_zero]⟩ (by show j - 1 < j; omega) ⟨rfl, rfl, trivial⟩ (Weak.refl _)
    ·
     have hc48 : c ≠ 48 := by
      have hh := hb5;intro e; subst e; exact absurd hh (by decide)
     have hS : stripT (ldig (9 * k) z.natAbs) = (ldig (9 * k) z.natAbs).take j := by
      rw [← hI];have e := strip_step hxc;rw [Nat.sub_add_cancel hj0] at e;rw [e, stripT_full hc48]
     refine A7 ?_
     obtain ⟨S, hSe⟩ : ∃ S, (ldig (9 * k) z.natAbs).take j = S := ⟨_, rfl⟩
     have hSl : S.length = j := by rw [← hSe, List.length_take, ldig_len]; omega
     have hSd : S.reverse = decS z.natAbs := by rw [← hSe, ← hS]; exact strip_decS hK hN0
     have hSn : 0 < S.length := List.length_pos_iff.2 fun e => by rw [e] at hSd; exact decS_ne hN0 hSd.symm
     refine at_weakL (L' := [⟨some g0, 25, [.bool (decide (z < 0)), .string (mag z.natAbs)], 2, true⟩, ⟨b, 5, NB S, n, true⟩]) (weak_picks [some 0, some 1] ⟨⟨_, rfl, Blk.le_refl _⟩, ⟨_, rfl, ⟨rfl, rfl, rfl, ⟨j, by rw [← hSe, ← NB_take]⟩, id⟩⟩, trivial⟩ rfl rfl) ?_;refine at_know 3 (slv b 0 S.length cap) rfl (by rw [hSl]) ?_;refine A5 ?_;refine at_cond rfl (fun hb6 => ?_) (fun hb6 => ?_)
     ·
      have hz : decide (z < 0) = true := hb6;refine A2 ?_;refine r_buildSlice [(0, _)] (fun g => [_, _, ⟨some g, 5, _, 1, true⟩]) rfl rfl rfl (bs125_1) rfl (fun _ => rfl) (fun g1 => ?_);refine q_append (b := ⟨b, 5, NB S, n, true⟩) (len := S.length) (cap := cap) (n2 := 1) 1 2 (fun r => [_, ⟨some r.g, 5, NB S ++ [.int .u8 45], r.n, true⟩, _]) u125 el5 rfl rfl rfl rfl rfl rfl rfl rfl rfl rfl rfl rfl (by rw [NB_length, Nat.mul_one]) (by omega) (by rw [Nat.mul_one]; exact h2) rfl (fun v hv => by rw [List.mem_singleton.1 hv]; rfl) (by omega) (fun r => rfl) (fun r => ?_);refine A5 ?_
      obtain ⟨W, hW⟩ : ∃ W, S ++ [45] = W := ⟨_, rfl⟩
      have hWl : W.length = S.length + 1 := by rw [← hW]; simp
      have hWr : W.reverse = intS z := by
       unfold intS;rw [if_pos (of_decide_eq_true hz), ← hW, List.reverse_append, hSd]; rfl
      refine at_weakL (L' := [⟨some g0, 25, [.bool (decide (z < 0)), .string (mag z.natAbs)], 2, true⟩, ⟨some r.g, 5, NB W, r.n, true⟩]) (weak_picks [some 0, some 1] ⟨⟨_, rfl, Blk.le_refl _⟩, ⟨_, rfl, le_same (by rw [← hW, NB_append]; rfl)⟩, trivial⟩ rfl rfl) ?_;refine at_know 3 (slv (some r.g) 0 W.length r.cap) rfl (by rw [hWl]) ?_;refine A3 ?_;refine Ar (((W.length - 1 : Nat) : Int)) ?_;refine A5 ?_;refine El (ι := {q : Nat × Bs8 // RevI W q.2 q.1 ∧ 2 * q.1 ≤ W.length}) (fun ⟨⟨i, c⟩, hR, hi⟩ => ([(3, slv (some r.g) 0 W.length r.cap), (6, .int .i64 (i : Nat)), (7, .int .i64 (W.length - 1 - i : Nat))], [⟨some g0, 25, [.bool (decide (z < 0)), .string (mag z.natAbs)], 2, true⟩, ⟨(some r.g), 5, NB c, r.n, true⟩], W.length - 2 * i)) ⟨(0, W), RevI.zero _, Nat.zero_le _⟩ ?_ (hL := Weak.auto);rintro ⟨⟨i, c⟩, hR, hi⟩;(try dsimp only);dsimp only at hR hi;refine A8 ?_;refine at_cond rfl (fun hb8 => ?_) (fun hb8 => ?_)
      ·
       have hlt : 2 * i + 1 < W.length := by have := of_decide_eq_true hb8; omega
       obtain ⟨ca, hca⟩ : ∃ a, c[i]? = some a := ⟨c[i]'(by rw [hR.1]; omega), List.getElem?_eq_getElem _⟩
       obtain ⟨cb, hcb⟩ : ∃ a, c[W.length - 1 - i]? = some a := ⟨c[W.length - 1 - i]'(by rw [hR.1]; omega), List.getElem?_eq_getElem _⟩
       refine A4 ?_;refine at_drawnEM (X := Unit) (l' := [⟨_,_,_,_,_,_⟩, ⟨_,_,_,_,_,_⟩, ⟨_,_,_,_,_,_⟩, ⟨_,_,_,_,_,_⟩, ⟨_,_,_,_,_,_⟩, ⟨_,_,_,_,_,_⟩, ⟨_,_,_,_,_,_⟩, ⟨_,_,_,_,_,_⟩]) (fun ⟨⟩ => [(3, slv (some r.g) 0 W.length r.cap), (6, .int .i64 (i : Nat)), (7, .int .i64 (W.length - 1 - i : Nat))]) (fun ⟨⟩ => [⟨some g0, 25, [.bool (decide (z < 0)), .string (mag z.natAbs)], 2, true⟩, ⟨(some r.g), 5, NB ((c.set i cb).set (W.length - 1 - i) ca), r.n, true⟩]) [0, 1, 2, 3, 4, 5, 8, 9] 8 mixed (by kernel_rfl) rfl ?_ ?_
       ·
        refine A9 ?_;refine Tn2 6 10 ?_ ?_
        ·
         refine Ix 1 (W.length - 1 - i) ?_;refine A1 ?_;refine Tn2 7 10 ?_ ?_
         ·
          refine r_load1 (v := .int .u8 (cb.toNat : Nat)) 1 (W.length - 1 - i) ti5 rfl rfl rfl rfl (NB_get hcb) ?_;refine A1 ?_;refine Tn1 10 ?_
          ·
           refine Ix 1 i ?_;refine A1 ?_;refine Tn1 11 ?_
           ·
            refine r_load1 (v := .int .u8 (ca.toNat : Nat)) 1 i ti5 rfl rfl rfl rfl (NB_get hca) ?_;refine A1 ?_;refine Tn1 12 ?_
            ·
             refine Ix 1 i ?_;refine A1 ?_;refine Tn1 13 ?_
             ·
              refine r_store1 rfl 1 i [_, ⟨_, 5, _, _, true⟩] (NB (c.set i cb)) ti5 rfl rfl rfl rfl rfl rfl rfl rfl (by have h8 := hR.1; rw [NB_length]; first | omega | (rw [List.length_set]; omega)) (NB_set _ _ _) rfl ?_;refine A1 ?_;refine Tn1 14 ?_
              ·
               refine Ix 1 (W.length - 1 - i) ?_;refine A1 ?_;refine Tn1 15 ?_
               ·
                refine r_store1 rfl 1 (W.length - 1 - i) [_, ⟨_, 5, _, _, true⟩] (NB ((c.set i cb).set (W.length - 1 - i) ca)) ti5 rfl rfl rfl rfl rfl rfl rfl rfl (by have h8 := hR.1; rw [NB_length]; first | omega | (rw [List.length_set]; omega)) (NB_set _ _ _) rfl ?_;refine A1 ?_;refine tr_nil (by kernel_rfl) ?_;exact ⟨(), rfl, ⟨rfl, rfl, rfl, trivial⟩, List.Perm.refl _⟩
         ·
          refine Ix 1 i ?_;refine A1 ?_;refine Tn2 7 11 ?_ ?_
          ·
           refine r_load1 (v := .int .u8 (cb.toNat : Nat)) 1 (W.length - 1 - i) ti5 rfl rfl rfl rfl (NB_get hcb) ?_;refine A1 ?_;refine Tn1 11 ?_
           ·
            refine r_load1 (v := .int .u8 (ca.toNat : Nat)) 1 i ti5 rfl rfl rfl rfl (NB_get hca) ?_;refine A1 ?_;refine Tn1 12 ?_
            ·
             refine Ix 1 i ?_;refine A1 ?_;refine Tn1 13 ?_
             ·
              refine r_store1 rfl 1 i [_, ⟨_, 5, _, _, true⟩] (NB (c.set i cb)) ti5 rfl rfl rfl rfl rfl rfl rfl rfl (by have h8 := hR.1; rw [NB_length]; first | omega | (rw [List.length_set]; omega)) (NB_set _ _ _) rfl ?_;refine A1 ?_;refine Tn1 14 ?_
              ·
               refine Ix 1 (W.length - 1 - i) ?_;refine A1 ?_;refine Tn1 15 ?_
               ·
                refine r_store1 rfl 1 (W.length - 1 - i) [_, ⟨_, 5, _, _, true⟩] (NB ((c.set i cb).set (W.length - 1 - i) ca)) ti5 rfl rfl rfl rfl rfl rfl rfl rfl (by have h8 := hR.1; rw [NB_length]; first | omega | (rw [List.length_set]; omega)) (NB_set _ _ _) rfl ?_;refine A1 ?_;refine tr_nil (by kernel_rfl) ?_;exact ⟨(), rfl, ⟨rfl, rfl, rfl, trivial⟩, List.Perm.refl _⟩
          ·
           refine r_load1 (v := .int .u8 (ca.toNat : Nat)) 1 i ti5 rfl rfl rfl rfl (NB_get hca) ?_;refine A1 ?_;refine Tn1 7 ?_
           ·
            refine r_load1 (v := .int .u8 (cb.toNat : Nat)) 1 (W.length - 1 - i) ti5 rfl rfl rfl rfl (NB_get hcb) ?_;refine A1 ?_;refine Tn1 12 ?_
            ·
             refine Ix 1 i ?_;refine A1 ?_;refine Tn1 13 ?_
             ·
              refine r_store1 rfl 1 i [_, ⟨_, 5, _, _, true⟩] (NB (c.set i cb)) ti5 rfl rfl rfl rfl rfl rfl rfl rfl (by have h8 := hR.1; rw [NB_length]; first | omega | (rw [List.length_set]; omega)) (NB_set _ _ _) rfl ?_;refine A1 ?_;refine Tn1 14 ?_
              ·
               refine Ix 1 (W.length - 1 - i) ?_;refine A1 ?_;refine Tn1 15 ?_
               ·
                refine r_store1 rfl 1 (W.length - 1 - i) [_, ⟨_, 5, _, _, true⟩] (NB ((c.set i cb).set (W.length - 1 - i) ca)) ti5 rfl rfl rfl rfl rfl rfl rfl rfl (by have h8 := hR.1; rw [NB_length]; first | omega | (rw [List.length_set]; omega)) (NB_set _ _ _) rfl ?_;refine A1 ?_;refine tr_nil (by kernel_rfl) ?_;exact ⟨(), rfl, ⟨rfl, rfl, rfl, trivial⟩, List.Perm.refl _⟩
        ·
         refine Ix 1 i ?_;refine A1 ?_;refine Tn2 6 11 ?_ ?_
         ·
          refine Ix 1 (W.length - 1 - i) ?_;refine A1 ?_;refine Tn2 7 11 ?_ ?_
          ·
           refine r_load1 (v := .int .u8 (cb.toNat : Nat)) 1 (W.length - 1 - i) ti5 rfl rfl rfl rfl (NB_get hcb) ?_;refine A1 ?_;refine Tn1 11 ?_
           ·
            refine r_load1 (v := .int .u8 (ca.toNat : Nat)) 1 i ti5 rfl rfl rfl rfl (NB_get hca) ?_;refine A1 ?_;refine Tn1 12 ?_
            ·
             refine Ix 1 i ?_;refine A1 ?_;refine Tn1 13 ?_
             ·
              refine r_store1 rfl 1 i [_, ⟨_, 5, _, _, true⟩] (NB (c.set i cb)) ti5 rfl rfl rfl rfl rfl rfl rfl rfl (by have h8 := hR.1; rw [NB_length]; first | omega | (rw [List.length_set]; omega)) (NB_set _ _ _) rfl ?_;refine A1 ?_;refine Tn1 14 ?_
              ·
               refine Ix 1 (W.length - 1 - i) ?_;refine A1 ?_;refine Tn1 15 ?_
               ·
                refine r_store1 rfl 1 (W.length - 1 - i) [_, ⟨_, 5, _, _, true⟩] (NB ((c.set i cb).set (W.length - 1 - i) ca)) ti5 rfl rfl rfl rfl rfl rfl rfl rfl (by have h8 := hR.1; rw [NB_length]; first | omega | (rw [List.length_set]; omega)) (NB_set _ _ _) rfl ?_;refine A1 ?_;refine tr_nil (by kernel_rfl) ?_;exact ⟨(), rfl, ⟨rfl, rfl, rfl, trivial⟩, List.Perm.refl _⟩
          ·
           refine r_load1 (v := .int .u8 (ca.toNat : Nat)) 1 i ti5 rfl rfl rfl rfl (NB_get hca) ?_;refine A1 ?_;refine Tn1 7 ?_
           ·
            refine r_load1 (v := .int .u8 (cb.toNat : Nat)) 1 (W.length - 1 - i) ti5 rfl rfl rfl rfl (NB_get hcb) ?_;refine A1 ?_;refine Tn1 12 ?_
            ·
             refine Ix 1 i ?_;refine A1 ?_;refine Tn1 13 ?_
             ·
              refine r_store1 rfl 1 i [_, ⟨_, 5, _, _, true⟩] (NB (c.set i cb)) ti5 rfl rfl rfl rfl rfl rfl rfl rfl (by have h8 := hR.1; rw [NB_length]; first | omega | (rw [List.length_set]; omega)) (NB_set _ _ _) rfl ?_;refine A1 ?_;refine Tn1 14 ?_
              ·
               refine Ix 1 (W.length - 1 - i) ?_;refine A1 ?_;refine Tn1 15 ?_
               ·
                refine r_store1 rfl 1 (W.length - 1 - i) [_, ⟨_, 5, _, _, true⟩] (NB ((c.set i cb).set (W.length - 1 - i) ca)) ti5 rfl rfl rfl rfl rfl rfl rfl rfl (by have h8 := hR.1; rw [NB_length]; first | omega | (rw [List.length_set]; omega)) (NB_set _ _ _) rfl ?_;refine A1 ?_;refine tr_nil (by kernel_rfl) ?_;exact ⟨(), rfl, ⟨rfl, rfl, rfl, trivial⟩, List.Perm.refl _⟩
         ·
          refine r_load1 (v := .int .u8 (ca.toNat : Nat)) 1 i ti5 rfl rfl rfl rfl (NB_get hca) ?_;refine A1 ?_;refine Tn1 6 ?_
          ·
           refine Ix 1 (W.length - 1 - i) ?_;refine A1 ?_;refine Tn1 7 ?_
           ·
            refine r_load1 (v := .int .u8 (cb.toNat : Nat)) 1 (W.length - 1 - i) ti5 rfl rfl rfl rfl (NB_get hcb) ?_;refine A1 ?_;refine Tn1 12 ?_
            ·
             refine Ix 1 i ?_;refine A1 ?_;refine Tn1 13 ?_
             ·
              refine r_store1 rfl 1 i [_, ⟨_, 5, _, _, true⟩] (NB (c.set i cb)) ti5 rfl rfl rfl rfl rfl rfl rfl rfl (by have h8 := hR.1; rw [NB_length]; first | omega | (rw [List.length_set]; omega)) (NB_set _ _ _) rfl ?_;refine A1 ?_;refine Tn1 14 ?_
              ·
               refine Ix 1 (W.length - 1 - i) ?_;refine A1 ?_;refine Tn1 15 ?_
               ·
                refine r_store1 rfl 1 (W.length - 1 - i) [_, ⟨_, 5, _, _, true⟩] (NB ((c.set i cb).set (W.length - 1 - i) ca)) ti5 rfl rfl rfl rfl rfl rfl rfl rfl (by have h8 := hR.1; rw [NB_length]; first | omega | (rw [List.length_set]; omega)) (NB_set _ _ _) rfl ?_;refine A1 ?_;refine tr_nil (by kernel_rfl) ?_;exact ⟨(), rfl, ⟨rfl, rfl, rfl, trivial⟩, List.Perm.refl _⟩
       rintro ⟨⟩;show At _ ⟨81, [(3, slv (some r.g) 0 W.length r.cap), (6, .int .i64 (i : Nat)), (7, .int .i64 (W.length - 1 - i : Nat))], [⟨some g0, 25, [.bool (decide (z < 0)), .string (mag z.natAbs)], 2, true⟩, ⟨(some r.g), 5, NB ((c.set i cb).set (W.length - 1 - i) ca), r.n, true⟩]⟩ _;refine A4 ?_;refine Ar (((i + 1 : Nat) : Int)) ?_;refine A1 ?_;refine Ar (((W.length - 1 - (i + 1) : Nat) : Int)) ?_;refine A4 ?_;exact Nl ⟨(i + 1, (c.set i cb).set (W.length - 1 - i) ca), hR.step hlt hca hcb, by omega⟩ (hμ := (by show W.length - 2 * (i + 1) < W.length - 2 * i; omega))
      ·
       have hge : W.length ≤ 2 * i + 1 := by have := of_decide_eq_false hb8; omega
       refine A8 ?_;refine r_convBS (l := c.map UInt8.toNat) (r := strU c) 1 u125 u5 u9 rfl rfl rfl rfl rfl (by rw [← strN_NB, List.take_of_length_le (by rw [NB_length, hR.1]; exact Nat.le_refl _)]) (by rw [List.length_map, hR.1]) (strN_U c) ?_;refine A4 ?_;refine at_end1 rfl (res_tmp rfl) (fun w hL => ⟨?_, hL.below⟩);rw [hR.done hge, hWr]
     ·
      have hz : decide (z < 0) = false := hb6;refine A4 ?_
      have hWr : S.reverse = intS z := by
       unfold intS;rw [if_neg (of_decide_eq_false hz)]; exact hSd
      refine at_some 1 rfl (fun e => by have := congrArg List.length e; rw [NB_length] at this; simp only [List.length_nil] at this; omega) (fun hbs => ?_);obtain ⟨gb, hgb⟩ := Option.isSome_iff_exists.1 hbs;subst hgb;refine A3 ?_;refine Ar (((S.length - 1 : Nat) : Int)) ?_;refine A5 ?_;refine El (ι := {q : Nat × Bs8 // RevI S q.2 q.1 ∧ 2 * q.1 ≤ S.length}) (fun ⟨⟨i, c⟩, hR, hi⟩ => ([(3, slv (some gb) 0 S.length cap), (6, .int .i64 (i : Nat)), (7, .int .i64 (S.length - 1 - i : Nat))], [⟨some g0, 25, [.bool (decide (z < 0)), .string (mag z.natAbs)], 2, true⟩, ⟨(some gb), 5, NB c, n, true⟩], S.length - 2 * i)) ⟨(0, S), RevI.zero _, Nat.zero_le _⟩ ?_ (hL := Weak.auto);rintro ⟨⟨i, c⟩, hR, hi⟩;(try dsimp only);dsimp only at hR hi;refine A8 ?_;refine at_cond rfl (fun hb8 => ?_) (fun hb8 => ?_)
      ·
       have hlt : 2 * i + 1 < S.length := by have := of_decide_eq_true hb8; omega
       obtain ⟨ca, hca⟩ : ∃ a, c[i]? = some a := ⟨c[i]'(by rw [hR.1]; omega), List.getElem?_eq_getElem _⟩
       obtain ⟨cb, hcb⟩ : ∃ a, c[S.length - 1 - i]? = some a := ⟨c[S.length - 1 - i]'(by rw [hR.1]; omega), List.getElem?_eq_getElem _⟩
       refine A4 ?_;refine at_drawnEM (X := Unit) (l' := [⟨_,_,_,_,_,_⟩, ⟨_,_,_,_,_,_⟩, ⟨_,_,_,_,_,_⟩, ⟨_,_,_,_,_,_⟩, ⟨_,_,_,_,_,_⟩, ⟨_,_,_,_,_,_⟩, ⟨_,_,_,_,_,_⟩, ⟨_,_,_,_,_,_⟩]) (fun ⟨⟩ => [(3, slv (some gb) 0 S.length cap), (6, .int .i64 (i : Nat)), (7, .int .i64 (S.length - 1 - i : Nat))]) (fun ⟨⟩ => [⟨some g0, 25, [.bool (decide (z < 0)), .string (mag z.natAbs)], 2, true⟩, ⟨(some gb), 5, NB ((c.set i cb).set (S.length - 1 - i) ca), n, true⟩]) [0, 1, 2, 3, 4, 5, 8, 9] 8 mixed (by kernel_rfl) rfl ?_ ?_
       ·
        refine A9 ?_;refine Tn2 6 10 ?_ ?_
        ·
         refine Ix 1 (S.length - 1 - i) ?_;refine A1 ?_;refine Tn2 7 10 ?_ ?_
         ·
          refine r_load1 (v := .int .u8 (cb.toNat : Nat)) 1 (S.length - 1 - i) ti5 rfl rfl rfl rfl (NB_get hcb) ?_;refine A1 ?_;refine Tn1 10 ?_
          ·
           refine Ix 1 i ?_;refine A1 ?_;refine Tn1 11 ?_
           ·
            refine r_load1 (v := .int .u8 (ca.toNat : Nat)) 1 i ti5 rfl rfl rfl rfl (NB_get hca) ?_;refine A1 ?_;refine Tn1 12 ?_
            ·
             refine Ix 1 i ?_;refine A1 ?_;refine Tn1 13 ?_
             ·
              refine r_store1 rfl 1 i [_, ⟨_, 5, _, _, true⟩] (NB (c.set i cb)) ti5 rfl rfl rfl rfl rfl rfl rfl rfl (by have h8 := hR.1; rw [NB_length]; first | omega | (rw [List.length_set]; omega)) (NB_set _ _ _) rfl ?_;refine A1 ?_;refine Tn1 14 ?_
              ·
               refine Ix 1 (S.length - 1 - i) ?_;refine A1 ?_;refine Tn1 15 ?_
               ·
                refine r_store1 rfl 1 (S.length - 1 - i) [_, ⟨_, 5, _, _, true⟩] (NB ((c.set i cb).set (S.length - 1 - i) ca)) ti5 rfl rfl rfl rfl rfl rfl rfl rfl (by have h8 := hR.1; rw [NB_length]; first | omega | (rw [List.length_set]; omega)) (NB_set _ _ _) rfl ?_;refine A1 ?_;refine tr_nil (by kernel_rfl) ?_;exact ⟨(), rfl, ⟨rfl, rfl, rfl, trivial⟩, List.Perm.refl _⟩
         ·
          refine Ix 1 i ?_;refine A1 ?_;refine Tn2 7 11 ?_ ?_
          ·
           refine r_load1 (v := .int .u8 (cb.toNat : Nat)) 1 (S.length - 1 - i) ti5 rfl rfl rfl rfl (NB_get hcb) ?_;refine A1 ?_;refine Tn1 11 ?_
           ·
            refine r_load1 (v := .int .u8 (ca.toNat : Nat)) 1 i ti5 rfl rfl rfl rfl (NB_get hca) ?_;refine A1 ?_;refine Tn1 12 ?_
            ·
             refine Ix 1 i ?_;refine A1 ?_;refine Tn1 13 ?_
             ·
              refine r_store1 rfl 1 i [_, ⟨_, 5, _, _, true⟩] (NB (c.set i cb)) ti5 rfl rfl rfl rfl rfl rfl rfl rfl (by have h8 := hR.1; rw [NB_length]; first | omega | (rw [List.length_set]; omega)) (NB_set _ _ _) rfl ?_;refine A1 ?_;refine Tn1 14 ?_
              ·
               refine Ix 1 (S.length - 1 - i) ?_;refine A1 ?_;refine Tn1 15 ?_
               ·
                refine r_store1 rfl 1 (S.length - 1 - i) [_, ⟨_, 5, _, _, true⟩] (NB ((c.set i cb).set (S.length - 1 - i) ca)) ti5 rfl rfl rfl rfl rfl rfl rfl rfl (by have h8 := hR.1; rw [NB_length]; first | omega | (rw [List.length_set]; omega)) (NB_set _ _ _) rfl ?_;refine A1 ?_;refine tr_nil (by kernel_rfl) ?_;exact ⟨(), rfl, ⟨rfl, rfl, rfl, trivial⟩, List.Perm.refl _⟩
          ·
           refine r_load1 (v := .int .u8 (ca.toNat : Nat)) 1 i ti5 rfl rfl rfl rfl (NB_get hca) ?_;refine A1 ?_;refine Tn1 7 ?_
           ·
            refine r_load1 (v := .int .u8 (cb.toNat : Nat)) 1 (S.length - 1 - i) ti5 rfl rfl rfl rfl (NB_get hcb) ?_;refine A1 ?_;refine Tn1 12 ?_
            ·
             refine Ix 1 i ?_;refine A1 ?_;refine Tn1 13 ?_
             ·
              refine r_store1 rfl 1 i [_, ⟨_, 5, _, _, true⟩] (NB (c.set i cb)) ti5 rfl rfl rfl rfl rfl rfl rfl rfl (by have h8 := hR.1; rw [NB_length]; first | omega | (rw [List.length_set]; omega)) (NB_set _ _ _) rfl ?_;refine A1 ?_;refine Tn1 14 ?_
              ·
               refine Ix 1 (S.length - 1 - i) ?_;refine A1 ?_;refine Tn1 15 ?_
               ·
                refine r_store1 rfl 1 (S.length - 1 - i) [_, ⟨_, 5, _, _, true⟩] (NB ((c.set i cb).set (S.length - 1 - i) ca)) ti5 rfl rfl rfl rfl rfl rfl rfl rfl (by have h8 := hR.1; rw [NB_length]; first | omega | (rw [List.length_set]; omega)) (NB_set _ _ _) rfl ?_;refine A1 ?_;refine tr_nil (by kernel_rfl) ?_;exact ⟨(), rfl, ⟨rfl, rfl, rfl, trivial⟩, List.Perm.refl _⟩
        ·
         refine Ix 1 i ?_;refine A1 ?_;refine Tn2 6 11 ?_ ?_
         ·
          refine Ix 1 (S.length - 1 - i) ?_;refine A1 ?_;refine Tn2 7 11 ?_ ?_
          ·
           refine r_load1 (v := .int .u8 (cb.toNat : Nat)) 1 (S.length - 1 - i) ti5 rfl rfl rfl rfl (NB_get hcb) ?_;refine A1 ?_;refine Tn1 11 ?_
           ·
            refine r_load1 (v := .int .u8 (ca.toNat : Nat)) 1 i ti5 rfl rfl rfl rfl (NB_get hca) ?_;refine A1 ?_;refine Tn1 12 ?_
            ·
             refine Ix 1 i ?_;refine A1 ?_;refine Tn1 13 ?_
             ·
              refine r_store1 rfl 1 i [_, ⟨_, 5, _, _, true⟩] (NB (c.set i cb)) ti5 rfl rfl rfl rfl rfl rfl rfl rfl (by have h8 := hR.1; rw [NB_length]; first | omega | (rw [List.length_set]; omega)) (NB_set _ _ _) rfl ?_;refine A1 ?_;refine Tn1 14 ?_
              ·
               refine Ix 1 (S.length - 1 - i) ?_;refine A1 ?_;refine Tn1 15 ?_
               ·
                refine r_store1 rfl 1 (S.length - 1 - i) [_, ⟨_, 5, _, _, true⟩] (NB ((c.set i cb).set (S.length - 1 - i) ca)) ti5 rfl rfl rfl rfl rfl rfl rfl rfl (by have h8 := hR.1; rw [NB_length]; first | omega | (rw [List.length_set]; omega)) (NB_set _ _ _) rfl ?_;refine A1 ?_;refine tr_nil (by kernel_rfl) ?_;exact ⟨(), rfl, ⟨rfl, rfl, rfl, trivial⟩, List.Perm.refl _⟩
          ·
           refine r_load1 (v := .int .u8 (ca.toNat : Nat)) 1 i ti5 rfl rfl rfl rfl (NB_get hca) ?_;refine A1 ?_;refine Tn1 7 ?_
           ·
            refine r_load1 (v := .int .u8 (cb.toNat : Nat)) 1 (S.length - 1 - i) ti5 rfl rfl rfl rfl (NB_get hcb) ?_;refine A1 ?_;refine Tn1 12 ?_
            ·
             refine Ix 1 i ?_;refine A1 ?_;refine Tn1 13 ?_
             ·
              refine r_store1 rfl 1 i [_, ⟨_, 5, _, _, true⟩] (NB (c.set i cb)) ti5 rfl rfl rfl rfl rfl rfl rfl rfl (by have h8 := hR.1; rw [NB_length]; first | omega | (rw [List.length_set]; omega)) (NB_set _ _ _) rfl ?_;refine A1 ?_;refine Tn1 14 ?_
              ·
               refine Ix 1 (S.length - 1 - i) ?_;refine A1 ?_;refine Tn1 15 ?_
               ·
                refine r_store1 rfl 1 (S.length - 1 - i) [_, ⟨_, 5, _, _, true⟩] (NB ((c.set i cb).set (S.length - 1 - i) ca)) ti5 rfl rfl rfl rfl rfl rfl rfl rfl (by have h8 := hR.1; rw [NB_length]; first | omega | (rw [List.length_set]; omega)) (NB_set _ _ _) rfl ?_;refine A1 ?_;refine tr_nil (by kernel_rfl) ?_;exact ⟨(), rfl, ⟨rfl, rfl, rfl, trivial⟩, List.Perm.refl _⟩
         ·
          refine r_load1 (v := .int .u8 (ca.toNat : Nat)) 1 i ti5 rfl rfl rfl rfl (NB_get hca) ?_;refine A1 ?_;refine Tn1 6 ?_
          ·
           refine Ix 1 (S.length - 1 - i) ?_;refine A1 ?_;refine Tn1 7 ?_
           ·
            refine r_load1 (v := .int .u8 (cb.toNat : Nat)) 1 (S.length - 1 - i) ti5 rfl rfl rfl rfl (NB_get hcb) ?_;refine A1 ?_;refine Tn1 12 ?_
            ·
             refine Ix 1 i ?_;refine A1 ?_;refine Tn1 13 ?_
             ·
              refine r_store1 rfl 1 i [_, ⟨_, 5, _, _, true⟩] (NB (c.set i cb)) ti5 rfl rfl rfl rfl rfl rfl rfl rfl (by have h8 := hR.1; rw [NB_length]; first | omega | (rw [List.length_set]; omega)) (NB_set _ _ _) rfl ?_;refine A1 ?_;refine Tn1 14 ?_
              ·
               refine Ix 1 (S.length - 1 - i) ?_;refine A1 ?_;refine Tn1 15 ?_
               ·
                refine r_store1 rfl 1 (S.length - 1 - i) [_, ⟨_, 5, _, _, true⟩] (NB ((c.set i cb).set (S.length - 1 - i) ca)) ti5 rfl rfl rfl rfl rfl rfl rfl rfl (by have h8 := hR.1; rw [NB_length]; first | omega | (rw [List.length_set]; omega)) (NB_set _ _ _) rfl ?_;refine A1 ?_;refine tr_nil (by kernel_rfl) ?_;exact ⟨(), rfl, ⟨rfl, rfl, rfl, trivial⟩, List.Perm.refl _⟩
       rintro ⟨⟩;show At _ ⟨81, [(3, slv (some gb) 0 S.length cap), (6, .int .i64 (i : Nat)), (7, .int .i64 (S.length - 1 - i : Nat))], [⟨some g0, 25, [.bool (decide (z < 0)), .string (mag z.natAbs)], 2, true⟩, ⟨(some gb), 5, NB ((c.set i cb).set (S.length - 1 - i) ca), n, true⟩]⟩ _;refine A4 ?_;refine Ar (((i + 1 : Nat) : Int)) ?_;refine A1 ?_;refine Ar (((S.length - 1 - (i + 1) : Nat) : Int)) ?_;refine A4 ?_;exact Nl ⟨(i + 1, (c.set i cb).set (S.length - 1 - i) ca), hR.step hlt hca hcb, by omega⟩ (hμ := (by show S.length - 2 * (i + 1) < S.length - 2 * i; omega))
      ·
       have hge : S.length ≤ 2 * i + 1 := by have := of_decide_eq_false hb8; omega
       refine A8 ?_;refine r_convBS (l := c.map UInt8.toNat) (r := strU c) 1 u125 u5 u9 rfl rfl rfl rfl rfl (by rw [← strN_NB, List.take_of_length_le (by rw [NB_length, hR.1]; exact Nat.le_refl _)]) (by rw [List.length_map, hR.1]) (strN_U c) ?_;refine A4 ?_;refine at_end1 rfl (res_tmp rfl) (fun w hL => ⟨?_, hL.below⟩);rw [hR.done hge, hWr]
   ·
    have hj0 : j = 0 := (by have := of_decide_eq_false hb4; omega)
    have hS : stripT (ldig (9 * k) z.natAbs) = (ldig (9 * k) z.natAbs).take j := by rw [← hI, hj0]; rfl
    refine A18 ?_
    obtain ⟨S, hSe⟩ : ∃ S, (ldig (9 * k) z.natAbs).take j = S := ⟨_, rfl⟩
    have hSl : S.length = j := by rw [← hSe, List.length_take, ldig_len]; omega
    have hSd : S.reverse = decS z.natAbs := by rw [← hSe, ← hS]; exact strip_decS hK hN0
    have hSn : 0 < S.length := List.length_pos_iff.2 fun e => by rw [e] at hSd; exact decS_ne hN0 hSd.symm
    refine at_weakL (L' := [⟨some g0, 25, [.bool (decide (z < 0)), .string (mag z.natAbs)], 2, true⟩, ⟨b, 5, NB S, n, true⟩]) (weak_picks [some 0, some 1] ⟨⟨_, rfl, Blk.le_refl _⟩, ⟨_, rfl, ⟨rfl, rfl, rfl, ⟨j, by rw [← hSe, ← NB_take]⟩, id⟩⟩, trivial⟩ rfl rfl) ?_;refine at_know 3 (slv b 0 S.length cap) rfl (by rw [hSl]) ?_;refine A5 ?_;refine at_cond rfl (fun hb5 => ?_) (fun hb5 => ?_)
    ·
     have hz : decide (z < 0) = true := hb5;refine A2 ?_;refine r_buildSlice [(0, _)] (fun g => [_, _, ⟨some g, 5, _, 1, true⟩]) rfl rfl rfl (bs125_1) rfl (fun _ => rfl) (fun g1 => ?_);refine q_append (b := ⟨b, 5, NB S, n, true⟩) (len := S.length) (cap := cap) (n2 := 1) 1 2 (fun r => [_, ⟨some r.g, 5, NB S ++ [.int .u8 45], r.n, true⟩, _]) u125 el5 rfl rfl rfl rfl rfl rfl rfl rfl rfl rfl rfl rfl (by rw [NB_length, Nat.mul_one]) (by omega) (by rw [Nat.mul_one]; exact h2) rfl (fun v hv => by rw [List.mem_singleton.1 hv]; rfl) (by omega) (fun r => rfl) (fun r => ?_);refine A5 ?_
     obtain ⟨W, hW⟩ : ∃ W, S ++ [45] = W := ⟨_, rfl⟩
     have hWl : W.length = S.length + 1 := by rw [← hW]; simp
     have hWr : W.reverse = intS z := by
      unfold intS;rw [if_pos (of_decide_eq_true hz), ← hW, List.reverse_append, hSd]; rfl
     refine at_weakL (L' := [⟨some g0, 25, [.bool (decide (z < 0)), .string (mag z.natAbs)], 2, true⟩, ⟨some r.g, 5, NB W, r.n, true⟩]) (weak_picks [some 0, some 1] ⟨⟨_, rfl, Blk.le_refl _⟩, ⟨_, rfl, le_same (by rw [← hW, NB_append]; rfl)⟩, trivial⟩ rfl rfl) ?_;refine at_know 3 (slv (some r.g) 0 W.length r.cap) rfl (by rw [hWl]) ?_;refine A3 ?_;refine Ar (((W.length - 1 : Nat) : Int)) ?_;refine A5 ?_;refine El (ι := {q : Nat × Bs8 // RevI W q.2 q.1 ∧ 2 * q.1 ≤ W.length}) (fun ⟨⟨i, c⟩, hR, hi⟩ => ([(3, slv (some r.g) 0 W.length r.cap), (6, .int .i64 (i : Nat)), (7, .int .i64 (W.length - 1 - i : Nat))], [⟨some g0, 25, [.bool (decide (z < 0)), .string (mag z.natAbs)], 2, true⟩, ⟨(some r.g), 5, NB c, r.n, true⟩], W.length - 2 * i)) ⟨(0, W), RevI.zero _, Nat.zero_le _⟩ ?_ (hL := Weak.auto);rintro ⟨⟨i, c⟩, hR, hi⟩;(try dsimp only);dsimp only at hR hi;refine A8 ?_;refine at_cond rfl (fun hb7 => ?_) (fun hb7 => ?_)
     ·
      have hlt : 2 * i + 1 < W.length := by have := of_decide_eq_true hb7; omega
      obtain ⟨ca, hca⟩ : ∃ a, c[i]? = some a := ⟨c[i]'(by rw [hR.1]; omega), List.getElem?_eq_getElem _⟩
      obtain ⟨cb, hcb⟩ : ∃ a, c[W.length - 1 - i]? = some a := ⟨c[W.length - 1 - i]'(by rw [hR.1]; omega), List.getElem?_eq_getElem _⟩
      refine A4 ?_;refine at_drawnEM (X := Unit) (l' := [⟨_,_,_,_,_,_⟩, ⟨_,_,_,_,_,_⟩, ⟨_,_,_,_,_,_⟩, ⟨_,_,_,_,_,_⟩, ⟨_,_,_,_,_,_⟩, ⟨_,_,_,_,_,_⟩, ⟨_,_,_,_,_,_⟩, ⟨_,_,_,_,_,_⟩]) (fun ⟨⟩ => [(3, slv (some r.g) 0 W.length r.cap), (6, .int .i64 (i : Nat)), (7, .int .i64 (W.length - 1 - i : Nat))]) (fun ⟨⟩ => [⟨some g0, 25, [.bool (decide (z < 0)), .string (mag z.natAbs)], 2, true⟩, ⟨(some r.g), 5, NB ((c.set i cb).set (W.length - 1 - i) ca), r.n, true⟩]) [0, 1, 2, 3, 4, 5, 8, 9] 8 mixed (by kernel_rfl) rfl ?_ ?_
      ·
       refine A9 ?_;refine Tn2 6 10 ?_ ?_
       ·
        refine Ix 1 (W.length - 1 - i) ?_;refine A1 ?_;refine Tn2 7 10 ?_ ?_
        ·
         refine r_load1 (v := .int .u8 (cb.toNat : Nat)) 1 (W.length - 1 - i) ti5 rfl rfl rfl rfl (NB_get hcb) ?_;refine A1 ?_;refine Tn1 10 ?_
         ·
          refine Ix 1 i ?_;refine A1 ?_;refine Tn1 11 ?_
          ·
           refine r_load1 (v := .int .u8 (ca.toNat : Nat)) 1 i ti5 rfl rfl rfl rfl (NB_get hca) ?_;refine A1 ?_;refine Tn1 12 ?_
           ·
            refine Ix 1 i ?_;refine A1 ?_;refine Tn1 13 ?_
            ·
             refine r_store1 rfl 1 i [_, ⟨_, 5, _, _, true⟩] (NB (c.set i cb)) ti5 rfl rfl rfl rfl rfl rfl rfl rfl (by have h8 := hR.1; rw [NB_length]; first | omega | (rw [List.length_set]; omega)) (NB_set _ _ _) rfl ?_;refine A1 ?_;refine Tn1 14 ?_
             ·
              refine Ix 1 (W.length - 1 - i) ?_;refine A1 ?_;refine Tn1 15 ?_
              ·
               refine r_store1 rfl 1 (W.length - 1 - i) [_, ⟨_, 5, _, _, true⟩] (NB ((c.set i cb).set (W.length - 1 - i) ca)) ti5 rfl rfl rfl rfl rfl rfl rfl rfl (by have h8 := hR.1; rw [NB_length]; first | omega | (rw [List.length_set]; omega)) (NB_set _ _ _) rfl ?_;refine A1 ?_;refine tr_nil (by kernel_rfl) ?_;exact ⟨(), rfl, ⟨rfl, rfl, rfl, trivial⟩, List.Perm.refl _⟩
        ·
         refine Ix 1 i ?_;refine A1 ?_;refine Tn2 7 11 ?_ ?_
         ·
          refine r_load1 (v := .int .u8 (cb.toNat : Nat)) 1 (W.length - 1 - i) ti5 rfl rfl rfl rfl (NB_get hcb) ?_;refine A1 ?_;refine Tn1 11 ?_
          ·
           refine r_load1 (v := .int .u8 (ca.toNat : Nat)) 1 i ti5 rfl rfl rfl rfl (NB_get hca) ?_;refine A1 ?_;refine Tn1 12 ?_
           ·
            refine Ix 1 i ?_;refine A1 ?_;refine Tn1 13 ?_
            ·
             refine r_store1 rfl 1 i [_, ⟨_, 5, _, _, true⟩] (NB (c.set i cb)) ti5 rfl rfl rfl rfl rfl rfl rfl rfl (by have h8 := hR.1; rw [NB_length]; first | omega | (rw [List.length_set]; omega)) (NB_set _ _ _) rfl ?_;refine A1 ?_;refine Tn1 14 ?_
             ·
              refine Ix 1 (W.length - 1 - i) ?_;refine A1 ?_;refine Tn1 15 ?_
              ·
               refine r_store1 rfl 1 (W.length - 1 - i) [_, ⟨_, 5, _, _, true⟩] (NB ((c.set i cb).set (W.length - 1 - i) ca)) ti5 rfl rfl rfl rfl rfl rfl rfl rfl (by have h8 := hR.1; rw [NB_length]; first | omega | (rw [List.length_set]; omega)) (NB_set _ _ _) rfl ?_;refine A1 ?_;refine tr_nil (by kernel_rfl) ?_;exact ⟨(), rfl, ⟨rfl, rfl, rfl, trivial⟩, List.Perm.refl _⟩
         ·
          refine r_load1 (v := .int .u8 (ca.toNat : Nat)) 1 i ti5 rfl rfl rfl rfl (NB_get hca) ?_;refine A1 ?_;refine Tn1 7 ?_
          ·
           refine r_load1 (v := .int .u8 (cb.toNat : Nat)) 1 (W.length - 1 - i) ti5 rfl rfl rfl rfl (NB_get hcb) ?_;refine A1 ?_;refine Tn1 12 ?_
           ·
            refine Ix 1 i ?_;refine A1 ?_;refine Tn1 13 ?_
            ·
             refine r_store1 rfl 1 i [_, ⟨_, 5, _, _, true⟩] (NB (c.set i cb)) ti5 rfl rfl rfl rfl rfl rfl rfl rfl (by have h8 := hR.1; rw [NB_length]; first | omega | (rw [List.length_set]; omega)) (NB_set _ _ _) rfl ?_;refine A1 ?_;refine Tn1 14 ?_
             ·
              refine Ix 1 (W.length - 1 - i) ?_;refine A1 ?_;refine Tn1 15 ?_
              ·
               refine r_store1 rfl 1 (W.length - 1 - i) [_, ⟨_, 5, _, _, true⟩] (NB ((c.set i cb).set (W.length - 1 - i) ca)) ti5 rfl rfl rfl rfl rfl rfl rfl rfl (by have h8 := hR.1; rw [NB_length]; first | omega | (rw [List.length_set]; omega)) (NB_set _ _ _) rfl ?_;refine A1 ?_;refine tr_nil (by kernel_rfl) ?_;exact ⟨(), rfl, ⟨rfl, rfl, rfl, trivial⟩, List.Perm.refl _⟩
       ·
        refine Ix 1 i ?_;refine A1 ?_;refine Tn2 6 11 ?_ ?_
        ·
         refine Ix 1 (W.length - 1 - i) ?_;refine A1 ?_;refine Tn2 7 11 ?_ ?_
         ·
          refine r_load1 (v := .int .u8 (cb.toNat : Nat)) 1 (W.length - 1 - i) ti5 rfl rfl rfl rfl (NB_get hcb) ?_;refine A1 ?_;refine Tn1 11 ?_
          ·
           refine r_load1 (v := .int .u8 (ca.toNat : Nat)) 1 i ti5 rfl rfl rfl rfl (NB_get hca) ?_;refine A1 ?_;refine Tn1 12 ?_
           ·
            refine Ix 1 i ?_;refine A1 ?_;refine Tn1 13 ?_
            ·
             refine r_store1 rfl 1 i [_, ⟨_, 5, _, _, true⟩] (NB (c.set i cb)) ti5 rfl rfl rfl rfl rfl rfl rfl rfl (by have h8 := hR.1; rw [NB_length]; first | omega | (rw [List.length_set]; omega)) (NB_set _ _ _) rfl ?_;refine A1 ?_;refine Tn1 14 ?_
             ·
              refine Ix 1 (W.length - 1 - i) ?_;refine A1 ?_;refine Tn1 15 ?_
              ·
               refine r_store1 rfl 1 (W.length - 1 - i) [_, ⟨_, 5, _, _, true⟩] (NB ((c.set i cb).set (W.length - 1 - i) ca)) ti5 rfl rfl rfl rfl rfl rfl rfl rfl (by have h8 := hR.1; rw [NB_length]; first | omega | (rw [List.length_set]; omega)) (NB_set _ _ _) rfl ?_;refine A1 ?_;refine tr_nil (by kernel_rfl) ?_;exact ⟨(), rfl, ⟨rfl, rfl, rfl, trivial⟩, List.Perm.refl _⟩
         ·
          refine r_load1 (v := .int .u8 (ca.toNat : Nat)) 1 i ti5 rfl rfl rfl rfl (NB_get hca) ?_;refine A1 ?_;refine Tn1 7 ?_
          ·
           refine r_load1 (v := .int .u8 (cb.toNat : Nat)) 1 (W.length - 1 - i) ti5 rfl rfl rfl rfl (NB_get hcb) ?_;refine A1 ?_;refine Tn1 12 ?_
           ·
            refine Ix 1 i ?_;refine A1 ?_;refine Tn1 13 ?_
            ·
             refine r_store1 rfl 1 i [_, ⟨_, 5, _, _, true⟩] (NB (c.set i cb)) ti5 rfl rfl rfl rfl rfl rfl rfl rfl (by have h8 := hR.1; rw [NB_length]; first | omega | (rw [List.length_set]; omega)) (NB_set _ _ _) rfl ?_;refine A1 ?_;refine Tn1 14 ?_
             ·
              refine Ix 1 (W.length - 1 - i) ?_;refine A1 ?_;refine Tn1 15 ?_
              ·
               refine r_store1 rfl 1 (W.length - 1 - i) [_, ⟨_, 5, _, _, true⟩] (NB ((c.set i cb).set (W.length - 1 - i) ca)) ti5 rfl rfl rfl rfl rfl rfl rfl rfl (by have h8 := hR.1; rw [NB_length]; first | omega | (rw [List.length_set]; omega)) (NB_set _ _ _) rfl ?_;refine A1 ?_;refine tr_nil (by kernel_rfl) ?_;exact ⟨(), rfl, ⟨rfl, rfl, rfl, trivial⟩, List.Perm.refl _⟩
        ·
         refine r_load1 (v := .int .u8 (ca.toNat : Nat)) 1 i ti5 rfl rfl rfl rfl (NB_get hca) ?_;refine A1 ?_;refine Tn1 6 ?_
         ·
          refine Ix 1 (W.length - 1 - i) ?_;refine A1 ?_;refine Tn1 7 ?_
          ·
           refine r_load1 (v := .int .u8 (cb.toNat : Nat)) 1 (W.length - 1 - i) ti5 rfl rfl rfl rfl (NB_get hcb) ?_;refine A1 ?_;refine Tn1 12 ?_
           ·
            refine Ix 1 i ?_;refine A1 ?_;refine Tn1 13 ?_
            ·
             refine r_store1 rfl 1 i [_, ⟨_, 5, _, _, true⟩] (NB (c.set i cb)) ti5 rfl rfl rfl rfl rfl rfl rfl rfl (by have h8 := hR.1; rw [NB_length]; first | omega | (rw [List.length_set]; omega)) (NB_set _ _ _) rfl ?_;refine A1 ?_;refine Tn1 14 ?_
             ·
              refine Ix 1 (W.length - 1 - i) ?_;refine A1 ?_;refine Tn1 15 ?_
              ·
               refine r_store1 rfl 1 (W.length - 1 - i) [_, ⟨_, 5, _, _, true⟩] (NB ((c.set i cb).set (W.length - 1 - i) ca)) ti5 rfl rfl rfl rfl rfl rfl rfl rfl (by have h8 := hR.1; rw [NB_length]; first | omega | (rw [List.length_set]; omega)) (NB_set _ _ _) rfl ?_;refine A1 ?_;refine tr_nil (by kernel_rfl) ?_;exact ⟨(), rfl, ⟨rfl, rfl, rfl, trivial⟩, List.Perm.refl _⟩
      rintro ⟨⟩;show At _ ⟨81, [(3, slv (some r.g) 0 W.length r.cap), (6, .int .i64 (i : Nat)), (7, .int .i64 (W.length - 1 - i : Nat))], [⟨some g0, 25, [.bool (decide (z < 0)), .string (mag z.natAbs)], 2, true⟩, ⟨(some r.g), 5, NB ((c.set i cb).set (W.length - 1 - i) ca), r.n, true⟩]⟩ _;refine A4 ?_;refine Ar (((i + 1 : Nat) : Int)) ?_;refine A1 ?_;refine Ar (((W.length - 1 - (i + 1) : Nat) : Int)) ?_;refine A4 ?_;exact Nl ⟨(i + 1, (c.set i cb).set (W.length - 1 - i) ca), hR.step hlt hca hcb, by omega⟩ (hμ := (by show W.length - 2 * (i + 1) < W.length - 2 * i; omega))
     ·
      have hge : W.length ≤ 2 * i + 1 := by have := of_decide_eq_false hb7; omega
      refine A8 ?_;refine r_convBS (l := c.map UInt8.toNat) (r := strU c) 1 u125 u5 u9 rfl rfl rfl rfl rfl (by rw [← strN_NB, List.take_of_length_le (by rw [NB_length, hR.1]; exact Nat.le_refl _)]) (by rw [List.length_map, hR.1]) (strN_U c) ?_;refine A4 ?_;refine at_end1 rfl (res_tmp rfl) (fun w hL => ⟨?_, hL.below⟩);rw [hR.done hge, hWr]
    ·
     have hz : decide (z < 0) = false := hb5;refine A4 ?_
     have hWr : S.reverse = intS z := by
      unfold intS;rw [if_neg (of_decide_eq_false hz)]; exact hSd
     refine at_some 1 rfl (fun e => by have := congrArg List.length e; rw [NB_length] at this; simp only [List.length_nil] at this; omega) (fun hbs => ?_);obtain ⟨gb, hgb⟩ := Option.isSome_iff_exists.1 hbs;subst hgb;refine A3 ?_;refine Ar (((S.length - 1 : Nat) : Int)) ?_;refine A5 ?_;refine El (ι := {q : Nat × Bs8 // RevI S q.2 q.1 ∧ 2 * q.1 ≤ S.length}) (fun ⟨⟨i, c⟩, hR, hi⟩ => ([(3, slv (some gb) 0 S.length cap), (6, .int .i64 (i : Nat)), (7, .int .i64 (S.length - 1 - i : Nat))], [⟨some g0, 25, [.bool (decide (z < 0)), .string (mag z.natAbs)], 2, true⟩, ⟨(some gb), 5, NB c, n, true⟩], S.length - 2 * i)) ⟨(0, S), RevI.zero _, Nat.zero_le _⟩ ?_ (hL := Weak.auto);rintro ⟨⟨i, c⟩, hR, hi⟩;(try dsimp only);dsimp only at hR hi;refine A8 ?_;refine at_cond rfl (fun hb7 => ?_) (fun hb7 => ?_)
     ·
      have hlt : 2 * i + 1 < S.length := by have := of_decide_eq_true hb7; omega
      obtain ⟨ca, hca⟩ : ∃ a, c[i]? = some a := ⟨c[i]'(by rw [hR.1]; omega), List.getElem?_eq_getElem _⟩
      obtain ⟨cb, hcb⟩ : ∃ a, c[S.length - 1 - i]? = some a := ⟨c[S.length - 1 - i]'(by rw [hR.1]; omega), List.getElem?_eq_getElem _⟩
      refine A4 ?_;refine at_drawnEM (X := Unit) (l' := [⟨_,_,_,_,_,_⟩, ⟨_,_,_,_,_,_⟩, ⟨_,_,_,_,_,_⟩, ⟨_,_,_,_,_,_⟩, ⟨_,_,_,_,_,_⟩, ⟨_,_,_,_,_,_⟩, ⟨_,_,_,_,_,_⟩, ⟨_,_,_,_,_,_⟩]) (fun ⟨⟩ => [(3, slv (some gb) 0 S.length cap), (6, .int .i64 (i : Nat)), (7, .int .i64 (S.length - 1 - i : Nat))]) (fun ⟨⟩ => [⟨some g0, 25, [.bool (decide (z < 0)), .string (mag z.natAbs)], 2, true⟩, ⟨(some gb), 5, NB ((c.set i cb).set (S.length - 1 - i) ca), n, true⟩]) [0, 1, 2, 3, 4, 5, 8, 9] 8 mixed (by kernel_rfl) rfl ?_ ?_
      ·
       refine A9 ?_;refine Tn2 6 10 ?_ ?_
       ·
        refine Ix 1 (S.length - 1 - i) ?_;refine A1 ?_;refine Tn2 7 10 ?_ ?_
        ·
         refine r_load1 (v := .int .u8 (cb.toNat : Nat)) 1 (S.length - 1 - i) ti5 rfl rfl rfl rfl (NB_get hcb) ?_;refine A1 ?_;refine Tn1 10 ?_
         ·
          refine Ix 1 i ?_;refine A1 ?_;refine Tn1 11 ?_
          ·
           refine r_load1 (v := .int .u8 (ca.toNat : Nat)) 1 i ti5 rfl rfl rfl rfl (NB_get hca) ?_;refine A1 ?_;refine Tn1 12 ?_
           ·
            refine Ix 1 i ?_;refine A1 ?_;refine Tn1 13 ?_
            ·
             refine r_store1 rfl 1 i [_, ⟨_, 5, _, _, true⟩] (NB (c.set i cb)) ti5 rfl rfl rfl rfl rfl rfl rfl rfl (by have h8 := hR.1; rw [NB_length]; first | omega | (rw [List.length_set]; omega)) (NB_set _ _ _) rfl ?_;refine A1 ?_;refine Tn1 14 ?_
             ·
              refine Ix 1 (S.length - 1 - i) ?_;refine A1 ?_;refine Tn1 15 ?_
              ·
               refine r_store1 rfl 1 (S.length - 1 - i) [_, ⟨_, 5, _, _, true⟩] (NB ((c.set i cb).set (S.length - 1 - i) ca)) ti5 rfl rfl rfl rfl rfl rfl rfl rfl (by have h8 := hR.1; rw [NB_length]; first | omega | (rw [List.length_set]; omega)) (NB_set _ _ _) rfl ?_;refine A1 ?_;refine tr_nil (by kernel_rfl) ?_;exact ⟨(), rfl, ⟨rfl, rfl, rfl, trivial⟩, List.Perm.refl _⟩
        ·
         refine Ix 1 i ?_;refine A1 ?_;refine Tn2 7 11 ?_ ?_
         ·
          refine r_load1 (v := .int .u8 (cb.toNat : Nat)) 1 (S.length - 1 - i) ti5 rfl rfl rfl rfl (NB_get hcb) ?_;refine A1 ?_;refine Tn1 11 ?_
          ·
           refine r_load1 (v := .int .u8 (ca.toNat : Nat)) 1 i ti5 rfl rfl rfl rfl (NB_get hca) ?_;refine A1 ?_;refine Tn1 12 ?_
           ·
            refine Ix 1 i ?_;refine A1 ?_;refine Tn1 13 ?_
            ·
             refine r_store1 rfl 1 i [_, ⟨_, 5, _, _, true⟩] (NB (c.set i cb)) ti5 rfl rfl rfl rfl rfl rfl rfl rfl (by have h8 := hR.1; rw [NB_length]; first | omega | (rw [List.length_set]; omega)) (NB_set _ _ _) rfl ?_;refine A1 ?_;refine Tn1 14 ?_
             ·
              refine Ix 1 (S.length - 1 - i) ?_;refine A1 ?_;refine Tn1 15 ?_
              ·
               refine r_store1 rfl 1 (S.length - 1 - i) [_, ⟨_, 5, _, _, true⟩] (NB ((c.set i cb).set (S.length - 1 - i) ca)) ti5 rfl rfl rfl rfl rfl rfl rfl rfl (by have h8 := hR.1; rw [NB_length]; first | omega | (rw [List.length_set]; omega)) (NB_set _ _ _) rfl ?_;refine A1 ?_;refine tr_nil (by kernel_rfl) ?_;exact ⟨(), rfl, ⟨rfl, rfl, rfl, trivial⟩, List.Perm.refl _⟩
         ·
          refine r_load1 (v := .int .u8 (ca.toNat : Nat)) 1 i ti5 rfl rfl rfl rfl (NB_get hca) ?_;refine A1 ?_;refine Tn1 7 ?_
          ·
           refine r_load1 (v := .int .u8 (cb.toNat : Nat)) 1 (S.length - 1 - i) ti5 rfl rfl rfl rfl (NB_get hcb) ?_;refine A1 ?_;refine Tn1 12 ?_
           ·
            refine Ix 1 i ?_;refine A1 ?_;refine Tn1 13 ?_
            ·
             refine r_store1 rfl 1 i [_, ⟨_, 5, _, _, true⟩] (NB (c.set i cb)) ti5 rfl rfl rfl rfl rfl rfl rfl rfl (by have h8 := hR.1; rw [NB_length]; first | omega | (rw [List.length_set]; omega)) (NB_set _ _ _) rfl ?_;refine A1 ?_;refine Tn1 14 ?_
             ·
              refine Ix 1 (S.length - 1 - i) ?_;refine A1 ?_;refine Tn1 15 ?_
              ·
               refine r_store1 rfl 1 (S.length - 1 - i) [_, ⟨_, 5, _, _, true⟩] (NB ((c.set i cb).set (S.length - 1 - i) ca)) ti5 rfl rfl rfl rfl rfl rfl rfl rfl (by have h8 := hR.1; rw [NB_length]; first | omega | (rw [List.length_set]; omega)) (NB_set _ _ _) rfl ?_;refine A1 ?_;refine tr_nil (by kernel_rfl) ?_;exact ⟨(), rfl, ⟨rfl, rfl, rfl, trivial⟩, List.Perm.refl _⟩
       ·
        refine Ix 1 i ?_;refine A1 ?_;refine Tn2 6 11 ?_ ?_
        ·
         refine Ix 1 (S.length - 1 - i) ?_;refine A1 ?_;refine Tn2 7 11 ?_ ?_
         ·
          refine r_load1 (v := .int .u8 (cb.toNat : Nat)) 1 (S.length - 1 - i) ti5 rfl rfl rfl rfl (NB_get hcb) ?_;refine A1 ?_;refine Tn1 11 ?_
          ·
           refine r_load1 (v := .int .u8 (ca.toNat : Nat)) 1 i ti5 rfl rfl rfl rfl (NB_get hca) ?_;refine A1 ?_;refine Tn1 12 ?_
           ·
            refine Ix 1 i ?_;refine A1 ?_;refine Tn1 13 ?_
            ·
             refine r_store1 rfl 1 i [_, ⟨_, 5, _, _, true⟩] (NB (c.set i cb)) ti5 rfl rfl rfl rfl rfl rfl rfl rfl (by have h8 := hR.1; rw [NB_length]; first | omega | (rw [List.length_set]; omega)) (NB_set _ _ _) rfl ?_;refine A1 ?_;refine Tn1 14 ?_
             ·
              refine Ix 1 (S.length - 1 - i) ?_;refine A1 ?_;refine Tn1 15 ?_
              ·
               refine r_store1 rfl 1 (S.length - 1 - i) [_, ⟨_, 5, _, _, true⟩] (NB ((c.set i cb).set (S.length - 1 - i) ca)) ti5 rfl rfl rfl rfl rfl rfl rfl rfl (by have h8 := hR.1; rw [NB_length]; first | omega | (rw [List.length_set]; omega)) (NB_set _ _ _) rfl ?_;refine A1 ?_;refine tr_nil (by kernel_rfl) ?_;exact ⟨(), rfl, ⟨rfl, rfl, rfl, trivial⟩, List.Perm.refl _⟩
         ·
          refine r_load1 (v := .int .u8 (ca.toNat : Nat)) 1 i ti5 rfl rfl rfl rfl (NB_get hca) ?_;refine A1 ?_;refine Tn1 7 ?_
          ·
           refine r_load1 (v := .int .u8 (cb.toNat : Nat)) 1 (S.length - 1 - i) ti5 rfl rfl rfl rfl (NB_get hcb) ?_;refine A1 ?_;refine Tn1 12 ?_
           ·
            refine Ix 1 i ?_;refine A1 ?_;refine Tn1 13 ?_
            ·
             refine r_store1 rfl 1 i [_, ⟨_, 5, _, _, true⟩] (NB (c.set i cb)) ti5 rfl rfl rfl rfl rfl rfl rfl rfl (by have h8 := hR.1; rw [NB_length]; first | omega | (rw [List.length_set]; omega)) (NB_set _ _ _) rfl ?_;refine A1 ?_;refine Tn1 14 ?_
             ·
              refine Ix 1 (S.length - 1 - i) ?_;refine A1 ?_;refine Tn1 15 ?_
              ·
               refine r_store1 rfl 1 (S.length - 1 - i) [_, ⟨_, 5, _, _, true⟩] (NB ((c.set i cb).set (S.length - 1 - i) ca)) ti5 rfl rfl rfl rfl rfl rfl rfl rfl (by have h8 := hR.1; rw [NB_length]; first | omega | (rw [List.length_set]; omega)) (NB_set _ _ _) rfl ?_;refine A1 ?_;refine tr_nil (by kernel_rfl) ?_;exact ⟨(), rfl, ⟨rfl, rfl, rfl, trivial⟩, List.Perm.refl _⟩
        ·
         refine r_load1 (v := .int .u8 (ca.toNat : Nat)) 1 i ti5 rfl rfl rfl rfl (NB_get hca) ?_;refine A1 ?_;refine Tn1 6 ?_
         ·
          refine Ix 1 (S.length - 1 - i) ?_;refine A1 ?_;refine Tn1 7 ?_
          ·
           refine r_load1 (v := .int .u8 (cb.toNat : Nat)) 1 (S.length - 1 - i) ti5 rfl rfl rfl rfl (NB_get hcb) ?_;refine A1 ?_;refine Tn1 12 ?_
           ·
            refine Ix 1 i ?_;refine A1 ?_;refine Tn1 13 ?_
            ·
             refine r_store1 rfl 1 i [_, ⟨_, 5, _, _, true⟩] (NB (c.set i cb)) ti5 rfl rfl rfl rfl rfl rfl rfl rfl (by have h8 := hR.1; rw [NB_length]; first | omega | (rw [List.length_set]; omega)) (NB_set _ _ _) rfl ?_;refine A1 ?_;refine Tn1 14 ?_
             ·
              refine Ix 1 (S.length - 1 - i) ?_;refine A1 ?_;refine Tn1 15 ?_
              ·
               refine r_store1 rfl 1 (S.length - 1 - i) [_, ⟨_, 5, _, _, true⟩] (NB ((c.set i cb).set (S.length - 1 - i) ca)) ti5 rfl rfl rfl rfl rfl rfl rfl rfl (by have h8 := hR.1; rw [NB_length]; first | omega | (rw [List.length_set]; omega)) (NB_set _ _ _) rfl ?_;refine A1 ?_;refine tr_nil (by kernel_rfl) ?_;exact ⟨(), rfl, ⟨rfl, rfl, rfl, trivial⟩, List.Perm.refl _⟩
      rintro ⟨⟩;show At _ ⟨81, [(3, slv (some gb) 0 S.length cap), (6, .int .i64 (i : Nat)), (7, .int .i64 (S.length - 1 - i : Nat))], [⟨some g0, 25, [.bool (decide (z < 0)), .string (mag z.natAbs)], 2, true⟩, ⟨(some gb), 5, NB ((c.set i cb).set (S.length - 1 - i) ca), n, true⟩]⟩ _;refine A4 ?_;refine Ar (((i + 1 : Nat) : Int)) ?_;refine A1 ?_;refine Ar (((S.length - 1 - (i + 1) : Nat) : Int)) ?_;refine A4 ?_;exact Nl ⟨(i + 1, (c.set i cb).set (S.length - 1 - i) ca), hR.step hlt hca hcb, by omega⟩ (hμ := (by show S.length - 2 * (i + 1) < S.length - 2 * i; omega))
     ·
      have hge : S.length ≤ 2 * i + 1 := by have := of_decide_eq_false hb7; omega
      refine A8 ?_;refine r_convBS (l := c.map UInt8.toNat) (r := strU c) 1 u125 u5 u9 rfl rfl rfl rfl rfl (by rw [← strN_NB, List.take_of_length_le (by rw [NB_length, hR.1]; exact Nat.le_refl _)]) (by rw [List.length_map, hR.1]) (strN_U c) ?_;refine A4 ?_;refine at_end1 rfl (res_tmp rfl) (fun w hL => ⟨?_, hL.below⟩);rw [hR.done hge, hWr]
end Go.Proofs.YtfijbadahkmhbaaGreatDoor
namespace Go.Via
open Go Go.RowKit
theorem decR_len : ∀ (f k n : Nat), n < 10 ^ k → (decR f n).length ≤ k
  | 0, k, n, h => Nat.zero_le _
  | f + 1, 0, n, h => by
    have : n = 0 := by simpa using h
    rw [decR, if_pos this]; exact Nat.zero_le _
  | f + 1, k + 1, n, h => by
    rw [decR]
    split
    · exact Nat.zero_le _
    · have := decR_len f k (n / 10) (by rw [Nat.pow_succ] at h; omega)
      rw [List.length_cons]; omega
theorem decS_len (n : Nat) : (decS n).length ≤ 3 * nb n + 1 := by
  unfold decS
  split
  · simp
  · rw [List.length_reverse]
    have h3 : n < 256 ^ nb n := lt_nb n
    have h4 : 256 ^ nb n ≤ 1000 ^ nb n := Nat.pow_le_pow_left (by decide) _
    have h5 : (1000 : Nat) ^ nb n = 10 ^ (3 * nb n) := by rw [Nat.pow_mul]
    have := decR_len n (3 * nb n) n (by omega)
    omega
theorem intS_len (z : Int) : (intS z).length ≤ 3 * szI z + 2 := by
  have h := decS_len z.natAbs
  have e : szI z = nb z.natAbs := rfl
  unfold intS
  split
  · rw [List.length_cons]; omega
  · omega
theorem den_I {q : Rat} (h : ¬ q.den = 1) : (.agg #[.bool false, .string (dm q)] : Value) = I (q.den : Int) := by
  unfold dm
  rw [if_neg h]
  exact I_nat q.den
end Go.Via
set_option maxHeartbeats 20000000
namespace Go.Proofs.YtfijbadahkmhbaaGreatDoor
open Go Go.RowKit Go.Via
set_option maxRecDepth 20000 in
theorem c_rational_Print (q : Rat) (hq : szQ q ≤ 1000000) : PCall Tryz.prog 67 #[Q q] (.string (strU (ratS q))) := by
 have hn1 := Nat.le_trans (lI_num q) hq;have hd1 := Nat.le_trans (lI_den q) hq;have hl1 := intS_len q.num;have hl2 := intS_len (q.den : Int);refine ⟨by kernel_rfl, fun w => ?_⟩;refine cB1 18 Tryz.func67 (LRel.nil w) ?_;refine A2 ?_;refine Bo [_, _, _, _] 4 (fun g => [⟨some g, 27, _, 4, true⟩]) (fun g0 => ?_);refine A7 ?_;refine r_load 0 2 [_, _] rfl rfl rfl rfl ti25 rfl rfl rfl rfl ?_;refine r_build [] rfl rfl rfl (bd25_0) ?_;refine r_eqlAgg rfl rfl rfl rfl gd25 (eq25r _ _ _ _) ?_;refine r_know 6 (.bool (decide (q.den = 1))) rfl (by rw [dm_nil]) ?_;refine A2 ?_;refine at_cond rfl (fun hb0 => ?_) (fun hb0 => ?_)
 ·
  have hden : q.den = 1 := of_decide_eq_true hb0;refine A3 ?_;refine r_load 0 0 [_, _] rfl rfl rfl rfl ti25 rfl rfl rfl rfl ?_;refine r_know 8 (I q.num) rfl rfl ?_;refine Pc (c_integer_Print q.num hn1) ?_;refine A5 ?_;refine at_end1 rfl (res_tmp rfl) (fun w hL => ⟨?_, hL.below⟩);unfold ratS;rw [if_pos hden]
 ·
  have hden : ¬ q.den = 1 := of_decide_eq_false hb0;refine A3 ?_;refine at_drawn (l' := [⟨_,_,_,_,_,_⟩, ⟨_,_,_,_,_,_⟩, ⟨_,_,_,_,_,_⟩, ⟨_,_,_,_,_,_⟩, ⟨_,_,_,_,_,_⟩, ⟨_,_,_,_,_,_⟩, ⟨_,_,_,_,_,_⟩, ⟨_,_,_,_,_,_⟩, ⟨_,_,_,_,_,_⟩]) [] [0, 1, 4, 5, 2, 3, 6, 7, 8] mixed (by kernel_rfl) rfl (by kernel_rfl) ?_;refine A1 ?_;refine r_load 0 0 [_, _] rfl rfl rfl rfl ti25 rfl rfl rfl rfl ?_;refine r_know 11 (I q.num) rfl rfl ?_;refine A1 ?_;refine r_load 0 2 [_, _] rfl rfl rfl rfl ti25 rfl rfl rfl rfl ?_;refine r_know 15 (I (q.den : Int)) rfl (den_I hden) ?_;refine Pc (c_integer_Print q.num hn1) ?_;refine r_addS (p := intS q.num) (q := [47]) rfl rfl rfl rfl rfl rfl rfl (by show _ + 1 ≤ _; omega) ?_;refine Pc (c_integer_Print (q.den : Int) hd1) ?_;refine r_addS (p := intS q.num ++ [47]) (q := intS (q.den : Int)) rfl rfl rfl rfl rfl rfl rfl (by rw [List.length_append]; show _ + 1 + _ ≤ _; omega) ?_;refine A4 ?_;refine at_end1 rfl (res_tmp rfl) (fun w hL => ⟨?_, hL.below⟩);unfold ratS;rw [if_neg hden, List.append_assoc];exact rfl
end Go.Proofs.YtfijbadahkmhbaaGreatDoor
namespace Go.Via
open Go Go.RowKit
noncomputable def NumV.rat : NumV → Rat
  | .q r => r
  | .raw b1 s1 b2 s2 => @dite _ (∃ q : Rat, Value.agg #[.bool b1, .string s1, .bool b2, .string s2] = Q q) (Classical.propDecidable _) (fun h => h.choose) (fun _ => 0)
theorem NumV.rat_cells {u : NumV} {b1 b2 : Bool} {s1 s2 : ByteArray} (h : u.cells = [.bool b1, .string s1, .bool b2, .string s2]) (ho : u.ok = true) : (.agg #[.bool b1, .string s1, .bool b2, .string s2] : Value) = Q u.rat := by
  cases u with
  | q r =>
    obtain ⟨rfl, rfl, rfl, rfl⟩ := NumV.of_q h
    rfl
  | raw c1 t1 c2 t2 =>
    obtain ⟨rfl, rfl, rfl, rfl⟩ := NumV.of_raw h
    have h2 : ∃ q : Rat, Value.agg #[.bool b1, .string s1, .bool b2, .string s2] = Q q := by
      have h3 : isQ b1 s1 b2 s2 = true := ho
      unfold isQ at h3
      exact @of_decide_eq_true _ (Classical.propDecidable _) h3
    have e : (NumV.raw b1 s1 b2 s2).rat = h2.choose := @dif_pos _ (Classical.propDecidable _) h2 _ _ _
    rw [e]
    exact h2.choose_spec
def joinC : List Bs8 → Bs8
  | [] => []
  | [t] => t
  | t :: u :: r => t ++ [44, 32] ++ joinC (u :: r)
theorem joinC_snoc (t : Bs8) : ∀ L : List Bs8, joinC (L ++ [t]) = joinC L ++ (if L = [] then [] else [44, 32]) ++ t
  | [] => by simp [joinC]
  | [u] => by simp [joinC]
  | u :: v :: r => by
    rw [List.cons_append, List.cons_append, joinC, joinC, ← List.cons_append, joinC_snoc t (v :: r)]
    simp
def quoS (n : Bs8) : Bs8 := n.flatMap fun c => if c = 34 then [34, 34] else [c]
def sNot : Bs8 := [110, 111, 116, 32]
def sObject : Bs8 := [111, 98, 106, 101, 99, 116, 40]
def sZone : Bs8 := [122, 111, 110, 101, 40, 34]
def sPoint : Bs8 := [112, 111, 105, 110, 116, 40]
mutual
noncomputable def txt : XT → Nat → Bs8
  | .mk o nm u l, lv =>
    match opsT.find? (fun f => decide ((f.2.1 : Int) = o)) with
    | some f =>
      if f.2.2 < lv then [40] ++ (if f.2.2 = 3 then sNot ++ txtAt l 0 3 else txtAt l 0 (if f.2.2 = 4 then 5 else f.2.2) ++ ([32] ++ f.1 ++ [32]) ++ txtAt l 1 (f.2.2 + 1)) ++ [41]
      else if f.2.2 = 3 then sNot ++ txtAt l 0 3 else txtAt l 0 (if f.2.2 = 4 then 5 else f.2.2) ++ ([32] ++ f.1 ++ [32]) ++ txtAt l 1 (f.2.2 + 1)
    | none =>
      if o = 1 then ratS u.rat else if o = 4 then nm else if o = 3 then sObject ++ ratS u.rat ++ [41] else if o = 5 then sZone ++ quoS nm ++ [34, 41]
      else if o = 6 then [91] ++ joinC (txtLs l) ++ [93] else if o = 2 then sPoint ++ joinC (txtLs l) ++ [41]
      else match funT.find? (fun f => decide ((f.2.1 : Int) = o)) with
        | some f => (f.1 ++ [40]) ++ joinC (txtLs l) ++ [41]
        | none => []
noncomputable def txtAt : List XT → Nat → Nat → Bs8
  | [], _, _ => []
  | x :: _, 0, lv => txt x lv
  | _ :: l, i + 1, lv => txtAt l i lv
noncomputable def txtLs : List XT → List Bs8
  | [] => []
  | x :: l => txt x 1 :: txtLs l
end
theorem txtAt_get : ∀ {l : List XT} {i : Nat} {y : XT} (lv : Nat), l[i]? = some y → txtAt l i lv = txt y lv
  | [], i, y, lv, h => by simp at h
  | x :: l, 0, y, lv, h => by simp at h; subst h; rw [txtAt]
  | x :: l, i + 1, y, lv, h => by rw [txtAt]; exact txtAt_get lv (by simpa using h)
theorem txtLs_len : ∀ l : List XT, (txtLs l).length = l.length
  | [] => by rw [txtLs]; rfl
  | x :: l => by rw [txtLs, List.length_cons, txtLs_len, List.length_cons]
theorem txtLs_take : ∀ {l : List XT} {i : Nat} {y : XT}, l[i]? = some y → (txtLs l).take (i + 1) = (txtLs l).take i ++ [txt y 1]
  | [], i, y, h => by simp at h
  | x :: l, 0, y, h => by simp at h; subst h; rw [txtLs]; rfl
  | x :: l, i + 1, y, h => by
    have ih := txtLs_take (l := l) (i := i) (y := y) (by simpa using h)
    rw [txtLs, List.take_succ_cons, ih]; rfl
mutual
def okX : XT → Prop
  | .mk o nm u l => nodeE (.mk o nm u l) = 0 ∧ okXs l
def okXs : List XT → Prop
  | [] => True
  | x :: l => okX x ∧ okXs l
end
theorem okX_parts {x : XT} (h : okX x) : nodeE x = 0 ∧ okXs x.args := by
  cases x with
  | mk o nm u l => rw [okX] at h; exact h
theorem okXs_get : ∀ {l : List XT} {i : Nat} {y : XT}, okXs l → l[i]? = some y → okX y
  | [], i, y, _, h => by simp at h
  | x :: l, 0, y, hk, h => by simp at h; subst h; rw [okXs] at hk; exact hk.1
  | x :: l, i + 1, y, hk, h => by rw [okXs] at hk; exact okXs_get hk.2 (by simpa using h)
mutual
theorem chk_ok : ∀ (x : XT) (lv n : Nat), (chk x lv n).1 = 0 → okX x
  | .mk o nm u l, lv, n, h => by
    rw [chk] at h
    split at h
    · cases h
    · split at h
      · cases h
      · split at h
        · rename_i h2; exact absurd h h2
        · rename_i h2
          rw [okX]
          exact ⟨by simpa using h2, chks_ok l (lv + 1) (n + 1) h⟩
theorem chks_ok : ∀ (l : List XT) (lv n : Nat), (chks l lv n).1 = 0 → okXs l
  | [], lv, n, h => by rw [okXs]; trivial
  | x :: l, lv, n, h => by
    rw [chks] at h
    rw [okXs]
    split at h
    · rename_i h2; exact absurd h h2
    · rename_i h2
      exact ⟨chk_ok x lv n (by simpa using h2), chks_ok l lv _ h⟩
end
end Go.Via
namespace Go.Via
open Go Go.RowKit
def sepS (i : Nat) : Bs8 := if i = 0 then [] else [44, 32]
theorem joinC_step {l : List XT} {i : Nat} {y : XT} (h : l[i]? = some y) : joinC ((txtLs l).take (i + 1)) = joinC ((txtLs l).take i) ++ sepS i ++ txt y 1 := by
  rw [txtLs_take h, joinC_snoc]
  have hlt : i < l.length := (List.getElem?_eq_some_iff.1 h).1
  have e : ((txtLs l).take i = []) = (i = 0) := by
    refine propext ⟨fun h1 => ?_, fun h1 => by rw [h1]; rfl⟩
    have h2 := congrArg List.length h1
    rw [List.length_take, txtLs_len, List.length_nil] at h2
    omega
  unfold sepS
  simp only [e]
theorem joinC_mono : ∀ (B A : List Bs8), (joinC A).length ≤ (joinC (A ++ B)).length
  | [], A => by simp
  | b :: B, A => by
    have h1 := joinC_mono B (A ++ [b])
    rw [List.append_assoc] at h1
    refine Nat.le_trans ?_ h1
    rw [joinC_snoc]
    simp
theorem joinC_take_le (l : List XT) (i : Nat) : (joinC ((txtLs l).take i)).length ≤ (joinC (txtLs l)).length := by
  have := joinC_mono ((txtLs l).drop i) ((txtLs l).take i)
  rwa [List.take_append_drop] at this
theorem txtLs_all (l : List XT) : (txtLs l).take l.length = txtLs l := List.take_of_length_le (by rw [txtLs_len]; exact Nat.le_refl _)
abbrev GM (m : Int) : Blk := ⟨some 0, 3, [.int .i64 m], 1, false⟩
end Go.Via
namespace Go.Proofs.YtfijbadahkmhbaaGreatDoor
open Go Go.RowKit Go.Via
def WriC (m : Int) (x : XT) : Prop := ∀ (z : XR x) (lv g : Nat) (a : Bool) (d : Bd), d.ok → okX x → x.fit = true → x.size ≤ 1000000000 → lv ≤ 9 → d.s.length + (txt x lv).length ≤ 17179869184 →
  ECall Tryz.prog 96 [BB g a d, BF d, gB z.T false, GM m] [.pointer (some ⟨g, 0, none⟩), z.v, .int .i64 (lv : Nat)] (BdX (d.s ++ txt x lv)) (fun _ => .tuple #[]) (fun d' => [BB g true d'.1, BF d'.1])
end Go.Proofs.YtfijbadahkmhbaaGreatDoor
namespace Go.Proofs.YtfijbadahkmhbaaGreatDoor
open Go Go.RowKit Go.Via Go.ChangeShapes Go.WideShapes
theorem below_kept {w w' : World} (h : Below w.heap.size w w') (may : MemPlace → Prop) : w.keptBut w' may := by
  have hb : ∀ b, b < w.heap.size → w'.heap[b]? = w.heap[b]? := h.block
  refine ⟨h.os, h.output, fun i hi => ?_⟩
  rw [hb i hi]
  split
  · rename_i e1 e2
    rw [e1] at e2; cases e2
    exact ⟨rfl, rfl, rfl, fun _ _ => rfl⟩
  · rename_i e1 e2
    rw [e1] at e2; cases e2
    exact Or.inr ⟨rfl, rfl⟩
  · rfl
set_option maxRecDepth 100000 in
theorem maxCell {W : World} (h : W.ShapedOpen Tryz.prog) : ∃ m : Int, BlkAt (Bs.of W) W (GM m) 0 := by
  obtain ⟨cs, hh, hs, hr⟩ := h.1 0 #[.int .i64 0] 3 (of_decide_eq_true (by kernel_rfl)) (by kernel_rfl)
  obtain ⟨ts, hts, _, hall⟩ := hr (by kernel_rfl)
  obtain rfl : ts = [3] := Option.some.inj (hts.symm.trans (show Tryz.prog.cellTypes Tryz.prog.depth 3 = some [3] by kernel_rfl))
  have h1 : cs.size = 1 := hs
  obtain ⟨u, hu', hok⟩ := hall 0 cs[0] (by simp [h1])
  obtain rfl : u = 3 := by simpa using hu'.symm
  unfold Cell.ok at hok
  rw [Tryz.underlying3] at hok
  cases hv : cs[0] <;> rw [hv] at hok <;> simp at hok
  case int k' n =>
    refine ⟨n, .inl ⟨cs, ⟨3, (0, 0), hh, (fun h => by cases h), (show 3 < mapMark by decide)⟩, h1, ?_⟩, fun h => by cases h⟩
    obtain ⟨l⟩ := cs
    match l, h1 with
    | [c], _ =>
      simp at hv
      rw [hv, hok.1]; rfl
theorem relGM {W : World} {m : Int} (h : BlkAt (Bs.of W) W (GM m) 0) : LRel (Bs.of W) [GM m] W := by
  refine ⟨BelowB.of (Below.refl _ _), fun k b hk => ?_, fun i j g bi bj hij hi hj ho => ?_, fun b hb hn => ?_⟩
  · cases k with
    | zero =>
      simp at hk; subst hk
      exact ⟨fun g hg => by cases hg; exact h, fun hn => by cases hn⟩
    | succ k => simp at hk
  · cases i with
    | zero => simp at hi; subst hi; cases ho
    | succ i => simp at hi
  · simp at hb; subst hb; cases hn
theorem str_strU (s : ByteArray) : s = strU s.data.toList := by
  apply ByteArray.ext
  show s.data = _
  unfold strU
  simp
end Go.Proofs.YtfijbadahkmhbaaGreatDoor
namespace Go.Proofs.YtfijbadahkmhbaaGreatDoor
open Go.ChangeShapes Go.WideShapes Go.ChangeAt Go.RowKit
theorem own : ownKnob Tryz.prog.godebug = none := by kernel_rfl
noncomputable def laidWorld (os : Os) : World :=
  let w0 := World.holding Tryz.prog os ⟨#[], #[], []⟩
  { w0 with heap := (w0.heap.modify 2 fun
      | .cells _ t frozen => .cells (List.map (Value.int .u8) ([128, 191, 160, 191, 128, 159, 144, 191, 128, 143] ++ List.replicate 22 0)).toArray t frozen
      | o => o).modify 1 fun
      | .cells _ t frozen => .cells (List.map (fun (z : Nat) => Value.int .u8 z) Go.Pinned.utf8FirstZ).toArray t frozen
      | o => o }
set_option maxRecDepth 100000 in
theorem laid_met (os : Os) (args : Array Value) : laidMet Tryz.prog [("unicode/utf8.acceptRanges", Rows.laid_unicode_utf8_acceptRanges), ("unicode/utf8.first", Rows.laid_unicode_utf8_first)] ((laidWorld os).forCall (fun _ _ => 0) ⟨#[], args, []⟩).memory :=
  laidMet_of_run' 8 (by kernel_rfl) (by kernel_rfl)
end Go.Proofs.YtfijbadahkmhbaaGreatDoor
