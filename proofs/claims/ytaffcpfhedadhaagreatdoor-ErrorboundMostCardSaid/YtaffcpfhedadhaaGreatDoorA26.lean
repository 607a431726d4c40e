/-
  Part 26 (chapter 32): lemmas, walks. Each theorem states its own conditions.
-/
import Derived.Lib.Repeat
import Derived.Sort.Grow
import Derived.Sort.EncStr
import Derived.Shelf.SlSortCmp.WholeK
import Derived.Shelf.SlSortCmp.NoneTotal
import Derived.Test.YtaffcpfhedadhaaGreatDoorA22
set_option linter.all false
set_option maxRecDepth 20000
set_option maxHeartbeats 20000000
namespace Go.Via
open Go Go.RowKit Go.Sort Go.Shelf Go.Proofs
section
variable{α:Type}[Inhabited α]{c:α->List Value}{k:Nat}
theorem CG{α:Type}[Inhabited α]{l:List α}{i:Nat}(h:i<l.length):l.toArray[i]! =l[i]:=by
 rw[getElem!_pos l.toArray i zI];rfl
theorem qbR{α:Type}[Inhabited α]{l:List α}{i:Nat}{x:α}(h:l[i]? =some x):l[i]! =x:=by
 rw[List.getElem!_eq_getElem?_getD,h];rfl
def qfb(h:jb α c k){l:List α}{t:Nat}(ht:t<l.length*k):∃x,l[t/k]? =some x∧(ai c l)[t]? =(c x)[t%k]? :=by
 have k0:0<k:=Nat.pos_of_ne_zero (by rintro rfl;simp at ht);have hi:t/k<l.length:=Nat.div_lt_of_lt_mul (by rw[Nat.mul_comm];exact ht);have hx:l[t/k]? =some l[t/k]:=List.getElem?_eq_getElem hi;refine⟨_,hx,?_⟩;have hm:t%k<k:=Nat.mod_lt _ k0;rw[<-h.get hx,List.getElem?_take,if_pos hm,List.getElem?_drop]
 congr 1
 rw[Nat.mul_comm];exact(Nat.div_add_mod t k).symm
theorem Va(h:jb α c k)(l:List α):Go.Sort.flatK c k l.toArray=(ai c l).toArray:=by
 refine Go.Sort.ext_get! (by simp[h.length]) fun t ht=>?_
 have ht':t<l.length*k:=(by simpa using ht);obtain⟨x,hx,hc⟩:=qfb h ht';rw[get_flatK _ _ _ _ (by simpa using ht')];have k0:0<k:=Nat.pos_of_ne_zero (by rintro rfl;simp at ht');have hm:t%k<(c x).length:=(by rw[h.len];exact Nat.mod_lt _ k0);have hi:t/k<l.length:=(List.getElem?_eq_some_iff.1 hx).1;rw[CG hi,(List.getElem?_eq_some_iff.1 hx).2,qbR (List.getElem?_eq_getElem hm)];have hr:t<(ai c l).length:=(by rw[h.length];exact ht');rw[CG hr];rw[List.getElem?_eq_getElem hr,List.getElem?_eq_getElem hm] at hc;exact(Option.some.inj hc).symm
def PE(h:jb α c k){B:Bs}{w:World}{L:List aJ}(hL:bg B L w){j g e n:Nat}{l:List α}(hk:L[j]? =some ⟨some g,e,ai c l,n,true⟩)(hn0:n≠0):HoldsK c k w g 0 l.toArray:=by
 unfold HoldsK;rw[Va h];intro t ht;have ht':t<(ai c l).length:=by simpa using ht
 obtain⟨g',hg',h2⟩:=hL.cell (k:=j) hk (List.getElem?_eq_getElem ht');cases hg';rw[Nat.zero_add];exact⟨by rw[h2,CG ht'];rfl,hL.loose hk rfl rfl hn0 t⟩
def qjl{vs:List Value}{cur:Array Value}(h:vs.length<=cur.size):(putCells id 0 vs.toArray cur).size=cur.size∧(putCells id 0 vs.toArray cur).toList.take vs.length=vs:=by
 refine⟨by simp[putCells],?_⟩
 apply List.ext_getElem?
 intro i;rw[List.getElem?_take]
 split
 ·rename_i hi
  rw[List.getElem?_eq_getElem hi,Array.getElem?_toList];unfold putCells;rw[Array.getElem?_mapIdx,Array.getElem?_eq_getElem ae];simp only[Option.map_some,Nat.zero_le,true_and,List.size_toArray,Nat.zero_add,hi,if_true,Nat.sub_zero];rw[CG hi]
  rfl
 ·rename_i hi
  rw[List.getElem?_eq_none ae]
def FX(h:jb α c k){B:Bs}{w:World}{L:List aJ}(hL:bg B L w){j g e n m:Nat}{l l':List α}{os:Array Obj}(hk:L[j]? =some ⟨some g,e,ai c l,n,true⟩)(hl:(ai c l').length<=n)(hn0:n≠0):
 bg B (L.set j ⟨some g,e,ai c l',n,true⟩) (sortWorldK c k w g 0 m l'.toArray os):=by
 have hlt:=hL.lt hk rfl;have e0:sortWorldK c k w g 0 m l'.toArray os=grow (Go.Sort.putRow id (Sort.ahead w m) g 0 (ai c l').toArray) os:=by
  unfold sortWorldK Go.Sort.putRowK;rw[Va h]
 rw[e0];have e1:(grow (Go.Sort.putRow id (Sort.ahead w m) g 0 (ai c l').toArray) os).heap=(w.heap.modify g (onCells (putCells id 0 (ai c l').toArray)))++os:=rfl;refine hL.rowMod hk rfl rfl hn0 (putCells id 0 (ai c l').toArray) (ai c l') (fun cur hc _=>by
 have hc':cur.size=n:=hc;obtain⟨p1,p2⟩:=qjl (vs:=ai c l') (cur:=cur) ae;exact⟨p1.trans hc,p2⟩) rfl rfl rfl (by rw[e1];simp) (fun i hi hne=>?_) (fun cur hcur=>?_) (Nat.le_add_right _ _)
 ·rw[e1,Array.getElem?_append_left qau,Array.getElem?_modify,if_neg (fun e=>hne e.symm)]
 ·rw[e1,Array.getElem?_append_left Tz,Array.getElem?_modify,if_pos rfl,hcur]
  rfl
abbrev mo1:Mo:=⟨True⟩
def qfc[Mo](hm:Mo.p){w w':World}(h:eH w.heap.size w w'):∃q os',w'=grow (w.drewN q) os':=by
 refine⟨w'.drawn-w.drawn,w'.heap.extract w.heap.size w'.heap.size,?_⟩;have hh:w'.heap=w.heap++w'.heap.extract w.heap.size w'.heap.size:=by
  apply Array.ext_getElem?
  intro i
  by_cases hi:i<w.heap.size
  ·rw[Array.getElem?_append_left hi,h.block i hi]
  ·rw[Array.getElem?_append_right ae,Array.getElem?_extract];have hs:=h.size
   split
   ·congr 1;omega
   ·rename_i h2
    have:w'.heap.size<=i:=ae;rw[Array.getElem?_eq_none this]
 cases w';have a1:=h.os;have a2:=h.tape;have a3:=h.output;have a4:=h.drawn hm;dsimp only at a1 a2 a3 a4 hh;unfold grow World.drewN;dsimp only;rw[<-hh,a1,a2,a3]
 congr 1
 omega
def Zx[Mo](hm:Mo.p){P:Program}{g:Nat}{cf:α->α->Int}(H:∀x y,aP P g #[.agg (c x).toArray,.agg (c y).toArray] (.int .i64 (cf x y)))(blk off size:Nat)(w:World):CmpLays P g #[] c k cf blk off size w:=fun m os dk hs x y=>by
 refine((H x y).2 _).mono ?_;rintro e w' ⟨he,hb⟩;exact⟨he,qfc hm hb⟩
def qjm{l:List α}{d:Array α}(h:PermIn 0 l.toArray.size l.toArray d):d.toList.Perm l:=by
 obtain⟨h1,_,h3⟩:=h;have e1:d.extract 0 l.toArray.size=d:=by rw[<-h1];simp
 have e2:l.toArray.extract 0 l.toArray.size=l.toArray:=bI;rw[e1,e2] at h3;exact h3
def qbS{lt:α->α->Bool}{n:Nat}{d:Array α}(h:SortedIn lt 0 n d)(hn:d.size=n):d.toList.Pairwise fun x y=>lt y x=false:=by
 rw[List.pairwise_iff_getElem];intro i j hi hj hij;have:=h i j (Nat.zero_le _) hij (by simp at hj;omega);rw[getElem!_pos d j (by simpa using hj),getElem!_pos d i qau] at this
 simpa using this
theorem Vb{lt:α->α->Bool}{a:Nat}{d:Array α}:∀{i:Nat},(∀j,a<j->j<=i->lt d[j]! d[j-1]! =false)->insInner lt a i d=d
 |0,_=>rfl
 |i+1,h=>by
  unfold insInner
  by_cases hc:i+1>a
  ·have:=h (i+1) hc (Nat.le_refl _);rw[Nat.add_sub_cancel] at this;rw[this,Bool.and_false,if_neg ax]
  ·rw[decide_eq_false hc,Bool.false_and,if_neg ax]
def IA{lt:α->α->Bool}{a b:Nat}{d:Array α}(h:∀j,a<j->j<b->lt d[j]! d[j-1]! =false):∀(n i:Nat),b-i=n->insOuter lt a b i d=d
 |0,i,hn=>by unfold insOuter;rw[if_neg ae]
 |n+1,i,hn=>by
  unfold insOuter;rw[if_pos ae,Vb fun j h1 h2=>h j h1 ae]
  exact IA h n (i+1) ae
def QZ{lt:α->α->Bool}{l:List α}(h:l.Pairwise fun x y=>lt y x=false):Sort.insertionSort lt l.toArray 0 l.length=l.toArray:=by
 refine IA (fun j h1 h2=>?_) _ _ rfl;rw[CG h2,CG (show j-1<l.length by omega)];exact List.pairwise_iff_getElem.1 h (j-1) j ae h2 ae
end
end Go.Via
