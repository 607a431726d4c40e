/-
  Part 41 (chapter 32): lemmas, walks. Each theorem states its own conditions.
-/
import Derived.Shelf.SlSortCmp.WholeK
import Derived.Shelf.SlSortCmp.NoneTotal
import Derived.Lib.Repeat
import Derived.Sort.Grow
import Derived.Sort.EncStr
import Derived.Test.YtaffcpfhedadhaaGreatDoorA35
set_option linter.all false
set_option maxRecDepth 20000
set_option maxHeartbeats 20000000
section
variable{P Q:Prop}{T:Type}{R:T->Prop}
def Yb(h:P:=by rw[qj8];exact ha):=h
end
namespace Go.Via
open Go
def qcc{α:Type}{c:α->List Value}{k:Nat}(h:jb α c k)(hk:0<k)(pre:List Value){l:List α}{b:Option Nat}(hb:b=none->pre++ai c l=[]):l.length=0∨∃g,b=some g:=
 sH h hk fun e=>(List.append_eq_nil_iff.1 (hb e)).2
def qr4{x y:Int}(m n:Nat)(hm:m<256)(hx:x=(m:Int))(hy:y=(n:Int)):IntKind.u8.wrap (x.tdiv y)=((m/n:Nat):Int):=by
 subst hx;subst hy;rw[show(m:Int).tdiv (n:Int)=((m/n:Nat):Int) from(Int.ofNat_tdiv m n).symm];have h:=Nat.div_le_self m n
 generalize m/n=q at h ⊢
 simp[IntKind.wrap,IntKind.bits,IntKind.signed];omega
def qgU{x y:Int}(m n:Nat)(hx:x=(m:Int))(hy:y=(n:Int)):IntKind.u8.wrap (x+y)=(((m+n)%256:Nat):Int):=by
 subst hx;subst hy;simp[IntKind.wrap,IntKind.bits,IntKind.signed]
def Gu(ch:Nat)(s:sJ):sJ:=⟨s.time,(s.x+ch/16)%256,(s.y+1)%256,s.kind⟩
def chS(ch:Nat)(l:List sJ):List sJ:=if 0<l.length∧1<ch%4 then(match l[ch/4%l.length]? with
 |some s=>l.set (ch/4%l.length) (Gu ch s)
 |none=>l) else l
theorem qj8(ch:Nat)(l:List sJ):(chS ch l).length=l.length:=by
 unfold chS
 split
 ·split
  ·rw[List.length_set]
  ·rfl
 ·rfl
def qn2{ch:Nat}{l:List sJ}(h:∀s∈l,okS s):∀s∈chS ch l,okS s:=fun s hs=>by
 unfold chS at hs
 split at hs
 ·split at hs
  ·rename_i u hu
   rcases List.mem_or_eq_of_mem_set hs with e|e
   ·exact h s e
   ·have hu':=h u (List.mem_of_getElem? hu);subst e;exact⟨hu'.1,Nat.mod_lt _ ax,Nat.mod_lt _ ax,hu'.2.2.2⟩
  ·exact h s hs
 ·exact h s hs
def qj9{ch k:Nat}{l:List sJ}{s:sJ}(h0:0<l.length)(h1:1<ch%4)(hk:k=ch/4%l.length)(hx:l[k]? =some s):chS ch l=(l.set k ⟨s.time,(s.x+ch/16)%256,s.y,s.kind⟩).set k (Gu ch s):=by
 subst hk;unfold chS;rw[if_pos ⟨h0,h1⟩,hx,List.set_set]
theorem qgV{ch:Nat}{l:List sJ}(h:¬(0<l.length∧1<ch%4)):chS ch l=l:=by unfold chS;rw[if_neg h]
def ul(ta xa ya:Nat)(a:List sJ)(tb xb yb:Nat)(b:List sJ)(ch:Nat):List PU:=if 0<ch%4 then jF ta xa ya (chS ch a) else jF tb xb yb b
section
variable{ta xa ya tb xb yb ch:Nat}{a b:List sJ}
def qka(h:¬0<ch%4):ul ta xa ya a tb xb yb b ch=jF tb xb yb b:=by unfold ul;rw[if_neg h]
def NE(h:0<ch%4):ul ta xa ya a tb xb yb b ch=jF ta xa ya (chS ch a):=by unfold ul;rw[if_pos h]
def qgW(ha:a.length<=6)(hb:b.length<=6):(ul ta xa ya a tb xb yb b ch).length<=21:=by
 unfold ul;split
 ·exact Nk Yb
 ·exact Nk hb
def qgX(ha:a.length<=6)(hb:b.length<=6):DC (ul ta xa ya a tb xb yb b ch):=by
 unfold ul;split
 ·exact Nj Yb
 ·exact Nj hb
def qgY:CW (jF ta xa ya a) (ul ta xa ya a tb xb yb b ch):=by
 unfold ul;split
 ·exact Vy
 ·exact Vy
end
end Go.Via
