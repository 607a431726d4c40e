/-
  Part 13 (chapter 32): lemmas, walks. Each theorem states its own conditions.
-/
import GoSem.Core.World
import Derived.MapKept
import Derived.WalkKit
import Derived.WalkSpells
import Derived.WalkLawsBesides
import Derived.Deep.LoopGhost
import Derived.Deep.AppendSrc
import Derived.Laws.BytesArg
import Derived.Laws.CopyRow
import Derived.Laws.AppendOwn
import Derived.Deep.Upon
import Derived.Laws.Small
import Derived.Test.YtaffcpfhedadhaaGreatDoorProg
import Derived.Shelf.Strings.Builder1
import Derived.Shelf.Strings.Builder2
import Derived.Shelf.Small.Utf8
import Derived.Shelf.Small.Bits
import Derived.Shelf.Small.Strs
import Derived.Shelf.Small.Wraps
import Derived.Shelf.Strings.BuilderF
import Derived.Shelf.Strconv.Itoa0
import Derived.Shelf.Strings.Search1
import Derived.Shelf.Strings.Prefix
import Derived.Shelf.Strings.Runes
import Derived.Shelf.Strings.AsciiSet
import Derived.Shelf.Bits.Mul64
import Derived.Shelf.Strings.Repeat
import Derived.Shelf.Unicode.DecodeSlow
import Derived.Laws.Externs
import Derived.Lib.ItoaNum
import Derived.Test.YtaffcpfhedadhaaGreatDoorA09
import Derived.Test.YtaffcpfhedadhaaGreatDoorA10
import Derived.Test.YtaffcpfhedadhaaGreatDoorA11
set_option linter.all false
set_option maxRecDepth 20000
set_option maxHeartbeats 20000000
namespace Go.Via
variable[Mo]
open Go Go.RowKit
def Oper.wp_monoQ{P:Program}{o:Oper}{a:Act}{w:World}{K K':Act->World->Prop}{Q Q':Exit->Act->World->Prop}(h:∀a w,K a w->K' a w)
 (hp:∀c a w,Q (.panic c) a w->Q' (.panic c) a w)(hl:LetsOut Q->LetsOut Q')(hh:o.wp P a w K Q):o.wp P a w K' Q':=by
 unfold Oper.wp at*
 generalize(execOp a.eval o).run P w=r at*
 cases r with
 |ok n w'=>
  cases n<;>simp only[Oper.upon] at hh ⊢ <;>
   first
    |exact h _ _ hh
    |exact Calls.mono hh (fun e w'' he=>by cases e<;>first|exact h _ _ he|exact hp _ _ _ he|exact hl he)
    |exact Rows.mono hh (fun _ _ he=>h _ _ he)
 |halt x w'=>cases x<;>simp only[Oper.upon] at hh ⊢ <;>first|exact hp _ _ _ hh|exact hh
def pG{P:Program}{md:Region.Mode}{ops:Array Oper}{Q Q':Exit->Act->World->Prop}(hn:∀a w,Q .normal a w->Q' .normal a w)
 (hp:∀c a w,Q (.panic c) a w->Q' (.panic c) a w)(hl:LetsOut Q->LetsOut Q'):∀(n:Nat) (listed:Array Bool) (a:Act) (w:World),wpAny P md ops Q n listed a w->wpAny P md ops Q' n listed a w
 |0,_,_,_,h=>⟨h.1,hn _ _ h.2⟩
 |n+1,listed,a,w,h=>⟨fun h0=>hn _ _ (h.1 h0),fun i hi=>by
 have h1:=h.2 i hi;unfold wpOp at h1 ⊢
 split
 ·rename_i ho;rw[ho] at h1;exact pG hn hp hl n _ _ _ h1
 ·rename_i o ho
  rw[ho] at h1;dsimp only at h1
  split
  ·rename_i hw
   rw[if_pos hw] at h1;exact h1.imp (Oper.wp_monoQ (pG hn hp hl n _) hp hl) (fun h2=>⟨h2.1,hl h2.2⟩)
  ·rename_i hw
   rw[if_neg hw] at h1;exact pG hn hp hl n _ _ _ h1⟩
def yL(ops:Array Oper):Array Bool->List Nat->Bool
 |_,[]=>true
 |listed,i::E=>(match ops[i]? with
 |some o=>jo o&& !kJ o
 |none=>false)&&Region.free .any ops listed i&&(Region.ready .any ops listed).contains i&&yL ops (listed.setIfInBounds i true) E
def qZ(X:Act->World->Prop):Exit->Act->World->Prop
 | .normal,a,w=>X a w
 |_,_,_=>False
def wF{P:Program}{ops:Array Oper}{X:Act->World->Prop}{B:Bs}{w:World}{nt:Nat}{L:List aJ}{n:Nat}(hsel:Region.noSelect ops=true){G:List (Nat×Value)->Array Bool->Prop}
 (hG:∀(t:List (Nat×Value)) (listed:Array Bool) (a:Act),G t listed->kQ B ⟨nt,t,L⟩ a w->wpAny P .any ops (qZ X) n listed a w):
 ∀(E:List Nat) (listed:Array Bool) (t:List (Nat×Value)) (a:Act),yL ops listed E=true->
  aY P [] ops (E.map fun i=>ops.getD i default) ⟨nt,t,[]⟩ (fun s'=>G s'.t (E.foldl (fun(x:Array Bool) i=>x.setIfInBounds i true) listed))->kQ B ⟨nt,t,L⟩ a w->wpAny P .any ops (qZ X) (E.length+n) listed a w
 |[],listed,t,a,_,hr,h=>by rw[show([]:List Nat).length+n=n by simp];exact hG t listed a hr h
 |i::E,listed,t,a,hc,hr,h=>by
  simp only[yL,Bool.and_eq_true,Bool.not_eq_true'] at hc;obtain⟨⟨⟨hk,hf⟩,hrd⟩,hE⟩:=hc;cases ho:ops[i]? with
  |none=>rw[ho] at hk;cases hk
  |some o=>
   rw[ho] at hk;simp only[Bool.and_eq_true,Bool.not_eq_true'] at hk;obtain⟨hmv,hcl⟩:=hk;have hoid:ops.getD i default=o:=by simp[ho]
   have hr1:iP P [] ops (ops.getD i default) ⟨nt,t,[]⟩ (fun s'=>aY P [] ops (E.map fun i=>ops.getD i default) s' (fun s'=>G s'.t (E.foldl (fun(x:Array Bool) i=>x.setIfInBounds i true) (listed.setIfInBounds i true)))):=hr;rw[hoid] at hr1;obtain⟨h0,g,hg,hh⟩:=hr1;have hw:=EF h hg;have hrel0:∀w':World,kQ ⟨w',fun _=>False,B.D⟩ ⟨nt,t,[]⟩ a w':=fun w'=>⟨h.df,h.size,h.tmp,⟨⟨rfl,rfl,rfl,Nat.le_refl _,fun _ _ _=>rfl,fun _=>Nat.le_refl _⟩,fun k b hk=>Tc,(fun i j g bi bj hij hi=>Oj),mO.nil _ _⟩⟩
   have hnsto:isSto o=false:=by
    unfold isSto;unfold jo at hmv
    split<;>first|rfl|(rename_i heq;rw[heq] at hmv;cases hmv)
   have hnal:isAl o=false:=by
    unfold isAl;unfold jo at hmv
    split
    ·rename_i heq;rw[heq] at hmv;cases hmv
    ·rename_i heq;rw[heq] at hmv;cases hmv
    ·rfl
   obtain⟨v,hy,hk⟩:∃v,Go.Yields P ops o v a∧aY P [] ops (E.map fun i=>ops.getD i default) ((⟨nt,t,[]⟩:St).put o.dst v) (fun s'=>G s'.t (E.foldl (fun(x:Array Bool) i=>x.setIfInBounds i true) (listed.setIfInBounds i true))):=by
    rcases hh with⟨h1,h2⟩|⟨h1,⟨h2,v,h3,h4⟩|⟨h2,_⟩|⟨hm,_⟩|⟨hm,_⟩|⟨hm,_⟩|⟨_,hm,_⟩⟩
    ·exact⟨undef,.inr ⟨by rw[hw,h1],rfl⟩,h2⟩
    ·exact⟨v,.inl ⟨by rw[hw,h1],fun w'=>h3.1 _ a w' (hrel0 w')⟩,h4⟩
    ·rw[hcl] at h2;cases h2
    ·simp[Jk,Qe,hmv] at hm
    ·rw[hnsto] at hm;cases hm
    ·rw[hnal] at hm;cases hm
    ·cases hm
   rw[show(i::E).length+n=(E.length+n)+1 by simp;omega];refine wpAny_take ho hsel hf hrd (fun c a w hq=>hq.elim) hy ?_;have hput:(⟨nt,t,[]⟩:St).put o.dst v=⟨nt,((⟨nt,t,[]⟩:St).put o.dst v).t,[]⟩:=by cases o.dst<;>rfl
   rw[hput] at hk;refine wF hsel hG E _ _ _ hE hk ?_;have h5:=h.put0 (dst:=o.dst) (v:=v) h0;have h6:(⟨nt,t,L⟩:St).put o.dst v=⟨nt,((⟨nt,t,[]⟩:St).put o.dst v).t,L⟩:=by cases o.dst<;>rfl
   rw[<-h6];exact h5
def OE{P:Program}{B:Bs}{Q:Exit->Act->World->Prop}{nt:Nat}{t:List (Nat×Value)}{L:List aJ}{id:Nat}{l l':List Oper}(E:List Nat)(n:Nat)(hm:P.follows .mixedOrders=true)
 (hc:(Region.noSelect l.toArray&&yL l.toArray (Array.replicate l.toArray.size false) E&&decide (E.length+n=l.toArray.size))=true)(hl:E.map (fun i=>l.toArray.getD i default)=l')
 (h:aY P [] l.toArray l' ⟨nt,t,[]⟩ (fun s'=>yG P l.toArray (fun s'=>At B s' (Q .normal)) n (E.foldl (fun(x:Array Bool) i=>x.setIfInBounds i true) (Array.replicate l.toArray.size false)) ⟨nt,s'.t,L⟩)):
 At B ⟨nt,t,L⟩ ((Code.region id l.toArray true).wp P Q):=fun a w hr=>by
 simp only[Bool.and_eq_true,decide_eq_true_eq] at hc;obtain⟨⟨h1,h2⟩,h3⟩:=hc;subst hl;refine wp_region_any hm ?_
 suffices hs:wpAny P .any l.toArray Q (E.length+n) (Array.replicate l.toArray.size false) a {w with drawn:=w.drawn+1} by rw[h3] at hs;exact hs
 refine pG (Q:=qZ (Q .normal)) (Q':=Q) (fun _ _ h=>h) (fun _ _ _ h=>h.elim) (fun⟨_,_,h⟩=>h.elim) _ _ _ _ ?_;refine wF (B:=B) (G:=fun t listed=>yG P l.toArray (fun s'=>At B s' (Q .normal)) n listed ⟨nt,t,L⟩) h1 (fun t listed a hG hrel=>Jp (Q:=qZ (Q .normal)) (fun s' a' w' hk hr'=>hk a' w' hr') _ _ _ _ _ hG hrel) E _ t a h2 h hr.drew
def Qz{P:Program}{ops:Array Oper}{K:St->Prop}{listed:Array Bool}{s:St}(h:Region.ready .any ops listed=[])(hk:K s):yG P ops K 0 listed s:=⟨h,hk⟩
end Go.Via
namespace Go.Via
open Go
def E8{m n:Nat}(h:(decide (nb m<=8)&&decide (nb n<=8))=true):m<18446744073709551616∧n<18446744073709551616∧nb m<=8∧nb n<=8:=by
 simp only[Bool.and_eq_true,decide_eq_true_eq] at h;have h1:=pz h.1;have h2:=pz h.2;exact⟨ae,ae,h.1,h.2⟩
def uy(X Y i:Nat):Nat:=(X%ag^i+Y%ag^i)/ag^i+X/ag^i%ag+Y/ag^i%ag
def uz(X Y i:Nat):Nat:=(X%ag^i+Y%ag^i)/ag^i
def rV(X Y i j:Nat):Nat:=if j<i then(X+Y)/ag^j%ag else X/ag^j%ag
theorem dh(i:Nat):0<ag^i:=Nat.pow_pos ax
def bH(n:Nat):n%ag<4294967296:=Nat.mod_lt _ ax
def yM(X Y i:Nat):uz X Y i<=1:=by
 unfold uz;have h1:=Nat.mod_lt X (dh i);have h2:=Nat.mod_lt Y (dh i);have:(X%ag^i+Y%ag^i)/ag^i<2:=by rw[Nat.div_lt_iff_lt_mul (dh i)];omega
 omega
theorem qaW(X Y:Nat):uz X Y 0=0:=by simp[uz,Nat.mod_one]
theorem Jt(X Y i:Nat):uy X Y i=uz X Y i+X/ag^i%ag+Y/ag^i%ag:=rfl
def Fa(X Y i:Nat):uy X Y i<8589934592:=by
 have:=yM X Y i;have h1:=bH (X/ag^i);have h2:=bH (Y/ag^i);rw[Jt];omega
theorem Wj(X Y i:Nat):uy X Y i/2^32=uz X Y (i+1):=by
 show _/ag=_;unfold uy uz;rw[Nat.pow_succ,Nat.mod_mul,Nat.mod_mul,<-Nat.div_div_eq_div_mul]
 congr 1
 have e:X%ag^i+ag^i*(X/ag^i%ag)+(Y%ag^i+ag^i*(Y/ag^i%ag))=(X%ag^i+Y%ag^i)+ag^i*(X/ag^i%ag+Y/ag^i%ag):=(by rw[Nat.mul_add];omega);rw[e,Nat.add_mul_div_left _ _ (dh i)];omega
theorem TY(X Y i:Nat):uy X Y i%4294967296=(X+Y)/ag^i%ag:=by
 show _%ag=_;have e:X+Y=(X%ag^i+Y%ag^i)+ag^i*(X/ag^i+Y/ag^i):=by
  have h1:=Nat.mod_add_div X (ag^i);have h2:=Nat.mod_add_div Y (ag^i);rw[Nat.mul_add];omega
 conv=>rhs;rw[e]
 rw[Nat.add_mul_div_left _ _ (dh i)];unfold uy
 generalize(X%ag^i+Y%ag^i)/ag^i=c
 generalize X/ag^i=p
 generalize Y/ag^i=q
 rw[Nat.add_assoc,Nat.add_mod,<-Nat.add_mod p q,<-Nat.add_mod]
theorem qaX(X Y i j:Nat):rV X Y (i+1) j=if j=i then uy X Y i%4294967296 else rV X Y i j:=by
 rw[TY];unfold rV
 by_cases e:j=i
 ·subst e;rw[if_pos ae,if_pos rfl]
 ·rw[if_neg e]
  by_cases c:j<i
  ·rw[if_pos c,if_pos ae]
  ·rw[if_neg c,if_neg ae]
theorem qh8(X Y i:Nat):rV X Y i i=X/ag^i%ag:=by unfold rV;rw[if_neg ae]
theorem yN{Y i:Nat}(h:(ah ag Y).length<=i):Y/ag^i%ag=0:=by
 rw[Nat.div_eq_of_lt (Nat.lt_of_lt_of_le (dM dD Y) (Nat.pow_le_pow_right ax h))];rfl
def BU(X Y:Nat):NV .u32 (ah ag X)++(NV .u32 (List.replicate ((ah ag X).length+1) 0)).drop (ah ag X).length=NV .u32 (row ((ah ag X).length+1) (rV X Y 0)):=by
 rw[Yp,Ot]
 congr 1
 have e:row ((ah ag X).length+1) (rV X Y 0)=row (ah ag X).length (fun j=>X/ag^j%ag)++[0]:=by
  unfold row;rw[List.range_succ,List.map_append]
  congr 1
  simp only[List.map_cons,List.map_nil,rV];rw[if_neg ae,yN (Nat.le_refl _)]
 rw[e,<-Ah dD X]
 congr 1
 simp
theorem Fb{X Y:Nat}(h:(ah ag Y).length<=(ah ag X).length):val ag (row ((ah ag X).length+1) (rV X Y ((ah ag X).length+1)))=X+Y:=by
 rw[cu (g:=fun j=>(X+Y)/ag^j%ag) (fun j hj=>by unfold rV;rw[if_pos hj]),pM ag ax,Nat.mod_eq_of_lt]
 have h1:=dM dD X;have h2:=Nat.lt_of_lt_of_le (dM dD Y) (Nat.pow_le_pow_right ax h);rw[Nat.pow_succ];have:ag^(ah ag X).length*2<=ag^(ah ag X).length*ag:=Nat.mul_le_mul_left _ ax;omega
def Ju(X Y i j:Nat):rV X Y i j<ag:=by unfold rV;split<;>exact bH _
def jY{n k:Nat}(h:nb n<=k):(ah ag n).length<=(k+3)/4:=by rw[EZ];omega
end Go.Via
