/-
  Part 13 (chapter 43): lemmas, walks. Each theorem states its own conditions.
-/
import Derived.Test.YtfijbadahkmhbaaGreatDoorA04
import Derived.Test.YtfijbadahkmhbaaGreatDoorA10
import Derived.Test.YtfijbadahkmhbaaGreatDoorA11
import Derived.Test.YtfijbadahkmhbaaGreatDoorA12
set_option linter.unusedVariables false
set_option linter.unusedSimpArgs false
set_option maxRecDepth 20000
set_option maxHeartbeats 20000000
namespace Go.Via
open Go Go.RowKit
theorem lex_txt{x:XT}(hx:okX x){g:Bs8}(hg:g≠[])(hs:∀c∈g,spL.contains c=true):Lex (render g (pcs x 1)) (toks (pcs x 1)++[(0,[])]):=by
 have h:=sep_pcs x 1 [] hx trivial (fun b h=>by cases h)
 rw[List.append_nil] at h
 exact lex_pcs hg hs _ h
def Reads(s:Bs8)(x:XT):Prop:=∃f r,lev f 1 (p0 s).adv=some (x,r)∧r.fail=false∧r.k=0
theorem okR_end(n:Nat):okR n (0,[]):=fun o _ _=>rfl
theorem reads_of{s:Bs8}{x:XT}(h:Lex s (toks (pcs x 1)++[(0,[])]))(hx:okX x)(hq:qX x):Reads s x:=by
 obtain⟨r,h1,h2,h3⟩:=(read_all x.size x (Nat.le_refl _) hx hq).1 1 (by decide) (by decide) (p0 s).adv (0,[]) [] (by rw[adv_fail];rfl) (h (p0 s) rfl) (okR_end 1)
 obtain⟨f,hf⟩:=h1.lev
 exact⟨f,r,hf,h2,congrArg Prod.fst h3.1⟩
theorem reads_txt{x:XT}(hx:okX x)(hq:qX x):Reads (txt x 1) x:=by
 rw[txt_pcs]
 exact reads_of (lex_txt hx (by decide) (by decide)) hx hq
theorem end_ok{r:Ps}(h:r.fail=false)(hk:r.k=0)(e:Nat):r.endE e=e∧r.endA=0:=by
 have h1:r.endP=r:=by unfold Ps.endP;rw[if_neg (fun c=>c.2 hk)]
 unfold Ps.endE Ps.endA
 rw[h1,h]
 exact⟨rfl,rfl⟩
def rep:Nat→Bs8→Bs8
 |0,_=>[]
 |k+1,w=>rep k w++w
theorem sNot_len:sNot.length=4:=rfl
theorem rep_len(k:Nat)(w:Bs8):(rep k w).length=k*w.length:=by
 induction k with
 |zero=>simp[rep]
 |succ k ih=>rw[rep,List.length_append,ih,Nat.succ_mul]
theorem rep_comm(w:Bs8):∀k,w++rep k w=rep k w++w
 |0=>by simp[rep]
 |k+1=>by rw[rep,←List.append_assoc,rep_comm w k]
def aX:XT:= .named 4 [97]
def notX:Nat→XT
 |0=>aX
 |k+1=> .node 25 [notX k]
def orX:Nat→XT
 |0=>aX
 |k+1=> .node 24 [orX k,.named 4 [98]]
theorem ok_a:nodeE aX=0:=by kernel_rfl
theorem ok_b:nodeE (.named 4 [98])=0:=by kernel_rfl
theorem ok_not(x:XT):nodeE (.node 25 [x])=0:=by kernel_rfl
theorem ok_or(x y:XT):nodeE (.node 24 [x,y])=0:=by kernel_rfl
theorem okX_a:okX aX:=by unfold aX XT.named;rw[okX,okXs];exact⟨ok_a,trivial⟩
theorem okX_b:okX (.named 4 [98]):=by unfold XT.named;rw[okX,okXs];exact⟨ok_b,trivial⟩
theorem qX_n(o:Nat)(n:Bs8):qX (.named o n):=by unfold XT.named;rw[qX,qXs];exact⟨⟨0,rfl⟩,trivial⟩
theorem notX_ok:∀k,okX (notX k)∧qX (notX k)
 |0=>⟨okX_a,qX_n 4 [97]⟩
 |k+1=>by
  obtain⟨h1,h2⟩:=notX_ok k
  rw[notX]
  refine⟨?_,?_⟩
  ·have:=ok_not (notX k)
   unfold XT.node at this ⊢
   rw[okX,okXs,okXs];exact⟨this,h1,trivial⟩
  ·unfold XT.node;rw[qX,qXs,qXs];exact⟨⟨0,rfl⟩,h2,trivial⟩
theorem orX_ok:∀k,okX (orX k)∧qX (orX k)
 |0=>⟨okX_a,qX_n 4 [97]⟩
 |k+1=>by
  obtain⟨h1,h2⟩:=orX_ok k
  rw[orX]
  refine⟨?_,?_⟩
  ·have:=ok_or (orX k) (.named 4 [98])
   unfold XT.node at this ⊢
   rw[okX,okXs,okXs,okXs];exact⟨this,h1,okX_b,trivial⟩
  ·unfold XT.node;rw[qX,qXs,qXs,qXs];exact⟨⟨0,rfl⟩,h2,qX_n 4 [98],trivial⟩
theorem txt_not:∀k lv,lv≤3→txt (notX k) lv=rep k sNot++[97]
 |0,lv,h=>by rw[notX];kernel_rfl
 |k+1,lv,h=>by
  have hf:opsT.find? (fun f=>decide ((f.2.1:Int)=((25:Nat):Int)))=some ([110,111,116],25,3):=by decide
  rw[notX]
  unfold XT.node
  rw[txt,hf]
  dsimp only
  rw[if_neg (by omega),if_pos rfl,txtAt,txt_not k 3 (by decide),rep,←rep_comm,List.append_assoc]
theorem txt_or:∀k,txt (orX k) 1=[97]++rep k [32,111,114,32,98]
 |0=>by rw[orX];kernel_rfl
 |k+1=>by
  have hf:opsT.find? (fun f=>decide ((f.2.1:Int)=((24:Nat):Int)))=some ([111,114],24,1):=by decide
  rw[orX]
  unfold XT.node
  rw[txt,hf]
  dsimp only
  rw[if_neg (by decide),if_neg (by decide),if_neg (by decide),txtAt,txtAt,txtAt,txt_or k,rep]
  have:txt (.named 4 [98]) (1+1)=[98]:=by kernel_rfl
  rw[this]
  simp
theorem chk_not:∀k lv,1≤lv→lv≤33→chk (notX k) lv (lv-1)=if lv+k≤32 then(0,lv+k) else(33,32)
 |0,lv,h1,h2=>by
  rw[chk_eq,if_neg (by omega)]
  by_cases h:lv=33
  ·subst h;rfl
  ·rw[if_neg (by omega),if_neg (by rw[notX,ok_a];simp),if_pos (by omega)]
   show(0,lv-1+1)=_
   rw[show lv-1+1=lv+0 by omega]
 |k+1,lv,h1,h2=>by
  rw[chk_eq,if_neg (by omega)]
  by_cases h:lv=33
  ·subst h;rw[if_pos (by decide),if_neg (by omega)]
  ·rw[if_neg (by omega),notX,if_neg (by rw[ok_not];simp)]
   show chks [notX k] (lv+1) (lv-1+1)=_
   have ih:=chk_not k (lv+1) (by omega) (by omega)
   rw[show lv+1-1=lv-1+1 by omega] at ih
   rw[chks,ih]
   by_cases hc:lv+1+k≤32
   ·have hc2:lv+(k+1)≤32:=by omega
    rw[if_pos hc,if_pos hc2,if_neg (by simp),chks,show lv+1+k=lv+(k+1) by omega]
   ·have hc2:¬lv+(k+1)≤32:=by omega
    rw[if_neg hc,if_neg hc2,if_pos (by simp)]
theorem chkE_not(k:Nat):chkE (notX k)=if 32≤k then 33 else 0:=by
 unfold chkE
 rw[chk_not k 1 (by decide) (by decide)]
 by_cases h:32≤k
 ·rw[if_pos h,if_neg (by omega)]
 ·rw[if_neg h,if_pos (by omega)]
theorem chk_or:∀k lv n,lv+k≤32→n+2*k+1≤256→chk (orX k) lv n=(0,n+2*k+1)
 |0,lv,n,h1,h2=>by
  rw[chk_eq,if_neg (by omega),if_neg (by omega),if_neg (by rw[orX,ok_a];simp)]
  rfl
 |k+1,lv,n,h1,h2=>by
  rw[chk_eq,if_neg (by omega),if_neg (by omega),orX,if_neg (by rw[ok_or];simp)]
  show chks [orX k,.named 4 [98]] (lv+1) (n+1)=_
  rw[chks,chk_or k (lv+1) (n+1) (by omega) (by omega),if_neg (by simp),chks]
  have hb:chk (.named 4 [98]) (lv+1) (n+1+2*k+1)=(0,n+1+2*k+1+1):=by
   rw[chk_eq,if_neg (by omega),if_neg (by omega),if_neg (by rw[ok_b];simp)];rfl
  rw[hb,if_neg (by simp),chks,show n+1+2*k+1+1=n+2*(k+1)+1 by omega]
theorem chkE_or{k:Nat}(h:k≤30):chkE (orX k)=0:=by
 unfold chkE
 rw[chk_or k 1 0 (by omega) (by omega)]
theorem orX_size:∀k,(orX k).size=1+2*k
 |0=>rfl
 |k+1=>by
  rw[orX]
  unfold XT.node
  rw[XT.size,XT.sizes,XT.sizes,XT.sizes,orX_size k]
  have:(XT.named 4 [98]).size=1:=rfl
  omega
theorem fit_n{n:Bs8}(h:n.length≤1000000):(XT.named 4 n).fit=true:=by
 unfold XT.named
 rw[XT.fit,XT.fits,decide_eq_true h]
 decide+kernel
theorem fit_node{o:Nat}{l:List XT}(h:XT.fits l=true):(XT.node o l).fit=true:=by
 unfold XT.node
 rw[XT.fit,h]
 decide+kernel
theorem notX_fit:∀k,(notX k).fit=true
 |0=>fit_n (by decide)
 |k+1=>by rw[notX];exact fit_node (by rw[XT.fits,XT.fits,notX_fit k];rfl)
theorem orX_fit:∀k,(orX k).fit=true
 |0=>fit_n (by decide)
 |k+1=>by rw[orX];exact fit_node (by rw[XT.fits,XT.fits,XT.fits,orX_fit k,fit_n (by decide)];rfl)
theorem climb{p q:Ps}{x:XT}{t:Tk}{ts:List Tk}(hn:p.is tNot=false)(h:PV p x q)(hq:q.fail=false)(hs:Str q (t::ts))(ho:okR 1 t):LV 1 p x q:=by
 have st:∀n,1≤n→SV n x q x q:=fun n hn=>SV.stop hq (opAt_none hq hs.1 (ho.mono hn))
 exact LV.ln (by decide) (by decide) (LV.ln (by decide) (by decide) (LV.l3 hn (LV.ln (by decide) (by decide) (LV.ln (by decide) (by decide) (LV.ln (by decide) (by decide) (LV.ln (by decide) (by decide) (LV.l8 h) (st 7 (by decide))) (st 6 (by decide))) (st 5 (by decide))) (st 4 (by decide)))) (st 2 (by decide))) (st 1 (by decide))
theorem paren_read{p q:Ps}{x:XT}{t:Tk}{ts:List Tk}(hp:p.fail=false)(ht:(p.k,p.tx)=(4,tOpen))(h:LV 1 p.adv x q)(hq:q.fail=false)(hs:Str q ((4,tShut)::t::ts))(ho:okR 1 t):∃r,LV 1 p x r∧r.fail=false∧Str r (t::ts):=by
 obtain⟨w1,w2,w3⟩:=want_tk (x:=tShut) hq hs (by decide)
 have h2:=PV.paren (by rw[is_tk hp ht];decide) h
 rw[w1] at h2
 exact⟨_,climb (by rw[is_tk hp ht];decide) h2 w2 w3 ho,w2,w3⟩
theorem okR_shut(n:Nat):okR n (4,tShut):=fun o ho _=>by
 have hall:∀o∈opsT,tIs (4,tShut) o.1=false:=by decide
 exact hall o ho
def parT:Nat→List Tk→List Tk
 |0,ts=>(1,[97])::ts
 |j+1,ts=>(4,tOpen)::parT j ((4,tShut)::ts)
theorem brk_shut(l:Bs8):brk (41::l):=fun c hc=>by
 have:(41:UInt8)=c:=by simpa using hc
 subst this;decide
theorem parT_lex:∀(j:Nat) (l:Bs8) (ts:List Tk),brk l→Lex l ts→Lex (rep j [40]++[97]++rep j [41]++l) (parT j ts)
 |0,l,ts,hb,h=>by
  have:=Lex.word (w:=[97]) (by decide) hb h
  simpa[rep,parT] using this
 |j+1,l,ts,hb,h=>by
  have ih:=parT_lex j (41::l) ((4,tShut)::ts) (brk_shut l) (Lex.sym (by decide) h)
  have:=Lex.sym (c:=40) (by decide) ih
  have e:rep (j+1) [40]++[97]++rep (j+1) [41]++l=40::(rep j [40]++[97]++rep j [41]++41::l):=by
   rw[rep,rep,←rep_comm [40] j]
   simp
  rw[e]
  exact this
theorem parT_read:∀(j:Nat) (p:Ps) (t:Tk) (ts:List Tk),p.fail=false→Str p (parT j (t::ts))→okR 1 t→∃r,LV 1 p aX r∧r.fail=false∧Str r (t::ts)
 |0,p,t,ts,hp,hs,ho=>by
  have h2:(p.adv).fail=false:=by rw[adv_fail,hp]
  exact⟨p.adv,climb (by rw[is_tk hp hs.1];decide) (PV.name (by decide) hp hs.1) h2 hs.2 ho,h2,hs.2⟩
 |j+1,p,t,ts,hp,hs,ho=>by
  obtain⟨q,a,b,c⟩:=parT_read j p.adv (4,tShut) (t::ts) (by rw[adv_fail,hp]) hs.2 (okR_shut 1)
  exact paren_read hp hs.1 a b c ho
theorem reads_par(j:Nat):Reads (rep j [40]++[97]++rep j [41]) aX:=by
 have h:=parT_lex j [] [(0,[])] (fun c hc=>by cases hc) Lex.nil
 rw[List.append_nil] at h
 obtain⟨r,h1,h2,h3⟩:=parT_read j (p0 (rep j [40]++[97]++rep j [41])).adv (0,[]) [] (by rw[adv_fail];rfl) (h (p0 _) rfl) (okR_end 1)
 obtain⟨f,hf⟩:=h1.lev
 exact⟨f,r,hf,h2,congrArg Prod.fst h3.1⟩
theorem reads_not(k:Nat):Reads (rep k sNot++[97]) (notX k):=by
 have:=reads_txt (notX_ok k).1 (notX_ok k).2
 rwa [txt_not k 1 (by decide)] at this
theorem reads_or(k:Nat):Reads ([97]++rep k [32,111,114,32,98]) (orX k):=by
 have:=reads_txt (orX_ok k).1 (orX_ok k).2
 rwa [txt_or k] at this
theorem rep_lt{i c:Nat}{w:Bs8}(h:i<c):Value.string (strU (rep (min i c) w++w))= .string (strU (rep (min (i+1) c) w)):=by
 rw[show min (i+1) c=min i c+1 by omega,rep]
theorem rep_ge{i c:Nat}{w:Bs8}(h:¬i<c):Value.string (strU (rep (min i c) w))= .string (strU (rep (min (i+1) c) w)):=by
 rw[show min (i+1) c=min i c by omega]
theorem rep_ltA{i c:Nat}{a w:Bs8}(h:i<c):Value.string (strU (a++rep (min i c) w++w))= .string (strU (a++rep (min (i+1) c) w)):=by
 rw[show min (i+1) c=min i c+1 by omega,rep,List.append_assoc]
theorem rep_geA{i c:Nat}{a w:Bs8}(h:¬i<c):Value.string (strU (a++rep (min i c) w))= .string (strU (a++rep (min (i+1) c) w)):=by
 rw[show min (i+1) c=min i c by omega]
theorem okX_aE:chkE aX=0:=chkE_or (k:=0) (by decide)
structure X7 where
 op:Int
 nm:ByteArray
 b1:Bool
 s1:ByteArray
 b2:Bool
 s2:ByteArray
 a:Option Addr
 n:Nat
 cap:Nat
def X7.v(w:X7):Value:= .agg #[.int .i64 w.op,.string w.nm,.bool w.b1,.string w.s1,.bool w.b2,.string w.s2,.slice w.a w.n w.cap]
def XR.f7{x:XT}(z:XR x):X7:=⟨z.op,z.nm,z.b1,z.s1,z.b2,z.s2,z.a,z.n,z.cap⟩
end Go.Via
namespace Go.Proofs.YtfijbadahkmhbaaGreatDoor
open Go Go.RowKit Go.Via
theorem c_ParseExpr_reads{s:Bs8}{x:XT}(hs:s.length≤4096)(hr:Reads s x)(hf:x.fit=true):ECall Tryz.prog 31 [] [.string (strU s)] (XR x) (fun z=> .tuple #[(if chkE x=0 then z.f7 else XR.empty.f7).v,.int .i64 0,.int .i64 (chkE x:Nat)]) (fun z=>[gB z.T true]):=by
 obtain⟨f,r,h1,h2,h3⟩:=hr
 have h:=c_ParseExpr_ok s hs f (x,r) h1 hf
 have e:(fun z:XR x=>peV (x,r) z)=fun z=> .tuple #[(if chkE x=0 then z.f7 else XR.empty.f7).v,.int .i64 0,.int .i64 (chkE x:Nat)]:=funext fun z=>by
  unfold peV
  simp only[(end_ok h2 h3 _).1,(end_ok h2 h3 0).2,ite_self]
  split<;>rfl
 exact e▸h
theorem c_ParseExpr_good{s:Bs8}{x:XT}(hs:s.length≤4096)(hr:Reads s x)(h0:chkE x=0)(hf:x.fit=true):ECall Tryz.prog 31 [] [.string (strU s)] (XR x) (fun z=> .tuple #[z.v,.int .i64 0,.int .i64 0]) (fun z=>[gB z.T true]):=by
 have h:=c_ParseExpr_reads hs hr hf
 have e:(fun z:XR x=>Value.tuple #[(if chkE x=0 then z.f7 else XR.empty.f7).v,.int .i64 0,.int .i64 (chkE x:Nat)])=fun z=> .tuple #[z.v,.int .i64 0,.int .i64 0]:=funext fun z=>by
  rw[if_pos h0,h0];rfl
 exact e▸h
end Go.Proofs.YtfijbadahkmhbaaGreatDoor
namespace Go.Via
open Go Go.RowKit
section
variable{P:Program}{bl:List Nat}{ops:Array Oper}{K:St→Prop}{rest:List Oper}{nt:Nat}{t:List (Nat×Value)}{L:List Blk}{d:Nat}{ty:TypeId}{pos:String}{af:Array Edge}{g:Option (Nat×Bool)}{x y:Operand}
end
theorem ECall.toS{P:Program}{f:Nat}{L0:List Blk}{args:List Value}{X:Type}{res:X→Value}{new:X→List Blk}(h:ECall P f L0 args X res new):SCall P f L0 args X res new:=⟨h.1,fun w hL=>h.2 (Bs.of w) w rfl hL⟩
end Go.Via
namespace Go.Proofs.YtfijbadahkmhbaaGreatDoor
open Go Go.RowKit Go.Via
end Go.Proofs.YtfijbadahkmhbaaGreatDoor
namespace Go.Via
open Go Go.RowKit
def NumV.parts:NumV→Bool×ByteArray×Bool×ByteArray
 | .q r=>(decide (r.num<0),mag r.num.natAbs,false,dm r)
 | .raw b1 s1 b2 s2=>(b1,s1,b2,s2)
theorem NumV.parts_cells{u:NumV}{b1 b2:Bool}{s1 s2:ByteArray}(h:u.cells=[.bool b1,.string s1,.bool b2,.string s2]):u.parts=(b1,s1,b2,s2):=by
 cases u with
 |q r=>obtain⟨rfl,rfl,rfl,rfl⟩:=NumV.of_q h;rfl
 |raw c1 t1 c2 t2=>obtain⟨rfl,rfl,rfl,rfl⟩:=NumV.of_raw h;rfl
def numE(a b:NumV):Bool:=(a.parts.1==b.parts.1)&&((a.parts.2.1==b.parts.2.1)&&((a.parts.2.2.1==b.parts.2.2.1)&&(a.parts.2.2.2==b.parts.2.2.2)))
theorem numE_cells{u v:NumV}{b1 b2 c1 c2:Bool}{s1 s2 t1 t2:ByteArray}(h:u.cells=[.bool b1,.string s1,.bool b2,.string s2])(k:v.cells=[.bool c1,.string t1,.bool c2,.string t2]):
 ((b1==c1)&&((s1==t1)&&((b2==c2)&&(s2==t2))))=numE u v:=by
 unfold numE
 rw[NumV.parts_cells h,NumV.parts_cells k]
theorem numE_refl(u:NumV):numE u u=true:=by
 unfold numE
 simp[bb_self]
mutual
def sameX:XT→XT→Bool
 | .mk o n u l,.mk o' n' u' l'=>decide (o=o')&&((n==n')&&(numE u u'&&sames l l'))
def sames:List XT→List XT→Bool
 |[],[]=>true
 |x::l,y::m=>sameX x y&&sames l m
 |[],_::_=>false
 |_::_,[]=>false
end
theorem sameX_eq(x y:XT):sameX x y=(decide (x.op=y.op)&&((x.name==y.name)&&(numE x.num y.num&&sames x.args y.args))):=by
 cases x;cases y;rw[sameX];rfl
theorem sames_len:∀{l m:List XT},l.length≠m.length→sames l m=false
 |[],[],h=>absurd rfl h
 |[],_::_,_=>by rw[sames]
 |_::_,[],_=>by rw[sames]
 |x::l,y::m,h=>by rw[sames,sames_len (l:=l) (m:=m) (fun e=>h (by simp[e])),Bool.and_false]
theorem sames_step{l m:List XT}{i:Nat}{x y:XT}(hx:l[i]? =some x)(hy:m[i]? =some y):sames (l.drop i) (m.drop i)=(sameX x y&&sames (l.drop (i+1)) (m.drop (i+1))):=by
 obtain⟨hl,rfl⟩:=List.getElem?_eq_some_iff.1 hx
 obtain⟨hm,rfl⟩:=List.getElem?_eq_some_iff.1 hy
 rw[List.drop_eq_getElem_cons hl,List.drop_eq_getElem_cons hm,sames]
theorem sames_end{l m:List XT}{i:Nat}(h:i=l.length)(e:l.length=m.length):sames (l.drop i) (m.drop i)=true:=by
 subst h
 rw[List.drop_length,e,List.drop_length,sames]
mutual
theorem sameX_refl:∀x:XT,sameX x x=true
 | .mk o n u l=>by rw[sameX,numE_refl,sames_refl l];simp
theorem sames_refl:∀l:List XT,sames l l=true
 |[]=>by rw[sames]
 |x::l=>by rw[sames,sameX_refl x,sames_refl l];rfl
end
theorem byS2{p:XT→XT→Prop}(h:∀x:XT,(∀x':XT,x'.size<x.size→∀y',p x' y')→∀y,p x y)(x y:XT):p x y:=by
 suffices k:∀n:Nat,∀x:XT,x.size<n→∀y,p x y from k _ x (Nat.lt_succ_self _) y
 intro n
 induction n with
 |zero=>intro x hx;omega
 |succ n ih=>exact fun x hx y=>h x (fun x' hx' y'=>ih x' (by omega) y') y
end Go.Via
namespace Go.Proofs.YtfijbadahkmhbaaGreatDoor
open Go Go.RowKit Go.Via
def SamC(x y:XT):Prop:=∀(z:XR x) (u:XR y),x.size≤1000000000→ECall Tryz.prog 32 [gB z.T false,gB u.T false] [z.v,u.v] Unit (fun _=> .bool (sameX x y)) (fun _=>[])
theorem c_same_step{x y:XT}(z:XR x)(u:XR y)(H:∀x1:XT,x1.size<x.size→∀y1,SamC x1 y1)(hM:x.size≤1000000000):ECall Tryz.prog 32 [gB z.T false,gB u.T false] [z.v,u.v] Unit (fun _=> .bool (sameX x y)) (fun _=>[]):=by
 refine⟨by kernel_rfl,fun B w hD hL0=>?_⟩;obtain⟨h1,h2,h3,h4,h5,h6⟩:=z.inv;obtain⟨k1,k2,k3,k4,k5,k6⟩:=u.inv;have hlx:=XT.len_sizes x.args;have hsx:=XT.size_eq x;refine cB2 53 Tryz.func32 hL0 ?_;refine A2 ?_;refine Bo [_,_,_,_,_,_,_] 7 (fun g=>[_,_,⟨some g,30,_,7,true⟩]) (fun g0=>?_);refine Bo [_,_,_,_,_,_,_] 7 (fun g=>[_,_,_,⟨some g,30,_,7,true⟩]) (fun g1=>?_);refine A12 ?_;refine Rs 11 ?_ ?_<;>intro hb0
 ·have q1:x.op≠y.op:=by rw[←h1,←k1];have hh:=hb0;simpa using hh
  refine A32 ?_;refine at_end1 rfl (res_tmp rfl) (fun w hL=>⟨(),eB (show sameX x y=false from by rw[sameX_eq,decide_eq_false q1];rfl).symm,hL.pk []⟩)
 ·have q1:x.op=y.op:=by rw[←h1,←k1];have hh:=hb0;simpa using hh
  refine A5 ?_;refine r_know 16 (.bool (!(x.name==y.name))) rfl (by rw[h2,k2,bne,strU_beq]) ?_;refine A2 ?_;refine Rs 18 ?_ ?_<;>intro hb1
  ·have q2:(x.name==y.name)=false:=by have hh:=hb1;simpa using hh
   refine A25 ?_;refine at_end1 rfl (res_tmp rfl) (fun w hL=>⟨(),eB (show sameX x y=false from by rw[sameX_eq,q2,Bool.false_and,Bool.and_false]).symm,hL.pk []⟩)
  ·have q2:(x.name==y.name)=true:=by have hh:=hb1;simpa using hh
   refine A1 ?_;refine Ld 2 2 [_,_,_,_] ti27 ?_;refine A1 ?_;refine Ld 3 2 [_,_,_,_] ti27 ?_;refine r_neqAgg rfl rfl rfl rfl gd27 (eq27r _ _ _ _ _ _ _ _) ?_;refine r_know 23 (.bool (!numE x.num y.num)) rfl (by rw[numE_cells h3 k3]) ?_;refine A2 ?_;refine Rs 25 ?_ ?_<;>intro hb2
   ·have q3:numE x.num y.num=false:=by have hh:=hb2;simpa using hh
    refine A18 ?_;refine at_end1 rfl (res_tmp rfl) (fun w hL=>⟨(),eB (show sameX x y=false from by rw[sameX_eq,q3,Bool.false_and,Bool.and_false,Bool.and_false]).symm,hL.pk []⟩)
   ·have q3:numE x.num y.num=true:=by have hh:=hb2;simpa using hh
    refine A3 ?_;refine r_know 28 (.int .i64 (x.args.length:Nat)) rfl (by rw[h5]) ?_;refine A3 ?_;refine r_know 31 (.int .i64 (y.args.length:Nat)) rfl (by rw[k5]) ?_;refine A4 ?_;refine Cd ?_ ?_<;>intro hb3
    ·have q4:x.args.length≠y.args.length:=by have hh:=hb3;simp at hh;omega
     refine A7 ?_;refine at_end1 rfl (res_tmp rfl) (fun w hL=>⟨(),eB (show sameX x y=false from by rw[sameX_eq,sames_len q4,Bool.and_false,Bool.and_false,Bool.and_false]).symm,hL.pk []⟩)
    ·have q4:x.args.length=y.args.length:=by have hh:=hb3;simp at hh;omega
     refine A9 ?_;refine El (ι:={i:Nat // i≤x.args.length∧sames x.args y.args=sames (x.args.drop i) (y.args.drop i)}) (fun⟨i,hi,hI⟩=>([(2,.pointer (some ⟨g0,0,none⟩)),(3,.pointer (some ⟨g1,0,none⟩)),(5,.int .i64 (i:Nat))],[gB z.T false,gB u.T false,XB g0 z,XB g1 u],x.args.length-i)) ⟨0,Nat.zero_le _,by rw[List.drop_zero,List.drop_zero]⟩ ?_ (hL:=Weak.auto);rintro⟨i,hi,hI⟩;(try dsimp only);refine A7 ?_;refine r_know 37 (.int .i64 (x.args.length:Nat)) rfl (by rw[h5]) ?_;refine A3 ?_;refine Cd ?_ ?_<;>intro hb5
     ·have hlt:i<x.args.length:=by have:=of_decide_eq_true hb5;omega
      obtain⟨x1,hx1⟩:∃x1,x.args[i]? =some x1:=⟨x.args[i],List.getElem?_eq_getElem hlt⟩;obtain⟨y1,hy1⟩:∃y1,y.args[i]? =some y1:=⟨y.args[i]'(by omega),List.getElem?_eq_getElem _⟩;obtain⟨ga,oa,ca,v1,hza,hma,hra,hTa,hna⟩:=z.arg hx1;obtain⟨gb,ob,cb,v2,hzb,hmb,hrb,hTb,hnb⟩:=u.arg hy1;have hs1:x1.size≤1000000000:=by have:=XT.arg_lt hx1;omega
      refine A5 ?_;refine at_drawnI [] mixed (by kernel_rfl) (by kernel_rfl) ?_;refine A3 ?_;refine r_indexAddrG (gg:=ga) (len:=z.n) (cap:=z.cap) (oa+i*7) u28 ti30 rfl rfl (congrArg (fun a=>some (Value.slice a z.n z.cap)) hza) rfl (by omega) (by omega) (by show oa+Int.toNat _*7=_;omega) ?_;refine r_loadT (v:=v1.v) 0 (oa+i*7) v1.cs rfl rfl rfl z.hT hma hna rfl ti30 hra rfl rfl rfl ?_;refine A3 ?_;refine r_indexAddrG (gg:=gb) (len:=u.n) (cap:=u.cap) (ob+i*7) u28 ti30 rfl rfl (congrArg (fun a=>some (Value.slice a u.n u.cap)) hzb) rfl (by omega) (by omega) (by show ob+Int.toNat _*7=_;omega) ?_;refine r_loadT (v:=v2.v) 1 (ob+i*7) v2.cs rfl rfl rfl u.hT hmb hnb rfl ti30 hrb rfl rfl rfl ?_;have hcx:=H x1 (XT.arg_lt hx1) y1 v1 v2 hs1;rw[hTa,hTb] at hcx;refine r_scall0 [v1.v,v2.v] [0,1] rfl rfl rfl (ECall.toS hcx) ⟨⟨_,rfl,Blk.le_refl _⟩,⟨_,rfl,Blk.le_refl _⟩,trivial⟩ rfl ?_;refine A3 ?_;refine Cd ?_ ?_<;>intro hb6
      ·have hs:sameX x1 y1=false:=by have hh:=hb6;simpa using hh
       refine A11 ?_;refine at_end1 rfl (res_tmp rfl) (fun w hL=>⟨(),eB (show sameX x y=false from by rw[sameX_eq,decide_eq_true q1,q2,q3,hI,sames_step hx1 hy1,hs];rfl).symm,hL.pk []⟩)
      ·have hs:sameX x1 y1=true:=by have hh:=hb6;simpa using hh
       refine A5 ?_;refine Ar (((i+1:Nat):Int)) ?_;refine A3 ?_;exact Nl ⟨i+1,hlt,by rw[hI,sames_step hx1 hy1,hs];rfl⟩ (hL:=Weak.auto)
     ·have hge:i=x.args.length:=by have:=of_decide_eq_false hb5;omega
      refine A11 ?_;refine at_end1 rfl (res_tmp rfl) (fun w hL=>⟨(),eB (show sameX x y=true from by rw[sameX_eq,decide_eq_true q1,q2,q3,hI,sames_end hge q4];rfl).symm,hL.pk []⟩)
theorem c_same(x y:XT):SamC x y:=byS2 (fun x H y z u hM=>c_same_step z u H hM) x y
abbrev QBr(g:Nat)(kind:Int)(b:Option Nat)(l:List Bs8)(cap:Nat){x:XT}(z:XR x):Blk:=⟨some g,39,[.int .i64 kind,slv b 0 l.length cap,.int .i64 z.op,.string z.nm,.bool z.b1,.string z.s1,.bool z.b2,.string z.s2,.slice z.a z.n z.cap],9,false⟩
theorem c_Parse_1(kind:Int)(hk: -9223372036854775808≤kind∧kind≤9223372036854775807)(b:Option Nat)(e:Nat)(l:List Bs8)(n cap:Nat)(hll:l.length≤1000000)(hvl:∀v∈l,v.length≤1000000){x:XT}(z:XR x)(hf:x.fit=true)(hM:x.size≤1000000)(gx:Nat):ECall Tryz.prog 79 [QBr gx kind b l cap z,VBk b e [] l n,gB z.T false] [.pointer (some ⟨gx,0,none⟩)] Unit (fun _=> .int .i64 (chkQ kind l x:Nat)) (fun _=>[]):=by
 refine⟨by kernel_rfl,fun B w hD hL0=>?_⟩;refine cB1 4 Tryz.func79 hL0 ?_;refine A6 ?_;refine at_regionM ?_;refine Ld 0 0 [_,_,_,_,_,_,_,_,_] ti39 ?_;refine Kr 2 (QV kind b [] l cap z) ?_;refine Gm 0 [] [1,2] (fun _=>[_,_,_]) (c_Check kind hk b e [] l n cap hll hvl z hf hM) (fun _=>?_);refine A4 ?_;refine E1 fun w hL=>⟨(),rfl,hL.pk []⟩
theorem c_p_end_q(p:Ps)(g:Nat)(kind:Int)(hk: -9223372036854775808≤kind∧kind≤9223372036854775807)(b:Option Nat)(e:Nat)(l:List Bs8)(n cap:Nat)(hll:l.length≤1000000)(hvl:∀v∈l,v.length≤1000000){x:XT}(z:XR x)(hf:x.fit=true)(hM:x.size≤1000000)(gx:Nat):ECall Tryz.prog 63 [PB g p true,QBr gx kind b l cap z,VBk b e [] l n,gB z.T false] [.pointer (some ⟨g,0,none⟩),.func (.func 79) #[] #[.pointer (some ⟨gx,0,none⟩)]] Unit (fun _=> .tuple #[.int .i64 (p.endA:Nat),.int .i64 (p.endE (chkQ kind l x):Nat)]) (fun _=>[PB g p.endP true]):=by
 refine⟨by kernel_rfl,fun B w hD hL0=>?_⟩;refine cB2 37 Tryz.func63 hL0 ?_;refine A15 ?_;refine Rs 11 ?_ ?_<;>intro hb0
 ·have hfl:p.fail=false:=by simpa using hb0
  refine A9 ?_;refine Cd ?_ ?_<;>intro hb1
  ·have hk0:p.k≠0:=by have hh:=hb1;simp only[bne_iff_ne,bne_eq_false_iff_eq,ne_eq] at hh;omega
   refine at_regionM ?_;refine A1 ?_;refine Gm 1 [0] [] (fun _=>[PB g (p.stop 15) true,_,_,_]) (c_p_stop p 15 g) (fun _=>?_);refine A11 ?_;refine Cd ?_ ?_<;>intro hb2
   ·have hf2:=hb2;refine A1 ?_;refine at_drawnI [2000000] mixed (by kernel_rfl) (by kernel_rfl) ?_;refine A16 ?_;refine at_end2 rfl (res_tmp rfl) (res_tmp rfl) (fun w hL=>by
 have hE:p.endP=p.stop 15:=(by unfold Ps.endP;rw[if_pos ⟨hfl,hk0⟩]);refine⟨(),?_,?_⟩
 ·unfold Ps.endA Ps.endE;rw[hE,if_pos hf2,if_pos hf2];try rfl
 ·rw[hE];exact hL.pk [some 0])
   ·have hf2:=hb2;refine A3 ?_;refine at_regionM ?_;refine A1 ?_;refine r_gfcallM (f:=79) (A:=[]) (C:=[QBr gx kind b l cap z,VBk b e [] l n,gB z.T false]) [] [.pointer (some ⟨gx,0,none⟩)] [] [1,2,3] (fun _=>[_,_,_,_]) rfl rfl rfl rfl rfl (c_Parse_1 kind hk b e l n cap hll hvl z hf hM gx) (by decide) rfl rfl ⟨⟨_,rfl,Blk.le_refl _⟩,⟨_,rfl,Blk.le_refl _⟩,⟨_,rfl,Blk.le_refl _⟩,trivial⟩ rfl rfl (fun _=>rfl) (fun _=>allOwn rfl) (fun _=>rfl) (fun _=>?_);refine A5 ?_;refine at_end2 rfl (res_tmp rfl) (res_tmp rfl) (fun w hL=>by
 have hE:p.endP=p.stop 15:=(by unfold Ps.endP;rw[if_pos ⟨hfl,hk0⟩]);refine⟨(),?_,?_⟩
 ·unfold Ps.endA Ps.endE;rw[hE,if_neg (by rw[hf2];simp),if_neg (by rw[hf2];simp)];try rfl
 ·rw[hE];exact hL.pk [some 0])
  ·have hk0:p.k=0:=by have hh:=hb1;simp only[bne_iff_ne,bne_eq_false_iff_eq,ne_eq] at hh;omega
   refine A11 ?_;refine Cd ?_ ?_<;>intro hb2
   ·have hf2:=hb2;refine A1 ?_;refine at_drawnI [2000000] mixed (by kernel_rfl) (by kernel_rfl) ?_;refine A16 ?_;refine at_end2 rfl (res_tmp rfl) (res_tmp rfl) (fun w hL=>by
 have hE:p.endP=p:=(by unfold Ps.endP;rw[if_neg (fun h=>h.2 hk0)]);refine⟨(),?_,?_⟩
 ·unfold Ps.endA Ps.endE;rw[hE,if_pos hf2,if_pos hf2];try rfl
 ·rw[hE];exact hL.pk [some 0])
   ·have hf2:=hb2;refine A3 ?_;refine at_regionM ?_;refine A1 ?_;refine r_gfcallM (f:=79) (A:=[]) (C:=[QBr gx kind b l cap z,VBk b e [] l n,gB z.T false]) [] [.pointer (some ⟨gx,0,none⟩)] [] [1,2,3] (fun _=>[_,_,_,_]) rfl rfl rfl rfl rfl (c_Parse_1 kind hk b e l n cap hll hvl z hf hM gx) (by decide) rfl rfl ⟨⟨_,rfl,Blk.le_refl _⟩,⟨_,rfl,Blk.le_refl _⟩,⟨_,rfl,Blk.le_refl _⟩,trivial⟩ rfl rfl (fun _=>rfl) (fun _=>allOwn rfl) (fun _=>rfl) (fun _=>?_);refine A5 ?_;refine at_end2 rfl (res_tmp rfl) (res_tmp rfl) (fun w hL=>by
 have hE:p.endP=p:=(by unfold Ps.endP;rw[if_neg (fun h=>h.2 hk0)]);refine⟨(),?_,?_⟩
 ·unfold Ps.endA Ps.endE;rw[hE,if_neg (by rw[hf2];simp),if_neg (by rw[hf2];simp)];try rfl
 ·rw[hE];exact hL.pk [some 0])
 ·have hfl:p.fail=true:=by simpa using hb0
  refine A21 ?_;refine Cd ?_ ?_<;>intro hb1
  ·have hf2:=hb1;refine A1 ?_;refine at_drawnI [2000000] mixed (by kernel_rfl) (by kernel_rfl) ?_;refine A16 ?_;refine at_end2 rfl (res_tmp rfl) (res_tmp rfl) (fun w hL=>by
 have hE:p.endP=p:=(by unfold Ps.endP;rw[if_neg (fun h=>by rw[hfl] at h;cases h.1)]);refine⟨(),?_,?_⟩
 ·unfold Ps.endA Ps.endE;rw[hE,if_pos hf2,if_pos hf2];try rfl
 ·rw[hE];exact hL.pk [some 0])
  ·have hf2:=hb1;refine A3 ?_;refine at_regionM ?_;refine A1 ?_;refine r_gfcallM (f:=79) (A:=[]) (C:=[QBr gx kind b l cap z,VBk b e [] l n,gB z.T false]) [] [.pointer (some ⟨gx,0,none⟩)] [] [1,2,3] (fun _=>[_,_,_,_]) rfl rfl rfl rfl rfl (c_Parse_1 kind hk b e l n cap hll hvl z hf hM gx) (by decide) rfl rfl ⟨⟨_,rfl,Blk.le_refl _⟩,⟨_,rfl,Blk.le_refl _⟩,⟨_,rfl,Blk.le_refl _⟩,trivial⟩ rfl rfl (fun _=>rfl) (fun _=>allOwn rfl) (fun _=>rfl) (fun _=>?_);refine A5 ?_;refine at_end2 rfl (res_tmp rfl) (res_tmp rfl) (fun w hL=>by
 have hE:p.endP=p:=(by unfold Ps.endP;rw[if_neg (fun h=>by rw[hfl] at h;cases h.1)]);refine⟨(),?_,?_⟩
 ·unfold Ps.endA Ps.endE;rw[hE,if_neg (by rw[hf2];simp),if_neg (by rw[hf2];simp)];try rfl
 ·rw[hE];exact hL.pk [some 0])
def headK(p:Ps):Nat×List Bs8×Ps:=
 if p.is tValue=true then(1,[],p.adv)
 else if p.is tObjects=true then(2,[p.adv.tx],p.adv.name.want tWhere)
 else if p.is tPairs=true then(3,[p.adv.tx,(p.adv.name.want tComma).tx],(p.adv.name.want tComma).name.want tWhere)
 else(0,[],p.stop 15)
noncomputable def pqV(kind:Nat)(l:List Bs8)(r:XT×Ps)(b:Option Nat)(z:XR r.1):Value:=
 .tuple #[if r.2.endE (chkQ kind l r.1)=0 then QV kind b [] l l.length z else QV 0 none [] [] 0 XR.empty,.int .i64 ((if r.2.endE (chkQ kind l r.1)=0 then 0 else r.2.endA:Nat):Int),.int .i64 (r.2.endE (chkQ kind l r.1):Nat)]
theorem pqV_no(kind:Nat)(l:List Bs8){r:XT×Ps}(b:Option Nat)(z:XR r.1)(h:r.2.endE (chkQ kind l r.1)≠0):pqV kind l r b z= .tuple #[QV 0 none [] [] 0 XR.empty,.int .i64 (r.2.endA:Nat),.int .i64 (r.2.endE (chkQ kind l r.1):Nat)]:=by
 unfold pqV
 simp only[if_neg h]
theorem pqV_yes(kind:Nat)(l:List Bs8){r:XT×Ps}(b:Option Nat)(z:XR r.1)(h:r.2.endE (chkQ kind l r.1)=0):pqV kind l r b z= .tuple #[QV kind b [] l l.length z,.int .i64 0,.int .i64 0]:=by
 unfold pqV
 simp only[h,if_true]
 rfl
theorem c_Parse_ok(s:Bs8)(hs:s.length≤4096)(kind:Nat)(l:List Bs8)(q:Ps)(hh:headK (p0 s).adv=(kind,l,q))(f:Nat)(r:XT×Ps)(hr:lev f 1 q=some r)(hf:r.1.fit=true)(hM:r.1.size≤1000000):ECall Tryz.prog 42 [] [.string (strU s)] (Option Nat×XR r.1) (fun z=>pqV kind l r z.1 z.2) (fun z=>[⟨z.1,9,SB l,l.length,true⟩,gB z.2.T true]):=by
 refine⟨by kernel_rfl,fun B w hD hL0=>?_⟩;have hP:=Ps.adv_good (p:=p0 s) ⟨hs,Nat.zero_le _⟩;have hA:=Ps.adv_good hP.1;have hC:=Ps.want_good (x:=tComma) (Ps.name_good hA);refine cB1 62 Tryz.func42 hL0 ?_;refine A2 ?_;refine r_alloc [_,_,_,_,_,_,_,_,_] 9 (fun g=>[⟨some g,39,_,9,true⟩]) rfl rfl z39 rfl rfl (fun _=>rfl) (fun g0=>?_);refine A5 ?_;refine at_regionM ?_;refine A1 ?_;refine Gm 0 [] [] (fun g=>[_,PB g (p0 s).adv true]) (c_start_ok s hs) (fun g=>?_);refine A14 ?_;refine Cd ?_ ?_<;>intro hb0
 ·exact absurd hb0 (by decide)
 ·refine A5 ?_;refine at_regionM ?_;refine A1 ?_;refine Gm 1 [1] [] (fun _=>[_,PB g ((p0 s).adv.tk tValue) true]) (c_p_take (p0 s).adv hP.1 tValue g) (fun _=>?_);refine A3 ?_;refine Cd ?_ ?_<;>intro hb1
  ·have hisv:(p0 s).adv.is tValue=true:=hb1;have htkv:(p0 s).adv.tk tValue=(p0 s).adv.adv:=by unfold Ps.tk;rw[hisv];rfl
   rw[htkv];unfold headK at hh;rw[if_pos hisv] at hh;cases hh;refine A2 ?_;refine So 0 0 [⟨some g0,39,_,9,true⟩,_] [_,_,_,_,_,_,_,_,_] ?_;refine A4 ?_;refine at_regionM ?_;refine A1 ?_;refine Gm 1 [1] [] (fun z=>[_,PB g r.2 true,gB z.T true]) (c_p_level f g 1 ((p0 s).adv.adv) r hA (by decide) (by decide) hr) (fun z=>?_);refine A1 ?_;refine So 0 2 [⟨some g0,39,_,9,true⟩,_,_] [_,_,_,_,_,_,_,_,_] ?_;refine A3 ?_;refine at_weakL (L':=[_,_,_,⟨none,9,[],0,true⟩]) (Weak.nilB _ (by decide)) ?_;refine at_regionM ?_;refine A2 ?_;refine r_gcallM (A:=[PB g r.2 true]) (C:=[QBr g0 1 none [] 0 z,VBk none 9 [] [] 0,gB z.T false]) [.pointer (some ⟨g,0,none⟩),.func (.func 79) #[] #[.pointer (some ⟨g0,0,none⟩)]] [1] [0,3,2] (fun _=>[_,PB g r.2.endP true,_,_]) rfl rfl rfl rfl (c_p_end_q r.2 g 1 (by decide) none 9 [] 0 0 (by simp) (fun v hv=>by simp at hv) z hf hM g0) (by decide) rfl rfl ⟨⟨_,rfl,le_share⟩,⟨_,rfl,le_share⟩,⟨_,rfl,le_share⟩,trivial⟩ rfl rfl (fun _=>rfl) (fun _=>allOwn rfl) (fun _=>rfl) (fun _=>?_);refine A14 ?_;refine Cd ?_ ?_<;>intro hb2
   ·have hE:r.2.endE (chkQ 1 [] r.1)≠0:=by simpa using hb2
    refine A2 ?_;refine r_build [] rfl rfl rfl (bd39_0) ?_;refine A2 ?_;refine So 0 0 [⟨some g0,39,_,9,true⟩,_,_,_] [_,_,_,_,_,_,_,_,_] ?_;refine A6 ?_;refine at_end3 rfl (res_cell 0 rfl rfl ti39 (vs:=[_,_,_,_,_,_,_,_,_]) rfl rfl (Nat.le_of_ble_eq_true rfl) rfl) (res_tmp rfl) (res_tmp rfl) (fun w hL=>⟨(none,z),by exact congrArg Ending.returned (pqV_no 1 [] none z hE).symm,hL.pk [some 3,some 2]⟩)
   ·have hE:r.2.endE (chkQ 1 [] r.1)=0:=by simpa using hb2
    refine A4 ?_;refine Ld 0 0 [_,_,_,_,_,_,_,_,_] ti39 ?_;refine So 0 0 [⟨some g0,39,_,9,true⟩,_,_,_] [_,_,_,_,_,_,_,_,_] ?_;refine A5 ?_;refine at_end3 rfl (res_cell 0 rfl rfl ti39 (vs:=[_,_,_,_,_,_,_,_,_]) rfl rfl (Nat.le_of_ble_eq_true rfl) rfl) (res_tmp rfl) (res_tmp rfl) (fun w hL=>⟨(none,z),by exact congrArg Ending.returned (pqV_yes 1 [] none z hE).symm,hL.pk [some 3,some 2]⟩)
  ·have hisv:(p0 s).adv.is tValue=false:=hb1;have htkv:(p0 s).adv.tk tValue=(p0 s).adv:=by unfold Ps.tk;rw[hisv];rfl
   rw[htkv];refine A1 ?_;refine at_regionM ?_;refine A1 ?_;refine Gm 1 [1] [] (fun _=>[_,PB g ((p0 s).adv.tk tObjects) true]) (c_p_take (p0 s).adv hP.1 tObjects g) (fun _=>?_);refine A3 ?_;refine Cd ?_ ?_<;>intro hb2
   ·have hiso:(p0 s).adv.is tObjects=true:=hb2;have htko:(p0 s).adv.tk tObjects=(p0 s).adv.adv:=by unfold Ps.tk;rw[hiso];rfl
    rw[htko];unfold headK at hh;rw[if_neg (by rw[hisv];simp),if_pos hiso] at hh;cases hh;refine A3 ?_;refine So 0 0 [⟨some g0,39,_,9,true⟩,_] [_,_,_,_,_,_,_,_,_] ?_;refine A3 ?_;refine at_regionM ?_;refine A1 ?_;refine Gm 1 [1] [] (fun _=>[_,PB g ((p0 s).adv.adv.name) true]) (c_p_name ((p0 s).adv.adv) hA.1 g) (fun _=>?_);refine r_buildSlice [(0,_)] (fun g=>[_,_,⟨some g,9,_,1,true⟩]) rfl rfl rfl (bs36_1) rfl (fun _=>rfl) (fun g1=>?_);refine A1 ?_;refine So 0 1 [⟨some g0,39,_,9,true⟩,_,_] [_,_,_,_,_,_,_,_,_] ?_;refine A2 ?_;refine at_regionM ?_;refine A1 ?_;refine Gm 1 [1] [] (fun _=>[_,PB g (((p0 s).adv.adv.name).want tWhere) true,_]) (c_p_want ((p0 s).adv.adv.name) (Ps.name_good hA).1 tWhere g) (fun _=>?_);refine A4 ?_;refine at_regionM ?_;refine A1 ?_;refine Gm 1 [1] [] (fun z=>[_,PB g r.2 true,_,gB z.T true]) (c_p_level f g 1 ((p0 s).adv.adv.name.want tWhere) r (Ps.want_good (Ps.name_good hA)) (by decide) (by decide) hr) (fun z=>?_);refine A1 ?_;refine So 0 2 [⟨some g0,39,_,9,true⟩,_,_,_] [_,_,_,_,_,_,_,_,_] ?_;refine A3 ?_;refine at_regionM ?_;refine A2 ?_;refine r_gcallM (A:=[PB g r.2 true]) (C:=[QBr g0 2 (some g1) [(p0 s).adv.adv.tx] 1 z,VBk (some g1) 9 [] [(p0 s).adv.adv.tx] 1,gB z.T false]) [.pointer (some ⟨g,0,none⟩),.func (.func 79) #[] #[.pointer (some ⟨g0,0,none⟩)]] [1] [0,2,3] (fun _=>[_,PB g r.2.endP true,_,_]) rfl rfl rfl rfl (c_p_end_q r.2 g 2 (by decide) (some g1) 9 [(p0 s).adv.adv.tx] 1 1 (by simp) (fun v hv=>by have:=hA.2.2;rw[List.mem_singleton.1 hv];omega) z hf hM g0) (by decide) rfl rfl ⟨⟨_,rfl,le_share⟩,⟨_,rfl,le_share⟩,⟨_,rfl,le_share⟩,trivial⟩ rfl rfl (fun _=>rfl) (fun _=>allOwn rfl) (fun _=>rfl) (fun _=>?_);refine A14 ?_;refine Cd ?_ ?_<;>intro hb3
    ·have hE:r.2.endE (chkQ 2 [(p0 s).adv.adv.tx] r.1)≠0:=by simpa using hb3
     refine A2 ?_;refine r_build [] rfl rfl rfl (bd39_0) ?_;refine A2 ?_;refine So 0 0 [⟨some g0,39,_,9,true⟩,_,_,_] [_,_,_,_,_,_,_,_,_] ?_;refine A6 ?_;refine at_end3 rfl (res_cell 0 rfl rfl ti39 (vs:=[_,_,_,_,_,_,_,_,_]) rfl rfl (Nat.le_of_ble_eq_true rfl) rfl) (res_tmp rfl) (res_tmp rfl) (fun w hL=>⟨((some g1),z),by exact congrArg Ending.returned (pqV_no 2 [(p0 s).adv.adv.tx] (some g1) z hE).symm,hL.pk [some 2,some 3]⟩)
    ·have hE:r.2.endE (chkQ 2 [(p0 s).adv.adv.tx] r.1)=0:=by simpa using hb3
     refine A4 ?_;refine Ld 0 0 [_,_,_,_,_,_,_,_,_] ti39 ?_;refine So 0 0 [⟨some g0,39,_,9,true⟩,_,_,_] [_,_,_,_,_,_,_,_,_] ?_;refine A5 ?_;refine at_end3 rfl (res_cell 0 rfl rfl ti39 (vs:=[_,_,_,_,_,_,_,_,_]) rfl rfl (Nat.le_of_ble_eq_true rfl) rfl) (res_tmp rfl) (res_tmp rfl) (fun w hL=>⟨((some g1),z),by exact congrArg Ending.returned (pqV_yes 2 [(p0 s).adv.adv.tx] (some g1) z hE).symm,hL.pk [some 2,some 3]⟩)
   ·have hiso:(p0 s).adv.is tObjects=false:=hb2;have htko:(p0 s).adv.tk tObjects=(p0 s).adv:=by unfold Ps.tk;rw[hiso];rfl
    rw[htko];refine A1 ?_;refine at_regionM ?_;refine A1 ?_;refine Gm 1 [1] [] (fun _=>[_,PB g ((p0 s).adv.tk tPairs) true]) (c_p_take (p0 s).adv hP.1 tPairs g) (fun _=>?_);refine A3 ?_;refine Cd ?_ ?_<;>intro hb3
    ·have hisp:(p0 s).adv.is tPairs=true:=hb3;have htkp:(p0 s).adv.tk tPairs=(p0 s).adv.adv:=by unfold Ps.tk;rw[hisp];rfl
     rw[htkp];unfold headK at hh;rw[if_neg (by rw[hisv];simp),if_neg (by rw[hiso];simp),if_pos hisp] at hh;cases hh;refine A3 ?_;refine So 0 0 [⟨some g0,39,_,9,true⟩,_] [_,_,_,_,_,_,_,_,_] ?_;refine A3 ?_;refine at_regionM ?_;refine A1 ?_;refine Gm 1 [1] [] (fun _=>[_,PB g ((p0 s).adv.adv.name) true]) (c_p_name ((p0 s).adv.adv) hA.1 g) (fun _=>?_);refine A4 ?_;refine at_regionM ?_;refine A1 ?_;refine Gm 1 [1] [] (fun _=>[_,PB g (((p0 s).adv.adv.name).want tComma) true]) (c_p_want ((p0 s).adv.adv.name) (Ps.name_good hA).1 tComma g) (fun _=>?_);refine A3 ?_;refine at_regionM ?_;refine A2 ?_;refine Gm 1 [1] [] (fun _=>[_,PB g (((p0 s).adv.adv.name.want tComma).name) true]) (c_p_name (((p0 s).adv.adv.name.want tComma)) hC.1 g) (fun _=>?_);refine r_buildSlice [(0,_),(1,_)] (fun g=>[_,_,⟨some g,9,_,2,true⟩]) rfl rfl rfl (bs36_2) rfl (fun _=>rfl) (fun g1=>?_);refine A1 ?_;refine So 0 1 [⟨some g0,39,_,9,true⟩,_,_] [_,_,_,_,_,_,_,_,_] ?_;refine A2 ?_;refine at_regionM ?_;refine A1 ?_;refine Gm 1 [1] [] (fun _=>[_,PB g ((((p0 s).adv.adv.name.want tComma).name).want tWhere) true,_]) (c_p_want (((p0 s).adv.adv.name.want tComma).name) (Ps.name_good hC).1 tWhere g) (fun _=>?_);refine A4 ?_;refine at_regionM ?_;refine A1 ?_;refine Gm 1 [1] [] (fun z=>[_,PB g r.2 true,_,gB z.T true]) (c_p_level f g 1 (((p0 s).adv.adv.name.want tComma).name.want tWhere) r (Ps.want_good (Ps.name_good hC)) (by decide) (by decide) hr) (fun z=>?_);refine A1 ?_;refine So 0 2 [⟨some g0,39,_,9,true⟩,_,_,_] [_,_,_,_,_,_,_,_,_] ?_;refine A3 ?_;refine at_regionM ?_;refine A2 ?_;refine r_gcallM (A:=[PB g r.2 true]) (C:=[QBr g0 3 (some g1) [(p0 s).adv.adv.tx,((p0 s).adv.adv.name.want tComma).tx] 2 z,VBk (some g1) 9 [] [(p0 s).adv.adv.tx,((p0 s).adv.adv.name.want tComma).tx] 2,gB z.T false]) [.pointer (some ⟨g,0,none⟩),.func (.func 79) #[] #[.pointer (some ⟨g0,0,none⟩)]] [1] [0,2,3] (fun _=>[_,PB g r.2.endP true,_,_]) rfl rfl rfl rfl (c_p_end_q r.2 g 3 (by decide) (some g1) 9 [(p0 s).adv.adv.tx,((p0 s).adv.adv.name.want tComma).tx] 2 2 (by simp) (fun v hv=>by have h1:=hA.2.2;have h2:=hC.2.2;simp only[List.mem_cons,List.not_mem_nil,or_false] at hv;rcases hv with rfl|rfl<;>omega) z hf hM g0) (by decide) rfl rfl ⟨⟨_,rfl,le_share⟩,⟨_,rfl,le_share⟩,⟨_,rfl,le_share⟩,trivial⟩ rfl rfl (fun _=>rfl) (fun _=>allOwn rfl) (fun _=>rfl) (fun _=>?_);refine A14 ?_;refine Cd ?_ ?_<;>intro hb4
     ·have hE:r.2.endE (chkQ 3 [(p0 s).adv.adv.tx,((p0 s).adv.adv.name.want tComma).tx] r.1)≠0:=by simpa using hb4
      refine A2 ?_;refine r_build [] rfl rfl rfl (bd39_0) ?_;refine A2 ?_;refine So 0 0 [⟨some g0,39,_,9,true⟩,_,_,_] [_,_,_,_,_,_,_,_,_] ?_;refine A6 ?_;refine at_end3 rfl (res_cell 0 rfl rfl ti39 (vs:=[_,_,_,_,_,_,_,_,_]) rfl rfl (Nat.le_of_ble_eq_true rfl) rfl) (res_tmp rfl) (res_tmp rfl) (fun w hL=>⟨((some g1),z),by exact congrArg Ending.returned (pqV_no 3 [(p0 s).adv.adv.tx,((p0 s).adv.adv.name.want tComma).tx] (some g1) z hE).symm,hL.pk [some 2,some 3]⟩)
     ·have hE:r.2.endE (chkQ 3 [(p0 s).adv.adv.tx,((p0 s).adv.adv.name.want tComma).tx] r.1)=0:=by simpa using hb4
      refine A4 ?_;refine Ld 0 0 [_,_,_,_,_,_,_,_,_] ti39 ?_;refine So 0 0 [⟨some g0,39,_,9,true⟩,_,_,_] [_,_,_,_,_,_,_,_,_] ?_;refine A5 ?_;refine at_end3 rfl (res_cell 0 rfl rfl ti39 (vs:=[_,_,_,_,_,_,_,_,_]) rfl rfl (Nat.le_of_ble_eq_true rfl) rfl) (res_tmp rfl) (res_tmp rfl) (fun w hL=>⟨((some g1),z),by exact congrArg Ending.returned (pqV_yes 3 [(p0 s).adv.adv.tx,((p0 s).adv.adv.name.want tComma).tx] (some g1) z hE).symm,hL.pk [some 2,some 3]⟩)
    ·have hisp:(p0 s).adv.is tPairs=false:=hb3;have htkp:(p0 s).adv.tk tPairs=(p0 s).adv:=by unfold Ps.tk;rw[hisp];rfl
     rw[htkp];unfold headK at hh;rw[if_neg (by rw[hisv];simp),if_neg (by rw[hiso];simp),if_neg (by rw[hisp];simp)] at hh;cases hh;refine at_regionM ?_;refine A1 ?_;refine Gm 1 [1] [] (fun _=>[_,PB g ((p0 s).adv.stop 15) true]) (c_p_stop (p0 s).adv 15 g) (fun _=>?_);refine A4 ?_;refine at_regionM ?_;refine A1 ?_;refine Gm 1 [1] [] (fun z=>[_,PB g r.2 true,gB z.T true]) (c_p_level f g 1 ((p0 s).adv.stop 15) r (Ps.stop_good hP) (by decide) (by decide) hr) (fun z=>?_);refine A1 ?_;refine So 0 2 [⟨some g0,39,_,9,true⟩,_,_] [_,_,_,_,_,_,_,_,_] ?_;refine A3 ?_;refine at_weakL (L':=[_,_,_,⟨none,9,[],0,true⟩]) (Weak.nilB _ (by decide)) ?_;refine at_regionM ?_;refine A2 ?_;refine r_gcallM (A:=[PB g r.2 true]) (C:=[QBr g0 0 none [] 0 z,VBk none 9 [] [] 0,gB z.T false]) [.pointer (some ⟨g,0,none⟩),.func (.func 79) #[] #[.pointer (some ⟨g0,0,none⟩)]] [1] [0,3,2] (fun _=>[_,PB g r.2.endP true,_,_]) rfl rfl rfl rfl (c_p_end_q r.2 g 0 (by decide) none 9 [] 0 0 (by simp) (fun v hv=>by simp at hv) z hf hM g0) (by decide) rfl rfl ⟨⟨_,rfl,le_share⟩,⟨_,rfl,le_share⟩,⟨_,rfl,le_share⟩,trivial⟩ rfl rfl (fun _=>rfl) (fun _=>allOwn rfl) (fun _=>rfl) (fun _=>?_);refine A14 ?_;refine Cd ?_ ?_<;>intro hb4
     ·have hE:r.2.endE (chkQ 0 [] r.1)≠0:=by simpa using hb4
      refine A2 ?_;refine r_build [] rfl rfl rfl (bd39_0) ?_;refine A2 ?_;refine So 0 0 [⟨some g0,39,_,9,true⟩,_,_,_] [_,_,_,_,_,_,_,_,_] ?_;refine A6 ?_;refine at_end3 rfl (res_cell 0 rfl rfl ti39 (vs:=[_,_,_,_,_,_,_,_,_]) rfl rfl (Nat.le_of_ble_eq_true rfl) rfl) (res_tmp rfl) (res_tmp rfl) (fun w hL=>⟨(none,z),by exact congrArg Ending.returned (pqV_no 0 [] none z hE).symm,hL.pk [some 3,some 2]⟩)
     ·have hE:r.2.endE (chkQ 0 [] r.1)=0:=by simpa using hb4
      refine A4 ?_;refine Ld 0 0 [_,_,_,_,_,_,_,_,_] ti39 ?_;refine So 0 0 [⟨some g0,39,_,9,true⟩,_,_,_] [_,_,_,_,_,_,_,_,_] ?_;refine A5 ?_;refine at_end3 rfl (res_cell 0 rfl rfl ti39 (vs:=[_,_,_,_,_,_,_,_,_]) rfl rfl (Nat.le_of_ble_eq_true rfl) rfl) (res_tmp rfl) (res_tmp rfl) (fun w hL=>⟨(none,z),by exact congrArg Ending.returned (pqV_yes 0 [] none z hE).symm,hL.pk [some 3,some 2]⟩)
theorem join_C:∀l:List Bs8,Lib.join l [44,32]=joinC l
 |[]=>rfl
 |[t]=>by simp[Lib.join,joinC]
 |t::u::r=>by
  have ih:=join_C (u::r)
  rw[joinC,←ih]
  simp[Lib.join]
theorem c_Join(g:Nat)(e:Nat)(pre:List Value)(l:List Bs8)(n cap:Nat)(hl0:l≠[])(hll:l.length≤1000000)(hcap:l.length≤cap)(hj:(joinC l).length≤140737488355328):
 SCall Tryz.prog 58 [VBk (some g) e pre l n] [.slice (some ⟨g,pre.length,none⟩) l.length cap,.string (strU [44,32])] Unit (fun _=> .string (strU (joinC l))) (fun _=>[]):=by
 refine⟨by kernel_rfl,fun w hL=>?_⟩
 obtain⟨s0,hs0⟩:∃s,l[0]? =some s:=⟨l[0]'(List.length_pos_iff.2 hl0),List.getElem?_eq_getElem _⟩
 have e1:(l.map strU).map (·.data.toList)=l:=by rw[List.map_map];simp[Function.comp_def,strU]
 have h0:=hL.strs (k:=0) rfl hs0
 have h1:=Tryz.strings_Join g pre.length cap (l.map strU) (strU [44,32]) w (fun j x hx=>by
 rw[List.getElem?_map] at hx
 obtain⟨s,hs,rfl⟩:=Option.map_eq_some_iff.1 hx
 exact hL.strs (k:=0) rfl hs) (by
 rcases Nat.lt_or_ge g w.heap.size with h|h
 ·exact h
 ·simp[World.cell?,Array.getElem?_eq_none h] at h0) (by simp;omega) (by simpa using hcap) (by
 rw[e1];show(Lib.join l [44,32]).length≤_;rw[join_C];exact hj)
 rw[List.length_map] at h1
 refine Calls.mono h1 ?_
 rintro e w' ⟨rfl,hb⟩
 refine⟨(),?_,(LRel.nil w).same hb⟩
 rw[e1]
 show Ending.returned (Value.string ⟨(Lib.join l [44,32]).toArray⟩)=_
 rw[join_C]
 rfl
theorem c_JoinB(b:Option Nat)(e:Nat)(pre:List Value)(l:List Bs8)(n cap:Nat)(hl0:l≠[])(hll:l.length≤1000000)(hcap:l.length≤cap)(hj:(joinC l).length≤140737488355328):
 SCall Tryz.prog 58 [VBk b e pre l n] [.slice (b.map fun g=>⟨g,pre.length,none⟩) l.length cap,.string (strU [44,32])] Unit (fun _=> .string (strU (joinC l))) (fun _=>[]):=by
 cases b with
 |some g=>exact c_Join g e pre l n cap hl0 hll hcap hj
 |none=>
  refine⟨by kernel_rfl,fun w hL=>?_⟩
  have h2:=((hL.blk 0 _ rfl).2 rfl).1
  have h3:=congrArg List.length h2
  rw[List.length_append,SB_length] at h3
  exact absurd (List.eq_nil_of_length_eq_zero (by simp at h3;simp[h3.2])) hl0
def headS(k:Int):Bs8:=if k=1 then[118,97,108,117,101,32] else if k=2 then[111,98,106,101,99,116,115,32] else[112,97,105,114,115,32]
def sWhere:Bs8:=[32,119,104,101,114,101,32]
def headT(k:Int)(l:List Bs8):Bs8:=if l=[] then headS k else headS k++(joinC l++sWhere)
theorem heads_get{k:Int}(h1:1≤k)(h3:k≤3):(([.string ⟨#[]⟩,.string ⟨#[118,97,108,117,101,32]⟩,.string ⟨#[111,98,106,101,99,116,115,32]⟩,.string ⟨#[112,97,105,114,115,32]⟩]:List Value).drop (k.toNat*1)).take 1=[.string (strU (headS k))]:=by
 have h:k=1∨k=2∨k=3:=by omega
 rcases h with rfl|rfl|rfl<;>rfl
theorem chkQ_kind{kind:Int}{l:List Bs8}{x:XT}(h:chkQ kind l x=0):(1≤kind∧kind≤3)∧chkE x=0:=by
 unfold chkQ at h
 split at h
 ·cases h
 rename_i h1
 split at h
 ·cases h
 split at h
 ·cases h
 split at h
 ·cases h
 split at h
 ·rename_i h2;exact absurd h h2
 rename_i h2
 exact⟨by omega,by simpa using h2⟩
noncomputable def prQT(kind:Int)(l:List Bs8)(x:XT):Bs8:=if chkQ kind l x=0 then prT (headT kind l++txt x 1) else[]
noncomputable def prQC(kind:Int)(l:List Bs8)(x:XT):Int:=if chkQ kind l x=0 then prC (headT kind l++txt x 1) else(chkQ kind l x:Nat)
theorem c_Print(kind:Int)(hk: -9223372036854775808≤kind∧kind≤9223372036854775807)(b:Option Nat)(e:Nat)(pre:List Value)(l:List Bs8)(n cap:Nat)(hll:l.length≤1000000)(hvl:∀v∈l,v.length≤1000000)(hcap:l.length≤cap){x:XT}(z:XR x)(m:Int)(hf:x.fit=true)(hM:x.size≤1000000)(hb:chkQ kind l x=0→(headT kind l).length+(txt x 1).length≤17179869184):ECall Tryz.prog 28 [VBk b e pre l n,gB z.T false,GM m] [QV kind b pre l cap z] Unit (fun _=> .tuple #[.string (strU (prQT kind l x)),.int .i64 (prQC kind l x)]) (fun _=>[]):=by
 refine⟨by kernel_rfl,fun B w hD hL0=>?_⟩;refine cB1 33 Tryz.func28 hL0 ?_;refine A2 ?_;refine Bo [_,_,_,_,_,_,_,_,_] 9 (fun g=>[_,_,_,⟨some g,39,_,9,true⟩]) (fun g0=>?_);refine A6 ?_;refine at_regionM ?_;refine Ld 3 0 [_,_,_,_,_,_,_,_,_] ti39 ?_;refine Kr 7 (QV kind b pre l cap z) ?_;refine Gm 0 [] [0,1] (fun _=>[_,_,_,_]) (c_Check kind hk b e pre l n cap hll hvl z hf hM) (fun _=>?_);refine A9 ?_;refine Cd ?_ ?_<;>intro hb0
 ·have kc:chkQ kind l x≠0:=by simpa using hb0
  refine A9 ?_;refine at_end2 rfl (res_tmp rfl) (res_tmp rfl) (fun w hL=>⟨(),by unfold prQT prQC;rw[if_neg kc,if_neg kc];rfl,hL.pk []⟩)
 ·have kc:chkQ kind l x=0:=by simpa using hb0
  have hkk:=chkQ_kind kc;obtain⟨⟨hk1,hk3⟩,_⟩:=id hkk;refine A4 ?_;refine r_build [(1,_),(2,_),(3,_)] rfl rfl rfl (bd79_1_2_3x) ?_;refine r_alloc [_,_,_,_] 4 (fun g=>[_,_,_,_,⟨some g,79,_,4,true⟩]) rfl rfl z79 rfl rfl (fun _=>rfl) (fun g1=>?_);refine So 4 0 [_,_,_,_,⟨some g1,79,_,4,true⟩] [_,_,_,_] ?_;refine A6 ?_;refine r_indexAddrA (kind.toNat*1) u79 ti9 rfl rfl rfl rfl (by omega) (by omega) (by show 0+Int.toNat _*1=_;omega) ?_;refine r_load (v:= .string (strU (headS kind))) 4 (kind.toNat*1) _ rfl rfl rfl rfl ti9 (heads_get hk1 hk3) rfl (by decide) rfl ?_;refine A12 ?_;refine Cd ?_ ?_<;>intro hb1
  ·have hl0:l≠[]:=fun e=>by have:=of_decide_eq_true hb1;rw[e] at this;simp at this
   have hT:headT kind l=headS kind++(joinC l++sWhere):=if_neg hl0;have hjb0:=hb kc;rw[hT] at hjb0;simp only[List.length_append] at hjb0;have hjb:(joinC l).length≤140737488355328:=(by omega);refine at_regionM ?_;refine A3 ?_;refine r_scall0 [slv b pre.length l.length cap,.string (strU [44,32])] [0] rfl rfl rfl (c_JoinB b e pre l n cap hl0 hll hcap hjb) ⟨⟨_,rfl,Blk.le_refl _⟩,trivial⟩ rfl ?_;refine r_addS (p:=joinC l) (q:=sWhere) rfl rfl rfl rfl rfl rfl rfl (by omega) ?_;refine r_addS (p:=headS kind) (q:=joinC l++sWhere) rfl rfl rfl rfl rfl rfl rfl (by rw[List.length_append];omega) ?_;refine A4 ?_;refine at_regionM ?_;refine A2 ?_;refine Ld 3 2 [_,_,_,_,_,_,_] ti30 ?_;refine Kr 29 (z.v) ?_;refine Gm 0 [] [1,2] (fun _=>[_,_,_,_,_]) (c_printed z m (chk_ok x 1 0 hkk.2) hf (by omega) (headS kind++(joinC l++sWhere)) (by rw[←hT];exact hb kc)) (fun _=>?_);refine A7 ?_;refine at_end2 rfl (res_tmp rfl) (res_tmp rfl) (fun w hL=>⟨(),by unfold prQT prQC;rw[if_pos kc,if_pos kc,hT],hL.pk []⟩)
  ·have hl0:l=[]:=List.eq_nil_of_length_eq_zero (by have:=of_decide_eq_false hb1;omega);have hT:headT kind l=headS kind:=if_pos hl0;refine A3 ?_;refine at_regionM ?_;refine A2 ?_;refine Ld 3 2 [_,_,_,_,_,_,_] ti30 ?_;refine Kr 29 (z.v) ?_;refine Gm 0 [] [1,2] (fun _=>[_,_,_,_,_]) (c_printed z m (chk_ok x 1 0 hkk.2) hf (by omega) (headS kind) (by rw[←hT];exact hb kc)) (fun _=>?_);refine A7 ?_;refine at_end2 rfl (res_tmp rfl) (res_tmp rfl) (fun w hL=>⟨(),by unfold prQT prQC;rw[if_pos kc,if_pos kc,hT],hL.pk []⟩)
theorem c_Size{x:XT}(z:XR x)(hM:x.size≤1000000000):ECall Tryz.prog 20 [gB z.T false] [z.v] Unit (fun _=> .int .i64 (foldN (fun _ lv n=>n+1) x 1 0:Nat)) (fun _=>[]):=by
 refine⟨by kernel_rfl,fun B w hD hL0=>?_⟩;refine cB1 8 Tryz.func20 hL0 ?_;refine A2 ?_;refine Bo [_,_,_,_,_,_,_] 7 (fun g=>[_,⟨some g,30,_,7,true⟩]) (fun g0=>?_);refine A5 ?_;refine r_alloc [_] 1 (fun g=>[_,_,⟨some g,3,_,1,true⟩]) rfl rfl z3 rfl rfl (fun _=>rfl) (fun g1=>?_);refine So 2 0 [_,_,⟨some g1,3,_,1,true⟩] [_] ?_;refine A3 ?_;refine at_regionM ?_;refine Ld 1 0 [_,_,_,_,_,_,_] ti30 ?_;refine Kr 4 (z.v) ?_;refine A1 ?_;refine r_gcallM (A:=[VN g1 0]) (C:=[gB z.T false]) [z.v,.int .i64 (1:Nat),.func (.func 52) #[] #[.pointer (some ⟨g1,0,none⟩)]] [2] [0] (fun _=>[_,_,VN g1 (foldN (fun _ lv n=>n+1) x 1 0)]) rfl rfl rfl rfl (c_each 52 (fun _ lv n=>n+1) (fun _ lv n=>by omega) g1 (fun u lv n h h2=>c_Size_1 u lv n g1 h h2) x z 1 0 (by omega)) (by decide) rfl rfl ⟨⟨_,rfl,Blk.le_refl _⟩,trivial⟩ rfl rfl (fun _=>rfl) (fun _=>allOwn rfl) (fun _=>rfl) (fun _=>?_);refine A9 ?_;refine E1 fun w hL=>⟨(),rfl,hL.pk []⟩
theorem c_Depth{x:XT}(z:XR x)(hM:x.size≤1000000000):ECall Tryz.prog 22 [gB z.T false] [z.v] Unit (fun _=> .int .i64 (foldN (fun _ lv n=>max n lv) x 1 0:Nat)) (fun _=>[]):=by
 refine⟨by kernel_rfl,fun B w hD hL0=>?_⟩;refine cB1 8 Tryz.func22 hL0 ?_;refine A2 ?_;refine Bo [_,_,_,_,_,_,_] 7 (fun g=>[_,⟨some g,30,_,7,true⟩]) (fun g0=>?_);refine A5 ?_;refine r_alloc [_] 1 (fun g=>[_,_,⟨some g,3,_,1,true⟩]) rfl rfl z3 rfl rfl (fun _=>rfl) (fun g1=>?_);refine So 2 0 [_,_,⟨some g1,3,_,1,true⟩] [_] ?_;refine A3 ?_;refine at_regionM ?_;refine Ld 1 0 [_,_,_,_,_,_,_] ti30 ?_;refine Kr 4 (z.v) ?_;refine A1 ?_;refine r_gcallM (A:=[VN g1 0]) (C:=[gB z.T false]) [z.v,.int .i64 (1:Nat),.func (.func 53) #[] #[.pointer (some ⟨g1,0,none⟩)]] [2] [0] (fun _=>[_,_,VN g1 (foldN (fun _ lv n=>max n lv) x 1 0)]) rfl rfl rfl rfl (c_each 53 (fun _ lv n=>max n lv) (fun _ lv n=>by omega) g1 (fun u lv n h h2=>c_Depth_1 u lv n g1 h h2) x z 1 0 (by omega)) (by decide) rfl rfl ⟨⟨_,rfl,Blk.le_refl _⟩,trivial⟩ rfl rfl (fun _=>rfl) (fun _=>allOwn rfl) (fun _=>rfl) (fun _=>?_);refine A9 ?_;refine E1 fun w hL=>⟨(),rfl,hL.pk []⟩
def kS:Bs8:=[111,98,106,101,99,116,115,32,99,32,119,104,101,114,101,32,115,111,109,101,116,105,109,101,40,105,110,115,105,100,101,40,99,44,32,122,111,110,101,40,34,110,111,114,116,104,34,41,41,32,97,110,100,32,119,105,116,104,105,110,40,99,44,32,111,98,106,101,99,116,40,51,41,44,32,53,48,41,41]
def kq:Ps:=(p0 kS).adv.adv.name.want tWhere
def kT:XT:= .node 26 [.node 23 [.node 16 [.named 4 [99],.named 5 [110,111,114,116,104]],.node 15 [.named 4 [99],.numd 3 3,.numd 1 50]]]
def kP:Ps:=⟨kS,79,0,79,[],0,0,false⟩
theorem k_head:headK (p0 kS).adv=(2,[[99]],kq):=by kernel_rfl
theorem k_lev:lev 60 1 kq=some (kT,kP):=by kernel_rfl
theorem k_fit:kT.fit=true:=by decide+kernel
theorem k_size:kT.size=9:=by kernel_rfl
theorem k_end(e:Nat):kP.endE e=e:=rfl
theorem k_txt:txt kT 1=kS.drop 16:=by kernel_rfl
theorem k_sz:foldN (fun _ lv n=>n+1) kT 1 0=9:=by kernel_rfl
theorem k_dp:foldN (fun _ lv n=>max n lv) kT 1 0=4:=by kernel_rfl
theorem k_chkE:chkE kT=0:=by kernel_rfl
theorem k_varsL:varsL kT=[[99],[99]]:=by kernel_rfl
theorem k_vars:varsU kT=[[99]]:=by
 unfold varsU
 rw[k_varsL]
 unfold sortL
 simp[List.mergeSort,Lib.compact]
 try rfl
theorem k_chkQ:chkQ 2 [[99]] kT=0:=by
 unfold chkQ
 rw[if_neg (by decide),if_neg (by decide),if_neg (by decide+kernel),if_neg (by decide),if_neg (by rw[k_chkE];simp),if_neg (by rw[k_vars];decide)]
theorem k_E:kP.endE (chkQ 2 [[99]] kT)=0:=by rw[k_end,k_chkQ]
theorem k_prT:prQT 2 [[99]] kT=kS:=by
 unfold prQT
 rw[if_pos k_chkQ,k_txt]
 kernel_rfl
theorem k_prC:prQC 2 [[99]] kT=0:=by
 unfold prQC
 rw[if_pos k_chkQ,k_txt]
 kernel_rfl
theorem c_Parse_k:ECall Tryz.prog 42 [] [.string (strU kS)] (Option Nat×XR kT) (fun z=> .tuple #[QV 2 z.1 [] [[99]] 1 z.2,.int .i64 0,.int .i64 0]) (fun z=>[⟨z.1,9,SB [[99]],1,true⟩,gB z.2.T true]):=by
 have h:=c_Parse_ok kS (by decide) 2 [[99]] kq k_head 60 (kT,kP) k_lev k_fit (by rw[show(kT,kP).1=kT from rfl,k_size];decide)
 have e:(fun z:Option Nat×XR kT=>pqV 2 [[99]] (kT,kP) z.1 z.2)=(fun z=> .tuple #[QV 2 z.1 [] [[99]] 1 z.2,.int .i64 0,.int .i64 0]):=funext fun z=>pqV_yes 2 [[99]] (r:=(kT,kP)) z.1 z.2 k_E
 exact e▸h
theorem c_Print_k(b:Option Nat)(z:XR kT)(m:Int):ECall Tryz.prog 28 [VBk b 9 [] [[99]] 1,gB z.T false,GM m] [QV 2 b [] [[99]] 1 z] Unit (fun _=> .tuple #[.string (strU kS),.int .i64 0]) (fun _=>[]):=by
 have h:=c_Print 2 (by decide) b 9 [] [[99]] 1 1 (by simp) (fun v hv=>by rw[List.mem_singleton.1 hv];simp) (by simp) z m k_fit (by rw[k_size];decide) (fun _=>by rw[k_txt];decide+kernel)
 rw[k_prT,k_prC] at h
 exact h
theorem c_Variables_k(z:XR kT):ECall Tryz.prog 25 [gB z.T false] [z.v] (SRw [[99]]) (fun s=>slv s.b 0 1 s.cap) (fun s=>[VR s]):=by
 have h:=c_Variables z (by rw[k_size];decide)
 rw[k_vars] at h
 exact h
theorem c_Size_k(z:XR kT):ECall Tryz.prog 20 [gB z.T false] [z.v] Unit (fun _=> .int .i64 9) (fun _=>[]):=by
 have h:=c_Size z (by rw[k_size];decide)
 rw[k_sz] at h
 exact h
theorem c_Depth_k(z:XR kT):ECall Tryz.prog 22 [gB z.T false] [z.v] Unit (fun _=> .int .i64 4) (fun _=>[]):=by
 have h:=c_Depth z (by rw[k_size];decide)
 rw[k_dp] at h
 exact h
theorem c_known(m:Int):ECall Tryz.prog 12 [GM m] [] Unit (fun _=> .bool true) (fun _=>[]):=by
 refine⟨by kernel_rfl,fun B w hD hL0=>?_⟩;refine cB0 65 Tryz.func12 hL0 ?_;refine A11 ?_;refine at_regionM ?_;refine A1 ?_;refine Gm 0 [] [] (fun(z:Option Nat×XR kT)=>[_,⟨z.1,9,SB [[99]],1,true⟩,gB z.2.T true]) c_Parse_k (fun⟨b,z⟩=>?_);refine A4 ?_;refine r_alloc [_,_,_,_,_,_,_,_,_] 9 (fun g=>[_,_,_,⟨some g,39,_,9,true⟩]) rfl rfl z39 rfl rfl (fun _=>rfl) (fun g0=>?_);refine So 3 0 [_,_,_,⟨some g0,39,_,9,true⟩] [_,_,_,_,_,_,_,_,_] ?_;refine A5 ?_;refine at_regionM ?_;refine Ld 3 0 [_,_,_,_,_,_,_,_,_] ti39 ?_;refine Kr 15 (QV 2 b [] [[99]] 1 z) ?_;refine r_gcallM (A:=[]) (C:=[VBk b 9 [] [[99]] 1,gB z.T false,GM m]) [QV 2 b [] [[99]] 1 z] [] [1,2,0] (fun _=>[_,_,_,_]) rfl rfl rfl rfl (c_Print_k b z m) (by decide) rfl rfl ⟨⟨_,rfl,le_share⟩,⟨_,rfl,le_share⟩,⟨_,rfl,Blk.le_refl _⟩,trivial⟩ rfl rfl (fun _=>rfl) (fun _=>allOwn rfl) (fun _=>rfl) (fun _=>?_);refine A8 ?_;refine at_regionM ?_;refine A1 ?_;refine Ld 3 2 [_,_,_,_,_,_,_] ti30 ?_;refine Kr 20 (z.v) ?_;refine r_gcallM (A:=[]) (C:=[gB z.T false]) [z.v] [] [2] (fun s=>[_,_,_,_,VR s]) rfl rfl rfl rfl (c_Variables_k z) (by decide) rfl rfl ⟨⟨_,rfl,le_share⟩,trivial⟩ rfl rfl (fun _=>rfl) (fun _=>allOwn rfl) (fun _=>rfl) (fun s=>?_);refine A4 ?_;refine at_regionM ?_;refine A3 ?_;refine Rs 24 ?_ ?_<;>intro hb0
 ·refine A4 ?_;refine Rs 28 ?_ ?_<;>intro hb1
  ·refine A5 ?_;refine Rs 33 ?_ ?_<;>intro hb2
   ·refine A4 ?_;refine Rs 37 ?_ ?_<;>intro hb3
    ·refine A5 ?_;refine Rs 42 ?_ ?_<;>intro hb4
     ·refine A5 ?_;refine Rs 47 ?_ ?_<;>intro hb5
      ·refine A1 ?_;refine r_indexAddr 4 (0*1) u36 ti9 rfl rfl rfl rfl rfl (by decide) (by decide) (SB_ne (by decide)) (by show 0+Int.toNat _*1=_;rfl) ?_;refine r_load (v:= .string (strU [99])) 4 (0*1) _ rfl rfl rfl rfl ti9 (SB_get rfl) rfl (by decide) rfl ?_;refine A3 ?_;refine Rs 53 ?_ ?_<;>intro hb6
       ·refine A1 ?_;refine Ld 3 2 [_,_,_,_,_,_,_] ti30 ?_;refine Kr 55 (z.v) ?_;refine r_gcallM (A:=[]) (C:=[gB z.T false]) [z.v] [] [2] (fun _=>[_,_,_,_,_]) rfl rfl rfl rfl (c_Size_k z) (by decide) rfl rfl ⟨⟨_,rfl,le_share⟩,trivial⟩ rfl rfl (fun _=>rfl) (fun _=>allOwn rfl) (fun _=>rfl) (fun _=>?_);refine A3 ?_;refine Rs 59 ?_ ?_<;>intro hb7
        ·refine A1 ?_;refine Ld 3 2 [_,_,_,_,_,_,_] ti30 ?_;refine Kr 61 (z.v) ?_;refine r_gcallM (A:=[]) (C:=[gB z.T false]) [z.v] [] [2] (fun _=>[_,_,_,_,_]) rfl rfl rfl rfl (c_Depth_k z) (by decide) rfl rfl ⟨⟨_,rfl,le_share⟩,trivial⟩ rfl rfl (fun _=>rfl) (fun _=>allOwn rfl) (fun _=>rfl) (fun _=>?_);refine A6 ?_;refine E1 fun w hL=>⟨(),rfl,hL.pk []⟩
        ·exact absurd hb7 (by first|decide|simp)
       ·exact absurd hb6 (by first|decide|simp)
      ·exact absurd hb5 (by first|decide|simp)
     ·exact absurd hb4 (by first|decide|simp)
    ·exact absurd hb3 (by first|decide|simp)
   ·exact absurd hb2 (by first|decide|simp)
  ·exact absurd hb1 (by first|decide|simp)
 ·exact absurd hb0 (by first|decide|simp)
theorem c_SyntaxDeep0(m:Int)(n:Nat)(hn:n<65536):ECall Tryz.prog 6 [GM m] [.int .u16 (n:Nat)] Unit (fun _=> .bool true) (fun _=>[]):=by
 refine⟨by kernel_rfl,fun B w hD hL0=>?_⟩;refine cB1 94 Tryz.func6 hL0 ?_;refine A7 ?_;refine at_regionM ?_;refine Gm 0 [] [0] (fun _=>[_]) (c_known m) (fun _=>?_);refine A1 ?_;refine Kr 20 (.bool false) ?_;refine A8 ?_;refine r_div (r:=((n%300:Nat):Int)) rfl rfl rfl rfl (by omega) (congrArg some (rem_n _ _ rfl rfl)) ?_;refine r_conv (r:=((n%300:Nat):Int)) u45 u3 rfl rfl rfl (wi (by omega) (by omega) (by omega)) ?_;refine A18 ?_;refine El (ι:={i:Nat // i≤n%300}) (fun⟨i,hi⟩=>([(3,.int .i64 (n%300:Nat)),(4,.string (strU (rep (min i 100) [40]))),(5,.string (strU (rep (min i 100) [41]))),(6,.string (strU (rep i sNot))),(7,.string (strU ([97]++rep (min i 30) [32,111,114,32,98]))),(8,.int .i64 (i:Nat))],[GM m],n%300-i)) ⟨0,Nat.zero_le _⟩ ?_ (hL:=Weak.auto);rintro⟨i,hi⟩;(try dsimp only);refine A8 ?_;refine Cd ?_ ?_<;>intro hb1
 ·have hlt:i<n%300:=(by have:=of_decide_eq_true hb1;omega);refine A11 ?_;refine Cd ?_ ?_<;>intro hb2
  ·have h100:i<100:=(by have:=of_decide_eq_true hb2;omega);refine A2 ?_;refine r_addS (p:=rep (min i 100) [40]) (q:=[40]) rfl rfl rfl rfl rfl rfl rfl (by simp only[List.length_append,rep_len,sNot_len,List.length_cons,List.length_nil];omega) ?_;refine A1 ?_;refine r_addS (p:=rep (min i 100) [41]) (q:=[41]) rfl rfl rfl rfl rfl rfl rfl (by simp only[List.length_append,rep_len,sNot_len,List.length_cons,List.length_nil];omega) ?_;refine A7 ?_;refine r_addS (p:=rep i sNot) (q:=sNot) rfl rfl rfl rfl rfl rfl rfl (by simp only[List.length_append,rep_len,sNot_len,List.length_cons,List.length_nil];omega) ?_;refine A9 ?_;refine Cd ?_ ?_<;>intro hb3
   ·have h30:i<30:=(by have:=of_decide_eq_true hb3;omega);refine A2 ?_;refine r_addS (p:=[97]++rep (min i 30) [32,111,114,32,98]) (q:=[32,111,114,32,98]) rfl rfl rfl rfl rfl rfl rfl (by simp only[List.length_append,rep_len,sNot_len,List.length_cons,List.length_nil];omega) ?_;refine A6 ?_;refine Ar (((i+1:Nat):Int)) ?_;refine A3 ?_;exact Nl ⟨i+1,hlt⟩ (ht:=⟨rfl,(look_val rfl (rep_lt h100)),(look_val rfl (rep_lt h100)),rfl,(look_val rfl (rep_ltA h30)),rfl,trivial⟩) (hL:=Weak.auto)
   ·have h30:¬i<30:=(by have:=of_decide_eq_false hb3;omega);refine A5 ?_;refine Ar (((i+1:Nat):Int)) ?_;refine A3 ?_;exact Nl ⟨i+1,hlt⟩ (ht:=⟨rfl,(look_val rfl (rep_lt h100)),(look_val rfl (rep_lt h100)),rfl,(look_val rfl (rep_geA h30)),rfl,trivial⟩) (hL:=Weak.auto)
  ·have h100:¬i<100:=(by have:=of_decide_eq_false hb2;omega);refine A5 ?_;refine r_addS (p:=rep i sNot) (q:=sNot) rfl rfl rfl rfl rfl rfl rfl (by simp only[List.length_append,rep_len,sNot_len,List.length_cons,List.length_nil];omega) ?_;refine A9 ?_;refine Cd ?_ ?_<;>intro hb3
   ·have h30:i<30:=(by have:=of_decide_eq_true hb3;omega);refine A2 ?_;refine r_addS (p:=[97]++rep (min i 30) [32,111,114,32,98]) (q:=[32,111,114,32,98]) rfl rfl rfl rfl rfl rfl rfl (by simp only[List.length_append,rep_len,sNot_len,List.length_cons,List.length_nil];omega) ?_;refine A6 ?_;refine Ar (((i+1:Nat):Int)) ?_;refine A3 ?_;exact Nl ⟨i+1,hlt⟩ (ht:=⟨rfl,(look_val rfl (rep_ge h100)),(look_val rfl (rep_ge h100)),rfl,(look_val rfl (rep_ltA h30)),rfl,trivial⟩) (hL:=Weak.auto)
   ·have h30:¬i<30:=(by have:=of_decide_eq_false hb3;omega);refine A5 ?_;refine Ar (((i+1:Nat):Int)) ?_;refine A3 ?_;exact Nl ⟨i+1,hlt⟩ (ht:=⟨rfl,(look_val rfl (rep_ge h100)),(look_val rfl (rep_ge h100)),rfl,(look_val rfl (rep_geA h30)),rfl,trivial⟩) (hL:=Weak.auto)
 ·have hge:i=n%300:=(by have:=of_decide_eq_false hb1;omega);refine A6 ?_;refine at_regionM ?_;refine A1 ?_;refine r_addS (p:=rep (min i 100) [40]) (q:=[97]) rfl rfl rfl rfl rfl rfl rfl (by simp only[List.length_append,rep_len,sNot_len,List.length_cons,List.length_nil];omega) ?_;refine A1 ?_;refine r_addS (p:=rep (min i 100) [40]++[97]) (q:=rep (min i 100) [41]) rfl rfl rfl rfl rfl rfl rfl (by simp only[List.length_append,rep_len,sNot_len,List.length_cons,List.length_nil];omega) ?_;refine Gm 0 [] [] (fun z=>[_,gB z.T true]) (c_ParseExpr_good (by simp only[List.length_append,rep_len,sNot_len,List.length_cons,List.length_nil];omega) (reads_par (min i 100)) okX_aE (notX_fit 0)) (fun z=>?_);refine A4 ?_;refine r_alloc [_,_,_,_,_,_,_] 7 (fun g=>[_,_,⟨some g,30,_,7,true⟩]) rfl rfl z30 rfl rfl (fun _=>rfl) (fun g0=>?_);refine So 2 0 [_,_,⟨some g0,30,_,7,true⟩] [_,_,_,_,_,_,_] ?_;refine A5 ?_;refine at_regionM ?_;refine A1 ?_;refine r_addS (p:=rep i sNot) (q:=[97]) rfl rfl rfl rfl rfl rfl rfl (by simp only[List.length_append,rep_len,sNot_len,List.length_cons,List.length_nil];omega) ?_;refine Gm 0 [] [] (fun u=>[_,_,_,gB u.T true]) (c_ParseExpr_reads (by simp only[List.length_append,rep_len,sNot_len,List.length_cons,List.length_nil];omega) (reads_not i) (notX_fit i)) (fun u=>?_);refine A4 ?_;refine r_alloc [_,_,_,_,_,_,_] 7 (fun g=>[_,_,_,_,⟨some g,30,_,7,true⟩]) rfl rfl z30 rfl rfl (fun _=>rfl) (fun g1=>?_);refine So 4 0 [_,_,_,_,⟨some g1,30,_,7,true⟩] [_,_,_,_,_,_,_] ?_;refine A5 ?_;refine at_regionM ?_;refine A1 ?_;refine Gm 0 [] [] (fun y=>[_,_,_,_,_,gB y.T true]) (c_ParseExpr_good (by simp only[List.length_append,rep_len,sNot_len,List.length_cons,List.length_nil];omega) (reads_or (min i 30)) (chkE_or (by omega)) (orX_fit (min i 30))) (fun y=>?_);refine A4 ?_;refine r_alloc [_,_,_,_,_,_,_] 7 (fun g=>[_,_,_,_,_,_,⟨some g,30,_,7,true⟩]) rfl rfl z30 rfl rfl (fun _=>rfl) (fun g2=>?_);refine So 6 0 [_,_,_,_,_,_,⟨some g2,30,_,7,true⟩] [_,_,_,_,_,_,_] ?_;refine A16 ?_;refine Cd ?_ ?_<;>intro hb2
  ·have hk:32≤i:=(by have:=of_decide_eq_true hb2;omega);refine A5 ?_;refine at_weakL (Weak.newG _) ?_;refine at_regionM ?_;refine A2 ?_;refine r_know 66 (.bool true) rfl (congrArg Value.bool (beq_self_eq_true _)) ?_;refine A1 ?_;refine Ld 2 0 [_,_,_,_,_,_,_] ti30 ?_;refine Kr 68 (z.v) ?_;refine r_build [(0,_),(1,_)] rfl rfl rfl (bd30_2) ?_;refine Kr 69 ((XR.named [97] 4).v) ?_;refine r_scall0 [z.v,(XR.named [97] 4).v] [1,7] rfl rfl rfl (ECall.toS (c_same aX aX z (XR.named [97] 4) (by decide))) ⟨⟨_,rfl,le_share⟩,⟨_,rfl,le_share⟩,trivial⟩ rfl ?_;refine r_know 70 (.bool true) rfl (congrArg Value.bool (sameX_refl aX)) ?_;refine A4 ?_;refine r_know 74 (.bool true) rfl (congrArg Value.bool (beq_self_eq_true _)) ?_;refine A5 ?_;refine r_know 79 (.bool true) rfl (congrArg Value.bool (by rw[chkE_not,if_pos hk];rfl)) ?_;refine A4 ?_;refine r_know 83 (.bool true) rfl (congrArg Value.bool (beq_self_eq_true _)) ?_;refine A2 ?_;refine Ld 6 0 [_,_,_,_,_,_,_] ti30 ?_;refine Kr 86 (y.v) ?_;refine r_scall0 [y.v] [5] rfl rfl rfl (ECall.toS (c_Size y (by rw[orX_size];omega))) ⟨⟨_,rfl,le_share⟩,trivial⟩ rfl ?_;refine A1 ?_;refine r_minI rfl rfl rfl rfl ?_;refine Ar (((2*min i 30:Nat):Int)) ?_;refine Ar (((1+2*min i 30:Nat):Int)) ?_;refine A1 ?_;refine r_know 92 (.bool true) rfl (congrArg Value.bool (by rw[foldN_size,orX_size];exact decide_eq_true (by omega))) ?_;refine A5 ?_;refine E1 fun w hL=>⟨(),rfl,hL.pk []⟩
  ·have hk:¬32≤i:=(by have:=of_decide_eq_false hb2;omega);refine A3 ?_;refine at_weakL (Weak.newG _) ?_;refine at_regionM ?_;refine A2 ?_;refine r_know 66 (.bool true) rfl (congrArg Value.bool (beq_self_eq_true _)) ?_;refine A1 ?_;refine Ld 2 0 [_,_,_,_,_,_,_] ti30 ?_;refine Kr 68 (z.v) ?_;refine r_build [(0,_),(1,_)] rfl rfl rfl (bd30_2) ?_;refine Kr 69 ((XR.named [97] 4).v) ?_;refine r_scall0 [z.v,(XR.named [97] 4).v] [1,7] rfl rfl rfl (ECall.toS (c_same aX aX z (XR.named [97] 4) (by decide))) ⟨⟨_,rfl,le_share⟩,⟨_,rfl,le_share⟩,trivial⟩ rfl ?_;refine r_know 70 (.bool true) rfl (congrArg Value.bool (sameX_refl aX)) ?_;refine A4 ?_;refine r_know 74 (.bool true) rfl (congrArg Value.bool (beq_self_eq_true _)) ?_;refine A5 ?_;refine r_know 79 (.bool true) rfl (congrArg Value.bool (by rw[chkE_not,if_neg hk];rfl)) ?_;refine A4 ?_;refine r_know 83 (.bool true) rfl (congrArg Value.bool (beq_self_eq_true _)) ?_;refine A2 ?_;refine Ld 6 0 [_,_,_,_,_,_,_] ti30 ?_;refine Kr 86 (y.v) ?_;refine r_scall0 [y.v] [5] rfl rfl rfl (ECall.toS (c_Size y (by rw[orX_size];omega))) ⟨⟨_,rfl,le_share⟩,trivial⟩ rfl ?_;refine A1 ?_;refine r_minI rfl rfl rfl rfl ?_;refine Ar (((2*min i 30:Nat):Int)) ?_;refine Ar (((1+2*min i 30:Nat):Int)) ?_;refine A1 ?_;refine r_know 92 (.bool true) rfl (congrArg Value.bool (by rw[foldN_size,orX_size];exact decide_eq_true (by omega))) ?_;refine A5 ?_;refine E1 fun w hL=>⟨(),rfl,hL.pk []⟩
theorem c_SyntaxDeep(m:Int)(n:Int)(h:(Lit.int .u16 n).wf=true):ECall Tryz.prog 6 [GM m] [.int .u16 n] Unit (fun _=> .bool true) (fun _=>[]):=by
 simp only[Lit.wf,Bool.and_eq_true,decide_eq_true_eq] at h
 have h1:IntKind.u16.min=0:=rfl
 have h2:IntKind.u16.max=65535:=rfl
 obtain⟨k,rfl⟩:∃k:Nat,n=(k:Nat):=⟨n.toNat,by omega⟩
 exact c_SyntaxDeep0 m k (by omega)
end Go.Proofs.YtfijbadahkmhbaaGreatDoor
