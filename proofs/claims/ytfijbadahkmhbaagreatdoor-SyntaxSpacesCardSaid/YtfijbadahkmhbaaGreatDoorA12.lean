/-
  Part 12 (chapter 43): lemmas, walks. Each theorem states its own conditions.
-/
import Derived.Lib.Replace
import Derived.Test.YtfijbadahkmhbaaGreatDoorA04
import Derived.Test.YtfijbadahkmhbaaGreatDoorA07
import Derived.Test.YtfijbadahkmhbaaGreatDoorA10
import Derived.Test.YtfijbadahkmhbaaGreatDoorA11
set_option linter.unusedVariables false
set_option linter.unusedSimpArgs false
set_option maxRecDepth 20000
set_option maxHeartbeats 20000000
set_option maxHeartbeats 800000
namespace Go.Via
open Go Go.RowKit
def okR(n:Nat)(t:Tk):Prop:=∀o∈opsT,n≤o.2.2→tIs t o.1=false
def DR(x:XT)(n:Nat):Prop:=∀(p:Ps) (t:Tk) (rest:List Tk),p.fail=false→Str p (toks (pcs x n)++t::rest)→okR n t→∃r,LV n p x r∧r.fail=false∧Str r (t::rest)
def DL(x:XT)(n:Nat):Prop:=∀(p:Ps) (t:Tk) (rest:List Tk),p.fail=false→Str p (toks (pcs x n)++t::rest)→okR (n+1) t→∃q,q.fail=false∧Str q (t::rest)∧∀z r,SV n x q z r→LV n p z r
def DP(x:XT):Prop:=∀(p:Ps) (t:Tk) (rest:List Tk),p.fail=false→Str p (toks (pcs x 8)++t::rest)→∃r,PV p x r∧r.fail=false∧Str r (t::rest)
theorem okR.mono{n m:Nat}{t:Tk}(h:okR n t)(hm:n≤m):okR m t:=fun o ho hl=>h o ho (by omega)
theorem adv_fail(p:Ps):p.adv.fail=p.fail:=by
 unfold Ps.adv
 split
 ·rfl
 ·split
  ·rfl
  ·split
   ·rfl
   ·split
    ·unfold Ps.quoted
     split
     ·split<;>rfl
     ·rfl
    ·split<;>rfl
theorem opAt_none{n:Nat}{p:Ps}{t:Tk}(hp:p.fail=false)(ht:(p.k,p.tx)=t)(h:okR n t):opAt n p=none:=by
 unfold opAt
 rw[List.find?_eq_none.2 fun o ho=>?_]
 ·rfl
 ·rw[is_tk hp ht]
  by_cases hl:o.2.2=n
  ·rw[h o ho (by omega)];simp
  ·rw[beq_false_of_ne hl];simp
theorem opAt_some{f:Bs8×Nat×Nat}(hf:f∈opsT){p:Ps}{k:Nat}(hk:k=1∨k=4)(hp:p.fail=false)(ht:(p.k,p.tx)=(k,f.1)):opAt f.2.2 p=some f.2.1:=by
 unfold opAt
 have h1:∀f∈opsT,(opsT.find? fun o=>o.2.2==f.2.2&&(f.1==o.1))=some f:=by decide
 have h2:(fun o:Bs8×Nat×Nat=>o.2.2==f.2.2&&p.is o.1)=fun o=>o.2.2==f.2.2&&(f.1==o.1):=by
  funext o
  rw[is_tk hp ht]
  unfold tIs
  rcases hk with rfl|rfl<;>rfl
 rw[h2,h1 f hf];rfl
theorem okR_op{f:Bs8×Nat×Nat}(hf:f∈opsT)(k n:Nat)(hn:f.2.2<n):okR n (k,f.1):=fun o ho hl=>by
 have h1:∀f∈opsT,∀o∈opsT,f.2.2<o.2.2→(f.1==o.1)=false:=by decide
 unfold tIs
 rw[h1 f hf o ho (by omega),Bool.and_false]
theorem opP_tok{f:Bs8×Nat×Nat}:∃k,(k=1∨k=4)∧(opP f.1).tok=[(k,f.1)]:=by
 unfold opP
 split
 ·rename_i c e;exact⟨4,.inr rfl,by rw[e];rfl⟩
 ·exact⟨1,.inl rfl,rfl⟩
theorem DL.d{x:XT}{n:Nat}(h:DL x n):DR x n:=fun p t rest hp hs ho=>by
 obtain⟨q,h1,h2,h3⟩:=h p t rest hp hs (ho.mono (Nat.le_succ n))
 exact⟨q,h3 x q (SV.stop h1 (opAt_none h1 h2.1 ho)),h1,h2⟩
theorem DR.down{x:XT}{n:Nat}(h3:n≠3)(h8:n≠8)(he:pcs x n=pcs x (n+1))(h:DR x (n+1)):DL x n:=fun p t rest hp hs ho=>by
 rw[he] at hs
 obtain⟨r,h1,h2,h4⟩:=h p t rest hp hs ho
 exact⟨r,h2,h4,fun z r' hz=>LV.ln h3 h8 h1 hz⟩
theorem DR.down3{x:XT}(he:pcs x 3=pcs x 4)(hh:∃t ts,toks (pcs x 4)=t::ts∧tIs t tNot=false)(h:DR x 4):DR x 3:=fun p t rest hp hs ho=>by
 rw[he] at hs
 obtain⟨r,h1,h2,h4⟩:=h p t rest hp hs (ho.mono (by decide))
 obtain⟨t0,ts,e,hn⟩:=hh
 rw[e] at hs
 exact⟨r,LV.l3 (by rw[is_tk hp hs.1];exact hn) h1,h2,h4⟩
theorem DP.d{x:XT}(h:DP x):DR x 8:=fun p t rest hp hs ho=>by
 obtain⟨r,h1,h2,h4⟩:=h p t rest hp hs
 exact⟨r,LV.l8 h1,h2,h4⟩
theorem want_tk{p:Ps}{t:Tk}{x:Bs8}{ts:List Tk}(hp:p.fail=false)(hs:Str p (t::ts))(h:tIs t x=true):p.want x=p.adv∧p.adv.fail=false∧Str p.adv ts:=by
 refine⟨?_,by rw[adv_fail,hp],hs.2⟩
 unfold Ps.want
 rw[is_tk hp hs.1,if_pos h]
theorem toks_pcR(q:Rat)(rest:List Tk):toks (pcR q)++rest=if q.num<0 then(4,tMinus)::(2,numS q)::rest else(2,numS q)::rest:=by
 unfold pcR
 rw[toks_append]
 split<;>rfl
theorem number_tk{p:Ps}{w:Bs8}{q:Rat}{ts:List Tk}(o:Bool)(hp:p.fail=false)(hs:Str p ((2,w)::ts))(hw:ratTok w=some q)(ho:o=true→idOK q=true):p.number o=(q,p.adv)∧p.adv.fail=false∧Str p.adv ts:=by
 refine⟨?_,by rw[adv_fail,hp],hs.2⟩
 have hk:p.k=2:=congrArg Prod.fst hs.1
 have hx:p.tx=w:=congrArg Prod.snd hs.1
 unfold Ps.number
 rw[hp,hk,hx,hw,if_neg (by decide)]
 show(if(o&& !idOK q)=true then _ else _)=_
 rw[if_neg]
 cases o with
 |false=>simp
 |true=>rw[ho rfl];simp
theorem signed_tk{p:Ps}{q:Rat}{ts:List Tk}(hp:p.fail=false)(hs:Str p (toks (pcR q)++ts)):p.signed.1= .numd 1 q∧p.signed.2.fail=false∧Str p.signed.2 ts∧∃t,(p.k,p.tx)=t∧(t.1==2||tIs t tMinus)=true:=by
 rw[toks_pcR] at hs
 have hr:=ratTok_numS q
 split at hs
 ·rename_i hq
  rw[if_pos hq] at hr
  obtain⟨e,h1,h2⟩:=number_tk (p:=p.adv) false (by rw[adv_fail,hp]) hs.2 hr (fun h=>by cases h)
  unfold Ps.signed
  rw[is_tk hp hs.1,if_pos (by decide),e]
  exact⟨by rw[Rat.neg_neg],h1,h2,_,hs.1,by decide⟩
 ·rename_i hq
  rw[if_neg hq] at hr
  obtain⟨e,h1,h2⟩:=number_tk (p:=p) false hp hs hr (fun h=>by cases h)
  unfold Ps.signed
  rw[is_tk hp hs.1,if_neg (by simp[tIs]),e]
  exact⟨rfl,h1,h2,_,hs.1,rfl⟩
theorem isZ_q{r:Rat}(h:(NumV.q r).isZ=true):r=0:=of_decide_eq_true h
theorem pcs_leaf{x:XT}(h:opsT.find? (fun f=>decide ((f.2.1:Int)=x.op))=none)(n m:Nat):pcs x n=pcs x m:=by
 cases x with
 |mk o nm u l=>
  replace h:opsT.find? (fun f=>decide ((f.2.1:Int)=o))=none:=h
  rw[pcs,pcs,h]
noncomputable def aTk:Nat→List XT→List Tk
 |_,[]=>[]
 |i,y::ys=>(if 0<i then[(4,tComma)] else[])++toks (pcs y 1)++aTk (i+1) ys
theorem aTk_join:∀(ys:List XT) (i:Nat),aTk i ys=(if 0<i∧ys≠[] then[(4,tComma)] else[])++toks (joinP (pcsLs ys))
 |[],i=>by rw[aTk,pcsLs,if_neg (by simp)];rfl
 |[y],i=>by
  rw[aTk,aTk,pcsLs,pcsLs,joinP,List.append_nil]
  by_cases h:0<i
  ·rw[if_pos h,if_pos ⟨h,by simp⟩]
  ·rw[if_neg h,if_neg (fun e=>h e.1)]
 |y::z::ys,i=>by
  have e1:pcsLs (y::z::ys)=pcs y 1::pcs z 1::pcsLs ys:=by rw[pcsLs,pcsLs]
  have e2:pcsLs (z::ys)=pcs z 1::pcsLs ys:=by rw[pcsLs]
  have ih:=aTk_join (z::ys) (i+1)
  rw[if_pos (c:=0<i+1∧z::ys≠[]) ⟨Nat.succ_pos i,by simp⟩] at ih
  rw[aTk,ih,e1,joinP,←e2,toks_append,toks_append]
  have e:toks [Piece.y 44,Piece.sp]=[(4,tComma)]:=rfl
  rw[e]
  by_cases h:0<i
  ·rw[if_pos h,if_pos ⟨h,by simp⟩];simp
  ·rw[if_neg h,if_neg (fun e=>h e.1)];simp
theorem AV.all{op n:Nat}{e:Bs8}(he:e=tShut∨e=tShutB):∀(ys:List XT) (i:Nat) (l:List XT) (p:Ps) (rest:List Tk),(∀y∈ys,DR y 1)→p.fail=false→i+ys.length=n→
 Str p (aTk i ys++(4,e)::rest)→∃r,AV op e n i l p (.node op (l++ys)) r∧r.fail=false∧Str r rest
 |[],i,l,p,rest,hy,hp,hn,hs=>by
  obtain⟨h1,h2,h3⟩:=want_tk (x:=e) hp hs (by rcases he with rfl|rfl<;>decide)
  refine⟨p.want e,?_,by rw[h1];exact h2,by rw[h1];exact h3⟩
  rw[List.append_nil]
  exact AV.done (by simp at hn;omega)
 |y::ys,i,l,p,rest,hy,hp,hn,hs=>by
  rw[List.length_cons] at hn
  rw[aTk,List.append_assoc,List.append_assoc] at hs
  have h1:∃p1,(if 0<i then p.want tComma else p)=p1∧p1.fail=false∧Str p1 (toks (pcs y 1)++(aTk (i+1) ys++(4,e)::rest)):=by
   by_cases h:0<i
   ·rw[if_pos h] at hs ⊢
    obtain⟨h1,h2,h3⟩:=want_tk (x:=tComma) hp hs (by decide)
    exact⟨_,h1,h2,h3⟩
   ·rw[if_neg h] at hs ⊢
    exact⟨_,rfl,hp,hs⟩
  obtain⟨p1,e1,hp1,hs1⟩:=h1
  have hokR:∀w:Bs8,w=tComma∨w=tShut∨w=tShutB→okR 1 (4,w):=fun w hw o ho _=>by
   have hall:∀o∈opsT,tIs (4,tComma) o.1=false∧tIs (4,tShut) o.1=false∧tIs (4,tShutB) o.1=false:=by decide
   have:=hall o ho
   rcases hw with rfl|rfl|rfl
   ·exact this.1
   ·exact this.2.1
   ·exact this.2.2
  have h2:∃q,LV 1 p1 y q∧q.fail=false∧Str q (aTk (i+1) ys++(4,e)::rest):=by
   cases ys with
   |nil=>
    obtain⟨q,a,b,c⟩:=hy y (List.mem_cons_self ..) p1 (4,e) rest hp1 hs1 (hokR e (by rcases he with rfl|rfl<;>simp))
    exact⟨q,a,b,c⟩
   |cons z ys=>
    have e2:aTk (i+1) (z::ys)++(4,e)::rest=(4,tComma)::(toks (pcs z 1)++(aTk (i+1+1) ys++(4,e)::rest)):=by
     rw[aTk,if_pos (Nat.succ_pos i)];simp
    rw[e2] at hs1 ⊢
    exact hy y (List.mem_cons_self ..) p1 _ _ hp1 hs1 (hokR tComma (.inl rfl))
  obtain⟨q,hq1,hq2,hq3⟩:=h2
  have hin2:i+1+ys.length=n:=by omega
  obtain⟨r,hr1,hr2,hr3⟩:=AV.all (op:=op) he ys (i+1) (l++[y]) q rest (fun z hz=>hy z (List.mem_cons_of_mem _ hz)) hq2 hin2 hq3
  refine⟨r,?_,hr2,hr3⟩
  rw[List.append_assoc] at hr1
  have hin:i<n:=by omega
  exact AV.more hin e1 hp1 hq1 hr1
theorem cntL_fun{f:Bs8×Nat×Nat}(hf:f∈funT):cntL (f.2.1:Int)=f.2.2:=by
 have hall:∀f∈funT,cntL (f.2.1:Int)=f.2.2:=by decide
 exact hall f hf
theorem cntL_op{f:Bs8×Nat×Nat}(hf:f∈opsT):cntL (f.2.1:Int)=if f.2.2=3 then 1 else 2:=by
 have hall:∀f∈opsT,cntL (f.2.1:Int)=if f.2.2=3 then 1 else 2:=by decide
 exact hall f hf
theorem okXs_mem{l:List XT}(h:okXs l){y:XT}(hy:y∈l):okX y:=by
 obtain⟨i,hi⟩:=List.mem_iff_getElem?.1 hy
 exact okXs_get h hi
theorem qXs_mem{l:List XT}(h:qXs l){y:XT}(hy:y∈l):qX y:=by
 obtain⟨i,hi⟩:=List.mem_iff_getElem?.1 hy
 exact qXs_get h hi
theorem PV.mk2{p q:Ps}{x:XT}{w:XT×Ps}(h:PV p w.1 w.2)(e:w=(x,q)):PV p x q:=by subst e;exact h
theorem zone_tk{p q r:Ps}(h1:p.want tOpen=q)(h2:q.fail=false)(h3:q.k=3)(h4:q.adv.want tShut=r):p.zone=(.named 5 q.tx,r):=by
 subst h1;subst h4
 have hc:¬((p.want tOpen).fail||(p.want tOpen).k !=3)=true:=by rw[h2,h3];simp
 unfold Ps.zone
 dsimp only
 rw[if_neg hc]
theorem leaf_DP{o:Int}{nm:Bs8}{r:Rat}{l:List XT}(hx:okX (.mk o nm (.q r) l))(hq:qXs l)(hy:∀y∈l,DR y 1)(hf:opsT.find? (fun f=>decide ((f.2.1:Int)=o))=none):DP (.mk o nm (.q r) l):=fun p t rest hp hs=>by
 rw[okX] at hx
 obtain⟨f1,f2,f3,f4,f5,f6,f7⟩:=node_facts hx.1
 have hcnt:=nodeE_cnt hx.1
 replace f1:o≠1→o≠3→(NumV.q r).isZ=true:=f1
 replace f2:o≠4→o≠5→nm=[]:=f2
 replace f3:o=2→(l.map XT.op)[0]? =some 1∧(l.map XT.op)[1]? =some 1:=f3
 replace f4:o=3→idOK r=true:=f4
 replace f5:o=4→nameL nm=true:=f5
 replace f6:o=5→zoneL nm=true:=f6
 replace f7:0≤cntL o:=f7
 replace hcnt:((l.length:Nat):Int)=cntL o:=hcnt
 rw[pcs,hf] at hs
 dsimp only at hs
 split at hs
 ·rename_i e;subst e
  have hn:=f2 (by decide) (by decide)
  have hl:l=[]:=List.eq_nil_of_length_eq_zero (by have:cntL 1=0:=(by decide);omega)
  subst hn;subst hl
  replace hs:Str p (toks (pcR r)++t::rest):=hs
  obtain⟨e1,h1,h2,t0,ht,h3⟩:=signed_tk hp hs
  have:=PV.num hp ht h3
  rw[e1] at this
  exact⟨_,this,h1,h2⟩
 ·split at hs
  ·rename_i e;subst e
   have hz:=isZ_q (f1 (by decide) (by decide))
   have hl:l=[]:=List.eq_nil_of_length_eq_zero (by have:cntL 4=0:=(by decide);omega)
   subst hz;subst hl
   exact⟨p.adv,PV.name (f5 rfl) hp hs.1,by rw[adv_fail,hp],hs.2⟩
  ·split at hs
   ·rename_i e;subst e
    have hn:=f2 (by decide) (by decide)
    have hl:l=[]:=List.eq_nil_of_length_eq_zero (by have:cntL 3=0:=(by decide);omega)
    subst hn;subst hl
    have hid:=f4 rfl
    have hnn:¬r.num<0:=by
     unfold idOK at hid
     simp only[Bool.and_eq_true,decide_eq_true_eq] at hid
     omega
    have hr:=ratTok_numS r
    rw[if_neg hnn] at hr
    replace hs:Str p ((1,tObject)::(4,tOpen)::(toks (pcR r)++[(4,tShut)]++t::rest)):=by
     rw[toks_append,toks_append] at hs;exact hs
    rw[List.append_assoc,toks_pcR,if_neg hnn] at hs
    obtain⟨w1,w2,w3⟩:=want_tk (p:=p.adv) (x:=tOpen) (by rw[adv_fail,hp]) hs.2 (by decide)
    obtain⟨n1,n2,n3⟩:=number_tk true w2 w3 hr (fun _=>hid)
    obtain⟨v1,v2,v3⟩:=want_tk (x:=tShut) n2 n3 (by decide)
    have:=PV.object (by rw[is_tk hp hs.1];decide)
    have e:p.adv.objectX=(.numd 3 r,p.adv.adv.adv.adv):=by
     unfold Ps.objectX
     rw[w1]
     dsimp only
     rw[n1]
     dsimp only
     rw[v1]
    have hz:=PV.mk2 this e
    exact⟨p.adv.adv.adv.adv,hz,v2,v3⟩
   ·split at hs
    ·rename_i e;subst e
     have hz:=isZ_q (f1 (by decide) (by decide))
     have hl:l=[]:=List.eq_nil_of_length_eq_zero (by have:cntL 5=0:=(by decide);omega)
     subst hz;subst hl
     replace hs:Str p ((1,tZone)::(4,tOpen)::(3,nm)::(4,tShut)::t::rest):=hs
     obtain⟨w1,w2,w3⟩:=want_tk (p:=p.adv) (x:=tOpen) (by rw[adv_fail,hp]) hs.2 (by decide)
     have hk:p.adv.adv.k=3:=congrArg Prod.fst w3.1
     have hx:p.adv.adv.tx=nm:=congrArg Prod.snd w3.1
     obtain⟨v1,v2,v3⟩:=want_tk (p:=p.adv.adv.adv) (x:=tShut) (by rw[adv_fail,w2]) w3.2 (by decide)
     have hz:=PV.zone (by rw[is_tk hp hs.1];decide)
     have e:p.adv.zone=(.named 5 nm,p.adv.adv.adv.adv):=by
      rw[zone_tk w1 w2 hk v1,hx]
     have hz2:=PV.mk2 hz e
     exact⟨p.adv.adv.adv.adv,hz2,v2,v3⟩
    ·rename_i n1 n4 n3 n5
     have hn:=f2 n4 n5
     have hz:=isZ_q (f1 n1 n3)
     subst hn;subst hz
     split at hs
     ·rename_i e;subst e
      replace hs:Str p ((4,tOpenB)::(toks (joinP (pcsLs l))++[(4,tShutB)]++t::rest)):=by
       rw[toks_append,toks_append] at hs;exact hs
      have hj:=aTk_join l 0
      rw[if_neg (by simp)] at hj
      rw[List.append_assoc,show toks (joinP (pcsLs l))=aTk 0 l by rw[hj];rfl] at hs
      obtain⟨q,h1,h2,h3⟩:=AV.all (op:=6) (n:=2) (e:=tShutB) (.inr rfl) l 0 [] p.adv _ hy (by rw[adv_fail,hp]) (by have:cntL 6=2:=(by decide);omega) hs.2
      exact⟨q,PV.inter (by rw[is_tk hp hs.1];decide) h1,h2,h3⟩
     ·split at hs
      ·rename_i e;subst e
       have hl:l.length=2:=by have:cntL 2=2:=(by decide);omega
       obtain⟨a,b,rfl⟩:∃a b,l=[a,b]:=by
        match l,hl with
        |[a,b],_=>exact⟨a,b,rfl⟩
       obtain⟨ha,hb⟩:=f3 rfl
       have num_eq:∀y:XT,okX y→qX y→y.op=1→∃q,y= .numd 1 q∧pcs y 1=pcR q:=fun y h1 h2 h3=>by
        cases y with
        |mk o nm u l=>
         rw[okX] at h1;rw[qX] at h2
         obtain⟨q,rfl⟩:=h2.1
         obtain⟨_,g2,_⟩:=node_facts h1.1
         replace h3:o=1:=h3
         subst h3
         have e1:nm=[]:=g2 (by show(1:Int)≠4;decide) (by show(1:Int)≠5;decide)
         have hc:=nodeE_cnt h1.1
         have e2:l=[]:=List.eq_nil_of_length_eq_zero (by
 have h5:((l.length:Nat):Int)=cntL 1:=hc
 have:cntL 1=0:=by decide
 omega)
         subst e1;subst e2
         refine⟨q,rfl,?_⟩
         have h6:opsT.find? (fun f=>decide ((f.2.1:Int)=1))=none:=by decide
         rw[pcs,h6];rfl
       rw[okXs,okXs] at hx;rw[qXs,qXs] at hq
       obtain⟨u,rfl,eu⟩:=num_eq a hx.2.1 hq.1 (by simpa using ha)
       obtain⟨v,rfl,ev⟩:=num_eq b hx.2.2.1 hq.2.1 (by simpa using hb)
       replace hs:Str p ((1,tPoint)::(4,tOpen)::(toks (pcR u)++((4,tComma)::(toks (pcR v)++((4,tShut)::t::rest))))):=by
        rw[pcsLs,pcsLs,pcsLs,eu,ev,joinP,joinP] at hs
        simp only[toks_append] at hs
        have:Str p ((1,tPoint)::(4,tOpen)::(toks (pcR u)++[(4,tComma)]++toks (pcR v)++[(4,tShut)]++t::rest)):=hs
        simpa using this
       obtain⟨w1,w2,w3⟩:=want_tk (p:=p.adv) (x:=tOpen) (by rw[adv_fail,hp]) hs.2 (by decide)
       obtain⟨a1,a2,a3,_⟩:=signed_tk w2 w3
       obtain⟨c1,c2,c3⟩:=want_tk (x:=tComma) a2 a3 (by decide)
       obtain⟨b1,b2,b3,_⟩:=signed_tk c2 c3
       obtain⟨v1,v2,v3⟩:=want_tk (x:=tShut) b2 b3 (by decide)
       have:=PV.point (by rw[is_tk hp hs.1];decide)
       have e:p.adv.pointX=(.node 2 [.numd 1 u,.numd 1 v],p.adv.adv.signed.2.adv.signed.2.adv):=by
        unfold Ps.pointX
        rw[w1]
        dsimp only
        rw[c1,a1,b1,v1]
       have hz:=PV.mk2 this e
       exact⟨p.adv.adv.signed.2.adv.signed.2.adv,hz,v2,v3⟩
      ·split at hs
       ·rename_i f hff
        have hfm:=List.mem_of_find?_eq_some hff
        have hfo:(f.2.1:Int)=o:=by have:=List.find?_some hff;simpa using this
        subst hfo
        replace hs:Str p ((1,f.1)::(4,tOpen)::(toks (joinP (pcsLs l))++[(4,tShut)]++t::rest)):=by
         rw[toks_append,toks_append] at hs;exact hs
        have hj:=aTk_join l 0
        rw[if_neg (by simp)] at hj
        rw[List.append_assoc,show toks (joinP (pcsLs l))=aTk 0 l by rw[hj];rfl] at hs
        obtain⟨w1,w2,w3⟩:=want_tk (p:=p.adv) (x:=tOpen) (by rw[adv_fail,hp]) hs.2 (by decide)
        obtain⟨q,h1,h2,h3⟩:=AV.all (op:=f.2.1) (n:=f.2.2) (e:=tShut) (.inl rfl) l 0 [] p.adv.adv _ hy w2 (by rw[cntL_fun hfm] at hcnt;omega) w3
        rw[←w1] at h1
        exact⟨q,PV.call hfm (by rw[is_tk hp hs.1];simp[tIs]) h1,h2,h3⟩
       ·rename_i n6 n2 hnone
        exfalso
        have:cntL o= -1:=by
         unfold cntL
         have hne:o≠25:=fun e=>by subst e;revert hf;decide
         rw[if_neg (by omega),if_neg hne,if_neg (by omega),hnone,hf]
        omega
theorem head_no:∀(k:Nat) (x:XT),x.size≤k→okX x→∀n,4≤n→∃t ts,toks (pcs x n)=t::ts∧tIs t tNot=false
 |0,x,hk,hx,n,hn=>by have:=x.size_pos;omega
 |k+1,.mk o nm u l,hk,hx,n,hn=>by
  rw[okX] at hx
  obtain⟨f1,f2,f3,f4,f5,f6,f7⟩:=node_facts hx.1
  have hcnt:=nodeE_cnt hx.1
  replace f5:o=4→nameL nm=true:=f5
  replace f7:0≤cntL o:=f7
  replace hcnt:((l.length:Nat):Int)=cntL o:=hcnt
  rw[pcs]
  split
  ·rename_i f hf
   have hfm:=List.mem_of_find?_eq_some hf
   have hfo:(f.2.1:Int)=o:=by have:=List.find?_some hf;simpa using this
   split
   ·rw[toks_append,toks_append];exact⟨(4,[40]),_,rfl,by decide⟩
   ·rename_i hlt
    have h3:f.2.2≠3:=by omega
    rw[if_neg h3]
    rw[←hfo,cntL_op hfm,if_neg h3] at hcnt
    cases l with
    |nil=>simp at hcnt
    |cons y l=>
     rw[okXs] at hx
     rw[XT.size,XT.sizes] at hk
     obtain⟨t,ts,e,ht⟩:=head_no k y (by omega) hx.2.1 (if f.2.2=4 then 5 else f.2.2) (by split<;>omega)
     rw[pcsAt,toks_append,toks_append,e]
     exact⟨t,_,rfl,ht⟩
  ·rename_i hf
   split
   ·rw[←List.append_nil (toks _),toks_pcR]
    split
    ·exact⟨_,_,rfl,by decide⟩
    ·exact⟨_,_,rfl,by simp[tIs]⟩
   ·split
    ·rename_i _ e;exact⟨_,_,rfl,name_no (f5 e) (.inl (by decide))⟩
    ·split
     ·rw[toks_append,toks_append];exact⟨(1,tObject),_,rfl,by decide⟩
     ·split
      ·exact⟨(1,tZone),_,rfl,by decide⟩
      ·split
       ·rw[toks_append,toks_append];exact⟨(4,[91]),_,rfl,by decide⟩
       ·split
        ·rw[toks_append,toks_append];exact⟨(1,tPoint),_,rfl,by decide⟩
        ·split
         ·rename_i f hf
          have hall:∀f∈funT,tIs (1,f.1) tNot=false:=by decide
          rw[toks_append,toks_append];exact⟨(1,f.1),_,rfl,hall f (List.mem_of_find?_eq_some hf)⟩
         ·rename_i n1 n4 n3 n5 n6 n2 _ hnone
          exfalso
          have:cntL o= -1:=by
           unfold cntL
           have hne:o≠25:=fun e=>by subst e;revert hf;decide
           rw[if_neg (by omega),if_neg hne,if_neg (by omega),hnone,hf]
          omega
theorem down_to{x:XT}(hx:okX x){lo:Nat}(hl:1≤lo):∀(k:Nat),lo+k≤8→(∀m,lo≤m→m<lo+k→pcs x m=pcs x (m+1))→DR x (lo+k)→∀n,lo≤n→n≤lo+k→DR x n
 |0,h8,he,h,n,h1,h2=>by
  have:n=lo:=by omega
  subst this;exact h
 |k+1,h8,he,h,n,h1,h2=>by
  have step:DR x (lo+k):=by
   have e:=he (lo+k) (by omega) (by omega)
   by_cases h3:lo+k=3
   ·rw[h3] at e ⊢
    rw[show lo+(k+1)=4 by omega] at h
    exact DR.down3 e (head_no x.size x (Nat.le_refl _) hx 4 (by decide)) h
   ·exact(DR.down h3 (by omega) e h).d
  by_cases h4:n=lo+(k+1)
  ·subst h4;exact h
  ·exact down_to hx hl k (by omega) (fun m a b=>he m a (by omega)) step n h1 (by omega)
theorem op_lev{f:Bs8×Nat×Nat}(hf:f∈opsT):1≤f.2.2∧f.2.2≤7:=by
 have hall:∀f∈opsT,1≤f.2.2∧f.2.2≤7:=by decide
 exact hall f hf
theorem read_all:∀(k:Nat) (x:XT),x.size≤k→okX x→qX x→(∀n,1≤n→n≤8→DR x n)∧∀n,1≤n→n≤7→n≠3→n≠4→DL x n
 |0,x,hk,hx,hq=>by have:=x.size_pos;omega
 |k+1,.mk o nm u l,hk,hx,hq=>by
  have hx0:=hx
  rw[okX] at hx;rw[qX] at hq
  obtain⟨⟨r,rfl⟩,hql⟩:=hq
  have hy:∀y∈l,(∀n,1≤n→n≤8→DR y n)∧∀n,1≤n→n≤7→n≠3→n≠4→DL y n:=fun y h=>by
   obtain⟨i,hi⟩:=List.mem_iff_getElem?.1 h
   have:=XT.sizes_get hi
   rw[XT.size] at hk
   exact read_all k y (by omega) (okXs_mem hx.2 h) (qXs_mem hql h)
  have toL:(∀n,1≤n→n≤8→DR (.mk o nm (.q r) l) n)→(∀n,pcs (.mk o nm (.q r) l) n=pcs (.mk o nm (.q r) l) (n+1))→∀n,1≤n→n≤7→n≠3→n≠4→DL (.mk o nm (.q r) l) n:=fun h e n h1 h2 h3 _=>DR.down h3 (by omega) (e n) (h (n+1) (by omega) (by omega))
  cases hf:opsT.find? (fun f=>decide ((f.2.1:Int)=o)) with
  |none=>
   have e:=pcs_leaf (x:= .mk o nm (.q r) l) hf
   have h8:=(leaf_DP hx0 hql (fun y h=>(hy y h).1 1 (by decide) (by decide)) hf).d
   have hD:=down_to hx0 (lo:=1) (by decide) 7 (by decide) (fun m _ _=>e m (m+1)) h8
   exact⟨fun n a b=>hD n a (by omega),toL (fun n a b=>hD n a (by omega)) fun n=>e n (n+1)⟩
  |some f=>
   have hfm:=List.mem_of_find?_eq_some hf
   have hfo:(f.2.1:Int)=o:=by have:=List.find?_some hf;simpa using this
   subst hfo
   obtain⟨l1,l7⟩:=op_lev hfm
   obtain⟨f1,f2,f3,f4,f5,f6,f7⟩:=node_facts hx.1
   have hcnt:((l.length:Nat):Int)=cntL (f.2.1:Int):=nodeE_cnt hx.1
   rw[cntL_op hfm] at hcnt
   have hne:∀f∈opsT,(f.2.1:Int)≠1∧(f.2.1:Int)≠3∧(f.2.1:Int)≠4∧(f.2.1:Int)≠5:=by decide
   obtain⟨n1,n3,n4,n5⟩:=hne f hfm
   have hn:nm=[]:=f2 n4 n5
   have hz:r=0:=isZ_q (f1 n1 n3)
   subst hn;subst hz
   have pLow:∀n,n≤f.2.2→pcs (.mk (f.2.1:Int) [] (.q 0) l) n=if f.2.2=3 then[.w tNot,.sp]++pcsAt l 0 3 else pcsAt l 0 (if f.2.2=4 then 5 else f.2.2)++[.sp,opP f.1,.sp]++pcsAt l 1 (f.2.2+1):=fun n h=>by
    rw[pcs,hf];dsimp only;rw[if_neg (by omega)]
   have pHigh:∀n,f.2.2<n→pcs (.mk (f.2.1:Int) [] (.q 0) l) n=[.y 40]++pcs (.mk (f.2.1:Int) [] (.q 0) l) 1++[.y 41]:=fun n h=>by
    rw[pLow 1 l1,pcs,hf];dsimp only;rw[if_pos h]
   have own:DR (.mk (f.2.1:Int) [] (.q 0) l) f.2.2∧(f.2.2≠3→f.2.2≠4→DL (.mk (f.2.1:Int) [] (.q 0) l) f.2.2):=by
    by_cases h3:f.2.2=3
    ·rw[if_pos h3] at hcnt
     obtain⟨y,rfl⟩:∃y,l=[y]:=by
      match l,hcnt with
      |[y],_=>exact⟨y,rfl⟩
     refine⟨fun p t rest hp hs ho=>?_,fun h=>absurd h3 h⟩
     rw[pLow _ (Nat.le_refl _),if_pos h3] at hs
     rw[h3] at ho ⊢
     have e25:∀f∈opsT,f.2.2=3→f.2.1=25:=by decide
     rw[e25 f hfm h3]
     replace hs:Str p ((1,tNot)::(toks (pcs y 3)++t::rest)):=hs
     obtain⟨q,a,b,c⟩:=(hy y (List.mem_cons_self ..)).1 3 (by decide) (by decide) p.adv t rest (by rw[adv_fail,hp]) hs.2 ho
     exact⟨q,LV.not (by rw[is_tk hp hs.1];decide) a,b,c⟩
    ·rw[if_neg h3] at hcnt
     obtain⟨y,z,rfl⟩:∃y z,l=[y,z]:=by
      match l,hcnt with
      |[y,z],_=>exact⟨y,z,rfl⟩
     have hY:=hy y (List.mem_cons_self ..)
     have hZ:=hy z (List.mem_cons_of_mem _ (List.mem_cons_self ..))
     obtain⟨kk,hkk,ek⟩:=opP_tok (f:=f)
     have hpc:∀(t:Tk) (rest:List Tk),toks (pcs (.mk (f.2.1:Int) [] (.q 0) [y,z]) f.2.2)++t::rest=toks (pcs y (if f.2.2=4 then 5 else f.2.2))++(kk,f.1)::(toks (pcs z (f.2.2+1))++t::rest):=fun t rest=>by
      rw[pLow _ (Nat.le_refl _),if_neg h3,pcsAt,pcsAt,pcsAt,toks_append,toks_append,toks_cons,toks_cons,toks_cons,ek]
      simp[Piece.tok,toks]
     by_cases h4:f.2.2=4
     ·refine⟨fun p t rest hp hs ho=>?_,fun _ h=>absurd h4 h⟩
      rw[hpc,if_pos h4] at hs
      obtain⟨q,a,b,c⟩:=hY.1 5 (by decide) (by decide) p _ _ hp hs (okR_op hfm kk 5 (by omega))
      have e1:=opAt_some hfm hkk b c.1
      rw[h4] at e1 ho c ⊢
      obtain⟨v,a2,b2,c2⟩:=hZ.1 5 (by decide) (by decide) q.adv t rest (by rw[adv_fail,b]) c.2 (ho.mono (by decide))
      exact⟨v,LV.ln (by decide) (by decide) a (SV.once b e1 a2),b2,c2⟩
     ·have hL:DL (.mk (f.2.1:Int) [] (.q 0) [y,z]) f.2.2:=fun p t rest hp hs ho=>by
       rw[hpc,if_neg h4] at hs
       obtain⟨q,b,c,a⟩:=hY.2 f.2.2 l1 l7 h3 h4 p _ _ hp hs (okR_op hfm kk (f.2.2+1) (by omega))
       have e1:=opAt_some hfm hkk b c.1
       obtain⟨v,a2,b2,c2⟩:=hZ.1 (f.2.2+1) (by omega) (by omega) q.adv t rest (by rw[adv_fail,b]) c.2 ho
       exact⟨v,b2,c2,fun z' r' hz=>a z' r' (SV.go h4 b e1 a2 hz)⟩
      exact⟨hL.d,fun _ _=>hL⟩
   have low:=down_to hx0 (lo:=1) (by decide) (f.2.2-1) (by omega) (fun m a b=>by rw[pLow m (by omega),pLow (m+1) (by omega)]) (by rw[show 1+(f.2.2-1)=f.2.2 by omega];exact own.1)
   have h8:DR (.mk (f.2.1:Int) [] (.q 0) l) 8:=fun p t rest hp hs ho=>by
    rw[pHigh 8 (by omega),toks_append,toks_append] at hs
    replace hs:Str p ((4,tOpen)::(toks (pcs (.mk (f.2.1:Int) [] (.q 0) l) 1)++[(4,tShut)]++t::rest)):=hs
    rw[List.append_assoc] at hs
    obtain⟨q,a,b,c⟩:=low 1 (by decide) (by omega) p.adv (4,tShut) (t::rest) (by rw[adv_fail,hp]) hs.2 (fun o ho _=>by
 have hall:∀o∈opsT,tIs (4,tShut) o.1=false:=by decide
 exact hall o ho)
    obtain⟨w1,w2,w3⟩:=want_tk (x:=tShut) b c (by decide)
    have:=PV.paren (by rw[is_tk hp hs.1];decide) a
    rw[w1] at this
    exact⟨_,LV.l8 this,w2,w3⟩
   have high:=down_to hx0 (lo:=f.2.2+1) (by omega) (7-f.2.2) (by omega) (fun m a b=>by rw[pHigh m (by omega),pHigh (m+1) (by omega)]) (by rw[show f.2.2+1+(7-f.2.2)=8 by omega];exact h8)
   have hD:∀n,1≤n→n≤8→DR (.mk (f.2.1:Int) [] (.q 0) l) n:=fun n a b=>by
    by_cases h:n≤f.2.2
    ·exact low n a (by omega)
    ·exact high n (by omega) (by omega)
   refine⟨hD,fun n a b h3 h4=>?_⟩
   by_cases h:n=f.2.2
   ·subst h;exact own.2 h3 h4
   ·refine DR.down h3 (by omega) ?_ (hD (n+1) (by omega) (by omega))
    by_cases h5:n<f.2.2
    ·rw[pLow n (by omega),pLow (n+1) (by omega)]
    ·rw[pHigh n (by omega),pHigh (n+1) (by omega)]
end Go.Via
namespace Go.Proofs.YtfijbadahkmhbaaGreatDoor
open Go Go.RowKit Go.Via
theorem c_list_step{x:XT}(z:XR x)(m:Int)(H:∀y:XT,y.size<x.size→WriC m y)(hok:okX x)(hf:x.fit=true)(hM:x.size≤1000000000)(op en:Bs8)(g:Nat)(a:Bool)(d:Bd)(hd:d.ok)(hb:d.s.length+(op++joinC (txtLs x.args)++en).length≤17179869184):ECall Tryz.prog 126 [BB g a d,BF d,gB z.T false,GM m] [.pointer (some ⟨g,0,none⟩),.string (strU op),.slice z.a z.n z.cap,.string (strU en)] (BdX (d.s++(op++joinC (txtLs x.args)++en))) (fun _=> .tuple #[]) (fun d'=>[BB g true d'.1,BF d'.1]):=by
 refine⟨by kernel_rfl,fun B w hD hL0=>?_⟩;obtain⟨h1,h2,h3,h4,h5,h6⟩:=z.inv;have hsz:=x.size_eq;have hal:=XT.len_sizes x.args;have hjl:=joinC_take_le x.args;have hks:=(okX_parts hok).2;refine cB4 31 Tryz.func126 hL0 ?_;refine A1 ?_;refine at_regionM ?_;refine A2 ?_;refine Gm 2 [0,1] [] (fun d1=>[BB g true d1.1,BF d1.1,_,_]) (c_b_WriteString g a d op hd (by rw[List.length_append,List.length_append] at hb;omega)) (fun⟨d1,hd1,e1⟩=>?_);refine A11 ?_;refine El (ι:={r:Nat×Bd // r.1≤x.args.length∧r.2.ok∧r.2.s=d.s++op++joinC ((txtLs x.args).take r.1)}) (fun⟨⟨i,q⟩,hi,hq,hs⟩=>([(0,.pointer (some ⟨g,0,none⟩)),(3,.string (strU en)),(13,.slice z.a z.n z.cap),(14,.int .i64 (z.n:Nat)),(15,.int .i64 (i:Nat))],[BB g true q,BF q,gB z.T false,GM m],x.args.length-i)) ⟨(0,d1),Nat.zero_le _,hd1,by rw[e1];simp[joinC]⟩ ?_ (hL:=Weak.auto);rintro⟨⟨i,q⟩,hi,hq,hs⟩;(try dsimp only);dsimp only at hi hq hs;refine A6 ?_;refine Cd ?_ ?_<;>intro hb1
 ·have hlt:i<x.args.length:=by have:=of_decide_eq_true hb1;omega
  obtain⟨y,hy⟩:∃y,x.args[i]? =some y:=⟨x.args[i],List.getElem?_eq_getElem hlt⟩;obtain⟨ga,oa,ca,u,hza,hma,hra,hTa,hna⟩:=z.arg hy;have hst:=joinC_step hy;have hjl1:=hjl (i+1);have hjs:=congrArg List.length hst;simp only[List.length_append] at hjs hb;refine A7 ?_;refine r_indexAddrG (gg:=ga) (len:=z.n) (cap:=z.cap) (oa+i*7) u28 ti30 rfl rfl (congrArg (fun a=>some (Value.slice a z.n z.cap)) hza) rfl (by omega) (by omega) (by show oa+Int.toNat _*7=_;omega) ?_;refine r_loadT (v:=u.v) 2 (oa+i*7) u.cs rfl rfl rfl z.hT hma hna rfl ti30 hra rfl rfl rfl ?_;refine r_alloc [_,_,_,_,_,_,_] 7 (fun g=>[_,_,_,_,⟨some g,30,_,7,true⟩]) rfl rfl z30 rfl rfl (fun _=>rfl) (fun g0=>?_);refine A1 ?_;refine So 4 0 [_,_,_,_,⟨some g0,30,_,7,true⟩] [_,_,_,_,_,_,_] ?_;refine A9 ?_;refine Cd ?_ ?_<;>intro hb2
  ·have hi0:i≠0:=by have:=of_decide_eq_true hb2;omega
   have hsp:sepS i=[44,32]:=if_neg hi0;rw[hsp] at hst hjs;have hjs:_=_+2+_:=hjs;refine at_regionM ?_;refine A1 ?_;refine r_gcallM (A:=[BB g true q,BF q]) (C:=[]) [.pointer (some ⟨g,0,none⟩),.string (strU [44,32])] [0,1] [] (fun d1=>[BB g true d1.1,BF d1.1,_,_,_]) rfl rfl rfl rfl (c_b_WriteString g true q [44,32] hq (by simp only[hs,List.length_append];show _+2≤_;omega)) (by decide) rfl rfl trivial rfl rfl (fun _=>rfl) (fun _=>allOwn rfl) (fun _=>rfl) (fun⟨d2,hd2,e2⟩=>?_);refine A2 ?_;have hB2:d2.s.length+(txt y 1).length≤17179869184:=(by rw[e2,hs];simp only[List.length_append];show _+2+_≤_;omega);refine at_regionM ?_;refine A1 ?_;refine Ld 4 0 [_,_,_,_,_,_,_] ti30 ?_;refine Kr 25 (u.v) ?_;refine Gm 2 [0,1] [2,3] (fun(d3:BdX (d2.s++txt y 1))=>[BB g true d3.1,BF d3.1,_,_,_]) (by have h:=H y (XT.arg_lt hy) u 1 g true d2 hd2 (okXs_get hks hy) (XT.fits_get (XT.fit_parts hf).2.2 hy) (Nat.le_trans (Nat.le_of_lt (XT.arg_lt hy)) hM) (by decide) hB2;rw[hTa] at h;exact h) (fun⟨d3,hd3,e3⟩=>?_);refine A4 ?_;refine Ar (((i+1:Nat):Int)) ?_;refine A3 ?_;exact Nl ⟨(i+1,d3),hlt,hd3,by rw[e3,e2,hs,hst];simp only[List.append_assoc]⟩ (hL:=Weak.auto)
  ·have hi0:i=0:=by have:=of_decide_eq_false hb2;omega
   have hsp:sepS i=[]:=if_pos hi0;rw[hsp] at hst hjs;have hjs:_=_+0+_:=hjs;refine A2 ?_;have hB2:q.s.length+(txt y 1).length≤17179869184:=(by rw[hs];simp only[List.length_append];omega);refine at_regionM ?_;refine A1 ?_;refine Ld 4 0 [_,_,_,_,_,_,_] ti30 ?_;refine Kr 25 (u.v) ?_;refine Gm 2 [0,1] [2,3] (fun(d3:BdX (q.s++txt y 1))=>[BB g true d3.1,BF d3.1,_,_,_]) (by have h:=H y (XT.arg_lt hy) u 1 g true q hq (okXs_get hks hy) (XT.fits_get (XT.fit_parts hf).2.2 hy) (Nat.le_trans (Nat.le_of_lt (XT.arg_lt hy)) hM) (by decide) hB2;rw[hTa] at h;exact h) (fun⟨d3,hd3,e3⟩=>?_);refine A4 ?_;refine Ar (((i+1:Nat):Int)) ?_;refine A3 ?_;exact Nl ⟨(i+1,d3),hlt,hd3,by rw[e3,hs,hst];simp only[List.append_assoc,List.append_nil,List.nil_append]⟩ (hL:=Weak.auto)
 ·have hge:i=x.args.length:=by have:=of_decide_eq_false hb1;omega
  refine A5 ?_;refine at_regionM ?_;refine A2 ?_;refine Gm 2 [0,1] [] (fun d1=>[BB g true d1.1,BF d1.1,_,_]) (c_b_WriteString g true q en hq (by simp only[hs,hge,txtLs_all,List.length_append] at hb ⊢;omega)) (fun⟨d2,hd2,e2⟩=>?_);refine A1 ?_
  refine at_end0n rfl (fun w hL=>⟨⟨d2,hd2,by rw[e2,hs,hge,txtLs_all];simp only[List.append_assoc]⟩,rfl,hL.pk [some 0,some 1]⟩)
end Go.Proofs.YtfijbadahkmhbaaGreatDoor
namespace Go.Via
open Go Go.RowKit
theorem quoS_none:∀(s:Bs8),s.count 34=0→quoS s=s
 |[],_=>rfl
 |c::s,h=>by
  have hc:c≠34:=fun e=>by subst e;simp at h
  have h2:s.count 34=0:=by rw[List.count_cons] at h;omega
  have ih:=quoS_none s h2
  unfold quoS at ih ⊢
  rw[List.flatMap_cons,ih,if_neg hc];rfl
theorem quoS_cons(c:UInt8)(s:Bs8):quoS (c::s)=(if c=34 then[34,34] else[c])++quoS s:=by
 unfold quoS;rw[List.flatMap_cons]
theorem replaceK_quo:∀(s:Bs8) (k:Nat),s.count 34≤k→Lib.replaceK [34] [34,34] k s=quoS s
 |s,0,h=>by rw[Lib.replaceK,quoS_none s (by omega)]
 |[],k+1,h=>by rw[Lib.replaceK];rfl
 |c::s,k+1,h=>by
  rw[quoS_cons]
  by_cases hc:c=34
  ·subst hc
   have h0:Lib.index (34::s) [34]=(0:Nat):=by rw[Lib.index_one,Lib.indexByte];rfl
   rw[Lib.replaceK_hit _ _ _ _ 0 h0,if_pos rfl]
   have h2:s.count 34≤k:=by rw[List.count_cons_self] at h;omega
   have ih:=replaceK_quo s k h2
   show[]++[34,34]++Lib.replaceK [34] [34,34] k s=_
   rw[ih];rfl
  ·have h2:s.count 34≤k+1:=by rw[List.count_cons] at h;omega
   have ih:=replaceK_quo s (k+1) h2
   rw[if_neg hc,←ih,Lib.replaceK,Lib.replaceK,Lib.index_one,Lib.index_one,Lib.indexByte]
   have hc2:(c==34)=false:=by simpa using hc
   rw[hc2]
   have hge:=Lib.indexByte_ge s 34
   by_cases hm:Lib.indexByte s 34= -1
   ·rw[hm];rfl
   ·have hm2:(Lib.indexByte s 34== -1)=false:=by simpa using hm
    obtain⟨i,hi⟩:∃i:Nat,Lib.indexByte s 34=i:=⟨(Lib.indexByte s 34).toNat,by omega⟩
    have hm3:(Lib.indexByte s 34+1== -1)=false:=by rw[hi];simp;omega
    simp only[hm2,hm3,Bool.false_eq_true,if_false]
    rw[hi]
    have e1:((i:Int)+1).toNat=i+1:=by omega
    have e2:(i:Int).toNat=i:=by omega
    rw[e1,e2]
    simp[Nat.add_right_comm]
theorem replaceAll_quo(s:Bs8):Lib.replaceAll s [34] [34,34]=quoS s:=by
 have h:([34]==([34,34]:List UInt8))=false:=rfl
 rw[Lib.replaceAll,Lib.replace,h]
 simp only[Bool.false_eq_true,if_false]
 refine replaceK_quo s _ ?_
 unfold Lib.replaceNum
 rw[if_pos (.inl (by decide)),Lib.count_one]
 exact Nat.le_refl _
end Go.Via
namespace Go.Proofs.YtfijbadahkmhbaaGreatDoor
open Go Go.RowKit Go.Via
theorem c_ReplaceAll(m:Int)(s:Bs8)(hs:s.length≤1000000):SCall Tryz.prog 125 [GM m] [.string (strU s),.string (strU [34]),.string (strU [34,34])] Unit (fun _=> .string (strU (quoS s))) (fun _=>[]):=by
 refine⟨by kernel_rfl,fun w hL=>?_⟩
 have hm:w.cell? ⟨0,0,none⟩=some (.int .i64 m):=by
  obtain⟨g',hg',h2⟩:=hL.cell (k:=0) (j:=0) rfl (v:= .int .i64 m) rfl
  cases hg'
  exact h2
 have hcnt:Lib.countB (strU s) (strU [34])=s.count 34:=by
  show Lib.count (strU s).data.toList (strU [34]).data.toList=_
  simp only[strU]
  exact Lib.count_one 34 s
 have hc2:=List.count_le_length (a:=(34:UInt8)) (l:=s)
 have hsz:(strU s).size=s.length:=rfl
 have h1:=Tryz.strings_ReplaceAll (strU s) (strU [34]) (strU [34,34]) m w (by rw[hsz];omega) hm (Nat.le_refl _) (by rw[hcnt,hsz,show(strU [34,34]).size=2 from rfl];omega)
 refine Calls.mono h1 ?_
 rintro e w' ⟨rfl,hb⟩
 refine⟨(),?_,(LRel.nil w).same hb⟩
 show _=Ending.returned (Value.string (strU (quoS s)))
 rw[←replaceAll_quo]
 rfl
end Go.Proofs.YtfijbadahkmhbaaGreatDoor
namespace Go.Via
open Go Go.RowKit
theorem NumV.isId_ok{u:NumV}(h:u.isId=true):u.ok=true:=by
 cases u with
 |q r=>rfl
 |raw b1 s1 b2 s2=>
  unfold NumV.isId at h
  obtain⟨q,hq,_⟩:= @of_decide_eq_true _ (Classical.propDecidable _) h
  show isQ b1 s1 b2 s2=true
  unfold isQ
  exact @decide_eq_true _ (Classical.propDecidable _) ⟨q,hq⟩
theorem NumV.rat_ok{u:NumV}{b1 b2:Bool}{s1 s2:ByteArray}(h:u.cells=[.bool b1,.string s1,.bool b2,.string s2])(hf:u.fit=true)(ho:u.ok=true):(.agg #[.bool b1,.string s1,.bool b2,.string s2]:Value)=Q u.rat∧szQ u.rat≤1000000:=by
 have h1:=NumV.rat_cells h ho
 refine⟨h1,?_⟩
 obtain⟨q,e1,e2,e3,e4,_,h6⟩:=NumV.isId_yes h hf ho
 have e:Value.agg #[.bool b1,.string s1,.bool b2,.string s2]=Q q:=by rw[e1,e2,e3,e4];rfl
 rw[←Q_inj8 (e.symm.trans h1)]
 exact h6
theorem nodeE_num{x:XT}(h:nodeE x=0):(x.op=1→x.num.ok=true)∧(x.op=3→x.num.ok=true):=by
 unfold nodeE at h
 split at h
 ·cases h
 split at h
 ·cases h
 split at h
 ·cases h
 rename_i h1
 split at h
 ·cases h
 split at h
 ·cases h
 rename_i h3
 refine⟨fun e=>?_,fun e=>NumV.isId_ok ?_⟩
 ·cases hh:x.num.ok with
  |true=>rfl
  |false=>exact absurd ⟨e,hh⟩ h1
 ·cases hh:x.num.isId with
  |true=>rfl
  |false=>exact absurd ⟨e,hh⟩ h3
def sw6(o:Int):Prop:=o=1∨o=4∨o=3∨o=5∨o=6∨o=2
noncomputable def swS(x:XT):Bs8:=
 if x.op=1 then ratS x.num.rat else if x.op=4 then x.name else if x.op=3 then sObject++ratS x.num.rat++[41] else if x.op=5 then sZone++quoS x.name++[34,41]
 else if x.op=6 then[91]++joinC (txtLs x.args)++[93] else if x.op=2 then sPoint++joinC (txtLs x.args)++[41] else[]
noncomputable def fnL(x:XT)(L:List (Bs8×Nat×Nat)):Bs8:=L.flatMap fun f=>if(f.2.1:Int)=x.op then(f.1++[40])++joinC (txtLs x.args)++[41] else[]
theorem fnL_step(x:XT){L:List (Bs8×Nat×Nat)}{i:Nat}{o:Bs8×Nat×Nat}(h:L[i]? =some o):fnL x (L.take (i+1))=fnL x (L.take i)++(if(o.2.1:Int)=x.op then(o.1++[40])++joinC (txtLs x.args)++[41] else[]):=by
 have hlt:=(List.getElem?_eq_some_iff.1 h).1
 rw[List.take_add_one,h]
 unfold fnL
 rw[List.flatMap_append]
 simp
theorem fnL_le(x:XT)(L:List (Bs8×Nat×Nat))(i:Nat):(fnL x (L.take i)).length≤(fnL x L).length:=by
 have h:fnL x L=fnL x (L.take i)++fnL x (L.drop i):=by
  conv=>lhs;rw[←List.take_append_drop i L]
  unfold fnL
  rw[List.flatMap_append]
 rw[h,List.length_append]
 omega
theorem fnL_none(x:XT)(L:List (Bs8×Nat×Nat))(h:∀f∈L,(f.2.1:Int)≠x.op):fnL x L=[]:=by
 unfold fnL
 rw[List.flatMap_eq_nil_iff]
 intro f hf
 rw[if_neg (h f hf)]
theorem fnL_one(x:XT):∀(L:List (Bs8×Nat×Nat)) (f:Bs8×Nat×Nat),(L.map (fun o=>o.2.1)).Nodup→L.find? (fun f=>decide ((f.2.1:Int)=x.op))=some f→fnL x L=(f.1++[40])++joinC (txtLs x.args)++[41]
 |[],f,_,h=>by simp at h
 |o::L,f,hn,h=>by
  rw[List.map_cons,List.nodup_cons] at hn
  have e:fnL x (o::L)=(if(o.2.1:Int)=x.op then(o.1++[40])++joinC (txtLs x.args)++[41] else[])++fnL x L:=by unfold fnL;rw[List.flatMap_cons]
  rw[e]
  by_cases ho:(o.2.1:Int)=x.op
  ·rw[List.find?_cons_of_pos (by simpa using ho)] at h
   cases h
   rw[if_pos ho,fnL_none x L (fun g hg hgo=>hn.1 (List.mem_map.2 ⟨g,hg,by omega⟩)),List.append_nil]
  ·rw[List.find?_cons_of_neg (by simpa using ho)] at h
   rw[if_neg ho,List.nil_append]
   exact fnL_one x L f hn.2 h
theorem txt_leaf{x:XT}(h:opsT.find? (fun f=>decide ((f.2.1:Int)=x.op))=none)(lv:Nat):txt x lv=swS x++fnL x funT:=by
 cases x with
 |mk o nm u l=>
  have hop:(XT.mk o nm u l).op=o:=rfl
  rw[hop] at h
  rw[txt,h]
  have hsm:∀k:Int,o=k→(∀f∈funT,(f.2.1:Int)≠k)→fnL (.mk o nm u l) funT=[]:=fun k hk hf=>fnL_none _ _ (by rw[hop,hk];exact hf)
  unfold swS
  rw[hop]
  by_cases h1:o=1
  ·rw[hsm 1 h1 (by decide)];simp only[if_pos h1,List.append_nil];rfl
  by_cases h4:o=4
  ·rw[hsm 4 h4 (by decide)];simp only[if_neg h1,if_pos h4,List.append_nil];rfl
  by_cases h3:o=3
  ·rw[hsm 3 h3 (by decide)];simp only[if_neg h1,if_neg h4,if_pos h3,List.append_nil];rfl
  by_cases h5:o=5
  ·rw[hsm 5 h5 (by decide)];simp only[if_neg h1,if_neg h4,if_neg h3,if_pos h5,List.append_nil];rfl
  by_cases h6:o=6
  ·rw[hsm 6 h6 (by decide)];simp only[if_neg h1,if_neg h4,if_neg h3,if_neg h5,if_pos h6,List.append_nil];rfl
  by_cases h2:o=2
  ·rw[hsm 2 h2 (by decide)];simp only[if_neg h1,if_neg h4,if_neg h3,if_neg h5,if_neg h6,if_pos h2,List.append_nil];rfl
  simp only[if_neg h1,if_neg h4,if_neg h3,if_neg h5,if_neg h6,if_neg h2,List.nil_append]
  cases hf:funT.find? (fun f=>decide ((f.2.1:Int)=o)) with
  |none=>
   dsimp only
   exact(fnL_none _ _ (fun f hm he=>by have:=List.find?_eq_none.1 hf f hm;exact this (by rw[hop] at he;simpa using he))).symm
  |some f=>
   dsimp only
   exact(fnL_one (.mk o nm u l) funT f (by decide) hf).symm
end Go.Via
namespace Go.Proofs.YtfijbadahkmhbaaGreatDoor
open Go Go.RowKit Go.Via
theorem c_write_leaf{x:XT}(z:XR x)(m:Int)(H:∀y:XT,y.size<x.size→WriC m y)(hok:okX x)(hf:x.fit=true)(hM:x.size≤1000000000)(lv g:Nat)(a:Bool)(d:Bd)(hd:d.ok)(hop:opsT.find? (fun f=>decide ((f.2.1:Int)=x.op))=none)(hkind:¬sw6 x.op→funT.find? (fun f=>decide ((f.2.1:Int)=x.op))≠none)(hb:d.s.length+(swS x++fnL x funT).length≤17179869184):ECall Tryz.prog 96 [BB g a d,BF d,gB z.T false,GM m] [.pointer (some ⟨g,0,none⟩),z.v,.int .i64 (lv:Nat)] (BdX (d.s++(swS x++fnL x funT))) (fun _=> .tuple #[]) (fun d'=>[BB g true d'.1,BF d'.1]):=by
 refine⟨by kernel_rfl,fun B w hD hL0=>?_⟩;obtain⟨hfn,hfu,hfs⟩:=XT.fit_parts hf;have hnum:=nodeE_num (okX_parts hok).1;refine calls_atD (args:=[.pointer (some ⟨g,0,none⟩),z.v,.int .i64 (lv:Nat)]) Tryz.func96 rfl (Nat.le_of_ble_eq_true rfl) hL0 ?_;show At B ⟨136,[(0,.pointer (some ⟨g,0,none⟩)),(1,z.v),(2,.int .i64 (lv:Nat))],[BB g a d,BF d,gB z.T false,GM m]⟩ _;refine A2 ?_;refine Bo [_,_,_,_,_,_,_] 7 (fun g=>[_,_,_,_,⟨some g,30,_,7,true⟩]) (fun g0=>?_);refine A5 ?_;refine r_scall [] [] rfl rfl rfl c_syntax_operators trivial rfl (.inr fun _ b hb=>by rw[List.mem_singleton.1 hb]) (fun go=>?_);refine A5 ?_;refine El (ι:={i:Nat // i≤12}) (fun⟨i,hi⟩=>([(0,.pointer (some ⟨g,0,none⟩)),(2,.int .i64 (lv:Nat)),(4,.pointer (some ⟨g0,0,none⟩)),(12,slv (some go) 0 12 12),(13,.int .i64 12),(14,.int .i64 (i:Nat))],[BB g a d,BF d,gB z.T false,GM m,XB g0 z,⟨some go,110,tabC opsT,36,true⟩],12-i)) ⟨0,Nat.zero_le _⟩ ?_ (hL:=Weak.auto);rintro⟨i,hi⟩;(try dsimp only);refine A6 ?_;refine at_cond rfl (fun hb1=>?_) (fun hb1=>?_)
 ·
  have hlt:i<12:=(by have:=of_decide_eq_true hb1;omega)
  obtain⟨o,ho⟩:∃o,opsT[i]? =some o:=⟨opsT[i]'(by show i<12;exact hlt),List.getElem?_eq_getElem _⟩
  have hne:(o.2.1:Int)≠x.op:=by have:=List.find?_eq_none.1 hop o (List.mem_of_getElem? ho);simpa using this
  refine A6 ?_;refine Ix 5 (i*3) ?_;refine r_load (v:= .agg #[.string (strU o.1),.int .i64 (o.2.1:Nat),.int .i64 (o.2.2:Nat)]) 5 (i*3) _ rfl rfl rfl rfl ti110 (tabC_get ho) rfl (by decide) rfl ?_;refine r_alloc [_,_,_] 3 (fun g=>[_,_,_,_,_,_,⟨some g,110,_,3,true⟩]) rfl rfl z110 rfl rfl (fun _=>rfl) (fun g1=>?_);refine So 6 0 [_,_,_,_,_,_,⟨some g1,110,_,3,true⟩] [_,_,_] ?_;refine A9 ?_;refine r_know 21 (.int .i64 x.op) rfl (by rw[z.inv.1]) ?_;refine A3 ?_;refine at_cond rfl (fun hb2=>?_) (fun hb2=>?_)
  ·
   refine A5 ?_;refine Ar (((i+1:Nat):Int)) ?_;refine A3 ?_;exact Nl ⟨i+1,hlt⟩ (hL:=Weak.auto)
  ·exact absurd (by have hh:=hb2;simpa using hh) hne
 ·
  refine A10 ?_;refine r_know 73 (.int .i64 x.op) rfl (by rw[z.inv.1]) ?_;refine A9 ?_;refine at_cond rfl (fun hb2=>?_) (fun hb2=>?_)
  ·
   have h1:x.op=1:=by simpa using hb2
   have hsw:swS x=ratS x.num.rat:=by unfold swS;rw[if_pos h1]
   obtain⟨hq1,hq2⟩:=NumV.rat_ok z.inv.2.2.1 hfu (hnum.1 h1);refine at_regionM ?_;refine A2 ?_;refine r_load 4 2 [_,_,_,_] rfl rfl rfl rfl ti27 rfl rfl rfl rfl ?_;refine r_know 78 (Q x.num.rat) rfl hq1 ?_;refine Pc (c_rational_Print x.num.rat hq2) ?_;refine Gm 2 [0,1] [] (fun d1=>[BB g true d1.1,BF d1.1,_,_,_,_]) (c_b_WriteString g a d (ratS x.num.rat) hd (by have h:=hb;simp only[hsw,List.length_append,List.length_cons,List.length_nil] at h ⊢;omega)) (fun⟨d1,hd1,e1⟩=>?_);refine A5 ?_;refine r_scall [] [] rfl rfl rfl c_syntax_functions trivial rfl (.inr fun _ b hb=>by rw[List.mem_singleton.1 hb]) (fun gf=>?_);refine A5 ?_;refine El (ι:={r:Nat×Bool×Bd // r.1≤12∧r.2.2.ok∧r.2.2.s=d.s++(swS x++fnL x (funT.take r.1))∧(r.2.1=true∨((funT.take r.1).find? (fun f=>decide ((f.2.1:Int)=x.op))=none∧¬sw6 x.op))}) (fun⟨⟨i,a2,q⟩,hi,hq,hs,hA⟩=>([(0,.pointer (some ⟨g,0,none⟩)),(4,.pointer (some ⟨g0,0,none⟩)),(117,slv (some gf) 0 12 12),(118,.int .i64 12),(119,.int .i64 (i:Nat))],[BB g a2 q,BF q,gB z.T false,GM m,XB g0 z,⟨some gf,114,tabC funT,36,true⟩],12-i)) ⟨(0,true,d1),Nat.zero_le _,hd1,by rw[e1];rw[hsw];simp[fnL],.inl rfl⟩ ?_ (hL:=(weak_pk [some 0,some 1,some 2,some 3,some 4,some 6]));rintro⟨⟨i,a2,q⟩,hi,hq,hs,hA⟩;(try dsimp only);dsimp only at hi hq hs hA;refine A6 ?_;refine at_cond rfl (fun hb4=>?_) (fun hb4=>?_)
   ·
    have hlt:i<12:=(by have:=of_decide_eq_true hb4;omega)
    obtain⟨o,ho⟩:∃o,funT[i]? =some o:=⟨funT[i]'(by show i<12;exact hlt),List.getElem?_eq_getElem _⟩
    have hst:=fnL_step x ho;have hle:=fnL_le x funT (i+1);refine A6 ?_;refine Ix 5 (i*3) ?_;refine r_load (v:= .agg #[.string (strU o.1),.int .i64 (o.2.1:Nat),.int .i64 (o.2.2:Nat)]) 5 (i*3) _ rfl rfl rfl rfl ti114 (tabC_get ho) rfl (by decide) rfl ?_;refine r_alloc [_,_,_] 3 (fun g=>[_,_,_,_,_,_,⟨some g,114,_,3,true⟩]) rfl rfl z114 rfl rfl (fun _=>rfl) (fun g1=>?_);refine So 6 0 [_,_,_,_,_,_,⟨some g1,114,_,3,true⟩] [_,_,_] ?_;refine A8 ?_;refine r_know 126 (.int .i64 x.op) rfl (by rw[z.inv.1]) ?_;refine A3 ?_;refine at_cond rfl (fun hb5=>?_) (fun hb5=>?_)
    ·
     have hm:(o.2.1:Int)=x.op:=by simpa using hb5
     rw[if_pos hm] at hst;have hjs:=congrArg List.length hst;refine at_regionM ?_;refine A3 ?_;refine r_addS (p:=o.1) (q:=[40]) rfl rfl rfl rfl rfl rfl rfl (by have h:=hb;simp only[List.length_append,List.length_cons,List.length_nil] at h hjs ⊢;omega) ?_;refine A2 ?_;refine Gm 2 [0,1] [2,3] (fun(d1:BdX (q.s++((o.1++[40])++joinC (txtLs x.args)++[41])))=>[BB g true d1.1,BF d1.1,_,_,_,_,_]) (c_list_step z m H hok hf hM (o.1++[40]) [41] g a2 q hq (by have h:=hb;simp only[hs,List.length_append,List.length_cons,List.length_nil] at h hjs ⊢;omega)) (fun⟨d3,hd3,e3⟩=>?_);refine A4 ?_;refine Ar (((i+1:Nat):Int)) ?_;refine A3 ?_;exact Nl ⟨(i+1,true,d3),hlt,hd3,by rw[e3,hs,hst];simp only[List.append_assoc],.inl rfl⟩ (hL:=Weak.auto)
    ·
     have hm:(o.2.1:Int)≠x.op:=by simpa using hb5
     rw[if_neg hm] at hst;have hjs:=congrArg List.length hst;refine A4 ?_;refine Ar (((i+1:Nat):Int)) ?_;refine A3 ?_;exact Nl ⟨(i+1,a2,q),hlt,hq,by rw[hs,hst,List.append_nil],hA.imp id (fun h=>⟨find_none_step h.1 ho (by simpa using hm),h.2⟩)⟩ (hL:=Weak.auto)
   ·
    have hge:i=12:=(by have:=of_decide_eq_false hb4;omega)
    subst hge;refine A4 ?_
    refine at_end0nD rfl (fun w hL=>by
 have ha:a2=true:=by
  rcases hA with h|⟨h,hk⟩
  ·exact h
  ·exact absurd (find_none_all h (Nat.le_refl _)) (hkind hk)
 subst ha
 exact⟨⟨q,hq,hs⟩,rfl,hL.pk [some 0,some 1]⟩)
  ·
   have h1:x.op≠1:=by simpa using hb2
   refine A6 ?_;refine at_cond rfl (fun hb3=>?_) (fun hb3=>?_)
   ·
    have h4:x.op=4:=by simpa using hb3
    have hsw:swS x=x.name:=by unfold swS;rw[if_neg h1,if_pos h4]
    refine at_regionM ?_;refine A3 ?_;refine r_know 85 (.string (strU x.name)) rfl (by rw[z.inv.2.1]) ?_;refine Gm 2 [0,1] [] (fun d1=>[BB g true d1.1,BF d1.1,_,_,_,_]) (c_b_WriteString g a d x.name hd (by have h:=hb;simp only[hsw,List.length_append,List.length_cons,List.length_nil] at h ⊢;omega)) (fun⟨d1,hd1,e1⟩=>?_);refine A5 ?_;refine r_scall [] [] rfl rfl rfl c_syntax_functions trivial rfl (.inr fun _ b hb=>by rw[List.mem_singleton.1 hb]) (fun gf=>?_);refine A5 ?_;refine El (ι:={r:Nat×Bool×Bd // r.1≤12∧r.2.2.ok∧r.2.2.s=d.s++(swS x++fnL x (funT.take r.1))∧(r.2.1=true∨((funT.take r.1).find? (fun f=>decide ((f.2.1:Int)=x.op))=none∧¬sw6 x.op))}) (fun⟨⟨i,a2,q⟩,hi,hq,hs,hA⟩=>([(0,.pointer (some ⟨g,0,none⟩)),(4,.pointer (some ⟨g0,0,none⟩)),(117,slv (some gf) 0 12 12),(118,.int .i64 12),(119,.int .i64 (i:Nat))],[BB g a2 q,BF q,gB z.T false,GM m,XB g0 z,⟨some gf,114,tabC funT,36,true⟩],12-i)) ⟨(0,true,d1),Nat.zero_le _,hd1,by rw[e1];rw[hsw];simp[fnL],.inl rfl⟩ ?_ (hL:=(weak_pk [some 0,some 1,some 2,some 3,some 4,some 6]));rintro⟨⟨i,a2,q⟩,hi,hq,hs,hA⟩;(try dsimp only);dsimp only at hi hq hs hA;refine A6 ?_;refine at_cond rfl (fun hb5=>?_) (fun hb5=>?_)
    ·
     have hlt:i<12:=(by have:=of_decide_eq_true hb5;omega)
     obtain⟨o,ho⟩:∃o,funT[i]? =some o:=⟨funT[i]'(by show i<12;exact hlt),List.getElem?_eq_getElem _⟩
     have hst:=fnL_step x ho;have hle:=fnL_le x funT (i+1);refine A6 ?_;refine Ix 5 (i*3) ?_;refine r_load (v:= .agg #[.string (strU o.1),.int .i64 (o.2.1:Nat),.int .i64 (o.2.2:Nat)]) 5 (i*3) _ rfl rfl rfl rfl ti114 (tabC_get ho) rfl (by decide) rfl ?_;refine r_alloc [_,_,_] 3 (fun g=>[_,_,_,_,_,_,⟨some g,114,_,3,true⟩]) rfl rfl z114 rfl rfl (fun _=>rfl) (fun g1=>?_);refine So 6 0 [_,_,_,_,_,_,⟨some g1,114,_,3,true⟩] [_,_,_] ?_;refine A8 ?_;refine r_know 126 (.int .i64 x.op) rfl (by rw[z.inv.1]) ?_;refine A3 ?_;refine at_cond rfl (fun hb6=>?_) (fun hb6=>?_)
     ·
      have hm:(o.2.1:Int)=x.op:=by simpa using hb6
      rw[if_pos hm] at hst;have hjs:=congrArg List.length hst;refine at_regionM ?_;refine A3 ?_;refine r_addS (p:=o.1) (q:=[40]) rfl rfl rfl rfl rfl rfl rfl (by have h:=hb;simp only[List.length_append,List.length_cons,List.length_nil] at h hjs ⊢;omega) ?_;refine A2 ?_;refine Gm 2 [0,1] [2,3] (fun(d1:BdX (q.s++((o.1++[40])++joinC (txtLs x.args)++[41])))=>[BB g true d1.1,BF d1.1,_,_,_,_,_]) (c_list_step z m H hok hf hM (o.1++[40]) [41] g a2 q hq (by have h:=hb;simp only[hs,List.length_append,List.length_cons,List.length_nil] at h hjs ⊢;omega)) (fun⟨d3,hd3,e3⟩=>?_);refine A4 ?_;refine Ar (((i+1:Nat):Int)) ?_;refine A3 ?_;exact Nl ⟨(i+1,true,d3),hlt,hd3,by rw[e3,hs,hst];simp only[List.append_assoc],.inl rfl⟩ (hL:=Weak.auto)
     ·
      have hm:(o.2.1:Int)≠x.op:=by simpa using hb6
      rw[if_neg hm] at hst;have hjs:=congrArg List.length hst;refine A4 ?_;refine Ar (((i+1:Nat):Int)) ?_;refine A3 ?_;exact Nl ⟨(i+1,a2,q),hlt,hq,by rw[hs,hst,List.append_nil],hA.imp id (fun h=>⟨find_none_step h.1 ho (by simpa using hm),h.2⟩)⟩ (hL:=Weak.auto)
    ·
     have hge:i=12:=(by have:=of_decide_eq_false hb5;omega)
     subst hge;refine A4 ?_
     refine at_end0nD rfl (fun w hL=>by
 have ha:a2=true:=by
  rcases hA with h|⟨h,hk⟩
  ·exact h
  ·exact absurd (find_none_all h (Nat.le_refl _)) (hkind hk)
 subst ha
 exact⟨⟨q,hq,hs⟩,rfl,hL.pk [some 0,some 1]⟩)
   ·
    have h4:x.op≠4:=by simpa using hb3
    refine A6 ?_;refine at_cond rfl (fun hb4=>?_) (fun hb4=>?_)
    ·
     have h3:x.op=3:=by simpa using hb4
     have hsw:swS x=sObject++ratS x.num.rat++[41]:=by unfold swS;rw[if_neg h1,if_neg h4,if_pos h3]
     obtain⟨hq1,hq2⟩:=NumV.rat_ok z.inv.2.2.1 hfu (hnum.2 h3);refine at_regionM ?_;refine A2 ?_;refine r_load 4 2 [_,_,_,_] rfl rfl rfl rfl ti27 rfl rfl rfl rfl ?_;refine r_know 91 (Q x.num.rat) rfl hq1 ?_;refine Pc (c_rational_Print x.num.rat hq2) ?_;refine r_addS (p:=sObject) (q:=ratS x.num.rat) rfl rfl rfl rfl rfl rfl rfl (by have h:=hb;simp only[hsw,List.length_append,List.length_cons,List.length_nil] at h ⊢;omega) ?_;refine r_addS (p:=sObject++ratS x.num.rat) (q:=[41]) rfl rfl rfl rfl rfl rfl rfl (by have h:=hb;simp only[hsw,List.length_append,List.length_cons,List.length_nil] at h ⊢;omega) ?_;refine Gm 2 [0,1] [] (fun d1=>[BB g true d1.1,BF d1.1,_,_,_,_]) (c_b_WriteString g a d (sObject++ratS x.num.rat++[41]) hd (by have h:=hb;simp only[hsw,List.length_append,List.length_cons,List.length_nil] at h ⊢;omega)) (fun⟨d1,hd1,e1⟩=>?_);refine A5 ?_;refine r_scall [] [] rfl rfl rfl c_syntax_functions trivial rfl (.inr fun _ b hb=>by rw[List.mem_singleton.1 hb]) (fun gf=>?_);refine A5 ?_;refine El (ι:={r:Nat×Bool×Bd // r.1≤12∧r.2.2.ok∧r.2.2.s=d.s++(swS x++fnL x (funT.take r.1))∧(r.2.1=true∨((funT.take r.1).find? (fun f=>decide ((f.2.1:Int)=x.op))=none∧¬sw6 x.op))}) (fun⟨⟨i,a2,q⟩,hi,hq,hs,hA⟩=>([(0,.pointer (some ⟨g,0,none⟩)),(4,.pointer (some ⟨g0,0,none⟩)),(117,slv (some gf) 0 12 12),(118,.int .i64 12),(119,.int .i64 (i:Nat))],[BB g a2 q,BF q,gB z.T false,GM m,XB g0 z,⟨some gf,114,tabC funT,36,true⟩],12-i)) ⟨(0,true,d1),Nat.zero_le _,hd1,by rw[e1];rw[hsw];simp[fnL],.inl rfl⟩ ?_ (hL:=(weak_pk [some 0,some 1,some 2,some 3,some 4,some 6]));rintro⟨⟨i,a2,q⟩,hi,hq,hs,hA⟩;(try dsimp only);dsimp only at hi hq hs hA;refine A6 ?_;refine at_cond rfl (fun hb6=>?_) (fun hb6=>?_)
     ·
      have hlt:i<12:=(by have:=of_decide_eq_true hb6;omega)
      obtain⟨o,ho⟩:∃o,funT[i]? =some o:=⟨funT[i]'(by show i<12;exact hlt),List.getElem?_eq_getElem _⟩
      have hst:=fnL_step x ho;have hle:=fnL_le x funT (i+1);refine A6 ?_;refine Ix 5 (i*3) ?_;refine r_load (v:= .agg #[.string (strU o.1),.int .i64 (o.2.1:Nat),.int .i64 (o.2.2:Nat)]) 5 (i*3) _ rfl rfl rfl rfl ti114 (tabC_get ho) rfl (by decide) rfl ?_;refine r_alloc [_,_,_] 3 (fun g=>[_,_,_,_,_,_,⟨some g,114,_,3,true⟩]) rfl rfl z114 rfl rfl (fun _=>rfl) (fun g1=>?_);refine So 6 0 [_,_,_,_,_,_,⟨some g1,114,_,3,true⟩] [_,_,_] ?_;refine A8 ?_;refine r_know 126 (.int .i64 x.op) rfl (by rw[z.inv.1]) ?_;refine A3 ?_;refine at_cond rfl (fun hb7=>?_) (fun hb7=>?_)
      ·
       have hm:(o.2.1:Int)=x.op:=by simpa using hb7
       rw[if_pos hm] at hst;have hjs:=congrArg List.length hst;refine at_regionM ?_;refine A3 ?_;refine r_addS (p:=o.1) (q:=[40]) rfl rfl rfl rfl rfl rfl rfl (by have h:=hb;simp only[List.length_append,List.length_cons,List.length_nil] at h hjs ⊢;omega) ?_;refine A2 ?_;refine Gm 2 [0,1] [2,3] (fun(d1:BdX (q.s++((o.1++[40])++joinC (txtLs x.args)++[41])))=>[BB g true d1.1,BF d1.1,_,_,_,_,_]) (c_list_step z m H hok hf hM (o.1++[40]) [41] g a2 q hq (by have h:=hb;simp only[hs,List.length_append,List.length_cons,List.length_nil] at h hjs ⊢;omega)) (fun⟨d3,hd3,e3⟩=>?_);refine A4 ?_;refine Ar (((i+1:Nat):Int)) ?_;refine A3 ?_;exact Nl ⟨(i+1,true,d3),hlt,hd3,by rw[e3,hs,hst];simp only[List.append_assoc],.inl rfl⟩ (hL:=Weak.auto)
      ·
       have hm:(o.2.1:Int)≠x.op:=by simpa using hb7
       rw[if_neg hm] at hst;have hjs:=congrArg List.length hst;refine A4 ?_;refine Ar (((i+1:Nat):Int)) ?_;refine A3 ?_;exact Nl ⟨(i+1,a2,q),hlt,hq,by rw[hs,hst,List.append_nil],hA.imp id (fun h=>⟨find_none_step h.1 ho (by simpa using hm),h.2⟩)⟩ (hL:=Weak.auto)
     ·
      have hge:i=12:=(by have:=of_decide_eq_false hb6;omega)
      subst hge;refine A4 ?_
      refine at_end0nD rfl (fun w hL=>by
 have ha:a2=true:=by
  rcases hA with h|⟨h,hk⟩
  ·exact h
  ·exact absurd (find_none_all h (Nat.le_refl _)) (hkind hk)
 subst ha
 exact⟨⟨q,hq,hs⟩,rfl,hL.pk [some 0,some 1]⟩)
    ·
     have h3:x.op≠3:=by simpa using hb4
     refine A6 ?_;refine at_cond rfl (fun hb5=>?_) (fun hb5=>?_)
     ·
      have h5:x.op=5:=by simpa using hb5
      have hsw:swS x=sZone++quoS x.name++[34,41]:=by unfold swS;rw[if_neg h1,if_neg h4,if_neg h3,if_pos h5]
      refine at_regionM ?_;refine A3 ?_;refine r_know 100 (.string (strU x.name)) rfl (by rw[z.inv.2.1]) ?_;refine r_scall0 [.string (strU x.name),.string (strU [34]),.string (strU [34,34])] [3] rfl rfl rfl (c_ReplaceAll m x.name hfn) ⟨⟨_,rfl,Blk.le_refl _⟩,trivial⟩ rfl ?_;refine r_addS (p:=sZone) (q:=quoS x.name) rfl rfl rfl rfl rfl rfl rfl (by have h:=hb;simp only[hsw,List.length_append,List.length_cons,List.length_nil] at h ⊢;omega) ?_;refine r_addS (p:=sZone++quoS x.name) (q:=[34,41]) rfl rfl rfl rfl rfl rfl rfl (by have h:=hb;simp only[hsw,List.length_append,List.length_cons,List.length_nil] at h ⊢;omega) ?_;refine Gm 2 [0,1] [] (fun d1=>[BB g true d1.1,BF d1.1,_,_,_,_]) (c_b_WriteString g a d (sZone++quoS x.name++[34,41]) hd (by have h:=hb;simp only[hsw,List.length_append,List.length_cons,List.length_nil] at h ⊢;omega)) (fun⟨d1,hd1,e1⟩=>?_);refine A5 ?_;refine r_scall [] [] rfl rfl rfl c_syntax_functions trivial rfl (.inr fun _ b hb=>by rw[List.mem_singleton.1 hb]) (fun gf=>?_);refine A5 ?_;refine El (ι:={r:Nat×Bool×Bd // r.1≤12∧r.2.2.ok∧r.2.2.s=d.s++(swS x++fnL x (funT.take r.1))∧(r.2.1=true∨((funT.take r.1).find? (fun f=>decide ((f.2.1:Int)=x.op))=none∧¬sw6 x.op))}) (fun⟨⟨i,a2,q⟩,hi,hq,hs,hA⟩=>([(0,.pointer (some ⟨g,0,none⟩)),(4,.pointer (some ⟨g0,0,none⟩)),(117,slv (some gf) 0 12 12),(118,.int .i64 12),(119,.int .i64 (i:Nat))],[BB g a2 q,BF q,gB z.T false,GM m,XB g0 z,⟨some gf,114,tabC funT,36,true⟩],12-i)) ⟨(0,true,d1),Nat.zero_le _,hd1,by rw[e1];rw[hsw];simp[fnL],.inl rfl⟩ ?_ (hL:=(weak_pk [some 0,some 1,some 2,some 3,some 4,some 6]));rintro⟨⟨i,a2,q⟩,hi,hq,hs,hA⟩;(try dsimp only);dsimp only at hi hq hs hA;refine A6 ?_;refine at_cond rfl (fun hb7=>?_) (fun hb7=>?_)
      ·
       have hlt:i<12:=(by have:=of_decide_eq_true hb7;omega)
       obtain⟨o,ho⟩:∃o,funT[i]? =some o:=⟨funT[i]'(by show i<12;exact hlt),List.getElem?_eq_getElem _⟩
       have hst:=fnL_step x ho;have hle:=fnL_le x funT (i+1);refine A6 ?_;refine Ix 5 (i*3) ?_;refine r_load (v:= .agg #[.string (strU o.1),.int .i64 (o.2.1:Nat),.int .i64 (o.2.2:Nat)]) 5 (i*3) _ rfl rfl rfl rfl ti114 (tabC_get ho) rfl (by decide) rfl ?_;refine r_alloc [_,_,_] 3 (fun g=>[_,_,_,_,_,_,⟨some g,114,_,3,true⟩]) rfl rfl z114 rfl rfl (fun _=>rfl) (fun g1=>?_);refine So 6 0 [_,_,_,_,_,_,⟨some g1,114,_,3,true⟩] [_,_,_] ?_;refine A8 ?_;refine r_know 126 (.int .i64 x.op) rfl (by rw[z.inv.1]) ?_;refine A3 ?_;refine at_cond rfl (fun hb8=>?_) (fun hb8=>?_)
       ·
        have hm:(o.2.1:Int)=x.op:=by simpa using hb8
        rw[if_pos hm] at hst;have hjs:=congrArg List.length hst;refine at_regionM ?_;refine A3 ?_;refine r_addS (p:=o.1) (q:=[40]) rfl rfl rfl rfl rfl rfl rfl (by have h:=hb;simp only[List.length_append,List.length_cons,List.length_nil] at h hjs ⊢;omega) ?_;refine A2 ?_;refine Gm 2 [0,1] [2,3] (fun(d1:BdX (q.s++((o.1++[40])++joinC (txtLs x.args)++[41])))=>[BB g true d1.1,BF d1.1,_,_,_,_,_]) (c_list_step z m H hok hf hM (o.1++[40]) [41] g a2 q hq (by have h:=hb;simp only[hs,List.length_append,List.length_cons,List.length_nil] at h hjs ⊢;omega)) (fun⟨d3,hd3,e3⟩=>?_);refine A4 ?_;refine Ar (((i+1:Nat):Int)) ?_;refine A3 ?_;exact Nl ⟨(i+1,true,d3),hlt,hd3,by rw[e3,hs,hst];simp only[List.append_assoc],.inl rfl⟩ (hL:=Weak.auto)
       ·
        have hm:(o.2.1:Int)≠x.op:=by simpa using hb8
        rw[if_neg hm] at hst;have hjs:=congrArg List.length hst;refine A4 ?_;refine Ar (((i+1:Nat):Int)) ?_;refine A3 ?_;exact Nl ⟨(i+1,a2,q),hlt,hq,by rw[hs,hst,List.append_nil],hA.imp id (fun h=>⟨find_none_step h.1 ho (by simpa using hm),h.2⟩)⟩ (hL:=Weak.auto)
      ·
       have hge:i=12:=(by have:=of_decide_eq_false hb7;omega)
       subst hge;refine A4 ?_
       refine at_end0nD rfl (fun w hL=>by
 have ha:a2=true:=by
  rcases hA with h|⟨h,hk⟩
  ·exact h
  ·exact absurd (find_none_all h (Nat.le_refl _)) (hkind hk)
 subst ha
 exact⟨⟨q,hq,hs⟩,rfl,hL.pk [some 0,some 1]⟩)
     ·
      have h5:x.op≠5:=by simpa using hb5
      refine A6 ?_;refine at_cond rfl (fun hb6=>?_) (fun hb6=>?_)
      ·
       have h6:x.op=6:=by simpa using hb6
       have hsw:swS x=[91]++joinC (txtLs x.args)++[93]:=by unfold swS;rw[if_neg h1,if_neg h4,if_neg h3,if_neg h5,if_pos h6]
       refine at_regionM ?_;refine A3 ?_;refine Gm 2 [0,1] [2,3] (fun(d1:BdX (d.s++([91]++joinC (txtLs x.args)++[93])))=>[BB g true d1.1,BF d1.1,_,_,_,_]) (c_list_step z m H hok hf hM [91] [93] g a d hd (by have h:=hb;simp only[hsw,List.length_append,List.length_cons,List.length_nil] at h ⊢;omega)) (fun⟨d1,hd1,e1⟩=>?_);refine A5 ?_;refine r_scall [] [] rfl rfl rfl c_syntax_functions trivial rfl (.inr fun _ b hb=>by rw[List.mem_singleton.1 hb]) (fun gf=>?_);refine A5 ?_;refine El (ι:={r:Nat×Bool×Bd // r.1≤12∧r.2.2.ok∧r.2.2.s=d.s++(swS x++fnL x (funT.take r.1))∧(r.2.1=true∨((funT.take r.1).find? (fun f=>decide ((f.2.1:Int)=x.op))=none∧¬sw6 x.op))}) (fun⟨⟨i,a2,q⟩,hi,hq,hs,hA⟩=>([(0,.pointer (some ⟨g,0,none⟩)),(4,.pointer (some ⟨g0,0,none⟩)),(117,slv (some gf) 0 12 12),(118,.int .i64 12),(119,.int .i64 (i:Nat))],[BB g a2 q,BF q,gB z.T false,GM m,XB g0 z,⟨some gf,114,tabC funT,36,true⟩],12-i)) ⟨(0,true,d1),Nat.zero_le _,hd1,by rw[e1];rw[hsw];simp[fnL],.inl rfl⟩ ?_ (hL:=(weak_pk [some 0,some 1,some 2,some 3,some 4,some 6]));rintro⟨⟨i,a2,q⟩,hi,hq,hs,hA⟩;(try dsimp only);dsimp only at hi hq hs hA;refine A6 ?_;refine at_cond rfl (fun hb8=>?_) (fun hb8=>?_)
       ·
        have hlt:i<12:=(by have:=of_decide_eq_true hb8;omega)
        obtain⟨o,ho⟩:∃o,funT[i]? =some o:=⟨funT[i]'(by show i<12;exact hlt),List.getElem?_eq_getElem _⟩
        have hst:=fnL_step x ho;have hle:=fnL_le x funT (i+1);refine A6 ?_;refine Ix 5 (i*3) ?_;refine r_load (v:= .agg #[.string (strU o.1),.int .i64 (o.2.1:Nat),.int .i64 (o.2.2:Nat)]) 5 (i*3) _ rfl rfl rfl rfl ti114 (tabC_get ho) rfl (by decide) rfl ?_;refine r_alloc [_,_,_] 3 (fun g=>[_,_,_,_,_,_,⟨some g,114,_,3,true⟩]) rfl rfl z114 rfl rfl (fun _=>rfl) (fun g1=>?_);refine So 6 0 [_,_,_,_,_,_,⟨some g1,114,_,3,true⟩] [_,_,_] ?_;refine A8 ?_;refine r_know 126 (.int .i64 x.op) rfl (by rw[z.inv.1]) ?_;refine A3 ?_;refine at_cond rfl (fun hb9=>?_) (fun hb9=>?_)
        ·
         have hm:(o.2.1:Int)=x.op:=by simpa using hb9
         rw[if_pos hm] at hst;have hjs:=congrArg List.length hst;refine at_regionM ?_;refine A3 ?_;refine r_addS (p:=o.1) (q:=[40]) rfl rfl rfl rfl rfl rfl rfl (by have h:=hb;simp only[List.length_append,List.length_cons,List.length_nil] at h hjs ⊢;omega) ?_;refine A2 ?_;refine Gm 2 [0,1] [2,3] (fun(d1:BdX (q.s++((o.1++[40])++joinC (txtLs x.args)++[41])))=>[BB g true d1.1,BF d1.1,_,_,_,_,_]) (c_list_step z m H hok hf hM (o.1++[40]) [41] g a2 q hq (by have h:=hb;simp only[hs,List.length_append,List.length_cons,List.length_nil] at h hjs ⊢;omega)) (fun⟨d3,hd3,e3⟩=>?_);refine A4 ?_;refine Ar (((i+1:Nat):Int)) ?_;refine A3 ?_;exact Nl ⟨(i+1,true,d3),hlt,hd3,by rw[e3,hs,hst];simp only[List.append_assoc],.inl rfl⟩ (hL:=Weak.auto)
        ·
         have hm:(o.2.1:Int)≠x.op:=by simpa using hb9
         rw[if_neg hm] at hst;have hjs:=congrArg List.length hst;refine A4 ?_;refine Ar (((i+1:Nat):Int)) ?_;refine A3 ?_;exact Nl ⟨(i+1,a2,q),hlt,hq,by rw[hs,hst,List.append_nil],hA.imp id (fun h=>⟨find_none_step h.1 ho (by simpa using hm),h.2⟩)⟩ (hL:=Weak.auto)
       ·
        have hge:i=12:=(by have:=of_decide_eq_false hb8;omega)
        subst hge;refine A4 ?_
        refine at_end0nD rfl (fun w hL=>by
 have ha:a2=true:=by
  rcases hA with h|⟨h,hk⟩
  ·exact h
  ·exact absurd (find_none_all h (Nat.le_refl _)) (hkind hk)
 subst ha
 exact⟨⟨q,hq,hs⟩,rfl,hL.pk [some 0,some 1]⟩)
      ·
       have h6:x.op≠6:=by simpa using hb6
       refine A6 ?_;refine at_cond rfl (fun hb7=>?_) (fun hb7=>?_)
       ·
        have h2:x.op=2:=by simpa using hb7
        have hsw:swS x=sPoint++joinC (txtLs x.args)++[41]:=by unfold swS;rw[if_neg h1,if_neg h4,if_neg h3,if_neg h5,if_neg h6,if_pos h2]
        refine at_regionM ?_;refine A3 ?_;refine Gm 2 [0,1] [2,3] (fun(d1:BdX (d.s++(sPoint++joinC (txtLs x.args)++[41])))=>[BB g true d1.1,BF d1.1,_,_,_,_]) (c_list_step z m H hok hf hM sPoint [41] g a d hd (by have h:=hb;simp only[hsw,List.length_append,List.length_cons,List.length_nil] at h ⊢;omega)) (fun⟨d1,hd1,e1⟩=>?_);refine A5 ?_;refine r_scall [] [] rfl rfl rfl c_syntax_functions trivial rfl (.inr fun _ b hb=>by rw[List.mem_singleton.1 hb]) (fun gf=>?_);refine A5 ?_;refine El (ι:={r:Nat×Bool×Bd // r.1≤12∧r.2.2.ok∧r.2.2.s=d.s++(swS x++fnL x (funT.take r.1))∧(r.2.1=true∨((funT.take r.1).find? (fun f=>decide ((f.2.1:Int)=x.op))=none∧¬sw6 x.op))}) (fun⟨⟨i,a2,q⟩,hi,hq,hs,hA⟩=>([(0,.pointer (some ⟨g,0,none⟩)),(4,.pointer (some ⟨g0,0,none⟩)),(117,slv (some gf) 0 12 12),(118,.int .i64 12),(119,.int .i64 (i:Nat))],[BB g a2 q,BF q,gB z.T false,GM m,XB g0 z,⟨some gf,114,tabC funT,36,true⟩],12-i)) ⟨(0,true,d1),Nat.zero_le _,hd1,by rw[e1];rw[hsw];simp[fnL],.inl rfl⟩ ?_ (hL:=(weak_pk [some 0,some 1,some 2,some 3,some 4,some 6]));rintro⟨⟨i,a2,q⟩,hi,hq,hs,hA⟩;(try dsimp only);dsimp only at hi hq hs hA;refine A6 ?_;refine at_cond rfl (fun hb9=>?_) (fun hb9=>?_)
        ·
         have hlt:i<12:=(by have:=of_decide_eq_true hb9;omega)
         obtain⟨o,ho⟩:∃o,funT[i]? =some o:=⟨funT[i]'(by show i<12;exact hlt),List.getElem?_eq_getElem _⟩
         have hst:=fnL_step x ho;have hle:=fnL_le x funT (i+1);refine A6 ?_;refine Ix 5 (i*3) ?_;refine r_load (v:= .agg #[.string (strU o.1),.int .i64 (o.2.1:Nat),.int .i64 (o.2.2:Nat)]) 5 (i*3) _ rfl rfl rfl rfl ti114 (tabC_get ho) rfl (by decide) rfl ?_;refine r_alloc [_,_,_] 3 (fun g=>[_,_,_,_,_,_,⟨some g,114,_,3,true⟩]) rfl rfl z114 rfl rfl (fun _=>rfl) (fun g1=>?_);refine So 6 0 [_,_,_,_,_,_,⟨some g1,114,_,3,true⟩] [_,_,_] ?_;refine A8 ?_;refine r_know 126 (.int .i64 x.op) rfl (by rw[z.inv.1]) ?_;refine A3 ?_;refine at_cond rfl (fun hb10=>?_) (fun hb10=>?_)
         ·
          have hm:(o.2.1:Int)=x.op:=by simpa using hb10
          rw[if_pos hm] at hst;have hjs:=congrArg List.length hst;refine at_regionM ?_;refine A3 ?_;refine r_addS (p:=o.1) (q:=[40]) rfl rfl rfl rfl rfl rfl rfl (by have h:=hb;simp only[List.length_append,List.length_cons,List.length_nil] at h hjs ⊢;omega) ?_;refine A2 ?_;refine Gm 2 [0,1] [2,3] (fun(d1:BdX (q.s++((o.1++[40])++joinC (txtLs x.args)++[41])))=>[BB g true d1.1,BF d1.1,_,_,_,_,_]) (c_list_step z m H hok hf hM (o.1++[40]) [41] g a2 q hq (by have h:=hb;simp only[hs,List.length_append,List.length_cons,List.length_nil] at h hjs ⊢;omega)) (fun⟨d3,hd3,e3⟩=>?_);refine A4 ?_;refine Ar (((i+1:Nat):Int)) ?_;refine A3 ?_;exact Nl ⟨(i+1,true,d3),hlt,hd3,by rw[e3,hs,hst];simp only[List.append_assoc],.inl rfl⟩ (hL:=Weak.auto)
         ·
          have hm:(o.2.1:Int)≠x.op:=by simpa using hb10
          rw[if_neg hm] at hst;have hjs:=congrArg List.length hst;refine A4 ?_;refine Ar (((i+1:Nat):Int)) ?_;refine A3 ?_;exact Nl ⟨(i+1,a2,q),hlt,hq,by rw[hs,hst,List.append_nil],hA.imp id (fun h=>⟨find_none_step h.1 ho (by simpa using hm),h.2⟩)⟩ (hL:=Weak.auto)
        ·
         have hge:i=12:=(by have:=of_decide_eq_false hb9;omega)
         subst hge;refine A4 ?_
         refine at_end0nD rfl (fun w hL=>by
 have ha:a2=true:=by
  rcases hA with h|⟨h,hk⟩
  ·exact h
  ·exact absurd (find_none_all h (Nat.le_refl _)) (hkind hk)
 subst ha
 exact⟨⟨q,hq,hs⟩,rfl,hL.pk [some 0,some 1]⟩)
       ·
        have h2:x.op≠2:=by simpa using hb7
        have hsw:swS x=[]:=by unfold swS;rw[if_neg h1,if_neg h4,if_neg h3,if_neg h5,if_neg h6,if_neg h2]
        have hk6:¬sw6 x.op:=fun h=>by unfold sw6 at h;omega
        refine A5 ?_;refine r_scall [] [] rfl rfl rfl c_syntax_functions trivial rfl (.inr fun _ b hb=>by rw[List.mem_singleton.1 hb]) (fun gf=>?_);refine A5 ?_;refine El (ι:={r:Nat×Bool×Bd // r.1≤12∧r.2.2.ok∧r.2.2.s=d.s++(swS x++fnL x (funT.take r.1))∧(r.2.1=true∨((funT.take r.1).find? (fun f=>decide ((f.2.1:Int)=x.op))=none∧¬sw6 x.op))}) (fun⟨⟨i,a2,q⟩,hi,hq,hs,hA⟩=>([(0,.pointer (some ⟨g,0,none⟩)),(4,.pointer (some ⟨g0,0,none⟩)),(117,slv (some gf) 0 12 12),(118,.int .i64 12),(119,.int .i64 (i:Nat))],[BB g a2 q,BF q,gB z.T false,GM m,XB g0 z,⟨some gf,114,tabC funT,36,true⟩],12-i)) ⟨(0,a,d),Nat.zero_le _,hd,by show d.s=_;rw[hsw];simp[fnL],.inr ⟨rfl,hk6⟩⟩ ?_ (hL:=(weak_pk [some 0,some 1,some 2,some 3,some 4,some 6]));rintro⟨⟨i,a2,q⟩,hi,hq,hs,hA⟩;(try dsimp only);dsimp only at hi hq hs hA;refine A6 ?_;refine at_cond rfl (fun hb9=>?_) (fun hb9=>?_)
        ·
         have hlt:i<12:=(by have:=of_decide_eq_true hb9;omega)
         obtain⟨o,ho⟩:∃o,funT[i]? =some o:=⟨funT[i]'(by show i<12;exact hlt),List.getElem?_eq_getElem _⟩
         have hst:=fnL_step x ho;have hle:=fnL_le x funT (i+1);refine A6 ?_;refine Ix 5 (i*3) ?_;refine r_load (v:= .agg #[.string (strU o.1),.int .i64 (o.2.1:Nat),.int .i64 (o.2.2:Nat)]) 5 (i*3) _ rfl rfl rfl rfl ti114 (tabC_get ho) rfl (by decide) rfl ?_;refine r_alloc [_,_,_] 3 (fun g=>[_,_,_,_,_,_,⟨some g,114,_,3,true⟩]) rfl rfl z114 rfl rfl (fun _=>rfl) (fun g1=>?_);refine So 6 0 [_,_,_,_,_,_,⟨some g1,114,_,3,true⟩] [_,_,_] ?_;refine A8 ?_;refine r_know 126 (.int .i64 x.op) rfl (by rw[z.inv.1]) ?_;refine A3 ?_;refine at_cond rfl (fun hb10=>?_) (fun hb10=>?_)
         ·
          have hm:(o.2.1:Int)=x.op:=by simpa using hb10
          rw[if_pos hm] at hst;have hjs:=congrArg List.length hst;refine at_regionM ?_;refine A3 ?_;refine r_addS (p:=o.1) (q:=[40]) rfl rfl rfl rfl rfl rfl rfl (by have h:=hb;simp only[List.length_append,List.length_cons,List.length_nil] at h hjs ⊢;omega) ?_;refine A2 ?_;refine Gm 2 [0,1] [2,3] (fun(d1:BdX (q.s++((o.1++[40])++joinC (txtLs x.args)++[41])))=>[BB g true d1.1,BF d1.1,_,_,_,_,_]) (c_list_step z m H hok hf hM (o.1++[40]) [41] g a2 q hq (by have h:=hb;simp only[hs,List.length_append,List.length_cons,List.length_nil] at h hjs ⊢;omega)) (fun⟨d3,hd3,e3⟩=>?_);refine A4 ?_;refine Ar (((i+1:Nat):Int)) ?_;refine A3 ?_;exact Nl ⟨(i+1,true,d3),hlt,hd3,by rw[e3,hs,hst];simp only[List.append_assoc],.inl rfl⟩ (hL:=Weak.auto)
         ·
          have hm:(o.2.1:Int)≠x.op:=by simpa using hb10
          rw[if_neg hm] at hst;have hjs:=congrArg List.length hst;refine A4 ?_;refine Ar (((i+1:Nat):Int)) ?_;refine A3 ?_;exact Nl ⟨(i+1,a2,q),hlt,hq,by rw[hs,hst,List.append_nil],hA.imp id (fun h=>⟨find_none_step h.1 ho (by simpa using hm),h.2⟩)⟩ (hL:=Weak.auto)
        ·
         have hge:i=12:=(by have:=of_decide_eq_false hb9;omega)
         subst hge;refine A4 ?_
         refine at_end0nD rfl (fun w hL=>by
 have ha:a2=true:=by
  rcases hA with h|⟨h,hk⟩
  ·exact h
  ·exact absurd (find_none_all h (Nat.le_refl _)) (hkind hk)
 subst ha
 exact⟨⟨q,hq,hs⟩,rfl,hL.pk [some 0,some 1]⟩)
theorem c_b_WriteByteD(g:Nat)(a:Bool)(d:Bd)(c:UInt8)(hd:d.ok)(hm:d.s.length+1≤17179869184):ECallD Tryz.prog 124 [BB g a d,BF d] [.pointer (some ⟨g,0,none⟩),.int .u8 (c.toNat:Nat)] (BdX (d.s++[c])) (fun _=> .nilIface) (fun x=>[BB g true x.1,BF x.1]):=by
 refine⟨by kernel_rfl,fun B w hD hL0=>?_⟩;obtain⟨hd1,hd2,hd3⟩:=hd;refine callsD_atB (args:=[.pointer (some ⟨g,0,none⟩),.int .u8 (c.toNat:Nat)]) Tryz.func124 rfl (Nat.le_of_ble_eq_true rfl) hL0 ?_;show At B ⟨17,[(0,.pointer (some ⟨g,0,none⟩)),(1,.int .u8 (c.toNat:Nat))],[BB g a d,BF d]⟩ _;refine A6 ?_;refine at_regionM ?_;refine A1 ?_;refine Gm 1 [0] [] (fun _=>[BB g true d,BF d]) (c_b_copyCheck g a d) (fun _=>?_);refine A10 ?_;refine r_buildSlice [(0,_)] (fun g=>[_,_,⟨some g,5,_,1,true⟩]) rfl rfl rfl (bs125_1) rfl (fun _=>rfl) (fun g0=>?_);refine q_append (b2o:=g0) (b:=BF d) (len:=d.s.length) (n2:=1) 1 2 (fun r=>[BB g true d,⟨some r.g,5,NB d.s++[.int .u8 (c.toNat:Nat)],r.n,true⟩,_]) u125 el5 rfl rfl rfl rfl rfl rfl rfl rfl rfl rfl rfl rfl (by rw[NB_length,Nat.mul_one]) hd1 (by rw[Nat.mul_one];exact hd2) rfl (fun v hv=>by rw[List.mem_singleton.1 hv];rfl) hm (fun r=>rfl) (fun r=>?_);refine A2 ?_;refine So 0 1 [⟨some g,127,_,2,true⟩,_,_] [_,_] ?_;refine A8 ?_;refine at_end1 rfl (res_tmp rfl) (fun w hL=>wb_fin r _ hL)
end Go.Proofs.YtfijbadahkmhbaaGreatDoor
namespace Go.Via
open Go Go.RowKit
noncomputable def inS(x:XT)(o:Bs8×Nat×Nat):Bs8:=
 if o.2.2=3 then sNot++txtAt x.args 0 3 else txtAt x.args 0 (if o.2.2=4 then 5 else o.2.2)++([32]++o.1++[32])++txtAt x.args 1 (o.2.2+1)
theorem txt_op{x:XT}{o:Bs8×Nat×Nat}(h:opsT.find? (fun f=>decide ((f.2.1:Int)=x.op))=some o)(lv:Nat):txt x lv=if o.2.2<lv then[40]++inS x o++[41] else inS x o:=by
 cases x with
 |mk op nm u l=>
  have hop:(XT.mk op nm u l).op=op:=rfl
  rw[hop] at h
  rw[txt,h]
  rfl
theorem op_args{x:XT}{o:Bs8×Nat×Nat}(hn:nodeE x=0)(h:opsT.find? (fun f=>decide ((f.2.1:Int)=x.op))=some o):(o.2.2=3→x.args.length=1)∧(o.2.2≠3→x.args.length=2):=by
 have hm:=List.mem_of_find?_eq_some h
 have hp:=List.find?_some h
 have he:(o.2.1:Int)=x.op:=by simpa using hp
 have hc:∀o∈opsT,cntL (o.2.1:Nat)=if o.2.2=3 then 1 else 2:=by decide
 have h1:=hc o hm
 rw[he] at h1
 unfold nodeE at hn
 split at hn
 ·cases hn
 split at hn
 ·cases hn
 rename_i h2
 have h3:((x.args.length:Nat):Int)=cntL x.op:=by
  by_cases e:((x.args.length:Nat):Int)=cntL x.op
  ·exact e
  ·exact absurd (.inl e) h2
 rw[h1] at h3
 refine⟨fun e=>?_,fun e=>?_⟩
 ·rw[if_pos e] at h3;omega
 ·rw[if_neg e] at h3;omega
theorem ops_small{o:Bs8×Nat×Nat}(h:o∈opsT):o.2.2≤7∧o.1.length≤6:=by
 have:∀o∈opsT,o.2.2≤7∧o.1.length≤6:=by decide
 exact this o h
theorem kind_ok{x:XT}(hn:nodeE x=0)(h:opsT.find? (fun f=>decide ((f.2.1:Int)=x.op))=none):¬sw6 x.op→funT.find? (fun f=>decide ((f.2.1:Int)=x.op))≠none:=by
 intro h6 hf
 unfold nodeE at hn
 split at hn
 ·cases hn
 rename_i h1
 have ho:∀f∈opsT,(f.2.1:Int)≠x.op:=fun f hm=>by have:=List.find?_eq_none.1 h f hm;simpa using this
 have e25:x.op≠25:=fun e=>ho ([110,111,116],25,3) (by decide) (by rw[e];rfl)
 refine h1 ?_
 unfold sw6 at h6
 unfold cntL
 rw[if_neg (by omega),if_neg e25,if_neg (by omega),hf]
 dsimp only
 rw[h]
 decide
end Go.Via
namespace Go.Proofs.YtfijbadahkmhbaaGreatDoor
open Go Go.RowKit Go.Via
theorem c_write_op{x:XT}(z:XR x)(m:Int)(H:∀y:XT,y.size<x.size→WriC m y)(hok:okX x)(hf:x.fit=true)(hM:x.size≤1000000000)(lv g:Nat)(hlv9:lv≤9)(a:Bool)(d:Bd)(hd:d.ok)(hop:opsT.find? (fun f=>decide ((f.2.1:Int)=x.op))≠none)(hb:d.s.length+(txt x lv).length≤17179869184):ECall Tryz.prog 96 [BB g a d,BF d,gB z.T false,GM m] [.pointer (some ⟨g,0,none⟩),z.v,.int .i64 (lv:Nat)] (BdX (d.s++txt x lv)) (fun _=> .tuple #[]) (fun d'=>[BB g true d'.1,BF d'.1]):=by
 refine⟨by kernel_rfl,fun B w hD hL0=>?_⟩;obtain⟨hfn,hfu,hfs⟩:=XT.fit_parts hf;have hks:=(okX_parts hok).2;have sNot_len:sNot.length=4:=rfl;obtain⟨hz1,hz2,hz3,hz4,hz5,hz6⟩:=z.inv;refine calls_atD (args:=[.pointer (some ⟨g,0,none⟩),z.v,.int .i64 (lv:Nat)]) Tryz.func96 rfl (Nat.le_of_ble_eq_true rfl) hL0 ?_;show At B ⟨136,[(0,.pointer (some ⟨g,0,none⟩)),(1,z.v),(2,.int .i64 (lv:Nat))],[BB g a d,BF d,gB z.T false,GM m]⟩ _;refine A2 ?_;refine Bo [_,_,_,_,_,_,_] 7 (fun g=>[_,_,_,_,⟨some g,30,_,7,true⟩]) (fun g0=>?_);refine A5 ?_;refine r_scall [] [] rfl rfl rfl c_syntax_operators trivial rfl (.inr fun _ b hb=>by rw[List.mem_singleton.1 hb]) (fun go=>?_);refine A5 ?_;refine El (ι:={i:Nat // i≤12∧(opsT.take i).find? (fun f=>decide ((f.2.1:Int)=x.op))=none}) (fun⟨i,hi,hI⟩=>([(0,.pointer (some ⟨g,0,none⟩)),(2,.int .i64 (lv:Nat)),(4,.pointer (some ⟨g0,0,none⟩)),(12,slv (some go) 0 12 12),(13,.int .i64 12),(14,.int .i64 (i:Nat))],[BB g a d,BF d,gB z.T false,GM m,XB g0 z,⟨some go,110,tabC opsT,36,true⟩],12-i)) ⟨0,Nat.zero_le _,rfl⟩ ?_ (hL:=Weak.auto);rintro⟨i,hi,hI⟩;(try dsimp only);refine A6 ?_;refine at_cond rfl (fun hb1=>?_) (fun hb1=>?_)
 ·
  have hlt:i<12:=(by have:=of_decide_eq_true hb1;omega)
  obtain⟨o,ho⟩:∃o,opsT[i]? =some o:=⟨opsT[i]'(by show i<12;exact hlt),List.getElem?_eq_getElem _⟩
  refine A6 ?_;refine Ix 5 (i*3) ?_;refine r_load (v:= .agg #[.string (strU o.1),.int .i64 (o.2.1:Nat),.int .i64 (o.2.2:Nat)]) 5 (i*3) _ rfl rfl rfl rfl ti110 (tabC_get ho) rfl (by decide) rfl ?_;refine r_alloc [_,_,_] 3 (fun g=>[_,_,_,_,_,_,⟨some g,110,_,3,true⟩]) rfl rfl z110 rfl rfl (fun _=>rfl) (fun g1=>?_);refine So 6 0 [_,_,_,_,_,_,⟨some g1,110,_,3,true⟩] [_,_,_] ?_;refine A9 ?_;refine r_know 21 (.int .i64 x.op) rfl (by rw[z.inv.1]) ?_;refine A3 ?_;refine at_cond rfl (fun hb2=>?_) (fun hb2=>?_)
  ·
   have hne:(o.2.1:Int)≠x.op:=by simpa using hb2
   refine A5 ?_;refine Ar (((i+1:Nat):Int)) ?_;refine A3 ?_;exact Nl ⟨i+1,hlt,find_none_step hI ho (by simpa using hne)⟩ (hL:=Weak.auto)
  ·
   have hm:(o.2.1:Int)=x.op:=by simpa using hb2
   have hfo:opsT.find? (fun f=>decide ((f.2.1:Int)=x.op))=some o:=find_some_at hI ho (by simpa using hm);obtain⟨hn1,hn2⟩:=op_args (okX_parts hok).1 hfo;obtain⟨hl7,htk⟩:=ops_small (List.mem_of_getElem? ho);refine A11 ?_;refine at_cond rfl (fun hb3=>?_) (fun hb3=>?_)
   ·
    have hlv:o.2.2<lv:=by have:=of_decide_eq_true hb3;omega
    have htx:txt x lv=[40]++inS x o++[41]:=by rw[txt_op hfo,if_pos hlv]
    refine A1 ?_;refine at_regionM ?_;refine A1 ?_;refine Gm 2 [0,1] [] (fun(d9:BdX (d.s++[40]))=>[BB g true d9.1,BF d9.1,_,_,_,_,_]) (c_b_WriteByte g a d 40 hd (by have h:=hb;simp only[htx,List.length_append,List.length_cons,List.length_nil] at h ⊢;omega)) (fun⟨d0,hd0,e0⟩=>?_);refine A2 ?_;refine at_regionDef [.pointer (some ⟨g,0,none⟩),.int .u8 ((41:UInt8).toNat:Nat)] (l:=[⟨_,_,_,_,_,_⟩]) rfl ?_;refine A1 ?_;refine run_nil ⟨rfl,?_⟩;refine A2 ?_;refine at_drawnI [2000000] mixed (by kernel_rfl) (by kernel_rfl) ?_;refine A4 ?_;refine Ar (((o.2.2+1:Nat):Int)) ?_;refine A18 ?_;refine at_cond rfl (fun hb4=>?_) (fun hb4=>?_)
    ·
     have h3:o.2.2=3:=by have hh:=hb4;simp only[beq_iff_eq,beq_eq_false_iff_ne,ne_eq] at hh ⊢;omega
     have hna1:=hn1 h3
     obtain⟨y,hy⟩:∃y,x.args[0]? =some y:=⟨x.args[0]'(by omega),List.getElem?_eq_getElem _⟩
     obtain⟨ga,oa,ca,u,hza,hma,hra,hTa,hna⟩:=z.arg hy
     have hin:inS x o=sNot++txt y 3:=by unfold inS;rw[if_pos h3,txtAt_get _ hy]
     refine A1 ?_;refine at_regionM ?_;refine A1 ?_;refine Gm 2 [0,1] [] (fun d1=>[BB g true d1.1,BF d1.1,_,_,_,_,_]) (c_b_WriteString g true d0 sNot hd0 (by have h:=hb;simp only[htx,hin,e0,List.length_append,List.length_cons,List.length_nil,sNot_len] at h ⊢;omega)) (fun⟨d1,hd1,e1⟩=>?_);refine A3 ?_;refine at_regionM ?_;refine A3 ?_;refine r_indexAddrG (gg:=ga) (len:=z.n) (cap:=z.cap) (oa+0*7) u28 ti30 rfl rfl (congrArg (fun a=>some (Value.slice a z.n z.cap)) hza) rfl (by omega) (by omega) (by show oa+Int.toNat 0*7=_;rfl) ?_;refine r_loadT (v:=u.v) 2 (oa+0*7) u.cs rfl rfl rfl z.hT hma hna rfl ti30 hra rfl rfl rfl ?_;refine Gm 2 [0,1] [2,3] (fun(d9:BdX (d1.s++txt y (3)))=>[BB g true d9.1,BF d9.1,_,_,_,_,_]) (by have h:=H y (XT.arg_lt hy) u (3) g true d1 hd1 (okXs_get hks hy) (XT.fits_get hfs hy) (Nat.le_trans (Nat.le_of_lt (XT.arg_lt hy)) hM) (by omega) (by have h:=hb;simp only[htx,hin,e0,e1,List.length_append,List.length_cons,List.length_nil,sNot_len] at h ⊢;omega);rw[hTa] at h;exact h) (fun⟨d2,hd2,e2⟩=>?_);refine A10 ?_;refine at_leave1 (vs:=[.pointer (some ⟨g,0,none⟩),.int .u8 ((41:UInt8).toNat:Nat)]) rfl (by kernel_rfl) (fun w hL=>((c_b_WriteByteD g true d2 41 hd2 (by have h:=hb;simp only[htx,hin,e0,e2,e1,List.length_append,List.length_cons,List.length_nil,sNot_len] at h ⊢;omega)).at (A:=[BB g true d2,BF d2]) (C:=[]) [0,1] [] (by decide) rfl rfl trivial rfl rfl (fun _=>rfl) (fun _=>allOwn rfl) (hL.putD B.D)).mono (fun e u' w' ⟨hu,x1,he,hx⟩=>⟨hu,_,he,⟨⟨x1.1,x1.2.1,by rw[x1.2.2];rw[e2,e1,e0,htx,hin];simp only[List.append_assoc]⟩,rfl,hx.pk [some 0,some 1]⟩⟩)) (by show _::B.D=_;rw[hD])
    ·
     have h3:o.2.2≠3:=by have hh:=hb4;simp only[beq_iff_eq,beq_eq_false_iff_ne,ne_eq] at hh ⊢;omega
     have hna1:=hn2 h3
     obtain⟨y,hy⟩:∃y,x.args[0]? =some y:=⟨x.args[0]'(by omega),List.getElem?_eq_getElem _⟩
     obtain⟨ga,oa,ca,u,hza,hma,hra,hTa,hna⟩:=z.arg hy
     obtain⟨y2,hy2⟩:∃y,x.args[1]? =some y:=⟨x.args[1]'(by omega),List.getElem?_eq_getElem _⟩
     obtain⟨ga2,oa2,ca2,u2,hza2,hma2,hra2,hTa2,hna2⟩:=z.arg hy2;refine A6 ?_;refine at_cond rfl (fun hb5=>?_) (fun hb5=>?_)
     ·
      have h4:o.2.2=4:=by have hh:=hb5;simp only[beq_iff_eq,beq_eq_false_iff_ne,ne_eq] at hh ⊢;omega
      have h45:(if o.2.2=4 then 5 else o.2.2)=o.2.2+1:=by rw[if_pos h4];omega
      have hin:inS x o=txt y (o.2.2+1)++([32]++o.1++[32])++txt y2 (o.2.2+1):=by unfold inS;rw[if_neg h3,h45,txtAt_get _ hy,txtAt_get _ hy2]
      refine A2 ?_;refine Ar (((o.2.2+1:Nat):Int)) ?_;refine A5 ?_;refine at_regionM ?_;refine A3 ?_;refine r_indexAddrG (gg:=ga) (len:=z.n) (cap:=z.cap) (oa+0*7) u28 ti30 rfl rfl (congrArg (fun a=>some (Value.slice a z.n z.cap)) hza) rfl (by omega) (by omega) (by show oa+Int.toNat 0*7=_;rfl) ?_;refine r_loadT (v:=u.v) 2 (oa+0*7) u.cs rfl rfl rfl z.hT hma hna rfl ti30 hra rfl rfl rfl ?_;refine A1 ?_;refine Gm 2 [0,1] [2,3] (fun(d9:BdX (d0.s++txt y (o.2.2+1)))=>[BB g true d9.1,BF d9.1,_,_,_,_,_]) (by have h:=H y (XT.arg_lt hy) u (o.2.2+1) g true d0 hd0 (okXs_get hks hy) (XT.fits_get hfs hy) (Nat.le_trans (Nat.le_of_lt (XT.arg_lt hy)) hM) (by omega) (by have h:=hb;simp only[htx,hin,e0,List.length_append,List.length_cons,List.length_nil,sNot_len] at h ⊢;omega);rw[hTa] at h;exact h) (fun⟨d1,hd1,e1⟩=>?_);refine A3 ?_;refine at_regionM ?_;refine A3 ?_;refine r_addS (p:=[32]) (q:=o.1) rfl rfl rfl rfl rfl rfl rfl (by show 1+_≤_;omega) ?_;refine r_addS (p:=[32]++o.1) (q:=[32]) rfl rfl rfl rfl rfl rfl rfl (by rw[List.length_append];show 1+_+1≤_;omega) ?_;refine Gm 2 [0,1] [] (fun d1=>[BB g true d1.1,BF d1.1,_,_,_,_,_]) (c_b_WriteString g true d1 ([32]++o.1++[32]) hd1 (by have h:=hb;simp only[htx,hin,e0,e1,List.length_append,List.length_cons,List.length_nil,sNot_len] at h ⊢;omega)) (fun⟨d2,hd2,e2⟩=>?_);refine A3 ?_;refine at_regionM ?_;refine A3 ?_;refine r_indexAddrG (gg:=ga2) (len:=z.n) (cap:=z.cap) (oa2+1*7) u28 ti30 rfl rfl (congrArg (fun a=>some (Value.slice a z.n z.cap)) hza2) rfl (by omega) (by omega) (by show oa2+Int.toNat 1*7=_;rfl) ?_;refine r_loadT (v:=u2.v) 2 (oa2+1*7) u2.cs rfl rfl rfl z.hT hma2 hna2 rfl ti30 hra2 rfl rfl rfl ?_;refine A1 ?_;refine Gm 2 [0,1] [2,3] (fun(d9:BdX (d2.s++txt y2 (o.2.2+1)))=>[BB g true d9.1,BF d9.1,_,_,_,_,_]) (by have h:=H y2 (XT.arg_lt hy2) u2 (o.2.2+1) g true d2 hd2 (okXs_get hks hy2) (XT.fits_get hfs hy2) (Nat.le_trans (Nat.le_of_lt (XT.arg_lt hy2)) hM) (by omega) (by have h:=hb;simp only[htx,hin,e0,e1,e2,List.length_append,List.length_cons,List.length_nil,sNot_len] at h ⊢;omega);rw[hTa2] at h;exact h) (fun⟨d3,hd3,e3⟩=>?_);refine A8 ?_;refine at_leave1 (vs:=[.pointer (some ⟨g,0,none⟩),.int .u8 ((41:UInt8).toNat:Nat)]) rfl (by kernel_rfl) (fun w hL=>((c_b_WriteByteD g true d3 41 hd3 (by have h:=hb;simp only[htx,hin,e0,e3,e2,e1,List.length_append,List.length_cons,List.length_nil,sNot_len] at h ⊢;omega)).at (A:=[BB g true d3,BF d3]) (C:=[]) [0,1] [] (by decide) rfl rfl trivial rfl rfl (fun _=>rfl) (fun _=>allOwn rfl) (hL.putD B.D)).mono (fun e u' w' ⟨hu,x1,he,hx⟩=>⟨hu,_,he,⟨⟨x1.1,x1.2.1,by rw[x1.2.2];rw[e3,e2,e1,e0,htx,hin];simp only[List.append_assoc]⟩,rfl,hx.pk [some 0,some 1]⟩⟩)) (by show _::B.D=_;rw[hD])
     ·
      have h4:o.2.2≠4:=by have hh:=hb5;simp only[beq_iff_eq,beq_eq_false_iff_ne,ne_eq] at hh ⊢;omega
      have h45:(if o.2.2=4 then 5 else o.2.2)=o.2.2:=by rw[if_neg h4]
      have hin:inS x o=txt y (o.2.2)++([32]++o.1++[32])++txt y2 (o.2.2+1):=by unfold inS;rw[if_neg h3,h45,txtAt_get _ hy,txtAt_get _ hy2]
      refine A4 ?_;refine at_regionM ?_;refine A3 ?_;refine r_indexAddrG (gg:=ga) (len:=z.n) (cap:=z.cap) (oa+0*7) u28 ti30 rfl rfl (congrArg (fun a=>some (Value.slice a z.n z.cap)) hza) rfl (by omega) (by omega) (by show oa+Int.toNat 0*7=_;rfl) ?_;refine r_loadT (v:=u.v) 2 (oa+0*7) u.cs rfl rfl rfl z.hT hma hna rfl ti30 hra rfl rfl rfl ?_;refine A1 ?_;refine Gm 2 [0,1] [2,3] (fun(d9:BdX (d0.s++txt y (o.2.2)))=>[BB g true d9.1,BF d9.1,_,_,_,_,_]) (by have h:=H y (XT.arg_lt hy) u (o.2.2) g true d0 hd0 (okXs_get hks hy) (XT.fits_get hfs hy) (Nat.le_trans (Nat.le_of_lt (XT.arg_lt hy)) hM) (by omega) (by have h:=hb;simp only[htx,hin,e0,List.length_append,List.length_cons,List.length_nil,sNot_len] at h ⊢;omega);rw[hTa] at h;exact h) (fun⟨d1,hd1,e1⟩=>?_);refine A3 ?_;refine at_regionM ?_;refine A3 ?_;refine r_addS (p:=[32]) (q:=o.1) rfl rfl rfl rfl rfl rfl rfl (by show 1+_≤_;omega) ?_;refine r_addS (p:=[32]++o.1) (q:=[32]) rfl rfl rfl rfl rfl rfl rfl (by rw[List.length_append];show 1+_+1≤_;omega) ?_;refine Gm 2 [0,1] [] (fun d1=>[BB g true d1.1,BF d1.1,_,_,_,_,_]) (c_b_WriteString g true d1 ([32]++o.1++[32]) hd1 (by have h:=hb;simp only[htx,hin,e0,e1,List.length_append,List.length_cons,List.length_nil,sNot_len] at h ⊢;omega)) (fun⟨d2,hd2,e2⟩=>?_);refine A3 ?_;refine at_regionM ?_;refine A3 ?_;refine r_indexAddrG (gg:=ga2) (len:=z.n) (cap:=z.cap) (oa2+1*7) u28 ti30 rfl rfl (congrArg (fun a=>some (Value.slice a z.n z.cap)) hza2) rfl (by omega) (by omega) (by show oa2+Int.toNat 1*7=_;rfl) ?_;refine r_loadT (v:=u2.v) 2 (oa2+1*7) u2.cs rfl rfl rfl z.hT hma2 hna2 rfl ti30 hra2 rfl rfl rfl ?_;refine A1 ?_;refine Gm 2 [0,1] [2,3] (fun(d9:BdX (d2.s++txt y2 (o.2.2+1)))=>[BB g true d9.1,BF d9.1,_,_,_,_,_]) (by have h:=H y2 (XT.arg_lt hy2) u2 (o.2.2+1) g true d2 hd2 (okXs_get hks hy2) (XT.fits_get hfs hy2) (Nat.le_trans (Nat.le_of_lt (XT.arg_lt hy2)) hM) (by omega) (by have h:=hb;simp only[htx,hin,e0,e1,e2,List.length_append,List.length_cons,List.length_nil,sNot_len] at h ⊢;omega);rw[hTa2] at h;exact h) (fun⟨d3,hd3,e3⟩=>?_);refine A8 ?_;refine at_leave1 (vs:=[.pointer (some ⟨g,0,none⟩),.int .u8 ((41:UInt8).toNat:Nat)]) rfl (by kernel_rfl) (fun w hL=>((c_b_WriteByteD g true d3 41 hd3 (by have h:=hb;simp only[htx,hin,e0,e3,e2,e1,List.length_append,List.length_cons,List.length_nil,sNot_len] at h ⊢;omega)).at (A:=[BB g true d3,BF d3]) (C:=[]) [0,1] [] (by decide) rfl rfl trivial rfl rfl (fun _=>rfl) (fun _=>allOwn rfl) (hL.putD B.D)).mono (fun e u' w' ⟨hu,x1,he,hx⟩=>⟨hu,_,he,⟨⟨x1.1,x1.2.1,by rw[x1.2.2];rw[e3,e2,e1,e0,htx,hin];simp only[List.append_assoc]⟩,rfl,hx.pk [some 0,some 1]⟩⟩)) (by show _::B.D=_;rw[hD])
   ·
    have hlv:¬o.2.2<lv:=by have:=of_decide_eq_false hb3;omega
    have htx:txt x lv=inS x o:=by rw[txt_op hfo,if_neg hlv]
    refine A3 ?_;refine at_drawnI [2000000] mixed (by kernel_rfl) (by kernel_rfl) ?_;refine A4 ?_;refine Ar (((o.2.2+1:Nat):Int)) ?_;refine A18 ?_;refine at_cond rfl (fun hb4=>?_) (fun hb4=>?_)
    ·
     have h3:o.2.2=3:=by have hh:=hb4;simp only[beq_iff_eq,beq_eq_false_iff_ne,ne_eq] at hh ⊢;omega
     have hna1:=hn1 h3
     obtain⟨y,hy⟩:∃y,x.args[0]? =some y:=⟨x.args[0]'(by omega),List.getElem?_eq_getElem _⟩
     obtain⟨ga,oa,ca,u,hza,hma,hra,hTa,hna⟩:=z.arg hy
     have hin:inS x o=sNot++txt y 3:=by unfold inS;rw[if_pos h3,txtAt_get _ hy]
     refine A1 ?_;refine at_regionM ?_;refine A1 ?_;refine Gm 2 [0,1] [] (fun d1=>[BB g true d1.1,BF d1.1,_,_,_,_,_]) (c_b_WriteString g a d sNot hd (by have h:=hb;simp only[htx,hin,List.length_append,List.length_cons,List.length_nil,sNot_len] at h ⊢;omega)) (fun⟨d1,hd1,e1⟩=>?_);refine A3 ?_;refine at_regionM ?_;refine A3 ?_;refine r_indexAddrG (gg:=ga) (len:=z.n) (cap:=z.cap) (oa+0*7) u28 ti30 rfl rfl (congrArg (fun a=>some (Value.slice a z.n z.cap)) hza) rfl (by omega) (by omega) (by show oa+Int.toNat 0*7=_;rfl) ?_;refine r_loadT (v:=u.v) 2 (oa+0*7) u.cs rfl rfl rfl z.hT hma hna rfl ti30 hra rfl rfl rfl ?_;refine Gm 2 [0,1] [2,3] (fun(d9:BdX (d1.s++txt y (3)))=>[BB g true d9.1,BF d9.1,_,_,_,_,_]) (by have h:=H y (XT.arg_lt hy) u (3) g true d1 hd1 (okXs_get hks hy) (XT.fits_get hfs hy) (Nat.le_trans (Nat.le_of_lt (XT.arg_lt hy)) hM) (by omega) (by have h:=hb;simp only[htx,hin,e1,List.length_append,List.length_cons,List.length_nil,sNot_len] at h ⊢;omega);rw[hTa] at h;exact h) (fun⟨d2,hd2,e2⟩=>?_);refine A10 ?_;refine at_end0D rfl (fun w hL=>⟨⟨d2,hd2,by rw[e2,e1,htx,hin];simp only[List.append_assoc]⟩,rfl,hL.pk [some 0,some 1]⟩)
    ·
     have h3:o.2.2≠3:=by have hh:=hb4;simp only[beq_iff_eq,beq_eq_false_iff_ne,ne_eq] at hh ⊢;omega
     have hna1:=hn2 h3
     obtain⟨y,hy⟩:∃y,x.args[0]? =some y:=⟨x.args[0]'(by omega),List.getElem?_eq_getElem _⟩
     obtain⟨ga,oa,ca,u,hza,hma,hra,hTa,hna⟩:=z.arg hy
     obtain⟨y2,hy2⟩:∃y,x.args[1]? =some y:=⟨x.args[1]'(by omega),List.getElem?_eq_getElem _⟩
     obtain⟨ga2,oa2,ca2,u2,hza2,hma2,hra2,hTa2,hna2⟩:=z.arg hy2;refine A6 ?_;refine at_cond rfl (fun hb5=>?_) (fun hb5=>?_)
     ·
      have h4:o.2.2=4:=by have hh:=hb5;simp only[beq_iff_eq,beq_eq_false_iff_ne,ne_eq] at hh ⊢;omega
      have h45:(if o.2.2=4 then 5 else o.2.2)=o.2.2+1:=by rw[if_pos h4];omega
      have hin:inS x o=txt y (o.2.2+1)++([32]++o.1++[32])++txt y2 (o.2.2+1):=by unfold inS;rw[if_neg h3,h45,txtAt_get _ hy,txtAt_get _ hy2]
      refine A2 ?_;refine Ar (((o.2.2+1:Nat):Int)) ?_;refine A5 ?_;refine at_regionM ?_;refine A3 ?_;refine r_indexAddrG (gg:=ga) (len:=z.n) (cap:=z.cap) (oa+0*7) u28 ti30 rfl rfl (congrArg (fun a=>some (Value.slice a z.n z.cap)) hza) rfl (by omega) (by omega) (by show oa+Int.toNat 0*7=_;rfl) ?_;refine r_loadT (v:=u.v) 2 (oa+0*7) u.cs rfl rfl rfl z.hT hma hna rfl ti30 hra rfl rfl rfl ?_;refine A1 ?_;refine Gm 2 [0,1] [2,3] (fun(d9:BdX (d.s++txt y (o.2.2+1)))=>[BB g true d9.1,BF d9.1,_,_,_,_,_]) (by have h:=H y (XT.arg_lt hy) u (o.2.2+1) g a d hd (okXs_get hks hy) (XT.fits_get hfs hy) (Nat.le_trans (Nat.le_of_lt (XT.arg_lt hy)) hM) (by omega) (by have h:=hb;simp only[htx,hin,List.length_append,List.length_cons,List.length_nil,sNot_len] at h ⊢;omega);rw[hTa] at h;exact h) (fun⟨d1,hd1,e1⟩=>?_);refine A3 ?_;refine at_regionM ?_;refine A3 ?_;refine r_addS (p:=[32]) (q:=o.1) rfl rfl rfl rfl rfl rfl rfl (by show 1+_≤_;omega) ?_;refine r_addS (p:=[32]++o.1) (q:=[32]) rfl rfl rfl rfl rfl rfl rfl (by rw[List.length_append];show 1+_+1≤_;omega) ?_;refine Gm 2 [0,1] [] (fun d1=>[BB g true d1.1,BF d1.1,_,_,_,_,_]) (c_b_WriteString g true d1 ([32]++o.1++[32]) hd1 (by have h:=hb;simp only[htx,hin,e1,List.length_append,List.length_cons,List.length_nil,sNot_len] at h ⊢;omega)) (fun⟨d2,hd2,e2⟩=>?_);refine A3 ?_;refine at_regionM ?_;refine A3 ?_;refine r_indexAddrG (gg:=ga2) (len:=z.n) (cap:=z.cap) (oa2+1*7) u28 ti30 rfl rfl (congrArg (fun a=>some (Value.slice a z.n z.cap)) hza2) rfl (by omega) (by omega) (by show oa2+Int.toNat 1*7=_;rfl) ?_;refine r_loadT (v:=u2.v) 2 (oa2+1*7) u2.cs rfl rfl rfl z.hT hma2 hna2 rfl ti30 hra2 rfl rfl rfl ?_;refine A1 ?_;refine Gm 2 [0,1] [2,3] (fun(d9:BdX (d2.s++txt y2 (o.2.2+1)))=>[BB g true d9.1,BF d9.1,_,_,_,_,_]) (by have h:=H y2 (XT.arg_lt hy2) u2 (o.2.2+1) g true d2 hd2 (okXs_get hks hy2) (XT.fits_get hfs hy2) (Nat.le_trans (Nat.le_of_lt (XT.arg_lt hy2)) hM) (by omega) (by have h:=hb;simp only[htx,hin,e1,e2,List.length_append,List.length_cons,List.length_nil,sNot_len] at h ⊢;omega);rw[hTa2] at h;exact h) (fun⟨d3,hd3,e3⟩=>?_);refine A8 ?_;refine at_end0D rfl (fun w hL=>⟨⟨d3,hd3,by rw[e3,e2,e1,htx,hin];simp only[List.append_assoc]⟩,rfl,hL.pk [some 0,some 1]⟩)
     ·
      have h4:o.2.2≠4:=by have hh:=hb5;simp only[beq_iff_eq,beq_eq_false_iff_ne,ne_eq] at hh ⊢;omega
      have h45:(if o.2.2=4 then 5 else o.2.2)=o.2.2:=by rw[if_neg h4]
      have hin:inS x o=txt y (o.2.2)++([32]++o.1++[32])++txt y2 (o.2.2+1):=by unfold inS;rw[if_neg h3,h45,txtAt_get _ hy,txtAt_get _ hy2]
      refine A4 ?_;refine at_regionM ?_;refine A3 ?_;refine r_indexAddrG (gg:=ga) (len:=z.n) (cap:=z.cap) (oa+0*7) u28 ti30 rfl rfl (congrArg (fun a=>some (Value.slice a z.n z.cap)) hza) rfl (by omega) (by omega) (by show oa+Int.toNat 0*7=_;rfl) ?_;refine r_loadT (v:=u.v) 2 (oa+0*7) u.cs rfl rfl rfl z.hT hma hna rfl ti30 hra rfl rfl rfl ?_;refine A1 ?_;refine Gm 2 [0,1] [2,3] (fun(d9:BdX (d.s++txt y (o.2.2)))=>[BB g true d9.1,BF d9.1,_,_,_,_,_]) (by have h:=H y (XT.arg_lt hy) u (o.2.2) g a d hd (okXs_get hks hy) (XT.fits_get hfs hy) (Nat.le_trans (Nat.le_of_lt (XT.arg_lt hy)) hM) (by omega) (by have h:=hb;simp only[htx,hin,List.length_append,List.length_cons,List.length_nil,sNot_len] at h ⊢;omega);rw[hTa] at h;exact h) (fun⟨d1,hd1,e1⟩=>?_);refine A3 ?_;refine at_regionM ?_;refine A3 ?_;refine r_addS (p:=[32]) (q:=o.1) rfl rfl rfl rfl rfl rfl rfl (by show 1+_≤_;omega) ?_;refine r_addS (p:=[32]++o.1) (q:=[32]) rfl rfl rfl rfl rfl rfl rfl (by rw[List.length_append];show 1+_+1≤_;omega) ?_;refine Gm 2 [0,1] [] (fun d1=>[BB g true d1.1,BF d1.1,_,_,_,_,_]) (c_b_WriteString g true d1 ([32]++o.1++[32]) hd1 (by have h:=hb;simp only[htx,hin,e1,List.length_append,List.length_cons,List.length_nil,sNot_len] at h ⊢;omega)) (fun⟨d2,hd2,e2⟩=>?_);refine A3 ?_;refine at_regionM ?_;refine A3 ?_;refine r_indexAddrG (gg:=ga2) (len:=z.n) (cap:=z.cap) (oa2+1*7) u28 ti30 rfl rfl (congrArg (fun a=>some (Value.slice a z.n z.cap)) hza2) rfl (by omega) (by omega) (by show oa2+Int.toNat 1*7=_;rfl) ?_;refine r_loadT (v:=u2.v) 2 (oa2+1*7) u2.cs rfl rfl rfl z.hT hma2 hna2 rfl ti30 hra2 rfl rfl rfl ?_;refine A1 ?_;refine Gm 2 [0,1] [2,3] (fun(d9:BdX (d2.s++txt y2 (o.2.2+1)))=>[BB g true d9.1,BF d9.1,_,_,_,_,_]) (by have h:=H y2 (XT.arg_lt hy2) u2 (o.2.2+1) g true d2 hd2 (okXs_get hks hy2) (XT.fits_get hfs hy2) (Nat.le_trans (Nat.le_of_lt (XT.arg_lt hy2)) hM) (by omega) (by have h:=hb;simp only[htx,hin,e1,e2,List.length_append,List.length_cons,List.length_nil,sNot_len] at h ⊢;omega);rw[hTa2] at h;exact h) (fun⟨d3,hd3,e3⟩=>?_);refine A8 ?_;refine at_end0D rfl (fun w hL=>⟨⟨d3,hd3,by rw[e3,e2,e1,htx,hin];simp only[List.append_assoc]⟩,rfl,hL.pk [some 0,some 1]⟩)
 ·exact absurd (find_none_all hI (by have:=of_decide_eq_false hb1;show 12≤i;omega)) hop
theorem c_write(m:Int)(x:XT):WriC m x:=by
 suffices h:∀k:Nat,∀x:XT,x.size<k→WriC m x from h _ x (Nat.lt_succ_self _)
 intro k
 induction k with
 |zero=>intro x h;omega
 |succ k ih=>
  intro x hx z lv g a d hd hok hf hM hlv hb
  have H:∀y:XT,y.size<x.size→WriC m y:=fun y hy=>ih y (by omega)
  by_cases hop:opsT.find? (fun f=>decide ((f.2.1:Int)=x.op))=none
  ·rw[txt_leaf hop lv] at hb ⊢
   exact c_write_leaf z m H hok hf hM lv g a d hd hop (kind_ok (okX_parts hok).1 hop) hb
  ·exact c_write_op z m H hok hf hM lv g hlv a d hd hop hb
def prT(t:Bs8):Bs8:=if 4096<t.length then[] else t
def prC(t:Bs8):Int:=if 4096<t.length then 28 else 0
abbrev prV(t:Bs8):Value:= .tuple #[.string (strU (prT t)),.int .i64 (prC t)]
theorem c_printed{x:XT}(z:XR x)(m:Int)(hok:okX x)(hf:x.fit=true)(hM:x.size≤1000000000)(hs:Bs8)(hb:hs.length+(txt x 1).length≤17179869184):ECall Tryz.prog 59 [gB z.T false,GM m] [.string (strU hs),z.v] Unit (fun _=>prV (hs++txt x 1)) (fun _=>[]):=by
 refine⟨by kernel_rfl,fun B w hD hL0=>?_⟩;refine cB2 14 Tryz.func59 hL0 ?_;refine A2 ?_;refine Bo [_,_,_,_,_,_,_] 7 (fun g=>[_,_,⟨some g,30,_,7,true⟩]) (fun g0=>?_);refine A6 ?_;refine r_alloc [_,_] 2 (fun g=>[_,_,_,⟨some g,127,_,2,true⟩]) rfl rfl z127 rfl rfl (fun _=>rfl) (fun g1=>?_);refine A3 ?_;refine at_weakL (L':=[_,_,_,BB g1 false bd0,BF bd0]) (Weak.nilB _ (by decide)) ?_;refine at_regionM ?_;refine A1 ?_;refine r_gcallM (A:=[BB g1 false bd0,BF bd0]) (C:=[]) [.pointer (some ⟨g1,0,none⟩),.string (strU hs)] [3,4] [] (fun(d9:BdX (bd0.s++hs))=>[_,_,_,BB g1 true d9.1,BF d9.1]) rfl rfl rfl rfl (c_b_WriteString g1 false bd0 hs bd0_ok (by show 0+_≤_;omega)) (by decide) rfl rfl trivial rfl rfl (fun _=>rfl) (fun _=>allOwn rfl) (fun _=>rfl) (fun⟨d1,hd1,e1⟩=>?_);refine A3 ?_;refine at_regionM ?_;refine Ld 2 0 [_,_,_,_,_,_,_] ti30 ?_;refine Kr 9 (z.v) ?_;refine r_gcallM (A:=[BB g1 true d1,BF d1]) (C:=[gB z.T false,GM m]) [.pointer (some ⟨g1,0,none⟩),z.v,.int .i64 (1:Nat)] [3,4] [0,1] (fun(d9:BdX (d1.s++txt x 1))=>[_,_,_,BB g1 true d9.1,BF d9.1]) rfl rfl rfl rfl (c_write m x z 1 g1 true d1 hd1 hok hf hM (by decide) (by rw[e1,List.length_append];show 0+_+_≤_;omega)) (by decide) rfl rfl ⟨⟨_,rfl,Blk.le_refl _⟩,⟨_,rfl,Blk.le_refl _⟩,trivial⟩ rfl rfl (fun _=>rfl) (fun _=>allOwn rfl) (fun _=>rfl) (fun⟨d2,hd2,e2⟩=>?_);refine A4 ?_
 have e3:d2.s=hs++txt x 1:=(by rw[e2,e1];rfl);refine at_regionM ?_;refine r_scall0 [.pointer (some ⟨g1,0,none⟩)] [3] rfl rfl rfl (c_b_Len g1 true d2) ⟨⟨_,rfl,le_share⟩,trivial⟩ rfl ?_;refine A3 ?_;refine Cd ?_ ?_<;>intro hb0
 ·have hl:4096<(hs++txt x 1).length:=by rw[←e3];have:=of_decide_eq_true hb0;omega
  refine A8 ?_;refine at_end2 rfl (res_tmp rfl) (res_tmp rfl) (fun w hL=>⟨(),by unfold prV prT prC;rw[if_pos hl,if_pos hl];rfl,hL.pk []⟩)
 ·have hl:¬4096<(hs++txt x 1).length:=by rw[←e3];have:=of_decide_eq_false hb0;omega
  refine A3 ?_;refine at_regionM ?_;refine Gm 2 [3,4] [] (fun _=>[_,_,_,BB g1 true d2,BZ d2]) (c_b_String g1 true d2 hd2 (by rw[e3,List.length_append];omega)) (fun _=>?_);refine A5 ?_;refine at_end2 rfl (res_tmp rfl) (res_tmp rfl) (fun w hL=>⟨(),by unfold prV prT prC;rw[if_neg hl,if_neg hl,←e3],hL.pk []⟩)
end Go.Proofs.YtfijbadahkmhbaaGreatDoor
