/-
  Part 13 (chapter 43): lemmas, walks. Each theorem states its own conditions.
-/
import Derived.Test.YtfijbadahkmhbaaGreatDoorA04
import Derived.Test.YtfijbadahkmhbaaGreatDoorA10
import Derived.Test.YtfijbadahkmhbaaGreatDoorA11
import Derived.Test.YtfijbadahkmhbaaGreatDoorA12
set_option linter.unusedVariables false
set_option linter.unusedSimpArgs false
set_option maxRecDepth 20000
set_option maxHeartbeats 20000000
namespace Go.Via
open Go Go.RowKit
theorem lex_txt{x:XT}(hx:okX x){g:Bs8}(hg:g≠[])(hs:∀c∈g,spL.contains c=true):Lex (render g (pcs x 1)) (toks (pcs x 1)++[(0,[])]):=by
 have h:=sep_pcs x 1 [] hx trivial (fun b h=>by cases h)
 rw[List.append_nil] at h
 exact lex_pcs hg hs _ h
def Reads(s:Bs8)(x:XT):Prop:=∃f r,lev f 1 (p0 s).adv=some (x,r)∧r.fail=false∧r.k=0
theorem okR_end(n:Nat):okR n (0,[]):=fun o _ _=>rfl
theorem reads_of{s:Bs8}{x:XT}(h:Lex s (toks (pcs x 1)++[(0,[])]))(hx:okX x)(hq:qX x):Reads s x:=by
 obtain⟨r,h1,h2,h3⟩:=(read_all x.size x (Nat.le_refl _) hx hq).1 1 (by decide) (by decide) (p0 s).adv (0,[]) [] (by rw[adv_fail];rfl) (h (p0 s) rfl) (okR_end 1)
 obtain⟨f,hf⟩:=h1.lev
 exact⟨f,r,hf,h2,congrArg Prod.fst h3.1⟩
theorem reads_txt{x:XT}(hx:okX x)(hq:qX x):Reads (txt x 1) x:=by
 rw[txt_pcs]
 exact reads_of (lex_txt hx (by decide) (by decide)) hx hq
theorem end_ok{r:Ps}(h:r.fail=false)(hk:r.k=0)(e:Nat):r.endE e=e∧r.endA=0:=by
 have h1:r.endP=r:=by unfold Ps.endP;rw[if_neg (fun c=>c.2 hk)]
 unfold Ps.endE Ps.endA
 rw[h1,h]
 exact⟨rfl,rfl⟩
def rep:Nat→Bs8→Bs8
 |0,_=>[]
 |k+1,w=>rep k w++w
theorem sNot_len:sNot.length=4:=rfl
theorem qX_n(o:Nat)(n:Bs8):qX (.named o n):=by unfold XT.named;rw[qX,qXs];exact⟨⟨0,rfl⟩,trivial⟩
theorem fit_node{o:Nat}{l:List XT}(h:XT.fits l=true):(XT.node o l).fit=true:=by
 unfold XT.node
 rw[XT.fit,h]
 decide+kernel
theorem climb{p q:Ps}{x:XT}{t:Tk}{ts:List Tk}(hn:p.is tNot=false)(h:PV p x q)(hq:q.fail=false)(hs:Str q (t::ts))(ho:okR 1 t):LV 1 p x q:=by
 have st:∀n,1≤n→SV n x q x q:=fun n hn=>SV.stop hq (opAt_none hq hs.1 (ho.mono hn))
 exact LV.ln (by decide) (by decide) (LV.ln (by decide) (by decide) (LV.l3 hn (LV.ln (by decide) (by decide) (LV.ln (by decide) (by decide) (LV.ln (by decide) (by decide) (LV.ln (by decide) (by decide) (LV.l8 h) (st 7 (by decide))) (st 6 (by decide))) (st 5 (by decide))) (st 4 (by decide)))) (st 2 (by decide))) (st 1 (by decide))
structure X7 where
 op:Int
 nm:ByteArray
 b1:Bool
 s1:ByteArray
 b2:Bool
 s2:ByteArray
 a:Option Addr
 n:Nat
 cap:Nat
def X7.v(w:X7):Value:= .agg #[.int .i64 w.op,.string w.nm,.bool w.b1,.string w.s1,.bool w.b2,.string w.s2,.slice w.a w.n w.cap]
def XR.f7{x:XT}(z:XR x):X7:=⟨z.op,z.nm,z.b1,z.s1,z.b2,z.s2,z.a,z.n,z.cap⟩
end Go.Via
namespace Go.Proofs.YtfijbadahkmhbaaGreatDoor
open Go Go.RowKit Go.Via
theorem c_ParseExpr_reads{s:Bs8}{x:XT}(hs:s.length≤4096)(hr:Reads s x)(hf:x.fit=true):ECall Tryz.prog 31 [] [.string (strU s)] (XR x) (fun z=> .tuple #[(if chkE x=0 then z.f7 else XR.empty.f7).v,.int .i64 0,.int .i64 (chkE x:Nat)]) (fun z=>[gB z.T true]):=by
 obtain⟨f,r,h1,h2,h3⟩:=hr
 have h:=c_ParseExpr_ok s hs f (x,r) h1 hf
 have e:(fun z:XR x=>peV (x,r) z)=fun z=> .tuple #[(if chkE x=0 then z.f7 else XR.empty.f7).v,.int .i64 0,.int .i64 (chkE x:Nat)]:=funext fun z=>by
  unfold peV
  simp only[(end_ok h2 h3 _).1,(end_ok h2 h3 0).2,ite_self]
  split<;>rfl
 exact e▸h
theorem c_ParseExpr_good{s:Bs8}{x:XT}(hs:s.length≤4096)(hr:Reads s x)(h0:chkE x=0)(hf:x.fit=true):ECall Tryz.prog 31 [] [.string (strU s)] (XR x) (fun z=> .tuple #[z.v,.int .i64 0,.int .i64 0]) (fun z=>[gB z.T true]):=by
 have h:=c_ParseExpr_reads hs hr hf
 have e:(fun z:XR x=>Value.tuple #[(if chkE x=0 then z.f7 else XR.empty.f7).v,.int .i64 0,.int .i64 (chkE x:Nat)])=fun z=> .tuple #[z.v,.int .i64 0,.int .i64 0]:=funext fun z=>by
  rw[if_pos h0,h0];rfl
 exact e▸h
end Go.Proofs.YtfijbadahkmhbaaGreatDoor
set_option maxHeartbeats 2000000
namespace Go.Via
open Go Go.RowKit
inductive Kd where
 |lv (n:Nat)
 |sv (n:Nat) (a:XT)
 |pv
 |av (op:Nat) (e:Bs8) (n i:Nat) (l:List XT)
inductive SgP:Ps→Rat→Ps→Prop
 |pos {p:Ps} {q:Rat} (hf:p.fail=false) (hk:p.k=2) (hq:ratTok p.tx=some q):SgP p q p.adv
 |neg {p:Ps} {q:Rat} (hi:p.is tMinus=true) (hk:p.adv.k=2) (hq:ratTok p.adv.tx=some q):SgP p (-q) p.adv.adv
inductive Der:Kd→Ps→XT→Ps→Prop
 |not {p r:Ps} {x:XT} (h:p.is tNot=true) (d:Der (.lv 3) p.adv x r):Der (.lv 3) p (.node 25 [x]) r
 |l3 {p r:Ps} {x:XT} (h:p.is tNot=false) (d:Der (.lv 4) p x r):Der (.lv 3) p x r
 |l8 {p r:Ps} {x:XT} (d:Der .pv p x r):Der (.lv 8) p x r
 |ln {n:Nat} {p q r:Ps} {a x:XT} (h3:n≠3) (h8:n≠8) (d:Der (.lv (n+1)) p a q) (e:Der (.sv n a) q x r):Der (.lv n) p x r
 |stop {n:Nat} {p:Ps} {x:XT} (hf:p.fail=false) (h:opAt n p=none):Der (.sv n x) p x p
 |go {n op:Nat} {p q r:Ps} {x y z:XT} (h4:n≠4) (hf:p.fail=false) (h:opAt n p=some op) (d:Der (.lv (n+1)) p.adv y q) (e:Der (.sv n (.node op [x,y])) q z r):Der (.sv n x) p z r
 |once {op:Nat} {p q:Ps} {x y:XT} (hf:p.fail=false) (h:opAt 4 p=some op) (d:Der (.lv 5) p.adv y q):Der (.sv 4 x) p (.node op [x,y]) q
 |num {p r:Ps} {q:Rat} (h:SgP p q r):Der .pv p (.numd 1 q) r
 |paren {p q:Ps} {x:XT} (h:p.is tOpen=true) (d:Der (.lv 1) p.adv x q) (hs:q.is tShut=true):Der .pv p x q.adv
 |inter {p r:Ps} {x:XT} (h:p.is tOpenB=true) (d:Der (.av 6 tShutB 2 0 []) p.adv x r):Der .pv p x r
 |point {p q r:Ps} {a b:Rat} (h:p.is tPoint=true) (ho:p.adv.is tOpen=true) (d:SgP p.adv.adv a q) (hc:q.is tComma=true) (e:SgP q.adv b r) (hs:r.is tShut=true):Der .pv p (.node 2 [.numd 1 a,.numd 1 b]) r.adv
 |object {p:Ps} {q:Rat} (h:p.is tObject=true) (ho:p.adv.is tOpen=true) (hk:p.adv.adv.k=2) (hq:ratTok p.adv.adv.tx=some q) (hi:idOK q=true) (hs:p.adv.adv.adv.is tShut=true):Der .pv p (.numd 3 q) p.adv.adv.adv.adv
 |zone {p:Ps} (h:p.is tZone=true) (ho:p.adv.is tOpen=true) (hk:p.adv.adv.k=3) (hs:p.adv.adv.adv.is tShut=true):Der .pv p (.named 5 p.adv.adv.tx) p.adv.adv.adv.adv
 |call {p r:Ps} {x:XT} {g:Bs8×Nat×Nat} (hg:g∈funT) (h:p.is g.1=true) (ho:p.adv.is tOpen=true) (d:Der (.av g.2.1 tShut g.2.2 0 []) p.adv.adv x r):Der .pv p x r
 |name {p:Ps} (hf:p.fail=false) (hk:p.k=1) (hr:resL.contains p.tx=false) (hl:p.tx.length≤40) (hn:∀x∈[tMinus,tOpen,tOpenB,tPoint,tObject,tZone],p.is x=false) (hg:funAt p=none):Der .pv p (.named 4 p.tx) p.adv
 |more {op n i:Nat} {e:Bs8} {l:List XT} {p p1 q r:Ps} {x y:XT} (hi:i<n) (hc:0<i→p.is tComma=true) (h1:p1=if 0<i then p.adv else p) (d:Der (.lv 1) p1 y q) (a:Der (.av op e n (i+1) (l++[y])) q x r):Der (.av op e n i l) p x r
 |done {op n i:Nat} {e:Bs8} {l:List XT} {p:Ps} (hi:¬i<n) (he:p.is e=true):Der (.av op e n i l) p (.node op l) p.adv
theorem is_ok{p:Ps}{x:Bs8}(h:p.is x=true):p.fail=false:=by
 unfold Ps.is at h
 simp only[Bool.and_eq_true,Bool.not_eq_true'] at h
 exact h.1.1
theorem is_k{p:Ps}{x:Bs8}(h:p.is x=true):(p.k=1∨p.k=4)∧p.tx=x:=by
 unfold Ps.is at h
 simp only[Bool.and_eq_true,Bool.or_eq_true,beq_iff_eq] at h
 exact⟨h.1.2,h.2⟩
theorem stop_fail{p:Ps}{e:Nat}:(p.stop e).fail=true:=by
 unfold Ps.stop
 split
 ·assumption
 ·rfl
theorem want_of{p:Ps}{x:Bs8}(h:(p.want x).fail=false):p.is x=true∧p.want x=p.adv:=by
 unfold Ps.want at h ⊢
 split
 ·rename_i c;exact⟨c,rfl⟩
 ·rename_i c
  rw[if_neg c,stop_fail] at h
  cases h
theorem number_of{p:Ps}{o:Bool}(h:(p.number o).2.fail=false):p.fail=false∧p.k=2∧ratTok p.tx=some (p.number o).1∧(p.number o).2=p.adv∧(o=true→idOK (p.number o).1=true):=by
 unfold Ps.number at h ⊢
 split at h
 ·rw[stop_fail] at h;cases h
 ·rename_i c
  rw[if_neg c]
  have hc:p.fail=false∧p.k=2:=by simpa using c
  split at h
  ·rw[stop_fail] at h;cases h
  ·rename_i q hq
   rw[hq]
   split at h
   ·rw[stop_fail] at h;cases h
   ·rename_i c2
    rw[if_neg c2]
    refine⟨hc.1,hc.2,rfl,rfl,fun ho=>?_⟩
    subst ho
    simpa using c2
theorem signed_of{p:Ps}(hp:p.fail=false)(h:p.signed.2.fail=false):∃q,p.signed.1= .numd 1 q∧SgP p q p.signed.2:=by
 unfold Ps.signed at h ⊢
 split
 ·rename_i c
  rw[if_pos c] at h
  obtain⟨h1,h2,h3,h4,_⟩:=number_of h
  refine⟨_,rfl,?_⟩
  rw[h4]
  exact .neg c h2 h3
 ·rename_i c
  rw[if_neg c] at h
  obtain⟨h1,h2,h3,h4,_⟩:=number_of h
  refine⟨_,rfl,?_⟩
  rw[h4]
  exact .pos h1 h2 h3
theorem signed_fail{p:Ps}(h:p.signed.2.fail=false):p.fail=false:=by
 unfold Ps.signed at h
 split at h
 ·rename_i c;exact is_ok c
 ·exact(number_of h).1
theorem der_of:∀f:Nat,(∀n p x r,lev f n p=some (x,r)→r.fail=false→p.fail=false∧Der (.lv n) p x r)∧(∀n a p x r,levs f n a p=some (x,r)→r.fail=false→p.fail=false∧Der (.sv n a) p x r)∧
 (∀p x r,prim f p=some (x,r)→r.fail=false→p.fail=false∧Der .pv p x r)∧(∀op e n i l p x r,argL f op e n i l p=some (x,r)→r.fail=false→p.fail=false∧Der (.av op e n i l) p x r)
 |0=>⟨fun n p x r h=>(by rw[lev] at h;cases h),fun n a p x r h=>(by rw[levs] at h;cases h),fun p x r h=>(by rw[prim] at h;cases h),fun op e n i l p x r h=>(by rw[argL] at h;cases h)⟩
 |f+1=>by
  obtain⟨h1,h2,h3,h4⟩:=der_of f
  refine⟨fun n p x r h hr=>?_,fun n a p x r h hr=>?_,fun p x r h hr=>?_,fun op e n i l p x r h hr=>?_⟩
  ·rw[lev] at h
   split at h
   ·rename_i c;subst c
    split at h
    ·rename_i c
     obtain⟨v,e,g⟩:=Option.map_eq_some_iff.1 h
     simp only[Prod.mk.injEq] at g
     obtain⟨g1,g2⟩:=g
     subst g1;subst g2
     exact⟨is_ok c,.not c (h1 _ _ _ _ e hr).2⟩
    ·rename_i c
     obtain⟨a,b⟩:=h1 _ _ _ _ h hr
     exact⟨a,.l3 (by simpa using c) b⟩
   ·rename_i c3
    split at h
    ·rename_i c;subst c
     obtain⟨a,b⟩:=h3 _ _ _ h hr
     exact⟨a,.l8 b⟩
    ·rename_i c8
     obtain⟨v,e,g⟩:=Option.bind_eq_some_iff.1 h
     obtain⟨a,b⟩:=h2 _ _ _ _ _ g hr
     obtain⟨a2,b2⟩:=h1 _ _ v.1 v.2 e a
     exact⟨a2,.ln c3 c8 b2 b⟩
  ·rw[levs] at h
   split at h
   ·rename_i c
    simp only[Option.some.injEq,Prod.mk.injEq] at h
    rw[←h.2,c] at hr;cases hr
   ·rename_i c
    have hp:p.fail=false:=by simpa using c
    split at h
    ·rename_i ho
     simp only[Option.some.injEq,Prod.mk.injEq] at h
     obtain⟨g1,g2⟩:=h
     subst g1;subst g2
     exact⟨hp,.stop hp ho⟩
    ·rename_i op ho
     obtain⟨v,e,g⟩:=Option.bind_eq_some_iff.1 h
     split at g
     ·rename_i c4;subst c4
      simp only[Option.some.injEq,Prod.mk.injEq] at g
      obtain⟨g1,g2⟩:=g
      subst g1;subst g2
      exact⟨hp,.once hp ho (h1 _ _ v.1 v.2 e hr).2⟩
     ·rename_i c4
      obtain⟨a',b⟩:=h2 _ _ _ _ _ g hr
      exact⟨hp,.go c4 hp ho (h1 _ _ v.1 v.2 e a').2 b⟩
  ·rw[prim] at h
   split at h
   ·rename_i c
    simp only[Option.some.injEq,Prod.mk.injEq] at h
    rw[←h.2,c] at hr;cases hr
   ·rename_i c
    have hp:p.fail=false:=by simpa using c
    refine⟨hp,?_⟩
    split at h
    ·simp only[Option.some.injEq] at h
     have e1:=congrArg Prod.fst h
     have e2:=congrArg Prod.snd h
     dsimp only at e1 e2
     subst e1;subst e2
     obtain⟨q,a,b⟩:=signed_of hp hr
     rw[a];exact .num b
    ·split at h
     ·rename_i c
      obtain⟨v,e,g⟩:=Option.map_eq_some_iff.1 h
      simp only[Prod.mk.injEq] at g
      obtain⟨g1,g2⟩:=g
      subst g1;subst g2
      obtain⟨w1,w2⟩:=want_of hr
      rw[w2]
      exact .paren c (h1 _ _ v.1 v.2 e (is_ok w1)).2 w1
     ·split at h
      ·rename_i c
       exact .inter c (h4 _ _ _ _ _ _ _ _ h hr).2
      ·split at h
       ·rename_i c
        simp only[Option.some.injEq] at h
        have e1:=congrArg Prod.fst h
        have e2:=congrArg Prod.snd h
        unfold Ps.pointX at e1 e2
        dsimp only at e1 e2
        subst e1;subst e2
        obtain⟨w1,w2⟩:=want_of hr
        obtain⟨b,hb1,hb2⟩:=signed_of (signed_fail (is_ok w1)) (is_ok w1)
        obtain⟨w3,w4⟩:=want_of (signed_fail (is_ok w1))
        obtain⟨a,ha1,ha2⟩:=signed_of (signed_fail (is_ok w3)) (is_ok w3)
        obtain⟨w5,w6⟩:=want_of (signed_fail (is_ok w3))
        rw[w2,ha1,hb1]
        rw[w4] at hb2 w1 ⊢
        rw[w6] at ha2 w3 hb2 w1 ⊢
        exact .point c w5 ha2 w3 hb2 w1
       ·split at h
        ·rename_i c
         simp only[Option.some.injEq] at h
         have e1:=congrArg Prod.fst h
         have e2:=congrArg Prod.snd h
         unfold Ps.objectX at e1 e2
         dsimp only at e1 e2
         subst e1;subst e2
         obtain⟨w1,w2⟩:=want_of hr
         obtain⟨n1,n2,n3,n4,n5⟩:=number_of (is_ok w1)
         obtain⟨w3,w4⟩:=want_of n1
         rw[w2]
         rw[n4] at w1 ⊢
         generalize(Ps.number _ true).1=q at n3 n5 ⊢
         rw[w4] at n2 n3 w1 ⊢
         exact .object c w3 n2 n3 (n5 rfl) w1
        ·split at h
         ·rename_i c
          simp only[Option.some.injEq] at h
          have e1:=congrArg Prod.fst h
          have e2:=congrArg Prod.snd h
          unfold Ps.zone at e1 e2
          dsimp only at e1 e2
          subst e1;subst e2
          obtain⟨w1,w2⟩:=want_of hr
          rw[w2]
          split at w1
          ·have:=is_ok w1
           rw[stop_fail] at this;cases this
          ·rename_i c2
           rw[if_neg c2]
           have hc:(p.adv.want tOpen).fail=false∧(p.adv.want tOpen).k=3:=by simpa using c2
           obtain⟨w3,w4⟩:=want_of hc.1
           rw[w4] at hc w1 ⊢
           exact .zone c w3 hc.2 w1
         ·split at h
          ·rename_i c1 c2 c3 c4 c5 c6 v op n hfn
           obtain⟨a,b⟩:=h4 _ _ _ _ _ _ _ _ h hr
           obtain⟨w3,w4⟩:=want_of a
           rw[w4] at b
           unfold funAt at hfn
           obtain⟨g,hg1,hg2⟩:=Option.map_eq_some_iff.1 hfn
           have hgm:=List.mem_of_find?_eq_some hg1
           have hgi:p.is g.1=true:=by have:=List.find?_some hg1;simpa using this
           have e1:g.2.1=op:=congrArg Prod.fst hg2
           have e2:g.2.2=n:=congrArg Prod.snd hg2
           subst e1;subst e2
           exact .call hgm hgi w3 b
          ·rename_i k1 k2 k3 k4 k5 k6 _ hfn
           have hn:∀x∈[tMinus,tOpen,tOpenB,tPoint,tObject,tZone],p.is x=false:=by
            have k0:¬p.is tMinus=true:=fun e=>k1 (by rw[e,Bool.or_true])
            intro x hx
            simp only[List.mem_cons,List.mem_nil_iff,or_false] at hx
            rcases hx with rfl|rfl|rfl|rfl|rfl|rfl<;>(rw[←Bool.not_eq_true];assumption)
           simp only[Option.some.injEq] at h
           have e1:=congrArg Prod.fst h
           have e2:=congrArg Prod.snd h
           dsimp only at e1 e2
           subst e1;subst e2
           unfold Ps.name at hr ⊢
           split at hr
           ·rw[stop_fail] at hr;cases hr
           ·rename_i c1
            split at hr
            ·rw[stop_fail] at hr;cases hr
            ·rename_i c2
             rw[if_neg c1,if_neg c2]
             simp only[Bool.or_eq_true,not_or,bne_iff_ne,ne_eq,Decidable.not_not,Bool.not_eq_true] at c1
             exact .name c1.1.1 c1.1.2 c1.2 (by omega) hn hfn
  ·rw[argL] at h
   split at h
   ·rename_i hi
    dsimp only at h
    generalize hp1:(if 0<i then p.want tComma else p)=p1 at h
    split at h
    ·rename_i c
     simp only[Option.some.injEq,Prod.mk.injEq] at h
     obtain⟨_,g2⟩:=h
     subst g2
     obtain⟨w1,_⟩:=want_of hr
     rw[is_ok w1] at c;cases c
    ·rename_i c
     obtain⟨v,e',g⟩:=Option.bind_eq_some_iff.1 h
     obtain⟨a,b⟩:=h4 _ _ _ _ _ _ _ _ g hr
     obtain⟨a2,b2⟩:=h1 _ _ v.1 v.2 e' a
     by_cases h0:0<i
     ·rw[if_pos h0] at hp1
      subst hp1
      obtain⟨w1,w2⟩:=want_of a2
      exact⟨is_ok w1,.more hi (fun _=>w1) (by rw[if_pos h0];exact w2) b2 b⟩
     ·rw[if_neg h0] at hp1
      subst hp1
      exact⟨a2,.more hi (fun c=>absurd c h0) (by rw[if_neg h0]) b2 b⟩
   ·rename_i hi
    simp only[Option.some.injEq,Prod.mk.injEq] at h
    obtain⟨g1,g2⟩:=h
    subst g1;subst g2
    obtain⟨w1,w2⟩:=want_of hr
    rw[w2]
    exact⟨is_ok w1,.done hi w1⟩
theorem joinC_len:∀L:List Bs8,(joinC L).length≤(L.map fun t=>t.length+2).sum
 |[]=>by simp[joinC]
 |[t]=>by simp[joinC]
 |t::u::r=>by
  have:=joinC_len (u::r)
  rw[joinC,List.length_append,List.length_append,List.map_cons,List.sum_cons]
  simp at this ⊢
  omega
theorem ops_len{f:Bs8×Nat×Nat}(h:f∈opsT):f.1.length≤6:=by
 have:∀o∈opsT,o.1.length≤6:=by decide
 exact this f h
theorem fun_len{f:Bs8×Nat×Nat}(h:f∈funT):f.1.length≤10:=by
 have:∀o∈funT,o.1.length≤10:=by decide
 exact this f h
end Go.Via
set_option maxHeartbeats 2000000
namespace Go.Via
open Go Go.RowKit
def Kd.all(T:XT→Prop):Kd→Prop
 | .sv _ a=>T a
 | .av _ _ _ _ l=>∀y∈l,T y
 |_=>True
theorem SgP.good{p r:Ps}{q:Rat}(h:SgP p q r)(hp:p.good):r.good∧szQ q≤4096:=by
 cases h with
 |pos hf hk hq=>exact⟨Ps.adv_good hp.1,Nat.le_trans (ratTok_sz (hp.2.1 hk) hq) hp.2.2⟩
 |neg hi hk hq=>
  rename_i q
  have h1:=Ps.adv_good hp.1
  exact⟨Ps.adv_good h1.1,Nat.le_trans (szQ_neg (ratTok_sz (h1.2.1 hk) hq)) h1.2.2⟩
theorem der_all{T:XT→Prop}(hn:∀op l,(∀y∈l,T y)→T (.node op l))(hd:∀op q,szQ q≤4096→T (.numd op q))(hm:∀op n,n.length≤4096→T (.named op n)){k:Kd}{p r:Ps}{x:XT}(h:Der k p x r):p.good→k.all T→T x∧r.good:=by
 have h2:∀{op:Nat} {x y:XT},T x→T y→T (.node op [x,y]):=fun hx hy=>hn _ _ fun z hz=>by
  rcases List.mem_cons.1 hz with rfl|hz
  ·exact hx
  ·rw[List.mem_singleton.1 hz];exact hy
 induction h with
 |not h d ih=>intro hp _;obtain⟨a,b⟩:=ih (Ps.adv_good hp.1) trivial;exact⟨hn _ _ fun y hy=>by rw[List.mem_singleton.1 hy];exact a,b⟩
 |l3 h d ih=>intro hp _;exact ih hp trivial
 |l8 d ih=>intro hp _;exact ih hp trivial
 |ln h3 h8 d e ih ih2=>intro hp _;obtain⟨a,b⟩:=ih hp trivial;exact ih2 b a
 |stop hf h=>intro hp ha;exact⟨ha,hp⟩
 |go h4 hf h d e ih ih2=>intro hp ha;obtain⟨a,b⟩:=ih (Ps.adv_good hp.1) trivial;exact ih2 b (h2 ha a)
 |once hf h d ih=>intro hp ha;obtain⟨a,b⟩:=ih (Ps.adv_good hp.1) trivial;exact⟨h2 ha a,b⟩
 |num h=>intro hp _;obtain⟨a,b⟩:=h.good hp;exact⟨hd _ _ b,a⟩
 |paren h d hs ih=>intro hp _;obtain⟨a,b⟩:=ih (Ps.adv_good hp.1) trivial;exact⟨a,Ps.adv_good b.1⟩
 |inter h d ih=>intro hp _;exact ih (Ps.adv_good hp.1) (fun y hy=>by cases hy)
 |point h ho d hc e hs=>
  intro hp _
  obtain⟨a,b⟩:=d.good (Ps.adv_good (Ps.adv_good hp.1).1)
  obtain⟨c,f⟩:=e.good (Ps.adv_good a.1)
  exact⟨h2 (hd _ _ b) (hd _ _ f),Ps.adv_good c.1⟩
 |object h ho hk hq hi hs=>
  intro hp _
  have g:=Ps.adv_good (Ps.adv_good hp.1).1
  exact⟨hd _ _ (Nat.le_trans (ratTok_sz (g.2.1 hk) hq) g.2.2),Ps.adv_good (Ps.adv_good g.1).1⟩
 |zone h ho hk hs=>
  intro hp _
  have g:=Ps.adv_good (Ps.adv_good hp.1).1
  exact⟨hm _ _ g.2.2,Ps.adv_good (Ps.adv_good g.1).1⟩
 |call hg h ho d ih=>intro hp _;exact ih (Ps.adv_good (Ps.adv_good hp.1).1) (fun y hy=>by cases hy)
 |name hf hk hr hl _ _=>intro hp _;exact⟨hm _ _ hp.2.2,Ps.adv_good hp.1⟩
 | @more op n i e l p p1 q r x y hi hc h1 d a ih ih2=>
   intro hp ha
   have hp1:p1.good:=by
    rw[h1]
    split
    ·exact Ps.adv_good hp.1
    ·exact hp
   obtain⟨a1,b⟩:=ih hp1 trivial
   refine ih2 b fun y hy=>?_
   rcases List.mem_append.1 hy with hy|hy
   ·exact ha y hy
   ·rw[List.mem_singleton.1 hy];exact a1
 |done hi he=>intro hp ha;exact⟨hn _ _ ha,Ps.adv_good hp.1⟩
theorem fits_all:∀{l:List XT},(∀y∈l,y.fit=true)→XT.fits l=true
 |[],_=>by rw[XT.fits]
 |x::l,h=>by rw[XT.fits,h x (List.mem_cons_self ..),fits_all fun y hy=>h y (List.mem_cons_of_mem _ hy)];rfl
theorem qXs_all:∀{l:List XT},(∀y∈l,qX y)→qXs l
 |[],_=>by rw[qXs];trivial
 |x::l,h=>by rw[qXs];exact⟨h x (List.mem_cons_self ..),qXs_all fun y hy=>h y (List.mem_cons_of_mem _ hy)⟩
theorem der_fit{k:Kd}{p r:Ps}{x:XT}(h:Der k p x r)(hp:p.good)(hk:k.all fun x=>x.fit=true∧qX x):x.fit=true∧qX x:=
 (der_all (T:=fun x=>x.fit=true∧qX x) (fun op l hl=>⟨fit_node (fits_all fun y hy=>(hl y hy).1),by unfold XT.node;rw[qX];exact⟨⟨0,rfl⟩,qXs_all fun y hy=>(hl y hy).2⟩⟩)
 (fun op q hq=>⟨by
 unfold XT.numd
 rw[XT.fit,XT.fits]
 have:NumV.fit (.q q)=true:=decide_eq_true (by omega)
 rw[this];decide,by unfold XT.numd;rw[qX,qXs];exact⟨⟨q,rfl⟩,trivial⟩⟩)
 (fun op n hn=>⟨by
 unfold XT.named
 rw[XT.fit,XT.fits,decide_eq_true (by omega:n.length≤1000000)]
 decide+kernel,qX_n op n⟩) h hp hk).1
def Ps.tl(p:Ps):Nat:=if p.k=3 then(quoS p.tx).length+2 else if p.k=1∨p.k=2∨p.k=4 then p.tx.length else 0
def Ps.tokd(p:Ps):Prop:=p.k=1∨p.k=2∨p.k=3∨p.k=4
theorem quo_len:∀{l n:Bs8} {k:Nat},quo l=some (n,k)→k=(quoS n).length
 |[],n,k,h=>by simp[quo] at h
 |[c],n,k,h=>by
  simp only[quo] at h
  split at h
  ·simp at h;rw[h.1,←h.2];rfl
  ·cases h
 |c::d::l,n,k,h=>by
  rw[quo] at h
  split at h
  ·split at h
   ·cases hq:quo l with
    |none=>rw[hq] at h;simp at h
    |some x=>
     rw[hq] at h
     simp at h
     have:=quo_len (n:=x.1) (k:=x.2) hq
     rw[←h.1,←h.2,this]
     unfold quoS
     rw[List.flatMap_cons,List.length_append,if_pos rfl]
     show _=2+_
     omega
   ·simp at h;rw[h.1,←h.2];rfl
  ·rename_i hc
   cases hq:quo (d::l) with
   |none=>rw[hq] at h;simp at h
   |some x=>
    rw[hq] at h
    simp at h
    have:=quo_len (n:=x.1) (k:=x.2) hq
    rw[←h.1,←h.2,this]
    unfold quoS
    rw[List.flatMap_cons,List.length_append,if_neg hc]
    show _=1+_
    omega
theorem skip_ge(p:Ps):p.pos≤p.skip:=by unfold Ps.skip;omega
theorem adv_pos{p:Ps}(h:p.ok):p.pos≤p.adv.at_∧p.adv.at_+p.adv.tl≤p.adv.pos∧(p.adv.tokd→1≤p.adv.tl):=by
 have hsk:=Ps.skip_le h
 have hge:=skip_ge p
 have tlen:∀j:Nat,p.skip≤j→j≤p.s.length→((p.s.drop p.skip).take (j-p.skip)).length=j-p.skip:=fun j h1 h2=>by
  rw[List.length_take,List.length_drop];omega
 by_cases hi:p.skip=p.s.length
 ·rw[adv_end rfl hi]
  exact⟨hge,Nat.le_refl _,fun hk=>by rcases hk with h|h|h|h<;>cases h⟩
 ·obtain⟨c,hx⟩:∃c,p.s[p.skip]? =some c:=⟨p.s[p.skip]'(by omega),List.getElem?_eq_getElem _⟩
  by_cases h1:isLet c=true
  ·rw[adv_word rfl hx h1 rfl]
   have hw:p.skip+1≤run8 wch p.s p.skip:=by rw[run8_go hx (wch_let h1)];exact run8_ge
   have hl:=tlen _ (run8_ge (f:=wch)) (run8_le hsk)
   refine⟨hge,?_,fun _=>?_⟩
   ·show p.skip+List.length _≤_
    rw[hl];show p.skip+(run8 wch p.s p.skip-p.skip)≤run8 wch p.s p.skip;omega
   ·show 1≤List.length _
    rw[hl];omega
  ·have h1:isLet c=false:=by simpa using h1
   by_cases h2:isDig c=true
   ·rw[adv_num rfl hx h1 h2 rfl]
    have hn:=numLen_le (p.s.drop p.skip)
    rw[List.length_drop] at hn
    have hl:=tlen (p.skip+numLen (p.s.drop p.skip)) (by omega) (by omega)
    have h0:1≤numLen (p.s.drop p.skip):=by
     have hd:1≤dgs (p.s.drop p.skip):=by
      rw[drop_at hx]
      unfold dgs
      rw[List.takeWhile_cons_of_pos h2];simp
     unfold numLen
     split
     ·split<;>omega
     ·exact hd
    refine⟨hge,?_,fun _=>?_⟩
    ·show p.skip+List.length _≤_
     rw[hl];show p.skip+(p.skip+numLen (p.s.drop p.skip)-p.skip)≤p.skip+numLen (p.s.drop p.skip);omega
    ·show 1≤List.length _
     rw[hl];omega
   ·have h2:isDig c=false:=by simpa using h2
    by_cases h3:c=34
    ·rw[adv_quo rfl hx h1 h2 h3]
     unfold Ps.quoted
     dsimp only
     split
     ·rename_i n k hq
      split
      ·refine⟨hge,?_,fun _=>?_⟩
       ·show p.skip+((quoS n).length+2)≤p.skip+k+2
        rw[quo_len hq];omega
       ·show 1≤(quoS n).length+2
        omega
      ·exact⟨hge,Nat.le_refl _,fun hk=>by rcases hk with h|h|h|h<;>cases h⟩
     ·exact⟨hge,Nat.le_refl _,fun hk=>by rcases hk with h|h|h|h<;>cases h⟩
    ·by_cases h4:symL.contains c=true
     ·rw[adv_sym rfl hx h1 h2 h3 h4]
      have hl:=tlen (p.skip+1) (by omega) (by omega)
      refine⟨hge,?_,fun _=>?_⟩
      ·show p.skip+List.length _≤_
       rw[hl];show p.skip+(p.skip+1-p.skip)≤p.skip+1;omega
      ·show 1≤List.length _
       rw[hl];omega
     ·rw[adv_bad rfl hx h1 h2 h3 (by simpa using h4)]
      exact⟨hge,Nat.le_refl _,fun hk=>by rcases hk with h|h|h|h<;>cases h⟩
instance(p:Ps):Decidable p.tokd:=by unfold Ps.tokd;infer_instance
def Ps.mu(p:Ps):Nat:=if p.fail=true then 0 else 2*(p.s.length-p.pos)+if p.tokd then 1 else 0
theorem mu_adv{p:Ps}(h:p.ok)(hf:p.fail=false)(hk:p.tokd):p.adv.mu<p.mu:=by
 obtain⟨h1,h2,h3⟩:=adv_pos h
 have h4:=(Ps.adv_ok h).2
 unfold Ps.mu
 have e1:¬(false=true):=by decide
 rw[adv_fail,hf,if_neg e1,if_neg e1,if_pos hk,Ps.adv_s]
 rw[Ps.adv_s] at h4
 split
 ·rename_i hk2
  have:=h3 hk2
  omega
 ·omega
theorem is_tokd{p:Ps}{x:Bs8}(h:p.is x=true):p.tokd:=by
 rcases(is_k h).1 with h|h
 ·exact .inl h
 ·exact .inr (.inr (.inr h))
theorem mu_stop{p:Ps}{e:Nat}:(p.stop e).mu=0:=by unfold Ps.mu;rw[if_pos stop_fail]
theorem mu_is{p:Ps}{x:Bs8}(h:p.ok)(hi:p.is x=true):p.adv.mu<p.mu:=mu_adv h (is_ok hi) (is_tokd hi)
theorem mu_want{p:Ps}{x:Bs8}(h:p.ok):(p.want x).mu≤p.mu:=by
 unfold Ps.want
 split
 ·rename_i c;exact Nat.le_of_lt (mu_is h c)
 ·rw[mu_stop];exact Nat.zero_le _
theorem mu_name{p:Ps}(h:p.ok):p.name.mu≤p.mu:=by
 unfold Ps.name
 split
 ·rw[mu_stop];exact Nat.zero_le _
 ·rename_i c
  split
  ·rw[mu_stop];exact Nat.zero_le _
  ·simp only[Bool.or_eq_true,not_or,bne_iff_ne,ne_eq,Decidable.not_not,Bool.not_eq_true] at c
   exact Nat.le_of_lt (mu_adv h c.1.1 (.inl c.1.2))
theorem mu_number{p:Ps}{o:Bool}(h:p.ok):(p.number o).2.mu≤p.mu:=by
 unfold Ps.number
 split
 ·rw[mu_stop];exact Nat.zero_le _
 ·rename_i c
  have hc:p.fail=false∧p.k=2:=by simpa using c
  split
  ·rw[mu_stop];exact Nat.zero_le _
  ·split
   ·rw[mu_stop];exact Nat.zero_le _
   ·exact Nat.le_of_lt (mu_adv h hc.1 (.inr (.inl hc.2)))
theorem mu_signed{p:Ps}(h:p.ok):p.signed.2.mu≤p.mu:=by
 unfold Ps.signed
 split
 ·rename_i c;exact Nat.le_trans (mu_number (Ps.adv_ok h)) (Nat.le_of_lt (mu_is h c))
 ·exact mu_number h
theorem mu_tail{p:Ps}{x:Bs8}(h:p.good)(hi:p.is x=true):p.adv.pointX.2.mu≤p.mu∧p.adv.objectX.2.mu≤p.mu∧p.adv.zone.2.mu≤p.mu:=by
 have g1:=Ps.adv_good h.1
 have m1:=Nat.le_of_lt (mu_is h.1 hi)
 have g2:(p.adv.want tOpen).good:=Ps.want_good g1
 have m2:=Nat.le_trans (mu_want (x:=tOpen) g1.1) m1
 refine⟨?_,?_,?_⟩
 ·unfold Ps.pointX
  dsimp only
  have g3:=Ps.signed_good g2
  have m3:=Nat.le_trans (mu_signed g2.1) m2
  have g4:(Ps.want _ tComma).good:=Ps.want_good g3
  have m4:=Nat.le_trans (mu_want (x:=tComma) g3.1) m3
  have g5:=Ps.signed_good g4
  exact Nat.le_trans (mu_want g5.1) (Nat.le_trans (mu_signed g4.1) m4)
 ·unfold Ps.objectX
  dsimp only
  exact Nat.le_trans (mu_want (Ps.number_good g2).1) (Nat.le_trans (mu_number g2.1) m2)
 ·unfold Ps.zone
  dsimp only
  split
  ·exact Nat.le_trans (mu_want (Ps.stop_ok g2.1)) (by rw[mu_stop];exact Nat.zero_le _)
  ·rename_i c
   have hc:(p.adv.want tOpen).fail=false∧(p.adv.want tOpen).k=3:=by simpa using c
   exact Nat.le_trans (mu_want (Ps.adv_ok g2.1)) (Nat.le_trans (Nat.le_of_lt (mu_adv g2.1 hc.1 (.inr (.inr (.inl hc.2))))) m2)
theorem fun_args{p:Ps}{op n:Nat}(h:funAt p=some (op,n)):n≤3∧∃x,p.is x=true:=by
 unfold funAt at h
 obtain⟨g,hg1,hg2⟩:=Option.map_eq_some_iff.1 h
 have hall:∀g∈funT,g.2.2≤3:=by decide
 have h1:=hall g (List.mem_of_find?_eq_some hg1)
 have h2:g.2.2=n:=congrArg Prod.snd hg2
 have h3:p.is g.1=true:=by have:=List.find?_some hg1;simpa using this
 exact⟨by omega,_,h3⟩
theorem opAt_is{n op:Nat}{p:Ps}(h:opAt n p=some op):∃x,p.is x=true:=by
 unfold opAt at h
 obtain⟨g,hg1,_⟩:=Option.map_eq_some_iff.1 h
 have h3:=List.find?_some hg1
 simp only[Bool.and_eq_true] at h3
 exact⟨_,h3.2⟩
theorem ends:∀f:Nat,(∀n p,p.good→n≤8→20*p.mu+11≤f+n→∃r,lev f n p=some r∧r.2.mu≤p.mu)∧(∀n a p,p.good→n≤7→20*p.mu+1≤f→∃r,levs f n a p=some r∧r.2.mu≤p.mu)∧
 (∀p,p.good→20*p.mu+1≤f→∃r,prim f p=some r∧r.2.mu≤p.mu)∧(∀op e n i l p,p.good→20*p.mu+11+(n-i)≤f→∃r,argL f op e n i l p=some r∧r.2.mu≤p.mu)
 |0=>⟨fun n p _ hn h=>by omega,fun n a p _ _ h=>by omega,fun p _ h=>by omega,fun op e n i l p _ h=>by omega⟩
 |f+1=>by
  obtain⟨h1,h2,h3,h4⟩:=ends f
  obtain⟨g1,g2,g3,g4⟩:=read_good f
  refine⟨fun n p hp hn h=>?_,fun n a p hp hn h=>?_,fun p hp h=>?_,fun op e n i l p hp h=>?_⟩
  ·rw[lev]
   by_cases c3:n=3
   ·subst c3
    rw[if_pos rfl]
    by_cases c:p.is tNot=true
    ·rw[if_pos c]
     have hm:=mu_is hp.1 c
     obtain⟨r,e,m⟩:=h1 3 p.adv (Ps.adv_good hp.1) (by decide) (by omega)
     rw[e]
     exact⟨_,rfl,by show r.2.mu≤_;omega⟩
    ·rw[if_neg c]
     exact h1 4 p hp (by decide) (by omega)
   ·rw[if_neg c3]
    by_cases c8:n=8
    ·rw[if_pos c8]
     exact h3 p hp (by omega)
    ·rw[if_neg c8]
     obtain⟨r,e,m⟩:=h1 (n+1) p hp (by omega) (by omega)
     rw[e]
     obtain⟨r2,e2,m2⟩:=h2 n r.1 r.2 (g1 _ _ _ hp e) (by omega) (by omega)
     exact⟨r2,e2,by omega⟩
  ·rw[levs]
   by_cases c:p.fail=true
   ·rw[if_pos c];exact⟨_,rfl,Nat.le_refl _⟩
   ·rw[if_neg c]
    cases ho:opAt n p with
    |none=>exact⟨_,rfl,Nat.le_refl _⟩
    |some op=>
     obtain⟨x,hx⟩:=opAt_is ho
     have hm:=mu_is hp.1 hx
     have hg:=Ps.adv_good hp.1
     obtain⟨r,e,m⟩:=h1 (n+1) p.adv hg (by omega) (by omega)
     show∃r,(lev f (n+1) p.adv).bind _=some r∧_
     rw[e]
     show∃r',(if n=4 then _ else _)=some r'∧_
     split
     ·exact⟨_,rfl,by show r.2.mu≤_;omega⟩
     ·obtain⟨r2,e2,m2⟩:=h2 n (.node op [a,r.1]) r.2 (g1 _ _ _ hg e) (by omega) (by omega)
      exact⟨r2,e2,by omega⟩
  ·rw[prim]
   by_cases c:p.fail=true
   ·rw[if_pos c];exact⟨_,rfl,Nat.le_refl _⟩
   ·rw[if_neg c]
    have hg:=Ps.adv_good hp.1
    split
    ·exact⟨_,rfl,mu_signed hp.1⟩
    ·split
     ·rename_i c1
      have hm:=mu_is hp.1 c1
      obtain⟨r,e,m⟩:=h1 1 p.adv hg (by decide) (by omega)
      rw[e]
      have:=mu_want (x:=tShut) (g1 _ _ _ hg e).1
      exact⟨_,rfl,by show(r.2.want tShut).mu≤_;omega⟩
     ·split
      ·rename_i c1
       have hm:=mu_is hp.1 c1
       obtain⟨r,e,m⟩:=h4 6 tShutB 2 0 [] p.adv hg (by omega)
       exact⟨r,e,by omega⟩
      ·split
       ·rename_i c1;exact⟨_,rfl,(mu_tail hp c1).1⟩
       ·split
        ·rename_i c1;exact⟨_,rfl,(mu_tail hp c1).2.1⟩
        ·split
         ·rename_i c1;exact⟨_,rfl,(mu_tail hp c1).2.2⟩
         ·split
          ·rename_i op n hfn
           obtain⟨hn,x,hx⟩:=fun_args hfn
           have hm:=mu_is hp.1 hx
           have hw:=mu_want (x:=tOpen) hg.1
           obtain⟨r,e,m⟩:=h4 op tShut n 0 [] (p.adv.want tOpen) (Ps.want_good hg) (by omega)
           exact⟨r,e,by omega⟩
          ·exact⟨_,rfl,mu_name hp.1⟩
  ·rw[argL]
   by_cases hi:i<n
   ·rw[if_pos hi]
    dsimp only
    have hq:(if 0<i then p.want tComma else p).good∧(if 0<i then p.want tComma else p).mu≤p.mu:=by
     split
     ·exact⟨Ps.want_good hp,mu_want hp.1⟩
     ·exact⟨hp,Nat.le_refl _⟩
    generalize(if 0<i then p.want tComma else p)=p1 at hq ⊢
    by_cases c:p1.fail=true
    ·rw[if_pos c]
     have:=mu_want (x:=e) hq.1.1
     exact⟨_,rfl,by show(p1.want e).mu≤_;omega⟩
    ·rw[if_neg c]
     obtain⟨r,e1,m⟩:=h1 1 p1 hq.1 (by decide) (by omega)
     rw[e1]
     obtain⟨r2,e2,m2⟩:=h4 op e n (i+1) (l++[r.1]) r.2 (g1 _ _ _ hq.1 e1) (by omega)
     exact⟨r2,e2,by omega⟩
   ·rw[if_neg hi]
    exact⟨_,rfl,mu_want hp.1⟩
theorem p0_good{s:Bs8}(hs:s.length≤4096):(p0 s).adv.good:=Ps.adv_good ⟨hs,Nat.zero_le _⟩
theorem lev_total{s:Bs8}(hs:s.length≤4096):∃f x r,lev f 1 (p0 s).adv=some (x,r):=by
 obtain⟨r,e,_⟩:=(ends (20*(p0 s).adv.mu+10)).1 1 (p0 s).adv (p0_good hs) (by decide) (by omega)
 exact⟨_,r.1,r.2,e⟩
end Go.Via
set_option maxHeartbeats 2000000
namespace Go.Via
open Go Go.RowKit
def Ps.ord(p:Ps):Prop:=p.good∧p.at_+p.tl≤p.pos
theorem adv_ord{p:Ps}(h:p.ord):p.at_+p.tl≤p.adv.at_∧p.adv.ord:=by
 obtain⟨h1,h2,_⟩:=adv_pos h.1.1
 have:=h.2
 exact⟨by omega,Ps.adv_good h.1.1,h2⟩
theorem is_tl{p:Ps}{x:Bs8}(h:p.is x=true):p.tl=x.length:=by
 obtain⟨h1,h2⟩:=is_k h
 unfold Ps.tl
 rw[h2,if_neg (by omega),if_pos (by omega)]
theorem k2_tl{p:Ps}(h:p.k=2):p.tl=p.tx.length:=by
 unfold Ps.tl
 rw[if_neg (by omega),if_pos (by omega)]
theorem SgP.len{p r:Ps}{q:Rat}(h:SgP p q r)(hp:p.ord):(ratS q).length+11*p.at_≤11*r.at_∧r.ord:=by
 have key:∀{p:Ps} {q u:Rat},p.ord→p.k=2→ratTok p.tx=some q→szQ u≤szQ q→(ratS u).length+11*p.at_≤11*p.adv.at_:=fun {p q u} hp hk hq hu=>by
  have h1:=ratTok_sz (hp.1.2.1 hk) hq
  have h2:=ratS_len u
  have h3:=(adv_ord hp).1
  rw[k2_tl hk] at h3
  have h4:1≤p.tx.length:=by
   have h5:=hp.1.2.1 hk
   cases hx:p.tx with
   |nil=>rw[hx] at h5;cases h5
   |cons c l=>simp
  omega
 cases h with
 |pos hf hk hq=>exact⟨key hp hk hq (Nat.le_refl _),(adv_ord hp).2⟩
 |neg hi hk hq=>
  obtain⟨h1,h2⟩:=adv_ord hp
  have:=key h2 hk hq (szQ_neg (Nat.le_refl _))
  exact⟨by omega,(adv_ord h2).2⟩
theorem node_len{op:Nat}{x y:XT}{n:Nat}{p:Ps}(ho:opAt n p=some op){b c:Nat}(hx:∀lv,(txt x lv).length≤b)(hy:∀lv,(txt y lv).length≤c):∀lv,(txt (.node op [x,y]) lv).length≤b+c+10:=fun lv=>by
 obtain⟨g,hg1,hg2⟩:=Option.map_eq_some_iff.1 (show(opsT.find? _).map (·.2.1)=some op from ho)
 have hgm:=List.mem_of_find?_eq_some hg1
 have hf:∃f,opsT.find? (fun f=>decide ((f.2.1:Int)=((op:Nat):Int)))=some f:=by
  have hall:∀g∈opsT,(opsT.find? (fun f=>decide ((f.2.1:Int)=((g.2.1:Nat):Int)))).isSome=true:=by decide
  have:=hall g hgm
  rw[hg2] at this
  exact Option.isSome_iff_exists.1 this
 obtain⟨f,hf⟩:=hf
 have hl:=ops_len (List.mem_of_find?_eq_some hf)
 have a3:=hx 3
 have a4:=hx (if f.2.2=4 then 5 else f.2.2)
 have b4:=hy (f.2.2+1)
 unfold XT.node
 rw[txt,hf]
 dsimp only
 rw[txtAt,txtAt,txtAt,txtAt]
 split
 ·split
  ·simp only[List.length_append,sNot,List.length_cons,List.length_nil];omega
  ·simp only[List.length_append,List.length_cons,List.length_nil];omega
 ·split
  ·simp only[List.length_append,sNot,List.length_cons,List.length_nil];omega
  ·simp only[List.length_append,List.length_cons,List.length_nil];omega
noncomputable def sumT(l:List XT):Nat:=((txtLs l).map fun t=>t.length+2).sum
theorem sumT_snoc(l:List XT)(y:XT):sumT (l++[y])=sumT l+((txt y 1).length+2):=by
 unfold sumT
 induction l with
 |nil=>simp[txtLs]
 |cons x l ih=>rw[List.cons_append,txtLs,txtLs,List.map_cons,List.map_cons,List.sum_cons,List.sum_cons,ih];omega
def hdO(op:Nat):Nat:=if op=6 then 2 else 12
theorem call_len{op:Nat}(ho:op=6∨∃g∈funT,g.2.1=op)(l:List XT)(lv:Nat):(txt (.node op l) lv).length≤sumT l+hdO op:=by
 have hj:=joinC_len (txtLs l)
 unfold sumT hdO
 rcases ho with rfl|⟨g,hg,rfl⟩
 ·have h1:opsT.find? (fun f=>decide ((f.2.1:Int)=((6:Nat):Int)))=none:=by decide
  unfold XT.node
  rw[txt,h1]
  dsimp only
  rw[if_neg (by decide),if_neg (by decide),if_neg (by decide),if_neg (by decide),if_pos (by decide),if_pos rfl]
  simp only[List.length_append,List.length_cons,List.length_nil];omega
 ·have hall:∀g∈funT,opsT.find? (fun f=>decide ((f.2.1:Int)=((g.2.1:Nat):Int)))=none∧((g.2.1:Nat):Int)≠1∧((g.2.1:Nat):Int)≠2∧((g.2.1:Nat):Int)≠3∧((g.2.1:Nat):Int)≠4∧((g.2.1:Nat):Int)≠5∧((g.2.1:Nat):Int)≠6∧(funT.find? (fun f=>decide ((f.2.1:Int)=((g.2.1:Nat):Int))))=some g:=by decide
  obtain⟨h1,n1,n2,n3,n4,n5,n6,h2⟩:=hall g hg
  have hl:=fun_len hg
  unfold XT.node
  rw[txt,h1]
  dsimp only
  rw[if_neg n1,if_neg n4,if_neg n3,if_neg n5,if_neg n6,if_neg n2,h2,if_neg (by omega)]
  simp only[List.length_append,List.length_cons,List.length_nil];omega
theorem leaf_none(o:Int)(h:o=1∨o=2∨o=3∨o=4∨o=5):opsT.find? (fun f=>decide ((f.2.1:Int)=o))=none:=by
 rcases h with rfl|rfl|rfl|rfl|rfl<;>decide
theorem txt_num(q:Rat)(lv:Nat):txt (.numd 1 q) lv=ratS q:=by
 have:=leaf_none ((1:Nat):Int) (.inl rfl)
 unfold XT.numd
 rw[txt,this]
 rfl
def Kd.lenC(p r:Ps)(x:XT):Kd→Prop
 | .lv _=>∀lv,(txt x lv).length+11*p.at_≤11*r.at_
 | .pv=>∀lv,(txt x lv).length+11*p.at_≤11*r.at_
 | .sv _ a=>p.at_≤r.at_∧∀b,(∀lv,(txt a lv).length≤b)→∀lv,(txt x lv).length+11*p.at_≤b+11*r.at_
 | .av op _ _ i l=>(op=6∨∃g∈funT,g.2.1=op)→∀lv,(txt x lv).length+11*p.at_≤sumT l+hdO op+(if i=0 then 2 else 0)+11*r.at_
theorem der_len{k:Kd}{p r:Ps}{x:XT}(h:Der k p x r):p.ord→k.lenC p r x∧r.ord:=by
 induction h with
 | @not p r x h d ih=>
   intro hp
   obtain⟨h1,h2⟩:=adv_ord hp
   rw[is_tl h] at h1
   obtain⟨a,b⟩:=ih h2
   refine⟨fun lv=>?_,b⟩
   have hf:opsT.find? (fun f=>decide ((f.2.1:Int)=((25:Nat):Int)))=some ([110,111,116],25,3):=by decide
   have a3:=a 3
   replace h1:p.at_+3≤p.adv.at_:=h1
   unfold XT.node
   rw[txt,hf]
   dsimp only
   rw[txtAt]
   split<;>(simp only[if_true,List.length_append,sNot,List.length_cons,List.length_nil];omega)
 |l3 h d ih=>intro hp;exact ih hp
 |l8 d ih=>intro hp;exact ih hp
 |ln h3 h8 d e ih ih2=>
  intro hp
  obtain⟨a,b⟩:=ih hp
  obtain⟨c,f⟩:=ih2 b
  refine⟨fun lv=>?_,f⟩
  rename_i n p q r a' x
  have h0:=a 0
  have:=c.2 (11*q.at_-11*p.at_) (fun lv=>by have:=a lv;omega) lv
  omega
 |stop hf h=>intro hp;exact⟨⟨Nat.le_refl _,fun b hb lv=>by have:=hb lv;omega⟩,hp⟩
 | @go n op p q r x y z h4 hf h d e ih ih2=>
   intro hp
   obtain⟨h1,h2⟩:=adv_ord hp
   obtain⟨w,hw⟩:=opAt_is h
   have h5:1≤p.tl:=by
    rw[is_tl hw]
    obtain⟨g,hg1,_⟩:=Option.map_eq_some_iff.1 (show(opsT.find? _).map (·.2.1)=some op from h)
    have hall:∀g∈opsT,1≤g.1.length:=by decide
    have h6:=List.find?_some hg1
    simp only[Bool.and_eq_true] at h6
    rw[←(is_k hw).2,(is_k h6.2).2]
    exact hall g (List.mem_of_find?_eq_some hg1)
   obtain⟨a,b⟩:=ih h2
   obtain⟨c,f⟩:=ih2 b
   have a0:=a 0
   refine⟨⟨by have:=c.1;omega,fun bb hb lv=>?_⟩,f⟩
   have:=c.2 (bb+(11*q.at_-11*p.adv.at_)+10) (node_len (y:=y) h hb fun lv=>by have:=a lv;omega) lv
   omega
 | @once op p q x y hf h d ih=>
   intro hp
   obtain⟨h1,h2⟩:=adv_ord hp
   obtain⟨w,hw⟩:=opAt_is h
   have h5:1≤p.tl:=by
    rw[is_tl hw]
    obtain⟨g,hg1,_⟩:=Option.map_eq_some_iff.1 (show(opsT.find? _).map (·.2.1)=some op from h)
    have hall:∀g∈opsT,1≤g.1.length:=by decide
    have h6:=List.find?_some hg1
    simp only[Bool.and_eq_true] at h6
    rw[←(is_k hw).2,(is_k h6.2).2]
    exact hall g (List.mem_of_find?_eq_some hg1)
   obtain⟨a,b⟩:=ih h2
   have a0:=a 0
   refine⟨⟨by omega,fun bb hb lv=>?_⟩,b⟩
   have:=node_len (y:=y) h hb (c:=11*q.at_-11*p.adv.at_) (fun lv=>by have:=a lv;omega) lv
   omega
 |num h=>intro hp;obtain⟨a,b⟩:=h.len hp;exact⟨fun lv=>by rw[txt_num];exact a,b⟩
 |paren h d hs ih=>
  intro hp
  obtain⟨h1,h2⟩:=adv_ord hp
  obtain⟨a,b⟩:=ih h2
  obtain⟨c,f⟩:=adv_ord b
  exact⟨fun lv=>by have:=a lv;omega,f⟩
 |inter h d ih=>
  intro hp
  obtain⟨h1,h2⟩:=adv_ord hp
  rw[is_tl h] at h1
  obtain⟨a,b⟩:=ih h2
  refine⟨fun lv=>?_,b⟩
  have:=a (.inl rfl) lv
  rename_i p r x
  replace h1:p.at_+1≤p.adv.at_:=h1
  have e:sumT []=0:=rfl
  rw[e,if_pos rfl] at this
  have e2:hdO 6=2:=rfl
  omega
 | @point p q r a b h ho d hc e hs=>
   intro hp
   obtain⟨h1,h2⟩:=adv_ord hp
   obtain⟨h3,h4⟩:=adv_ord h2
   obtain⟨a1,b1⟩:=d.len h4
   obtain⟨h5,h6⟩:=adv_ord b1
   obtain⟨a2,b2⟩:=e.len h6
   obtain⟨h7,h8⟩:=adv_ord b2
   rw[is_tl h] at h1
   replace h1:p.at_+5≤p.adv.at_:=h1
   refine⟨fun lv=>?_,h8⟩
   have hn:=leaf_none ((2:Nat):Int) (.inr (.inl rfl))
   unfold XT.node
   rw[txt,hn]
   dsimp only
   rw[if_neg (by decide),if_neg (by decide),if_neg (by decide),if_neg (by decide),if_neg (by decide),if_pos (by decide),txtLs,txtLs,txtLs,txt_num,txt_num,joinC,joinC]
   simp only[List.length_append,sPoint,List.length_cons,List.length_nil];omega
 | @object p q h ho hk hq hi hs=>
   intro hp
   obtain⟨h1,h2⟩:=adv_ord hp
   obtain⟨h3,h4⟩:=adv_ord h2
   obtain⟨a1,b1⟩:=(SgP.pos (is_ok ho▸(by rw[adv_fail,adv_fail,is_ok h])) hk hq).len h4
   obtain⟨h7,h8⟩:=adv_ord b1
   rw[is_tl h] at h1
   replace h1:p.at_+6≤p.adv.at_:=h1
   refine⟨fun lv=>?_,h8⟩
   have hn:=leaf_none ((3:Nat):Int) (.inr (.inr (.inl rfl)))
   unfold XT.numd
   rw[txt,hn]
   dsimp only
   rw[if_neg (by decide),if_neg (by decide),if_pos (by decide)]
   have e:NumV.rat (.q q)=q:=rfl
   rw[e]
   simp only[List.length_append,sObject,List.length_cons,List.length_nil];omega
 | @zone p h ho hk hs=>
   intro hp
   obtain⟨h1,h2⟩:=adv_ord hp
   obtain⟨h3,h4⟩:=adv_ord h2
   obtain⟨h5,h6⟩:=adv_ord h4
   obtain⟨h7,h8⟩:=adv_ord h6
   rw[is_tl h] at h1
   replace h1:p.at_+4≤p.adv.at_:=h1
   have htl:p.adv.adv.tl=(quoS p.adv.adv.tx).length+2:=by unfold Ps.tl;rw[if_pos hk]
   rw[htl] at h5
   refine⟨fun lv=>?_,h8⟩
   have hn:=leaf_none ((5:Nat):Int) (.inr (.inr (.inr (.inr rfl))))
   unfold XT.named
   rw[txt,hn]
   dsimp only
   rw[if_neg (by decide),if_neg (by decide),if_neg (by decide),if_pos (by decide)]
   simp only[List.length_append,sZone,List.length_cons,List.length_nil];omega
 | @call p r x g hg h ho d ih=>
   intro hp
   obtain⟨h1,h2⟩:=adv_ord hp
   obtain⟨h3,h4⟩:=adv_ord h2
   obtain⟨a,b⟩:=ih h4
   rw[is_tl h] at h1
   rw[is_tl ho] at h3
   have hall:∀g∈funT,1≤g.1.length:=by decide
   have h5:=hall g hg
   refine⟨fun lv=>?_,b⟩
   have:=a (.inr ⟨g,hg,rfl⟩) lv
   replace h3:p.adv.at_+1≤p.adv.adv.at_:=h3
   have e:sumT []=0:=rfl
   rw[e,if_pos rfl] at this
   have e2:hdO g.2.1≤12:=by unfold hdO;split<;>omega
   omega
 | @name p hf hk hr hl _ _=>
   intro hp
   obtain⟨h1,h2⟩:=adv_ord hp
   have htl:p.tl=p.tx.length:=by unfold Ps.tl;rw[if_neg (by omega),if_pos (by omega)]
   rw[htl] at h1
   refine⟨fun lv=>?_,h2⟩
   have hn:=leaf_none ((4:Nat):Int) (.inr (.inr (.inr (.inl rfl))))
   unfold XT.named
   rw[txt,hn]
   dsimp only
   rw[if_neg (by decide),if_pos (by decide)]
   omega
 | @more op n i e l p p1 q r x y hi hc h1 d a ih ih2=>
   intro hp
   have hp1:p1.ord∧(if 0<i then p.at_+1≤p1.at_ else p.at_≤p1.at_):=by
    rw[h1]
    by_cases h0:0<i
    ·rw[if_pos h0,if_pos h0]
     obtain⟨a1,a2⟩:=adv_ord hp
     rw[is_tl (hc h0)] at a1
     exact⟨a2,a1⟩
    ·rw[if_neg h0,if_neg h0];exact⟨hp,Nat.le_refl _⟩
   obtain⟨a1,b1⟩:=ih hp1.1
   obtain⟨a2,b2⟩:=ih2 b1
   refine⟨fun ho lv=>?_,b2⟩
   have h3:=a2 ho lv
   have h4:=a1 1
   rw[sumT_snoc,if_neg (Nat.succ_ne_zero i)] at h3
   have h5:=hp1.2
   by_cases h0:0<i
   ·rw[if_pos h0] at h5
    rw[if_neg (by omega)]
    omega
   ·rw[if_neg h0] at h5
    rw[if_pos (by omega)]
    omega
 | @done op n i e l p hi he=>
   intro hp
   obtain⟨a1,a2⟩:=adv_ord hp
   refine⟨fun ho lv=>?_,a2⟩
   have:=call_len ho l lv
   omega
theorem p0_ord{s:Bs8}(hs:s.length≤4096):(p0 s).adv.ord:=
 ⟨p0_good hs,(adv_pos (p:=p0 s) ⟨hs,Nat.zero_le _⟩).2.1⟩
end Go.Via
set_option maxHeartbeats 2000000
namespace Go.Via
open Go Go.RowKit
def tokOf:Bs8→Nat×Bs8×Nat
 |[]=>(0,[],0)
 |c::r=>if isLet c=true then(1,(c::r).takeWhile wch,((c::r).takeWhile wch).length) else if isDig c=true then(2,(c::r).take (numLen (c::r)),numLen (c::r))
  else if c=34 then(match quo r with|some (n,k)=>if zoneL n=true then(3,n,k+2) else(5,[],0)|none=>(5,[],0))
  else if symL.contains c=true then(4,[c],1) else(5,[],0)
theorem adv_tok(p:Ps):p.adv.k=(tokOf (p.s.drop p.skip)).1∧p.adv.tx=(tokOf (p.s.drop p.skip)).2.1∧p.adv.s.drop p.adv.pos=(p.s.drop p.skip).drop (tokOf (p.s.drop p.skip)).2.2:=by
 rw[Ps.adv_s]
 unfold Ps.adv
 cases hd:p.s.drop p.skip with
 |nil=>exact⟨rfl,rfl,by show p.s.drop p.skip=_;rw[hd];rfl⟩
 |cons c r=>
  dsimp only
  rw[tokOf]
  by_cases h1:isLet c=true
  ·rw[if_pos h1,if_pos h1]
   refine⟨rfl,?_,?_⟩
   ·show(p.s.drop p.skip).take _=_
    rw[hd]
    exact(List.prefix_iff_eq_take.1 (List.takeWhile_prefix wch)).symm
   ·show p.s.drop (p.skip+_)=_
    rw[←List.drop_drop,hd]
  ·rw[if_neg h1,if_neg h1]
   by_cases h2:isDig c=true
   ·rw[if_pos h2,if_pos h2]
    refine⟨rfl,?_,?_⟩
    ·show(p.s.drop p.skip).take _=_
     rw[hd]
    ·show p.s.drop (p.skip+_)=_
     rw[←List.drop_drop,hd]
   ·rw[if_neg h2,if_neg h2]
    by_cases h3:c=34
    ·rw[if_pos h3,if_pos h3]
     have hr:p.s.drop (p.skip+1)=r:=by rw[←List.drop_drop,hd];rfl
     unfold Ps.quoted
     dsimp only
     rw[hr]
     cases hq:quo r with
     |none=>exact⟨rfl,rfl,by show p.s.drop p.skip=_;rw[hd];rfl⟩
     |some x=>
      obtain⟨n,k⟩:=x
      dsimp only
      by_cases hz:zoneL n=true
      ·rw[if_pos hz,if_pos hz]
       refine⟨rfl,rfl,?_⟩
       show p.s.drop (p.skip+k+2)=_
       rw[show p.skip+k+2=p.skip+(k+2) by omega,←List.drop_drop,hd]
      ·rw[if_neg hz,if_neg hz]
       exact⟨rfl,rfl,by show p.s.drop p.skip=_;rw[hd];rfl⟩
    ·rw[if_neg h3,if_neg h3]
     by_cases h4:symL.contains c=true
     ·rw[if_pos h4,if_pos h4]
      refine⟨rfl,?_,?_⟩
      ·show(p.s.drop p.skip).take 1=_
       rw[hd];rfl
      ·show p.s.drop (p.skip+1)=_
       rw[←List.drop_drop,hd]
     ·rw[if_neg h4,if_neg h4]
      refine⟨rfl,?_,?_⟩
      ·show(p.s.drop p.skip).take 0=_
       rfl
      ·show p.s.drop (p.skip+0)=_
       rw[Nat.add_zero,hd];rfl
section
variable{m:Bs8}
theorem tw_app2{f:UInt8→Bool}(hm:∀c,m.head? =some c→f c=false):∀l:Bs8,(l++m).takeWhile f=l.takeWhile f
 |[]=>by
  cases m with
  |nil=>rfl
  |cons c m=>rw[List.nil_append,List.takeWhile_cons_of_neg (by rw[hm c rfl];simp)];rfl
 |c::l=>by
  rw[List.cons_append]
  by_cases hc:f c=true
  ·rw[List.takeWhile_cons_of_pos hc,List.takeWhile_cons_of_pos hc,tw_app2 hm l]
  ·rw[List.takeWhile_cons_of_neg hc,List.takeWhile_cons_of_neg hc]
theorem dgs_app(hb:brk m)(l:Bs8):dgs (l++m)=dgs l:=by unfold dgs;rw[tw_app2 (fun c hc=>(wch_parts (hb c hc).1).2)]
theorem numLen_app(hb:brk m)(l:Bs8):numLen (l++m)=numLen l:=by
 unfold numLen
 rw[dgs_app hb,List.drop_append_of_le_length (dgs_le l)]
 cases hd:l.drop (dgs l) with
 |nil=>
  rw[List.nil_append]
  split
  ·exact absurd rfl (hb 47 rfl).2
  ·rfl
 |cons x r=>
  rw[List.cons_append]
  cases r with
  |nil=>
   cases m with
   |nil=>rfl
   |cons y m=>
    show(match x::y::m with|47::c::r=>if isDig c=true then dgs l+1+dgs (c::r) else dgs l|_=>dgs l)=_
    split
    ·rename_i c r he
     simp only[List.cons.injEq] at he
     rw[←he.2.1,if_neg (by rw[(wch_parts (hb y rfl).1).2];simp)]
     split
     ·rename_i he2;simp at he2
     ·rfl
    ·split
     ·rename_i he2;simp at he2
     ·rfl
  |cons y r=>
   show(match x::y::(r++m) with|47::c::r=>if isDig c=true then dgs l+1+dgs (c::r) else dgs l|_=>dgs l)=_
   split
   ·rename_i c r2 he
    simp only[List.cons.injEq] at he
    obtain⟨rfl,rfl,rfl⟩:=he
    show(if isDig y=true then dgs l+1+dgs (y::r++m) else dgs l)=_
    rw[dgs_app hb];rfl
   ·rename_i hno
    split
    ·rename_i c r2 he
     simp only[List.cons.injEq] at he
     exact absurd (by rw[he.1]) (hno y (r++m))
    ·rfl
theorem quo_no:∀k:Bs8,(∀c∈k,c≠34)→quo k=none
 |[],_=>rfl
 |[c],h=>by rw[quo,if_neg (h c (List.mem_cons_self ..))]
 |c::d::k,h=>by rw[quo,if_neg (h c (List.mem_cons_self ..)),quo_no (d::k) fun e he=>h e (List.mem_cons_of_mem _ he)];rfl
theorem quo_app(hq:∀c∈m,c≠34):∀l:Bs8,quo (l++m)=quo l
 |[]=>quo_no m hq
 |[c]=>by
  have h0:=quo_no m hq
  cases m with
  |nil=>rfl
  |cons d m=>
   have hd:=hq d (List.mem_cons_self ..)
   have e1:quo [c]=if c=34 then some ([],0) else none:=by rw[quo]
   have e2:quo (c::d::m)=if c=34 then(if d=34 then(quo m).map fun x=>(34::x.1,x.2+2) else some ([],0)) else(quo (d::m)).map fun x=>(c::x.1,x.2+1):=by rw[quo]
   show quo (c::d::m)=_
   rw[e1,e2,h0,if_neg hd];rfl
 |c::d::l=>by
  have h1:=quo_app hq l
  have h2:=quo_app hq (d::l)
  rw[List.cons_append] at h2
  rw[List.cons_append,List.cons_append,quo,quo,h1,h2]
theorem tokOf_app(hb:brk m)(hq:∀c∈m,c≠34){l:Bs8}(hl:l≠[]):tokOf (l++m)=tokOf l:=by
 cases l with
 |nil=>exact absurd rfl hl
 |cons c r=>
  have h1:=tw_app2 (f:=wch) (fun c hc=>(hb c hc).1) (c::r)
  have h2:=numLen_app hb (c::r)
  rw[List.cons_append] at h1 h2
  rw[List.cons_append,tokOf,tokOf,h1,h2,quo_app hq]
  have h3:(c::(r++m)).take (numLen (c::r))=(c::r).take (numLen (c::r)):=by
   rw[←List.cons_append,List.take_append_of_le_length (numLen_le _)]
  rw[h3]
theorem tokOf_len(l:Bs8):(tokOf l).2.2≤l.length:=by
 cases l with
 |nil=>exact Nat.le_refl _
 |cons c r=>
  rw[tokOf]
  split
  ·exact(List.takeWhile_prefix wch).length_le
  ·split
   ·exact numLen_le _
   ·split
    ·split
     ·rename_i n k hq
      have:=quo_lt hq
      split
      ·show k+2≤(c::r).length
       rw[List.length_cons];omega
      ·exact Nat.zero_le _
     ·exact Nat.zero_le _
    ·split
     ·show 1≤(c::r).length
      rw[List.length_cons];omega
     ·exact Nat.zero_le _
end
theorem skip_split(p:Ps):∃g,(∀c∈g,spL.contains c=true)∧p.s.drop p.pos=g++p.s.drop p.skip∧∀c,(p.s.drop p.skip).head? =some c→spL.contains c=false:=by
 have key:∀l:Bs8,(∀c∈l.takeWhile spL.contains,spL.contains c=true)∧l=l.takeWhile spL.contains++l.drop (l.takeWhile spL.contains).length∧∀c,(l.drop (l.takeWhile spL.contains).length).head? =some c→spL.contains c=false:=fun l=>by
  induction l with
  |nil=>exact⟨fun c h=>(by cases h),rfl,fun c h=>(by cases h)⟩
  |cons c l ih=>
   by_cases hc:spL.contains c=true
   ·rw[List.takeWhile_cons_of_pos hc]
    refine⟨fun d hd=>?_,?_,ih.2.2⟩
    ·rcases List.mem_cons.1 hd with rfl|hd
     ·exact hc
     ·exact ih.1 d hd
    ·rw[List.cons_append];exact congrArg _ ih.2.1
   ·rw[List.takeWhile_cons_of_neg hc]
    exact⟨fun d hd=>(by cases hd),rfl,fun d hd=>by
 have:c=d:=by simpa using hd
 rw[←this];simpa using hc⟩
 obtain⟨h1,h2,h3⟩:=key (p.s.drop p.pos)
 unfold Ps.skip
 rw[←List.drop_drop]
 exact⟨_,h1,h2,h3⟩
theorem skip_of{q:Ps}{g l:Bs8}(h:q.s.drop q.pos=g++l)(hg:∀c∈g,spL.contains c=true)(hl:∀c,l.head? =some c→spL.contains c=false):q.s.drop q.skip=l:=by
 unfold Ps.skip
 rw[←List.drop_drop,h,tw_stop hg hl,List.drop_left]
def Co(m:Bs8)(p q:Ps):Prop:=p.fail=false∧q.fail=false∧
 ((p.k≠0∧p.k=q.k∧p.tx=q.tx∧q.s.drop q.pos=p.s.drop p.pos++m)∨(p.k=0∧(q.k,q.tx)=(4,tShut)∧q.adv.k=0))
section
variable{m:Bs8}
theorem Co.adv0(hb:brk m)(hq:∀c∈m,c≠34)(hm:Lex m [(4,tShut),(0,[])]){p q:Ps}(hp:p.fail=false)(hf:q.fail=false){g:Bs8}(hg:∀c∈g,spL.contains c=true)(h:q.s.drop q.pos=g++(p.s.drop p.pos++m)):Co m p.adv q.adv:=by
 refine⟨by rw[adv_fail,hp],by rw[adv_fail,hf],?_⟩
 obtain⟨g2,hg2,hs,hh⟩:=skip_split p
 by_cases hl:p.s.drop p.skip=[]
 ·right
  obtain⟨a1,_,_⟩:=adv_tok p
  rw[hl] at a1 hs
  rw[hs,List.append_nil] at h
  have hx:=Lex.sps hg (Lex.sps hg2 hm) q h
  exact⟨a1,hx.1,congrArg Prod.fst hx.2.1⟩
 ·left
  rw[hs] at h
  have hsk:q.s.drop q.skip=p.s.drop p.skip++m:=skip_of (g:=g++g2) (by rw[h];simp) (fun c hc=>by
 rcases List.mem_append.1 hc with hc|hc
 ·exact hg c hc
 ·exact hg2 c hc) fun c hc=>by
   cases hd:p.s.drop p.skip with
   |nil=>exact absurd hd hl
   |cons d r=>
    rw[hd] at hc hh
    exact hh c hc
  obtain⟨a1,a2,a3⟩:=adv_tok p
  obtain⟨b1,b2,b3⟩:=adv_tok q
  rw[hsk,tokOf_app hb hq hl] at b1 b2 b3
  refine⟨?_,by rw[a1,b1],by rw[a2,b2],?_⟩
  ·rw[a1]
   cases hd:p.s.drop p.skip with
   |nil=>exact absurd hd hl
   |cons c r=>
    rw[tokOf]
    split
    ·simp
    ·split
     ·simp
     ·split
      ·split
       ·split<;>simp
       ·simp
      ·split<;>simp
  ·rw[b3,a3,List.drop_append_of_le_length (tokOf_len _)]
theorem Co.adv{p q:Ps}(hb:brk m)(hq:∀c∈m,c≠34)(hm:Lex m [(4,tShut),(0,[])])(h:Co m p q)(hk:p.tokd):Co m p.adv q.adv:=by
 obtain⟨h1,h2,⟨_,_,_,h3⟩|⟨h3,_⟩⟩:=h
 ·exact Co.adv0 hb hq hm h1 h2 (g:=[]) (fun c hc=>by cases hc) h3
 ·rcases hk with h|h|h|h<;>rw[h3] at h<;>cases h
theorem Co.is_t{p q:Ps}(h:Co m p q){x:Bs8}(hi:p.is x=true):q.is x=true:=by
 obtain⟨h1,h2,⟨_,h3,h4,_⟩|⟨h3,_⟩⟩:=h
 ·unfold Ps.is at hi ⊢
  rw[h1] at hi
  rw[h2,←h3,←h4];exact hi
 ·rcases(is_k hi).1 with h|h<;>rw[h3] at h<;>cases h
theorem Co.is_f{p q:Ps}(h:Co m p q){x:Bs8}(hx:x≠tShut)(hi:p.is x=false):q.is x=false:=by
 obtain⟨h1,h2,⟨_,h3,h4,_⟩|⟨h3,h4,_⟩⟩:=h
 ·unfold Ps.is at hi ⊢
  rw[h1] at hi
  rw[h2,←h3,←h4];exact hi
 ·rw[is_tk h2 h4]
  unfold tIs
  rw[beq_false_of_ne (fun e=>hx e.symm),Bool.and_false]
theorem Co.op{p q:Ps}(h:Co m p q)(n:Nat):opAt n q=opAt n p:=by
 unfold opAt
 congr 1
 have:∀o∈opsT,(o.2.2==n&&q.is o.1)=(o.2.2==n&&p.is o.1):=fun o ho=>by
  cases hp:p.is o.1 with
  |true=>rw[h.is_t hp]
  |false=>
   have hne:∀o∈opsT,o.1≠tShut:=by decide
   rw[h.is_f (hne o ho) hp]
 generalize opsT=L at this
 induction L with
 |nil=>rfl
 |cons o L ih=>rw[List.find?_cons,List.find?_cons,this o (List.mem_cons_self ..),ih fun o ho=>this o (List.mem_cons_of_mem _ ho)]
theorem Co.fn{p q:Ps}(h:Co m p q):funAt q=funAt p:=by
 unfold funAt
 congr 1
 have:∀o∈funT,q.is o.1=p.is o.1:=fun o ho=>by
  cases hp:p.is o.1 with
  |true=>rw[h.is_t hp]
  |false=>
   have hne:∀o∈funT,o.1≠tShut:=by decide
   rw[h.is_f (hne o ho) hp]
 generalize funT=L at this
 induction L with
 |nil=>rfl
 |cons o L ih=>rw[List.find?_cons,List.find?_cons,this o (List.mem_cons_self ..),ih fun o ho=>this o (List.mem_cons_of_mem _ ho)]
theorem Co.k{p q:Ps}(h:Co m p q)(hk:p.tokd):q.k=p.k∧q.tx=p.tx:=by
 obtain⟨h1,h2,⟨_,h3,h4,_⟩|⟨h3,_⟩⟩:=h
 ·exact⟨h3.symm,h4.symm⟩
 ·rcases hk with h|h|h|h<;>rw[h3] at h<;>cases h
def Kd.reads:Kd→Ps→XT→Ps→Prop
 | .lv n=>LV n
 | .sv n a=>SV n a
 | .pv=>PV
 | .av op e n i l=>AV op e n i l
theorem SgP.co(hb:brk m)(hq:∀c∈m,c≠34)(hm:Lex m [(4,tShut),(0,[])]){p r q:Ps}{u:Rat}(h:SgP p u r)(hc:Co m p q):∃r',q.signed=(.numd 1 u,r')∧Co m r r'∧(q.k==2||q.is tMinus)=true:=by
 cases h with
 |pos hf hk hr=>
  have ht:p.tokd:= .inr (.inl hk)
  obtain⟨e1,e2⟩:=hc.k ht
  rw[hk] at e1
  refine⟨q.adv,?_,hc.adv hb hq hm ht,by rw[e1];rfl⟩
  have hi:¬q.is tMinus=true:=fun c=>by rcases(is_k c).1 with h|h<;>rw[e1] at h<;>cases h
  unfold Ps.signed Ps.number
  rw[if_neg hi,hc.2.1,e1,e2,hr]
  rfl
 |neg hi hk hr=>
  have ht:=is_tokd hi
  have hc2:=hc.adv hb hq hm ht
  have ht2:p.adv.tokd:= .inr (.inl hk)
  obtain⟨e1,e2⟩:=hc2.k ht2
  rw[hk] at e1
  have hi2:=hc.is_t hi
  refine⟨q.adv.adv,?_,hc2.adv hb hq hm ht2,by rw[hi2,Bool.or_true]⟩
  unfold Ps.signed Ps.number
  rw[if_pos hi2,hc2.2.1,e1,e2,hr]
  rfl
theorem want_is{p:Ps}{x:Bs8}(h:p.is x=true):p.want x=p.adv:=by unfold Ps.want;rw[if_pos h]
theorem der_co(hb:brk m)(hq:∀c∈m,c≠34)(hm:Lex m [(4,tShut),(0,[])]){k:Kd}{p r:Ps}{x:XT}(h:Der k p x r):∀q,Co m p q→∃r',k.reads q x r'∧Co m r r':=by
 induction h with
 |not h d ih=>
  intro q hc
  obtain⟨r',a,b⟩:=ih _ (hc.adv hb hq hm (is_tokd h))
  exact⟨r',LV.not (hc.is_t h) a,b⟩
 |l3 h d ih=>
  intro q hc
  obtain⟨r',a,b⟩:=ih _ hc
  exact⟨r',LV.l3 (hc.is_f (by decide) h) a,b⟩
 |l8 d ih=>
  intro q hc
  obtain⟨r',a,b⟩:=ih _ hc
  exact⟨r',LV.l8 a,b⟩
 |ln h3 h8 d e ih ih2=>
  intro q hc
  obtain⟨r',a,b⟩:=ih _ hc
  obtain⟨r2,c,f⟩:=ih2 _ b
  exact⟨r2,LV.ln h3 h8 a c,f⟩
 |stop hf h=>
  intro q hc
  exact⟨q,SV.stop hc.2.1 (by rw[hc.op,h]),hc⟩
 |go h4 hf h d e ih ih2=>
  intro q hc
  obtain⟨w,hw⟩:=opAt_is h
  obtain⟨r',a,b⟩:=ih _ (hc.adv hb hq hm (is_tokd hw))
  obtain⟨r2,c,f⟩:=ih2 _ b
  exact⟨r2,SV.go h4 hc.2.1 (by rw[hc.op,h]) a c,f⟩
 |once hf h d ih=>
  intro q hc
  obtain⟨w,hw⟩:=opAt_is h
  obtain⟨r',a,b⟩:=ih _ (hc.adv hb hq hm (is_tokd hw))
  exact⟨r',SV.once hc.2.1 (by rw[hc.op,h]) a,b⟩
 |num h=>
  intro q hc
  obtain⟨r',a,b,c⟩:=h.co hb hq hm hc
  have:=PV.num hc.2.1 (t:=(q.k,q.tx)) rfl (by rw[←is_tk hc.2.1 (t:=(q.k,q.tx)) rfl];exact c)
  rw[a] at this
  exact⟨r',this,b⟩
 |paren h d hs ih=>
  intro q hc
  obtain⟨r',a,b⟩:=ih _ (hc.adv hb hq hm (is_tokd h))
  have:=PV.paren (hc.is_t h) a
  rw[want_is (b.is_t hs)] at this
  exact⟨_,this,b.adv hb hq hm (is_tokd hs)⟩
 |inter h d ih=>
  intro q hc
  obtain⟨r',a,b⟩:=ih _ (hc.adv hb hq hm (is_tokd h))
  exact⟨r',PV.inter (hc.is_t h) a,b⟩
 |point h ho d hcm e hs=>
  intro q hc
  have c1:=hc.adv hb hq hm (is_tokd h)
  have c2:=c1.adv hb hq hm (is_tokd ho)
  obtain⟨r1,a1,b1,_⟩:=d.co hb hq hm c2
  have c3:=b1.adv hb hq hm (is_tokd hcm)
  obtain⟨r2,a2,b2,_⟩:=e.co hb hq hm c3
  have:=PV.point (hc.is_t h)
  unfold Ps.pointX at this
  dsimp only at this
  rw[want_is (c1.is_t ho),a1] at this
  dsimp only at this
  rw[want_is (b1.is_t hcm),a2] at this
  dsimp only at this
  rw[want_is (b2.is_t hs)] at this
  exact⟨_,this,b2.adv hb hq hm (is_tokd hs)⟩
 | @object p u h ho hk hr hi hs=>
   intro q hc
   have c1:=hc.adv hb hq hm (is_tokd h)
   have c2:=c1.adv hb hq hm (is_tokd ho)
   have t2:p.adv.adv.tokd:= .inr (.inl hk)
   have c3:=c2.adv hb hq hm t2
   obtain⟨e1,e2⟩:=c2.k t2
   rw[hk] at e1
   have hn:q.adv.adv.number true=(u,q.adv.adv.adv):=by
    unfold Ps.number
    rw[c2.2.1,e1,e2,hr,if_neg (by decide)]
    show(if(true&& !idOK u)=true then _ else _)=_
    rw[hi];rfl
   have:=PV.object (hc.is_t h)
   unfold Ps.objectX at this
   dsimp only at this
   rw[want_is (c1.is_t ho),hn] at this
   dsimp only at this
   rw[want_is (c3.is_t hs)] at this
   exact⟨_,this,c3.adv hb hq hm (is_tokd hs)⟩
 | @zone p h ho hk hs=>
   intro q hc
   have c1:=hc.adv hb hq hm (is_tokd h)
   have c2:=c1.adv hb hq hm (is_tokd ho)
   have t2:p.adv.adv.tokd:= .inr (.inr (.inl hk))
   have c3:=c2.adv hb hq hm t2
   obtain⟨e1,e2⟩:=c2.k t2
   rw[hk] at e1
   have hz:=zone_tk (want_is (c1.is_t ho)) c2.2.1 e1 (want_is (c3.is_t hs))
   have h5:=PV.mk2 (PV.zone (hc.is_t h)) hz
   rw[e2] at h5
   exact⟨_,h5,c3.adv hb hq hm (is_tokd hs)⟩
 |call hg h ho d ih=>
  intro q hc
  have c1:=hc.adv hb hq hm (is_tokd h)
  obtain⟨r',a,b⟩:=ih _ (c1.adv hb hq hm (is_tokd ho))
  have e:=want_is (c1.is_t ho)
  rw[←e] at a
  exact⟨r',PV.call hg (hc.is_t h) a,b⟩
 | @name p hf hk hr hl hn hg=>
   intro q hc
   have t:p.tokd:= .inl hk
   obtain⟨e1,e2⟩:=hc.k t
   rw[hk] at e1
   have hno:∀x∈[tMinus,tOpen,tOpenB,tPoint,tObject,tZone],q.is x=false:=fun x hx=>hc.is_f (by
 have:∀x∈[tMinus,tOpen,tOpenB,tPoint,tObject,tZone],x≠tShut:=by decide
 exact this x hx) (hn x hx)
   have hN:q.name=q.adv:=by
    unfold Ps.name
    rw[hc.2.1,e1,e2,hr,if_neg (by decide),if_neg (by omega)]
   have hP:PV q (.named 4 q.tx) q.adv:=by
    refine PV.of (f:=1) (v:=(_,_)) ?_
    rw[prim,if_neg (by rw[hc.2.1];simp),e1,hno tMinus (by simp),if_neg (by decide),if_neg (by rw[hno tOpen (by simp)];simp),if_neg (by rw[hno tOpenB (by simp)];simp),
 if_neg (by rw[hno tPoint (by simp)];simp),if_neg (by rw[hno tObject (by simp)];simp),if_neg (by rw[hno tZone (by simp)];simp),hc.fn,hg]
    show some (XT.named 4 q.tx,q.name)=_
    rw[hN];rfl
   rw[e2] at hP
   exact⟨_,hP,hc.adv hb hq hm t⟩
 | @more op n i e l p p1 q1 r x y hi hcm h1 d a ih ih2=>
   intro q hc
   have h2:∃q1',(if 0<i then q.want tComma else q)=q1'∧Co m p1 q1':=by
    by_cases h0:0<i
    ·rw[if_pos h0] at h1 ⊢
     rw[want_is (hc.is_t (hcm h0)),h1]
     exact⟨_,rfl,hc.adv hb hq hm (is_tokd (hcm h0))⟩
    ·rw[if_neg h0] at h1 ⊢
     rw[h1]
     exact⟨_,rfl,hc⟩
   obtain⟨q1',e1,c1⟩:=h2
   obtain⟨r1,a1,b1⟩:=ih _ c1
   obtain⟨r2,a2,b2⟩:=ih2 _ b1
   exact⟨r2,AV.more hi e1 c1.2.1 a1 a2,b2⟩
 | @done op n i e l p hi he=>
   intro q hc
   have:=AV.done (op:=op) (e:=e) (l:=l) (p:=q) hi
   rw[want_is (hc.is_t he)] at this
   exact⟨_,this,hc.adv hb hq hm (is_tokd he)⟩
end
theorem reads_wrap{s:Bs8}{x:XT}{f:Nat}{r:Ps}(h:lev f 1 (p0 s).adv=some (x,r))(hr:r.fail=false)(hk:r.k=0){g:Bs8}(hg:∀c∈g,c=32):Reads (g++[40]++g++s++g++[41,10]) x:=by
 have hsp:∀c∈g,spL.contains c=true:=fun c hc=>by rw[hg c hc];rfl
 have hm:Lex (g++[41,10]) [(4,tShut),(0,[])]:=Lex.sps hsp (Lex.sym (by decide) (Lex.sp (by decide) Lex.nil))
 have hb:brk (g++[41,10]):=fun c hc=>by
  cases g with
  |nil=>have:c=41:=by simpa using hc.symm
        subst this;decide
  |cons d g=>
   have h1:d=c:=by simpa using hc
   rw[←h1,hg d (List.mem_cons_self ..)];decide
 have hq:∀c∈g++[41,10],c≠34:=fun c hc=>by
  rcases List.mem_append.1 hc with hc|hc
  ·rw[hg c hc];decide
  ·rcases List.mem_cons.1 hc with rfl|hc
   ·decide
   ·rw[List.mem_singleton.1 hc];decide
 generalize hS:g++[40]++g++s++g++[41,10]=S
 have e0:(p0 S).s.drop (p0 S).pos=g++(40::(g++(s++(g++[41,10])))):=by
  show S=_
  rw[←hS];simp
 have hsk:=skip_of e0 hsp (fun c hc=>by
 have:(40:UInt8)=c:=by simpa using hc
 rw[←this];decide)
 obtain⟨a1,a2,a3⟩:=adv_tok (p0 S)
 rw[hsk] at a1 a2 a3
 have et:tokOf (40::(g++(s++(g++[41,10]))))=(4,[40],1):=by rw[tokOf,if_neg (by decide),if_neg (by decide),if_neg (by decide),if_pos (by decide)]
 rw[et] at a1 a2 a3
 have hf0:(p0 S).adv.fail=false:=by rw[adv_fail];rfl
 have hc:Co (g++[41,10]) (p0 s).adv (p0 S).adv.adv:=Co.adv0 hb hq hm rfl hf0 hsp (by rw[a3];rfl)
 obtain⟨r',h1,h2⟩:=der_co hb hq hm ((der_of f).1 1 _ _ _ h hr).2 _ hc
 obtain⟨c1,c2,⟨c3,_⟩|⟨_,c4,c5⟩⟩:=h2
 ·exact absurd hk c3
 ·have hr2:r'.is tShut=true:=by rw[is_tk c2 c4];decide
  have hO:(p0 S).adv.is tOpen=true:=by rw[is_tk hf0 (t:=(4,[40])) (by rw[a1,a2])];decide
  have h3:=PV.paren hO h1
  rw[want_is hr2] at h3
  have hn:(p0 S).adv.is tNot=false:=by rw[is_tk hf0 (t:=(4,[40])) (by rw[a1,a2])];decide
  have hl:=climb hn h3 (by rw[adv_fail,c2]) (t:=(0,r'.adv.tx)) (ts:=[]) ⟨by rw[c5],trivial⟩ (fun o _ _=>rfl)
  obtain⟨f',hf'⟩:=hl.lev
  exact⟨f',_,hf',by rw[adv_fail,c2],c5⟩
end Go.Via
set_option maxHeartbeats 2000000
namespace Go.Via
open Go Go.RowKit
def Ps.sane(p:Ps):Prop:=p.good∧(p.fail=true→p.be≠0)
theorem adv_be(p:Ps):p.adv.be=p.be:=by
 unfold Ps.adv
 split
 ·rfl
 ·split
  ·rfl
  ·split
   ·rfl
   ·split
    ·unfold Ps.quoted
     split
     ·split<;>rfl
     ·rfl
    ·split<;>rfl
theorem adv_sane{p:Ps}(h:p.sane):p.adv.sane:=⟨Ps.adv_good h.1.1,fun e=>by rw[adv_be];rw[adv_fail] at e;exact h.2 e⟩
theorem stop_sane{p:Ps}{e:Nat}(h:p.sane)(he:e≠0):(p.stop e).sane:=by
 unfold Ps.stop
 split
 ·exact h
 ·exact⟨⟨h.1.1,h.1.2⟩,fun _=>he⟩
theorem want_sane{p:Ps}{x:Bs8}(h:p.sane):(p.want x).sane:=by
 unfold Ps.want
 split
 ·exact adv_sane h
 ·exact stop_sane h (by decide)
theorem name_sane{p:Ps}(h:p.sane):p.name.sane:=by
 unfold Ps.name
 split
 ·exact stop_sane h (by decide)
 ·split
  ·exact stop_sane h (by decide)
  ·exact adv_sane h
theorem sz0:szQ 0≤4096:=by decide+kernel
theorem number_sane{p:Ps}{o:Bool}(h:p.sane):(p.number o).2.sane∧szQ (p.number o).1≤4096:=by
 unfold Ps.number
 split
 ·exact⟨stop_sane h (by decide),sz0⟩
 ·rename_i c
  have hc:p.fail=false∧p.k=2:=by simpa using c
  split
  ·exact⟨stop_sane h (by decide),sz0⟩
  ·rename_i q hq
   split
   ·exact⟨stop_sane h (by decide),sz0⟩
   ·exact⟨adv_sane h,Nat.le_trans (ratTok_sz (h.1.2.1 hc.2) hq) h.1.2.2⟩
theorem fit_num{op:Nat}{q:Rat}(h:szQ q≤4096):(XT.numd op q).fit=true:=by
 unfold XT.numd
 rw[XT.fit,XT.fits]
 have:NumV.fit (.q q)=true:=decide_eq_true (by omega)
 rw[this];decide
theorem fit_named{op:Nat}{n:Bs8}(h:n.length≤4096):(XT.named op n).fit=true:=by
 unfold XT.named
 rw[XT.fit,XT.fits,decide_eq_true (by omega:n.length≤1000000)]
 decide+kernel
theorem signed_sane{p:Ps}(h:p.sane):p.signed.2.sane∧p.signed.1.fit=true:=by
 unfold Ps.signed
 split
 ·obtain⟨a,b⟩:=number_sane (o:=false) (adv_sane h)
  exact⟨a,fit_num (szQ_neg b)⟩
 ·obtain⟨a,b⟩:=number_sane (o:=false) h
  exact⟨a,fit_num b⟩
theorem fit_two{op:Nat}{x y:XT}(hx:x.fit=true)(hy:y.fit=true):(XT.node op [x,y]).fit=true:=fit_node (by rw[XT.fits,XT.fits,XT.fits,hx,hy];rfl)
theorem read_sane:∀f:Nat,(∀n p x r,p.sane→lev f n p=some (x,r)→x.fit=true∧r.sane)∧(∀n a p x r,p.sane→a.fit=true→levs f n a p=some (x,r)→x.fit=true∧r.sane)∧
 (∀p x r,p.sane→prim f p=some (x,r)→x.fit=true∧r.sane)∧(∀op e n i l p x r,p.sane→(∀y∈l,y.fit=true)→argL f op e n i l p=some (x,r)→x.fit=true∧r.sane)
 |0=>⟨fun n p x r _ h=>(by rw[lev] at h;cases h),fun n a p x r _ _ h=>(by rw[levs] at h;cases h),fun p x r _ h=>(by rw[prim] at h;cases h),fun op e n i l p x r _ _ h=>(by rw[argL] at h;cases h)⟩
 |f+1=>by
  obtain⟨h1,h2,h3,h4⟩:=read_sane f
  have pr:∀{v:XT×Ps} {x:XT} {r:Ps},v.1.fit=true∧v.2.sane→some v=some (x,r)→x.fit=true∧r.sane:=fun {v x r} hv e=>by
   simp only[Option.some.injEq] at e
   subst e;exact hv
  refine⟨fun n p x r hp h=>?_,fun n a p x r hp ha h=>?_,fun p x r hp h=>?_,fun op e n i l p x r hp hl h=>?_⟩
  ·rw[lev] at h
   split at h
   ·split at h
    ·obtain⟨v,e,g⟩:=Option.map_eq_some_iff.1 h
     obtain⟨a,b⟩:=h1 _ _ v.1 v.2 (adv_sane hp) e
     exact pr (v:=(.node 25 [v.1],v.2)) ⟨fit_node (by rw[XT.fits,XT.fits,a];rfl),b⟩ (congrArg some g)
    ·exact h1 _ _ _ _ hp h
   ·split at h
    ·exact h3 _ _ _ hp h
    ·obtain⟨v,e,g⟩:=Option.bind_eq_some_iff.1 h
     obtain⟨a,b⟩:=h1 _ _ v.1 v.2 hp e
     exact h2 _ _ _ _ _ b a g
  ·rw[levs] at h
   split at h
   ·exact pr (v:=(a,p)) ⟨ha,hp⟩ h
   ·split at h
    ·exact pr (v:=(a,p)) ⟨ha,hp⟩ h
    ·obtain⟨v,e,g⟩:=Option.bind_eq_some_iff.1 h
     obtain⟨a1,b1⟩:=h1 _ _ v.1 v.2 (adv_sane hp) e
     split at g
     ·exact pr (v:=(_,v.2)) ⟨fit_two ha a1,b1⟩ g
     ·exact h2 _ _ _ _ _ b1 (fit_two ha a1) g
  ·rw[prim] at h
   have hg:=adv_sane hp
   split at h
   ·exact pr (v:=(.node 0 [],p)) ⟨fit_node (by rw[XT.fits]),hp⟩ h
   ·split at h
    ·obtain⟨a,b⟩:=signed_sane hp
     exact pr ⟨b,a⟩ h
    ·split at h
     ·obtain⟨v,e,g⟩:=Option.map_eq_some_iff.1 h
      obtain⟨a,b⟩:=h1 _ _ v.1 v.2 hg e
      exact pr (v:=(v.1,v.2.want tShut)) ⟨a,want_sane b⟩ (congrArg some g)
     ·split at h
      ·exact h4 _ _ _ _ _ _ _ _ hg (fun y hy=>by cases hy) h
      ·have hw:(p.adv.want tOpen).sane:=want_sane hg
       split at h
       ·refine pr (v:=p.adv.pointX) ?_ h
        unfold Ps.pointX
        dsimp only
        obtain⟨a,b⟩:=signed_sane hw
        obtain⟨c,d⟩:=signed_sane (want_sane (x:=tComma) a)
        exact⟨fit_two b d,want_sane c⟩
       ·split at h
        ·refine pr (v:=p.adv.objectX) ?_ h
         unfold Ps.objectX
         dsimp only
         obtain⟨a,b⟩:=number_sane (o:=true) hw
         exact⟨fit_num b,want_sane a⟩
        ·split at h
         ·refine pr (v:=p.adv.zone) ?_ h
          unfold Ps.zone
          dsimp only
          refine⟨fit_named hw.1.2.2,want_sane ?_⟩
          split
          ·exact stop_sane hw (by decide)
          ·exact adv_sane hw
         ·split at h
          ·exact h4 _ _ _ _ _ _ _ _ hw (fun y hy=>by cases hy) h
          ·exact pr (v:=(.named 4 p.tx,p.name)) ⟨fit_named hp.1.2.2,name_sane hp⟩ h
  ·rw[argL] at h
   split at h
   ·dsimp only at h
    have hq:(if 0<i then p.want tComma else p).sane:=by
     split
     ·exact want_sane hp
     ·exact hp
    generalize(if 0<i then p.want tComma else p)=p1 at h hq
    split at h
    ·exact pr (v:=(.node op l,p1.want e)) ⟨fit_node (fits_all hl),want_sane hq⟩ h
    ·obtain⟨v,e',g⟩:=Option.bind_eq_some_iff.1 h
     obtain⟨a,b⟩:=h1 _ _ v.1 v.2 hq e'
     refine h4 _ _ _ _ _ _ _ _ b (fun y hy=>?_) g
     rcases List.mem_append.1 hy with hy|hy
     ·exact hl y hy
     ·rw[List.mem_singleton.1 hy];exact a
   ·exact pr (v:=(.node op l,p.want e)) ⟨fit_node (fits_all hl),want_sane hp⟩ h
theorem p0_sane{s:Bs8}(hs:s.length≤4096):(p0 s).adv.sane:=⟨p0_good hs,fun e=>by rw[adv_fail] at e;cases e⟩
mutual
theorem chk_count:∀(x:XT) (lv n:Nat),(chk x lv n).1=0→(chk x lv n).2=n+x.size∧n+1≤256
 | .mk o nm u l,lv,n,h=>by
   rw[chk] at h ⊢
   split at h
   ·cases h
   ·rename_i c1
    split at h
    ·cases h
    ·rename_i c2
     split at h
     ·rename_i c3;exact absurd h c3
     ·rename_i c3
      rw[if_neg c1,if_neg c2,if_neg c3]
      have:=chks_count l (lv+1) (n+1) h
      rw[XT.size]
      exact⟨by omega,by omega⟩
theorem chks_count:∀(l:List XT) (lv n:Nat),(chks l lv n).1=0→(chks l lv n).2=n+XT.sizes l
 |[],lv,n,h=>by rw[chks,XT.sizes];rfl
 |x::l,lv,n,h=>by
  rw[chks] at h ⊢
  split at h
  ·rename_i c;exact absurd h c
  ·rename_i c
   have c:(chk x lv n).1=0:=by simpa using c
   rw[if_neg (by rw[c];simp)]
   have h1:=chk_count x lv n c
   have h2:=chks_count l lv _ h
   rw[XT.sizes]
   omega
end
mutual
theorem chk_le:∀(x:XT) (lv n:Nat),(chk x lv n).1=0→(chk x lv n).2≤256
 | .mk o nm u l,lv,n,h=>by
   rw[chk] at h ⊢
   split at h
   ·cases h
   ·rename_i c1
    split at h
    ·cases h
    ·rename_i c2
     split at h
     ·rename_i c3;exact absurd h c3
     ·rename_i c3
      rw[if_neg c1,if_neg c2,if_neg c3]
      exact chks_le l (lv+1) (n+1) (by omega) h
theorem chks_le:∀(l:List XT) (lv n:Nat),n≤256→(chks l lv n).1=0→(chks l lv n).2≤256
 |[],lv,n,hn,h=>by rw[chks];exact hn
 |x::l,lv,n,hn,h=>by
  rw[chks] at h ⊢
  split at h
  ·rename_i c;exact absurd h c
  ·rename_i c
   have c:(chk x lv n).1=0:=by simpa using c
   rw[if_neg (by rw[c];simp)]
   exact chks_le l lv _ (chk_le x lv n c) h
end
theorem chkE_size{x:XT}(h:chkE x=0):x.size≤256:=by
 have h1:=(chk_count x 1 0 h).1
 have h2:=chk_le x 1 0 h
 omega
theorem ret_facts{s:Bs8}(hs:s.length≤300){f:Nat}{x:XT}{r:Ps}(h:lev f 1 (p0 s).adv=some (x,r))(hE:r.endE (chkE x)=0):
 chkE x=0∧okX x∧qX x∧r.fail=false∧r.k=0∧(txt x 1).length≤4096∧x.size≤256:=by
 have hs2:s.length≤4096:=by omega
 have hsa:=((read_sane f).1 1 _ x r (p0_sane hs2) h).2
 have hr:r.fail=false∧r.k=0∧chkE x=0:=by
  unfold Ps.endE at hE
  cases hf:r.fail with
  |true=>
   have e:r.endP=r:=by unfold Ps.endP;rw[hf,if_neg (fun c=>by cases c.1)]
   rw[e,hf,if_pos rfl] at hE
   exact absurd hE (hsa.2 hf)
  |false=>
   by_cases hk:r.k=0
   ·have e:r.endP=r:=by unfold Ps.endP;rw[if_neg (fun c=>c.2 hk)]
    rw[e,hf,if_neg (by decide)] at hE
    exact⟨rfl,hk,hE⟩
   ·have e:r.endP=r.stop 15:=by unfold Ps.endP;rw[if_pos ⟨hf,hk⟩]
    rw[e,stop_fail,if_pos rfl] at hE
    unfold Ps.stop at hE
    rw[hf] at hE
    cases hE
 obtain⟨hr1,hr2,hr3⟩:=hr
 have hd:=((der_of f).1 1 _ _ _ h hr1).2
 have hq:=(der_fit hd (p0_good hs2) trivial).2
 obtain⟨hl,ho⟩:=der_len hd (p0_ord hs2)
 have h5:r.s=s:=by
  have:∀{k:Kd} {p r:Ps} {x:XT},Der k p x r→r.s=p.s:=fun {k p r x} h=>by
   have sg:∀{p r:Ps} {q:Rat},SgP p q r→r.s=p.s:=fun {p r q} h=>by
    cases h with
    |pos=>exact Ps.adv_s _
    |neg=>rw[Ps.adv_s,Ps.adv_s]
   induction h with
   |not h d ih=>rw[ih,Ps.adv_s]
   |l3 h d ih=>exact ih
   |l8 d ih=>exact ih
   |ln h3 h8 d e ih ih2=>rw[ih2,ih]
   |stop hf h=>rfl
   |go h4 hf h d e ih ih2=>rw[ih2,ih,Ps.adv_s]
   |once hf h d ih=>rw[ih,Ps.adv_s]
   |num h=>exact sg h
   |paren h d hs ih=>rw[Ps.adv_s,ih,Ps.adv_s]
   |inter h d ih=>rw[ih,Ps.adv_s]
   |point h ho d hc e hs=>rw[Ps.adv_s,sg e,Ps.adv_s,sg d,Ps.adv_s,Ps.adv_s]
   |object h ho hk hq hi hs=>rw[Ps.adv_s,Ps.adv_s,Ps.adv_s,Ps.adv_s]
   |zone h ho hk hs=>rw[Ps.adv_s,Ps.adv_s,Ps.adv_s,Ps.adv_s]
   |call hg h ho d ih=>rw[ih,Ps.adv_s,Ps.adv_s]
   |name hf hk hr hl _ _=>rw[Ps.adv_s]
   |more hi hc h1 d a ih ih2=>
    rw[ih2,ih,h1]
    split
    ·rw[Ps.adv_s]
    ·rfl
   |done hi he=>rw[Ps.adv_s]
  rw[this hd,Ps.adv_s];rfl
 have h6:=ho.1.1.2
 have h7:=ho.2
 rw[h5] at h6
 have h8:=hl 1
 exact⟨hr3,chk_ok x 1 0 hr3,hq,hr1,hr2,by omega,chkE_size hr3⟩
end Go.Via
namespace Go.Proofs.YtfijbadahkmhbaaGreatDoor
open Go Go.RowKit Go.Via
theorem c_ParseExpr_any{s:Bs8}(hs:s.length≤4096){f:Nat}{x:XT}{r:Ps}(h:lev f 1 (p0 s).adv=some (x,r)):ECall Tryz.prog 31 [] [.string (strU s)] (XR x) (fun z=> .tuple #[(if r.endE (chkE x)=0 then z.f7 else XR.empty.f7).v,.int .i64 ((if r.endE (chkE x)=0 then 0 else r.endA:Nat):Int),.int .i64 (r.endE (chkE x):Nat)]) (fun z=>[gB z.T true]):=by
 have h1:=c_ParseExpr_ok s hs f (x,r) h ((read_sane f).1 1 _ x r (p0_sane hs) h).1
 have e:(fun z:XR x=>peV (x,r) z)=fun z=> .tuple #[(if r.endE (chkE x)=0 then z.f7 else XR.empty.f7).v,.int .i64 ((if r.endE (chkE x)=0 then 0 else r.endA:Nat):Int),.int .i64 (r.endE (chkE x):Nat)]:=funext fun z=>by
  unfold peV
  dsimp only
  split<;>rfl
 exact e▸h1
theorem c_PrintExpr_good{x:XT}(z:XR x)(m:Int)(hf:x.fit=true)(h0:chkE x=0)(hl:(txt x 1).length≤4096):ECall Tryz.prog 36 [gB z.T false,GM m] [z.v] Unit (fun _=> .tuple #[.string (strU (txt x 1)),.int .i64 0]) (fun _=>[]):=by
 have h:=c_PrintExpr z m hf (by have:=chkE_size h0;omega) (fun _=>by omega)
 unfold prET prEC prT prC at h
 rw[if_pos h0,if_pos h0,if_neg (by omega),if_neg (by omega)] at h
 exact h
end Go.Proofs.YtfijbadahkmhbaaGreatDoor
namespace Go.Via
open Go Go.RowKit
section
variable{P:Program}{bl:List Nat}{ops:Array Oper}{K:St→Prop}{rest:List Oper}{nt:Nat}{t:List (Nat×Value)}{L:List Blk}{d:Nat}{ty:TypeId}{pos:String}{af:Array Edge}{g:Option (Nat×Bool)}{x y:Operand}
end
theorem ECall.toS{P:Program}{f:Nat}{L0:List Blk}{args:List Value}{X:Type}{res:X→Value}{new:X→List Blk}(h:ECall P f L0 args X res new):SCall P f L0 args X res new:=⟨h.1,fun w hL=>h.2 (Bs.of w) w rfl hL⟩
end Go.Via
namespace Go.Proofs.YtfijbadahkmhbaaGreatDoor
open Go Go.RowKit Go.Via
end Go.Proofs.YtfijbadahkmhbaaGreatDoor
namespace Go.Via
open Go Go.RowKit
def NumV.parts:NumV→Bool×ByteArray×Bool×ByteArray
 | .q r=>(decide (r.num<0),mag r.num.natAbs,false,dm r)
 | .raw b1 s1 b2 s2=>(b1,s1,b2,s2)
theorem NumV.parts_cells{u:NumV}{b1 b2:Bool}{s1 s2:ByteArray}(h:u.cells=[.bool b1,.string s1,.bool b2,.string s2]):u.parts=(b1,s1,b2,s2):=by
 cases u with
 |q r=>obtain⟨rfl,rfl,rfl,rfl⟩:=NumV.of_q h;rfl
 |raw c1 t1 c2 t2=>obtain⟨rfl,rfl,rfl,rfl⟩:=NumV.of_raw h;rfl
def numE(a b:NumV):Bool:=(a.parts.1==b.parts.1)&&((a.parts.2.1==b.parts.2.1)&&((a.parts.2.2.1==b.parts.2.2.1)&&(a.parts.2.2.2==b.parts.2.2.2)))
theorem numE_cells{u v:NumV}{b1 b2 c1 c2:Bool}{s1 s2 t1 t2:ByteArray}(h:u.cells=[.bool b1,.string s1,.bool b2,.string s2])(k:v.cells=[.bool c1,.string t1,.bool c2,.string t2]):
 ((b1==c1)&&((s1==t1)&&((b2==c2)&&(s2==t2))))=numE u v:=by
 unfold numE
 rw[NumV.parts_cells h,NumV.parts_cells k]
theorem numE_refl(u:NumV):numE u u=true:=by
 unfold numE
 simp[bb_self]
mutual
def sameX:XT→XT→Bool
 | .mk o n u l,.mk o' n' u' l'=>decide (o=o')&&((n==n')&&(numE u u'&&sames l l'))
def sames:List XT→List XT→Bool
 |[],[]=>true
 |x::l,y::m=>sameX x y&&sames l m
 |[],_::_=>false
 |_::_,[]=>false
end
theorem sameX_eq(x y:XT):sameX x y=(decide (x.op=y.op)&&((x.name==y.name)&&(numE x.num y.num&&sames x.args y.args))):=by
 cases x;cases y;rw[sameX];rfl
theorem sames_len:∀{l m:List XT},l.length≠m.length→sames l m=false
 |[],[],h=>absurd rfl h
 |[],_::_,_=>by rw[sames]
 |_::_,[],_=>by rw[sames]
 |x::l,y::m,h=>by rw[sames,sames_len (l:=l) (m:=m) (fun e=>h (by simp[e])),Bool.and_false]
theorem sames_step{l m:List XT}{i:Nat}{x y:XT}(hx:l[i]? =some x)(hy:m[i]? =some y):sames (l.drop i) (m.drop i)=(sameX x y&&sames (l.drop (i+1)) (m.drop (i+1))):=by
 obtain⟨hl,rfl⟩:=List.getElem?_eq_some_iff.1 hx
 obtain⟨hm,rfl⟩:=List.getElem?_eq_some_iff.1 hy
 rw[List.drop_eq_getElem_cons hl,List.drop_eq_getElem_cons hm,sames]
theorem sames_end{l m:List XT}{i:Nat}(h:i=l.length)(e:l.length=m.length):sames (l.drop i) (m.drop i)=true:=by
 subst h
 rw[List.drop_length,e,List.drop_length,sames]
mutual
theorem sameX_refl:∀x:XT,sameX x x=true
 | .mk o n u l=>by rw[sameX,numE_refl,sames_refl l];simp
theorem sames_refl:∀l:List XT,sames l l=true
 |[]=>by rw[sames]
 |x::l=>by rw[sames,sameX_refl x,sames_refl l];rfl
end
theorem byS2{p:XT→XT→Prop}(h:∀x:XT,(∀x':XT,x'.size<x.size→∀y',p x' y')→∀y,p x y)(x y:XT):p x y:=by
 suffices k:∀n:Nat,∀x:XT,x.size<n→∀y,p x y from k _ x (Nat.lt_succ_self _) y
 intro n
 induction n with
 |zero=>intro x hx;omega
 |succ n ih=>exact fun x hx y=>h x (fun x' hx' y'=>ih x' (by omega) y') y
end Go.Via
namespace Go.Proofs.YtfijbadahkmhbaaGreatDoor
open Go Go.RowKit Go.Via
def EqlC(x y:XT):Prop:=∀(z:XR x) (u:XR y),x.size≤1000000000→ECall Tryz.prog 41 [gB z.T false,gB u.T false] [z.v,u.v] Unit (fun _=> .bool (sameX x y)) (fun _=>[])
theorem c_EqualFunc_step{x y:XT}(z:XR x)(u:XR y)(H:∀x1:XT,x1.size<x.size→∀y1,EqlC x1 y1)(hM:x.size≤1000000000):ECall Tryz.prog 74 [gB z.T false,gB u.T false] [.slice z.a z.n z.cap,.slice u.a u.n u.cap,.func (.func 41) #[] #[]] Unit (fun _=> .bool (sames x.args y.args)) (fun _=>[]):=by
 refine⟨by kernel_rfl,fun B w hD hL0=>?_⟩;obtain⟨h1,h2,h3,h4,h5,h6⟩:=z.inv;obtain⟨k1,k2,k3,k4,k5,k6⟩:=u.inv;have hlx:=XT.len_sizes x.args;have hsx:=XT.size_eq x;refine cB3 32 Tryz.func74 hL0 ?_;refine A10 ?_;refine r_know 11 (.int .i64 (x.args.length:Nat)) rfl (by rw[h5]) ?_;refine A2 ?_;refine r_know 13 (.int .i64 (y.args.length:Nat)) rfl (by rw[k5]) ?_;refine A3 ?_;refine Cd ?_ ?_<;>intro hb0
 ·have q4:x.args.length≠y.args.length:=by have hh:=hb0;simp at hh;omega
  refine A7 ?_;refine at_end1 rfl (res_tmp rfl) (fun w hL=>⟨(),eB (show sames x.args y.args=false from by rw[sames_len q4]).symm,hL.pk []⟩)
 ·have q4:x.args.length=y.args.length:=by have hh:=hb0;simp at hh;omega
  refine A7 ?_;refine r_know 16 (.int .i64 (x.args.length:Nat)) rfl (by rw[h5]) ?_;refine A4 ?_;refine El (ι:={i:Nat // i≤x.args.length∧sames x.args y.args=sames (x.args.drop i) (y.args.drop i)}) (fun⟨i,hi,hI⟩=>([(1,.slice u.a u.n u.cap),(2,.func (.func 41) #[] #[]),(15,.slice z.a z.n z.cap),(16,.int .i64 (x.args.length:Nat)),(17,.int .i64 (i:Nat))],[gB z.T false,gB u.T false],x.args.length-i)) ⟨0,Nat.zero_le _,by rw[List.drop_zero,List.drop_zero]⟩ ?_ (hL:=Weak.auto);rintro⟨i,hi,hI⟩;(try dsimp only);refine A6 ?_;refine Cd ?_ ?_<;>intro hb2
  ·have hlt:i<x.args.length:=by have:=of_decide_eq_true hb2;omega
   obtain⟨x1,hx1⟩:∃x1,x.args[i]? =some x1:=⟨x.args[i],List.getElem?_eq_getElem hlt⟩;obtain⟨y1,hy1⟩:∃y1,y.args[i]? =some y1:=⟨y.args[i]'(by omega),List.getElem?_eq_getElem _⟩;obtain⟨ga,oa,ca,v1,hza,hma,hra,hTa,hna⟩:=z.arg hx1;obtain⟨gb,ob,cb,v2,hzb,hmb,hrb,hTb,hnb⟩:=u.arg hy1;have hs1:x1.size≤1000000000:=by have:=XT.arg_lt hx1;omega
   refine A7 ?_;refine r_indexAddrG (gg:=ga) (len:=z.n) (cap:=z.cap) (oa+i*7) u28 ti30 rfl rfl (congrArg (fun a=>some (Value.slice a z.n z.cap)) hza) rfl (by omega) (by omega) (by show oa+Int.toNat _*7=_;omega) ?_;refine r_loadT (v:=v1.v) 0 (oa+i*7) v1.cs rfl rfl rfl z.hT hma hna rfl ti30 hra rfl rfl rfl ?_;refine r_alloc [_,_,_,_,_,_,_] 7 (fun g=>[_,_,⟨some g,30,_,7,true⟩]) rfl rfl z30 rfl rfl (fun _=>rfl) (fun g0=>?_);refine A1 ?_;refine So 2 0 [_,_,⟨some g0,30,_,7,true⟩] [_,_,_,_,_,_,_] ?_;refine A6 ?_;refine r_indexAddrG (gg:=gb) (len:=u.n) (cap:=u.cap) (ob+i*7) u28 ti30 rfl rfl (congrArg (fun a=>some (Value.slice a u.n u.cap)) hzb) rfl (by omega) (by omega) (by show ob+Int.toNat _*7=_;omega) ?_;refine r_loadT (v:=v2.v) 1 (ob+i*7) v2.cs rfl rfl rfl u.hT hmb hnb rfl ti30 hrb rfl rfl rfl ?_;refine r_alloc [_,_,_,_,_,_,_] 7 (fun g=>[_,_,_,⟨some g,30,_,7,true⟩]) rfl rfl z30 rfl rfl (fun _=>rfl) (fun g1=>?_);refine So 3 0 [_,_,_,⟨some g1,30,_,7,true⟩] [_,_,_,_,_,_,_] ?_;refine A3 ?_;refine at_regionM ?_;refine A1 ?_;refine Ld 2 0 [_,_,_,_,_,_,_] ti30 ?_;refine Kr 27 (v1.v) ?_;refine Ld 3 0 [_,_,_,_,_,_,_] ti30 ?_;refine Kr 28 (v2.v) ?_;refine r_gfcallM (f:=41) (A:=[]) (C:=[gB z.T false,gB u.T false]) [v1.v,v2.v] [] [] [0,1] (fun _=>[_,_,_,_]) rfl rfl rfl rfl rfl (by have h:=H x1 (XT.arg_lt hx1) y1 v1 v2 hs1;rw[hTa,hTb] at h;exact h) (by decide) rfl rfl ⟨⟨_,rfl,Blk.le_refl _⟩,⟨_,rfl,Blk.le_refl _⟩,trivial⟩ rfl rfl (fun _=>rfl) (fun _=>allOwn rfl) (fun _=>rfl) (fun _=>?_);refine A3 ?_;refine Cd ?_ ?_<;>intro hb3
   ·have hs:sameX x1 y1=false:=by have hh:=hb3;simpa using hh
    refine A11 ?_;refine at_end1 rfl (res_tmp rfl) (fun w hL=>⟨(),eB (show sames x.args y.args=false from by rw[hI,sames_step hx1 hy1,hs];rfl).symm,hL.pk []⟩)
   ·have hs:sameX x1 y1=true:=by have hh:=hb3;simpa using hh
    refine A4 ?_;refine Ar (((i+1:Nat):Int)) ?_;refine A3 ?_;exact Nl ⟨i+1,hlt,by rw[hI,sames_step hx1 hy1,hs];rfl⟩ (hL:=Weak.auto)
  ·have hge:i=x.args.length:=by have:=of_decide_eq_false hb2;omega
   refine A11 ?_;refine at_end1 rfl (res_tmp rfl) (fun w hL=>⟨(),eB (show sames x.args y.args=true from by rw[hI,sames_end hge q4]).symm,hL.pk []⟩)
theorem c_EqualExpr_step{x y:XT}(z:XR x)(u:XR y)(H:∀x1:XT,x1.size<x.size→∀y1,EqlC x1 y1)(hM:x.size≤1000000000):ECall Tryz.prog 41 [gB z.T false,gB u.T false] [z.v,u.v] Unit (fun _=> .bool (sameX x y)) (fun _=>[]):=by
 refine⟨by kernel_rfl,fun B w hD hL0=>?_⟩;obtain⟨h1,h2,h3,h4,h5,h6⟩:=z.inv;obtain⟨k1,k2,k3,k4,k5,k6⟩:=u.inv;have hlx:=XT.len_sizes x.args;have hsx:=XT.size_eq x;refine cB2 31 Tryz.func41 hL0 ?_;refine A2 ?_;refine Bo [_,_,_,_,_,_,_] 7 (fun g=>[_,_,⟨some g,30,_,7,true⟩]) (fun g0=>?_);refine Bo [_,_,_,_,_,_,_] 7 (fun g=>[_,_,_,⟨some g,30,_,7,true⟩]) (fun g1=>?_);refine A4 ?_;refine at_regionM ?_;refine A6 ?_;refine Rs 10 ?_ ?_<;>intro hb0
 ·have q1:x.op=y.op:=by rw[←h1,←k1];have hh:=hb0;simpa using hh
  refine A5 ?_;refine r_know 15 (.bool (x.name==y.name)) rfl (by rw[h2,k2,strU_beq]) ?_;refine A2 ?_;refine Rs 17 ?_ ?_<;>intro hb1
  ·have q2:(x.name==y.name)=true:=by have hh:=hb1;simpa using hh
   refine A1 ?_;refine Ld 2 2 [_,_,_,_] ti27 ?_;refine A1 ?_;refine Ld 3 2 [_,_,_,_] ti27 ?_;refine r_eqlAgg rfl rfl rfl rfl gd27 (eq27r _ _ _ _ _ _ _ _) ?_;refine r_know 22 (.bool (numE x.num y.num)) rfl (by rw[numE_cells h3 k3]) ?_;refine A2 ?_;refine Rs 24 ?_ ?_<;>intro hb2
   ·have q3:numE x.num y.num=true:=by have hh:=hb2;simpa using hh
    refine A4 ?_;refine Gm 0 [] [0,1] (fun _=>[_,_,_,_]) (c_EqualFunc_step z u H hM) (fun _=>?_);refine A5 ?_;refine at_end1 rfl (res_tmp rfl) (fun w hL=>⟨(),eB (show sameX x y=sames x.args y.args from by rw[sameX_eq,decide_eq_true q1,q2,q3];rfl).symm,hL.pk []⟩)
   ·have q3:numE x.num y.num=false:=by have hh:=hb2;simpa using hh
    refine A10 ?_;refine at_end1 rfl (res_tmp rfl) (fun w hL=>⟨(),eB (show sameX x y=false from by rw[sameX_eq,q3,Bool.false_and,Bool.and_false,Bool.and_false]).symm,hL.pk []⟩)
  ·have q2:(x.name==y.name)=false:=by have hh:=hb1;simpa using hh
   refine A17 ?_;refine at_end1 rfl (res_tmp rfl) (fun w hL=>⟨(),eB (show sameX x y=false from by rw[sameX_eq,q2,Bool.false_and,Bool.and_false]).symm,hL.pk []⟩)
 ·have q1:x.op≠y.op:=by rw[←h1,←k1];have hh:=hb0;simpa using hh
  refine A24 ?_;refine at_end1 rfl (res_tmp rfl) (fun w hL=>⟨(),eB (show sameX x y=false from by rw[sameX_eq,decide_eq_false q1];rfl).symm,hL.pk []⟩)
theorem c_EqualExpr(x y:XT):EqlC x y:=byS2 (fun x H y z u hM=>c_EqualExpr_step z u H hM) x y
abbrev QBr(g:Nat)(kind:Int)(b:Option Nat)(l:List Bs8)(cap:Nat){x:XT}(z:XR x):Blk:=⟨some g,39,[.int .i64 kind,slv b 0 l.length cap,.int .i64 z.op,.string z.nm,.bool z.b1,.string z.s1,.bool z.b2,.string z.s2,.slice z.a z.n z.cap],9,false⟩
theorem c_Parse_1(kind:Int)(hk: -9223372036854775808≤kind∧kind≤9223372036854775807)(b:Option Nat)(e:Nat)(l:List Bs8)(n cap:Nat)(hll:l.length≤1000000)(hvl:∀v∈l,v.length≤1000000){x:XT}(z:XR x)(hf:x.fit=true)(hM:x.size≤1000000)(gx:Nat):ECall Tryz.prog 79 [QBr gx kind b l cap z,VBk b e [] l n,gB z.T false] [.pointer (some ⟨gx,0,none⟩)] Unit (fun _=> .int .i64 (chkQ kind l x:Nat)) (fun _=>[]):=by
 refine⟨by kernel_rfl,fun B w hD hL0=>?_⟩;refine cB1 4 Tryz.func79 hL0 ?_;refine A6 ?_;refine at_regionM ?_;refine Ld 0 0 [_,_,_,_,_,_,_,_,_] ti39 ?_;refine Kr 2 (QV kind b [] l cap z) ?_;refine Gm 0 [] [1,2] (fun _=>[_,_,_]) (c_Check kind hk b e [] l n cap hll hvl z hf hM) (fun _=>?_);refine A4 ?_;refine E1 fun w hL=>⟨(),rfl,hL.pk []⟩
theorem c_p_end_q(p:Ps)(g:Nat)(kind:Int)(hk: -9223372036854775808≤kind∧kind≤9223372036854775807)(b:Option Nat)(e:Nat)(l:List Bs8)(n cap:Nat)(hll:l.length≤1000000)(hvl:∀v∈l,v.length≤1000000){x:XT}(z:XR x)(hf:x.fit=true)(hM:x.size≤1000000)(gx:Nat):ECall Tryz.prog 63 [PB g p true,QBr gx kind b l cap z,VBk b e [] l n,gB z.T false] [.pointer (some ⟨g,0,none⟩),.func (.func 79) #[] #[.pointer (some ⟨gx,0,none⟩)]] Unit (fun _=> .tuple #[.int .i64 (p.endA:Nat),.int .i64 (p.endE (chkQ kind l x):Nat)]) (fun _=>[PB g p.endP true]):=by
 refine⟨by kernel_rfl,fun B w hD hL0=>?_⟩;refine cB2 37 Tryz.func63 hL0 ?_;refine A15 ?_;refine Rs 11 ?_ ?_<;>intro hb0
 ·have hfl:p.fail=false:=by simpa using hb0
  refine A9 ?_;refine Cd ?_ ?_<;>intro hb1
  ·have hk0:p.k≠0:=by have hh:=hb1;simp only[bne_iff_ne,bne_eq_false_iff_eq,ne_eq] at hh;omega
   refine at_regionM ?_;refine A1 ?_;refine Gm 1 [0] [] (fun _=>[PB g (p.stop 15) true,_,_,_]) (c_p_stop p 15 g) (fun _=>?_);refine A11 ?_;refine Cd ?_ ?_<;>intro hb2
   ·have hf2:=hb2;refine A1 ?_;refine at_drawnI [2000000] mixed (by kernel_rfl) (by kernel_rfl) ?_;refine A16 ?_;refine at_end2 rfl (res_tmp rfl) (res_tmp rfl) (fun w hL=>by
 have hE:p.endP=p.stop 15:=(by unfold Ps.endP;rw[if_pos ⟨hfl,hk0⟩]);refine⟨(),?_,?_⟩
 ·unfold Ps.endA Ps.endE;rw[hE,if_pos hf2,if_pos hf2];try rfl
 ·rw[hE];exact hL.pk [some 0])
   ·have hf2:=hb2;refine A3 ?_;refine at_regionM ?_;refine A1 ?_;refine r_gfcallM (f:=79) (A:=[]) (C:=[QBr gx kind b l cap z,VBk b e [] l n,gB z.T false]) [] [.pointer (some ⟨gx,0,none⟩)] [] [1,2,3] (fun _=>[_,_,_,_]) rfl rfl rfl rfl rfl (c_Parse_1 kind hk b e l n cap hll hvl z hf hM gx) (by decide) rfl rfl ⟨⟨_,rfl,Blk.le_refl _⟩,⟨_,rfl,Blk.le_refl _⟩,⟨_,rfl,Blk.le_refl _⟩,trivial⟩ rfl rfl (fun _=>rfl) (fun _=>allOwn rfl) (fun _=>rfl) (fun _=>?_);refine A5 ?_;refine at_end2 rfl (res_tmp rfl) (res_tmp rfl) (fun w hL=>by
 have hE:p.endP=p.stop 15:=(by unfold Ps.endP;rw[if_pos ⟨hfl,hk0⟩]);refine⟨(),?_,?_⟩
 ·unfold Ps.endA Ps.endE;rw[hE,if_neg (by rw[hf2];simp),if_neg (by rw[hf2];simp)];try rfl
 ·rw[hE];exact hL.pk [some 0])
  ·have hk0:p.k=0:=by have hh:=hb1;simp only[bne_iff_ne,bne_eq_false_iff_eq,ne_eq] at hh;omega
   refine A11 ?_;refine Cd ?_ ?_<;>intro hb2
   ·have hf2:=hb2;refine A1 ?_;refine at_drawnI [2000000] mixed (by kernel_rfl) (by kernel_rfl) ?_;refine A16 ?_;refine at_end2 rfl (res_tmp rfl) (res_tmp rfl) (fun w hL=>by
 have hE:p.endP=p:=(by unfold Ps.endP;rw[if_neg (fun h=>h.2 hk0)]);refine⟨(),?_,?_⟩
 ·unfold Ps.endA Ps.endE;rw[hE,if_pos hf2,if_pos hf2];try rfl
 ·rw[hE];exact hL.pk [some 0])
   ·have hf2:=hb2;refine A3 ?_;refine at_regionM ?_;refine A1 ?_;refine r_gfcallM (f:=79) (A:=[]) (C:=[QBr gx kind b l cap z,VBk b e [] l n,gB z.T false]) [] [.pointer (some ⟨gx,0,none⟩)] [] [1,2,3] (fun _=>[_,_,_,_]) rfl rfl rfl rfl rfl (c_Parse_1 kind hk b e l n cap hll hvl z hf hM gx) (by decide) rfl rfl ⟨⟨_,rfl,Blk.le_refl _⟩,⟨_,rfl,Blk.le_refl _⟩,⟨_,rfl,Blk.le_refl _⟩,trivial⟩ rfl rfl (fun _=>rfl) (fun _=>allOwn rfl) (fun _=>rfl) (fun _=>?_);refine A5 ?_;refine at_end2 rfl (res_tmp rfl) (res_tmp rfl) (fun w hL=>by
 have hE:p.endP=p:=(by unfold Ps.endP;rw[if_neg (fun h=>h.2 hk0)]);refine⟨(),?_,?_⟩
 ·unfold Ps.endA Ps.endE;rw[hE,if_neg (by rw[hf2];simp),if_neg (by rw[hf2];simp)];try rfl
 ·rw[hE];exact hL.pk [some 0])
 ·have hfl:p.fail=true:=by simpa using hb0
  refine A21 ?_;refine Cd ?_ ?_<;>intro hb1
  ·have hf2:=hb1;refine A1 ?_;refine at_drawnI [2000000] mixed (by kernel_rfl) (by kernel_rfl) ?_;refine A16 ?_;refine at_end2 rfl (res_tmp rfl) (res_tmp rfl) (fun w hL=>by
 have hE:p.endP=p:=(by unfold Ps.endP;rw[if_neg (fun h=>by rw[hfl] at h;cases h.1)]);refine⟨(),?_,?_⟩
 ·unfold Ps.endA Ps.endE;rw[hE,if_pos hf2,if_pos hf2];try rfl
 ·rw[hE];exact hL.pk [some 0])
  ·have hf2:=hb1;refine A3 ?_;refine at_regionM ?_;refine A1 ?_;refine r_gfcallM (f:=79) (A:=[]) (C:=[QBr gx kind b l cap z,VBk b e [] l n,gB z.T false]) [] [.pointer (some ⟨gx,0,none⟩)] [] [1,2,3] (fun _=>[_,_,_,_]) rfl rfl rfl rfl rfl (c_Parse_1 kind hk b e l n cap hll hvl z hf hM gx) (by decide) rfl rfl ⟨⟨_,rfl,Blk.le_refl _⟩,⟨_,rfl,Blk.le_refl _⟩,⟨_,rfl,Blk.le_refl _⟩,trivial⟩ rfl rfl (fun _=>rfl) (fun _=>allOwn rfl) (fun _=>rfl) (fun _=>?_);refine A5 ?_;refine at_end2 rfl (res_tmp rfl) (res_tmp rfl) (fun w hL=>by
 have hE:p.endP=p:=(by unfold Ps.endP;rw[if_neg (fun h=>by rw[hfl] at h;cases h.1)]);refine⟨(),?_,?_⟩
 ·unfold Ps.endA Ps.endE;rw[hE,if_neg (by rw[hf2];simp),if_neg (by rw[hf2];simp)];try rfl
 ·rw[hE];exact hL.pk [some 0])
def headK(p:Ps):Nat×List Bs8×Ps:=
 if p.is tValue=true then(1,[],p.adv)
 else if p.is tObjects=true then(2,[p.adv.tx],p.adv.name.want tWhere)
 else if p.is tPairs=true then(3,[p.adv.tx,(p.adv.name.want tComma).tx],(p.adv.name.want tComma).name.want tWhere)
 else(0,[],p.stop 15)
noncomputable def pqV(kind:Nat)(l:List Bs8)(r:XT×Ps)(b:Option Nat)(z:XR r.1):Value:=
 .tuple #[if r.2.endE (chkQ kind l r.1)=0 then QV kind b [] l l.length z else QV 0 none [] [] 0 XR.empty,.int .i64 ((if r.2.endE (chkQ kind l r.1)=0 then 0 else r.2.endA:Nat):Int),.int .i64 (r.2.endE (chkQ kind l r.1):Nat)]
theorem pqV_no(kind:Nat)(l:List Bs8){r:XT×Ps}(b:Option Nat)(z:XR r.1)(h:r.2.endE (chkQ kind l r.1)≠0):pqV kind l r b z= .tuple #[QV 0 none [] [] 0 XR.empty,.int .i64 (r.2.endA:Nat),.int .i64 (r.2.endE (chkQ kind l r.1):Nat)]:=by
 unfold pqV
 simp only[if_neg h]
theorem pqV_yes(kind:Nat)(l:List Bs8){r:XT×Ps}(b:Option Nat)(z:XR r.1)(h:r.2.endE (chkQ kind l r.1)=0):pqV kind l r b z= .tuple #[QV kind b [] l l.length z,.int .i64 0,.int .i64 0]:=by
 unfold pqV
 simp only[h,if_true]
 rfl
end Go.Proofs.YtfijbadahkmhbaaGreatDoor
