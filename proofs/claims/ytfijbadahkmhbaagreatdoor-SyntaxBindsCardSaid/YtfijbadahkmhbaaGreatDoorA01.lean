/-
  Part 1 (chapter 43): lemmas, walks. Each theorem states its own conditions.
-/
import GoSem.Core.World
import Derived.MapKept
import Derived.WalkKit
import Derived.WalkSpells
import Derived.WalkLawsBesides
set_option linter.unusedVariables false
set_option linter.unusedSimpArgs false
set_option maxRecDepth 20000
set_option maxHeartbeats 20000000
namespace Go.Via
def val(B:Nat):List Nat→Nat
 |[]=>0
 |d::l=>d+B*val B l
@[simp] theorem val_nil (B:Nat):val B []=0:=rfl
@[simp] theorem val_cons (B d:Nat) (l:List Nat):val B (d::l)=d+B*val B l:=rfl
def digs(B n:Nat):List Nat:=
 if _h:n=0∨B<2 then[] else n%B::digs B (n/B)
 termination_by n
 decreasing_by exact Nat.div_lt_self (by omega) (by omega)
theorem digs_zero(B:Nat):digs B 0=[]:=by unfold digs;simp
theorem digs_pos{B n:Nat}(hB:2≤B)(hn:n≠0):digs B n=n%B::digs B (n/B):=by
 conv=>lhs;unfold digs
 rw[dif_neg (by omega)]
theorem val_digs{B:Nat}(hB:2≤B)(n:Nat):val B (digs B n)=n:=by
 induction n using Nat.strongRecOn with
 |_ n ih=>
  by_cases hn:n=0
  ·subst hn;simp[digs_zero]
  ·rw[digs_pos hB hn,val_cons,ih _ (Nat.div_lt_self (by omega) (by omega))]
   exact Nat.mod_add_div n B
theorem digs_lt{B n:Nat}(hB:2≤B):∀d∈digs B n,d<B:=by
 induction n using Nat.strongRecOn with
 |_ n ih=>
  by_cases hn:n=0
  ·subst hn;simp[digs_zero]
  ·rw[digs_pos hB hn]
   intro d hd
   rcases List.mem_cons.1 hd with rfl|hd
   ·exact Nat.mod_lt _ (by omega)
   ·exact ih _ (Nat.div_lt_self (by omega) (by omega)) d hd
def Canon(l:List Nat):Prop:=l.getLast? ≠some 0
theorem canon_nil:Canon []:=by simp[Canon]
theorem canon_cons{d:Nat}{l:List Nat}(h:Canon (d::l)):Canon l:=by
 cases l with
 |nil=>exact canon_nil
 |cons e l=>simpa[Canon,List.getLast?_cons_cons] using h
theorem val_pos_of_canon{B:Nat}(hB:2≤B):∀{l:List Nat},Canon l→l≠[]→0<val B l
 |[],_,h=>absurd rfl h
 |[d],h,_=>by
  simp[Canon] at h
  simp;omega
 |d::e::l,h,_=>by
  have:=val_pos_of_canon hB (canon_cons h) (by simp)
  rw[val_cons]
  have:0<B*val B (e::l):=Nat.mul_pos (by omega) this
  omega
theorem digs_val{B:Nat}(hB:2≤B):∀{l:List Nat},(∀d∈l,d<B)→Canon l→digs B (val B l)=l
 |[],_,_=>by simp[digs_zero]
 |d::l,hl,hc=>by
  have hp:=val_pos_of_canon hB hc (by simp)
  rw[digs_pos hB (by omega)]
  have hd:=hl d (by simp)
  have e1:val B (d::l)%B=d:=by rw[val_cons,Nat.add_mul_mod_self_left];exact Nat.mod_eq_of_lt hd
  have e2:val B (d::l)/B=val B l:=by
   rw[val_cons,Nat.add_mul_div_left _ _ (by omega),Nat.div_eq_of_lt hd];omega
  rw[e1,e2,digs_val hB (fun x hx=>hl x (by simp[hx])) (canon_cons hc)]
theorem digs_canon{B:Nat}(hB:2≤B)(n:Nat):Canon (digs B n):=by
 induction n using Nat.strongRecOn with
 |_ n ih=>
  by_cases hn:n=0
  ·subst hn;rw[digs_zero];exact canon_nil
  ·rw[digs_pos hB hn]
   have h2:=ih _ (Nat.div_lt_self (n:=n) (k:=B) (by omega) (by omega))
   cases hd:digs B (n/B) with
   |nil=>
    have h0:n/B=0:=by rw[←val_digs hB (n/B),hd];rfl
    have:n<B:=by
     rcases Nat.div_eq_zero_iff.1 h0 with h|h
     ·omega
     ·exact h
    simp[Canon,Nat.mod_eq_of_lt this];exact hn
   |cons e l=>rw[hd] at h2;simpa[Canon,List.getLast?_cons_cons] using h2
theorem val_append(B:Nat)(a b:List Nat):val B (a++b)=val B a+B^a.length*val B b:=by
 induction a with
 |nil=>simp
 |cons d a ih=>
  rw[List.cons_append,val_cons,ih,val_cons,List.length_cons,Nat.pow_succ,Nat.mul_add,
 show B^a.length*B*val B b=B*(B^a.length*val B b) by rw[Nat.mul_comm (B^a.length) B,Nat.mul_assoc]]
  omega
theorem val_lt{B:Nat}(hB:1≤B):∀{l:List Nat},(∀d∈l,d<B)→val B l<B^l.length
 |[],_=>by simp
 |d::l,hl=>by
  have h1:=val_lt hB (l:=l) (fun x hx=>hl x (by simp[hx]))
  have hd:=hl d (by simp)
  rw[val_cons,List.length_cons,Nat.pow_succ]
  have:B*val B l+B≤B^l.length*B:=by
   have:=Nat.mul_le_mul_left B (Nat.succ_le_of_lt h1)
   rw[Nat.mul_comm (B^l.length) B]
   rw[Nat.mul_succ] at this
   exact this
  omega
theorem digs_length_le{B:Nat}(hB:2≤B){n k:Nat}(h:n<B^k):(digs B n).length≤k:=by
 induction k generalizing n with
 |zero=>simp at h;subst h;simp[digs_zero]
 |succ k ih=>
  by_cases hn:n=0
  ·subst hn;simp[digs_zero]
  ·rw[digs_pos hB hn,List.length_cons]
   have:=ih (n:=n/B) (by rw[Nat.div_lt_iff_lt_mul (by omega)];rwa [Nat.pow_succ] at h)
   omega
theorem lt_pow_digs{B:Nat}(hB:2≤B)(n:Nat):n<B^(digs B n).length:=by
 have:=val_lt (B:=B) (by omega) (l:=digs B n) (digs_lt hB)
 rwa [val_digs hB] at this
theorem le_of_pow_le{B:Nat}(hB:2≤B){n k:Nat}(h:B^k≤n):k<(digs B n).length:=by
 have h1:=lt_pow_digs hB n
 rcases Nat.lt_or_ge k (digs B n).length with h2|h2
 ·exact h2
 ·have:=Nat.pow_le_pow_right (n:=B) (by omega) h2
  omega
theorem digs_getElem?{B:Nat}(hB:2≤B)(n i:Nat)(hi:i<(digs B n).length):(digs B n)[i]? =some (n/B^i%B):=by
 induction i generalizing n with
 |zero=>
  by_cases hn:n=0
  ·subst hn;simp[digs_zero] at hi
  ·rw[digs_pos hB hn];simp
 |succ i ih=>
  by_cases hn:n=0
  ·subst hn;simp[digs_zero] at hi
  ·rw[digs_pos hB hn] at hi ⊢
   rw[List.getElem?_cons_succ,ih _ (by simpa using hi),Nat.div_div_eq_div_mul,Nat.pow_succ,Nat.mul_comm B]
end Go.Via
namespace Go.Via
theorem val_take_succ(B:Nat)(l:List Nat)(k:Nat)(hk:k<l.length):val B (l.take (k+1))=val B (l.take k)+B^k*l[k]:=by
 rw[List.take_succ_eq_append_getElem hk,val_append]
 simp[List.length_take,Nat.min_eq_left (Nat.le_of_lt hk)]
theorem val_snoc(B:Nat)(l:List Nat)(d:Nat):val B (l++[d])=val B l+B^l.length*d:=by
 rw[val_append];simp
theorem all_take{p:Nat→Prop}{l:List Nat}(h:∀d∈l,p d)(k:Nat):∀d∈l.take k,p d:=
 fun d hd=>h d (List.mem_of_mem_take hd)
theorem trim_end{B:Nat}(hB:2≤B){l:List Nat}(hl:∀d∈l,d<B){n:Nat}(hn:n≤l.length)(hv:val B (l.take n)=val B l)
 (hz:n=0∨∃h:n-1<l.length,l[n-1]≠0):l.take n=digs B (val B l):=by
 rw[←hv,digs_val hB (all_take hl n)]
 unfold Canon
 rcases hz with rfl|⟨h,hne⟩
 ·simp
 ·rw[List.getLast?_eq_getElem?,List.length_take,Nat.min_eq_left hn]
  by_cases h0:n=0
  ·subst h0;simp
  ·rw[List.getElem?_take,if_pos (by omega),List.getElem?_eq_getElem h]
   simpa using hne
theorem trim_step{B:Nat}{l:List Nat}{n:Nat}(hn:n+1≤l.length)(hv:val B (l.take (n+1))=val B l)(hz:l[n]=0):val B (l.take n)=val B l:=by
 rw[val_take_succ B l n (by omega),hz] at hv
 simpa using hv
theorem canon_lt_of_length{B:Nat}(hB:2≤B){a b:Nat}(h:(digs B a).length<(digs B b).length):a<b:=by
 have h1:=lt_pow_digs hB a
 rcases Nat.lt_or_ge a b with h2|h2
 ·exact h2
 ·have:=digs_length_le hB (n:=b) (k:=(digs B a).length) (by omega)
  omega
theorem digs_length_mono{B:Nat}(hB:2≤B){a b:Nat}(h:a≤b):(digs B a).length≤(digs B b).length:=
 digs_length_le hB (Nat.lt_of_le_of_lt h (lt_pow_digs hB b))
theorem digs_eq_nil{B:Nat}(hB:2≤B){n:Nat}:digs B n=[]↔n=0:=by
 constructor
 ·intro h;have:=val_digs hB n;rw[h] at this;exact this.symm
 ·rintro rfl;exact digs_zero B
theorem digs_one_digit{B:Nat}(hB:2≤B){d:Nat}(h0:d≠0)(h:d<B):digs B d=[d]:=by
 rw[digs_pos hB h0,Nat.mod_eq_of_lt h,Nat.div_eq_of_lt h,digs_zero]
end Go.Via
namespace Go.Via
theorem guess_down{B Y y1 y2 Yr X high x2 Xr P g rest:Nat}(hP:0<P)(hY:Y=(y1*B+y2)*P+Yr)(hX:X=(high*B+x2)*P+Xr)(hXr:Xr<P)
 (hg:g*y1+rest=high)(hyp:0<Y)(ht:g*y2>rest*B+x2):X/Y<g:=by
 rw[Nat.div_lt_iff_lt_mul hyp]
 have h1:g*(y1*B+y2)=g*y1*B+g*y2:=by grind
 have h2:(high*B+x2)+1≤g*(y1*B+y2):=by
  rw[h1,←hg]
  have:(g*y1+rest)*B=g*y1*B+rest*B:=by grind
  omega
 have h3:=Nat.mul_le_mul_right P h2
 have h4:g*Y=g*(y1*B+y2)*P+g*Yr:=by rw[hY];grind
 have h5:(high*B+x2+1)*P=(high*B+x2)*P+P:=by grind
 omega
theorem guess_start{B Y y1 y2 Yr X high x2 Xr P:Nat}(_hP:0<P)(hY:Y=(y1*B+y2)*P+Yr)(hX:X=(high*B+x2)*P+Xr)(hXr:Xr<P)(hx2:x2<B)
 (hy1:0<y1)(hyp:0<Y):X/Y≤high/y1:=by
 have h0:X/Y<high/y1+1:=by
  rw[Nat.div_lt_iff_lt_mul hyp]
  have h1:high+1≤(high/y1+1)*y1:=by
   have:=Nat.div_add_mod high y1
   have:=Nat.mod_lt high hy1
   have:(high/y1+1)*y1=y1*(high/y1)+y1:=by grind
   omega
  have h2:=Nat.mul_le_mul_right (B*P) h1
  have h3:(high/y1+1)*Y=(high/y1+1)*y1*(B*P)+(high/y1+1)*(y2*P+Yr):=by rw[hY];grind
  have h4:(high+1)*(B*P)=high*B*P+B*P:=by grind
  have h5:(high*B+x2)*P=high*B*P+x2*P:=by grind
  have h6:(x2+1)*P≤B*P:=Nat.mul_le_mul_right P hx2
  have h7:(x2+1)*P=x2*P+P:=by grind
  omega
 omega
theorem guess_end{B Y y1 y2 Yr X high x2 Xr P g rest:Nat}(hY:Y=(y1*B+y2)*P+Yr)(hX:X=(high*B+x2)*P+Xr)
 (hYr:Yr<P)(hy1:0<y1)(hy2:y2<B)(hg:g*y1+rest=high)(hyp:0<Y)(hgB:g≤B)(ht:g*y2≤rest*B+x2∨B≤rest):g≤X/Y+1:=by
 have h1:g*(y1*B+y2)≤high*B+x2:=by
  have e1:g*(y1*B+y2)=g*y1*B+g*y2:=by grind
  have e2:high*B=g*y1*B+rest*B:=by rw[←hg];grind
  rcases ht with h|h
  ·omega
  ·have a1:g*y2≤B*y2:=Nat.mul_le_mul_right _ hgB
   have a2:B*y2≤B*B:=Nat.mul_le_mul_left _ (by omega)
   have a3:B*B≤rest*B:=Nat.mul_le_mul_right _ h
   omega
 have h2:=Nat.mul_le_mul_right P h1
 have h3:g*Y=g*(y1*B+y2)*P+g*Yr:=by rw[hY];grind
 have h4:g*Yr≤g*P:=Nat.mul_le_mul_left _ (by omega)
 have h5:g*P≤B*P:=Nat.mul_le_mul_right _ hgB
 have h6:B*P≤Y:=by
  have b1:1*(B*P)≤y1*(B*P):=Nat.mul_le_mul_right _ hy1
  have b2:Y=y1*(B*P)+(y2*P+Yr):=by rw[hY];grind
  omega
 have h7:g*Y≤X+Y:=by omega
 rcases Nat.lt_or_ge (X/Y+1) g with h|h
 ·exfalso
  have c1:(X/Y+2)*Y≤g*Y:=Nat.mul_le_mul_right _ h
  have c2:(X/Y+2)*Y=Y*(X/Y)+Y+Y:=by grind
  have c3:=Nat.div_add_mod X Y
  have c4:=Nat.mod_lt X hyp
  omega
 ·exact h
theorem high_le{B Y y1 y2 Yr X high x2 Xr P:Nat}(hY:Y=(y1*B+y2)*P+Yr)(hX:X=(high*B+x2)*P+Xr)(hYr:Yr<P)
 (hy2:y2<B)(hXY:X<B*Y):high<(y1+1)*B:=by
 rcases Nat.lt_or_ge high ((y1+1)*B) with h|h
 ·exact h
 ·exfalso
  have h1:=Nat.mul_le_mul_right (B*P) h
  have h2:X=high*(B*P)+(x2*P+Xr):=by rw[hX];grind
  have h3:(y1+1)*B*(B*P)=B*(y1*B*P+B*P):=by grind
  have h4:Y≤y1*B*P+B*P:=by
   have:(y2+1)*P≤B*P:=Nat.mul_le_mul_right _ hy2
   have e1:(y2+1)*P=y2*P+P:=by grind
   have e2:(y1*B+y2)*P=y1*B*P+y2*P:=by grind
   omega
  have h5:=Nat.mul_le_mul_left B h4
  omega
end Go.Via
namespace Go.Via
def natL(l:List UInt8):Nat:=val 256 (l.reverse.map UInt8.toNat)
def natB(s:ByteArray):Nat:=natL s.data.toList
def magL(n:Nat):List UInt8:=(digs 256 n).reverse.map UInt8.ofNat
def mag(n:Nat):ByteArray:=⟨(magL n).toArray⟩
def nb(n:Nat):Nat:=(digs 256 n).length
theorem mag_list(n:Nat):(mag n).data.toList=magL n:=rfl
theorem magL_length(n:Nat):(magL n).length=nb n:=by simp[magL,nb]
theorem mag_size(n:Nat):(mag n).size=nb n:=by
 show(magL n).toArray.size=_
 simp[magL_length]
theorem bytes_lt(l:List UInt8):∀d∈l.reverse.map UInt8.toNat,d<256:=by
 intro d hd
 obtain⟨u,_,rfl⟩:=List.mem_map.1 hd
 exact u.toNat_lt
theorem map_ofNat_toNat(l:List UInt8):(l.map UInt8.toNat).map UInt8.ofNat=l:=by
 rw[List.map_map]
 conv=>rhs;rw[←List.map_id l]
 exact List.map_congr_left (fun u _=>by simp)
theorem map_toNat_ofNat{l:List Nat}(h:∀d∈l,d<256):(l.map UInt8.ofNat).map UInt8.toNat=l:=by
 rw[List.map_map]
 conv=>rhs;rw[←List.map_id l]
 exact List.map_congr_left (fun u hu=>by have:=h u hu;simp;omega)
theorem natL_magL(n:Nat):natL (magL n)=n:=by
 unfold natL magL
 rw[←List.map_reverse,List.reverse_reverse,map_toNat_ofNat (digs_lt (by omega)),val_digs (by omega)]
theorem natB_mag(n:Nat):natB (mag n)=n:=natL_magL n
theorem mag_inj{a b:Nat}:mag a=mag b↔a=b:=by
 constructor
 ·intro h;have:=congrArg natB h;rwa [natB_mag,natB_mag] at this
 ·rintro rfl;rfl
def CanB(s:ByteArray):Prop:=s.data.toList.head? ≠some 0
theorem magL_natL{l:List UInt8}(h:l.head? ≠some 0):magL (natL l)=l:=by
 unfold magL natL
 rw[digs_val (by omega) (bytes_lt l)]
 ·rw[←List.map_reverse,List.reverse_reverse,map_ofNat_toNat]
 ·unfold Canon
  rw[List.getLast?_map,List.getLast?_reverse]
  cases hh:l.head? with
  |none=>simp
  |some u=>
   simp only[Option.map_some,ne_eq,Option.some.injEq]
   intro hu
   apply h
   rw[hh]
   congr 1
   exact UInt8.toNat_inj.1 (by simpa using hu)
theorem mag_natB{s:ByteArray}(h:CanB s):mag (natB s)=s:=by
 cases s with
 |mk d=>
  show ByteArray.mk (magL (natL d.toList)).toArray=_
  rw[magL_natL h]
theorem canB_mag(n:Nat):CanB (mag n):=by
 unfold CanB
 rw[mag_list]
 unfold magL
 rw[List.head?_map,List.head?_reverse]
 have h:=digs_canon (B:=256) (by omega) n
 unfold Canon at h
 cases hl:(digs 256 n).getLast? with
 |none=>simp
 |some d=>
  have hd:d<256:=digs_lt (by omega) d (List.mem_of_getLast? hl)
  simp only[Option.map_some,ne_eq,Option.some.injEq]
  intro hu
  have:=congrArg UInt8.toNat hu
  simp at this
  rw[Nat.mod_eq_of_lt hd] at this
  rw[hl,this] at h
  exact h rfl
theorem nb_eq_zero{n:Nat}:nb n=0↔n=0:=by
 unfold nb;rw[List.length_eq_zero_iff,digs_eq_nil (by omega)]
theorem nb_le{n k:Nat}(h:n<256^k):nb n≤k:=digs_length_le (by omega) h
theorem lt_nb(n:Nat):n<256^nb n:=lt_pow_digs (by omega) n
theorem lt_of_nb_le{n k:Nat}(h:nb n≤k):n<256^k:=Nat.lt_of_lt_of_le (lt_nb n) (Nat.pow_le_pow_right (by omega) h)
theorem nb_mono{a b:Nat}(h:a≤b):nb a≤nb b:=digs_length_mono (by omega) h
theorem nb_add(a b:Nat):nb (a+b)≤max (nb a) (nb b)+1:=by
 apply nb_le
 have h1:=lt_of_nb_le (n:=a) (k:=max (nb a) (nb b)) (by omega)
 have h2:=lt_of_nb_le (n:=b) (k:=max (nb a) (nb b)) (by omega)
 rw[Nat.pow_succ];omega
theorem nb_mul(a b:Nat):nb (a*b)≤nb a+nb b:=by
 apply nb_le
 rw[Nat.pow_add]
 exact Nat.mul_lt_mul'' (lt_nb a) (lt_nb b)
theorem nb_div(a b:Nat):nb (a/b)≤nb a:=nb_mono (Nat.div_le_self a b)
theorem nb_gcd_left(a b:Nat)(h:a≠0):nb (Nat.gcd a b)≤nb a:=nb_mono (Nat.gcd_le_left b (by omega))
theorem mag_zero:mag 0=⟨#[]⟩:=by show ByteArray.mk (magL 0).toArray=_;simp[magL,digs_zero]
theorem mag_one:mag 1=⟨#[1]⟩:=by
 show ByteArray.mk (magL 1).toArray=_
 rw[magL,digs_one_digit (by omega) (by omega) (by omega)];rfl
theorem magL_getElem?(n i:Nat)(hi:i<nb n):(magL n)[i]? =some (UInt8.ofNat (n/256^(nb n-1-i)%256)):=by
 unfold magL
 rw[List.getElem?_map,List.getElem?_reverse (by simpa[nb] using hi)]
 have:=digs_getElem? (B:=256) (by omega) n (nb n-1-i) (by unfold nb at*;omega)
 unfold nb at*
 rw[this];rfl
end Go.Via
namespace Go.Via
open Go
inductive MT where
 |l (n:Nat)
 |p (a b:MT)
def pr(a b:Nat):Nat:=2^a*(2*b+1)
theorem pr_inj:∀{a b c d:Nat},pr a b=pr c d→a=c∧b=d
 |0,b,0,d,h=>by simp[pr] at h;exact⟨rfl,by omega⟩
 |0,b,c+1,d,h=>by
  unfold pr at h
  rw[Nat.pow_succ,Nat.pow_zero,Nat.one_mul,Nat.mul_comm (2^c) 2,Nat.mul_assoc] at h
  omega
 |a+1,b,0,d,h=>by
  unfold pr at h
  rw[Nat.pow_succ,Nat.pow_zero,Nat.one_mul,Nat.mul_comm (2^a) 2,Nat.mul_assoc] at h
  omega
 |a+1,b,c+1,d,h=>by
  unfold pr at h
  rw[Nat.pow_succ,Nat.pow_succ,Nat.mul_comm (2^a) 2,Nat.mul_comm (2^c) 2,Nat.mul_assoc,Nat.mul_assoc] at h
  have h2:pr a b=pr c d:=by unfold pr;omega
  obtain⟨h3,h4⟩:=pr_inj h2
  exact⟨by omega,h4⟩
def MT.num:MT→Nat
 | .l n=>2*n
 | .p a b=>2*pr a.num b.num+1
theorem MT.num_inj:∀{x y:MT},x.num=y.num→x=y
 | .l a,.l b,h=>by simp only[MT.num] at h;rw[show a=b by omega]
 | .l a,.p b c,h=>by simp only[MT.num] at h;omega
 | .p b c,.l a,h=>by simp only[MT.num] at h;omega
 | .p a b,.p c d,h=>by
   simp only[MT.num] at h
   obtain⟨h1,h2⟩:=pr_inj (a:=a.num) (b:=b.num) (c:=c.num) (d:=d.num) (by omega)
   rw[MT.num_inj h1,MT.num_inj h2]
def mtL{α:Type}(f:α→MT):List α→MT
 |[]=> .l 0
 |x::xs=> .p (f x) (mtL f xs)
theorem mtL_inj{α:Type}{f:α→MT}{Q:α→Prop}(hf:∀x y,Q x→Q y→f x=f y→x=y):∀{xs ys:List α},(∀x∈xs,Q x)→(∀y∈ys,Q y)→mtL f xs=mtL f ys→xs=ys
 |[],[],_,_,_=>rfl
 |[],_::_,_,_,h=>by cases h
 |_::_,[],_,_,h=>by cases h
 |x::xs,y::ys,hx,hy,h=>by
  simp only[mtL,MT.p.injEq] at h
  rw[hf x y (hx x (by simp)) (hy y (by simp)) h.1,mtL_inj hf (fun z hz=>hx z (by simp[hz])) (fun z hz=>hy z (by simp[hz])) h.2]
def mtI(z:Int):MT:=if z<0 then .p (.l 1) (.l z.natAbs) else .p (.l 0) (.l z.natAbs)
theorem mtI_inj{a b:Int}(h:mtI a=mtI b):a=b:=by
 unfold mtI at h
 split at h<;>split at h<;>simp at h<;>omega
def ikN:IntKind→Nat
 | .i8=>0| .i16=>1| .i32=>2| .i64=>3| .u8=>4| .u16=>5| .u32=>6| .u64=>7
theorem ikN_inj:∀{a b:IntKind},ikN a=ikN b→a=b:=by intro a b;cases a<;>cases b<;>simp[ikN]
def Value.simple0:Value→Bool
 | .bool _| .int .. | .string _=>true
 |_=>false
def Value.simple:Value→Bool
 | .agg xs=>xs.toList.all Value.simple0
 |v=>Value.simple0 v
def mt0:Value→MT
 | .bool b=> .p (.l 0) (.l b.toNat)
 | .int k z=> .p (.l 1) (.p (.l (ikN k)) (mtI z))
 | .string s=> .p (.l 2) (mtL (fun u:UInt8=> .l u.toNat) s.data.toList)
 |_=> .l 9
theorem mt0_inj{x y:Value}(hx:Value.simple0 x=true)(hy:Value.simple0 y=true)(h:mt0 x=mt0 y):x=y:=by
 cases x<;>cases y<;>first|(simp[Value.simple0] at hx;done)|(simp[Value.simple0] at hy;done)|skip
 case bool.bool a b=>simp[mt0] at h;cases a<;>cases b<;>simp at h<;>rfl
 case int.int k a j b=>
  simp[mt0] at h
  rw[ikN_inj h.1,mtI_inj h.2]
 case string.string a b=>
  simp only[mt0,MT.p.injEq,true_and] at h
  have:=mtL_inj (Q:=fun _=>True) (fun x y _ _ h=>UInt8.toNat_inj.1 (MT.l.inj h)) (fun _ _=>trivial) (fun _ _=>trivial) h
  have h2:a.data=b.data:=Array.toList_inj.1 this
  cases a;cases b;simp at h2;rw[h2]
 all_goals (simp[mt0] at h)
def mt1:Value→MT
 | .agg xs=> .p (.l 8) (mtL mt0 xs.toList)
 |v=>mt0 v
theorem mt1_inj{x y:Value}(hx:Value.simple x=true)(hy:Value.simple y=true)(h:mt1 x=mt1 y):x=y:=by
 have key:∀(xs:Array Value) (v:Value),Value.simple0 v=true→mt1 (.agg xs)≠mt0 v:=fun xs v hv e=>by
  cases v<;>simp[Value.simple0] at hv<;>simp[mt1,mt0] at e
 have one:∀v:Value,(∀xs,v≠ .agg xs)→Value.simple v=Value.simple0 v∧mt1 v=mt0 v:=fun v hv=>by
  cases v<;>first|exact⟨rfl,rfl⟩|exact absurd rfl (hv _)
 by_cases cx:∃xs,x= .agg xs
 ·obtain⟨xs,rfl⟩:=cx
  by_cases cy:∃ys,y= .agg ys
  ·obtain⟨ys,rfl⟩:=cy
   simp only[mt1,MT.p.injEq,true_and] at h
   have:=mtL_inj (Q:=fun v=>Value.simple0 v=true) (fun _ _ h1 h2=>mt0_inj h1 h2) (fun v hv=>List.all_eq_true.1 hx v hv) (fun v hv=>List.all_eq_true.1 hy v hv) h
   rw[Array.toList_inj.1 this]
  ·obtain⟨e1,e2⟩:=one y (fun ys e=>cy ⟨ys,e⟩)
   rw[e2] at h
   exact absurd h (key xs y (by rw[←e1];exact hy))
 ·obtain⟨e1,e2⟩:=one x (fun ys e=>cx ⟨ys,e⟩)
  by_cases cy:∃ys,y= .agg ys
  ·obtain⟨ys,rfl⟩:=cy
   rw[e2] at h
   exact absurd h.symm (key ys x (by rw[←e1];exact hx))
  ·obtain⟨d1,d2⟩:=one y (fun ys e=>cy ⟨ys,e⟩)
   rw[e2,d2] at h
   exact mt0_inj (by rw[←e1];exact hx) (by rw[←d1];exact hy) h
def simpleL(l:List (Value×Value)):Bool:=l.all fun p=>Value.simple p.1&&Value.simple p.2
def mtM(l:List (Value×Value)):MT:=mtL (fun p=> .p (mt1 p.1) (mt1 p.2)) l
theorem mtM_inj{l m:List (Value×Value)}(hl:simpleL l=true)(hm:simpleL m=true)(h:mtM l=mtM m):l=m:=
 mtL_inj (Q:=fun p=>Value.simple p.1=true∧Value.simple p.2=true) (fun x y h1 h2 h=>Prod.ext (mt1_inj h1.1 h2.1 (MT.p.inj h).1) (mt1_inj h1.2 h2.2 (MT.p.inj h).2))
  (fun p hp=>by have:=List.all_eq_true.1 hl p hp;simpa using this) (fun p hp=>by have:=List.all_eq_true.1 hm p hp;simpa using this) h
theorem mE_ex:∃f:List (Value×Value)→Nat,∀l m,simpleL l=true→simpleL m=true→f l=f m→l=m:=
 ⟨fun l=>(mtM l).num,fun _ _ hl hm h=>mtM_inj hl hm (MT.num_inj h)⟩
noncomputable def mE0:List (Value×Value)→Nat:=Classical.choose mE_ex
abbrev mapMark:Nat:=1000000
noncomputable def mE(l:List (Value×Value)):Nat:=mapMark+2*mE0 l
theorem mE_ge(l:List (Value×Value)):¬mE l<mapMark:=by unfold mE;omega
theorem mE_inj{l m:List (Value×Value)}(hl:simpleL l=true)(hm:simpleL m=true)(h:mE l=mE m):l=m:=Classical.choose_spec mE_ex l m hl hm (by unfold mE at h;unfold mE0 at h;omega)
noncomputable def mQ(born:Nat)(key:Value)(l:List (Value×Value)):Nat:=mapMark+2*mE0 ((.int .i64 born,key)::l)+1
theorem mEQ_ne{l m:List (Value×Value)}{b:Nat}{k:Value}:mE l≠mQ b k m:=by unfold mE mQ;omega
def Value.simpleT:Value→Bool
 | .bool _| .int .. | .string _| .slice .. | .pointer _=>true
 |_=>false
def mtA:Option Addr→MT
 |none=> .l 0
 |some ⟨b,o,none⟩=> .p (.l 0) (.p (.l b) (.l o))
 |some ⟨b,o,some s⟩=> .p (.l 1) (.p (.l b) (.p (.l o) (.l s)))
theorem mtA_inj:∀{a b:Option Addr},mtA a=mtA b→a=b
 |none,none,_=>rfl
 |none,some ⟨_,_,none⟩,h=>by simp[mtA] at h
 |none,some ⟨_,_,some _⟩,h=>by simp[mtA] at h
 |some ⟨_,_,none⟩,none,h=>by simp[mtA] at h
 |some ⟨_,_,some _⟩,none,h=>by simp[mtA] at h
 |some ⟨_,_,none⟩,some ⟨_,_,none⟩,h=>by simp[mtA] at h;simp[h]
 |some ⟨_,_,none⟩,some ⟨_,_,some _⟩,h=>by simp[mtA] at h
 |some ⟨_,_,some _⟩,some ⟨_,_,none⟩,h=>by simp[mtA] at h
 |some ⟨_,_,some _⟩,some ⟨_,_,some _⟩,h=>by simp[mtA] at h;simp[h]
def mtT:Value→MT
 | .slice a l c=> .p (.l 3) (.p (mtA a) (.p (.l l) (.l c)))
 | .pointer a=> .p (.l 4) (mtA a)
 |v=>mt0 v
theorem mtT_inj{x y:Value}(hx:Value.simpleT x=true)(hy:Value.simpleT y=true)(h:mtT x=mtT y):x=y:=by
 cases x<;>cases y<;>first|(simp[Value.simpleT] at hx;done)|(simp[Value.simpleT] at hy;done)|skip
 case slice.slice a l c a' l' c'=>
  simp[mtT] at h
  rw[mtA_inj h.1,h.2.1,h.2.2]
 case pointer.pointer a b=>
  simp[mtT] at h
  rw[mtA_inj h]
 all_goals first|(exact mt0_inj rfl rfl h)|(simp[mtT,mt0] at h)
abbrev Tab:=List (Nat×List Value)
def gtOK(T:Tab):Bool:=T.all fun p=>p.2.all Value.simpleT
def mtTab(T:Tab):MT:=mtL (fun p=> .p (.l p.1) (mtL mtT p.2)) T
theorem mtTab_inj{T U:Tab}(hT:gtOK T=true)(hU:gtOK U=true)(h:mtTab T=mtTab U):T=U:=
 mtL_inj (Q:=fun p=>p.2.all Value.simpleT=true) (fun x y h1 h2 h=>Prod.ext (MT.l.inj (MT.p.inj h).1) (mtL_inj (Q:=fun v=>Value.simpleT v=true) (fun _ _ a b e=>mtT_inj a b e) (fun v hv=>List.all_eq_true.1 h1 v hv) (fun v hv=>List.all_eq_true.1 h2 v hv) (MT.p.inj h).2))
  (fun p hp=>List.all_eq_true.1 hT p hp) (fun p hp=>List.all_eq_true.1 hU p hp) h
theorem gE_ex:∃f:Tab→Nat,∀T U,gtOK T=true→gtOK U=true→f T=f U→T=U:=
 ⟨fun T=>(mtTab T).num,fun _ _ hT hU h=>mtTab_inj hT hU (MT.num_inj h)⟩
noncomputable def gE(T:Tab):Nat:=mapMark+Classical.choose gE_ex T
theorem gE_ge(T:Tab):¬gE T<mapMark:=by unfold gE;omega
theorem gE_inj{T U:Tab}(hT:gtOK T=true)(hU:gtOK U=true)(h:gE T=gE U):T=U:=Classical.choose_spec gE_ex T U hT hU (by unfold gE at h;omega)
theorem gtOK_append{T U:Tab}:gtOK (T++U)=(gtOK T&&gtOK U):=by simp[gtOK]
theorem gtOK_cons{p:Nat×List Value}{T:Tab}:gtOK (p::T)=(p.2.all Value.simpleT&&gtOK T):=rfl
end Go.Via
namespace Go.Via
open Go Go.RowKit
structure Blk where
 base:Option Nat
 e:TypeId
 cs:List Value
 n:Nat
 own:Bool
structure St where
 nt:Nat
 t:List (Nat×Value)
 L:List Blk
def look:List (Nat×Value)→Nat→Option Value
 |[],_=>none
 |(d,v)::l,k=>bif d==k then some v else look l k
structure Bs where
 w:World
 S:Nat→Prop
 D:List Deferred
abbrev Bs.of(w:World):Bs:=⟨w,fun _=>False,[]⟩
abbrev Bs.d0(B:Bs):Bs:=⟨B.w,B.S,[]⟩
instance:Coe World Bs:=⟨Bs.of⟩
def Bs.own(B:Bs)(g:Nat):Prop:=B.w.heap.size≤g∨B.S g
def Bs.le(B B':Bs):Prop:=∀g,B'.own g→B.own g
theorem own_w{w:World}{g:Nat}(h:Bs.own (Bs.of w) g):w.heap.size≤g:=h.elim id False.elim
structure BelowB(B:Bs)(w:World):Prop where
 os:w.os=B.w.os
 tape:w.tape=B.w.tape
 output:w.output=B.w.output
 size:B.w.heap.size≤w.heap.size
 block:∀k,k<B.w.heap.size→¬B.S k→w.heap[k]? =B.w.heap[k]?
theorem BelowB.drew{B:Bs}{w:World}(h:BelowB B w):BelowB B w.drew:=⟨h.os,h.tape,h.output,h.size,h.block⟩
theorem BelowB.trans{B:Bs}{a c:World}(h:BelowB B a)(k:Below B.w.heap.size a c):BelowB B c:=
 ⟨k.os.trans h.os,k.tape.trans h.tape,k.output.trans h.output,Nat.le_trans h.size k.size,fun i hi hS=>(k.block i hi).trans (h.block i hi hS)⟩
theorem BelowB.le{B:Bs}{w:World}(h:BelowB B w):Bs.le B w:=fun g hg=>by
 rcases hg with hg|hg
 ·exact .inl (Nat.le_trans h.size hg)
 ·exact hg.elim
theorem BelowB.below{b w:World}(h:BelowB b w):Below b.heap.size b w:=⟨h.os,h.tape,h.output,h.size,fun k hk=>h.block k hk id⟩
theorem BelowB.of{b w:World}(h:Below b.heap.size b w):BelowB b w:=⟨h.os,h.tape,h.output,h.size,fun k hk _=>h.block k hk⟩
theorem BelowB.one{B:Bs}{a c:World}{g:Nat}(h:BelowB B a)(hg:B.own g)(h1:c.os=a.os)(h2:c.tape=a.tape)(h3:c.output=a.output)(h4:a.heap.size≤c.heap.size)(h5:∀i,i≠g→c.heap[i]? =a.heap[i]?):BelowB B c:=
 ⟨h1.trans h.os,h2.trans h.tape,h3.trans h.output,Nat.le_trans h.size h4,fun i hi hS=>(h5 i (fun e=>by
 subst e
 rcases hg with hg|hg
 ·omega
 ·exact hS hg)).trans (h.block i hi hS)⟩
def CellsAt(w:World)(b:Blk)(g:Nat):Prop:=
 ∃cur:Array Value,(∃(e':TypeId) (fr:Nat×Nat),w.heap[g]? =some (.cells cur e' fr)∧(b.own=true→e'=b.e∧fr=(0,0))∧b.e<mapMark)∧cur.size=b.n∧cur.toList.take b.cs.length=b.cs
def Holds(e:Nat)(l:List (Value×Value))(es:Array MapEntry):Prop:=
 e=mE l∨∃(q:Nat) (z:MapEntry),e=mQ z.born z.key l∧es[q]? =some z∧Value.simple z.key=true
def MapAt(w:World)(b:Blk)(g:Nat):Prop:=
 ∃(l:List (Value×Value)) (es:Array MapEntry) (clock:Nat),Holds b.e l es∧b.cs=[]∧b.n=0∧simpleL l=true∧w.heap[g]? =some (.map es clock)∧es.toList.map (fun e=>(e.key,e.val))=l∧MapKept.Stamped es clock
def BlkAt(B:Bs)(w:World)(b:Blk)(g:Nat):Prop:=(CellsAt w b g∨MapAt w b g)∧(b.own=true→B.own g)
theorem BlkAt.cells{B:Bs}{w:World}{b:Blk}{g:Nat}(h:BlkAt B w b g)(hn:b.n≠0∨b.cs≠[]):CellsAt w b g:=by
 rcases h.1 with h|⟨_,_,_,_,h1,h2,_⟩
 ·exact h
 ·rcases hn with hn|hn
  ·exact absurd h2 hn
  ·exact absurd h1 hn
theorem BlkAt.lt{B:Bs}{w:World}{b:Blk}{g:Nat}(h:BlkAt B w b g):g<w.heap.size:=by
 rcases h.1 with⟨cur,⟨_,_,h3,_⟩,_⟩|⟨_,_,_,_,_,_,_,h3,_⟩<;>exact(Array.getElem?_eq_some_iff.1 h3).1
theorem BlkAt.heap{B:Bs}{w w':World}{b:Blk}{g:Nat}(h:BlkAt B w b g)(he:w'.heap[g]? =w.heap[g]?):BlkAt B w' b g:=by
 refine⟨?_,h.2⟩
 rcases h.1 with⟨cur,⟨e',fr,h3,h4⟩,h5⟩|⟨l,es,c,a1,a2,a3,a4,h3,a5⟩
 ·exact .inl ⟨cur,⟨e',fr,by rw[he];exact h3,h4⟩,h5⟩
 ·exact .inr ⟨l,es,c,a1,a2,a3,a4,by rw[he];exact h3,a5⟩
def tyRow(e n:Nat):List Value:=[.bool true,.int .u8 (-1),.int .i64 e,.int .i64 n]
def noTy:List Value→Bool
 |[_,.int .u8 (.negSucc _),_,_]=>false
 |_=>true
theorem noTy_len{cs:List Value}(h:5≤cs.length):noTy cs=true:=by
 unfold noTy
 split
 ·simp at h
 ·rfl
def itRow(s:ByteArray)(pos:Nat):List Value:=[.string s,.int .u8 (-1),.int .i64 (pos:Nat),.bool true]
def isHole:Value→Bool
 | .int .u8 (.negSucc 1)=>true
 |_=>false
def Agr(cs full:List Value):Prop:=full.length≤cs.length∧∀(j:Nat) (v:Value),cs[j]? =some v→isHole v=false→full[j]? =some v
theorem Agr.refl(cs:List Value):Agr cs cs:=⟨Nat.le_refl _,fun _ _ h _=>h⟩
theorem Agr.eq{cs full:List Value}(h:Agr cs full)(hn:∀v∈cs,isHole v=false):full=cs:=by
 refine List.ext_getElem? fun j=>?_
 cases hc:cs[j]? with
 |none=>
  have:=List.getElem?_eq_none_iff.1 hc
  exact List.getElem?_eq_none (by have:=h.1;omega)
 |some v=>exact h.2 j v hc (hn v (List.mem_of_getElem? hc))
theorem Agr.cut{cs full:List Value}(h:Agr cs full){off n:Nat}{vs:List Value}(hv:(cs.drop off).take n=vs)(hl:vs.length=n)(hn:vs.all (fun v=> !isHole v)=true):(full.drop off).take n=vs:=by
 refine List.ext_getElem? fun j=>?_
 by_cases hj:j<n
 ·have h1:(cs.drop off)[j]? =vs[j]? :=by rw[←hv,List.getElem?_take,if_pos hj]
  obtain⟨v,hv2⟩:∃v,vs[j]? =some v:=⟨vs[j]'(by omega),List.getElem?_eq_getElem _⟩
  rw[hv2,List.getElem?_drop] at h1
  have h2:=h.2 _ v h1 (by have:=List.all_eq_true.1 hn v (List.mem_of_getElem? hv2);simpa using this)
  rw[List.getElem?_take,if_pos hj,List.getElem?_drop,h2,hv2]
 ·rw[List.getElem?_take,if_neg hj,List.getElem?_eq_none (by omega)]
def TabCell(w:World)(p:Nat×List Value):Prop:=
 (∃(cur:Array Value) (e':TypeId) (fr:Nat×Nat),w.heap[p.1]? =some (.cells cur e' fr)∧((noTy p.2=true∧Agr p.2 (cur.toList.take p.2.length))∨p.2=tyRow e' cur.size))∨∃(s:ByteArray) (pos:Nat),w.heap[p.1]? =some (.stringIter s pos)∧p.2=itRow s pos
theorem TabCell.lt{w:World}{p:Nat×List Value}(h:TabCell w p):p.1<w.heap.size:=by
 rcases h with⟨_,_,_,h1,_⟩|⟨_,_,h1,_⟩<;>exact(Array.getElem?_eq_some_iff.1 h1).1
theorem TabCell.heap{w w':World}{p:Nat×List Value}(h:TabCell w p)(he:w'.heap[p.1]? =w.heap[p.1]?):TabCell w' p:=by
 rcases h with⟨cur,e',fr,h1,h2⟩|⟨s,pos,h1,h2⟩
 ·exact .inl ⟨cur,e',fr,by rw[he];exact h1,h2⟩
 ·exact .inr ⟨s,pos,by rw[he];exact h1,h2⟩
def GrpOK(B:Bs)(w:World)(L:List Blk):Prop:=∀b∈L,b.base=none→∀T:Tab,gtOK T=true→b.e=gE T→∀p∈T,TabCell w p∧(b.own=true→B.own p.1)∧∀c∈L,c.own=true→c.base≠some p.1
theorem GrpOK.sub{B:Bs}{w:World}{L L':List Blk}(h:GrpOK B w L)(h1:∀b'∈L',b'.base=none→b'.e<mapMark∨∃b∈L,b.base=none∧b.e=b'.e∧(b'.own=true→b.own=true))
 (h2:∀c'∈L',c'.own=true→∀g,c'.base=some g→∃c∈L,c.own=true∧c.base=some g):GrpOK B w L':=fun b' hb' hn T hT he p hp=>by
 rcases h1 b' hb' hn with hlt|⟨b,hb,n1,n2,n3⟩
 ·exact absurd (he▸hlt) (gE_ge T)
 ·obtain⟨a1,a2,a3⟩:=h b hb n1 T hT (n2.trans he) p hp
  refine⟨a1,fun ho=>a2 (n3 ho),fun c' hc' ho hg=>?_⟩
  obtain⟨c,hc,c1,c2⟩:=h2 c' hc' ho p.1 hg
  exact a3 c hc c1 c2
theorem GrpOK.step{B:Bs}{w w':World}{L:List Blk}(h:GrpOK B w L)(hw:∀g,g<w.heap.size→(∀c∈L,c.own=true→c.base≠some g)→w'.heap[g]? =w.heap[g]?):GrpOK B w' L:=fun b hb hn T hT he p hp=>by
 obtain⟨a1,a2,a3⟩:=h b hb hn T hT he p hp
 exact⟨a1.heap (hw p.1 a1.lt a3),a2,a3⟩
theorem GrpOK.base{B B':Bs}{w:World}{L:List Blk}(h:GrpOK B' w L)(hB:Bs.le B B'):GrpOK B w L:=fun b hb hn T hT he p hp=>by
 obtain⟨a1,a2,a3⟩:=h b hb hn T hT he p hp
 exact⟨a1,fun ho=>hB _ (a2 ho),a3⟩
theorem GrpOK.app{B:Bs}{w:World}{L new:List Blk}(h:GrpOK B w L)(hn:GrpOK B w new)
 (h1:∀b∈L,b.base=none→∀T:Tab,gtOK T=true→b.e=gE T→∀p∈T,∀c∈new,c.own=true→c.base≠some p.1)
 (h2:∀b∈new,b.base=none→∀T:Tab,gtOK T=true→b.e=gE T→∀p∈T,∀c∈L,c.own=true→c.base≠some p.1):GrpOK B w (L++new):=fun b hb hn' T hT he p hp=>by
 rcases List.mem_append.1 hb with hb|hb
 ·obtain⟨a1,a2,a3⟩:=h b hb hn' T hT he p hp
  refine⟨a1,a2,fun c hc ho=>?_⟩
  rcases List.mem_append.1 hc with hc|hc
  ·exact a3 c hc ho
  ·exact h1 b hb hn' T hT he p hp c hc ho
 ·obtain⟨a1,a2,a3⟩:=hn b hb hn' T hT he p hp
  refine⟨a1,a2,fun c hc ho=>?_⟩
  rcases List.mem_append.1 hc with hc|hc
  ·exact h2 b hb hn' T hT he p hp c hc ho
  ·exact a3 c hc ho
theorem GrpOK.nil(B:Bs)(w:World):GrpOK B w []:=fun b hb=>by cases hb
structure LRel(B:Bs)(L:List Blk)(w:World):Prop where
 bel:BelowB B w
 blk:∀(k:Nat) (b:Blk),L[k]? =some b→(∀g,b.base=some g→BlkAt B w b g)∧(b.base=none→b.cs=[]∧b.n=0)
 apart:∀(i j g:Nat) (bi bj:Blk),i≠j→L[i]? =some bi→L[j]? =some bj→bi.own=true→bi.base=some g→bj.base≠some g
 grp:GrpOK B w L
theorem LRel.d0{B:Bs}{w:World}{L:List Blk}(h:LRel B L w):LRel B.d0 L w:=⟨⟨h.bel.os,h.bel.tape,h.bel.output,h.bel.size,h.bel.block⟩,h.blk,h.apart,h.grp⟩
theorem LRel.of_d0{B:Bs}{w:World}{L:List Blk}(h:LRel B.d0 L w):LRel B L w:=⟨⟨h.bel.os,h.bel.tape,h.bel.output,h.bel.size,h.bel.block⟩,h.blk,h.apart,h.grp⟩
theorem LRel.below{b w:World}{L:List Blk}(h:LRel b L w):Below b.heap.size b w:=h.bel.below
structure Rel(B:Bs)(s:St)(a:Act)(w:World):Prop where
 df:a.defers=B.D
 size:a.tmps.size=s.nt
 tmp:∀(d:Nat) (v:Value),look s.t d=some v→a.tmps[d]? =some v
 mem:LRel B s.L w
def St.put(s:St)(dst:Option Nat)(v:Value):St:=
 match dst with
 |some d=>{s with t:=(d,v)::s.t}
 |none=>s
def ev(t:List (Nat×Value)):Operand→Option Value
 | .tmp d=>look t d
 | .const v=>some v
 | .global g=>some (.pointer (some ⟨g,0,none⟩))
 | .func f=>some (.func (.func f) #[] #[])
theorem look_cons_ne{d k:Nat}{v:Value}{l:List (Nat×Value)}(h:d≠k):look ((d,v)::l) k=look l k:=by
 have:(d==k)=false:=by simpa using h
 simp[look,this]
theorem look_cons_eq{d:Nat}{v:Value}{l:List (Nat×Value)}:look ((d,v)::l) d=some v:=by
 simp[look]
theorem LRel.drew{B:Bs}{w:World}{L:List Blk}(h:LRel B L w):LRel B L {w with drawn:=w.drawn+1}:=
 ⟨h.bel.drew,h.blk,h.apart,h.grp⟩
theorem Rel.drew{B:Bs}{w:World}{s:St}{a:Act}(h:Rel B s a w):Rel B s a {w with drawn:=w.drawn+1}:=
 ⟨h.df,h.size,h.tmp,h.mem.drew⟩
theorem LRel.lt{B:Bs}{w:World}{L:List Blk}(h:LRel B L w){k:Nat}{b:Blk}(hk:L[k]? =some b){g:Nat}(hg:b.base=some g):g<w.heap.size:=by
 exact((h.blk k b hk).1 g hg).lt
theorem LRel.ext{B:Bs}{w w':World}{L new:List Blk}(h:LRel B L w)(hw:Below w.heap.size w w')
 (hnew:∀(k:Nat) (b:Blk),new[k]? =some b→(∀g,b.base=some g→BlkAt B w' b g∧w.heap.size≤g)∧(b.base=none→b.cs=[]∧b.n=0))
 (hap:∀(i j g:Nat) (bi bj:Blk),i≠j→new[i]? =some bi→new[j]? =some bj→bi.base=some g→bj.base≠some g)(hng:∀b∈new,b.base=none→b.e<mapMark:=by intro b hb hn;first|(simp at hb;done)|(simp at hb;subst hb;cases hn)):LRel B (L++new) w':=by
 have hB:=h.bel.size
 refine⟨h.bel.trans (hw.mono hB),fun k b hk=>?_,fun i j g bi bj hij hi hj ho hg hgj=>?_,?_⟩
 rotate_left 2
 ·refine(h.grp.step fun g hg _=>hw.block g hg).app (fun b hb hn T hT he=>absurd (he▸hng b hb hn) (gE_ge T)) (fun b hb hn T hT he p hp c hc ho hg=>?_) (fun b hb hn T hT he=>absurd (he▸hng b hb hn) (gE_ge T))
  have h1:=(h.grp b hb hn T hT he p hp).1.lt
  obtain⟨j,hj⟩:=List.mem_iff_getElem?.1 hc
  have h2:=((hnew j c hj).1 _ hg).2
  omega
 ·rw[List.getElem?_append] at hk
  split at hk
  ·obtain⟨h1,h2⟩:=h.blk k b hk
   exact⟨fun g hg=>(h1 g hg).heap (hw.block g (h.lt hk hg)),h2⟩
  ·obtain⟨h1,h2⟩:=hnew _ b hk
   exact⟨fun g hg=>(h1 g hg).1,h2⟩
 ·rw[List.getElem?_append] at hi hj
  split at hi<;>split at hj
  ·exact h.apart i j g bi bj hij hi hj ho hg hgj
  ·have h1:=h.lt hi hg
   have h2:=((hnew _ bj hj).1 g hgj).2
   omega
  ·have h1:=h.lt hj hgj
   have h2:=((hnew _ bi hi).1 g hg).2
   omega
  ·exact hap _ _ g bi bj (by omega) hi hj hg hgj
theorem LRel.alloc{B:Bs}{w:World}{L:List Blk}(h:LRel B L w)(e:TypeId)(cs:Array Value)(he:e<mapMark):
 LRel B (L++[⟨some w.heap.size,e,cs.toList,cs.size,true⟩]) (w.alloc (.cells cs e)):=by
 refine h.ext ((Below.refl _ _).alloc (Nat.le_refl _) _) (fun k b hk=>?_) (fun i j g bi bj hij hi hj=>?_)
 ·cases k with
  |zero=>
   simp at hk
   subst hk
   refine⟨fun g hg=>?_,fun hg=>by cases hg⟩
   simp only[Option.some.injEq] at hg
   subst hg
   exact⟨⟨.inl ⟨cs,⟨_,_,heap_alloc_new w _,fun _=>⟨rfl,rfl⟩,he⟩,rfl,List.take_of_length_le (by simp)⟩,fun _=> .inl h.bel.size⟩,Nat.le_refl _⟩
  |succ k=>simp at hk
 ·cases i with
  |zero=>cases j with
   |zero=>exact absurd rfl hij
   |succ j=>simp at hj
  |succ i=>simp at hi
theorem LRel.same{B:Bs}{w w':World}{L:List Blk}(h:LRel B L w)(hw:Below w.heap.size w w'):LRel B L w':=by
 have:=h.ext (new:=[]) hw (fun k b hk=>by simp at hk) (fun i j g bi bj hij hi=>by simp at hi)
 simpa using this
theorem GrpOK.mem{B:Bs}{w:World}{L L':List Blk}(h:GrpOK B w L)(hs:∀b∈L',b∈L):GrpOK B w L':=
 h.sub (fun b hb hn=> .inr ⟨b,hs b hb,hn,rfl,id⟩) (fun c hc ho g hg=>⟨c,hs c hc,ho,hg⟩)
theorem LRel.reindex{B:Bs}{w:World}{L L':List Blk}(h:LRel B L w)(f:Nat→Nat)(hf:∀(i:Nat) (b:Blk),L'[i]? =some b→L[f i]? =some b)(hi:∀i j,i<L'.length→j<L'.length→f i=f j→i=j):LRel B L' w:=
 ⟨h.bel,fun k b hk=>h.blk (f k) b (hf k b hk),fun i j g bi bj hij h1 h2 ho hg hgj=>
 h.apart (f i) (f j) g bi bj (fun e=>hij (hi i j (List.getElem?_eq_some_iff.1 h1).1 (List.getElem?_eq_some_iff.1 h2).1 e)) (hf i bi h1) (hf j bj h2) ho hg hgj,
 h.grp.mem fun b hb=>by obtain⟨i,hi⟩:=List.mem_iff_getElem?.1 hb;exact List.mem_of_getElem? (hf i b hi)⟩
theorem LRel.joinF{B:Bs}{w w':World}{L new:List Blk}(h:LRel B L w)(h':LRel w new w')(hc:∀b∈new,b.own=true):LRel B (L++new) w':=by
 have hs:=h.same h'.below
 refine⟨hs.bel,fun k b hk=>?_,fun i j g bi bj hij hi hj ho hg hgj=>?_,hs.grp.app (h'.grp.base h.bel.le) (fun b hb hn T hT he p hp c hc' ho hg=>?_) (fun b hb hn T hT he p hp c hc' ho hg=>?_)⟩
 rotate_left 2
 ·have h1:=(h.grp b hb hn T hT he p hp).1.lt
  obtain⟨j,hj⟩:=List.mem_iff_getElem?.1 hc'
  have h2:=own_w (((h'.blk j c hj).1 _ hg).2 ho)
  omega
 ·have h1:=own_w ((h'.grp b hb hn T hT he p hp).2.1 (hc b hb))
  obtain⟨j,hj⟩:=List.mem_iff_getElem?.1 hc'
  have h2:=h.lt hj hg
  omega
 ·rw[List.getElem?_append] at hk
  split at hk
  ·exact hs.blk k b hk
  ·obtain⟨a1,a2⟩:=h'.blk _ b hk
   exact⟨fun g hg=>⟨(a1 g hg).1,fun ho=>h.bel.le _ ((a1 g hg).2 ho)⟩,a2⟩
 ·rw[List.getElem?_append] at hi hj
  split at hi<;>split at hj
  ·exact hs.apart i j g bi bj hij hi hj ho hg hgj
  ·have h1:=h.lt hi hg
   have h2:=own_w (((h'.blk _ bj hj).1 g hgj).2 (hc bj (List.mem_of_getElem? hj)))
   omega
  ·have h1:=h.lt hj hgj
   have h2:=own_w (((h'.blk _ bi hi).1 g hg).2 ho)
   omega
  ·exact h'.apart _ _ g bi bj (by omega) hi hj ho hg hgj
theorem Rel.put{B:Bs}{w w':World}{s:St}{a:Act}(h:Rel B s a w){dst:Option Nat}{v:Value}{L':List Blk}
 (hd:∀d,dst=some d→d<s.nt)(hL:LRel B L' w'):Rel B (({s with L:=L'}:St).put dst v) (a.put dst v) w':=by
 cases dst with
 |none=>exact⟨h.df,h.size,h.tmp,hL⟩
 |some d=>
  have hds:d<a.tmps.size:=by rw[h.size];exact hd d rfl
  refine⟨h.df,by simpa[Act.put,St.put] using h.size,fun k x hx=>?_,hL⟩
  by_cases hk:d=k
  ·subst hk
   simp only[St.put,look_cons_eq,Option.some.injEq] at hx
   subst hx
   simp[Act.put,hds]
  ·simp only[St.put,look_cons_ne hk] at hx
   have:=h.tmp k x hx
   simp[Act.put,Array.getElem?_setIfInBounds_ne hk,this]
theorem Rel.put0{B:Bs}{w:World}{s:St}{a:Act}(h:Rel B s a w){dst:Option Nat}{v:Value}
 (hd:∀d,dst=some d→d<s.nt):Rel B (s.put dst v) (a.put dst v) w:=h.put (L':=s.L) hd h.mem
theorem Rel.ev{B:Bs}{w:World}{s:St}{a:Act}(h:Rel B s a w){x:Operand}{v:Value}(hx:ev s.t x=some v):a.eval x=v:=by
 cases x with
 |tmp d=>
  have h1:=h.tmp d v hx
  simp[Act.eval,h1]
 |const v=>simp only[Go.Via.ev,Option.some.injEq] at hx;subst hx;rfl
 |global g=>simp only[Go.Via.ev,Option.some.injEq] at hx;subst hx;rfl
 |func f=>simp only[Go.Via.ev,Option.some.injEq] at hx;subst hx;rfl
def blk0:Blk:=⟨none,0,[],0,false⟩
def blank:List Nat→List Blk→List Blk
 |[],L=>L
 |k::bl,L=>blank bl (bif Nat.blt k 1000000 then L.set k blk0 else L)
def St.bk(s:St)(bl:List Nat):St:={s with L:=blank bl s.L}
theorem LRel.blank1{B:Bs}{w:World}{L:List Blk}(h:LRel B L w)(k:Nat):LRel B (L.set k blk0) w:=by
 have hb:∀(m:Nat) (b:Blk),(L.set k blk0)[m]? =some b→b=blk0∨L[m]? =some b:=fun m b hm=>by
  by_cases e:k=m
  ·subst e
   by_cases hl:k<L.length
   ·rw[List.getElem?_set_self hl] at hm;cases hm;exact .inl rfl
   ·rw[List.getElem?_eq_none (by simp;omega)] at hm;cases hm
  ·rw[List.getElem?_set_ne e] at hm;exact .inr hm
 refine⟨h.bel,fun m b hm=>?_,fun i j g bi bj hij hi hj ho hg hgj=>?_,h.grp.sub (fun b hm hn=>?_) (fun c hm ho g hg=>?_)⟩
 rotate_left 2
 ·obtain⟨m,hm⟩:=List.mem_iff_getElem?.1 hm
  rcases hb m b hm with rfl|h1
  ·exact .inl (by decide)
  ·exact .inr ⟨b,List.mem_of_getElem? h1,hn,rfl,id⟩
 ·obtain⟨m,hm⟩:=List.mem_iff_getElem?.1 hm
  rcases hb m c hm with rfl|h1
  ·cases hg
  ·exact⟨c,List.mem_of_getElem? h1,ho,hg⟩
 ·rcases hb m b hm with rfl|h1
  ·exact⟨fun g hg=>(by cases hg),fun _=>⟨rfl,rfl⟩⟩
  ·exact h.blk m b h1
 ·rcases hb i bi hi with rfl|h1
  ·cases hg
  ·rcases hb j bj hj with rfl|h2
   ·cases hgj
   ·exact h.apart i j g bi bj hij h1 h2 ho hg hgj
theorem LRel.blank{B:Bs}{w:World}:∀{bl:List Nat} {L:List Blk},LRel B L w→LRel B (Go.Via.blank bl L) w
 |[],_,h=>h
 |k::bl,_,h=>LRel.blank (bl:=bl) (match Nat.blt k 1000000 with|true=>h.blank1 k|false=>h)
theorem Rel.bk{B:Bs}{w:World}{s:St}{a:Act}(h:Rel B s a w)(bl:List Nat):Rel B (s.bk bl) a w:=⟨h.df,h.size,h.tmp,h.mem.blank⟩
theorem blank_append:∀(bl:List Nat) (L new:List Blk),∃new',blank bl (L++new)=blank bl L++new'
 |[],L,new=>⟨new,rfl⟩
 |k::bl,L,new=>by
  unfold blank
  cases Nat.blt k 1000000 with
  |false=>exact blank_append bl L new
  |true=>
   simp only[cond_true]
   by_cases hk:k<L.length
   ·obtain⟨n',h⟩:=blank_append bl (L.set k blk0) new
    refine⟨n',?_⟩
    rw[List.set_append_left _ _ hk];exact h
   ·obtain⟨n',h⟩:=blank_append bl (L.set k blk0) (new.set (k-L.length) blk0)
    refine⟨n',?_⟩
    have e:L.set k blk0=L:=List.set_eq_of_length_le (by omega)
    rw[List.set_append_right _ _ (by omega)]
    rw[e] at h ⊢
    exact h
theorem bk_put(s:St)(bl:List Nat)(dst:Option Nat)(v:Value):(s.put dst v).bk bl=(s.bk bl).put dst v:=by cases dst<;>rfl
def isSto(o:Oper):Bool:=match o.op with
 | .store .. | .mapUpdate .. | .entryStore .. =>true
 |_=>false
def isME(o:Oper):Bool:=match o.op with
 | .mapEntry .. =>true
 |_=>false
def isCall(o:Oper):Bool:=match o.op with
 | .call {callee:= .value _,.. }=>true
 |_=>false
def isMov(o:Oper):Bool:=match o.op with
 | .call {callee:= .value _,.. }| .call {callee:= .builtin .len,.. }| .call {callee:= .builtin .cap,.. }| .call {callee:= .builtin .min,.. }| .call {callee:= .builtin .max,.. }| .call {callee:= .builtin .unsafeSliceData,.. }| .move _| .nilCheck _| .pick .. | .load .. | .fieldAddr .. | .field .. | .indexAddr .. | .index .. | .binOp .. | .unOp .. | .convert .. | .extract .. | .build .. | .slice .. | .lookup .. =>true
 |_=>false
def wantedS(ops:Array Oper)(o:Oper)(t:List (Nat×Value)):Option Bool:=
 match o.guard with
 |none=>some true
 |some (j,want)=>
  match(ops[j]?).bind (·.dst) with
  |some d=>(look t d).map fun v=>match v with
   | .bool b=>b==want
   |_=>false
  |none=>some false
theorem wantedS_spec{ops:Array Oper}{o:Oper}{B:Bs}{w:World}{s:St}{a:Act}(h:Rel B s a w){g:Bool}(hg:wantedS ops o s.t=some g):
 Region.wanted o (yielded ops a.tmps)=g:=by
 unfold wantedS at hg
 unfold Region.wanted
 split at hg
 ·rename_i h0;rw[h0];simpa using hg
 ·rename_i j want h0
  rw[h0]
  dsimp only
  unfold yielded
  cases hd:(ops[j]?).bind (·.dst) with
  |none=>rw[hd] at hg;simp at hg;subst hg;simp
  |some d=>
   rw[hd] at hg
   simp only[Option.map_eq_some_iff] at hg
   obtain⟨v,h1,h2⟩:=hg
   have h3:=h.tmp d v h1
   simp only[Option.bind_some,h3]
   cases v<;>simp_all
def Quiet(P:Program)(o:Oper)(s:St)(v:Value):Prop:=
 ∀(B:Bs) (a:Act) (w:World),Rel B s a w→(execOp a.eval o).run P w= .ok (.value v) w
def Called(P:Program)(o:Oper)(s:St)(X:Type)(res:X→Value)(new:X→List Blk):Prop:=
 ∀(B:Bs) (a:Act) (w:World),Rel B s a w→∃f args,(execOp a.eval o).run P w= .ok (.enter f args) w∧
  Calls P f args w fun e w'=>∃x,e= .returned (res x)∧LRel B (s.L++new x) w'
def CalledF(P:Program)(o:Oper)(s:St)(X:Type)(res:X→Value)(new:X→List Blk):Prop:=
 ∀(B:Bs) (a:Act) (w:World),Rel B s a w→∃f args,(execOp a.eval o).run P w= .ok (.enter f args) w∧
  Calls P f args w fun e w'=>∃x,e= .returned (res x)∧LRel w (new x) w'∧∀b∈new x,b.own=true
def CalledM(P:Program)(o:Oper)(s:St)(X:Type)(res:X→Value)(nL:X→List Blk):Prop:=
 ∀(B:Bs) (a:Act) (w:World),Rel B s a w→(∃f args,(execOp a.eval o).run P w= .ok (.enter f args) w∧
 Calls P f args w fun e w'=>∃x,e= .returned (res x)∧LRel B (nL x) w')∨∃x w',(execOp a.eval o).run P w= .ok (.value (res x)) w'∧LRel B (nL x) w'
def isAl(o:Oper):Bool:=match o.op with
 | .alloc _=>true
 |_=>false
def alTy(P:Program)(o:Oper):Option (TypeId×Array Value):=match o.op with
 | .alloc T=>if T<mapMark then((P.info? T).bind (·.zero)).map fun z=>(T,z.cells) else none
 |_=>none
theorem alTy_run{P:Program}{o:Oper}{e:TypeId}{cs:Array Value}(h:alTy P o=some (e,cs))(ev:Operand→Value)(w:World):(execOp ev o).run P w= .ok (.value (.pointer (some ⟨w.heap.size,0,none⟩))) (w.alloc (.cells cs e)):=by
 unfold alTy at h
 split at h
 ·rename_i T ho
  split at h
  rotate_left
  ·cases h
  simp only[Option.map_eq_some_iff,Prod.mk.injEq] at h
  obtain⟨z,hz,rfl,rfl⟩:=h
  cases hq:P.info? T with
  |none=>rw[hq] at hz;cases hz
  |some inf=>
   rw[hq] at hz
   simp only[Option.bind_some] at hz
   simp[execOp,ho,Instr.alloc,zeroValue,typeInfo,hq,hz,newVar,newRow]
 ·cases h
theorem alTy_lt{P:Program}{o:Oper}{e:TypeId}{cs:Array Value}(h:alTy P o=some (e,cs)):e<mapMark:=by
 unfold alTy at h
 split at h
 ·split at h
  ·rename_i hlt
   simp only[Option.map_eq_some_iff,Prod.mk.injEq] at h
   obtain⟨z,_,rfl,_⟩:=h
   exact hlt
  ·cases h
 ·cases h
def alB(g:Nat)(e:TypeId)(cs:Array Value):Blk:=⟨some g,e,cs.toList,cs.size,true⟩
def blA(bl:List Nat):Bool:=bl.contains 3000000
def Eff(P:Program)(o:Oper)(s:St)(X:Type)(nx:X→St):Prop:=
 ∀(B:Bs) (a:Act) (w:World),Rel B s a w→o.wp P a w (fun a' w'=>∃x,Rel B (nx x) a' w') (fun _ _ _=>False)
def EffS(P:Program)(o:Oper)(s:St)(L':List Blk):Prop:=
 ∀(B:Bs) (a:Act) (w:World),Rel B s a w→∃w',(execOp a.eval o).run P w= .ok .skip w'∧LRel B L' w'
def blS(bl:List Nat):Bool:=bl.any fun k=>Nat.blt k 1000000
def isPure(o:Oper):Bool:=match o.op with
 | .move _| .extract .. =>true
 |_=>false
def pureV(t:List (Nat×Value))(o:Oper):Option Value:=match o.op with
 | .move x=>ev t x
 | .extract x i=>match ev t x with
   |some (.tuple vs)=>vs[i]?
   |_=>none
 |_=>none
def isM(bl:List Nat):Bool:=bl==[1000000]
def isAsg(o:Oper):Bool:=match o.op with
 | .assign _=>true
 |_=>false
def mvS(bl:List Nat)(o:Oper):Bool:=isMov o||(isAsg o&&bl.contains 2000000)
def Step(P:Program)(bl:List Nat)(ops:Array Oper)(o:Oper)(s:St)(K:St→Prop):Prop:=
 (∀d,o.dst=some d→d<s.nt)∧∃g,wantedS ops o s.t=some g∧
  ((g=false∧K (s.put o.dst undef))∨
   (g=true∧(((blA bl&&(isAl o||isSto o))=false∧∃v,(Quiet P o (s.bk bl) v∧(blA bl=true→isPure o=true→pureV s.t o=some v))∧K (s.put o.dst v))∨
 (isCall o=true∧∃(X:Type) (res:X→Value) (new:X→List Blk),Called P o s X res new∧(blA bl=true→CalledF P o s X res new∧Nonempty X)∧∀x,K (({s with L:=s.L++new x}:St).put o.dst (res x)))∨
 ((!isM bl&&mvS bl o)=false∧(blA bl&&(isAl o||isSto o))=false∧(!isM bl&&((isSto o||isME o)&&blS bl))=false∧∃(X:Type) (nx:X→St),Eff P o s X nx∧∀x,K (nx x))∨
 (isSto o=true∧o.dst=none∧∃L',EffS P o s L'∧(blS bl=true→blank bl L'=blank bl s.L)∧K {s with L:=L'})∨
 (isAl o=true∧∃(e:TypeId) (cs:Array Value),alTy P o=some (e,cs)∧∀g,K (({s with L:=s.L++[alB g e cs]}:St).put o.dst (.pointer (some ⟨g,0,none⟩))))∨
 ((isCall o||isME o)=true∧blS bl=true∧∃(X:Type) (res:X→Value) (nL:X→List Blk),CalledM P o s X res nL∧(∀x,blank bl (nL x)=blank bl s.L)∧∀x,K (({s with L:=nL x}:St).put o.dst (res x))))))
def Run(P:Program)(bl:List Nat)(ops:Array Oper):List Oper→St→(St→Prop)→Prop
 |[],s,K=>K s
 |o::rest,s,K=>Step P bl ops o s fun s'=>Run P bl ops rest s' K
theorem Step.mono{P:Program}{bl:List Nat}{ops:Array Oper}{o:Oper}{s:St}{K K':St→Prop}(h:∀s,K s→K' s)(hs:Step P bl ops o s K):Step P bl ops o s K':=by
 obtain⟨h0,g,hg,hh⟩:=hs
 refine⟨h0,g,hg,?_⟩
 rcases hh with⟨h1,h2⟩|⟨h1,⟨h2,v,h3,h4⟩|⟨h2,X,res,new,h3,hF,h4⟩|⟨hm,hA,hm',X,nx,h3,h4⟩|⟨hm,hd,L',h3,h5,h4⟩|⟨hA,e,cs,h3,h4⟩|⟨hC,hbS,X,res,nL,h3,h5,h4⟩⟩
 ·exact .inl ⟨h1,h _ h2⟩
 ·exact .inr ⟨h1,.inl ⟨h2,v,h3,h _ h4⟩⟩
 ·exact .inr ⟨h1,.inr (.inl ⟨h2,X,res,new,h3,hF,fun x=>h _ (h4 x)⟩)⟩
 ·exact .inr ⟨h1,.inr (.inr (.inl ⟨hm,hA,hm',X,nx,h3,fun x=>h _ (h4 x)⟩))⟩
 ·exact .inr ⟨h1,.inr (.inr (.inr (.inl ⟨hm,hd,L',h3,h5,h _ h4⟩)))⟩
 ·exact .inr ⟨h1,.inr (.inr (.inr (.inr (.inl ⟨hA,e,cs,h3,fun g=>h _ (h4 g)⟩))))⟩
 ·exact .inr ⟨h1,.inr (.inr (.inr (.inr (.inr ⟨hC,hbS,X,res,nL,h3,h5,fun x=>h _ (h4 x)⟩))))⟩
theorem Step.sound{P:Program}{bl:List Nat}{ops:Array Oper}{o:Oper}{s:St}{K:St→Prop}{B:Bs}{a:Act}{w:World}
 {K':Act→World→Prop}{Q:Exit→Act→World→Prop}(hs:Step P bl ops o s K)(h:Rel B s a w)(hK:∀s' a' w',K s'→Rel B s' a' w'→K' a' w'):
 if Region.wanted o (yielded ops a.tmps) then o.wp P a w K' Q else K' (a.put o.dst undef) w:=by
 obtain⟨h0,g,hg,hh⟩:=hs
 rw[wantedS_spec h hg]
 rcases hh with⟨rfl,h2⟩|⟨rfl,hh⟩
 ·simp only[Bool.false_eq_true,if_false]
  exact hK _ _ _ h2 (h.put0 h0)
 ·simp only[if_true]
  rcases hh with⟨h2,v,h3,h4⟩|⟨h2,X,res,new,h3,_,h4⟩|⟨hm,_,_,X,nx,h3,h4⟩|⟨hm,hd,L',h3,h5,h4⟩|⟨hA,e,cs,h3,h4⟩|⟨hC,hbS,X,res,nL,h3,h5,h4⟩
  ·have hr:=h3.1 B a w (h.bk bl)
   unfold Oper.wp
   rw[hr]
   exact hK _ _ _ h4 (h.put0 h0)
  ·obtain⟨f,args,hr,hc⟩:=h3 B a w h
   unfold Oper.wp
   rw[hr]
   refine hc.mono ?_
   rintro e w' ⟨x,rfl,hL⟩
   exact hK _ _ _ (h4 x) (h.put h0 hL)
  ·have:=h3 B a w h
   unfold Oper.wp at this ⊢
   generalize(execOp a.eval o).run P w=r at*
   cases r with
   |ok n w1=>
    cases n<;>simp only[Oper.upon] at this ⊢
    case value v=>obtain⟨x,hx⟩:=this;exact hK _ _ _ (h4 x) hx
    case skip=>obtain⟨x,hx⟩:=this;exact hK _ _ _ (h4 x) hx
    case defer d=>obtain⟨x,hx⟩:=this;exact hK _ _ _ (h4 x) hx
    case enter f args=>
     refine this.mono ?_
     intro e w'' he
     cases e with
     |returned v=>obtain⟨x,hx⟩:=he;exact hK _ _ _ (h4 x) hx
     |panicked c=>exact he.elim
     |outgrown=>obtain⟨_,_,he⟩:=he;exact he.elim
    case row row args=>exact this.mono fun v w'' he=>by obtain⟨x,hx⟩:=he;exact hK _ _ _ (h4 x) hx
   |halt x w1=>cases x<;>simp only[Oper.upon] at this
  ·obtain⟨w',hr,hL⟩:=h3 B a w h
   unfold Oper.wp
   rw[hr]
   refine hK _ _ _ h4 ?_
   rw[hd]
   exact⟨h.df,h.size,h.tmp,hL⟩
  ·unfold Oper.wp
   rw[alTy_run h3 a.eval w]
   exact hK _ _ _ (h4 w.heap.size) (h.put h0 (h.mem.alloc e cs (alTy_lt h3)))
  ·rcases h3 B a w h with⟨f,args,hr,hc⟩|⟨x,w',hr,hL⟩
   ·unfold Oper.wp
    rw[hr]
    refine hc.mono ?_
    rintro e w' ⟨x,rfl,hL⟩
    exact hK _ _ _ (h4 x) (h.put (L':=nL x) h0 hL)
   ·unfold Oper.wp
    rw[hr]
    exact hK _ _ _ (h4 x) (h.put (L':=nL x) h0 hL)
theorem Run.sound{P:Program}{bl:List Nat}{ops:Array Oper}{Q:Exit→Act→World→Prop}:∀{l:List Oper} {s:St} {K:St→Prop} {B:Bs} {a:Act} {w:World},
 Run P bl ops l s K→Rel B s a w→(∀s' a' w',K s'→Rel B s' a' w'→Q .normal a' w')→wpList P ops Q l a w
 |[],s,K,B,a,w,hr,h,hK=>hK _ _ _ hr h
 |o::l,s,K,B,a,w,hr,h,hK=>by
  have:=Step.sound (K':=wpList P ops Q l) (Q:=Q) hr h (fun s' a' w' h1 h2=>Run.sound h1 h2 hK)
  unfold wpList
  split
  ·rename_i hw;rw[if_pos hw] at this;exact .inl this
  ·rename_i hw;rw[if_neg hw] at this;exact this
theorem Run.mono{P:Program}{bl:List Nat}{ops:Array Oper}{K K':St→Prop}(h:∀s,K s→K' s):∀{l:List Oper} {s:St},Run P bl ops l s K→Run P bl ops l s K'
 |[],_,hr=>h _ hr
 |_::_,_,hr=>Step.mono (fun _ h1=>Run.mono h h1) hr
theorem LRel.take{B:Bs}{w:World}{L new:List Blk}(h:LRel B (L++new) w):LRel B L w:=by
 have hb:∀(k:Nat) (b:Blk),L[k]? =some b→(L++new)[k]? =some b:=fun k b hk=>by
  rw[List.getElem?_append_left (List.getElem?_eq_some_iff.1 hk).1];exact hk
 exact⟨h.bel,fun k b hk=>h.blk k b (hb k b hk),fun i j g bi bj hij hi hj=>h.apart i j g bi bj hij (hb _ _ hi) (hb _ _ hj),h.grp.mem fun b hb=>List.mem_append_left _ hb⟩
theorem wantedS_put{ops:Array Oper}{o:Oper}{s:St}{dst:Option Nat}{v:Value}(h:∀d,dst=some d→d∉o.looksAt ops):wantedS ops o (s.put dst v).t=wantedS ops o s.t:=by
 cases dst with
 |none=>rfl
 |some d=>
  unfold wantedS
  cases hg:o.guard with
  |none=>rfl
  |some jw=>
   obtain⟨j,want⟩:=jw
   dsimp only
   cases hd:(ops[j]?).bind (·.dst) with
   |none=>rfl
   |some d'=>
    have hne:d≠d':=fun e=>h d rfl (by unfold Oper.looksAt;rw[hg];simp[hd,e])
    simp only[St.put,look_cons_ne hne]
theorem pureV_put{ops:Array Oper}{o:Oper}{s:St}{dst:Option Nat}{v:Value}(h:∀d,dst=some d→d∉o.looksAt ops):pureV (s.put dst v).t o=pureV s.t o:=by
 cases dst with
 |none=>rfl
 |some d=>
  have hd:=h d rfl
  have key:∀x:Operand,x∈o.op.operands.toList→ev ((d,v)::s.t) x=ev s.t x:=fun x hx=>by
   cases x with
   |tmp k=>
    have hne:d≠k:=fun e=>hd (by
 unfold Oper.looksAt
 exact List.mem_append_left _ (List.mem_filterMap.2 ⟨.tmp k,hx,by rw[e]⟩))
    exact look_cons_ne hne
   |const c=>rfl
   |global g=>rfl
   |func f=>rfl
  show pureV ((d,v)::s.t) o=pureV s.t o
  unfold pureV
  split
  ·rename_i x ho
   exact key x (by rw[ho];simp[Op.operands])
  ·rename_i x i ho
   rw[key x (by rw[ho];simp[Op.operands])]
  ·rfl
def Yields(P:Program)(bl:List Nat)(ops:Array Oper)(o:Oper)(s:St)(v:Value):Prop:=
 ∃g,wantedS ops o s.t=some g∧((g=false∧v=undef)∨(g=true∧(blA bl&&(isAl o||isSto o))=false∧Quiet P o (s.bk bl) v∧(blA bl=true→isPure o=true→pureV s.t o=some v)))
theorem noSel_of_mov{o:Oper}(h:isMov o=true):∀cs b,o.op≠ .select cs b:=fun cs b e=>by unfold isMov at h;rw[e] at h;cases h
theorem Rel.putBack{B:Bs}{w:World}{s:St}{a:Act}{dst:Option Nat}{v:Value}{new:List Blk}(hd:∀d,dst=some d→d<s.nt)
 (h:Rel B (({s with L:=s.L++new}:St).put dst v) a w):∃u,Rel B s (a.put dst u) w:=by
 have hL:(({s with L:=s.L++new}:St).put dst v).L=s.L++new:=by cases dst<;>rfl
 have hn:(({s with L:=s.L++new}:St).put dst v).nt=s.nt:=by cases dst<;>rfl
 have hm:LRel B s.L w:=by have:=h.mem;rw[hL] at this;exact this.take
 cases dst with
 |none=>exact⟨undef,h.df,h.size.trans hn,fun d x hx=>h.tmp d x hx,hm⟩
 |some d=>
  refine⟨(look s.t d).getD undef,h.df,by simpa[Act.put,hn] using h.size,fun k x hx=>?_,hm⟩
  have hds:d<a.tmps.size:=by rw[h.size,hn];exact hd d rfl
  by_cases e:d=k
  ·subst e
   simp[Act.put,hx,hds]
  ·have:=h.tmp k x (by simp only[St.put,look_cons_ne e];exact hx)
   simp[Act.put,Array.getElem?_setIfInBounds_ne e,this]
theorem Yields.later{P:Program}{bl:List Nat}{ops:Array Oper}{o:Oper}{s:St}{v:Value}{dst:Option Nat}{x:Value}{new:List Blk}(hs:∀cs b,o.op≠ .select cs b)(hd:∀d,dst=some d→d<s.nt)
 (hl:∀d,dst=some d→d∉o.looksAt ops)(h:Yields P bl ops o s v):Yields P bl ops o (({s with L:=s.L++new}:St).put dst x) v:=by
 obtain⟨g,hg,hh⟩:=h
 refine⟨g,by rw[wantedS_put hl];exact hg,?_⟩
 rcases hh with h1|⟨h1,h2,h4⟩
 ·exact .inl h1
 ·refine .inr ⟨h1,h2,fun B a w hr=>?_,fun h5 h6=>by rw[pureV_put (s:={s with L:=s.L++new}) hl];exact h4.2 h5 h6⟩
  rw[bk_put] at hr
  obtain⟨new',hn⟩:=blank_append bl s.L new
  have hr':Rel B (({nt:=s.nt,t:=s.t,L:=blank bl s.L++new'}:St).put dst x) a w:=by rw[←hn];exact hr
  obtain⟨u,hu⟩:=Rel.putBack (s:=s.bk bl) (new:=new') hd hr'
  have:=h4.1 B _ w hu
  rwa [execOp_put o hs a dst u hl] at this
structure Eqv(s s':St):Prop where
 nt:s.nt=s'.nt
 L:s.L=s'.L
 look:∀d,look s.t d=look s'.t d
theorem Eqv.refl(s:St):Eqv s s:=⟨rfl,rfl,fun _=>rfl⟩
theorem Eqv.symm{s s':St}(h:Eqv s s'):Eqv s' s:=⟨h.nt.symm,h.L.symm,fun d=>(h.look d).symm⟩
theorem Eqv.trans{s s' s'':St}(h:Eqv s s')(k:Eqv s' s''):Eqv s s'':=⟨h.nt.trans k.nt,h.L.trans k.L,fun d=>(h.look d).trans (k.look d)⟩
theorem Eqv.rel{s s':St}(h:Eqv s s'){B:Bs}{w:World}{a:Act}(r:Rel B s a w):Rel B s' a w:=
 ⟨r.df,r.size.trans h.nt,fun d v hd=>r.tmp d v (by rw[h.look d];exact hd),h.L▸r.mem⟩
theorem Eqv.put{s s':St}(h:Eqv s s')(dst:Option Nat)(sv:Value)(new:List Blk):Eqv (({s with L:=s.L++new}:St).put dst sv) (({s' with L:=s'.L++new}:St).put dst sv):=by
 cases dst with
 |none=>exact⟨h.nt,by simp[St.put,h.L],h.look⟩
 |some d=>
  refine⟨h.nt,by simp[St.put,h.L],fun k=>?_⟩
  by_cases e:d=k
  ·subst e;simp[St.put,look_cons_eq]
  ·simp[St.put,look_cons_ne e,h.look k]
theorem Eqv.put0{s s':St}(h:Eqv s s')(dst:Option Nat)(sv:Value):Eqv (s.put dst sv) (s'.put dst sv):=by
 have:=h.put dst sv []
 simpa using this
theorem Eqv.wanted{s s':St}(h:Eqv s s')(ops:Array Oper)(o:Oper):wantedS ops o s.t=wantedS ops o s'.t:=by
 unfold wantedS
 split
 ·rfl
 ·split
  ·rw[h.look]
  ·rfl
def KC(K:St→Prop):Prop:=∀s s',Eqv s s'→K s→K s'
theorem ev_congr{t t':List (Nat×Value)}(h:∀d,look t d=look t' d)(x:Operand):ev t x=ev t' x:=by
 cases x<;>simp[ev,h]
theorem pureV_congr{t t':List (Nat×Value)}(h:∀d,look t d=look t' d){o:Oper}:pureV t o=pureV t' o:=by
 unfold pureV
 split
 ·exact ev_congr h _
 ·rw[ev_congr h]
 ·rfl
theorem Step.congr{P:Program}{bl:List Nat}{ops:Array Oper}{o:Oper}{s s':St}{K:St→Prop}(hK:KC K)(h:Eqv s s')(hs:Step P bl ops o s K):Step P bl ops o s' K:=by
 obtain⟨h0,g,hg,hh⟩:=hs
 refine⟨by rw[←h.nt];exact h0,g,by rw[←h.wanted];exact hg,?_⟩
 have hbk:Eqv (s.bk bl) (s'.bk bl):=⟨h.nt,by show blank bl s.L=blank bl s'.L;rw[h.L],h.look⟩
 rcases hh with⟨h1,h2⟩|⟨h1,⟨h2,sv,h3,h4⟩|⟨h2,X,res,new,h3,hF,h4⟩|⟨hm,hA,hm',X,nx,h3,h4⟩|⟨hm,hd,L',h3,h5,h4⟩|⟨hA,e,cs,h3,h4⟩|⟨hC,hbS,X,res,nL,h3,h5,h4⟩⟩
 ·exact .inl ⟨h1,hK _ _ (h.put0 _ _) h2⟩
 ·exact .inr ⟨h1,.inl ⟨h2,sv,⟨fun B a w hr=>h3.1 B a w (hbk.symm.rel hr),fun h5 h6=>by rw[←pureV_congr h.look];exact h3.2 h5 h6⟩,hK _ _ (h.put0 _ _) h4⟩⟩
 ·refine .inr ⟨h1,.inr (.inl ⟨h2,X,res,new,fun B a w hr=>?_,fun hb=>⟨fun B a w hr=>(hF hb).1 B a w (h.symm.rel hr),(hF hb).2⟩,fun x=>hK _ _ (h.put _ _ _) (h4 x)⟩)⟩
  rw[←h.L]
  exact h3 B a w (h.symm.rel hr)
 ·exact .inr ⟨h1,.inr (.inr (.inl ⟨hm,hA,hm',X,nx,fun B a w hr=>h3 B a w (h.symm.rel hr),h4⟩))⟩
 ·exact .inr ⟨h1,.inr (.inr (.inr (.inl ⟨hm,hd,L',fun B a w hr=>h3 B a w (h.symm.rel hr),by rw[←h.L];exact h5,hK {s with L:=L'} {s' with L:=L'} ⟨h.nt,rfl,h.look⟩ h4⟩)))⟩
 ·exact .inr ⟨h1,.inr (.inr (.inr (.inr (.inl ⟨hA,e,cs,h3,fun g=>hK _ _ (h.put _ _ _) (h4 g)⟩))))⟩
 ·exact .inr ⟨h1,.inr (.inr (.inr (.inr (.inr ⟨hC,hbS,X,res,nL,fun B a w hr=>h3 B a w (h.symm.rel hr),by rw[←h.L];exact h5,fun x=>hK _ _ (Eqv.put0 (s:={s with L:=nL x}) (s':={s' with L:=nL x}) ⟨h.nt,rfl,h.look⟩ _ _) (h4 x)⟩))))⟩
theorem Run.kc{P:Program}{bl:List Nat}{ops:Array Oper}{K:St→Prop}(hK:KC K):∀l:List Oper,KC (fun s=>Run P bl ops l s K)
 |[]=>hK
 |o::l=>fun _ _ h hs=>Step.congr (Run.kc hK l) h hs
def isFr(bl:List Nat)(o:Oper):Bool:= !isM bl&&(mvS bl o||((isSto o||isME o)&&blS bl)||(blA bl&&isAl o))
theorem isFr_noM{bl:List Nat}{o:Oper}(h:isFr bl o=true):isM bl=false:=by
 unfold isFr at h;cases hb:isM bl
 ·rfl
 ·rw[hb] at h;cases h
theorem noSel_of_fr{bl:List Nat}{o:Oper}(h:isFr bl o=true):∀cs b,o.op≠ .select cs b:=fun cs b e=>by
 simp only[isFr,mvS,isAsg,isMov,isSto,isME,isAl,e,Bool.false_and,Bool.or_self,Bool.and_false] at h;cases h
theorem sto_noME{o:Oper}(hs:isSto o=true):isME o=false:=by
 unfold isSto at hs
 split at hs<;>first|(cases hs;done)|(rename_i heq;simp[isME,heq])
theorem isFr_sto{bl:List Nat}{o:Oper}(h:isFr bl o=true)(hs:isSto o=true):blS bl=true:=by
 have h1:mvS bl o=false:=by
  unfold isSto at hs
  split at hs<;>first|(cases hs;done)|(rename_i heq;simp[mvS,isMov,isAsg,heq])
 have h2:isAl o=false:=by
  unfold isSto at hs
  split at hs<;>first|(cases hs;done)|(rename_i heq;simp[isAl,heq])
 unfold isFr at h
 rw[h1,h2,hs,sto_noME hs] at h
 simp only[Bool.false_or,Bool.true_and,Bool.and_false,Bool.or_false,Bool.and_eq_true] at h
 exact h.2
theorem isFr_eff{bl:List Nat}{o:Oper}(h:isFr bl o=true)(hm:(!isM bl&&mvS bl o)=false)(hA':(blA bl&&(isAl o||isSto o))=false)(hm':(!isM bl&&((isSto o||isME o)&&blS bl))=false):False:=by
 have hA:(blA bl&&isAl o)=false:=by cases h1:blA bl<;>cases h2:isAl o<;>simp_all
 unfold isFr at h
 cases hb:isM bl<;>rw[hb] at h hm hm'
 ·simp only[Bool.not_false,Bool.true_and] at h hm hm'
  rw[hm,hA,Bool.false_or,Bool.or_false] at h
  rw[hm'] at h;cases h
 ·cases h
theorem Run.swap{P:Program}{bl:List Nat}{ops:Array Oper}{p i:Oper}{rest:List Oper}{s:St}{K:St→Prop}(hK:KC K)(hmp:isMov p=true)(hmi:isFr bl i=true)(hcp:isCall p=false)
 (hap:p.apart ops i=true)(h:Run P bl ops (p::i::rest) s K):Run P bl ops (i::p::rest) s K:=by
 obtain⟨ap1,ap2,ap3⟩:=Oper.apart_spec hap
 obtain⟨h0,g,hg,hh⟩:=h
 have hsp:isSto p=false:=by
  unfold isSto;split<;>first|rfl|(rename_i heq;unfold isMov at hmp;rw[heq] at hmp;cases hmp)
 have hmep:isME p=false:=by
  unfold isME;split<;>first|rfl|(rename_i heq;unfold isMov at hmp;rw[heq] at hmp;cases hmp)
 obtain⟨svp,hyp,hrun⟩:∃svp,Yields P bl ops p s svp∧Run P bl ops (i::rest) (s.put p.dst svp) K:=by
  rcases hh with⟨rfl,h2⟩|⟨rfl,⟨h2,sv,h3,h4⟩|⟨h2,X,res,new,h3,_,h4⟩|⟨hm,_,_,X,nx,h3,h4⟩|⟨hm,hd,L',h3,h5,h4⟩|⟨hA,e,cs,h3,h4⟩|⟨hC,hbS,X,res,nL,h3,h5,h4⟩⟩
  ·exact⟨_,⟨_,hg,.inl ⟨rfl,rfl⟩⟩,h2⟩
  ·exact⟨sv,⟨_,hg,.inr ⟨rfl,h2,h3.1,h3.2⟩⟩,h4⟩
  ·rw[hcp] at h2;cases h2
  ·rw[isFr_noM hmi,show mvS bl p=true by simp[mvS,hmp]] at hm;cases hm
  ·rw[hsp] at hm;cases hm
  ·exfalso
   unfold isAl at hA
   split at hA
   ·rename_i heq;unfold isMov at hmp;rw[heq] at hmp;cases hmp
   ·cases hA
  ·rw[hcp,hmep] at hC;cases hC
 have hputL:(s.put p.dst svp).L=s.L:=by cases p.dst<;>rfl
 have hputn:(s.put p.dst svp).nt=s.nt:=by cases p.dst<;>rfl
 have comm:∀(x:Value) (new:List Blk),Eqv (({s.put p.dst svp with L:=(s.put p.dst svp).L++new}:St).put i.dst x) ((({s with L:=s.L++new}:St).put i.dst x).put p.dst svp):=by
  intro x new
  refine⟨?_,?_,?_⟩
  ·cases p.dst<;>cases i.dst<;>rfl
  ·cases p.dst<;>cases i.dst<;>rfl
  ·intro d
   cases hp:p.dst with
   |none=>simp[St.put]
   |some dp=>
    cases hi:i.dst with
    |none=>simp[St.put]
    |some di=>
     have hne:dp≠di:=fun e=>ap2 dp hp (by rw[hi,e])
     simp only[St.put]
     by_cases e1:di=d
     ·subst e1;rw[look_cons_eq,look_cons_ne hne,look_cons_eq]
     ·rw[look_cons_ne e1]
      by_cases e2:dp=d
      ·subst e2;rw[look_cons_eq,look_cons_eq]
      ·rw[look_cons_ne e2,look_cons_ne e2,look_cons_ne e1]
 have behind:∀(x:Value) (new:List Blk),Run P bl ops rest (({s.put p.dst svp with L:=(s.put p.dst svp).L++new}:St).put i.dst x) K→
  Run P bl ops (p::rest) (({s with L:=s.L++new}:St).put i.dst x) K:=by
  intro x new hr
  have hr':=Run.kc hK rest _ _ (comm x new) hr
  have hy:=hyp.later (new:=new) (x:=x) (noSel_of_mov hmp) (by rw[←hputn];exact hrun.1) ap3
  obtain⟨g',hg',hh'⟩:=hy
  have hn:(({s with L:=s.L++new}:St).put i.dst x).nt=s.nt:=by cases i.dst<;>rfl
  refine⟨by rw[hn];exact h0,g',hg',?_⟩
  rcases hh' with⟨h1,rfl⟩|⟨h1,h2,h4⟩
  ·exact .inl ⟨h1,hr'⟩
  ·exact .inr ⟨h1,.inl ⟨h2,svp,h4,hr'⟩⟩
 have before:∀(s0:St),s0.nt=s.nt→∀(B:Bs) (a:Act) (w:World),Rel B s0 a w→Rel B (s0.put p.dst svp) (a.put p.dst svp) w∧execOp (a.put p.dst svp).eval i=execOp a.eval i:=by
  intro s0 hn B a w hr
  exact⟨hr.put0 (by rw[hn];exact h0),execOp_put i (noSel_of_fr hmi) a p.dst svp ap1⟩
 obtain⟨k0,k,hk,kk⟩:=hrun
 rw[hputn] at k0
 rw[wantedS_put ap1] at hk
 have e0:∀(x:Value),(({s with L:=s.L++[]}:St).put i.dst x)=s.put i.dst x:=fun x=>by simp
 have e1:∀(x:Value),(({s.put p.dst svp with L:=(s.put p.dst svp).L++[]}:St).put i.dst x)=(s.put p.dst svp).put i.dst x:=fun x=>by simp
 refine⟨k0,k,hk,?_⟩
 rcases kk with⟨h1,h2⟩|⟨h1,⟨h2,sv,h3,h4⟩|⟨h2,X,res,new,h3,hF,h4⟩|⟨hm,hA,hm',X,nx,h3,h4⟩|⟨hm,hd,L',h3,h5,h4⟩|⟨hA,e,cs,h3,h4⟩|⟨hC,hbS,X,res,nL,h3,h5,h4⟩⟩
 ·exact .inl ⟨h1,by have:=behind undef [] (by rw[e1];exact h2);rwa [e0] at this⟩
 ·refine .inr ⟨h1,.inl ⟨h2,sv,⟨fun B a w hr=>?_,fun h5 h6=>by rw[←pureV_put ap1];exact h3.2 h5 h6⟩,by have:=behind sv [] (by rw[e1];exact h4);rwa [e0] at this⟩⟩
  obtain⟨hr',he⟩:=before (s.bk bl) rfl B a w hr
  have h3:=h3.1
  rw[bk_put] at h3
  have:=h3 B _ w hr'
  rwa [he] at this
 ·refine .inr ⟨h1,.inr (.inl ⟨h2,X,res,new,fun B a w hr=>?_,fun hb=>⟨fun B a w hr=>?_,(hF hb).2⟩,fun x=>behind _ _ (h4 x)⟩)⟩
  ·obtain⟨hr',he⟩:=before s rfl B a w hr
   have:=h3 B _ w hr'
   rwa [he,hputL] at this
  ·obtain⟨hr',he⟩:=before s rfl B a w hr
   have:=(hF hb).1 B _ w hr'
   rwa [he] at this
 ·exfalso
  exact isFr_eff hmi hm hA hm'
 ·refine .inr ⟨h1,.inr (.inr (.inr (.inl ⟨hm,hd,L',fun B a w hr=>?_,fun hb=>by rw[h5 hb,hputL],?_⟩)))⟩
  ·obtain⟨hr',he⟩:=before s rfl B a w hr
   have:=h3 B _ w hr'
   rwa [he] at this
  ·
   have hbS:blS bl=true:=isFr_sto hmi hm
   have h5:=h5 hbS
   rw[hputL] at h5
   obtain⟨g',hg',hh'⟩:=hyp
   refine⟨h0,g',hg',?_⟩
   have hst:(({s with L:=L'}:St)).put p.dst svp={s.put p.dst svp with L:=L'}:=by cases p.dst<;>rfl
   have hbk:(({s with L:=L'}:St)).bk bl=s.bk bl:=by show St.mk _ _ (blank bl L')=St.mk _ _ (blank bl s.L);rw[h5]
   rcases hh' with⟨h1',rfl⟩|⟨h1',h2',h4'⟩
   ·exact .inl ⟨h1',by rw[hst];exact h4⟩
   ·exact .inr ⟨h1',.inl ⟨h2',svp,⟨by rw[hbk];exact h4'.1,h4'.2⟩,by rw[hst];exact h4⟩⟩
 ·exact .inr ⟨h1,.inr (.inr (.inr (.inr (.inl ⟨hA,e,cs,h3,fun g=>behind _ _ (h4 g)⟩))))⟩
 ·refine .inr ⟨h1,.inr (.inr (.inr (.inr (.inr ⟨hC,hbS,X,res,nL,fun B a w hr=>?_,fun x=>by rw[h5 x,hputL],fun x=>?_⟩))))⟩
  ·obtain⟨hr',he⟩:=before s rfl B a w hr
   have:=h3 B _ w hr'
   rwa [he] at this
  ·
   have h5:=h5 x
   rw[hputL] at h5
   have hY:Yields P bl ops p ({s with L:=nL x}:St) svp:=by
    obtain⟨g',hg',hh'⟩:=hyp
    have hbk:(({s with L:=nL x}:St)).bk bl=s.bk bl:=by show St.mk _ _ (blank bl (nL x))=St.mk _ _ (blank bl s.L);rw[h5]
    rcases hh' with h1'|⟨h1',h2',h4'⟩
    ·exact⟨g',hg',.inl h1'⟩
    ·exact⟨g',hg',.inr ⟨h1',h2',by rw[hbk];exact h4'.1,h4'.2⟩⟩
   have hY2:=Yields.later (s:=({s with L:=nL x}:St)) (dst:=i.dst) (x:=res x) (new:=[]) (noSel_of_mov hmp) k0 ap3 hY
   rw[show(({(({s with L:=nL x}:St)) with L:=(({s with L:=nL x}:St)).L++[]}:St))=({s with L:=nL x}:St) by simp] at hY2
   have hn:(({s with L:=nL x}:St).put i.dst (res x)).nt=s.nt:=by cases i.dst<;>rfl
   have hc1:Eqv (({s.put p.dst svp with L:=nL x}:St).put i.dst (res x)) ((({s with L:=nL x}:St).put i.dst (res x)).put p.dst svp):=by
    refine⟨?_,?_,fun d=>?_⟩
    ·cases p.dst<;>cases i.dst<;>rfl
    ·cases p.dst<;>cases i.dst<;>rfl
    ·have hcm:=(comm (res x) []).look d
     have q1:look (({s.put p.dst svp with L:=nL x}:St).put i.dst (res x)).t d=look (({s.put p.dst svp with L:=(s.put p.dst svp).L++[]}:St).put i.dst (res x)).t d:=by cases i.dst<;>rfl
     have q2:look ((({s with L:=nL x}:St).put i.dst (res x)).put p.dst svp).t d=look ((({s with L:=s.L++[]}:St).put i.dst (res x)).put p.dst svp).t d:=by cases i.dst<;>cases p.dst<;>rfl
     rw[q1,q2];exact hcm
   have hr':=Run.kc hK rest _ _ hc1 (h4 x)
   obtain⟨g',hg',hh'⟩:=hY2
   refine⟨by rw[hn];exact h0,g',hg',?_⟩
   rcases hh' with⟨h1,rfl⟩|⟨h1,h2,h4⟩
   ·exact .inl ⟨h1,hr'⟩
   ·exact .inr ⟨h1,.inl ⟨h2,svp,h4,hr'⟩⟩
theorem look_put{s:St}{dst:Option Nat}{sv:Value}{d:Nat}(h:dst≠some d):look (s.put dst sv).t d=look s.t d:=by
 cases dst with
 |none=>rfl
 |some d'=>exact look_cons_ne (fun e=>h (by rw[e]))
theorem Step.good{P:Program}{bl:List Nat}{ops:Array Oper}{o:Oper}{s:St}{K:St→Prop}(hm:isFr bl o=true)(h:Step P bl ops o s K):
 Step P bl ops o s (fun s'=>K s'∧∀d,o.dst≠some d→look s'.t d=look s.t d):=by
 obtain⟨h0,g,hg,hh⟩:=h
 refine⟨h0,g,hg,?_⟩
 rcases hh with⟨h1,h2⟩|⟨h1,⟨h2,sv,h3,h4⟩|⟨h2,X,res,new,h3,hF,h4⟩|⟨hm',hA,hm'',X,nx,h3,h4⟩|⟨hm',hd,L',h3,h5,h4⟩|⟨hA,e,cs,h3,h4⟩|⟨hC,hbS,X,res,nL,h3,h5,h4⟩⟩
 ·exact .inl ⟨h1,h2,fun d hd=>look_put hd⟩
 ·exact .inr ⟨h1,.inl ⟨h2,sv,h3,h4,fun d hd=>look_put hd⟩⟩
 ·exact .inr ⟨h1,.inr (.inl ⟨h2,X,res,new,h3,hF,fun x=>⟨h4 x,fun d hd=>look_put hd⟩⟩)⟩
 ·exact(isFr_eff hm hm' hA hm'').elim
 ·exact .inr ⟨h1,.inr (.inr (.inr (.inl ⟨hm',hd,L',h3,h5,h4,fun d _=>rfl⟩)))⟩
 ·exact .inr ⟨h1,.inr (.inr (.inr (.inr (.inl ⟨hA,e,cs,h3,fun g=>⟨h4 g,fun d hd=>look_put hd⟩⟩))))⟩
 ·exact .inr ⟨h1,.inr (.inr (.inr (.inr (.inr ⟨hC,hbS,X,res,nL,h3,h5,fun x=>⟨h4 x,fun d hd=>look_put hd⟩⟩))))⟩
theorem isFr_of_mov{bl:List Nat}{o i:Oper}(h:isMov o=true)(hi:isFr bl i=true):isFr bl o=true:=by simp[isFr,mvS,h,isFr_noM hi]
theorem Run.front{P:Program}{bl:List Nat}{ops:Array Oper}{i:Oper}{post:List Oper}{K:St→Prop}(hK:KC K)(hmi:isFr bl i=true):∀{pre:List Oper} {s:St},
 (∀p∈pre,isMov p=true∧isCall p=false∧p.apart ops i=true)→Run P bl ops (pre++i::post) s K→Run P bl ops (i::(pre++post)) s K
 |[],s,_,h=>h
 |p::pre,s,hp,h=>by
  obtain⟨hm,hc,ha⟩:=hp p (by simp)
  have h1:Step P bl ops p s (fun s'=>Run P bl ops (pre++i::post) s' K):=h
  have h2:Run P bl ops (p::i::(pre++post)) s K:=by
   refine Step.mono ?_ (h1.good (isFr_of_mov hm hmi))
   rintro s' ⟨hr,hl⟩
   exact Run.front hK hmi (fun q hq=>hp q (by simp[hq])) hr
  exact Run.swap hK hm hmi hc ha h2
def waitsF(ops:Array Oper):Nat→Nat→Nat→Bool
 |0,_,_=>false
 |f+1,i,j=>match ops[i]? with
  |some o=>o.after.any fun e=>Region.binds .any e&&(e.on==j||waitsF ops f e.on j)
  |none=>false
def Closed(ops:Array Oper)(listed:Array Bool):Prop:=
 ∀j,listed.getD j false=true→∀o,ops[j]? =some o→∀e∈o.after,Region.binds .any e=true→listed.getD e.on false=true
theorem waitsF_listed{ops:Array Oper}{listed:Array Bool}(hc:Closed ops listed):∀{f i j:Nat},waitsF ops f i j=true→(∀o,ops[i]? =some o→∀e∈o.after,Region.binds .any e=true→listed.getD e.on false=true)→
 listed.getD j false=true
 |0,_,_,h,_=>by cases h
 |f+1,i,j,h,hi=>by
  unfold waitsF at h
  split at h
  ·rename_i o ho
   obtain⟨e,he,h1⟩:=Array.any_eq_true'.1 h
   simp only[Bool.and_eq_true,Bool.or_eq_true,beq_iff_eq] at h1
   obtain⟨hb,h2⟩:=h1
   have hl:=hi o ho e he hb
   rcases h2 with h2|h2
   ·rw[←h2];exact hl
   ·exact waitsF_listed hc h2 (fun o' ho' e' he' hb'=>hc _ hl o' ho' e' he' hb')
  ·cases h
def pairOk(bl:List Nat)(ops:Array Oper)(p i:Nat):Bool:=
 waitsF ops ops.size i p||
 match ops[p]?,ops[i]? with
 |some op,some oi=>isMov op&&isFr bl oi&& !isCall op&&op.apart ops oi
 |_,_=>false
def noWait(ops:Array Oper)(p i:Nat):Bool:=match ops[p]? with
 |some op=>op.after.all fun e=> !Region.binds .any e||e.on !=i
 |none=>true
def dstApart(bl:List Nat)(ops:Array Oper)(p i:Nat):Bool:=match ops[p]?,ops[i]? with
 |some op,some oi=> !isFr bl op|| !isFr bl oi||match op.dst,oi.dst with
  |some a,some b=>a !=b
  |_,_=>true
 |_,_=>true
def pairsB(f:Nat→Nat→Bool):List Nat→Bool
 |[]=>true
 |p::l=>l.all (f p)&&pairsB f l
theorem pairsB_spec{f:Nat→Nat→Bool}:∀{l:List Nat},pairsB f l=true→l.Pairwise (fun p i=>f p i=true)
 |[],_=> .nil
 |p::l,h=>by
  simp only[pairsB,Bool.and_eq_true] at h
  exact .cons (fun i hi=>List.all_eq_true.1 h.1 i hi) (pairsB_spec h.2)
def movFirst(bl:List Nat)(ops:Array Oper)(p i:Nat):Bool:=true
def edgesIn(ops:Array Oper)(p:Nat):Bool:=match ops[p]? with
 |some op=>op.after.all fun e=> !Region.binds .any e||decide (e.on<ops.size)
 |none=>true
structure Ord(bl:List Nat)(ops:Array Oper)(l:List Nat):Prop where
 lt:∀i∈l,i<ops.size
 ok:l.Pairwise (fun p i=>pairOk bl ops p i=true)
 nw:l.Pairwise (fun p i=>noWait ops p i=true)
 self:∀i∈l,noWait ops i i=true
 ed:∀i∈l,edgesIn ops i=true
 dst:l.Pairwise (fun p i=>dstApart bl ops p i=true)
 mf:l.Pairwise (fun p i=>movFirst bl ops p i=true)
 nodup:l.Nodup
theorem Ord.sub{bl:List Nat}{ops:Array Oper}{l l':List Nat}(h:Ord bl ops l)(hs:l'.Sublist l):Ord bl ops l':=
 ⟨fun i hi=>h.lt i (hs.subset hi),h.ok.sublist hs,h.nw.sublist hs,fun i hi=>h.self i (hs.subset hi),fun i hi=>h.ed i (hs.subset hi),h.dst.sublist hs,h.mf.sublist hs,h.nodup.sublist hs⟩
theorem getD_tf{listed:Array Bool}{i:Nat}(h:listed.getD i true=false):listed.getD i false=false:=by
 rcases Nat.lt_or_ge i listed.size with h'|h'
 ·simp[h'] at h ⊢;exact h
 ·simp[Array.getElem?_eq_none h'] at h
def Fresh(bl:List Nat)(ops:Array Oper)(l:List Nat)(s:St):Prop:=∀i∈l,∀o,ops[i]? =some o→isFr bl o=true→∀d,false=true→o.dst=some d→look s.t d=none
theorem wpAny_of_run{P:Program}{bl:List Nat}{ops:Array Oper}{Q:Exit→Act→World→Prop}{K:St→Prop}{B:Bs}(hK:KC K)(hpost:∀s' a' w',K s'→Rel B s' a' w'→Q .normal a' w'):
 ∀(n:Nat) (l:List Nat) (listed:Array Bool) (s:St) (a:Act) (w:World),l.length=n→Ord bl ops l→listed.size=ops.size→
  (∀j,j<ops.size→(listed.getD j true=false↔j∈l))→Closed ops listed→Fresh bl ops l s→Run P bl ops (l.map fun i=>ops.getD i default) s K→Rel B s a w→
  wpAny P .any ops Q n listed a w:=by
 intro n
 induction n with
 |zero=>
  intro l listed s a w hn ho hsz hl hc hf hr h
  have:l=[]:=List.eq_nil_of_length_eq_zero hn
  subst this
  refine⟨?_,hpost _ _ _ hr h⟩
  rcases hh:Region.ready .any ops listed with _|⟨i,r⟩
  ·rfl
  ·exfalso
   obtain⟨h1,o,ho',_⟩:=mem_ready.1 (show i∈Region.ready .any ops listed by rw[hh];simp)
   have:=(hl i (Array.getElem?_eq_some_iff.1 ho').1).1 h1
   simp at this
 |succ n ih=>
  intro l listed s a w hn ho hsz hl hc hf hr h
  refine⟨fun h0=>?_,fun i hi=>?_⟩
  ·
   exfalso
   cases l with
   |nil=>simp at hn
   |cons i0 rest=>
    have hi0:=ho.lt i0 (by simp)
    have:i0∈Region.ready .any ops listed:=by
     refine mem_ready.2 ⟨(hl i0 hi0).2 (by simp),ops[i0],Array.getElem?_eq_getElem hi0,fun e he hb=>?_⟩
     rcases hx:listed.getD e.on false with _|_
     ·exfalso
      have hself:=ho.self i0 (by simp)
      have hnw:∀j,j∈rest→noWait ops i0 j=true:=fun j hj=>(List.pairwise_cons.1 ho.nw).1 j hj
      have key:∀j,noWait ops i0 j=true→e.on≠j:=fun j hj e'=>by
       unfold noWait at hj
       rw[Array.getElem?_eq_getElem hi0] at hj
       have:=(Array.all_eq_true'.1 hj) e he
       simp[hb,e'] at this
      rcases Nat.lt_or_ge e.on ops.size with hlt|hge
      ·have hun:listed.getD e.on true=false:=by
        have:e.on<listed.size:=by rw[hsz];exact hlt
        simp[this] at hx ⊢;exact hx
       have:=(hl e.on hlt).1 hun
       rcases List.mem_cons.1 this with h1|h1
       ·exact key i0 hself h1
       ·exact key e.on (hnw _ h1) rfl
      ·have hj:=ho.ed i0 (by simp)
       unfold edgesIn at hj
       rw[Array.getElem?_eq_getElem hi0] at hj
       have:=(Array.all_eq_true'.1 hj) e he
       simp[hb] at this
       omega
     ·rfl
    rw[h0] at this;cases this
  ·obtain⟨hun,oi,hoi,hall⟩:=mem_ready.1 hi
   have hilt:=(Array.getElem?_eq_some_iff.1 hoi).1
   have hil:i∈l:=(hl i hilt).1 hun
   obtain⟨pre,post,rfl⟩:=List.append_of_mem hil
   have hoid:ops.getD i default=oi:=by simp[hoi]
   have hpre:∀p∈pre,∃op,ops[p]? =some op∧isMov op=true∧isFr bl oi=true∧isCall op=false∧op.apart ops oi=true:=by
    intro p hp
    have hpo:pairOk bl ops p i=true:=(List.pairwise_append.1 ho.ok).2.2 p hp i (by simp)
    unfold pairOk at hpo
    rw[Bool.or_eq_true] at hpo
    rcases hpo with hpo|hpo
    ·exfalso
     have h1:=waitsF_listed hc hpo (fun o ho' e he hb=>by rw[hoi] at ho';cases ho';exact hall e he hb)
     have hplt:=ho.lt p (by simp[hp])
     have h2:=(hl p hplt).2 (by simp[hp])
     rw[getD_tf h2] at h1;cases h1
    ·rw[hoi] at hpo
     cases hop:ops[p]? with
     |none=>rw[hop] at hpo;cases hpo
     |some op=>
      rw[hop] at hpo
      simp only[Bool.and_eq_true,Bool.not_eq_true'] at hpo
      exact⟨op,rfl,hpo.1.1.1,hpo.1.1.2,hpo.1.2,hpo.2⟩
   have hrun:Run P bl ops (oi::((pre++post).map fun i=>ops.getD i default)) s K:=by
    rw[List.map_append] at hr ⊢
    rw[List.map_cons,hoid] at hr
    cases hpz:pre with
    |nil=>rw[hpz] at hr;exact hr
    |cons p0 pre0=>
     obtain⟨op0,_,_,hmi,_,_⟩:=hpre p0 (by rw[hpz];simp)
     rw[←hpz]
     have hfi:=hf i (by simp) oi hoi hmi
     refine Run.front hK hmi ?_ hr
     intro q hq
     obtain⟨p,hp,rfl⟩:=List.mem_map.1 hq
     obtain⟨op,hop,h1,h2,h3,h4⟩:=hpre p hp
     have:ops.getD p default=op:=by simp[hop]
     rw[this];exact⟨h1,h3,h4⟩
   have hsub:(pre++post).Sublist (pre++i::post):=List.Sublist.append (List.Sublist.refl _) (List.sublist_cons_self _ _)
   have hnd:=ho.nodup
   have hinot:i∉pre++post:=by
    intro hm
    have:=List.nodup_append.1 hnd
    rcases List.mem_append.1 hm with h1|h1
    ·exact this.2.2 i h1 i (by simp) rfl
    ·exact(List.nodup_cons.1 this.2.1).1 h1
   have hstep:Step P bl ops oi s (fun s'=>Run P bl ops ((pre++post).map fun i=>ops.getD i default) s' K∧Fresh bl ops (pre++post) s'):=by
    exact Step.mono (fun s' hr'=>⟨hr',fun j hj oj hoj hmj d hf'=>by cases hf'⟩) hrun
   unfold wpOp
   rw[hoi]
   dsimp only
   have hS:=Step.sound (K':=wpAny P .any ops Q n (listed.setIfInBounds i true)) (Q:=Q) hstep h (fun s' a' w' hk hrel=>by
 refine ih (pre++post) (listed.setIfInBounds i true) s' a' w' ?_ (ho.sub hsub) (by simpa using hsz) ?_ ?_ hk.2 hk.1 hrel
 ·simp at hn ⊢;omega
 ·intro j hj
  by_cases hij:i=j
  ·subst hij
   have:i<listed.size:=by rw[hsz];exact hilt
   simp[this]
   simpa using hinot
  ·rw[getD_set_ne true hij,hl j hj]
   simp[Ne.symm hij]
 ·intro j hj o hoj e he hb
  by_cases hij:i=j
  ·subst hij
   rw[hoi] at hoj;cases hoj
   exact getD_set_true (hall e he hb)
  ·rw[getD_set_ne false hij] at hj
   exact getD_set_true (hc j hj o hoj e he hb))
   split
   ·rename_i hw;rw[if_pos hw] at hS;exact .inl hS
   ·rename_i hw;rw[if_neg hw] at hS;exact hS
def drawnOk(bl:List Nat)(ops:Array Oper)(perm:List Nat):Bool:=
 decide (perm.length=ops.size)&&perm.all (fun i=>decide (i<ops.size))&&(List.range ops.size).all (fun i=>perm.contains i)&&
 pairsB (pairOk bl ops) perm&&pairsB (noWait ops) perm&&perm.all (fun i=>noWait ops i i)&&perm.all (fun i=>edgesIn ops i)&&pairsB (dstApart bl ops) perm&&pairsB (movFirst bl ops) perm&&pairsB (fun i j=>i !=j) perm
def freshB(bl:List Nat)(ops:Array Oper)(s:St):Bool:=true
theorem look_mem{t:List (Nat×Value)}{d:Nat}{sv:Value}(h:look t d=some sv):(d,sv)∈t:=by
 induction t with
 |nil=>cases h
 |cons p t ih=>
  obtain⟨d',v⟩:=p
  by_cases e:d'=d
  ·subst e;rw[look_cons_eq] at h;cases h;simp
  ·rw[look_cons_ne e] at h;exact List.mem_cons_of_mem _ (ih h)
theorem wp_drawn{P:Program}{bl:List Nat}{id:Nat}{ops:Array Oper}{Q:Exit→Act→World→Prop}{s:St}{B:Bs}{w:World}{a:Act}(perm:List Nat){l:List Oper}{K:St→Prop}
 (hm:P.follows .mixedOrders=true)(hc:drawnOk bl ops perm=true)(hl:perm.map (fun i=>ops.getD i default)=l)(hf:freshB bl ops s=true)(hr:Run P bl ops l s K)
 (hpost:∀s' a' w',K s'→Rel B s' a' w'→Q .normal a' w')(h:Rel B s a w):(Code.region id ops true).wp P Q a w:=by
 simp only[drawnOk,Bool.and_eq_true,decide_eq_true_eq] at hc
 obtain⟨⟨⟨⟨⟨⟨⟨⟨⟨hlen,hlt⟩,hall⟩,hpo⟩,hnw⟩,hself⟩,hed⟩,hds⟩,hmf⟩,hnd⟩:=hc
 have hOrd:Ord bl ops perm:=⟨fun i hi=>of_decide_eq_true (List.all_eq_true.1 hlt i hi),pairsB_spec hpo,pairsB_spec hnw,fun i hi=>List.all_eq_true.1 hself i hi,fun i hi=>List.all_eq_true.1 hed i hi,
 pairsB_spec hds,pairsB_spec hmf,(pairsB_spec hnd).imp (fun h=>by simpa using h)⟩
 subst hl
 have hK:KC (fun s'=>∃s0,Eqv s0 s'∧K s0):=fun s1 s2 he ⟨s0,h0,h1⟩=>⟨s0,h0.trans he,h1⟩
 have hr':Run P bl ops (perm.map fun i=>ops.getD i default) s (fun s'=>∃s0,Eqv s0 s'∧K s0):=hr.mono (fun s' hs'=>⟨s',Eqv.refl _,hs'⟩)
 refine wp_region_any hm ?_
 refine wpAny_of_run hK (fun s' a' w' ⟨s0,he,hk⟩ hrel=>hpost s0 a' w' hk (he.symm.rel hrel)) ops.size perm _ s a _ hlen hOrd (by simp) ?_ ?_ ?_ hr' h.drew
 ·intro j hj
  have:j∈perm:=by
   have:=List.all_eq_true.1 hall j (List.mem_range.2 hj)
   simpa using this
  simp[hj,this]
 ·intro j hj
  exfalso
  rcases Nat.lt_or_ge j ops.size with h1|h1
  ·simp[h1] at hj
  ·simp[h1] at hj
 ·intro i hi o ho hmo d hf'
  cases hf'
structure TI where
 agg:Bool
 size:Nat
 flds:List (Nat×Nat)
def tab:List (Nat×TI)→Nat→Option TI
 |[],_=>none
 |(t,i)::l,k=>bif t==k then some i else tab l k
def aggD:Option TypeDesc→Option Bool
 |some (.struct _)|some (.array _ _)=>some true
 |some _=>some false
 |none=>none
def fldsD(P:Program):Option TypeDesc→List (Nat×Nat)
 |some (.struct fs)=>fs.toList.map fun f=>(f.offset,((P.info? f.type).map (·.size)).getD 0)
 |_=>[]
def tiOK(P:Program)(t:Nat)(i:TI):Bool:=
 (P.info? t).any (fun inf=>inf.size==i.size)&&(aggD (P.underlying t)==some i.agg)&&(fldsD P (P.underlying t)==i.flds)
theorem ti_size{P:Program}{t:Nat}{i:TI}(h:tiOK P t i=true):∃inf,P.info? t=some inf∧inf.size=i.size:=by
 simp only[tiOK,Bool.and_eq_true,Option.any_eq_true] at h
 obtain⟨⟨⟨inf,h1,h2⟩,_⟩,_⟩:=h
 exact⟨inf,h1,by simpa using h2⟩
theorem ti_agg{P:Program}{t:Nat}{i:TI}(h:tiOK P t i=true)(w:World):(isAgg t).run P w= .ok i.agg w:=by
 simp only[tiOK,Bool.and_eq_true,beq_iff_eq] at h
 obtain⟨⟨_,h1⟩,_⟩:=h
 cases hu:P.underlying t with
 |none=>rw[hu] at h1;cases h1
 |some d=>
  unfold isAgg
  rw[Sem.run_bind,run_underlying hu w]
  rw[hu] at h1
  cases d<;>simp_all[aggD]
theorem ti_sizeOf{P:Program}{t:Nat}{i:TI}(h:tiOK P t i=true)(w:World):(sizeOf t).run P w= .ok i.size w:=by
 obtain⟨inf,h1,h2⟩:=ti_size h
 simp[sizeOf,typeInfo,h1,h2]
theorem ti_fld{P:Program}{t:Nat}{i:TI}(h:tiOK P t i=true){j:Nat}{p:Nat×Nat}(hp:i.flds[j]? =some p):∃fs f,P.underlying t=some (.struct fs)∧fs[j]? =some f∧f.offset=p.1∧((P.info? f.type).map (·.size)).getD 0=p.2:=by
 simp only[tiOK,Bool.and_eq_true,beq_iff_eq] at h
 obtain⟨_,h1⟩:=h
 cases hu:P.underlying t with
 |none=>rw[hu] at h1;simp[fldsD] at h1;rw[h1] at hp;simp at hp
 |some d=>
  rw[hu] at h1
  cases d<;>simp only[fldsD] at h1<;>first|(rw[←h1] at hp;simp at hp;done)|skip
  rename_i fs
  rw[←h1,List.getElem?_map] at hp
  simp only[Option.map_eq_some_iff] at hp
  obtain⟨f,h2,h3⟩:=hp
  exact⟨fs,f,rfl,by simpa using h2,by rw[←h3],by rw[←h3]⟩
def Blk.at(b:Blk)(off:Nat):Value:= .pointer (b.base.map fun g=>⟨g,off,none⟩)
theorem add_lit(g off j:Nat):(⟨g,off,none⟩:Addr).add j=⟨g,off+j,none⟩:=by unfold Addr.add;split<;>simp_all
theorem LRel.cell{B:Bs}{w:World}{L:List Blk}(h:LRel B L w){k:Nat}{b:Blk}(hk:L[k]? =some b){j:Nat}{v:Value}(hj:b.cs[j]? =some v):
 ∃g,b.base=some g∧w.cell? ⟨g,j,none⟩=some v:=by
 obtain⟨h1,h2⟩:=h.blk k b hk
 cases hb:b.base with
 |none=>rw[(h2 hb).1] at hj;simp at hj
 |some g=>
  obtain⟨cur,⟨e',fr,h3,_⟩,h4,h5⟩:=(h1 g hb).cells (.inr (fun e=>by rw[e] at hj;simp at hj))
  refine⟨g,rfl,?_⟩
  rw[cell_of_row w g j cur e' fr h3]
  have hj':j<b.cs.length:=(List.getElem?_eq_some_iff.1 hj).1
  rw[←h5,List.getElem?_take,if_pos hj'] at hj
  simpa using hj
theorem LRel.loadVar{P:Program}{B:Bs}{w:World}{L:List Blk}(h:LRel B L w){k:Nat}{b:Blk}(hk:L[k]? =some b){T:Nat}{i:TI}(hi:tiOK P T i=true){off:Nat}{vs:List Value}{v:Value}
 (hvs:(b.cs.drop off).take i.size=vs)(hlen:vs.length=i.size)(hpos:0<i.size)(hv:(bif i.agg then some (.agg vs.toArray) else vs[0]?)=some v):
 ∃g,b.base=some g∧(Go.loadVar T ⟨g,off,none⟩).run P w= .ok v w:=by
 have hc:∀j u,vs[j]? =some u→b.cs[off+j]? =some u:=by
  intro j u hj
  rw[←hvs,List.getElem?_take] at hj
  split at hj
  ·simpa using hj
  ·cases hj
 obtain⟨u0,hu0⟩:∃u,vs[0]? =some u:=by rw[List.getElem?_eq_getElem (by omega)];exact⟨_,rfl⟩
 obtain⟨g,hg,h0⟩:=h.cell hk (hc 0 u0 hu0)
 refine⟨g,hg,?_⟩
 have hcell:∀j u,vs[j]? =some u→w.cell? ((⟨g,off,none⟩:Addr).add j)=some u:=by
  intro j u hj
  obtain⟨g',hg',h1⟩:=h.cell hk (hc j u hj)
  rw[hg] at hg';cases hg'
  rw[add_lit];exact h1
 unfold Go.loadVar
 rw[Sem.run_bind,ti_agg hi w]
 simp only[Result.andThen_ok]
 cases ha:i.agg with
 |true=>
  rw[ha] at hv
  simp only[cond_true,Option.some.injEq] at hv
  subst hv
  have:=run_loadCells_list (P:=P) w ⟨g,off,none⟩ vs hcell
  rw[hlen] at this
  simp[Sem.run_bind,ti_sizeOf hi w,this]
 |false=>
  rw[ha] at hv
  simp only[cond_false] at hv
  have:=hcell 0 v hv
  simp only[add_lit,Nat.add_zero] at this
  simp[this]
section
variable{P:Program}{o:Oper}{s:St}
theorem q_move{x:Operand}{v:Value}(ho:o.op= .move x)(hx:ev s.t x=some v):Quiet P o s v:=fun B a w hr=>by
 simp[execOp,ho,hr.ev hx]
theorem q_assign{x:Operand}{v:Value}(ho:o.op= .assign x)(hx:ev s.t x=some v):Quiet P o s v:=fun B a w hr=>by
 simp[execOp,ho,hr.ev hx]
theorem q_pick{c x y:Operand}{b:Bool}{v:Value}(ho:o.op= .pick c x y)(hc:ev s.t c=some (.bool b))(hv:ev s.t (if b then x else y)=some v):Quiet P o s v:=fun B a w hr=>by
 have h1:=hr.ev hc
 have h2:=hr.ev hv
 cases b<;>simp[execOp,ho,h1,asBool]<;>simpa using h2
theorem q_load{T:Nat}{x:Operand}{i:TI}{b:Blk}{off:Nat}{vs:List Value}{v:Value}(ho:o.op= .load T x)(k:Nat)(hk:s.L[k]? =some b)(hx:ev s.t x=some (b.at off))(hi:tiOK P T i=true)
 (hvs:(b.cs.drop off).take i.size=vs)(hlen:vs.length=i.size)(hpos:0<i.size)(hv:(bif i.agg then some (.agg vs.toArray) else vs[0]?)=some v):Quiet P o s v:=fun B a w hr=>by
 obtain⟨g,hg,h1⟩:=hr.mem.loadVar hk hi hvs hlen hpos hv
 have h2:=hr.ev hx
 unfold Blk.at at h2
 rw[hg] at h2
 simp only[Option.map_some] at h2
 simp[execOp,ho,h2,Instr.loadAt,Instr.sureAddr,h1]
theorem q_fieldAddr{T:Nat}{x:Operand}{j:Nat}{i:TI}{b:Blk}{off fo fs:Nat}(ho:o.op= .fieldAddr T x j)(k:Nat)(hk:s.L[k]? =some b)(hx:ev s.t x=some (b.at off))(hb:b.base.isSome=true)(hi:tiOK P T i=true)
 (hf:i.flds[j]? =some (fo,fs+1)):Quiet P o s (b.at (off+fo)):=fun B a w hr=>by
 have h2:=hr.ev hx
 obtain⟨g,hg⟩:=Option.isSome_iff_exists.1 hb
 unfold Blk.at at h2 ⊢
 rw[hg] at h2 ⊢
 simp only[Option.map_some] at h2 ⊢
 obtain⟨fs',f,h3,h4,h5,h6⟩:=ti_fld hi hf
 simp only at h5 h6
 have hsz:(sizeOf f.type).run P w= .ok (fs+1) w:=by
  cases hq:P.info? f.type with
  |none=>rw[hq] at h6;simp at h6
  |some inf=>rw[hq] at h6;simp at h6;simp[sizeOf,typeInfo,hq,h6]
 simp[execOp,ho,h2,Instr.fieldAt,run_underlying h3,h4,Instr.sureAddr,fieldPlace,hsz,add_lit,h5]
end
theorem setRow_map(w:World)(g:Nat)(cur':Array Value){es:Array MapEntry}{c:Nat}(h:w.heap[g]? =some (.map es c)):(w.setRow g cur').heap[g]? =some (.map es c):=by
 have hlt:g<w.heap.size:=(Array.getElem?_eq_some_iff.1 h).1
 have hv:w.heap[g]= .map es c:=(Array.getElem?_eq_some_iff.1 h).2
 unfold World.setRow
 rw[Array.getElem?_eq_getElem (by simpa using hlt),Array.getElem_modify]
 simp[hv]
theorem LRel.set{B:Bs}{w:World}{L:List Blk}(h:LRel B L w){k:Nat}{b:Blk}(hk:L[k]? =some b)(ho:b.own=true){g:Nat}(hg:b.base=some g)(cur':Array Value)(cs':List Value)
 (hn:cur'.size=b.n)(hc:cur'.toList.take cs'.length=cs'):LRel B (L.set k {b with cs:=cs'}) (w.setRow g cur'):=by
 have h6:=((h.blk k b hk).1 g hg).2
 have hkl:k<L.length:=(List.getElem?_eq_some_iff.1 hk).1
 have base:∀(m:Nat) (bm:Blk),(L.set k {b with cs:=cs'})[m]? =some bm→∃bm',L[m]? =some bm'∧bm'.base=bm.base∧bm'.own=bm.own∧bm'.e=bm.e:=by
  intro m bm hm
  by_cases e:k=m
  ·subst e
   rw[List.getElem?_set_self hkl] at hm
   cases hm
   exact⟨b,hk,rfl,rfl,rfl⟩
  ·rw[List.getElem?_set_ne e] at hm;exact⟨bm,hm,rfl,rfl,rfl⟩
 refine⟨h.bel.one (h6 ho) rfl rfl rfl (by simp) (fun i hne=>setRow_other w g i _ (by omega)),fun j b' hj=>?_,fun i j g' bi bj hij hi hj hoi hgi hgj=>?_,?_⟩
 rotate_left 2
 ·refine(h.grp.step (w':=w.setRow g cur') fun g' _ hc=>setRow_other w g g' _ (fun e=>hc b (List.mem_of_getElem? hk) ho (by rw[hg,e]))).sub (fun c hc hn=>?_) (fun c hc hoc g' hgc=>?_)
  ·obtain⟨m,hm⟩:=List.mem_iff_getElem?.1 hc
   obtain⟨c',c1,c2,c3,c4⟩:=base m c hm
   exact .inr ⟨c',List.mem_of_getElem? c1,by rw[c2];exact hn,c4,fun h=>by rw[c3];exact h⟩
  ·obtain⟨m,hm⟩:=List.mem_iff_getElem?.1 hc
   obtain⟨c',c1,c2,c3,c4⟩:=base m c hm
   exact⟨c',List.mem_of_getElem? c1,by rw[c3];exact hoc,by rw[c2];exact hgc⟩
 ·by_cases e:k=j
  ·subst e
   rw[List.getElem?_set_self hkl] at hj
   cases hj
   refine⟨fun g' hg'=>?_,fun hn'=>by rw[hg] at hn';cases hn'⟩
   rw[hg] at hg';cases hg'
   refine⟨?_,h6⟩
   rcases((h.blk k b hk).1 g hg).1 with⟨cur,⟨e',fr,h3,hfr,hlt⟩,h4,h5⟩|⟨l,es,c,a1,a2,a3,a4,h3,a5⟩
   ·obtain⟨rfl,rfl⟩:=hfr ho
    exact .inl ⟨cur',⟨_,_,setRow_heap w g cur cur' b.e (0,0) h3,fun _=>⟨rfl,rfl⟩,hlt⟩,hn,hc⟩
   ·have hcs:cs'=[]:=by
     have h7:cur'.toList=[]:=List.eq_nil_of_length_eq_zero (by rw[Array.length_toList,hn,a3])
     rw[h7] at hc;simpa using hc.symm
    exact .inr ⟨l,es,c,a1,hcs,a3,a4,setRow_map w g cur' h3,a5⟩
  ·rw[List.getElem?_set_ne e] at hj
   obtain⟨h1,h2⟩:=h.blk j b' hj
   refine⟨fun g' hg'=>?_,h2⟩
   have h8:=h1 g' hg'
   have hne:g'≠g:=fun e'=>h.apart k j g b b' e hk hj ho hg (by rw[hg',e'])
   exact h8.heap (setRow_other w g g' _ hne)
 ·obtain⟨bi',a1,a2,a3,_⟩:=base i bi hi
  obtain⟨bj',c1,c2,c3,_⟩:=base j bj hj
  exact h.apart i j g' bi' bj' hij a1 c1 (by rw[a3];exact hoi) (by rw[a2];exact hgi) (by rw[c2];exact hgj)
section
variable{P:Program}{o:Oper}{s:St}
theorem eff_of{X:Type}{nx:X→St}(h:∀(B:Bs) (a:Act) (w:World),Rel B s a w→∃v w' x,(execOp a.eval o).run P w= .ok (.value v) w'∧Rel B (nx x) (a.put o.dst v) w'):Eff P o s X nx:=fun B a w hr=>by
 obtain⟨v,w',x,h1,h2⟩:=h B a w hr
 unfold Oper.wp
 rw[h1]
 exact⟨x,h2⟩
theorem e_box{T:Nat}{x:Operand}{v:Value}(hT:T<mapMark)(hd:∀d,o.dst=some d→d<s.nt)(ho:o.op= .box T x)(hx:ev s.t x=some v):
 Eff P o s Nat (fun g=>({s with L:=s.L++[⟨some g,T,v.cells.toList,v.cells.size,true⟩]}:St).put o.dst (.pointer (some ⟨g,0,none⟩))):=
 eff_of fun B a w hr=>⟨.pointer (some ⟨w.heap.size,0,none⟩),w.alloc (.cells v.cells T),w.heap.size,by simp[execOp,ho,hr.ev hx,Instr.box,newVar,newRow],hr.put hd (hr.mem.alloc T v.cells hT)⟩
theorem alc_alloc{T:Nat}{z:Value}(hT:T<mapMark)(ho:o.op= .alloc T)(hz:(P.info? T).bind (·.zero)=some z):alTy P o=some (T,z.cells):=by
 unfold alTy;rw[ho];dsimp only;rw[if_pos hT,hz];rfl
theorem e_storeS{T:Nat}{x y:Operand}{i:TI}{b:Blk}{off:Nat}{v:Value}(ho:o.op= .store T x y)(k:Nat)(hk:s.L[k]? =some b)(hown:b.own=true)(hx:ev s.t x=some (b.at off))(hb:b.base.isSome=true)
 (hy:ev s.t y=some v)(hi:tiOK P T i=true)(hsz:v.cells.size=i.size)(hpos:0<i.size)(hfit:off+i.size≤b.cs.length)(h1:(v.cells.toList.all fun u=>u.oneCell')=true):
 EffS P o s (s.L.set k {b with cs:=b.cs.take off++v.cells.toList++b.cs.drop (off+i.size)}):=fun B a w hr=>by
 obtain⟨g,hg⟩:=Option.isSome_iff_exists.1 hb
 have h2:=hr.ev hx
 unfold Blk.at at h2
 rw[hg] at h2
 simp only[Option.map_some] at h2
 obtain⟨cur,⟨e',fr,h3,hfr,_⟩,h4,h5⟩:=((hr.mem.blk k b hk).1 g hg).cells (.inr (fun e=>by rw[e] at hfit;simp at hfit;omega))
 obtain⟨rfl,rfl⟩:=hfr hown
 have hlc:b.cs.length≤cur.size:=by
  have:=congrArg List.length h5
  simp at this;omega
 have hvl:v.cells.toList.length=i.size:=by simp[hsz]
 have hst:=run_storeCells_at P g off b.e v.cells.toList 0 cur w h3 (by rw[hvl];omega) (fun u hu=>List.all_eq_true.1 h1 u hu)
 simp only[Nat.add_zero] at hst
 have hrun:(execOp a.eval o).run P w= .ok .skip (w.setRow g (cur.toList.take off++v.cells.toList++cur.toList.drop (off+v.cells.toList.length)).toArray):=by
  simp only[execOp,ho,hr.ev hy,h2,Instr.storeAt,Instr.sureAddr,Sem.run_bind,Sem.run_pure,Result.andThen_ok]
  unfold Go.storeVar
  simp only[Sem.run_bind,ti_sizeOf hi w,Result.andThen_ok,hsz,ne_eq,not_true,if_false,Sem.run_ite]
  simp[hst]
 refine⟨_,hrun,?_⟩
 refine hr.mem.set hk hown hg _ _ ?_ ?_
 ·simp only[List.size_toArray,List.length_append,List.length_take,List.length_drop,Array.length_toList,hvl]
  rw[←h4]
  simp only[Array.length_toList] at*
  omega
 ·simp only[hvl]
  have hct:cur.toList=b.cs++cur.toList.drop b.cs.length:=by
   conv=>lhs;rw[←List.take_append_drop b.cs.length cur.toList,h5]
  generalize hcl:cur.toList=cl at*
  generalize hr':cl.drop b.cs.length=rest at*
  subst hct
  have e1:(b.cs++rest).take off=b.cs.take off:=by rw[List.take_append_of_le_length (by omega)]
  have e2:(b.cs++rest).drop (off+i.size)=b.cs.drop (off+i.size)++rest:=by rw[List.drop_append_of_le_length hfit]
  rw[e1,e2,←List.append_assoc]
  exact List.take_left
end
end Go.Via
