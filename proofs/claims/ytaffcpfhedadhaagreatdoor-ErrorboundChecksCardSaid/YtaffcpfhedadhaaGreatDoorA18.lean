/-
  Part 18 (chapter 32): lemmas, walks. Each theorem states its own conditions.
-/
import GoSem.Core.World
import Derived.MapKept
import Derived.WalkKit
import Derived.WalkSpells
import Derived.WalkLawsBesides
import Derived.Deep.LoopGhost
import Derived.Deep.AppendSrc
import Derived.Laws.BytesArg
import Derived.Laws.CopyRow
import Derived.Laws.AppendOwn
import Derived.Deep.Upon
import Derived.Laws.Small
import Derived.WideKeyEntry
import Derived.Test.YtaffcpfhedadhaaGreatDoorProg
import Derived.Test.YtaffcpfhedadhaaGreatDoorA14
set_option linter.all false
set_option maxRecDepth 20000
set_option maxHeartbeats 20000000
namespace Go.Proofs.YtaffcpfhedadhaaGreatDoor
open Go Go.RowKit Go.Via
def tiL:List (Nat×TI):=((3,⟨false,1,[]⟩)::(4,⟨false,1,[]⟩)::(5,⟨false,1,[]⟩)::(9,⟨false,1,[]⟩)::(22,⟨false,1,[]⟩)::(24,⟨true,4,[(0,1),(1,1),(2,1),(3,1)]⟩)::(26,⟨true,9,[(0,4),(4,4),(8,1)]⟩)::(32,⟨false,1,[]⟩)::(34,⟨true,2,[(0,1),(1,1)]⟩)::(36,⟨true,4,[(0,2),(2,2)]⟩)::(38,⟨true,9,[(0,4),(4,4),(8,1)]⟩)::(40,⟨true,10,[(0,1),(1,9)]⟩)::(48,⟨true,5,[(0,1),(1,1),(2,1),(3,1),(4,1)]⟩)::(55,⟨true,4,[(0,1),(1,1),(2,1),(3,1)]⟩)::(57,⟨true,6,[(0,1),(1,1),(2,4)]⟩)::(61,⟨true,20,[(0,9),(9,9),(18,1),(19,1)]⟩)::(63,⟨true,38,[(0,20),(20,9),(29,9)]⟩)::(74,⟨false,1,[]⟩)::(86,⟨true,4,[(0,1),(1,1),(2,1),(3,1)]⟩)::(91,⟨true,12,[(0,4),(4,4),(8,4)]⟩)::(93,⟨true,32,[(0,20),(20,12)]⟩)::(98,⟨true,16,[(0,4),(4,4),(8,4),(12,4)]⟩)::(100,⟨true,36,[(0,20),(20,16)]⟩)::(118,⟨false,1,[]⟩)::(120,⟨true,3,[(0,1),(1,1),(2,1)]⟩)::(130,⟨true,3,[]⟩)::(135,⟨true,8,[(0,4),(4,4)]⟩)::(137,⟨true,12,[(0,4),(4,8)]⟩)::(148,⟨false,1,[]⟩)::(151,⟨true,52,[(0,20),(20,16),(36,16)]⟩)::(174,⟨true,12,[]⟩)::(181,⟨true,21,[(0,20),(20,1)]⟩)::(184,⟨true,21,[(0,20),(20,1)]⟩)::(197,⟨true,0,[]⟩)::(201,⟨true,36,[(0,20),(20,16)]⟩)::(209,⟨true,10,[(0,9),(9,1)]⟩)::(221,⟨false,1,[]⟩)::(251,⟨true,2,[]⟩)::(253,⟨true,12,[(0,10),(10,2)]⟩)::(272,⟨false,1,[]⟩)::(286,⟨true,8,[]⟩)::(306,⟨false,1,[]⟩)::(308,⟨true,2,[(0,1),(1,1)]⟩)::(317,⟨true,256,[]⟩)::(328,⟨false,1,[]⟩)::(352,⟨true,2,[(0,1),(1,1)]⟩)::(353,⟨true,32,[]⟩)::[])
def qvC(T:Nat):TI:=(tiL.lookup T).getD ⟨false,0,[]⟩
def tiK:tiL.all (fun p=>dH Tryz.prog p.1 p.2)=true:=ak
def Ol{α:Type}:∀{l:List (Nat×α)} {k:Nat} {v:α},l.lookup k=some v->(k,v)∈l
 |(a,b)::l,k,v,h=>by
  rw[List.lookup_cons] at h
  split at h
  ·rename_i e;cases h;rw[eq_of_beq e];exact List.mem_cons_self
  ·exact List.mem_cons_of_mem _ (Ol h)
def qvD{α:Type}{p:Nat->α->Bool}{l:List (Nat×α)}{k:Nat}{v:α}(h:l.all (fun x=>p x.1 x.2)=true)(hv:l.lookup k=some v):p k v=true:=List.all_eq_true.1 h _ (Ol hv)
def slB(o:Option TypeDesc)(e:Nat):Bool:=match o with
 |some (.slice e')=>e'==e
 |_=>false
def qtd{o:Option TypeDesc}{e:Nat}(h:slB o e=true):o=some (.slice e):=by
 unfold slB at h
 split at h
 ·rw[eq_of_beq h]
 ·cases h
def stB(o:Option TypeDesc):Bool:=match o with
 |some .string=>true
 |_=>false
def qte{o:Option TypeDesc}(h:stB o=true):o=some .string:=by
 unfold stB at h
 split at h
 ·rfl
 ·cases h
def xm(T:Nat)(h:(tiL.lookup T).isSome=true:=by rfl):dH Tryz.prog T (qvC T)=true:=by
 obtain⟨v,hv⟩:=Option.isSome_iff_exists.1 h;unfold qvC;rw[hv,Option.getD_some];exact qvD (p:=fun a b=>dH Tryz.prog a b) tiK hv
def elL:List (Nat×Nat):=((22,86)::(29,100)::(32,63)::(74,61)::(88,93)::(118,3)::(146,151)::(148,201)::(153,38)::(177,181)::(182,184)::(186,32)::(221,5)::(249,253)::(250,74)::(270,272)::[])
def qvE(T:Nat):Nat:=(elL.lookup T).getD 0
def elK:elL.all (fun p=>slB (Tryz.prog.underlying p.1) p.2)=true:=ak
def uA(T:Nat)(h:(elL.lookup T).isSome=true:=by rfl):Tryz.prog.underlying T=some (.slice (qvE T)):=by
 obtain⟨v,hv⟩:=Option.isSome_iff_exists.1 h;unfold qvE;rw[hv];have:=qvD (p:=fun a b=>slB (Tryz.prog.underlying a) b) elK hv
 rw[Option.getD_some];exact qtd this
def stL:List Nat:=(9::[])
def stK:stL.all (fun T=>stB (Tryz.prog.underlying T))=true:=ak
def uT(T:Nat)(h:stL.contains T=true:=by rfl):Tryz.prog.underlying T=some .string:=by
 exact qte (List.all_eq_true.1 stK T (List.contains_iff_mem.1 h))
end Go.Proofs.YtaffcpfhedadhaaGreatDoor
