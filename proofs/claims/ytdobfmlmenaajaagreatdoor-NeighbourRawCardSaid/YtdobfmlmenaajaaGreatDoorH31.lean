/-
  Lemmas for NeighbourRaw.
-/
import Derived.Test.YtdobfmlmenaajaaGreatDoorH30
namespace Go.Proofs.YtdobfmlmenaajaaGreatDoor
open Go.RowKit Tryz
set_option maxHeartbeats 6400000
set_option maxRecDepth 4096
set_option linter.all false
attribute [local go_sem] Nat.reduceAdd Nat.reduceEqDiff Nat.reduceLeDiff Nat.reduceLT reduceCtorEq Int.ofNat_lt decide_true decide_false Int.zero_le_ofNat
attribute [local go_sem ↓] reduceIte
variable{M:Nat->Prop}{w:World}
def jb(m:Nat)(len:Nat->Nat)(A:aI):AV:=.lst 1 m (fun i=>aK (len i) (A i))
def TK(m:Nat)(len:Nat->Nat):Prop:=1<=m/\m<=8/\∀i,i<m->len i=m
def FF(m:Nat)(len:Nat->Nat)(A:aI)(o:m<=12)(h:¬TK m len):PF 107 [jb m len A] (.bool false):=by
 refine iH func107 ntmps107 results107 ?_;by_cases p:m<1
 .simp -dsimp only[go_sem,aK,jb,show(m:Int)<1 by omega]
  exact VR.mf rfl
 by_cases q:8<m
 .simp -dsimp only[go_sem,aK,jb,(om:¬((m:Int)<1)),show(8:Int)<(m:Int) by omega]
  exact VR.mf rfl
 simp -dsimp only[go_sem,aK,jb,(om:¬((m:Int)<1)),(om:¬((8:Int)<(m:Int)))]
 refine aH (fun O S=>∃i:Nat,i<=m/\(∀a,a<i->len a=m)/\O 0=jb m len A/\O 3=.int .i64 m/\O 18=jb m len A/\O 19=.int .i64 m/\O 20=.int .i64 i) (fun O S=>m-cj (O 20)) ?_ ?_
 .simp -dsimp only[go_sem,aK,jb];exact⟨0,om,fun a j=>om,rfl⟩
 .rintro O S ⟨i,r,b,k,l,c,d,f⟩;by_cases g:i<m
  .by_cases n:len i=m
   .simp -dsimp only[go_sem,aK,jb,k,l,c,d,f,g,show(((len i:Nat):Int) != (m:Int))=false by rw[n];simp,aP (om:i<1000000),cj]
    refine⟨⟨i+1,om,fun a j=>?_,rfl⟩,om⟩
    by_cases e:a=i
    .rw[e];exact n
    .exact b a om
   .simp -dsimp only[go_sem,aK,jb,k,l,c,d,f,g,show(((len i:Nat):Int) != (m:Int))=true by simp;omega]
    exact VR.mf rfl
  .exact absurd ⟨om,om,fun a j=>b a om⟩ h
def qC(m:Nat)(len:Nat->Nat)(A:aI)(a:m<=12)(h:¬TK m len):PF 48 [jb m len A] (.bool false):=by
 refine iH func48 ntmps48 results48 ?_;simp -dsimp only[go_sem,aa];refine(FF m len A a h).call ?_;simp -dsimp only[go_sem];exact VR.mf rfl
def Es(m:Nat)(len:Nat->Nat)(A:aI)(t:m<=12)(h:m<1∨∃i,i<m/\(len i<1∨len i≠len 0))(n:∀i,i<m->len i<=12):PF 55 [jb m len A] (.tup [.nil,.bool false]):=by
 refine iH func55 ntmps55 results55 ?_;by_cases o:m<1
 .simp -dsimp only[go_sem,aK,jb,show(m:Int)<1 by omega]
  exact VR.tup (by simp[pI])
 have h':∃i,i<m/\(len i<1∨len i≠len 0):=h.resolve_left o;have g:0<m:=om
 simp -dsimp only[go_sem,aK,jb,(om:¬((m:Int)<1)),(om:¬((16:Int)<(m:Int)))]
 refine aH (fun O S=>∃k:Nat,k<=m/\(∀a,a<k->¬(len a<1∨len a≠len 0))/\O 0=jb m len A/\O 17=jb m len A/\O 18=.int .i64 m/\O 19=.int .i64 k) (fun O S=>m-cj (O 19)) ?_ ?_
 .simp -dsimp only[go_sem,aK,jb];exact⟨0,om,fun a p=>om,rfl⟩
 .rintro O S ⟨k,u,j,l,c,d,f⟩;by_cases b:k<m
  .have q:=n k b;by_cases v:len k<1
   .simp -dsimp only[go_sem,jb,aK,l,c,d,f,b,show((len k:Nat):Int)<1 by omega]
    exact VR.tup (by simp[pI])
   by_cases r:len k=len 0
   .simp -dsimp only[go_sem,jb,aK,l,c,d,f,b,(om:¬(((len k:Nat):Int)<1)),(om:¬((16:Int)<((len k:Nat):Int))),show(((len k:Nat):Int) != ((len 0:Nat):Int))=false by rw[r];simp,kd,show(0:Int)<(m:Int) by omega,g,aP (om:k<1000000),cj]
    refine⟨⟨k+1,om,fun a p=>?_,rfl⟩,om⟩
    by_cases e:a=k
    .rw[e];omega
    .exact j a om
   .simp -dsimp only[go_sem,jb,aK,l,c,d,f,b,(om:¬(((len k:Nat):Int)<1)),(om:¬((16:Int)<((len k:Nat):Int))),show(((len k:Nat):Int) != ((len 0:Nat):Int))=true by simp;omega,kd,show(0:Int)<(m:Int) by omega,g]
    exact VR.tup (by simp[pI])
  .obtain⟨i,w,s⟩:=h';exact absurd s (j i om)
def KC(n m:Nat)(A:aI)(a:1<=n)(b:n<=16)(c:1<=m)(d:m<=16)(h:n≠m):PF 115 [aR n m A] (.tup [.int .i64 0,.bool false]):=by
 refine iH func115 ntmps115 results115 ?_;simp -dsimp only[go_sem];refine(mE n m A a b c d).call ?_;simp -dsimp only[go_sem,show((n:Int) != (m:Int))=true by simp;omega]
 exact VR.tup (by simp[pI])
def AP(n m:Nat)(A:aI)(a:1<=n)(b:n<=16)(c:1<=m)(d:m<=16)(h:n≠m∨8<n):PF 56 [aR n m A] (.int .i64 3):=by
 refine iH func56 ntmps56 U4 ?_;simp -dsimp only[go_sem,aa];by_cases e:n=m
 .subst e;refine(pj n A a b).call ?_;simp -dsimp only[go_sem,aa,show(8:Int)<n by omega]
  exact VR.mf rfl
 .refine(KC n m A a b c d e).call ?_;simp -dsimp only[go_sem,aa];exact VR.mf rfl
def wS(n m:Nat)(A:aI)(a:1<=n)(c:n<=16)(d:1<=m)(e:m<=16)(h:n≠m∨8<n)(f:∀i j,i<n->j<m->qN (A i j)):PF 21 [az n m A] (.bool false):=by
 refine iH func21 ntmps21 results21 ?_;simp -dsimp only[go_sem,aa];refine(qt _ n m A a c d e f).mono ?_;rintro _ S1 ⟨b,g,rfl,k⟩;simp -dsimp only[go_sem,aa];refine(AP n m A a c d e h).spec (fI.cons k.vr.va fI.nil) ?_;simp -dsimp only[go_sem,aa];exact VR.mf rfl
def aT.one{z z':AV}(h:∀v,bs w M z v->bs w M z' v){vs:List Value}(b:aT w M [z] vs):aT w M [z'] vs:=by
 match vs,b with
 | [a],b =>
  simp only[aT]at b ⊢;exact⟨h a b.1,trivial⟩
def qE(m:Nat)(len:Nat->Nat)(A:aI)(l:m<=12)(g:∀i,i<m->len i<=12)(h:¬TK m len)(n:∀i j,i<m->j<len i->qN (A i j)):PF 21 [jb m len A] (.bool false):=by
 by_cases d:m<1∨∃i,i<m/\(len i<1∨len i≠len 0)
 .refine iH func21 ntmps21 results21 ?_;simp -dsimp only[go_sem,aa];refine(Es m len A l d g).call ?_;simp -dsimp only[go_sem,aa];exact VR.mf rfl
 .have c:1<=m:=om
  have a:∀i,i<m->len i=len 0:=fun i b=>ez fun e=>d (bH ⟨i,b,bH e⟩);have f:1<=len 0:=by
   rcases aC (len 0) 1 with e|e
   .exact absurd (bH ⟨0,c,bF e⟩) d
   .exact e
  have k:=g 0 c;have o:=wS m (len 0) A c om f om (by
   rcases aC 8 m with e|e
   .exact bH e
   .refine bF fun p=>h ⟨c,e,fun i b=>(a i b).trans p.symm⟩) (fun i j b q=>n i j b (by rw[a i b];exact q))
  exact fun w vs r s=>o w vs r (aT.one (fun v t=>bs.lst_congr (fun i b=>by rw[a i b]) t) s)
def Lm(m:Nat)(len:Nat->Nat)(A:aI)(p:Int)(a:m<=12)(h:¬TK m len)(S:St)(_hG:lL S):cP 174 [jb m len A,.int .i64 p] S (fun r S'=>r=.int .i64 6/\ft S S'):=by
 refine i9 func174 ntmps174 results174 ?_;simp -dsimp only[go_sem,aa];refine(qC m len A a h).call ?_;simp -dsimp only[go_sem,aa];exact ft.refl S
def Ix(m:Nat)(len:Nat->Nat)(A:aI)(p:Int)(a:m<=12)(b:∀i,i<m->len i<=12)(h:¬TK m len)(c:∀i j,i<m->j<len i->qN (A i j)):PF 74 [jb m len A,.int .i64 p,.bool false] (.int .i64 6):=by
 refine iH func74 ntmps74 results74 ?_;simp -dsimp only[go_sem,aa];refine(qE m len A a b h c).call ?_;simp -dsimp only[go_sem,aa];exact VR.mf rfl

end Go.Proofs.YtdobfmlmenaajaaGreatDoor
