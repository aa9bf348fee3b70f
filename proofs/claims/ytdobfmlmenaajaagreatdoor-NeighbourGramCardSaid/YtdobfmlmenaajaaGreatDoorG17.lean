/-
  Lemmas for NeighbourGram.
-/
import Derived.Test.YtdobfmlmenaajaaGreatDoorG15
namespace Go.Proofs.YtdobfmlmenaajaaGreatDoor
open Go.RowKit Tryz
open _root_.Int renaming gcd→mn
open _root_.Option renaming none→ab
set_option maxHeartbeats 6400000
set_option maxRecDepth 4096
set_option linter.all false
attribute [local go_sem] Nat.reduceAdd Nat.reduceEqDiff Nat.reduceLeDiff Nat.reduceLT reduceCtorEq Int.ofNat_lt decide_true decide_false Int.zero_le_ofNat
attribute [local go_sem ↓] reduceIte
variable{x y z:AV}{K post post':AV->St->Prop}{s:Bool}{p:Bool->Prop}{a:Int}{args args' l:List AV}{xs:List Nat}{b c d es f j k m n ty:Nat}{g':Nat->AV}{r:Nat->Int}{g:Nat->Nat}{A B:Nat->Nat->Int}{M M':Nat->Prop}{S S' S0 S1:St}{v:Value}{w:World}{Q:aJ}{X:eE}
def eQ(S S':St):Prop:=∀k X,S k=some X->S' k=some X
def eQ.refl(S:St):eQ S S:=fun _ _ h=>h
def eQ.upd(h:eQ S S'){b:Nat}(c:S b=ab)(X:eE):eQ S (S'.upd b X):=fun k Y a=>by
 have d:k≠b:=by rintro rfl;rw[c]at a;cases a
 rw[aN d];exact h k Y a
def eQ.none(h:eQ S S'){b:Nat}(a:S' b=ab):S b=ab:=by
 cases e:S b with
 | none=>rfl
 | some X=>rw[h b X e]at a;cases a
def eQ.trans{S'':St}(h:eQ S S')(k:eQ S' S''):eQ S S'':=fun b X a=>k b X (h b X a)
def eQ.has(h:eQ S S'){b ty es n:Nat}{g:Nat->AV}(a:bJ S b ty es n g):bJ S' b ty es n g:=by
 obtain⟨g',c,d⟩:=a;exact⟨g',h b _ c,d⟩
def ca:AV->Nat
 | .int _ k=>k.toNat
 | _=>0
def dT(S:St)(b ty es:Nat)(z:AV):Prop:=∃g,S b=some ⟨ty,es,1,g⟩/\g 0=z
def dT.upd(h:dT S b ty es z)(a:b≠c)(X:eE):dT (S.upd c X) b ty es z:=by
 obtain⟨g,d,e⟩:=h;exact⟨g,by rw[aN a];exact d,e⟩
def dT.new{g:Nat->AV}(h:g 0=z):dT (S.upd b ⟨ty,es,1,g⟩) b ty es z:=⟨g,ci,h⟩
def dT.set{g:Nat->AV}:dT (S.upd b ⟨ty,es,1,bR g 0 z⟩) b ty es z:=⟨_,ci,by simp[bR]⟩
def dT.fresh(h:dT S b ty es z)(a:S c=ab):b≠c:=by
 rintro rfl;obtain⟨g,d,_⟩:=h;rw[d]at a;cases a
def ag(h:S.upd b X c=ab):c≠b/\S c=ab:=by
 simp only[St.upd]at h;by_cases e:c=b
 .rw[ai e]at h;cases h
 .rw[af e]at h;exact⟨e,h⟩
def CH{f:Nat->Int}(h:∀j,j<n->nb (f j) k)(d:n<=1024):∀m,m<=n->nb (az m f) (k+10):=by
 have key:∀m,m<=n->(az m f).natAbs<=m*(2^k-1):=by
  intro m
  induction m with
  | zero=>intro _;simp[az]
  | succ m ih =>
   intro a;have c:=ih om;have b:=h m om;unfold nb at b;simp only[az];rw[cQ];omega
 intro m a;have c:=key m a;have b:m*(2^k-1)<=1024*(2^k-1):=aC _ om;have e:0<2^k:=iq om;unfold nb;rw[fv];omega
def RD(n:Nat)(x y:Nat->Int)(k:Nat)(g:∀j,j<n->nb (x j) k)(h:∀j,j<n->nb (y j) k)(s:k<=1000000000)(t:n<=1000):PF 213 [a8 n x,a8 n y] (.big (az n fun j=>x j*y j)):=by
 refine iQ func213 ntmps213 results213 ?_;simp -dsimp only[go_sem,a8];refine aG.intro fun b u=>?_;simp -dsimp only[go_sem];refine aG.intro fun c l=>?_;have d:b≠c:=aj (ag l).1;simp only[go_sem];have m:=CH (f:=fun j=>x j*y j) (k:=k+k) (fun j e=>(g j e).mul (h j e)) (om:n<=1024)
 refine aH (fun O S=>∃j:Nat,j<=n/\O 0=a8 n x/\O 1=a8 n y/\O 4=.ptr 2 b 0/\O 5=.ptr 2 c 0/\O 9=.int .i64 n/\O 10=.int .i64 j/\dT S b 50 2 (.big 0)/\dT S c 50 2 (.big (az j fun j=>x j*y j))) (fun O S=>n-ca (O 10)) ?_ ?_
 .simp only[go_sem,a8];exact⟨0,om,rfl,((dT.new rfl).upd d _).upd d _,dT.set⟩
 .rintro O S ⟨j,e,v,w,z,A,B,o,p,q⟩;obtain⟨gb,i,eb⟩:=p;obtain⟨gc,r,ec⟩:=q;by_cases a:j<n
  .simp -dsimp only[*,go_sem,ca,a8];refine bF 11 kr ?_
   have C:IntKind.i64.wrap ((j:Int)+1)=((j+1:Nat):Int):=dM om om;simp only[*,go_sem,a8];exact⟨.big (x j*y j),(iX (g j a) (h j a) om).pure',.big ((az j fun j=>x j*y j)+x j*y j),(sS (m j e) (((g j a).mul (h j a)).mono om) om).pure',trivial,
    ⟨j+1,om,rfl,dT.upd ⟨gb,i,eb⟩ d _,dT.set⟩,om⟩
  .simp only[*,go_sem,ca,a8];obtain rfl:j=n:=om
   exact VR.mf rfl

def dlt{b:Int}(h:¬a<b):decide (a<b)=false:=by simpa using h
theorem CO{w:World}{M M':Nat->Prop}:∀(l:List AV) (vs:List Value),(∀x∈l,pq x=true)->aW w M l vs->aW w M' l vs
 | [],[],_,_=>by simp[aW]
 | x::l,v::vs,h,a=>by
  simp only[aW]at a ⊢;exact⟨sX (h x (ef ..)) a.1,CO l vs (fun y b=>h y (dJ _ b)) a.2⟩
 | [],_::_,_,a=>by simp[aW]at a
 | _::_,[],_,a=>by simp[aW]at a
def VR.tup(h:∀x∈l,pq x=true):VR S (.tup l) (.tup l):=by
 intro w v d a;simp only[bn]at a ⊢;obtain⟨vs,b,c⟩:=a;refine⟨vs,b,?_⟩;exact CO l vs h c
def oK(n m:Nat)(A:Nat->Nat->Int)(f:1<=n)(g:n<=16)(h:1<=m)(i:m<=16):PF 104 [aQ n m A] (.tup [.int .i64 n,.int .i64 m,.bool true]):=by
 refine iQ func104 ntmps104 results104 ?_;have k:decide ((n:Int)<1)=false:=dlt om;have l:decide ((16:Int)<n)=false:=dlt om;have o:decide ((m:Int)<1)=false:=dlt om;have p:decide ((16:Int)<m)=false:=dlt om;simp only[*,go_sem,aQ,a8];refine aH (fun O S=>∃j:Nat,j<=n/\O 0=aQ n m A/\O 15=aQ n m A/\O 16=.int .i64 n/\O 17=.int .i64 j) (fun O S=>n-ca (O 17)) ?_ ?_
 .simp only[go_sem,aQ,a8];exact⟨0,om,rfl⟩
 .rintro O S ⟨j,q,a,b,c,d⟩;by_cases e:j<n
  .have r:IntKind.i64.wrap ((j:Int)+1)=((j+1:Nat):Int):=dM om om;simp only[*,go_sem,aQ,a8,ca];exact⟨om,⟨j+1,om,rfl⟩,om⟩
  .simp -dsimp only[*,go_sem,aQ,a8];refine bF 9 kr ?_
   simp only[go_sem,a,aQ,a8]
   repeat refine an ?_
   exact VR.tup (by simp[pq])
def qQ(n:Nat)(A:Nat->Nat->Int)(a:1<=n)(b:n<=16):PF 115 [aQ n n A] (.tup [.int .i64 n,.bool true]):=by
 refine iQ func115 ntmps115 results115 ?_;simp -dsimp only[go_sem];refine(oK n n A a b a b).call ?_;simp only[go_sem];exact VR.tup (by simp[pq])

def iB(S0 S:St)(b:Nat)(g:Nat->Nat)(n m:Nat)(A:Nat->Nat->Int):Prop:=dA S b g n m A/\eQ S0 S/\S0 b=ab/\∀i,i<n->S0 (g i)=ab
def eV(A:Nat->Nat->Int)(i j:Nat)(z:Int):Nat->Nat->Int:=fun a c=>if a=i/\c=j then z else A a c
def dA.outer_ne(h:dA S b g n m A){i:Nat}(a:i<n):b≠g i:=bJ.ne h.outer (h.row i a) om
def dA.set(h:dA S b g n m A){i j:Nat}{z:Int}{g':Nat->AV}(k:i<n)(o:S (g i)=some ⟨50,2,m,g'⟩) :
  dA (S.upd (g i) ⟨50,2,m,bR g' j (.big z)⟩) b g n m (eV A i j z):=by
 refine⟨h.outer.upd (h.outer_ne k) _,fun a d=>?_,h.inj⟩;by_cases e:a=i
 .subst e;obtain⟨s,l,p⟩:=h.row a d;rw[o]at l;cases l;refine bJ.here fun c q=>?_;have:=p c q;simp only[bR,eV]
  grind
 .have f:g a≠g i:=fun r=>e (h.inj a i d k r);refine((h.row a d).upd f _).congr fun c _=>?_;simp[eV,e]
def iB.set(h:iB S0 S b g n m A){i j:Nat}{z:Int}{g':Nat->AV}(a:i<n)(c:S (g i)=some ⟨50,2,m,g'⟩) :
  iB S0 (S.upd (g i) ⟨50,2,m,bR g' j (.big z)⟩) b g n m (eV A i j z):=⟨h.1.set a c,h.2.1.upd (h.2.2.2 i a) _,h.2.2.1,h.2.2.2⟩
def dA.congr(h:dA S b g n m A)(c:∀i j,i<n->j<m->A i j=B i j):dA S b g n m B :=
 ⟨h.outer,fun i a=>(h.row i a).congr fun j d=>by rw[c i j a d],h.inj⟩
def iB.congr(h:iB S0 S b g n m A)(a:∀i j,i<n->j<m->A i j=B i j):iB S0 S b g n m B:=⟨h.1.congr a,h.2⟩
def VR.tup2{x' y':AV}(c:VR S x x')(d:VR S y y'):VR S (.tup [x,y]) (.tup [x',y']):=by
 intro w v a b;simp only[bn]at b ⊢;obtain⟨vs,e,h⟩:=b;refine⟨vs,e,?_⟩
 match vs,h with
 | [u,v],h=>simp only[aW]at h ⊢;exact⟨c w u a h.1,d w v a h.2.1,trivial⟩
 | [],h=>simp[aW]at h
 | [_],h=>simp[aW]at h
 | _::_::_::_,h=>simp[aW]at h
def zU(S0:St)(n m:Nat)(B:n<=1000)(C:m<=1000):cE 102 [.int .i64 n,.int .i64 m] S0 (fun r S'=>∃b g,r=.sl 1 b 0 n/\iB S0 S' b g n m (fun _ _=>0)):=by
 refine jr func102 ntmps102 results102 ?_;simp -dsimp only[go_sem];refine⟨om,aG.intro fun b o=>?_⟩
 refine aH (fun O S=>∃(k:Nat) (g:Nat->Nat),k<=n/\O 1=.int .i64 m/\O 5=.sl 1 b 0 n/\O 10=.int .i64 n/\O 11=.int .i64 k /\
  eQ S0 S/\bJ S b 59 1 n (fun i=>if i<k then .sl 2 (g i) 0 m else .nil)/\(∀i,i<k->iW S (g i) m (fun _=>0)/\S0 (g i)=ab)/\∀i j,i<k->j<k->g i=g j->i=j) (fun O S=>n-ca (O 11)) ?_ ?_
 .simp only[go_sem];exact⟨0,om,rfl,(eQ.refl S0).upd o _,fun _=>0,bJ.here fun i _=>by simp,fun i a=>om,fun i j a=>om⟩
 .rintro O S ⟨k,g,D,E,F,v,w,h,s,f,t⟩;by_cases x:k<n
  .have G:IntKind.i64.wrap ((k:Int)+1)=((k+1:Nat):Int):=dM om om;simp -dsimp only[*,go_sem];refine⟨om,aG.intro fun c d=>?_⟩
   obtain⟨g',u,p⟩:=s;have q:b≠c:=by rintro rfl;rw[u]at d;cases d
   simp only[*,go_sem,ca]
   repeat refine an ?_
   refine⟨⟨k+1,om,rfl,(h.upd (h.none d) _).upd o _,fun i=>if i=k then c else g i,bJ.here fun i a=>?_,fun i a=>?_,fun i j a H e=>?_⟩,om⟩
   .have:=p i a;grind [bR]
   .by_cases e:i=k
    .simp only[e,aO];exact⟨(bJ.here fun _ _=>rfl).upd (aj q) _,h.none d⟩
    .simp only[e,aP];obtain⟨l,y⟩:=f i om;exact⟨(l.upd (bJ.fresh l d) _).upd (fun e=>by rw[e]at l;exact bJ.ne (bJ.of u) l om rfl) _,y⟩
   .by_cases z:i=k<;>by_cases A:j=k<;>simp only[z,A,aO,aP]at e ⊢
    .exact absurd e.symm (bJ.fresh (f j om).1 d)
    .exact absurd e (bJ.fresh (f i om).1 d)
    .exact t i j om om e
  .simp only[*,go_sem];obtain rfl:k=n:=om
   exact⟨b,rfl,g,⟨s.congr fun i a=>by rw[ai a],fun i a=>(f i a).1,t⟩,h,o,fun i a=>(f i a).2⟩

def aT(h:k<1000000):IntKind.i64.wrap ((k:Int)+1)=((k+1:Nat):Int):=dM om om
def Dn(z:Int):Prop:=-9223372036854775808<=z/\z<=9223372036854775807
def pK(S0:St)(n m:Nat)(A:Nat->Nat->Int)(E:1<=n)(F:n<=16)(G:1<=m)(H:m<=16)(o:∀i j,i<n->j<m->Dn (A i j)) :
  cE 55 [aD n m A] S0 (fun r S'=>∃b g,r=.tup [.sl 1 b 0 n,.bool true]/\iB S0 S' b g n m A):=by
 refine jr func55 ntmps55 results55 ?_;have I:decide ((n:Int)<1)=false:=dlt om;have J:decide ((16:Int)<n)=false:=dlt om;have K:decide ((m:Int)<1)=false:=dlt om;have L:decide ((16:Int)<m)=false:=dlt om;simp only[*,go_sem,aD,aV];refine aH (fun O S=>∃k:Nat,k<=n/\O 0=aD n m A/\O 17=aD n m A/\O 18=.int .i64 n/\O 19=.int .i64 k/\S=S0) (fun O S=>n-ca (O 19)) ?_ ?_
 .simp only[go_sem,aD,aV];exact⟨0,om,rfl⟩
 .rintro O S ⟨k,p,f,q,s,t,rfl⟩;by_cases a:k<n
  .simp only[*,go_sem,aD,aV,aT (om:k<1000000),ca]
   exact⟨om,⟨k+1,om,rfl⟩,om⟩
  .simp -dsimp only[*,go_sem,aD,aV]
   repeat refine an ?_
   refine(zU S n m om om).mono ?_;rintro r S1 ⟨b,g,rfl,u⟩;simp only[go_sem,aD,aV,f];refine aH (fun O S'=>∃k:Nat,k<=n/\O 0=aD n m A/\O 6=.sl 1 b 0 n/\O 49=.int .i64 n/\O 50=.int .i64 k/\iB S S' b g n m (fun i j=>if i<k then A i j else 0)) (fun O S=>n-ca (O 50)) ?_ ?_
   .simp only[go_sem,aD,aV,f];exact⟨0,om,rfl,u.congr sm⟩
   .rintro O S1 ⟨k,p,f,v,h,l,d⟩;by_cases a:k<n
    .simp only[*,go_sem,aD,aV];refine aH (fun O S'=>∃j:Nat,j<=m/\O 0=aD n m A/\O 6=.sl 1 b 0 n/\O 7=.int .i64 k/\O 49=.int .i64 n/\O 50=.int .i64 k/\O 57=.int .i64 m/\O 58=.int .i64 j/\iB S S' b g n m (fun i c=>if i<k∨(i=k/\c<j)then A i c else 0)) (fun O S=>m-ca (O 58)) ?_ ?_
     .simp only[*,go_sem,aD,aV];exact⟨0,om,rfl,d.congr sm⟩
     .rintro O S2 ⟨j,w,f,v,M,h,l,x,y,d⟩;by_cases e:j<m
      .obtain⟨N,P,z⟩:=d.1.outer;obtain⟨Q,B,R⟩:=d.1.row k a;have C:=z k a;simp -dsimp only[*,go_sem,aD,aV];refine bF 13 kr ?_
       simp only[*,go_sem,aD,aV,aT (om:j<1000000)]
       repeat refine an ?_
       refine⟨_,(gG (o k j a e).1 (o k j a e).2).pure',om,trivial,⟨j+1,om,rfl,(d.set a B).congr fun i c _ _=>?_⟩,by simp only[ca,cj];omega⟩
       simp only[eV]
       grind
      .simp only[*,go_sem,aD,aV,ca,aT (om:k<1000000)]
       refine⟨⟨k+1,om,rfl,d.congr fun i c D T=>?_⟩,om⟩
       grind
    .simp only[*,go_sem,aD,aV];exact⟨b,rfl,g,d.congr fun i j D w=>by rw[ai om]⟩
def iB.vr(h:iB S0 S b g n m A):VR S (.sl 1 b 0 n) (aQ n m A):=h.1.vr
def M5(S0:St)(n m:Nat)(A:Nat->Nat->Int)(a:1<=n)(c:n<=16)(d:1<=m)(e:m<=16)(f:∀i j,i<n->j<m->Dn (A i j)) :
  cE 27 [aD n m A] S0 (fun r S'=>∃b g,r=.sl 1 b 0 n/\iB S0 S' b g n m A):=by
 refine jr func27 ntmps27 results27 ?_;simp -dsimp only[go_sem];refine(pK S0 n m A a c d e f).mono ?_;rintro r S1 ⟨b,g,rfl,h⟩;simp only[go_sem];exact⟨b,rfl,g,h⟩
def B2(n m:Nat)(A:Nat->Nat->Int)(a:1<=n)(c:n<=16)(d:1<=m)(f:m<=16)(k:∀i j,i<n->j<m->Dn (A i j)):PF 27 [aD n m A] (aQ n m A) :=
 PF.of_spec ((M5 _ n m A a c d f k).mono fun r S' ⟨b,g,e,h⟩=>e▸h.vr)

def zC:AV->Bool
 | .int _ _=>true
 | .bool _=>true
 | .big _=>true
 | .nil=>true
 | .sl _ _ _ _=>true
 | .ptr _ _ _=>true
 | _=>false
def clb:AV->Bool
 | .tup l=>l.all zC
 | x=>zC x
def zB(h:zC x=true)(a:bn w M x v):bn w M' x v:=by
 cases x<;>simp only[zC,bD]at h<;>simpa only[bn]using a
theorem Fb{w:World}{M M':Nat->Prop}:∀(l:List AV) (vs:List Value),l.all zC=true->aW w M l vs->aW w M' l vs
 | [],[],_,_=>by simp[aW]
 | x::l,v::vs,h,a=>by
  simp only[aW,List.all_cons,au]at h a ⊢;exact⟨zB h.1 a.1,Fb l vs h.2 a.2⟩
 | [],_::_,_,a=>by simp[aW]at a
 | _::_,[],_,a=>by simp[aW]at a
def Pk(h:clb x=true)(a:bn w M x v):bn w M' x v:=by
 cases x<;>first
  | (simp only[clb]at h;exact zB h a)
  | (simp only[clb]at h;simp only[bn]at a ⊢;obtain⟨vs,e,b⟩:=a;exact⟨vs,e,Fb _ _ h b⟩)
def St.join(S S1:St):St:=fun b=>match S b with
 | some X=>some X
 | ab=>S1 b
def KI(S:St):Prop:=∀b X,S b=some X->∀j,j<X.n->zC (X.g j)=true
def cE.frame(h:cE f args' St.none post)(D:fD S args args')(E:∀r S1,post r S1->clb r=true/\KI S1) :
  cE f args S (fun r S'=>∃S1,post r S1/\(∀b X,S b=some X->S1 b=ab)/\S'=S.join S1):=by
 intro w vs d F;refine(h w vs ⟨rfl,d.gl,fun b x G=>by simp[St.none]at G⟩ (aW.turn (fun _ _ i=>absurd rfl i) _ _ (xQ d _ _ _ D F))).mono ?_
 rintro e w' ⟨v,r,S1,rfl,A,H,B,c⟩;obtain⟨I,J⟩:=E r S1 A;have m:∀b X,S b=some X->b<w.heap.size:=fun b X a=>by obtain⟨cs,g,_⟩:=d b X a;exact fP g
 have C:∀b,b<w.heap.size->S1 b=ab:=fun b K=>by
  cases e:S1 b with
  | none=>rfl
  | some Y=>exact absurd (c.own b K (by simp[St.dom,e])) (by simp[St.dom,St.none])
 have n:dl S.dom (S.join S1).dom w w':=⟨c.os,c.tape,c.output,c.size,fun k i _=>c.keep k i (by simp[St.dom,St.none]),c.shape,fun k i o=>by
  simp only[St.dom,St.join]at o ⊢
  cases e:S k with
  | none=>rw[e]at o;exact absurd (C k i) o
  | some X=>simp⟩
 refine⟨v,r,S.join S1,rfl,⟨S1,A,fun b X a=>C b (m b X a),rfl⟩,Pk I H,⟨?_,d.grow n,fun b X a=>?_⟩,n⟩
 .simp only[St.join,d.z];exact B.z
 simp only[St.join]at a
 cases e:S b with
 | some Y =>
  rw[e]at a;cases a;obtain⟨cs,g,p,q,s⟩:=d b X e;refine⟨cs,by rw[c.keep b (fP g) (by simp[St.dom,St.none])];exact g,p,fun j l=>?_,s⟩
  obtain⟨u,t,y⟩:=q j l;exact⟨u,t,bn.grow d.noU n _ _ y⟩
 | none =>
  rw[e]at a;obtain⟨cs,g,p,q,s⟩:=B b X a;refine⟨cs,g,p,fun j l=>?_,s⟩;obtain⟨u,t,y⟩:=q j l;exact⟨u,t,zB (J b X a j l) y⟩
def qy(S S1:St):eQ S (S.join S1):=fun k X h=>by simp[St.join,h]
def zd(a:∀b X,S b=some X->S1 b=ab){b:Nat}{X:eE}(h:S1 b=some X):S.join S1 b=some X/\S b=ab:=by
 cases e:S b with
 | some Y=>rw[a b Y e]at h;cases h
 | none=>exact⟨by simp[St.join,e,h],rfl⟩
def bJ.join(a:∀b X,S b=some X->S1 b=ab){b ty es n:Nat}{g:Nat->AV}(h:bJ S1 b ty es n g):bJ (S.join S1) b ty es n g/\S b=ab:=by
 obtain⟨g',c,d⟩:=h;exact⟨⟨g',(zd a c).1,d⟩,(zd a c).2⟩
def dA.join(a:∀b X,S b=some X->S1 b=ab){b:Nat}{g:Nat->Nat}{n m:Nat}{A:Nat->Nat->Int}(h:dA S1 b g n m A):iB S (S.join S1) b g n m A :=
 ⟨⟨(h.outer.join a).1,fun i c=>((h.row i c).join a).1,h.inj⟩,qy S S1,(h.outer.join a).2,fun i c=>((h.row i c).join a).2⟩
def cE.less(h:cE f args S post)(c:∀r S',post r S'->∃S'',(∀b X,S'' b=some X->S' b=some X)/\post' r S''):cE f args S post':=by
 intro w vs d g;refine(h w vs d g).mono ?_;rintro e w' ⟨v,r,S1,rfl,i,j,l,m⟩;obtain⟨S2,n,o⟩:=c r S1 i;obtain⟨p,a⟩:=l.less n;exact⟨v,r,S2,rfl,o,bn.turn (fun k _ q=>a k q) _ _ j,p,m.weaken a⟩
def gL(S:St)(b:Nat)(g:Nat->Nat)(n:Nat):St:=fun k=>if k=b then S k else if ∃i,i<n/\k=g i then S k else ab
def jm(S:St)(b:Nat)(g:Nat->Nat)(n:Nat):∀c X,gL S b g n c=some X->S c=some X:=by
 intro c X h;unfold gL at h;split at h
 .exact h
 .split at h
  .exact h
  .cases h
def dA.only(h:dA S b g n m A):dA (gL S b g n) b g n m A/\KI (gL S b g n):=by
 refine⟨⟨?_,fun i k=>?_,h.inj⟩,fun c X f j l=>?_⟩
 .obtain⟨g',a,d⟩:=h.outer;exact⟨g',by simp[gL,a],d⟩
 .obtain⟨g',a,d⟩:=h.row i k;refine⟨g',?_,d⟩;unfold gL;split
  .exact a
  .rw[ai ⟨i,k,rfl⟩];exact a
 .unfold gL at f;split at f
  .rename_i e;subst e;obtain⟨g',a,d⟩:=h.outer;rw[f]at a;cases a;show zC (g' j)=true;rw[d j l];rfl
  .split at f
   .rename_i e;obtain⟨i,k,rfl⟩:=e;obtain⟨g',a,d⟩:=h.row i k;rw[f]at a;cases a;show zC (g' j)=true;rw[d j l];rfl
   .cases f
def MF(f:Nat)(args:List AV)(n m:Nat)(A:Nat->Nat->Int):Prop:=∀S args',fD S args' args->cE f args' S (fun r S'=>∃b g,r=.sl 1 b 0 n/\iB S S' b g n m A)
def DI(f:Nat)(args:List AV)(n m:Nat)(A:Nat->Nat->Int):Prop:=∀S args',fD S args' args->cE f args' S (fun r S'=>∃b g,r=.tup [.sl 1 b 0 n,.bool true]/\iB S S' b g n m A)
def MF.of(h:cE f args St.none (fun r S'=>∃b g,r=.sl 1 b 0 n/\dA S' b g n m A)):MF f args n m A:=fun S args' c=>by
 have d:cE f args St.none (fun r S'=>∃b g,r=.sl 1 b 0 n/\dA S' b g n m A/\KI S'):=h.less fun r S' ⟨b,g,e,a⟩=>⟨gL S' b g n,jm S' b g n,b,g,e,a.only.1,a.only.2⟩;refine(d.frame c ?_).mono ?_
 .rintro r S1 ⟨b,g,rfl,_,i⟩;exact⟨rfl,i⟩
 .rintro r S' ⟨S1,⟨b,g,rfl,a,_⟩,j,rfl⟩;exact⟨b,g,rfl,a.join j⟩
def DI.of(h:cE f args St.none (fun r S'=>∃b g,r=.tup [.sl 1 b 0 n,.bool true]/\dA S' b g n m A)):DI f args n m A:=fun S args' c=>by
 have d:cE f args St.none (fun r S'=>∃b g,r=.tup [.sl 1 b 0 n,.bool true]/\dA S' b g n m A/\KI S'):=h.less fun r S' ⟨b,g,e,a⟩=>⟨gL S' b g n,jm S' b g n,b,g,e,a.only.1,a.only.2⟩;refine(d.frame c ?_).mono ?_
 .rintro r S1 ⟨b,g,rfl,_,i⟩;exact⟨rfl,i⟩
 .rintro r S' ⟨S1,⟨b,g,rfl,a,_⟩,j,rfl⟩;exact⟨b,g,rfl,a.join j⟩
def MF.pf(h:MF f args n m A):PF f args (aQ n m A) :=
 PF.of_spec ((h St.none args (cI _ _)).mono fun _ _ ⟨_,_,e,h⟩=>e▸h.vr)
def DI.pf(h:DI f args n m A):PF f args (.tup [aQ n m A,.bool true]) :=
 PF.of_spec ((h St.none args (cI _ _)).mono fun _ _ ⟨_,_,e,h⟩=>e▸VR.tup2 h.vr (VR.mf rfl))
def MF.congr(h:MF f args n m A)(a:∀i j,i<n->j<m->A i j=B i j):MF f args n m B:=fun S args' c=>(h S args' c).mono fun _ _ ⟨b,g,e,d⟩=>⟨b,g,e,d.congr a⟩
def Dm(n m:Nat)(a:n<=1000)(c:m<=1000):MF 102 [.int .i64 n,.int .i64 m] n m (fun _ _=>0):=MF.of ((zU _ n m a c).mono fun _ _ ⟨b,g,e,h⟩=>⟨b,g,e,h.1⟩)
def Of_mf(n m:Nat)(A:Nat->Nat->Int)(a:1<=n)(c:n<=16)(d:1<=m)(f:m<=16)(k:∀i j,i<n->j<m->Dn (A i j)):MF 27 [aD n m A] n m A:=MF.of ((M5 _ n m A a c d f k).mono fun _ _ ⟨b,g,e,h⟩=>⟨b,g,e,h.1⟩)
def fD.mat(h:dA S b g n m A){l r:List AV}(a:fD S l r):fD S (.sl 1 b 0 n::l) (aQ n m A::r):=⟨h.vr.va,a⟩
def fD.same{r:List AV}(a:fD S l r):fD S (x::l) (x::r):=⟨VA.refl S x,a⟩
def fD.nil:fD S [] []:=trivial

def iE(S0 S:St)(b:Nat)(g:Nat->Nat)(n m:Nat)(A:Nat->Nat->Int):Prop:=eh S b g n m A/\eQ S0 S/\S0 b=ab/\∀i,i<n->S0 (g i)=ab
def eh.outer_ne(h:eh S b g n m A){i:Nat}(a:i<n):b≠g i:=bJ.ne h.outer (h.row i a) om
def eh.set(h:eh S b g n m A){i j:Nat}{z:Int}{g':Nat->AV}(k:i<n)(o:S (g i)=some ⟨2,1,m,g'⟩) :
  eh (S.upd (g i) ⟨2,1,m,bR g' j (.int .i64 z)⟩) b g n m (eV A i j z):=by
 refine⟨h.outer.upd (h.outer_ne k) _,fun a d=>?_,h.inj⟩;by_cases e:a=i
 .subst e;obtain⟨s,l,p⟩:=h.row a d;rw[o]at l;cases l;refine bJ.here fun c q=>?_;have:=p c q;simp only[bR,eV]
  grind
 .have f:g a≠g i:=fun r=>e (h.inj a i d k r);refine((h.row a d).upd f _).congr fun c _=>?_;simp[eV,e]
def eh.congr(h:eh S b g n m A)(c:∀i j,i<n->j<m->A i j=B i j):eh S b g n m B :=
 ⟨h.outer,fun i a=>(h.row i a).congr fun j d=>by rw[c i j a d],h.inj⟩
def iE.congr(h:iE S0 S b g n m A)(a:∀i j,i<n->j<m->A i j=B i j):iE S0 S b g n m B:=⟨h.1.congr a,h.2⟩
def eh.join(a:∀b X,S b=some X->S1 b=ab){b:Nat}{g:Nat->Nat}{n m:Nat}{A:Nat->Nat->Int}(h:eh S1 b g n m A):iE S (S.join S1) b g n m A :=
 ⟨⟨(h.outer.join a).1,fun i c=>((h.row i c).join a).1,h.inj⟩,qy S S1,(h.outer.join a).2,fun i c=>((h.row i c).join a).2⟩
def eh.only(h:eh S b g n m A):eh (gL S b g n) b g n m A/\KI (gL S b g n):=by
 refine⟨⟨?_,fun i k=>?_,h.inj⟩,fun c X f j l=>?_⟩
 .obtain⟨g',a,d⟩:=h.outer;exact⟨g',by simp[gL,a],d⟩
 .obtain⟨g',a,d⟩:=h.row i k;refine⟨g',?_,d⟩;unfold gL;split
  .exact a
  .rw[ai ⟨i,k,rfl⟩];exact a
 .unfold gL at f;split at f
  .rename_i e;subst e;obtain⟨g',a,d⟩:=h.outer;rw[f]at a;cases a;show zC (g' j)=true;rw[d j l];rfl
  .split at f
   .rename_i e;obtain⟨i,k,rfl⟩:=e;obtain⟨g',a,d⟩:=h.row i k;rw[f]at a;cases a;show zC (g' j)=true;rw[d j l];rfl
   .cases f
def QQ(f:Nat)(args:List AV)(n m:Nat)(A:Nat->Nat->Int):Prop:=∀S args',fD S args' args->cE f args' S (fun r S'=>∃b g,r=.sl 1 b 0 n/\iE S S' b g n m A)
def KD(f:Nat)(args:List AV)(n m:Nat)(A:Nat->Nat->Int):Prop:=∀S args',fD S args' args->cE f args' S (fun r S'=>∃b g,r=.tup [.sl 1 b 0 n,.bool true]/\iE S S' b g n m A)
def QQ.of(h:cE f args St.none (fun r S'=>∃b g,r=.sl 1 b 0 n/\eh S' b g n m A)):QQ f args n m A:=fun S args' c=>by
 have d:cE f args St.none (fun r S'=>∃b g,r=.sl 1 b 0 n/\eh S' b g n m A/\KI S'):=h.less fun r S' ⟨b,g,e,a⟩=>⟨gL S' b g n,jm S' b g n,b,g,e,a.only.1,a.only.2⟩;refine(d.frame c ?_).mono ?_
 .rintro r S1 ⟨b,g,rfl,_,i⟩;exact⟨rfl,i⟩
 .rintro r S' ⟨S1,⟨b,g,rfl,a,_⟩,j,rfl⟩;exact⟨b,g,rfl,a.join j⟩
def KD.of(h:cE f args St.none (fun r S'=>∃b g,r=.tup [.sl 1 b 0 n,.bool true]/\eh S' b g n m A)):KD f args n m A:=fun S args' c=>by
 have d:cE f args St.none (fun r S'=>∃b g,r=.tup [.sl 1 b 0 n,.bool true]/\eh S' b g n m A/\KI S'):=h.less fun r S' ⟨b,g,e,a⟩=>⟨gL S' b g n,jm S' b g n,b,g,e,a.only.1,a.only.2⟩;refine(d.frame c ?_).mono ?_
 .rintro r S1 ⟨b,g,rfl,_,i⟩;exact⟨rfl,i⟩
 .rintro r S' ⟨S1,⟨b,g,rfl,a,_⟩,j,rfl⟩;exact⟨b,g,rfl,a.join j⟩
def fD.imat(h:eh S b g n m A){l r:List AV}(a:fD S l r):fD S (.sl 1 b 0 n::l) (aD n m A::r):=⟨h.vr.va,a⟩

def kd(i j:Nat):Int:=if i=j then 1 else 0
def qL(n:Nat)(p:1<=n)(q:n<=16):DI 111 [.int .i64 n] n n kd:=by
 refine DI.of ?_;refine jr func111 ntmps111 results111 ?_;have s:¬((n:Int)<1):=om
 have t:¬((16:Int)<n):=om
 simp -dsimp only[*,go_sem];refine(Dm n n om om _ _ (cI _ _)).mono ?_;rintro r S1 ⟨b,g,rfl,e⟩;simp only[go_sem];refine aH (fun O S'=>∃k:Nat,k<=n/\O 4=.sl 1 b 0 n/\O 16=.int .i64 n/\O 17=.int .i64 k/\dA S' b g n n (fun i j=>if i<k then kd i j else 0)) (fun O S=>n-ca (O 17)) ?_ ?_
 .simp only[go_sem];exact⟨0,om,rfl,e.1.congr sm⟩
 .rintro O S ⟨k,u,v,f,h,d⟩;by_cases a:k<n
  .obtain⟨w,x,l⟩:=d.outer;obtain⟨y,m,z⟩:=d.row k a;have o:=l k a;simp -dsimp only[*,go_sem];refine bF 6 kr ?_
   simp only[*,go_sem,aT (om:k<1000000),ca]
   repeat refine an ?_
   refine⟨_,(gG dc dc).pure',om,trivial,⟨k+1,om,rfl,(d.set a m).congr fun i c _ _=>?_⟩,om⟩
   simp only[eV,kd]
   grind
  .simp only[*,go_sem];exact⟨b,rfl,g,d.congr fun i j A B=>by rw[ai om]⟩
def pE(n m:Nat)(A:Nat->Nat->Int)(k:Nat)(l:1<=n)(o:n<=16)(p:1<=m)(q:m<=16)(s:∀i j,i<n->j<m->nb (A i j) k)(t:k<=8589934592):DI 100 [aQ n m A] m n (fun i j=>A j i):=by
 refine DI.of ?_;refine jr func100 ntmps100 results100 ?_;simp -dsimp only[go_sem];refine(oK n m A l o p q).call ?_;simp -dsimp only[go_sem];refine(Dm m n om om _ _ (cI _ _)).mono ?_;rintro r S1 ⟨b,g,rfl,u⟩;simp only[go_sem,aQ,a8];refine aH (fun O S'=>∃k:Nat,k<=n/\O 0=aQ n m A/\O 7=.sl 1 b 0 m/\O 22=.int .i64 n/\O 23=.int .i64 k/\dA S' b g m n (fun i j=>if j<k then A j i else 0)) (fun O S=>n-ca (O 23)) ?_ ?_
 .simp only[go_sem,aQ,a8];exact⟨0,om,rfl,u.1.congr sm⟩
 .rintro O S ⟨k,t,v,w,e,f,d⟩;by_cases h:k<n
  .simp only[*,go_sem,aQ,a8];refine aH (fun O S'=>∃j:Nat,j<=m/\O 0=aQ n m A/\O 7=.sl 1 b 0 m/\O 8=.int .i64 k/\O 22=.int .i64 n/\O 23=.int .i64 k/\O 30=.int .i64 m/\O 31=.int .i64 j/\dA S' b g m n (fun i c=>if c<k∨(c=k/\i<j)then A c i else 0)) (fun O S=>m-ca (O 31)) ?_ ?_
   .simp only[*,go_sem,aQ,a8];exact⟨0,om,rfl,d.congr sm⟩
   .rintro O S ⟨j,x,v,w,F,e,f,y,z,d⟩;by_cases a:j<m
    .obtain⟨G,H,B⟩:=d.outer;obtain⟨I,C,J⟩:=d.row j a;have D:=B j a;simp -dsimp only[*,go_sem,aQ,a8];refine bF 13 kr ?_
     simp only[*,go_sem,aQ,a8,aT (om:j<1000000),ca]
     repeat refine an ?_
     refine⟨_,(Em (s k j h a) om).pure',om,trivial,⟨j+1,om,rfl,(d.set a C).congr fun i c _ _=>?_⟩,om⟩
     simp only[eV]
     grind
    .simp only[*,go_sem,aQ,a8,aT (om:k<1000000),ca]
     refine⟨⟨k+1,om,rfl,d.congr fun i c E K=>?_⟩,om⟩
     grind
  .simp only[*,go_sem,aQ,a8];exact⟨b,rfl,g,d.congr fun i j E x=>by rw[ai om]⟩

def EK(a:Nat):kd a=gD a:=by
 funext b;simp only[kd,gD];split<;>split<;>first|rfl|omega
def uV{a:Nat}(d:a<n)(e:b<n):gT Q n kd a b=Q a b:=by
 unfold gT;rw[EK,EK,Ff d,da b e (fun i _ c=>by simp[gD,c])]
 simp[gD]
theorem IP:∀n,det n (t9 kd)=1
 | 0=>rfl
 | n+1=>by
  rw[qX _ (fun i _=>by simp[t9,kd])]
  have e:(fun i j=>t9 kd (i+1) (j+1))=t9 kd:=by
   funext i j;simp only[t9,kd];split<;>split<;>first|rfl|omega
  rw[e,IP n];simp[t9,kd]
def pw(c:k<=n):det k (gT Q n kd)=det k Q:=ck fun a b d e=>uV om om
def R5.init{e:Nat}(f:Pd Q n)(m:1<=n)(o:∀i,i<n->Q i i<=2^e)(p:e*n<=d):R5 Q n d 1 kd:=by
 have q:Pd (gT Q n kd) n:=⟨fun a b g h=>by rw[uV g h,uV h g];exact f.sym a b g h,fun k c=>by rw[pw c];exact f.pos k c⟩
 have s:e<=d:=bU (sC e m) p;refine⟨ae _,m,⟨q,fun k c=>?_,by rw[IP];rfl,fun i l=>?_⟩,⟨fun r t j w=>om,fun r x t=>om⟩,pw (ae n)⟩
 .rw[pw c];have u:=f.det_le o k c;have v:((2:Int)^e)^k<=2^d:=by
   rw[<-Int.pow_mul];exact iD (bU (aL e c) p)
  exact fZ u v
 .rw[uV l l];exact fZ (o i l) (iD om)

def dA.ext(h:dA S b g n m A)(a:eQ S S'):dA S' b g n m A:=⟨a.has h.outer,fun i c=>a.has (h.row i c),h.inj⟩
def eh.ext(h:eh S b g n m A)(a:eQ S S'):eh S' b g n m A:=⟨a.has h.outer,fun i c=>a.has (h.row i c),h.inj⟩
def fD.ints(h:iW S b n r){l l':List AV}(a:fD S l l'):fD S (.sl 2 b 0 n::l) (a8 n r::l'):=⟨h.vr.va,a⟩
def fD.i64s(h:tT S b n r){l l':List AV}(a:fD S l l'):fD S (.sl 1 b 0 n::l) (aV n r::l'):=⟨h.vr.va,a⟩
def li(m:Nat)(A B:Nat->Nat->Int)(i j:Nat):Int:=az m fun k=>A i k*B k j
def R6(n m q:Nat)(A B:Nat->Nat->Int)(k:Nat)(w:1<=n)(x:n<=16)(t:1<=m)(u:m<=16)(y:1<=q)(z:q<=16)(C:∀i j,i<n->j<m->nb (A i j) k)(v:∀i j,i<m->j<q->nb (B i j) k)
  (T:k<=1000000000):DI 164 [aQ n m A,aQ m q B] n q (li m A B):=by
 refine DI.of ?_;refine jr func164 ntmps164 results164 ?_;simp -dsimp only[go_sem];refine(oK n m A w x t u).call ?_;simp -dsimp only[go_sem];refine(pE m q B k t u y z v om _ _ (cI _ _)).mono ?_;rintro r S1 ⟨bt,gt,rfl,D⟩;simp -dsimp only[go_sem,aQ,a8,iG];refine(Dm n q om om _ _ (cI _ _)).mono ?_;rintro r S2 ⟨b,g,rfl,E⟩;simp only[go_sem];refine aH (fun O S'=>∃k:Nat,k<=n/\O 0=aQ n m A/\O 9=.sl 1 bt 0 q/\O 11=.sl 1 b 0 n/\O 43=.int .i64 n/\O 44=.int .i64 k/\iB S1 S' b g n q (fun i j=>if i<k then li m A B i j else 0)) (fun O S=>n-ca (O 44)) ?_ ?_
 .simp only[go_sem,aQ,a8];exact⟨0,om,rfl,E.congr sm⟩
 .rintro O S ⟨i,F,G,H,o,p,s,e⟩;by_cases d:i<n
  .simp only[*,go_sem,aQ,a8];refine aH (fun O S'=>∃j:Nat,j<=q/\O 0=aQ n m A/\O 9=.sl 1 bt 0 q/\O 11=.sl 1 b 0 n/\O 12=.int .i64 i/\O 43=.int .i64 n/\O 44=.int .i64 i/\O 48=.int .i64 q/\O 49=.int .i64 j/\iB S1 S' b g n q (fun a c=>if a<i∨(a=i/\c<j)then li m A B a c else 0)) (fun O S=>q-ca (O 49)) ?_ ?_
   .simp only[*,go_sem,aQ,a8];exact⟨0,om,rfl,e.congr sm⟩
   .rintro O S ⟨j,I,G,H,o,J,p,s,K,L,e⟩;by_cases f:j<q
    .obtain⟨U,V,M⟩:=e.1.outer;obtain⟨W,N,X⟩:=e.1.row i d;have P:=M i d;have h:=D.1.ext e.2.1;obtain⟨Y,Z,Q⟩:=h.outer;have R:=Q j f;simp -dsimp only[*,go_sem,aQ,a8];refine bF 14 kr ?_
     simp only[*,go_sem,aQ,a8,aT (om:j<1000000),ca]
     repeat refine an ?_
     refine⟨_,(RD m (A i) (fun c=>B c j) k (fun c l=>C i c d l) (fun c l=>v c j l f) om om).pureS (fD.same (fD.ints (h.row j f) fD.nil)),om,trivial,⟨j+1,om,rfl,(e.set d N).congr fun a c _ _=>?_⟩,om⟩
     simp only[eV,li]
     grind
    .simp only[*,go_sem,aQ,a8,aT (om:i<1000000),ca]
     refine⟨⟨i+1,om,rfl,e.congr fun a c ha l=>?_⟩,om⟩
     grind
  .simp only[*,go_sem,aQ,a8];exact⟨b,rfl,g,e.1.congr fun i j F I=>by rw[ai om]⟩
def lT(n m q:Nat)(A B:Nat->Nat->Int)(k:Nat)(a:1<=n)(c:n<=16)(d:1<=m)(e:m<=16)(f:1<=q)(h:q<=16)(l:∀i j,i<n->j<m->nb (A i j) k)(o:∀i j,i<m->j<q->nb (B i j) k)
  (p:k<=1000000000):MF 101 [aQ n m A,aQ m q B] n q (li m A B):=by
 refine MF.of ?_;refine jr func101 ntmps101 results101 ?_;simp -dsimp only[go_sem];refine(R6 n m q A B k a c d e f h l o p _ _ (cI _ _)).mono ?_;rintro r S1 ⟨b,g,rfl,s⟩;simp only[go_sem];exact⟨b,rfl,g,s.1⟩
def vu(n m:Nat)(A:Nat->Nat->Int)(I:1<=n)(J:n<=16)(K:1<=m)(L:m<=16)(M:∀i j,i<n->j<m->jS (A i j)):KD 46 [aQ n m A] n m A:=by
 refine KD.of ?_;refine jr func46 ntmps46 results46 ?_;simp -dsimp only[go_sem];refine(oK n m A I J K L).call ?_;simp -dsimp only[go_sem]
 repeat refine an ?_
 refine aG.intro fun b W=>?_;simp only[go_sem];refine aH (fun O S=>∃(k:Nat) (g:Nat->Nat),k<=n/\O 0=aQ n m A/\O 5=.int .i64 m/\O 7=.sl 1 b 0 n/\O 23=.int .i64 n/\O 24=.int .i64 k /\
  bJ S b 29 1 n (fun i=>if i<k then .sl 1 (g i) 0 m else .nil)/\(∀i,i<k->tT S (g i) m (A i))/\∀i j,i<k->j<k->g i=g j->i=j) (fun O S=>n-ca (O 24)) ?_ ?_
 .simp only[go_sem,aQ,a8];exact⟨0,om,rfl,fun _=>0,bJ.here fun i _=>by simp,fun i a=>om,fun i j a=>om⟩
 .rintro O S ⟨k,g,X,y,z,B,l,o,p,d,C⟩;by_cases f:k<n
  .simp -dsimp only[*,go_sem]
   repeat refine an ?_
   refine aG.intro fun c u=>?_;obtain⟨g',D,v⟩:=p;have q:b≠c:=by rintro rfl;rw[D]at u;cases u
   have h:∀i,i<k->g i≠c:=fun i a=>bJ.fresh (d i a) u;simp only[*,go_sem,bR]
   repeat refine an ?_
   refine aH (fun O S'=>∃j:Nat,j<=m/\O 0=aQ n m A/\O 5=.int .i64 m/\O 7=.sl 1 b 0 n/\O 8=.int .i64 k/\O 23=.int .i64 n/\O 24=.int .i64 k/\O 36=.int .i64 m/\O 37=.int .i64 j /\
    bJ S' b 29 1 n (fun i=>if i<k then .sl 1 (g i) 0 m else if i=k then .sl 1 c 0 m else .nil)/\(∀i,i<k->tT S' (g i) m (A i))/\tT S' c m (fun t=>if t<j then A k t else 0)) (fun O S=>m-ca (O 37)) ?_ ?_
   .simp only[*,go_sem];refine⟨0,om,rfl,bJ.here fun i a=>?_,fun i a=>((d i a).upd (bJ.fresh (d i a) u) _).upd (aj (bJ.ne (bJ.of D) (d i a) om)) _,(bJ.here fun _ _=>by simp).upd (aj q) _⟩
    have:=v i a
    grind [bR]
   .rintro O S' ⟨j,N,y,z,B,P,l,o,w,x,p,d,E⟩;by_cases r:j<m
    .obtain⟨Q,F,G⟩:=p;obtain⟨Y,R,T⟩:=E;have s:=G k f;simp only[cN,aP,aO]at s;simp -dsimp only[*,go_sem,aQ,a8];refine(Br (M k j f r)).call ?_;simp only[go_sem,y,z,B,P,l,o,w,x,r,f,aQ,a8,F,s,R,aT (om:j<1000000),ca]
     repeat refine an ?_
     refine⟨⟨j+1,om,rfl,bJ.upd ⟨Q,F,G⟩ q _,fun i a=>(d i a).upd (h i a) _,bJ.here fun t H=>?_⟩,om⟩
     have:=T t H;simp only[bR]
     grind
    .simp only[*,go_sem,aT (om:k<1000000),ca]
     refine⟨⟨k+1,om,rfl,fun i=>if i=k then c else g i,p.congr fun i a=>?_,fun i a=>?_,fun i j a N e=>?_⟩,om⟩
     .grind
     .by_cases e:i=k
      .subst e;simp only[aO];refine E.congr fun t H=>?_;have:t<j:=om
       simp[this]
      .simp only[e,aP];exact d i om
     .by_cases U:i=k<;>by_cases V:j=k<;>simp only[U,V,aO,aP]at e ⊢
      .exact absurd e.symm (h j om)
      .exact absurd e (h i om)
      .exact C i j om om e
  .simp only[*,go_sem];obtain rfl:k=n:=om
   exact⟨b,rfl,g,p.congr fun i a=>by rw[ai a],d,C⟩

def xE(h:er w w.heap.size (.agg #[.bool false,v]) (n:Int)):∃A k c xs,v=.slice A k c/\k<=c/\cp w w.heap.size A k xs/\oo xs/\aZ xs=n/\k=nl n:=by
 obtain⟨neg,A,k,c,xs,e,a,b,d,g⟩:=h
 cases e
 have f:aZ xs=n:=by simp[sg]at g;omega
 exact⟨A,k,c,xs,rfl,a,b,d,f,by rw[aI b d,f]⟩
def CB{A:Option Addr}(a:k<=c)(b:cp w w.heap.size A k xs)(d:oo xs)(e:aZ xs=n):er w w.heap.size (.agg #[.bool false,.slice A k c]) (n:Int) :=
 ⟨false,A,k,c,xs,rfl,a,b,d,by rw[e];simp[sg]⟩
def H8(h:nl n<=2147483648):PF 71 [.mag n] (.mag n):=by
 intro w vs _ a
 match vs,a with
 | [va],a =>
  simp only[aW,bn]at a;obtain⟨A,k,c,xs,rfl,b,d,o,f,p⟩:=xE a.1;refine(fW A k c w.heap.size xs w b om (ae _) d).mono ?_;rintro e w' ⟨A1,q,r,zs,rfl,g,i,j,l,m⟩;exact⟨_,rfl,by simp only[bn];exact CB g i j (l.trans f),dl.below m⟩
 | [],a=>simp[aW]at a
 | _::_::_,a=>simp[aW]at a
def JV{a:Nat}(F:nl a<=16777216)(G:nl b<=16777216)(H:0<b):PF 189 [.mag a,.mag b] (.tup [.mag (a/b),.mag (a%b)]):=by
 intro w vs _ f
 match vs,f with
 | [va,vb],f =>
  simp only[aW,bn]at f;obtain⟨A,k,c,xs,rfl,l,n,I,j,J⟩:=xE f.1;obtain⟨B,m,d,ys,rfl,o,h,i,g,K⟩:=xE f.2.1;refine(GO A B k m c d w.heap.size xs ys w om om (ae _) n h i om).mono ?_;rintro e w' ⟨A1,p,q,zs,D1,r,s,us,rfl,t,u,v,x,y,z,C,D,E⟩;exact⟨_,rfl,by simp only[bn];exact⟨[.slice A1 p q,.slice D1 r s],rfl,by simp only[aW,bn];exact⟨CB t v y (by rw[C,j,g]),CB u x z (by rw[D,j,g]),trivial⟩⟩,dl.below E⟩
 | [],f=>simp[aW]at f
 | [_],f=>simp[aW]at f
 | _::_::_::_,f=>simp[aW]at f
def CP{z:Int}(h:nl n<=2147483648)(f:∀s,p s->sg s n=z):PF 103 [.bset p,.mag n] (.big z):=by
 intro w vs _ a
 match vs,a with
 | [va,vb],a =>
  simp only[aW,bn]at a;obtain⟨⟨s,rfl,g⟩,a,_⟩:=a;obtain⟨A,k,c,xs,rfl,b,i,m,j,o⟩:=xE a;refine(lr s A k c w.heap.size xs w b om (ae _) i).mono ?_;rintro e w' ⟨v,rfl,d,l⟩;exact⟨v,rfl,by rw[j,f s g]at d;simpa [bn]using d,dl.below l⟩
 | [],a=>simp[aW]at a
 | [_],a=>simp[aW]at a
 | _::_::_::_,a=>simp[aW]at a
def L4(h:nl n<=2147483648):PF 103 [.bool s,.mag n] (.big (sg s n)):=by
 intro w vs b a;refine CP (p:=fun t=>t=s) (z:=sg s n) h (fun t c=>by rw[c]) w vs b ?_
 match vs,a with
 | [va,vb],a=>simp only[aW,bn]at a ⊢;exact⟨⟨s,a.1,rfl⟩,a.2⟩
 | [],a=>simp[aW]at a
 | [_],a=>simp[aW]at a
 | _::_::_::_,a=>simp[aW]at a
def oQ{b q r:Int}(h:a=b*q+r)(c:0<=r)(f:r<b.natAbs):a/b=q/\a%b=r:=by
 rcases pU 0 b with d|d
 .exact(oA d).2 ⟨by rw[QP];exact h.symm,c,om⟩
 .have e:=(oA (a:=a) (b:=-b) (r:=r) (q:=-q) om).2 ⟨by rw[vJ,QP];exact h.symm,c,om⟩
  rw[DO,QM]at e;exact⟨om,e.2⟩
def N6{b:Int}(c:sg s a.natAbs=a):sg s (a.natAbs%b.natAbs)=a.tmod b:=by
 rcases Int.natAbs_eq b with e|e<;>cases s<;>simp only[sg,aO,bD,aP]at c ⊢
 .rw[<-c,e];simp[fA];exact(aK om).symm
 .rw[<-c,e];simp[QL];exact(aK om).symm
 .rw[<-c,e];simp[Int.tmod_neg];exact(aK om).symm
 .rw[<-c,e];simp[QL,Int.tmod_neg];exact(aK om).symm
def N7{t:Bool}{b:Int}(c:sg s a.natAbs=a)(d:sg t b.natAbs=b):sg (s != t) (a.natAbs/b.natAbs)=a.tdiv b:=by
 cases s<;>cases t<;>simp only[sg,aO,bD,aP,cK,Bool.false_bne,Bool.true_bne,qd]at c d ⊢
 .rw[<-c,<-d];simp
 .rw[<-c,<-d];simp[Int.tdiv_neg]
 .rw[<-c,<-d];simp[Int.neg_tdiv]
 .rw[<-c,<-d];simp[Int.neg_tdiv,Int.tdiv_neg]
def sL{b:Int}(h:b≠0):(a.tmod b).natAbs<b.natAbs:=by
 rw[Tz];exact dq _ om
def yH{b:Int}(v:nb a k)(w:nb b k)(U:k<=536870912)(L:b≠0):PF 127 [.big a,.big b] (.tup [.big (a/b),.big (a%b),.bool true]):=by
 have la:nl a.natAbs<=16777216:=v.nl om;have lb:nl b.natAbs<=16777216:=w.nl om;have M:0<b.natAbs:=om
 have o:((nl b.natAbs:Int)==0)=false:=by
  have H:nl b.natAbs≠0:=fun h=>by
   have:=jL.1 (om:nl b.natAbs<=0)
   simp at this;omega
  simp;omega
 refine iQ func127 ntmps127 results127 ?_;simp -dsimp only[go_sem];refine aG.intro fun V W=>?_
 try simp -dsimp only[go_sem]
 refine aG.intro fun X N=>?_
 try simp -dsimp only[go_sem]
 refine aG.intro fun Y I=>?_
 try simp -dsimp only[go_sem]
 refine aG.intro fun Z z=>?_
 try simp -dsimp only[go_sem]
 have p:=(ag N).1;have t:=(ag (ag I).2).1;have j:=(ag I).1;have u:=(ag (ag (ag z).2).2).1;have l:=(ag (ag z).2).1;have d:=(ag z).1;refine bF 8 kr ?_
 simp -dsimp only[go_sem,nn d,aj p,aj t,aj j,aj u,aj l];refine⟨_,(H8 om).pure',_,(H8 om).pure',?_⟩;simp -dsimp only[go_sem,o];refine(JV la lb M).call ?_;simp -dsimp only[go_sem,o];refine bF 13 kr ?_
 simp -dsimp only[go_sem,aj p,aj t,aj j,aj u,aj l];refine⟨.big (a.tdiv b),(CP (bU (fF (fX a.natAbs b.natAbs)) om) (fun s A=>by obtain⟨x,H,y,O,rfl⟩:=A;exact N7 H O)).pure',.big (a.tmod b),(CP (bU (fF (S8 a.natAbs b.natAbs)) om) (fun s A=>N6 A)).pure',?_⟩
 refine aG.intro fun P f=>?_
 try simp -dsimp only[go_sem]
 refine aG.intro fun Q c=>?_;have B:=(ag f).1;have C:=(ag (ag f).2).1;have R:=(ag (ag (ag f).2).2).1;have p2:=(ag (ag (ag (ag f).2).2).2).1;have qp:=(ag c).1;have D:=(ag (ag c).2).1;have E:=(ag (ag (ag c).2).2).1;have S:=(ag (ag (ag (ag c).2).2).2).1;have q2:=(ag (ag (ag (ag (ag c).2).2).2).2).1;have J:nb (a.tdiv b) k:=nb.of_le (by rw[Int.natAbs_tdiv];exact fX _ _) v
 have K:nb (a.tmod b) k:=nb.of_le (by rw[Tz];exact S8 _ _) v
 have e:=wJ a b;have T:=sL (a:=a) L;simp -dsimp only[go_sem,nn qp];refine(jB K om).call ?_;by_cases g:a.tmod b<0
 .have m:(a.tmod b).sign<0:=by rw[eB g];decide
  simp -dsimp only[go_sem,bR,m];have F:nb (b.natAbs:Int) k:=nb.of_le sm w
  refine bF 4 kr ?_
  simp -dsimp only[go_sem,aj j,aj l,aj R,aj S,bR];refine⟨.big (b.natAbs:Int),(L4 (s:=false) om).pure',.big (a.tmod b+(b.natAbs:Int)),(sS K F om).pure',?_⟩;simp -dsimp only[go_sem];refine(jB w om).call ?_;by_cases G:b<0
  .have n:b.sign<0:=by rw[eB G];decide
   simp -dsimp only[go_sem,n];refine fu 4 [[3]] kr ?_
   simp -dsimp only[go_sem,nn d,nn E,nn D,aj C,aj B,aj qp,bR];refine⟨.big 1,(gG dc dc).pure',.big (a.tdiv b+1),(sS (k:=k+1) (J.mono om) (nb.one om) om).pure',?_⟩
   simp -dsimp only[go_sem];have i:=oQ (a:=a) (b:=b) (q:=a.tdiv b+1) (r:=a.tmod b+(b.natAbs:Int)) (by
    rw[SQ,rh];omega) om om
   rw[i.1,i.2];exact VR.tup (by simp[pq])
  .have n:¬b.sign<0:=by rw[cX (om:0<b)];decide
   simp -dsimp only[go_sem,n];refine fu 4 [[3]] kr ?_
   simp -dsimp only[go_sem,nn d,nn E,nn D,aj C,aj B,aj qp,bR];refine⟨.big 1,(gG dc dc).pure',.big (a.tdiv b-1),(sO (k:=k+1) (J.mono om) (nb.one om) om).pure',?_⟩
   simp -dsimp only[go_sem];have i:=oQ (a:=a) (b:=b) (q:=a.tdiv b-1) (r:=a.tmod b+(b.natAbs:Int)) (by
    rw[rf,rh];omega) om om
   rw[i.1,i.2];exact VR.tup (by simp[pq])
 .have m:¬(a.tmod b).sign<0:=by
   rcases fm (a.tmod b) 0 with h|h|h
   .exact absurd h g
   .rw[h];decide
   .rw[cX h];decide
  simp -dsimp only[go_sem,bR,m];refine fu 2 [[1]] kr ?_
  simp -dsimp only[go_sem,nn d,nn E,nn D,aj C,aj B,aj qp,bR];have i:=oQ (a:=a) (b:=b) (q:=a.tdiv b) (r:=a.tmod b) om om om;rw[i.1,i.2];exact VR.tup (by simp[pq])

def nB{b:Int}(f:nb a k)(g:nb b k)(h:k<=536870912)(i:b≠0):PF 65 [.big a,.big b] (.big (a/b)):=by
 refine iQ func65 ntmps65 results65 ?_;simp -dsimp only[go_sem];refine aG.intro fun l m=>?_
 try simp -dsimp only[go_sem]
 refine aG.intro fun n j=>?_;have n3_2:=(ag j).1
 try simp -dsimp only[go_sem]
 refine aG.intro fun o e=>?_;have n4_3:=(ag e).1;have n4_2:=(ag (ag e).2).1;simp -dsimp only[go_sem,aj n3_2,aj n4_2,aj n4_3];refine(yH f g h i).call ?_;simp -dsimp only[go_sem];refine aG.intro fun p d=>?_;have n5_4:=(ag d).1;have n5_3:=(ag (ag d).2).1;have n5_2:=(ag (ag (ag d).2).2).1
 try simp -dsimp only[go_sem]
 refine aG.intro fun q c=>?_;have n6_5:=(ag c).1;have n6_4:=(ag (ag c).2).1;have n6_3:=(ag (ag (ag c).2).2).1;have n6_2:=(ag (ag (ag (ag c).2).2).2).1;simp only[go_sem,nn n6_5,aj n5_4,aj n6_4,bR];exact VR.mf rfl
def N9{b:Int}(f:nb a k)(g:nb b k)(h:k<=536870912)(i:b≠0):PF 147 [.big a,.big b] (.big (a%b)):=by
 refine iQ func147 ntmps147 results147 ?_;simp -dsimp only[go_sem];refine aG.intro fun l m=>?_
 try simp -dsimp only[go_sem]
 refine aG.intro fun n j=>?_;have n3_2:=(ag j).1
 try simp -dsimp only[go_sem]
 refine aG.intro fun o e=>?_;have n4_3:=(ag e).1;have n4_2:=(ag (ag e).2).1;simp -dsimp only[go_sem,aj n3_2,aj n4_2,aj n4_3];refine(yH f g h i).call ?_;simp -dsimp only[go_sem];refine aG.intro fun p d=>?_;have n5_4:=(ag d).1;have n5_3:=(ag (ag d).2).1;have n5_2:=(ag (ag (ag d).2).2).1
 try simp -dsimp only[go_sem]
 refine aG.intro fun q c=>?_;have n6_5:=(ag c).1;have n6_4:=(ag (ag c).2).1;have n6_3:=(ag (ag (ag c).2).2).1;have n6_2:=(ag (ag (ag (ag c).2).2).2).1;simp only[go_sem,nn n6_5,aj n5_4,aj n6_4,bR];exact VR.mf rfl
def dT.get(h:dT S b ty es z):∃g,S b=some ⟨ty,es,1,g⟩/\g 0=z:=h
def yV{b:Int}(h:b≠0):(a%b).natAbs<b.natAbs:=by
 have c:=aU a h;have d:=SR a h;omega
def N5(h:a≠0):(a.sign != 0)=true:=by
 simp only[bne_iff_ne,DF];rw[lB];exact h
def Mp{b:Int}:mn a b=mn b (a%b):=by
 have c:a%b=a+b*(-(a/b)):=by rw[QN];grind
 rw[Int.gcd_comm b,c,Int.gcd_add_mul_left_left]
def Ob{b:Int}(u:nb a k)(v:nb b k)(C:k<=536870912):PF 262 [.big a,.big b] (.big (mn a b)):=by
 refine iQ func262 ntmps262 results262 ?_;simp -dsimp only[go_sem];refine aG.intro fun I J=>?_
 try simp -dsimp only[go_sem]
 refine aG.intro fun K D=>?_;have n3_2:=(ag D).1
 try simp -dsimp only[go_sem]
 refine aG.intro fun w z=>?_;have n4_3:=(ag z).1;have n4_2:=(ag (ag z).2).1;simp -dsimp only[go_sem];refine bF 6 kr ?_
 simp -dsimp only[go_sem,aj n3_2,aj n4_2,aj n4_3];refine⟨_,(xC u om).pure',_,(xC v om).pure',?_⟩;refine aG.intro fun A h=>?_;have n5_4:=(ag h).1;have n5_3:=(ag (ag h).2).1;have n5_2:=(ag (ag (ag h).2).2).1
 try simp -dsimp only[go_sem]
 refine aG.intro fun i f=>?_;have n6_5:=(ag f).1;have n6_4:=(ag (ag f).2).1;have n6_3:=(ag (ag (ag f).2).2).1;have n6_2:=(ag (ag (ag (ag f).2).2).2).1;simp only[go_sem,nn n6_5];refine aH (fun O S=>∃x y:Int,nb x k/\nb y k/\0<=x/\0<=y/\mn x y=mn a b/\O 4=.ptr 2 w 0/\O 5=.ptr 2 A 0/\O 6=.ptr 2 i 0/\dT S w 50 2 (.big 0)/\dT S A 50 2 (.big x)/\dT S i 50 2 (.big y)) (fun O S=>match S i with|some X=>(match X.g 0 with|.big y=>y.natAbs|_=>0)|ab=>0) ?_ ?_
 .simp only[go_sem];exact⟨a.natAbs,nb.of_le sm u,b.natAbs,nb.of_le sm v,om,om,by simp[mn],((((dT.new rfl).upd (aj n5_4) _).upd (aj n6_4) _).upd (aj n5_4) _).upd (aj n6_4) _,dT.set.upd (aj n6_5) _,dT.set⟩
 .rintro O S ⟨x,y,E,d,L,F,B,j,l,m,V4,V5,V6⟩;obtain⟨G,n,H⟩:=V4;obtain⟨M,o,p⟩:=V5;obtain⟨N,q,e⟩:=V6;by_cases c:y=0
  .simp -dsimp only[go_sem,m,q,e];refine(jB d om).call ?_;simp only[go_sem,j,l,n,o,p,e,c,rK,bR];have r:((mn a b:Nat):Int)=x:=by rw[<-B,c,Int.gcd_zero];omega
   rw[r];exact VR.mf rfl
  .simp -dsimp only[go_sem,m,q,e];refine(jB d om).call ?_;simp -dsimp only[go_sem,j,l,n,o,p,e,N5 c,bR];refine bF 4 kr ?_
   simp only[go_sem,j,l,m,o,q,p,e,n6_5,bR];refine⟨_,(N9 E d C c).pure',?_⟩;simp only[go_sem];have s:=yV (a:=x) c;have t:=aU x c;exact⟨⟨y,d,x%y,nb.of_le om d,F,t,by rw[<-Mp];exact B,(dT.upd ⟨G,n,H⟩ (aj n5_4) _).upd (aj n6_4) _,dT.set.upd (aj n6_5) _,dT.set⟩,s⟩

def cV(e es:Nat)(S0 S:St)(x:AV)(j:Nat)(g:Nat->AV):Prop:=eQ S0 S/\((j=0/\x=.nil)∨∃c,S0 c=ab/\x=.sl es c 0 j/\bJ S c e es j g)
def d5(x:AV)(d:Nat):Prop:=∃es off len,x=.sl es d off len
def cV.nil{e:Nat}(h:eQ S0 S)(g:Nat->AV):cV e es S0 S .nil 0 g:=⟨h,bM ⟨rfl,rfl⟩⟩
def cV.congr{e:Nat}{g:Nat->AV}(h:cV e es S0 S x j g)(a:∀i,i<j->g i=g' i):cV e es S0 S x j g':=by
 refine⟨h.1,h.2.imp id ?_⟩;rintro⟨c,b,d,f⟩;exact⟨c,b,d,f.congr a⟩
def cV.step{e:Nat}{g:Nat->AV}(h:cV e es S0 S x j g)(b:eQ S0 S')(f:∀d,d5 x d->S' d=S d):cV e es S0 S' x j g:=by
 refine⟨b,h.2.imp id ?_⟩;rintro⟨c,i,a,g',k,l⟩;exact⟨c,i,a,g',by rw[f c ⟨_,_,_,a⟩];exact k,l⟩
def cV.upd{e:Nat}{g:Nat->AV}(h:cV e es S0 S x j g){b:Nat}(a:S0 b=ab)(c:∀d,d5 x d->d≠b)(X:eE):cV e es S0 (S.upd b X) x j g :=
 h.step (h.1.upd a X) (fun d f=>aN (c d f))
def cV.fresh{e:Nat}{g:Nat->AV}(h:cV e es S0 S x j g){b:Nat}(i:S b=ab):∀d,d5 x d->d≠b:=by
 rintro d ⟨es',off,len,a⟩ rfl;rcases h.2 with⟨_,f⟩|⟨c,_,f,k⟩
 .rw[f]at a;cases a
 .rw[f]at a;cases a;exact bJ.fresh k i rfl
def cV.app{t e:Nat}{v:AV}{g:Nat->AV}(I:dB t=some e)(J:(fU e).isSome=true)(u:es=bP e)(h:cV e es S0 S x j g)(O:j<1000000)(L:eg es v)
  (M:(∃h,y=.lst es 1 h/\h 0=v)∨∃b gb ty,y=.sl es b 0 1/\S b=some ⟨ty,es,1,gb⟩/\gb 0=v/\¬d5 x b)
  (G:∀c S',cV e es S0 S' (.sl es c 0 (j+1)) (j+1) (fun i=>if i=j then v else g i)->(∀d X,S d=some X->¬d5 x d->S' d=some X)->(d5 x c∨S c=ab)->K (.sl es c 0 (j+1)) S'):fG t t x y S K:=by
 unfold fG;rw[I];refine⟨rfl,J,?_⟩;have l:∃w o,Av S y=some (es,1,w,o)/\w 0=v/\(∀d,d5 x d->o≠some d):=by
  rcases M with⟨h,rfl,N⟩|⟨b,gb,ty,rfl,z,m,A⟩
  .exact⟨_,_,rfl,N,fun d _=>by simp⟩
  .refine⟨fun j=>gb (0+j),some b,by simp[Av,z],m,fun d f e=>?_⟩
   cases e;exact A f
 obtain⟨w,o,z,m,A⟩:=l;rw[z];refine⟨u,om,fun i H=>by rw[(om:i=0),m];exact L,?_⟩
 rcases h.2 with⟨rfl,rfl⟩|⟨c,n,rfl,g',B,C⟩
 .refine⟨om,fun b r=>G _ _ ⟨h.1.upd (h.1.none r) _,bO ⟨b,h.1.none r,rfl,bJ.here fun i H=>?_⟩⟩ (fun d X f _=>?_) (bO r)⟩
  .obtain rfl:i=0:=om
   simp[m]
  .rw[aN];exact f;rintro rfl;rw[r]at f;cases f
 .simp only[B];refine⟨trivial,trivial,trivial,trivial,trivial,om,A c ⟨_,_,_,rfl⟩,fun b' a=>G _ _ ⟨?_,bO ⟨b',?_,rfl,bJ.here fun i H=>?_⟩⟩ (fun d X f D=>?_) ?_⟩
  .intro k X s;have p:k≠c:=by rintro rfl;rw[n]at s;cases s
   have E:k≠b':=by
    rintro rfl;rcases a with rfl|a
    .exact p rfl
    .rw[h.1 k X s]at a;cases a
   rw[aN E];simp only[St.del];rw[af p];exact h.1 k X s
  .rcases a with rfl|a
   .exact n
   .exact h.1.none a
  .by_cases e:i=j
   .subst e;rw[xO (ae _) om,cb,m,ai rfl]
   .rw[Dc om,af e];exact C i om
  .have q:d≠c:=fun e=>D (by rw[e];exact⟨_,_,_,rfl⟩)
   have F:d≠b':=by
    rintro rfl;rcases a with rfl|a
    .exact q rfl
    .rw[f]at a;cases a
   rw[aN F];simp only[St.del];rw[af q];exact f
  .rcases a with rfl|a
   .exact bM ⟨_,_,_,rfl⟩
   .exact bO a
def cV.app50{v:AV}{g:Nat->AV}(h:cV 50 2 S0 S x j g)(a:j<1000000)(e:eg 2 v)(f:(∃h,y=.lst 2 1 h/\h 0=v)∨∃b gb ty,y=.sl 2 b 0 1/\S b=some ⟨ty,2,1,gb⟩/\gb 0=v/\¬d5 x b)
  (k:∀c S',cV 50 2 S0 S' (.sl 2 c 0 (j+1)) (j+1) (fun i=>if i=j then v else g i)->(∀d X,S d=some X->¬d5 x d->S' d=some X)->(d5 x c∨S c=ab)->K (.sl 2 c 0 (j+1)) S'):fG 59 59 x y S K:=cV.app rfl rfl rfl h a e f k
def cV.app2{v:AV}{g:Nat->AV}(h:cV 2 1 S0 S x j g)(a:j<1000000)(e:eg 1 v)(f:(∃h,y=.lst 1 1 h/\h 0=v)∨∃b gb ty,y=.sl 1 b 0 1/\S b=some ⟨ty,1,1,gb⟩/\gb 0=v/\¬d5 x b)
  (k:∀c S',cV 2 1 S0 S' (.sl 1 c 0 (j+1)) (j+1) (fun i=>if i=j then v else g i)->(∀d X,S d=some X->¬d5 x d->S' d=some X)->(d5 x c∨S c=ab)->K (.sl 1 c 0 (j+1)) S'):fG 29 29 x y S K:=cV.app rfl rfl rfl h a e f k
def cV.app3{v:AV}{g:Nat->AV}(h:cV 3 1 S0 S x j g)(a:j<1000000)(e:eg 1 v)(f:(∃h,y=.lst 1 1 h/\h 0=v)∨∃b gb ty,y=.sl 1 b 0 1/\S b=some ⟨ty,1,1,gb⟩/\gb 0=v/\¬d5 x b)
  (k:∀c S',cV 3 1 S0 S' (.sl 1 c 0 (j+1)) (j+1) (fun i=>if i=j then v else g i)->(∀d X,S d=some X->¬d5 x d->S' d=some X)->(d5 x c∨S c=ab)->K (.sl 1 c 0 (j+1)) S'):fG 146 146 x y S K:=cV.app rfl rfl rfl h a e f k
def cV.app59{v:AV}{g:Nat->AV}(h:cV 59 1 S0 S x j g)(a:j<1000000)(e:eg 1 v)(f:(∃h,y=.lst 1 1 h/\h 0=v)∨∃b gb ty,y=.sl 1 b 0 1/\S b=some ⟨ty,1,1,gb⟩/\gb 0=v/\¬d5 x b)
  (k:∀c S',cV 59 1 S0 S' (.sl 1 c 0 (j+1)) (j+1) (fun i=>if i=j then v else g i)->(∀d X,S d=some X->¬d5 x d->S' d=some X)->(d5 x c∨S c=ab)->K (.sl 1 c 0 (j+1)) S'):fG 52 52 x y S K:=cV.app rfl rfl rfl h a e f k
def cV.app29{v:AV}{g:Nat->AV}(h:cV 29 1 S0 S x j g)(a:j<1000000)(e:eg 1 v)(f:(∃h,y=.lst 1 1 h/\h 0=v)∨∃b gb ty,y=.sl 1 b 0 1/\S b=some ⟨ty,1,1,gb⟩/\gb 0=v/\¬d5 x b)
  (k:∀c S',cV 29 1 S0 S' (.sl 1 c 0 (j+1)) (j+1) (fun i=>if i=j then v else g i)->(∀d X,S d=some X->¬d5 x d->S' d=some X)->(d5 x c∨S c=ab)->K (.sl 1 c 0 (j+1)) S'):fG 28 28 x y S K:=cV.app rfl rfl rfl h a e f k
def cV.other{e:Nat}{g:Nat->AV}(h:cV e es S0 S x j g){b ty es' n:Nat}{g':Nat->AV}(f:S b=some ⟨ty,es',n,g'⟩)(i:ty≠e):¬d5 x b:=by
 rintro⟨_,_,_,a⟩;rcases h.2 with⟨_,d⟩|⟨c,_,d,k⟩
 .rw[d]at a;cases a
 .rw[d]at a;cases a;exact bJ.ne k (bJ.of f) (aj i) rfl
def bJ.via{g:Nat->AV}(h:bJ S b ty es n g)(a:∀X,S b=some X->S' b=some X):bJ S' b ty es n g:=by
 obtain⟨g',c,d⟩:=h;exact⟨g',a _ c,d⟩
def eR{off len:Nat}:d5 (.sl es b off len) d↔d=b:=⟨fun⟨_,_,_,e⟩=>by cases e;rfl,fun e=>by rw[e];exact⟨_,_,_,rfl⟩⟩
def Dx(n m:Nat)(A:Nat->Nat->Int)(k:Nat)(h2:n<=1000)(h3:1<=m)(h4:m<=1000)(Q:∀i j,i<n->j<m->nb (A i j) k)(R:k<=8589934592):MF 63 [aQ n m A] n m A:=by
 refine MF.of ?_;refine jr func63 ntmps63 results63 ?_;simp -dsimp only[go_sem,aQ,a8]
 repeat refine an ?_
 refine aG.intro fun l f3=>?_;simp only[go_sem];refine aH (fun O S=>∃(i:Nat) (g:Nat->Nat),i<=n/\O 0=aQ n m A/\O 3=.sl 1 l 0 n/\O 11=.int .i64 n/\O 12=.int .i64 i /\
  bJ S l 59 1 n (fun a=>if a<i then .sl 2 (g a) 0 m else .nil)/\(∀a,a<i->iW S (g a) m (A a))/\∀a c,a<i->c<i->g a=g c->a=c) (fun O S=>n-ca (O 12)) ?_ ?_
 .simp only[go_sem,aQ,a8];exact⟨0,om,rfl,fun _=>0,bJ.here fun _ _=>by simp,fun a b=>om,fun a c b=>om⟩
 .rintro O S ⟨i,g,hi,T,L,B,C,s,q,U⟩;by_cases o:i<n
  .simp only[*,go_sem,aQ,a8];refine aH (fun O S'=>∃(j:Nat) (x:AV),j<=m/\O 0=aQ n m A/\O 3=.sl 1 l 0 n/\O 4=.int .i64 i/\O 11=.int .i64 n/\O 12=.int .i64 i/\O 18=a8 m (A i)/\O 19=.int .i64 m/\O 20=.int .i64 j /\
    bJ S' l 59 1 n (fun a=>if a<i then .sl 2 (g a) 0 m else if a=i then x else .nil)/\(∀a,a<i->iW S' (g a) m (A a)/\¬d5 x (g a))/\cV 50 2 St.none S' x j (fun c=>.big (A i c))) (fun O S=>m-ca (O 20)) ?_ ?_
   .simp only[*,go_sem,aQ,a8];exact⟨0,om,rfl,.nil,s.congr fun a _=>by grind,fun a b=>⟨q a b,by rintro⟨_,_,_,e⟩;cases e⟩,cV.nil (fun k X h=>by cases h) _⟩
   .rintro O S' ⟨j,x,hj,T,L,V,B,C,W,Y,Z,s,q,r⟩;by_cases D:j<m
    .simp -dsimp only[*,go_sem,aQ,a8];refine aG.intro fun E F=>?_;obtain⟨g1,t,M⟩:=s;have G:g1 i=x:=by rw[M i o];simp
     have p:l≠E:=bJ.fresh (bJ.of t) F;simp -dsimp only[go_sem];refine ip 9 kr ?_
     simp -dsimp only[go_sem,L,V,o,p,t,G,bR]
     repeat refine an ?_
     refine⟨_,(Em (Q i j o D) R).pure',?_⟩;simp -dsimp only[go_sem];have u:∀d,d5 x d->d≠E:=r.fresh F;have H:=r.other t om;refine cV.app50 ((r.upd (by rfl) u _).upd (by rfl) u _) om (show eg 2 (.big (A i j))from trivial) (bM ⟨_,rfl,rfl⟩) ?_
     intro c S2 v w y;have I:=w l _ (by rw[aN p,aN p];exact t) H
     simp only[*,go_sem,aQ,a8,aT (om:j<1000000),ca]
     repeat refine an ?_
     refine⟨⟨j+1,om,rfl,.sl 2 c 0 (j+1),bJ.here fun a b=>?_,fun a b=>?_,?_⟩,om⟩
     .have:=M a b;grind [bR]
     .obtain⟨z,N⟩:=q a b;have f:g a≠E:=bJ.fresh z F;have J:g a≠l:=bJ.ne z (bJ.of t) om;refine⟨(z.via fun X r=>w _ _ (by rw[aN f,aN f];exact r) N).upd J _,fun P=>?_⟩
      rw[eR]at P;rw[<-P]at y;rcases y with h|h
      .exact N h
      .rw[aN f,aN f]at h;exact bJ.fresh z h rfl
     .refine(v.upd (by rfl) (fun d K e=>?_) _).congr (fun a b=>by grind)
      rw[e]at K;exact v.other I om K
    .simp only[*,go_sem,aQ,a8,aT (om:i<1000000),ca]
     obtain rfl:j=m:=om
     rcases r.2 with⟨h0,_⟩|⟨c,_,rfl,hC⟩
     .omega
     refine⟨⟨i+1,om,rfl,fun a=>if a=i then c else g a,s.congr fun a b=>by grind,fun a b=>?_,fun a d b K e=>?_⟩,om⟩
     .by_cases e:a=i
      .subst e;simp only[aO];exact hC
      .simp only[e,aP];exact(q a om).1
     .have k1:=fun a b=>(q a b).2;simp only[eR]at k1
      grind
  .simp only[*,go_sem,aQ,a8];obtain rfl:i=n:=om
   exact⟨l,rfl,g,s.congr fun a b=>by simp[b],q,U⟩

end Go.Proofs.YtdobfmlmenaajaaGreatDoor
