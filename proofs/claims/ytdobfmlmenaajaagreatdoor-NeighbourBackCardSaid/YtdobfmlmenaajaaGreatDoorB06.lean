/-
  Lemmas for NeighbourBack.
-/
import Derived.Test.YtdobfmlmenaajaaGreatDoorB05
namespace Go.Proofs.YtdobfmlmenaajaaGreatDoor
open Go.RowKit Tryz
open _root_.Int renaming tmod→et,gcd→mF,reduceBEq→CK
open _root_.Option renaming none→ae
set_option maxHeartbeats 6400000
set_option maxRecDepth 4096
set_option linter.all false
attribute [local go_sem] Nat.reduceAdd Nat.reduceEqDiff Nat.reduceLeDiff Nat.reduceLT reduceCtorEq Int.ofNat_lt decide_true decide_false Int.zero_le_ofNat
attribute [local go_sem ↓] reduceIte
variable{x x' y y':AV}{K post post':AV->St->Prop}{s:Bool}{a q z:Int}{args args' l:List AV}{xs:List Nat}{E N b bt c d es f i j k k0 m n p ty:Nat}{g' g2:Nat->AV}{r:Nat->Int}{g σ:Nat->Nat}{A B:Nat->Nat->Int}{M M':Nat->Prop}{S S' S0 S1:St}{O:Tm}{v:Value}{w:World}{H Q R:az}{X:eA}
def dh(S S':St):Prop:=∀k X,S k=some X->S' k=some X
def dh.refl(S:St):dh S S:=fun _ _ h=>h
def dh.upd(h:dh S S'){b:Nat}(c:S b=ae)(X:eA):dh S (S'.upd b X):=fun k Y a=>by
 have d:k≠b:=by rintro rfl;rw[c]at a;cases a
 rw[aE d];exact h k Y a
def dh.none(h:dh S S'){b:Nat}(a:S' b=ae):S b=ae:=by
 cases e:S b with
 | none=>rfl
 | some X=>rw[h b X e]at a;cases a
def dh.trans{S'':St}(h:dh S S')(k:dh S' S''):dh S S'':=fun b X a=>k b X (h b X a)
def dh.has(h:dh S S'){b ty es n:Nat}{g:Nat->AV}(a:aY S b ty es n g):aY S' b ty es n g:=by
 obtain⟨g',c,d⟩:=a;exact⟨g',h b _ c,d⟩
def bO:AV->Nat
 | .int _ k=>k.toNat
 | _=>0
def cS(S:St)(b ty es:Nat)(z:AV):Prop:=∃g,S b=some ⟨ty,es,1,g⟩/\g 0=z
def cS.upd{z:AV}(h:cS S b ty es z)(a:b≠c)(X:eA):cS (S.upd c X) b ty es z:=by
 obtain⟨g,d,e⟩:=h;exact⟨g,by rw[aE a];exact d,e⟩
def cS.new{g:Nat->AV}{z:AV}(h:g 0=z):cS (S.upd b ⟨ty,es,1,g⟩) b ty es z:=⟨g,bW,h⟩
def cS.set{g:Nat->AV}{z:AV}:cS (S.upd b ⟨ty,es,1,aL g 0 z⟩) b ty es z:=⟨_,bW,by simp[aL]⟩
def cS.fresh{z:AV}(h:cS S b ty es z)(a:S c=ae):b≠c:=by
 rintro rfl;obtain⟨g,d,_⟩:=h;rw[d]at a;cases a
def af(h:S.upd b X c=ae):c≠b/\S c=ae:=by
 simp only[St.upd]at h;by_cases e:c=b
 .rw[aj e]at h;cases h
 .rw[ah e]at h;exact⟨e,h⟩
def z9{f:Nat->Int}(h:∀j,j<n->nb (f j) k)(d:n<=1024):∀m,m<=n->nb (ap m f) (k+10):=by
 have key:∀m,m<=n->(ap m f).natAbs<=m*(2^k-1):=by
  intro m
  induction m with
  | zero=>intro _;simp[ap]
  | succ m ih =>
   intro a;have c:=ih om;have b:=h m om;unfold nb at b;simp only[ap];rw[cj];omega
 intro m a;have c:=key m a;have b:m*(2^k-1)<=1024*(2^k-1):=aq _ om;have e:0<2^k:=iO om;unfold nb;rw[fD];omega
def Rt(n:Nat)(x y:Nat->Int)(k:Nat)(g:∀j,j<n->nb (x j) k)(h:∀j,j<n->nb (y j) k)(s:k<=1000000000)(t:n<=1000):PF 213 [bn n x,bn n y] (ϱ (ap n fun j=>x j*y j)):=by
 refine iy func213 ntmps213 results213 ?_;simp -dsimp only[go_sem,bn];refine ax.intro fun b u=>?_;simp -dsimp only[go_sem];refine ax.intro fun c l=>?_;have d:b≠c:=ai (af l).1;simp only[go_sem];have m:=z9 (f:=fun j=>x j*y j) (k:=k+k) (fun j e=>(g j e).mul (h j e)) (om:n<=1024)
 refine aC (fun O S=>∃j:Nat,j<=n/\O 0=bn n x/\O 1=bn n y/\O 4=ϖ b 0/\O 5=ϖ c 0/\O 9=ι n/\O 10=ι j/\cS S b 50 2 (ϱ 0)/\cS S c 50 2 (ϱ (ap j fun j=>x j*y j))) (fun O S=>n-bO (O 10)) ?_ ?_
 .simp only[go_sem,bn];exact⟨0,om,rfl,((cS.new rfl).upd d _).upd d _,cS.set⟩
 .rintro O S ⟨j,e,v,w,z,A,B,o,p,q⟩;obtain⟨gb,i,eb⟩:=p;obtain⟨gc,r,ec⟩:=q;by_cases a:j<n
  .simp -dsimp only[*,go_sem,bO,bn];refine aN 11 kr ?_
   have C:ω ((j:Int)+1)=((j+1:Nat):Int):=dN om om;simp only[*,go_sem,bn];exact⟨ϱ (x j*y j),(ja (g j a) (h j a) om).pure',ϱ ((ap j fun j=>x j*y j)+x j*y j),(r8 (m j e) (((g j a).mul (h j a)).mono om) om).pure',trivial,
    ⟨j+1,om,rfl,cS.upd ⟨gb,i,eb⟩ d _,cS.set⟩,om⟩
  .simp only[*,go_sem,bO,bn];obtain rfl:j=n:=om
   exact VR.mf rfl

def dlt{b:Int}(h:¬a<b):decide (a<b)=false:=by simpa using h
theorem Du{w:World}{M M':Nat->Prop}:∀(l:List AV) (vs:List Value),(∀x∈l,rm x=true)->bB w M l vs->bB w M' l vs
 | [],[],_,_=>by simp[bB]
 | x::l,v::vs,h,a=>by
  simp only[bB]at a ⊢;exact⟨ue (h x (fE ..)) a.1,Du l vs (fun y b=>h y (eh _ b)) a.2⟩
 | [],_::_,_,a=>by simp[bB]at a
 | _::_,[],_,a=>by simp[bB]at a
def VR.tup(h:∀x∈l,rm x=true):VR S (.tup l) (.tup l):=by
 intro w v d a;simp only[bI]at a ⊢;obtain⟨vs,b,c⟩:=a;refine⟨vs,b,?_⟩;exact Du l vs h c
def nS(n m:Nat)(A:Nat->Nat->Int)(f:1<=n)(g:n<=16)(h:1<=m)(i:m<=16):PF 104 [aP n m A] (.tup [.int .i64 n,.int .i64 m,.bool true]):=by
 refine iy func104 ntmps104 results104 ?_;have k:decide ((n:Int)<1)=false:=dlt om;have l:decide ((16:Int)<n)=false:=dlt om;have o:decide ((m:Int)<1)=false:=dlt om;have p:decide ((16:Int)<m)=false:=dlt om;simp only[*,go_sem,aP,bn];refine aC (fun O S=>∃j:Nat,j<=n/\O 0=aP n m A/\O 15=aP n m A/\O 16=.int .i64 n/\O 17=.int .i64 j) (fun O S=>n-bO (O 17)) ?_ ?_
 .simp only[go_sem,aP,bn];exact⟨0,om,rfl⟩
 .rintro O S ⟨j,q,a,b,c,d⟩;by_cases e:j<n
  .have r:IntKind.i64.wrap ((j:Int)+1)=((j+1:Nat):Int):=dN om om;simp only[*,go_sem,aP,bn,bO];exact⟨om,⟨j+1,om,rfl⟩,om⟩
  .simp -dsimp only[*,go_sem,aP,bn];refine aN 9 kr ?_
   simp only[go_sem,a,aP,bn]
   repeat refine an ?_
   exact VR.tup (by simp[rm])
def rX(n:Nat)(A:Nat->Nat->Int)(a:1<=n)(b:n<=16):PF 115 [aP n n A] (.tup [.int .i64 n,.bool true]):=by
 refine iy func115 ntmps115 results115 ?_;simp -dsimp only[go_sem];refine(nS n n A a b a b).call ?_;simp only[go_sem];exact VR.tup (by simp[rm])

def iW(S0 S:St)(b:Nat)(g:Nat->Nat)(n m:Nat)(A:Nat->Nat->Int):Prop:=dr S b g n m A/\dh S0 S/\S0 b=ae/\∀i,i<n->S0 (g i)=ae
def dU(A:Nat->Nat->Int)(i j:Nat)(z:Int):Nat->Nat->Int:=fun a c=>if a=i/\c=j then z else A a c
def dr.outer_ne(h:dr S b g n m A){i:Nat}(a:i<n):b≠g i:=aY.ne h.outer (h.row i a) om
def dr.set(h:dr S b g n m A){i j:Nat}{z:Int}{g':Nat->AV}(k:i<n)(o:S (g i)=some ⟨50,2,m,g'⟩) :
  dr (S.upd (g i) ⟨50,2,m,aL g' j (ϱ z)⟩) b g n m (dU A i j z):=by
 refine⟨h.outer.upd (h.outer_ne k) _,fun a d=>?_,h.inj⟩;by_cases e:a=i
 .subst e;obtain⟨s,l,p⟩:=h.row a d;rw[o]at l;cases l;refine aY.here fun c q=>?_;have:=p c q;simp only[aL,dU]
  grind
 .have f:g a≠g i:=fun r=>e (h.inj a i d k r);refine((h.row a d).upd f _).congr fun c _=>?_;simp[dU,e]
def iW.set(h:iW S0 S b g n m A){i j:Nat}{z:Int}{g':Nat->AV}(a:i<n)(c:S (g i)=some ⟨50,2,m,g'⟩) :
  iW S0 (S.upd (g i) ⟨50,2,m,aL g' j (ϱ z)⟩) b g n m (dU A i j z):=⟨h.1.set a c,h.2.1.upd (h.2.2.2 i a) _,h.2.2.1,h.2.2.2⟩
def dr.congr(h:dr S b g n m A)(c:∀i j,i<n->j<m->A i j=B i j):dr S b g n m B :=
 ⟨h.outer,fun i a=>(h.row i a).congr fun j d=>by rw[c i j a d],h.inj⟩
def iW.congr(h:iW S0 S b g n m A)(a:∀i j,i<n->j<m->A i j=B i j):iW S0 S b g n m B:=⟨h.1.congr a,h.2⟩
def VR.tup2(c:VR S x x')(d:VR S y y'):VR S (.tup [x,y]) (.tup [x',y']):=by
 intro w v a b;simp only[bI]at b ⊢;obtain⟨vs,e,h⟩:=b;refine⟨vs,e,?_⟩
 match vs,h with
 | [u,v],h=>simp only[bB]at h ⊢;exact⟨c w u a h.1,d w v a h.2.1,trivial⟩
 | [],h=>simp[bB]at h
 | [_],h=>simp[bB]at h
 | _::_::_::_,h=>simp[bB]at h
def vf(S0:St)(n m:Nat)(B:n<=1000)(C:m<=1000):cI 102 [ι n,ι m] S0 (fun r S'=>∃b g,r=ϑ b 0 n/\iW S0 S' b g n m (fun _ _=>0)):=by
 refine jg func102 ntmps102 results102 ?_;simp -dsimp only[go_sem];refine⟨om,ax.intro fun b o=>?_⟩
 refine aC (fun O S=>∃(k:Nat) (g:Nat->Nat),k<=n/\O 1=ι m/\O 5=ϑ b 0 n/\O 10=ι n/\O 11=ι k /\
  dh S0 S/\aY S b 59 1 n (fun i=>if i<k then ϕ (g i) 0 m else .nil)/\(∀i,i<k->iY S (g i) m (fun _=>0)/\S0 (g i)=ae)/\∀i j,i<k->j<k->g i=g j->i=j) (fun O S=>n-bO (O 11)) ?_ ?_
 .simp only[go_sem];exact⟨0,om,rfl,(dh.refl S0).upd o _,fun _=>0,aY.here fun i _=>by simp,fun i a=>om,fun i j a=>om⟩
 .rintro O S ⟨k,g,D,E,F,v,w,h,s,f,t⟩;by_cases x:k<n
  .have G:ω ((k:Int)+1)=((k+1:Nat):Int):=dN om om;simp -dsimp only[*,go_sem];refine⟨om,ax.intro fun c d=>?_⟩
   obtain⟨g',u,p⟩:=s;have q:b≠c:=by rintro rfl;rw[u]at d;cases d
   simp only[*,go_sem,bO]
   repeat refine an ?_
   refine⟨⟨k+1,om,rfl,(h.upd (h.none d) _).upd o _,fun i=>if i=k then c else g i,aY.here fun i a=>?_,fun i a=>?_,fun i j a H e=>?_⟩,om⟩
   .have:=p i a;grind [aL]
   .by_cases e:i=k
    .simp only[e,aH];exact⟨(aY.here fun _ _=>rfl).upd (ai q) _,h.none d⟩
    .simp only[e,aI];obtain⟨l,y⟩:=f i om;exact⟨(l.upd (aY.fresh l d) _).upd (fun e=>by rw[e]at l;exact aY.ne (aY.of u) l om rfl) _,y⟩
   .by_cases z:i=k<;>by_cases A:j=k<;>simp only[z,A,aH,aI]at e ⊢
    .exact absurd e.symm (aY.fresh (f j om).1 d)
    .exact absurd e (aY.fresh (f i om).1 d)
    .exact t i j om om e
  .simp only[*,go_sem];obtain rfl:k=n:=om
   exact⟨b,rfl,g,⟨s.congr fun i a=>by rw[aj a],fun i a=>(f i a).1,t⟩,h,o,fun i a=>(f i a).2⟩

def aF(h:k<1000000):ω ((k:Int)+1)=((k+1:Nat):Int):=dN om om
def xa(z:Int):Prop:=-9223372036854775808<=z/\z<=9223372036854775807
def vL(S0:St)(n m:Nat)(A:Nat->Nat->Int)(E:1<=n)(F:n<=16)(G:1<=m)(H:m<=16)(o:∀i j,i<n->j<m->xa (A i j)) :
  cI 55 [av n m A] S0 (fun r S'=>∃b g,r=.tup [ϑ b 0 n,.bool true]/\iW S0 S' b g n m A):=by
 refine jg func55 ntmps55 results55 ?_;have I:decide ((n:Int)<1)=false:=dlt om;have J:decide ((16:Int)<n)=false:=dlt om;have K:decide ((m:Int)<1)=false:=dlt om;have L:decide ((16:Int)<m)=false:=dlt om;simp only[*,go_sem,av,aK];refine aC (fun O S=>∃k:Nat,k<=n/\O 0=av n m A/\O 17=av n m A/\O 18=ι n/\O 19=ι k/\S=S0) (fun O S=>n-bO (O 19)) ?_ ?_
 .simp only[go_sem,av,aK];exact⟨0,om,rfl⟩
 .rintro O S ⟨k,p,f,q,s,t,rfl⟩;by_cases a:k<n
  .simp only[*,go_sem,av,aK,aF (om:k<1000000),bO]
   exact⟨om,⟨k+1,om,rfl⟩,om⟩
  .simp -dsimp only[*,go_sem,av,aK]
   repeat refine an ?_
   refine(vf S n m om om).mono ?_;rintro r S1 ⟨b,g,rfl,u⟩;simp only[go_sem,av,aK,f];refine aC (fun O S'=>∃k:Nat,k<=n/\O 0=av n m A/\O 6=ϑ b 0 n/\O 49=ι n/\O 50=ι k/\iW S S' b g n m (fun i j=>if i<k then A i j else 0)) (fun O S=>n-bO (O 50)) ?_ ?_
   .simp only[go_sem,av,aK,f];exact⟨0,om,rfl,u.congr sm⟩
   .rintro O S1 ⟨k,p,f,v,h,l,d⟩;by_cases a:k<n
    .simp only[*,go_sem,av,aK];refine aC (fun O S'=>∃j:Nat,j<=m/\O 0=av n m A/\O 6=ϑ b 0 n/\O 7=ι k/\O 49=ι n/\O 50=ι k/\O 57=ι m/\O 58=ι j/\iW S S' b g n m (fun i c=>if i<k∨(i=k/\c<j)then A i c else 0)) (fun O S=>m-bO (O 58)) ?_ ?_
     .simp only[*,go_sem,av,aK];exact⟨0,om,rfl,d.congr sm⟩
     .rintro O S2 ⟨j,w,f,v,M,h,l,x,y,d⟩;by_cases e:j<m
      .obtain⟨N,P,z⟩:=d.1.outer;obtain⟨Q,B,R⟩:=d.1.row k a;have C:=z k a;simp -dsimp only[*,go_sem,av,aK];refine aN 13 kr ?_
       simp only[*,go_sem,av,aK,aF (om:j<1000000)]
       repeat refine an ?_
       refine⟨_,(fA (o k j a e).1 (o k j a e).2).pure',om,trivial,⟨j+1,om,rfl,(d.set a B).congr fun i c _ _=>?_⟩,by simp only[bO,cR];omega⟩
       simp only[dU]
       grind
      .simp only[*,go_sem,av,aK,bO,aF (om:k<1000000)]
       refine⟨⟨k+1,om,rfl,d.congr fun i c D T=>?_⟩,om⟩
       grind
    .simp only[*,go_sem,av,aK];exact⟨b,rfl,g,d.congr fun i j D w=>by rw[aj om]⟩
def iW.vr(h:iW S0 S b g n m A):VR S (ϑ b 0 n) (aP n m A):=h.1.vr
def Ng(S0:St)(n m:Nat)(A:Nat->Nat->Int)(a:1<=n)(c:n<=16)(d:1<=m)(e:m<=16)(f:∀i j,i<n->j<m->xa (A i j)) :
  cI 27 [av n m A] S0 (fun r S'=>∃b g,r=ϑ b 0 n/\iW S0 S' b g n m A):=by
 refine jg func27 ntmps27 results27 ?_;simp -dsimp only[go_sem];refine(vL S0 n m A a c d e f).mono ?_;rintro r S1 ⟨b,g,rfl,h⟩;simp only[go_sem];exact⟨b,rfl,g,h⟩
def yh(n m:Nat)(A:Nat->Nat->Int)(a:1<=n)(c:n<=16)(d:1<=m)(f:m<=16)(k:∀i j,i<n->j<m->xa (A i j)):PF 27 [av n m A] (aP n m A) :=
 PF.of_spec ((Ng _ n m A a c d f k).mono fun r S' ⟨b,g,e,h⟩=>e▸h.vr)

def uQ:AV->Bool
 | .int _ _=>true
 | .bool _=>true
 | .big _=>true
 | .nil=>true
 | .sl _ _ _ _=>true
 | .ptr _ _ _=>true
 | _=>false
def clb:AV->Bool
 | .tup l=>l.all uQ
 | x=>uQ x
def Ay(h:uQ x=true)(a:bI w M x v):bI w M' x v:=by
 cases x<;>simp only[uQ,dB]at h<;>simpa only[bI]using a
theorem FD{w:World}{M M':Nat->Prop}:∀(l:List AV) (vs:List Value),l.all uQ=true->bB w M l vs->bB w M' l vs
 | [],[],_,_=>by simp[bB]
 | x::l,v::vs,h,a=>by
  simp only[bB,List.all_cons,cV]at h a ⊢;exact⟨Ay h.1 a.1,FD l vs h.2 a.2⟩
 | [],_::_,_,a=>by simp[bB]at a
 | _::_,[],_,a=>by simp[bB]at a
def Pg(h:clb x=true)(a:bI w M x v):bI w M' x v:=by
 cases x<;>first
  | (simp only[clb]at h;exact Ay h a)
  | (simp only[clb]at h;simp only[bI]at a ⊢;obtain⟨vs,e,b⟩:=a;exact⟨vs,e,FD _ _ h b⟩)
def St.join(S S1:St):St:=fun b=>match S b with
 | some X=>some X
 | ae=>S1 b
def Gl(S:St):Prop:=∀b X,S b=some X->∀j,j<X.n->uQ (X.g j)=true
def cI.frame(h:cI f args' St.none post)(D:eM S args args')(E:∀r S1,post r S1->clb r=true/\Gl S1) :
  cI f args S (fun r S'=>∃S1,post r S1/\(∀b X,S b=some X->S1 b=ae)/\S'=S.join S1):=by
 intro w vs d F;refine(h w vs ⟨rfl,d.gl,fun b x G=>by simp[St.none]at G⟩ (bB.turn (fun _ _ i=>absurd rfl i) _ _ (yV d _ _ _ D F))).mono ?_
 rintro e w' ⟨v,r,S1,rfl,A,H,B,c⟩;obtain⟨I,J⟩:=E r S1 A;have m:∀b X,S b=some X->b<w.heap.size:=fun b X a=>by obtain⟨cs,g,_⟩:=d b X a;exact fN g
 have C:∀b,b<w.heap.size->S1 b=ae:=fun b K=>by
  cases e:S1 b with
  | none=>rfl
  | some Y=>exact absurd (c.own b K (by simp[St.dom,e])) (by simp[St.dom,St.none])
 have n:dA S.dom (S.join S1).dom w w':=⟨c.os,c.tape,c.output,c.size,fun k i _=>c.keep k i (by simp[St.dom,St.none]),c.shape,fun k i o=>by
  simp only[St.dom,St.join]at o ⊢
  cases e:S k with
  | none=>rw[e]at o;exact absurd (C k i) o
  | some X=>simp⟩
 refine⟨v,r,S.join S1,rfl,⟨S1,A,fun b X a=>C b (m b X a),rfl⟩,Pg I H,⟨?_,d.grow n,fun b X a=>?_⟩,n⟩
 .simp only[St.join,d.z];exact B.z
 simp only[St.join]at a
 cases e:S b with
 | some Y =>
  rw[e]at a;cases a;obtain⟨cs,g,p,q,s⟩:=d b X e;refine⟨cs,by rw[c.keep b (fN g) (by simp[St.dom,St.none])];exact g,p,fun j l=>?_,s⟩
  obtain⟨u,t,y⟩:=q j l;exact⟨u,t,bI.grow d.noU n _ _ y⟩
 | none =>
  rw[e]at a;obtain⟨cs,g,p,q,s⟩:=B b X a;refine⟨cs,g,p,fun j l=>?_,s⟩;obtain⟨u,t,y⟩:=q j l;exact⟨u,t,Ay (J b X a j l) y⟩
def od(S S1:St):dh S (S.join S1):=fun k X h=>by simp[St.join,h]
def qy(a:∀b X,S b=some X->S1 b=ae){b:Nat}{X:eA}(h:S1 b=some X):S.join S1 b=some X/\S b=ae:=by
 cases e:S b with
 | some Y=>rw[a b Y e]at h;cases h
 | none=>exact⟨by simp[St.join,e,h],rfl⟩
def aY.join(a:∀b X,S b=some X->S1 b=ae){b ty es n:Nat}{g:Nat->AV}(h:aY S1 b ty es n g):aY (S.join S1) b ty es n g/\S b=ae:=by
 obtain⟨g',c,d⟩:=h;exact⟨⟨g',(qy a c).1,d⟩,(qy a c).2⟩
def dr.join(a:∀b X,S b=some X->S1 b=ae){b:Nat}{g:Nat->Nat}{n m:Nat}{A:Nat->Nat->Int}(h:dr S1 b g n m A):iW S (S.join S1) b g n m A :=
 ⟨⟨(h.outer.join a).1,fun i c=>((h.row i c).join a).1,h.inj⟩,od S S1,(h.outer.join a).2,fun i c=>((h.row i c).join a).2⟩
def cI.less(h:cI f args S post)(c:∀r S',post r S'->∃S'',(∀b X,S'' b=some X->S' b=some X)/\post' r S''):cI f args S post':=by
 intro w vs d g;refine(h w vs d g).mono ?_;rintro e w' ⟨v,r,S1,rfl,i,j,l,m⟩;obtain⟨S2,n,o⟩:=c r S1 i;obtain⟨p,a⟩:=l.less n;exact⟨v,r,S2,rfl,o,bI.turn (fun k _ q=>a k q) _ _ j,p,m.weaken a⟩
def eN(S:St)(b:Nat)(g:Nat->Nat)(n:Nat):St:=fun k=>if k=b then S k else if ∃i,i<n/\k=g i then S k else ae
def iT(S:St)(b:Nat)(g:Nat->Nat)(n:Nat):∀c X,eN S b g n c=some X->S c=some X:=by
 intro c X h;unfold eN at h;split at h
 .exact h
 .split at h
  .exact h
  .cases h
def dr.only(h:dr S b g n m A):dr (eN S b g n) b g n m A/\Gl (eN S b g n):=by
 refine⟨⟨?_,fun i k=>?_,h.inj⟩,fun c X f j l=>?_⟩
 .obtain⟨g',a,d⟩:=h.outer;exact⟨g',by simp[eN,a],d⟩
 .obtain⟨g',a,d⟩:=h.row i k;refine⟨g',?_,d⟩;unfold eN;split
  .exact a
  .rw[aj ⟨i,k,rfl⟩];exact a
 .unfold eN at f;split at f
  .rename_i e;subst e;obtain⟨g',a,d⟩:=h.outer;rw[f]at a;cases a;show uQ (g' j)=true;rw[d j l];rfl
  .split at f
   .rename_i e;obtain⟨i,k,rfl⟩:=e;obtain⟨g',a,d⟩:=h.row i k;rw[f]at a;cases a;show uQ (g' j)=true;rw[d j l];rfl
   .cases f
def MF(f:Nat)(args:List AV)(n m:Nat)(A:Nat->Nat->Int):Prop:=∀S args',eM S args' args->cI f args' S (fun r S'=>∃b g,r=.sl 1 b 0 n/\iW S S' b g n m A)
def CF(f:Nat)(args:List AV)(n m:Nat)(A:Nat->Nat->Int):Prop:=∀S args',eM S args' args->cI f args' S (fun r S'=>∃b g,r=.tup [.sl 1 b 0 n,.bool true]/\iW S S' b g n m A)
def MF.of(h:cI f args St.none (fun r S'=>∃b g,r=.sl 1 b 0 n/\dr S' b g n m A)):MF f args n m A:=fun S args' c=>by
 have d:cI f args St.none (fun r S'=>∃b g,r=.sl 1 b 0 n/\dr S' b g n m A/\Gl S'):=h.less fun r S' ⟨b,g,e,a⟩=>⟨eN S' b g n,iT S' b g n,b,g,e,a.only.1,a.only.2⟩;refine(d.frame c ?_).mono ?_
 .rintro r S1 ⟨b,g,rfl,_,i⟩;exact⟨rfl,i⟩
 .rintro r S' ⟨S1,⟨b,g,rfl,a,_⟩,j,rfl⟩;exact⟨b,g,rfl,a.join j⟩
def CF.of(h:cI f args St.none (fun r S'=>∃b g,r=.tup [.sl 1 b 0 n,.bool true]/\dr S' b g n m A)):CF f args n m A:=fun S args' c=>by
 have d:cI f args St.none (fun r S'=>∃b g,r=.tup [.sl 1 b 0 n,.bool true]/\dr S' b g n m A/\Gl S'):=h.less fun r S' ⟨b,g,e,a⟩=>⟨eN S' b g n,iT S' b g n,b,g,e,a.only.1,a.only.2⟩;refine(d.frame c ?_).mono ?_
 .rintro r S1 ⟨b,g,rfl,_,i⟩;exact⟨rfl,i⟩
 .rintro r S' ⟨S1,⟨b,g,rfl,a,_⟩,j,rfl⟩;exact⟨b,g,rfl,a.join j⟩
def MF.pf(h:MF f args n m A):PF f args (aP n m A) :=
 PF.of_spec ((h St.none args (cD _ _)).mono fun _ _ ⟨_,_,e,h⟩=>e▸h.vr)
def CF.pf(h:CF f args n m A):PF f args (.tup [aP n m A,.bool true]) :=
 PF.of_spec ((h St.none args (cD _ _)).mono fun _ _ ⟨_,_,e,h⟩=>e▸VR.tup2 h.vr (VR.mf rfl))
def MF.congr(h:MF f args n m A)(a:∀i j,i<n->j<m->A i j=B i j):MF f args n m B:=fun S args' c=>(h S args' c).mono fun _ _ ⟨b,g,e,d⟩=>⟨b,g,e,d.congr a⟩
def D9(n m:Nat)(a:n<=1000)(c:m<=1000):MF 102 [.int .i64 n,.int .i64 m] n m (fun _ _=>0):=MF.of ((vf _ n m a c).mono fun _ _ ⟨b,g,e,h⟩=>⟨b,g,e,h.1⟩)
def Of_mf(n m:Nat)(A:Nat->Nat->Int)(a:1<=n)(c:n<=16)(d:1<=m)(f:m<=16)(k:∀i j,i<n->j<m->xa (A i j)):MF 27 [av n m A] n m A:=MF.of ((Ng _ n m A a c d f k).mono fun _ _ ⟨b,g,e,h⟩=>⟨b,g,e,h.1⟩)
def eM.mat(h:dr S b g n m A){l r:List AV}(a:eM S l r):eM S (.sl 1 b 0 n::l) (aP n m A::r):=⟨h.vr.va,a⟩
def eM.same{r:List AV}(a:eM S l r):eM S (x::l) (x::r):=⟨VA.refl S x,a⟩
def eM.nil:eM S [] []:=trivial

def gZ(S0 S:St)(b:Nat)(g:Nat->Nat)(n m:Nat)(A:Nat->Nat->Int):Prop:=eg S b g n m A/\dh S0 S/\S0 b=ae/\∀i,i<n->S0 (g i)=ae
def eg.outer_ne(h:eg S b g n m A){i:Nat}(a:i<n):b≠g i:=aY.ne h.outer (h.row i a) om
def eg.set(h:eg S b g n m A){i j:Nat}{z:Int}{g':Nat->AV}(k:i<n)(o:S (g i)=some ⟨2,1,m,g'⟩) :
  eg (S.upd (g i) ⟨2,1,m,aL g' j (ι z)⟩) b g n m (dU A i j z):=by
 refine⟨h.outer.upd (h.outer_ne k) _,fun a d=>?_,h.inj⟩;by_cases e:a=i
 .subst e;obtain⟨s,l,p⟩:=h.row a d;rw[o]at l;cases l;refine aY.here fun c q=>?_;have:=p c q;simp only[aL,dU]
  grind
 .have f:g a≠g i:=fun r=>e (h.inj a i d k r);refine((h.row a d).upd f _).congr fun c _=>?_;simp[dU,e]
def eg.congr(h:eg S b g n m A)(c:∀i j,i<n->j<m->A i j=B i j):eg S b g n m B :=
 ⟨h.outer,fun i a=>(h.row i a).congr fun j d=>by rw[c i j a d],h.inj⟩
def gZ.congr(h:gZ S0 S b g n m A)(a:∀i j,i<n->j<m->A i j=B i j):gZ S0 S b g n m B:=⟨h.1.congr a,h.2⟩
def eg.join(a:∀b X,S b=some X->S1 b=ae){b:Nat}{g:Nat->Nat}{n m:Nat}{A:Nat->Nat->Int}(h:eg S1 b g n m A):gZ S (S.join S1) b g n m A :=
 ⟨⟨(h.outer.join a).1,fun i c=>((h.row i c).join a).1,h.inj⟩,od S S1,(h.outer.join a).2,fun i c=>((h.row i c).join a).2⟩
def eg.only(h:eg S b g n m A):eg (eN S b g n) b g n m A/\Gl (eN S b g n):=by
 refine⟨⟨?_,fun i k=>?_,h.inj⟩,fun c X f j l=>?_⟩
 .obtain⟨g',a,d⟩:=h.outer;exact⟨g',by simp[eN,a],d⟩
 .obtain⟨g',a,d⟩:=h.row i k;refine⟨g',?_,d⟩;unfold eN;split
  .exact a
  .rw[aj ⟨i,k,rfl⟩];exact a
 .unfold eN at f;split at f
  .rename_i e;subst e;obtain⟨g',a,d⟩:=h.outer;rw[f]at a;cases a;show uQ (g' j)=true;rw[d j l];rfl
  .split at f
   .rename_i e;obtain⟨i,k,rfl⟩:=e;obtain⟨g',a,d⟩:=h.row i k;rw[f]at a;cases a;show uQ (g' j)=true;rw[d j l];rfl
   .cases f
def QM(f:Nat)(args:List AV)(n m:Nat)(A:Nat->Nat->Int):Prop:=∀S args',eM S args' args->cI f args' S (fun r S'=>∃b g,r=ϑ b 0 n/\gZ S S' b g n m A)
def K0(f:Nat)(args:List AV)(n m:Nat)(A:Nat->Nat->Int):Prop:=∀S args',eM S args' args->cI f args' S (fun r S'=>∃b g,r=.tup [ϑ b 0 n,.bool true]/\gZ S S' b g n m A)
def QM.of(h:cI f args St.none (fun r S'=>∃b g,r=ϑ b 0 n/\eg S' b g n m A)):QM f args n m A:=fun S args' c=>by
 have d:cI f args St.none (fun r S'=>∃b g,r=ϑ b 0 n/\eg S' b g n m A/\Gl S'):=h.less fun r S' ⟨b,g,e,a⟩=>⟨eN S' b g n,iT S' b g n,b,g,e,a.only.1,a.only.2⟩;refine(d.frame c ?_).mono ?_
 .rintro r S1 ⟨b,g,rfl,_,i⟩;exact⟨rfl,i⟩
 .rintro r S' ⟨S1,⟨b,g,rfl,a,_⟩,j,rfl⟩;exact⟨b,g,rfl,a.join j⟩
def K0.of(h:cI f args St.none (fun r S'=>∃b g,r=.tup [ϑ b 0 n,.bool true]/\eg S' b g n m A)):K0 f args n m A:=fun S args' c=>by
 have d:cI f args St.none (fun r S'=>∃b g,r=.tup [ϑ b 0 n,.bool true]/\eg S' b g n m A/\Gl S'):=h.less fun r S' ⟨b,g,e,a⟩=>⟨eN S' b g n,iT S' b g n,b,g,e,a.only.1,a.only.2⟩;refine(d.frame c ?_).mono ?_
 .rintro r S1 ⟨b,g,rfl,_,i⟩;exact⟨rfl,i⟩
 .rintro r S' ⟨S1,⟨b,g,rfl,a,_⟩,j,rfl⟩;exact⟨b,g,rfl,a.join j⟩
def eM.imat(h:eg S b g n m A){l r:List AV}(a:eM S l r):eM S (ϑ b 0 n::l) (av n m A::r):=⟨h.vr.va,a⟩

def jT(i j:Nat):Int:=if i=j then 1 else 0
def rR(n:Nat)(p:1<=n)(q:n<=16):CF 111 [ι n] n n jT:=by
 refine CF.of ?_;refine jg func111 ntmps111 results111 ?_;have s:¬((n:Int)<1):=om
 have t:¬((16:Int)<n):=om
 simp -dsimp only[*,go_sem];refine(D9 n n om om _ _ (cD _ _)).mono ?_;rintro r S1 ⟨b,g,rfl,e⟩;simp only[go_sem];refine aC (fun O S'=>∃k:Nat,k<=n/\O 4=ϑ b 0 n/\O 16=ι n/\O 17=ι k/\dr S' b g n n (fun i j=>if i<k then jT i j else 0)) (fun O S=>n-bO (O 17)) ?_ ?_
 .simp only[go_sem];exact⟨0,om,rfl,e.1.congr sm⟩
 .rintro O S ⟨k,u,v,f,h,d⟩;by_cases a:k<n
  .obtain⟨w,x,l⟩:=d.outer;obtain⟨y,m,z⟩:=d.row k a;have o:=l k a;simp -dsimp only[*,go_sem];refine aN 6 kr ?_
   simp only[*,go_sem,aF (om:k<1000000),bO]
   repeat refine an ?_
   refine⟨_,(fA dc dc).pure',om,trivial,⟨k+1,om,rfl,(d.set a m).congr fun i c _ _=>?_⟩,om⟩
   simp only[dU,jT]
   grind
  .simp only[*,go_sem];exact⟨b,rfl,g,d.congr fun i j A B=>by rw[aj om]⟩
def qF(n m:Nat)(A:Nat->Nat->Int)(k:Nat)(l:1<=n)(o:n<=16)(p:1<=m)(q:m<=16)(s:∀i j,i<n->j<m->nb (A i j) k)(t:k<=8589934592):CF 100 [aP n m A] m n (fun i j=>A j i):=by
 refine CF.of ?_;refine jg func100 ntmps100 results100 ?_;simp -dsimp only[go_sem];refine(nS n m A l o p q).call ?_;simp -dsimp only[go_sem];refine(D9 m n om om _ _ (cD _ _)).mono ?_;rintro r S1 ⟨b,g,rfl,u⟩;simp only[go_sem,aP,bn];refine aC (fun O S'=>∃k:Nat,k<=n/\O 0=aP n m A/\O 7=ϑ b 0 m/\O 22=ι n/\O 23=ι k/\dr S' b g m n (fun i j=>if j<k then A j i else 0)) (fun O S=>n-bO (O 23)) ?_ ?_
 .simp only[go_sem,aP,bn];exact⟨0,om,rfl,u.1.congr sm⟩
 .rintro O S ⟨k,t,v,w,e,f,d⟩;by_cases h:k<n
  .simp only[*,go_sem,aP,bn];refine aC (fun O S'=>∃j:Nat,j<=m/\O 0=aP n m A/\O 7=ϑ b 0 m/\O 8=ι k/\O 22=ι n/\O 23=ι k/\O 30=ι m/\O 31=ι j/\dr S' b g m n (fun i c=>if c<k∨(c=k/\i<j)then A c i else 0)) (fun O S=>m-bO (O 31)) ?_ ?_
   .simp only[*,go_sem,aP,bn];exact⟨0,om,rfl,d.congr sm⟩
   .rintro O S ⟨j,x,v,w,F,e,f,y,z,d⟩;by_cases a:j<m
    .obtain⟨G,H,B⟩:=d.outer;obtain⟨I,C,J⟩:=d.row j a;have D:=B j a;simp -dsimp only[*,go_sem,aP,bn];refine aN 13 kr ?_
     simp only[*,go_sem,aP,bn,aF (om:j<1000000),bO]
     repeat refine an ?_
     refine⟨_,(EU (s k j h a) om).pure',om,trivial,⟨j+1,om,rfl,(d.set a C).congr fun i c _ _=>?_⟩,om⟩
     simp only[dU]
     grind
    .simp only[*,go_sem,aP,bn,aF (om:k<1000000),bO]
     refine⟨⟨k+1,om,rfl,d.congr fun i c E K=>?_⟩,om⟩
     grind
  .simp only[*,go_sem,aP,bn];exact⟨b,rfl,g,d.congr fun i j E x=>by rw[aj om]⟩

def Fi(a:Nat):jT a=dp a:=by
 funext b;simp only[jT,dp];split<;>split<;>first|rfl|omega
def tq{a:Nat}(d:a<n)(e:b<n):gT Q n jT a b=Q a b:=by
 unfold gT;rw[Fi,Fi,AE d,cF b e (fun i _ c=>by simp[dp,c])]
 simp[dp]
theorem Jl:∀n,det n (po jT)=1
 | 0=>rfl
 | n+1=>by
  rw[sh _ (fun i _=>by simp[po,jT])]
  have e:(fun i j=>po jT (i+1) (j+1))=po jT:=by
   funext i j;simp only[po,jT];split<;>split<;>first|rfl|omega
  rw[e,Jl n];simp[po,jT]
def oe(c:k<=n):det k (gT Q n jT)=det k Q:=aZ fun a b d e=>tq om om
def wZ.init{e:Nat}(f:Pd Q n)(m:1<=n)(o:∀i,i<n->Q i i<=2^e)(p:e*n<=d):wZ Q n d 1 jT:=by
 have q:Pd (gT Q n jT) n:=⟨fun a b g h=>by rw[tq g h,tq h g];exact f.sym a b g h,fun k c=>by rw[oe c];exact f.pos k c⟩
 have s:e<=d:=bQ (tJ e m) p;refine⟨ag _,m,⟨q,fun k c=>?_,by rw[Jl];rfl,fun i l=>?_⟩,⟨fun r t j w=>om,fun r x t=>om⟩,oe (ag n)⟩
 .rw[oe c];have u:=f.det_le o k c;have v:((2:Int)^e)^k<=2^d:=by
   rw[<-SM];exact d9 (bQ (aO e c) p)
  exact cY u v
 .rw[tq l l];exact cY (o i l) (d9 om)
def mt(Q:az)(n:Nat):az:=E9 Q n (Nz Q n 1 jT) 1 jT
def L8{e:Nat}(a:Pd Q n)(b:1<=n)(c:n<=8)(f:∀i,i<n->Q i i<=2^e)(g:e*n<=d):wZ Q n d n (mt Q n) :=
 Ja a.sym c _ _ _ (wZ.init a b f g) (ag _)

def dr.ext(h:dr S b g n m A)(a:dh S S'):dr S' b g n m A:=⟨a.has h.outer,fun i c=>a.has (h.row i c),h.inj⟩
def eg.ext(h:eg S b g n m A)(a:dh S S'):eg S' b g n m A:=⟨a.has h.outer,fun i c=>a.has (h.row i c),h.inj⟩
def eM.ints(h:iY S b n r){l l':List AV}(a:eM S l l'):eM S (ϕ b 0 n::l) (bn n r::l'):=⟨h.vr.va,a⟩
def eM.i64s(h:oq S b n r){l l':List AV}(a:eM S l l'):eM S (ϑ b 0 n::l) (aK n r::l'):=⟨h.vr.va,a⟩
def lz(m:Nat)(A B:Nat->Nat->Int)(i j:Nat):Int:=ap m fun k=>A i k*B k j
def R2(n m q:Nat)(A B:Nat->Nat->Int)(k:Nat)(w:1<=n)(x:n<=16)(t:1<=m)(u:m<=16)(y:1<=q)(z:q<=16)(C:∀i j,i<n->j<m->nb (A i j) k)(v:∀i j,i<m->j<q->nb (B i j) k)
  (T:k<=1000000000):CF 164 [aP n m A,aP m q B] n q (lz m A B):=by
 refine CF.of ?_;refine jg func164 ntmps164 results164 ?_;simp -dsimp only[go_sem];refine(nS n m A w x t u).call ?_;simp -dsimp only[go_sem];refine(qF m q B k t u y z v om _ _ (cD _ _)).mono ?_;rintro r S1 ⟨bt,gt,rfl,D⟩;simp -dsimp only[go_sem,aP,bn,ia];refine(D9 n q om om _ _ (cD _ _)).mono ?_;rintro r S2 ⟨b,g,rfl,E⟩;simp only[go_sem];refine aC (fun O S'=>∃k:Nat,k<=n/\O 0=aP n m A/\O 9=ϑ bt 0 q/\O 11=ϑ b 0 n/\O 43=ι n/\O 44=ι k/\iW S1 S' b g n q (fun i j=>if i<k then lz m A B i j else 0)) (fun O S=>n-bO (O 44)) ?_ ?_
 .simp only[go_sem,aP,bn];exact⟨0,om,rfl,E.congr sm⟩
 .rintro O S ⟨i,F,G,H,o,p,s,e⟩;by_cases d:i<n
  .simp only[*,go_sem,aP,bn];refine aC (fun O S'=>∃j:Nat,j<=q/\O 0=aP n m A/\O 9=ϑ bt 0 q/\O 11=ϑ b 0 n/\O 12=ι i/\O 43=ι n/\O 44=ι i/\O 48=ι q/\O 49=ι j/\iW S1 S' b g n q (fun a c=>if a<i∨(a=i/\c<j)then lz m A B a c else 0)) (fun O S=>q-bO (O 49)) ?_ ?_
   .simp only[*,go_sem,aP,bn];exact⟨0,om,rfl,e.congr sm⟩
   .rintro O S ⟨j,I,G,H,o,J,p,s,K,L,e⟩;by_cases f:j<q
    .obtain⟨U,V,M⟩:=e.1.outer;obtain⟨W,N,X⟩:=e.1.row i d;have P:=M i d;have h:=D.1.ext e.2.1;obtain⟨Y,Z,Q⟩:=h.outer;have R:=Q j f;simp -dsimp only[*,go_sem,aP,bn];refine aN 14 kr ?_
     simp only[*,go_sem,aP,bn,aF (om:j<1000000),bO]
     repeat refine an ?_
     refine⟨_,(Rt m (A i) (fun c=>B c j) k (fun c l=>C i c d l) (fun c l=>v c j l f) om om).pureS (eM.same (eM.ints (h.row j f) eM.nil)),om,trivial,⟨j+1,om,rfl,(e.set d N).congr fun a c _ _=>?_⟩,om⟩
     simp only[dU,lz]
     grind
    .simp only[*,go_sem,aP,bn,aF (om:i<1000000),bO]
     refine⟨⟨i+1,om,rfl,e.congr fun a c ha l=>?_⟩,om⟩
     grind
  .simp only[*,go_sem,aP,bn];exact⟨b,rfl,g,e.1.congr fun i j F I=>by rw[aj om]⟩
def l8(n m q:Nat)(A B:Nat->Nat->Int)(k:Nat)(a:1<=n)(c:n<=16)(d:1<=m)(e:m<=16)(f:1<=q)(h:q<=16)(l:∀i j,i<n->j<m->nb (A i j) k)(o:∀i j,i<m->j<q->nb (B i j) k)
  (p:k<=1000000000):MF 101 [aP n m A,aP m q B] n q (lz m A B):=by
 refine MF.of ?_;refine jg func101 ntmps101 results101 ?_;simp -dsimp only[go_sem];refine(R2 n m q A B k a c d e f h l o p _ _ (cD _ _)).mono ?_;rintro r S1 ⟨b,g,rfl,s⟩;simp only[go_sem];exact⟨b,rfl,g,s.1⟩
def wX(n m:Nat)(A:Nat->Nat->Int)(I:1<=n)(J:n<=16)(K:1<=m)(L:m<=16)(M:∀i j,i<n->j<m->gU (A i j)):K0 46 [aP n m A] n m A:=by
 refine K0.of ?_;refine jg func46 ntmps46 results46 ?_;simp -dsimp only[go_sem];refine(nS n m A I J K L).call ?_;simp -dsimp only[go_sem]
 repeat refine an ?_
 refine ax.intro fun b W=>?_;simp only[go_sem];refine aC (fun O S=>∃(k:Nat) (g:Nat->Nat),k<=n/\O 0=aP n m A/\O 5=ι m/\O 7=ϑ b 0 n/\O 23=ι n/\O 24=ι k /\
  aY S b 29 1 n (fun i=>if i<k then ϑ (g i) 0 m else .nil)/\(∀i,i<k->oq S (g i) m (A i))/\∀i j,i<k->j<k->g i=g j->i=j) (fun O S=>n-bO (O 24)) ?_ ?_
 .simp only[go_sem,aP,bn];exact⟨0,om,rfl,fun _=>0,aY.here fun i _=>by simp,fun i a=>om,fun i j a=>om⟩
 .rintro O S ⟨k,g,X,y,z,B,l,o,p,d,C⟩;by_cases f:k<n
  .simp -dsimp only[*,go_sem]
   repeat refine an ?_
   refine ax.intro fun c u=>?_;obtain⟨g',D,v⟩:=p;have q:b≠c:=by rintro rfl;rw[D]at u;cases u
   have h:∀i,i<k->g i≠c:=fun i a=>aY.fresh (d i a) u;simp only[*,go_sem,aL]
   repeat refine an ?_
   refine aC (fun O S'=>∃j:Nat,j<=m/\O 0=aP n m A/\O 5=ι m/\O 7=ϑ b 0 n/\O 8=ι k/\O 23=ι n/\O 24=ι k/\O 36=ι m/\O 37=ι j /\
    aY S' b 29 1 n (fun i=>if i<k then ϑ (g i) 0 m else if i=k then ϑ c 0 m else .nil)/\(∀i,i<k->oq S' (g i) m (A i))/\oq S' c m (fun t=>if t<j then A k t else 0)) (fun O S=>m-bO (O 37)) ?_ ?_
   .simp only[*,go_sem];refine⟨0,om,rfl,aY.here fun i a=>?_,fun i a=>((d i a).upd (aY.fresh (d i a) u) _).upd (ai (aY.ne (aY.of D) (d i a) om)) _,(aY.here fun _ _=>by simp).upd (ai q) _⟩
    have:=v i a
    grind [aL]
   .rintro O S' ⟨j,N,y,z,B,P,l,o,w,x,p,d,E⟩;by_cases r:j<m
    .obtain⟨Q,F,G⟩:=p;obtain⟨Y,R,T⟩:=E;have s:=G k f;simp only[cw,aI,aH]at s;simp -dsimp only[*,go_sem,aP,bn];refine(ww (M k j f r)).call ?_;simp only[go_sem,y,z,B,P,l,o,w,x,r,f,aP,bn,F,s,R,aF (om:j<1000000),bO]
     repeat refine an ?_
     refine⟨⟨j+1,om,rfl,aY.upd ⟨Q,F,G⟩ q _,fun i a=>(d i a).upd (h i a) _,aY.here fun t H=>?_⟩,om⟩
     have:=T t H;simp only[aL]
     grind
    .simp only[*,go_sem,aF (om:k<1000000),bO]
     refine⟨⟨k+1,om,rfl,fun i=>if i=k then c else g i,p.congr fun i a=>?_,fun i a=>?_,fun i j a N e=>?_⟩,om⟩
     .grind
     .by_cases e:i=k
      .subst e;simp only[aH];refine E.congr fun t H=>?_;have:t<j:=om
       simp[this]
      .simp only[e,aI];exact d i om
     .by_cases U:i=k<;>by_cases V:j=k<;>simp only[U,V,aH,aI]at e ⊢
      .exact absurd e.symm (h j om)
      .exact absurd e (h i om)
      .exact C i j om om e
  .simp only[*,go_sem];obtain rfl:k=n:=om
   exact⟨b,rfl,g,p.congr fun i a=>by rw[aj a],d,C⟩

def yN(h:eC w w.heap.size (.agg #[.bool false,v]) (n:Int)):∃A k c xs,v=.slice A k c/\k<=c/\cE w w.heap.size A k xs/\pg xs/\bC xs=n/\k=nl n:=by
 obtain⟨neg,A,k,c,xs,e,a,b,d,g⟩:=h
 cases e
 have f:bC xs=n:=by simp[sg]at g;omega
 exact⟨A,k,c,xs,rfl,a,b,d,f,by rw[aD b d,f]⟩
def Dd{A:Option Addr}(a:k<=c)(b:cE w w.heap.size A k xs)(d:pg xs)(e:bC xs=n):eC w w.heap.size (.agg #[.bool false,.slice A k c]) (n:Int) :=
 ⟨false,A,k,c,xs,rfl,a,b,d,by rw[e];simp[sg]⟩
def Iz(h:nl n<=2147483648):PF 71 [.mag n] (.mag n):=by
 intro w vs _ a
 match vs,a with
 | [va],a =>
  simp only[bB,bI]at a;obtain⟨A,k,c,xs,rfl,b,d,o,f,p⟩:=yN a.1;refine(gC A k c w.heap.size xs w b om (ag _) d).mono ?_;rintro e w' ⟨A1,q,r,zs,rfl,g,i,j,l,m⟩;exact⟨_,rfl,by simp only[bI];exact Dd g i j (l.trans f),dA.below m⟩
 | [],a=>simp[bB]at a
 | _::_::_,a=>simp[bB]at a
def Ki{a:Nat}(F:nl a<=16777216)(G:nl b<=16777216)(H:0<b):PF 189 [.mag a,.mag b] (.tup [.mag (a/b),.mag (a%b)]):=by
 intro w vs _ f
 match vs,f with
 | [va,vb],f =>
  simp only[bB,bI]at f;obtain⟨A,k,c,xs,rfl,l,n,I,j,J⟩:=yN f.1;obtain⟨B,m,d,ys,rfl,o,h,i,g,K⟩:=yN f.2.1;refine(Hh A B k m c d w.heap.size xs ys w om om (ag _) n h i om).mono ?_;rintro e w' ⟨A1,p,q,zs,D1,r,s,us,rfl,t,u,v,x,y,z,C,D,E⟩;exact⟨_,rfl,by simp only[bI];exact⟨[.slice A1 p q,.slice D1 r s],rfl,by simp only[bB,bI];exact⟨Dd t v y (by rw[C,j,g]),Dd u x z (by rw[D,j,g]),trivial⟩⟩,dA.below E⟩
 | [],f=>simp[bB]at f
 | [_],f=>simp[bB]at f
 | _::_::_::_,f=>simp[bB]at f
def Dv{p:Bool->Prop}(h:nl n<=2147483648)(f:∀s,p s->sg s n=z):PF 103 [.bset p,.mag n] (.big z):=by
 intro w vs _ a
 match vs,a with
 | [va,vb],a =>
  simp only[bB,bI]at a;obtain⟨⟨s,rfl,g⟩,a,_⟩:=a;obtain⟨A,k,c,xs,rfl,b,i,m,j,o⟩:=yN a;refine(lK s A k c w.heap.size xs w b om (ag _) i).mono ?_;rintro e w' ⟨v,rfl,d,l⟩;exact⟨v,rfl,by rw[j,f s g]at d;simpa [bI]using d,dA.below l⟩
 | [],a=>simp[bB]at a
 | [_],a=>simp[bB]at a
 | _::_::_::_,a=>simp[bB]at a
def L4(h:nl n<=2147483648):PF 103 [.bool s,.mag n] (.big (sg s n)):=by
 intro w vs b a;refine Dv (p:=fun t=>t=s) (z:=sg s n) h (fun t c=>by rw[c]) w vs b ?_
 match vs,a with
 | [va,vb],a=>simp only[bB,bI]at a ⊢;exact⟨⟨s,a.1,rfl⟩,a.2⟩
 | [],a=>simp[bB]at a
 | [_],a=>simp[bB]at a
 | _::_::_::_,a=>simp[bB]at a
def pG{b r:Int}(h:a=b*q+r)(c:0<=r)(f:r<b.natAbs):a/b=q/\a%b=r:=by
 rcases jo 0 b with d|d
 .exact(pm d).2 ⟨by rw[QL];exact h.symm,c,om⟩
 .have e:=(pm (a:=a) (b:=-b) (r:=r) (q:=-q) om).2 ⟨by rw[qf,QL];exact h.symm,c,om⟩
  rw[Ex,QI]at e;exact⟨om,e.2⟩
def N4{b:Int}(c:sg s a.natAbs=a):sg s (a.natAbs%b.natAbs)=a.tmod b:=by
 rcases Int.natAbs_eq b with e|e<;>cases s<;>simp only[sg,aH,dB,aI]at c ⊢
 .rw[<-c,e];simp[fH];exact(aJ om).symm
 .rw[<-c,e];simp[QH];exact(aJ om).symm
 .rw[<-c,e];simp[Int.tmod_neg];exact(aJ om).symm
 .rw[<-c,e];simp[QH,Int.tmod_neg];exact(aJ om).symm
def N5{t:Bool}{b:Int}(c:sg s a.natAbs=a)(d:sg t b.natAbs=b):sg (s != t) (a.natAbs/b.natAbs)=a.tdiv b:=by
 cases s<;>cases t<;>simp only[sg,aH,dB,aI,aR,Bool.false_bne,Bool.true_bne,qX]at c d ⊢
 .rw[<-c,<-d];simp
 .rw[<-c,<-d];simp[Int.tdiv_neg]
 .rw[<-c,<-d];simp[Int.neg_tdiv]
 .rw[<-c,<-d];simp[Int.neg_tdiv,Int.tdiv_neg]
def tO{b:Int}(h:b≠0):(a.tmod b).natAbs<b.natAbs:=by
 rw[Tt];exact di _ om
def zM{b:Int}(v:nb a k)(w:nb b k)(U:k<=536870912)(L:b≠0):PF 127 [.big a,.big b] (.tup [.big (a/b),.big (a%b),.bool true]):=by
 have la:nl a.natAbs<=16777216:=v.nl om;have lb:nl b.natAbs<=16777216:=w.nl om;have M:0<b.natAbs:=om
 have o:((nl b.natAbs:Int)==0)=false:=by
  have H:nl b.natAbs≠0:=fun h=>by
   have:=jR.1 (om:nl b.natAbs<=0)
   simp at this;omega
  simp;omega
 refine iy func127 ntmps127 results127 ?_;simp -dsimp only[go_sem];refine ax.intro fun V W=>?_
 try simp -dsimp only[go_sem]
 refine ax.intro fun X N=>?_
 try simp -dsimp only[go_sem]
 refine ax.intro fun Y I=>?_
 try simp -dsimp only[go_sem]
 refine ax.intro fun Z z=>?_
 try simp -dsimp only[go_sem]
 have p:=(af N).1;have t:=(af (af I).2).1;have j:=(af I).1;have u:=(af (af (af z).2).2).1;have l:=(af (af z).2).1;have d:=(af z).1;refine aN 8 kr ?_
 simp -dsimp only[go_sem,nn d,ai p,ai t,ai j,ai u,ai l];refine⟨_,(Iz om).pure',_,(Iz om).pure',?_⟩;simp -dsimp only[go_sem,o];refine(Ki la lb M).call ?_;simp -dsimp only[go_sem,o];refine aN 13 kr ?_
 simp -dsimp only[go_sem,ai p,ai t,ai j,ai u,ai l];refine⟨.big (a.tdiv b),(Dv (bQ (fM (gG a.natAbs b.natAbs)) om) (fun s A=>by obtain⟨x,H,y,O,rfl⟩:=A;exact N5 H O)).pure',.big (a.tmod b),(Dv (bQ (fM (SV a.natAbs b.natAbs)) om) (fun s A=>N4 A)).pure',?_⟩
 refine ax.intro fun P f=>?_
 try simp -dsimp only[go_sem]
 refine ax.intro fun Q c=>?_;have B:=(af f).1;have C:=(af (af f).2).1;have R:=(af (af (af f).2).2).1;have p2:=(af (af (af (af f).2).2).2).1;have qp:=(af c).1;have D:=(af (af c).2).1;have E:=(af (af (af c).2).2).1;have S:=(af (af (af (af c).2).2).2).1;have q2:=(af (af (af (af (af c).2).2).2).2).1;have J:nb (a.tdiv b) k:=nb.of_le (by rw[Int.natAbs_tdiv];exact gG _ _) v
 have K:nb (a.tmod b) k:=nb.of_le (by rw[Tt];exact SV _ _) v
 have e:=yj a b;have T:=tO (a:=a) L;simp -dsimp only[go_sem,nn qp];refine(jQ K om).call ?_;by_cases g:a.tmod b<0
 .have m:(a.tmod b).sign<0:=by rw[eI g];decide
  simp -dsimp only[go_sem,aL,m];have F:nb (b.natAbs:Int) k:=nb.of_le sm w
  refine aN 4 kr ?_
  simp -dsimp only[go_sem,ai j,ai l,ai R,ai S,aL];refine⟨.big (b.natAbs:Int),(L4 (s:=false) om).pure',.big (a.tmod b+(b.natAbs:Int)),(r8 K F om).pure',?_⟩;simp -dsimp only[go_sem];refine(jQ w om).call ?_;by_cases G:b<0
  .have n:b.sign<0:=by rw[eI G];decide
   simp -dsimp only[go_sem,n];refine eO 4 [[3]] kr ?_
   simp only[*,go_sem,ai d,ai C,ai B,ai E,ai D,ai qp,aL];refine⟨.big 1,(fA dc dc).pure',.big (a.tdiv b+1),(r8 (k:=k+1) (J.mono om) (nb.one om) om).pure',?_⟩
   simp only[go_sem];have i:=pG (a:=a) (b:=b) (q:=a.tdiv b+1) (r:=a.tmod b+(b.natAbs:Int)) (by
    rw[zd,iw];omega) om om
   rw[i.1,i.2];exact VR.tup (by simp[rm])
  .have n:¬b.sign<0:=by rw[cX (om:0<b)];decide
   simp -dsimp only[go_sem,n];refine eO 4 [[3]] kr ?_
   simp only[*,go_sem,ai d,ai C,ai B,ai E,ai D,ai qp,aL];refine⟨.big 1,(fA dc dc).pure',.big (a.tdiv b-1),(tV (k:=k+1) (J.mono om) (nb.one om) om).pure',?_⟩
   simp only[go_sem];have i:=pG (a:=a) (b:=b) (q:=a.tdiv b-1) (r:=a.tmod b+(b.natAbs:Int)) (by
    rw[mT,iw];omega) om om
   rw[i.1,i.2];exact VR.tup (by simp[rm])
 .have m:¬(a.tmod b).sign<0:=by
   rcases ej (a.tmod b) 0 with h|h|h
   .exact absurd h g
   .rw[h];decide
   .rw[cX h];decide
  simp -dsimp only[go_sem,aL,m];refine eO 2 [[1]] kr ?_
  simp only[*,go_sem,ai d,ai C,ai B,ai E,ai D,ai qp,aL];have i:=pG (a:=a) (b:=b) (q:=a.tdiv b) (r:=a.tmod b) om om om;rw[i.1,i.2];exact VR.tup (by simp[rm])

def mZ{b:Int}(f:nb a k)(g:nb b k)(h:k<=536870912)(i:b≠0):PF 65 [ϱ a,ϱ b] (ϱ (a/b)):=by
 refine iy func65 ntmps65 results65 ?_;simp -dsimp only[go_sem];refine ax.intro fun l m=>?_
 try simp -dsimp only[go_sem]
 refine ax.intro fun n j=>?_;have n3_2:=(af j).1
 try simp -dsimp only[go_sem]
 refine ax.intro fun o e=>?_;have n4_3:=(af e).1;have n4_2:=(af (af e).2).1;simp -dsimp only[go_sem,ai n3_2,ai n4_2,ai n4_3];refine(zM f g h i).call ?_;simp -dsimp only[go_sem];refine ax.intro fun p d=>?_;have n5_4:=(af d).1;have n5_3:=(af (af d).2).1;have n5_2:=(af (af (af d).2).2).1
 try simp -dsimp only[go_sem]
 refine ax.intro fun q c=>?_;have n6_5:=(af c).1;have n6_4:=(af (af c).2).1;have n6_3:=(af (af (af c).2).2).1;have n6_2:=(af (af (af (af c).2).2).2).1;simp only[go_sem,nn n6_5,ai n5_4,ai n6_4,aL];exact VR.mf rfl
def IL{b:Int}(f:nb a k)(g:nb b k)(h:k<=536870912)(i:b≠0):PF 147 [ϱ a,ϱ b] (ϱ (a%b)):=by
 refine iy func147 ntmps147 results147 ?_;simp -dsimp only[go_sem];refine ax.intro fun l m=>?_
 try simp -dsimp only[go_sem]
 refine ax.intro fun n j=>?_;have n3_2:=(af j).1
 try simp -dsimp only[go_sem]
 refine ax.intro fun o e=>?_;have n4_3:=(af e).1;have n4_2:=(af (af e).2).1;simp -dsimp only[go_sem,ai n3_2,ai n4_2,ai n4_3];refine(zM f g h i).call ?_;simp -dsimp only[go_sem];refine ax.intro fun p d=>?_;have n5_4:=(af d).1;have n5_3:=(af (af d).2).1;have n5_2:=(af (af (af d).2).2).1
 try simp -dsimp only[go_sem]
 refine ax.intro fun q c=>?_;have n6_5:=(af c).1;have n6_4:=(af (af c).2).1;have n6_3:=(af (af (af c).2).2).1;have n6_2:=(af (af (af (af c).2).2).2).1;simp only[go_sem,nn n6_5,ai n5_4,ai n6_4,aL];exact VR.mf rfl
def cS.get{z:AV}(h:cS S b ty es z):∃g,S b=some ⟨ty,es,1,g⟩/\g 0=z:=h
def Aa{b:Int}(h:b≠0):(a%b).natAbs<b.natAbs:=by
 have c:=aW a h;have d:=SN a h;omega
def N1(h:a≠0):(a.sign != 0)=true:=by
 simp only[bne_iff_ne,yL];rw[iA];exact h
def Ms{b:Int}:mF a b=mF b (a%b):=by
 have c:a%b=a+b*(-(a/b)):=by rw[QJ];grind
 rw[Int.gcd_comm b,c,Int.gcd_add_mul_left_left]
def N8{b:Int}(u:nb a k)(v:nb b k)(C:k<=536870912):PF 262 [ϱ a,ϱ b] (ϱ (mF a b)):=by
 refine iy func262 ntmps262 results262 ?_;simp -dsimp only[go_sem];refine ax.intro fun I J=>?_
 try simp -dsimp only[go_sem]
 refine ax.intro fun K D=>?_;have n3_2:=(af D).1
 try simp -dsimp only[go_sem]
 refine ax.intro fun w z=>?_;have n4_3:=(af z).1;have n4_2:=(af (af z).2).1;simp -dsimp only[go_sem];refine aN 6 kr ?_
 simp -dsimp only[go_sem,ai n3_2,ai n4_2,ai n4_3];refine⟨_,(yJ u om).pure',_,(yJ v om).pure',?_⟩;refine ax.intro fun A h=>?_;have n5_4:=(af h).1;have n5_3:=(af (af h).2).1;have n5_2:=(af (af (af h).2).2).1
 try simp -dsimp only[go_sem]
 refine ax.intro fun i f=>?_;have n6_5:=(af f).1;have n6_4:=(af (af f).2).1;have n6_3:=(af (af (af f).2).2).1;have n6_2:=(af (af (af (af f).2).2).2).1;simp only[go_sem,nn n6_5];refine aC (fun O S=>∃x y:Int,nb x k/\nb y k/\0<=x/\0<=y/\mF x y=mF a b/\O 4=ϖ w 0/\O 5=ϖ A 0/\O 6=ϖ i 0/\cS S w 50 2 (ϱ 0)/\cS S A 50 2 (ϱ x)/\cS S i 50 2 (ϱ y)) (fun O S=>match S i with|some X=>(match X.g 0 with|.big y=>y.natAbs|_=>0)|ae=>0) ?_ ?_
 .simp only[go_sem];exact⟨a.natAbs,nb.of_le sm u,b.natAbs,nb.of_le sm v,om,om,by simp[mF],((((cS.new rfl).upd (ai n5_4) _).upd (ai n6_4) _).upd (ai n5_4) _).upd (ai n6_4) _,cS.set.upd (ai n6_5) _,cS.set⟩
 .rintro O S ⟨x,y,E,d,L,F,B,j,l,m,V4,V5,V6⟩;obtain⟨G,n,H⟩:=V4;obtain⟨M,o,p⟩:=V5;obtain⟨N,q,e⟩:=V6;by_cases c:y=0
  .simp -dsimp only[go_sem,m,q,e];refine(jQ d om).call ?_;simp only[go_sem,j,l,n,o,p,e,c,ph,aL];have r:((mF a b:Nat):Int)=x:=by rw[<-B,c,Int.gcd_zero];omega
   rw[r];exact VR.mf rfl
  .simp -dsimp only[go_sem,m,q,e];refine(jQ d om).call ?_;simp -dsimp only[go_sem,j,l,n,o,p,e,N1 c,aL];refine aN 4 kr ?_
   simp only[go_sem,j,l,m,o,q,p,e,n6_5,aL];refine⟨_,(IL E d C c).pure',?_⟩;simp only[go_sem];have s:=Aa (a:=x) c;have t:=aW x c;exact⟨⟨y,d,x%y,nb.of_le om d,F,t,by rw[<-Ms];exact B,(cS.upd ⟨G,n,H⟩ (ai n5_4) _).upd (ai n6_4) _,cS.set.upd (ai n6_5) _,cS.set⟩,s⟩

def cN(e es:Nat)(S0 S:St)(x:AV)(j:Nat)(g:Nat->AV):Prop:=dh S0 S/\((j=0/\x=.nil)∨∃c,S0 c=ae/\x=.sl es c 0 j/\aY S c e es j g)
def dV(x:AV)(d:Nat):Prop:=∃es off len,x=.sl es d off len
def cN.nil{e:Nat}(h:dh S0 S)(g:Nat->AV):cN e es S0 S .nil 0 g:=⟨h,a6 ⟨rfl,rfl⟩⟩
def cN.congr{e:Nat}{g:Nat->AV}(h:cN e es S0 S x j g)(a:∀i,i<j->g i=g' i):cN e es S0 S x j g':=by
 refine⟨h.1,h.2.imp id ?_⟩;rintro⟨c,b,d,f⟩;exact⟨c,b,d,f.congr a⟩
def cN.step{e:Nat}{g:Nat->AV}(h:cN e es S0 S x j g)(b:dh S0 S')(f:∀d,dV x d->S' d=S d):cN e es S0 S' x j g:=by
 refine⟨b,h.2.imp id ?_⟩;rintro⟨c,i,a,g',k,l⟩;exact⟨c,i,a,g',by rw[f c ⟨_,_,_,a⟩];exact k,l⟩
def cN.upd{e:Nat}{g:Nat->AV}(h:cN e es S0 S x j g){b:Nat}(a:S0 b=ae)(c:∀d,dV x d->d≠b)(X:eA):cN e es S0 (S.upd b X) x j g :=
 h.step (h.1.upd a X) (fun d f=>aE (c d f))
def cN.fresh{e:Nat}{g:Nat->AV}(h:cN e es S0 S x j g){b:Nat}(i:S b=ae):∀d,dV x d->d≠b:=by
 rintro d ⟨es',off,len,a⟩ rfl;rcases h.2 with⟨_,f⟩|⟨c,_,f,k⟩
 .rw[f]at a;cases a
 .rw[f]at a;cases a;exact aY.fresh k i rfl
def cN.app{t e:Nat}{v:AV}{g:Nat->AV}(I:dQ t=some e)(J:(fZ e).isSome=true)(u:es=cg e)(h:cN e es S0 S x j g)(O:j<1000000)(L:dY es v)
  (M:(∃h,y=.lst es 1 h/\h 0=v)∨∃b gb ty,y=.sl es b 0 1/\S b=some ⟨ty,es,1,gb⟩/\gb 0=v/\¬dV x b)
  (G:∀c S',cN e es S0 S' (.sl es c 0 (j+1)) (j+1) (fun i=>if i=j then v else g i)->(∀d X,S d=some X->¬dV x d->S' d=some X)->(dV x c∨S c=ae)->K (.sl es c 0 (j+1)) S'):gE t t x y S K:=by
 unfold gE;rw[I];refine⟨rfl,J,?_⟩;have l:∃w o,DF S y=some (es,1,w,o)/\w 0=v/\(∀d,dV x d->o≠some d):=by
  rcases M with⟨h,rfl,N⟩|⟨b,gb,ty,rfl,z,m,A⟩
  .exact⟨_,_,rfl,N,fun d _=>by simp⟩
  .refine⟨fun j=>gb (0+j),some b,by simp[DF,z],m,fun d f e=>?_⟩
   cases e;exact A f
 obtain⟨w,o,z,m,A⟩:=l;rw[z];refine⟨u,om,fun i H=>by rw[(om:i=0),m];exact L,?_⟩
 rcases h.2 with⟨rfl,rfl⟩|⟨c,n,rfl,g',B,C⟩
 .refine⟨om,fun b r=>G _ _ ⟨h.1.upd (h.1.none r) _,aQ ⟨b,h.1.none r,rfl,aY.here fun i H=>?_⟩⟩ (fun d X f _=>?_) (aQ r)⟩
  .obtain rfl:i=0:=om
   simp[m]
  .rw[aE];exact f;rintro rfl;rw[r]at f;cases f
 .simp only[B];refine⟨trivial,trivial,trivial,trivial,trivial,om,A c ⟨_,_,_,rfl⟩,fun b' a=>G _ _ ⟨?_,aQ ⟨b',?_,rfl,aY.here fun i H=>?_⟩⟩ (fun d X f D=>?_) ?_⟩
  .intro k X s;have p:k≠c:=by rintro rfl;rw[n]at s;cases s
   have E:k≠b':=by
    rintro rfl;rcases a with rfl|a
    .exact p rfl
    .rw[h.1 k X s]at a;cases a
   rw[aE E];simp only[St.del];rw[ah p];exact h.1 k X s
  .rcases a with rfl|a
   .exact n
   .exact h.1.none a
  .by_cases e:i=j
   .subst e;rw[yT (ag _) om,bR,m,aj rfl]
   .rw[DZ om,ah e];exact C i om
  .have q:d≠c:=fun e=>D (by rw[e];exact⟨_,_,_,rfl⟩)
   have F:d≠b':=by
    rintro rfl;rcases a with rfl|a
    .exact q rfl
    .rw[f]at a;cases a
   rw[aE F];simp only[St.del];rw[ah q];exact f
  .rcases a with rfl|a
   .exact a6 ⟨_,_,_,rfl⟩
   .exact aQ a
def cN.app50{v:AV}{g:Nat->AV}(h:cN 50 2 S0 S x j g)(a:j<1000000)(e:dY 2 v)(f:(∃h,y=.lst 2 1 h/\h 0=v)∨∃b gb ty,y=ϕ b 0 1/\S b=some ⟨ty,2,1,gb⟩/\gb 0=v/\¬dV x b)
  (k:∀c S',cN 50 2 S0 S' (ϕ c 0 (j+1)) (j+1) (fun i=>if i=j then v else g i)->(∀d X,S d=some X->¬dV x d->S' d=some X)->(dV x c∨S c=ae)->K (ϕ c 0 (j+1)) S'):gE 59 59 x y S K:=cN.app rfl rfl rfl h a e f k
def cN.app2{v:AV}{g:Nat->AV}(h:cN 2 1 S0 S x j g)(a:j<1000000)(e:dY 1 v)(f:(∃h,y=.lst 1 1 h/\h 0=v)∨∃b gb ty,y=ϑ b 0 1/\S b=some ⟨ty,1,1,gb⟩/\gb 0=v/\¬dV x b)
  (k:∀c S',cN 2 1 S0 S' (ϑ c 0 (j+1)) (j+1) (fun i=>if i=j then v else g i)->(∀d X,S d=some X->¬dV x d->S' d=some X)->(dV x c∨S c=ae)->K (ϑ c 0 (j+1)) S'):gE 29 29 x y S K:=cN.app rfl rfl rfl h a e f k
def cN.app3{v:AV}{g:Nat->AV}(h:cN 3 1 S0 S x j g)(a:j<1000000)(e:dY 1 v)(f:(∃h,y=.lst 1 1 h/\h 0=v)∨∃b gb ty,y=ϑ b 0 1/\S b=some ⟨ty,1,1,gb⟩/\gb 0=v/\¬dV x b)
  (k:∀c S',cN 3 1 S0 S' (ϑ c 0 (j+1)) (j+1) (fun i=>if i=j then v else g i)->(∀d X,S d=some X->¬dV x d->S' d=some X)->(dV x c∨S c=ae)->K (ϑ c 0 (j+1)) S'):gE 146 146 x y S K:=cN.app rfl rfl rfl h a e f k
def cN.app59{v:AV}{g:Nat->AV}(h:cN 59 1 S0 S x j g)(a:j<1000000)(e:dY 1 v)(f:(∃h,y=.lst 1 1 h/\h 0=v)∨∃b gb ty,y=ϑ b 0 1/\S b=some ⟨ty,1,1,gb⟩/\gb 0=v/\¬dV x b)
  (k:∀c S',cN 59 1 S0 S' (ϑ c 0 (j+1)) (j+1) (fun i=>if i=j then v else g i)->(∀d X,S d=some X->¬dV x d->S' d=some X)->(dV x c∨S c=ae)->K (ϑ c 0 (j+1)) S'):gE 52 52 x y S K:=cN.app rfl rfl rfl h a e f k
def cN.app29{v:AV}{g:Nat->AV}(h:cN 29 1 S0 S x j g)(a:j<1000000)(e:dY 1 v)(f:(∃h,y=.lst 1 1 h/\h 0=v)∨∃b gb ty,y=ϑ b 0 1/\S b=some ⟨ty,1,1,gb⟩/\gb 0=v/\¬dV x b)
  (k:∀c S',cN 29 1 S0 S' (ϑ c 0 (j+1)) (j+1) (fun i=>if i=j then v else g i)->(∀d X,S d=some X->¬dV x d->S' d=some X)->(dV x c∨S c=ae)->K (ϑ c 0 (j+1)) S'):gE 28 28 x y S K:=cN.app rfl rfl rfl h a e f k
def cN.other{e:Nat}{g:Nat->AV}(h:cN e es S0 S x j g){b ty es' n:Nat}{g':Nat->AV}(f:S b=some ⟨ty,es',n,g'⟩)(i:ty≠e):¬dV x b:=by
 rintro⟨_,_,_,a⟩;rcases h.2 with⟨_,d⟩|⟨c,_,d,k⟩
 .rw[d]at a;cases a
 .rw[d]at a;cases a;exact aY.ne k (aY.of f) (ai i) rfl
def aY.via{g:Nat->AV}(h:aY S b ty es n g)(a:∀X,S b=some X->S' b=some X):aY S' b ty es n g:=by
 obtain⟨g',c,d⟩:=h;exact⟨g',a _ c,d⟩
def dP{off len:Nat}:dV (.sl es b off len) d↔d=b:=⟨fun⟨_,_,_,e⟩=>by cases e;rfl,fun e=>by rw[e];exact⟨_,_,_,rfl⟩⟩
def En(n m:Nat)(A:Nat->Nat->Int)(k:Nat)(h2:n<=1000)(h3:1<=m)(h4:m<=1000)(Q:∀i j,i<n->j<m->nb (A i j) k)(R:k<=8589934592):MF 63 [aP n m A] n m A:=by
 refine MF.of ?_;refine jg func63 ntmps63 results63 ?_;simp -dsimp only[go_sem,aP,bn]
 repeat refine an ?_
 refine ax.intro fun l f3=>?_;simp only[go_sem];refine aC (fun O S=>∃(i:Nat) (g:Nat->Nat),i<=n/\O 0=aP n m A/\O 3=ϑ l 0 n/\O 11=ι n/\O 12=ι i /\
  aY S l 59 1 n (fun a=>if a<i then ϕ (g a) 0 m else .nil)/\(∀a,a<i->iY S (g a) m (A a))/\∀a c,a<i->c<i->g a=g c->a=c) (fun O S=>n-bO (O 12)) ?_ ?_
 .simp only[go_sem,aP,bn];exact⟨0,om,rfl,fun _=>0,aY.here fun _ _=>by simp,fun a b=>om,fun a c b=>om⟩
 .rintro O S ⟨i,g,hi,T,L,B,C,s,q,U⟩;by_cases o:i<n
  .simp only[*,go_sem,aP,bn];refine aC (fun O S'=>∃(j:Nat) (x:AV),j<=m/\O 0=aP n m A/\O 3=ϑ l 0 n/\O 4=ι i/\O 11=ι n/\O 12=ι i/\O 18=bn m (A i)/\O 19=ι m/\O 20=ι j /\
    aY S' l 59 1 n (fun a=>if a<i then ϕ (g a) 0 m else if a=i then x else .nil)/\(∀a,a<i->iY S' (g a) m (A a)/\¬dV x (g a))/\cN 50 2 St.none S' x j (fun c=>ϱ (A i c))) (fun O S=>m-bO (O 20)) ?_ ?_
   .simp only[*,go_sem,aP,bn];exact⟨0,om,rfl,.nil,s.congr fun a _=>by grind,fun a b=>⟨q a b,by rintro⟨_,_,_,e⟩;cases e⟩,cN.nil (fun k X h=>by cases h) _⟩
   .rintro O S' ⟨j,x,hj,T,L,V,B,C,W,Y,Z,s,q,r⟩;by_cases D:j<m
    .simp -dsimp only[*,go_sem,aP,bn];refine ax.intro fun E F=>?_;obtain⟨g1,t,M⟩:=s;have G:g1 i=x:=by rw[M i o];simp
     have p:l≠E:=aY.fresh (aY.of t) F;simp -dsimp only[go_sem];refine fm 9 kr ?_
     simp -dsimp only[go_sem,L,V,o,p,t,G,aL]
     repeat refine an ?_
     refine⟨_,(EU (Q i j o D) R).pure',?_⟩;simp -dsimp only[go_sem];have u:∀d,dV x d->d≠E:=r.fresh F;have H:=r.other t om;refine cN.app50 ((r.upd (by rfl) u _).upd (by rfl) u _) om (show dY 2 (ϱ (A i j))from trivial) (a6 ⟨_,rfl,rfl⟩) ?_
     intro c S2 v w y;have I:=w l _ (by rw[aE p,aE p];exact t) H
     simp only[*,go_sem,aP,bn,aF (om:j<1000000),bO]
     repeat refine an ?_
     refine⟨⟨j+1,om,rfl,ϕ c 0 (j+1),aY.here fun a b=>?_,fun a b=>?_,?_⟩,om⟩
     .have:=M a b;grind [aL]
     .obtain⟨z,N⟩:=q a b;have f:g a≠E:=aY.fresh z F;have J:g a≠l:=aY.ne z (aY.of t) om;refine⟨(z.via fun X r=>w _ _ (by rw[aE f,aE f];exact r) N).upd J _,fun P=>?_⟩
      rw[dP]at P;rw[<-P]at y;rcases y with h|h
      .exact N h
      .rw[aE f,aE f]at h;exact aY.fresh z h rfl
     .refine(v.upd (by rfl) (fun d K e=>?_) _).congr (fun a b=>by grind)
      rw[e]at K;exact v.other I om K
    .simp only[*,go_sem,aP,bn,aF (om:i<1000000),bO]
     obtain rfl:j=m:=om
     rcases r.2 with⟨h0,_⟩|⟨c,_,rfl,hC⟩
     .omega
     refine⟨⟨i+1,om,rfl,fun a=>if a=i then c else g a,s.congr fun a b=>by grind,fun a b=>?_,fun a d b K e=>?_⟩,om⟩
     .by_cases e:a=i
      .subst e;simp only[aH];exact hC
      .simp only[e,aI];exact(q a om).1
     .have k1:=fun a b=>(q a b).2;simp only[dP]at k1
      grind
  .simp only[*,go_sem,aP,bn];obtain rfl:i=n:=om
   exact⟨l,rfl,g,s.congr fun a b=>by simp[b],q,U⟩

def dh.noneS(S:St):dh St.none S:=fun k X h=>by cases h
def wY(n m p q:Nat)(A:Nat->Nat->Int)(ρ γ:Nat->Nat)(v:1<=p)(E:p<=1000)(h3:1<=q)(h4:q<=1000)(hρ:∀i,i<p->ρ i<n)(hγ:∀i,i<q->γ i<m):MF 143 [aP n m A,aK p (fun i=>ρ i),aK q (fun i=>γ i)] p q (fun i j=>A (ρ i) (γ j)):=by
 refine MF.of ?_;refine jg func143 ntmps143 results143 ?_;simp only[go_sem,aP,bn,aK];refine aC (fun O S=>∃(i:Nat) (x:AV) (g:Nat->Nat),i<=p/\O 0=aP n m A/\O 2=aK q (fun i=>γ i)/\O 7=x/\O 13=aK p (fun i=>ρ i)/\O 14=ι p/\O 15=ι i /\
  cN 59 1 St.none S x i (fun a=>ϕ (g a) 0 q)/\(∀a,a<i->iY S (g a) q (fun j=>A (ρ a) (γ j)))/\∀a c,a<i->c<i->g a=g c->a=c) (fun O S=>p-bO (O 15)) ?_ ?_
 .simp only[go_sem,aP,bn,aK];exact⟨0,om,rfl,fun _=>0,cN.nil (dh.noneS _) _,fun a f=>om,fun a c f=>om⟩
 .rintro O S ⟨i,x,g,hi,Z,L,M,r,s,t,b,w,hI⟩;by_cases z:i<p
  .have hρi:=hρ i z;simp only[go_sem,aP,bn,aK,L,M,r,s,t,z];refine aC (fun O S'=>∃(j:Nat) (y:AV),j<=q/\O 0=aP n m A/\O 2=aK q (fun i=>γ i)/\O 7=x/\O 9=ι (ρ i)/\O 10=y/\O 13=aK p (fun i=>ρ i)/\O 14=ι p/\O 15=ι i/\O 19=aK q (fun i=>γ i)/\O 20=ι q/\O 21=ι j /\
    cN 59 1 St.none S' x i (fun a=>ϕ (g a) 0 q)/\(∀a,a<i->iY S' (g a) q (fun j=>A (ρ a) (γ j))/\¬dV y (g a))/\cN 50 2 St.none S' y j (fun c=>ϱ (A (ρ i) (γ c)))/\∀d,dV x d->¬dV y d) (fun O S=>q-bO (O 21)) ?_ ?_
   .simp only[go_sem,aP,bn,aK,Z,L,M,r,s,t];exact⟨0,om,rfl,b,fun a f=>⟨w a f,by rintro⟨_,_,_,e⟩;cases e⟩,cN.nil (dh.noneS _) _,fun d _=>by rintro⟨_,_,_,e⟩;cases e⟩
   .rintro O S' ⟨j,y,hj,Z,L,M,e9,e10,r,s,t,e19,e20,e21,b,w,P,B⟩;by_cases Q:j<q
    .have hγj:=hγ j Q;simp -dsimp only[*,go_sem,aP,bn,aK];refine ax.intro fun G C=>?_;simp -dsimp only[*,go_sem,aP,bn];have H:=P.fresh C;have k:=b.fresh C;refine cN.app50 (P.upd (by rfl) H _) om (show dY 2 (ϱ (A (ρ i) (γ j)))from trivial) (aQ ⟨_,_,_,rfl,bW,rfl,fun h=>H _ h rfl⟩) ?_
     intro c S2 R l u;simp only[*,go_sem,aP,bn,aK,aF (om:j<1000000),bO]
     have kx:∀d,dV x d->d≠G/\¬dV y d:=fun d o=>⟨k d o,B d o⟩;refine⟨⟨j+1,om,rfl,?_,fun a f=>?_,R.congr fun a f=>by grind,fun d o he=>?_⟩,om⟩
     .refine b.step (dh.noneS _) (fun d o=>?_)
      cases hS:S' d with
      | none =>
       exfalso;obtain⟨_,_,_,e⟩:=o;rcases b.2 with⟨_,v⟩|⟨c,_,v,g',E,_⟩
       .rw[v]at e;cases e
       .rw[v]at e;cases e;rw[hS]at E;cases E
      | some X=>exact l d X (by rw[aE (kx d o).1];exact hS) (kx d o).2
     .obtain⟨F,r2⟩:=w a f;have I:g a≠G:=aY.fresh F C;refine⟨F.via fun X b=>l _ _ (by rw[aE I];exact b) r2,fun hb=>?_⟩
      rw[dP]at hb;rw[<-hb]at u;rcases u with h|h
      .exact r2 h
      .rw[aE I]at h;exact aY.fresh F h rfl
     .rw[dP]at he;subst he;rcases u with h|h
      .exact B d o h
      .rw[aE (k d o)]at h;obtain⟨_,_,_,e⟩:=o;rcases b.2 with⟨_,v⟩|⟨c,_,v,g',E,_⟩
       .rw[v]at e;cases e
       .rw[v]at e;cases e;rw[h]at E;cases E
    .obtain rfl:j=q:=om
     rcases P.2 with⟨h0,_⟩|⟨c,_,rfl,N⟩
     .omega
     simp -dsimp only[*,go_sem,aP,bn,aK];refine ax.intro fun J D=>?_;simp -dsimp only[*,go_sem];have k:=b.fresh D;refine cN.app59 (b.upd (by rfl) k _) om (show dY 1 (ϕ c 0 j)from trivial) (aQ ⟨_,_,_,rfl,bW,rfl,fun h=>k _ h rfl⟩) ?_
     intro d S2 T l u;have K:c≠J:=aY.fresh N D;have U:¬dV x c:=fun h=>B c h (dP.2 rfl);simp only[*,go_sem,aP,bn,aK,aF (om:i<1000000),bO]
     refine⟨⟨i+1,om,rfl,fun a=>if a=i then c else g a,T.congr fun a f=>by grind,fun a f=>?_,fun a d f o e=>?_⟩,om⟩
     .by_cases e:a=i
      .subst e;simp only[aH];exact N.via fun X b=>l _ _ (by rw[aE K];exact b) U
      .simp only[e,aI];have F:=(w a om).1;have V:g a≠J:=aY.fresh F D;obtain⟨gg,W,_⟩:=F;exact(w a om).1.via fun X Y=>l _ _ (by rw[aE V];exact Y) (b.other W om)
     .have k1:=fun a f=>(w a f).2;simp only[dP]at k1
      grind
  .simp only[go_sem,aP,bn,aK,L,M,r,s,t,z];obtain rfl:i=p:=om
   rcases b.2 with⟨h0,_⟩|⟨c,_,rfl,N⟩
   .omega
   exact⟨c,rfl,g,N,w,hI⟩

theorem lw{k:Nat}:∀(m:Nat) (M:az),m<=16->(∀a b,a<m->b<m->nb (M a b) k)->nb (det m M) (m*(k+10)+1)
 | 0,M,_,_=>by simp only[det];exact nb.one om
 | m+1,M,l,h=>by
  simp only[det];have d:∀j,j<m+1->nb (mY j*M 0 j*det m (cut M j)) (k+(m*(k+10)+1)):=by
   intro j e;have f:=lw m (cut M j) om (fun a b n g=>h _ _ om (mb g));have c:=(h 0 j om e).mul f;unfold nb at c ⊢;have:(mY j*M 0 j*det m (cut M j)).natAbs=(M 0 j*det m (cut M j)).natAbs:=by
    unfold mY;split
    .rw[cU]
    .rw[fu];simp
   rw[this];exact c
  have i:=z9 d om (m+1) (ag _);refine i.mono ?_;rw[cj];omega
def lu{Y:eA}:(S.upd b X).upd b Y=S.upd b Y:=by
 funext k;simp only[St.upd];split<;>rfl
def dr.upd(h:dr S b g n m A){c:Nat}(d:b≠c)(e:∀i,i<n->g i≠c)(X:eA):dr (S.upd c X) b g n m A :=
 ⟨h.outer.upd d X,fun i a=>(h.row i a).upd (e i a) X,h.inj⟩
def dr.swap(h:dr S b g n m A){p k:Nat}(v:p<n)(w:k<n)(r:p≠k){f:Nat->AV}(l:S b=some ⟨59,1,n,f⟩) :
  dr (S.upd b ⟨59,1,n,aL (aL f p (ϕ (g k) 0 m)) k (ϕ (g p) 0 m)⟩) b (fun i=>g (dq k p i)) n m (fun i j=>A (dq k p i) j):=by
 obtain⟨g',o,s⟩:=h.outer;rw[l]at o;cases o;have c:∀i,i<n->dq k p i<n:=fun i a=>by unfold dq;split<;>(try split)<;>omega
 refine⟨aY.here fun i a=>?_,fun i a=>(h.row _ (c i a)).upd (fun e=>?_) _,fun i j a t e=>?_⟩
 .have:=s i a;simp only[aL,dq];by_cases d:i=k
  .subst d;simp
  .by_cases q:i=p
   .subst q;simp[d]
   .simp[d,q,this]
 .exact aY.ne (aY.of l) (h.row _ (c i a)) om e.symm
 .have u:=h.inj _ _ (c i a) (c j t) e;unfold dq at u
  grind
def jI{A:az}{neg:Bool}(e:n<=16)(c:∀i j,i<n->j<n->nb (A i j) k0)(d:ma A n σ neg k){i j:Nat}(f:k+i<n)(g:k+j<n):nb (cl (fun a b=>A (σ a) b) k i j) (17*(k0+10)):=by
 refine(lw (k+1) _ om (fun a b h l=>c _ _ (d.row _ ?_) ?_)).mono ?_
 .rw[kf];split<;>omega
 .rw[kf];split<;>omega
 .have:(k+1)*(k0+10)<=16*(k0+10):=aq _ om;omega
def BM(A:az)(n b b2 b5:Nat)(S:St)(k:Nat)(neg:Bool)(Q:(Nat->Nat)->(Nat->Nat->Int)->Prop):Prop:=∃(g σ:Nat->Nat) (B:Nat->Nat->Int),ma A n σ neg k/\dr S b g n n B/\(∀i,i<n->g i≠b2/\g i≠b5)/\cS S b2 50 2 (ϱ 0)/\cS S b5 50 2 (ϱ (det k (fun a c=>A (σ a) c)))/\Q σ B
def Nb(A:az)(n k:Nat)(σ:Nat->Nat)(B:Nat->Nat->Int):Prop:=∀i j,k<=i->i<n->k<=j->j<n->B i j=cl (fun a c=>A (σ a) c) k (i-k) (j-k)
def StgP(A:az)(n k p:Nat)(σ:Nat->Nat)(B:Nat->Nat->Int):Prop:=Nb A n k σ B/\∀i,k<=i->i<p->B i k=0
def Ia(A:az)(n k i j:Nat)(σ:Nat->Nat)(B:Nat->Nat->Int):Prop:=cl (fun a c=>A (σ a) c) k 0 0≠0/\∀a c,k<=a->a<n->k<=c->c<n->B a c=if k<a/\k<c/\(a<i∨(a=i/\c<j))then cl (fun a c=>A (σ a) c) (k+1) (a-(k+1)) (c-(k+1))else cl (fun a c=>A (σ a) c) k (a-k) (c-k)
def io(n:Nat)(A:az)(E:Nat)(h1:1<=n)(M:n<=16)(N:∀i j,i<n->j<n->nb (A i j) E)(hk:E<=10000000):PF 26 [aP n n A] (ϱ (det n A)):=by
 refine iy func26 ntmps26 results26 ?_;simp -dsimp only[go_sem];refine ax.intro fun y f2=>?_;simp -dsimp only[go_sem];refine(En n n A E om h1 om N om _ _ (cD _ _)).mono ?_;rintro r S1 ⟨b,g0,rfl,H⟩;simp -dsimp only[go_sem];refine(fA dc dc).call ?_
 simp -dsimp only[go_sem];refine ax.intro fun z f5=>?_;simp only[go_sem];have hb2:y≠b:=fun e=>by have:=H.2.2.1;rw[<-e,bW]at this;cases this
 have hg2:∀i,i<n->g0 i≠y:=fun i h e=>by have:=H.2.2.2 i h;rw[e,bW]at this;cases this
 have Y:y≠z:=fun e=>by have:=H.2.1 y _ bW;rw[e,f5]at this;cases this
 have Q:b≠z:=aY.fresh H.1.outer f5;have hg5:∀i,i<n->g0 i≠z:=fun i h=>aY.fresh (H.1.row i h) f5;refine aC (fun O S=>∃(k:Nat) (neg:Bool),k<=n/\O 2=ϖ y 0/\O 3=ϑ b 0 n/\O 4=ι n/\O 5=ϖ z 0/\O 6=.bool neg/\O 7=ι k/\BM A n b y z S k neg (Nb A n k)) (fun O S=>n-bO (O 7)) ?_ ?_
 .simp only[go_sem];refine⟨0,om,false,rfl,rfl,g0,id,A,ma.init A n,(H.1.upd Q hg5 _).upd Q hg5 _,fun i h=>⟨hg2 i h,hg5 i h⟩,?_,cS.set,fun i j _ _ _ _=>by rw[eV];rfl⟩
  exact(cS.upd ⟨_,H.2.1 y _ bW,rfl⟩ Y _).upd Y _
 .rintro O S ⟨k,neg,hkn,s,I,F,J,G,C,x⟩;by_cases d:k<n
  .simp only[*,go_sem,aa];refine aC (fun O S=>∃p:Nat,k<=p/\p<=n/\O 2=ϖ y 0/\O 3=ϑ b 0 n/\O 4=ι n/\O 5=ϖ z 0/\O 6=.bool neg/\O 7=ι k/\O 8=ι p/\BM A n b y z S k neg (StgP A n k p)) (fun O S=>n-bO (O 8)) ?_ ?_
   .simp only[*,go_sem];obtain⟨g,σ,B,f,l,t,V2,V5,m⟩:=x;exact⟨k,om,om,rfl,g,σ,B,f,l,t,V2,V5,m,fun i h1 M=>om⟩
   .clear x;rintro O S ⟨p,hkp,hpn,s,I,F,J,G,C,e8,x⟩;by_cases Z:p<n
    .obtain⟨g,σ,B,f,l,t,V2,V5,m,hZ⟩:=x;obtain⟨g1,P,L⟩:=l.outer;obtain⟨g2,u2,v2⟩:=l.row p Z;have v1':=L p Z;have v2':=v2 k d;have hbp:=jI M N f (i:=p-k) (j:=0) om om;have D:=m p k hkp Z (ag _) d;rw[bR]at D;rw[<-D]at hbp;simp -dsimp only[go_sem,aa,I,F,C,e8,Z,d,P,u2,v1',v2'];refine(jQ hbp om).call ?_;by_cases h0:B p k=0
     .simp -dsimp only[go_sem,aa,s,I,F,J,G,C,e8,Z,h0,ph,aF (om:p<1000000),bO]
      refine⟨⟨p+1,om,om,rfl,g,σ,B,f,l,t,V2,V5,m,fun i h1 M=>?_⟩,om⟩
      by_cases e:i=p
      .rw[e];exact h0
      .exact hZ i h1 om
     .have hs0:((B p k).sign==0)=false:=by
       simp only[fW,yL];rw[iA];exact h0
      have hpn':((p:Int)==n)=false:=by simp;omega
      simp -dsimp only[go_sem,aa,s,I,F,J,G,C,e8,Z,hs0,hpn'];by_cases R:k<p
      .obtain⟨g3,u3,X⟩:=l.row k d;have v3':=L k d;have v1'':g1 p=ϕ (g p) 0 n:=v1';have v3'':g1 k=ϕ (g k) 0 n:=v3';simp -dsimp only[go_sem,R];refine fm 13 kr ?_
       simp only[go_sem,aa,I,G,C,e8,Z,d,P,v1'',v3'',aF (om:k<1000000)]
       have T:BM A n b y z ((S.upd b ⟨59,1,n,aL g1 p (ϕ (g k) 0 n)⟩).upd b ⟨59,1,n,aL (aL g1 p (ϕ (g k) 0 n)) k (ϕ (g p) 0 n)⟩) k (!neg) (Ia A n k (k+1) (k+1)):=by
        rw[lu];have hs:∀i,i<n->dq k p i<n:=fun i h=>by unfold dq;split<;>(try split)<;>omega
        refine⟨_,fun a=>σ (dq k p a),_,f.swap R Z,l.swap Z d om P,fun i h=>t _ (hs i h),V2.upd hb2 _,?_,?_,fun a c v o u q=>?_⟩
        .have e:=tR (n:=k) (fun a c=>A (σ a) c) (i:=k) (k:=p) om om;rw[e];exact V5.upd (ai Q) _
        .have e:=tQ (k:=k) (p:=p) (fun a c=>A (σ a) c) hkp 0 0;rw[e,show dq 0 (p-k) 0=p-k by simp[dq],<-D];exact h0
        .rw[ah om];have e:=tQ (k:=k) (p:=p) (fun a c=>A (σ a) c) hkp (a-k) (c-k);show B (dq k p a) c=_;rw[e,m (dq k p a) c (by unfold dq;split<;>(try split)<;>omega) (hs a o) u q]
         congr 1;unfold dq;split<;>(try split)<;>(try split)<;>(try split)<;>omega
       refine aC (fun O S=>∃i:Nat,k+1<=i/\i<=n/\O 2=ϖ y 0/\O 3=ϑ b 0 n/\O 4=ι n/\O 5=ϖ z 0/\O 6=.bool (!neg)/\O 7=ι k/\O 9=ι i/\BM A n b y z S k (!neg) (Ia A n k i (k+1))) (fun O S=>n-bO (O 9)) ?_ ?_
       .simp only[*,go_sem];exact⟨k+1,om,om,rfl,T⟩
       .clear T s I F J G C e8 P u2 L v2 v1' v2' l V2 V5 t f;rintro O S ⟨i,hki,hin,s,I,F,J,G,C,e9,x⟩;by_cases h:i<n
        .simp only[*,go_sem,aa,aF (om:k<1000000)]
         refine aC (fun O S=>∃j:Nat,k+1<=j/\j<=n/\O 2=ϖ y 0/\O 3=ϑ b 0 n/\O 4=ι n/\O 5=ϖ z 0/\O 6=.bool (!neg)/\O 7=ι k/\O 9=ι i/\O 10=ι j/\BM A n b y z S k (!neg) (Ia A n k i j)) (fun O S=>n-bO (O 10)) ?_ ?_
         .simp only[*,go_sem];exact⟨k+1,om,om,rfl,x⟩
         .clear x;rintro O S ⟨j,hkj,hjn,s,I,F,J,G,C,e9,e10,x⟩;by_cases U:j<n
          .obtain⟨g,σ,B,f,l,t,V2,V5,w,m⟩:=x;obtain⟨g1,P,L⟩:=l.outer;obtain⟨g2,u2,v2⟩:=l.row i h;obtain⟨g3,u3,X⟩:=l.row k d;have w1:=L i h;have w2:=L k d;have w3:=v2 j U;have w4:=v2 k d;have w5:=X j U;have w6:=X k d;obtain⟨gw,uw,vw⟩:=V5;have c1:=m i j om h om U;have c2:=m i k om h (ag _) d;have c3:=m k j (ag _) d om U;have K:=m k k (ag _) d (ag _) d;rw[ah om]at c1 c2 c3 K;rw[bR]at c2 c3 K;have n1:=jI M N f (i:=i-k) (j:=j-k) om om;have n2:=jI M N f (i:=i-k) (j:=0) om om;have n3:=jI M N f (i:=0) (j:=j-k) om om;have n4:=jI M N f (i:=0) (j:=0) om om;rw[<-c1]at n1;rw[<-c2]at n2;rw[<-c3]at n3;rw[<-K]at n4;have n5:nb (det k (fun a c=>A (σ a) c)) (17*(E+10)):=(lw k _ om (fun a c ha hc=>N _ _ (f.row a om) om)).mono (by have:k*(E+10)<=16*(E+10):=aq _ om;omega)
           have V:=ie f.lead (i-k-1) (j-k-1);rw[(om:i-k-1+1=i-k),(om:j-k-1+1=j-k),<-c1,<-c2,<-c3,<-K]at V
           have W:=f.lead k (ag _);have hq:(B k k*B i j-B i k*B k j)/det k (fun a c=>A (σ a) c)=cl (fun a c=>A (σ a) c) (k+1) (i-k-1) (j-k-1):=by
            rw[V,cn _ W]
           simp -dsimp only[*,go_sem,aa];refine aN 39 kr ?_
           simp only[go_sem,aa,s,I,F,J,G,C,e9,e10,h,U,d,P,u2,u3,w1,w2,w3,w4,w5,w6,uw,vw];refine⟨_,(ja n4 n1 om).pure',_,(ja n2 n3 om).pure',_,(tV (n4.mul n1) (n2.mul n3) om).pure',_,(mZ (k:=17*(E+10)+17*(E+10)+1) ((n4.mul n1).sub (n2.mul n3)) (n5.mono om) om W).pure',?_⟩;simp only[go_sem,aF (om:j<1000000),bO]
           rw[hq];refine⟨⟨j+1,om,om,rfl,g,σ,_,f,l.set h u2,t,cS.upd V2 (ai (t i h).1) _,cS.upd ⟨gw,uw,vw⟩ (ai (t i h).2) _,w,fun a c v o u q=>?_⟩,om⟩
           have h3:=m a c v o u q;simp only[dU];by_cases e1:a=i/\c=j
           .obtain⟨rfl,rfl⟩:=e1;rw[aj ⟨rfl,rfl⟩,aj om,mO,mO]
           .rw[ah e1,h3];by_cases s:k<a/\k<c/\(a<i∨a=i/\c<j)
            .rw[aj s,aj om]
            .rw[ah s,ah om]
          .obtain rfl:j=n:=om
           obtain⟨g,σ,B,f,l,t,V2,V5,w,m⟩:=x;simp only[*,go_sem,aa,aF (om:i<1000000),bO]
           refine⟨⟨i+1,om,om,rfl,g,σ,B,f,l,t,V2,V5,w,fun a c v o u q=>?_⟩,om⟩
           rw[m a c v o u q];by_cases s:k<a/\k<c/\(a<i∨a=i/\c<j)
           .rw[aj s,aj om]
           .rw[ah s,ah om]
        .obtain rfl:i=n:=om
         obtain⟨g,σ,B,f,l,t,V2,V5,w,m⟩:=x;obtain⟨g1,P,L⟩:=l.outer;obtain⟨g3,u3,X⟩:=l.row k d;have w2:=L k d;have w6:=X k d;obtain⟨gw,uw,vw⟩:=V5;have K:=m k k (ag _) d (ag _) d;rw[ah om,bR,cH]at K;simp only[go_sem,aa,s,I,F,J,G,C,e9,h,d,P,u3,w2,w6,uw,aF (om:k<1000000),bO]
         refine⟨⟨k+1,om,(!neg),rfl,rfl,g,σ,B,f.step w,l.upd Q (fun i h=>(t i h).2) _,t,V2.upd Y _,?_,fun a c v o u q=>?_⟩,om⟩
         .rw[<-K];exact cS.set
         .rw[m a c om o om q,aj om]
      .obtain rfl:k=p:=om
       simp only[go_sem,aF (om:k<1000000),R]
       have T:BM A n b y z S k neg (Ia A n k (k+1) (k+1)):=by
        refine⟨g,σ,B,f,l,t,V2,V5,?_,fun a c v o u q=>?_⟩
        .rw[bR]at D;rw[<-D];exact h0
        .rw[ah om];exact m a c v o u q
       refine aC (fun O S=>∃i:Nat,k+1<=i/\i<=n/\O 2=ϖ y 0/\O 3=ϑ b 0 n/\O 4=ι n/\O 5=ϖ z 0/\O 6=.bool neg/\O 7=ι k/\O 9=ι i/\BM A n b y z S k neg (Ia A n k i (k+1))) (fun O S=>n-bO (O 9)) ?_ ?_
       .simp only[*,go_sem];exact⟨k+1,om,om,rfl,T⟩
       .clear T s I F J G C e8 P u2 L v2 v1' v2' l V2 V5 t f;rintro O S ⟨i,hki,hin,s,I,F,J,G,C,e9,x⟩;by_cases h:i<n
        .simp only[*,go_sem,aa,aF (om:k<1000000)]
         refine aC (fun O S=>∃j:Nat,k+1<=j/\j<=n/\O 2=ϖ y 0/\O 3=ϑ b 0 n/\O 4=ι n/\O 5=ϖ z 0/\O 6=.bool neg/\O 7=ι k/\O 9=ι i/\O 10=ι j/\BM A n b y z S k neg (Ia A n k i j)) (fun O S=>n-bO (O 10)) ?_ ?_
         .simp only[*,go_sem];exact⟨k+1,om,om,rfl,x⟩
         .clear x;rintro O S ⟨j,hkj,hjn,s,I,F,J,G,C,e9,e10,x⟩;by_cases U:j<n
          .obtain⟨g,σ,B,f,l,t,V2,V5,w,m⟩:=x;obtain⟨g1,P,L⟩:=l.outer;obtain⟨g2,u2,v2⟩:=l.row i h;obtain⟨g3,u3,X⟩:=l.row k d;have w1:=L i h;have w2:=L k d;have w3:=v2 j U;have w4:=v2 k d;have w5:=X j U;have w6:=X k d;obtain⟨gw,uw,vw⟩:=V5;have c1:=m i j om h om U;have c2:=m i k om h (ag _) d;have c3:=m k j (ag _) d om U;have K:=m k k (ag _) d (ag _) d;rw[ah om]at c1 c2 c3 K;rw[bR]at c2 c3 K;have n1:=jI M N f (i:=i-k) (j:=j-k) om om;have n2:=jI M N f (i:=i-k) (j:=0) om om;have n3:=jI M N f (i:=0) (j:=j-k) om om;have n4:=jI M N f (i:=0) (j:=0) om om;rw[<-c1]at n1;rw[<-c2]at n2;rw[<-c3]at n3;rw[<-K]at n4;have n5:nb (det k (fun a c=>A (σ a) c)) (17*(E+10)):=(lw k _ om (fun a c ha hc=>N _ _ (f.row a om) om)).mono (by have:k*(E+10)<=16*(E+10):=aq _ om;omega)
           have V:=ie f.lead (i-k-1) (j-k-1);rw[(om:i-k-1+1=i-k),(om:j-k-1+1=j-k),<-c1,<-c2,<-c3,<-K]at V
           have W:=f.lead k (ag _);have hq:(B k k*B i j-B i k*B k j)/det k (fun a c=>A (σ a) c)=cl (fun a c=>A (σ a) c) (k+1) (i-k-1) (j-k-1):=by
            rw[V,cn _ W]
           simp -dsimp only[*,go_sem,aa];refine aN 39 kr ?_
           simp only[go_sem,aa,s,I,F,J,G,C,e9,e10,h,U,d,P,u2,u3,w1,w2,w3,w4,w5,w6,uw,vw];refine⟨_,(ja n4 n1 om).pure',_,(ja n2 n3 om).pure',_,(tV (n4.mul n1) (n2.mul n3) om).pure',_,(mZ (k:=17*(E+10)+17*(E+10)+1) ((n4.mul n1).sub (n2.mul n3)) (n5.mono om) om W).pure',?_⟩;simp only[go_sem,aF (om:j<1000000),bO]
           rw[hq];refine⟨⟨j+1,om,om,rfl,g,σ,_,f,l.set h u2,t,cS.upd V2 (ai (t i h).1) _,cS.upd ⟨gw,uw,vw⟩ (ai (t i h).2) _,w,fun a c v o u q=>?_⟩,om⟩
           have h3:=m a c v o u q;simp only[dU];by_cases e1:a=i/\c=j
           .obtain⟨rfl,rfl⟩:=e1;rw[aj ⟨rfl,rfl⟩,aj om,mO,mO]
           .rw[ah e1,h3];by_cases s:k<a/\k<c/\(a<i∨a=i/\c<j)
            .rw[aj s,aj om]
            .rw[ah s,ah om]
          .obtain rfl:j=n:=om
           obtain⟨g,σ,B,f,l,t,V2,V5,w,m⟩:=x;simp only[*,go_sem,aa,aF (om:i<1000000),bO]
           refine⟨⟨i+1,om,om,rfl,g,σ,B,f,l,t,V2,V5,w,fun a c v o u q=>?_⟩,om⟩
           rw[m a c v o u q];by_cases s:k<a/\k<c/\(a<i∨a=i/\c<j)
           .rw[aj s,aj om]
           .rw[ah s,ah om]
        .obtain rfl:i=n:=om
         obtain⟨g,σ,B,f,l,t,V2,V5,w,m⟩:=x;obtain⟨g1,P,L⟩:=l.outer;obtain⟨g3,u3,X⟩:=l.row k d;have w2:=L k d;have w6:=X k d;obtain⟨gw,uw,vw⟩:=V5;have K:=m k k (ag _) d (ag _) d;rw[ah om,bR,cH]at K;simp only[go_sem,aa,s,I,F,J,G,C,e9,h,d,P,u3,w2,w6,uw,aF (om:k<1000000),bO]
         refine⟨⟨k+1,om,neg,rfl,rfl,g,σ,B,f.step w,l.upd Q (fun i h=>(t i h).2) _,t,V2.upd Y _,?_,fun a c v o u q=>?_⟩,om⟩
         .rw[<-K];exact cS.set
         .rw[m a c om o om q,aj om]
    .obtain rfl:p=n:=om
     have hpn':((p:Int)==p)=true:=by simp
     obtain⟨g,σ,B,f,l,t,V2,V5,m,hZ⟩:=x;obtain⟨gv,uv,vv⟩:=V2;simp only[*,go_sem,aa];have hz:det p A=0:=f.zero d (fun i h=>by
      have h3:=m (k+i) k om om (ag _) d;rw[hZ (k+i) om om,bR,(om:k+i-k=i)]at h3
      exact h3.symm)
     rw[hz];exact VR.mf rfl
  .obtain rfl:k=n:=om
   obtain⟨g,σ,B,f,l,t,V2,V5,m⟩:=x;obtain⟨gv,uv,vv⟩:=V2;obtain⟨gw,uw,vw⟩:=V5;have hs:=f.sign;have hbd:nb (det k (fun a c=>A (σ a) c)) (17*(E+10)):=(lw k _ M (fun a c ha hc=>N _ _ (f.row a ha) hc)).mono (by have:k*(E+10)<=16*(E+10):=aq _ M;omega)
   cases neg
   .simp only[dB,aI]at hs;simp only[go_sem,aa,s,F,J,G,C,d,uv,uw,vw,aL];rw[<-hs];exact VR.mf rfl
   .simp only[aH]at hs;simp -dsimp only[go_sem,aa,s,F,J,G,C,d,uv,uw,vw];refine(tW hbd om).call ?_;simp only[go_sem,aa,s,uv,vw,aL];rw[hs,yZ];exact VR.mf rfl

def cN.vr{e:Nat}{g:Nat->AV}(h:cN e es S0 S x j g)(a:∀i,i<j->VR S (g i) (g' i)):VR S x (.lst es j g'):=by
 rcases h.2 with⟨rfl,rfl⟩|⟨c,_,rfl,b⟩
 .exact VR.nil
 .exact VR.sl b om (fun i d=>by rw[aM];exact a i d)
def Ak(k m i:Nat):Nat:=if i<k then i else m
def Fo(k m:Nat)(s:k<=1000)(t:m<=1000):PF 173 [ι k,ι m] (aK (k+1) (fun i=>(Ak k m i:Nat))):=by
 refine iy func173 ntmps173 results173 ?_;simp only[go_sem];refine aC (fun O S=>∃(i:Nat) (x:AV),i<=k/\O 0=ι k/\O 1=ι m/\O 5=x/\O 6=ι i/\cN 3 1 St.none S x i (fun a=>ι a)) (fun O S=>k-bO (O 6)) ?_ ?_
 .simp only[go_sem];exact⟨0,om,rfl,cN.nil (dh.noneS _) _⟩
 .rintro O S ⟨i,x,u,v,w,y,z,f⟩;by_cases o:i<k
  .simp -dsimp only[*,go_sem];refine ax.intro fun p g=>?_;simp -dsimp only[*,go_sem];have b:=f.fresh g;refine cN.app3 (f.upd (by rfl) b _) om (show dY 1 (ι (i:Int)) by simp[dY]) (aQ ⟨_,_,_,rfl,bW,rfl,fun h=>b _ h rfl⟩) ?_
   intro c S2 d j l;simp only[*,go_sem,aF (om:i<1000000),bO]
   exact⟨⟨i+1,om,rfl,d.congr fun a q=>by grind⟩,om⟩
  .obtain rfl:i=k:=om
   simp -dsimp only[*,go_sem];refine ax.intro fun r n=>?_;simp -dsimp only[*,go_sem];have b:=f.fresh n;refine cN.app3 (f.upd (by rfl) b _) om (show dY 1 (ι (m:Int)) by simp[dY]) (aQ ⟨_,_,_,rfl,bW,rfl,fun h=>b _ h rfl⟩) ?_
   intro c S2 d j l;simp only[*,go_sem];refine d.vr (fun a q=>?_);have:(if a=i then ι (m:Int)else ι (a:Int))=ι ((Ak i m a:Nat):Int):=by
    unfold Ak;by_cases e:a=i
    .subst e;simp
    .rw[ah e,aj om]
   rw[this];exact VR.mf rfl
def Jm(A:az)(k i j:Nat):det (k+1) (fun a b=>A (Ak k (k+i) a) (Ak k (k+j) b))=cl A k i j:=by
 unfold cl;exact aZ fun a b _ _=>rfl
def tf(n:Nat)(A:az)(f:Nat)(p:1<=n)(q:n<=16)(r:∀i j,i<n->j<n->nb (A i j) f)(s:f<=10000000):PF 118 [aP n n A] (.tup [bn n (fun k=>det (k+1) A),.bool true]):=by
 refine iy func118 ntmps118 results118 ?_;simp -dsimp only[go_sem,aa];refine(rX n A p q).call ?_;simp only[go_sem];refine aC (fun O S=>∃(i:Nat) (x:AV),i<=n/\O 0=aP n n A/\O 4=ι n/\O 6=x/\O 7=ι i/\cN 50 2 St.none S x i (fun a=>ϱ (det (a+1) A))) (fun O S=>n-bO (O 7)) ?_ ?_
 .simp only[go_sem];exact⟨0,om,rfl,cN.nil (dh.noneS _) _⟩
 .rintro O S ⟨i,x,B,C,D,E,F,g⟩;by_cases t:i<n
  .have e:∀a,a<i+1->Ak i i a<n:=fun a l=>by unfold Ak;split<;>omega
   simp -dsimp only[*,go_sem,aa];refine(Fo i i om om).call ?_;simp -dsimp only[*,go_sem,aa];refine(Fo i i om om).call ?_;simp -dsimp only[*,go_sem,aa];refine(wY n n (i+1) (i+1) A (Ak i i) (Ak i i) om om om om e e).pf.call ?_;simp -dsimp only[*,go_sem,aa];refine(io (i+1) _ f om om (fun a b l u=>r _ _ (e a l) (e b u)) s).call ?_;simp -dsimp only[*,go_sem];refine ax.intro fun v m=>?_;simp -dsimp only[*,go_sem];have d:=g.fresh m;have w:det (i+1) (fun a b=>A (Ak i i a) (Ak i i b))=det (i+1) A:=by
    have:=Jm A i 0 0;rw[cB,cH]at this;exact this
   refine cN.app50 (g.upd (by rfl) d _) om (show dY 2 (ϱ (det (i+1) A))from trivial) (aQ ⟨_,_,_,rfl,bW,by rw[w];rfl,fun h=>d _ h rfl⟩) ?_
   intro c S2 o y z;simp only[*,go_sem,aF (om:i<1000000),bO]
   exact⟨⟨i+1,om,rfl,o.congr fun a l=>by grind⟩,om⟩
  .obtain rfl:i=n:=om
   simp only[*,go_sem,aa];exact VR.tup2 (g.vr fun a _=>VR.mf rfl) (VR.mf rfl)
def si(a:Int):kC a a=0:=by unfold kC;simp
def tP(n:Nat)(A:az)(e:Nat)(r:n<=16)(f:∀i j,i<n->j<n->nb (A i j) e)(s:e<=10000000)(l:∀a b,a<n->b<n->A a b=A b a):PF 116 [aP n n A] (.bool true):=by
 refine iy func116 ntmps116 results116 ?_;simp only[go_sem,aP,bn];refine aC (fun O S=>∃i:Nat,i<=n/\O 0=aP n n A/\O 6=ι n/\O 7=ι i) (fun O S=>n-bO (O 7)) ?_ ?_
 .simp only[go_sem,aP,bn];exact⟨0,om,rfl⟩
 .rintro O S ⟨i,t,g,h,k⟩;by_cases c:i<n
  .simp only[*,go_sem,aP,bn];refine aC (fun O S=>∃j:Nat,j<=i/\O 0=aP n n A/\O 3=ι i/\O 4=ι j/\O 6=ι n/\O 7=ι i) (fun O S=>i-bO (O 4)) ?_ ?_
   .simp only[*,go_sem,aP,bn];exact⟨0,om,rfl⟩
   .rintro O S ⟨j,u,g,m,o,h,k⟩;by_cases p:j<i
    .have d:j<n:=om
     simp -dsimp only[*,go_sem,aP,bn];refine aN 16 kr ?_
     simp only[go_sem,aa,aP,bn,g,m,o,h,k,c,d];have q:kC (A i j) (A j i)=0:=by rw[l i j c d];exact si _
     refine⟨_,(qr (f i j c d) (f j i d c) om).pure',?_⟩;rw[q];simp only[go_sem,aF (om:j<1000000),bO]
     exact⟨⟨j+1,om,rfl⟩,om⟩
    .simp only[*,go_sem,aP,bn,aF (om:i<1000000),bO]
     exact⟨⟨i+1,om,rfl⟩,om⟩
  .simp only[*,go_sem,aP,bn];exact VR.mf rfl

def VR.agg(h:∀x∈l,rm x=true):VR S (.agg l) (.agg l):=by
 intro w v d a;simp only[bI]at a ⊢;obtain⟨vs,b,c⟩:=a;exact⟨vs,b,Du l vs h c⟩
def rN(a b:Int):Int:=a/(mF a b:Int)
def rD(a b:Int):Int:=b/(mF a b:Int)
def uC{b:Int}(h:0<b):0<(mF a b:Int):=by
 have:=Int.gcd_pos_of_ne_zero_right a (om:b≠0);omega
def LK{b:Int}:(mF a b:Int)*rN a b=a:=iP (Int.gcd_dvd_left ..)
def GG{b:Int}:(mF a b:Int)*rD a b=b:=iP (Int.gcd_dvd_right ..)
def qt{b:Int}(h:0<b):0<rD a b:=by
 have c:=GG (a:=a) (b:=b);exact qv (uC (a:=a) h) (by rw[c];exact h)
def IM{b:Int}:rN a b*b=a*rD a b:=by
 have c:=LK (a:=a) (b:=b);have d:=GG (a:=a) (b:=b);have e:(mF a b:Int)*(rN a b*rD a b)=a*rD a b:=by rw[<-fu,c]
 have f:(mF a b:Int)*(rN a b*rD a b)=rN a b*b:=by rw[Tf,d]
 rw[<-e,f]
def sQ{g x y:Int}(h:g*x=y)(a:0<g):x.natAbs<=y.natAbs:=by
 rw[<-h,cP];exact Nat.le_mul_of_pos_left _ om
def zN{b:Int}(h:0<b)(c:nb a k):nb (rN a b) k:=nb.of_le (sQ LK (uC h)) c
def zO{b:Int}(h:0<b)(c:nb b k):nb (rD a b) k:=nb.of_le (sQ GG (uC h)) c
def oI{b c d:Int}(e:0<b)(f:0<d)(h:a*d=c*b):a/b=c/d:=by
 rw[<-JD a b f,h,bU b d,JD c d e]
def B6(h:0<a):a.sign=1:=cX h
def Ni{b:Int}(f:nb a k)(c:nb b k)(l:k<=500000000)(d:0<b):PF 254 [ϱ a,ϱ b] (.tup [.agg [ϱ (rN a b),ϱ (rD a b)],.bool true]):=by
 refine iy func254 ntmps254 results254 ?_;have i:=uC (a:=a) d;have g:nb (mF a b:Int) k:=nb.of_le (by have:=Int.gcd_le_natAbs_right a (om:b≠0);simp;exact this) c
 try simp -dsimp only[go_sem]
 refine ax.intro fun m n=>?_
 try simp -dsimp only[go_sem]
 refine ax.intro fun o j=>?_;have n3_2:=(af j).1
 try simp -dsimp only[go_sem]
 refine ax.intro fun p h=>?_;have n4_3:=(af h).1;have n4_2:=(af (af h).2).1;simp -dsimp only[go_sem,aa,ai n4_3];refine(jQ c om).call ?_;rw[B6 d];simp -dsimp only[go_sem,aa,ai n4_3,show((1:Int)==0)=false from rfl];refine(jQ c om).call ?_;rw[B6 d];simp -dsimp only[go_sem,aa,ai n3_2,ai n4_2,ai n4_3,show ¬((1:Int)<0) by decide]
 refine(N8 f c om).call ?_;simp -dsimp only[go_sem];refine ax.intro fun q e=>?_;have n6_4:=(af e).1;have n6_3:=(af (af e).2).1;have n6_2:=(af (af (af e).2).2).1;simp -dsimp only[go_sem,aa];refine aN 7 kr ?_
 simp only[go_sem,aa,ai n3_2,ai n4_2,ai n4_3,ai n6_2,ai n6_3,ai n6_4,aL];refine⟨_,(mZ f g om om).pure',_,(mZ c g om om).pure',?_⟩;simp only[go_sem,fy,ed,aU,bF,ca,cA,bL,bJ,dD,bR];exact VR.tup2 (VR.agg (by simp[rm])) (VR.mf rfl)
def nh{b:Int}(d:nb a k)(e:nb b k)(f:k<=500000000)(g:0<b):PF 220 [.agg [ϱ a,ϱ b]] (.agg [ϱ (rN a b),ϱ (rD a b)]):=by
 refine iy func220 ntmps220 results220 ?_;simp -dsimp only[go_sem,aU,bF,ca,cA];refine ax.intro fun i f1=>?_
 try simp -dsimp only[go_sem]
 refine ax.intro fun j h=>?_;have n2_1:=(af h).1;simp -dsimp only[go_sem,aa,ai n2_1,bL,bJ];refine(Ni d e f g).call ?_;simp -dsimp only[go_sem,bL,bJ];refine ax.intro fun l c=>?_;have n3_2:=(af c).1;have n3_1:=(af (af c).2).1;simp only[go_sem,aa,ai n3_2,fy,ed,aU,bF,ca,cA,bL,bJ,dD,bR];exact VR.agg (by simp[rm])
def PS:PF 219 [] (.agg [ϱ 1,ϱ 2]):=by
 refine iy func219 ntmps219 results219 ?_
 try simp -dsimp only[go_sem]
 refine ax.intro fun a f0=>?_;simp -dsimp only[go_sem,aa];refine(fA dc dc).call ?_
 simp -dsimp only[go_sem,aa];refine(fA dc dc).call ?_
 simp only[go_sem,aa,fy,ed,aU,bF,ca,cA,bL,bJ,dD,bR];exact VR.agg (by simp[rm])
def Nq{b:Int}(d:nb a k)(e:nb b k)(g:k<=500000000)(c:0<b):PF 217 [.agg [ϱ a,ϱ b]] (ϱ (a/b)):=by
 refine iy func217 ntmps217 results217 ?_;simp -dsimp only[go_sem,aU,bF,ca,cA];refine ax.intro fun j f1=>?_
 try simp -dsimp only[go_sem]
 refine ax.intro fun l h=>?_;have n2_1:=(af h).1;simp -dsimp only[go_sem,aa,ai n2_1,ed,bL,bJ];refine(nh d e g c).call ?_;simp -dsimp only[go_sem];refine ax.intro fun m f=>?_;have n3_2:=(af f).1;have n3_1:=(af (af f).2).1;simp -dsimp only[go_sem,aa,fy,ed,aU,bF,ca,cA,bL,bJ,dD,bR];have i:=qt (a:=a) c;refine(mZ (zN c d) (zO c e) om om).call ?_;simp only[go_sem,aa,ai n3_2,aL,fy,bL,bJ,dD,bR];rw[oI i c IM];exact VR.mf rfl
def FW{b:Int}(d:nb a k)(e:nb b k)(f:k<=500000000)(g:0<b):PF 170 [ϱ a,ϱ b] (.agg [ϱ (rN a b),ϱ (rD a b)]):=by
 refine iy func170 ntmps170 results170 ?_
 try simp -dsimp only[go_sem]
 refine ax.intro fun i j=>?_
 try simp -dsimp only[go_sem]
 refine ax.intro fun l h=>?_;have n3_2:=(af h).1
 try simp -dsimp only[go_sem]
 refine ax.intro fun m c=>?_;have n4_3:=(af c).1;have n4_2:=(af (af c).2).1;simp -dsimp only[go_sem,aa,ai n3_2,ai n4_2,ai n4_3];refine(nh d e f g).call ?_;simp only[go_sem,aa,fy,ed,aU,bF,ca,cA,bL,bJ,dD,bR];exact VR.agg (by simp[rm])
def Sd{b c d:Int}(o:nb a k)(p:nb b k)(q:nb c k)(r:nb d k)(w:k<=100000000)(h:0<b)(i:0<d) :
  PF 218 [.agg [ϱ a,ϱ b],.agg [ϱ c,ϱ d]] (.agg [ϱ (rN (rN a b*rD c d+rN c d*rD a b) (rD a b*rD c d)),ϱ (rD (rN a b*rD c d+rN c d*rD a b) (rD a b*rD c d))]):=by
 refine iy func218 ntmps218 results218 ?_;have t:=qt (a:=a) h;have u:=qt (a:=c) i;have l:=zN h o;have e:=zO (a:=a) h p;have m:=zN i q;have f:=zO (a:=c) i r;simp -dsimp only[go_sem,aU,bF,ca,cA];refine ax.intro fun x y=>?_
 try simp -dsimp only[go_sem]
 refine ax.intro fun z v=>?_;have n3_2:=(af v).1
 try simp -dsimp only[go_sem]
 refine ax.intro fun A s=>?_;have n4_3:=(af s).1;have n4_2:=(af (af s).2).1;simp -dsimp only[go_sem];refine aN 6 kr ?_
 simp -dsimp only[go_sem,aa,ai n3_2,ai n4_2,ai n4_3,ed,bL,bJ];refine⟨_,(nh o p om h).pure',_,(nh q r om i).pure',?_⟩;refine ax.intro fun B n=>?_;have n5_4:=(af n).1;have n5_3:=(af (af n).2).1;have n5_2:=(af (af (af n).2).2).1
 try simp -dsimp only[go_sem]
 refine ax.intro fun C j=>?_;have n6_5:=(af j).1;have n6_4:=(af (af j).2).1;have n6_3:=(af (af (af j).2).2).1;have n6_2:=(af (af (af (af j).2).2).2).1;simp -dsimp only[go_sem,nn n6_5,aU,bF,ca,cA];refine iz 21 [[19]] kr ?_
 simp -dsimp only[go_sem,aa,ai n6_5,fy,ed,aU,bF,ca,cA,bL,bJ,dD,bR];refine⟨_,(ja l f om).pure',_,(ja m e om).pure',_,(r8 (l.mul f) (m.mul e) om).pure',_,(ja e f om).pure',_,(Ni (k:=k+k+1) ((l.mul f).add (m.mul e)) ((e.mul f).mono om) om (jN t u)).pure',?_⟩;simp -dsimp only[go_sem];refine ax.intro fun D g=>?_;have n7_6:=(af g).1;have n7_5:=(af (af g).2).1;have n7_4:=(af (af (af g).2).2).1;have n7_3:=(af (af (af (af g).2).2).2).1;have n7_2:=(af (af (af (af (af g).2).2).2).2).1;simp only[go_sem,ai n5_4,ai n6_4,ai n7_2,fy,aU,bF,ca,cA,bL,bJ,dD,bR];exact VR.agg (by simp[rm])
def Ok{b:Int}(c:0<b):(rN a b*rD 1 2+rN 1 2*rD a b)/(rD a b*rD 1 2)=(2*a+b)/(2*b):=by
 have d:rN 1 2=1:=by decide
 have e:rD 1 2=2:=by decide
 have f:=qt (a:=a) c;have g:=IM (a:=a) (b:=b);rw[d,e];refine oI om om ?_
 grind
def If{b:Int}(e:nb a k)(f:nb b k)(t:k<=10000000)(l:4<=k)(d:0<b):PF 169 [.agg [ϱ a,ϱ b]] (ϱ ((2*a+b)/(2*b))):=by
 refine iy func169 ntmps169 results169 ?_;have g:nb 1 k:=nb.one om;have h:nb 2 k:=cZ (by decide:2<2^2) (cu om om)
 have m:=qt (a:=a) d;have n:0<rD 1 2:=by decide
 have o:=zN d e;have i:=zO (a:=a) d f;have p:nb (rN 1 2) k:=zN dc g
 have j:nb (rD 1 2) k:=zO dc h
 have q:=((o.mul j).add (p.mul i));have r:=((i.mul j).mono (om:k+k<=k+k+1))
 have c:=jN m n;simp -dsimp only[go_sem,aU,bF,ca,cA];refine ax.intro fun u f1=>?_
 try simp -dsimp only[go_sem]
 refine ax.intro fun v s=>?_;have n2_1:=(af s).1;simp -dsimp only[go_sem];refine aN 4 kr ?_
 simp only[go_sem,aa,ai n2_1,aL,ed,bL,bJ];refine⟨_,PS.pure',_,(Sd e f g h om d dc).pure',_,(Nq (k:=k+k+1) (zN c q) (zO c r) om (qt c)).pure',?_⟩
 simp only[go_sem];rw[oI (qt c) c IM,Ok d];exact VR.mf rfl

def eM.cons{r:List AV}(h:VA S x y)(a:eM S l r):eM S (x::l) (y::r):=⟨h,a⟩
def cN.blk{e:Nat}{g:Nat->AV}(h:cN e es S0 S x j g){d:Nat}(f:dV x d):∃X,S d=some X:=by
 obtain⟨_,_,_,a⟩:=f;rcases h.2 with⟨_,b⟩|⟨c,_,b,g',i,_⟩
 .rw[b]at a;cases a
 .rw[b]at a;cases a;exact⟨_,i⟩
def cN.keep{e:Nat}{g:Nat->AV}(h:cN e es S0 S y j g)(c:dh S0 S')(f:∀d X,S d=some X->¬dV x d->S' d=some X)(i:∀d,dV y d->¬dV x d):cN e es S0 S' y j g :=
 h.step c (fun d a=>by obtain⟨X,b⟩:=h.blk a;rw[b];exact f d X b (i d a))
def xt(n i j:Nat)(A:az)(W:Nat)(h1:j<=i)(h2:i<n)(h3:n<=16)(hA:∀i j,i<n->j<n->nb (A i j) W)(hk:W<=10000000):PF 171 [aP n n A,ι i,ι j] (ϱ (fq A i j)):=by
 refine iy func171 ntmps171 results171 ?_
 try simp -dsimp only[go_sem]
 refine ax.intro fun D f6=>?_;simp only[go_sem];refine aC (fun O S=>∃(a:Nat) (x y:AV),a<=j/\O 0=aP n n A/\O 1=ι i/\O 2=ι j/\O 6=ϖ D 0/\O 7=x/\O 8=y/\O 9=ι a/\cS S D 50 2 (ϱ 0)/\cN 3 1 St.none S x a (fun a=>ι a)/\cN 3 1 St.none S y a (fun a=>ι a)/\∀d,dV x d->¬dV y d) (fun O S=>j-bO (O 9)) ?_ ?_
 .simp only[go_sem];exact⟨0,om,rfl,cS.new rfl,cN.nil (dh.noneS _) _,cN.nil (dh.noneS _) _,fun d h=>by obtain⟨_,_,_,e⟩:=h;cases e⟩
 .rintro O S ⟨a,x,y,Z,e0,e1,e2,e6,e7,e8,e9,V6,P,H,E⟩;obtain⟨g6,N,v6⟩:=V6;have Q:=P.other N om;have R:=H.other N om;by_cases hlt:a<j
  .simp -dsimp only[*,go_sem];refine ax.intro fun I f=>?_;simp -dsimp only[*,go_sem];have r:=P.fresh f;have s:=H.fresh f;have t:D≠I:=fun e=>by rw[<-e,N]at f;cases f
   refine cN.app3 (P.upd (by rfl) r _) om (show dY 1 (ι (a:Int)) by simp[dY]) (aQ ⟨_,_,_,rfl,bW,rfl,fun h=>r _ h rfl⟩) ?_
   intro c S2 o u J;have v:=u D _ (by rw[aE t];exact N) Q
   have w:cN 3 1 St.none S2 y a (fun a=>ι a):=(H.upd (by rfl) s _).keep (dh.noneS _) u (fun d l b=>E d b l)
   have F:¬dV y c:=by
    intro G;rcases J with h|h
    .exact E c h G
    .obtain⟨X,z⟩:=H.blk G;rw[aE (s c G),z]at h;cases h
   simp -dsimp only[*,go_sem];refine ax.intro fun K g=>?_;simp -dsimp only[*,go_sem];have m:=o.fresh g;have k:=w.fresh g;have B:D≠K:=fun e=>by rw[<-e,v]at g;cases g
   refine cN.app3 (w.upd (by rfl) k _) om (show dY 1 (ι (a:Int)) by simp[dY]) (aQ ⟨_,_,_,rfl,bW,rfl,fun h=>k _ h rfl⟩) ?_
   intro c2 S3 L C T;have U:=C D _ (by rw[aE B];exact v) R
   have M:=(o.upd (by rfl) m _).keep (dh.noneS _) C (fun d l b=>by rw[dP]at l;rw[l]at b;exact F b)
   simp only[*,go_sem,aF (om:a<1000000),bO]
   refine⟨⟨a+1,om,rfl,⟨g6,U,v6⟩,M.congr fun a Z=>by grind,L.congr fun a Z=>by grind,fun d l b=>?_⟩,om⟩
   rw[dP]at l b;subst l;subst b;rcases T with h|h
   .exact F h
   .obtain⟨X,z⟩:=o.blk (dP.2 rfl);rw[aE (m _ (dP.2 rfl)),z]at h;cases h
  .obtain rfl:a=j:=om
   simp -dsimp only[*,go_sem];refine ax.intro fun I f=>?_;simp -dsimp only[*,go_sem];have r:=P.fresh f;have s:=H.fresh f;have t:D≠I:=fun e=>by rw[<-e,N]at f;cases f
   refine cN.app3 (P.upd (by rfl) r _) om (show dY 1 (ι (i:Int)) by simp[dY]) (aQ ⟨_,_,_,rfl,bW,rfl,fun h=>r _ h rfl⟩) ?_
   intro c S2 o u J;have v:=u D _ (by rw[aE t];exact N) Q
   have w:cN 3 1 St.none S2 y a (fun a=>ι a):=(H.upd (by rfl) s _).keep (dh.noneS _) u (fun d l b=>E d b l)
   have F:¬dV y c:=by
    intro G;rcases J with h|h
    .exact E c h G
    .obtain⟨X,z⟩:=H.blk G;rw[aE (s c G),z]at h;cases h
   simp -dsimp only[*,go_sem];refine ax.intro fun K g=>?_;simp -dsimp only[*,go_sem];have m:=o.fresh g;have k:=w.fresh g;have B:D≠K:=fun e=>by rw[<-e,v]at g;cases g
   refine cN.app3 (w.upd (by rfl) k _) om (show dY 1 (ι (a:Int)) by simp[dY]) (aQ ⟨_,_,_,rfl,bW,rfl,fun h=>k _ h rfl⟩) ?_
   intro c2 S3 L C T;have U:=C D _ (by rw[aE B];exact v) R
   have M:=(o.upd (by rfl) m _).keep (dh.noneS _) C (fun d l b=>by rw[dP]at l;rw[l]at b;exact F b)
   simp -dsimp only[*,go_sem,aa];have hF:∀c,c<a+1->Ak a i c<n:=fun c G=>by unfold Ak;split<;>omega
   have V:∀c,c<a+1->Ak a a c<n:=fun c G=>by unfold Ak;split<;>omega
   have vx:VR S3 (ϑ c 0 (a+1)) (aK (a+1) (fun q=>(Ak a i q:Nat))):=M.vr (fun q Y=>by
    have:(if q=a then ι (i:Int)else ι (q:Int))=ι ((Ak a i q:Nat):Int):=by
     unfold Ak;by_cases e:q=a
     .subst e;simp
     .rw[ah e,aj om]
    rw[this];exact VR.mf rfl)
   have vy:VR S3 (ϑ c2 0 (a+1)) (aK (a+1) (fun q=>(Ak a a q:Nat))):=L.vr (fun q Y=>by
    have:(if q=a then ι (a:Int)else ι (q:Int))=ι ((Ak a a q:Nat):Int):=by
     unfold Ak;by_cases e:q=a
     .subst e;simp
     .rw[ah e,aj om]
    rw[this];exact VR.mf rfl)
   refine(wY n n (a+1) (a+1) A (Ak a i) (Ak a a) om om om om hF V).pf.spec (eM.same (eM.cons vx.va (eM.cons vy.va eM.nil))) ?_;simp -dsimp only[*,go_sem,aa];refine(io (a+1) _ W om om (fun p q hp Y=>hA _ _ (hF p hp) (V q Y)) hk).call ?_;simp only[*,go_sem,aa,aL];have l:=Jm A a (i-a) 0;simp only[(om:a+(i-a)=i),cB]at l
   rw[l];exact VR.mf rfl
def pD(n k:Nat)(A:az)(b:n<=16)(c:k<=n):PF 172 [bn n (fun k=>det (k+1) A),ι k] (ϱ (det k A)):=by
 refine iy func172 ntmps172 results172 ?_
 try simp -dsimp only[go_sem]
 refine ax.intro fun d e=>?_;by_cases a:k=0
 .subst a;simp -dsimp only[go_sem,aa,show((0:Nat):Int)=0 from rfl,cb];refine(fA dc dc).call ?_
  simp only[go_sem,aa,aL];exact VR.mf rfl
 .obtain⟨m,rfl⟩:∃m,k=m+1:=⟨k-1,om⟩
  have f:(((m+1:Nat):Int)==0)=false:=by simp;omega
  have g:ω (((m+1:Nat):Int)-1)=(m:Nat):=dN om om;simp only[*,go_sem,aa,bn,(om:m<n),aL]
  exact VR.mf rfl
def sj{b:Int}:decide (kC a b<=0)=decide (a<=b):=by
 unfold kC;rcases ej a b with h|h|h
 .rw[aj h];simp;omega
 .subst h;simp
 .rw[ah om,aj h];simp;omega
def Pc{b:Int}:decide (0<=kC a b)=decide (b<=a):=by
 unfold kC;rcases ej a b with h|h|h
 .rw[aj h];simp;omega
 .subst h;simp
 .rw[ah om,aj h];simp;omega
def oF{A:az}(d:n<=16)(c:∀i j,i<n->j<n->nb (A i j) k0)(e:k<=n):nb (det k A) (17*(k0+10)) :=
 (lw k A om (fun a b f g=>c a b om om)).mono (by have:k*(k0+10)<=16*(k0+10):=aq _ om;omega)
def GS{A:az}(d:n<=16)(c:∀i j,i<n->j<n->nb (A i j) k0)(e:j<=i)(f:i<n):nb (fq A i j) (17*(k0+10)):=by
 unfold fq;refine(lw (j+1) _ om (fun a b g h=>c _ _ ?_ ?_)).mono (by have:(j+1)*(k0+10)<=16*(k0+10):=aq _ om;omega)
 .rw[kf];split<;>omega
 .rw[kf];split<;>omega
def FU(n i j:Nat)(A:az)(a:Nat)(f:j<i)(g:i<n)(d:n<=16)(e:∀i j,i<n->j<n->nb (A i j) a)(l:a<=10000000):PF 119 [aP n n A,bn n (fun k=>det (k+1) A),ι i,ι j] (.bool (decide (2*((fq A i j).natAbs:Int)<=det (j+1) A))):=by
 refine iy func119 ntmps119 results119 ?_;have h:=GS d e (du f) g;have b:nb ((fq A i j).natAbs:Int) (17*(a+10)):=nb.of_le sm h
 have m:=oF (k:=j+1) d e om;have c:nb 2 (17*(a+10)):=cZ (by decide:2<2^2) (cu om om)
 simp -dsimp only[go_sem,aa];refine(fA dc dc).call ?_
 simp -dsimp only[go_sem,aa];refine(xt n i j A a (du f) g d e l).call ?_;simp -dsimp only[go_sem,aa];refine(yJ h om).call ?_;simp -dsimp only[go_sem,aa];refine(ja c b om).call ?_;simp -dsimp only[go_sem,aa,aF (om:j<1000000)]
 refine(pD n (j+1) A d om).call ?_;simp -dsimp only[go_sem,aa];refine(qr (c.mul b) (m.mono om) om).call ?_;simp only[go_sem,sj];exact VR.mf rfl
def B5(n:Nat)(A:az)(a:Nat)(d:1<=n)(b:n<=16)(c:∀i j,i<n->j<n->nb (A i j) a)(e:a<=10000000):PF 57 [aP n n A] (.bool (decide (det n A<=10000))):=by
 refine iy func57 ntmps57 results57 ?_;have f:=oF (k:=n) b c (ag _);have g:nb 10000 (17*(a+10)):=cZ (by decide:10000<2^14) (cu om om)
 simp -dsimp only[go_sem,aa];refine(io n A a d b c e).call ?_;simp -dsimp only[go_sem,aa];refine(fA dc dc).call ?_
 simp -dsimp only[go_sem,aa];refine(qr f g om).call ?_;simp only[go_sem,sj];exact VR.mf rfl
def vO(n:Nat)(A T:az)(k:Nat)(a:1<=n)(c:n<=16)(h:∀i j,i<n->j<n->nb (A i j) k)(f:∀i j,i<n->j<n->nb (T i j) k)(p:k<=100000000):MF 113 [aP n n A,aP n n T] n n (lz n (lz n (fun i j=>T j i) A) T):=by
 refine MF.of (jg func113 ntmps113 results113 ?_);have m:∀i j,i<n->j<n->nb (lz n (fun i j=>T j i) A i j) (k+k+10):=fun i j d e=>z9 (fun q l=>(f q i l d).mul (h q j l e)) om n (ag _);simp -dsimp only[go_sem,aa];refine(qF n n T k a c a c f om).pf.call ?_;simp -dsimp only[go_sem,aa];refine(l8 n n n (fun i j=>T j i) A k a c a c a c (fun i j d e=>f j i e d) h om).pf.call ?_;simp -dsimp only[go_sem,aa];refine(l8 n n n _ T (k+k+10) a c a c a c m (fun i j d e=>(f i j d e).mono om) om _ _ (cD _ _)).mono ?_;rintro r S1 ⟨b,g,rfl,o⟩;simp only[go_sem];exact⟨b,rfl,g,o.1⟩

def E6(h:z.natAbs<16)(a:4<=k):nb z k:=cZ h (by have:=cu (n:=2) om a;omega)
def CG(n i:Nat)(A:az)(b:Nat)(s:0<i)(l:i<n)(a:n<=16)(e:∀i j,i<n->j<n->nb (A i j) b)(q:b<=10000000):PF 120 [aP n n A,bn n (fun k=>det (k+1) A),ι i] (.bool (decide (3*(det i A*det i A)<=4*(det (i-1) A*det (i+1) A+fq A i (i-1)*fq A i (i-1))))):=by
 refine iy func120 ntmps120 results120 ?_;obtain⟨m,rfl⟩:∃m,i=m+1:=⟨i-1,om⟩
 rw[eB];have f:ω (((m+1:Nat):Int)-1)=(m:Nat):=dN om om;have c:=GS (i:=m+1) (j:=m) a e om l;have g:=oF (k:=m) a e om;have d:=oF (k:=m+1) a e om;have h:=oF (k:=m+1+1) a e om;have o:nb 4 (17*(b+10)+17*(b+10)+1):=E6 dc om
 have p:nb 3 (17*(b+10)+17*(b+10)):=E6 dc om
 have s1:=(g.mul h).add (c.mul c);simp -dsimp only[go_sem,aa,f];refine(xt n (m+1) m A b om l a e q).call ?_;simp -dsimp only[go_sem];refine ax.intro fun t u=>?_;simp -dsimp only[go_sem,aa,f];refine aN 16 kr ?_
 simp -dsimp only[go_sem,aa,f,aF (om:m+1<1000000),aL]
 refine⟨_,(fA dc dc).pure',_,(pD n m A a om).pure',_,(pD n (m+1+1) A a om).pure',_,(ja g h om).pure',_,(ja c c om).pure',_,(r8 (g.mul h) (c.mul c) om).pure',_,(ja o s1 om).pure',?_⟩
 refine ax.intro fun v r=>?_;have n8_7:=(af r).1;simp -dsimp only[go_sem];refine aN 13 kr ?_
 simp only[go_sem,aa,aL];refine⟨_,(fA dc dc).pure',_,(pD n (m+1) A a om).pure',_,(pD n (m+1) A a om).pure',_,(ja d d om).pure',_,(ja p (d.mul d) om).pure',_,(qr (o.mul s1) ((p.mul (d.mul d)).mono om) om).pure',?_⟩
 simp only[go_sem,Pc];exact VR.mf rfl
def IH:decide (a.sign<=0)=decide (a<=0):=by
 rcases ej a 0 with h|h|h
 .rw[eI h];simp;omega
 .subst h;simp
 .rw[cX h];simp;omega
def F7(n:Nat)(A:az)(c:Nat)(l:1<=n)(f:n<=16)(g:∀i j,i<n->j<n->nb (A i j) c)(d:c<=10000000)(m:∀a b,a<n->b<n->A a b=A b a)(β:Bool)(hβ:β=true↔∀k,k<=n->0<det k A):PF 117 [aP n n A] (.bool β):=by
 refine iy func117 ntmps117 results117 ?_;simp -dsimp only[go_sem,aa];refine(tf n A c l f g d).call ?_;simp -dsimp only[go_sem,aa,bn];refine(tP n A c f g d m).call ?_;simp only[go_sem];refine aC (fun O S=>∃i:Nat,i<=n/\O 19=bn n (fun k=>det (k+1) A)/\O 20=ι n/\O 21=ι i/\∀k,k<=i->0<det k A) (fun O S=>n-bO (O 21)) ?_ ?_
 .simp only[go_sem,bn];exact⟨0,om,rfl,fun k d=>by rw[(om:k=0)];simp[det]⟩
 .rintro O S ⟨i,t,o,p,q,h⟩;by_cases r:i<n
  .have s:=oF (k:=i+1) f g om;simp -dsimp only[*,go_sem,bn];refine ax.intro fun u v=>?_;simp -dsimp only[go_sem,aa,aL];refine(jQ s om).call ?_;by_cases w:det (i+1) A<=0
   .simp only[*,go_sem,bn,IH];have:β=false:=by
     cases β with
     | false=>rfl
     | true=>have:=hβ.1 rfl (i+1) om;omega
    rw[this];exact VR.mf rfl
   .simp only[*,go_sem,bn,IH,aF (om:i<1000000),bO]
    refine⟨⟨i+1,om,rfl,fun k d=>?_⟩,om⟩
    by_cases e:k=i+1
    .rw[e];omega
    .exact h k om
  .obtain rfl:i=n:=om
   simp only[*,go_sem,bn];have:β=true:=hβ.2 h;rw[this];exact VR.mf rfl
def oQ(n:Nat)(A:az)(c:Nat)(d:1<=n)(h:n<=8)(e:∀i j,i<n->j<n->nb (A i j) c)(f:c<=10000000)(g:∀a b,a<n->b<n->A a b=A b a)(β:Bool)(hβ:β=true↔∀k,k<=n->0<det k A):PF 56 [aP n n A] (ι (if β then 0 else 5)):=by
 refine iy func56 ntmps56 results56 ?_;simp -dsimp only[go_sem,aa];refine(rX n A d om).call ?_;simp -dsimp only[go_sem,aa,(om:¬((8:Int)<n))]
 refine(tP n A c om e f g).call ?_;simp -dsimp only[go_sem,aa];refine(F7 n A c d om e f g β hβ).call ?_
 cases β
 .simp only[go_sem];exact VR.mf rfl
 .simp only[go_sem];exact VR.mf rfl

inductive Ev where
 | size (i j:Nat)
 | swap (i:Nat)
 | done
def xv(A:az)(n:Nat):Ev->Prop
 | .size i j=>j<i/\i<n/\kh A i/\(∀j',j<j'->j'<i->ig A i j')/\¬ig A i j
 | .swap i=>0<i/\i<n/\kh A i/\(∀j',j'<i->ig A i j')/\¬gS A i
 | .done=>kh A n
def kq(n:Nat):Ev->Nat
 | .size i _=>i
 | .swap i=>i
 | .done=>n
def Ji(A:az)(i j:Nat):Int:=- ((2*fq A i j+det (j+1) A)/(2*det (j+1) A))
def Qk(A:az):Ev->az
 | .size i j=>dU jT j i (Ji A i j)
 | .swap i=>fun a b=>jT (dq (i-1) i a) b
 | .done=>jT
def evV(n:Nat)(A:az)(ev:Ev):AV:=match ev with
 | .done=>.tup [.nil,.bool false]
 | e=>.tup [aP n n (Qk A e),.bool true]
def xv.ok{A:az}{ev:Ev}(h:xv A n ev):kh A (kq n ev)/\kq n ev<=n:=by
 cases ev with
 | size i j=>exact⟨h.2.2.1,du h.2.1⟩
 | swap i=>exact⟨h.2.2.1,du h.2.1⟩
 | done=>exact⟨h,ag _⟩
def OM(A:az)(n:Nat):∃ev,xv A n ev:=by
 have key:∀i,i<=n->kh A i∨∃ev,xv A n ev:=by
  intro i
  induction i with
  | zero=>intro _;exact a6 ⟨fun r d=>om,fun r _ d=>om⟩
  | succ i ih =>
   intro m;rcases ih om with h|h
   .have row:∀t,t<=i->(∀j',i-t<=j'->j'<i->ig A i j')∨∃ev,xv A n ev:=by
     intro t
     induction t with
     | zero=>intro _;exact a6 (fun j' a b=>om)
     | succ t iht =>
      intro o;rcases iht om with a|a
      .rcases iM (ig A i (i-(t+1)))with b|b
       .refine a6 (fun j' f g=>?_);by_cases e:j'=i-(t+1)
        .rw[e];exact b
        .exact a j' om g
       .exact aQ ⟨.size i (i-(t+1)),om,om,h,fun j' f g=>a j' om g,b⟩
      .exact aQ a
    rcases row i (ag _)with a|a
    .have k:∀j',j'<i->ig A i j':=fun j' c=>a j' om c;rcases bD i with l|l
     .refine a6 ⟨fun r d j c=>?_,fun r b d=>om⟩
      omega
     .rcases iM (gS A i)with b|b
      .refine a6 ⟨fun r d j c=>?_,fun r f d=>?_⟩
       .by_cases e:r=i
        .rw[e]at c ⊢;exact k j c
        .exact h.1 r om j c
       .by_cases e:r=i
        .rw[e];exact b
        .exact h.2 r f om
      .exact aQ ⟨.swap i,l,om,h,k,b⟩
    .exact aQ a
   .exact aQ h
 rcases key n (ag _)with h|h
 .exact⟨.done,h⟩
 .exact h
def dr.swap'(h:dr S b g n m A){p k:Nat}(d:p<n)(e:k<n)(a:p≠k){c:Nat->AV}(f:S b=some ⟨59,1,n,c⟩) :
  dr ((S.upd b ⟨59,1,n,aL c p (ϕ (g k) 0 m)⟩).upd b ⟨59,1,n,aL (aL c p (ϕ (g k) 0 m)) k (ϕ (g p) 0 m)⟩) b (fun i=>g (dq k p i)) n m (fun i j=>A (dq k p i) j):=by
 rw[lu];exact h.swap d e a f
def C4(n:Nat)(A:az)(s:Nat)(h1:1<=n)(h2:n<=8)(E:∀i j,i<n->j<n->nb (A i j) s)(hk:s<=500000)(G:∀k,k<=n->0<det k A)(ev:Ev)(t:xv A n ev):PF 112 [aP n n A] (evV n A ev):=by
 refine iy func112 ntmps112 results112 ?_;obtain⟨v,hrn⟩:=t.ok;simp -dsimp only[go_sem,aa];refine(tf n A s h1 om E om).call ?_;simp -dsimp only[go_sem,aa,aP];refine(rR n h1 om _ _ (cD _ _)).mono ?_;rintro r S1 ⟨b,g,rfl,H⟩;simp only[go_sem];refine aC (fun O S=>∃i:Nat,i<=kq n ev/\O 0=aP n n A/\O 4=bn n (fun k=>det (k+1) A)/\O 6=ϑ b 0 n/\O 22=ι n/\O 23=ι i/\S=S1) (fun O S=>n-bO (O 23)) ?_ ?_
 .simp only[go_sem,aP,bn];exact⟨0,om,rfl⟩
 .rintro O S ⟨i,hi,e0,e4,Q,I,J,rfl⟩;by_cases f:i<n
  .have hw:ω ((i:Int)-1)=(i:Int)-1:=i64_in om om;simp only[*,go_sem];refine aC (fun O S'=>∃jj:Nat,jj<=i/\(∀j',jj<=j'->j'<i->ig A i j')/\(∀j,ev=.size i j->j<jj)/\O 0=aP n n A/\O 4=bn n (fun k=>det (k+1) A)/\O 6=ϑ b 0 n/\O 8=ι i/\O 9=ι ((jj:Int)-1)/\O 22=ι n/\O 23=ι i/\S'=S) (fun O S=>match O 9 with|.int _ z=>(z+1).toNat|_=>0) ?_ ?_
   .simp only[*,go_sem];refine⟨i,om,fun j' R F=>om,fun j K=>?_,rfl⟩
    subst K;exact t.1
   .rintro O S' ⟨jj,hjj,L,w,e0,e4,Q,e8,T,I,J,rfl⟩;rcases bD jj with h0|h0
    .subst h0;have hall:∀j',j'<i->ig A i j':=fun j' K=>L j' om K;have M:∀j,ev≠.size i j:=fun j K=>by have:=w j K;omega
     have U:¬((0:Int)<=((0:Nat):Int)-1):=om
     rcases bD i with u|u
     .subst u;have V:(0:Nat)≠kq n ev:=fun e=>by
       cases ev with
       | size a c=>have:=t.1;simp only[kq]at e;omega
       | swap a=>have:=t.1;simp only[kq]at e;omega
       | done=>simp only[kq]at e;omega
      simp -dsimp only[go_sem,aa,e0,e4,Q,e8,T,I,J,show((0:Nat):Int)=0 from rfl,NJ,show ω ((0:Int)+1)=1 from rfl,bO];refine⟨⟨1,om,rfl⟩,?_⟩
      simp;omega
     .have hi0':(0:Int)<(i:Int):=om
      simp -dsimp only[*,go_sem,aa];refine(CG n i A s u f om E om).call ?_;by_cases N:gS A i
      .have x:decide (3*(det i A*det i A)<=4*(det (i-1) A*det (i+1) A+fq A i (i-1)*fq A i (i-1)))=true:=by simpa [gS]using N
       rw[x];simp only[*,go_sem,aF (om:i<1000000),bO]
       have V:i≠kq n ev:=fun e=>by
        cases ev with
        | size a c=>simp only[kq]at e;subst e;exact M c rfl
        | swap a=>simp only[kq]at e;subst e;exact t.2.2.2.2 N
        | done=>simp only[kq]at e;omega
       exact⟨⟨i+1,om,rfl⟩,om⟩
      .have x:decide (3*(det i A*det i A)<=4*(det (i-1) A*det (i+1) A+fq A i (i-1)*fq A i (i-1)))=false:=by simpa [gS]using N
       rw[x];have o:ev=.swap i:=by
        have d:i=kq n ev:=by
         rcases aB i (kq n ev)with h|h
         .exact absurd (v.2 i u h) N
         .omega
        cases ev with
        | size a c=>simp only[kq]at d;subst d;exact absurd rfl (M c)
        | swap a=>simp only[kq]at d;rw[d]
        | done=>simp only[kq]at d;omega
       subst o;obtain⟨m,rfl⟩:∃m,i=m+1:=⟨i-1,om⟩
       have W:ω (((m+1:Nat):Int)-1)=(m:Nat):=dN om om;have y:m<n:=om
       obtain⟨X,Y,P⟩:=H.1.outer;have w1:X (m+1)=ϕ (g (m+1)) 0 n:=P (m+1) f;have w2:X m=ϕ (g m) 0 n:=P m y;simp -dsimp only[*,go_sem];refine eO 15 [[2,3,4]] kr ?_
       simp only[go_sem,aa,Q,e8,f,W,Y,w1,w2,y];have Z:=H.1.swap' (p:=m+1) (k:=m) f y om Y;exact VR.tup2 (Z.vr) (VR.mf rfl)
    .obtain⟨j,rfl⟩:∃j,jj=j+1:=⟨jj-1,om⟩
     have e9':O 9=ι (j:Int):=by rw[T];congr 1;omega
     clear T;simp -dsimp only[*,go_sem,aa];refine(FU n i j A s om f om E om).call ?_;by_cases B:ig A i j
     .have C:decide (2*((fq A i j).natAbs:Int)<=det (j+1) A)=true:=by simpa [ig]using B
      rw[C];have hw2:ω ((j:Int)-1)=(j:Int)-1:=i64_in om om;simp only[*,go_sem];refine⟨⟨j,om,fun j' R F=>?_,fun c U=>?_,rfl⟩,om⟩
      .by_cases e:j'=j
       .rw[e];exact B
       .exact L j' om F
      .have R:=w c U;have F:c≠j:=fun e=>by
        subst e;subst U;exact t.2.2.2.2 B
       omega
     .have C:decide (2*((fq A i j).natAbs:Int)<=det (j+1) A)=false:=by simpa [ig]using B
      rw[C];have o:ev=.size i j:=by
       have d:i=kq n ev:=by
        rcases aB i (kq n ev)with h|h
        .exact absurd (v.1 i h j om) B
        .omega
       cases ev with
       | size a c =>
        simp only[kq]at d;subst d;have R:=w c rfl;rcases aB c j with F|F
        .exact absurd (t.2.2.2.1 j F om) B
        .rw[(om:c=j)]
       | swap a=>simp only[kq]at d;subst d;exact absurd (t.2.2.2.1 j om) B
       | done=>simp only[kq]at d;omega
      subst o;have D:j<n:=om
      have l:=GS (n:=n) (i:=i) (j:=j) om E om f;have hd:=oF (k:=j+1) (n:=n) om E om;have q:=G (j+1) om;have hnear:(2*rN (fq A i j) (det (j+1) A)+rD (fq A i j) (det (j+1) A))/(2*rD (fq A i j) (det (j+1) A))=(2*fq A i j+det (j+1) A)/(2*det (j+1) A):=by
       have hp:=qt (a:=fq A i j) q;have hr:=IM (a:=fq A i j) (b:=det (j+1) A);refine oI om om ?_
       grind
      have hnq:nb ((2*fq A i j+det (j+1) A)/(2*det (j+1) A)) (17*(s+10)+1+1):=by
       have h5:nb (2*fq A i j) (17*(s+10)+1):=by
        have:2*fq A i j=fq A i j+fq A i j:=om
        rw[this];exact l.add l
       exact nb.of_le (jD ..) (h5.add (hd.mono om))
      obtain⟨X,Y,P⟩:=H.1.outer;obtain⟨g2,u2,v2⟩:=H.1.row j D;have w1:=P j D;simp -dsimp only[*,go_sem];refine aN 17 kr ?_
      simp only[*,go_sem,aa,aF (om:j<1000000)]
      refine⟨_,(xt n i j A s om f om E om).pure',_,(pD n (j+1) A om om).pure',_,(FW l hd om q).pure',_,(If (k:=17*(s+10)) (zN q l) (zO q hd) om om (qt q)).pure',_,(tW (k:=17*(s+10)+1+1) (by rw[hnear];exact hnq) om).pure',?_⟩
      rw[hnear];simp only[go_sem];exact VR.tup2 ((H.1.set D u2).vr) (VR.mf rfl)
  .obtain rfl:i=n:=om
   simp only[*,go_sem]
   cases ev with
   | size a c=>have:=t.2.1;simp only[kq]at hi;omega
   | swap a=>have:=t.2.1;simp only[kq]at hi;omega
   | done=>exact VR.tup2 (VR.mf rfl) (VR.mf rfl)

inductive Ic (Q:az) (n:Nat):az->az->Prop where
 | done {R:az}:xv (gT Q n R) n .done->Ic Q n R R
 | size {R R':az} {i j:Nat}:xv (gT Q n R) n (.size i j)->Ic Q n (nV R i j (-Ji (gT Q n R) i j)) R'->Ic Q n R R'
 | swap {R R':az} {i:Nat}:xv (gT Q n R) n (.swap i)->Ic Q n (fun a b=>R (dq (i-1) i a) b) R'->Ic Q n R R'
def Fp(A:az)(i j:Nat):-Ji A i j=gn (fq A i j) (det (j+1) A):=by
 unfold Ji gn;rw[yZ,(om:fq A i j+fq A i j+det (j+1) A=2*fq A i j+det (j+1) A),(om:det (j+1) A+det (j+1) A=2*det (j+1) A)]
def wP(E c n pl i:Nat):Nat:=E+c*(pl-i*(n+1))
def wP_le{pl:Nat}(h:pl<=m):wP E c n pl i<=E+c*m:=by
 unfold wP;have:=aO c (om:pl-i*(n+1)<=m)
 omega
structure Gh(Q:az)(n d E:Nat)(R:az):Prop where
 ls:LS Q n d (wP E (3*d+8) n (lP (gT Q n R) n)) R
 dn:det n (gT Q n R)=det n Q
def O5{A:az}(h:Pd A n)(a:i<n)(b:j<i):2*((fq A i j+Ji A i j*det (j+1) A).natAbs:Int)<=det (j+1) A:=I3 (h.pos (j+1) om)
def Gh.add(h:Gh Q n d E R)(r:∀a b,a<n->b<n->Q a b=Q b a)(u:n<=8)(A:d+3<=E)(v:xv (gT Q n R) n (.size i j)) :
  Gh Q n d E (nV R i j (-Ji (gT Q n R) i j))/\wE (gT Q n (nV R i j (-Ji (gT Q n R) i j))) n<wE (gT Q n R) n:=by
 obtain⟨f1,f,g,s,w⟩:=v;have k:gT Q n R j j<=2^(d+3):=h.ls.row u om (fun c l=>g.1 j f1 c l);have m:=JS (n:=n) f1 f g s w (O5 h.ls.pd f f1);have x:i*(n+1)+(i-(j+1))<=lP (gT Q n R) n:=by
  refine wI (fun c l=>Cq g (fun j' B y=>s j' om y) om f l) _ ?_;have:(i+1)*(n+1)<=n*(n+1):=aq _ f;rw[cj]at this;omega
 have o:gT Q n (nV R i j (-Ji (gT Q n R) i j))=j8 (gT Q n R) i j (Ji (gT Q n R) i j):=by rw[wJ r,yZ]
 refine⟨⟨?_,?_⟩,?_⟩
 .have z:=h.ls.weak (w':=fun a=>if a=j then d+3 else wP E (3*d+8) n (lP (gT Q n R) n) a) (fun a p=>by
   try dsimp only
   by_cases e:a=j
   .subst e;rw[aj rfl];exact k
   .rw[ah e];exact h.ls.dg a p)
  have q:=z.sub r f1 f (by(try dsimp only);rw[aj rfl];exact ag _)
  rw[<-Fp]at q;refine q.weak fun a p=>cY (q.dg a p) (d9 ?_);rw[o];generalize lP (gT Q n R) n=pl at *;generalize lP (j8 (gT Q n R) i j (Ji (gT Q n R) i j)) n=pl' at *
  try dsimp only
  by_cases e:a=i
  .subst e;rw[aj rfl,ah om];unfold wP;have t:=aO (3*d+8) (om:pl-a*(n+1)+1<=pl'-a*(n+1))
   rw[bV]at t;omega
  .rw[ah e];unfold wP;have t:=aO (3*d+8) (om:pl-a*(n+1)<=pl'-a*(n+1))
   split<;>omega
 .rw[o,fo f1];exact h.dn
 .rw[o];exact L3 f1 m
def Gh.swap(h:Gh Q n d E R)(r:n<=8)(s:d+3<=E)(t:xv (gT Q n R) n (.swap i)) :
  Gh Q n d E (fun a b=>R (dq (i-1) i a) b)/\wE (gT Q n (fun a b=>R (dq (i-1) i a) b)) n<wE (gT Q n R) n:=by
 obtain⟨f1,f,u,v,l⟩:=t;have j:gT Q n (fun a b=>R (dq (i-1) i a) b)=xG (gT Q n R) i:=rfl;have w:lP (gT Q n R) n<=i*(n+1)+i:=by
  refine tp ?_ _;rw[FE om];exact fun x=>l (x.2 rfl f1)
 have g:∀a,a<n->gT Q n R a a<=2^E:=fun a m=>by
  rcases aB i a with o|o
  .refine cY (h.ls.dg a m) (d9 ?_);unfold wP;have:(i+1)*(n+1)<=a*(n+1):=aq _ o;rw[cj]at this;rw[(om:lP (gT Q n R) n-a*(n+1)=0)]
   omega
  .refine cY (h.ls.row r m fun c q=>?_) (d9 s);by_cases e:a=i
   .subst e;exact v c q
   .exact u.1 a om c q
 refine⟨⟨⟨?_,fun k p=>?_,?_,fun a m=>?_⟩,?_⟩,?_⟩
 .rw[j];exact h.ls.pd.swap f1 f
 .rw[j];by_cases e:k=i
  .subst e;have o:=BW h.ls.pd f1 f l;have A:=h.ls.lead k p;have B:=(h.ls.pd.swap f1 f).pos k p;omega
  .rw[mp f1 e];exact h.ls.lead k p
 .have y:det n (po (fun a b=>R (dq (i-1) i a) b))=- det n (po R):=mo (po R) (n:=n) (i:=i-1) (k:=i) om f om;rw[y,qf];exact h.ls.uni
 .have z:dq (i-1) i a<n:=by unfold dq;split<;>(try split)<;>omega
  exact cY (g _ z) (d9 (by unfold wP;omega))
 .rw[j,mp f1 om];exact h.dn
 .rw[j];exact J0 h.ls.pd f1 f l
def N6(q:∀a b,a<n->b<n->Q a b=Q b a)(l:n<=8)(o:d+3<=E):∀(m:Nat) (R:az),Gh Q n d E R->wE (gT Q n R) n<=m->∃R',Ic Q n R R'/\Gh Q n d E R'/\kh (gT Q n R') n:=by
 intro m
 induction m with
 | zero =>
  intro R h p;exfalso;have e:=h.ls.pd.pot_pos;unfold wE at p;have:0<Ge (gT Q n R) n*(n*(n+1)+1):=yW e om;omega
 | succ m ih =>
  intro R h p;obtain⟨ev,c⟩:=OM (gT Q n R) n
  cases ev with
  | done=>exact⟨R,.done c,h,c⟩
  | size i j =>
   obtain⟨e,r⟩:=h.add q l o c;obtain⟨R',f,g,k⟩:=ih _ e om;exact⟨R',.size c f,g,k⟩
  | swap i =>
   obtain⟨e,r⟩:=h.swap l o c;obtain⟨R',f,g,k⟩:=ih _ e om;exact⟨R',.swap c f,g,k⟩
def Gh.init{e:Nat}(f:Pd Q n)(b:1<=n)(c:∀i,i<n->Q i i<=2^e)(g:e*n<=d)(j:d<=E):Gh Q n d E jT:=by
 have h:=(wZ.init f b c g).ls;refine⟨h.weak fun i a=>?_,oe (ag n)⟩;rw[tq a a];refine cY (c i a) (d9 ?_);have:=aO e b;unfold wP;omega
structure QF(n:Nat)(Q:az):Prop where
 pd:Pd Q n
 one:1<=n
 five:n<=5
 ent:∀i j,i<n->j<n->(Q i j).natAbs<=246591576450
 dt:det n Q<=10000
def p2_38:(2:Int)^38=274877906944:=by decide
def QF.e(h:QF n Q):∀i,i<n->Q i i<=2^38:=fun i a=>by
 have:=h.ent i i a a;rw[p2_38];omega
def QF.init(h:QF n Q):Gh Q n 190 193 jT:=Gh.init h.pd h.one h.e (by have:=h.five;omega) om
def LQ{A:az}(a:n<=5):lP A n<=30:=by
 have b:=E3 A n;have c:n*(n+1)<=5*6:=aX a om;omega
def Gh.bits(h:Gh Q n 190 193 R)(g:QF n Q):(∀i j,i<n->j<n->(gT Q n R i j).natAbs<2^17540)/\(∀i j,i<n->j<n->(R i j).natAbs<2^17740)/\∀i j,i<n->j<i->(Ji (gT Q n R) i j).natAbs<2^17940:=by
 obtain⟨m,rfl⟩:∃m,n=m+1:=⟨n-1,by have:=g.one;omega⟩
 have r:=g.five;have k:∀i,wP 193 (3*190+8) (m+1) (lP (gT Q (m+1) R) (m+1)) i<=17533:=fun i=>wP_le (LQ r);obtain⟨W,o,s⟩:∃W,17533<=W/\W<=17533:=⟨_,ag _,ag _⟩;have p:∀i,i<m+1->gT Q (m+1) R i i<=2^W:=fun i c=>cY (h.ls.dg i c) (d9 (bQ (k i) o));refine⟨fun i j c d=>?_,fun i j c d=>?_,fun i j c d=>?_⟩
 .have f:=h.ls.pd.cs0 c d;have q:=tc (a8 (h.ls.pd.diag d)) (p i c) (p j d);exact oE (b:=17540) (rj (a:=W) (cY f (cY q (d9 om)))) om
 .have f:=h.ls.coord g.pd g.e om c d;exact oE (b:=17740) (rj (a:=190+W) (cY f (d9 (by have:=k i;omega)))) om
 .have f:=E5 (l:=fq (gT Q (m+1) R) i j) (h.ls.pd.pos (j+1) om);have q:=h.ls.lamB d c;rw[<-Fp,qf]at f;have t:=d9 (show 190+(190+wP 193 (3*190+8) (m+1) (lP (gT Q (m+1) R) (m+1)) i)<=190+(190+W) by have:=k i;omega)
  have u:=GN (190+(190+W));have v:=oa (190+(190+W)) 3;have w:=d9 (om:190+(190+W)+3<=2*(390+W))
  exact oE (b:=17940) (rj (a:=390+W) om) om

def wh{a:Nat}{f:Nat->Int}(b:j≠i)(k:j<n)(l:a<n):ap n (fun c=>dU jT j i q c a*f c)=f a+(if a=i then q*f j else 0):=by
 have e:ap n (fun c=>dU jT j i q c a*f c)=ap n (fun c=>jT c a*f c+(if c=j then(if a=i then q*f j else 0)else 0)):=ay fun c _=>by
  simp only[dU,jT];by_cases g:c=j
  .subst g;by_cases h:a=i
   .subst h;simp[b]
   .simp[h]
  .simp[g]
 rw[e,dH,cF a l (fun c _ d=>by simp[jT,d]),cF j k (fun c _ d=>by simp[d])]
 simp[jT]
def wg{a:Nat}{f:Nat->Int}(i:0<p)(d:p<n)(j:a<n):ap n (fun c=>jT (dq (p-1) p c) a*f c)=f (dq (p-1) p a):=by
 have g:dq (p-1) p a<n:=by unfold dq;split<;>(try split)<;>omega
 have b:dq (p-1) p (dq (p-1) p a)=a:=by unfold dq;grind
 rw[cF (dq (p-1) p a) g (fun c _ h=>?_)]
 .simp[jT,b]
 .have:dq (p-1) p c≠a:=fun e=>h (by rw[<-e];unfold dq;grind)
  simp[jT,this]
def Hl{a:Nat}{A:az}(d:j<i)(r:i<n)(e:a<n)(g:b<n):lz n (lz n (fun p c=>dU jT j i q c p) A) (dU jT j i q) a b=j8 A i j q a b:=by
 have h:∀c,c<n->lz n (fun p c=>dU jT j i q c p) A a c=A a c+(if a=i then q*A j c else 0):=fun c _=>wh (f:=fun t=>A t c) om om e
 have k:lz n (lz n (fun p c=>dU jT j i q c p) A) (dU jT j i q) a b=ap n (fun c=>dU jT j i q c b*(A a c+(if a=i then q*A j c else 0))):=ay fun c l=>by rw[h c l,bU]
 rw[k,wh (f:=fun c=>A a c+(if a=i then q*A j c else 0)) om om g]
 simp only[j8];by_cases m:a=i<;>by_cases o:b=i<;>simp[m,o]<;>grind
def Hk{a:Nat}{A:az}(e:0<p)(d:p<n)(g:a<n)(h:b<n):lz n (lz n (fun x c=>jT (dq (p-1) p c) x) A) (fun a b=>jT (dq (p-1) p a) b) a b=xG A p a b:=by
 have i:∀c,c<n->lz n (fun x c=>jT (dq (p-1) p c) x) A a c=A (dq (p-1) p a) c:=fun c _=>wg (f:=fun t=>A t c) e d g;have j:lz n (lz n (fun x c=>jT (dq (p-1) p c) x) A) (fun a b=>jT (dq (p-1) p a) b) a b=ap n (fun c=>jT (dq (p-1) p c) b*A (dq (p-1) p a) c):=ay fun c k=>by rw[i c k,bU]
 rw[j,wg (f:=fun c=>A (dq (p-1) p a) c) e d h];rfl
def matOf(x:AV):az:=fun i j=>match x with
 | .lst _ _ g=>(match g i with
  | .lst _ _ h=>(match h j with
   | .big z=>z
   | _=>0)
  | _=>0)
 | _=>0
def VR.tup3{z z':AV}(c:VR S x x')(d:VR S y y')(f:VR S z z'):VR S (.tup [x,y,z]) (.tup [x',y',z']):=by
 intro w v a b;simp only[bI]at b ⊢;obtain⟨vs,e,h⟩:=b;refine⟨vs,e,?_⟩
 match vs,h with
 | [u,v,t],h=>simp only[bB]at h ⊢;exact⟨c w u a h.1,d w v a h.2.1,f w t a h.2.2.1,trivial⟩
 | [],h=>simp[bB]at h
 | [_],h=>simp[bB]at h
 | [_,_],h=>simp[bB]at h
 | _::_::_::_::_,h=>simp[bB]at h
def Mm(a b k:Nat)(c:1<=k):nb (jT a b) k:=by
 unfold jT;split
 .exact nb.one c
 .exact nb.zero k
def OL(h:(z.natAbs:Int)<=176000):gU z:=by unfold gU;omega

def iV(S:St)(bt N:Nat):Prop:=∃(L:Nat) (nums:Nat->Int) (k:Nat) (g:Nat->AV),S bt=some ⟨107,1,2,g⟩/\g 0=.lst 1 L (fun i=>.int .i8 (nums i))/\g 1=ι k/\k<=N/\∀i,i<L->-128<=nums i/\nums i<=127
def iV.upd(h:iV S bt N)(a:bt≠c)(X:eA):iV (S.upd c X) bt N:=by
 obtain⟨L,nums,k,g,b,d⟩:=h;exact⟨L,nums,k,g,by rw[aE a];exact b,d⟩
def iV.step(h:iV S bt N)(a:S' bt=S bt):iV S' bt N:=by
 obtain⟨L,nums,k,g,b,c⟩:=h;exact⟨L,nums,k,g,by rw[a];exact b,c⟩
def iV.mono{M:Nat}(h:iV S bt N)(e:N<=M):iV S bt M:=by
 obtain⟨L,nums,k,g,a,b,c,f,d⟩:=h;exact⟨L,nums,k,g,a,b,c,om,d⟩
def iV.ne{g:Nat->AV}(h:iV S bt N)(a:S b=some ⟨ty,es,n,g⟩)(c:ty≠107):bt≠b:=by
 obtain⟨_,_,_,_,d,_⟩:=h;rintro rfl;rw[d]at a;cases a;exact c rfl
def iV.fresh(h:iV S bt N)(a:S c=ae):bt≠c:=by
 obtain⟨_,_,_,_,b,_⟩:=h;rintro rfl;rw[b]at a;cases a
def xf(S:St)(bt N:Nat)(h:iV S bt N)(m:N<=1000):cI 77 [ϰ bt 0] S (fun r S'=>∃z:Int,(-128<=z/\z<=127)/\r=ι z/\iV S' bt (N+1)/\∀d,d≠bt->S' d=S d):=by
 refine jg func77 ntmps77 results77 ?_;obtain⟨L,nums,k,g,e,c,f,n,a⟩:=h;simp -dsimp only[go_sem];refine aN 10 kr ?_
 by_cases i:L<=k
 .simp only[*,go_sem,aa,kG];exact⟨0,om,om,rfl,⟨L,nums,k,g,e,c,f,om,a⟩,fun _ _=>trivial⟩
 .simp -dsimp only[*,go_sem,aa,kG,aF (om:k<1000000)]
  refine aN 13 kr ?_
  have o:ω (((k+1:Nat):Int)-1)=(k:Nat):=dN om om;have b:k<L:=om
  have p:=a k b;have j:ω (nums k)=nums k:=i64_in om om;simp only[*,go_sem,aa,aL];refine⟨nums k,om,om,rfl,⟨L,nums,k+1,_,bW,?_,?_,om,a⟩,fun d l=>aE l⟩
  .simp[aL,c]
  .simp[aL]
def tE(S:St)(bt N m:Nat)(h:iV S bt N)(c:N<=1000)(j:1<=m)(e:m<=100):cI 150 [ϰ bt 0,ι m] S (fun r S'=>∃z:Nat,z<m/\r=ι z/\iV S' bt (N+1)/\∀d,d≠bt->S' d=S d):=by
 refine jg func150 ntmps150 results150 ?_;simp -dsimp only[go_sem,aa];refine(xf S bt N h c).mono ?_;rintro r S' ⟨z,k,rfl,f,g⟩;have a:∃y:Nat,y<256/\IntKind.u8.wrap z=y:=by
  rw[IntKind.wrap_u8];exact⟨(z%256).toNat,om,om⟩
 obtain⟨y,l,a⟩:=a;have i:ω (y:Int)=y:=i64_in om om;have b:¬((m:Int)=0):=om
 simp only[go_sem,a,i,b];refine⟨y%m,di _ om,?_,f,g⟩;rw[nL]
def No(S0 S:St)(bt:Nat):Prop:=∀d X,S0 d=some X->d≠bt->S d=some X
def CP(n most:Nat)(A:az):Prop:=∀i,i<n->(1<=A i i/\A i i<=most)/\∀j,j<n->j≠i->A i j=0
def DgI(S0 S:St)(b bt N n most i:Nat):Prop:=∃(g:Nat->Nat) (A:az),aY S b 29 1 n (fun a=>if a<i then ϑ (g a) 0 n else .nil)/\(∀a,a<i->oq S (g a) n (A a)/\S0 (g a)=ae)/\(∀a c,a<i->c<i->g a=g c->a=c) /\
 iV S bt (N+i)/\No S0 S bt/\S0 b=ae/\∀a,a<i->(1<=A a a/\A a a<=most)/\∀j,j<n->j≠a->A a j=0
def No.upd(h:No S0 S bt)(b:S0 c=ae)(X:eA):No S0 (S.upd c X) bt:=fun d Y a e=>by
 have:d≠c:=by rintro rfl;rw[b]at a;cases a
 rw[aE this];exact h d Y a e
def No.none(h:No S0 S bt)(a:S c=ae)(b:bt≠c):S0 c=ae:=by
 cases e:S0 c with
 | none=>rfl
 | some X=>rw[h c X e (ai b)]at a;cases a
def No.step(h:No S0 S bt)(b:∀d,d≠bt->S' d=S d):No S0 S' bt:=fun d X c a=>by rw[b d a];exact h d X c a
def mj(S0:St)(bt N n most:Nat)(P:iV S0 bt N)(hN:N+n<=900)(U:1<=most)(y:most<=100):cI 151 [ϰ bt 0,ι n,ι most] S0 (fun r S'=>∃b g A,r=ϑ b 0 n/\eg S' b g n n A/\iV S' bt (N+n)/\No S0 S' bt/\CP n most A/\S0 b=ae/\∀a,a<n->S0 (g a)=ae):=by
 refine jg func151 ntmps151 results151 ?_;simp -dsimp only[go_sem]
 repeat refine an ?_
 refine ax.intro fun o B=>?_;simp only[go_sem];have C:=P.fresh B;refine aC (fun O S=>∃i:Nat,i<=n/\O 0=ϰ bt 0/\O 1=ι n/\O 2=ι most/\O 7=ϑ o 0 n/\O 12=ι n/\O 13=ι i/\DgI S0 S o bt N n most i) (fun O S=>n-bO (O 13)) ?_ ?_
 .simp only[go_sem];exact⟨0,om,rfl,fun _=>0,fun _ _=>0,aY.here fun _ _=>by simp,fun a k=>om,fun a c k=>om,P.upd C _,(fun d X D _=>by rw[aE (fun e=>by rw[e,B]at D;cases D)];exact D),B,fun a k=>om⟩
 .rintro O S ⟨i,hi,e0,V,e2,W,E,F,g,A,Q,v,Y,m,s,t,R⟩;by_cases G:i<n
  .simp -dsimp only[*,go_sem,aa]
   repeat refine an ?_
   refine ax.intro fun f l=>?_;obtain⟨T,H,Z⟩:=Q;have p:o≠f:=fun e=>by rw[<-e,H]at l;cases l
   have q:bt≠o:=m.ne H om;have h:bt≠f:=m.fresh l;have u:S0 f=ae:=s.none l h;simp -dsimp only[*,go_sem];refine eO 7 [[0,1,2,3,4]] kr ?_
   simp -dsimp only[*,go_sem,aa,aL];have I:iV ((S.upd f ⟨2,1,n,fun _=>ι 0⟩).upd o ⟨29,1,n,aL T i (ϑ f 0 n)⟩) bt (N+i):=(m.upd h _).upd q _;refine(tE _ bt (N+i) most I om U y).mono ?_;rintro r S2 ⟨z,hz,rfl,J,w⟩;have k7:S2 o=some ⟨29,1,n,aL T i (ϑ f 0 n)⟩:=by rw[w o (ai q)];exact bW
   have k18:S2 f=some ⟨2,1,n,fun _=>ι 0⟩:=by rw[w f (ai h),aE (ai p)];exact bW
   have hw:ω (1+(z:Int))=((z+1:Nat):Int):=dN om om;simp only[*,go_sem,aa,aL,aF (om:i<1000000),bO]
   refine⟨⟨i+1,om,rfl,fun a=>if a=i then f else g a,fun a c=>if a=i then(if c=i then((z+1:Nat):Int)else 0)else A a c,(aY.of k7).upd p _ |>.congr fun a k=>?_,fun a k=>?_,fun a c k hc e=>?_,J.upd h _,(((s.upd u _).upd t _).step w).upd u _,t,fun a k=>?_⟩,om⟩
   .have:=Z a k;simp only[aL];grind
   .by_cases e:a=i
    .subst e;simp only[aH];refine⟨aY.here fun c hc=>?_,u⟩;simp only[aL];split<;>rfl
    .simp only[e,aI];obtain⟨x,r2⟩:=v a om;have K:g a≠f:=aY.fresh x l;have q2:g a≠o:=aY.ne x (aY.of H) om;have q3:g a≠bt:=by obtain⟨gg,L,_⟩:=x;exact ai (m.ne L om)
     refine⟨(x.via fun X hX=>?_).upd K _,r2⟩;rw[w _ q3,aE q2,aE K];exact hX
   .have K:∀a,a<i->g a≠f:=fun a k=>aY.fresh (v a k).1 l
    grind
   .by_cases e:a=i
    .subst e;refine⟨by simp only[aH];omega,fun j hj M=>by simp[M]⟩
    .simp only[e,aI];exact R a om
  .obtain rfl:i=n:=om
   simp only[go_sem,aa,V,W,E,F,G];exact⟨o,rfl,g,A,⟨Q.congr fun a k=>by simp[k],fun a k=>(v a k).1,Y⟩,m,s,R,t,fun a k=>(v a k).2⟩

structure RV(n most:Nat)(A:az):Prop where
 sym:∀a c,a<n->c<n->A a c=A c a
 diag:∀a,a<n->1<=A a a/\A a a<=most
 small:∀a c,a<n->c<n->-9<=A a c/\A a c<=9
def R7(S0 S:St)(b bt N n:Nat)(Q:az->Prop):Prop:=∃(g:Nat->Nat) (A:az),eg S b g n n A/\iV S bt N/\No S0 S bt/\S0 b=ae/\(∀a,a<n->S0 (g a)=ae)/\Q A
def tmod3(z:Int):-2<=z.tmod 3/\z.tmod 3<=2:=by
 have c:=tO (a:=z) (b:=3) om;omega
def DC(S0:St)(bt N n:Nat)(hT:iV S0 bt N)(Z:n<=8)(hN:N<=500):cI 148 [ϰ bt 0,ι n] S0 (fun r S'=>∃b,r=ϑ b 0 n/\R7 S0 S' b bt (N+n+n*n) n (RV n 6)):=by
 refine jg func148 ntmps148 results148 ?_;have hnn:n*n<=64:=aX Z Z;simp -dsimp only[go_sem,aa];refine(mj S0 bt N n 6 hT om om om).mono ?_;rintro r S1 ⟨b,g,A,rfl,o,l,p,x,q,m⟩;simp only[go_sem];refine aC (fun O S=>∃i:Nat,i<=n/\O 0=ϰ bt 0/\O 5=ϑ b 0 n/\O 12=ι n/\O 13=ι i/\R7 S0 S b bt (N+n+i*n) n (RV n 6)) (fun O S=>n-bO (O 13)) ?_ ?_
 .simp only[go_sem];refine⟨0,om,rfl,g,A,o,l.mono om,p,q,m,fun a c h u=>?_,fun a h=>(x a h).1,fun a c h u=>?_⟩
  .by_cases e:a=c
   .rw[e]
   .rw[(x a h).2 c u (ai e),(x c u).2 a h e]
  .by_cases e:c=a
   .have:=(x a h).1;rw[e];omega
   .rw[(x a h).2 c u e];omega
 .clear o l p x q m;rintro O S ⟨i,hi,e0,H,y,B,I⟩;by_cases d:i<n
  .have hin:i*n+n<=n*n:=by rw[<-cj];exact aq _ d
   simp only[*,go_sem];refine aC (fun O S=>∃k:Nat,k<=i/\O 0=ϰ bt 0/\O 5=ϑ b 0 n/\O 6=ι i/\O 7=ι k/\O 12=ι n/\O 13=ι i/\R7 S0 S b bt (N+n+i*n+k) n (RV n 6)) (fun O S=>i-bO (O 7)) ?_ ?_
   .simp only[*,go_sem];exact⟨0,om,rfl,I⟩
   .clear I;rintro O S ⟨k,hk,e0,H,e6,e7,y,B,g,A,o,l,p,q,m,G⟩;by_cases hki:k<i
    .have f:k<n:=om
     obtain⟨C,J,D⟩:=o.outer;obtain⟨gi,ui,vi⟩:=o.row i d;have w1:C i=ϑ (g i) 0 n:=D i d;have w2:C k=ϑ (g k) 0 n:=D k f;simp -dsimp only[*,go_sem];refine eO 6 [[0,1,2,3,4]] kr ?_
     simp -dsimp only[*,go_sem,aa];refine(xf S bt _ l om).mono ?_;rintro r S2 ⟨z,hz,rfl,K,v⟩;have L:bt≠b:=l.ne J om;have w:∀a,a<n->g a≠bt:=fun a h=>by obtain⟨gg,M,_⟩:=o.row a h;exact ai (l.ne M om)
     have s:eg S2 b g n n A:=⟨o.outer.via fun X P=>by rw[v b (ai L)];exact P,fun a h=>(o.row a h).via fun X P=>by rw[v _ (w a h)];exact P,o.inj⟩
     obtain⟨C,J,D⟩:=s.outer;obtain⟨gi,ui,vi⟩:=s.row i d;have w1:C i=ϑ (g i) 0 n:=D i d;have w2:C k=ϑ (g k) 0 n:=D k f;have hz3:=tmod3 z;simp -dsimp only[go_sem,aa,H,e6,e7,d,f,J,w1,ui,show ¬((3:Int)=0) by decide]
     have t:=s.set (j:=k) (z:=z.tmod 3) d ui;have hMi:=s.outer_ne d;obtain⟨E,Q,F⟩:=t.outer;obtain⟨gi',ui',vi'⟩:=t.row i d;obtain⟨gk',uk',vk'⟩:=t.row k f;have R:E i=ϑ (g i) 0 n:=F i d;have T:E k=ϑ (g k) 0 n:=F k f;have U:gi' k=ι (z.tmod 3):=by rw[vi' k f];simp[dU]
     have hki':g i≠g k:=fun e=>by have:=o.inj i k d f e;omega
     have V:=K.upd (ai (w i d)) ⟨2,1,n,aL gi k (ι (z.tmod 3))⟩;have W:=(p.step v).upd (m i d) ⟨2,1,n,aL gi k (ι (z.tmod 3))⟩;generalize S2.upd (g i) ⟨2,1,n,aL gi k (ι (z.tmod 3))⟩=S3 at *;simp -dsimp only[*,go_sem];refine aN 13 kr ?_
     simp only[go_sem,aa,e0,H,e6,e7,y,B,d,f,Q,R,T,ui',U,uk',aF (om:k<1000000),bO]
     have Y:=t.set (j:=i) (z:=z.tmod 3) f uk';refine⟨⟨k+1,om,rfl,g,_,Y,V.upd (ai (w k f)) _,W.upd (m k f) _,q,m,fun a c h u=>?_,fun a h=>?_,fun a c h u=>?_⟩,om⟩
     .have:=G.sym a c h u;simp only[dU];grind
     .have:=G.diag a h;simp only[dU];rw[ah om,ah om];exact this
     .have:=G.small a c h u;simp only[dU];split
      .omega
      .split
       .omega
       .exact this
    .simp only[*,go_sem,aF (om:i<1000000),bO]
     exact⟨⟨i+1,om,rfl,g,A,o,l.mono (by rw[cj];omega),p,q,m,G⟩,om⟩
  .obtain rfl:i=n:=om
   simp only[*,go_sem];exact⟨b,rfl,I⟩

structure Ee(S:St)(b:Nat)(g:Nat->Nat)(n i:Nat)(A:az):Prop where
 outer:aY S b 29 1 n (fun a=>if a<i then ϑ (g a) 0 n else .nil)
 row:∀a,a<i->oq S (g a) n (A a)
 inj:∀a c,a<i->c<i->g a=g c->a=c
def Ee.outer_ne{A:az}(h:Ee S b g n i A){a:Nat}(c:a<i):b≠g a:=aY.ne h.outer (h.row a c) om
def Ee.set{A:az}(h:Ee S b g n i A){a j:Nat}{z:Int}{g':Nat->AV}(k:a<i)(m:S (g a)=some ⟨2,1,n,g'⟩):Ee (S.upd (g a) ⟨2,1,n,aL g' j (ι z)⟩) b g n i (dU A a j z):=by
 refine⟨h.outer.upd (h.outer_ne k) _,fun c d=>?_,h.inj⟩;by_cases e:c=a
 .subst e;obtain⟨r,l,o⟩:=h.row c d;rw[m]at l;cases l;refine aY.here fun t p=>?_;have:=o t p;simp only[aL,dU]
  grind
 .have f:g c≠g a:=fun q=>e (h.inj c a d k q);refine((h.row c d).upd f _).congr fun t _=>?_;simp[dU,e]
def Ee.new{A:az}(h:Ee S b g n i A){c:Nat}(v:i<n)(k:S c=ae){m:Nat->AV}(o:S b=some ⟨29,1,n,m⟩)(s:∀j,j<n->A i j=0) :
  Ee ((S.upd c ⟨2,1,n,fun _=>ι 0⟩).upd b ⟨29,1,n,aL m i (ϑ c 0 n)⟩) b (fun a=>if a=i then c else g a) n (i+1) A:=by
 have l:b≠c:=fun e=>by rw[<-e,o]at k;cases k
 obtain⟨w,p,t⟩:=h.outer;rw[o]at p;cases p;refine⟨aY.here fun a f=>?_,fun a f=>?_,fun a d f x e=>?_⟩
 .have:=t a f;simp only[aL];grind
 .by_cases e:a=i
  .subst e;simp only[aH];exact(aY.here fun j u=>by rw[s j u]).upd (ai l) _
  .simp only[e,aI];have r:=h.row a om;exact(r.upd (aY.fresh r k) _).upd (ai (h.outer_ne om)) _
 .have q:∀a,a<i->g a≠c:=fun a f=>aY.fresh (h.row a f) k;have:=h.inj
  grind
structure Sa(n i:Nat)(A:az):Prop where
 sym:∀a c,A a c=A c a
 out:∀a c,i<=a∨i<=c->A a c=0
 diag:∀a,a<i->A a a=2
 small:∀a c,-9<=A a c/\A a c<=9
def ChI(S0 S:St)(b n i:Nat):Prop:=∃(g:Nat->Nat) (A:az),Ee S b g n i A/\Sa n i A/\dh S0 S/\S0 b=ae/\∀a,a<i->S0 (g a)=ae
def Sa.next0{A:az}(h:Sa n i A):Sa n (i+1) (dU A i i 2):=by
 refine⟨fun a c=>?_,fun a c b=>?_,fun a d=>?_,fun a c=>?_⟩
 .have:=h.sym a c;simp only[dU];grind
 .simp only[dU];rw[ah om];exact h.out a c om
 .simp only[dU];by_cases e:a=i
  .simp[e]
  .rw[ah om];exact h.diag a om
 .have:=h.small a c;simp only[dU];split
  .omega
  .exact this
def Sa.next{A:az}(h:Sa n i A)(f:m<i):Sa n (i+1) (dU (dU (dU A i i 2) i m (-1)) m i (-1)):=by
 have b:=h.next0;refine⟨fun a c=>?_,fun a c d=>?_,fun a e=>?_,fun a c=>?_⟩
 .have:=b.sym a c;simp only[dU]at this ⊢;grind
 .have:=b.out a c d;simp only[dU]at this ⊢;grind
 .have:=b.diag a e;simp only[dU]at this ⊢;grind
 .have:=b.small a c;simp only[dU]at this ⊢;grind
def Az(S0:St)(n:Nat)(fork:Bool)(hn:n<=8):cI 149 [ι n,.bool fork] S0 (fun r S'=>∃b,r=ϑ b 0 n/\ChI S0 S' b n n):=by
 refine jg func149 ntmps149 results149 ?_;simp -dsimp only[go_sem]
 repeat refine an ?_
 refine ax.intro fun N f5=>?_;simp only[go_sem];refine aC (fun O S=>∃i:Nat,i<=n/\O 0=ι n/\O 1=.bool fork/\O 5=ϑ N 0 n/\O 11=ι n/\O 12=ι i/\ChI S0 S N n i) (fun O S=>n-bO (O 12)) ?_ ?_
 .simp only[go_sem];exact⟨0,om,rfl,fun _=>0,fun _ _=>0,⟨aY.here fun _ _=>by simp,fun a X=>om,fun a c X=>om⟩,⟨fun _ _=>rfl,fun _ _ _=>rfl,fun a X=>om,fun _ _=>om⟩,(dh.refl S0).upd f5 _,f5,fun a X=>om⟩
 .rintro O S ⟨i,hi,Y,T,Z,I,J,g,A,y,K,L,v,G⟩;by_cases p:i<n
  .obtain⟨U,M,v1⟩:=y.outer;simp -dsimp only[*,go_sem,aa]
   repeat refine an ?_
   refine ax.intro fun B o=>?_;have k:N≠B:=fun e=>by rw[<-e,M]at o;cases o
   have hM1:=y.new p o M (fun j _=>K.out i j om);have hE1:=(L.upd (L.none o) ⟨2,1,n,fun _=>ι 0⟩).upd v ⟨29,1,n,aL U i (ϑ B 0 n)⟩;have hw1:ω ((i:Int)-1)=(i:Int)-1:=i64_in om om;have hw2:ω ((i:Int)-2)=(i:Int)-2:=i64_in om om;have C:ω ((n:Int)-1)=(n:Int)-1:=i64_in om om;have D:∀a,a<i+1->S0 ((fun a=>if a=i then B else g a) a)=ae:=fun a X=>by
    by_cases e:a=i
    .simp only[e,aH];exact L.none o
    .simp only[e,aI];exact G a om
   have w:=hM1.set (a:=i) (j:=i) (z:=2) (g':=fun _=>ι 0) om (by simp only[aH];rw[aE (ai k)];exact bW)
   simp only[aH]at w;have E:=hE1.upd (L.none o) ⟨2,1,n,aL (fun _=>ι 0) i (ι 2)⟩;by_cases hB:fork=true/\i+1=n/\3<n
   .obtain⟨rfl,V,h3⟩:=hB;obtain⟨m,hm⟩:∃m,i=m+2:=⟨i-2,om⟩
    have P:((i:Int)==(n:Int)-1)=true:=by simp;omega
    have q2:(3:Int)<(n:Int):=om
    have H:ω ((i:Int)-2)=(m:Nat):=dN om om;simp -dsimp only[go_sem,p,nn k,M,aL,C,hw1,P,q2,H];have q:m<n:=om
    have l:=w.set (a:=i) (j:=m) (z:=-1) (g':=aL (fun _=>ι 0) i (ι 2)) om (by simp only[aH];exact bW)
    simp only[aH]at l;obtain⟨gm,um,vm⟩:=l.row m om;have d:m≠i:=om
    simp only[d,aI]at um vm;have s:=l.set (a:=m) (j:=i) (z:=-1) (g':=gm) om (by simp only[d,aI];exact um)
    simp only[d,aI]at s;have wm:U m=ϑ (g m) 0 n:=by rw[v1 m q];simp only[];rw[aj om]
    have f:g m≠B:=aY.fresh (y.row m om) o;have t:g m≠N:=ai (y.outer_ne om);obtain⟨F,u,Q⟩:=y.row m om;obtain rfl:F=gm:=by
     rw[aE f,aE f,aE t,aE f,u]at um;cases um;rfl
    refine fm 11 kr ?_
    simp only[go_sem,aa,Y,T,Z,I,J,p,k,aL,q,wm,f,t,u,d,aF (om:i<1000000),bO]
    exact⟨⟨i+1,om,rfl,_,_,s,K.next om,(E.upd (L.none o) _).upd (G m om) _,v,D⟩,om⟩
   .cases R:fork with
    | false =>
     rw[R]at T;rcases bD i with x|x
     .have H:ω ((i:Int)-1)=-1:=by rw[x];decide
      have W:¬((0:Int)<=-1):=by decide
      simp only[go_sem,p,nn k,M,aL,C,H,W,aF (om:i<1000000),bO]
      exact⟨⟨i+1,om,rfl,_,_,w,K.next0,E,v,D⟩,om⟩
     .obtain⟨m,hm⟩:∃m,i=m+1:=⟨i-1,om⟩
      have H:ω ((i:Int)-1)=(m:Nat):=dN om om;simp -dsimp only[go_sem,p,nn k,M,aL,C,H];have q:m<n:=om
      have l:=w.set (a:=i) (j:=m) (z:=-1) (g':=aL (fun _=>ι 0) i (ι 2)) om (by simp only[aH];exact bW)
      simp only[aH]at l;obtain⟨gm,um,vm⟩:=l.row m om;have d:m≠i:=om
      simp only[d,aI]at um vm;have s:=l.set (a:=m) (j:=i) (z:=-1) (g':=gm) om (by simp only[d,aI];exact um)
      simp only[d,aI]at s;have wm:U m=ϑ (g m) 0 n:=by rw[v1 m q];simp only[];rw[aj om]
      have f:g m≠B:=aY.fresh (y.row m om) o;have t:g m≠N:=ai (y.outer_ne om);obtain⟨F,u,Q⟩:=y.row m om;obtain rfl:F=gm:=by
       rw[aE f,aE f,aE t,aE f,u]at um;cases um;rfl
      refine fm 11 kr ?_
      simp only[go_sem,aa,Y,T,Z,I,J,p,k,aL,q,wm,f,t,u,d,aF (om:i<1000000),bO]
      exact⟨⟨i+1,om,rfl,_,_,s,K.next om,(E.upd (L.none o) _).upd (G m om) _,v,D⟩,om⟩
    | true =>
     rw[R]at T;by_cases V:i+1=n
     .have P:((i:Int)==(n:Int)-1)=true:=by simp;omega
      have h3:¬3<n:=fun h=>hB ⟨R,V,h⟩;have q2:¬(3:Int)<(n:Int):=om
      rcases bD i with x|x
      .have H:ω ((i:Int)-1)=-1:=by rw[x];decide
       have W:¬((0:Int)<=-1):=by decide
       simp only[go_sem,p,nn k,M,aL,C,P,q2,H,W,aF (om:i<1000000),bO]
       exact⟨⟨i+1,om,rfl,_,_,w,K.next0,E,v,D⟩,om⟩
      .obtain⟨m,hm⟩:∃m,i=m+1:=⟨i-1,om⟩
       have H:ω ((i:Int)-1)=(m:Nat):=dN om om;simp -dsimp only[go_sem,p,nn k,M,aL,C,P,q2,H];have q:m<n:=om
       have l:=w.set (a:=i) (j:=m) (z:=-1) (g':=aL (fun _=>ι 0) i (ι 2)) om (by simp only[aH];exact bW)
       simp only[aH]at l;obtain⟨gm,um,vm⟩:=l.row m om;have d:m≠i:=om
       simp only[d,aI]at um vm;have s:=l.set (a:=m) (j:=i) (z:=-1) (g':=gm) om (by simp only[d,aI];exact um)
       simp only[d,aI]at s;have wm:U m=ϑ (g m) 0 n:=by rw[v1 m q];simp only[];rw[aj om]
       have f:g m≠B:=aY.fresh (y.row m om) o;have t:g m≠N:=ai (y.outer_ne om);obtain⟨F,u,Q⟩:=y.row m om;obtain rfl:F=gm:=by
        rw[aE f,aE f,aE t,aE f,u]at um;cases um;rfl
       refine fm 11 kr ?_
       simp only[go_sem,aa,Y,T,Z,I,J,p,k,aL,q,wm,f,t,u,d,aF (om:i<1000000),bO]
       exact⟨⟨i+1,om,rfl,_,_,s,K.next om,(E.upd (L.none o) _).upd (G m om) _,v,D⟩,om⟩
     .have P:((i:Int)==(n:Int)-1)=false:=by simp;omega
      rcases bD i with x|x
      .have H:ω ((i:Int)-1)=-1:=by rw[x];decide
       have W:¬((0:Int)<=-1):=by decide
       simp only[go_sem,p,nn k,M,aL,C,P,H,W,aF (om:i<1000000),bO]
       exact⟨⟨i+1,om,rfl,_,_,w,K.next0,E,v,D⟩,om⟩
      .obtain⟨m,hm⟩:∃m,i=m+1:=⟨i-1,om⟩
       have H:ω ((i:Int)-1)=(m:Nat):=dN om om;simp -dsimp only[go_sem,p,nn k,M,aL,C,P,H];have q:m<n:=om
       have l:=w.set (a:=i) (j:=m) (z:=-1) (g':=aL (fun _=>ι 0) i (ι 2)) om (by simp only[aH];exact bW)
       simp only[aH]at l;obtain⟨gm,um,vm⟩:=l.row m om;have d:m≠i:=om
       simp only[d,aI]at um vm;have s:=l.set (a:=m) (j:=i) (z:=-1) (g':=gm) om (by simp only[d,aI];exact um)
       simp only[d,aI]at s;have wm:U m=ϑ (g m) 0 n:=by rw[v1 m q];simp only[];rw[aj om]
       have f:g m≠B:=aY.fresh (y.row m om) o;have t:g m≠N:=ai (y.outer_ne om);obtain⟨F,u,Q⟩:=y.row m om;obtain rfl:F=gm:=by
        rw[aE f,aE f,aE t,aE f,u]at um;cases um;rfl
       refine fm 11 kr ?_
       simp only[go_sem,aa,Y,T,Z,I,J,p,k,aL,q,wm,f,t,u,d,aF (om:i<1000000),bO]
       exact⟨⟨i+1,om,rfl,_,_,s,K.next om,(E.upd (L.none o) _).upd (G m om) _,v,D⟩,om⟩
  .obtain rfl:i=n:=om
   simp only[*,go_sem,aa];exact⟨N,rfl,g,A,y,K,L,v,G⟩

def nb9(h:-9<=z/\z<=9):nb z 4:=by unfold nb;omega
def P7(h:-9<=z/\z<=9):xa z:=by unfold xa;omega
def Jf(n:Nat)(A:az)(d:1<=n)(l:n<=8)(m:∀a c,a<n->c<n->A a c=A c a)(o:∀a c,a<n->c<n->-9<=A a c/\A a c<=9)(β:Bool)(hβ:β=true↔(∀k,k<=n->0<det k A)/\det n A<=10000):PF 152 [av n n A] (.bool β):=by
 refine iy func152 ntmps152 results152 ?_;have b:∀i j,i<n->j<n->nb (A i j) 4:=fun i j f g=>nb9 (o i j f g);have p:=oF (k:=n) (n:=n) om b (ag _);have q:nb 10000 (17*(4+10)):=cZ (by decide:10000<2^14) (cu om om)
 simp -dsimp only[go_sem,aa];refine(yh n n A d om d om (fun i j f g=>P7 (o i j f g))).call ?_;simp -dsimp only[go_sem,aa];rcases iM (∀k,k<=n->0<det k A)with e|e
 .refine(oQ n A 4 d l b om m true (by simp;exact e)).call ?_
  simp -dsimp only[go_sem,aa,show((0:Int)==0)=true from rfl];refine(io n A 4 d om b om).call ?_;simp -dsimp only[go_sem,aa,show((0:Int)==0)=true from rfl];refine(fA dc dc).call ?_
  simp -dsimp only[go_sem,aa,show((0:Int)==0)=true from rfl];refine(qr p q om).call ?_;simp only[go_sem,show((0:Int)==0)=true from rfl,sj];have:β=decide (det n A<=10000):=by
   cases β with
   | true=>have:=(hβ.1 rfl).2;simp[this]
   | false =>
    by_cases h:det n A<=10000
    .exact absurd (hβ.2 ⟨e,h⟩) sm
    .simp[h]
  rw[this];exact VR.mf rfl
 .refine(oQ n A 4 d l b om m false (by simp only[dB,Th];exact e)).call ?_
  simp only[go_sem,show((5:Int)==0)=false from rfl];have:β=false:=by
   cases β with
   | false=>rfl
   | true=>exact absurd (hβ.1 rfl).1 e
  rw[this];exact VR.mf rfl
structure QN(n:Nat)(A:az):Prop where
 one:1<=n
 five:n<=5
 sym:∀a c,a<n->c<n->A a c=A c a
 pos:∀k,k<=n->0<det k A
 small:det n A<=10000
 diag:∀i,i<n->A i i<=9
 ent:∀a c,a<n->c<n->-9<=A a c/\A a c<=9
def LN{f:Nat->Int}(h:∀i,i<n->0<f i/\f i<=2):fT n f<=2^n:=by
 induction n generalizing f with
 | zero=>simp[fT]
 | succ n ih =>
  simp only[fT];have a:=ih (f:=fun i=>f (i+1)) (fun i b=>h (i+1) om);have c:=wB (n:=n) (f:=fun i=>f (i+1)) (fun i b=>(h (i+1) om).1);have d:=ck (h 0 om).2 a (a8 c) om;rw[eH];omega
def CP.det{most:Nat}{A:az}(h:CP n most A){k:Nat}(c:k<=n):det k A=fT k (fun r=>A r r):=by
 have a:=qA (n:=0) k A (by rw[aM];exact fun r d=>⟨fun j e b=>(h r om).2 j om om,by have:=(h r om).1.1;omega⟩)
 rw[aM]at a;rw[a,show Go.Proofs.YtdobfmlmenaajaaGreatDoor.det 0 _=1 from rfl,iw]
def CP.good{A:az}(h:CP n 2 A)(l:1<=n)(j:n<=5):QN n A:=by
 have m:∀k,k<=n->0<Go.Proofs.YtdobfmlmenaajaaGreatDoor.det k A:=fun k o=>by
  rw[h.det o];exact wB fun i d=>by have:=(h i om).1.1;omega
 refine⟨l,j,fun a c b g=>?_,m,?_,fun i d=>by have:=(h i d).1.2;omega,fun a c b g=>?_⟩
 .by_cases e:a=c
  .rw[e]
  .rw[(h a b).2 c g (ai e),(h c g).2 a b e]
 .rw[h.det (ag _)];have p:=LN (n:=n) (f:=fun r=>A r r) (fun i d=>by have:=(h i d).1;constructor<;>omega)
  have q:=d9 j;have s:(2:Int)^5=32:=by decide
  omega
 .by_cases e:c=a
  .have:=(h a b).1;rw[e];omega
  .rw[(h a b).2 c g e];omega
def Oq(d k L:Nat)(nums:Nat->Int)(Lb:Nat)(base:Nat->AV):AV:=.agg [.int .u8 d,.int .u8 k,.lst 1 L (fun i=>.int .i8 (nums i)),.lst 1 Lb base]
def EIM(f:Nat)(args:List AV)(P:Nat->az->Prop):Prop:=∀S args',eM S args' args->cI f args' S (fun r S'=>∃b g n A,P n A/\r=ϑ b 0 n/\gZ S S' b g n n A)
def EIM.of{P:Nat->az->Prop}(h:cI f args St.none (fun r S'=>∃b g n A,P n A/\r=ϑ b 0 n/\eg S' b g n n A)):EIM f args P:=fun S args' d=>by
 have i:cI f args St.none (fun r S'=>∃b g n A,P n A/\r=ϑ b 0 n/\eg S' b g n n A/\Gl S'):=h.less fun r S' ⟨b,g,n,A,c,e,a⟩=>⟨eN S' b g n,iT S' b g n,b,g,n,A,c,e,a.only.1,a.only.2⟩;refine(i.frame d ?_).mono ?_
 .rintro r S1 ⟨b,g,n,A,_,rfl,_,j⟩;exact⟨rfl,j⟩
 .rintro r S' ⟨S1,⟨b,g,n,A,c,rfl,a,_⟩,k,rfl⟩;exact⟨b,g,n,A,c,rfl,a.join k⟩
def MX{a b c d e r:Code}{Q:AX->Tm->St->Prop}(P:Tm->St->Prop)(h:∀r' Q',Q'=Q->(∀O S,P O S->Aw r' Q' O S)->Aw (.seq a (.seq b (.seq c (.seq d (.seq e r'))))) Q' O S)(f:∀O S,P O S->Aw r Q O S) :
  Aw (.seq a (.seq b (.seq c (.seq d (.seq e r))))) Q O S:=h r Q rfl f
def DrawI(n:Nat)(O:Tm)(S:St):Prop:=∃(b5 b ps:Nat) (g:Nat->Nat) (A:az),O 5=ϰ b5 0/\O 6=ι n/\O 7=ϑ b 0 n/\eg S b g n n A/\iV S b5 ps/\ps<=100/\(∀a c,a<n->c<n->A a c=A c a)/\∀a c,a<n->c<n->-9<=A a c/\A a c<=9
def xY{z:Nat}{b5 ps:Nat}{A:az}(e:p<n)(k:z<=3)(f:eg S b g n n A)(h:iV S b5 ps)(d:g p≠b5)(u:S (g p)=some ⟨2,1,n,g2⟩)(i:∀a c,A a c=A c a)(j:∀a c,-9<=A a c/\A a c<=9) :
  eg (S.upd (g p) ⟨2,1,n,aL g2 p (ι ((2+z:Nat):Int))⟩) b g n n (dU A p p ((2+z:Nat):Int))/\iV (S.upd (g p) ⟨2,1,n,aL g2 p (ι ((2+z:Nat):Int))⟩) b5 ps/\(∀a c,a<n->c<n->dU A p p ((2+z:Nat):Int) a c=dU A p p ((2+z:Nat):Int) c a)/\∀a c,a<n->c<n->-9<=dU A p p ((2+z:Nat):Int) a c/\dU A p p ((2+z:Nat):Int) a c<=9:=by
 refine⟨f.set e u,h.upd (ai d) _,fun a c _ _=>?_,fun a c _ _=>?_⟩
 .have:=i a c;simp only[dU];grind
 .have:=j a c;simp only[dU];split
  .omega
  .exact this
def Nn(M d k L:Nat)(nums:Nat->Int)(Lb:Nat)(base:Nat->AV)(h:1<=M)(hM5:M<=5)(hd:d<256)(hk:k<256)(hnums:∀i,i<L->-128<=nums i/\nums i<=127):EIM 89 [Oq d k L nums Lb base,ι M] (fun n A=>QN n A/\n<=M):=by
 refine EIM.of ?_;refine jg func89 ntmps89 results89 ?_;obtain⟨n,hn,hnd⟩:∃n,n=1+d%M/\1+d%M=n:=⟨_,rfl,rfl⟩;have hml:=di d (om:0<M)
 have V:n<=M:=om
 have W:n<=5:=om
 have hnn:n*n<=25:=aX W W;have R:ω (d:Int)=(d:Nat):=i64_in om om;have T:et (d:Int) (M:Int)=((d%M:Nat):Int):=by rw[nL]
 have U:ω (1+((d%M:Nat):Int))=(n:Nat):=dN om om;have hMz:¬((M:Int)=0):=om
 have w4:et (k:Int) 8=((k%8:Nat):Int):=by rw[nL]<;>rfl
 refine MX (DrawI n) (fun r' Q' _ key=>?_) ?_
 .simp -dsimp only[go_sem,aa,Oq,aU,bF,ca,cA];refine ax.intro fun b2 f2=>?_;simp -dsimp only[go_sem,bL,bJ];refine ax.intro fun l f5=>?_;have n5_2:=(af f5).1;have y:iV ((St.none.upd b2 ⟨24,1,4,fun j=>[AV.int .u8 d,.int .u8 k,.lst 1 L (fun i=>.int .i8 (nums i)),.lst 1 Lb base].getD j .any⟩).upd l ⟨107,1,2,fun j=>[AV.lst 1 L (fun i=>.int .i8 (nums i)),ι 0].getD j .any⟩) l 0:=⟨L,nums,0,_,bW,rfl,rfl,ag _,hnums⟩;obtain⟨q,hq,hq8⟩:∃q:Int,q=((k%8:Nat):Int)/\((q=0∨q=1∨q=2∨q=3)∨q=4∨q=5∨q=6∨q=7):=⟨_,rfl,om⟩
  rw[<-hq]at w4;simp -dsimp only[go_sem,ai n5_2,bL,bJ,R,T,U,w4,hMz,show ¬((8:Int)=0) by decide]
  clear hq w4;have Y:∀{A:az} {m:Nat},m<=9->CP n m A->(∀a c,a<n->c<n->A a c=A c a)/\∀a c,a<n->c<n->-9<=A a c/\A a c<=9:=by
   intro A m hm G;refine⟨fun a c o hc=>?_,fun a c o hc=>?_⟩
   .by_cases e:a=c
    .rw[e]
    .rw[(G a o).2 c hc (ai e),(G c hc).2 a o e]
   .by_cases e:c=a
    .have:=(G a o).1;rw[e];omega
    .rw[(G a o).2 c hc e];omega
  rcases hq8 with (rfl|rfl|rfl|rfl)|rfl|rfl|rfl|rfl
  case inl.inl|inl.inr.inl|inl.inr.inr.inl|inl.inr.inr.inr =>
   simp -dsimp only[go_sem,CK];refine(DC _ l 0 n y om om).mono ?_;rintro r S1 ⟨b,rfl,g,A,D,u,Z,E,F,hP⟩;simp only[go_sem,R,T,U];refine key _ _ ?_;exact⟨l,b,_,g,A,by simp only[go_sem],by simp only[go_sem],by simp only[go_sem],D,u,om,hP.sym,hP.small⟩
  case inr.inl =>
   simp -dsimp only[go_sem,CK];refine(Az _ n false om).mono ?_;rintro r S1 ⟨b,rfl,g,A,v,H,hE,E,F⟩;have h:eg S1 b g n n A:=⟨v.outer.congr fun a o=>by simp[o],v.row,v.inj⟩
   have w:iV S1 l 0:=y.step ((hE _ _ bW).trans bW.symm);have t:(0:Nat)<n:=om
   obtain⟨g1,I,v1⟩:=h.outer;obtain⟨g2,u2,v2⟩:=h.row 0 t;have x1:g1 0=ϑ (g 0) 0 n:=v1 0 t;have x2:g2 0=ι 2:=by rw[v2 0 t];simp only[H.diag 0 t]
   simp -dsimp only[go_sem,R,T,U];refine eO 6 [[0,1,2,3,4],[0,1],[]] kr ?_
   simp -dsimp only[go_sem,aa,I,u2,x1,x2,show((0:Int)<(n:Int)) by omega,jr]
   repeat refine an ?_
   refine(tE _ l 0 3 w om om om).mono ?_;rintro r S2 ⟨z,hz,rfl,J,s⟩;have B:l≠b:=w.ne I om;have x:∀a,a<n->g a≠l:=fun a o=>by obtain⟨gg,K,_⟩:=h.row a o;exact ai (w.ne K om)
   have N:eg S2 b g n n A:=⟨h.outer.via fun X P=>by rw[s b (ai B)];exact P,fun a o=>(h.row a o).via fun X P=>by rw[s _ (x a o)];exact P,h.inj⟩
   have Q:S2 b=some ⟨29,1,n,g1⟩:=by rw[s b (ai B)];exact I
   have C:S2 (g 0)=some ⟨2,1,n,g2⟩:=by rw[s _ (x 0 t)];exact u2
   have wz:ω (2+(z:Int))=((2+z:Nat):Int):=dN om om;simp only[go_sem,aa,Q,C,x1,x2,wz,show((0:Int)<(n:Int)) by omega,jr]
   repeat refine an ?_
   obtain⟨k1,k2,k3⟩:=xY (z:=z) t om N J (x 0 t) C H.sym H.small;refine key _ _ ?_;exact⟨l,b,_,g,_,by simp only[go_sem],by simp only[go_sem],by simp only[go_sem],k1,k2,om,k3⟩
  case inr.inr.inl =>
   simp -dsimp only[go_sem,CK];refine(Az _ n true om).mono ?_;rintro r S1 ⟨b,rfl,g,A,v,H,hE,E,F⟩;have h:eg S1 b g n n A:=⟨v.outer.congr fun a o=>by simp[o],v.row,v.inj⟩
   have w:iV S1 l 0:=y.step ((hE _ _ bW).trans bW.symm);obtain⟨p,hpn⟩:∃p,n=p+1:=⟨n-1,om⟩
   have t:p<n:=om
   have wp:ω ((n:Int)-1)=(p:Nat):=dN om om;obtain⟨g1,I,v1⟩:=h.outer;obtain⟨g2,u2,v2⟩:=h.row p t;have x1:g1 p=ϑ (g p) 0 n:=v1 p t;have x2:g2 p=ι 2:=by rw[v2 p t];simp only[H.diag p t]
   simp -dsimp only[go_sem,R,T,U];refine eO 10 [[0,1,2,3,4,5,6,7,8],[0,1,2,3,5],[]] kr ?_
   simp -dsimp only[go_sem,aa,I,u2,x1,x2,wp,t];refine(tE _ l 0 2 w om om om).mono ?_;rintro r S2 ⟨z,hz,rfl,J,s⟩;have B:l≠b:=w.ne I om;have x:∀a,a<n->g a≠l:=fun a o=>by obtain⟨gg,K,_⟩:=h.row a o;exact ai (w.ne K om)
   have N:eg S2 b g n n A:=⟨h.outer.via fun X P=>by rw[s b (ai B)];exact P,fun a o=>(h.row a o).via fun X P=>by rw[s _ (x a o)];exact P,h.inj⟩
   have Q:S2 b=some ⟨29,1,n,g1⟩:=by rw[s b (ai B)];exact I
   have C:S2 (g p)=some ⟨2,1,n,g2⟩:=by rw[s _ (x p t)];exact u2
   have wz:ω (2+(z:Int))=((2+z:Nat):Int):=dN om om;simp only[go_sem,aa,Q,C,x1,x2,wz,wp,t];obtain⟨k1,k2,k3⟩:=xY (z:=z) t om N J (x p t) C H.sym H.small;refine key _ _ ?_;exact⟨l,b,_,g,_,by simp only[go_sem],by simp only[go_sem],by simp only[go_sem],k1,k2,om,k3⟩
  case inr.inr.inr.inl =>
   simp -dsimp only[go_sem,CK];refine(mj _ l 0 n 9 y om om om).mono ?_;rintro r S1 ⟨b,g,A,rfl,D,u,Z,G,E,F⟩;have f:=Y om G;simp only[go_sem,R,T,U];refine key _ _ ?_;exact⟨l,b,_,g,A,by simp only[go_sem],by simp only[go_sem],by simp only[go_sem],D,u,om,f⟩
  case inr.inr.inr.inr =>
   simp -dsimp only[go_sem,CK];refine(mj _ l 0 n 1 y om om om).mono ?_;rintro r S1 ⟨b,g,A,rfl,D,u,Z,G,E,F⟩;have f:=Y om G;simp only[go_sem,R,T,U];refine key _ _ ?_;exact⟨l,b,_,g,A,by simp only[go_sem],by simp only[go_sem],by simp only[go_sem],D,u,om,f⟩
 rintro O S ⟨l,b,ps,g,A,e5,e6,e7,D,u,hps,f⟩;simp -dsimp only[go_sem,aa,e7];rcases iM ((∀k,k<=n->0<det k A)/\det n A<=10000)with hg|hg
 .refine(Jf n A om om f.1 f.2 true (by simp only[true_iff];exact hg)).spec (eM.cons D.vr.va eM.nil) ?_
  simp only[go_sem,aa,e5,e6,e7];exact⟨b,g,n,A,⟨om,om,f.1,hg.1,hg.2,fun i hi=>(f.2 i i hi hi).2,f.2⟩,V,rfl,D⟩
 .refine(Jf n A om om f.1 f.2 false (by simp only[dB,Th];exact hg)).spec (eM.cons D.vr.va eM.nil) ?_
  simp -dsimp only[go_sem,aa,e5,e6,e7];refine(mj _ l _ n 2 u om om om).mono ?_;rintro r S9 ⟨b',g',A',rfl,hM',hTp',hFr',hD',_,_⟩;simp only[go_sem];exact⟨b',g',n,A',hD'.good om om,V,rfl,hM'⟩

def Kg{m:Int}(c:0<m):a%m=if a.tmod m<0 then a.tmod m+m else a.tmod m:=by
 have e:=yj a m;have h:=tO (a:=a) (b:=m) om;split
 .refine(pG (a:=a) (b:=m) (q:=a.tdiv m-1) (r:=a.tmod m+m) ?_ om om).2;rw[mT,iw];omega
 .exact(pG (a:=a) (b:=m) (q:=a.tdiv m) (r:=a.tmod m) om om om).2
def Ef{m:Int}(c:0<m)(d:m<=1000000000000):PF 35 [ι a,ι m] (ι (a%m)):=by
 refine iy func35 ntmps35 results35 ?_;rw[Kg c];have h:=tO (a:=a) (b:=m) om;by_cases e:a.tmod m<0
 .have f:ω (a.tmod m+m)=a.tmod m+m:=i64_in om om;simp only[*,go_sem,(om:¬(m=0))]
  exact VR.mf rfl
 .simp only[go_sem,(om:¬(m=0)),e]
  exact VR.mf rfl
def qm{a:Nat}:et (a:Int) (m:Int)=((a%m:Nat):Int):=by rw[nL]
def Is_pf(p:Nat)(q:2<=p)(j:p<=9973)(β:Bool)(hβ:β=true↔∀d,2<=d->d*d<=p->¬p%d=0):PF 240 [ι p] (.bool β):=by
 refine iy func240 ntmps240 results240 ?_;simp only[go_sem,(om:¬((p:Int)<2)),(om:¬((2147483647:Int)<p))]
 refine aC (fun O S=>∃d:Nat,2<=d/\d<=100/\O 0=ι p/\O 3=ι d/\∀e,2<=e->e<d->¬p%e=0) (fun O S=>101-bO (O 3)) ?_ ?_
 .simp only[go_sem];exact⟨2,om,om,rfl,fun e c g=>om⟩
 .rintro O S ⟨d,k,b,r,s,a⟩;have l:d*d<=100*100:=aX b b;have t:ω ((d:Int)*d)=((d*d:Nat):Int):=dN (by rw[aV]) om
  have m:¬((d:Int)=0):=om
  by_cases f:d*d<=p
  .have n:d<100:=by
    rcases aB d 100 with h|h
    .exact h
    .have:100*100<=d*d:=aX h h;omega
   by_cases i:p%d=0
   .simp only[*,go_sem,aa,kG,qm,show((((0:Nat)):Int)==0)=true from rfl];have:β=false:=by
     cases β with
     | false=>rfl
     | true=>exact absurd i (hβ.1 rfl d k f)
    rw[this];exact VR.mf rfl
   .have o:(((p%d:Nat):Int)==0)=false:=by simp;omega
    simp only[*,go_sem,aa,kG,qm,aF (om:d<1000000),bO]
    refine⟨⟨d+1,om,om,rfl,fun e c g=>?_⟩,om⟩
    by_cases e':e=d
    .rw[e'];exact i
    .exact a e c om
  .simp only[*,go_sem,aa,kG];have:β=true:=hβ.2 fun e c g=>a e c (by
    rcases aB e d with h|h
    .exact h
    .have:=aX h h;omega)
   rw[this];exact VR.mf rfl
def rQ(p:Int):Prop:=3<=p/\p<=9973/\tH p.toNat
def rQ.of(h:nI p):rQ p:=⟨by have:=h.2.1;omega,by have:=h.2.2;omega,h.1⟩
def rQ.nat{p:Int}(h:rQ p):∃q:Nat,p=q/\nI q:=⟨p.toNat,by have:=h.1;omega,h.2.2,by have:=h.1;omega,by have:=h.2.1;omega⟩
def KX(p:Int)(a:p<=9973)(β:Bool)(hβ:β=true↔2<=p/\tH p.toNat):PF 240 [ι p] (.bool β):=by
 by_cases b:p<2
 .refine iy func240 ntmps240 results240 ?_;simp only[go_sem,show decide (p<2)=true by simpa using b]
  rw[dC hβ fun h=>om]
  exact VR.mf rfl
 .obtain⟨q,rfl⟩:∃q:Nat,p=q:=⟨p.toNat,om⟩
  exact Is_pf q om om β (by rw[hβ,cR];exact⟨fun h=>h.2.2,fun h=>⟨om,om,h⟩⟩)
def Nh(p:Int)(β:Bool)(hβ:β=true↔rQ p):PF 153 [ι p] (.bool β):=by
 refine iy func153 ntmps153 results153 ?_;by_cases b:p=2
 .subst b;simp only[go_sem,aa,show((2:Int) != 2)=false from rfl];rw[dC hβ fun h=>by have:=h.1;omega]
  exact VR.mf rfl
 have c:(p != 2)=true:=by simpa using b
 simp -dsimp only[go_sem,aa,c];refine PF.call (z:=.bool β) (PF.of_spec (B4 func202 rfl 9 ntmps202 kr sm (by simp[results202]) ?_)) ?_
 .rw[jY,results202];by_cases a:p<=9973
  .simp -dsimp only[go_sem,aa,show decide (p<=9973)=true by simpa using a]
   refine(KX p a β (by rw[hβ];unfold rQ;constructor<;>intro h<;>(refine⟨om,?_⟩;first|exact h.2.2|exact⟨a,h.2⟩))).call ?_
   simp only[go_sem,show decide (p<=9973)=true by simpa using a]
   exact VR.mf rfl
  .simp only[go_sem,aa,show decide (p<=9973)=false by simpa using a]
   rw[dC hβ fun h=>a h.2.1];exact VR.mf rfl
 simp only[go_sem,c];exact VR.mf rfl
def Im(n:Nat)(H:az):Prop:=∀i j,i<n->j<n->((H i j).natAbs:Int)<=176000
def Im.nb(h:Im n H){i j:Nat}(a:i<n)(b:j<n):nb (H i j) 18:=by
 have:=h i j a b;unfold Go.Proofs.YtdobfmlmenaajaaGreatDoor.nb;omega
def Im.r64(h:Im n H){i j:Nat}(a:i<n)(b:j<n):xa (H i j):=by
 have:=h i j a b;unfold xa;omega
def Nr(n:Nat)(H:az)(a:1<=n)(e:n<=8)(d:Im n H)(f:0<det n H/\det n H<=10000):PF 31 [av n n H] (ι (det n H)):=by
 refine iy func31 ntmps31 results31 ?_;simp -dsimp only[go_sem,aa];refine(yh n n H a om a om (fun i j b c=>d.r64 b c)).call ?_;simp -dsimp only[go_sem,aa];refine(io n H 18 a om (fun i j b c=>d.nb b c) om).call ?_;simp -dsimp only[go_sem,aa];refine(ww (by unfold gU;omega)).call ?_
 simp only[go_sem];exact VR.mf rfl
def Ej(n:Nat)(p:Int)(H:az)(b:1<=n)(c:n<=8)(d:Im n H)(e:0<det n H/\det n H<=10000)(β:Bool)(hβ:β=true↔rQ p/\¬det n H%p=0):PF 90 [av n n H,ι p] (.bool β):=by
 refine iy func90 ntmps90 results90 ?_;simp -dsimp only[go_sem,aa];rcases iM (rQ p)with a|a
 .refine(Nh p true (by simp[a])).call ?_
  have i:=a.1;simp -dsimp only[go_sem,aa];refine(Nr n H b c d e).call ?_;have f:(det n H).tmod p=det n H%p:=aJ om;have g:β=(det n H%p != 0):=by
   by_cases h:det n H%p=0
   .rw[h];exact dC hβ fun h'=>h'.2 h
   .rw[hβ.2 ⟨a,h⟩];simp[h]
  simp only[go_sem,(om:¬(p=0)),f]
  rw[g];exact VR.mf rfl
 .refine(Nh p false (by simp[a])).call ?_
  simp only[go_sem];rw[dC hβ fun h=>a h.1];exact VR.mf rfl
def KQ(n p:Nat)(l:n<=8)(e:1<=p)(c:p<=900):PF 91 [ι n,ι p] (.bool (decide (p^n<=65536))):=by
 refine iy func91 ntmps91 results91 ?_;simp only[go_sem];refine aC (fun O S=>∃i:Nat,i<=n/\p^i<=65536/\O 0=ι n/\O 1=ι p/\O 5=ι ((p^i:Nat):Int)/\O 6=ι i) (fun O S=>n-bO (O 6)) ?_ ?_
 .simp only[go_sem];exact⟨0,om,sm,sm,rfl⟩
 .rintro O S ⟨i,m,a,f,g,h,j⟩;by_cases b:i<n
  .have o:p^i*p<=65536*900:=aX a c;have q:ω (((p^i:Nat):Int)*p)=((p^(i+1):Nat):Int):=dN (by rw[bZ,aV]) (by rw[bZ];omega)
   by_cases k:p^(i+1)<=65536
   .simp only[*,go_sem,(om:¬((65536:Int)<((p^(i+1):Nat):Int))),aF (om:i<1000000),bO]
    exact⟨⟨i+1,om,k,rfl,rfl⟩,om⟩
   .simp only[*,go_sem,show((65536:Int)<((p^(i+1):Nat):Int)) by omega]
    have:p^(i+1)<=p^n:=cu e b;have d:decide (p^n<=65536)=false:=by simp;omega
    rw[d];exact VR.mf rfl
  .obtain rfl:i=n:=om
   simp only[go_sem,f,g,h,j,b];have d:decide (p^i<=65536)=true:=by simp;exact a
   rw[d];exact VR.mf rfl
def AH{s b m:Int}:(s%m+(a%m)*(b%m)%m)%m=(s+a*b)%m:=by
 rw[QK s,eZ a b]
def Ag(n m:Nat)(H:az)(v:Nat->Int)(J:n<=8)(K:1<=m)(q:m<=2147483647):PF 60 [av n n H,aK n v,ι m] (aK n (fun i=>(ap n fun j=>H i j*v j)%m)):=by
 refine iy func60 ntmps60 results60 ?_;have r:¬((m:Int)=0):=om
 simp only[go_sem,av,aK];refine aC (fun O S=>∃(i:Nat) (x:AV),i<=n/\O 1=aK n v/\O 2=ι m/\O 7=x/\O 13=av n n H/\O 14=ι n/\O 15=ι i/\cN 2 1 St.none S x i (fun i=>ι ((ap n fun j=>H i j*v j)%m))) (fun O S=>n-bO (O 15)) ?_ ?_
 .simp only[go_sem,av,aK];exact⟨0,om,rfl,cN.nil (dh.noneS _) _⟩
 .rintro O S ⟨i,x,L,s,t,u,e,f,g,k⟩;by_cases w:i<n
  .simp only[*,go_sem,av,aK];refine aC (fun O S'=>∃j:Nat,j<=n/\O 1=aK n v/\O 2=ι m/\O 7=x/\O 10=ι ((ap j fun j=>H i j*v j)%m)/\O 13=av n n H/\O 14=ι n/\O 15=ι i/\O 19=aK n (H i)/\O 20=ι n/\O 21=ι j/\S'=S) (fun O S=>n-bO (O 21)) ?_ ?_
   .simp only[*,go_sem,av,aK];exact⟨0,om,by simp[ap],rfl⟩
   .rintro O S' ⟨j,M,s,t,u,y,e,f,g,z,A,B,rfl⟩;by_cases C:j<n
    .have b:(0:Int)<m:=om
     have D:=aW (H i j) (show(m:Int)≠0 by omega)
     have N:=aS (H i j) b;have p:=aW (v j) (show(m:Int)≠0 by omega)
     have P:=aS (v j) b;have E:=cC D p;have Q:H i j%m*(v j%m)<=2147483647*2147483647:=ck om om p om;have R:ω (H i j%m*(v j%m))=H i j%m*(v j%m):=i64_in om om;have T:et (H i j%m*(v j%m)) m=(H i j%m*(v j%m))%m:=aJ E;have s1:=aW (ap j fun j=>H i j*v j) (show(m:Int)≠0 by omega)
     have U:=aS (ap j fun j=>H i j*v j) b;have V:=aW (H i j%m*(v j%m)) (show(m:Int)≠0 by omega)
     have W:=aS (H i j%m*(v j%m)) b;have X:ω ((ap j fun j=>H i j*v j)%m+(H i j%m*(v j%m))%m)=(ap j fun j=>H i j*v j)%m+(H i j%m*(v j%m))%m:=i64_in om om;have Y:et ((ap j fun j=>H i j*v j)%m+(H i j%m*(v j%m))%m) m=(ap (j+1) fun j=>H i j*v j)%m:=by
      rw[aJ om,AH];rfl
     simp -dsimp only[*,go_sem,av,aK];refine aN 16 kr ?_
     simp only[*,go_sem,aa,av,aK];refine⟨_,(Ef b om).pure',_,(Ef b om).pure',?_⟩;simp only[*,go_sem,aF (om:j<1000000),bO]
     exact⟨⟨j+1,om,rfl,rfl⟩,om⟩
    .obtain rfl:j=n:=om
     simp -dsimp only[*,go_sem,av,aK];refine ax.intro fun F l=>?_;simp -dsimp only[*,go_sem];have d:=k.fresh l;refine cN.app2 (k.upd (by rfl) d _) om (show dY 1 (ι ((ap j fun j=>H i j*v j)%m)) by simp[dY]) (aQ ⟨_,_,_,rfl,bW,rfl,fun h=>d _ h rfl⟩) ?_
     intro c S2 o G I;simp only[*,go_sem,av,aK,aF (om:i<1000000),bO]
     exact⟨⟨i+1,om,rfl,o.congr fun a Z=>by grind⟩,om⟩
  .obtain rfl:i=n:=om
   simp only[*,go_sem,av,aK];exact k.vr fun a _=>VR.mf rfl

def RJ(Q:az)(n:Nat)(Rf R:az)(S0 S:St)(x:AV):Prop:=∃(b:Nat) (g:Nat->Nat),Ic Q n R Rf/\Gh Q n 190 193 R/\x=ϑ b 0 n/\dr S b g n n (po R)/\dh S0 S
def Lq{a:Nat}(f1:j<i)(d:i<n)(e:a<n)(b:c<n):lz n (po R) (dU jT j i q) a c=po (nV R i j (-q)) a c:=by
 have h:=wh (n:=n) (i:=i) (j:=j) (a:=c) (q:=q) (f:=fun t=>R t a) om om b;rw[show lz n (po R) (dU jT j i q) a c=ap n (fun t=>dU jT j i q t c*R t a)from ay fun t _=>bU _ _,h];simp only[po,nV];split
 .grind
 .grind
def Lp{a:Nat}(f1:0<i)(d:i<n)(g:a<n)(e:c<n):lz n (po R) (fun a b=>jT (dq (i-1) i a) b) a c=po (fun a b=>R (dq (i-1) i a) b) a c:=by
 have h:=wg (n:=n) (p:=i) (a:=c) (f:=fun t=>R t a) f1 d e;rw[show lz n (po R) (fun a b=>jT (dq (i-1) i a) b) a c=ap n (fun t=>jT (dq (i-1) i t) c*R t a)from ay fun t _=>bU _ _,h];rfl
structure RedR(Q:az)(n:Nat)(R:az):Prop where
 inv:Gh Q n 190 193 R
 red:Ed (gT Q n R) n
def BD(n:Nat)(Q:az)(t:QF n Q):∃R,RedR Q n R/\∀S,cI 53 [aP n n Q] S (fun r S'=>∃b g c gc S1,r=.tup [ϑ b 0 n,ϑ c 0 n,ι 0]/\gZ S1 S' b g n n (gT Q n R)/\dr S' c gc n n (po R)/\dh S S1):=by
 have l:=t.one;have h2:=t.five;have I:=t.pd.sym;have V:=t.dt;have J:∀i j,i<n->j<n->nb (Q i j) 39:=fun i j K L=>by have:=t.ent i j K L;unfold nb;omega
 obtain⟨Rf,W,u,M⟩:=N6 (Q:=Q) (n:=n) (d:=190) (E:=193) I om om _ jT t.init (ag _);have v:Ed (gT Q n Rf) n:=Ed.of u.ls.pd M om (by rw[u.dn];omega)
 refine⟨Rf,⟨u,v⟩,fun S0=>?_⟩;refine jg func53 ntmps53 results53 ?_;simp -dsimp only[go_sem,aa];refine(oQ n Q 39 l om J om I true (by simp;exact t.pd.pos)).call ?_
 simp -dsimp only[go_sem,aa,show((0:Int) != 0)=false from rfl];refine(B5 n Q 39 l om J om).call ?_;simp -dsimp only[go_sem,aa,V];refine((En n n Q 39 om l om J om).congr (B:=gT Q n jT) (fun a c f h=>(tq f h).symm)).pf.call ?_;simp -dsimp only[go_sem,aa,aP];refine(rR n l om _ _ (cD _ _)).mono ?_;rintro r S1 ⟨b,g,rfl,A⟩;simp only[go_sem];refine aC (fun O S=>∃R:az,O 6=aP n n (gT Q n R)/\RJ Q n Rf R S0 S (O 7)) (fun O S=>wE (matOf (O 6)) n) ?_ ?_
 .simp only[go_sem,aP,bn];exact⟨jT,rfl,b,g,W,t.init,rfl,A.1.congr fun a c _ _=>by simp only[po,jT];by_cases e:a=c<;>simp[e,eq_comm],A.2.1⟩
 .rintro O S ⟨R,x,b,g,C,u,X,A,N⟩;obtain⟨bA,bT,bq⟩:=u.bits t;have m:∀i j,i<n->j<n->nb (gT Q n R i j) 17540:=bA;have q:∀k,k<=n->0<det k (gT Q n R):=fun k Y=>u.ls.pd.pos k Y
  cases C with
  | done s =>
   simp -dsimp only[go_sem,aa,x];refine(C4 n (gT Q n Rf) 17540 l om m om q .done s).call ?_;simp -dsimp only[go_sem,aa,x,evV];have D:∀i j,i<n->j<n->gU (gT Q n Rf i j):=fun i j K L=>OL (v.entry om K L);refine(wX n n (gT Q n Rf) l om l om D _ _ (cD _ _)).mono ?_;rintro r S2 ⟨F,G,rfl,o⟩;simp only[*,go_sem];exact⟨F,G,b,rfl,g,S,o,A.ext o.2.1,N⟩
  | size s p =>
   rename_i i j;obtain⟨f1,w,P,T,U⟩:=s;have s:xv (gT Q n R) n (.size i j):=⟨f1,w,P,T,U⟩;have H:∀a c,a<n->c<n->nb (Qk (gT Q n R) (.size i j) a c) 17940:=fun a c _ _=>by
    simp only[Qk,dU];split
    .exact bq i j w f1
    .exact Mm a c _ om
   obtain⟨y,z⟩:=u.add I om om s;have Z:gT Q n (nV R i j (-Ji (gT Q n R) i j))=j8 (gT Q n R) i j (Ji (gT Q n R) i j):=by rw[wJ I,yZ]
   simp -dsimp only[go_sem,aa,x];refine(C4 n (gT Q n R) 17540 l om m om q (.size i j) s).call ?_;simp -dsimp only[go_sem,aa,x,evV];refine((vO n (gT Q n R) (Qk (gT Q n R) (.size i j)) 17940 l om (fun a c f h=>(m a c f h).mono om) (fun a c f h=>H a c f h) om).congr (B:=gT Q n (nV R i j (-Ji (gT Q n R) i j))) (fun a c f h=>by rw[Z];exact Hl f1 w f h)).pf.call ?_
   simp -dsimp only[*,go_sem,aa];refine(l8 n n n (po R) (Qk (gT Q n R) (.size i j)) 17940 l om l om l om (fun a c f h=>nb.mono (bT c a h f) om) (fun a c f h=>H a c f h) om _ _ (eM.mat A (cD _ _))).mono ?_;rintro r S2 ⟨F,G,rfl,o⟩;simp only[go_sem,x,X];exact⟨⟨_,rfl,F,G,p,y,rfl,o.1.congr fun a c f h=>Lq f1 w f h,N.trans o.2.1⟩,z⟩
  | swap s p =>
   rename_i i;obtain⟨f1,w,P,T,U⟩:=s;have s:xv (gT Q n R) n (.swap i):=⟨f1,w,P,T,U⟩;have H:∀a c,a<n->c<n->nb (Qk (gT Q n R) (.swap i) a c) 17940:=fun a c _ _=>Mm _ c _ om;obtain⟨y,z⟩:=u.swap om om s;simp -dsimp only[go_sem,aa,x];refine(C4 n (gT Q n R) 17540 l om m om q (.swap i) s).call ?_;simp -dsimp only[go_sem,aa,x,evV];refine((vO n (gT Q n R) (Qk (gT Q n R) (.swap i)) 17940 l om (fun a c f h=>(m a c f h).mono om) (fun a c f h=>H a c f h) om).congr (B:=gT Q n (fun a b=>R (dq (i-1) i a) b)) (fun a c f h=>Hk f1 w f h)).pf.call ?_;simp -dsimp only[*,go_sem,aa];refine(l8 n n n (po R) (Qk (gT Q n R) (.swap i)) 17940 l om l om l om (fun a c f h=>nb.mono (bT c a h f) om) (fun a c f h=>H a c f h) om _ _ (eM.mat A (cD _ _))).mono ?_;rintro r S2 ⟨F,G,rfl,o⟩;simp only[*,go_sem];exact⟨⟨_,rfl,F,G,p,y,rfl,o.1.congr fun a c f h=>Lp f1 w f h,N.trans o.2.1⟩,z⟩
def FV(n:Nat)(Q:az)(a:QF n Q):∃R,RedR Q n R/\PF 53 [aP n n Q] (.tup [av n n (gT Q n R),aP n n (po R),ι 0]):=by
 obtain⟨R,d,h⟩:=BD n Q a;refine⟨R,d,PF.of_spec ((h St.none).mono ?_)⟩;rintro _ S' ⟨b,g,c,gc,S1,rfl,e,f,_⟩;exact VR.tup3 e.1.vr f.vr (VR.mf rfl)

end Go.Proofs.YtdobfmlmenaajaaGreatDoor
