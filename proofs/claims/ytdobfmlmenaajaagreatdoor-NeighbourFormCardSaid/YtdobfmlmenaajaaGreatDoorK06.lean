/-
  Lemmas for NeighbourForm.
-/
import Derived.Test.YtdobfmlmenaajaaGreatDoorK05
namespace Go.Proofs.YtdobfmlmenaajaaGreatDoor
open Go.RowKit Tryz
open _root_.Int renaming tmod→eV,gcd→mC,reduceBEq→CK
open _root_.Option renaming none→ae
set_option maxHeartbeats 6400000
set_option maxRecDepth 4096
set_option linter.all false
attribute [local go_sem] Nat.reduceAdd Nat.reduceEqDiff Nat.reduceLeDiff Nat.reduceLT reduceCtorEq Int.ofNat_lt decide_true decide_false Int.zero_le_ofNat
attribute [local go_sem ↓] reduceIte
variable{x x' y y':AV}{K post post':AV->St->Prop}{s:Bool}{a q z:Int}{args args' l:List AV}{xs:List Nat}{E N b bt c d es f i j k k0 m n p ty:Nat}{g' g2:Nat->AV}{r:Nat->Int}{g σ:Nat->Nat}{A B:Nat->Nat->Int}{M M':Nat->Prop}{S S' S0 S1:St}{O:Tm}{v:Value}{w:World}{H Q R:az}{X:eo}
def dy(S S':St):Prop:=∀k X,S k=some X->S' k=some X
def dy.refl(S:St):dy S S:=fun _ _ h=>h
def dy.upd(h:dy S S'){b:Nat}(c:S b=ae)(X:eo):dy S (S'.upd b X):=fun k Y a=>by
 have d:k≠b:=by rintro rfl;rw[c]at a;cases a
 rw[aG d];exact h k Y a
def dy.none(h:dy S S'){b:Nat}(a:S' b=ae):S b=ae:=by
 cases e:S b with
 | none=>rfl
 | some X=>rw[h b X e]at a;cases a
def dy.trans{S'':St}(h:dy S S')(k:dy S' S''):dy S S'':=fun b X a=>k b X (h b X a)
def dy.has(h:dy S S'){b ty es n:Nat}{g:Nat->AV}(a:a6 S b ty es n g):a6 S' b ty es n g:=by
 obtain⟨g',c,d⟩:=a;exact⟨g',h b _ c,d⟩
def bS:AV->Nat
 | .int _ k=>k.toNat
 | _=>0
def cT(S:St)(b ty es:Nat)(z:AV):Prop:=∃g,S b=some ⟨ty,es,1,g⟩/\g 0=z
def cT.upd{z:AV}(h:cT S b ty es z)(a:b≠c)(X:eo):cT (S.upd c X) b ty es z:=by
 obtain⟨g,d,e⟩:=h;exact⟨g,by rw[aG a];exact d,e⟩
def cT.new{g:Nat->AV}{z:AV}(h:g 0=z):cT (S.upd b ⟨ty,es,1,g⟩) b ty es z:=⟨g,ca,h⟩
def cT.set{g:Nat->AV}{z:AV}:cT (S.upd b ⟨ty,es,1,aQ g 0 z⟩) b ty es z:=⟨_,ca,by simp[aQ]⟩
def cT.fresh{z:AV}(h:cT S b ty es z)(a:S c=ae):b≠c:=by
 rintro rfl;obtain⟨g,d,_⟩:=h;rw[d]at a;cases a
def af(h:S.upd b X c=ae):c≠b/\S c=ae:=by
 simp only[St.upd]at h;by_cases e:c=b
 .rw[aj e]at h;cases h
 .rw[ah e]at h;exact⟨e,h⟩
def zT{f:Nat->Int}(h:∀j,j<n->nb (f j) k)(d:n<=1024):∀m,m<=n->nb (ap m f) (k+10):=by
 have key:∀m,m<=n->(ap m f).natAbs<=m*(2^k-1):=by
  intro m
  induction m with
  | zero=>intro _;simp[ap]
  | succ m ih =>
   intro a;have c:=ih om;have b:=h m om;unfold nb at b;simp only[ap];rw[cg];omega
 intro m a;have c:=key m a;have b:m*(2^k-1)<=1024*(2^k-1):=aq _ om;have e:0<2^k:=iL om;unfold nb;rw[fz];omega
def Rq(n:Nat)(x y:Nat->Int)(k:Nat)(g:∀j,j<n->nb (x j) k)(h:∀j,j<n->nb (y j) k)(s:k<=1000000000)(t:n<=1000):PF 213 [aY n x,aY n y] (.big (ap n fun j=>x j*y j)):=by
 refine gN func213 ntmps213 results213 ?_;simp -dsimp only[go_sem,aY];refine ax.intro fun b u=>?_;simp -dsimp only[go_sem];refine ax.intro fun c l=>?_;have d:b≠c:=ai (af l).1;simp only[go_sem];have m:=zT (f:=fun j=>x j*y j) (k:=k+k) (fun j e=>(g j e).mul (h j e)) (om:n<=1024)
 refine aC (fun O S=>∃j:Nat,j<=n/\O 0=aY n x/\O 1=aY n y/\O 4=.ptr 2 b 0/\O 5=.ptr 2 c 0/\O 9=ι n/\O 10=ι j/\cT S b 50 2 (.big 0)/\cT S c 50 2 (.big (ap j fun j=>x j*y j))) (fun O S=>n-bS (O 10)) ?_ ?_
 .simp only[go_sem,aY];exact⟨0,om,rfl,((cT.new rfl).upd d _).upd d _,cT.set⟩
 .rintro O S ⟨j,e,v,w,z,A,B,o,p,q⟩;obtain⟨gb,i,eb⟩:=p;obtain⟨gc,r,ec⟩:=q;by_cases a:j<n
  .simp -dsimp only[*,go_sem,bS,aY];refine aN 11 kr ?_
   have C:ω ((j:Int)+1)=((j+1:Nat):Int):=dP om om;simp only[*,go_sem,aY];exact⟨.big (x j*y j),(ji (g j a) (h j a) om).pure',.big ((ap j fun j=>x j*y j)+x j*y j),(tU (m j e) (((g j a).mul (h j a)).mono om) om).pure',trivial,
    ⟨j+1,om,rfl,cT.upd ⟨gb,i,eb⟩ d _,cT.set⟩,om⟩
  .simp only[*,go_sem,bS,aY];obtain rfl:j=n:=om
   exact VR.mf rfl

def dlt{b:Int}(h:¬a<b):decide (a<b)=false:=by simpa using h
theorem Ds{w:World}{M M':Nat->Prop}:∀(l:List AV) (vs:List Value),(∀x∈l,ql x=true)->a8 w M l vs->a8 w M' l vs
 | [],[],_,_=>by simp[a8]
 | x::l,v::vs,h,a=>by
  simp only[a8]at a ⊢;exact⟨tZ (h x (fB ..)) a.1,Ds l vs (fun y b=>h y (ee _ b)) a.2⟩
 | [],_::_,_,a=>by simp[a8]at a
 | _::_,[],_,a=>by simp[a8]at a
def VR.tup(h:∀x∈l,ql x=true):VR S (.tup l) (.tup l):=by
 intro w v d a;simp only[bH]at a ⊢;obtain⟨vs,b,c⟩:=a;refine⟨vs,b,?_⟩;exact Ds l vs h c
def mo(n m:Nat)(A:Nat->Nat->Int)(f:1<=n)(g:n<=16)(h:1<=m)(i:m<=16):PF 104 [aL n m A] (.tup [.int .i64 n,.int .i64 m,.bool true]):=by
 refine gN func104 ntmps104 results104 ?_;have k:decide ((n:Int)<1)=false:=dlt om;have l:decide ((16:Int)<n)=false:=dlt om;have o:decide ((m:Int)<1)=false:=dlt om;have p:decide ((16:Int)<m)=false:=dlt om;simp only[*,go_sem,aL,aY];refine aC (fun O S=>∃j:Nat,j<=n/\O 0=aL n m A/\O 15=aL n m A/\O 16=.int .i64 n/\O 17=.int .i64 j) (fun O S=>n-bS (O 17)) ?_ ?_
 .simp only[go_sem,aL,aY];exact⟨0,om,rfl⟩
 .rintro O S ⟨j,q,a,b,c,d⟩;by_cases e:j<n
  .have r:IntKind.i64.wrap ((j:Int)+1)=((j+1:Nat):Int):=dP om om;simp only[*,go_sem,aL,aY,bS];exact⟨om,⟨j+1,om,rfl⟩,om⟩
  .simp -dsimp only[*,go_sem,aL,aY];refine aN 9 kr ?_
   simp only[go_sem,a,aL,aY]
   repeat refine an ?_
   exact VR.tup (by simp[ql])
def pg(n:Nat)(A:Nat->Nat->Int)(a:1<=n)(b:n<=16):PF 115 [aL n n A] (.tup [.int .i64 n,.bool true]):=by
 refine gN func115 ntmps115 results115 ?_;simp -dsimp only[go_sem];refine(mo n n A a b a b).call ?_;simp only[go_sem];exact VR.tup (by simp[ql])

def iT(S0 S:St)(b:Nat)(g:Nat->Nat)(n m:Nat)(A:Nat->Nat->Int):Prop:=dr S b g n m A/\dy S0 S/\S0 b=ae/\∀i,i<n->S0 (g i)=ae
def dS(A:Nat->Nat->Int)(i j:Nat)(z:Int):Nat->Nat->Int:=fun a c=>if a=i/\c=j then z else A a c
def dr.outer_ne(h:dr S b g n m A){i:Nat}(a:i<n):b≠g i:=a6.ne h.outer (h.row i a) om
def dr.set(h:dr S b g n m A){i j:Nat}{z:Int}{g':Nat->AV}(k:i<n)(o:S (g i)=some ⟨50,2,m,g'⟩) :
  dr (S.upd (g i) ⟨50,2,m,aQ g' j (.big z)⟩) b g n m (dS A i j z):=by
 refine⟨h.outer.upd (h.outer_ne k) _,fun a d=>?_,h.inj⟩;by_cases e:a=i
 .subst e;obtain⟨s,l,p⟩:=h.row a d;rw[o]at l;cases l;refine a6.here fun c q=>?_;have:=p c q;simp only[aQ,dS]
  grind
 .have f:g a≠g i:=fun r=>e (h.inj a i d k r);refine((h.row a d).upd f _).congr fun c _=>?_;simp[dS,e]
def iT.set(h:iT S0 S b g n m A){i j:Nat}{z:Int}{g':Nat->AV}(a:i<n)(c:S (g i)=some ⟨50,2,m,g'⟩) :
  iT S0 (S.upd (g i) ⟨50,2,m,aQ g' j (.big z)⟩) b g n m (dS A i j z):=⟨h.1.set a c,h.2.1.upd (h.2.2.2 i a) _,h.2.2.1,h.2.2.2⟩
def dr.congr(h:dr S b g n m A)(c:∀i j,i<n->j<m->A i j=B i j):dr S b g n m B :=
 ⟨h.outer,fun i a=>(h.row i a).congr fun j d=>by rw[c i j a d],h.inj⟩
def iT.congr(h:iT S0 S b g n m A)(a:∀i j,i<n->j<m->A i j=B i j):iT S0 S b g n m B:=⟨h.1.congr a,h.2⟩
def VR.tup2(c:VR S x x')(d:VR S y y'):VR S (.tup [x,y]) (.tup [x',y']):=by
 intro w v a b;simp only[bH]at b ⊢;obtain⟨vs,e,h⟩:=b;refine⟨vs,e,?_⟩
 match vs,h with
 | [u,v],h=>simp only[a8]at h ⊢;exact⟨c w u a h.1,d w v a h.2.1,trivial⟩
 | [],h=>simp[a8]at h
 | [_],h=>simp[a8]at h
 | _::_::_::_,h=>simp[a8]at h
def AN(S0:St)(n m:Nat)(B:n<=1000)(C:m<=1000):cJ 102 [ι n,ι m] S0 (fun r S'=>∃b g,r=.sl 1 b 0 n/\iT S0 S' b g n m (fun _ _=>0)):=by
 refine iZ func102 ntmps102 results102 ?_;simp -dsimp only[go_sem];refine⟨om,ax.intro fun b o=>?_⟩
 refine aC (fun O S=>∃(k:Nat) (g:Nat->Nat),k<=n/\O 1=ι m/\O 5=.sl 1 b 0 n/\O 10=ι n/\O 11=ι k /\
  dy S0 S/\a6 S b 59 1 n (fun i=>if i<k then .sl 2 (g i) 0 m else .nil)/\(∀i,i<k->iV S (g i) m (fun _=>0)/\S0 (g i)=ae)/\∀i j,i<k->j<k->g i=g j->i=j) (fun O S=>n-bS (O 11)) ?_ ?_
 .simp only[go_sem];exact⟨0,om,rfl,(dy.refl S0).upd o _,fun _=>0,a6.here fun i _=>by simp,fun i a=>om,fun i j a=>om⟩
 .rintro O S ⟨k,g,D,E,F,v,w,h,s,f,t⟩;by_cases x:k<n
  .have G:ω ((k:Int)+1)=((k+1:Nat):Int):=dP om om;simp -dsimp only[*,go_sem];refine⟨om,ax.intro fun c d=>?_⟩
   obtain⟨g',u,p⟩:=s;have q:b≠c:=by rintro rfl;rw[u]at d;cases d
   simp only[*,go_sem,bS]
   repeat refine an ?_
   refine⟨⟨k+1,om,rfl,(h.upd (h.none d) _).upd o _,fun i=>if i=k then c else g i,a6.here fun i a=>?_,fun i a=>?_,fun i j a H e=>?_⟩,om⟩
   .have:=p i a;grind [aQ]
   .by_cases e:i=k
    .simp only[e,aE];exact⟨(a6.here fun _ _=>rfl).upd (ai q) _,h.none d⟩
    .simp only[e,aH];obtain⟨l,y⟩:=f i om;exact⟨(l.upd (a6.fresh l d) _).upd (fun e=>by rw[e]at l;exact a6.ne (a6.of u) l om rfl) _,y⟩
   .by_cases z:i=k<;>by_cases A:j=k<;>simp only[z,A,aE,aH]at e ⊢
    .exact absurd e.symm (a6.fresh (f j om).1 d)
    .exact absurd e (a6.fresh (f i om).1 d)
    .exact t i j om om e
  .simp only[*,go_sem];obtain rfl:k=n:=om
   exact⟨b,rfl,g,⟨s.congr fun i a=>by rw[aj a],fun i a=>(f i a).1,t⟩,h,o,fun i a=>(f i a).2⟩

def aI(h:k<1000000):ω ((k:Int)+1)=((k+1:Nat):Int):=dP om om
def qO(z:Int):Prop:=-9223372036854775808<=z/\z<=9223372036854775807
def qA(S0:St)(n m:Nat)(A:Nat->Nat->Int)(E:1<=n)(F:n<=16)(G:1<=m)(H:m<=16)(o:∀i j,i<n->j<m->qO (A i j)) :
  cJ 55 [av n m A] S0 (fun r S'=>∃b g,r=.tup [.sl 1 b 0 n,.bool true]/\iT S0 S' b g n m A):=by
 refine iZ func55 ntmps55 results55 ?_;have I:decide ((n:Int)<1)=false:=dlt om;have J:decide ((16:Int)<n)=false:=dlt om;have K:decide ((m:Int)<1)=false:=dlt om;have L:decide ((16:Int)<m)=false:=dlt om;simp only[*,go_sem,av,aK];refine aC (fun O S=>∃k:Nat,k<=n/\O 0=av n m A/\O 17=av n m A/\O 18=ι n/\O 19=ι k/\S=S0) (fun O S=>n-bS (O 19)) ?_ ?_
 .simp only[go_sem,av,aK];exact⟨0,om,rfl⟩
 .rintro O S ⟨k,p,f,q,s,t,rfl⟩;by_cases a:k<n
  .simp only[*,go_sem,av,aK,aI (om:k<1000000),bS]
   exact⟨om,⟨k+1,om,rfl⟩,om⟩
  .simp -dsimp only[*,go_sem,av,aK]
   repeat refine an ?_
   refine(AN S n m om om).mono ?_;rintro r S1 ⟨b,g,rfl,u⟩;simp only[go_sem,av,aK,f];refine aC (fun O S'=>∃k:Nat,k<=n/\O 0=av n m A/\O 6=.sl 1 b 0 n/\O 49=ι n/\O 50=ι k/\iT S S' b g n m (fun i j=>if i<k then A i j else 0)) (fun O S=>n-bS (O 50)) ?_ ?_
   .simp only[go_sem,av,aK,f];exact⟨0,om,rfl,u.congr sm⟩
   .rintro O S1 ⟨k,p,f,v,h,l,d⟩;by_cases a:k<n
    .simp only[*,go_sem,av,aK];refine aC (fun O S'=>∃j:Nat,j<=m/\O 0=av n m A/\O 6=.sl 1 b 0 n/\O 7=ι k/\O 49=ι n/\O 50=ι k/\O 57=ι m/\O 58=ι j/\iT S S' b g n m (fun i c=>if i<k∨(i=k/\c<j)then A i c else 0)) (fun O S=>m-bS (O 58)) ?_ ?_
     .simp only[*,go_sem,av,aK];exact⟨0,om,rfl,d.congr sm⟩
     .rintro O S2 ⟨j,w,f,v,M,h,l,x,y,d⟩;by_cases e:j<m
      .obtain⟨N,P,z⟩:=d.1.outer;obtain⟨Q,B,R⟩:=d.1.row k a;have C:=z k a;simp -dsimp only[*,go_sem,av,aK];refine aN 13 kr ?_
       simp only[*,go_sem,av,aK,aI (om:j<1000000)]
       repeat refine an ?_
       refine⟨_,(gE (o k j a e).1 (o k j a e).2).pure',om,trivial,⟨j+1,om,rfl,(d.set a B).congr fun i c _ _=>?_⟩,by simp only[bS,cQ];omega⟩
       simp only[dS]
       grind
      .simp only[*,go_sem,av,aK,bS,aI (om:k<1000000)]
       refine⟨⟨k+1,om,rfl,d.congr fun i c D T=>?_⟩,om⟩
       grind
    .simp only[*,go_sem,av,aK];exact⟨b,rfl,g,d.congr fun i j D w=>by rw[aj om]⟩
def iT.vr(h:iT S0 S b g n m A):VR S (.sl 1 b 0 n) (aL n m A):=h.1.vr
def Ng(S0:St)(n m:Nat)(A:Nat->Nat->Int)(a:1<=n)(c:n<=16)(d:1<=m)(e:m<=16)(f:∀i j,i<n->j<m->qO (A i j)) :
  cJ 27 [av n m A] S0 (fun r S'=>∃b g,r=.sl 1 b 0 n/\iT S0 S' b g n m A):=by
 refine iZ func27 ntmps27 results27 ?_;simp -dsimp only[go_sem];refine(qA S0 n m A a c d e f).mono ?_;rintro r S1 ⟨b,g,rfl,h⟩;simp only[go_sem];exact⟨b,rfl,g,h⟩
def uZ(n m:Nat)(A:Nat->Nat->Int)(a:1<=n)(c:n<=16)(d:1<=m)(f:m<=16)(k:∀i j,i<n->j<m->qO (A i j)):PF 27 [av n m A] (aL n m A) :=
 PF.of_spec ((Ng _ n m A a c d f k).mono fun r S' ⟨b,g,e,h⟩=>e▸h.vr)

def uJ:AV->Bool
 | .int _ _=>true
 | .bool _=>true
 | .big _=>true
 | .nil=>true
 | .sl _ _ _ _=>true
 | .ptr _ _ _=>true
 | _=>false
def clb:AV->Bool
 | .tup l=>l.all uJ
 | x=>uJ x
def As(h:uJ x=true)(a:bH w M x v):bH w M' x v:=by
 cases x<;>simp only[uJ,dB]at h<;>simpa only[bH]using a
theorem FG{w:World}{M M':Nat->Prop}:∀(l:List AV) (vs:List Value),l.all uJ=true->a8 w M l vs->a8 w M' l vs
 | [],[],_,_=>by simp[a8]
 | x::l,v::vs,h,a=>by
  simp only[a8,List.all_cons,cU]at h a ⊢;exact⟨As h.1 a.1,FG l vs h.2 a.2⟩
 | [],_::_,_,a=>by simp[a8]at a
 | _::_,[],_,a=>by simp[a8]at a
def Ph(h:clb x=true)(a:bH w M x v):bH w M' x v:=by
 cases x<;>first
  | (simp only[clb]at h;exact As h a)
  | (simp only[clb]at h;simp only[bH]at a ⊢;obtain⟨vs,e,b⟩:=a;exact⟨vs,e,FG _ _ h b⟩)
def St.join(S S1:St):St:=fun b=>match S b with
 | some X=>some X
 | ae=>S1 b
def Gn(S:St):Prop:=∀b X,S b=some X->∀j,j<X.n->uJ (X.g j)=true
def cJ.frame(h:cJ f args' St.none post)(D:eI S args args')(E:∀r S1,post r S1->clb r=true/\Gn S1) :
  cJ f args S (fun r S'=>∃S1,post r S1/\(∀b X,S b=some X->S1 b=ae)/\S'=S.join S1):=by
 intro w vs d F;refine(h w vs ⟨rfl,d.gl,fun b x G=>by simp[St.none]at G⟩ (a8.turn (fun _ _ i=>absurd rfl i) _ _ (yM d _ _ _ D F))).mono ?_
 rintro e w' ⟨v,r,S1,rfl,A,H,B,c⟩;obtain⟨I,J⟩:=E r S1 A;have m:∀b X,S b=some X->b<w.heap.size:=fun b X a=>by obtain⟨cs,g,_⟩:=d b X a;exact fT g
 have C:∀b,b<w.heap.size->S1 b=ae:=fun b K=>by
  cases e:S1 b with
  | none=>rfl
  | some Y=>exact absurd (c.own b K (by simp[St.dom,e])) (by simp[St.dom,St.none])
 have n:dA S.dom (S.join S1).dom w w':=⟨c.os,c.tape,c.output,c.size,fun k i _=>c.keep k i (by simp[St.dom,St.none]),c.shape,fun k i o=>by
  simp only[St.dom,St.join]at o ⊢
  cases e:S k with
  | none=>rw[e]at o;exact absurd (C k i) o
  | some X=>simp⟩
 refine⟨v,r,S.join S1,rfl,⟨S1,A,fun b X a=>C b (m b X a),rfl⟩,Ph I H,⟨?_,d.grow n,fun b X a=>?_⟩,n⟩
 .simp only[St.join,d.z];exact B.z
 simp only[St.join]at a
 cases e:S b with
 | some Y =>
  rw[e]at a;cases a;obtain⟨cs,g,p,q,s⟩:=d b X e;refine⟨cs,by rw[c.keep b (fT g) (by simp[St.dom,St.none])];exact g,p,fun j l=>?_,s⟩
  obtain⟨u,t,y⟩:=q j l;exact⟨u,t,bH.grow d.noU n _ _ y⟩
 | none =>
  rw[e]at a;obtain⟨cs,g,p,q,s⟩:=B b X a;refine⟨cs,g,p,fun j l=>?_,s⟩;obtain⟨u,t,y⟩:=q j l;exact⟨u,t,As (J b X a j l) y⟩
def nT(S S1:St):dy S (S.join S1):=fun k X h=>by simp[St.join,h]
def qm(a:∀b X,S b=some X->S1 b=ae){b:Nat}{X:eo}(h:S1 b=some X):S.join S1 b=some X/\S b=ae:=by
 cases e:S b with
 | some Y=>rw[a b Y e]at h;cases h
 | none=>exact⟨by simp[St.join,e,h],rfl⟩
def a6.join(a:∀b X,S b=some X->S1 b=ae){b ty es n:Nat}{g:Nat->AV}(h:a6 S1 b ty es n g):a6 (S.join S1) b ty es n g/\S b=ae:=by
 obtain⟨g',c,d⟩:=h;exact⟨⟨g',(qm a c).1,d⟩,(qm a c).2⟩
def dr.join(a:∀b X,S b=some X->S1 b=ae){b:Nat}{g:Nat->Nat}{n m:Nat}{A:Nat->Nat->Int}(h:dr S1 b g n m A):iT S (S.join S1) b g n m A :=
 ⟨⟨(h.outer.join a).1,fun i c=>((h.row i c).join a).1,h.inj⟩,nT S S1,(h.outer.join a).2,fun i c=>((h.row i c).join a).2⟩
def cJ.less(h:cJ f args S post)(c:∀r S',post r S'->∃S'',(∀b X,S'' b=some X->S' b=some X)/\post' r S''):cJ f args S post':=by
 intro w vs d g;refine(h w vs d g).mono ?_;rintro e w' ⟨v,r,S1,rfl,i,j,l,m⟩;obtain⟨S2,n,o⟩:=c r S1 i;obtain⟨p,a⟩:=l.less n;exact⟨v,r,S2,rfl,o,bH.turn (fun k _ q=>a k q) _ _ j,p,m.weaken a⟩
def eJ(S:St)(b:Nat)(g:Nat->Nat)(n:Nat):St:=fun k=>if k=b then S k else if ∃i,i<n/\k=g i then S k else ae
def iQ(S:St)(b:Nat)(g:Nat->Nat)(n:Nat):∀c X,eJ S b g n c=some X->S c=some X:=by
 intro c X h;unfold eJ at h;split at h
 .exact h
 .split at h
  .exact h
  .cases h
def dr.only(h:dr S b g n m A):dr (eJ S b g n) b g n m A/\Gn (eJ S b g n):=by
 refine⟨⟨?_,fun i k=>?_,h.inj⟩,fun c X f j l=>?_⟩
 .obtain⟨g',a,d⟩:=h.outer;exact⟨g',by simp[eJ,a],d⟩
 .obtain⟨g',a,d⟩:=h.row i k;refine⟨g',?_,d⟩;unfold eJ;split
  .exact a
  .rw[aj ⟨i,k,rfl⟩];exact a
 .unfold eJ at f;split at f
  .rename_i e;subst e;obtain⟨g',a,d⟩:=h.outer;rw[f]at a;cases a;show uJ (g' j)=true;rw[d j l];rfl
  .split at f
   .rename_i e;obtain⟨i,k,rfl⟩:=e;obtain⟨g',a,d⟩:=h.row i k;rw[f]at a;cases a;show uJ (g' j)=true;rw[d j l];rfl
   .cases f
def MF(f:Nat)(args:List AV)(n m:Nat)(A:Nat->Nat->Int):Prop:=∀S args',eI S args' args->cJ f args' S (fun r S'=>∃b g,r=.sl 1 b 0 n/\iT S S' b g n m A)
def CG(f:Nat)(args:List AV)(n m:Nat)(A:Nat->Nat->Int):Prop:=∀S args',eI S args' args->cJ f args' S (fun r S'=>∃b g,r=.tup [.sl 1 b 0 n,.bool true]/\iT S S' b g n m A)
def MF.of(h:cJ f args St.none (fun r S'=>∃b g,r=.sl 1 b 0 n/\dr S' b g n m A)):MF f args n m A:=fun S args' c=>by
 have d:cJ f args St.none (fun r S'=>∃b g,r=.sl 1 b 0 n/\dr S' b g n m A/\Gn S'):=h.less fun r S' ⟨b,g,e,a⟩=>⟨eJ S' b g n,iQ S' b g n,b,g,e,a.only.1,a.only.2⟩;refine(d.frame c ?_).mono ?_
 .rintro r S1 ⟨b,g,rfl,_,i⟩;exact⟨rfl,i⟩
 .rintro r S' ⟨S1,⟨b,g,rfl,a,_⟩,j,rfl⟩;exact⟨b,g,rfl,a.join j⟩
def CG.of(h:cJ f args St.none (fun r S'=>∃b g,r=.tup [.sl 1 b 0 n,.bool true]/\dr S' b g n m A)):CG f args n m A:=fun S args' c=>by
 have d:cJ f args St.none (fun r S'=>∃b g,r=.tup [.sl 1 b 0 n,.bool true]/\dr S' b g n m A/\Gn S'):=h.less fun r S' ⟨b,g,e,a⟩=>⟨eJ S' b g n,iQ S' b g n,b,g,e,a.only.1,a.only.2⟩;refine(d.frame c ?_).mono ?_
 .rintro r S1 ⟨b,g,rfl,_,i⟩;exact⟨rfl,i⟩
 .rintro r S' ⟨S1,⟨b,g,rfl,a,_⟩,j,rfl⟩;exact⟨b,g,rfl,a.join j⟩
def MF.pf(h:MF f args n m A):PF f args (aL n m A) :=
 PF.of_spec ((h St.none args (cC _ _)).mono fun _ _ ⟨_,_,e,h⟩=>e▸h.vr)
def CG.pf(h:CG f args n m A):PF f args (.tup [aL n m A,.bool true]) :=
 PF.of_spec ((h St.none args (cC _ _)).mono fun _ _ ⟨_,_,e,h⟩=>e▸VR.tup2 h.vr (VR.mf rfl))
def MF.congr(h:MF f args n m A)(a:∀i j,i<n->j<m->A i j=B i j):MF f args n m B:=fun S args' c=>(h S args' c).mono fun _ _ ⟨b,g,e,d⟩=>⟨b,g,e,d.congr a⟩
def D8(n m:Nat)(a:n<=1000)(c:m<=1000):MF 102 [.int .i64 n,.int .i64 m] n m (fun _ _=>0):=MF.of ((AN _ n m a c).mono fun _ _ ⟨b,g,e,h⟩=>⟨b,g,e,h.1⟩)
def Of_mf(n m:Nat)(A:Nat->Nat->Int)(a:1<=n)(c:n<=16)(d:1<=m)(f:m<=16)(k:∀i j,i<n->j<m->qO (A i j)):MF 27 [av n m A] n m A:=MF.of ((Ng _ n m A a c d f k).mono fun _ _ ⟨b,g,e,h⟩=>⟨b,g,e,h.1⟩)
def eI.mat(h:dr S b g n m A){l r:List AV}(a:eI S l r):eI S (.sl 1 b 0 n::l) (aL n m A::r):=⟨h.vr.va,a⟩
def eI.same{r:List AV}(a:eI S l r):eI S (x::l) (x::r):=⟨VA.refl S x,a⟩
def eI.nil:eI S [] []:=trivial

def ib(S0 S:St)(b:Nat)(g:Nat->Nat)(n m:Nat)(A:Nat->Nat->Int):Prop:=eh S b g n m A/\dy S0 S/\S0 b=ae/\∀i,i<n->S0 (g i)=ae
def eh.outer_ne(h:eh S b g n m A){i:Nat}(a:i<n):b≠g i:=a6.ne h.outer (h.row i a) om
def eh.set(h:eh S b g n m A){i j:Nat}{z:Int}{g':Nat->AV}(k:i<n)(o:S (g i)=some ⟨2,1,m,g'⟩) :
  eh (S.upd (g i) ⟨2,1,m,aQ g' j (ι z)⟩) b g n m (dS A i j z):=by
 refine⟨h.outer.upd (h.outer_ne k) _,fun a d=>?_,h.inj⟩;by_cases e:a=i
 .subst e;obtain⟨s,l,p⟩:=h.row a d;rw[o]at l;cases l;refine a6.here fun c q=>?_;have:=p c q;simp only[aQ,dS]
  grind
 .have f:g a≠g i:=fun r=>e (h.inj a i d k r);refine((h.row a d).upd f _).congr fun c _=>?_;simp[dS,e]
def eh.congr(h:eh S b g n m A)(c:∀i j,i<n->j<m->A i j=B i j):eh S b g n m B :=
 ⟨h.outer,fun i a=>(h.row i a).congr fun j d=>by rw[c i j a d],h.inj⟩
def ib.congr(h:ib S0 S b g n m A)(a:∀i j,i<n->j<m->A i j=B i j):ib S0 S b g n m B:=⟨h.1.congr a,h.2⟩
def eh.join(a:∀b X,S b=some X->S1 b=ae){b:Nat}{g:Nat->Nat}{n m:Nat}{A:Nat->Nat->Int}(h:eh S1 b g n m A):ib S (S.join S1) b g n m A :=
 ⟨⟨(h.outer.join a).1,fun i c=>((h.row i c).join a).1,h.inj⟩,nT S S1,(h.outer.join a).2,fun i c=>((h.row i c).join a).2⟩
def eh.only(h:eh S b g n m A):eh (eJ S b g n) b g n m A/\Gn (eJ S b g n):=by
 refine⟨⟨?_,fun i k=>?_,h.inj⟩,fun c X f j l=>?_⟩
 .obtain⟨g',a,d⟩:=h.outer;exact⟨g',by simp[eJ,a],d⟩
 .obtain⟨g',a,d⟩:=h.row i k;refine⟨g',?_,d⟩;unfold eJ;split
  .exact a
  .rw[aj ⟨i,k,rfl⟩];exact a
 .unfold eJ at f;split at f
  .rename_i e;subst e;obtain⟨g',a,d⟩:=h.outer;rw[f]at a;cases a;show uJ (g' j)=true;rw[d j l];rfl
  .split at f
   .rename_i e;obtain⟨i,k,rfl⟩:=e;obtain⟨g',a,d⟩:=h.row i k;rw[f]at a;cases a;show uJ (g' j)=true;rw[d j l];rfl
   .cases f
def QH(f:Nat)(args:List AV)(n m:Nat)(A:Nat->Nat->Int):Prop:=∀S args',eI S args' args->cJ f args' S (fun r S'=>∃b g,r=.sl 1 b 0 n/\ib S S' b g n m A)
def K8(f:Nat)(args:List AV)(n m:Nat)(A:Nat->Nat->Int):Prop:=∀S args',eI S args' args->cJ f args' S (fun r S'=>∃b g,r=.tup [.sl 1 b 0 n,.bool true]/\ib S S' b g n m A)
def QH.of(h:cJ f args St.none (fun r S'=>∃b g,r=.sl 1 b 0 n/\eh S' b g n m A)):QH f args n m A:=fun S args' c=>by
 have d:cJ f args St.none (fun r S'=>∃b g,r=.sl 1 b 0 n/\eh S' b g n m A/\Gn S'):=h.less fun r S' ⟨b,g,e,a⟩=>⟨eJ S' b g n,iQ S' b g n,b,g,e,a.only.1,a.only.2⟩;refine(d.frame c ?_).mono ?_
 .rintro r S1 ⟨b,g,rfl,_,i⟩;exact⟨rfl,i⟩
 .rintro r S' ⟨S1,⟨b,g,rfl,a,_⟩,j,rfl⟩;exact⟨b,g,rfl,a.join j⟩
def K8.of(h:cJ f args St.none (fun r S'=>∃b g,r=.tup [.sl 1 b 0 n,.bool true]/\eh S' b g n m A)):K8 f args n m A:=fun S args' c=>by
 have d:cJ f args St.none (fun r S'=>∃b g,r=.tup [.sl 1 b 0 n,.bool true]/\eh S' b g n m A/\Gn S'):=h.less fun r S' ⟨b,g,e,a⟩=>⟨eJ S' b g n,iQ S' b g n,b,g,e,a.only.1,a.only.2⟩;refine(d.frame c ?_).mono ?_
 .rintro r S1 ⟨b,g,rfl,_,i⟩;exact⟨rfl,i⟩
 .rintro r S' ⟨S1,⟨b,g,rfl,a,_⟩,j,rfl⟩;exact⟨b,g,rfl,a.join j⟩
def eI.imat(h:eh S b g n m A){l r:List AV}(a:eI S l r):eI S (.sl 1 b 0 n::l) (av n m A::r):=⟨h.vr.va,a⟩

def jS(i j:Nat):Int:=if i=j then 1 else 0
def rM(n:Nat)(p:1<=n)(q:n<=16):CG 111 [ι n] n n jS:=by
 refine CG.of ?_;refine iZ func111 ntmps111 results111 ?_;have s:¬((n:Int)<1):=om
 have t:¬((16:Int)<n):=om
 simp -dsimp only[*,go_sem];refine(D8 n n om om _ _ (cC _ _)).mono ?_;rintro r S1 ⟨b,g,rfl,e⟩;simp only[go_sem];refine aC (fun O S'=>∃k:Nat,k<=n/\O 4=.sl 1 b 0 n/\O 16=ι n/\O 17=ι k/\dr S' b g n n (fun i j=>if i<k then jS i j else 0)) (fun O S=>n-bS (O 17)) ?_ ?_
 .simp only[go_sem];exact⟨0,om,rfl,e.1.congr sm⟩
 .rintro O S ⟨k,u,v,f,h,d⟩;by_cases a:k<n
  .obtain⟨w,x,l⟩:=d.outer;obtain⟨y,m,z⟩:=d.row k a;have o:=l k a;simp -dsimp only[*,go_sem];refine aN 6 kr ?_
   simp only[*,go_sem,aI (om:k<1000000),bS]
   repeat refine an ?_
   refine⟨_,(gE dc dc).pure',om,trivial,⟨k+1,om,rfl,(d.set a m).congr fun i c _ _=>?_⟩,om⟩
   simp only[dS,jS]
   grind
  .simp only[*,go_sem];exact⟨b,rfl,g,d.congr fun i j A B=>by rw[aj om]⟩
def mZ(n m:Nat)(A:Nat->Nat->Int)(k:Nat)(l:1<=n)(o:n<=16)(p:1<=m)(q:m<=16)(s:∀i j,i<n->j<m->nb (A i j) k)(t:k<=8589934592):CG 100 [aL n m A] m n (fun i j=>A j i):=by
 refine CG.of ?_;refine iZ func100 ntmps100 results100 ?_;simp -dsimp only[go_sem];refine(mo n m A l o p q).call ?_;simp -dsimp only[go_sem];refine(D8 m n om om _ _ (cC _ _)).mono ?_;rintro r S1 ⟨b,g,rfl,u⟩;simp only[go_sem,aL,aY];refine aC (fun O S'=>∃k:Nat,k<=n/\O 0=aL n m A/\O 7=.sl 1 b 0 m/\O 22=ι n/\O 23=ι k/\dr S' b g m n (fun i j=>if j<k then A j i else 0)) (fun O S=>n-bS (O 23)) ?_ ?_
 .simp only[go_sem,aL,aY];exact⟨0,om,rfl,u.1.congr sm⟩
 .rintro O S ⟨k,t,v,w,e,f,d⟩;by_cases h:k<n
  .simp only[*,go_sem,aL,aY];refine aC (fun O S'=>∃j:Nat,j<=m/\O 0=aL n m A/\O 7=.sl 1 b 0 m/\O 8=ι k/\O 22=ι n/\O 23=ι k/\O 30=ι m/\O 31=ι j/\dr S' b g m n (fun i c=>if c<k∨(c=k/\i<j)then A c i else 0)) (fun O S=>m-bS (O 31)) ?_ ?_
   .simp only[*,go_sem,aL,aY];exact⟨0,om,rfl,d.congr sm⟩
   .rintro O S ⟨j,x,v,w,F,e,f,y,z,d⟩;by_cases a:j<m
    .obtain⟨G,H,B⟩:=d.outer;obtain⟨I,C,J⟩:=d.row j a;have D:=B j a;simp -dsimp only[*,go_sem,aL,aY];refine aN 13 kr ?_
     simp only[*,go_sem,aL,aY,aI (om:j<1000000),bS]
     repeat refine an ?_
     refine⟨_,(EX (s k j h a) om).pure',om,trivial,⟨j+1,om,rfl,(d.set a C).congr fun i c _ _=>?_⟩,om⟩
     simp only[dS]
     grind
    .simp only[*,go_sem,aL,aY,aI (om:k<1000000),bS]
     refine⟨⟨k+1,om,rfl,d.congr fun i c E K=>?_⟩,om⟩
     grind
  .simp only[*,go_sem,aL,aY];exact⟨b,rfl,g,d.congr fun i j E x=>by rw[aj om]⟩

def Fk(a:Nat):jS a=dW a:=by
 funext b;simp only[jS,dW];split<;>split<;>first|rfl|omega
def tg{a:Nat}(d:a<n)(e:b<n):gT Q n jS a b=Q a b:=by
 unfold gT;rw[Fk,Fk,Az d,cI b e (fun i _ c=>by simp[dW,c])]
 simp[dW]
theorem Jl:∀n,det n (o8 jS)=1
 | 0=>rfl
 | n+1=>by
  rw[r9 _ (fun i _=>by simp[o8,jS])]
  have e:(fun i j=>o8 jS (i+1) (j+1))=o8 jS:=by
   funext i j;simp only[o8,jS];split<;>split<;>first|rfl|omega
  rw[e,Jl n];simp[o8,jS]
def nU(c:k<=n):det k (gT Q n jS)=det k Q:=aZ fun a b d e=>tg om om
def wJ.init{e:Nat}(f:Pd Q n)(m:1<=n)(o:∀i,i<n->Q i i<=2^e)(p:e*n<=d):wJ Q n d 1 jS:=by
 have q:Pd (gT Q n jS) n:=⟨fun a b g h=>by rw[tg g h,tg h g];exact f.sym a b g h,fun k c=>by rw[nU c];exact f.pos k c⟩
 have s:e<=d:=bO (tD e m) p;refine⟨ag _,m,⟨q,fun k c=>?_,by rw[Jl];rfl,fun i l=>?_⟩,⟨fun r t j w=>om,fun r x t=>om⟩,nU (ag n)⟩
 .rw[nU c];have u:=f.det_le o k c;have v:((2:Int)^e)^k<=2^d:=by
   rw[<-SI];exact dY (bO (aM e c) p)
  exact cX u v
 .rw[tg l l];exact cX (o i l) (dY om)
def mr(Q:az)(n:Nat):az:=Fb Q n (Nz Q n 1 jS) 1 jS
def Mb{e:Nat}(a:Pd Q n)(b:1<=n)(c:n<=8)(f:∀i,i<n->Q i i<=2^e)(g:e*n<=d):wJ Q n d n (mr Q n) :=
 I9 a.sym c _ _ _ (wJ.init a b f g) (ag _)

def dr.ext(h:dr S b g n m A)(a:dy S S'):dr S' b g n m A:=⟨a.has h.outer,fun i c=>a.has (h.row i c),h.inj⟩
def eh.ext(h:eh S b g n m A)(a:dy S S'):eh S' b g n m A:=⟨a.has h.outer,fun i c=>a.has (h.row i c),h.inj⟩
def eI.ints(h:iV S b n r){l l':List AV}(a:eI S l l'):eI S (.sl 2 b 0 n::l) (aY n r::l'):=⟨h.vr.va,a⟩
def eI.i64s(h:oZ S b n r){l l':List AV}(a:eI S l l'):eI S (.sl 1 b 0 n::l) (aK n r::l'):=⟨h.vr.va,a⟩
def kh(m:Nat)(A B:Nat->Nat->Int)(i j:Nat):Int:=ap m fun k=>A i k*B k j
def RY(n m q:Nat)(A B:Nat->Nat->Int)(k:Nat)(w:1<=n)(x:n<=16)(t:1<=m)(u:m<=16)(y:1<=q)(z:q<=16)(C:∀i j,i<n->j<m->nb (A i j) k)(v:∀i j,i<m->j<q->nb (B i j) k)
  (T:k<=1000000000):CG 164 [aL n m A,aL m q B] n q (kh m A B):=by
 refine CG.of ?_;refine iZ func164 ntmps164 results164 ?_;simp -dsimp only[go_sem];refine(mo n m A w x t u).call ?_;simp -dsimp only[go_sem];refine(mZ m q B k t u y z v om _ _ (cC _ _)).mono ?_;rintro r S1 ⟨bt,gt,rfl,D⟩;simp -dsimp only[go_sem,aL,aY,iY];refine(D8 n q om om _ _ (cC _ _)).mono ?_;rintro r S2 ⟨b,g,rfl,E⟩;simp only[go_sem];refine aC (fun O S'=>∃k:Nat,k<=n/\O 0=aL n m A/\O 9=.sl 1 bt 0 q/\O 11=.sl 1 b 0 n/\O 43=ι n/\O 44=ι k/\iT S1 S' b g n q (fun i j=>if i<k then kh m A B i j else 0)) (fun O S=>n-bS (O 44)) ?_ ?_
 .simp only[go_sem,aL,aY];exact⟨0,om,rfl,E.congr sm⟩
 .rintro O S ⟨i,F,G,H,o,p,s,e⟩;by_cases d:i<n
  .simp only[*,go_sem,aL,aY];refine aC (fun O S'=>∃j:Nat,j<=q/\O 0=aL n m A/\O 9=.sl 1 bt 0 q/\O 11=.sl 1 b 0 n/\O 12=ι i/\O 43=ι n/\O 44=ι i/\O 48=ι q/\O 49=ι j/\iT S1 S' b g n q (fun a c=>if a<i∨(a=i/\c<j)then kh m A B a c else 0)) (fun O S=>q-bS (O 49)) ?_ ?_
   .simp only[*,go_sem,aL,aY];exact⟨0,om,rfl,e.congr sm⟩
   .rintro O S ⟨j,I,G,H,o,J,p,s,K,L,e⟩;by_cases f:j<q
    .obtain⟨U,V,M⟩:=e.1.outer;obtain⟨W,N,X⟩:=e.1.row i d;have P:=M i d;have h:=D.1.ext e.2.1;obtain⟨Y,Z,Q⟩:=h.outer;have R:=Q j f;simp -dsimp only[*,go_sem,aL,aY];refine aN 14 kr ?_
     simp only[*,go_sem,aL,aY,aI (om:j<1000000),bS]
     repeat refine an ?_
     refine⟨_,(Rq m (A i) (fun c=>B c j) k (fun c l=>C i c d l) (fun c l=>v c j l f) om om).pureS (eI.same (eI.ints (h.row j f) eI.nil)),om,trivial,⟨j+1,om,rfl,(e.set d N).congr fun a c _ _=>?_⟩,om⟩
     simp only[dS,kh]
     grind
    .simp only[*,go_sem,aL,aY,aI (om:i<1000000),bS]
     refine⟨⟨i+1,om,rfl,e.congr fun a c ha l=>?_⟩,om⟩
     grind
  .simp only[*,go_sem,aL,aY];exact⟨b,rfl,g,e.1.congr fun i j F I=>by rw[aj om]⟩
def kv(n m q:Nat)(A B:Nat->Nat->Int)(k:Nat)(a:1<=n)(c:n<=16)(d:1<=m)(e:m<=16)(f:1<=q)(h:q<=16)(l:∀i j,i<n->j<m->nb (A i j) k)(o:∀i j,i<m->j<q->nb (B i j) k)
  (p:k<=1000000000):MF 101 [aL n m A,aL m q B] n q (kh m A B):=by
 refine MF.of ?_;refine iZ func101 ntmps101 results101 ?_;simp -dsimp only[go_sem];refine(RY n m q A B k a c d e f h l o p _ _ (cC _ _)).mono ?_;rintro r S1 ⟨b,g,rfl,s⟩;simp only[go_sem];exact⟨b,rfl,g,s.1⟩
def wI(n m:Nat)(A:Nat->Nat->Int)(I:1<=n)(J:n<=16)(K:1<=m)(L:m<=16)(M:∀i j,i<n->j<m->iw (A i j)):K8 46 [aL n m A] n m A:=by
 refine K8.of ?_;refine iZ func46 ntmps46 results46 ?_;simp -dsimp only[go_sem];refine(mo n m A I J K L).call ?_;simp -dsimp only[go_sem]
 repeat refine an ?_
 refine ax.intro fun b W=>?_;simp only[go_sem];refine aC (fun O S=>∃(k:Nat) (g:Nat->Nat),k<=n/\O 0=aL n m A/\O 5=ι m/\O 7=.sl 1 b 0 n/\O 23=ι n/\O 24=ι k /\
  a6 S b 29 1 n (fun i=>if i<k then .sl 1 (g i) 0 m else .nil)/\(∀i,i<k->oZ S (g i) m (A i))/\∀i j,i<k->j<k->g i=g j->i=j) (fun O S=>n-bS (O 24)) ?_ ?_
 .simp only[go_sem,aL,aY];exact⟨0,om,rfl,fun _=>0,a6.here fun i _=>by simp,fun i a=>om,fun i j a=>om⟩
 .rintro O S ⟨k,g,X,y,z,B,l,o,p,d,C⟩;by_cases f:k<n
  .simp -dsimp only[*,go_sem]
   repeat refine an ?_
   refine ax.intro fun c u=>?_;obtain⟨g',D,v⟩:=p;have q:b≠c:=by rintro rfl;rw[D]at u;cases u
   have h:∀i,i<k->g i≠c:=fun i a=>a6.fresh (d i a) u;simp only[*,go_sem,aQ]
   repeat refine an ?_
   refine aC (fun O S'=>∃j:Nat,j<=m/\O 0=aL n m A/\O 5=ι m/\O 7=.sl 1 b 0 n/\O 8=ι k/\O 23=ι n/\O 24=ι k/\O 36=ι m/\O 37=ι j /\
    a6 S' b 29 1 n (fun i=>if i<k then .sl 1 (g i) 0 m else if i=k then .sl 1 c 0 m else .nil)/\(∀i,i<k->oZ S' (g i) m (A i))/\oZ S' c m (fun t=>if t<j then A k t else 0)) (fun O S=>m-bS (O 37)) ?_ ?_
   .simp only[*,go_sem];refine⟨0,om,rfl,a6.here fun i a=>?_,fun i a=>((d i a).upd (a6.fresh (d i a) u) _).upd (ai (a6.ne (a6.of D) (d i a) om)) _,(a6.here fun _ _=>by simp).upd (ai q) _⟩
    have:=v i a
    grind [aQ]
   .rintro O S' ⟨j,N,y,z,B,P,l,o,w,x,p,d,E⟩;by_cases r:j<m
    .obtain⟨Q,F,G⟩:=p;obtain⟨Y,R,T⟩:=E;have s:=G k f;simp only[cB,aH,aE]at s;simp -dsimp only[*,go_sem,aL,aY];refine(Cc (M k j f r)).call ?_;simp only[go_sem,y,z,B,P,l,o,w,x,r,f,aL,aY,F,s,R,aI (om:j<1000000),bS]
     repeat refine an ?_
     refine⟨⟨j+1,om,rfl,a6.upd ⟨Q,F,G⟩ q _,fun i a=>(d i a).upd (h i a) _,a6.here fun t H=>?_⟩,om⟩
     have:=T t H;simp only[aQ]
     grind
    .simp only[*,go_sem,aI (om:k<1000000),bS]
     refine⟨⟨k+1,om,rfl,fun i=>if i=k then c else g i,p.congr fun i a=>?_,fun i a=>?_,fun i j a N e=>?_⟩,om⟩
     .grind
     .by_cases e:i=k
      .subst e;simp only[aE];refine E.congr fun t H=>?_;have:t<j:=om
       simp[this]
      .simp only[e,aH];exact d i om
     .by_cases U:i=k<;>by_cases V:j=k<;>simp only[U,V,aE,aH]at e ⊢
      .exact absurd e.symm (h j om)
      .exact absurd e (h i om)
      .exact C i j om om e
  .simp only[*,go_sem];obtain rfl:k=n:=om
   exact⟨b,rfl,g,p.congr fun i a=>by rw[aj a],d,C⟩

def yC(h:ew w w.heap.size (.agg #[.bool false,v]) (n:Int)):∃A k c xs,v=.slice A k c/\k<=c/\cE w w.heap.size A k xs/\oV xs/\bC xs=n/\k=nl n:=by
 obtain⟨neg,A,k,c,xs,e,a,b,d,g⟩:=h
 cases e
 have f:bC xs=n:=by simp[sg]at g;omega
 exact⟨A,k,c,xs,rfl,a,b,d,f,by rw[aD b d,f]⟩
def Dc{A:Option Addr}(a:k<=c)(b:cE w w.heap.size A k xs)(d:oV xs)(e:bC xs=n):ew w w.heap.size (.agg #[.bool false,.slice A k c]) (n:Int) :=
 ⟨false,A,k,c,xs,rfl,a,b,d,by rw[e];simp[sg]⟩
def ID(h:nl n<=2147483648):PF 71 [.mag n] (.mag n):=by
 intro w vs _ a
 match vs,a with
 | [va],a =>
  simp only[a8,bH]at a;obtain⟨A,k,c,xs,rfl,b,d,o,f,p⟩:=yC a.1;refine(gn A k c w.heap.size xs w b om (ag _) d).mono ?_;rintro e w' ⟨A1,q,r,zs,rfl,g,i,j,l,m⟩;exact⟨_,rfl,by simp only[bH];exact Dc g i j (l.trans f),dA.below m⟩
 | [],a=>simp[a8]at a
 | _::_::_,a=>simp[a8]at a
def Kk{a:Nat}(F:nl a<=16777216)(G:nl b<=16777216)(H:0<b):PF 189 [.mag a,.mag b] (.tup [.mag (a/b),.mag (a%b)]):=by
 intro w vs _ f
 match vs,f with
 | [va,vb],f =>
  simp only[a8,bH]at f;obtain⟨A,k,c,xs,rfl,l,n,I,j,J⟩:=yC f.1;obtain⟨B,m,d,ys,rfl,o,h,i,g,K⟩:=yC f.2.1;refine(Hi A B k m c d w.heap.size xs ys w om om (ag _) n h i om).mono ?_;rintro e w' ⟨A1,p,q,zs,D1,r,s,us,rfl,t,u,v,x,y,z,C,D,E⟩;exact⟨_,rfl,by simp only[bH];exact⟨[.slice A1 p q,.slice D1 r s],rfl,by simp only[a8,bH];exact⟨Dc t v y (by rw[C,j,g]),Dc u x z (by rw[D,j,g]),trivial⟩⟩,dA.below E⟩
 | [],f=>simp[a8]at f
 | [_],f=>simp[a8]at f
 | _::_::_::_,f=>simp[a8]at f
def Dt{p:Bool->Prop}(h:nl n<=2147483648)(f:∀s,p s->sg s n=z):PF 103 [.bset p,.mag n] (.big z):=by
 intro w vs _ a
 match vs,a with
 | [va,vb],a =>
  simp only[a8,bH]at a;obtain⟨⟨s,rfl,g⟩,a,_⟩:=a;obtain⟨A,k,c,xs,rfl,b,i,m,j,o⟩:=yC a;refine(lI s A k c w.heap.size xs w b om (ag _) i).mono ?_;rintro e w' ⟨v,rfl,d,l⟩;exact⟨v,rfl,by rw[j,f s g]at d;simpa [bH]using d,dA.below l⟩
 | [],a=>simp[a8]at a
 | [_],a=>simp[a8]at a
 | _::_::_::_,a=>simp[a8]at a
def L7(h:nl n<=2147483648):PF 103 [.bool s,.mag n] (.big (sg s n)):=by
 intro w vs b a;refine Dt (p:=fun t=>t=s) (z:=sg s n) h (fun t c=>by rw[c]) w vs b ?_
 match vs,a with
 | [va,vb],a=>simp only[a8,bH]at a ⊢;exact⟨⟨s,a.1,rfl⟩,a.2⟩
 | [],a=>simp[a8]at a
 | [_],a=>simp[a8]at a
 | _::_::_::_,a=>simp[a8]at a
def pq{b r:Int}(h:a=b*q+r)(c:0<=r)(f:r<b.natAbs):a/b=q/\a%b=r:=by
 rcases iI 0 b with d|d
 .exact(o6 d).2 ⟨by rw[QE];exact h.symm,c,om⟩
 .have e:=(o6 (a:=a) (b:=-b) (r:=r) (q:=-q) om).2 ⟨by rw[pR,QE];exact h.symm,c,om⟩
  rw[Ez,QC]at e;exact⟨om,e.2⟩
def N4{b:Int}(c:sg s a.natAbs=a):sg s (a.natAbs%b.natAbs)=a.tmod b:=by
 rcases Int.natAbs_eq b with e|e<;>cases s<;>simp only[sg,aE,dB,aH]at c ⊢
 .rw[<-c,e];simp[fE];exact(aO om).symm
 .rw[<-c,e];simp[QB];exact(aO om).symm
 .rw[<-c,e];simp[Int.tmod_neg];exact(aO om).symm
 .rw[<-c,e];simp[QB,Int.tmod_neg];exact(aO om).symm
def N5{t:Bool}{b:Int}(c:sg s a.natAbs=a)(d:sg t b.natAbs=b):sg (s != t) (a.natAbs/b.natAbs)=a.tdiv b:=by
 cases s<;>cases t<;>simp only[sg,aE,dB,aH,aP,Bool.false_bne,Bool.true_bne,qT]at c d ⊢
 .rw[<-c,<-d];simp
 .rw[<-c,<-d];simp[Int.tdiv_neg]
 .rw[<-c,<-d];simp[Int.neg_tdiv]
 .rw[<-c,<-d];simp[Int.neg_tdiv,Int.tdiv_neg]
def tI{b:Int}(h:b≠0):(a.tmod b).natAbs<b.natAbs:=by
 rw[Tq];exact di _ om
def zD{b:Int}(v:nb a k)(w:nb b k)(U:k<=536870912)(L:b≠0):PF 127 [.big a,.big b] (.tup [.big (a/b),.big (a%b),.bool true]):=by
 have la:nl a.natAbs<=16777216:=v.nl om;have lb:nl b.natAbs<=16777216:=w.nl om;have M:0<b.natAbs:=om
 have o:((nl b.natAbs:Int)==0)=false:=by
  have H:nl b.natAbs≠0:=fun h=>by
   have:=jQ.1 (om:nl b.natAbs<=0)
   simp at this;omega
  simp;omega
 refine gN func127 ntmps127 results127 ?_;simp -dsimp only[go_sem];refine ax.intro fun V W=>?_
 try simp -dsimp only[go_sem]
 refine ax.intro fun X N=>?_
 try simp -dsimp only[go_sem]
 refine ax.intro fun Y I=>?_
 try simp -dsimp only[go_sem]
 refine ax.intro fun Z z=>?_
 try simp -dsimp only[go_sem]
 have p:=(af N).1;have t:=(af (af I).2).1;have j:=(af I).1;have u:=(af (af (af z).2).2).1;have l:=(af (af z).2).1;have d:=(af z).1;refine aN 8 kr ?_
 simp -dsimp only[go_sem,nn d,ai p,ai t,ai j,ai u,ai l];refine⟨_,(ID om).pure',_,(ID om).pure',?_⟩;simp -dsimp only[go_sem,o];refine(Kk la lb M).call ?_;simp -dsimp only[go_sem,o];refine aN 13 kr ?_
 simp -dsimp only[go_sem,ai p,ai t,ai j,ai u,ai l];refine⟨.big (a.tdiv b),(Dt (bO (fJ (gG a.natAbs b.natAbs)) om) (fun s A=>by obtain⟨x,H,y,O,rfl⟩:=A;exact N5 H O)).pure',.big (a.tmod b),(Dt (bO (fJ (SO a.natAbs b.natAbs)) om) (fun s A=>N4 A)).pure',?_⟩
 refine ax.intro fun P f=>?_
 try simp -dsimp only[go_sem]
 refine ax.intro fun Q c=>?_;have B:=(af f).1;have C:=(af (af f).2).1;have R:=(af (af (af f).2).2).1;have p2:=(af (af (af (af f).2).2).2).1;have qp:=(af c).1;have D:=(af (af c).2).1;have E:=(af (af (af c).2).2).1;have S:=(af (af (af (af c).2).2).2).1;have q2:=(af (af (af (af (af c).2).2).2).2).1;have J:nb (a.tdiv b) k:=nb.of_le (by rw[Int.natAbs_tdiv];exact gG _ _) v
 have K:nb (a.tmod b) k:=nb.of_le (by rw[Tq];exact SO _ _) v
 have e:=xX a b;have T:=tI (a:=a) L;simp -dsimp only[go_sem,nn qp];refine(jP K om).call ?_;by_cases g:a.tmod b<0
 .have m:(a.tmod b).sign<0:=by rw[eE g];decide
  simp -dsimp only[go_sem,aQ,m];have F:nb (b.natAbs:Int) k:=nb.of_le sm w
  refine aN 4 kr ?_
  simp -dsimp only[go_sem,ai j,ai l,ai R,ai S,aQ];refine⟨.big (b.natAbs:Int),(L7 (s:=false) om).pure',.big (a.tmod b+(b.natAbs:Int)),(tU K F om).pure',?_⟩;simp -dsimp only[go_sem];refine(jP w om).call ?_;by_cases G:b<0
  .have n:b.sign<0:=by rw[eE G];decide
   simp -dsimp only[go_sem,n];refine eL 4 [[3]] kr ?_
   simp only[*,go_sem,ai d,ai C,ai B,ai E,ai D,ai qp,aQ];refine⟨.big 1,(gE dc dc).pure',.big (a.tdiv b+1),(tU (k:=k+1) (J.mono om) (nb.one om) om).pure',?_⟩
   simp only[go_sem];have i:=pq (a:=a) (b:=b) (q:=a.tdiv b+1) (r:=a.tmod b+(b.natAbs:Int)) (by
    rw[yR,ir];omega) om om
   rw[i.1,i.2];exact VR.tup (by simp[ql])
  .have n:¬b.sign<0:=by rw[cW (om:0<b)];decide
   simp -dsimp only[go_sem,n];refine eL 4 [[3]] kr ?_
   simp only[*,go_sem,ai d,ai C,ai B,ai E,ai D,ai qp,aQ];refine⟨.big 1,(gE dc dc).pure',.big (a.tdiv b-1),(tQ (k:=k+1) (J.mono om) (nb.one om) om).pure',?_⟩
   simp only[go_sem];have i:=pq (a:=a) (b:=b) (q:=a.tdiv b-1) (r:=a.tmod b+(b.natAbs:Int)) (by
    rw[mQ,ir];omega) om om
   rw[i.1,i.2];exact VR.tup (by simp[ql])
 .have m:¬(a.tmod b).sign<0:=by
   rcases eM (a.tmod b) 0 with h|h|h
   .exact absurd h g
   .rw[h];decide
   .rw[cW h];decide
  simp -dsimp only[go_sem,aQ,m];refine eL 2 [[1]] kr ?_
  simp only[*,go_sem,ai d,ai C,ai B,ai E,ai D,ai qp,aQ];have i:=pq (a:=a) (b:=b) (q:=a.tdiv b) (r:=a.tmod b) om om om;rw[i.1,i.2];exact VR.tup (by simp[ql])

def od{b:Int}(f:nb a k)(g:nb b k)(h:k<=536870912)(i:b≠0):PF 65 [.big a,.big b] (.big (a/b)):=by
 refine gN func65 ntmps65 results65 ?_;simp -dsimp only[go_sem];refine ax.intro fun l m=>?_
 try simp -dsimp only[go_sem]
 refine ax.intro fun n j=>?_;have n3_2:=(af j).1
 try simp -dsimp only[go_sem]
 refine ax.intro fun o e=>?_;have n4_3:=(af e).1;have n4_2:=(af (af e).2).1;simp -dsimp only[go_sem,ai n3_2,ai n4_2,ai n4_3];refine(zD f g h i).call ?_;simp -dsimp only[go_sem];refine ax.intro fun p d=>?_;have n5_4:=(af d).1;have n5_3:=(af (af d).2).1;have n5_2:=(af (af (af d).2).2).1
 try simp -dsimp only[go_sem]
 refine ax.intro fun q c=>?_;have n6_5:=(af c).1;have n6_4:=(af (af c).2).1;have n6_3:=(af (af (af c).2).2).1;have n6_2:=(af (af (af (af c).2).2).2).1;simp only[go_sem,nn n6_5,ai n5_4,ai n6_4,aQ];exact VR.mf rfl
def N7{b:Int}(f:nb a k)(g:nb b k)(h:k<=536870912)(i:b≠0):PF 147 [.big a,.big b] (.big (a%b)):=by
 refine gN func147 ntmps147 results147 ?_;simp -dsimp only[go_sem];refine ax.intro fun l m=>?_
 try simp -dsimp only[go_sem]
 refine ax.intro fun n j=>?_;have n3_2:=(af j).1
 try simp -dsimp only[go_sem]
 refine ax.intro fun o e=>?_;have n4_3:=(af e).1;have n4_2:=(af (af e).2).1;simp -dsimp only[go_sem,ai n3_2,ai n4_2,ai n4_3];refine(zD f g h i).call ?_;simp -dsimp only[go_sem];refine ax.intro fun p d=>?_;have n5_4:=(af d).1;have n5_3:=(af (af d).2).1;have n5_2:=(af (af (af d).2).2).1
 try simp -dsimp only[go_sem]
 refine ax.intro fun q c=>?_;have n6_5:=(af c).1;have n6_4:=(af (af c).2).1;have n6_3:=(af (af (af c).2).2).1;have n6_2:=(af (af (af (af c).2).2).2).1;simp only[go_sem,nn n6_5,ai n5_4,ai n6_4,aQ];exact VR.mf rfl
def cT.get{z:AV}(h:cT S b ty es z):∃g,S b=some ⟨ty,es,1,g⟩/\g 0=z:=h
def zU{b:Int}(h:b≠0):(a%b).natAbs<b.natAbs:=by
 have c:=aV a h;have d:=Il a h;omega
def N2(h:a≠0):(a.sign != 0)=true:=by
 simp only[bne_iff_ne,Bp];rw[ix];exact h
def Mw{b:Int}:mC a b=mC b (a%b):=by
 have c:a%b=a+b*(-(a/b)):=by rw[Ey];grind
 rw[Int.gcd_comm b,c,Int.gcd_add_mul_left_left]
def N9{b:Int}(u:nb a k)(v:nb b k)(C:k<=536870912):PF 262 [.big a,.big b] (.big (mC a b)):=by
 refine gN func262 ntmps262 results262 ?_;simp -dsimp only[go_sem];refine ax.intro fun I J=>?_
 try simp -dsimp only[go_sem]
 refine ax.intro fun K D=>?_;have n3_2:=(af D).1
 try simp -dsimp only[go_sem]
 refine ax.intro fun w z=>?_;have n4_3:=(af z).1;have n4_2:=(af (af z).2).1;simp -dsimp only[go_sem];refine aN 6 kr ?_
 simp -dsimp only[go_sem,ai n3_2,ai n4_2,ai n4_3];refine⟨_,(tV u om).pure',_,(tV v om).pure',?_⟩;refine ax.intro fun A h=>?_;have n5_4:=(af h).1;have n5_3:=(af (af h).2).1;have n5_2:=(af (af (af h).2).2).1
 try simp -dsimp only[go_sem]
 refine ax.intro fun i f=>?_;have n6_5:=(af f).1;have n6_4:=(af (af f).2).1;have n6_3:=(af (af (af f).2).2).1;have n6_2:=(af (af (af (af f).2).2).2).1;simp only[go_sem,nn n6_5];refine aC (fun O S=>∃x y:Int,nb x k/\nb y k/\0<=x/\0<=y/\mC x y=mC a b/\O 4=.ptr 2 w 0/\O 5=.ptr 2 A 0/\O 6=.ptr 2 i 0/\cT S w 50 2 (.big 0)/\cT S A 50 2 (.big x)/\cT S i 50 2 (.big y)) (fun O S=>match S i with|some X=>(match X.g 0 with|.big y=>y.natAbs|_=>0)|ae=>0) ?_ ?_
 .simp only[go_sem];exact⟨a.natAbs,nb.of_le sm u,b.natAbs,nb.of_le sm v,om,om,by simp[mC],((((cT.new rfl).upd (ai n5_4) _).upd (ai n6_4) _).upd (ai n5_4) _).upd (ai n6_4) _,cT.set.upd (ai n6_5) _,cT.set⟩
 .rintro O S ⟨x,y,E,d,L,F,B,j,l,m,V4,V5,V6⟩;obtain⟨G,n,H⟩:=V4;obtain⟨M,o,p⟩:=V5;obtain⟨N,q,e⟩:=V6;by_cases c:y=0
  .simp -dsimp only[go_sem,m,q,e];refine(jP d om).call ?_;simp only[go_sem,j,l,n,o,p,e,c,oX,aQ];have r:((mC a b:Nat):Int)=x:=by rw[<-B,c,Int.gcd_zero];omega
   rw[r];exact VR.mf rfl
  .simp -dsimp only[go_sem,m,q,e];refine(jP d om).call ?_;simp -dsimp only[go_sem,j,l,n,o,p,e,N2 c,aQ];refine aN 4 kr ?_
   simp only[go_sem,j,l,m,o,q,p,e,n6_5,aQ];refine⟨_,(N7 E d C c).pure',?_⟩;simp only[go_sem];have s:=zU (a:=x) c;have t:=aV x c;exact⟨⟨y,d,x%y,nb.of_le om d,F,t,by rw[<-Mw];exact B,(cT.upd ⟨G,n,H⟩ (ai n5_4) _).upd (ai n6_4) _,cT.set.upd (ai n6_5) _,cT.set⟩,s⟩

def cY(e es:Nat)(S0 S:St)(x:AV)(j:Nat)(g:Nat->AV):Prop:=dy S0 S/\((j=0/\x=.nil)∨∃c,S0 c=ae/\x=.sl es c 0 j/\a6 S c e es j g)
def dU(x:AV)(d:Nat):Prop:=∃es off len,x=.sl es d off len
def cY.nil{e:Nat}(h:dy S0 S)(g:Nat->AV):cY e es S0 S .nil 0 g:=⟨h,a9 ⟨rfl,rfl⟩⟩
def cY.congr{e:Nat}{g:Nat->AV}(h:cY e es S0 S x j g)(a:∀i,i<j->g i=g' i):cY e es S0 S x j g':=by
 refine⟨h.1,h.2.imp id ?_⟩;rintro⟨c,b,d,f⟩;exact⟨c,b,d,f.congr a⟩
def cY.step{e:Nat}{g:Nat->AV}(h:cY e es S0 S x j g)(b:dy S0 S')(f:∀d,dU x d->S' d=S d):cY e es S0 S' x j g:=by
 refine⟨b,h.2.imp id ?_⟩;rintro⟨c,i,a,g',k,l⟩;exact⟨c,i,a,g',by rw[f c ⟨_,_,_,a⟩];exact k,l⟩
def cY.upd{e:Nat}{g:Nat->AV}(h:cY e es S0 S x j g){b:Nat}(a:S0 b=ae)(c:∀d,dU x d->d≠b)(X:eo):cY e es S0 (S.upd b X) x j g :=
 h.step (h.1.upd a X) (fun d f=>aG (c d f))
def cY.fresh{e:Nat}{g:Nat->AV}(h:cY e es S0 S x j g){b:Nat}(i:S b=ae):∀d,dU x d->d≠b:=by
 rintro d ⟨es',off,len,a⟩ rfl;rcases h.2 with⟨_,f⟩|⟨c,_,f,k⟩
 .rw[f]at a;cases a
 .rw[f]at a;cases a;exact a6.fresh k i rfl
def cY.app{t e:Nat}{v:AV}{g:Nat->AV}(I:dO t=some e)(J:(fX e).isSome=true)(u:es=cb e)(h:cY e es S0 S x j g)(O:j<1000000)(L:ei es v)
  (M:(∃h,y=.lst es 1 h/\h 0=v)∨∃b gb ty,y=.sl es b 0 1/\S b=some ⟨ty,es,1,gb⟩/\gb 0=v/\¬dU x b)
  (G:∀c S',cY e es S0 S' (.sl es c 0 (j+1)) (j+1) (fun i=>if i=j then v else g i)->(∀d X,S d=some X->¬dU x d->S' d=some X)->(dU x c∨S c=ae)->K (.sl es c 0 (j+1)) S'):gD t t x y S K:=by
 unfold gD;rw[I];refine⟨rfl,J,?_⟩;have l:∃w o,DD S y=some (es,1,w,o)/\w 0=v/\(∀d,dU x d->o≠some d):=by
  rcases M with⟨h,rfl,N⟩|⟨b,gb,ty,rfl,z,m,A⟩
  .exact⟨_,_,rfl,N,fun d _=>by simp⟩
  .refine⟨fun j=>gb (0+j),some b,by simp[DD,z],m,fun d f e=>?_⟩
   cases e;exact A f
 obtain⟨w,o,z,m,A⟩:=l;rw[z];refine⟨u,om,fun i H=>by rw[(om:i=0),m];exact L,?_⟩
 rcases h.2 with⟨rfl,rfl⟩|⟨c,n,rfl,g',B,C⟩
 .refine⟨om,fun b r=>G _ _ ⟨h.1.upd (h.1.none r) _,aR ⟨b,h.1.none r,rfl,a6.here fun i H=>?_⟩⟩ (fun d X f _=>?_) (aR r)⟩
  .obtain rfl:i=0:=om
   simp[m]
  .rw[aG];exact f;rintro rfl;rw[r]at f;cases f
 .simp only[B];refine⟨trivial,trivial,trivial,trivial,trivial,om,A c ⟨_,_,_,rfl⟩,fun b' a=>G _ _ ⟨?_,aR ⟨b',?_,rfl,a6.here fun i H=>?_⟩⟩ (fun d X f D=>?_) ?_⟩
  .intro k X s;have p:k≠c:=by rintro rfl;rw[n]at s;cases s
   have E:k≠b':=by
    rintro rfl;rcases a with rfl|a
    .exact p rfl
    .rw[h.1 k X s]at a;cases a
   rw[aG E];simp only[St.del];rw[ah p];exact h.1 k X s
  .rcases a with rfl|a
   .exact n
   .exact h.1.none a
  .by_cases e:i=j
   .subst e;rw[yK (ag _) om,bQ,m,aj rfl]
   .rw[DY om,ah e];exact C i om
  .have q:d≠c:=fun e=>D (by rw[e];exact⟨_,_,_,rfl⟩)
   have F:d≠b':=by
    rintro rfl;rcases a with rfl|a
    .exact q rfl
    .rw[f]at a;cases a
   rw[aG F];simp only[St.del];rw[ah q];exact f
  .rcases a with rfl|a
   .exact a9 ⟨_,_,_,rfl⟩
   .exact aR a
def cY.app50{v:AV}{g:Nat->AV}(h:cY 50 2 S0 S x j g)(a:j<1000000)(e:ei 2 v)(f:(∃h,y=.lst 2 1 h/\h 0=v)∨∃b gb ty,y=.sl 2 b 0 1/\S b=some ⟨ty,2,1,gb⟩/\gb 0=v/\¬dU x b)
  (k:∀c S',cY 50 2 S0 S' (.sl 2 c 0 (j+1)) (j+1) (fun i=>if i=j then v else g i)->(∀d X,S d=some X->¬dU x d->S' d=some X)->(dU x c∨S c=ae)->K (.sl 2 c 0 (j+1)) S'):gD 59 59 x y S K:=cY.app rfl rfl rfl h a e f k
def cY.app2{v:AV}{g:Nat->AV}(h:cY 2 1 S0 S x j g)(a:j<1000000)(e:ei 1 v)(f:(∃h,y=.lst 1 1 h/\h 0=v)∨∃b gb ty,y=.sl 1 b 0 1/\S b=some ⟨ty,1,1,gb⟩/\gb 0=v/\¬dU x b)
  (k:∀c S',cY 2 1 S0 S' (.sl 1 c 0 (j+1)) (j+1) (fun i=>if i=j then v else g i)->(∀d X,S d=some X->¬dU x d->S' d=some X)->(dU x c∨S c=ae)->K (.sl 1 c 0 (j+1)) S'):gD 29 29 x y S K:=cY.app rfl rfl rfl h a e f k
def cY.app3{v:AV}{g:Nat->AV}(h:cY 3 1 S0 S x j g)(a:j<1000000)(e:ei 1 v)(f:(∃h,y=.lst 1 1 h/\h 0=v)∨∃b gb ty,y=.sl 1 b 0 1/\S b=some ⟨ty,1,1,gb⟩/\gb 0=v/\¬dU x b)
  (k:∀c S',cY 3 1 S0 S' (.sl 1 c 0 (j+1)) (j+1) (fun i=>if i=j then v else g i)->(∀d X,S d=some X->¬dU x d->S' d=some X)->(dU x c∨S c=ae)->K (.sl 1 c 0 (j+1)) S'):gD 146 146 x y S K:=cY.app rfl rfl rfl h a e f k
def cY.app59{v:AV}{g:Nat->AV}(h:cY 59 1 S0 S x j g)(a:j<1000000)(e:ei 1 v)(f:(∃h,y=.lst 1 1 h/\h 0=v)∨∃b gb ty,y=.sl 1 b 0 1/\S b=some ⟨ty,1,1,gb⟩/\gb 0=v/\¬dU x b)
  (k:∀c S',cY 59 1 S0 S' (.sl 1 c 0 (j+1)) (j+1) (fun i=>if i=j then v else g i)->(∀d X,S d=some X->¬dU x d->S' d=some X)->(dU x c∨S c=ae)->K (.sl 1 c 0 (j+1)) S'):gD 52 52 x y S K:=cY.app rfl rfl rfl h a e f k
def cY.app29{v:AV}{g:Nat->AV}(h:cY 29 1 S0 S x j g)(a:j<1000000)(e:ei 1 v)(f:(∃h,y=.lst 1 1 h/\h 0=v)∨∃b gb ty,y=.sl 1 b 0 1/\S b=some ⟨ty,1,1,gb⟩/\gb 0=v/\¬dU x b)
  (k:∀c S',cY 29 1 S0 S' (.sl 1 c 0 (j+1)) (j+1) (fun i=>if i=j then v else g i)->(∀d X,S d=some X->¬dU x d->S' d=some X)->(dU x c∨S c=ae)->K (.sl 1 c 0 (j+1)) S'):gD 28 28 x y S K:=cY.app rfl rfl rfl h a e f k
def cY.other{e:Nat}{g:Nat->AV}(h:cY e es S0 S x j g){b ty es' n:Nat}{g':Nat->AV}(f:S b=some ⟨ty,es',n,g'⟩)(i:ty≠e):¬dU x b:=by
 rintro⟨_,_,_,a⟩;rcases h.2 with⟨_,d⟩|⟨c,_,d,k⟩
 .rw[d]at a;cases a
 .rw[d]at a;cases a;exact a6.ne k (a6.of f) (ai i) rfl
def a6.via{g:Nat->AV}(h:a6 S b ty es n g)(a:∀X,S b=some X->S' b=some X):a6 S' b ty es n g:=by
 obtain⟨g',c,d⟩:=h;exact⟨g',a _ c,d⟩
def d9{off len:Nat}:dU (.sl es b off len) d↔d=b:=⟨fun⟨_,_,_,e⟩=>by cases e;rfl,fun e=>by rw[e];exact⟨_,_,_,rfl⟩⟩
def yS(n m:Nat)(A:Nat->Nat->Int)(k:Nat)(h2:n<=1000)(h3:1<=m)(h4:m<=1000)(Q:∀i j,i<n->j<m->nb (A i j) k)(R:k<=8589934592):MF 63 [aL n m A] n m A:=by
 refine MF.of ?_;refine iZ func63 ntmps63 results63 ?_;simp -dsimp only[go_sem,aL,aY]
 repeat refine an ?_
 refine ax.intro fun l f3=>?_;simp only[go_sem];refine aC (fun O S=>∃(i:Nat) (g:Nat->Nat),i<=n/\O 0=aL n m A/\O 3=.sl 1 l 0 n/\O 11=ι n/\O 12=ι i /\
  a6 S l 59 1 n (fun a=>if a<i then .sl 2 (g a) 0 m else .nil)/\(∀a,a<i->iV S (g a) m (A a))/\∀a c,a<i->c<i->g a=g c->a=c) (fun O S=>n-bS (O 12)) ?_ ?_
 .simp only[go_sem,aL,aY];exact⟨0,om,rfl,fun _=>0,a6.here fun _ _=>by simp,fun a b=>om,fun a c b=>om⟩
 .rintro O S ⟨i,g,hi,T,L,B,C,s,q,U⟩;by_cases o:i<n
  .simp only[*,go_sem,aL,aY];refine aC (fun O S'=>∃(j:Nat) (x:AV),j<=m/\O 0=aL n m A/\O 3=.sl 1 l 0 n/\O 4=ι i/\O 11=ι n/\O 12=ι i/\O 18=aY m (A i)/\O 19=ι m/\O 20=ι j /\
    a6 S' l 59 1 n (fun a=>if a<i then .sl 2 (g a) 0 m else if a=i then x else .nil)/\(∀a,a<i->iV S' (g a) m (A a)/\¬dU x (g a))/\cY 50 2 St.none S' x j (fun c=>.big (A i c))) (fun O S=>m-bS (O 20)) ?_ ?_
   .simp only[*,go_sem,aL,aY];exact⟨0,om,rfl,.nil,s.congr fun a _=>by grind,fun a b=>⟨q a b,by rintro⟨_,_,_,e⟩;cases e⟩,cY.nil (fun k X h=>by cases h) _⟩
   .rintro O S' ⟨j,x,hj,T,L,V,B,C,W,Y,Z,s,q,r⟩;by_cases D:j<m
    .simp -dsimp only[*,go_sem,aL,aY];refine ax.intro fun E F=>?_;obtain⟨g1,t,M⟩:=s;have G:g1 i=x:=by rw[M i o];simp
     have p:l≠E:=a6.fresh (a6.of t) F;simp -dsimp only[go_sem];refine fm 9 kr ?_
     simp -dsimp only[go_sem,L,V,o,p,t,G,aQ]
     repeat refine an ?_
     refine⟨_,(EX (Q i j o D) R).pure',?_⟩;simp -dsimp only[go_sem];have u:∀d,dU x d->d≠E:=r.fresh F;have H:=r.other t om;refine cY.app50 ((r.upd (by rfl) u _).upd (by rfl) u _) om (show ei 2 (.big (A i j))from trivial) (a9 ⟨_,rfl,rfl⟩) ?_
     intro c S2 v w y;have I:=w l _ (by rw[aG p,aG p];exact t) H
     simp only[*,go_sem,aL,aY,aI (om:j<1000000),bS]
     repeat refine an ?_
     refine⟨⟨j+1,om,rfl,.sl 2 c 0 (j+1),a6.here fun a b=>?_,fun a b=>?_,?_⟩,om⟩
     .have:=M a b;grind [aQ]
     .obtain⟨z,N⟩:=q a b;have f:g a≠E:=a6.fresh z F;have J:g a≠l:=a6.ne z (a6.of t) om;refine⟨(z.via fun X r=>w _ _ (by rw[aG f,aG f];exact r) N).upd J _,fun P=>?_⟩
      rw[d9]at P;rw[<-P]at y;rcases y with h|h
      .exact N h
      .rw[aG f,aG f]at h;exact a6.fresh z h rfl
     .refine(v.upd (by rfl) (fun d K e=>?_) _).congr (fun a b=>by grind)
      rw[e]at K;exact v.other I om K
    .simp only[*,go_sem,aL,aY,aI (om:i<1000000),bS]
     obtain rfl:j=m:=om
     rcases r.2 with⟨h0,_⟩|⟨c,_,rfl,hC⟩
     .omega
     refine⟨⟨i+1,om,rfl,fun a=>if a=i then c else g a,s.congr fun a b=>by grind,fun a b=>?_,fun a d b K e=>?_⟩,om⟩
     .by_cases e:a=i
      .subst e;simp only[aE];exact hC
      .simp only[e,aH];exact(q a om).1
     .have k1:=fun a b=>(q a b).2;simp only[d9]at k1
      grind
  .simp only[*,go_sem,aL,aY];obtain rfl:i=n:=om
   exact⟨l,rfl,g,s.congr fun a b=>by simp[b],q,U⟩

def dy.noneS(S:St):dy St.none S:=fun k X h=>by cases h
def CC(n m p q:Nat)(A:Nat->Nat->Int)(ρ γ:Nat->Nat)(v:1<=p)(E:p<=1000)(h3:1<=q)(h4:q<=1000)(hρ:∀i,i<p->ρ i<n)(hγ:∀i,i<q->γ i<m):MF 143 [aL n m A,aK p (fun i=>ρ i),aK q (fun i=>γ i)] p q (fun i j=>A (ρ i) (γ j)):=by
 refine MF.of ?_;refine iZ func143 ntmps143 results143 ?_;simp only[go_sem,aL,aY,aK];refine aC (fun O S=>∃(i:Nat) (x:AV) (g:Nat->Nat),i<=p/\O 0=aL n m A/\O 2=aK q (fun i=>γ i)/\O 7=x/\O 13=aK p (fun i=>ρ i)/\O 14=ι p/\O 15=ι i /\
  cY 59 1 St.none S x i (fun a=>.sl 2 (g a) 0 q)/\(∀a,a<i->iV S (g a) q (fun j=>A (ρ a) (γ j)))/\∀a c,a<i->c<i->g a=g c->a=c) (fun O S=>p-bS (O 15)) ?_ ?_
 .simp only[go_sem,aL,aY,aK];exact⟨0,om,rfl,fun _=>0,cY.nil (dy.noneS _) _,fun a f=>om,fun a c f=>om⟩
 .rintro O S ⟨i,x,g,hi,Z,L,M,r,s,t,b,w,hI⟩;by_cases z:i<p
  .have hρi:=hρ i z;simp only[go_sem,aL,aY,aK,L,M,r,s,t,z];refine aC (fun O S'=>∃(j:Nat) (y:AV),j<=q/\O 0=aL n m A/\O 2=aK q (fun i=>γ i)/\O 7=x/\O 9=ι (ρ i)/\O 10=y/\O 13=aK p (fun i=>ρ i)/\O 14=ι p/\O 15=ι i/\O 19=aK q (fun i=>γ i)/\O 20=ι q/\O 21=ι j /\
    cY 59 1 St.none S' x i (fun a=>.sl 2 (g a) 0 q)/\(∀a,a<i->iV S' (g a) q (fun j=>A (ρ a) (γ j))/\¬dU y (g a))/\cY 50 2 St.none S' y j (fun c=>.big (A (ρ i) (γ c)))/\∀d,dU x d->¬dU y d) (fun O S=>q-bS (O 21)) ?_ ?_
   .simp only[go_sem,aL,aY,aK,Z,L,M,r,s,t];exact⟨0,om,rfl,b,fun a f=>⟨w a f,by rintro⟨_,_,_,e⟩;cases e⟩,cY.nil (dy.noneS _) _,fun d _=>by rintro⟨_,_,_,e⟩;cases e⟩
   .rintro O S' ⟨j,y,hj,Z,L,M,e9,e10,r,s,t,e19,e20,e21,b,w,P,B⟩;by_cases Q:j<q
    .have hγj:=hγ j Q;simp -dsimp only[*,go_sem,aL,aY,aK];refine ax.intro fun G C=>?_;simp -dsimp only[*,go_sem,aL,aY];have H:=P.fresh C;have k:=b.fresh C;refine cY.app50 (P.upd (by rfl) H _) om (show ei 2 (.big (A (ρ i) (γ j)))from trivial) (aR ⟨_,_,_,rfl,ca,rfl,fun h=>H _ h rfl⟩) ?_
     intro c S2 R l u;simp only[*,go_sem,aL,aY,aK,aI (om:j<1000000),bS]
     have kx:∀d,dU x d->d≠G/\¬dU y d:=fun d o=>⟨k d o,B d o⟩;refine⟨⟨j+1,om,rfl,?_,fun a f=>?_,R.congr fun a f=>by grind,fun d o he=>?_⟩,om⟩
     .refine b.step (dy.noneS _) (fun d o=>?_)
      cases hS:S' d with
      | none =>
       exfalso;obtain⟨_,_,_,e⟩:=o;rcases b.2 with⟨_,v⟩|⟨c,_,v,g',E,_⟩
       .rw[v]at e;cases e
       .rw[v]at e;cases e;rw[hS]at E;cases E
      | some X=>exact l d X (by rw[aG (kx d o).1];exact hS) (kx d o).2
     .obtain⟨F,r2⟩:=w a f;have I:g a≠G:=a6.fresh F C;refine⟨F.via fun X b=>l _ _ (by rw[aG I];exact b) r2,fun hb=>?_⟩
      rw[d9]at hb;rw[<-hb]at u;rcases u with h|h
      .exact r2 h
      .rw[aG I]at h;exact a6.fresh F h rfl
     .rw[d9]at he;subst he;rcases u with h|h
      .exact B d o h
      .rw[aG (k d o)]at h;obtain⟨_,_,_,e⟩:=o;rcases b.2 with⟨_,v⟩|⟨c,_,v,g',E,_⟩
       .rw[v]at e;cases e
       .rw[v]at e;cases e;rw[h]at E;cases E
    .obtain rfl:j=q:=om
     rcases P.2 with⟨h0,_⟩|⟨c,_,rfl,N⟩
     .omega
     simp -dsimp only[*,go_sem,aL,aY,aK];refine ax.intro fun J D=>?_;simp -dsimp only[*,go_sem];have k:=b.fresh D;refine cY.app59 (b.upd (by rfl) k _) om (show ei 1 (.sl 2 c 0 j)from trivial) (aR ⟨_,_,_,rfl,ca,rfl,fun h=>k _ h rfl⟩) ?_
     intro d S2 T l u;have K:c≠J:=a6.fresh N D;have U:¬dU x c:=fun h=>B c h (d9.2 rfl);simp only[*,go_sem,aL,aY,aK,aI (om:i<1000000),bS]
     refine⟨⟨i+1,om,rfl,fun a=>if a=i then c else g a,T.congr fun a f=>by grind,fun a f=>?_,fun a d f o e=>?_⟩,om⟩
     .by_cases e:a=i
      .subst e;simp only[aE];exact N.via fun X b=>l _ _ (by rw[aG K];exact b) U
      .simp only[e,aH];have F:=(w a om).1;have V:g a≠J:=a6.fresh F D;obtain⟨gg,W,_⟩:=F;exact(w a om).1.via fun X Y=>l _ _ (by rw[aG V];exact Y) (b.other W om)
     .have k1:=fun a f=>(w a f).2;simp only[d9]at k1
      grind
  .simp only[go_sem,aL,aY,aK,L,M,r,s,t,z];obtain rfl:i=p:=om
   rcases b.2 with⟨h0,_⟩|⟨c,_,rfl,N⟩
   .omega
   exact⟨c,rfl,g,N,w,hI⟩

theorem mG{k:Nat}:∀(m:Nat) (M:az),m<=16->(∀a b,a<m->b<m->nb (M a b) k)->nb (det m M) (m*(k+10)+1)
 | 0,M,_,_=>by simp only[det];exact nb.one om
 | m+1,M,l,h=>by
  simp only[det];have d:∀j,j<m+1->nb (xu j*M 0 j*det m (cut M j)) (k+(m*(k+10)+1)):=by
   intro j e;have f:=mG m (cut M j) om (fun a b n g=>h _ _ om (yw g));have c:=(h 0 j om e).mul f;unfold nb at c ⊢;have:(xu j*M 0 j*det m (cut M j)).natAbs=(M 0 j*det m (cut M j)).natAbs:=by
    unfold xu;split
    .rw[cL]
    .rw[et];simp
   rw[this];exact c
  have i:=zT d om (m+1) (ag _);refine i.mono ?_;rw[cg];omega
def lv{Y:eo}:(S.upd b X).upd b Y=S.upd b Y:=by
 funext k;simp only[St.upd];split<;>rfl
def dr.upd(h:dr S b g n m A){c:Nat}(d:b≠c)(e:∀i,i<n->g i≠c)(X:eo):dr (S.upd c X) b g n m A :=
 ⟨h.outer.upd d X,fun i a=>(h.row i a).upd (e i a) X,h.inj⟩
def dr.swap(h:dr S b g n m A){p k:Nat}(v:p<n)(w:k<n)(r:p≠k){f:Nat->AV}(l:S b=some ⟨59,1,n,f⟩) :
  dr (S.upd b ⟨59,1,n,aQ (aQ f p (.sl 2 (g k) 0 m)) k (.sl 2 (g p) 0 m)⟩) b (fun i=>g (c8 k p i)) n m (fun i j=>A (c8 k p i) j):=by
 obtain⟨g',o,s⟩:=h.outer;rw[l]at o;cases o;have c:∀i,i<n->c8 k p i<n:=fun i a=>by unfold c8;split<;>(try split)<;>omega
 refine⟨a6.here fun i a=>?_,fun i a=>(h.row _ (c i a)).upd (fun e=>?_) _,fun i j a t e=>?_⟩
 .have:=s i a;simp only[aQ,c8];by_cases d:i=k
  .subst d;simp
  .by_cases q:i=p
   .subst q;simp[d]
   .simp[d,q,this]
 .exact a6.ne (a6.of l) (h.row _ (c i a)) om e.symm
 .have u:=h.inj _ _ (c i a) (c j t) e;unfold c8 at u
  grind
def jI{A:az}{neg:Bool}(e:n<=16)(c:∀i j,i<n->j<n->nb (A i j) k0)(d:l7 A n σ neg k){i j:Nat}(f:k+i<n)(g:k+j<n):nb (ci (fun a b=>A (σ a) b) k i j) (17*(k0+10)):=by
 refine(mG (k+1) _ om (fun a b h l=>c _ _ (d.row _ ?_) ?_)).mono ?_
 .rw[kf];split<;>omega
 .rw[kf];split<;>omega
 .have:(k+1)*(k0+10)<=16*(k0+10):=aq _ om;omega
def BN(A:az)(n b b2 b5:Nat)(S:St)(k:Nat)(neg:Bool)(Q:(Nat->Nat)->(Nat->Nat->Int)->Prop):Prop:=∃(g σ:Nat->Nat) (B:Nat->Nat->Int),l7 A n σ neg k/\dr S b g n n B/\(∀i,i<n->g i≠b2/\g i≠b5)/\cT S b2 50 2 (.big 0)/\cT S b5 50 2 (.big (det k (fun a c=>A (σ a) c)))/\Q σ B
def Nb(A:az)(n k:Nat)(σ:Nat->Nat)(B:Nat->Nat->Int):Prop:=∀i j,k<=i->i<n->k<=j->j<n->B i j=ci (fun a c=>A (σ a) c) k (i-k) (j-k)
def StgP(A:az)(n k p:Nat)(σ:Nat->Nat)(B:Nat->Nat->Int):Prop:=Nb A n k σ B/\∀i,k<=i->i<p->B i k=0
def Ic(A:az)(n k i j:Nat)(σ:Nat->Nat)(B:Nat->Nat->Int):Prop:=ci (fun a c=>A (σ a) c) k 0 0≠0/\∀a c,k<=a->a<n->k<=c->c<n->B a c=if k<a/\k<c/\(a<i∨(a=i/\c<j))then ci (fun a c=>A (σ a) c) (k+1) (a-(k+1)) (c-(k+1))else ci (fun a c=>A (σ a) c) k (a-k) (c-k)
def jz(n:Nat)(A:az)(E:Nat)(h1:1<=n)(M:n<=16)(N:∀i j,i<n->j<n->nb (A i j) E)(hk:E<=10000000):PF 26 [aL n n A] (.big (det n A)):=by
 refine gN func26 ntmps26 results26 ?_;simp -dsimp only[go_sem];refine ax.intro fun y f2=>?_;simp -dsimp only[go_sem];refine(yS n n A E om h1 om N om _ _ (cC _ _)).mono ?_;rintro r S1 ⟨b,g0,rfl,H⟩;simp -dsimp only[go_sem];refine(gE dc dc).call ?_
 simp -dsimp only[go_sem];refine ax.intro fun z f5=>?_;simp only[go_sem];have hb2:y≠b:=fun e=>by have:=H.2.2.1;rw[<-e,ca]at this;cases this
 have hg2:∀i,i<n->g0 i≠y:=fun i h e=>by have:=H.2.2.2 i h;rw[e,ca]at this;cases this
 have Y:y≠z:=fun e=>by have:=H.2.1 y _ ca;rw[e,f5]at this;cases this
 have Q:b≠z:=a6.fresh H.1.outer f5;have hg5:∀i,i<n->g0 i≠z:=fun i h=>a6.fresh (H.1.row i h) f5;refine aC (fun O S=>∃(k:Nat) (neg:Bool),k<=n/\O 2=.ptr 2 y 0/\O 3=.sl 1 b 0 n/\O 4=ι n/\O 5=.ptr 2 z 0/\O 6=.bool neg/\O 7=ι k/\BN A n b y z S k neg (Nb A n k)) (fun O S=>n-bS (O 7)) ?_ ?_
 .simp only[go_sem];refine⟨0,om,false,rfl,rfl,g0,id,A,l7.init A n,(H.1.upd Q hg5 _).upd Q hg5 _,fun i h=>⟨hg2 i h,hg5 i h⟩,?_,cT.set,fun i j _ _ _ _=>by rw[eQ];rfl⟩
  exact(cT.upd ⟨_,H.2.1 y _ ca,rfl⟩ Y _).upd Y _
 .rintro O S ⟨k,neg,hkn,s,I,F,J,G,C,x⟩;by_cases d:k<n
  .simp only[*,go_sem,aa];refine aC (fun O S=>∃p:Nat,k<=p/\p<=n/\O 2=.ptr 2 y 0/\O 3=.sl 1 b 0 n/\O 4=ι n/\O 5=.ptr 2 z 0/\O 6=.bool neg/\O 7=ι k/\O 8=ι p/\BN A n b y z S k neg (StgP A n k p)) (fun O S=>n-bS (O 8)) ?_ ?_
   .simp only[*,go_sem];obtain⟨g,σ,B,f,l,t,V2,V5,m⟩:=x;exact⟨k,om,om,rfl,g,σ,B,f,l,t,V2,V5,m,fun i h1 M=>om⟩
   .clear x;rintro O S ⟨p,hkp,hpn,s,I,F,J,G,C,e8,x⟩;by_cases Z:p<n
    .obtain⟨g,σ,B,f,l,t,V2,V5,m,hZ⟩:=x;obtain⟨g1,P,L⟩:=l.outer;obtain⟨g2,u2,v2⟩:=l.row p Z;have v1':=L p Z;have v2':=v2 k d;have hbp:=jI M N f (i:=p-k) (j:=0) om om;have D:=m p k hkp Z (ag _) d;rw[bQ]at D;rw[<-D]at hbp;simp -dsimp only[go_sem,aa,I,F,C,e8,Z,d,P,u2,v1',v2'];refine(jP hbp om).call ?_;by_cases h0:B p k=0
     .simp -dsimp only[go_sem,aa,s,I,F,J,G,C,e8,Z,h0,oX,aI (om:p<1000000),bS]
      refine⟨⟨p+1,om,om,rfl,g,σ,B,f,l,t,V2,V5,m,fun i h1 M=>?_⟩,om⟩
      by_cases e:i=p
      .rw[e];exact h0
      .exact hZ i h1 om
     .have hs0:((B p k).sign==0)=false:=by
       simp only[fU,Bp];rw[ix];exact h0
      have hpn':((p:Int)==n)=false:=by simp;omega
      simp -dsimp only[go_sem,aa,s,I,F,J,G,C,e8,Z,hs0,hpn'];by_cases R:k<p
      .obtain⟨g3,u3,X⟩:=l.row k d;have v3':=L k d;have v1'':g1 p=.sl 2 (g p) 0 n:=v1';have v3'':g1 k=.sl 2 (g k) 0 n:=v3';simp -dsimp only[go_sem,R];refine fm 13 kr ?_
       simp only[go_sem,aa,I,G,C,e8,Z,d,P,v1'',v3'',aI (om:k<1000000)]
       have T:BN A n b y z ((S.upd b ⟨59,1,n,aQ g1 p (.sl 2 (g k) 0 n)⟩).upd b ⟨59,1,n,aQ (aQ g1 p (.sl 2 (g k) 0 n)) k (.sl 2 (g p) 0 n)⟩) k (!neg) (Ic A n k (k+1) (k+1)):=by
        rw[lv];have hs:∀i,i<n->c8 k p i<n:=fun i h=>by unfold c8;split<;>(try split)<;>omega
        refine⟨_,fun a=>σ (c8 k p a),_,f.swap R Z,l.swap Z d om P,fun i h=>t _ (hs i h),V2.upd hb2 _,?_,?_,fun a c v o u q=>?_⟩
        .have e:=tL (n:=k) (fun a c=>A (σ a) c) (i:=k) (k:=p) om om;rw[e];exact V5.upd (ai Q) _
        .have e:=tK (k:=k) (p:=p) (fun a c=>A (σ a) c) hkp 0 0;rw[e,show c8 0 (p-k) 0=p-k by simp[c8],<-D];exact h0
        .rw[ah om];have e:=tK (k:=k) (p:=p) (fun a c=>A (σ a) c) hkp (a-k) (c-k);show B (c8 k p a) c=_;rw[e,m (c8 k p a) c (by unfold c8;split<;>(try split)<;>omega) (hs a o) u q]
         congr 1;unfold c8;split<;>(try split)<;>(try split)<;>(try split)<;>omega
       refine aC (fun O S=>∃i:Nat,k+1<=i/\i<=n/\O 2=.ptr 2 y 0/\O 3=.sl 1 b 0 n/\O 4=ι n/\O 5=.ptr 2 z 0/\O 6=.bool (!neg)/\O 7=ι k/\O 9=ι i/\BN A n b y z S k (!neg) (Ic A n k i (k+1))) (fun O S=>n-bS (O 9)) ?_ ?_
       .simp only[*,go_sem];exact⟨k+1,om,om,rfl,T⟩
       .clear T s I F J G C e8 P u2 L v2 v1' v2' l V2 V5 t f;rintro O S ⟨i,hki,hin,s,I,F,J,G,C,e9,x⟩;by_cases h:i<n
        .simp only[*,go_sem,aa,aI (om:k<1000000)]
         refine aC (fun O S=>∃j:Nat,k+1<=j/\j<=n/\O 2=.ptr 2 y 0/\O 3=.sl 1 b 0 n/\O 4=ι n/\O 5=.ptr 2 z 0/\O 6=.bool (!neg)/\O 7=ι k/\O 9=ι i/\O 10=ι j/\BN A n b y z S k (!neg) (Ic A n k i j)) (fun O S=>n-bS (O 10)) ?_ ?_
         .simp only[*,go_sem];exact⟨k+1,om,om,rfl,x⟩
         .clear x;rintro O S ⟨j,hkj,hjn,s,I,F,J,G,C,e9,e10,x⟩;by_cases U:j<n
          .obtain⟨g,σ,B,f,l,t,V2,V5,w,m⟩:=x;obtain⟨g1,P,L⟩:=l.outer;obtain⟨g2,u2,v2⟩:=l.row i h;obtain⟨g3,u3,X⟩:=l.row k d;have w1:=L i h;have w2:=L k d;have w3:=v2 j U;have w4:=v2 k d;have w5:=X j U;have w6:=X k d;obtain⟨gw,uw,vw⟩:=V5;have c1:=m i j om h om U;have c2:=m i k om h (ag _) d;have c3:=m k j (ag _) d om U;have K:=m k k (ag _) d (ag _) d;rw[ah om]at c1 c2 c3 K;rw[bQ]at c2 c3 K;have n1:=jI M N f (i:=i-k) (j:=j-k) om om;have n2:=jI M N f (i:=i-k) (j:=0) om om;have n3:=jI M N f (i:=0) (j:=j-k) om om;have n4:=jI M N f (i:=0) (j:=0) om om;rw[<-c1]at n1;rw[<-c2]at n2;rw[<-c3]at n3;rw[<-K]at n4;have n5:nb (det k (fun a c=>A (σ a) c)) (17*(E+10)):=(mG k _ om (fun a c ha hc=>N _ _ (f.row a om) om)).mono (by have:k*(E+10)<=16*(E+10):=aq _ om;omega)
           have V:=ij f.lead (i-k-1) (j-k-1);rw[(om:i-k-1+1=i-k),(om:j-k-1+1=j-k),<-c1,<-c2,<-c3,<-K]at V
           have W:=f.lead k (ag _);have hq:(B k k*B i j-B i k*B k j)/det k (fun a c=>A (σ a) c)=ci (fun a c=>A (σ a) c) (k+1) (i-k-1) (j-k-1):=by
            rw[V,cj _ W]
           simp -dsimp only[*,go_sem,aa];refine aN 39 kr ?_
           simp only[go_sem,aa,s,I,F,J,G,C,e9,e10,h,U,d,P,u2,u3,w1,w2,w3,w4,w5,w6,uw,vw];refine⟨_,(ji n4 n1 om).pure',_,(ji n2 n3 om).pure',_,(tQ (n4.mul n1) (n2.mul n3) om).pure',_,(od (k:=17*(E+10)+17*(E+10)+1) ((n4.mul n1).sub (n2.mul n3)) (n5.mono om) om W).pure',?_⟩;simp only[go_sem,aI (om:j<1000000),bS]
           rw[hq];refine⟨⟨j+1,om,om,rfl,g,σ,_,f,l.set h u2,t,cT.upd V2 (ai (t i h).1) _,cT.upd ⟨gw,uw,vw⟩ (ai (t i h).2) _,w,fun a c v o u q=>?_⟩,om⟩
           have h3:=m a c v o u q;simp only[dS];by_cases e1:a=i/\c=j
           .obtain⟨rfl,rfl⟩:=e1;rw[aj ⟨rfl,rfl⟩,aj om,mL,mL]
           .rw[ah e1,h3];by_cases s:k<a/\k<c/\(a<i∨a=i/\c<j)
            .rw[aj s,aj om]
            .rw[ah s,ah om]
          .obtain rfl:j=n:=om
           obtain⟨g,σ,B,f,l,t,V2,V5,w,m⟩:=x;simp only[*,go_sem,aa,aI (om:i<1000000),bS]
           refine⟨⟨i+1,om,om,rfl,g,σ,B,f,l,t,V2,V5,w,fun a c v o u q=>?_⟩,om⟩
           rw[m a c v o u q];by_cases s:k<a/\k<c/\(a<i∨a=i/\c<j)
           .rw[aj s,aj om]
           .rw[ah s,ah om]
        .obtain rfl:i=n:=om
         obtain⟨g,σ,B,f,l,t,V2,V5,w,m⟩:=x;obtain⟨g1,P,L⟩:=l.outer;obtain⟨g3,u3,X⟩:=l.row k d;have w2:=L k d;have w6:=X k d;obtain⟨gw,uw,vw⟩:=V5;have K:=m k k (ag _) d (ag _) d;rw[ah om,bQ,cG]at K;simp only[go_sem,aa,s,I,F,J,G,C,e9,h,d,P,u3,w2,w6,uw,aI (om:k<1000000),bS]
         refine⟨⟨k+1,om,(!neg),rfl,rfl,g,σ,B,f.step w,l.upd Q (fun i h=>(t i h).2) _,t,V2.upd Y _,?_,fun a c v o u q=>?_⟩,om⟩
         .rw[<-K];exact cT.set
         .rw[m a c om o om q,aj om]
      .obtain rfl:k=p:=om
       simp only[go_sem,aI (om:k<1000000),R]
       have T:BN A n b y z S k neg (Ic A n k (k+1) (k+1)):=by
        refine⟨g,σ,B,f,l,t,V2,V5,?_,fun a c v o u q=>?_⟩
        .rw[bQ]at D;rw[<-D];exact h0
        .rw[ah om];exact m a c v o u q
       refine aC (fun O S=>∃i:Nat,k+1<=i/\i<=n/\O 2=.ptr 2 y 0/\O 3=.sl 1 b 0 n/\O 4=ι n/\O 5=.ptr 2 z 0/\O 6=.bool neg/\O 7=ι k/\O 9=ι i/\BN A n b y z S k neg (Ic A n k i (k+1))) (fun O S=>n-bS (O 9)) ?_ ?_
       .simp only[*,go_sem];exact⟨k+1,om,om,rfl,T⟩
       .clear T s I F J G C e8 P u2 L v2 v1' v2' l V2 V5 t f;rintro O S ⟨i,hki,hin,s,I,F,J,G,C,e9,x⟩;by_cases h:i<n
        .simp only[*,go_sem,aa,aI (om:k<1000000)]
         refine aC (fun O S=>∃j:Nat,k+1<=j/\j<=n/\O 2=.ptr 2 y 0/\O 3=.sl 1 b 0 n/\O 4=ι n/\O 5=.ptr 2 z 0/\O 6=.bool neg/\O 7=ι k/\O 9=ι i/\O 10=ι j/\BN A n b y z S k neg (Ic A n k i j)) (fun O S=>n-bS (O 10)) ?_ ?_
         .simp only[*,go_sem];exact⟨k+1,om,om,rfl,x⟩
         .clear x;rintro O S ⟨j,hkj,hjn,s,I,F,J,G,C,e9,e10,x⟩;by_cases U:j<n
          .obtain⟨g,σ,B,f,l,t,V2,V5,w,m⟩:=x;obtain⟨g1,P,L⟩:=l.outer;obtain⟨g2,u2,v2⟩:=l.row i h;obtain⟨g3,u3,X⟩:=l.row k d;have w1:=L i h;have w2:=L k d;have w3:=v2 j U;have w4:=v2 k d;have w5:=X j U;have w6:=X k d;obtain⟨gw,uw,vw⟩:=V5;have c1:=m i j om h om U;have c2:=m i k om h (ag _) d;have c3:=m k j (ag _) d om U;have K:=m k k (ag _) d (ag _) d;rw[ah om]at c1 c2 c3 K;rw[bQ]at c2 c3 K;have n1:=jI M N f (i:=i-k) (j:=j-k) om om;have n2:=jI M N f (i:=i-k) (j:=0) om om;have n3:=jI M N f (i:=0) (j:=j-k) om om;have n4:=jI M N f (i:=0) (j:=0) om om;rw[<-c1]at n1;rw[<-c2]at n2;rw[<-c3]at n3;rw[<-K]at n4;have n5:nb (det k (fun a c=>A (σ a) c)) (17*(E+10)):=(mG k _ om (fun a c ha hc=>N _ _ (f.row a om) om)).mono (by have:k*(E+10)<=16*(E+10):=aq _ om;omega)
           have V:=ij f.lead (i-k-1) (j-k-1);rw[(om:i-k-1+1=i-k),(om:j-k-1+1=j-k),<-c1,<-c2,<-c3,<-K]at V
           have W:=f.lead k (ag _);have hq:(B k k*B i j-B i k*B k j)/det k (fun a c=>A (σ a) c)=ci (fun a c=>A (σ a) c) (k+1) (i-k-1) (j-k-1):=by
            rw[V,cj _ W]
           simp -dsimp only[*,go_sem,aa];refine aN 39 kr ?_
           simp only[go_sem,aa,s,I,F,J,G,C,e9,e10,h,U,d,P,u2,u3,w1,w2,w3,w4,w5,w6,uw,vw];refine⟨_,(ji n4 n1 om).pure',_,(ji n2 n3 om).pure',_,(tQ (n4.mul n1) (n2.mul n3) om).pure',_,(od (k:=17*(E+10)+17*(E+10)+1) ((n4.mul n1).sub (n2.mul n3)) (n5.mono om) om W).pure',?_⟩;simp only[go_sem,aI (om:j<1000000),bS]
           rw[hq];refine⟨⟨j+1,om,om,rfl,g,σ,_,f,l.set h u2,t,cT.upd V2 (ai (t i h).1) _,cT.upd ⟨gw,uw,vw⟩ (ai (t i h).2) _,w,fun a c v o u q=>?_⟩,om⟩
           have h3:=m a c v o u q;simp only[dS];by_cases e1:a=i/\c=j
           .obtain⟨rfl,rfl⟩:=e1;rw[aj ⟨rfl,rfl⟩,aj om,mL,mL]
           .rw[ah e1,h3];by_cases s:k<a/\k<c/\(a<i∨a=i/\c<j)
            .rw[aj s,aj om]
            .rw[ah s,ah om]
          .obtain rfl:j=n:=om
           obtain⟨g,σ,B,f,l,t,V2,V5,w,m⟩:=x;simp only[*,go_sem,aa,aI (om:i<1000000),bS]
           refine⟨⟨i+1,om,om,rfl,g,σ,B,f,l,t,V2,V5,w,fun a c v o u q=>?_⟩,om⟩
           rw[m a c v o u q];by_cases s:k<a/\k<c/\(a<i∨a=i/\c<j)
           .rw[aj s,aj om]
           .rw[ah s,ah om]
        .obtain rfl:i=n:=om
         obtain⟨g,σ,B,f,l,t,V2,V5,w,m⟩:=x;obtain⟨g1,P,L⟩:=l.outer;obtain⟨g3,u3,X⟩:=l.row k d;have w2:=L k d;have w6:=X k d;obtain⟨gw,uw,vw⟩:=V5;have K:=m k k (ag _) d (ag _) d;rw[ah om,bQ,cG]at K;simp only[go_sem,aa,s,I,F,J,G,C,e9,h,d,P,u3,w2,w6,uw,aI (om:k<1000000),bS]
         refine⟨⟨k+1,om,neg,rfl,rfl,g,σ,B,f.step w,l.upd Q (fun i h=>(t i h).2) _,t,V2.upd Y _,?_,fun a c v o u q=>?_⟩,om⟩
         .rw[<-K];exact cT.set
         .rw[m a c om o om q,aj om]
    .obtain rfl:p=n:=om
     have hpn':((p:Int)==p)=true:=by simp
     obtain⟨g,σ,B,f,l,t,V2,V5,m,hZ⟩:=x;obtain⟨gv,uv,vv⟩:=V2;simp only[*,go_sem,aa];have hz:det p A=0:=f.zero d (fun i h=>by
      have h3:=m (k+i) k om om (ag _) d;rw[hZ (k+i) om om,bQ,(om:k+i-k=i)]at h3
      exact h3.symm)
     rw[hz];exact VR.mf rfl
  .obtain rfl:k=n:=om
   obtain⟨g,σ,B,f,l,t,V2,V5,m⟩:=x;obtain⟨gv,uv,vv⟩:=V2;obtain⟨gw,uw,vw⟩:=V5;have hs:=f.sign;have hbd:nb (det k (fun a c=>A (σ a) c)) (17*(E+10)):=(mG k _ M (fun a c ha hc=>N _ _ (f.row a ha) hc)).mono (by have:k*(E+10)<=16*(E+10):=aq _ M;omega)
   cases neg
   .simp only[dB,aH]at hs;simp only[go_sem,aa,s,F,J,G,C,d,uv,uw,vw,aQ];rw[<-hs];exact VR.mf rfl
   .simp only[aE]at hs;simp -dsimp only[go_sem,aa,s,F,J,G,C,d,uv,uw,vw];refine(yy hbd om).call ?_;simp only[go_sem,aa,s,uv,vw,aQ];rw[hs,yQ];exact VR.mf rfl

def cY.vr{e:Nat}{g:Nat->AV}(h:cY e es S0 S x j g)(a:∀i,i<j->VR S (g i) (g' i)):VR S x (.lst es j g'):=by
 rcases h.2 with⟨rfl,rfl⟩|⟨c,_,rfl,b⟩
 .exact VR.nil
 .exact VR.sl b om (fun i d=>by rw[aJ];exact a i d)
def Ad(k m i:Nat):Nat:=if i<k then i else m
def Fq(k m:Nat)(s:k<=1000)(t:m<=1000):PF 173 [ι k,ι m] (aK (k+1) (fun i=>(Ad k m i:Nat))):=by
 refine gN func173 ntmps173 results173 ?_;simp only[go_sem];refine aC (fun O S=>∃(i:Nat) (x:AV),i<=k/\O 0=ι k/\O 1=ι m/\O 5=x/\O 6=ι i/\cY 3 1 St.none S x i (fun a=>ι a)) (fun O S=>k-bS (O 6)) ?_ ?_
 .simp only[go_sem];exact⟨0,om,rfl,cY.nil (dy.noneS _) _⟩
 .rintro O S ⟨i,x,u,v,w,y,z,f⟩;by_cases o:i<k
  .simp -dsimp only[*,go_sem];refine ax.intro fun p g=>?_;simp -dsimp only[*,go_sem];have b:=f.fresh g;refine cY.app3 (f.upd (by rfl) b _) om (show ei 1 (ι (i:Int)) by simp[ei]) (aR ⟨_,_,_,rfl,ca,rfl,fun h=>b _ h rfl⟩) ?_
   intro c S2 d j l;simp only[*,go_sem,aI (om:i<1000000),bS]
   exact⟨⟨i+1,om,rfl,d.congr fun a q=>by grind⟩,om⟩
  .obtain rfl:i=k:=om
   simp -dsimp only[*,go_sem];refine ax.intro fun r n=>?_;simp -dsimp only[*,go_sem];have b:=f.fresh n;refine cY.app3 (f.upd (by rfl) b _) om (show ei 1 (ι (m:Int)) by simp[ei]) (aR ⟨_,_,_,rfl,ca,rfl,fun h=>b _ h rfl⟩) ?_
   intro c S2 d j l;simp only[*,go_sem];refine d.vr (fun a q=>?_);have:(if a=i then ι (m:Int)else ι (a:Int))=ι ((Ad i m a:Nat):Int):=by
    unfold Ad;by_cases e:a=i
    .subst e;simp
    .rw[ah e,aj om]
   rw[this];exact VR.mf rfl
def Jm(A:az)(k i j:Nat):det (k+1) (fun a b=>A (Ad k (k+i) a) (Ad k (k+j) b))=ci A k i j:=by
 unfold ci;exact aZ fun a b _ _=>rfl
def sZ(n:Nat)(A:az)(f:Nat)(p:1<=n)(q:n<=16)(r:∀i j,i<n->j<n->nb (A i j) f)(s:f<=10000000):PF 118 [aL n n A] (.tup [aY n (fun k=>det (k+1) A),.bool true]):=by
 refine gN func118 ntmps118 results118 ?_;simp -dsimp only[go_sem,aa];refine(pg n A p q).call ?_;simp only[go_sem];refine aC (fun O S=>∃(i:Nat) (x:AV),i<=n/\O 0=aL n n A/\O 4=ι n/\O 6=x/\O 7=ι i/\cY 50 2 St.none S x i (fun a=>.big (det (a+1) A))) (fun O S=>n-bS (O 7)) ?_ ?_
 .simp only[go_sem];exact⟨0,om,rfl,cY.nil (dy.noneS _) _⟩
 .rintro O S ⟨i,x,B,C,D,E,F,g⟩;by_cases t:i<n
  .have e:∀a,a<i+1->Ad i i a<n:=fun a l=>by unfold Ad;split<;>omega
   simp -dsimp only[*,go_sem,aa];refine(Fq i i om om).call ?_;simp -dsimp only[*,go_sem,aa];refine(Fq i i om om).call ?_;simp -dsimp only[*,go_sem,aa];refine(CC n n (i+1) (i+1) A (Ad i i) (Ad i i) om om om om e e).pf.call ?_;simp -dsimp only[*,go_sem,aa];refine(jz (i+1) _ f om om (fun a b l u=>r _ _ (e a l) (e b u)) s).call ?_;simp -dsimp only[*,go_sem];refine ax.intro fun v m=>?_;simp -dsimp only[*,go_sem];have d:=g.fresh m;have w:det (i+1) (fun a b=>A (Ad i i a) (Ad i i b))=det (i+1) A:=by
    have:=Jm A i 0 0;rw[cu,cG]at this;exact this
   refine cY.app50 (g.upd (by rfl) d _) om (show ei 2 (.big (det (i+1) A))from trivial) (aR ⟨_,_,_,rfl,ca,by rw[w];rfl,fun h=>d _ h rfl⟩) ?_
   intro c S2 o y z;simp only[*,go_sem,aI (om:i<1000000),bS]
   exact⟨⟨i+1,om,rfl,o.congr fun a l=>by grind⟩,om⟩
  .obtain rfl:i=n:=om
   simp only[*,go_sem,aa];exact VR.tup2 (g.vr fun a _=>VR.mf rfl) (VR.mf rfl)
def ny(a:Int):jU a a=0:=by unfold jU;simp
def tJ(n:Nat)(A:az)(e:Nat)(r:n<=16)(f:∀i j,i<n->j<n->nb (A i j) e)(s:e<=10000000)(l:∀a b,a<n->b<n->A a b=A b a):PF 116 [aL n n A] (.bool true):=by
 refine gN func116 ntmps116 results116 ?_;simp only[go_sem,aL,aY];refine aC (fun O S=>∃i:Nat,i<=n/\O 0=aL n n A/\O 6=ι n/\O 7=ι i) (fun O S=>n-bS (O 7)) ?_ ?_
 .simp only[go_sem,aL,aY];exact⟨0,om,rfl⟩
 .rintro O S ⟨i,t,g,h,k⟩;by_cases c:i<n
  .simp only[*,go_sem,aL,aY];refine aC (fun O S=>∃j:Nat,j<=i/\O 0=aL n n A/\O 3=ι i/\O 4=ι j/\O 6=ι n/\O 7=ι i) (fun O S=>i-bS (O 4)) ?_ ?_
   .simp only[*,go_sem,aL,aY];exact⟨0,om,rfl⟩
   .rintro O S ⟨j,u,g,m,o,h,k⟩;by_cases p:j<i
    .have d:j<n:=om
     simp -dsimp only[*,go_sem,aL,aY];refine aN 16 kr ?_
     simp only[go_sem,aa,aL,aY,g,m,o,h,k,c,d];have q:jU (A i j) (A j i)=0:=by rw[l i j c d];exact ny _
     refine⟨_,(mW (f i j c d) (f j i d c) om).pure',?_⟩;rw[q];simp only[go_sem,aI (om:j<1000000),bS]
     exact⟨⟨j+1,om,rfl⟩,om⟩
    .simp only[*,go_sem,aL,aY,aI (om:i<1000000),bS]
     exact⟨⟨i+1,om,rfl⟩,om⟩
  .simp only[*,go_sem,aL,aY];exact VR.mf rfl

def VR.agg(h:∀x∈l,ql x=true):VR S (.agg l) (.agg l):=by
 intro w v d a;simp only[bH]at a ⊢;obtain⟨vs,b,c⟩:=a;exact⟨vs,b,Ds l vs h c⟩
def rN(a b:Int):Int:=a/(mC a b:Int)
def rD(a b:Int):Int:=b/(mC a b:Int)
def uq{b:Int}(h:0<b):0<(mC a b:Int):=by
 have:=Int.gcd_pos_of_ne_zero_right a (om:b≠0);omega
def LP{b:Int}:(mC a b:Int)*rN a b=a:=iM (Int.gcd_dvd_left ..)
def GI{b:Int}:(mC a b:Int)*rD a b=b:=iM (Int.gcd_dvd_right ..)
def qe{b:Int}(h:0<b):0<rD a b:=by
 have c:=GI (a:=a) (b:=b);exact qh (uq (a:=a) h) (by rw[c];exact h)
def zq9{b:Int}:rN a b*b=a*rD a b:=by
 have c:=LP (a:=a) (b:=b);have d:=GI (a:=a) (b:=b);have e:(mC a b:Int)*(rN a b*rD a b)=a*rD a b:=by rw[<-et,c]
 have f:(mC a b:Int)*(rN a b*rD a b)=rN a b*b:=by rw[S8,d]
 rw[<-e,f]
def sJ{g x y:Int}(h:g*x=y)(a:0<g):x.natAbs<=y.natAbs:=by
 rw[<-h,cN];exact Nat.le_mul_of_pos_left _ om
def zE{b:Int}(h:0<b)(c:nb a k):nb (rN a b) k:=nb.of_le (sJ LP (uq h)) c
def zF{b:Int}(h:0<b)(c:nb b k):nb (rD a b) k:=nb.of_le (sJ GI (uq h)) c
def ou{b c d:Int}(e:0<b)(f:0<d)(h:a*d=c*b):a/b=c/d:=by
 rw[<-JA a b f,h,bU b d,JA c d e]
def B7(h:0<a):a.sign=1:=cW h
def Ni{b:Int}(f:nb a k)(c:nb b k)(l:k<=500000000)(d:0<b):PF 254 [.big a,.big b] (.tup [.agg [.big (rN a b),.big (rD a b)],.bool true]):=by
 refine gN func254 ntmps254 results254 ?_;have i:=uq (a:=a) d;have g:nb (mC a b:Int) k:=nb.of_le (by have:=Int.gcd_le_natAbs_right a (om:b≠0);simp;exact this) c
 try simp -dsimp only[go_sem]
 refine ax.intro fun m n=>?_
 try simp -dsimp only[go_sem]
 refine ax.intro fun o j=>?_;have n3_2:=(af j).1
 try simp -dsimp only[go_sem]
 refine ax.intro fun p h=>?_;have n4_3:=(af h).1;have n4_2:=(af (af h).2).1;simp -dsimp only[go_sem,aa,ai n4_3];refine(jP c om).call ?_;rw[B7 d];simp -dsimp only[go_sem,aa,ai n4_3,show((1:Int)==0)=false from rfl];refine(jP c om).call ?_;rw[B7 d];simp -dsimp only[go_sem,aa,ai n3_2,ai n4_2,ai n4_3,show ¬((1:Int)<0) by decide]
 refine(N9 f c om).call ?_;simp -dsimp only[go_sem];refine ax.intro fun q e=>?_;have n6_4:=(af e).1;have n6_3:=(af (af e).2).1;have n6_2:=(af (af (af e).2).2).1;simp -dsimp only[go_sem,aa];refine aN 7 kr ?_
 simp only[go_sem,aa,ai n3_2,ai n4_2,ai n4_3,ai n6_2,ai n6_3,ai n6_4,aQ];refine⟨_,(od f g om om).pure',_,(od c g om om).pure',?_⟩;simp only[go_sem,ft,dZ,aS,bF,bZ,ct,bL,bJ,dC,bQ];exact VR.tup2 (VR.agg (by simp[ql])) (VR.mf rfl)
def nd{b:Int}(d:nb a k)(e:nb b k)(f:k<=500000000)(g:0<b):PF 220 [.agg [.big a,.big b]] (.agg [.big (rN a b),.big (rD a b)]):=by
 refine gN func220 ntmps220 results220 ?_;simp -dsimp only[go_sem,aS,bF,bZ,ct];refine ax.intro fun i f1=>?_
 try simp -dsimp only[go_sem]
 refine ax.intro fun j h=>?_;have n2_1:=(af h).1;simp -dsimp only[go_sem,aa,ai n2_1,bL,bJ];refine(Ni d e f g).call ?_;simp -dsimp only[go_sem,bL,bJ];refine ax.intro fun l c=>?_;have n3_2:=(af c).1;have n3_1:=(af (af c).2).1;simp only[go_sem,aa,ai n3_2,ft,dZ,aS,bF,bZ,ct,bL,bJ,dC,bQ];exact VR.agg (by simp[ql])
def PR:PF 219 [] (.agg [.big 1,.big 2]):=by
 refine gN func219 ntmps219 results219 ?_
 try simp -dsimp only[go_sem]
 refine ax.intro fun a f0=>?_;simp -dsimp only[go_sem,aa];refine(gE dc dc).call ?_
 simp -dsimp only[go_sem,aa];refine(gE dc dc).call ?_
 simp only[go_sem,aa,ft,dZ,aS,bF,bZ,ct,bL,bJ,dC,bQ];exact VR.agg (by simp[ql])
def Nr{b:Int}(d:nb a k)(e:nb b k)(g:k<=500000000)(c:0<b):PF 217 [.agg [.big a,.big b]] (.big (a/b)):=by
 refine gN func217 ntmps217 results217 ?_;simp -dsimp only[go_sem,aS,bF,bZ,ct];refine ax.intro fun j f1=>?_
 try simp -dsimp only[go_sem]
 refine ax.intro fun l h=>?_;have n2_1:=(af h).1;simp -dsimp only[go_sem,aa,ai n2_1,dZ,bL,bJ];refine(nd d e g c).call ?_;simp -dsimp only[go_sem];refine ax.intro fun m f=>?_;have n3_2:=(af f).1;have n3_1:=(af (af f).2).1;simp -dsimp only[go_sem,aa,ft,dZ,aS,bF,bZ,ct,bL,bJ,dC,bQ];have i:=qe (a:=a) c;refine(od (zE c d) (zF c e) om om).call ?_;simp only[go_sem,aa,ai n3_2,aQ,ft,bL,bJ,dC,bQ];rw[ou i c zq9];exact VR.mf rfl
def F0{b:Int}(d:nb a k)(e:nb b k)(f:k<=500000000)(g:0<b):PF 170 [.big a,.big b] (.agg [.big (rN a b),.big (rD a b)]):=by
 refine gN func170 ntmps170 results170 ?_
 try simp -dsimp only[go_sem]
 refine ax.intro fun i j=>?_
 try simp -dsimp only[go_sem]
 refine ax.intro fun l h=>?_;have n3_2:=(af h).1
 try simp -dsimp only[go_sem]
 refine ax.intro fun m c=>?_;have n4_3:=(af c).1;have n4_2:=(af (af c).2).1;simp -dsimp only[go_sem,aa,ai n3_2,ai n4_2,ai n4_3];refine(nd d e f g).call ?_;simp only[go_sem,aa,ft,dZ,aS,bF,bZ,ct,bL,bJ,dC,bQ];exact VR.agg (by simp[ql])
def R8{b c d:Int}(o:nb a k)(p:nb b k)(q:nb c k)(r:nb d k)(w:k<=100000000)(h:0<b)(i:0<d) :
  PF 218 [.agg [.big a,.big b],.agg [.big c,.big d]] (.agg [.big (rN (rN a b*rD c d+rN c d*rD a b) (rD a b*rD c d)),.big (rD (rN a b*rD c d+rN c d*rD a b) (rD a b*rD c d))]):=by
 refine gN func218 ntmps218 results218 ?_;have t:=qe (a:=a) h;have u:=qe (a:=c) i;have l:=zE h o;have e:=zF (a:=a) h p;have m:=zE i q;have f:=zF (a:=c) i r;simp -dsimp only[go_sem,aS,bF,bZ,ct];refine ax.intro fun x y=>?_
 try simp -dsimp only[go_sem]
 refine ax.intro fun z v=>?_;have n3_2:=(af v).1
 try simp -dsimp only[go_sem]
 refine ax.intro fun A s=>?_;have n4_3:=(af s).1;have n4_2:=(af (af s).2).1;simp -dsimp only[go_sem];refine aN 6 kr ?_
 simp -dsimp only[go_sem,aa,ai n3_2,ai n4_2,ai n4_3,dZ,bL,bJ];refine⟨_,(nd o p om h).pure',_,(nd q r om i).pure',?_⟩;refine ax.intro fun B n=>?_;have n5_4:=(af n).1;have n5_3:=(af (af n).2).1;have n5_2:=(af (af (af n).2).2).1
 try simp -dsimp only[go_sem]
 refine ax.intro fun C j=>?_;have n6_5:=(af j).1;have n6_4:=(af (af j).2).1;have n6_3:=(af (af (af j).2).2).1;have n6_2:=(af (af (af (af j).2).2).2).1;simp -dsimp only[go_sem,nn n6_5,aS,bF,bZ,ct];refine jf 21 [[19]] kr ?_
 simp -dsimp only[go_sem,aa,ai n6_5,ft,dZ,aS,bF,bZ,ct,bL,bJ,dC,bQ];refine⟨_,(ji l f om).pure',_,(ji m e om).pure',_,(tU (l.mul f) (m.mul e) om).pure',_,(ji e f om).pure',_,(Ni (k:=k+k+1) ((l.mul f).add (m.mul e)) ((e.mul f).mono om) om (jM t u)).pure',?_⟩;simp -dsimp only[go_sem];refine ax.intro fun D g=>?_;have n7_6:=(af g).1;have n7_5:=(af (af g).2).1;have n7_4:=(af (af (af g).2).2).1;have n7_3:=(af (af (af (af g).2).2).2).1;have n7_2:=(af (af (af (af (af g).2).2).2).2).1;simp only[go_sem,ai n5_4,ai n6_4,ai n7_2,ft,aS,bF,bZ,ct,bL,bJ,dC,bQ];exact VR.agg (by simp[ql])
def Om{b:Int}(c:0<b):(rN a b*rD 1 2+rN 1 2*rD a b)/(rD a b*rD 1 2)=(2*a+b)/(2*b):=by
 have d:rN 1 2=1:=by decide
 have e:rD 1 2=2:=by decide
 have f:=qe (a:=a) c;have g:=zq9 (a:=a) (b:=b);rw[d,e];refine ou om om ?_
 grind
def Ih{b:Int}(e:nb a k)(f:nb b k)(t:k<=10000000)(l:4<=k)(d:0<b):PF 169 [.agg [.big a,.big b]] (.big ((2*a+b)/(2*b))):=by
 refine gN func169 ntmps169 results169 ?_;have g:nb 1 k:=nb.one om;have h:nb 2 k:=cZ (by decide:2<2^2) (cp om om)
 have m:=qe (a:=a) d;have n:0<rD 1 2:=by decide
 have o:=zE d e;have i:=zF (a:=a) d f;have p:nb (rN 1 2) k:=zE dc g
 have j:nb (rD 1 2) k:=zF dc h
 have q:=((o.mul j).add (p.mul i));have r:=((i.mul j).mono (om:k+k<=k+k+1))
 have c:=jM m n;simp -dsimp only[go_sem,aS,bF,bZ,ct];refine ax.intro fun u f1=>?_
 try simp -dsimp only[go_sem]
 refine ax.intro fun v s=>?_;have n2_1:=(af s).1;simp -dsimp only[go_sem];refine aN 4 kr ?_
 simp only[go_sem,aa,ai n2_1,aQ,dZ,bL,bJ];refine⟨_,PR.pure',_,(R8 e f g h om d dc).pure',_,(Nr (k:=k+k+1) (zE c q) (zF c r) om (qe c)).pure',?_⟩
 simp only[go_sem];rw[ou (qe c) c zq9,Om d];exact VR.mf rfl

def eI.cons{r:List AV}(h:VA S x y)(a:eI S l r):eI S (x::l) (y::r):=⟨h,a⟩
def cY.blk{e:Nat}{g:Nat->AV}(h:cY e es S0 S x j g){d:Nat}(f:dU x d):∃X,S d=some X:=by
 obtain⟨_,_,_,a⟩:=f;rcases h.2 with⟨_,b⟩|⟨c,_,b,g',i,_⟩
 .rw[b]at a;cases a
 .rw[b]at a;cases a;exact⟨_,i⟩
def cY.keep{e:Nat}{g:Nat->AV}(h:cY e es S0 S y j g)(c:dy S0 S')(f:∀d X,S d=some X->¬dU x d->S' d=some X)(i:∀d,dU y d->¬dU x d):cY e es S0 S' y j g :=
 h.step c (fun d a=>by obtain⟨X,b⟩:=h.blk a;rw[b];exact f d X b (i d a))
def wW(n i j:Nat)(A:az)(W:Nat)(h1:j<=i)(h2:i<n)(h3:n<=16)(hA:∀i j,i<n->j<n->nb (A i j) W)(hk:W<=10000000):PF 171 [aL n n A,ι i,ι j] (.big (eZ A i j)):=by
 refine gN func171 ntmps171 results171 ?_
 try simp -dsimp only[go_sem]
 refine ax.intro fun D f6=>?_;simp only[go_sem];refine aC (fun O S=>∃(a:Nat) (x y:AV),a<=j/\O 0=aL n n A/\O 1=ι i/\O 2=ι j/\O 6=.ptr 2 D 0/\O 7=x/\O 8=y/\O 9=ι a/\cT S D 50 2 (.big 0)/\cY 3 1 St.none S x a (fun a=>ι a)/\cY 3 1 St.none S y a (fun a=>ι a)/\∀d,dU x d->¬dU y d) (fun O S=>j-bS (O 9)) ?_ ?_
 .simp only[go_sem];exact⟨0,om,rfl,cT.new rfl,cY.nil (dy.noneS _) _,cY.nil (dy.noneS _) _,fun d h=>by obtain⟨_,_,_,e⟩:=h;cases e⟩
 .rintro O S ⟨a,x,y,Z,e0,e1,e2,e6,e7,e8,e9,V6,P,H,E⟩;obtain⟨g6,N,v6⟩:=V6;have Q:=P.other N om;have R:=H.other N om;by_cases hlt:a<j
  .simp -dsimp only[*,go_sem];refine ax.intro fun I f=>?_;simp -dsimp only[*,go_sem];have r:=P.fresh f;have s:=H.fresh f;have t:D≠I:=fun e=>by rw[<-e,N]at f;cases f
   refine cY.app3 (P.upd (by rfl) r _) om (show ei 1 (ι (a:Int)) by simp[ei]) (aR ⟨_,_,_,rfl,ca,rfl,fun h=>r _ h rfl⟩) ?_
   intro c S2 o u J;have v:=u D _ (by rw[aG t];exact N) Q
   have w:cY 3 1 St.none S2 y a (fun a=>ι a):=(H.upd (by rfl) s _).keep (dy.noneS _) u (fun d l b=>E d b l)
   have F:¬dU y c:=by
    intro G;rcases J with h|h
    .exact E c h G
    .obtain⟨X,z⟩:=H.blk G;rw[aG (s c G),z]at h;cases h
   simp -dsimp only[*,go_sem];refine ax.intro fun K g=>?_;simp -dsimp only[*,go_sem];have m:=o.fresh g;have k:=w.fresh g;have B:D≠K:=fun e=>by rw[<-e,v]at g;cases g
   refine cY.app3 (w.upd (by rfl) k _) om (show ei 1 (ι (a:Int)) by simp[ei]) (aR ⟨_,_,_,rfl,ca,rfl,fun h=>k _ h rfl⟩) ?_
   intro c2 S3 L C T;have U:=C D _ (by rw[aG B];exact v) R
   have M:=(o.upd (by rfl) m _).keep (dy.noneS _) C (fun d l b=>by rw[d9]at l;rw[l]at b;exact F b)
   simp only[*,go_sem,aI (om:a<1000000),bS]
   refine⟨⟨a+1,om,rfl,⟨g6,U,v6⟩,M.congr fun a Z=>by grind,L.congr fun a Z=>by grind,fun d l b=>?_⟩,om⟩
   rw[d9]at l b;subst l;subst b;rcases T with h|h
   .exact F h
   .obtain⟨X,z⟩:=o.blk (d9.2 rfl);rw[aG (m _ (d9.2 rfl)),z]at h;cases h
  .obtain rfl:a=j:=om
   simp -dsimp only[*,go_sem];refine ax.intro fun I f=>?_;simp -dsimp only[*,go_sem];have r:=P.fresh f;have s:=H.fresh f;have t:D≠I:=fun e=>by rw[<-e,N]at f;cases f
   refine cY.app3 (P.upd (by rfl) r _) om (show ei 1 (ι (i:Int)) by simp[ei]) (aR ⟨_,_,_,rfl,ca,rfl,fun h=>r _ h rfl⟩) ?_
   intro c S2 o u J;have v:=u D _ (by rw[aG t];exact N) Q
   have w:cY 3 1 St.none S2 y a (fun a=>ι a):=(H.upd (by rfl) s _).keep (dy.noneS _) u (fun d l b=>E d b l)
   have F:¬dU y c:=by
    intro G;rcases J with h|h
    .exact E c h G
    .obtain⟨X,z⟩:=H.blk G;rw[aG (s c G),z]at h;cases h
   simp -dsimp only[*,go_sem];refine ax.intro fun K g=>?_;simp -dsimp only[*,go_sem];have m:=o.fresh g;have k:=w.fresh g;have B:D≠K:=fun e=>by rw[<-e,v]at g;cases g
   refine cY.app3 (w.upd (by rfl) k _) om (show ei 1 (ι (a:Int)) by simp[ei]) (aR ⟨_,_,_,rfl,ca,rfl,fun h=>k _ h rfl⟩) ?_
   intro c2 S3 L C T;have U:=C D _ (by rw[aG B];exact v) R
   have M:=(o.upd (by rfl) m _).keep (dy.noneS _) C (fun d l b=>by rw[d9]at l;rw[l]at b;exact F b)
   simp -dsimp only[*,go_sem,aa];have hF:∀c,c<a+1->Ad a i c<n:=fun c G=>by unfold Ad;split<;>omega
   have V:∀c,c<a+1->Ad a a c<n:=fun c G=>by unfold Ad;split<;>omega
   have vx:VR S3 (.sl 1 c 0 (a+1)) (aK (a+1) (fun q=>(Ad a i q:Nat))):=M.vr (fun q Y=>by
    have:(if q=a then ι (i:Int)else ι (q:Int))=ι ((Ad a i q:Nat):Int):=by
     unfold Ad;by_cases e:q=a
     .subst e;simp
     .rw[ah e,aj om]
    rw[this];exact VR.mf rfl)
   have vy:VR S3 (.sl 1 c2 0 (a+1)) (aK (a+1) (fun q=>(Ad a a q:Nat))):=L.vr (fun q Y=>by
    have:(if q=a then ι (a:Int)else ι (q:Int))=ι ((Ad a a q:Nat):Int):=by
     unfold Ad;by_cases e:q=a
     .subst e;simp
     .rw[ah e,aj om]
    rw[this];exact VR.mf rfl)
   refine(CC n n (a+1) (a+1) A (Ad a i) (Ad a a) om om om om hF V).pf.spec (eI.same (eI.cons vx.va (eI.cons vy.va eI.nil))) ?_;simp -dsimp only[*,go_sem,aa];refine(jz (a+1) _ W om om (fun p q hp Y=>hA _ _ (hF p hp) (V q Y)) hk).call ?_;simp only[*,go_sem,aa,aQ];have l:=Jm A a (i-a) 0;simp only[(om:a+(i-a)=i),cu]at l
   rw[l];exact VR.mf rfl
def pm(n k:Nat)(A:az)(b:n<=16)(c:k<=n):PF 172 [aY n (fun k=>det (k+1) A),ι k] (.big (det k A)):=by
 refine gN func172 ntmps172 results172 ?_
 try simp -dsimp only[go_sem]
 refine ax.intro fun d e=>?_;by_cases a:k=0
 .subst a;simp -dsimp only[go_sem,aa,show((0:Nat):Int)=0 from rfl,cl];refine(gE dc dc).call ?_
  simp only[go_sem,aa,aQ];exact VR.mf rfl
 .obtain⟨m,rfl⟩:∃m,k=m+1:=⟨k-1,om⟩
  have f:(((m+1:Nat):Int)==0)=false:=by simp;omega
  have g:ω (((m+1:Nat):Int)-1)=(m:Nat):=dP om om;simp only[*,go_sem,aa,aY,(om:m<n),aQ]
  exact VR.mf rfl
def sc{b:Int}:decide (jU a b<=0)=decide (a<=b):=by
 unfold jU;rcases eM a b with h|h|h
 .rw[aj h];simp;omega
 .subst h;simp
 .rw[ah om,aj h];simp;omega
def Pe{b:Int}:decide (0<=jU a b)=decide (b<=a):=by
 unfold jU;rcases eM a b with h|h|h
 .rw[aj h];simp;omega
 .subst h;simp
 .rw[ah om,aj h];simp;omega
def oo{A:az}(d:n<=16)(c:∀i j,i<n->j<n->nb (A i j) k0)(e:k<=n):nb (det k A) (17*(k0+10)) :=
 (mG k A om (fun a b f g=>c a b om om)).mono (by have:k*(k0+10)<=16*(k0+10):=aq _ om;omega)
def GU{A:az}(d:n<=16)(c:∀i j,i<n->j<n->nb (A i j) k0)(e:j<=i)(f:i<n):nb (eZ A i j) (17*(k0+10)):=by
 unfold eZ;refine(mG (j+1) _ om (fun a b g h=>c _ _ ?_ ?_)).mono (by have:(j+1)*(k0+10)<=16*(k0+10):=aq _ om;omega)
 .rw[kf];split<;>omega
 .rw[kf];split<;>omega
def FY(n i j:Nat)(A:az)(a:Nat)(f:j<i)(g:i<n)(d:n<=16)(e:∀i j,i<n->j<n->nb (A i j) a)(l:a<=10000000):PF 119 [aL n n A,aY n (fun k=>det (k+1) A),ι i,ι j] (.bool (decide (2*((eZ A i j).natAbs:Int)<=det (j+1) A))):=by
 refine gN func119 ntmps119 results119 ?_;have h:=GU d e (dq f) g;have b:nb ((eZ A i j).natAbs:Int) (17*(a+10)):=nb.of_le sm h
 have m:=oo (k:=j+1) d e om;have c:nb 2 (17*(a+10)):=cZ (by decide:2<2^2) (cp om om)
 simp -dsimp only[go_sem,aa];refine(gE dc dc).call ?_
 simp -dsimp only[go_sem,aa];refine(wW n i j A a (dq f) g d e l).call ?_;simp -dsimp only[go_sem,aa];refine(tV h om).call ?_;simp -dsimp only[go_sem,aa];refine(ji c b om).call ?_;simp -dsimp only[go_sem,aa,aI (om:j<1000000)]
 refine(pm n (j+1) A d om).call ?_;simp -dsimp only[go_sem,aa];refine(mW (c.mul b) (m.mono om) om).call ?_;simp only[go_sem,sc];exact VR.mf rfl
def B6(n:Nat)(A:az)(a:Nat)(d:1<=n)(b:n<=16)(c:∀i j,i<n->j<n->nb (A i j) a)(e:a<=10000000):PF 57 [aL n n A] (.bool (decide (det n A<=10000))):=by
 refine gN func57 ntmps57 results57 ?_;have f:=oo (k:=n) b c (ag _);have g:nb 10000 (17*(a+10)):=cZ (by decide:10000<2^14) (cp om om)
 simp -dsimp only[go_sem,aa];refine(jz n A a d b c e).call ?_;simp -dsimp only[go_sem,aa];refine(gE dc dc).call ?_
 simp -dsimp only[go_sem,aa];refine(mW f g om).call ?_;simp only[go_sem,sc];exact VR.mf rfl
def vH(n:Nat)(A T:az)(k:Nat)(a:1<=n)(c:n<=16)(h:∀i j,i<n->j<n->nb (A i j) k)(f:∀i j,i<n->j<n->nb (T i j) k)(p:k<=100000000):MF 113 [aL n n A,aL n n T] n n (kh n (kh n (fun i j=>T j i) A) T):=by
 refine MF.of (iZ func113 ntmps113 results113 ?_);have m:∀i j,i<n->j<n->nb (kh n (fun i j=>T j i) A i j) (k+k+10):=fun i j d e=>zT (fun q l=>(f q i l d).mul (h q j l e)) om n (ag _);simp -dsimp only[go_sem,aa];refine(mZ n n T k a c a c f om).pf.call ?_;simp -dsimp only[go_sem,aa];refine(kv n n n (fun i j=>T j i) A k a c a c a c (fun i j d e=>f j i e d) h om).pf.call ?_;simp -dsimp only[go_sem,aa];refine(kv n n n _ T (k+k+10) a c a c a c m (fun i j d e=>(f i j d e).mono om) om _ _ (cC _ _)).mono ?_;rintro r S1 ⟨b,g,rfl,o⟩;simp only[go_sem];exact⟨b,rfl,g,o.1⟩

def E8(h:z.natAbs<16)(a:4<=k):nb z k:=cZ h (by have:=cp (n:=2) om a;omega)
def CH(n i:Nat)(A:az)(b:Nat)(s:0<i)(l:i<n)(a:n<=16)(e:∀i j,i<n->j<n->nb (A i j) b)(q:b<=10000000):PF 120 [aL n n A,aY n (fun k=>det (k+1) A),ι i] (.bool (decide (3*(det i A*det i A)<=4*(det (i-1) A*det (i+1) A+eZ A i (i-1)*eZ A i (i-1))))):=by
 refine gN func120 ntmps120 results120 ?_;obtain⟨m,rfl⟩:∃m,i=m+1:=⟨i-1,om⟩
 rw[fA];have f:ω (((m+1:Nat):Int)-1)=(m:Nat):=dP om om;have c:=GU (i:=m+1) (j:=m) a e om l;have g:=oo (k:=m) a e om;have d:=oo (k:=m+1) a e om;have h:=oo (k:=m+1+1) a e om;have o:nb 4 (17*(b+10)+17*(b+10)+1):=E8 dc om
 have p:nb 3 (17*(b+10)+17*(b+10)):=E8 dc om
 have s1:=(g.mul h).add (c.mul c);simp -dsimp only[go_sem,aa,f];refine(wW n (m+1) m A b om l a e q).call ?_;simp -dsimp only[go_sem];refine ax.intro fun t u=>?_;simp -dsimp only[go_sem,aa,f];refine aN 16 kr ?_
 simp -dsimp only[go_sem,aa,f,aI (om:m+1<1000000),aQ]
 refine⟨_,(gE dc dc).pure',_,(pm n m A a om).pure',_,(pm n (m+1+1) A a om).pure',_,(ji g h om).pure',_,(ji c c om).pure',_,(tU (g.mul h) (c.mul c) om).pure',_,(ji o s1 om).pure',?_⟩
 refine ax.intro fun v r=>?_;have n8_7:=(af r).1;simp -dsimp only[go_sem];refine aN 13 kr ?_
 simp only[go_sem,aa,aQ];refine⟨_,(gE dc dc).pure',_,(pm n (m+1) A a om).pure',_,(pm n (m+1) A a om).pure',_,(ji d d om).pure',_,(ji p (d.mul d) om).pure',_,(mW (o.mul s1) ((p.mul (d.mul d)).mono om) om).pure',?_⟩
 simp only[go_sem,Pe];exact VR.mf rfl
def IL:decide (a.sign<=0)=decide (a<=0):=by
 rcases eM a 0 with h|h|h
 .rw[eE h];simp;omega
 .subst h;simp
 .rw[cW h];simp;omega
def Gc(n:Nat)(A:az)(c:Nat)(l:1<=n)(f:n<=16)(g:∀i j,i<n->j<n->nb (A i j) c)(d:c<=10000000)(m:∀a b,a<n->b<n->A a b=A b a)(β:Bool)(hβ:β=true↔∀k,k<=n->0<det k A):PF 117 [aL n n A] (.bool β):=by
 refine gN func117 ntmps117 results117 ?_;simp -dsimp only[go_sem,aa];refine(sZ n A c l f g d).call ?_;simp -dsimp only[go_sem,aa,aY];refine(tJ n A c f g d m).call ?_;simp only[go_sem];refine aC (fun O S=>∃i:Nat,i<=n/\O 19=aY n (fun k=>det (k+1) A)/\O 20=ι n/\O 21=ι i/\∀k,k<=i->0<det k A) (fun O S=>n-bS (O 21)) ?_ ?_
 .simp only[go_sem,aY];exact⟨0,om,rfl,fun k d=>by rw[(om:k=0)];simp[det]⟩
 .rintro O S ⟨i,t,o,p,q,h⟩;by_cases r:i<n
  .have s:=oo (k:=i+1) f g om;simp -dsimp only[*,go_sem,aY];refine ax.intro fun u v=>?_;simp -dsimp only[go_sem,aa,aQ];refine(jP s om).call ?_;by_cases w:det (i+1) A<=0
   .simp only[*,go_sem,aY,IL];have:β=false:=by
     cases β with
     | false=>rfl
     | true=>have:=hβ.1 rfl (i+1) om;omega
    rw[this];exact VR.mf rfl
   .simp only[*,go_sem,aY,IL,aI (om:i<1000000),bS]
    refine⟨⟨i+1,om,rfl,fun k d=>?_⟩,om⟩
    by_cases e:k=i+1
    .rw[e];omega
    .exact h k om
  .obtain rfl:i=n:=om
   simp only[*,go_sem,aY];have:β=true:=hβ.2 h;rw[this];exact VR.mf rfl
def oE(n:Nat)(A:az)(c:Nat)(d:1<=n)(h:n<=8)(e:∀i j,i<n->j<n->nb (A i j) c)(f:c<=10000000)(g:∀a b,a<n->b<n->A a b=A b a)(β:Bool)(hβ:β=true↔∀k,k<=n->0<det k A):PF 56 [aL n n A] (ι (if β then 0 else 5)):=by
 refine gN func56 ntmps56 Tf ?_;simp -dsimp only[go_sem,aa];refine(pg n A d om).call ?_;simp -dsimp only[go_sem,aa,(om:¬((8:Int)<n))]
 refine(tJ n A c om e f g).call ?_;simp -dsimp only[go_sem,aa];refine(Gc n A c d om e f g β hβ).call ?_
 cases β
 .simp only[go_sem];exact VR.mf rfl
 .simp only[go_sem];exact VR.mf rfl

inductive Ev where
 | size (i j:Nat)
 | swap (i:Nat)
 | done
def wZ(A:az)(n:Nat):Ev->Prop
 | .size i j=>j<i/\i<n/\jt A i/\(∀j',j<j'->j'<i->gI A i j')/\¬gI A i j
 | .swap i=>0<i/\i<n/\jt A i/\(∀j',j'<i->gI A i j')/\¬gA A i
 | .done=>jt A n
def ko(n:Nat):Ev->Nat
 | .size i _=>i
 | .swap i=>i
 | .done=>n
def Jh(A:az)(i j:Nat):Int:=- ((2*eZ A i j+det (j+1) A)/(2*det (j+1) A))
def Qg(A:az):Ev->az
 | .size i j=>dS jS j i (Jh A i j)
 | .swap i=>fun a b=>jS (c8 (i-1) i a) b
 | .done=>jS
def evV(n:Nat)(A:az)(ev:Ev):AV:=match ev with
 | .done=>.tup [.nil,.bool false]
 | e=>.tup [aL n n (Qg A e),.bool true]
def wZ.ok{A:az}{ev:Ev}(h:wZ A n ev):jt A (ko n ev)/\ko n ev<=n:=by
 cases ev with
 | size i j=>exact⟨h.2.2.1,dq h.2.1⟩
 | swap i=>exact⟨h.2.2.1,dq h.2.1⟩
 | done=>exact⟨h,ag _⟩
def ON(A:az)(n:Nat):∃ev,wZ A n ev:=by
 have key:∀i,i<=n->jt A i∨∃ev,wZ A n ev:=by
  intro i
  induction i with
  | zero=>intro _;exact a9 ⟨fun r d=>om,fun r _ d=>om⟩
  | succ i ih =>
   intro m;rcases ih om with h|h
   .have row:∀t,t<=i->(∀j',i-t<=j'->j'<i->gI A i j')∨∃ev,wZ A n ev:=by
     intro t
     induction t with
     | zero=>intro _;exact a9 (fun j' a b=>om)
     | succ t iht =>
      intro o;rcases iht om with a|a
      .rcases fL (gI A i (i-(t+1)))with b|b
       .refine a9 (fun j' f g=>?_);by_cases e:j'=i-(t+1)
        .rw[e];exact b
        .exact a j' om g
       .exact aR ⟨.size i (i-(t+1)),om,om,h,fun j' f g=>a j' om g,b⟩
      .exact aR a
    rcases row i (ag _)with a|a
    .have k:∀j',j'<i->gI A i j':=fun j' c=>a j' om c;rcases bD i with l|l
     .refine a9 ⟨fun r d j c=>?_,fun r b d=>om⟩
      omega
     .rcases fL (gA A i)with b|b
      .refine a9 ⟨fun r d j c=>?_,fun r f d=>?_⟩
       .by_cases e:r=i
        .rw[e]at c ⊢;exact k j c
        .exact h.1 r om j c
       .by_cases e:r=i
        .rw[e];exact b
        .exact h.2 r f om
      .exact aR ⟨.swap i,l,om,h,k,b⟩
    .exact aR a
   .exact aR h
 rcases key n (ag _)with h|h
 .exact⟨.done,h⟩
 .exact h
def dr.swap'(h:dr S b g n m A){p k:Nat}(d:p<n)(e:k<n)(a:p≠k){c:Nat->AV}(f:S b=some ⟨59,1,n,c⟩) :
  dr ((S.upd b ⟨59,1,n,aQ c p (.sl 2 (g k) 0 m)⟩).upd b ⟨59,1,n,aQ (aQ c p (.sl 2 (g k) 0 m)) k (.sl 2 (g p) 0 m)⟩) b (fun i=>g (c8 k p i)) n m (fun i j=>A (c8 k p i) j):=by
 rw[lv];exact h.swap d e a f
def C4(n:Nat)(A:az)(s:Nat)(h1:1<=n)(h2:n<=8)(E:∀i j,i<n->j<n->nb (A i j) s)(hk:s<=500000)(G:∀k,k<=n->0<det k A)(ev:Ev)(t:wZ A n ev):PF 112 [aL n n A] (evV n A ev):=by
 refine gN func112 ntmps112 results112 ?_;obtain⟨v,hrn⟩:=t.ok;simp -dsimp only[go_sem,aa];refine(sZ n A s h1 om E om).call ?_;simp -dsimp only[go_sem,aa,aL];refine(rM n h1 om _ _ (cC _ _)).mono ?_;rintro r S1 ⟨b,g,rfl,H⟩;simp only[go_sem];refine aC (fun O S=>∃i:Nat,i<=ko n ev/\O 0=aL n n A/\O 4=aY n (fun k=>det (k+1) A)/\O 6=.sl 1 b 0 n/\O 22=ι n/\O 23=ι i/\S=S1) (fun O S=>n-bS (O 23)) ?_ ?_
 .simp only[go_sem,aL,aY];exact⟨0,om,rfl⟩
 .rintro O S ⟨i,hi,e0,e4,Q,I,J,rfl⟩;by_cases f:i<n
  .have hw:ω ((i:Int)-1)=(i:Int)-1:=i64_in om om;simp only[*,go_sem];refine aC (fun O S'=>∃jj:Nat,jj<=i/\(∀j',jj<=j'->j'<i->gI A i j')/\(∀j,ev=.size i j->j<jj)/\O 0=aL n n A/\O 4=aY n (fun k=>det (k+1) A)/\O 6=.sl 1 b 0 n/\O 8=ι i/\O 9=ι ((jj:Int)-1)/\O 22=ι n/\O 23=ι i/\S'=S) (fun O S=>match O 9 with|.int _ z=>(z+1).toNat|_=>0) ?_ ?_
   .simp only[*,go_sem];refine⟨i,om,fun j' R F=>om,fun j K=>?_,rfl⟩
    subst K;exact t.1
   .rintro O S' ⟨jj,hjj,L,w,e0,e4,Q,e8,T,I,J,rfl⟩;rcases bD jj with h0|h0
    .subst h0;have hall:∀j',j'<i->gI A i j':=fun j' K=>L j' om K;have M:∀j,ev≠.size i j:=fun j K=>by have:=w j K;omega
     have U:¬((0:Int)<=((0:Nat):Int)-1):=om
     rcases bD i with u|u
     .subst u;have V:(0:Nat)≠ko n ev:=fun e=>by
       cases ev with
       | size a c=>have:=t.1;simp only[ko]at e;omega
       | swap a=>have:=t.1;simp only[ko]at e;omega
       | done=>simp only[ko]at e;omega
      simp -dsimp only[go_sem,aa,e0,e4,Q,e8,T,I,J,show((0:Nat):Int)=0 from rfl,NJ,show ω ((0:Int)+1)=1 from rfl,bS];refine⟨⟨1,om,rfl⟩,?_⟩
      simp;omega
     .have hi0':(0:Int)<(i:Int):=om
      simp -dsimp only[*,go_sem,aa];refine(CH n i A s u f om E om).call ?_;by_cases N:gA A i
      .have x:decide (3*(det i A*det i A)<=4*(det (i-1) A*det (i+1) A+eZ A i (i-1)*eZ A i (i-1)))=true:=by simpa [gA]using N
       rw[x];simp only[*,go_sem,aI (om:i<1000000),bS]
       have V:i≠ko n ev:=fun e=>by
        cases ev with
        | size a c=>simp only[ko]at e;subst e;exact M c rfl
        | swap a=>simp only[ko]at e;subst e;exact t.2.2.2.2 N
        | done=>simp only[ko]at e;omega
       exact⟨⟨i+1,om,rfl⟩,om⟩
      .have x:decide (3*(det i A*det i A)<=4*(det (i-1) A*det (i+1) A+eZ A i (i-1)*eZ A i (i-1)))=false:=by simpa [gA]using N
       rw[x];have o:ev=.swap i:=by
        have d:i=ko n ev:=by
         rcases aB i (ko n ev)with h|h
         .exact absurd (v.2 i u h) N
         .omega
        cases ev with
        | size a c=>simp only[ko]at d;subst d;exact absurd rfl (M c)
        | swap a=>simp only[ko]at d;rw[d]
        | done=>simp only[ko]at d;omega
       subst o;obtain⟨m,rfl⟩:∃m,i=m+1:=⟨i-1,om⟩
       have W:ω (((m+1:Nat):Int)-1)=(m:Nat):=dP om om;have y:m<n:=om
       obtain⟨X,Y,P⟩:=H.1.outer;have w1:X (m+1)=.sl 2 (g (m+1)) 0 n:=P (m+1) f;have w2:X m=.sl 2 (g m) 0 n:=P m y;simp -dsimp only[*,go_sem];refine eL 15 [[2,3,4]] kr ?_
       simp only[go_sem,aa,Q,e8,f,W,Y,w1,w2,y];have Z:=H.1.swap' (p:=m+1) (k:=m) f y om Y;exact VR.tup2 (Z.vr) (VR.mf rfl)
    .obtain⟨j,rfl⟩:∃j,jj=j+1:=⟨jj-1,om⟩
     have e9':O 9=ι (j:Int):=by rw[T];congr 1;omega
     clear T;simp -dsimp only[*,go_sem,aa];refine(FY n i j A s om f om E om).call ?_;by_cases B:gI A i j
     .have C:decide (2*((eZ A i j).natAbs:Int)<=det (j+1) A)=true:=by simpa [gI]using B
      rw[C];have hw2:ω ((j:Int)-1)=(j:Int)-1:=i64_in om om;simp only[*,go_sem];refine⟨⟨j,om,fun j' R F=>?_,fun c U=>?_,rfl⟩,om⟩
      .by_cases e:j'=j
       .rw[e];exact B
       .exact L j' om F
      .have R:=w c U;have F:c≠j:=fun e=>by
        subst e;subst U;exact t.2.2.2.2 B
       omega
     .have C:decide (2*((eZ A i j).natAbs:Int)<=det (j+1) A)=false:=by simpa [gI]using B
      rw[C];have o:ev=.size i j:=by
       have d:i=ko n ev:=by
        rcases aB i (ko n ev)with h|h
        .exact absurd (v.1 i h j om) B
        .omega
       cases ev with
       | size a c =>
        simp only[ko]at d;subst d;have R:=w c rfl;rcases aB c j with F|F
        .exact absurd (t.2.2.2.1 j F om) B
        .rw[(om:c=j)]
       | swap a=>simp only[ko]at d;subst d;exact absurd (t.2.2.2.1 j om) B
       | done=>simp only[ko]at d;omega
      subst o;have D:j<n:=om
      have l:=GU (n:=n) (i:=i) (j:=j) om E om f;have hd:=oo (k:=j+1) (n:=n) om E om;have q:=G (j+1) om;have hnear:(2*rN (eZ A i j) (det (j+1) A)+rD (eZ A i j) (det (j+1) A))/(2*rD (eZ A i j) (det (j+1) A))=(2*eZ A i j+det (j+1) A)/(2*det (j+1) A):=by
       have hp:=qe (a:=eZ A i j) q;have hr:=zq9 (a:=eZ A i j) (b:=det (j+1) A);refine ou om om ?_
       grind
      have hnq:nb ((2*eZ A i j+det (j+1) A)/(2*det (j+1) A)) (17*(s+10)+1+1):=by
       have h5:nb (2*eZ A i j) (17*(s+10)+1):=by
        have:2*eZ A i j=eZ A i j+eZ A i j:=om
        rw[this];exact l.add l
       exact nb.of_le (jD ..) (h5.add (hd.mono om))
      obtain⟨X,Y,P⟩:=H.1.outer;obtain⟨g2,u2,v2⟩:=H.1.row j D;have w1:=P j D;simp -dsimp only[*,go_sem];refine aN 17 kr ?_
      simp only[*,go_sem,aa,aI (om:j<1000000)]
      refine⟨_,(wW n i j A s om f om E om).pure',_,(pm n (j+1) A om om).pure',_,(F0 l hd om q).pure',_,(Ih (k:=17*(s+10)) (zE q l) (zF q hd) om om (qe q)).pure',_,(yy (k:=17*(s+10)+1+1) (by rw[hnear];exact hnq) om).pure',?_⟩
      rw[hnear];simp only[go_sem];exact VR.tup2 ((H.1.set D u2).vr) (VR.mf rfl)
  .obtain rfl:i=n:=om
   simp only[*,go_sem]
   cases ev with
   | size a c=>have:=t.2.1;simp only[ko]at hi;omega
   | swap a=>have:=t.2.1;simp only[ko]at hi;omega
   | done=>exact VR.tup2 (VR.mf rfl) (VR.mf rfl)

inductive Ie (Q:az) (n:Nat):az->az->Prop where
 | done {R:az}:wZ (gT Q n R) n .done->Ie Q n R R
 | size {R R':az} {i j:Nat}:wZ (gT Q n R) n (.size i j)->Ie Q n (nL R i j (-Jh (gT Q n R) i j)) R'->Ie Q n R R'
 | swap {R R':az} {i:Nat}:wZ (gT Q n R) n (.swap i)->Ie Q n (fun a b=>R (c8 (i-1) i a) b) R'->Ie Q n R R'
def Fs(A:az)(i j:Nat):-Jh A i j=fY (eZ A i j) (det (j+1) A):=by
 unfold Jh fY;rw[yQ,(om:eZ A i j+eZ A i j+det (j+1) A=2*eZ A i j+det (j+1) A),(om:det (j+1) A+det (j+1) A=2*det (j+1) A)]
def wP(E c n pl i:Nat):Nat:=E+c*(pl-i*(n+1))
def wP_le{pl:Nat}(h:pl<=m):wP E c n pl i<=E+c*m:=by
 unfold wP;have:=aM c (om:pl-i*(n+1)<=m)
 omega
structure Gk(Q:az)(n d E:Nat)(R:az):Prop where
 ls:LS Q n d (wP E (3*d+8) n (lN (gT Q n R) n)) R
 dn:det n (gT Q n R)=det n Q
def O6{A:az}(h:Pd A n)(a:i<n)(b:j<i):2*((eZ A i j+Jh A i j*det (j+1) A).natAbs:Int)<=det (j+1) A:=I4 (h.pos (j+1) om)
def Gk.add(h:Gk Q n d E R)(r:∀a b,a<n->b<n->Q a b=Q b a)(u:n<=8)(A:d+3<=E)(v:wZ (gT Q n R) n (.size i j)) :
  Gk Q n d E (nL R i j (-Jh (gT Q n R) i j))/\wt (gT Q n (nL R i j (-Jh (gT Q n R) i j))) n<wt (gT Q n R) n:=by
 obtain⟨f1,f,g,s,w⟩:=v;have k:gT Q n R j j<=2^(d+3):=h.ls.row u om (fun c l=>g.1 j f1 c l);have m:=JU (n:=n) f1 f g s w (O6 h.ls.pd f f1);have x:i*(n+1)+(i-(j+1))<=lN (gT Q n R) n:=by
  refine wx (fun c l=>Cs g (fun j' B y=>s j' om y) om f l) _ ?_;have:(i+1)*(n+1)<=n*(n+1):=aq _ f;rw[cg]at this;omega
 have o:gT Q n (nL R i j (-Jh (gT Q n R) i j))=j8 (gT Q n R) i j (Jh (gT Q n R) i j):=by rw[wy r,yQ]
 refine⟨⟨?_,?_⟩,?_⟩
 .have z:=h.ls.weak (w':=fun a=>if a=j then d+3 else wP E (3*d+8) n (lN (gT Q n R) n) a) (fun a p=>by
   try dsimp only
   by_cases e:a=j
   .subst e;rw[aj rfl];exact k
   .rw[ah e];exact h.ls.dg a p)
  have q:=z.sub r f1 f (by(try dsimp only);rw[aj rfl];exact ag _)
  rw[<-Fs]at q;refine q.weak fun a p=>cX (q.dg a p) (dY ?_);rw[o];generalize lN (gT Q n R) n=pl at *;generalize lN (j8 (gT Q n R) i j (Jh (gT Q n R) i j)) n=pl' at *
  try dsimp only
  by_cases e:a=i
  .subst e;rw[aj rfl,ah om];unfold wP;have t:=aM (3*d+8) (om:pl-a*(n+1)+1<=pl'-a*(n+1))
   rw[bW]at t;omega
  .rw[ah e];unfold wP;have t:=aM (3*d+8) (om:pl-a*(n+1)<=pl'-a*(n+1))
   split<;>omega
 .rw[o,fo f1];exact h.dn
 .rw[o];exact L6 f1 m
def Gk.swap(h:Gk Q n d E R)(r:n<=8)(s:d+3<=E)(t:wZ (gT Q n R) n (.swap i)) :
  Gk Q n d E (fun a b=>R (c8 (i-1) i a) b)/\wt (gT Q n (fun a b=>R (c8 (i-1) i a) b)) n<wt (gT Q n R) n:=by
 obtain⟨f1,f,u,v,l⟩:=t;have j:gT Q n (fun a b=>R (c8 (i-1) i a) b)=xn (gT Q n R) i:=rfl;have w:lN (gT Q n R) n<=i*(n+1)+i:=by
  refine tf ?_ _;rw[FH om];exact fun x=>l (x.2 rfl f1)
 have g:∀a,a<n->gT Q n R a a<=2^E:=fun a m=>by
  rcases aB i a with o|o
  .refine cX (h.ls.dg a m) (dY ?_);unfold wP;have:(i+1)*(n+1)<=a*(n+1):=aq _ o;rw[cg]at this;rw[(om:lN (gT Q n R) n-a*(n+1)=0)]
   omega
  .refine cX (h.ls.row r m fun c q=>?_) (dY s);by_cases e:a=i
   .subst e;exact v c q
   .exact u.1 a om c q
 refine⟨⟨⟨?_,fun k p=>?_,?_,fun a m=>?_⟩,?_⟩,?_⟩
 .rw[j];exact h.ls.pd.swap f1 f
 .rw[j];by_cases e:k=i
  .subst e;have o:=BX h.ls.pd f1 f l;have A:=h.ls.lead k p;have B:=(h.ls.pd.swap f1 f).pos k p;omega
  .rw[ml f1 e];exact h.ls.lead k p
 .have y:det n (o8 (fun a b=>R (c8 (i-1) i a) b))=- det n (o8 R):=lk (o8 R) (n:=n) (i:=i-1) (k:=i) om f om;rw[y,pR];exact h.ls.uni
 .have z:c8 (i-1) i a<n:=by unfold c8;split<;>(try split)<;>omega
  exact cX (g _ z) (dY (by unfold wP;omega))
 .rw[j,ml f1 om];exact h.dn
 .rw[j];exact J1 h.ls.pd f1 f l
def N6(q:∀a b,a<n->b<n->Q a b=Q b a)(l:n<=8)(o:d+3<=E):∀(m:Nat) (R:az),Gk Q n d E R->wt (gT Q n R) n<=m->∃R',Ie Q n R R'/\Gk Q n d E R'/\jt (gT Q n R') n:=by
 intro m
 induction m with
 | zero =>
  intro R h p;exfalso;have e:=h.ls.pd.pot_pos;unfold wt at p;have:0<Gh (gT Q n R) n*(n*(n+1)+1):=yN e om;omega
 | succ m ih =>
  intro R h p;obtain⟨ev,c⟩:=ON (gT Q n R) n
  cases ev with
  | done=>exact⟨R,.done c,h,c⟩
  | size i j =>
   obtain⟨e,r⟩:=h.add q l o c;obtain⟨R',f,g,k⟩:=ih _ e om;exact⟨R',.size c f,g,k⟩
  | swap i =>
   obtain⟨e,r⟩:=h.swap l o c;obtain⟨R',f,g,k⟩:=ih _ e om;exact⟨R',.swap c f,g,k⟩
def Gk.init{e:Nat}(f:Pd Q n)(b:1<=n)(c:∀i,i<n->Q i i<=2^e)(g:e*n<=d)(j:d<=E):Gk Q n d E jS:=by
 have h:=(wJ.init f b c g).ls;refine⟨h.weak fun i a=>?_,nU (ag n)⟩;rw[tg a a];refine cX (c i a) (dY ?_);have:=aM e b;unfold wP;omega
structure QF(n:Nat)(Q:az):Prop where
 pd:Pd Q n
 one:1<=n
 five:n<=5
 ent:∀i j,i<n->j<n->(Q i j).natAbs<=246591576450
 dt:det n Q<=10000
def p2_38:(2:Int)^38=274877906944:=by decide
def QF.e(h:QF n Q):∀i,i<n->Q i i<=2^38:=fun i a=>by
 have:=h.ent i i a a;rw[p2_38];omega
def QF.init(h:QF n Q):Gk Q n 190 193 jS:=Gk.init h.pd h.one h.e (by have:=h.five;omega) om
def LW{A:az}(a:n<=5):lN A n<=30:=by
 have b:=E5 A n;have c:n*(n+1)<=5*6:=bB a om;omega
def Gk.bits(h:Gk Q n 190 193 R)(g:QF n Q):(∀i j,i<n->j<n->(gT Q n R i j).natAbs<2^17540)/\(∀i j,i<n->j<n->(R i j).natAbs<2^17740)/\∀i j,i<n->j<i->(Jh (gT Q n R) i j).natAbs<2^17940:=by
 obtain⟨m,rfl⟩:∃m,n=m+1:=⟨n-1,by have:=g.one;omega⟩
 have r:=g.five;have k:∀i,wP 193 (3*190+8) (m+1) (lN (gT Q (m+1) R) (m+1)) i<=17533:=fun i=>wP_le (LW r);obtain⟨W,o,s⟩:∃W,17533<=W/\W<=17533:=⟨_,ag _,ag _⟩;have p:∀i,i<m+1->gT Q (m+1) R i i<=2^W:=fun i c=>cX (h.ls.dg i c) (dY (bO (k i) o));refine⟨fun i j c d=>?_,fun i j c d=>?_,fun i j c d=>?_⟩
 .have f:=h.ls.pd.cs0 c d;have q:=sW (bn (h.ls.pd.diag d)) (p i c) (p j d);exact oi (b:=17540) (rh (a:=W) (cX f (cX q (dY om)))) om
 .have f:=h.ls.coord g.pd g.e om c d;exact oi (b:=17740) (rh (a:=190+W) (cX f (dY (by have:=k i;omega)))) om
 .have f:=E7 (l:=eZ (gT Q (m+1) R) i j) (h.ls.pd.pos (j+1) om);have q:=h.ls.lamB d c;rw[<-Fs,pR]at f;have t:=dY (show 190+(190+wP 193 (3*190+8) (m+1) (lN (gT Q (m+1) R) (m+1)) i)<=190+(190+W) by have:=k i;omega)
  have u:=GP (190+(190+W));have v:=nQ (190+(190+W)) 3;have w:=dY (om:190+(190+W)+3<=2*(390+W))
  exact oi (b:=17940) (rh (a:=390+W) om) om

def vV{a:Nat}{f:Nat->Int}(b:j≠i)(k:j<n)(l:a<n):ap n (fun c=>dS jS j i q c a*f c)=f a+(if a=i then q*f j else 0):=by
 have e:ap n (fun c=>dS jS j i q c a*f c)=ap n (fun c=>jS c a*f c+(if c=j then(if a=i then q*f j else 0)else 0)):=ay fun c _=>by
  simp only[dS,jS];by_cases g:c=j
  .subst g;by_cases h:a=i
   .subst h;simp[b]
   .simp[h]
  .simp[g]
 rw[e,dD,cI a l (fun c _ d=>by simp[jS,d]),cI j k (fun c _ d=>by simp[d])]
 simp[jS]
def vU{a:Nat}{f:Nat->Int}(i:0<p)(d:p<n)(j:a<n):ap n (fun c=>jS (c8 (p-1) p c) a*f c)=f (c8 (p-1) p a):=by
 have g:c8 (p-1) p a<n:=by unfold c8;split<;>(try split)<;>omega
 have b:c8 (p-1) p (c8 (p-1) p a)=a:=by unfold c8;grind
 rw[cI (c8 (p-1) p a) g (fun c _ h=>?_)]
 .simp[jS,b]
 .have:c8 (p-1) p c≠a:=fun e=>h (by rw[<-e];unfold c8;grind)
  simp[jS,this]
def Hm{a:Nat}{A:az}(d:j<i)(r:i<n)(e:a<n)(g:b<n):kh n (kh n (fun p c=>dS jS j i q c p) A) (dS jS j i q) a b=j8 A i j q a b:=by
 have h:∀c,c<n->kh n (fun p c=>dS jS j i q c p) A a c=A a c+(if a=i then q*A j c else 0):=fun c _=>vV (f:=fun t=>A t c) om om e
 have k:kh n (kh n (fun p c=>dS jS j i q c p) A) (dS jS j i q) a b=ap n (fun c=>dS jS j i q c b*(A a c+(if a=i then q*A j c else 0))):=ay fun c l=>by rw[h c l,bU]
 rw[k,vV (f:=fun c=>A a c+(if a=i then q*A j c else 0)) om om g]
 simp only[j8];by_cases m:a=i<;>by_cases o:b=i<;>simp[m,o]<;>grind
def Hl{a:Nat}{A:az}(e:0<p)(d:p<n)(g:a<n)(h:b<n):kh n (kh n (fun x c=>jS (c8 (p-1) p c) x) A) (fun a b=>jS (c8 (p-1) p a) b) a b=xn A p a b:=by
 have i:∀c,c<n->kh n (fun x c=>jS (c8 (p-1) p c) x) A a c=A (c8 (p-1) p a) c:=fun c _=>vU (f:=fun t=>A t c) e d g;have j:kh n (kh n (fun x c=>jS (c8 (p-1) p c) x) A) (fun a b=>jS (c8 (p-1) p a) b) a b=ap n (fun c=>jS (c8 (p-1) p c) b*A (c8 (p-1) p a) c):=ay fun c k=>by rw[i c k,bU]
 rw[j,vU (f:=fun c=>A (c8 (p-1) p a) c) e d h];rfl
def matOf(x:AV):az:=fun i j=>match x with
 | .lst _ _ g=>(match g i with
  | .lst _ _ h=>(match h j with
   | .big z=>z
   | _=>0)
  | _=>0)
 | _=>0
def VR.tup3{z z':AV}(c:VR S x x')(d:VR S y y')(f:VR S z z'):VR S (.tup [x,y,z]) (.tup [x',y',z']):=by
 intro w v a b;simp only[bH]at b ⊢;obtain⟨vs,e,h⟩:=b;refine⟨vs,e,?_⟩
 match vs,h with
 | [u,v,t],h=>simp only[a8]at h ⊢;exact⟨c w u a h.1,d w v a h.2.1,f w t a h.2.2.1,trivial⟩
 | [],h=>simp[a8]at h
 | [_],h=>simp[a8]at h
 | [_,_],h=>simp[a8]at h
 | _::_::_::_::_,h=>simp[a8]at h
def Mq(a b k:Nat)(c:1<=k):nb (jS a b) k:=by
 unfold jS;split
 .exact nb.one c
 .exact nb.zero k
def OM(h:(z.natAbs:Int)<=176000):iw z:=by unfold iw;omega

def iS(S:St)(bt N:Nat):Prop:=∃(L:Nat) (nums:Nat->Int) (k:Nat) (g:Nat->AV),S bt=some ⟨107,1,2,g⟩/\g 0=.lst 1 L (fun i=>.int .i8 (nums i))/\g 1=ι k/\k<=N/\∀i,i<L->-128<=nums i/\nums i<=127
def iS.upd(h:iS S bt N)(a:bt≠c)(X:eo):iS (S.upd c X) bt N:=by
 obtain⟨L,nums,k,g,b,d⟩:=h;exact⟨L,nums,k,g,by rw[aG a];exact b,d⟩
def iS.step(h:iS S bt N)(a:S' bt=S bt):iS S' bt N:=by
 obtain⟨L,nums,k,g,b,c⟩:=h;exact⟨L,nums,k,g,by rw[a];exact b,c⟩
def iS.mono{M:Nat}(h:iS S bt N)(e:N<=M):iS S bt M:=by
 obtain⟨L,nums,k,g,a,b,c,f,d⟩:=h;exact⟨L,nums,k,g,a,b,c,om,d⟩
def iS.ne{g:Nat->AV}(h:iS S bt N)(a:S b=some ⟨ty,es,n,g⟩)(c:ty≠107):bt≠b:=by
 obtain⟨_,_,_,_,d,_⟩:=h;rintro rfl;rw[d]at a;cases a;exact c rfl
def iS.fresh(h:iS S bt N)(a:S c=ae):bt≠c:=by
 obtain⟨_,_,_,_,b,_⟩:=h;rintro rfl;rw[b]at a;cases a
def wO(S:St)(bt N:Nat)(h:iS S bt N)(m:N<=1000):cJ 77 [.ptr 1 bt 0] S (fun r S'=>∃z:Int,(-128<=z/\z<=127)/\r=ι z/\iS S' bt (N+1)/\∀d,d≠bt->S' d=S d):=by
 refine iZ func77 ntmps77 results77 ?_;obtain⟨L,nums,k,g,e,c,f,n,a⟩:=h;simp -dsimp only[go_sem];refine aN 10 kr ?_
 by_cases i:L<=k
 .simp only[*,go_sem,aa,kG];exact⟨0,om,om,rfl,⟨L,nums,k,g,e,c,f,om,a⟩,fun _ _=>trivial⟩
 .simp -dsimp only[*,go_sem,aa,kG,aI (om:k<1000000)]
  refine aN 13 kr ?_
  have o:ω (((k+1:Nat):Int)-1)=(k:Nat):=dP om om;have b:k<L:=om
  have p:=a k b;have j:ω (nums k)=nums k:=i64_in om om;simp only[*,go_sem,aa,aQ];refine⟨nums k,om,om,rfl,⟨L,nums,k+1,_,ca,?_,?_,om,a⟩,fun d l=>aG l⟩
  .simp[aQ,c]
  .simp[aQ]
def tw(S:St)(bt N m:Nat)(h:iS S bt N)(c:N<=1000)(j:1<=m)(e:m<=100):cJ 150 [.ptr 1 bt 0,ι m] S (fun r S'=>∃z:Nat,z<m/\r=ι z/\iS S' bt (N+1)/\∀d,d≠bt->S' d=S d):=by
 refine iZ func150 ntmps150 results150 ?_;simp -dsimp only[go_sem,aa];refine(wO S bt N h c).mono ?_;rintro r S' ⟨z,k,rfl,f,g⟩;have a:∃y:Nat,y<256/\IntKind.u8.wrap z=y:=by
  rw[IntKind.wrap_u8];exact⟨(z%256).toNat,om,om⟩
 obtain⟨y,l,a⟩:=a;have i:ω (y:Int)=y:=i64_in om om;have b:¬((m:Int)=0):=om
 simp only[go_sem,a,i,b];refine⟨y%m,di _ om,?_,f,g⟩;rw[qR]
def No(S0 S:St)(bt:Nat):Prop:=∀d X,S0 d=some X->d≠bt->S d=some X
def CQ(n most:Nat)(A:az):Prop:=∀i,i<n->(1<=A i i/\A i i<=most)/\∀j,j<n->j≠i->A i j=0
def DgI(S0 S:St)(b bt N n most i:Nat):Prop:=∃(g:Nat->Nat) (A:az),a6 S b 29 1 n (fun a=>if a<i then .sl 1 (g a) 0 n else .nil)/\(∀a,a<i->oZ S (g a) n (A a)/\S0 (g a)=ae)/\(∀a c,a<i->c<i->g a=g c->a=c) /\
 iS S bt (N+i)/\No S0 S bt/\S0 b=ae/\∀a,a<i->(1<=A a a/\A a a<=most)/\∀j,j<n->j≠a->A a j=0
def No.upd(h:No S0 S bt)(b:S0 c=ae)(X:eo):No S0 (S.upd c X) bt:=fun d Y a e=>by
 have:d≠c:=by rintro rfl;rw[b]at a;cases a
 rw[aG this];exact h d Y a e
def No.none(h:No S0 S bt)(a:S c=ae)(b:bt≠c):S0 c=ae:=by
 cases e:S0 c with
 | none=>rfl
 | some X=>rw[h c X e (ai b)]at a;cases a
def No.step(h:No S0 S bt)(b:∀d,d≠bt->S' d=S d):No S0 S' bt:=fun d X c a=>by rw[b d a];exact h d X c a
def md(S0:St)(bt N n most:Nat)(P:iS S0 bt N)(hN:N+n<=900)(U:1<=most)(y:most<=100):cJ 151 [.ptr 1 bt 0,ι n,ι most] S0 (fun r S'=>∃b g A,r=.sl 1 b 0 n/\eh S' b g n n A/\iS S' bt (N+n)/\No S0 S' bt/\CQ n most A/\S0 b=ae/\∀a,a<n->S0 (g a)=ae):=by
 refine iZ func151 ntmps151 results151 ?_;simp -dsimp only[go_sem]
 repeat refine an ?_
 refine ax.intro fun o B=>?_;simp only[go_sem];have C:=P.fresh B;refine aC (fun O S=>∃i:Nat,i<=n/\O 0=.ptr 1 bt 0/\O 1=ι n/\O 2=ι most/\O 7=.sl 1 o 0 n/\O 12=ι n/\O 13=ι i/\DgI S0 S o bt N n most i) (fun O S=>n-bS (O 13)) ?_ ?_
 .simp only[go_sem];exact⟨0,om,rfl,fun _=>0,fun _ _=>0,a6.here fun _ _=>by simp,fun a k=>om,fun a c k=>om,P.upd C _,(fun d X D _=>by rw[aG (fun e=>by rw[e,B]at D;cases D)];exact D),B,fun a k=>om⟩
 .rintro O S ⟨i,hi,e0,V,e2,W,E,F,g,A,Q,v,Y,m,s,t,R⟩;by_cases G:i<n
  .simp -dsimp only[*,go_sem,aa]
   repeat refine an ?_
   refine ax.intro fun f l=>?_;obtain⟨T,H,Z⟩:=Q;have p:o≠f:=fun e=>by rw[<-e,H]at l;cases l
   have q:bt≠o:=m.ne H om;have h:bt≠f:=m.fresh l;have u:S0 f=ae:=s.none l h;simp -dsimp only[*,go_sem];refine eL 7 [[0,1,2,3,4]] kr ?_
   simp -dsimp only[*,go_sem,aa,aQ];have I:iS ((S.upd f ⟨2,1,n,fun _=>ι 0⟩).upd o ⟨29,1,n,aQ T i (.sl 1 f 0 n)⟩) bt (N+i):=(m.upd h _).upd q _;refine(tw _ bt (N+i) most I om U y).mono ?_;rintro r S2 ⟨z,hz,rfl,J,w⟩;have k7:S2 o=some ⟨29,1,n,aQ T i (.sl 1 f 0 n)⟩:=by rw[w o (ai q)];exact ca
   have k18:S2 f=some ⟨2,1,n,fun _=>ι 0⟩:=by rw[w f (ai h),aG (ai p)];exact ca
   have hw:ω (1+(z:Int))=((z+1:Nat):Int):=dP om om;simp only[*,go_sem,aa,aQ,aI (om:i<1000000),bS]
   refine⟨⟨i+1,om,rfl,fun a=>if a=i then f else g a,fun a c=>if a=i then(if c=i then((z+1:Nat):Int)else 0)else A a c,(a6.of k7).upd p _ |>.congr fun a k=>?_,fun a k=>?_,fun a c k hc e=>?_,J.upd h _,(((s.upd u _).upd t _).step w).upd u _,t,fun a k=>?_⟩,om⟩
   .have:=Z a k;simp only[aQ];grind
   .by_cases e:a=i
    .subst e;simp only[aE];refine⟨a6.here fun c hc=>?_,u⟩;simp only[aQ];split<;>rfl
    .simp only[e,aH];obtain⟨x,r2⟩:=v a om;have K:g a≠f:=a6.fresh x l;have q2:g a≠o:=a6.ne x (a6.of H) om;have q3:g a≠bt:=by obtain⟨gg,L,_⟩:=x;exact ai (m.ne L om)
     refine⟨(x.via fun X hX=>?_).upd K _,r2⟩;rw[w _ q3,aG q2,aG K];exact hX
   .have K:∀a,a<i->g a≠f:=fun a k=>a6.fresh (v a k).1 l
    grind
   .by_cases e:a=i
    .subst e;refine⟨by simp only[aE];omega,fun j hj M=>by simp[M]⟩
    .simp only[e,aH];exact R a om
  .obtain rfl:i=n:=om
   simp only[go_sem,aa,V,W,E,F,G];exact⟨o,rfl,g,A,⟨Q.congr fun a k=>by simp[k],fun a k=>(v a k).1,Y⟩,m,s,R,t,fun a k=>(v a k).2⟩

structure RS(n most:Nat)(A:az):Prop where
 sym:∀a c,a<n->c<n->A a c=A c a
 diag:∀a,a<n->1<=A a a/\A a a<=most
 small:∀a c,a<n->c<n->-9<=A a c/\A a c<=9
def R4(S0 S:St)(b bt N n:Nat)(Q:az->Prop):Prop:=∃(g:Nat->Nat) (A:az),eh S b g n n A/\iS S bt N/\No S0 S bt/\S0 b=ae/\(∀a,a<n->S0 (g a)=ae)/\Q A
def tmod3(z:Int):-2<=z.tmod 3/\z.tmod 3<=2:=by
 have c:=tI (a:=z) (b:=3) om;omega
def DA(S0:St)(bt N n:Nat)(hT:iS S0 bt N)(Z:n<=8)(hN:N<=500):cJ 148 [.ptr 1 bt 0,ι n] S0 (fun r S'=>∃b,r=.sl 1 b 0 n/\R4 S0 S' b bt (N+n+n*n) n (RS n 6)):=by
 refine iZ func148 ntmps148 results148 ?_;have hnn:n*n<=64:=bB Z Z;simp -dsimp only[go_sem,aa];refine(md S0 bt N n 6 hT om om om).mono ?_;rintro r S1 ⟨b,g,A,rfl,o,l,p,x,q,m⟩;simp only[go_sem];refine aC (fun O S=>∃i:Nat,i<=n/\O 0=.ptr 1 bt 0/\O 5=.sl 1 b 0 n/\O 12=ι n/\O 13=ι i/\R4 S0 S b bt (N+n+i*n) n (RS n 6)) (fun O S=>n-bS (O 13)) ?_ ?_
 .simp only[go_sem];refine⟨0,om,rfl,g,A,o,l.mono om,p,q,m,fun a c h u=>?_,fun a h=>(x a h).1,fun a c h u=>?_⟩
  .by_cases e:a=c
   .rw[e]
   .rw[(x a h).2 c u (ai e),(x c u).2 a h e]
  .by_cases e:c=a
   .have:=(x a h).1;rw[e];omega
   .rw[(x a h).2 c u e];omega
 .clear o l p x q m;rintro O S ⟨i,hi,e0,H,y,B,I⟩;by_cases d:i<n
  .have hin:i*n+n<=n*n:=by rw[<-cg];exact aq _ d
   simp only[*,go_sem];refine aC (fun O S=>∃k:Nat,k<=i/\O 0=.ptr 1 bt 0/\O 5=.sl 1 b 0 n/\O 6=ι i/\O 7=ι k/\O 12=ι n/\O 13=ι i/\R4 S0 S b bt (N+n+i*n+k) n (RS n 6)) (fun O S=>i-bS (O 7)) ?_ ?_
   .simp only[*,go_sem];exact⟨0,om,rfl,I⟩
   .clear I;rintro O S ⟨k,hk,e0,H,e6,e7,y,B,g,A,o,l,p,q,m,G⟩;by_cases hki:k<i
    .have f:k<n:=om
     obtain⟨C,J,D⟩:=o.outer;obtain⟨gi,ui,vi⟩:=o.row i d;have w1:C i=.sl 1 (g i) 0 n:=D i d;have w2:C k=.sl 1 (g k) 0 n:=D k f;simp -dsimp only[*,go_sem];refine eL 6 [[0,1,2,3,4]] kr ?_
     simp -dsimp only[*,go_sem,aa];refine(wO S bt _ l om).mono ?_;rintro r S2 ⟨z,hz,rfl,K,v⟩;have L:bt≠b:=l.ne J om;have w:∀a,a<n->g a≠bt:=fun a h=>by obtain⟨gg,M,_⟩:=o.row a h;exact ai (l.ne M om)
     have s:eh S2 b g n n A:=⟨o.outer.via fun X P=>by rw[v b (ai L)];exact P,fun a h=>(o.row a h).via fun X P=>by rw[v _ (w a h)];exact P,o.inj⟩
     obtain⟨C,J,D⟩:=s.outer;obtain⟨gi,ui,vi⟩:=s.row i d;have w1:C i=.sl 1 (g i) 0 n:=D i d;have w2:C k=.sl 1 (g k) 0 n:=D k f;have hz3:=tmod3 z;simp -dsimp only[go_sem,aa,H,e6,e7,d,f,J,w1,ui,show ¬((3:Int)=0) by decide]
     have t:=s.set (j:=k) (z:=z.tmod 3) d ui;have hMi:=s.outer_ne d;obtain⟨E,Q,F⟩:=t.outer;obtain⟨gi',ui',vi'⟩:=t.row i d;obtain⟨gk',uk',vk'⟩:=t.row k f;have R:E i=.sl 1 (g i) 0 n:=F i d;have T:E k=.sl 1 (g k) 0 n:=F k f;have U:gi' k=ι (z.tmod 3):=by rw[vi' k f];simp[dS]
     have hki':g i≠g k:=fun e=>by have:=o.inj i k d f e;omega
     have V:=K.upd (ai (w i d)) ⟨2,1,n,aQ gi k (ι (z.tmod 3))⟩;have W:=(p.step v).upd (m i d) ⟨2,1,n,aQ gi k (ι (z.tmod 3))⟩;generalize S2.upd (g i) ⟨2,1,n,aQ gi k (ι (z.tmod 3))⟩=S3 at *;simp -dsimp only[*,go_sem];refine aN 13 kr ?_
     simp only[go_sem,aa,e0,H,e6,e7,y,B,d,f,Q,R,T,ui',U,uk',aI (om:k<1000000),bS]
     have Y:=t.set (j:=i) (z:=z.tmod 3) f uk';refine⟨⟨k+1,om,rfl,g,_,Y,V.upd (ai (w k f)) _,W.upd (m k f) _,q,m,fun a c h u=>?_,fun a h=>?_,fun a c h u=>?_⟩,om⟩
     .have:=G.sym a c h u;simp only[dS];grind
     .have:=G.diag a h;simp only[dS];rw[ah om,ah om];exact this
     .have:=G.small a c h u;simp only[dS];split
      .omega
      .split
       .omega
       .exact this
    .simp only[*,go_sem,aI (om:i<1000000),bS]
     exact⟨⟨i+1,om,rfl,g,A,o,l.mono (by rw[cg];omega),p,q,m,G⟩,om⟩
  .obtain rfl:i=n:=om
   simp only[*,go_sem];exact⟨b,rfl,I⟩

structure Ec(S:St)(b:Nat)(g:Nat->Nat)(n i:Nat)(A:az):Prop where
 outer:a6 S b 29 1 n (fun a=>if a<i then .sl 1 (g a) 0 n else .nil)
 row:∀a,a<i->oZ S (g a) n (A a)
 inj:∀a c,a<i->c<i->g a=g c->a=c
def Ec.outer_ne{A:az}(h:Ec S b g n i A){a:Nat}(c:a<i):b≠g a:=a6.ne h.outer (h.row a c) om
def Ec.set{A:az}(h:Ec S b g n i A){a j:Nat}{z:Int}{g':Nat->AV}(k:a<i)(m:S (g a)=some ⟨2,1,n,g'⟩):Ec (S.upd (g a) ⟨2,1,n,aQ g' j (ι z)⟩) b g n i (dS A a j z):=by
 refine⟨h.outer.upd (h.outer_ne k) _,fun c d=>?_,h.inj⟩;by_cases e:c=a
 .subst e;obtain⟨r,l,o⟩:=h.row c d;rw[m]at l;cases l;refine a6.here fun t p=>?_;have:=o t p;simp only[aQ,dS]
  grind
 .have f:g c≠g a:=fun q=>e (h.inj c a d k q);refine((h.row c d).upd f _).congr fun t _=>?_;simp[dS,e]
def Ec.new{A:az}(h:Ec S b g n i A){c:Nat}(v:i<n)(k:S c=ae){m:Nat->AV}(o:S b=some ⟨29,1,n,m⟩)(s:∀j,j<n->A i j=0) :
  Ec ((S.upd c ⟨2,1,n,fun _=>ι 0⟩).upd b ⟨29,1,n,aQ m i (.sl 1 c 0 n)⟩) b (fun a=>if a=i then c else g a) n (i+1) A:=by
 have l:b≠c:=fun e=>by rw[<-e,o]at k;cases k
 obtain⟨w,p,t⟩:=h.outer;rw[o]at p;cases p;refine⟨a6.here fun a f=>?_,fun a f=>?_,fun a d f x e=>?_⟩
 .have:=t a f;simp only[aQ];grind
 .by_cases e:a=i
  .subst e;simp only[aE];exact(a6.here fun j u=>by rw[s j u]).upd (ai l) _
  .simp only[e,aH];have r:=h.row a om;exact(r.upd (a6.fresh r k) _).upd (ai (h.outer_ne om)) _
 .have q:∀a,a<i->g a≠c:=fun a f=>a6.fresh (h.row a f) k;have:=h.inj
  grind
structure R6(n i:Nat)(A:az):Prop where
 sym:∀a c,A a c=A c a
 out:∀a c,i<=a∨i<=c->A a c=0
 diag:∀a,a<i->A a a=2
 small:∀a c,-9<=A a c/\A a c<=9
def ChI(S0 S:St)(b n i:Nat):Prop:=∃(g:Nat->Nat) (A:az),Ec S b g n i A/\R6 n i A/\dy S0 S/\S0 b=ae/\∀a,a<i->S0 (g a)=ae
def R6.next0{A:az}(h:R6 n i A):R6 n (i+1) (dS A i i 2):=by
 refine⟨fun a c=>?_,fun a c b=>?_,fun a d=>?_,fun a c=>?_⟩
 .have:=h.sym a c;simp only[dS];grind
 .simp only[dS];rw[ah om];exact h.out a c om
 .simp only[dS];by_cases e:a=i
  .simp[e]
  .rw[ah om];exact h.diag a om
 .have:=h.small a c;simp only[dS];split
  .omega
  .exact this
def R6.next{A:az}(h:R6 n i A)(f:m<i):R6 n (i+1) (dS (dS (dS A i i 2) i m (-1)) m i (-1)):=by
 have b:=h.next0;refine⟨fun a c=>?_,fun a c d=>?_,fun a e=>?_,fun a c=>?_⟩
 .have:=b.sym a c;simp only[dS]at this ⊢;grind
 .have:=b.out a c d;simp only[dS]at this ⊢;grind
 .have:=b.diag a e;simp only[dS]at this ⊢;grind
 .have:=b.small a c;simp only[dS]at this ⊢;grind
def At(S0:St)(n:Nat)(fork:Bool)(hn:n<=8):cJ 149 [ι n,.bool fork] S0 (fun r S'=>∃b,r=.sl 1 b 0 n/\ChI S0 S' b n n):=by
 refine iZ func149 ntmps149 results149 ?_;simp -dsimp only[go_sem]
 repeat refine an ?_
 refine ax.intro fun N f5=>?_;simp only[go_sem];refine aC (fun O S=>∃i:Nat,i<=n/\O 0=ι n/\O 1=.bool fork/\O 5=.sl 1 N 0 n/\O 11=ι n/\O 12=ι i/\ChI S0 S N n i) (fun O S=>n-bS (O 12)) ?_ ?_
 .simp only[go_sem];exact⟨0,om,rfl,fun _=>0,fun _ _=>0,⟨a6.here fun _ _=>by simp,fun a X=>om,fun a c X=>om⟩,⟨fun _ _=>rfl,fun _ _ _=>rfl,fun a X=>om,fun _ _=>om⟩,(dy.refl S0).upd f5 _,f5,fun a X=>om⟩
 .rintro O S ⟨i,hi,Y,T,Z,I,J,g,A,y,K,L,v,G⟩;by_cases p:i<n
  .obtain⟨U,M,v1⟩:=y.outer;simp -dsimp only[*,go_sem,aa]
   repeat refine an ?_
   refine ax.intro fun B o=>?_;have k:N≠B:=fun e=>by rw[<-e,M]at o;cases o
   have hM1:=y.new p o M (fun j _=>K.out i j om);have hE1:=(L.upd (L.none o) ⟨2,1,n,fun _=>ι 0⟩).upd v ⟨29,1,n,aQ U i (.sl 1 B 0 n)⟩;have hw1:ω ((i:Int)-1)=(i:Int)-1:=i64_in om om;have hw2:ω ((i:Int)-2)=(i:Int)-2:=i64_in om om;have C:ω ((n:Int)-1)=(n:Int)-1:=i64_in om om;have D:∀a,a<i+1->S0 ((fun a=>if a=i then B else g a) a)=ae:=fun a X=>by
    by_cases e:a=i
    .simp only[e,aE];exact L.none o
    .simp only[e,aH];exact G a om
   have w:=hM1.set (a:=i) (j:=i) (z:=2) (g':=fun _=>ι 0) om (by simp only[aE];rw[aG (ai k)];exact ca)
   simp only[aE]at w;have E:=hE1.upd (L.none o) ⟨2,1,n,aQ (fun _=>ι 0) i (ι 2)⟩;by_cases hB:fork=true/\i+1=n/\3<n
   .obtain⟨rfl,V,h3⟩:=hB;obtain⟨m,hm⟩:∃m,i=m+2:=⟨i-2,om⟩
    have P:((i:Int)==(n:Int)-1)=true:=by simp;omega
    have q2:(3:Int)<(n:Int):=om
    have H:ω ((i:Int)-2)=(m:Nat):=dP om om;simp -dsimp only[go_sem,p,nn k,M,aQ,C,hw1,P,q2,H];have q:m<n:=om
    have l:=w.set (a:=i) (j:=m) (z:=-1) (g':=aQ (fun _=>ι 0) i (ι 2)) om (by simp only[aE];exact ca)
    simp only[aE]at l;obtain⟨gm,um,vm⟩:=l.row m om;have d:m≠i:=om
    simp only[d,aH]at um vm;have s:=l.set (a:=m) (j:=i) (z:=-1) (g':=gm) om (by simp only[d,aH];exact um)
    simp only[d,aH]at s;have wm:U m=.sl 1 (g m) 0 n:=by rw[v1 m q];simp only[];rw[aj om]
    have f:g m≠B:=a6.fresh (y.row m om) o;have t:g m≠N:=ai (y.outer_ne om);obtain⟨F,u,Q⟩:=y.row m om;obtain rfl:F=gm:=by
     rw[aG f,aG f,aG t,aG f,u]at um;cases um;rfl
    refine fm 11 kr ?_
    simp only[go_sem,aa,Y,T,Z,I,J,p,k,aQ,q,wm,f,t,u,d,aI (om:i<1000000),bS]
    exact⟨⟨i+1,om,rfl,_,_,s,K.next om,(E.upd (L.none o) _).upd (G m om) _,v,D⟩,om⟩
   .cases R:fork with
    | false =>
     rw[R]at T;rcases bD i with x|x
     .have H:ω ((i:Int)-1)=-1:=by rw[x];decide
      have W:¬((0:Int)<=-1):=by decide
      simp only[go_sem,p,nn k,M,aQ,C,H,W,aI (om:i<1000000),bS]
      exact⟨⟨i+1,om,rfl,_,_,w,K.next0,E,v,D⟩,om⟩
     .obtain⟨m,hm⟩:∃m,i=m+1:=⟨i-1,om⟩
      have H:ω ((i:Int)-1)=(m:Nat):=dP om om;simp -dsimp only[go_sem,p,nn k,M,aQ,C,H];have q:m<n:=om
      have l:=w.set (a:=i) (j:=m) (z:=-1) (g':=aQ (fun _=>ι 0) i (ι 2)) om (by simp only[aE];exact ca)
      simp only[aE]at l;obtain⟨gm,um,vm⟩:=l.row m om;have d:m≠i:=om
      simp only[d,aH]at um vm;have s:=l.set (a:=m) (j:=i) (z:=-1) (g':=gm) om (by simp only[d,aH];exact um)
      simp only[d,aH]at s;have wm:U m=.sl 1 (g m) 0 n:=by rw[v1 m q];simp only[];rw[aj om]
      have f:g m≠B:=a6.fresh (y.row m om) o;have t:g m≠N:=ai (y.outer_ne om);obtain⟨F,u,Q⟩:=y.row m om;obtain rfl:F=gm:=by
       rw[aG f,aG f,aG t,aG f,u]at um;cases um;rfl
      refine fm 11 kr ?_
      simp only[go_sem,aa,Y,T,Z,I,J,p,k,aQ,q,wm,f,t,u,d,aI (om:i<1000000),bS]
      exact⟨⟨i+1,om,rfl,_,_,s,K.next om,(E.upd (L.none o) _).upd (G m om) _,v,D⟩,om⟩
    | true =>
     rw[R]at T;by_cases V:i+1=n
     .have P:((i:Int)==(n:Int)-1)=true:=by simp;omega
      have h3:¬3<n:=fun h=>hB ⟨R,V,h⟩;have q2:¬(3:Int)<(n:Int):=om
      rcases bD i with x|x
      .have H:ω ((i:Int)-1)=-1:=by rw[x];decide
       have W:¬((0:Int)<=-1):=by decide
       simp only[go_sem,p,nn k,M,aQ,C,P,q2,H,W,aI (om:i<1000000),bS]
       exact⟨⟨i+1,om,rfl,_,_,w,K.next0,E,v,D⟩,om⟩
      .obtain⟨m,hm⟩:∃m,i=m+1:=⟨i-1,om⟩
       have H:ω ((i:Int)-1)=(m:Nat):=dP om om;simp -dsimp only[go_sem,p,nn k,M,aQ,C,P,q2,H];have q:m<n:=om
       have l:=w.set (a:=i) (j:=m) (z:=-1) (g':=aQ (fun _=>ι 0) i (ι 2)) om (by simp only[aE];exact ca)
       simp only[aE]at l;obtain⟨gm,um,vm⟩:=l.row m om;have d:m≠i:=om
       simp only[d,aH]at um vm;have s:=l.set (a:=m) (j:=i) (z:=-1) (g':=gm) om (by simp only[d,aH];exact um)
       simp only[d,aH]at s;have wm:U m=.sl 1 (g m) 0 n:=by rw[v1 m q];simp only[];rw[aj om]
       have f:g m≠B:=a6.fresh (y.row m om) o;have t:g m≠N:=ai (y.outer_ne om);obtain⟨F,u,Q⟩:=y.row m om;obtain rfl:F=gm:=by
        rw[aG f,aG f,aG t,aG f,u]at um;cases um;rfl
       refine fm 11 kr ?_
       simp only[go_sem,aa,Y,T,Z,I,J,p,k,aQ,q,wm,f,t,u,d,aI (om:i<1000000),bS]
       exact⟨⟨i+1,om,rfl,_,_,s,K.next om,(E.upd (L.none o) _).upd (G m om) _,v,D⟩,om⟩
     .have P:((i:Int)==(n:Int)-1)=false:=by simp;omega
      rcases bD i with x|x
      .have H:ω ((i:Int)-1)=-1:=by rw[x];decide
       have W:¬((0:Int)<=-1):=by decide
       simp only[go_sem,p,nn k,M,aQ,C,P,H,W,aI (om:i<1000000),bS]
       exact⟨⟨i+1,om,rfl,_,_,w,K.next0,E,v,D⟩,om⟩
      .obtain⟨m,hm⟩:∃m,i=m+1:=⟨i-1,om⟩
       have H:ω ((i:Int)-1)=(m:Nat):=dP om om;simp -dsimp only[go_sem,p,nn k,M,aQ,C,P,H];have q:m<n:=om
       have l:=w.set (a:=i) (j:=m) (z:=-1) (g':=aQ (fun _=>ι 0) i (ι 2)) om (by simp only[aE];exact ca)
       simp only[aE]at l;obtain⟨gm,um,vm⟩:=l.row m om;have d:m≠i:=om
       simp only[d,aH]at um vm;have s:=l.set (a:=m) (j:=i) (z:=-1) (g':=gm) om (by simp only[d,aH];exact um)
       simp only[d,aH]at s;have wm:U m=.sl 1 (g m) 0 n:=by rw[v1 m q];simp only[];rw[aj om]
       have f:g m≠B:=a6.fresh (y.row m om) o;have t:g m≠N:=ai (y.outer_ne om);obtain⟨F,u,Q⟩:=y.row m om;obtain rfl:F=gm:=by
        rw[aG f,aG f,aG t,aG f,u]at um;cases um;rfl
       refine fm 11 kr ?_
       simp only[go_sem,aa,Y,T,Z,I,J,p,k,aQ,q,wm,f,t,u,d,aI (om:i<1000000),bS]
       exact⟨⟨i+1,om,rfl,_,_,s,K.next om,(E.upd (L.none o) _).upd (G m om) _,v,D⟩,om⟩
  .obtain rfl:i=n:=om
   simp only[*,go_sem,aa];exact⟨N,rfl,g,A,y,K,L,v,G⟩

def nb9(h:-9<=z/\z<=9):nb z 4:=by unfold nb;omega
def P3(h:-9<=z/\z<=9):qO z:=by unfold qO;omega
def Je(n:Nat)(A:az)(d:1<=n)(l:n<=8)(m:∀a c,a<n->c<n->A a c=A c a)(o:∀a c,a<n->c<n->-9<=A a c/\A a c<=9)(β:Bool)(hβ:β=true↔(∀k,k<=n->0<det k A)/\det n A<=10000):PF 152 [av n n A] (.bool β):=by
 refine gN func152 ntmps152 results152 ?_;have b:∀i j,i<n->j<n->nb (A i j) 4:=fun i j f g=>nb9 (o i j f g);have p:=oo (k:=n) (n:=n) om b (ag _);have q:nb 10000 (17*(4+10)):=cZ (by decide:10000<2^14) (cp om om)
 simp -dsimp only[go_sem,aa];refine(uZ n n A d om d om (fun i j f g=>P3 (o i j f g))).call ?_;simp -dsimp only[go_sem,aa];rcases fL (∀k,k<=n->0<det k A)with e|e
 .refine(oE n A 4 d l b om m true (by simp;exact e)).call ?_
  simp -dsimp only[go_sem,aa,show((0:Int)==0)=true from rfl];refine(jz n A 4 d om b om).call ?_;simp -dsimp only[go_sem,aa,show((0:Int)==0)=true from rfl];refine(gE dc dc).call ?_
  simp -dsimp only[go_sem,aa,show((0:Int)==0)=true from rfl];refine(mW p q om).call ?_;simp only[go_sem,show((0:Int)==0)=true from rfl,sc];have:β=decide (det n A<=10000):=by
   cases β with
   | true=>have:=(hβ.1 rfl).2;simp[this]
   | false =>
    by_cases h:det n A<=10000
    .exact absurd (hβ.2 ⟨e,h⟩) sm
    .simp[h]
  rw[this];exact VR.mf rfl
 .refine(oE n A 4 d l b om m false (by simp only[dB,Tb];exact e)).call ?_
  simp only[go_sem,show((5:Int)==0)=false from rfl];have:β=false:=by
   cases β with
   | false=>rfl
   | true=>exact absurd (hβ.1 rfl).1 e
  rw[this];exact VR.mf rfl
structure QI(n:Nat)(A:az):Prop where
 one:1<=n
 five:n<=5
 sym:∀a c,a<n->c<n->A a c=A c a
 pos:∀k,k<=n->0<det k A
 small:det n A<=10000
 diag:∀i,i<n->A i i<=9
 ent:∀a c,a<n->c<n->-9<=A a c/\A a c<=9
def LT{f:Nat->Int}(h:∀i,i<n->0<f i/\f i<=2):fQ n f<=2^n:=by
 induction n generalizing f with
 | zero=>simp[fQ]
 | succ n ih =>
  simp only[fQ];have a:=ih (f:=fun i=>f (i+1)) (fun i b=>h (i+1) om);have c:=wg (n:=n) (f:=fun i=>f (i+1)) (fun i b=>(h (i+1) om).1);have d:=cw (h 0 om).2 a (bn c) om;rw[eC];omega
def CQ.det{most:Nat}{A:az}(h:CQ n most A){k:Nat}(c:k<=n):det k A=fQ k (fun r=>A r r):=by
 have a:=mX (n:=0) k A (by rw[aJ];exact fun r d=>⟨fun j e b=>(h r om).2 j om om,by have:=(h r om).1.1;omega⟩)
 rw[aJ]at a;rw[a,show Go.Proofs.YtdobfmlmenaajaaGreatDoor.det 0 _=1 from rfl,ir]
def CQ.good{A:az}(h:CQ n 2 A)(l:1<=n)(j:n<=5):QI n A:=by
 have m:∀k,k<=n->0<Go.Proofs.YtdobfmlmenaajaaGreatDoor.det k A:=fun k o=>by
  rw[h.det o];exact wg fun i d=>by have:=(h i om).1.1;omega
 refine⟨l,j,fun a c b g=>?_,m,?_,fun i d=>by have:=(h i d).1.2;omega,fun a c b g=>?_⟩
 .by_cases e:a=c
  .rw[e]
  .rw[(h a b).2 c g (ai e),(h c g).2 a b e]
 .rw[h.det (ag _)];have p:=LT (n:=n) (f:=fun r=>A r r) (fun i d=>by have:=(h i d).1;constructor<;>omega)
  have q:=dY j;have s:(2:Int)^5=32:=by decide
  omega
 .by_cases e:c=a
  .have:=(h a b).1;rw[e];omega
  .rw[(h a b).2 c g e];omega
def Ou(d k L:Nat)(nums:Nat->Int)(Lb:Nat)(base:Nat->AV):AV:=.agg [.int .u8 d,.int .u8 k,.lst 1 L (fun i=>.int .i8 (nums i)),.lst 1 Lb base]
def EIM(f:Nat)(args:List AV)(P:Nat->az->Prop):Prop:=∀S args',eI S args' args->cJ f args' S (fun r S'=>∃b g n A,P n A/\r=.sl 1 b 0 n/\ib S S' b g n n A)
def EIM.of{P:Nat->az->Prop}(h:cJ f args St.none (fun r S'=>∃b g n A,P n A/\r=.sl 1 b 0 n/\eh S' b g n n A)):EIM f args P:=fun S args' d=>by
 have i:cJ f args St.none (fun r S'=>∃b g n A,P n A/\r=.sl 1 b 0 n/\eh S' b g n n A/\Gn S'):=h.less fun r S' ⟨b,g,n,A,c,e,a⟩=>⟨eJ S' b g n,iQ S' b g n,b,g,n,A,c,e,a.only.1,a.only.2⟩;refine(i.frame d ?_).mono ?_
 .rintro r S1 ⟨b,g,n,A,_,rfl,_,j⟩;exact⟨rfl,j⟩
 .rintro r S' ⟨S1,⟨b,g,n,A,c,rfl,a,_⟩,k,rfl⟩;exact⟨b,g,n,A,c,rfl,a.join k⟩
def MY{a b c d e r:Code}{Q:AX->Tm->St->Prop}(P:Tm->St->Prop)(h:∀r' Q',Q'=Q->(∀O S,P O S->Aw r' Q' O S)->Aw (.seq a (.seq b (.seq c (.seq d (.seq e r'))))) Q' O S)(f:∀O S,P O S->Aw r Q O S) :
  Aw (.seq a (.seq b (.seq c (.seq d (.seq e r))))) Q O S:=h r Q rfl f
def DrawI(n:Nat)(O:Tm)(S:St):Prop:=∃(b5 b ps:Nat) (g:Nat->Nat) (A:az),O 5=.ptr 1 b5 0/\O 6=ι n/\O 7=.sl 1 b 0 n/\eh S b g n n A/\iS S b5 ps/\ps<=100/\(∀a c,a<n->c<n->A a c=A c a)/\∀a c,a<n->c<n->-9<=A a c/\A a c<=9
def xM{z:Nat}{b5 ps:Nat}{A:az}(e:p<n)(k:z<=3)(f:eh S b g n n A)(h:iS S b5 ps)(d:g p≠b5)(u:S (g p)=some ⟨2,1,n,g2⟩)(i:∀a c,A a c=A c a)(j:∀a c,-9<=A a c/\A a c<=9) :
  eh (S.upd (g p) ⟨2,1,n,aQ g2 p (ι ((2+z:Nat):Int))⟩) b g n n (dS A p p ((2+z:Nat):Int))/\iS (S.upd (g p) ⟨2,1,n,aQ g2 p (ι ((2+z:Nat):Int))⟩) b5 ps/\(∀a c,a<n->c<n->dS A p p ((2+z:Nat):Int) a c=dS A p p ((2+z:Nat):Int) c a)/\∀a c,a<n->c<n->-9<=dS A p p ((2+z:Nat):Int) a c/\dS A p p ((2+z:Nat):Int) a c<=9:=by
 refine⟨f.set e u,h.upd (ai d) _,fun a c _ _=>?_,fun a c _ _=>?_⟩
 .have:=i a c;simp only[dS];grind
 .have:=j a c;simp only[dS];split
  .omega
  .exact this
def Nn(M d k L:Nat)(nums:Nat->Int)(Lb:Nat)(base:Nat->AV)(h:1<=M)(hM5:M<=5)(hd:d<256)(hk:k<256)(hnums:∀i,i<L->-128<=nums i/\nums i<=127):EIM 89 [Ou d k L nums Lb base,ι M] (fun n A=>QI n A/\n<=M):=by
 refine EIM.of ?_;refine iZ func89 ntmps89 results89 ?_;obtain⟨n,hn,hnd⟩:∃n,n=1+d%M/\1+d%M=n:=⟨_,rfl,rfl⟩;have hml:=di d (om:0<M)
 have V:n<=M:=om
 have W:n<=5:=om
 have hnn:n*n<=25:=bB W W;have R:ω (d:Int)=(d:Nat):=i64_in om om;have T:eV (d:Int) (M:Int)=((d%M:Nat):Int):=by rw[qR]
 have U:ω (1+((d%M:Nat):Int))=(n:Nat):=dP om om;have hMz:¬((M:Int)=0):=om
 have w4:eV (k:Int) 8=((k%8:Nat):Int):=by rw[qR]<;>rfl
 refine MY (DrawI n) (fun r' Q' _ key=>?_) ?_
 .simp -dsimp only[go_sem,aa,Ou,aS,bF,bZ,ct];refine ax.intro fun b2 f2=>?_;simp -dsimp only[go_sem,bL,bJ];refine ax.intro fun l f5=>?_;have n5_2:=(af f5).1;have y:iS ((St.none.upd b2 ⟨24,1,4,fun j=>[AV.int .u8 d,.int .u8 k,.lst 1 L (fun i=>.int .i8 (nums i)),.lst 1 Lb base].getD j .any⟩).upd l ⟨107,1,2,fun j=>[AV.lst 1 L (fun i=>.int .i8 (nums i)),ι 0].getD j .any⟩) l 0:=⟨L,nums,0,_,ca,rfl,rfl,ag _,hnums⟩;obtain⟨q,hq,hq8⟩:∃q:Int,q=((k%8:Nat):Int)/\((q=0∨q=1∨q=2∨q=3)∨q=4∨q=5∨q=6∨q=7):=⟨_,rfl,om⟩
  rw[<-hq]at w4;simp -dsimp only[go_sem,ai n5_2,bL,bJ,R,T,U,w4,hMz,show ¬((8:Int)=0) by decide]
  clear hq w4;have Y:∀{A:az} {m:Nat},m<=9->CQ n m A->(∀a c,a<n->c<n->A a c=A c a)/\∀a c,a<n->c<n->-9<=A a c/\A a c<=9:=by
   intro A m hm G;refine⟨fun a c o hc=>?_,fun a c o hc=>?_⟩
   .by_cases e:a=c
    .rw[e]
    .rw[(G a o).2 c hc (ai e),(G c hc).2 a o e]
   .by_cases e:c=a
    .have:=(G a o).1;rw[e];omega
    .rw[(G a o).2 c hc e];omega
  rcases hq8 with (rfl|rfl|rfl|rfl)|rfl|rfl|rfl|rfl
  case inl.inl|inl.inr.inl|inl.inr.inr.inl|inl.inr.inr.inr =>
   simp -dsimp only[go_sem,CK];refine(DA _ l 0 n y om om).mono ?_;rintro r S1 ⟨b,rfl,g,A,D,u,Z,E,F,hP⟩;simp only[go_sem,R,T,U];refine key _ _ ?_;exact⟨l,b,_,g,A,by simp only[go_sem],by simp only[go_sem],by simp only[go_sem],D,u,om,hP.sym,hP.small⟩
  case inr.inl =>
   simp -dsimp only[go_sem,CK];refine(At _ n false om).mono ?_;rintro r S1 ⟨b,rfl,g,A,v,H,hE,E,F⟩;have h:eh S1 b g n n A:=⟨v.outer.congr fun a o=>by simp[o],v.row,v.inj⟩
   have w:iS S1 l 0:=y.step ((hE _ _ ca).trans ca.symm);have t:(0:Nat)<n:=om
   obtain⟨g1,I,v1⟩:=h.outer;obtain⟨g2,u2,v2⟩:=h.row 0 t;have x1:g1 0=.sl 1 (g 0) 0 n:=v1 0 t;have x2:g2 0=ι 2:=by rw[v2 0 t];simp only[H.diag 0 t]
   simp -dsimp only[go_sem,R,T,U];refine eL 6 [[0,1,2,3,4],[0,1],[]] kr ?_
   simp -dsimp only[go_sem,aa,I,u2,x1,x2,show((0:Int)<(n:Int)) by omega,ie]
   repeat refine an ?_
   refine(tw _ l 0 3 w om om om).mono ?_;rintro r S2 ⟨z,hz,rfl,J,s⟩;have B:l≠b:=w.ne I om;have x:∀a,a<n->g a≠l:=fun a o=>by obtain⟨gg,K,_⟩:=h.row a o;exact ai (w.ne K om)
   have N:eh S2 b g n n A:=⟨h.outer.via fun X P=>by rw[s b (ai B)];exact P,fun a o=>(h.row a o).via fun X P=>by rw[s _ (x a o)];exact P,h.inj⟩
   have Q:S2 b=some ⟨29,1,n,g1⟩:=by rw[s b (ai B)];exact I
   have C:S2 (g 0)=some ⟨2,1,n,g2⟩:=by rw[s _ (x 0 t)];exact u2
   have wz:ω (2+(z:Int))=((2+z:Nat):Int):=dP om om;simp only[go_sem,aa,Q,C,x1,x2,wz,show((0:Int)<(n:Int)) by omega,ie]
   repeat refine an ?_
   obtain⟨k1,k2,k3⟩:=xM (z:=z) t om N J (x 0 t) C H.sym H.small;refine key _ _ ?_;exact⟨l,b,_,g,_,by simp only[go_sem],by simp only[go_sem],by simp only[go_sem],k1,k2,om,k3⟩
  case inr.inr.inl =>
   simp -dsimp only[go_sem,CK];refine(At _ n true om).mono ?_;rintro r S1 ⟨b,rfl,g,A,v,H,hE,E,F⟩;have h:eh S1 b g n n A:=⟨v.outer.congr fun a o=>by simp[o],v.row,v.inj⟩
   have w:iS S1 l 0:=y.step ((hE _ _ ca).trans ca.symm);obtain⟨p,hpn⟩:∃p,n=p+1:=⟨n-1,om⟩
   have t:p<n:=om
   have wp:ω ((n:Int)-1)=(p:Nat):=dP om om;obtain⟨g1,I,v1⟩:=h.outer;obtain⟨g2,u2,v2⟩:=h.row p t;have x1:g1 p=.sl 1 (g p) 0 n:=v1 p t;have x2:g2 p=ι 2:=by rw[v2 p t];simp only[H.diag p t]
   simp -dsimp only[go_sem,R,T,U];refine eL 10 [[0,1,2,3,4,5,6,7,8],[0,1,2,3,5],[]] kr ?_
   simp -dsimp only[go_sem,aa,I,u2,x1,x2,wp,t];refine(tw _ l 0 2 w om om om).mono ?_;rintro r S2 ⟨z,hz,rfl,J,s⟩;have B:l≠b:=w.ne I om;have x:∀a,a<n->g a≠l:=fun a o=>by obtain⟨gg,K,_⟩:=h.row a o;exact ai (w.ne K om)
   have N:eh S2 b g n n A:=⟨h.outer.via fun X P=>by rw[s b (ai B)];exact P,fun a o=>(h.row a o).via fun X P=>by rw[s _ (x a o)];exact P,h.inj⟩
   have Q:S2 b=some ⟨29,1,n,g1⟩:=by rw[s b (ai B)];exact I
   have C:S2 (g p)=some ⟨2,1,n,g2⟩:=by rw[s _ (x p t)];exact u2
   have wz:ω (2+(z:Int))=((2+z:Nat):Int):=dP om om;simp only[go_sem,aa,Q,C,x1,x2,wz,wp,t];obtain⟨k1,k2,k3⟩:=xM (z:=z) t om N J (x p t) C H.sym H.small;refine key _ _ ?_;exact⟨l,b,_,g,_,by simp only[go_sem],by simp only[go_sem],by simp only[go_sem],k1,k2,om,k3⟩
  case inr.inr.inr.inl =>
   simp -dsimp only[go_sem,CK];refine(md _ l 0 n 9 y om om om).mono ?_;rintro r S1 ⟨b,g,A,rfl,D,u,Z,G,E,F⟩;have f:=Y om G;simp only[go_sem,R,T,U];refine key _ _ ?_;exact⟨l,b,_,g,A,by simp only[go_sem],by simp only[go_sem],by simp only[go_sem],D,u,om,f⟩
  case inr.inr.inr.inr =>
   simp -dsimp only[go_sem,CK];refine(md _ l 0 n 1 y om om om).mono ?_;rintro r S1 ⟨b,g,A,rfl,D,u,Z,G,E,F⟩;have f:=Y om G;simp only[go_sem,R,T,U];refine key _ _ ?_;exact⟨l,b,_,g,A,by simp only[go_sem],by simp only[go_sem],by simp only[go_sem],D,u,om,f⟩
 rintro O S ⟨l,b,ps,g,A,e5,e6,e7,D,u,hps,f⟩;simp -dsimp only[go_sem,aa,e7];rcases fL ((∀k,k<=n->0<det k A)/\det n A<=10000)with hg|hg
 .refine(Je n A om om f.1 f.2 true (by simp only[true_iff];exact hg)).spec (eI.cons D.vr.va eI.nil) ?_
  simp only[go_sem,aa,e5,e6,e7];exact⟨b,g,n,A,⟨om,om,f.1,hg.1,hg.2,fun i hi=>(f.2 i i hi hi).2,f.2⟩,V,rfl,D⟩
 .refine(Je n A om om f.1 f.2 false (by simp only[dB,Tb];exact hg)).spec (eI.cons D.vr.va eI.nil) ?_
  simp -dsimp only[go_sem,aa,e5,e6,e7];refine(md _ l _ n 2 u om om om).mono ?_;rintro r S9 ⟨b',g',A',rfl,hM',hTp',hFr',hD',_,_⟩;simp only[go_sem];exact⟨b',g',n,A',hD'.good om om,V,rfl,hM'⟩

def Kh{m:Int}(c:0<m):a%m=if a.tmod m<0 then a.tmod m+m else a.tmod m:=by
 have e:=xX a m;have h:=tI (a:=a) (b:=m) om;split
 .refine(pq (a:=a) (b:=m) (q:=a.tdiv m-1) (r:=a.tmod m+m) ?_ om om).2;rw[mQ,ir];omega
 .exact(pq (a:=a) (b:=m) (q:=a.tdiv m) (r:=a.tmod m) om om om).2
def Ed{m:Int}(c:0<m)(d:m<=1000000000000):PF 35 [ι a,ι m] (ι (a%m)):=by
 refine gN func35 ntmps35 results35 ?_;rw[Kh c];have h:=tI (a:=a) (b:=m) om;by_cases e:a.tmod m<0
 .have f:ω (a.tmod m+m)=a.tmod m+m:=i64_in om om;simp only[*,go_sem,(om:¬(m=0))]
  exact VR.mf rfl
 .simp only[go_sem,(om:¬(m=0)),e]
  exact VR.mf rfl
def pZ{a:Nat}:eV (a:Int) (m:Int)=((a%m:Nat):Int):=by rw[qR]
def Is_pf(p:Nat)(q:2<=p)(j:p<=9973)(β:Bool)(hβ:β=true↔∀d,2<=d->d*d<=p->¬p%d=0):PF 240 [ι p] (.bool β):=by
 refine gN func240 ntmps240 results240 ?_;simp only[go_sem,(om:¬((p:Int)<2)),(om:¬((2147483647:Int)<p))]
 refine aC (fun O S=>∃d:Nat,2<=d/\d<=100/\O 0=ι p/\O 3=ι d/\∀e,2<=e->e<d->¬p%e=0) (fun O S=>101-bS (O 3)) ?_ ?_
 .simp only[go_sem];exact⟨2,om,om,rfl,fun e c g=>om⟩
 .rintro O S ⟨d,k,b,r,s,a⟩;have l:d*d<=100*100:=bB b b;have t:ω ((d:Int)*d)=((d*d:Nat):Int):=dP (by rw[aX]) om
  have m:¬((d:Int)=0):=om
  by_cases f:d*d<=p
  .have n:d<100:=by
    rcases aB d 100 with h|h
    .exact h
    .have:100*100<=d*d:=bB h h;omega
   by_cases i:p%d=0
   .simp only[*,go_sem,aa,kG,pZ,show((((0:Nat)):Int)==0)=true from rfl];have:β=false:=by
     cases β with
     | false=>rfl
     | true=>exact absurd i (hβ.1 rfl d k f)
    rw[this];exact VR.mf rfl
   .have o:(((p%d:Nat):Int)==0)=false:=by simp;omega
    simp only[*,go_sem,aa,kG,pZ,aI (om:d<1000000),bS]
    refine⟨⟨d+1,om,om,rfl,fun e c g=>?_⟩,om⟩
    by_cases e':e=d
    .rw[e'];exact i
    .exact a e c om
  .simp only[*,go_sem,aa,kG];have:β=true:=hβ.2 fun e c g=>a e c (by
    rcases aB e d with h|h
    .exact h
    .have:=bB h h;omega)
   rw[this];exact VR.mf rfl
def qP(p:Int):Prop:=3<=p/\p<=9973/\tB p.toNat
def qP.of(h:oW p):qP p:=⟨by have:=h.2.1;omega,by have:=h.2.2;omega,h.1⟩
def qP.nat{p:Int}(h:qP p):∃q:Nat,p=q/\oW q:=⟨p.toNat,by have:=h.1;omega,h.2.2,by have:=h.1;omega,by have:=h.2.1;omega⟩
def K5(p:Int)(a:p<=9973)(β:Bool)(hβ:β=true↔2<=p/\tB p.toNat):PF 240 [ι p] (.bool β):=by
 by_cases b:p<2
 .refine gN func240 ntmps240 results240 ?_;simp only[go_sem,show decide (p<2)=true by simpa using b]
  rw[cP hβ fun h=>om]
  exact VR.mf rfl
 .obtain⟨q,rfl⟩:∃q:Nat,p=q:=⟨p.toNat,om⟩
  exact Is_pf q om om β (by rw[hβ,cQ];exact⟨fun h=>h.2.2,fun h=>⟨om,om,h⟩⟩)
def Nh(p:Int)(β:Bool)(hβ:β=true↔qP p):PF 153 [ι p] (.bool β):=by
 refine gN func153 ntmps153 results153 ?_;by_cases b:p=2
 .subst b;simp only[go_sem,aa,show((2:Int) != 2)=false from rfl];rw[cP hβ fun h=>by have:=h.1;omega]
  exact VR.mf rfl
 have c:(p != 2)=true:=by simpa using b
 simp -dsimp only[go_sem,aa,c];refine PF.call (z:=.bool β) (PF.of_spec (B5 func202 rfl 9 ntmps202 kr sm (by simp[results202]) ?_)) ?_
 .rw[jZ,results202];by_cases a:p<=9973
  .simp -dsimp only[go_sem,aa,show decide (p<=9973)=true by simpa using a]
   refine(K5 p a β (by rw[hβ];unfold qP;constructor<;>intro h<;>(refine⟨om,?_⟩;first|exact h.2.2|exact⟨a,h.2⟩))).call ?_
   simp only[go_sem,show decide (p<=9973)=true by simpa using a]
   exact VR.mf rfl
  .simp only[go_sem,aa,show decide (p<=9973)=false by simpa using a]
   rw[cP hβ fun h=>a h.2.1];exact VR.mf rfl
 simp only[go_sem,c];exact VR.mf rfl
def Ir(n:Nat)(H:az):Prop:=∀i j,i<n->j<n->((H i j).natAbs:Int)<=176000
def Ir.nb(h:Ir n H){i j:Nat}(a:i<n)(b:j<n):nb (H i j) 18:=by
 have:=h i j a b;unfold Go.Proofs.YtdobfmlmenaajaaGreatDoor.nb;omega
def Ir.r64(h:Ir n H){i j:Nat}(a:i<n)(b:j<n):qO (H i j):=by
 have:=h i j a b;unfold qO;omega
def Ns(n:Nat)(H:az)(a:1<=n)(e:n<=8)(d:Ir n H)(f:0<det n H/\det n H<=10000):PF 31 [av n n H] (ι (det n H)):=by
 refine gN func31 ntmps31 results31 ?_;simp -dsimp only[go_sem,aa];refine(uZ n n H a om a om (fun i j b c=>d.r64 b c)).call ?_;simp -dsimp only[go_sem,aa];refine(jz n H 18 a om (fun i j b c=>d.nb b c) om).call ?_;simp -dsimp only[go_sem,aa];refine(Cc (by unfold iw;omega)).call ?_
 simp only[go_sem];exact VR.mf rfl
def Eh(n:Nat)(p:Int)(H:az)(b:1<=n)(c:n<=8)(d:Ir n H)(e:0<det n H/\det n H<=10000)(β:Bool)(hβ:β=true↔qP p/\¬det n H%p=0):PF 90 [av n n H,ι p] (.bool β):=by
 refine gN func90 ntmps90 results90 ?_;simp -dsimp only[go_sem,aa];rcases fL (qP p)with a|a
 .refine(Nh p true (by simp[a])).call ?_
  have i:=a.1;simp -dsimp only[go_sem,aa];refine(Ns n H b c d e).call ?_;have f:(det n H).tmod p=det n H%p:=aO om;have g:β=(det n H%p != 0):=by
   by_cases h:det n H%p=0
   .rw[h];exact cP hβ fun h'=>h'.2 h
   .rw[hβ.2 ⟨a,h⟩];simp[h]
  simp only[go_sem,(om:¬(p=0)),f]
  rw[g];exact VR.mf rfl
 .refine(Nh p false (by simp[a])).call ?_
  simp only[go_sem];rw[cP hβ fun h=>a h.1];exact VR.mf rfl
def KV(n p:Nat)(l:n<=8)(e:1<=p)(c:p<=900):PF 91 [ι n,ι p] (.bool (decide (p^n<=65536))):=by
 refine gN func91 ntmps91 results91 ?_;simp only[go_sem];refine aC (fun O S=>∃i:Nat,i<=n/\p^i<=65536/\O 0=ι n/\O 1=ι p/\O 5=ι ((p^i:Nat):Int)/\O 6=ι i) (fun O S=>n-bS (O 6)) ?_ ?_
 .simp only[go_sem];exact⟨0,om,sm,sm,rfl⟩
 .rintro O S ⟨i,m,a,f,g,h,j⟩;by_cases b:i<n
  .have o:p^i*p<=65536*900:=bB a c;have q:ω (((p^i:Nat):Int)*p)=((p^(i+1):Nat):Int):=dP (by rw[bV,aX]) (by rw[bV];omega)
   by_cases k:p^(i+1)<=65536
   .simp only[*,go_sem,(om:¬((65536:Int)<((p^(i+1):Nat):Int))),aI (om:i<1000000),bS]
    exact⟨⟨i+1,om,k,rfl,rfl⟩,om⟩
   .simp only[*,go_sem,show((65536:Int)<((p^(i+1):Nat):Int)) by omega]
    have:p^(i+1)<=p^n:=cp e b;have d:decide (p^n<=65536)=false:=by simp;omega
    rw[d];exact VR.mf rfl
  .obtain rfl:i=n:=om
   simp only[go_sem,f,g,h,j,b];have d:decide (p^i<=65536)=true:=by simp;exact a
   rw[d];exact VR.mf rfl
def AD{s b m:Int}:(s%m+(a%m)*(b%m)%m)%m=(s+a*b)%m:=by
 rw[QD s,eY a b]
def z9(n m:Nat)(H:az)(v:Nat->Int)(J:n<=8)(K:1<=m)(q:m<=2147483647):PF 60 [av n n H,aK n v,ι m] (aK n (fun i=>(ap n fun j=>H i j*v j)%m)):=by
 refine gN func60 ntmps60 results60 ?_;have r:¬((m:Int)=0):=om
 simp only[go_sem,av,aK];refine aC (fun O S=>∃(i:Nat) (x:AV),i<=n/\O 1=aK n v/\O 2=ι m/\O 7=x/\O 13=av n n H/\O 14=ι n/\O 15=ι i/\cY 2 1 St.none S x i (fun i=>ι ((ap n fun j=>H i j*v j)%m))) (fun O S=>n-bS (O 15)) ?_ ?_
 .simp only[go_sem,av,aK];exact⟨0,om,rfl,cY.nil (dy.noneS _) _⟩
 .rintro O S ⟨i,x,L,s,t,u,e,f,g,k⟩;by_cases w:i<n
  .simp only[*,go_sem,av,aK];refine aC (fun O S'=>∃j:Nat,j<=n/\O 1=aK n v/\O 2=ι m/\O 7=x/\O 10=ι ((ap j fun j=>H i j*v j)%m)/\O 13=av n n H/\O 14=ι n/\O 15=ι i/\O 19=aK n (H i)/\O 20=ι n/\O 21=ι j/\S'=S) (fun O S=>n-bS (O 21)) ?_ ?_
   .simp only[*,go_sem,av,aK];exact⟨0,om,by simp[ap],rfl⟩
   .rintro O S' ⟨j,M,s,t,u,y,e,f,g,z,A,B,rfl⟩;by_cases C:j<n
    .have b:(0:Int)<m:=om
     have D:=aV (H i j) (show(m:Int)≠0 by omega)
     have N:=aU (H i j) b;have p:=aV (v j) (show(m:Int)≠0 by omega)
     have P:=aU (v j) b;have E:=cD D p;have Q:H i j%m*(v j%m)<=2147483647*2147483647:=cw om om p om;have R:ω (H i j%m*(v j%m))=H i j%m*(v j%m):=i64_in om om;have T:eV (H i j%m*(v j%m)) m=(H i j%m*(v j%m))%m:=aO E;have s1:=aV (ap j fun j=>H i j*v j) (show(m:Int)≠0 by omega)
     have U:=aU (ap j fun j=>H i j*v j) b;have V:=aV (H i j%m*(v j%m)) (show(m:Int)≠0 by omega)
     have W:=aU (H i j%m*(v j%m)) b;have X:ω ((ap j fun j=>H i j*v j)%m+(H i j%m*(v j%m))%m)=(ap j fun j=>H i j*v j)%m+(H i j%m*(v j%m))%m:=i64_in om om;have Y:eV ((ap j fun j=>H i j*v j)%m+(H i j%m*(v j%m))%m) m=(ap (j+1) fun j=>H i j*v j)%m:=by
      rw[aO om,AD];rfl
     simp -dsimp only[*,go_sem,av,aK];refine aN 16 kr ?_
     simp only[*,go_sem,aa,av,aK];refine⟨_,(Ed b om).pure',_,(Ed b om).pure',?_⟩;simp only[*,go_sem,aI (om:j<1000000),bS]
     exact⟨⟨j+1,om,rfl,rfl⟩,om⟩
    .obtain rfl:j=n:=om
     simp -dsimp only[*,go_sem,av,aK];refine ax.intro fun F l=>?_;simp -dsimp only[*,go_sem];have d:=k.fresh l;refine cY.app2 (k.upd (by rfl) d _) om (show ei 1 (ι ((ap j fun j=>H i j*v j)%m)) by simp[ei]) (aR ⟨_,_,_,rfl,ca,rfl,fun h=>d _ h rfl⟩) ?_
     intro c S2 o G I;simp only[*,go_sem,av,aK,aI (om:i<1000000),bS]
     exact⟨⟨i+1,om,rfl,o.congr fun a Z=>by grind⟩,om⟩
  .obtain rfl:i=n:=om
   simp only[*,go_sem,av,aK];exact k.vr fun a _=>VR.mf rfl

end Go.Proofs.YtdobfmlmenaajaaGreatDoor
