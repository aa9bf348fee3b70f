/-
  Lemmas for NeighbourRaw.
-/
import Derived.Test.YtdobfmlmenaajaaGreatDoorH15
namespace Go.Proofs.YtdobfmlmenaajaaGreatDoor
open Go.RowKit Tryz
open _root_.Int renaming gcd→mN
open _root_.Option renaming none→ab
set_option maxHeartbeats 6400000
set_option maxRecDepth 4096
set_option linter.all false
attribute [local go_sem] Nat.reduceAdd Nat.reduceEqDiff Nat.reduceLeDiff Nat.reduceLT reduceCtorEq Int.ofNat_lt decide_true decide_false Int.zero_le_ofNat
attribute [local go_sem ↓] reduceIte
variable{x y z:AV}{K post post':AV->St->Prop}{s:Bool}{p:Bool->Prop}{a:Int}{args args' l:List AV}{xs:List Nat}{b c d es f j k m n ty:Nat}{g':Nat->AV}{r:Nat->Int}{g:Nat->Nat}{A B:Nat->Nat->Int}{M M':Nat->Prop}{S S' S0 S1:St}{v:Value}{w:World}{Q:aI}{X:eS}
def ft(S S':St):Prop:=∀k X,S k=some X->S' k=some X
def ft.refl(S:St):ft S S:=fun _ _ h=>h
def ft.upd(h:ft S S'){b:Nat}(c:S b=ab)(X:eS):ft S (S'.upd b X):=fun k Y a=>by
 have d:k≠b:=by rintro rfl;rw[c]at a;cases a
 rw[aO d];exact h k Y a
def ft.none(h:ft S S'){b:Nat}(a:S' b=ab):S b=ab:=by
 cases e:S b with
 | none=>rfl
 | some X=>rw[h b X e]at a;cases a
def ft.trans{S'':St}(h:ft S S')(k:ft S' S''):ft S S'':=fun b X a=>k b X (h b X a)
def ft.has(h:ft S S'){b ty es n:Nat}{g:Nat->AV}(a:bM S b ty es n g):bM S' b ty es n g:=by
 obtain⟨g',c,d⟩:=a;exact⟨g',h b _ c,d⟩
def cj:AV->Nat
 | .int _ k=>k.toNat
 | _=>0
def ed(S:St)(b ty es:Nat)(z:AV):Prop:=∃g,S b=some ⟨ty,es,1,g⟩/\g 0=z
def ed.upd(h:ed S b ty es z)(a:b≠c)(X:eS):ed (S.upd c X) b ty es z:=by
 obtain⟨g,d,e⟩:=h;exact⟨g,by rw[aO a];exact d,e⟩
def ed.new{g:Nat->AV}(h:g 0=z):ed (S.upd b ⟨ty,es,1,g⟩) b ty es z:=⟨g,cn,h⟩
def ed.set{g:Nat->AV}:ed (S.upd b ⟨ty,es,1,bW g 0 z⟩) b ty es z:=⟨_,cn,by simp[bW]⟩
def ed.fresh(h:ed S b ty es z)(a:S c=ab):b≠c:=by
 rintro rfl;obtain⟨g,d,_⟩:=h;rw[d]at a;cases a
def ag(h:S.upd b X c=ab):c≠b/\S c=ab:=by
 simp only[St.upd]at h;by_cases e:c=b
 .rw[ai e]at h;cases h
 .rw[af e]at h;exact⟨e,h⟩
def Dx{f:Nat->Int}(h:∀j,j<n->nb (f j) k)(d:n<=1024):∀m,m<=n->nb (ay m f) (k+10):=by
 have key:∀m,m<=n->(ay m f).natAbs<=m*(2^k-1):=by
  intro m
  induction m with
  | zero=>intro _;simp[ay]
  | succ m ih =>
   intro a;have c:=ih om;have b:=h m om;unfold nb at b;simp only[ay];rw[cW];omega
 intro m a;have c:=key m a;have b:m*(2^k-1)<=1024*(2^k-1):=aB _ om;have e:0<2^k:=iK om;unfold nb;rw[fJ];omega
def Tf(n:Nat)(x y:Nat->Int)(k:Nat)(g:∀j,j<n->nb (x j) k)(h:∀j,j<n->nb (y j) k)(s:k<=1000000000)(t:n<=1000):PF 213 [bB n x,bB n y] (.big (ay n fun j=>x j*y j)):=by
 refine iH func213 ntmps213 results213 ?_;simp -dsimp only[go_sem,bB];refine aF.intro fun b u=>?_;simp -dsimp only[go_sem];refine aF.intro fun c l=>?_;have d:b≠c:=aj (ag l).1;simp only[go_sem];have m:=Dx (f:=fun j=>x j*y j) (k:=k+k) (fun j e=>(g j e).mul (h j e)) (om:n<=1024)
 refine aH (fun O S=>∃j:Nat,j<=n/\O 0=bB n x/\O 1=bB n y/\O 4=.ptr 2 b 0/\O 5=.ptr 2 c 0/\O 9=.int .i64 n/\O 10=.int .i64 j/\ed S b 50 2 (.big 0)/\ed S c 50 2 (.big (ay j fun j=>x j*y j))) (fun O S=>n-cj (O 10)) ?_ ?_
 .simp only[go_sem,bB];exact⟨0,om,rfl,((ed.new rfl).upd d _).upd d _,ed.set⟩
 .rintro O S ⟨j,e,v,w,z,A,B,o,p,q⟩;obtain⟨gb,i,eb⟩:=p;obtain⟨gc,r,ec⟩:=q;by_cases a:j<n
  .simp -dsimp only[*,go_sem,cj,bB];refine bE 11 kr ?_
   have C:IntKind.i64.wrap ((j:Int)+1)=((j+1:Nat):Int):=dW om om;simp only[*,go_sem,bB];exact⟨.big (x j*y j),(ja (g j a) (h j a) om).pure',.big ((ay j fun j=>x j*y j)+x j*y j),(tP (m j e) (((g j a).mul (h j a)).mono om) om).pure',trivial,
    ⟨j+1,om,rfl,ed.upd ⟨gb,i,eb⟩ d _,ed.set⟩,om⟩
  .simp only[*,go_sem,cj,bB];obtain rfl:j=n:=om
   exact VR.mf rfl

def dlt{b:Int}(h:¬a<b):decide (a<b)=false:=by simpa using h
theorem DE{w:World}{M M':Nat->Prop}:∀(l:List AV) (vs:List Value),(∀x∈l,pI x=true)->aT w M l vs->aT w M' l vs
 | [],[],_,_=>by simp[aT]
 | x::l,v::vs,h,a=>by
  simp only[aT]at a ⊢;exact⟨tV (h x (eH ..)) a.1,DE l vs (fun y b=>h y (dT _ b)) a.2⟩
 | [],_::_,_,a=>by simp[aT]at a
 | _::_,[],_,a=>by simp[aT]at a
def VR.tup(h:∀x∈l,pI x=true):VR S (.tup l) (.tup l):=by
 intro w v d a;simp only[bs]at a ⊢;obtain⟨vs,b,c⟩:=a;refine⟨vs,b,?_⟩;exact DE l vs h c
def mE(n m:Nat)(A:Nat->Nat->Int)(f:1<=n)(g:n<=16)(h:1<=m)(i:m<=16):PF 104 [aR n m A] (.tup [.int .i64 n,.int .i64 m,.bool true]):=by
 refine iH func104 ntmps104 results104 ?_;have k:decide ((n:Int)<1)=false:=dlt om;have l:decide ((16:Int)<n)=false:=dlt om;have o:decide ((m:Int)<1)=false:=dlt om;have p:decide ((16:Int)<m)=false:=dlt om;simp only[*,go_sem,aR,bB];refine aH (fun O S=>∃j:Nat,j<=n/\O 0=aR n m A/\O 15=aR n m A/\O 16=.int .i64 n/\O 17=.int .i64 j) (fun O S=>n-cj (O 17)) ?_ ?_
 .simp only[go_sem,aR,bB];exact⟨0,om,rfl⟩
 .rintro O S ⟨j,q,a,b,c,d⟩;by_cases e:j<n
  .have r:IntKind.i64.wrap ((j:Int)+1)=((j+1:Nat):Int):=dW om om;simp only[*,go_sem,aR,bB,cj];exact⟨om,⟨j+1,om,rfl⟩,om⟩
  .simp -dsimp only[*,go_sem,aR,bB];refine bE 9 kr ?_
   simp only[go_sem,a,aR,bB]
   repeat refine an ?_
   exact VR.tup (by simp[pI])
def pj(n:Nat)(A:Nat->Nat->Int)(a:1<=n)(b:n<=16):PF 115 [aR n n A] (.tup [.int .i64 n,.bool true]):=by
 refine iH func115 ntmps115 results115 ?_;simp -dsimp only[go_sem];refine(mE n n A a b a b).call ?_;simp only[go_sem];exact VR.tup (by simp[pI])

def iR(S0 S:St)(b:Nat)(g:Nat->Nat)(n m:Nat)(A:Nat->Nat->Int):Prop:=dH S b g n m A/\ft S0 S/\S0 b=ab/\∀i,i<n->S0 (g i)=ab
def fu(A:Nat->Nat->Int)(i j:Nat)(z:Int):Nat->Nat->Int:=fun a c=>if a=i/\c=j then z else A a c
def dH.outer_ne(h:dH S b g n m A){i:Nat}(a:i<n):b≠g i:=bM.ne h.outer (h.row i a) om
def dH.set(h:dH S b g n m A){i j:Nat}{z:Int}{g':Nat->AV}(k:i<n)(o:S (g i)=some ⟨50,2,m,g'⟩) :
  dH (S.upd (g i) ⟨50,2,m,bW g' j (.big z)⟩) b g n m (fu A i j z):=by
 refine⟨h.outer.upd (h.outer_ne k) _,fun a d=>?_,h.inj⟩;by_cases e:a=i
 .subst e;obtain⟨s,l,p⟩:=h.row a d;rw[o]at l;cases l;refine bM.here fun c q=>?_;have:=p c q;simp only[bW,fu]
  grind
 .have f:g a≠g i:=fun r=>e (h.inj a i d k r);refine((h.row a d).upd f _).congr fun c _=>?_;simp[fu,e]
def iR.set(h:iR S0 S b g n m A){i j:Nat}{z:Int}{g':Nat->AV}(a:i<n)(c:S (g i)=some ⟨50,2,m,g'⟩) :
  iR S0 (S.upd (g i) ⟨50,2,m,bW g' j (.big z)⟩) b g n m (fu A i j z):=⟨h.1.set a c,h.2.1.upd (h.2.2.2 i a) _,h.2.2.1,h.2.2.2⟩
def dH.congr(h:dH S b g n m A)(c:∀i j,i<n->j<m->A i j=B i j):dH S b g n m B :=
 ⟨h.outer,fun i a=>(h.row i a).congr fun j d=>by rw[c i j a d],h.inj⟩
def iR.congr(h:iR S0 S b g n m A)(a:∀i j,i<n->j<m->A i j=B i j):iR S0 S b g n m B:=⟨h.1.congr a,h.2⟩
def VR.tup2{x' y':AV}(c:VR S x x')(d:VR S y y'):VR S (.tup [x,y]) (.tup [x',y']):=by
 intro w v a b;simp only[bs]at b ⊢;obtain⟨vs,e,h⟩:=b;refine⟨vs,e,?_⟩
 match vs,h with
 | [u,v],h=>simp only[aT]at h ⊢;exact⟨c w u a h.1,d w v a h.2.1,trivial⟩
 | [],h=>simp[aT]at h
 | [_],h=>simp[aT]at h
 | _::_::_::_,h=>simp[aT]at h
def AO(S0:St)(n m:Nat)(B:n<=1000)(C:m<=1000):cP 102 [.int .i64 n,.int .i64 m] S0 (fun r S'=>∃b g,r=.sl 1 b 0 n/\iR S0 S' b g n m (fun _ _=>0)):=by
 refine i9 func102 ntmps102 results102 ?_;simp -dsimp only[go_sem];refine⟨om,aF.intro fun b o=>?_⟩
 refine aH (fun O S=>∃(k:Nat) (g:Nat->Nat),k<=n/\O 1=.int .i64 m/\O 5=.sl 1 b 0 n/\O 10=.int .i64 n/\O 11=.int .i64 k /\
  ft S0 S/\bM S b 59 1 n (fun i=>if i<k then .sl 2 (g i) 0 m else .nil)/\(∀i,i<k->jp S (g i) m (fun _=>0)/\S0 (g i)=ab)/\∀i j,i<k->j<k->g i=g j->i=j) (fun O S=>n-cj (O 11)) ?_ ?_
 .simp only[go_sem];exact⟨0,om,rfl,(ft.refl S0).upd o _,fun _=>0,bM.here fun i _=>by simp,fun i a=>om,fun i j a=>om⟩
 .rintro O S ⟨k,g,D,E,F,v,w,h,s,f,t⟩;by_cases x:k<n
  .have G:IntKind.i64.wrap ((k:Int)+1)=((k+1:Nat):Int):=dW om om;simp -dsimp only[*,go_sem];refine⟨om,aF.intro fun c d=>?_⟩
   obtain⟨g',u,p⟩:=s;have q:b≠c:=by rintro rfl;rw[u]at d;cases d
   simp only[*,go_sem,cj]
   repeat refine an ?_
   refine⟨⟨k+1,om,rfl,(h.upd (h.none d) _).upd o _,fun i=>if i=k then c else g i,bM.here fun i a=>?_,fun i a=>?_,fun i j a H e=>?_⟩,om⟩
   .have:=p i a;grind [bW]
   .by_cases e:i=k
    .simp only[e,aQ];exact⟨(bM.here fun _ _=>rfl).upd (aj q) _,h.none d⟩
    .simp only[e,aS];obtain⟨l,y⟩:=f i om;exact⟨(l.upd (bM.fresh l d) _).upd (fun e=>by rw[e]at l;exact bM.ne (bM.of u) l om rfl) _,y⟩
   .by_cases z:i=k<;>by_cases A:j=k<;>simp only[z,A,aQ,aS]at e ⊢
    .exact absurd e.symm (bM.fresh (f j om).1 d)
    .exact absurd e (bM.fresh (f i om).1 d)
    .exact t i j om om e
  .simp only[*,go_sem];obtain rfl:k=n:=om
   exact⟨b,rfl,g,⟨s.congr fun i a=>by rw[ai a],fun i a=>(f i a).1,t⟩,h,o,fun i a=>(f i a).2⟩

def aP(h:k<1000000):IntKind.i64.wrap ((k:Int)+1)=((k+1:Nat):Int):=dW om om
def qN(z:Int):Prop:=-9223372036854775808<=z/\z<=9223372036854775807
def qt(S0:St)(n m:Nat)(A:Nat->Nat->Int)(E:1<=n)(F:n<=16)(G:1<=m)(H:m<=16)(o:∀i j,i<n->j<m->qN (A i j)) :
  cP 55 [az n m A] S0 (fun r S'=>∃b g,r=.tup [.sl 1 b 0 n,.bool true]/\iR S0 S' b g n m A):=by
 refine i9 func55 ntmps55 results55 ?_;have I:decide ((n:Int)<1)=false:=dlt om;have J:decide ((16:Int)<n)=false:=dlt om;have K:decide ((m:Int)<1)=false:=dlt om;have L:decide ((16:Int)<m)=false:=dlt om;simp only[*,go_sem,az,aK];refine aH (fun O S=>∃k:Nat,k<=n/\O 0=az n m A/\O 17=az n m A/\O 18=.int .i64 n/\O 19=.int .i64 k/\S=S0) (fun O S=>n-cj (O 19)) ?_ ?_
 .simp only[go_sem,az,aK];exact⟨0,om,rfl⟩
 .rintro O S ⟨k,p,f,q,s,t,rfl⟩;by_cases a:k<n
  .simp only[*,go_sem,az,aK,aP (om:k<1000000),cj]
   exact⟨om,⟨k+1,om,rfl⟩,om⟩
  .simp -dsimp only[*,go_sem,az,aK]
   repeat refine an ?_
   refine(AO S n m om om).mono ?_;rintro r S1 ⟨b,g,rfl,u⟩;simp only[go_sem,az,aK,f];refine aH (fun O S'=>∃k:Nat,k<=n/\O 0=az n m A/\O 6=.sl 1 b 0 n/\O 49=.int .i64 n/\O 50=.int .i64 k/\iR S S' b g n m (fun i j=>if i<k then A i j else 0)) (fun O S=>n-cj (O 50)) ?_ ?_
   .simp only[go_sem,az,aK,f];exact⟨0,om,rfl,u.congr sm⟩
   .rintro O S1 ⟨k,p,f,v,h,l,d⟩;by_cases a:k<n
    .simp only[*,go_sem,az,aK];refine aH (fun O S'=>∃j:Nat,j<=m/\O 0=az n m A/\O 6=.sl 1 b 0 n/\O 7=.int .i64 k/\O 49=.int .i64 n/\O 50=.int .i64 k/\O 57=.int .i64 m/\O 58=.int .i64 j/\iR S S' b g n m (fun i c=>if i<k∨(i=k/\c<j)then A i c else 0)) (fun O S=>m-cj (O 58)) ?_ ?_
     .simp only[*,go_sem,az,aK];exact⟨0,om,rfl,d.congr sm⟩
     .rintro O S2 ⟨j,w,f,v,M,h,l,x,y,d⟩;by_cases e:j<m
      .obtain⟨N,P,z⟩:=d.1.outer;obtain⟨Q,B,R⟩:=d.1.row k a;have C:=z k a;simp -dsimp only[*,go_sem,az,aK];refine bE 13 kr ?_
       simp only[*,go_sem,az,aK,aP (om:j<1000000)]
       repeat refine an ?_
       refine⟨_,(gJ (o k j a e).1 (o k j a e).2).pure',om,trivial,⟨j+1,om,rfl,(d.set a B).congr fun i c _ _=>?_⟩,by simp only[cj,cC];omega⟩
       simp only[fu]
       grind
      .simp only[*,go_sem,az,aK,cj,aP (om:k<1000000)]
       refine⟨⟨k+1,om,rfl,d.congr fun i c D T=>?_⟩,om⟩
       grind
    .simp only[*,go_sem,az,aK];exact⟨b,rfl,g,d.congr fun i j D w=>by rw[ai om]⟩
def iR.vr(h:iR S0 S b g n m A):VR S (.sl 1 b 0 n) (aR n m A):=h.1.vr
def Oi(S0:St)(n m:Nat)(A:Nat->Nat->Int)(a:1<=n)(c:n<=16)(d:1<=m)(e:m<=16)(f:∀i j,i<n->j<m->qN (A i j)) :
  cP 27 [az n m A] S0 (fun r S'=>∃b g,r=.sl 1 b 0 n/\iR S0 S' b g n m A):=by
 refine i9 func27 ntmps27 results27 ?_;simp -dsimp only[go_sem];refine(qt S0 n m A a c d e f).mono ?_;rintro r S1 ⟨b,g,rfl,h⟩;simp only[go_sem];exact⟨b,rfl,g,h⟩
def uT(n m:Nat)(A:Nat->Nat->Int)(a:1<=n)(c:n<=16)(d:1<=m)(f:m<=16)(k:∀i j,i<n->j<m->qN (A i j)):PF 27 [az n m A] (aR n m A) :=
 PF.of_spec ((Oi _ n m A a c d f k).mono fun r S' ⟨b,g,e,h⟩=>e▸h.vr)

def Av:AV->Bool
 | .int _ _=>true
 | .bool _=>true
 | .big _=>true
 | .nil=>true
 | .sl _ _ _ _=>true
 | .ptr _ _ _=>true
 | _=>false
def clb:AV->Bool
 | .tup l=>l.all Av
 | x=>Av x
def Au(h:Av x=true)(a:bs w M x v):bs w M' x v:=by
 cases x<;>simp only[Av,bJ]at h<;>simpa only[bs]using a
theorem F5{w:World}{M M':Nat->Prop}:∀(l:List AV) (vs:List Value),l.all Av=true->aT w M l vs->aT w M' l vs
 | [],[],_,_=>by simp[aT]
 | x::l,v::vs,h,a=>by
  simp only[aT,List.all_cons,au]at h a ⊢;exact⟨Au h.1 a.1,F5 l vs h.2 a.2⟩
 | [],_::_,_,a=>by simp[aT]at a
 | _::_,[],_,a=>by simp[aT]at a
def QA(h:clb x=true)(a:bs w M x v):bs w M' x v:=by
 cases x<;>first
  | (simp only[clb]at h;exact Au h a)
  | (simp only[clb]at h;simp only[bs]at a ⊢;obtain⟨vs,e,b⟩:=a;exact⟨vs,e,F5 _ _ h b⟩)
def St.join(S S1:St):St:=fun b=>match S b with
 | some X=>some X
 | ab=>S1 b
def Kg(S:St):Prop:=∀b X,S b=some X->∀j,j<X.n->Av (X.g j)=true
def cP.frame(h:cP f args' St.none post)(D:fI S args args')(E:∀r S1,post r S1->clb r=true/\Kg S1) :
  cP f args S (fun r S'=>∃S1,post r S1/\(∀b X,S b=some X->S1 b=ab)/\S'=S.join S1):=by
 intro w vs d F;refine(h w vs ⟨rfl,d.gl,fun b x G=>by simp[St.none]at G⟩ (aT.turn (fun _ _ i=>absurd rfl i) _ _ (yO d _ _ _ D F))).mono ?_
 rintro e w' ⟨v,r,S1,rfl,A,H,B,c⟩;obtain⟨I,J⟩:=E r S1 A;have m:∀b X,S b=some X->b<w.heap.size:=fun b X a=>by obtain⟨cs,g,_⟩:=d b X a;exact gA g
 have C:∀b,b<w.heap.size->S1 b=ab:=fun b K=>by
  cases e:S1 b with
  | none=>rfl
  | some Y=>exact absurd (c.own b K (by simp[St.dom,e])) (by simp[St.dom,St.none])
 have n:dz S.dom (S.join S1).dom w w':=⟨c.os,c.tape,c.output,c.size,fun k i _=>c.keep k i (by simp[St.dom,St.none]),c.shape,fun k i o=>by
  simp only[St.dom,St.join]at o ⊢
  cases e:S k with
  | none=>rw[e]at o;exact absurd (C k i) o
  | some X=>simp⟩
 refine⟨v,r,S.join S1,rfl,⟨S1,A,fun b X a=>C b (m b X a),rfl⟩,QA I H,⟨?_,d.grow n,fun b X a=>?_⟩,n⟩
 .simp only[St.join,d.z];exact B.z
 simp only[St.join]at a
 cases e:S b with
 | some Y =>
  rw[e]at a;cases a;obtain⟨cs,g,p,q,s⟩:=d b X e;refine⟨cs,by rw[c.keep b (gA g) (by simp[St.dom,St.none])];exact g,p,fun j l=>?_,s⟩
  obtain⟨u,t,y⟩:=q j l;exact⟨u,t,bs.grow d.noU n _ _ y⟩
 | none =>
  rw[e]at a;obtain⟨cs,g,p,q,s⟩:=B b X a;refine⟨cs,g,p,fun j l=>?_,s⟩;obtain⟨u,t,y⟩:=q j l;exact⟨u,t,Au (J b X a j l) y⟩
def pq(S S1:St):ft S (S.join S1):=fun k X h=>by simp[St.join,h]
def Ac(a:∀b X,S b=some X->S1 b=ab){b:Nat}{X:eS}(h:S1 b=some X):S.join S1 b=some X/\S b=ab:=by
 cases e:S b with
 | some Y=>rw[a b Y e]at h;cases h
 | none=>exact⟨by simp[St.join,e,h],rfl⟩
def bM.join(a:∀b X,S b=some X->S1 b=ab){b ty es n:Nat}{g:Nat->AV}(h:bM S1 b ty es n g):bM (S.join S1) b ty es n g/\S b=ab:=by
 obtain⟨g',c,d⟩:=h;exact⟨⟨g',(Ac a c).1,d⟩,(Ac a c).2⟩
def dH.join(a:∀b X,S b=some X->S1 b=ab){b:Nat}{g:Nat->Nat}{n m:Nat}{A:Nat->Nat->Int}(h:dH S1 b g n m A):iR S (S.join S1) b g n m A :=
 ⟨⟨(h.outer.join a).1,fun i c=>((h.row i c).join a).1,h.inj⟩,pq S S1,(h.outer.join a).2,fun i c=>((h.row i c).join a).2⟩
def cP.less(h:cP f args S post)(c:∀r S',post r S'->∃S'',(∀b X,S'' b=some X->S' b=some X)/\post' r S''):cP f args S post':=by
 intro w vs d g;refine(h w vs d g).mono ?_;rintro e w' ⟨v,r,S1,rfl,i,j,l,m⟩;obtain⟨S2,n,o⟩:=c r S1 i;obtain⟨p,a⟩:=l.less n;exact⟨v,r,S2,rfl,o,bs.turn (fun k _ q=>a k q) _ _ j,p,m.weaken a⟩
def gQ(S:St)(b:Nat)(g:Nat->Nat)(n:Nat):St:=fun k=>if k=b then S k else if ∃i,i<n/\k=g i then S k else ab
def ji(S:St)(b:Nat)(g:Nat->Nat)(n:Nat):∀c X,gQ S b g n c=some X->S c=some X:=by
 intro c X h;unfold gQ at h;split at h
 .exact h
 .split at h
  .exact h
  .cases h
def dH.only(h:dH S b g n m A):dH (gQ S b g n) b g n m A/\Kg (gQ S b g n):=by
 refine⟨⟨?_,fun i k=>?_,h.inj⟩,fun c X f j l=>?_⟩
 .obtain⟨g',a,d⟩:=h.outer;exact⟨g',by simp[gQ,a],d⟩
 .obtain⟨g',a,d⟩:=h.row i k;refine⟨g',?_,d⟩;unfold gQ;split
  .exact a
  .rw[ai ⟨i,k,rfl⟩];exact a
 .unfold gQ at f;split at f
  .rename_i e;subst e;obtain⟨g',a,d⟩:=h.outer;rw[f]at a;cases a;show Av (g' j)=true;rw[d j l];rfl
  .split at f
   .rename_i e;obtain⟨i,k,rfl⟩:=e;obtain⟨g',a,d⟩:=h.row i k;rw[f]at a;cases a;show Av (g' j)=true;rw[d j l];rfl
   .cases f
def MF(f:Nat)(args:List AV)(n m:Nat)(A:Nat->Nat->Int):Prop:=∀S args',fI S args' args->cP f args' S (fun r S'=>∃b g,r=.sl 1 b 0 n/\iR S S' b g n m A)
def EK(f:Nat)(args:List AV)(n m:Nat)(A:Nat->Nat->Int):Prop:=∀S args',fI S args' args->cP f args' S (fun r S'=>∃b g,r=.tup [.sl 1 b 0 n,.bool true]/\iR S S' b g n m A)
def MF.of(h:cP f args St.none (fun r S'=>∃b g,r=.sl 1 b 0 n/\dH S' b g n m A)):MF f args n m A:=fun S args' c=>by
 have d:cP f args St.none (fun r S'=>∃b g,r=.sl 1 b 0 n/\dH S' b g n m A/\Kg S'):=h.less fun r S' ⟨b,g,e,a⟩=>⟨gQ S' b g n,ji S' b g n,b,g,e,a.only.1,a.only.2⟩;refine(d.frame c ?_).mono ?_
 .rintro r S1 ⟨b,g,rfl,_,i⟩;exact⟨rfl,i⟩
 .rintro r S' ⟨S1,⟨b,g,rfl,a,_⟩,j,rfl⟩;exact⟨b,g,rfl,a.join j⟩
def EK.of(h:cP f args St.none (fun r S'=>∃b g,r=.tup [.sl 1 b 0 n,.bool true]/\dH S' b g n m A)):EK f args n m A:=fun S args' c=>by
 have d:cP f args St.none (fun r S'=>∃b g,r=.tup [.sl 1 b 0 n,.bool true]/\dH S' b g n m A/\Kg S'):=h.less fun r S' ⟨b,g,e,a⟩=>⟨gQ S' b g n,ji S' b g n,b,g,e,a.only.1,a.only.2⟩;refine(d.frame c ?_).mono ?_
 .rintro r S1 ⟨b,g,rfl,_,i⟩;exact⟨rfl,i⟩
 .rintro r S' ⟨S1,⟨b,g,rfl,a,_⟩,j,rfl⟩;exact⟨b,g,rfl,a.join j⟩
def MF.pf(h:MF f args n m A):PF f args (aR n m A) :=
 PF.of_spec ((h St.none args (cS _ _)).mono fun _ _ ⟨_,_,e,h⟩=>e▸h.vr)
def EK.pf(h:EK f args n m A):PF f args (.tup [aR n m A,.bool true]) :=
 PF.of_spec ((h St.none args (cS _ _)).mono fun _ _ ⟨_,_,e,h⟩=>e▸VR.tup2 h.vr (VR.mf rfl))
def MF.congr(h:MF f args n m A)(a:∀i j,i<n->j<m->A i j=B i j):MF f args n m B:=fun S args' c=>(h S args' c).mono fun _ _ ⟨b,g,e,d⟩=>⟨b,g,e,d.congr a⟩
def Ej(n m:Nat)(a:n<=1000)(c:m<=1000):MF 102 [.int .i64 n,.int .i64 m] n m (fun _ _=>0):=MF.of ((AO _ n m a c).mono fun _ _ ⟨b,g,e,h⟩=>⟨b,g,e,h.1⟩)
def Of_mf(n m:Nat)(A:Nat->Nat->Int)(a:1<=n)(c:n<=16)(d:1<=m)(f:m<=16)(k:∀i j,i<n->j<m->qN (A i j)):MF 27 [az n m A] n m A:=MF.of ((Oi _ n m A a c d f k).mono fun _ _ ⟨b,g,e,h⟩=>⟨b,g,e,h.1⟩)
def fI.mat(h:dH S b g n m A){l r:List AV}(a:fI S l r):fI S (.sl 1 b 0 n::l) (aR n m A::r):=⟨h.vr.va,a⟩
def fI.same{r:List AV}(a:fI S l r):fI S (x::l) (x::r):=⟨VA.refl S x,a⟩
def fI.nil:fI S [] []:=trivial

def jd(S0 S:St)(b:Nat)(g:Nat->Nat)(n m:Nat)(A:Nat->Nat->Int):Prop:=eI S b g n m A/\ft S0 S/\S0 b=ab/\∀i,i<n->S0 (g i)=ab
def eI.outer_ne(h:eI S b g n m A){i:Nat}(a:i<n):b≠g i:=bM.ne h.outer (h.row i a) om
def eI.set(h:eI S b g n m A){i j:Nat}{z:Int}{g':Nat->AV}(k:i<n)(o:S (g i)=some ⟨2,1,m,g'⟩) :
  eI (S.upd (g i) ⟨2,1,m,bW g' j (.int .i64 z)⟩) b g n m (fu A i j z):=by
 refine⟨h.outer.upd (h.outer_ne k) _,fun a d=>?_,h.inj⟩;by_cases e:a=i
 .subst e;obtain⟨s,l,p⟩:=h.row a d;rw[o]at l;cases l;refine bM.here fun c q=>?_;have:=p c q;simp only[bW,fu]
  grind
 .have f:g a≠g i:=fun r=>e (h.inj a i d k r);refine((h.row a d).upd f _).congr fun c _=>?_;simp[fu,e]
def eI.congr(h:eI S b g n m A)(c:∀i j,i<n->j<m->A i j=B i j):eI S b g n m B :=
 ⟨h.outer,fun i a=>(h.row i a).congr fun j d=>by rw[c i j a d],h.inj⟩
def jd.congr(h:jd S0 S b g n m A)(a:∀i j,i<n->j<m->A i j=B i j):jd S0 S b g n m B:=⟨h.1.congr a,h.2⟩
def eI.join(a:∀b X,S b=some X->S1 b=ab){b:Nat}{g:Nat->Nat}{n m:Nat}{A:Nat->Nat->Int}(h:eI S1 b g n m A):jd S (S.join S1) b g n m A :=
 ⟨⟨(h.outer.join a).1,fun i c=>((h.row i c).join a).1,h.inj⟩,pq S S1,(h.outer.join a).2,fun i c=>((h.row i c).join a).2⟩
def eI.only(h:eI S b g n m A):eI (gQ S b g n) b g n m A/\Kg (gQ S b g n):=by
 refine⟨⟨?_,fun i k=>?_,h.inj⟩,fun c X f j l=>?_⟩
 .obtain⟨g',a,d⟩:=h.outer;exact⟨g',by simp[gQ,a],d⟩
 .obtain⟨g',a,d⟩:=h.row i k;refine⟨g',?_,d⟩;unfold gQ;split
  .exact a
  .rw[ai ⟨i,k,rfl⟩];exact a
 .unfold gQ at f;split at f
  .rename_i e;subst e;obtain⟨g',a,d⟩:=h.outer;rw[f]at a;cases a;show Av (g' j)=true;rw[d j l];rfl
  .split at f
   .rename_i e;obtain⟨i,k,rfl⟩:=e;obtain⟨g',a,d⟩:=h.row i k;rw[f]at a;cases a;show Av (g' j)=true;rw[d j l];rfl
   .cases f
def Si(f:Nat)(args:List AV)(n m:Nat)(A:Nat->Nat->Int):Prop:=∀S args',fI S args' args->cP f args' S (fun r S'=>∃b g,r=.sl 1 b 0 n/\jd S S' b g n m A)
def LX(f:Nat)(args:List AV)(n m:Nat)(A:Nat->Nat->Int):Prop:=∀S args',fI S args' args->cP f args' S (fun r S'=>∃b g,r=.tup [.sl 1 b 0 n,.bool true]/\jd S S' b g n m A)
def Si.of(h:cP f args St.none (fun r S'=>∃b g,r=.sl 1 b 0 n/\eI S' b g n m A)):Si f args n m A:=fun S args' c=>by
 have d:cP f args St.none (fun r S'=>∃b g,r=.sl 1 b 0 n/\eI S' b g n m A/\Kg S'):=h.less fun r S' ⟨b,g,e,a⟩=>⟨gQ S' b g n,ji S' b g n,b,g,e,a.only.1,a.only.2⟩;refine(d.frame c ?_).mono ?_
 .rintro r S1 ⟨b,g,rfl,_,i⟩;exact⟨rfl,i⟩
 .rintro r S' ⟨S1,⟨b,g,rfl,a,_⟩,j,rfl⟩;exact⟨b,g,rfl,a.join j⟩
def LX.of(h:cP f args St.none (fun r S'=>∃b g,r=.tup [.sl 1 b 0 n,.bool true]/\eI S' b g n m A)):LX f args n m A:=fun S args' c=>by
 have d:cP f args St.none (fun r S'=>∃b g,r=.tup [.sl 1 b 0 n,.bool true]/\eI S' b g n m A/\Kg S'):=h.less fun r S' ⟨b,g,e,a⟩=>⟨gQ S' b g n,ji S' b g n,b,g,e,a.only.1,a.only.2⟩;refine(d.frame c ?_).mono ?_
 .rintro r S1 ⟨b,g,rfl,_,i⟩;exact⟨rfl,i⟩
 .rintro r S' ⟨S1,⟨b,g,rfl,a,_⟩,j,rfl⟩;exact⟨b,g,rfl,a.join j⟩
def fI.imat(h:eI S b g n m A){l r:List AV}(a:fI S l r):fI S (.sl 1 b 0 n::l) (az n m A::r):=⟨h.vr.va,a⟩

def kD(i j:Nat):Int:=if i=j then 1 else 0
def rI(n:Nat)(p:1<=n)(q:n<=16):EK 111 [.int .i64 n] n n kD:=by
 refine EK.of ?_;refine i9 func111 ntmps111 results111 ?_;have s:¬((n:Int)<1):=om
 have t:¬((16:Int)<n):=om
 simp -dsimp only[*,go_sem];refine(Ej n n om om _ _ (cS _ _)).mono ?_;rintro r S1 ⟨b,g,rfl,e⟩;simp only[go_sem];refine aH (fun O S'=>∃k:Nat,k<=n/\O 4=.sl 1 b 0 n/\O 16=.int .i64 n/\O 17=.int .i64 k/\dH S' b g n n (fun i j=>if i<k then kD i j else 0)) (fun O S=>n-cj (O 17)) ?_ ?_
 .simp only[go_sem];exact⟨0,om,rfl,e.1.congr sm⟩
 .rintro O S ⟨k,u,v,f,h,d⟩;by_cases a:k<n
  .obtain⟨w,x,l⟩:=d.outer;obtain⟨y,m,z⟩:=d.row k a;have o:=l k a;simp -dsimp only[*,go_sem];refine bE 6 kr ?_
   simp only[*,go_sem,aP (om:k<1000000),cj]
   repeat refine an ?_
   refine⟨_,(gJ dc dc).pure',om,trivial,⟨k+1,om,rfl,(d.set a m).congr fun i c _ _=>?_⟩,om⟩
   simp only[fu,kD]
   grind
  .simp only[*,go_sem];exact⟨b,rfl,g,d.congr fun i j A B=>by rw[ai om]⟩
def nr(n m:Nat)(A:Nat->Nat->Int)(k:Nat)(l:1<=n)(o:n<=16)(p:1<=m)(q:m<=16)(s:∀i j,i<n->j<m->nb (A i j) k)(t:k<=8589934592):EK 100 [aR n m A] m n (fun i j=>A j i):=by
 refine EK.of ?_;refine i9 func100 ntmps100 results100 ?_;simp -dsimp only[go_sem];refine(mE n m A l o p q).call ?_;simp -dsimp only[go_sem];refine(Ej m n om om _ _ (cS _ _)).mono ?_;rintro r S1 ⟨b,g,rfl,u⟩;simp only[go_sem,aR,bB];refine aH (fun O S'=>∃k:Nat,k<=n/\O 0=aR n m A/\O 7=.sl 1 b 0 m/\O 22=.int .i64 n/\O 23=.int .i64 k/\dH S' b g m n (fun i j=>if j<k then A j i else 0)) (fun O S=>n-cj (O 23)) ?_ ?_
 .simp only[go_sem,aR,bB];exact⟨0,om,rfl,u.1.congr sm⟩
 .rintro O S ⟨k,t,v,w,e,f,d⟩;by_cases h:k<n
  .simp only[*,go_sem,aR,bB];refine aH (fun O S'=>∃j:Nat,j<=m/\O 0=aR n m A/\O 7=.sl 1 b 0 m/\O 8=.int .i64 k/\O 22=.int .i64 n/\O 23=.int .i64 k/\O 30=.int .i64 m/\O 31=.int .i64 j/\dH S' b g m n (fun i c=>if c<k∨(c=k/\i<j)then A c i else 0)) (fun O S=>m-cj (O 31)) ?_ ?_
   .simp only[*,go_sem,aR,bB];exact⟨0,om,rfl,d.congr sm⟩
   .rintro O S ⟨j,x,v,w,F,e,f,y,z,d⟩;by_cases a:j<m
    .obtain⟨G,H,B⟩:=d.outer;obtain⟨I,C,J⟩:=d.row j a;have D:=B j a;simp -dsimp only[*,go_sem,aR,bB];refine bE 13 kr ?_
     simp only[*,go_sem,aR,bB,aP (om:j<1000000),cj]
     repeat refine an ?_
     refine⟨_,(Fo (s k j h a) om).pure',om,trivial,⟨j+1,om,rfl,(d.set a C).congr fun i c _ _=>?_⟩,om⟩
     simp only[fu]
     grind
    .simp only[*,go_sem,aR,bB,aP (om:k<1000000),cj]
     refine⟨⟨k+1,om,rfl,d.congr fun i c E K=>?_⟩,om⟩
     grind
  .simp only[*,go_sem,aR,bB];exact⟨b,rfl,g,d.congr fun i j E x=>by rw[ai om]⟩

def FI(a:Nat):kD a=gU a:=by
 funext b;simp only[kD,gU];split<;>split<;>first|rfl|omega
def wl{a:Nat}(d:a<n)(e:b<n):gT Q n kD a b=Q a b:=by
 unfold gT;rw[FI,FI,Ga d,dr b e (fun i _ c=>by simp[gU,c])]
 simp[gU]
theorem JY:∀n,det n (vk kD)=1
 | 0=>rfl
 | n+1=>by
  rw[rU _ (fun i _=>by simp[vk,kD])]
  have e:(fun i j=>vk kD (i+1) (j+1))=vk kD:=by
   funext i j;simp only[vk,kD];split<;>split<;>first|rfl|omega
  rw[e,JY n];simp[vk,kD]
def qc(c:k<=n):det k (gT Q n kD)=det k Q:=cD fun a b d e=>wl om om
def TO.init{e:Nat}(f:Pd Q n)(m:1<=n)(o:∀i,i<n->Q i i<=2^e)(p:e*n<=d):TO Q n d 1 kD:=by
 have q:Pd (gT Q n kD) n:=⟨fun a b g h=>by rw[wl g h,wl h g];exact f.sym a b g h,fun k c=>by rw[qc c];exact f.pos k c⟩
 have s:e<=d:=bQ (tv e m) p;refine⟨ae _,m,⟨q,fun k c=>?_,by rw[JY];rfl,fun i l=>?_⟩,⟨fun r t j w=>om,fun r x t=>om⟩,qc (ae n)⟩
 .rw[qc c];have u:=f.det_le o k c;have v:((2:Int)^e)^k<=2^d:=by
   rw[<-Int.pow_mul];exact iT (bQ (aM e c) p)
  exact gL u v
 .rw[wl l l];exact gL (o i l) (iT om)

def dH.ext(h:dH S b g n m A)(a:ft S S'):dH S' b g n m A:=⟨a.has h.outer,fun i c=>a.has (h.row i c),h.inj⟩
def eI.ext(h:eI S b g n m A)(a:ft S S'):eI S' b g n m A:=⟨a.has h.outer,fun i c=>a.has (h.row i c),h.inj⟩
def fI.ints(h:jp S b n r){l l':List AV}(a:fI S l l'):fI S (.sl 2 b 0 n::l) (bB n r::l'):=⟨h.vr.va,a⟩
def fI.i64s(h:qr S b n r){l l':List AV}(a:fI S l l'):fI S (.sl 1 b 0 n::l) (aK n r::l'):=⟨h.vr.va,a⟩
def kg(m:Nat)(A B:Nat->Nat->Int)(i j:Nat):Int:=ay m fun k=>A i k*B k j
def TP(n m q:Nat)(A B:Nat->Nat->Int)(k:Nat)(w:1<=n)(x:n<=16)(t:1<=m)(u:m<=16)(y:1<=q)(z:q<=16)(C:∀i j,i<n->j<m->nb (A i j) k)(v:∀i j,i<m->j<q->nb (B i j) k)
  (T:k<=1000000000):EK 164 [aR n m A,aR m q B] n q (kg m A B):=by
 refine EK.of ?_;refine i9 func164 ntmps164 results164 ?_;simp -dsimp only[go_sem];refine(mE n m A w x t u).call ?_;simp -dsimp only[go_sem];refine(nr m q B k t u y z v om _ _ (cS _ _)).mono ?_;rintro r S1 ⟨bt,gt,rfl,D⟩;simp -dsimp only[go_sem,aR,bB,iV];refine(Ej n q om om _ _ (cS _ _)).mono ?_;rintro r S2 ⟨b,g,rfl,E⟩;simp only[go_sem];refine aH (fun O S'=>∃k:Nat,k<=n/\O 0=aR n m A/\O 9=.sl 1 bt 0 q/\O 11=.sl 1 b 0 n/\O 43=.int .i64 n/\O 44=.int .i64 k/\iR S1 S' b g n q (fun i j=>if i<k then kg m A B i j else 0)) (fun O S=>n-cj (O 44)) ?_ ?_
 .simp only[go_sem,aR,bB];exact⟨0,om,rfl,E.congr sm⟩
 .rintro O S ⟨i,F,G,H,o,p,s,e⟩;by_cases d:i<n
  .simp only[*,go_sem,aR,bB];refine aH (fun O S'=>∃j:Nat,j<=q/\O 0=aR n m A/\O 9=.sl 1 bt 0 q/\O 11=.sl 1 b 0 n/\O 12=.int .i64 i/\O 43=.int .i64 n/\O 44=.int .i64 i/\O 48=.int .i64 q/\O 49=.int .i64 j/\iR S1 S' b g n q (fun a c=>if a<i∨(a=i/\c<j)then kg m A B a c else 0)) (fun O S=>q-cj (O 49)) ?_ ?_
   .simp only[*,go_sem,aR,bB];exact⟨0,om,rfl,e.congr sm⟩
   .rintro O S ⟨j,I,G,H,o,J,p,s,K,L,e⟩;by_cases f:j<q
    .obtain⟨U,V,M⟩:=e.1.outer;obtain⟨W,N,X⟩:=e.1.row i d;have P:=M i d;have h:=D.1.ext e.2.1;obtain⟨Y,Z,Q⟩:=h.outer;have R:=Q j f;simp -dsimp only[*,go_sem,aR,bB];refine bE 14 kr ?_
     simp only[*,go_sem,aR,bB,aP (om:j<1000000),cj]
     repeat refine an ?_
     refine⟨_,(Tf m (A i) (fun c=>B c j) k (fun c l=>C i c d l) (fun c l=>v c j l f) om om).pureS (fI.same (fI.ints (h.row j f) fI.nil)),om,trivial,⟨j+1,om,rfl,(e.set d N).congr fun a c _ _=>?_⟩,om⟩
     simp only[fu,kg]
     grind
    .simp only[*,go_sem,aR,bB,aP (om:i<1000000),cj]
     refine⟨⟨i+1,om,rfl,e.congr fun a c ha l=>?_⟩,om⟩
     grind
  .simp only[*,go_sem,aR,bB];exact⟨b,rfl,g,e.1.congr fun i j F I=>by rw[ai om]⟩
def ku(n m q:Nat)(A B:Nat->Nat->Int)(k:Nat)(a:1<=n)(c:n<=16)(d:1<=m)(e:m<=16)(f:1<=q)(h:q<=16)(l:∀i j,i<n->j<m->nb (A i j) k)(o:∀i j,i<m->j<q->nb (B i j) k)
  (p:k<=1000000000):MF 101 [aR n m A,aR m q B] n q (kg m A B):=by
 refine MF.of ?_;refine i9 func101 ntmps101 results101 ?_;simp -dsimp only[go_sem];refine(TP n m q A B k a c d e f h l o p _ _ (cS _ _)).mono ?_;rintro r S1 ⟨b,g,rfl,s⟩;simp only[go_sem];exact⟨b,rfl,g,s.1⟩
def wG(n m:Nat)(A:Nat->Nat->Int)(I:1<=n)(J:n<=16)(K:1<=m)(L:m<=16)(M:∀i j,i<n->j<m->jk (A i j)):LX 46 [aR n m A] n m A:=by
 refine LX.of ?_;refine i9 func46 ntmps46 results46 ?_;simp -dsimp only[go_sem];refine(mE n m A I J K L).call ?_;simp -dsimp only[go_sem]
 repeat refine an ?_
 refine aF.intro fun b W=>?_;simp only[go_sem];refine aH (fun O S=>∃(k:Nat) (g:Nat->Nat),k<=n/\O 0=aR n m A/\O 5=.int .i64 m/\O 7=.sl 1 b 0 n/\O 23=.int .i64 n/\O 24=.int .i64 k /\
  bM S b 29 1 n (fun i=>if i<k then .sl 1 (g i) 0 m else .nil)/\(∀i,i<k->qr S (g i) m (A i))/\∀i j,i<k->j<k->g i=g j->i=j) (fun O S=>n-cj (O 24)) ?_ ?_
 .simp only[go_sem,aR,bB];exact⟨0,om,rfl,fun _=>0,bM.here fun i _=>by simp,fun i a=>om,fun i j a=>om⟩
 .rintro O S ⟨k,g,X,y,z,B,l,o,p,d,C⟩;by_cases f:k<n
  .simp -dsimp only[*,go_sem]
   repeat refine an ?_
   refine aF.intro fun c u=>?_;obtain⟨g',D,v⟩:=p;have q:b≠c:=by rintro rfl;rw[D]at u;cases u
   have h:∀i,i<k->g i≠c:=fun i a=>bM.fresh (d i a) u;simp only[*,go_sem,bW]
   repeat refine an ?_
   refine aH (fun O S'=>∃j:Nat,j<=m/\O 0=aR n m A/\O 5=.int .i64 m/\O 7=.sl 1 b 0 n/\O 8=.int .i64 k/\O 23=.int .i64 n/\O 24=.int .i64 k/\O 36=.int .i64 m/\O 37=.int .i64 j /\
    bM S' b 29 1 n (fun i=>if i<k then .sl 1 (g i) 0 m else if i=k then .sl 1 c 0 m else .nil)/\(∀i,i<k->qr S' (g i) m (A i))/\qr S' c m (fun t=>if t<j then A k t else 0)) (fun O S=>m-cj (O 37)) ?_ ?_
   .simp only[*,go_sem];refine⟨0,om,rfl,bM.here fun i a=>?_,fun i a=>((d i a).upd (bM.fresh (d i a) u) _).upd (aj (bM.ne (bM.of D) (d i a) om)) _,(bM.here fun _ _=>by simp).upd (aj q) _⟩
    have:=v i a
    grind [bW]
   .rintro O S' ⟨j,N,y,z,B,P,l,o,w,x,p,d,E⟩;by_cases r:j<m
    .obtain⟨Q,F,G⟩:=p;obtain⟨Y,R,T⟩:=E;have s:=G k f;simp only[cZ,aS,aQ]at s;simp -dsimp only[*,go_sem,aR,bB];refine(Cj (M k j f r)).call ?_;simp only[go_sem,y,z,B,P,l,o,w,x,r,f,aR,bB,F,s,R,aP (om:j<1000000),cj]
     repeat refine an ?_
     refine⟨⟨j+1,om,rfl,bM.upd ⟨Q,F,G⟩ q _,fun i a=>(d i a).upd (h i a) _,bM.here fun t H=>?_⟩,om⟩
     have:=T t H;simp only[bW]
     grind
    .simp only[*,go_sem,aP (om:k<1000000),cj]
     refine⟨⟨k+1,om,rfl,fun i=>if i=k then c else g i,p.congr fun i a=>?_,fun i a=>?_,fun i j a N e=>?_⟩,om⟩
     .grind
     .by_cases e:i=k
      .subst e;simp only[aQ];refine E.congr fun t H=>?_;have:t<j:=om
       simp[this]
      .simp only[e,aS];exact d i om
     .by_cases U:i=k<;>by_cases V:j=k<;>simp only[U,V,aQ,aS]at e ⊢
      .exact absurd e.symm (h j om)
      .exact absurd e (h i om)
      .exact C i j om om e
  .simp only[*,go_sem];obtain rfl:k=n:=om
   exact⟨b,rfl,g,p.congr fun i a=>by rw[ai a],d,C⟩

def yB(h:eJ w w.heap.size (.agg #[.bool false,v]) (n:Int)):∃A k c xs,v=.slice A k c/\k<=c/\cG w w.heap.size A k xs/\oW xs/\aZ xs=n/\k=nl n:=by
 obtain⟨neg,A,k,c,xs,e,a,b,d,g⟩:=h
 cases e
 have f:aZ xs=n:=by simp[sg]at g;omega
 exact⟨A,k,c,xs,rfl,a,b,d,f,by rw[aJ b d,f]⟩
def Dq{A:Option Addr}(a:k<=c)(b:cG w w.heap.size A k xs)(d:oW xs)(e:aZ xs=n):eJ w w.heap.size (.agg #[.bool false,.slice A k c]) (n:Int) :=
 ⟨false,A,k,c,xs,rfl,a,b,d,by rw[e];simp[sg]⟩
def Ji(h:nl n<=2147483648):PF 71 [.mag n] (.mag n):=by
 intro w vs _ a
 match vs,a with
 | [va],a =>
  simp only[aT,bs]at a;obtain⟨A,k,c,xs,rfl,b,d,o,f,p⟩:=yB a.1;refine(gI A k c w.heap.size xs w b om (ae _) d).mono ?_;rintro e w' ⟨A1,q,r,zs,rfl,g,i,j,l,m⟩;exact⟨_,rfl,by simp only[bs];exact Dq g i j (l.trans f),dz.below m⟩
 | [],a=>simp[aT]at a
 | _::_::_,a=>simp[aT]at a
def Lf{a:Nat}(F:nl a<=16777216)(G:nl b<=16777216)(H:0<b):PF 189 [.mag a,.mag b] (.tup [.mag (a/b),.mag (a%b)]):=by
 intro w vs _ f
 match vs,f with
 | [va,vb],f =>
  simp only[aT,bs]at f;obtain⟨A,k,c,xs,rfl,l,n,I,j,J⟩:=yB f.1;obtain⟨B,m,d,ys,rfl,o,h,i,g,K⟩:=yB f.2.1;refine(Ir A B k m c d w.heap.size xs ys w om om (ae _) n h i om).mono ?_;rintro e w' ⟨A1,p,q,zs,D1,r,s,us,rfl,t,u,v,x,y,z,C,D,E⟩;exact⟨_,rfl,by simp only[bs];exact⟨[.slice A1 p q,.slice D1 r s],rfl,by simp only[aT,bs];exact⟨Dq t v y (by rw[C,j,g]),Dq u x z (by rw[D,j,g]),trivial⟩⟩,dz.below E⟩
 | [],f=>simp[aT]at f
 | [_],f=>simp[aT]at f
 | _::_::_::_,f=>simp[aT]at f
def DF{z:Int}(h:nl n<=2147483648)(f:∀s,p s->sg s n=z):PF 103 [.bset p,.mag n] (.big z):=by
 intro w vs _ a
 match vs,a with
 | [va,vb],a =>
  simp only[aT,bs]at a;obtain⟨⟨s,rfl,g⟩,a,_⟩:=a;obtain⟨A,k,c,xs,rfl,b,i,m,j,o⟩:=yB a;refine(lK s A k c w.heap.size xs w b om (ae _) i).mono ?_;rintro e w' ⟨v,rfl,d,l⟩;exact⟨v,rfl,by rw[j,f s g]at d;simpa [bs]using d,dz.below l⟩
 | [],a=>simp[aT]at a
 | [_],a=>simp[aT]at a
 | _::_::_::_,a=>simp[aT]at a
def Ng(h:nl n<=2147483648):PF 103 [.bool s,.mag n] (.big (sg s n)):=by
 intro w vs b a;refine DF (p:=fun t=>t=s) (z:=sg s n) h (fun t c=>by rw[c]) w vs b ?_
 match vs,a with
 | [va,vb],a=>simp only[aT,bs]at a ⊢;exact⟨⟨s,a.1,rfl⟩,a.2⟩
 | [],a=>simp[aT]at a
 | [_],a=>simp[aT]at a
 | _::_::_::_,a=>simp[aT]at a
def px{b q r:Int}(h:a=b*q+r)(c:0<=r)(f:r<b.natAbs):a/b=q/\a%b=r:=by
 rcases qF 0 b with d|d
 .exact(o6 d).2 ⟨by rw[Sh];exact h.symm,c,om⟩
 .have e:=(o6 (a:=a) (b:=-b) (r:=r) (q:=-q) om).2 ⟨by rw[pL,Sh];exact h.symm,c,om⟩
  rw[EO,Se]at e;exact⟨om,e.2⟩
def Pk{b:Int}(c:sg s a.natAbs=a):sg s (a.natAbs%b.natAbs)=a.tmod b:=by
 rcases Int.natAbs_eq b with e|e<;>cases s<;>simp only[sg,aQ,bJ,aS]at c ⊢
 .rw[<-c,e];simp[fN];exact(aL om).symm
 .rw[<-c,e];simp[Sd];exact(aL om).symm
 .rw[<-c,e];simp[Int.tmod_neg];exact(aL om).symm
 .rw[<-c,e];simp[Sd,Int.tmod_neg];exact(aL om).symm
def Pl{t:Bool}{b:Int}(c:sg s a.natAbs=a)(d:sg t b.natAbs=b):sg (s != t) (a.natAbs/b.natAbs)=a.tdiv b:=by
 cases s<;>cases t<;>simp only[sg,aQ,bJ,aS,aY,Bool.false_bne,Bool.true_bne,qS]at c d ⊢
 .rw[<-c,<-d];simp
 .rw[<-c,<-d];simp[Int.tdiv_neg]
 .rw[<-c,<-d];simp[Int.neg_tdiv]
 .rw[<-c,<-d];simp[Int.neg_tdiv,Int.tdiv_neg]
def tH{b:Int}(h:b≠0):(a.tmod b).natAbs<b.natAbs:=by
 rw[Vd];exact dj _ om
def zL{b:Int}(v:nb a k)(w:nb b k)(U:k<=536870912)(L:b≠0):PF 127 [.big a,.big b] (.tup [.big (a/b),.big (a%b),.bool true]):=by
 have la:nl a.natAbs<=16777216:=v.nl om;have lb:nl b.natAbs<=16777216:=w.nl om;have M:0<b.natAbs:=om
 have o:((nl b.natAbs:Int)==0)=false:=by
  have H:nl b.natAbs≠0:=fun h=>by
   have:=jS.1 (om:nl b.natAbs<=0)
   simp at this;omega
  simp;omega
 refine iH func127 ntmps127 results127 ?_;simp -dsimp only[go_sem];refine aF.intro fun V W=>?_
 try simp -dsimp only[go_sem]
 refine aF.intro fun X N=>?_
 try simp -dsimp only[go_sem]
 refine aF.intro fun Y I=>?_
 try simp -dsimp only[go_sem]
 refine aF.intro fun Z z=>?_
 try simp -dsimp only[go_sem]
 have p:=(ag N).1;have t:=(ag (ag I).2).1;have j:=(ag I).1;have u:=(ag (ag (ag z).2).2).1;have l:=(ag (ag z).2).1;have d:=(ag z).1;refine bE 8 kr ?_
 simp -dsimp only[go_sem,nn d,aj p,aj t,aj j,aj u,aj l];refine⟨_,(Ji om).pure',_,(Ji om).pure',?_⟩;simp -dsimp only[go_sem,o];refine(Lf la lb M).call ?_;simp -dsimp only[go_sem,o];refine bE 13 kr ?_
 simp -dsimp only[go_sem,aj p,aj t,aj j,aj u,aj l];refine⟨.big (a.tdiv b),(DF (bQ (fT (gK a.natAbs b.natAbs)) om) (fun s A=>by obtain⟨x,H,y,O,rfl⟩:=A;exact Pl H O)).pure',.big (a.tmod b),(DF (bQ (fT (UK a.natAbs b.natAbs)) om) (fun s A=>Pk A)).pure',?_⟩
 refine aF.intro fun P f=>?_
 try simp -dsimp only[go_sem]
 refine aF.intro fun Q c=>?_;have B:=(ag f).1;have C:=(ag (ag f).2).1;have R:=(ag (ag (ag f).2).2).1;have p2:=(ag (ag (ag (ag f).2).2).2).1;have qp:=(ag c).1;have D:=(ag (ag c).2).1;have E:=(ag (ag (ag c).2).2).1;have S:=(ag (ag (ag (ag c).2).2).2).1;have q2:=(ag (ag (ag (ag (ag c).2).2).2).2).1;have J:nb (a.tdiv b) k:=nb.of_le (by rw[Int.natAbs_tdiv];exact gK _ _) v
 have K:nb (a.tmod b) k:=nb.of_le (by rw[Vd];exact UK _ _) v
 have e:=xV a b;have T:=tH (a:=a) L;simp -dsimp only[go_sem,nn qp];refine(jR K om).call ?_;by_cases g:a.tmod b<0
 .have m:(a.tmod b).sign<0:=by rw[eP g];decide
  simp -dsimp only[go_sem,bW,m];have F:nb (b.natAbs:Int) k:=nb.of_le sm w
  refine bE 4 kr ?_
  simp -dsimp only[go_sem,aj j,aj l,aj R,aj S,bW];refine⟨.big (b.natAbs:Int),(Ng (s:=false) om).pure',.big (a.tmod b+(b.natAbs:Int)),(tP K F om).pure',?_⟩;simp -dsimp only[go_sem];refine(jR w om).call ?_;by_cases G:b<0
  .have n:b.sign<0:=by rw[eP G];decide
   simp -dsimp only[go_sem,n];refine fH 4 [[3]] kr ?_
   simp -dsimp only[go_sem,nn d,nn E,nn D,aj C,aj B,aj qp,bW];refine⟨.big 1,(gJ dc dc).pure',.big (a.tdiv b+1),(tP (k:=k+1) (J.mono om) (nb.one om) om).pure',?_⟩
   simp -dsimp only[go_sem];have i:=px (a:=a) (b:=b) (q:=a.tdiv b+1) (r:=a.tmod b+(b.natAbs:Int)) (by
    rw[IX,sf];omega) om om
   rw[i.1,i.2];exact VR.tup (by simp[pI])
  .have n:¬b.sign<0:=by rw[dl (om:0<b)];decide
   simp -dsimp only[go_sem,n];refine fH 4 [[3]] kr ?_
   simp -dsimp only[go_sem,nn d,nn E,nn D,aj C,aj B,aj qp,bW];refine⟨.big 1,(gJ dc dc).pure',.big (a.tdiv b-1),(tL (k:=k+1) (J.mono om) (nb.one om) om).pure',?_⟩
   simp -dsimp only[go_sem];have i:=px (a:=a) (b:=b) (q:=a.tdiv b-1) (r:=a.tmod b+(b.natAbs:Int)) (by
    rw[se,sf];omega) om om
   rw[i.1,i.2];exact VR.tup (by simp[pI])
 .have m:¬(a.tmod b).sign<0:=by
   rcases fF (a.tmod b) 0 with h|h|h
   .exact absurd h g
   .rw[h];decide
   .rw[dl h];decide
  simp -dsimp only[go_sem,bW,m];refine fH 2 [[1]] kr ?_
  simp -dsimp only[go_sem,nn d,nn E,nn D,aj C,aj B,aj qp,bW];have i:=px (a:=a) (b:=b) (q:=a.tdiv b) (r:=a.tmod b) om om om;rw[i.1,i.2];exact VR.tup (by simp[pI])

def oi{b:Int}(f:nb a k)(g:nb b k)(h:k<=536870912)(i:b≠0):PF 65 [.big a,.big b] (.big (a/b)):=by
 refine iH func65 ntmps65 results65 ?_;simp -dsimp only[go_sem];refine aF.intro fun l m=>?_
 try simp -dsimp only[go_sem]
 refine aF.intro fun n j=>?_;have n3_2:=(ag j).1
 try simp -dsimp only[go_sem]
 refine aF.intro fun o e=>?_;have n4_3:=(ag e).1;have n4_2:=(ag (ag e).2).1;simp -dsimp only[go_sem,aj n3_2,aj n4_2,aj n4_3];refine(zL f g h i).call ?_;simp -dsimp only[go_sem];refine aF.intro fun p d=>?_;have n5_4:=(ag d).1;have n5_3:=(ag (ag d).2).1;have n5_2:=(ag (ag (ag d).2).2).1
 try simp -dsimp only[go_sem]
 refine aF.intro fun q c=>?_;have n6_5:=(ag c).1;have n6_4:=(ag (ag c).2).1;have n6_3:=(ag (ag (ag c).2).2).1;have n6_2:=(ag (ag (ag (ag c).2).2).2).1;simp only[go_sem,nn n6_5,aj n5_4,aj n6_4,bW];exact VR.mf rfl
def Pn{b:Int}(f:nb a k)(g:nb b k)(h:k<=536870912)(i:b≠0):PF 147 [.big a,.big b] (.big (a%b)):=by
 refine iH func147 ntmps147 results147 ?_;simp -dsimp only[go_sem];refine aF.intro fun l m=>?_
 try simp -dsimp only[go_sem]
 refine aF.intro fun n j=>?_;have n3_2:=(ag j).1
 try simp -dsimp only[go_sem]
 refine aF.intro fun o e=>?_;have n4_3:=(ag e).1;have n4_2:=(ag (ag e).2).1;simp -dsimp only[go_sem,aj n3_2,aj n4_2,aj n4_3];refine(zL f g h i).call ?_;simp -dsimp only[go_sem];refine aF.intro fun p d=>?_;have n5_4:=(ag d).1;have n5_3:=(ag (ag d).2).1;have n5_2:=(ag (ag (ag d).2).2).1
 try simp -dsimp only[go_sem]
 refine aF.intro fun q c=>?_;have n6_5:=(ag c).1;have n6_4:=(ag (ag c).2).1;have n6_3:=(ag (ag (ag c).2).2).1;have n6_2:=(ag (ag (ag (ag c).2).2).2).1;simp only[go_sem,nn n6_5,aj n5_4,aj n6_4,bW];exact VR.mf rfl
def ed.get(h:ed S b ty es z):∃g,S b=some ⟨ty,es,1,g⟩/\g 0=z:=h
def z0{b:Int}(h:b≠0):(a%b).natAbs<b.natAbs:=by
 have c:=aW a h;have d:=UC a h;omega
def Pj(h:a≠0):(a.sign != 0)=true:=by
 simp only[bne_iff_ne,EG];rw[lS];exact h
def NC{b:Int}:mN a b=mN b (a%b):=by
 have c:a%b=a+b*(-(a/b)):=by rw[Sf];grind
 rw[Int.gcd_comm b,c,Int.gcd_add_mul_left_left]
def Pp{b:Int}(u:nb a k)(v:nb b k)(C:k<=536870912):PF 262 [.big a,.big b] (.big (mN a b)):=by
 refine iH func262 ntmps262 results262 ?_;simp -dsimp only[go_sem];refine aF.intro fun I J=>?_
 try simp -dsimp only[go_sem]
 refine aF.intro fun K D=>?_;have n3_2:=(ag D).1
 try simp -dsimp only[go_sem]
 refine aF.intro fun w z=>?_;have n4_3:=(ag z).1;have n4_2:=(ag (ag z).2).1;simp -dsimp only[go_sem];refine bE 6 kr ?_
 simp -dsimp only[go_sem,aj n3_2,aj n4_2,aj n4_3];refine⟨_,(tQ u om).pure',_,(tQ v om).pure',?_⟩;refine aF.intro fun A h=>?_;have n5_4:=(ag h).1;have n5_3:=(ag (ag h).2).1;have n5_2:=(ag (ag (ag h).2).2).1
 try simp -dsimp only[go_sem]
 refine aF.intro fun i f=>?_;have n6_5:=(ag f).1;have n6_4:=(ag (ag f).2).1;have n6_3:=(ag (ag (ag f).2).2).1;have n6_2:=(ag (ag (ag (ag f).2).2).2).1;simp only[go_sem,nn n6_5];refine aH (fun O S=>∃x y:Int,nb x k/\nb y k/\0<=x/\0<=y/\mN x y=mN a b/\O 4=.ptr 2 w 0/\O 5=.ptr 2 A 0/\O 6=.ptr 2 i 0/\ed S w 50 2 (.big 0)/\ed S A 50 2 (.big x)/\ed S i 50 2 (.big y)) (fun O S=>match S i with|some X=>(match X.g 0 with|.big y=>y.natAbs|_=>0)|ab=>0) ?_ ?_
 .simp only[go_sem];exact⟨a.natAbs,nb.of_le sm u,b.natAbs,nb.of_le sm v,om,om,by simp[mN],((((ed.new rfl).upd (aj n5_4) _).upd (aj n6_4) _).upd (aj n5_4) _).upd (aj n6_4) _,ed.set.upd (aj n6_5) _,ed.set⟩
 .rintro O S ⟨x,y,E,d,L,F,B,j,l,m,V4,V5,V6⟩;obtain⟨G,n,H⟩:=V4;obtain⟨M,o,p⟩:=V5;obtain⟨N,q,e⟩:=V6;by_cases c:y=0
  .simp -dsimp only[go_sem,m,q,e];refine(jR d om).call ?_;simp only[go_sem,j,l,n,o,p,e,c,sK,bW];have r:((mN a b:Nat):Int)=x:=by rw[<-B,c,Int.gcd_zero];omega
   rw[r];exact VR.mf rfl
  .simp -dsimp only[go_sem,m,q,e];refine(jR d om).call ?_;simp -dsimp only[go_sem,j,l,n,o,p,e,Pj c,bW];refine bE 4 kr ?_
   simp only[go_sem,j,l,m,o,q,p,e,n6_5,bW];refine⟨_,(Pn E d C c).pure',?_⟩;simp only[go_sem];have s:=z0 (a:=x) c;have t:=aW x c;exact⟨⟨y,d,x%y,nb.of_le om d,F,t,by rw[<-NC];exact B,(ed.upd ⟨G,n,H⟩ (aj n5_4) _).upd (aj n6_4) _,ed.set.upd (aj n6_5) _,ed.set⟩,s⟩

def da(e es:Nat)(S0 S:St)(x:AV)(j:Nat)(g:Nat->AV):Prop:=ft S0 S/\((j=0/\x=.nil)∨∃c,S0 c=ab/\x=.sl es c 0 j/\bM S c e es j g)
def eh(x:AV)(d:Nat):Prop:=∃es off len,x=.sl es d off len
def da.nil{e:Nat}(h:ft S0 S)(g:Nat->AV):da e es S0 S .nil 0 g:=⟨h,bF ⟨rfl,rfl⟩⟩
def da.congr{e:Nat}{g:Nat->AV}(h:da e es S0 S x j g)(a:∀i,i<j->g i=g' i):da e es S0 S x j g':=by
 refine⟨h.1,h.2.imp id ?_⟩;rintro⟨c,b,d,f⟩;exact⟨c,b,d,f.congr a⟩
def da.step{e:Nat}{g:Nat->AV}(h:da e es S0 S x j g)(b:ft S0 S')(f:∀d,eh x d->S' d=S d):da e es S0 S' x j g:=by
 refine⟨b,h.2.imp id ?_⟩;rintro⟨c,i,a,g',k,l⟩;exact⟨c,i,a,g',by rw[f c ⟨_,_,_,a⟩];exact k,l⟩
def da.upd{e:Nat}{g:Nat->AV}(h:da e es S0 S x j g){b:Nat}(a:S0 b=ab)(c:∀d,eh x d->d≠b)(X:eS):da e es S0 (S.upd b X) x j g :=
 h.step (h.1.upd a X) (fun d f=>aO (c d f))
def da.fresh{e:Nat}{g:Nat->AV}(h:da e es S0 S x j g){b:Nat}(i:S b=ab):∀d,eh x d->d≠b:=by
 rintro d ⟨es',off,len,a⟩ rfl;rcases h.2 with⟨_,f⟩|⟨c,_,f,k⟩
 .rw[f]at a;cases a
 .rw[f]at a;cases a;exact bM.fresh k i rfl
def da.app{t e:Nat}{v:AV}{g:Nat->AV}(I:dJ t=some e)(J:(gG e).isSome=true)(u:es=bZ e)(h:da e es S0 S x j g)(O:j<1000000)(L:eF es v)
  (M:(∃h,y=.lst es 1 h/\h 0=v)∨∃b gb ty,y=.sl es b 0 1/\S b=some ⟨ty,es,1,gb⟩/\gb 0=v/\¬eh x b)
  (G:∀c S',da e es S0 S' (.sl es c 0 (j+1)) (j+1) (fun i=>if i=j then v else g i)->(∀d X,S d=some X->¬eh x d->S' d=some X)->(eh x c∨S c=ab)->K (.sl es c 0 (j+1)) S'):fU t t x y S K:=by
 unfold fU;rw[I];refine⟨rfl,J,?_⟩;have l:∃w o,Bx S y=some (es,1,w,o)/\w 0=v/\(∀d,eh x d->o≠some d):=by
  rcases M with⟨h,rfl,N⟩|⟨b,gb,ty,rfl,z,m,A⟩
  .exact⟨_,_,rfl,N,fun d _=>by simp⟩
  .refine⟨fun j=>gb (0+j),some b,by simp[Bx,z],m,fun d f e=>?_⟩
   cases e;exact A f
 obtain⟨w,o,z,m,A⟩:=l;rw[z];refine⟨u,om,fun i H=>by rw[(om:i=0),m];exact L,?_⟩
 rcases h.2 with⟨rfl,rfl⟩|⟨c,n,rfl,g',B,C⟩
 .refine⟨om,fun b r=>G _ _ ⟨h.1.upd (h.1.none r) _,bH ⟨b,h.1.none r,rfl,bM.here fun i H=>?_⟩⟩ (fun d X f _=>?_) (bH r)⟩
  .obtain rfl:i=0:=om
   simp[m]
  .rw[aO];exact f;rintro rfl;rw[r]at f;cases f
 .simp only[B];refine⟨trivial,trivial,trivial,trivial,trivial,om,A c ⟨_,_,_,rfl⟩,fun b' a=>G _ _ ⟨?_,bH ⟨b',?_,rfl,bM.here fun i H=>?_⟩⟩ (fun d X f D=>?_) ?_⟩
  .intro k X s;have p:k≠c:=by rintro rfl;rw[n]at s;cases s
   have E:k≠b':=by
    rintro rfl;rcases a with rfl|a
    .exact p rfl
    .rw[h.1 k X s]at a;cases a
   rw[aO E];simp only[St.del];rw[af p];exact h.1 k X s
  .rcases a with rfl|a
   .exact n
   .exact h.1.none a
  .by_cases e:i=j
   .subst e;rw[yM (ae _) om,ct,m,ai rfl]
   .rw[D9 om,af e];exact C i om
  .have q:d≠c:=fun e=>D (by rw[e];exact⟨_,_,_,rfl⟩)
   have F:d≠b':=by
    rintro rfl;rcases a with rfl|a
    .exact q rfl
    .rw[f]at a;cases a
   rw[aO F];simp only[St.del];rw[af q];exact f
  .rcases a with rfl|a
   .exact bF ⟨_,_,_,rfl⟩
   .exact bH a
def da.app50{v:AV}{g:Nat->AV}(h:da 50 2 S0 S x j g)(a:j<1000000)(e:eF 2 v)(f:(∃h,y=.lst 2 1 h/\h 0=v)∨∃b gb ty,y=.sl 2 b 0 1/\S b=some ⟨ty,2,1,gb⟩/\gb 0=v/\¬eh x b)
  (k:∀c S',da 50 2 S0 S' (.sl 2 c 0 (j+1)) (j+1) (fun i=>if i=j then v else g i)->(∀d X,S d=some X->¬eh x d->S' d=some X)->(eh x c∨S c=ab)->K (.sl 2 c 0 (j+1)) S'):fU 59 59 x y S K:=da.app rfl rfl rfl h a e f k
def da.app2{v:AV}{g:Nat->AV}(h:da 2 1 S0 S x j g)(a:j<1000000)(e:eF 1 v)(f:(∃h,y=.lst 1 1 h/\h 0=v)∨∃b gb ty,y=.sl 1 b 0 1/\S b=some ⟨ty,1,1,gb⟩/\gb 0=v/\¬eh x b)
  (k:∀c S',da 2 1 S0 S' (.sl 1 c 0 (j+1)) (j+1) (fun i=>if i=j then v else g i)->(∀d X,S d=some X->¬eh x d->S' d=some X)->(eh x c∨S c=ab)->K (.sl 1 c 0 (j+1)) S'):fU 29 29 x y S K:=da.app rfl rfl rfl h a e f k
def da.app3{v:AV}{g:Nat->AV}(h:da 3 1 S0 S x j g)(a:j<1000000)(e:eF 1 v)(f:(∃h,y=.lst 1 1 h/\h 0=v)∨∃b gb ty,y=.sl 1 b 0 1/\S b=some ⟨ty,1,1,gb⟩/\gb 0=v/\¬eh x b)
  (k:∀c S',da 3 1 S0 S' (.sl 1 c 0 (j+1)) (j+1) (fun i=>if i=j then v else g i)->(∀d X,S d=some X->¬eh x d->S' d=some X)->(eh x c∨S c=ab)->K (.sl 1 c 0 (j+1)) S'):fU 146 146 x y S K:=da.app rfl rfl rfl h a e f k
def da.app59{v:AV}{g:Nat->AV}(h:da 59 1 S0 S x j g)(a:j<1000000)(e:eF 1 v)(f:(∃h,y=.lst 1 1 h/\h 0=v)∨∃b gb ty,y=.sl 1 b 0 1/\S b=some ⟨ty,1,1,gb⟩/\gb 0=v/\¬eh x b)
  (k:∀c S',da 59 1 S0 S' (.sl 1 c 0 (j+1)) (j+1) (fun i=>if i=j then v else g i)->(∀d X,S d=some X->¬eh x d->S' d=some X)->(eh x c∨S c=ab)->K (.sl 1 c 0 (j+1)) S'):fU 52 52 x y S K:=da.app rfl rfl rfl h a e f k
def da.app29{v:AV}{g:Nat->AV}(h:da 29 1 S0 S x j g)(a:j<1000000)(e:eF 1 v)(f:(∃h,y=.lst 1 1 h/\h 0=v)∨∃b gb ty,y=.sl 1 b 0 1/\S b=some ⟨ty,1,1,gb⟩/\gb 0=v/\¬eh x b)
  (k:∀c S',da 29 1 S0 S' (.sl 1 c 0 (j+1)) (j+1) (fun i=>if i=j then v else g i)->(∀d X,S d=some X->¬eh x d->S' d=some X)->(eh x c∨S c=ab)->K (.sl 1 c 0 (j+1)) S'):fU 28 28 x y S K:=da.app rfl rfl rfl h a e f k
def da.other{e:Nat}{g:Nat->AV}(h:da e es S0 S x j g){b ty es' n:Nat}{g':Nat->AV}(f:S b=some ⟨ty,es',n,g'⟩)(i:ty≠e):¬eh x b:=by
 rintro⟨_,_,_,a⟩;rcases h.2 with⟨_,d⟩|⟨c,_,d,k⟩
 .rw[d]at a;cases a
 .rw[d]at a;cases a;exact bM.ne k (bM.of f) (aj i) rfl
def bM.via{g:Nat->AV}(h:bM S b ty es n g)(a:∀X,S b=some X->S' b=some X):bM S' b ty es n g:=by
 obtain⟨g',c,d⟩:=h;exact⟨g',a _ c,d⟩
def ep{off len:Nat}:eh (.sl es b off len) d↔d=b:=⟨fun⟨_,_,_,e⟩=>by cases e;rfl,fun e=>by rw[e];exact⟨_,_,_,rfl⟩⟩
def yT(n m:Nat)(A:Nat->Nat->Int)(k:Nat)(h2:n<=1000)(h3:1<=m)(h4:m<=1000)(Q:∀i j,i<n->j<m->nb (A i j) k)(R:k<=8589934592):MF 63 [aR n m A] n m A:=by
 refine MF.of ?_;refine i9 func63 ntmps63 results63 ?_;simp -dsimp only[go_sem,aR,bB]
 repeat refine an ?_
 refine aF.intro fun l f3=>?_;simp only[go_sem];refine aH (fun O S=>∃(i:Nat) (g:Nat->Nat),i<=n/\O 0=aR n m A/\O 3=.sl 1 l 0 n/\O 11=.int .i64 n/\O 12=.int .i64 i /\
  bM S l 59 1 n (fun a=>if a<i then .sl 2 (g a) 0 m else .nil)/\(∀a,a<i->jp S (g a) m (A a))/\∀a c,a<i->c<i->g a=g c->a=c) (fun O S=>n-cj (O 12)) ?_ ?_
 .simp only[go_sem,aR,bB];exact⟨0,om,rfl,fun _=>0,bM.here fun _ _=>by simp,fun a b=>om,fun a c b=>om⟩
 .rintro O S ⟨i,g,hi,T,L,B,C,s,q,U⟩;by_cases o:i<n
  .simp only[*,go_sem,aR,bB];refine aH (fun O S'=>∃(j:Nat) (x:AV),j<=m/\O 0=aR n m A/\O 3=.sl 1 l 0 n/\O 4=.int .i64 i/\O 11=.int .i64 n/\O 12=.int .i64 i/\O 18=bB m (A i)/\O 19=.int .i64 m/\O 20=.int .i64 j /\
    bM S' l 59 1 n (fun a=>if a<i then .sl 2 (g a) 0 m else if a=i then x else .nil)/\(∀a,a<i->jp S' (g a) m (A a)/\¬eh x (g a))/\da 50 2 St.none S' x j (fun c=>.big (A i c))) (fun O S=>m-cj (O 20)) ?_ ?_
   .simp only[*,go_sem,aR,bB];exact⟨0,om,rfl,.nil,s.congr fun a _=>by grind,fun a b=>⟨q a b,by rintro⟨_,_,_,e⟩;cases e⟩,da.nil (fun k X h=>by cases h) _⟩
   .rintro O S' ⟨j,x,hj,T,L,V,B,C,W,Y,Z,s,q,r⟩;by_cases D:j<m
    .simp -dsimp only[*,go_sem,aR,bB];refine aF.intro fun E F=>?_;obtain⟨g1,t,M⟩:=s;have G:g1 i=x:=by rw[M i o];simp
     have p:l≠E:=bM.fresh (bM.of t) F;simp -dsimp only[go_sem];refine g9 9 kr ?_
     simp -dsimp only[go_sem,L,V,o,p,t,G,bW]
     repeat refine an ?_
     refine⟨_,(Fo (Q i j o D) R).pure',?_⟩;simp -dsimp only[go_sem];have u:∀d,eh x d->d≠E:=r.fresh F;have H:=r.other t om;refine da.app50 ((r.upd (by rfl) u _).upd (by rfl) u _) om (show eF 2 (.big (A i j))from trivial) (bF ⟨_,rfl,rfl⟩) ?_
     intro c S2 v w y;have I:=w l _ (by rw[aO p,aO p];exact t) H
     simp only[*,go_sem,aR,bB,aP (om:j<1000000),cj]
     repeat refine an ?_
     refine⟨⟨j+1,om,rfl,.sl 2 c 0 (j+1),bM.here fun a b=>?_,fun a b=>?_,?_⟩,om⟩
     .have:=M a b;grind [bW]
     .obtain⟨z,N⟩:=q a b;have f:g a≠E:=bM.fresh z F;have J:g a≠l:=bM.ne z (bM.of t) om;refine⟨(z.via fun X r=>w _ _ (by rw[aO f,aO f];exact r) N).upd J _,fun P=>?_⟩
      rw[ep]at P;rw[<-P]at y;rcases y with h|h
      .exact N h
      .rw[aO f,aO f]at h;exact bM.fresh z h rfl
     .refine(v.upd (by rfl) (fun d K e=>?_) _).congr (fun a b=>by grind)
      rw[e]at K;exact v.other I om K
    .simp only[*,go_sem,aR,bB,aP (om:i<1000000),cj]
     obtain rfl:j=m:=om
     rcases r.2 with⟨h0,_⟩|⟨c,_,rfl,hC⟩
     .omega
     refine⟨⟨i+1,om,rfl,fun a=>if a=i then c else g a,s.congr fun a b=>by grind,fun a b=>?_,fun a d b K e=>?_⟩,om⟩
     .by_cases e:a=i
      .subst e;simp only[aQ];exact hC
      .simp only[e,aS];exact(q a om).1
     .have k1:=fun a b=>(q a b).2;simp only[ep]at k1
      grind
  .simp only[*,go_sem,aR,bB];obtain rfl:i=n:=om
   exact⟨l,rfl,g,s.congr fun a b=>by simp[b],q,U⟩

def ft.noneS(S:St):ft St.none S:=fun k X h=>by cases h
def CN(n m p q:Nat)(A:Nat->Nat->Int)(ρ γ:Nat->Nat)(v:1<=p)(E:p<=1000)(h3:1<=q)(h4:q<=1000)(hρ:∀i,i<p->ρ i<n)(hγ:∀i,i<q->γ i<m):MF 143 [aR n m A,aK p (fun i=>ρ i),aK q (fun i=>γ i)] p q (fun i j=>A (ρ i) (γ j)):=by
 refine MF.of ?_;refine i9 func143 ntmps143 results143 ?_;simp only[go_sem,aR,bB,aK];refine aH (fun O S=>∃(i:Nat) (x:AV) (g:Nat->Nat),i<=p/\O 0=aR n m A/\O 2=aK q (fun i=>γ i)/\O 7=x/\O 13=aK p (fun i=>ρ i)/\O 14=.int .i64 p/\O 15=.int .i64 i /\
  da 59 1 St.none S x i (fun a=>.sl 2 (g a) 0 q)/\(∀a,a<i->jp S (g a) q (fun j=>A (ρ a) (γ j)))/\∀a c,a<i->c<i->g a=g c->a=c) (fun O S=>p-cj (O 15)) ?_ ?_
 .simp only[go_sem,aR,bB,aK];exact⟨0,om,rfl,fun _=>0,da.nil (ft.noneS _) _,fun a f=>om,fun a c f=>om⟩
 .rintro O S ⟨i,x,g,hi,Z,L,M,r,s,t,b,w,hI⟩;by_cases z:i<p
  .have hρi:=hρ i z;simp only[go_sem,aR,bB,aK,L,M,r,s,t,z];refine aH (fun O S'=>∃(j:Nat) (y:AV),j<=q/\O 0=aR n m A/\O 2=aK q (fun i=>γ i)/\O 7=x/\O 9=.int .i64 (ρ i)/\O 10=y/\O 13=aK p (fun i=>ρ i)/\O 14=.int .i64 p/\O 15=.int .i64 i/\O 19=aK q (fun i=>γ i)/\O 20=.int .i64 q/\O 21=.int .i64 j /\
    da 59 1 St.none S' x i (fun a=>.sl 2 (g a) 0 q)/\(∀a,a<i->jp S' (g a) q (fun j=>A (ρ a) (γ j))/\¬eh y (g a))/\da 50 2 St.none S' y j (fun c=>.big (A (ρ i) (γ c)))/\∀d,eh x d->¬eh y d) (fun O S=>q-cj (O 21)) ?_ ?_
   .simp only[go_sem,aR,bB,aK,Z,L,M,r,s,t];exact⟨0,om,rfl,b,fun a f=>⟨w a f,by rintro⟨_,_,_,e⟩;cases e⟩,da.nil (ft.noneS _) _,fun d _=>by rintro⟨_,_,_,e⟩;cases e⟩
   .rintro O S' ⟨j,y,hj,Z,L,M,e9,e10,r,s,t,e19,e20,e21,b,w,P,B⟩;by_cases Q:j<q
    .have hγj:=hγ j Q;simp -dsimp only[*,go_sem,aR,bB,aK];refine aF.intro fun G C=>?_;simp -dsimp only[*,go_sem,aR,bB];have H:=P.fresh C;have k:=b.fresh C;refine da.app50 (P.upd (by rfl) H _) om (show eF 2 (.big (A (ρ i) (γ j)))from trivial) (bH ⟨_,_,_,rfl,cn,rfl,fun h=>H _ h rfl⟩) ?_
     intro c S2 R l u;simp only[*,go_sem,aR,bB,aK,aP (om:j<1000000),cj]
     have kx:∀d,eh x d->d≠G/\¬eh y d:=fun d o=>⟨k d o,B d o⟩;refine⟨⟨j+1,om,rfl,?_,fun a f=>?_,R.congr fun a f=>by grind,fun d o he=>?_⟩,om⟩
     .refine b.step (ft.noneS _) (fun d o=>?_)
      cases hS:S' d with
      | none =>
       exfalso;obtain⟨_,_,_,e⟩:=o;rcases b.2 with⟨_,v⟩|⟨c,_,v,g',E,_⟩
       .rw[v]at e;cases e
       .rw[v]at e;cases e;rw[hS]at E;cases E
      | some X=>exact l d X (by rw[aO (kx d o).1];exact hS) (kx d o).2
     .obtain⟨F,r2⟩:=w a f;have I:g a≠G:=bM.fresh F C;refine⟨F.via fun X b=>l _ _ (by rw[aO I];exact b) r2,fun hb=>?_⟩
      rw[ep]at hb;rw[<-hb]at u;rcases u with h|h
      .exact r2 h
      .rw[aO I]at h;exact bM.fresh F h rfl
     .rw[ep]at he;subst he;rcases u with h|h
      .exact B d o h
      .rw[aO (k d o)]at h;obtain⟨_,_,_,e⟩:=o;rcases b.2 with⟨_,v⟩|⟨c,_,v,g',E,_⟩
       .rw[v]at e;cases e
       .rw[v]at e;cases e;rw[h]at E;cases E
    .obtain rfl:j=q:=om
     rcases P.2 with⟨h0,_⟩|⟨c,_,rfl,N⟩
     .omega
     simp -dsimp only[*,go_sem,aR,bB,aK];refine aF.intro fun J D=>?_;simp -dsimp only[*,go_sem];have k:=b.fresh D;refine da.app59 (b.upd (by rfl) k _) om (show eF 1 (.sl 2 c 0 j)from trivial) (bH ⟨_,_,_,rfl,cn,rfl,fun h=>k _ h rfl⟩) ?_
     intro d S2 T l u;have K:c≠J:=bM.fresh N D;have U:¬eh x c:=fun h=>B c h (ep.2 rfl);simp only[*,go_sem,aR,bB,aK,aP (om:i<1000000),cj]
     refine⟨⟨i+1,om,rfl,fun a=>if a=i then c else g a,T.congr fun a f=>by grind,fun a f=>?_,fun a d f o e=>?_⟩,om⟩
     .by_cases e:a=i
      .subst e;simp only[aQ];exact N.via fun X b=>l _ _ (by rw[aO K];exact b) U
      .simp only[e,aS];have F:=(w a om).1;have V:g a≠J:=bM.fresh F D;obtain⟨gg,W,_⟩:=F;exact(w a om).1.via fun X Y=>l _ _ (by rw[aO V];exact Y) (b.other W om)
     .have k1:=fun a f=>(w a f).2;simp only[ep]at k1
      grind
  .simp only[go_sem,aR,bB,aK,L,M,r,s,t,z];obtain rfl:i=p:=om
   rcases b.2 with⟨h0,_⟩|⟨c,_,rfl,N⟩
   .omega
   exact⟨c,rfl,g,N,w,hI⟩

end Go.Proofs.YtdobfmlmenaajaaGreatDoor
