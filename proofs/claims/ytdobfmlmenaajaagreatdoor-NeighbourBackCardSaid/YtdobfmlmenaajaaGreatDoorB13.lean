/-
  Lemmas for NeighbourBack.
-/
import Derived.Test.YtdobfmlmenaajaaGreatDoorB12
namespace Go.Proofs.YtdobfmlmenaajaaGreatDoor
open Go.RowKit Tryz
open _root_.Nat renaming strongRecOn→mD,reduceEqDiff→vC
open _root_.Option renaming none→ae,some→gA
set_option maxHeartbeats 6400000
set_option maxRecDepth 4096
set_option linter.all false
attribute [local go_sem] Nat.reduceAdd Nat.reduceEqDiff Nat.reduceLeDiff Nat.reduceLT reduceCtorEq Int.ofNat_lt decide_true decide_false Int.zero_le_ofNat
attribute [local go_sem ↓] reduceIte
variable{x:AV}{K:AV->St->Prop}{a0 d q t z:Int}{a b b5 b6 b7 b9 bh bl bp bs bu c i j k k0 n p:Nat}{g2 gm z0:Nat->AV}{f m m':Nat->Int}{g gh gu v ρ:Nat->Nat}{S S' S0 V:St}{A B B' H L L' Q T T' U:az}{l:gP}{M:pP}
def Eo(n k:Nat)(M:az)(f:mN n (fB n M))(h:k<=1000000)(l:∀R H U,KN n (fB n M) R H U->(∀a r,a<n+1->r<n+n+1->nb (ln (n+1) (fun k r=>fB n M r k) U a r) k)/\CM n k (fun i j=>ln (n+1) (fun k r=>fB n M r k) U j i)) :
  ∀S args',eM S args' [aP n (n+1) M]->cI 123 args' S (fun r S'=>∃b g B,r=.tup [ϑ b 0 n,.bool true]/\vJ n k (fB n M) B/\iW S S' b g n n B):=fun S args' m=>by
 have o:cI 123 [aP n (n+1) M] St.none (fun r S'=>∃b g B,r=.tup [ϑ b 0 n,.bool true]/\vJ n k (fB n M) B/\dr S' b g n n B/\Gl S'):=(BP n k M f h l).less fun r S' ⟨b,g,B,e,d,c⟩=>⟨eN S' b g n,iT S' b g n,b,g,B,e,d,c.only.1,c.only.2⟩;refine(o.frame m ?_).mono ?_
 .rintro r S1 ⟨b,g,B,rfl,_,_,p⟩;exact⟨rfl,p⟩
 .rintro r S' ⟨S1,⟨b,g,B,rfl,d,c,_⟩,q,rfl⟩;exact⟨b,g,B,rfl,d,c.join q⟩
def JL{K:AV->Prop}(h:K (ϑ b 0 n)):lh 28 (ϑ b 0 n) ae (some (ι n)) (some (ι n)) K:=by
 refine⟨rfl,0,n,rfl,rfl,⟨mV _,mV _,rfl⟩,lq _,ag _,?_⟩;show K (if (0:Nat)=0∨0<n then ϑ b (0+0) (n-0)else .lst 1 0 fun _=>.any)
 rw[aj (a6 rfl)];exact h
structure tF(n p:Nat)(H:az)(v:Nat->Nat)(B:az):Prop where
 ex:∃piv t inv,piv<n/\0<=t/\t<(p:Int)/\(p:Int)*p∣jm n H (fun i=>if i=piv then((v i:Nat):Int)+p*t else v i) (fun i=>if i=piv then((v i:Nat):Int)+p*t else v i)/\inv=lp p (gK n H p (fun k=>v k) piv)/\gK n H p (fun k=>v k) piv≠0 /\
  mN n (fB n (yv n p piv (fun j=>gK n H p (fun k=>v k) j*inv%p) (fun i=>if i=piv then((v i:Nat):Int)+p*t else v i))) /\
  vJ n (FI n) (fB n (yv n p piv (fun j=>gK n H p (fun k=>v k) j*inv%p) (fun i=>if i=piv then((v i:Nat):Int)+p*t else v i))) B
def uG{P:Nat->Prop}(h:∃i,i<n/\P i):∃i,i<n/\P i/\∀j,j<i->¬P j:=by
 obtain⟨i,d,e⟩:=h
 induction i using mD with
 | _ i ih =>
  by_cases c:∃j,j<i/\P j
  .obtain⟨j,a,b⟩:=c;exact ih j a om b
  .exact⟨i,d,e,fun j a b=>c ⟨j,a,b⟩⟩
theorem Cm{p:Int}{f:Nat->Int}:∀{n:Nat},(∀i,i<n->p∣f i)->p∣ap n f
 | 0,_=>jp p
 | n+1,h=>gO (Cm fun i a=>h i om) (h n om)
theorem Ac{v:Nat->Int}:∀{n:Nat},(∀i,i<n->v i=0)->il v n=0
 | 0,_=>rfl
 | n+1,h=>by
  simp only[il,Ac (n:=n) fun i a=>h i om,aH];exact h n om
def GL(q:eQ n H)(r:jw (det n H) p)(s:nI p)(m:jn n p H v):∃piv,piv<n/\qR n H p (fun k=>v k) piv≠0/\∀i,i<piv->qR n H p (fun k=>v k) i=0:=by
 have b:∃i,i<n/\qR n H p (fun k=>v k) i≠0:=by
  refine cK fun c=>?_;have t:∀i,i<n->(p:Int)∣ap n fun j=>H i j*((v j:Nat):Int):=fun i d=>by
   refine dF (cK fun h=>c ⟨i,d,h⟩)
  have u:∀k,k<n->((v k:Nat):Int)=0:=fun k e=>by
   have w:mm n (iq n H) (mm n H (fun j _=>((v j:Nat):Int))) k 0=det n H*((v k:Nat):Int):=by
    rw[<-oc];unfold mm;rw[ay (g:=fun j=>(if k=j then 1 else 0)*(det n H*((v j:Nat):Int))) fun j f=>by
     show mm n (iq n H) H k j*((v j:Nat):Int)=_;rw[su q.one _ e f];split<;>simp]
    rw[nv e]
   have l:(p:Int)∣det n H*((v k:Nat):Int):=by
    rw[<-w];exact Cm fun i d=>co (t i d)
   rcases s.1.mul _ _ l with h|h
   .exact absurd (cM h) r.2.2.2
   .have o:=m.lt k e;have a:=cM h;rw[dv om om]at a;exact a
  have:=m.lead;rw[Ac u]at this;omega
 obtain⟨i,x,o,a⟩:=uG b;exact⟨i,x,o,fun j f=>cK fun h=>a j f h⟩
def DW(S:St)(n p:Nat)(H:az)(v:Nat->Nat)(hF:eQ n H)(hg:jw (det n H) p)(hp:nI p)(hL:jn n p H v)(hG:kT S) :
  cI 59 [av n n H,ι p,aK n (fun k=>v k)] S (fun r S'=>∃b g B S1,r=.tup [ϑ b 0 n,ι 0]/\tF n p H v B/\dh S S1/\iW S1 S' b g n n B):=by
 have h1:=hF.one;have hn:=hF.eight;have hp17:=hp.2;obtain⟨piv,m,C,V⟩:=GL hF hg hp hL;refine jg func59 ntmps59 results59 ?_;simp -dsimp only[go_sem,aa];refine(KV S n p piv H v hF hg hp hL hG m C V).mono ?_;rintro _ S1 ⟨bx,t,_,L,ht1,hnm,rfl,W,Y⟩;simp -dsimp only[go_sem,aa,aR];have hw:∀i,gK n H p (fun k=>v k) i=qR n H p (fun k=>v k) i:=yE n H p _;have hwr:=q8 (n:=n) (H:=H) (p:=(p:Int)) (v:=fun k=>((v k:Nat):Int)) om;have hwp:0<gK n H p (fun k=>v k) piv%p/\gK n H p (fun k=>v k) piv%p<p:=by
  have:=hwr piv;rw[dv this.1 this.2];have h0:gK n H p (fun k=>v k) piv≠0:=by rw[hw];exact C
  omega
 have hnd:¬(p:Int)∣gK n H p (fun k=>v k) piv:=fun h=>by have:=cM h;omega
 refine(Bk n piv H p (fun k=>v k) _ h1 om om om m (by rw[hw];exact C) (fun i F=>by rw[hw];exact V i F) (hp.1.gcd' hnd) rfl S1 _ (cD _ _)).mono ?_
 rintro _ S2 ⟨bl,gl,rfl,D,Z,nl2,nlg2⟩;generalize hinv:lp p (gK n H p (fun k=>v k) piv)=inv at *;have hx2:=Z.has W;simp -dsimp only[go_sem,dw,gF];refine JL ?_
 try simp -dsimp only[go_sem]
 refine ax.intro fun b41 N=>?_
 try simp -dsimp only[go_sem]
 have G:dh S S2:=Y.trans Z;have nbl:S bl=ae:=Y.none nl2;have P:cN 29 1 S S2 (ϑ bl 0 n) n (fun j=>ϑ (gl j) 0 n):=⟨G,aQ ⟨bl,nbl,rfl,D.outer⟩⟩;have hxf:=P.fresh N;have I:=P.upd (G.none N) hxf ⟨29,1,1,fun j=>[ϑ bx 0 n].getD j .any⟩;refine cN.app29 (v:=ϑ bx 0 n) I om (by simp[dY]) (aQ ⟨_,_,_,rfl,bW,rfl,fun h=>hxf _ h rfl⟩) ?_
 intro bc S3 y z _;generalize o:yv n p piv (fun j=>gK n H p (fun k=>v k) j*inv%p) (fun i=>if i=piv then((v i:Nat):Int)+p*t else v i)=M
 have hcols:aY S3 bc 29 1 (n+1) (fun j=>ϑ (if j=n then bx else gl j) 0 n):=by
  rcases y.2 with⟨h,_⟩|⟨c,_,e,h⟩
  .omega
  .cases e
   exact h.congr fun j _=>by by_cases e:j=n<;>simp[e]
 have hcol:∀c,c<n+1->aY S3 (if c=n then bx else gl c) 2 1 n (fun i=>ι (M i c)):=fun c hc=>by
  have via:∀{b:Nat} {g:Nat->AV},aY S2 b 2 1 n g->aY S3 b 2 1 n g:=fun {b g} h=>by
   have n41:b≠b41:=aY.fresh h N;have nbl':b≠bl:=(aY.ne D.outer h dc).symm
   obtain⟨g',k,k2⟩:=h;exact⟨g',z b _ (by rw[aE n41];exact k) (fun hb=>nbl' (dP.1 hb)),k2⟩
  by_cases e:c=n
  .subst e;rw[aj rfl];refine(via hx2).congr fun i F=>?_;rw[<-o];unfold yv;simp only[cw,aI]
  .rw[ah e];refine(via (D.row c om)).congr fun i F=>?_;rw[<-o];unfold yv;rw[aj om]
 have hE03:dh S S3:=y.1;have J:∀j,j<n->0<=gK n H p (fun k=>v k) j*inv%p/\gK n H p (fun k=>v k) j*inv%p<=9972:=fun j _=>by
  have a:=aW (gK n H p (fun k=>v k) j*inv) (show(p:Int)≠0 by omega)
  have b:=aS (gK n H p (fun k=>v k) j*inv) (show(0:Int)<p by omega)
  omega
 have hpt:0<=(p:Int)*t/\(p:Int)*t<=99450756:=by
  have:=ck (show(p:Int)<=9973 by omega) (om:t<=9972) L om
  exact⟨cC om L,om⟩
 have hxb:∀i,i<n->(if i=piv then((v i:Nat):Int)+p*t else v i).natAbs<=100000000:=fun i F=>by
  have:=hL.lt i F;split<;>omega
 have hP:mN n (fB n M):=by
  rw[<-o];exact JV h1 hn om om m J hxb
 have hMb:∀i j,i<n->j<n+1->-9223372036854775808<=M i j/\M i j<=9223372036854775807:=fun i j F hj=>by
  have:=Dr (piv:=piv) (p:=(p:Int)) om om J hxb i j F hj;rw[o]at this;omega
 clear P I y z D hx2 W;simp -dsimp only[go_sem]
 repeat refine an ?_
 refine ax.intro fun br fr=>?_;simp only[go_sem];refine cf (fun O S=>∃(i:Nat) (g:Nat->Nat),i<=n/\O 11=ϑ bc 0 (n+1)/\O 12=ϑ br 0 n/\O 47=ι n/\O 48=ι i/\dh S3 S /\
  aY S br 29 1 n (fun a=>if a<i then ϑ (g a) 0 (n+1)else .nil)/\(∀a,a<i->aY S (g a) 2 1 (n+1) (fun c=>ι (M a c)))/\∀a c,a<i->c<i->g a=g c->a=c) (fun O S=>n-bO (O 48)) ?_ ?_
 .simp only[go_sem];exact⟨0,om,rfl,(dh.refl S3).upd fr _,fun _=>0,aY.here fun _ _=>by simp,fun a l=>om,fun a c l=>om⟩
 rintro Q' hQ' O S4 ⟨i,g,F,q,s,u,w,f,Q,K,hI⟩;by_cases A:i<n
 .simp only[go_sem,q,u,w,A];refine cf (fun O S'=>∃(j:Nat) (x:AV),j<=n+1/\O 11=ϑ bc 0 (n+1)/\O 12=ϑ br 0 n/\O 13=ι i/\O 47=ι n/\O 48=ι i/\O 51=ϑ bc 0 (n+1)/\O 52=ι ((n+1:Nat):Int)/\O 53=ι j/\dh S3 S' /\
   aY S' br 29 1 n (fun a=>if a<i then ϑ (g a) 0 (n+1)else if a=i then x else .nil)/\(∀a,a<i->aY S' (g a) 2 1 (n+1) (fun c=>ι (M a c))/\¬dV x (g a))/\cN 2 1 S3 S' x j (fun c=>ι (M i c))) (fun O S=>n+1-bO (O 53)) ?_ ?_
  .simp only[go_sem,q,s,u,w];exact⟨0,om,rfl,f,.nil,Q.congr fun a _=>by grind,fun a l=>⟨K a l,by rintro⟨_,_,_,e⟩;cases e⟩,cN.nil f _⟩
  clear Q K f q s u w;rintro Q'' hQ'' O S' ⟨j,x,hj,q,s,e13,u,w,e51,e52,e53,f,Q,K,hX⟩;by_cases E:j<n+1
  .obtain⟨gc,uc,vc⟩:=id (f.has hcols);obtain⟨gd,ud,vd⟩:=id (f.has (hcol j E));obtain⟨g1,u1,v1⟩:=id Q;have xc:gc j=ϑ (if j=n then bx else gl j) 0 n:=vc j E
   have xd:gd i=ι (M i j):=vd i A;have x1:g1 i=x:=by rw[v1 i A];simp
   simp -dsimp only[go_sem,aa,e51,e52,e53,E,uc,xc];refine fm 11 kr ?_
   simp -dsimp only[go_sem,aa,s,e13,A,ud,xd,u1,x1];refine cN.app2 hX om (show dY 1 (ι (M i j)) by simp[dY]) (a6 ⟨_,rfl,rfl⟩) ?_
   intro c S7 T hk1 z;have hxr:=hX.other u1 om;have u1':=hk1 br _ u1 hxr;simp only[*,go_sem,aa,aF (om:j<1000000),bO]
   have hrS:S3 br=ae:=fr;refine⟨⟨j+1,om,rfl,T.1.upd hrS _,ϑ c 0 (j+1),aY.here fun a l=>?_,fun a l=>?_,?_⟩,om⟩
   .have:=v1 a l;grind [aL]
   .obtain⟨r1,r2⟩:=K a l;have hgr:g a≠br:=aY.ne r1 (aY.of u1) om;refine⟨(r1.via fun X hX=>hk1 _ _ hX r2).upd hgr _,fun hb=>?_⟩;rw[dP]at hb;rw[<-hb]at z;rcases z with h|h
    .exact r2 h
    .exact aY.fresh r1 h rfl
   .refine(T.upd hrS (fun d hd e=>?_) _).congr (fun a l=>by grind)
    rw[e]at hd;exact T.other u1' om hd
  .simp only[go_sem,aa,e51,e52,e53,E];rw[hQ''];simp only[go_sem,q,s,u,w,aF (om:i<1000000),bO]
   obtain rfl:j=n+1:=om
   rcases hX.2 with⟨h0,_⟩|⟨c,_,rfl,hC⟩
   .omega
   refine⟨⟨i+1,om,rfl,f,fun a=>if a=i then c else g a,Q.congr fun a l=>by grind,fun a l=>?_,fun a d l hd e=>?_⟩,om⟩
   .by_cases e:a=i
    .subst e;simp only[aH];exact hC
    .simp only[e,aI];exact(K a om).1
   .have k1:=fun a l=>(K a l).2;simp only[dP]at k1
    grind
 have hin:i=n:=om
 rw[hin]at Q K hI;have hIM:eg S4 br g n (n+1) M:=⟨Q.congr fun a l=>by rw[aj l],K,hI⟩
 simp only[go_sem,q,u,w,A];rw[hQ'];simp -dsimp only[go_sem,aa,s];refine(pj n (n+1) M h1 om om om hMb _ _ (eM.one hIM.vr.va)).mono ?_;rintro _ S5 ⟨bm,gm,rfl,hM5⟩;simp -dsimp only[go_sem,aa];have hKB:=mR;have hbb:=yS KB om n om;refine(Eo n (FI n) M hP (by unfold FI;omega) (fun R H' U hT=>?_) S5 _ (eM.one hM5.1.vr.va)).mono ?_
 .obtain⟨a,b,_,_⟩:=hT.herm hP (fun r c h1 _ h3=>by unfold fB;rw[ah om])
  exact⟨a,b⟩
 rintro _ S6 ⟨b,gB,B,rfl,hB,hM6⟩;simp only[go_sem];exact⟨b,rfl,gB,B,⟨piv,t,inv,m,L,ht1,hnm,hinv.symm,by rw[hw];exact C,by rw[o];exact hP,by rw[o];exact hB⟩,S5,(hE03.trans f).trans hM5.2.1,hM6⟩

theorem Ch{v:Nat->Int}:∀{n:Nat},il v n=1->∃k,k<n/\v k=1
 | 0,h=>by simp[il]at h
 | n+1,h=>by
  simp only[il]at h;split at h
  .exact⟨n,om,h⟩
  .obtain⟨k,b,a⟩:=Ch h;exact⟨k,om,a⟩

def iI(v:Nat->Nat)(p:Int)(piv:Nat)(t:Int):gP:=fun i=>if i=piv then((v i:Nat):Int)+p*t else v i
def OD(b:nI p){x:Int}(d:0<x)(c:x<p):∃iv:Int,(p:Int)∣iv*x-1:=by
 have h:=b.1.inv (a:=x) (fun h=>by have:=cM h;rw[dv om c]at this;omega)
 exact⟨lp p x,by rwa [bU]⟩
def tF.char(l:nI p)(h:tF n p H v B) :
  ∃(piv:Nat) (t:Int),piv<n/\gK n H p (fun k=>v k) piv≠0/\(p:Int)*p∣jm n H (iI v p piv t) (iI v p piv t)/\∀y,eU n n B y↔BI n p (gK n H p (fun k=>v k)) (iI v p piv t) y:=by
 have m:=l.2;obtain⟨piv,t,inv,b,o,r,g,d,e,s,u⟩:=h.ex;refine⟨piv,t,b,e,g,fun y=>?_⟩;have f:=q8 (n:=n) (H:=H) (p:=(p:Int)) (v:=fun k=>((v k:Nat):Int)) om;have i:=dv (f piv).1 (f piv).2;have c:=l.1.inv1 (a:=gK n H p (fun k=>v k) piv) (fun x=>e (by have:=cM x;omega))
 rw[<-d,i]at c;rw[u.members s y];refine Dp (p:=(p:Int)) om (piv:=piv) b (w:=gK n H p (fun k=>v k)) (q:=fun j=>gK n H p (fun k=>v k) j*inv%p) (inv:=inv) ?_ (fun j C z=>?_) y
 .refine dF ?_;rw[Int.sub_emod,bU,c,dv (show(0:Int)<=1 by omega) om]
  simp
 .refine dF ?_;have A:(gK n H p (fun k=>v k) j*inv%p*gK n H p (fun k=>v k) piv)%p=gK n H p (fun k=>v k) j%p:=by
   rw[eZ,jO _ (iL _),<-eZ,fu,eZ,bU inv,c,iw,jO _ (iL _)]
  rw[Int.sub_emod,A,Int.sub_self,Int.zero_emod]
def Lm(n:Nat)(H:az)(p:Int)(v:gP)(i:Nat):p∣(ap n fun j=>H i j*v j)-gK n H p v i:=by
 rw[yE];exact Int.dvd_self_sub_emod
def Ab{p:Int}{v:gP}(a:∀i,i<n->p∣l i-v i)(i:Nat):p∣(ap n fun j=>H i j*l j)-gK n H p v i:=by
 have e:(ap n fun j=>H i j*l j)-gK n H p v i=((ap n fun j=>H i j*v j)-gK n H p v i)+ap n fun j=>H i j*(l j-v j):=by
  have:(ap n fun j=>H i j*l j)=(ap n fun j=>H i j*v j)+ap n fun j=>H i j*(l j-v j):=by
   rw[<-dH];exact ay fun j _=>by grind
  omega
 rw[e];exact gO (Lm n H p v i) (jf fun j b=>co (a j b))
def wF{p:Int}{piv:Nat}(i:Nat):p∣iI v p piv t i-(v i:Nat):=by
 unfold iI;split
 .exact⟨t,om⟩
 .exact⟨0,om⟩
def Fa(a:jn n p H v):(p:Int)∣ap n fun i=>gK n H p (fun k=>v k) i*(v i:Nat):=by
 refine dF ?_;rw[<-a.norm];unfold eE;refine nk n _ _ p fun i _=>?_;rw[yE];show((ap n fun j=>H i j*((v j:Nat):Int))%p*_)%p=_;rw[eZ,jO _ (iL _),<-eZ]
def J2(a:jn n p H v)(b:∀i,i<n->(p:Int)∣l i-(v i:Nat)):(p:Int)∣ap n fun i=>gK n H p (fun k=>v k) i*l i:=by
 have e:(ap n fun i=>gK n H p (fun k=>v k) i*l i)=(ap n fun i=>gK n H p (fun k=>v k) i*(v i:Nat))+ap n fun i=>gK n H p (fun k=>v k) i*(l i-(v i:Nat)):=by
  rw[<-dH];exact ay fun i _=>by grind
 rw[e];exact gO (Fa a) (jf fun i c=>co (b i c))
def tF.tri(h:tF n p H v B):(∀r c,r<c->c<n->B r c=0)/\(∀r,r<n->0<B r r)/\(∀c j,c<n->j<c->0<=B c j/\B c j<B c c)/\wW n n B:=by
 obtain⟨piv,t,inv,_,_,_,_,_,_,g,e⟩:=h.ex;have a:=e.herm;exact⟨fun r c b f=>a.up r c b om om,a.pos,a.rng,fun r d=>⟨fun j b f=>a.up r j b d om,a.pos r d⟩⟩
def tF.gram(d:eQ n H)(e:nI p)(h:tF n p H v B){i j:Nat}(f:i<n)(g:j<n):(p:Int)*p∣mm n (mm n (fun i j=>B j i) H) B i j:=by
 obtain⟨piv,t,c,l,b,a⟩:=h.char e;rw[uB];exact Fk d.red.pd.sym (fun i _=>Ab (fun k _=>wF k) i) b ((a _).1 (eU.col f)) ((a _).1 (eU.col g))
def tF.unit(c:nI p)(h:tF n p H v B){k:Nat}(f:k<n):eU n n B (gH ((p:Int)*p) k):=by
 obtain⟨piv,t,b,d,e,a⟩:=h.char c;refine(a _).2 ⟨0,gH p k,fun i _=>?_,?_⟩
 .unfold gH;split<;>simp
 .refine jf fun i _=>co ?_;unfold gH;split
  .exact iL _
  .exact jp _
def tF.ent(f:nI p)(h:tF n p H v B){i j:Nat}(d:i<n)(g:j<n):0<=B i j/\B i j<=99460729:=by
 have c:=f.2;obtain⟨k,l,m,o⟩:=h.tri;have s:B i i<=99460729:=by
  have e:=(TL.of_tri o).dvd _ (h.unit f d) i d (fun r t=>by unfold gH;rw[ah om])
  unfold gH at e;rw[aj rfl]at e;have q:(0:Int)<p*p/\(p:Int)*p<=99460729:=by
   rw[<-aV];have a:=aX c.2 c.2;have b:=aX c.1 c.1;omega
  have:=jX q.1 e;omega
 rcases c8 i j with h|h|h
 .rw[k i j h g];omega
 .subst h;have:=l i d;omega
 .have:=m i j d h;omega
def Pj{u v:gP}(f:n<=8)(g:∀i j,i<n->j<n->(H i j).natAbs<=a)(h:∀i,i<n->(u i).natAbs<=b)(k:∀i,i<n->(v i).natAbs<=c):(jm n H u v).natAbs<=64*(a*b*c):=by
 have l:∀i,i<n->(ap n fun j=>H i j*v j).natAbs<=n*(a*c):=fun i m=>by
  refine bQ (wo _ _) (qE fun j d=>?_);rw[cP];exact aX (g i j m d) (k j d)
 have o:(jm n H u v).natAbs<=n*(n*(a*c)*b):=by
  refine bQ (wo _ _) (qE fun j d=>?_);rw[cP];exact aX (l j d) (h j d)
 refine bQ o ?_;have p:n*n<=8*8:=aX f f;have q:=aq (a*b*c) p;have e:n*(n*(a*c)*b)=n*n*(a*b*c):=by grind
 omega
def Oo{piv:Nat}(m:eQ n H)(f:nI p)(o:jn n p H v)(d:piv<n)(g:qR n H p (fun k=>v k) piv≠0):∃t:Int,0<=t/\t<p/\(p:Int)*p∣jm n H (iI v p piv t) (iI v p piv t):=by
 have l:=f.2;have e:0<=qR n H p (fun k=>v k) piv/\qR n H p (fun k=>v k) piv<p:=⟨aW _ om,aS _ om⟩;generalize i:qR n H p (fun k=>v k) piv=sl at *;have h2s:0<2*sl%p/\2*sl%p<p:=by
  have a:=aW (2*sl) (show(p:Int)≠0 by omega)
  have b:=aS (2*sl) (show(0:Int)<p by omega)
  have c:2*sl%p≠0:=fun h=>by
   rcases f.1.mul 2 sl (dF h)with h|h
   .have:=jX om h;omega
   .exact g (by have:=cM h;rwa [dv e.1 e.2]at this)
  omega
 have j:=f.1.inv1 (a:=2*sl) (fun h=>by have:=cM h;omega)
 exact⟨_,aW _ om,aS _ om,Cg m.red.pd.sym d (show(0:Int)<p by omega) i j rfl o.norm rfl⟩

def Lw(h:∀i,i<n->0<=f i):0<=ap n f:=by
 induction n with
 | zero=>exact mV _
 | succ n ih =>
  have a:=ih fun i b=>h i om;have c:=h n om;show 0<=ap n f+f n;omega
def Lx(h:∀i,i<n->0<=f i){i:Nat}(a:i<n):f i<=ap n f:=by
 induction n with
 | zero=>omega
 | succ n ih =>
  have b:=Lw (n:=n) (f:=f) fun i a=>h i om;have c:=h n om;show f i<=ap n f+f n;by_cases e:i=n
  .subst e;omega
  .have:=ih (fun i a=>h i om) om;omega
def JI{m:Nat}(b:m<=n):ap n (fun j=>if j<m then f j else 0)=ap m f:=by
 induction n with
 | zero =>
  obtain rfl:m=0:=om
  rfl
 | succ n ih =>
  by_cases e:m=n+1
  .subst e;exact ay fun i a=>by rw[aj a]
  .show ap n _+(if n<m then f n else 0)=_
   rw[ih om,ah om,Int.add_zero]
def Ci(p:wW n n B)(d:wW n n B')(q:∀c j,c<n->j<c->0<=B c j/\B c j<B c c)(u:∀c j,c<n->j<c->0<=B' c j/\B' c j<B' c c)
  (C:∀y,eU n n B y↔eU n n B' y):∀i j,i<n->j<n->B i j=B' i j:=by
 have t:=TL.of_tri p;have t':=(TL.of_tri d).congr t.lat C;have v:∀i,i<=n->EE B n i=EE B' n i:=fun i a=>t.uniq t' (n-i) i om a;have hdiag:∀i,i<n->B i i=B' i i:=fun i a=>by
  have f:=t.step i a;have g:=t'.step i a;have D:=t.M_pos n (i+1) om om;rw[v i om,v (i+1) om]at f;rw[v (i+1) om]at D;rw[f]at g;exact Int.eq_of_mul_eq_mul_right om g
 intro i j a s;rcases aB i j with h|h
 .rw[(p i a).1 j h s,(d i a).1 j h s]
 have E:eU n n B (fun r=>1*B r j+(-1)*B' r j):=by
  obtain⟨c,F⟩:=(C _).2 (eU.col (n:=n) (B:=B') s);obtain⟨G,w⟩:=eU.col (n:=n) (B:=B) s;refine⟨fun k=>1*G k+(-1)*c k,fun r q=>?_⟩;have f:=F r q;have g:=w r q;dsimp only at f g ⊢;rw[f,g,<-pq];exact ay fun k _=>by grind
 have key:∀m i,i<n->j<=i->i-j<=m->∀r,r<=i->B r j=B' r j:=by
  intro m
  induction m with
  | zero =>
   intro i a l H r o;obtain rfl:i=j:=om
   rcases aB r i with e|e
   .rw[(p r om).1 i e a,(d r om).1 i e a]
   .obtain rfl:r=i:=om
    exact hdiag r a
  | succ m ih =>
   intro i a l H r o;rcases aB j i with e|e
   .have ih':=ih (i-1) om om om;rcases aB r i with I|I
    .exact ih' r om
    .obtain rfl:r=i:=om
     have J:=t.dvd _ E r a (fun k M=>by rw[ih' k om];omega)
     have N:=q r j a e;have K:=u r j a e;rw[<-hdiag r a]at K;obtain⟨z,L⟩:=J;have b:=(p r a).2;have x:z=0:=by
      rcases ej z 0 with A|A|A
      .have:=aT (om:z<=-1) (a8 b)
       omega
      .exact A
      .have:=aT (om:1<=z) (a8 b)
       omega
     rw[x]at L;omega
   .exact ih i a l om r o
 exact key (i-j) i a h (ag _) i (ag _)
def Pd.bil_pos(h:Pd A n){x:gP}{j:Nat}(k:j<n)(f:x j≠0):0<jm n A x x:=by
 obtain⟨m,rfl⟩:∃m,n=m+1:=⟨n-1,om⟩
 obtain⟨E,e⟩:∃E:Int,∀i,i<m+1->A i i<=E:=⟨ap (m+1) (fun i=>A i i),fun i b=>by
  have:=Lx (fun i b=>a8 (h.diag b)) b;exact this⟩
 have l:=h.coord (m-j) x j e om;have o:0<x j*x j:=by
  rcases ej (x j) 0 with a|a|a
  .have:=Int.mul_pos_of_neg_of_neg a a;exact this
  .exact absurd a f
  .exact jN a a
 have c:0<=E:=by have:=e 0 om;have:=h.diag (om:0<m+1);omega
 have g:0<=E^m:=Int.pow_nonneg c;rcases jo 0 (jm (m+1) A x x)with d|d
 .exact d
 .have:=aT d g;omega
theorem EK{A:az}{k:Nat}(b:∀j,j<=k->det j A≠0)(d:∀c,A k c=dp k c):∀j,j<=k->(∀c,j<=c->c<k->cl A j (k-j) (c-j)=0)/\cl A j (k-j) (k-j)=det j A
 | 0,_=>by
  refine⟨fun c _ m=>?_,?_⟩
  .rw[eV,dD,dD,d];unfold dp;rw[ah om]
  .rw[eV,dD,d];simp[dp,det]
 | j+1,n=>by
  obtain⟨i,o⟩:=EK b d j om;have e:=i j (ag _) om;rw[bR]at e;have st:=fun c (m:j+1<=c)=>ie (A:=A) (k:=j) (fun x p=>b x om) (k-(j+1)) (c-(j+1));have l:k-(j+1)+1=k-j:=om
  refine⟨fun c f g=>?_,?_⟩
  .have a:=st c f;rw[l,(om:c-(j+1)+1=c-j),e,i c om g]at a
   simp only[kH,lL,Int.sub_zero]at a;rcases fK.1 a.symm with h|h
   .exact absurd h (b j om)
   .exact h
  .have a:=st k n;rw[l,e,o]at a;simp only[lL,Int.sub_zero,cH]at a;refine cJ (b j om) ?_;rw[<-a,bU]
def MJ(f:∀j,j<=k->det j A≠0):pI (k+1) A k k=det k A:=by
 have e:∀j,j<=k->det j (setRow A k (dp k))=det j A:=fun j d=>aZ fun a b g _=>by simp only[setRow];rw[ah om]
 have h:=(EK (A:=setRow A k (dp k)) (k:=k) (fun j d=>by rw[e j d];exact f j d) (fun c=>by simp only[setRow,aH]) k (ag _)).2
 rw[bR,cH,e k (ag _)]at h;exact h
def Pd.of_pos(o:∀a b,a<n->b<n->A a b=A b a)(p:∀x:gP,(∃j,j<n/\x j≠0)->0<jm n A x x):Pd A n:=by
 refine⟨o,fun k=>?_⟩
 induction k using mD with
 | _ k ih =>
  intro g
  match k,g,ih with
  | 0,_,_=>simp[det]
  | k+1,g,ih =>
   have q:∀j,j<=k->det j A≠0:=fun j s=>by have:=ih j om om;omega
   have h:=MJ q;have r:=ih k om om;have d:=p (fun j=>if j<k+1 then pI (k+1) A k j else 0) ⟨k,om,by rw[aj om,h];omega⟩
   have e:jm n A (fun j=>if j<k+1 then pI (k+1) A k j else 0) (fun j=>if j<k+1 then pI (k+1) A k j else 0)=det (k+1) A*det k A:=by
    have c:∀i,i<k+1->(ap n fun j=>A i j*(if j<k+1 then pI (k+1) A k j else 0))=if k=i then det (k+1) A else 0:=fun i l=>by
     rw[<-t9 A (om:k<k+1) l,<-JI (om:k+1<=n)]
     exact ay fun j _=>by split<;>simp
    unfold jm;rw[cF k om (fun i l f=>?_)]
    .dsimp only;rw[c k om,aj rfl,aj om,h]
    .dsimp only;by_cases m:i<k+1
     .rw[c i m,ah (ai f),lL]
     .rw[ah m,kH]
   rw[e]at d;rw[bU]at d;exact qv r d
def NT(t:eQ n H)(y:nI p)(z:∀r c,r<c->c<n->B r c=0)(A:∀r,r<n->0<B r r)(C:∀i j,i<n->j<n->mm n (mm n (fun i j=>B j i) H) B i j=p*p*Q i j):Pd Q n:=by
 have D:=y.2.1;have l:(0:Int)<p*p:=jN om om;have u:=t.red.pd.sym;have m:∀i j,i<n->j<n->(p:Int)*p*Q i j=jm n H (fun r=>B r i) (fun r=>B r j):=fun i j g o=>by rw[<-C i j g o,uB]
 refine Pd.of_pos (fun a b f d=>?_) fun x ⟨j,o,q⟩=>?_
 .refine cJ (show(p:Int)*p≠0 by omega) ?_
  rw[m a b f d,m b a d f,jl u]
 .obtain⟨i,g,s,h⟩:=uG (P:=fun j=>x j≠0) ⟨j,o,q⟩;have e:(p:Int)*p*jm n Q x x=jm n H (fun r=>ap n (fun a=>x a*B r a)) (fun r=>ap n (fun a=>x a*B r a)):=by
   rw[uR n H x (fun a r=>B r a)];unfold jm;rw[<-cG];refine ay fun a f=>?_;have v:=FJ u x (fun a r=>B r a) (fun r=>B r a) n;unfold jm at v;rw[v,bU (x a),<-fu,<-cG];congr 1;refine ay fun b d=>?_;have w:=m a b f d;unfold jm at w;rw[<-w];grind
  have E:(fun r=>ap n (fun a=>x a*B r a)) i≠0:=by
   show ap n (fun a=>x a*B i a)≠0;rw[cF i g (fun a f F=>?_)]
   .intro G;rcases fK.1 G with k|k
    .exact s k
    .have:=A i g;omega
   .rcases aB a i with k|k
    .have:x a=0:=cK fun I=>h a k I;rw[this,lL]
    .rw[z i a om f,kH]
  have d:=t.red.pd.bil_pos (x:=fun r=>ap n (fun a=>x a*B r a)) g E;rw[<-e]at d;exact qv l d

def p6(a:nI p):3<=p/\p<=9973:=a.2
def p6z(e:nI p):9<=(p:Int)*p/\(p:Int)*p<=99460729:=by
 obtain⟨c,d⟩:=p6 e;rw[<-aV];have a:=aX c c;have b:=aX d d;omega
def wL(n:Nat)(H:az)(p:Nat)(v:Nat->Nat):gP:=gK n H p (fun k=>v k)
structure tC(n p:Nat)(H:az)(v:Nat->Nat)(B:az):Prop where
 tri:wW n n B
 red:∀c j,c<n->j<c->0<=B c j/\B c j<B c c
 piv:∃i,i<n/\wL n H p v i≠0
 lat:∃l:gP,(∀i,i<n->(p:Int)∣l i-(v i:Nat))/\(p:Int)*p∣jm n H l l/\∀y,eU n n B y↔BI n p (wL n H p v) l y
def tF.nbB(a:nI p)(h:tF n p H v B):tC n p H v B:=by
 obtain⟨piv,t,b,c,d,e⟩:=h.char a;obtain⟨_,_,f,g⟩:=h.tri;exact⟨g,f,⟨piv,b,c⟩,iI v p piv t,fun i _=>wF i,d,e⟩
def On(d:eQ n H)(g:nI p){l x:gP}(k:∀i,i<n->(p:Int)∣x i-(v i:Nat))(f:(p:Int)*p∣jm n H x x)(t:∀i,i<n->(p:Int)∣l i-(v i:Nat))(m:(p:Int)*p∣jm n H l l) :
  ∃a:gP,(∀i,i<n->l i=x i+p*a i)/\(p:Int)∣ap n fun i=>wL n H p v i*a i:=by
 have o:=p6 g;have q:∀i,i<n->l i=1*x i+p*((l i-x i)/p):=fun i b=>by
  rw[iP]
  .omega
  .have u:=t i b;have w:=k i b;rw[(om:l i-x i=(l i-(v i:Nat))-(x i-(v i:Nat)))]
   exact ze u w
 refine⟨fun i=>(l i-x i)/p,fun i b=>by have:=q i b;dsimp only;omega,?_⟩
 generalize y:(fun i=>(l i-x i)/(p:Int))=a;have c:∀i,i<n->l i=1*x i+p*a i:=fun i b=>by rw[<-y];exact q i b
 rw[sn c c,lG,jl d.red.pd.sym x,jl d.red.pd.sym a (fun i=>1*x i+p*a i),lG,lG,jl d.red.pd.sym x a]at m;have z:(p:Int)∣2*jm n H a x:=by
  obtain⟨r,A⟩:=f;obtain⟨s,B⟩:=m;refine⟨s-r-jm n H a a,cJ (show(p:Int)≠0 by omega) ?_⟩
  rw[A]at B
  grind
 have C:(p:Int)∣jm n H a x:=by
  rcases g.1.mul _ _ z with h|h
  .have:=jX om h;omega
  .exact h
 have e:(ap n fun i=>wL n H p v i*a i)=jm n H a x-ap n fun i=>((ap n fun j=>H i j*x j)-wL n H p v i)*a i:=by
  unfold jm;rw[<-lj];exact ay fun i _=>by grind
 show(p:Int)∣ap n fun i=>wL n H p v i*a i;rw[e];exact ze C (jf fun i _=>eJ (Ab k i))
def Fh(g:eQ n H)(j:nI p){l x:gP}(k:∀i,i<n->(p:Int)∣x i-(v i:Nat))(d:(p:Int)*p∣jm n H x x)(m:∀i,i<n->(p:Int)∣l i-(v i:Nat))(o:(p:Int)*p∣jm n H l l)(y:gP)(h:BI n p (wL n H p v) l y):BI n p (wL n H p v) x y:=by
 obtain⟨a,q,r⟩:=On g j k d m o;obtain⟨c,b,s,e⟩:=h;refine⟨c,fun i=>b i+c*a i,fun i f=>by rw[s i f,q i f];grind,?_⟩
 rw[tS];exact gO e (co r)
def tC.uniq(e:eQ n H)(f:nI p)(h:tC n p H v B)(h':tC n p H v B'):∀i j,i<n->j<n->B i j=B' i j:=by
 obtain⟨l,g,k,m⟩:=h.lat;obtain⟨l',a,b,c⟩:=h'.lat;exact Ci h.tri h'.tri h.red h'.red fun y=>⟨fun d=>(c y).2 (Fh e f a b g k y ((m y).1 d)),fun d=>(m y).2 (Fh e f g k a b y ((c y).1 d))⟩
def tC.unit(h:tC n p H v B){k:Nat}:eU n n B (gH ((p:Int)*p) k):=by
 obtain⟨l,_,_,a⟩:=h.lat;refine(a _).2 ⟨0,gH p k,fun i _=>?_,?_⟩
 .unfold gH;split<;>simp
 .refine jf fun i _=>co ?_;unfold gH;split
  .exact iL _
  .exact jp _
def tC.ent(d:nI p)(h:tC n p H v B){i j:Nat}(b:i<n)(e:j<n):0<=B i j/\B i j<=(p:Int)*p:=by
 have f:=p6z d;have g:B i i<=(p:Int)*p:=by
  have c:=(TL.of_tri h.tri).dvd _ (h.unit (k:=i)) i b (fun r l=>by unfold gH;rw[ah om])
  unfold gH at c;rw[aj rfl]at c;exact jX om c
 rcases c8 i j with a|a|a
 .rw[(h.tri i b).1 j a e];omega
 .subst a;have:=(h.tri i b).2;omega
 .have:=h.red i j b a;omega
def tC.det(y:nI p)(o:jn n p H v)(h:tC n p H v B):det n B=(p:Int)^n:=by
 have z:=p6 y;obtain⟨l,A,F,q⟩:=h.lat;obtain⟨piv,g,c⟩:=h.piv;obtain⟨d,f,m⟩:=Ch o.lead;have b:∀i,0<=wL n H p v i/\wL n H p v i<p:=fun i=>q8 (n:=n) (H:=H) (p:=(p:Int)) (v:=fun k=>((v k:Nat):Int)) om i;have r:∃j,j<n/\d≠j/\wL n H p v j≠0:=by
  refine cK fun s=>?_;have C:∀j,j<n->j≠d->wL n H p v j=0:=fun j u a=>cK fun G=>s ⟨j,u,ai a,G⟩;have D:(p:Int)∣ap n fun i=>wL n H p v i*(v i:Nat):=Fa o;rw[cF d f (fun i I a=>by rw[C i I a];simp),m,iw]at D
  have E:=cM D;rw[dv (b d).1 (b d).2]at E;by_cases e:piv=d
  .rw[e]at c;exact c E
  .exact c (C piv g e)
 obtain⟨j,u,a,J⟩:=r;obtain⟨iv,w⟩:=OD y (x:=wL n H p v j) (by have:=b j;omega) (b j).2
 obtain⟨t',K⟩:=A d f;exact Ol (p:=(p:Int)) om u f a w (t:=t') (by rw[m]at K;omega) (J2 o A) h.tri q
def tC.gram(c:eQ n H)(h:tC n p H v B){i j:Nat}(d:i<n)(e:j<n):(p:Int)*p∣mm n (mm n (fun i j=>B j i) H) B i j:=by
 obtain⟨l,f,b,a⟩:=h.lat;rw[uB];exact Fk c.red.pd.sym (fun i _=>Ab f i) b ((a _).1 (eU.col d)) ((a _).1 (eU.col e))
def ko(n p:Nat)(H B:az):az:=fun i j=>if i<n/\j<n then mm n (mm n (fun i j=>B j i) H) B i j/((p:Int)*p)else 0
def tC.eq(c:eQ n H)(h:tC n p H v B){i j:Nat}(a:i<n)(b:j<n):mm n (mm n (fun i j=>B j i) H) B i j=(p:Int)*p*ko n p H B i j:=by
 unfold ko;rw[aj ⟨a,b⟩,iP (h.gram c a b)]
def tC.gent(g:eQ n H)(k:nI p)(h:tC n p H v B){i j:Nat}(d:i<n)(f:j<n):(ko n p H B i j).natAbs<=1120325651456000:=by
 have e:=h.eq g d f;rw[uB]at e;have l:=p6z k;have o:=Pj (H:=H) (a:=176000) (b:=p*p) (c:=p*p) g.eight (fun i j d f=>by have:=g.ent i j d f;omega) (u:=fun r=>B r i) (v:=fun r=>B r j) (fun r m=>by have:=h.ent k m d;rw[<-aV]at this;omega) (fun r m=>by have:=h.ent k m f;rw[<-aV]at this;omega)
 rw[e,cP,<-aV,fH]at o;rw[<-aV]at l;have q:p*p*(ko n p H B i j).natAbs<=p*p*(64*(176000*(p*p))):=by
  have:64*(176000*(p*p)*(p*p))=p*p*(64*(176000*(p*p))):=by grind
  omega
 have s:=Nj q om;omega

def BB(n m k:Nat)(A:az)(i j:Nat)(b:i<m)(c:j<n)(a:nb (A j i) k)(d:k<=1000000):PF 156 [ι i,ι j,.pat 1 (aP n m A)] (ϱ (A j i)):=by
 refine iy func156 ntmps156 results156 ?_;simp -dsimp only[go_sem];refine ax.intro fun bc fc=>?_
 try simp -dsimp only[*,go_sem,aP,bn]
 refine(sd a om).call ?_;simp only[go_sem,aa];exact VR.mf rfl
def oi(n m k:Nat)(A:az)(f:1<=n)(a:n<=16)(h:1<=m)(c:m<=16)(l:∀i j,i<n->j<m->nb (A i j) k)(o:k<=1000000):CF 94 [aP n m A] m n (fun i j=>A j i):=by
 refine CF.of ?_;refine jg func94 ntmps94 results94 ?_;simp -dsimp only[go_sem,aa,aP,bn];refine ax.intro fun bc fc=>?_
 try simp -dsimp only[go_sem]
 refine(ld n m A f a h c).call ?_;simp -dsimp only[go_sem,aa];refine(rC m n 156 [.pat 1 (aP n m A)] (fun i j=>A j i) om c a (fun i j d e=>BB n m k A i j d e (l j i e d) o) _ _ (eM.fn1 (eM.one (VA.ptr (cS.new rfl) (VA.refl _ _))))).mono ?_;rintro _ S1 ⟨b,g,rfl,p⟩;simp only[go_sem];exact⟨b,rfl,g,p.1⟩
def cN.appx{t e es:Nat}{S3:St}{y v:AV}{g:Nat->AV}(l:dQ t=some e)(m:(fZ e).isSome=true)(f:es=cg e)(a:dh S S3)(h:cN e es S0 S x j g)(n:j<1000000)(o:dY es v)
  (p:∃b gb ty,y=.sl es b 0 1/\S3 b=some ⟨ty,es,1,gb⟩/\gb 0=v/\S b=ae)
  (q:∀c S',cN e es S0 S' (.sl es c 0 (j+1)) (j+1) (fun i=>if i=j then v else g i)->(∀d X,S d=some X->¬dV x d->S' d=some X)->(dV x c∨S c=ae)->K (.sl es c 0 (j+1)) S'):gE t t x y S3 K:=by
 obtain⟨b,gb,ty,rfl,r,s,u⟩:=p;have w:cN e es S0 S3 x j g:=h.keep (x:=.nil) (h.1.trans a) (fun d X k _=>a d X k) (fun d _=>by rintro⟨_,_,_,e⟩;cases e)
 refine cN.app l m f w n o (aQ ⟨b,gb,ty,rfl,r,s,fun z=>h.fresh u b z rfl⟩) fun c S' A B C=>q c S' A (fun d X k D=>B d X (a d X k) D) (C.imp id fun h=>a.none h)
def kz(S:St)(n p:Nat)(H:az)(v:Nat->Nat)(W:eQ n H)(hg:jw (det n H) p)(hp:nI p)(hL:jn n p H v)(hG:kT S) :
  cI 41 [av n n H,ι p,aK n (fun k=>v k)] S (fun r S'=>∃b c gb g B S1,r=.tup [ϑ b 0 n,ϑ c 0 n,ι 0]/\tF n p H v B/\dh S S1/\S1 b=ae/\(∀i,i<n->S1 (gb i)=ae)/\dr S' b gb n n B/\dr S' c g n n (ko n p H B)/\dh S1 S'):=by
 have K:=W.one;have hn:=W.eight;have t:=hp.2;have hpp:(p:Int)*p<=99460729/\9<=(p:Int)*p:=by
  rw[<-aV];have a:=aX t.2 t.2;have b:=aX t.1 t.1;omega
 have wpp:ω ((p:Int)*p)=(p:Int)*p:=i64_in om om;refine jg func41 ntmps41 results41 ?_;simp -dsimp only[go_sem,aa];refine(DW S n p H v W hg hp hL hG).mono ?_;rintro _ S1 ⟨b,gB,B,S0,rfl,hB,hE0,A⟩;have Y:=A.1;have hE1:=hE0.trans A.2.1;simp -dsimp only[go_sem,aa,aR];refine(pj n n H K om K om (fun i j m o=>by have:=W.ent i j m o;omega) S1 _ (cD _ _)).mono ?_
 rintro _ S2 ⟨bf,gf,rfl,hf⟩;have Z:=Y.ext hf.2.1;have C:∀i j,i<n->j<n->nb (B i j) 27:=fun i j m o=>by have:=hB.ent hp m o;unfold nb;omega
 have hHn:∀i j,i<n->j<n->nb (H i j) 18:=fun i j m o=>W.ent.nb m o;simp -dsimp only[go_sem,aa];refine(oi n n 27 B K om K om C om S2 _ (eM.one Z.vr.va)).mono ?_;rintro _ S3 ⟨bt,gt,rfl,ht⟩;have hM3:=Z.ext ht.2.1;have hf3:=hf.1.ext ht.2.1;simp -dsimp only[go_sem,aa];refine(oo n n n 27 (fun i j=>B j i) H K om K om K om (fun i j m o=>(C j i o m).mono om) (fun i j m o=>(hHn i j m o).mono om) om S3 _ (eM.two ht.1.vr.va hf3.vr.va)).mono ?_;rintro _ S4 ⟨b1,g1,rfl,D⟩;have hM4:=hM3.ext D.2.1;have hmn:∀i j,i<n->j<n->nb (mm n (fun i j=>B j i) H i j) 53:=fun i j m o=>(me (f:=fun k=>B k i*H k j) (k:=45) n fun k hk=>(C k i hk m).mul (hHn k j hk o)).mono om;simp -dsimp only[go_sem,aa];refine(oo n n n 53 (mm n (fun i j=>B j i) H) B K om K om K om hmn (fun i j m o=>(C i j m o).mono om) om S4 _ (eM.two D.1.vr.va hM4.vr.va)).mono ?_;rintro _ S5 ⟨bp,gp,rfl,L⟩;have hPn:∀i j,i<n->j<n->nb (mm n (mm n (fun i j=>B j i) H) B i j) 88:=fun i j m o=>(me (f:=fun k=>mm n (fun i j=>B j i) H i k*B k j) (k:=80) n fun k hk=>(hmn i k m hk).mul (C k j hk o)).mono om;have hent:∀i j,i<n->j<n->(mm n (mm n (fun i j=>B j i) H) B i j/((p:Int)*p)).natAbs<=1120325651456000:=fun i j m o=>by
  have:=(hB.nbB hp).gent W hp m o;unfold ko at this
  rwa [aj ⟨m,o⟩]at this
 have hMb5:=((Y.ext hf.2.1).ext ht.2.1).ext (D.2.1.trans L.2.1);have hdvd:=fun i j (m:i<n) (o:j<n)=>hB.gram W hp m o;have hP5:=L.1;have hE5:dh S0 S5:=(((A.2.1.trans hf.2.1).trans ht.2.1).trans D.2.1).trans L.2.1;generalize hPP:mm n (mm n (fun i j=>B j i) H) B=P at *;clear L D hf ht hf3 hM4 hM3 Z Y hmn;simp -dsimp only[go_sem,aa,wpp];refine(fS (a:=(p:Int)*p) om om).call ?_;simp -dsimp only[go_sem];refine ax.intro fun l f15=>?_;simp only[go_sem,aa];have hV6:cS ((S5.upd l ⟨50,2,1,fun _=>ϱ 0⟩).upd l ⟨50,2,1,aL (fun _=>ϱ 0) 0 (ϱ ((p:Int)*p))⟩) l 50 2 (ϱ ((p:Int)*p)):=cS.set;have hE6:dh S5 ((S5.upd l ⟨50,2,1,fun _=>ϱ 0⟩).upd l ⟨50,2,1,aL (fun _=>ϱ 0) 0 (ϱ ((p:Int)*p))⟩):=((dh.refl S5).upd f15 _).upd f15 _;have hP6:=hP5.ext hE6;refine cf (fun O S=>∃(i:Nat) (x:AV) (g:Nat->Nat),i<=n/\O 6=ϑ b 0 n/\O 7=x/\O 15=ϖ l 0/\O 62=ϑ bp 0 n/\O 63=ι n/\O 64=ι i /\
  cN 59 1 ((S5.upd l ⟨50,2,1,fun _=>ϱ 0⟩).upd l ⟨50,2,1,aL (fun _=>ϱ 0) 0 (ϱ ((p:Int)*p))⟩) S x i (fun a=>ϕ (g a) 0 n)/\(∀a,a<i->iY S (g a) n (fun j=>P a j/(p*p)))/\∀a c,a<i->c<i->g a=g c->a=c) (fun O S=>n-bO (O 64)) ?_ ?_
 .simp only[go_sem];exact⟨0,om,rfl,fun _=>0,cN.nil (dh.refl _) _,fun a E=>om,fun a c E=>om⟩
 generalize (S5.upd l ⟨50,2,1,fun _=>ϱ 0⟩).upd l ⟨50,2,1,aL (fun _=>ϱ 0) 0 (ϱ ((p:Int)*p))⟩=S6 at *;rintro Q' hQ' O S ⟨i,x,g,m,e6,e7,M,F,G,I,q,Q,hI⟩;by_cases s:i<n
 .have hP:=hP6.ext q.1;obtain⟨g1,u1,v1⟩:=id hP.outer;have x1:g1 i=ϕ (gp i) 0 n:=v1 i s;simp only[go_sem,aa,F,G,I,s,u1,x1];refine cf (fun O S'=>∃(j:Nat) (y:AV),j<=n/\O 6=ϑ b 0 n/\O 7=x/\O 15=ϖ l 0/\O 18=y/\O 62=ϑ bp 0 n/\O 63=ι n/\O 64=ι i/\O 68=ϕ (gp i) 0 n/\O 69=ι n/\O 70=ι j /\
   cN 59 1 S6 S' x i (fun a=>ϕ (g a) 0 n)/\(∀a,a<i->iY S' (g a) n (fun j=>P a j/(p*p))/\¬dV y (g a))/\cN 50 2 S6 S' y j (fun c=>ϱ (P i c/(p*p)))/\∀d,dV x d->¬dV y d) (fun O S=>n-bO (O 70)) ?_ ?_
  .simp only[go_sem,e6,e7,M,F,G,I];exact⟨0,om,rfl,q,fun a E=>⟨Q a E,by rintro⟨_,_,_,e⟩;cases e⟩,cN.nil q.1 _,fun d _=>by rintro⟨_,_,_,e⟩;cases e⟩
  clear e6 e7 M F G I q Q hP u1 v1 x1;rintro Q2 hQ2 O S' ⟨j,y,o,e6,e7,M,e18,F,G,I,e68,e69,e70,q,Q,hY,hXY⟩;by_cases u:j<n
  .have hP:=hP6.ext q.1;obtain⟨g1,u1,v1⟩:=id (hP.row i s);have x1:g1 j=ϱ (P i j):=v1 j u;have hV:=hV6.ext q.1;have hb1:=hent i j s u;obtain⟨z,hz⟩:=hdvd i j s u;have hq:P i j/((p:Int)*p)=z:=by rw[hz,cn _ om]
   have hzb:z.natAbs<=1120325651456000:=by rw[<-hq];exact hb1
   simp -dsimp only[go_sem,aa,e68,e69,e70,u,u1];refine ax.intro fun b20 f20=>?_;obtain⟨g2,u2,v2⟩:=(id hV.get);have n20:l≠b20:=hV.fresh f20;simp -dsimp only[go_sem,aa,M,x1,n20,u2,v2,dL];refine(He (a:=P i j) (b:=(p:Int)*p) (k:=88) (hPn i j s u) (by unfold nb;omega) om om).call ?_
   rw[hq];simp -dsimp only[go_sem];refine ax.intro fun b21 f21=>?_;have n21_20:=(af f21).1
   try simp -dsimp only[go_sem]
   refine ax.intro fun b22 f22=>?_;have n22_21:=(af f22).1;have n22_20:=(af (af f22).2).1
   try simp -dsimp only[go_sem,nn n22_21]
   refine(pE (a:=z) (by unfold gU;omega)).call ?_
   simp -dsimp only[go_sem,aa,e18,ai n22_21,(om:¬(z < -4611686018427387904)),(om:¬((4611686018427387904:Int)<z)),dL]
   refine ax.intro fun b98 w=>?_;have n98_22:=(af w).1;have n98_21:=(af (af w).2).1;have n98_22:=(af (af (af w).2).2).1;have n98_21:=(af (af (af (af w).2).2).2).1;have n98_20:=(af (af (af (af (af w).2).2).2).2).1
   try simp -dsimp only[go_sem,e18]
   have R:S' b21=ae:=by simpa only[aE n21_20]using f21
   have T:S' b22=ae:=by simpa only[aE n22_21,aE n22_20]using f22
   have U:S' b98=ae:=by simpa only[aE n98_22,aE n98_21,aE n98_20]using w
   refine cN.appx rfl rfl rfl ((((((((dh.refl S').upd f20 _).upd f20 _).upd R _).upd T _).upd R _).upd T _).upd U _) hY om (show dY 2 (ϱ z)from trivial) ⟨_,_,_,rfl,bW,rfl,U⟩ ?_;intro c S2 hY' J N;simp only[*,go_sem,aF (om:j<1000000),bO]
   refine⟨⟨j+1,om,rfl,q.keep hY'.1 J hXY,fun a E=>?_,hY'.congr fun a E=>?_,fun d hd he=>?_⟩,om⟩
   .obtain⟨r1,r2⟩:=Q a E;refine⟨r1.via fun X q=>J _ _ q r2,fun hb=>?_⟩;rw[dP]at hb;rw[<-hb]at N;rcases N with h|h
    .exact r2 h
    .exact aY.fresh r1 h rfl
   .by_cases e:a=j
    .subst e;rw[aj rfl,hq]
    .rw[ah e]
   .rw[dP]at he;subst he;rcases N with h|h
    .exact hXY d hd h
    .exact q.fresh h d hd rfl
  .obtain rfl:j=n:=om
   rcases hY.2 with⟨h0,_⟩|⟨c,_,rfl,hC⟩
   .omega
   simp only[go_sem,aa,e68,e69,e70,u];rw[hQ2];simp -dsimp only[go_sem,e7,e18];refine ax.intro fun b103 V=>?_
   try simp -dsimp only[go_sem,e7]
   refine cN.appx rfl rfl rfl ((dh.refl S').upd V _) q om (show dY 1 (ϕ c 0 j)from trivial) ⟨_,_,_,rfl,bW,rfl,V⟩ ?_;intro d S2 hX' J N;have hxc:¬dV x c:=fun h=>hXY c h (dP.2 rfl);simp only[*,go_sem,aF (om:i<1000000),bO]
   refine⟨⟨i+1,om,rfl,fun a=>if a=i then c else g a,hX'.congr fun a E=>by grind,fun a E=>?_,fun a d E hd e=>?_⟩,om⟩
   .by_cases e:a=i
    .subst e;simp only[aH];exact hC.via fun X q=>J _ _ q hxc
    .simp only[e,aI];obtain⟨gg,hgg,hg2⟩:=(Q a om).1;exact⟨gg,J _ _ hgg (q.other hgg om),hg2⟩
   .have k1:=fun a E=>(Q a E).2;simp only[dP]at k1
    grind
 have hin:i=n:=om
 rw[hin]at q Q hI;rcases q.2 with⟨h0,_⟩|⟨c,_,rfl,hC⟩
 .omega
 simp only[go_sem,aa,F,G,I,s];rw[hQ'];simp only[*,go_sem];refine⟨b,c,rfl,gB,g,B,hB,S0,hE0,A.2.2.1,A.2.2.2,hMb5.ext (hE6.trans q.1),dr.congr ⟨hC,Q,hI⟩ fun i j m o=>?_,(hE5.trans hE6).trans q.1⟩;unfold ko;rw[aj ⟨m,o⟩,hPP]
def F1(S:St)(n p:Nat)(H:az)(v:Nat->Nat)(a:eQ n H)(m:jw (det n H) p)(d:nI p)(o:jn n p H v)(q:kT S) :
  cI 25 [av n n H,ι p,aK n (fun k=>v k)] S (fun r S'=>∃c g B S1,r=.tup [ϑ c 0 n,ι 0]/\tF n p H v B/\dh S S1/\gZ S1 S' c g n n (ko n p H B)):=by
 have h:=a.one;have z:=a.eight;refine jg func25 ntmps25 results25 ?_;simp -dsimp only[go_sem,aa];refine(kz S n p H v a m d o q).mono ?_;rintro _ S1 ⟨b,c,gb,g,B,S0,rfl,l,e,_,_,_,s,t⟩;simp -dsimp only[go_sem,aa,aR];refine(qG n n (ko n p H B) h om h om (fun i j u w=>by have:=(l.nbB d).gent a d u w;unfold gU;omega) S1 _ (eM.one s.vr.va)).mono ?_
 rintro _ S2 ⟨x,y,rfl,f⟩;simp only[go_sem];exact⟨x,rfl,y,B,l,S1,e.trans t,f⟩

def tT(n:Nat)(A:az)(a:1<=n)(b:n<=16):PF 242 [aP n n A] (.tup [ι n,.bool true]):=by
 refine iy func242 ntmps242 results242 ?_;simp -dsimp only[go_sem,aa];refine(ll n n A a b a b).call ?_;simp only[go_sem,cb];exact VR.tup (by simp[rm])
def Rz:da 192 1 [(0,x)] S K=(dY 1 x/\ax S (fun b=>K (ϑ b 0 1) (S.upd b ⟨52,1,1,fun j=>[x].getD j .any⟩))):=by
 simp only[da,dQ,cg];simp[eD,fZ,ax]
def rd(n:Nat)(A:az):AV:=.lst 1 n (fun k=>aP (n-k) (n-k) (cl A k))
def Cz(n K:Nat)(A:az)(o:1<=n)(w:n<=16)(hK:K<=1000000)(hS:∀k i j,k+i<n->k+j<n->nb (cl A k i j) K)(W:∀k,k<=n->det k A≠0)(hd1:∀k,k<n->nb (det k A) K):PF 204 [aP n n A] (.tup [rd n A,.bool true]):=by
 have hA:∀i j,i<n->j<n->nb (A i j) K:=fun i j Y G=>by have:=hS 0 i j om om;rwa [eV]at this
 refine iy func204 ntmps204 results204 ?_;simp -dsimp only[go_sem,aa,aP,bn];refine ax.intro fun b1 f1=>?_;simp -dsimp only[go_sem];refine(tT n A o w).call ?_;simp -dsimp only[go_sem,aa];refine(zD n n 244 [.pat 1 (aP n n A)] A om o w o w (fun i j Y G=>RY n A i j K Y G (hA i j Y G) om) _ _ (eM.fn1 (eM.one (VA.ptr (cS.new rfl) (VA.refl _ _))))).mono ?_;rintro _ S1 ⟨b0,e0,rfl,y,hE0,hn0,hm0⟩;simp -dsimp only[go_sem,aa];refine(fS (a:=1) om om).call ?_;simp -dsimp only[go_sem];refine ax.intro fun l f7=>?_;simp only[go_sem,aa];have H:kU ((S1.upd l ⟨50,2,1,fun _=>ϱ 0⟩).upd l ⟨50,2,1,aL (fun _=>ϱ 0) 0 (ϱ 1)⟩) b0 e0 n n A:=y.ext (((dh.refl S1).upd f7 _).upd f7 _);have p:e0≠l:=fun h=>by obtain⟨g,o,_⟩:=y.inner;rw[h,f7]at o;cases o
 refine cf (fun O S=>∃(k:Nat) (x:AV) (bs es:Nat->Nat),k<n/\O 4=ι n/\O 6=ϑ (bs k) 0 (n-k)/\O 7=ϖ l 0/\O 8=x/\O 23=ι n/\O 24=ι k/\cS S l 50 2 (ϱ (det k A))/\cN 52 1 St.none S x k (fun a=>ϑ (bs a) 0 (n-a))/\(∀a,a<=k->kU S (bs a) (es a) (n-a) (n-a) (cl A a)/\es a≠l)) (fun O S=>n-bO (O 24)) ?_ ?_
 .simp only[go_sem];exact⟨0,om,.nil,fun _=>b0,rfl,rfl,rfl,cS.set,cN.nil (fun k X h=>by cases h) _,fun _=>e0,fun a E=>by
   obtain rfl:a=0:=om
   exact⟨by rw[dD,show cl A 0=A from funext fun _=>funext fun _=>eV ..];exact H,p⟩⟩
 clear H p y hE0;rintro Q' hQ' O S ⟨k,x,bs,es,hk,Z,I,e7,e8,J,L,hV,s,hF⟩;obtain⟨g7,u7,v7⟩:=id hV;have hx7:¬dV x l:=s.other u7 om;simp -dsimp only[go_sem,I,e8,J,L,hk,Rz];refine ax.intro fun b29 M=>?_
 try simp -dsimp only[go_sem,e8]
 refine cN.appx rfl rfl rfl ((dh.refl S).upd M _) s om (show dY 1 (ϑ (bs k) 0 (n-k))from trivial) ⟨_,_,_,rfl,bW,rfl,M⟩ ?_;intro c S2 N z hk3;have hV2:cS S2 l 50 2 (ϱ (det k A)):=⟨g7,z _ _ u7 hx7,v7⟩;have B:∀a,a<=k->kU S2 (bs a) (es a) (n-a) (n-a) (cl A a)/\es a≠l:=fun a E=>by
  obtain⟨o,w⟩:=hF a E;obtain⟨g,F,h4⟩:=o.inner;obtain⟨g',h5,h6⟩:=o.outer;exact⟨o.via (fun X s=>z _ _ s (by rw[h5]at s;exact cN.other ‹_› h5 om)) (fun X s=>z _ _ s (by rw[F]at s;exact cN.other ‹_› F om)),w⟩
 obtain⟨g8,u8,v8⟩:=id hV2;have P:ω ((n:Int)-1)=((n-1:Nat):Int):=by rw[pi o];exact i64_in om om
 by_cases hlast:k+1=n
 .have hb:((k:Int)==((n-1:Nat):Int))=true:=by simp;omega
  simp only[go_sem,aa,Z,I,e8,P,hb];rw[hQ'];simp only[go_sem];rcases N.2 with⟨h0,_⟩|⟨c',_,C,hC⟩
  .omega
  cases C
  refine VR.tup2 ?_ (VR.mf rfl);unfold rd;rw[<-hlast];refine VR.sl hC om fun a E=>?_;rw[aM];have F:=(B a om).1.vr;rw[<-hlast]at F;by_cases e:a=k
  .subst e;simp only[aH];rw[<-hlast];exact F
  .simp only[e,aI];rw[<-hlast];exact F
 .have hb:((k:Int)==((n-1:Nat):Int))=false:=by simp;omega
  obtain⟨D,hek⟩:=B k (ag _);obtain⟨g9,u9,v9⟩:=id D.outer;obtain⟨g5,u5,v5⟩:=id D.inner;have m:0<n-k:=om
  have x9:g9 0=ϕ (es k) 0 (n-k):=(v9 0 m).trans sm
  have x5:g5 0=ϱ (cl A k 0 0):=by have:=v5 0 0 m m;rwa [nJ]at this
  have t:0<(n-k)*(n-k):=yW m m;simp -dsimp only[go_sem,aa,Z,I,e8,P,hb,u9,x9,u5,x5,m,t]
  repeat refine an ?_
  have Q:=cH A k;have hne:=W (k+1) om;refine(ka (hS k 0 0 om om) om).call ?_;have hsg:((cl A k 0 0).sign==0)=false:=by
   rw[Q];simp[iA,hne]
  simp -dsimp only[go_sem,I,x9,x5,hsg];refine ax.intro fun d q=>?_;have w0:ω ((n:Int)-k)=((n-k:Nat):Int):=by
   rw[show(n:Int)-k=((n-k:Nat):Int) by omega];exact i64_in om om
  have wn:ω (ω ((n:Int)-k)-1)=((n-k-1:Nat):Int):=by
   rw[w0,show((n-k:Nat):Int)-1=((n-k-1:Nat):Int) by omega];exact i64_in om om
  try simp -dsimp only[go_sem,Z,I,e7,wn]
  have h10:d≠l:=fun h=>by rw[h,u8]at q;cases q
  have r:dh S2 ((S2.upd d ⟨52,1,1,fun _=>.nil⟩).upd d ⟨52,1,1,aL (fun _=>.nil) 0 (ϑ (bs k) 0 (n-k))⟩):=((dh.refl S2).upd q _).upd q _;have u:cS ((S2.upd d ⟨52,1,1,fun _=>.nil⟩).upd d ⟨52,1,1,aL (fun _=>.nil) 0 (ϑ (bs k) 0 (n-k))⟩) d 52 1 (ϑ (bs k) 0 (n-k)):=cS.set;generalize (S2.upd d ⟨52,1,1,fun _=>AV.nil⟩).upd d ⟨52,1,1,aL (fun _=>AV.nil) 0 (ϑ (bs k) 0 (n-k))⟩=S3 at *;have hq:∀i j,(cl A k 0 0*cl A k (i+1) (j+1)-cl A k (i+1) 0*cl A k 0 (j+1))/det k A=cl A (k+1) i j:=fun i j=>by
   rw[ie (fun j G=>W j om),cn _ (W k om)]
  refine(zD (n-k-1) (n-k-1) 245 [.pat 1 (aP (n-k) (n-k) (cl A k)),.pat 2 (ϱ (det k A))] (cl A (k+1)) om om om om om (fun i j Y G=>hq i j▸RX (n-k) (cl A k) (det k A) i j K om om om (fun a b E hb=>hS k a b om om) (hd1 k hk) om (W k om)) _ _ (eM.fn1 (eM.two (VA.ptr u (D.ext r).vr.va) (VA.ptr (r.has (b:=l) (n:=1) (g:=g8) ⟨g8,u8,fun _ _=>rfl⟩ |> fun h=>by obtain⟨g,o,w⟩:=h;exact⟨g,o,(w 0 om).trans v8⟩) (VA.refl _ _))))).mono ?_
  rintro _ S4 ⟨b',e',rfl,hF',R,T,v⟩;have f:=r.trans R;have u84:=f _ _ u8;obtain⟨g10,u10,v10⟩:=id u;have U:=R _ _ u10;have u94:=f _ _ u9;have u54:=f _ _ u5;simp only[go_sem,aa,Z,e7,J,L,u84,U,v10,u94,x9,u54,x5,m,t,aF (om:k<1000000),bO]
  repeat refine an ?_
  rcases N.2 with⟨h0,_⟩|⟨c',_,C,hC⟩
  .omega
  cases C
  have V:=r _ _ u8;have hb7:b'≠l:=fun h=>by rw[h,V]at T;cases T
  have p:e'≠l:=fun h=>by rw[h,V]at v;cases v
  have hc7:c≠l:=aY.ne hC (aY.of u8) om;refine⟨⟨k+1,om,ϑ c 0 (k+1),fun a=>if a=k+1 then b' else bs a,by dsimp only;rw[aj rfl,(om:n-(k+1)=n-k-1)],rfl,rfl,by rw[<-Q];exact cS.set,⟨fun k X h=>(by cases h),aQ ⟨c,rfl,rfl,((f.has hC).upd hc7 _).congr fun a E=>?_⟩⟩,fun a=>if a=k+1 then e' else es a,fun a E=>?_⟩,om⟩
  .by_cases e:a=k
   .subst e;dsimp only;rw[aj rfl,ah om]
   .dsimp only;rw[ah e,ah om]
  .dsimp only;by_cases e:a=k+1
   .subst e;rw[aj rfl,aj rfl,(om:n-(k+1)=n-k-1)]
    exact⟨hF'.via (fun X h=>(aE hb7).trans h) (fun X h=>(aE p).trans h),p⟩
   .rw[ah e,ah e];obtain⟨p1,p2⟩:=B a om;have hba:bs a≠l:=aY.ne p1.outer (aY.of u8) om;exact⟨(p1.ext f).via (fun X h=>(aE hba).trans h) (fun X h=>(aE p2).trans h),p2⟩

def stV(bm bl n:Nat):Nat->AV:=fun j=>[ϕ bm 0 (n+1),ϑ bl 0 n,.nil,.nfn].getD j .any
structure vX(T:St)(n:Nat)(x4:AV)(L:Nat->Bool)(O:Tm)(S:St):Prop where
 b3:O 3=ι n
 b4:O 4=x4
 p0:L 0=true->O 16=ι n
 p1:L 1=true->O 17=ι ((n+1:Nat):Int)
 p3:L 3=true->O 19=ι n
 ext:dh T S
 ex:∃bm bl bs,(L 2=true->O 18=ϕ bm 0 (n+1)/\aY S bm 50 2 (n+1) (fun _=>ϱ 0)/\T bm=ae)/\(L 4=true->O 20=ϑ bl 0 n/\aY S bl 59 1 n (fun _=>.nil)/\T bl=ae) /\
  (L 5=true->L 2=true/\L 4=true/\O 21=.agg [ϕ bm 0 (n+1),ϑ bl 0 n,.nil,.nfn])/\(L 6=true->L 5=true/\O 22=ϰ bs 0/\aY S bs 160 1 4 (stV bm bl n)/\T bs=ae)/\(L 7=true->L 6=true/\O 6=ϰ bs 0)
section
variable {T:St} {n:Nat} {x4:AV} {L:Nat->Bool} {O:Tm} {S:St}
def vX.pure(h:vX T n x4 L O S){i d:Nat}{z:AV}(a:d≠3/\d≠4/\d≠18/\d≠20/\d≠21/\d≠22/\d≠6)(b:i≠2/\i≠4/\i≠5/\i≠6/\i≠7)
  (c:(if 0=i then true else L 0)=true->(O.put (some d) z) 16=ι n) (e:(if 1=i then true else L 1)=true->(O.put (some d) z) 17=ι ((n+1:Nat):Int)) (f:(if 3=i then true else L 3)=true->(O.put (some d) z) 19=ι n) :
  vX T n x4 (fun k=>if k=i then true else L k) (O.put (some d) z) S:=by
 obtain⟨g,l,m,o,p,q,r⟩:=a;obtain⟨s,t,u,v,w⟩:=b;obtain⟨bm,bl,bs,x,y,A,B,C⟩:=h.ex;have k:∀j,j≠i->(if j=i then true else L j)=L j:=fun j D=>ah D
 refine⟨by rw[pt (ai g)];exact h.b3,by rw[pt (ai l)];exact h.b4,c,e,f,h.ext,bm,bl,bs,?_⟩
 rw[k 2 (ai s),k 4 (ai t),k 5 (ai u),k 6 (ai v),k 7 (ai w),pt (ai m),pt (ai o),pt (ai p),pt (ai q),pt (ai r)];exact⟨x,y,A,B,C⟩
def vX.s0(h:vX T n x4 L O S):vX T n x4 (fun k=>if k=0 then true else L k) (O.put (some 16) (ι n)) S :=
 h.pure dc dc (fun _=>pd) (fun a=>by rw[pt dc];exact h.p1 (gY a dc)) (fun a=>by rw[pt dc];exact h.p3 (gY a dc))
def vX.s1(h:vX T n x4 L O S):vX T n x4 (fun k=>if k=1 then true else L k) (O.put (some 17) (ι ((n+1:Nat):Int))) S :=
 h.pure dc dc (fun a=>by rw[pt dc];exact h.p0 (gY a dc)) (fun _=>pd) (fun a=>by rw[pt dc];exact h.p3 (gY a dc))
def vX.s3(h:vX T n x4 L O S):vX T n x4 (fun k=>if k=3 then true else L k) (O.put (some 19) (ι n)) S :=
 h.pure dc dc (fun a=>by rw[pt dc];exact h.p0 (gY a dc)) (fun a=>by rw[pt dc];exact h.p1 (gY a dc)) (fun _=>pd)
def vX.s2(h:vX T n x4 L O S)(b:L 2=false){c:Nat}(d:S c=ae)(z:Nat->AV)(l:∀i,i<n+1->z i=ϱ 0):vX T n x4 (fun k=>if k=2 then true else L k) (O.put (some 18) (ϕ c 0 (n+1))) (S.upd c ⟨50,2,n+1,z⟩):=by
 have e:=h.ext.none d;obtain⟨bm,bl,bs,x,m,o,p,q⟩:=h.ex;have f:L 5=true->False:=fun r=>by rw[(o r).1]at b;cases b
 have g:L 6=true->False:=fun s=>f (p s).1;have t:L 7=true->False:=fun u=>g (q u).1;refine⟨by rw[pt dc];exact h.b3,by rw[pt dc];exact h.b4,fun a=>by rw[pt dc];exact h.p0 (gY a dc),fun a=>by rw[pt dc];exact h.p1 (gY a dc),fun a=>by rw[pt dc];exact h.p3 (gY a dc),h.ext.upd e _,c,bl,bs,fun _=>⟨pd,aY.here l,e⟩,fun a=>?_,fun a=>(f (gY a dc)).elim,fun a=>(g (gY a dc)).elim,fun a=>(t (gY a dc)).elim⟩
 obtain⟨v,j,w⟩:=m (gY a dc)
 exact⟨by rw[pt dc];exact v,j.upd (aY.fresh j d) _,w⟩
def vX.s4(h:vX T n x4 L O S)(b:L 4=false){c:Nat}(d:S c=ae)(z:Nat->AV)(l:∀i,i<n->z i=.nil):vX T n x4 (fun k=>if k=4 then true else L k) (O.put (some 20) (ϑ c 0 n)) (S.upd c ⟨59,1,n,z⟩):=by
 have e:=h.ext.none d;obtain⟨bm,bl,bs,m,x,o,p,q⟩:=h.ex;have f:L 5=true->False:=fun r=>by rw[(o r).2.1]at b;cases b
 have g:L 6=true->False:=fun s=>f (p s).1;have t:L 7=true->False:=fun u=>g (q u).1;refine⟨by rw[pt dc];exact h.b3,by rw[pt dc];exact h.b4,fun a=>by rw[pt dc];exact h.p0 (gY a dc),fun a=>by rw[pt dc];exact h.p1 (gY a dc),fun a=>by rw[pt dc];exact h.p3 (gY a dc),h.ext.upd e _,bm,c,bs,fun a=>?_,fun _=>⟨pd,aY.here l,e⟩,fun a=>(f (gY a dc)).elim,fun a=>(g (gY a dc)).elim,fun a=>(t (gY a dc)).elim⟩
 obtain⟨v,j,w⟩:=m (gY a dc)
 exact⟨by rw[pt dc];exact v,j.upd (aY.fresh j d) _,w⟩
def vX.s5(h:vX T n x4 L O S)(b:L 2=true)(c:L 4=true)(d:L 5=false):∃bm bl,O 18=ϕ bm 0 (n+1)/\O 20=ϑ bl 0 n/\vX T n x4 (fun k=>if k=5 then true else L k) (O.put (some 21) (.agg [ϕ bm 0 (n+1),ϑ bl 0 n,.nil,.nfn])) S:=by
 obtain⟨bm,bl,bs,e,f,p,i,j⟩:=h.ex;have g:L 6=true->False:=fun l=>by rw[(i l).1]at d;cases d
 have m:L 7=true->False:=fun o=>g (j o).1;refine⟨bm,bl,(e b).1,(f c).1,by rw[pt dc];exact h.b3,by rw[pt dc];exact h.b4,fun a=>by rw[pt dc];exact h.p0 (gY a dc),fun a=>by rw[pt dc];exact h.p1 (gY a dc),fun a=>by rw[pt dc];exact h.p3 (gY a dc),h.ext,bm,bl,bs,fun _=>by rw[pt dc];exact e b,fun _=>by rw[pt dc];exact f c,fun _=>⟨by simpa using b,by simpa using c,pd⟩,fun a=>(g (gY a dc)).elim,fun a=>(m (gY a dc)).elim⟩
def vX.s6(h:vX T n x4 L O S)(e:L 5=true)(f:L 6=false):∃bm bl,O 21=.agg [ϕ bm 0 (n+1),ϑ bl 0 n,.nil,.nfn]/\∀c,S c=ae->∀z,(∀j,j<4->z j=stV bm bl n j)->vX T n x4 (fun k=>if k=6 then true else L k) (O.put (some 22) (ϰ c 0)) (S.upd c ⟨160,1,4,z⟩):=by
 obtain⟨bm,bl,bs,p,q,r,B,s⟩:=h.ex;obtain⟨g,i,b⟩:=r e;have t:L 7=true->False:=fun u=>by rw[(s u).1]at f;cases f
 refine⟨bm,bl,b,fun c d z v=>?_⟩;have l:=h.ext.none d;obtain⟨w,m,x⟩:=p g;obtain⟨y,o,A⟩:=q i;exact⟨by rw[pt dc];exact h.b3,by rw[pt dc];exact h.b4,fun a=>by rw[pt dc];exact h.p0 (gY a dc),fun a=>by rw[pt dc];exact h.p1 (gY a dc),fun a=>by rw[pt dc];exact h.p3 (gY a dc),h.ext.upd l _,bm,bl,c,fun _=>⟨by rw[pt dc];exact w,m.upd (aY.fresh m d) _,x⟩,fun _=>⟨by rw[pt dc];exact y,o.upd (aY.fresh o d) _,A⟩,fun _=>⟨by simpa using g,by simpa using i,by rw[pt dc];exact b⟩,fun _=>⟨by simpa using e,pd,aY.here v,l⟩,fun a=>(t (gY a dc)).elim⟩
def vX.s7(h:vX T n x4 L O S)(d:L 6=true):∃bs,O 22=ϰ bs 0/\vX T n x4 (fun k=>if k=7 then true else L k) (O.put (some 6) (ϰ bs 0)) S:=by
 obtain⟨bm,bl,bs,i,j,l,m,q⟩:=h.ex;obtain⟨e,a,o,p⟩:=m d;obtain⟨f,g,c⟩:=l e;exact⟨bs,a,by rw[pt dc];exact h.b3,by rw[pt dc];exact h.b4,fun b=>by rw[pt dc];exact h.p0 (gY b dc),fun b=>by rw[pt dc];exact h.p1 (gY b dc),fun b=>by rw[pt dc];exact h.p3 (gY b dc),h.ext,bm,bl,bs,fun _=>by rw[pt dc];exact i f,fun _=>by rw[pt dc];exact j g,fun _=>⟨by simpa using f,by simpa using g,by rw[pt dc];exact c⟩,fun _=>⟨by simpa using e,by rw[pt dc];exact a,o,p⟩,fun _=>⟨by simpa using d,pd⟩⟩
end
structure Lh(S0 S:St)(bs bm bl:Nat)(gl:Nat->Nat)(n k:Nat)(A L:az):Prop where
 ext:dh S0 S
 cell:aY S bs 160 1 4 (stV bm bl n)
 mino:aY S bm 50 2 (n+1) (fun c=>if c<k+1 then ϱ (det c A)else ϱ 0)
 lamo:aY S bl 59 1 n (fun i=>if i<k then ϕ (gl i) 0 i else .nil)
 lamr:∀i,i<k->iY S (gl i) i (L i)
 n1:∀i,i<k->gl i≠bm
 n4:∀i j,i<k->j<k->gl i=gl j->i=j
 ns:S0 bs=ae
 nm:S0 bm=ae
 nl:S0 bl=ae
 nr:∀i,i<k->S0 (gl i)=ae
def Lh.push{bm bd:Nat}{gl:Nat->Nat}(h:Lh S0 V bs bm bl gl n k A L)(B:k<n)(um:V bm=some ⟨50,2,n+1,gm⟩)(ul:V bl=some ⟨59,1,n,g2⟩)(t:(V.upd bm ⟨50,2,n+1,aL gm (k+1) (ϱ (det (k+1) A))⟩) bd=ae)(v:∀j,j<k->z0 j=ϱ 0) :
  Lh S0 (((V.upd bm ⟨50,2,n+1,aL gm (k+1) (ϱ (det (k+1) A))⟩).upd bd ⟨50,2,k,z0⟩).upd bl ⟨59,1,n,aL g2 k (ϕ bd 0 k)⟩) bs bm bl (fun a=>if a=k then bd else gl a) n (k+1) A (fun a x=>if a<k then L a x else 0):=by
 have d:=(af t).1;have b:=(af t).2;have f:bs≠bm:=aY.ne h.cell h.mino dc
 have l:bs≠bl:=aY.ne h.cell h.lamo dc
 have w:bm≠bl:=aY.ne h.mino h.lamo dc
 have y:bs≠bd:=aY.fresh h.cell b;have z:bl≠bd:=aY.fresh h.lamo b;refine⟨((h.ext.upd h.nm _).upd (h.ext.none b) _).upd h.nl _,((h.cell.upd f _).upd y _).upd l _,?_,?_,fun i p=>?_,fun i p=>?_,fun i j p u e=>?_,h.ns,h.nm,h.nl,fun i p=>?_⟩
 .refine aY.upd (aY.upd (aY.here fun c q=>?_) (ai d) _) w _;obtain⟨g,m,r⟩:=h.mino;rw[um]at m;cases m;simp only[aL];by_cases e:c=k+1
  .subst e;rw[aj rfl,aj om]
  .have o:=r c q;dsimp only at o;rw[ah e,o];by_cases e':c<k+1
   .rw[aj e',aj om]
   .rw[ah e',ah om]
 .refine aY.here fun c q=>?_;obtain⟨g,m,r⟩:=h.lamo;rw[ul]at m;cases m;simp only[aL];by_cases e:c=k
  .subst e;rw[aj rfl,aj om,aj rfl]
  .have o:=r c q;dsimp only at o;rw[ah e,o,ah e];by_cases e':c<k
   .rw[aj e',aj om]
   .rw[ah e',ah om]
 .try dsimp only
  by_cases e:i=k
  .subst e;rw[aj rfl];exact(aY.here fun j u=>by dsimp only;rw[v j u,ah om]).upd (ai z) _
  .rw[ah e];have s:=h.lamr i om;refine(((s.upd (h.n1 i om) _).upd (aY.fresh s b) _).upd (aY.ne s h.lamo dc) _).congr fun j _=>by dsimp only;rw[aj om]
 .try dsimp only
  split
  .exact d
  .exact h.n1 i om
 .try dsimp only at e
  by_cases f:i=k<;>by_cases l:j=k
  .omega
  .rw[aj f,ah l]at e;exact absurd e.symm (aY.fresh (h.lamr j om) b)
  .rw[ah f,aj l]at e;exact absurd e (aY.fresh (h.lamr i om) b)
  .rw[ah f,ah l]at e;exact h.n4 i j om om e
 .try dsimp only
  split
  .exact h.ext.none b
  .exact h.nr i om
def Lh.set{bm:Nat}{gl:Nat->Nat}{g:Nat->AV}(h:Lh S0 V bs bm bl gl n k A L)(b:i<k)(u:V (gl i)=some ⟨50,2,i,g⟩):Lh S0 (V.upd (gl i) ⟨50,2,i,aL g j (ϱ z)⟩) bs bm bl gl n k A (dU L i j z):=by
 refine⟨h.ext.upd (h.nr i b) _,h.cell.upd (aY.ne h.cell (aY.of u) dc) _,h.mino.upd (ai (h.n1 i b)) _,h.lamo.upd (aY.ne h.lamo (aY.of u) dc) _,fun a c=>?_,h.n1,h.n4,h.ns,h.nm,h.nl,h.nr⟩
 by_cases e:a=i
 .subst e;obtain⟨o,d,f⟩:=h.lamr a c;rw[u]at d;cases d;refine aY.here fun x l=>?_;have:=f x l;simp only[aL,dU]
  grind
 .refine((h.lamr a c).upd (fun m=>e (h.n4 a i c b m)) _).congr fun x _=>?_;simp[dU,e]
def Lh.congr{bm:Nat}{gl:Nat->Nat}(h:Lh S0 V bs bm bl gl n k A L)(b:∀i j,i<k->j<i->L i j=L' i j):Lh S0 V bs bm bl gl n k A L' :=
 ⟨h.ext,h.cell,h.mino,h.lamo,fun i a=>(h.lamr i a).congr fun j c=>by rw[b i j a c],h.n1,h.n4,h.ns,h.nm,h.nl,h.nr⟩
def A8(n:Nat)(d:1<=n)(e:n<=16):CF 205 [ι n] n n jT:=by
 refine CF.of ?_;refine jg func205 ntmps205 results205 ?_;simp -dsimp only[go_sem,aa,(om:¬((n:Int)<1)),(om:¬((16:Int)<(n:Int)))]
 refine(fS (a:=1) om om).call ?_;simp -dsimp only[go_sem,aa];refine(B8 n 1 1 om (by unfold nb;decide) om _ _ (cD _ _)).mono ?_
 rintro _ S1 ⟨b,g,rfl,c⟩;simp only[go_sem];exact⟨b,rfl,g,c.1⟩
def Bn(S:St)(n K c:Nat)(gc:Nat->Nat)(A:az)(h1:1<=n)(h2:n<=15)(hK:K<=1000000)(hS:∀k i j,k+i<n->k+j<n->nb (cl A k i j) K)(hd:∀k,k<=n->det k A≠0)(Z:∀k,k<n->nb (det k A) K)(hM:dr S c gc n n A) :
  cI 160 [ϑ c 0 n] S (fun r S'=>∃M,r=ϰ M.bs 0/\lJ S' M n (fun k=>det k A) (fq A) jT/\dh S S'/\∀d,nN M n d->S d=ae):=by
 refine jg func160 ntmps160 results160 ?_;have wn:=aF (om:n<1000000)
 simp -dsimp only[go_sem,aa];refine(Cz n K A h1 om hK hS hd Z).spec (eM.one hM.vr.va) ?_;simp -dsimp only[go_sem];refine wU (vX S n (rd n A)) kr ?_ ?_ ?_
 .refine⟨by simp only[go_sem],by simp only[go_sem],(fun h=>by cases h),(fun h=>by cases h),(fun h=>by cases h),dh.refl S,0,0,0,(fun h=>by cases h),(fun h=>by cases h),(fun h=>by cases h),(fun h=>by cases h),(fun h=>by cases h)⟩
 .refine⟨?_,?_,?_,?_,?_,?_,?_,?_,trivial⟩
  .intro L O S l m g;refine dl rfl ?_;simp only[go_sem,l.b3];exact l.s0
  .intro L O S l m g;have al:∀k,_->L k=true:=aG.1 g;refine dl rfl ?_;simp only[go_sem,l.p0 (al 0 dc),wn]
   exact l.s1
  .intro L O S l m g;have al:∀k,_->L k=true:=aG.1 g;refine dl rfl ?_;simp -dsimp only[go_sem,l.p1 (al 1 dc)]
   repeat refine an ?_
   refine ax.intro fun bw fw=>?_;exact l.s2 m fw _ (fun _ _=>rfl)
  .intro L O S l m g;refine dl rfl ?_;simp only[go_sem,l.b3];exact l.s3
  .intro L O S l m g;have al:∀k,_->L k=true:=aG.1 g;refine dl rfl ?_;simp -dsimp only[go_sem,l.p3 (al 3 dc)]
   repeat refine an ?_
   refine ax.intro fun bw fw=>?_;exact l.s4 m fw _ (fun _ _=>rfl)
  .intro L O S l m g;have al:∀k,_->L k=true:=aG.1 g;refine dl rfl ?_;obtain⟨bm,bl,p,w,U⟩:=l.s5 (al 2 dc) (al 4 dc) m
   simp only[go_sem,p,w];exact U
  .intro L O S l m g;have al:∀k,_->L k=true:=aG.1 g;refine dl rfl ?_;obtain⟨bm,bl,p,w⟩:=l.s6 (al 5 dc) m
   simp only[go_sem,p,aU,bF,ca,cA];refine ax.intro fun bw fw=>?_;exact w _ fw _ (fun j hj=>rfl)
  .intro L O S l m g;have al:∀k,_->L k=true:=aG.1 g;refine dl rfl ?_;obtain⟨bs,p,w⟩:=l.s7 (al 6 dc)
   simp only[go_sem,p];exact w
 intro L O S1 l m;obtain⟨bm,bl,bs,m2,m4,m5,m6,m7⟩:=l.ex;obtain⟨_,W,c3⟩:=m2 (m 2 dc)
 obtain⟨_,X,d3⟩:=m4 (m 4 dc)
 obtain⟨_,_,y,e3⟩:=m6 (m 6 dc)
 have e6:=(m7 (m 7 dc)).2
 have D:=l.b3;have E:=l.b4;have hE:=l.ext;clear l m m2 m4 m5 m6 m7;have p:bs≠bm:=aY.ne y W dc
 have w:bs≠bl:=aY.ne y X dc
 have U:bm≠bl:=aY.ne W X dc
 obtain⟨gs,us,vs⟩:=id y;obtain⟨gm,um,vm⟩:=id W;have z0:gs 0=ϕ bm 0 (n+1):=vs 0 om;simp -dsimp only[go_sem];refine aN 6 kr ?_
 simp only[go_sem,aa,D,e6,us,z0,um];refine⟨_,(fS (a:=1) om om).pure',?_⟩;simp only[go_sem]
 repeat refine an ?_
 have f:Lh S (S1.upd bm ⟨50,2,n+1,aL gm 0 (ϱ 1)⟩) bs bm bl (fun _=>0) n 0 A (fq A) :=
  ⟨hE.upd c3 _,y.upd p _,aY.here fun x G=>by
   simp only[aL];by_cases e:x=0
   .subst e;rw[aj rfl,aj om];rfl
   .rw[ah e,ah om];exact vm x G,(X.upd (ai U) _).congr fun i _=>by rw[ah om],fun i Y=>om,fun i Y=>om,fun i j Y=>om,e3,c3,d3,fun i Y=>om⟩
 refine cf (fun O V=>∃(i:Nat) (gl:Nat->Nat),i<=n/\O 3=ι n/\O 4=rd n A/\O 6=ϰ bs 0/\O 29=ι n/\O 30=ι i/\Lh S V bs bm bl gl n i A (fq A)) (fun O V=>n-bO (O 30)) ?_ ?_
 .simp only[*,go_sem];exact⟨0,om,rfl,_,f⟩
 clear f us um vs vm z0 D E e6 W X y c3 d3 e3 hE;clear gs gm;rintro Q' H O V ⟨i,gl,Y,D,E,I,q,s,f⟩;obtain⟨gs,us,vs⟩:=id f.cell;obtain⟨gm,um,vm⟩:=id f.mino;obtain⟨g2,ul,vl⟩:=id f.lamo;have z0:gs 0=ϕ bm 0 (n+1):=vs 0 om;have F:gs 1=ϑ bl 0 n:=vs 1 om;by_cases o:i<n
 .have wi:=aF (om:i<1000000)
  simp -dsimp only[go_sem,q,s,o];refine aN 15 kr ?_
  simp -dsimp only[go_sem,aa,E,I,o,us,z0,um,wi,rd,aP,bn,(om:i+1<n+1)]
  repeat refine an ?_
  rw[cH];refine eO 6 [[0,1,2,3,4],[]] kr ?_
  simp -dsimp only[go_sem,aa,I,us,F,p]
  repeat refine an ?_
  refine ax.intro fun bd fd=>?_;have hdb:=(af fd).1;have z:=(af fd).2;have n1:=aY.fresh f.cell z;have n2:=aY.fresh f.lamo z;simp only[go_sem,o,us,F,ul,p,n1,n2,ai U];have J:=f.push o um ul fd (z0:=fun _=>ϱ 0) (fun _ _=>rfl);refine cf (fun O V=>∃(j:Nat),j<=i/\O 3=ι n/\O 4=rd n A/\O 6=ϰ bs 0/\O 7=ι i/\O 29=ι n/\O 30=ι i/\O 56=ι i/\O 57=ι j/\Lh S V bs bm bl (fun a=>if a=i then bd else gl a) n (i+1) A (fun a x=>if a<i∨x<j then fq A a x else 0)) (fun O V=>i-bO (O 57)) ?_ ?_
  .simp only[*,go_sem];exact⟨0,om,rfl,J.congr fun a x _ _=>by simp⟩
  clear J f us um ul vs vm vl z0 F D E I q s fd hdb z n1 n2 H;clear O V gs gm g2;generalize hgl:(fun a=>if a=i then bd else gl a)=gl' at *
  rintro Q2 hQ2 O V ⟨j,hj,D,E,I,y7,q,s,B,C,f⟩;by_cases v:j<i
  .obtain⟨gs,us,vs⟩:=id f.cell;obtain⟨g2,ul,vl⟩:=id f.lamo;obtain⟨gr,ur,vr⟩:=id (f.lamr i om);have F:gs 1=ϑ bl 0 n:=vs 1 om;have zl:g2 i=ϕ (gl' i) 0 i:=by have:=vl i o;rw[this];exact aj om
   have wij:ω ((i:Int)-j)=((i-j:Nat):Int):=by rw[pi (du v)];exact i64_in om om
   simp -dsimp only[go_sem,B,C,v];refine aN 20 kr ?_
   simp only[go_sem,aa,D,E,I,y7,q,s,B,C,v,o,us,F,ul,zl,ur,wij,rd,aP,bn,(om:j<n),(om:i-j<n-j),aF (om:j<1000000),bO]
   repeat refine an ?_
   refine⟨⟨j+1,om,rfl,(f.set (om:i<i+1) ur).congr fun a x _ _=>?_⟩,om⟩
   simp only[dU];by_cases e:a=i/\x=j
   .obtain⟨rfl,rfl⟩:=e;rw[aj ⟨rfl,rfl⟩,aj om];rfl
   .rw[ah e];by_cases y:a<i∨x<j
    .rw[aj y,aj om]
    .rw[ah y,ah om]
  .have N:j=i:=om
   subst N;simp only[go_sem,B,C,v];rw[hQ2];simp only[*,go_sem,bO];exact⟨⟨j+1,om,rfl,rfl,gl',f.congr fun a x _ _=>by rw[aj om]⟩,om⟩
 have P:i=n:=om
 subst P;simp only[go_sem,q,s,o];rw[H];simp -dsimp only[*,go_sem,aa];refine(A8 i h1 om _ _ (cD _ _)).mono ?_;rintro _ V2 ⟨bb,gb,rfl,hI⟩;obtain⟨hIm,t,Q,u⟩:=hI;have hE2:=f.ext.trans t;have us2:=t _ _ us;simp only[*,go_sem,aa];have hc3:aY (((V2.upd bs ⟨160,1,4,aL gs 2 (ϑ bb 0 i)⟩).upd bs ⟨160,1,4,aL (aL gs 2 (ϑ bb 0 i)) 3 (.mfn 206 [ϰ bs 0])⟩)) bs 160 1 4 (fun j=>[ϕ bm 0 (i+1),ϑ bl 0 i,ϑ bb 0 i,.mfn 206 [ϰ bs 0]].getD j .any):=aY.here fun j hj=>by
  match j,hj with
  | 0,_=>simp[aL,z0]
  | 1,_=>simp[aL,F]
  | 2,_=>simp[aL]
  | 3,_=>simp[aL]
 have R:∀a,a<i->gl a≠bs:=fun a g=>aY.ne (f.lamr a g) f.cell dc
 have T:bs≠bb:=aY.fresh f.cell Q;refine⟨⟨bs,bm,bl,bb,gl,gb⟩,rfl,⟨hc3,?_,?_,fun a g=>((t.has (f.lamr a g)).upd (R a g) _).upd (R a g) _,(hIm.upd (ai T) (fun a g=>ai (aY.fresh f.cell (u a g))) _).upd (ai T) (fun a g=>ai (aY.fresh f.cell (u a g))) _,f.n1,fun a g=>ai (aY.fresh f.mino (u a g)),fun a b g hb=>aY.fresh (f.lamr a g) (u b hb),f.n4⟩,(hE2.upd f.ns _).upd f.ns _,?_⟩
 .refine(((t.has f.mino).upd (ai p) _).upd (ai p) _).congr fun x G=>?_;dsimp only;rw[aj G]
 .refine(((t.has f.lamo).upd (ai w) _).upd (ai w) _).congr fun x G=>?_;dsimp only;rw[aj G]
 .rintro d (e|e|e|e|⟨a,g,e|e⟩)
  .rw[e];exact f.ns
  .rw[e];exact f.nm
  .rw[e];exact f.nl
  .rw[e];exact f.ext.none Q
  .rw[e];exact f.nr a g
  .rw[e];exact f.ext.none (u a g)

def Df(S:St)(M:pP)(n k K:Nat)(m:Nat->Int)(L T:az)(h:lJ S M n m L T)(hk:0<k)(v:k<n)(hn2:n<=16)(hK:K<=100000)(x:∀c,c<n+1->nb (m c) K)(D:nb (L k (k-1)) K)(h0:m k≠0) :
  cI 207 [ϰ M.bs 0,ι k] S (fun r S'=>r=.agg [ϱ (m k),ϱ (L k (k-1)),ϱ ((m (k-1)*m (k+1)+L k (k-1)*L k (k-1))/m k),ϱ 1,ϱ 0,ϱ 0,ϱ 1]/\dh S S'):=by
 refine jg func207 ntmps207 results207 ?_;have W:ω ((k:Int)-1)=((k-1:Nat):Int):=by rw[pi hk];exact i64_in om om
 have w2:=aF (om:k<1000000)
 simp -dsimp only[go_sem];refine ax.intro fun j F=>?_;have G:=h.inn F;refine iZ (fun O V=>O 0=ϰ M.bs 0/\O 1=ι k/\O 4=ϖ j 0/\lJ V M n m L T/\aY V j 197 2 7 (fun _=>ϱ 0)/\dh S V) ⟨by simp only[go_sem],by simp only[go_sem],by simp only[go_sem],h.upd G _,aY.here fun _ _=>rfl,(dh.refl S).upd F _⟩ ?_
 clear h;rintro O V ⟨y,z,H,h,b,f⟩;obtain⟨g,u,E,A,I,J⟩:=h.c0;obtain⟨gm,um,vm⟩:=h.m0;obtain⟨gl,ul,vl⟩:=h.l0;obtain⟨gi,ui,vi⟩:=h.l1 v;have xl:gl k=ϕ (M.gl k) 0 k:=vl k v;have xj:gi (k-1)=ϱ (L k (k-1)):=vi (k-1) om;have xm:gm k=ϱ (m k):=vm k om;refine iz 20 [[7,8,9,10,11,12,13,14,15,16,17],[]] kr ?_
 simp -dsimp only[go_sem,aa,y,z,u,E,A,um,ul,ui,xl,xj,xm,W,v]
 repeat refine an ?_
 refine ax.intro fun o B=>?_
 try simp -dsimp only[go_sem]
 refine ax.intro fun p w=>?_;have n6_5:=(af w).1;have X:=h.inn B;have Y:=h.inn (af w).2;obtain⟨Z,p2,p3,p4,p5,p6⟩:=nN.ne X;obtain⟨q1,q2,q3,q4,q5,q6⟩:=nN.ne Y;have p5k:=p5 k v;have q5k:=q5 k v;simp -dsimp only[go_sem,y,z,u,A,ul,ui,xl,xj,W,v,nn n6_5,Z,p3,p5k,q1,q3,q5k]
 repeat refine an ?_
 have l:dh V ((((V.upd o ⟨50,2,1,fun _=>ϱ 0⟩).upd p ⟨50,2,1,fun _=>ϱ 0⟩).upd o ⟨50,2,1,aL (fun _=>ϱ 0) 0 (ϱ (m k))⟩).upd p ⟨50,2,1,aL (fun _=>ϱ 0) 0 (ϱ (L k (k-1)))⟩):=((((dh.refl V).upd B _).upd (af w).2 _).upd B _).upd (af w).2 _;have n54:j≠o:=aY.fresh b B;have n64:j≠p:=aY.fresh b (af w).2;refine iZ (fun O V=>O 0=ϰ M.bs 0/\O 1=ι k/\O 4=ϖ j 0/\O 5=ϖ o 0/\O 6=ϖ p 0/\lJ V M n m L T/\aY V j 197 2 7 (fun _=>ϱ 0)/\cS V o 50 2 (ϱ (m k))/\cS V p 50 2 (ϱ (L k (k-1)))/\dh S V) ⟨by simp only[go_sem,y],by simp only[go_sem,z],by simp only[go_sem,H],by simp only[go_sem],by simp only[go_sem],h.ext l,l.has b,cS.upd cS.set (ai n6_5) _,cS.set,f.trans l⟩ ?_
 clear l h b f y z H u E A I J um ul ui vm vl vi xl xj xm B w Z p2 p3 p4 p5 p6 q1 q2 q3 q4 q5 q6 p5k q5k X Y;clear g gm gl gi O V;rintro O V ⟨y,z,H,e5,e6,h,b,q,s,f⟩;obtain⟨g,u,E,A,I,J⟩:=h.c0;obtain⟨gm,um,vm⟩:=h.m0;obtain⟨g5,u5,y5⟩:=id q;obtain⟨g6,u6,y6⟩:=id s;have P:gm (k-1)=ϱ (m (k-1)):=vm (k-1) om;have Q:gm (k+1)=ϱ (m (k+1)):=vm (k+1) om;refine aN 22 kr ?_
 simp -dsimp only[*,go_sem,aa,(om:k-1<n+1)]
 repeat refine an ?_
 have k1:=(x (k-1) om).mul (x (k+1) om);have k2:=D.mul D;refine⟨_,(gL (x (k-1) om) (x (k+1) om) om).pure',_,(gL D D om).pure',_,(l6 k1 k2 om).pure',?_⟩;refine ax.intro fun i t=>?_;have i7:=h.inn t;have n47:j≠i:=aY.fresh b t;have n57:o≠i:=q.fresh t;have n67:p≠i:=s.fresh t;simp -dsimp only[*,go_sem,aL];generalize hN:m (k-1)*m (k+1)+L k (k-1)*L k (k-1)=N at *;have kN:nb N (K+K+1):=by rw[<-hN];exact k1.add k2
 have d:dh V ((V.upd i ⟨50,2,1,fun _=>ϱ 0⟩).upd i ⟨50,2,1,aL (fun _=>ϱ 0) 0 (ϱ N)⟩):=((dh.refl V).upd t _).upd t _;have h7:cS ((V.upd i ⟨50,2,1,fun _=>ϱ 0⟩).upd i ⟨50,2,1,aL (fun _=>ϱ 0) 0 (ϱ N)⟩) i 50 2 (ϱ N):=cS.set;refine(ft (k:=K+K+1) kN ((x k om).mono om) om h0).call ?_;generalize (V.upd i ⟨50,2,1,fun _=>ϱ 0⟩).upd i ⟨50,2,1,aL (fun _=>ϱ 0) 0 (ϱ N)⟩=V7 at *
 replace b:=d.has b
 replace q:=q.ext d
 replace s:=s.ext d
 replace f:=f.trans d
 clear h d u E A I J um vm P Q u5 y5 u6 y6 t i7;simp -dsimp only[go_sem,aL];refine ax.intro fun R C=>?_
 try simp -dsimp only[go_sem]
 refine ax.intro fun U f9=>?_;have n9_8:=(af f9).1;have n48:j≠R:=aY.fresh b C;have n58:o≠R:=q.fresh C;have n68:p≠R:=s.fresh C;have e:=(af f9).2;have n49:j≠U:=aY.fresh b e;have n59:o≠U:=q.fresh e;have n69:p≠U:=s.fresh e;obtain⟨g4,u4,y4⟩:=id b;obtain⟨g5,u5,y5⟩:=id q;obtain⟨g6,u6,y6⟩:=id s;simp -dsimp only[go_sem,aa,nn n9_8,aL];refine aN 10 kr ?_
 simp only[*,go_sem,aa,ai n9_8,ed,fy,aL,aU,bF,ca,cA,bL,bJ,dD,bR];refine⟨_,(fS (a:=1) om om).pure',trivial,_,(fS (a:=1) om om).pure',trivial,?_⟩;simp only[go_sem];exact((((f.upd (f.none C) _).upd (f.none e) _).upd (f.none C) _).upd (f.none e) _).upd F _
def Sv(m:Nat->Int)(L:az)(i j:Nat):az:=if 2*((L i j).natAbs:Int)<=m (j+1)then L else fun a c=>if a=i/\c<j then L i c-gn (L i j) (m (j+1))*L j c else if a=i/\c=j then L i j-gn (L i j) (m (j+1))*m (j+1)else L a c
def shV(m:Nat->Int)(L T:az)(i j:Nat):az:=if 2*((L i j).natAbs:Int)<=m (j+1)then T else nV T i j (gn (L i j) (m (j+1)))
structure Lg(S0 S:St)(M:pP)(n:Nat)(m:Nat->Int)(L T:az)(b6 b7 b9:Nat)(l d q:Int):Prop where
 st:lJ S M n m L T
 v6:cS S b6 50 2 (ϱ l)
 v7:cS S b7 50 2 (ϱ d)
 v9:cS S b9 50 2 (ϱ q)
 n6:¬nN M n b6
 n7:¬nN M n b7
 n9:¬nN M n b9
 fr:nO M n S0 S
def Lg.mod{l:Int}(h:Lg S0 S M n m L T b6 b7 b9 l d q)(b:lJ S' M n m' L' T')(a:nO M n S S'):Lg S0 S' M n m' L' T' b6 b7 b9 l d q:=by
 obtain⟨c,e,f⟩:=h.v6;obtain⟨g,i,j⟩:=h.v7;obtain⟨k,o,p⟩:=h.v9;exact⟨b,⟨c,a _ _ h.n6 e,f⟩,⟨g,a _ _ h.n7 i,j⟩,⟨k,a _ _ h.n9 o,p⟩,h.n6,h.n7,h.n9,h.fr.trans a⟩
def Lg.ext{l:Int}(h:Lg S0 S M n m L T b6 b7 b9 l d q)(a:dh S S'):Lg S0 S' M n m L T b6 b7 b9 l d q:=h.mod (h.st.ext a) ((nO.refl M n S).ext a)
def nO.ofExt(h:dh S S'):nO M n S S':=fun d X _ a=>h d X a
def Gz(S:St)(M:pP)(n i j K:Nat)(m:Nat->Int)(L T:az)(h:lJ S M n m L T)(W:j<i)(o:i<n)(hn:n<=16)(d:K<=100000)(hK1:1<=K)
  (X:nb (m (j+1)) K) (hm0:0<m (j+1)) (N:∀a c,a<n->c<a->nb (L a c) K) (hT:∀a c,a<n->c<n->nb (T a c) K) :
  cI 206 [ϰ M.bs 0,ι i,ι j] S (fun _ S'=>lJ S' M n m (Sv m L i j) (shV m L T i j)/\nO M n S S'):=by
 refine fC func206 rfl 137 ntmps206 kr sm ?_
 rw[jY,results206];have w2:=aF (om:j<1000000)
 obtain⟨g,u,y0,y1,y2,y3⟩:=h.c0;obtain⟨gm,um,vm⟩:=h.m0;obtain⟨gl,ul,vl⟩:=h.l0;obtain⟨gi,ui,vi⟩:=h.l1 o;have xl:gl i=ϕ (M.gl i) 0 i:=vl i o;have xj:gi j=ϱ (L i j):=vi j W;have xm:gm (j+1)=ϱ (m (j+1)):=vm (j+1) om;simp -dsimp only[go_sem];refine iz 20 [[10,11,12,13,14,15,16,17],[]] kr ?_
 simp -dsimp only[*,go_sem,aa,(om:j+1<n+1)]
 refine ax.intro fun r f6=>?_
 try simp -dsimp only[go_sem]
 refine ax.intro fun p f7=>?_;have n7_6:=(af f7).1;have i6:=h.inn f6;have P:=(af f7).2;have i7:=h.inn P;obtain⟨p1,p2,p3,p4,p5,p6⟩:=nN.ne i6;obtain⟨q1,q2,q3,q4,q5,q6⟩:=nN.ne i7;have p5k:=p5 i o;have q5k:=q5 i o;simp -dsimp only[*,go_sem,ai n7_6,aL]
 repeat refine an ?_
 have kl:nb (L i j+L i j) (K+1):=(N i j o W).add (N i j o W);refine(l6 (N i j o W) (N i j o W) om).call ?_;have hE7:dh S ((((S.upd r ⟨50,2,1,fun _=>ϱ 0⟩).upd p ⟨50,2,1,fun _=>ϱ 0⟩).upd r ⟨50,2,1,aL (fun _=>ϱ 0) 0 (ϱ (L i j))⟩).upd p ⟨50,2,1,aL (fun _=>ϱ 0) 0 (ϱ (m (j+1)))⟩):=((((dh.refl S).upd f6 _).upd P _).upd f6 _).upd P _;have Y:cS ((((S.upd r ⟨50,2,1,fun _=>ϱ 0⟩).upd p ⟨50,2,1,fun _=>ϱ 0⟩).upd r ⟨50,2,1,aL (fun _=>ϱ 0) 0 (ϱ (L i j))⟩).upd p ⟨50,2,1,aL (fun _=>ϱ 0) 0 (ϱ (m (j+1)))⟩) r 50 2 (ϱ (L i j)):=cS.set.upd (ai n7_6) _;have Z:cS ((((S.upd r ⟨50,2,1,fun _=>ϱ 0⟩).upd p ⟨50,2,1,fun _=>ϱ 0⟩).upd r ⟨50,2,1,aL (fun _=>ϱ 0) 0 (ϱ (L i j))⟩).upd p ⟨50,2,1,aL (fun _=>ϱ 0) 0 (ϱ (m (j+1)))⟩) p 50 2 (ϱ (m (j+1))):=cS.set;generalize (((S.upd r ⟨50,2,1,fun _=>ϱ 0⟩).upd p ⟨50,2,1,fun _=>ϱ 0⟩).upd r ⟨50,2,1,aL (fun _=>ϱ 0) 0 (ϱ (L i j))⟩).upd p ⟨50,2,1,aL (fun _=>ϱ 0) 0 (ϱ (m (j+1)))⟩=V at *
 replace h:=h.ext hE7
 have hF:nO M n S V:=nO.ofExt hE7;clear u y0 y1 y2 y3 um vm ul vl ui vi xl xj xm f6 f7 P p1 p2 p3 p4 p5 p6 q1 q2 q3 q4 q5 q6 p5k q5k hE7;clear g gm gl gi;simp -dsimp only[go_sem];refine ax.intro fun b8 f8=>?_;have n68:=Y.fresh f8;have n78:=Z.fresh f8
 try simp -dsimp only[go_sem,aL]
 have J:dh V ((V.upd b8 ⟨50,2,1,fun _=>ϱ 0⟩).upd b8 ⟨50,2,1,aL (fun _=>ϱ 0) 0 (ϱ (L i j+L i j))⟩):=((dh.refl V).upd f8 _).upd f8 _;refine iZ (fun O V=>O 0=ϰ M.bs 0/\O 1=ι i/\O 2=ι j/\O 6=ϖ r 0/\O 7=ϖ p 0/\O 8=ϖ b8 0/\lJ V M n m L T/\cS V r 50 2 (ϱ (L i j))/\cS V p 50 2 (ϱ (m (j+1)))/\cS V b8 50 2 (ϱ (L i j+L i j))/\nO M n S V) ⟨by simp only[go_sem],by simp only[go_sem],by simp only[go_sem],by simp only[go_sem],by simp only[go_sem],by simp only[go_sem],h.ext J,Y.ext J,Z.ext J,cS.set,hF.ext J⟩ ?_
 clear J h Y Z hF n68 n78 f8;clear V;rintro O V ⟨A,B,C,D,w,e8,h,Y,Z,h8,hF⟩;obtain⟨g6,u6,y6⟩:=id Y;obtain⟨g7,u7,y7⟩:=id Z;obtain⟨g8,u8,y8⟩:=id h8;apply so (fun O V=>∃y,¬2*((L i j).natAbs:Int)<=m (j+1)/\O 0=ϰ M.bs 0/\O 1=ι i/\O 2=ι j/\O 6=ϖ r 0/\O 7=ϖ p 0/\O 9=ϖ y 0/\O 55=ϕ (M.gb j) 0 n/\O 56=ι n/\O 57=ι 0/\Lg S V M n m L T r p y (L i j) (m (j+1)) (gn (L i j) (m (j+1))))
 .intro key;by_cases hb1:L i j+L i j<=m (j+1)
  .refine wS [ϱ (L i j+L i j),ϱ (m (j+1)),ι (kC (L i j+L i j) (m (j+1))),.bool true,.bool true,ϱ (L i j+L i j),ϱ (-(L i j+L i j)),ϱ (m (j+1)),ι (kC (-(L i j+L i j)) (m (j+1))),.bool (decide (-(L i j+L i j)<=m (j+1))),.bool (decide (-(L i j+L i j)<=m (j+1)))] kr ?_ ?_
   .refine⟨?_,?_,?_,?_,?_,?_,?_,?_,?_,?_,?_,trivial⟩
    .intro O1 f b K d;have x8:O1 8=ϖ b8 0:=(f 8 dc).trans e8
     unfold oU;simp only[*,go_sem,aa];exact d
    .intro O1 f b K d;have x7:O1 7=ϖ p 0:=(f 7 dc).trans w
     unfold oU;simp only[*,go_sem,aa];exact d
    .intro O1 f b K d;have x35:O1 35=ϱ (L i j+L i j):=b 0 35 kr rfl
     have x36:O1 36=ϱ (m (j+1)):=b 1 36 kr rfl
     unfold oU;simp -dsimp only[*,go_sem,aa];refine(rB kl (X.mono om) om).call ?_;exact d
    .intro O1 f b K d;have x37:O1 37=ι (kC (L i j+L i j) (m (j+1))):=b 2 37 kr rfl
     unfold oU;simp only[*,go_sem,sj];exact d
    .intro O1 f b K d;have x38:O1 38=.bool true:=b 3 38 kr rfl
     unfold oU;simp only[go_sem,x38];exact d
    .intro O1 f b K d;have l:O1 39=.bool true:=b 4 39 kr rfl
     have x8:O1 8=ϖ b8 0:=(f 8 dc).trans e8
     unfold oU;simp only[*,go_sem,aa];exact d
    .intro O1 f b K d;have l:O1 39=.bool true:=b 4 39 kr rfl
     have x40:O1 40=ϱ (L i j+L i j):=b 5 40 kr rfl
     unfold oU;simp -dsimp only[*,go_sem,aa];refine(td kl om).call ?_;exact d
    .intro O1 f b K d;have l:O1 39=.bool true:=b 4 39 kr rfl
     have x7:O1 7=ϖ p 0:=(f 7 dc).trans w
     unfold oU;simp only[*,go_sem,aa];exact d
    .intro O1 f b K d;have l:O1 39=.bool true:=b 4 39 kr rfl
     have x41:O1 41=ϱ (-(L i j+L i j)):=b 6 41 kr rfl
     have x42:O1 42=ϱ (m (j+1)):=b 7 42 kr rfl
     unfold oU;simp -dsimp only[*,go_sem,aa];refine(rB kl.neg (X.mono om) om).call ?_;exact d
    .intro O1 f b K d;have l:O1 39=.bool true:=b 4 39 kr rfl
     have x43:O1 43=ι (kC (-(L i j+L i j)) (m (j+1))):=b 8 43 kr rfl
     unfold oU;simp only[*,go_sem,sj];exact d
    .intro O1 f b K d;have l:O1 39=.bool true:=b 4 39 kr rfl
     have x44:O1 44=.bool (decide (-(L i j+L i j)<=m (j+1))):=b 9 44 kr rfl
     unfold oU;simp only[*,go_sem];exact d
   intro O1 f b;have x0:O1 0=ϰ M.bs 0:=(f 0 dc).trans A
   have x1:O1 1=ι i:=(f 1 dc).trans B
   have x2:O1 2=ι j:=(f 2 dc).trans C
   have x6:O1 6=ϖ r 0:=(f 6 dc).trans D
   have x7:O1 7=ϖ p 0:=(f 7 dc).trans w
   have x45:O1 45=.bool (decide (-(L i j+L i j)<=m (j+1))):=b 10 45 kr
   by_cases hb2:-(L i j+L i j)<=m (j+1)
   .simp only[go_sem,aa,x45,hb2];have hs:2*((L i j).natAbs:Int)<=m (j+1):=om
    unfold Sv shV;rw[aj hs,aj hs];exact⟨h,hF⟩
   .simp -dsimp only[*,go_sem,aa];refine(te (L i j) (m (j+1)) K (N i j o W) X om om).call ?_;rw[show(L i j+L i j+m (j+1))/(m (j+1)+m (j+1))=gn (L i j) (m (j+1))from rfl];simp -dsimp only[go_sem];refine ax.intro fun y f9=>?_;have i9:=h.inn f9;obtain⟨p1,p2,p3,p4,p5,p6⟩:=nN.ne i9;obtain⟨gs,us,z0,z1,z2,z3⟩:=h.c0;obtain⟨gb,ub,vb⟩:=h.b0;have xb:gb j=ϕ (M.gb j) 0 n:=vb j om;simp only[go_sem,aa,x0,x2,us,z2,ub,xb,p1,p4,(om:j<n)]
    refine key _ _ ?_;refine⟨y,om,by simp only[go_sem,x0],by simp only[go_sem,x1],by simp only[go_sem,x2],by simp only[go_sem,x6],by simp only[go_sem,x7],by simp only[go_sem],by simp only[go_sem],by simp only[go_sem],by simp only[go_sem],?_⟩
    have z:dh V ((V.upd y ⟨50,2,1,fun _=>ϱ 0⟩).upd y ⟨50,2,1,aL (fun _=>ϱ 0) 0 (ϱ (gn (L i j) (m (j+1))))⟩):=((dh.refl V).upd f9 _).upd f9 _;exact⟨h.ext z,Y.ext z,Z.ext z,cS.set,i6,i7,i9,hF.ext z⟩
  .refine wS [ϱ (L i j+L i j),ϱ (m (j+1)),ι (kC (L i j+L i j) (m (j+1))),.bool false,.bool false,.any,.any,.any,.any,.any,.bool false] kr ?_ ?_
   .refine⟨?_,?_,?_,?_,?_,?_,?_,?_,?_,?_,?_,trivial⟩
    .intro O1 f b K d;have x8:O1 8=ϖ b8 0:=(f 8 dc).trans e8
     unfold oU;simp only[*,go_sem,aa];exact d
    .intro O1 f b K d;have x7:O1 7=ϖ p 0:=(f 7 dc).trans w
     unfold oU;simp only[*,go_sem,aa];exact d
    .intro O1 f b K d;have x35:O1 35=ϱ (L i j+L i j):=b 0 35 kr rfl
     have x36:O1 36=ϱ (m (j+1)):=b 1 36 kr rfl
     unfold oU;simp -dsimp only[*,go_sem,aa];refine(rB kl (X.mono om) om).call ?_;exact d
    .intro O1 f b K d;have x37:O1 37=ι (kC (L i j+L i j) (m (j+1))):=b 2 37 kr rfl
     unfold oU;simp only[*,go_sem,sj];exact d
    .intro O1 f b K d;have x38:O1 38=.bool false:=b 3 38 kr rfl
     unfold oU;simp only[go_sem,x38];exact d
    .intro O1 f b K d;have l:O1 39=.bool false:=b 4 39 kr rfl
     unfold oU;simp only[go_sem,aa,l];exact d
    .intro O1 f b K d;have l:O1 39=.bool false:=b 4 39 kr rfl
     unfold oU;simp only[go_sem,aa,l];exact d
    .intro O1 f b K d;have l:O1 39=.bool false:=b 4 39 kr rfl
     unfold oU;simp only[go_sem,aa,l];exact d
    .intro O1 f b K d;have l:O1 39=.bool false:=b 4 39 kr rfl
     unfold oU;simp only[go_sem,aa,l];exact d
    .intro O1 f b K d;have l:O1 39=.bool false:=b 4 39 kr rfl
     unfold oU;simp only[go_sem,l];exact d
    .intro O1 f b K d;have l:O1 39=.bool false:=b 4 39 kr rfl
     unfold oU;simp only[go_sem,l];exact d
   intro O1 f b;have x0:O1 0=ϰ M.bs 0:=(f 0 dc).trans A
   have x1:O1 1=ι i:=(f 1 dc).trans B
   have x2:O1 2=ι j:=(f 2 dc).trans C
   have x6:O1 6=ϖ r 0:=(f 6 dc).trans D
   have x7:O1 7=ϖ p 0:=(f 7 dc).trans w
   have x45:O1 45=.bool false:=b 10 45 kr
   simp -dsimp only[*,go_sem,aa];refine(te (L i j) (m (j+1)) K (N i j o W) X om om).call ?_;rw[show(L i j+L i j+m (j+1))/(m (j+1)+m (j+1))=gn (L i j) (m (j+1))from rfl];simp -dsimp only[go_sem];refine ax.intro fun y f9=>?_;have i9:=h.inn f9;obtain⟨p1,p2,p3,p4,p5,p6⟩:=nN.ne i9;obtain⟨gs,us,z0,z1,z2,z3⟩:=h.c0;obtain⟨gb,ub,vb⟩:=h.b0;have xb:gb j=ϕ (M.gb j) 0 n:=vb j om;simp only[go_sem,aa,x0,x2,us,z2,ub,xb,p1,p4,(om:j<n)]
   refine key _ _ ?_;refine⟨y,om,by simp only[go_sem,x0],by simp only[go_sem,x1],by simp only[go_sem,x2],by simp only[go_sem,x6],by simp only[go_sem,x7],by simp only[go_sem],by simp only[go_sem],by simp only[go_sem],by simp only[go_sem],?_⟩
   have z:dh V ((V.upd y ⟨50,2,1,fun _=>ϱ 0⟩).upd y ⟨50,2,1,aL (fun _=>ϱ 0) 0 (ϱ (gn (L i j) (m (j+1))))⟩):=((dh.refl V).upd f9 _).upd f9 _;exact⟨h.ext z,Y.ext z,Z.ext z,cS.set,i6,i7,i9,hF.ext z⟩
 clear h Y Z h8 hF A B C D w e8 u6 y6 u7 y7 u8 y8;clear O V g6 g7 g8;rintro O V ⟨y,hns,A,B,C,D,w,G,t,v,s,e⟩;have hq:nb (gn (L i j) (m (j+1))) (K+4):=by
  unfold gn;refine nb.of_le (DH om) ?_;exact(kl.add (X.mono om)).mono om
 generalize hqq:gn (L i j) (m (j+1))=q at *;refine cf (fun O V=>∃c:Nat,c<=n/\O 0=ϰ M.bs 0/\O 1=ι i/\O 2=ι j/\O 6=ϖ r 0/\O 7=ϖ p 0/\O 9=ϖ y 0/\O 55=ϕ (M.gb j) 0 n/\O 56=ι n/\O 57=ι c/\Lg S V M n m L (fun a x=>if a=i/\x<c then T i x-q*T j x else T a x) r p y (L i j) (m (j+1)) q) (fun O V=>n-bO (O 57)) ?_ ?_
 .exact⟨0,om,A,B,C,D,w,G,t,v,s,e.mod (e.st.congr (fun _ _=>rfl) (fun _ _ _ _=>rfl) (fun a x _ _=>by simp)) (nO.refl _ _ _)⟩
 clear A B C D w G t v s e;clear O V;rintro Q' Q O V ⟨c,hc,A,B,C,D,w,G,t,v,s,e⟩;by_cases E:c<n
 .obtain⟨gj,uj,vj⟩:=e.st.b1 (om:j<n)
  have xj:gj c=ϱ (T j c):=by have:=vj c E;rw[ah om]at this;exact this
  simp -dsimp only[go_sem,aa,t,v,s,E,uj];refine ax.intro fun R f11=>?_;have hE:dh V ((V.upd R ⟨50,2,1,fun _=>ϱ 0⟩).upd R ⟨50,2,1,aL (fun _=>ϱ 0) 0 (ϱ (T j c))⟩):=((dh.refl V).upd f11 _).upd f11 _;simp -dsimp only[go_sem,aa,s,xj];refine iZ (fun O V=>O 0=ϰ M.bs 0/\O 1=ι i/\O 2=ι j/\O 6=ϖ r 0/\O 7=ϖ p 0/\O 9=ϖ y 0/\O 10=ι c/\O 11=ϖ R 0/\O 55=ϕ (M.gb j) 0 n/\O 56=ι n/\O 57=ι c/\cS V R 50 2 (ϱ (T j c))/\Lg S V M n m L (fun a x=>if a=i/\x<c then T i x-q*T j x else T a x) r p y (L i j) (m (j+1)) q) ⟨by simp only[go_sem,A],by simp only[go_sem,B],by simp only[go_sem,C],by simp only[go_sem,D],by simp only[go_sem,w],by simp only[go_sem,G],by simp only[go_sem],by simp only[go_sem],by simp only[go_sem,t],by simp only[go_sem,v],by simp only[go_sem,s],cS.set,e.ext hE⟩ ?_
  clear A B C D w G t v s e uj xj vj hE f11;clear O V gj;rintro O V ⟨A,B,C,D,w,G,e10,e11,t,v,s,h11,e⟩;obtain⟨g,u,y0,y1,y2,y3⟩:=e.st.c0;obtain⟨gb,ub,vb⟩:=e.st.b0;obtain⟨gi,ui,vi⟩:=e.st.b1 o;obtain⟨g9,u9,y9⟩:=id e.v9;obtain⟨g11,u11,y11⟩:=id h11;have xb:gb i=ϕ (M.gb i) 0 n:=vb i o;have xi:gi c=ϱ (T i c):=by have:=vi c E;rw[ah om]at this;exact this
  refine aN 23 kr ?_
  simp only[go_sem,aa,A,B,C,D,w,G,e10,e11,t,v,s,u,y2,ub,xb,ui,xi,u9,y9,u11,y11,o,E];have k1:=hq.mul ((hT j c om E).mono (om:K<=K+4))
  refine⟨_,(gL hq ((hT j c om E).mono om) om).pure',_,(mG ((hT i c o E).mono (om:K<=K+4+(K+4))) k1 om).pure',?_⟩
  simp only[go_sem,aF (om:c<1000000),bO]
  refine⟨⟨c+1,om,rfl,(e.mod (e.st.setT o ui) ((nO.refl _ _ _).upd (nN.gb o) _)).mod ?_ (nO.refl _ _ _)⟩,om⟩
  exact(e.st.setT o ui).congr (fun _ _=>rfl) (fun _ _ _ _=>rfl) (fun a x _ _=>by simp only[dU];grind)
 have hcn':c=n:=om
 subst hcn';have hI2:Lg S V M c m L (nV T i j q) r p y (L i j) (m (j+1)) q:=e.mod (e.st.congr (fun _ _=>rfl) (fun _ _ _ _=>rfl) (fun a x _ hx=>by simp only[nV];grind)) (nO.refl _ _ _)
 obtain⟨g,u,y0,y1,y2,y3⟩:=e.st.c0;obtain⟨gl,ul,vl⟩:=e.st.l0;have xl:gl j=ϕ (M.gl j) 0 j:=vl j om;simp only[go_sem,aa,t,v,s,E];rw[Q];simp only[*,go_sem,aa,(om:j<c)]
 refine cf (fun O V=>∃k:Nat,k<=j/\O 0=ϰ M.bs 0/\O 1=ι i/\O 2=ι j/\O 6=ϖ r 0/\O 7=ϖ p 0/\O 9=ϖ y 0/\O 92=ϕ (M.gl j) 0 j/\O 93=ι j/\O 94=ι k/\Lg S V M c m (fun a x=>if a=i/\x<k then L i x-q*L j x else L a x) (nV T i j q) r p y (L i j) (m (j+1)) q) (fun O V=>j-bO (O 94)) ?_ ?_
 .simp only[*,go_sem];exact⟨0,om,rfl,hI2.mod (hI2.st.congr (fun _ _=>rfl) (fun a x _ _=>by simp) (fun _ _ _ _=>rfl)) (nO.refl _ _ _)⟩
 clear A B C D w G t v s e hI2 u y0 y1 y2 y3 ul vl xl Q;clear O V g gl Q';rintro Q' Q O V ⟨k,hkj,A,B,C,D,w,G,H,I,F,e⟩;by_cases hk:k<j
 .obtain⟨gj,uj,vj⟩:=e.st.l1 (om:j<c)
  have xj:gj k=ϱ (L j k):=by have:=vj k hk;rw[ah om]at this;exact this
  simp -dsimp only[go_sem,aa,H,I,F,hk,uj];refine ax.intro fun U f13=>?_;have hE:dh V ((V.upd U ⟨50,2,1,fun _=>ϱ 0⟩).upd U ⟨50,2,1,aL (fun _=>ϱ 0) 0 (ϱ (L j k))⟩):=((dh.refl V).upd f13 _).upd f13 _;simp -dsimp only[go_sem,aa,F,xj];refine iZ (fun O V=>O 0=ϰ M.bs 0/\O 1=ι i/\O 2=ι j/\O 6=ϖ r 0/\O 7=ϖ p 0/\O 9=ϖ y 0/\O 12=ι k/\O 13=ϖ U 0/\O 92=ϕ (M.gl j) 0 j/\O 93=ι j/\O 94=ι k/\cS V U 50 2 (ϱ (L j k))/\Lg S V M c m (fun a x=>if a=i/\x<k then L i x-q*L j x else L a x) (nV T i j q) r p y (L i j) (m (j+1)) q) ⟨by simp only[go_sem,A],by simp only[go_sem,B],by simp only[go_sem,C],by simp only[go_sem,D],by simp only[go_sem,w],by simp only[go_sem,G],by simp only[go_sem],by simp only[go_sem],by simp only[go_sem,H],by simp only[go_sem,I],by simp only[go_sem,F],cS.set,e.ext hE⟩ ?_
  clear A B C D w G H I F e uj xj vj hE f13;clear O V gj;rintro O V ⟨A,B,C,D,w,G,e12,e13,H,I,F,h13,e⟩;obtain⟨g,u,y0,y1,y2,y3⟩:=e.st.c0;obtain⟨gl,ul,vl⟩:=e.st.l0;obtain⟨gi,ui,vi⟩:=e.st.l1 o;obtain⟨g9,u9,y9⟩:=id e.v9;obtain⟨g13,u13,y13⟩:=id h13;have hki:k<i:=om
  have xl:gl i=ϕ (M.gl i) 0 i:=vl i o;have xi:gi k=ϱ (L i k):=by have:=vi k hki;rw[ah om]at this;exact this
  refine aN 23 kr ?_
  simp only[go_sem,aa,A,B,C,D,w,G,e12,e13,H,I,F,u,y1,ul,xl,ui,xi,u9,y9,u13,y13,o,hki];have k1:=hq.mul ((N j k om hk).mono (om:K<=K+4))
  refine⟨_,(gL hq ((N j k om hk).mono om) om).pure',_,(mG ((N i k o hki).mono (om:K<=K+4+(K+4))) k1 om).pure',?_⟩
  simp only[go_sem,aF (om:k<1000000),bO]
  refine⟨⟨k+1,om,rfl,(e.mod (e.st.setL o ui) ((nO.refl _ _ _).upd (nN.gl o) _)).mod ?_ (nO.refl _ _ _)⟩,om⟩
  exact(e.st.setL o ui).congr (fun _ _=>rfl) (fun a x _ _=>by simp only[dU];grind) (fun _ _ _ _=>rfl)
 have hkj':k=j:=om
 subst hkj';simp only[go_sem,aa,H,I,F,hk];rw[Q];obtain⟨g,u,y0,y1,y2,y3⟩:=e.st.c0;obtain⟨gl,ul,vl⟩:=e.st.l0;obtain⟨gi,ui,vi⟩:=e.st.l1 o;obtain⟨g6,u6,y6⟩:=id e.v6;obtain⟨g7,u7,y7⟩:=id e.v7;obtain⟨g9,u9,y9⟩:=id e.v9;have xl:gl i=ϕ (M.gl i) 0 i:=vl i o;simp only[go_sem];refine aN 14 kr ?_
 simp only[*,go_sem,aa];have k1:=hq.mul (X.mono (om:K<=K+4))
 refine⟨_,(gL hq (X.mono om) om).pure',_,(mG ((N i k o W).mono (om:K<=K+4+(K+4))) k1 om).pure',?_⟩
 simp only[go_sem];unfold Sv shV;rw[ah hns,ah hns,hqq];exact⟨(e.st.setL o ui).congr (fun _ _=>rfl) (fun a x _ _=>by simp only[dU];grind) (fun _ _ _ _=>rfl),e.fr.upd (nN.gl o) _⟩

structure AZ(S0 S:St)(M:pP)(n:Nat)(m:Nat->Int)(L T:az)(b5 b6 b7:Nat)(p:PL)(a0 b0:Int):Prop where
 st:lJ S M n m L T
 pl:sC S b5 p
 v6:cS S b6 50 2 (ϱ a0)
 v7:cS S b7 50 2 (ϱ b0)
 n5:¬nN M n b5
 n6:¬nN M n b6
 n7:¬nN M n b7
 fr:nO M n S0 S
def AZ.mod{p:PL}{b0:Int}(h:AZ S0 S M n m L T b5 b6 b7 p a0 b0)(b:lJ S' M n m' L' T')(a:nO M n S S'):AZ S0 S' M n m' L' T' b5 b6 b7 p a0 b0:=by
 obtain⟨c,d,e⟩:=h.pl;obtain⟨f,g,i⟩:=h.v6;obtain⟨j,k,l⟩:=h.v7;exact⟨b,⟨c,a _ _ h.n5 d,e⟩,⟨f,a _ _ h.n6 g,i⟩,⟨j,a _ _ h.n7 k,l⟩,h.n5,h.n6,h.n7,h.fr.trans a⟩
def AZ.ext{p:PL}{b0:Int}(h:AZ S0 S M n m L T b5 b6 b7 p a0 b0)(a:dh S S'):AZ S0 S' M n m L T b5 b6 b7 p a0 b0:=h.mod (h.st.ext a) ((nO.refl M n S).ext a)
def AZ.none{p:PL}{b0:Int}(h:AZ S0 S M n m L T b5 b6 b7 p a0 b0){c:Nat}(a:S c=ae):S0 c=ae:=by
 cases e:S0 c with
 | none=>rfl
 | some X=>have:=h.fr c X (h.st.inn a) e;rw[a]at this;cases this
def AZ.var{p:PL}{b0:Int}(h:AZ S0 S M n m L T b5 b6 b7 p a0 b0){c:Nat}(b:¬nN M n c)(f:b5≠c)(g:b6≠c)(i:b7≠c)(j:S0 c=ae)(X:eA):AZ S0 (S.upd c X) M n m L T b5 b6 b7 p a0 b0 :=
 ⟨h.st.upd b X,h.pl.upd f X,h.v6.upd g X,h.v7.upd i X,h.n5,h.n6,h.n7,fun d Y k a=>by
  have e:d≠c:=by rintro rfl;rw[j]at a;cases a
  rw[aE e];exact h.fr d Y k a⟩
def plV(p:PL):AV:=.agg [ϱ p.a,ϱ p.b,ϱ p.c,ϱ p.f0,ϱ p.f1,ϱ p.s0,ϱ p.s1]
structure PLb(p:PL)(K:Nat):Prop where
 a:nb p.a K
 b:nb p.b K
 f0:nb p.f0 K
 f1:nb p.f1 K
 s0:nb p.s0 K
 s1:nb p.s1 K
def Dy(S:St)(M:pP)(n k K:Nat)(m:Nat->Int)(L T:az)(f p:PL)(h:lJ S M n m L T)(hk:0<k)(w:k<n)(hn2:n<=16)(hK:K<=100000)
  (hm:∀c,c<n+1->nb (m c) K) (hL:∀a c,a<n->c<a->nb (L a c) K) (hT:∀a c,a<n->c<n->nb (T a c) K) (Y:PLb p K) (ha0:nb f.a K) (hb0:nb f.b K) (h0:0<f.a) (h1:0<m (k-1))
  (hpl:∀S bp,sC S bp f->cI 248 [ϖ bp 0] S (fun _ S'=>sC S' bp p/\F4 bp S S')) :
  cI 209 [ϰ M.bs 0,ι k,plV f] S (fun _ S'=>lJ S' M n (fun j=>if j=k then p.a else m j) (tn k p f.a f.b m L) (ip T k p.f0 p.f1 p.s0 p.s1)/\nO M n S S'):=by
 refine fC func209 rfl 263 ntmps209 kr sm ?_
 rw[jY,results209];have w1:ω ((k:Int)-1)=((k-1:Nat):Int):=by rw[pi hk];exact i64_in om om
 have w2:=aF (om:k<1000000)
 simp -dsimp only[go_sem,plV,aU,bF,ca,cA];refine ax.intro fun G f5=>?_;have i5:=h.inn f5;refine iZ (fun O V=>O 0=ϰ M.bs 0/\O 1=ι k/\O 5=ϖ G 0/\lJ V M n m L T/\sC V G f/\nO M n S V) ⟨by simp only[go_sem],by simp only[go_sem],by simp only[go_sem],h.upd i5 _,sC.of bW rfl rfl rfl rfl rfl rfl rfl,nO.ofExt ((dh.refl S).upd f5 _)⟩ ?_
 clear h;rintro O V ⟨q,l,s,h,hP,hF⟩;obtain⟨g,u,x0,x1,x2,x3,x4,x5,x6⟩:=hP.get;refine iz 6 [[2,3],[]] kr ?_
 simp -dsimp only[*,go_sem,aa];refine ax.intro fun A f6=>?_
 try simp -dsimp only[go_sem]
 refine ax.intro fun B f7=>?_;have n7_6:=(af f7).1;have i6:=h.inn f6;have f7':=(af f7).2;have i7:=h.inn f7';have n56:=hP.fresh f6;have n57:=hP.fresh f7';simp -dsimp only[*,go_sem,ai n7_6];have hE7:dh V ((((V.upd A ⟨50,2,1,fun _=>ϱ 0⟩).upd B ⟨50,2,1,fun _=>ϱ 0⟩).upd A ⟨50,2,1,aL (fun _=>ϱ 0) 0 (ϱ f.a)⟩).upd B ⟨50,2,1,aL (fun _=>ϱ 0) 0 (ϱ f.b)⟩):=((((dh.refl V).upd f6 _).upd f7' _).upd f6 _).upd f7' _;refine(hpl _ G (hP.ext hE7)).mono ?_;rintro _ V2 ⟨hP2,hB⟩;have i:AZ S V2 M n m L T G A B p f.a f.b:=by
  have v6:cS ((((V.upd A ⟨50,2,1,fun _=>ϱ 0⟩).upd B ⟨50,2,1,fun _=>ϱ 0⟩).upd A ⟨50,2,1,aL (fun _=>ϱ 0) 0 (ϱ f.a)⟩).upd B ⟨50,2,1,aL (fun _=>ϱ 0) 0 (ϱ f.b)⟩) A 50 2 (ϱ f.a):=cS.set.upd (ai n7_6) _;have v7:cS ((((V.upd A ⟨50,2,1,fun _=>ϱ 0⟩).upd B ⟨50,2,1,fun _=>ϱ 0⟩).upd A ⟨50,2,1,aL (fun _=>ϱ 0) 0 (ϱ f.a)⟩).upd B ⟨50,2,1,aL (fun _=>ϱ 0) 0 (ϱ f.b)⟩) B 50 2 (ϱ f.b):=cS.set;obtain⟨g6,u6,y6⟩:=v6;obtain⟨g7,u7,y7⟩:=v7;refine⟨(h.ext hE7).frm i5 hB,hP2,⟨g6,hB _ _ (ai n56) u6,y6⟩,⟨g7,hB _ _ (ai n57) u7,y7⟩,i5,i6,i7,fun d X hd hX=>?_⟩;by_cases e:d=G
  .rw[e,f5]at hX;cases hX
  .exact hB d X e (hE7 d X (hF d X hd hX))
 clear hP2 hB hE7 hF h hP u x0 x1 x2 x3 x4 x5 x6 f6 f7 f7' n56 n57;obtain⟨g,u,U,F,H,y3⟩:=i.st.c0;simp only[*,go_sem,aa];refine cf (fun O V=>∃c:Nat,c<=n/\O 0=ϰ M.bs 0/\O 1=ι k/\O 5=ϖ G 0/\O 6=ϖ A 0/\O 7=ϖ B 0/\O 27=ι n/\O 28=ι c/\AZ S V M n m L (fun a x=>if x<c then ip T k p.f0 p.f1 p.s0 p.s1 a x else T a x) G A B p f.a f.b) (fun O V=>n-bO (O 28)) ?_ ?_
 .simp only[*,go_sem];exact⟨0,om,rfl,i.mod (i.st.congr (fun _ _=>rfl) (fun a x _ _=>by simp) (fun a x _ _=>by simp)) (nO.refl _ _ _)⟩
 clear q l s i u U F H y3;clear g;rintro Q' hQ' O V ⟨c,hcb,q,l,s,y,t,en,ec,i⟩;by_cases r:c<n
 .obtain⟨g,u,U,F,H,y3⟩:=i.st.c0;obtain⟨gb,ub,vb⟩:=i.st.b0;obtain⟨gp,up,vp⟩:=i.st.b1 (om:k-1<n)
  obtain⟨gk,uk,vk⟩:=i.st.b1 w;have Z:gb (k-1)=ϕ (M.gb (k-1)) 0 n:=vb (k-1) om;have I:gb k=ϕ (M.gb k) 0 n:=vb k w;have xp:gp c=ϱ (T (k-1) c):=by have:=vp c r;rw[ah om]at this;exact this
  have xk:gk c=ϱ (T k c):=by have:=vk c r;rw[ah om]at this;exact this
  simp -dsimp only[go_sem,en,ec,r];refine iz 23 [[11,12,13,14,15,16,17,18,19,20],[]] kr ?_
  simp -dsimp only[go_sem,aa,q,l,r,u,H,ub,Z,I,up,uk,xp,xk,w1,w,(om:k-1<n)]
  refine ax.intro fun b9 f9=>?_
  try simp -dsimp only[go_sem]
  refine ax.intro fun b10 f10=>?_;have n10_9:=(af f10).1;have j1:=i.st.inn f9;have C:=(af f10).2;have j2:=i.st.inn C;obtain⟨p1,p2,p3,p4,p5,p6⟩:=nN.ne j1;obtain⟨q1,q2,q3,q4,q5,q6⟩:=nN.ne j2;have r1:=p6 k w;have r2:=q6 k w;have r3:=p6 (k-1) om;have r4:=q6 (k-1) om;simp -dsimp only[go_sem,q,l,r,u,H,ub,I,uk,xk,w,p1,p4,q1,q4,r1,r2,nn n10_9];have hE:dh V ((((V.upd b9 ⟨50,2,1,fun _=>ϱ 0⟩).upd b10 ⟨50,2,1,fun _=>ϱ 0⟩).upd b9 ⟨50,2,1,aL (fun _=>ϱ 0) 0 (ϱ (T (k-1) c))⟩).upd b10 ⟨50,2,1,aL (fun _=>ϱ 0) 0 (ϱ (T k c))⟩):=((((dh.refl V).upd f9 _).upd C _).upd f9 _).upd C _;refine iZ (fun O V=>O 0=ϰ M.bs 0/\O 1=ι k/\O 5=ϖ G 0/\O 6=ϖ A 0/\O 7=ϖ B 0/\O 8=ι c/\O 9=ϖ b9 0/\O 10=ϖ b10 0/\O 27=ι n/\O 28=ι c/\cS V b9 50 2 (ϱ (T (k-1) c))/\cS V b10 50 2 (ϱ (T k c))/\AZ S V M n m L (fun a x=>if x<c then ip T k p.f0 p.f1 p.s0 p.s1 a x else T a x) G A B p f.a f.b) ⟨by simp only[go_sem,q],by simp only[go_sem,l],by simp only[go_sem,s],by simp only[go_sem,y],by simp only[go_sem,t],by simp only[go_sem],by simp only[go_sem],by simp only[go_sem],by simp only[go_sem,en],by simp only[go_sem,ec],cS.set.upd (ai n10_9) _,cS.set,i.ext hE⟩ ?_
  clear q l s y t en ec i u U F H y3 ub vb up vp uk vk Z I xp xk hE f9 f10 C p1 p2 p3 p4 p5 p6 q1 q2 q3 q4 q5 q6 r1 r2 r3 r4 j1 j2;clear O V g gb gp gk;rintro O V ⟨q,l,s,y,t,ev,e9,e10,en,ec,h9,h10,i⟩;obtain⟨g,u,U,F,H,y3⟩:=i.st.c0;obtain⟨gb,ub,vb⟩:=i.st.b0;obtain⟨gp,up,vp⟩:=i.st.b1 (om:k-1<n)
  obtain⟨gk,uk,vk⟩:=i.st.b1 w;have Z:gb (k-1)=ϕ (M.gb (k-1)) 0 n:=vb (k-1) om;have I:gb k=ϕ (M.gb k) 0 n:=vb k w;obtain⟨g5,u5,x0,x1,x2,x3,x4,x5,x6⟩:=i.pl.get;obtain⟨g9,u9,y9⟩:=id h9;obtain⟨g10,u10,y10⟩:=id h10;have hne:M.gb (k-1)≠M.gb k:=fun e=>by have:=i.st.bas.inj (k-1) k om w e;omega
  refine fm 28 kr ?_
  simp only[go_sem,aa,q,l,s,y,t,ev,e9,e10,en,ec,r,u,H,ub,Z,I,up,uk,u5,x3,x4,x5,x6,u9,y9,u10,y10,ai hne,w1,w,(om:k-1<n),ed]
  refine⟨_,(lZ p.f0 p.f1 (T (k-1) c) (T k c) K Y.f0 Y.f1 (hT (k-1) c om om) (hT k c om om) om).pure',_,(lZ p.s0 p.s1 (T (k-1) c) (T k c) K Y.s0 Y.s1 (hT (k-1) c om om) (hT k c om om) om).pure',?_⟩;simp only[go_sem,aF (om:c<1000000),bO]
  have s1:=i.st.setT (c:=c) (z:=p.f0*T (k-1) c+p.f1*T k c) (om:k-1<n) up
  have s2:=s1.setT (c:=c) (z:=p.s0*T (k-1) c+p.s1*T k c) w ((aE (ai hne)).trans uk);refine⟨⟨c+1,om,rfl,i.mod (s2.congr (fun _ _=>rfl) ?_ ?_) (((nO.refl _ _ _).upd (nN.gb om) _).upd (nN.gb w) _)⟩,om⟩
  .exact fun _ _ _ _=>rfl
  .intro a x _ _;simp only[dU,ip];grind
 have hcc:n=c:=om
 rw[<-hcc]at i ec;have hnn:¬n<n:=cw n;simp only[go_sem,en,ec,cw];rw[hQ']
 replace i:=i.mod (i.st.congr (T':=ip T k p.f0 p.f1 p.s0 p.s1) (fun _ _=>rfl) (fun _ _ _ _=>rfl) (fun a x _ hx=>by rw[aj hx])) (nO.refl _ _ _)
 clear hQ' Q' hcb r en ec;obtain⟨g,u,U,F,H,y3⟩:=i.st.c0;simp only[go_sem,l];refine cf (fun O V=>∃c:Nat,c<=(k-1:Nat)/\O 0=ϰ M.bs 0/\O 1=ι k/\O 5=ϖ G 0/\O 6=ϖ A 0/\O 7=ϖ B 0/\O 83=ι ((k-1:Nat):Int)/\O 84=ι c/\AZ S V M n m (fun a x=>if (a=k-1∨a=k)/\x<c then tn k p f.a f.b m L a x else L a x) (ip T k p.f0 p.f1 p.s0 p.s1) G A B p f.a f.b) (fun O V=>(k-1:Nat)-bO (O 84)) ?_ ?_
 .simp only[go_sem,q,l,s,y,t,w1];exact⟨0,om,rfl,i.mod (i.st.congr (fun _ _=>rfl) (fun a x _ _=>by simp) (fun a x _ _=>by simp)) (nO.refl _ _ _)⟩
 clear q l s y t i u U F H y3;clear g;rintro Q' hQ' O V ⟨c,hcb,q,l,s,y,t,en,ec,i⟩;by_cases r:c<k-1
 .obtain⟨g,u,U,F,H,y3⟩:=i.st.c0;obtain⟨gb,ub,vb⟩:=i.st.l0;obtain⟨gp,up,vp⟩:=i.st.l1 (om:k-1<n)
  obtain⟨gk,uk,vk⟩:=i.st.l1 w;have Z:gb (k-1)=ϕ (M.gl (k-1)) 0 (k-1):=vb (k-1) om;have I:gb k=ϕ (M.gl k) 0 k:=vb k w;have xp:gp c=ϱ (L (k-1) c):=by have:=vp c om;rw[ah om]at this;exact this
  have xk:gk c=ϱ (L k c):=by have:=vk c om;rw[ah om]at this;exact this
  simp -dsimp only[go_sem,en,ec,r];refine iz 23 [[11,12,13,14,15,16,17,18,19,20],[]] kr ?_
  simp -dsimp only[go_sem,aa,q,l,r,u,F,ub,Z,I,up,uk,xp,xk,w1,w,(om:k-1<n),(om:c<k)]
  refine ax.intro fun b12 f12=>?_
  try simp -dsimp only[go_sem]
  refine ax.intro fun b13 f13=>?_;have n13_12:=(af f13).1;have j1:=i.st.inn f12;have C:=(af f13).2;have j2:=i.st.inn C;obtain⟨p1,p2,p3,p4,p5,p6⟩:=nN.ne j1;obtain⟨q1,q2,q3,q4,q5,q6⟩:=nN.ne j2;have r1:=p5 k w;have r2:=q5 k w;have r3:=p5 (k-1) om;have r4:=q5 (k-1) om;simp -dsimp only[go_sem,q,l,u,F,ub,I,uk,xk,w,(om:c<k),p1,p3,q1,q3,r1,r2,nn n13_12]
  have hE:dh V ((((V.upd b12 ⟨50,2,1,fun _=>ϱ 0⟩).upd b13 ⟨50,2,1,fun _=>ϱ 0⟩).upd b12 ⟨50,2,1,aL (fun _=>ϱ 0) 0 (ϱ (L (k-1) c))⟩).upd b13 ⟨50,2,1,aL (fun _=>ϱ 0) 0 (ϱ (L k c))⟩):=((((dh.refl V).upd f12 _).upd C _).upd f12 _).upd C _;refine iZ (fun O V=>O 0=ϰ M.bs 0/\O 1=ι k/\O 5=ϖ G 0/\O 6=ϖ A 0/\O 7=ϖ B 0/\O 11=ι c/\O 12=ϖ b12 0/\O 13=ϖ b13 0/\O 83=ι ((k-1:Nat):Int)/\O 84=ι c/\cS V b12 50 2 (ϱ (L (k-1) c))/\cS V b13 50 2 (ϱ (L k c))/\AZ S V M n m (fun a x=>if (a=k-1∨a=k)/\x<c then tn k p f.a f.b m L a x else L a x) (ip T k p.f0 p.f1 p.s0 p.s1) G A B p f.a f.b) ⟨by simp only[go_sem,q],by simp only[go_sem,l],by simp only[go_sem,s],by simp only[go_sem,y],by simp only[go_sem,t],by simp only[go_sem],by simp only[go_sem],by simp only[go_sem],by simp only[go_sem,en],by simp only[go_sem,ec],cS.set.upd (ai n13_12) _,cS.set,i.ext hE⟩ ?_
  clear q l s y t en ec i u U F H y3 ub vb up vp uk vk Z I xp xk hE f12 f13 C p1 p2 p3 p4 p5 p6 q1 q2 q3 q4 q5 q6 r1 r2 r3 r4 j1 j2;clear O V g gb gp gk;rintro O V ⟨q,l,s,y,t,ev,e9,e10,en,ec,h9,h10,i⟩;obtain⟨g,u,U,F,H,y3⟩:=i.st.c0;obtain⟨gb,ub,vb⟩:=i.st.l0;obtain⟨gp,up,vp⟩:=i.st.l1 (om:k-1<n)
  obtain⟨gk,uk,vk⟩:=i.st.l1 w;have Z:gb (k-1)=ϕ (M.gl (k-1)) 0 (k-1):=vb (k-1) om;have I:gb k=ϕ (M.gl k) 0 k:=vb k w;obtain⟨g5,u5,x0,x1,x2,x3,x4,x5,x6⟩:=i.pl.get;obtain⟨g9,u9,y9⟩:=id h9;obtain⟨g10,u10,y10⟩:=id h10;have hne:M.gl (k-1)≠M.gl k:=fun e=>by have:=i.st.n4 (k-1) k om w e;omega
  refine fm 28 kr ?_
  simp only[go_sem,aa,q,l,s,y,t,ev,e9,e10,en,ec,r,u,F,ub,Z,I,up,uk,u5,x3,x4,x5,x6,u9,y9,u10,y10,ai hne,w1,w,(om:k-1<n),(om:c<k),ed]
  refine⟨_,(lZ p.f0 p.f1 (L (k-1) c) (L k c) K Y.f0 Y.f1 (hL (k-1) c om om) (hL k c om om) om).pure',_,(lZ p.s0 p.s1 (L (k-1) c) (L k c) K Y.s0 Y.s1 (hL (k-1) c om om) (hL k c om om) om).pure',?_⟩;simp only[go_sem,aF (om:c<1000000),bO]
  have s1:=i.st.setL (c:=c) (z:=p.f0*L (k-1) c+p.f1*L k c) (om:k-1<n) up
  have s2:=s1.setL (c:=c) (z:=p.s0*L (k-1) c+p.s1*L k c) w ((aE (ai hne)).trans uk);refine⟨⟨c+1,om,rfl,i.mod (s2.congr (fun _ _=>rfl) ?_ ?_) (((nO.refl _ _ _).upd (nN.gl om) _).upd (nN.gl w) _)⟩,om⟩
  .intro a x _ _;simp only[dU,tn];grind
  .exact fun _ _ _ _=>rfl
 have hcc:k-1=c:=om
 rw[<-hcc]at i ec;simp only[go_sem,en,ec,cw];rw[hQ'];clear hQ' Q' hcb r en ec hcc;clear c;obtain⟨g,u,U,F,H,y3⟩:=i.st.c0;obtain⟨gm,um,vm⟩:=i.st.m0;obtain⟨gl,ul,vl⟩:=i.st.l0;obtain⟨gk,uk,vk⟩:=i.st.l1 w;obtain⟨g5,u5,x0,x1,x2,x3,x4,x5,x6⟩:=i.pl.get;have xl:gl k=ϕ (M.gl k) 0 k:=vl k w;have hnm:M.gl k≠M.bm:=i.st.n1 k w;simp -dsimp only[go_sem];refine eO 19 [[12,13],[]] kr ?_
 simp only[go_sem,aa,q,l,s,u,U,F,um,ul,xl,uk,u5,x0,x1,hnm,w1,w,(om:k<n+1)]
 repeat refine an ?_
 have s1:=i.st.setM (k:=k) (z:=p.a) um;have s2:=s1.setL (c:=k-1) (z:=p.b) w ((aE hnm).trans uk);have hI2:AZ S ((V.upd M.bm ⟨50,2,n+1,aL gm k (ϱ p.a)⟩).upd (M.gl k) ⟨50,2,k,aL gk (k-1) (ϱ p.b)⟩) M n (fun j=>if j=k then p.a else m j) (fun a x=>if a<k+1 then tn k p f.a f.b m L a x else L a x) (ip T k p.f0 p.f1 p.s0 p.s1) G A B p f.a f.b :=
  i.mod (s2.congr (fun _ _=>rfl) (fun a x _ hx=>by simp only[dU,tn];grind) (fun _ _ _ _=>rfl)) (((nO.refl _ _ _).upd nN.bm _).upd (nN.gl w) _)
 clear i s1 s2;clear u U F H y3 um vm ul vl uk vk u5 x0 x1 x2 x3 x4 x5 x6 xl hnm;refine cf (fun O V=>∃c:Nat,k+1<=c/\c<=n/\O 0=ϰ M.bs 0/\O 1=ι k/\O 5=ϖ G 0/\O 6=ϖ A 0/\O 7=ϖ B 0/\O 14=ι c/\AZ S V M n (fun j=>if j=k then p.a else m j) (fun a x=>if a<c then tn k p f.a f.b m L a x else L a x) (ip T k p.f0 p.f1 p.s0 p.s1) G A B p f.a f.b) (fun O V=>n-bO (O 14)) ?_ ?_
 .simp only[go_sem,q,l,s,y,t,w2];exact⟨k+1,om,om,rfl,hI2⟩
 clear q l s y t hI2;clear O V g gm gl gk g5;rintro Q' hQ' O V ⟨c,hkc,hcb,q,l,s,y,t,o,i⟩;obtain⟨g,u,U,F,H,y3⟩:=i.st.c0;by_cases r:c<n
 .obtain⟨gl,ul,vl⟩:=i.st.l0;obtain⟨gc,uc,vc⟩:=i.st.l1 r;have xl:gl c=ϕ (M.gl c) 0 c:=vl c r;have xc:gc (k-1)=ϱ (L c (k-1)):=by have:=vc (k-1) om;rw[ah om]at this;exact this
  have wc:=aF (om:c<1000000)
  simp -dsimp only[go_sem,aa,q,l,o,r,u,F,H,ul,xl,uc,w1,(om:k-1<c)]
  refine ax.intro fun J f15=>?_;have j15:=i.st.inn f15;have n515:=i.pl.fresh f15;have n615:=i.v6.fresh f15;have n715:=i.v7.fresh f15;have s15:=i.none f15;have hE:dh V ((V.upd J ⟨50,2,1,fun _=>ϱ 0⟩).upd J ⟨50,2,1,aL (fun _=>ϱ 0) 0 (ϱ (L c (k-1)))⟩):=((dh.refl V).upd f15 _).upd f15 _;simp -dsimp only[go_sem,aa,q,l,o,F,xl,xc,w1];refine iZ (fun O V=>O 0=ϰ M.bs 0/\O 1=ι k/\O 5=ϖ G 0/\O 6=ϖ A 0/\O 7=ϖ B 0/\O 14=ι c/\O 15=ϖ J 0/\cS V J 50 2 (ϱ (L c (k-1)))/\AZ S V M n (fun j=>if j=k then p.a else m j) (fun a x=>if a<c then tn k p f.a f.b m L a x else L a x) (ip T k p.f0 p.f1 p.s0 p.s1) G A B p f.a f.b) ⟨by simp only[go_sem,q],by simp only[go_sem,l],by simp only[go_sem,s],by simp only[go_sem,y],by simp only[go_sem,t],by simp only[go_sem,o],by simp only[go_sem],cS.set,i.ext hE⟩ ?_
  clear q l s y t o i u U F H y3 ul vl uc vc xl xc hE f15;clear O V g gl gc;rintro O V ⟨q,l,s,y,t,o,D,E,i⟩;obtain⟨g,u,U,F,H,y3⟩:=i.st.c0;obtain⟨gm,um,vm⟩:=i.st.m0;obtain⟨gl,ul,vl⟩:=i.st.l0;obtain⟨gc,uc,vc⟩:=i.st.l1 r;obtain⟨g15,P,Q⟩:=id E;obtain⟨g7,u7,z7⟩:=id i.v7;obtain⟨g6,u6,z6⟩:=id i.v6;have xl:gl c=ϕ (M.gl c) 0 c:=vl c r;have xck:gc k=ϱ (L c k):=by have:=vc k om;rw[ah om]at this;exact this
  have xm:gm (k-1)=ϱ (m (k-1)):=by have:=vm (k-1) om;rw[ah om]at this;exact this
  refine aN 24 kr ?_
  simp -dsimp only[go_sem,aa,q,l,t,o,D,r,u,U,F,um,xm,ul,xl,uc,xck,P,Q,u7,z7,w1,(om:k-1<n+1),(om:k<c)]
  have k1:=(hm (k-1) om).mul (hL c k r om);have k2:=(hL c (k-1) r om).mul hb0;refine⟨_,(gL (hm (k-1) om) (hL c k r om) om).pure',_,(gL (hL c (k-1) r om) hb0 om).pure',_,(l6 k1 k2 om).pure',?_⟩;refine ax.intro fun v W=>?_;have j16:=i.st.inn W;have n1516:=E.fresh W;have n616:=i.v6.fresh W;have n716:=i.v7.fresh W;simp -dsimp only[*,go_sem,aL];have kN:=k1.add k2;have hyy:(m (k-1)*L c k+L c (k-1)*f.b)/f.a=yw k f.a f.b m L c:=rfl;generalize m (k-1)*L c k+L c (k-1)*f.b=N at *;refine(ft (k:=K+K+1) kN (ha0.mono om) om om).call ?_;rw[hyy];have kY:nb (yw k f.a f.b m L c) (K+K+1):=by
   rw[<-hyy];exact nb.of_le (DH h0) kN
  have hE:dh V ((V.upd v ⟨50,2,1,fun _=>ϱ 0⟩).upd v ⟨50,2,1,aL (fun _=>ϱ 0) 0 (ϱ N)⟩):=((dh.refl V).upd W _).upd W _;have R:cS ((V.upd v ⟨50,2,1,fun _=>ϱ 0⟩).upd v ⟨50,2,1,aL (fun _=>ϱ 0) 0 (ϱ N)⟩) v 50 2 (ϱ N):=cS.set;have hI':=i.ext hE;have h15':=E.ext hE;generalize (V.upd v ⟨50,2,1,fun _=>ϱ 0⟩).upd v ⟨50,2,1,aL (fun _=>ϱ 0) 0 (ϱ N)⟩=V2 at *;obtain⟨g16,u16,z16⟩:=id R;simp -dsimp only[go_sem,aa,u16,aL];have n516:=i.pl.fresh W;have s16:=i.none W;have hI3:=hI'.var (c:=v) j16 (i.pl.fresh W) n616 n716 s16 ⟨50,2,1,aL g16 0 (ϱ (yw k f.a f.b m L c))⟩;refine iZ (fun O V=>O 0=ϰ M.bs 0/\O 1=ι k/\O 5=ϖ G 0/\O 6=ϖ A 0/\O 7=ϖ B 0/\O 14=ι c/\O 15=ϖ J 0/\O 16=ϖ v 0/\cS V J 50 2 (ϱ (L c (k-1)))/\cS V v 50 2 (ϱ (yw k f.a f.b m L c))/\AZ S V M n (fun j=>if j=k then p.a else m j) (fun a x=>if a<c then tn k p f.a f.b m L a x else L a x) (ip T k p.f0 p.f1 p.s0 p.s1) G A B p f.a f.b) ⟨by simp only[go_sem,q],by simp only[go_sem,l],by simp only[go_sem,s],by simp only[go_sem,y],by simp only[go_sem,t],by simp only[go_sem,o],by simp only[go_sem,D],by simp only[go_sem],h15'.upd n1516 _,cS.set,hI3⟩ ?_
  clear q l s y t o D i hI' hI3 E h15' R u U F H y3 um vm ul vl uc vc xl xck xm P Q u7 z7 u6 z6 u16 z16 hE W;clear O V V2 g gm gl gc g15 g7 g6 g16;rintro O V ⟨q,l,s,y,t,o,D,e16,E,R,i⟩;obtain⟨g5,u5,x0,x1,x2,x3,x4,x5,x6⟩:=i.pl.get;obtain⟨g15,P,Q⟩:=id E;obtain⟨g16,u16,z16⟩:=id R;refine aN 10 kr ?_
  simp -dsimp only[go_sem,aa,s,D,e16,u5,x3,x4,x5,x6,P,Q,u16,z16,ai n1516,ed];have hx:nb (L c (k-1)) (K+K+1):=(hL c (k-1) r om).mono om;refine⟨_,(lZ p.f0 p.f1 (L c (k-1)) (yw k f.a f.b m L c) (K+K+1) (Y.f0.mono om) (Y.f1.mono om) hx kY om).pure',_,(lZ p.s0 p.s1 (L c (k-1)) (yw k f.a f.b m L c) (K+K+1) (Y.s0.mono om) (Y.s1.mono om) hx kY om).pure',?_⟩;rw[show p.f0*L c (k-1)+p.f1*yw k f.a f.b m L c=tj k p f.a f.b m L c from rfl,show p.s0*L c (k-1)+p.s1*yw k f.a f.b m L c=Af k p f.a f.b m L c from rfl];have kX:nb (tj k p f.a f.b m L c) (4*K+3):=(((Y.f0.mono (om:K<=K+K+1)).mul hx).add ((Y.f1.mono (om:K<=K+K+1)).mul kY)).mono om
  have kZ:nb (Af k p f.a f.b m L c) (4*K+3):=(((Y.s0.mono (om:K<=K+K+1)).mul hx).add ((Y.s1.mono (om:K<=K+K+1)).mul kY)).mono om
  simp -dsimp only[go_sem];have hI2:=(i.var (c:=J) j15 n515 n615 n715 s15 ⟨50,2,1,aL g15 0 (ϱ (tj k p f.a f.b m L c))⟩).var (c:=v) j16 n516 n616 n716 s16 ⟨50,2,1,aL g16 0 (ϱ (Af k p f.a f.b m L c))⟩;refine iZ (fun O V=>O 0=ϰ M.bs 0/\O 1=ι k/\O 5=ϖ G 0/\O 6=ϖ A 0/\O 7=ϖ B 0/\O 14=ι c/\O 15=ϖ J 0/\O 16=ϖ v 0/\cS V J 50 2 (ϱ (tj k p f.a f.b m L c))/\cS V v 50 2 (ϱ (Af k p f.a f.b m L c))/\AZ S V M n (fun j=>if j=k then p.a else m j) (fun a x=>if a<c then tn k p f.a f.b m L a x else L a x) (ip T k p.f0 p.f1 p.s0 p.s1) G A B p f.a f.b) ⟨by simp only[go_sem,q],by simp only[go_sem,l],by simp only[go_sem,s],by simp only[go_sem,y],by simp only[go_sem,t],by simp only[go_sem,o],by simp only[go_sem,D],by simp only[go_sem,e16],cS.set.upd n1516 _,cS.set,hI2⟩ ?_
  clear q l s y t o D e16 i hI2 E R u5 x0 x1 x2 x3 x4 x5 x6 P Q u16 z16;clear O V g5 g15 g16;rintro O V ⟨q,l,s,y,t,o,D,e16,E,R,i⟩;obtain⟨g,u,U,F,H,y3⟩:=i.st.c0;obtain⟨gl,ul,vl⟩:=i.st.l0;obtain⟨gc,uc,vc⟩:=i.st.l1 r;obtain⟨g15,P,Q⟩:=id E;have xl:gl c=ϕ (M.gl c) 0 c:=vl c r;have r15:=(nN.ne j15).2.2.2.2.1 c r;have r16:=(nN.ne j16).2.2.2.2.1 c r;refine aN 11 kr ?_
  simp -dsimp only[go_sem,aa,q,l,o,D,r,u,F,ul,xl,uc,P,Q,w1,(om:k-1<c)]
  have s1:=i.st.setL (c:=k-1) (z:=tj k p f.a f.b m L c) r uc;have hI2:=i.mod s1 ((nO.refl _ _ _).upd (nN.gl r) _);refine iZ (fun O V=>O 0=ϰ M.bs 0/\O 1=ι k/\O 5=ϖ G 0/\O 6=ϖ A 0/\O 7=ϖ B 0/\O 14=ι c/\O 15=ϖ J 0/\O 16=ϖ v 0/\cS V J 50 2 (ϱ (tj k p f.a f.b m L c))/\cS V v 50 2 (ϱ (Af k p f.a f.b m L c))/\AZ S V M n (fun j=>if j=k then p.a else m j) (dU (fun a x=>if a<c then tn k p f.a f.b m L a x else L a x) c (k-1) (tj k p f.a f.b m L c)) (ip T k p.f0 p.f1 p.s0 p.s1) G A B p f.a f.b) ⟨by simp only[go_sem,q],by simp only[go_sem,l],by simp only[go_sem,s],by simp only[go_sem,y],by simp only[go_sem,t],by simp only[go_sem,o],by simp only[go_sem,D],by simp only[go_sem,e16],E.upd (ai r15) _,R.upd (ai r16) _,hI2⟩ ?_
  clear q l s y t o D e16 i hI2 E R u U F H y3 ul vl uc vc xl P Q s1;clear O V g gl gc g15;rintro O V ⟨q,l,s,y,t,o,D,e16,E,R,i⟩;obtain⟨g5,u5,x0,x1,x2,x3,x4,x5,x6⟩:=i.pl.get;obtain⟨g15,P,Q⟩:=id E;obtain⟨g16,u16,z16⟩:=id R;refine aN 10 kr ?_
  simp -dsimp only[go_sem,aa,s,D,e16,u5,x0,x1,P,Q,u16,z16];have k3:=(Y.a.mono (om:K<=4*K+3)).mul kZ
  have k4:=(Y.b.mono (om:K<=4*K+3)).mul kX
  refine⟨_,(gL (Y.a.mono (om:K<=4*K+3)) kZ om).pure',_,(gL (Y.b.mono (om:K<=4*K+3)) kX om).pure',_,(mG k3 k4 om).pure',?_⟩
  refine ax.intro fun b17 f17=>?_;have j17:=i.st.inn f17;simp -dsimp only[go_sem];have hE:dh V ((V.upd b17 ⟨50,2,1,fun _=>ϱ 0⟩).upd b17 ⟨50,2,1,aL (fun _=>ϱ 0) 0 (ϱ (p.a*Af k p f.a f.b m L c-p.b*tj k p f.a f.b m L c))⟩):=((dh.refl V).upd f17 _).upd f17 _;refine iZ (fun O V=>O 0=ϰ M.bs 0/\O 1=ι k/\O 5=ϖ G 0/\O 6=ϖ A 0/\O 7=ϖ B 0/\O 14=ι c/\O 17=ϖ b17 0/\cS V b17 50 2 (ϱ (p.a*Af k p f.a f.b m L c-p.b*tj k p f.a f.b m L c))/\AZ S V M n (fun j=>if j=k then p.a else m j) (dU (fun a x=>if a<c then tn k p f.a f.b m L a x else L a x) c (k-1) (tj k p f.a f.b m L c)) (ip T k p.f0 p.f1 p.s0 p.s1) G A B p f.a f.b) ⟨by simp only[go_sem,q],by simp only[go_sem,l],by simp only[go_sem,s],by simp only[go_sem,y],by simp only[go_sem,t],by simp only[go_sem,o],by simp only[go_sem],cS.set,i.ext hE⟩ ?_
  clear q l s y t o D e16 i E R u5 x0 x1 x2 x3 x4 x5 x6 P Q u16 z16 hE f17;clear O V g5 g15 g16;rintro O V ⟨q,l,s,y,t,o,e17,h17,i⟩;obtain⟨g,u,U,F,H,y3⟩:=i.st.c0;obtain⟨gm,um,vm⟩:=i.st.m0;obtain⟨gl,ul,vl⟩:=i.st.l0;obtain⟨gc,uc,vc⟩:=i.st.l1 r;obtain⟨g17,u17,z17⟩:=id h17;have xl:gl c=ϕ (M.gl c) 0 c:=vl c r;have xm:gm (k-1)=ϱ (m (k-1)):=by have:=vm (k-1) om;rw[ah om]at this;exact this
  refine eO 23 [[20,21]] kr ?_
  simp only[go_sem,aa,q,l,s,y,t,o,e17,r,u,U,F,um,xm,ul,xl,uc,u17,z17,w1,(om:k-1<n+1),(om:k<c)]
  refine⟨_,(ft (k:=8*K+7) ((k3.sub k4).mono om) ((hm (k-1) om).mono om) om om).pure',?_⟩;rw[show(p.a*Af k p f.a f.b m L c-p.b*tj k p f.a f.b m L c)/m (k-1)=OF k p f.a f.b m L c from rfl];simp only[go_sem,wc,bO];refine⟨⟨c+1,om,om,rfl,i.mod ((i.st.setL (c:=k) (z:=OF k p f.a f.b m L c) r uc).congr (fun _ _=>rfl) ?_ (fun _ _ _ _=>rfl)) ((nO.refl _ _ _).upd (nN.gl r) _)⟩,om⟩
  intro a x _ hx;simp only[dU,tn];grind
 have hcn:c=n:=om
 simp only[go_sem,aa,q,l,o,r,u,H];rw[hQ'];simp only[go_sem];exact⟨i.st.congr (fun _ _=>rfl) (fun a x ha _=>by rw[aj om]) (fun _ _ _ _=>rfl),i.fr⟩

def QT(l:∀a b,a<n->b<n->Q a b=Q b a)(f:j<i){a c:Nat}(g:c<a):Sv (fun k=>det k (gT Q n T)) (fq (gT Q n T)) i j a c=fq (gT Q n (N2 Q n i j T)) a c:=by
 unfold Sv N2;by_cases h:2*((fq (gT Q n T) i j).natAbs:Int)<=det (j+1) (gT Q n T)
 .rw[aj h,aj h]
 .rw[ah h,ah h,wJ l];dsimp only;generalize gn (fq (gT Q n T) i j) (det (j+1) (gT Q n T))=q;by_cases e:a=i
  .subst e;by_cases d:c<j
   .rw[aj ⟨rfl,d⟩,D0 f d];grind
   .rw[ah om];by_cases m:c=j
    .subst m;rw[aj ⟨rfl,rfl⟩,mB f];grind
    .rw[ah om,rI om g]
  .rw[ah om,ah om];rcases aB a i with d|d
   .rw[mA d om]
   .rw[ya f om g]
def Ou(c:i<n)(d:j<i):fq (gT Q n jT) i j=fq Q i j:=by
 unfold fq cl;refine aZ fun a b e f=>tq ?_ ?_
 .rw[kf];split<;>omega
 .rw[kf];split<;>omega
def Nc(S:St)(M:pP)(n:Nat)(Q T:az):Prop:=lJ S M n (fun k=>det k (gT Q n T)) (fq (gT Q n T)) T
def Nc.short(d:∀a b,a<n->b<n->Q a b=Q b a)(e:j<k)(h:lJ S M n (fun c=>det c (gT Q n T)) (Sv (fun c=>det c (gT Q n T)) (fq (gT Q n T)) k j) (shV (fun c=>det c (gT Q n T)) (fq (gT Q n T)) T k j)):Nc S M n Q (N2 Q n k j T) :=
 h.congr (fun c _=>(EQ d e c).symm) (fun a c _ f=>QT d e f) (fun _ _ _ _=>rfl)
def cntP:AV->Nat
 | .int _ z=>(z+1).toNat
 | _=>0
def QZ(h:Pd A n)(a:0<k)(b:k<n):(det (k-1) A*det (k+1) A+fq A k (k-1)*fq A k (k-1))/det k A=cl A (k-1) 1 1:=by
 have e:=(pS.init h a b).ac;rw[(om:det (k-1) A*det (k+1) A+fq A k (k-1)*fq A k (k-1)=det k A*cl A (k-1) 1 1),cn _ (h.ne (k:=k) om k (ag _))]
def LH(Q:az)(n d e:Nat)(y:Pd Q n)(A:1<=n)(Z:n<=8)(hE:∀i,i<n->Q i i<=2^e)(he:e*n<=d)(hd:d<=1000)(S:St)(M:pP)(h:Nc S M n Q jT) :
  cI 161 [ϰ M.bs 0] S (fun _ S'=>Nc S' M n Q (mt Q n)/\nO M n S S'):=by
 refine fC func161 rfl 39 ntmps161 kr sm ?_
 rw[jY,results161];obtain⟨K,hKl,hKu⟩:∃K:Nat,35000<=K/\K<=40000:=⟨40000,om,om⟩
 simp only[go_sem];refine FM (G:=Nat×Nat×az) (fun x O V=>O 0=ϰ M.bs 0/\O 2=ι x.2.1/\wZ Q n d x.2.1 x.2.2/\Nz Q n x.2.1 x.2.2<=x.1/\E9 Q n x.1 x.2.1 x.2.2=mt Q n/\Nc V M n Q x.2.2/\nO M n S V) (fun x=>x.1) ?_ ?_
 .exact⟨(Nz Q n 1 jT,1,jT),by simp only[go_sem],by simp only[go_sem];rfl,wZ.init y A hE he,ag _,rfl,h,nO.refl _ _ _⟩
 clear h;rintro Q' hQ' ⟨mm,k,T⟩ O V ⟨o,p,F,hm,hl,h,q⟩ R J;dsimp only at p F hm hl h;have b:=F.k1;have hkn:=F.kn;obtain⟨g,u,y0,y1,L,y3⟩:=lJ.c0 h;by_cases f:k<n
 .have w1:ω ((k:Int)-1)=(k:Int)-1:=i64_in om om;simp only[go_sem,aa,o,p,u,L,f,w1];refine cf (fun O V=>∃(j:Nat) (T':az),j<=k/\O 0=ϰ M.bs 0/\O 2=ι k/\O 3=ι ((j:Int)-1)/\Eb Q n d k j T'/\nU Q n k j T'=nU Q n k k T/\Nc V M n Q T'/\nO M n S V) (fun O V=>cntP (O 3)) ?_ ?_
  .refine⟨k,T,ag _,by simp only[go_sem,o],by simp only[go_sem,p],by simp only[go_sem],F.ls.rowI Z f F.ok,rfl,h,q⟩
  clear h q u y0 y1 L y3 o p;clear O V g;rintro Q2 hQ2 O V ⟨j,T',hj,o,p,e3,N,z,h,q⟩;obtain⟨g,u,y0,y1,L,y3⟩:=lJ.c0 h;by_cases hj0:0<j
  .obtain⟨j',rfl⟩:∃j',j=j'+1:=⟨j-1,om⟩
   rw[show((j'+1:Nat):Int)-1=(j':Int) by omega]at e3
   have r:=N.ls.bits (W:=5*d+13+n*(3*d+8)) (K:=K) y A hE he (fun i _=>wR_le om) (by
    have:=aq (3*d+8) Z;omega)
   have wj:ω ((j':Int)-1)=(j':Int)-1:=i64_in om om;simp -dsimp only[go_sem,aa,o,p,e3,u,y3,show(0:Int)<=(j':Int) by omega]
   refine(Gz V M n k j' K _ _ _ h om f om om om (r.dt (j'+1) om) (N.ls.pd.pos (j'+1) om) r.lm r.tt).mono ?_;rintro _ V1 ⟨h1,hF1⟩;simp only[*,go_sem,cntP];refine⟨⟨j',om,rfl,N2 Q n k j' T',N.step y.sym om f,?_,Nc.short y.sym om h1,q.trans hF1⟩,om⟩
   rw[<-z];rfl
  .obtain rfl:j=0:=om
   rw[show((0:Nat):Int)-1=-1 by omega]at e3
   simp only[go_sem,aa,o,p,e3,(om:¬((0:Int)<=-1))]
   rw[hQ2];simp -dsimp only[go_sem,aa,o,p];have hT:T'=nU Q n k k T:=z;have B:=N.fin Z f;have l:=N.ls.pd;have r:=B.bits (W:=5*d+13) (K:=K) y A hE he (fun i _=>by split<;>omega) om
   have hc:=QZ l b f;obtain⟨q1,q2,q3⟩:=B.plane b f (by rw[aj (ag _)];exact ag _)
   have P:=AT.init l b f q1 q2;obtain⟨z1,z2,z3,z4,z5,z6,z7⟩:=P.bits l b f q1 q2 (om:2*d+4<K)
   have U:(mI (gT Q n T') k).a<=((mI (gT Q n T') k).a.toNat:Int):=Int.self_le_toNat _;have hstep:=F.step y.sym Z f;rw[<-hT]at hstep;obtain⟨m',rfl⟩:∃m',mm=m'+1:=⟨mm-1,by have:=I9 (Q:=Q) (T:=T) f;omega⟩
   have s:E9 Q n m' (Q9 Q n k T') (Q8 Q n k T')=mt Q n:=by
    rw[<-hl,E9,aj f,<-hT]
   refine(Df V M n k K _ _ _ h b f om om r.dt (r.lm k (k-1) f om) (by have:=l.pos k om;omega)).mono ?_
   rintro _ V1 ⟨rfl,C⟩;rw[hc]
   replace h:Nc V1 M n Q T':=lJ.ext h C
   replace q:=q.ext C
   clear C u y0 y1 L y3;clear g;simp -dsimp only[go_sem,aa,o,p,aU,bF,ca,cA];refine ax.intro fun t Y=>?_;have i4:=lJ.inn h Y;have s4:S t=ae:=by
    cases e:S t with
    | none=>rfl
    | some X=>have:=q t X i4 e;rw[Y]at this;cases this
   simp -dsimp only[go_sem];have H:sC ((V1.upd t ⟨197,2,7,fun _=>ϱ 0⟩).upd t ⟨197,2,7,fy (fun _=>ϱ 0) 0 [ϱ (det k (gT Q n T')),ϱ (fq (gT Q n T') k (k-1)),ϱ (cl (gT Q n T') (k-1) 1 1),ϱ 1,ϱ 0,ϱ 0,ϱ 1]⟩) t (mI (gT Q n T') k):=sC.here (by simp[fy,mI]) (by simp[fy,mI]) (by simp[fy,mI]) (by simp[fy,mI]) (by simp[fy,mI]) (by simp[fy,mI]) (by simp[fy,mI])
   have D:dh V1 ((V1.upd t ⟨197,2,7,fun _=>ϱ 0⟩).upd t ⟨197,2,7,fy (fun _=>ϱ 0) 0 [ϱ (det k (gT Q n T')),ϱ (fq (gT Q n T') k (k-1)),ϱ (cl (gT Q n T') (k-1) 1 1),ϱ 1,ϱ 0,ϱ 0,ϱ 1]⟩):=((dh.refl V1).upd Y _).upd Y _;refine(zp _ t (mI (gT Q n T') k) K H z1 z3 om om).mono ?_;rintro _ V2 ⟨rfl,v⟩
   replace h:Nc V2 M n Q T':=lJ.ext (lJ.ext h D) v
   replace q:=(q.ext D).ext v
   replace H:=H.ext v
   clear D v;clear Y V1 V;by_cases I:4*(mI (gT Q n T') k).c<3*(mI (gT Q n T') k).a
   .obtain⟨g,u,x0,x1,x2,x3,x4,x5,x6⟩:=H.get;simp -dsimp only[go_sem,aa,o,p,I,u,x0,x1,x2,x3,x4,x5,x6,ed];obtain⟨w,_,_⟩:=LR B b f (by rw[aj (ag _)];exact ag _)
    obtain⟨v1,v2,v3,v4,v5,v6,v7⟩:=w.bits l b f q1 q2 (om:2*d+4<K)
    refine(Dy V2 M n k K _ _ _ (mI (gT Q n T') k) (Dh (gT Q n T') k) h b f om om r.dt r.lm r.tt ⟨v1,v2,v4,v5,v6,v7⟩ z1 z2 (l.pos k om) (l.pos (k-1) om) (fun S bp H=>GJ l b f q1 q2 q3 om S bp (mI (gT Q n T') k).a.toNat (mI (gT Q n T') k) P H U)).mono ?_;rintro _ V3 ⟨h3,hF3⟩;have eK:Q9 Q n k T'=max 1 (k-1):=aj I;have eT:Q8 Q n k T'=ip T' k (Dh (gT Q n T') k).f0 (Dh (gT Q n T') k).f1 (Dh (gT Q n T') k).s0 (Dh (gT Q n T') k).s1:=aj I;rw[eK,eT]at hstep;rw[eK,eT]at s;have hB:Nc V3 M n Q (ip T' k (Dh (gT Q n T') k).f0 (Dh (gT Q n T') k).f1 (Dh (gT Q n T') k).s0 (Dh (gT Q n T') k).s1):=by
     refine h3.congr (fun j _=>?_) (fun i j hi hj=>?_) (fun _ _ _ _=>rfl)
     .rw[DD y.sym b];by_cases e:j=k
      .rw[aj e,e];exact w.pl.pa.symm
      .rw[ah e];exact(w.pl.lead j e).symm
     .rw[DD y.sym b];exact OG l w b f hj hi
    have hmx:(if (k:Int)-1 > 1 then(k:Int)-1 else 1)=((max 1 (k-1):Nat):Int):=by split<;>omega
    simp only[go_sem,o,p,w1];refine⟨rfl,?_⟩;rw[hmx];have E:=Nat.le_of_lt_succ (cZ hstep.2 hm);exact J (m',max 1 (k-1),_) _ _ ⟨by simp only[go_sem,o],by simp only[go_sem],hstep.1,E,s,hB,q.trans hF3⟩ (by show m'<m'+1;omega)
   .have eK:Q9 Q n k T'=k+1:=ah I;have eT:Q8 Q n k T'=T':=ah I;rw[eK,eT]at hstep;rw[eK,eT]at s;simp only[go_sem,aa,o,p,I,aF (om:k<1000000)]
    have E:=Nat.le_of_lt_succ (cZ hstep.2 hm);exact J (m',k+1,T') _ _ ⟨by simp only[go_sem,o],by simp only[go_sem],hstep.1,E,s,h,q⟩ (by show m'<m'+1;omega)
 .simp only[go_sem,aa,o,p,u,L,f];rw[hQ'];simp only[go_sem];have hkn':k=n:=om
  have hTl:T=mt Q n:=by
   rw[<-hl]
   cases mm with
   | zero=>rfl
   | succ m=>unfold E9;rw[ah f]
  rw[<-hTl];exact⟨h,q⟩

structure pT(S:St)(b e n:Nat)(ρ:Nat->Nat)(B:az):Prop where
 outer:aY S b 59 1 n (fun a=>ϕ e (ρ a*n) n)
 inner:∃g,S e=some ⟨50,2,n*n,g⟩/\∀a c,a<n->c<n->g (ρ a*n+c)=ϱ (B a c)
 rg:∀a,a<n->ρ a<n
 inj:∀a c,a<n->c<n->ρ a=ρ c->a=c
def kU.perm{e:Nat}(h:kU S b e n n A):pT S b e n id A:=⟨h.outer,h.inner,fun _ h=>h,fun _ _ _ _ h=>h⟩
def pT.set{e:Nat}(h:pT S b e n ρ B){i c:Nat}{z:Int}{g:Nat->AV}(l:i<n)(m:c<n)(u:S e=some ⟨50,2,n*n,g⟩):pT (S.upd e ⟨50,2,n*n,aL g (ρ i*n+c) (ϱ z)⟩) b e n ρ (dU B i c z):=by
 refine⟨h.outer.upd (aY.ne h.outer (aY.of u) dc) _,⟨_,bW,fun a x f j=>?_⟩,h.rg,h.inj⟩
 obtain⟨r,k,o⟩:=h.inner;rw[u]at k;cases k;simp only[aL,dU];by_cases d:a=i/\x=c
 .obtain⟨rfl,rfl⟩:=d;rw[aj rfl,aj ⟨rfl,rfl⟩]
 .rw[ah d,ah ?_]
  .exact o a x f j
  .intro p;have q:=uF (i:=ρ a) j;have s:=uF (i:=ρ i) m;rw[p]at q;exact d ⟨h.inj a i f l om,om⟩
def pT.swap{e:Nat}(h:pT S b e n ρ B){k p:Nat}{o:Nat->AV}(v:k<n)(w:p<n)(u:S b=some ⟨59,1,n,o⟩):pT (S.upd b ⟨59,1,n,aL (aL o k (ϕ e (ρ p*n) n)) p (ϕ e (ρ k*n) n)⟩) b e n (fun a=>ρ (dq k p a)) (fun a c=>B (dq k p a) c):=by
 have j:∀a,a<n->dq k p a<n:=fun a d=>by unfold dq;split<;>(try split)<;>omega
 obtain⟨g,q,s⟩:=h.inner;have l:e≠b:=ai (aY.ne h.outer (aY.of q) dc)
 refine⟨aY.here fun a d=>?_,⟨g,by rw[aE l];exact q,fun a c d m=>s _ c (j a d) m⟩,fun a d=>h.rg _ (j a d),fun a c d m e=>?_⟩
 .obtain⟨x,r,t⟩:=h.outer;rw[u]at r;cases r;simp only[aL,dq];by_cases i:a=p
  .rw[aj i];by_cases f:a=k
   .rw[aj f];congr 2;rw[<-i,<-f]
   .rw[ah f,aj i]
  .rw[ah i];by_cases f:a=k
   .rw[aj f,aj f]
   .rw[ah f,ah f,ah i];exact t a d
 .have:=h.inj _ _ (j a d) (j c m) e;unfold dq at this
  grind
def pT.upd{e:Nat}(h:pT S b e n ρ B){c:Nat}(a:b≠c)(d:e≠c)(X:eA):pT (S.upd c X) b e n ρ B:=by
 obtain⟨g,f,i⟩:=h.inner;exact⟨h.outer.upd a _,⟨g,by rw[aE d];exact f,i⟩,h.rg,h.inj⟩
def RkP(S:St)(n k p:Nat)(A:az)(b e b8:Nat):Prop:=∃(σ ρ:Nat->Nat) (neg:Bool) (B:az),ma A n σ neg k/\pT S b e n ρ B/\cS S b8 50 2 (ϱ (det k (fun a b=>A (σ a) b)))/\(∀i j,k<=i->i<n->k<=j->j<n->B i j=cl (fun a b=>A (σ a) b) k (i-k) (j-k))/\∀i,k<=i->i<p->B i k=0
def Nf(n:Nat)(A:az)(i j:Nat)(a:i<n)(b:j<n):PF 250 [ι i,ι j,.pat 1 (aP n n A)] (ϱ (A i j)):=by
 refine iy func250 ntmps250 results250 ?_;simp -dsimp only[go_sem];refine ax.intro fun bc fc=>?_
 try simp only[*,go_sem,aP,bn]
 exact VR.mf rfl
def EM{K:AV->Prop}(c:k<=n)(d:0<k)(h:∀x,(k=n->∃g,x=.lst 1 0 g)->(k<n->x=ϑ b k (n-k))->K x):lh 52 (ϑ b 0 n) (some (ι (k:Int))) ae ae K:=by
 refine⟨rfl,k,n,rfl,rfl,trivial,c,ag _,?_⟩;show K (if k=0∨k<n then ϑ b (0+k) (n-k)else AV.lst 1 0 fun _=>AV.any)
 by_cases e:k<n
 .rw[aj (aQ e),aM];exact h _ (fun a=>om) (fun _=>rfl)
 .rw[ah om];exact h _ (fun _=>⟨_,rfl⟩) (fun a=>absurd a e)
def PK(n K:Nat)(A:az)(h1:1<=n)(h2:n<=16)(hK1:1<=K)(hK:K<=1000000)(hd:det n A≠0)(hB:∀σ neg k,ma A n σ neg k->∀k' i j,k'+i<n->k'+j<n->nb (cl (fun a b=>A (σ a) b) k' i j) K):PF 211 [aP n n A] (.tup [ι n,.bool true]):=by
 refine iy func211 ntmps211 results211 ?_;simp -dsimp only[go_sem,aa,aP,bn];refine ax.intro fun b1 f1=>?_;simp -dsimp only[go_sem];refine(ll n n A h1 h2 h1 h2).call ?_;simp -dsimp only[go_sem,aa];refine(zD n n 250 [.pat 1 (aP n n A)] A om h1 h2 h1 h2 (fun i j z I=>Nf n A i j z I) _ _ (eM.fn1 (eM.one (VA.ptr (cS.new rfl) (VA.refl _ _))))).mono ?_;rintro _ S1 ⟨b,e,rfl,hF0,hE0,hn0,hm0⟩;simp -dsimp only[go_sem,aa];refine(fS (a:=1) om om).call ?_;simp -dsimp only[go_sem];refine ax.intro fun L f8=>?_;have W:=hF0.perm;have X:b≠L:=aY.fresh W.outer f8;have Y:e≠L:=fun h=>by obtain⟨g,h1,_⟩:=W.inner;rw[h,f8]at h1;cases h1
 simp only[go_sem,aa];refine cf (fun O S=>∃k:Nat,k<=n/\O 4=ι n/\O 5=ι n/\O 7=ϑ b 0 n/\O 8=ϖ L 0/\O 9=ι k/\O 29=ι n/\O 30=ι k/\RkP S n k k A b e L) (fun O S=>n-bO (O 30)) ?_ ?_
 .simp only[go_sem];exact⟨0,om,rfl,rfl,id,id,false,A,ma.init A n,(W.upd X Y _).upd X Y _,cS.set,fun i j _ _ _ _=>by rw[eV];rfl,fun i z hi2=>om⟩
 clear hF0 hE0 hn0 hm0 W f8;rintro Q' hQ' O S ⟨k,hkn,G,E,F,H,y,d,f,hR⟩;by_cases m:k<n
 .simp only[go_sem,y,d,f,m];refine cf (fun O S=>∃p:Nat,k<=p/\p<=n/\O 4=ι n/\O 5=ι n/\O 7=ϑ b 0 n/\O 8=ϖ L 0/\O 9=ι k/\O 10=ι k/\O 11=ι p/\O 29=ι n/\O 30=ι k/\RkP S n k p A b e L) (fun O S=>n-bO (O 11)) ?_ ?_
  .simp only[*,go_sem];exact⟨k,om,om,rfl,hR⟩
  clear G E F H y d f hR;clear O S;rintro Q2 hQ2 O S ⟨p,hkp,hpn,G,E,F,H,y,l,M,d,f,σ,ρ,neg,B,J,C,N,P,hZ⟩;have hp:p<n:=by
   refine CE hpn fun ep=>hd (J.zero m fun i z=>?_);have:=P (k+i) k om om (ag _) m;rw[bR,(om:k+i-k=i)]at this
   rw[<-this];exact hZ _ om om
  obtain⟨g1,u1,v1⟩:=id C.outer;obtain⟨g2,u2,Z⟩:=id C.inner;have xp:g1 p=ϕ e (ρ p*n) n:=v1 p hp;have xk:g1 k=ϕ e (ρ k*n) n:=v1 k m;have xpk:g2 (ρ p*n+k)=ϱ (B p k):=Z p k hp m;have hfl:ρ p*n+n<=n*n:=by
   have:=aq n (show ρ p+1<=n from C.rg p hp)
   rwa [cj]at this
  have Q:=P p k hkp hp (ag _) m;rw[bR]at Q;have hbp:=hB σ neg k J k (p-k) 0 om om;rw[<-Q]at hbp;simp -dsimp only[go_sem,aa,G,F,l,M,m,hp,u1,xp,u2,xpk,(om:ρ p*n+k<n*n)]
  refine(ka hbp om).call ?_;by_cases h0:B p k=0
  .simp -dsimp only[go_sem,G,E,F,H,y,l,M,d,f,h0,ph,aF (om:p<1000000),bO]
   refine⟨⟨p+1,om,om,rfl,σ,ρ,neg,B,J,C,N,P,fun i hi1 hi2=>?_⟩,om⟩
   by_cases e2:i=p
   .rw[e2];exact h0
   .exact hZ i hi1 om
  have hs0:((B p k).sign==0)=false:=by
   simp only[fW,yL];rw[iA];exact h0
  simp -dsimp only[go_sem,G,E,F,H,y,l,M,d,f,hs0];have hex:∃σ' neg',ma A n σ' neg' k/\det k (fun a b=>A (σ' a) b)=det k (fun a b=>A (σ a) b)/\∀i j,cl (fun a b=>A (σ' a) b) k i j=cl (fun a b=>A (σ a) b) k (dq 0 (p-k) i) j:=by
   by_cases epk:p=k
   .subst epk;exact⟨σ,neg,J,rfl,fun i j=>by rw[bR];congr 1;unfold dq;split<;>(try split)<;>omega⟩
   .exact⟨fun a=>σ (dq k p a),!neg,J.swap om hp,tR (n:=k) (fun a c=>A (σ a) c) (i:=k) (k:=p) om om,fun i j=>tQ (k:=k) (p:=p) (fun a c=>A (σ a) c) om i j⟩
  obtain⟨σ',neg',s,hdet,hstg⟩:=hex;have hsw:∀i,i<n->dq k p i<n:=fun i z=>by unfold dq;split<;>(try split)<;>omega
  have R:∀i,k<=i->k<=dq k p i/\dq k p i-k=dq 0 (p-k) (i-k):=fun i z=>by unfold dq;split<;>split<;>(try split)<;>(try split)<;>omega
  have hP':=C.swap m hp u1;have T:∀i j,k<=i->i<n->k<=j->j<n->B (dq k p i) j=cl (fun a b=>A (σ' a) b) k (i-k) (j-k):=fun i j z o I q=>by
   rw[P _ j (R i z).1 (hsw i o) I q,hstg,(R i z).2]
  have h0':cl (fun a b=>A (σ' a) b) k 0 0≠0:=by
   have:=T k k (ag _) m (ag _) m;rw[bR]at this;rw[<-this,show dq k p k=p by unfold dq;rw[aj rfl]]
   exact h0
  have hV':=N.upd (ai X) (⟨59,1,n,aL (aL g1 k (ϕ e (ρ p*n) n)) p (ϕ e (ρ k*n) n)⟩);rw[<-hdet]at hV';have w2:=aF (om:k<1000000)
  have yk:aL (aL g1 k (ϕ e (ρ p*n) n)) p (ϕ e (ρ k*n) n) k=ϕ e (ρ p*n) n:=by
   simp only[aL];by_cases epk:k=p
   .rw[aj epk,epk]
   .rw[ah epk,aj trivial]
  refine fm 12 kr ?_
  simp (maxSteps:=3000000) -dsimp only[go_sem,vC,↓reduceIte,reduceCtorEq,QE,aa,F,y,M,m,hp,u1,xp,xk,w2,yk,dw,gF];refine EM om om ?_;intro x hx1 hx2;generalize hBB:(fun a c=>B (dq k p a) c)=B' at hP';generalize hrr:(fun a=>ρ (dq k p a))=ρ' at hP';have hrk:ρ' k=ρ p:=by rw[<-hrr];show ρ (dq k p k)=ρ p;congr 1;unfold dq;rw[aj rfl]
  have hBs2:∀i j,k<=i->i<n->k<=j->j<n->B' i j=cl (fun a b=>A (σ' a) b) k (i-k) (j-k):=fun i j z o I q=>by rw[<-hBB];exact T i j z o I q
  rw[<-hrk]at yk;rw[lu];generalize S.upd b ⟨59,1,n,aL (aL g1 k (ϕ e (ρ p*n) n)) p (ϕ e (ρ k*n) n)⟩=S3 at *;apply so (fun O V=>∃x,(k+1<n->x=ϑ b (k+1) (n-(k+1)))/\O 4=ι n/\O 5=ι n/\O 7=ϑ b 0 n/\O 8=ϖ L 0/\O 9=ι k/\O 10=ι k/\O 12=ϕ e (ρ' k*n) n/\O 29=ι n/\O 30=ι k/\O 69=x/\O 70=ι ((n-(k+1):Nat):Int)/\O 71=ι 0/\V=S3)
  .intro key;have x12:ϕ e (ρ p*n) n=ϕ e (ρ' k*n) n:=by rw[hrk]
   rcases (om:k+1=n∨k+1<n)with ek|ek
   .obtain⟨gx,rfl⟩:=hx1 ek;simp only[go_sem];refine key _ _ ⟨.lst 1 0 gx,fun h=>om,?_⟩
    simp only[go_sem,G,E,F,H,y,l,d,f,hrk,(om:n-(k+1)=0)]
   .obtain rfl:=hx2 ek;simp only[go_sem];refine key _ _ ⟨ϑ b (k+1) (n-(k+1)),fun _=>rfl,?_⟩;simp only[*,go_sem]
  clear G E F H y l M d f hx1 hx2 u1 v1 u2 Z xp xk xpk hfl Q hbp hs0 C N P hZ hsw R T yk h0 hstg hdet hrk hBB hrr J;clear O x;rintro O V ⟨x,hx,G,E,F,H,y,l,D,d,f,u,v,w,rfl⟩;refine cf (fun O V=>∃(r:Nat) (B2:az),r<=n-(k+1)/\O 4=ι n/\O 5=ι n/\O 7=ϑ b 0 n/\O 8=ϖ L 0/\O 9=ι k/\O 10=ι k/\O 12=ϕ e (ρ' k*n) n/\O 29=ι n/\O 30=ι k/\O 69=x/\O 70=ι ((n-(k+1):Nat):Int)/\O 71=ι r/\pT V b e n ρ' B2/\cS V L 50 2 (ϱ (det k (fun a b=>A (σ' a) b)))/\(∀i j,k<=i->i<n->k<=j->j<n->B2 i j=if k<i/\k<j/\(i<k+1+r)then cl (fun a b=>A (σ' a) b) (k+1) (i-k-1) (j-k-1)else cl (fun a b=>A (σ' a) b) k (i-k) (j-k))) (fun O V=>n-(k+1)-bO (O 71)) ?_ ?_
  .refine⟨0,B',om,G,E,F,H,y,l,D,d,f,u,v,w,hP',hV',fun i j z o I q=>?_⟩
   rw[hBs2 i j z o I q,ah om]
  clear G E F H y l D d f u v w hP' hV' hBs2;clear O B';rintro Q3 hQ3 O V ⟨r,B2,hr,G,E,F,H,y,l,D,d,f,u,v,w,C,N,t⟩;by_cases hrn:r<n-(k+1)
  .have hxx:=hx om;subst hxx;obtain⟨g1,u1,v1⟩:=id C.outer;have x1:g1 (k+1+r)=ϕ e (ρ' (k+1+r)*n) n:=v1 (k+1+r) om;simp only[go_sem,aa,l,u,v,w,hrn,u1,x1,w2,(om:k+1+r<n)]
   refine cf (fun O V=>∃(c:Nat) (B2:az),k+1<=c/\c<=n/\O 4=ι n/\O 5=ι n/\O 7=ϑ b 0 n/\O 8=ϖ L 0/\O 9=ι k/\O 10=ι k/\O 12=ϕ e (ρ' k*n) n/\O 29=ι n/\O 30=ι k/\O 69=ϑ b (k+1) (n-(k+1))/\O 70=ι ((n-(k+1):Nat):Int)/\O 71=ι r/\O 14=ϕ e (ρ' (k+1+r)*n) n/\O 15=ι c/\pT V b e n ρ' B2/\cS V L 50 2 (ϱ (det k (fun a b=>A (σ' a) b)))/\(∀i j,k<=i->i<n->k<=j->j<n->B2 i j=if k<i/\k<j/\(i<k+1+r∨i=k+1+r/\j<c)then cl (fun a b=>A (σ' a) b) (k+1) (i-k-1) (j-k-1)else cl (fun a b=>A (σ' a) b) k (i-k) (j-k))) (fun O V=>n-bO (O 15)) ?_ ?_
   .simp only[go_sem,G,E,F,H,y,l,D,d,f,u,v,w];refine⟨k+1,om,om,rfl,B2,C,N,fun i j z o I q=>?_⟩
    rw[t i j z o I q];by_cases U:k<i/\k<j/\i<k+1+r
    .rw[aj U,aj om]
    .rw[ah U,ah om]
   clear G E F H y l D d f u v w C N t u1 v1 x1;clear O V B2 g1;rintro Q4 hQ4 O V ⟨c,B2,hkc,hcn,G,E,F,H,y,l,D,d,f,u,v,w,e14,e15,C,N,t⟩;by_cases U:c<n
   .obtain⟨g2,u2,Z⟩:=id C.inner;obtain⟨g8,u8,y8⟩:=id N;have f1:ρ' k*n+n<=n*n:=by
     have:=aq n (show ρ' k+1<=n from C.rg k m)
     rwa [cj]at this
    have f2:ρ' (k+1+r)*n+n<=n*n:=by
     have:=aq n (show ρ' (k+1+r)+1<=n from C.rg _ om)
     rwa [cj]at this
    have y1:g2 (ρ' k*n+k)=ϱ (B2 k k):=Z k k m m;have y2:g2 (ρ' (k+1+r)*n+k)=ϱ (B2 (k+1+r) k):=Z _ k om m;have y3:g2 (ρ' k*n+c)=ϱ (B2 k c):=Z k c m U;have y4:g2 (ρ' (k+1+r)*n+c)=ϱ (B2 (k+1+r) c):=Z _ c om U;have c1:=t k k (ag _) m (ag _) m;have c2:=t (k+1+r) k om om (ag _) m;have c3:=t k c (ag _) m om U;have c4:=t (k+1+r) c om om om U;rw[ah om]at c1 c2 c3 c4;rw[bR]at c1 c2 c3;have m1:=hB σ' neg' k s k 0 0 om om;have m2:=hB σ' neg' k s k (k+1+r-k) 0 om om;have m3:=hB σ' neg' k s k 0 (c-k) om om;have m4:=hB σ' neg' k s k (k+1+r-k) (c-k) om om;have m5:nb (det k (fun a b=>A (σ' a) b)) K:=by
     by_cases e:k=0
     .rw[e];simp only[det];exact nb.one om
     .have:=hB σ' neg' k s (k-1) 0 0 om om;rw[cH,(om:k-1+1=k)]at this
      exact this
    have hd0:=s.lead k (ag _);have hst:=ie s.lead (k+1+r-k-1) (c-k-1);rw[(om:k+1+r-k-1+1=k+1+r-k),(om:c-k-1+1=c-k)]at hst
    rw[<-c1,<-c2,<-c3,<-c4]at hst;rw[<-c1]at m1;rw[<-c2]at m2;rw[<-c3]at m3;rw[<-c4]at m4;have hq:(B2 k k*B2 (k+1+r) c-B2 (k+1+r) k*B2 k c)/det k (fun a b=>A (σ' a) b)=cl (fun a b=>A (σ' a) b) (k+1) (k+1+r-k-1) (c-k-1):=by
     rw[hst,cn _ hd0]
    simp -dsimp only[go_sem,aa,E,e15,U];refine aN 20 kr ?_
    simp only[go_sem,aa,G,E,F,H,y,l,D,d,f,u,v,w,e14,e15,U,u2,y1,y2,y3,y4,u8,y8,m,(om:ρ' k*n+k<n*n),(om:ρ' k*n+c<n*n),(om:ρ' (k+1+r)*n+k<n*n),(om:ρ' (k+1+r)*n+c<n*n)]
    refine⟨_,(Fz _ _ _ _ _ K m1 m2 m3 m4 m5 om hd0).pure',?_⟩;rw[hq];simp only[go_sem,aF (om:c<1000000),bO]
    refine⟨⟨c+1,om,om,rfl,_,C.set (om:k+1+r<n) U u2,N.upd (ai Y) _,fun i j z o I q=>?_⟩,om⟩
    simp only[dU];by_cases e1:i=k+1+r/\j=c
    .obtain⟨rfl,rfl⟩:=e1;rw[aj ⟨rfl,rfl⟩,aj om]
    .rw[ah e1,t i j z o I q];by_cases e2:k<i/\k<j/\(i<k+1+r∨i=k+1+r/\j<c)
     .rw[aj e2,aj om]
     .rw[ah e2,ah om]
   .have hcn':n=c:=om
    simp only[go_sem,aa,E,e15,U];rw[hQ4];simp only[go_sem,G,E,F,H,y,l,D,d,f,u,v,w,aF (om:r<1000000),bO]
    refine⟨⟨r+1,om,rfl,B2,C,N,fun i j z o I q=>?_⟩,om⟩
    rw[t i j z o I q];by_cases e2:k<i/\k<j/\(i<k+1+r∨i=k+1+r/\j<c)
    .rw[aj e2,aj om]
    .rw[ah e2,ah om]
  .have hre:r=n-(k+1):=om
   obtain⟨g2,u2,Z⟩:=id C.inner;obtain⟨g8,u8,y8⟩:=id N;have f1:ρ' k*n+n<=n*n:=by
    have:=aq n (show ρ' k+1<=n from C.rg k m)
    rwa [cj]at this
   have y1:g2 (ρ' k*n+k)=ϱ (B2 k k):=Z k k m m;have c1:=t k k (ag _) m (ag _) m;rw[ah om,bR]at c1;simp only[go_sem,aa,l,u,v,w,hrn];rw[hQ3];simp only[go_sem,aa,H,y,l,D,u2,y1,u8,m,w2,(om:ρ' k*n+k<n*n)]
   rw[hQ2];simp only[go_sem,G,E,F,H,d,f,w2,bO];refine⟨⟨k+1,om,rfl,rfl,σ',ρ',neg',B2,s.step h0',C.upd X Y _,?_,fun i j z o I q=>?_,fun i h1 h2=>om⟩,om⟩
   .rw[<-cH,<-c1];exact cS.set
   .rw[t i j om o om q,aj om,mO,mO]
 .simp only[go_sem,y,d,f,m];rw[hQ'];simp only[go_sem,y];have hkn':k=n:=om
  subst hkn';exact VR.mf rfl

def Bg(n K:Nat)(A:az)(s:1<=n)(t:n<=16)(w:K<=1000000)(l:Pd A n)(m:∀k i j,k+i<n->k+j<n->nb (cl A k i j) K)(o:∀k,k<n->nb (det k A) K):PF 241 [aP n n A] (.bool true):=by
 have u:∀i j,i<n->j<n->nb (A i j) K:=fun i j v x=>by have:=m 0 i j om om;rwa [eV]at this
 refine iy func241 ntmps241 results241 ?_;simp -dsimp only[go_sem,aa];refine(tT n A s t).call ?_;simp only[go_sem];refine cf (fun O S=>∃i:Nat,i<=n/\O 0=aP n n A/\O 17=ι n/\O 18=ι i) (fun O S=>n-bO (O 18)) ?_ ?_
 .simp only[go_sem];exact⟨0,om,rfl⟩
 rintro Q' p O S ⟨i,v,h,b,c⟩;by_cases a:i<n
 .simp only[go_sem,b,c,a];refine cf (fun O S=>∃j:Nat,j<=i/\O 0=aP n n A/\O 5=ι i/\O 17=ι n/\O 18=ι i/\O 21=ι i/\O 22=ι j) (fun O S=>i-bO (O 22)) ?_ ?_
  .simp only[*,go_sem];exact⟨0,om,rfl⟩
  clear h b c;rintro Q2 q O S ⟨j,x,h,y,b,c,e,f⟩;by_cases g:j<i
  .have d:j<n:=om
   simp -dsimp only[go_sem,e,f,g,aP,bn];refine aN 16 kr ?_
   simp only[go_sem,aa,h,y,b,c,e,f,a,d,aP,bn];refine⟨_,(rB (u i j a d) (u j i d a) om).pure',?_⟩;rw[l.sym j i d a,si];simp only[go_sem,aR,aF (om:j<1000000),bO]
   exact⟨⟨j+1,om,rfl⟩,om⟩
  .simp only[go_sem,e,f,g];rw[q];simp only[*,go_sem,aF (om:i<1000000),bO]
   exact⟨⟨i+1,om,rfl⟩,om⟩
 .simp only[go_sem,b,c,a];rw[p];simp -dsimp only[go_sem,aa,h];refine(Cz n K A s t w m (fun k z=>l.ne (ag n) k z) o).call ?_;simp only[go_sem,rd];refine aC (fun O S=>∃i:Nat,i<=n/\O 50=rd n A/\O 51=ι n/\O 52=ι i) (fun O S=>n-bO (O 52)) ?_ ?_
  .simp only[go_sem,rd];exact⟨0,om,rfl⟩
  rintro O S ⟨i,v,B,C,D⟩;by_cases a:i<n
  .have E:0<n-i:=om
   simp -dsimp only[*,go_sem,aa,rd,aP,bn]
   repeat refine an ?_
   refine(ka (m i 0 0 om om) om).call ?_;have r:(cl A i 0 0).sign=1:=by
    rw[cH];exact cX (l.pos (i+1) om)
   rw[r];simp only[*,go_sem,(om:¬((1:Int)<=0)),aF (om:i<1000000),bO]
   exact⟨⟨i+1,om,rfl,rfl⟩,om⟩
  .simp only[*,go_sem,aa];exact VR.mf rfl
def rO(n K:Nat)(A:az)(l:1<=n)(x:n<=8)(t:K<=1000000)(q:Pd A n)(r:∀k i j,k+i<n->k+j<n->nb (cl A k i j) K)(m:∀k,k<n->nb (det k A) K):PF 203 [aP n n A] (ι 0):=by
 have s:∀i j,i<n->j<n->nb (A i j) K:=fun i j u v=>by have:=r 0 i j om om;rwa [eV]at this
 refine iy func203 ntmps203 results203 ?_;simp -dsimp only[go_sem,aa];refine(ll n n A l om l om).call ?_;simp only[go_sem,aR,(om:¬((8:Int)<(n:Int)))]
 refine cf (fun O S=>∃i:Nat,i<=n/\O 0=aP n n A/\O 25=ι n/\O 26=ι i) (fun O S=>n-bO (O 26)) ?_ ?_
 .simp only[go_sem];exact⟨0,om,rfl⟩
 rintro Q' o O S ⟨i,u,h,b,c⟩;by_cases a:i<n
 .simp only[go_sem,b,c,a];refine cf (fun O S=>∃j:Nat,j<=i/\O 0=aP n n A/\O 6=ι i/\O 25=ι n/\O 26=ι i/\O 29=ι i/\O 30=ι j) (fun O S=>i-bO (O 30)) ?_ ?_
  .simp only[*,go_sem];exact⟨0,om,rfl⟩
  clear h b c;rintro Q2 p O S ⟨j,v,h,w,b,c,e,f⟩;by_cases g:j<i
  .have d:j<n:=om
   simp -dsimp only[go_sem,e,f,g,aP,bn];refine aN 16 kr ?_
   simp only[go_sem,aa,h,w,b,c,e,f,a,d,aP,bn];refine⟨_,(rB (s i j a d) (s j i d a) om).pure',?_⟩;rw[q.sym j i d a,si];simp only[go_sem,aR,aF (om:j<1000000),bO]
   exact⟨⟨j+1,om,rfl⟩,om⟩
  .simp only[go_sem,e,f,g];rw[p];simp only[*,go_sem,aF (om:i<1000000),bO]
   exact⟨⟨i+1,om,rfl⟩,om⟩
 .simp only[go_sem,b,c,a];rw[o];simp -dsimp only[go_sem,aa,h];refine(Bg n K A l om t q r m).call ?_;simp only[go_sem];exact VR.mf rfl

def Do(d:n<=16)(c:∀i j,i<n->j<n->nb (A i j) k0)(e:k<=n):nb (det k A) (17*(k0+10)):=by
 refine(lw (k:=k0) k _ om fun a b f g=>c _ _ om om).mono ?_;have:=aq (k0+10) (om:k<=16)
 omega
def K6(n a:Nat)(A:az)(c:1<=n)(e:n<=8)(f:a<=10000)(d:Pd A n)(b:∀i j,i<n->j<n->nb (A i j) a):PF 158 [aP n n A] (.tup [ϱ (det n A),ι 0]):=by
 refine iy func158 ntmps158 results158 ?_;simp -dsimp only[go_sem];refine ax.intro fun h l=>?_;simp -dsimp only[go_sem,aa];refine(rO n (17*(a+10)) A c e om d (Dm om b) (fun k f=>Do om b om)).call ?_;simp -dsimp only[go_sem,aa,aR];refine(Bf n (17*(a+10)) A c om om om (d.ne (ag n) n (ag n)) (uJ om b)).call ?_;simp -dsimp only[go_sem];refine ax.intro fun m g=>?_;have n5_2:=(af g).1;simp only[go_sem,aa,ai n5_2,dL];exact VR.tup2 (VR.mf rfl) (VR.mf rfl)
def yz(n b:Nat)(Q U:az)(a:1<=n)(q:n<=8)(e:b<=10000)(r:Pd Q n)(g:∀i j,i<n->j<n->nb (Q i j) b)(c:∀i j,i<n->j<n->nb (U i j) b)(s:det n U≠0):PF 162 [aP n n Q,aP n n U] (.tup [aP n n (mm n (fun i j=>U j i) (mm n Q U)),ι 0]):=by
 refine iy func162 ntmps162 results162 ?_;simp -dsimp only[go_sem,aa,aP,bn];refine(rO n (17*(b+10)) Q a q om r (Dm om g) (fun k e=>Do om g om)).call ?_;simp -dsimp only[go_sem,aa,aR];refine(ll n n U a om a om).call ?_;simp -dsimp only[go_sem,aa,aR,(om:¬((n:Int)<n))]
 refine(PK n (17*(b+10)) U a om om om s (uJ om c)).call ?_;simp -dsimp only[go_sem,aa,(om:¬((n:Int)<n))]
 refine(oi n n b U a om a om c om _ _ (cD _ _)).mono ?_;rintro _ S2 ⟨t,u,rfl,h⟩;simp -dsimp only[go_sem,aa];refine(oo n n n b Q U a om a om a om g c om _ _ (cD _ _)).mono ?_;rintro _ S3 ⟨v,w,rfl,d⟩;have l:∀i j,i<n->j<n->nb (mm n Q U i j) (b+b+10):=fun i j m o=>z9 (f:=fun k=>Q i k*U k j) (fun k e=>(g i k m e).mul (c k j e o)) om n (ag _);simp -dsimp only[go_sem,aa];refine(oo n n n (b+b+10) (fun i j=>U j i) (mm n Q U) a om a om a om (fun i j m o=>(c j i o m).mono om) l om _ _ (eM.two (h.1.ext d.2.1).vr.va d.1.vr.va)).mono ?_;rintro _ S4 ⟨x,y,rfl,p⟩;simp only[go_sem];exact VR.tup2 p.1.vr (VR.mf rfl)
def L2(e:1<=n)(d:n<=16)(c:1<=k0)(f:∀i j,i<n->j<n->nb (U i j) k0){i j:Nat}(g:i<n)(h:j<n):nb (iq n U i j) (17*(k0+10)):=by
 rw[uT e U h g];unfold pI;refine(lw (k:=k0) n _ d fun a b l m=>?_).mono ?_
 .simp only[setRow];split
  .unfold dp;split
   .exact nb.one c
   .exact nb.zero k0
  .exact f a b l m
 .have:=aq (k0+10) d;omega
def Eg(n b:Nat)(U:az)(e:1<=n)(s:n<=8)(c:1<=b)(m:b<=300)(f:∀i j,i<n->j<n->nb (U i j) b)(g:det n U*det n U=1):PF 96 [aP n n U] (.tup [aP n n (J7 n U),.bool true]):=by
 refine iy func96 ntmps96 results96 ?_;have k:det n U≠0:=fun h=>by rw[h]at g;simp at g
 simp -dsimp only[go_sem,aa,aP,bn];refine(Bf n (17*(b+10)) U e om om om k (uJ om f)).call ?_;simp -dsimp only[go_sem];refine ax.intro fun t u=>?_;rcases Gv g with h|h
 .rw[h];simp -dsimp only[go_sem,aa,dL];refine(pE (a:=1) (by unfold gU;omega)).call ?_
  simp -dsimp only[go_sem,aa,cb];refine(rG n b U e om c m f _ _ (cD _ _)).mono ?_;rintro _ S2 ⟨o,p,rfl,d⟩;simp only[go_sem];refine VR.tup2 ?_ (VR.mf rfl);exact(d.1.congr fun i j _ _=>by unfold J7;rw[aj h]).vr
 .rw[h];simp -dsimp only[go_sem,aa,dL];refine(pE (a:=-1) (by unfold gU;omega)).call ?_
  simp -dsimp only[go_sem,aa,cb,show((-1:Int)==1)=false from rfl];refine(rG n b U e om c m f _ _ (cD _ _)).mono ?_;rintro _ S2 ⟨o,p,rfl,d⟩;simp -dsimp only[go_sem,aa];refine(zY n n (17*(b+10)) (iq n U) e om om (fun i j q r=>L2 e om c f q r) om _ _ (eM.one d.1.vr.va)).mono ?_;rintro _ S3 ⟨v,w,rfl,l⟩;simp only[go_sem];refine VR.tup2 ?_ (VR.mf rfl);exact(l.1.congr fun i j _ _=>by unfold J7;rw[ah om]).vr

structure QG(n:Nat)(Q:az):Prop where
 pd:Pd Q n
 one:1<=n
 five:n<=8
 ent:∀i j,i<n->j<n->(Q i j).natAbs<=1120325651456000
 dt:det n Q<=10000
def p2_50:(2:Int)^50=1125899906842624:=by decide
def QG.e(h:QG n Q):∀i,i<n->Q i i<=2^50:=fun i a=>by
 have:=h.ent i i a a;rw[p2_50];omega
def QG.run(h:QG n Q):wZ Q n 400 n (mt Q n):=L8 h.pd h.one (by have:=h.five;omega) h.e (by have:=h.five;omega)
def mH(n:Nat)(Q:az):az:=gT Q n (mt Q n)
def tX(n:Nat)(Q:az):az:=po (mt Q n)
def QG.red(h:QG n Q):Ed (mH n Q) n/\det n (mH n Q)=det n Q:=by
 have a:=h.run;have b:=h.dt;exact⟨Ed.of a.ls.pd a.ok h.five (by show det n (gT Q n (mt Q n))<=10000;rw[a.dn];omega),a.dn⟩
def QG.uni(h:QG n Q):det n (tX n Q)*det n (tX n Q)=1:=h.run.ls.uni
def QR{x:Int}(h:x*x<=2^(2*a))(c:a<b):nb x b:=oE (rj h) c
def p2_18:(2:Int)^18=262144:=by decide
def QG.unb(h:QG n Q){i j:Nat}(l:i<n)(b:j<n):nb (tX n Q i j) 186:=by
 obtain⟨m,rfl⟩:∃m,n=m+1:=⟨n-1,by have:=h.one;omega⟩
 have c:=h.five;have d:=h.pd.coord (m-i) (mt Q (m+1) j) i h.e om;have o:jm (m+1) Q (mt Q (m+1) j) (mt Q (m+1) j)<=176000:=h.red.1.diag c b;have f:0<jm (m+1) Q (mt Q (m+1) j) (mt Q (m+1) j):=h.red.1.pd.diag b;have g:((2:Int)^50)^m<=2^350:=by rw[<-SM];exact d9 om
 have k:=tc (a8 f) g (show jm (m+1) Q (mt Q (m+1) j) (mt Q (m+1) j)<=2^18 by rw[p2_18];omega)
 refine QR (a:=185) (cY (cY d k) (d9 om)) om
def QG.gram:mm n (fun i j=>tX n Q j i) (mm n Q (tX n Q)) i j=mH n Q i j:=by
 unfold mm mH gT jm tX po;exact ay fun k _=>bU _ _
def jZ(n:Nat)(Q:az):az:=J7 n (tX n Q)
def QG.wgram(h:QG n Q){i j:Nat}(c:i<n)(d:j<n):jm n (mH n Q) (fun a=>jZ n Q a i) (fun a=>jZ n Q a j)=Q i j :=
 Mh h.pd.sym (fun a b e f=>G3 h.one h.uni e f) (fun _ _ _ _=>rfl) c d
def QG.wfit(h:QG n Q){i j:Nat}(c:i<n)(b:j<n):(jZ n Q i j).natAbs<=1099511627776 :=
 h.red.1.coord8 h.five (x:=fun a=>jZ n Q a j) (by rw[h.wgram b b];have:=h.ent j j b b;omega) c
def Pb{a b:Int}:decide (0<kC a b)=decide (b<a):=by
 unfold kC;split
 .simp;omega
 .split<;>simp[*]
def dr.frm{q:Nat}(h:dr S c g p q A)(a:∀d,nN M n d->S d=ae)(f:∀d X,¬nN M n d->S d=gA X->S' d=gA X):dr S' c g p q A:=by
 have kp:∀{b ty es k:Nat} {z:Nat->AV},aY S b ty es k z->aY S' b ty es k z:=fun⟨g',e,j⟩=>⟨g',f _ _ (fun l=>by rw[a _ l]at e;cases e) e,j⟩
 exact⟨kp h.outer,fun i a=>kp (h.row i a),h.inj⟩
def BC(S:St)(n c:Nat)(gc:Nat->Nat)(Q:az)(h:QG n Q)(H:dr S c gc n n Q) :
  cI 95 [ϑ c 0 n] S (fun r S'=>∃b g bt gt S1,r=.tup [ϑ b 0 n,ϑ bt 0 n,ι 0]/\dr S' bt gt n n (tX n Q)/\gZ S1 S' b g n n (mH n Q)/\dh S S1):=by
 have o:=h.one;have O:=h.five;have m:∀i j,i<n->j<n->nb (Q i j) 51:=fun i j f l=>by have:=h.ent i j f l;unfold nb;omega
 have I:=h.dt;have J:=h.run;refine jg func95 ntmps95 results95 ?_;simp -dsimp only[go_sem,aa];refine(K6 n 51 Q o om om h.pd m).spec (eM.one H.vr.va) ?_;simp -dsimp only[go_sem];refine ax.intro fun y K=>?_;simp -dsimp only[go_sem,aa,aR];refine aN 4 kr ?_
 simp -dsimp only[go_sem,aa,dL];have z:nb (det n Q) 64:=by have:=h.pd.pos n (ag n);unfold nb;omega
 refine⟨_,(fS (a:=10000) om om).pure',_,(rB z (show nb (10000:Int) 64 by unfold nb;omega) om).pure',?_⟩
 simp -dsimp only[go_sem,Pb,(om:¬((10000:Int)<det n Q))]
 have t:dh S ((S.upd y ⟨50,2,1,fun _=>ϱ 0⟩).upd y ⟨50,2,1,aL (fun _=>ϱ 0) 0 (ϱ (det n Q))⟩):=((dh.refl S).upd K _).upd K _;generalize (S.upd y ⟨50,2,1,fun _=>ϱ 0⟩).upd y ⟨50,2,1,aL (fun _=>ϱ 0) 0 (ϱ (det n Q))⟩=S1 at *;have v:=H.ext t;refine(Bn S1 n (17*(51+10)) c gc Q o om om (Dm om m) (h.pd.ne (ag n)) (fun k P=>Do om m om) v).mono ?_;rintro _ S2 ⟨M,rfl,A,B,p⟩;have R:Nc S2 M n Q jT:=lJ.congr A (fun k P=>(oe om).symm) (fun i j f l=>(Ou f l).symm) (fun _ _ _ _=>rfl);simp -dsimp only[go_sem,aa];refine(LH Q n 400 50 h.pd o om h.e om om S2 M R).mono ?_;rintro _ S3 ⟨L,T⟩;have q:nO M n S1 S3:=(nO.ofExt B).trans T;have C:=dr.frm v p q;have w:dh S1 S3:=fun d X D=>q d X (fun U=>by rw[p d U]at D;cases D) D
 obtain⟨g,u,V,W,Y,Z⟩:=lJ.c0 L;simp -dsimp only[*,go_sem,aa];refine(oi n n 186 (mt Q n) o om o om (fun i j f l=>h.unb l f) om _ _ (eM.one L.bas.vr.va)).mono ?_;rintro _ S4 ⟨bt,gt,rfl,s⟩;have E:=C.ext s.2.1;have N:dr S4 bt gt n n (tX n Q):=s.1;have F:mm n (fun i j=>tX n Q j i) (mm n Q (tX n Q))=mH n Q:=by funext i j;exact QG.gram
 have G:det n (tX n Q)≠0:=fun e=>by have:=h.uni;rw[e]at this;simp at this
 simp -dsimp only[go_sem,aa];refine(yz n 186 Q (tX n Q) o om om h.pd (fun i j f l=>(m i j f l).mono om) (fun i j f l=>h.unb f l) G).spec (eM.two E.vr.va N.vr.va) ?_;rw[F];simp -dsimp only[go_sem,aa];refine(qG n n (mH n Q) o om o om (fun i j f l=>by have:=h.red.1.entry O f l;unfold gU;omega) _ _ (cD _ _)).mono ?_
 rintro _ S5 ⟨b,gb,rfl,x⟩;simp only[go_sem];exact⟨b,gb,bt,rfl,gt,N.ext x.2.1,S4,x,(t.trans w).trans s.2.1⟩

structure jy(S:St)(bp bh:Nat)(gh:Nat->Nat)(bu:Nat)(gu:Nat->Nat)(n m:Nat)(H U:az):Prop where
 pair:∃g,S bp=some ⟨183,1,2,g⟩/\g 0=ϑ bh 0 n/\g 1=ϑ bu 0 m
 h:dr S bh gh n m H
 u:dr S bu gu m m U
 ne:∀i j,i<n->j<m->gh i≠gu j
def dr.stp{m:Nat}(h:dr S b g n m A)(d:S' b=S b)(e:∀i,i<n->S' (g i)=S (g i)):dr S' b g n m A :=
 ⟨h.outer.via fun X a=>by rw[d];exact a,fun i c=>aY.via (h.row i c) fun X a=>by rw[e i c];exact a,h.inj⟩
def jy.fresh{m:Nat}(h:jy S bp bh gh bu gu n m H U){c:Nat}{X:eA}(f:S c=ae):jy (S.upd c X) bp bh gh bu gu n m H U:=by
 obtain⟨g,e,j,k⟩:=h.pair;obtain⟨q,l,_⟩:=h.h.outer;obtain⟨r,o,_⟩:=h.u.outer;have d:∀b,S b≠ae->(S.upd c X) b=S b:=fun b p=>aE (by rintro rfl;exact p f)
 exact⟨⟨g,by rw[d _ (by rw[e];simp)];exact e,j,k⟩,h.h.stp (d _ (by rw[l];simp)) fun i a=>d _ (by obtain⟨_,s1,_⟩:=h.h.row i a;rw[s1];simp),h.u.stp (d _ (by rw[o];simp)) fun i a=>d _ (by obtain⟨_,s1,_⟩:=h.u.row i a;rw[s1];simp),h.ne⟩
def jy.setH{m:Nat}(h:jy S bp bh gh bu gu n m H U){i j:Nat}{z:Int}{g':Nat->AV}(b:i<n)(a:S (gh i)=some ⟨50,2,m,g'⟩):jy (S.upd (gh i) ⟨50,2,m,aL g' j (ϱ z)⟩) bp bh gh bu gu n m (dU H i j z) U:=by
 obtain⟨g,c,d,e⟩:=h.pair;obtain⟨q,f,_⟩:=h.u.outer;have l:bp≠gh i:=by rintro rfl;rw[c]at a;cases a
 have o:bu≠gh i:=by rintro rfl;rw[f]at a;cases a
 exact⟨⟨g,by rw[aE l];exact c,d,e⟩,h.h.set b a,h.u.stp (aE o) fun k p=>aE (ai (h.ne i k b p)),h.ne⟩
def jy.setU{m:Nat}(h:jy S bp bh gh bu gu n m H U){i j:Nat}{z:Int}{g':Nat->AV}(b:i<m)(a:S (gu i)=some ⟨50,2,m,g'⟩):jy (S.upd (gu i) ⟨50,2,m,aL g' j (ϱ z)⟩) bp bh gh bu gu n m H (dU U i j z):=by
 obtain⟨g,c,d,e⟩:=h.pair;obtain⟨q,f,_⟩:=h.h.outer;have l:bp≠gu i:=by rintro rfl;rw[c]at a;cases a
 have o:bh≠gu i:=by rintro rfl;rw[f]at a;cases a
 exact⟨⟨g,by rw[aE l];exact c,d,e⟩,h.h.stp (aE o) fun k p=>aE (h.ne k i p b),h.u.set b a,h.ne⟩
def qT(i:Nat)(A B:az):az:=fun r c=>if r<i then B r c else A r c
def ms(A B:az):qT 0 A B=A:=by funext r c;simp[qT]
def mc(i:Nat)(A B:az)(c:Nat):qT i A B i c=A i c:=by simp[qT]
def oC{m:Nat}(h:dr S b g n m (qT n A B)):dr S b g n m B:=h.congr fun r c a _=>by simp[qT,a]
def IN(i s p:Nat)(q:Int)(A:az):dU (qT i A (kw A s p q)) i s (A i s-q*A i p)=qT (i+1) A (kw A s p q):=by
 funext r c;simp only[dU,qT,kw];by_cases a:r=i
 .subst a;by_cases d:c=s<;>simp[d]
 .by_cases b:r<i
  .simp[a,b,(om:r<i+1)]
  .simp[a,b,(om:¬r<i+1)]
def zq9(i s:Nat)(A:az):dU (qT i A (lY A s)) i s (- A i s)=qT (i+1) A (lY A s):=by
 funext r c;simp only[dU,qT,lY];by_cases a:r=i
 .subst a;by_cases d:c=s<;>simp[d]
 .by_cases b:r<i
  .simp[a,b,(om:r<i+1)]
  .simp[a,b,(om:¬r<i+1)]
def LM(i a b:Nat)(d:a≠b)(A:az):dU (dU (qT i A (BX A a b)) i a (A i b)) i b (A i a)=qT (i+1) A (BX A a b):=by
 funext r c;simp only[dU,qT,BX,dq];by_cases f:r=i
 .subst f;by_cases g:c=b
  .subst g;simp[ai d]
  .by_cases e:c=a
   .subst e;simp[d]
   .simp[g,e]
 .by_cases e:r<i
  .simp[f,e,(om:r<i+1)]
  .simp[f,e,(om:¬r<i+1)]
def PG(S:St)(bp bh:Nat)(gh:Nat->Nat)(bu:Nat)(gu:Nat->Nat)(n m:Nat)(H U:az)(b7:Nat)(q:Int):Prop:=jy S bp bh gh bu gu n m H U/\aY S b7 50 2 1 (fun _=>ϱ q)/\(∀i,i<n->gh i≠b7)/\∀i,i<m->gu i≠b7
def pw(S0:St)(bp bh bu n m s p:Nat)(gh gu:Nat->Nat)(H U:az)(q:Int)(k:Nat)(hn:n<=8)(hm:m<=9)(w:s<m)(f:p<m)(hk:k<=4000000000)(E:nb q k)(Q:∀i j,i<n->j<m->nb (H i j) k)(R:∀i j,i<m->j<m->nb (U i j) k)(b:jy S0 bp bh gh bu gu n m H U) :
  cI 188 [ϰ bp 0,ι s,ι p,ϱ q] S0 (fun _ S'=>jy S' bp bh gh bu gu n m (kw H s p q) (kw U s p q)):=by
 refine fC func188 rfl 92 ntmps188 kr sm ?_
 rw[jY,results188];obtain⟨g,l,r,t⟩:=b.pair;simp only[go_sem,aa];refine ax.intro fun o F=>?_;have c:PG (S0.upd o ⟨50,2,1,fun _=>ϱ q⟩) bp bh gh bu gu n m (qT 0 H (kw H s p q)) U o q:=by
  rw[ms];exact⟨b.fresh F,aY.here fun _ _=>rfl,fun i G=>aY.fresh (b.h.row i G) F,fun i G=>aY.fresh (b.u.row i G) F⟩
 generalize S0.upd o ⟨50,2,1,fun _=>ϱ q⟩=S1 at c ⊢;clear l r t b F;obtain⟨g,l,r,t⟩:=c.1.pair;simp only[*,go_sem];refine aC (fun O S=>∃i:Nat,i<=n/\PG S bp bh gh bu gu n m (qT i H (kw H s p q)) U o q/\O 0=ϰ bp 0/\O 1=ι s/\O 2=ι p/\O 7=ϖ o 0/\O 14=ι n/\O 15=ι i) (fun O S=>n-bO (O 15)) ?_ ?_
 .simp only[go_sem];exact⟨0,om,c,rfl⟩
 .clear c l r t;rintro O S ⟨i,G,c,I,J,K,L,d,e⟩;obtain⟨b,v,x,y⟩:=id c;obtain⟨g,l,r,t⟩:=b.pair;obtain⟨g7,M,N⟩:=id v;have P:=N 0 om;by_cases a:i<n
  .obtain⟨T,V,W⟩:=b.h.outer;obtain⟨A,B,C⟩:=b.h.row i a;have X:T i=ϕ (gh i) 0 m:=W i a;have Y:A s=ϱ (H i s):=(C s w).trans (by simp only[mc])
   have Z:A p=ϱ (H i p):=(C p f).trans (by simp only[mc])
   simp -dsimp only[*,go_sem,aa];refine aN 32 kr ?_
   simp only[go_sem,aa,I,J,K,L,d,e,a,l,r,V,X,B,Y,Z,w,f,M,P];refine⟨_,(ja E (Q i p a f) om).pure',_,(tV (k:=k+k) ((Q i s a w).mono om) (E.mul (Q i p a f)) om).pure',?_⟩;have D:=b.setH (j:=s) (z:=H i s-q*H i p) a B;rw[IN]at D;simp only[go_sem,aF (om:i<1000000),bO]
   exact⟨⟨i+1,om,⟨D,v.upd (ai (x i a)) _,x,y⟩,rfl⟩,om⟩
  .obtain rfl:i=n:=om
   have c:PG S bp bh gh bu gu i m (kw H s p q) (qT 0 U (kw U s p q)) o q:=by
    rw[ms];exact⟨⟨b.pair,oC b.h,b.u,b.ne⟩,v,x,y⟩
   simp only[*,go_sem,aa];refine aC (fun O S=>∃j:Nat,j<=m/\PG S bp bh gh bu gu i m (kw H s p q) (qT j U (kw U s p q)) o q/\O 0=ϰ bp 0/\O 1=ι s/\O 2=ι p/\O 7=ϖ o 0/\O 55=ι m/\O 56=ι j) (fun O S=>m-bO (O 56)) ?_ ?_
   .simp only[*,go_sem];exact⟨0,om,c,rfl⟩
   .clear c l r t M N P b x y v I J K L d e a;rintro O S ⟨j,hj,c,I,J,K,L,d,e⟩;obtain⟨b,v,x,y⟩:=id c;obtain⟨g,l,r,t⟩:=b.pair;obtain⟨g7,M,N⟩:=id v;have P:=N 0 om;by_cases a:j<m
    .obtain⟨T,V,W⟩:=b.u.outer;obtain⟨A,B,C⟩:=b.u.row j a;have X:T j=ϕ (gu j) 0 m:=W j a;have Y:A s=ϱ (U j s):=(C s w).trans (by simp only[mc])
     have Z:A p=ϱ (U j p):=(C p f).trans (by simp only[mc])
     simp -dsimp only[*,go_sem];refine aN 32 kr ?_
     simp only[go_sem,aa,I,J,K,L,d,e,a,l,t,V,X,B,Y,Z,w,f,M,P];refine⟨_,(ja E (R j p a f) om).pure',_,(tV (k:=k+k) ((R j s a w).mono om) (E.mul (R j p a f)) om).pure',?_⟩;have D:=b.setU (j:=s) (z:=U j s-q*U j p) a B;rw[IN]at D;simp only[go_sem,aF (om:j<1000000),bO]
     exact⟨⟨j+1,om,⟨D,v.upd (ai (y j a)) _,x,y⟩,rfl⟩,om⟩
    .obtain rfl:j=m:=om
     simp only[*,go_sem];exact⟨b.pair,b.h,oC b.u,b.ne⟩
def zZ(S0:St)(bp bh bu n m s:Nat)(gh gu:Nat->Nat)(H U:az)(k:Nat)(G:n<=8)(I:m<=9)(e:s<m)(J:k<=4000000000)(E:∀i j,i<n->j<m->nb (H i j) k)(F:∀i j,i<m->j<m->nb (U i j) k)(b:jy S0 bp bh gh bu gu n m H U) :
  cI 236 [ϰ bp 0,ι s] S0 (fun _ S'=>jy S' bp bh gh bu gu n m (lY H s) (lY U s)):=by
 refine fC func236 rfl 64 ntmps236 kr sm ?_
 rw[jY,results236];obtain⟨g,f,l,o⟩:=b.pair;simp only[*,go_sem,aa];refine aC (fun O S=>∃i:Nat,i<=n/\jy S bp bh gh bu gu n m (qT i H (lY H s)) U/\O 0=ϰ bp 0/\O 1=ι s/\O 10=ι n/\O 11=ι i) (fun O S=>n-bO (O 11)) ?_ ?_
 .simp only[go_sem];exact⟨0,om,by rw[ms];exact b,rfl⟩
 .clear b f l o;rintro O S ⟨i,K,b,t,v,c,d⟩;obtain⟨g,f,l,o⟩:=b.pair;by_cases a:i<n
  .obtain⟨w,x,y⟩:=b.h.outer;obtain⟨A,p,B⟩:=b.h.row i a;have C:w i=ϕ (gh i) 0 m:=y i a;have D:A s=ϱ (H i s):=(B s e).trans (by simp only[mc])
   simp -dsimp only[*,go_sem,aa];refine aN 20 kr ?_
   simp only[go_sem,aa,t,v,c,d,a,f,l,x,C,p,D,e];refine⟨_,(tW (E i s a e) om).pure',?_⟩;have q:=b.setH (j:=s) (z:=- H i s) a p;rw[zq9]at q;simp only[go_sem,aF (om:i<1000000),bO]
   exact⟨⟨i+1,om,q,rfl⟩,om⟩
  .obtain rfl:i=n:=om
   have r:jy S bp bh gh bu gu i m (lY H s) (qT 0 U (lY U s)):=by
    rw[ms];exact⟨b.pair,oC b.h,b.u,b.ne⟩
   simp only[*,go_sem,aa];refine aC (fun O S=>∃j:Nat,j<=m/\jy S bp bh gh bu gu i m (lY H s) (qT j U (lY U s))/\O 0=ϰ bp 0/\O 1=ι s/\O 39=ι m/\O 40=ι j) (fun O S=>m-bO (O 40)) ?_ ?_
   .simp only[*,go_sem];exact⟨0,om,r,rfl⟩
   .clear b r f l o t v c d a;rintro O S ⟨j,L,b,t,v,c,d⟩;obtain⟨g,f,l,o⟩:=b.pair;by_cases a:j<m
    .obtain⟨w,x,y⟩:=b.u.outer;obtain⟨A,p,B⟩:=b.u.row j a;have C:w j=ϕ (gu j) 0 m:=y j a;have D:A s=ϱ (U j s):=(B s e).trans (by simp only[mc])
     simp -dsimp only[*,go_sem];refine aN 20 kr ?_
     simp only[go_sem,aa,t,v,c,d,a,f,o,x,C,p,D,e];refine⟨_,(tW (F j s a e) om).pure',?_⟩;have q:=b.setU (j:=s) (z:=- U j s) a p;rw[zq9]at q;simp only[go_sem,aF (om:j<1000000),bO]
     exact⟨⟨j+1,om,q,rfl⟩,om⟩
    .obtain rfl:j=m:=om
     simp only[*,go_sem];exact⟨b.pair,b.h,oC b.u,b.ne⟩
def C0(S0:St)(bp bh bu n m a b:Nat)(gh gu:Nat->Nat)(H U:az)(J:n<=8)(K:m<=9)(w:a<m)(x:b<m)(l:a≠b)(d:jy S0 bp bh gh bu gu n m H U) :
  cI 235 [ϰ bp 0,ι a,ι b] S0 (fun _ S'=>jy S' bp bh gh bu gu n m (BX H a b) (BX U a b)):=by
 refine fC func235 rfl 102 ntmps235 kr sm ?_
 rw[jY,results235];obtain⟨g,k,o,p⟩:=d.pair;simp only[*,go_sem,aa];refine aC (fun O S=>∃i:Nat,i<=n/\jy S bp bh gh bu gu n m (qT i H (BX H a b)) U/\O 0=ϰ bp 0/\O 1=ι a/\O 2=ι b/\O 12=ι n/\O 13=ι i) (fun O S=>n-bO (O 13)) ?_ ?_
 .simp only[go_sem];exact⟨0,om,by rw[ms];exact d,rfl⟩
 .clear d k o p;rintro O S ⟨i,L,d,y,A,B,e,f⟩;obtain⟨g,k,o,p⟩:=d.pair;by_cases c:i<n
  .obtain⟨C,D,E⟩:=d.h.outer;obtain⟨q,r,s⟩:=d.h.row i c;have F:C i=ϕ (gh i) 0 m:=E i c;have G:q a=ϱ (H i a):=(s a w).trans (by simp only[mc])
   have I:q b=ϱ (H i b):=(s b x).trans (by simp only[mc])
   simp -dsimp only[*,go_sem,aa];refine fm 37 kr ?_
   simp (maxSteps:=3000000) -dsimp only[go_sem,vC,Nat.reduceLT,↓reduceIte,reduceCtorEq,QE,aa,y,A,B,e,f,c,k,o,D,F,r,G,I,w,x];have t:=(d.setH (j:=a) (z:=H i b) c r).setH (j:=b) (z:=H i a) c bW;rw[LM i a b l]at t;simp only[go_sem,aF (om:i<1000000),bO]
   exact⟨⟨i+1,om,t,rfl⟩,om⟩
  .obtain rfl:i=n:=om
   have v:jy S bp bh gh bu gu i m (BX H a b) (qT 0 U (BX U a b)):=by
    rw[ms];exact⟨d.pair,oC d.h,d.u,d.ne⟩
   simp only[*,go_sem,aa];refine aC (fun O S=>∃j:Nat,j<=m/\jy S bp bh gh bu gu i m (BX H a b) (qT j U (BX U a b))/\O 0=ϰ bp 0/\O 1=ι a/\O 2=ι b/\O 59=ι m/\O 60=ι j) (fun O S=>m-bO (O 60)) ?_ ?_
   .simp only[*,go_sem];exact⟨0,om,v,rfl⟩
   .clear d v k o p y A B e f c;rintro O S ⟨j,M,d,y,A,B,e,f⟩;obtain⟨g,k,o,p⟩:=d.pair;by_cases c:j<m
    .obtain⟨C,D,E⟩:=d.u.outer;obtain⟨q,r,s⟩:=d.u.row j c;have F:C j=ϕ (gu j) 0 m:=E j c;have G:q a=ϱ (U j a):=(s a w).trans (by simp only[mc])
     have I:q b=ϱ (U j b):=(s b x).trans (by simp only[mc])
     simp -dsimp only[*,go_sem];refine fm 37 kr ?_
     simp (maxSteps:=3000000) -dsimp only[go_sem,vC,Nat.reduceLT,↓reduceIte,reduceCtorEq,QE,aa,y,A,B,e,f,c,k,p,D,F,r,G,I,w,x];have t:=(d.setU (j:=a) (z:=U j b) c r).setU (j:=b) (z:=U j a) c bW;rw[LM j a b l]at t;simp only[go_sem,aF (om:j<1000000),bO]
     exact⟨⟨j+1,om,t,rfl⟩,om⟩
    .obtain rfl:j=m:=om
     simp only[*,go_sem];exact⟨d.pair,d.h,oC d.u,d.ne⟩

end Go.Proofs.YtdobfmlmenaajaaGreatDoor
