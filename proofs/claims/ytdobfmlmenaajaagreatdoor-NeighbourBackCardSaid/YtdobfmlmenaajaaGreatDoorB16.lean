/-
  Lemmas for NeighbourBack.
-/
import Derived.Test.YtdobfmlmenaajaaGreatDoorB15
namespace Go.Proofs.YtdobfmlmenaajaaGreatDoor
open Go.RowKit Tryz
open _root_.Int renaming tmod→et
set_option maxHeartbeats 6400000
set_option maxRecDepth 4096
set_option linter.all false
attribute [local go_sem] Nat.reduceAdd Nat.reduceEqDiff Nat.reduceLeDiff Nat.reduceLT reduceCtorEq Int.ofNat_lt decide_true decide_false Int.zero_le_ofNat
attribute [local go_sem ↓] reduceIte
variable{w:AV}{a u:Int}{es i j n p:Nat}{g:Nat->AV}{v:Nat->Nat}{M:Nat->Prop}{B C H:az}
def tC.qg(a:eQ n H)(b:nI p)(o:jn n p H v)(h:tC n p H v B):QG n (ko n p H B):=by
 have k:∀r c,r<c->c<n->B r c=0:=fun r c d q=>(h.tri r om).1 c d q;have l:∀r,r<n->0<B r r:=fun r d=>(h.tri r d).2;have m:∀i j,i<n->j<n->mm n (mm n (fun i j=>B j i) H) B i j=p*p*ko n p H B i j:=fun i j e f=>h.eq a e f;have g:(0:Int)<(p:Int):=by have:=b.2.1;omega
 have s:=Mq (p:=(p:Int)) g k l (h.det b o) m;exact⟨NT a b k l m,a.one,a.eight,fun i j e f=>h.gent a b e f,by rw[s];exact a.small⟩
def sO(S:St)(n c:Nat)(gc:Nat->Nat)(Q:az)(h:QG n Q)(a:dr S c gc n n Q) :
  cI 42 [ϑ c 0 n] S (fun r S'=>∃b g S1,r=.tup [ϑ b 0 n,aP n n (jZ n Q),ι 0]/\gZ S1 S' b g n n (mH n Q)/\dh S S1):=by
 refine jg func42 ntmps42 results42 ?_;simp -dsimp only[go_sem,aa];refine(BC S n c gc Q h a).mono ?_;rintro _ S1 ⟨b,g,bt,gt,S0,rfl,d,e,f⟩;simp -dsimp only[go_sem,aa,aR];have k:=h.one;have o:=h.five;refine(Eg n 186 (tX n Q) k om om om (fun i j l m=>h.unb l m) h.uni).spec (eM.one d.vr.va) ?_;simp only[go_sem];exact⟨b,rfl,g,S0,e,f⟩
def ym(S:St)(n p:Nat)(H:az)(v:Nat->Nat)(l:eQ n H)(s:jw (det n H) p)(a:nI p)(m:jn n p H v)(t:kT S) :
  cI 14 [av n n H,ι p,aK n (fun k=>v k)] S (fun r S'=>∃b g c gc B S1 S2 S3,r=.tup [ϑ b 0 n,ϑ c 0 n,ι 0]/\tC n p H v B/\dh S S1/\gZ S1 S2 b g n n (mH n (ko n p H B))/\dh S2 S3/\gZ S3 S' c gc n n (jZ n (ko n p H B))):=by
 refine jg func14 ntmps14 results14 ?_;simp -dsimp only[go_sem,aa];refine(kz S n p H v l s a m t).mono ?_;rintro _ S1 ⟨bb,cq,gb,gq,B,S0,rfl,o,e,_,_,_,u,f⟩;have d:=(o.nbB a).qg l a m;simp -dsimp only[go_sem,aa,aR];refine(sO S1 n cq gq (ko n p H B) d u).mono ?_;rintro _ S2 ⟨b,g,S0',rfl,w,h⟩;simp -dsimp only[go_sem,aa,aR];have q:=d.one;have A:=d.five;refine(qG n n (jZ n (ko n p H B)) q om q om (fun i j x y=>by have:=d.wfit x y;unfold gU;omega) _ _ (cD _ _)).mono ?_
 rintro _ S3 ⟨c,gc,rfl,z⟩;simp only[go_sem];exact⟨b,g,c,rfl,gc,B,o.nbB a,S0',(e.trans f).trans h,S2,w,S2,dh.refl _,z⟩

def Ph(n p:Nat)(T B:az):az:=fun i j=>mm n T (iq n B) i j*((p:Int)*p)/det n B%p
def Jr{T:az}(a:0<p)(i j:Nat):0<=Ph n p T B i j/\Ph n p T B i j<p:=⟨aW _ om,aS _ om⟩
def BK(n p:Nat)(C:az)(w:AV):Prop:=((∀i j,i<n->j<n->C i j=0)/\w=.nil) ∨
 ∃i j,i<n/\j<n/\(∀a b,a<n->b<j->C a b=0)/\(∀a,a<i->C a j=0)/\C i j≠0/\w=aK n (fun a=>C a j*lp p (C i j)%p)
def BK.ex(n p:Nat)(C:az):∃w,BK n p C w:=by
 by_cases h:∃j,j<n/\∃i,i<n/\C i j≠0
 .obtain⟨j,d,⟨i',e,f⟩,c⟩:=uG h;obtain⟨i,g,k,l⟩:=uG (P:=fun i=>C i j≠0) ⟨i',e,f⟩;exact⟨_,aQ ⟨i,j,g,d,fun a b m q=>cK fun o=>c b q ⟨a,m,o⟩,fun a m=>cK fun o=>l a m o,k,rfl⟩⟩
 .exact⟨_,a6 ⟨fun i j g d=>cK fun k=>h ⟨j,d,i,g,k⟩,rfl⟩⟩
def BK.zero(h:BK n p C w)(c:∀a b,a<n->b<n->C a b=0):w=.nil:=by
 rcases h with h|⟨i,j,d,e,_,_,f,_⟩
 .exact h.2
 .exact absurd (c i j d e) f
def BK.at(h:BK n p C w){i j:Nat}(e:i<n)(g:j<n)(k:∀a b,a<n->b<j->C a b=0)(l:∀a,a<i->C a j=0)(c:C i j≠0):w=aK n (fun a=>C a j*lp p (C i j)%p):=by
 rcases h with h|⟨i',j',d,m,o,q,f,rfl⟩
 .exact absurd (h.1 i j e g) c
 .obtain rfl:j=j':=by
   rcases c8 j j' with h|h|h
   .exact absurd (o i j e h) c
   .exact h
   .exact absurd (k i' j' d h) f
  obtain rfl:i=i':=by
   rcases c8 i i' with h|h|h
   .exact absurd (q i h) c
   .exact h
   .exact absurd (l i' h) f
  rfl
def R6(p:Nat)(C:az)(j i:Nat)(u:Int):Prop:=(u=0/\∀a,a<i->C a j=0)∨∃b,b<i/\(∀a,a<b->C a j=0)/\C b j≠0/\u=lp p (C b j)/\u≠0
def R6.rng(a:0<p)(h:R6 p C j i u):0<=u/\u<p:=by
 rcases h with⟨rfl,_⟩|⟨b,_,_,_,rfl,_⟩
 .omega
 .exact pB om _
def Ob(c:nI p)(d:0<=a)(e:a<p)(h:a≠0):lp p a≠0/\(bz (p:Int).toNat (a%p).toNat).1=1:=by
 have b:¬(p:Int)∣a:=fun b=>by
  have:=cM b;rw[dv d e]at this;exact h this
 refine⟨fun f=>?_,c.1.gcd' b⟩;have:=c.1.inv b;rw[f]at this;have g:=jX om (show(p:Int)∣1 by
  have:=Int.dvd_neg.2 this;simpa using this)
 have:=c.2.1;omega
def Ai(n p:Nat)(C:az)(w:AV)(hn:n<=8)(hp:nI p)(hC:∀i j,i<n->j<n->0<=C i j/\C i j<p)(hw:BK n p C w):PF 85 [av n n C,ι p] w:=by
 have hp2:=hp.2;refine iy func85 ntmps85 results85 ?_;simp only[go_sem,av];refine cf (fun O S=>∃j:Nat,j<=n/\(∀a b,a<n->b<j->C a b=0)/\O 0=av n n C/\O 1=ι p/\O 11=ι n/\O 12=ι j) (fun O S=>n-bO (O 12)) ?_ ?_
 .simp only[go_sem,av];exact⟨0,om,fun a b _ R=>om,rfl⟩
 rintro Q' G O S ⟨j,hj,T,N,v,g,l⟩;by_cases d:j<n
 .simp only[go_sem,N,v,g,l,d,av];refine cf (fun O S=>∃(i:Nat) (u:Int) (x:AV),i<=n/\O 0=av n n C/\O 1=ι p/\O 5=ι j/\O 6=x/\O 7=ι u/\O 11=ι n/\O 12=ι j/\O 15=av n n C/\O 16=ι n/\O 17=ι i/\R6 p C j i u/\cN 2 1 St.none S x i (fun a=>ι (C a j*u%p))) (fun O S=>n-bO (O 17)) ?_ ?_
  .simp only[*,go_sem,av];exact⟨0,om,0,rfl,rfl,a6 ⟨rfl,fun a y=>om⟩,cN.nil (fun k X h=>by cases h) _⟩
  clear N v g l;clear O S;rintro Q2 U O S ⟨i,u,x,hi,N,v,H,A,I,g,l,s,m,o,P,J⟩;by_cases t:i<n
  .have V:=hC i j t d;have wt:∀u',R6 p C j (i+1) u'->ω (C i j*u')=C i j*u'/\et (C i j*u') p=C i j*u'%p:=fun u' Q=>by
    have hr:=Q.rng om;have:=ck (om:C i j<=9973) (om:u'<=9973) hr.1 om
    have h0:=cC V.1 hr.1;exact⟨i64_in om om,aJ h0⟩
   have D:¬((p:Int)=0):=om
   by_cases z:u=0
   .by_cases q:C i j=0
    case' pos =>
     have f:R6 p C j (i+1) u:=by
      rcases P with⟨Q,W⟩|⟨b,_,_,_,_,h⟩
      .exact a6 ⟨Q,fun a y=>by
        rcases aB a i with h|h
        .exact W a h
        .rw[(om:a=i)];exact q⟩
      .exact absurd z h
     obtain⟨K,L⟩:=wt u f;simp -dsimp only[go_sem,aa,v,H,A,I,s,m,o,t,d,av,aK,show(u==0)=true by simpa using z,show(C i j != 0)=false by simpa using q,K,L,D]
    case' neg =>
     have M:∀a,a<i->C a j=0:=by
      rcases P with⟨_,h⟩|⟨b,_,_,_,_,h⟩
      .exact h
      .exact absurd z h
     obtain⟨v1,v2⟩:=Ob hp V.1 V.2 q;have f:R6 p C j (i+1) (lp p (C i j)):=aQ ⟨i,om,M,q,rfl,v1⟩
     have J:cN 2 1 St.none S x i (fun a=>ι (C a j*lp p (C i j)%p)):=J.congr fun a y=>by rw[M a y];simp
     obtain⟨K,L⟩:=wt _ f;simp -dsimp only[go_sem,aa,v,H,A,I,s,m,o,t,d,av,aK,show(u==0)=true by simpa using z,show(C i j != 0)=true by simpa using q]
     refine(py (C i j) p om om v2).call ?_;simp -dsimp only[go_sem,aa,v,H,A,d,aK,K,L,D];generalize lp p (C i j)=u at *
    all_goals
     refine ax.intro fun Y r=>?_
     try simp -dsimp only[go_sem,A]
     refine cN.appx rfl rfl rfl ((dh.refl S).upd r _) J om (show dY 1 (ι (C i j*u%p)) by simp[dY]) ⟨_,_,_,rfl,bW,rfl,r⟩ ?_
     intro c S2 E Z hk3;simp only[go_sem,N,v,H,I,g,l,s,m,o,aF (om:i<1000000),bO,av,aK]
     exact⟨⟨i+1,om,u,rfl,rfl,f,E.congr fun a y=>by by_cases e:a=i<;>simp[e]⟩,om⟩
   .have f:R6 p C j (i+1) u:=by
     rcases P with⟨h,_⟩|⟨b,Q,W⟩
     .exact absurd h z
     .exact aQ ⟨b,om,W⟩
    obtain⟨K,L⟩:=wt u f;simp -dsimp only[go_sem,aa,v,H,A,I,s,m,o,t,d,av,aK,show(u==0)=false by simpa using z,K,L,D]
    refine ax.intro fun Y r=>?_
    try simp -dsimp only[go_sem,A]
    refine cN.appx rfl rfl rfl ((dh.refl S).upd r _) J om (show dY 1 (ι (C i j*u%p)) by simp[dY]) ⟨_,_,_,rfl,bW,rfl,r⟩ ?_
    intro c S2 E Z hk3;simp only[*,go_sem,aF (om:i<1000000),bO,av,aK]
    exact⟨⟨i+1,om,u,rfl,rfl,f,E.congr fun a y=>by by_cases e:a=i<;>simp[e]⟩,om⟩
  .obtain rfl:i=n:=om
   refine Ju fun B=>?_;simp only[go_sem,m,o,cw];rw[U];rcases P with⟨rfl,F⟩|⟨b,R,F,hb0,rfl,z⟩
   .simp only[*,go_sem,aR,aF (om:j<1000000),bO,av]
    exact⟨⟨j+1,om,fun a b y R=>by
     rcases aB b j with h|h
     .exact T a b y h
     .rw[(om:b=j)];exact F a y,rfl⟩,om⟩
   .simp only[go_sem,A,I,show(lp p (C b j) != 0)=true by simpa using z]
    rcases J.2 with⟨h0,_⟩|⟨c,_,rfl,hC2⟩
    .omega
    rw[G,hw.at R d T F hb0];simp only[go_sem];exact(show oq S c i (fun a=>C a j*lp p (C b j)%p)from hC2).vr
 .obtain rfl:j=n:=om
  simp only[go_sem,aa,g,l,d];rw[G,hw.zero T];simp only[go_sem];exact VR.mf rfl
def I6(d:eQ n H)(a:nI p)(h:tC n p H v B):(∀i j,i<n->j<n->nb (B i j) 27)/\(∀i j,i<n->j<n->nb (iq n B i j) 629):=by
 have e:∀i j,i<n->j<n->nb (B i j) 27:=fun i j b c=>by
  have f:=h.ent a b c;have g:(p:Int)*p<=99460729:=by
   rw[<-aV];have:=aX a.2.2 a.2.2;omega
  unfold nb;omega
 exact⟨e,fun i j b c=>(L2 d.one (by have:=d.eight;omega) om e b c).mono om⟩
def line2(d:eQ n H)(f:jw (det n H) p)(a:jn n p H v):2<=n:=by
 have g:=d.one;refine CE g fun e=>?_;subst e;have i:=a.lead;have j:v 0=1:=by
  have h:((v 0:Nat):Int)=1:=by simpa [il]using i
  omega
 have b:=a.norm;simp only[eE,ap,j]at b;have c:=f.2.2.2;rw[DP]at c;simp at b;exact c om

def Gb(S:St)(n p:Nat)(H:az)(v:Nat->Nat)(B0:az)(w:AV)(hF:eQ n H)(hg:jw (det n H) p)(W:nI p)(hL:jn n p H v)(hG:kT S)(h0:tC n p H v B0)(hw:BK n p (Ph n p (jZ n (ko n p H B0)) B0) w) :
  cI 36 [av n n H,ι p,aK n (fun k=>v k)] S (fun r S'=>r=.tup [w,ι 0]/\dh S S'):=by
 have h1:=hF.one;have hn:=hF.eight;have u:=W.2;have hpp:(p:Int)*p<=99460729/\9<=(p:Int)*p:=by
  rw[<-aV];have a:=aX u.2 u.2;have b:=aX u.1 u.1;omega
 have wpp:ω ((p:Int)*p)=(p:Int)*p:=i64_in om om;obtain⟨nB,nA⟩:=I6 hF W h0;have hq:=h0.qg hF W hL;have hd0:det n B0≠0:=by
  rw[h0.det W hL];exact qe om
 have hC:=fun i j=>Jr (n:=n) (T:=jZ n (ko n p H B0)) (B:=B0) (om:0<p) i j
 refine jg func36 ntmps36 results36 ?_;simp -dsimp only[go_sem,aa];refine(kz S n p H v hF hg W hL hG).mono ?_;rintro _ S1 ⟨bb,cq,gb,gq,B,S0,rfl,hB,hE0,_,_,hMB,hM,hE1⟩;have hBe:=(hB.nbB W).uniq hF W h0;rw[se hBe]at hM;have Y:=hMB.congr hBe;have hE:=hE0.trans hE1;clear hE0 hE1 hMB hB hBe;generalize ko n p H B0=Q at *;simp -dsimp only[go_sem,aa,aR];refine(sO S1 n cq gq Q hq hM).mono ?_;rintro _ S2 ⟨br,gr,S1',rfl,E,hE2⟩;have F:=hE2.trans E.2.1;have G:=Y.ext F;have hT:∀i j,i<n->j<n->nb (jZ n Q i j) 64:=fun i j hi hj=>by have:=hq.wfit hi hj;unfold nb;omega
 have hT2:∀i j,i<n->j<n->nb (jZ n Q i j) 629:=fun i j hi hj=>nb.mono (hT i j hi hj) (ot rfl);generalize jZ n Q=T at *;simp -dsimp only[go_sem,aa,aR];refine(vT n 27 B0 h1 om om om nB S2 _ (eM.one G.vr.va)).mono ?_;rintro _ S3 ⟨ba,ga,rfl,hA⟩;have Z:=G.ext hA.2.1;simp -dsimp only[go_sem,aa];refine(Be n (17*(27+10)) B0 h1 om om om (uJ om nB)).spec (eM.one Z.vr.va) ?_;simp -dsimp only[go_sem,aa];refine ax.intro fun m f15=>?_;simp -dsimp only[go_sem,aa];have hV4:cS ((S3.upd m ⟨50,2,1,fun _=>ϱ 0⟩).upd m ⟨50,2,1,aL (fun _=>ϱ 0) 0 (ϱ (det n B0))⟩) m 50 2 (ϱ (det n B0)):=cS.set;have I:dh S3 ((S3.upd m ⟨50,2,1,fun _=>ϱ 0⟩).upd m ⟨50,2,1,aL (fun _=>ϱ 0) 0 (ϱ (det n B0))⟩):=((dh.refl S3).upd f15 _).upd f15 _;have hA4:=hA.1.ext I;generalize (S3.upd m ⟨50,2,1,fun _=>ϱ 0⟩).upd m ⟨50,2,1,aL (fun _=>ϱ 0) 0 (ϱ (det n B0))⟩=S4 at *;refine(oo n n n 629 T (iq n B0) h1 om h1 om h1 om hT2 nA (ot rfl) S4 _ (eM.two (VA.refl _ _) hA4.vr.va)).mono ?_;rintro _ S5 ⟨bm,gm,rfl,hP⟩;have hPn:∀i j,i<n->j<n->nb (mm n T (iq n B0) i j) 800:=fun i j hi hj=>(me (f:=fun k=>T i k*iq n B0 k j) (k:=693) n fun k hk=>nb.mono ((hT i k hi hk).mul (nA k j hk hj)) (ot rfl)).mono om;have hP5:=hP.1;have hV5:=hV4.ext hP.2.1;have hE05:dh S S5:=(((hE.trans F).trans hA.2.1).trans I).trans hP.2.1;clear hP hV4 hA4 I Z G Y hA E hE2 F hM hE;unfold Ph at hw hC;generalize mm n T (iq n B0)=P at *;simp -dsimp only[go_sem,aa,wpp];refine(fS (a:=(p:Int)*p) om om).call ?_;simp -dsimp only[go_sem];refine ax.intro fun o f19=>?_;simp -dsimp only[go_sem,aa,av];have hV6:cS ((S5.upd o ⟨50,2,1,fun _=>ϱ 0⟩).upd o ⟨50,2,1,aL (fun _=>ϱ 0) 0 (ϱ ((p:Int)*p))⟩) o 50 2 (ϱ ((p:Int)*p)):=cS.set;have U:dh S5 ((S5.upd o ⟨50,2,1,fun _=>ϱ 0⟩).upd o ⟨50,2,1,aL (fun _=>ϱ 0) 0 (ϱ ((p:Int)*p))⟩):=((dh.refl S5).upd f19 _).upd f19 _;have hP6:=hP5.ext U;have hD6:=hV5.ext U;have hE06:=hE05.trans U;generalize (S5.upd o ⟨50,2,1,fun _=>ϱ 0⟩).upd o ⟨50,2,1,aL (fun _=>ϱ 0) 0 (ϱ ((p:Int)*p))⟩=S6 at *;clear U hE05 hP5 hV5
 repeat refine an ?_
 refine ax.intro fun br fr=>?_;simp only[go_sem];have hDn:nb (det n B0) 1000:=(lw (k:=27) n B0 om nB).mono om;generalize det n B0=D at *;refine cf (fun O S=>∃(i:Nat) (g:Nat->Nat),i<=n/\O 1=ι p/\O 15=ϖ m 0/\O 19=ϖ o 0/\O 20=ϑ br 0 n/\O 76=ϑ bm 0 n/\O 77=ι n/\O 78=ι i/\dh S6 S /\
  aY S br 29 1 n (fun a=>if a<i then ϑ (g a) 0 n else .nil)/\(∀a,a<i->aY S (g a) 2 1 n (fun c=>ι (P a c*(p*p)/D%p)))/\∀a c,a<i->c<i->g a=g c->a=c) (fun O S=>n-bO (O 78)) ?_ ?_
 .simp only[go_sem];exact⟨0,om,rfl,(dh.refl S6).upd fr _,fun _=>0,aY.here fun _ _=>by simp,fun a t=>om,fun a c t=>om⟩
 rintro Q' hQ' O S7 ⟨i,g,hi,e1,J,K,L,y,z,A,l,hO,E,hI⟩;by_cases s:i<n
 .obtain⟨go,uo,vo⟩:=id (hP6.ext l).outer;have xo:go i=ϕ (gm i) 0 n:=vo i s;simp only[go_sem,aa,y,z,A,s,uo,xo];refine cf (fun O S'=>∃(j:Nat) (x:AV),j<=n/\O 1=ι p/\O 15=ϖ m 0/\O 19=ϖ o 0/\O 20=ϑ br 0 n/\O 21=ι i/\O 76=ϑ bm 0 n/\O 77=ι n/\O 78=ι i/\O 83=ϕ (gm i) 0 n/\O 84=ι n/\O 85=ι j/\dh S6 S' /\
   aY S' br 29 1 n (fun a=>if a<i then ϑ (g a) 0 n else if a=i then x else .nil)/\(∀a,a<i->aY S' (g a) 2 1 n (fun c=>ι (P a c*(p*p)/D%p))/\¬dV x (g a))/\cN 2 1 S6 S' x j (fun c=>ι (P i c*(p*p)/D%p))) (fun O S=>n-bO (O 85)) ?_ ?_
  .simp only[go_sem,e1,J,K,L,y,z,A];exact⟨0,om,rfl,l,.nil,hO.congr fun a _=>by grind,fun a t=>⟨E a t,by rintro⟨_,_,_,e⟩;cases e⟩,cN.nil l _⟩
  clear hO E l e1 J K L y z A uo vo xo;rintro Q'' hQ'' O S' ⟨j,x,hj,e1,J,K,L,e21,y,z,A,e83,e84,e85,l,hO,E,hX⟩;by_cases M:j<n
  .obtain⟨gc,uc,vc⟩:=id ((hP6.ext l).row i s);have xc:gc j=ϱ (P i j):=vc j M;have hv6:=hV6.ext l;have hd6:=hD6.ext l;have hc:=hC i j;simp -dsimp only[go_sem,aa,e83,e84,e85,M,uc,xc];refine ax.intro fun b24 f24=>?_;simp -dsimp only[go_sem,aa,xc];refine k9 (fun T=>cS T b24 50 2 (ϱ (P i j))/\dh S' T) ⟨cS.set,((dh.refl S').upd f24 _).upd f24 _⟩ ?_;rintro T ⟨hv24,C⟩;obtain⟨q1,r1,s1⟩:=id hv24.get;obtain⟨q2,r2,s2⟩:=id (hv6.ext C).get;obtain⟨q3,r3,s3⟩:=id (hd6.ext C).get;refine iz 11 [[7,8],[8],[]] kr ?_
   simp -dsimp only[go_sem,aa,J,K,r1,s1,r2,s2,r3,s3];have np:nb ((p:Int)*p) 800:=(show nb ((p:Int)*p) 27 by unfold nb;omega).mono om
   have nx:nb (P i j*((p:Int)*p)) 1600:=nb.mono ((hPn i j s M).mul np) (ot rfl);refine⟨_,(gL (hPn i j s M) np om).pure',_,(ft (b:=D) nx (hDn.mono om) om hd0).pure',?_⟩;simp -dsimp only[go_sem];refine ax.intro fun b25 f25=>?_
   try simp -dsimp only[go_sem]
   refine ax.intro fun b26 V=>?_;have n26_25:=(af V).1;simp -dsimp only[go_sem,nn n26_25];have nq:nb (P i j*((p:Int)*p)/D) 1601:=uK nx;generalize hq:P i j*((p:Int)*p)/D=q at *;refine k9 (fun T=>cS T b25 50 2 (ϱ q)/\dh S' T) ⟨?_,C.trans ((((((dh.refl T).upd f25 _).upd (af V).2 _).upd f25 _).upd (af V).2 _))⟩ ?_
   .simp only[cS.at_hit,cS.at_miss,yL,ia,aL,aH,ai n26_25]
   clear r1 s1 r2 s2 r3 s3 hv24 C f25 V;rintro T2 ⟨hv25,C⟩;obtain⟨q1,r1,s1⟩:=id hv25.get;refine iz 10 [[6,7],[7],[]] kr ?_
   simp -dsimp only[go_sem,aa,e1,r1,s1];have n2:nb (p:Int) 1601:=(show nb (p:Int) 27 by unfold nb;omega).mono om
   refine⟨_,(fS (a:=(p:Int)) om om).pure',_,(ft nq n2 om om).pure',?_⟩;simp -dsimp only[go_sem];refine ax.intro fun b28 f28=>?_
   try simp -dsimp only[go_sem]
   refine ax.intro fun b29 f29=>?_;have n29_28:=(af f29).1;simp -dsimp only[go_sem,nn n29_28,dL];have f29':=(af f29).2;refine(pE (a:=q%p) (by unfold gU;omega)).call ?_
   obtain⟨g1,u1,v1⟩:=id hO;have x1:g1 i=x:=by rw[v1 i s];simp
   have N:=C.trans (((((dh.refl T2).upd f28 (⟨50,2,1,fun _=>ϱ 0⟩)).upd f29' (⟨50,2,1,fun _=>ϱ 0⟩)).upd f28 (⟨50,2,1,aL (fun _=>ϱ 0) 0 (ϱ (q/p))⟩)).upd f29' (⟨50,2,1,aL (fun _=>ϱ 0) 0 (ϱ (q%p))⟩));generalize ((((T2.upd b28 ⟨50,2,1,fun _=>ϱ 0⟩).upd b29 ⟨50,2,1,fun _=>ϱ 0⟩).upd b28 ⟨50,2,1,aL (fun _=>ϱ 0) 0 (ϱ (q/p))⟩).upd b29 ⟨50,2,1,aL (fun _=>ϱ 0) 0 (ϱ (q%p))⟩)=T3 at *;have u3:=N br _ u1;simp -dsimp only[go_sem,aa,L,e21,s,u3,x1];refine ax.intro fun b118 f118=>?_
   try simp -dsimp only[go_sem,x1]
   have R:=N.none f118;refine cN.appx rfl rfl rfl (N.upd R _) hX om (show dY 1 (ι (q%p)) by simp[dY]) ⟨_,_,_,rfl,bW,rfl,R⟩ ?_
   intro c S8 hX' hk1 hk3;have hxr:=hX.other u1 om;have u1':=hk1 br _ u1 hxr;simp only[*,go_sem,aa,aF (om:j<1000000),bO]
   have hrS:S6 br=Option.none:=fr;refine⟨⟨j+1,om,rfl,hX'.1.upd hrS _,ϑ c 0 (j+1),aY.here fun a t=>?_,fun a t=>?_,?_⟩,om⟩
   .have:=v1 a t;grind [aL]
   .obtain⟨r1,r2⟩:=E a t;have hgr:g a≠br:=aY.ne r1 (aY.of u1) om;refine⟨(r1.via fun X hX=>hk1 _ _ hX r2).upd hgr _,fun hb=>?_⟩;rw[dP]at hb;rw[<-hb]at hk3;rcases hk3 with h|h
    .exact r2 h
    .exact aY.fresh r1 h rfl
   .refine(hX'.upd hrS (fun d hd e=>?_) _).congr (fun a t=>by by_cases e:a=j<;>simp[e,hq])
    rw[e]at hd;exact hX'.other u1' om hd
  .simp only[go_sem,aa,e83,e84,e85,M];rw[hQ''];simp only[go_sem,e1,J,K,L,y,z,A,aF (om:i<1000000),bO]
   obtain rfl:j=n:=om
   rcases hX.2 with⟨h0,_⟩|⟨c,_,rfl,hC'⟩
   .omega
   refine⟨⟨i+1,om,rfl,l,fun a=>if a=i then c else g a,hO.congr fun a t=>by grind,fun a t=>?_,fun a d t hd e=>?_⟩,om⟩
   .by_cases e:a=i
    .subst e;simp only[aH];exact hC'
    .simp only[e,aI];exact(E a om).1
   .have k1:=fun a t=>(E a t).2;simp only[dP]at k1
    grind
 have hin:i=n:=om
 rw[hin]at hO E hI;have hIM:eg S7 br g n n (fun a c=>P a c*(p*p)/D%p):=⟨hO.congr fun a t=>by rw[aj t],E,hI⟩
 simp only[go_sem,aa,y,z,A,s];rw[hQ'];simp -dsimp only[*,go_sem,aa];refine(Ai n p _ w hn W (fun i j _ _=>hC i j) hw).spec (eM.two hIM.vr.va (VA.refl _ _)) ?_;simp only[go_sem];exact hE06.trans l

def LI{a:Nat}(b:nI p)(d:0<a)(e:a<p):(bz a p).2.1%p=lp p (a:Int):=by
 have c:¬(p:Int)∣(a:Int):=fun h=>by
  have:=jX om h;omega
 have f:=MP b d e;have g:=b.1.inv c;have j:=aW (bz a p).2.1 (show(p:Int)≠0 by omega)
 have l:=aS (bz a p).2.1 (show(0:Int)<p by omega)
 have m:=pB (p:=(p:Int)) om (a:Int);generalize (bz a p).2.1%p=x at *;generalize lp p (a:Int)=y at *;have i:(p:Int)∣(a:Int)*(x-y):=by
  have:=ze f g
  rwa [show x*(a:Int)-1-((a:Int)*y-1)=(a:Int)*(x-y) by grind]at this
 rcases b.1.mul _ _ i with h|h
 .exact absurd h c
 .obtain⟨k,n⟩:=h;have:k=0:=by
   rcases ej k 0 with h|h|h
   .have:=aT (om:k<=-1) (show(0:Int)<=p by omega)
    omega
   .exact h
   .have:=aT (om:1<=k) (show(0:Int)<=p by omega)
    omega
  subst this;omega
def Ec(a:Int)(p k:Nat)(b:nb a k)(d:k<=100000)(e:1<=p)(c:p<=9973):PF 88 [ϱ a,ι p] (ι (a%p)):=by
 refine iy func88 ntmps88 results88 ?_;simp -dsimp only[go_sem];refine ax.intro fun f g=>?_
 try simp -dsimp only[go_sem]
 refine aN 10 kr ?_
 simp only[go_sem,aa];have h:=aW a (show(p:Int)≠0 by omega)
 have i:=aS a (show(0:Int)<p by omega)
 refine⟨_,(fA (a:=(p:Int)) om om).pure',_,(IL (k:=k+14) (b.mono om) ((show nb (p:Int) 14 by unfold nb;omega).mono om) om om).pure',_,(ww (a:=a%p) (by unfold gU;omega)).pure',?_⟩
 simp only[go_sem];exact VR.mf rfl
def JB(C:az)(j i:Nat)(u:Int):Prop:=(u=0/\∀a,a<i->C a j=0)∨∃b,b<i/\(∀a,a<b->C a j=0)/\C b j≠0/\u=C b j
def JB.put(h:JB C j i u):JB C j (i+1) (if u=0 then C i j else u):=by
 rcases h with⟨rfl,h⟩|⟨b,g,f,d,rfl⟩
 .rw[aj rfl];by_cases c:C i j=0
  .refine a6 ⟨c,fun a k=>?_⟩;rcases aB a i with e|e
   .exact h a e
   .rw[(om:a=i)];exact c
  .exact aQ ⟨i,om,h,c,rfl⟩
 .rw[ah d];exact aQ ⟨b,om,f,d,rfl⟩
def K9(n p:Nat)(H:az)(v:Nat->Nat)(B0 T:az)(w:AV)(hF:eQ n H)(hg:jw (det n H) p)(hp:nI p)(hL:jn n p H v)(h0:tC n p H v B0)(c24:PF 24 [av n n H,ι p,aK n (fun k=>v k)] (.tup [av n n B0,ι 0]))(hT:∀i j,i<n->j<n->xa (T i j))(hw:BK n p (Ph n p T B0) w) :
  PF 37 [av n n H,ι p,aK n (fun k=>v k),av n n T] w:=by
 have h1:=hF.one;have hn:=hF.eight;have h2:=line2 hF hg hL;have G:=hp.2;have hpp:(p:Int)*p<=99460729/\9<=(p:Int)*p:=by
  rw[<-aV];have a:=aX G.2 G.2;have b:=aX G.1 G.1;omega
 have wpp:ω ((p:Int)*p)=(p:Int)*p:=i64_in om om;obtain⟨nB,nA⟩:=I6 hF hp h0;have hd0:det n B0≠0:=by
  rw[h0.det hp hL];exact qe om
 have hB6:∀i j,i<n->j<n->xa (B0 i j):=fun i j hi hj=>by
  have:=nB i j hi hj;unfold nb at this;unfold xa;omega
 have hDn:nb (det n B0) 1000:=(lw (k:=27) n B0 om nB).mono om;have np:nb ((p:Int)*p) 27:=by unfold nb;omega
 have nT:∀i j,i<n->j<n->nb (T i j) 64:=fun i j hi hj=>nb.i64 (hT i j hi hj).1 (hT i j hi hj).2;have hC:=fun i j=>Jr (n:=n) (T:=T) (B:=B0) (om:0<p) i j
 have hs:∀i j,ap n (fun l=>T i l*(iq n B0 l j*((p:Int)*p)))/det n B0%p=Ph n p T B0 i j:=fun i j=>by
  unfold Ph mm;rw[bU (ap n _),<-cG];congr 2;exact ay fun l _=>by grind
 generalize Ph n p T B0=C at *;refine iy func37 ntmps37 results37 ?_;simp -dsimp only[go_sem,aa];refine c24.call ?_;simp -dsimp only[go_sem,aa];refine(yh n n B0 h1 om h1 om hB6).call ?_;simp -dsimp only[go_sem,aa];refine PF.call (z:=.tup [aP n n (iq n B0),.bool true]) (by
  obtain⟨m,rfl⟩:∃m,n=m+1:=⟨n-1,om⟩
  exact BQ m B0 27 om om nB om) ?_
 simp -dsimp only[go_sem,aa];refine(yh n n B0 h1 om h1 om hB6).call ?_;simp -dsimp only[go_sem,aa];refine(io n B0 27 h1 om nB om).call ?_;simp -dsimp only[go_sem,aa];refine ax.intro fun g f13=>?_;simp only[go_sem,aa,av];have hV:cS ((St.none.upd g ⟨50,2,1,fun _=>ϱ 0⟩).upd g ⟨50,2,1,aL (fun _=>ϱ 0) 0 (ϱ (det n B0))⟩) g 50 2 (ϱ (det n B0)):=cS.set;generalize (St.none.upd g ⟨50,2,1,fun _=>ϱ 0⟩).upd g ⟨50,2,1,aL (fun _=>ϱ 0) 0 (ϱ (det n B0))⟩=Sb at *;generalize det n B0=D at *;refine cf (fun O S=>∃j:Nat,j<=n/\(∀a b,a<n->b<j->C a b=0)/\O 0=av n n H/\O 1=ι p/\O 3=av n n T/\O 11=aP n n (iq n B0)/\O 13=ϖ g 0/\O 40=ι n/\O 41=ι j/\dh Sb S) (fun O S=>n-bO (O 41)) ?_ ?_
 .simp only[go_sem,av];exact⟨0,om,fun a b _ hb=>om,rfl,dh.refl _⟩
 rintro Q' hQ' O S ⟨j,hj,hz,Q,P,e3,I,A,o,q,hE⟩;by_cases E:j<n
 .simp only[go_sem,Q,o,q,E,av];refine cf (fun O S=>∃(i:Nat) (u:Int) (x:AV),i<=n/\O 0=av n n H/\O 1=ι p/\O 3=av n n T/\O 11=aP n n (iq n B0)/\O 13=ϖ g 0/\O 14=ι j/\O 15=x/\O 16=ι u/\O 40=ι n/\O 41=ι j/\O 45=ι n/\O 46=ι i/\JB C j i u/\cN 2 1 Sb S x i (fun a=>ι (C a j))) (fun O S=>n-bO (O 46)) ?_ ?_
  .simp only[*,go_sem,av];exact⟨0,om,0,rfl,rfl,a6 ⟨rfl,fun a M=>om⟩,cN.nil hE _⟩
  clear Q P e3 I A o q hE;clear O S;rintro Q2 hQ2 O S ⟨i,u,x,hi,Q,P,e3,I,A,R,f,N,o,q,J,K,hI,F⟩;by_cases r:i<n
  .simp -dsimp only[go_sem,aa,Q,J,K,r,av];refine(fA (a:=0) om om).call ?_;simp -dsimp only[go_sem];refine ax.intro fun b18 L=>?_;simp only[go_sem,aa,Q,av];refine cf (fun O S'=>∃k:Nat,k<=n/\O 0=av n n H/\O 1=ι p/\O 3=av n n T/\O 11=aP n n (iq n B0)/\O 13=ϖ g 0/\O 14=ι j/\O 15=x/\O 16=ι u/\O 17=ι i/\O 18=ϖ b18 0/\O 40=ι n/\O 41=ι j/\O 45=ι n/\O 46=ι i/\O 51=ι n/\O 52=ι k/\cN 2 1 Sb S' x i (fun a=>ι (C a j))/\cS S' b18 50 2 (ϱ (ap k fun l=>T i l*(iq n B0 l j*((p:Int)*p))))) (fun O S=>n-bO (O 52)) ?_ ?_
   .simp only[*,go_sem,av];exact⟨0,om,rfl,(F.upd (F.1.none L) (F.fresh L) _).upd (F.1.none L) (F.fresh L) _,cS.set⟩
   have hb18:=F.1.none L;clear Q P e3 I A R f N o q J K F L;clear O S;rintro Q3 hQ3 O S ⟨k,hk,Q,P,e3,I,A,R,f,N,e17,e18,o,q,J,K,e51,e52,F,hV18⟩;obtain⟨g1,u1,v1⟩:=id hV18.get;by_cases t:k<n
   .simp -dsimp only[go_sem,e51,e52,t];refine aN 23 kr ?_
    simp only[*,go_sem,aa,av,aP,aK,bn,aF (om:k<1000000),bO]
    have n1:=(nA k j t E).mul np;have n3:nb (ap k fun l=>T i l*(iq n B0 l j*((p:Int)*p))) 800:=(me (k:=720) k fun l hl=>((nT i l r om).mul ((nA l j om E).mul np)).mono om).mono om;refine⟨_,(fA (hT i k r t).1 (hT i k r t).2).pure',_,(fA (a:=(p:Int)*p) om om).pure',_,(ja (k:=629) (nA k j t E) (np.mono om) om).pure',_,(ja (k:=656) ((nT i k r t).mono om) n1 om).pure',_,(r8 (k:=800) n3 (((nT i k r t).mul n1).mono om) om).pure',trivial,⟨k+1,om,rfl,F.upd hb18 (fun d hd e=>F.other u1 om (e▸hd)) _,cS.set⟩,om⟩
   .obtain rfl:k=n:=om
    have n3:nb (ap k fun l=>T i l*(iq k B0 l j*((p:Int)*p))) 1000:=(me (k:=720) k fun l hl=>((nT i l r hl).mul ((nA l j hl E).mul np)).mono om).mono om;have hsi:=hs i j;obtain⟨g2,u2,v2⟩:=id (hV.ext F.1).get;generalize ap k (fun l=>T i l*(iq k B0 l j*((p:Int)*p)))=s at *;simp only[go_sem,aa,e51,e52,t];rw[hQ3];simp -dsimp only[go_sem,aa,A,f,e18,u1,v1,u2,v2];refine(mZ n3 hDn om hd0).call ?_;simp -dsimp only[go_sem,aa,P];refine(Ec (s/D) p 1001 (uK n3) om om om).call ?_;rw[hsi];simp -dsimp only[go_sem];refine ax.intro fun b85 f85=>?_
    try simp -dsimp only[go_sem,f]
    refine cN.appx rfl rfl rfl ((dh.refl S).upd f85 _) F om (show dY 1 (ι (C i j)) by simp[dY]) ⟨_,_,_,rfl,bW,rfl,f85⟩ ?_
    intro c S2 hX2 hk1 hk3;have Y:cN 2 1 Sb S2 (ϑ c 0 (i+1)) (i+1) (fun a=>ι (C a j)):=hX2.congr fun a M=>by by_cases e:a=i<;>simp[e]
    have U:=hI.put;rcases Y.2 with⟨h0,_⟩|⟨c',_,e,V⟩
    .omega
    cases e
    obtain⟨g3,u3,v3⟩:=id V;have x3:g3 i=ι (C i j):=v3 i om;by_cases hu:u=0
    .rw[aj hu]at U;simp only[go_sem,aa,Gi,Q,P,e3,I,A,R,N,e17,o,q,J,K,u3,x3,show(u==0)=true by simpa using hu,aF (om:i<1000000),bO,av]
     exact⟨⟨i+1,om,C i j,rfl,rfl,U,Y⟩,om⟩
    .rw[ah hu]at U;simp only[*,go_sem,aa,show(u==0)=false by simpa using hu,aF (om:i<1000000),bO,av]
     exact⟨⟨i+1,om,u,rfl,rfl,U,Y⟩,om⟩
  .obtain rfl:i=n:=om
   simp only[go_sem,aa,J,K,r];rw[hQ2];rcases hI with⟨rfl,Z⟩|⟨b,hb,Z,hb0,rfl⟩
   .simp only[*,go_sem,cb,aF (om:j<1000000),bO]
    exact⟨⟨j+1,om,fun a b M hb=>by
     rcases aB b j with h|h
     .exact hz a b M h
     .rw[(om:b=j)];exact Z a M,rfl,rfl,rfl,F.1⟩,om⟩
   .have hcb:=hC b j;obtain⟨a,M⟩:∃a:Nat,C b j=a:=⟨(C b j).toNat,om⟩
    have hr:=LI hp (a:=a) om om;have hy:=pB (p:=(p:Int)) om (C b j);have hat:=hw.at hb E hz Z hb0;rw[<-M]at hr;rcases F.2 with⟨h0,_⟩|⟨c,_,rfl,V⟩
    .omega
    generalize lp p (C b j)=y at *;simp -dsimp only[go_sem,aa,P,N,show(C b j==0)=false by simpa using hb0]
    rw[M];refine(qP a p hp om om).call ?_;rw[hr];simp only[go_sem,aa,f];refine aC (fun O S=>∃k:Nat,k<=i/\O 1=ι p/\O 15=ϑ c 0 i/\O 20=ι y/\O 103=ι i/\O 104=ι k/\aY S c 2 1 i (fun a=>ι (if a<k then C a j*y%p else C a j))) (fun O S=>i-bO (O 104)) ?_ ?_
    .simp only[*,go_sem];exact⟨0,om,rfl,V.congr fun a _=>by simp⟩
    clear Q P e3 I A R f N o q J K F V;clear O S;rintro O S ⟨k,hk,P,f,e20,W,X,hO⟩;by_cases hki:k<i
    .obtain⟨g1,u1,v1⟩:=id hO;have x1:g1 k=ι (C k j):=(v1 k hki).trans sm
     have hck:=hC k j;have:=ck (om:C k j<=9973) (om:y<=9973) hy.1 om
     have h0:=cC hck.1 hy.1;have w1:ω (C k j*y)=C k j*y:=i64_in om om;have w2:et (C k j*y) p=C k j*y%p:=aJ h0;simp only[go_sem,aa,P,f,e20,W,X,hki,u1,x1,w1,w2,(om:¬((p:Int)=0)),aF (om:k<1000000),bO]
     refine⟨⟨k+1,om,rfl,aY.here fun a M=>?_⟩,om⟩
     have:=v1 a M
     grind [aL]
    .obtain rfl:k=i:=om
     simp only[go_sem,aa,f,W,X,hki];rw[hQ',hat];simp only[go_sem];exact(show oq S c k (fun a=>C a j*y%p)from hO.congr fun a M=>by rw[aj M]).vr
 .obtain rfl:j=n:=om
  simp only[go_sem,aa,o,q,E];rw[hQ',hw.zero hz];simp only[go_sem];exact VR.mf rfl

def Fd(m:Nat)(len:Nat->Nat)(A:az)(β:Bool)(hβ:β=true↔12<m∨∃i,i<m/\12<len i):PF 11 [lW m len A] (.bool β):=by
 refine iy func11 ntmps11 results11 ?_;by_cases d:12<m
 .simp only[go_sem,lW,show(12:Int)<(m:Int) by omega]
  rw[hβ.2 (a6 d)];exact VR.mf rfl
 simp only[go_sem,lW,(om:¬((12:Int)<(m:Int)))]
 refine aC (fun O S=>∃i:Nat,i<=m/\(∀a,a<i->¬12<len a)/\O 8=lW m len A/\O 9=.int .i64 m/\O 10=.int .i64 i) (fun O S=>m-bO (O 10)) ?_ ?_
 .simp only[go_sem,lW];exact⟨0,om,fun a g=>om,rfl⟩
 .rintro O S ⟨i,n,b,o,p,j⟩;by_cases c:i<m
  .by_cases f:12<len i
   .simp only[*,go_sem,aK,lW,show(12:Int)<((len i:Nat):Int) by omega]
    rw[hβ.2 (aQ ⟨i,c,f⟩)];exact VR.mf rfl
   .simp only[*,go_sem,aK,lW,(om:¬((12:Int)<((len i:Nat):Int))),aF (om:i<1000000),bO]
    refine⟨⟨i+1,om,fun a g=>?_,rfl⟩,om⟩
    by_cases e:a=i
    .rw[e];exact f
    .exact b a om
  .obtain rfl:i=m:=om
   simp only[*,go_sem];rw[dC hβ fun h=>by
    rcases h with h|⟨a,k,l⟩
    .exact d h
    .exact b a k l]
   exact VR.mf rfl
def I1{w:World}{u:Value}(h:bI w M .nil u):bI w M (.lst es 0 g) u:=by
 simp only[bI]at h ⊢;exact⟨none,0,h,ag _,fun h=>absurd h (cw _)⟩
def MadeD(r:AV):Prop:=∃(n p l:Nat) (H:az) (v:Nat->Int) (ok:Bool),eQ n H/\r=.tup [av n n H,.int .i64 p,aK l v,.bool ok]

end Go.Proofs.YtdobfmlmenaajaaGreatDoor
