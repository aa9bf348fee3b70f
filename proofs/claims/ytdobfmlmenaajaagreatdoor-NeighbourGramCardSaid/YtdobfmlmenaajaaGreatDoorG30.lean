/-
  Lemmas for NeighbourGram.
-/
import Derived.Test.YtdobfmlmenaajaaGreatDoorG29
namespace Go.Proofs.YtdobfmlmenaajaaGreatDoor
open Go.RowKit Tryz
open _root_.Classical renaming choose→c9
open _root_.Option renaming none→ab
set_option maxHeartbeats 6400000
set_option maxRecDepth 4096
set_option linter.all false
attribute [local go_sem] Nat.reduceAdd Nat.reduceEqDiff Nat.reduceLeDiff Nat.reduceLT reduceCtorEq Int.ofNat_lt decide_true decide_false Int.zero_le_ofNat
attribute [local go_sem ↓] reduceIte
variable{K:AV->St->Prop}{Q:AX->Tm->St->Prop}{a q:Int}{b bh bp bu c j m n p r s:Nat}{g gh gu:Nat->Nat}{S:St}{O:Tm}{G:Type}{A H U:aJ}
def AE(n m k:Nat)(A:aJ)(i j:Nat)(a:i<m)(b:j<n)(c:nb (A j i) k)(d:k<=1000000):PF 156 [.int .i64 i,.int .i64 j,.pat 1 (aQ n m A)] (.big (A j i)):=by
 refine iQ func156 ntmps156 results156 ?_;simp -dsimp only[go_sem];refine aG.intro fun bc fc=>?_
 try simp -dsimp only[go_sem,aQ,a8,a,b]
 refine(qV c om).call ?_;simp -dsimp only[go_sem,aa];exact VR.mf rfl
def zW(n m k:Nat)(A:aJ)(f:1<=n)(a:n<=16)(h:1<=m)(c:m<=16)(l:∀i j,i<n->j<m->nb (A i j) k)(o:k<=1000000):DI 94 [aQ n m A] m n (fun i j=>A j i):=by
 refine DI.of ?_;refine jr func94 ntmps94 results94 ?_;simp -dsimp only[go_sem,aa,aQ,a8];refine aG.intro fun bc fc=>?_
 try simp -dsimp only[go_sem]
 refine(kN n m A f a h c).call ?_;simp -dsimp only[go_sem,aa];refine(qB m n 156 [.pat 1 (aQ n m A)] (fun i j=>A j i) om c a (fun i j d e=>AE n m k A i j d e (l j i e d) o) _ _ (fD.fn1 (fD.one (VA.ptr (dT.new rfl) (VA.refl _ _))))).mono ?_;rintro _ S1 ⟨b,g,rfl,p⟩;simp -dsimp only[go_sem];exact⟨b,rfl,g,p.1⟩
def cV.appx{t e es:Nat}{S0 S3:St}{x y v:AV}{g:Nat->AV}(l:dB t=some e)(m:(fU e).isSome=true)(f:es=bP e)(a:eQ S S3)(h:cV e es S0 S x j g)(n:j<1000000)(o:eg es v)
  (p:∃b gb ty,y=.sl es b 0 1/\S3 b=some ⟨ty,es,1,gb⟩/\gb 0=v/\S b=ab)
  (q:∀c S',cV e es S0 S' (.sl es c 0 (j+1)) (j+1) (fun i=>if i=j then v else g i)->(∀d X,S d=some X->¬d5 x d->S' d=some X)->(d5 x c∨S c=ab)->K (.sl es c 0 (j+1)) S'):fG t t x y S3 K:=by
 obtain⟨b,gb,ty,rfl,r,s,u⟩:=p;have w:cV e es S0 S3 x j g:=h.keep (x:=.nil) (h.1.trans a) (fun d X k _=>a d X k) (fun d _=>by rintro⟨_,_,_,e⟩;cases e)
 refine cV.app l m f w n o (bO ⟨b,gb,ty,rfl,r,s,fun z=>h.fresh u b z rfl⟩) fun c S' A B C=>q c S' A (fun d X k D=>B d X (a d X k) D) (C.imp id fun h=>a.none h)
def uQ(S:St)(n p:Nat)(H:aJ)(v:Nat->Nat)(Z:fN n H)(hg:kX (det n H) p)(hp:sn p)(hL:lG n p H v)(hG:k8 S) :
  cE 41 [aD n n H,.int .i64 p,aV n (fun k=>v k)] S (fun r S'=>∃b c gb g B S1,r=.tup [.sl 1 b 0 n,.sl 1 c 0 n,.int .i64 0]/\ri n p H v B/\eQ S S1/\S1 b=ab/\(∀i,i<n->S1 (gb i)=ab)/\dA S' b gb n n B/\dA S' c g n n (DG n p H B)/\eQ S1 S'):=by
 have M:=Z.one;have hn:=Z.eight;have A:=hp.2;have hpp:(p:Int)*p<=99460729/\9<=(p:Int)*p:=by
  rw[<-bL];have a:=bs A.2 A.2;have b:=bs A.1 A.1;omega
 have wpp:IntKind.i64.wrap ((p:Int)*p)=(p:Int)*p:=i64_in om om;refine jr func41 ntmps41 results41 ?_;simp -dsimp only[go_sem,aa];refine(tv S n p H v Z hg hp hL hG).mono ?_;rintro _ S1 ⟨b,gB,B,S0,rfl,hB,hE0,F⟩;have hM1:=F.1;have hE1:=hE0.trans F.2.1;simp -dsimp only[go_sem,aa,cK];refine(rL n n H M om M om (fun i j m o=>by have:=Z.ent i j m o;omega) S1 _ (cI _ _)).mono ?_
 rintro _ S2 ⟨bf,gf,rfl,hf⟩;have hM2:=hM1.ext hf.2.1;have G:∀i j,i<n->j<n->nb (B i j) 27:=fun i j m o=>by have:=hB.ent hp m o;unfold nb;omega
 have hHn:∀i j,i<n->j<n->nb (H i j) 18:=fun i j m o=>Z.ent.nb m o;simp -dsimp only[go_sem,aa];refine(zW n n 27 B M om M om G om S2 _ (fD.one hM2.vr.va)).mono ?_;rintro _ S3 ⟨bt,gt,rfl,ht⟩;have hM3:=hM2.ext ht.2.1;have hf3:=hf.1.ext ht.2.1;simp -dsimp only[go_sem,aa];refine(tP n n n 27 (fun i j=>B j i) H M om M om M om (fun i j m o=>(G j i o m).mono om) (fun i j m o=>(hHn i j m o).mono om) om S3 _ (fD.two ht.1.vr.va hf3.vr.va)).mono ?_;rintro _ S4 ⟨b1,g1,rfl,I⟩;have hM4:=hM3.ext I.2.1;have hmn:∀i j,i<n->j<n->nb (mm n (fun i j=>B j i) H i j) 53:=fun i j m o=>(pm (f:=fun k=>B k i*H k j) (k:=45) n fun k hk=>(G k i hk m).mul (hHn k j hk o)).mono om;simp -dsimp only[go_sem,aa];refine(tP n n n 53 (mm n (fun i j=>B j i) H) B M om M om M om hmn (fun i j m o=>(G i j m o).mono om) om S4 _ (fD.two I.1.vr.va hM4.vr.va)).mono ?_;rintro _ S5 ⟨bp,gp,rfl,N⟩;have hPn:∀i j,i<n->j<n->nb (mm n (mm n (fun i j=>B j i) H) B i j) 88:=fun i j m o=>(pm (f:=fun k=>mm n (fun i j=>B j i) H i k*B k j) (k:=80) n fun k hk=>(hmn i k m hk).mul (G k j hk o)).mono om;have hent:∀i j,i<n->j<n->(mm n (mm n (fun i j=>B j i) H) B i j/((p:Int)*p)).natAbs<=1120325651456000:=fun i j m o=>by
  have:=(hB.nbB hp).gent Z hp m o;unfold DG at this
  rwa [ai ⟨m,o⟩]at this
 have hMb5:=((hM1.ext hf.2.1).ext ht.2.1).ext (I.2.1.trans N.2.1);have hdvd:=fun i j (m:i<n) (o:j<n)=>hB.gram Z hp m o;have hP5:=N.1;have hE5:eQ S0 S5:=(((F.2.1.trans hf.2.1).trans ht.2.1).trans I.2.1).trans N.2.1;generalize hPP:mm n (mm n (fun i j=>B j i) H) B=P at *;clear N I hf ht hf3 hM4 hM3 hM2 hM1 hmn;simp -dsimp only[go_sem,aa,wpp];refine(ky (a:=(p:Int)*p) om om).call ?_;simp -dsimp only[go_sem];refine aG.intro fun l f15=>?_;simp -dsimp only[go_sem,aa];have hV6:dT ((S5.upd l ⟨50,2,1,fun _=>.big 0⟩).upd l ⟨50,2,1,bR (fun _=>.big 0) 0 (.big ((p:Int)*p))⟩) l 50 2 (.big ((p:Int)*p)):=dT.set;have hE6:eQ S5 ((S5.upd l ⟨50,2,1,fun _=>.big 0⟩).upd l ⟨50,2,1,bR (fun _=>.big 0) 0 (.big ((p:Int)*p))⟩):=((eQ.refl S5).upd f15 _).upd f15 _;have hP6:=hP5.ext hE6;refine fq (fun O S=>∃(i:Nat) (x:AV) (g:Nat->Nat),i<=n/\O 6=.sl 1 b 0 n/\O 7=x/\O 15=.ptr 2 l 0/\O 62=.sl 1 bp 0 n/\O 63=.int .i64 n/\O 64=.int .i64 i /\
  cV 59 1 ((S5.upd l ⟨50,2,1,fun _=>.big 0⟩).upd l ⟨50,2,1,bR (fun _=>.big 0) 0 (.big ((p:Int)*p))⟩) S x i (fun a=>.sl 2 (g a) 0 n)/\(∀a,a<i->iW S (g a) n (fun j=>P a j/(p*p)))/\∀a c,a<i->c<i->g a=g c->a=c) (fun O S=>n-ca (O 64)) ?_ ?_
 .simp -dsimp only[go_sem];exact⟨0,om,rfl,fun _=>0,cV.nil (eQ.refl _) _,fun a J=>om,fun a c J=>om⟩
 generalize (S5.upd l ⟨50,2,1,fun _=>AV.big 0⟩).upd l ⟨50,2,1,bR (fun _=>AV.big 0) 0 (AV.big ((p:Int)*p))⟩=S6 at *;rintro Q' hQ' O S ⟨i,x,g,m,e6,R,C,s,t,u,q,T,hI⟩;by_cases w:i<n
 .have hP:=hP6.ext q.1;obtain⟨g1,u1,v1⟩:=id hP.outer;have x1:g1 i=.sl 2 (gp i) 0 n:=v1 i w;simp -dsimp only[go_sem,aa,s,t,u,w,u1,x1];refine fq (fun O S'=>∃(j:Nat) (y:AV),j<=n/\O 6=.sl 1 b 0 n/\O 7=x/\O 15=.ptr 2 l 0/\O 18=y/\O 62=.sl 1 bp 0 n/\O 63=.int .i64 n/\O 64=.int .i64 i/\O 68=.sl 2 (gp i) 0 n/\O 69=.int .i64 n/\O 70=.int .i64 j /\
   cV 59 1 S6 S' x i (fun a=>.sl 2 (g a) 0 n)/\(∀a,a<i->iW S' (g a) n (fun j=>P a j/(p*p))/\¬d5 y (g a))/\cV 50 2 S6 S' y j (fun c=>.big (P i c/(p*p)))/\∀d,d5 x d->¬d5 y d) (fun O S=>n-ca (O 70)) ?_ ?_
  .simp -dsimp only[go_sem,e6,R,C,s,t,u];exact⟨0,om,rfl,q,fun a J=>⟨T a J,by rintro⟨_,_,_,e⟩;cases e⟩,cV.nil q.1 _,fun d _=>by rintro⟨_,_,_,e⟩;cases e⟩
  clear e6 R C s t u q T hP u1 v1 x1;rintro Q2 hQ2 O S' ⟨j,y,o,e6,R,C,K,s,t,u,e68,e69,e70,q,T,hY,hXY⟩;by_cases D:j<n
  .have hP:=hP6.ext q.1;obtain⟨g1,u1,v1⟩:=id (hP.row i w);have x1:g1 j=.big (P i j):=v1 j D;have hV:=hV6.ext q.1;have hb1:=hent i j w D;obtain⟨z,hz⟩:=hdvd i j w D;have hq:P i j/((p:Int)*p)=z:=by rw[hz,cT _ om]
   have hzb:z.natAbs<=1120325651456000:=by rw[<-hq];exact hb1
   simp -dsimp only[go_sem,aa,e68,e69,e70,D,u1];refine aG.intro fun b20 f20=>?_;obtain⟨g2,u2,v2⟩:=(id hV.get);have n20:l≠b20:=hV.fresh f20;simp -dsimp only[go_sem,aa,C,x1,n20,u2,v2,eL];refine(GL (a:=P i j) (b:=(p:Int)*p) (k:=88) (hPn i j w D) (by unfold nb;omega) om om).call ?_
   rw[hq];simp -dsimp only[go_sem];refine aG.intro fun b21 f21=>?_;have n21_20:=(ag f21).1
   try simp -dsimp only[go_sem]
   refine aG.intro fun b22 f22=>?_;have n22_21:=(ag f22).1;have n22_20:=(ag (ag f22).2).1
   try simp -dsimp only[go_sem,nn n22_21]
   refine(zf (a:=z) (by unfold jS;omega)).call ?_
   simp -dsimp only[go_sem,aa,K,aj n22_21,(om:¬(z < -4611686018427387904)),(om:¬((4611686018427387904:Int)<z)),eL]
   refine aG.intro fun b98 E=>?_;have n98_22:=(ag E).1;have n98_21:=(ag (ag E).2).1;have n98_22:=(ag (ag (ag E).2).2).1;have n98_21:=(ag (ag (ag (ag E).2).2).2).1;have n98_20:=(ag (ag (ag (ag (ag E).2).2).2).2).1
   try simp -dsimp only[go_sem,K]
   have U:S' b21=ab:=by simpa only[aN n21_20]using f21
   have V:S' b22=ab:=by simpa only[aN n22_21,aN n22_20]using f22
   have W:S' b98=ab:=by simpa only[aN n98_22,aN n98_21,aN n98_20]using E
   refine cV.appx rfl rfl rfl ((((((((eQ.refl S').upd f20 _).upd f20 _).upd U _).upd V _).upd U _).upd V _).upd W _) hY om (show eg 2 (.big z)from trivial) ⟨_,_,_,rfl,ci,rfl,W⟩ ?_;intro c S2 hY' L Q;simp -dsimp only[go_sem,e6,R,C,K,s,t,u,e68,e69,e70,aT (om:j<1000000),ca]
   refine⟨⟨j+1,om,rfl,q.keep hY'.1 L hXY,fun a J=>?_,hY'.congr fun a J=>?_,fun d hd he=>?_⟩,om⟩
   .obtain⟨r1,r2⟩:=T a J;refine⟨r1.via fun X q=>L _ _ q r2,fun hb=>?_⟩;rw[eR]at hb;rw[<-hb]at Q;rcases Q with h|h
    .exact r2 h
    .exact bJ.fresh r1 h rfl
   .by_cases e:a=j
    .subst e;rw[ai rfl,hq]
    .rw[af e]
   .rw[eR]at he;subst he;rcases Q with h|h
    .exact hXY d hd h
    .exact q.fresh h d hd rfl
  .obtain rfl:j=n:=om
   rcases hY.2 with⟨h0,_⟩|⟨c,_,rfl,hC⟩
   .omega
   simp -dsimp only[go_sem,aa,e68,e69,e70,D];rw[hQ2];simp -dsimp only[go_sem,R,K];refine aG.intro fun b103 Y=>?_
   try simp -dsimp only[go_sem,R]
   refine cV.appx rfl rfl rfl ((eQ.refl S').upd Y _) q om (show eg 1 (.sl 2 c 0 j)from trivial) ⟨_,_,_,rfl,ci,rfl,Y⟩ ?_;intro d S2 hX' L Q;have hxc:¬d5 x c:=fun h=>hXY c h (eR.2 rfl);simp -dsimp only[go_sem,e6,R,C,K,s,t,u,aT (om:i<1000000),ca]
   refine⟨⟨i+1,om,rfl,fun a=>if a=i then c else g a,hX'.congr fun a J=>by grind,fun a J=>?_,fun a d J hd e=>?_⟩,om⟩
   .by_cases e:a=i
    .subst e;simp only[aO];exact hC.via fun X q=>L _ _ q hxc
    .simp only[e,aP];obtain⟨gg,hgg,hg2⟩:=(T a om).1;exact⟨gg,L _ _ hgg (q.other hgg om),hg2⟩
   .have k1:=fun a J=>(T a J).2;simp only[eR]at k1
    grind
 have hin:i=n:=om
 rw[hin]at q T hI;rcases q.2 with⟨h0,_⟩|⟨c,_,rfl,hC⟩
 .omega
 simp -dsimp only[go_sem,aa,s,t,u,w];rw[hQ'];simp -dsimp only[go_sem,e6,R];refine⟨b,c,rfl,gB,g,B,hB,S0,hE0,F.2.2.1,F.2.2.2,hMb5.ext (hE6.trans q.1),dA.congr ⟨hC,T,hI⟩ fun i j m o=>?_,(hE5.trans hE6).trans q.1⟩;unfold DG;rw[ai ⟨m,o⟩,hPP]
def tZ(S:St)(n p:Nat)(H:aJ)(v:Nat->Nat)(a:fN n H)(h:kX (det n H) p)(d:sn p)(l:lG n p H v)(m:k8 S) :
  cE 23 [aD n n H,.int .i64 p,aV n (fun k=>v k)] S (fun r S'=>∃b g B S1,r=.tup [.sl 1 b 0 n,.int .i64 0]/\ri n p H v B/\eQ S S1/\iE S1 S' b g n n B):=by
 have w:=a.eight;refine jr func23 ntmps23 results23 ?_;simp -dsimp only[go_sem,aa];refine(tv S n p H v a h d l m).mono ?_;rintro _ S1 ⟨b,g,B,S0,rfl,e,o,f⟩;simp -dsimp only[go_sem,aa,cK];refine(tJ n n B a.one om a.one om (fun i j q s=>by have:=e.ent d q s;unfold jS;omega) S1 _ (fD.one f.1.vr.va)).mono ?_
 rintro _ S2 ⟨t,u,rfl,c⟩;simp -dsimp only[go_sem];exact⟨t,rfl,u,B,e,S1,o.trans f.2.1,c⟩
def wN(S:St)(n p:Nat)(H:aJ)(v:Nat->Nat)(a:fN n H)(m:kX (det n H) p)(d:sn p)(o:lG n p H v)(q:k8 S) :
  cE 25 [aD n n H,.int .i64 p,aV n (fun k=>v k)] S (fun r S'=>∃c g B S1,r=.tup [.sl 1 c 0 n,.int .i64 0]/\ri n p H v B/\eQ S S1/\iE S1 S' c g n n (DG n p H B)):=by
 have h:=a.one;have z:=a.eight;refine jr func25 ntmps25 results25 ?_;simp -dsimp only[go_sem,aa];refine(uQ S n p H v a m d o q).mono ?_;rintro _ S1 ⟨b,c,gb,g,B,S0,rfl,l,e,_,_,_,s,t⟩;simp -dsimp only[go_sem,aa,cK];refine(tJ n n (DG n p H B) h om h om (fun i j u w=>by have:=(l.nbB d).gent a d u w;unfold jS;omega) S1 _ (fD.one s.vr.va)).mono ?_
 rintro _ S2 ⟨x,y,rfl,f⟩;simp -dsimp only[go_sem];exact⟨x,rfl,y,B,l,S1,e.trans t,f⟩

structure jb(S:St)(bp bh:Nat)(gh:Nat->Nat)(bu:Nat)(gu:Nat->Nat)(n m:Nat)(H U:aJ):Prop where
 pair:∃g,S bp=some ⟨183,1,2,g⟩/\g 0=.sl 1 bh 0 n/\g 1=.sl 1 bu 0 m
 h:dA S bh gh n m H
 u:dA S bu gu m m U
 ne:∀i j,i<n->j<m->gh i≠gu j
def dA.stp{S':St}(h:dA S b g n m A)(d:S' b=S b)(e:∀i,i<n->S' (g i)=S (g i)):dA S' b g n m A :=
 ⟨h.outer.via fun X a=>by rw[d];exact a,fun i c=>bJ.via (h.row i c) fun X a=>by rw[e i c];exact a,h.inj⟩
def jb.fresh(h:jb S bp bh gh bu gu n m H U){c:Nat}{X:eE}(j:S c=ab):jb (S.upd c X) bp bh gh bu gu n m H U:=by
 obtain⟨g,f,k,l⟩:=h.pair;obtain⟨r,o,_⟩:=h.h.outer;obtain⟨s,p,_⟩:=h.u.outer;have d:∀b,S b≠ab->(S.upd c X) b=S b:=fun b q=>aN (by rintro rfl;exact q j)
 exact⟨⟨g,by rw[d _ (by rw[f];simp)];exact f,k,l⟩,h.h.stp (d _ (by rw[o];simp)) fun i a=>d _ (by obtain⟨_,e,_⟩:=h.h.row i a;rw[e];simp),h.u.stp (d _ (by rw[p];simp)) fun i a=>d _ (by obtain⟨_,e,_⟩:=h.u.row i a;rw[e];simp),h.ne⟩
def jb.setH(h:jb S bp bh gh bu gu n m H U){i j:Nat}{z:Int}{g':Nat->AV}(b:i<n)(a:S (gh i)=some ⟨50,2,m,g'⟩):jb (S.upd (gh i) ⟨50,2,m,bR g' j (.big z)⟩) bp bh gh bu gu n m (eV H i j z) U:=by
 obtain⟨g,c,d,e⟩:=h.pair;obtain⟨q,f,_⟩:=h.u.outer;have l:bp≠gh i:=by rintro rfl;rw[c]at a;cases a
 have o:bu≠gh i:=by rintro rfl;rw[f]at a;cases a
 exact⟨⟨g,by rw[aN l];exact c,d,e⟩,h.h.set b a,h.u.stp (aN o) fun k p=>aN (aj (h.ne i k b p)),h.ne⟩
def jb.setU(h:jb S bp bh gh bu gu n m H U){i j:Nat}{z:Int}{g':Nat->AV}(b:i<m)(a:S (gu i)=some ⟨50,2,m,g'⟩):jb (S.upd (gu i) ⟨50,2,m,bR g' j (.big z)⟩) bp bh gh bu gu n m H (eV U i j z):=by
 obtain⟨g,c,d,e⟩:=h.pair;obtain⟨q,f,_⟩:=h.h.outer;have l:bp≠gu i:=by rintro rfl;rw[c]at a;cases a
 have o:bh≠gu i:=by rintro rfl;rw[f]at a;cases a
 exact⟨⟨g,by rw[aN l];exact c,d,e⟩,h.h.stp (aN o) fun k p=>aN (h.ne k i p b),h.u.set b a,h.ne⟩
def sw(i:Nat)(A B:aJ):aJ:=fun r c=>if r<i then B r c else A r c
def m9(A B:aJ):sw 0 A B=A:=by funext r c;simp[sw]
def lV(i:Nat)(A B:aJ)(c:Nat):sw i A B i c=A i c:=by simp[sw]
def pi{B:aJ}(h:dA S b g n m (sw n A B)):dA S b g n m B:=h.congr fun r c a _=>by simp[sw,a]
def Ii(i s p:Nat)(q:Int)(A:aJ):eV (sw i A (jZ A s p q)) i s (A i s-q*A i p)=sw (i+1) A (jZ A s p q):=by
 funext r c;simp only[eV,sw,jZ];by_cases a:r=i
 .subst a;by_cases d:c=s<;>simp[d]
 .by_cases b:r<i
  .simp[a,b,(om:r<i+1)]
  .simp[a,b,(om:¬r<i+1)]
def Ij(i s:Nat)(A:aJ):eV (sw i A (lN A s)) i s (- A i s)=sw (i+1) A (lN A s):=by
 funext r c;simp only[eV,sw,lN];by_cases a:r=i
 .subst a;by_cases d:c=s<;>simp[d]
 .by_cases b:r<i
  .simp[a,b,(om:r<i+1)]
  .simp[a,b,(om:¬r<i+1)]
def LJ(i a b:Nat)(d:a≠b)(A:aJ):eV (eV (sw i A (Bc A a b)) i a (A i b)) i b (A i a)=sw (i+1) A (Bc A a b):=by
 funext r c;simp only[eV,sw,Bc,dG];by_cases f:r=i
 .subst f;by_cases g:c=b
  .subst g;simp[aj d]
  .by_cases e:c=a
   .subst e;simp[d]
   .simp[g,e]
 .by_cases e:r<i
  .simp[f,e,(om:r<i+1)]
  .simp[f,e,(om:¬r<i+1)]
def PI(S:St)(bp bh:Nat)(gh:Nat->Nat)(bu:Nat)(gu:Nat->Nat)(n m:Nat)(H U:aJ)(b7:Nat)(q:Int):Prop:=jb S bp bh gh bu gu n m H U/\bJ S b7 50 2 1 (fun _=>.big q)/\(∀i,i<n->gh i≠b7)/\∀i,i<m->gu i≠b7
def oI(S0:St)(bp bh bu n m s p:Nat)(gh gu:Nat->Nat)(H U:aJ)(q:Int)(k:Nat)(hn:n<=8)(hm:m<=9)(x:s<m)(l:p<m)(hk:k<=4000000000)(J:nb q k)(Q:∀i j,i<n->j<m->nb (H i j) k)(R:∀i j,i<m->j<m->nb (U i j) k)(b:jb S0 bp bh gh bu gu n m H U) :
  cE 188 [.ptr 1 bp 0,.int .i64 s,.int .i64 p,.big q] S0 (fun _ S'=>jb S' bp bh gh bu gu n m (jZ H s p q) (jZ U s p q)):=by
 refine ib func188 rfl 92 ntmps188 kr sm ?_
 rw[lg,results188];obtain⟨g,f,o,r⟩:=b.pair;simp -dsimp only[go_sem,aa];refine aG.intro fun t K=>?_;have e:PI (S0.upd t ⟨50,2,1,fun _=>.big q⟩) bp bh gh bu gu n m (sw 0 H (jZ H s p q)) U t q:=by
  rw[m9];exact⟨b.fresh K,bJ.here fun _ _=>rfl,fun i L=>bJ.fresh (b.h.row i L) K,fun i L=>bJ.fresh (b.u.row i L) K⟩
 generalize S0.upd t ⟨50,2,1,fun _=>.big q⟩=S1 at e ⊢;clear f o r b K;obtain⟨g,f,o,r⟩:=e.1.pair;simp -dsimp only[go_sem,f,o];refine aH (fun O S=>∃i:Nat,i<=n/\PI S bp bh gh bu gu n m (sw i H (jZ H s p q)) U t q/\O 0=.ptr 1 bp 0/\O 1=.int .i64 s/\O 2=.int .i64 p/\O 7=.ptr 2 t 0/\O 14=.int .i64 n/\O 15=.int .i64 i) (fun O S=>n-ca (O 15)) ?_ ?_
 .simp -dsimp only[go_sem];exact⟨0,om,e,rfl⟩
 .clear e f o r;rintro O S ⟨i,L,e,v,B,C,D,c,d⟩;obtain⟨b,w,y,A⟩:=id e;obtain⟨g,f,o,r⟩:=b.pair;obtain⟨g7,M,N⟩:=id w;have P:=N 0 om;by_cases a:i<n
  .obtain⟨T,V,W⟩:=b.h.outer;obtain⟨E,F,G⟩:=b.h.row i a;have X:T i=.sl 2 (gh i) 0 m:=W i a;have Y:E s=.big (H i s):=(G s x).trans (by simp only[lV])
   have Z:E p=.big (H i p):=(G p l).trans (by simp only[lV])
   simp -dsimp only[go_sem,aa,v,c,d,a];refine bF 32 kr ?_
   simp -dsimp only[go_sem,aa,v,B,C,D,c,d,a,f,o,V,X,F,Y,Z,x,l,M,P];refine⟨_,(iX J (Q i p a l) om).pure',_,(sO (k:=k+k) ((Q i s a x).mono om) (J.mul (Q i p a l)) om).pure',?_⟩;have I:=b.setH (j:=s) (z:=H i s-q*H i p) a F;rw[Ii]at I;simp -dsimp only[go_sem,aT (om:i<1000000),ca]
   exact⟨⟨i+1,om,⟨I,w.upd (aj (y i a)) _,y,A⟩,rfl⟩,om⟩
  .obtain rfl:i=n:=om
   have e:PI S bp bh gh bu gu i m (jZ H s p q) (sw 0 U (jZ U s p q)) t q:=by
    rw[m9];exact⟨⟨b.pair,pi b.h,b.u,b.ne⟩,w,y,A⟩
   simp -dsimp only[go_sem,aa,v,c,d,a,f,r];refine aH (fun O S=>∃j:Nat,j<=m/\PI S bp bh gh bu gu i m (jZ H s p q) (sw j U (jZ U s p q)) t q/\O 0=.ptr 1 bp 0/\O 1=.int .i64 s/\O 2=.int .i64 p/\O 7=.ptr 2 t 0/\O 55=.int .i64 m/\O 56=.int .i64 j) (fun O S=>m-ca (O 56)) ?_ ?_
   .simp -dsimp only[go_sem,v,B,C,D];exact⟨0,om,e,rfl⟩
   .clear e f o r M N P b y A w v B C D c d a;rintro O S ⟨j,hj,e,v,B,C,D,c,d⟩;obtain⟨b,w,y,A⟩:=id e;obtain⟨g,f,o,r⟩:=b.pair;obtain⟨g7,M,N⟩:=id w;have P:=N 0 om;by_cases a:j<m
    .obtain⟨T,V,W⟩:=b.u.outer;obtain⟨E,F,G⟩:=b.u.row j a;have X:T j=.sl 2 (gu j) 0 m:=W j a;have Y:E s=.big (U j s):=(G s x).trans (by simp only[lV])
     have Z:E p=.big (U j p):=(G p l).trans (by simp only[lV])
     simp -dsimp only[go_sem,c,d,a];refine bF 32 kr ?_
     simp -dsimp only[go_sem,aa,v,B,C,D,c,d,a,f,r,V,X,F,Y,Z,x,l,M,P];refine⟨_,(iX J (R j p a l) om).pure',_,(sO (k:=k+k) ((R j s a x).mono om) (J.mul (R j p a l)) om).pure',?_⟩;have I:=b.setU (j:=s) (z:=U j s-q*U j p) a F;rw[Ii]at I;simp -dsimp only[go_sem,aT (om:j<1000000),ca]
     exact⟨⟨j+1,om,⟨I,w.upd (aj (A j a)) _,y,A⟩,rfl⟩,om⟩
    .obtain rfl:j=m:=om
     simp -dsimp only[go_sem,c,d,a];exact⟨b.pair,b.h,pi b.u,b.ne⟩
def yU(S0:St)(bp bh bu n m s:Nat)(gh gu:Nat->Nat)(H U:aJ)(k:Nat)(G:n<=8)(I:m<=9)(l:s<m)(J:k<=4000000000)(E:∀i j,i<n->j<m->nb (H i j) k)(F:∀i j,i<m->j<m->nb (U i j) k)(b:jb S0 bp bh gh bu gu n m H U) :
  cE 236 [.ptr 1 bp 0,.int .i64 s] S0 (fun _ S'=>jb S' bp bh gh bu gu n m (lN H s) (lN U s)):=by
 refine ib func236 rfl 64 ntmps236 kr sm ?_
 rw[lg,results236];obtain⟨g,e,o,p⟩:=b.pair;simp -dsimp only[go_sem,aa,e,o];refine aH (fun O S=>∃i:Nat,i<=n/\jb S bp bh gh bu gu n m (sw i H (lN H s)) U/\O 0=.ptr 1 bp 0/\O 1=.int .i64 s/\O 10=.int .i64 n/\O 11=.int .i64 i) (fun O S=>n-ca (O 11)) ?_ ?_
 .simp -dsimp only[go_sem];exact⟨0,om,by rw[m9];exact b,rfl⟩
 .clear b e o p;rintro O S ⟨i,K,b,f,q,c,d⟩;obtain⟨g,e,o,p⟩:=b.pair;by_cases a:i<n
  .obtain⟨w,x,y⟩:=b.h.outer;obtain⟨A,r,B⟩:=b.h.row i a;have C:w i=.sl 2 (gh i) 0 m:=y i a;have D:A s=.big (H i s):=(B s l).trans (by simp only[lV])
   simp -dsimp only[go_sem,aa,f,c,d,a];refine bF 20 kr ?_
   simp -dsimp only[go_sem,aa,f,q,c,d,a,e,o,x,C,r,D,l];refine⟨_,(xB (E i s a l) om).pure',?_⟩;have t:=b.setH (j:=s) (z:=- H i s) a r;rw[Ij]at t;simp -dsimp only[go_sem,aT (om:i<1000000),ca]
   exact⟨⟨i+1,om,t,rfl⟩,om⟩
  .obtain rfl:i=n:=om
   have v:jb S bp bh gh bu gu i m (lN H s) (sw 0 U (lN U s)):=by
    rw[m9];exact⟨b.pair,pi b.h,b.u,b.ne⟩
   simp -dsimp only[go_sem,aa,f,c,d,a,e,p];refine aH (fun O S=>∃j:Nat,j<=m/\jb S bp bh gh bu gu i m (lN H s) (sw j U (lN U s))/\O 0=.ptr 1 bp 0/\O 1=.int .i64 s/\O 39=.int .i64 m/\O 40=.int .i64 j) (fun O S=>m-ca (O 40)) ?_ ?_
   .simp -dsimp only[go_sem,f,q];exact⟨0,om,v,rfl⟩
   .clear b v e o p f q c d a;rintro O S ⟨j,L,b,f,q,c,d⟩;obtain⟨g,e,o,p⟩:=b.pair;by_cases a:j<m
    .obtain⟨w,x,y⟩:=b.u.outer;obtain⟨A,r,B⟩:=b.u.row j a;have C:w j=.sl 2 (gu j) 0 m:=y j a;have D:A s=.big (U j s):=(B s l).trans (by simp only[lV])
     simp -dsimp only[go_sem,c,d,a];refine bF 20 kr ?_
     simp -dsimp only[go_sem,aa,f,q,c,d,a,e,p,x,C,r,D,l];refine⟨_,(xB (F j s a l) om).pure',?_⟩;have t:=b.setU (j:=s) (z:=- U j s) a r;rw[Ij]at t;simp -dsimp only[go_sem,aT (om:j<1000000),ca]
     exact⟨⟨j+1,om,t,rfl⟩,om⟩
    .obtain rfl:j=m:=om
     simp -dsimp only[go_sem,c,d,a];exact⟨b.pair,b.h,pi b.u,b.ne⟩
def Cq(S0:St)(bp bh bu n m a b:Nat)(gh gu:Nat->Nat)(H U:aJ)(J:n<=8)(K:m<=9)(A:a<m)(B:b<m)(q:a≠b)(d:jb S0 bp bh gh bu gu n m H U) :
  cE 235 [.ptr 1 bp 0,.int .i64 a,.int .i64 b] S0 (fun _ S'=>jb S' bp bh gh bu gu n m (Bc H a b) (Bc U a b)):=by
 refine ib func235 rfl 102 ntmps235 kr sm ?_
 rw[lg,results235];obtain⟨g,k,o,p⟩:=d.pair;simp -dsimp only[go_sem,aa,k,o];refine aH (fun O S=>∃i:Nat,i<=n/\jb S bp bh gh bu gu n m (sw i H (Bc H a b)) U/\O 0=.ptr 1 bp 0/\O 1=.int .i64 a/\O 2=.int .i64 b/\O 12=.int .i64 n/\O 13=.int .i64 i) (fun O S=>n-ca (O 13)) ?_ ?_
 .simp -dsimp only[go_sem];exact⟨0,om,by rw[m9];exact d,rfl⟩
 .clear d k o p;rintro O S ⟨i,L,d,l,r,s,e,f⟩;obtain⟨g,k,o,p⟩:=d.pair;by_cases c:i<n
  .obtain⟨C,D,E⟩:=d.h.outer;obtain⟨t,v,w⟩:=d.h.row i c;have F:C i=.sl 2 (gh i) 0 m:=E i c;have G:t a=.big (H i a):=(w a A).trans (by simp only[lV])
   have I:t b=.big (H i b):=(w b B).trans (by simp only[lV])
   simp -dsimp only[go_sem,aa,l,e,f,c];refine ip 37 kr ?_
   simp (maxSteps:=3000000) -dsimp only[go_sem,Nat.reduceEqDiff,Nat.reduceLT,↓reduceIte,reduceCtorEq,QK,aa,l,r,s,e,f,c,k,o,D,F,v,G,I,A,B];have x:=(d.setH (j:=a) (z:=H i b) c v).setH (j:=b) (z:=H i a) c ci;rw[LJ i a b q]at x;simp -dsimp only[go_sem,aT (om:i<1000000),ca]
   exact⟨⟨i+1,om,x,rfl⟩,om⟩
  .obtain rfl:i=n:=om
   have y:jb S bp bh gh bu gu i m (Bc H a b) (sw 0 U (Bc U a b)):=by
    rw[m9];exact⟨d.pair,pi d.h,d.u,d.ne⟩
   simp -dsimp only[go_sem,aa,l,e,f,c,k,p];refine aH (fun O S=>∃j:Nat,j<=m/\jb S bp bh gh bu gu i m (Bc H a b) (sw j U (Bc U a b))/\O 0=.ptr 1 bp 0/\O 1=.int .i64 a/\O 2=.int .i64 b/\O 59=.int .i64 m/\O 60=.int .i64 j) (fun O S=>m-ca (O 60)) ?_ ?_
   .simp -dsimp only[go_sem,l,r,s];exact⟨0,om,y,rfl⟩
   .clear d y k o p l r s e f c;rintro O S ⟨j,M,d,l,r,s,e,f⟩;obtain⟨g,k,o,p⟩:=d.pair;by_cases c:j<m
    .obtain⟨C,D,E⟩:=d.u.outer;obtain⟨t,v,w⟩:=d.u.row j c;have F:C j=.sl 2 (gu j) 0 m:=E j c;have G:t a=.big (U j a):=(w a A).trans (by simp only[lV])
     have I:t b=.big (U j b):=(w b B).trans (by simp only[lV])
     simp -dsimp only[go_sem,e,f,c];refine ip 37 kr ?_
     simp (maxSteps:=3000000) -dsimp only[go_sem,Nat.reduceEqDiff,Nat.reduceLT,↓reduceIte,reduceCtorEq,QK,aa,l,r,s,e,f,c,k,p,D,F,v,G,I,A,B];have x:=(d.setU (j:=a) (z:=U j b) c v).setU (j:=b) (z:=U j a) c ci;rw[LJ j a b q]at x;simp -dsimp only[go_sem,aT (om:j<1000000),ca]
     exact⟨⟨j+1,om,x,rfl⟩,om⟩
    .obtain rfl:j=m:=om
     simp -dsimp only[go_sem,e,f,c];exact⟨d.pair,d.h,pi d.u,d.ne⟩

def L7{p:Nat->Prop}(h:∃n,p n):∃n,p n/\∀m,p m->n<=m:=by
 obtain⟨n,c⟩:=h
 induction n using Nat.strongRecOn with
 | _ n ih =>
  by_cases b:∃m,m<n/\p m
  .obtain⟨m,a,d⟩:=b;exact ih m a d
  .exact⟨n,c,fun m h=>by
    rcases aA m n with a|a
    .exact absurd ⟨m,a,h⟩ b
    .exact a⟩
def MS{c:Code}(I:G->Tm->St->Prop)(m:G->Nat)(l:∃g,I g O S)
  (n:∀Q',Q'=Q->∀g O S,I g O S->∀R:Tm->St->Prop,(∀g' O' S',I g' O' S'->m g'<m g->R O' S')->Aw c (AX.seq R Q') O S):Aw (.loop c) Q O S:=by
 classical
 have d:∀O S,(∃g,I g O S)->∃k,(∃g,I g O S/\m g=k)/\∀j,(∃g,I g O S/\m g=j)->k<=j:=fun O S ⟨g,e⟩=>L7 ⟨m g,g,e,rfl⟩;refine aH (fun O S=>∃g,I g O S) (fun O S=>if h:∃g,I g O S then c9 (d O S h)else 0) l ?_
 intro O S i;obtain⟨⟨g,e,o⟩,_⟩:=cS (d O S i);refine n Q rfl g O S e _ ?_;intro g' O' S' b f;have a:∃g,I g O' S':=⟨g',b⟩;refine⟨a,?_⟩;rw[Ti i,Ti a,<-o];exact dR ((cS (d O' S' a)).2 _ ⟨g',b,rfl⟩) f
def pQ(n:Nat)(H U:aJ):aJ:=fun r k=>if r<n then H r k else U (r-n) k
def gI(h:r<n)(k:Nat):pQ n H U r k=H r k:=ai h
def RF{row:Nat}(h:row<n):pQ n (Bc (jZ H c j (H row c/H row j)) c j) (Bc (jZ U c j (H row c/H row j)) c j)=KP (pQ n H U) row c j:=by
 funext r k;simp only[pQ,KP,Bc,jZ,h,aO];split<;>rfl
def Pj:pQ n (lN H c) (lN U c)=lN (pQ n H U) c:=by
 funext r k;simp only[pQ,lN];split<;>rfl
def Pi:pQ n (jZ H s p q) (jZ U s p q)=jZ (pQ n H U) s p q:=by
 funext r k;simp only[pQ,jZ];split<;>rfl
def Bd.hn{K:Nat}(h:Bd (n+m) m K (pQ n H U)){i j:Nat}(b:i<n)(c:j<m):nb (H i j) (K+1):=by
 have d:=h i j om c;rw[gI b]at d;unfold nb;rw[bQ];have:=iq (a:=2) (n:=K) om;omega
def Bd.un{K:Nat}(h:Bd (n+m) m K (pQ n H U)){i j:Nat}(d:i<m)(c:j<m):nb (U i j) (K+1):=by
 have b:=h (n+i) j om c;unfold pQ at b;rw[af om,(om:n+i-n=i)]at b
 unfold nb;rw[bQ];have:=iq (a:=2) (n:=K) om;omega
def GaM(S:St)(bp bh:Nat)(gh:Nat->Nat)(bu:Nat)(gu:Nat->Nat)(n m K b row c j:Nat)(A0:aJ):Prop :=
 ∃H1 U1,jb S bp bh gh bu gu n m H1 U1/\KV n m row c j A0 (pQ n H1 U1)/\Bd (n+m) m K (pQ n H1 U1)/\∀k,c<=k->k<m->(pQ n H1 U1 row k).natAbs<=2^b
def GaR(S:St)(bp bh:Nat)(gh:Nat->Nat)(bu:Nat)(gu:Nat->Nat)(n m K b row c:Nat)(A0:aJ):Prop :=
 ∃H1 U1,jb S bp bh gh bu gu n m H1 U1/\KV n m row c m A0 (pQ n H1 U1)/\Bd (n+m) m K (pQ n H1 U1)/\(H1 row c).natAbs<=2^b/\0<=H1 row c
def Id:decide (a.sign<0)=decide (a<0):=by
 rcases fm a 0 with h|h|h
 .rw[eB h];simp;omega
 .subst h;simp
 .rw[cX h];simp;omega
def yC:(a.sign != 0)=(a != 0):=by
 rcases fm a 0 with h|h|h
 .rw[eB h];simp;omega
 .subst h;simp
 .rw[cX h];simp;omega
def zj(S0:St)(bp bh bu n m K b row c:Nat)(gh gu:Nat->Nat)(A0:aJ)(T:n<=8)(U:m<=9)(a:row<n)(f:c<m)(C:b+1<=536870912)(hK:K+(m-1-c)*(b+4)<=3000000000)(e:GaM S0 bp bh gh bu gu n m K b row c (c+1) A0) :
  cE 187 [.ptr 1 bp 0,.int .i64 row,.int .i64 c] S0 (fun _ S'=>GaR S' bp bh gh bu gu n m (K+(m-1-c)*(b+4)) b row c A0):=by
 refine ib func187 rfl 74 ntmps187 kr sm ?_
 rw[lg,results187];simp -dsimp only[go_sem,aT (om:c<1000000)]
 refine aH (fun O S=>∃j:Nat,(c<j/\j<=m)/\GaM S bp bh gh bu gu n m (K+(j-1-c)*(b+4)) b row c j A0/\O 0=.ptr 1 bp 0/\O 1=.int .i64 row/\O 2=.int .i64 c/\O 6=.int .i64 j) (fun O S=>m-ca (O 6)) ?_ ?_
 .simp -dsimp only[go_sem];exact⟨c+1,om,om,by rw[(om:c+1-1-c=0),pS];exact e,rfl⟩
 .clear e;rintro O S ⟨j,⟨V,hj2⟩,hG,l,o,p,q⟩;obtain⟨H1,U1,e,H,u,I⟩:=id hG;obtain⟨g,z,D,J⟩:=e.pair;have hk1:=aC (b+4) (om:j-1-c<=m-1-c)
  by_cases d:j<m
  .have W:=aC (b+4) (om:j-1-c+1<=m-1-c)
   rw[cQ]at W;simp -dsimp only[go_sem,aa,l,o,p,q,z,J,d];generalize X:(j-1-c)*(b+4)=Kj at *;refine MS (G:=aJ×aJ) (fun x O S'=>jb S' bp bh gh bu gu n m x.1 x.2/\PT n m (n+m) (K+Kj) b row c j A0 (pQ n x.1 x.2)/\O 0=.ptr 1 bp 0/\O 1=.int .i64 row/\O 2=.int .i64 c/\O 6=.int .i64 j) (fun x=>(x.1 row j).natAbs) ?_ ?_
   .refine⟨(H1,U1),e,H.eu u I f om d,?_⟩;simp -dsimp only[go_sem,l,o,p,q]
   .clear e H u I hG z D J l o p q;rintro Q' Y ⟨H2,U2⟩ O S' ⟨e,A,l,o,p,q⟩ R hR;dsimp only at e A hR;obtain⟨g,z,D,J⟩:=e.pair;obtain⟨Z,L,v1⟩:=e.h.outer;obtain⟨M,N,P⟩:=e.h.row row a;have Q:Z row=.sl 2 (gh row) 0 m:=v1 row a;have x2:M c=.big (H2 row c):=P c f;have x3:M j=.big (H2 row j):=P j d;have r:=A.bd;simp -dsimp only[go_sem,aa,l,o,q,z,D,L,Q,N,x3,d,a];refine(jB (r.hn a d) om).call ?_;by_cases t:H2 row j=0
    .have hs:(H2 row j != 0)=false:=by simpa using t
     obtain⟨f1,f2⟩:=A.fin (by rw[gI a];exact t)
     simp -dsimp only[go_sem,yC,hs];rw[Y];simp -dsimp only[go_sem,l,o,p,q,aT (om:j<1000000),ca]
     refine⟨⟨j+1,om,om,⟨H2,U2,e,f1,?_,A.rw⟩,rfl⟩,om⟩
     rw[(om:j+1-1-c=j-1-c+1),cQ,X,(om:K+(Kj+(b+4))=K+Kj+b+4)];exact f2
    .have hs:(H2 row j != 0)=true:=by simpa using t
     simp -dsimp only[go_sem,yC,hs,l,o,q];refine bF 24 kr ?_
     simp -dsimp only[go_sem,aa,l,o,p,q,z,D,L,Q,N,x2,x3,d,a,f];have E:∀k,c<=k->k<m->nb (H2 row k) (b+1):=fun k h1 h2=>by
      have:=A.rw k h1 h2;rw[gI a]at this;exact dR this (jy om om)
     refine⟨_,(nB (E c (ae _) f) (E j om d) C t).pure',?_⟩
     try simp -dsimp only[go_sem]
     have hq:nb (H2 row c/H2 row j) (K+Kj+b+4+1):=nb.of_le (jg ..) (r.hn a f);refine(oI S' bp bh bu n m c j gh gu H2 U2 _ (K+Kj+b+4+1) T U f d om hq (fun i k v w=>r.hn v w) (fun i k v w=>r.un v w) e).mono ?_;intro _ S2 y;simp -dsimp only[go_sem,aa,l,p,q];refine(Cq S2 bp bh bu n m c j gh gu _ _ T U f d om y).mono ?_;intro _ S3 hP3;simp -dsimp only[go_sem];obtain⟨F,B⟩:=A.step V d (by rw[gI a];exact t)
     rw[<-RF a]at F B;rw[gI a,gI a]at B;refine hR (_,_) _ _ ⟨hP3,F,?_⟩ B;simp -dsimp only[go_sem,l,o,p,q]
  .obtain rfl:j=m:=om
   obtain⟨Z,L,v1⟩:=e.h.outer;obtain⟨M,N,P⟩:=e.h.row row a;have Q:Z row=.sl 2 (gh row) 0 j:=v1 row a;have x2:M c=.big (H1 row c):=P c f;simp -dsimp only[go_sem,aa,l,o,p,q,z,D,J,L,Q,N,x2,d,a,f];refine(jB (u.hn a f) om).call ?_;by_cases t:H1 row c<0
   .simp -dsimp only[go_sem,aa,l,o,p,Id,t];refine(yU S bp bh bu n j c gh gu H1 U1 (K+(j-1-c)*(b+4)+1) T U f om (fun i k v w=>u.hn v w) (fun i k v w=>u.un v w) e).mono ?_;intro _ S2 y;simp -dsimp only[go_sem];obtain⟨F,B⟩:=H.neg u f;rw[<-Pj]at F B;have s:=I c (ae _) f;rw[gI a]at s;exact⟨_,_,y,F,B,by simp only[lN,aO];omega,by simp only[lN,aO];omega⟩
   .simp -dsimp only[go_sem,aa,l,o,p,Id,t];have s:=I c (ae _) f;rw[gI a]at s;exact⟨H1,U1,e,H,u,s,om⟩

def FoM(S:St)(bp bh:Nat)(gh:Nat->Nat)(bu:Nat)(gu:Nat->Nat)(n m K i:Nat)(A0:aJ):Prop :=
 ∃H1 U1,jb S bp bh gh bu gu n m H1 U1/\I6 n m (n+m) K i A0 (pQ n H1 U1)
def ReM(S:St)(bp bh:Nat)(gh:Nat->Nat)(bu:Nat)(gu:Nat->Nat)(n m K b i s:Nat)(A0:aJ):Prop :=
 ∃H1 U1,jb S bp bh gh bu gu n m H1 U1/\PM n m (n+m) K b i s A0 (pQ n H1 U1)
def FormQ(S:St)(n m K:Nat)(A0:aJ)(r:AV):Prop:=∃(bh:Nat) (gh:Nat->Nat) (bu:Nat) (H1 U1:aJ),r=.tup [.sl 1 bh 0 n,.sl 1 bu 0 m,.bool true]/\dA S bh gh n m H1/\I6 n m (n+m) K n A0 (pQ n H1 U1)
def PM.bdd{N K i:Nat}{A0:aJ}(h:PM n m N K b i s A0 A):Bd N m (2*K+4) A:=fun r k a c=>by
 have d:=h.bd r k a c;have e:=oM (om:K<=2*K+4)
 split at d<;>omega
def tW(n m K:Nat)(A:aJ)(h1:1<=n)(hn:n<=8)(hnm:n<=m)(hm:m<=9)(hK:gg K m n<=3000000000)(C:∀i,i<n->gg K m i+1<=536870912)(hb:Bd (n+m) m K (pQ n A kd))(hf:∀i,i<n->∃M,M≠0/\eU n m (pQ n A kd) (gk M i)):cE 125 [aQ n m A] St.none (fun r S'=>FormQ S' n m K (pQ n A kd) r):=by
 refine jr func125 ntmps125 results125 ?_;have hK0:K<=3000000000:=bU (IJ (K:=K) (m:=m) (om:0<=n)) hK
 simp -dsimp only[go_sem,aa];refine(oK n m A h1 om om om).call ?_;simp -dsimp only[go_sem,aa];refine(qL m om om _ _ (cI _ _)).mono ?_;rintro r S1 ⟨bu,gu,rfl,hu⟩;simp -dsimp only[go_sem,aa];refine(Dx n m A (K+1) om om om (fun i j D hj=>hb.hn D hj) om _ _ (cI _ _)).mono ?_;rintro r S2 ⟨bh,gh,rfl,P⟩;simp -dsimp only[go_sem,bH,bW,cC,cW];refine aG.intro fun l p=>?_;have Q:FoM (S2.upd l ⟨183,1,2,fun j=>[AV.sl 1 bh 0 n,.sl 1 bu 0 m].getD j .any⟩) l bh gh bu gu n m K 0 (pQ n A kd):=by
  have F:dA S2 bu gu m m kd:=hu.1.ext P.2.1;refine⟨A,kd,⟨⟨_,ci,rfl,rfl⟩,P.1.stp (aN (bJ.fresh P.1.outer p)) fun i D=>aN (bJ.fresh (P.1.row i D) p),F.stp (aN (bJ.fresh F.outer p)) fun i D=>aN (bJ.fresh (F.row i D) p),fun i j D hj e=>?_⟩,I6.init hb⟩;have e1:=P.2.2.2 i D;obtain⟨_,e2,_⟩:=hu.1.row j hj;rw[e,e2]at e1;cases e1
 generalize S2.upd l ⟨183,1,2,fun j=>[AV.sl 1 bh 0 n,.sl 1 bu 0 m].getD j .any⟩=S3 at Q ⊢;clear hu P p;refine aH (fun O S=>∃i:Nat,i<=n/\FoM S l bh gh bu gu n m K i (pQ n A kd)/\O 0=aQ n m A/\O 6=.int .i64 m/\O 10=.ptr 1 l 0/\O 11=.int .i64 i/\O 12=.int .i64 i) (fun O S=>n-ca (O 11)) ?_ ?_
 .simp -dsimp only[go_sem];exact⟨0,om,Q,rfl,rfl⟩
 .clear Q;rintro O S ⟨i,D,Q,x,E,c,d,f⟩;by_cases b:i<n
  .have o:i<m:=om
   obtain⟨H1,U1,q,G⟩:=Q;have hK3:gg K m (i+1)<=3000000000:=bU (IJ b) hK;have H:(if i=0 then 1 else 2)*(gg K m i+(m-1-i)*(gg K m i+4))+4<=gg K m (i+1):=ae _
   have hK4:gg K m i+(m-1-i)*(gg K m i+4)<=3000000000:=by
    have:=H;split at this<;>omega
   simp -dsimp only[go_sem,aa,aQ,x,E,c,d,f,b,o];refine(zj S l bh bu n m (gg K m i) (gg K m i) i i gh gu (pQ n H1 U1) hn hm b o (C i b) hK4 ⟨H1,U1,q,G.ga,G.bd,fun k _ T=>G.bd i k om T⟩).mono ?_;rintro r S' ⟨H2,U2,t,hg,I,U,h0⟩;have hR:=G.re om hg I (by rw[gI b];exact U) b hnm (hf i b) (by rw[gI b];exact h0)
   have u:0<H2 i i:=by have:=(hR.tri i om).2;rwa [gI b]at this
   generalize hKd:gg K m i+(m-1-i)*(gg K m i+4)=Kd at *;obtain⟨g,R,J,p3⟩:=t.pair;obtain⟨g1,u1,v1⟩:=t.h.outer;obtain⟨g2,u2,V⟩:=t.h.row i b;have W:g1 i=.sl 2 (gh i) 0 m:=v1 i b;have X:g2 i=.big (H2 i i):=V i o;simp -dsimp only[go_sem,aa,c,d,f,b,o,R,J,u1,W,u2,X];refine(jB (I.hn b o) om).call ?_;simp -dsimp only[go_sem,aQ,x,E,c,d,f,J,W,X,cX u,show((1:Int)==0)=false from rfl];have y:ReM S' l bh gh bu gu n m Kd (gg K m i) i 0 (pQ n A kd):=⟨H2,U2,t,hR⟩;clear u1 v1 u2 V W X R J p3 t hR u I hg h0 U q G;refine aH (fun O S=>∃s:Nat,s<=i/\ReM S l bh gh bu gu n m Kd (gg K m i) i s (pQ n A kd)/\O 0=aQ n m A/\O 6=.int .i64 m/\O 10=.ptr 1 l 0/\O 11=.int .i64 i/\O 12=.int .i64 i/\O 13=.int .i64 s) (fun O S=>i-ca (O 13)) ?_ ?_
   .simp -dsimp only[go_sem,aQ,x,E,c,d,f];exact⟨0,om,y,rfl⟩
   .clear y x E c d f;rintro O S ⟨s,hs,y,x,E,c,d,f,z⟩;obtain⟨H3,U3,v,w⟩:=id y;have L:=w.bdd;by_cases N:s<i
    .obtain⟨g,R,J,p3⟩:=v.pair;obtain⟨g1,u1,v1⟩:=v.h.outer;obtain⟨g2,u2,V⟩:=v.h.row i b;have B:s<m:=om
     have W:g1 i=.sl 2 (gh i) 0 m:=v1 i b;have X:g2 i=.big (H3 i i):=V i o;have x3:g2 s=.big (H3 i s):=V s B;have u:0<H3 i i:=by have:=(w.tri i om).2;rwa [gI b]at this
     have hq:nb (H3 i s/H3 i i) (2*Kd+4+1):=nb.of_le (jg ..) (L.hn b B);simp -dsimp only[go_sem,aQ,x,E,c,d,f,z,N];refine bF 24 kr ?_
     simp -dsimp only[go_sem,aa,c,d,f,z,b,R,J,u1,W,u2,X,x3,B,o];have Y:∀k,s<=k->k<=i->nb (H3 i k) (gg K m i+1):=fun k h1 h2=>by
      have:=w.rw k h1 h2;rw[gI b]at this;exact dR this (jy om om)
     refine⟨_,(nB (Y s (ae _) om) (Y i om (ae _)) (C i b) om).pure',?_⟩
     try simp -dsimp only[go_sem]
     have hKd2:2*Kd+4<=3000000000:=by
      have:=H;rw[af om]at this;omega
     refine(oI S l bh bu n m s i gh gu H3 U3 _ (2*Kd+4+1) hn hm B o om hq (fun a k ha T=>L.hn ha T) (fun a k ha T=>L.un ha T) v).mono ?_;intro r S4 hP4;have Z:=w.step N o om;rw[gI b,gI b,<-Pi]at Z;simp -dsimp only[go_sem,aQ,x,E,c,d,f,z,aT (om:s<1000000),ca]
     exact⟨⟨s+1,om,⟨_,_,hP4,Z⟩,rfl⟩,om⟩
    .obtain rfl:s=i:=om
     simp -dsimp only[go_sem,aQ,x,E,c,d,f,z,N,aT (om:s<1000000),ca]
     exact⟨⟨s+1,om,⟨H3,U3,v,w.fin H⟩,rfl,rfl⟩,om⟩
  .obtain rfl:i=n:=om
   obtain⟨H1,U1,q,G⟩:=Q;obtain⟨g,R,J,p3⟩:=q.pair;simp -dsimp only[go_sem,aa,aQ,x,c,d,f,b];refine bF 11 kr ?_
   simp -dsimp only[go_sem,aa,c,R,J,p3];exact⟨bh,gh,bu,H1,U1,rfl,q.h,G⟩
def Jm(n m c k:Nat)(H:aJ)(r:n<=8)(s:k<=8000000000)(h:c<m)(l:∀i j,i<n->j<m->nb (H i j) k)(o:∀i,i<n->i<c->H i c=0)(p:c<n->H c c≠0):PF 73 [aQ n m H,.int .i64 c] (.int .i64 ((min c n:Nat):Int)):=by
 refine iQ func73 ntmps73 results73 ?_;simp -dsimp only[go_sem,aQ];refine aH (fun O S=>∃i:Nat,i<=min c n/\O 0=aQ n m H/\O 1=.int .i64 c/\O 7=.int .i64 n/\O 8=.int .i64 i) (fun O S=>n-ca (O 8)) ?_ ?_
 .simp -dsimp only[go_sem,aQ];exact⟨0,om,rfl⟩
 .rintro O S ⟨i,t,b,d,f,g⟩;by_cases a:i<n
  .simp -dsimp only[go_sem,aa,aQ,a8,b,d,f,g,a,h];refine(jB (l i c a h) om).call ?_;by_cases e:i=c
   .subst e;have q:(H i i != 0)=true:=by simpa using p a
    simp -dsimp only[go_sem,aQ,a8,b,d,f,g,yC,q];rw[(om:min i n=i)]
    exact VR.mf rfl
   .simp -dsimp only[go_sem,aQ,a8,b,d,f,g,o i a om,rK,show((0:Int) != 0)=false from rfl,aT (om:i<1000000),ca]
    exact⟨⟨i+1,om,rfl⟩,om⟩
  .simp -dsimp only[go_sem,aa,aQ,b,d,f,g,a];rw[(om:min c n=n)]
   exact VR.mf rfl
def Jr{K:AV->Prop}(a:n<=m)(h:K (.sl 2 b 0 n)):kP 59 (.sl 2 b 0 m) ab (some (.int .i64 n)) ab K:=by
 refine⟨rfl,0,n,?_⟩;simp;exact⟨a,h⟩
structure CutM(S:St)(b:Nat)(g:Nat->Nat)(n m i:Nat)(A:aJ):Prop where
 outer:bJ S b 59 1 n (fun r=>.sl 2 (g r) 0 (if r<i then n else m))
 row:∀r,r<n->bJ S (g r) 50 2 m (fun k=>.big (A r k))
def xH(x:iz):eU n m (pQ n A U) x↔eU n m A x:=by
 have e:∀i,i<n->∀c:iz,az m (fun j=>pQ n A U i j*c j)=az m (fun j=>A i j*c j):=fun i a c=>aF fun j _=>by rw[gI a]
 exact⟨fun⟨c,b⟩=>⟨c,fun i a=>by rw[b i a,e i a]⟩,fun⟨c,b⟩=>⟨c,fun i a=>by rw[b i a,e i a]⟩⟩
def Ht(n K:Nat)(A B:aJ)(h1:1<=n)(T:n<=8)(V:gg K (n+1) n<=3000000000)(q:∀i,i<n->gg K (n+1) i+1<=536870912)(W:Bd (n+(n+1)) (n+1) K (pQ n A kd))(X:∀i,i<n->∃M,M≠0/\eU n (n+1) A (gk M i))
  (hT:wC n n B) (b:∀c j,c<n->j<c->0<=B c j/\B c j<B c c) (Y:∀y,eU n n B y↔eU n (n+1) A y):PF 62 [aQ n (n+1) A] (.tup [aQ n n B,.bool true]):=by
 refine iQ func62 ntmps62 results62 ?_;have G:gg K (n+1) n+1<=8000000000:=om
 simp -dsimp only[go_sem,aa];refine(tW n (n+1) K A h1 T om om V q W fun i d=>by
  obtain⟨M,h,h'⟩:=X i d;exact⟨M,h,(xH _).2 h'⟩).mono ?_
 rintro r S1 ⟨bh,gh,bu,H,U,rfl,l,v⟩;simp -dsimp only[go_sem];have x:wC n n H:=fun r b=>⟨fun j I Z=>by have:=(v.tri r b).1 j I om;rwa [gI b]at this,by have:=(v.tri r b).2;rwa [gI b]at this⟩
 have hz:∀r c,r<n->r<c->c<n+1->H r c=0:=fun r c b I Z=>by have:=(v.tri r b).1 c I Z;rwa [gI b]at this
 have J:∀i j,i<n->j<n->H i j=B i j:=by
  refine BC x hT (fun c j s L=>by have:=v.red c j s L;rwa [gI s,gI s]at this) b fun y=>?_
  rw[Y y,<-xH (A:=A) (U:=kd) y,<-v.cut y];have e:∀i,i<n->∀c:iz,az n (fun j=>pQ n H U i j*c j)=az n (fun j=>H i j*c j):=fun i d c=>aF fun j _=>by rw[gI d]
  exact⟨fun⟨c,s⟩=>⟨c,fun i d=>by rw[s i d,e i d]⟩,fun⟨c,s⟩=>⟨c,fun i d=>by rw[s i d,e i d]⟩⟩
 have N:∀i j,i<n->j<n+1->nb (H i j) (gg K (n+1) n+1):=fun i j d L=>v.bd.hn d L;generalize gg K (n+1) n+1=Kn at *;clear v W X Y b V q;have m:0<n:=om
 refine aH (fun O S=>∃c:Nat,c<=n/\dA S bh gh n (n+1) H/\O 4=.sl 1 bh 0 n/\O 7=.int .i64 c) (fun O S=>n-ca (O 7)) ?_ ?_
 .simp -dsimp only[go_sem];exact⟨0,om,l,rfl⟩
 .clear l;rintro O S ⟨c,s,l,o,p⟩;obtain⟨P,z,C⟩:=id l.outer;obtain⟨g2,u2,v2⟩:=id (l.row 0 m);have w:P 0=.sl 2 (gh 0) 0 (n+1):=C 0 m;have f:c<n+1:=om
  have t:=Jm n (n+1) c Kn H T G f N (fun i d Q=>hz i c d Q f) (fun h=>by have:=(x c h).2;omega)
  by_cases g:c<n
  .simp -dsimp only[go_sem,aa,o,p,z,w,f,m,show((0:Int)<(n:Int)) by omega,jP]
   refine t.spec (fD.mat l (fD.same fD.nil)) ?_;rw[(om:min c n=c)]
   simp -dsimp only[go_sem,o,p,w,g,f,aT (om:c<1000000),ca]
   exact⟨⟨c+1,om,l,rfl⟩,om⟩
  .obtain rfl:c=n:=om
   simp -dsimp only[go_sem,aa,o,p,z,w,f,m,show((0:Int)<(c:Int)) by omega,jP]
   refine t.spec (fD.mat l (fD.same fD.nil)) ?_;rw[(om:min c c=c)]
   simp -dsimp only[go_sem,o,p,w,f,jP,NC,show(((c:Nat):Int)==0)=false by simp;omega]
   have u:CutM S bh gh c (c+1) 0 H:=⟨l.outer.congr fun r _=>by simp,l.row⟩
   have R:∀r,r<c->bh≠gh r:=fun r b=>l.outer_ne b;clear l z C u2 v2 w;refine aH (fun O S=>∃i:Nat,i<=c/\CutM S bh gh c (c+1) i H/\O 4=.sl 1 bh 0 c/\O 7=.int .i64 c/\O 36=.int .i64 c/\O 37=.int .i64 i) (fun O S=>c-ca (O 37)) ?_ ?_
   .simp -dsimp only[go_sem,o,p];exact⟨0,om,u,rfl⟩
   .clear u o p;rintro O S ⟨i,d,u,o,p,D,E⟩;obtain⟨P,z,C⟩:=id u.outer;by_cases g:i<c
    .have w:P i=.sl 2 (gh i) 0 (c+1):=(C i g).trans sm
     obtain⟨g2,u2,v2⟩:=id (u.row i g);simp -dsimp only[go_sem,aa,o,p,D,E,g,z,w,aT (om:i<1000000),ca,gX,dd]
     refine Jr om ?_;simp -dsimp only[go_sem];refine⟨⟨i+1,om,⟨bJ.here fun a F=>?_,fun a F=>bJ.upd (u.row a F) (aj (R a F)) _⟩,rfl⟩,om⟩
     simp only[bR];by_cases e:a=i
     .rw[ai e,e,ai om]
     .rw[af e,C a F];dsimp only;by_cases e2:a<i
      .rw[ai e2,ai om]
      .rw[af e2,af om]
    .obtain rfl:i=c:=om
     simp -dsimp only[go_sem,aa,o,p,D,E,g];refine VR.tup2 (VR.sl (u.outer.congr (g':=fun r=>.sl 2 (gh r) 0 i) fun r b=>by simp[b]) om fun r b=>?_) (VR.mf rfl)
     rw[aB];refine VR.sl ((u.row r b).congr (g':=fun k=>.big (if k<i then B r k else H r k)) fun k _=>by
      by_cases e:k<i
      .simp only[e,aO];rw[J r k b e]
      .simp only[e,aP]) om fun k hk=>?_
     rw[aB,ai hk];exact VR.mf rfl

def Hu(n K:Nat)(A:aJ)(l:1<=n)(m:n<=8)(o:gg K (n+1) n<=3000000000)(d:∀i,i<n->gg K (n+1) i+1<=536870912)(p:Bd (n+(n+1)) (n+1) K (pQ n A kd))(q:∀i,i<n->∃M,M≠0/\eU n (n+1) A (gk M i)) :
  (∃B,wC n n B/\(∀c j,c<n->j<c->0<=B c j/\B c j<B c c)/\∀y,eU n n B y↔eU n (n+1) A y)∨cE 62 [aQ n (n+1) A] St.none (fun _ _=>False):=by
 by_cases k:∃B,wC n n B/\(∀c j,c<n->j<c->0<=B c j/\B c j<B c c)/\∀y,eU n n B y↔eU n (n+1) A y
 .exact bM k
 refine bO (jr func62 ntmps62 results62 ?_);simp -dsimp only[go_sem,aa];refine(tW n (n+1) K A l m om om o d p fun i a=>by
  obtain⟨M,h,h'⟩:=q i a;exact⟨M,h,(xH _).2 h'⟩).mono ?_
 rintro r S1 ⟨bh,gh,bu,H,U,rfl,u,f⟩;refine absurd ⟨H,fun r g=>⟨fun j s v=>?_,?_⟩,fun c j b t=>?_,fun y=>?_⟩ k
 .have:=(f.tri r g).1 j s om;rwa [gI g]at this
 .have:=(f.tri r g).2;rwa [gI g]at this
 .have:=f.red c j b t;rwa [gI b,gI b]at this
 .rw[<-xH (A:=A) (U:=kd) y,<-f.cut y];have e:∀i,i<n->∀c:iz,az n (fun j=>pQ n H U i j*c j)=az n (fun j=>H i j*c j):=fun i a c=>aF fun j _=>by rw[gI a]
  exact⟨fun⟨c,b⟩=>⟨c,fun i a=>by rw[b i a,e i a]⟩,fun⟨c,b⟩=>⟨c,fun i a=>by rw[b i a,e i a]⟩⟩
def IU{a:Nat}(f:sn p)(c:0<a)(j:a<p):(bz a p).1=1:=by
 obtain⟨g,i⟩:=C9 p a p (ae p);have d:=(zG p a p (ae p) (bM c)).1;have b:=jd.2 g;have e:=jd.2 i;rw[fA]at b e;rcases f.1.div e with h|h
 .omega
 .rw[h]at b;have:=AJ c b;omega
def xa(a p:Nat)(k:sn p)(l:0<a)(A:a<p):PF 61 [.int .i64 a,.int .i64 p] (.tup [.int .i64 ((bz a p).2.1%p),.bool true]):=by
 have n:=p6 k;refine iQ func61 ntmps61 results61 ?_;simp -dsimp only[go_sem,aa];refine(JQ a p om om).call ?_;rw[IU k l A];simp -dsimp only[go_sem,show((1:Int) != 1)=false from rfl];refine aH (fun O S=>∃(x y:Nat) (u na b nb:Int),KJ a p x y u b na nb/\O 1=.int .i64 p/\O 6=.int .i64 x/\O 7=.int .i64 y/\O 8=.int .i64 u/\O 9=.int .i64 na) (fun O S=>ca (O 7)) ?_ ?_
 .simp -dsimp only[go_sem];exact⟨a,p,1,0,0,1,KJ.init (bM l),rfl,rfl,rfl,rfl⟩
 .rintro O S ⟨x,y,u,na,b,nb,c,o,r,s,t,v⟩;have B:=c.lx;have C:=c.ly;have D:=c.la;have w:=c.lna;by_cases e:y=0
  .subst e;have E:=c.fin;simp -dsimp only[go_sem,aa,o,r,s,t,v,show(((0:Nat):Int) != 0)=false from rfl];refine(Dp (a:=u) (m:=(p:Int)) om om).call ?_;simp -dsimp only[go_sem];rw[E];exact VR.tup2 (VR.mf rfl) (VR.mf rfl)
  .have z:=c.step e;have f:(((y:Nat):Int) != 0)=true:=by simp;omega
   have d:¬(((y:Nat):Int)=0):=om
   have F:Int.tdiv (x:Int) (y:Int)=((x/y:Nat):Int):=(TM x y).symm;have g:=dq x (gn e);have G:=fX x y;have h:=dv x y;have H:=z.lna;have i:=(pn (q:=((x/y:Nat):Int)) (cJ _) c.ga).1;rw[fA]at i;have I:(((x/y:Nat):Int)*na).natAbs=x/y*na.natAbs:=by rw[cY,fA]
   have J:IntKind.i64.wrap ((x/y:Nat):Int)=((x/y:Nat):Int):=by
    have K:(0:Int)<=((x/y:Nat):Int):=cJ _;have L:((x/y:Nat):Int)<=x:=kg.2 G;generalize ((x/y:Nat):Int)=zz at *;exact i64_in om om
   have j:((x/y:Nat):Int)*(y:Int)=((x:Nat):Int)-((x%y:Nat):Int):=by
    have M:((y*(x/y)+x%y:Nat):Int)=(x:Int):=by rw[h]
    rw[gZ,bL,cR]at M;omega
   have N:IntKind.i64.wrap (((x/y:Nat):Int)*(y:Int))=((x:Nat):Int)-((x%y:Nat):Int):=by rw[j];exact i64_in om om
   have P:IntKind.i64.wrap (((x:Nat):Int)-(((x:Nat):Int)-((x%y:Nat):Int)))=((x%y:Nat):Int):=by
    rw[show((x:Nat):Int)-(((x:Nat):Int)-((x%y:Nat):Int))=((x%y:Nat):Int) by omega];exact i64_in om om
   have Q:IntKind.i64.wrap (((x/y:Nat):Int)*na)=((x/y:Nat):Int)*na:=i64_in om om;have R:IntKind.i64.wrap (u-((x/y:Nat):Int)*na)=u-((x/y:Nat):Int)*na:=i64_in om om;simp -dsimp only[go_sem,aa,o,r,s,t,v,f,d,F,J,N,P,Q,R,ca];exact⟨⟨y,x%y,na,u-((x/y:Nat):Int)*na,nb,_,z,rfl,rfl,rfl,rfl⟩,g⟩
def RK{a:Nat}(b:sn p)(c:0<a)(d:a<p):(p:Int)∣(bz a p).2.1%p*a-1:=by
 have e:=C8 p a p (ae p);rw[IU b c d]at e;have f:=di (bz a p).2.1 p;generalize (bz a p).2.1=u at *;generalize (bz a p).2.2=w at *;refine⟨-(u/p)*a-w,?_⟩;generalize u/(p:Int)=q at *;generalize u%(p:Int)=r at *;subst f
 grind

def Pf{b:Int}(h:a≠b):(lA a b != 0)=true:=by
 unfold lA;split
 .simp
 .split
  .simp
  .exfalso;omega
def Aj(n:Nat)(A:aJ)(u:Nat)(β:Bool)(p:n<=16)(v:∀i j,i<n->j<n->nb (A i j) u)(x:u<=10000000)(hβ:β=true↔∀a b,a<n->b<n->A a b=A b a):PF 116 [aQ n n A] (.bool β):=by
 refine iQ func116 ntmps116 results116 ?_;simp -dsimp only[go_sem,aQ,a8];refine aH (fun O S=>∃i:Nat,i<=n/\(∀a b,a<i->b<a->A a b=A b a)/\O 0=aQ n n A/\O 6=.int .i64 n/\O 7=.int .i64 i) (fun O S=>n-ca (O 7)) ?_ ?_
 .simp -dsimp only[go_sem,aQ,a8];exact⟨0,om,fun a b q p=>om,rfl⟩
 .rintro O S ⟨i,y,g,m,k,l⟩;by_cases c:i<n
  .simp -dsimp only[go_sem,aQ,a8,k,l,c];refine aH (fun O S=>∃j:Nat,j<=i/\(∀b,b<j->A i b=A b i)/\O 0=aQ n n A/\O 3=.int .i64 i/\O 4=.int .i64 j/\O 6=.int .i64 n/\O 7=.int .i64 i) (fun O S=>i-ca (O 4)) ?_ ?_
   .simp -dsimp only[go_sem,aQ,a8,m,k,l];exact⟨0,om,fun b q=>om,rfl⟩
   .rintro O S ⟨j,z,f,m,s,t,k,l⟩;by_cases o:j<i
    .have d:j<n:=om
     simp -dsimp only[go_sem,aQ,a8,m,s,t,k,l,o];refine bF 16 kr ?_
     simp -dsimp only[go_sem,aa,aQ,a8,m,s,t,k,l,c,d];refine⟨_,(pg (v i j c d) (v j i d c) om).pure',?_⟩;by_cases r:A i j=A j i
     .have w:lA (A i j) (A j i)=0:=by rw[r];exact BJ _
      rw[w];simp -dsimp only[go_sem,aT (om:j<1000000),ca]
      refine⟨⟨j+1,om,fun b q=>?_,rfl⟩,om⟩
      by_cases e:b=j
      .rw[e];exact r
      .exact f b om
     .simp -dsimp only[go_sem,Pf r];rw[dW hβ fun h=>r (h i j c d)];exact VR.mf rfl
    .simp -dsimp only[go_sem,aQ,a8,m,s,t,k,l,o,aT (om:i<1000000),ca]
     refine⟨⟨i+1,om,fun a b q p=>?_,rfl⟩,om⟩
     by_cases e:a=i
     .rw[e];exact f b om
     .exact g a b om p
  .simp -dsimp only[go_sem,aQ,a8,k,l,c];rw[hβ.2 fun a b q p=>by
    rcases dN a b with h|h|h
    .exact(g b a om h).symm
    .rw[h]
    .exact g a b om h]
   exact VR.mf rfl
def Fq(n:Nat)(A:aJ)(c:Nat)(d:1<=n)(h:n<=8)(e:∀i j,i<n->j<n->nb (A i j) c)(f:c<=10000000)(g:¬∀a b,a<n->b<n->A a b=A b a):PF 56 [aQ n n A] (.int .i64 4):=by
 refine iQ func56 ntmps56 Tq ?_;simp -dsimp only[go_sem,aa];refine(qQ n A d om).call ?_;simp -dsimp only[go_sem,aa,(om:¬((8:Int)<n))]
 refine(Aj n A c false om e f (by simpa using g)).call ?_
 simp -dsimp only[go_sem,aa];exact VR.mf rfl
def An(n:Nat)(A:aJ)(v:Nat)(β:Bool)(B:1<=n)(G:n<=8)(C:∀i j,i<n->j<n->nb (A i j) v)(H:v<=500000)(hβ:β=true↔jG A n):PF 58 [aQ n n A] (.bool β):=by
 refine iQ func58 ntmps58 results58 ?_;simp -dsimp only[go_sem,aa];refine(r7 n A v B om C om).call ?_;simp -dsimp only[go_sem,aQ];refine aH (fun O S=>∃i:Nat,i<=n/\jG A i/\O 0=aQ n n A/\O 3=a8 n (fun k=>det (k+1) A)/\O 13=.int .i64 n/\O 14=.int .i64 i) (fun O S=>n-ca (O 14)) ?_ ?_
 .simp -dsimp only[go_sem,aQ,a8];exact⟨0,om,⟨fun r D=>om,fun r _ D=>om⟩,rfl⟩
 .rintro O S ⟨i,I,p,g,l,a,c⟩;by_cases d:i<n
  .simp -dsimp only[go_sem,a,c,d];refine aH (fun O S=>∃j:Nat,j<=i/\(∀b,b<j->iu A i b)/\O 0=aQ n n A/\O 3=a8 n (fun k=>det (k+1) A)/\O 5=.int .i64 i/\O 6=.int .i64 j/\O 13=.int .i64 n/\O 14=.int .i64 i) (fun O S=>n-ca (O 6)) ?_ ?_
   .simp -dsimp only[go_sem,g,l,a,c];exact⟨0,om,fun b B=>om,rfl⟩
   .clear g l a c;rintro O S ⟨j,J,o,g,l,q,w,a,c⟩;by_cases m:j<i
    .simp -dsimp only[go_sem,aa,g,l,q,w,a,c,m];refine(Fu n i j A v m d om C om).call ?_;by_cases z:iu A i j
     .have s:decide (2*((kt A i j).natAbs:Int)<=det (j+1) A)=true:=by simpa [iu]using z
      rw[s];simp -dsimp only[go_sem,g,l,q,w,a,c,aT (om:j<1000000),ca]
      refine⟨⟨j+1,om,fun b B=>?_,rfl⟩,om⟩
      by_cases e:b=j
      .rw[e];exact z
      .exact o b om
     .have s:decide (2*((kt A i j).natAbs:Int)<=det (j+1) A)=false:=by simpa [iu]using z
      rw[s];simp -dsimp only[go_sem,g,l,q,w,a,c];rw[dW hβ fun h=>z (h.1 i d j m)];exact VR.mf rfl
    .have E:∀b,b<i->iu A i b:=fun b F=>o b om;have x:(0<i->ij A i)->jG A (i+1):=fun u=>⟨fun r D b F=>by
      by_cases e:r=i
      .subst e;exact E b F
      .exact p.1 r om b F,fun r y D=>by
      by_cases e:r=i
      .subst e;exact u y
      .exact p.2 r y om⟩
     by_cases y:0<i
     .have f:(0:Int)<(i:Int):=om
      simp -dsimp only[go_sem,aa,g,l,q,w,m,f];refine(B4 n i A v y d om C om).call ?_;by_cases u:ij A i
      .have t:decide (3*(det i A*det i A)<=4*(det (i-1) A*det (i+1) A+kt A i (i-1)*kt A i (i-1)))=true:=by simpa [ij]using u
       rw[t];simp -dsimp only[go_sem,g,l,q,a,c,f,aT (om:i<1000000),ca]
       exact⟨⟨i+1,om,x fun _=>u,rfl⟩,om⟩
      .have t:decide (3*(det i A*det i A)<=4*(det (i-1) A*det (i+1) A+kt A i (i-1)*kt A i (i-1)))=false:=by simpa [ij]using u
       rw[t];simp -dsimp only[go_sem,g,l,q,a,c,f];rw[dW hβ fun h=>u (h.2 i y d)];exact VR.mf rfl
     .obtain rfl:i=0:=om
      simp -dsimp only[go_sem,aa,g,l,q,w,a,c,show((0:Nat):Int)=0 from rfl,NC,show IntKind.i64.wrap ((0:Int)+1)=1 from rfl,ca];exact⟨⟨1,om,x (fun h=>om),rfl⟩,by simp;omega⟩
  .obtain rfl:i=n:=om
   simp -dsimp only[go_sem,a,c,d];rw[hβ.2 p];exact VR.mf rfl
def xh(n:Nat)(H:aJ)(β:Bool)(a:1<=n)(p:n<=8)(o:∀i j,i<n->j<n->-9223372036854775808<=H i j/\H i j<=9223372036854775807)(hβ:β=true↔(∀i j,i<n->j<n->H i j=H j i)/\AG H n):PF 21 [aD n n H] (.bool β):=by
 have c:∀i j,i<n->j<n->nb (H i j) 64:=fun i j l m=>by have:=o i j l m;unfold nb;omega
 refine iQ func21 ntmps21 results21 ?_;simp -dsimp only[go_sem,aa];refine(pK _ n n H a om a om (fun i j l m=>by have:=o i j l m;unfold Dn;omega)).mono ?_
 rintro _ S1 ⟨b,g,rfl,d⟩;simp -dsimp only[go_sem,aa];by_cases e:∀i j,i<n->j<n->H i j=H j i
 .obtain⟨β1,hβ1⟩:=nN (∀k,k<=n->0<det k H);refine(nR n H 64 a om c om e β1 hβ1).spec (fD.cons d.vr.va fD.nil) ?_
  cases β1 with
  | false =>
   simp -dsimp only[go_sem,aa];rw[dW hβ fun h=>by have:=hβ1.2 h.2.pos;cases this]
   exact VR.mf rfl
  | true =>
  simp -dsimp only[go_sem,aa];refine(Bk n H 64 a om c om).spec (fD.cons d.vr.va fD.nil) ?_;by_cases f:det n H<=10000
  .rw[show decide (det n H<=10000)=true by simpa using f]
   simp -dsimp only[go_sem,aa];obtain⟨β2,hβ2⟩:=nN (jG H n);refine(An n H 64 β2 a om c om hβ2).spec (fD.cons d.vr.va fD.nil) ?_;simp -dsimp only[go_sem];rw[show β=β2 by
    cases β2 with
    | false=>exact dW hβ fun h=>by have:=hβ2.2 h.2.rows;cases this
    | true=>exact hβ.2 ⟨e,hβ1.1 rfl,f,hβ2.1 rfl⟩]
   exact VR.mf rfl
  .rw[show decide (det n H<=10000)=false by simpa using f]
   simp -dsimp only[go_sem,aa];rw[dW hβ fun h=>f h.2.dt];exact VR.mf rfl
 .refine(Fq n H 64 a om c om e).spec (fD.cons d.vr.va fD.nil) ?_;simp -dsimp only[go_sem,aa];rw[dW hβ fun h=>e h.1];exact VR.mf rfl

end Go.Proofs.YtdobfmlmenaajaaGreatDoor
