/-
  Lemmas for NeighbourForm.
-/
import Derived.Test.YtdobfmlmenaajaaGreatDoorK12
namespace Go.Proofs.YtdobfmlmenaajaaGreatDoor
open Go.RowKit Tryz
open _root_.Classical renaming choose→fN
open _root_.Nat renaming reduceEqDiff→ve
open _root_.Option renaming none→ae
set_option maxHeartbeats 6400000
set_option maxRecDepth 4096
set_option linter.all false
attribute [local go_sem] Nat.reduceAdd Nat.reduceEqDiff Nat.reduceLeDiff Nat.reduceLT reduceCtorEq Int.ofNat_lt decide_true decide_false Int.zero_le_ofNat
attribute [local go_sem ↓] reduceIte
variable{h x y z:AV}{K:AV->St->Prop}{Q:AX->Tm->St->Prop}{β:Bool}{a c p q:Int}{args l':List AV}{N X b bh bp bu es f i j m n r s:Nat}{g g':Nat->AV}{v v':Nat->Int}{gh gu:Nat->Nat}{M:Nat->Prop}{S S':St}{O:Tm}{G:Type}{u:Value}{w:World}{A B H U W:az}{l:gS}
def BD(n m k:Nat)(A:az)(i j:Nat)(b:i<m)(c:j<n)(a:nb (A j i) k)(d:k<=1000000):PF 156 [ι i,ι j,.pat 1 (aL n m A)] (.big (A j i)):=by
 refine gN func156 ntmps156 results156 ?_;simp -dsimp only[go_sem];refine ax.intro fun bc fc=>?_
 try simp -dsimp only[*,go_sem,aL,aY]
 refine(rZ a om).call ?_;simp only[go_sem,aa];exact VR.mf rfl
def nZ(n m k:Nat)(A:az)(f:1<=n)(a:n<=16)(h:1<=m)(c:m<=16)(l:∀i j,i<n->j<m->nb (A i j) k)(o:k<=1000000):CG 94 [aL n m A] m n (fun i j=>A j i):=by
 refine CG.of ?_;refine iZ func94 ntmps94 results94 ?_;simp -dsimp only[go_sem,aa,aL,aY];refine ax.intro fun bc fc=>?_
 try simp -dsimp only[go_sem]
 refine(ld n m A f a h c).call ?_;simp -dsimp only[go_sem,aa];refine(ru m n 156 [.pat 1 (aL n m A)] (fun i j=>A j i) om c a (fun i j d e=>BD n m k A i j d e (l j i e d) o) _ _ (eI.fn1 (eI.one (VA.ptr (cT.new rfl) (VA.refl _ _))))).mono ?_;rintro _ S1 ⟨b,g,rfl,p⟩;simp only[go_sem];exact⟨b,rfl,g,p.1⟩
def cY.appx{t e:Nat}{S0 S3:St}{v:AV}(l:dO t=some e)(m:(fX e).isSome=true)(f:es=cb e)(a:dy S S3)(h:cY e es S0 S x j g)(n:j<1000000)(o:ei es v)
  (p:∃b gb ty,y=.sl es b 0 1/\S3 b=some ⟨ty,es,1,gb⟩/\gb 0=v/\S b=ae)
  (q:∀c S',cY e es S0 S' (.sl es c 0 (j+1)) (j+1) (fun i=>if i=j then v else g i)->(∀d X,S d=some X->¬dU x d->S' d=some X)->(dU x c∨S c=ae)->K (.sl es c 0 (j+1)) S'):gD t t x y S3 K:=by
 obtain⟨b,gb,ty,rfl,r,s,u⟩:=p;have w:cY e es S0 S3 x j g:=h.keep (x:=.nil) (h.1.trans a) (fun d X k _=>a d X k) (fun d _=>by rintro⟨_,_,_,e⟩;cases e)
 refine cY.app l m f w n o (aR ⟨b,gb,ty,rfl,r,s,fun z=>h.fresh u b z rfl⟩) fun c S' A B C=>q c S' A (fun d X k D=>B d X (a d X k) D) (C.imp id fun h=>a.none h)
def pk(S:St)(n p:Nat)(H:az)(v:Nat->Nat)(W:eW n H)(hg:jT (det n H) p)(hp:oW p)(hL:jo n p H v)(hG:lq S) :
  cJ 41 [av n n H,ι p,aK n (fun k=>v k)] S (fun r S'=>∃b c gb g B S1,r=.tup [.sl 1 b 0 n,.sl 1 c 0 n,ι 0]/\tz n p H v B/\dy S S1/\S1 b=ae/\(∀i,i<n->S1 (gb i)=ae)/\dr S' b gb n n B/\dr S' c g n n (kI n p H B)/\dy S1 S'):=by
 have K:=W.one;have hn:=W.eight;have t:=hp.2;have hpp:(p:Int)*p<=99460729/\9<=(p:Int)*p:=by
  rw[<-aX];have a:=bB t.2 t.2;have b:=bB t.1 t.1;omega
 have wpp:ω ((p:Int)*p)=(p:Int)*p:=i64_in om om;refine iZ func41 ntmps41 results41 ?_;simp -dsimp only[go_sem,aa];refine(DV S n p H v W hg hp hL hG).mono ?_;rintro _ S1 ⟨b,gB,B,S0,rfl,hB,hE0,A⟩;have Y:=A.1;have hE1:=hE0.trans A.2.1;simp -dsimp only[go_sem,aa,aP];refine(o0 n n H K om K om (fun i j m o=>by have:=W.ent i j m o;omega) S1 _ (cC _ _)).mono ?_
 rintro _ S2 ⟨bf,gf,rfl,hf⟩;have Z:=Y.ext hf.2.1;have C:∀i j,i<n->j<n->nb (B i j) 27:=fun i j m o=>by have:=hB.ent hp m o;unfold nb;omega
 have hHn:∀i j,i<n->j<n->nb (H i j) 18:=fun i j m o=>W.ent.nb m o;simp -dsimp only[go_sem,aa];refine(nZ n n 27 B K om K om C om S2 _ (eI.one Z.vr.va)).mono ?_;rintro _ S3 ⟨bt,gt,rfl,ht⟩;have hM3:=Z.ext ht.2.1;have hf3:=hf.1.ext ht.2.1;simp -dsimp only[go_sem,aa];refine(pK n n n 27 (fun i j=>B j i) H K om K om K om (fun i j m o=>(C j i o m).mono om) (fun i j m o=>(hHn i j m o).mono om) om S3 _ (eI.two ht.1.vr.va hf3.vr.va)).mono ?_;rintro _ S4 ⟨b1,g1,rfl,D⟩;have hM4:=hM3.ext D.2.1;have hmn:∀i j,i<n->j<n->nb (mm n (fun i j=>B j i) H i j) 53:=fun i j m o=>(qj (f:=fun k=>B k i*H k j) (k:=45) n fun k hk=>(C k i hk m).mul (hHn k j hk o)).mono om;simp -dsimp only[go_sem,aa];refine(pK n n n 53 (mm n (fun i j=>B j i) H) B K om K om K om hmn (fun i j m o=>(C i j m o).mono om) om S4 _ (eI.two D.1.vr.va hM4.vr.va)).mono ?_;rintro _ S5 ⟨bp,gp,rfl,L⟩;have hPn:∀i j,i<n->j<n->nb (mm n (mm n (fun i j=>B j i) H) B i j) 88:=fun i j m o=>(qj (f:=fun k=>mm n (fun i j=>B j i) H i k*B k j) (k:=80) n fun k hk=>(hmn i k m hk).mul (C k j hk o)).mono om;have hent:∀i j,i<n->j<n->(mm n (mm n (fun i j=>B j i) H) B i j/((p:Int)*p)).natAbs<=1120325651456000:=fun i j m o=>by
  have:=(hB.nbB hp).gent W hp m o;unfold kI at this
  rwa [aj ⟨m,o⟩]at this
 have hMb5:=((Y.ext hf.2.1).ext ht.2.1).ext (D.2.1.trans L.2.1);have hdvd:=fun i j (m:i<n) (o:j<n)=>hB.gram W hp m o;have hP5:=L.1;have hE5:dy S0 S5:=(((A.2.1.trans hf.2.1).trans ht.2.1).trans D.2.1).trans L.2.1;generalize hPP:mm n (mm n (fun i j=>B j i) H) B=P at *;clear L D hf ht hf3 hM4 hM3 Z Y hmn;simp -dsimp only[go_sem,aa,wpp];refine(gR (a:=(p:Int)*p) om om).call ?_;simp -dsimp only[go_sem];refine ax.intro fun l f15=>?_;simp only[go_sem,aa];have hV6:cT ((S5.upd l ⟨50,2,1,fun _=>.big 0⟩).upd l ⟨50,2,1,aQ (fun _=>.big 0) 0 (.big ((p:Int)*p))⟩) l 50 2 (.big ((p:Int)*p)):=cT.set;have hE6:dy S5 ((S5.upd l ⟨50,2,1,fun _=>.big 0⟩).upd l ⟨50,2,1,aQ (fun _=>.big 0) 0 (.big ((p:Int)*p))⟩):=((dy.refl S5).upd f15 _).upd f15 _;have hP6:=hP5.ext hE6;refine cA (fun O S=>∃(i:Nat) (x:AV) (g:Nat->Nat),i<=n/\O 6=.sl 1 b 0 n/\O 7=x/\O 15=.ptr 2 l 0/\O 62=.sl 1 bp 0 n/\O 63=ι n/\O 64=ι i /\
  cY 59 1 ((S5.upd l ⟨50,2,1,fun _=>.big 0⟩).upd l ⟨50,2,1,aQ (fun _=>.big 0) 0 (.big ((p:Int)*p))⟩) S x i (fun a=>.sl 2 (g a) 0 n)/\(∀a,a<i->iV S (g a) n (fun j=>P a j/(p*p)))/\∀a c,a<i->c<i->g a=g c->a=c) (fun O S=>n-bS (O 64)) ?_ ?_
 .simp only[go_sem];exact⟨0,om,rfl,fun _=>0,cY.nil (dy.refl _) _,fun a E=>om,fun a c E=>om⟩
 generalize (S5.upd l ⟨50,2,1,fun _=>AV.big 0⟩).upd l ⟨50,2,1,aQ (fun _=>AV.big 0) 0 (AV.big ((p:Int)*p))⟩=S6 at *;rintro Q' hQ' O S ⟨i,x,g,m,e6,e7,M,F,G,I,q,Q,hI⟩;by_cases s:i<n
 .have hP:=hP6.ext q.1;obtain⟨g1,u1,v1⟩:=id hP.outer;have x1:g1 i=.sl 2 (gp i) 0 n:=v1 i s;simp only[go_sem,aa,F,G,I,s,u1,x1];refine cA (fun O S'=>∃(j:Nat) (y:AV),j<=n/\O 6=.sl 1 b 0 n/\O 7=x/\O 15=.ptr 2 l 0/\O 18=y/\O 62=.sl 1 bp 0 n/\O 63=ι n/\O 64=ι i/\O 68=.sl 2 (gp i) 0 n/\O 69=ι n/\O 70=ι j /\
   cY 59 1 S6 S' x i (fun a=>.sl 2 (g a) 0 n)/\(∀a,a<i->iV S' (g a) n (fun j=>P a j/(p*p))/\¬dU y (g a))/\cY 50 2 S6 S' y j (fun c=>.big (P i c/(p*p)))/\∀d,dU x d->¬dU y d) (fun O S=>n-bS (O 70)) ?_ ?_
  .simp only[go_sem,e6,e7,M,F,G,I];exact⟨0,om,rfl,q,fun a E=>⟨Q a E,by rintro⟨_,_,_,e⟩;cases e⟩,cY.nil q.1 _,fun d _=>by rintro⟨_,_,_,e⟩;cases e⟩
  clear e6 e7 M F G I q Q hP u1 v1 x1;rintro Q2 hQ2 O S' ⟨j,y,o,e6,e7,M,e18,F,G,I,e68,e69,e70,q,Q,hY,hXY⟩;by_cases u:j<n
  .have hP:=hP6.ext q.1;obtain⟨g1,u1,v1⟩:=id (hP.row i s);have x1:g1 j=.big (P i j):=v1 j u;have hV:=hV6.ext q.1;have hb1:=hent i j s u;obtain⟨z,hz⟩:=hdvd i j s u;have hq:P i j/((p:Int)*p)=z:=by rw[hz,cj _ om]
   have hzb:z.natAbs<=1120325651456000:=by rw[<-hq];exact hb1
   simp -dsimp only[go_sem,aa,e68,e69,e70,u,u1];refine ax.intro fun b20 f20=>?_;obtain⟨g2,u2,v2⟩:=(id hV.get);have n20:l≠b20:=hV.fresh f20;simp -dsimp only[go_sem,aa,M,x1,n20,u2,v2,dN];refine(Hf (a:=P i j) (b:=(p:Int)*p) (k:=88) (hPn i j s u) (by unfold nb;omega) om om).call ?_
   rw[hq];simp -dsimp only[go_sem];refine ax.intro fun b21 f21=>?_;have n21_20:=(af f21).1
   try simp -dsimp only[go_sem]
   refine ax.intro fun b22 f22=>?_;have n22_21:=(af f22).1;have n22_20:=(af (af f22).2).1
   try simp -dsimp only[go_sem,nn n22_21]
   refine(rl (a:=z) (by unfold iw;omega)).call ?_
   simp -dsimp only[go_sem,aa,e18,ai n22_21,(om:¬(z < -4611686018427387904)),(om:¬((4611686018427387904:Int)<z)),dN]
   refine ax.intro fun b98 w=>?_;have n98_22:=(af w).1;have n98_21:=(af (af w).2).1;have n98_22:=(af (af (af w).2).2).1;have n98_21:=(af (af (af (af w).2).2).2).1;have n98_20:=(af (af (af (af (af w).2).2).2).2).1
   try simp -dsimp only[go_sem,e18]
   have R:S' b21=ae:=by simpa only[aG n21_20]using f21
   have T:S' b22=ae:=by simpa only[aG n22_21,aG n22_20]using f22
   have U:S' b98=ae:=by simpa only[aG n98_22,aG n98_21,aG n98_20]using w
   refine cY.appx rfl rfl rfl ((((((((dy.refl S').upd f20 _).upd f20 _).upd R _).upd T _).upd R _).upd T _).upd U _) hY om (show ei 2 (.big z)from trivial) ⟨_,_,_,rfl,ca,rfl,U⟩ ?_;intro c S2 hY' J N;simp only[*,go_sem,aI (om:j<1000000),bS]
   refine⟨⟨j+1,om,rfl,q.keep hY'.1 J hXY,fun a E=>?_,hY'.congr fun a E=>?_,fun d hd he=>?_⟩,om⟩
   .obtain⟨r1,r2⟩:=Q a E;refine⟨r1.via fun X q=>J _ _ q r2,fun hb=>?_⟩;rw[d9]at hb;rw[<-hb]at N;rcases N with h|h
    .exact r2 h
    .exact a6.fresh r1 h rfl
   .by_cases e:a=j
    .subst e;rw[aj rfl,hq]
    .rw[ah e]
   .rw[d9]at he;subst he;rcases N with h|h
    .exact hXY d hd h
    .exact q.fresh h d hd rfl
  .obtain rfl:j=n:=om
   rcases hY.2 with⟨h0,_⟩|⟨c,_,rfl,hC⟩
   .omega
   simp only[go_sem,aa,e68,e69,e70,u];rw[hQ2];simp -dsimp only[go_sem,e7,e18];refine ax.intro fun b103 V=>?_
   try simp -dsimp only[go_sem,e7]
   refine cY.appx rfl rfl rfl ((dy.refl S').upd V _) q om (show ei 1 (.sl 2 c 0 j)from trivial) ⟨_,_,_,rfl,ca,rfl,V⟩ ?_;intro d S2 hX' J N;have hxc:¬dU x c:=fun h=>hXY c h (d9.2 rfl);simp only[*,go_sem,aI (om:i<1000000),bS]
   refine⟨⟨i+1,om,rfl,fun a=>if a=i then c else g a,hX'.congr fun a E=>by grind,fun a E=>?_,fun a d E hd e=>?_⟩,om⟩
   .by_cases e:a=i
    .subst e;simp only[aE];exact hC.via fun X q=>J _ _ q hxc
    .simp only[e,aH];obtain⟨gg,hgg,hg2⟩:=(Q a om).1;exact⟨gg,J _ _ hgg (q.other hgg om),hg2⟩
   .have k1:=fun a E=>(Q a E).2;simp only[d9]at k1
    grind
 have hin:i=n:=om
 rw[hin]at q Q hI;rcases q.2 with⟨h0,_⟩|⟨c,_,rfl,hC⟩
 .omega
 simp only[go_sem,aa,F,G,I,s];rw[hQ'];simp only[*,go_sem];refine⟨b,c,rfl,gB,g,B,hB,S0,hE0,A.2.2.1,A.2.2.2,hMb5.ext (hE6.trans q.1),dr.congr ⟨hC,Q,hI⟩ fun i j m o=>?_,(hE5.trans hE6).trans q.1⟩;unfold kI;rw[aj ⟨m,o⟩,hPP]
def F6(S:St)(n p:Nat)(H:az)(v:Nat->Nat)(a:eW n H)(m:jT (det n H) p)(d:oW p)(o:jo n p H v)(q:lq S) :
  cJ 25 [av n n H,ι p,aK n (fun k=>v k)] S (fun r S'=>∃c g B S1,r=.tup [.sl 1 c 0 n,ι 0]/\tz n p H v B/\dy S S1/\ib S1 S' c g n n (kI n p H B)):=by
 have h:=a.one;have z:=a.eight;refine iZ func25 ntmps25 results25 ?_;simp -dsimp only[go_sem,aa];refine(pk S n p H v a m d o q).mono ?_;rintro _ S1 ⟨b,c,gb,g,B,S0,rfl,l,e,_,_,_,s,t⟩;simp -dsimp only[go_sem,aa,aP];refine(qv n n (kI n p H B) h om h om (fun i j u w=>by have:=(l.nbB d).gent a d u w;unfold iw;omega) S1 _ (eI.one s.vr.va)).mono ?_
 rintro _ S2 ⟨x,y,rfl,f⟩;simp only[go_sem];exact⟨x,rfl,y,B,l,S1,e.trans t,f⟩

structure jw(S:St)(bp bh:Nat)(gh:Nat->Nat)(bu:Nat)(gu:Nat->Nat)(n m:Nat)(H U:az):Prop where
 pair:∃g,S bp=some ⟨183,1,2,g⟩/\g 0=.sl 1 bh 0 n/\g 1=.sl 1 bu 0 m
 h:dr S bh gh n m H
 u:dr S bu gu m m U
 ne:∀i j,i<n->j<m->gh i≠gu j
def dr.stp{g:Nat->Nat}(h:dr S b g n m A)(d:S' b=S b)(e:∀i,i<n->S' (g i)=S (g i)):dr S' b g n m A :=
 ⟨h.outer.via fun X a=>by rw[d];exact a,fun i c=>a6.via (h.row i c) fun X a=>by rw[e i c];exact a,h.inj⟩
def jw.fresh(h:jw S bp bh gh bu gu n m H U){c:Nat}{X:eo}(f:S c=ae):jw (S.upd c X) bp bh gh bu gu n m H U:=by
 obtain⟨g,e,j,k⟩:=h.pair;obtain⟨q,l,_⟩:=h.h.outer;obtain⟨r,o,_⟩:=h.u.outer;have d:∀b,S b≠ae->(S.upd c X) b=S b:=fun b p=>aG (by rintro rfl;exact p f)
 exact⟨⟨g,by rw[d _ (by rw[e];simp)];exact e,j,k⟩,h.h.stp (d _ (by rw[l];simp)) fun i a=>d _ (by obtain⟨_,s1,_⟩:=h.h.row i a;rw[s1];simp),h.u.stp (d _ (by rw[o];simp)) fun i a=>d _ (by obtain⟨_,s1,_⟩:=h.u.row i a;rw[s1];simp),h.ne⟩
def jw.setH(h:jw S bp bh gh bu gu n m H U){i j:Nat}{z:Int}{g':Nat->AV}(b:i<n)(a:S (gh i)=some ⟨50,2,m,g'⟩):jw (S.upd (gh i) ⟨50,2,m,aQ g' j (.big z)⟩) bp bh gh bu gu n m (dS H i j z) U:=by
 obtain⟨g,c,d,e⟩:=h.pair;obtain⟨q,f,_⟩:=h.u.outer;have l:bp≠gh i:=by rintro rfl;rw[c]at a;cases a
 have o:bu≠gh i:=by rintro rfl;rw[f]at a;cases a
 exact⟨⟨g,by rw[aG l];exact c,d,e⟩,h.h.set b a,h.u.stp (aG o) fun k p=>aG (ai (h.ne i k b p)),h.ne⟩
def jw.setU(h:jw S bp bh gh bu gu n m H U){i j:Nat}{z:Int}{g':Nat->AV}(b:i<m)(a:S (gu i)=some ⟨50,2,m,g'⟩):jw (S.upd (gu i) ⟨50,2,m,aQ g' j (.big z)⟩) bp bh gh bu gu n m H (dS U i j z):=by
 obtain⟨g,c,d,e⟩:=h.pair;obtain⟨q,f,_⟩:=h.h.outer;have l:bp≠gu i:=by rintro rfl;rw[c]at a;cases a
 have o:bh≠gu i:=by rintro rfl;rw[f]at a;cases a
 exact⟨⟨g,by rw[aG l];exact c,d,e⟩,h.h.stp (aG o) fun k p=>aG (h.ne k i p b),h.u.set b a,h.ne⟩
def rd(i:Nat)(A B:az):az:=fun r c=>if r<i then B r c else A r c
def mq(A B:az):rd 0 A B=A:=by funext r c;simp[rd]
def l8(i:Nat)(A B:az)(c:Nat):rd i A B i c=A i c:=by simp[rd]
def og{g:Nat->Nat}(h:dr S b g n m (rd n A B)):dr S b g n m B:=h.congr fun r c a _=>by simp[rd,a]
def IP(i s p:Nat)(q:Int)(A:az):dS (rd i A (kw A s p q)) i s (A i s-q*A i p)=rd (i+1) A (kw A s p q):=by
 funext r c;simp only[dS,rd,kw];by_cases a:r=i
 .subst a;by_cases d:c=s<;>simp[d]
 .by_cases b:r<i
  .simp[a,b,(om:r<i+1)]
  .simp[a,b,(om:¬r<i+1)]
def IR(i s:Nat)(A:az):dS (rd i A (lW A s)) i s (- A i s)=rd (i+1) A (lW A s):=by
 funext r c;simp only[dS,rd,lW];by_cases a:r=i
 .subst a;by_cases d:c=s<;>simp[d]
 .by_cases b:r<i
  .simp[a,b,(om:r<i+1)]
  .simp[a,b,(om:¬r<i+1)]
def LR(i a b:Nat)(d:a≠b)(A:az):dS (dS (rd i A (BY A a b)) i a (A i b)) i b (A i a)=rd (i+1) A (BY A a b):=by
 funext r c;simp only[dS,rd,BY,c8];by_cases f:r=i
 .subst f;by_cases g:c=b
  .subst g;simp[ai d]
  .by_cases e:c=a
   .subst e;simp[d]
   .simp[g,e]
 .by_cases e:r<i
  .simp[f,e,(om:r<i+1)]
  .simp[f,e,(om:¬r<i+1)]
def PE(S:St)(bp bh:Nat)(gh:Nat->Nat)(bu:Nat)(gu:Nat->Nat)(n m:Nat)(H U:az)(b7:Nat)(q:Int):Prop:=jw S bp bh gh bu gu n m H U/\a6 S b7 50 2 1 (fun _=>.big q)/\(∀i,i<n->gh i≠b7)/\∀i,i<m->gu i≠b7
def pe(S0:St)(bp bh bu n m s p:Nat)(gh gu:Nat->Nat)(H U:az)(q:Int)(k:Nat)(hn:n<=8)(hm:m<=9)(w:s<m)(f:p<m)(hk:k<=4000000000)(E:nb q k)(Q:∀i j,i<n->j<m->nb (H i j) k)(R:∀i j,i<m->j<m->nb (U i j) k)(b:jw S0 bp bh gh bu gu n m H U) :
  cJ 188 [.ptr 1 bp 0,ι s,ι p,.big q] S0 (fun _ S'=>jw S' bp bh gh bu gu n m (kw H s p q) (kw U s p q)):=by
 refine fy func188 rfl 92 ntmps188 kr sm ?_
 rw[jZ,results188];obtain⟨g,l,r,t⟩:=b.pair;simp only[go_sem,aa];refine ax.intro fun o F=>?_;have c:PE (S0.upd o ⟨50,2,1,fun _=>.big q⟩) bp bh gh bu gu n m (rd 0 H (kw H s p q)) U o q:=by
  rw[mq];exact⟨b.fresh F,a6.here fun _ _=>rfl,fun i G=>a6.fresh (b.h.row i G) F,fun i G=>a6.fresh (b.u.row i G) F⟩
 generalize S0.upd o ⟨50,2,1,fun _=>.big q⟩=S1 at c ⊢;clear l r t b F;obtain⟨g,l,r,t⟩:=c.1.pair;simp only[*,go_sem];refine aC (fun O S=>∃i:Nat,i<=n/\PE S bp bh gh bu gu n m (rd i H (kw H s p q)) U o q/\O 0=.ptr 1 bp 0/\O 1=ι s/\O 2=ι p/\O 7=.ptr 2 o 0/\O 14=ι n/\O 15=ι i) (fun O S=>n-bS (O 15)) ?_ ?_
 .simp only[go_sem];exact⟨0,om,c,rfl⟩
 .clear c l r t;rintro O S ⟨i,G,c,I,J,K,L,d,e⟩;obtain⟨b,v,x,y⟩:=id c;obtain⟨g,l,r,t⟩:=b.pair;obtain⟨g7,M,N⟩:=id v;have P:=N 0 om;by_cases a:i<n
  .obtain⟨T,V,W⟩:=b.h.outer;obtain⟨A,B,C⟩:=b.h.row i a;have X:T i=.sl 2 (gh i) 0 m:=W i a;have Y:A s=.big (H i s):=(C s w).trans (by simp only[l8])
   have Z:A p=.big (H i p):=(C p f).trans (by simp only[l8])
   simp -dsimp only[*,go_sem,aa];refine aN 32 kr ?_
   simp only[go_sem,aa,I,J,K,L,d,e,a,l,r,V,X,B,Y,Z,w,f,M,P];refine⟨_,(ji E (Q i p a f) om).pure',_,(tQ (k:=k+k) ((Q i s a w).mono om) (E.mul (Q i p a f)) om).pure',?_⟩;have D:=b.setH (j:=s) (z:=H i s-q*H i p) a B;rw[IP]at D;simp only[go_sem,aI (om:i<1000000),bS]
   exact⟨⟨i+1,om,⟨D,v.upd (ai (x i a)) _,x,y⟩,rfl⟩,om⟩
  .obtain rfl:i=n:=om
   have c:PE S bp bh gh bu gu i m (kw H s p q) (rd 0 U (kw U s p q)) o q:=by
    rw[mq];exact⟨⟨b.pair,og b.h,b.u,b.ne⟩,v,x,y⟩
   simp only[*,go_sem,aa];refine aC (fun O S=>∃j:Nat,j<=m/\PE S bp bh gh bu gu i m (kw H s p q) (rd j U (kw U s p q)) o q/\O 0=.ptr 1 bp 0/\O 1=ι s/\O 2=ι p/\O 7=.ptr 2 o 0/\O 55=ι m/\O 56=ι j) (fun O S=>m-bS (O 56)) ?_ ?_
   .simp only[*,go_sem];exact⟨0,om,c,rfl⟩
   .clear c l r t M N P b x y v I J K L d e a;rintro O S ⟨j,hj,c,I,J,K,L,d,e⟩;obtain⟨b,v,x,y⟩:=id c;obtain⟨g,l,r,t⟩:=b.pair;obtain⟨g7,M,N⟩:=id v;have P:=N 0 om;by_cases a:j<m
    .obtain⟨T,V,W⟩:=b.u.outer;obtain⟨A,B,C⟩:=b.u.row j a;have X:T j=.sl 2 (gu j) 0 m:=W j a;have Y:A s=.big (U j s):=(C s w).trans (by simp only[l8])
     have Z:A p=.big (U j p):=(C p f).trans (by simp only[l8])
     simp -dsimp only[*,go_sem];refine aN 32 kr ?_
     simp only[go_sem,aa,I,J,K,L,d,e,a,l,t,V,X,B,Y,Z,w,f,M,P];refine⟨_,(ji E (R j p a f) om).pure',_,(tQ (k:=k+k) ((R j s a w).mono om) (E.mul (R j p a f)) om).pure',?_⟩;have D:=b.setU (j:=s) (z:=U j s-q*U j p) a B;rw[IP]at D;simp only[go_sem,aI (om:j<1000000),bS]
     exact⟨⟨j+1,om,⟨D,v.upd (ai (y j a)) _,x,y⟩,rfl⟩,om⟩
    .obtain rfl:j=m:=om
     simp only[*,go_sem];exact⟨b.pair,b.h,og b.u,b.ne⟩
def zR(S0:St)(bp bh bu n m s:Nat)(gh gu:Nat->Nat)(H U:az)(k:Nat)(G:n<=8)(I:m<=9)(e:s<m)(J:k<=4000000000)(E:∀i j,i<n->j<m->nb (H i j) k)(F:∀i j,i<m->j<m->nb (U i j) k)(b:jw S0 bp bh gh bu gu n m H U) :
  cJ 236 [.ptr 1 bp 0,ι s] S0 (fun _ S'=>jw S' bp bh gh bu gu n m (lW H s) (lW U s)):=by
 refine fy func236 rfl 64 ntmps236 kr sm ?_
 rw[jZ,results236];obtain⟨g,f,l,o⟩:=b.pair;simp only[*,go_sem,aa];refine aC (fun O S=>∃i:Nat,i<=n/\jw S bp bh gh bu gu n m (rd i H (lW H s)) U/\O 0=.ptr 1 bp 0/\O 1=ι s/\O 10=ι n/\O 11=ι i) (fun O S=>n-bS (O 11)) ?_ ?_
 .simp only[go_sem];exact⟨0,om,by rw[mq];exact b,rfl⟩
 .clear b f l o;rintro O S ⟨i,K,b,t,v,c,d⟩;obtain⟨g,f,l,o⟩:=b.pair;by_cases a:i<n
  .obtain⟨w,x,y⟩:=b.h.outer;obtain⟨A,p,B⟩:=b.h.row i a;have C:w i=.sl 2 (gh i) 0 m:=y i a;have D:A s=.big (H i s):=(B s e).trans (by simp only[l8])
   simp -dsimp only[*,go_sem,aa];refine aN 20 kr ?_
   simp only[go_sem,aa,t,v,c,d,a,f,l,x,C,p,D,e];refine⟨_,(yy (E i s a e) om).pure',?_⟩;have q:=b.setH (j:=s) (z:=- H i s) a p;rw[IR]at q;simp only[go_sem,aI (om:i<1000000),bS]
   exact⟨⟨i+1,om,q,rfl⟩,om⟩
  .obtain rfl:i=n:=om
   have r:jw S bp bh gh bu gu i m (lW H s) (rd 0 U (lW U s)):=by
    rw[mq];exact⟨b.pair,og b.h,b.u,b.ne⟩
   simp only[*,go_sem,aa];refine aC (fun O S=>∃j:Nat,j<=m/\jw S bp bh gh bu gu i m (lW H s) (rd j U (lW U s))/\O 0=.ptr 1 bp 0/\O 1=ι s/\O 39=ι m/\O 40=ι j) (fun O S=>m-bS (O 40)) ?_ ?_
   .simp only[*,go_sem];exact⟨0,om,r,rfl⟩
   .clear b r f l o t v c d a;rintro O S ⟨j,L,b,t,v,c,d⟩;obtain⟨g,f,l,o⟩:=b.pair;by_cases a:j<m
    .obtain⟨w,x,y⟩:=b.u.outer;obtain⟨A,p,B⟩:=b.u.row j a;have C:w j=.sl 2 (gu j) 0 m:=y j a;have D:A s=.big (U j s):=(B s e).trans (by simp only[l8])
     simp -dsimp only[*,go_sem];refine aN 20 kr ?_
     simp only[go_sem,aa,t,v,c,d,a,f,o,x,C,p,D,e];refine⟨_,(yy (F j s a e) om).pure',?_⟩;have q:=b.setU (j:=s) (z:=- U j s) a p;rw[IR]at q;simp only[go_sem,aI (om:j<1000000),bS]
     exact⟨⟨j+1,om,q,rfl⟩,om⟩
    .obtain rfl:j=m:=om
     simp only[*,go_sem];exact⟨b.pair,b.h,og b.u,b.ne⟩
def C0(S0:St)(bp bh bu n m a b:Nat)(gh gu:Nat->Nat)(H U:az)(J:n<=8)(K:m<=9)(w:a<m)(x:b<m)(l:a≠b)(d:jw S0 bp bh gh bu gu n m H U) :
  cJ 235 [.ptr 1 bp 0,ι a,ι b] S0 (fun _ S'=>jw S' bp bh gh bu gu n m (BY H a b) (BY U a b)):=by
 refine fy func235 rfl 102 ntmps235 kr sm ?_
 rw[jZ,results235];obtain⟨g,k,o,p⟩:=d.pair;simp only[*,go_sem,aa];refine aC (fun O S=>∃i:Nat,i<=n/\jw S bp bh gh bu gu n m (rd i H (BY H a b)) U/\O 0=.ptr 1 bp 0/\O 1=ι a/\O 2=ι b/\O 12=ι n/\O 13=ι i) (fun O S=>n-bS (O 13)) ?_ ?_
 .simp only[go_sem];exact⟨0,om,by rw[mq];exact d,rfl⟩
 .clear d k o p;rintro O S ⟨i,L,d,y,A,B,e,f⟩;obtain⟨g,k,o,p⟩:=d.pair;by_cases c:i<n
  .obtain⟨C,D,E⟩:=d.h.outer;obtain⟨q,r,s⟩:=d.h.row i c;have F:C i=.sl 2 (gh i) 0 m:=E i c;have G:q a=.big (H i a):=(s a w).trans (by simp only[l8])
   have I:q b=.big (H i b):=(s b x).trans (by simp only[l8])
   simp -dsimp only[*,go_sem,aa];refine fm 37 kr ?_
   simp (maxSteps:=3000000) -dsimp only[go_sem,ve,Nat.reduceLT,↓reduceIte,reduceCtorEq,QA,aa,y,A,B,e,f,c,k,o,D,F,r,G,I,w,x];have t:=(d.setH (j:=a) (z:=H i b) c r).setH (j:=b) (z:=H i a) c ca;rw[LR i a b l]at t;simp only[go_sem,aI (om:i<1000000),bS]
   exact⟨⟨i+1,om,t,rfl⟩,om⟩
  .obtain rfl:i=n:=om
   have v:jw S bp bh gh bu gu i m (BY H a b) (rd 0 U (BY U a b)):=by
    rw[mq];exact⟨d.pair,og d.h,d.u,d.ne⟩
   simp only[*,go_sem,aa];refine aC (fun O S=>∃j:Nat,j<=m/\jw S bp bh gh bu gu i m (BY H a b) (rd j U (BY U a b))/\O 0=.ptr 1 bp 0/\O 1=ι a/\O 2=ι b/\O 59=ι m/\O 60=ι j) (fun O S=>m-bS (O 60)) ?_ ?_
   .simp only[*,go_sem];exact⟨0,om,v,rfl⟩
   .clear d v k o p y A B e f c;rintro O S ⟨j,M,d,y,A,B,e,f⟩;obtain⟨g,k,o,p⟩:=d.pair;by_cases c:j<m
    .obtain⟨C,D,E⟩:=d.u.outer;obtain⟨q,r,s⟩:=d.u.row j c;have F:C j=.sl 2 (gu j) 0 m:=E j c;have G:q a=.big (U j a):=(s a w).trans (by simp only[l8])
     have I:q b=.big (U j b):=(s b x).trans (by simp only[l8])
     simp -dsimp only[*,go_sem];refine fm 37 kr ?_
     simp (maxSteps:=3000000) -dsimp only[go_sem,ve,Nat.reduceLT,↓reduceIte,reduceCtorEq,QA,aa,y,A,B,e,f,c,k,p,D,F,r,G,I,w,x];have t:=(d.setU (j:=a) (z:=U j b) c r).setU (j:=b) (z:=U j a) c ca;rw[LR j a b l]at t;simp only[go_sem,aI (om:j<1000000),bS]
     exact⟨⟨j+1,om,t,rfl⟩,om⟩
    .obtain rfl:j=m:=om
     simp only[*,go_sem];exact⟨d.pair,d.h,og d.u,d.ne⟩

def L9{p:Nat->Prop}(h:∃n,p n):∃n,p n/\∀m,p m->n<=m:=by
 obtain⟨n,c⟩:=h
 induction n using Nat.strongRecOn with
 | _ n ih =>
  by_cases b:∃m,m<n/\p m
  .obtain⟨m,a,d⟩:=b;exact ih m a d
  .exact⟨n,c,fun m h=>by
    rcases aB m n with a|a
    .exact absurd ⟨m,a,h⟩ b
    .exact a⟩
def M0{c:Code}(I:G->Tm->St->Prop)(m:G->Nat)(l:∃g,I g O S)
  (n:∀Q',Q'=Q->∀g O S,I g O S->∀R:Tm->St->Prop,(∀g' O' S',I g' O' S'->m g'<m g->R O' S')->Aw c (AX.seq R Q') O S):Aw (.loop c) Q O S:=by
 classical
 have d:∀O S,(∃g,I g O S)->∃k,(∃g,I g O S/\m g=k)/\∀j,(∃g,I g O S/\m g=j)->k<=j:=fun O S ⟨g,e⟩=>L9 ⟨m g,g,e,rfl⟩;refine aC (fun O S=>∃g,I g O S) (fun O S=>if h:∃g,I g O S then fN (d O S h)else 0) l ?_
 intro O S i;obtain⟨⟨g,e,o⟩,_⟩:=dj (d O S i);refine n Q rfl g O S e _ ?_;intro g' O' S' b f;have a:∃g,I g O' S':=⟨g',b⟩;refine⟨a,?_⟩;rw[SY i,SY a,<-o];exact dG ((dj (d O' S' a)).2 _ ⟨g',b,rfl⟩) f
def qF(n:Nat)(H U:az):az:=fun r k=>if r<n then H r k else U (r-n) k
def gX(h:r<n)(k:Nat):qF n H U r k=H r k:=aj h
def Rt{row c:Nat}(h:row<n):qF n (BY (kw H c j (H row c/H row j)) c j) (BY (kw U c j (H row c/H row j)) c j)=Li (qF n H U) row c j:=by
 funext r k;simp only[qF,Li,BY,kw,h,aE];split<;>rfl
def Pg{c:Nat}:qF n (lW H c) (lW U c)=lW (qF n H U) c:=by
 funext r k;simp only[qF,lW];split<;>rfl
def Pf{p:Nat}:qF n (kw H s p q) (kw U s p q)=kw (qF n H U) s p q:=by
 funext r k;simp only[qF,kw];split<;>rfl
def Bd.hn{K:Nat}(h:Bd (n+m) m K (qF n H U)){i j:Nat}(b:i<n)(c:j<m):nb (H i j) (K+1):=by
 have d:=h i j om c;rw[gX b]at d;unfold nb;rw[bV];have:=iL (a:=2) (n:=K) om;omega
def Bd.un{K:Nat}(h:Bd (n+m) m K (qF n H U)){i j:Nat}(d:i<m)(c:j<m):nb (U i j) (K+1):=by
 have b:=h (n+i) j om c;unfold qF at b;rw[ah om,(om:n+i-n=i)]at b
 unfold nb;rw[bV];have:=iL (a:=2) (n:=K) om;omega
def GaM(S:St)(bp bh:Nat)(gh:Nat->Nat)(bu:Nat)(gu:Nat->Nat)(n m K b row c j:Nat)(A0:az):Prop :=
 ∃H1 U1,jw S bp bh gh bu gu n m H1 U1/\Lp n m row c j A0 (qF n H1 U1)/\Bd (n+m) m K (qF n H1 U1)/\∀k,c<=k->k<m->(qF n H1 U1 row k).natAbs<=2^b
def GaR(S:St)(bp bh:Nat)(gh:Nat->Nat)(bu:Nat)(gu:Nat->Nat)(n m K b row c:Nat)(A0:az):Prop :=
 ∃H1 U1,jw S bp bh gh bu gu n m H1 U1/\Lp n m row c m A0 (qF n H1 U1)/\Bd (n+m) m K (qF n H1 U1)/\(H1 row c).natAbs<=2^b/\0<=H1 row c
def IK:decide (a.sign<0)=decide (a<0):=by
 rcases eM a 0 with h|h|h
 .rw[eE h];simp;omega
 .subst h;simp
 .rw[cW h];simp;omega
def zu:(a.sign != 0)=(a != 0):=by
 rcases eM a 0 with h|h|h
 .rw[eE h];simp;omega
 .subst h;simp
 .rw[cW h];simp;omega
def Ac(S0:St)(bp bh bu n m K b row c:Nat)(gh gu:Nat->Nat)(A0:az)(M:n<=8)(N:m<=9)(a:row<n)(f:c<m)(z:b+1<=536870912)(hK:K+(m-1-c)*(b+4)<=3000000000)(e:GaM S0 bp bh gh bu gu n m K b row c (c+1) A0) :
  cJ 187 [.ptr 1 bp 0,ι row,ι c] S0 (fun _ S'=>GaR S' bp bh gh bu gu n m (K+(m-1-c)*(b+4)) b row c A0):=by
 refine fy func187 rfl 74 ntmps187 kr sm ?_
 rw[jZ,results187];simp only[go_sem,aI (om:c<1000000)]
 refine aC (fun O S=>∃j:Nat,(c<j/\j<=m)/\GaM S bp bh gh bu gu n m (K+(j-1-c)*(b+4)) b row c j A0/\O 0=.ptr 1 bp 0/\O 1=ι row/\O 2=ι c/\O 6=ι j) (fun O S=>m-bS (O 6)) ?_ ?_
 .simp only[go_sem];exact⟨c+1,om,om,by rw[(om:c+1-1-c=0),nE];exact e,rfl⟩
 .clear e;rintro O S ⟨j,⟨P,hj2⟩,hG,u,v,D,A⟩;obtain⟨H1,U1,e,E,p,F⟩:=id hG;obtain⟨g,H,I,p3⟩:=e.pair;have hk1:=aq (b+4) (om:j-1-c<=m-1-c)
  by_cases d:j<m
  .have Q:=aq (b+4) (om:j-1-c+1<=m-1-c)
   rw[cg]at Q;simp only[*,go_sem,aa];generalize T:(j-1-c)*(b+4)=Kj at *;refine M0 (G:=az×az) (fun x O S'=>jw S' bp bh gh bu gu n m x.1 x.2/\PS n m (n+m) (K+Kj) b row c j A0 (qF n x.1 x.2)/\O 0=.ptr 1 bp 0/\O 1=ι row/\O 2=ι c/\O 6=ι j) (fun x=>(x.1 row j).natAbs) ?_ ?_
   .refine⟨(H1,U1),e,E.eu p F f om d,?_⟩;simp only[*,go_sem]
   .clear e E p F hG H I p3 u v D A;rintro Q' U ⟨H2,U2⟩ O S' ⟨e,w,u,v,D,A⟩ R hR;dsimp only at e w hR;obtain⟨g,H,I,p3⟩:=e.pair;obtain⟨V,W,X⟩:=e.h.outer;obtain⟨J,Y,L⟩:=e.h.row row a;have Z:V row=.sl 2 (gh row) 0 m:=X row a;have x2:J c=.big (H2 row c):=L c f;have x3:J j=.big (H2 row j):=L j d;have l:=w.bd;simp -dsimp only[go_sem,aa,u,v,A,H,I,W,Z,Y,x3,d,a];refine(jP (l.hn a d) om).call ?_;by_cases q:H2 row j=0
    .have hs:(H2 row j != 0)=false:=by simpa using q
     obtain⟨f1,f2⟩:=w.fin (by rw[gX a];exact q)
     simp only[go_sem,zu,hs];rw[U];simp only[*,go_sem,aI (om:j<1000000),bS]
     refine⟨⟨j+1,om,om,⟨H2,U2,e,f1,?_,w.rw⟩,rfl⟩,om⟩
     rw[(om:j+1-1-c=j-1-c+1),cg,T,(om:K+(Kj+(b+4))=K+Kj+b+4)];exact f2
    .have hs:(H2 row j != 0)=true:=by simpa using q
     simp -dsimp only[go_sem,zu,hs,u,v,A];refine aN 24 kr ?_
     simp -dsimp only[go_sem,aa,u,v,D,A,H,I,W,Z,Y,x2,x3,d,a,f];have B:∀k,c<=k->k<m->nb (H2 row k) (b+1):=fun k h1 h2=>by
      have:=w.rw k h1 h2;rw[gX a]at this;exact dG this (jL om om)
     refine⟨_,(od (B c (ag _) f) (B j om d) z q).pure',?_⟩
     try simp -dsimp only[go_sem]
     have hq:nb (H2 row c/H2 row j) (K+Kj+b+4+1):=nb.of_le (jD ..) (l.hn a f);refine(pe S' bp bh bu n m c j gh gu H2 U2 _ (K+Kj+b+4+1) M N f d om hq (fun i k r s=>l.hn r s) (fun i k r s=>l.un r s) e).mono ?_;intro _ S2 t;simp -dsimp only[*,go_sem,aa];refine(C0 S2 bp bh bu n m c j gh gu _ _ M N f d om t).mono ?_;intro _ S3 hP3;simp only[go_sem];obtain⟨C,y⟩:=w.step P d (by rw[gX a];exact q)
     rw[<-Rt a]at C y;rw[gX a,gX a]at y;refine hR (_,_) _ _ ⟨hP3,C,?_⟩ y;simp only[*,go_sem]
  .obtain rfl:j=m:=om
   obtain⟨V,W,X⟩:=e.h.outer;obtain⟨J,Y,L⟩:=e.h.row row a;have Z:V row=.sl 2 (gh row) 0 j:=X row a;have x2:J c=.big (H1 row c):=L c f;simp -dsimp only[*,go_sem,aa];refine(jP (p.hn a f) om).call ?_;by_cases q:H1 row c<0
   .simp -dsimp only[go_sem,aa,u,v,D,IK,q];refine(zR S bp bh bu n j c gh gu H1 U1 (K+(j-1-c)*(b+4)+1) M N f om (fun i k r s=>p.hn r s) (fun i k r s=>p.un r s) e).mono ?_;intro _ S2 t;simp only[go_sem];obtain⟨C,y⟩:=E.neg p f;rw[<-Pg]at C y;have o:=F c (ag _) f;rw[gX a]at o;exact⟨_,_,t,C,y,by simp only[lW,aE];omega,by simp only[lW,aE];omega⟩
   .simp only[*,go_sem,aa,IK];have o:=F c (ag _) f;rw[gX a]at o;exact⟨H1,U1,e,E,p,o,om⟩

def FoM(S:St)(bp bh:Nat)(gh:Nat->Nat)(bu:Nat)(gu:Nat->Nat)(n m K i:Nat)(A0:az):Prop :=
 ∃H1 U1,jw S bp bh gh bu gu n m H1 U1/\JD n m (n+m) K i A0 (qF n H1 U1)
def ReM(S:St)(bp bh:Nat)(gh:Nat->Nat)(bu:Nat)(gu:Nat->Nat)(n m K b i s:Nat)(A0:az):Prop :=
 ∃H1 U1,jw S bp bh gh bu gu n m H1 U1/\PI n m (n+m) K b i s A0 (qF n H1 U1)
def FormQ(S:St)(n m K:Nat)(A0:az)(r:AV):Prop:=∃(bh:Nat) (gh:Nat->Nat) (bu:Nat) (H1 U1:az),r=.tup [.sl 1 bh 0 n,.sl 1 bu 0 m,.bool true]/\dr S bh gh n m H1/\JD n m (n+m) K n A0 (qF n H1 U1)
def PI.bdd{K:Nat}{A0:az}(h:PI n m N K b i s A0 A):Bd N m (2*K+4) A:=fun r k a c=>by
 have d:=h.bd r k a c;have e:=pj (om:K<=2*K+4)
 split at d<;>omega
def vE(n m K:Nat)(A:az)(U:1<=n)(hn:n<=8)(V:n<=m)(hm:m<=9)(hK:gg K m n<=3000000000)(v:∀i,i<n->gg K m i+1<=536870912)(hb:Bd (n+m) m K (qF n A jS))(hf:∀i,i<n->∃M,M≠0/\eP n m (qF n A jS) (gH M i)):cJ 125 [aL n m A] St.none (fun r S'=>FormQ S' n m K (qF n A jS) r):=by
 refine iZ func125 ntmps125 results125 ?_;have hK0:K<=3000000000:=bO (Jf (K:=K) (m:=m) (om:0<=n)) hK
 simp -dsimp only[go_sem,aa];refine(mo n m A U om om om).call ?_;simp -dsimp only[go_sem,aa];refine(rM m om om _ _ (cC _ _)).mono ?_;rintro r S1 ⟨bu,gu,rfl,W⟩;simp -dsimp only[go_sem,aa];refine(yS n m A (K+1) om om om (fun i j w X=>hb.hn w X) om _ _ (cC _ _)).mono ?_;rintro r S2 ⟨bh,gh,rfl,E⟩;simp only[go_sem,aS,bF,bZ,ct];refine ax.intro fun c f=>?_;have F:FoM (S2.upd c ⟨183,1,2,fun j=>[AV.sl 1 bh 0 n,.sl 1 bu 0 m].getD j .any⟩) c bh gh bu gu n m K 0 (qF n A jS):=by
  have x:dr S2 bu gu m m jS:=W.1.ext E.2.1;refine⟨A,jS,⟨⟨_,ca,rfl,rfl⟩,E.1.stp (aG (a6.fresh E.1.outer f)) fun i w=>aG (a6.fresh (E.1.row i w) f),x.stp (aG (a6.fresh x.outer f)) fun i w=>aG (a6.fresh (x.row i w) f),fun i j w X e=>?_⟩,JD.init hb⟩;have e1:=E.2.2.2 i w;obtain⟨_,e2,_⟩:=W.1.row j X;rw[e,e2]at e1;cases e1
 generalize S2.upd c ⟨183,1,2,fun j=>[AV.sl 1 bh 0 n,.sl 1 bu 0 m].getD j .any⟩=S3 at F ⊢;clear W E f;refine aC (fun O S=>∃i:Nat,i<=n/\FoM S c bh gh bu gu n m K i (qF n A jS)/\O 0=aL n m A/\O 6=ι m/\O 10=.ptr 1 c 0/\O 11=ι i/\O 12=ι i) (fun O S=>n-bS (O 11)) ?_ ?_
 .simp only[go_sem];exact⟨0,om,F,rfl,rfl⟩
 .clear F;rintro O S ⟨i,w,F,e0,e6,G,H,I⟩;by_cases b:i<n
  .have d:i<m:=om
   obtain⟨H1,U1,l,y⟩:=F;have hK3:gg K m (i+1)<=3000000000:=bO (Jf b) hK;have z:(if i=0 then 1 else 2)*(gg K m i+(m-1-i)*(gg K m i+4))+4<=gg K m (i+1):=ag _
   have Y:gg K m i+(m-1-i)*(gg K m i+4)<=3000000000:=by
    have:=z;split at this<;>omega
   simp -dsimp only[*,go_sem,aa,aL];refine(Ac S c bh bu n m (gg K m i) (gg K m i) i i gh gu (qF n H1 U1) hn hm b d (v i b) Y ⟨H1,U1,l,y.ga,y.bd,fun k _ J=>y.bd i k om J⟩).mono ?_;rintro r S' ⟨H2,U2,o,hg,B,L,h0⟩;have Z:=y.re om hg B (by rw[gX b];exact L) b V (hf i b) (by rw[gX b];exact h0)
   have p:0<H2 i i:=by have:=(Z.tri i om).2;rwa [gX b]at this
   generalize hKd:gg K m i+(m-1-i)*(gg K m i+4)=Kd at *;obtain⟨g,p1,p2,p3⟩:=o.pair;obtain⟨g1,u1,R⟩:=o.h.outer;obtain⟨T,u2,N⟩:=o.h.row i b;have x1:g1 i=.sl 2 (gh i) 0 m:=R i b;have x2:T i=.big (H2 i i):=N i d;simp -dsimp only[*,go_sem,aa];refine(jP (B.hn b d) om).call ?_;simp only[*,go_sem,aL,cW p,show((1:Int)==0)=false from rfl];have u:ReM S' c bh gh bu gu n m Kd (gg K m i) i 0 (qF n A jS):=⟨H2,U2,o,Z⟩;clear u1 R u2 N x1 x2 p1 p2 p3 o Z p B hg h0 L l y;refine aC (fun O S=>∃s:Nat,s<=i/\ReM S c bh gh bu gu n m Kd (gg K m i) i s (qF n A jS)/\O 0=aL n m A/\O 6=ι m/\O 10=.ptr 1 c 0/\O 11=ι i/\O 12=ι i/\O 13=ι s) (fun O S=>i-bS (O 13)) ?_ ?_
   .simp only[*,go_sem,aL];exact⟨0,om,u,rfl⟩
   .clear u e0 e6 G H I;rintro O S ⟨s,hs,u,e0,e6,G,H,I,e13⟩;obtain⟨H3,U3,q,t⟩:=id u;have C:=t.bdd;by_cases hsi:s<i
    .obtain⟨g,p1,p2,p3⟩:=q.pair;obtain⟨g1,u1,R⟩:=q.h.outer;obtain⟨T,u2,N⟩:=q.h.row i b;have D:s<m:=om
     have x1:g1 i=.sl 2 (gh i) 0 m:=R i b;have x2:T i=.big (H3 i i):=N i d;have x3:T s=.big (H3 i s):=N s D;have p:0<H3 i i:=by have:=(t.tri i om).2;rwa [gX b]at this
     have hq:nb (H3 i s/H3 i i) (2*Kd+4+1):=nb.of_le (jD ..) (C.hn b D);simp -dsimp only[*,go_sem,aL];refine aN 24 kr ?_
     simp -dsimp only[*,go_sem,aa];have P:∀k,s<=k->k<=i->nb (H3 i k) (gg K m i+1):=fun k U h2=>by
      have:=t.rw k U h2;rw[gX b]at this;exact dG this (jL om om)
     refine⟨_,(od (P s (ag _) om) (P i om (ag _)) (v i b) om).pure',?_⟩
     try simp -dsimp only[go_sem]
     have hKd2:2*Kd+4<=3000000000:=by
      have:=z;rw[ah om]at this;omega
     refine(pe S c bh bu n m s i gh gu H3 U3 _ (2*Kd+4+1) hn hm D d om hq (fun a k ha J=>C.hn ha J) (fun a k ha J=>C.un ha J) q).mono ?_;intro r S4 hP4;have Q:=t.step hsi d om;rw[gX b,gX b,<-Pf]at Q;simp only[*,go_sem,aL,aI (om:s<1000000),bS]
     exact⟨⟨s+1,om,⟨_,_,hP4,Q⟩,rfl⟩,om⟩
    .obtain rfl:s=i:=om
     simp only[*,go_sem,aL,aI (om:s<1000000),bS]
     exact⟨⟨s+1,om,⟨H3,U3,q,t.fin z⟩,rfl,rfl⟩,om⟩
  .obtain rfl:i=n:=om
   obtain⟨H1,U1,l,y⟩:=F;obtain⟨g,p1,p2,p3⟩:=l.pair;simp -dsimp only[*,go_sem,aa,aL];refine aN 11 kr ?_
   simp only[*,go_sem,aa];exact⟨bh,gh,bu,H1,U1,rfl,l.h,y⟩
def JF(n m c k:Nat)(H:az)(h:n<=8)(l:k<=8000000000)(b:c<m)(d:∀i j,i<n->j<m->nb (H i j) k)(f:∀i,i<n->i<c->H i c=0)(g:c<n->H c c≠0):PF 73 [aL n m H,ι c] (ι ((min c n:Nat):Int)):=by
 refine gN func73 ntmps73 results73 ?_;simp only[go_sem,aL];refine aC (fun O S=>∃i:Nat,i<=min c n/\O 0=aL n m H/\O 1=ι c/\O 7=ι n/\O 8=ι i) (fun O S=>n-bS (O 8)) ?_ ?_
 .simp only[go_sem,aL];exact⟨0,om,rfl⟩
 .rintro O S ⟨i,o,p,q,r,s⟩;by_cases a:i<n
  .simp -dsimp only[*,go_sem,aa,aL,aY];refine(jP (d i c a b) om).call ?_;by_cases e:i=c
   .subst e;have t:(H i i != 0)=true:=by simpa using g a
    simp only[*,go_sem,aL,aY,zu];rw[(om:min i n=i)]
    exact VR.mf rfl
   .simp only[*,go_sem,aL,aY,f i a om,oX,show((0:Int) != 0)=false from rfl,aI (om:i<1000000),bS]
    exact⟨⟨i+1,om,rfl⟩,om⟩
  .simp only[*,go_sem,aa,aL];rw[(om:min c n=n)]
   exact VR.mf rfl
def JM{K:AV->Prop}(a:n<=m)(h:K (.sl 2 b 0 n)):li 59 (.sl 2 b 0 m) ae (some (ι n)) ae K:=by
 refine⟨rfl,0,n,?_⟩;simp;exact⟨a,h⟩
structure CutM(S:St)(b:Nat)(g:Nat->Nat)(n m i:Nat)(A:az):Prop where
 outer:a6 S b 59 1 n (fun r=>.sl 2 (g r) 0 (if r<i then n else m))
 row:∀r,r<n->a6 S (g r) 50 2 m (fun k=>.big (A r k))
def yF(x:gS):eP n m (qF n A U) x↔eP n m A x:=by
 have e:∀i,i<n->∀c:gS,ap m (fun j=>qF n A U i j*c j)=ap m (fun j=>A i j*c j):=fun i a c=>ay fun j _=>by rw[gX a]
 exact⟨fun⟨c,b⟩=>⟨c,fun i a=>by rw[b i a,e i a]⟩,fun⟨c,b⟩=>⟨c,fun i a=>by rw[b i a,e i a]⟩⟩
def Iv(n K:Nat)(A B:az)(h1:1<=n)(T:n<=8)(V:gg K (n+1) n<=3000000000)(l:∀i,i<n->gg K (n+1) i+1<=536870912)(W:Bd (n+(n+1)) (n+1) K (qF n A jS))(X:∀i,i<n->∃M,M≠0/\eP n (n+1) A (gH M i))
  (hT:sM n n B) (b:∀c j,c<n->j<c->0<=B c j/\B c j<B c c) (Y:∀y,eP n n B y↔eP n (n+1) A y):PF 62 [aL n (n+1) A] (.tup [aL n n B,.bool true]):=by
 refine gN func62 ntmps62 results62 ?_;have D:gg K (n+1) n+1<=8000000000:=om
 simp -dsimp only[go_sem,aa];refine(vE n (n+1) K A h1 T om om V l W fun i d=>by
  obtain⟨M,h,h'⟩:=X i d;exact⟨M,h,(yF _).2 h'⟩).mono ?_
 rintro r S1 ⟨bh,gh,bu,H,U,rfl,f,q⟩;simp only[go_sem];have t:sM n n H:=fun r b=>⟨fun j E Z=>by have:=(q.tri r b).1 j E om;rwa [gX b]at this,by have:=(q.tri r b).2;rwa [gX b]at this⟩
 have hz:∀r c,r<n->r<c->c<n+1->H r c=0:=fun r c b E Z=>by have:=(q.tri r b).1 c E Z;rwa [gX b]at this
 have F:∀i j,i<n->j<n->H i j=B i j:=by
  refine Ck t hT (fun c j m G=>by have:=q.red c j m G;rwa [gX m,gX m]at this) b fun y=>?_
  rw[Y y,<-yF (A:=A) (U:=jS) y,<-q.cut y];have e:∀i,i<n->∀c:gS,ap n (fun j=>qF n H U i j*c j)=ap n (fun j=>H i j*c j):=fun i d c=>ay fun j _=>by rw[gX d]
  exact⟨fun⟨c,m⟩=>⟨c,fun i d=>by rw[m i d,e i d]⟩,fun⟨c,m⟩=>⟨c,fun i d=>by rw[m i d,e i d]⟩⟩
 have I:∀i j,i<n->j<n+1->nb (H i j) (gg K (n+1) n+1):=fun i j d G=>q.bd.hn d G;generalize gg K (n+1) n+1=Kn at *;clear q W X Y b V l;have u:0<n:=om
 refine aC (fun O S=>∃c:Nat,c<=n/\dr S bh gh n (n+1) H/\O 4=.sl 1 bh 0 n/\O 7=ι c) (fun O S=>n-bS (O 7)) ?_ ?_
 .simp only[go_sem];exact⟨0,om,f,rfl⟩
 .clear f;rintro O S ⟨c,m,f,w,x⟩;obtain⟨J,L,v⟩:=id f.outer;obtain⟨g2,u2,v2⟩:=id (f.row 0 u);have z:J 0=.sl 2 (gh 0) 0 (n+1):=v 0 u;have s:c<n+1:=om
  have o:=JF n (n+1) c Kn H T D s I (fun i d N=>hz i c d N s) (fun h=>by have:=(t c h).2;omega)
  by_cases g:c<n
  .simp -dsimp only[*,go_sem,aa,show((0:Int)<(n:Int)) by omega,ie]
   refine o.spec (eI.mat f (eI.same eI.nil)) ?_;rw[(om:min c n=c)]
   simp only[go_sem,w,x,z,g,s,aI (om:c<1000000),bS]
   exact⟨⟨c+1,om,f,rfl⟩,om⟩
  .obtain rfl:c=n:=om
   simp -dsimp only[*,go_sem,aa,show((0:Int)<(c:Int)) by omega,ie]
   refine o.spec (eI.mat f (eI.same eI.nil)) ?_;rw[(om:min c c=c)]
   simp only[*,go_sem,ie,NJ,show(((c:Nat):Int)==0)=false by simp;omega]
   have p:CutM S bh gh c (c+1) 0 H:=⟨f.outer.congr fun r _=>by simp,f.row⟩
   have P:∀r,r<c->bh≠gh r:=fun r b=>f.outer_ne b;clear f L v u2 v2 z;refine aC (fun O S=>∃i:Nat,i<=c/\CutM S bh gh c (c+1) i H/\O 4=.sl 1 bh 0 c/\O 7=ι c/\O 36=ι c/\O 37=ι i) (fun O S=>c-bS (O 37)) ?_ ?_
   .simp only[*,go_sem];exact⟨0,om,p,rfl⟩
   .clear p w x;rintro O S ⟨i,d,p,w,x,Q,R⟩;obtain⟨J,L,v⟩:=id p.outer;by_cases g:i<c
    .have z:J i=.sl 2 (gh i) 0 (c+1):=(v i g).trans sm
     obtain⟨g2,u2,v2⟩:=id (p.row i g);simp only[go_sem,aa,w,x,Q,R,g,L,z,aI (om:i<1000000),bS,gF,du]
     refine JM om ?_;simp only[go_sem];refine⟨⟨i+1,om,⟨a6.here fun a C=>?_,fun a C=>a6.upd (p.row a C) (ai (P a C)) _⟩,rfl⟩,om⟩
     simp only[aQ];by_cases e:a=i
     .rw[aj e,e,aj om]
     .rw[ah e,v a C];dsimp only;by_cases e2:a<i
      .rw[aj e2,aj om]
      .rw[ah e2,ah om]
    .obtain rfl:i=c:=om
     simp only[*,go_sem,aa];refine VR.tup2 (VR.sl (p.outer.congr (g':=fun r=>.sl 2 (gh r) 0 i) fun r b=>by simp[b]) om fun r b=>?_) (VR.mf rfl)
     rw[aJ];refine VR.sl ((p.row r b).congr (g':=fun k=>.big (if k<i then B r k else H r k)) fun k _=>by
      by_cases e:k<i
      .simp only[e,aE];rw[F r k b e]
      .simp only[e,aH]) om fun k hk=>?_
     rw[aJ,aj hk];exact VR.mf rfl

def Iw(n K:Nat)(A:az)(l:1<=n)(m:n<=8)(o:gg K (n+1) n<=3000000000)(d:∀i,i<n->gg K (n+1) i+1<=536870912)(p:Bd (n+(n+1)) (n+1) K (qF n A jS))(q:∀i,i<n->∃M,M≠0/\eP n (n+1) A (gH M i)) :
  (∃B,sM n n B/\(∀c j,c<n->j<c->0<=B c j/\B c j<B c c)/\∀y,eP n n B y↔eP n (n+1) A y)∨cJ 62 [aL n (n+1) A] St.none (fun _ _=>False):=by
 by_cases k:∃B,sM n n B/\(∀c j,c<n->j<c->0<=B c j/\B c j<B c c)/\∀y,eP n n B y↔eP n (n+1) A y
 .exact a9 k
 refine aR (iZ func62 ntmps62 results62 ?_);simp -dsimp only[go_sem,aa];refine(vE n (n+1) K A l m om om o d p fun i a=>by
  obtain⟨M,h,h'⟩:=q i a;exact⟨M,h,(yF _).2 h'⟩).mono ?_
 rintro r S1 ⟨bh,gh,bu,H,U,rfl,u,f⟩;refine absurd ⟨H,fun r g=>⟨fun j s v=>?_,?_⟩,fun c j b t=>?_,fun y=>?_⟩ k
 .have:=(f.tri r g).1 j s om;rwa [gX g]at this
 .have:=(f.tri r g).2;rwa [gX g]at this
 .have:=f.red c j b t;rwa [gX b,gX b]at this
 .rw[<-yF (A:=A) (U:=jS) y,<-f.cut y];have e:∀i,i<n->∀c:gS,ap n (fun j=>qF n H U i j*c j)=ap n (fun j=>H i j*c j):=fun i a c=>ay fun j _=>by rw[gX a]
  exact⟨fun⟨c,b⟩=>⟨c,fun i a=>by rw[b i a,e i a]⟩,fun⟨c,b⟩=>⟨c,fun i a=>by rw[b i a,e i a]⟩⟩
def Jp{a p:Nat}(f:oW p)(c:0<a)(j:a<p):(bz a p).1=1:=by
 obtain⟨g,i⟩:=DS p a p (ag p);have d:=(Ax p a p (ag p) (a9 c)).1;have b:=jy.2 g;have e:=jy.2 i;rw[fE]at b e;rcases f.1.div e with h|h
 .omega
 .rw[h]at b;have:=BI c b;omega
def yl(a p:Nat)(k:oW p)(l:0<a)(A:a<p):PF 61 [ι a,ι p] (.tup [ι ((bz a p).2.1%p),.bool true]):=by
 have n:=p6 k;refine gN func61 ntmps61 results61 ?_;simp -dsimp only[go_sem,aa];refine(Ke a p om om).call ?_;rw[Jp k l A];simp only[go_sem,show((1:Int) != 1)=false from rfl];refine aC (fun O S=>∃(x y:Nat) (u na b nb:Int),Le a p x y u b na nb/\O 1=ι p/\O 6=ι x/\O 7=ι y/\O 8=ι u/\O 9=ι na) (fun O S=>bS (O 7)) ?_ ?_
 .simp only[go_sem];exact⟨a,p,1,0,0,1,Le.init (a9 l),rfl,rfl,rfl,rfl⟩
 .rintro O S ⟨x,y,u,na,b,nb,c,o,r,s,t,v⟩;have B:=c.lx;have C:=c.ly;have D:=c.la;have w:=c.lna;by_cases e:y=0
  .subst e;have E:=c.fin;simp -dsimp only[go_sem,aa,o,r,s,t,v,show(((0:Nat):Int) != 0)=false from rfl];refine(Ed (a:=u) (m:=(p:Int)) om om).call ?_;simp only[go_sem];rw[E];exact VR.tup2 (VR.mf rfl) (VR.mf rfl)
  .have z:=c.step e;have f:(((y:Nat):Int) != 0)=true:=by simp;omega
   have d:¬(((y:Nat):Int)=0):=om
   have F:Int.tdiv (x:Int) (y:Int)=((x/y:Nat):Int):=(TB x y).symm;have g:=di x (gK e);have G:=gG x y;have h:=cV x y;have H:=z.lna;have i:=(qk (q:=((x/y:Nat):Int)) (cM _) c.ga).1;rw[fE]at i;have I:(((x/y:Nat):Int)*na).natAbs=x/y*na.natAbs:=by rw[cN,fE]
   have J:ω ((x/y:Nat):Int)=((x/y:Nat):Int):=by
    have K:(0:Int)<=((x/y:Nat):Int):=cM _;have L:((x/y:Nat):Int)<=x:=kG.2 G;generalize ((x/y:Nat):Int)=zz at *;exact i64_in om om
   have j:((x/y:Nat):Int)*(y:Int)=((x:Nat):Int)-((x%y:Nat):Int):=by
    have M:((y*(x/y)+x%y:Nat):Int)=(x:Int):=by rw[h]
    rw[eD,aX,bU]at M;omega
   have N:ω (((x/y:Nat):Int)*(y:Int))=((x:Nat):Int)-((x%y:Nat):Int):=by rw[j];exact i64_in om om
   have P:ω (((x:Nat):Int)-(((x:Nat):Int)-((x%y:Nat):Int)))=((x%y:Nat):Int):=by
    rw[show((x:Nat):Int)-(((x:Nat):Int)-((x%y:Nat):Int))=((x%y:Nat):Int) by omega];exact i64_in om om
   have Q:ω (((x/y:Nat):Int)*na)=((x/y:Nat):Int)*na:=i64_in om om;have R:ω (u-((x/y:Nat):Int)*na)=u-((x/y:Nat):Int)*na:=i64_in om om;simp only[go_sem,aa,o,r,s,t,v,f,d,F,J,N,P,Q,R,bS];exact⟨⟨y,x%y,na,u-((x/y:Nat):Int)*na,nb,_,z,rfl,rfl,rfl,rfl⟩,g⟩
def Rx{a p:Nat}(b:oW p)(c:0<a)(d:a<p):(p:Int)∣(bz a p).2.1%p*a-1:=by
 have e:=DR p a p (ag p);rw[Jp b c d]at e;have f:=dx (bz a p).2.1 p;generalize (bz a p).2.1=u at *;generalize (bz a p).2.2=w at *;refine⟨-(u/p)*a-w,?_⟩;generalize u/(p:Int)=q at *;generalize u%(p:Int)=r at *;subst f
 grind

def DQ{b:Int}(h:a≠b):(jU a b != 0)=true:=by
 unfold jU;split
 .simp
 .split
  .simp
  .exfalso;omega
def Bi(n:Nat)(A:az)(o:Nat)(β:Bool)(k:n<=16)(p:∀i j,i<n->j<n->nb (A i j) o)(v:o<=10000000)(hβ:β=true↔∀a b,a<n->b<n->A a b=A b a):PF 116 [aL n n A] (.bool β):=by
 refine gN func116 ntmps116 results116 ?_;simp only[go_sem,aL,aY];refine aC (fun O S=>∃i:Nat,i<=n/\(∀a b,a<i->b<a->A a b=A b a)/\O 0=aL n n A/\O 6=ι n/\O 7=ι i) (fun O S=>n-bS (O 7)) ?_ ?_
 .simp only[go_sem,aL,aY];exact⟨0,om,fun a b l k=>om,rfl⟩
 .rintro O S ⟨i,w,d,q,r,s⟩;by_cases f:i<n
  .simp only[*,go_sem,aL,aY];refine aC (fun O S=>∃j:Nat,j<=i/\(∀b,b<j->A i b=A b i)/\O 0=aL n n A/\O 3=ι i/\O 4=ι j/\O 6=ι n/\O 7=ι i) (fun O S=>i-bS (O 4)) ?_ ?_
   .simp only[*,go_sem,aL,aY];exact⟨0,om,fun b l=>om,rfl⟩
   .rintro O S ⟨j,x,c,q,y,z,r,s⟩;by_cases t:j<i
    .have g:j<n:=om
     simp -dsimp only[*,go_sem,aL,aY];refine aN 16 kr ?_
     simp only[*,go_sem,aa,aL,aY];refine⟨_,(mW (p i j f g) (p j i g f) om).pure',?_⟩;by_cases m:A i j=A j i
     .have u:jU (A i j) (A j i)=0:=by rw[m];exact ny _
      rw[u];simp only[go_sem,aI (om:j<1000000),bS]
      refine⟨⟨j+1,om,fun b l=>?_,rfl⟩,om⟩
      by_cases e:b=j
      .rw[e];exact m
      .exact c b om
     .simp only[go_sem,DQ m];rw[cP hβ fun h=>m (h i j f g)];exact VR.mf rfl
    .simp only[*,go_sem,aL,aY,aI (om:i<1000000),bS]
     refine⟨⟨i+1,om,fun a b l k=>?_,rfl⟩,om⟩
     by_cases e:a=i
     .rw[e];exact c b om
     .exact d a b om k
  .simp only[*,go_sem,aL,aY];rw[hβ.2 fun a b l k=>by
    rcases dp a b with h|h|h
    .exact(d b a om h).symm
    .rw[h]
    .exact d a b om h]
   exact VR.mf rfl
def FU(n:Nat)(A:az)(c:Nat)(d:1<=n)(h:n<=8)(e:∀i j,i<n->j<n->nb (A i j) c)(f:c<=10000000)(g:¬∀a b,a<n->b<n->A a b=A b a):PF 56 [aL n n A] (ι 4):=by
 refine gN func56 ntmps56 Tf ?_;simp -dsimp only[go_sem,aa];refine(pg n A d om).call ?_;simp -dsimp only[go_sem,aa,(om:¬((8:Int)<n))]
 refine(Bi n A c false om e f (by simpa using g)).call ?_
 simp only[go_sem,aa];exact VR.mf rfl
def Bl(n:Nat)(A:az)(m:Nat)(β:Bool)(v:1<=n)(E:n<=8)(w:∀i j,i<n->j<n->nb (A i j) m)(F:m<=500000)(hβ:β=true↔jt A n):PF 58 [aL n n A] (.bool β):=by
 refine gN func58 ntmps58 results58 ?_;simp -dsimp only[go_sem,aa];refine(sZ n A m v om w om).call ?_;simp only[go_sem,aL];refine aC (fun O S=>∃i:Nat,i<=n/\jt A i/\O 0=aL n n A/\O 3=aY n (fun k=>det (k+1) A)/\O 13=ι n/\O 14=ι i) (fun O S=>n-bS (O 14)) ?_ ?_
 .simp only[go_sem,aL,aY];exact⟨0,om,⟨fun r x=>om,fun r _ x=>om⟩,rfl⟩
 .rintro O S ⟨i,G,d,B,C,o,p⟩;by_cases a:i<n
  .simp only[*,go_sem];refine aC (fun O S=>∃j:Nat,j<=i/\(∀b,b<j->gI A i b)/\O 0=aL n n A/\O 3=aY n (fun k=>det (k+1) A)/\O 5=ι i/\O 6=ι j/\O 13=ι n/\O 14=ι i) (fun O S=>n-bS (O 6)) ?_ ?_
   .simp only[*,go_sem];exact⟨0,om,fun b v=>om,rfl⟩
   .clear B C o p;rintro O S ⟨j,H,c,B,C,I,J,o,p⟩;by_cases q:j<i
    .simp -dsimp only[*,go_sem,aa];refine(FY n i j A m q a om w om).call ?_;by_cases u:gI A i j
     .have f:decide (2*((eZ A i j).natAbs:Int)<=det (j+1) A)=true:=by simpa [gI]using u
      rw[f];simp only[*,go_sem,aI (om:j<1000000),bS]
      refine⟨⟨j+1,om,fun b v=>?_,rfl⟩,om⟩
      by_cases e:b=j
      .rw[e];exact u
      .exact c b om
     .have f:decide (2*((eZ A i j).natAbs:Int)<=det (j+1) A)=false:=by simpa [gI]using u
      rw[f];simp only[*,go_sem];rw[cP hβ fun h=>u (h.1 i a j q)];exact VR.mf rfl
    .have y:∀b,b<i->gI A i b:=fun b z=>c b om;have s:(0<i->gA A i)->jt A (i+1):=fun l=>⟨fun r x b z=>by
      by_cases e:r=i
      .subst e;exact y b z
      .exact d.1 r om b z,fun r t x=>by
      by_cases e:r=i
      .subst e;exact l t
      .exact d.2 r t om⟩
     by_cases t:0<i
     .have D:(0:Int)<(i:Int):=om
      simp -dsimp only[*,go_sem,aa];refine(CH n i A m t a om w om).call ?_;by_cases l:gA A i
      .have g:decide (3*(det i A*det i A)<=4*(det (i-1) A*det (i+1) A+eZ A i (i-1)*eZ A i (i-1)))=true:=by simpa [gA]using l
       rw[g];simp only[*,go_sem,aI (om:i<1000000),bS]
       exact⟨⟨i+1,om,s fun _=>l,rfl⟩,om⟩
      .have g:decide (3*(det i A*det i A)<=4*(det (i-1) A*det (i+1) A+eZ A i (i-1)*eZ A i (i-1)))=false:=by simpa [gA]using l
       rw[g];simp only[*,go_sem];rw[cP hβ fun h=>l (h.2 i t a)];exact VR.mf rfl
     .obtain rfl:i=0:=om
      simp -dsimp only[*,go_sem,aa,show((0:Nat):Int)=0 from rfl,NJ,show ω ((0:Int)+1)=1 from rfl,bS];exact⟨⟨1,om,s (fun h=>om),rfl⟩,by simp;omega⟩
  .obtain rfl:i=n:=om
   simp only[*,go_sem];rw[hβ.2 d];exact VR.mf rfl
def qI(n:Nat)(H:az)(β:Bool)(a:1<=n)(p:n<=8)(o:∀i j,i<n->j<n->-9223372036854775808<=H i j/\H i j<=9223372036854775807)(hβ:β=true↔(∀i j,i<n->j<n->H i j=H j i)/\sn H n):PF 21 [av n n H] (.bool β):=by
 have c:∀i j,i<n->j<n->nb (H i j) 64:=fun i j l m=>by have:=o i j l m;unfold nb;omega
 refine gN func21 ntmps21 results21 ?_;simp -dsimp only[go_sem,aa];refine(qA _ n n H a om a om (fun i j l m=>by have:=o i j l m;unfold qO;omega)).mono ?_
 rintro _ S1 ⟨b,g,rfl,d⟩;simp -dsimp only[go_sem,aa];by_cases e:∀i j,i<n->j<n->H i j=H j i
 .obtain⟨β1,hβ1⟩:=jp (∀k,k<=n->0<det k H);refine(oE n H 64 a om c om e β1 hβ1).spec (eI.cons d.vr.va eI.nil) ?_
  cases β1 with
  | false =>
   simp -dsimp only[go_sem,aa];rw[cP hβ fun h=>by have:=hβ1.2 h.2.pos;cases this]
   exact VR.mf rfl
  | true =>
  simp -dsimp only[go_sem,aa];refine(B6 n H 64 a om c om).spec (eI.cons d.vr.va eI.nil) ?_;by_cases f:det n H<=10000
  .rw[show decide (det n H<=10000)=true by simpa using f]
   simp -dsimp only[go_sem,aa];obtain⟨β2,hβ2⟩:=jp (jt H n);refine(Bl n H 64 β2 a om c om hβ2).spec (eI.cons d.vr.va eI.nil) ?_;simp only[go_sem];rw[show β=β2 by
    cases β2 with
    | false=>exact cP hβ fun h=>by have:=hβ2.2 h.2.rows;cases this
    | true=>exact hβ.2 ⟨e,hβ1.1 rfl,f,hβ2.1 rfl⟩]
   exact VR.mf rfl
  .rw[show decide (det n H<=10000)=false by simpa using f]
   simp -dsimp only[go_sem,aa];rw[cP hβ fun h=>f h.2.dt];exact VR.mf rfl
 .refine(FU n H 64 a om c om e).spec (eI.cons d.vr.va eI.nil) ?_;simp -dsimp only[go_sem,aa];rw[cP hβ fun h=>e h.1];exact VR.mf rfl

def AB(n:Nat)(p:Int)(H:az)(b:1<=n)(c:n<=8)(d:∀i j,i<n->j<n->-9223372036854775808<=H i j/\H i j<=9223372036854775807):PF 74 [av n n H,ι p,.bool false] (ι (qD n H p)):=by
 refine gN func74 ntmps74 results74 ?_;obtain⟨β,hβ⟩:=jp (eW n H);simp -dsimp only[go_sem,aa];refine(qI n H β b c d (hβ.trans (eW.iff b c))).call ?_
 cases β with
 | false =>
  simp only[go_sem,aa];rw[Jd fun h=>by have:=hβ.2 h;cases this]
  exact VR.mf rfl
 | true =>
 have a:=hβ.1 rfl;obtain⟨γ,hγ⟩:=jp (qP p/\¬det n H%p=0);simp -dsimp only[go_sem,aa];refine(Eh n p H b c a.ent a.det γ hγ).call ?_
 cases γ with
 | false =>
  simp only[go_sem];rw[Aa a fun h=>by have:=hγ.2 h;cases this]
  exact VR.mf rfl
 | true =>
  simp only[go_sem];rw[yH a (hγ.1 rfl)];exact VR.mf rfl
def KH(a:0<n)(d:n<=1000)
  (c:∀b,S b=ae->K (.sl 1 b 0 n) (S.upd b ⟨2,1,n,fun i=>ι (v i)⟩)):gD 29 29 .nil (.lst 1 n (fun i=>ι (v i))) S K:=by
 unfold gD;rw[show dO 29=some 2 from rfl];exact⟨rfl,rfl,rfl,a,fun j e=>by simp[ei],om,c⟩
def Ra(S:St)(c i:Nat)(B:Int):Nat:=match S c with
 | some X=>match X.g i with
  | .int _ z=>(B-z).toNat
  | _=>0
 | ae=>0
def I7{c:Nat}{w:Nat->Int}{B:Int}(h:a6 S c 2 1 n (fun k=>ι (w k)))(a:i<n):Ra S c i B=(B-w i).toNat:=by
 obtain⟨g,b,d⟩:=h;unfold Ra;rw[b];show(match g i with|.int _ z=>(B-z).toNat|_=>0)=_
 rw[d i a]
def F1(S:St)(n p:Nat)(H:az)(v:Nat->Nat)(A:eW n H)(X:jT (det n H) p)(M:oW p)(B:jo n p H v) :
  cJ 33 [av n n H,ι p,aK n (fun k=>v k)] S (fun r S'=>∃(c:Nat) (l:gS),r=.tup [.sl 1 c 0 n,ι 0]/\a6 S' c 2 1 n (fun k=>ι (l k))/\(∀i,i<n->(p:Int)∣l i-(v i:Nat))/\(∀i,i<n->0<=l i/\l i<=100000000)/\(p:Int)*p∣je n H l l/\dy S S'):=by
 have Y:=A.one;have hn:=A.eight;have d:=M.2;have hpp:(p:Int)*p<=99460729/\9<=(p:Int)*p:=by
  rw[<-aX];have a:=bB d.2 d.2;have b:=bB d.1 d.1;omega
 have wpp:ω ((p:Int)*p)=((p*p:Nat):Int):=by rw[aX];exact i64_in om om
 obtain⟨piv,F,G,P⟩:=GN A X M B;obtain⟨t,Q,ht1,R⟩:=Ot A M B F G;have T:∀i,i<n->(0:Int)<=(v i:Nat)/\((v i:Nat):Int)<=9972:=fun i C=>by have:=B.lt i C;omega
 refine iZ func33 ntmps33 Tg ?_;simp -dsimp only[go_sem,aa];refine(AB n p H Y hn (fun i j C hj=>by have:=A.ent i j C hj;omega)).call ?_
 rw[yH A ⟨qP.of M,X.2.2.2⟩];simp -dsimp only[go_sem,aa];refine(sG n p H (fun k=>v k) om om om (fun i C=>by have:=B.lt i C;omega)).call ?_
 have hb:(iu (fun k=>(v k:Int)) n==1&&eH n H (fun k=>(v k:Int)) n%(p:Int)==0)=true:=by simp only[B.lead,B.norm];rfl
 simp only[go_sem,hb];refine cA (fun O S'=>∃i:Nat,i<=piv/\S=S'/\O 0=av n n H/\O 1=ι p/\O 2=aK n (fun k=>v k)/\O 9=ι i) (fun O S=>n-bS (O 9)) ?_ ?_
 .simp only[go_sem];exact⟨0,om,rfl⟩
 rintro Q' I O _ ⟨i,C,rfl,q,s,J,D⟩;have f:i<n:=om
 simp -dsimp only[go_sem,aa,q,s,J,D];refine(z9 n p H (fun k=>v k) om om om).call ?_;by_cases U:i<piv
 .have x:=P i U;unfold qK at x;simp only[*,go_sem,aK,cl,aI (om:i<1000000),bS]
  exact⟨⟨i+1,om,rfl⟩,om⟩
 obtain rfl:i=piv:=om
 have V:((ap n fun j=>H i j*((v j:Nat):Int))%(p:Int)==0)=false:=by
  have:=G;unfold qK at this;simpa using this
 simp only[go_sem,q,s,J,D,aK,f,V];rw[I];simp -dsimp only[go_sem,J];refine KH om om ?_;intro c Z;simp only[go_sem,J];have hlv:∀(j:Int) k,k<n->iF v p i j k=if k=i then((v k:Nat):Int)+p*j else v k:=fun j k _=>rfl
 have o:∀j:Int,0<=j->j<=t->∀k,k<n->0<=iF v p i j k/\iF v p i j k<=99470701:=fun j h0 Y k E=>by
  have a:0<=(p:Int)*j/\(p:Int)*j<=99460729:=by
   have:=cw (show(p:Int)<=9973 by omega) (om:j<=9973) h0 om
   exact⟨cD om h0,om⟩
  have:=T k E;unfold iF;split<;>omega
 refine cA (fun O S'=>∃j:Int,0<=j/\j<=t/\O 0=av n n H/\O 1=ι p/\O 9=ι i/\O 10=.sl 1 c 0 n/\a6 S' c 2 1 n (fun k=>ι (iF v p i j k))/\dy S S') (fun _ S'=>Ra S' c i (v i+p*t)) ?_ ?_
 .simp only[*,go_sem];exact⟨0,om,Q,a6.here fun k E=>by unfold iF;simp,(dy.refl S).upd Z _⟩
 clear q s J D I;rintro Q2 W O S' ⟨j,K,y,q,s,D,m,N,hE⟩;simp -dsimp only[go_sem,aa,q,s,m,wpp];refine(Cg n (p*p) H (iF v p i j) om om om).spec (eI.three (VA.refl _ _) (oZ.vr (show oZ S' c n (iF v p i j)from N)).va (VA.refl _ _)) ?_;by_cases x:eH n H (iF v p i j) n%((p*p:Nat):Int)=0
 .have z:(eH n H (iF v p i j) n%((p*p:Nat):Int) != 0)=false:=by simpa using x
  simp only[go_sem,aa,q,s,D,m,z];rw[W];simp only[go_sem,m];refine⟨c,rfl,iF v p i j,N,fun k _=>wu k,fun k E=>by have:=o j K y k E;omega,?_,hE⟩
  have:=dF x
  rwa [aX]at this
 .have z:(eH n H (iF v p i j) n%((p*p:Nat):Int) != 0)=true:=by simpa using x
  have hjt:j<t:=by
   rcases SV y with h|h
   .exact h
   .subst h;rw[aX]at x;exact absurd (cS R) x
  obtain⟨g,u,w⟩:=id N;have x1:g i=ι (iF v p i j i):=w i f;have hb1:=o j K y i f;have wz:ω (iF v p i j i+p)=iF v p i j i+p:=i64_in om om;simp only[go_sem,aa,q,s,D,m,z,u,x1,f,wz];have L:a6 (S'.upd c ⟨2,1,n,aQ g i (ι (iF v p i j i+p))⟩) c 2 1 n (fun k=>ι (iF v p i (j+1) k)):=a6.here fun k E=>by
   simp only[aQ];by_cases e:k=i
   .subst e;rw[aj rfl];show AV.int IntKind.i64 (iF v p k j k+p)=AV.int IntKind.i64 (iF v p k (j+1) k);unfold iF;rw[aj rfl,aj rfl];congr 1;grind
   .rw[ah e,w k E];show AV.int IntKind.i64 (iF v p i j k)=AV.int IntKind.i64 (iF v p i (j+1) k);unfold iF;rw[ah e,ah e]
  refine⟨⟨j+1,om,om,L,hE.upd Z _⟩,?_⟩
  rw[I7 L f,I7 N f];unfold iF;rw[aj rfl,aj rfl];have:=aW (om:j+1<=t) (show(0:Int)<=p by omega)
  have e5:(p:Int)*(j+1)=p*j+p:=by grind
  omega

def L4{p piv:Nat}{w:gS}{u:Int}(c:0<p)(a:piv<n)(b:(p:Int)∣u*w piv-1)(y:gS):eP n (n+1) (yg n p piv (fun j=>w j*u%p) l) y↔BK n p w l y:=by
 refine Dn (p:=(p:Int)) om a b (fun j _ _=>?_) y;have e:=dx (w j*u) p;obtain⟨t,d⟩:=b;generalize w j*u%(p:Int)=r at *;generalize hk:w j*u/(p:Int)=k at *;refine⟨w j*t-k*w piv,?_⟩;have:r=w j*u-p*k:=om
 subst this
 grind
def L3{p:Nat}{w:gS}(i:Nat):BK n p w l (gH ((p:Int)*p) i):=by
 refine⟨0,gH p i,fun k _=>?_,?_⟩
 .unfold gH;split<;>simp
 .refine jd fun k _=>ck ?_;unfold gH;split
  .exact iJ _
  .exact jm _
def G9(n p piv:Nat)(q l:gS)(j:Nat):az:=fun a c=>if c=n then l a else if c<j then jg p piv q a c else 0
def Mv{p piv:Nat}{q:gS}{a c:Nat}(b:c<n+1):G9 n p piv q l n a c=yg n p piv q l a c:=by
 unfold G9 yg;by_cases e:c=n
 .rw[aj e,ah om]
 .rw[ah e,aj om,aj om]
def Rj:∀j,j<9->gg 27 (j+1) j<=3000000000/\∀i,i<j->gg 27 (j+1) i+1<=536870912:=by decide +kernel
def En(S:St)(n p:Nat)(H:az)(v:Nat->Nat)(hF:eW n H)(hg:jT (det n H) p)(N:oW p)(hL:jo n p H v) :
  cJ 24 [av n n H,ι p,aK n (fun k=>v k)] S (fun r S'=>∃b g B S1,r=.tup [.sl 1 b 0 n,ι 0]/\vO n p H v B/\dy S S1/\ib S1 S' b g n n B):=by
 have h1:=hF.one;have hn8:=hF.eight;have hp17:=p6 N;have hpp:=p6z N;obtain⟨piv,J,hs0,hsz⟩:=GN hF hg N hL;refine iZ func24 ntmps24 results24 ?_;simp -dsimp only[go_sem,aa];refine(F1 S n p H v hF hg N hL).mono ?_;rintro _ S1 ⟨c,l,rfl,hC,hl,hlb,hln,hE1⟩;simp -dsimp only[go_sem,aa,aP];refine(z9 n p H (fun k=>v k) om om om).call ?_;have P:∀i,(ap n fun j=>H i j*((v j:Nat):Int))%(p:Int)=wL n H p v i:=fun i=>(yq n H p (fun k=>v k) i).symm;have s:wL n H p v piv≠0:=by rw[<-P];exact hs0
 have K:∀i,i<piv->wL n H p v i=0:=fun i hi=>by rw[<-P];exact hsz i hi
 have d:∀i,0<=wL n H p v i/\wL n H p v i<p:=fun i=>qW (n:=n) (H:=H) (p:=(p:Int)) (v:=fun k=>((v k:Nat):Int)) om i;simp only[P];have Q:=L4 (n:=n) (p:=p) (piv:=piv) (w:=wL n H p v) (l:=l) (u:=(bz (wL n H p v piv).toNat p).2.1%p) om J (by
  have h2:=Rx N (a:=(wL n H p v piv).toNat) (by have:=d piv;omega) (by have:=d piv;omega)
  rwa [c9 (d piv).1]at h2)
 have hNB:∀B,sM n n B->(∀c j,c<n->j<c->0<=B c j/\B c j<B c c)->(∀y,eP n n B y↔BK n p (wL n H p v) l y)->vO n p H v B:=fun B b1 b2 W=>⟨b1,b2,⟨piv,J,s⟩,l,hl,hln,W⟩;generalize wL n H p v=w at s K d Q hNB ⊢;have hrec:PF 61 [ι (w piv),ι p] (.tup [ι ((bz (w piv).toNat p).2.1%p),.bool true]):=by
  have h2:=yl (w piv).toNat p N (by have:=d piv;omega) (by have:=d piv;omega)
  rwa [c9 (d piv).1]at h2
 have hur:0<=(bz (w piv).toNat p).2.1%(p:Int)/\(bz (w piv).toNat p).2.1%(p:Int)<p:=⟨aV _ om,aU _ om⟩;generalize hu:(bz (w piv).toNat p).2.1%(p:Int)=u at *;have hqr:∀j,0<=w j*u%(p:Int)/\w j*u%(p:Int)<p:=fun j=>⟨aV _ om,aU _ om⟩;simp only[go_sem];refine aC (fun O S'=>∃i:Nat,i<=piv/\S1=S'/\O 1=ι p/\O 8=.sl 1 c 0 n/\O 10=ι n/\O 11=aK n w/\O 12=ι i) (fun O S=>n-bS (O 12)) ?_ ?_
 .simp only[go_sem,aK];exact⟨0,om,rfl⟩
 rintro O _ ⟨i,hi,rfl,e1,e8,t,x,z⟩;have m:i<n:=om
 by_cases hip:i<piv
 .simp only[*,go_sem,aa,aK,K i hip,cl,aI (om:i<1000000),bS]
  exact⟨⟨i+1,om,rfl⟩,om⟩
 obtain rfl:i=piv:=om
 simp -dsimp only[*,go_sem,aa,aK,show(w i==0)=false by simpa using s]
 refine hrec.call ?_;simp -dsimp only[*,go_sem,aK]
 repeat refine an ?_
 refine ax.intro fun bb fb=>?_;simp only[go_sem];refine aC (fun O S'=>∃a:Nat,a<=n/\O 1=ι p/\O 8=.sl 1 c 0 n/\O 10=ι n/\O 11=aK n w/\O 12=ι i/\O 13=ι u/\O 15=.sl 1 bb 0 n/\O 57=ι n/\O 58=ι a/\∃g',fq 29 2 1 S1 S' bb g' n (n+1) a (fun r k=>ι (G9 n p i (fun j=>w j*u%p) l 0 r k))) (fun O S=>n-bS (O 58)) ?_ ?_
 .simp only[*,go_sem,aK];exact⟨0,om,rfl,fun _=>0,fq.init fb (fun _ _=>rfl) _ _⟩
 clear e1 e8 t x z;rintro O S' ⟨a,ha,e1,e8,t,x,z,R,T,e57,e58,g',o⟩;by_cases E:a<n
 .obtain⟨g4,u4,v4⟩:=id o.outer;have wn:ω ((n:Int)+1)=((n+1:Nat):Int):=dP om om;simp -dsimp only[*,go_sem,aa]
  repeat refine an ?_
  refine ax.intro fun bd fd=>?_;have hdb:bb≠bd:=a6.fresh o.outer fd;simp -dsimp only[*,go_sem];have q:=o.push dc fd u4 (fun _=>ι 0)
  generalize hgg:(fun r=>if r=a then bd else g' r)=gg at q
  generalize (S'.upd bd ⟨2,1,n+1,fun _=>ι 0⟩).upd bb ⟨29,1,n,aQ g4 a (.sl 1 bd 0 (n+1))⟩=S2 at q ⊢;clear o u4 v4 fd hdb hgg;obtain⟨X,u5,U⟩:=id q.outer;obtain⟨g6,V,v6⟩:=id (q.row a om);obtain⟨g7,u7,v7⟩:=id (q.ext.has hC);have x5:X a=.sl 1 (gg a) 0 (n+1):=(U a E).trans (aj om);have x7:g7 a=ι (l a):=v7 a E;refine aN 10 kr ?_
  simp only[go_sem,aa,e1,e8,t,x,z,R,T,e57,e58,E,u5,x5,V,u7,x7,aI (om:a<1000000),bS]
  repeat refine an ?_
  refine⟨⟨a+1,om,rfl,gg,(q.put dc (om:a<a+1) V n (ι (l a))).congr fun r k _ _=>?_⟩,om⟩
  unfold G9;by_cases e:r=a/\k=n
  .rw[aj e,aj e.2,e.1]
  .rw[ah e];by_cases f:r=a
   .rw[aj f,ah (fun h=>e ⟨f,h⟩),ah om]
   .rw[ah f]
 obtain rfl:a=n:=om
 have hwpp:ω ((p:Int)*p)=(p:Int)*p:=i64_in om om;have hwn:ω (0-(p:Int))=-(p:Int):=by rw[Ex];exact i64_in om om
 have hp0:¬((p:Int)=0):=om
 simp only[*,go_sem,aa];refine aC (fun O S'=>∃j:Nat,j<=a/\O 1=ι p/\O 10=ι a/\O 11=aK a w/\O 12=ι i/\O 13=ι u/\O 15=.sl 1 bb 0 a/\O 17=ι j/\∃g',fq 29 2 1 S1 S' bb g' a (a+1) a (fun r k=>ι (G9 a p i (fun j=>w j*u%p) l j r k))) (fun O S=>a-bS (O 17)) ?_ ?_
 .simp only[*,go_sem];exact⟨0,om,rfl,g',o⟩
 clear e1 e8 t x z R T e57 e58 o E;clear g' S' O;rintro O S' ⟨j,hj,e1,t,x,z,R,T,e17,g',o⟩;by_cases C:j<a
 .obtain⟨X,u5,U⟩:=id o.outer;obtain⟨g6,V,v6⟩:=id (o.row i m);have x5:X i=.sl 1 (g' i) 0 (a+1):=(U i m).trans (aj m);by_cases D:j=i
  .subst D;simp only[*,go_sem,aa,cl,(om:j<a+1),aI (om:j<1000000),bS]
   refine⟨⟨j+1,om,rfl,g',(o.put dc C V j (ι ((p:Int)*p))).congr fun r k _ _=>?_⟩,om⟩
   unfold G9 jg;by_cases e:r=j/\k=j
   .rw[aj e,ah (om:¬k=a),aj (om:k<j+1),aj e.2,aj e.1]
   .rw[ah e];by_cases f:k=a
    .rw[aj f,aj f]
    .rw[ah f,ah f];by_cases e3:k<j
     .rw[aj e3,aj (om:k<j+1)]
     .rw[ah e3];by_cases Y:k=j
      .rw[aj (om:k<j+1),aj Y,ah (fun h=>e ⟨h,Y⟩)]
      .rw[ah (om:¬k<j+1)]
  .obtain⟨g8,u8,v8⟩:=id (o.row j C);have x8:X j=.sl 1 (g' j) 0 (a+1):=(U j C).trans (aj C);simp -dsimp only[*,go_sem,aa,show(((j:Nat):Int)==((i:Nat):Int))=false by simp;omega,(om:j<a+1)]
   have F:=o.put dc C u8 j (ι (p:Int))
   generalize S'.upd (g' j) ⟨2,1,a+1,aQ g8 j (ι (p:Int))⟩=S2 at F ⊢;clear u5 U V v6 x5 u8 v8 x8;obtain⟨X,u5,U⟩:=id F.outer;obtain⟨g6,V,v6⟩:=id (F.row i m);have x5:X i=.sl 1 (g' i) 0 (a+1):=(U i m).trans (aj m);have hwj:=d j;have hm1:=k8 (a:=w j) (b:=u) (A:=9973) (B:=9973) om om;have hm0:0<=w j*u:=cD hwj.1 hur.1;have w1:ω (w j*u)=w j*u:=i64_in om om;have w2:Int.tmod (w j*u) (p:Int)=w j*u%(p:Int):=aO hm0;have hq:=hqr j;have w3:ω (w j*u%(p:Int))=w j*u%(p:Int):=i64_in om om;have hm2:=k8 (a:=-(p:Int)) (b:=w j*u%(p:Int)) (A:=9973) (B:=9973) om om;have w4:ω (-(p:Int)*(w j*u%(p:Int)))=-(p:Int)*(w j*u%(p:Int)):=i64_in om om;refine aN 17 kr ?_
   simp only[*,go_sem,aa,aK,(om:j<a+1),aI (om:j<1000000),bS]
   refine⟨⟨j+1,om,rfl,g',(F.put dc m V j (ι (-(p:Int)*(w j*u%(p:Int))))).congr fun r k _ _=>?_⟩,om⟩
   unfold G9 jg;by_cases f:k=a
   .rw[ah (om:¬(r=i/\k=j)),ah (om:¬(r=j/\k=j)),aj f,aj f]
   .by_cases Y:k=j
    .subst Y;by_cases e5:r=i
     .have e7:¬i=k:=fun h=>D h.symm;simp[f,D,e5,e7,sw]
     .by_cases e6:r=k
      .simp[f,D,e6]
      .simp[f,D,e5,e6]
    .rw[ah (fun h=>Y h.2),ah (fun h=>Y h.2),ah f,ah f];by_cases e3:k<j
     .rw[aj e3,aj (om:k<j+1)]
     .rw[ah e3,ah (om:¬k<j+1)]
 .obtain rfl:j=a:=om
  have hN:=o.imat (A:=yg j p i (fun j=>w j*u%p) l) (fun r k _ I=>by rw[Mv I])
  have hsm:∀r k,r<j->k<j+1->(yg j p i (fun j=>w j*u%p) l r k).natAbs<=100000000:=fun r k Z I=>Dp om om (fun j _=>by have:=hqr j;omega) (fun a ha=>by have:=hlb a ha;omega) r k Z I
  generalize yg j p i (fun j=>w j*u%p) l=G at *;simp -dsimp only[*,go_sem,aa];refine(Of_mf j (j+1) G h1 om om om (fun r k Z I=>by have:=hsm r k Z I;unfold qO;omega)).pf.spec (eI.one hN.1.vr.va) ?_
  simp -dsimp only[go_sem,aa];obtain⟨hK,L⟩:=Rj j om;have hb:Bd (j+(j+1)) (j+1) 27 (qF j G jS):=fun r k Z I=>by
   unfold qF;split
   .rename_i hr2;have:=hsm r k hr2 I;show(G r k).natAbs<=2^27;omega
   .unfold jS;split<;>simp
  have hf:∀r,r<j->∃M,M≠0/\eP j (j+1) G (gH M r):=fun r _=>⟨(p:Int)*p,om,(Q _).2 (L3 r)⟩
  rcases Iw j 27 G h1 om hK L hb hf with⟨B,b1,b2,W⟩|hno
  .have hNb:=hNB B b1 b2 fun y=>(W y).trans (Q y);refine(Iv j 27 G B h1 om hK L hb hf b1 b2 W).call ?_;simp -dsimp only[go_sem,aa];refine(wI j j B h1 om h1 om (fun r k Z I=>by have:=hNb.ent N Z I;unfold iw;omega) _ _ (cC _ _)).mono ?_
   rintro _ S3 ⟨W,g3,rfl,hM3⟩;simp only[go_sem];exact⟨W,rfl,g3,B,hNb,_,hE1.trans hN.2.1,hM3⟩
  .refine(hno.frame (cC _ _) (fun _ _ h=>h.elim)).mono ?_;rintro _ _ ⟨_,h,_⟩;exact h.elim

def MQ{b:Int}:decide (0<jU a b)=decide (b<a):=by
 unfold jU;split
 .simp;omega
 .split<;>simp[*]
def yA{k:Nat}(f:n<=16)(b:∀i j,i<n->j<n->nb (H i j) k)(c:∀i j,i<n->j<n->nb (B i j) k){i j:Nat}(d:i<n)(e:j<n):nb (kh n H B i j) (k+k+10):=zT (fun t a=>(b i t d a).mul (c t j a e)) om n (ag n)
def F5(n p:Nat)(H B G:az)(h:1<=n)(Z:n<=8)(C:1<=p)(q:p<=9973)(D:∀i j,i<n->j<n->(H i j).natAbs<=176000)(x:∀i j,i<n->j<n->(B i j).natAbs<=100000000)(K:∀i j,i<n->j<n->mm n (fun i j=>B j i) (mm n H B) i j/((p:Int)*p)=G i j):MF 44 [av n n H,ι p,av n n B] n n G:=by
 have r:∀i j,i<n->j<n->nb (H i j) 27:=fun i j d f=>by have:=D i j d f;unfold nb;omega
 have m:∀i j,i<n->j<n->nb (B i j) 27:=fun i j d f=>by have:=x i j d f;unfold nb;omega
 have E:∀i j,i<n->j<n->nb (kh n H B i j) 100:=fun i j d f=>(yA om r m d f).mono om;have L:∀i j,i<n->j<n->nb (kh n (fun i j=>B j i) (kh n H B) i j) 300:=fun i j d f=>(yA (k:=100) (H:=fun i j=>B j i) om (fun a b M N=>(m b a N M).mono om) E d f).mono om;have P:1<=(p:Int)*p/\(p:Int)*p<=99460729:=by
  rw[<-aX];have a:=bB C C;have b:=bB q q;omega
 have Q:ω ((p:Int)*p)=(p:Int)*p:=i64_in om om;refine MF.of (iZ func44 ntmps44 results44 ?_);simp -dsimp only[go_sem,aa];refine(uZ n n B h om h om (fun i j d f=>by have:=x i j d f;unfold qO;omega)).call ?_
 simp -dsimp only[go_sem,aa];refine(mZ n n B 27 h om h om m om).pf.call ?_;simp -dsimp only[go_sem,aa];refine(uZ n n H h om h om (fun i j d f=>by have:=D i j d f;unfold qO;omega)).call ?_
 simp -dsimp only[go_sem,aa];refine(uZ n n B h om h om (fun i j d f=>by have:=x i j d f;unfold qO;omega)).call ?_
 simp -dsimp only[go_sem,aa];refine(kv n n n H B 27 h om h om h om r m om).pf.call ?_;simp -dsimp only[go_sem,aa];refine(kv n n n (fun i j=>B j i) (kh n H B) 100 h om h om h om (fun i j d f=>(m j i f d).mono om) E om).pf.call ?_;simp -dsimp only[go_sem,aa,av];refine(AN _ n n om om).mono ?_;rintro _ S1 ⟨b,g,rfl,l⟩;have l:=l.1;generalize R:kh n (fun i j=>B j i) (kh n H B)=A at *;have y:∀i j,i<n->j<n->A i j/((p:Int)*p)=G i j:=fun i j d f=>by rw[<-R];exact K i j d f
 simp only[go_sem,aL];refine aC (fun O S=>∃i:Nat,i<=n/\dr S b g n n (rd i (fun _ _=>0) G)/\O 1=ι p/\O 9=aL n n A/\O 10=.sl 1 b 0 n/\O 32=ι n/\O 33=ι i) (fun O S=>n-bS (O 33)) ?_ ?_
 .simp only[go_sem,aL];exact⟨0,om,by rw[mq];exact l,rfl⟩
 clear l;rintro O S ⟨i,d,l,F,I,s,t,u⟩;by_cases o:i<n
 .simp only[*,go_sem,aL];refine aC (fun O S=>∃j:Nat,j<=n/\dr S b g n n (fun a c=>if a=i then(if c<j then G a c else 0)else rd i (fun _ _=>0) G a c)/\O 1=ι p/\O 9=aL n n A/\O 10=.sl 1 b 0 n/\O 11=ι i/\O 32=ι n/\O 33=ι i/\O 37=ι n/\O 38=ι j) (fun O S=>n-bS (O 38)) ?_ ?_
  .simp only[*,go_sem,aL];refine⟨0,om,l.congr fun a c _ _=>?_,rfl⟩
   by_cases e:a=i
   .subst e;simp[rd]
   .simp[e]
  clear F I s t u l;rintro O S ⟨j,f,l,F,I,s,T,t,u,U,V⟩;by_cases v:j<n
  .obtain⟨W,u1,X⟩:=l.outer;obtain⟨g2,Y,v2⟩:=l.row i o;have x1:W i=.sl 2 (g i) 0 n:=X i o;simp -dsimp only[*,go_sem,aL,aY];refine aN 18 kr ?_
   simp only[*,go_sem,aa,aL,aY];refine⟨_,(gE (a:=(p:Int)*p) om om).pure',_,(od (k:=300) (L i j o v) (show nb ((p:Int)*p) 300 by exact nb.mono (k:=27) (by unfold nb;omega) om) om om).pure',?_⟩
   rw[y i j o v];simp only[go_sem,aI (om:j<1000000),bS]
   refine⟨⟨j+1,om,(l.set (j:=j) (z:=G i j) o Y).congr fun a c _ _=>?_,rfl⟩,om⟩
   simp only[dS];by_cases e:a=i
   .subst e;by_cases J:c=j
    .subst J;simp
    .simp only[J,Tc,aH,aE];by_cases w:c<j
     .rw[aj w,aj om]
     .rw[ah w,ah om]
   .simp[e]
  .simp only[*,go_sem,aL,aI (om:i<1000000),bS]
   refine⟨⟨i+1,om,l.congr fun a c _ hc=>?_,rfl⟩,om⟩
   by_cases e:a=i
   .subst e;simp[rd];omega
   .simp only[e,aH,rd];by_cases w:a<i
    .rw[aj w,aj om]
    .rw[ah w,ah om]
 .obtain rfl:i=n:=om
  simp only[*,go_sem];exact⟨b,rfl,g,og l⟩
def xY(S:St)(n p:Nat)(H:az)(v:Nat->Nat)(o:eW n H)(K:jT (det n H) p)(q:oW p)(L:jo n p H v) :
  cJ 15 [av n n H,ι p,aK n (fun k=>v k)] S (fun r S'=>∃b g B S1,r=.tup [.sl 1 b 0 n,ι 0]/\vO n p H v B/\dy S S1/\ib S1 S' b g n n (kI n p H B)):=by
 have A:=o.one;have J:=p6 q;refine iZ func15 ntmps15 results15 ?_;simp -dsimp only[go_sem,aa];refine(En S n p H v o K q L).mono ?_;rintro _ S1 ⟨b,g,B,S0,rfl,C,D,s⟩;have M:=o.eight;have N:=s.1;have P:=D.trans s.2.1;simp -dsimp only[go_sem,aa,aP];have t:∀i j,i<n->j<n->(kI n p H B i j).natAbs<=1120325651456000:=fun i j l m=>C.gent o q l m;refine(F5 n p H B (kI n p H B) A om om om (fun i j l m=>by have:=o.ent i j l m;omega) (fun i j l m=>by have:=C.ent q l m;have:=p6z q;omega) (fun i j l m=>by
  rw[<-nS];unfold kI;rw[aj ⟨l,m⟩])).pf.spec (eI.three (VA.refl _ _) (VA.refl _ _) N.vr.va) ?_
 generalize R:kI n p H B=Q at *;simp only[go_sem,aL];refine aC (fun O S'=>∃i:Nat,i<=n/\dy S1 S'/\O 10=aL n n Q/\O 31=aL n n Q/\O 32=ι n/\O 33=ι i) (fun O S=>n-bS (O 33)) ?_ ?_
 .simp only[go_sem,aL];exact⟨0,om,dy.refl _,rfl⟩
 rintro O S2 ⟨i,l,c,d,e,f,h⟩;by_cases E:i<n
 .simp only[*,go_sem,aa,aL];refine aC (fun O S'=>∃j:Nat,j<=n/\dy S1 S'/\O 10=aL n n Q/\O 31=aL n n Q/\O 32=ι n/\O 33=ι i/\O 37=aY n (Q i)/\O 38=ι n/\O 39=ι j) (fun O S=>n-bS (O 39)) ?_ ?_
  .simp only[go_sem,aL,aY,d,e,f,h];exact⟨0,om,c,rfl⟩
  clear c d e f h;rintro O S2 ⟨j,m,c,d,e,f,h,u,w,x⟩;by_cases y:j<n
  .have W:=t i j E y;have F:nb (Q i j) 64:=by unfold nb;omega
   simp -dsimp only[*,go_sem,aL,aY];refine ax.intro fun T z=>?_;simp -dsimp only[go_sem,aa,aQ];have G:=(c.upd (c.none z) ⟨50,2,1,fun _=>.big 0⟩).upd (c.none z) ⟨50,2,1,aQ (fun _=>.big 0) 0 (.big (Q i j))⟩;refine(tV F om).call ?_;simp -dsimp only[go_sem,aa,aQ];refine(gE (a:=4611686018427387904) om om).call ?_;simp -dsimp only[go_sem,aa,aQ];refine(mW (k:=64) (a:=((Q i j).natAbs:Int)) (b:=4611686018427387904) (by unfold nb at *;omega) (by unfold nb;omega) om).call ?_
   simp only[go_sem,aL,aY,d,e,f,h,u,w,x,MQ,(om:¬((4611686018427387904:Int)<((Q i j).natAbs:Int))),aI (om:j<1000000),bS]
   exact⟨⟨j+1,om,G,rfl⟩,om⟩
  .simp only[go_sem,aL,aY,d,e,f,h,u,w,x,y,aI (om:i<1000000),bS]
   exact⟨⟨i+1,om,c,rfl⟩,om⟩
 .simp -dsimp only[*,go_sem,aa,aL];refine(wI n n Q A om A om (fun i j l m=>by have:=t i j l m;unfold iw;omega) _ _ (cC _ _)).mono ?_
  rintro _ S3 ⟨U,V,rfl,I⟩;simp only[go_sem];exact⟨U,rfl,V,B,C,_,P.trans c,by rw[R];exact I⟩

def bH.lst_congr(h:∀i,i<n->g i=g' i){v:Value}(a:bH w M (.lst es n g) v):bH w M (.lst es n g') v:=by
 simp only[bH]at a ⊢;obtain⟨A,c,e,f,k⟩:=a;refine⟨A,c,e,f,fun l=>?_⟩;obtain⟨b,off,m,o,p,q⟩:=k l;exact⟨b,off,m,o,p,fun j d=>by rw[<-h j d];exact q j d⟩
def cJ.frz{P:AV->Prop}(h:cJ f args S (fun r S'=>∃z,(∀w v,eA w S'->bH w S'.dom r v->bH w S.dom z v)/\dy S S'/\P z)):cJ f args S (fun r S'=>P r/\S'=S):=by
 intro w vs b c;refine(h w vs b c).mono ?_;rintro e w' ⟨v,r,S1,rfl,⟨z,d,g,i⟩,j,a,k⟩;obtain⟨l,m⟩:=a.less g;exact⟨v,z,S,rfl,⟨i,rfl⟩,d w' v a j,l,k.weaken m⟩
def VR.frz{So:St}{r:AV}(h:VR So r z)(c:∀b X,So b=some X->S' b=some X)(d:∀b,So b≠ae->S b=ae)(w:World)(v:Value)(e:eA w S')(f:bH w S'.dom r v):bH w S.dom z v:=by
 obtain⟨g,i⟩:=e.less c;exact bH.turn (fun k _ a j=>a (d k j)) _ _ (h w v g (bH.turn (fun k _ a=>i k a) _ _ f))
def ib.freeze{P:AV->Prop}(h:cJ f args S (fun r S'=>∃b g n B S1,r=.tup [.sl 1 b 0 n,.int .i64 0]/\dy S S1/\ib S1 S' b g n n B/\P (.tup [av n n B,.int .i64 0]))):cJ f args S (fun r S'=>P r/\S'=S):=by
 refine cJ.frz (h.mono ?_);rintro _ S' ⟨b,g,n,B,S1,rfl,j,a,l⟩;have m:S b=ae:=j.none a.2.2.1;have o:∀i,i<n->S (g i)=ae:=fun i k=>j.none (a.2.2.2 i k);refine⟨_,VR.frz (VR.tup2 a.1.only.1.vr (VR.mf rfl)) (iQ S' b g n) fun c d=>?_,j.trans a.2.1,l⟩;unfold eJ at d;split at d
 .rename_i e;rw[e];exact m
 .split at d
  .rename_i e;obtain⟨i,k,e⟩:=e;rw[e];exact o i k
  .exact absurd rfl d

def Ep(f:Nat)(args:List AV)(c:Int):Prop:=∀S,lq S->cJ f args S (fun r S'=>r=.tup [.nil,ι c]/\dy S S')
def CJ{v:AV}(a:c≠0)(b:∀S,lq S->cJ 174 [h,ι p] S (fun r S'=>r=ι c/\dy S S')):Ep 121 [h,ι p,v] c:=fun S d=>by
 refine iZ func121 Tz SN ?_;simp -dsimp only[go_sem,aa];refine(b S d).mono ?_;rintro _ S1 ⟨rfl,e⟩;simp only[go_sem,aa,show(c != 0)=true by simpa using a]
 exact e
def K0{v:AV}(a:∀S,lq S->cJ 174 [h,ι p] S (fun r S'=>r=ι 0/\dy S S'))(b:PF 175 [h,ι p,v] (.bool false)):Ep 121 [h,ι p,v] 26:=fun S c=>by
 refine iZ func121 Tz SN ?_;simp -dsimp only[go_sem,aa];refine(a S c).mono ?_;rintro _ S1 ⟨rfl,d⟩;simp -dsimp only[go_sem,aa,aP];refine b.call ?_;simp only[go_sem,aa];exact d
def KA(a:c≠0)(h:Ep 121 [x,y,z] c):Ep 59 [x,y,z] c:=fun S b=>by
 refine iZ func59 ntmps59 results59 ?_;simp -dsimp only[go_sem,aa];refine(h S b).mono ?_;rintro _ S1 ⟨rfl,d⟩;simp only[go_sem,aa,show(c != 0)=true by simpa using a]
 exact d
def Q7(a:c≠0)(h:Ep 59 [x,y,z] c)(S:St)(b:lq S):cJ 41 [x,y,z] S (fun r S'=>r=.tup [.nil,.nil,ι c]/\dy S S'):=by
 refine iZ func41 ntmps41 results41 ?_;simp -dsimp only[go_sem,aa];refine(h S b).mono ?_;rintro _ S1 ⟨rfl,d⟩;simp only[go_sem,aa,show(c != 0)=true by simpa using a]
 exact d
def xW{v:AV}(a:c≠0)(b:PF 74 [h,ι p,.bool false] (ι c)):PF 33 [h,ι p,v] (.tup [.nil,ι c]):=by
 refine gN func33 ntmps33 Tg ?_;simp -dsimp only[go_sem,aa];refine b.call ?_;simp only[go_sem,aa,show(c != 0)=true by simpa using a]
 exact VR.mf rfl
def F2{v:AV}(a:PF 74 [h,ι p,.bool false] (ι 0))(b:PF 75 [h,ι p,v] (.bool false)):PF 33 [h,ι p,v] (.tup [.nil,ι 26]):=by
 refine gN func33 ntmps33 Tg ?_;simp -dsimp only[go_sem,aa];refine a.call ?_;simp -dsimp only[go_sem,aa,aP];refine b.call ?_;simp only[go_sem,aa];exact VR.mf rfl
def Ge(a:c≠0)(h:PF 33 [x,y,z] (.tup [.nil,ι c])):PF 24 [x,y,z] (.tup [.nil,ι c]):=by
 refine gN func24 ntmps24 results24 ?_;simp -dsimp only[go_sem,aa];refine h.call ?_;simp only[go_sem,aa,show(c != 0)=true by simpa using a]
 exact VR.mf rfl
def Iq(a:c≠0)(h:PF 24 [x,y,z] (.tup [.nil,ι c])):PF 15 [x,y,z] (.tup [.nil,ι c]):=by
 refine gN func15 ntmps15 results15 ?_;simp -dsimp only[go_sem,aa];refine h.call ?_;simp only[go_sem,aa,show(c != 0)=true by simpa using a]
 exact VR.mf rfl

def jA(m:Nat)(len:Nat->Nat)(A:az):AV:=.lst 1 m (fun i=>aK (len i) (A i))
def SD(m:Nat)(len:Nat->Nat):Prop:=1<=m/\m<=8/\∀i,i<m->len i=m
def Fh(m:Nat)(len:Nat->Nat)(A:az)(l:m<=12)(h:¬SD m len):PF 107 [jA m len A] (.bool false):=by
 refine gN func107 ntmps107 results107 ?_;by_cases n:m<1
 .simp only[go_sem,aK,jA,show(m:Int)<1 by omega]
  exact VR.mf rfl
 by_cases o:8<m
 .simp only[go_sem,aK,jA,(om:¬((m:Int)<1)),show(8:Int)<(m:Int) by omega]
  exact VR.mf rfl
 simp only[go_sem,aK,jA,(om:¬((m:Int)<1)),(om:¬((8:Int)<(m:Int)))]
 refine aC (fun O S=>∃i:Nat,i<=m/\(∀a,a<i->len a=m)/\O 0=jA m len A/\O 3=.int .i64 m/\O 18=jA m len A/\O 19=.int .i64 m/\O 20=.int .i64 i) (fun O S=>m-bS (O 20)) ?_ ?_
 .simp only[go_sem,aK,jA];exact⟨0,om,fun a c=>om,rfl⟩
 .rintro O S ⟨i,p,b,q,r,f,g,j⟩;by_cases k:i<m
  .by_cases d:len i=m
   .simp only[*,go_sem,aK,jA,show(((len i:Nat):Int) != (m:Int))=false by rw[d];simp,aI (om:i<1000000),bS]
    refine⟨⟨i+1,om,fun a c=>?_,rfl⟩,om⟩
    by_cases e:a=i
    .rw[e];exact d
    .exact b a om
   .simp only[*,go_sem,aK,jA,show(((len i:Nat):Int) != (m:Int))=true by simp;omega]
    exact VR.mf rfl
  .exact absurd ⟨om,om,fun a c=>b a om⟩ h
def ym(m:Nat)(len:Nat->Nat)(A:az)(a:m<=12)(h:¬SD m len):PF 48 [jA m len A] (.bool false):=by
 refine gN func48 ntmps48 results48 ?_;simp -dsimp only[go_sem,aa];refine(Fh m len A a h).call ?_;simp only[go_sem];exact VR.mf rfl
def Ej(m:Nat)(len:Nat->Nat)(A:az)(t:m<=12)(h:m<1∨∃i,i<m/\(len i<1∨len i≠len 0))(l:∀i,i<m->len i<=12):PF 55 [jA m len A] (.tup [.nil,.bool false]):=by
 refine gN func55 ntmps55 results55 ?_;by_cases n:m<1
 .simp only[go_sem,aK,jA,show(m:Int)<1 by omega]
  exact VR.tup (by simp[ql])
 have h':∃i,i<m/\(len i<1∨len i≠len 0):=h.resolve_left n;have d:0<m:=om
 simp only[go_sem,aK,jA,(om:¬((m:Int)<1)),(om:¬((16:Int)<(m:Int)))]
 refine aC (fun O S=>∃k:Nat,k<=m/\(∀a,a<k->¬(len a<1∨len a≠len 0))/\O 0=jA m len A/\O 17=jA m len A/\O 18=.int .i64 m/\O 19=.int .i64 k) (fun O S=>m-bS (O 19)) ?_ ?_
 .simp only[go_sem,aK,jA];exact⟨0,om,fun a o=>om,rfl⟩
 .rintro O S ⟨k,u,b,p,f,g,j⟩;by_cases c:k<m
  .have q:=l k c;by_cases v:len k<1
   .simp only[*,go_sem,jA,aK,show((len k:Nat):Int)<1 by omega]
    exact VR.tup (by simp[ql])
   by_cases r:len k=len 0
   .simp only[go_sem,jA,aK,p,f,g,j,c,(om:¬(((len k:Nat):Int)<1)),(om:¬((16:Int)<((len k:Nat):Int))),show(((len k:Nat):Int) != ((len 0:Nat):Int))=false by rw[r];simp,ie,show(0:Int)<(m:Int) by omega,d,aI (om:k<1000000),bS]
    refine⟨⟨k+1,om,fun a o=>?_,rfl⟩,om⟩
    by_cases e:a=k
    .rw[e];omega
    .exact b a om
   .simp only[*,go_sem,jA,aK,(om:¬(((len k:Nat):Int)<1)),(om:¬((16:Int)<((len k:Nat):Int))),show(((len k:Nat):Int) != ((len 0:Nat):Int))=true by simp;omega,ie,show(0:Int)<(m:Int) by omega]
    exact VR.tup (by simp[ql])
  .obtain⟨i,w,s⟩:=h';exact absurd s (b i om)
def JL(n m:Nat)(A:az)(a:1<=n)(b:n<=16)(c:1<=m)(d:m<=16)(h:n≠m):PF 115 [aL n m A] (.tup [.int .i64 0,.bool false]):=by
 refine gN func115 ntmps115 results115 ?_;simp -dsimp only[go_sem];refine(mo n m A a b c d).call ?_;simp only[go_sem,show((n:Int) != (m:Int))=true by simp;omega]
 exact VR.tup (by simp[ql])
def AO(n m:Nat)(A:az)(a:1<=n)(b:n<=16)(c:1<=m)(d:m<=16)(h:n≠m∨8<n):PF 56 [aL n m A] (.int .i64 3):=by
 refine gN func56 ntmps56 Tf ?_;simp -dsimp only[go_sem,aa];by_cases e:n=m
 .subst e;refine(pg n A a b).call ?_;simp only[go_sem,aa,show(8:Int)<n by omega]
  exact VR.mf rfl
 .refine(JL n m A a b c d e).call ?_;simp only[go_sem,aa];exact VR.mf rfl
def wX(n m:Nat)(A:az)(a:1<=n)(c:n<=16)(d:1<=m)(e:m<=16)(h:n≠m∨8<n)(f:∀i j,i<n->j<m->qO (A i j)):PF 21 [av n m A] (.bool false):=by
 refine gN func21 ntmps21 results21 ?_;simp -dsimp only[go_sem,aa];refine(qA _ n m A a c d e f).mono ?_;rintro _ S1 ⟨b,g,rfl,k⟩;simp -dsimp only[go_sem,aa];refine(AO n m A a c d e h).spec (eI.cons k.vr.va eI.nil) ?_;simp -dsimp only[go_sem,aa];exact VR.mf rfl
def a8.one{z':AV}(h:∀v,bH w M z v->bH w M z' v){vs:List Value}(b:a8 w M [z] vs):a8 w M [z'] vs:=by
 match vs,b with
 | [a],b =>
  simp only[a8]at b ⊢;exact⟨h a b.1,trivial⟩
def yn(m:Nat)(len:Nat->Nat)(A:az)(l:m<=12)(g:∀i,i<m->len i<=12)(h:¬SD m len)(n:∀i j,i<m->j<len i->qO (A i j)):PF 21 [jA m len A] (.bool false):=by
 by_cases d:m<1∨∃i,i<m/\(len i<1∨len i≠len 0)
 .refine gN func21 ntmps21 results21 ?_;simp -dsimp only[go_sem,aa];refine(Ej m len A l d g).call ?_;simp only[go_sem,aa];exact VR.mf rfl
 .have c:1<=m:=om
  have a:∀i,i<m->len i=len 0:=fun i b=>dd fun e=>d (aR ⟨i,b,aR e⟩);have f:1<=len 0:=by
   rcases aB (len 0) 1 with e|e
   .exact absurd (aR ⟨0,c,a9 e⟩) d
   .exact e
  have k:=g 0 c;have o:=wX m (len 0) A c om f om (by
   rcases aB 8 m with e|e
   .exact aR e
   .refine a9 fun p=>h ⟨c,e,fun i b=>(a i b).trans p.symm⟩) (fun i j b q=>n i j b (by rw[a i b];exact q))
  exact fun w vs r s=>o w vs r (a8.one (fun v t=>bH.lst_congr (fun i b=>by rw[a i b]) t) s)
def Ku(m:Nat)(len:Nat->Nat)(A:az)(p:Int)(a:m<=12)(h:¬SD m len)(S:St)(_hG:lq S):cJ 174 [jA m len A,.int .i64 p] S (fun r S'=>r=.int .i64 6/\dy S S'):=by
 refine iZ func174 ntmps174 results174 ?_;simp -dsimp only[go_sem,aa];refine(ym m len A a h).call ?_;simp only[go_sem,aa];exact dy.refl S
def Ht(m:Nat)(len:Nat->Nat)(A:az)(p:Int)(a:m<=12)(b:∀i,i<m->len i<=12)(h:¬SD m len)(c:∀i j,i<m->j<len i->qO (A i j)):PF 74 [jA m len A,.int .i64 p,.bool false] (.int .i64 6):=by
 refine gN func74 ntmps74 results74 ?_;simp -dsimp only[go_sem,aa];refine(yn m len A a b h c).call ?_;simp only[go_sem,aa];exact VR.mf rfl

def KU(n m:Nat)(A:az)(o:n<=16)(p:m<=16):PF 20 [av n m A,av n m A] (.bool true):=by
 refine gN func20 ntmps20 results20 ?_;simp only[go_sem,av,aK,aP];refine cA (fun O S=>∃i:Nat,i<=n/\O 0=av n m A/\O 1=av n m A/\O 13=.int .i64 n/\O 14=.int .i64 i) (fun O S=>n-bS (O 14)) ?_ ?_
 .simp only[go_sem,av,aK];exact⟨0,om,rfl⟩
 rintro Q' g O S ⟨i,q,h,k,a,b⟩;by_cases c:i<n
 .simp -dsimp only[go_sem,a,b,c,av,aK];refine aN 11 kr ?_
  simp only[go_sem,aa,h,k,c,av,aK,aP];refine cA (fun O S=>∃j:Nat,j<=m/\O 0=av n m A/\O 1=av n m A/\O 5=.int .i64 i/\O 13=.int .i64 n/\O 14=.int .i64 i/\O 32=.int .i64 m/\O 33=.int .i64 j) (fun O S=>m-bS (O 33)) ?_ ?_
  .simp only[*,go_sem,av,aK];exact⟨0,om,rfl⟩
  clear h k a b;clear O S;rintro Q2 l O S ⟨j,r,h,k,s,a,b,d,e⟩;by_cases f:j<m
  .simp -dsimp only[go_sem,d,e,f,av,aK];refine aN 15 kr ?_
   simp only[*,go_sem,aa,av,aK,aP,aI (om:j<1000000),bS]
   exact⟨⟨j+1,om,rfl⟩,om⟩
  .simp only[go_sem,d,e,f];rw[l];simp only[*,go_sem,aI (om:i<1000000),bS]
   exact⟨⟨i+1,om,rfl,rfl,rfl⟩,om⟩
 .simp only[go_sem,a,b,c];rw[g];simp only[go_sem];exact VR.mf rfl
def wK(f:Nat)(args:List AV)(z:AV):Prop:=∀S,lq S->cJ f args S (fun r S'=>r=z/\dy S S')
def PF.ge(h:PF f args z):wK f args z:=fun S _=>h.call ⟨rfl,dy.refl S⟩
def wo{p:Nat}{B':az}(h:∀i j,i<n->j<n->B i j=B' i j):kI n p H B=kI n p H B':=by
 funext i j;unfold kI;split
 .rename_i a;congr 1;exact ri (fun k b=>ri (fun l c=>h l i c a.1) fun _ _=>rfl) fun k b=>h k j b a.2
 .rfl
theorem xF{v v':Nat->Int}:∀{n:Nat},(∀i,i<n->v i=v' i)->iu v n=iu v' n
 | 0,_=>rfl
 | n+1,h=>by simp only[iu];rw[xF fun i a=>h i om,h n om]
def Dh(h:∀i,i<n->v i=v' i):eH n H v n=eH n H v' n:=by
 unfold eH;exact ay fun i a=>by rw[h i a,ay fun j b=>by rw[h j b]]
def AT.nat{p:Nat}(h:AT n p H v):jo n p H (fun k=>(v k).toNat)/\∀i,i<n->v i=(((v i).toNat:Nat):Int):=by
 have a:∀i,i<n->v i=(((v i).toNat:Nat):Int):=fun i b=>by have:=h.1 i b;omega
 exact⟨⟨fun i b=>by have:=h.1 i b;omega,by rw[<-xF a];exact h.2.1,by rw[<-Dh a];exact h.2.2⟩,a⟩
def Kb(h:qD n H p=0):eW n H/\qP p/\¬det n H%p=0:=by
 unfold qD at h;split at h
 .rename_i a;split at h
  .rename_i b;exact⟨a,b⟩
  .omega
 .omega

def Ff(m:Nat)(len:Nat->Nat)(A:az)(β:Bool)(hβ:β=true↔12<m∨∃i,i<m/\12<len i):PF 11 [jA m len A] (.bool β):=by
 refine gN func11 ntmps11 results11 ?_;by_cases d:12<m
 .simp only[go_sem,jA,show(12:Int)<(m:Int) by omega]
  rw[hβ.2 (a9 d)];exact VR.mf rfl
 simp only[go_sem,jA,(om:¬((12:Int)<(m:Int)))]
 refine aC (fun O S=>∃i:Nat,i<=m/\(∀a,a<i->¬12<len a)/\O 8=jA m len A/\O 9=.int .i64 m/\O 10=.int .i64 i) (fun O S=>m-bS (O 10)) ?_ ?_
 .simp only[go_sem,jA];exact⟨0,om,fun a g=>om,rfl⟩
 .rintro O S ⟨i,n,b,o,p,j⟩;by_cases c:i<m
  .by_cases f:12<len i
   .simp only[*,go_sem,aK,jA,show(12:Int)<((len i:Nat):Int) by omega]
    rw[hβ.2 (aR ⟨i,c,f⟩)];exact VR.mf rfl
   .simp only[*,go_sem,aK,jA,(om:¬((12:Int)<((len i:Nat):Int))),aI (om:i<1000000),bS]
    refine⟨⟨i+1,om,fun a g=>?_,rfl⟩,om⟩
    by_cases e:a=i
    .rw[e];exact f
    .exact b a om
  .obtain rfl:i=m:=om
   simp only[*,go_sem];rw[cP hβ fun h=>by
    rcases h with h|⟨a,k,l⟩
    .exact d h
    .exact b a k l]
   exact VR.mf rfl
def Oj(h:bH w M .nil u):bH w M (.lst es 0 g) u:=by
 simp only[bH]at h ⊢;exact⟨none,0,h,ag _,fun h=>absurd h (cB _)⟩
def MadeD(r:AV):Prop:=∃(n p l:Nat) (H:az) (v:Nat->Int) (ok:Bool),eW n H/\r=.tup [av n n H,.int .i64 p,aK l v,.bool ok]

def Lj(S:St)(b P:Nat):Prop:=a6 S b 202 1 2 (fun j=>if j=0 then .int .u64 ((P/18446744073709551616:Nat):Int)else .int .u64 ((P%18446744073709551616:Nat):Int))
def Lj.put{P:Nat}:Lj (S.upd b ⟨202,1,2,ft g 0 [.int .u64 ((P/18446744073709551616:Nat):Int),.int .u64 ((P%18446744073709551616:Nat):Int)]⟩) b P :=
 ⟨_,ca,fun j a=>by
  rcases (om:j=0∨j=1)with rfl|rfl<;>simp[ft]⟩
def Lj.get{P:Nat}(h:Lj S b P):∃g,S b=some ⟨202,1,2,g⟩/\dZ g 0 2=[.int .u64 ((P/18446744073709551616:Nat):Int),.int .u64 ((P%18446744073709551616:Nat):Int)]:=by
 obtain⟨g,u,w⟩:=h;exact⟨g,u,by simp[dZ,w 0 om,w 1 om]⟩
def qY(h:X<9223372036854775808):IntKind.u64.wrap (X:Int)=X:=by rw[cf];omega
def Dj(h:X<9223372036854775808):ω (0-(-(X:Int)))=X:=by rw[show(0-(-(X:Int)))=X by omega];exact i64_in om om
def Is(S:St)(b c i:Nat)(a v:Nat->Int):Prop:=∃P N:Nat,Lj S b P/\Lj S c N/\(P:Int)-N=ap i (fun j=>a j*v j)/\P<=i*10141204801825835211973625643008/\N<=i*10141204801825835211973625643008
def GT{x:Int}(h:¬0<=x):∃X:Nat,x=-(X:Int)/\0<X:=⟨x.natAbs,om,om⟩
def Is.next{c Y P P' N':Nat}{a:Nat->Int}(g:Lj S b P')(k:Lj S c N')(h:(P:Int)-N=ap i (fun j=>a j*v j))(bXY:X*Y<=10141204801825835211973625643008)(bP:P<=i*10141204801825835211973625643008)(bN:N<=i*10141204801825835211973625643008)
  (d:(P'=P+X*Y/\N'=N/\a i*v i=(X:Int)*Y)∨(P'=P/\N'=N+X*Y/\a i*v i=-((X:Int)*Y))):Is S b c (i+1) a v:=by
 have e:((X*Y:Nat):Int)=(X:Int)*Y:=aX X Y;have eK:=cg i 10141204801825835211973625643008;refine⟨P',N',g,k,?_,?_,?_⟩
 .simp only[ap];rcases d with⟨rfl,rfl,f⟩|⟨rfl,rfl,f⟩<;>rw[f,<-h]<;>generalize (X:Int)*Y=Z at*<;> omega
 .clear h e;rw[eK];generalize 10141204801825835211973625643008=K at *;rcases d with⟨rfl,rfl,_⟩|⟨rfl,rfl,_⟩<;>omega
 .clear h e;rw[eK];generalize 10141204801825835211973625643008=K at *;rcases d with⟨rfl,rfl,_⟩|⟨rfl,rfl,_⟩<;>omega
def Pl{a c B:Code}(h:∀B,Aw (.seq a (.seq c B)) Q O S):Aw (.seq a (.seq c B)) Q O S:=h B
def ME(s:Int):AV:=.tup [ι (if s.natAbs<=4611686018427387904 then s else 0),.bool (decide (s.natAbs<=4611686018427387904))]
def Ki(n:Nat)(a v:Nat->Int)(K:n<=16)(E:∀i,i<n->(a i).natAbs<=1099511627776)(F:∀j,j<n->(v j).natAbs<9223372036854775808) :
  PF 168 [aK n a,aK n v] (ME (ap n (fun j=>a j*v j))):=by
 refine gN func168 ntmps168 results168 ?_;simp only[go_sem,aK];refine ax.intro fun bb fb=>?_
 try simp only[go_sem]
 refine ax.intro fun bc fc=>?_;have nc_b:=(af fc).1
 try simp only[go_sem]
 refine cA (fun O S=>∃i:Nat,i<=n/\O 1=aK n v/\O 6=.ptr 1 bb 0/\O 7=.ptr 1 bc 0/\O 15=aK n a/\O 16=ι n/\O 17=ι i/\Is S bb bc i a v) (fun O S=>n-bS (O 17)) ?_ ?_
 .simp only[go_sem,aK];exact⟨0,om,rfl,0,0,(a6.here fun j G=>by simp).upd (ai nc_b) _,a6.here fun j G=>by simp,by simp[ap],om,om⟩
 rintro Q' A O S ⟨i,L,z,q,r,m,e,f,P,N,C,D,s,bP,bN⟩;obtain⟨g,u,w⟩:=C.get;obtain⟨g',u',w'⟩:=D.get;have H:¬((2:Nat)=1):=by decide
 have bP':P<=162259276829213363391578010288128:=by
  have:=aq 10141204801825835211973625643008 (om:i<=16)
  omega
 have bN':N<=162259276829213363391578010288128:=by
  have:=aq 10141204801825835211973625643008 (om:i<=16)
  omega
 by_cases b:i<n
 .have I:=E i b;have J:=F i b;have M:=aI (om:i<1000000)
  have o:(a i).natAbs*(v i).natAbs<=10141204801825835211973625643008:=bO (bB I (dq J)) dc
  by_cases t:0<=a i
  .obtain⟨X,d⟩:=tE t;have bX:X<9223372036854775808:=om
   have nX:¬((X:Int)<0):=om
   by_cases k:0<=v i
   .obtain⟨Y,c⟩:=tE k;have bY:Y<9223372036854775808:=om
    have bXY:X*Y<=10141204801825835211973625643008:=by have h:=o;rw[d,c]at h;simpa using h
    simp -dsimp only[go_sem,aa,z,q,r,m,e,f,b,aK,d,c,cM,u,u',qY bX,qY bY]
    repeat refine an ?_
    try simp -dsimp only[go_sem,w]
    refine(yp (W:=P) (om:X<18446744073709551616) (om:Y<18446744073709551616) om).call ?_
    simp only[*,go_sem,bS,PZ,cK,iq,aS,bF,bZ,ct]
    repeat refine an ?_
    exact⟨⟨i+1,om,rfl,rfl,rfl,Is.next Lj.put (D.upd nc_b _) s bXY bP bN (a9 ⟨rfl,rfl,by rw[d,c]⟩)⟩,om⟩
   .obtain⟨Y,c,pY⟩:=GT k;have bY:Y<9223372036854775808:=om
    have bXY:X*Y<=10141204801825835211973625643008:=by have h:=o;rw[d,c]at h;simpa using h
    simp -dsimp only[go_sem,aa,z,q,r,m,e,f,b,aK,d,c,cM,nX,(om:¬((0:Int)<=-(Y:Int))),u,u',qY bX,qY bY,Dj bY]
    repeat refine an ?_
    try simp -dsimp only[go_sem,w']
    refine(yp (W:=N) (om:X<18446744073709551616) (om:Y<18446744073709551616) om).call ?_
    simp only[*,go_sem,bS,PZ,cK,iq,aS,bF,bZ,ct]
    repeat refine an ?_
    exact⟨⟨i+1,om,rfl,rfl,rfl,Is.next (C.upd (ai nc_b) _) Lj.put s bXY bP bN (aR ⟨rfl,rfl,by rw[d,c];exact mR _ _⟩)⟩,om⟩
  .obtain⟨X,d,pX⟩:=GT t;have bX:X<9223372036854775808:=om
   have nX:¬((0:Int)<=-(X:Int)):=om
   have nX':-(X:Int)<0:=om
   by_cases k:0<=v i
   .obtain⟨Y,c⟩:=tE k;have bY:Y<9223372036854775808:=om
    have bXY:X*Y<=10141204801825835211973625643008:=by have h:=o;rw[d,c]at h;simpa using h
    simp -dsimp only[go_sem,aa,z,q,r,m,e,f,b,aK,d,c,cM,nX,nX',(om:¬((Y:Int)<0)),u,u',qY bX,qY bY,Dj bX]
    repeat refine an ?_
    try simp -dsimp only[go_sem,w']
    refine(yp (W:=N) (om:X<18446744073709551616) (om:Y<18446744073709551616) om).call ?_
    simp only[*,go_sem,bS,PZ,cK,iq,aS,bF,bZ,ct]
    repeat refine an ?_
    exact⟨⟨i+1,om,rfl,rfl,rfl,Is.next (C.upd (ai nc_b) _) Lj.put s bXY bP bN (aR ⟨rfl,rfl,by rw[d,c];exact sw _ _⟩)⟩,om⟩
   .obtain⟨Y,c,pY⟩:=GT k;have bY:Y<9223372036854775808:=om
    have bXY:X*Y<=10141204801825835211973625643008:=by have h:=o;rw[d,c]at h;simpa using h
    simp -dsimp only[go_sem,aa,z,q,r,m,e,f,b,aK,d,c,nX,nX',(om:-(Y:Int)<0),u,u',qY bX,qY bY,Dj bX,Dj bY]
    repeat refine an ?_
    try simp -dsimp only[go_sem,w]
    refine(yp (W:=P) (om:X<18446744073709551616) (om:Y<18446744073709551616) om).call ?_
    simp only[*,go_sem,bS,PZ,cK,iq,aS,bF,bZ,ct]
    repeat refine an ?_
    exact⟨⟨i+1,om,rfl,rfl,rfl,Is.next Lj.put (D.upd nc_b _) s bXY bP bN (a9 ⟨rfl,rfl,by rw[d,c];exact pR _ _⟩)⟩,om⟩
 have x:i=n:=om
 refine Pl fun B=>?_;simp only[go_sem,e,f,b];rw[x]at s;rw[A,<-s];simp -dsimp only[go_sem,aa,q,r,u,u']
 repeat refine an ?_
 try simp -dsimp only[*,go_sem]
 refine(BW (W:=P) (V:=N) om om).call ?_;by_cases y:N<=P/\P-N<=4611686018427387904
 .rw[aj y,np y];simp only[go_sem,aa,q,r,u,w,u',w'];have p:((P:Int)-N).natAbs<=4611686018427387904:=om
  unfold ME;rw[aj p,np p,oY y.1];exact VR.mf rfl
 .rw[ah y,pO y];simp -dsimp only[go_sem,aa,q,r,u,w,u',w']
  repeat refine an ?_
  try simp -dsimp only[*,go_sem]
  refine(BW (W:=N) (V:=P) om om).call ?_;by_cases p:P<=N/\N-P<=4611686018427387904
  .rw[aj p,np p];simp only[go_sem,show ω (0-((N-P:Nat):Int))=(P:Int)-N by rw[oY p.1];rw[(om:0-((N:Int)-P)=(P:Int)-N)];exact i64_in om om]
   have l:((P:Int)-N).natAbs<=4611686018427387904:=om
   unfold ME;rw[aj l,np l];exact VR.mf rfl
  .rw[ah p,pO p];simp only[go_sem,show ω (0-(0:Int))=0 from rfl];have l:¬((P:Int)-N).natAbs<=4611686018427387904:=om
   unfold ME;rw[ah l,pO l];exact VR.mf rfl

def F9(n:Nat)(a b:Nat->Int)(β:Bool)(m:n<=16)(hβ:β=true↔∀i,i<n->a i=b i):PF 52 [aK n a,aK n b] (.bool β):=by
 refine gN func52 ntmps52 results52 ?_;simp only[go_sem,aK,aP];refine aC (fun O S=>∃i:Nat,i<=n/\(∀k,k<i->a k=b k)/\O 0=aK n a/\O 1=aK n b/\O 12=ι n/\O 13=ι i) (fun O S=>n-bS (O 13)) ?_ ?_
 .simp only[go_sem,aK];exact⟨0,om,fun k g=>om,rfl⟩
 .rintro O S ⟨i,o,c,p,q,j,l⟩;by_cases d:i<n
  .by_cases f:a i=b i
   .simp -dsimp only[*,go_sem,aK];refine aN 9 kr ?_
    simp only[*,go_sem,aa,aK,aP,aI (om:i<1000000),bS]
    refine⟨⟨i+1,om,fun k g=>?_,rfl⟩,om⟩
    by_cases e:k=i
    .rw[e];exact f
    .exact c k om
   .simp -dsimp only[*,go_sem,aK];refine aN 9 kr ?_
    simp only[*,go_sem,aa,aK,show(a i != b i)=true by simpa using f]
    rw[cP hβ fun h=>f (h i d)];exact VR.mf rfl
  .simp only[*,go_sem,aK];rw[hβ.2 fun k g=>c k om];exact VR.mf rfl
def qJ(n m:Nat)(A B:az)(β:Bool)(q:n<=16)(f:m<=16)(hβ:β=true↔∀i j,i<n->j<m->A i j=B i j):PF 51 [av n m A,av n m B,.fn 52 []] (.bool β):=by
 refine gN func51 ntmps51 results51 ?_;simp only[go_sem,av,aK,aP];refine aC (fun O S=>∃i:Nat,i<=n/\(∀k j,k<i->j<m->A k j=B k j)/\O 1=av n m B/\O 2=.fn 52 []/\O 15=av n m A/\O 16=ι n/\O 17=ι i) (fun O S=>n-bS (O 17)) ?_ ?_
 .simp only[go_sem,av,aK];exact⟨0,om,fun k j d=>om,rfl⟩
 .rintro O S ⟨i,r,b,s,t,g,l,o⟩;by_cases c:i<n
  .obtain⟨γ,hγ⟩:=jp (∀j,j<m->A i j=B i j);simp -dsimp only[*,go_sem,aa,av];refine(F9 m (A i) (B i) γ f hγ).call ?_
   cases γ with
   | true =>
    have p:=hγ.1 rfl;simp only[*,go_sem,aI (om:i<1000000),bS]
    refine⟨⟨i+1,om,fun k j d a=>?_,rfl,rfl,rfl⟩,om⟩
    by_cases e:k=i
    .rw[e];exact p j a
    .exact b k j om a
   | false =>
    simp only[*,go_sem];rw[cP hβ fun h=>by have:=hγ.2 (fun j a=>h i j c a);cases this]
    exact VR.mf rfl
  .simp only[*,go_sem,aa,av];rw[hβ.2 fun k j d a=>b k j om a];exact VR.mf rfl
def qL(m:Nat)(len:Nat->Nat)(T:az):AV:=.lst 1 m (fun i=>aK (len i) (T i))
def tN(n m:Nat)(len:Nat->Nat)(T:az)(β:Bool)(p:m<=16)(hβ:β=true↔m=n/\∀i,i<m->len i=n):PF 49 [qL m len T,ι n] (.bool β):=by
 refine gN func49 ntmps49 results49 ?_;simp only[go_sem,qL,aK];refine aC (fun O S=>∃i:Nat,i<=m/\(∀k,k<i->len k=n)/\O 0=qL m len T/\O 1=ι n/\O 7=qL m len T/\O 8=ι m/\O 9=ι i) (fun O S=>m-bS (O 9)) ?_ ?_
 .simp only[go_sem,qL,aK];exact⟨0,om,fun k d=>om,rfl⟩
 .rintro O S ⟨i,q,a,f,g,j,l,o⟩;by_cases b:i<m
  .by_cases c:len i=n
   .simp only[*,go_sem,qL,aK,aP,aI (om:i<1000000),bS]
    refine⟨⟨i+1,om,fun k d=>?_,rfl⟩,om⟩
    by_cases e:k=i
    .rw[e];exact c
    .exact a k om
   .simp only[*,go_sem,qL,aK,show(((len i:Nat):Int) != (n:Int))=true by simp;omega]
    rw[cP hβ fun h=>c (h.2 i b)];exact VR.mf rfl
  .by_cases c:m=n
   .simp only[go_sem,qL,aK,f,g,j,l,o,b,show(((m:Nat):Int)==(n:Int))=true by simp;omega]
    rw[hβ.2 ⟨c,fun k d=>a k om⟩];exact VR.mf rfl
   .simp only[*,go_sem,qL,aK,show(((m:Nat):Int)==(n:Int))=false by simp;omega]
    rw[cP hβ fun h=>c h.1];exact VR.mf rfl
def D9(n m:Nat)(len:Nat->Nat)(T:az)(β:Bool)(p:m<=16)(hβ:β=true↔m=n/\∀i,i<m->len i=n):PF 22 [qL m len T,ι n] (.bool β):=by
 refine gN func22 ntmps22 results22 ?_;simp only[go_sem,qL,aK];refine aC (fun O S=>∃i:Nat,i<=m/\(∀k,k<i->len k=n)/\O 0=qL m len T/\O 1=ι n/\O 7=qL m len T/\O 8=ι m/\O 9=ι i) (fun O S=>m-bS (O 9)) ?_ ?_
 .simp only[go_sem,qL,aK];exact⟨0,om,fun k d=>om,rfl⟩
 .rintro O S ⟨i,q,a,f,g,j,l,o⟩;by_cases b:i<m
  .by_cases c:len i=n
   .simp only[*,go_sem,qL,aK,aP,aI (om:i<1000000),bS]
    refine⟨⟨i+1,om,fun k d=>?_,rfl⟩,om⟩
    by_cases e:k=i
    .rw[e];exact c
    .exact a k om
   .simp only[*,go_sem,qL,aK,show(((len i:Nat):Int) != (n:Int))=true by simp;omega]
    rw[cP hβ fun h=>c (h.2 i b)];exact VR.mf rfl
  .by_cases c:m=n
   .simp only[go_sem,qL,aK,f,g,j,l,o,b,show(((m:Nat):Int)==(n:Int))=true by simp;omega]
    rw[hβ.2 ⟨c,fun k d=>a k om⟩];exact VR.mf rfl
   .simp only[*,go_sem,qL,aK,show(((m:Nat):Int)==(n:Int))=false by simp;omega]
    rw[cP hβ fun h=>c h.1];exact VR.mf rfl
def zZ(n:Nat)(a:Nat->Int)(β:Bool)(f:n<=16)(hβ:β=true↔∀i,i<n->(a i).natAbs<=1099511627776):PF 214 [aK n a] (.bool β):=by
 refine gN func214 ntmps214 results214 ?_;simp only[go_sem,aK];refine aC (fun O S=>∃i:Nat,i<=n/\(∀k,k<i->(a k).natAbs<=1099511627776)/\O 5=aK n a/\O 6=ι n/\O 7=ι i) (fun O S=>n-bS (O 7)) ?_ ?_
 .simp only[go_sem,aK];exact⟨0,om,fun k d=>om,rfl⟩
 .rintro O S ⟨i,g,b,j,l,m⟩;by_cases c:i<n
  .by_cases o:a i < -1099511627776
   .simp only[*,go_sem,aK];rw[cP hβ fun h=>by have:=h i c;omega]
    exact VR.mf rfl
   by_cases p:1099511627776<a i
   .simp only[*,go_sem,aK];rw[cP hβ fun h=>by have:=h i c;omega]
    exact VR.mf rfl
   simp only[*,go_sem,aK,aI (om:i<1000000),bS]
   refine⟨⟨i+1,om,fun k d=>?_,rfl⟩,om⟩
   by_cases e:k=i
   .rw[e];omega
   .exact b k om
  .simp only[*,go_sem,aK];rw[hβ.2 fun k d=>b k om];exact VR.mf rfl
def Fp(n:Nat)(a:Nat->Int)(β:Bool)(b:n<=16)(hβ:β=true↔∀i,i<n->(a i).natAbs<=1099511627776):PF 166 [ι n,aK n a] (.bool β):=by
 refine gN func166 ntmps166 results166 ?_;simp -dsimp only[go_sem,aa,aK,cl];refine(zZ n a β b hβ).call ?_
 cases β<;>simp only[go_sem,cl]
 .exact VR.mf rfl
 .exact VR.mf rfl

def po(n:Nat)(A B:az)(i j:Nat):Int:=ap n fun k=>B j k*ap n (fun l=>A k l*B i l)
def pn(n:Nat)(A B:az)(i j:Nat):Int:=if j<=i then po n A B i j else po n A B j i
def GrR(S:St)(b m k:Nat)(E:az):Prop:=∃g,fq 29 2 1 St.none S b g m m k (fun a c=>ι (E a c))
def Ip(n m:Nat)(A B:az):Prop:=(∀i k,i<m->k<n->(B i k).natAbs<=1099511627776)/\∀i j,i<m->j<i+1->(po n A B i j).natAbs<=4611686018427387904
def vC(n m:Nat)(A B:az)(β:Bool)(r:AV)(S':St):Prop:=(β=true/\∃b g,r=.tup [.sl 1 b 0 m,.bool true]/\eh S' b g m m (pn n A B))∨(β=false/\r=.tup [.nil,.bool false])
def vC.lift(h:cJ f args St.none (vC n m A B β))(S:St)(args':List AV)(i:eI S args' args):cJ f args' S (fun r S'=>vC n m A B β r S'/\dy S S'):=by
 have j:cJ f args St.none (fun r S'=>vC n m A B β r S'/\clb r=true/\Gn S'):=h.less fun r S' d=>by
  rcases d with⟨a,b,g,rfl,c⟩|⟨a,rfl⟩
  .exact⟨eJ S' b g m,iQ S' b g m,a9 ⟨a,b,g,rfl,c.only.1⟩,rfl,c.only.2⟩
  .exact⟨St.none,fun _ _ e=>(by cases e),aR ⟨a,rfl⟩,rfl,fun _ _ e=>(by cases e)⟩
 refine(j.frame i fun r S1 k=>k.2).mono ?_;rintro r S' ⟨S1,⟨d,_,_⟩,l,rfl⟩;refine⟨?_,nT S S1⟩;rcases d with⟨a,b,g,rfl,c⟩|⟨a,rfl⟩
 .exact a9 ⟨a,b,g,rfl,(c.join l).1⟩
 .exact aR ⟨a,rfl⟩
def Cx(d:n<=8)(a:∀i j,i<n->j<n->-262144<A i j/\A i j<262144)(b:∀j,j<n->(v j).natAbs<=1099511627776){i t:Nat}(c:i<n)(e:t<=n):(ap t (fun j=>A i j*v j)).natAbs<=2305843009213693952:=by
 refine bO (bO (vW _ _) (qu (B:=288230376151711744) fun j f=>?_)) (aq 288230376151711744 (om:t<=8))
 rw[cN];exact bO (bB (show(A i j).natAbs<=262144 by have:=a i j c om;omega) (b j om)) dc
def DX(n:Nat)(A:az)(v:Nat->Int)(E:n<=8)(B:∀i j,i<n->j<n->-262144<A i j/\A i j<262144)(C:∀j,j<n->(v j).natAbs<=1099511627776) :
  PF 167 [av n n A,aK n v] (aK n (fun i=>ap n (fun j=>A i j*v j))):=by
 have F:∀i j,i<n->j<n->ω (A i j*v j)=A i j*v j:=fun i j q s=>by
  have h:=bB (show(A i j).natAbs<=262144 by have:=B i j q s;omega) (C j s)
  rw[<-cN]at h;exact i64_in om om
 have G:∀i t,i<n->t<=n->ω (ap t (fun j=>A i j*v j))=ap t (fun j=>A i j*v j):=fun i t q H=>by
  have h:=Cx E B C q H;exact i64_in om om
 refine gN func167 ntmps167 results167 ?_;simp -dsimp only[go_sem,av,aK]
 repeat refine an ?_
 refine ax.intro fun bb fb=>?_
 try simp only[go_sem]
 refine cA (fun O S=>∃i:Nat,i<=n/\O 1=aK n v/\O 5=.sl 1 bb 0 n/\O 13=av n n A/\O 14=ι n/\O 15=ι i/\oZ S bb n (fun r=>if r<i then ap n (fun j=>A r j*v j)else 0)) (fun O S=>n-bS (O 15)) ?_ ?_
 .simp only[go_sem,av,aK];exact⟨0,om,rfl,a6.here fun j s=>by simp⟩
 rintro Q' x O S ⟨i,q,D,y,b,c,d,l⟩;by_cases a:i<n
 .simp only[go_sem,b,c,d,a,av,aK];refine cA (fun O S=>∃j:Nat,j<=n/\O 1=aK n v/\O 5=.sl 1 bb 0 n/\O 6=ι i/\O 13=av n n A/\O 14=ι n/\O 15=ι i/\O 20=aK n (A i)/\O 21=ι n/\O 22=ι j /\
   oZ S bb n (fun r=>if r=i then ap j (fun j=>A i j*v j)else if r<i then ap n (fun j=>A r j*v j)else 0)) (fun O S=>n-bS (O 22)) ?_ ?_
  .simp only[*,go_sem,av,aK];obtain⟨g,u,w⟩:=l;exact⟨0,om,rfl,g,u,fun r k=>(w r k).trans (by by_cases e:r=i<;>simp[e,ap])⟩
  clear D y b c d l;clear O S;rintro Q2 z O S ⟨j,s,D,y,I,b,c,d,m,o,p,l⟩;by_cases f:j<n
  .obtain⟨g,u,w⟩:=id l;have J:g i=ι (ap j (fun j=>A i j*v j)):=(w i a).trans sm
   simp -dsimp only[go_sem,m,o,p,f,aK];refine aN 12 kr ?_
   simp only[*,go_sem,aa,aK,F i j a f,show ap j (fun j=>A i j*v j)+A i j*v j=ap (j+1) (fun j=>A i j*v j)from rfl,G i (j+1) a f,aI (om:j<1000000),bS]
   exact⟨⟨j+1,om,rfl,_,ca,fun r k=>by
    by_cases e:r=i
    .simp[aQ,e]
    .exact(ah e).trans ((w r k).trans (by simp[e]))⟩,om⟩
  .simp only[go_sem,aa,m,o,p,f];rw[z];simp only[*,go_sem,aI (om:i<1000000),bS]
   obtain rfl:j=n:=om
   obtain⟨g,u,w⟩:=l;exact⟨⟨i+1,om,rfl,rfl,rfl,g,u,fun r k=>(w r k).trans (by
    by_cases e:r=i
    .simp[e]
    .simp[e,(om:r<i+1↔r<i)])⟩,om⟩
 .simp only[go_sem,aa,b,c,d,a];rw[x];simp only[go_sem,y];obtain rfl:i=n:=om
  obtain⟨g,u,w⟩:=l;exact oZ.vr ⟨g,u,fun r k=>(w r k).trans (by simp[k])⟩
def F7(n m:Nat)(A B:az)(h1:1<=n)(hn:n<=8)(hm:m<=8)(hA:∀i j,i<n->j<n->-262144<A i j/\A i j<262144)(hRd:(∀i j,i<n->j<n->A i j=A j i)/\sn A n)(β:Bool)(hβ:β=true↔Ip n m A B):cJ 110 [av n n A,av m n B] St.none (vC n m A B β):=by
 refine iZ func110 ntmps110 results110 ?_;simp -dsimp only[go_sem,aa];refine(mP n A true h1 hn ⟨fun _=>hRd,fun _=>rfl⟩).call ?_;simp only[go_sem,av];refine cA (fun O S=>∃i:Nat,i<=m/\(∀a k,a<i->k<n->(B a k).natAbs<=1099511627776)/\O 0=av n n A/\O 1=av m n B/\O 19=av m n B/\O 20=ι m/\O 21=ι i/\S=St.none) (fun O S=>m-bS (O 21)) ?_ ?_
 .simp only[go_sem,av];exact⟨0,om,fun a k M=>om,rfl⟩
 rintro Q1 G O S ⟨i,X,H,p,r,s,t,u,rfl⟩;by_cases b:i<m
 .obtain⟨γ,hγ⟩:=jp (∀j,j<n->(B i j).natAbs<=1099511627776);simp -dsimp only[go_sem,aa,p,s,t,u,b,av];refine(Fp n (B i) γ om hγ).call ?_
  cases γ with
  | true =>
   simp only[*,go_sem,av,aI (om:i<1000000),bS]
   refine⟨⟨i+1,om,fun a k M C=>?_,rfl⟩,om⟩
   by_cases e:a=i
   .rw[e];exact hγ.1 rfl k C
   .exact H a k om C
  | false =>
   simp only[go_sem,p,r,s,t,u,av];rw[G];simp only[go_sem];exact aR ⟨cP hβ fun h=>(by have:=hγ.2 (fun j Y=>h.1 i j b Y);cases this),rfl⟩
 have Z:∀a k,a<m->k<n->(B a k).natAbs<=1099511627776:=fun a k M C=>H a k om C;clear H;simp only[go_sem,aa,p,s,t,u,b];rw[G];simp -dsimp only[go_sem,r,av]
 repeat refine an ?_
 refine ax.intro fun bb fb=>?_
 try simp only[go_sem]
 refine cA (fun O S=>∃i:Nat,i<=m/\O 0=av n n A/\O 1=av m n B/\O 8=.sl 1 bb 0 m/\O 35=ι m/\O 36=ι i/\GrR S bb m i (fun _ _=>0)) (fun O S=>m-bS (O 36)) ?_ ?_
 .simp only[*,go_sem,av];exact⟨0,om,rfl,fun _=>0,fq.init fb (fun _ _=>rfl) _ _⟩
 clear p r s t u b X G Q1 O i;rintro Q2 I O S ⟨i,X,p,r,N,R,T,g,d⟩;by_cases b:i<m
 .obtain⟨g4,u4,v4⟩:=id d.outer;simp -dsimp only[*,go_sem,aa,av]
  repeat refine an ?_
  refine ax.intro fun bd fd=>?_;have hdc:bb≠bd:=a6.fresh d.outer fd;have hset:aQ g4 i (.sl 1 bd 0 m) i=.sl 1 bd 0 m:=by simp[aQ]
  try simp only[*,go_sem]
  clear I;have hR1:=d.push dc fd u4 (fun _=>ι 0)
  simp only[go_sem,aI (om:i<1000000),bS]
  refine⟨⟨i+1,om,rfl,_,hR1.congr fun a c _ _=>?_⟩,om⟩
  by_cases e:a=i<;>simp[e]
 simp only[go_sem,aa,p,r,N,R,T,b];rw[I];have D:i=m:=om
 rw[D]at d;clear D b X R T I Q2;simp only[go_sem,r,av];refine cA (fun O S=>∃i:Nat,i<=m/\O 0=av n n A/\O 1=av m n B/\O 8=.sl 1 bb 0 m/\O 46=av m n B/\O 47=ι m/\O 48=ι i/\(∀a c,a<i->c<a+1->(po n A B a c).natAbs<=4611686018427387904)/\GrR S bb m m (fun a c=>if a<i/\c<i then pn n A B a c else 0)) (fun O S=>m-bS (O 48)) ?_ ?_
 .simp only[*,go_sem,av];exact⟨0,om,rfl,fun a c M=>om,g,d.congr fun a c _ _=>by simp⟩
 clear p r N d;clear O S g i;rintro Q3 v O S ⟨i,X,p,r,N,w,x,y,hP,P⟩;by_cases b:i<m
 .simp -dsimp only[go_sem,aa,p,w,x,y,b,av];refine(DX n A (B i) om hA (fun j Y=>Z i j b Y)).call ?_;simp only[go_sem,p,av];refine cA (fun O S=>∃j:Nat,j<=i+1/\O 0=av n n A/\O 1=av m n B/\O 8=.sl 1 bb 0 m/\O 10=ι i/\O 12=aK n (fun k=>ap n (fun l=>A k l*B i l))/\O 46=av m n B/\O 47=ι m/\O 48=ι i/\O 57=ι (i+1:Nat)/\O 58=ι j/\(∀c,c<j->(po n A B i c).natAbs<=4611686018427387904) /\
   GrR S bb m m (fun a c=>if (a<i/\c<i)∨(a=i/\c<j)∨(c=i/\a<j)then pn n A B a c else 0)) (fun O S=>i+1-bS (O 58)) ?_ ?_
  .simp only[*,go_sem,av,aI (om:i<1000000)]
   obtain⟨g,d⟩:=P;exact⟨0,om,rfl,fun c Q=>om,g,d.congr fun a c _ _=>by simp⟩
  clear p r N w x y P;clear O S;rintro Q4 z O S ⟨j,Y,p,r,N,e10,J,w,x,y,U,V,K,P⟩;by_cases L:j<i+1
  .have f:j<m:=om
   simp -dsimp only[go_sem,aa,r,J,U,V,L,f,av];refine(Ki n (B j) _ om (fun k C=>Z j k f C) (fun k C=>by have:=Cx om hA (fun l hl=>Z i l b hl) C (ag n);omega)).call ?_
   have W:ap n (fun k=>B j k*ap n (fun l=>A k l*B i l))=po n A B i j:=rfl;unfold ME;by_cases o:(po n A B i j).natAbs<=4611686018427387904
   case neg =>
    rw[W,ah o,pO o];simp only[go_sem,r,J,av];rw[z];simp only[go_sem];rw[v];simp only[go_sem];exact aR ⟨cP hβ fun h=>o (h.2 i j b L),rfl⟩
   rw[W,aj o,np o];obtain⟨g,d⟩:=P;obtain⟨g4,u4,v4⟩:=id d.outer;obtain⟨g5,u5,v5⟩:=id (d.row i b);obtain⟨g6,u6,v6⟩:=id (d.row j f);have x4:g4 i=.sl 1 (g i) 0 m:=(v4 i b).trans (aj b);have x5:g4 j=.sl 1 (g j) 0 m:=(v4 j f).trans (aj f);clear z v;simp -dsimp only[*,go_sem,av];refine fm 13 kr ?_
   by_cases e:j=i
   .subst e;simp only[*,go_sem,aa,av,aI (om:j<1000000),bS]
    have hv:pn n A B j j=po n A B j j:=aj (ag _);refine⟨⟨j+1,om,rfl,fun c Q=>by
     by_cases q:c=j
     .rw[q];exact o
     .exact K c om,g,((d.put dc f u6 j _).put dc f ca j _).congr fun a c _ _=>?_⟩,om⟩
    dsimp only;by_cases E:a=j/\c=j
    .rw[aj E,aj om];obtain⟨rfl,rfl⟩:=E;exact nv _ hv.symm
    rw[ah E,ah E];by_cases F:(a<j/\c<j)∨(a=j/\c<j)∨(c=j/\a<j)
    .rw[aj F,aj om]
    .rw[ah F,ah om]
   .have nij:g i≠g j:=fun h=>e (d.inj j i f b h.symm);simp only[*,go_sem,aa,av,ai nij,aI (om:j<1000000),bS]
    have hv:pn n A B i j=po n A B i j:=aj om;have hv2:pn n A B j i=po n A B i j:=ah om;have u6':(S.upd (g i) ⟨2,1,m,aQ g5 j (ι (po n A B i j))⟩) (g j)=some ⟨2,1,m,g6⟩:=(aG (ai nij)).trans u6;refine⟨⟨j+1,om,rfl,fun c Q=>by
     by_cases q:c=j
     .rw[q];exact o
     .exact K c om,g,((d.put dc b u5 j _).put dc f u6' i _).congr fun a c _ _=>?_⟩,om⟩
    dsimp only;by_cases E:a=j/\c=i
    .rw[aj E,aj om];obtain⟨rfl,rfl⟩:=E;exact nv _ hv2.symm
    rw[ah E];by_cases q2:a=i/\c=j
    .rw[aj q2,aj om];obtain⟨rfl,rfl⟩:=q2;exact nv _ hv.symm
    rw[ah q2];by_cases F:(a<i/\c<i)∨(a=i/\c<j)∨(c=i/\a<j)
    .rw[aj F,aj om]
    .rw[ah F,ah om]
  simp only[go_sem,aa,r,J,U,V,L];rw[z];clear z v;simp only[*,go_sem,av,aI (om:i<1000000),bS]
  obtain⟨g,d⟩:=P;refine⟨⟨i+1,om,rfl,fun a c M Q=>by
   by_cases q:a=i
   .rw[q];exact K c om
   .exact hP a c om Q,g,d.congr fun a c _ _=>?_⟩,om⟩
  dsimp only;by_cases F:(a<i/\c<i)∨(a=i/\c<j)∨(c=i/\a<j)
  .rw[aj F,aj om]
  .rw[ah F,ah om]
 simp only[go_sem,aa,p,w,x,y,b];rw[v];simp only[go_sem,N];obtain rfl:i=m:=om
 obtain⟨g,d⟩:=P;exact a9 ⟨hβ.2 ⟨Z,hP⟩,bb,g,rfl,(d.imat fun a c M Q=>by dsimp only;rw[aj ⟨M,Q⟩]).1⟩

def uU(n:Nat)(W:az)(β:Bool)(c:1<=n)(m:n<=8)(l:∀i j,i<n->j<n->qO (W i j))(hβ:β=true↔det n W=1∨det n W=-1):PF 109 [av n n W] (.bool β):=by
 have a:∀i j,i<n->j<n->nb (W i j) 64:=fun i j d f=>by have:=l i j d f;unfold qO at this;unfold nb;omega
 refine gN func109 ntmps109 results109 ?_;simp -dsimp only[go_sem,aa];refine(o0 n n W c om c om (fun i j d f=>by have o:=l i j d f;unfold qO at o;omega)).pf.call ?_
 simp -dsimp only[go_sem,aa,av,(om:¬((8:Int)<(n:Int)))]
 refine(Ga n (17*(64+10)) W c om om om (yI om a)).call ?_;simp -dsimp only[go_sem];refine ax.intro fun bx fx=>?_
 try simp -dsimp only[go_sem]
 by_cases b:iw (det n W)
 .refine(rl b).call ?_;by_cases e:det n W=1
  .rw[e,hβ.2 (a9 e)];simp only[go_sem,cl];exact VR.mf rfl
  by_cases g:det n W=-1
  .rw[g,hβ.2 (aR g)];simp only[go_sem,cl];exact VR.mf rfl
  rw[cP hβ fun h=>by rcases h with h|h<;>contradiction]
  simp only[go_sem,show(det n W==1)=false by simpa using e,show(det n W==-1)=false by simpa using g]
  exact VR.mf rfl
 .have k:nb (det n W) (17*(64+10)):=(mG n W om a).mono (by have:=aq (64+10) m;omega)
  refine(Mm k om b).call ?_;rw[cP hβ fun h=>by unfold iw at b;rcases h with h|h<;>rw[h]at b<;>omega]
  simp only[go_sem,show((0:Int)==1)=false from rfl,show((0:Int)==-1)=false from rfl];exact VR.mf rfl
def ColR(S:St)(bb n i r:Nat)(W:az):Prop:=∃(g:Nat->Nat) (x:AV),a6 S bb 29 1 n (fun a=>if a<i then .sl 1 (g a) 0 n else if a=i then x else .nil) /\
 (∀a,a<i->oZ S (g a) n (fun c=>W c a)/\¬dU x (g a))/\cY 2 1 St.none S x r (fun c=>ι (W c i))/\¬dU x bb
def ColT(S:St)(bb n i:Nat)(W:az):Prop:=∃g:Nat->Nat,a6 S bb 29 1 n (fun a=>if a<i then .sl 1 (g a) 0 n else .nil)/\∀a,a<i->oZ S (g a) n (fun c=>W c a)
def KQ(n:Nat)(A W:az):Prop:=(det n W=1∨det n W=-1)/\Ip n n A (fun i r=>W r i)
def qG(n:Nat)(A W:az)(K:1<=n)(V:n<=8)(hA:∀i j,i<n->j<n->-262144<A i j/\A i j<262144)(M:(∀i j,i<n->j<n->A i j=A j i)/\sn A n)(hW:∀i j,i<n->j<n->qO (W i j))(β:Bool)(hβ:β=true↔KQ n A W) :
  cJ 50 [av n n A,av n n W] St.none (vC n n A (fun i r=>W r i) β):=by
 have h5:=V;obtain⟨βu,hβu⟩:=jp (det n W=1∨det n W=-1);obtain⟨βg,hβg⟩:=jp (Ip n n A (fun i r=>W r i));refine iZ func50 ntmps50 results50 ?_;simp -dsimp only[go_sem,aa,av,aP];refine(uU n W βu K om hW hβu).call ?_
 cases βu with
 | false =>
  simp only[go_sem,aP];exact aR ⟨cP hβ fun h=>(by have:=hβu.2 h.1;cases this),rfl⟩
 | true =>
 have hu:=hβu.1 rfl;simp -dsimp only[go_sem,aP]
 repeat refine an ?_
 refine ax.intro fun bb fb=>?_
 try simp only[go_sem]
 refine cA (fun O S=>∃i:Nat,i<=n/\O 0=av n n A/\O 1=av n n W/\O 6=.sl 1 bb 0 n/\O 24=ι n/\O 25=ι i/\ColT S bb n i W) (fun O S=>n-bS (O 25)) ?_ ?_
 .simp only[go_sem,av];exact⟨0,om,rfl,fun _=>0,a6.here fun a b=>by simp,fun a b=>om⟩
 rintro Q1 m O S ⟨i,hi,Y,L,N,f,k,t⟩;by_cases l:i<n
 .simp only[go_sem,L,f,k,l,av];refine cA (fun O S=>∃r:Nat,r<=n/\O 0=av n n A/\O 1=av n n W/\O 6=.sl 1 bb 0 n/\O 7=ι i/\O 24=ι n/\O 25=ι i/\O 28=av n n W/\O 29=ι n/\O 30=ι r/\ColR S bb n i r W) (fun O S=>n-bS (O 30)) ?_ ?_
  .simp only[*,go_sem,av];obtain⟨g,o,v⟩:=t;obtain⟨z,u,w⟩:=o;exact⟨0,om,rfl,g,.nil,⟨z,u,fun a b=>(w a b).trans (by by_cases e:a<i<;>simp[e])⟩,fun a b=>⟨v a b,by rintro⟨_,_,_,e⟩;cases e⟩,cY.nil (fun _ _ h=>by cases h) _,by rintro⟨_,_,_,e⟩;cases e⟩
  clear Y L N f k t;clear O S;rintro Q2 p O S ⟨r,hr,Y,L,N,e7,f,k,B,C,D,g,x,o,v,P,E⟩;by_cases F:r<n
  .obtain⟨g4,Q,Z⟩:=id o;have x4:g4 i=x:=(Z i l).trans sm
   simp -dsimp only[go_sem,B,C,D,F,av,aK];refine fm 11 kr ?_
   simp -dsimp only[go_sem,aa,N,e7,l,Q,x4];clear m p;refine cY.app rfl rfl rfl P om (show ei 1 (ι (W r i))from by simp[ei]) (a9 ⟨_,rfl,rfl⟩) ?_
   intro c S2 R G s;have u5:=G _ _ Q E;simp only[*,go_sem,aa,aI (om:r<1000000),bS]
   have H:c≠bb:=by
    rintro rfl;rcases s with h|h
    .exact E h
    .rw[Q]at h;cases h
   refine⟨⟨r+1,om,rfl,rfl,rfl,rfl,g,.sl 1 c 0 (r+1),⟨_,ca,fun a b=>?_⟩,fun a b=>?_,?_,fun h=>H (d9.1 h).symm⟩,om⟩
   .by_cases e:a=i
    .simp[aQ,e]
    .exact(ah e).trans ((Z a b).trans (by simp[e]))
   .obtain⟨T,r2⟩:=v a b;have U:g a≠bb:=fun h=>by have:=a6.ne T o dc;exact this h
    obtain⟨q,q1,q2⟩:=id T;refine⟨⟨q,(aG U).trans (G _ _ q1 r2),q2⟩,fun y=>?_⟩;rw[d9]at y;rw[<-y]at s;rcases s with h|h
    .exact r2 h
    .exact a6.fresh T h rfl
   .refine(R.keep (x:=.sl 1 bb 0 0) (fun _ _ h=>by cases h) (fun d X hX hd=>(aG (fun h=>hd (d9.2 h))).trans hX) (fun d K h2=>H ((d9.1 K).symm.trans (d9.1 h2)))).congr fun a b=>?_
    by_cases e:a=r
    .subst e;rw[aj rfl]
    .rw[ah e]
  simp only[go_sem,aa,B,C,D,F];rw[p];clear p;simp only[*,go_sem,av,aI (om:i<1000000),bS]
  have I:r=n:=om
  rw[I]at P;rcases P.2 with⟨h0,_⟩|⟨c,_,rfl,t⟩
  .omega
  refine⟨⟨i+1,om,rfl,fun a=>if a=i then c else g a,?_,fun a b=>?_⟩,om⟩
  .obtain⟨z,u,w⟩:=o;refine⟨z,u,fun a b=>(w a b).trans ?_⟩;by_cases e:a=i
   .simp[e]
   .simp[e,(om:a<i+1↔a<i)]
  .by_cases e:a=i
   .subst e;simp only[aE];exact t
   .simp only[e,aH];exact(v a om).1
 simp only[go_sem,L,f,k,l];rw[m];simp -dsimp only[*,go_sem,aa];clear m;have J:i=n:=om
 rw[J]at t;obtain⟨g,o,v⟩:=t;refine(vC.lift (F7 n n A (fun a c=>W c a) K V om hA M βg hβg) S _ (eI.two (VA.refl _ _) (VR.va (VR.sl (h:=fun a=>aK n (fun c=>W c a)) o om fun a b=>?_)))).mono ?_
 .rw[aJ,aj b];exact(v a b).vr
 rintro _ S2 ⟨⟨y,b2,g2,rfl,hN⟩|⟨y,rfl⟩,_⟩
 .simp only[go_sem];exact a9 ⟨hβ.2 ⟨hu,hβg.1 y⟩,b2,g2,rfl,hN⟩
 .simp only[go_sem];exact aR ⟨cP hβ fun h=>(by have:=hβg.2 h.2;rw[y]at this;cases this),rfl⟩

def La(n:Nat)(A:az)(a:Nat)(b:1<=n)(c:n<=16)(d:∀i j,i<n->j<n->nb (A i j) a)(e:a<=10000000):PF 165 [aL n n A] (.tup [.big (det n A),.bool true]):=by
 refine gN func165 ntmps165 results165 ?_;simp -dsimp only[go_sem];refine ax.intro fun f g=>?_
 try simp -dsimp only[go_sem]
 refine(pg n A b c).call ?_;simp -dsimp only[go_sem,aa];refine(jz n A a b c d e).call ?_;simp only[go_sem,aa,aQ];exact VR.tup (l:=[.big (det n A),.bool true]) (by simp[ql])
def uV(n:Nat)(A:az)(b:Nat)(β:Bool)(g:1<=n)(c:n<=16)(f:∀i j,i<n->j<n->nb (A i j) b)(o:b<=100000)(hβ:β=true↔det n A=1∨det n A=-1):PF 105 [aL n n A] (.bool β):=by
 have l:nb (det n A) (16*(b+10)+1):=(mG n A c f).mono (by have:=aq (b+10) c;omega)
 refine gN func105 ntmps105 results105 ?_;simp -dsimp only[go_sem,aa];refine(La n A b g c f om).call ?_;simp -dsimp only[go_sem];refine ax.intro fun p q=>?_
 try simp -dsimp only[go_sem,aQ]
 refine(tV l om).call ?_;simp -dsimp only[go_sem,aa];refine(gE (a:=1) om om).call ?_;simp -dsimp only[go_sem,aa];have d:nb ((det n A).natAbs:Int) (16*(b+10)+1):=by unfold nb at *;omega
 refine(mW d (nb.mono (k:=1) (by unfold nb;omega) om) om).call ?_
 by_cases e:((det n A).natAbs:Int)=1
 .rw[e,ny,hβ.2 om];simp only[go_sem,cl];exact VR.mf rfl
 .have m:(jU ((det n A).natAbs:Int) 1==0)=false:=by
   have:=DQ e;simpa using this
  rw[cP hβ fun h=>om]
  simp only[go_sem,m];exact VR.mf rfl
def Em(n m:Nat)(A B:az)(k:Nat)(β:Bool)(y:1<=n)(z:n<=16)(C:1<=m)(D:m<=16)(F:∀i j,i<n->j<m->nb (A i j) k)(G:∀i j,i<n->j<m->nb (B i j) k)(H:k<=10000000)(hβ:β=true↔∀i j,i<n->j<m->A i j=B i j):PF 106 [aL n m A,aL n m B] (.bool β):=by
 refine gN func106 ntmps106 results106 ?_;simp -dsimp only[go_sem,aa];refine(mo n m A y z C D).call ?_;simp -dsimp only[go_sem,aa];refine(mo n m B y z C D).call ?_;simp only[go_sem,aP];refine cA (fun O S=>∃i:Nat,i<=n/\(∀a j,a<i->j<m->A a j=B a j)/\O 0=aL n m A/\O 1=aL n m B/\O 42=ι n/\O 43=ι i) (fun O S=>n-bS (O 43)) ?_ ?_
 .simp only[go_sem,aL];exact⟨0,om,fun a j E=>om,rfl⟩
 rintro Q' q O S ⟨i,I,r,s,w,f,g⟩;by_cases c:i<n
 .simp only[go_sem,aL,aY,s,f,g,c];refine cA (fun O S=>∃j:Nat,j<=m/\(∀b,b<j->A i b=B i b)/\O 0=aL n m A/\O 1=aL n m B/\O 11=ι i/\O 42=ι n/\O 43=ι i/\O 50=ι m/\O 51=ι j) (fun O S=>m-bS (O 51)) ?_ ?_
  .simp only[*,go_sem,aL,aY];exact⟨0,om,fun b t=>om,rfl⟩
  clear s w f g;clear O S;rintro Q2 u O S ⟨j,J,l,s,w,x,f,g,o,p⟩;by_cases d:j<m
  .simp -dsimp only[go_sem,aL,aY,o,p,d];refine aN 16 kr ?_
   simp only[go_sem,aa,aL,aY,s,w,x,f,g,o,p,c,d];refine⟨_,(mW (F i j c d) (G i j c d) om).pure',?_⟩;by_cases v:A i j=B i j
   .rw[v,ny];simp only[go_sem,aP,aI (om:j<1000000),bS]
    refine⟨⟨j+1,om,fun b t=>?_,rfl⟩,om⟩
    by_cases e:b=j
    .rw[e];exact v
    .exact l b om
   .simp only[go_sem,DQ v];rw[u];simp only[go_sem];rw[q];simp only[go_sem];rw[cP hβ fun h=>v (h i j c d)];exact VR.mf rfl
  .simp only[go_sem,o,p,d];rw[u];simp only[*,go_sem,aI (om:i<1000000),bS]
   refine⟨⟨i+1,om,fun a b E t=>?_,rfl,rfl,rfl⟩,om⟩
   by_cases e:a=i
   .rw[e];exact l b om
   .exact r a b om t
 .simp only[go_sem,aa,s,f,g,c];rw[q];simp only[go_sem];rw[hβ.2 fun a b E t=>r a b om t];exact VR.mf rfl

def Qt(n:Nat)(c:Int)(A:az)(k:Nat)(K:1<=n)(U:n<=8)(L:nb c k)(H:∀i j,i<n->j<n->nb (A i j) k)(V:k<=1000000000):MF 114 [.big c,aL n n A] n n (fun i j=>c*A i j):=by
 refine MF.of (iZ func114 ntmps114 results114 ?_);simp -dsimp only[go_sem,aa];refine ax.intro fun t W=>?_
 try simp -dsimp only[go_sem]
 refine(yS n n A k om K om H om _ _ (cC _ _)).mono ?_;rintro _ S1 ⟨b,g,rfl,p⟩;have q:cT S1 t 50 2 (.big c):=⟨_,p.2.1 t _ ca,rfl⟩;have C:∀i,i<n->g i≠t:=fun i I e=>by have:=p.2.2.2 i I;rw[e,ca]at this;cases this
 have m:=p.1;clear p;simp only[go_sem];refine cA (fun O S=>∃i:Nat,i<=n/\dr S b g n n (rd i A (fun i j=>c*A i j))/\cT S t 50 2 (.big c)/\O 2=.ptr 2 t 0/\O 5=.sl 1 b 0 n/\O 11=ι n/\O 12=ι i) (fun O S=>n-bS (O 12)) ?_ ?_
 .simp only[go_sem];exact⟨0,om,by rw[mq];exact m,q,rfl⟩
 clear m q;rintro Q1 D O S ⟨i,I,m,q,r,s,h,l⟩;by_cases f:i<n
 .obtain⟨E,x,y⟩:=m.outer;have B:E i=.sl 2 (g i) 0 n:=y i f;simp only[go_sem,aa,s,h,l,f,x,B];refine cA (fun O S=>∃j:Nat,j<=n/\dr S b g n n (fun a d=>if a=i then(if d<j then c*A a d else A a d)else rd i A (fun i j=>c*A i j) a d)/\cT S t 50 2 (.big c)/\O 2=.ptr 2 t 0/\O 5=.sl 1 b 0 n/\O 6=ι i/\O 11=ι n/\O 12=ι i/\O 19=ι n/\O 20=ι j) (fun O S=>n-bS (O 20)) ?_ ?_
  .simp only[go_sem,r,s,h,l];refine⟨0,om,m.congr fun a d _ _=>?_,q,rfl⟩
   by_cases e:a=i
   .subst e;simp[rd]
   .simp[e]
  clear r s h l m q x y B;clear O S;rintro Q2 F O S ⟨j,X,m,q,r,s,M,h,l,u,v⟩;by_cases o:j<n
  .obtain⟨E,x,y⟩:=m.outer;obtain⟨N,J,P⟩:=m.row i f;obtain⟨Y,Q,R⟩:=id q;have B:E i=.sl 2 (g i) 0 n:=y i f;have T:N j=.big (A i j):=(P j o).trans sm
   simp -dsimp only[go_sem,u,v,o];refine aN 14 kr ?_
   simp only[go_sem,aa,r,s,M,h,l,u,v,f,o,x,B,J,T,Q,R];refine⟨_,(ji L (H i j f o) om).pure',?_⟩;simp only[go_sem,aI (om:j<1000000),bS]
   refine⟨⟨j+1,om,(m.set (j:=j) (z:=c*A i j) f J).congr fun a d _ _=>?_,q.upd (ai (C i f)) _,rfl⟩,om⟩
   simp only[dS];by_cases e:a=i
   .subst e;by_cases r:d=j
    .subst r;simp
    .simp only[r,Tc,aH,aE];by_cases w:d<j
     .rw[aj w,aj om]
     .rw[ah w,ah om]
   .simp[e]
  .simp only[go_sem,u,v,o];rw[F];simp only[go_sem,r,s,h,l,aI (om:i<1000000),bS]
   refine⟨⟨i+1,om,m.congr fun a d _ Z=>?_,q,rfl⟩,om⟩
   by_cases e:a=i
   .subst e;simp[rd];omega
   .simp only[e,aH,rd];by_cases w:a<i
    .rw[aj w,aj om]
    .rw[ah w,ah om]
 .have G:i=n:=om
  rw[G]at m;simp only[go_sem,aa,s,h,l,f];rw[D];simp only[go_sem,s];exact⟨b,rfl,g,og m⟩
def BP(n:Nat)(R W Q:az)(β:Bool)(c:1<=n)(A:n<=8)(q:∀i j,i<n->j<n->qO (R i j))(r:∀i j,i<n->j<n->qO (W i j))(s:∀i j,i<n->j<n->qO (Q i j))
  (hβ:β=true↔(det n W=1∨det n W=-1)/\∀i j,i<n->j<n->mm n (fun i j=>W j i) (mm n R W) i j=Q i j):PF 47 [av n n R,av n n W,av n n Q] (.bool β):=by
 have l:∀z,qO z->nb z 64:=fun z h=>by unfold qO at h;unfold nb;omega
 have m:∀i j,i<n->j<n->nb (R i j) 64:=fun i j d f=>l _ (q i j d f);have g:∀i j,i<n->j<n->nb (W i j) 64:=fun i j d f=>l _ (r i j d f);have o:∀i j,i<n->j<n->nb (Q i j) 64:=fun i j d f=>l _ (s i j d f);have t:∀i j,i<n->j<n->nb (kh n R W i j) 300:=fun i j d f=>(yA om m g d f).mono om;have v:∀i j,i<n->j<n->nb (kh n (fun i j=>W j i) (kh n R W) i j) 1000:=fun i j d f=>(yA (k:=300) (H:=fun i j=>W j i) om (fun a b w x=>(g b a x w).mono om) t d f).mono om;obtain⟨βu,hβu⟩:=jp (det n W=1∨det n W=-1);obtain⟨βe,hβe⟩:=jp (∀i j,i<n->j<n->kh n (fun i j=>W j i) (kh n R W) i j=Q i j);refine gN func47 ntmps47 results47 ?_;simp -dsimp only[go_sem,aa];refine(uZ n n W c om c om r).call ?_;simp -dsimp only[go_sem,aa];refine(mZ n n W 64 c om c om g om).pf.call ?_;simp -dsimp only[go_sem,aa];refine(uV n W 64 βu c om g om hβu).call ?_
 cases βu with
 | false =>
  simp only[go_sem];rw[cP hβ fun h=>by have:=hβu.2 h.1;cases this]
  exact VR.mf rfl
 | true =>
 have y:=hβu.1 rfl;simp -dsimp only[go_sem,aa];refine(uZ n n R c om c om q).call ?_;simp -dsimp only[go_sem,aa];refine(kv n n n R W 64 c om c om c om m g om).pf.call ?_;simp -dsimp only[go_sem,aa];refine(kv n n n (fun i j=>W j i) (kh n R W) 300 c om c om c om (fun i j d f=>(g j i f d).mono om) t om).pf.call ?_;simp -dsimp only[go_sem,aa];refine(uZ n n Q c om c om s).call ?_;simp -dsimp only[go_sem,aa];refine(Em n n _ Q 1000 βe c om c om v (fun i j d f=>(o i j d f).mono om) om hβe).call ?_;simp only[go_sem];have p:βe=β:=by
  cases βe with
  | true=>exact(hβ.2 ⟨y,hβe.1 rfl⟩).symm
  | false=>exact(cP hβ fun h=>by have:=hβe.2 h.2;cases this).symm
 rw[p];exact VR.mf rfl

def r7(a:∀i j,i<n->j<n->A i j=A j i)(i j:Nat):po n A (fun i r=>W r i) i j=je n A (fun r=>W r i) (fun r=>W r j):=by
 rw[jl a];unfold po je;exact ay fun k _=>bU _ _
def ww(a:∀i j,i<n->j<n->A i j=A j i)(i j:Nat):pn n A (fun i r=>W r i) i j=je n A (fun r=>W r i) (fun r=>W r j):=by
 unfold pn;split
 .exact r7 a i j
 .rw[r7 a,jl a]
def uK(i j:Nat):mm n (fun i j=>W j i) (mm n A W) i j=je n A (fun r=>W r i) (fun r=>W r j):=by
 rw[<-nS,ug]
def Cry(n:Nat)(R W Q:az):Prop:=(det n W=1∨det n W=-1)/\∀i j,i<n->j<n->mm n (fun i j=>W j i) (mm n R W) i j=Q i j
def Cu{R Q:az}(h:n<=8)(c:(∀i j,i<n->j<n->R i j=R j i)/\sn R n)(l:∀i j,i<n->j<n->(Q i j).natAbs<=1120325651456000) :
  (KQ n R W/\∀i j,i<n->j<n->pn n R (fun i r=>W r i) i j=Q i j)↔Cry n R W Q:=by
 have d:=c.1;constructor
 .rintro⟨⟨e,_⟩,f⟩;exact⟨e,fun i j a b=>by rw[uK,<-ww d,f i j a b]⟩
 .rintro⟨e,f⟩;have g:∀i j,i<n->j<n->je n R (fun r=>W r i) (fun r=>W r j)=Q i j:=fun i j a b=>by rw[<-uK,f i j a b]
  refine⟨⟨e,fun i k a m=>?_,fun i j a b=>?_⟩,fun i j a b=>by rw[ww d,g i j a b]⟩
  .exact(c.2.red d h).coord8 h (x:=fun r=>W r i) (by rw[g i i a a];have:=l i i a a;omega) m
  .rw[r7 d,g i j a om];have:=l i j a om;omega
def LO{P:AV->Int->AV->Prop}(third:∀h p v v',P h p v->(∀w M u,bH w M v' u->bH w M v u)->P h p v')
  (bad:∀h v p c,c≠0->Ep 121 [h,ι p,v] c->PF 33 [h,ι p,v] (.tup [.nil,ι c])->P h p v)
  (good:∀(n p:Nat) (H:az) (v:Nat->Nat),eW n H->jT (det n H) p->oW p->jo n p H v->P (av n n H) p (aK n (fun k=>v k)))
  {n l:Nat} {H:az} {p:Int} {v:Nat->Int} (e:1<=n) (d:n<=8) (o:∀i j,i<n->j<n->-9223372036854775808<=H i j/\H i j<=9223372036854775807):P (av n n H) p (aK l v):=by
 have f:=fun S r=>Ct S n H p e d r;have g:=AB n p H e d o;by_cases b:qD n H p=0
 .obtain⟨s,t,x⟩:=Kb b;obtain⟨q,rfl,a⟩:=t.nat;rw[b]at f g;by_cases m:l=n/\AT n q H v
  .obtain⟨rfl,y⟩:=m;obtain⟨z,A⟩:=y.nat;exact third _ _ _ _ (good _ _ _ _ s ⟨a.2.1,a.odd,a.1,x⟩ a z) fun w M u B=>bH.lst_congr (fun i C=>by rw[A i C]) B
  .refine bad _ _ _ 26 dc (K0 f (G3 n l q H v false e d (by have:=a.2.1;omega) a.2.2 ?_)) (F2 g (zC n l q H v false d (by have:=a.2.1;omega) (by have:=a.2.2;omega) ?_))
   .exact⟨(fun h=>by cases h),fun h=>absurd h m⟩
   .exact⟨(fun h=>by cases h),fun h=>absurd h m⟩
 .exact bad _ _ _ _ b (CJ b f) (xW b g)
def Oa{P:AV->Int->AV->Prop}(third:∀h p v v',P h p v->(∀w M u,bH w M v' u->bH w M v u)->P h p v')(first:∀h p v h',P h p v->(∀w M u,bH w M h' u->bH w M h u)->P h' p v)
  (bad:∀h v p c,c≠0->Ep 121 [h,ι p,v] c->PF 33 [h,ι p,v] (.tup [.nil,ι c])->P h p v)
  (good:∀(n p:Nat) (H:az) (v:Nat->Nat),eW n H->jT (det n H) p->oW p->jo n p H v->P (av n n H) p (aK n (fun k=>v k)))
  {m l:Nat} {len:Nat->Nat} {A:az} {p:Int} {v:Nat->Int} (d:m<=12) (f:∀i,i<m->len i<=12) (e:∀i j,i<m->j<len i->qO (A i j)):P (jA m len A) p (aK l v):=by
 by_cases h:SD m len
 .obtain⟨g,o,a⟩:=h;exact first _ _ _ _ (LO third bad good (n:=m) (l:=l) (H:=A) (p:=p) (v:=v) g o fun i j b q=>e i j b (by rw[a i b];exact q)) fun w M u r=>bH.lst_congr (fun i b=>by rw[a i b]) r
 .exact bad _ _ _ 6 dc (CJ dc fun S s=>Ku m len A p d h S s) (xW dc (Ht m len A p d f h e))
def wK.congr{l:List AV}(h:wK f l z)(a:∀w M vs,a8 w M l' vs->a8 w M l vs):wK f l' z:=fun S b w vs c d=>h S b w vs c (a _ _ _ d)
def JB{p:Nat}{B0:az}{v:Nat->Nat}(l:eW n H)(q:jT (det n H) p)(a:oW p)(s:jo n p H v)(t:vO n p H v B0):wK 25 [av n n H,ι p,aK n (fun k=>v k)] (.tup [av n n (kI n p H B0),ι 0])/\wK 15 [av n n H,ι p,aK n (fun k=>v k)] (.tup [av n n (kI n p H B0),ι 0]):=by
 have frz:∀(f:Nat) (Z:az),(∀S,lq S->cJ f [av n n H,ι p,aK n (fun k=>v k)] S (fun r S'=>∃b g B S1,r=.tup [.sl 1 b 0 n,ι 0]/\dy S S1/\ib S1 S' b g n n B/\∀i j,i<n->j<n->B i j=Z i j))->wK f [av n n H,ι p,aK n (fun k=>v k)] (.tup [av n n Z,ι 0]):=fun f Z h S m =>
  (ib.freeze (P:=fun r=>r=.tup [av n n Z,ι 0]) ((h S m).mono fun r S' ⟨b,g,B,S1,e,c,d,u⟩=>⟨b,g,n,Z,S1,e,c,d.congr u,rfl⟩)).mono fun r S' ⟨e,w⟩=>⟨e,by rw[w];exact dy.refl S⟩
 refine⟨frz 25 _ fun S m=>?_,frz 15 _ fun S m=>?_⟩
 .exact(F6 S n p H v l q a s m).mono fun r S' ⟨b,g,B,S1,e,o,c,d⟩=>⟨b,g,_,S1,e,c,d,fun i j _ _=>by rw[wo ((o.nbB a).uniq l a t)]⟩
 .exact(xY S n p H v l q a s).mono fun r S' ⟨b,g,B,S1,e,o,c,d⟩=>⟨b,g,_,S1,e,c,d,fun i j _ _=>by rw[wo (o.uniq l a t)]⟩

def VfyC(h:AV)(p:Int)(v g w:AV):Prop:=∃z:Int,wK 17 [h,ι p,v,g,w] (ι z)/\wK 16 [h,ι p,v,g,w] (ι z)
def Vfy_err{v:AV}(d:c≠0)(f:wK 25 [h,ι p,v] (.tup [.nil,ι c]))(i:wK 15 [h,ι p,v] (.tup [.nil,ι c]))(g w:AV):VfyC h p v g w:=by
 have e:(c != 0)=true:=by simpa using d
 refine⟨c,fun S a=>?_,fun S a=>?_⟩
 .refine iZ func17 ntmps17 results17 ?_;simp -dsimp only[go_sem,aa];refine(f S a).mono ?_;rintro _ S1 ⟨rfl,b⟩;simp only[go_sem,aa,e];exact b
 .refine iZ func16 ntmps16 results16 ?_;simp -dsimp only[go_sem,aa];refine(i S a).mono ?_;rintro _ S1 ⟨rfl,b⟩;simp only[go_sem,aa,e];exact b
def Vfy17_sq{G Q:az}{v:AV}(q:1<=n)(c:n<=8)(s:wK 25 [av n n H,ι p,v] (.tup [av n n Q,ι 0]))(u:∀i j,i<n->j<n->(Q i j).natAbs<=1120325651456000)(f:PF 48 [av n n G] (.bool true))
  (d:(∀i j,i<n->j<n->G i j=G j i)/\sn G n) (w:∀i j,i<n->j<n->qO (W i j)) {β:Bool} (hβ:β=true↔Cry n G W Q):wK 17 [av n n H,ι p,v,av n n G,av n n W] (ι (if β then 0 else 10)):=fun S x=>by
 have y:=fun(m:Nat) (h:m=n)=>(show true=true↔m=n/\∀i,i<m->n=n from⟨fun _=>⟨h,fun _ _=>rfl⟩,fun _=>rfl⟩);have g:∀i j,i<n->j<n->-262144<G i j/\G i j<262144:=fun i j z A=>by have:=(d.2.red d.1 c).entry c z A;omega
 refine iZ func17 ntmps17 results17 ?_;simp -dsimp only[go_sem,aa];refine(s S x).mono ?_;rintro _ S1 ⟨rfl,k⟩;simp -dsimp only[go_sem,aa,aP];refine f.call ?_;simp -dsimp only[go_sem,aa,av,aP];refine(tN n n (fun _=>n) W true om (y n rfl)).call ?_;simp -dsimp only[go_sem,aa];obtain⟨βt,hβt⟩:=jp (KQ n G W);obtain⟨βe,hβe⟩:=jp (∀i j,i<n->j<n->pn n G (fun i r=>W r i) i j=Q i j);have a:=Cu (W:=W) c d u;refine(vC.lift (qG n G W q c g d w βt hβt) S1 _ (cC _ _)).mono ?_;rintro _ S2 ⟨⟨l,C,D,rfl,B⟩|⟨l,rfl⟩,b⟩
 .simp -dsimp only[go_sem,aa];refine(qJ n n _ Q βe om om hβe).spec (eI.three B.vr.va (VA.refl _ _) (VA.refl _ _)) ?_
  cases βe with
  | false =>
   rw[show β=false from cP hβ fun o=>by have:=hβe.2 (a.2 o).2;cases this]
   simp only[go_sem];exact k.trans b
  | true =>
   rw[show β=true from hβ.2 (a.1 ⟨hβt.1 l,hβe.1 rfl⟩)];simp only[go_sem];exact k.trans b
 .rw[show β=false from cP hβ fun o=>by have:=hβt.2 (a.2 o).1;rw[l]at this;cases this]
  simp only[go_sem];exact k.trans b
def M7{G Q:az}{v:AV}(d:1<=n)(e:n<=8)(f:wK 15 [av n n H,ι p,v] (.tup [av n n Q,ι 0]))(g:∀i j,i<n->j<n->(Q i j).natAbs<=1120325651456000)(a:PF 21 [av n n G] (.bool true))
  (b:∀i j,i<n->j<n->qO (G i j)) (k:∀i j,i<n->j<n->qO (W i j)) {β:Bool} (hβ:β=true↔Cry n G W Q):wK 16 [av n n H,ι p,v,av n n G,av n n W] (ι (if β then 0 else 10)):=fun S l=>by
 have o:=fun(m:Nat) (h:m=n)=>(show true=true↔m=n/\∀i,i<m->n=n from⟨fun _=>⟨h,fun _ _=>rfl⟩,fun _=>rfl⟩);refine iZ func16 ntmps16 results16 ?_;simp -dsimp only[go_sem,aa];refine(f S l).mono ?_;rintro _ S1 ⟨rfl,c⟩;simp -dsimp only[go_sem,aa,aP];refine a.call ?_;simp -dsimp only[go_sem,aa,av,aP];refine(D9 n n (fun _=>n) W true om (o n rfl)).call ?_;simp -dsimp only[go_sem,aa];refine(BP n G W Q β d e b k (fun i j q r=>by have:=g i j q r;unfold qO;omega) hβ).call ?_
 cases β with
 | false =>
  simp only[go_sem];exact c
 | true =>
  simp only[go_sem];exact c

end Go.Proofs.YtdobfmlmenaajaaGreatDoor
