/-
  Lemmas for NeighbourIndex.
-/
import Derived.Test.YtdobfmlmenaajaaGreatDoorJ18
namespace Go.Proofs.YtdobfmlmenaajaaGreatDoor
open Go.RowKit Tryz
open _root_.Int renaming ofNat_lt→af,zero_le_ofNat→az,natCast_mul→ck,pow_succ→eY
open _root_.List renaming not_mem_nil→aT,mem_cons→cT
open _root_.Nat renaming reduceEqDiff→aa,add_one_le_iff→ab,reduceLT→ae,reduceAdd→ak,reduceLeDiff→au,mul_le_mul→bN,le_trans→bV
open _root_.Ne renaming symm→ao
open _root_.Option renaming none→ac
set_option maxHeartbeats 6400000
set_option maxRecDepth 4096
set_option linter.all false
theorem xL(n m k:Nat)(A:aW)(i j:Nat)(hi:i<m)(hj:j<n)(hA:nb (A j i) k)(hk:k<=1000000):PF 156 [.int .i64 i,.int .i64 j,.pat 1 (aZ n m A)] (.big (A j i)):=by
 refine PF.of_spec (aD func156 rfl 14 ntmps156 kr sm (by simp[results156]) ?_)
 rw[aQ,results156];simp -dsimp only[go_sem,ak];refine aH.intro fun bc fc=>?_
 try simp -dsimp only[go_sem,aa,au,ae,reduceCtorEq,af,aZ,bn,hi,hj]
 refine(pQ hA om).call ?_;simp -dsimp only[go_sem,aa,ae,↓reduceIte,reduceCtorEq,ab];exact VR.mf rfl
theorem wH(n m k:Nat)(A:aW)(h1:1<=n)(h2:n<=16)(h3:1<=m)(h4:m<=16)(hA:∀i j,i<n->j<m->nb (A i j) k)(hk:k<=1000000):xN 94 [aZ n m A] m n (fun i j=>A j i):=by
 refine xN.of ?_;refine aD func94 rfl 19 ntmps94 kr sm (by simp[results94]) ?_
 rw[aQ,results94];simp -dsimp only[go_sem,aa,ae,↓reduceIte,ab,aZ,bn];refine aH.intro fun bc fc=>?_
 try simp -dsimp only[go_sem,ae]
 refine(jP n m A h1 h2 h3 h4).call ?_;simp -dsimp only[go_sem,aa,ae,↓reduceIte,ab];refine(pk m n 156 [.pat 1 (aZ n m A)] (fun i j=>A j i) om h4 h2 (fun i j hi hj=>xL n m k A i j hi hj (hA j i hj hi) hk) _ _ (dO.fn1 (dO.one (VA.ptr (dl.new rfl) (VA.refl _ _))))).mono ?_;rintro _ S1 ⟨b,g,rfl,hN⟩;simp -dsimp only[go_sem,aa];exact⟨b,rfl,g,hN.1⟩
theorem cG.appx{t e es:Nat}{S0 S S3:St}{x y v:AV}{j:Nat}{g:Nat->AV}{K:AV->St->Prop}(he:c9 t=some e)(hz:(fD e).isSome=true)(hes:es=bP e)(hE:eJ S S3)(h:cG e es S0 S x j g)(hj:j<1000000)(hv:dI es v)
  (hy:∃b gb ty,y=.sl es b 0 1/\S3 b=some ⟨ty,es,1,gb⟩/\gb 0=v/\S b=ac)
  (hK:∀c S',cG e es S0 S' (.sl es c 0 (j+1)) (j+1) (fun i=>if i=j then v else g i)->(∀d X,S d=some X->¬dB x d->S' d=some X)->(dB x c∨S c=ac)->K (.sl es c 0 (j+1)) S'):eV t t x y S3 K:=by
 obtain⟨b,gb,ty,rfl,hb,hg,hn⟩:=hy;have h3:cG e es S0 S3 x j g:=h.keep (x:=.nil) (h.1.trans hE) (fun d X hd _=>hE d X hd) (fun d _=>by rintro⟨_,_,_,e⟩;cases e)
 refine cG.app he hz hes h3 hj hv (Or.inr ⟨b,gb,ty,rfl,hb,hg,fun hi=>h.fresh hn b hi rfl⟩) fun c S' h1 h2 h4=>hK c S' h1 (fun d X hd hx=>h2 d X (hE d X hd) hx) (h4.imp id fun h=>hE.none h)
theorem sG(S:St)(d n p:Nat)(H:aW)(v:Nat->Nat)(hF:iZ n H)(hg:kA (det n H) p)(hp:p∈cQ)(hL:lK n p H v)(hd:bE S d 2 1 n (fun k=>.int .i64 ((v k:Nat):Int)))(hG:kD S) :
  cS 41 [aN n n H,.int .i64 p,.sl 1 d 0 n] S (fun r S'=>∃b c g B Q,r=.tup [.sl 1 b 0 n,.sl 1 c 0 n,.int .i64 0]/\nd n p H v B/\(∀i j,i<n->j<n->mm n (mm n (fun i j=>B j i) H) B i j=p*p*Q i j/\(Q i j).natAbs<=246591576450)/\cZ S' c g n n Q/\eJ S S'):=by
 have h1:=hF.one;have hn:=hF.five;have hp17:3<=p/\p<=17:=by
  have hp':=hp;simp only[cQ,cT,aT,or_false]at hp';omega
 have hpp:(p:Int)*p<=289/\9<=(p:Int)*p:=by
  rw[<-ck];have a:=bN hp17.2 hp17.2;have b:=bN hp17.1 hp17.1;omega
 have wpp:IntKind.i64.wrap ((p:Int)*p)=(p:Int)*p:=i64_in om om;refine aD func41 rfl 108 ntmps41 kr sm (by simp[results41]) ?_
 rw[aQ,results41];simp -dsimp only[go_sem,ak,aa,ae,reduceCtorEq,ab];refine(rC S d n p H v hF hg hp hL hd hG).mono ?_;rintro _ S1 ⟨b,g,B,rfl,hB,hM1,hE1⟩;simp -dsimp only[go_sem,aa,ae,reduceCtorEq,ab,bne_self_eq_false];refine(qr n n H h1 om h1 om (fun i j hi hj=>by have:=hF.ent i j hi hj;omega) S1 _ (cH _ _)).mono ?_
 rintro _ S2 ⟨bf,gf,rfl,hf⟩;have hM2:=hM1.ext hf.2.1;have hBn:∀i j,i<n->j<n->nb (B i j) 9:=fun i j hi hj=>by have:=hB.ent hp hi hj;unfold nb;omega
 have hHn:∀i j,i<n->j<n->nb (H i j) 17:=fun i j hi hj=>hF.ent.nb hi hj;simp -dsimp only[go_sem,aa,ae,reduceCtorEq,ab];refine(wH n n 9 B h1 om h1 om hBn om S2 _ (dO.one hM2.vr.va)).mono ?_;rintro _ S3 ⟨bt,gt,rfl,ht⟩;have hM3:=hM2.ext ht.2.1;have hf3:=hf.1.ext ht.2.1;simp -dsimp only[go_sem,aa,ae,ab];refine(rX n n n 17 (fun i j=>B j i) H h1 om h1 om h1 om (fun i j hi hj=>(hBn j i hj hi).mono om) hHn om S3 _ (dO.two ht.1.vr.va hf3.vr.va)).mono ?_;rintro _ S4 ⟨b1,g1,rfl,hm1⟩;have hM4:=hM3.ext hm1.2.1;have hmn:∀i j,i<n->j<n->nb (mm n (fun i j=>B j i) H i j) 31:=fun i j hi hj=>(pR (f:=fun k=>B k i*H k j) (k:=26) n fun k hk=>(hBn k i hk hi).mul (hHn k j hk hj)).mono om;simp -dsimp only[go_sem,aa,ae,ab];refine(rX n n n 31 (mm n (fun i j=>B j i) H) B h1 om h1 om h1 om hmn (fun i j hi hj=>(hBn i j hi hj).mono om) om S4 _ (dO.two hm1.1.vr.va hM4.vr.va)).mono ?_;rintro _ S5 ⟨bp,gp,rfl,hm2⟩;have hent:=fun i j (hi:i<n) (hj:j<n)=>hB.gram_ent hF hp hi hj;have hdvd:=fun i j (hi:i<n) (hj:j<n)=>hB.gram hF hp hi hj;have hP5:=hm2.1;have hE5:eJ S S5:=(((hE1.trans hf.2.1).trans ht.2.1).trans hm1.2.1).trans hm2.2.1;generalize hPP:mm n (mm n (fun i j=>B j i) H) B=P at *;clear hm2 hm1 hf ht hf3 hM4 hM3 hM2 hM1 hmn;simp -dsimp only[go_sem,aa,ae,reduceCtorEq,ab,wpp];refine(jw (a:=(p:Int)*p) om om).call ?_;simp -dsimp only[go_sem];refine aH.intro fun b15 f15=>?_;simp -dsimp only[go_sem,aa,ae,↓reduceIte,reduceCtorEq,ab];have hV6:dl ((S5.upd b15 ⟨50,2,1,fun _=>.big 0⟩).upd b15 ⟨50,2,1,bJ (fun _=>.big 0) 0 (.big ((p:Int)*p))⟩) b15 50 2 (.big ((p:Int)*p)):=dl.set;have hE6:eJ S5 ((S5.upd b15 ⟨50,2,1,fun _=>.big 0⟩).upd b15 ⟨50,2,1,bJ (fun _=>.big 0) 0 (.big ((p:Int)*p))⟩):=((eJ.refl S5).upd f15 _).upd f15 _;have hP6:=hP5.ext hE6;refine eF (fun O S=>∃(i:Nat) (x:AV) (g:Nat->Nat),i<=n/\O 6=.sl 1 b 0 n/\O 7=x/\O 15=.ptr 2 b15 0/\O 62=.sl 1 bp 0 n/\O 63=.int .i64 n/\O 64=.int .i64 i /\
  cG 59 1 ((S5.upd b15 ⟨50,2,1,fun _=>.big 0⟩).upd b15 ⟨50,2,1,bJ (fun _=>.big 0) 0 (.big ((p:Int)*p))⟩) S x i (fun a=>.sl 2 (g a) 0 n)/\(∀a,a<i->gJ S (g a) n (fun j=>P a j/(p*p)))/\∀a c,a<i->c<i->g a=g c->a=c) (fun O S=>n-ca (O 64)) ?_ ?_
 ·simp -dsimp only[go_sem,aa];exact⟨0,om,rfl,fun _=>0,cG.nil (eJ.refl _) _,fun a ha=>om,fun a c ha=>om⟩
 generalize (S5.upd b15 ⟨50,2,1,fun _=>AV.big 0⟩).upd b15 ⟨50,2,1,bJ (fun _=>AV.big 0) 0 (AV.big ((p:Int)*p))⟩=S6 at *;rintro Q' hQ' O S ⟨i,x,g,hi,e6,e7,e15,e62,e63,e64,hX,hR,hI⟩;by_cases hlt:i<n
 ·have hP:=hP6.ext hX.1;obtain⟨g1,u1,v1⟩:=id hP.outer;have x1:g1 i=.sl 2 (gp i) 0 n:=v1 i hlt;simp -dsimp only[go_sem,aa,↓reduceIte,af,decide_true,ab,e62,e63,e64,hlt,u1,x1];refine eF (fun O S'=>∃(j:Nat) (y:AV),j<=n/\O 6=.sl 1 b 0 n/\O 7=x/\O 15=.ptr 2 b15 0/\O 18=y/\O 62=.sl 1 bp 0 n/\O 63=.int .i64 n/\O 64=.int .i64 i/\O 68=.sl 2 (gp i) 0 n/\O 69=.int .i64 n/\O 70=.int .i64 j /\
   cG 59 1 S6 S' x i (fun a=>.sl 2 (g a) 0 n)/\(∀a,a<i->gJ S' (g a) n (fun j=>P a j/(p*p))/\¬dB y (g a))/\cG 50 2 S6 S' y j (fun c=>.big (P i c/(p*p)))/\∀d,dB x d->¬dB y d) (fun O S=>n-ca (O 70)) ?_ ?_
  ·simp -dsimp only[go_sem,aa,e6,e7,e15,e62,e63,e64];exact⟨0,om,rfl,hX,fun a ha=>⟨hR a ha,by rintro⟨_,_,_,e⟩;cases e⟩,cG.nil hX.1 _,fun d _=>by rintro⟨_,_,_,e⟩;cases e⟩
  clear e6 e7 e15 e62 e63 e64 hX hR hP u1 v1 x1;rintro Q2 hQ2 O S' ⟨j,y,hj,e6,e7,e15,e18,e62,e63,e64,e68,e69,e70,hX,hR,hY,hXY⟩;by_cases hjm:j<n
  ·have hP:=hP6.ext hX.1;obtain⟨g1,u1,v1⟩:=id (hP.row i hlt);have x1:g1 j=.big (P i j):=v1 j hjm;have hV:=hV6.ext hX.1;have hb1:=hent i j hlt hjm;obtain⟨z,hz⟩:=hdvd i j hlt hjm;have hq:P i j/((p:Int)*p)=z:=by rw[hz,Int.mul_ediv_cancel_left _ om]
   have hzb:z.natAbs<=246591576450:=by
    rw[<-hq];exact bV (t7 om) hb1
   simp -dsimp only[go_sem,aa,af,decide_true,ab,e68,e69,e70,hjm,u1];refine aH.intro fun b20 f20=>?_;obtain⟨g2,u2,v2⟩:=(id hV.get);have n20:b15≠b20:=hV.fresh f20;simp -dsimp only[go_sem,aa,ae,↓reduceIte,ab,e15,x1,n20,u2,v2,ed];refine(mb (a:=P i j) (b:=(p:Int)*p) (k:=64) (by unfold nb;omega) (by unfold nb;omega) om om).call ?_
   rw[hq];simp -dsimp only[go_sem,aa,↓reduceIte];refine aH.intro fun b21 f21=>?_;have n21_20:=(ai f21).1
   try simp -dsimp only[go_sem]
   refine aH.intro fun b22 f22=>?_;have n22_21:=(ai f22).1;have n22_20:=(ai (ai f22).2).1
   try simp -dsimp only[go_sem,aa,au,ae,↓reduceIte,nn n22_21]
   refine(vR (a:=z) (by unfold jQ;omega)).call ?_
   simp -dsimp only[go_sem,aa,ae,↓reduceIte,decide_false,ab,e18,ao n22_21,(om:¬(z < -4611686018427387904)),(om:¬((4611686018427387904:Int)<z)),ed]
   refine aH.intro fun b98 f98=>?_;have n98_22:=(ai f98).1;have n98_21:=(ai (ai f98).2).1;have n98_22:=(ai (ai (ai f98).2).2).1;have n98_21:=(ai (ai (ai (ai f98).2).2).2).1;have n98_20:=(ai (ai (ai (ai (ai f98).2).2).2).2).1
   try simp -dsimp only[go_sem,aa,↓reduceIte,e18]
   have f21':S' b21=ac:=by simpa only[aP n21_20]using f21
   have f22':S' b22=ac:=by simpa only[aP n22_21,aP n22_20]using f22
   have f98':S' b98=ac:=by simpa only[aP n98_22,aP n98_21,aP n98_20]using f98
   refine cG.appx rfl rfl rfl ((((((((eJ.refl S').upd f20 _).upd f20 _).upd f21' _).upd f22' _).upd f21' _).upd f22' _).upd f98' _) hY om (show dI 2 (.big z)from trivial) ⟨_,_,_,rfl,bZ,rfl,f98'⟩ ?_;intro c S2 hY' hk1 hk3;simp -dsimp only[go_sem,aa,↓reduceIte,e6,e7,e15,e18,e62,e63,e64,e68,e69,e70,a6 (om:j<1000000),ca]
   refine⟨⟨j+1,om,rfl,hX.keep hY'.1 hk1 hXY,fun a ha=>?_,hY'.congr fun a ha=>?_,fun d hd he=>?_⟩,om⟩
   ·obtain⟨r1,r2⟩:=hR a ha;refine⟨r1.via fun X hX=>hk1 _ _ hX r2,fun hb=>?_⟩;rw[ez]at hb;rw[<-hb]at hk3;rcases hk3 with h|h
    ·exact r2 h
    ·exact bE.fresh r1 h rfl
   ·by_cases e:a=j
    ·subst e;rw[if_pos rfl,hq]
    ·rw[if_neg e]
   ·rw[ez]at he;subst he;rcases hk3 with h|h
    ·exact hXY d hd h
    ·exact hX.fresh h d hd rfl
  ·obtain rfl:j=n:=om
   rcases hY.2 with⟨h0,_⟩|⟨c,_,rfl,hC⟩
   ·omega
   simp -dsimp only[go_sem,aa,af,decide_false,ab,e68,e69,e70,hjm];rw[hQ2];simp -dsimp only[go_sem,aa,↓reduceIte,e7,e18];refine aH.intro fun b103 f103=>?_
   try simp -dsimp only[go_sem,aa,↓reduceIte,e7]
   refine cG.appx rfl rfl rfl ((eJ.refl S').upd f103 _) hX om (show dI 1 (.sl 2 c 0 j)from trivial) ⟨_,_,_,rfl,bZ,rfl,f103⟩ ?_;intro d S2 hX' hk1 hk3;have hxc:¬dB x c:=fun h=>hXY c h (ez.2 rfl);simp -dsimp only[go_sem,aa,e6,e7,e15,e18,e62,e63,e64,a6 (om:i<1000000),ca]
   refine⟨⟨i+1,om,rfl,fun a=>if a=i then c else g a,hX'.congr fun a ha=>by grind,fun a ha=>?_,fun a d ha hd e=>?_⟩,om⟩
   ·by_cases e:a=i
    ·subst e;simp only[if_true];exact hC.via fun X hX=>hk1 _ _ hX hxc
    ·simp only[e,if_false];obtain⟨gg,hgg,hg2⟩:=(hR a om).1;exact⟨gg,hk1 _ _ hgg (hX.other hgg om),hg2⟩
   ·have k1:=fun a ha=>(hR a ha).2;simp only[ez]at k1
    grind
 have hin:i=n:=om
 rw[hin]at hX hR hI;rcases hX.2 with⟨h0,_⟩|⟨c,_,rfl,hC⟩
 ·omega
 simp -dsimp only[go_sem,aa,↓reduceIte,af,decide_false,ab,e62,e63,e64,hlt];rw[hQ'];simp -dsimp only[go_sem,aa,↓reduceIte,e6,e7];refine⟨b,c,rfl,g,B,hB,fun i j=>P i j/(p*p),fun i j hi hj=>⟨?_,?_⟩,⟨hC,hR,hI⟩,(hE5.trans hE6).trans hX.1⟩
 ·rw[hPP,Int.mul_ediv_cancel' (hdvd i j hi hj)]
 ·exact bV (t7 om) (hent i j hi hj)
theorem Cm(S:St)(d n p:Nat)(H:aW)(v:Nat->Nat)(hF:iZ n H)(hg:kA (det n H) p)(hp:p∈cQ)(hL:lK n p H v)(hd:bE S d 2 1 n (fun k=>.int .i64 ((v k:Nat):Int)))(hG:kD S) :
  cS 25 [aN n n H,.int .i64 p,.sl 1 d 0 n] S (fun r S'=>∃c g Q,r=.tup [.sl 1 c 0 n,.int .i64 0]/\det n Q=det n H/\(∀i j,i<n->j<n->(Q i j).natAbs<=246591576450)/\dR S' c g n n Q/\eJ S S'):=by
 have h1:=hF.one;have hn:=hF.five;have hp3:3<=p:=by
  have hp':=hp;simp only[cQ,cT,aT,or_false]at hp';omega
 refine aD func25 rfl 30 ntmps25 kr sm (by simp[results25]) ?_
 rw[aQ,results25];simp -dsimp only[go_sem,ak,aa,ae,reduceCtorEq,ab];refine(sG S d n p H v hF hg hp hL hd hG).mono ?_;rintro _ S1 ⟨b,c,g,B,Q,rfl,hB,hQ,hM,hE⟩;simp -dsimp only[go_sem,aa,ae,reduceCtorEq,ab,bne_self_eq_false];refine(rR n n Q h1 om h1 om (fun i j hi hj=>by have:=(hQ i j hi hj).2;unfold jQ;omega) S1 _ (dO.one hM.vr.va)).mono ?_
 rintro _ S2 ⟨b2,g2,rfl,hM2⟩;simp -dsimp only[go_sem,aa];exact⟨b2,rfl,g2,Q,Hi (p:=(p:Int)) om hB.tri.1 hB.tri.2.1 (hB.det hp hL) (fun i j hi hj=>(hQ i j hi hj).1),fun i j hi hj=>(hQ i j hi hj).2,hM2.1,hE.trans hM2.2.1⟩
theorem zI(n:Nat)(A:aW)(k0:Nat)(h1:1<=n)(h2:n<=8)(hA:∀i j,i<n->j<n->nb (A i j) k0)(hk:k0<=500000)(hr:lA A n):PF 58 [aZ n n A] (.bool true):=by
 refine PF.of_spec (aD func58 rfl 38 ntmps58 kr sm (by simp[results58]) ?_)
 rw[aQ,results58];simp -dsimp only[go_sem,aa,ae,reduceCtorEq,ab];refine(qF n A k0 h1 om hA om).call ?_;simp -dsimp only[go_sem,aa,reduceCtorEq,aZ];refine aM (fun O S=>∃i:Nat,i<=n/\O 0=aZ n n A/\O 3=bn n (fun k=>det (k+1) A)/\O 13=.int .i64 n/\O 14=.int .i64 i) (fun O S=>n-ca (O 14)) ?_ ?_
 ·simp -dsimp only[go_sem,aa,reduceCtorEq,aZ,bn];exact⟨0,om,rfl⟩
 ·rintro O S ⟨i,hi,e0,e3,e13,e14⟩;by_cases hlt:i<n
  ·simp -dsimp only[go_sem,aa,↓reduceIte,af,decide_true,e13,e14,hlt];refine aM (fun O S=>∃j:Nat,j<=i/\O 0=aZ n n A/\O 3=bn n (fun k=>det (k+1) A)/\O 5=.int .i64 i/\O 6=.int .i64 j/\O 13=.int .i64 n/\O 14=.int .i64 i) (fun O S=>n-ca (O 6)) ?_ ?_
   ·simp -dsimp only[go_sem,aa,reduceCtorEq,e0,e3,e13,e14];exact⟨0,om,rfl⟩
   ·clear e0 e3 e13 e14;rintro O S ⟨j,hj,e0,e3,e5,e6,e13,e14⟩;by_cases hjt:j<i
    ·have hs:=hr.1 i hlt j hjt;have hs':decide (2*((jW A i j).natAbs:Int)<=det (j+1) A)=true:=by simpa [gE]using hs
     simp -dsimp only[go_sem,aa,ae,↓reduceIte,reduceCtorEq,af,decide_true,ab,e0,e3,e5,e6,e13,e14,hjt];refine(Ci n i j A k0 hjt hlt om hA om).call ?_;rw[hs'];simp -dsimp only[go_sem,aa,reduceCtorEq,e0,e3,e5,e6,e13,e14,a6 (om:j<1000000),ca]
     exact⟨⟨j+1,om,rfl⟩,om⟩
    ·by_cases h0:0<i
     ·have hi0':(0:Int)<(i:Int):=om
      have hl:=hr.2 i h0 hlt;have hl':decide (3*(det i A*det i A)<=4*(det (i-1) A*det (i+1) A+jW A i (i-1)*jW A i (i-1)))=true:=by simpa [jc]using hl
      simp -dsimp only[go_sem,aa,ae,↓reduceIte,reduceCtorEq,af,decide_true,decide_false,ab,e0,e3,e5,e6,hjt,hi0'];refine(yV n i A k0 h0 hlt om hA om).call ?_;rw[hl'];simp -dsimp only[go_sem,aa,reduceCtorEq,decide_true,e0,e3,e5,e13,e14,hi0',a6 (om:i<1000000),ca]
      exact⟨⟨i+1,om,rfl⟩,om⟩
     ·obtain rfl:i=0:=om
      simp -dsimp only[go_sem,aa,ae,↓reduceIte,reduceCtorEq,decide_false,ab,e0,e3,e5,e6,e13,e14,show((0:Nat):Int)=0 from rfl,Int.lt_irrefl,show IntKind.i64.wrap ((0:Int)+1)=1 from rfl,ca];exact⟨⟨1,om,rfl⟩,by simp;omega⟩
  ·simp -dsimp only[go_sem,aa,↓reduceIte,af,decide_false,e13,e14,hlt];exact VR.mf rfl
theorem wS(n:Nat)(H:aW)(hF:iZ n H):PF 21 [aN n n H] (.bool true):=by
 have h1:=hF.one;have hn:=hF.five;have hA:∀i j,i<n->j<n->nb (H i j) 17:=fun i j hi hj=>hF.ent.nb hi hj;refine PF.of_spec (aD func21 rfl 24 ntmps21 kr sm (by simp[results21]) ?_)
 rw[aQ,results21];simp -dsimp only[go_sem,aa,ae,reduceCtorEq,ab];refine(sd _ n n H h1 om h1 om (fun i j hi hj=>hF.ent.r64 hi hj)).mono ?_;rintro _ S1 ⟨b,g,rfl,hM⟩;simp -dsimp only[go_sem,aa,ae,reduceCtorEq,ab];refine(mG n H 17 h1 om hA om hF.red.pd.sym true (by simpa using hF.red.pd.pos)).spec (dO.one hM.vr.va) ?_
 simp -dsimp only[go_sem,aa,ae,↓reduceIte,ab];refine(yh n H 17 h1 om hA om).spec (dO.one hM.vr.va) ?_;rw[show decide (det n H<=10000)=true by simpa using hF.small]
 simp -dsimp only[go_sem,aa,ae,↓reduceIte,ab];refine(zI n H 17 h1 om hA om hF.red.rows).spec (dO.one hM.vr.va) ?_;simp -dsimp only[go_sem,aa,↓reduceIte];exact VR.mf rfl
theorem FC(n p:Nat)(H:aW)(hF:iZ n H)(hg:kA (det n H) p)(hp:p<=17):PF 74 [aN n n H,.int .i64 p,.bool false] (.int .i64 0):=by
 refine PF.of_spec (aD func74 rfl 25 ntmps74 kr sm (by simp[results74]) ?_)
 rw[aQ,results74];simp -dsimp only[go_sem,ak,aa,ae,reduceCtorEq,ab];refine(wS n H hF).call ?_;simp -dsimp only[go_sem,aa,ae,reduceCtorEq,ab];refine(Ay n p H hF.one (by have:=hF.five;omega) hF.ent hF.det hg.1 om true (by simpa using⟨hg.2.2.1,hg.2.2.2⟩)).call ?_
 simp -dsimp only[go_sem,aa,reduceCtorEq];exact VR.mf rfl
theorem yQ(n:Nat)(A:aW)(hn:n<=16):PF 22 [aN n n A,.int .i64 n] (.bool true):=by
 refine PF.of_spec (aD func22 rfl 22 ntmps22 kr sm (by simp[results22]) ?_)
 rw[aQ,results22];simp -dsimp only[go_sem,ak,reduceCtorEq,aN,bO];refine aM (fun O S=>∃i:Nat,i<=n/\O 0=aN n n A/\O 1=.int .i64 n/\O 7=aN n n A/\O 8=.int .i64 n/\O 9=.int .i64 i) (fun O S=>n-ca (O 9)) ?_ ?_
 ·simp -dsimp only[go_sem,aa,reduceCtorEq,aN,bO];exact⟨0,om,rfl⟩
 ·rintro O S ⟨i,hi,e0,e1,e7,e8,e9⟩;by_cases hlt:i<n
  ·simp -dsimp only[go_sem,aa,↓reduceIte,reduceCtorEq,af,decide_true,aN,bO,e0,e1,e7,e8,e9,hlt,bne_self_eq_false,a6 (om:i<1000000),ca]
   exact⟨⟨i+1,om,rfl⟩,om⟩
  ·simp -dsimp only[go_sem,aa,↓reduceIte,reduceCtorEq,af,decide_false,aN,bO,e0,e1,e7,e8,e9,hlt,beq_self_eq_true];exact VR.mf rfl
theorem zN{a:Int}{k:Nat}(h:nb a k):∀i,nb (a^i) (i*k+1)
 | 0=>by rw[Int.pow_zero];exact nb.one om
 | i+1=>by
  rw[eY];exact((zN h i).mul h).mono (by rw[Nat.succ_mul];omega)
theorem Mt(a:Int)(n:Nat)(hn:n<=8)(ha:nb a 32):PF 28 [.big a,.int .i64 n] (.tup [.big (a^n),.bool true]):=by
 refine PF.of_spec (aD func28 rfl 25 ntmps28 kr sm (by simp[results28]) ?_)
 rw[aQ,results28];simp -dsimp only[go_sem,ak];refine aH.intro fun bc fc=>?_
 try simp -dsimp only[go_sem,ak,aa,au,ae,↓reduceIte,reduceCtorEq,af,decide_true,decide_false,az]
 refine aH.intro fun bd fd=>?_;have nd_c:=(ai fd).1
 try simp -dsimp only[go_sem,aa,au,ae,↓reduceIte,reduceCtorEq,decide_false,(om:¬((n:Int)<0)),(om:¬((64:Int)<n))]
 refine(eK (a:=1) om om).call ?_;simp -dsimp only[go_sem];refine aH.intro fun be fe=>?_;have ne_d:=(ai fe).1;have ne_c:=(ai (ai fe).2).1
 try simp -dsimp only[go_sem,aa,↓reduceIte]
 have hc:bc≠bd:=ao nd_c;have hce:bc≠be:=ao ne_c;have hde:bd≠be:=ao ne_d;refine aM (fun O S'=>∃i:Nat,i<=n/\O 1=.int .i64 n/\O 2=.ptr 2 bc 0/\O 4=.ptr 2 bd 0/\O 6=.ptr 2 be 0/\O 7=.int .i64 i/\dl S' bc 50 2 (.big a)/\dl S' bd 50 2 (.big 0)/\dl S' be 50 2 (.big (a^i))) (fun O S=>n-ca (O 7)) ?_ ?_
 ·simp -dsimp only[go_sem,aa,reduceCtorEq];exact⟨0,om,rfl,(((dl.new rfl).upd hc _).upd hce _).upd hce _,((dl.new rfl).upd hde _).upd hde _,by rw[Int.pow_zero];exact dl.set⟩
 ·rintro O S' ⟨i,hi,e1,e2,e4,e6,e7,hV1,hV2,hV3⟩;obtain⟨g1,u1,v1⟩:=id hV1;obtain⟨g2,u2,v2⟩:=id hV2;obtain⟨g3,u3,v3⟩:=id hV3;by_cases hlt:i<n
  ·simp -dsimp only[go_sem,aa,ae,↓reduceIte,af,decide_true,ab,e1,e2,e4,e6,e7,hlt,u1,v1,u3,v3];refine(gM (k:=i*32+1+32) ((zN ha i).mono om) (ha.mono om) om).call ?_;simp -dsimp only[go_sem,aa,ae,↓reduceIte,ab,e1,e2,e4,e6,e7,v1,u3,v3,a6 (om:i<1000000),ca]
   exact⟨⟨i+1,om,rfl,hV1.upd hce _,hV2.upd hde _,by rw[eY];exact dl.set⟩,om⟩
  ·obtain rfl:i=n:=om
   simp -dsimp only[go_sem,aa,ae,↓reduceIte,af,decide_false,ab,e1,e2,e4,e6,e7,hlt,u2,u3,v3];simp only[bJ,if_true];exact VR.tup (by simp[oG])
def LO(S:St)(c i:Nat)(B:Int):Nat:=match S c with
 | some X=>match X.g i with
  | .int _ z=>(B-z).toNat
  | _=>0
 | ac=>0
theorem Eu{S:St}{c n i:Nat}{w:Nat->Int}{B:Int}(h:bE S c 2 1 n (fun k=>.int .i64 (w k)))(hi:i<n):LO S c i B=(B-w i).toNat:=by
 obtain⟨g,h1,h2⟩:=h;unfold LO;rw[h1];show(match g i with|.int _ z=>(B-z).toNat|_=>0)=_
 rw[h2 i hi]
theorem Ck(S:St)(d n p:Nat)(H:aW)(v:Nat->Nat)(hF:iZ n H)(hg:kA (det n H) p)(hp:p∈cQ)(hL:lK n p H v)(hd:bE S d 2 1 n (fun k=>.int .i64 ((v k:Nat):Int))) :
  cS 33 [aN n n H,.int .i64 p,.sl 1 d 0 n] S (fun r S'=>∃(c:Nat) (l:iG),r=.tup [.sl 1 c 0 n,.int .i64 0]/\bE S' c 2 1 n (fun k=>.int .i64 (l k))/\(∀i,i<n->(p:Int)∣l i-(v i:Nat))/\(∀i,i<n->0<=l i/\l i<=500)/\(p:Int)*p∣oQ n H l l/\eJ S S'):=by
 have h1:=hF.one;have hn:=hF.five;have hp17:3<=p/\p<=17:=by
  have hp':=hp;simp only[cQ,cT,aT,or_false]at hp';omega
 have hpp:(p:Int)*p<=289/\9<=(p:Int)*p:=by
  rw[<-ck];have a:=bN hp17.2 hp17.2;have b:=bN hp17.1 hp17.1;omega
 have wpp:IntKind.i64.wrap ((p:Int)*p)=((p*p:Nat):Int):=by rw[ck];exact i64_in om om
 obtain⟨piv,hpiv,hs0,hsz⟩:=GV hF hg hp hL;obtain⟨t,ht0,ht1,htn⟩:=Jv hF hp hL hpiv hs0;have hvr:∀i,i<n->(0:Int)<=(v i:Nat)/\((v i:Nat):Int)<=16:=fun i hi=>by have:=hL.lt i hi;omega
 refine aD func33 rfl 49 ntmps33 kr sm (by simp[results33]) ?_
 rw[aQ,results33];simp -dsimp only[go_sem,ak,aa,ae,reduceCtorEq,ab];refine(FC n p H hF hg hp17.2).call ?_;simp -dsimp only[go_sem,aa,ae,reduceCtorEq,ab];refine(qe n p H (fun k=>v k) om om om (fun i hi=>by have:=hL.lt i hi;omega)).spec (dO.three (VA.refl _ _) (VA.refl _ _) (lG.vr (show lG S d n (fun k=>v k)from hd)).va) ?_
 have hb:(ic (fun k=>(v k:Int)) n==1&&fB n H (fun k=>(v k:Int)) n%(p:Int)==0)=true:=by simp only[hL.lead,hL.norm];rfl
 simp -dsimp only[go_sem,aa,reduceCtorEq,hb];refine eF (fun O S'=>∃i:Nat,i<=piv/\S=S'/\O 0=aN n n H/\O 1=.int .i64 p/\O 2=.sl 1 d 0 n/\O 9=.int .i64 i) (fun O S=>n-ca (O 9)) ?_ ?_
 ·simp -dsimp only[go_sem,aa,reduceCtorEq];exact⟨0,om,rfl⟩
 rintro Q' hQ' O _ ⟨i,hi,rfl,e0,e1,e2,e9⟩;have hin:i<n:=om
 simp -dsimp only[go_sem,aa,ae,ab,e0,e1,e2,e9];refine(BJ n p H (fun k=>v k) om om om).spec (dO.three (VA.refl _ _) (lG.vr (show lG S d n (fun k=>v k)from hd)).va (VA.refl _ _)) ?_;by_cases hip:i<piv
 ·have hz:=hsz i hip;unfold oL at hz;simp -dsimp only[go_sem,aa,reduceCtorEq,af,e0,e1,e2,e9,bO,hin,hz,beq_self_eq_true,a6 (om:i<1000000),ca]
  exact⟨⟨i+1,om,rfl⟩,om⟩
 obtain rfl:i=piv:=om
 have hsb:((aE n fun j=>H i j*((v j:Nat):Int))%(p:Int)==0)=false:=by
  have:=hs0;unfold oL at this;simpa using this
 simp -dsimp only[go_sem,aa,reduceCtorEq,af,e0,e1,e2,e9,bO,hin,hsb];rw[hQ'];simp -dsimp only[go_sem,aa,↓reduceIte,e2];refine yM hd om om ?_;intro c h' hc hh;simp -dsimp only[go_sem,aa,e2];have hlv:∀(j:Int) k,k<n->eu v p i j k=if k=i then((v k:Nat):Int)+p*j else v k:=fun j k _=>rfl
 have hbig:∀j:Int,0<=j->j<=t->∀k,k<n->0<=eu v p i j k/\eu v p i j k<=305:=fun j h0 h1 k hk=>by
  have a:0<=(p:Int)*j/\(p:Int)*j<=289:=by
   have:=Int.mul_le_mul (show(p:Int)<=17 by omega) (om:j<=17) h0 om
   exact⟨Int.mul_nonneg om h0,om⟩
  have:=hvr k hk;unfold eu;split<;>omega
 refine eF (fun O S'=>∃j:Int,0<=j/\j<=t/\O 0=aN n n H/\O 1=.int .i64 p/\O 9=.int .i64 i/\O 10=.sl 1 c 0 n/\bE S' c 2 1 n (fun k=>.int .i64 (eu v p i j k))/\eJ S S') (fun _ S'=>LO S' c i (v i+p*t)) ?_ ?_
 ·simp -dsimp only[go_sem,aa,reduceCtorEq,e0,e1,e9];exact⟨0,om,ht0,bE.here fun k hk=>by rw[hh k hk];unfold eu;simp,(eJ.refl S).upd hc _⟩
 clear e0 e1 e2 e9 hQ';rintro Q2 hQ2 O S' ⟨j,hj0,hj1,e0,e1,e9,e10,hC,hE⟩;simp -dsimp only[go_sem,aa,ae,ab,e0,e1,e10,wpp];refine(yw n (p*p) H (eu v p i j) om om om).spec (dO.three (VA.refl _ _) (lG.vr (show lG S' c n (eu v p i j)from hC)).va (VA.refl _ _)) ?_;by_cases hz:fB n H (eu v p i j) n%((p*p:Nat):Int)=0
 ·have hzb:(fB n H (eu v p i j) n%((p*p:Nat):Int) != 0)=false:=by simpa using hz
  simp -dsimp only[go_sem,aa,↓reduceIte,reduceCtorEq,af,ab,e0,e1,e9,e10,hzb];rw[hQ2];simp -dsimp only[go_sem,aa,↓reduceIte,e10];refine⟨c,rfl,eu v p i j,hC,fun k _=>nB k,fun k hk=>by have:=hbig j hj0 hj1 k hk;omega,?_,hE⟩
  have:=Int.dvd_of_emod_eq_zero hz
  rwa [ck]at this
 ·have hzb:(fB n H (eu v p i j) n%((p*p:Nat):Int) != 0)=true:=by simpa using hz
  have hjt:j<t:=by
   rcases Int.lt_or_eq_of_le hj1 with h|h
   ·exact h
   ·subst h;rw[ck]at hz;exact absurd (Int.emod_eq_zero_of_dvd htn) hz
  obtain⟨g,u,w⟩:=id hC;have x1:g i=.int .i64 (eu v p i j i):=w i hin;have hb1:=hbig j hj0 hj1 i hin;have wz:IntKind.i64.wrap (eu v p i j i+p)=eu v p i j i+p:=i64_in om om;simp -dsimp only[go_sem,aa,↓reduceIte,reduceCtorEq,af,ab,e0,e1,e9,e10,hzb,u,x1,hin,wz];have hC':bE (S'.upd c ⟨2,1,n,bJ g i (.int .i64 (eu v p i j i+p))⟩) c 2 1 n (fun k=>.int .i64 (eu v p i (j+1) k)):=bE.here fun k hk=>by
   simp only[bJ];by_cases e:k=i
   ·subst e;rw[if_pos rfl];show AV.int IntKind.i64 (eu v p k j k+p)=AV.int IntKind.i64 (eu v p k (j+1) k);unfold eu;rw[if_pos rfl,if_pos rfl];congr 1;grind
   ·rw[if_neg e,w k hk];show AV.int IntKind.i64 (eu v p i j k)=AV.int IntKind.i64 (eu v p i (j+1) k);unfold eu;rw[if_neg e,if_neg e]
  refine⟨⟨j+1,om,om,hC',hE.upd hc _⟩,?_⟩
  rw[Eu hC' hin,Eu hC hin];unfold eu;rw[if_pos rfl,if_pos rfl];have:=Int.mul_le_mul_of_nonneg_left (om:j+1<=t) (show(0:Int)<=p by omega)
  have e5:(p:Int)*(j+1)=p*j+p:=by grind
  omega
theorem gK.subx{n:Nat}{B:aW}{x:iG}(hB:sc n B)(h:gK n n B x):(true=true↔∀i,i<n->jO B x n i=0):=by
 rw[GF hB];refine⟨fun _=>?_,fun _=>rfl⟩;obtain⟨y,hy⟩:=h;exact⟨y,fun i hi=>(hy i hi).trans (aK fun d _=>Int.mul_comm _ _)⟩
theorem Fm(haw:∀S,kD S->cS 12 [] S (fun r S'=>r=.bool true/\eJ S S'))(S0:St)(hG:kD S0)(d k L:Nat)(nums:Nat->Int)(Lb:Nat)(base:Nat->AV)(q t:Nat)(hd:d<256)(hk:k<256)(hq:q<256)(ht:t<65536)(hnums:∀i,i<L->-128<=nums i/\nums i<=127) :
  cS 8 [wo d k L nums Lb base q t] S0 (fun r S'=>r=.bool true/\eJ S0 S'):=by
 refine aD func8 rfl 137 ntmps8 kr sm (by simp[results8]) ?_
 rw[aQ,results8];simp -dsimp only[go_sem,ak,aa,ae,↓reduceIte,reduceCtorEq,ab,wo,dF,List.forall_mem_cons,aT,false_implies,implies_true];refine aH.intro fun b1 f1=>?_;simp -dsimp only[go_sem,ak,ae,List.getD_cons_zero,List.getD_cons_succ];have hE0:eJ S0 (S0.upd b1 ⟨27,1,6,fun j=>[AV.int .u8 d,.int .u8 k,.lst 1 L (fun i=>.int .i8 (nums i)),.lst 1 Lb base,.int .u8 q,.int .u16 t].getD j .any⟩):=(eJ.refl S0).upd f1 _;have hG2:kD (S0.upd b1 ⟨27,1,6,fun j=>[AV.int .u8 d,.int .u8 k,.lst 1 L (fun i=>.int .i8 (nums i)),.lst 1 Lb base,.int .u8 q,.int .u16 t].getD j .any⟩):=hG.ext ((eJ.refl S0).upd f1 _);refine(Fj _ d k L nums Lb base q t hd hk hq ht hnums).mono ?_;rintro r S1 ⟨hE1,n,H,p,hF,hg,hp17,hR⟩;have hG1:=hG2.ext hE1;rcases hR with rfl|⟨dv,v,rfl,hv,_,hL⟩
 ·simp -dsimp only[go_sem,aa,ae,↓reduceIte,ab];refine(haw S1 hG1).mono ?_;rintro _ S2 ⟨rfl,hE2⟩;simp -dsimp only[go_sem];exact(hE0.trans hE1).trans hE2
 have h1:=hF.one;have hn:=hF.five;have hp:=hg.six hp17;have hp3:3<=p:=by
  have hp':=hp;simp only[cQ,cT,aT,or_false]at hp';omega
 have hpp:(p:Int)*p<=289/\9<=(p:Int)*p:=by
  rw[<-ck];have a:=bN hp17 hp17;have b:=bN hp3 hp3;omega
 have wpp:IntKind.i64.wrap ((p:Int)*p)=(p:Int)*p:=i64_in om om;have hE01:=hE0.trans hE1;clear hE0 hE1 hG2 f1;simp -dsimp only[go_sem,aa,ae,↓reduceIte,ab];refine(AH S1 dv n p H v hF hg hp hL hv hG1).mono ?_;rintro _ S2 ⟨b,g,B,rfl,hB,hM,hE2⟩;have hv2:=hE2.has hv;simp -dsimp only[go_sem,aa,ae,ab];refine(Cm S2 dv n p H v hF hg hp hL hv2 (hG1.ext hE2)).mono ?_;rintro _ S3 ⟨c,gc,Q,rfl,hQd,hQb,hQ,hE3⟩;have hM3:=hM.ext hE3;have hv3:=hE3.has hv2;have hE03:=(hE01.trans hE2).trans hE3;have hG3:=(hG1.ext hE2).ext hE3;clear hM hv hv2 hE2 hE3 hE01 hG1;obtain⟨hHM,hHn⟩:=hB.herm;have hBe:∀i j,i<n->j<n->nb (B i j) 9:=fun i j hi hj=>by have:=hB.ent hp hi hj;unfold nb;omega
 have hBr:∀i j,i<n->j<n->In (B i j):=fun i j hi hj=>by have:=hB.ent hp hi hj;unfold In;omega
 have hQr:∀i j,i<n->j<n->In (Q i j):=fun i j hi hj=>by have:=hQb i j hi hj;unfold In;omega
 have hQn:∀i j,i<n->j<n->nb (Q i j) 38:=fun i j hi hj=>by have:=hQb i j hi hj;unfold nb;omega
 simp -dsimp only[go_sem,aa,ae,ab,aN,bne_self_eq_false];refine(yQ n B om).spec (dO.two hM3.vr.va (VA.refl _ _)) ?_;simp -dsimp only[go_sem,aa,ae,ab];refine(yQ n Q om).spec (dO.two hQ.vr.va (VA.refl _ _)) ?_;simp -dsimp only[go_sem,aa,ae,ab];refine(wN n n B h1 om h1 om hBr).spec (dO.one hM3.vr.va) ?_;simp -dsimp only[go_sem,aa,ae,ab];refine(gL n B 9 h1 om hBe om).call ?_;rw[hB.det hp hL];simp -dsimp only[go_sem];refine aH.intro fun bu fu=>?_;have hX3:=hM3.ext ((eJ.refl S3).upd fu ⟨50,2,1,fun _=>.big ((p:Int)^n)⟩)
 try simp -dsimp only[go_sem,aa,au,ae,↓reduceIte]
 refine(eK (a:=(p:Int)) om om).call ?_;simp -dsimp only[go_sem,aa,ae,ab];refine(Mt p n om (by unfold nb;omega)).call ?_
 simp -dsimp only[go_sem,aa];refine aH.intro fun bw fw=>?_;have nw_u:=(ai fw).1
 try simp -dsimp only[go_sem,aa,au,ae,↓reduceIte,ao nw_u]
 refine(nX (k:=1000) (a:=(p:Int)^n) (b:=(p:Int)^n) ((zN (k:=5) (by unfold nb;omega) n).mono om) ((zN (k:=5) (by unfold nb;omega) n).mono om) om).call ?_
 rw[sP];simp -dsimp only[go_sem,aa,ae,↓reduceIte,ab,bne_self_eq_false];have fw':S3 bw=ac:=by simpa only[aP nw_u]using fw
 have hE4:eJ S3 ((((S3.upd bu ⟨50,2,1,fun _=>.big 0⟩).upd bu ⟨50,2,1,bJ (fun _=>.big 0) 0 (.big ((p:Int)^n))⟩).upd bw ⟨50,2,1,fun _=>.big 0⟩).upd bw ⟨50,2,1,bJ (fun _=>.big 0) 0 (.big ((p:Int)^n))⟩):=((((eJ.refl S3).upd fu _).upd fu _).upd fw' _).upd fw' _;generalize (((S3.upd bu ⟨50,2,1,fun _=>AV.big 0⟩).upd bu ⟨50,2,1,bJ (fun _=>AV.big 0) 0 (AV.big ((p:Int)^n))⟩).upd bw ⟨50,2,1,fun _=>AV.big 0⟩).upd bw ⟨50,2,1,bJ (fun _=>AV.big 0) 0 (AV.big ((p:Int)^n))⟩=S4 at *;have hM4:=hM3.ext hE4;have hv4:=hE4.has hv3;have hE04:=hE03.trans hE4;have hG4:=hG3.ext hE4;refine(wN n n Q h1 om h1 om hQr).spec (dO.one (hQ.ext hE4).vr.va) ?_;clear hQ hE4 hM3 hv3 hE03 hG3 fu fw fw' nw_u hX3;simp -dsimp only[go_sem,aa,ae,↓reduceIte,ab];refine(gL n Q 38 h1 om hQn om).call ?_;rw[hQd];simp -dsimp only[go_sem,aa,ae,↓reduceIte,ab];refine(Co n H h1 om hF.ent hF.det).call ?_;have hdet:=hF.det;simp -dsimp only[go_sem,aa,ae,↓reduceIte,ab];refine(eK (a:=det n H) om om).call ?_;simp -dsimp only[go_sem,aa,ae,↓reduceIte,ab];have h20:nb (det n H) 1000:=nb.mono (k:=20) (by unfold nb;omega) om
 refine(nX h20 h20 om).call ?_;rw[sP];simp -dsimp only[go_sem,aa,↓reduceIte,bne_self_eq_false];refine eF (fun O S=>∃i:Nat,i<=n/\O 3=aN n n H/\O 4=.int .i64 p/\O 5=.sl 1 dv 0 n/\O 7=.sl 1 b 0 n/\O 91=.int .i64 n/\O 92=.int .i64 i/\eJ S4 S) (fun O S=>n-ca (O 92)) ?_ ?_
 ·simp -dsimp only[go_sem,aa,aN];exact⟨0,om,rfl,eJ.refl S4⟩
 rintro Q' hQ' O S ⟨i,hi,e3,e4,e5,e7,e91,e92,hE⟩;by_cases hit:i<n
 ·simp -dsimp only[go_sem,aa,ae,af,decide_true,ab,e3,e4,e91,e92,hit,aN]
  repeat refine an ?_
  refine aH.intro fun b15 f15=>?_
  try simp -dsimp only[go_sem,wpp]
  refine(eK (a:=(p:Int)*p) om om).call ?_;simp -dsimp only[go_sem,aa,ae,↓reduceIte,af,ab,e4,e7,hit];have hE5:eJ S4 ((S.upd b15 ⟨50,2,n,fun _=>.big 0⟩).upd b15 ⟨50,2,n,bJ (fun _=>.big 0) i (.big ((p:Int)*p))⟩):=(hE.upd (hE.none f15) _).upd (hE.none f15) _;have hX:gJ ((S.upd b15 ⟨50,2,n,fun _=>.big 0⟩).upd b15 ⟨50,2,n,bJ (fun _=>.big 0) i (.big ((p:Int)*p))⟩) b15 n (iV ((p:Int)*p) i):=bE.here fun k _=>by
   simp only[bJ,iV];split<;>rfl
  have hM5:=hM4.ext hE5;refine(wN n n B h1 om h1 om hBr).spec (dO.one hM5.vr.va) ?_;simp -dsimp only[go_sem,aa,ae,ab,e7];refine(tL n B (iV ((p:Int)*p) i) 31 h1 om om om hHn hHM (fun k _=>by unfold iV nb;split<;>omega) true ((hB.unit hp hit).subx hHM)).spec (dO.two (VA.refl _ _) hX.vr.va) ?_
  simp -dsimp only[go_sem,aa,e3,e4,e5,e7,e91,e92,a6 (om:i<1000000),ca]
  exact⟨⟨i+1,om,rfl,rfl,hE5⟩,om⟩
 have hin:i=n:=om
 simp -dsimp only[go_sem,aa,ae,af,decide_false,az,ab,e3,e4,e91,e92,hit];rw[hQ'];simp -dsimp only[go_sem,aa,ae,↓reduceIte,ab,e3,e4,e5];have hv5:=hE.has hv4;have hM5:=hM4.ext hE;have hE05:=hE04.trans hE;have hG5:=hG4.ext hE;clear hE hv4 hM4 hE04 hG4 hQ' hit;refine(Ck S dv n p H v hF hg hp hL hv5).mono ?_;rintro _ S6 ⟨bl,l,rfl,hl,hld,hlb,hln,hE6⟩;have hM6:=hM5.ext hE6;have hG6:=hG5.ext hE6;have hE06:=hE05.trans hE6;simp -dsimp only[go_sem,aa,e3,e4,e5];refine eF (fun O S=>∃(i:Nat) (x:AV),i<=n/\O 7=.sl 1 b 0 n/\O 16=x/\O 118=.sl 1 bl 0 n/\O 119=.int .i64 n/\O 120=.int .i64 i/\cG 50 2 S6 S x i (fun k=>.big (l k))) (fun O S=>n-ca (O 120)) ?_ ?_
 ·simp -dsimp only[go_sem,aa,e7];exact⟨0,om,rfl,cG.nil (eJ.refl S6) _⟩
 clear e3 e4 e5 e7 e91 e92;rintro Q' hQ' O S ⟨i,x,hi,e7,e16,e118,e119,e120,hX⟩;by_cases hit:i<n
 ·obtain⟨gl,ul,vl⟩:=id (hX.1.has hl);have xl:gl i=.int .i64 (l i):=vl i hit;have hlr:=hlb i hit;simp -dsimp only[go_sem,aa,ae,↓reduceIte,af,decide_true,ab,e16,e118,e119,e120,hit,ul,xl];refine(eK (a:=l i) om om).call ?_;simp -dsimp only[go_sem,aa,e16];refine aH.intro fun b127 f127=>?_
  try simp -dsimp only[go_sem,aa,↓reduceIte,e16]
  refine cG.appx rfl rfl rfl ((eJ.refl S).upd f127 _) hX om (show dI 2 (.big (l i))from trivial) ⟨_,_,_,rfl,bZ,rfl,f127⟩ ?_;intro c S2 hX' _ _;simp -dsimp only[go_sem,aa,e7,e16,e118,e119,e120,a6 (om:i<1000000),ca]
  refine⟨⟨i+1,om,rfl,hX'.congr fun r hr=>?_⟩,om⟩
  by_cases e:r=i
  ·subst e;rw[if_pos rfl]
  ·rw[if_neg e]
 obtain rfl:i=n:=om
 simp -dsimp only[go_sem,aa,ae,↓reduceIte,af,decide_false,ab,e16,e118,e119,e120,hit];rw[hQ'];simp -dsimp only[go_sem,aa,ae,↓reduceIte,ab,e7];rcases hX.2 with⟨h0,_⟩|⟨cx,_,rfl,hC⟩
 ·omega
 have hM7:=hM6.ext hX.1;refine(wN i i B h1 om h1 om hBr).spec (dO.one hM7.vr.va) ?_;simp -dsimp only[go_sem,aa,ae,ab,e7,e16];refine(tL i B l 31 h1 om om om hHn hHM (fun k hk=>by have:=hlb k hk;unfold nb;omega) true ((hB.lift hF hp hld hln).subx hHM)).spec (dO.two (VA.refl _ _) (gJ.vr hC).va) ?_
 simp -dsimp only[go_sem,aa,ae,ab,e7,e16];refine(haw S (hG6.ext hX.1)).mono ?_;rintro _ S9 ⟨rfl,hE9⟩;simp -dsimp only[go_sem,aa];exact(hE06.trans hX.1).trans hE9
end Go.Proofs.YtdobfmlmenaajaaGreatDoor
