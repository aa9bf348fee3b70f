/-
  Lemmas for NeighbourIndex.
-/
import Derived.Test.YtdobfmlmenaajaaGreatDoorJ16
namespace Go.Proofs.YtdobfmlmenaajaaGreatDoor
open Go.RowKit Tryz
open _root_.Classical renaming byContradiction→en
open _root_.Int renaming ofNat_lt→af,emod_eq_of_lt→dq,emod_eq_zero_of_dvd→eI
open _root_.Nat renaming reduceEqDiff→aa,add_one_le_iff→ab,reduceLT→ae,reduceAdd→ak
open _root_.Option renaming none→ac
set_option maxHeartbeats 6400000
set_option maxRecDepth 4096
set_option linter.all false
theorem AI(n k:Nat)(M:aW)(hP:kV n (dJ n M))(hk:k<=1000000)(hU:∀R H U,FU n (dJ n M) R H U->(∀a r,a<n+1->r<n+n+1->nb (jN (n+1) (fun k r=>dJ n M r k) U a r) k)/\yX n k (fun i j=>jN (n+1) (fun k r=>dJ n M r k) U j i)) :
  ∀S args',dO S args' [aZ n (n+1) M]->cS 123 args' S (fun r S'=>∃b g B,r=.tup [.sl 1 b 0 n,.bool true]/\pC n k (dJ n M) B/\gQ S S' b g n n B):=fun S args' hv=>by
 have h1:cS 123 [aZ n (n+1) M] St.none (fun r S'=>∃b g B,r=.tup [.sl 1 b 0 n,.bool true]/\pC n k (dJ n M) B/\cZ S' b g n n B/\F8 S'):=(xR n k M hP hk hU).less fun r S' ⟨b,g,B,e,hB,hm⟩=>⟨fW S' b g n,ja S' b g n,b,g,B,e,hB,hm.only.1,hm.only.2⟩;refine(h1.frame hv ?_).mono ?_
 ·rintro r S1 ⟨b,g,B,rfl,_,_,hc⟩;exact⟨rfl,hc⟩
 ·rintro r S' ⟨S1,⟨b,g,B,rfl,hB,hm,_⟩,hd,rfl⟩;exact⟨b,g,B,rfl,hB,hm.join hd⟩
theorem E9{b n:Nat}{K:AV->Prop}(h:K (.sl 1 b 0 n)):jR 28 (.sl 1 b 0 n) ac (some (.int .i64 n)) (some (.int .i64 n)) K:=by
 refine⟨rfl,0,n,rfl,rfl,⟨Int.le_refl _,Int.le_refl _,rfl⟩,Nat.zero_le _,Nat.le_refl _,?_⟩;show K (if (0:Nat)=0∨0<n then AV.sl 1 b (0+0) (n-0)else .lst 1 0 fun _=>.any)
 rw[if_pos (Or.inl rfl)];exact h
structure nd(n p:Nat)(H:aW)(v:Nat->Nat)(B:aW):Prop where
 ex:∃piv t inv,piv<n/\0<=t/\t<(p:Int)/\(p:Int)*p∣oQ n H (fun i=>if i=piv then((v i:Nat):Int)+p*t else v i) (fun i=>if i=piv then((v i:Nat):Int)+p*t else v i)/\inv=zZ 20 p (fA n H p (fun k=>v k) piv%p) 0 1%p/\fA n H p (fun k=>v k) piv≠0 /\
  kV n (dJ n (xt n p piv (fun j=>fA n H p (fun k=>v k) j*inv%p) (fun i=>if i=piv then((v i:Nat):Int)+p*t else v i))) /\
  pC n (B5 n) (dJ n (xt n p piv (fun j=>fA n H p (fun k=>v k) j*inv%p) (fun i=>if i=piv then((v i:Nat):Int)+p*t else v i))) B
theorem Hn{P:Nat->Prop}{n:Nat}(h:∃i,i<n/\P i):∃i,i<n/\P i/\∀j,j<i->¬P j:=by
 obtain⟨i,hi,hp⟩:=h
 induction i using Nat.strongRecOn with
 | _ i ih =>
  by_cases hj:∃j,j<i/\P j
  ·obtain⟨j,h1,h2⟩:=hj;exact ih j h1 om h2
  ·exact⟨i,hi,hp,fun j h1 h2=>hj ⟨j,h1,h2⟩⟩
theorem yF{p:Int}{f:Nat->Int}:∀{n:Nat},(∀i,i<n->p∣f i)->p∣aE n f
 | 0,_=>Int.dvd_zero p
 | n+1,h=>Int.dvd_add (yF fun i hi=>h i om) (h n om)
theorem vO{v:Nat->Int}:∀{n:Nat},(∀i,i<n->v i=0)->ic v n=0
 | 0,_=>rfl
 | n+1,h=>by
  simp only[ic,vO (n:=n) fun i hi=>h i om,if_true];exact h n om
theorem GV{n p:Nat}{H:aW}{v:Nat->Nat}(hF:iZ n H)(hg:kA (det n H) p)(hp:p∈cQ)(hL:lK n p H v):∃piv,piv<n/\oL n H p (fun k=>v k) piv≠0/\∀i,i<piv->oL n H p (fun k=>v k) i=0:=by
 have hex:∃i,i<n/\oL n H p (fun k=>v k) i≠0:=by
  refine en fun hno=>?_;have hz:∀i,i<n->(p:Int)∣aE n fun j=>H i j*((v j:Nat):Int):=fun i hi=>by
   refine Int.dvd_of_emod_eq_zero (en fun h=>hno ⟨i,hi,h⟩)
  have hv:∀k,k<n->((v k:Nat):Int)=0:=fun k hk=>by
   have e1:mm n (lQ n H) (mm n H (fun j _=>((v j:Nat):Int))) k 0=det n H*((v k:Nat):Int):=by
    rw[<-o9];unfold mm;rw[aK (g:=fun j=>(if k=j then 1 else 0)*(det n H*((v j:Nat):Int))) fun j hj=>by
     show mm n (lQ n H) H k j*((v j:Nat):Int)=_;rw[pU hF.one _ hk hj];split<;>simp]
    rw[lV hk]
   have hdv:(p:Int)∣det n H*((v k:Nat):Int):=by
    rw[<-e1];exact yF fun i hi=>Int.dvd_mul_of_dvd_right (hz i hi)
   rcases l8 hp _ _ hdv with h|h
   ·exact absurd (eI h) hg.2.2.2
   ·have h2:=hL.lt k hk;have h3:=eI h;rw[dq om om]at h3;exact h3
  have:=hL.lead;rw[vO hv]at this;omega
 obtain⟨i,h1,h2,h3⟩:=Hn hex;exact⟨i,h1,h2,fun j hj=>en fun h=>h3 j hj h⟩
theorem rC(S:St)(d n p:Nat)(H:aW)(v:Nat->Nat)(hF:iZ n H)(hg:kA (det n H) p)(hp:p∈cQ)(hL:lK n p H v)(hd:bE S d 2 1 n (fun k=>.int .i64 ((v k:Nat):Int)))(hG:kD S) :
  cS 59 [aN n n H,.int .i64 p,.sl 1 d 0 n] S (fun r S'=>∃b g B,r=.tup [.sl 1 b 0 n,.int .i64 0]/\nd n p H v B/\cZ S' b g n n B/\eJ S S'):=by
 have h1:=hF.one;have hn:=hF.five;have hp17:3<=p/\p<=17:=by
  have hp':=hp;simp only[cQ,List.mem_cons,List.not_mem_nil,or_false]at hp';omega
 obtain⟨piv,hpiv,hs0,hsz⟩:=GV hF hg hp hL;refine aD func59 rfl 83 ntmps59 kr sm (by simp[results59]) ?_
 rw[aQ,results59];simp -dsimp only[go_sem,ak,aa,ae,reduceCtorEq,ab];refine(F3 S d n p piv H v hF hg hp hL hd hG hpiv hs0 hsz).mono ?_;rintro _ S1 ⟨bx,t,ht0,ht1,hnm,rfl,hx1,hE1⟩;have hd1:=hE1.has hd;simp -dsimp only[go_sem,aa,ae,reduceCtorEq,ab,bne_self_eq_false];have hw:∀i,fA n H p (fun k=>v k) i=oL n H p (fun k=>v k) i:=zi n H p _;have hwr:=qQ (n:=n) (H:=H) (p:=(p:Int)) (v:=fun k=>((v k:Nat):Int)) om;have hwp:0<fA n H p (fun k=>v k) piv%p/\fA n H p (fun k=>v k) piv%p<p:=by
  have:=hwr piv;rw[dq this.1 this.2];have h0:fA n H p (fun k=>v k) piv≠0:=by rw[hw];exact hs0
  omega
 obtain⟨heo,hei⟩:=vX hp hwp.1 hwp.2;refine(xi 20 n piv H p (fun k=>v k) _ h1 om om om hpiv (by rw[hw];exact hs0) (fun i hi=>by rw[hw];exact hsz i hi) heo rfl S1 _ (dO.three (VA.refl _ _) (VA.refl _ _) (lG.vr (show lG S1 d n (fun k=>v k)from hd1)).va)).mono ?_
 rintro _ S2 ⟨bl,gl,rfl,hL2,hE2,nl2,nlg2⟩;generalize hinv:zZ 20 p (fA n H p (fun k=>v k) piv%p) 0 1%p=inv at *;have hx2:=hE2.has hx1;simp -dsimp only[go_sem,aa,reduceCtorEq,Option.map_some,Option.map_none];refine E9 ?_
 try simp -dsimp only[go_sem,ak,aa,Nat.reduceLeDiff,ae,↓reduceIte,reduceCtorEq,af,decide_true,decide_false,Int.zero_le_ofNat]
 refine aH.intro fun b41 f41=>?_
 try simp -dsimp only[go_sem,aa,↓reduceIte]
 have hE12:eJ S S2:=hE1.trans hE2;have nbl:S bl=ac:=hE1.none nl2;have hNL:cG 29 1 S S2 (.sl 1 bl 0 n) n (fun j=>.sl 1 (gl j) 0 n):=⟨hE12,Or.inr ⟨bl,nbl,rfl,hL2.outer⟩⟩;have hxb:=hNL.fresh f41;have hNL2:=hNL.upd (hE12.none f41) hxb ⟨29,1,1,fun j=>[AV.sl 1 bx 0 n].getD j .any⟩;refine cG.app29 (v:=.sl 1 bx 0 n) hNL2 om (by simp[dI]) (Or.inr ⟨_,_,_,rfl,bZ,rfl,fun h=>hxb _ h rfl⟩) ?_
 intro bc S3 hNL3 hk3 _;generalize hMd:xt n p piv (fun j=>fA n H p (fun k=>v k) j*inv%p) (fun i=>if i=piv then((v i:Nat):Int)+p*t else v i)=M
 have hcols:bE S3 bc 29 1 (n+1) (fun j=>.sl 1 (if j=n then bx else gl j) 0 n):=by
  rcases hNL3.2 with⟨h,_⟩|⟨c,_,e,h⟩
  ·omega
  ·cases e
   exact h.congr fun j _=>by by_cases e:j=n<;>simp[e]
 have hcol:∀c,c<n+1->bE S3 (if c=n then bx else gl c) 2 1 n (fun i=>.int .i64 (M i c)):=fun c hc=>by
  have via:∀{b:Nat} {g:Nat->AV},bE S2 b 2 1 n g->bE S3 b 2 1 n g:=fun {b g} h=>by
   have n41:b≠b41:=bE.fresh h f41;have nbl':b≠bl:=(bE.ne hL2.outer h dc).symm
   obtain⟨g',k,k2⟩:=h;exact⟨g',hk3 b _ (by rw[aP n41];exact k) (fun hb=>nbl' (ez.1 hb)),k2⟩
  by_cases e:c=n
  ·subst e;rw[if_pos rfl];refine(via hx2).congr fun i hi=>?_;rw[<-hMd];unfold xt;simp only[Nat.lt_irrefl,if_false]
  ·rw[if_neg e];refine(via (hL2.row c om)).congr fun i hi=>?_;rw[<-hMd];unfold xt;rw[if_pos om]
 have hE03:eJ S S3:=hNL3.1;have hq16:∀j,j<n->0<=fA n H p (fun k=>v k) j*inv%p/\fA n H p (fun k=>v k) j*inv%p<=16:=fun j _=>by
  have a:=Int.emod_nonneg (fA n H p (fun k=>v k) j*inv) (show(p:Int)≠0 by omega)
  have b:=Int.emod_lt_of_pos (fA n H p (fun k=>v k) j*inv) (show(0:Int)<p by omega)
  omega
 have hpt:0<=(p:Int)*t/\(p:Int)*t<=272:=by
  have:=Int.mul_le_mul (show(p:Int)<=17 by omega) (om:t<=16) ht0 om
  exact⟨Int.mul_nonneg om ht0,om⟩
 have hP:kV n (dJ n M):=by
  rw[<-hMd];refine Fg h1 hn om om hpiv hq16 (fun i hi hne=>?_) ?_
  ·rw[if_neg hne];have:=hL.lt i hi;omega
  ·rw[if_pos rfl];have:=hL.lt piv hpiv;omega
 have hMb:∀i j,i<n->j<n+1->-9223372036854775808<=M i j/\M i j<=9223372036854775807:=fun i j hi hj=>by
  have:=hP.hent i j om hj;unfold dJ at this;rw[if_pos hi]at this;unfold nb at this;omega
 clear hNL hNL2 hNL3 hk3 hL2 hx2 hx1;simp -dsimp only[go_sem,aa]
 repeat refine an ?_
 refine aH.intro fun br fr=>?_;simp -dsimp only[go_sem];refine eF (fun O S=>∃(i:Nat) (g:Nat->Nat),i<=n/\O 11=.sl 1 bc 0 (n+1)/\O 12=.sl 1 br 0 n/\O 47=.int .i64 n/\O 48=.int .i64 i/\eJ S3 S /\
  bE S br 29 1 n (fun a=>if a<i then .sl 1 (g a) 0 (n+1)else .nil)/\(∀a,a<i->bE S (g a) 2 1 (n+1) (fun c=>.int .i64 (M a c)))/\∀a c,a<i->c<i->g a=g c->a=c) (fun O S=>n-ca (O 48)) ?_ ?_
 ·simp -dsimp only[go_sem,aa];exact⟨0,om,rfl,(eJ.refl S3).upd fr _,fun _=>0,bE.here fun _ _=>by simp,fun a ha=>om,fun a c ha=>om⟩
 rintro Q' hQ' O S4 ⟨i,g,hi,e11,e12,e47,e48,hE4,hO,hR,hI⟩;by_cases hit:i<n
 ·simp -dsimp only[go_sem,aa,af,decide_true,e11,e47,e48,hit];refine eF (fun O S'=>∃(j:Nat) (x:AV),j<=n+1/\O 11=.sl 1 bc 0 (n+1)/\O 12=.sl 1 br 0 n/\O 13=.int .i64 i/\O 47=.int .i64 n/\O 48=.int .i64 i/\O 51=.sl 1 bc 0 (n+1)/\O 52=.int .i64 ((n+1:Nat):Int)/\O 53=.int .i64 j/\eJ S3 S' /\
   bE S' br 29 1 n (fun a=>if a<i then .sl 1 (g a) 0 (n+1)else if a=i then x else .nil)/\(∀a,a<i->bE S' (g a) 2 1 (n+1) (fun c=>.int .i64 (M a c))/\¬dB x (g a))/\cG 2 1 S3 S' x j (fun c=>.int .i64 (M i c))) (fun O S=>n+1-ca (O 53)) ?_ ?_
  ·simp -dsimp only[go_sem,aa,e11,e12,e47,e48];exact⟨0,om,rfl,hE4,.nil,hO.congr fun a _=>by grind,fun a ha=>⟨hR a ha,by rintro⟨_,_,_,e⟩;cases e⟩,cG.nil hE4 _⟩
  clear hO hR hE4 e11 e12 e47 e48;rintro Q'' hQ'' O S' ⟨j,x,hj,e11,e12,e13,e47,e48,e51,e52,e53,hE4,hO,hR,hX⟩;by_cases hjm:j<n+1
  ·obtain⟨gc,uc,vc⟩:=id (hE4.has hcols);obtain⟨gd,ud,vd⟩:=id (hE4.has (hcol j hjm));obtain⟨g1,u1,v1⟩:=id hO;have xc:gc j=.sl 1 (if j=n then bx else gl j) 0 n:=vc j hjm
   have xd:gd i=.int .i64 (M i j):=vd i hit;have x1:g1 i=x:=by rw[v1 i hit];simp
   simp -dsimp only[go_sem,aa,↓reduceIte,af,decide_true,ab,e51,e52,e53,hjm,uc,xc];refine io 11 kr ?_
   simp -dsimp only[go_sem,aa,↓reduceIte,reduceCtorEq,af,ab,e12,e13,hit,ud,xd,u1,x1];refine cG.app2 hX om (show dI 1 (.int .i64 (M i j)) by simp[dI]) (Or.inl ⟨_,rfl,rfl⟩) ?_
   intro c S7 hX' hk1 hk3;have hxr:=hX.other u1 om;have u1':=hk1 br _ u1 hxr;simp -dsimp only[go_sem,aa,↓reduceIte,af,ab,e11,e12,e13,e47,e48,e51,e52,e53,hit,u1',a6 (om:j<1000000),ca]
   have hrS:S3 br=ac:=fr;refine⟨⟨j+1,om,rfl,hX'.1.upd hrS _,.sl 1 c 0 (j+1),bE.here fun a ha=>?_,fun a ha=>?_,?_⟩,om⟩
   ·have:=v1 a ha;grind [bJ]
   ·obtain⟨r1,r2⟩:=hR a ha;have hgr:g a≠br:=bE.ne r1 (bE.of u1) om;refine⟨(r1.via fun X hX=>hk1 _ _ hX r2).upd hgr _,fun hb=>?_⟩;rw[ez]at hb;rw[<-hb]at hk3;rcases hk3 with h|h
    ·exact r2 h
    ·exact bE.fresh r1 h rfl
   ·refine(hX'.upd hrS (fun d hd e=>?_) _).congr (fun a ha=>by grind)
    rw[e]at hd;exact hX'.other u1' om hd
  ·simp -dsimp only[go_sem,aa,↓reduceIte,af,decide_false,ab,e51,e52,e53,hjm];rw[hQ''];simp -dsimp only[go_sem,aa,↓reduceIte,e11,e12,e47,e48,a6 (om:i<1000000),ca]
   obtain rfl:j=n+1:=om
   rcases hX.2 with⟨h0,_⟩|⟨c,_,rfl,hC⟩
   ·omega
   refine⟨⟨i+1,om,rfl,hE4,fun a=>if a=i then c else g a,hO.congr fun a ha=>by grind,fun a ha=>?_,fun a d ha hd e=>?_⟩,om⟩
   ·by_cases e:a=i
    ·subst e;simp only[if_true];exact hC
    ·simp only[e,if_false];exact(hR a om).1
   ·have k1:=fun a ha=>(hR a ha).2;simp only[ez]at k1
    grind
 have hin:i=n:=om
 rw[hin]at hO hR hI;have hIM:dR S4 br g n (n+1) M:=⟨hO.congr fun a ha=>by rw[if_pos ha],hR,hI⟩
 simp -dsimp only[go_sem,aa,af,decide_false,e11,e47,e48,hit];rw[hQ'];simp -dsimp only[go_sem,aa,ae,↓reduceIte,ab,e12];refine(qr n (n+1) M h1 om om om hMb _ _ (dO.one hIM.vr.va)).mono ?_;rintro _ S5 ⟨bm,gm,rfl,hM5⟩;simp -dsimp only[go_sem,aa,ae,ab];have hbb:=t8 31 om n om;refine(AI n (B5 n) M hP (by unfold B5;omega) (fun R H' U hT=>?_) S5 _ (dO.one hM5.1.vr.va)).mono ?_
 ·obtain⟨a,b,_,_⟩:=hT.herm hP (fun r c h1 _ h3=>by unfold dJ;rw[if_neg om])
  exact⟨a,b⟩
 rintro _ S6 ⟨b,gB,B,rfl,hB,hM6,hE6,_⟩;simp -dsimp only[go_sem,aa];refine⟨b,rfl,gB,B,⟨piv,t,inv,hpiv,ht0,ht1,hnm,hinv.symm,by rw[hw];exact hs0,by rw[hMd];exact hP,by rw[hMd];exact hB⟩,hM6,((hE03.trans hE4).trans hM5.2.1).trans hE6⟩
theorem AH(S:St)(d n p:Nat)(H:aW)(v:Nat->Nat)(hF:iZ n H)(hg:kA (det n H) p)(hp:p∈cQ)(hL:lK n p H v)(hd:bE S d 2 1 n (fun k=>.int .i64 ((v k:Nat):Int)))(hG:kD S) :
  cS 23 [aN n n H,.int .i64 p,.sl 1 d 0 n] S (fun r S'=>∃b g B,r=.tup [.sl 1 b 0 n,.int .i64 0]/\nd n p H v B/\dR S' b g n n B/\eJ S S'):=by
 refine aD func23 rfl 28 ntmps23 kr sm (by simp[results23]) ?_
 rw[aQ,results23];simp -dsimp only[go_sem,ak,aa,ae,reduceCtorEq,ab];refine(rC S d n p H v hF hg hp hL hd hG).mono ?_;rintro _ S1 ⟨b,g,B,rfl,hB,hM,hE⟩;simp -dsimp only[go_sem,aa,ae,reduceCtorEq,ab,bne_self_eq_false];refine(rR n n B hF.one (by have:=hF.five;omega) hF.one (by have:=hF.five;omega) (fun i j hi hj=>?_) S1 _ (dO.one hM.vr.va)).mono ?_
 ·obtain⟨piv,t,inv,_,_,_,_,_,_,hP,hU⟩:=hB.ex;have:=hU.ent hP i j hi hj;unfold nb at this;unfold jQ;omega
 rintro _ S2 ⟨b2,g2,rfl,hM2⟩;simp -dsimp only[go_sem,aa];exact⟨b2,rfl,g2,B,hB,hM2.1,hE.trans hM2.2.1⟩
theorem yA{v:Nat->Int}:∀{n:Nat},ic v n=1->∃k,k<n/\v k=1
 | 0,h=>by simp[ic]at h
 | n+1,h=>by
  simp only[ic]at h;split at h
  ·exact⟨n,om,h⟩
  ·obtain⟨k,h1,h2⟩:=yA h;exact⟨k,om,h2⟩
theorem nd.herm{n p:Nat}{H:aW}{v:Nat->Nat}{B:aW}(h:nd n p H v B):sc n B/\∀i j,i<n->j<n->nb (B i j) 31:=by
 obtain⟨piv,t,inv,_,_,_,_,_,_,hP,hU⟩:=h.ex;have hH:=hU.herm;exact⟨⟨fun r c h1 h2 h3=>hH.up r c h2 h1 om,fun r hr=>hH.pos r hr,fun r c hr hc=>hH.rng r c hr hc⟩,hU.ent hP⟩
end Go.Proofs.YtdobfmlmenaajaaGreatDoor
