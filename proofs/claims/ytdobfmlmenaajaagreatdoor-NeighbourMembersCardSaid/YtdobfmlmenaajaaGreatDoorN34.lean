/-
  Lemmas for NeighbourMembers.
-/
import Derived.Test.YtdobfmlmenaajaaGreatDoorN33
namespace Go.Proofs.YtdobfmlmenaajaaGreatDoor
open Go.RowKit
open _root_.Int renaming ofNat_lt→af,emod_lt_of_pos→aM,emod_nonneg→aT,mul_le_mul_of_nonneg_left→cu,dvd_of_emod_eq_zero→cF,mul_le_mul→cH,mul_nonneg→cY,mul_comm→cZ,mul_emod→dl,emod_eq_of_lt→d9,emod_eq_zero_of_dvd→ed,emod_emod_of_dvd→eu,dvd_refl→fO,mul_assoc→gL,dvd_zero→jO,add_emod→Bv
open _root_.List renaming not_mem_nil→aZ,mem_cons→eU
open _root_.Nat renaming reduceEqDiff→aa,add_one_le_iff→ab,reduceLT→ae,reduceAdd→aj
open _root_.Option renaming none→ac
open _root_.Or renaming inr→bD
set_option maxHeartbeats 6400000
set_option maxRecDepth 4096
set_option linter.all false
theorem zP(n k:Nat)(M:aU)(hP:kh n (dp n M))(hk:k<=1000000)(hU:∀R H U,E5 n (dp n M) R H U->(∀a r,a<n+1->r<n+n+1->nb (jm (n+1) (fun k r=>dp n M r k) U a r) k)/\yc n k (fun i j=>jm (n+1) (fun k r=>dp n M r k) U j i)) :
  ∀S args',dY S args' [aV n (n+1) M]->cM 123 args' S (fun r S'=>∃b g B,r=.tup [.sl 1 b 0 n,.bool true]/\oX n k (dp n M) B/\ge S S' b g n n B):=fun S args' hv=>by
 have h1:cM 123 [aV n (n+1) M] St.none (fun r S'=>∃b g B,r=.tup [.sl 1 b 0 n,.bool true]/\oX n k (dp n M) B/\cS S' b g n n B/\Fk S'):=(wR n k M hP hk hU).less fun r S' ⟨b,g,B,e,hB,hm⟩=>⟨fB S' b g n,iF S' b g n,b,g,B,e,hB,hm.only.1,hm.only.2⟩;refine(h1.frame hv ?_).mono ?_
 ·rintro r S1 ⟨b,g,B,rfl,_,_,hc⟩;exact⟨rfl,hc⟩
 ·rintro r S' ⟨S1,⟨b,g,B,rfl,hB,hm,_⟩,hd,rfl⟩;exact⟨b,g,B,rfl,hB,hm.join hd⟩
theorem Ee{b n:Nat}{K:AV->Prop}(h:K (.sl 1 b 0 n)):jo 28 (.sl 1 b 0 n) ac (some (.int .i64 n)) (some (.int .i64 n)) K:=by
 refine⟨rfl,0,n,rfl,rfl,⟨Int.le_refl _,Int.le_refl _,rfl⟩,Nat.zero_le _,Nat.le_refl _,?_⟩;show K (if (0:Nat)=0∨0<n then AV.sl 1 b (0+0) (n-0)else .lst 1 0 fun _=>.any)
 rw[if_pos (Or.inl rfl)];exact h
structure CW(n p:Nat)(H:aU)(v:Nat->Nat)(B:aU):Prop where
 ex:∃piv t inv,piv<n/\0<=t/\t<(p:Int)/\inv=zV 20 p (fZ n H p (fun k=>v k) piv%p) 0 1%p/\fZ n H p (fun k=>v k) piv≠0 /\
  kh n (dp n (zU n p piv (fun j=>fZ n H p (fun k=>v k) j*inv%p) (fun i=>if i=piv then((v i:Nat):Int)+p*t else v i))) /\
  oX n (Be n) (dp n (zU n p piv (fun j=>fZ n H p (fun k=>v k) j*inv%p) (fun i=>if i=piv then((v i:Nat):Int)+p*t else v i))) B
theorem Gz{P:Nat->Prop}{n:Nat}(h:∃i,i<n/\P i):∃i,i<n/\P i/\∀j,j<i->¬P j:=by
 obtain⟨i,hi,hp⟩:=h
 induction i using Nat.strongRecOn with
 | _ i ih =>
  by_cases hj:∃j,j<i/\P j
  ·obtain⟨j,h1,h2⟩:=hj;exact ih j h1 om h2
  ·exact⟨i,hi,hp,fun j h1 h2=>hj ⟨j,h1,h2⟩⟩
theorem xO{p:Int}{f:Nat->Int}:∀{n:Nat},(∀i,i<n->p∣f i)->p∣aD n f
 | 0,_=>jO p
 | n+1,h=>Int.dvd_add (xO fun i hi=>h i om) (h n om)
theorem uM{v:Nat->Int}:∀{n:Nat},(∀i,i<n->v i=0)->gP v n=0
 | 0,_=>rfl
 | n+1,h=>by
  simp only[gP,uM (n:=n) fun i hi=>h i om,if_true];exact h n om
theorem KG{n p:Nat}{H:aU}{v:Nat->Nat}(hF:kM n H)(hg:l5 (det n H) p)(hp:p∈eS)(hL:oV n p H v):∃piv,piv<n/\sT n H p (fun k=>v k) piv≠0/\∀i,i<piv->sT n H p (fun k=>v k) i=0:=by
 have hex:∃i,i<n/\sT n H p (fun k=>v k) i≠0:=by
  refine Classical.byContradiction fun hno=>?_;have hz:∀i,i<n->(p:Int)∣aD n fun j=>H i j*((v j:Nat):Int):=fun i hi=>by
   refine cF (Classical.byContradiction fun h=>hno ⟨i,hi,h⟩)
  have hv:∀k,k<n->((v k:Nat):Int)=0:=fun k hk=>by
   have e1:mm n (lj n H) (mm n H (fun j _=>((v j:Nat):Int))) k 0=det n H*((v k:Nat):Int):=by
    rw[<-qv];unfold mm;rw[aP (g:=fun j=>(if k=j then 1 else 0)*(det n H*((v j:Nat):Int))) fun j hj=>by
     show mm n (lj n H) H k j*((v j:Nat):Int)=_;rw[pi hF.one _ hk hj];split<;>simp]
    rw[lr hk]
   have hdv:(p:Int)∣det n H*((v k:Nat):Int):=by
    rw[<-e1];exact xO fun i hi=>Int.dvd_mul_of_dvd_right (hz i hi)
   rcases pQ hp _ _ hdv with h|h
   ·exact absurd (ed h) hg.2.2.2
   ·have h2:=hL.lt k hk;have h3:=ed h;rw[d9 om om]at h3;exact h3
  have:=hL.lead;rw[uM hv]at this;omega
 obtain⟨i,h1,h2,h3⟩:=Gz hex;exact⟨i,h1,h2,fun j hj=>Classical.byContradiction fun h=>h3 j hj h⟩
theorem zg(S:St)(d n p:Nat)(H:aU)(v:Nat->Nat)(hF:kM n H)(hg:l5 (det n H) p)(hp:p∈eS)(hL:oV n p H v)(hd:bB S d 2 1 n (fun k=>.int .i64 ((v k:Nat):Int)))(hG:lf S) :
  cM 59 [aK n n H,.int .i64 p,.sl 1 d 0 n] S (fun r S'=>∃b g B,r=.tup [.sl 1 b 0 n,.int .i64 0]/\CW n p H v B/\cS S' b g n n B/\eZ S S'):=by
 have h1:=hF.one;have hn:=hF.five;have hp17:3<=p/\p<=17:=by
  have hp':=hp;simp only[eS,eU,aZ,or_false]at hp';omega
 obtain⟨piv,hpiv,hs0,hsz⟩:=KG hF hg hp hL;refine aA Tryz.func59 rfl 83 Tryz.ntmps59 (by kernel_rfl) (by simp) (by simp[Tryz.results59]) ?_
 rw[aS,Tryz.results59];simp -dsimp only[go_sem,aj,aa,ae,reduceCtorEq,ab]
 repeat refine an ?_
 refine(Ff S d n p piv H v hF hg hp hL hd hG hpiv hs0 hsz).mono ?_;rintro _ S1 ⟨bx,t,ht0,ht1,rfl,hx1,hE1⟩;have hd1:=hE1.has hd;simp -dsimp only[go_sem,aa,ae,reduceCtorEq,ab,bne_self_eq_false]
 repeat refine an ?_
 have hw:∀i,fZ n H p (fun k=>v k) i=sT n H p (fun k=>v k) i:=C2 n H p _;have hwr:=tO (n:=n) (H:=H) (p:=(p:Int)) (v:=fun k=>((v k:Nat):Int)) om;have hwp:0<fZ n H p (fun k=>v k) piv%p/\fZ n H p (fun k=>v k) piv%p<p:=by
  have:=hwr piv;rw[d9 this.1 this.2];have h0:fZ n H p (fun k=>v k) piv≠0:=by rw[hw];exact hs0
  omega
 obtain⟨heo,hei⟩:=Co hp hwp.1 hwp.2;refine(we 20 n piv H p (fun k=>v k) _ h1 om om om hpiv (by rw[hw];exact hs0) (fun i hi=>by rw[hw];exact hsz i hi) heo rfl S1 _ (dY.three (VA.refl _ _) (VA.refl _ _) (nO.vr (show nO S1 d n (fun k=>v k)from hd1)).va)).mono ?_
 rintro _ S2 ⟨bl,gl,rfl,hL2,hE2,nl2,nlg2⟩;generalize hinv:zV 20 p (fZ n H p (fun k=>v k) piv%p) 0 1%p=inv at *;have hx2:=hE2.has hx1;simp -dsimp only[go_sem,aa,reduceCtorEq,Option.map_some,Option.map_none]
 repeat refine an ?_
 refine Ee ?_
 try simp -dsimp only[go_sem,aj,aa,Nat.reduceLeDiff,ae,↓reduceIte,reduceCtorEq,af,decide_true,decide_false,Int.zero_le_ofNat]
 refine aG.intro fun b41 f41=>?_
 try simp -dsimp only[go_sem,aa,↓reduceIte]
 have hE12:eZ S S2:=hE1.trans hE2;have nbl:S bl=ac:=hE1.none nl2;have hNL:cJ 29 1 S S2 (.sl 1 bl 0 n) n (fun j=>.sl 1 (gl j) 0 n):=⟨hE12,bD ⟨bl,nbl,rfl,hL2.outer⟩⟩;have hxb:=hNL.fresh f41;have hNL2:=hNL.upd (hE12.none f41) hxb ⟨29,1,1,fun j=>[AV.sl 1 bx 0 n].getD j .any⟩;refine cJ.app29 (v:=.sl 1 bx 0 n) hNL2 om (by simp[du]) (bD ⟨_,_,_,rfl,bV,rfl,fun h=>hxb _ h rfl⟩) ?_
 intro bc S3 hNL3 hk3 _;generalize hMd:zU n p piv (fun j=>fZ n H p (fun k=>v k) j*inv%p) (fun i=>if i=piv then((v i:Nat):Int)+p*t else v i)=M
 have hcols:bB S3 bc 29 1 (n+1) (fun j=>.sl 1 (if j=n then bx else gl j) 0 n):=by
  rcases hNL3.2 with⟨h,_⟩|⟨c,_,e,h⟩
  ·omega
  ·cases e
   exact h.congr fun j _=>by by_cases e:j=n<;>simp[e]
 have hcol:∀c,c<n+1->bB S3 (if c=n then bx else gl c) 2 1 n (fun i=>.int .i64 (M i c)):=fun c hc=>by
  have via:∀{b:Nat} {g:Nat->AV},bB S2 b 2 1 n g->bB S3 b 2 1 n g:=fun {b g} h=>by
   have n41:b≠b41:=bB.fresh h f41;have nbl':b≠bl:=(bB.ne hL2.outer h (by decide)).symm
   obtain⟨g',k,k2⟩:=h;exact⟨g',hk3 b _ (by rw[aQ n41];exact k) (fun hb=>nbl' (eT.1 hb)),k2⟩
  by_cases e:c=n
  ·subst e;rw[if_pos rfl];refine(via hx2).congr fun i hi=>?_;rw[<-hMd];unfold zU;simp only[Nat.lt_irrefl,if_false]
  ·rw[if_neg e];refine(via (hL2.row c om)).congr fun i hi=>?_;rw[<-hMd];unfold zU;rw[if_pos om]
 have hE03:eZ S S3:=hNL3.1;have hq16:∀j,j<n->0<=fZ n H p (fun k=>v k) j*inv%p/\fZ n H p (fun k=>v k) j*inv%p<=16:=fun j _=>by
  have a:=aT (fZ n H p (fun k=>v k) j*inv) (show(p:Int)≠0 by omega)
  have b:=aM (fZ n H p (fun k=>v k) j*inv) (show(0:Int)<p by omega)
  omega
 have hpt:0<=(p:Int)*t/\(p:Int)*t<=272:=by
  have:=cH (show(p:Int)<=17 by omega) (show t<=16 by omega) ht0 om
  exact⟨cY om ht0,by omega⟩
 have hP:kh n (dp n M):=by
  rw[<-hMd];refine El h1 hn om om hpiv hq16 (fun i hi hne=>?_) ?_
  ·rw[if_neg hne];have:=hL.lt i hi;omega
  ·rw[if_pos rfl];have:=hL.lt piv hpiv;omega
 have hMb:∀i j,i<n->j<n+1->-9223372036854775808<=M i j/\M i j<=9223372036854775807:=fun i j hi hj=>by
  have:=hP.hent i j om hj;unfold dp at this;rw[if_pos hi]at this;unfold nb at this;omega
 clear hNL hNL2 hNL3 hk3 hL2 hx2 hx1;simp -dsimp only[go_sem,aa]
 repeat refine an ?_
 refine aG.intro fun br fr=>?_;simp -dsimp only[go_sem]
 repeat refine an ?_
 refine fm (fun O S=>∃(i:Nat) (g:Nat->Nat),i<=n/\O 11=.sl 1 bc 0 (n+1)/\O 12=.sl 1 br 0 n/\O 47=.int .i64 n/\O 48=.int .i64 i/\eZ S3 S /\
  bB S br 29 1 n (fun a=>if a<i then .sl 1 (g a) 0 (n+1)else .nil)/\(∀a,a<i->bB S (g a) 2 1 (n+1) (fun c=>.int .i64 (M a c)))/\∀a c,a<i->c<i->g a=g c->a=c) (fun O S=>n-bY (O 48)) ?_ ?_
 ·simp -dsimp only[go_sem,aa];exact⟨0,by omega,rfl,(eZ.refl S3).upd fr _,fun _=>0,bB.here fun _ _=>by simp,fun a ha=>by omega,fun a c ha=>by omega⟩
 rintro Q' hQ' O S4 ⟨i,g,hi,e11,e12,e47,e48,hE4,hO,hR,hI⟩;by_cases hit:i<n
 ·simp -dsimp only[go_sem,aa,af,decide_true,e11,e47,e48,hit]
  repeat refine an ?_
  refine fm (fun O S'=>∃(j:Nat) (x:AV),j<=n+1/\O 11=.sl 1 bc 0 (n+1)/\O 12=.sl 1 br 0 n/\O 13=.int .i64 i/\O 47=.int .i64 n/\O 48=.int .i64 i/\O 51=.sl 1 bc 0 (n+1)/\O 52=.int .i64 ((n+1:Nat):Int)/\O 53=.int .i64 j/\eZ S3 S' /\
   bB S' br 29 1 n (fun a=>if a<i then .sl 1 (g a) 0 (n+1)else if a=i then x else .nil)/\(∀a,a<i->bB S' (g a) 2 1 (n+1) (fun c=>.int .i64 (M a c))/\¬dH x (g a))/\cJ 2 1 S3 S' x j (fun c=>.int .i64 (M i c))) (fun O S=>n+1-bY (O 53)) ?_ ?_
  ·simp -dsimp only[go_sem,aa,e11,e12,e47,e48];exact⟨0,by omega,rfl,hE4,.nil,hO.congr fun a _=>by grind,fun a ha=>⟨hR a ha,by rintro⟨_,_,_,e⟩;cases e⟩,cJ.nil hE4 _⟩
  clear hO hR hE4 e11 e12 e47 e48;rintro Q'' hQ'' O S' ⟨j,x,hj,e11,e12,e13,e47,e48,e51,e52,e53,hE4,hO,hR,hX⟩;by_cases hjm:j<n+1
  ·obtain⟨gc,uc,vc⟩:=id (hE4.has hcols);obtain⟨gd,ud,vd⟩:=id (hE4.has (hcol j hjm));obtain⟨g1,u1,v1⟩:=id hO;have xc:gc j=.sl 1 (if j=n then bx else gl j) 0 n:=vc j hjm
   have xd:gd i=.int .i64 (M i j):=vd i hit;have x1:g1 i=x:=by rw[v1 i hit];simp
   simp -dsimp only[go_sem,aa,↓reduceIte,af,decide_true,ab,e51,e52,e53,hjm,uc,xc]
   repeat refine an ?_
   refine gR 11 (by kernel_rfl) ?_
   simp -dsimp only[go_sem,aa,↓reduceIte,reduceCtorEq,af,ab,e12,e13,hit,ud,xd,u1,x1]
   repeat refine an ?_
   refine cJ.app2 hX om (show du 1 (.int .i64 (M i j)) by simp[du]) (Or.inl ⟨_,rfl,rfl⟩) ?_
   intro c S7 hX' hk1 hk3;have hxr:=hX.other u1 om;have u1':=hk1 br _ u1 hxr;simp -dsimp only[go_sem,aa,↓reduceIte,af,ab,e11,e12,e13,e47,e48,e51,e52,e53,hit,u1',aW (show j<1000000 by omega),bY]
   repeat refine an ?_
   have hrS:S3 br=ac:=fr;refine⟨⟨j+1,by omega,rfl,hX'.1.upd hrS _,.sl 1 c 0 (j+1),bB.here fun a ha=>?_,fun a ha=>?_,?_⟩,by omega⟩
   ·have:=v1 a ha;grind [bK]
   ·obtain⟨r1,r2⟩:=hR a ha;have hgr:g a≠br:=bB.ne r1 (bB.of u1) om;refine⟨(r1.via fun X hX=>hk1 _ _ hX r2).upd hgr _,fun hb=>?_⟩;rw[eT]at hb;rw[<-hb]at hk3;rcases hk3 with h|h
    ·exact r2 h
    ·exact bB.fresh r1 h rfl
   ·refine(hX'.upd hrS (fun d hd e=>?_) _).congr (fun a ha=>by grind)
    rw[e]at hd;exact hX'.other u1' om hd
  ·simp -dsimp only[go_sem,aa,↓reduceIte,af,decide_false,ab,e51,e52,e53,hjm]
   repeat refine an ?_
   rw[hQ''];simp -dsimp only[go_sem,aa,↓reduceIte,e11,e12,e47,e48,aW (show i<1000000 by omega),bY]
   repeat refine an ?_
   obtain rfl:j=n+1:=by omega
   rcases hX.2 with⟨h0,_⟩|⟨c,_,rfl,hC⟩
   ·omega
   refine⟨⟨i+1,by omega,rfl,hE4,fun a=>if a=i then c else g a,hO.congr fun a ha=>by grind,fun a ha=>?_,fun a d ha hd e=>?_⟩,by omega⟩
   ·by_cases e:a=i
    ·subst e;simp only[if_true];exact hC
    ·simp only[e,if_false];exact(hR a om).1
   ·have k1:=fun a ha=>(hR a ha).2;simp only[eT]at k1
    grind
 have hin:i=n:=by omega
 rw[hin]at hO hR hI;have hIM:dD S4 br g n (n+1) M:=⟨hO.congr fun a ha=>by rw[if_pos ha],hR,hI⟩
 simp -dsimp only[go_sem,aa,af,decide_false,e11,e47,e48,hit]
 repeat refine an ?_
 rw[hQ'];simp -dsimp only[go_sem,aa,ae,↓reduceIte,ab,e12]
 repeat refine an ?_
 refine(wL n (n+1) M h1 om om om hMb _ _ (dY.one hIM.vr.va)).mono ?_;rintro _ S5 ⟨bm,gm,rfl,hM5⟩;simp -dsimp only[go_sem,aa,ae,ab]
 repeat refine an ?_
 have hbb:=tq 31 om n om;refine(zP n (Be n) M hP (by unfold Be;omega) (fun R H' U hT=>?_) S5 _ (dY.one hM5.1.vr.va)).mono ?_
 ·obtain⟨a,b,_,_⟩:=hT.herm hP (fun r c h1 _ h3=>by unfold dp;rw[if_neg om])
  exact⟨a,b⟩
 rintro _ S6 ⟨b,gB,B,rfl,hB,hM6,hE6,_⟩;simp -dsimp only[go_sem,aa]
 repeat refine an ?_
 refine⟨b,rfl,gB,B,⟨piv,t,inv,hpiv,ht0,ht1,hinv.symm,by rw[hw];exact hs0,by rw[hMd];exact hP,by rw[hMd];exact hB⟩,hM6,((hE03.trans hE4).trans hM5.2.1).trans hE6⟩
theorem zO(S:St)(d n p:Nat)(H:aU)(v:Nat->Nat)(hF:kM n H)(hg:l5 (det n H) p)(hp:p∈eS)(hL:oV n p H v)(hd:bB S d 2 1 n (fun k=>.int .i64 ((v k:Nat):Int)))(hG:lf S) :
  cM 23 [aK n n H,.int .i64 p,.sl 1 d 0 n] S (fun r S'=>∃b g B,r=.tup [.sl 1 b 0 n,.int .i64 0]/\CW n p H v B/\dD S' b g n n B/\eZ S S'):=by
 refine aA Tryz.func23 rfl 28 Tryz.ntmps23 (by kernel_rfl) (by simp) (by simp[Tryz.results23]) ?_
 rw[aS,Tryz.results23];simp -dsimp only[go_sem,aj,aa,ae,reduceCtorEq,ab]
 repeat refine an ?_
 refine(zg S d n p H v hF hg hp hL hd hG).mono ?_;rintro _ S1 ⟨b,g,B,rfl,hB,hM,hE⟩;simp -dsimp only[go_sem,aa,ae,reduceCtorEq,ab,bne_self_eq_false]
 repeat refine an ?_
 refine(zt n n B hF.one (by have:=hF.five;omega) hF.one (by have:=hF.five;omega) (fun i j hi hj=>?_) S1 _ (dY.one hM.vr.va)).mono ?_
 ·obtain⟨piv,t,inv,_,_,_,_,_,hP,hU⟩:=hB.ex;have:=hU.ent hP i j hi hj;unfold nb at this;unfold kb;omega
 rintro _ S2 ⟨b2,g2,rfl,hM2⟩;simp -dsimp only[go_sem,aa]
 repeat refine an ?_
 exact⟨b2,rfl,g2,B,hB,hM2.1,hE.trans hM2.2.1⟩
theorem xJ{v:Nat->Int}:∀{n:Nat},gP v n=1->∃k,k<n/\v k=1
 | 0,h=>by simp[gP]at h
 | n+1,h=>by
  simp only[gP]at h;split at h
  ·exact⟨n,by omega,h⟩
  ·obtain⟨k,h1,h2⟩:=xJ h;exact⟨k,by omega,h2⟩
theorem CW.herm{n p:Nat}{H:aU}{v:Nat->Nat}{B:aU}(h:CW n p H v B):sP n B/\∀i j,i<n->j<n->nb (B i j) 31:=by
 obtain⟨piv,t,inv,_,_,_,_,_,hP,hU⟩:=h.ex;have hH:=hU.herm;exact⟨⟨fun r c h1 h2 h3=>hH.up r c h2 h1 om,fun r hr=>hH.pos r hr,fun r c hr hc=>hH.rng r c hr hc⟩,hU.ent hP⟩
theorem CW.mem{n p:Nat}{H:aU}{v:Nat->Nat}{B:aU}(hF:kM n H)(hp:p∈eS)(hL:oV n p H v)(h:CW n p H v B)(a:Nat->Int) :
  (∃y:Nat->Int,∀i,i<n->(p:Int)*a i=aD n fun d=>y d*B i d)↔(p:Int)∣aD n (fun i=>(aD n fun j=>H i j*((v j:Nat):Int))*a i):=by
 have hp17:3<=p/\p<=17:=by
  have hp':=hp;simp only[eS,eU,aZ,or_false]at hp';omega
 obtain⟨piv,t,inv,hpiv,ht0,ht1,hinv,hw0,hP,hU⟩:=h.ex;have hwr:=tO (n:=n) (H:=H) (p:=(p:Int)) (v:=fun k=>((v k:Nat):Int)) om;have hwe:=d9 (hwr piv).1 (hwr piv).2;obtain⟨_,hei⟩:=Co hp (x:=fZ n H p (fun k=>v k) piv%p) (by rw[hwe];have:=hwr piv;omega) (by rw[hwe];exact(hwr piv).2)
 rw[<-hinv,hwe]at hei;have hm:=hU.members hP (fun i=>(p:Int)*a i);have e1:(∃y:Nat->Int,∀i,i<n->(p:Int)*a i=aD n fun d=>y d*B i d)↔ik n n B (fun i=>(p:Int)*a i):=by
  constructor
  ·rintro⟨y,hy⟩;exact⟨y,fun i hi=>(hy i hi).trans (aP fun d _=>cZ _ _)⟩
  ·rintro⟨y,hy⟩;exact⟨y,fun i hi=>(hy i hi).trans (aP fun d _=>cZ _ _)⟩
 rw[e1,hm];obtain⟨k0,hk0,hv0⟩:=xJ hL.lead;have hmod:∀f:Nat->Int,(aD n fun i=>fZ n H p (fun k=>v k) i*f i)%p=(aD n fun i=>(aD n fun j=>H i j*((v j:Nat):Int))*f i)%p:=fun f=>by
  refine lp n _ _ p fun i _=>?_;rw[C2];show((aD n fun j=>H i j*((v j:Nat):Int))%p*f i)%p=_;rw[dl,eu _ (fO _),<-dl]
 have key:=Cc (p:=(p:Int)) om (piv:=piv) (k0:=k0) hpiv hk0 (w:=fZ n H p (fun k=>v k)) (v:=fun k=>((v k:Nat):Int)) (x:=fun i=>if i=piv then((v i:Nat):Int)+p*t else v i) (q:=fun j=>fZ n H p (fun k=>v k) j*inv%p) (inv:=inv)
  (by
   refine cF ?_;rw[Int.sub_emod,cZ,hei,d9 (show(0:Int)<=1 by omega) om]
   simp)
  (fun j hj hne=>by
   refine cF ?_;have h2:(fZ n H p (fun k=>v k) j*inv%p*fZ n H p (fun k=>v k) piv)%p=fZ n H p (fun k=>v k) j%p:=by
    rw[dl,eu _ (fO _),<-dl,gL,dl,cZ inv,hei,Int.mul_one,eu _ (fO _)]
   rw[Int.sub_emod,h2,Int.sub_self,Int.zero_emod])
  (fun i hi=>by
   by_cases e:i=piv
   ·rw[if_pos e,Int.add_comm,Int.add_sub_cancel];exact Int.dvd_mul_right _ _
   ·rw[if_neg e,Int.sub_self];exact jO _)
  hv0
  (by
   refine cF ?_;rw[hmod];exact hL.norm)
  a
 rw[key];constructor
 ·intro hd;refine cF ?_;rw[<-hmod];exact ed hd
 ·intro hd;refine cF ?_;rw[hmod];exact ed hd
def pU(n:Nat)(H:aU)(v a:Nat->Int)(i j:Nat):Int:=(aD i fun r=>aD n fun c=>H r c*v r*a c)+aD j fun c=>H i c*v i*a c
theorem Gp(n:Nat)(H:aU)(v a:Nat->Int)(i:Nat):pU n H v a (i+1) 0=pU n H v a i n:=by
 unfold pU;simp only[aD,Int.add_zero]
theorem Gn(X h v a p:Int):(X%p+(h%p*v)%p*(a%p))%p=(X+h*v*a)%p:=by
 rw[Bv,eu _ (fO p),dl,eu _ (fO p),eu _ (fO p),<-dl,gL,dl,eu _ (fO p),<-dl,<-gL,<-Bv]
theorem Gq{n:Nat}{H:aU}(hS:∀a b,a<n->b<n->H a b=H b a)(v a:Nat->Int):pU n H v a n 0=aD n fun i=>(aD n fun j=>H i j*v j)*a i:=by
 unfold pU;simp only[aD,Int.add_zero];rw[nf];refine aP fun i hi=>?_;rw[cZ _ (a i),<-dF];refine aP fun j hj=>?_;rw[hS j i hj hi,cZ]
theorem Gh{n p:Nat}{H:aU}{v:Nat->Nat}{B:aU}(hF:kM n H)(hp:p∈eS)(hL:oV n p H v)(h:CW n p H v B)(a:Nat->Int) :
  (pU n H (fun k=>v k) a n 0%p==0)=true↔∀i,i<n->jn B (fun i=>p*a i) n i=0:=by
 rw[FQ h.herm.1,h.mem hF hp hL a,Gq hF.red.pd.sym,beq_iff_eq];exact⟨cF,ed⟩
theorem Es(haw:∀S,lf S->cM 12 [] S (fun r S'=>r=.bool true/\eZ S S'))(S0:St)(hG:lf S0)(d k L:Nat)(nums:Nat->Int)(Lb:Nat)(base:Nat->AV)(q t:Nat)(hd:d<256)(hk:k<256)(hq:q<256)(ht:t<65536)(hnums:∀i,i<L->-128<=nums i/\nums i<=127)
  (m:Nat) (vn:Nat->Int) (hvn:∀i,i<m->-128<=vn i/\vn i<=127):cM 9 [vj d k L nums Lb base q t,.lst 1 m (fun i=>.int .i8 (vn i))] S0 (fun r S'=>r=.bool true/\eZ S0 S'):=by
 refine aA Tryz.func9 rfl 105 Tryz.ntmps9 (by kernel_rfl) (by simp) (by simp[Tryz.results9]) ?_
 rw[aS,Tryz.results9];simp -dsimp only[go_sem,aj,aa,ae,↓reduceIte,reduceCtorEq,ab,vj,dj,List.forall_mem_cons,aZ,false_implies,implies_true]
 repeat refine an ?_
 refine aG.intro fun b2 f2=>?_;simp -dsimp only[go_sem,aj,ae,List.getD_cons_zero,List.getD_cons_succ]
 repeat refine an ?_
 have hE0:eZ S0 (S0.upd b2 ⟨27,1,6,fun j=>[AV.int .u8 d,.int .u8 k,.lst 1 L (fun i=>.int .i8 (nums i)),.lst 1 Lb base,.int .u8 q,.int .u16 t].getD j .any⟩):=(eZ.refl S0).upd f2 _;have hG2:lf (S0.upd b2 ⟨27,1,6,fun j=>[AV.int .u8 d,.int .u8 k,.lst 1 L (fun i=>.int .i8 (nums i)),.lst 1 Lb base,.int .u8 q,.int .u16 t].getD j .any⟩):=hG.ext ((eZ.refl S0).upd f2 _);refine(Ep _ d k L nums Lb base q t hd hk hq ht hnums).mono ?_;rintro r S1 ⟨hE1,n,H,p,hF,hg,hp17,hR⟩;have hG1:=hG2.ext hE1;rcases hR with rfl|⟨dv,v,rfl,hv,_,hL⟩
 ·simp -dsimp only[go_sem,aa,ae,↓reduceIte,ab]
  repeat refine an ?_
  refine(haw S1 hG1).mono ?_;rintro _ S2 ⟨rfl,hE2⟩;simp -dsimp only[go_sem]
  repeat refine an ?_
  exact(hE0.trans hE1).trans hE2
 have h1:=hF.one;have hn:=hF.five;have hp:=hg.six hp17;have hp3:3<=p:=by
  have hp':=hp;simp only[eS,eU,aZ,or_false]at hp';omega
 simp -dsimp only[go_sem,aa,ae,↓reduceIte,ab]
 repeat refine an ?_
 refine(zO S1 dv n p H v hF hg hp hL hv hG1).mono ?_;rintro _ S2 ⟨b,g,B,rfl,hB,hM,hE2⟩;simp -dsimp only[go_sem,aa,ae,reduceCtorEq,ab,aK,bne_self_eq_false]
 repeat refine an ?_
 refine(Bp S2 m n vn om hvn).mono ?_;rintro _ S3 ⟨c,a,rfl,hA⟩;have hE3:=hA.ext;have hv3:=hE3.has (hE2.has hv);have hM3:=hM.ext hE3;have hG3:=(hG1.ext hE2).ext hE3;have hrng:=hA.rng;have ha3:=hA.has;have hpa:∀i,i<n->-2176<=(p:Int)*a i/\(p:Int)*a i<=2176:=fun i hi=>by
  obtain⟨x,y⟩:=hrng i hi;have q1:=cu y (show(0:Int)<=p by omega)
  have q2:=cu x (show(0:Int)<=p by omega)
  omega
 clear hA;simp -dsimp only[go_sem,aa,reduceCtorEq]
 repeat refine an ?_
 refine fm (fun O S=>∃(i:Nat) (x:AV),i<=n/\O 5=aK n n H/\O 6=.int .i64 p/\O 7=.sl 1 dv 0 n/\O 9=.sl 1 b 0 n/\O 11=.sl 1 c 0 n/\O 12=.int .i64 (pU n H (fun k=>v k) a i 0%p)/\O 13=x/\O 47=.int .i64 n/\O 48=.int .i64 i/\cJ 50 2 S3 S x i (fun k=>.big (p*a k))) (fun O S=>n-bY (O 48)) ?_ ?_
 ·simp -dsimp only[go_sem,aa,aK];exact⟨0,by omega,by simp[pU,aD],rfl,cJ.nil (eZ.refl S3) _⟩
 rintro Q' hQ' O S ⟨i,x,hi,e5,e6,e7,e9,e11,e12,e13,e47,e48,hX⟩;by_cases hit:i<n
 ·obtain⟨ga,ua,va⟩:=id (hX.1.has ha3);have xa:ga i=.int .i64 (a i):=va i hit;have wpa:IntKind.i64.wrap (p*a i)=p*a i:=by have:=hpa i hit;exact i64_in om om
  simp -dsimp only[go_sem,aa,ae,↓reduceIte,af,decide_true,ab,e6,e11,e13,e47,e48,hit,ua,xa,wpa]
  repeat refine an ?_
  refine(fA (by have:=hpa i hit;omega) (by have:=hpa i hit;omega)).call ?_
  simp -dsimp only[go_sem,aa,↓reduceIte,e6,e11,e13]
  repeat refine an ?_
  refine aG.intro fun b59 f59=>?_;have hxb:=hX.fresh f59
  try simp -dsimp only[go_sem,aa,↓reduceIte,e13]
  refine cJ.app50 (hX.upd (hX.1.none f59) hxb _) om (show du 2 (.big (p*a i))from trivial) (bD ⟨_,_,_,rfl,bV,rfl,fun h=>hxb _ h rfl⟩) ?_;intro cx S7 hX' _ _;simp -dsimp only[go_sem,aa,↓reduceIte,e5,e6,e11,e13,aK]
  repeat refine an ?_
  refine fm (fun O S'=>∃j:Nat,j<=n/\S7=S'/\O 5=aK n n H/\O 6=.int .i64 p/\O 7=.sl 1 dv 0 n/\O 9=.sl 1 b 0 n/\O 11=.sl 1 c 0 n/\O 12=.int .i64 (pU n H (fun k=>v k) a i j%p)/\O 13=.sl 2 cx 0 (i+1)/\O 14=.int .i64 i/\O 47=.int .i64 n/\O 48=.int .i64 i/\O 62=.int .i64 n/\O 63=.int .i64 j) (fun O S=>n-bY (O 63)) ?_ ?_
  ·simp -dsimp only[go_sem,aa,e5,e6,e7,e9,e11,e12,e47,e48,aK];exact⟨0,by omega,rfl,rfl⟩
  clear e5 e6 e7 e9 e11 e12 e13 e47 e48;rintro Q'' hQ'' O S' ⟨j,hj,rfl,e5,e6,e7,e9,e11,e12,e13,e14,e47,e48,e62,e63⟩;by_cases hjt:j<n
  ·obtain⟨ga,ua,va⟩:=id (hX'.1.has ha3);obtain⟨gv,uv,vv⟩:=id (hX'.1.has hv3);have xa:ga j=.int .i64 (a j):=va j hjt;have xv:gv i=.int .i64 (v i:Nat):=vv i hit;have hvl:=hL.lt i hit;have hM1:=aT (H i j) (show(p:Int)≠0 by omega)
   have hM2:=aM (H i j) (show(0:Int)<p by omega)
   have hA1:=aT (a j) (show(p:Int)≠0 by omega)
   have hA2:=aM (a j) (show(0:Int)<p by omega)
   have hI1:=aT (pU n H (fun k=>v k) a i j) (show(p:Int)≠0 by omega)
   have hI2:=aM (pU n H (fun k=>v k) a i j) (show(0:Int)<p by omega)
   have hm1:0<=H i j%p*((v i:Nat):Int)/\H i j%p*((v i:Nat):Int)<=289:=by
    have:=cH (show H i j%p<=17 by omega) (show((v i:Nat):Int)<=17 by omega) om om
    exact⟨cY hM1 om,by omega⟩
   have hR1:=aT (H i j%p*((v i:Nat):Int)) (show(p:Int)≠0 by omega)
   have hR2:=aM (H i j%p*((v i:Nat):Int)) (show(0:Int)<p by omega)
   have hm2:0<=H i j%p*((v i:Nat):Int)%p*(a j%p)/\H i j%p*((v i:Nat):Int)%p*(a j%p)<=289:=by
    have:=cH (show H i j%p*((v i:Nat):Int)%p<=17 by omega) (show a j%p<=17 by omega) om om
    exact⟨cY hR1 hA1,by omega⟩
   have w1:IntKind.i64.wrap (H i j%p*((v i:Nat):Int))=H i j%p*((v i:Nat):Int):=i64_in om om;have w2:(H i j%p*((v i:Nat):Int)).tmod p=H i j%p*((v i:Nat):Int)%p:=Int.tmod_eq_emod_of_nonneg hm1.1;have w3:IntKind.i64.wrap (H i j%p*((v i:Nat):Int)%p*(a j%p))=H i j%p*((v i:Nat):Int)%p*(a j%p):=i64_in om om;have w4:IntKind.i64.wrap (pU n H (fun k=>v k) a i j%p+H i j%p*((v i:Nat):Int)%p*(a j%p))=pU n H (fun k=>v k) a i j%p+H i j%p*((v i:Nat):Int)%p*(a j%p):=i64_in om om;have hp0:¬(p:Int)=0:=by omega
   simp -dsimp only[go_sem,aa,af,decide_true,e62,e63,hjt]
   repeat refine an ?_
   refine DO 10 27 (by kernel_rfl) fun K1 hK1=>?_
   simp -dsimp only[go_sem,aa,ae,↓reduceIte,af,ab,e5,e6,e12,e14,hjt,hit,aK,bJ]
   repeat refine an ?_
   refine⟨_,(r9 (show(0:Int)<p by omega) om).pure',?_⟩
   rw[hK1];refine qO 13 fun K2 hK2=>?_;simp -dsimp only[go_sem,aa,ae,↓reduceIte,reduceCtorEq,af,ab,e6,e7,e11,e14,hjt,hit,uv,xv,ua,xa,hp0,w1,w2]
   repeat refine an ?_
   refine⟨_,(r9 (show(0:Int)<p by omega) om).pure',?_⟩
   rw[hK2];refine qO 4 fun K3 hK3=>?_;simp -dsimp only[go_sem,aa,ae,reduceCtorEq,ab,e6,w3,w4]
   repeat refine an ?_
   refine⟨_,(r9 (show(0:Int)<p by omega) om).pure',?_⟩
   rw[hK3,Gn];simp -dsimp only[go_sem,aa,↓reduceIte,reduceCtorEq,e5,e6,e7,e9,e11,e13,e14,e47,e48,e62,e63,aW (show j<1000000 by omega),bY]
   repeat refine an ?_
   exact⟨⟨j+1,by omega,by simp only[pU,aD,Int.add_assoc],rfl⟩,by omega⟩
  ·obtain rfl:j=n:=by omega
   simp -dsimp only[go_sem,aa,af,decide_false,e62,e63,hjt]
   repeat refine an ?_
   rw[hQ''];simp -dsimp only[go_sem,aa,↓reduceIte,e5,e6,e7,e9,e11,e12,e13,e47,e48,aW (show i<1000000 by omega),bY]
   repeat refine an ?_
   refine⟨⟨i+1,by omega,rfl,by rw[Gp],rfl,hX'.congr fun r hr=>?_⟩,by omega⟩
   by_cases e:r=i
   ·subst e;rw[if_pos rfl]
   ·rw[if_neg e]
 have hin:i=n:=by omega
 rw[hin]at hX e12;simp -dsimp only[go_sem,aa,ae,↓reduceIte,reduceCtorEq,af,decide_false,ab,e6,e11,e13,e47,e48,hit]
 repeat refine an ?_
 rw[hQ'];simp -dsimp only[go_sem,aa,ae,↓reduceIte,ab,e9]
 repeat refine an ?_
 have hM4:=hM3.ext hX.1;obtain⟨hHM,hHn⟩:=hB.herm;refine(DR n n B h1 om h1 om (fun r c hr hc=>by have:=hHn r c hr hc;unfold nb at this;unfold Ki;omega)).spec (dY.one hM4.vr.va) ?_
 simp -dsimp only[go_sem,aa,ae,ab,e9,e13]
 repeat refine an ?_
 rcases hX.2 with⟨h0,_⟩|⟨cx,_,rfl,hC⟩
 ·omega
 refine(Bz n B (fun i=>p*a i) 31 h1 om om om hHn hHM (fun i hi=>by have:=hpa i hi;unfold nb;omega) (pU n H (fun k=>v k) a n 0%p==0) (Gh hF hp hL hB a)).spec (dY.two (VA.refl _ _) (VR.sl hC om (fun r hr=>by rw[Nat.zero_add];exact VR.mf rfl)).va) ?_
 simp -dsimp only[go_sem,aa,ae,ab,e9,e12,e13,beq_self_eq_true]
 repeat refine an ?_
 refine(haw S (hG3.ext hX.1)).mono ?_;rintro _ S9 ⟨rfl,hE9⟩;simp -dsimp only[go_sem,aa,beq_self_eq_true]
 repeat refine an ?_
 exact((((hE0.trans hE1).trans hE2).trans hE3).trans hX.1).trans hE9
end Go.Proofs.YtdobfmlmenaajaaGreatDoor
