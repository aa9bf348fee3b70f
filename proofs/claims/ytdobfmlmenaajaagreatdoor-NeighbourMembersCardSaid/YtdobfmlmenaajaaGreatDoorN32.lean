/-
  Lemmas for NeighbourMembers.
-/
import Derived.Test.YtdobfmlmenaajaaGreatDoorN31
import Derived.Test.YtdobfmlmenaajaaGreatDoorN26
namespace Go.Proofs.YtdobfmlmenaajaaGreatDoor
open Go.RowKit
open _root_.Int renaming ofNat_lt→af,zero_le_ofNat→ay,sign_eq_one_of_pos→cK,mul_ediv_cancel_left→c8
open _root_.List renaming not_mem_nil→aZ,forall_mem_cons→bC,getElem?_cons_succ→bN,getElem?_cons_zero→cE
open _root_.Nat renaming reduceEqDiff→aa,add_one_le_iff→ab,reduceLT→ae,reduceAdd→aj,reduceLeDiff→aq,zero_add→aC
open _root_.Option renaming none→ac,map_some→da,some→dO,map_none→jd
open _root_.Or renaming inr→bD
set_option maxHeartbeats 6400000
set_option maxRecDepth 4096
set_option linter.all false
def wM(A:aU)(n R:Nat):aU:=fun a b=>A (qb n R a) b
structure kh(n:Nat)(A:aU):Prop where
 h1:1<=n
 hn:n<=5
 hB:∀σ k,jT A (n+1) σ k->∀k' i j,k'+j<n+1->k'+i<n+n+1->nb (cI (fun x y=>A x (σ y)) k' i j) 31
 hdet:det (n+1) (wM A n (n+n))≠0
 hrow:∀R,n<=R->R<=n+n->det (n+1) (wM A n R)≠0->∀σ neg k,mz (wM A n R) (n+1) σ neg k->∀k' i j,k'+i<n+1->k'+j<n+1->nb (cI (fun a b=>wM A n R (σ a) b) k' i j) 31
 hent:∀r j,r<n+n+1->j<n+1->nb (A r j) 31
structure E5(n:Nat)(A:aU)(R:Nat)(H U:aU):Prop where
 r1:n<=R
 r2:R<=n+n
 dt:det (n+1) (wM A n R)≠0
 tl:∃d M,TL (n+1) (ik (n+1) (n+1) (wM A n R)) d M/\M 0=((det (n+1) (wM A n R)).natAbs:Int)/\HI (n+1) (ik (n+1) (n+1) (wM A n R)) d M (n+1) (fun j r=>H r j)
 mu:∀i j,i<n+1->j<n+1->mm (n+1) (wM A n R) U i j=H i j
theorem kh.dlt{n:Nat}{A:aU}(h:kh n A){R:Nat}(h1:n<=R)(h2:R<=n+n)(hd:det (n+1) (wM A n R)≠0):(det (n+1) (wM A n R)).natAbs<2147483648:=by
 have:=h.hrow R h1 h2 hd id false 0 (mz.init _ _) n 0 0 om om;rw[cP]at this;exact this
structure TF(S0 S:St)(b b1 b3 bu:Nat)(g gu:Nat->Nat)(n top:Nat)(A X:aU)(D:Int):Prop where
 cols:cS S b g (n+1) (n+n+1) (fun j r=>A r j)
 pair:bB S b1 218 1 2 (F5 b (n+1) top)
 var:dc S b3 50 2 (.big D)
 mat:cS S bu gu (n+1) (n+1) X
 ext:eZ S0 S
 new:∀a,a<n+1->S0 (gu a)=ac
theorem TF.congr{S0 S:St}{b b1 b3 bu:Nat}{g gu:Nat->Nat}{n top:Nat}{A X Y:aU}{D:Int}(h:TF S0 S b b1 b3 bu g gu n top A X D)(he:∀a c,a<n+1->c<n+1->X a c=Y a c):TF S0 S b b1 b3 bu g gu n top A Y D:=⟨h.cols,h.pair,h.var,h.mat.congr he,h.ext,h.new⟩
theorem TF.other{S0 S:St}{b b1 b3 bu:Nat}{g gu:Nat->Nat}{n top:Nat}{A X:aU}{D:Int}(h:TF S0 S b b1 b3 bu g gu n top A X D){e:Nat}(he:S e=ac)(Z:dn):TF S0 (S.upd e Z) b b1 b3 bu g gu n top A X D :=
 ⟨h.cols.upd (bB.fresh h.cols.outer he) (fun a ha=>bB.fresh (h.cols.row a ha) he) _,h.pair.upd (bB.fresh h.pair he) _,h.var.upd (h.var.fresh he) _,h.mat.upd (bB.fresh h.mat.outer he) (fun a ha=>bB.fresh (h.mat.row a ha) he) _,h.ext.upd (h.ext.none he) _,h.new⟩
theorem TF.set{S0 S:St}{b b1 b3 bu:Nat}{g gu:Nat->Nat}{n top:Nat}{A X:aU}{D:Int}(h:TF S0 S b b1 b3 bu g gu n top A X D){i j:Nat}{z:Int}{g':Nat->AV}(hi:i<n+1)(hS:S (gu i)=some ⟨50,2,n+1,g'⟩)(hn:1<=n):TF S0 (S.upd (gu i) ⟨50,2,n+1,bK g' j (.big z)⟩) b b1 b3 bu g gu n top A (d6 X i j z) D:=by
 have hr:=h.mat.row i hi;refine⟨h.cols.upd (bB.ne h.cols.outer hr (by decide)) (fun a ha e=>?_) _,h.pair.upd (bB.ne h.pair hr (by decide)) _,h.var.upd (fun e=>?_) _,h.mat.set hi hS,h.ext.upd (h.new i hi) _,h.new⟩
 ·obtain⟨y,k,_⟩:=h.cols.row a ha;rw[e,hS]at k;have k':=congrArg (Option.map dn.n) k;simp only[da,dO.injEq]at k';omega
 ·obtain⟨y,k,_⟩:=h.var;rw[e,hS]at k;cases k;omega
theorem t3(S0:St)(b n top:Nat)(g:Nat->Nat)(A:aU)(hP:kh n A)(hO:cS S0 b g (n+1) (n+n+1) (fun j r=>A r j)) :
  cM 233 [.agg [.sl 1 b 0 (n+1),.int .i64 top]] S0 (fun _ S'=>(∃R H U,E5 n A R H U/\∃g',cS S' b g' (n+1) (n+n+1) (jm (n+1) (fun k r=>A r k) U))/\fU b S0 S'):=by
 refine gG Tryz.func233 rfl 65 Tryz.ntmps233 (by kernel_rfl) (by simp) ?_
 rw[aS,Tryz.results233];have h1:=hP.h1;have hn:=hP.hn;simp -dsimp only[go_sem,aj,reduceCtorEq,bC,aZ,false_implies,implies_true]
 repeat refine an ?_
 refine aG.intro fun b1 f1=>?_;refine md (fun T=>bB T b1 218 1 2 (F5 b (n+1) top)/\eZ S0 T) ?_ ?_
 ·refine⟨bB.here fun j hj=>?_,(eZ.refl S0).upd f1 _⟩
  match j,hj with
  | 0,_=>rfl
  | 1,_=>rfl
 rintro T ⟨hT1,hET⟩;have hOT:=hO.ext hET;obtain⟨g1,u1,v1⟩:=id hT1;have x0:g1 0=.sl 1 b 0 (n+1):=v1 0 om;have x1:g1 1=.int .i64 top:=v1 1 om;refine ee 3 [[0,1],[],[]] (by kernel_rfl) ?_
 simp -dsimp only[go_sem,aa,ae,↓reduceIte,ab,u1,x0,x1,dj]
 repeat refine an ?_
 refine(rL T b g n (n+1) (n+n+1) top A hn h1 rfl rfl hOT.cols hP.hB hP.hdet).mono ?_;rintro _ S1 ⟨e,R,rfl,r1,r2,r3,hL,hE1⟩;obtain⟨g2,u2,v2⟩:=id (hE1.has hT1);have y0:g2 0=.sl 1 b 0 (n+1):=v2 0 om;simp -dsimp only[go_sem,aa,ae,↓reduceIte,ab,u2,y0]
 repeat refine an ?_
 have hO1:=hOT.ext hE1;refine(tc (n+1) (n+n+1) (n+1) 31 (fun j r=>A r j) (qb n R) om om (fun i hi=>by unfold qb;split<;>omega) (fun c r hc hr=>hP.hent r c hr hc) om _ _ (dY.two hO1.vr.va (VR.sl hL om (fun a ha=>by rw[aC];exact VR.mf rfl)).va)).mono ?_
 rintro _ S2 ⟨bw,gw,rfl,hw,hE2,_,_⟩
 replace r3:det (n+1) (wM A n R)≠0:=r3
 replace hw:cS S2 bw gw (n+1) (n+1) (wM A n R):=hw
 have hrow:=hP.hrow R r1 r2 r3;have hdl:=hP.dlt r1 r2 r3;have hwe:∀i j,i<n+1->j<n+1->nb (wM A n R i j) 31:=fun i j hi hj=>hP.hent _ _ (by unfold qb;split<;>omega) hj
 have hE02:eZ S0 S2:=(hET.trans hE1).trans hE2;have hp2:=(hE1.trans hE2).has hT1;simp -dsimp only[go_sem,aa,ae,ab]
 repeat refine an ?_
 refine(Hh (n+1) (wM A n R) om om r3 hrow).spec (dY.one hw.vr.va) ?_;simp -dsimp only[go_sem,aa]
 repeat refine an ?_
 refine aG.intro fun b3 f3=>?_
 try simp -dsimp only[go_sem,aa,aq,ae,↓reduceIte]
 have s3:=hE02.none f3;have hNR:n+1≠1:=by omega
 refine Bq (fun T=>cS T bw gw (n+1) (n+1) (wM A n R)/\dc T b3 50 2 (.big (det (n+1) (wM A n R)))/\eZ S0 T/\bB T b1 218 1 2 (F5 b (n+1) top)) ?_ ?_
 ·have q1:bw≠b3:=bB.fresh hw.outer f3;have q2:∀a,a<n+1->gw a≠b3:=fun a ha=>bB.fresh (hw.row a ha) f3;have q3:b1≠b3:=bB.fresh hp2 f3;exact⟨(hw.upd q1 q2 _).upd q1 q2 _,dc.set,(hE02.upd s3 _).upd s3 _,(hp2.upd q3 _).upd q3 _⟩
 clear hw hE02 hp2 hE1 hE2 hL hO1 u2 v2 y0 u1 v1 x0 x1 hOT hT1 hET f3;rintro T3 ⟨hw,V3,hE03,hp3⟩;refine(zS (n+1) 31 (wM A n R) om om om om hwe _ _ (dY.one hw.vr.va)).mono ?_;rintro _ S4 ⟨ba,ga,rfl,hA4,hE4,_⟩;obtain⟨g3,u3,x3⟩:=id (V3.ext hE4);simp -dsimp only[go_sem,aa,ae,↓reduceIte,ab,u3,x3]
 repeat refine an ?_
 have hw4:=hw.ext hE4;refine(tZ (n+1) (wM A n R) om om (fun i j hi hj=>(hwe i j hi hj).mono om) r3 hdl _ _ (dY.two hw4.vr.va (VA.refl _ _))).mono ?_;rintro _ S5 ⟨bh,gh,H,rfl,⟨d,M,hTL,hM0,hHI⟩,hH5,hE5,_⟩;have hHr:∀i j,i<n+1->j<n+1->nb (H i j) 31:=fun i j hi hj=>by
  have:=hHI.rng hTL (Nat.le_refl _) (fun c r _ h1 h2=>by omega) hj hi
  unfold nb;omega
 have hAb:∀i j,i<n+1->j<n+1->nb (lj (n+1) (wM A n R) i j) (gC 31 n):=fun i j hi hj=>by
  have:=uR om om hwe n i j hi hj;unfold lj;split
  ·exact this.neg
  ·exact this
 have hbm:=mR 31 n;have hbl:=tq 31 om n om;obtain⟨U,hU1,hU2⟩:=Ex (N:=n+1) (w:=wM A n R) (H:=H) om (fun j hj=>hHI.mem j hj);simp -dsimp only[go_sem,aa,ae,↓reduceIte,ab]
 repeat refine an ?_
 refine(Bt (n+1) (n+1) (n+1) (gC 31 n) (lj (n+1) (wM A n R)) H om om om om om om hAb (fun i j hi hj=>(hHr i j hi hj).mono hbm) om _ _ (dY.two (hA4.ext hE5).vr.va hH5.vr.va)).mono ?_;rintro _ S6 ⟨bu,gu,rfl,hU6,hE6,nu,nug⟩;have hE46:=(hE4.trans hE5).trans hE6;have hXb:∀i j,i<n+1->j<n+1->nb (mm (n+1) (lj (n+1) (wM A n R)) H i j) (gC 31 n+gC 31 n+8):=fun i j hi hj=>Dz om hAb (fun i j hi hj=>(hHr i j hi hj).mono hbm) hi hj;have hTF:TF S0 S6 b b1 b3 bu g gu n top A (fun a c=>det (n+1) (wM A n R)*U a c) (det (n+1) (wM A n R)):=⟨hO.ext (hE03.trans hE46),hE46.has hp3,V3.ext hE46,hU6.congr hU2,hE03.trans hE46,fun a ha=>((hE03.trans hE4).trans hE5).none (nug a ha)⟩;have hDb:∀a c,a<n+1->c<n+1->nb (det (n+1) (wM A n R)*U a c) (gC 31 n+gC 31 n+8):=fun a c ha hc=>by rw[<-hU2 a c ha hc];exact hXb a c ha hc
 have hTr:E5 n A R H U:=⟨r1,r2,r3,⟨d,M,hTL,hM0,hHI⟩,hU1⟩;have hUb:∀a c,a<n+1->c<n+1->nb (U a c) (gC 31 n+gC 31 n+9):=fun a c ha hc=>by
  have:=yU (b:=det (n+1) (wM A n R)) (hDb a c ha hc)
  rwa [c8 _ r3]at this
 generalize hDe:det (n+1) (wM A n R)=D at *;clear hHI hTL hM0 hH5 hU6 hA4 hw4 hw V3 u3 x3 hE46 hE6 hE5 hE4 hE03 hp3 nu nug hU1 hU2 hXb hAb hHr hrow hwe;simp -dsimp only[go_sem,aa,↓reduceIte]
 repeat refine an ?_
 refine aI (fun O S=>∃i:Nat,i<=n+1/\O 1=.ptr 1 b1 0/\O 3=.ptr 2 b3 0/\O 7=.sl 1 bu 0 (n+1)/\O 36=.sl 1 bu 0 (n+1)/\O 37=.int .i64 ((n+1:Nat):Int)/\O 38=.int .i64 i/\TF S0 S b b1 b3 bu g gu n top A (fun a c=>if a<i then U a c else D*U a c) D) (fun O S=>n+1-bY (O 38)) ?_ ?_
 ·simp -dsimp only[go_sem,aa];exact⟨0,by omega,rfl,hTF.congr fun a c _ _=>by simp⟩
 clear hTF;rintro O S ⟨i,hi,e1,e3,e7,e36,e37,e38,hS⟩;by_cases hit:i<n+1
 ·obtain⟨g1,u1,v1⟩:=hS.mat.outer;have x1:g1 i=.sl 2 (gu i) 0 (n+1):=v1 i hit;simp -dsimp only[go_sem,aa,ae,↓reduceIte,af,decide_true,ab,e1,e7,e36,e37,e38,hit,u1,x1]
  repeat refine an ?_
  refine aI (fun O S=>∃j:Nat,j<=n+1/\O 1=.ptr 1 b1 0/\O 3=.ptr 2 b3 0/\O 7=.sl 1 bu 0 (n+1)/\O 10=.sl 2 (gu i) 0 (n+1)/\O 36=.sl 1 bu 0 (n+1)/\O 37=.int .i64 ((n+1:Nat):Int)/\O 38=.int .i64 i/\O 42=.sl 2 (gu i) 0 (n+1)/\O 43=.int .i64 ((n+1:Nat):Int)/\O 44=.int .i64 j/\TF S0 S b b1 b3 bu g gu n top A (fun a c=>if a<i∨(a=i/\c<j)then U a c else D*U a c) D) (fun O S=>n+1-bY (O 44)) ?_ ?_
  ·simp -dsimp only[go_sem,aa,e1,e3,e7,e36,e37,e38];exact⟨0,by omega,rfl,hS.congr fun a c _ _=>by simp⟩
  clear hS e1 e3 e7 e36 e37 e38 u1 v1 x1;rintro O S ⟨j,hj,e1,e3,e7,e10,e36,e37,e38,e42,e43,e44,hS⟩;by_cases hjt:j<n+1
  ·obtain⟨g2,u2,v2⟩:=hS.mat.row i hit;have x2:g2 j=.big (D*U i j):=(v2 j hjt).trans (by simp)
   obtain⟨g3,u3,x3⟩:=id hS.var;simp -dsimp only[go_sem,aa,↓reduceIte,af,decide_true,ab,e1,e3,e7,e36,e37,e38,e42,e43,e44,hjt,u2]
   repeat refine an ?_
   refine aG.intro fun b12 f12=>?_;have q1:b3≠b12:=hS.var.fresh f12;have q2:gu i≠b12:=bB.fresh (hS.mat.row i hit) f12;simp -dsimp only[go_sem,aa,ae,↓reduceIte,ab,e3,e10,e44,x2,u3,x3,q1,d7]
   repeat refine an ?_
   refine(nv (hDb i j hit hjt) (by unfold nb;omega) om r3).call ?_
   rw[c8 _ r3];simp -dsimp only[go_sem,aa,↓reduceIte,af,ab,e1,e3,e7,e10,e36,e37,e38,e42,e43,e44,hjt,u2,x3,q2,aW (show j<1000000 by omega),bY]
   repeat refine an ?_
   refine⟨⟨j+1,by omega,rfl,?_⟩,by omega⟩
   rw[kt];refine((hS.other f12 _).set hit (by rw[aQ q2];exact u2) om).congr fun a c _ _=>?_
   simp only[d6];by_cases e:a=i/\c=j
   ·obtain⟨rfl,rfl⟩:=e;simp
   ·rw[if_neg e];by_cases e2:a<i∨(a=i/\c<j)
    ·rw[if_pos e2,if_pos om]
    ·rw[if_neg e2,if_neg om]
  have hnj:n+1=j:=by omega
  simp -dsimp only[go_sem,aa,↓reduceIte,af,decide_false,ab,e1,e3,e7,e36,e37,e38,e42,e43,e44,hjt,aW (show i<1000000 by omega),bY]
  repeat refine an ?_
  refine⟨⟨i+1,by omega,rfl,hS.congr fun a c _ hc=>?_⟩,by omega⟩
  by_cases e2:a<i∨(a=i/\c<j)
  ·rw[if_pos e2,if_pos om]
  ·rw[if_neg e2,if_neg om]
 obtain⟨g1,u1,v1⟩:=id hS.pair;have x1:g1 0=.sl 1 b 0 (n+1):=v1 0 om;simp -dsimp only[go_sem,aa,ae,↓reduceIte,af,decide_false,ab,e1,e7,e36,e37,e38,hit,u1,x1]
 repeat refine an ?_
 refine(BT S b bu g gu (n+1) (n+n+1) (gC 31 n+gC 31 n+40) (fun j r=>A r j) _ om om om (fun a r ha hr=>(hP.hent r a hr ha).mono om) (fun a r ha hr=>?_) om hS.cols hS.mat).mono ?_
 ·rw[if_pos om];exact(hUb a r ha hr).mono om
 rintro _ S7 ⟨⟨g',hO7⟩,hK7⟩;simp -dsimp only[go_sem];refine⟨⟨R,H,U,hTr,g',hO7.congr fun a r ha hr=>?_⟩,(fU.ext hS.ext).trans hK7⟩;unfold jm;exact aP fun k hk=>by dsimp only;rw[if_pos om]
theorem sM(n m:Nat)(A:aU)(h1:1<=n)(h2:n<=16)(h3:1<=m)(h4:m<=16):PF 210 [aV n m A] (.tup [.int .i64 n,.int .i64 m,.bool true]):=by
 refine PF.of_spec (aA Tryz.func210 rfl 10 Tryz.ntmps210 (by kernel_rfl) (by simp) (by simp[Tryz.results210]) ?_)
 rw[aS,Tryz.results210];simp -dsimp only[go_sem,aa,ae,reduceCtorEq,ab,aV,bn]
 repeat refine an ?_
 refine(jX n m A h1 h2 h3 h4).call ?_;simp -dsimp only[go_sem,aa,reduceCtorEq]
 repeat refine an ?_
 exact VR.tup (by simp[nY])
structure FS(S:St)(b b8:Nat)(g:Nat->Nat)(n i:Nat)(C:aU)(x y:AV):Prop where
 cols:cS S b g (n+1) (n+n+1) C
 pair:bB S b8 218 1 2 (F5 b (n+1) n)
 hx:cJ 3 1 St.none S x (min i n) (fun a=>.int .i64 ((a:Nat):Int))
 hy:cJ 3 1 St.none S y (i-n) (fun a=>.int .i64 ((n+a:Nat):Int))
 xy:∀d,dH x d->¬dH y d
theorem FS.other{S:St}{b b8:Nat}{g:Nat->Nat}{n i:Nat}{C:aU}{x y:AV}(h:FS S b b8 g n i C x y){e:Nat}(he:S e=ac)(Z:dn):FS (S.upd e Z) b b8 g n i C x y :=
 ⟨h.cols.upd (bB.fresh h.cols.outer he) (fun a ha=>bB.fresh (h.cols.row a ha) he) _,h.pair.upd (bB.fresh h.pair he) _,h.hx.upd rfl (h.hx.fresh he) _,h.hy.upd rfl (h.hy.fresh he) _,h.xy⟩
theorem FS.appx{S S':St}{b b8:Nat}{g:Nat->Nat}{n i:Nat}{C:aU}{x y:AV}(h:FS S b b8 g n i C x y)(hi:i<n){c:Nat}(hX:cJ 3 1 St.none S' (.sl 1 c 0 (min i n+1)) (min i n+1) (fun a=>if a=min i n then .int .i64 (i:Int)else .int .i64 ((a:Nat):Int)))(hk:∀d X,S d=some X->¬dH x d->S' d=some X)(hc:dH x c∨S c=ac) :
  FS S' b b8 g n (i+1) C (.sl 1 c 0 (min i n+1)) y:=by
 have kp:∀{b ty es n:Nat} {g:Nat->AV},bB S b ty es n g->ty≠3->bB S' b ty es n g:=fun hh ht=>by
  obtain⟨z,k1,k2⟩:=hh;exact⟨z,hk _ _ k1 (h.hx.other k1 ht),k2⟩
 have hm:min i n=i:=by omega
 refine⟨⟨kp h.cols.outer (by decide),fun a ha=>kp (h.cols.row a ha) (by decide),h.cols.inj⟩,kp h.pair (by decide),?_,?_,fun d hd hd2=>?_⟩
 ·rw[hm]at hX ⊢;rw[show min (i+1) n=i+1 by omega]
  exact hX.congr fun a _=>by
   by_cases e:a=i
   ·rw[if_pos e,e]
   ·rw[if_neg e]
 ·have:=h.hy.keep (eZ.noneS _) hk (fun d hd hd2=>h.xy d hd2 hd);rw[show i+1-n=i-n by omega]
  exact this
 ·rw[eT]at hd;subst hd;rcases hc with e|e
  ·exact h.xy _ e hd2
  ·obtain⟨X,hX'⟩:=h.hy.blk hd2;rw[hX']at e;cases e
theorem FS.appy{S S':St}{b b8:Nat}{g:Nat->Nat}{n i:Nat}{C:aU}{x y:AV}(h:FS S b b8 g n i C x y)(hi:n<=i){c:Nat}(hX:cJ 3 1 St.none S' (.sl 1 c 0 (i-n+1)) (i-n+1) (fun a=>if a=i-n then .int .i64 (i:Int)else .int .i64 ((n+a:Nat):Int)))(hk:∀d X,S d=some X->¬dH y d->S' d=some X)(hc:dH y c∨S c=ac) :
  FS S' b b8 g n (i+1) C x (.sl 1 c 0 (i-n+1)):=by
 have kp:∀{b ty es n:Nat} {g:Nat->AV},bB S b ty es n g->ty≠3->bB S' b ty es n g:=fun hh ht=>by
  obtain⟨z,k1,k2⟩:=hh;exact⟨z,hk _ _ k1 (h.hy.other k1 ht),k2⟩
 refine⟨⟨kp h.cols.outer (by decide),fun a ha=>kp (h.cols.row a ha) (by decide),h.cols.inj⟩,kp h.pair (by decide),?_,?_,fun d hd hd2=>?_⟩
 ·have:=h.hx.keep (eZ.noneS _) hk (fun d hd hd2=>h.xy d hd hd2);rw[show min (i+1) n=min i n by omega]
  exact this
 ·rw[show i+1-n=i-n+1 by omega]
  exact hX.congr fun a _=>by
   by_cases e:a=i-n
   ·rw[if_pos e,e];congr 1;omega
   ·rw[if_neg e]
 ·rw[eT]at hd2;subst hd2;rcases hc with e|e
  ·exact h.xy _ hd e
  ·obtain⟨X,hX'⟩:=h.hx.blk hd;rw[hX']at e;cases e
theorem zJ(n k:Nat)(M:aU)(hP:kh n (dp n M))(hk:k<=1000000)(hU:∀R H U,E5 n (dp n M) R H U->∀a r,a<n+1->r<n+n+1->nb (jm (n+1) (fun k r=>dp n M r k) U a r) k) :
  cM 184 [aV n (n+1) M] St.none (fun r _=>∃R H U,E5 n (dp n M) R H U/\∃V,r=.tup [aV n (n+1) (fun i j=>jm (n+1) (fun k r=>dp n M r k) U j i),V,.bool true]):=by
 refine aA Tryz.func184 rfl 51 Tryz.ntmps184 (by kernel_rfl) (by simp) (by simp[Tryz.results184]) ?_
 rw[aS,Tryz.results184];have h1:=hP.h1;have hn:=hP.hn;simp -dsimp only[go_sem,aa,ae,reduceCtorEq,ab,aV,bn]
 repeat refine an ?_
 refine(sM n (n+1) M h1 om om om).call ?_;simp -dsimp only[go_sem,aa,ae,reduceCtorEq,ab]
 repeat refine an ?_
 refine(yJ _ n (n+1) M h1 om om om).mono ?_;rintro _ S1 ⟨b,g,rfl,hO,_⟩;simp -dsimp only[go_sem,aj,aa,ae,↓reduceIte,reduceCtorEq,ab]
 repeat refine an ?_
 refine aG.intro fun b8 f8=>?_;simp -dsimp only[go_sem,aj,aq,ae,↓reduceIte,reduceCtorEq,gI,dj,bC,aZ,false_implies,implies_true,List.getD_cons_zero,List.getD_cons_succ,Nat.sub_zero,Nat.sub_self]
 repeat refine an ?_
 have h8:∀{c ty es k:Nat} {z:Nat->AV},bB S1 c ty es k z->c≠b8:=fun h=>bB.fresh h f8;rw[<-Nat.add_assoc]at hO;have hO8:=(hO.upd (h8 hO.outer) (fun a ha=>h8 (hO.row a ha)) ⟨218,1,2,fun j=>if j=0 then AV.nil else AV.int IntKind.i64 0⟩).upd (h8 hO.outer) (fun a ha=>h8 (hO.row a ha)) ⟨218,1,2,gI (fun j=>if j=0 then AV.nil else AV.int IntKind.i64 0) 0 [AV.sl 1 b 0 (n+1),AV.int IntKind.i64 n]⟩
 have hp8:bB ((S1.upd b8 ⟨218,1,2,fun j=>if j=0 then AV.nil else AV.int IntKind.i64 0⟩).upd b8 ⟨218,1,2,gI (fun j=>if j=0 then AV.nil else AV.int IntKind.i64 0) 0 [AV.sl 1 b 0 (n+1),AV.int IntKind.i64 n]⟩) b8 218 1 2 (F5 b (n+1) n):=bB.here fun j hj=>by
  match j,hj with
  | 0,_=>rfl
  | 1,_=>rfl
 refine(t3 _ b n n g (dp n M) hP hO8).mono ?_;rintro _ S2 ⟨⟨R,H,U,hT,g',hO2⟩,hK⟩;have hb8:b8≠b:=fun e=>h8 hO.outer e.symm;have hp2:=hK.has hp8 hb8;have hUb:=hU R H U hT;generalize hC:jm (n+1) (fun k r=>dp n M r k) U=C at hO2 hUb;simp -dsimp only[go_sem,aa,↓reduceIte]
 repeat refine an ?_
 refine aI (fun O S=>∃(i:Nat) (x y:AV),i<=n+n+1/\O 8=.ptr 1 b8 0/\O 9=x/\O 10=y/\O 26=.int .i64 ((n+n+1:Nat):Int)/\O 27=.int .i64 i/\FS S b b8 g' n i C x y) (fun O S=>n+n+1-bY (O 27)) ?_ ?_
 ·simp -dsimp only[go_sem,aa];refine⟨0,by omega,by rw[dq (n:=n+n+1) om om],rfl,hO2,hp2,?_,?_,fun d hd=>?_⟩
  ·rw[Nat.zero_min];exact cJ.nil (eZ.noneS _) _
  ·rw[Nat.zero_sub];exact cJ.nil (eZ.noneS _) _
  ·obtain⟨_,_,_,e⟩:=hd;cases e
 clear hO2 hp2 hK hO8 hp8 hO f8 h8;rintro O S ⟨i,x,y,hi,e8,e9,e10,e26,e27,hS⟩;by_cases hit:i<n+n+1
 ·obtain⟨gp,up,vp⟩:=id hS.pair;have x1:gp 1=.int .i64 n:=vp 1 om;by_cases hin:i<n
  ·simp -dsimp only[go_sem,aj,aa,ae,↓reduceIte,reduceCtorEq,af,decide_true,ab,e8,e9,e10,e26,e27,hit,hin,up,x1]
   repeat refine an ?_
   refine aG.intro fun b36 f36=>?_;have hxb:=hS.hx.fresh f36;have hS2:=hS.other f36 ⟨3,1,1,fun j=>[AV.int .i64 i].getD j .any⟩
   try simp -dsimp only[go_sem,aa,↓reduceIte,e9]
   refine cJ.app3 (v:=.int .i64 i) hS2.hx om (by simp[du]) (bD ⟨_,_,_,rfl,bV,rfl,fun h=>hxb _ h rfl⟩) ?_
   intro c S3 hX hk1 hc;have hS3:=hS2.appx hin hX hk1 hc;simp -dsimp only[go_sem,aa,e8,e9,e10,e26,e27,aW (show i<1000000 by omega),bY]
   repeat refine an ?_
   exact⟨⟨i+1,by omega,rfl,hS3⟩,by omega⟩
  ·simp -dsimp only[go_sem,aj,aa,ae,↓reduceIte,reduceCtorEq,af,decide_true,decide_false,ab,e8,e9,e10,e26,e27,hit,hin,up,x1]
   repeat refine an ?_
   refine aG.intro fun b40 f40=>?_;have hxb:=hS.hy.fresh f40;have hS2:=hS.other f40 ⟨3,1,1,fun j=>[AV.int .i64 i].getD j .any⟩
   try simp -dsimp only[go_sem,aa,↓reduceIte,e10]
   refine cJ.app3 (v:=.int .i64 i) hS2.hy om (by simp[du]) (bD ⟨_,_,_,rfl,bV,rfl,fun h=>hxb _ h rfl⟩) ?_
   intro c S3 hX hk1 hc;have hS3:=hS2.appy om hX hk1 hc;simp -dsimp only[go_sem,aa,e8,e9,e10,e26,e27,aW (show i<1000000 by omega),bY]
   repeat refine an ?_
   exact⟨⟨i+1,by omega,rfl,hS3⟩,by omega⟩
 obtain rfl:i=n+n+1:=by omega
 obtain⟨gp,up,vp⟩:=id hS.pair;have x0:gp 0=.sl 1 b 0 (n+1):=vp 0 om;obtain⟨c1,rfl,hL1⟩:∃c1,x=.sl 1 c1 0 n/\bB S c1 3 1 n (fun a=>.int .i64 ((a:Nat):Int)):=by
  rcases hS.hx.2 with⟨h,_⟩|⟨c,_,e,h⟩
  ·omega
  ·rw[show min (n+n+1) n=n by omega]at e h;exact⟨c,e,h⟩
 obtain⟨c2,rfl,hL2⟩:∃c2,y=.sl 1 c2 0 (n+1)/\bB S c2 3 1 (n+1) (fun a=>.int .i64 ((n+a:Nat):Int)):=by
  rcases hS.hy.2 with⟨h,_⟩|⟨c,_,e,h⟩
  ·omega
  ·rw[show n+n+1-n=n+1 by omega]at e h;exact⟨c,e,h⟩
 simp -dsimp only[go_sem,aj,aa,↓reduceIte,reduceCtorEq,af,decide_false,ab,e8,e9,e10,e26,e27,hit]
 repeat refine an ?_
 refine bG 11 (by kernel_rfl) ?_
 simp -dsimp only[go_sem,aa,ae,↓reduceIte,ab,e8,e9,e10,up,x0]
 repeat refine an ?_
 have p1:=tc (n+1) (n+n+1) n k C (fun a=>a) om om (fun i hi=>by omega) (fun c r hc hr=>hUb c r hc hr) hk
 have p2:=tc (n+1) (n+n+1) (n+1) k C (fun a=>n+a) om om (fun i hi=>by omega) (fun c r hc hr=>hUb c r hc hr) hk
 refine⟨_,p1.pf.pureS (dY.two hS.cols.vr.va (VR.sl hL1 om (fun a ha=>by rw[aC];exact VR.mf rfl)).va),?_⟩
 try simp -dsimp only[go_sem,aj,aa,aq,ae,↓reduceIte,reduceCtorEq,af,decide_true,decide_false,ay,e8,e9,e10,e26,e27,up,x0]
 refine⟨_,p2.pf.pureS (dY.two hS.cols.vr.va (VR.sl hL2 om (fun a ha=>by rw[aC];exact VR.mf rfl)).va),?_⟩
 try simp -dsimp only[go_sem,aj,aa,aq,ae,↓reduceIte,reduceCtorEq,af,decide_true,decide_false,ay,e8,e9,e10,e26,e27,up,x0]
 subst hC;exact⟨R,H,U,hT,_,rfl⟩
def kI:List Oper->List Nat
 | []=>[]
 | o::l=>(match o.dst with
  | some d=>[d]
  | ac=>[])++kI l
def jz(l:List Oper)(k:Nat):Option Nat:=(l[k]?).bind (·.dst)
def K0(l:List Oper):Bool:=decide (kI l).Nodup
def stP(ops:Array Oper)(O0:Tm)(S:St)(z:List AV):List Oper->Nat->Prop
 | [],_=>True
 | o::r,i=>(∀O:Tm,(∀t,¬t∈kI ops.toList->O t=O0 t)->(∀k d,(aft o).contains k=true->jz ops.toList k=some d->O d=z.getD k .any)->∀K:Tm->St->Prop,K (O.put o.dst (z.getD i .any)) S->wb ops o O S K)/\stP ops O0 S z r (i+1)
theorem Db{ops:Array Oper}{O0:Tm}{S:St}{z:List AV}:∀(l:List Oper) (i j:Nat) (o:Oper),stP ops O0 S z l i->l[j]? = some o ->
  ∀O:Tm,(∀t,¬t∈kI ops.toList->O t=O0 t)->(∀k d,(aft o).contains k=true->jz ops.toList k=some d->O d=z.getD k .any)->∀K:Tm->St->Prop,K (O.put o.dst (z.getD (i+j) .any)) S->wb ops o O S K
 | [],i,j,o,_,h=>by simp at h
 | p::r,i,0,o,h,ho=>by
  simp only[cE,dO.injEq]at ho;subst ho;exact h.1
 | p::r,i,j+1,o,h,ho=>by
  rw[bN]at ho;have:=Db r (i+1) j o h.2 ho;rw[show i+1+j=i+(j+1) by omega]at this
  exact this
theorem rP:∀{l:List Oper} {j:Nat} {o:Oper} {d:Nat},l[j]? = some o->o.dst=some d->d∈kI l
 | [],_,_,_,h,_=>by simp at h
 | p::l,0,o,d,h,hd=>by
  simp only[cE,dO.injEq]at h;subst h;simp[kI,hd]
 | p::l,j+1,o,d,h,hd=>by
  rw[bN]at h;simp[kI,rP h hd]
theorem xP:∀{l:List Oper} {i j:Nat} {d:Nat},(kI l).Nodup->jz l i=some d->jz l j=some d->i=j
 | [],i,_,_,_,h,_=>by simp[jz]at h
 | p::l,i,j,d,hn,hi,hj=>by
  have memj:∀k,jz l k=some d->d∈kI l:=fun k hk=>by
   unfold jz at hk
   cases e:l[k]? with
   | none=>rw[e]at hk;simp at hk
   | some o=>rw[e]at hk;exact rP e hk
  have hn2:(kI l).Nodup:=by
   unfold kI at hn;exact(List.nodup_append.1 hn).2.1
  have hno:p.dst=some d->¬d∈kI l:=fun hp hm=>by
   unfold kI at hn;rw[hp]at hn;simp only[List.singleton_append,List.nodup_cons]at hn;exact hn.1 hm
  match i,j with
  | 0,0=>rfl
  | 0,j+1=>exact(hno (by simpa [jz]using hi) (memj j (by simpa [jz]using hj))).elim
  | i+1,0=>exact(hno (by simpa [jz]using hj) (memj i (by simpa [jz]using hi))).elim
  | i+1,j+1 =>
   have:=xP hn2 (i:=i) (j:=j) (d:=d) (by simpa [jz]using hi) (by simpa [jz]using hj)
   omega
theorem EM{ops:Array Oper}{O0:Tm}{S:St}{K:Tm->St->Prop}(z:List AV)(hok:(xW ops&&K0 ops.toList)=true)(hs:stP ops O0 S z ops.toList 0)
  (he:∀O:Tm,(∀t,¬t∈kI ops.toList->O t=O0 t)->(∀k d,jz ops.toList k=some d->O d=z.getD k .any)->K O S):Fm ops O0 S K:=by
 rw[qa];simp only[Bool.and_eq_true]at hok;have hnd:(kI ops.toList).Nodup:=of_decide_eq_true hok.2;refine bD (bD (bD (bD ⟨fun L O S'=>S'=S/\(∀t,¬t∈kI ops.toList->O t=O0 t)/\∀k d,L k=true->jz ops.toList k=some d->O d=z.getD k .any,hok.1,⟨rfl,fun _ _=>rfl,fun _ _ h=>by cases h⟩,?_,?_⟩)))
 ·rintro i o ho L O S' ⟨rfl,h1,h2⟩ hL ha;have ho':ops.toList[i]? = some o:=by simpa using ho
  have:=Db ops.toList 0 i o hs ho' O h1 (fun k d hk hd=>h2 k d (ha k (by simpa using hk)) hd) (fun O' S''=>S''=S'/\(∀t,¬t∈kI ops.toList->O' t=O0 t)/\∀k d,(if k=i then true else L k)=true->jz ops.toList k=some d->O' d=z.getD k .any)
  rw[aC]at this;have h3:=this ?_
  ·unfold wb at h3;rw[sh]at h3;exact h3
  ·refine⟨rfl,fun t ht=>?_,fun k d hk hd=>?_⟩
   ·rw[Tm.put_eq]
    cases e:o.dst with
    | none=>exact h1 t ht
    | some d =>
     simp only;rw[if_neg (fun e2=>ht (by subst e2;exact rP ho' e))];exact h1 t ht
   ·rw[Tm.put_eq];by_cases e2:k=i
    ·subst e2;have:o.dst=some d:=by simpa [jz,ho]using hd
     simp only[this,if_pos]
    ·rw[if_neg e2]at hk
     cases e:o.dst with
     | none=>exact h2 k d hk hd
     | some d' =>
      simp only;rw[if_neg (fun e3=>by
       subst e3;exact e2 (xP hnd hd (by simp[jz,ho,e])))]
      exact h2 k d hk hd
 ·rintro L O S' ⟨rfl,h1,h2⟩ hL;refine he O h1 fun k d hd=>h2 k d (hL k ?_) hd;rcases Nat.lt_or_ge k ops.size with h|h
  ·exact h
  ·simp[jz,Array.getElem?_eq_none h]at hd
theorem Jl{ops:Array Oper}{l:List Oper}{O:Tm}{S:St}{K:Tm->St->Prop}(h:∀K',K'=K->zR ops l O S K'):zR ops l O S K:=h K rfl
theorem fm{c:Code}{Q:AX->Tm->St->Prop}{O:Tm}{S:St}(I:Tm->St->Prop)(μ:Tm->St->Nat)(h0:I O S)(hr:∀Q',Q'=Q->∀O S,I O S->Aw c (AX.seq (fun O' S'=>I O' S'/\μ O' S' < μ O S) Q') O S):Aw (.loop c) Q O S:=aI I μ h0 (hr Q rfl)
theorem pN{n j:Nat}{g:Nat->AV}{K:AV->Prop}(hj:j<=n)(h:K (.lst 2 j g)):jo 59 (.lst 2 n g) ac (some (.int .i64 (j:Int))) ac K :=
 ⟨rfl,0,j,rfl,rfl,trivial,by omega,hj,by simpa using h⟩
structure yc(n k:Nat)(H:aU):Prop where
 up:∀r c,r<c->r<n->c<n+1->H r c=0
 pos:∀c,c<n->0<H c c
 rng:∀c j,c<n->j<c->0<=H c j/\H c j<H c c
 nb:∀r c,r<n->c<n+1->nb (H r c) k
theorem Ek(n k:Nat)(H:aU)(h1:1<=n)(h2:n<=15)(hk:k<=1000000)(hH:yc n k H):PF 185 [aV n (n+1) H] (.tup [.lst 1 n (fun a=>.int .i64 ((a:Nat):Int)),.bool true]):=by
 refine PF.of_spec (aA Tryz.func185 rfl 104 Tryz.ntmps185 (by kernel_rfl) (by simp) (by simp[Tryz.results185]) ?_)
 rw[aS,Tryz.results185];simp -dsimp only[go_sem,aa,ae,reduceCtorEq,ab,aV,bn]
 repeat refine an ?_
 refine(sM n (n+1) H h1 om om om).call ?_;simp -dsimp only[go_sem,aa,reduceCtorEq]
 repeat refine an ?_
 refine aI (fun O S=>∃(c:Nat) (x:AV),c<=n+1/\O 0=.lst 1 n (fun i=>.lst 2 (n+1) (fun j=>.big (H i j)))/\O 4=.int .i64 n/\O 7=x/\O 20=.int .i64 ((n+1:Nat):Int)/\O 21=.int .i64 c/\cJ 3 1 St.none S x (min c n) (fun a=>.int .i64 ((a:Nat):Int))) (fun O S=>n+1-bY (O 21)) ?_ ?_
 ·simp -dsimp only[go_sem,aa,reduceCtorEq];exact⟨0,by omega,rfl,by rw[Nat.zero_min];exact cJ.nil (eZ.noneS _) _⟩
 rintro O S ⟨c,x,hc,e0,e4,e7,e20,e21,hX⟩;by_cases hct:c<n+1
 ·simp -dsimp only[go_sem,aa,↓reduceIte,af,decide_true,e7,e20,e21,hct]
  repeat refine an ?_
  refine fm (fun O S'=>∃p:Nat,p<=c/\S'=S/\O 0=.lst 1 n (fun i=>.lst 2 (n+1) (fun j=>.big (H i j)))/\O 4=.int .i64 n/\O 7=x/\O 8=.int .i64 c/\O 9=.int .i64 p/\O 20=.int .i64 ((n+1:Nat):Int)/\O 21=.int .i64 c) (fun O S=>c-bY (O 9)) ?_ ?_
  ·simp -dsimp only[go_sem,aa,reduceCtorEq,e0,e4,e7,e20,e21];exact⟨0,by omega,rfl⟩
  clear e0 e4 e7 e20 e21;rintro Q' hQ' O T ⟨p,hp,hTS,e0,e4,e7,e8,e9,e20,e21⟩;subst hTS;by_cases hpn:p<n
  ·simp -dsimp only[go_sem,aa,ae,reduceCtorEq,af,decide_true,ab,e0,e4,e8,e9,hpn,hct]
   repeat refine an ?_
   refine(jh (hH.nb p c hpn hct) om).call ?_;by_cases hpc:p<c
   ·simp -dsimp only[go_sem,aa,reduceCtorEq,af,decide_true,e0,e4,e7,e8,e9,e20,e21,hpn,hH.up p c hpc hpn hct,Int.sign_zero,beq_self_eq_true,aW (show p<1000000 by omega),bY]
    repeat refine an ?_
    exact⟨⟨p+1,by omega,rfl⟩,by omega⟩
   obtain rfl:p=c:=by omega
   have hs:(H p p).sign=1:=cK (hH.pos p hpn);have hb1:((H p p).sign==0)=false:=by rw[hs];rfl
   have hb2:((p:Int)==(n:Int))=false:=by simp;omega
   have hb3:decide ((H p p).sign<0)=false:=by rw[hs];rfl
   rw[show min p n=p by omega]at hX
   apply tt (fun O S'=>O 0=.lst 1 n (fun i=>.lst 2 (n+1) (fun j=>.big (H i j)))/\O 4=.int .i64 n/\O 7=x/\O 8=.int .i64 p/\O 9=.int .i64 p/\O 20=.int .i64 ((n+1:Nat):Int)/\O 21=.int .i64 p/\O 76=.lst 2 p (fun j=>.big (H p j))/\O 77=.int .i64 p/\O 78=.int .i64 0/\S'=T)
   ·intro key;simp -dsimp only[go_sem,aa,reduceCtorEq,af,decide_true,e0,e4,e7,e8,e9,e20,e21,hpn,hb1]
    repeat refine an ?_
    rw[hQ'];rcases id hX.2 with⟨hp0,hx⟩|⟨c0,_,hx,hL⟩
    ·have hb4:((0:Int) != (p:Int))=false:=by rw[hp0];simp
     have hb5:decide ((0:Int)<(p:Int))=false:=by rw[hp0];simp
     simp -dsimp only[go_sem,aa,ae,↓reduceIte,reduceCtorEq,af,ab,e0,e4,e7,e8,e9,e20,e21,hpn,hct,hb2,hb4,hb5,hx]
     repeat refine an ?_
     refine(jh (hH.nb p p hpn hct) om).call ?_;simp -dsimp only[go_sem,aa,reduceCtorEq,af,e0,e7,e8,e9,hpn,hb4,hb5,hb3,da,jd]
     repeat refine an ?_
     refine pN om ?_;simp -dsimp only[go_sem]
     repeat refine an ?_
     show Aw (.loop _) _ _ _;refine key _ _ ?_;simp -dsimp only[go_sem,aa,reduceCtorEq,e0,e4,e7,e8,e9,e20,e21,hx]
    ·obtain⟨gl,ul,vl⟩:=hL;rcases Nat.eq_zero_or_pos p with h0|h0
     ·have hb4:((0:Int) != (p:Int))=false:=by rw[h0];simp
      have hb5:decide ((0:Int)<(p:Int))=false:=by rw[h0];simp
      simp -dsimp only[go_sem,aa,ae,↓reduceIte,reduceCtorEq,af,ab,e0,e4,e7,e8,e9,e20,e21,hpn,hct,hb2,hb5,hx,bne_self_eq_false]
      repeat refine an ?_
      refine(jh (hH.nb p p hpn hct) om).call ?_;simp -dsimp only[go_sem,aa,reduceCtorEq,af,e0,e7,e8,e9,hpn,hb5,hb3,da,jd]
      repeat refine an ?_
      refine pN om ?_;simp -dsimp only[go_sem]
      repeat refine an ?_
      show Aw (.loop _) _ _ _;refine key _ _ ?_;simp -dsimp only[go_sem,aa,reduceCtorEq,e0,e4,e7,e8,e9,e20,e21,hx]
     obtain⟨q,hq⟩:∃q,p=q+1:=⟨p-1,by omega⟩
     have hb5:decide ((0:Int)<(p:Int))=true:=by simp;omega
     have hw:IntKind.i64.wrap ((p:Int)-1)=(q:Int):=dq om om;have hqp:q<p:=by omega
     have hg:gl q=.int .i64 (q:Int):=vl q hqp;have hb6:decide ((p:Int)<=(q:Int))=false:=by simp;omega
     simp -dsimp only[go_sem,aa,ae,↓reduceIte,reduceCtorEq,af,ab,e0,e4,e7,e8,e9,e20,e21,hpn,hct,hb2,hb5,hb6,hw,hqp,hg,ul,hx,bne_self_eq_false]
     repeat refine an ?_
     refine(jh (hH.nb p p hpn hct) om).call ?_;simp -dsimp only[go_sem,aa,↓reduceIte,reduceCtorEq,af,e0,e7,e8,e9,hpn,hb5,hb6,hw,hg,hb3,da,jd]
     repeat refine an ?_
     refine pN om ?_;simp -dsimp only[go_sem]
     repeat refine an ?_
     show Aw (.loop _) _ _ _;refine key _ _ ?_;simp -dsimp only[go_sem,aa,reduceCtorEq,e0,e4,e7,e8,e9,e20,e21,hx]
   clear e0 e4 e7 e8 e9 e20 e21 hb1 hb2 hb3 hs hpc;rintro O _ ⟨e0,e4,e7,e8,e9,e20,e21,e76,e77,e78,rfl⟩;refine fm (fun O S=>∃j:Nat,j<=p/\O 0=.lst 1 n (fun i=>.lst 2 (n+1) (fun j=>.big (H i j)))/\O 4=.int .i64 n/\O 7=x/\O 8=.int .i64 p/\O 9=.int .i64 p/\O 20=.int .i64 ((n+1:Nat):Int)/\O 21=.int .i64 p/\O 76=.lst 2 p (fun j=>.big (H p j))/\O 77=.int .i64 p/\O 78=.int .i64 j/\cJ 3 1 St.none S x p (fun a=>.int .i64 ((a:Nat):Int))) (fun O S=>p-bY (O 78)) ?_ ?_
   ·simp -dsimp only[go_sem,e0,e4,e7,e8,e9,e20,e21,e76,e77,e78];exact⟨0,by omega,rfl,hX⟩
   clear e0 e4 e7 e8 e9 e20 e21 e76 e77 e78 hX;rintro Q' hQ' O S ⟨j,hj,e0,e4,e7,e8,e9,e20,e21,e76,e77,e78,hX⟩;by_cases hjp:j<p
   ·obtain⟨q1,q2⟩:=hH.rng p j hpn hjp;have hs1:decide ((H p j).sign<0)=false:=by
     rcases Int.lt_or_eq_of_le q1 with h|h
     ·rw[cK h];rfl
     ·rw[<-h];rfl
    have hcm:lJ (H p j) (H p p)=-1:=by simp[lJ,q2]
    simp -dsimp only[go_sem,aa,af,decide_true,e76,e77,e78,hjp]
    repeat refine an ?_
    refine aG.intro fun b11 f11=>?_
    try simp -dsimp only[go_sem,aa,↓reduceIte]
    have hXX:=((hX.upd (by rfl) (hX.fresh f11) ⟨50,2,1,fun _=>AV.big 0⟩).upd (by rfl) (hX.fresh f11) ⟨50,2,1,bK (fun _=>AV.big 0) 0 (.big (H p j))⟩)
    obtain⟨S5,hS5,hV5⟩:∃S5,S5=(S.upd b11 ⟨50,2,1,fun _=>AV.big 0⟩).upd b11 ⟨50,2,1,bK (fun _=>AV.big 0) 0 (.big (H p j))⟩/\S5 b11=some ⟨50,2,1,bK (fun _=>AV.big 0) 0 (.big (H p j))⟩:=⟨_,rfl,bV⟩;rw[<-hS5]at hXX ⊢;have r0:PF 191 [.big (H p j)] (.int .i64 (H p j).sign):=jh (hH.nb p j hpn om) om;have r1:PF 159 [.big (H p j),.big (H p p)] (.int .i64 (-1)):=hcm▸GO (hH.nb p j hpn om) (hH.nb p p hpn om) om;refine EM [.big (H p j),.int .i64 (H p j).sign,.bool false,.bool false,.big (H p j),.lst 1 n (fun i=>.lst 2 (n+1) (fun j=>.big (H i j))),.int .i64 p,.pat 1 (.lst 2 (n+1) (fun j=>.big (H p j))),.lst 2 (n+1) (fun j=>.big (H p j)),.int .i64 p,.pat 2 (.big (H p p)),.big (H p p),.int .i64 (-1),.bool false,.bool false] (by kernel_rfl) ?_ ?_
    ·refine⟨?_,?_,?_,?_,?_,?_,?_,?_,?_,?_,?_,?_,?_,?_,?_,trivial⟩
     ·intro O1 hb ha K hK;have x11:O1 11=.ptr 2 b11 0:=(hb 11 (by decide)).trans (by simp -dsimp only[go_sem])
      unfold wb;simp -dsimp only[go_sem,ae,↓reduceIte,ab,x11,hV5,d7]
      repeat refine an ?_
      exact hK
     ·intro O1 hb ha K hK;have x82:O1 82=.big (H p j):=ha 0 82 (by kernel_rfl) rfl
      unfold wb;simp -dsimp only[go_sem,aa,ae,ab,x82]
      repeat refine an ?_
      refine r0.call ?_;exact hK
     ·intro O1 hb ha K hK;have x83:O1 83=.int .i64 (H p j).sign:=ha 1 83 (by kernel_rfl) rfl
      unfold wb;simp -dsimp only[go_sem,x83,hs1]
      repeat refine an ?_
      exact hK
     ·intro O1 hb ha K hK;have x84:O1 84=.bool false:=ha 2 84 (by kernel_rfl) rfl
      unfold wb;simp -dsimp only[go_sem,x84]
      repeat refine an ?_
      exact hK
     ·intro O1 hb ha K hK;have x11:O1 11=.ptr 2 b11 0:=(hb 11 (by decide)).trans (by simp -dsimp only[go_sem])
      have x85:O1 85=.bool false:=ha 3 85 (by kernel_rfl) rfl
      unfold wb;simp -dsimp only[go_sem,ae,↓reduceIte,ab,x11,x85,hV5,d7]
      repeat refine an ?_
      exact hK
     ·intro O1 hb ha K hK;have x0:O1 0=.lst 1 n (fun i=>.lst 2 (n+1) (fun j=>.big (H i j))):=(hb 0 (by decide)).trans (by simp -dsimp only[go_sem,reduceCtorEq,e0])
      have x85:O1 85=.bool false:=ha 3 85 (by kernel_rfl) rfl
      unfold wb;simp -dsimp only[go_sem,x0,x85]
      repeat refine an ?_
      exact hK
     ·intro O1 hb ha K hK;have x9:O1 9=.int .i64 p:=(hb 9 (by decide)).trans (by simp -dsimp only[go_sem,aa,e9])
      have x85:O1 85=.bool false:=ha 3 85 (by kernel_rfl) rfl
      unfold wb;simp -dsimp only[go_sem,x9,x85]
      repeat refine an ?_
      exact hK
     ·intro O1 hb ha K hK;have x85:O1 85=.bool false:=ha 3 85 (by kernel_rfl) rfl
      have x87:O1 87=.lst 1 n (fun i=>.lst 2 (n+1) (fun j=>.big (H i j))):=ha 5 87 (by kernel_rfl) rfl
      have x88:O1 88=.int .i64 p:=ha 6 88 (by kernel_rfl) rfl
      unfold wb;simp -dsimp only[go_sem,af,x85,x87,x88,hpn]
      repeat refine an ?_
      exact hK
     ·intro O1 hb ha K hK;have x85:O1 85=.bool false:=ha 3 85 (by kernel_rfl) rfl
      have x89:O1 89=.pat 1 (.lst 2 (n+1) (fun j=>.big (H p j))):=ha 7 89 (by kernel_rfl) rfl
      unfold wb;simp -dsimp only[go_sem,x85,x89]
      repeat refine an ?_
      exact hK
     ·intro O1 hb ha K hK;have x8:O1 8=.int .i64 p:=(hb 8 (by decide)).trans (by simp -dsimp only[go_sem,aa,e8])
      have x85:O1 85=.bool false:=ha 3 85 (by kernel_rfl) rfl
      unfold wb;simp -dsimp only[go_sem,x8,x85]
      repeat refine an ?_
      exact hK
     ·intro O1 hb ha K hK;have x85:O1 85=.bool false:=ha 3 85 (by kernel_rfl) rfl
      have x90:O1 90=.lst 2 (n+1) (fun j=>.big (H p j)):=ha 8 90 (by kernel_rfl) rfl
      have x91:O1 91=.int .i64 p:=ha 9 91 (by kernel_rfl) rfl
      unfold wb;simp -dsimp only[go_sem,af,x85,x90,x91,show p<n+1 by omega]
      repeat refine an ?_
      exact hK
     ·intro O1 hb ha K hK;have x85:O1 85=.bool false:=ha 3 85 (by kernel_rfl) rfl
      have x92:O1 92=.pat 2 (.big (H p p)):=ha 10 92 (by kernel_rfl) rfl
      unfold wb;simp -dsimp only[go_sem,x85,x92]
      repeat refine an ?_
      exact hK
     ·intro O1 hb ha K hK;have x85:O1 85=.bool false:=ha 3 85 (by kernel_rfl) rfl
      have x86:O1 86=.big (H p j):=ha 4 86 (by kernel_rfl) rfl
      have x93:O1 93=.big (H p p):=ha 11 93 (by kernel_rfl) rfl
      unfold wb;simp -dsimp only[go_sem,aa,ae,ab,x85,x86,x93]
      repeat refine an ?_
      refine r1.call ?_;exact hK
     ·intro O1 hb ha K hK;have x85:O1 85=.bool false:=ha 3 85 (by kernel_rfl) rfl
      have x94:O1 94=.int .i64 (-1):=ha 12 94 (by kernel_rfl) rfl
      unfold wb;simp -dsimp only[go_sem,x85,x94,show decide ((0:Int)<=-1)=false by rfl]
      repeat refine an ?_
      exact hK
     ·intro O1 hb ha K hK;have x85:O1 85=.bool false:=ha 3 85 (by kernel_rfl) rfl
      have x95:O1 95=.bool false:=ha 13 95 (by kernel_rfl) rfl
      unfold wb;simp -dsimp only[go_sem,x85,x95]
      repeat refine an ?_
      exact hK
    ·intro O1 hb ha;have x96:O1 96=.bool false:=ha 14 96 rfl;have y0:O1 0=.lst 1 n (fun i=>.lst 2 (n+1) (fun j=>.big (H i j))):=(hb 0 (by decide)).trans (by simp -dsimp only[go_sem,reduceCtorEq,e0])
     have y4:O1 4=.int .i64 n:=(hb 4 (by decide)).trans (by simp -dsimp only[go_sem,aa,e4])
     have y7:O1 7=x:=(hb 7 (by decide)).trans (by simp -dsimp only[go_sem,aa,e7])
     have y8:O1 8=.int .i64 p:=(hb 8 (by decide)).trans (by simp -dsimp only[go_sem,aa,e8])
     have y9:O1 9=.int .i64 p:=(hb 9 (by decide)).trans (by simp -dsimp only[go_sem,aa,e9])
     have y20:O1 20=.int .i64 ((n+1:Nat):Int):=(hb 20 (by decide)).trans (by simp -dsimp only[go_sem,aa,e20])
     have y21:O1 21=.int .i64 p:=(hb 21 (by decide)).trans (by simp -dsimp only[go_sem,aa,e21])
     have y76:O1 76=.lst 2 p (fun j=>.big (H p j)):=(hb 76 (by decide)).trans (by simp -dsimp only[go_sem,aa,e76])
     have y77:O1 77=.int .i64 p:=(hb 77 (by decide)).trans (by simp -dsimp only[go_sem,aa,e77])
     have y78:O1 78=.int .i64 j:=(hb 78 (by decide)).trans (by simp -dsimp only[go_sem,aa,e78])
     simp -dsimp only[go_sem,aa,reduceCtorEq,x96,y0,y4,y7,y8,y9,y20,y21,y76,y77,y78,aW (show j<1000000 by omega),bY]
     repeat refine an ?_
     exact⟨⟨j+1,by omega,rfl,hXX⟩,by omega⟩
   ·obtain rfl:j=p:=by omega
    simp -dsimp only[go_sem,aa,af,decide_false,e76,e77,e78,hjp]
    repeat refine an ?_
    rw[hQ'];simp -dsimp only[go_sem,aa,↓reduceIte,reduceCtorEq,e7,e9]
    repeat refine an ?_
    refine aG.intro fun b100 f100=>?_;have hxb:=hX.fresh f100;have hX2:=hX.upd (by rfl) hxb ⟨3,1,1,fun a=>[AV.int .i64 j].getD a .any⟩
    try simp -dsimp only[go_sem,aa,↓reduceIte,e7,e9]
    refine cJ.app3 (v:=.int .i64 j) hX2 om (by simp[du]) (bD ⟨_,_,_,rfl,bV,rfl,fun h=>hxb _ h rfl⟩) ?_
    intro c S6 hX' _ _;simp -dsimp only[go_sem,aa,reduceCtorEq,e0,e4,e7,e9,e20,e21,aW (show j<1000000 by omega),bY]
    repeat refine an ?_
    refine⟨⟨j+1,by omega,rfl,?_⟩,by omega⟩
    rw[show min (j+1) n=j+1 by omega]
    exact hX'.congr fun a _=>by
     by_cases e:a=j
     ·rw[if_pos e,e]
     ·rw[if_neg e]
  ·obtain rfl:p=n:=by omega
   obtain rfl:c=p:=by omega
   simp -dsimp only[go_sem,aa,reduceCtorEq,af,decide_false,e0,e4,e7,e8,e9,e20,e21,hpn]
   repeat refine an ?_
   rw[hQ'];rw[GV,if_pos rfl,ue,GX,GX,Lh];refine Jl fun K' hK'=>?_;simp -dsimp only[go_sem,aa,e4,e9];rw[hK',ue,CE,show ev _ (.tmp 42)=AV.bool true by simp -dsimp only[go_sem,beq_self_eq_true],cd_t]
   simp -dsimp only[go_sem,aa,↓reduceIte,reduceCtorEq,e0,e4,e7,e20,e21,aW (show c<1000000 by omega),bY]
   repeat refine an ?_
   refine⟨⟨c+1,by omega,rfl,?_⟩,by omega⟩
   rw[show min (c+1) c=min c c by omega]
   exact hX
 obtain rfl:c=n+1:=by omega
 simp -dsimp only[go_sem,aa,↓reduceIte,af,decide_false,e7,e20,e21,hct]
 repeat refine an ?_
 rcases hX.2 with⟨h,_⟩|⟨c0,_,rfl,hL⟩
 ·omega
 rw[show min (n+1) n=n by omega]at hL ⊢
 exact VR.tup2 (VR.sl hL om (fun a ha=>by rw[aC];exact VR.mf rfl)) (VR.mf rfl)
theorem BV{n j:Nat}{g:Nat->AV}{K:AV->Prop}(hj:j<=n)(h:K (.lst 2 j g)):jo 59 (.lst 2 n g) (some (.int .i64 0)) (some (.int .i64 (j:Int))) ac K :=
 ⟨rfl,0,j,rfl,rfl,trivial,by omega,hj,by simpa using h⟩
theorem Ix(n m M:Nat)(A:Nat->Nat->Int)(k:Nat)(h1:n<=100)(h2:m<=M)(h2':M<=100)(h3:1<=m)(hA:∀i j,i<n->j<m->nb (A i j) k)(hk:k<=1000000):MF 186 [aV n M A,.int .i64 0,.int .i64 m] n m A:=by
 refine MF.of ?_;refine aA Tryz.func186 rfl 48 Tryz.ntmps186 (by kernel_rfl) (by simp) (by simp[Tryz.results186]) ?_
 rw[aS,Tryz.results186];have hz:((0:Int)==(m:Int))=false:=by simp;omega
 simp -dsimp only[go_sem,aj,aa,reduceCtorEq,aV,bn,hz]
 repeat refine an ?_
 refine aG.intro fun b7 f7=>?_;simp -dsimp only[go_sem];refine aI (fun O S=>∃(i:Nat) (g:Nat->Nat),i<=n/\O 1=.int .i64 0/\O 2=.int .i64 m/\O 7=.sl 1 b7 0 n/\O 18=aV n M A/\O 19=.int .i64 n/\O 20=.int .i64 i /\
  bB S b7 59 1 n (fun a=>if a<i then .sl 2 (g a) 0 m else .nil)/\(∀a,a<i->gV S (g a) m (A a))/\∀a c,a<i->c<i->g a=g c->a=c) (fun O S=>n-bY (O 20)) ?_ ?_
 ·simp -dsimp only[go_sem,aa,reduceCtorEq,aV,bn];exact⟨0,by omega,rfl,fun _=>0,bB.here fun _ _=>by simp,fun a ha=>by omega,fun a c ha=>by omega⟩
 ·rintro O S ⟨i,g,hi,e1,e2,e7,e18,e19,e20,hO,hR,hI⟩;by_cases hlt:i<n
  ·simp -dsimp only[go_sem,aa,↓reduceIte,af,decide_true,aV,bn,e1,e2,e7,e18,e19,e20,hlt,da,jd]
   repeat refine an ?_
   refine BV h2 ?_;simp -dsimp only[go_sem]
   repeat refine an ?_
   refine aI (fun O S'=>∃(j:Nat) (x:AV),j<=m/\O 1=.int .i64 0/\O 2=.int .i64 m/\O 7=.sl 1 b7 0 n/\O 8=.int .i64 i/\O 18=aV n M A/\O 19=.int .i64 n/\O 20=.int .i64 i/\O 28=bn m (A i)/\O 29=.int .i64 m/\O 30=.int .i64 j /\
    bB S' b7 59 1 n (fun a=>if a<i then .sl 2 (g a) 0 m else if a=i then x else .nil)/\(∀a,a<i->gV S' (g a) m (A a)/\¬dH x (g a))/\cJ 50 2 St.none S' x j (fun c=>.big (A i c))) (fun O S=>m-bY (O 30)) ?_ ?_
   ·simp -dsimp only[go_sem,aa,aV,bn,e1,e2,e7,e18,e19,e20];exact⟨0,by omega,rfl,.nil,hO.congr fun a _=>by grind,fun a ha=>⟨hR a ha,by rintro⟨_,_,_,e⟩;cases e⟩,cJ.nil (fun k X h=>by cases h) _⟩
   ·rintro O S' ⟨j,x,hj,e1,e2,e7,e8,e18,e19,e20,e28,e29,e30,hO,hR,hX⟩;by_cases hjm:j<m
    ·simp -dsimp only[go_sem,aa,↓reduceIte,af,decide_true,aV,bn,e1,e2,e7,e18,e19,e20,e28,e29,e30,hjm];refine aG.intro fun b11 f11=>?_;obtain⟨g1,u1,v1⟩:=hO;have v1':g1 i=x:=by rw[v1 i hlt];simp
     have h76:b7≠b11:=bB.fresh (bB.of u1) f11;simp -dsimp only[go_sem,aa,↓reduceIte];refine gR 9 (by kernel_rfl) ?_
     simp -dsimp only[go_sem,aa,aq,ae,↓reduceIte,af,e7,e8,hlt,h76,u1,v1',bK]
     repeat refine an ?_
     refine⟨_,(qr (hA i j hlt hjm) om).pure',?_⟩;simp -dsimp only[go_sem];have hxb:∀d,dH x d->d≠b11:=hX.fresh f11;have hx7:=hX.other u1 om;refine cJ.app50 ((hX.upd (by rfl) hxb _).upd (by rfl) hxb _) om (show du 2 (.big (A i j))from trivial) (Or.inl ⟨_,rfl,rfl⟩) ?_
     intro c S2 hX' hk1 hk3;have u1':=hk1 b7 _ (by rw[aQ h76,aQ h76];exact u1) hx7
     simp -dsimp only[go_sem,aa,↓reduceIte,af,aV,bn,e1,e2,e7,e8,e18,e19,e20,e28,e29,e30,hlt,u1',aW (show j<1000000 by omega),bY]
     repeat refine an ?_
     refine⟨⟨j+1,by omega,rfl,.sl 2 c 0 (j+1),bB.here fun a ha=>?_,fun a ha=>?_,?_⟩,by omega⟩
     ·have:=v1 a ha;grind [bK]
     ·obtain⟨r1,r2⟩:=hR a ha;have hg11:g a≠b11:=bB.fresh r1 f11;have hg7:g a≠b7:=bB.ne r1 (bB.of u1) om;refine⟨(r1.via fun X hX=>hk1 _ _ (by rw[aQ hg11,aQ hg11];exact hX) r2).upd hg7 _,fun hb=>?_⟩
      rw[eT]at hb;rw[<-hb]at hk3;rcases hk3 with h|h
      ·exact r2 h
      ·rw[aQ hg11,aQ hg11]at h;exact bB.fresh r1 h rfl
     ·refine(hX'.upd (by rfl) (fun d hd e=>?_) _).congr (fun a ha=>by grind)
      rw[e]at hd;exact hX'.other u1' om hd
    ·simp -dsimp only[go_sem,aa,↓reduceIte,af,decide_false,aV,bn,e1,e2,e7,e18,e19,e20,e28,e29,e30,hjm,aW (show i<1000000 by omega),bY]
     obtain rfl:j=m:=by omega
     rcases hX.2 with⟨h0,_⟩|⟨c,_,rfl,hC⟩
     ·omega
     refine⟨⟨i+1,by omega,rfl,fun a=>if a=i then c else g a,hO.congr fun a ha=>by grind,fun a ha=>?_,fun a d ha hd e=>?_⟩,by omega⟩
     ·by_cases e:a=i
      ·subst e;simp only[if_true];exact hC
      ·simp only[e,if_false];exact(hR a om).1
     ·have k1:=fun a ha=>(hR a ha).2;simp only[eT]at k1
      grind
  ·simp -dsimp only[go_sem,aa,↓reduceIte,af,decide_false,aV,bn,e1,e2,e7,e18,e19,e20,hlt];obtain rfl:i=n:=by omega
   exact⟨b7,rfl,g,hO.congr fun a ha=>by simp[ha],hR,hI⟩
structure oX(n k:Nat)(A:aU)(B:aU):Prop where
 ex:∃R H U,E5 n A R H U/\yc n k (fun i j=>jm (n+1) (fun k r=>A r k) U j i)/\B=fun i j=>jm (n+1) (fun k r=>A r k) U j i
theorem wR(n k:Nat)(M:aU)(hP:kh n (dp n M))(hk:k<=1000000)(hU:∀R H U,E5 n (dp n M) R H U->(∀a r,a<n+1->r<n+n+1->nb (jm (n+1) (fun k r=>dp n M r k) U a r) k)/\yc n k (fun i j=>jm (n+1) (fun k r=>dp n M r k) U j i)) :
  cM 123 [aV n (n+1) M] St.none (fun r S'=>∃b g B,r=.tup [.sl 1 b 0 n,.bool true]/\oX n k (dp n M) B/\cS S' b g n n B):=by
 have h1:=hP.h1;have hn:=hP.hn;refine aA Tryz.func123 rfl 26 Tryz.ntmps123 (by kernel_rfl) (by simp) (by simp[Tryz.results123]) ?_
 rw[aS,Tryz.results123];simp -dsimp only[go_sem,aa,ae,reduceCtorEq,ab]
 repeat refine an ?_
 refine(zJ n k M hP hk fun R H U h=>(hU R H U h).1).mono ?_;rintro _ S1 ⟨R,H,U,hT,V,rfl⟩;have hH:=(hU R H U hT).2;have hB:oX n k (dp n M) (fun i j=>jm (n+1) (fun k r=>dp n M r k) U j i):=⟨R,H,U,hT,hH,rfl⟩;generalize (fun i j=>jm (n+1) (fun k r=>dp n M r k) U j i)=B at hH hB;simp -dsimp only[go_sem,aa,ae,reduceCtorEq,ab]
 repeat refine an ?_
 refine(Ek n k B h1 om hk hH).call ?_;simp -dsimp only[go_sem,aa,ae,ab]
 repeat refine an ?_
 refine(Ix n n (n+1) B k om om om h1 (fun i j hi hj=>hH.nb i j hi om) hk _ _ (cw _ _)).mono ?_;rintro _ S2 ⟨b,g,rfl,hM⟩;simp -dsimp only[go_sem,aa]
 repeat refine an ?_
 exact⟨b,rfl,g,B,hB,hM.1⟩
theorem yn(n m:Nat)(A:aU)(i j:Nat)(S:St)(b1 b6:Nat)(hi:i<n)(hj:j<m)(hA:kb (A i j))(h1:dc S b1 52 1 (aV n m A))(h6:dc S b6 4 1 (.bool true)) :
  cM 99 [.int .i64 i,.int .i64 j,.ptr 1 b1 0,.ptr 1 b6 0] S (fun r S'=>r=.int .i64 (A i j)/\BA b6 S S'/\dc S' b6 4 1 (.bool true)):=by
 refine aA Tryz.func99 rfl 25 Tryz.ntmps99 (by kernel_rfl) (by simp) (by simp[Tryz.results99]) ?_
 rw[aS,Tryz.results99];obtain⟨g1,u1,v1⟩:=id h1;obtain⟨g6,u6,v6⟩:=id h6;simp -dsimp only[go_sem,aj,aa,ae,↓reduceIte,reduceCtorEq,af,ab,u1,v1,aV,bn,hi,hj]
 repeat refine an ?_
 refine(AJ hA).call ?_;simp -dsimp only[go_sem,aa,ae,↓reduceIte,reduceCtorEq,ab,v1,u6,v6,aV,bn]
 repeat refine an ?_
 exact⟨(BA.refl b6 S).upd _,dc.set⟩
structure TIs(T S:St)(b1 b6 n m:Nat)(A:aU):Prop where
 box:dc S b1 52 1 (aV n m A)
 ok:dc S b6 4 1 (.bool true)
theorem zf(n m:Nat)(A:aU)(S0:St)(b1 b6:Nat)(hn:n<=16)(hm:m<=16)(hA:∀i j:Nat,i<n->j<m->kb (A i j))(h1:dc S0 b1 52 1 (aV n m A))(h6:dc S0 b6 4 1 (.bool true)) :
  cM 98 [.int .i64 n,.int .i64 m,.fn 99 [.ptr 1 b1 0,.ptr 1 b6 0]] S0 (fun r S'=>∃b g,r=.sl 1 b 0 n/\dD S' b g n m A/\dc S' b6 4 1 (.bool true)):=by
 refine aA Tryz.func98 rfl 43 Tryz.ntmps98 (by kernel_rfl) (by simp) (by simp[Tryz.results98]) ?_
 rw[aS,Tryz.results98];simp -dsimp only[go_sem,aj,aa,reduceCtorEq]
 repeat refine an ?_
 refine aG.intro fun bc fc=>?_
 repeat refine an ?_
 simp -dsimp only[go_sem]
 repeat refine an ?_
 have n1c:b1≠bc:=h1.fresh fc;have n6c:b6≠bc:=h6.fresh fc;refine aI (fun O S'=>∃i:Nat,i<=n/\O 1=.int .i64 m/\O 2=.fn 99 [.ptr 1 b1 0,.ptr 1 b6 0]/\O 7=.sl 1 bc 0 n/\O 13=.int .i64 n/\O 14=.int .i64 i/\dc S' b1 52 1 (aV n m A)/\dc S' b6 4 1 (.bool true)/\∃g',eh 29 2 1 St.none S' bc g' n m i (fun a j=>.int .i64 (A a j))) (fun O S=>n-bY (O 14)) ?_ ?_
 ·simp -dsimp only[go_sem,aa,reduceCtorEq];refine⟨0,by omega,rfl,h1.upd n1c _,h6.upd n6c _,fun _=>0,(eh.init (S1:=St.none) (b:=bc) (z:=fun _=>.nil) rfl (fun _ _=>rfl) _ _).other fun k X hX=>?_⟩
  simp only[St.upd]at hX ⊢;split at hX
  ·rename_i e;rw[if_pos e];exact hX
  ·cases hX
 ·clear h1 h6 n1c n6c;rintro O S' ⟨i,hi,e1,e2,e7,e13,e14,h1,h6,g',hR⟩;by_cases hit:i<n
  ·obtain⟨g4,u4,v4⟩:=id hR.outer;simp -dsimp only[go_sem,aa,↓reduceIte,af,decide_true,ab,e1,e7,e13,e14,hit]
   repeat refine an ?_
   refine aG.intro fun bd fd=>?_
   repeat refine an ?_
   have hdc:bc≠bd:=bB.fresh hR.outer fd;have hset:bK g4 i (.sl 1 bd 0 m) i=.sl 1 bd 0 m:=by simp[bK]
   simp -dsimp only[go_sem,hit,u4,hdc,hset]
   repeat refine an ?_
   have hR1:=hR.push (by decide) fd u4 (fun _=>.int .i64 0)
   have k1:b1≠bc:=by obtain⟨x,k,_⟩:=h1;rintro rfl;rw[u4]at k;cases k
   have k6:b6≠bc:=by obtain⟨x,k,_⟩:=h6;rintro rfl;rw[u4]at k;cases k
   have h1':=(h1.upd (h1.fresh fd) ⟨2,1,m,fun _=>.int .i64 0⟩).upd k1 ⟨29,1,n,bK g4 i (.sl 1 bd 0 m)⟩;have h6':=(h6.upd (h6.fresh fd) ⟨2,1,m,fun _=>.int .i64 0⟩).upd k6 ⟨29,1,n,bK g4 i (.sl 1 bd 0 m)⟩;generalize hgg:(fun a=>if a=i then bd else g' a)=gg at hR1
   refine aI (fun O S'=>∃j:Nat,j<=m/\O 1=.int .i64 m/\O 2=.fn 99 [.ptr 1 b1 0,.ptr 1 b6 0]/\O 7=.sl 1 bc 0 n/\O 8=.int .i64 i/\O 13=.int .i64 n/\O 14=.int .i64 i/\O 26=.int .i64 m/\O 27=.int .i64 j/\dc S' b1 52 1 (aV n m A)/\dc S' b6 4 1 (.bool true)/\eh 29 2 1 St.none S' bc gg n m (i+1) (fun a c=>.int .i64 (if a=i/\j<=c then 0 else A a c))) (fun O S=>m-bY (O 27)) ?_ ?_
   ·simp -dsimp only[go_sem,aa,e1,e2,e7,e13,e14];refine⟨0,by omega,rfl,h1',h6',hR1.congr fun a c _ _=>?_⟩
    by_cases e:a=i
    ·simp[e]
    ·simp[e]
   ·clear e1 e2 e7 e13 e14 hR hR1 u4 v4 hgg h1' h6' h1 h6 k1 k6;rintro O S' ⟨j,hj,e1,e2,e7,e8,e13,e14,e26,e27,h1,h6,hR⟩;by_cases hjt:j<m
    ·obtain⟨g4,u4,v4⟩:=id hR.outer;obtain⟨g5,u5,v5⟩:=id (hR.row i om);have x4:g4 i=.sl 1 (gg i) 0 m:=(v4 i hit).trans (if_pos om);have k6:bc≠b6:=by obtain⟨x,k,_⟩:=h6;rintro rfl;rw[u4]at k;cases k
     have k6g:∀a,a<i+1->gg a≠b6:=fun a ha=>by
      obtain⟨x,k,_⟩:=h6;obtain⟨y,l,_⟩:=hR.row a ha;intro e;rw[e,k]at l;cases l
     have k1:b1≠b6:=by obtain⟨x,k,_⟩:=h6;obtain⟨y,l,_⟩:=h1;rintro rfl;rw[k]at l;cases l
     simp -dsimp only[go_sem,aa,↓reduceIte,af,decide_true,e1,e2,e7,e13,e14,e26,e27,hjt]
     repeat refine an ?_
     refine ee 8 [[0,1,2,3,4],[],[]] (by kernel_rfl) ?_
     simp -dsimp only[go_sem,aa,ae,↓reduceIte,af,ab,e2,e7,e8,hit,u4,x4]
     repeat refine an ?_
     refine(yn n m A i j S' b1 b6 hit hjt (hA i j hit hjt) h1 h6).mono ?_;rintro _ S2 ⟨rfl,hC,h6'⟩;have u4':=(hC bc k6).trans u4;have u5':=(hC (gg i) (k6g i om)).trans u5;have hR':eh 29 2 1 St.none S2 bc gg n m (i+1) (fun a c=>.int .i64 (if a=i/\j<=c then 0 else A a c)):=⟨eZ.noneS _,hR.new,hC.has k6 hR.outer,fun a ha=>hC.has (k6g a ha) (hR.row a ha),hR.rnew,hR.inj⟩
     have h1':=hC.var k1 h1;have kb1:b1≠gg i:=by obtain⟨x,k,_⟩:=h1';rintro rfl;rw[u5']at k;cases k
     have kb6:b6≠gg i:=fun e=>k6g i om e.symm;simp -dsimp only[go_sem,aa,↓reduceIte,reduceCtorEq,af,ab,e1,e2,e7,e8,e13,e14,e26,e27,hit,hjt,u4',x4,u5',aW (show j<1000000 by omega),bY]
     repeat refine an ?_
     refine⟨⟨j+1,by omega,rfl,h1'.upd kb1 _,h6'.upd kb6 _,(hR'.put (by decide) (show i<i+1 by omega) u5' j (.int .i64 (A i j))).congr fun a c _ _=>?_⟩,by omega⟩
     by_cases e:a=i/\c=j
     ·obtain⟨rfl,rfl⟩:=e;rw[if_pos ⟨rfl,rfl⟩,if_neg om]
     ·rw[if_neg e];congr 1;by_cases e2:a=i/\j<=c
      ·rw[if_pos e2,if_pos om]
      ·rw[if_neg e2,if_neg om]
    ·simp -dsimp only[go_sem,aa,↓reduceIte,af,decide_false,e1,e2,e7,e13,e14,e26,e27,hjt,aW (show i<1000000 by omega),bY]
     repeat refine an ?_
     exact⟨⟨i+1,by omega,rfl,h1,h6,gg,hR.congr fun a c _ hc=>by rw[if_neg om]⟩,by omega⟩
  ·obtain rfl:i=n:=by omega
   have hN:=hR.imat (A:=A) (fun _ _ _ _=>rfl);simp -dsimp only[go_sem,aa,↓reduceIte,af,decide_false,ab,e1,e7,e13,e14,hit]
   repeat refine an ?_
   exact⟨bc,rfl,g',hN.1,h6⟩
theorem zt(n m:Nat)(A:aU)(h1:1<=n)(h2:n<=16)(h3:1<=m)(h4:m<=16)(hA:∀i j:Nat,i<n->j<m->kb (A i j)):vU 43 [aV n m A] n m A:=by
 refine vU.of ?_;refine aA Tryz.func43 rfl 23 Tryz.ntmps43 (by kernel_rfl) (by simp) (by simp[Tryz.results43]) ?_
 rw[aS,Tryz.results43];simp -dsimp only[go_sem,aa,ae,↓reduceIte,ab,aV,bn]
 repeat refine an ?_
 refine aG.intro fun b1 f1=>?_
 try simp -dsimp only[go_sem,ae]
 refine(jX n m A h1 h2 h3 h4).call ?_;simp -dsimp only[go_sem,aa,↓reduceIte]
 repeat refine an ?_
 refine aG.intro fun b6 f6=>?_;have n6_1:=(ai f6).1;have q1:b1≠b6:=n6_1.symm;simp -dsimp only[go_sem,aa,ae,↓reduceIte,ab,d7]
 repeat refine an ?_
 refine(zf n m A _ b1 b6 h2 h4 hA ?_ ?_).mono ?_
 ·refine dc.upd (dc.upd (dc.new ?_) q1 _) q1 _;rfl
 ·exact dc.set
 rintro _ S2 ⟨b,g,rfl,hM,h6⟩;obtain⟨g6,u6,v6⟩:=id h6;simp -dsimp only[go_sem,aa,ae,↓reduceIte,ab,u6,v6]
 repeat refine an ?_
 exact⟨b,rfl,g,hM⟩
end Go.Proofs.YtdobfmlmenaajaaGreatDoor
