/-
  Lemmas for NeighbourBack.
-/
import Derived.Test.YtdobfmlmenaajaaGreatDoorB11
namespace Go.Proofs.YtdobfmlmenaajaaGreatDoor
open Go.RowKit Tryz
open _root_.Classical renaming choose→fP
open _root_.Int renaming tmod→et,tdiv→pV,dvd_iff_emod_eq_zero→tD
open _root_.Option renaming none→ae
set_option maxHeartbeats 6400000
set_option maxRecDepth 4096
set_option linter.all false
attribute [local go_sem] Nat.reduceAdd Nat.reduceEqDiff Nat.reduceLeDiff Nat.reduceLT reduceCtorEq Int.ofNat_lt decide_true decide_false Int.zero_le_ofNat
attribute [local go_sem ↓] reduceIte
variable{x y:AV}{post:AV->St->Prop}{Q:AX->Tm->St->Prop}{ops:Array Oper}{c:Code}{D a z:Int}{pend:List (Nat×eA)}{args:List AV}{l:List Oper}{R b b3 b8 bu d f i j k n top:Nat}{g0:Nat->AV}{m m' q v:Nat->Int}{g gu:Nat->Nat}{p:PL}{S S' S'' S0:St}{O:Tm}{K:Tm->St->Prop}{G:Type}{A B C H L T X:az}
def wM(A:az)(n R:Nat):az:=fun a b=>A (vU n R a) b
structure mN(n:Nat)(A:az):Prop where
 h1:1<=n
 hn:n<=8
 hB:∀σ k,lT A (n+1) σ k->∀k' i j,k'+j<n+1->k'+i<n+n+1->nb (cl (fun x y=>A x (σ y)) k' i j) KB
 hdet:det (n+1) (wM A n (n+n))≠0
 hrow:∀R,n<=R->R<=n+n->det (n+1) (wM A n R)≠0->∀σ neg k,ma (wM A n R) (n+1) σ neg k->∀k' i j,k'+i<n+1->k'+j<n+1->nb (cl (fun a b=>wM A n R (σ a) b) k' i j) KB
 hent:∀r j,r<n+n+1->j<n+1->nb (A r j) KB
structure KN(n:Nat)(A:az)(R:Nat)(H U:az):Prop where
 r1:n<=R
 r2:R<=n+n
 dt:det (n+1) (wM A n R)≠0
 tl:∃d M,TL (n+1) (eU (n+1) (n+1) (wM A n R)) d M/\M 0=((det (n+1) (wM A n R)).natAbs:Int)/\HI (n+1) (eU (n+1) (n+1) (wM A n R)) d M (n+1) (fun j r=>H r j)
 mu:∀i j,i<n+1->j<n+1->mm (n+1) (wM A n R) U i j=H i j
def mN.dlt(h:mN n A){R:Nat}(a:n<=R)(b:R<=n+n)(c:det (n+1) (wM A n R)≠0):(det (n+1) (wM A n R)).natAbs<PB:=by
 have:=h.hrow R a b c id false 0 (ma.init _ _) n 0 0 om om;rw[cH]at this;have d:nb (det (n+1) (wM A n R)) KB:=this;have:=d.P;omega
structure TF(S0 S:St)(b b1 b3 bu:Nat)(g gu:Nat->Nat)(n top:Nat)(A X:az)(D:Int):Prop where
 cols:dr S b g (n+1) (n+n+1) (fun j r=>A r j)
 pair:aY S b1 218 1 2 (LO b (n+1) top)
 var:cS S b3 50 2 (ϱ D)
 mat:dr S bu gu (n+1) (n+1) X
 ext:dh S0 S
 new:∀a,a<n+1->S0 (gu a)=ae
def TF.congr{b1:Nat}{Y:az}(h:TF S0 S b b1 b3 bu g gu n top A X D)(d:∀a c,a<n+1->c<n+1->X a c=Y a c):TF S0 S b b1 b3 bu g gu n top A Y D:=⟨h.cols,h.pair,h.var,h.mat.congr d,h.ext,h.new⟩
def TF.other{b1:Nat}(h:TF S0 S b b1 b3 bu g gu n top A X D){e:Nat}(c:S e=ae)(Z:eA):TF S0 (S.upd e Z) b b1 b3 bu g gu n top A X D :=
 ⟨h.cols.upd (aY.fresh h.cols.outer c) (fun a d=>aY.fresh (h.cols.row a d) c) _,h.pair.upd (aY.fresh h.pair c) _,h.var.upd (h.var.fresh c) _,h.mat.upd (aY.fresh h.mat.outer c) (fun a d=>aY.fresh (h.mat.row a d) c) _,h.ext.upd (h.ext.none c) _,h.new⟩
def TF.set{b1:Nat}(h:TF S0 S b b1 b3 bu g gu n top A X D){i j:Nat}{z:Int}{g':Nat->AV}(c:i<n+1)(d:S (gu i)=some ⟨50,2,n+1,g'⟩)(m:1<=n):TF S0 (S.upd (gu i) ⟨50,2,n+1,aL g' j (ϱ z)⟩) b b1 b3 bu g gu n top A (dU X i j z) D:=by
 have f:=h.mat.row i c;refine⟨h.cols.upd (aY.ne h.cols.outer f dc) (fun a l e=>?_) _,h.pair.upd (aY.ne h.pair f dc) _,h.var.upd (fun e=>?_) _,h.mat.set c d,h.ext.upd (h.new i c) _,h.new⟩
 .obtain⟨y,k,_⟩:=h.cols.row a l;rw[e,d]at k;have k':=nF (Option.map eA.n) k;simp only[dw,fY]at k';omega
 .obtain⟨y,k,_⟩:=h.var;rw[e,d]at k;cases k;omega
def zB(S0:St)(b n top:Nat)(g:Nat->Nat)(A:az)(z:mN n A)(hO:dr S0 b g (n+1) (n+n+1) (fun j r=>A r j)) :
  cI 233 [.agg [ϑ b 0 (n+1),ι top]] S0 (fun _ S'=>(∃R H U,KN n A R H U/\∃g',dr S' b g' (n+1) (n+n+1) (ln (n+1) (fun k r=>A r k) U))/\iX b S0 S'):=by
 have hKB:=mR;refine fC func233 rfl 65 ntmps233 kr sm ?_
 rw[jY,results233];have h1:=z.h1;have hn:=z.hn;simp -dsimp only[go_sem,aU,bF,ca,cA];refine ax.intro fun K f1=>?_;refine k9 (fun T=>aY T K 218 1 2 (LO b (n+1) top)/\dh S0 T) ?_ ?_
 .refine⟨aY.here fun j f=>?_,(dh.refl S0).upd f1 _⟩
  match j,f with
  | 0,_=>rfl
  | 1,_=>rfl
 rintro T ⟨B,Q⟩;have V:=hO.ext Q;obtain⟨g1,u1,L⟩:=id B;have x0:g1 0=ϑ b 0 (n+1):=L 0 om;have x1:g1 1=ι top:=L 1 om;refine eO 3 [[0,1],[],[]] kr ?_
 simp -dsimp only[go_sem,aa,u1,x0,x1,ed];refine(wG T b g n (n+1) (n+n+1) top A hn h1 rfl rfl V.cols z.hB z.hdet).mono ?_;rintro _ S1 ⟨e,R,rfl,r1,r2,x,hL,s⟩;obtain⟨g2,u2,v2⟩:=id (s.has B);have y0:g2 0=ϑ b 0 (n+1):=v2 0 om;simp -dsimp only[go_sem,aa,u2,y0];have hO1:=V.ext s;refine(yI (n+1) (n+n+1) (n+1) KB (fun j r=>A r j) (vU n R) om om (fun i l=>by unfold vU;split<;>omega) (fun c r W hr=>z.hent r c hr W) om _ _ (eM.two hO1.vr.va (VR.sl hL om (fun a m=>by rw[aM];exact VR.mf rfl)).va)).mono ?_
 rintro _ S2 ⟨bw,gw,rfl,t,X,_,_⟩
 replace x:det (n+1) (wM A n R)≠0:=x
 replace t:dr S2 bw gw (n+1) (n+1) (wM A n R):=t
 have P:=z.hrow R r1 r2 x;have hdl:=z.dlt r1 r2 x;have C:∀i j,i<n+1->j<n+1->nb (wM A n R i j) KB:=fun i j l f=>z.hent _ _ (by unfold vU;split<;>omega) f
 have u:dh S0 S2:=(Q.trans s).trans X;have Y:=(s.trans X).has B;simp -dsimp only[go_sem,aa];refine(Bf (n+1) KB (wM A n R) om om om om x P).spec (eM.one t.vr.va) ?_;simp -dsimp only[go_sem];refine ax.intro fun y f3=>?_
 try simp -dsimp only[go_sem]
 have s3:=u.none f3;have hNR:n+1≠1:=om
 refine FR (fun T=>dr T bw gw (n+1) (n+1) (wM A n R)/\cS T y 50 2 (ϱ (det (n+1) (wM A n R)))/\dh S0 T/\aY T K 218 1 2 (LO b (n+1) top)) ?_ ?_
 .have q1:bw≠y:=aY.fresh t.outer f3;have q2:∀a,a<n+1->gw a≠y:=fun a m=>aY.fresh (t.row a m) f3;have q3:K≠y:=aY.fresh Y f3;exact⟨(t.upd q1 q2 _).upd q1 q2 _,cS.set,(u.upd s3 _).upd s3 _,(Y.upd q3 _).upd q3 _⟩
 clear t u Y s X hL hO1 u2 v2 y0 u1 L x0 x1 V B Q f3;rintro T3 ⟨t,V3,o,hp3⟩;refine(vT (n+1) KB (wM A n R) om om om om C _ _ (eM.one t.vr.va)).mono ?_;rintro _ S4 ⟨ba,ga,rfl,hA4,v,_⟩;obtain⟨g3,u3,x3⟩:=id (V3.ext v);simp -dsimp only[*,go_sem,aa];have hw4:=t.ext v;refine(zA (n+1) (wM A n R) om om (fun i j l f=>(C i j l f).mono om) x hdl _ _ (eM.two hw4.vr.va (VA.refl _ _))).mono ?_;rintro _ S5 ⟨bh,gh,H,rfl,⟨d,M,Z,hM0,E⟩,hH5,F,_⟩;have hHr:∀i j,i<n+1->j<n+1->nb (H i j) KB:=fun i j l f=>by
  have:=E.rng Z (ag _) (fun c r _ h1 h2=>om) f l
  exact Gf om
 have hAb:∀i j,i<n+1->j<n+1->nb (iq (n+1) (wM A n R) i j) (jk KB n):=fun i j l f=>by
  have:=Al om om C n i j l f;unfold iq;split
  .exact this.neg
  .exact this
 have hbm:=pL KB n;have hbl:=yS KB om n om;obtain⟨U,hU1,hU2⟩:=Ka (N:=n+1) (w:=wM A n R) (H:=H) om (fun j f=>E.mem j f);simp -dsimp only[go_sem,aa];refine(oo (n+1) (n+1) (n+1) (jk KB n) (iq (n+1) (wM A n R)) H om om om om om om hAb (fun i j l f=>(hHr i j l f).mono hbm) om _ _ (eM.two (hA4.ext F).vr.va hH5.vr.va)).mono ?_;rintro _ S6 ⟨bu,gu,rfl,hU6,hE6,nu,nug⟩;have h:=(v.trans F).trans hE6;have hXb:∀i j,i<n+1->j<n+1->nb (mm (n+1) (iq (n+1) (wM A n R)) H i j) (jk KB n+jk KB n+9):=fun i j l f=>I7 om hAb (fun i j l f=>(hHr i j l f).mono hbm) l f;have hTF:TF S0 S6 b K y bu g gu n top A (fun a c=>det (n+1) (wM A n R)*U a c) (det (n+1) (wM A n R)):=⟨hO.ext (o.trans h),h.has hp3,V3.ext h,hU6.congr hU2,o.trans h,fun a m=>((o.trans v).trans F).none (nug a m)⟩;have hDb:∀a c,a<n+1->c<n+1->nb (det (n+1) (wM A n R)*U a c) (jk KB n+jk KB n+9):=fun a c m W=>by rw[<-hU2 a c m W];exact hXb a c m W
 have hTr:KN n A R H U:=⟨r1,r2,x,⟨d,M,Z,hM0,E⟩,hU1⟩;have hUb:∀a c,a<n+1->c<n+1->nb (U a c) (jk KB n+jk KB n+10):=fun a c m W=>by
  have:=uK (b:=det (n+1) (wM A n R)) (hDb a c m W)
  rwa [cn _ x]at this
 generalize hDe:det (n+1) (wM A n R)=D at *;clear E Z hM0 hH5 hU6 hA4 hw4 t V3 u3 x3 h hE6 F v o hp3 nu nug hU1 hU2 hXb hAb hHr P C;simp only[go_sem];refine aC (fun O S=>∃i:Nat,i<=n+1/\O 1=ϰ K 0/\O 3=ϖ y 0/\O 7=ϑ bu 0 (n+1)/\O 36=ϑ bu 0 (n+1)/\O 37=ι ((n+1:Nat):Int)/\O 38=ι i/\TF S0 S b K y bu g gu n top A (fun a c=>if a<i then U a c else D*U a c) D) (fun O S=>n+1-bO (O 38)) ?_ ?_
 .simp only[go_sem];exact⟨0,om,rfl,hTF.congr fun a c _ _=>by simp⟩
 clear hTF;rintro O S ⟨i,l,e1,e3,e7,G,I,J,p⟩;by_cases q:i<n+1
 .obtain⟨g1,u1,L⟩:=p.mat.outer;have x1:g1 i=ϕ (gu i) 0 (n+1):=L i q;simp only[*,go_sem,aa];refine aC (fun O S=>∃j:Nat,j<=n+1/\O 1=ϰ K 0/\O 3=ϖ y 0/\O 7=ϑ bu 0 (n+1)/\O 10=ϕ (gu i) 0 (n+1)/\O 36=ϑ bu 0 (n+1)/\O 37=ι ((n+1:Nat):Int)/\O 38=ι i/\O 42=ϕ (gu i) 0 (n+1)/\O 43=ι ((n+1:Nat):Int)/\O 44=ι j/\TF S0 S b K y bu g gu n top A (fun a c=>if a<i∨(a=i/\c<j)then U a c else D*U a c) D) (fun O S=>n+1-bO (O 44)) ?_ ?_
  .simp only[*,go_sem];exact⟨0,om,rfl,p.congr fun a c _ _=>by simp⟩
  clear p e1 e3 e7 G I J u1 L x1;rintro O S ⟨j,f,e1,e3,e7,e10,G,I,J,e42,e43,e44,p⟩;by_cases hjt:j<n+1
  .obtain⟨g2,u2,v2⟩:=p.mat.row i q;have x2:g2 j=ϱ (D*U i j):=(v2 j hjt).trans sm
   obtain⟨g3,u3,x3⟩:=id p.var;simp -dsimp only[*,go_sem,aa];refine ax.intro fun b12 f12=>?_;have q1:y≠b12:=p.var.fresh f12;have q2:gu i≠b12:=aY.fresh (p.mat.row i q) f12;simp -dsimp only[go_sem,aa,e3,e10,e44,x2,u3,x3,q1,dL];refine(ft (hDb i j q hjt) ((Gf om).mono om) om x).call ?_;rw[cn _ x];simp only[*,go_sem,aa,aF (om:j<1000000),bO]
   refine⟨⟨j+1,om,rfl,?_⟩,om⟩
   rw[lu];refine((p.other f12 _).set q (by rw[aE q2];exact u2) om).congr fun a c _ _=>?_
   simp only[dU];by_cases e:a=i/\c=j
   .obtain⟨rfl,rfl⟩:=e;simp
   .rw[ah e];by_cases e2:a<i∨(a=i/\c<j)
    .rw[aj e2,aj om]
    .rw[ah e2,ah om]
  have hnj:n+1=j:=om
  simp only[go_sem,aa,e1,e3,e7,G,I,J,e42,e43,e44,hjt,aF (om:i<1000000),bO]
  refine⟨⟨i+1,om,rfl,p.congr fun a c _ W=>?_⟩,om⟩
  by_cases e2:a<i∨(a=i/\c<j)
  .rw[aj e2,aj om]
  .rw[ah e2,ah om]
 obtain⟨g1,u1,L⟩:=id p.pair;have x1:g1 0=ϑ b 0 (n+1):=L 0 om;simp -dsimp only[go_sem,aa,e1,e7,G,I,J,q,u1,x1];refine(Gt S b bu g gu (n+1) (n+n+1) (jk KB n+jk KB n+40) (fun j r=>A r j) _ om om om (fun a r m hr=>(z.hent r a hr m).mono om) (fun a r m hr=>?_) om p.cols p.mat).mono ?_
 .rw[aj om];exact(hUb a r m hr).mono om
 rintro _ S7 ⟨⟨g',hO7⟩,hK7⟩;simp only[go_sem];refine⟨⟨R,H,U,hTr,g',hO7.congr fun a r m hr=>?_⟩,(iX.ext p.ext).trans hK7⟩;unfold ln;exact ay fun k hk=>by dsimp only;rw[aj om]

def ll(n m:Nat)(A:az)(a:1<=n)(b:n<=16)(c:1<=m)(d:m<=16):PF 210 [aP n m A] (.tup [ι n,ι m,.bool true]):=by
 refine iy func210 ntmps210 results210 ?_;simp -dsimp only[go_sem,aa,aP,bn];refine(ld n m A a b c d).call ?_;simp only[go_sem];exact VR.tup (by simp[rm])
structure FS(S:St)(b b8:Nat)(g:Nat->Nat)(n i:Nat)(C:az)(x y:AV):Prop where
 cols:dr S b g (n+1) (n+n+1) C
 pair:aY S b8 218 1 2 (LO b (n+1) n)
 hx:cN 3 1 St.none S x (min i n) (fun a=>ι ((a:Nat):Int))
 hy:cN 3 1 St.none S y (i-n) (fun a=>ι ((n+a:Nat):Int))
 xy:∀d,dV x d->¬dV y d
def FS.other(h:FS S b b8 g n i C x y){e:Nat}(c:S e=ae)(Z:eA):FS (S.upd e Z) b b8 g n i C x y :=
 ⟨h.cols.upd (aY.fresh h.cols.outer c) (fun a d=>aY.fresh (h.cols.row a d) c) _,h.pair.upd (aY.fresh h.pair c) _,h.hx.upd rfl (h.hx.fresh c) _,h.hy.upd rfl (h.hy.fresh c) _,h.xy⟩
def FS.appx(h:FS S b b8 g n i C x y)(v:i<n){c:Nat}(l:cN 3 1 St.none S' (ϑ c 0 (min i n+1)) (min i n+1) (fun a=>if a=min i n then ι (i:Int)else ι ((a:Nat):Int)))(m:∀d X,S d=some X->¬dV x d->S' d=some X)(p:dV x c∨S c=ae) :
  FS S' b b8 g n (i+1) C (ϑ c 0 (min i n+1)) y:=by
 have kp:∀{b ty es n:Nat} {g:Nat->AV},aY S b ty es n g->ty≠3->aY S' b ty es n g:=fun q r=>by
  obtain⟨z,o,s⟩:=q;exact⟨z,m _ _ o (h.hx.other o r),s⟩
 have t:min i n=i:=om
 refine⟨⟨kp h.cols.outer dc,fun a u=>kp (h.cols.row a u) dc,h.cols.inj⟩,kp h.pair dc,?_,?_,fun d j f=>?_⟩
 .rw[t]at l ⊢;rw[(om:min (i+1) n=i+1)]
  exact l.congr fun a _=>by
   by_cases e:a=i
   .rw[aj e,e]
   .rw[ah e]
 .have:=h.hy.keep (dh.noneS _) m (fun d j f=>h.xy d f j);rw[(om:i+1-n=i-n)]
  exact this
 .rw[dP]at j;subst j;rcases p with e|e
  .exact h.xy _ e f
  .obtain⟨X,k⟩:=h.hy.blk f;rw[k]at e;cases e
def FS.appy(h:FS S b b8 g n i C x y)(u:n<=i){c:Nat}(o:cN 3 1 St.none S' (ϑ c 0 (i-n+1)) (i-n+1) (fun a=>if a=i-n then ι (i:Int)else ι ((n+a:Nat):Int)))(l:∀d X,S d=some X->¬dV y d->S' d=some X)(p:dV y c∨S c=ae) :
  FS S' b b8 g n (i+1) C x (ϑ c 0 (i-n+1)):=by
 have kp:∀{b ty es n:Nat} {g:Nat->AV},aY S b ty es n g->ty≠3->aY S' b ty es n g:=fun q r=>by
  obtain⟨z,m,s⟩:=q;exact⟨z,l _ _ m (h.hy.other m r),s⟩
 refine⟨⟨kp h.cols.outer dc,fun a t=>kp (h.cols.row a t) dc,h.cols.inj⟩,kp h.pair dc,?_,?_,fun d j f=>?_⟩
 .have:=h.hx.keep (dh.noneS _) l (fun d j f=>h.xy d j f);rw[(om:min (i+1) n=min i n)]
  exact this
 .rw[(om:i+1-n=i-n+1)]
  exact o.congr fun a _=>by
   by_cases e:a=i-n
   .rw[aj e,e];congr 1;omega
   .rw[ah e]
 .rw[dP]at f;subst f;rcases p with e|e
  .exact h.xy _ j e
  .obtain⟨X,k⟩:=h.hx.blk j;rw[k]at e;cases e
def Em(n k:Nat)(M:az)(W:mN n (fB n M))(hk:k<=1000000)(hU:∀R H U,KN n (fB n M) R H U->∀a r,a<n+1->r<n+n+1->nb (ln (n+1) (fun k r=>fB n M r k) U a r) k) :
  cI 184 [aP n (n+1) M] St.none (fun r _=>∃R H U,KN n (fB n M) R H U/\∃V,r=.tup [aP n (n+1) (fun i j=>ln (n+1) (fun k r=>fB n M r k) U j i),V,.bool true]):=by
 refine jg func184 ntmps184 results184 ?_;have h1:=W.h1;have hn:=W.hn;simp -dsimp only[go_sem,aa,aP,bn];refine(ll n (n+1) M h1 om om om).call ?_;simp -dsimp only[go_sem,aa];refine(Dk _ n (n+1) M h1 om om om).mono ?_;rintro _ S1 ⟨b,g,rfl,q,_⟩;simp -dsimp only[go_sem,aa];refine ax.intro fun s f8=>?_;simp -dsimp only[go_sem,fy,ed,aU,bF,ca,cA,bL,bJ,dD,bR];have F:∀{c ty es k:Nat} {z:Nat->AV},aY S1 c ty es k z->c≠s:=fun h=>aY.fresh h f8;rw[<-kS]at q;have I:=(q.upd (F q.outer) (fun a J=>F (q.row a J)) ⟨218,1,2,fun j=>if j=0 then AV.nil else AV.int IntKind.i64 0⟩).upd (F q.outer) (fun a J=>F (q.row a J)) ⟨218,1,2,fy (fun j=>if j=0 then AV.nil else AV.int IntKind.i64 0) 0 [ϑ b 0 (n+1),AV.int IntKind.i64 n]⟩
 have K:aY ((S1.upd s ⟨218,1,2,fun j=>if j=0 then AV.nil else AV.int IntKind.i64 0⟩).upd s ⟨218,1,2,fy (fun j=>if j=0 then AV.nil else AV.int IntKind.i64 0) 0 [ϑ b 0 (n+1),AV.int IntKind.i64 n]⟩) s 218 1 2 (LO b (n+1) n):=aY.here fun j hj=>by
  match j,hj with
  | 0,_=>rfl
  | 1,_=>rfl
 refine(zB _ b n n g (fB n M) W I).mono ?_;rintro _ S2 ⟨⟨R,H,U,hT,g',t⟩,hK⟩;have X:s≠b:=fun e=>F q.outer e.symm;have L:=hK.has K X;have u:=hU R H U hT;generalize hC:ln (n+1) (fun k r=>fB n M r k) U=C at t u;simp only[go_sem];refine aC (fun O S=>∃(i:Nat) (x y:AV),i<=n+n+1/\O 8=ϰ s 0/\O 9=x/\O 10=y/\O 26=ι ((n+n+1:Nat):Int)/\O 27=ι i/\FS S b s g' n i C x y) (fun O S=>n+n+1-bO (O 27)) ?_ ?_
 .simp only[go_sem];refine⟨0,om,by rw[dN (n:=n+n+1) om om],rfl,t,L,?_,?_,fun d hd=>?_⟩
  .rw[Nat.zero_min];exact cN.nil (dh.noneS _) _
  .rw[Nat.zero_sub];exact cN.nil (dh.noneS _) _
  .obtain⟨_,_,_,e⟩:=hd;cases e
 clear t L hK I K q f8 F;rintro O S ⟨i,x,y,hi,N,G,f,o,p,m⟩;by_cases P:i<n+n+1
 .obtain⟨gp,up,vp⟩:=id m.pair;have x1:gp 1=ι n:=vp 1 om;by_cases w:i<n
  .simp -dsimp only[go_sem,aa,N,G,f,o,p,P,w,up,x1];refine ax.intro fun b36 Q=>?_;have A:=m.hx.fresh Q;have l:=m.other Q ⟨3,1,1,fun j=>[ι i].getD j .any⟩
   try simp -dsimp only[go_sem,G]
   refine cN.app3 (v:=ι i) l.hx om (by simp[dY]) (aQ ⟨_,_,_,rfl,bW,rfl,fun h=>A _ h rfl⟩) ?_
   intro c S3 Y B D;have E:=l.appx w Y B D;simp only[*,go_sem,aF (om:i<1000000),bO]
   exact⟨⟨i+1,om,rfl,E⟩,om⟩
  .simp -dsimp only[go_sem,aa,N,G,f,o,p,P,w,up,x1];refine ax.intro fun b40 T=>?_;have A:=m.hy.fresh T;have l:=m.other T ⟨3,1,1,fun j=>[ι i].getD j .any⟩
   try simp -dsimp only[go_sem,f]
   refine cN.app3 (v:=ι i) l.hy om (by simp[dY]) (aQ ⟨_,_,_,rfl,bW,rfl,fun h=>A _ h rfl⟩) ?_
   intro c S3 Y B D;have E:=l.appy om Y B D;simp only[*,go_sem,aF (om:i<1000000),bO]
   exact⟨⟨i+1,om,rfl,E⟩,om⟩
 obtain rfl:i=n+n+1:=om
 obtain⟨gp,up,vp⟩:=id m.pair;have Z:gp 0=ϑ b 0 (n+1):=vp 0 om;obtain⟨c1,rfl,hL1⟩:∃c1,x=ϑ c1 0 n/\aY S c1 3 1 n (fun a=>ι ((a:Nat):Int)):=by
  rcases m.hx.2 with⟨h,_⟩|⟨c,_,e,h⟩
  .omega
  .rw[(om:min (n+n+1) n=n)]at e h;exact⟨c,e,h⟩
 obtain⟨c2,rfl,hL2⟩:∃c2,y=ϑ c2 0 (n+1)/\aY S c2 3 1 (n+1) (fun a=>ι ((n+a:Nat):Int)):=by
  rcases m.hy.2 with⟨h,_⟩|⟨c,_,e,h⟩
  .omega
  .rw[(om:n+n+1-n=n+1)]at e h;exact⟨c,e,h⟩
 simp -dsimp only[*,go_sem,aa];refine aN 11 kr ?_
 simp only[go_sem,aa,N,G,f,up,Z];have p1:=yI (n+1) (n+n+1) n k C (fun a=>a) om om (fun i hi=>om) (fun c r D hr=>u c r D hr) hk
 have p2:=yI (n+1) (n+n+1) (n+1) k C (fun a=>n+a) om om (fun i hi=>om) (fun c r D hr=>u c r D hr) hk
 refine⟨_,p1.pf.pureS (eM.two m.cols.vr.va (VR.sl hL1 om (fun a J=>by rw[aM];exact VR.mf rfl)).va),?_⟩
 try simp -dsimp only[go_sem,N,G,f,o,p,up,Z]
 refine⟨_,p2.pf.pureS (eM.two m.cols.vr.va (VR.sl hL2 om (fun a J=>by rw[aM];exact VR.mf rfl)).va),?_⟩
 try simp -dsimp only[go_sem,N,G,f,o,p,up,Z]
 subst hC;exact⟨R,H,U,hT,_,rfl⟩

def mw:List Oper->List Nat
 | []=>[]
 | o::l=>(match o.dst with
  | some d=>[d]
  | ae=>[])++mw l
def lB(l:List Oper)(k:Nat):Option Nat:=(l[k]?).bind (·.dst)
def Rs(l:List Oper):Bool:=decide (mw l).Nodup
def stP(ops:Array Oper)(O0:Tm)(S:St)(z:List AV):List Oper->Nat->Prop
 | [],_=>True
 | o::r,i=>(∀O:Tm,(∀t,¬t∈mw ops.toList->O t=O0 t)->(∀k d,(vW o).contains k=true->lB ops.toList k=some d->O d=z.getD k .any)->∀K:Tm->St->Prop,K (O.put o.dst (z.getD i .any)) S->oU ops o O S K)/\stP ops O0 S z r (i+1)
theorem ID{ops:Array Oper}{O0:Tm}{S:St}{z:List AV}:∀(l:List Oper) (i j:Nat) (o:Oper),stP ops O0 S z l i->l[j]? = some o ->
  ∀O:Tm,(∀t,¬t∈mw ops.toList->O t=O0 t)->(∀k d,(vW o).contains k=true->lB ops.toList k=some d->O d=z.getD k .any)->∀K:Tm->St->Prop,K (O.put o.dst (z.getD (i+j) .any)) S->oU ops o O S K
 | [],i,j,o,_,h=>by simp at h
 | p::r,i,0,o,h,a=>by
  simp only[dE,fY]at a;subst a;exact h.1
 | p::r,i,j+1,o,h,a=>by
  rw[dd]at a;have:=ID r (i+1) j o h.2 a;rw[(om:i+1+j=i+(j+1))]at this
  exact this
theorem wK:∀{l:List Oper} {j:Nat} {o:Oper} {d:Nat},l[j]? = some o->o.dst=some d->d∈mw l
 | [],_,_,_,h,_=>by simp at h
 | p::l,0,o,d,h,a=>by
  simp only[dE,fY]at h;subst h;simp[mw,a]
 | p::l,j+1,o,d,h,a=>by
  rw[dd]at h;simp[mw,wK h a]
theorem Cn:∀{l:List Oper} {i j:Nat} {d:Nat},(mw l).Nodup->lB l i=some d->lB l j=some d->i=j
 | [],i,_,_,_,h,_=>by simp[lB]at h
 | p::l,i,j,d,a,f,g=>by
  have memj:∀k,lB l k=some d->d∈mw l:=fun k b=>by
   unfold lB at b
   cases e:l[k]? with
   | none=>rw[e]at b;simp at b
   | some o=>rw[e]at b;exact wK e b
  have m:(mw l).Nodup:=by
   unfold mw at a;exact(List.nodup_append.1 a).2.1
  have c:p.dst=some d->¬d∈mw l:=fun n q=>by
   unfold mw at a;rw[n]at a;simp only[R3,xn]at a;exact a.1 q
  match i,j with
  | 0,0=>rfl
  | 0,j+1=>exact(c (by simpa [lB]using f) (memj j (by simpa [lB]using g))).elim
  | i+1,0=>exact(c (by simpa [lB]using g) (memj i (by simpa [lB]using f))).elim
  | i+1,j+1 =>
   have:=Cn m (i:=i) (j:=j) (d:=d) (by simpa [lB]using f) (by simpa [lB]using g)
   omega
def wS{O0:Tm}(z:List AV)(b:(M1 ops&&Rs ops.toList)=true)(s:stP ops O0 S z ops.toList 0)
  (u:∀O:Tm,(∀t,¬t∈mw ops.toList->O t=O0 t)->(∀k d,lB ops.toList k=some d->O d=z.getD k .any)->K O S):It ops O0 S K:=by
 rw[tG];simp only[cV]at b;have m:(mw ops.toList).Nodup:=jJ b.2;refine aQ ⟨fun L O S'=>S'=S/\(∀t,¬t∈mw ops.toList->O t=O0 t)/\∀k d,L k=true->lB ops.toList k=some d->O d=z.getD k .any,b.1,⟨rfl,fun _ _=>rfl,fun _ _ h=>by cases h⟩,?_,?_⟩
 .rintro i o n L O S' ⟨rfl,c,f⟩ r v;have g:ops.toList[i]? = some o:=by simpa using n
  have:=ID ops.toList 0 i o s g O c (fun k d j a=>f k d (v k (by simpa using j)) a) (fun O' S''=>S''=S'/\(∀t,¬t∈mw ops.toList->O' t=O0 t)/\∀k d,(if k=i then true else L k)=true->lB ops.toList k=some d->O' d=z.getD k .any)
  rw[aM]at this;have p:=this ?_
  .unfold oU at p;rw[xE]at p;exact p
  .refine⟨rfl,fun t q=>?_,fun k d j a=>?_⟩
   .rw[Tm.put_eq]
    cases e:o.dst with
    | none=>exact c t q
    | some d =>
     simp only;rw[ah (fun l=>q (by subst l;exact wK g e))];exact c t q
   .rw[Tm.put_eq];by_cases l:k=i
    .subst l;have:o.dst=some d:=by simpa [lB,n]using a
     simp only[this,aj]
    .rw[ah l]at j
     cases e:o.dst with
     | none=>exact f k d j a
     | some d' =>
      simp only;rw[ah (fun w=>by
       subst w;exact l (Cn m a (by simp[lB,n,e])))]
      exact f k d j a
 .rintro L O S' ⟨rfl,c,f⟩ r;refine u O c fun k d a=>f k d (r k ?_) a;rcases aB k ops.size with h|h
  .exact h
  .simp[lB,eo h]at a
def Pm(h:∀K',K'=K->Er ops l O S K'):Er ops l O S K:=h K rfl
def cf(I:Tm->St->Prop)(μ:Tm->St->Nat)(a:I O S)(b:∀Q',Q'=Q->∀O S,I O S->Aw c (AX.seq (fun O' S'=>I O' S'/\μ O' S' < μ O S) Q') O S):Aw (.loop c) Q O S:=aC I μ a (b Q rfl)
def sY{g:Nat->AV}{K:AV->Prop}(a:j<=n)(h:K (.lst 2 j g)):lh 59 (.lst 2 n g) ae (some (ι (j:Int))) ae K :=
 ⟨rfl,0,j,rfl,rfl,trivial,om,a,by simpa using h⟩
structure CM(n k:Nat)(H:az):Prop where
 up:∀r c,r<c->r<n->c<n+1->H r c=0
 pos:∀c,c<n->0<H c c
 rng:∀c j,c<n->j<c->0<=H c j/\H c j<H c c
 nb:∀r c,r<n->c<n+1->nb (H r c) k
def JU(n k:Nat)(H:az)(h1:1<=n)(h2:n<=15)(hk:k<=1000000)(F:CM n k H):PF 185 [aP n (n+1) H] (.tup [.lst 1 n (fun a=>ι ((a:Nat):Int)),.bool true]):=by
 refine iy func185 ntmps185 results185 ?_;simp -dsimp only[go_sem,aa,aP,bn];refine(ll n (n+1) H h1 om om om).call ?_;simp only[go_sem];refine aC (fun O S=>∃(c:Nat) (x:AV),c<=n+1/\O 0=.lst 1 n (fun i=>.lst 2 (n+1) (fun j=>ϱ (H i j)))/\O 4=ι n/\O 7=x/\O 20=ι ((n+1:Nat):Int)/\O 21=ι c/\cN 3 1 St.none S x (min c n) (fun a=>ι ((a:Nat):Int))) (fun O S=>n+1-bO (O 21)) ?_ ?_
 .simp only[go_sem];exact⟨0,om,rfl,by rw[Nat.zero_min];exact cN.nil (dh.noneS _) _⟩
 rintro O S ⟨c,x,hc,r,z,u,l,m,D⟩;by_cases s:c<n+1
 .simp only[*,go_sem];refine cf (fun O S'=>∃p:Nat,p<=c/\S'=S/\O 0=.lst 1 n (fun i=>.lst 2 (n+1) (fun j=>ϱ (H i j)))/\O 4=ι n/\O 7=x/\O 8=ι c/\O 9=ι p/\O 20=ι ((n+1:Nat):Int)/\O 21=ι c) (fun O S=>c-bO (O 9)) ?_ ?_
  .simp only[*,go_sem];exact⟨0,om,rfl⟩
  clear r z u l m;rintro Q' G O T ⟨p,hp,hTS,r,z,u,w,t,l,m⟩;subst hTS;by_cases b:p<n
  .simp -dsimp only[go_sem,aa,r,z,w,t,b,s];refine(ka (F.nb p c b s) om).call ?_;by_cases P:p<c
   .simp only[go_sem,r,z,u,w,t,l,m,b,F.up p c P b s,ph,cb,aF (om:p<1000000),bO]
    exact⟨⟨p+1,om,rfl⟩,om⟩
   obtain rfl:p=c:=om
   have hs:(H p p).sign=1:=cX (F.pos p b);have Q:((H p p).sign==0)=false:=by rw[hs]<;>rfl
   have I:((p:Int)==(n:Int))=false:=by simp;omega
   have J:decide ((H p p).sign<0)=false:=by rw[hs]<;>rfl
   rw[(om:min p n=p)]at D
   apply so (fun O S'=>O 0=.lst 1 n (fun i=>.lst 2 (n+1) (fun j=>ϱ (H i j)))/\O 4=ι n/\O 7=x/\O 8=ι p/\O 9=ι p/\O 20=ι ((n+1:Nat):Int)/\O 21=ι p/\O 76=.lst 2 p (fun j=>ϱ (H p j))/\O 77=ι p/\O 78=ι 0/\S'=T)
   .intro key;simp only[go_sem,r,z,u,w,t,l,m,b,Q];rw[G];rcases id D.2 with⟨R,hx⟩|⟨c0,_,hx,hL⟩
    .have L:((0:Int) != (p:Int))=false:=by rw[R];simp
     have y:decide ((0:Int)<(p:Int))=false:=by rw[R];simp
     simp -dsimp only[go_sem,aa,r,z,u,w,t,l,m,b,s,I,L,y,hx];refine(ka (F.nb p p b s) om).call ?_;simp only[go_sem,r,u,w,t,b,L,y,J,dw,gF];refine sY om ?_;simp only[go_sem];show Aw (.loop _) _ _ _;refine key _ _ ?_;simp only[*,go_sem]
    .obtain⟨gl,ul,vl⟩:=hL;rcases bD p with h0|h0
     .have L:((0:Int) != (p:Int))=false:=by rw[h0];simp
      have y:decide ((0:Int)<(p:Int))=false:=by rw[h0];simp
      simp -dsimp only[go_sem,aa,r,z,u,w,t,l,m,b,s,I,y,hx,aR];refine(ka (F.nb p p b s) om).call ?_;simp only[go_sem,r,u,w,t,b,y,J,dw,gF];refine sY om ?_;simp only[go_sem];show Aw (.loop _) _ _ _;refine key _ _ ?_;simp only[*,go_sem]
     obtain⟨q,hq⟩:∃q,p=q+1:=⟨p-1,om⟩
     have y:decide ((0:Int)<(p:Int))=true:=by simp;omega
     have hw:ω ((p:Int)-1)=(q:Int):=dN om om;have U:q<p:=om
     have hg:gl q=ι (q:Int):=vl q U;have V:decide ((p:Int)<=(q:Int))=false:=by simp;omega
     simp -dsimp only[go_sem,aa,r,z,u,w,t,l,m,b,s,I,y,V,hw,U,hg,ul,hx,aR];refine(ka (F.nb p p b s) om).call ?_;simp only[go_sem,r,u,w,t,b,y,V,hw,hg,J,dw,gF];refine sY om ?_;simp only[go_sem];show Aw (.loop _) _ _ _;refine key _ _ ?_;simp only[*,go_sem]
   clear r z u w t l m Q I J hs P;rintro O _ ⟨r,z,u,w,t,l,m,A,B,C,rfl⟩;refine cf (fun O S=>∃j:Nat,j<=p/\O 0=.lst 1 n (fun i=>.lst 2 (n+1) (fun j=>ϱ (H i j)))/\O 4=ι n/\O 7=x/\O 8=ι p/\O 9=ι p/\O 20=ι ((n+1:Nat):Int)/\O 21=ι p/\O 76=.lst 2 p (fun j=>ϱ (H p j))/\O 77=ι p/\O 78=ι j/\cN 3 1 St.none S x p (fun a=>ι ((a:Nat):Int))) (fun O S=>p-bO (O 78)) ?_ ?_
   .simp only[go_sem,r,z,u,w,t,l,m,A,B,C];exact⟨0,om,rfl,D⟩
   clear r z u w t l m A B C D;rintro Q' G O S ⟨j,hj,r,z,u,w,t,l,m,A,B,C,D⟩;by_cases M:j<p
   .obtain⟨q1,q2⟩:=F.rng p j b M;have hs1:decide ((H p j).sign<0)=false:=by
     rcases Ta q1 with h|h
     .rw[cX h];rfl
     .rw[<-h];rfl
    have hcm:kC (H p j) (H p p)=-1:=by simp[kC,q2]
    simp -dsimp only[go_sem,A,B,C,M];refine ax.intro fun E W=>?_
    try simp -dsimp only[go_sem]
    have X:=((D.upd (by rfl) (D.fresh W) ⟨50,2,1,fun _=>ϱ 0⟩).upd (by rfl) (D.fresh W) ⟨50,2,1,aL (fun _=>ϱ 0) 0 (ϱ (H p j))⟩)
    obtain⟨S5,hS5,Y⟩:∃S5,S5=(S.upd E ⟨50,2,1,fun _=>ϱ 0⟩).upd E ⟨50,2,1,aL (fun _=>ϱ 0) 0 (ϱ (H p j))⟩/\S5 E=some ⟨50,2,1,aL (fun _=>ϱ 0) 0 (ϱ (H p j))⟩:=⟨_,rfl,bW⟩;rw[<-hS5]at X ⊢;have r0:PF 191 [ϱ (H p j)] (ι (H p j).sign):=ka (F.nb p j b om) om;have r1:PF 159 [ϱ (H p j),ϱ (H p p)] (ι (-1)):=hcm▸rB (F.nb p j b om) (F.nb p p b om) om;refine wS [ϱ (H p j),ι (H p j).sign,.bool false,.bool false,ϱ (H p j),.lst 1 n (fun i=>.lst 2 (n+1) (fun j=>ϱ (H i j))),ι p,.pat 1 (.lst 2 (n+1) (fun j=>ϱ (H p j))),.lst 2 (n+1) (fun j=>ϱ (H p j)),ι p,.pat 2 (ϱ (H p p)),ϱ (H p p),ι (-1),.bool false,.bool false] kr ?_ ?_
    .refine⟨?_,?_,?_,?_,?_,?_,?_,?_,?_,?_,?_,?_,?_,?_,?_,trivial⟩
     .intro O1 g f K o;have N:O1 11=ϖ E 0:=(g 11 dc).trans (by simp only[go_sem])
      unfold oU;simp only[go_sem,aa,N,Y,dL];exact o
     .intro O1 g f K o;have x82:O1 82=ϱ (H p j):=f 0 82 kr rfl
      unfold oU;simp -dsimp only[go_sem,aa,x82];refine r0.call ?_;exact o
     .intro O1 g f K o;have x83:O1 83=ι (H p j).sign:=f 1 83 kr rfl
      unfold oU;simp only[go_sem,x83,hs1];exact o
     .intro O1 g f K o;have x84:O1 84=.bool false:=f 2 84 kr rfl
      unfold oU;simp only[go_sem,x84];exact o
     .intro O1 g f K o;have N:O1 11=ϖ E 0:=(g 11 dc).trans (by simp only[go_sem])
      have d:O1 85=.bool false:=f 3 85 kr rfl
      unfold oU;simp only[go_sem,aa,N,d,Y,dL];exact o
     .intro O1 g f K o;have x0:O1 0=.lst 1 n (fun i=>.lst 2 (n+1) (fun j=>ϱ (H i j))):=(g 0 dc).trans (by simp only[go_sem,r])
      have d:O1 85=.bool false:=f 3 85 kr rfl
      unfold oU;simp only[go_sem,x0,d];exact o
     .intro O1 g f K o;have x9:O1 9=ι p:=(g 9 dc).trans (by simp only[go_sem,t])
      have d:O1 85=.bool false:=f 3 85 kr rfl
      unfold oU;simp only[go_sem,x9,d];exact o
     .intro O1 g f K o;have d:O1 85=.bool false:=f 3 85 kr rfl
      have x87:O1 87=.lst 1 n (fun i=>.lst 2 (n+1) (fun j=>ϱ (H i j))):=f 5 87 kr rfl
      have x88:O1 88=ι p:=f 6 88 kr rfl
      unfold oU;simp only[go_sem,d,x87,x88,b];exact o
     .intro O1 g f K o;have d:O1 85=.bool false:=f 3 85 kr rfl
      have x89:O1 89=.pat 1 (.lst 2 (n+1) (fun j=>ϱ (H p j))):=f 7 89 kr rfl
      unfold oU;simp only[go_sem,d,x89];exact o
     .intro O1 g f K o;have x8:O1 8=ι p:=(g 8 dc).trans (by simp only[go_sem,w])
      have d:O1 85=.bool false:=f 3 85 kr rfl
      unfold oU;simp only[go_sem,x8,d];exact o
     .intro O1 g f K o;have d:O1 85=.bool false:=f 3 85 kr rfl
      have x90:O1 90=.lst 2 (n+1) (fun j=>ϱ (H p j)):=f 8 90 kr rfl
      have x91:O1 91=ι p:=f 9 91 kr rfl
      unfold oU;simp only[go_sem,d,x90,x91,(om:p<n+1)]
      exact o
     .intro O1 g f K o;have d:O1 85=.bool false:=f 3 85 kr rfl
      have x92:O1 92=.pat 2 (ϱ (H p p)):=f 10 92 kr rfl
      unfold oU;simp only[go_sem,d,x92];exact o
     .intro O1 g f K o;have d:O1 85=.bool false:=f 3 85 kr rfl
      have x86:O1 86=ϱ (H p j):=f 4 86 kr rfl
      have x93:O1 93=ϱ (H p p):=f 11 93 kr rfl
      unfold oU;simp -dsimp only[go_sem,aa,d,x86,x93];refine r1.call ?_;exact o
     .intro O1 g f K o;have d:O1 85=.bool false:=f 3 85 kr rfl
      have x94:O1 94=ι (-1):=f 12 94 kr rfl
      unfold oU;simp only[go_sem,d,x94,show decide ((0:Int)<=-1)=false by rfl]
      exact o
     .intro O1 g f K o;have d:O1 85=.bool false:=f 3 85 kr rfl
      have x95:O1 95=.bool false:=f 13 95 kr rfl
      unfold oU;simp only[go_sem,d,x95];exact o
    .intro O1 g f;have x96:O1 96=.bool false:=f 14 96 rfl;have y0:O1 0=.lst 1 n (fun i=>.lst 2 (n+1) (fun j=>ϱ (H i j))):=(g 0 dc).trans (by simp only[go_sem,r])
     have y4:O1 4=ι n:=(g 4 dc).trans (by simp only[go_sem,z])
     have y7:O1 7=x:=(g 7 dc).trans (by simp only[go_sem,u])
     have y8:O1 8=ι p:=(g 8 dc).trans (by simp only[go_sem,w])
     have y9:O1 9=ι p:=(g 9 dc).trans (by simp only[go_sem,t])
     have y20:O1 20=ι ((n+1:Nat):Int):=(g 20 dc).trans (by simp only[go_sem,l])
     have y21:O1 21=ι p:=(g 21 dc).trans (by simp only[go_sem,m])
     have y76:O1 76=.lst 2 p (fun j=>ϱ (H p j)):=(g 76 dc).trans (by simp only[go_sem,A])
     have y77:O1 77=ι p:=(g 77 dc).trans (by simp only[go_sem,B])
     have y78:O1 78=ι j:=(g 78 dc).trans (by simp only[go_sem,C])
     simp only[go_sem,x96,y0,y4,y7,y8,y9,y20,y21,y76,y77,y78,aF (om:j<1000000),bO]
     exact⟨⟨j+1,om,rfl,X⟩,om⟩
   .obtain rfl:j=p:=om
    simp only[go_sem,A,B,C,M];rw[G];simp -dsimp only[*,go_sem];refine ax.intro fun b100 Z=>?_;have hxb:=D.fresh Z;have hX2:=D.upd (by rfl) hxb ⟨3,1,1,fun a=>[ι j].getD a .any⟩
    try simp -dsimp only[*,go_sem]
    refine cN.app3 (v:=ι j) hX2 om (by simp[dY]) (aQ ⟨_,_,_,rfl,bW,rfl,fun h=>hxb _ h rfl⟩) ?_
    intro c S6 hX' _ _;simp only[*,go_sem,aF (om:j<1000000),bO]
    refine⟨⟨j+1,om,rfl,?_⟩,om⟩
    rw[(om:min (j+1) n=j+1)]
    exact hX'.congr fun a _=>by
     by_cases e:a=j
     .rw[aj e,e]
     .rw[ah e]
  .obtain rfl:p=n:=om
   obtain rfl:c=p:=om
   simp only[go_sem,r,z,u,w,t,l,m,b];rw[G];rw[MR,aj rfl,zJ,MW,MW,RG];refine Pm fun K' hK'=>?_;simp only[go_sem,z,t];rw[hK',zJ,Hu,show ev _ (.tmp 42)=AV.bool true by simp only[go_sem,cb],cd_t]
   simp only[*,go_sem,aF (om:c<1000000),bO]
   refine⟨⟨c+1,om,rfl,?_⟩,om⟩
   rw[(om:min (c+1) c=min c c)]
   exact D
 obtain rfl:c=n+1:=om
 simp only[*,go_sem];rcases D.2 with⟨h,_⟩|⟨c0,_,rfl,hL⟩
 .omega
 rw[(om:min (n+1) n=n)]at hL ⊢
 exact VR.tup2 (VR.sl hL om (fun a f=>by rw[aM];exact VR.mf rfl)) (VR.mf rfl)

def te(a b:Int)(k:Nat)(c:nb a k)(d:nb b k)(l:k<=10000000)(m:b≠0):PF 247 [ϱ a,ϱ b] (ϱ ((a+a+b)/(b+b))):=by
 refine iy func247 ntmps247 results247 ?_;simp -dsimp only[go_sem];refine ax.intro fun n o=>?_
 try simp -dsimp only[go_sem]
 refine ax.intro fun p h=>?_;have n3_2:=(af h).1
 try simp -dsimp only[go_sem]
 refine ax.intro fun q g=>?_;have n4_3:=(af g).1;have n4_2:=(af (af g).2).1;simp -dsimp only[go_sem];refine iz 15 [[11,12],[12],[]] kr ?_
 simp -dsimp only[go_sem,aa,ai n3_2,ai n4_2,ai n4_3];have i:nb (a+a+b) (k+2):=(c.add c).add (d.mono om);have j:nb (b+b) (k+2):=(d.add d).mono om;refine⟨_,(l6 c c om).pure',_,(l6 (c.add c) (d.mono (k:=k) om) om).pure',_,(l6 d d om).pure',_,(ft i j om om).pure',?_⟩;simp -dsimp only[go_sem];refine ax.intro fun r f=>?_;have n5_4:=(af f).1;have n5_3:=(af (af f).2).1;have n5_2:=(af (af (af f).2).2).1
 try simp -dsimp only[go_sem]
 refine ax.intro fun s e=>?_;have n6_5:=(af e).1;have n6_4:=(af (af e).2).1;have n6_3:=(af (af (af e).2).2).1;have n6_2:=(af (af (af (af e).2).2).2).1;simp only[go_sem,nn n6_5,ai n5_4,ai n6_4,aL];exact VR.mf rfl
def Fz(a b c d v:Int)(k:Nat)(i:nb a k)(j:nb b k)(l:nb c k)(m:nb d k)(p:nb v k)(t:k<=10000000)(q:v≠0):PF 246 [ϱ a,ϱ b,ϱ c,ϱ d,ϱ v] (ϱ ((a*d-b*c)/v)):=by
 refine iy func246 ntmps246 results246 ?_;simp -dsimp only[go_sem];refine ax.intro fun u w=>?_
 try simp -dsimp only[go_sem]
 refine ax.intro fun x r=>?_;have n3_2:=(af r).1
 try simp -dsimp only[go_sem]
 refine ax.intro fun y o=>?_;have n4_3:=(af o).1;have n4_2:=(af (af o).2).1
 try simp -dsimp only[go_sem]
 refine ax.intro fun z n=>?_;have n5_4:=(af n).1;have n5_3:=(af (af n).2).1;have n5_2:=(af (af (af n).2).2).1
 try simp -dsimp only[go_sem]
 refine ax.intro fun A h=>?_;have n6_5:=(af h).1;have n6_4:=(af (af h).2).1;have n6_3:=(af (af (af h).2).2).1;have n6_2:=(af (af (af (af h).2).2).2).1
 try simp -dsimp only[go_sem]
 refine ax.intro fun B g=>?_;have n7_6:=(af g).1;have n7_5:=(af (af g).2).1;have n7_4:=(af (af (af g).2).2).1;have n7_3:=(af (af (af (af g).2).2).2).1;have n7_2:=(af (af (af (af (af g).2).2).2).2).1;simp -dsimp only[go_sem];refine iz 15 [[11,12],[12],[]] kr ?_
 simp -dsimp only[go_sem,aa,ai n3_2,ai n4_2,ai n4_3,ai n5_2,ai n5_3,ai n5_4,ai n6_2,ai n6_3,ai n6_4,ai n6_5,ai n7_2,ai n7_3,ai n7_4,ai n7_5,ai n7_6];have s:nb (a*d-b*c) (k+k+1):=(i.mul m).sub (j.mul l);refine⟨_,(gL i m om).pure',_,(gL j l om).pure',_,(mG (i.mul m) (j.mul l) om).pure',_,(ft s (p.mono om) om q).pure',?_⟩;simp -dsimp only[go_sem];refine ax.intro fun C f=>?_;have n8_7:=(af f).1;have n8_6:=(af (af f).2).1;have n8_5:=(af (af (af f).2).2).1;have n8_4:=(af (af (af (af f).2).2).2).1;have n8_3:=(af (af (af (af (af f).2).2).2).2).1;have n8_2:=(af (af (af (af (af (af f).2).2).2).2).2).1
 try simp -dsimp only[go_sem]
 refine ax.intro fun D e=>?_;have n9_8:=(af e).1;have n9_7:=(af (af e).2).1;have n9_6:=(af (af (af e).2).2).1;have n9_5:=(af (af (af (af e).2).2).2).1;have n9_4:=(af (af (af (af (af e).2).2).2).2).1;have n9_3:=(af (af (af (af (af (af e).2).2).2).2).2).1;have n9_2:=(af (af (af (af (af (af (af e).2).2).2).2).2).2).1;simp only[go_sem,nn n9_8,ai n8_7,ai n9_7,aL];exact VR.mf rfl
def Ao:dQ 195=ae:=by unfold dQ;simp
def lZ(f g x y:Int)(k:Nat)(b:nb f k)(c:nb g k)(d:nb x k)(e:nb y k)(j:k<=10000000):PF 249 [.agg [ϱ f,ϱ g],ϱ x,ϱ y] (ϱ (f*x+g*y)):=by
 refine iy func249 ntmps249 results249 ?_;simp -dsimp only[go_sem,aU,bF,ca,cA];refine ax.intro fun l m=>?_
 try simp -dsimp only[go_sem]
 refine ax.intro fun n i=>?_;have n4_3:=(af i).1
 try simp -dsimp only[go_sem]
 refine ax.intro fun o h=>?_;have n5_4:=(af h).1;have n5_3:=(af (af h).2).1
 try simp -dsimp only[go_sem]
 refine ax.intro fun p a=>?_;have n6_5:=(af a).1;have n6_4:=(af (af a).2).1;have n6_3:=(af (af (af a).2).2).1;simp -dsimp only[go_sem];refine aN 9 kr ?_
 simp only[go_sem,aa,ai n4_3,ai n5_3,ai n5_4,ai n6_3,ai n6_4,ai n6_5,Ao,jr,Int.toNat_one,aL,bL,bJ]
 repeat refine an ?_
 refine⟨_,(gL b d om).pure',om,_,(gL c e om).pure',_,(l6 (b.mul d) (c.mul e) om).pure',?_⟩
 simp only[go_sem];exact VR.mf rfl
def RY(n:Nat)(A:az)(i j k:Nat)(b:i<n)(c:j<n)(a:nb (A i j) k)(d:k<=1000000):PF 244 [ι i,ι j,.pat 1 (aP n n A)] (ϱ (A i j)):=by
 refine iy func244 ntmps244 results244 ?_;simp -dsimp only[go_sem];refine ax.intro fun bc fc=>?_
 try simp -dsimp only[*,go_sem,aP,bn]
 refine(sd a om).call ?_;simp only[go_sem,aa];exact VR.mf rfl
def RX(n:Nat)(A:az)(v:Int)(i j k:Nat)(e:i+1<n)(f:j+1<n)(l:n<=16)(d:∀a b,a<n->b<n->nb (A a b) k)(g:nb v k)(m:k<=1000000)(h:v≠0):PF 245 [ι i,ι j,.pat 1 (aP n n A),.pat 2 (ϱ v)] (ϱ ((A 0 0*A (i+1) (j+1)-A (i+1) 0*A 0 (j+1))/v)):=by
 refine iy func245 ntmps245 results245 ?_;have c:0<n:=om
 have o:=aF (om:i<1000000)
 have p:=aF (om:j<1000000)
 simp -dsimp only[go_sem];refine ax.intro fun bc fc=>?_
 try simp -dsimp only[go_sem,aP,bn]
 refine aN 30 kr ?_
 simp only[*,go_sem,aa]
 repeat refine an ?_
 refine⟨_,(Fz (A 0 0) (A (i+1) 0) (A 0 (j+1)) (A (i+1) (j+1)) v k (d _ _ c c) (d _ _ e c) (d _ _ c f) (d _ _ e f) g om h).pure',?_⟩;simp only[go_sem];exact VR.mf rfl
def OI{m:Nat}(a:i<n)(b:j<m):i*m+j<n*m:=by
 have:=aq m (show i+1<=n from a);rw[cj]at this;omega
def uF{m:Nat}(a:j<m):(i*m+j)/m=i/\(i*m+j)%m=j:=by
 rw[aA];exact⟨by rw[jH om,ee a];rfl,by rw[kL,dT a]⟩
def Gw{x y m N:Nat}{K:AV->Prop}(a:y=x+m)(d:1<=m)(c:y<=N)(h:K (ϕ b x m)):lh 59 (ϕ b 0 N) (some (ι (x:Int))) (some (ι (y:Int))) (some (ι (y:Int))) K:=by
 subst a;refine⟨rfl,x,x+m,rfl,rfl,⟨om,om,rfl⟩,om,c,?_⟩
 show K (if x=0∨x<x+m then ϕ b (0+x) (x+m-x)else AV.lst 2 0 fun _=>AV.any)
 rw[aj om,aM,Nat.add_sub_cancel_left];exact h
structure kU(S:St)(b e n m:Nat)(A:az):Prop where
 outer:aY S b 59 1 n (fun a=>ϕ e (a*m) m)
 inner:∃g,S e=some ⟨50,2,n*m,g⟩/\∀a c,a<n->c<m->g (a*m+c)=ϱ (A a c)
def kU.row{e m:Nat}(h:kU S b e n m A){a:Nat}(c:a<n):a*m+m<=n*m:=by
 have:=aq m (show a+1<=n from c)
 rwa [cj]at this
def kU.vr{e m:Nat}(h:kU S b e n m A):VR S (ϑ b 0 n) (aP n m A):=by
 obtain⟨g,f,i⟩:=h.inner;exact VR.sl h.outer om fun a d=>by
  rw[aM];exact VR.sl (aY.of f) (h.row d) fun c j=>by rw[i a c d j];exact VR.mf rfl
def kU.ext{e m:Nat}(h:kU S b e n m A)(a:dh S S'):kU S' b e n m A:=by
 obtain⟨g,c,d⟩:=h.inner;exact⟨a.has h.outer,g,a _ _ c,d⟩
def kU.via{e m:Nat}(h:kU S b e n m A)(a:∀X,S b=some X->S' b=some X)(c:∀X,S e=some X->S' e=some X):kU S' b e n m A:=by
 obtain⟨g,d,f⟩:=h.inner;obtain⟨g',i,j⟩:=h.outer;exact⟨⟨g',a _ i,j⟩,g,c _ d,f⟩
def FMF(f:Nat)(args:List AV)(n m:Nat)(A:az):Prop:=∀S args',eM S args' args->cI f args' S (fun r S'=>∃b e,r=ϑ b 0 n/\kU S' b e n m A/\dh S S'/\S b=ae/\S e=ae)
def kU.only{e m:Nat}(h:kU S b e n m A)(l:∀g,S e=some ⟨50,2,n*m,g⟩->∀j,j<n*m->uQ (g j)=true):kU (eN S b (fun _=>e) 1) b e n m A/\Gl (eN S b (fun _=>e) 1):=by
 obtain⟨g,d,o⟩:=h.inner;obtain⟨g',f,i⟩:=h.outer;have p:eN S b (fun _=>e) 1 b=S b:=by unfold eN;rw[aj rfl]
 have q:eN S b (fun _=>e) 1 e=S e:=by
  unfold eN;split
  .rfl
  .rw[aj ⟨0,om,rfl⟩]
 refine⟨⟨⟨g',by rw[p];exact f,i⟩,g,by rw[q];exact d,o⟩,fun c X a j k=>?_⟩
 unfold eN at a;split at a
 .rename_i ec;subst ec;rw[a]at f;cases f;show uQ (g' j)=true;rw[i j k];rfl
 .split at a
  .rename_i ec;obtain⟨_,_,rfl⟩:=ec;rw[a]at d;cases d;exact l g a j k
  .cases a
def FMF.of{m:Nat}(h:cI f args St.none (fun r S'=>∃b e,r=ϑ b 0 n/\kU S' b e n m A/\∀g,S' e=some ⟨50,2,n*m,g⟩->∀j,j<n*m->uQ (g j)=true)):FMF f args n m A:=fun S args' k=>by
 have c:cI f args St.none (fun r S'=>∃b e,r=ϑ b 0 n/\kU S' b e n m A/\Gl S'):=h.less fun r S' ⟨b,e,er,a,i⟩=>⟨eN S' b (fun _=>e) 1,iT S' b _ 1,b,e,er,(a.only i).1,(a.only i).2⟩;refine(c.frame k ?_).mono ?_
 .rintro r S1 ⟨b,e,rfl,_,l⟩;exact⟨rfl,l⟩
 .rintro r S' ⟨S1,⟨b,e,rfl,a,_⟩,d,rfl⟩;obtain⟨g,c,o⟩:=a.inner;exact⟨b,e,rfl,⟨(a.outer.join d).1,g,(qy d c).1,o⟩,od S S1,(a.outer.join d).2,(qy d c).2⟩
def zD(n m F:Nat)(l:List AV)(A:az)(hF:11<=F/\F<252)(L:1<=n)(T:n<=16)(U:1<=m)(V:m<=16)(W:∀i j:Nat,i<n->j<m->PF F ([ι i,ι j]++l) (ϱ (A i j))):FMF 243 [ι n,ι m,.fn F l] n m A:=by
 have X:n*m<=256:=aX T V;have wnm:ω ((n:Int)*m)=((n*m:Nat):Int):=by rw[aV];exact i64_in (by rw[<-aV];omega) (by rw[<-aV];omega)
 refine FMF.of (jg func243 ntmps243 results243 ?_);simp -dsimp only[go_sem,wnm]
 repeat refine an ?_
 refine ax.intro fun be fe=>?_
 repeat refine an ?_
 refine ax.intro fun bc fc=>?_;have nc_e:=(af fc).1;simp only[go_sem,cR];have p:bc≠be:=nc_e;refine aC (fun O S'=>∃(i:Nat) (v w:Nat->AV),i<=n/\O 1=ι m/\O 2=.fn F l/\O 7=ϕ be 0 (n*m)/\O 8=ϑ bc 0 n/\O 18=ι n/\O 19=ι i/\S' bc=some ⟨59,1,n,v⟩/\(∀a,a<i->v a=ϕ be (a*m) m)/\S' be=some ⟨50,2,n*m,w⟩/\(∀a b,a<i->b<m->w (a*m+b)=ϱ (A a b))) (fun O S=>n-bO (O 19)) ?_ ?_
 .simp only[go_sem,ai nc_e];exact⟨0,om,rfl,_,rfl,fun a q=>om,_,rfl,fun a b q=>om⟩
 .rintro O S' ⟨i,v,w,hi,x,y,z,B,d,f,M,E,G,C⟩;by_cases k:i<n
  .have H:i*m+m<=n*m:=by
    have:=aq m (show i+1<=n from k)
    rwa [cj]at this
   have w1:ω ((i:Int)*m)=((i*m:Nat):Int):=by rw[aV];exact i64_in (by rw[<-aV];omega) (by rw[<-aV];omega)
   have Y:=aF (om:i<1000000)
   have Z:ω (((i+1:Nat):Int)*m)=((i*m+m:Nat):Int):=by
    rw[<-aV,cj];exact i64_in om om
   simp only[*,go_sem,aa,dw];refine Gw rfl U H ?_;simp only[go_sem,dL];refine aC (fun O S'=>∃(j:Nat) (I D:Nat->AV),j<=m/\O 1=ι m/\O 2=.fn F l/\O 7=ϕ be 0 (n*m)/\O 8=ϑ bc 0 n/\O 9=ι i/\O 18=ι n/\O 19=ι i/\O 42=ι m/\O 43=ι j/\S' bc=some ⟨59,1,n,I⟩/\(∀a,a<i+1->I a=ϕ be (a*m) m)/\S' be=some ⟨50,2,n*m,D⟩/\(∀a b,a<i->b<m->D (a*m+b)=ϱ (A a b))/\(∀b,b<j->D (i*m+b)=ϱ (A i b))) (fun O S=>m-bO (O 43)) ?_ ?_
   .simp only[*,go_sem,ai p];refine⟨0,om,rfl,_,rfl,fun a q=>?_,_,rfl,C,fun b o=>om⟩
    by_cases e:a=i
    .subst e;simp[aL]
    .simp only[aL,e,aI];exact E a om
   .clear x y z B d f M E G C Y Z;rintro O S' ⟨j,I,D,hj,x,y,z,B,e9,d,f,r,s,J,K,N,P,Q⟩;by_cases c:j<m
    .have x6:=K i om;simp -dsimp only[*,go_sem];refine aN 10 kr ?_
     simp only[go_sem,aa,x,y,z,B,e9,d,f,r,s,k,c,J,x6,N,aF (om:j<1000000),bO]
     repeat refine an ?_
     refine⟨_,(W i j k c).pure',OI k c,trivial,⟨j+1,om,rfl,_,(aE p).trans J,K,_,rfl,fun a b q o=>?_,fun b o=>?_⟩,om⟩
     .have:a*m+b≠i*m+j:=fun h=>by
       have L:=(uF (i:=a) o).1;rw[h,(uF (i:=i) c).1]at L;omega
      simp only[aL,this,aI];exact P a b q o
     .by_cases e:b=j
      .subst e;simp[aL]
      .have:i*m+b≠i*m+j:=om
       simp only[aL,this,aI];exact Q b om
    .simp only[go_sem,x,y,z,B,d,f,r,s,c,aF (om:i<1000000),bO]
     refine⟨⟨i+1,om,rfl,_,J,K,_,N,fun a b q o=>?_⟩,om⟩
     by_cases e:a=i
     .subst e;exact Q b om
     .exact P a b om o
  .obtain rfl:i=n:=om
   simp only[*,go_sem,aa];refine⟨bc,rfl,be,⟨⟨v,M,E⟩,w,G,C⟩,fun g R t ht=>?_⟩;rw[G]at R;cases R;have u:0<m:=om
   have e:=C (t/m) (t%m) (by rw[ou u];exact ht) (di _ u)
   rw[aA (t/m) m,cW]at e;rw[e];rfl

def DE{p:Nat->Prop}(h:∃n,p n):∃n,p n/\∀m,p m->n<=m:=by
 obtain⟨n,c⟩:=h
 induction n using Nat.strongRecOn with
 | _ n ih =>
  by_cases b:∃m,m<n/\p m
  .obtain⟨m,a,d⟩:=b;exact ih m a d
  .exact⟨n,c,fun m h=>by
    rcases aB m n with a|a
    .exact absurd ⟨m,a,h⟩ b
    .exact a⟩
def FM(I:G->Tm->St->Prop)(m:G->Nat)(l:∃g,I g O S)
  (n:∀Q',Q'=Q->∀g O S,I g O S->∀R:Tm->St->Prop,(∀g' O' S',I g' O' S'->m g'<m g->R O' S')->Aw c (AX.seq R Q') O S):Aw (.loop c) Q O S:=by
 classical
 have d:∀O S,(∃g,I g O S)->∃k,(∃g,I g O S/\m g=k)/\∀j,(∃g,I g O S/\m g=j)->k<=j:=fun O S ⟨g,e⟩=>DE ⟨m g,g,e,rfl⟩;refine aC (fun O S=>∃g,I g O S) (fun O S=>if h:∃g,I g O S then fP (d O S h)else 0) l ?_
 intro O S i;obtain⟨⟨g,e,o⟩,_⟩:=dj (d O S i);refine n Q rfl g O S e _ ?_;intro g' O' S' b f;have a:∃g,I g O' S':=⟨g',b⟩;refine⟨a,?_⟩;rw[Td i,Td a,<-o];exact dG ((dj (d O' S' a)).2 _ ⟨g',b,rfl⟩) f
def Ml{x y:Int}{K:AV->Prop}:By 195 (.agg [ϱ x,ϱ y]) (ι 0) K=K (ϱ x):=by
 refine propext ⟨fun h=>?_,fun h=>a6 ⟨rfl,_,_,rfl,trivial,trivial,a6 rfl,by rwa [aj rfl]⟩⟩
 rcases h with⟨_,p,q,e,_,_,_,a⟩|⟨h,_⟩
 .cases e;rwa [aj rfl]at a
 .exact absurd h sm
def Mk{x y:Int}{K:AV->Prop}:By 195 (.agg [ϱ x,ϱ y]) (ι 1) K=K (ϱ y):=by
 refine propext ⟨fun h=>?_,fun h=>a6 ⟨rfl,_,_,rfl,trivial,trivial,aQ rfl,by rwa [ah dc]⟩⟩
 rcases h with⟨_,p,q,e,_,_,_,a⟩|⟨h,_⟩
 .cases e;rwa [ah dc]at a
 .exact absurd h sm
def iZ(P:Tm->St->Prop)(a:P O S)(h:∀O T,P O T->It ops O T K):It ops O S K:=h O S a
def Pa{b:Int}:decide (kC a b<0)=decide (a<b):=by
 unfold kC;split
 .simp[*]
 .split<;>simp[*]
def sC(S:St)(b:Nat)(p:PL):Prop:=aY S b 197 2 7 (fun j=>[ϱ p.a,ϱ p.b,ϱ p.c,ϱ p.f0,ϱ p.f1,ϱ p.s0,ϱ p.s1].getD j .any)
def sC.ext(h:sC S b p)(a:dh S S'):sC S' b p:=a.has h
def zp(S:St)(b:Nat)(p:PL)(k:Nat)(f:sC S b p)(i:nb p.a k)(j:nb p.c k)(d:3<=k)(x:k<=1000000):cI 208 [ϖ b 0] S (fun r S'=>r=.bool (decide (4*p.c<3*p.a))/\dh S S'):=by
 refine jg func208 ntmps208 results208 ?_;simp -dsimp only[go_sem,aa];refine(fS (a:=4) om om).call ?_;simp -dsimp only[go_sem,aa];refine(fS (a:=3) om om).call ?_;simp -dsimp only[go_sem];refine ax.intro fun n h=>?_
 try simp -dsimp only[go_sem]
 refine ax.intro fun o e=>?_;have n4_3:=(af e).1;obtain⟨g,u,v⟩:=id f;have q:b≠n:=aY.fresh f h;have s:b≠o:=aY.fresh f (af e).2;have t:g 0=ϱ p.a:=v 0 om;have w:g 2=ϱ p.c:=v 2 om;simp -dsimp only[go_sem,aa,nn n4_3];refine aN 15 kr ?_
 simp only[go_sem,aa,ai n4_3,q,s,u,t,w,dL];have l:nb (4:Int) k:=(show nb (4:Int) 3 by unfold nb;decide).mono d
 have m:nb (3:Int) k:=(show nb (3:Int) 3 by unfold nb;decide).mono d
 refine⟨_,(gL l j om).pure',_,(gL m i om).pure',_,(rB (l.mul j) (m.mul i) om).pure',?_⟩;simp only[go_sem,Pa];exact((((dh.refl S).upd h _).upd (af e).2 _).upd h _).upd (af e).2 _
def JT{m:Nat}(h:¬4*p.c<3*p.a):sB m p=p:=by
 cases m with
 | zero=>rfl
 | succ m=>unfold sB;rw[ah h]
def sC.get(h:sC S b p):∃g,S b=some ⟨197,2,7,g⟩/\g 0=ϱ p.a/\g 1=ϱ p.b/\g 2=ϱ p.c/\g 3=ϱ p.f0/\g 4=ϱ p.f1/\g 5=ϱ p.s0/\g 6=ϱ p.s1:=by
 obtain⟨g,u,v⟩:=h;exact⟨g,u,v 0 om,v 1 om,v 2 om,v 3 om,v 4 om,v 5 om,v 6 om⟩
def sC.of{g:Nat->AV}(u:S b=some ⟨197,2,7,g⟩)(d:g 0=ϱ p.a)(e:g 1=ϱ p.b)(f:g 2=ϱ p.c)(h:g 3=ϱ p.f0)(j:g 4=ϱ p.f1)(k:g 5=ϱ p.s0)(l:g 6=ϱ p.s1):sC S b p:=⟨g,u,fun i m=>by
 match i,m with
 | 0,_=>exact d
 | 1,_=>exact e
 | 2,_=>exact f
 | 3,_=>exact h
 | 4,_=>exact j
 | 5,_=>exact k
 | 6,_=>exact l⟩
def sC.here{g:Nat->AV}(d:g 0=ϱ p.a)(e:g 1=ϱ p.b)(f:g 2=ϱ p.c)(h:g 3=ϱ p.f0)(i:g 4=ϱ p.f1)(j:g 5=ϱ p.s0)(k:g 6=ϱ p.s1):sC (S.upd b ⟨197,2,7,g⟩) b p:=sC.of bW d e f h i j k
def sC.fresh{c:Nat}(h:sC S b p)(a:S c=ae):b≠c:=aY.fresh h a
def F4(b:Nat)(S S':St):Prop:=∀d X,d≠b->S d=some X->S' d=some X
def F4.refl(b:Nat)(S:St):F4 b S S:=fun _ _ _ h=>h
def F4.ext(h:F4 b S S')(k:dh S' S''):F4 b S S'':=fun d X a c=>k d X (h d X a c)
def F4.upd(h:F4 b S S')(X:eA):F4 b S (S'.upd b X):=fun d Y a c=>by rw[aE a];exact h d Y a c
def GJ{e:Nat}(hA:Pd A n)(hk:0<k)(hn:k<n)(h0:det k A<=2^e)(h1:cl A (k-1) 1 1<=2^e)(hd:det (k-1) A*det (k+1) A+1<=2^e)(he:e<=100000)(S:St)(bp W:Nat)(P:PL)(J:AT A n k e P)(K:sC S bp P)(X:P.a<=W) :
  cI 248 [ϖ bp 0] S (fun _ S'=>sC S' bp (sB W P)/\F4 bp S S'):=by
 refine fC func248 rfl 100 ntmps248 kr sm ?_
 rw[jY,results248];simp -dsimp only[go_sem];refine FM (G:=Nat×PL) (fun x O S'=>O 0=ϖ bp 0/\AT A n k e x.2/\x.2.a<=x.1/\sB x.1 x.2=sB W P/\sC S' bp x.2/\F4 bp S S') (fun x=>x.1) ?_ ?_
 .exact⟨(W,P),by simp only[go_sem],J,X,rfl,K,F4.refl _ _⟩
 clear J K X;rintro Q' hQ' ⟨m,p⟩ O S' ⟨z,J,X,hp,K,hF⟩ R hR;dsimp only at J X hp K hR;obtain⟨z1,z2,z3,z4,z5,z6,z7⟩:=J.bits hA hk hn h0 h1 (om:e<e+3)
 simp -dsimp only[go_sem,aa,z];refine(zp S' bp p (e+3) K z1 z3 om om).mono ?_;rintro _ S1 ⟨rfl,hE⟩;have d:=K.ext hE;have f:=hF.ext hE;by_cases Y:4*p.c<3*p.a
 .obtain⟨g,u,l,o,r,s,t,v,w⟩:=d.get;simp -dsimp only[*,go_sem];refine fm 12 kr ?_
  simp -dsimp only[go_sem,aa,z,u,l,r];refine k9 (fun T=>sC T bp ⟨p.c,p.b,p.a,p.f0,p.f1,p.s0,p.s1⟩/\F4 bp S T) ⟨sC.here (by simp[aL]) (by simp[aL,o]) (by simp[aL]) (by simp[aL,s]) (by simp[aL,t]) (by simp[aL,v]) (by simp[aL,w]),(f.upd _).upd _⟩ ?_
  clear d f u l o r s t v w hE K hF;clear g S1 S';rintro S1 ⟨d,f⟩;obtain⟨g,u,l,o,r,s,t,v,w⟩:=d.get;dsimp only at l o r s t v w;refine fm 12 kr ?_
  simp -dsimp only[go_sem,aa,z,u,s,t,v,w,ed,aU,bF,ca,cA];refine k9 (fun T=>sC T bp ⟨p.c,p.b,p.a,p.s0,p.s1,p.f0,p.f1⟩/\F4 bp S T) ⟨sC.here (by simp[fy,l]) (by simp[fy,o]) (by simp[fy,r]) (by simp[fy]) (by simp[fy]) (by simp[fy]) (by simp[fy]),(f.upd _).upd _⟩ ?_
  clear d f u l o r s t v w;clear g S1;rintro S1 ⟨d,f⟩;obtain⟨g,u,l,o,r,s,t,v,w⟩:=d.get;dsimp only at l o r s t v w;refine aN 10 kr ?_
  simp -dsimp only[go_sem,aa,z,u,l,o];obtain⟨hc0,ha0⟩:0<p.a/\0<p.c:=J.pos hk hn;refine⟨_,(te p.b p.c (e+3) z2 z3 om om).pure',?_⟩;have y:nb (gn p.b p.c) (e+6):=by
   unfold gn;refine nb.of_le (DH om) ?_;exact(((show nb p.b (e+3)from z2).add z2).add (show nb p.c (e+4)from nb.mono (k:=e+3) z3 om)).mono om
  rw[show(p.b+p.b+p.c)/(p.c+p.c)=gn p.b p.c from rfl];generalize hq:gn p.b p.c=q at *;refine ax.intro fun C Q=>?_;have U:=d.fresh Q;simp -dsimp only[go_sem];refine iZ (fun O T=>O 0=ϖ bp 0/\O 2=ϖ C 0/\sC T bp ⟨p.c,p.b,p.a,p.s0,p.s1,p.f0,p.f1⟩/\cS T C 50 2 (ϱ q)/\F4 bp S T) ⟨by simp only[go_sem,z],by simp only[go_sem],d.ext (((dh.refl S1).upd Q _).upd Q _),cS.set,f.ext (((dh.refl S1).upd Q _).upd Q _)⟩ ?_
  clear d f u l o r s t v w z Q;clear g S1 O;rintro O S1 ⟨z,L,d,j,f⟩;obtain⟨g,u,l,o,r,s,t,v,w⟩:=d.get;dsimp only at l o r s t v w;obtain⟨M,D,F⟩:=j;refine aN 12 kr ?_
  simp -dsimp only[go_sem,aa,z,L,u,l,o,D,F];have m1:=y.mul (show nb p.c (e+6)from nb.mono (k:=e+3) z3 om);have m2:=(show nb p.b (e+6+(e+6))from nb.mono (k:=e+3) z2 om).sub m1;refine⟨_,(gL y (show nb p.c (e+6)from nb.mono (k:=e+3) z3 om) om).pure',_,(mG (show nb p.b (e+6+(e+6))from nb.mono (k:=e+3) z2 om) m1 om).pure',?_⟩;refine ax.intro fun Z H=>?_;have n3:=d.fresh H;have n23:C≠Z:=cS.fresh ⟨M,D,F⟩ H;simp -dsimp only[go_sem];generalize hb':p.b-q*p.c=b' at *;refine iZ (fun O T=>O 0=ϖ bp 0/\O 2=ϖ C 0/\O 3=ϖ Z 0/\sC T bp ⟨p.c,p.b,p.a,p.s0,p.s1,p.f0,p.f1⟩/\cS T C 50 2 (ϱ q)/\cS T Z 50 2 (ϱ b')/\F4 bp S T) ⟨by simp only[go_sem,z],by simp only[go_sem,L],by simp only[go_sem],d.ext (((dh.refl S1).upd H _).upd H _),cS.ext ⟨M,D,F⟩ (((dh.refl S1).upd H _).upd H _),cS.set,f.ext (((dh.refl S1).upd H _).upd H _)⟩ ?_
  clear d f u l o r s t v w z L H D F;clear g S1 O M;rintro O S1 ⟨z,L,e3,d,j,V,f⟩;obtain⟨g,u,l,o,r,s,t,v,w⟩:=d.get;dsimp only at l o r s t v w;obtain⟨M,D,F⟩:=id j;obtain⟨g3,u3,y3⟩:=id V;have U:C≠bp:=fun h=>by rw[h,u]at D;cases D
  have n3:Z≠bp:=fun h=>by rw[h,u]at u3;cases u3
  refine aN 16 kr ?_
  simp only[go_sem,aa,z,L,e3,u,o,r,D,F,u3,y3];have k1:nb (p.b+b') (2*e+14):=((show nb p.b (2*e+13)from nb.mono (k:=e+3) z2 om).add (m2.mono om));have k2:=(y.mono (om:e+6<=2*e+14)).mul k1
  refine⟨_,(l6 (show nb p.b (2*e+13)from nb.mono (k:=e+3) z2 om) (m2.mono om) om).pure',_,(gL (y.mono (om:e+6<=2*e+14)) k1 om).pure',_,(mG (show nb p.a (2*e+14+(2*e+14))from nb.mono (k:=e+3) z1 om) k2 om).pure',?_⟩
  simp only[*,go_sem,ed,aL];generalize hc':p.a-q*(p.b+b')=c' at *;refine cf (fun O T=>∃i:Nat,i<=2/\O 0=ϖ bp 0/\O 2=ϖ C 0/\O 79=.agg [ϱ p.s0,ϱ p.s1]/\O 80=ι i/\sC T bp ⟨p.c,b',c',p.s0,p.s1,if 0<i then p.f0-q*p.s0 else p.f0,if 1<i then p.f1-q*p.s1 else p.f1⟩/\cS T C 50 2 (ϱ q)/\F4 bp S T) (fun O T=>2-bO (O 80)) ?_ ?_
  .simp only[*,go_sem];exact⟨0,om,rfl,sC.here (by simp[aL,l]) (by simp[aL]) (by simp[aL]) (by simp[aL,s]) (by simp[aL,t]) (by simp[aL,v]) (by simp[aL,w]),(j.upd U _).upd U _,(f.upd _).upd _⟩
  clear d j V f u l o r s t v w z L e3 D F u3 y3 k1 k2;clear g S1 O M g3;rintro Q2 hQ2 O T ⟨i,hi,z,L,N,B,d,j,f⟩;have b2p:C≠bp:=U;by_cases hi2:i<2
  .rcases (om:i=0∨i=1)with rfl|rfl
   .obtain⟨g,u,l,o,r,s,t,v,w⟩:=d.get;simp only[cw,xg,aI]at l o r s t v w;obtain⟨M,D,F⟩:=id j;rw[show((0:Nat):Int)=0 from rfl]at B;simp -dsimp only[go_sem,N,B,Ml,show decide ((0:Int)<2)=true from rfl];refine ax.intro fun b5 I=>?_;have n5:=d.fresh I;have E:C≠b5:=j.fresh I;simp -dsimp only[go_sem,aa,B];refine aN 15 kr ?_
    simp only[*,go_sem,aa,Ao,jr,aL]
    repeat refine an ?_
    have j1:=y.mul (show nb p.s0 (e+6)from nb.mono (k:=e+3) z6 om);refine⟨_,(gL y (show nb p.s0 (e+6)from nb.mono (k:=e+3) z6 om) om).pure',_,(mG (show nb p.f0 (e+6+(e+6))from nb.mono (k:=e+3) z4 om) j1 om).pure',?_⟩;simp only[go_sem,jr,Int.toNat_one,show ω ((0:Int)+1)=1 from by decide,dD,bO]
    repeat refine an ?_
    exact⟨⟨1,om,rfl,sC.here (by simp[aL,l]) (by simp[aL,o]) (by simp[aL,r]) (by simp[aL,s]) (by simp[aL,t]) (by simp[aL]) (by simp[aL,w]),((j.upd E _).upd E _).upd U _,(f.ext (((dh.refl T).upd I _).upd I _)).upd _⟩,om⟩
   .obtain⟨g,u,l,o,r,s,t,v,w⟩:=d.get;simp only[cw,aI,Nat.zero_lt_one,aH]at l o r s t v w;obtain⟨M,D,F⟩:=id j;rw[show((1:Nat):Int)=1 from rfl]at B;simp -dsimp only[go_sem,N,B,Mk,show decide ((1:Int)<2)=true from rfl];refine ax.intro fun b5 I=>?_;have n5:=d.fresh I;have E:C≠b5:=j.fresh I;simp -dsimp only[go_sem,aa,B];refine aN 15 kr ?_
    simp only[*,go_sem,aa,Ao,Int.toNat_one,aL]
    repeat refine an ?_
    have j1:=y.mul (show nb p.s1 (e+6)from nb.mono (k:=e+3) z7 om);refine⟨_,(gL y (show nb p.s1 (e+6)from nb.mono (k:=e+3) z7 om) om).pure',_,(mG (show nb p.f1 (e+6+(e+6))from nb.mono (k:=e+3) z5 om) j1 om).pure',?_⟩;simp only[go_sem,Int.toNat_one,show ω ((1:Int)+1)=2 from by decide,bO]
    repeat refine an ?_
    exact⟨⟨2,om,rfl,sC.here (by simp[aL,l]) (by simp[aL,o]) (by simp[aL,r]) (by simp[aL,s]) (by simp[aL,t]) (by simp[aL,v]) (by simp[aL]),((j.upd E _).upd E _).upd U _,(f.ext (((dh.refl T).upd I _).upd I _)).upd _⟩,om⟩
  .obtain rfl:i=2:=om
   simp only[go_sem,N,B,show ¬((2:Nat):Int)<2 by decide]
   rw[hQ2];simp only[go_sem];obtain⟨m',rfl⟩:∃m',m=m'+1:=⟨m-1,om⟩
   have enx:(⟨p.c,b',c',p.s0,p.s1,p.f0-q*p.s0,p.f1-q*p.s1⟩:PL)=p.nx:=by
    unfold PL.nx;rw[hq,hb',hc']
   obtain⟨w1,w2⟩:=J.nx hA hk hn hd Y;refine hR (m',p.nx) _ _ ⟨by simp only[go_sem,z],w1,by show p.nx.a<=(m':Int);omega,?_,?_,f⟩ (by show m'<m'+1;omega)
   .rw[<-hp];show _=sB (m'+1) p;rw[sB,aj Y]
   .rw[<-enx];simpa using d
 .simp only[go_sem,z,Y];rw[hQ'];simp only[go_sem];rw[<-hp,JT Y];exact⟨d,f⟩

structure pP where
 bs:Nat
 bm:Nat
 bl:Nat
 bb:Nat
 gl:Nat->Nat
 gb:Nat->Nat
variable{M:pP}
structure lJ(S:St)(M:pP)(n:Nat)(m:Nat->Int)(L T:az):Prop where
 cell:aY S M.bs 160 1 4 (fun j=>[ϕ M.bm 0 (n+1),ϑ M.bl 0 n,ϑ M.bb 0 n,.mfn 206 [ϰ M.bs 0]].getD j .any)
 mino:iY S M.bm (n+1) m
 lamo:aY S M.bl 59 1 n (fun i=>ϕ (M.gl i) 0 i)
 lamr:∀i,i<n->iY S (M.gl i) i (L i)
 bas:dr S M.bb M.gb n n T
 n1:∀i,i<n->M.gl i≠M.bm
 n2:∀i,i<n->M.gb i≠M.bm
 n3:∀i j,i<n->j<n->M.gl i≠M.gb j
 n4:∀i j,i<n->j<n->M.gl i=M.gl j->i=j
def lJ.ext(h:lJ S M n m L T)(a:dh S S'):lJ S' M n m L T :=
 ⟨a.has h.cell,a.has h.mino,a.has h.lamo,fun i b=>a.has (h.lamr i b),h.bas.ext a,h.n1,h.n2,h.n3,h.n4⟩
def lJ.congr{L' T':az}(h:lJ S M n m L T)(b:∀k,k<n+1->m k=m' k)(c:∀i j,i<n->j<i->L i j=L' i j)(d:∀i j,i<n->j<n->T i j=T' i j):lJ S M n m' L' T' :=
 ⟨h.cell,h.mino.congr fun k e=>by rw[b k e],h.lamo,fun i a=>(h.lamr i a).congr fun j f=>by rw[c i j a f],h.bas.congr d,h.n1,h.n2,h.n3,h.n4⟩
def nN(M:pP)(n b:Nat):Prop:=b=M.bs∨b=M.bm∨b=M.bl∨b=M.bb∨∃i,i<n/\(b=M.gl i∨b=M.gb i)
def lJ.inn(h:lJ S M n m L T){c:Nat}(a:S c=ae):¬nN M n c:=by
 rintro (e|e|e|e|⟨i,b,e|e⟩)
 .exact aY.fresh h.cell a e.symm
 .exact aY.fresh h.mino a e.symm
 .exact aY.fresh h.lamo a e.symm
 .exact aY.fresh h.bas.outer a e.symm
 .exact aY.fresh (h.lamr i b) a e.symm
 .exact aY.fresh (h.bas.row i b) a e.symm
def nN.ne(h:¬nN M n b):M.bs≠b/\M.bm≠b/\M.bl≠b/\M.bb≠b/\(∀i,i<n->M.gl i≠b)/\∀i,i<n->M.gb i≠b :=
 ⟨fun e=>h (a6 e.symm),fun e=>h (aQ (a6 e.symm)),fun e=>h (aQ (aQ (a6 e.symm))),fun e=>h (aQ (aQ (aQ (a6 e.symm)))),
  fun i a e=>h (aQ (aQ (aQ (aQ ⟨i,a,a6 e.symm⟩)))),fun i a e=>h (aQ (aQ (aQ (aQ ⟨i,a,aQ e.symm⟩))))⟩
def lJ.upd(h:lJ S M n m L T){c:Nat}(a:¬nN M n c)(X:eA):lJ (S.upd c X) M n m L T :=
 ⟨h.cell.upd (fun e=>a (a6 e.symm)) _,h.mino.upd (fun e=>a (aQ (a6 e.symm))) _,h.lamo.upd (fun e=>a (aQ (aQ (a6 e.symm)))) _,
  fun i b=>(h.lamr i b).upd (fun e=>a (aQ (aQ (aQ (aQ ⟨i,b,a6 e.symm⟩))))) _,
  h.bas.upd (fun e=>a (aQ (aQ (aQ (a6 e.symm))))) (fun i b e=>a (aQ (aQ (aQ (aQ ⟨i,b,aQ e.symm⟩))))) _,h.n1,h.n2,h.n3,h.n4⟩
def lJ.setT(h:lJ S M n m L T){k c:Nat}{z:Int}{g:Nat->AV}(a:k<n)(u:S (M.gb k)=some ⟨50,2,n,g⟩):lJ (S.upd (M.gb k) ⟨50,2,n,aL g c (ϱ z)⟩) M n m L (dU T k c z) :=
 ⟨h.cell.upd (aY.ne h.cell (aY.of u) dc) _,h.mino.upd (ai (h.n2 k a)) _,h.lamo.upd (aY.ne h.lamo (aY.of u) dc) _,fun i b=>(h.lamr i b).upd (h.n3 i k b a) _,h.bas.set a u,h.n1,h.n2,h.n3,h.n4⟩
def lJ.setL(h:lJ S M n m L T){k c:Nat}{z:Int}{g:Nat->AV}(b:k<n)(u:S (M.gl k)=some ⟨50,2,k,g⟩):lJ (S.upd (M.gl k) ⟨50,2,k,aL g c (ϱ z)⟩) M n m (dU L k c z) T:=by
 refine⟨h.cell.upd (aY.ne h.cell (aY.of u) dc) _,h.mino.upd (ai (h.n1 k b)) _,h.lamo.upd (aY.ne h.lamo (aY.of u) dc) _,fun i a=>?_,h.bas.upd (aY.ne h.bas.outer (aY.of u) dc) (fun i a=>ai (h.n3 k i b a)) _,h.n1,h.n2,h.n3,h.n4⟩
 by_cases e:i=k
 .subst e;obtain⟨p,d,f⟩:=h.lamr i a;rw[u]at d;cases d;refine aY.here fun j l=>?_;have:=f j l;simp only[aL,dU]
  grind
 .refine((h.lamr i a).upd (fun o=>e (h.n4 i k a b o)) _).congr fun j _=>?_;simp[dU,e]
def lJ.setM(h:lJ S M n m L T){k:Nat}{z:Int}{g:Nat->AV}(u:S M.bm=some ⟨50,2,n+1,g⟩):lJ (S.upd M.bm ⟨50,2,n+1,aL g k (ϱ z)⟩) M n (fun j=>if j=k then z else m j) L T:=by
 refine⟨h.cell.upd (aY.ne h.cell (aY.of u) dc) _,?_,h.lamo.upd (aY.ne h.lamo (aY.of u) dc) _,fun i a=>(h.lamr i a).upd (h.n1 i a) _,h.bas.upd (aY.ne h.bas.outer (aY.of u) dc) (fun i a=>h.n2 i a) _,h.n1,h.n2,h.n3,h.n4⟩
 obtain⟨e,b,c⟩:=h.mino;rw[u]at b;cases b;refine aY.here fun j d=>?_;have:=c j d;simp only[aL]
 grind
def nO(M:pP)(n:Nat)(S S':St):Prop:=∀d X,¬nN M n d->S d=some X->S' d=some X
def nO.refl(M:pP)(n:Nat)(S:St):nO M n S S:=fun _ _ _ h=>h
def nO.trans(h:nO M n S S')(k:nO M n S' S''):nO M n S S'':=fun d X a b=>k d X a (h d X a b)
def nO.ext(h:nO M n S S')(k:dh S' S''):nO M n S S'':=fun d X a b=>k d X (h d X a b)
def nO.upd(h:nO M n S S'){c:Nat}(b:nN M n c)(X:eA):nO M n S (S'.upd c X):=fun d Y a f=>by
 rw[aE (fun e=>a (by rw[e];exact b))];exact h d Y a f
def nN.gb(a:i<n):nN M n (M.gb i):=aQ (aQ (aQ (aQ ⟨i,a,aQ rfl⟩)))
def nN.gl(a:i<n):nN M n (M.gl i):=aQ (aQ (aQ (aQ ⟨i,a,a6 rfl⟩)))
def nN.bm:nN M n M.bm:=aQ (a6 rfl)
def lJ.frm(h:lJ S M n m L T){c:Nat}(a:¬nN M n c)(j:∀d X,d≠c->S d=some X->S' d=some X):lJ S' M n m L T:=by
 have kp:∀{b ty es k:Nat} {g:Nat->AV},aY S b ty es k g->b≠c->aY S' b ty es k g:=fun⟨g',l,o⟩ p=>⟨g',j _ _ p l,o⟩;exact⟨kp h.cell (fun e=>a (a6 e.symm)),kp h.mino (fun e=>a (aQ (a6 e.symm))),kp h.lamo (fun e=>a (aQ (aQ (a6 e.symm)))),
  fun i f=>kp (h.lamr i f) (fun e=>a (e▸nN.gl f)),
  ⟨kp h.bas.outer (fun e=>a (aQ (aQ (aQ (a6 e.symm))))),fun i f=>kp (h.bas.row i f) (fun e=>a (e▸nN.gb f)),h.bas.inj⟩,h.n1,h.n2,h.n3,h.n4⟩
def lJ.c0(h:lJ S M n m L T):∃g,S M.bs=some ⟨160,1,4,g⟩/\g 0=ϕ M.bm 0 (n+1)/\g 1=ϑ M.bl 0 n/\g 2=ϑ M.bb 0 n/\g 3=.mfn 206 [ϰ M.bs 0]:=by
 obtain⟨g,u,v⟩:=h.cell;exact⟨g,u,v 0 om,v 1 om,v 2 om,v 3 om⟩
def lJ.m0(h:lJ S M n m L T):∃g,S M.bm=some ⟨50,2,n+1,g⟩/\∀k,k<n+1->g k=ϱ (m k):=h.mino
def lJ.l0(h:lJ S M n m L T):∃g,S M.bl=some ⟨59,1,n,g⟩/\∀i,i<n->g i=ϕ (M.gl i) 0 i:=h.lamo
def lJ.l1(h:lJ S M n m L T){i:Nat}(a:i<n):∃g,S (M.gl i)=some ⟨50,2,i,g⟩/\∀j,j<i->g j=ϱ (L i j):=h.lamr i a
def lJ.b0(h:lJ S M n m L T):∃g,S M.bb=some ⟨59,1,n,g⟩/\∀i,i<n->g i=ϕ (M.gb i) 0 n:=h.bas.outer
def lJ.b1(h:lJ S M n m L T){i:Nat}(a:i<n):∃g,S (M.gb i)=some ⟨50,2,n,g⟩/\∀j,j<n->g j=ϱ (T i j):=h.bas.row i a

def Gx{g:Nat->AV}{K:AV->Prop}(a:j<=n)(h:K (.lst 2 j g)):lh 59 (.lst 2 n g) (some (ι 0)) (some (ι (j:Int))) ae K :=
 ⟨rfl,0,j,rfl,rfl,trivial,om,a,by simpa using h⟩
def Oe(n m M:Nat)(A:Nat->Nat->Int)(k:Nat)(h1:n<=100)(T:m<=M)(U:M<=100)(h3:1<=m)(V:∀i j,i<n->j<m->nb (A i j) k)(hk:k<=1000000):MF 186 [aP n M A,ι 0,ι m] n m A:=by
 refine MF.of ?_;refine jg func186 ntmps186 results186 ?_;have W:((0:Int)==(m:Int))=false:=by simp;omega
 simp -dsimp only[go_sem,aP,bn,W]
 repeat refine an ?_
 refine ax.intro fun l f7=>?_;simp only[go_sem];refine aC (fun O S=>∃(i:Nat) (g:Nat->Nat),i<=n/\O 1=ι 0/\O 2=ι m/\O 7=ϑ l 0 n/\O 18=aP n M A/\O 19=ι n/\O 20=ι i /\
  aY S l 59 1 n (fun a=>if a<i then ϕ (g a) 0 m else .nil)/\(∀a,a<i->iY S (g a) m (A a))/\∀a c,a<i->c<i->g a=g c->a=c) (fun O S=>n-bO (O 20)) ?_ ?_
 .simp only[go_sem,aP,bn];exact⟨0,om,rfl,fun _=>0,aY.here fun _ _=>by simp,fun a b=>om,fun a c b=>om⟩
 .rintro O S ⟨i,g,hi,Y,Z,N,D,E,F,u,s,hI⟩;by_cases o:i<n
  .simp only[*,go_sem,aP,bn,dw,gF];refine Gx T ?_;simp only[go_sem];refine aC (fun O S'=>∃(j:Nat) (x:AV),j<=m/\O 1=ι 0/\O 2=ι m/\O 7=ϑ l 0 n/\O 8=ι i/\O 18=aP n M A/\O 19=ι n/\O 20=ι i/\O 28=bn m (A i)/\O 29=ι m/\O 30=ι j /\
    aY S' l 59 1 n (fun a=>if a<i then ϕ (g a) 0 m else if a=i then x else .nil)/\(∀a,a<i->iY S' (g a) m (A a)/\¬dV x (g a))/\cN 50 2 St.none S' x j (fun c=>ϱ (A i c))) (fun O S=>m-bO (O 30)) ?_ ?_
   .simp only[*,go_sem,aP,bn];exact⟨0,om,rfl,.nil,u.congr fun a _=>by grind,fun a b=>⟨s a b,by rintro⟨_,_,_,e⟩;cases e⟩,cN.nil (fun k X h=>by cases h) _⟩
   .rintro O S' ⟨j,x,hj,Y,Z,N,e8,D,E,F,e28,e29,e30,u,s,t⟩;by_cases G:j<m
    .simp -dsimp only[*,go_sem,aP,bn];refine ax.intro fun p q=>?_;obtain⟨g1,v,P⟩:=u;have H:g1 i=x:=by rw[P i o];simp
     have r:l≠p:=aY.fresh (aY.of v) q;simp -dsimp only[go_sem];refine fm 9 kr ?_
     simp -dsimp only[go_sem,N,e8,o,r,v,H,aL]
     repeat refine an ?_
     refine⟨_,(sd (V i j o G) om).pure',?_⟩;simp -dsimp only[go_sem];have w:∀d,dV x d->d≠p:=t.fresh q;have I:=t.other v om;refine cN.app50 ((t.upd (by rfl) w _).upd (by rfl) w _) om (show dY 2 (ϱ (A i j))from trivial) (a6 ⟨_,rfl,rfl⟩) ?_
     intro c S2 y z B;have J:=z l _ (by rw[aE r,aE r];exact v) I
     simp only[*,go_sem,aP,bn,aF (om:j<1000000),bO]
     repeat refine an ?_
     refine⟨⟨j+1,om,rfl,ϕ c 0 (j+1),aY.here fun a b=>?_,fun a b=>?_,?_⟩,om⟩
     .have:=P a b;grind [aL]
     .obtain⟨C,Q⟩:=s a b;have f:g a≠p:=aY.fresh C q;have K:g a≠l:=aY.ne C (aY.of v) om;refine⟨(C.via fun X t=>z _ _ (by rw[aE f,aE f];exact t) Q).upd K _,fun R=>?_⟩
      rw[dP]at R;rw[<-R]at B;rcases B with h|h
      .exact Q h
      .rw[aE f,aE f]at h;exact aY.fresh C h rfl
     .refine(y.upd (by rfl) (fun d L e=>?_) _).congr (fun a b=>by grind)
      rw[e]at L;exact y.other J om L
    .simp only[*,go_sem,aP,bn,aF (om:i<1000000),bO]
     obtain rfl:j=m:=om
     rcases t.2 with⟨h0,_⟩|⟨c,_,rfl,hC⟩
     .omega
     refine⟨⟨i+1,om,rfl,fun a=>if a=i then c else g a,u.congr fun a b=>by grind,fun a b=>?_,fun a d b L e=>?_⟩,om⟩
     .by_cases e:a=i
      .subst e;simp only[aH];exact hC
      .simp only[e,aI];exact(s a om).1
     .have k1:=fun a b=>(s a b).2;simp only[dP]at k1
      grind
  .simp only[*,go_sem,aP,bn];obtain rfl:i=n:=om
   exact⟨l,rfl,g,u.congr fun a b=>by simp[b],s,hI⟩
structure vJ(n k:Nat)(A:az)(B:az):Prop where
 ex:∃R H U,KN n A R H U/\CM n k (fun i j=>ln (n+1) (fun k r=>A r k) U j i)/\B=fun i j=>ln (n+1) (fun k r=>A r k) U j i
def BP(n k:Nat)(M:az)(d:mN n (fB n M))(e:k<=1000000)(f:∀R H U,KN n (fB n M) R H U->(∀a r,a<n+1->r<n+n+1->nb (ln (n+1) (fun k r=>fB n M r k) U a r) k)/\CM n k (fun i j=>ln (n+1) (fun k r=>fB n M r k) U j i)) :
  cI 123 [aP n (n+1) M] St.none (fun r S'=>∃b g B,r=.tup [ϑ b 0 n,.bool true]/\vJ n k (fB n M) B/\dr S' b g n n B):=by
 have l:=d.h1;have s:=d.hn;refine jg func123 ntmps123 results123 ?_;simp -dsimp only[go_sem,aa];refine(Em n k M d e fun R H U h=>(f R H U h).1).mono ?_;rintro _ S1 ⟨R,H,U,m,V,rfl⟩;have c:=(f R H U m).2;have o:vJ n k (fB n M) (fun i j=>ln (n+1) (fun k r=>fB n M r k) U j i):=⟨R,H,U,m,c,rfl⟩;generalize (fun i j=>ln (n+1) (fun k r=>fB n M r k) U j i)=B at c o;simp -dsimp only[go_sem,aa];refine(JU n k B l om e c).call ?_;simp -dsimp only[go_sem,aa];refine(Oe n n (n+1) B k om om om l (fun i j p t=>c.nb i j p om) e _ _ (cD _ _)).mono ?_;rintro _ S2 ⟨b,g,rfl,q⟩;simp only[go_sem];exact⟨b,rfl,g,B,o,q.1⟩

def rh{m:Int}(a:1<=m)(i j:Nat):0<=lO A m i j/\lO A m i j<m:=⟨aW _ om,aS _ om⟩
def KT(n K l:Nat)(A B:az)(m:Int)(o:1<=n)(d:n<=16)(e:1<=K)(b:K<=16)(p:1<=l)(f:l<=16)(q:2<=m)(a:m<=2147483647):FY 181 [av n K A,av K l B,ι m] n l (kP (lO A m) (lO B m) K m):=by
 refine FY.of ?_;refine jg func181 ntmps181 results181 ?_;have r:0<n:=om
 have g:(0:Int)<(n:Int):=om
 simp -dsimp only[go_sem,aa];refine(tL n K A o d e b).call ?_;simp -dsimp only[go_sem,aa];refine(tL K l B e b p f).call ?_;simp -dsimp only[go_sem,aa,av,aK,g,show((K:Int) != K)=false by simp]
 refine(k8 m q a).call ?_;simp -dsimp only[go_sem,aa];refine(mr n K A m d b om a _ _ (cD _ _)).mono ?_;rintro _ S1 ⟨u,v,rfl,h⟩;simp -dsimp only[go_sem,aa];refine(mr K l B m b f om a _ _ (cD _ _)).mono ?_;rintro _ S2 ⟨w,x,rfl,c⟩;simp -dsimp only[go_sem,aa];refine(GH n K l (lO A m) (lO B m) m d e b f om a (fun i j _ _=>rh om i j) (fun i j _ _=>rh om i j) _ _ (eM.imat (h.1.ext c.2.1) (eM.imat c.1 (cD _ _)))).mono ?_;rintro _ S3 ⟨s,t,rfl,k⟩;simp only[go_sem];exact⟨s,rfl,t,k.1⟩
def NZ(n:Nat)(v:Nat->Int)(c:1<=n):PF 183 [aK n v] (.bool (v 0 != 0)):=by
 refine iy func183 ntmps183 results183 ?_;have b:0<n:=om
 have a:(0:Int)<(n:Int):=om
 simp only[go_sem,aK,a];exact VR.mf rfl
def Ei(n m piv:Nat)(A:az)(f:n<=16)(a:1<=m)(g:piv<n)(b:A piv 0≠0)(c:∀i,i<piv->A i 0=0):PF 182 [av n m A,.fn 183 []] (ι piv):=by
 refine iy func182 ntmps182 results182 ?_;simp only[go_sem,av,aK];refine aC (fun O S=>∃i:Nat,i<=piv/\O 0=av n m A/\O 1=.fn 183 []/\O 7=ι n/\O 8=ι i) (fun O S=>n-bO (O 8)) ?_ ?_
 .simp only[go_sem,av,aK];exact⟨0,om,rfl⟩
 .rintro O S ⟨i,h,j,k,l,o⟩;have d:i<n:=om
  simp -dsimp only[*,go_sem,aa,av,aK];refine(NZ m (A i) a).call ?_;by_cases e:i=piv
  .subst e;simp only[*,go_sem,av,aK,show(A i 0 != 0)=true by simp[b]]
   exact VR.mf rfl
  .simp only[*,go_sem,av,aK,show(A i 0 != 0)=false by simp[c i om],aF (om:i<1000000),bO]
   exact⟨⟨i+1,om,rfl⟩,om⟩

def Bm(x m:Int)(v:1<=m)(e:m<=2147483647)(w:0<=x)(U:x<m):PF 229 [ι x,ι m] (.tup [ι ((bz m.toNat x.toNat).2.2%m),.bool ((bz m.toNat x.toNat).1==1)]):=by
 obtain⟨M,rfl⟩:∃M:Nat,m=M:=⟨m.toNat,om⟩
 obtain⟨X,rfl⟩:∃X:Nat,x=X:=⟨x.toNat,om⟩
 rw[cR,cR];refine iy func229 ntmps229 results229 ?_;have f:¬((M:Int)=0):=om
 simp only[go_sem];refine aC (fun O S=>∃(x y:Nat) (a na b nb:Int),K8 M X x y a b na nb/\O 1=ι M/\O 6=ι x/\O 7=ι y/\O 8=ι b/\O 9=ι nb) (fun O S=>bO (O 7)) ?_ ?_
 .simp only[go_sem];exact⟨M,X,1,0,0,1,K8.init (a6 om),rfl,rfl,rfl,rfl⟩
 .rintro O S ⟨x,y,a,na,b,nb,c,n,o,p,r,s⟩;have z:=c.lx;have A:=c.ly;have B:=c.lb;have t:=c.lnb;by_cases g:y=0
  .subst g;have C:=c.fin;obtain⟨D,E⟩:=ED (x:=b) v e;simp only[go_sem,n,o,p,r,s,f,D,E,show(((0:Nat):Int) != 0)=false from rfl];rw[C];exact VR.mf rfl
  .have u:=c.step g;have h:(((y:Nat):Int) != 0)=true:=by simp;omega
   have d:¬(((y:Nat):Int)=0):=om
   have F:pV (x:Int) (y:Int)=((x/y:Nat):Int):=(TE x y).symm;have i:=di x (gI g);have G:=gG x y;have j:=cW x y;have H:=u.lnb;have k:=(qx (q:=((x/y:Nat):Int)) (cO _) c.gb).1;rw[fH]at k;have I:(((x/y:Nat):Int)*nb).natAbs=x/y*nb.natAbs:=by rw[cP,fH]
   have J:ω ((x/y:Nat):Int)=((x/y:Nat):Int):=by
    have K:(0:Int)<=((x/y:Nat):Int):=cO _;have L:((x/y:Nat):Int)<=x:=kG.2 G;generalize ((x/y:Nat):Int)=zz at *;exact i64_in om om
   have l:((x/y:Nat):Int)*(y:Int)=((x:Nat):Int)-((x%y:Nat):Int):=by
    have N:((y*(x/y)+x%y:Nat):Int)=(x:Int):=by rw[j]
    rw[ef,aV,bU]at N;omega
   have P:ω (((x/y:Nat):Int)*(y:Int))=((x:Nat):Int)-((x%y:Nat):Int):=by rw[l];exact i64_in om om
   have Q:ω (((x:Nat):Int)-(((x:Nat):Int)-((x%y:Nat):Int)))=((x%y:Nat):Int):=by
    rw[show((x:Nat):Int)-(((x:Nat):Int)-((x%y:Nat):Int))=((x%y:Nat):Int) by omega];exact i64_in om om
   have R:ω (((x/y:Nat):Int)*nb)=((x/y:Nat):Int)*nb:=i64_in om om;have T:ω (b-((x/y:Nat):Int)*nb)=b-((x/y:Nat):Int)*nb:=i64_in om om;simp only[go_sem,aa,n,o,p,r,s,h,d,F,J,P,Q,R,T,bO];exact⟨⟨y,x%y,na,_,nb,_,u,rfl,rfl,rfl,rfl⟩,i⟩
def F8(b:Nat)(S S':St):Prop:=∀c,c≠b->S' c=S c
def F8.refl(b:Nat)(S:St):F8 b S S:=fun _ _=>rfl
def F8.upd(h:F8 b S S')(X:eA):F8 b S (S'.upd b X):=fun c a=>by simp only[St.upd,a,aI];exact h c a
def F8.has{c:Nat}(h:F8 b S S')(a:c≠b){t es n:Nat}{g:Nat->AV}(d:aY S c t es n g):aY S' c t es n g:=by
 obtain⟨g',e,f⟩:=d;exact⟨g',(h c a).trans e,f⟩
def F8.var{c:Nat}(h:F8 b S S')(a:c≠b){t es:Nat}{z:AV}(d:cS S c t es z):cS S' c t es z:=by
 obtain⟨g',e,f⟩:=d;exact⟨g',(h c a).trans e,f⟩
def GB(n b:Nat)(v:Nat->Int)(f m:Int)(S:St)(F:n<=16)(G:1<=m)(t:m<=1000000)(H:0<=f/\f<m)(u:∀j,j<n->0<=v j/\v j<m)(w:aY S b 2 1 n (fun j=>ι (v j))) :
  cI 230 [ϑ b 0 n,ι f,ι m] S (fun _ S'=>F8 b S S'/\aY S' b 2 1 n (fun j=>ι (v j*f%m))):=by
 refine fC func230 rfl 24 ntmps230 kr sm ?_
 rw[jY,results230];have g:¬(m=0):=om
 simp only[go_sem];refine aC (fun O S'=>∃i:Nat,i<=n/\O 0=ϑ b 0 n/\O 1=ι f/\O 2=ι m/\O 8=ϑ b 0 n/\O 9=ι n/\O 10=ι i/\F8 b S S'/\aY S' b 2 1 n (fun j=>ι (if j<i then v j*f%m else v j))) (fun O S=>n-bO (O 10)) ?_ ?_
 .simp only[go_sem];exact⟨0,om,rfl,F8.refl b S,w.congr fun j _=>by simp⟩
 .rintro O S' ⟨i,I,k,l,c,o,p,d,q,r⟩;by_cases a:i<n
  .obtain⟨x,y,s⟩:=id r;have z:x i=ι (v i):=(s i a).trans sm
   have J:=u i a;have C:=oG (A:=1000000) (B:=1000000) (om:0<=v i/\v i<=1000000) (om:0<=f/\f<=1000000)
   have D:ω (v i*f)=v i*f:=i64_in om om;have E:et (v i*f) m=v i*f%m:=aJ C.1;simp only[go_sem,aa,k,l,c,o,p,d,a,y,z,g,D,E,aF (om:i<1000000),bO]
   refine⟨⟨i+1,om,rfl,q.upd _,aY.here fun j h=>?_⟩,om⟩
   by_cases e:j=i
   .subst e;simp[aL]
   .simp only[aL,e,aI];rw[s j h];by_cases c:j<i
    .simp[c,(om:j<i+1)]
    .simp[c,(om:¬j<i+1)]
  .obtain rfl:i=n:=om
   simp only[go_sem,k,l,c,o,p,d,a];exact⟨q,r.congr fun j h=>by simp[h]⟩
def An(n bt br bm:Nat)(x y:Nat->Int)(q m:Int)(S:St)(Q:n<=16)(R:1<=m)(v:m<=1000000)(T:0<=q/\q<m)(w:∀j,j<n->0<=x j/\x j<m)(z:∀j,j<n->0<=y j/\y j<m)(h:br≠bt)(b:bm≠bt)
  (k:aY S bt 2 1 n (fun j=>ι (x j))) (l:aY S br 2 1 n (fun j=>ι (y j))) (o:cS S bm 2 1 (ι m)) :
  cI 257 [ϑ bt 0 n,ϑ br 0 n,ι q,ϰ bm 0] S (fun _ S'=>F8 bt S S'/\aY S' bt 2 1 n (fun j=>ι ((x j-q*y j)%m))):=by
 refine fC func257 rfl 32 ntmps257 kr sm ?_
 rw[jY,results257];have p:¬(m=0):=om
 simp only[go_sem];refine aC (fun O S'=>∃i:Nat,i<=n/\O 0=ϑ bt 0 n/\O 2=ι q/\O 3=ϰ bm 0/\O 9=ϑ br 0 n/\O 10=ι n/\O 11=ι i/\F8 bt S S'/\aY S' bt 2 1 n (fun j=>ι (if j<i then(x j-q*y j)%m else x j))) (fun O S=>n-bO (O 11)) ?_ ?_
 .simp only[go_sem];exact⟨0,om,rfl,F8.refl bt S,k.congr fun j _=>by simp⟩
 .rintro O S' ⟨i,U,C,f,D,s,c,d,g,t⟩;by_cases a:i<n
  .obtain⟨E,F,u⟩:=id t;obtain⟨G,V,H⟩:=id (g.has h l);obtain⟨W,I,J⟩:=id (g.var b o);have K:E i=ι (x i):=(u i a).trans sm
   have X:G i=ι (y i):=H i a;have Y:=w i a;have Z:=z i a;have k2:=oG (A:=1000000) (B:=1000000) (om:0<=m-q/\m-q<=1000000) (om:0<=y i/\y i<=1000000)
   have L:ω (m-q)=m-q:=i64_in om om;have M:ω ((m-q)*y i)=(m-q)*y i:=i64_in om om;have N:ω (x i+(m-q)*y i)=x i+(m-q)*y i:=i64_in om om;have P:et (x i+(m-q)*y i) m=(x i-q*y i)%m:=by
    rw[aJ om,show x i+(m-q)*y i=x i-q*y i+m*y i by grind,qW]
   simp -dsimp only[*,go_sem,aa];refine aN 15 kr ?_
   simp only[go_sem,aa,C,f,D,s,c,d,a,F,K,I,J,p,L,M,N,P,aF (om:i<1000000),bO]
   refine⟨⟨i+1,om,rfl,g.upd _,aY.here fun j r=>?_⟩,om⟩
   by_cases e:j=i
   .subst e;simp[aL]
   .simp only[aL,e,aI];rw[u j r];by_cases f:j<i
    .simp[f,(om:j<i+1)]
    .simp[f,(om:¬j<i+1)]
  .obtain rfl:i=n:=om
   simp only[go_sem,s,c,d,a];exact⟨g,t.congr fun j r=>by simp[r]⟩
def mL(m:Int)(S:St):cI 228 [ι m] S (fun r S'=>∃b,S b=ae/\r=.fn 257 [ϰ b 0]/\dh S S'/\cS S' b 2 1 (ι m)):=by
 refine jg func228 ntmps228 results228 ?_;simp only[go_sem];refine ax.intro fun bc fc=>?_
 try simp -dsimp only[go_sem]
 exact⟨bc,fc,rfl,(dh.refl S).upd fc _,cS.new rfl⟩

def My{R:az}{m q:Int}{c:Nat}(k:c<n)(l:i<n)(d:c≠i):m∣det n (fun a j=>setRow R c (fun j=>(R c j-q*R i j)%m) (dq i c a) j)↔m∣det n R:=by
 have o:=yH (setRow R c (fun j=>(R c j-q*R i j)%m)) l k (ai d);have p:=kB R k l d 1 (-q);have e:=uM (h:=m) n (setRow R c (fun j=>(R c j-q*R i j)%m)) (setRow R c (fun j=>1*R c j+(-q)*R i j)) (fun a b=>by
  simp only[setRow];split
  .rw[show(R c b-q*R i b)%m-(1*R c b+-q*R i b)=(R c b-q*R i b)%m-(R c b-q*R i b) by grind]
   have:=oA (R c b-q*R i b) m;exact⟨-((R c b-q*R i b)/m),by grind⟩
  .simp)
 rw[p,cU]at e;rw[o,Int.dvd_neg];constructor
 .intro f;have g:=ze f e
  rwa [show ∀x y:Int,x-(x-y)=y from fun x y=>om]at g
 .intro f;have g:=gO e f
  rwa [show ∀x y:Int,x-y+y=x from fun x y=>om]at g
theorem Co{m:Int}(f:2<=m)(d:∀a b:Int,m∣a*b->m∣a∨m∣b):∀(n:Nat) (A:az),(∀i j,j<i->i<n->A i j=0)->(m∣det n A↔∃i,i<n/\m∣A i i)
 | 0,A,_=>⟨fun h=>by
   have:=jX (by simp[det]) h
   simp[det]at this;omega,fun⟨i,h,_⟩=>om⟩
 | n+1,A,h=>by
  have ih:=Co f d n (fun i j=>A (i+1) (j+1)) (fun a b e c=>h _ _ om om);rw[sh A (fun a k=>h (a+1) 0 om om)];constructor
  .intro e;rcases d _ _ e with c|c
   .exact⟨0,om,c⟩
   .obtain⟨i,l,g⟩:=ih.1 c;exact⟨i+1,om,g⟩
  .rintro⟨i,e,c⟩
   cases i with
   | zero=>exact eJ c
   | succ i=>exact co (ih.2 ⟨i,om,c⟩)
def eg.swap{m:Nat}{A:Nat->Nat->Int}(h:eg S b g n m A){p k:Nat}(v:p<n)(w:k<n)(r:p≠k){f:Nat->AV}(l:S b=some ⟨29,1,n,f⟩) :
  eg (S.upd b ⟨29,1,n,aL (aL f p (ϑ (g k) 0 m)) k (ϑ (g p) 0 m)⟩) b (fun i=>g (dq k p i)) n m (fun i j=>A (dq k p i) j):=by
 obtain⟨g',o,s⟩:=h.outer;rw[l]at o;cases o;have c:∀i,i<n->dq k p i<n:=fun i a=>by unfold dq;split<;>(try split)<;>omega
 refine⟨aY.here fun i a=>?_,fun i a=>(h.row _ (c i a)).upd (fun e=>?_) _,fun i j a t e=>?_⟩
 .have:=s i a;simp only[aL,dq];by_cases d:i=k
  .subst d;simp
  .by_cases q:i=p
   .subst q;simp[d]
   .simp[d,q,this]
 .exact aY.ne (aY.of l) (h.row _ (c i a)) om e.symm
 .have u:=h.inj _ _ (c i a) (c j t) e;unfold dq at u
  grind
structure Pz(P:Prop)(n b bm:Nat)(m:Int)(S:St)(g:Nat->Nat)(R:az):Prop where
 mat:eg S b g n n R
 rng:∀i j,i<n->j<n->0<=R i j/\R i j<m
 ndet:m∣det n R↔P
 var:cS S bm 2 1 (ι m)
 ne:b≠bm
 gne:∀a,a<n->g a≠bm
def PQ(n c:Nat)(R:az):Prop:=∀a d,d<c->d<a->a<n->R a d=0
def cellN(S:St)(b i c:Nat):Nat:=match S b with
 | some X=>(match X.g i with
  | .sl _ b' _ _=>(match S b' with
   | some Y=>(match Y.g c with
    | .int _ z=>z.toNat
    | _=>0)
   | ae=>0)
  | _=>0)
 | ae=>0
def eg.cellN{m:Nat}(h:eg S b g n m A){i c:Nat}(a:i<n)(f:c<m):cellN S b i c=(A i c).toNat:=by
 obtain⟨p,j,k⟩:=h.outer;obtain⟨q,l,o⟩:=h.row i a;have d:=k i a;have e:=o c f;simp only at d e;simp[YtdobfmlmenaajaaGreatDoor.cellN,j,d,l,e]
def yp(P:Prop)(n b:Nat)(g:Nat->Nat)(R:az)(m:Int)(S:St)(hn:n<=16)(hm:1<=m)(hm2:m<=1000000)(hM:eg S b g n n R)(hr:∀i j,i<n->j<n->0<=R i j/\R i j<m)(hd:m∣det n R↔P) :
  cI 227 [ϑ b 0 n,ι m] S (fun r S'=>∃(s:Int) (g':Nat->Nat) (R':az),r=ι s/\(s=1∨s=-1)/\eg S' b g' n n R'/\(∀i j,i<n->j<n->0<=R' i j/\R' i j<m)/\(m∣det n R'↔P)/\PQ n n R'):=by
 refine jg func227 ntmps227 results227 ?_;simp -dsimp only[go_sem,aa];refine(mL m S).mono ?_;rintro _ S1 ⟨bm,H,rfl,hE,hV⟩;simp only[go_sem];refine aC (fun O S'=>∃c:Nat,c<=n/\O 0=ϑ b 0 n/\O 5=.fn 257 [ϰ bm 0]/\O 12=ι n/\O 13=ι c/\∃(s:Int) (g':Nat->Nat) (R':az),O 6=ι s/\(s=1∨s=-1)/\Pz P n b bm m S' g' R'/\PQ n c R') (fun O S=>n-bO (O 13)) ?_ ?_
 .simp only[go_sem];exact⟨0,om,rfl,1,rfl,a6 rfl,g,R,⟨hM.ext hE,hr,hd,hV,aY.fresh hM.outer H,fun a w=>aY.fresh (hM.row a w) H⟩,fun a d h=>om⟩
 .rintro O S' ⟨c,hc,y,z,o,p,s,g',R',C,x,k,u⟩;by_cases f:c<n
  .simp only[*,go_sem,aF (om:c<1000000)]
   refine aC (fun O S'=>∃i:Nat,i<=n/\O 0=ϑ b 0 n/\O 5=.fn 257 [ϰ bm 0]/\O 7=ι c/\O 8=ι i/\O 12=ι n/\O 13=ι c/\∃(s:Int) (g':Nat->Nat) (R':az),O 6=ι s/\(s=1∨s=-1)/\Pz P n b bm m S' g' R'/\PQ n c R'/\c<i/\∀a,c<a->a<i->R' a c=0) (fun O S=>n-bO (O 8)) ?_ ?_
   .simp only[*,go_sem];exact⟨c+1,om,rfl,s,rfl,x,g',R',k,u,om,fun a t A=>om⟩
   .clear y z C o p x k u;rintro O S' ⟨i,hi,y,z,E,F,o,p,s,g',R',C,x,k,u,I,G⟩;by_cases l:i<n
    .simp only[*,go_sem];refine aC (fun O S'=>O 0=ϑ b 0 n/\O 5=.fn 257 [ϰ bm 0]/\O 7=ι c/\O 8=ι i/\O 12=ι n/\O 13=ι c/\∃(s:Int) (g':Nat->Nat) (R':az),O 6=ι s/\(s=1∨s=-1)/\Pz P n b bm m S' g' R'/\PQ n c R'/\c<i/\∀a,c<a->a<i->R' a c=0) (fun O S=>cellN S b i c) ?_ ?_
     .simp only[go_sem,y,z,C,E,F,o,p];exact⟨s,rfl,x,g',R',k,u,I,G⟩
     .clear y z C E F o p x k u G;rintro O S' ⟨y,z,E,F,o,p,s,g',R',C,x,k,u,_,G⟩;obtain⟨V,u1,v1⟩:=id k.mat.outer;obtain⟨g2,u2,v2⟩:=id (k.mat.row i l);obtain⟨g3,u3,v3⟩:=id (k.mat.row c f);have x1:V i=ϑ (g' i) 0 n:=v1 i l;have y1:V c=ϑ (g' c) 0 n:=v1 c f;have x2:g2 c=ι (R' i c):=v2 c f;have x3:g3 c=ι (R' c c):=v3 c f;have r1:=k.rng i c l f;have W:=k.rng c c f f;by_cases X:R' i c=0
      .simp only[*,go_sem,aa,show((0:Int) != 0)=false by simp,aF (om:i<1000000),bO]
       refine⟨⟨i+1,om,rfl,s,rfl,x,g',R',k,u,om,fun a t A=>?_⟩,om⟩
       by_cases e:a=i
       .rw[e];exact X
       .exact G a t om
      .have hq0:=Int.tdiv_nonneg W.1 r1.1;have hq1:pV (R' c c) (R' i c)<=R' c c:=by
        rw[fG W.1];exact oT _ W.1
       have w1:ω (pV (R' c c) (R' i c))=pV (R' c c) (R' i c):=i64_in om om;generalize hq:pV (R' c c) (R' i c)=q at *;simp -dsimp only[go_sem,aa,y,z,C,E,F,o,p,l,f,u1,u2,x1,x2,show(R' i c != 0)=true by simp[X]]
       refine aN 24 kr ?_
       simp -dsimp only[go_sem,aa,y,z,E,F,l,f,u1,u2,u3,x1,y1,x2,x3,X,hq,w1];have J:g' i≠g' c:=fun e=>absurd (k.mat.inj i c l f e) om;refine(An n (g' c) (g' i) bm (R' c) (R' i) q m S' hn hm hm2 om (fun j K=>k.rng c j f K) (fun j K=>k.rng i j l K) J (ai (k.gne c f)) (k.mat.row c f) (k.mat.row i l) k.var).mono ?_;rintro _ S2 ⟨Y,hH⟩;have L:b≠g' c:=k.mat.outer_ne f;have M:S2 b=some ⟨29,1,n,V⟩:=(Y b L).trans u1;have hM2:eg S2 b g' n n (setRow R' c (fun j=>(R' c j-q*R' i j)%m)):=by
        refine⟨Y.has L k.mat.outer,fun a w=>?_,k.mat.inj⟩;by_cases e:a=c
        .subst e;exact hH.congr fun j _=>by simp[setRow]
        .refine(Y.has (fun D=>e (k.mat.inj a c w f D)) (k.mat.row a w)).congr fun j _=>by simp[setRow,e]
       have hM3:=hM2.swap f l om M;simp -dsimp only[go_sem];refine fm 13 kr ?_
       have ws:ω (0-s)=-s:=by rw[Ew];exact i64_in om om
       have v:c≠i:=om
       simp only[go_sem,aa,y,z,C,E,F,o,p,l,f,M,x1,y1,ws];have key:(R' c c-q*R' i c)%m=R' c c-q*R' i c/\0<=R' c c-q*R' i c/\R' c c-q*R' i c<R' i c:=by
        have t:=fG (b:=R' i c) W.1;have A:=aW (R' c c) X;have Z:=aS (R' c c) (om:0<R' i c)
        have h4:=QJ (R' c c) (R' i c);rw[hq]at t;rw[<-t,bU]at h4;exact⟨dv om om,om,om⟩
       have B:Pz P n b bm m (S2.upd b ⟨29,1,n,aL (aL V c (ϑ (g' i) 0 n)) i (ϑ (g' c) 0 n)⟩) (fun a=>g' (dq i c a)) (fun a j=>setRow R' c (fun j=>(R' c j-q*R' i j)%m) (dq i c a) j):=by
        have N:∀a,a<n->dq i c a<n:=fun a w=>by unfold dq;split<;>(try split)<;>omega
        refine⟨hM3,fun a j w K=>?_,(My f l v).trans k.ndet,(Y.var (ai (k.gne c f)) k.var).upd (ai k.ne) _,k.ne,fun a w=>k.gne _ (N a w)⟩;simp only[setRow];split
        .exact⟨aW _ om,aS _ om⟩
        .exact k.rng _ _ (N a w) K
       have ev:∀a d,(fun a j=>setRow R' c (fun j=>(R' c j-q*R' i j)%m) (dq i c a) j) a d=if a=i then(R' c d-q*R' i d)%m else if a=c then R' i d else R' a d:=fun a d=>by
        simp only[setRow,dq];by_cases Q:a=i
        .simp[Q]
        .by_cases D:a=c
         .simp[D,v,ai v]
         .simp[Q,D]
       rw[lu];refine⟨⟨-s,rfl,om,_,_,B,fun a d t A Z=>?_,I,fun a t A=>?_⟩,?_⟩
       .refine(ev a d).trans ?_;by_cases Q:a=i
        .rw[aj Q,u c d t t f,u i d t om l];simp
        .rw[ah Q];by_cases D:a=c
         .rw[aj D,u i d t om l]
         .rw[ah D];exact u a d t A Z
       .refine(ev a c).trans ?_;rw[ah om,ah om];exact G a t A
       .have T:=B.mat.cellN l f;have e9:=k.mat.cellN l f;have U:=(ev i c).trans ((aj rfl).trans key.1);simp only at T U;rw[U]at T;omega
    .simp only[*,go_sem,aF (om:c<1000000),bO]
     refine⟨⟨c+1,om,rfl,s,rfl,x,g',R',k,fun a d t A Z=>?_⟩,om⟩
     by_cases e:d=c
     .rw[e];exact G a om om
     .exact u a d om A Z
  .obtain rfl:c=n:=om
   simp only[*,go_sem];exact⟨s,rfl,x,g',R',k.mat,k.rng,k.ndet,u⟩
def F6(n:Nat)(H:az)(m:Int)(v:1<=n)(V:n<=8)(P:2<=m)(w:m<=1000000)(l:∀a b:Int,m∣a*b->m∣a∨m∣b) :
  cI 222 [av n n H,ι m] St.none (fun r S'=>∃d:Int,(d=0↔m∣det n H)/\r=.tup [ι d,ι 0]):=by
 refine jg func222 ntmps222 results222 ?_;have k:¬(m=0):=om
 simp -dsimp only[go_sem,aa];refine(xI n H v V).call ?_;simp -dsimp only[go_sem,aa];refine(k8 m P om).call ?_;simp -dsimp only[go_sem,aa];refine(mr n n H m om om om om _ _ (cD _ _)).mono ?_;rintro _ S1 ⟨b,g,rfl,W⟩;simp -dsimp only[go_sem,aa];have z:m∣det n (lO H m)↔m∣det n H:=by
  have Q:=uM (h:=m) n (lO H m) H (fun a b=>by
   have:=oA (H a b) m;exact⟨-(H a b/m),by simp only[lO];grind⟩)
  constructor
  .intro h;have C:=ze h Q
   rwa [show ∀x y:Int,x-(x-y)=y from fun x y=>om]at C
  .intro h;have C:=gO Q h
   rwa [show ∀x y:Int,x-y+y=x from fun x y=>om]at C
 refine(yp (m∣det n H) n b g (lO H m) m S1 om om w W.1 (fun i j _ _=>rh om i j) z).mono ?_;rintro _ S2 ⟨s,g',R,rfl,X,o,Y,D,Z⟩;have ws:ω (s+m)=s+m:=i64_in om om;have p:=(Co P l n R (fun a d v E=>Z a d om v E)).symm.trans D;simp only[go_sem,ws];refine aC (fun O S'=>∃i:Nat,i<=n/\O 1=ι m/\O 27=ϑ b 0 n/\O 28=ι n/\O 29=ι i/\∃d:Int,O 8=ι d/\(m∣d↔∃a,a<i/\m∣R a a)/\0<=d/\(0<i->d<m)/\eg S' b g' n n R) (fun O S=>n-bO (O 29)) ?_ ?_
 .simp only[go_sem];refine⟨0,om,rfl,s+m,rfl,⟨fun h=>?_,fun⟨a,h,_⟩=>om⟩,om,fun h=>om,o⟩
  exfalso;obtain⟨t,ht⟩:=h;have T:s=m*(t-1):=by rw[mT];omega
  have F:m∣1:=by
   rcases X with rfl|rfl
   .exact⟨_,T⟩
   .exact⟨-(t-1),by rw[mU,<-T];rfl⟩
  have:=jX om F;omega
 .rintro O S' ⟨i,hi,G,I,J,K,d,e8,f,q,L,o⟩;by_cases c:i<n
  .obtain⟨g1,u1,v1⟩:=id o.outer;obtain⟨g2,u2,v2⟩:=id (o.row i c);have x1:g1 i=ϑ (g' i) 0 n:=v1 i c;have x2:g2 i=ι (R i i):=v2 i c;have r1:=Y i i c c;have q0:et d m=d%m:=aJ q;have r2:0<=d%m/\d%m<m:=⟨aW _ k,aS _ om⟩;have r3:=oG (A:=1000000) (B:=1000000) (om:0<=d%m/\d%m<=1000000) (om:0<=R i i/\R i i<=1000000)
   have q1:ω (d%m*R i i)=d%m*R i i:=i64_in om om;have q2:et (d%m*R i i) m=d%m*R i i%m:=aJ r3.1;simp -dsimp only[*,go_sem,aa];refine aN 10 kr ?_
   simp only[go_sem,aa,G,e8,I,J,K,c,u2,x2,k,q0,q1,q2,aF (om:i<1000000),bO]
   refine⟨⟨i+1,om,rfl,d%m*R i i%m,rfl,?_,aW _ k,fun _=>aS _ om,o⟩,om⟩
   have G:m∣d%m*R i i%m↔m∣d%m*R i i:=by rw[tD,tD,Int.emod_emod]
   have U:m∣d%m↔m∣d:=by rw[tD,tD,Int.emod_emod]
   rw[G];constructor
   .intro h;rcases l _ _ h with M|M
    .obtain⟨a,h6,u⟩:=f.1 (U.1 M);exact⟨a,om,u⟩
    .exact⟨i,om,M⟩
   .rintro⟨a,h6,u⟩;by_cases e:a=i
    .subst e;exact co u
    .exact eJ (U.2 (f.2 ⟨a,om,u⟩))
  .obtain rfl:i=n:=om
   simp only[*,go_sem];have N:=L om;refine⟨d,⟨fun h=>p.1 (f.1 (by rw[h];exact jp _)),fun h=>?_⟩,rfl⟩
   have E:=cM (f.2 (p.2 h))
   rwa [dv q N]at E

def CY(n m:Nat)(A:az)(i j:Nat)(S:St)(b a:Nat)(f:i<n)(g:j<m)(c:gU (A i j))(d:cS S b 52 1 (aP n m A))(e:cS S a 4 1 (.bool true)) :
  cI 99 [ι i,ι j,ϰ b 0,ϰ a 0] S (fun r S'=>r=ι (A i j)/\F8 a S S'/\cS S' a 4 1 (.bool true)):=by
 refine jg func99 ntmps99 results99 ?_;obtain⟨h,k,l⟩:=id d;obtain⟨o,p,q⟩:=id e;simp -dsimp only[*,go_sem,aa,aP,bn];refine(pE c).call ?_;simp only[*,go_sem,aa,aP,bn];exact⟨(F8.refl a S).upd _,cS.set⟩
def DU(n m:Nat)(A:az)(S0:St)(t h:Nat)(hn:n<=16)(hm:m<=16)(hA:∀i j:Nat,i<n->j<m->gU (A i j))(o:cS S0 t 52 1 (aP n m A))(d:cS S0 h 4 1 (.bool true)) :
  cI 98 [ι n,ι m,.fn 99 [ϰ t 0,ϰ h 0]] S0 (fun r S'=>∃b g,r=ϑ b 0 n/\eg S' b g n m A/\cS S' h 4 1 (.bool true)):=by
 refine jg func98 ntmps98 results98 ?_;simp -dsimp only[go_sem]
 repeat refine an ?_
 refine ax.intro fun bc fc=>?_;simp only[go_sem];have n1c:t≠bc:=o.fresh fc;have n6c:h≠bc:=d.fresh fc;refine aC (fun O S'=>∃i:Nat,i<=n/\O 1=ι m/\O 2=.fn 99 [ϰ t 0,ϰ h 0]/\O 7=ϑ bc 0 n/\O 13=ι n/\O 14=ι i/\cS S' t 52 1 (aP n m A)/\cS S' h 4 1 (.bool true)/\∃g',fv 29 2 1 St.none S' bc g' n m i (fun a j=>ι (A a j))) (fun O S=>n-bO (O 14)) ?_ ?_
 .simp only[go_sem];refine⟨0,om,rfl,o.upd n1c _,d.upd n6c _,fun _=>0,(fv.init (S1:=St.none) (b:=bc) (z:=fun _=>.nil) rfl (fun _ _=>rfl) _ _).other fun k X M=>?_⟩
  simp only[St.upd]at M ⊢;split at M
  .rename_i e;rw[aj e];exact M
  .cases M
 .clear o d n1c n6c;rintro O S' ⟨i,hi,G,v,D,p,q,o,d,g',f⟩;by_cases s:i<n
  .obtain⟨H,C,Q⟩:=id f.outer;simp -dsimp only[*,go_sem,aa]
   repeat refine an ?_
   refine ax.intro fun bd fd=>?_;have hdc:bc≠bd:=aY.fresh f.outer fd;have Y:aL H i (ϑ bd 0 m) i=ϑ bd 0 m:=by simp[aL]
   simp only[*,go_sem];have E:=f.push dc fd C (fun _=>ι 0)
   have N:t≠bc:=by obtain⟨x,k,_⟩:=o;rintro rfl;rw[C]at k;cases k
   have I:h≠bc:=by obtain⟨x,k,_⟩:=d;rintro rfl;rw[C]at k;cases k
   have u:=(o.upd (o.fresh fd) ⟨2,1,m,fun _=>ι 0⟩).upd N ⟨29,1,n,aL H i (ϑ bd 0 m)⟩;have w:=(d.upd (d.fresh fd) ⟨2,1,m,fun _=>ι 0⟩).upd I ⟨29,1,n,aL H i (ϑ bd 0 m)⟩;generalize R:(fun a=>if a=i then bd else g' a)=gg at E
   refine aC (fun O S'=>∃j:Nat,j<=m/\O 1=ι m/\O 2=.fn 99 [ϰ t 0,ϰ h 0]/\O 7=ϑ bc 0 n/\O 8=ι i/\O 13=ι n/\O 14=ι i/\O 26=ι m/\O 27=ι j/\cS S' t 52 1 (aP n m A)/\cS S' h 4 1 (.bool true)/\fv 29 2 1 St.none S' bc gg n m (i+1) (fun a c=>ι (if a=i/\j<=c then 0 else A a c))) (fun O S=>m-bO (O 27)) ?_ ?_
   .simp only[go_sem,G,v,D,p,q];refine⟨0,om,rfl,u,w,E.congr fun a c _ _=>?_⟩
    by_cases e:a=i
    .simp[e]
    .simp[e]
   .clear G v D p q f E C Q R u w o d N I;rintro O S' ⟨j,hj,G,v,D,Z,p,q,J,K,o,d,f⟩;by_cases B:j<m
    .obtain⟨H,C,Q⟩:=id f.outer;obtain⟨g5,u5,v5⟩:=id (f.row i om);have x4:H i=ϑ (gg i) 0 m:=(Q i s).trans (aj om);have I:bc≠h:=by obtain⟨x,k,_⟩:=d;rintro rfl;rw[C]at k;cases k
     have k6g:∀a,a<i+1->gg a≠h:=fun a P=>by
      obtain⟨x,k,_⟩:=d;obtain⟨y,l,_⟩:=f.row a P;intro e;rw[e,k]at l;cases l
     have N:t≠h:=by obtain⟨x,k,_⟩:=d;obtain⟨y,l,_⟩:=o;rintro rfl;rw[k]at l;cases l
     simp -dsimp only[*,go_sem];refine eO 8 [[0,1,2,3,4],[],[]] kr ?_
     simp -dsimp only[go_sem,aa,v,D,Z,s,C,x4];refine(CY n m A i j S' t h s B (hA i j s B) o d).mono ?_;rintro _ S2 ⟨rfl,L,w⟩;have T:=(L bc I).trans C;have F:=(L (gg i) (k6g i om)).trans u5;have U:fv 29 2 1 St.none S2 bc gg n m (i+1) (fun a c=>ι (if a=i/\j<=c then 0 else A a c)):=⟨dh.noneS _,f.new,L.has I f.outer,fun a P=>L.has (k6g a P) (f.row a P),f.rnew,f.inj⟩
     have u:=L.var N o;have V:t≠gg i:=by obtain⟨x,k,_⟩:=u;rintro rfl;rw[F]at k;cases k
     have W:h≠gg i:=fun e=>k6g i om e.symm;simp only[go_sem,aa,G,v,D,Z,p,q,J,K,s,B,T,x4,F,aF (om:j<1000000),bO]
     refine⟨⟨j+1,om,rfl,u.upd V _,w.upd W _,(U.put dc (om:i<i+1) F j (ι (A i j))).congr fun a c _ _=>?_⟩,om⟩
     by_cases e:a=i/\c=j
     .obtain⟨rfl,rfl⟩:=e;rw[aj ⟨rfl,rfl⟩,ah om]
     .rw[ah e];congr 1;by_cases v:a=i/\j<=c
      .rw[aj v,aj om]
      .rw[ah v,ah om]
    .simp only[go_sem,G,v,D,p,q,J,K,B,aF (om:i<1000000),bO]
     exact⟨⟨i+1,om,rfl,o,d,gg,f.congr fun a c _ hc=>by rw[ah om]⟩,om⟩
  .obtain rfl:i=n:=om
   have hN:=f.imat (A:=A) (fun _ _ _ _=>rfl);simp only[go_sem,aa,G,D,p,q,s];exact⟨bc,rfl,g',hN.1,d⟩
def qG(n m:Nat)(A:az)(h:1<=n)(a:n<=16)(k:1<=m)(c:m<=16)(l:∀i j:Nat,i<n->j<m->gU (A i j)):K0 43 [aP n m A] n m A:=by
 refine K0.of ?_;refine jg func43 ntmps43 results43 ?_;simp -dsimp only[go_sem,aa,aP,bn];refine ax.intro fun d f1=>?_
 try simp -dsimp only[go_sem]
 refine(ld n m A h a k c).call ?_;simp -dsimp only[go_sem];refine ax.intro fun e o=>?_;have n6_1:=(af o).1;have f:d≠e:=n6_1.symm;simp -dsimp only[go_sem,aa,dL];refine(DU n m A _ d e a c l ?_ ?_).mono ?_
 .refine cS.upd (cS.upd (cS.new ?_) f _) f _;rfl
 .exact cS.set
 rintro _ S2 ⟨b,g,rfl,p,q⟩;obtain⟨r,s,t⟩:=id q;simp only[*,go_sem,aa];exact⟨b,rfl,g,p⟩

def we(b:Nat)(m:Int)(S:St):cI 227 [ϑ b 0 1,ι m] S (fun r S'=>r=ι 1/\dh S S'):=by
 refine jg func227 ntmps227 results227 ?_;simp -dsimp only[go_sem,aa];refine(mL m S).mono ?_;rintro _ S1 ⟨bm,i,rfl,j,n⟩;simp only[go_sem];refine cf (fun O S'=>∃c:Nat,c<=1/\S'=S1/\O 0=ϑ b 0 1/\O 6=ι 1/\O 12=ι ((1:Nat):Int)/\O 13=ι c) (fun O S=>1-bO (O 13)) ?_ ?_
 .simp only[go_sem];exact⟨0,om,rfl⟩
 rintro Q' f O S' ⟨c,o,rfl,g,h,a,d⟩;by_cases e:c<1
 .obtain rfl:c=0:=om
  simp only[go_sem,a,d,e];refine cf (fun O S=>S=S'/\O 0=ϑ b 0 1/\O 6=ι 1/\O 8=ι 1/\O 12=ι ((1:Nat):Int)/\O 13=ι ((0:Nat):Int)) (fun O S=>0) ?_ ?_
  .simp only[*,go_sem];rw[show IntKind.i64.wrap (((0:Nat):Int)+1)=_ from aF (k:=0) om];rfl
  clear g h a d;rintro Q'' hQ'' O S ⟨rfl,g,h,l,a,d⟩;simp only[go_sem,g,l,show decide ((1:Int)<((1:Nat):Int))=false by rfl]
  rw[hQ''];simp only[*,go_sem,bO];rw[show IntKind.i64.wrap (((0:Nat):Int)+1)=_ from aF (k:=0) om];exact⟨⟨1,om,rfl⟩,sm⟩
 .simp only[go_sem,a,d,e];rw[f];simp only[go_sem,h];exact j
def appZ1{g:Nat->AV}{K:AV->St->Prop}(a:S b=some ⟨2,1,1,g⟩)(c:∀b',(b'=b∨S b'=ae)->K (ϑ b' 0 2) ((S.del b).upd b' ⟨2,1,2,pN g 1 1 (fun _=>ι 0)⟩)):rM 29 (ϑ b 0 1) (ι 1) S K:=by
 show(match dQ 29,S b with
  | some e,some X=>(match fZ e with
   | some (es',z,_)=>es'=1/\1=cg e/\0=0/\X.ty=e/\X.es=1/\X.n=1/\1<=1/\1+1<=1048576 /\
    ∀b',(b'=b∨S b'=ae)->K (ϑ b' 0 (1+1)) ((S.del b).upd b' ⟨e,1,1+1,pN X.g 1 1 (fun _=>z)⟩)
   | ae=>False)
  | _,_=>False)
 rw[a];exact⟨rfl,rfl,rfl,rfl,rfl,rfl,om,om,c⟩
def M0{off len:Nat}{g:Nat->AV}{K:AV->St->Prop}(d:S b=some ⟨2,1,n,g⟩)(c:∀j,j<len->g (off+j)=ι (v j))(e:0<len)(f:off+len<=n)(p:len<=1000)
  (i:∀b' h,S b'=ae->(∀j,j<len->h j=ι (v j))->K (ϑ b' 0 len) (S.upd b' ⟨2,1,len,h⟩)):gE 29 29 .nil (ϑ b off len) S K:=by
 have l:DF S (ϑ b off len)=some (1,len,fun j=>g (off+j),some b):=by simp[DF,d,f]
 unfold gE;rw[show dQ 29=some 2 from rfl,l];refine⟨rfl,rfl,rfl,e,fun j m=>?_,om,fun b' a=>i b' _ a fun k o=>c k o⟩
 show dY 1 (g (off+j));rw[c j m];simp[dY]
def EN{K:AV->Prop}(h:K (ϑ b 1 1)):lh 29 (ϑ b 0 2) (some (ι 1)) ae ae K :=
 ⟨rfl,1,2,rfl,rfl,trivial,om,om,h⟩
def Nv(P:St->Prop)(a:P S)(h:∀T,P T->Er ops l O T K):Er ops l O S K:=h S a
def Ry:((1:Nat):Int)=1:=om
def c0i:((0:Nat):Int)=0:=om
def Ld(a p:Int):Nat->Int:=fun j=>if j=0 then a%p else 1
def vG(a p:Int)(W:2<=p)(I:p<=1000000)(X:(bz p.toNat (a%p).toNat).1=1):FY 179 [av 1 1 (fun _ _=>a),ι p] 1 1 (fun _ _=>lp p a):=by
 refine FY.of ?_;refine jg func179 ntmps179 results179 ?_;have F:0<=a%p/\a%p<p:=⟨aW _ om,aS _ om⟩;generalize J:lp p a=f;have A:0<=f/\f<p:=by rw[<-J];exact pB om a
 simp -dsimp only[go_sem,aa,av,aK];refine(xI 1 (fun _ _=>a) om om).call ?_;simp -dsimp only[go_sem,aa];refine(k8 p W om).call ?_;simp -dsimp only[go_sem,aa];refine(mr 1 1 (fun _ _=>a) p om om om om _ _ (cD _ _)).mono ?_;rintro _ S1 ⟨b,g,rfl,K,_⟩;have G:=K.outer;have H:=K.row 0 om;simp only[go_sem];refine cf (fun O S=>∃i:Nat,i<=1/\O 1=ι p/\O 7=ι ((1:Nat):Int)/\O 8=ϑ b 0 1/\O 30=ι ((1:Nat):Int)/\O 31=ι i/\∃c,aY S b 29 1 1 (fun _=>ϑ c 0 (1+i))/\aY S c 2 1 (1+i) (fun j=>ι (Ld a p j))) (fun O S=>1-bO (O 31)) ?_ ?_
 .simp only[go_sem];refine⟨0,om,rfl,g 0,G.congr fun j s=>?_,H.congr fun j s=>?_⟩
  .obtain rfl:j=0:=om
   rfl
  .obtain rfl:j=0:=om
   simp[Ld,lO]
 clear K G H;rintro Q' y O S ⟨i,Y,t,r,l,B,C,c,d,e⟩;by_cases o:i<1
 .obtain rfl:i=0:=om
  have q:b≠c:=aY.ne d e dc
  obtain⟨gb,ub,vb⟩:=id d;obtain⟨gc,uc,vc⟩:=id e;have xb:gb 0=ϑ c 0 1:=vb 0 om;have xc:gc 0=ι (a%p):=(vc 0 om).trans (by simp[Ld])
  simp -dsimp only[go_sem,aa,r,l,B,C,o,ub,xb,Ry,c0i]
  repeat refine an ?_
  refine appZ1 uc ?_;intro b' z;have u:b≠b':=by
   rcases z with rfl|h
   .exact q
   .exact aY.fresh d h
  refine Nv (fun T=>aY T b 29 1 1 (fun _=>ϑ c 0 1)/\aY T b' 2 1 2 (fun j=>ι (if j=0 then a%p else 0))) ?_ ?_
  .refine⟨⟨gb,?_,vb⟩,aY.here fun j s=>?_⟩
   .rw[aE u];unfold St.del;rw[ah q];exact ub
   .match j,s with
    | 0,_=>simp[pN,aL,xc]
    | 1,_=>simp[pN,aL]
  clear d e ub uc vb vc xb xc q z;rintro T ⟨d,e⟩;obtain⟨gb,ub,vb⟩:=id d;obtain⟨gc,uc,vc⟩:=id e;have V:b'≠b:=u.symm;have Z:ω (1+0)=1:=dN (n:=1) om om;have w01:ω (0+1)=1:=dN (n:=1) om om;simp only[*,go_sem,aa,Ry,c0i,dL,bO]
  repeat refine an ?_
  refine⟨⟨1,om,rfl,b',?_,?_⟩,om⟩
  .refine aY.upd (aY.here fun j s=>?_) u _;obtain rfl:j=0:=om
   simp[aL]
  .refine aY.here fun j s=>?_
   match j,s with
   | 0,_=>simp[aL,vc 0 om,Ld]
   | 1,_=>simp[aL,Ld]
 obtain rfl:i=1:=om
 simp only[go_sem,aa,r,l,B,C,o];rw[y];simp -dsimp only[*,go_sem,aa];refine(we b p S).mono ?_;rintro _ S2 ⟨rfl,D⟩
 replace d:=D.has d
 replace e:=D.has e
 simp -dsimp only[*,go_sem,aa];refine(mL p S2).mono ?_;rintro _ S3 ⟨bm,_,rfl,E,_⟩
 replace d:=E.has d
 replace e:=E.has e
 have w0:ω (1-1)=0:=dN (n:=0) om om;simp only[*,go_sem,Ry];clear D E y o;refine cf (fun O S=>∃k:Nat,k<=1/\O 1=ι p/\O 7=ι 1/\O 8=ϑ b 0 1/\O 11=ι ((k:Int)-1)/\aY S b 29 1 1 (fun _=>ϑ c 0 2)/\aY S c 2 1 2 (fun j=>ι (if k=0 then Ld a p j*f%p else Ld a p j))) (fun O S=>Kl (O 11)) ?_ ?_
 .simp only[go_sem,t,r,l,Ry];exact⟨1,om,rfl,d,e.congr fun j _=>by simp⟩
 clear d e t r l B C;rintro Q' y O S ⟨k,hk,t,r,l,m,d,e⟩;have q:b≠c:=aY.ne d e dc
 by_cases L:k=0
 .subst L;have M:decide ((0:Int)<=((0:Nat):Int)-1)=false:=by simp
  simp only[go_sem,aa,t,l,m,M];rw[y];simp only[go_sem,l];refine cf (fun O S=>∃i:Nat,i<=1/\O 7=ι 1/\O 8=ϑ b 0 1/\O 107=ι ((1:Nat):Int)/\O 108=ι i/\∃c,aY S b 29 1 1 (fun _=>ϑ c 0 (2-i))/\aY S c 2 1 (2-i) (fun j=>ι (if i=0 then Ld a p j*f%p else f))) (fun O S=>1-bO (O 108)) ?_ ?_
  .simp only[*,go_sem];exact⟨0,om,rfl,c,d,e⟩
  clear d e t r l m q;rintro Q'' hQ'' O S ⟨i,Y,r,l,w,x,c,d,e⟩;have q:b≠c:=aY.ne d e dc
  by_cases o:i<1
  .obtain rfl:i=0:=om
   obtain⟨gb,ub,vb⟩:=id d;obtain⟨gc,uc,vc⟩:=id e;have xb:gb 0=ϑ c 0 2:=vb 0 om;simp -dsimp only[go_sem,aa,r,l,w,x,o,ub,xb,Ry,c0i,dw,gF]
   repeat refine an ?_
   refine EN ?_
   try simp -dsimp only[go_sem,r,l,w,x,o,ub,xb,Ry,c0i]
   refine M0 (v:=fun _=>f) uc (fun j s=>?_) om om om ?_
   .obtain rfl:j=0:=om
    rw[vc 1 om];simp only[Ld];rw[aj trivial,ah om,cU,dv A.1 A.2]
   intro b' h z hh;have u:b≠b':=aY.fresh d z;have Z:ω (0+1)=1:=dN (n:=1) om om;simp only[*,go_sem,aa,Ry,c0i,bO]
   repeat refine an ?_
   refine⟨⟨1,om,rfl,b',?_,?_⟩,om⟩
   .refine aY.here fun j s=>?_;obtain rfl:j=0:=om
    simp[aL]
   .refine aY.upd (aY.here fun j s=>?_) u.symm _;rw[hh j s];simp
  obtain rfl:i=1:=om
  simp only[go_sem,aa,r,l,w,x,o];rw[hQ''];simp only[go_sem,l];refine⟨b,rfl,fun _=>c,d,fun i _=>e.congr fun j _=>by simp,fun i j h1 h2 _=>om⟩
 obtain rfl:k=1:=om
 obtain⟨gb,ub,vb⟩:=id d;obtain⟨gc,uc,vc⟩:=id e;have xb:gb 0=ϑ c 0 2:=vb 0 om;have xc:gc 0=ι (a%p):=(vc 0 om).trans (by simp[Ld])
 have M:decide ((0:Int)<=((1:Nat):Int)-1)=true:=by simp
 have w2:((1:Nat):Int)-1=((0:Nat):Int):=om
 rw[w2]at m M;simp -dsimp only[go_sem,aa,t,l,m,ub,uc,xb,xc];refine(Bm (a%p) p om om F.1 F.2).call ?_;unfold lp at J;rw[J,X,cb];simp -dsimp only[go_sem,aa,t,l,m,ub,xb,xc];refine(GB 2 c (Ld a p) f p S om om I A (fun j s=>?_) (e.congr fun j _=>by simp)).mono ?_
 .unfold Ld;split<;>omega
 rintro _ S4 ⟨N,P⟩;have Q:=N.has q d;simp only[go_sem,t,l,m];refine cf (fun O S=>S=S4/\O 1=ι p/\O 7=ι 1/\O 8=ϑ b 0 1/\O 11=ι ((0:Nat):Int)/\O 84=ι ((0:Nat):Int)/\O 85=ι 0) (fun O S=>0) ?_ ?_
 .simp only[*,go_sem]
 clear t r l m;rintro Q'' hQ'' O S ⟨rfl,t,r,l,m,R,U⟩;simp only[go_sem,R,U,show decide ((0:Int)<((0:Nat):Int))=false by simp]
 rw[hQ''];have w3:ω (((0:Nat):Int)-1)=((0:Nat):Int)-1:=i64_in om om;simp only[go_sem,t,r,l,m,w3,Kl];refine⟨⟨0,om,rfl,Q,P.congr fun j _=>by simp⟩,sm⟩
def py(a p:Int)(m:2<=p)(d:p<=1000000)(n:(bz p.toNat (a%p).toNat).1=1):PF 142 [ι a,ι p] (ι (lp p a)):=by
 refine iy func142 ntmps142 results142 ?_;simp -dsimp only[go_sem];refine ax.intro fun e o=>?_;simp -dsimp only[go_sem];refine ax.intro fun c f=>?_;have n10_9:=(af f).1
 try simp -dsimp only[go_sem]
 have h:eg ((St.none.upd e ⟨2,1,1,fun j=>[ι a].getD j .any⟩).upd c ⟨29,1,1,fun j=>[ϑ e 0 1].getD j .any⟩) c (fun _=>e) 1 1 (fun _ _=>a):=by
  refine⟨aY.here fun j q=>?_,fun j _=>aY.upd (aY.here fun k r=>?_) n10_9.symm _,fun i j s t _=>om⟩
  .obtain rfl:j=0:=om
   rfl
  .obtain rfl:k=0:=om
   rfl
 refine(vG a p m d n _ _ (eM.two h.vr.va (VA.refl _ _))).mono ?_;rintro _ S1 ⟨b,g,rfl,l,_⟩;obtain⟨gb,ub,vb⟩:=id l.outer;obtain⟨gc,uc,vc⟩:=id (l.row 0 om);have xb:gb 0=ϑ (g 0) 0 1:=vb 0 om;have xc:gc 0=ι (lp p a):=vc 0 om;simp only[*,go_sem,aa]
 repeat refine an ?_
 exact VR.mf rfl

def gK(n:Nat)(H:az)(p:Int)(v:Nat->Int):Nat->Int:=fun i=>kP (lO H p) (lO (fun i _=>v i) p) n p i 0
def q8{p:Int}(a:2<=p)(i:Nat):0<=gK n H p v i/\gK n H p v i<p:=⟨aW _ om,aS _ om⟩
def Bk(n piv:Nat)(H:az)(p:Int)(v:Nat->Int)(inv:Int)(h1:1<=n)(hn:n<=8)(hp:2<=p)(M:p<=10000)(f:piv<n)(hw0:gK n H p v piv≠0)(hwz:∀i,i<piv->gK n H p v i=0)(he:(bz p.toNat (gK n H p v piv%p).toNat).1=1)(E:inv=lp p (gK n H p v piv)) :
  QM 122 [av n n H,ι p,aK n v] n n (fun j i=>jh p piv (fun j=>gK n H p v j*inv%p) i j):=by
 refine QM.of ?_;refine jg func122 ntmps122 results122 ?_;have N:0<=inv/\inv<p:=by rw[E];exact pB om _
 simp -dsimp only[go_sem,aK]
 repeat refine an ?_
 refine ax.intro fun b7 f7=>?_;simp only[go_sem];refine aC (fun O S=>∃i:Nat,i<=n/\O 0=av n n H/\O 1=ι p/\O 2=aK n v/\O 7=ϑ b7 0 n/\O 19=aK n v/\O 20=ι n/\O 21=ι i/\∃g',fv 29 2 1 St.none S b7 g' n 1 i (fun a _=>ι (v a))) (fun O S=>n-bO (O 21)) ?_ ?_
 .simp only[go_sem,aK];exact⟨0,om,rfl,fun _=>0,fv.init f7 (fun _ _=>rfl) _ _⟩
 rintro O S ⟨i,hi,W,q,F,X,I,J,K,g',m⟩;by_cases P:i<n
 .obtain⟨g4,L,v4⟩:=id m.outer;simp -dsimp only[go_sem,aa,aK,W,q,X,I,J,K,P];refine ax.intro fun b29 Q=>?_;have hne:b7≠b29:=aY.fresh m.outer Q;simp only[*,go_sem,aa,aK,aF (om:i<1000000),bO]
  refine⟨⟨i+1,om,rfl,_,(m.push dc Q L (fun j=>[ι (v i)].getD j .any)).congr fun a c ha hc=>?_⟩,om⟩
  obtain rfl:c=0:=om
  by_cases e:a=i
  .subst e;simp
  .rw[ah e]
 have hin:i=n:=om
 subst hin;have hN:=m.imat (A:=fun i _=>v i) (fun _ _ _ _=>rfl);simp -dsimp only[go_sem,aa,aK,W,q,X,I,J,K,P];refine(KT i i 1 H (fun i _=>v i) p h1 om h1 om om om hp om S _ (eM.three (VA.refl _ _) hN.1.vr.va (VA.refl _ _))).mono ?_;rintro _ S1 ⟨bw,gw,rfl,Y,_,_,_⟩;simp -dsimp only[go_sem,aa,W,q,X];have R:∀k,kP (lO H p) (lO (fun i _=>v i) p) i p k 0=gK i H p v k:=fun _=>rfl;refine(Ei i 1 piv _ om om f (by rw[R];exact hw0) (fun k hk=>by rw[R];exact hwz k hk)).spec (eM.two Y.vr.va (VA.refl _ _)) ?_
 obtain⟨go,uo,vo⟩:=id Y.outer;obtain⟨gp,up,vp⟩:=id (Y.row piv f);have xo:go piv=ϑ (gw piv) 0 1:=vo piv f;have xp:gp 0=ι (gK i H p v piv):=vp 0 om;simp -dsimp only[go_sem,aa,q,f,uo,up,xo,xp]
 repeat refine an ?_
 refine(py (gK i H p v piv) p hp om he).call ?_;rw[<-E];simp -dsimp only[go_sem,aK,q,F]
 repeat refine an ?_
 refine ax.intro fun g f14=>?_;simp only[go_sem];have hq:∀k,0<=gK i H p v k*inv%p/\gK i H p v k*inv%p<p:=fun k=>⟨aW _ om,aS _ om⟩;have hpp:p*p<=100000000:=by have:=ck M M om om;omega
 have hpp0:0<=p*p:=cC om om;have G:∀a b:Int,0<=a->a<p->0<=b->b<p->0<=a*b/\a*b<=100000000:=fun a b a0 a1 b0 b1=>by
  have h1:=ck (om:a<=p) (om:b<=p) b0 om
  exact⟨cC a0 b0,om⟩
 clear uo up vo vp xo xp;refine cf (fun O S=>∃j:Nat,j<=i/\O 1=ι p/\O 2=aK i v/\O 10=ϑ bw 0 i/\O 12=ι piv/\O 13=ι inv/\O 14=ϑ g 0 i/\O 53=ι i/\O 54=ι j/\∃g',fv 29 2 1 S1 S g g' i i j (fun a c=>ι (jh p piv (fun j=>gK i H p v j*inv%p) c a))) (fun O S=>i-bO (O 54)) ?_ ?_
 .simp only[go_sem,q,F,aK];exact⟨0,om,rfl,fun _=>0,fv.init f14 (fun _ _=>rfl) _ _⟩
 clear W q F X I J K;rintro Q' hQ' O S ⟨j,hj,q,F,w,x,y,r,z,B,g',m⟩;by_cases l:j<i
 .obtain⟨g4,L,v4⟩:=id m.outer;by_cases U:j=piv
  .subst U;simp -dsimp only[go_sem,aa,aK,q,F,w,x,y,r,z,B,l,cb]
   repeat refine an ?_
   refine ax.intro fun d s=>?_;have t:g≠d:=aY.fresh m.outer s;have u:d≠g:=t.symm;have C:=m.push dc s L (fun _=>ι 0)
   have wpp:ω (p*p)=p*p:=i64_in om om;simp only[go_sem,l,L,t,u,dL,wpp,aF (om:j<1000000),bO]
   have o:=C.put dc (om:j<j+1) (g':=fun _=>ι 0) (by rw[aj rfl,aE u,bW]) j (ι (p*p))
   rw[show(if j=j then d else g' j)=d from aj rfl]at o
   refine⟨⟨j+1,om,rfl,_,o.congr fun a c ha hc=>?_⟩,om⟩
   by_cases ea:a=j
   .subst ea;simp only[ke,aH,jh];by_cases ec:c=a
    .rw[aj ec,aj ec]
    .rw[ah ec,ah ec]
   .rw[ah (fun h=>ea h.1),ah ea]
  .have hjb:((j:Int)==(piv:Int))=false:=by simp;omega
   simp -dsimp only[go_sem,aa,aK,q,F,w,x,y,r,z,B,l,hjb]
   repeat refine an ?_
   refine ax.intro fun d s=>?_;have t:g≠d:=aY.fresh m.outer s;have u:d≠g:=t.symm;have C:=m.push dc s L (fun _=>ι 0)
   simp -dsimp only[*,go_sem,dL];have o:=C.put dc (om:j<j+1) (g':=fun _=>ι 0) (by rw[aj rfl,aE u,bW]) j (ι p)
   rw[show(if j=j then d else g' j)=d from aj rfl]at o
   refine k9 (fun T=>∃gg,fv 29 2 1 S1 T g gg i i (j+1) (fun a c=>if a=j then ι (if c=j then p else 0)else ι (jh p piv (fun j=>gK i H p v j*inv%p) c a))) ⟨_,o.congr fun a c ha hc=>?_⟩ ?_
   .by_cases ea:a=j
    .subst ea;simp only[ke,aH];by_cases ec:c=a
     .rw[aj ec,aj ec]
     .rw[ah ec,ah ec]
    .rw[ah (fun h=>ea h.1),ah ea,ah ea]
   clear m C o L v4 t u;rintro T ⟨gg,Z⟩;obtain⟨go,uo,vo⟩:=id Z.outer;obtain⟨gr,ur,vr⟩:=id (Z.row j om);have V:=Y.ext Z.ext;obtain⟨gx,ux,vx⟩:=id V.outer;obtain⟨gy,uy,vy⟩:=id (V.row j l);have xo:go j=ϑ (gg j) 0 i:=(vo j l).trans (aj om);have xx:gx j=ϑ (gw j) 0 1:=vx j l;have xy:gy 0=ι (gK i H p v j):=vy 0 om;obtain⟨w0,w1⟩:=q8 (n:=i) (H:=H) (v:=v) hp j;obtain⟨m0,m1⟩:=G _ _ w0 w1 N.1 N.2;obtain⟨q0,q1⟩:=hq j;obtain⟨r0,r1⟩:=G (p-1) _ om om q0 q1;have k1:ω (0-p)=-p:=by rw[Ew];exact i64_in om om
   have k2:ω (gK i H p v j*inv)=gK i H p v j*inv:=i64_in om om;have k3:(gK i H p v j*inv).tmod p=gK i H p v j*inv%p:=aJ m0;have k4:ω (-p*(gK i H p v j*inv%p))=-p*(gK i H p v j*inv%p):=by
    rw[Int.sub_mul,cU]at r0 r1;rw[sF];exact i64_in om om
   have hp0:¬p=0:=om
   refine aN 19 kr ?_
   simp only[go_sem,aa,aK,q,F,w,x,y,r,z,B,l,uo,ur,ux,uy,xo,xx,xy,f,k1,k2,k3,k4,hp0,aF (om:j<1000000),bO]
   repeat refine an ?_
   refine⟨⟨j+1,om,rfl,gg,(Z.put dc (om:j<j+1) ur piv (ι (-p*(gK i H p v j*inv%p)))).congr fun a c ha hc=>?_⟩,om⟩
   by_cases ea:a=j
   .subst ea;simp only[ke,aH,jh];rw[ah U];by_cases ec:c=piv
    .rw[aj ec,ah om,aj ec,sF]
    .rw[ah ec];by_cases D:c=a
     .rw[aj D,aj D]
     .rw[ah D,ah D,ah ec]
   .rw[ah (fun h=>ea h.1),ah ea]
 have hji:j=i:=om
 rw[hji]at m;have hN2:=m.imat (A:=fun j i'=>jh p piv (fun j=>gK i H p v j*inv%p) i' j) (fun _ _ _ _=>rfl);simp only[go_sem,aa,q,F,w,x,y,r,z,B,l];rw[hQ'];simp only[go_sem,r];exact⟨g,rfl,g',hN2.1⟩

def RW(n:Nat)(H:az)(k:Nat)(S:St)(x:AV):Prop:=x=av (n-k) (n-k) (cl H k)∨∃b g,x=ϑ b 0 (n-k)/\eg S b g (n-k) (n-k) (cl H k)
def kW{b A B:Int}(d:-A<=a/\a<=A)(e:-B<=b/\b<=B):-(A*B)<=a*b/\a*b<=A*B:=by
 have h:(a*b).natAbs<=A.natAbs*B.natAbs:=by rw[cP];exact aX om om
 have c:(A.natAbs:Int)*B.natAbs=A*B:=by rw[show(A.natAbs:Int)=A by omega,show(B.natAbs:Int)=B by omega]
 have f:((A.natAbs*B.natAbs:Nat):Int)=A*B:=by rw[aV,c]
 omega
def J8(n:Nat)(H:az):av n n H=av (n-0) (n-0) (cl H 0):=by
 simp only[av,aK,dD,eV]

def qM(m:Nat)(A:az)(β:Bool)(b:1<=m)(p:m<=8)(f:∀i,i<m->-24696061952<=A i 0/\A i 0<=24696061952)(hβ:β=true↔wu A m):PF 108 [av m m A] (.bool β):=by
 refine iy func108 ntmps108 results108 ?_;have g:0<m:=om
 have j:(0:Int)<(m:Int):=om
 by_cases q:A 0 0<=0
 .simp only[*,go_sem,aK,av,gF,dw];rw[dC hβ fun h=>by have:=h.1;omega]
  exact VR.mf rfl
 by_cases r:(65536:Int)<=A 0 0
 .simp only[*,go_sem,aK,av,gF,dw];rw[dC hβ fun h=>by have:=h.2.1;omega]
  exact VR.mf rfl
 simp only[*,go_sem,aK,av,gF,dw];refine Gy 1 rfl rfl rfl om ?_;simp only[go_sem];refine aC (fun O S=>∃i:Nat,i<=m-1/\(∀a,1<=a->a<1+i->2*A a 0<=A 0 0/\-2*A a 0<=A 0 0)/\O 3=ι (A 0 0)/\O 18=.lst 1 (m-1) (fun i=>aK m (A (1+i)))/\O 19=ι ((m-1:Nat):Int)/\O 20=ι i) (fun O S=>m-bO (O 20)) ?_ ?_
 .simp only[go_sem,aK];exact⟨0,om,fun a b d=>om,rfl⟩
 .rintro O S ⟨i,s,c,t,k,l,n⟩;by_cases o:i<m-1
  .obtain⟨u,v⟩:=f (1+i) om;have w:ω (2*A (1+i) 0)=2*A (1+i) 0:=i64_in om om;have x:ω (-2*A (1+i) 0)=-2*A (1+i) 0:=i64_in om om;by_cases y:A 0 0<2*A (1+i) 0
   .simp only[*,go_sem,aa,aK];rw[dC hβ fun h=>by have:=h.2.2 (1+i) om om;omega]
    exact VR.mf rfl
   by_cases z:A 0 0 < -2*A (1+i) 0
   .simp only[*,go_sem,aa,aK];rw[dC hβ fun h=>by have:=h.2.2 (1+i) om om;omega]
    exact VR.mf rfl
   simp only[*,go_sem,aa,aK,aF (om:i<1000000),bO]
   refine⟨⟨i+1,om,fun a b d=>?_,rfl⟩,om⟩
   by_cases e:a=1+i
   .rw[e];omega
   .exact c a b om
  .simp only[*,go_sem,aa,aK];rw[hβ.2 ⟨om,om,fun a b d=>c a b om⟩]
   exact VR.mf rfl
def Fe(n:Nat)(A:az)(β:Bool)(s:1<=n)(E:n<=8)(hβ:β=true↔∀i j,i<n->j<n->A i j=A j i/\-262144<A i j/\A i j<262144):PF 107 [av n n A] (.bool β):=by
 refine iy func107 ntmps107 results107 ?_;simp only[go_sem,aK,av,(om:¬((n:Int)<1)),(om:¬((8:Int)<(n:Int)))]
 refine aC (fun O S=>∃i:Nat,i<=n/\O 0=av n n A/\O 3=ι n/\O 18=av n n A/\O 19=ι n/\O 20=ι i) (fun O S=>n-bO (O 20)) ?_ ?_
 .simp only[go_sem,aK,av];exact⟨0,om,rfl⟩
 .rintro O S ⟨i,C,l,D,v,w,x⟩;by_cases c:i<n
  .simp only[*,go_sem,aK,av,show((n:Int) != n)=false by simp,aF (om:i<1000000),bO]
   exact⟨⟨i+1,om,rfl⟩,om⟩
  .simp only[*,go_sem,aK,av];clear D v w x;refine aC (fun O S=>∃i:Nat,i<=n/\(∀a b,a<i->b<n->A a b=A b a/\-262144<A a b/\A a b<262144)/\O 0=av n n A/\O 29=av n n A/\O 30=ι n/\O 31=ι i) (fun O S=>n-bO (O 31)) ?_ ?_
   .simp only[go_sem,aK,av,l];exact⟨0,om,fun a b s u=>om,rfl⟩
   .clear l;rintro O S ⟨i,C,t,l,f,g,k⟩;by_cases c:i<n
    .simp only[*,go_sem,aK,av];refine aC (fun O S=>∃j:Nat,j<=n/\(∀b,b<j->A i b=A b i/\-262144<A i b/\A i b<262144)/\O 0=av n n A/\O 6=ι i/\O 29=av n n A/\O 30=ι n/\O 31=ι i/\O 36=aK n (A i)/\O 37=ι n/\O 38=ι j) (fun O S=>n-bO (O 38)) ?_ ?_
     .simp only[*,go_sem,aK,av];exact⟨0,om,fun b s=>om,rfl⟩
     .clear l f g k;rintro O S ⟨j,F,m,l,y,f,g,k,o,p,q⟩;by_cases d:j<n
      .by_cases r:A i j=A j i
       .by_cases z:A i j<=-262144
        .simp only[go_sem,aK,av,l,y,f,g,k,o,p,q,c,d,show(A i j != A j i)=false by rw[r];simp,z]
         rw[dC hβ fun h=>by have:=h i j c d;omega]
         exact VR.mf rfl
        by_cases B:262144<=A i j
        .simp only[go_sem,aK,av,l,y,f,g,k,o,p,q,c,d,show(A i j != A j i)=false by rw[r];simp,z,B]
         rw[dC hβ fun h=>by have:=h i j c d;omega]
         exact VR.mf rfl
        simp only[go_sem,aK,av,l,y,f,g,k,o,p,q,c,d,show(A i j != A j i)=false by rw[r];simp,z,B,aF (om:j<1000000),bO]
        refine⟨⟨j+1,om,fun b s=>?_,rfl⟩,om⟩
        by_cases e:b=j
        .rw[e];exact⟨r,om,om⟩
        .exact m b om
       .simp only[*,go_sem,aK,av,show(A i j != A j i)=true by simpa using r]
        rw[dC hβ fun h=>r (h i j c d).1];exact VR.mf rfl
      .simp only[*,go_sem,aK,av,aF (om:i<1000000),bO]
       refine⟨⟨i+1,om,fun a b s u=>?_,rfl⟩,om⟩
       by_cases e:a=i
       .rw[e];exact m b om
       .exact t a b om u
    .simp only[*,go_sem,aK,av];rw[hβ.2 fun a b s u=>t a b om u];exact VR.mf rfl

def mS(n:Nat)(H:az)(β:Bool)(hn1:1<=n)(f:n<=8)(hβ:β=true↔(∀i j,i<n->j<n->H i j=H j i)/\vu H n):PF 48 [av n n H] (.bool β):=by
 obtain⟨βs,hβs⟩:=oM (∀i j,i<n->j<n->H i j=H j i/\-262144<H i j/\H i j<262144);refine iy func48 ntmps48 results48 ?_;simp -dsimp only[go_sem,aa,av,aK];refine(Fe n H βs hn1 om hβs).call ?_
 cases βs with
 | false =>
  simp only[go_sem];rw[dC hβ fun h=>by
   have:=hβs.2 fun i j Z hj=>⟨h.1 i j Z hj,by have:=(h.2.red h.1 f).entry f Z hj;omega⟩
   cases this]
  exact VR.mf rfl
 | true =>
 have C:∀i j,i<n->j<n->H i j=H j i:=fun i j Z hj=>(hβs.1 rfl i j Z hj).1;have hA:∀i j,i<n->j<n->-262144<H i j/\H i j<262144:=fun i j Z hj=>(hβs.1 rfl i j Z hj).2;have L:¬vu H n->β=false:=fun h=>dC hβ fun hh=>h hh.2;simp only[go_sem];refine aC (fun O S=>∃(k:Nat) (x:AV),k<n/\yx H n k/\PH H n k/\RW n H k S x/\O 3=x/\O 4=ι (det k H)) (fun O S=>match O 3 with|.lst _ m _=>m|.sl _ _ _ m=>m|_=>0) ?_ ?_
 .simp only[go_sem];exact⟨0,om,yx.init,PH.init hA,_,a6 (J8 n H),rfl,by simp[det]⟩
 .rintro O S ⟨k,x,hk,w,p,hSt,z,K⟩;have d0:=w.pos k om;have d2:=w.lt k om;have b0:=p.num (i:=0) (j:=0) ⟨d0,d2⟩ f om om;rw[cH]at b0;obtain⟨βk,hβk⟩:=oM (wu (cl H k) (n-k));have D:cl H k 0 0=det (k+1) H:=cH H k;have d:0<n-k:=om
  have u:(0:Int)<((n-k:Nat):Int):=om
  by_cases M:1<n-k
  .have l:(1:Int)<((n-k:Nat):Int):=om
   have wsub:ω (((n-k:Nat):Int)-1)=((n-(k+1):Nat):Int):=dN om om;rcases hSt with rfl|⟨b,g,rfl,v⟩
   .simp -dsimp only[*,go_sem,aa,av,aK];refine(qM (n-k) (cl H k) βk d om (fun i Z=>p.num ⟨d0,d2⟩ f om om) hβk).spec (eM.cons (VA.refl _ _) eM.nil) ?_
    cases βk with
    | false =>
     simp only[*,go_sem,av,aK];rw[L fun h=>by have:=hβk.2 (h.short C f hk);cases this]
     exact VR.mf rfl
    | true =>
    have E:=hβk.1 rfl;obtain⟨d1,d3,F⟩:=id E;rw[cH]at d1 d3 F;have q:=p.step w C E;simp -dsimp only[*,go_sem,av,aK]
    repeat refine an ?_
    refine ax.intro fun bc fc=>?_;simp only[go_sem];refine aC (fun O S'=>∃i:Nat,i<=n-(k+1)/\O 3=av (n-k) (n-k) (cl H k)/\O 4=ι (det k H)/\O 5=ι (det (k+1) H)/\O 6=ϑ bc 0 (n-(k+1))/\O 31=ι ((n-(k+1):Nat):Int)/\O 32=ι i/\∃g',fv 29 2 1 S S' bc g' (n-(k+1)) (n-(k+1)) i (fun a j=>ι (cl H (k+1) a j))) (fun O S=>n-bO (O 32)) ?_ ?_
    .simp only[*,go_sem,av,aK];exact⟨0,om,rfl,fun _=>0,fv.init fc (fun _ _=>rfl) _ _⟩
    .clear z K;rintro O S' ⟨i,Z,z,K,P,Q,r,t,g',o⟩;by_cases y:i<n-(k+1)
     .have hi1:i+1<n-k:=om
      obtain⟨g4,G,R⟩:=id o.outer;simp -dsimp only[*,go_sem,aa,av,aK,aF (om:i<1000000)]
      repeat refine an ?_
      refine ax.intro fun bd fd=>?_;have hdc:bc≠bd:=aY.fresh o.outer fd;simp only[*,go_sem];have I:=o.push dc fd G (fun _=>ι 0)
      generalize hgg:(fun a=>if a=i then bd else g' a)=gg at I
      refine aC (fun O S'=>∃j:Nat,j<=n-(k+1)/\O 3=av (n-k) (n-k) (cl H k)/\O 4=ι (det k H)/\O 5=ι (det (k+1) H)/\O 6=ϑ bc 0 (n-(k+1))/\O 7=ι i/\O 8=aK (n-k) (cl H k (i+1))/\O 31=ι ((n-(k+1):Nat):Int)/\O 32=ι i/\O 47=ι ((n-(k+1):Nat):Int)/\O 48=ι j/\fv 29 2 1 S S' bc gg (n-(k+1)) (n-(k+1)) (i+1) (fun a c=>ι (if a=i/\j<=c then 0 else cl H (k+1) a c))) (fun O S=>n-bO (O 48)) ?_ ?_
      .simp only[*,go_sem,av,aK];refine⟨0,om,rfl,I.congr fun a c _ _=>?_⟩
       by_cases e:a=i
       .simp[e]
       .simp[e]
      .clear z K P Q r t o I G R hgg;rintro O S' ⟨j,hj,z,K,P,Q,e7,e8,r,t,e47,e48,o⟩;by_cases hjt:j<n-(k+1)
       .have T:j+1<n-k:=om
        obtain⟨g4,G,R⟩:=id o.outer;obtain⟨g5,U,v5⟩:=id (o.row i om);have x4:g4 i=ϑ (gg i) 0 (n-(k+1)):=(R i y).trans (aj om);have b1:=p.num (i:=i+1) (j:=j+1) ⟨d0,d2⟩ f om om;have b2:=p.num (i:=i+1) (j:=0) ⟨d0,d2⟩ f om om;have b3:=p.num (i:=0) (j:=j+1) ⟨d0,d2⟩ f om om;have hs2:2*((cl H k (i+1) 0).natAbs:Int)<=det (k+1) H:=by
         have h3:=F (i+1) om om;omega
        have hstep:=ie w.ne i j;rw[cH]at hstep;have p1:=kW (A:=65536) (B:=24696061952) (om:-65536<=det (k+1) H/\det (k+1) H<=65536) b1
        have p2:=kW (A:=65536) (B:=24696061952) (om:-65536<=cl H k (i+1) 0/\cl H k (i+1) 0<=65536) b3
        have q1:ω (det (k+1) H*cl H k (i+1) (j+1))=det (k+1) H*cl H k (i+1) (j+1):=i64_in om om;have q2:ω (cl H k (i+1) 0*cl H k 0 (j+1))=cl H k (i+1) 0*cl H k 0 (j+1):=i64_in om om;have q3:ω (det (k+1) H*cl H k (i+1) (j+1)-cl H k (i+1) 0*cl H k 0 (j+1))=det k H*cl H (k+1) i j:=by rw[<-hstep];exact i64_in om om
        have b4:=q.num (i:=i) (j:=j) ⟨d1,d3⟩ f om om;have q4:pV (det k H*cl H (k+1) i j) (det k H)=cl H (k+1) i j:=NI _ om;have q5:ω (cl H (k+1) i j)=cl H (k+1) i j:=i64_in om om;have q6:¬(det k H=0):=om
        have hjn:j+1<n:=om
        have hin:i+1<n:=om
        have hpn:0<n:=om
        have hpnz:(0:Int)<(n:Int):=om
        simp -dsimp only[*,go_sem,av,aK,aF (om:i<1000000)]
        refine aN 27 kr ?_
        simp only[go_sem,aa,av,aK,z,K,P,Q,e7,e8,r,t,e47,e48,y,hjt,T,u,aF (om:j<1000000),G,x4,U,q1,q2,q3,q4,q5,q6,bO]
        refine⟨⟨j+1,om,rfl,(o.put dc (om:i<i+1) U j (ι (cl H (k+1) i j))).congr fun a c _ _=>?_⟩,om⟩
        by_cases e:a=i/\c=j
        .obtain⟨rfl,rfl⟩:=e;rw[aj ⟨rfl,rfl⟩,ah om]
        .rw[ah e];congr 1;by_cases e2:a=i/\j<=c
         .rw[aj e2,aj om]
         .rw[ah e2,ah om]
       .simp only[*,go_sem,av,aK,aF (om:i<1000000),bO]
        exact⟨⟨i+1,om,rfl,gg,o.congr fun a c _ hc=>by rw[ah om]⟩,om⟩
     .obtain rfl:i=n-(k+1):=om
      have hN:=o.imat (A:=cl H (k+1)) (fun _ _ _ _=>rfl);obtain⟨g4,G,R⟩:=id hN.1.outer;obtain⟨g5,U,v5⟩:=id (hN.1.row 0 om);have x4:g4 0=ϑ (g' 0) 0 (n-(k+1)):=R 0 om;have x5:g5 0=ι (det (k+2) H):=(v5 0 om).trans (by simp only[cH])
      have V:0<n-(k+1):=om
      have W:(0:Int)<((n-(k+1):Nat):Int):=om
      have X:gS H (k+1)↔3*(det (k+1) H*det (k+1) H)<=4*(det k H*det (k+2) H+cl H k 1 0*cl H k 1 0):=by
       unfold gS fq;rw[(om:k+1-1=k),(om:k+1-k=1),show k+1+1=k+2 from rfl]
      have hs2:2*((cl H k 1 0).natAbs:Int)<=det (k+1) H:=by
       have h3:=F 1 om om;omega
      have d4:=q.num (i:=0) (j:=0) ⟨d1,d3⟩ f om om;rw[cH,show k+1+1=k+2 from rfl]at d4;have p1:=kW (A:=65536) (B:=24696061952) (om:-65536<=det k H/\det k H<=65536) d4
      have p2:=kW (A:=65536) (B:=65536) (om:-65536<=cl H k 1 0/\cl H k 1 0<=65536) (om:-65536<=cl H k 1 0/\cl H k 1 0<=65536)
      have p3:=kW (A:=65536) (B:=65536) (om:-65536<=det (k+1) H/\det (k+1) H<=65536) (om:-65536<=det (k+1) H/\det (k+1) H<=65536)
      have q1:ω (det k H*det (k+2) H)=det k H*det (k+2) H:=i64_in om om;have q2:ω (cl H k 1 0*cl H k 1 0)=cl H k 1 0*cl H k 1 0:=i64_in om om;have q3:ω (det k H*det (k+2) H+cl H k 1 0*cl H k 1 0)=det k H*det (k+2) H+cl H k 1 0*cl H k 1 0:=i64_in om om;have q4:ω (4*(det k H*det (k+2) H+cl H k 1 0*cl H k 1 0))=4*(det k H*det (k+2) H+cl H k 1 0*cl H k 1 0):=i64_in om om;have q5:ω (3*det (k+1) H)=3*det (k+1) H:=i64_in om om;have q6:ω (3*det (k+1) H*det (k+1) H)=3*(det (k+1) H*det (k+1) H):=by rw[fu];exact i64_in om om
      have hk1n:k+1<n:=om
      have hpn:0<n:=om
      have hpnz:(0:Int)<(n:Int):=om
      have hln:1<n:=om
      have hlnz:(1:Int)<(n:Int):=om
      by_cases q7:4*(det k H*det (k+2) H+cl H k 1 0*cl H k 1 0)<3*(det (k+1) H*det (k+1) H)
      .simp only[go_sem,aa,av,aK,z,K,P,Q,r,t,y,u,l,V,W,G,x4,U,x5,q1,q2,q3,q4,q5,q6,q7,show Int.toNat 1=1 from rfl];rw[L fun h=>by have:=X.1 (h.rows.2 (k+1) om hk1n);omega]
       exact VR.mf rfl
      .simp only[go_sem,aa,av,aK,z,K,P,Q,r,t,y,u,l,V,W,G,x4,U,x5,q1,q2,q3,q4,q5,q6,q7,show Int.toNat 1=1 from rfl];have hU1:=w.step E (X.2 om);refine⟨⟨k+1,om,hU1,q,ϑ bc 0 (n-(k+1)),aQ ⟨bc,g',rfl,hN.1⟩,rfl,rfl⟩,om⟩
   .obtain⟨Y,N,J⟩:=id v.outer;obtain⟨g2,u2,v2⟩:=id (v.row 0 d);obtain⟨g3,u3,v3⟩:=id (v.row 1 M);have x1:Y 0=ϑ (g 0) 0 (n-k):=J 0 d;have x2:g2 0=ι (cl H k 0 0):=v2 0 d;have y1:Y 1=ϑ (g 1) 0 (n-k):=J 1 M;have y2:g3 0=ι (cl H k 1 0):=v3 0 d;simp -dsimp only[*,go_sem,aa];refine(qM (n-k) (cl H k) βk d om (fun i Z=>p.num ⟨d0,d2⟩ f om om) hβk).spec (eM.cons v.vr.va eM.nil) ?_
    cases βk with
    | false =>
     simp only[*,go_sem];rw[L fun h=>by have:=hβk.2 (h.short C f hk);cases this]
     exact VR.mf rfl
    | true =>
    have E:=hβk.1 rfl;obtain⟨d1,d3,F⟩:=id E;rw[cH]at d1 d3 F;have q:=p.step w C E;simp -dsimp only[*,go_sem]
    repeat refine an ?_
    refine ax.intro fun bc fc=>?_;simp only[go_sem];refine aC (fun O S'=>∃i:Nat,i<=n-(k+1)/\O 3=ϑ b 0 (n-k)/\O 4=ι (det k H)/\O 5=ι (det (k+1) H)/\O 6=ϑ bc 0 (n-(k+1))/\O 31=ι ((n-(k+1):Nat):Int)/\O 32=ι i/\∃g',fv 29 2 1 S S' bc g' (n-(k+1)) (n-(k+1)) i (fun a j=>ι (cl H (k+1) a j))) (fun O S=>n-bO (O 32)) ?_ ?_
    .simp only[*,go_sem];exact⟨0,om,rfl,fun _=>0,fv.init fc (fun _ _=>rfl) _ _⟩
    .clear z K;rintro O S' ⟨i,Z,z,K,P,Q,r,t,g',o⟩;by_cases y:i<n-(k+1)
     .have hi1:i+1<n-k:=om
      obtain⟨Y,N,J⟩:=id (o.ext.has v.outer);have x1:Y (i+1)=ϑ (g (i+1)) 0 (n-k):=J (i+1) hi1;have hbc:b≠bc:=aY.fresh v.outer fc;obtain⟨g4,G,R⟩:=id o.outer;simp -dsimp only[*,go_sem,aa,aF (om:i<1000000)]
      repeat refine an ?_
      refine ax.intro fun bd fd=>?_;have hdc:bc≠bd:=aY.fresh o.outer fd;simp only[*,go_sem];have I:=o.push dc fd G (fun _=>ι 0)
      generalize hgg:(fun a=>if a=i then bd else g' a)=gg at I
      refine aC (fun O S'=>∃j:Nat,j<=n-(k+1)/\O 3=ϑ b 0 (n-k)/\O 4=ι (det k H)/\O 5=ι (det (k+1) H)/\O 6=ϑ bc 0 (n-(k+1))/\O 7=ι i/\O 8=ϑ (g (i+1)) 0 (n-k)/\O 31=ι ((n-(k+1):Nat):Int)/\O 32=ι i/\O 47=ι ((n-(k+1):Nat):Int)/\O 48=ι j/\fv 29 2 1 S S' bc gg (n-(k+1)) (n-(k+1)) (i+1) (fun a c=>ι (if a=i/\j<=c then 0 else cl H (k+1) a c))) (fun O S=>n-bO (O 48)) ?_ ?_
      .simp only[*,go_sem];refine⟨0,om,rfl,I.congr fun a c _ _=>?_⟩
       by_cases e:a=i
       .simp[e]
       .simp[e]
      .clear z K P Q r t o I G R hgg N J x1;rintro O S' ⟨j,hj,z,K,P,Q,e7,e8,r,t,e47,e48,o⟩;by_cases hjt:j<n-(k+1)
       .have T:j+1<n-k:=om
        obtain⟨g4,G,R⟩:=id o.outer;obtain⟨g5,U,v5⟩:=id (o.row i om);have x4:g4 i=ϑ (gg i) 0 (n-(k+1)):=(R i y).trans (aj om);have b1:=p.num (i:=i+1) (j:=j+1) ⟨d0,d2⟩ f om om;have b2:=p.num (i:=i+1) (j:=0) ⟨d0,d2⟩ f om om;have b3:=p.num (i:=0) (j:=j+1) ⟨d0,d2⟩ f om om;have hs2:2*((cl H k (i+1) 0).natAbs:Int)<=det (k+1) H:=by
         have h3:=F (i+1) om om;omega
        have hstep:=ie w.ne i j;rw[cH]at hstep;have p1:=kW (A:=65536) (B:=24696061952) (om:-65536<=det (k+1) H/\det (k+1) H<=65536) b1
        have p2:=kW (A:=65536) (B:=24696061952) (om:-65536<=cl H k (i+1) 0/\cl H k (i+1) 0<=65536) b3
        have q1:ω (det (k+1) H*cl H k (i+1) (j+1))=det (k+1) H*cl H k (i+1) (j+1):=i64_in om om;have q2:ω (cl H k (i+1) 0*cl H k 0 (j+1))=cl H k (i+1) 0*cl H k 0 (j+1):=i64_in om om;have q3:ω (det (k+1) H*cl H k (i+1) (j+1)-cl H k (i+1) 0*cl H k 0 (j+1))=det k H*cl H (k+1) i j:=by rw[<-hstep];exact i64_in om om
        have b4:=q.num (i:=i) (j:=j) ⟨d1,d3⟩ f om om;have q4:pV (det k H*cl H (k+1) i j) (det k H)=cl H (k+1) i j:=NI _ om;have q5:ω (cl H (k+1) i j)=cl H (k+1) i j:=i64_in om om;have q6:¬(det k H=0):=om
        obtain⟨Y,N,J⟩:=id (o.ext.has v.outer);obtain⟨g2,u2,v2⟩:=id (o.ext.has (v.row 0 d));obtain⟨g3,u3,v3⟩:=id (o.ext.has (v.row (i+1) hi1));have x1:Y 0=ϑ (g 0) 0 (n-k):=J 0 d;have x2:g2 (j+1)=ι (cl H k 0 (j+1)):=v2 (j+1) T;have x3:g3 (j+1)=ι (cl H k (i+1) (j+1)):=v3 (j+1) T;have x5:g3 0=ι (cl H k (i+1) 0):=v3 0 d;simp -dsimp only[*,go_sem,aF (om:i<1000000)]
        refine aN 27 kr ?_
        simp only[go_sem,aa,z,K,P,Q,e7,e8,r,t,e47,e48,y,hjt,T,d,u,N,u2,u3,x1,x2,x3,x5,aF (om:j<1000000),G,x4,U,q1,q2,q3,q4,q5,q6,bO]
        refine⟨⟨j+1,om,rfl,(o.put dc (om:i<i+1) U j (ι (cl H (k+1) i j))).congr fun a c _ _=>?_⟩,om⟩
        by_cases e:a=i/\c=j
        .obtain⟨rfl,rfl⟩:=e;rw[aj ⟨rfl,rfl⟩,ah om]
        .rw[ah e];congr 1;by_cases e2:a=i/\j<=c
         .rw[aj e2,aj om]
         .rw[ah e2,ah om]
       .simp only[*,go_sem,aF (om:i<1000000),bO]
        exact⟨⟨i+1,om,rfl,gg,o.congr fun a c _ hc=>by rw[ah om]⟩,om⟩
     .obtain rfl:i=n-(k+1):=om
      have hN:=o.imat (A:=cl H (k+1)) (fun _ _ _ _=>rfl);obtain⟨g4,G,R⟩:=id hN.1.outer;obtain⟨g5,U,v5⟩:=id (hN.1.row 0 om);have x4:g4 0=ϑ (g' 0) 0 (n-(k+1)):=R 0 om;have x5:g5 0=ι (det (k+2) H):=(v5 0 om).trans (by simp only[cH])
      have V:0<n-(k+1):=om
      have W:(0:Int)<((n-(k+1):Nat):Int):=om
      have X:gS H (k+1)↔3*(det (k+1) H*det (k+1) H)<=4*(det k H*det (k+2) H+cl H k 1 0*cl H k 1 0):=by
       unfold gS fq;rw[(om:k+1-1=k),(om:k+1-k=1),show k+1+1=k+2 from rfl]
      have hs2:2*((cl H k 1 0).natAbs:Int)<=det (k+1) H:=by
       have h3:=F 1 om om;omega
      have d4:=q.num (i:=0) (j:=0) ⟨d1,d3⟩ f om om;rw[cH,show k+1+1=k+2 from rfl]at d4;have p1:=kW (A:=65536) (B:=24696061952) (om:-65536<=det k H/\det k H<=65536) d4
      have p2:=kW (A:=65536) (B:=65536) (om:-65536<=cl H k 1 0/\cl H k 1 0<=65536) (om:-65536<=cl H k 1 0/\cl H k 1 0<=65536)
      have p3:=kW (A:=65536) (B:=65536) (om:-65536<=det (k+1) H/\det (k+1) H<=65536) (om:-65536<=det (k+1) H/\det (k+1) H<=65536)
      have q1:ω (det k H*det (k+2) H)=det k H*det (k+2) H:=i64_in om om;have q2:ω (cl H k 1 0*cl H k 1 0)=cl H k 1 0*cl H k 1 0:=i64_in om om;have q3:ω (det k H*det (k+2) H+cl H k 1 0*cl H k 1 0)=det k H*det (k+2) H+cl H k 1 0*cl H k 1 0:=i64_in om om;have q4:ω (4*(det k H*det (k+2) H+cl H k 1 0*cl H k 1 0))=4*(det k H*det (k+2) H+cl H k 1 0*cl H k 1 0):=i64_in om om;have q5:ω (3*det (k+1) H)=3*det (k+1) H:=i64_in om om;have q6:ω (3*det (k+1) H*det (k+1) H)=3*(det (k+1) H*det (k+1) H):=by rw[fu];exact i64_in om om
      have hk1n:k+1<n:=om
      obtain⟨Y,N,J⟩:=id (o.ext.has v.outer);obtain⟨g3,u3,v3⟩:=id (o.ext.has (v.row 1 M));have y1:Y 1=ϑ (g 1) 0 (n-k):=J 1 M;have y2:g3 0=ι (cl H k 1 0):=v3 0 d;by_cases q7:4*(det k H*det (k+2) H+cl H k 1 0*cl H k 1 0)<3*(det (k+1) H*det (k+1) H)
      .simp only[go_sem,aa,z,K,P,Q,r,t,y,d,u,M,l,V,W,N,u3,y1,y2,G,x4,U,x5,q1,q2,q3,q4,q5,q6,q7,show Int.toNat 1=1 from rfl];rw[L fun h=>by have:=X.1 (h.rows.2 (k+1) om hk1n);omega]
       exact VR.mf rfl
      .simp only[go_sem,aa,z,K,P,Q,r,t,y,d,u,M,l,V,W,N,u3,y1,y2,G,x4,U,x5,q1,q2,q3,q4,q5,q6,q7,show Int.toNat 1=1 from rfl];have hU1:=w.step E (X.2 om);refine⟨⟨k+1,om,hU1,q,ϑ bc 0 (n-(k+1)),aQ ⟨bc,g',rfl,hN.1⟩,rfl,rfl⟩,om⟩
  .have l:¬((1:Int)<((n-k:Nat):Int)):=om
   have hkn:k+1=n:=om
   have b1:=b0;rw[hkn]at b1 D;by_cases z1:0<det n H
   .by_cases z2:det n H<=10000
    .have hβt:β=true:=hβ.2 ⟨C,w.redB hkn z1 z2⟩;rw[hβt];rcases hSt with rfl|⟨b,g,rfl,v⟩
     .simp only[go_sem,aa,av,aK,z,l,u,D,z1,z2];exact VR.mf rfl
     .obtain⟨Y,N,J⟩:=v.outer;obtain⟨g2,u2,v2⟩:=v.row 0 om;have w1:=J 0 d;have w2:=v2 0 d;simp only[go_sem,aa,z,l,d,u,N,u2,w1,w2,D,z1,z2];exact VR.mf rfl
    .rw[L fun h=>z2 h.dt];rcases hSt with rfl|⟨b,g,rfl,v⟩
     .simp only[go_sem,aa,av,aK,z,l,u,D,z1,z2];exact VR.mf rfl
     .obtain⟨Y,N,J⟩:=v.outer;obtain⟨g2,u2,v2⟩:=v.row 0 om;have w1:=J 0 d;have w2:=v2 0 d;simp only[go_sem,aa,z,l,d,u,N,u2,w1,w2,D,z1,z2];exact VR.mf rfl
   .rw[L fun h=>z1 (h.pos n (ag n))];rcases hSt with rfl|⟨b,g,rfl,v⟩
    .simp only[*,go_sem,aa,av,aK];exact VR.mf rfl
    .obtain⟨Y,N,J⟩:=v.outer;obtain⟨g2,u2,v2⟩:=v.row 0 om;have w1:=J 0 d;have w2:=v2 0 d;simp only[*,go_sem,aa];exact VR.mf rfl

def JX:List AV:=[ι 7,ι 11,ι 13,ι 17,ι 19,ι 23,ι 29,ι 31]
def kT(_:St):Prop:=True
def kT.ext(_:kT S)(_:dh S S'):kT S':=trivial
def cI.s0(h:S 0=ae->cI f args S post):cI f args S post:=fun w vs a b=>h a.z w vs a b
def dvL:List Int:=[2,3,5]
def dvA:List AV:=[ι 2,ι 3,ι 5]
def Rq(a:i<3):dvA.getD i .any=ι (dvL.getD i 0)/\dvL.getD i 0≠0:=by
 rcases (om:i=0∨i=1∨i=2)with rfl|rfl|rfl<;>exact⟨rfl,by decide⟩
def Mj(a:i<3)(K:AV->Prop):By 238 (.agg [ι 2,ι 3,ι 5]) (ι i) K=K (ι (dvL.getD i 0)):=by
 rw[<-(Rq a).1];unfold By;apply propext;constructor
 .rintro (⟨h,_⟩|⟨_,_,_,h⟩)
  .exact absurd h dc
  .rwa [cR]at h
 .intro h;exact aQ ⟨a6 ⟨rfl,rfl⟩,by simp[dY],⟨om,by simp;omega⟩,by rwa [cR]⟩
def zU:List Nat:=[7,11,13,17,19,23,29,31,37]
def G5(a:i<8)(K:AV->Prop):By 239 (.agg JX) (ι i) K=K (ι ((zU.getD i 0:Nat):Int)):=by
 have e:JX.getD i .any=ι ((zU.getD i 0:Nat):Int):=by
  rcases (om:i=0∨i=1∨i=2∨i=3∨i=4∨i=5∨i=6∨i=7)with rfl|rfl|rfl|rfl|rfl|rfl|rfl|rfl<;>rfl
 rw[<-e];unfold By;apply propext;constructor
 .rintro (⟨h,_⟩|⟨_,_,_,h⟩)
  .exact absurd h dc
  .rwa [cR]at h
 .intro h;exact aQ ⟨aQ ⟨rfl,rfl⟩,by simp[dY,JX],⟨om,by simp[JX];omega⟩,by rwa [cR]⟩
def Of:(wD.map fun z=>ι z)=JX:=rfl
def dvN:List Nat:=[2,3,5]
def prm5(h:d=2∨d=3∨d=5):tH d:=⟨om,fun e b c=>by
 rcases aB e 3 with a|a
 .obtain rfl:e=2:=om
  omega
 .have:=aX a a;omega⟩
def Jd{p:Nat}(b:2<=d)(h:p%d=0):d=p∨¬tH p:=by
 rcases iM (tH p)with a|a
 .rcases a.div (Nat.dvd_of_mod_eq_zero h)with e|e
  .omega
  .exact a6 e
 .exact aQ a
def Og:∀i,i<8->7<=zU.getD i 0/\zU.getD i 0<=31/\∀x,x<37->zU.getD i 0<x->x<zU.getD (i+1) 0->x%2=0∨x%3=0∨x%5=0:=by decide
def GP{p e:Nat}(h:¬p%d=0)(a:e%d=0):¬p%e=0:=fun b=>h (Nat.mod_eq_zero_of_dvd (Nat.dvd_trans (Nat.dvd_of_mod_eq_zero a) (Nat.dvd_of_mod_eq_zero b)))
def LstQ(p:Nat)(r:AV):Prop:=∃d:Nat,r=ι d/\(d=p↔tH p)
def J4(S:St)(p:Nat)(N:2<=p)(P:p<=9973)(hG:kT S) :
  cI 256 [ι p] S (fun r S'=>LstQ p r/\S'=S):=by
 refine cI.s0 fun G=>?_;refine jg func256 ntmps256 results256 ?_;simp only[go_sem];refine cf (fun O S'=>∃i:Nat,i<=3/\(∀j,j<i->¬p%dvN.getD j 0=0)/\S'=S/\O 0=ι p/\O 10=.agg [ι 2,ι 3,ι 5]/\O 11=ι i) (fun O S=>3-bO (O 11)) ?_ ?_
 .simp only[go_sem];exact⟨0,om,fun j Q=>om,rfl⟩
 rintro Q' b O S' ⟨i,R,c,rfl,o,f,g⟩;by_cases a:i<3
 .have D:decide ((i:Int)<3)=true:=by simp;omega
  obtain⟨q,K,H⟩:∃q:Nat,q=dvN.getD i 0/\(q=2∨q=3∨q=5):=by
   rcases (om:i=0∨i=1∨i=2)with rfl|rfl|rfl<;>exact⟨_,rfl,by decide⟩
  have x:dvL.getD i 0=(q:Int):=by
   rw[K];rcases (om:i=0∨i=1∨i=2)with rfl|rfl|rfl<;>rfl
  have y:¬(q:Int)=0:=om
  by_cases s:p%q=0
  .simp only[go_sem,o,f,g,D,Mj a,x,y,qm,s,show(((0:Nat):Int)==0)=true from rfl];rw[b];simp only[go_sem];exact⟨q,rfl,fun h=>by rw[<-h];exact prm5 H,fun h=>(Jd om s).resolve_right (fun w=>w h)⟩
  .have t:(((p%q:Nat):Int)==0)=false:=by simp;omega
   simp only[go_sem,o,f,g,D,Mj a,x,y,qm,t,aF (om:i<1000000),bO]
   refine⟨⟨i+1,om,fun j Q=>?_,rfl⟩,om⟩
   by_cases e:j=i
   .rw[e,<-K];exact s
   .exact c j om
 obtain rfl:i=3:=om
 have T:¬p%2=0:=c 0 om;have U:¬p%3=0:=c 1 om;have V:¬p%5=0:=c 2 om;have D:decide (((3:Nat):Int)<3)=false:=by decide
 simp only[go_sem,o,f,g,D];rw[b];simp only[go_sem,o];refine cf (fun O S1=>∃k:Nat,k<=3/\(∀e,2<=e->e<30*k+7->¬p%e=0)/\S1=S'/\O 0=ι p/\O 5=ι p/\O 6=ι ((30*k:Nat):Int)) (fun O S=>200-bO (O 6)) ?_ ?_
 .simp only[go_sem,o];refine⟨0,om,fun e E w W=>?_,rfl⟩
  rcases (om:e=2∨e=3∨e=4∨e=5∨e=6)with rfl|rfl|rfl|rfl|rfl<;>omega
 clear o f g b;rintro Q' b O S1 ⟨k,hk,z,rfl,o,e5,e6⟩;simp only[go_sem,aa,G,Of];refine cf (fun O S2=>∃i:Nat,i<=8/\(∀e,2<=e->e<30*k+zU.getD i 0->¬p%e=0)/\(i=8->k<=2)/\S2=S1/\O 0=ι p/\O 5=ι p/\O 6=ι ((30*k:Nat):Int)/\O 23=.agg JX/\O 24=ι i) (fun O S=>8-bO (O 24)) ?_ ?_
 .simp only[*,go_sem];exact⟨0,om,z,fun h=>om,rfl⟩
 rintro Q2 u O2 S2 ⟨i,R,v,X,rfl,f0,A,F,l,m⟩;by_cases a:i<8
 .have I:decide ((i:Int)<8)=true:=by simp;omega
  obtain⟨g1,g2,Y⟩:=Og i a;obtain⟨d,Z⟩:∃d,d=30*k+zU.getD i 0:=⟨_,rfl⟩;have wd:ω (((30*k:Nat):Int)+((zU.getD i 0:Nat):Int))=(d:Int):=dN om om;have hdd:d*d<=121*121:=aX om om;have wdd:ω ((d:Int)*d)=((d*d:Nat):Int):=dN (by rw[aV]) om
  have B:¬((d:Int)=0):=om
  by_cases J:p<d*d
  .simp only[go_sem,f0,A,F,l,m,I,G5 a,wd,wdd,J];rw[u];simp only[go_sem];rw[b];simp only[go_sem,A];refine⟨p,rfl,fun _=>⟨N,fun e w W=>v e w ?_⟩,fun _=>rfl⟩;rw[<-Z];rcases aB e d with n|n
   .exact n
   .have:=aX n n;omega
  .by_cases s:p%d=0
   .simp only[go_sem,f0,A,F,l,m,I,G5 a,wd,wdd,J,B,qm,s,show(((0:Nat):Int)==0)=true from rfl];rw[u];simp only[go_sem];rw[b];simp only[go_sem];have C:d≠p:=fun e=>by
     have:2*d<=d*d:=aq d om;omega
    exact⟨d,rfl,fun h=>absurd h C,fun h=>absurd h ((Jd om s).resolve_left C)⟩
   .have t:(((p%d:Nat):Int)==0)=false:=by simp;omega
    have L:d<=99:=by
     rcases aB 99 d with h|h
     .have:100*100<=d*d:=aX h h;omega
     .exact h
    simp only[go_sem,f0,A,F,l,m,I,G5 a,wd,wdd,J,B,qm,t,aF (om:i<1000000),bO]
    refine⟨⟨i+1,om,fun e E w=>?_,fun h=>?_,rfl⟩,om⟩
    .rcases c8 e d with n|n|n
     .exact v e E om
     .rw[n];exact s
     .have h37:zU.getD (i+1) 0<=37:=by
       rcases (om:i=0∨i=1∨i=2∨i=3∨i=4∨i=5∨i=6∨i=7)with rfl|rfl|rfl|rfl|rfl|rfl|rfl|rfl<;>decide
      have:=Y (e-30*k) om om om;rcases this with M|M|M
      .exact GP T om
      .exact GP U om
      .exact GP V om
    .have:zU.getD i 0=31:=by rw[(om:i=7)]<;>rfl
     omega
 .obtain rfl:i=8:=om
  have hk2:=X rfl;simp only[go_sem,f0,A,F,l,m,show decide (((8:Nat):Int)<8)=false by decide]
  rw[u];have w30:ω (((30*k:Nat):Int)+30)=((30*(k+1):Nat):Int):=dN om om;simp only[*,go_sem,bO];exact⟨⟨k+1,om,fun e E w=>v e E (by show e<30*k+37;omega),rfl⟩,om⟩
def Ih(S:St)(p:Int)(c:p<=9973)(β:Bool)(hβ:β=true↔2<=p/\tH p.toNat)(f:kT S):cI 221 [ι p] S (fun r S'=>r=.bool β/\S'=S):=by
 refine jg func221 ntmps221 results221 ?_;have i:decide (p<=2147483647)=true:=by simp;omega
 by_cases a:2<=p
 .obtain⟨q,rfl⟩:∃q:Nat,p=q:=⟨p.toNat,om⟩
  have g:decide ((2:Int)<=(q:Int))=true:=by simp;omega
  simp -dsimp only[*,go_sem,aa];refine(J4 S q om om f).mono ?_;rintro _ S' ⟨⟨d,rfl,b⟩,rfl⟩;have j:β=((d:Int)==(q:Int)):=by
   by_cases e:d=q
   .rw[hβ.2 ⟨a,b.1 e⟩,e];simp
   .rw[dC hβ fun h=>e (b.2 h.2)];simp;omega
  simp only[*,go_sem]
 .have g:decide (2<=p)=false:=by simpa using a
  simp only[*,go_sem,aa];rw[dC hβ fun h=>a h.1]
open Classical in
noncomputable def ro(n:Nat)(H:az)(p:Int):Int:=if eQ n H then(if rQ p/\¬det n H%p=0 then 0 else 20)else 6
def OH{p:Int}(h:¬eQ n H):ro n H p=6:=by unfold ro;rw[ah h]
def Fj{p:Int}(h:eQ n H)(a:¬(rQ p/\¬det n H%p=0)):ro n H p=20:=by unfold ro;rw[aj h,ah a]
def Je{p:Int}(h:eQ n H)(a:rQ p/\¬det n H%p=0):ro n H p=0:=by unfold ro;rw[aj h,aj a]
def eQ.iff(c:1<=n)(a:n<=8):eQ n H↔(∀i j,i<n->j<n->H i j=H j i)/\vu H n:=⟨eQ.redB,fun⟨d,b⟩=>⟨c,a,b.red d a,b.dt⟩⟩
def Cr(S:St)(n:Nat)(H:az)(p:Int)(f:1<=n)(g:n<=8)(q:kT S):cI 174 [av n n H,ι p] S (fun r S'=>r=ι (ro n H p)/\dh S S'):=by
 refine jg func174 ntmps174 results174 ?_;obtain⟨β,hβ⟩:=oM (eQ n H);simp -dsimp only[go_sem,aa];refine(mS n H β f g (hβ.trans (eQ.iff f g))).call ?_
 cases β with
 | false =>
  simp only[go_sem,aa];rw[OH fun h=>by have:=hβ.2 h;cases this]
  exact⟨rfl,dh.refl S⟩
 | true =>
 have i:=hβ.1 rfl;have no:¬rQ p->ro n H p=20:=fun h=>Fj i fun s=>h s.1;by_cases l:p=2
 .simp only[go_sem,aa,show(p==2)=true by simpa using l]
  rw[no fun h=>by have:=h.1;omega]
  exact⟨rfl,dh.refl S⟩
 have t:(p==2)=false:=by simpa using l
 by_cases m:9973<p
 .simp only[go_sem,aa,t,show decide (9973<p)=true by simpa using m]
  rw[no fun h=>by have:=h.2.1;omega]
  exact⟨rfl,dh.refl S⟩
 have w:decide (9973<p)=false:=by simpa using m
 obtain⟨βp,j⟩:=oM (2<=p/\tH p.toNat);simp -dsimp only[*,go_sem,aa];refine(Ih S p om βp j q).mono ?_;rintro _ S' ⟨rfl,rfl⟩
 cases βp with
 | false =>
  simp only[*,go_sem,aa];rw[no fun h=>by have:=j.2 ⟨by have:=h.1;omega,h.2.2⟩;cases this]
  exact⟨rfl,dh.refl _⟩
 | true =>
 obtain⟨x,c⟩:=j.1 rfl;have u:rQ p:=⟨om,om,c⟩
 simp -dsimp only[*,go_sem,aa];have v:=((F6 n H p f g om om (fun a b h=>by have:=c.mul a b;rw[c9 om]at this;exact this h)).less (post':=fun r S'=>(∃d:Int,(d=0↔p∣det n H)/\r=.tup [ι d,ι 0])/\S'=St.none) fun r S' h=>⟨St.none,(fun b X k=>by simp[St.none]at k),h,rfl⟩).frame (cD S' _) (by rintro r S1 ⟨⟨d,_,rfl⟩,rfl⟩;exact⟨rfl,fun b X k=>by simp[St.none]at k⟩)
 refine v.mono ?_;rintro _ S2 ⟨S1,⟨⟨d,o,rfl⟩,rfl⟩,_,rfl⟩;by_cases e:d=0
 .simp only[go_sem,show(d==0)=true by simpa using e,aR]
  rw[Fj i fun h=>h.2 (cM (o.1 e))];exact⟨rfl,od _ _⟩
 .simp only[go_sem,show(d==0)=false by simpa using e,aR]
  rw[Je i ⟨u,fun h=>e (o.2 (dF h))⟩];exact⟨rfl,od _ _⟩

def KD{K:AV->St->Prop}(c:S b=some ⟨2,1,0,g0⟩)(d:0<n)(k:n<=1000)
  (f:∀b' h,(b'=b∨S b'=ae)->(∀j,j<n->h j=ι (v j))->K (ϑ b' 0 n) ((S.del b).upd b' ⟨2,1,n,h⟩)):gE 29 29 (ϑ b 0 0) (.lst 1 n (fun j=>ι (v j))) S K:=by
 have g:DF S (.lst 1 n (fun j=>ι (v j)))=some (1,n,fun j=>ι (v j),ae):=rfl;unfold gE;rw[show dQ 29=some 2 from rfl,g];refine⟨rfl,rfl,rfl,d,fun j i=>by simp[dY],?_⟩
 .simp only[c];refine⟨trivial,trivial,trivial,trivial,trivial,om,(fun e=>by cases e),fun b' a=>?_⟩
  rw[aM];refine f b' _ a fun j i=>?_;unfold pN;split
  .have:j=0:=om
   subst this;simp only[aL,aH,aM]
  .simp only[xg,aI,dD]
def RA{K:AV->St->Prop}:da 29 0 [] S K=ax S (fun b=>K (ϑ b 0 0) (S.upd b ⟨2,1,0,fun j=>([]:List AV).getD j .any⟩)):=by
 simp only[da,dQ,cg];simp[eD,fZ,ax]
def BN(S:St)(n:Nat)(v:Nat->Int)(f:0<n)(m:n<=1000) :
  cI 177 [aK n v] S (fun r S'=>∃b,r=ϑ b 0 n/\aY S' b 2 1 n (fun j=>ι (v j))/\dh S S'/\S b=ae):=by
 refine jg func177 ntmps177 results177 ?_;simp -dsimp only[go_sem,RA,aK];refine⟨f,ax.intro fun g c=>?_⟩
 try simp -dsimp only[go_sem]
 refine KD bW f m ?_;intro b' h d o;have i:S b'=ae:=by
  rcases d with rfl|h
  .exact c
  .by_cases e:b'=g
   .rw[e];exact c
   .rw[aE e]at h;exact h
 simp only[go_sem];refine⟨b',rfl,aY.here o,fun k X a=>?_,i⟩;have p:k≠b':=fun e=>by rw[e,i]at a;cases a
 have l:k≠g:=fun e=>by rw[e,c]at a;cases a
 rw[aE p];unfold St.del;rw[ah l,aE l];exact a
def zV(n:Nat)(H:az)(v:Nat->Int)(m:Int):eE n (lO H m) v n%m=eE n H v n%m:=by
 unfold eE;refine nk n _ _ m fun i _=>?_;rw[eZ,nk n (fun j=>lO H m i j*v j) (fun j=>H i j*v j) m fun j _=>?_,<-eZ];show(H i j%m*v j)%m=_;rw[eZ,jO _ (iL m),<-eZ]
def Ad(n p:Nat)(H:az)(v:Nat->Int)(β:Bool)(C:1<=n)(F:n<=8)(M:2<=p)(G:p<=9973)(hβ:β=true↔CI n p H v):PF 175 [av n n H,ι p,aK n v] (.bool β):=by
 refine iy func175 ntmps175 results175 ?_;simp only[go_sem,av,aK,aR];refine cf (fun O S=>∃i:Nat,i<=n/\(∀k,k<i->0<=v k/\v k<p)/\O 0=av n n H/\O 1=ι p/\O 2=aK n v/\O 7=ι (il v i)/\O 17=aK n v/\O 18=ι n/\O 19=ι i) (fun O S=>n-bO (O 19)) ?_ ?_
 .simp only[go_sem,av,aK];exact⟨0,om,fun k I=>om,rfl,rfl⟩
 rintro Q' o O S ⟨i,D,d,x,u,w,t,q,r,s⟩;by_cases a:i<n
 .by_cases E:v i<0
  .simp only[go_sem,av,aK,x,u,w,t,q,r,s,a,E];rw[o];simp only[go_sem];rw[dC hβ fun h=>by have:=h.1 i a;omega]
   exact VR.mf rfl
  by_cases J:(p:Int)<=v i
  .simp only[go_sem,av,aK,x,u,w,t,q,r,s,a,E,J];rw[o];simp only[go_sem];rw[dC hβ fun h=>by have:=h.1 i a;omega]
   exact VR.mf rfl
  have l:∀k,k<i+1->0<=v k/\v k<p:=fun k I=>by
   by_cases e:k=i
   .rw[e];omega
   .exact d k om
  by_cases z:il v i=0
  .simp only[*,go_sem,av,aK,cb,aF (om:i<1000000),bO]
   refine⟨⟨i+1,om,l,?_,rfl⟩,om⟩
   simp only[il,z,aH]
  .have N:(il v i==0)=false:=by simpa using z
   simp only[*,go_sem,av,aK,aF (om:i<1000000),bO]
   refine⟨⟨i+1,om,l,?_,rfl⟩,om⟩
   simp only[il,z,aI]
 have B:i=n:=om
 rw[B]at t d;simp only[go_sem,aa,x,u,w,t,q,r,s,a];rw[o];simp -dsimp only[*,go_sem,aa];refine(yg n n H p C om C om om om S _ (cD _ _)).mono ?_;rintro _ S1 ⟨b,g,rfl,K,_⟩;by_cases f:il v n=1
 .have c:(il v n==1)=true:=by rw[f]<;>rfl
  simp -dsimp only[go_sem,aa,x,u,w,t,c];have L:=rh (A:=H) (m:=(p:Int)) om;refine(zW n p (lO H p) v F om om (fun i j _ _=>by have:=L i j;omega) (fun i D=>by have:=d i D;omega)).spec (eM.three K.vr.va (VA.refl _ _) (VA.refl _ _)) ?_
  rw[zV];by_cases y:eE n H v n%(p:Int)=0
  .rw[y,hβ.2 ⟨d,f,y⟩];simp only[*,go_sem,cb];exact VR.mf rfl
  .rw[dC hβ fun h=>y h.2.2];simp only[go_sem,u,w,t,c,show(eE n H v n%(p:Int)==0)=false by simpa using y]
   exact VR.mf rfl
 .have c:(il v n==1)=false:=by simpa using f
  simp only[*,go_sem];rw[dC hβ fun h=>f h.2.1];exact VR.mf rfl
def G2(n l p:Nat)(H:az)(v:Nat->Int)(β:Bool)(b:1<=n)(c:n<=8)(d:2<=p)(a:p<=9973)(hβ:β=true↔l=n/\CI n p H v):PF 175 [av n n H,ι p,aK l v] (.bool β):=by
 by_cases e:l=n
 .subst e;exact Ad l p H v β b c d a (hβ.trans ⟨fun h=>h.2,fun h=>⟨rfl,h⟩⟩)
 .refine iy func175 ntmps175 results175 ?_;simp only[go_sem,av,aK,show((l:Int) != n)=true by simp;omega]
  rw[dC hβ fun h=>e h.1];exact VR.mf rfl
def J6(n p:Nat)(H:az)(v:Nat->Nat)(c:1<=n)(d:n<=8)(e:2<=p)(a:p<=9973)(b:jn n p H v):PF 175 [av n n H,ι p,aK n (fun k=>v k)] (.bool true) :=
 Ad n p H _ true c d e a ⟨fun _=>⟨fun i f=>by have:=b.lt i f;dsimp only;omega,b.lead,b.norm⟩,fun _=>rfl⟩

def qR(n:Nat)(H:az)(p:Int)(v:Nat->Int):Nat->Int:=fun i=>(ap n fun j=>H i j*v j)%p
def LG(n:Nat)(H:az)(p:Int)(v:Nat->Int)(i:Nat):(ap n fun j=>lO H (p*p) i j*v j)%p=qR n H p v i:=by
 refine nk n _ _ p fun j _=>?_;show(H i j%(p*p)*v j)%p=_;rw[eZ,jO _ (Int.dvd_mul_right p p),<-eZ]
def yE(n:Nat)(H:az)(p:Int)(v:Nat->Int)(i:Nat):gK n H p v i=qR n H p v i:=by
 refine nk n _ _ p fun j _=>?_;show(H i j%p*(v j%p))%p=_;rw[<-eZ]
theorem qD:∀(a b:List Oper) (O:Tm) (S:St) (pend:List (Nat×eA)) (K:Tm->List (Nat×eA)->Prop),Gg (a++b) O S pend K=Gg a O S pend (fun O' p'=>Gg b O' S p' K)
 | [],_,_,_,_,_=>rfl
 | o::a,b,O,S,pend,K=>by
  simp only[oS,Gg];split
  .split
   .exact qD a b _ _ _ _
   .rfl
  .simp only[qD a b]
def DX{K:Tm->List (Nat×eA)->Prop}(r:Nat)(h:∀K',K'=(fun O' p'=>Gc (l.drop r) O' S p' K)->Gc (l.take r) O S pend K'):Gc l O S pend K:=by
 have h:=h _ rfl;rw[qL]at h ⊢;rw[<-qD,yi]at h;exact h
def P3{K:Tm->List (Nat×eA)->Prop}:Gc [] O S pend K=K O pend:=by rw[qL]<;>rfl
def P2:Er ops [] O S K=K O S:=by rw[xD]<;>rfl
def Pk(h:∀Q',Q'=Q->Aw c Q' O S):Aw c Q O S:=h _ rfl
def Pn(r q:Nat)(a:xT ops q [] false=true)
  (h:∀K',K'=(fun O' pend=>Gc ((ops.toList.take q).drop r) O' S pend (fun O' pend=>if pend.isEmpty then Er ops (ops.toList.drop q) O' S K else vS pend (Aq (qz (ops.toList.take q)) O') S (fun O S=>Er ops (ops.toList.drop q) O S K)))->Gc ((ops.toList.take q).take r) O S [] K'):It ops O S K:=by
 refine aN q a ?_;have h:=h _ rfl;rw[qL]at h ⊢;rw[<-qD,yi]at h;exact h
def KV(S:St)(n p piv:Nat)(H:az)(v:Nat->Nat)(hF:eQ n H)(hg:jw (det n H) p)(J:nI p)(hL:jn n p H v)(hG:kT S)
  (hpiv:piv<n) (K:qR n H p (fun k=>v k) piv≠0) (hsz:∀i,i<piv->qR n H p (fun k=>v k) i=0) :
  cI 121 [av n n H,ι p,aK n (fun k=>v k)] S (fun r S'=>∃b t,S b=ae/\0<=t/\t<(p:Int)/\(p:Int)*p∣jm n H (fun k=>if k=piv then((v k:Nat):Int)+p*t else v k) (fun k=>if k=piv then((v k:Nat):Int)+p*t else v k)/\r=.tup [ϑ b 0 n,ι 0]/\aY S' b 2 1 n (fun k=>ι (if k=piv then((v k:Nat):Int)+p*t else v k))/\dh S S'):=by
 have L:=hF.one;have hn:=hF.eight;have l:=J.2;refine jg func121 TC SU ?_;simp -dsimp only[go_sem,aa];refine(Cr S n H p L hn hG).mono ?_;rintro _ S1 ⟨rfl,y⟩;rw[Je hF ⟨rQ.of J,hg.2.2.2⟩];simp -dsimp only[go_sem,aa];refine(J6 n p H v L om om om hL).spec (cD _ _) ?_;have hpp:(p:Int)*p<=99460729/\9<=(p:Int)*p:=by
  rw[<-aV];have a:=aX l.2 l.2;have b:=aX l.1 l.1;omega
 have wpp:ω ((p:Int)*p)=(p:Int)*p:=i64_in om om;simp -dsimp only[go_sem,aa,wpp];refine(yg n n H (p*p) L om L om om om S1 _ (cD _ _)).mono ?_;rintro _ S2 ⟨br,gr,rfl,hR,z,_,_⟩;simp -dsimp only[go_sem,aa];refine(BN S2 n (fun k=>v k) om om).mono ?_;rintro _ S3 ⟨bx,rfl,hx3,M,P⟩;have B:=hR.ext M;simp only[go_sem];have hr:=rh (A:=H) (m:=(p:Int)*p) om;have C:∀i,i<n->(0:Int)<=(v i:Nat)/\((v i:Nat):Int)<=9972:=fun i hi=>by have:=hL.lt i hi;omega
 have Q:dh S S3:=(y.trans z).trans M;refine cf (fun O S=>∃i:Nat,i<=piv/\S3=S/\O 1=ι p/\O 2=aK n (fun k=>v k)/\O 9=ϑ br 0 n/\O 11=ϑ bx 0 n/\O 39=ϑ br 0 n/\O 40=ι n/\O 41=ι i) (fun O S=>n-bO (O 41)) ?_ ?_
 .simp only[go_sem];exact⟨0,om,rfl⟩
 rintro Q' hQ' O _ ⟨i,hi,rfl,u,e2,e9,o,D,E,F⟩;have d:i<n:=om
 obtain⟨g1,u1,v1⟩:=id B.outer;have x1:g1 i=ϑ (gr i) 0 n:=v1 i d;simp -dsimp only[go_sem,aa,u,e2,D,E,F,d,u1,x1];refine(Fg n p (lO H (p*p) i) (fun k=>v k) om om (fun j G=>by have:=hr i j;omega) (fun j G=>by have:=C j G;omega)).spec (eM.three (oq.vr (B.row i d)).va (VA.refl _ _) (VA.refl _ _)) ?_
 rw[LG];by_cases hip:i<piv
 .simp only[*,go_sem,hsz i hip,cb,aF (om:i<1000000),bO]
  exact⟨⟨i+1,om,rfl⟩,om⟩
 obtain rfl:i=piv:=om
 have hsb:(qR n H p (fun k=>v k) i==0)=false:=by simpa using K
 have R:0<=qR n H p (fun k=>v k) i/\qR n H p (fun k=>v k) i<p:=⟨aW _ om,aS _ om⟩;generalize hsl:qR n H p (fun k=>v k) i=sl at *;have w2:ω (2*sl)=2*sl:=i64_in om om;simp -dsimp only[go_sem,u,e2,e9,o,D,E,F,hsb,w2];refine ax.intro fun f T=>?_
 try simp -dsimp only[go_sem]
 refine ax.intro fun q U=>?_;have n56_55:=(af U).1
 try simp -dsimp only[go_sem,u]
 have hIM:eg ((S3.upd f ⟨2,1,1,fun j=>[ι (2*sl)].getD j .any⟩).upd q ⟨29,1,1,fun j=>[ϑ f 0 1].getD j .any⟩) q (fun _=>f) 1 1 (fun _ _=>2*sl):=by
  refine⟨aY.here fun j G=>?_,fun j _=>aY.upd (aY.here fun k hk=>?_) n56_55.symm _,fun i j L h2 _=>om⟩
  .obtain rfl:j=0:=om
   rfl
  .obtain rfl:k=0:=om
   rfl
 have x:S3 q=ae:=by rwa [aE n56_55]at U
 have up2:∀{b ty es m:Nat} {g:Nat->AV},aY S3 b ty es m g->aY ((S3.upd f ⟨2,1,1,fun j=>[ι (2*sl)].getD j .any⟩).upd q ⟨29,1,1,fun j=>[ϑ f 0 1].getD j .any⟩) b ty es m g:=fun h=>(h.upd (h.fresh T) _).upd (h.fresh x) _;have V:dh S3 ((S3.upd f ⟨2,1,1,fun j=>[ι (2*sl)].getD j .any⟩).upd q ⟨29,1,1,fun j=>[ϑ f 0 1].getD j .any⟩):=((dh.refl S3).upd T _).upd x _;have h2s:0<2*sl%p/\2*sl%p<p:=by
  have a:=aW (2*sl) (show(p:Int)≠0 by omega)
  have b:=aS (2*sl) (show(0:Int)<p by omega)
  have c:2*sl%p≠0:=fun h=>by
   rcases J.1.mul 2 sl (dF h)with h|h
   .have:=jX om h;omega
   .exact K (by have:=cM h;rwa [dv R.1 R.2]at this)
  omega
 have W:¬(p:Int)∣2*sl:=fun h=>by have:=cM h;omega
 have hei:=J.1.inv1 W;refine(vG (2*sl) p om om (J.1.gcd' W) _ _ (eM.two hIM.vr.va (VA.refl _ _))).mono ?_;rintro _ S4 ⟨bi,gi,rfl,X,hE4,_,_⟩;have Z:=pB (p:=(p:Int)) om (2*sl);generalize lp p (2*sl)=iv at *;have s:dh S3 S4:=V.trans hE4;have hx4:=s.has hx3;have hR4:=B.ext s;obtain⟨gb,ub,vb⟩:=id X.outer;obtain⟨gc,uc,vc⟩:=id (X.row 0 om);obtain⟨gx,ux,vx⟩:=id hx4;have xb:gb 0=ϑ (gi 0) 0 1:=vb 0 om;have xc:gc 0=ι iv:=vc 0 om;have xx:gx i=ι (v i:Nat):=vx i d;have hN:eE n (lO H (p*p)) (fun k=>v k) n%(p*p)=eE n H (fun k=>v k) n%(p*p):=zV n H _ _;have hN0:=aW (eE n H (fun k=>v k) n) (show(p:Int)*p≠0 by omega)
 have hN1:=aS (eE n H (fun k=>v k) n) (show(0:Int)<p*p by omega)
 generalize hNN:eE n H (fun k=>v k) n%((p:Int)*p)=N at *;have hk0:0<=N/p/\N/p<p:=by
  refine⟨mC hN0 om,?_⟩;exact Int.ediv_lt_of_lt_mul om hN1
 have k1:ω (N.tdiv p)=N/p:=by rw[fG hN0];exact i64_in om om
 have k2:ω (p-N/p)=p-N/p:=i64_in om om;have hm0:0<=(p-N/p)*iv/\(p-N/p)*iv<=99460729:=by
  have:=ck (show(p:Int)-N/p<=9973 by omega) (om:iv<=9973) Z.1 om
  exact⟨cC om Z.1,om⟩
 have k3:ω ((p-N/p)*iv)=(p-N/p)*iv:=i64_in om om;have k4:((p-N/p)*iv).tmod p=(p-N/p)*iv%p:=aJ hm0.1;have I:=aW ((p-N/p)*iv) (show(p:Int)≠0 by omega)
 have ht1:=aS ((p-N/p)*iv) (show(0:Int)<p by omega)
 generalize hT:(p-N/p)*iv%(p:Int)=t at *;have hnm:=Cg hF.red.pd.sym d (show(0:Int)<p by omega) hsl hei hNN hL.norm hT
 have hpt:0<=(p:Int)*t/\(p:Int)*t<=99460729:=by
  have:=ck (show(p:Int)<=9973 by omega) (om:t<=9973) I om
  exact⟨cC om I,om⟩
 have k5:ω (p*t)=p*t:=i64_in om om;have hvi:=C i d;have k6:ω (((v i:Nat):Int)+p*t)=((v i:Nat):Int)+p*t:=i64_in om om;have hp0:¬(p:Int)=0:=om
 simp -dsimp only[go_sem,u];refine Pn 7 19 kr fun K' hK'=>?_
 simp only[go_sem,aa,u,e2,e9,wpp];refine⟨_,(zW n (p*p) (lO H (p*p)) (fun k=>v k) om om om (fun i j _ _=>by have:=hr i j;omega) (fun j G=>by have:=C j G;omega)).pureS (eM.three hR4.vr.va (VA.refl _ _) (VA.refl _ _)),?_⟩
 rw[aV,hN,hK'];refine DX 7 fun K'' hK''=>?_;simp only[go_sem,aa,u,ub,xb,hp0,k1,k2]
 repeat refine an ?_
 rw[hK''];refine DX 3 fun K3 hK3=>?_;simp only[go_sem,aa,u,uc,xc,k3]
 suffices key:∀O':Tm,O' 1=ι p->O' 11=ϑ bx 0 n->O' 12=ι i->O' 76=ι ((p-N/p)*iv)->O' 77=ι p->K3 O' [] by
  refine key _ ?_ ?_ ?_ ?_ ?_<;>simp only[*,go_sem]
 clear u e2 e9 o D E F hK' hK'';intro O' u o e12 e76 e77;rw[hK3];refine DX 2 fun K4 hK4=>?_;simp only[go_sem,e76,e77,hp0,k4];rw[hK4];clear hK4 hK3;rw[show(List.drop 2 (List.drop 3 (List.drop 7 (List.drop 7 (List.take 19 (Array.toList _))))))=([]:List Oper)from rfl];dsimp only;rw[P3];rw[show List.isEmpty ([]:List (Nat×eA))=true from rfl,aj rfl];rw[show(List.drop 19 (Array.toList _))=([]:List Oper)from rfl];rw[P2];refine Pk fun Q3 hQ3=>?_;simp only[go_sem,aa,u,o,e12,d,ux,xx,k5,k6];rw[hQ3];simp only[go_sem];rw[hQ'];simp only[go_sem];have hbS:S bx=ae:=by
  cases e:S bx with
  | none=>rfl
  | some Y=>have:=z _ Y (y _ Y e);rw[P]at this;cases this
 refine⟨bx,hbS,t,I,ht1,hnm,by rw[o],aY.here fun j G=>?_,fun k Y hY=>?_⟩
 .show aL gx i _ j=_;unfold aL;by_cases w:j=i
  .rw[aj w,w,aj rfl]
  .rw[ah w,ah w];exact vx j G
 .have hk:k≠bx:=fun e=>by
   subst e;have:=z k Y (y k Y hY);rw[P]at this;cases this
  rw[aE hk];exact(Q.trans s) k Y hY

def D3(f:Nat->Int){j:Nat}(a:j<n):(f j).natAbs<=dR n f:=by
 have:=l7 f a;omega
def nbK(h:z.natAbs<=jc k (fun _=>2^30))(a:k<=9):nb z KB:=by
 rw[E0]at h;exact dG h (jL om (by have:=mR;omega))
def JV{p:Int}{piv:Nat}{x:Nat->Int}(m:1<=n)(g:n<=8)(v:0<p)(d:p<=9973)(b:piv<n)(o:∀j,j<n->0<=q j/\q j<=9972)(s:∀i,i<n->(x i).natAbs<=100000000) :
  mN n (fB n (yv n p piv q x)):=by
 have a:=LT g (Dr (piv:=piv) om d o s);refine⟨m,g,fun σ k e k' i j c l=>?_,E7 om b q x,fun R t u _ σ neg k e k' i j l c=>?_,fun r j w c=>?_⟩
 .have h:=zF a (k:=k') (i:=i) (j:=j) c e.sum;exact nbK h om
 .have h:=Bl (B:=wM (fB n (yv n p piv q x)) n R) (N:=n+1) (f:=fun _=>2^30) (fun r _=>a _) (fun r _=>iO om) (k:=k') (i:=i) (j:=j) l c e.row;exact nbK h om
 .have h:=D3 (fB n (yv n p piv q x) r) c;exact nbK (k:=1) (by rw[E0];exact bQ h (a r)) om
noncomputable def FI(n:Nat):Nat:=jk KB n+jk KB n+9+KB
def KN.up{U:az}(a:KN n A R H U){i j:Nat}(b:i<n)(c:j<n+1):ln (n+1) (fun k r=>A r k) U j i=H i j:=by
 rw[<-a.mu i j om c];unfold ln mm;refine ay fun k d=>?_;show A i k*U k j=wM A n R i k*U k j;unfold wM vU;rw[aj b]
def KN.ubits(f:mN n A){R:Nat}{H U:az}(l:KN n A R H U)(t:∀i j,i<n+1->j<n+1->nb (H i j) KB){a c:Nat}(m:a<n+1)(s:c<n+1):nb (U a c) (jk KB n+jk KB n+9):=by
 have u:=mR;have o:∀i j,i<n+1->j<n+1->nb (wM A n R i j) KB:=fun i j d b=>f.hent _ _ (by have:=l.r2;unfold vU;split<;>omega) b
 have p:∀i j,i<n+1->j<n+1->nb (iq (n+1) (wM A n R) i j) (jk KB n):=fun i j d b=>by
  have h:=Al (by have:=f.hn;omega) om o n i j d b
  unfold iq;split
  .exact h.neg
  .exact h
 have e:mm (n+1) (iq (n+1) (wM A n R)) H a c=det (n+1) (wM A n R)*U a c:=by
  have v:mm (n+1) (iq (n+1) (wM A n R)) H a c=mm (n+1) (iq (n+1) (wM A n R)) (mm (n+1) (wM A n R) U) a c:=rk (fun _ _=>rfl) fun k q=>(l.mu k c q s).symm;rw[v,<-oc];unfold mm;rw[ay (g:=fun k=>(if a=k then det (n+1) (wM A n R)else 0)*U k c) fun k q=>by
   show mm (n+1) (iq (n+1) (wM A n R)) (wM A n R) a k*U k c=_;rw[su om _ m q]]
  rw[ay (g:=fun k=>(if a=k then 1 else 0)*(det (n+1) (wM A n R)*U k c)) fun k _=>by split<;>simp]
  rw[nv m]
 have r:nb (det (n+1) (wM A n R)*U a c) (jk KB n+jk KB n+9):=by
  rw[<-e];exact I7 (by have:=f.hn;omega) p (fun i j d b=>(t i j d b).mono (pL KB n)) m s
 unfold nb at r ⊢;rw[cP]at r;have:1<=(det (n+1) (wM A n R)).natAbs:=by have:=l.dt;omega
 exact dG (bQ (vY (mP _).symm) (aq _ this)) r
def KN.herm(z:mN n A){R:Nat}{H U:az}(b:KN n A R H U)(y:∀r c,n<=r->r<n+n+1->c<n+1->A r c=if r=n+c then 1 else 0) :
  (∀a r,a<n+1->r<n+n+1->nb (ln (n+1) (fun k r=>A r k) U a r) (FI n))/\CM n (FI n) (fun i j=>ln (n+1) (fun k r=>A r k) U j i)/\(∀x,eU (n+1) (n+1) H x↔eU (n+1) (n+1) (wM A n R) x)/\∀i,i<n->H i n=0:=by
 obtain⟨d,M,p,F,l⟩:=b.tl;have G:=z.dlt b.r1 b.r2 b.dt;have B:∀i,i<n+1->0<d i/\d i<PB:=fun i f=>by
  have t:=p.pos i f;have w:=p.d_le f;omega
 have q:∀r c,r<c->c<n+1->H r c=0:=fun r c t w=>(l.done c w).1 r t;have s:∀c,c<n+1->H c c=d c:=fun c m=>(l.done c m).2.1;have u:∀c j,c<n+1->j<c->0<=H c j/\H c j<d c:=fun c j m o=>(l.done j om).2.2 c o m;have C:∀i j,i<n+1->j<n+1->nb (H i j) KB:=fun i j f o=>by
  have I:=B i f;rcases c8 i j with h|h|h
  .rw[q i j h o];exact nb.zero _
  .subst h;rw[s i f];exact Gf om
  .have t:=u i j f h;exact Gf om
 have v:∀i j,i<n->j<n+1->nb (ln (n+1) (fun k r=>A r k) U j i) (FI n):=fun i j f o=>by
  rw[b.up f o];exact(C i j om o).mono (by unfold FI;omega)
 refine⟨fun a r D J=>?_,⟨fun r c t w E=>?_,fun c m=>?_,fun c j m o=>?_,v⟩,fun x=>?_,fun i f=>q i n f om⟩
 .rcases aB r n with h|h
  .exact v r a h D
  .have e:ln (n+1) (fun k r=>A r k) U a r=U (r-n) a:=by
    unfold ln;rw[ay (g:=fun k=>(if r-n=k then 1 else 0)*U k a) fun k K=>by
     show A r k*U k a=_;rw[y r k h J K];by_cases e:r=n+k
     .rw[aj e,aj om]
     .rw[ah e,ah om]]
    exact nv om _
   rw[e];exact(b.ubits z C om D).mono (by unfold FI;omega)
 .show ln (n+1) (fun k r=>A r k) U c r=0;rw[b.up w E];exact q r c t E
 .show 0<ln (n+1) (fun k r=>A r k) U c c;rw[b.up m om,s c om];exact(B c om).1
 .show 0<=ln (n+1) (fun k r=>A r k) U j c/\ln (n+1) (fun k r=>A r k) U j c<ln (n+1) (fun k r=>A r k) U c c;rw[b.up m om,b.up m om,s c om];exact u c j om o
 .exact l.span p x
def vJ.members{M:az}(f:mN n (fB n M))(h:vJ n k (fB n M) B):∀y,eU n n B y↔eU n (n+1) M y:=by
 obtain⟨R,H,U,d,o,rfl⟩:=h.ex;intro y;obtain⟨_,_,g,l⟩:=d.herm f (fun r c e _ p=>by unfold fB;rw[ah om])
 have e:eU n n H y↔eU n (n+1) M y:=Mn (w:=wM (fB n M) n R) (fun i j a m=>by
  unfold wM vU fB;rw[aj a,aj a]) g l y
 rw[<-e];have key:∀i,i<n->∀c:gP,ap n (fun j=>ln (n+1) (fun k r=>fB n M r k) U j i*c j)=ap n (fun j=>H i j*c j):=fun i a c=>ay fun j m=>by rw[d.up a om]
 constructor
 .rintro⟨c,b⟩;exact⟨c,fun i a=>by rw[b i a,key i a c]⟩
 .rintro⟨c,b⟩;exact⟨c,fun i a=>by rw[b i a,<-key i a c]⟩
def vJ.herm{M:az}(h:vJ n k (fB n M) B):CM n k B:=by
 obtain⟨R,H,U,b,a,rfl⟩:=h.ex;exact a

end Go.Proofs.YtdobfmlmenaajaaGreatDoor
