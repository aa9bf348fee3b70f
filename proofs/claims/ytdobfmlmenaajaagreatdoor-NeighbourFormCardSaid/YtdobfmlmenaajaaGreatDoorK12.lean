/-
  Lemmas for NeighbourForm.
-/
import Derived.Test.YtdobfmlmenaajaaGreatDoorK11
namespace Go.Proofs.YtdobfmlmenaajaaGreatDoor
open Go.RowKit Tryz
open _root_.Int renaming tmod→eV,tdiv→pM,dvd_iff_emod_eq_zero→tv
open _root_.Nat renaming strongRecOn→kT
open _root_.Option renaming none→ae
set_option maxHeartbeats 6400000
set_option maxRecDepth 4096
set_option linter.all false
attribute [local go_sem] Nat.reduceAdd Nat.reduceEqDiff Nat.reduceLeDiff Nat.reduceLT reduceCtorEq Int.ofNat_lt decide_true decide_false Int.zero_le_ofNat
attribute [local go_sem ↓] reduceIte
variable{x y:AV}{post:AV->St->Prop}{Q:AX->Tm->St->Prop}{ops:Array Oper}{D t z:Int}{pend:List (Nat×eo)}{args:List AV}{l:List Oper}{R b b3 b8 bu c d i j k m n p top:Nat}{g0:Nat->AV}{f q:Nat->Int}{g gu v:Nat->Nat}{S S' S0:St}{O:Tm}{K:Tm->St->Prop}{A B B' C H M X:az}
def wM(A:az)(n R:Nat):az:=fun a b=>A (vK n R a) b
structure mK(n:Nat)(A:az):Prop where
 h1:1<=n
 hn:n<=8
 hB:∀σ k,lR A (n+1) σ k->∀k' i j,k'+j<n+1->k'+i<n+n+1->nb (ci (fun x y=>A x (σ y)) k' i j) KB
 hdet:det (n+1) (wM A n (n+n))≠0
 hrow:∀R,n<=R->R<=n+n->det (n+1) (wM A n R)≠0->∀σ neg k,l7 (wM A n R) (n+1) σ neg k->∀k' i j,k'+i<n+1->k'+j<n+1->nb (ci (fun a b=>wM A n R (σ a) b) k' i j) KB
 hent:∀r j,r<n+n+1->j<n+1->nb (A r j) KB
structure KP(n:Nat)(A:az)(R:Nat)(H U:az):Prop where
 r1:n<=R
 r2:R<=n+n
 dt:det (n+1) (wM A n R)≠0
 tl:∃d M,TL (n+1) (eP (n+1) (n+1) (wM A n R)) d M/\M 0=((det (n+1) (wM A n R)).natAbs:Int)/\HI (n+1) (eP (n+1) (n+1) (wM A n R)) d M (n+1) (fun j r=>H r j)
 mu:∀i j,i<n+1->j<n+1->mm (n+1) (wM A n R) U i j=H i j
def mK.dlt(h:mK n A){R:Nat}(a:n<=R)(b:R<=n+n)(c:det (n+1) (wM A n R)≠0):(det (n+1) (wM A n R)).natAbs<PB:=by
 have:=h.hrow R a b c id false 0 (l7.init _ _) n 0 0 om om;rw[cG]at this;have d:nb (det (n+1) (wM A n R)) KB:=this;have:=d.P;omega
structure TF(S0 S:St)(b b1 b3 bu:Nat)(g gu:Nat->Nat)(n top:Nat)(A X:az)(D:Int):Prop where
 cols:dr S b g (n+1) (n+n+1) (fun j r=>A r j)
 pair:a6 S b1 218 1 2 (LU b (n+1) top)
 var:cT S b3 50 2 (.big D)
 mat:dr S bu gu (n+1) (n+1) X
 ext:dy S0 S
 new:∀a,a<n+1->S0 (gu a)=ae
def TF.congr{b1:Nat}{Y:az}(h:TF S0 S b b1 b3 bu g gu n top A X D)(d:∀a c,a<n+1->c<n+1->X a c=Y a c):TF S0 S b b1 b3 bu g gu n top A Y D:=⟨h.cols,h.pair,h.var,h.mat.congr d,h.ext,h.new⟩
def TF.other{b1:Nat}(h:TF S0 S b b1 b3 bu g gu n top A X D){e:Nat}(c:S e=ae)(Z:eo):TF S0 (S.upd e Z) b b1 b3 bu g gu n top A X D :=
 ⟨h.cols.upd (a6.fresh h.cols.outer c) (fun a d=>a6.fresh (h.cols.row a d) c) _,h.pair.upd (a6.fresh h.pair c) _,h.var.upd (h.var.fresh c) _,h.mat.upd (a6.fresh h.mat.outer c) (fun a d=>a6.fresh (h.mat.row a d) c) _,h.ext.upd (h.ext.none c) _,h.new⟩
def TF.set{b1:Nat}(h:TF S0 S b b1 b3 bu g gu n top A X D){i j:Nat}{z:Int}{g':Nat->AV}(c:i<n+1)(d:S (gu i)=some ⟨50,2,n+1,g'⟩)(m:1<=n):TF S0 (S.upd (gu i) ⟨50,2,n+1,aQ g' j (.big z)⟩) b b1 b3 bu g gu n top A (dS X i j z) D:=by
 have f:=h.mat.row i c;refine⟨h.cols.upd (a6.ne h.cols.outer f dc) (fun a l e=>?_) _,h.pair.upd (a6.ne h.pair f dc) _,h.var.upd (fun e=>?_) _,h.mat.set c d,h.ext.upd (h.new i c) _,h.new⟩
 .obtain⟨y,k,_⟩:=h.cols.row a l;rw[e,d]at k;have k':=nv (Option.map eo.n) k;simp only[du,fW]at k';omega
 .obtain⟨y,k,_⟩:=h.var;rw[e,d]at k;cases k;omega
def zo(S0:St)(b n top:Nat)(g:Nat->Nat)(A:az)(z:mK n A)(hO:dr S0 b g (n+1) (n+n+1) (fun j r=>A r j)) :
  cJ 233 [.agg [.sl 1 b 0 (n+1),ι top]] S0 (fun _ S'=>(∃R H U,KP n A R H U/\∃g',dr S' b g' (n+1) (n+n+1) (lr (n+1) (fun k r=>A r k) U))/\iU b S0 S'):=by
 have hKB:=mO;refine fy func233 rfl 65 ntmps233 kr sm ?_
 rw[jZ,results233];have h1:=z.h1;have hn:=z.hn;simp -dsimp only[go_sem,aS,bF,bZ,ct];refine ax.intro fun K f1=>?_;refine mh (fun T=>a6 T K 218 1 2 (LU b (n+1) top)/\dy S0 T) ?_ ?_
 .refine⟨a6.here fun j f=>?_,(dy.refl S0).upd f1 _⟩
  match j,f with
  | 0,_=>rfl
  | 1,_=>rfl
 rintro T ⟨B,Q⟩;have V:=hO.ext Q;obtain⟨g1,u1,L⟩:=id B;have x0:g1 0=.sl 1 b 0 (n+1):=L 0 om;have x1:g1 1=ι top:=L 1 om;refine eL 3 [[0,1],[],[]] kr ?_
 simp -dsimp only[go_sem,aa,u1,x0,x1,dZ];refine(wv T b g n (n+1) (n+n+1) top A hn h1 rfl rfl V.cols z.hB z.hdet).mono ?_;rintro _ S1 ⟨e,R,rfl,r1,r2,x,hL,s⟩;obtain⟨g2,u2,v2⟩:=id (s.has B);have y0:g2 0=.sl 1 b 0 (n+1):=v2 0 om;simp -dsimp only[go_sem,aa,u2,y0];have hO1:=V.ext s;refine(yx (n+1) (n+n+1) (n+1) KB (fun j r=>A r j) (vK n R) om om (fun i l=>by unfold vK;split<;>omega) (fun c r W hr=>z.hent r c hr W) om _ _ (eI.two hO1.vr.va (VR.sl hL om (fun a m=>by rw[aJ];exact VR.mf rfl)).va)).mono ?_
 rintro _ S2 ⟨bw,gw,rfl,t,X,_,_⟩
 replace x:det (n+1) (wM A n R)≠0:=x
 replace t:dr S2 bw gw (n+1) (n+1) (wM A n R):=t
 have P:=z.hrow R r1 r2 x;have hdl:=z.dlt r1 r2 x;have C:∀i j,i<n+1->j<n+1->nb (wM A n R i j) KB:=fun i j l f=>z.hent _ _ (by unfold vK;split<;>omega) f
 have u:dy S0 S2:=(Q.trans s).trans X;have Y:=(s.trans X).has B;simp -dsimp only[go_sem,aa];refine(Bc (n+1) KB (wM A n R) om om om om x P).spec (eI.one t.vr.va) ?_;simp -dsimp only[go_sem];refine ax.intro fun y f3=>?_
 try simp -dsimp only[go_sem]
 have s3:=u.none f3;have hNR:n+1≠1:=om
 refine FW (fun T=>dr T bw gw (n+1) (n+1) (wM A n R)/\cT T y 50 2 (.big (det (n+1) (wM A n R)))/\dy S0 T/\a6 T K 218 1 2 (LU b (n+1) top)) ?_ ?_
 .have q1:bw≠y:=a6.fresh t.outer f3;have q2:∀a,a<n+1->gw a≠y:=fun a m=>a6.fresh (t.row a m) f3;have q3:K≠y:=a6.fresh Y f3;exact⟨(t.upd q1 q2 _).upd q1 q2 _,cT.set,(u.upd s3 _).upd s3 _,(Y.upd q3 _).upd q3 _⟩
 clear t u Y s X hL hO1 u2 v2 y0 u1 L x0 x1 V B Q f3;rintro T3 ⟨t,V3,o,hp3⟩;refine(Et (n+1) KB (wM A n R) om om om om C _ _ (eI.one t.vr.va)).mono ?_;rintro _ S4 ⟨ba,ga,rfl,hA4,v,_⟩;obtain⟨g3,u3,x3⟩:=id (V3.ext v);simp -dsimp only[*,go_sem,aa];have hw4:=t.ext v;refine(zn (n+1) (wM A n R) om om (fun i j l f=>(C i j l f).mono om) x hdl _ _ (eI.two hw4.vr.va (VA.refl _ _))).mono ?_;rintro _ S5 ⟨bh,gh,H,rfl,⟨d,M,Z,hM0,E⟩,hH5,F,_⟩;have hHr:∀i j,i<n+1->j<n+1->nb (H i j) KB:=fun i j l f=>by
  have:=E.rng Z (ag _) (fun c r _ h1 h2=>om) f l
  exact Gi om
 have hAb:∀i j,i<n+1->j<n+1->nb (jV (n+1) (wM A n R) i j) (jk KB n):=fun i j l f=>by
  have:=Ae om om C n i j l f;unfold jV;split
  .exact this.neg
  .exact this
 have hbm:=pA KB n;have hbl:=yJ KB om n om;obtain⟨U,hU1,hU2⟩:=Kc (N:=n+1) (w:=wM A n R) (H:=H) om (fun j f=>E.mem j f);simp -dsimp only[go_sem,aa];refine(pK (n+1) (n+1) (n+1) (jk KB n) (jV (n+1) (wM A n R)) H om om om om om om hAb (fun i j l f=>(hHr i j l f).mono hbm) om _ _ (eI.two (hA4.ext F).vr.va hH5.vr.va)).mono ?_;rintro _ S6 ⟨bu,gu,rfl,hU6,hE6,nu,nug⟩;have h:=(v.trans F).trans hE6;have hXb:∀i j,i<n+1->j<n+1->nb (mm (n+1) (jV (n+1) (wM A n R)) H i j) (jk KB n+jk KB n+9):=fun i j l f=>I6 om hAb (fun i j l f=>(hHr i j l f).mono hbm) l f;have hTF:TF S0 S6 b K y bu g gu n top A (fun a c=>det (n+1) (wM A n R)*U a c) (det (n+1) (wM A n R)):=⟨hO.ext (o.trans h),h.has hp3,V3.ext h,hU6.congr hU2,o.trans h,fun a m=>((o.trans v).trans F).none (nug a m)⟩;have hDb:∀a c,a<n+1->c<n+1->nb (det (n+1) (wM A n R)*U a c) (jk KB n+jk KB n+9):=fun a c m W=>by rw[<-hU2 a c m W];exact hXb a c m W
 have hTr:KP n A R H U:=⟨r1,r2,x,⟨d,M,Z,hM0,E⟩,hU1⟩;have hUb:∀a c,a<n+1->c<n+1->nb (U a c) (jk KB n+jk KB n+10):=fun a c m W=>by
  have:=DE (b:=det (n+1) (wM A n R)) (hDb a c m W)
  rwa [cj _ x]at this
 generalize hDe:det (n+1) (wM A n R)=D at *;clear E Z hM0 hH5 hU6 hA4 hw4 t V3 u3 x3 h hE6 F v o hp3 nu nug hU1 hU2 hXb hAb hHr P C;simp only[go_sem];refine aC (fun O S=>∃i:Nat,i<=n+1/\O 1=.ptr 1 K 0/\O 3=.ptr 2 y 0/\O 7=.sl 1 bu 0 (n+1)/\O 36=.sl 1 bu 0 (n+1)/\O 37=ι ((n+1:Nat):Int)/\O 38=ι i/\TF S0 S b K y bu g gu n top A (fun a c=>if a<i then U a c else D*U a c) D) (fun O S=>n+1-bS (O 38)) ?_ ?_
 .simp only[go_sem];exact⟨0,om,rfl,hTF.congr fun a c _ _=>by simp⟩
 clear hTF;rintro O S ⟨i,l,e1,e3,e7,G,I,J,p⟩;by_cases q:i<n+1
 .obtain⟨g1,u1,L⟩:=p.mat.outer;have x1:g1 i=.sl 2 (gu i) 0 (n+1):=L i q;simp only[*,go_sem,aa];refine aC (fun O S=>∃j:Nat,j<=n+1/\O 1=.ptr 1 K 0/\O 3=.ptr 2 y 0/\O 7=.sl 1 bu 0 (n+1)/\O 10=.sl 2 (gu i) 0 (n+1)/\O 36=.sl 1 bu 0 (n+1)/\O 37=ι ((n+1:Nat):Int)/\O 38=ι i/\O 42=.sl 2 (gu i) 0 (n+1)/\O 43=ι ((n+1:Nat):Int)/\O 44=ι j/\TF S0 S b K y bu g gu n top A (fun a c=>if a<i∨(a=i/\c<j)then U a c else D*U a c) D) (fun O S=>n+1-bS (O 44)) ?_ ?_
  .simp only[*,go_sem];exact⟨0,om,rfl,p.congr fun a c _ _=>by simp⟩
  clear p e1 e3 e7 G I J u1 L x1;rintro O S ⟨j,f,e1,e3,e7,e10,G,I,J,e42,e43,e44,p⟩;by_cases hjt:j<n+1
  .obtain⟨g2,u2,v2⟩:=p.mat.row i q;have x2:g2 j=.big (D*U i j):=(v2 j hjt).trans sm
   obtain⟨g3,u3,x3⟩:=id p.var;simp -dsimp only[*,go_sem,aa];refine ax.intro fun b12 f12=>?_;have q1:y≠b12:=p.var.fresh f12;have q2:gu i≠b12:=a6.fresh (p.mat.row i q) f12;simp -dsimp only[go_sem,aa,e3,e10,e44,x2,u3,x3,q1,dN];refine(fM (hDb i j q hjt) ((Gi om).mono om) om x).call ?_;rw[cj _ x];simp only[*,go_sem,aa,aI (om:j<1000000),bS]
   refine⟨⟨j+1,om,rfl,?_⟩,om⟩
   rw[lv];refine((p.other f12 _).set q (by rw[aG q2];exact u2) om).congr fun a c _ _=>?_
   simp only[dS];by_cases e:a=i/\c=j
   .obtain⟨rfl,rfl⟩:=e;simp
   .rw[ah e];by_cases e2:a<i∨(a=i/\c<j)
    .rw[aj e2,aj om]
    .rw[ah e2,ah om]
  have hnj:n+1=j:=om
  simp only[go_sem,aa,e1,e3,e7,G,I,J,e42,e43,e44,hjt,aI (om:i<1000000),bS]
  refine⟨⟨i+1,om,rfl,p.congr fun a c _ W=>?_⟩,om⟩
  by_cases e2:a<i∨(a=i/\c<j)
  .rw[aj e2,aj om]
  .rw[ah e2,ah om]
 obtain⟨g1,u1,L⟩:=id p.pair;have x1:g1 0=.sl 1 b 0 (n+1):=L 0 om;simp -dsimp only[go_sem,aa,e1,e7,G,I,J,q,u1,x1];refine(Gv S b bu g gu (n+1) (n+n+1) (jk KB n+jk KB n+40) (fun j r=>A r j) _ om om om (fun a r m hr=>(z.hent r a hr m).mono om) (fun a r m hr=>?_) om p.cols p.mat).mono ?_
 .rw[aj om];exact(hUb a r m hr).mono om
 rintro _ S7 ⟨⟨g',hO7⟩,hK7⟩;simp only[go_sem];refine⟨⟨R,H,U,hTr,g',hO7.congr fun a r m hr=>?_⟩,(iU.ext p.ext).trans hK7⟩;unfold lr;exact ay fun k hk=>by dsimp only;rw[aj om]

def lp(n m:Nat)(A:az)(a:1<=n)(b:n<=16)(c:1<=m)(d:m<=16):PF 210 [aL n m A] (.tup [ι n,ι m,.bool true]):=by
 refine gN func210 ntmps210 results210 ?_;simp -dsimp only[go_sem,aa,aL,aY];refine(ld n m A a b c d).call ?_;simp only[go_sem];exact VR.tup (by simp[ql])
structure FS(S:St)(b b8:Nat)(g:Nat->Nat)(n i:Nat)(C:az)(x y:AV):Prop where
 cols:dr S b g (n+1) (n+n+1) C
 pair:a6 S b8 218 1 2 (LU b (n+1) n)
 hx:cY 3 1 St.none S x (min i n) (fun a=>ι ((a:Nat):Int))
 hy:cY 3 1 St.none S y (i-n) (fun a=>ι ((n+a:Nat):Int))
 xy:∀d,dU x d->¬dU y d
def FS.other(h:FS S b b8 g n i C x y){e:Nat}(c:S e=ae)(Z:eo):FS (S.upd e Z) b b8 g n i C x y :=
 ⟨h.cols.upd (a6.fresh h.cols.outer c) (fun a d=>a6.fresh (h.cols.row a d) c) _,h.pair.upd (a6.fresh h.pair c) _,h.hx.upd rfl (h.hx.fresh c) _,h.hy.upd rfl (h.hy.fresh c) _,h.xy⟩
def FS.appx(h:FS S b b8 g n i C x y)(v:i<n){c:Nat}(l:cY 3 1 St.none S' (.sl 1 c 0 (min i n+1)) (min i n+1) (fun a=>if a=min i n then ι (i:Int)else ι ((a:Nat):Int)))(m:∀d X,S d=some X->¬dU x d->S' d=some X)(p:dU x c∨S c=ae) :
  FS S' b b8 g n (i+1) C (.sl 1 c 0 (min i n+1)) y:=by
 have kp:∀{b ty es n:Nat} {g:Nat->AV},a6 S b ty es n g->ty≠3->a6 S' b ty es n g:=fun q r=>by
  obtain⟨z,o,s⟩:=q;exact⟨z,m _ _ o (h.hx.other o r),s⟩
 have t:min i n=i:=om
 refine⟨⟨kp h.cols.outer dc,fun a u=>kp (h.cols.row a u) dc,h.cols.inj⟩,kp h.pair dc,?_,?_,fun d j f=>?_⟩
 .rw[t]at l ⊢;rw[(om:min (i+1) n=i+1)]
  exact l.congr fun a _=>by
   by_cases e:a=i
   .rw[aj e,e]
   .rw[ah e]
 .have:=h.hy.keep (dy.noneS _) m (fun d j f=>h.xy d f j);rw[(om:i+1-n=i-n)]
  exact this
 .rw[d9]at j;subst j;rcases p with e|e
  .exact h.xy _ e f
  .obtain⟨X,k⟩:=h.hy.blk f;rw[k]at e;cases e
def FS.appy(h:FS S b b8 g n i C x y)(u:n<=i){c:Nat}(o:cY 3 1 St.none S' (.sl 1 c 0 (i-n+1)) (i-n+1) (fun a=>if a=i-n then ι (i:Int)else ι ((n+a:Nat):Int)))(l:∀d X,S d=some X->¬dU y d->S' d=some X)(p:dU y c∨S c=ae) :
  FS S' b b8 g n (i+1) C x (.sl 1 c 0 (i-n+1)):=by
 have kp:∀{b ty es n:Nat} {g:Nat->AV},a6 S b ty es n g->ty≠3->a6 S' b ty es n g:=fun q r=>by
  obtain⟨z,m,s⟩:=q;exact⟨z,l _ _ m (h.hy.other m r),s⟩
 refine⟨⟨kp h.cols.outer dc,fun a t=>kp (h.cols.row a t) dc,h.cols.inj⟩,kp h.pair dc,?_,?_,fun d j f=>?_⟩
 .have:=h.hx.keep (dy.noneS _) l (fun d j f=>h.xy d j f);rw[(om:min (i+1) n=min i n)]
  exact this
 .rw[(om:i+1-n=i-n+1)]
  exact o.congr fun a _=>by
   by_cases e:a=i-n
   .rw[aj e,e];congr 1;omega
   .rw[ah e]
 .rw[d9]at f;subst f;rcases p with e|e
  .exact h.xy _ j e
  .obtain⟨X,k⟩:=h.hx.blk j;rw[k]at e;cases e
def El(n k:Nat)(M:az)(W:mK n (fv n M))(hk:k<=1000000)(hU:∀R H U,KP n (fv n M) R H U->∀a r,a<n+1->r<n+n+1->nb (lr (n+1) (fun k r=>fv n M r k) U a r) k) :
  cJ 184 [aL n (n+1) M] St.none (fun r _=>∃R H U,KP n (fv n M) R H U/\∃V,r=.tup [aL n (n+1) (fun i j=>lr (n+1) (fun k r=>fv n M r k) U j i),V,.bool true]):=by
 refine iZ func184 ntmps184 results184 ?_;have h1:=W.h1;have hn:=W.hn;simp -dsimp only[go_sem,aa,aL,aY];refine(lp n (n+1) M h1 om om om).call ?_;simp -dsimp only[go_sem,aa];refine(Di _ n (n+1) M h1 om om om).mono ?_;rintro _ S1 ⟨b,g,rfl,q,_⟩;simp -dsimp only[go_sem,aa];refine ax.intro fun s f8=>?_;simp -dsimp only[go_sem,ft,dZ,aS,bF,bZ,ct,bL,bJ,dC,bQ];have F:∀{c ty es k:Nat} {z:Nat->AV},a6 S1 c ty es k z->c≠s:=fun h=>a6.fresh h f8;rw[<-kU]at q;have I:=(q.upd (F q.outer) (fun a J=>F (q.row a J)) ⟨218,1,2,fun j=>if j=0 then AV.nil else AV.int IntKind.i64 0⟩).upd (F q.outer) (fun a J=>F (q.row a J)) ⟨218,1,2,ft (fun j=>if j=0 then AV.nil else AV.int IntKind.i64 0) 0 [AV.sl 1 b 0 (n+1),AV.int IntKind.i64 n]⟩
 have K:a6 ((S1.upd s ⟨218,1,2,fun j=>if j=0 then AV.nil else AV.int IntKind.i64 0⟩).upd s ⟨218,1,2,ft (fun j=>if j=0 then AV.nil else AV.int IntKind.i64 0) 0 [AV.sl 1 b 0 (n+1),AV.int IntKind.i64 n]⟩) s 218 1 2 (LU b (n+1) n):=a6.here fun j hj=>by
  match j,hj with
  | 0,_=>rfl
  | 1,_=>rfl
 refine(zo _ b n n g (fv n M) W I).mono ?_;rintro _ S2 ⟨⟨R,H,U,hT,g',t⟩,hK⟩;have X:s≠b:=fun e=>F q.outer e.symm;have L:=hK.has K X;have u:=hU R H U hT;generalize hC:lr (n+1) (fun k r=>fv n M r k) U=C at t u;simp only[go_sem];refine aC (fun O S=>∃(i:Nat) (x y:AV),i<=n+n+1/\O 8=.ptr 1 s 0/\O 9=x/\O 10=y/\O 26=ι ((n+n+1:Nat):Int)/\O 27=ι i/\FS S b s g' n i C x y) (fun O S=>n+n+1-bS (O 27)) ?_ ?_
 .simp only[go_sem];refine⟨0,om,by rw[dP (n:=n+n+1) om om],rfl,t,L,?_,?_,fun d hd=>?_⟩
  .rw[Nat.zero_min];exact cY.nil (dy.noneS _) _
  .rw[Nat.zero_sub];exact cY.nil (dy.noneS _) _
  .obtain⟨_,_,_,e⟩:=hd;cases e
 clear t L hK I K q f8 F;rintro O S ⟨i,x,y,hi,N,G,f,o,p,m⟩;by_cases P:i<n+n+1
 .obtain⟨gp,up,vp⟩:=id m.pair;have x1:gp 1=ι n:=vp 1 om;by_cases w:i<n
  .simp -dsimp only[go_sem,aa,N,G,f,o,p,P,w,up,x1];refine ax.intro fun b36 Q=>?_;have A:=m.hx.fresh Q;have l:=m.other Q ⟨3,1,1,fun j=>[ι i].getD j .any⟩
   try simp -dsimp only[go_sem,G]
   refine cY.app3 (v:=ι i) l.hx om (by simp[ei]) (aR ⟨_,_,_,rfl,ca,rfl,fun h=>A _ h rfl⟩) ?_
   intro c S3 Y B D;have E:=l.appx w Y B D;simp only[*,go_sem,aI (om:i<1000000),bS]
   exact⟨⟨i+1,om,rfl,E⟩,om⟩
  .simp -dsimp only[go_sem,aa,N,G,f,o,p,P,w,up,x1];refine ax.intro fun b40 T=>?_;have A:=m.hy.fresh T;have l:=m.other T ⟨3,1,1,fun j=>[ι i].getD j .any⟩
   try simp -dsimp only[go_sem,f]
   refine cY.app3 (v:=ι i) l.hy om (by simp[ei]) (aR ⟨_,_,_,rfl,ca,rfl,fun h=>A _ h rfl⟩) ?_
   intro c S3 Y B D;have E:=l.appy om Y B D;simp only[*,go_sem,aI (om:i<1000000),bS]
   exact⟨⟨i+1,om,rfl,E⟩,om⟩
 obtain rfl:i=n+n+1:=om
 obtain⟨gp,up,vp⟩:=id m.pair;have Z:gp 0=.sl 1 b 0 (n+1):=vp 0 om;obtain⟨c1,rfl,hL1⟩:∃c1,x=.sl 1 c1 0 n/\a6 S c1 3 1 n (fun a=>ι ((a:Nat):Int)):=by
  rcases m.hx.2 with⟨h,_⟩|⟨c,_,e,h⟩
  .omega
  .rw[(om:min (n+n+1) n=n)]at e h;exact⟨c,e,h⟩
 obtain⟨c2,rfl,hL2⟩:∃c2,y=.sl 1 c2 0 (n+1)/\a6 S c2 3 1 (n+1) (fun a=>ι ((n+a:Nat):Int)):=by
  rcases m.hy.2 with⟨h,_⟩|⟨c,_,e,h⟩
  .omega
  .rw[(om:n+n+1-n=n+1)]at e h;exact⟨c,e,h⟩
 simp -dsimp only[*,go_sem,aa];refine aN 11 kr ?_
 simp only[go_sem,aa,N,G,f,up,Z];have p1:=yx (n+1) (n+n+1) n k C (fun a=>a) om om (fun i hi=>om) (fun c r D hr=>u c r D hr) hk
 have p2:=yx (n+1) (n+n+1) (n+1) k C (fun a=>n+a) om om (fun i hi=>om) (fun c r D hr=>u c r D hr) hk
 refine⟨_,p1.pf.pureS (eI.two m.cols.vr.va (VR.sl hL1 om (fun a J=>by rw[aJ];exact VR.mf rfl)).va),?_⟩
 try simp -dsimp only[go_sem,N,G,f,o,p,up,Z]
 refine⟨_,p2.pf.pureS (eI.two m.cols.vr.va (VR.sl hL2 om (fun a J=>by rw[aJ];exact VR.mf rfl)).va),?_⟩
 try simp -dsimp only[go_sem,N,G,f,o,p,up,Z]
 subst hC;exact⟨R,H,U,hT,_,rfl⟩

def ms:List Oper->List Nat
 | []=>[]
 | o::l=>(match o.dst with
  | some d=>[d]
  | ae=>[])++ms l
def lA(l:List Oper)(k:Nat):Option Nat:=(l[k]?).bind (·.dst)
def Rp(l:List Oper):Bool:=decide (ms l).Nodup
def stP(ops:Array Oper)(O0:Tm)(S:St)(z:List AV):List Oper->Nat->Prop
 | [],_=>True
 | o::r,i=>(∀O:Tm,(∀t,¬t∈ms ops.toList->O t=O0 t)->(∀k d,(vM o).contains k=true->lA ops.toList k=some d->O d=z.getD k .any)->∀K:Tm->St->Prop,K (O.put o.dst (z.getD i .any)) S->oI ops o O S K)/\stP ops O0 S z r (i+1)
theorem II{ops:Array Oper}{O0:Tm}{S:St}{z:List AV}:∀(l:List Oper) (i j:Nat) (o:Oper),stP ops O0 S z l i->l[j]? = some o ->
  ∀O:Tm,(∀t,¬t∈ms ops.toList->O t=O0 t)->(∀k d,(vM o).contains k=true->lA ops.toList k=some d->O d=z.getD k .any)->∀K:Tm->St->Prop,K (O.put o.dst (z.getD (i+j) .any)) S->oI ops o O S K
 | [],i,j,o,_,h=>by simp at h
 | p::r,i,0,o,h,a=>by
  simp only[dE,fW]at a;subst a;exact h.1
 | p::r,i,j+1,o,h,a=>by
  rw[de]at a;have:=II r (i+1) j o h.2 a;rw[(om:i+1+j=i+(j+1))]at this
  exact this
theorem wA:∀{l:List Oper} {j:Nat} {o:Oper} {d:Nat},l[j]? = some o->o.dst=some d->d∈ms l
 | [],_,_,_,h,_=>by simp at h
 | p::l,0,o,d,h,a=>by
  simp only[dE,fW]at h;subst h;simp[ms,a]
 | p::l,j+1,o,d,h,a=>by
  rw[de]at h;simp[ms,wA h a]
theorem Cp:∀{l:List Oper} {i j:Nat} {d:Nat},(ms l).Nodup->lA l i=some d->lA l j=some d->i=j
 | [],i,_,_,_,h,_=>by simp[lA]at h
 | p::l,i,j,d,a,f,g=>by
  have memj:∀k,lA l k=some d->d∈ms l:=fun k b=>by
   unfold lA at b
   cases e:l[k]? with
   | none=>rw[e]at b;simp at b
   | some o=>rw[e]at b;exact wA e b
  have m:(ms l).Nodup:=by
   unfold ms at a;exact(List.nodup_append.1 a).2.1
  have c:p.dst=some d->¬d∈ms l:=fun n q=>by
   unfold ms at a;rw[n]at a;simp only[RZ,wT]at a;exact a.1 q
  match i,j with
  | 0,0=>rfl
  | 0,j+1=>exact(c (by simpa [lA]using f) (memj j (by simpa [lA]using g))).elim
  | i+1,0=>exact(c (by simpa [lA]using g) (memj i (by simpa [lA]using f))).elim
  | i+1,j+1 =>
   have:=Cp m (i:=i) (j:=j) (d:=d) (by simpa [lA]using f) (by simpa [lA]using g)
   omega
def wE{O0:Tm}(z:List AV)(b:(M2 ops&&Rp ops.toList)=true)(s:stP ops O0 S z ops.toList 0)
  (u:∀O:Tm,(∀t,¬t∈ms ops.toList->O t=O0 t)->(∀k d,lA ops.toList k=some d->O d=z.getD k .any)->K O S):Ix ops O0 S K:=by
 rw[tA];simp only[cU]at b;have m:(ms ops.toList).Nodup:=jJ b.2;refine aR ⟨fun L O S'=>S'=S/\(∀t,¬t∈ms ops.toList->O t=O0 t)/\∀k d,L k=true->lA ops.toList k=some d->O d=z.getD k .any,b.1,⟨rfl,fun _ _=>rfl,fun _ _ h=>by cases h⟩,?_,?_⟩
 .rintro i o n L O S' ⟨rfl,c,f⟩ r v;have g:ops.toList[i]? = some o:=by simpa using n
  have:=II ops.toList 0 i o s g O c (fun k d j a=>f k d (v k (by simpa using j)) a) (fun O' S''=>S''=S'/\(∀t,¬t∈ms ops.toList->O' t=O0 t)/\∀k d,(if k=i then true else L k)=true->lA ops.toList k=some d->O' d=z.getD k .any)
  rw[aJ]at this;have p:=this ?_
  .unfold oI at p;rw[xg]at p;exact p
  .refine⟨rfl,fun t q=>?_,fun k d j a=>?_⟩
   .rw[Tm.put_eq]
    cases e:o.dst with
    | none=>exact c t q
    | some d =>
     simp only;rw[ah (fun l=>q (by subst l;exact wA g e))];exact c t q
   .rw[Tm.put_eq];by_cases l:k=i
    .subst l;have:o.dst=some d:=by simpa [lA,n]using a
     simp only[this,aj]
    .rw[ah l]at j
     cases e:o.dst with
     | none=>exact f k d j a
     | some d' =>
      simp only;rw[ah (fun w=>by
       subst w;exact l (Cp m a (by simp[lA,n,e])))]
      exact f k d j a
 .rintro L O S' ⟨rfl,c,f⟩ r;refine u O c fun k d a=>f k d (r k ?_) a;rcases aB k ops.size with h|h
  .exact h
  .simp[lA,eg h]at a
def Pn(h:∀K',K'=K->Es ops l O S K'):Es ops l O S K:=h K rfl
def cA{c:Code}(I:Tm->St->Prop)(μ:Tm->St->Nat)(a:I O S)(b:∀Q',Q'=Q->∀O S,I O S->Aw c (AX.seq (fun O' S'=>I O' S'/\μ O' S' < μ O S) Q') O S):Aw (.loop c) Q O S:=aC I μ a (b Q rfl)
def sS{g:Nat->AV}{K:AV->Prop}(a:j<=n)(h:K (.lst 2 j g)):li 59 (.lst 2 n g) ae (some (ι (j:Int))) ae K :=
 ⟨rfl,0,j,rfl,rfl,trivial,om,a,by simpa using h⟩
structure CM(n k:Nat)(H:az):Prop where
 up:∀r c,r<c->r<n->c<n+1->H r c=0
 pos:∀c,c<n->0<H c c
 rng:∀c j,c<n->j<c->0<=H c j/\H c j<H c c
 nb:∀r c,r<n->c<n+1->nb (H r c) k
def JW(n k:Nat)(H:az)(h1:1<=n)(h2:n<=15)(hk:k<=1000000)(F:CM n k H):PF 185 [aL n (n+1) H] (.tup [.lst 1 n (fun a=>ι ((a:Nat):Int)),.bool true]):=by
 refine gN func185 ntmps185 results185 ?_;simp -dsimp only[go_sem,aa,aL,aY];refine(lp n (n+1) H h1 om om om).call ?_;simp only[go_sem];refine aC (fun O S=>∃(c:Nat) (x:AV),c<=n+1/\O 0=.lst 1 n (fun i=>.lst 2 (n+1) (fun j=>.big (H i j)))/\O 4=ι n/\O 7=x/\O 20=ι ((n+1:Nat):Int)/\O 21=ι c/\cY 3 1 St.none S x (min c n) (fun a=>ι ((a:Nat):Int))) (fun O S=>n+1-bS (O 21)) ?_ ?_
 .simp only[go_sem];exact⟨0,om,rfl,by rw[Nat.zero_min];exact cY.nil (dy.noneS _) _⟩
 rintro O S ⟨c,x,hc,r,z,u,l,m,D⟩;by_cases s:c<n+1
 .simp only[*,go_sem];refine cA (fun O S'=>∃p:Nat,p<=c/\S'=S/\O 0=.lst 1 n (fun i=>.lst 2 (n+1) (fun j=>.big (H i j)))/\O 4=ι n/\O 7=x/\O 8=ι c/\O 9=ι p/\O 20=ι ((n+1:Nat):Int)/\O 21=ι c) (fun O S=>c-bS (O 9)) ?_ ?_
  .simp only[*,go_sem];exact⟨0,om,rfl⟩
  clear r z u l m;rintro Q' G O T ⟨p,hp,hTS,r,z,u,w,t,l,m⟩;subst hTS;by_cases b:p<n
  .simp -dsimp only[go_sem,aa,r,z,w,t,b,s];refine(ka (F.nb p c b s) om).call ?_;by_cases P:p<c
   .simp only[go_sem,r,z,u,w,t,l,m,b,F.up p c P b s,oX,cl,aI (om:p<1000000),bS]
    exact⟨⟨p+1,om,rfl⟩,om⟩
   obtain rfl:p=c:=om
   have hs:(H p p).sign=1:=cW (F.pos p b);have Q:((H p p).sign==0)=false:=by rw[hs]<;>rfl
   have I:((p:Int)==(n:Int))=false:=by simp;omega
   have J:decide ((H p p).sign<0)=false:=by rw[hs]<;>rfl
   rw[(om:min p n=p)]at D
   apply sf (fun O S'=>O 0=.lst 1 n (fun i=>.lst 2 (n+1) (fun j=>.big (H i j)))/\O 4=ι n/\O 7=x/\O 8=ι p/\O 9=ι p/\O 20=ι ((n+1:Nat):Int)/\O 21=ι p/\O 76=.lst 2 p (fun j=>.big (H p j))/\O 77=ι p/\O 78=ι 0/\S'=T)
   .intro key;simp only[go_sem,r,z,u,w,t,l,m,b,Q];rw[G];rcases id D.2 with⟨R,hx⟩|⟨c0,_,hx,hL⟩
    .have L:((0:Int) != (p:Int))=false:=by rw[R];simp
     have y:decide ((0:Int)<(p:Int))=false:=by rw[R];simp
     simp -dsimp only[go_sem,aa,r,z,u,w,t,l,m,b,s,I,L,y,hx];refine(ka (F.nb p p b s) om).call ?_;simp only[go_sem,r,u,w,t,b,L,y,J,du,gF];refine sS om ?_;simp only[go_sem];show Aw (.loop _) _ _ _;refine key _ _ ?_;simp only[*,go_sem]
    .obtain⟨gl,ul,vl⟩:=hL;rcases bD p with h0|h0
     .have L:((0:Int) != (p:Int))=false:=by rw[h0];simp
      have y:decide ((0:Int)<(p:Int))=false:=by rw[h0];simp
      simp -dsimp only[go_sem,aa,r,z,u,w,t,l,m,b,s,I,y,hx,aP];refine(ka (F.nb p p b s) om).call ?_;simp only[go_sem,r,u,w,t,b,y,J,du,gF];refine sS om ?_;simp only[go_sem];show Aw (.loop _) _ _ _;refine key _ _ ?_;simp only[*,go_sem]
     obtain⟨q,hq⟩:∃q,p=q+1:=⟨p-1,om⟩
     have y:decide ((0:Int)<(p:Int))=true:=by simp;omega
     have hw:ω ((p:Int)-1)=(q:Int):=dP om om;have U:q<p:=om
     have hg:gl q=ι (q:Int):=vl q U;have V:decide ((p:Int)<=(q:Int))=false:=by simp;omega
     simp -dsimp only[go_sem,aa,r,z,u,w,t,l,m,b,s,I,y,V,hw,U,hg,ul,hx,aP];refine(ka (F.nb p p b s) om).call ?_;simp only[go_sem,r,u,w,t,b,y,V,hw,hg,J,du,gF];refine sS om ?_;simp only[go_sem];show Aw (.loop _) _ _ _;refine key _ _ ?_;simp only[*,go_sem]
   clear r z u w t l m Q I J hs P;rintro O _ ⟨r,z,u,w,t,l,m,A,B,C,rfl⟩;refine cA (fun O S=>∃j:Nat,j<=p/\O 0=.lst 1 n (fun i=>.lst 2 (n+1) (fun j=>.big (H i j)))/\O 4=ι n/\O 7=x/\O 8=ι p/\O 9=ι p/\O 20=ι ((n+1:Nat):Int)/\O 21=ι p/\O 76=.lst 2 p (fun j=>.big (H p j))/\O 77=ι p/\O 78=ι j/\cY 3 1 St.none S x p (fun a=>ι ((a:Nat):Int))) (fun O S=>p-bS (O 78)) ?_ ?_
   .simp only[go_sem,r,z,u,w,t,l,m,A,B,C];exact⟨0,om,rfl,D⟩
   clear r z u w t l m A B C D;rintro Q' G O S ⟨j,hj,r,z,u,w,t,l,m,A,B,C,D⟩;by_cases M:j<p
   .obtain⟨q1,q2⟩:=F.rng p j b M;have hs1:decide ((H p j).sign<0)=false:=by
     rcases SV q1 with h|h
     .rw[cW h];rfl
     .rw[<-h];rfl
    have hcm:jU (H p j) (H p p)=-1:=by simp[jU,q2]
    simp -dsimp only[go_sem,A,B,C,M];refine ax.intro fun E W=>?_
    try simp -dsimp only[go_sem]
    have X:=((D.upd (by rfl) (D.fresh W) ⟨50,2,1,fun _=>AV.big 0⟩).upd (by rfl) (D.fresh W) ⟨50,2,1,aQ (fun _=>AV.big 0) 0 (.big (H p j))⟩)
    obtain⟨S5,hS5,Y⟩:∃S5,S5=(S.upd E ⟨50,2,1,fun _=>AV.big 0⟩).upd E ⟨50,2,1,aQ (fun _=>AV.big 0) 0 (.big (H p j))⟩/\S5 E=some ⟨50,2,1,aQ (fun _=>AV.big 0) 0 (.big (H p j))⟩:=⟨_,rfl,ca⟩;rw[<-hS5]at X ⊢;have r0:PF 191 [.big (H p j)] (ι (H p j).sign):=ka (F.nb p j b om) om;have r1:PF 159 [.big (H p j),.big (H p p)] (ι (-1)):=hcm▸rt (F.nb p j b om) (F.nb p p b om) om;refine wE [.big (H p j),ι (H p j).sign,.bool false,.bool false,.big (H p j),.lst 1 n (fun i=>.lst 2 (n+1) (fun j=>.big (H i j))),ι p,.pat 1 (.lst 2 (n+1) (fun j=>.big (H p j))),.lst 2 (n+1) (fun j=>.big (H p j)),ι p,.pat 2 (.big (H p p)),.big (H p p),ι (-1),.bool false,.bool false] kr ?_ ?_
    .refine⟨?_,?_,?_,?_,?_,?_,?_,?_,?_,?_,?_,?_,?_,?_,?_,trivial⟩
     .intro O1 g f K o;have N:O1 11=.ptr 2 E 0:=(g 11 dc).trans (by simp only[go_sem])
      unfold oI;simp only[go_sem,aa,N,Y,dN];exact o
     .intro O1 g f K o;have x82:O1 82=.big (H p j):=f 0 82 kr rfl
      unfold oI;simp -dsimp only[go_sem,aa,x82];refine r0.call ?_;exact o
     .intro O1 g f K o;have x83:O1 83=ι (H p j).sign:=f 1 83 kr rfl
      unfold oI;simp only[go_sem,x83,hs1];exact o
     .intro O1 g f K o;have x84:O1 84=.bool false:=f 2 84 kr rfl
      unfold oI;simp only[go_sem,x84];exact o
     .intro O1 g f K o;have N:O1 11=.ptr 2 E 0:=(g 11 dc).trans (by simp only[go_sem])
      have d:O1 85=.bool false:=f 3 85 kr rfl
      unfold oI;simp only[go_sem,aa,N,d,Y,dN];exact o
     .intro O1 g f K o;have x0:O1 0=.lst 1 n (fun i=>.lst 2 (n+1) (fun j=>.big (H i j))):=(g 0 dc).trans (by simp only[go_sem,r])
      have d:O1 85=.bool false:=f 3 85 kr rfl
      unfold oI;simp only[go_sem,x0,d];exact o
     .intro O1 g f K o;have x9:O1 9=ι p:=(g 9 dc).trans (by simp only[go_sem,t])
      have d:O1 85=.bool false:=f 3 85 kr rfl
      unfold oI;simp only[go_sem,x9,d];exact o
     .intro O1 g f K o;have d:O1 85=.bool false:=f 3 85 kr rfl
      have x87:O1 87=.lst 1 n (fun i=>.lst 2 (n+1) (fun j=>.big (H i j))):=f 5 87 kr rfl
      have x88:O1 88=ι p:=f 6 88 kr rfl
      unfold oI;simp only[go_sem,d,x87,x88,b];exact o
     .intro O1 g f K o;have d:O1 85=.bool false:=f 3 85 kr rfl
      have x89:O1 89=.pat 1 (.lst 2 (n+1) (fun j=>.big (H p j))):=f 7 89 kr rfl
      unfold oI;simp only[go_sem,d,x89];exact o
     .intro O1 g f K o;have x8:O1 8=ι p:=(g 8 dc).trans (by simp only[go_sem,w])
      have d:O1 85=.bool false:=f 3 85 kr rfl
      unfold oI;simp only[go_sem,x8,d];exact o
     .intro O1 g f K o;have d:O1 85=.bool false:=f 3 85 kr rfl
      have x90:O1 90=.lst 2 (n+1) (fun j=>.big (H p j)):=f 8 90 kr rfl
      have x91:O1 91=ι p:=f 9 91 kr rfl
      unfold oI;simp only[go_sem,d,x90,x91,(om:p<n+1)]
      exact o
     .intro O1 g f K o;have d:O1 85=.bool false:=f 3 85 kr rfl
      have x92:O1 92=.pat 2 (.big (H p p)):=f 10 92 kr rfl
      unfold oI;simp only[go_sem,d,x92];exact o
     .intro O1 g f K o;have d:O1 85=.bool false:=f 3 85 kr rfl
      have x86:O1 86=.big (H p j):=f 4 86 kr rfl
      have x93:O1 93=.big (H p p):=f 11 93 kr rfl
      unfold oI;simp -dsimp only[go_sem,aa,d,x86,x93];refine r1.call ?_;exact o
     .intro O1 g f K o;have d:O1 85=.bool false:=f 3 85 kr rfl
      have x94:O1 94=ι (-1):=f 12 94 kr rfl
      unfold oI;simp only[go_sem,d,x94,show decide ((0:Int)<=-1)=false by rfl]
      exact o
     .intro O1 g f K o;have d:O1 85=.bool false:=f 3 85 kr rfl
      have x95:O1 95=.bool false:=f 13 95 kr rfl
      unfold oI;simp only[go_sem,d,x95];exact o
    .intro O1 g f;have x96:O1 96=.bool false:=f 14 96 rfl;have y0:O1 0=.lst 1 n (fun i=>.lst 2 (n+1) (fun j=>.big (H i j))):=(g 0 dc).trans (by simp only[go_sem,r])
     have y4:O1 4=ι n:=(g 4 dc).trans (by simp only[go_sem,z])
     have y7:O1 7=x:=(g 7 dc).trans (by simp only[go_sem,u])
     have y8:O1 8=ι p:=(g 8 dc).trans (by simp only[go_sem,w])
     have y9:O1 9=ι p:=(g 9 dc).trans (by simp only[go_sem,t])
     have y20:O1 20=ι ((n+1:Nat):Int):=(g 20 dc).trans (by simp only[go_sem,l])
     have y21:O1 21=ι p:=(g 21 dc).trans (by simp only[go_sem,m])
     have y76:O1 76=.lst 2 p (fun j=>.big (H p j)):=(g 76 dc).trans (by simp only[go_sem,A])
     have y77:O1 77=ι p:=(g 77 dc).trans (by simp only[go_sem,B])
     have y78:O1 78=ι j:=(g 78 dc).trans (by simp only[go_sem,C])
     simp only[go_sem,x96,y0,y4,y7,y8,y9,y20,y21,y76,y77,y78,aI (om:j<1000000),bS]
     exact⟨⟨j+1,om,rfl,X⟩,om⟩
   .obtain rfl:j=p:=om
    simp only[go_sem,A,B,C,M];rw[G];simp -dsimp only[*,go_sem];refine ax.intro fun b100 Z=>?_;have hxb:=D.fresh Z;have hX2:=D.upd (by rfl) hxb ⟨3,1,1,fun a=>[ι j].getD a .any⟩
    try simp -dsimp only[*,go_sem]
    refine cY.app3 (v:=ι j) hX2 om (by simp[ei]) (aR ⟨_,_,_,rfl,ca,rfl,fun h=>hxb _ h rfl⟩) ?_
    intro c S6 hX' _ _;simp only[*,go_sem,aI (om:j<1000000),bS]
    refine⟨⟨j+1,om,rfl,?_⟩,om⟩
    rw[(om:min (j+1) n=j+1)]
    exact hX'.congr fun a _=>by
     by_cases e:a=j
     .rw[aj e,e]
     .rw[ah e]
  .obtain rfl:p=n:=om
   obtain rfl:c=p:=om
   simp only[go_sem,r,z,u,w,t,l,m,b];rw[G];rw[MT,aj rfl,zA,MX,MX,RE];refine Pn fun K' hK'=>?_;simp only[go_sem,z,t];rw[hK',zA,Hw,show ev _ (.tmp 42)=AV.bool true by simp only[go_sem,cl],cd_t]
   simp only[*,go_sem,aI (om:c<1000000),bS]
   refine⟨⟨c+1,om,rfl,?_⟩,om⟩
   rw[(om:min (c+1) c=min c c)]
   exact D
 obtain rfl:c=n+1:=om
 simp only[*,go_sem];rcases D.2 with⟨h,_⟩|⟨c0,_,rfl,hL⟩
 .omega
 rw[(om:min (n+1) n=n)]at hL ⊢
 exact VR.tup2 (VR.sl hL om (fun a f=>by rw[aJ];exact VR.mf rfl)) (VR.mf rfl)

def Gz{g:Nat->AV}{K:AV->Prop}(a:j<=n)(h:K (.lst 2 j g)):li 59 (.lst 2 n g) (some (ι 0)) (some (ι (j:Int))) ae K :=
 ⟨rfl,0,j,rfl,rfl,trivial,om,a,by simpa using h⟩
def Of(n m M:Nat)(A:Nat->Nat->Int)(k:Nat)(h1:n<=100)(T:m<=M)(U:M<=100)(h3:1<=m)(V:∀i j,i<n->j<m->nb (A i j) k)(hk:k<=1000000):MF 186 [aL n M A,ι 0,ι m] n m A:=by
 refine MF.of ?_;refine iZ func186 ntmps186 results186 ?_;have W:((0:Int)==(m:Int))=false:=by simp;omega
 simp -dsimp only[go_sem,aL,aY,W]
 repeat refine an ?_
 refine ax.intro fun l f7=>?_;simp only[go_sem];refine aC (fun O S=>∃(i:Nat) (g:Nat->Nat),i<=n/\O 1=ι 0/\O 2=ι m/\O 7=.sl 1 l 0 n/\O 18=aL n M A/\O 19=ι n/\O 20=ι i /\
  a6 S l 59 1 n (fun a=>if a<i then .sl 2 (g a) 0 m else .nil)/\(∀a,a<i->iV S (g a) m (A a))/\∀a c,a<i->c<i->g a=g c->a=c) (fun O S=>n-bS (O 20)) ?_ ?_
 .simp only[go_sem,aL,aY];exact⟨0,om,rfl,fun _=>0,a6.here fun _ _=>by simp,fun a b=>om,fun a c b=>om⟩
 .rintro O S ⟨i,g,hi,Y,Z,N,D,E,F,u,s,hI⟩;by_cases o:i<n
  .simp only[*,go_sem,aL,aY,du,gF];refine Gz T ?_;simp only[go_sem];refine aC (fun O S'=>∃(j:Nat) (x:AV),j<=m/\O 1=ι 0/\O 2=ι m/\O 7=.sl 1 l 0 n/\O 8=ι i/\O 18=aL n M A/\O 19=ι n/\O 20=ι i/\O 28=aY m (A i)/\O 29=ι m/\O 30=ι j /\
    a6 S' l 59 1 n (fun a=>if a<i then .sl 2 (g a) 0 m else if a=i then x else .nil)/\(∀a,a<i->iV S' (g a) m (A a)/\¬dU x (g a))/\cY 50 2 St.none S' x j (fun c=>.big (A i c))) (fun O S=>m-bS (O 30)) ?_ ?_
   .simp only[*,go_sem,aL,aY];exact⟨0,om,rfl,.nil,u.congr fun a _=>by grind,fun a b=>⟨s a b,by rintro⟨_,_,_,e⟩;cases e⟩,cY.nil (fun k X h=>by cases h) _⟩
   .rintro O S' ⟨j,x,hj,Y,Z,N,e8,D,E,F,e28,e29,e30,u,s,t⟩;by_cases G:j<m
    .simp -dsimp only[*,go_sem,aL,aY];refine ax.intro fun p q=>?_;obtain⟨g1,v,P⟩:=u;have H:g1 i=x:=by rw[P i o];simp
     have r:l≠p:=a6.fresh (a6.of v) q;simp -dsimp only[go_sem];refine fm 9 kr ?_
     simp -dsimp only[go_sem,N,e8,o,r,v,H,aQ]
     repeat refine an ?_
     refine⟨_,(rZ (V i j o G) om).pure',?_⟩;simp -dsimp only[go_sem];have w:∀d,dU x d->d≠p:=t.fresh q;have I:=t.other v om;refine cY.app50 ((t.upd (by rfl) w _).upd (by rfl) w _) om (show ei 2 (.big (A i j))from trivial) (a9 ⟨_,rfl,rfl⟩) ?_
     intro c S2 y z B;have J:=z l _ (by rw[aG r,aG r];exact v) I
     simp only[*,go_sem,aL,aY,aI (om:j<1000000),bS]
     repeat refine an ?_
     refine⟨⟨j+1,om,rfl,.sl 2 c 0 (j+1),a6.here fun a b=>?_,fun a b=>?_,?_⟩,om⟩
     .have:=P a b;grind [aQ]
     .obtain⟨C,Q⟩:=s a b;have f:g a≠p:=a6.fresh C q;have K:g a≠l:=a6.ne C (a6.of v) om;refine⟨(C.via fun X t=>z _ _ (by rw[aG f,aG f];exact t) Q).upd K _,fun R=>?_⟩
      rw[d9]at R;rw[<-R]at B;rcases B with h|h
      .exact Q h
      .rw[aG f,aG f]at h;exact a6.fresh C h rfl
     .refine(y.upd (by rfl) (fun d L e=>?_) _).congr (fun a b=>by grind)
      rw[e]at L;exact y.other J om L
    .simp only[*,go_sem,aL,aY,aI (om:i<1000000),bS]
     obtain rfl:j=m:=om
     rcases t.2 with⟨h0,_⟩|⟨c,_,rfl,hC⟩
     .omega
     refine⟨⟨i+1,om,rfl,fun a=>if a=i then c else g a,u.congr fun a b=>by grind,fun a b=>?_,fun a d b L e=>?_⟩,om⟩
     .by_cases e:a=i
      .subst e;simp only[aE];exact hC
      .simp only[e,aH];exact(s a om).1
     .have k1:=fun a b=>(s a b).2;simp only[d9]at k1
      grind
  .simp only[*,go_sem,aL,aY];obtain rfl:i=n:=om
   exact⟨l,rfl,g,u.congr fun a b=>by simp[b],s,hI⟩
structure vB(n k:Nat)(A:az)(B:az):Prop where
 ex:∃R H U,KP n A R H U/\CM n k (fun i j=>lr (n+1) (fun k r=>A r k) U j i)/\B=fun i j=>lr (n+1) (fun k r=>A r k) U j i
def BR(n k:Nat)(M:az)(d:mK n (fv n M))(e:k<=1000000)(f:∀R H U,KP n (fv n M) R H U->(∀a r,a<n+1->r<n+n+1->nb (lr (n+1) (fun k r=>fv n M r k) U a r) k)/\CM n k (fun i j=>lr (n+1) (fun k r=>fv n M r k) U j i)) :
  cJ 123 [aL n (n+1) M] St.none (fun r S'=>∃b g B,r=.tup [.sl 1 b 0 n,.bool true]/\vB n k (fv n M) B/\dr S' b g n n B):=by
 have l:=d.h1;have s:=d.hn;refine iZ func123 ntmps123 results123 ?_;simp -dsimp only[go_sem,aa];refine(El n k M d e fun R H U h=>(f R H U h).1).mono ?_;rintro _ S1 ⟨R,H,U,m,V,rfl⟩;have c:=(f R H U m).2;have o:vB n k (fv n M) (fun i j=>lr (n+1) (fun k r=>fv n M r k) U j i):=⟨R,H,U,m,c,rfl⟩;generalize (fun i j=>lr (n+1) (fun k r=>fv n M r k) U j i)=B at c o;simp -dsimp only[go_sem,aa];refine(JW n k B l om e c).call ?_;simp -dsimp only[go_sem,aa];refine(Of n n (n+1) B k om om om l (fun i j p t=>c.nb i j p om) e _ _ (cC _ _)).mono ?_;rintro _ S2 ⟨b,g,rfl,q⟩;simp only[go_sem];exact⟨b,rfl,g,B,o,q.1⟩

def ra{m:Int}(a:1<=m)(i j:Nat):0<=lM A m i j/\lM A m i j<m:=⟨aV _ om,aU _ om⟩
def KX(n K l:Nat)(A B:az)(m:Int)(o:1<=n)(d:n<=16)(e:1<=K)(b:K<=16)(p:1<=l)(f:l<=16)(q:2<=m)(a:m<=2147483647):F3 181 [av n K A,av K l B,ι m] n l (kQ (lM A m) (lM B m) K m):=by
 refine F3.of ?_;refine iZ func181 ntmps181 results181 ?_;have r:0<n:=om
 have g:(0:Int)<(n:Int):=om
 simp -dsimp only[go_sem,aa];refine(tF n K A o d e b).call ?_;simp -dsimp only[go_sem,aa];refine(tF K l B e b p f).call ?_;simp -dsimp only[go_sem,aa,av,aK,g,show((K:Int) != K)=false by simp]
 refine(k9 m q a).call ?_;simp -dsimp only[go_sem,aa];refine(mp n K A m d b om a _ _ (cC _ _)).mono ?_;rintro _ S1 ⟨u,v,rfl,h⟩;simp -dsimp only[go_sem,aa];refine(mp K l B m b f om a _ _ (cC _ _)).mono ?_;rintro _ S2 ⟨w,x,rfl,c⟩;simp -dsimp only[go_sem,aa];refine(GJ n K l (lM A m) (lM B m) m d e b f om a (fun i j _ _=>ra om i j) (fun i j _ _=>ra om i j) _ _ (eI.imat (h.1.ext c.2.1) (eI.imat c.1 (cC _ _)))).mono ?_;rintro _ S3 ⟨s,t,rfl,k⟩;simp only[go_sem];exact⟨s,rfl,t,k.1⟩
def NZ(n:Nat)(v:Nat->Int)(c:1<=n):PF 183 [aK n v] (.bool (v 0 != 0)):=by
 refine gN func183 ntmps183 results183 ?_;have b:0<n:=om
 have a:(0:Int)<(n:Int):=om
 simp only[go_sem,aK,a];exact VR.mf rfl
def Eg(n m piv:Nat)(A:az)(f:n<=16)(a:1<=m)(g:piv<n)(b:A piv 0≠0)(c:∀i,i<piv->A i 0=0):PF 182 [av n m A,.fn 183 []] (ι piv):=by
 refine gN func182 ntmps182 results182 ?_;simp only[go_sem,av,aK];refine aC (fun O S=>∃i:Nat,i<=piv/\O 0=av n m A/\O 1=.fn 183 []/\O 7=ι n/\O 8=ι i) (fun O S=>n-bS (O 8)) ?_ ?_
 .simp only[go_sem,av,aK];exact⟨0,om,rfl⟩
 .rintro O S ⟨i,h,j,k,l,o⟩;have d:i<n:=om
  simp -dsimp only[*,go_sem,aa,av,aK];refine(NZ m (A i) a).call ?_;by_cases e:i=piv
  .subst e;simp only[*,go_sem,av,aK,show(A i 0 != 0)=true by simp[b]]
   exact VR.mf rfl
  .simp only[*,go_sem,av,aK,show(A i 0 != 0)=false by simp[c i om],aI (om:i<1000000),bS]
   exact⟨⟨i+1,om,rfl⟩,om⟩

def Bn(x m:Int)(v:1<=m)(e:m<=2147483647)(w:0<=x)(U:x<m):PF 229 [ι x,ι m] (.tup [ι ((bz m.toNat x.toNat).2.2%m),.bool ((bz m.toNat x.toNat).1==1)]):=by
 obtain⟨M,rfl⟩:∃M:Nat,m=M:=⟨m.toNat,om⟩
 obtain⟨X,rfl⟩:∃X:Nat,x=X:=⟨x.toNat,om⟩
 rw[cQ,cQ];refine gN func229 ntmps229 results229 ?_;have f:¬((M:Int)=0):=om
 simp only[go_sem];refine aC (fun O S=>∃(x y:Nat) (a na b nb:Int),Le M X x y a b na nb/\O 1=ι M/\O 6=ι x/\O 7=ι y/\O 8=ι b/\O 9=ι nb) (fun O S=>bS (O 7)) ?_ ?_
 .simp only[go_sem];exact⟨M,X,1,0,0,1,Le.init (a9 om),rfl,rfl,rfl,rfl⟩
 .rintro O S ⟨x,y,a,na,b,nb,c,n,o,p,r,s⟩;have z:=c.lx;have A:=c.ly;have B:=c.lb;have t:=c.lnb;by_cases g:y=0
  .subst g;have C:=c.fin;obtain⟨D,E⟩:=EF (x:=b) v e;simp only[go_sem,n,o,p,r,s,f,D,E,show(((0:Nat):Int) != 0)=false from rfl];rw[C];exact VR.mf rfl
  .have u:=c.step g;have h:(((y:Nat):Int) != 0)=true:=by simp;omega
   have d:¬(((y:Nat):Int)=0):=om
   have F:pM (x:Int) (y:Int)=((x/y:Nat):Int):=(TB x y).symm;have i:=di x (gK g);have G:=gG x y;have j:=cV x y;have H:=u.lnb;have k:=(qk (q:=((x/y:Nat):Int)) (cM _) c.gb).1;rw[fE]at k;have I:(((x/y:Nat):Int)*nb).natAbs=x/y*nb.natAbs:=by rw[cN,fE]
   have J:ω ((x/y:Nat):Int)=((x/y:Nat):Int):=by
    have K:(0:Int)<=((x/y:Nat):Int):=cM _;have L:((x/y:Nat):Int)<=x:=kG.2 G;generalize ((x/y:Nat):Int)=zz at *;exact i64_in om om
   have l:((x/y:Nat):Int)*(y:Int)=((x:Nat):Int)-((x%y:Nat):Int):=by
    have N:((y*(x/y)+x%y:Nat):Int)=(x:Int):=by rw[j]
    rw[eD,aX,bU]at N;omega
   have P:ω (((x/y:Nat):Int)*(y:Int))=((x:Nat):Int)-((x%y:Nat):Int):=by rw[l];exact i64_in om om
   have Q:ω (((x:Nat):Int)-(((x:Nat):Int)-((x%y:Nat):Int)))=((x%y:Nat):Int):=by
    rw[show((x:Nat):Int)-(((x:Nat):Int)-((x%y:Nat):Int))=((x%y:Nat):Int) by omega];exact i64_in om om
   have R:ω (((x/y:Nat):Int)*nb)=((x/y:Nat):Int)*nb:=i64_in om om;have T:ω (b-((x/y:Nat):Int)*nb)=b-((x/y:Nat):Int)*nb:=i64_in om om;simp only[go_sem,aa,n,o,p,r,s,h,d,F,J,P,Q,R,T,bS];exact⟨⟨y,x%y,na,_,nb,_,u,rfl,rfl,rfl,rfl⟩,i⟩
def Gd(b:Nat)(S S':St):Prop:=∀c,c≠b->S' c=S c
def Gd.refl(b:Nat)(S:St):Gd b S S:=fun _ _=>rfl
def Gd.upd(h:Gd b S S')(X:eo):Gd b S (S'.upd b X):=fun c a=>by simp only[St.upd,a,aH];exact h c a
def Gd.has(h:Gd b S S')(a:c≠b){t es n:Nat}{g:Nat->AV}(d:a6 S c t es n g):a6 S' c t es n g:=by
 obtain⟨g',e,f⟩:=d;exact⟨g',(h c a).trans e,f⟩
def Gd.var(h:Gd b S S')(a:c≠b){t es:Nat}{z:AV}(d:cT S c t es z):cT S' c t es z:=by
 obtain⟨g',e,f⟩:=d;exact⟨g',(h c a).trans e,f⟩
def GD(n b:Nat)(v:Nat->Int)(f m:Int)(S:St)(F:n<=16)(G:1<=m)(t:m<=1000000)(H:0<=f/\f<m)(u:∀j,j<n->0<=v j/\v j<m)(w:a6 S b 2 1 n (fun j=>ι (v j))) :
  cJ 230 [.sl 1 b 0 n,ι f,ι m] S (fun _ S'=>Gd b S S'/\a6 S' b 2 1 n (fun j=>ι (v j*f%m))):=by
 refine fy func230 rfl 24 ntmps230 kr sm ?_
 rw[jZ,results230];have g:¬(m=0):=om
 simp only[go_sem];refine aC (fun O S'=>∃i:Nat,i<=n/\O 0=.sl 1 b 0 n/\O 1=ι f/\O 2=ι m/\O 8=.sl 1 b 0 n/\O 9=ι n/\O 10=ι i/\Gd b S S'/\a6 S' b 2 1 n (fun j=>ι (if j<i then v j*f%m else v j))) (fun O S=>n-bS (O 10)) ?_ ?_
 .simp only[go_sem];exact⟨0,om,rfl,Gd.refl b S,w.congr fun j _=>by simp⟩
 .rintro O S' ⟨i,I,k,l,c,o,p,d,q,r⟩;by_cases a:i<n
  .obtain⟨x,y,s⟩:=id r;have z:x i=ι (v i):=(s i a).trans sm
   have J:=u i a;have C:=oq (A:=1000000) (B:=1000000) (om:0<=v i/\v i<=1000000) (om:0<=f/\f<=1000000)
   have D:ω (v i*f)=v i*f:=i64_in om om;have E:eV (v i*f) m=v i*f%m:=aO C.1;simp only[go_sem,aa,k,l,c,o,p,d,a,y,z,g,D,E,aI (om:i<1000000),bS]
   refine⟨⟨i+1,om,rfl,q.upd _,a6.here fun j h=>?_⟩,om⟩
   by_cases e:j=i
   .subst e;simp[aQ]
   .simp only[aQ,e,aH];rw[s j h];by_cases c:j<i
    .simp[c,(om:j<i+1)]
    .simp[c,(om:¬j<i+1)]
  .obtain rfl:i=n:=om
   simp only[go_sem,k,l,c,o,p,d,a];exact⟨q,r.congr fun j h=>by simp[h]⟩
def Ag(n bt br bm:Nat)(x y:Nat->Int)(q m:Int)(S:St)(Q:n<=16)(R:1<=m)(v:m<=1000000)(T:0<=q/\q<m)(w:∀j,j<n->0<=x j/\x j<m)(z:∀j,j<n->0<=y j/\y j<m)(h:br≠bt)(b:bm≠bt)
  (k:a6 S bt 2 1 n (fun j=>ι (x j))) (l:a6 S br 2 1 n (fun j=>ι (y j))) (o:cT S bm 2 1 (ι m)) :
  cJ 257 [.sl 1 bt 0 n,.sl 1 br 0 n,ι q,.ptr 1 bm 0] S (fun _ S'=>Gd bt S S'/\a6 S' bt 2 1 n (fun j=>ι ((x j-q*y j)%m))):=by
 refine fy func257 rfl 32 ntmps257 kr sm ?_
 rw[jZ,results257];have p:¬(m=0):=om
 simp only[go_sem];refine aC (fun O S'=>∃i:Nat,i<=n/\O 0=.sl 1 bt 0 n/\O 2=ι q/\O 3=.ptr 1 bm 0/\O 9=.sl 1 br 0 n/\O 10=ι n/\O 11=ι i/\Gd bt S S'/\a6 S' bt 2 1 n (fun j=>ι (if j<i then(x j-q*y j)%m else x j))) (fun O S=>n-bS (O 11)) ?_ ?_
 .simp only[go_sem];exact⟨0,om,rfl,Gd.refl bt S,k.congr fun j _=>by simp⟩
 .rintro O S' ⟨i,U,C,f,D,s,c,d,g,t⟩;by_cases a:i<n
  .obtain⟨E,F,u⟩:=id t;obtain⟨G,V,H⟩:=id (g.has h l);obtain⟨W,I,J⟩:=id (g.var b o);have K:E i=ι (x i):=(u i a).trans sm
   have X:G i=ι (y i):=H i a;have Y:=w i a;have Z:=z i a;have k2:=oq (A:=1000000) (B:=1000000) (om:0<=m-q/\m-q<=1000000) (om:0<=y i/\y i<=1000000)
   have L:ω (m-q)=m-q:=i64_in om om;have M:ω ((m-q)*y i)=(m-q)*y i:=i64_in om om;have N:ω (x i+(m-q)*y i)=x i+(m-q)*y i:=i64_in om om;have P:eV (x i+(m-q)*y i) m=(x i-q*y i)%m:=by
    rw[aO om,show x i+(m-q)*y i=x i-q*y i+m*y i by grind,qS]
   simp -dsimp only[*,go_sem,aa];refine aN 15 kr ?_
   simp only[go_sem,aa,C,f,D,s,c,d,a,F,K,I,J,p,L,M,N,P,aI (om:i<1000000),bS]
   refine⟨⟨i+1,om,rfl,g.upd _,a6.here fun j r=>?_⟩,om⟩
   by_cases e:j=i
   .subst e;simp[aQ]
   .simp only[aQ,e,aH];rw[u j r];by_cases f:j<i
    .simp[f,(om:j<i+1)]
    .simp[f,(om:¬j<i+1)]
  .obtain rfl:i=n:=om
   simp only[go_sem,s,c,d,a];exact⟨g,t.congr fun j r=>by simp[r]⟩
def mI(m:Int)(S:St):cJ 228 [ι m] S (fun r S'=>∃b,S b=ae/\r=.fn 257 [.ptr 1 b 0]/\dy S S'/\cT S' b 2 1 (ι m)):=by
 refine iZ func228 ntmps228 results228 ?_;simp only[go_sem];refine ax.intro fun bc fc=>?_
 try simp -dsimp only[go_sem]
 exact⟨bc,fc,rfl,(dy.refl S).upd fc _,cT.new rfl⟩

def MD{R:az}{m q:Int}(k:c<n)(l:i<n)(d:c≠i):m∣det n (fun a j=>setRow R c (fun j=>(R c j-q*R i j)%m) (c8 i c a) j)↔m∣det n R:=by
 have o:=yv (setRow R c (fun j=>(R c j-q*R i j)%m)) l k (ai d);have p:=kA R k l d 1 (-q);have e:=uF (h:=m) n (setRow R c (fun j=>(R c j-q*R i j)%m)) (setRow R c (fun j=>1*R c j+(-q)*R i j)) (fun a b=>by
  simp only[setRow];split
  .rw[show(R c b-q*R i b)%m-(1*R c b+-q*R i b)=(R c b-q*R i b)%m-(R c b-q*R i b) by grind]
   have:=oc (R c b-q*R i b) m;exact⟨-((R c b-q*R i b)/m),by grind⟩
  .simp)
 rw[p,cL]at e;rw[o,Int.dvd_neg];constructor
 .intro f;have g:=Im f e
  rwa [show ∀x y:Int,x-(x-y)=y from fun x y=>om]at g
 .intro f;have g:=gQ e f
  rwa [show ∀x y:Int,x-y+y=x from fun x y=>om]at g
theorem Cq{m:Int}(f:2<=m)(d:∀a b:Int,m∣a*b->m∣a∨m∣b):∀(n:Nat) (A:az),(∀i j,j<i->i<n->A i j=0)->(m∣det n A↔∃i,i<n/\m∣A i i)
 | 0,A,_=>⟨fun h=>by
   have:=mg (by simp[det]) h
   simp[det]at this;omega,fun⟨i,h,_⟩=>om⟩
 | n+1,A,h=>by
  have ih:=Cq f d n (fun i j=>A (i+1) (j+1)) (fun a b e c=>h _ _ om om);rw[r9 A (fun a k=>h (a+1) 0 om om)];constructor
  .intro e;rcases d _ _ e with c|c
   .exact⟨0,om,c⟩
   .obtain⟨i,l,g⟩:=ih.1 c;exact⟨i+1,om,g⟩
  .rintro⟨i,e,c⟩
   cases i with
   | zero=>exact eF c
   | succ i=>exact ck (ih.2 ⟨i,om,c⟩)
def eh.swap{A:Nat->Nat->Int}(h:eh S b g n m A){p k:Nat}(v:p<n)(w:k<n)(r:p≠k){f:Nat->AV}(l:S b=some ⟨29,1,n,f⟩) :
  eh (S.upd b ⟨29,1,n,aQ (aQ f p (.sl 1 (g k) 0 m)) k (.sl 1 (g p) 0 m)⟩) b (fun i=>g (c8 k p i)) n m (fun i j=>A (c8 k p i) j):=by
 obtain⟨g',o,s⟩:=h.outer;rw[l]at o;cases o;have c:∀i,i<n->c8 k p i<n:=fun i a=>by unfold c8;split<;>(try split)<;>omega
 refine⟨a6.here fun i a=>?_,fun i a=>(h.row _ (c i a)).upd (fun e=>?_) _,fun i j a t e=>?_⟩
 .have:=s i a;simp only[aQ,c8];by_cases d:i=k
  .subst d;simp
  .by_cases q:i=p
   .subst q;simp[d]
   .simp[d,q,this]
 .exact a6.ne (a6.of l) (h.row _ (c i a)) om e.symm
 .have u:=h.inj _ _ (c i a) (c j t) e;unfold c8 at u
  grind
structure Pz(P:Prop)(n b bm:Nat)(m:Int)(S:St)(g:Nat->Nat)(R:az):Prop where
 mat:eh S b g n n R
 rng:∀i j,i<n->j<n->0<=R i j/\R i j<m
 ndet:m∣det n R↔P
 var:cT S bm 2 1 (ι m)
 ne:b≠bm
 gne:∀a,a<n->g a≠bm
def PP(n c:Nat)(R:az):Prop:=∀a d,d<c->d<a->a<n->R a d=0
def cellN(S:St)(b i c:Nat):Nat:=match S b with
 | some X=>(match X.g i with
  | .sl _ b' _ _=>(match S b' with
   | some Y=>(match Y.g c with
    | .int _ z=>z.toNat
    | _=>0)
   | ae=>0)
  | _=>0)
 | ae=>0
def eh.cellN(h:eh S b g n m A){i c:Nat}(a:i<n)(f:c<m):cellN S b i c=(A i c).toNat:=by
 obtain⟨p,j,k⟩:=h.outer;obtain⟨q,l,o⟩:=h.row i a;have d:=k i a;have e:=o c f;simp only at d e;simp[YtdobfmlmenaajaaGreatDoor.cellN,j,d,l,e]
def yc(P:Prop)(n b:Nat)(g:Nat->Nat)(R:az)(m:Int)(S:St)(hn:n<=16)(hm:1<=m)(hm2:m<=1000000)(hM:eh S b g n n R)(hr:∀i j,i<n->j<n->0<=R i j/\R i j<m)(hd:m∣det n R↔P) :
  cJ 227 [.sl 1 b 0 n,ι m] S (fun r S'=>∃(s:Int) (g':Nat->Nat) (R':az),r=ι s/\(s=1∨s=-1)/\eh S' b g' n n R'/\(∀i j,i<n->j<n->0<=R' i j/\R' i j<m)/\(m∣det n R'↔P)/\PP n n R'):=by
 refine iZ func227 ntmps227 results227 ?_;simp -dsimp only[go_sem,aa];refine(mI m S).mono ?_;rintro _ S1 ⟨bm,H,rfl,hE,hV⟩;simp only[go_sem];refine aC (fun O S'=>∃c:Nat,c<=n/\O 0=.sl 1 b 0 n/\O 5=.fn 257 [.ptr 1 bm 0]/\O 12=ι n/\O 13=ι c/\∃(s:Int) (g':Nat->Nat) (R':az),O 6=ι s/\(s=1∨s=-1)/\Pz P n b bm m S' g' R'/\PP n c R') (fun O S=>n-bS (O 13)) ?_ ?_
 .simp only[go_sem];exact⟨0,om,rfl,1,rfl,a9 rfl,g,R,⟨hM.ext hE,hr,hd,hV,a6.fresh hM.outer H,fun a w=>a6.fresh (hM.row a w) H⟩,fun a d h=>om⟩
 .rintro O S' ⟨c,hc,y,z,o,p,s,g',R',C,x,k,u⟩;by_cases f:c<n
  .simp only[*,go_sem,aI (om:c<1000000)]
   refine aC (fun O S'=>∃i:Nat,i<=n/\O 0=.sl 1 b 0 n/\O 5=.fn 257 [.ptr 1 bm 0]/\O 7=ι c/\O 8=ι i/\O 12=ι n/\O 13=ι c/\∃(s:Int) (g':Nat->Nat) (R':az),O 6=ι s/\(s=1∨s=-1)/\Pz P n b bm m S' g' R'/\PP n c R'/\c<i/\∀a,c<a->a<i->R' a c=0) (fun O S=>n-bS (O 8)) ?_ ?_
   .simp only[*,go_sem];exact⟨c+1,om,rfl,s,rfl,x,g',R',k,u,om,fun a t A=>om⟩
   .clear y z C o p x k u;rintro O S' ⟨i,hi,y,z,E,F,o,p,s,g',R',C,x,k,u,I,G⟩;by_cases l:i<n
    .simp only[*,go_sem];refine aC (fun O S'=>O 0=.sl 1 b 0 n/\O 5=.fn 257 [.ptr 1 bm 0]/\O 7=ι c/\O 8=ι i/\O 12=ι n/\O 13=ι c/\∃(s:Int) (g':Nat->Nat) (R':az),O 6=ι s/\(s=1∨s=-1)/\Pz P n b bm m S' g' R'/\PP n c R'/\c<i/\∀a,c<a->a<i->R' a c=0) (fun O S=>cellN S b i c) ?_ ?_
     .simp only[go_sem,y,z,C,E,F,o,p];exact⟨s,rfl,x,g',R',k,u,I,G⟩
     .clear y z C E F o p x k u G;rintro O S' ⟨y,z,E,F,o,p,s,g',R',C,x,k,u,_,G⟩;obtain⟨V,u1,v1⟩:=id k.mat.outer;obtain⟨g2,u2,v2⟩:=id (k.mat.row i l);obtain⟨g3,u3,v3⟩:=id (k.mat.row c f);have x1:V i=.sl 1 (g' i) 0 n:=v1 i l;have y1:V c=.sl 1 (g' c) 0 n:=v1 c f;have x2:g2 c=ι (R' i c):=v2 c f;have x3:g3 c=ι (R' c c):=v3 c f;have r1:=k.rng i c l f;have W:=k.rng c c f f;by_cases X:R' i c=0
      .simp only[*,go_sem,aa,show((0:Int) != 0)=false by simp,aI (om:i<1000000),bS]
       refine⟨⟨i+1,om,rfl,s,rfl,x,g',R',k,u,om,fun a t A=>?_⟩,om⟩
       by_cases e:a=i
       .rw[e];exact X
       .exact G a t om
      .have hq0:=Int.tdiv_nonneg W.1 r1.1;have hq1:pM (R' c c) (R' i c)<=R' c c:=by
        rw[fD W.1];exact oH _ W.1
       have w1:ω (pM (R' c c) (R' i c))=pM (R' c c) (R' i c):=i64_in om om;generalize hq:pM (R' c c) (R' i c)=q at *;simp -dsimp only[go_sem,aa,y,z,C,E,F,o,p,l,f,u1,u2,x1,x2,show(R' i c != 0)=true by simp[X]]
       refine aN 24 kr ?_
       simp -dsimp only[go_sem,aa,y,z,E,F,l,f,u1,u2,u3,x1,y1,x2,x3,X,hq,w1];have J:g' i≠g' c:=fun e=>absurd (k.mat.inj i c l f e) om;refine(Ag n (g' c) (g' i) bm (R' c) (R' i) q m S' hn hm hm2 om (fun j K=>k.rng c j f K) (fun j K=>k.rng i j l K) J (ai (k.gne c f)) (k.mat.row c f) (k.mat.row i l) k.var).mono ?_;rintro _ S2 ⟨Y,hH⟩;have L:b≠g' c:=k.mat.outer_ne f;have M:S2 b=some ⟨29,1,n,V⟩:=(Y b L).trans u1;have hM2:eh S2 b g' n n (setRow R' c (fun j=>(R' c j-q*R' i j)%m)):=by
        refine⟨Y.has L k.mat.outer,fun a w=>?_,k.mat.inj⟩;by_cases e:a=c
        .subst e;exact hH.congr fun j _=>by simp[setRow]
        .refine(Y.has (fun D=>e (k.mat.inj a c w f D)) (k.mat.row a w)).congr fun j _=>by simp[setRow,e]
       have hM3:=hM2.swap f l om M;simp -dsimp only[go_sem];refine fm 13 kr ?_
       have ws:ω (0-s)=-s:=by rw[Ex];exact i64_in om om
       have v:c≠i:=om
       simp only[go_sem,aa,y,z,C,E,F,o,p,l,f,M,x1,y1,ws];have key:(R' c c-q*R' i c)%m=R' c c-q*R' i c/\0<=R' c c-q*R' i c/\R' c c-q*R' i c<R' i c:=by
        have t:=fD (b:=R' i c) W.1;have A:=aV (R' c c) X;have Z:=aU (R' c c) (om:0<R' i c)
        have h4:=Ey (R' c c) (R' i c);rw[hq]at t;rw[<-t,bU]at h4;exact⟨dz om om,om,om⟩
       have B:Pz P n b bm m (S2.upd b ⟨29,1,n,aQ (aQ V c (.sl 1 (g' i) 0 n)) i (.sl 1 (g' c) 0 n)⟩) (fun a=>g' (c8 i c a)) (fun a j=>setRow R' c (fun j=>(R' c j-q*R' i j)%m) (c8 i c a) j):=by
        have N:∀a,a<n->c8 i c a<n:=fun a w=>by unfold c8;split<;>(try split)<;>omega
        refine⟨hM3,fun a j w K=>?_,(MD f l v).trans k.ndet,(Y.var (ai (k.gne c f)) k.var).upd (ai k.ne) _,k.ne,fun a w=>k.gne _ (N a w)⟩;simp only[setRow];split
        .exact⟨aV _ om,aU _ om⟩
        .exact k.rng _ _ (N a w) K
       have ev:∀a d,(fun a j=>setRow R' c (fun j=>(R' c j-q*R' i j)%m) (c8 i c a) j) a d=if a=i then(R' c d-q*R' i d)%m else if a=c then R' i d else R' a d:=fun a d=>by
        simp only[setRow,c8];by_cases Q:a=i
        .simp[Q]
        .by_cases D:a=c
         .simp[D,v,ai v]
         .simp[Q,D]
       rw[lv];refine⟨⟨-s,rfl,om,_,_,B,fun a d t A Z=>?_,I,fun a t A=>?_⟩,?_⟩
       .refine(ev a d).trans ?_;by_cases Q:a=i
        .rw[aj Q,u c d t t f,u i d t om l];simp
        .rw[ah Q];by_cases D:a=c
         .rw[aj D,u i d t om l]
         .rw[ah D];exact u a d t A Z
       .refine(ev a c).trans ?_;rw[ah om,ah om];exact G a t A
       .have T:=B.mat.cellN l f;have e9:=k.mat.cellN l f;have U:=(ev i c).trans ((aj rfl).trans key.1);simp only at T U;rw[U]at T;omega
    .simp only[*,go_sem,aI (om:c<1000000),bS]
     refine⟨⟨c+1,om,rfl,s,rfl,x,g',R',k,fun a d t A Z=>?_⟩,om⟩
     by_cases e:d=c
     .rw[e];exact G a om om
     .exact u a d om A Z
  .obtain rfl:c=n:=om
   simp only[*,go_sem];exact⟨s,rfl,x,g',R',k.mat,k.rng,k.ndet,u⟩
def Gb(n:Nat)(H:az)(m:Int)(v:1<=n)(V:n<=8)(P:2<=m)(w:m<=1000000)(l:∀a b:Int,m∣a*b->m∣a∨m∣b) :
  cJ 222 [av n n H,ι m] St.none (fun r S'=>∃d:Int,(d=0↔m∣det n H)/\r=.tup [ι d,ι 0]):=by
 refine iZ func222 ntmps222 results222 ?_;have k:¬(m=0):=om
 simp -dsimp only[go_sem,aa];refine(xr n H v V).call ?_;simp -dsimp only[go_sem,aa];refine(k9 m P om).call ?_;simp -dsimp only[go_sem,aa];refine(mp n n H m om om om om _ _ (cC _ _)).mono ?_;rintro _ S1 ⟨b,g,rfl,W⟩;simp -dsimp only[go_sem,aa];have z:m∣det n (lM H m)↔m∣det n H:=by
  have Q:=uF (h:=m) n (lM H m) H (fun a b=>by
   have:=oc (H a b) m;exact⟨-(H a b/m),by simp only[lM];grind⟩)
  constructor
  .intro h;have C:=Im h Q
   rwa [show ∀x y:Int,x-(x-y)=y from fun x y=>om]at C
  .intro h;have C:=gQ Q h
   rwa [show ∀x y:Int,x-y+y=x from fun x y=>om]at C
 refine(yc (m∣det n H) n b g (lM H m) m S1 om om w W.1 (fun i j _ _=>ra om i j) z).mono ?_;rintro _ S2 ⟨s,g',R,rfl,X,o,Y,D,Z⟩;have ws:ω (s+m)=s+m:=i64_in om om;have p:=(Cq P l n R (fun a d v E=>Z a d om v E)).symm.trans D;simp only[go_sem,ws];refine aC (fun O S'=>∃i:Nat,i<=n/\O 1=ι m/\O 27=.sl 1 b 0 n/\O 28=ι n/\O 29=ι i/\∃d:Int,O 8=ι d/\(m∣d↔∃a,a<i/\m∣R a a)/\0<=d/\(0<i->d<m)/\eh S' b g' n n R) (fun O S=>n-bS (O 29)) ?_ ?_
 .simp only[go_sem];refine⟨0,om,rfl,s+m,rfl,⟨fun h=>?_,fun⟨a,h,_⟩=>om⟩,om,fun h=>om,o⟩
  exfalso;obtain⟨t,ht⟩:=h;have T:s=m*(t-1):=by rw[mQ];omega
  have F:m∣1:=by
   rcases X with rfl|rfl
   .exact⟨_,T⟩
   .exact⟨-(t-1),by rw[mR,<-T];rfl⟩
  have:=mg om F;omega
 .rintro O S' ⟨i,hi,G,I,J,K,d,e8,f,q,L,o⟩;by_cases c:i<n
  .obtain⟨g1,u1,v1⟩:=id o.outer;obtain⟨g2,u2,v2⟩:=id (o.row i c);have x1:g1 i=.sl 1 (g' i) 0 n:=v1 i c;have x2:g2 i=ι (R i i):=v2 i c;have r1:=Y i i c c;have q0:eV d m=d%m:=aO q;have r2:0<=d%m/\d%m<m:=⟨aV _ k,aU _ om⟩;have r3:=oq (A:=1000000) (B:=1000000) (om:0<=d%m/\d%m<=1000000) (om:0<=R i i/\R i i<=1000000)
   have q1:ω (d%m*R i i)=d%m*R i i:=i64_in om om;have q2:eV (d%m*R i i) m=d%m*R i i%m:=aO r3.1;simp -dsimp only[*,go_sem,aa];refine aN 10 kr ?_
   simp only[go_sem,aa,G,e8,I,J,K,c,u2,x2,k,q0,q1,q2,aI (om:i<1000000),bS]
   refine⟨⟨i+1,om,rfl,d%m*R i i%m,rfl,?_,aV _ k,fun _=>aU _ om,o⟩,om⟩
   have G:m∣d%m*R i i%m↔m∣d%m*R i i:=by rw[tv,tv,Int.emod_emod]
   have U:m∣d%m↔m∣d:=by rw[tv,tv,Int.emod_emod]
   rw[G];constructor
   .intro h;rcases l _ _ h with M|M
    .obtain⟨a,h6,u⟩:=f.1 (U.1 M);exact⟨a,om,u⟩
    .exact⟨i,om,M⟩
   .rintro⟨a,h6,u⟩;by_cases e:a=i
    .subst e;exact ck u
    .exact eF (U.2 (f.2 ⟨a,om,u⟩))
  .obtain rfl:i=n:=om
   simp only[*,go_sem];have N:=L om;refine⟨d,⟨fun h=>p.1 (f.1 (by rw[h];exact jm _)),fun h=>?_⟩,rfl⟩
   have E:=cS (f.2 (p.2 h))
   rwa [dz q N]at E

def CY(n m:Nat)(A:az)(i j:Nat)(S:St)(b a:Nat)(f:i<n)(g:j<m)(c:iw (A i j))(d:cT S b 52 1 (aL n m A))(e:cT S a 4 1 (.bool true)) :
  cJ 99 [ι i,ι j,.ptr 1 b 0,.ptr 1 a 0] S (fun r S'=>r=ι (A i j)/\Gd a S S'/\cT S' a 4 1 (.bool true)):=by
 refine iZ func99 ntmps99 results99 ?_;obtain⟨h,k,l⟩:=id d;obtain⟨o,p,q⟩:=id e;simp -dsimp only[*,go_sem,aa,aL,aY];refine(rl c).call ?_;simp only[*,go_sem,aa,aL,aY];exact⟨(Gd.refl a S).upd _,cT.set⟩
def DT(n m:Nat)(A:az)(S0:St)(t h:Nat)(hn:n<=16)(hm:m<=16)(hA:∀i j:Nat,i<n->j<m->iw (A i j))(o:cT S0 t 52 1 (aL n m A))(d:cT S0 h 4 1 (.bool true)) :
  cJ 98 [ι n,ι m,.fn 99 [.ptr 1 t 0,.ptr 1 h 0]] S0 (fun r S'=>∃b g,r=.sl 1 b 0 n/\eh S' b g n m A/\cT S' h 4 1 (.bool true)):=by
 refine iZ func98 ntmps98 results98 ?_;simp -dsimp only[go_sem]
 repeat refine an ?_
 refine ax.intro fun bc fc=>?_;simp only[go_sem];have n1c:t≠bc:=o.fresh fc;have n6c:h≠bc:=d.fresh fc;refine aC (fun O S'=>∃i:Nat,i<=n/\O 1=ι m/\O 2=.fn 99 [.ptr 1 t 0,.ptr 1 h 0]/\O 7=.sl 1 bc 0 n/\O 13=ι n/\O 14=ι i/\cT S' t 52 1 (aL n m A)/\cT S' h 4 1 (.bool true)/\∃g',fq 29 2 1 St.none S' bc g' n m i (fun a j=>ι (A a j))) (fun O S=>n-bS (O 14)) ?_ ?_
 .simp only[go_sem];refine⟨0,om,rfl,o.upd n1c _,d.upd n6c _,fun _=>0,(fq.init (S1:=St.none) (b:=bc) (z:=fun _=>.nil) rfl (fun _ _=>rfl) _ _).other fun k X M=>?_⟩
  simp only[St.upd]at M ⊢;split at M
  .rename_i e;rw[aj e];exact M
  .cases M
 .clear o d n1c n6c;rintro O S' ⟨i,hi,G,v,D,p,q,o,d,g',f⟩;by_cases s:i<n
  .obtain⟨H,C,Q⟩:=id f.outer;simp -dsimp only[*,go_sem,aa]
   repeat refine an ?_
   refine ax.intro fun bd fd=>?_;have hdc:bc≠bd:=a6.fresh f.outer fd;have Y:aQ H i (.sl 1 bd 0 m) i=.sl 1 bd 0 m:=by simp[aQ]
   simp only[*,go_sem];have E:=f.push dc fd C (fun _=>ι 0)
   have N:t≠bc:=by obtain⟨x,k,_⟩:=o;rintro rfl;rw[C]at k;cases k
   have I:h≠bc:=by obtain⟨x,k,_⟩:=d;rintro rfl;rw[C]at k;cases k
   have u:=(o.upd (o.fresh fd) ⟨2,1,m,fun _=>ι 0⟩).upd N ⟨29,1,n,aQ H i (.sl 1 bd 0 m)⟩;have w:=(d.upd (d.fresh fd) ⟨2,1,m,fun _=>ι 0⟩).upd I ⟨29,1,n,aQ H i (.sl 1 bd 0 m)⟩;generalize R:(fun a=>if a=i then bd else g' a)=gg at E
   refine aC (fun O S'=>∃j:Nat,j<=m/\O 1=ι m/\O 2=.fn 99 [.ptr 1 t 0,.ptr 1 h 0]/\O 7=.sl 1 bc 0 n/\O 8=ι i/\O 13=ι n/\O 14=ι i/\O 26=ι m/\O 27=ι j/\cT S' t 52 1 (aL n m A)/\cT S' h 4 1 (.bool true)/\fq 29 2 1 St.none S' bc gg n m (i+1) (fun a c=>ι (if a=i/\j<=c then 0 else A a c))) (fun O S=>m-bS (O 27)) ?_ ?_
   .simp only[go_sem,G,v,D,p,q];refine⟨0,om,rfl,u,w,E.congr fun a c _ _=>?_⟩
    by_cases e:a=i
    .simp[e]
    .simp[e]
   .clear G v D p q f E C Q R u w o d N I;rintro O S' ⟨j,hj,G,v,D,Z,p,q,J,K,o,d,f⟩;by_cases B:j<m
    .obtain⟨H,C,Q⟩:=id f.outer;obtain⟨g5,u5,v5⟩:=id (f.row i om);have x4:H i=.sl 1 (gg i) 0 m:=(Q i s).trans (aj om);have I:bc≠h:=by obtain⟨x,k,_⟩:=d;rintro rfl;rw[C]at k;cases k
     have k6g:∀a,a<i+1->gg a≠h:=fun a P=>by
      obtain⟨x,k,_⟩:=d;obtain⟨y,l,_⟩:=f.row a P;intro e;rw[e,k]at l;cases l
     have N:t≠h:=by obtain⟨x,k,_⟩:=d;obtain⟨y,l,_⟩:=o;rintro rfl;rw[k]at l;cases l
     simp -dsimp only[*,go_sem];refine eL 8 [[0,1,2,3,4],[],[]] kr ?_
     simp -dsimp only[go_sem,aa,v,D,Z,s,C,x4];refine(CY n m A i j S' t h s B (hA i j s B) o d).mono ?_;rintro _ S2 ⟨rfl,L,w⟩;have T:=(L bc I).trans C;have F:=(L (gg i) (k6g i om)).trans u5;have U:fq 29 2 1 St.none S2 bc gg n m (i+1) (fun a c=>ι (if a=i/\j<=c then 0 else A a c)):=⟨dy.noneS _,f.new,L.has I f.outer,fun a P=>L.has (k6g a P) (f.row a P),f.rnew,f.inj⟩
     have u:=L.var N o;have V:t≠gg i:=by obtain⟨x,k,_⟩:=u;rintro rfl;rw[F]at k;cases k
     have W:h≠gg i:=fun e=>k6g i om e.symm;simp only[go_sem,aa,G,v,D,Z,p,q,J,K,s,B,T,x4,F,aI (om:j<1000000),bS]
     refine⟨⟨j+1,om,rfl,u.upd V _,w.upd W _,(U.put dc (om:i<i+1) F j (ι (A i j))).congr fun a c _ _=>?_⟩,om⟩
     by_cases e:a=i/\c=j
     .obtain⟨rfl,rfl⟩:=e;rw[aj ⟨rfl,rfl⟩,ah om]
     .rw[ah e];congr 1;by_cases v:a=i/\j<=c
      .rw[aj v,aj om]
      .rw[ah v,ah om]
    .simp only[go_sem,G,v,D,p,q,J,K,B,aI (om:i<1000000),bS]
     exact⟨⟨i+1,om,rfl,o,d,gg,f.congr fun a c _ hc=>by rw[ah om]⟩,om⟩
  .obtain rfl:i=n:=om
   have hN:=f.imat (A:=A) (fun _ _ _ _=>rfl);simp only[go_sem,aa,G,D,p,q,s];exact⟨bc,rfl,g',hN.1,d⟩
def qv(n m:Nat)(A:az)(h:1<=n)(a:n<=16)(k:1<=m)(c:m<=16)(l:∀i j:Nat,i<n->j<m->iw (A i j)):K8 43 [aL n m A] n m A:=by
 refine K8.of ?_;refine iZ func43 ntmps43 results43 ?_;simp -dsimp only[go_sem,aa,aL,aY];refine ax.intro fun d f1=>?_
 try simp -dsimp only[go_sem]
 refine(ld n m A h a k c).call ?_;simp -dsimp only[go_sem];refine ax.intro fun e o=>?_;have n6_1:=(af o).1;have f:d≠e:=n6_1.symm;simp -dsimp only[go_sem,aa,dN];refine(DT n m A _ d e a c l ?_ ?_).mono ?_
 .refine cT.upd (cT.upd (cT.new ?_) f _) f _;rfl
 .exact cT.set
 rintro _ S2 ⟨b,g,rfl,p,q⟩;obtain⟨r,s,t⟩:=id q;simp only[*,go_sem,aa];exact⟨b,rfl,g,p⟩

def vT(b:Nat)(m:Int)(S:St):cJ 227 [.sl 1 b 0 1,ι m] S (fun r S'=>r=ι 1/\dy S S'):=by
 refine iZ func227 ntmps227 results227 ?_;simp -dsimp only[go_sem,aa];refine(mI m S).mono ?_;rintro _ S1 ⟨bm,i,rfl,j,n⟩;simp only[go_sem];refine cA (fun O S'=>∃c:Nat,c<=1/\S'=S1/\O 0=.sl 1 b 0 1/\O 6=ι 1/\O 12=ι ((1:Nat):Int)/\O 13=ι c) (fun O S=>1-bS (O 13)) ?_ ?_
 .simp only[go_sem];exact⟨0,om,rfl⟩
 rintro Q' f O S' ⟨c,o,rfl,g,h,a,d⟩;by_cases e:c<1
 .obtain rfl:c=0:=om
  simp only[go_sem,a,d,e];refine cA (fun O S=>S=S'/\O 0=.sl 1 b 0 1/\O 6=ι 1/\O 8=ι 1/\O 12=ι ((1:Nat):Int)/\O 13=ι ((0:Nat):Int)) (fun O S=>0) ?_ ?_
  .simp only[*,go_sem];rw[show IntKind.i64.wrap (((0:Nat):Int)+1)=_ from aI (k:=0) om];rfl
  clear g h a d;rintro Q'' hQ'' O S ⟨rfl,g,h,l,a,d⟩;simp only[go_sem,g,l,show decide ((1:Int)<((1:Nat):Int))=false by rfl]
  rw[hQ''];simp only[*,go_sem,bS];rw[show IntKind.i64.wrap (((0:Nat):Int)+1)=_ from aI (k:=0) om];exact⟨⟨1,om,rfl⟩,sm⟩
 .simp only[go_sem,a,d,e];rw[f];simp only[go_sem,h];exact j
def appZ1{g:Nat->AV}{K:AV->St->Prop}(a:S b=some ⟨2,1,1,g⟩)(c:∀b',(b'=b∨S b'=ae)->K (.sl 1 b' 0 2) ((S.del b).upd b' ⟨2,1,2,pC g 1 1 (fun _=>ι 0)⟩)):rJ 29 (.sl 1 b 0 1) (ι 1) S K:=by
 show(match dO 29,S b with
  | some e,some X=>(match fX e with
   | some (es',z,_)=>es'=1/\1=cb e/\0=0/\X.ty=e/\X.es=1/\X.n=1/\1<=1/\1+1<=1048576 /\
    ∀b',(b'=b∨S b'=ae)->K (.sl 1 b' 0 (1+1)) ((S.del b).upd b' ⟨e,1,1+1,pC X.g 1 1 (fun _=>z)⟩)
   | ae=>False)
  | _,_=>False)
 rw[a];exact⟨rfl,rfl,rfl,rfl,rfl,rfl,om,om,c⟩
def M1{off len:Nat}{g:Nat->AV}{v:Nat->Int}{K:AV->St->Prop}(d:S b=some ⟨2,1,n,g⟩)(c:∀j,j<len->g (off+j)=ι (v j))(e:0<len)(f:off+len<=n)(p:len<=1000)
  (i:∀b' h,S b'=ae->(∀j,j<len->h j=ι (v j))->K (.sl 1 b' 0 len) (S.upd b' ⟨2,1,len,h⟩)):gD 29 29 .nil (.sl 1 b off len) S K:=by
 have l:DD S (.sl 1 b off len)=some (1,len,fun j=>g (off+j),some b):=by simp[DD,d,f]
 unfold gD;rw[show dO 29=some 2 from rfl,l];refine⟨rfl,rfl,rfl,e,fun j m=>?_,om,fun b' a=>i b' _ a fun k o=>c k o⟩
 show ei 1 (g (off+j));rw[c j m];simp[ei]
def EP{K:AV->Prop}(h:K (.sl 1 b 1 1)):li 29 (.sl 1 b 0 2) (some (ι 1)) ae ae K :=
 ⟨rfl,1,2,rfl,rfl,trivial,om,om,h⟩
def Nv(P:St->Prop)(a:P S)(h:∀T,P T->Es ops l O T K):Es ops l O S K:=h S a
def Rw:((1:Nat):Int)=1:=om
def c0i:((0:Nat):Int)=0:=om
def Lh(a p:Int):Nat->Int:=fun j=>if j=0 then a%p else 1
def vn(a p:Int)(W:2<=p)(I:p<=1000000)(X:(bz p.toNat (a%p).toNat).1=1):F3 179 [av 1 1 (fun _ _=>a),ι p] 1 1 (fun _ _=>qM p a):=by
 refine F3.of ?_;refine iZ func179 ntmps179 results179 ?_;have F:0<=a%p/\a%p<p:=⟨aV _ om,aU _ om⟩;generalize J:qM p a=f;have A:0<=f/\f<p:=by rw[<-J];exact zK om a
 simp -dsimp only[go_sem,aa,av,aK];refine(xr 1 (fun _ _=>a) om om).call ?_;simp -dsimp only[go_sem,aa];refine(k9 p W om).call ?_;simp -dsimp only[go_sem,aa];refine(mp 1 1 (fun _ _=>a) p om om om om _ _ (cC _ _)).mono ?_;rintro _ S1 ⟨b,g,rfl,K,_⟩;have G:=K.outer;have H:=K.row 0 om;simp only[go_sem];refine cA (fun O S=>∃i:Nat,i<=1/\O 1=ι p/\O 7=ι ((1:Nat):Int)/\O 8=.sl 1 b 0 1/\O 30=ι ((1:Nat):Int)/\O 31=ι i/\∃c,a6 S b 29 1 1 (fun _=>.sl 1 c 0 (1+i))/\a6 S c 2 1 (1+i) (fun j=>ι (Lh a p j))) (fun O S=>1-bS (O 31)) ?_ ?_
 .simp only[go_sem];refine⟨0,om,rfl,g 0,G.congr fun j s=>?_,H.congr fun j s=>?_⟩
  .obtain rfl:j=0:=om
   rfl
  .obtain rfl:j=0:=om
   simp[Lh,lM]
 clear K G H;rintro Q' y O S ⟨i,Y,t,r,l,B,C,c,d,e⟩;by_cases o:i<1
 .obtain rfl:i=0:=om
  have q:b≠c:=a6.ne d e dc
  obtain⟨gb,ub,vb⟩:=id d;obtain⟨gc,uc,vc⟩:=id e;have xb:gb 0=.sl 1 c 0 1:=vb 0 om;have xc:gc 0=ι (a%p):=(vc 0 om).trans (by simp[Lh])
  simp -dsimp only[go_sem,aa,r,l,B,C,o,ub,xb,Rw,c0i]
  repeat refine an ?_
  refine appZ1 uc ?_;intro b' z;have u:b≠b':=by
   rcases z with rfl|h
   .exact q
   .exact a6.fresh d h
  refine Nv (fun T=>a6 T b 29 1 1 (fun _=>.sl 1 c 0 1)/\a6 T b' 2 1 2 (fun j=>ι (if j=0 then a%p else 0))) ?_ ?_
  .refine⟨⟨gb,?_,vb⟩,a6.here fun j s=>?_⟩
   .rw[aG u];unfold St.del;rw[ah q];exact ub
   .match j,s with
    | 0,_=>simp[pC,aQ,xc]
    | 1,_=>simp[pC,aQ]
  clear d e ub uc vb vc xb xc q z;rintro T ⟨d,e⟩;obtain⟨gb,ub,vb⟩:=id d;obtain⟨gc,uc,vc⟩:=id e;have V:b'≠b:=u.symm;have Z:ω (1+0)=1:=dP (n:=1) om om;have w01:ω (0+1)=1:=dP (n:=1) om om;simp only[*,go_sem,aa,Rw,c0i,dN,bS]
  repeat refine an ?_
  refine⟨⟨1,om,rfl,b',?_,?_⟩,om⟩
  .refine a6.upd (a6.here fun j s=>?_) u _;obtain rfl:j=0:=om
   simp[aQ]
  .refine a6.here fun j s=>?_
   match j,s with
   | 0,_=>simp[aQ,vc 0 om,Lh]
   | 1,_=>simp[aQ,Lh]
 obtain rfl:i=1:=om
 simp only[go_sem,aa,r,l,B,C,o];rw[y];simp -dsimp only[*,go_sem,aa];refine(vT b p S).mono ?_;rintro _ S2 ⟨rfl,D⟩
 replace d:=D.has d
 replace e:=D.has e
 simp -dsimp only[*,go_sem,aa];refine(mI p S2).mono ?_;rintro _ S3 ⟨bm,_,rfl,E,_⟩
 replace d:=E.has d
 replace e:=E.has e
 have w0:ω (1-1)=0:=dP (n:=0) om om;simp only[*,go_sem,Rw];clear D E y o;refine cA (fun O S=>∃k:Nat,k<=1/\O 1=ι p/\O 7=ι 1/\O 8=.sl 1 b 0 1/\O 11=ι ((k:Int)-1)/\a6 S b 29 1 1 (fun _=>.sl 1 c 0 2)/\a6 S c 2 1 2 (fun j=>ι (if k=0 then Lh a p j*f%p else Lh a p j))) (fun O S=>Ko (O 11)) ?_ ?_
 .simp only[go_sem,t,r,l,Rw];exact⟨1,om,rfl,d,e.congr fun j _=>by simp⟩
 clear d e t r l B C;rintro Q' y O S ⟨k,hk,t,r,l,m,d,e⟩;have q:b≠c:=a6.ne d e dc
 by_cases L:k=0
 .subst L;have M:decide ((0:Int)<=((0:Nat):Int)-1)=false:=by simp
  simp only[go_sem,aa,t,l,m,M];rw[y];simp only[go_sem,l];refine cA (fun O S=>∃i:Nat,i<=1/\O 7=ι 1/\O 8=.sl 1 b 0 1/\O 107=ι ((1:Nat):Int)/\O 108=ι i/\∃c,a6 S b 29 1 1 (fun _=>.sl 1 c 0 (2-i))/\a6 S c 2 1 (2-i) (fun j=>ι (if i=0 then Lh a p j*f%p else f))) (fun O S=>1-bS (O 108)) ?_ ?_
  .simp only[*,go_sem];exact⟨0,om,rfl,c,d,e⟩
  clear d e t r l m q;rintro Q'' hQ'' O S ⟨i,Y,r,l,w,x,c,d,e⟩;have q:b≠c:=a6.ne d e dc
  by_cases o:i<1
  .obtain rfl:i=0:=om
   obtain⟨gb,ub,vb⟩:=id d;obtain⟨gc,uc,vc⟩:=id e;have xb:gb 0=.sl 1 c 0 2:=vb 0 om;simp -dsimp only[go_sem,aa,r,l,w,x,o,ub,xb,Rw,c0i,du,gF]
   repeat refine an ?_
   refine EP ?_
   try simp -dsimp only[go_sem,r,l,w,x,o,ub,xb,Rw,c0i]
   refine M1 (v:=fun _=>f) uc (fun j s=>?_) om om om ?_
   .obtain rfl:j=0:=om
    rw[vc 1 om];simp only[Lh];rw[aj trivial,ah om,cL,dz A.1 A.2]
   intro b' h z hh;have u:b≠b':=a6.fresh d z;have Z:ω (0+1)=1:=dP (n:=1) om om;simp only[*,go_sem,aa,Rw,c0i,bS]
   repeat refine an ?_
   refine⟨⟨1,om,rfl,b',?_,?_⟩,om⟩
   .refine a6.here fun j s=>?_;obtain rfl:j=0:=om
    simp[aQ]
   .refine a6.upd (a6.here fun j s=>?_) u.symm _;rw[hh j s];simp
  obtain rfl:i=1:=om
  simp only[go_sem,aa,r,l,w,x,o];rw[hQ''];simp only[go_sem,l];refine⟨b,rfl,fun _=>c,d,fun i _=>e.congr fun j _=>by simp,fun i j h1 h2 _=>om⟩
 obtain rfl:k=1:=om
 obtain⟨gb,ub,vb⟩:=id d;obtain⟨gc,uc,vc⟩:=id e;have xb:gb 0=.sl 1 c 0 2:=vb 0 om;have xc:gc 0=ι (a%p):=(vc 0 om).trans (by simp[Lh])
 have M:decide ((0:Int)<=((1:Nat):Int)-1)=true:=by simp
 have w2:((1:Nat):Int)-1=((0:Nat):Int):=om
 rw[w2]at m M;simp -dsimp only[go_sem,aa,t,l,m,ub,uc,xb,xc];refine(Bn (a%p) p om om F.1 F.2).call ?_;unfold qM at J;rw[J,X,cl];simp -dsimp only[go_sem,aa,t,l,m,ub,xb,xc];refine(GD 2 c (Lh a p) f p S om om I A (fun j s=>?_) (e.congr fun j _=>by simp)).mono ?_
 .unfold Lh;split<;>omega
 rintro _ S4 ⟨N,P⟩;have Q:=N.has q d;simp only[go_sem,t,l,m];refine cA (fun O S=>S=S4/\O 1=ι p/\O 7=ι 1/\O 8=.sl 1 b 0 1/\O 11=ι ((0:Nat):Int)/\O 84=ι ((0:Nat):Int)/\O 85=ι 0) (fun O S=>0) ?_ ?_
 .simp only[*,go_sem]
 clear t r l m;rintro Q'' hQ'' O S ⟨rfl,t,r,l,m,R,U⟩;simp only[go_sem,R,U,show decide ((0:Int)<((0:Nat):Int))=false by simp]
 rw[hQ''];have w3:ω (((0:Nat):Int)-1)=((0:Nat):Int)-1:=i64_in om om;simp only[go_sem,t,r,l,m,w3,Ko];refine⟨⟨0,om,rfl,Q,P.congr fun j _=>by simp⟩,sm⟩
def vZ(a p:Int)(m:2<=p)(d:p<=1000000)(n:(bz p.toNat (a%p).toNat).1=1):PF 142 [ι a,ι p] (ι (qM p a)):=by
 refine gN func142 ntmps142 results142 ?_;simp -dsimp only[go_sem];refine ax.intro fun e o=>?_;simp -dsimp only[go_sem];refine ax.intro fun c f=>?_;have n10_9:=(af f).1
 try simp -dsimp only[go_sem]
 have h:eh ((St.none.upd e ⟨2,1,1,fun j=>[ι a].getD j .any⟩).upd c ⟨29,1,1,fun j=>[AV.sl 1 e 0 1].getD j .any⟩) c (fun _=>e) 1 1 (fun _ _=>a):=by
  refine⟨a6.here fun j q=>?_,fun j _=>a6.upd (a6.here fun k r=>?_) n10_9.symm _,fun i j s t _=>om⟩
  .obtain rfl:j=0:=om
   rfl
  .obtain rfl:k=0:=om
   rfl
 refine(vn a p m d n _ _ (eI.two h.vr.va (VA.refl _ _))).mono ?_;rintro _ S1 ⟨b,g,rfl,l,_⟩;obtain⟨gb,ub,vb⟩:=id l.outer;obtain⟨gc,uc,vc⟩:=id (l.row 0 om);have xb:gb 0=.sl 1 (g 0) 0 1:=vb 0 om;have xc:gc 0=ι (qM p a):=vc 0 om;simp only[*,go_sem,aa]
 repeat refine an ?_
 exact VR.mf rfl

def gM(n:Nat)(H:az)(p:Int)(v:Nat->Int):Nat->Int:=fun i=>kQ (lM H p) (lM (fun i _=>v i) p) n p i 0
def qW{p:Int}{v:Nat->Int}(a:2<=p)(i:Nat):0<=gM n H p v i/\gM n H p v i<p:=⟨aV _ om,aU _ om⟩
def Bj(n piv:Nat)(H:az)(p:Int)(v:Nat->Int)(inv:Int)(h1:1<=n)(hn:n<=8)(hp:2<=p)(M:p<=10000)(f:piv<n)(hw0:gM n H p v piv≠0)(hwz:∀i,i<piv->gM n H p v i=0)(he:(bz p.toNat (gM n H p v piv%p).toNat).1=1)(E:inv=qM p (gM n H p v piv)) :
  QH 122 [av n n H,ι p,aK n v] n n (fun j i=>jg p piv (fun j=>gM n H p v j*inv%p) i j):=by
 refine QH.of ?_;refine iZ func122 ntmps122 results122 ?_;have N:0<=inv/\inv<p:=by rw[E];exact zK om _
 simp -dsimp only[go_sem,aK]
 repeat refine an ?_
 refine ax.intro fun b7 f7=>?_;simp only[go_sem];refine aC (fun O S=>∃i:Nat,i<=n/\O 0=av n n H/\O 1=ι p/\O 2=aK n v/\O 7=.sl 1 b7 0 n/\O 19=aK n v/\O 20=ι n/\O 21=ι i/\∃g',fq 29 2 1 St.none S b7 g' n 1 i (fun a _=>ι (v a))) (fun O S=>n-bS (O 21)) ?_ ?_
 .simp only[go_sem,aK];exact⟨0,om,rfl,fun _=>0,fq.init f7 (fun _ _=>rfl) _ _⟩
 rintro O S ⟨i,hi,W,q,F,X,I,J,K,g',m⟩;by_cases P:i<n
 .obtain⟨g4,L,v4⟩:=id m.outer;simp -dsimp only[go_sem,aa,aK,W,q,X,I,J,K,P];refine ax.intro fun b29 Q=>?_;have hne:b7≠b29:=a6.fresh m.outer Q;simp only[*,go_sem,aa,aK,aI (om:i<1000000),bS]
  refine⟨⟨i+1,om,rfl,_,(m.push dc Q L (fun j=>[ι (v i)].getD j .any)).congr fun a c ha hc=>?_⟩,om⟩
  obtain rfl:c=0:=om
  by_cases e:a=i
  .subst e;simp
  .rw[ah e]
 have hin:i=n:=om
 subst hin;have hN:=m.imat (A:=fun i _=>v i) (fun _ _ _ _=>rfl);simp -dsimp only[go_sem,aa,aK,W,q,X,I,J,K,P];refine(KX i i 1 H (fun i _=>v i) p h1 om h1 om om om hp om S _ (eI.three (VA.refl _ _) hN.1.vr.va (VA.refl _ _))).mono ?_;rintro _ S1 ⟨bw,gw,rfl,Y,_,_,_⟩;simp -dsimp only[go_sem,aa,W,q,X];have R:∀k,kQ (lM H p) (lM (fun i _=>v i) p) i p k 0=gM i H p v k:=fun _=>rfl;refine(Eg i 1 piv _ om om f (by rw[R];exact hw0) (fun k hk=>by rw[R];exact hwz k hk)).spec (eI.two Y.vr.va (VA.refl _ _)) ?_
 obtain⟨go,uo,vo⟩:=id Y.outer;obtain⟨gp,up,vp⟩:=id (Y.row piv f);have xo:go piv=.sl 1 (gw piv) 0 1:=vo piv f;have xp:gp 0=ι (gM i H p v piv):=vp 0 om;simp -dsimp only[go_sem,aa,q,f,uo,up,xo,xp]
 repeat refine an ?_
 refine(vZ (gM i H p v piv) p hp om he).call ?_;rw[<-E];simp -dsimp only[go_sem,aK,q,F]
 repeat refine an ?_
 refine ax.intro fun g f14=>?_;simp only[go_sem];have hq:∀k,0<=gM i H p v k*inv%p/\gM i H p v k*inv%p<p:=fun k=>⟨aV _ om,aU _ om⟩;have hpp:p*p<=100000000:=by have:=cw M M om om;omega
 have hpp0:0<=p*p:=cD om om;have G:∀a b:Int,0<=a->a<p->0<=b->b<p->0<=a*b/\a*b<=100000000:=fun a b a0 a1 b0 b1=>by
  have h1:=cw (om:a<=p) (om:b<=p) b0 om
  exact⟨cD a0 b0,om⟩
 clear uo up vo vp xo xp;refine cA (fun O S=>∃j:Nat,j<=i/\O 1=ι p/\O 2=aK i v/\O 10=.sl 1 bw 0 i/\O 12=ι piv/\O 13=ι inv/\O 14=.sl 1 g 0 i/\O 53=ι i/\O 54=ι j/\∃g',fq 29 2 1 S1 S g g' i i j (fun a c=>ι (jg p piv (fun j=>gM i H p v j*inv%p) c a))) (fun O S=>i-bS (O 54)) ?_ ?_
 .simp only[go_sem,q,F,aK];exact⟨0,om,rfl,fun _=>0,fq.init f14 (fun _ _=>rfl) _ _⟩
 clear W q F X I J K;rintro Q' hQ' O S ⟨j,hj,q,F,w,x,y,r,z,B,g',m⟩;by_cases l:j<i
 .obtain⟨g4,L,v4⟩:=id m.outer;by_cases U:j=piv
  .subst U;simp -dsimp only[go_sem,aa,aK,q,F,w,x,y,r,z,B,l,cl]
   repeat refine an ?_
   refine ax.intro fun d s=>?_;have t:g≠d:=a6.fresh m.outer s;have u:d≠g:=t.symm;have C:=m.push dc s L (fun _=>ι 0)
   have wpp:ω (p*p)=p*p:=i64_in om om;simp only[go_sem,l,L,t,u,dN,wpp,aI (om:j<1000000),bS]
   have o:=C.put dc (om:j<j+1) (g':=fun _=>ι 0) (by rw[aj rfl,aG u,ca]) j (ι (p*p))
   rw[show(if j=j then d else g' j)=d from aj rfl]at o
   refine⟨⟨j+1,om,rfl,_,o.congr fun a c ha hc=>?_⟩,om⟩
   by_cases ea:a=j
   .subst ea;simp only[ke,aE,jg];by_cases ec:c=a
    .rw[aj ec,aj ec]
    .rw[ah ec,ah ec]
   .rw[ah (fun h=>ea h.1),ah ea]
  .have hjb:((j:Int)==(piv:Int))=false:=by simp;omega
   simp -dsimp only[go_sem,aa,aK,q,F,w,x,y,r,z,B,l,hjb]
   repeat refine an ?_
   refine ax.intro fun d s=>?_;have t:g≠d:=a6.fresh m.outer s;have u:d≠g:=t.symm;have C:=m.push dc s L (fun _=>ι 0)
   simp -dsimp only[*,go_sem,dN];have o:=C.put dc (om:j<j+1) (g':=fun _=>ι 0) (by rw[aj rfl,aG u,ca]) j (ι p)
   rw[show(if j=j then d else g' j)=d from aj rfl]at o
   refine mh (fun T=>∃gg,fq 29 2 1 S1 T g gg i i (j+1) (fun a c=>if a=j then ι (if c=j then p else 0)else ι (jg p piv (fun j=>gM i H p v j*inv%p) c a))) ⟨_,o.congr fun a c ha hc=>?_⟩ ?_
   .by_cases ea:a=j
    .subst ea;simp only[ke,aE];by_cases ec:c=a
     .rw[aj ec,aj ec]
     .rw[ah ec,ah ec]
    .rw[ah (fun h=>ea h.1),ah ea,ah ea]
   clear m C o L v4 t u;rintro T ⟨gg,Z⟩;obtain⟨go,uo,vo⟩:=id Z.outer;obtain⟨gr,ur,vr⟩:=id (Z.row j om);have V:=Y.ext Z.ext;obtain⟨gx,ux,vx⟩:=id V.outer;obtain⟨gy,uy,vy⟩:=id (V.row j l);have xo:go j=.sl 1 (gg j) 0 i:=(vo j l).trans (aj om);have xx:gx j=.sl 1 (gw j) 0 1:=vx j l;have xy:gy 0=ι (gM i H p v j):=vy 0 om;obtain⟨w0,w1⟩:=qW (n:=i) (H:=H) (v:=v) hp j;obtain⟨m0,m1⟩:=G _ _ w0 w1 N.1 N.2;obtain⟨q0,q1⟩:=hq j;obtain⟨r0,r1⟩:=G (p-1) _ om om q0 q1;have k1:ω (0-p)=-p:=by rw[Ex];exact i64_in om om
   have k2:ω (gM i H p v j*inv)=gM i H p v j*inv:=i64_in om om;have k3:(gM i H p v j*inv).tmod p=gM i H p v j*inv%p:=aO m0;have k4:ω (-p*(gM i H p v j*inv%p))=-p*(gM i H p v j*inv%p):=by
    rw[Int.sub_mul,cL]at r0 r1;rw[sw];exact i64_in om om
   have hp0:¬p=0:=om
   refine aN 19 kr ?_
   simp only[go_sem,aa,aK,q,F,w,x,y,r,z,B,l,uo,ur,ux,uy,xo,xx,xy,f,k1,k2,k3,k4,hp0,aI (om:j<1000000),bS]
   repeat refine an ?_
   refine⟨⟨j+1,om,rfl,gg,(Z.put dc (om:j<j+1) ur piv (ι (-p*(gM i H p v j*inv%p)))).congr fun a c ha hc=>?_⟩,om⟩
   by_cases ea:a=j
   .subst ea;simp only[ke,aE,jg];rw[ah U];by_cases ec:c=piv
    .rw[aj ec,ah om,aj ec,sw]
    .rw[ah ec];by_cases D:c=a
     .rw[aj D,aj D]
     .rw[ah D,ah D,ah ec]
   .rw[ah (fun h=>ea h.1),ah ea]
 have hji:j=i:=om
 rw[hji]at m;have hN2:=m.imat (A:=fun j i'=>jg p piv (fun j=>gM i H p v j*inv%p) i' j) (fun _ _ _ _=>rfl);simp only[go_sem,aa,q,F,w,x,y,r,z,B,l];rw[hQ'];simp only[go_sem,r];exact⟨g,rfl,g',hN2.1⟩

def RU(n:Nat)(H:az)(k:Nat)(S:St)(x:AV):Prop:=x=av (n-k) (n-k) (ci H k)∨∃b g,x=.sl 1 b 0 (n-k)/\eh S b g (n-k) (n-k) (ci H k)
def k8{a b A B:Int}(d:-A<=a/\a<=A)(e:-B<=b/\b<=B):-(A*B)<=a*b/\a*b<=A*B:=by
 have h:(a*b).natAbs<=A.natAbs*B.natAbs:=by rw[cN];exact bB om om
 have c:(A.natAbs:Int)*B.natAbs=A*B:=by rw[show(A.natAbs:Int)=A by omega,show(B.natAbs:Int)=B by omega]
 have f:((A.natAbs*B.natAbs:Nat):Int)=A*B:=by rw[aX,c]
 omega
def Ka(n:Nat)(H:az):av n n H=av (n-0) (n-0) (ci H 0):=by
 simp only[av,aK,dC,eQ]

def qC(m:Nat)(A:az)(β:Bool)(b:1<=m)(p:m<=8)(f:∀i,i<m->-24696061952<=A i 0/\A i 0<=24696061952)(hβ:β=true↔vX A m):PF 108 [av m m A] (.bool β):=by
 refine gN func108 ntmps108 results108 ?_;have g:0<m:=om
 have j:(0:Int)<(m:Int):=om
 by_cases q:A 0 0<=0
 .simp only[*,go_sem,aK,av,gF,du];rw[cP hβ fun h=>by have:=h.1;omega]
  exact VR.mf rfl
 by_cases r:(65536:Int)<=A 0 0
 .simp only[*,go_sem,aK,av,gF,du];rw[cP hβ fun h=>by have:=h.2.1;omega]
  exact VR.mf rfl
 simp only[*,go_sem,aK,av,gF,du];refine GA 1 rfl rfl rfl om ?_;simp only[go_sem];refine aC (fun O S=>∃i:Nat,i<=m-1/\(∀a,1<=a->a<1+i->2*A a 0<=A 0 0/\-2*A a 0<=A 0 0)/\O 3=ι (A 0 0)/\O 18=.lst 1 (m-1) (fun i=>aK m (A (1+i)))/\O 19=ι ((m-1:Nat):Int)/\O 20=ι i) (fun O S=>m-bS (O 20)) ?_ ?_
 .simp only[go_sem,aK];exact⟨0,om,fun a b d=>om,rfl⟩
 .rintro O S ⟨i,s,c,t,k,l,n⟩;by_cases o:i<m-1
  .obtain⟨u,v⟩:=f (1+i) om;have w:ω (2*A (1+i) 0)=2*A (1+i) 0:=i64_in om om;have x:ω (-2*A (1+i) 0)=-2*A (1+i) 0:=i64_in om om;by_cases y:A 0 0<2*A (1+i) 0
   .simp only[*,go_sem,aa,aK];rw[cP hβ fun h=>by have:=h.2.2 (1+i) om om;omega]
    exact VR.mf rfl
   by_cases z:A 0 0 < -2*A (1+i) 0
   .simp only[*,go_sem,aa,aK];rw[cP hβ fun h=>by have:=h.2.2 (1+i) om om;omega]
    exact VR.mf rfl
   simp only[*,go_sem,aa,aK,aI (om:i<1000000),bS]
   refine⟨⟨i+1,om,fun a b d=>?_,rfl⟩,om⟩
   by_cases e:a=1+i
   .rw[e];omega
   .exact c a b om
  .simp only[*,go_sem,aa,aK];rw[hβ.2 ⟨om,om,fun a b d=>c a b om⟩]
   exact VR.mf rfl
def Fg(n:Nat)(A:az)(β:Bool)(s:1<=n)(E:n<=8)(hβ:β=true↔∀i j,i<n->j<n->A i j=A j i/\-262144<A i j/\A i j<262144):PF 107 [av n n A] (.bool β):=by
 refine gN func107 ntmps107 results107 ?_;simp only[go_sem,aK,av,(om:¬((n:Int)<1)),(om:¬((8:Int)<(n:Int)))]
 refine aC (fun O S=>∃i:Nat,i<=n/\O 0=av n n A/\O 3=ι n/\O 18=av n n A/\O 19=ι n/\O 20=ι i) (fun O S=>n-bS (O 20)) ?_ ?_
 .simp only[go_sem,aK,av];exact⟨0,om,rfl⟩
 .rintro O S ⟨i,C,l,D,v,w,x⟩;by_cases c:i<n
  .simp only[*,go_sem,aK,av,show((n:Int) != n)=false by simp,aI (om:i<1000000),bS]
   exact⟨⟨i+1,om,rfl⟩,om⟩
  .simp only[*,go_sem,aK,av];clear D v w x;refine aC (fun O S=>∃i:Nat,i<=n/\(∀a b,a<i->b<n->A a b=A b a/\-262144<A a b/\A a b<262144)/\O 0=av n n A/\O 29=av n n A/\O 30=ι n/\O 31=ι i) (fun O S=>n-bS (O 31)) ?_ ?_
   .simp only[go_sem,aK,av,l];exact⟨0,om,fun a b s u=>om,rfl⟩
   .clear l;rintro O S ⟨i,C,t,l,f,g,k⟩;by_cases c:i<n
    .simp only[*,go_sem,aK,av];refine aC (fun O S=>∃j:Nat,j<=n/\(∀b,b<j->A i b=A b i/\-262144<A i b/\A i b<262144)/\O 0=av n n A/\O 6=ι i/\O 29=av n n A/\O 30=ι n/\O 31=ι i/\O 36=aK n (A i)/\O 37=ι n/\O 38=ι j) (fun O S=>n-bS (O 38)) ?_ ?_
     .simp only[*,go_sem,aK,av];exact⟨0,om,fun b s=>om,rfl⟩
     .clear l f g k;rintro O S ⟨j,F,m,l,y,f,g,k,o,p,q⟩;by_cases d:j<n
      .by_cases r:A i j=A j i
       .by_cases z:A i j<=-262144
        .simp only[go_sem,aK,av,l,y,f,g,k,o,p,q,c,d,show(A i j != A j i)=false by rw[r];simp,z]
         rw[cP hβ fun h=>by have:=h i j c d;omega]
         exact VR.mf rfl
        by_cases B:262144<=A i j
        .simp only[go_sem,aK,av,l,y,f,g,k,o,p,q,c,d,show(A i j != A j i)=false by rw[r];simp,z,B]
         rw[cP hβ fun h=>by have:=h i j c d;omega]
         exact VR.mf rfl
        simp only[go_sem,aK,av,l,y,f,g,k,o,p,q,c,d,show(A i j != A j i)=false by rw[r];simp,z,B,aI (om:j<1000000),bS]
        refine⟨⟨j+1,om,fun b s=>?_,rfl⟩,om⟩
        by_cases e:b=j
        .rw[e];exact⟨r,om,om⟩
        .exact m b om
       .simp only[*,go_sem,aK,av,show(A i j != A j i)=true by simpa using r]
        rw[cP hβ fun h=>r (h i j c d).1];exact VR.mf rfl
      .simp only[*,go_sem,aK,av,aI (om:i<1000000),bS]
       refine⟨⟨i+1,om,fun a b s u=>?_,rfl⟩,om⟩
       by_cases e:a=i
       .rw[e];exact m b om
       .exact t a b om u
    .simp only[*,go_sem,aK,av];rw[hβ.2 fun a b s u=>t a b om u];exact VR.mf rfl

def mP(n:Nat)(H:az)(β:Bool)(hn1:1<=n)(f:n<=8)(hβ:β=true↔(∀i j,i<n->j<n->H i j=H j i)/\sn H n):PF 48 [av n n H] (.bool β):=by
 obtain⟨βs,hβs⟩:=jp (∀i j,i<n->j<n->H i j=H j i/\-262144<H i j/\H i j<262144);refine gN func48 ntmps48 results48 ?_;simp -dsimp only[go_sem,aa,av,aK];refine(Fg n H βs hn1 om hβs).call ?_
 cases βs with
 | false =>
  simp only[go_sem];rw[cP hβ fun h=>by
   have:=hβs.2 fun i j Z hj=>⟨h.1 i j Z hj,by have:=(h.2.red h.1 f).entry f Z hj;omega⟩
   cases this]
  exact VR.mf rfl
 | true =>
 have C:∀i j,i<n->j<n->H i j=H j i:=fun i j Z hj=>(hβs.1 rfl i j Z hj).1;have hA:∀i j,i<n->j<n->-262144<H i j/\H i j<262144:=fun i j Z hj=>(hβs.1 rfl i j Z hj).2;have L:¬sn H n->β=false:=fun h=>cP hβ fun hh=>h hh.2;simp only[go_sem];refine aC (fun O S=>∃(k:Nat) (x:AV),k<n/\yi H n k/\PG H n k/\RU n H k S x/\O 3=x/\O 4=ι (det k H)) (fun O S=>match O 3 with|.lst _ m _=>m|.sl _ _ _ m=>m|_=>0) ?_ ?_
 .simp only[go_sem];exact⟨0,om,yi.init,PG.init hA,_,a9 (Ka n H),rfl,by simp[det]⟩
 .rintro O S ⟨k,x,hk,w,p,hSt,z,K⟩;have d0:=w.pos k om;have d2:=w.lt k om;have b0:=p.num (i:=0) (j:=0) ⟨d0,d2⟩ f om om;rw[cG]at b0;obtain⟨βk,hβk⟩:=jp (vX (ci H k) (n-k));have D:ci H k 0 0=det (k+1) H:=cG H k;have d:0<n-k:=om
  have u:(0:Int)<((n-k:Nat):Int):=om
  by_cases M:1<n-k
  .have l:(1:Int)<((n-k:Nat):Int):=om
   have wsub:ω (((n-k:Nat):Int)-1)=((n-(k+1):Nat):Int):=dP om om;rcases hSt with rfl|⟨b,g,rfl,v⟩
   .simp -dsimp only[*,go_sem,aa,av,aK];refine(qC (n-k) (ci H k) βk d om (fun i Z=>p.num ⟨d0,d2⟩ f om om) hβk).spec (eI.cons (VA.refl _ _) eI.nil) ?_
    cases βk with
    | false =>
     simp only[*,go_sem,av,aK];rw[L fun h=>by have:=hβk.2 (h.short C f hk);cases this]
     exact VR.mf rfl
    | true =>
    have E:=hβk.1 rfl;obtain⟨d1,d3,F⟩:=id E;rw[cG]at d1 d3 F;have q:=p.step w C E;simp -dsimp only[*,go_sem,av,aK]
    repeat refine an ?_
    refine ax.intro fun bc fc=>?_;simp only[go_sem];refine aC (fun O S'=>∃i:Nat,i<=n-(k+1)/\O 3=av (n-k) (n-k) (ci H k)/\O 4=ι (det k H)/\O 5=ι (det (k+1) H)/\O 6=.sl 1 bc 0 (n-(k+1))/\O 31=ι ((n-(k+1):Nat):Int)/\O 32=ι i/\∃g',fq 29 2 1 S S' bc g' (n-(k+1)) (n-(k+1)) i (fun a j=>ι (ci H (k+1) a j))) (fun O S=>n-bS (O 32)) ?_ ?_
    .simp only[*,go_sem,av,aK];exact⟨0,om,rfl,fun _=>0,fq.init fc (fun _ _=>rfl) _ _⟩
    .clear z K;rintro O S' ⟨i,Z,z,K,P,Q,r,t,g',o⟩;by_cases y:i<n-(k+1)
     .have hi1:i+1<n-k:=om
      obtain⟨g4,G,R⟩:=id o.outer;simp -dsimp only[*,go_sem,aa,av,aK,aI (om:i<1000000)]
      repeat refine an ?_
      refine ax.intro fun bd fd=>?_;have hdc:bc≠bd:=a6.fresh o.outer fd;simp only[*,go_sem];have I:=o.push dc fd G (fun _=>ι 0)
      generalize hgg:(fun a=>if a=i then bd else g' a)=gg at I
      refine aC (fun O S'=>∃j:Nat,j<=n-(k+1)/\O 3=av (n-k) (n-k) (ci H k)/\O 4=ι (det k H)/\O 5=ι (det (k+1) H)/\O 6=.sl 1 bc 0 (n-(k+1))/\O 7=ι i/\O 8=aK (n-k) (ci H k (i+1))/\O 31=ι ((n-(k+1):Nat):Int)/\O 32=ι i/\O 47=ι ((n-(k+1):Nat):Int)/\O 48=ι j/\fq 29 2 1 S S' bc gg (n-(k+1)) (n-(k+1)) (i+1) (fun a c=>ι (if a=i/\j<=c then 0 else ci H (k+1) a c))) (fun O S=>n-bS (O 48)) ?_ ?_
      .simp only[*,go_sem,av,aK];refine⟨0,om,rfl,I.congr fun a c _ _=>?_⟩
       by_cases e:a=i
       .simp[e]
       .simp[e]
      .clear z K P Q r t o I G R hgg;rintro O S' ⟨j,hj,z,K,P,Q,e7,e8,r,t,e47,e48,o⟩;by_cases hjt:j<n-(k+1)
       .have T:j+1<n-k:=om
        obtain⟨g4,G,R⟩:=id o.outer;obtain⟨g5,U,v5⟩:=id (o.row i om);have x4:g4 i=.sl 1 (gg i) 0 (n-(k+1)):=(R i y).trans (aj om);have b1:=p.num (i:=i+1) (j:=j+1) ⟨d0,d2⟩ f om om;have b2:=p.num (i:=i+1) (j:=0) ⟨d0,d2⟩ f om om;have b3:=p.num (i:=0) (j:=j+1) ⟨d0,d2⟩ f om om;have hs2:2*((ci H k (i+1) 0).natAbs:Int)<=det (k+1) H:=by
         have h3:=F (i+1) om om;omega
        have hstep:=ij w.ne i j;rw[cG]at hstep;have p1:=k8 (A:=65536) (B:=24696061952) (om:-65536<=det (k+1) H/\det (k+1) H<=65536) b1
        have p2:=k8 (A:=65536) (B:=24696061952) (om:-65536<=ci H k (i+1) 0/\ci H k (i+1) 0<=65536) b3
        have q1:ω (det (k+1) H*ci H k (i+1) (j+1))=det (k+1) H*ci H k (i+1) (j+1):=i64_in om om;have q2:ω (ci H k (i+1) 0*ci H k 0 (j+1))=ci H k (i+1) 0*ci H k 0 (j+1):=i64_in om om;have q3:ω (det (k+1) H*ci H k (i+1) (j+1)-ci H k (i+1) 0*ci H k 0 (j+1))=det k H*ci H (k+1) i j:=by rw[<-hstep];exact i64_in om om
        have b4:=q.num (i:=i) (j:=j) ⟨d1,d3⟩ f om om;have q4:pM (det k H*ci H (k+1) i j) (det k H)=ci H (k+1) i j:=NI _ om;have q5:ω (ci H (k+1) i j)=ci H (k+1) i j:=i64_in om om;have q6:¬(det k H=0):=om
        have hjn:j+1<n:=om
        have hin:i+1<n:=om
        have hpn:0<n:=om
        have hpnz:(0:Int)<(n:Int):=om
        simp -dsimp only[*,go_sem,av,aK,aI (om:i<1000000)]
        refine aN 27 kr ?_
        simp only[go_sem,aa,av,aK,z,K,P,Q,e7,e8,r,t,e47,e48,y,hjt,T,u,aI (om:j<1000000),G,x4,U,q1,q2,q3,q4,q5,q6,bS]
        refine⟨⟨j+1,om,rfl,(o.put dc (om:i<i+1) U j (ι (ci H (k+1) i j))).congr fun a c _ _=>?_⟩,om⟩
        by_cases e:a=i/\c=j
        .obtain⟨rfl,rfl⟩:=e;rw[aj ⟨rfl,rfl⟩,ah om]
        .rw[ah e];congr 1;by_cases e2:a=i/\j<=c
         .rw[aj e2,aj om]
         .rw[ah e2,ah om]
       .simp only[*,go_sem,av,aK,aI (om:i<1000000),bS]
        exact⟨⟨i+1,om,rfl,gg,o.congr fun a c _ hc=>by rw[ah om]⟩,om⟩
     .obtain rfl:i=n-(k+1):=om
      have hN:=o.imat (A:=ci H (k+1)) (fun _ _ _ _=>rfl);obtain⟨g4,G,R⟩:=id hN.1.outer;obtain⟨g5,U,v5⟩:=id (hN.1.row 0 om);have x4:g4 0=.sl 1 (g' 0) 0 (n-(k+1)):=R 0 om;have x5:g5 0=ι (det (k+2) H):=(v5 0 om).trans (by simp only[cG])
      have V:0<n-(k+1):=om
      have W:(0:Int)<((n-(k+1):Nat):Int):=om
      have X:gA H (k+1)↔3*(det (k+1) H*det (k+1) H)<=4*(det k H*det (k+2) H+ci H k 1 0*ci H k 1 0):=by
       unfold gA eZ;rw[(om:k+1-1=k),(om:k+1-k=1),show k+1+1=k+2 from rfl]
      have hs2:2*((ci H k 1 0).natAbs:Int)<=det (k+1) H:=by
       have h3:=F 1 om om;omega
      have d4:=q.num (i:=0) (j:=0) ⟨d1,d3⟩ f om om;rw[cG,show k+1+1=k+2 from rfl]at d4;have p1:=k8 (A:=65536) (B:=24696061952) (om:-65536<=det k H/\det k H<=65536) d4
      have p2:=k8 (A:=65536) (B:=65536) (om:-65536<=ci H k 1 0/\ci H k 1 0<=65536) (om:-65536<=ci H k 1 0/\ci H k 1 0<=65536)
      have p3:=k8 (A:=65536) (B:=65536) (om:-65536<=det (k+1) H/\det (k+1) H<=65536) (om:-65536<=det (k+1) H/\det (k+1) H<=65536)
      have q1:ω (det k H*det (k+2) H)=det k H*det (k+2) H:=i64_in om om;have q2:ω (ci H k 1 0*ci H k 1 0)=ci H k 1 0*ci H k 1 0:=i64_in om om;have q3:ω (det k H*det (k+2) H+ci H k 1 0*ci H k 1 0)=det k H*det (k+2) H+ci H k 1 0*ci H k 1 0:=i64_in om om;have q4:ω (4*(det k H*det (k+2) H+ci H k 1 0*ci H k 1 0))=4*(det k H*det (k+2) H+ci H k 1 0*ci H k 1 0):=i64_in om om;have q5:ω (3*det (k+1) H)=3*det (k+1) H:=i64_in om om;have q6:ω (3*det (k+1) H*det (k+1) H)=3*(det (k+1) H*det (k+1) H):=by rw[et];exact i64_in om om
      have hk1n:k+1<n:=om
      have hpn:0<n:=om
      have hpnz:(0:Int)<(n:Int):=om
      have hln:1<n:=om
      have hlnz:(1:Int)<(n:Int):=om
      by_cases q7:4*(det k H*det (k+2) H+ci H k 1 0*ci H k 1 0)<3*(det (k+1) H*det (k+1) H)
      .simp only[go_sem,aa,av,aK,z,K,P,Q,r,t,y,u,l,V,W,G,x4,U,x5,q1,q2,q3,q4,q5,q6,q7,show Int.toNat 1=1 from rfl];rw[L fun h=>by have:=X.1 (h.rows.2 (k+1) om hk1n);omega]
       exact VR.mf rfl
      .simp only[go_sem,aa,av,aK,z,K,P,Q,r,t,y,u,l,V,W,G,x4,U,x5,q1,q2,q3,q4,q5,q6,q7,show Int.toNat 1=1 from rfl];have hU1:=w.step E (X.2 om);refine⟨⟨k+1,om,hU1,q,.sl 1 bc 0 (n-(k+1)),aR ⟨bc,g',rfl,hN.1⟩,rfl,rfl⟩,om⟩
   .obtain⟨Y,N,J⟩:=id v.outer;obtain⟨g2,u2,v2⟩:=id (v.row 0 d);obtain⟨g3,u3,v3⟩:=id (v.row 1 M);have x1:Y 0=.sl 1 (g 0) 0 (n-k):=J 0 d;have x2:g2 0=ι (ci H k 0 0):=v2 0 d;have y1:Y 1=.sl 1 (g 1) 0 (n-k):=J 1 M;have y2:g3 0=ι (ci H k 1 0):=v3 0 d;simp -dsimp only[*,go_sem,aa];refine(qC (n-k) (ci H k) βk d om (fun i Z=>p.num ⟨d0,d2⟩ f om om) hβk).spec (eI.cons v.vr.va eI.nil) ?_
    cases βk with
    | false =>
     simp only[*,go_sem];rw[L fun h=>by have:=hβk.2 (h.short C f hk);cases this]
     exact VR.mf rfl
    | true =>
    have E:=hβk.1 rfl;obtain⟨d1,d3,F⟩:=id E;rw[cG]at d1 d3 F;have q:=p.step w C E;simp -dsimp only[*,go_sem]
    repeat refine an ?_
    refine ax.intro fun bc fc=>?_;simp only[go_sem];refine aC (fun O S'=>∃i:Nat,i<=n-(k+1)/\O 3=.sl 1 b 0 (n-k)/\O 4=ι (det k H)/\O 5=ι (det (k+1) H)/\O 6=.sl 1 bc 0 (n-(k+1))/\O 31=ι ((n-(k+1):Nat):Int)/\O 32=ι i/\∃g',fq 29 2 1 S S' bc g' (n-(k+1)) (n-(k+1)) i (fun a j=>ι (ci H (k+1) a j))) (fun O S=>n-bS (O 32)) ?_ ?_
    .simp only[*,go_sem];exact⟨0,om,rfl,fun _=>0,fq.init fc (fun _ _=>rfl) _ _⟩
    .clear z K;rintro O S' ⟨i,Z,z,K,P,Q,r,t,g',o⟩;by_cases y:i<n-(k+1)
     .have hi1:i+1<n-k:=om
      obtain⟨Y,N,J⟩:=id (o.ext.has v.outer);have x1:Y (i+1)=.sl 1 (g (i+1)) 0 (n-k):=J (i+1) hi1;have hbc:b≠bc:=a6.fresh v.outer fc;obtain⟨g4,G,R⟩:=id o.outer;simp -dsimp only[*,go_sem,aa,aI (om:i<1000000)]
      repeat refine an ?_
      refine ax.intro fun bd fd=>?_;have hdc:bc≠bd:=a6.fresh o.outer fd;simp only[*,go_sem];have I:=o.push dc fd G (fun _=>ι 0)
      generalize hgg:(fun a=>if a=i then bd else g' a)=gg at I
      refine aC (fun O S'=>∃j:Nat,j<=n-(k+1)/\O 3=.sl 1 b 0 (n-k)/\O 4=ι (det k H)/\O 5=ι (det (k+1) H)/\O 6=.sl 1 bc 0 (n-(k+1))/\O 7=ι i/\O 8=.sl 1 (g (i+1)) 0 (n-k)/\O 31=ι ((n-(k+1):Nat):Int)/\O 32=ι i/\O 47=ι ((n-(k+1):Nat):Int)/\O 48=ι j/\fq 29 2 1 S S' bc gg (n-(k+1)) (n-(k+1)) (i+1) (fun a c=>ι (if a=i/\j<=c then 0 else ci H (k+1) a c))) (fun O S=>n-bS (O 48)) ?_ ?_
      .simp only[*,go_sem];refine⟨0,om,rfl,I.congr fun a c _ _=>?_⟩
       by_cases e:a=i
       .simp[e]
       .simp[e]
      .clear z K P Q r t o I G R hgg N J x1;rintro O S' ⟨j,hj,z,K,P,Q,e7,e8,r,t,e47,e48,o⟩;by_cases hjt:j<n-(k+1)
       .have T:j+1<n-k:=om
        obtain⟨g4,G,R⟩:=id o.outer;obtain⟨g5,U,v5⟩:=id (o.row i om);have x4:g4 i=.sl 1 (gg i) 0 (n-(k+1)):=(R i y).trans (aj om);have b1:=p.num (i:=i+1) (j:=j+1) ⟨d0,d2⟩ f om om;have b2:=p.num (i:=i+1) (j:=0) ⟨d0,d2⟩ f om om;have b3:=p.num (i:=0) (j:=j+1) ⟨d0,d2⟩ f om om;have hs2:2*((ci H k (i+1) 0).natAbs:Int)<=det (k+1) H:=by
         have h3:=F (i+1) om om;omega
        have hstep:=ij w.ne i j;rw[cG]at hstep;have p1:=k8 (A:=65536) (B:=24696061952) (om:-65536<=det (k+1) H/\det (k+1) H<=65536) b1
        have p2:=k8 (A:=65536) (B:=24696061952) (om:-65536<=ci H k (i+1) 0/\ci H k (i+1) 0<=65536) b3
        have q1:ω (det (k+1) H*ci H k (i+1) (j+1))=det (k+1) H*ci H k (i+1) (j+1):=i64_in om om;have q2:ω (ci H k (i+1) 0*ci H k 0 (j+1))=ci H k (i+1) 0*ci H k 0 (j+1):=i64_in om om;have q3:ω (det (k+1) H*ci H k (i+1) (j+1)-ci H k (i+1) 0*ci H k 0 (j+1))=det k H*ci H (k+1) i j:=by rw[<-hstep];exact i64_in om om
        have b4:=q.num (i:=i) (j:=j) ⟨d1,d3⟩ f om om;have q4:pM (det k H*ci H (k+1) i j) (det k H)=ci H (k+1) i j:=NI _ om;have q5:ω (ci H (k+1) i j)=ci H (k+1) i j:=i64_in om om;have q6:¬(det k H=0):=om
        obtain⟨Y,N,J⟩:=id (o.ext.has v.outer);obtain⟨g2,u2,v2⟩:=id (o.ext.has (v.row 0 d));obtain⟨g3,u3,v3⟩:=id (o.ext.has (v.row (i+1) hi1));have x1:Y 0=.sl 1 (g 0) 0 (n-k):=J 0 d;have x2:g2 (j+1)=ι (ci H k 0 (j+1)):=v2 (j+1) T;have x3:g3 (j+1)=ι (ci H k (i+1) (j+1)):=v3 (j+1) T;have x5:g3 0=ι (ci H k (i+1) 0):=v3 0 d;simp -dsimp only[*,go_sem,aI (om:i<1000000)]
        refine aN 27 kr ?_
        simp only[go_sem,aa,z,K,P,Q,e7,e8,r,t,e47,e48,y,hjt,T,d,u,N,u2,u3,x1,x2,x3,x5,aI (om:j<1000000),G,x4,U,q1,q2,q3,q4,q5,q6,bS]
        refine⟨⟨j+1,om,rfl,(o.put dc (om:i<i+1) U j (ι (ci H (k+1) i j))).congr fun a c _ _=>?_⟩,om⟩
        by_cases e:a=i/\c=j
        .obtain⟨rfl,rfl⟩:=e;rw[aj ⟨rfl,rfl⟩,ah om]
        .rw[ah e];congr 1;by_cases e2:a=i/\j<=c
         .rw[aj e2,aj om]
         .rw[ah e2,ah om]
       .simp only[*,go_sem,aI (om:i<1000000),bS]
        exact⟨⟨i+1,om,rfl,gg,o.congr fun a c _ hc=>by rw[ah om]⟩,om⟩
     .obtain rfl:i=n-(k+1):=om
      have hN:=o.imat (A:=ci H (k+1)) (fun _ _ _ _=>rfl);obtain⟨g4,G,R⟩:=id hN.1.outer;obtain⟨g5,U,v5⟩:=id (hN.1.row 0 om);have x4:g4 0=.sl 1 (g' 0) 0 (n-(k+1)):=R 0 om;have x5:g5 0=ι (det (k+2) H):=(v5 0 om).trans (by simp only[cG])
      have V:0<n-(k+1):=om
      have W:(0:Int)<((n-(k+1):Nat):Int):=om
      have X:gA H (k+1)↔3*(det (k+1) H*det (k+1) H)<=4*(det k H*det (k+2) H+ci H k 1 0*ci H k 1 0):=by
       unfold gA eZ;rw[(om:k+1-1=k),(om:k+1-k=1),show k+1+1=k+2 from rfl]
      have hs2:2*((ci H k 1 0).natAbs:Int)<=det (k+1) H:=by
       have h3:=F 1 om om;omega
      have d4:=q.num (i:=0) (j:=0) ⟨d1,d3⟩ f om om;rw[cG,show k+1+1=k+2 from rfl]at d4;have p1:=k8 (A:=65536) (B:=24696061952) (om:-65536<=det k H/\det k H<=65536) d4
      have p2:=k8 (A:=65536) (B:=65536) (om:-65536<=ci H k 1 0/\ci H k 1 0<=65536) (om:-65536<=ci H k 1 0/\ci H k 1 0<=65536)
      have p3:=k8 (A:=65536) (B:=65536) (om:-65536<=det (k+1) H/\det (k+1) H<=65536) (om:-65536<=det (k+1) H/\det (k+1) H<=65536)
      have q1:ω (det k H*det (k+2) H)=det k H*det (k+2) H:=i64_in om om;have q2:ω (ci H k 1 0*ci H k 1 0)=ci H k 1 0*ci H k 1 0:=i64_in om om;have q3:ω (det k H*det (k+2) H+ci H k 1 0*ci H k 1 0)=det k H*det (k+2) H+ci H k 1 0*ci H k 1 0:=i64_in om om;have q4:ω (4*(det k H*det (k+2) H+ci H k 1 0*ci H k 1 0))=4*(det k H*det (k+2) H+ci H k 1 0*ci H k 1 0):=i64_in om om;have q5:ω (3*det (k+1) H)=3*det (k+1) H:=i64_in om om;have q6:ω (3*det (k+1) H*det (k+1) H)=3*(det (k+1) H*det (k+1) H):=by rw[et];exact i64_in om om
      have hk1n:k+1<n:=om
      obtain⟨Y,N,J⟩:=id (o.ext.has v.outer);obtain⟨g3,u3,v3⟩:=id (o.ext.has (v.row 1 M));have y1:Y 1=.sl 1 (g 1) 0 (n-k):=J 1 M;have y2:g3 0=ι (ci H k 1 0):=v3 0 d;by_cases q7:4*(det k H*det (k+2) H+ci H k 1 0*ci H k 1 0)<3*(det (k+1) H*det (k+1) H)
      .simp only[go_sem,aa,z,K,P,Q,r,t,y,d,u,M,l,V,W,N,u3,y1,y2,G,x4,U,x5,q1,q2,q3,q4,q5,q6,q7,show Int.toNat 1=1 from rfl];rw[L fun h=>by have:=X.1 (h.rows.2 (k+1) om hk1n);omega]
       exact VR.mf rfl
      .simp only[go_sem,aa,z,K,P,Q,r,t,y,d,u,M,l,V,W,N,u3,y1,y2,G,x4,U,x5,q1,q2,q3,q4,q5,q6,q7,show Int.toNat 1=1 from rfl];have hU1:=w.step E (X.2 om);refine⟨⟨k+1,om,hU1,q,.sl 1 bc 0 (n-(k+1)),aR ⟨bc,g',rfl,hN.1⟩,rfl,rfl⟩,om⟩
  .have l:¬((1:Int)<((n-k:Nat):Int)):=om
   have hkn:k+1=n:=om
   have b1:=b0;rw[hkn]at b1 D;by_cases z1:0<det n H
   .by_cases z2:det n H<=10000
    .have hβt:β=true:=hβ.2 ⟨C,w.redB hkn z1 z2⟩;rw[hβt];rcases hSt with rfl|⟨b,g,rfl,v⟩
     .simp only[go_sem,aa,av,aK,z,l,u,D,z1,z2];exact VR.mf rfl
     .obtain⟨Y,N,J⟩:=v.outer;obtain⟨g2,u2,v2⟩:=v.row 0 om;have w1:=J 0 d;have w2:=v2 0 d;simp only[go_sem,aa,z,l,d,u,N,u2,w1,w2,D,z1,z2];exact VR.mf rfl
    .rw[L fun h=>z2 h.dt];rcases hSt with rfl|⟨b,g,rfl,v⟩
     .simp only[go_sem,aa,av,aK,z,l,u,D,z1,z2];exact VR.mf rfl
     .obtain⟨Y,N,J⟩:=v.outer;obtain⟨g2,u2,v2⟩:=v.row 0 om;have w1:=J 0 d;have w2:=v2 0 d;simp only[go_sem,aa,z,l,d,u,N,u2,w1,w2,D,z1,z2];exact VR.mf rfl
   .rw[L fun h=>z1 (h.pos n (ag n))];rcases hSt with rfl|⟨b,g,rfl,v⟩
    .simp only[*,go_sem,aa,av,aK];exact VR.mf rfl
    .obtain⟨Y,N,J⟩:=v.outer;obtain⟨g2,u2,v2⟩:=v.row 0 om;have w1:=J 0 d;have w2:=v2 0 d;simp only[*,go_sem,aa];exact VR.mf rfl

def JZ:List AV:=[ι 7,ι 11,ι 13,ι 17,ι 19,ι 23,ι 29,ι 31]
def lq(_:St):Prop:=True
def lq.ext(_:lq S)(_:dy S S'):lq S':=trivial
def cJ.s0{f:Nat}(h:S 0=ae->cJ f args S post):cJ f args S post:=fun w vs a b=>h a.z w vs a b
def dvL:List Int:=[2,3,5]
def dvA:List AV:=[ι 2,ι 3,ι 5]
def Ro(a:i<3):dvA.getD i .any=ι (dvL.getD i 0)/\dvL.getD i 0≠0:=by
 rcases (om:i=0∨i=1∨i=2)with rfl|rfl|rfl<;>exact⟨rfl,by decide⟩
def Mn(a:i<3)(K:AV->Prop):BA 238 (.agg [ι 2,ι 3,ι 5]) (ι i) K=K (ι (dvL.getD i 0)):=by
 rw[<-(Ro a).1];unfold BA;apply propext;constructor
 .rintro (⟨h,_⟩|⟨_,_,_,h⟩)
  .exact absurd h dc
  .rwa [cQ]at h
 .intro h;exact aR ⟨a9 ⟨rfl,rfl⟩,by simp[ei],⟨om,by simp;omega⟩,by rwa [cQ]⟩
def zM:List Nat:=[7,11,13,17,19,23,29,31,37]
def G6(a:i<8)(K:AV->Prop):BA 239 (.agg JZ) (ι i) K=K (ι ((zM.getD i 0:Nat):Int)):=by
 have e:JZ.getD i .any=ι ((zM.getD i 0:Nat):Int):=by
  rcases (om:i=0∨i=1∨i=2∨i=3∨i=4∨i=5∨i=6∨i=7)with rfl|rfl|rfl|rfl|rfl|rfl|rfl|rfl<;>rfl
 rw[<-e];unfold BA;apply propext;constructor
 .rintro (⟨h,_⟩|⟨_,_,_,h⟩)
  .exact absurd h dc
  .rwa [cQ]at h
 .intro h;exact aR ⟨aR ⟨rfl,rfl⟩,by simp[ei,JZ],⟨om,by simp[JZ];omega⟩,by rwa [cQ]⟩
def Og:(wl.map fun z=>ι z)=JZ:=rfl
def dvN:List Nat:=[2,3,5]
def prm5(h:d=2∨d=3∨d=5):tB d:=⟨om,fun e b c=>by
 rcases aB e 3 with a|a
 .obtain rfl:e=2:=om
  omega
 .have:=bB a a;omega⟩
def Jc(b:2<=d)(h:p%d=0):d=p∨¬tB p:=by
 rcases fL (tB p)with a|a
 .rcases a.div (Nat.dvd_of_mod_eq_zero h)with e|e
  .omega
  .exact a9 e
 .exact aR a
def Oh:∀i,i<8->7<=zM.getD i 0/\zM.getD i 0<=31/\∀x,x<37->zM.getD i 0<x->x<zM.getD (i+1) 0->x%2=0∨x%3=0∨x%5=0:=by decide
def GR{e:Nat}(h:¬p%d=0)(a:e%d=0):¬p%e=0:=fun b=>h (Nat.mod_eq_zero_of_dvd (Nat.dvd_trans (Nat.dvd_of_mod_eq_zero a) (Nat.dvd_of_mod_eq_zero b)))
def LstQ(p:Nat)(r:AV):Prop:=∃d:Nat,r=ι d/\(d=p↔tB p)
def J5(S:St)(p:Nat)(N:2<=p)(P:p<=9973)(hG:lq S) :
  cJ 256 [ι p] S (fun r S'=>LstQ p r/\S'=S):=by
 refine cJ.s0 fun G=>?_;refine iZ func256 ntmps256 results256 ?_;simp only[go_sem];refine cA (fun O S'=>∃i:Nat,i<=3/\(∀j,j<i->¬p%dvN.getD j 0=0)/\S'=S/\O 0=ι p/\O 10=.agg [ι 2,ι 3,ι 5]/\O 11=ι i) (fun O S=>3-bS (O 11)) ?_ ?_
 .simp only[go_sem];exact⟨0,om,fun j Q=>om,rfl⟩
 rintro Q' b O S' ⟨i,R,c,rfl,o,f,g⟩;by_cases a:i<3
 .have D:decide ((i:Int)<3)=true:=by simp;omega
  obtain⟨q,K,H⟩:∃q:Nat,q=dvN.getD i 0/\(q=2∨q=3∨q=5):=by
   rcases (om:i=0∨i=1∨i=2)with rfl|rfl|rfl<;>exact⟨_,rfl,by decide⟩
  have x:dvL.getD i 0=(q:Int):=by
   rw[K];rcases (om:i=0∨i=1∨i=2)with rfl|rfl|rfl<;>rfl
  have y:¬(q:Int)=0:=om
  by_cases s:p%q=0
  .simp only[go_sem,o,f,g,D,Mn a,x,y,pZ,s,show(((0:Nat):Int)==0)=true from rfl];rw[b];simp only[go_sem];exact⟨q,rfl,fun h=>by rw[<-h];exact prm5 H,fun h=>(Jc om s).resolve_right (fun w=>w h)⟩
  .have t:(((p%q:Nat):Int)==0)=false:=by simp;omega
   simp only[go_sem,o,f,g,D,Mn a,x,y,pZ,t,aI (om:i<1000000),bS]
   refine⟨⟨i+1,om,fun j Q=>?_,rfl⟩,om⟩
   by_cases e:j=i
   .rw[e,<-K];exact s
   .exact c j om
 obtain rfl:i=3:=om
 have T:¬p%2=0:=c 0 om;have U:¬p%3=0:=c 1 om;have V:¬p%5=0:=c 2 om;have D:decide (((3:Nat):Int)<3)=false:=by decide
 simp only[go_sem,o,f,g,D];rw[b];simp only[go_sem,o];refine cA (fun O S1=>∃k:Nat,k<=3/\(∀e,2<=e->e<30*k+7->¬p%e=0)/\S1=S'/\O 0=ι p/\O 5=ι p/\O 6=ι ((30*k:Nat):Int)) (fun O S=>200-bS (O 6)) ?_ ?_
 .simp only[go_sem,o];refine⟨0,om,fun e E w W=>?_,rfl⟩
  rcases (om:e=2∨e=3∨e=4∨e=5∨e=6)with rfl|rfl|rfl|rfl|rfl<;>omega
 clear o f g b;rintro Q' b O S1 ⟨k,hk,z,rfl,o,e5,e6⟩;simp only[go_sem,aa,G,Og];refine cA (fun O S2=>∃i:Nat,i<=8/\(∀e,2<=e->e<30*k+zM.getD i 0->¬p%e=0)/\(i=8->k<=2)/\S2=S1/\O 0=ι p/\O 5=ι p/\O 6=ι ((30*k:Nat):Int)/\O 23=.agg JZ/\O 24=ι i) (fun O S=>8-bS (O 24)) ?_ ?_
 .simp only[*,go_sem];exact⟨0,om,z,fun h=>om,rfl⟩
 rintro Q2 u O2 S2 ⟨i,R,v,X,rfl,f0,A,F,l,m⟩;by_cases a:i<8
 .have I:decide ((i:Int)<8)=true:=by simp;omega
  obtain⟨g1,g2,Y⟩:=Oh i a;obtain⟨d,Z⟩:∃d,d=30*k+zM.getD i 0:=⟨_,rfl⟩;have wd:ω (((30*k:Nat):Int)+((zM.getD i 0:Nat):Int))=(d:Int):=dP om om;have hdd:d*d<=121*121:=bB om om;have wdd:ω ((d:Int)*d)=((d*d:Nat):Int):=dP (by rw[aX]) om
  have B:¬((d:Int)=0):=om
  by_cases J:p<d*d
  .simp only[go_sem,f0,A,F,l,m,I,G6 a,wd,wdd,J];rw[u];simp only[go_sem];rw[b];simp only[go_sem,A];refine⟨p,rfl,fun _=>⟨N,fun e w W=>v e w ?_⟩,fun _=>rfl⟩;rw[<-Z];rcases aB e d with n|n
   .exact n
   .have:=bB n n;omega
  .by_cases s:p%d=0
   .simp only[go_sem,f0,A,F,l,m,I,G6 a,wd,wdd,J,B,pZ,s,show(((0:Nat):Int)==0)=true from rfl];rw[u];simp only[go_sem];rw[b];simp only[go_sem];have C:d≠p:=fun e=>by
     have:2*d<=d*d:=aq d om;omega
    exact⟨d,rfl,fun h=>absurd h C,fun h=>absurd h ((Jc om s).resolve_left C)⟩
   .have t:(((p%d:Nat):Int)==0)=false:=by simp;omega
    have L:d<=99:=by
     rcases aB 99 d with h|h
     .have:100*100<=d*d:=bB h h;omega
     .exact h
    simp only[go_sem,f0,A,F,l,m,I,G6 a,wd,wdd,J,B,pZ,t,aI (om:i<1000000),bS]
    refine⟨⟨i+1,om,fun e E w=>?_,fun h=>?_,rfl⟩,om⟩
    .rcases dp e d with n|n|n
     .exact v e E om
     .rw[n];exact s
     .have h37:zM.getD (i+1) 0<=37:=by
       rcases (om:i=0∨i=1∨i=2∨i=3∨i=4∨i=5∨i=6∨i=7)with rfl|rfl|rfl|rfl|rfl|rfl|rfl|rfl<;>decide
      have:=Y (e-30*k) om om om;rcases this with M|M|M
      .exact GR T om
      .exact GR U om
      .exact GR V om
    .have:zM.getD i 0=31:=by rw[(om:i=7)]<;>rfl
     omega
 .obtain rfl:i=8:=om
  have hk2:=X rfl;simp only[go_sem,f0,A,F,l,m,show decide (((8:Nat):Int)<8)=false by decide]
  rw[u];have w30:ω (((30*k:Nat):Int)+30)=((30*(k+1):Nat):Int):=dP om om;simp only[*,go_sem,bS];exact⟨⟨k+1,om,fun e E w=>v e E (by show e<30*k+37;omega),rfl⟩,om⟩
def Ij(S:St)(p:Int)(c:p<=9973)(β:Bool)(hβ:β=true↔2<=p/\tB p.toNat)(f:lq S):cJ 221 [ι p] S (fun r S'=>r=.bool β/\S'=S):=by
 refine iZ func221 ntmps221 results221 ?_;have i:decide (p<=2147483647)=true:=by simp;omega
 by_cases a:2<=p
 .obtain⟨q,rfl⟩:∃q:Nat,p=q:=⟨p.toNat,om⟩
  have g:decide ((2:Int)<=(q:Int))=true:=by simp;omega
  simp -dsimp only[*,go_sem,aa];refine(J5 S q om om f).mono ?_;rintro _ S' ⟨⟨d,rfl,b⟩,rfl⟩;have j:β=((d:Int)==(q:Int)):=by
   by_cases e:d=q
   .rw[hβ.2 ⟨a,b.1 e⟩,e];simp
   .rw[cP hβ fun h=>e (b.2 h.2)];simp;omega
  simp only[*,go_sem]
 .have g:decide (2<=p)=false:=by simpa using a
  simp only[*,go_sem,aa];rw[cP hβ fun h=>a h.1]
open Classical in
noncomputable def qD(n:Nat)(H:az)(p:Int):Int:=if eW n H then(if qP p/\¬det n H%p=0 then 0 else 20)else 6
def Jd{p:Int}(h:¬eW n H):qD n H p=6:=by unfold qD;rw[ah h]
def Aa{p:Int}(h:eW n H)(a:¬(qP p/\¬det n H%p=0)):qD n H p=20:=by unfold qD;rw[aj h,ah a]
def yH{p:Int}(h:eW n H)(a:qP p/\¬det n H%p=0):qD n H p=0:=by unfold qD;rw[aj h,aj a]
def eW.iff(c:1<=n)(a:n<=8):eW n H↔(∀i j,i<n->j<n->H i j=H j i)/\sn H n:=⟨eW.redB,fun⟨d,b⟩=>⟨c,a,b.red d a,b.dt⟩⟩
def Ct(S:St)(n:Nat)(H:az)(p:Int)(f:1<=n)(g:n<=8)(q:lq S):cJ 174 [av n n H,ι p] S (fun r S'=>r=ι (qD n H p)/\dy S S'):=by
 refine iZ func174 ntmps174 results174 ?_;obtain⟨β,hβ⟩:=jp (eW n H);simp -dsimp only[go_sem,aa];refine(mP n H β f g (hβ.trans (eW.iff f g))).call ?_
 cases β with
 | false =>
  simp only[go_sem,aa];rw[Jd fun h=>by have:=hβ.2 h;cases this]
  exact⟨rfl,dy.refl S⟩
 | true =>
 have i:=hβ.1 rfl;have no:¬qP p->qD n H p=20:=fun h=>Aa i fun s=>h s.1;by_cases l:p=2
 .simp only[go_sem,aa,show(p==2)=true by simpa using l]
  rw[no fun h=>by have:=h.1;omega]
  exact⟨rfl,dy.refl S⟩
 have t:(p==2)=false:=by simpa using l
 by_cases m:9973<p
 .simp only[go_sem,aa,t,show decide (9973<p)=true by simpa using m]
  rw[no fun h=>by have:=h.2.1;omega]
  exact⟨rfl,dy.refl S⟩
 have w:decide (9973<p)=false:=by simpa using m
 obtain⟨βp,j⟩:=jp (2<=p/\tB p.toNat);simp -dsimp only[*,go_sem,aa];refine(Ij S p om βp j q).mono ?_;rintro _ S' ⟨rfl,rfl⟩
 cases βp with
 | false =>
  simp only[*,go_sem,aa];rw[no fun h=>by have:=j.2 ⟨by have:=h.1;omega,h.2.2⟩;cases this]
  exact⟨rfl,dy.refl _⟩
 | true =>
 obtain⟨x,c⟩:=j.1 rfl;have u:qP p:=⟨om,om,c⟩
 simp -dsimp only[*,go_sem,aa];have v:=((Gb n H p f g om om (fun a b h=>by have:=c.mul a b;rw[c9 om]at this;exact this h)).less (post':=fun r S'=>(∃d:Int,(d=0↔p∣det n H)/\r=.tup [ι d,ι 0])/\S'=St.none) fun r S' h=>⟨St.none,(fun b X k=>by simp[St.none]at k),h,rfl⟩).frame (cC S' _) (by rintro r S1 ⟨⟨d,_,rfl⟩,rfl⟩;exact⟨rfl,fun b X k=>by simp[St.none]at k⟩)
 refine v.mono ?_;rintro _ S2 ⟨S1,⟨⟨d,o,rfl⟩,rfl⟩,_,rfl⟩;by_cases e:d=0
 .simp only[go_sem,show(d==0)=true by simpa using e,aP]
  rw[Aa i fun h=>h.2 (cS (o.1 e))];exact⟨rfl,nT _ _⟩
 .simp only[go_sem,show(d==0)=false by simpa using e,aP]
  rw[yH i ⟨u,fun h=>e (o.2 (dF h))⟩];exact⟨rfl,nT _ _⟩

def KF{v:Nat->Int}{K:AV->St->Prop}(c:S b=some ⟨2,1,0,g0⟩)(d:0<n)(k:n<=1000)
  (f:∀b' h,(b'=b∨S b'=ae)->(∀j,j<n->h j=ι (v j))->K (.sl 1 b' 0 n) ((S.del b).upd b' ⟨2,1,n,h⟩)):gD 29 29 (.sl 1 b 0 0) (.lst 1 n (fun j=>ι (v j))) S K:=by
 have g:DD S (.lst 1 n (fun j=>ι (v j)))=some (1,n,fun j=>ι (v j),ae):=rfl;unfold gD;rw[show dO 29=some 2 from rfl,g];refine⟨rfl,rfl,rfl,d,fun j i=>by simp[ei],?_⟩
 .simp only[c];refine⟨trivial,trivial,trivial,trivial,trivial,om,(fun e=>by cases e),fun b' a=>?_⟩
  rw[aJ];refine f b' _ a fun j i=>?_;unfold pC;split
  .have:j=0:=om
   subst this;simp only[aQ,aE,aJ]
  .simp only[wQ,aH,dC]
def Rz{K:AV->St->Prop}:da 29 0 [] S K=ax S (fun b=>K (.sl 1 b 0 0) (S.upd b ⟨2,1,0,fun j=>([]:List AV).getD j .any⟩)):=by
 simp only[da,dO,cb];simp[ez,fX,ax]
def BO(S:St)(n:Nat)(v:Nat->Int)(f:0<n)(m:n<=1000) :
  cJ 177 [aK n v] S (fun r S'=>∃b,r=.sl 1 b 0 n/\a6 S' b 2 1 n (fun j=>ι (v j))/\dy S S'/\S b=ae):=by
 refine iZ func177 ntmps177 results177 ?_;simp -dsimp only[go_sem,Rz,aK];refine⟨f,ax.intro fun g c=>?_⟩
 try simp -dsimp only[go_sem]
 refine KF ca f m ?_;intro b' h d o;have i:S b'=ae:=by
  rcases d with rfl|h
  .exact c
  .by_cases e:b'=g
   .rw[e];exact c
   .rw[aG e]at h;exact h
 simp only[go_sem];refine⟨b',rfl,a6.here o,fun k X a=>?_,i⟩;have p:k≠b':=fun e=>by rw[e,i]at a;cases a
 have l:k≠g:=fun e=>by rw[e,c]at a;cases a
 rw[aG p];unfold St.del;rw[ah l,aG l];exact a
def zN(n:Nat)(H:az)(v:Nat->Int)(m:Int):eH n (lM H m) v n%m=eH n H v n%m:=by
 unfold eH;refine ni n _ _ m fun i _=>?_;rw[eY,ni n (fun j=>lM H m i j*v j) (fun j=>H i j*v j) m fun j _=>?_,<-eY];show(H i j%m*v j)%m=_;rw[eY,jN _ (iJ m),<-eY]
def zX(n p:Nat)(H:az)(v:Nat->Int)(β:Bool)(C:1<=n)(F:n<=8)(M:2<=p)(G:p<=9973)(hβ:β=true↔AT n p H v):PF 175 [av n n H,ι p,aK n v] (.bool β):=by
 refine gN func175 ntmps175 results175 ?_;simp only[go_sem,av,aK,aP];refine cA (fun O S=>∃i:Nat,i<=n/\(∀k,k<i->0<=v k/\v k<p)/\O 0=av n n H/\O 1=ι p/\O 2=aK n v/\O 7=ι (iu v i)/\O 17=aK n v/\O 18=ι n/\O 19=ι i) (fun O S=>n-bS (O 19)) ?_ ?_
 .simp only[go_sem,av,aK];exact⟨0,om,fun k I=>om,rfl,rfl⟩
 rintro Q' o O S ⟨i,D,d,x,u,w,t,q,r,s⟩;by_cases a:i<n
 .by_cases E:v i<0
  .simp only[go_sem,av,aK,x,u,w,t,q,r,s,a,E];rw[o];simp only[go_sem];rw[cP hβ fun h=>by have:=h.1 i a;omega]
   exact VR.mf rfl
  by_cases J:(p:Int)<=v i
  .simp only[go_sem,av,aK,x,u,w,t,q,r,s,a,E,J];rw[o];simp only[go_sem];rw[cP hβ fun h=>by have:=h.1 i a;omega]
   exact VR.mf rfl
  have l:∀k,k<i+1->0<=v k/\v k<p:=fun k I=>by
   by_cases e:k=i
   .rw[e];omega
   .exact d k om
  by_cases z:iu v i=0
  .simp only[*,go_sem,av,aK,cl,aI (om:i<1000000),bS]
   refine⟨⟨i+1,om,l,?_,rfl⟩,om⟩
   simp only[iu,z,aE]
  .have N:(iu v i==0)=false:=by simpa using z
   simp only[*,go_sem,av,aK,aI (om:i<1000000),bS]
   refine⟨⟨i+1,om,l,?_,rfl⟩,om⟩
   simp only[iu,z,aH]
 have B:i=n:=om
 rw[B]at t d;simp only[go_sem,aa,x,u,w,t,q,r,s,a];rw[o];simp -dsimp only[*,go_sem,aa];refine(xU n n H p C om C om om om S _ (cC _ _)).mono ?_;rintro _ S1 ⟨b,g,rfl,K,_⟩;by_cases f:iu v n=1
 .have c:(iu v n==1)=true:=by rw[f]<;>rfl
  simp -dsimp only[go_sem,aa,x,u,w,t,c];have L:=ra (A:=H) (m:=(p:Int)) om;refine(zO n p (lM H p) v F om om (fun i j _ _=>by have:=L i j;omega) (fun i D=>by have:=d i D;omega)).spec (eI.three K.vr.va (VA.refl _ _) (VA.refl _ _)) ?_
  rw[zN];by_cases y:eH n H v n%(p:Int)=0
  .rw[y,hβ.2 ⟨d,f,y⟩];simp only[*,go_sem,cl];exact VR.mf rfl
  .rw[cP hβ fun h=>y h.2.2];simp only[go_sem,u,w,t,c,show(eH n H v n%(p:Int)==0)=false by simpa using y]
   exact VR.mf rfl
 .have c:(iu v n==1)=false:=by simpa using f
  simp only[*,go_sem];rw[cP hβ fun h=>f h.2.1];exact VR.mf rfl
def G3(n l p:Nat)(H:az)(v:Nat->Int)(β:Bool)(b:1<=n)(c:n<=8)(d:2<=p)(a:p<=9973)(hβ:β=true↔l=n/\AT n p H v):PF 175 [av n n H,ι p,aK l v] (.bool β):=by
 by_cases e:l=n
 .subst e;exact zX l p H v β b c d a (hβ.trans ⟨fun h=>h.2,fun h=>⟨rfl,h⟩⟩)
 .refine gN func175 ntmps175 results175 ?_;simp only[go_sem,av,aK,show((l:Int) != n)=true by simp;omega]
  rw[cP hβ fun h=>e h.1];exact VR.mf rfl
def J8(n p:Nat)(H:az)(v:Nat->Nat)(c:1<=n)(d:n<=8)(e:2<=p)(a:p<=9973)(b:jo n p H v):PF 175 [av n n H,ι p,aK n (fun k=>v k)] (.bool true) :=
 zX n p H _ true c d e a ⟨fun _=>⟨fun i f=>by have:=b.lt i f;dsimp only;omega,b.lead,b.norm⟩,fun _=>rfl⟩

def qK(n:Nat)(H:az)(p:Int)(v:Nat->Int):Nat->Int:=fun i=>(ap n fun j=>H i j*v j)%p
def LL(n:Nat)(H:az)(p:Int)(v:Nat->Int)(i:Nat):(ap n fun j=>lM H (p*p) i j*v j)%p=qK n H p v i:=by
 refine ni n _ _ p fun j _=>?_;show(H i j%(p*p)*v j)%p=_;rw[eY,jN _ (Int.dvd_mul_right p p),<-eY]
def yq(n:Nat)(H:az)(p:Int)(v:Nat->Int)(i:Nat):gM n H p v i=qK n H p v i:=by
 refine ni n _ _ p fun j _=>?_;show(H i j%p*(v j%p))%p=_;rw[<-eY]
theorem qt:∀(a b:List Oper) (O:Tm) (S:St) (pend:List (Nat×eo)) (K:Tm->List (Nat×eo)->Prop),Gj (a++b) O S pend K=Gj a O S pend (fun O' p'=>Gj b O' S p' K)
 | [],_,_,_,_,_=>rfl
 | o::a,b,O,S,pend,K=>by
  simp only[oG,Gj];split
  .split
   .exact qt a b _ _ _ _
   .rfl
  .simp only[qt a b]
def DW{K:Tm->List (Nat×eo)->Prop}(r:Nat)(h:∀K',K'=(fun O' p'=>Gf (l.drop r) O' S p' K)->Gf (l.take r) O S pend K'):Gf l O S pend K:=by
 have h:=h _ rfl;rw[qB]at h ⊢;rw[<-qt,xV]at h;exact h
def PX{K:Tm->List (Nat×eo)->Prop}:Gf [] O S pend K=K O pend:=by rw[qB]<;>rfl
def PW:Es ops [] O S K=K O S:=by rw[xf]<;>rfl
def Pk{c:Code}(h:∀Q',Q'=Q->Aw c Q' O S):Aw c Q O S:=h _ rfl
def Po(r q:Nat)(a:xI ops q [] false=true)
  (h:∀K',K'=(fun O' pend=>Gf ((ops.toList.take q).drop r) O' S pend (fun O' pend=>if pend.isEmpty then Es ops (ops.toList.drop q) O' S K else vJ pend (Aj (qn (ops.toList.take q)) O') S (fun O S=>Es ops (ops.toList.drop q) O S K)))->Gf ((ops.toList.take q).take r) O S [] K'):Ix ops O S K:=by
 refine aN q a ?_;have h:=h _ rfl;rw[qB]at h ⊢;rw[<-qt,xV]at h;exact h
def KZ(S:St)(n p piv:Nat)(H:az)(v:Nat->Nat)(hF:eW n H)(hg:jT (det n H) p)(J:oW p)(hL:jo n p H v)(hG:lq S)
  (hpiv:piv<n) (K:qK n H p (fun k=>v k) piv≠0) (hsz:∀i,i<piv->qK n H p (fun k=>v k) i=0) :
  cJ 121 [av n n H,ι p,aK n (fun k=>v k)] S (fun r S'=>∃b t,S b=ae/\0<=t/\t<(p:Int)/\(p:Int)*p∣je n H (fun k=>if k=piv then((v k:Nat):Int)+p*t else v k) (fun k=>if k=piv then((v k:Nat):Int)+p*t else v k)/\r=.tup [.sl 1 b 0 n,ι 0]/\a6 S' b 2 1 n (fun k=>ι (if k=piv then((v k:Nat):Int)+p*t else v k))/\dy S S'):=by
 have L:=hF.one;have hn:=hF.eight;have l:=J.2;refine iZ func121 Tz SN ?_;simp -dsimp only[go_sem,aa];refine(Ct S n H p L hn hG).mono ?_;rintro _ S1 ⟨rfl,y⟩;rw[yH hF ⟨qP.of J,hg.2.2.2⟩];simp -dsimp only[go_sem,aa];refine(J8 n p H v L om om om hL).spec (cC _ _) ?_;have hpp:(p:Int)*p<=99460729/\9<=(p:Int)*p:=by
  rw[<-aX];have a:=bB l.2 l.2;have b:=bB l.1 l.1;omega
 have wpp:ω ((p:Int)*p)=(p:Int)*p:=i64_in om om;simp -dsimp only[go_sem,aa,wpp];refine(xU n n H (p*p) L om L om om om S1 _ (cC _ _)).mono ?_;rintro _ S2 ⟨br,gr,rfl,hR,z,_,_⟩;simp -dsimp only[go_sem,aa];refine(BO S2 n (fun k=>v k) om om).mono ?_;rintro _ S3 ⟨bx,rfl,hx3,M,P⟩;have B:=hR.ext M;simp only[go_sem];have hr:=ra (A:=H) (m:=(p:Int)*p) om;have C:∀i,i<n->(0:Int)<=(v i:Nat)/\((v i:Nat):Int)<=9972:=fun i hi=>by have:=hL.lt i hi;omega
 have Q:dy S S3:=(y.trans z).trans M;refine cA (fun O S=>∃i:Nat,i<=piv/\S3=S/\O 1=ι p/\O 2=aK n (fun k=>v k)/\O 9=.sl 1 br 0 n/\O 11=.sl 1 bx 0 n/\O 39=.sl 1 br 0 n/\O 40=ι n/\O 41=ι i) (fun O S=>n-bS (O 41)) ?_ ?_
 .simp only[go_sem];exact⟨0,om,rfl⟩
 rintro Q' hQ' O _ ⟨i,hi,rfl,u,e2,e9,o,D,E,F⟩;have d:i<n:=om
 obtain⟨g1,u1,v1⟩:=id B.outer;have x1:g1 i=.sl 1 (gr i) 0 n:=v1 i d;simp -dsimp only[go_sem,aa,u,e2,D,E,F,d,u1,x1];refine(Fi n p (lM H (p*p) i) (fun k=>v k) om om (fun j G=>by have:=hr i j;omega) (fun j G=>by have:=C j G;omega)).spec (eI.three (oZ.vr (B.row i d)).va (VA.refl _ _) (VA.refl _ _)) ?_
 rw[LL];by_cases hip:i<piv
 .simp only[*,go_sem,hsz i hip,cl,aI (om:i<1000000),bS]
  exact⟨⟨i+1,om,rfl⟩,om⟩
 obtain rfl:i=piv:=om
 have hsb:(qK n H p (fun k=>v k) i==0)=false:=by simpa using K
 have R:0<=qK n H p (fun k=>v k) i/\qK n H p (fun k=>v k) i<p:=⟨aV _ om,aU _ om⟩;generalize hsl:qK n H p (fun k=>v k) i=sl at *;have w2:ω (2*sl)=2*sl:=i64_in om om;simp -dsimp only[go_sem,u,e2,e9,o,D,E,F,hsb,w2];refine ax.intro fun f T=>?_
 try simp -dsimp only[go_sem]
 refine ax.intro fun q U=>?_;have n56_55:=(af U).1
 try simp -dsimp only[go_sem,u]
 have hIM:eh ((S3.upd f ⟨2,1,1,fun j=>[ι (2*sl)].getD j .any⟩).upd q ⟨29,1,1,fun j=>[AV.sl 1 f 0 1].getD j .any⟩) q (fun _=>f) 1 1 (fun _ _=>2*sl):=by
  refine⟨a6.here fun j G=>?_,fun j _=>a6.upd (a6.here fun k hk=>?_) n56_55.symm _,fun i j L h2 _=>om⟩
  .obtain rfl:j=0:=om
   rfl
  .obtain rfl:k=0:=om
   rfl
 have x:S3 q=ae:=by rwa [aG n56_55]at U
 have up2:∀{b ty es m:Nat} {g:Nat->AV},a6 S3 b ty es m g->a6 ((S3.upd f ⟨2,1,1,fun j=>[ι (2*sl)].getD j .any⟩).upd q ⟨29,1,1,fun j=>[AV.sl 1 f 0 1].getD j .any⟩) b ty es m g:=fun h=>(h.upd (h.fresh T) _).upd (h.fresh x) _;have V:dy S3 ((S3.upd f ⟨2,1,1,fun j=>[ι (2*sl)].getD j .any⟩).upd q ⟨29,1,1,fun j=>[AV.sl 1 f 0 1].getD j .any⟩):=((dy.refl S3).upd T _).upd x _;have h2s:0<2*sl%p/\2*sl%p<p:=by
  have a:=aV (2*sl) (show(p:Int)≠0 by omega)
  have b:=aU (2*sl) (show(0:Int)<p by omega)
  have c:2*sl%p≠0:=fun h=>by
   rcases J.1.mul 2 sl (dF h)with h|h
   .have:=mg om h;omega
   .exact K (by have:=cS h;rwa [dz R.1 R.2]at this)
  omega
 have W:¬(p:Int)∣2*sl:=fun h=>by have:=cS h;omega
 have hei:=J.1.inv1 W;refine(vn (2*sl) p om om (J.1.gcd' W) _ _ (eI.two hIM.vr.va (VA.refl _ _))).mono ?_;rintro _ S4 ⟨bi,gi,rfl,X,hE4,_,_⟩;have Z:=zK (p:=(p:Int)) om (2*sl);generalize qM p (2*sl)=iv at *;have s:dy S3 S4:=V.trans hE4;have hx4:=s.has hx3;have hR4:=B.ext s;obtain⟨gb,ub,vb⟩:=id X.outer;obtain⟨gc,uc,vc⟩:=id (X.row 0 om);obtain⟨gx,ux,vx⟩:=id hx4;have xb:gb 0=.sl 1 (gi 0) 0 1:=vb 0 om;have xc:gc 0=ι iv:=vc 0 om;have xx:gx i=ι (v i:Nat):=vx i d;have hN:eH n (lM H (p*p)) (fun k=>v k) n%(p*p)=eH n H (fun k=>v k) n%(p*p):=zN n H _ _;have hN0:=aV (eH n H (fun k=>v k) n) (show(p:Int)*p≠0 by omega)
 have hN1:=aU (eH n H (fun k=>v k) n) (show(0:Int)<p*p by omega)
 generalize hNN:eH n H (fun k=>v k) n%((p:Int)*p)=N at *;have hk0:0<=N/p/\N/p<p:=by
  refine⟨mA hN0 om,?_⟩;exact Int.ediv_lt_of_lt_mul om hN1
 have k1:ω (N.tdiv p)=N/p:=by rw[fD hN0];exact i64_in om om
 have k2:ω (p-N/p)=p-N/p:=i64_in om om;have hm0:0<=(p-N/p)*iv/\(p-N/p)*iv<=99460729:=by
  have:=cw (show(p:Int)-N/p<=9973 by omega) (om:iv<=9973) Z.1 om
  exact⟨cD om Z.1,om⟩
 have k3:ω ((p-N/p)*iv)=(p-N/p)*iv:=i64_in om om;have k4:((p-N/p)*iv).tmod p=(p-N/p)*iv%p:=aO hm0.1;have I:=aV ((p-N/p)*iv) (show(p:Int)≠0 by omega)
 have ht1:=aU ((p-N/p)*iv) (show(0:Int)<p by omega)
 generalize hT:(p-N/p)*iv%(p:Int)=t at *;have hnm:=Ci hF.red.pd.sym d (show(0:Int)<p by omega) hsl hei hNN hL.norm hT
 have hpt:0<=(p:Int)*t/\(p:Int)*t<=99460729:=by
  have:=cw (show(p:Int)<=9973 by omega) (om:t<=9973) I om
  exact⟨cD om I,om⟩
 have k5:ω (p*t)=p*t:=i64_in om om;have hvi:=C i d;have k6:ω (((v i:Nat):Int)+p*t)=((v i:Nat):Int)+p*t:=i64_in om om;have hp0:¬(p:Int)=0:=om
 simp -dsimp only[go_sem,u];refine Po 7 19 kr fun K' hK'=>?_
 simp only[go_sem,aa,u,e2,e9,wpp];refine⟨_,(zO n (p*p) (lM H (p*p)) (fun k=>v k) om om om (fun i j _ _=>by have:=hr i j;omega) (fun j G=>by have:=C j G;omega)).pureS (eI.three hR4.vr.va (VA.refl _ _) (VA.refl _ _)),?_⟩
 rw[aX,hN,hK'];refine DW 7 fun K'' hK''=>?_;simp only[go_sem,aa,u,ub,xb,hp0,k1,k2]
 repeat refine an ?_
 rw[hK''];refine DW 3 fun K3 hK3=>?_;simp only[go_sem,aa,u,uc,xc,k3]
 suffices key:∀O':Tm,O' 1=ι p->O' 11=.sl 1 bx 0 n->O' 12=ι i->O' 76=ι ((p-N/p)*iv)->O' 77=ι p->K3 O' [] by
  refine key _ ?_ ?_ ?_ ?_ ?_<;>simp only[*,go_sem]
 clear u e2 e9 o D E F hK' hK'';intro O' u o e12 e76 e77;rw[hK3];refine DW 2 fun K4 hK4=>?_;simp only[go_sem,e76,e77,hp0,k4];rw[hK4];clear hK4 hK3;rw[show(List.drop 2 (List.drop 3 (List.drop 7 (List.drop 7 (List.take 19 (Array.toList _))))))=([]:List Oper)from rfl];dsimp only;rw[PX];rw[show List.isEmpty ([]:List (Nat×eo))=true from rfl,aj rfl];rw[show(List.drop 19 (Array.toList _))=([]:List Oper)from rfl];rw[PW];refine Pk fun Q3 hQ3=>?_;simp only[go_sem,aa,u,o,e12,d,ux,xx,k5,k6];rw[hQ3];simp only[go_sem];rw[hQ'];simp only[go_sem];have hbS:S bx=ae:=by
  cases e:S bx with
  | none=>rfl
  | some Y=>have:=z _ Y (y _ Y e);rw[P]at this;cases this
 refine⟨bx,hbS,t,I,ht1,hnm,by rw[o],a6.here fun j G=>?_,fun k Y hY=>?_⟩
 .show aQ gx i _ j=_;unfold aQ;by_cases w:j=i
  .rw[aj w,w,aj rfl]
  .rw[ah w,ah w];exact vx j G
 .have hk:k≠bx:=fun e=>by
   subst e;have:=z k Y (y k Y hY);rw[P]at this;cases this
  rw[aG hk];exact(Q.trans s) k Y hY

def D0(f:Nat->Int){j:Nat}(a:j<n):(f j).natAbs<=dK n f:=by
 have:=l5 f a;omega
def nbK(h:z.natAbs<=ja k (fun _=>2^30))(a:k<=9):nb z KB:=by
 rw[E4]at h;exact dG h (jL om (by have:=mO;omega))
def JX{p:Int}{piv:Nat}{x:Nat->Int}(m:1<=n)(g:n<=8)(v:0<p)(d:p<=9973)(b:piv<n)(o:∀j,j<n->0<=q j/\q j<=9972)(s:∀i,i<n->(x i).natAbs<=100000000) :
  mK n (fv n (yg n p piv q x)):=by
 have a:=LY g (Dp (piv:=piv) om d o s);refine⟨m,g,fun σ k e k' i j c l=>?_,E9 om b q x,fun R t u _ σ neg k e k' i j l c=>?_,fun r j w c=>?_⟩
 .have h:=zr a (k:=k') (i:=i) (j:=j) c e.sum;exact nbK h om
 .have h:=Bk (B:=wM (fv n (yg n p piv q x)) n R) (N:=n+1) (f:=fun _=>2^30) (fun r _=>a _) (fun r _=>iL om) (k:=k') (i:=i) (j:=j) l c e.row;exact nbK h om
 .have h:=D0 (fv n (yg n p piv q x) r) c;exact nbK (k:=1) (by rw[E4];exact bO h (a r)) om
noncomputable def FL(n:Nat):Nat:=jk KB n+jk KB n+9+KB
def KP.up{U:az}(a:KP n A R H U){i j:Nat}(b:i<n)(c:j<n+1):lr (n+1) (fun k r=>A r k) U j i=H i j:=by
 rw[<-a.mu i j om c];unfold lr mm;refine ay fun k d=>?_;show A i k*U k j=wM A n R i k*U k j;unfold wM vK;rw[aj b]
def KP.ubits(f:mK n A){R:Nat}{H U:az}(l:KP n A R H U)(t:∀i j,i<n+1->j<n+1->nb (H i j) KB){a c:Nat}(m:a<n+1)(s:c<n+1):nb (U a c) (jk KB n+jk KB n+9):=by
 have u:=mO;have o:∀i j,i<n+1->j<n+1->nb (wM A n R i j) KB:=fun i j d b=>f.hent _ _ (by have:=l.r2;unfold vK;split<;>omega) b
 have p:∀i j,i<n+1->j<n+1->nb (jV (n+1) (wM A n R) i j) (jk KB n):=fun i j d b=>by
  have h:=Ae (by have:=f.hn;omega) om o n i j d b
  unfold jV;split
  .exact h.neg
  .exact h
 have e:mm (n+1) (jV (n+1) (wM A n R)) H a c=det (n+1) (wM A n R)*U a c:=by
  have v:mm (n+1) (jV (n+1) (wM A n R)) H a c=mm (n+1) (jV (n+1) (wM A n R)) (mm (n+1) (wM A n R) U) a c:=ri (fun _ _=>rfl) fun k q=>(l.mu k c q s).symm;rw[v,<-nS];unfold mm;rw[ay (g:=fun k=>(if a=k then det (n+1) (wM A n R)else 0)*U k c) fun k q=>by
   show mm (n+1) (jV (n+1) (wM A n R)) (wM A n R) a k*U k c=_;rw[pD om _ m q]]
  rw[ay (g:=fun k=>(if a=k then 1 else 0)*(det (n+1) (wM A n R)*U k c)) fun k _=>by split<;>simp]
  rw[nj m]
 have r:nb (det (n+1) (wM A n R)*U a c) (jk KB n+jk KB n+9):=by
  rw[<-e];exact I6 (by have:=f.hn;omega) p (fun i j d b=>(t i j d b).mono (pA KB n)) m s
 unfold nb at r ⊢;rw[cN]at r;have:1<=(det (n+1) (wM A n R)).natAbs:=by have:=l.dt;omega
 exact dG (bO (vP (mM _).symm) (aq _ this)) r
def KP.herm(z:mK n A){R:Nat}{H U:az}(b:KP n A R H U)(y:∀r c,n<=r->r<n+n+1->c<n+1->A r c=if r=n+c then 1 else 0) :
  (∀a r,a<n+1->r<n+n+1->nb (lr (n+1) (fun k r=>A r k) U a r) (FL n))/\CM n (FL n) (fun i j=>lr (n+1) (fun k r=>A r k) U j i)/\(∀x,eP (n+1) (n+1) H x↔eP (n+1) (n+1) (wM A n R) x)/\∀i,i<n->H i n=0:=by
 obtain⟨d,M,p,F,l⟩:=b.tl;have G:=z.dlt b.r1 b.r2 b.dt;have B:∀i,i<n+1->0<d i/\d i<PB:=fun i f=>by
  have t:=p.pos i f;have w:=p.d_le f;omega
 have q:∀r c,r<c->c<n+1->H r c=0:=fun r c t w=>(l.done c w).1 r t;have s:∀c,c<n+1->H c c=d c:=fun c m=>(l.done c m).2.1;have u:∀c j,c<n+1->j<c->0<=H c j/\H c j<d c:=fun c j m o=>(l.done j om).2.2 c o m;have C:∀i j,i<n+1->j<n+1->nb (H i j) KB:=fun i j f o=>by
  have I:=B i f;rcases dp i j with h|h|h
  .rw[q i j h o];exact nb.zero _
  .subst h;rw[s i f];exact Gi om
  .have t:=u i j f h;exact Gi om
 have v:∀i j,i<n->j<n+1->nb (lr (n+1) (fun k r=>A r k) U j i) (FL n):=fun i j f o=>by
  rw[b.up f o];exact(C i j om o).mono (by unfold FL;omega)
 refine⟨fun a r D J=>?_,⟨fun r c t w E=>?_,fun c m=>?_,fun c j m o=>?_,v⟩,fun x=>?_,fun i f=>q i n f om⟩
 .rcases aB r n with h|h
  .exact v r a h D
  .have e:lr (n+1) (fun k r=>A r k) U a r=U (r-n) a:=by
    unfold lr;rw[ay (g:=fun k=>(if r-n=k then 1 else 0)*U k a) fun k K=>by
     show A r k*U k a=_;rw[y r k h J K];by_cases e:r=n+k
     .rw[aj e,aj om]
     .rw[ah e,ah om]]
    exact nj om _
   rw[e];exact(b.ubits z C om D).mono (by unfold FL;omega)
 .show lr (n+1) (fun k r=>A r k) U c r=0;rw[b.up w E];exact q r c t E
 .show 0<lr (n+1) (fun k r=>A r k) U c c;rw[b.up m om,s c om];exact(B c om).1
 .show 0<=lr (n+1) (fun k r=>A r k) U j c/\lr (n+1) (fun k r=>A r k) U j c<lr (n+1) (fun k r=>A r k) U c c;rw[b.up m om,b.up m om,s c om];exact u c j om o
 .exact l.span p x
def vB.members(f:mK n (fv n M))(h:vB n k (fv n M) B):∀y,eP n n B y↔eP n (n+1) M y:=by
 obtain⟨R,H,U,d,o,rfl⟩:=h.ex;intro y;obtain⟨_,_,g,l⟩:=d.herm f (fun r c e _ p=>by unfold fv;rw[ah om])
 have e:eP n n H y↔eP n (n+1) M y:=Mr (w:=wM (fv n M) n R) (fun i j a m=>by
  unfold wM vK fv;rw[aj a,aj a]) g l y
 rw[<-e];have key:∀i,i<n->∀c:gS,ap n (fun j=>lr (n+1) (fun k r=>fv n M r k) U j i*c j)=ap n (fun j=>H i j*c j):=fun i a c=>ay fun j m=>by rw[d.up a om]
 constructor
 .rintro⟨c,b⟩;exact⟨c,fun i a=>by rw[b i a,key i a c]⟩
 .rintro⟨c,b⟩;exact⟨c,fun i a=>by rw[b i a,<-key i a c]⟩
def vB.herm(h:vB n k (fv n M) B):CM n k B:=by
 obtain⟨R,H,U,b,a,rfl⟩:=h.ex;exact a

def Eo(n k:Nat)(M:az)(f:mK n (fv n M))(h:k<=1000000)(l:∀R H U,KP n (fv n M) R H U->(∀a r,a<n+1->r<n+n+1->nb (lr (n+1) (fun k r=>fv n M r k) U a r) k)/\CM n k (fun i j=>lr (n+1) (fun k r=>fv n M r k) U j i)) :
  ∀S args',eI S args' [aL n (n+1) M]->cJ 123 args' S (fun r S'=>∃b g B,r=.tup [.sl 1 b 0 n,.bool true]/\vB n k (fv n M) B/\iT S S' b g n n B):=fun S args' m=>by
 have o:cJ 123 [aL n (n+1) M] St.none (fun r S'=>∃b g B,r=.tup [.sl 1 b 0 n,.bool true]/\vB n k (fv n M) B/\dr S' b g n n B/\Gn S'):=(BR n k M f h l).less fun r S' ⟨b,g,B,e,d,c⟩=>⟨eJ S' b g n,iQ S' b g n,b,g,B,e,d,c.only.1,c.only.2⟩;refine(o.frame m ?_).mono ?_
 .rintro r S1 ⟨b,g,B,rfl,_,_,p⟩;exact⟨rfl,p⟩
 .rintro r S' ⟨S1,⟨b,g,B,rfl,d,c,_⟩,q,rfl⟩;exact⟨b,g,B,rfl,d,c.join q⟩
def JN{K:AV->Prop}(h:K (.sl 1 b 0 n)):li 28 (.sl 1 b 0 n) ae (some (ι n)) (some (ι n)) K:=by
 refine⟨rfl,0,n,rfl,rfl,⟨mS _,mS _,rfl⟩,lu _,ag _,?_⟩;show K (if (0:Nat)=0∨0<n then AV.sl 1 b (0+0) (n-0)else .lst 1 0 fun _=>.any)
 rw[aj (a9 rfl)];exact h
structure tz(n p:Nat)(H:az)(v:Nat->Nat)(B:az):Prop where
 ex:∃piv t inv,piv<n/\0<=t/\t<(p:Int)/\(p:Int)*p∣je n H (fun i=>if i=piv then((v i:Nat):Int)+p*t else v i) (fun i=>if i=piv then((v i:Nat):Int)+p*t else v i)/\inv=qM p (gM n H p (fun k=>v k) piv)/\gM n H p (fun k=>v k) piv≠0 /\
  mK n (fv n (yg n p piv (fun j=>gM n H p (fun k=>v k) j*inv%p) (fun i=>if i=piv then((v i:Nat):Int)+p*t else v i))) /\
  vB n (FL n) (fv n (yg n p piv (fun j=>gM n H p (fun k=>v k) j*inv%p) (fun i=>if i=piv then((v i:Nat):Int)+p*t else v i))) B
def Fr{P:Nat->Prop}(h:∃i,i<n/\P i):∃i,i<n/\P i/\∀j,j<i->¬P j:=by
 obtain⟨i,d,e⟩:=h
 induction i using kT with
 | _ i ih =>
  by_cases c:∃j,j<i/\P j
  .obtain⟨j,a,b⟩:=c;exact ih j a om b
  .exact⟨i,d,e,fun j a b=>c ⟨j,a,b⟩⟩
theorem Co{p:Int}{f:Nat->Int}:∀{n:Nat},(∀i,i<n->p∣f i)->p∣ap n f
 | 0,_=>jm p
 | n+1,h=>gQ (Co fun i a=>h i om) (h n om)
theorem zW{v:Nat->Int}:∀{n:Nat},(∀i,i<n->v i=0)->iu v n=0
 | 0,_=>rfl
 | n+1,h=>by
  simp only[iu,zW (n:=n) fun i a=>h i om,aE];exact h n om
def GN(q:eW n H)(r:jT (det n H) p)(s:oW p)(m:jo n p H v):∃piv,piv<n/\qK n H p (fun k=>v k) piv≠0/\∀i,i<piv->qK n H p (fun k=>v k) i=0:=by
 have b:∃i,i<n/\qK n H p (fun k=>v k) i≠0:=by
  refine dd fun c=>?_;have t:∀i,i<n->(p:Int)∣ap n fun j=>H i j*((v j:Nat):Int):=fun i d=>by
   refine dF (dd fun h=>c ⟨i,d,h⟩)
  have u:∀k,k<n->((v k:Nat):Int)=0:=fun k e=>by
   have w:mm n (jV n H) (mm n H (fun j _=>((v j:Nat):Int))) k 0=det n H*((v k:Nat):Int):=by
    rw[<-nS];unfold mm;rw[ay (g:=fun j=>(if k=j then 1 else 0)*(det n H*((v j:Nat):Int))) fun j f=>by
     show mm n (jV n H) H k j*((v j:Nat):Int)=_;rw[pD q.one _ e f];split<;>simp]
    rw[nj e]
   have l:(p:Int)∣det n H*((v k:Nat):Int):=by
    rw[<-w];exact Co fun i d=>ck (t i d)
   rcases s.1.mul _ _ l with h|h
   .exact absurd (cS h) r.2.2.2
   .have o:=m.lt k e;have a:=cS h;rw[dz om om]at a;exact a
  have:=m.lead;rw[zW u]at this;omega
 obtain⟨i,x,o,a⟩:=Fr b;exact⟨i,x,o,fun j f=>dd fun h=>a j f h⟩
def DV(S:St)(n p:Nat)(H:az)(v:Nat->Nat)(hF:eW n H)(hg:jT (det n H) p)(hp:oW p)(hL:jo n p H v)(hG:lq S) :
  cJ 59 [av n n H,ι p,aK n (fun k=>v k)] S (fun r S'=>∃b g B S1,r=.tup [.sl 1 b 0 n,ι 0]/\tz n p H v B/\dy S S1/\iT S1 S' b g n n B):=by
 have h1:=hF.one;have hn:=hF.eight;have hp17:=hp.2;obtain⟨piv,m,C,V⟩:=GN hF hg hp hL;refine iZ func59 ntmps59 results59 ?_;simp -dsimp only[go_sem,aa];refine(KZ S n p piv H v hF hg hp hL hG m C V).mono ?_;rintro _ S1 ⟨bx,t,_,L,ht1,hnm,rfl,W,Y⟩;simp -dsimp only[go_sem,aa,aP];have hw:∀i,gM n H p (fun k=>v k) i=qK n H p (fun k=>v k) i:=yq n H p _;have hwr:=qW (n:=n) (H:=H) (p:=(p:Int)) (v:=fun k=>((v k:Nat):Int)) om;have hwp:0<gM n H p (fun k=>v k) piv%p/\gM n H p (fun k=>v k) piv%p<p:=by
  have:=hwr piv;rw[dz this.1 this.2];have h0:gM n H p (fun k=>v k) piv≠0:=by rw[hw];exact C
  omega
 have hnd:¬(p:Int)∣gM n H p (fun k=>v k) piv:=fun h=>by have:=cS h;omega
 refine(Bj n piv H p (fun k=>v k) _ h1 om om om m (by rw[hw];exact C) (fun i F=>by rw[hw];exact V i F) (hp.1.gcd' hnd) rfl S1 _ (cC _ _)).mono ?_
 rintro _ S2 ⟨bl,gl,rfl,D,Z,nl2,nlg2⟩;generalize hinv:qM p (gM n H p (fun k=>v k) piv)=inv at *;have hx2:=Z.has W;simp -dsimp only[go_sem,du,gF];refine JN ?_
 try simp -dsimp only[go_sem]
 refine ax.intro fun b41 N=>?_
 try simp -dsimp only[go_sem]
 have G:dy S S2:=Y.trans Z;have nbl:S bl=ae:=Y.none nl2;have P:cY 29 1 S S2 (.sl 1 bl 0 n) n (fun j=>.sl 1 (gl j) 0 n):=⟨G,aR ⟨bl,nbl,rfl,D.outer⟩⟩;have hxf:=P.fresh N;have I:=P.upd (G.none N) hxf ⟨29,1,1,fun j=>[AV.sl 1 bx 0 n].getD j .any⟩;refine cY.app29 (v:=.sl 1 bx 0 n) I om (by simp[ei]) (aR ⟨_,_,_,rfl,ca,rfl,fun h=>hxf _ h rfl⟩) ?_
 intro bc S3 y z _;generalize o:yg n p piv (fun j=>gM n H p (fun k=>v k) j*inv%p) (fun i=>if i=piv then((v i:Nat):Int)+p*t else v i)=M
 have hcols:a6 S3 bc 29 1 (n+1) (fun j=>.sl 1 (if j=n then bx else gl j) 0 n):=by
  rcases y.2 with⟨h,_⟩|⟨c,_,e,h⟩
  .omega
  .cases e
   exact h.congr fun j _=>by by_cases e:j=n<;>simp[e]
 have hcol:∀c,c<n+1->a6 S3 (if c=n then bx else gl c) 2 1 n (fun i=>ι (M i c)):=fun c hc=>by
  have via:∀{b:Nat} {g:Nat->AV},a6 S2 b 2 1 n g->a6 S3 b 2 1 n g:=fun {b g} h=>by
   have n41:b≠b41:=a6.fresh h N;have nbl':b≠bl:=(a6.ne D.outer h dc).symm
   obtain⟨g',k,k2⟩:=h;exact⟨g',z b _ (by rw[aG n41];exact k) (fun hb=>nbl' (d9.1 hb)),k2⟩
  by_cases e:c=n
  .subst e;rw[aj rfl];refine(via hx2).congr fun i F=>?_;rw[<-o];unfold yg;simp only[cB,aH]
  .rw[ah e];refine(via (D.row c om)).congr fun i F=>?_;rw[<-o];unfold yg;rw[aj om]
 have hE03:dy S S3:=y.1;have J:∀j,j<n->0<=gM n H p (fun k=>v k) j*inv%p/\gM n H p (fun k=>v k) j*inv%p<=9972:=fun j _=>by
  have a:=aV (gM n H p (fun k=>v k) j*inv) (show(p:Int)≠0 by omega)
  have b:=aU (gM n H p (fun k=>v k) j*inv) (show(0:Int)<p by omega)
  omega
 have hpt:0<=(p:Int)*t/\(p:Int)*t<=99450756:=by
  have:=cw (show(p:Int)<=9973 by omega) (om:t<=9972) L om
  exact⟨cD om L,om⟩
 have hxb:∀i,i<n->(if i=piv then((v i:Nat):Int)+p*t else v i).natAbs<=100000000:=fun i F=>by
  have:=hL.lt i F;split<;>omega
 have hP:mK n (fv n M):=by
  rw[<-o];exact JX h1 hn om om m J hxb
 have hMb:∀i j,i<n->j<n+1->-9223372036854775808<=M i j/\M i j<=9223372036854775807:=fun i j F hj=>by
  have:=Dp (piv:=piv) (p:=(p:Int)) om om J hxb i j F hj;rw[o]at this;omega
 clear P I y z D hx2 W;simp -dsimp only[go_sem]
 repeat refine an ?_
 refine ax.intro fun br fr=>?_;simp only[go_sem];refine cA (fun O S=>∃(i:Nat) (g:Nat->Nat),i<=n/\O 11=.sl 1 bc 0 (n+1)/\O 12=.sl 1 br 0 n/\O 47=ι n/\O 48=ι i/\dy S3 S /\
  a6 S br 29 1 n (fun a=>if a<i then .sl 1 (g a) 0 (n+1)else .nil)/\(∀a,a<i->a6 S (g a) 2 1 (n+1) (fun c=>ι (M a c)))/\∀a c,a<i->c<i->g a=g c->a=c) (fun O S=>n-bS (O 48)) ?_ ?_
 .simp only[go_sem];exact⟨0,om,rfl,(dy.refl S3).upd fr _,fun _=>0,a6.here fun _ _=>by simp,fun a l=>om,fun a c l=>om⟩
 rintro Q' hQ' O S4 ⟨i,g,F,q,s,u,w,f,Q,K,hI⟩;by_cases A:i<n
 .simp only[go_sem,q,u,w,A];refine cA (fun O S'=>∃(j:Nat) (x:AV),j<=n+1/\O 11=.sl 1 bc 0 (n+1)/\O 12=.sl 1 br 0 n/\O 13=ι i/\O 47=ι n/\O 48=ι i/\O 51=.sl 1 bc 0 (n+1)/\O 52=ι ((n+1:Nat):Int)/\O 53=ι j/\dy S3 S' /\
   a6 S' br 29 1 n (fun a=>if a<i then .sl 1 (g a) 0 (n+1)else if a=i then x else .nil)/\(∀a,a<i->a6 S' (g a) 2 1 (n+1) (fun c=>ι (M a c))/\¬dU x (g a))/\cY 2 1 S3 S' x j (fun c=>ι (M i c))) (fun O S=>n+1-bS (O 53)) ?_ ?_
  .simp only[go_sem,q,s,u,w];exact⟨0,om,rfl,f,.nil,Q.congr fun a _=>by grind,fun a l=>⟨K a l,by rintro⟨_,_,_,e⟩;cases e⟩,cY.nil f _⟩
  clear Q K f q s u w;rintro Q'' hQ'' O S' ⟨j,x,hj,q,s,e13,u,w,e51,e52,e53,f,Q,K,hX⟩;by_cases E:j<n+1
  .obtain⟨gc,uc,vc⟩:=id (f.has hcols);obtain⟨gd,ud,vd⟩:=id (f.has (hcol j E));obtain⟨g1,u1,v1⟩:=id Q;have xc:gc j=.sl 1 (if j=n then bx else gl j) 0 n:=vc j E
   have xd:gd i=ι (M i j):=vd i A;have x1:g1 i=x:=by rw[v1 i A];simp
   simp -dsimp only[go_sem,aa,e51,e52,e53,E,uc,xc];refine fm 11 kr ?_
   simp -dsimp only[go_sem,aa,s,e13,A,ud,xd,u1,x1];refine cY.app2 hX om (show ei 1 (ι (M i j)) by simp[ei]) (a9 ⟨_,rfl,rfl⟩) ?_
   intro c S7 T hk1 z;have hxr:=hX.other u1 om;have u1':=hk1 br _ u1 hxr;simp only[*,go_sem,aa,aI (om:j<1000000),bS]
   have hrS:S3 br=ae:=fr;refine⟨⟨j+1,om,rfl,T.1.upd hrS _,.sl 1 c 0 (j+1),a6.here fun a l=>?_,fun a l=>?_,?_⟩,om⟩
   .have:=v1 a l;grind [aQ]
   .obtain⟨r1,r2⟩:=K a l;have hgr:g a≠br:=a6.ne r1 (a6.of u1) om;refine⟨(r1.via fun X hX=>hk1 _ _ hX r2).upd hgr _,fun hb=>?_⟩;rw[d9]at hb;rw[<-hb]at z;rcases z with h|h
    .exact r2 h
    .exact a6.fresh r1 h rfl
   .refine(T.upd hrS (fun d hd e=>?_) _).congr (fun a l=>by grind)
    rw[e]at hd;exact T.other u1' om hd
  .simp only[go_sem,aa,e51,e52,e53,E];rw[hQ''];simp only[go_sem,q,s,u,w,aI (om:i<1000000),bS]
   obtain rfl:j=n+1:=om
   rcases hX.2 with⟨h0,_⟩|⟨c,_,rfl,hC⟩
   .omega
   refine⟨⟨i+1,om,rfl,f,fun a=>if a=i then c else g a,Q.congr fun a l=>by grind,fun a l=>?_,fun a d l hd e=>?_⟩,om⟩
   .by_cases e:a=i
    .subst e;simp only[aE];exact hC
    .simp only[e,aH];exact(K a om).1
   .have k1:=fun a l=>(K a l).2;simp only[d9]at k1
    grind
 have hin:i=n:=om
 rw[hin]at Q K hI;have hIM:eh S4 br g n (n+1) M:=⟨Q.congr fun a l=>by rw[aj l],K,hI⟩
 simp only[go_sem,q,u,w,A];rw[hQ'];simp -dsimp only[go_sem,aa,s];refine(o0 n (n+1) M h1 om om om hMb _ _ (eI.one hIM.vr.va)).mono ?_;rintro _ S5 ⟨bm,gm,rfl,hM5⟩;simp -dsimp only[go_sem,aa];have hKB:=mO;have hbb:=yJ KB om n om;refine(Eo n (FL n) M hP (by unfold FL;omega) (fun R H' U hT=>?_) S5 _ (eI.one hM5.1.vr.va)).mono ?_
 .obtain⟨a,b,_,_⟩:=hT.herm hP (fun r c h1 _ h3=>by unfold fv;rw[ah om])
  exact⟨a,b⟩
 rintro _ S6 ⟨b,gB,B,rfl,hB,hM6⟩;simp only[go_sem];exact⟨b,rfl,gB,B,⟨piv,t,inv,m,L,ht1,hnm,hinv.symm,by rw[hw];exact C,by rw[o];exact hP,by rw[o];exact hB⟩,S5,(hE03.trans f).trans hM5.2.1,hM6⟩

theorem Cj{v:Nat->Int}:∀{n:Nat},iu v n=1->∃k,k<n/\v k=1
 | 0,h=>by simp[iu]at h
 | n+1,h=>by
  simp only[iu]at h;split at h
  .exact⟨n,om,h⟩
  .obtain⟨k,b,a⟩:=Cj h;exact⟨k,om,a⟩

def iF(v:Nat->Nat)(p:Int)(piv:Nat)(t:Int):gS:=fun i=>if i=piv then((v i:Nat):Int)+p*t else v i
def OF(b:oW p){x:Int}(d:0<x)(c:x<p):∃iv:Int,(p:Int)∣iv*x-1:=by
 have h:=b.1.inv (a:=x) (fun h=>by have:=cS h;rw[dz om c]at this;omega)
 exact⟨qM p x,by rwa [bU]⟩
def tz.char(l:oW p)(h:tz n p H v B) :
  ∃(piv:Nat) (t:Int),piv<n/\gM n H p (fun k=>v k) piv≠0/\(p:Int)*p∣je n H (iF v p piv t) (iF v p piv t)/\∀y,eP n n B y↔BK n p (gM n H p (fun k=>v k)) (iF v p piv t) y:=by
 have m:=l.2;obtain⟨piv,t,inv,b,o,r,g,d,e,s,u⟩:=h.ex;refine⟨piv,t,b,e,g,fun y=>?_⟩;have f:=qW (n:=n) (H:=H) (p:=(p:Int)) (v:=fun k=>((v k:Nat):Int)) om;have i:=dz (f piv).1 (f piv).2;have c:=l.1.inv1 (a:=gM n H p (fun k=>v k) piv) (fun x=>e (by have:=cS x;omega))
 rw[<-d,i]at c;rw[u.members s y];refine Dn (p:=(p:Int)) om (piv:=piv) b (w:=gM n H p (fun k=>v k)) (q:=fun j=>gM n H p (fun k=>v k) j*inv%p) (inv:=inv) ?_ (fun j C z=>?_) y
 .refine dF ?_;rw[Int.sub_emod,bU,c,dz (show(0:Int)<=1 by omega) om]
  simp
 .refine dF ?_;have A:(gM n H p (fun k=>v k) j*inv%p*gM n H p (fun k=>v k) piv)%p=gM n H p (fun k=>v k) j%p:=by
   rw[eY,jN _ (iJ _),<-eY,et,eY,bU inv,c,ir,jN _ (iJ _)]
  rw[Int.sub_emod,A,Int.sub_self,Int.zero_emod]
def Lr(n:Nat)(H:az)(p:Int)(v:gS)(i:Nat):p∣(ap n fun j=>H i j*v j)-gM n H p v i:=by
 rw[yq];exact Int.dvd_self_sub_emod
def zV{p:Int}{v l:gS}(a:∀i,i<n->p∣l i-v i)(i:Nat):p∣(ap n fun j=>H i j*l j)-gM n H p v i:=by
 have e:(ap n fun j=>H i j*l j)-gM n H p v i=((ap n fun j=>H i j*v j)-gM n H p v i)+ap n fun j=>H i j*(l j-v j):=by
  have:(ap n fun j=>H i j*l j)=(ap n fun j=>H i j*v j)+ap n fun j=>H i j*(l j-v j):=by
   rw[<-dD];exact ay fun j _=>by grind
  omega
 rw[e];exact gQ (Lr n H p v i) (jd fun j b=>ck (a j b))
def wu{p:Int}{piv:Nat}(i:Nat):p∣iF v p piv t i-(v i:Nat):=by
 unfold iF;split
 .exact⟨t,om⟩
 .exact⟨0,om⟩
def Fc(a:jo n p H v):(p:Int)∣ap n fun i=>gM n H p (fun k=>v k) i*(v i:Nat):=by
 refine dF ?_;rw[<-a.norm];unfold eH;refine ni n _ _ p fun i _=>?_;rw[yq];show((ap n fun j=>H i j*((v j:Nat):Int))%p*_)%p=_;rw[eY,jN _ (iJ _),<-eY]
def J3{l:gS}(a:jo n p H v)(b:∀i,i<n->(p:Int)∣l i-(v i:Nat)):(p:Int)∣ap n fun i=>gM n H p (fun k=>v k) i*l i:=by
 have e:(ap n fun i=>gM n H p (fun k=>v k) i*l i)=(ap n fun i=>gM n H p (fun k=>v k) i*(v i:Nat))+ap n fun i=>gM n H p (fun k=>v k) i*(l i-(v i:Nat)):=by
  rw[<-dD];exact ay fun i _=>by grind
 rw[e];exact gQ (Fc a) (jd fun i c=>ck (b i c))
def tz.tri(h:tz n p H v B):(∀r c,r<c->c<n->B r c=0)/\(∀r,r<n->0<B r r)/\(∀c j,c<n->j<c->0<=B c j/\B c j<B c c)/\sM n n B:=by
 obtain⟨piv,t,inv,_,_,_,_,_,_,g,e⟩:=h.ex;have a:=e.herm;exact⟨fun r c b f=>a.up r c b om om,a.pos,a.rng,fun r d=>⟨fun j b f=>a.up r j b d om,a.pos r d⟩⟩
def tz.gram(d:eW n H)(e:oW p)(h:tz n p H v B){i j:Nat}(f:i<n)(g:j<n):(p:Int)*p∣mm n (mm n (fun i j=>B j i) H) B i j:=by
 obtain⟨piv,t,c,l,b,a⟩:=h.char e;rw[ug];exact Fl d.red.pd.sym (fun i _=>zV (fun k _=>wu k) i) b ((a _).1 (eP.col f)) ((a _).1 (eP.col g))
def tz.unit(c:oW p)(h:tz n p H v B){k:Nat}(f:k<n):eP n n B (gH ((p:Int)*p) k):=by
 obtain⟨piv,t,b,d,e,a⟩:=h.char c;refine(a _).2 ⟨0,gH p k,fun i _=>?_,?_⟩
 .unfold gH;split<;>simp
 .refine jd fun i _=>ck ?_;unfold gH;split
  .exact iJ _
  .exact jm _
def tz.ent(f:oW p)(h:tz n p H v B){i j:Nat}(d:i<n)(g:j<n):0<=B i j/\B i j<=99460729:=by
 have c:=f.2;obtain⟨k,l,m,o⟩:=h.tri;have s:B i i<=99460729:=by
  have e:=(TL.of_tri o).dvd _ (h.unit f d) i d (fun r t=>by unfold gH;rw[ah om])
  unfold gH at e;rw[aj rfl]at e;have q:(0:Int)<p*p/\(p:Int)*p<=99460729:=by
   rw[<-aX];have a:=bB c.2 c.2;have b:=bB c.1 c.1;omega
  have:=mg q.1 e;omega
 rcases dp i j with h|h|h
 .rw[k i j h g];omega
 .subst h;have:=l i d;omega
 .have:=m i j d h;omega
def Pj{u v:gS}{a:Nat}(f:n<=8)(g:∀i j,i<n->j<n->(H i j).natAbs<=a)(h:∀i,i<n->(u i).natAbs<=b)(k:∀i,i<n->(v i).natAbs<=c):(je n H u v).natAbs<=64*(a*b*c):=by
 have l:∀i,i<n->(ap n fun j=>H i j*v j).natAbs<=n*(a*c):=fun i m=>by
  refine bO (vW _ _) (qu fun j d=>?_);rw[cN];exact bB (g i j m d) (k j d)
 have o:(je n H u v).natAbs<=n*(n*(a*c)*b):=by
  refine bO (vW _ _) (qu fun j d=>?_);rw[cN];exact bB (l j d) (h j d)
 refine bO o ?_;have p:n*n<=8*8:=bB f f;have q:=aq (a*b*c) p;have e:n*(n*(a*c)*b)=n*n*(a*b*c):=by grind
 omega
def Ot{piv:Nat}(m:eW n H)(f:oW p)(o:jo n p H v)(d:piv<n)(g:qK n H p (fun k=>v k) piv≠0):∃t:Int,0<=t/\t<p/\(p:Int)*p∣je n H (iF v p piv t) (iF v p piv t):=by
 have l:=f.2;have e:0<=qK n H p (fun k=>v k) piv/\qK n H p (fun k=>v k) piv<p:=⟨aV _ om,aU _ om⟩;generalize i:qK n H p (fun k=>v k) piv=sl at *;have h2s:0<2*sl%p/\2*sl%p<p:=by
  have a:=aV (2*sl) (show(p:Int)≠0 by omega)
  have b:=aU (2*sl) (show(0:Int)<p by omega)
  have c:2*sl%p≠0:=fun h=>by
   rcases f.1.mul 2 sl (dF h)with h|h
   .have:=mg om h;omega
   .exact g (by have:=cS h;rwa [dz e.1 e.2]at this)
  omega
 have j:=f.1.inv1 (a:=2*sl) (fun h=>by have:=cS h;omega)
 exact⟨_,aV _ om,aU _ om,Ci m.red.pd.sym d (show(0:Int)<p by omega) i j rfl o.norm rfl⟩

def LC(h:∀i,i<n->0<=f i):0<=ap n f:=by
 induction n with
 | zero=>exact mS _
 | succ n ih =>
  have a:=ih fun i b=>h i om;have c:=h n om;show 0<=ap n f+f n;omega
def LD(h:∀i,i<n->0<=f i){i:Nat}(a:i<n):f i<=ap n f:=by
 induction n with
 | zero=>omega
 | succ n ih =>
  have b:=LC (n:=n) (f:=f) fun i a=>h i om;have c:=h n om;show f i<=ap n f+f n;by_cases e:i=n
  .subst e;omega
  .have:=ih (fun i a=>h i om) om;omega
def JH(b:m<=n):ap n (fun j=>if j<m then f j else 0)=ap m f:=by
 induction n with
 | zero =>
  obtain rfl:m=0:=om
  rfl
 | succ n ih =>
  by_cases e:m=n+1
  .subst e;exact ay fun i a=>by rw[aj a]
  .show ap n _+(if n<m then f n else 0)=_
   rw[ih om,ah om,Int.add_zero]
def Ck(p:sM n n B)(d:sM n n B')(q:∀c j,c<n->j<c->0<=B c j/\B c j<B c c)(u:∀c j,c<n->j<c->0<=B' c j/\B' c j<B' c c)
  (C:∀y,eP n n B y↔eP n n B' y):∀i j,i<n->j<n->B i j=B' i j:=by
 have t:=TL.of_tri p;have t':=(TL.of_tri d).congr t.lat C;have v:∀i,i<=n->EG B n i=EG B' n i:=fun i a=>t.uniq t' (n-i) i om a;have hdiag:∀i,i<n->B i i=B' i i:=fun i a=>by
  have f:=t.step i a;have g:=t'.step i a;have D:=t.M_pos n (i+1) om om;rw[v i om,v (i+1) om]at f;rw[v (i+1) om]at D;rw[f]at g;exact Int.eq_of_mul_eq_mul_right om g
 intro i j a s;rcases aB i j with h|h
 .rw[(p i a).1 j h s,(d i a).1 j h s]
 have E:eP n n B (fun r=>1*B r j+(-1)*B' r j):=by
  obtain⟨c,F⟩:=(C _).2 (eP.col (n:=n) (B:=B') s);obtain⟨G,w⟩:=eP.col (n:=n) (B:=B) s;refine⟨fun k=>1*G k+(-1)*c k,fun r q=>?_⟩;have f:=F r q;have g:=w r q;dsimp only at f g ⊢;rw[f,g,<-o9];exact ay fun k _=>by grind
 have key:∀m i,i<n->j<=i->i-j<=m->∀r,r<=i->B r j=B' r j:=by
  intro m
  induction m with
  | zero =>
   intro i a l H r o;obtain rfl:i=j:=om
   rcases aB r i with e|e
   .rw[(p r om).1 i e a,(d r om).1 i e a]
   .obtain rfl:r=i:=om
    exact hdiag r a
  | succ m ih =>
   intro i a l H r o;rcases aB j i with e|e
   .have ih':=ih (i-1) om om om;rcases aB r i with I|I
    .exact ih' r om
    .obtain rfl:r=i:=om
     have J:=t.dvd _ E r a (fun k M=>by rw[ih' k om];omega)
     have N:=q r j a e;have K:=u r j a e;rw[<-hdiag r a]at K;obtain⟨z,L⟩:=J;have b:=(p r a).2;have x:z=0:=by
      rcases eM z 0 with A|A|A
      .have:=aW (om:z<=-1) (bn b)
       omega
      .exact A
      .have:=aW (om:1<=z) (bn b)
       omega
     rw[x]at L;omega
   .exact ih i a l om r o
 exact key (i-j) i a h (ag _) i (ag _)
def Pd.bil_pos(h:Pd A n){x:gS}{j:Nat}(k:j<n)(f:x j≠0):0<je n A x x:=by
 obtain⟨m,rfl⟩:∃m,n=m+1:=⟨n-1,om⟩
 obtain⟨E,e⟩:∃E:Int,∀i,i<m+1->A i i<=E:=⟨ap (m+1) (fun i=>A i i),fun i b=>by
  have:=LD (fun i b=>bn (h.diag b)) b;exact this⟩
 have l:=h.coord (m-j) x j e om;have o:0<x j*x j:=by
  rcases eM (x j) 0 with a|a|a
  .have:=Int.mul_pos_of_neg_of_neg a a;exact this
  .exact absurd a f
  .exact jM a a
 have c:0<=E:=by have:=e 0 om;have:=h.diag (om:0<m+1);omega
 have g:0<=E^m:=Int.pow_nonneg c;rcases iI 0 (je (m+1) A x x)with d|d
 .exact d
 .have:=aW d g;omega
theorem EM{A:az}{k:Nat}(b:∀j,j<=k->det j A≠0)(d:∀c,A k c=dW k c):∀j,j<=k->(∀c,j<=c->c<k->ci A j (k-j) (c-j)=0)/\ci A j (k-j) (k-j)=det j A
 | 0,_=>by
  refine⟨fun c _ m=>?_,?_⟩
  .rw[eQ,dC,dC,d];unfold dW;rw[ah om]
  .rw[eQ,dC,d];simp[dW,det]
 | j+1,n=>by
  obtain⟨i,o⟩:=EM b d j om;have e:=i j (ag _) om;rw[bQ]at e;have st:=fun c (m:j+1<=c)=>ij (A:=A) (k:=j) (fun x p=>b x om) (k-(j+1)) (c-(j+1));have l:k-(j+1)+1=k-j:=om
  refine⟨fun c f g=>?_,?_⟩
  .have a:=st c f;rw[l,(om:c-(j+1)+1=c-j),e,i c om g]at a
   simp only[kH,lJ,Int.sub_zero]at a;rcases fH.1 a.symm with h|h
   .exact absurd h (b j om)
   .exact h
  .have a:=st k n;rw[l,e,o]at a;simp only[lJ,Int.sub_zero,cG]at a;refine cH (b j om) ?_;rw[<-a,bU]
def MN(f:∀j,j<=k->det j A≠0):qo (k+1) A k k=det k A:=by
 have e:∀j,j<=k->det j (setRow A k (dW k))=det j A:=fun j d=>aZ fun a b g _=>by simp only[setRow];rw[ah om]
 have h:=(EM (A:=setRow A k (dW k)) (k:=k) (fun j d=>by rw[e j d];exact f j d) (fun c=>by simp only[setRow,aE]) k (ag _)).2
 rw[bQ,cG,e k (ag _)]at h;exact h
def Pd.of_pos(o:∀a b,a<n->b<n->A a b=A b a)(p:∀x:gS,(∃j,j<n/\x j≠0)->0<je n A x x):Pd A n:=by
 refine⟨o,fun k=>?_⟩
 induction k using kT with
 | _ k ih =>
  intro g
  match k,g,ih with
  | 0,_,_=>simp[det]
  | k+1,g,ih =>
   have q:∀j,j<=k->det j A≠0:=fun j s=>by have:=ih j om om;omega
   have h:=MN q;have r:=ih k om om;have d:=p (fun j=>if j<k+1 then qo (k+1) A k j else 0) ⟨k,om,by rw[aj om,h];omega⟩
   have e:je n A (fun j=>if j<k+1 then qo (k+1) A k j else 0) (fun j=>if j<k+1 then qo (k+1) A k j else 0)=det (k+1) A*det k A:=by
    have c:∀i,i<k+1->(ap n fun j=>A i j*(if j<k+1 then qo (k+1) A k j else 0))=if k=i then det (k+1) A else 0:=fun i l=>by
     rw[<-tY A (om:k<k+1) l,<-JH (om:k+1<=n)]
     exact ay fun j _=>by split<;>simp
    unfold je;rw[cI k om (fun i l f=>?_)]
    .dsimp only;rw[c k om,aj rfl,aj om,h]
    .dsimp only;by_cases m:i<k+1
     .rw[c i m,ah (ai f),lJ]
     .rw[ah m,kH]
   rw[e]at d;rw[bU]at d;exact qh r d
def NT{Q:az}(t:eW n H)(y:oW p)(z:∀r c,r<c->c<n->B r c=0)(A:∀r,r<n->0<B r r)(C:∀i j,i<n->j<n->mm n (mm n (fun i j=>B j i) H) B i j=p*p*Q i j):Pd Q n:=by
 have D:=y.2.1;have l:(0:Int)<p*p:=jM om om;have u:=t.red.pd.sym;have m:∀i j,i<n->j<n->(p:Int)*p*Q i j=je n H (fun r=>B r i) (fun r=>B r j):=fun i j g o=>by rw[<-C i j g o,ug]
 refine Pd.of_pos (fun a b f d=>?_) fun x ⟨j,o,q⟩=>?_
 .refine cH (show(p:Int)*p≠0 by omega) ?_
  rw[m a b f d,m b a d f,jl u]
 .obtain⟨i,g,s,h⟩:=Fr (P:=fun j=>x j≠0) ⟨j,o,q⟩;have e:(p:Int)*p*je n Q x x=je n H (fun r=>ap n (fun a=>x a*B r a)) (fun r=>ap n (fun a=>x a*B r a)):=by
   rw[uL n H x (fun a r=>B r a)];unfold je;rw[<-cF];refine ay fun a f=>?_;have v:=FM u x (fun a r=>B r a) (fun r=>B r a) n;unfold je at v;rw[v,bU (x a),<-et,<-cF];congr 1;refine ay fun b d=>?_;have w:=m a b f d;unfold je at w;rw[<-w];grind
  have E:(fun r=>ap n (fun a=>x a*B r a)) i≠0:=by
   show ap n (fun a=>x a*B i a)≠0;rw[cI i g (fun a f F=>?_)]
   .intro G;rcases fH.1 G with k|k
    .exact s k
    .have:=A i g;omega
   .rcases aB a i with k|k
    .have:x a=0:=dd fun I=>h a k I;rw[this,lJ]
    .rw[z i a om f,kH]
  have d:=t.red.pd.bil_pos (x:=fun r=>ap n (fun a=>x a*B r a)) g E;rw[<-e]at d;exact qh l d

def p6(a:oW p):3<=p/\p<=9973:=a.2
def p6z(e:oW p):9<=(p:Int)*p/\(p:Int)*p<=99460729:=by
 obtain⟨c,d⟩:=p6 e;rw[<-aX];have a:=bB c c;have b:=bB d d;omega
def wL(n:Nat)(H:az)(p:Nat)(v:Nat->Nat):gS:=gM n H p (fun k=>v k)
structure vO(n p:Nat)(H:az)(v:Nat->Nat)(B:az):Prop where
 tri:sM n n B
 red:∀c j,c<n->j<c->0<=B c j/\B c j<B c c
 piv:∃i,i<n/\wL n H p v i≠0
 lat:∃l:gS,(∀i,i<n->(p:Int)∣l i-(v i:Nat))/\(p:Int)*p∣je n H l l/\∀y,eP n n B y↔BK n p (wL n H p v) l y
def tz.nbB(a:oW p)(h:tz n p H v B):vO n p H v B:=by
 obtain⟨piv,t,b,c,d,e⟩:=h.char a;obtain⟨_,_,f,g⟩:=h.tri;exact⟨g,f,⟨piv,b,c⟩,iF v p piv t,fun i _=>wu i,d,e⟩
def Oq(d:eW n H)(g:oW p){l x:gS}(k:∀i,i<n->(p:Int)∣x i-(v i:Nat))(f:(p:Int)*p∣je n H x x)(t:∀i,i<n->(p:Int)∣l i-(v i:Nat))(m:(p:Int)*p∣je n H l l) :
  ∃a:gS,(∀i,i<n->l i=x i+p*a i)/\(p:Int)∣ap n fun i=>wL n H p v i*a i:=by
 have o:=p6 g;have q:∀i,i<n->l i=1*x i+p*((l i-x i)/p):=fun i b=>by
  rw[iM]
  .omega
  .have u:=t i b;have w:=k i b;rw[(om:l i-x i=(l i-(v i:Nat))-(x i-(v i:Nat)))]
   exact Im u w
 refine⟨fun i=>(l i-x i)/p,fun i b=>by have:=q i b;dsimp only;omega,?_⟩
 generalize y:(fun i=>(l i-x i)/(p:Int))=a;have c:∀i,i<n->l i=1*x i+p*a i:=fun i b=>by rw[<-y];exact q i b
 rw[se c c,lE,jl d.red.pd.sym x,jl d.red.pd.sym a (fun i=>1*x i+p*a i),lE,lE,jl d.red.pd.sym x a]at m;have z:(p:Int)∣2*je n H a x:=by
  obtain⟨r,A⟩:=f;obtain⟨s,B⟩:=m;refine⟨s-r-je n H a a,cH (show(p:Int)≠0 by omega) ?_⟩
  rw[A]at B
  grind
 have C:(p:Int)∣je n H a x:=by
  rcases g.1.mul _ _ z with h|h
  .have:=mg om h;omega
  .exact h
 have e:(ap n fun i=>wL n H p v i*a i)=je n H a x-ap n fun i=>((ap n fun j=>H i j*x j)-wL n H p v i)*a i:=by
  unfold je;rw[<-ll];exact ay fun i _=>by grind
 show(p:Int)∣ap n fun i=>wL n H p v i*a i;rw[e];exact Im C (jd fun i _=>eF (zV k i))
def Fj(g:eW n H)(j:oW p){l x:gS}(k:∀i,i<n->(p:Int)∣x i-(v i:Nat))(d:(p:Int)*p∣je n H x x)(m:∀i,i<n->(p:Int)∣l i-(v i:Nat))(o:(p:Int)*p∣je n H l l)(y:gS)(h:BK n p (wL n H p v) l y):BK n p (wL n H p v) x y:=by
 obtain⟨a,q,r⟩:=Oq g j k d m o;obtain⟨c,b,s,e⟩:=h;refine⟨c,fun i=>b i+c*a i,fun i f=>by rw[s i f,q i f];grind,?_⟩
 rw[tM];exact gQ e (ck r)
def vO.uniq(e:eW n H)(f:oW p)(h:vO n p H v B)(h':vO n p H v B'):∀i j,i<n->j<n->B i j=B' i j:=by
 obtain⟨l,g,k,m⟩:=h.lat;obtain⟨l',a,b,c⟩:=h'.lat;exact Ck h.tri h'.tri h.red h'.red fun y=>⟨fun d=>(c y).2 (Fj e f a b g k y ((m y).1 d)),fun d=>(m y).2 (Fj e f g k a b y ((c y).1 d))⟩
def vO.unit(h:vO n p H v B){k:Nat}:eP n n B (gH ((p:Int)*p) k):=by
 obtain⟨l,_,_,a⟩:=h.lat;refine(a _).2 ⟨0,gH p k,fun i _=>?_,?_⟩
 .unfold gH;split<;>simp
 .refine jd fun i _=>ck ?_;unfold gH;split
  .exact iJ _
  .exact jm _
def vO.ent(d:oW p)(h:vO n p H v B){i j:Nat}(b:i<n)(e:j<n):0<=B i j/\B i j<=(p:Int)*p:=by
 have f:=p6z d;have g:B i i<=(p:Int)*p:=by
  have c:=(TL.of_tri h.tri).dvd _ (h.unit (k:=i)) i b (fun r l=>by unfold gH;rw[ah om])
  unfold gH at c;rw[aj rfl]at c;exact mg om c
 rcases dp i j with a|a|a
 .rw[(h.tri i b).1 j a e];omega
 .subst a;have:=(h.tri i b).2;omega
 .have:=h.red i j b a;omega
def vO.det(y:oW p)(o:jo n p H v)(h:vO n p H v B):det n B=(p:Int)^n:=by
 have z:=p6 y;obtain⟨l,A,F,q⟩:=h.lat;obtain⟨piv,g,c⟩:=h.piv;obtain⟨d,f,m⟩:=Cj o.lead;have b:∀i,0<=wL n H p v i/\wL n H p v i<p:=fun i=>qW (n:=n) (H:=H) (p:=(p:Int)) (v:=fun k=>((v k:Nat):Int)) om i;have r:∃j,j<n/\d≠j/\wL n H p v j≠0:=by
  refine dd fun s=>?_;have C:∀j,j<n->j≠d->wL n H p v j=0:=fun j u a=>dd fun G=>s ⟨j,u,ai a,G⟩;have D:(p:Int)∣ap n fun i=>wL n H p v i*(v i:Nat):=Fc o;rw[cI d f (fun i I a=>by rw[C i I a];simp),m,ir]at D
  have E:=cS D;rw[dz (b d).1 (b d).2]at E;by_cases e:piv=d
  .rw[e]at c;exact c E
  .exact c (C piv g e)
 obtain⟨j,u,a,J⟩:=r;obtain⟨iv,w⟩:=OF y (x:=wL n H p v j) (by have:=b j;omega) (b j).2
 obtain⟨t',K⟩:=A d f;exact On (p:=(p:Int)) om u f a w (t:=t') (by rw[m]at K;omega) (J3 o A) h.tri q
def vO.gram(c:eW n H)(h:vO n p H v B){i j:Nat}(d:i<n)(e:j<n):(p:Int)*p∣mm n (mm n (fun i j=>B j i) H) B i j:=by
 obtain⟨l,f,b,a⟩:=h.lat;rw[ug];exact Fl c.red.pd.sym (fun i _=>zV f i) b ((a _).1 (eP.col d)) ((a _).1 (eP.col e))
def kI(n p:Nat)(H B:az):az:=fun i j=>if i<n/\j<n then mm n (mm n (fun i j=>B j i) H) B i j/((p:Int)*p)else 0
def vO.eq(c:eW n H)(h:vO n p H v B){i j:Nat}(a:i<n)(b:j<n):mm n (mm n (fun i j=>B j i) H) B i j=(p:Int)*p*kI n p H B i j:=by
 unfold kI;rw[aj ⟨a,b⟩,iM (h.gram c a b)]
def vO.gent(g:eW n H)(k:oW p)(h:vO n p H v B){i j:Nat}(d:i<n)(f:j<n):(kI n p H B i j).natAbs<=1120325651456000:=by
 have e:=h.eq g d f;rw[ug]at e;have l:=p6z k;have o:=Pj (H:=H) (a:=176000) (b:=p*p) (c:=p*p) g.eight (fun i j d f=>by have:=g.ent i j d f;omega) (u:=fun r=>B r i) (v:=fun r=>B r j) (fun r m=>by have:=h.ent k m d;rw[<-aX]at this;omega) (fun r m=>by have:=h.ent k m f;rw[<-aX]at this;omega)
 rw[e,cN,<-aX,fE]at o;rw[<-aX]at l;have q:p*p*(kI n p H B i j).natAbs<=p*p*(64*(176000*(p*p))):=by
  have:64*(176000*(p*p)*(p*p))=p*p*(64*(176000*(p*p))):=by grind
  omega
 have s:=Nj q om;omega

end Go.Proofs.YtdobfmlmenaajaaGreatDoor
