/-
  Lemmas for NeighbourVerify.
-/
import Derived.Test.YtdobfmlmenaajaaGreatDoorV27
namespace Go.Proofs.YtdobfmlmenaajaaGreatDoor
open Go.RowKit Tryz
open _root_.Int renaming tmod→eI,tdiv→iX
open _root_.Option renaming none→ab
set_option maxHeartbeats 6400000
set_option maxRecDepth 4096
set_option linter.all false
attribute [local go_sem] Nat.reduceAdd Nat.reduceEqDiff Nat.reduceLeDiff Nat.reduceLT reduceCtorEq Int.ofNat_lt decide_true decide_false Int.zero_le_ofNat
attribute [local go_sem ↓] reduceIte
variable{x y:AV}{Q:AX->Tm->St->Prop}{ops:Array Oper}{D m:Int}{l:List Oper}{b b1 b3 b8 bu c i j n top:Nat}{g gu:Nat->Nat}{S S' S0:St}{O:Tm}{K:Tm->St->Prop}{A C R X:aH}
def wM(A:aH)(n R:Nat):aH:=fun a b=>A (t9 n R a) b
structure nv(n:Nat)(A:aH):Prop where
 h1:1<=n
 hn:n<=5
 hB:∀σ k,mh A (n+1) σ k->∀k' i j,k'+j<n+1->k'+i<n+n+1->nb (cX (fun x y=>A x (σ y)) k' i j) 31
 hdet:det (n+1) (wM A n (n+n))≠0
 hrow:∀R,n<=R->R<=n+n->det (n+1) (wM A n R)≠0->∀σ neg k,oG (wM A n R) (n+1) σ neg k->∀k' i j,k'+i<n+1->k'+j<n+1->nb (cX (fun a b=>wM A n R (σ a) b) k' i j) 31
 hent:∀r j,r<n+n+1->j<n+1->nb (A r j) 31
structure LU(n:Nat)(A:aH)(R:Nat)(H U:aH):Prop where
 r1:n<=R
 r2:R<=n+n
 dt:det (n+1) (wM A n R)≠0
 tl:∃d M,TL (n+1) (fC (n+1) (n+1) (wM A n R)) d M/\M 0=((det (n+1) (wM A n R)).natAbs:Int)/\HI (n+1) (fC (n+1) (n+1) (wM A n R)) d M (n+1) (fun j r=>H r j)
 mu:∀i j,i<n+1->j<n+1->mm (n+1) (wM A n R) U i j=H i j
def nv.dlt(h:nv n A){R:Nat}(a:n<=R)(b:R<=n+n)(c:det (n+1) (wM A n R)≠0):(det (n+1) (wM A n R)).natAbs<2147483648:=by
 have:=h.hrow R a b c id false 0 (oG.init _ _) n 0 0 om om;rw[dd]at this;exact this
structure TF(S0 S:St)(b b1 b3 bu:Nat)(g gu:Nat->Nat)(n top:Nat)(A X:aH)(D:Int):Prop where
 cols:dE S b g (n+1) (n+n+1) (fun j r=>A r j)
 pair:bG S b1 218 1 2 (Nc b (n+1) top)
 var:en S b3 50 2 (.big D)
 mat:dE S bu gu (n+1) (n+1) X
 ext:fM S0 S
 new:∀a,a<n+1->S0 (gu a)=ab
def TF.congr{Y:aH}(h:TF S0 S b b1 b3 bu g gu n top A X D)(d:∀a c,a<n+1->c<n+1->X a c=Y a c):TF S0 S b b1 b3 bu g gu n top A Y D:=⟨h.cols,h.pair,h.var,h.mat.congr d,h.ext,h.new⟩
def TF.other(h:TF S0 S b b1 b3 bu g gu n top A X D){e:Nat}(c:S e=ab)(Z:ft):TF S0 (S.upd e Z) b b1 b3 bu g gu n top A X D :=
 ⟨h.cols.upd (bG.fresh h.cols.outer c) (fun a d=>bG.fresh (h.cols.row a d) c) _,h.pair.upd (bG.fresh h.pair c) _,h.var.upd (h.var.fresh c) _,h.mat.upd (bG.fresh h.mat.outer c) (fun a d=>bG.fresh (h.mat.row a d) c) _,h.ext.upd (h.ext.none c) _,h.new⟩
def TF.set(h:TF S0 S b b1 b3 bu g gu n top A X D){i j:Nat}{z:Int}{g':Nat->AV}(c:i<n+1)(d:S (gu i)=some ⟨50,2,n+1,g'⟩)(m:1<=n):TF S0 (S.upd (gu i) ⟨50,2,n+1,bR g' j (.big z)⟩) b b1 b3 bu g gu n top A (eQ X i j z) D:=by
 have f:=h.mat.row i c;refine⟨h.cols.upd (bG.ne h.cols.outer f dc) (fun a l e=>?_) _,h.pair.upd (bG.ne h.pair f dc) _,h.var.upd (fun e=>?_) _,h.mat.set c d,h.ext.upd (h.new i c) _,h.new⟩
 .obtain⟨y,k,_⟩:=h.cols.row a l;rw[e,d]at k;have k':=jA (Option.map ft.n) k;simp only[cV,fv]at k';omega
 .obtain⟨y,k,_⟩:=h.var;rw[e,d]at k;cases k;omega
def zG(S0:St)(b n top:Nat)(g:Nat->Nat)(A:aH)(z:nv n A)(hO:dE S0 b g (n+1) (n+n+1) (fun j r=>A r j)) :
  cZ 233 [.agg [.sl 1 b 0 (n+1),.int .i64 top]] S0 (fun _ S'=>(∃R H U,LU n A R H U/\∃g',dE S' b g' (n+1) (n+n+1) (lK (n+1) (fun k r=>A r k) U))/\iW b S0 S'):=by
 refine iC func233 rfl 65 ntmps233 kr sm ?_
 rw[ml,results233];have h1:=z.h1;have hn:=z.hn;simp -dsimp only[go_sem,a8,aR,cG,cP];refine aG.intro fun K f1=>?_;refine o5 (fun T=>bG T K 218 1 2 (Nc b (n+1) top)/\fM S0 T) ?_ ?_
 .refine⟨bG.here fun j f=>?_,(fM.refl S0).upd f1 _⟩
  match j,f with
  | 0,_=>rfl
  | 1,_=>rfl
 rintro T ⟨B,Q⟩;have V:=hO.ext Q;obtain⟨g1,u1,L⟩:=id B;have x0:g1 0=.sl 1 b 0 (n+1):=L 0 om;have x1:g1 1=.int .i64 top:=L 1 om;refine fQ 3 [[0,1],[],[]] kr ?_
 simp -dsimp only[go_sem,aa,u1,x0,x1,eG];refine(wA T b g n (n+1) (n+n+1) top A hn h1 rfl rfl V.cols z.hB z.hdet).mono ?_;rintro _ S1 ⟨e,R,rfl,r1,r2,x,hL,s⟩;obtain⟨g2,u2,v2⟩:=id (s.has B);have y0:g2 0=.sl 1 b 0 (n+1):=v2 0 om;simp -dsimp only[go_sem,aa,u2,y0];have hO1:=V.ext s;refine(yC (n+1) (n+n+1) (n+1) 31 (fun j r=>A r j) (t9 n R) om om (fun i l=>by unfold t9;split<;>omega) (fun c r W hr=>z.hent r c hr W) om _ _ (fH.two hO1.vr.va (VR.sl hL om (fun a m=>by rw[az];exact VR.mf rfl)).va)).mono ?_
 rintro _ S2 ⟨bw,gw,rfl,t,X,_,_⟩
 replace x:det (n+1) (wM A n R)≠0:=x
 replace t:dE S2 bw gw (n+1) (n+1) (wM A n R):=t
 have P:=z.hrow R r1 r2 x;have hdl:=z.dlt r1 r2 x;have C:∀i j,i<n+1->j<n+1->nb (wM A n R i j) 31:=fun i j l f=>z.hent _ _ (by unfold t9;split<;>omega) f
 have u:fM S0 S2:=(Q.trans s).trans X;have Y:=(s.trans X).has B;simp -dsimp only[go_sem,aa];refine(OR (n+1) 31 (wM A n R) om om om om x P).spec (fH.one t.vr.va) ?_;simp -dsimp only[go_sem];refine aG.intro fun y f3=>?_
 try simp -dsimp only[go_sem]
 have s3:=u.none f3;have hNR:n+1≠1:=om
 refine Gp (fun T=>dE T bw gw (n+1) (n+1) (wM A n R)/\en T y 50 2 (.big (det (n+1) (wM A n R)))/\fM S0 T/\bG T K 218 1 2 (Nc b (n+1) top)) ?_ ?_
 .have q1:bw≠y:=bG.fresh t.outer f3;have q2:∀a,a<n+1->gw a≠y:=fun a m=>bG.fresh (t.row a m) f3;have q3:K≠y:=bG.fresh Y f3;exact⟨(t.upd q1 q2 _).upd q1 q2 _,en.set,(u.upd s3 _).upd s3 _,(Y.upd q3 _).upd q3 _⟩
 clear t u Y s X hL hO1 u2 v2 y0 u1 L x0 x1 V B Q f3;rintro T3 ⟨t,V3,o,hp3⟩;refine(EF (n+1) 31 (wM A n R) om om om om C _ _ (fH.one t.vr.va)).mono ?_;rintro _ S4 ⟨ba,ga,rfl,hA4,v,_⟩;obtain⟨g3,u3,x3⟩:=id (V3.ext v);simp -dsimp only[*,go_sem,aa];have hw4:=t.ext v;refine(zF (n+1) (wM A n R) om om (fun i j l f=>(C i j l f).mono om) x hdl _ _ (fH.two hw4.vr.va (VA.refl _ _))).mono ?_;rintro _ S5 ⟨bh,gh,H,rfl,⟨d,M,Z,hM0,E⟩,hH5,F,_⟩;have hHr:∀i j,i<n+1->j<n+1->nb (H i j) 31:=fun i j l f=>by
  have:=E.rng Z (ae _) (fun c r _ h1 h2=>om) f l
  unfold nb;omega
 have hAb:∀i j,i<n+1->j<n+1->nb (ke (n+1) (wM A n R) i j) (jm 31 n):=fun i j l f=>by
  have:=Am om om C n i j l f;unfold ke;split
  .exact this.neg
  .exact this
 have hbm:=pQ 31 n;have hbl:=yN 31 om n om;obtain⟨U,hU1,hU2⟩:=Li (N:=n+1) (w:=wM A n R) (H:=H) om (fun j f=>E.mem j f);simp -dsimp only[go_sem,aa];refine(vE (n+1) (n+1) (n+1) (jm 31 n) (ke (n+1) (wM A n R)) H om om om om om om hAb (fun i j l f=>(hHr i j l f).mono hbm) om _ _ (fH.two (hA4.ext F).vr.va hH5.vr.va)).mono ?_;rintro _ S6 ⟨bu,gu,rfl,hU6,hE6,nu,nug⟩;have h:=(v.trans F).trans hE6;have hXb:∀i j,i<n+1->j<n+1->nb (mm (n+1) (ke (n+1) (wM A n R)) H i j) (jm 31 n+jm 31 n+8):=fun i j l f=>JO om hAb (fun i j l f=>(hHr i j l f).mono hbm) l f;have hTF:TF S0 S6 b K y bu g gu n top A (fun a c=>det (n+1) (wM A n R)*U a c) (det (n+1) (wM A n R)):=⟨hO.ext (o.trans h),h.has hp3,V3.ext h,hU6.congr hU2,o.trans h,fun a m=>((o.trans v).trans F).none (nug a m)⟩;have hDb:∀a c,a<n+1->c<n+1->nb (det (n+1) (wM A n R)*U a c) (jm 31 n+jm 31 n+8):=fun a c m W=>by rw[<-hU2 a c m W];exact hXb a c m W
 have hTr:LU n A R H U:=⟨r1,r2,x,⟨d,M,Z,hM0,E⟩,hU1⟩;have hUb:∀a c,a<n+1->c<n+1->nb (U a c) (jm 31 n+jm 31 n+9):=fun a c m W=>by
  have:=DP (b:=det (n+1) (wM A n R)) (hDb a c m W)
  rwa [di _ x]at this
 generalize hDe:det (n+1) (wM A n R)=D at *;clear E Z hM0 hH5 hU6 hA4 hw4 t V3 u3 x3 h hE6 F v o hp3 nu nug hU1 hU2 hXb hAb hHr P C;simp only[go_sem];refine aI (fun O S=>∃i:Nat,i<=n+1/\O 1=.ptr 1 K 0/\O 3=.ptr 2 y 0/\O 7=.sl 1 bu 0 (n+1)/\O 36=.sl 1 bu 0 (n+1)/\O 37=.int .i64 ((n+1:Nat):Int)/\O 38=.int .i64 i/\TF S0 S b K y bu g gu n top A (fun a c=>if a<i then U a c else D*U a c) D) (fun O S=>n+1-co (O 38)) ?_ ?_
 .simp only[go_sem];exact⟨0,om,rfl,hTF.congr fun a c _ _=>by simp⟩
 clear hTF;rintro O S ⟨i,l,e1,e3,e7,G,I,J,p⟩;by_cases q:i<n+1
 .obtain⟨g1,u1,L⟩:=p.mat.outer;have x1:g1 i=.sl 2 (gu i) 0 (n+1):=L i q;simp only[*,go_sem,aa];refine aI (fun O S=>∃j:Nat,j<=n+1/\O 1=.ptr 1 K 0/\O 3=.ptr 2 y 0/\O 7=.sl 1 bu 0 (n+1)/\O 10=.sl 2 (gu i) 0 (n+1)/\O 36=.sl 1 bu 0 (n+1)/\O 37=.int .i64 ((n+1:Nat):Int)/\O 38=.int .i64 i/\O 42=.sl 2 (gu i) 0 (n+1)/\O 43=.int .i64 ((n+1:Nat):Int)/\O 44=.int .i64 j/\TF S0 S b K y bu g gu n top A (fun a c=>if a<i∨(a=i/\c<j)then U a c else D*U a c) D) (fun O S=>n+1-co (O 44)) ?_ ?_
  .simp only[*,go_sem];exact⟨0,om,rfl,p.congr fun a c _ _=>by simp⟩
  clear p e1 e3 e7 G I J u1 L x1;rintro O S ⟨j,f,e1,e3,e7,e10,G,I,J,e42,e43,e44,p⟩;by_cases hjt:j<n+1
  .obtain⟨g2,u2,v2⟩:=p.mat.row i q;have x2:g2 j=.big (D*U i j):=(v2 j hjt).trans sm
   obtain⟨g3,u3,x3⟩:=id p.var;simp -dsimp only[*,go_sem,aa];refine aG.intro fun b12 f12=>?_;have q1:y≠b12:=p.var.fresh f12;have q2:gu i≠b12:=bG.fresh (p.mat.row i q) f12;simp -dsimp only[go_sem,aa,e3,e10,e44,x2,u3,x3,q1,fE];refine(qx (hDb i j q hjt) (by unfold nb;omega) om x).call ?_
   rw[di _ x];simp only[*,go_sem,aa,aS (om:j<1000000),co]
   refine⟨⟨j+1,om,rfl,?_⟩,om⟩
   rw[mD];refine((p.other f12 _).set q (by rw[aO q2];exact u2) om).congr fun a c _ _=>?_
   simp only[eQ];by_cases e:a=i/\c=j
   .obtain⟨rfl,rfl⟩:=e;simp
   .rw[af e];by_cases e2:a<i∨(a=i/\c<j)
    .rw[ah e2,ah om]
    .rw[af e2,af om]
  have hnj:n+1=j:=om
  simp only[go_sem,aa,e1,e3,e7,G,I,J,e42,e43,e44,hjt,aS (om:i<1000000),co]
  refine⟨⟨i+1,om,rfl,p.congr fun a c _ W=>?_⟩,om⟩
  by_cases e2:a<i∨(a=i/\c<j)
  .rw[ah e2,ah om]
  .rw[af e2,af om]
 obtain⟨g1,u1,L⟩:=id p.pair;have x1:g1 0=.sl 1 b 0 (n+1):=L 0 om;simp -dsimp only[go_sem,aa,e1,e7,G,I,J,q,u1,x1];refine(G8 S b bu g gu (n+1) (n+n+1) (jm 31 n+jm 31 n+40) (fun j r=>A r j) _ om om om (fun a r m hr=>(z.hent r a hr m).mono om) (fun a r m hr=>?_) om p.cols p.mat).mono ?_
 .rw[ah om];exact(hUb a r m hr).mono om
 rintro _ S7 ⟨⟨g',hO7⟩,hK7⟩;simp only[go_sem];refine⟨⟨R,H,U,hTr,g',hO7.congr fun a r m hr=>?_⟩,(iW.ext p.ext).trans hK7⟩;unfold lK;exact aB fun k hk=>by dsimp only;rw[ah om]

def xZ(n m:Nat)(A:aH)(a:1<=n)(b:n<=16)(c:1<=m)(d:m<=16):PF 210 [aU n m A] (.tup [.int .i64 n,.int .i64 m,.bool true]):=by
 refine jo func210 ntmps210 results210 ?_;simp -dsimp only[go_sem,aa,aU,bC];refine(lz n m A a b c d).call ?_;simp only[go_sem];exact VR.tup (by simp[qZ])
structure FS(S:St)(b b8:Nat)(g:Nat->Nat)(n i:Nat)(C:aH)(x y:AV):Prop where
 cols:dE S b g (n+1) (n+n+1) C
 pair:bG S b8 218 1 2 (Nc b (n+1) n)
 hx:c8 3 1 St.none S x (min i n) (fun a=>.int .i64 ((a:Nat):Int))
 hy:c8 3 1 St.none S y (i-n) (fun a=>.int .i64 ((n+a:Nat):Int))
 xy:∀d,eC x d->¬eC y d
def FS.other(h:FS S b b8 g n i C x y){e:Nat}(c:S e=ab)(Z:ft):FS (S.upd e Z) b b8 g n i C x y :=
 ⟨h.cols.upd (bG.fresh h.cols.outer c) (fun a d=>bG.fresh (h.cols.row a d) c) _,h.pair.upd (bG.fresh h.pair c) _,h.hx.upd rfl (h.hx.fresh c) _,h.hy.upd rfl (h.hy.fresh c) _,h.xy⟩
def FS.appx(h:FS S b b8 g n i C x y)(v:i<n){c:Nat}(l:c8 3 1 St.none S' (.sl 1 c 0 (min i n+1)) (min i n+1) (fun a=>if a=min i n then .int .i64 (i:Int)else .int .i64 ((a:Nat):Int)))(m:∀d X,S d=some X->¬eC x d->S' d=some X)(p:eC x c∨S c=ab) :
  FS S' b b8 g n (i+1) C (.sl 1 c 0 (min i n+1)) y:=by
 have kp:∀{b ty es n:Nat} {g:Nat->AV},bG S b ty es n g->ty≠3->bG S' b ty es n g:=fun q r=>by
  obtain⟨z,o,s⟩:=q;exact⟨z,m _ _ o (h.hx.other o r),s⟩
 have t:min i n=i:=om
 refine⟨⟨kp h.cols.outer dc,fun a u=>kp (h.cols.row a u) dc,h.cols.inj⟩,kp h.pair dc,?_,?_,fun d j f=>?_⟩
 .rw[t]at l ⊢;rw[(om:min (i+1) n=i+1)]
  exact l.congr fun a _=>by
   by_cases e:a=i
   .rw[ah e,e]
   .rw[af e]
 .have:=h.hy.keep (fM.noneS _) m (fun d j f=>h.xy d f j);rw[(om:i+1-n=i-n)]
  exact this
 .rw[eH]at j;subst j;rcases p with e|e
  .exact h.xy _ e f
  .obtain⟨X,k⟩:=h.hy.blk f;rw[k]at e;cases e
def FS.appy(h:FS S b b8 g n i C x y)(u:n<=i){c:Nat}(o:c8 3 1 St.none S' (.sl 1 c 0 (i-n+1)) (i-n+1) (fun a=>if a=i-n then .int .i64 (i:Int)else .int .i64 ((n+a:Nat):Int)))(l:∀d X,S d=some X->¬eC y d->S' d=some X)(p:eC y c∨S c=ab) :
  FS S' b b8 g n (i+1) C x (.sl 1 c 0 (i-n+1)):=by
 have kp:∀{b ty es n:Nat} {g:Nat->AV},bG S b ty es n g->ty≠3->bG S' b ty es n g:=fun q r=>by
  obtain⟨z,m,s⟩:=q;exact⟨z,l _ _ m (h.hy.other m r),s⟩
 refine⟨⟨kp h.cols.outer dc,fun a t=>kp (h.cols.row a t) dc,h.cols.inj⟩,kp h.pair dc,?_,?_,fun d j f=>?_⟩
 .have:=h.hx.keep (fM.noneS _) l (fun d j f=>h.xy d j f);rw[(om:min (i+1) n=min i n)]
  exact this
 .rw[(om:i+1-n=i-n+1)]
  exact o.congr fun a _=>by
   by_cases e:a=i-n
   .rw[ah e,e];congr 1;omega
   .rw[af e]
 .rw[eH]at f;subst f;rcases p with e|e
  .exact h.xy _ j e
  .obtain⟨X,k⟩:=h.hx.blk j;rw[k]at e;cases e
def Ex(n k:Nat)(M:aH)(W:nv n (fq n M))(hk:k<=1000000)(hU:∀R H U,LU n (fq n M) R H U->∀a r,a<n+1->r<n+n+1->nb (lK (n+1) (fun k r=>fq n M r k) U a r) k) :
  cZ 184 [aU n (n+1) M] St.none (fun r _=>∃R H U,LU n (fq n M) R H U/\∃V,r=.tup [aU n (n+1) (fun i j=>lK (n+1) (fun k r=>fq n M r k) U j i),V,.bool true]):=by
 refine jI func184 ntmps184 results184 ?_;have h1:=W.h1;have hn:=W.hn;simp -dsimp only[go_sem,aa,aU,bC];refine(xZ n (n+1) M h1 om om om).call ?_;simp -dsimp only[go_sem,aa];refine(Du _ n (n+1) M h1 om om om).mono ?_;rintro _ S1 ⟨b,g,rfl,q,_⟩;simp -dsimp only[go_sem,aa];refine aG.intro fun s f8=>?_;simp -dsimp only[go_sem,ja,eG,a8,aR,cG,cP,bS,bH,d6,cq];have F:∀{c ty es k:Nat} {z:Nat->AV},bG S1 c ty es k z->c≠s:=fun h=>bG.fresh h f8;rw[<-lk]at q;have I:=(q.upd (F q.outer) (fun a J=>F (q.row a J)) ⟨218,1,2,fun j=>if j=0 then AV.nil else AV.int IntKind.i64 0⟩).upd (F q.outer) (fun a J=>F (q.row a J)) ⟨218,1,2,ja (fun j=>if j=0 then AV.nil else AV.int IntKind.i64 0) 0 [AV.sl 1 b 0 (n+1),AV.int IntKind.i64 n]⟩
 have K:bG ((S1.upd s ⟨218,1,2,fun j=>if j=0 then AV.nil else AV.int IntKind.i64 0⟩).upd s ⟨218,1,2,ja (fun j=>if j=0 then AV.nil else AV.int IntKind.i64 0) 0 [AV.sl 1 b 0 (n+1),AV.int IntKind.i64 n]⟩) s 218 1 2 (Nc b (n+1) n):=bG.here fun j hj=>by
  match j,hj with
  | 0,_=>rfl
  | 1,_=>rfl
 refine(zG _ b n n g (fq n M) W I).mono ?_;rintro _ S2 ⟨⟨R,H,U,hT,g',t⟩,hK⟩;have X:s≠b:=fun e=>F q.outer e.symm;have L:=hK.has K X;have u:=hU R H U hT;generalize hC:lK (n+1) (fun k r=>fq n M r k) U=C at t u;simp only[go_sem];refine aI (fun O S=>∃(i:Nat) (x y:AV),i<=n+n+1/\O 8=.ptr 1 s 0/\O 9=x/\O 10=y/\O 26=.int .i64 ((n+n+1:Nat):Int)/\O 27=.int .i64 i/\FS S b s g' n i C x y) (fun O S=>n+n+1-co (O 27)) ?_ ?_
 .simp only[go_sem];refine⟨0,om,by rw[eF (n:=n+n+1) om om],rfl,t,L,?_,?_,fun d hd=>?_⟩
  .rw[Nat.zero_min];exact c8.nil (fM.noneS _) _
  .rw[Nat.zero_sub];exact c8.nil (fM.noneS _) _
  .obtain⟨_,_,_,e⟩:=hd;cases e
 clear t L hK I K q f8 F;rintro O S ⟨i,x,y,hi,N,G,f,o,p,m⟩;by_cases P:i<n+n+1
 .obtain⟨gp,up,vp⟩:=id m.pair;have x1:gp 1=.int .i64 n:=vp 1 om;by_cases w:i<n
  .simp -dsimp only[go_sem,aa,N,G,f,o,p,P,w,up,x1];refine aG.intro fun b36 Q=>?_;have A:=m.hx.fresh Q;have l:=m.other Q ⟨3,1,1,fun j=>[AV.int .i64 i].getD j .any⟩
   try simp -dsimp only[go_sem,G]
   refine c8.app3 (v:=.int .i64 i) l.hx om (by simp[eO]) (bQ ⟨_,_,_,rfl,cp,rfl,fun h=>A _ h rfl⟩) ?_
   intro c S3 Y B D;have E:=l.appx w Y B D;simp only[*,go_sem,aS (om:i<1000000),co]
   exact⟨⟨i+1,om,rfl,E⟩,om⟩
  .simp -dsimp only[go_sem,aa,N,G,f,o,p,P,w,up,x1];refine aG.intro fun b40 T=>?_;have A:=m.hy.fresh T;have l:=m.other T ⟨3,1,1,fun j=>[AV.int .i64 i].getD j .any⟩
   try simp -dsimp only[go_sem,f]
   refine c8.app3 (v:=.int .i64 i) l.hy om (by simp[eO]) (bQ ⟨_,_,_,rfl,cp,rfl,fun h=>A _ h rfl⟩) ?_
   intro c S3 Y B D;have E:=l.appy om Y B D;simp only[*,go_sem,aS (om:i<1000000),co]
   exact⟨⟨i+1,om,rfl,E⟩,om⟩
 obtain rfl:i=n+n+1:=om
 obtain⟨gp,up,vp⟩:=id m.pair;have Z:gp 0=.sl 1 b 0 (n+1):=vp 0 om;obtain⟨c1,rfl,hL1⟩:∃c1,x=.sl 1 c1 0 n/\bG S c1 3 1 n (fun a=>.int .i64 ((a:Nat):Int)):=by
  rcases m.hx.2 with⟨h,_⟩|⟨c,_,e,h⟩
  .omega
  .rw[(om:min (n+n+1) n=n)]at e h;exact⟨c,e,h⟩
 obtain⟨c2,rfl,hL2⟩:∃c2,y=.sl 1 c2 0 (n+1)/\bG S c2 3 1 (n+1) (fun a=>.int .i64 ((n+a:Nat):Int)):=by
  rcases m.hy.2 with⟨h,_⟩|⟨c,_,e,h⟩
  .omega
  .rw[(om:n+n+1-n=n+1)]at e h;exact⟨c,e,h⟩
 simp -dsimp only[*,go_sem,aa];refine bD 11 kr ?_
 simp only[go_sem,aa,N,G,f,up,Z];have p1:=yC (n+1) (n+n+1) n k C (fun a=>a) om om (fun i hi=>om) (fun c r D hr=>u c r D hr) hk
 have p2:=yC (n+1) (n+n+1) (n+1) k C (fun a=>n+a) om om (fun i hi=>om) (fun c r D hr=>u c r D hr) hk
 refine⟨_,p1.pf.pureS (fH.two m.cols.vr.va (VR.sl hL1 om (fun a J=>by rw[az];exact VR.mf rfl)).va),?_⟩
 try simp -dsimp only[go_sem,N,G,f,o,p,up,Z]
 refine⟨_,p2.pf.pureS (fH.two m.cols.vr.va (VR.sl hL2 om (fun a J=>by rw[az];exact VR.mf rfl)).va),?_⟩
 try simp -dsimp only[go_sem,N,G,f,o,p,up,Z]
 subst hC;exact⟨R,H,U,hT,_,rfl⟩

def mV:List Oper->List Nat
 | []=>[]
 | o::l=>(match o.dst with
  | some d=>[d]
  | ab=>[])++mV l
def lS(l:List Oper)(k:Nat):Option Nat:=(l[k]?).bind (·.dst)
def TA(l:List Oper):Bool:=decide (mV l).Nodup
def stP(ops:Array Oper)(O0:Tm)(S:St)(z:List AV):List Oper->Nat->Prop
 | [],_=>True
 | o::r,i=>(∀O:Tm,(∀t,¬t∈mV ops.toList->O t=O0 t)->(∀k d,(aft o).contains k=true->lS ops.toList k=some d->O d=z.getD k .any)->∀K:Tm->St->Prop,K (O.put o.dst (z.getD i .any)) S->Bl ops o O S K)/\stP ops O0 S z r (i+1)
theorem Jn{ops:Array Oper}{O0:Tm}{S:St}{z:List AV}:∀(l:List Oper) (i j:Nat) (o:Oper),stP ops O0 S z l i->l[j]? = some o ->
  ∀O:Tm,(∀t,¬t∈mV ops.toList->O t=O0 t)->(∀k d,(aft o).contains k=true->lS ops.toList k=some d->O d=z.getD k .any)->∀K:Tm->St->Prop,K (O.put o.dst (z.getD (i+j) .any)) S->Bl ops o O S K
 | [],i,j,o,_,h=>by simp at h
 | p::r,i,0,o,h,a=>by
  simp only[c9,fv]at a;subst a;exact h.1
 | p::r,i,j+1,o,h,a=>by
  rw[cn]at a;have:=Jn r (i+1) j o h.2 a;rw[(om:i+1+j=i+(j+1))]at this
  exact this
theorem wG:∀{l:List Oper} {j:Nat} {o:Oper} {d:Nat},l[j]? = some o->o.dst=some d->d∈mV l
 | [],_,_,_,h,_=>by simp at h
 | p::l,0,o,d,h,a=>by
  simp only[c9,fv]at h;subst h;simp[mV,a]
 | p::l,j+1,o,d,h,a=>by
  rw[cn]at h;simp[mV,wG h a]
theorem CB:∀{l:List Oper} {i j:Nat} {d:Nat},(mV l).Nodup->lS l i=some d->lS l j=some d->i=j
 | [],i,_,_,_,h,_=>by simp[lS]at h
 | p::l,i,j,d,a,f,g=>by
  have memj:∀k,lS l k=some d->d∈mV l:=fun k b=>by
   unfold lS at b
   cases e:l[k]? with
   | none=>rw[e]at b;simp at b
   | some o=>rw[e]at b;exact wG e b
  have m:(mV l).Nodup:=by
   unfold mV at a;exact(List.nodup_append.1 a).2.1
  have c:p.dst=some d->¬d∈mV l:=fun n q=>by
   unfold mV at a;rw[n]at a;simp only[Ud,wY]at a;exact a.1 q
  match i,j with
  | 0,0=>rfl
  | 0,j+1=>exact(c (by simpa [lS]using f) (memj j (by simpa [lS]using g))).elim
  | i+1,0=>exact(c (by simpa [lS]using g) (memj i (by simpa [lS]using f))).elim
  | i+1,j+1 =>
   have:=CB m (i:=i) (j:=j) (d:=d) (by simpa [lS]using f) (by simpa [lS]using g)
   omega
def LJ{O0:Tm}(z:List AV)(b:(CL ops&&TA ops.toList)=true)(s:stP ops O0 S z ops.toList 0)
  (u:∀O:Tm,(∀t,¬t∈mV ops.toList->O t=O0 t)->(∀k d,lS ops.toList k=some d->O d=z.getD k .any)->K O S):GF ops O0 S K:=by
 rw[tM];simp only[ay]at b;have m:(mV ops.toList).Nodup:=lA b.2;refine bQ ⟨fun L O S'=>S'=S/\(∀t,¬t∈mV ops.toList->O t=O0 t)/\∀k d,L k=true->lS ops.toList k=some d->O d=z.getD k .any,b.1,⟨rfl,fun _ _=>rfl,fun _ _ h=>by cases h⟩,?_,?_⟩
 .rintro i o n L O S' ⟨rfl,c,f⟩ r v;have g:ops.toList[i]? = some o:=by simpa using n
  have:=Jn ops.toList 0 i o s g O c (fun k d j a=>f k d (v k (by simpa using j)) a) (fun O' S''=>S''=S'/\(∀t,¬t∈mV ops.toList->O' t=O0 t)/\∀k d,(if k=i then true else L k)=true->lS ops.toList k=some d->O' d=z.getD k .any)
  rw[az]at this;have p:=this ?_
  .unfold Bl at p;rw[xr]at p;exact p
  .refine⟨rfl,fun t q=>?_,fun k d j a=>?_⟩
   .rw[Tm.put_eq]
    cases e:o.dst with
    | none=>exact c t q
    | some d =>
     simp only;rw[af (fun l=>q (by subst l;exact wG g e))];exact c t q
   .rw[Tm.put_eq];by_cases l:k=i
    .subst l;have:o.dst=some d:=by simpa [lS,n]using a
     simp only[this,ah]
    .rw[af l]at j
     cases e:o.dst with
     | none=>exact f k d j a
     | some d' =>
      simp only;rw[af (fun w=>by
       subst w;exact l (CB m a (by simp[lS,n,e])))]
      exact f k d j a
 .rintro L O S' ⟨rfl,c,f⟩ r;refine u O c fun k d a=>f k d (r k ?_) a;rcases aF k ops.size with h|h
  .exact h
  .simp[lS,eN h]at a
def Q5(h:∀K',K'=K->EE ops l O S K'):EE ops l O S K:=h K rfl
def dA{c:Code}(I:Tm->St->Prop)(μ:Tm->St->Nat)(a:I O S)(b:∀Q',Q'=Q->∀O S,I O S->Aw c (AX.seq (fun O' S'=>I O' S'/\μ O' S' < μ O S) Q') O S):Aw (.loop c) Q O S:=aI I μ a (b Q rfl)
def tt{g:Nat->AV}{K:AV->Prop}(a:j<=n)(h:K (.lst 2 j g)):kG 59 (.lst 2 n g) ab (some (.int .i64 (j:Int))) ab K :=
 ⟨rfl,0,j,rfl,rfl,trivial,om,a,by simpa using h⟩
structure CU(n k:Nat)(H:aH):Prop where
 up:∀r c,r<c->r<n->c<n+1->H r c=0
 pos:∀c,c<n->0<H c c
 rng:∀c j,c<n->j<c->0<=H c j/\H c j<H c c
 nb:∀r c,r<n->c<n+1->nb (H r c) k
def KY(n k:Nat)(H:aH)(h1:1<=n)(h2:n<=15)(hk:k<=1000000)(F:CU n k H):PF 185 [aU n (n+1) H] (.tup [.lst 1 n (fun a=>.int .i64 ((a:Nat):Int)),.bool true]):=by
 refine jo func185 ntmps185 results185 ?_;simp -dsimp only[go_sem,aa,aU,bC];refine(xZ n (n+1) H h1 om om om).call ?_;simp only[go_sem];refine aI (fun O S=>∃(c:Nat) (x:AV),c<=n+1/\O 0=.lst 1 n (fun i=>.lst 2 (n+1) (fun j=>.big (H i j)))/\O 4=.int .i64 n/\O 7=x/\O 20=.int .i64 ((n+1:Nat):Int)/\O 21=.int .i64 c/\c8 3 1 St.none S x (min c n) (fun a=>.int .i64 ((a:Nat):Int))) (fun O S=>n+1-co (O 21)) ?_ ?_
 .simp only[go_sem];exact⟨0,om,rfl,by rw[Nat.zero_min];exact c8.nil (fM.noneS _) _⟩
 rintro O S ⟨c,x,hc,r,z,u,l,m,D⟩;by_cases s:c<n+1
 .simp only[*,go_sem];refine dA (fun O S'=>∃p:Nat,p<=c/\S'=S/\O 0=.lst 1 n (fun i=>.lst 2 (n+1) (fun j=>.big (H i j)))/\O 4=.int .i64 n/\O 7=x/\O 8=.int .i64 c/\O 9=.int .i64 p/\O 20=.int .i64 ((n+1:Nat):Int)/\O 21=.int .i64 c) (fun O S=>c-co (O 9)) ?_ ?_
  .simp only[*,go_sem];exact⟨0,om,rfl⟩
  clear r z u l m;rintro Q' G O T ⟨p,hp,hTS,r,z,u,w,t,l,m⟩;subst hTS;by_cases b:p<n
  .simp -dsimp only[go_sem,aa,r,z,w,t,b,s];refine(lp (F.nb p c b s) om).call ?_;by_cases P:p<c
   .simp only[go_sem,r,z,u,w,t,l,m,b,F.up p c P b s,tf,dw,aS (om:p<1000000),co]
    exact⟨⟨p+1,om,rfl⟩,om⟩
   obtain rfl:p=c:=om
   have hs:(H p p).sign=1:=dq (F.pos p b);have Q:((H p p).sign==0)=false:=by rw[hs]<;>rfl
   have I:((p:Int)==(n:Int))=false:=by simp;omega
   have J:decide ((H p p).sign<0)=false:=by rw[hs]<;>rfl
   rw[(om:min p n=p)]at D
   apply yO (fun O S'=>O 0=.lst 1 n (fun i=>.lst 2 (n+1) (fun j=>.big (H i j)))/\O 4=.int .i64 n/\O 7=x/\O 8=.int .i64 p/\O 9=.int .i64 p/\O 20=.int .i64 ((n+1:Nat):Int)/\O 21=.int .i64 p/\O 76=.lst 2 p (fun j=>.big (H p j))/\O 77=.int .i64 p/\O 78=.int .i64 0/\S'=T)
   .intro key;simp only[go_sem,r,z,u,w,t,l,m,b,Q];rw[G];rcases id D.2 with⟨R,hx⟩|⟨c0,_,hx,hL⟩
    .have L:((0:Int) != (p:Int))=false:=by rw[R];simp
     have y:decide ((0:Int)<(p:Int))=false:=by rw[R];simp
     simp -dsimp only[go_sem,aa,r,z,u,w,t,l,m,b,s,I,L,y,hx];refine(lp (F.nb p p b s) om).call ?_;simp only[go_sem,r,u,w,t,b,L,y,J,cV,fX];refine tt om ?_;simp only[go_sem];show Aw (.loop _) _ _ _;refine key _ _ ?_;simp only[*,go_sem]
    .obtain⟨gl,ul,vl⟩:=hL;rcases bn p with h0|h0
     .have L:((0:Int) != (p:Int))=false:=by rw[h0];simp
      have y:decide ((0:Int)<(p:Int))=false:=by rw[h0];simp
      simp -dsimp only[go_sem,aa,r,z,u,w,t,l,m,b,s,I,y,hx,bU];refine(lp (F.nb p p b s) om).call ?_;simp only[go_sem,r,u,w,t,b,y,J,cV,fX];refine tt om ?_;simp only[go_sem];show Aw (.loop _) _ _ _;refine key _ _ ?_;simp only[*,go_sem]
     obtain⟨q,hq⟩:∃q,p=q+1:=⟨p-1,om⟩
     have y:decide ((0:Int)<(p:Int))=true:=by simp;omega
     have hw:IntKind.i64.wrap ((p:Int)-1)=(q:Int):=eF om om;have U:q<p:=om
     have hg:gl q=.int .i64 (q:Int):=vl q U;have V:decide ((p:Int)<=(q:Int))=false:=by simp;omega
     simp -dsimp only[go_sem,aa,r,z,u,w,t,l,m,b,s,I,y,V,hw,U,hg,ul,hx,bU];refine(lp (F.nb p p b s) om).call ?_;simp only[go_sem,r,u,w,t,b,y,V,hw,hg,J,cV,fX];refine tt om ?_;simp only[go_sem];show Aw (.loop _) _ _ _;refine key _ _ ?_;simp only[*,go_sem]
   clear r z u w t l m Q I J hs P;rintro O _ ⟨r,z,u,w,t,l,m,A,B,C,rfl⟩;refine dA (fun O S=>∃j:Nat,j<=p/\O 0=.lst 1 n (fun i=>.lst 2 (n+1) (fun j=>.big (H i j)))/\O 4=.int .i64 n/\O 7=x/\O 8=.int .i64 p/\O 9=.int .i64 p/\O 20=.int .i64 ((n+1:Nat):Int)/\O 21=.int .i64 p/\O 76=.lst 2 p (fun j=>.big (H p j))/\O 77=.int .i64 p/\O 78=.int .i64 j/\c8 3 1 St.none S x p (fun a=>.int .i64 ((a:Nat):Int))) (fun O S=>p-co (O 78)) ?_ ?_
   .simp only[go_sem,r,z,u,w,t,l,m,A,B,C];exact⟨0,om,rfl,D⟩
   clear r z u w t l m A B C D;rintro Q' G O S ⟨j,hj,r,z,u,w,t,l,m,A,B,C,D⟩;by_cases M:j<p
   .obtain⟨q1,q2⟩:=F.rng p j b M;have hs1:decide ((H p j).sign<0)=false:=by
     rcases Vh q1 with h|h
     .rw[dq h];rfl
     .rw[<-h];rfl
    have hcm:lV (H p j) (H p p)=-1:=by simp[lV,q2]
    simp -dsimp only[go_sem,A,B,C,M];refine aG.intro fun E W=>?_
    try simp -dsimp only[go_sem]
    have X:=((D.upd (by rfl) (D.fresh W) ⟨50,2,1,fun _=>AV.big 0⟩).upd (by rfl) (D.fresh W) ⟨50,2,1,bR (fun _=>AV.big 0) 0 (.big (H p j))⟩)
    obtain⟨S5,hS5,Y⟩:∃S5,S5=(S.upd E ⟨50,2,1,fun _=>AV.big 0⟩).upd E ⟨50,2,1,bR (fun _=>AV.big 0) 0 (.big (H p j))⟩/\S5 E=some ⟨50,2,1,bR (fun _=>AV.big 0) 0 (.big (H p j))⟩:=⟨_,rfl,cp⟩;rw[<-hS5]at X ⊢;have r0:PF 191 [.big (H p j)] (.int .i64 (H p j).sign):=lp (F.nb p j b om) om;have r1:PF 159 [.big (H p j),.big (H p p)] (.int .i64 (-1)):=hcm▸Oh (F.nb p j b om) (F.nb p p b om) om;refine LJ [.big (H p j),.int .i64 (H p j).sign,.bool false,.bool false,.big (H p j),.lst 1 n (fun i=>.lst 2 (n+1) (fun j=>.big (H i j))),.int .i64 p,.pat 1 (.lst 2 (n+1) (fun j=>.big (H p j))),.lst 2 (n+1) (fun j=>.big (H p j)),.int .i64 p,.pat 2 (.big (H p p)),.big (H p p),.int .i64 (-1),.bool false,.bool false] kr ?_ ?_
    .refine⟨?_,?_,?_,?_,?_,?_,?_,?_,?_,?_,?_,?_,?_,?_,?_,trivial⟩
     .intro O1 g f K o;have N:O1 11=.ptr 2 E 0:=(g 11 dc).trans (by simp only[go_sem])
      unfold Bl;simp only[go_sem,aa,N,Y,fE];exact o
     .intro O1 g f K o;have x82:O1 82=.big (H p j):=f 0 82 kr rfl
      unfold Bl;simp -dsimp only[go_sem,aa,x82];refine r0.call ?_;exact o
     .intro O1 g f K o;have x83:O1 83=.int .i64 (H p j).sign:=f 1 83 kr rfl
      unfold Bl;simp only[go_sem,x83,hs1];exact o
     .intro O1 g f K o;have x84:O1 84=.bool false:=f 2 84 kr rfl
      unfold Bl;simp only[go_sem,x84];exact o
     .intro O1 g f K o;have N:O1 11=.ptr 2 E 0:=(g 11 dc).trans (by simp only[go_sem])
      have d:O1 85=.bool false:=f 3 85 kr rfl
      unfold Bl;simp only[go_sem,aa,N,d,Y,fE];exact o
     .intro O1 g f K o;have x0:O1 0=.lst 1 n (fun i=>.lst 2 (n+1) (fun j=>.big (H i j))):=(g 0 dc).trans (by simp only[go_sem,r])
      have d:O1 85=.bool false:=f 3 85 kr rfl
      unfold Bl;simp only[go_sem,x0,d];exact o
     .intro O1 g f K o;have x9:O1 9=.int .i64 p:=(g 9 dc).trans (by simp only[go_sem,t])
      have d:O1 85=.bool false:=f 3 85 kr rfl
      unfold Bl;simp only[go_sem,x9,d];exact o
     .intro O1 g f K o;have d:O1 85=.bool false:=f 3 85 kr rfl
      have x87:O1 87=.lst 1 n (fun i=>.lst 2 (n+1) (fun j=>.big (H i j))):=f 5 87 kr rfl
      have x88:O1 88=.int .i64 p:=f 6 88 kr rfl
      unfold Bl;simp only[go_sem,d,x87,x88,b];exact o
     .intro O1 g f K o;have d:O1 85=.bool false:=f 3 85 kr rfl
      have x89:O1 89=.pat 1 (.lst 2 (n+1) (fun j=>.big (H p j))):=f 7 89 kr rfl
      unfold Bl;simp only[go_sem,d,x89];exact o
     .intro O1 g f K o;have x8:O1 8=.int .i64 p:=(g 8 dc).trans (by simp only[go_sem,w])
      have d:O1 85=.bool false:=f 3 85 kr rfl
      unfold Bl;simp only[go_sem,x8,d];exact o
     .intro O1 g f K o;have d:O1 85=.bool false:=f 3 85 kr rfl
      have x90:O1 90=.lst 2 (n+1) (fun j=>.big (H p j)):=f 8 90 kr rfl
      have x91:O1 91=.int .i64 p:=f 9 91 kr rfl
      unfold Bl;simp only[go_sem,d,x90,x91,(om:p<n+1)]
      exact o
     .intro O1 g f K o;have d:O1 85=.bool false:=f 3 85 kr rfl
      have x92:O1 92=.pat 2 (.big (H p p)):=f 10 92 kr rfl
      unfold Bl;simp only[go_sem,d,x92];exact o
     .intro O1 g f K o;have d:O1 85=.bool false:=f 3 85 kr rfl
      have x86:O1 86=.big (H p j):=f 4 86 kr rfl
      have x93:O1 93=.big (H p p):=f 11 93 kr rfl
      unfold Bl;simp -dsimp only[go_sem,aa,d,x86,x93];refine r1.call ?_;exact o
     .intro O1 g f K o;have d:O1 85=.bool false:=f 3 85 kr rfl
      have x94:O1 94=.int .i64 (-1):=f 12 94 kr rfl
      unfold Bl;simp only[go_sem,d,x94,show decide ((0:Int)<=-1)=false by rfl]
      exact o
     .intro O1 g f K o;have d:O1 85=.bool false:=f 3 85 kr rfl
      have x95:O1 95=.bool false:=f 13 95 kr rfl
      unfold Bl;simp only[go_sem,d,x95];exact o
    .intro O1 g f;have x96:O1 96=.bool false:=f 14 96 rfl;have y0:O1 0=.lst 1 n (fun i=>.lst 2 (n+1) (fun j=>.big (H i j))):=(g 0 dc).trans (by simp only[go_sem,r])
     have y4:O1 4=.int .i64 n:=(g 4 dc).trans (by simp only[go_sem,z])
     have y7:O1 7=x:=(g 7 dc).trans (by simp only[go_sem,u])
     have y8:O1 8=.int .i64 p:=(g 8 dc).trans (by simp only[go_sem,w])
     have y9:O1 9=.int .i64 p:=(g 9 dc).trans (by simp only[go_sem,t])
     have y20:O1 20=.int .i64 ((n+1:Nat):Int):=(g 20 dc).trans (by simp only[go_sem,l])
     have y21:O1 21=.int .i64 p:=(g 21 dc).trans (by simp only[go_sem,m])
     have y76:O1 76=.lst 2 p (fun j=>.big (H p j)):=(g 76 dc).trans (by simp only[go_sem,A])
     have y77:O1 77=.int .i64 p:=(g 77 dc).trans (by simp only[go_sem,B])
     have y78:O1 78=.int .i64 j:=(g 78 dc).trans (by simp only[go_sem,C])
     simp only[go_sem,x96,y0,y4,y7,y8,y9,y20,y21,y76,y77,y78,aS (om:j<1000000),co]
     exact⟨⟨j+1,om,rfl,X⟩,om⟩
   .obtain rfl:j=p:=om
    simp only[go_sem,A,B,C,M];rw[G];simp -dsimp only[*,go_sem];refine aG.intro fun b100 Z=>?_;have hxb:=D.fresh Z;have hX2:=D.upd (by rfl) hxb ⟨3,1,1,fun a=>[AV.int .i64 j].getD a .any⟩
    try simp -dsimp only[*,go_sem]
    refine c8.app3 (v:=.int .i64 j) hX2 om (by simp[eO]) (bQ ⟨_,_,_,rfl,cp,rfl,fun h=>hxb _ h rfl⟩) ?_
    intro c S6 hX' _ _;simp only[*,go_sem,aS (om:j<1000000),co]
    refine⟨⟨j+1,om,rfl,?_⟩,om⟩
    rw[(om:min (j+1) n=j+1)]
    exact hX'.congr fun a _=>by
     by_cases e:a=j
     .rw[ah e,e]
     .rw[af e]
  .obtain rfl:p=n:=om
   obtain rfl:c=p:=om
   simp only[go_sem,r,z,u,w,t,l,m,b];rw[G];rw[Ol,ah rfl,zO,Oq,Oq,TQ];refine Q5 fun K' hK'=>?_;simp only[go_sem,z,t];rw[hK',zO,IA,show ev _ (.tmp 42)=AV.bool true by simp only[go_sem,dw],cd_t]
   simp only[*,go_sem,aS (om:c<1000000),co]
   refine⟨⟨c+1,om,rfl,?_⟩,om⟩
   rw[(om:min (c+1) c=min c c)]
   exact D
 obtain rfl:c=n+1:=om
 simp only[*,go_sem];rcases D.2 with⟨h,_⟩|⟨c0,_,rfl,hL⟩
 .omega
 rw[(om:min (n+1) n=n)]at hL ⊢
 exact VR.tup2 (VR.sl hL om (fun a f=>by rw[az];exact VR.mf rfl)) (VR.mf rfl)

def Ha{g:Nat->AV}{K:AV->Prop}(a:j<=n)(h:K (.lst 2 j g)):kG 59 (.lst 2 n g) (some (.int .i64 0)) (some (.int .i64 (j:Int))) ab K :=
 ⟨rfl,0,j,rfl,rfl,trivial,om,a,by simpa using h⟩
def PU(n m M:Nat)(A:Nat->Nat->Int)(k:Nat)(h1:n<=100)(T:m<=M)(U:M<=100)(h3:1<=m)(V:∀i j,i<n->j<m->nb (A i j) k)(hk:k<=1000000):MF 186 [aU n M A,.int .i64 0,.int .i64 m] n m A:=by
 refine MF.of ?_;refine jI func186 ntmps186 results186 ?_;have W:((0:Int)==(m:Int))=false:=by simp;omega
 simp -dsimp only[go_sem,aU,bC,W]
 repeat refine an ?_
 refine aG.intro fun l f7=>?_;simp only[go_sem];refine aI (fun O S=>∃(i:Nat) (g:Nat->Nat),i<=n/\O 1=.int .i64 0/\O 2=.int .i64 m/\O 7=.sl 1 l 0 n/\O 18=aU n M A/\O 19=.int .i64 n/\O 20=.int .i64 i /\
  bG S l 59 1 n (fun a=>if a<i then .sl 2 (g a) 0 m else .nil)/\(∀a,a<i->jx S (g a) m (A a))/\∀a c,a<i->c<i->g a=g c->a=c) (fun O S=>n-co (O 20)) ?_ ?_
 .simp only[go_sem,aU,bC];exact⟨0,om,rfl,fun _=>0,bG.here fun _ _=>by simp,fun a b=>om,fun a c b=>om⟩
 .rintro O S ⟨i,g,hi,Y,Z,N,D,E,F,u,s,hI⟩;by_cases o:i<n
  .simp only[*,go_sem,aU,bC,cV,fX];refine Ha T ?_;simp only[go_sem];refine aI (fun O S'=>∃(j:Nat) (x:AV),j<=m/\O 1=.int .i64 0/\O 2=.int .i64 m/\O 7=.sl 1 l 0 n/\O 8=.int .i64 i/\O 18=aU n M A/\O 19=.int .i64 n/\O 20=.int .i64 i/\O 28=bC m (A i)/\O 29=.int .i64 m/\O 30=.int .i64 j /\
    bG S' l 59 1 n (fun a=>if a<i then .sl 2 (g a) 0 m else if a=i then x else .nil)/\(∀a,a<i->jx S' (g a) m (A a)/\¬eC x (g a))/\c8 50 2 St.none S' x j (fun c=>.big (A i c))) (fun O S=>m-co (O 30)) ?_ ?_
   .simp only[*,go_sem,aU,bC];exact⟨0,om,rfl,.nil,u.congr fun a _=>by grind,fun a b=>⟨s a b,by rintro⟨_,_,_,e⟩;cases e⟩,c8.nil (fun k X h=>by cases h) _⟩
   .rintro O S' ⟨j,x,hj,Y,Z,N,e8,D,E,F,e28,e29,e30,u,s,t⟩;by_cases G:j<m
    .simp -dsimp only[*,go_sem,aU,bC];refine aG.intro fun p q=>?_;obtain⟨g1,v,P⟩:=u;have H:g1 i=x:=by rw[P i o];simp
     have r:l≠p:=bG.fresh (bG.of v) q;simp -dsimp only[go_sem];refine ie 9 kr ?_
     simp -dsimp only[go_sem,N,e8,o,r,v,H,bR]
     repeat refine an ?_
     refine⟨_,(sd (V i j o G) om).pure',?_⟩;simp -dsimp only[go_sem];have w:∀d,eC x d->d≠p:=t.fresh q;have I:=t.other v om;refine c8.app50 ((t.upd (by rfl) w _).upd (by rfl) w _) om (show eO 2 (.big (A i j))from trivial) (bW ⟨_,rfl,rfl⟩) ?_
     intro c S2 y z B;have J:=z l _ (by rw[aO r,aO r];exact v) I
     simp only[*,go_sem,aU,bC,aS (om:j<1000000),co]
     repeat refine an ?_
     refine⟨⟨j+1,om,rfl,.sl 2 c 0 (j+1),bG.here fun a b=>?_,fun a b=>?_,?_⟩,om⟩
     .have:=P a b;grind [bR]
     .obtain⟨C,Q⟩:=s a b;have f:g a≠p:=bG.fresh C q;have K:g a≠l:=bG.ne C (bG.of v) om;refine⟨(C.via fun X t=>z _ _ (by rw[aO f,aO f];exact t) Q).upd K _,fun R=>?_⟩
      rw[eH]at R;rw[<-R]at B;rcases B with h|h
      .exact Q h
      .rw[aO f,aO f]at h;exact bG.fresh C h rfl
     .refine(y.upd (by rfl) (fun d L e=>?_) _).congr (fun a b=>by grind)
      rw[e]at L;exact y.other J om L
    .simp only[*,go_sem,aU,bC,aS (om:i<1000000),co]
     obtain rfl:j=m:=om
     rcases t.2 with⟨h0,_⟩|⟨c,_,rfl,hC⟩
     .omega
     refine⟨⟨i+1,om,rfl,fun a=>if a=i then c else g a,u.congr fun a b=>by grind,fun a b=>?_,fun a d b L e=>?_⟩,om⟩
     .by_cases e:a=i
      .subst e;simp only[aK];exact hC
      .simp only[e,aM];exact(s a om).1
     .have k1:=fun a b=>(s a b).2;simp only[eH]at k1
      grind
  .simp only[*,go_sem,aU,bC];obtain rfl:i=n:=om
   exact⟨l,rfl,g,u.congr fun a b=>by simp[b],s,hI⟩
structure vK(n k:Nat)(A:aH)(B:aH):Prop where
 ex:∃R H U,LU n A R H U/\CU n k (fun i j=>lK (n+1) (fun k r=>A r k) U j i)/\B=fun i j=>lK (n+1) (fun k r=>A r k) U j i
def BU(n k:Nat)(M:aH)(d:nv n (fq n M))(e:k<=1000000)(f:∀R H U,LU n (fq n M) R H U->(∀a r,a<n+1->r<n+n+1->nb (lK (n+1) (fun k r=>fq n M r k) U a r) k)/\CU n k (fun i j=>lK (n+1) (fun k r=>fq n M r k) U j i)) :
  cZ 123 [aU n (n+1) M] St.none (fun r S'=>∃b g B,r=.tup [.sl 1 b 0 n,.bool true]/\vK n k (fq n M) B/\dE S' b g n n B):=by
 have l:=d.h1;have s:=d.hn;refine jI func123 ntmps123 results123 ?_;simp -dsimp only[go_sem,aa];refine(Ex n k M d e fun R H U h=>(f R H U h).1).mono ?_;rintro _ S1 ⟨R,H,U,m,V,rfl⟩;have c:=(f R H U m).2;have o:vK n k (fq n M) (fun i j=>lK (n+1) (fun k r=>fq n M r k) U j i):=⟨R,H,U,m,c,rfl⟩;generalize (fun i j=>lK (n+1) (fun k r=>fq n M r k) U j i)=B at c o;simp -dsimp only[go_sem,aa];refine(KY n k B l om e c).call ?_;simp -dsimp only[go_sem,aa];refine(PU n n (n+1) B k om om om l (fun i j p t=>c.nb i j p om) e _ _ (cY _ _)).mono ?_;rintro _ S2 ⟨b,g,rfl,q⟩;simp only[go_sem];exact⟨b,rfl,g,B,o,q.1⟩

def rm(a:1<=m)(i j:Nat):0<=ma A m i j/\ma A m i j<m:=⟨aT _ om,aP _ om⟩
def LZ(n K l:Nat)(A B:aH)(m:Int)(o:1<=n)(d:n<=16)(e:1<=K)(b:K<=16)(p:1<=l)(f:l<=16)(q:2<=m)(a:m<=2147483647):Gv 181 [aC n K A,aC K l B,.int .i64 m] n l (lh (ma A m) (ma B m) K m):=by
 refine Gv.of ?_;refine jI func181 ntmps181 results181 ?_;have r:0<n:=om
 have g:(0:Int)<(n:Int):=om
 simp -dsimp only[go_sem,aa];refine(tT n K A o d e b).call ?_;simp -dsimp only[go_sem,aa];refine(tT K l B e b p f).call ?_;simp -dsimp only[go_sem,aa,aC,aW,g,show((K:Int) != K)=false by simp]
 refine(lu m q a).call ?_;simp -dsimp only[go_sem,aa];refine(mS n K A m d b om a _ _ (cY _ _)).mono ?_;rintro _ S1 ⟨u,v,rfl,h⟩;simp -dsimp only[go_sem,aa];refine(mS K l B m b f om a _ _ (cY _ _)).mono ?_;rintro _ S2 ⟨w,x,rfl,c⟩;simp -dsimp only[go_sem,aa];refine(Hk n K l (ma A m) (ma B m) m d e b f om a (fun i j _ _=>rm om i j) (fun i j _ _=>rm om i j) _ _ (fH.imat (h.1.ext c.2.1) (fH.imat c.1 (cY _ _)))).mono ?_;rintro _ S3 ⟨s,t,rfl,k⟩;simp only[go_sem];exact⟨s,rfl,t,k.1⟩
def PC(n:Nat)(v:Nat->Int)(c:1<=n):PF 183 [aW n v] (.bool (v 0 != 0)):=by
 refine jo func183 ntmps183 results183 ?_;have b:0<n:=om
 have a:(0:Int)<(n:Int):=om
 simp only[go_sem,aW,a];exact VR.mf rfl
def Es(n m piv:Nat)(A:aH)(f:n<=16)(a:1<=m)(g:piv<n)(b:A piv 0≠0)(c:∀i,i<piv->A i 0=0):PF 182 [aC n m A,.fn 183 []] (.int .i64 piv):=by
 refine jo func182 ntmps182 results182 ?_;simp only[go_sem,aC,aW];refine aI (fun O S=>∃i:Nat,i<=piv/\O 0=aC n m A/\O 1=.fn 183 []/\O 7=.int .i64 n/\O 8=.int .i64 i) (fun O S=>n-co (O 8)) ?_ ?_
 .simp only[go_sem,aC,aW];exact⟨0,om,rfl⟩
 .rintro O S ⟨i,h,j,k,l,o⟩;have d:i<n:=om
  simp -dsimp only[*,go_sem,aa,aC,aW];refine(PC m (A i) a).call ?_;by_cases e:i=piv
  .subst e;simp only[*,go_sem,aC,aW,show(A i 0 != 0)=true by simp[b]]
   exact VR.mf rfl
  .simp only[*,go_sem,aC,aW,show(A i 0 != 0)=false by simp[c i om],aS (om:i<1000000),co]
   exact⟨⟨i+1,om,rfl⟩,om⟩

def DO:Nat->Int->Int->Int->Int->Int
 | 0,_,_,u,_=>u
 | f+1,a,b,u,v=>if b=0 then u else DO f b (a-iX a b*b) v (u-iX a b*v)
def smi(x:Int):Bool:=decide (-1000000<=x/\x<=1000000)
def rH:Nat->Int->Int->Int->Int->Bool
 | 0,_,_,_,_=>false
 | f+1,a,b,u,v=>if b=0 then a==1 else decide (0<=a-iX a b*b/\a-iX a b*b<b)&&smi a&&smi b&&smi u&&smi v&&smi (iX a b)&&smi (iX a b*b)&&smi (iX a b*v)&&rH f b (a-iX a b*b) v (u-iX a b*v)
def MV{x:Int}(h:smi x=true):IntKind.i64.wrap x=x:=by
 simp only[smi,dj]at h;exact i64_in om om
def MU{x y:Int}(h:smi x=true)(h':smi y=true):IntKind.i64.wrap (x-y)=x-y:=by
 simp only[smi,dj]at h h';exact i64_in om om
def Bt(F:Nat)(x m:Int)(k:1<=m)(g:m<=2147483647)(h:rH F m x 0 1=true):PF 229 [.int .i64 x,.int .i64 m] (.tup [.int .i64 (DO F m x 0 1%m),.bool true]):=by
 refine jo func229 ntmps229 results229 ?_;have l:¬(m=0):=om
 simp only[go_sem];refine aI (fun O S=>∃(a b u v:Int),O 1=.int .i64 m/\O 6=.int .i64 a/\O 7=.int .i64 b/\O 8=.int .i64 u/\O 9=.int .i64 v/\∃f,rH f a b u v=true/\DO f a b u v=DO F m x 0 1) (fun O S=>match O 7 with|.int _ b=>b.toNat|_=>0) ?_ ?_
 .simp only[go_sem];exact⟨m,rfl,x,rfl,0,rfl,1,rfl,F,h,rfl⟩
 .rintro O S ⟨a,b,u,v,w,y,z,n,A,f,c,d⟩
  cases f with
  | zero=>simp[rH]at c
  | succ f =>
   by_cases e:b=0
   .subst e;simp only[rH,aK]at c;simp only[DO,aK]at d;obtain⟨o,p⟩:=Fb (x:=u) k g;rw[d]at o p n;simp only[*,go_sem,show((0:Int) != 0)=false by simp]
    exact VR.mf rfl
   .simp only[rH,af e,ay,dj]at c;simp only[DO,af e]at d;obtain⟨⟨⟨⟨⟨⟨⟨⟨B,q⟩,C⟩,r⟩,D⟩,s⟩,i⟩,j⟩,t⟩:=c;have E:=MV s;have G:=MV i;have H:=MV j;have I:=MU q i;have J:=MU r j;simp only[*,go_sem,show(b != 0)=true by simp[e]]
    exact⟨⟨b,rfl,_,rfl,v,rfl,_,rfl,f,t,d⟩,om⟩
def GD(b:Nat)(S S':St):Prop:=∀c,c≠b->S' c=S c
def GD.refl(b:Nat)(S:St):GD b S S:=fun _ _=>rfl
def GD.upd(h:GD b S S')(X:ft):GD b S (S'.upd b X):=fun c a=>by simp only[St.upd,a,aM];exact h c a
def GD.has(h:GD b S S')(a:c≠b){t es n:Nat}{g:Nat->AV}(d:bG S c t es n g):bG S' c t es n g:=by
 obtain⟨g',e,f⟩:=d;exact⟨g',(h c a).trans e,f⟩
def GD.var(h:GD b S S')(a:c≠b){t es:Nat}{z:AV}(d:en S c t es z):en S' c t es z:=by
 obtain⟨g',e,f⟩:=d;exact⟨g',(h c a).trans e,f⟩
def He(n b:Nat)(v:Nat->Int)(f m:Int)(S:St)(F:n<=16)(G:1<=m)(t:m<=1000000)(H:0<=f/\f<m)(u:∀j,j<n->0<=v j/\v j<m)(w:bG S b 2 1 n (fun j=>.int .i64 (v j))) :
  cZ 230 [.sl 1 b 0 n,.int .i64 f,.int .i64 m] S (fun _ S'=>GD b S S'/\bG S' b 2 1 n (fun j=>.int .i64 (v j*f%m))):=by
 refine iC func230 rfl 24 ntmps230 kr sm ?_
 rw[ml,results230];have g:¬(m=0):=om
 simp only[go_sem];refine aI (fun O S'=>∃i:Nat,i<=n/\O 0=.sl 1 b 0 n/\O 1=.int .i64 f/\O 2=.int .i64 m/\O 8=.sl 1 b 0 n/\O 9=.int .i64 n/\O 10=.int .i64 i/\GD b S S'/\bG S' b 2 1 n (fun j=>.int .i64 (if j<i then v j*f%m else v j))) (fun O S=>n-co (O 10)) ?_ ?_
 .simp only[go_sem];exact⟨0,om,rfl,GD.refl b S,w.congr fun j _=>by simp⟩
 .rintro O S' ⟨i,I,k,l,c,o,p,d,q,r⟩;by_cases a:i<n
  .obtain⟨x,y,s⟩:=id r;have z:x i=.int .i64 (v i):=(s i a).trans sm
   have J:=u i a;have C:=oP (A:=1000000) (B:=1000000) (om:0<=v i/\v i<=1000000) (om:0<=f/\f<=1000000)
   have D:IntKind.i64.wrap (v i*f)=v i*f:=i64_in om om;have E:eI (v i*f) m=v i*f%m:=aN C.1;simp only[go_sem,aa,k,l,c,o,p,d,a,y,z,g,D,E,aS (om:i<1000000),co]
   refine⟨⟨i+1,om,rfl,q.upd _,bG.here fun j h=>?_⟩,om⟩
   by_cases e:j=i
   .subst e;simp[bR]
   .simp only[bR,e,aM];rw[s j h];by_cases c:j<i
    .simp[c,(om:j<i+1)]
    .simp[c,(om:¬j<i+1)]
  .obtain rfl:i=n:=om
   simp only[go_sem,k,l,c,o,p,d,a];exact⟨q,r.congr fun j h=>by simp[h]⟩
def Ao(n bt br bm:Nat)(x y:Nat->Int)(q m:Int)(S:St)(Q:n<=16)(R:1<=m)(v:m<=1000000)(T:0<=q/\q<m)(w:∀j,j<n->0<=x j/\x j<m)(z:∀j,j<n->0<=y j/\y j<m)(h:br≠bt)(b:bm≠bt)
  (k:bG S bt 2 1 n (fun j=>.int .i64 (x j))) (l:bG S br 2 1 n (fun j=>.int .i64 (y j))) (o:en S bm 2 1 (.int .i64 m)) :
  cZ 257 [.sl 1 bt 0 n,.sl 1 br 0 n,.int .i64 q,.ptr 1 bm 0] S (fun _ S'=>GD bt S S'/\bG S' bt 2 1 n (fun j=>.int .i64 ((x j-q*y j)%m))):=by
 refine iC func257 rfl 32 ntmps257 kr sm ?_
 rw[ml,results257];have p:¬(m=0):=om
 simp only[go_sem];refine aI (fun O S'=>∃i:Nat,i<=n/\O 0=.sl 1 bt 0 n/\O 2=.int .i64 q/\O 3=.ptr 1 bm 0/\O 9=.sl 1 br 0 n/\O 10=.int .i64 n/\O 11=.int .i64 i/\GD bt S S'/\bG S' bt 2 1 n (fun j=>.int .i64 (if j<i then(x j-q*y j)%m else x j))) (fun O S=>n-co (O 11)) ?_ ?_
 .simp only[go_sem];exact⟨0,om,rfl,GD.refl bt S,k.congr fun j _=>by simp⟩
 .rintro O S' ⟨i,U,C,f,D,s,c,d,g,t⟩;by_cases a:i<n
  .obtain⟨E,F,u⟩:=id t;obtain⟨G,V,H⟩:=id (g.has h l);obtain⟨W,I,J⟩:=id (g.var b o);have K:E i=.int .i64 (x i):=(u i a).trans sm
   have X:G i=.int .i64 (y i):=H i a;have Y:=w i a;have Z:=z i a;have k2:=oP (A:=1000000) (B:=1000000) (om:0<=m-q/\m-q<=1000000) (om:0<=y i/\y i<=1000000)
   have L:IntKind.i64.wrap (m-q)=m-q:=i64_in om om;have M:IntKind.i64.wrap ((m-q)*y i)=(m-q)*y i:=i64_in om om;have N:IntKind.i64.wrap (x i+(m-q)*y i)=x i+(m-q)*y i:=i64_in om om;have P:eI (x i+(m-q)*y i) m=(x i-q*y i)%m:=by
    rw[aN om,show x i+(m-q)*y i=x i-q*y i+m*y i by grind,Ml]
   simp -dsimp only[*,go_sem,aa];refine bD 15 kr ?_
   simp only[go_sem,aa,C,f,D,s,c,d,a,F,K,I,J,p,L,M,N,P,aS (om:i<1000000),co]
   refine⟨⟨i+1,om,rfl,g.upd _,bG.here fun j r=>?_⟩,om⟩
   by_cases e:j=i
   .subst e;simp[bR]
   .simp only[bR,e,aM];rw[u j r];by_cases f:j<i
    .simp[f,(om:j<i+1)]
    .simp[f,(om:¬j<i+1)]
  .obtain rfl:i=n:=om
   simp only[go_sem,s,c,d,a];exact⟨g,t.congr fun j r=>by simp[r]⟩
def np(m:Int)(S:St):cZ 228 [.int .i64 m] S (fun r S'=>∃b,S b=ab/\r=.fn 257 [.ptr 1 b 0]/\fM S S'/\en S' b 2 1 (.int .i64 m)):=by
 refine jI func228 ntmps228 results228 ?_;simp only[go_sem];refine aG.intro fun bc fc=>?_
 try simp -dsimp only[go_sem]
 exact⟨bc,fc,rfl,(fM.refl S).upd fc _,en.new rfl⟩

def N3{q:Int}(e:c<n)(f:i<n)(d:c≠i)(h:¬m∣det n R):¬m∣det n (fun a j=>setRow R c (fun j=>(R c j-q*R i j)%m) (dX i c a) j):=by
 have l:=Dd (setRow R c (fun j=>(R c j-q*R i j)%m)) f e (aj d);have o:=lU R e f d 1 (-q);have g:=uQ (h:=m) n (setRow R c (fun j=>(R c j-q*R i j)%m)) (setRow R c (fun j=>1*R c j+(-q)*R i j)) (fun a b=>by
  simp only[setRow];split
  .rw[show(R c b-q*R i b)%m-(1*R c b+-q*R i b)=(R c b-q*R i b)%m-(R c b-q*R i b) by grind]
   have:=oJ (R c b-q*R i b) m;exact⟨-((R c b-q*R i b)/m),by grind⟩
  .simp)
 rw[o,dG]at g;intro p;have r:m∣- det n (setRow R c (fun j=>(R c j-q*R i j)%m)):=by rw[<-l];exact p
 have s:=(Int.dvd_neg).1 r;have k:=IY s g;rw[show ∀x y:Int,x-(x-y)=y from fun x y=>om]at k
 exact h k
theorem FZ:∀(n:Nat) (A:aH),(∀i j,j<i->i<n->A i j=0)->∀i,i<n->A i i∣det n A
 | 0,_,_,i,c=>om
 | n+1,A,h,i,c=>by
  rw[sh A (fun a d=>h (a+1) 0 om om)]
  cases i with
  | zero=>exact Vn _ _
  | succ i=>exact cD (FZ n (fun i j=>A (i+1) (j+1)) (fun a b e f=>h _ _ om om) i om)
def dZ.swap{m:Nat}{A:Nat->Nat->Int}(h:dZ S b g n m A){p k:Nat}(v:p<n)(w:k<n)(r:p≠k){f:Nat->AV}(l:S b=some ⟨29,1,n,f⟩) :
  dZ (S.upd b ⟨29,1,n,bR (bR f p (.sl 1 (g k) 0 m)) k (.sl 1 (g p) 0 m)⟩) b (fun i=>g (dX k p i)) n m (fun i j=>A (dX k p i) j):=by
 obtain⟨g',o,s⟩:=h.outer;rw[l]at o;cases o;have c:∀i,i<n->dX k p i<n:=fun i a=>by unfold dX;split<;>(try split)<;>omega
 refine⟨bG.here fun i a=>?_,fun i a=>(h.row _ (c i a)).upd (fun e=>?_) _,fun i j a t e=>?_⟩
 .have:=s i a;simp only[bR,dX];by_cases d:i=k
  .subst d;simp
  .by_cases q:i=p
   .subst q;simp[d]
   .simp[d,q,this]
 .exact bG.ne (bG.of l) (h.row _ (c i a)) om e.symm
 .have u:=h.inj _ _ (c i a) (c j t) e;unfold dX at u
  grind
structure Rj(n b bm:Nat)(m:Int)(S:St)(g:Nat->Nat)(R:aH):Prop where
 mat:dZ S b g n n R
 rng:∀i j,i<n->j<n->0<=R i j/\R i j<m
 ndet:¬m∣det n R
 var:en S bm 2 1 (.int .i64 m)
 ne:b≠bm
 gne:∀a,a<n->g a≠bm
def Rz(n c:Nat)(R:aH):Prop:=∀a d,d<c->d<a->a<n->R a d=0
def cellN(S:St)(b i c:Nat):Nat:=match S b with
 | some X=>(match X.g i with
  | .sl _ b' _ _=>(match S b' with
   | some Y=>(match Y.g c with
    | .int _ z=>z.toNat
    | _=>0)
   | ab=>0)
  | _=>0)
 | ab=>0
def dZ.cellN{m:Nat}(h:dZ S b g n m A){i c:Nat}(a:i<n)(f:c<m):cellN S b i c=(A i c).toNat:=by
 obtain⟨p,j,k⟩:=h.outer;obtain⟨q,l,o⟩:=h.row i a;have d:=k i a;have e:=o c f;simp only at d e;simp[YtdobfmlmenaajaaGreatDoor.cellN,j,d,l,e]
def yj(n b:Nat)(g:Nat->Nat)(R:aH)(m:Int)(S:St)(hn:n<=16)(hm:1<=m)(Z:m<=1000000)(hM:dZ S b g n n R)(hr:∀i j,i<n->j<n->0<=R i j/\R i j<m)(hd:¬m∣det n R) :
  cZ 227 [.sl 1 b 0 n,.int .i64 m] S (fun r S'=>∃(s:Int) (g':Nat->Nat) (R':aH),r=.int .i64 s/\(s=1∨s=-1)/\dZ S' b g' n n R'/\(∀i j,i<n->j<n->0<=R' i j/\R' i j<m)/\(¬m∣det n R')/\Rz n n R'):=by
 refine jI func227 ntmps227 results227 ?_;simp -dsimp only[go_sem,aa];refine(np m S).mono ?_;rintro _ S1 ⟨bm,H,rfl,hE,hV⟩;simp only[go_sem];refine aI (fun O S'=>∃c:Nat,c<=n/\O 0=.sl 1 b 0 n/\O 5=.fn 257 [.ptr 1 bm 0]/\O 12=.int .i64 n/\O 13=.int .i64 c/\∃(s:Int) (g':Nat->Nat) (R':aH),O 6=.int .i64 s/\(s=1∨s=-1)/\Rj n b bm m S' g' R'/\Rz n c R') (fun O S=>n-co (O 13)) ?_ ?_
 .simp only[go_sem];exact⟨0,om,rfl,1,rfl,bW rfl,g,R,⟨hM.ext hE,hr,hd,hV,bG.fresh hM.outer H,fun a w=>bG.fresh (hM.row a w) H⟩,fun a d h=>om⟩
 .rintro O S' ⟨c,hc,y,z,o,p,s,g',R',C,x,k,u⟩;by_cases f:c<n
  .simp only[*,go_sem,aS (om:c<1000000)]
   refine aI (fun O S'=>∃i:Nat,i<=n/\O 0=.sl 1 b 0 n/\O 5=.fn 257 [.ptr 1 bm 0]/\O 7=.int .i64 c/\O 8=.int .i64 i/\O 12=.int .i64 n/\O 13=.int .i64 c/\∃(s:Int) (g':Nat->Nat) (R':aH),O 6=.int .i64 s/\(s=1∨s=-1)/\Rj n b bm m S' g' R'/\Rz n c R'/\c<i/\∀a,c<a->a<i->R' a c=0) (fun O S=>n-co (O 8)) ?_ ?_
   .simp only[*,go_sem];exact⟨c+1,om,rfl,s,rfl,x,g',R',k,u,om,fun a t A=>om⟩
   .clear y z C o p x k u;rintro O S' ⟨i,hi,y,z,E,F,o,p,s,g',R',C,x,k,u,I,G⟩;by_cases l:i<n
    .simp only[*,go_sem];refine aI (fun O S'=>O 0=.sl 1 b 0 n/\O 5=.fn 257 [.ptr 1 bm 0]/\O 7=.int .i64 c/\O 8=.int .i64 i/\O 12=.int .i64 n/\O 13=.int .i64 c/\∃(s:Int) (g':Nat->Nat) (R':aH),O 6=.int .i64 s/\(s=1∨s=-1)/\Rj n b bm m S' g' R'/\Rz n c R'/\c<i/\∀a,c<a->a<i->R' a c=0) (fun O S=>cellN S b i c) ?_ ?_
     .simp only[go_sem,y,z,C,E,F,o,p];exact⟨s,rfl,x,g',R',k,u,I,G⟩
     .clear y z C E F o p x k u G;rintro O S' ⟨y,z,E,F,o,p,s,g',R',C,x,k,u,_,G⟩;obtain⟨U,u1,v1⟩:=id k.mat.outer;obtain⟨g2,u2,v2⟩:=id (k.mat.row i l);obtain⟨g3,u3,v3⟩:=id (k.mat.row c f);have x1:U i=.sl 1 (g' i) 0 n:=v1 i l;have y1:U c=.sl 1 (g' c) 0 n:=v1 c f;have x2:g2 c=.int .i64 (R' i c):=v2 c f;have x3:g3 c=.int .i64 (R' c c):=v3 c f;have r1:=k.rng i c l f;have V:=k.rng c c f f;by_cases W:R' i c=0
      .simp only[*,go_sem,aa,show((0:Int) != 0)=false by simp,aS (om:i<1000000),co]
       refine⟨⟨i+1,om,rfl,s,rfl,x,g',R',k,u,om,fun a t A=>?_⟩,om⟩
       by_cases e:a=i
       .rw[e];exact W
       .exact G a t om
      .have hq0:=Int.tdiv_nonneg V.1 r1.1;have hq1:iX (R' c c) (R' i c)<=R' c c:=by
        rw[fU V.1];exact o0 _ V.1
       have w1:IntKind.i64.wrap (iX (R' c c) (R' i c))=iX (R' c c) (R' i c):=i64_in om om;generalize hq:iX (R' c c) (R' i c)=q at *;simp -dsimp only[go_sem,aa,y,z,C,E,F,o,p,l,f,u1,u2,x1,x2,show(R' i c != 0)=true by simp[W]]
       refine bD 24 kr ?_
       simp -dsimp only[go_sem,aa,y,z,E,F,l,f,u1,u2,u3,x1,y1,x2,x3,W,hq,w1];have J:g' i≠g' c:=fun e=>absurd (k.mat.inj i c l f e) om;refine(Ao n (g' c) (g' i) bm (R' c) (R' i) q m S' hn hm Z om (fun j K=>k.rng c j f K) (fun j K=>k.rng i j l K) J (aj (k.gne c f)) (k.mat.row c f) (k.mat.row i l) k.var).mono ?_;rintro _ S2 ⟨X,hH⟩;have L:b≠g' c:=k.mat.outer_ne f;have M:S2 b=some ⟨29,1,n,U⟩:=(X b L).trans u1;have hM2:dZ S2 b g' n n (setRow R' c (fun j=>(R' c j-q*R' i j)%m)):=by
        refine⟨X.has L k.mat.outer,fun a w=>?_,k.mat.inj⟩;by_cases e:a=c
        .subst e;exact hH.congr fun j _=>by simp[setRow]
        .refine(X.has (fun D=>e (k.mat.inj a c w f D)) (k.mat.row a w)).congr fun j _=>by simp[setRow,e]
       have hM3:=hM2.swap f l om M;simp -dsimp only[go_sem];refine ie 13 kr ?_
       have ws:IntKind.i64.wrap (0-s)=-s:=by rw[vT];exact i64_in om om
       have v:c≠i:=om
       simp only[go_sem,aa,y,z,C,E,F,o,p,l,f,M,x1,y1,ws];have key:(R' c c-q*R' i c)%m=R' c c-q*R' i c/\0<=R' c c-q*R' i c/\R' c c-q*R' i c<R' i c:=by
        have t:=fU (b:=R' i c) V.1;have A:=aT (R' c c) W;have Y:=aP (R' c c) (om:0<R' i c)
        have h4:=SD (R' c c) (R' i c);rw[hq]at t;rw[<-t,ck]at h4;exact⟨dH om om,om,om⟩
       have B:Rj n b bm m (S2.upd b ⟨29,1,n,bR (bR U c (.sl 1 (g' i) 0 n)) i (.sl 1 (g' c) 0 n)⟩) (fun a=>g' (dX i c a)) (fun a j=>setRow R' c (fun j=>(R' c j-q*R' i j)%m) (dX i c a) j):=by
        have N:∀a,a<n->dX i c a<n:=fun a w=>by unfold dX;split<;>(try split)<;>omega
        refine⟨hM3,fun a j w K=>?_,N3 f l v k.ndet,(X.var (aj (k.gne c f)) k.var).upd (aj k.ne) _,k.ne,fun a w=>k.gne _ (N a w)⟩;simp only[setRow];split
        .exact⟨aT _ om,aP _ om⟩
        .exact k.rng _ _ (N a w) K
       have ev:∀a d,(fun a j=>setRow R' c (fun j=>(R' c j-q*R' i j)%m) (dX i c a) j) a d=if a=i then(R' c d-q*R' i d)%m else if a=c then R' i d else R' a d:=fun a d=>by
        simp only[setRow,dX];by_cases P:a=i
        .simp[P]
        .by_cases D:a=c
         .simp[D,v,aj v]
         .simp[P,D]
       rw[mD];refine⟨⟨-s,rfl,om,_,_,B,fun a d t A Y=>?_,I,fun a t A=>?_⟩,?_⟩
       .refine(ev a d).trans ?_;by_cases P:a=i
        .rw[ah P,u c d t t f,u i d t om l];simp
        .rw[af P];by_cases D:a=c
         .rw[ah D,u i d t om l]
         .rw[af D];exact u a d t A Y
       .refine(ev a c).trans ?_;rw[af om,af om];exact G a t A
       .have Q:=B.mat.cellN l f;have e9:=k.mat.cellN l f;have T:=(ev i c).trans ((ah rfl).trans key.1);simp only at Q T;rw[T]at Q;omega
    .simp only[*,go_sem,aS (om:c<1000000),co]
     refine⟨⟨c+1,om,rfl,s,rfl,x,g',R',k,fun a d t A Y=>?_⟩,om⟩
     by_cases e:d=c
     .rw[e];exact G a om om
     .exact u a d om A Y
  .obtain rfl:c=n:=om
   simp only[*,go_sem];exact⟨s,rfl,x,g',R',k.mat,k.rng,k.ndet,u⟩
def GB(n:Nat)(H:aH)(m:Int)(p:1<=n)(L:n<=8)(M:2<=m)(q:m<=1000000)(u:∀a b:Int,m∣a*b->m∣a∨m∣b)(N:¬m∣det n H) :
  cZ 222 [aC n n H,.int .i64 m] St.none (fun r S'=>∃d:Int,d≠0/\r=.tup [.int .i64 d,.int .i64 0]):=by
 refine jI func222 ntmps222 results222 ?_;have e:¬(m=0):=om
 simp -dsimp only[go_sem,aa];refine(xD n H p L).call ?_;simp -dsimp only[go_sem,aa];refine(lu m M om).call ?_;simp -dsimp only[go_sem,aa];refine(mS n n H m om om om om _ _ (cY _ _)).mono ?_;rintro _ S1 ⟨b,g,rfl,P⟩;simp -dsimp only[go_sem,aa];have v:¬m∣det n (ma H m):=fun h=>by
  have Q:=uQ (h:=m) n (ma H m) H (fun a b=>by
   have:=oJ (H a b) m;exact⟨-(H a b/m),by simp only[ma];grind⟩)
  have o:=IY h Q;rw[show ∀x y:Int,x-(x-y)=y from fun x y=>om]at o
  exact N o
 refine(yj n b g (ma H m) m S1 om om q P.1 (fun i j _ _=>rm om i j) v).mono ?_;rintro _ S2 ⟨s,g',R,rfl,T,k,U,f,V⟩;have ws:IntKind.i64.wrap (s+m)=s+m:=i64_in om om;have w:∀i,i<n->¬m∣R i i:=fun i G h=>f (Int.dvd_trans h (FZ n R (fun a d p W=>V a d om p W) i G));simp only[go_sem,ws];refine aI (fun O S'=>∃i:Nat,i<=n/\O 1=.int .i64 m/\O 27=.sl 1 b 0 n/\O 28=.int .i64 n/\O 29=.int .i64 i/\∃d:Int,O 8=.int .i64 d/\¬m∣d/\0<=d/\dZ S' b g' n n R) (fun O S=>n-co (O 29)) ?_ ?_
 .simp only[go_sem];refine⟨0,om,rfl,s+m,rfl,fun h=>?_,om,k⟩
  obtain⟨t,I⟩:=h;have J:s=m*(t-1):=by rw[pw];omega
  have z:m∣1:=by
   rcases T with rfl|rfl
   .exact⟨_,J⟩
   .exact⟨-(t-1),by rw[nB,<-J];rfl⟩
  have:=pn om z;omega
 .rintro O S' ⟨i,G,X,C,D,E,d,Y,f,F,k⟩;by_cases c:i<n
  .obtain⟨Z,u1,v1⟩:=id k.outer;obtain⟨g2,u2,v2⟩:=id (k.row i c);have x1:Z i=.sl 1 (g' i) 0 n:=v1 i c;have x2:g2 i=.int .i64 (R i i):=v2 i c;have r1:=U i i c c;have q0:eI d m=d%m:=aN F;have K:0<=d%m/\d%m<m:=⟨aT _ e,aP _ om⟩;have r3:=oP (A:=1000000) (B:=1000000) (om:0<=d%m/\d%m<=1000000) (om:0<=R i i/\R i i<=1000000)
   have q1:IntKind.i64.wrap (d%m*R i i)=d%m*R i i:=i64_in om om;have q2:eI (d%m*R i i) m=d%m*R i i%m:=aN r3.1;simp -dsimp only[*,go_sem,aa];refine bD 10 kr ?_
   simp only[go_sem,aa,X,Y,C,D,E,c,u2,x2,e,q0,q1,q2,aS (om:i<1000000),co]
   refine⟨⟨i+1,om,rfl,d%m*R i i%m,rfl,fun h=>?_,aT _ e,k⟩,om⟩
   have o:m∣d%m*R i i:=cR (by
    obtain⟨t,I⟩:=h;have:=aP (d%m*R i i) (om:0<m)
    have l:=aT (d%m*R i i) e;have:=dH l this;rw[<-this,I];exact Int.mul_emod_right _ _)
   rcases u _ _ o with l|l
   .exact f (cR (by
     have:=dH K.1 K.2;rw[<-this];exact fm l))
   .exact w i c l
  .simp only[*,go_sem];exact⟨d,fun h=>f (by rw[h];exact jp _),rfl⟩

end Go.Proofs.YtdobfmlmenaajaaGreatDoor
