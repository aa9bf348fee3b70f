/-
  Lemmas for NeighbourRaw.
-/
import Derived.Test.YtdobfmlmenaajaaGreatDoorH26
namespace Go.Proofs.YtdobfmlmenaajaaGreatDoor
open Go.RowKit Tryz
open _root_.Int renaming tmod→fo,tdiv→pG,dvd_iff_emod_eq_zero→tj
open _root_.Option renaming none→ab
set_option maxHeartbeats 6400000
set_option maxRecDepth 4096
set_option linter.all false
attribute [local go_sem] Nat.reduceAdd Nat.reduceEqDiff Nat.reduceLeDiff Nat.reduceLT reduceCtorEq Int.ofNat_lt decide_true decide_false Int.zero_le_ofNat
attribute [local go_sem ↓] reduceIte
variable{x y:AV}{Q:AX->Tm->St->Prop}{ops:Array Oper}{D m:Int}{l:List Oper}{b b1 b3 b8 bu c i j n top:Nat}{g gu:Nat->Nat}{S S' S0:St}{O:Tm}{K:Tm->St->Prop}{A C R X:aI}
def wM(A:aI)(n R:Nat):aI:=fun a b=>A (vn n R a) b
structure mV(n:Nat)(A:aI):Prop where
 h1:1<=n
 hn:n<=8
 hB:∀σ k,lZ A (n+1) σ k->∀k' i j,k'+j<n+1->k'+i<n+n+1->nb (cQ (fun x y=>A x (σ y)) k' i j) KB
 hdet:det (n+1) (wM A n (n+n))≠0
 hrow:∀R,n<=R->R<=n+n->det (n+1) (wM A n R)≠0->∀σ neg k,od (wM A n R) (n+1) σ neg k->∀k' i j,k'+i<n+1->k'+j<n+1->nb (cQ (fun a b=>wM A n R (σ a) b) k' i j) KB
 hent:∀r j,r<n+n+1->j<n+1->nb (A r j) KB
structure LK(n:Nat)(A:aI)(R:Nat)(H U:aI):Prop where
 r1:n<=R
 r2:R<=n+n
 dt:det (n+1) (wM A n R)≠0
 tl:∃d M,TL (n+1) (fy (n+1) (n+1) (wM A n R)) d M/\M 0=((det (n+1) (wM A n R)).natAbs:Int)/\HI (n+1) (fy (n+1) (n+1) (wM A n R)) d M (n+1) (fun j r=>H r j)
 mu:∀i j,i<n+1->j<n+1->mm (n+1) (wM A n R) U i j=H i j
def mV.dlt(h:mV n A){R:Nat}(a:n<=R)(b:R<=n+n)(c:det (n+1) (wM A n R)≠0):(det (n+1) (wM A n R)).natAbs<PB:=by
 have:=h.hrow R a b c id false 0 (od.init _ _) n 0 0 om om;rw[df]at this;have d:nb (det (n+1) (wM A n R)) KB:=this;have:=d.P;omega
structure TF(S0 S:St)(b b1 b3 bu:Nat)(g gu:Nat->Nat)(n top:Nat)(A X:aI)(D:Int):Prop where
 cols:dH S b g (n+1) (n+n+1) (fun j r=>A r j)
 pair:bM S b1 218 1 2 (MY b (n+1) top)
 var:ed S b3 50 2 (.big D)
 mat:dH S bu gu (n+1) (n+1) X
 ext:ft S0 S
 new:∀a,a<n+1->S0 (gu a)=ab
def TF.congr{Y:aI}(h:TF S0 S b b1 b3 bu g gu n top A X D)(d:∀a c,a<n+1->c<n+1->X a c=Y a c):TF S0 S b b1 b3 bu g gu n top A Y D:=⟨h.cols,h.pair,h.var,h.mat.congr d,h.ext,h.new⟩
def TF.other(h:TF S0 S b b1 b3 bu g gu n top A X D){e:Nat}(c:S e=ab)(Z:eS):TF S0 (S.upd e Z) b b1 b3 bu g gu n top A X D :=
 ⟨h.cols.upd (bM.fresh h.cols.outer c) (fun a d=>bM.fresh (h.cols.row a d) c) _,h.pair.upd (bM.fresh h.pair c) _,h.var.upd (h.var.fresh c) _,h.mat.upd (bM.fresh h.mat.outer c) (fun a d=>bM.fresh (h.mat.row a d) c) _,h.ext.upd (h.ext.none c) _,h.new⟩
def TF.set(h:TF S0 S b b1 b3 bu g gu n top A X D){i j:Nat}{z:Int}{g':Nat->AV}(c:i<n+1)(d:S (gu i)=some ⟨50,2,n+1,g'⟩)(m:1<=n):TF S0 (S.upd (gu i) ⟨50,2,n+1,bW g' j (.big z)⟩) b b1 b3 bu g gu n top A (fu X i j z) D:=by
 have f:=h.mat.row i c;refine⟨h.cols.upd (bM.ne h.cols.outer f dc) (fun a l e=>?_) _,h.pair.upd (bM.ne h.pair f dc) _,h.var.upd (fun e=>?_) _,h.mat.set c d,h.ext.upd (h.new i c) _,h.new⟩
 .obtain⟨y,k,_⟩:=h.cols.row a l;rw[e,d]at k;have k':=jL (Option.map eS.n) k;simp only[du,eU]at k';omega
 .obtain⟨y,k,_⟩:=h.var;rw[e,d]at k;cases k;omega
def zy(S0:St)(b n top:Nat)(g:Nat->Nat)(A:aI)(F:mV n A)(hO:dH S0 b g (n+1) (n+n+1) (fun j r=>A r j)) :
  cP 233 [.agg [.sl 1 b 0 (n+1),.int .i64 top]] S0 (fun _ S'=>(∃R H U,LK n A R H U/\∃g',dH S' b g' (n+1) (n+n+1) (lu (n+1) (fun k r=>A r k) U))/\iS b S0 S'):=by
 have hKB:=mY;refine iw func233 rfl 65 ntmps233 kr sm ?_
 rw[lA,results233];have h1:=F.h1;have hn:=F.hn;simp -dsimp only[go_sem,bn,bS,cB,cM];refine aF.intro fun P f1=>?_;refine oK (fun T=>bM T P 218 1 2 (MY b (n+1) top)/\ft S0 T) ?_ ?_
 .refine⟨bM.here fun j f=>?_,(ft.refl S0).upd f1 _⟩
  match j,f with
  | 0,_=>rfl
  | 1,_=>rfl
 rintro T ⟨G,Y⟩;have Z:=hO.ext Y;obtain⟨g1,u1,Q⟩:=id G;have x0:g1 0=.sl 1 b 0 (n+1):=Q 0 om;have x1:g1 1=.int .i64 top:=Q 1 om;refine fH 3 [[0,1],[],[]] kr ?_
 simp -dsimp only[go_sem,aa,u1,x0,x1,eA];refine(wg T b g n (n+1) (n+n+1) top A hn h1 rfl rfl Z.cols F.hB F.hdet).mono ?_;rintro _ S1 ⟨e,R,rfl,r1,r2,C,hL,v⟩;obtain⟨g2,u2,v2⟩:=id (v.has G);have y0:g2 0=.sl 1 b 0 (n+1):=v2 0 om;simp -dsimp only[go_sem,aa,u2,y0];have hO1:=Z.ext v;refine(yw (n+1) (n+n+1) (n+1) KB (fun j r=>A r j) (vn n R) om om (fun i q=>by unfold vn;split<;>omega) (fun c r hc hr=>F.hent r c hr hc) om _ _ (fI.two hO1.vr.va (VR.sl hL om (fun a s=>by rw[aD];exact VR.mf rfl)).va)).mono ?_
 rintro _ S2 ⟨bw,gw,rfl,x,hE2,_,_⟩
 replace C:det (n+1) (wM A n R)≠0:=C
 replace x:dH S2 bw gw (n+1) (n+1) (wM A n R):=x
 have V:=F.hrow R r1 r2 C;have hdl:=F.dlt r1 r2 C;have I:∀i j,i<n+1->j<n+1->nb (wM A n R i j) KB:=fun i j q f=>F.hent _ _ (by unfold vn;split<;>omega) f
 have y:ft S0 S2:=(Y.trans v).trans hE2;have hp2:=(v.trans hE2).has G;simp -dsimp only[go_sem,aa];refine(Oy (n+1) KB (wM A n R) om om om om C V).spec (fI.one x.vr.va) ?_;simp -dsimp only[go_sem];refine aF.intro fun E f3=>?_
 try simp -dsimp only[go_sem]
 have s3:=y.none f3;have hNR:n+1≠1:=om
 refine Gn (fun T=>dH T bw gw (n+1) (n+1) (wM A n R)/\ed T E 50 2 (.big (det (n+1) (wM A n R)))/\ft S0 T/\bM T P 218 1 2 (MY b (n+1) top)) ?_ ?_
 .have q1:bw≠E:=bM.fresh x.outer f3;have q2:∀a,a<n+1->gw a≠E:=fun a s=>bM.fresh (x.row a s) f3;have q3:P≠E:=bM.fresh hp2 f3;exact⟨(x.upd q1 q2 _).upd q1 q2 _,ed.set,(y.upd s3 _).upd s3 _,(hp2.upd q3 _).upd q3 _⟩
 clear x y hp2 v hE2 hL hO1 u2 v2 y0 u1 Q x0 x1 Z G Y f3;rintro T3 ⟨x,V3,t,hp3⟩;refine(ED (n+1) KB (wM A n R) om om om om I _ _ (fI.one x.vr.va)).mono ?_;rintro _ S4 ⟨ba,ga,rfl,hA4,z,_⟩;obtain⟨g3,u3,x3⟩:=id (V3.ext z);simp -dsimp only[go_sem,aa,u3,x3];have hw4:=x.ext z;refine(zw (n+1) (wM A n R) om om (fun i j q f=>(I i j q f).mono om) C hdl _ _ (fI.two hw4.vr.va (VA.refl _ _))).mono ?_;rintro _ S5 ⟨bh,gh,H,rfl,⟨d,M,hTL,hM0,J⟩,hH5,K,_⟩;have hHr:∀i j,i<n+1->j<n+1->nb (H i j) KB:=fun i j q f=>by
  have:=J.rng hTL (ae _) (fun c r _ h1 h2=>om) f q
  exact GI om
 have hAb:∀i j,i<n+1->j<n+1->nb (np (n+1) (wM A n R) i j) (jc KB n):=fun i j q f=>by
  have:=Aj om om I n i j q f;unfold np;split
  .exact this.neg
  .exact this
 have hbm:=pA KB n;have hbl:=yK KB om n om;obtain⟨U,hU1,hU2⟩:=K7 (N:=n+1) (w:=wM A n R) (H:=H) om (fun j f=>J.mem j f);simp -dsimp only[go_sem,aa];refine(uU (n+1) (n+1) (n+1) (jc KB n) (np (n+1) (wM A n R)) H om om om om om om hAb (fun i j q f=>(hHr i j q f).mono hbm) om _ _ (fI.two (hA4.ext K).vr.va hH5.vr.va)).mono ?_;rintro _ S6 ⟨bu,gu,rfl,hU6,hE6,nu,nug⟩;have h:=(z.trans K).trans hE6;have hXb:∀i j,i<n+1->j<n+1->nb (mm (n+1) (np (n+1) (wM A n R)) H i j) (jc KB n+jc KB n+9):=fun i j q f=>JJ om hAb (fun i j q f=>(hHr i j q f).mono hbm) q f;have hTF:TF S0 S6 b P E bu g gu n top A (fun a c=>det (n+1) (wM A n R)*U a c) (det (n+1) (wM A n R)):=⟨hO.ext (t.trans h),h.has hp3,V3.ext h,hU6.congr hU2,t.trans h,fun a s=>((t.trans z).trans K).none (nug a s)⟩;have hDb:∀a c,a<n+1->c<n+1->nb (det (n+1) (wM A n R)*U a c) (jc KB n+jc KB n+9):=fun a c s hc=>by rw[<-hU2 a c s hc];exact hXb a c s hc
 have hTr:LK n A R H U:=⟨r1,r2,C,⟨d,M,hTL,hM0,J⟩,hU1⟩;have hUb:∀a c,a<n+1->c<n+1->nb (U a c) (jc KB n+jc KB n+10):=fun a c s hc=>by
  have:=DR (b:=det (n+1) (wM A n R)) (hDb a c s hc)
  rwa [dh _ C]at this
 generalize hDe:det (n+1) (wM A n R)=D at *;clear J hTL hM0 hH5 hU6 hA4 hw4 x V3 u3 x3 h hE6 K z t hp3 nu nug hU1 hU2 hXb hAb hHr V I;simp -dsimp only[go_sem];refine aH (fun O S=>∃i:Nat,i<=n+1/\O 1=.ptr 1 P 0/\O 3=.ptr 2 E 0/\O 7=.sl 1 bu 0 (n+1)/\O 36=.sl 1 bu 0 (n+1)/\O 37=.int .i64 ((n+1:Nat):Int)/\O 38=.int .i64 i/\TF S0 S b P E bu g gu n top A (fun a c=>if a<i then U a c else D*U a c) D) (fun O S=>n+1-cj (O 38)) ?_ ?_
 .simp -dsimp only[go_sem];exact⟨0,om,rfl,hTF.congr fun a c _ _=>by simp⟩
 clear hTF;rintro O S ⟨i,q,W,e3,X,l,m,o,u⟩;by_cases p:i<n+1
 .obtain⟨g1,u1,Q⟩:=u.mat.outer;have x1:g1 i=.sl 2 (gu i) 0 (n+1):=Q i p;simp -dsimp only[go_sem,aa,W,X,l,m,o,p,u1,x1];refine aH (fun O S=>∃j:Nat,j<=n+1/\O 1=.ptr 1 P 0/\O 3=.ptr 2 E 0/\O 7=.sl 1 bu 0 (n+1)/\O 10=.sl 2 (gu i) 0 (n+1)/\O 36=.sl 1 bu 0 (n+1)/\O 37=.int .i64 ((n+1:Nat):Int)/\O 38=.int .i64 i/\O 42=.sl 2 (gu i) 0 (n+1)/\O 43=.int .i64 ((n+1:Nat):Int)/\O 44=.int .i64 j/\TF S0 S b P E bu g gu n top A (fun a c=>if a<i∨(a=i/\c<j)then U a c else D*U a c) D) (fun O S=>n+1-cj (O 44)) ?_ ?_
  .simp -dsimp only[go_sem,W,e3,X,l,m,o];exact⟨0,om,rfl,u.congr fun a c _ _=>by simp⟩
  clear u W e3 X l m o u1 Q x1;rintro O S ⟨j,f,W,e3,X,e10,l,m,o,e42,e43,L,u⟩;by_cases B:j<n+1
  .obtain⟨g2,u2,v2⟩:=u.mat.row i p;have x2:g2 j=.big (D*U i j):=(v2 j B).trans sm
   obtain⟨g3,u3,x3⟩:=id u.var;simp -dsimp only[go_sem,aa,W,e3,X,l,m,o,e42,e43,L,B,u2];refine aF.intro fun b12 f12=>?_;have q1:E≠b12:=u.var.fresh f12;have q2:gu i≠b12:=bM.fresh (u.mat.row i p) f12;simp -dsimp only[go_sem,aa,e3,e10,L,x2,u3,x3,q1,eZ];refine(jl (hDb i j p B) ((GI om).mono om) om C).call ?_;rw[dh _ C];simp -dsimp only[go_sem,aa,W,e3,X,e10,l,m,o,e42,e43,L,B,u2,x3,q2,aP (om:j<1000000),cj]
   refine⟨⟨j+1,om,rfl,?_⟩,om⟩
   rw[mh];refine((u.other f12 _).set p (by rw[aO q2];exact u2) om).congr fun a c _ _=>?_
   simp only[fu];by_cases e:a=i/\c=j
   .obtain⟨rfl,rfl⟩:=e;simp
   .rw[af e];by_cases e2:a<i∨(a=i/\c<j)
    .rw[ai e2,ai om]
    .rw[af e2,af om]
  have hnj:n+1=j:=om
  simp -dsimp only[go_sem,aa,W,e3,X,l,m,o,e42,e43,L,B,aP (om:i<1000000),cj]
  refine⟨⟨i+1,om,rfl,u.congr fun a c _ hc=>?_⟩,om⟩
  by_cases e2:a<i∨(a=i/\c<j)
  .rw[ai e2,ai om]
  .rw[af e2,af om]
 obtain⟨g1,u1,Q⟩:=id u.pair;have x1:g1 0=.sl 1 b 0 (n+1):=Q 0 om;simp -dsimp only[go_sem,aa,W,X,l,m,o,p,u1,x1];refine(G8 S b bu g gu (n+1) (n+n+1) (jc KB n+jc KB n+40) (fun j r=>A r j) _ om om om (fun a r s hr=>(F.hent r a hr s).mono om) (fun a r s hr=>?_) om u.cols u.mat).mono ?_
 .rw[ai om];exact(hUb a r s hr).mono om
 rintro _ S7 ⟨⟨g',hO7⟩,hK7⟩;simp -dsimp only[go_sem];refine⟨⟨R,H,U,hTr,g',hO7.congr fun a r s hr=>?_⟩,(iS.ext u.ext).trans hK7⟩;unfold lu;exact aE fun k hk=>by dsimp only;rw[ai om]

def xP(n m:Nat)(A:aI)(a:1<=n)(b:n<=16)(c:1<=m)(d:m<=16):PF 210 [aR n m A] (.tup [.int .i64 n,.int .i64 m,.bool true]):=by
 refine iH func210 ntmps210 results210 ?_;simp -dsimp only[go_sem,aa,aR,bB];refine(lh n m A a b c d).call ?_;simp only[go_sem];exact VR.tup (by simp[pI])
structure FS(S:St)(b b8:Nat)(g:Nat->Nat)(n i:Nat)(C:aI)(x y:AV):Prop where
 cols:dH S b g (n+1) (n+n+1) C
 pair:bM S b8 218 1 2 (MY b (n+1) n)
 hx:da 3 1 St.none S x (min i n) (fun a=>.int .i64 ((a:Nat):Int))
 hy:da 3 1 St.none S y (i-n) (fun a=>.int .i64 ((n+a:Nat):Int))
 xy:∀d,eh x d->¬eh y d
def FS.other(h:FS S b b8 g n i C x y){e:Nat}(c:S e=ab)(Z:eS):FS (S.upd e Z) b b8 g n i C x y :=
 ⟨h.cols.upd (bM.fresh h.cols.outer c) (fun a d=>bM.fresh (h.cols.row a d) c) _,h.pair.upd (bM.fresh h.pair c) _,h.hx.upd rfl (h.hx.fresh c) _,h.hy.upd rfl (h.hy.fresh c) _,h.xy⟩
def FS.appx(h:FS S b b8 g n i C x y)(v:i<n){c:Nat}(l:da 3 1 St.none S' (.sl 1 c 0 (min i n+1)) (min i n+1) (fun a=>if a=min i n then .int .i64 (i:Int)else .int .i64 ((a:Nat):Int)))(m:∀d X,S d=some X->¬eh x d->S' d=some X)(p:eh x c∨S c=ab) :
  FS S' b b8 g n (i+1) C (.sl 1 c 0 (min i n+1)) y:=by
 have kp:∀{b ty es n:Nat} {g:Nat->AV},bM S b ty es n g->ty≠3->bM S' b ty es n g:=fun q r=>by
  obtain⟨z,o,s⟩:=q;exact⟨z,m _ _ o (h.hx.other o r),s⟩
 have t:min i n=i:=om
 refine⟨⟨kp h.cols.outer dc,fun a u=>kp (h.cols.row a u) dc,h.cols.inj⟩,kp h.pair dc,?_,?_,fun d j f=>?_⟩
 .rw[t]at l ⊢;rw[(om:min (i+1) n=i+1)]
  exact l.congr fun a _=>by
   by_cases e:a=i
   .rw[ai e,e]
   .rw[af e]
 .have:=h.hy.keep (ft.noneS _) m (fun d j f=>h.xy d f j);rw[(om:i+1-n=i-n)]
  exact this
 .rw[ep]at j;subst j;rcases p with e|e
  .exact h.xy _ e f
  .obtain⟨X,k⟩:=h.hy.blk f;rw[k]at e;cases e
def FS.appy(h:FS S b b8 g n i C x y)(u:n<=i){c:Nat}(o:da 3 1 St.none S' (.sl 1 c 0 (i-n+1)) (i-n+1) (fun a=>if a=i-n then .int .i64 (i:Int)else .int .i64 ((n+a:Nat):Int)))(l:∀d X,S d=some X->¬eh y d->S' d=some X)(p:eh y c∨S c=ab) :
  FS S' b b8 g n (i+1) C x (.sl 1 c 0 (i-n+1)):=by
 have kp:∀{b ty es n:Nat} {g:Nat->AV},bM S b ty es n g->ty≠3->bM S' b ty es n g:=fun q r=>by
  obtain⟨z,m,s⟩:=q;exact⟨z,l _ _ m (h.hy.other m r),s⟩
 refine⟨⟨kp h.cols.outer dc,fun a t=>kp (h.cols.row a t) dc,h.cols.inj⟩,kp h.pair dc,?_,?_,fun d j f=>?_⟩
 .have:=h.hx.keep (ft.noneS _) l (fun d j f=>h.xy d j f);rw[(om:min (i+1) n=min i n)]
  exact this
 .rw[(om:i+1-n=i-n+1)]
  exact o.congr fun a _=>by
   by_cases e:a=i-n
   .rw[ai e,e];congr 1;omega
   .rw[af e]
 .rw[ep]at f;subst f;rcases p with e|e
  .exact h.xy _ j e
  .obtain⟨X,k⟩:=h.hx.blk j;rw[k]at e;cases e
def Eu(n k:Nat)(M:aI)(W:mV n (fG n M))(hk:k<=1000000)(hU:∀R H U,LK n (fG n M) R H U->∀a r,a<n+1->r<n+n+1->nb (lu (n+1) (fun k r=>fG n M r k) U a r) k) :
  cP 184 [aR n (n+1) M] St.none (fun r _=>∃R H U,LK n (fG n M) R H U/\∃V,r=.tup [aR n (n+1) (fun i j=>lu (n+1) (fun k r=>fG n M r k) U j i),V,.bool true]):=by
 refine i9 func184 ntmps184 results184 ?_;have h1:=W.h1;have hn:=W.hn;simp -dsimp only[go_sem,aa,aR,bB];refine(xP n (n+1) M h1 om om om).call ?_;simp -dsimp only[go_sem,aa];refine(Dv _ n (n+1) M h1 om om om).mono ?_;rintro _ S1 ⟨b,g,rfl,q,_⟩;simp -dsimp only[go_sem,aa];refine aF.intro fun s f8=>?_;simp -dsimp only[go_sem,iW,eA,bn,bS,cB,cM,bO,bG,fq,ct];have F:∀{c ty es k:Nat} {z:Nat->AV},bM S1 c ty es k z->c≠s:=fun h=>bM.fresh h f8;rw[<-kW]at q;have I:=(q.upd (F q.outer) (fun a J=>F (q.row a J)) ⟨218,1,2,fun j=>if j=0 then AV.nil else AV.int IntKind.i64 0⟩).upd (F q.outer) (fun a J=>F (q.row a J)) ⟨218,1,2,iW (fun j=>if j=0 then AV.nil else AV.int IntKind.i64 0) 0 [AV.sl 1 b 0 (n+1),AV.int IntKind.i64 n]⟩
 have K:bM ((S1.upd s ⟨218,1,2,fun j=>if j=0 then AV.nil else AV.int IntKind.i64 0⟩).upd s ⟨218,1,2,iW (fun j=>if j=0 then AV.nil else AV.int IntKind.i64 0) 0 [AV.sl 1 b 0 (n+1),AV.int IntKind.i64 n]⟩) s 218 1 2 (MY b (n+1) n):=bM.here fun j hj=>by
  match j,hj with
  | 0,_=>rfl
  | 1,_=>rfl
 refine(zy _ b n n g (fG n M) W I).mono ?_;rintro _ S2 ⟨⟨R,H,U,hT,g',t⟩,hK⟩;have X:s≠b:=fun e=>F q.outer e.symm;have L:=hK.has K X;have u:=hU R H U hT;generalize hC:lu (n+1) (fun k r=>fG n M r k) U=C at t u;simp only[go_sem];refine aH (fun O S=>∃(i:Nat) (x y:AV),i<=n+n+1/\O 8=.ptr 1 s 0/\O 9=x/\O 10=y/\O 26=.int .i64 ((n+n+1:Nat):Int)/\O 27=.int .i64 i/\FS S b s g' n i C x y) (fun O S=>n+n+1-cj (O 27)) ?_ ?_
 .simp only[go_sem];refine⟨0,om,by rw[dW (n:=n+n+1) om om],rfl,t,L,?_,?_,fun d hd=>?_⟩
  .rw[Nat.zero_min];exact da.nil (ft.noneS _) _
  .rw[Nat.zero_sub];exact da.nil (ft.noneS _) _
  .obtain⟨_,_,_,e⟩:=hd;cases e
 clear t L hK I K q f8 F;rintro O S ⟨i,x,y,hi,N,G,f,o,p,m⟩;by_cases P:i<n+n+1
 .obtain⟨gp,up,vp⟩:=id m.pair;have x1:gp 1=.int .i64 n:=vp 1 om;by_cases w:i<n
  .simp -dsimp only[go_sem,aa,N,G,f,o,p,P,w,up,x1];refine aF.intro fun b36 Q=>?_;have A:=m.hx.fresh Q;have l:=m.other Q ⟨3,1,1,fun j=>[AV.int .i64 i].getD j .any⟩
   try simp -dsimp only[go_sem,G]
   refine da.app3 (v:=.int .i64 i) l.hx om (by simp[eF]) (bH ⟨_,_,_,rfl,cn,rfl,fun h=>A _ h rfl⟩) ?_
   intro c S3 Y B D;have E:=l.appx w Y B D;simp only[*,go_sem,aP (om:i<1000000),cj]
   exact⟨⟨i+1,om,rfl,E⟩,om⟩
  .simp -dsimp only[go_sem,aa,N,G,f,o,p,P,w,up,x1];refine aF.intro fun b40 T=>?_;have A:=m.hy.fresh T;have l:=m.other T ⟨3,1,1,fun j=>[AV.int .i64 i].getD j .any⟩
   try simp -dsimp only[go_sem,f]
   refine da.app3 (v:=.int .i64 i) l.hy om (by simp[eF]) (bH ⟨_,_,_,rfl,cn,rfl,fun h=>A _ h rfl⟩) ?_
   intro c S3 Y B D;have E:=l.appy om Y B D;simp only[*,go_sem,aP (om:i<1000000),cj]
   exact⟨⟨i+1,om,rfl,E⟩,om⟩
 obtain rfl:i=n+n+1:=om
 obtain⟨gp,up,vp⟩:=id m.pair;have Z:gp 0=.sl 1 b 0 (n+1):=vp 0 om;obtain⟨c1,rfl,hL1⟩:∃c1,x=.sl 1 c1 0 n/\bM S c1 3 1 n (fun a=>.int .i64 ((a:Nat):Int)):=by
  rcases m.hx.2 with⟨h,_⟩|⟨c,_,e,h⟩
  .omega
  .rw[(om:min (n+n+1) n=n)]at e h;exact⟨c,e,h⟩
 obtain⟨c2,rfl,hL2⟩:∃c2,y=.sl 1 c2 0 (n+1)/\bM S c2 3 1 (n+1) (fun a=>.int .i64 ((n+a:Nat):Int)):=by
  rcases m.hy.2 with⟨h,_⟩|⟨c,_,e,h⟩
  .omega
  .rw[(om:n+n+1-n=n+1)]at e h;exact⟨c,e,h⟩
 simp -dsimp only[*,go_sem,aa];refine bE 11 kr ?_
 simp only[go_sem,aa,N,G,f,up,Z];have p1:=yw (n+1) (n+n+1) n k C (fun a=>a) om om (fun i hi=>om) (fun c r D hr=>u c r D hr) hk
 have p2:=yw (n+1) (n+n+1) (n+1) k C (fun a=>n+a) om om (fun i hi=>om) (fun c r D hr=>u c r D hr) hk
 refine⟨_,p1.pf.pureS (fI.two m.cols.vr.va (VR.sl hL1 om (fun a J=>by rw[aD];exact VR.mf rfl)).va),?_⟩
 try simp -dsimp only[go_sem,N,G,f,o,p,up,Z]
 refine⟨_,p2.pf.pureS (fI.two m.cols.vr.va (VR.sl hL2 om (fun a J=>by rw[aD];exact VR.mf rfl)).va),?_⟩
 try simp -dsimp only[go_sem,N,G,f,o,p,up,Z]
 subst hC;exact⟨R,H,U,hT,_,rfl⟩

def mH:List Oper->List Nat
 | []=>[]
 | o::l=>(match o.dst with
  | some d=>[d]
  | ab=>[])++mH l
def lE(l:List Oper)(k:Nat):Option Nat:=(l[k]?).bind (·.dst)
def Te(l:List Oper):Bool:=decide (mH l).Nodup
def stP(ops:Array Oper)(O0:Tm)(S:St)(z:List AV):List Oper->Nat->Prop
 | [],_=>True
 | o::r,i=>(∀O:Tm,(∀t,¬t∈mH ops.toList->O t=O0 t)->(∀k d,(aft o).contains k=true->lE ops.toList k=some d->O d=z.getD k .any)->∀K:Tm->St->Prop,K (O.put o.dst (z.getD i .any)) S->Bj ops o O S K)/\stP ops O0 S z r (i+1)
theorem Jm{ops:Array Oper}{O0:Tm}{S:St}{z:List AV}:∀(l:List Oper) (i j:Nat) (o:Oper),stP ops O0 S z l i->l[j]? = some o ->
  ∀O:Tm,(∀t,¬t∈mH ops.toList->O t=O0 t)->(∀k d,(aft o).contains k=true->lE ops.toList k=some d->O d=z.getD k .any)->∀K:Tm->St->Prop,K (O.put o.dst (z.getD (i+j) .any)) S->Bj ops o O S K
 | [],i,j,o,_,h=>by simp at h
 | p::r,i,0,o,h,a=>by
  simp only[c8,eU]at a;subst a;exact h.1
 | p::r,i,j+1,o,h,a=>by
  rw[ci]at a;have:=Jm r (i+1) j o h.2 a;rw[(om:i+1+j=i+(j+1))]at this
  exact this
theorem wu:∀{l:List Oper} {j:Nat} {o:Oper} {d:Nat},l[j]? = some o->o.dst=some d->d∈mH l
 | [],_,_,_,h,_=>by simp at h
 | p::l,0,o,d,h,a=>by
  simp only[c8,eU]at h;subst h;simp[mH,a]
 | p::l,j+1,o,d,h,a=>by
  rw[ci]at h;simp[mH,wu h a]
theorem CA:∀{l:List Oper} {i j:Nat} {d:Nat},(mH l).Nodup->lE l i=some d->lE l j=some d->i=j
 | [],i,_,_,_,h,_=>by simp[lE]at h
 | p::l,i,j,d,a,f,g=>by
  have memj:∀k,lE l k=some d->d∈mH l:=fun k b=>by
   unfold lE at b
   cases e:l[k]? with
   | none=>rw[e]at b;simp at b
   | some o=>rw[e]at b;exact wu e b
  have m:(mH l).Nodup:=by
   unfold mH at a;exact(List.nodup_append.1 a).2.1
  have c:p.dst=some d->¬d∈mH l:=fun n q=>by
   unfold mH at a;rw[n]at a;simp only[TQ,wJ]at a;exact a.1 q
  match i,j with
  | 0,0=>rfl
  | 0,j+1=>exact(c (by simpa [lE]using f) (memj j (by simpa [lE]using g))).elim
  | i+1,0=>exact(c (by simpa [lE]using g) (memj i (by simpa [lE]using f))).elim
  | i+1,j+1 =>
   have:=CA m (i:=i) (j:=j) (d:=d) (by simpa [lE]using f) (by simpa [lE]using g)
   omega
def Lx{O0:Tm}(z:List AV)(b:(CK ops&&Te ops.toList)=true)(s:stP ops O0 S z ops.toList 0)
  (u:∀O:Tm,(∀t,¬t∈mH ops.toList->O t=O0 t)->(∀k d,lE ops.toList k=some d->O d=z.getD k .any)->K O S):L3 ops O0 S K:=by
 rw[tq];simp only[au]at b;have m:(mH ops.toList).Nodup:=ic b.2;refine bH ⟨fun L O S'=>S'=S/\(∀t,¬t∈mH ops.toList->O t=O0 t)/\∀k d,L k=true->lE ops.toList k=some d->O d=z.getD k .any,b.1,⟨rfl,fun _ _=>rfl,fun _ _ h=>by cases h⟩,?_,?_⟩
 .rintro i o n L O S' ⟨rfl,c,f⟩ r v;have g:ops.toList[i]? = some o:=by simpa using n
  have:=Jm ops.toList 0 i o s g O c (fun k d j a=>f k d (v k (by simpa using j)) a) (fun O' S''=>S''=S'/\(∀t,¬t∈mH ops.toList->O' t=O0 t)/\∀k d,(if k=i then true else L k)=true->lE ops.toList k=some d->O' d=z.getD k .any)
  rw[aD]at this;have p:=this ?_
  .unfold Bj at p;rw[wY]at p;exact p
  .refine⟨rfl,fun t q=>?_,fun k d j a=>?_⟩
   .rw[Tm.put_eq]
    cases e:o.dst with
    | none=>exact c t q
    | some d =>
     simp only;rw[af (fun l=>q (by subst l;exact wu g e))];exact c t q
   .rw[Tm.put_eq];by_cases l:k=i
    .subst l;have:o.dst=some d:=by simpa [lE,n]using a
     simp only[this,ai]
    .rw[af l]at j
     cases e:o.dst with
     | none=>exact f k d j a
     | some d' =>
      simp only;rw[af (fun w=>by
       subst w;exact l (CA m a (by simp[lE,n,e])))]
      exact f k d j a
 .rintro L O S' ⟨rfl,c,f⟩ r;refine u O c fun k d a=>f k d (r k ?_) a;rcases aC k ops.size with h|h
  .exact h
  .simp[lE,eC h]at a
def QI(h:∀K',K'=K->EC ops l O S K'):EC ops l O S K:=h K rfl
def dI{c:Code}(I:Tm->St->Prop)(μ:Tm->St->Nat)(a:I O S)(b:∀Q',Q'=Q->∀O S,I O S->Aw c (AX.seq (fun O' S'=>I O' S'/\μ O' S' < μ O S) Q') O S):Aw (.loop c) Q O S:=aH I μ a (b Q rfl)
def sR{g:Nat->AV}{K:AV->Prop}(a:j<=n)(h:K (.lst 2 j g)):lj 59 (.lst 2 n g) ab (some (.int .i64 (j:Int))) ab K :=
 ⟨rfl,0,j,rfl,rfl,trivial,om,a,by simpa using h⟩
structure CV(n k:Nat)(H:aI):Prop where
 up:∀r c,r<c->r<n->c<n+1->H r c=0
 pos:∀c,c<n->0<H c c
 rng:∀c j,c<n->j<c->0<=H c j/\H c j<H c c
 nb:∀r c,r<n->c<n+1->nb (H r c) k
def KO(n k:Nat)(H:aI)(h1:1<=n)(h2:n<=15)(hk:k<=1000000)(F:CV n k H):PF 185 [aR n (n+1) H] (.tup [.lst 1 n (fun a=>.int .i64 ((a:Nat):Int)),.bool true]):=by
 refine iH func185 ntmps185 results185 ?_;simp -dsimp only[go_sem,aa,aR,bB];refine(xP n (n+1) H h1 om om om).call ?_;simp only[go_sem];refine aH (fun O S=>∃(c:Nat) (x:AV),c<=n+1/\O 0=.lst 1 n (fun i=>.lst 2 (n+1) (fun j=>.big (H i j)))/\O 4=.int .i64 n/\O 7=x/\O 20=.int .i64 ((n+1:Nat):Int)/\O 21=.int .i64 c/\da 3 1 St.none S x (min c n) (fun a=>.int .i64 ((a:Nat):Int))) (fun O S=>n+1-cj (O 21)) ?_ ?_
 .simp only[go_sem];exact⟨0,om,rfl,by rw[Nat.zero_min];exact da.nil (ft.noneS _) _⟩
 rintro O S ⟨c,x,hc,r,z,u,l,m,D⟩;by_cases s:c<n+1
 .simp only[*,go_sem];refine dI (fun O S'=>∃p:Nat,p<=c/\S'=S/\O 0=.lst 1 n (fun i=>.lst 2 (n+1) (fun j=>.big (H i j)))/\O 4=.int .i64 n/\O 7=x/\O 8=.int .i64 c/\O 9=.int .i64 p/\O 20=.int .i64 ((n+1:Nat):Int)/\O 21=.int .i64 c) (fun O S=>c-cj (O 9)) ?_ ?_
  .simp only[*,go_sem];exact⟨0,om,rfl⟩
  clear r z u l m;rintro Q' G O T ⟨p,hp,hTS,r,z,u,w,t,l,m⟩;subst hTS;by_cases b:p<n
  .simp -dsimp only[go_sem,aa,r,z,w,t,b,s];refine(kY (F.nb p c b s) om).call ?_;by_cases P:p<c
   .simp only[go_sem,r,z,u,w,t,l,m,b,F.up p c P b s,sK,dp,aP (om:p<1000000),cj]
    exact⟨⟨p+1,om,rfl⟩,om⟩
   obtain rfl:p=c:=om
   have hs:(H p p).sign=1:=dl (F.pos p b);have Q:((H p p).sign==0)=false:=by rw[hs]<;>rfl
   have I:((p:Int)==(n:Int))=false:=by simp;omega
   have J:decide ((H p p).sign<0)=false:=by rw[hs]<;>rfl
   rw[(om:min p n=p)]at D
   apply yL (fun O S'=>O 0=.lst 1 n (fun i=>.lst 2 (n+1) (fun j=>.big (H i j)))/\O 4=.int .i64 n/\O 7=x/\O 8=.int .i64 p/\O 9=.int .i64 p/\O 20=.int .i64 ((n+1:Nat):Int)/\O 21=.int .i64 p/\O 76=.lst 2 p (fun j=>.big (H p j))/\O 77=.int .i64 p/\O 78=.int .i64 0/\S'=T)
   .intro key;simp only[go_sem,r,z,u,w,t,l,m,b,Q];rw[G];rcases id D.2 with⟨R,hx⟩|⟨c0,_,hx,hL⟩
    .have L:((0:Int) != (p:Int))=false:=by rw[R];simp
     have y:decide ((0:Int)<(p:Int))=false:=by rw[R];simp
     simp -dsimp only[go_sem,aa,r,z,u,w,t,l,m,b,s,I,L,y,hx];refine(kY (F.nb p p b s) om).call ?_;simp only[go_sem,r,u,w,t,b,L,y,J,du,iq];refine sR om ?_;simp only[go_sem];show Aw (.loop _) _ _ _;refine key _ _ ?_;simp only[*,go_sem]
    .obtain⟨gl,ul,vl⟩:=hL;rcases a6 p with h0|h0
     .have L:((0:Int) != (p:Int))=false:=by rw[h0];simp
      have y:decide ((0:Int)<(p:Int))=false:=by rw[h0];simp
      simp -dsimp only[go_sem,aa,r,z,u,w,t,l,m,b,s,I,y,hx,aY];refine(kY (F.nb p p b s) om).call ?_;simp only[go_sem,r,u,w,t,b,y,J,du,iq];refine sR om ?_;simp only[go_sem];show Aw (.loop _) _ _ _;refine key _ _ ?_;simp only[*,go_sem]
     obtain⟨q,hq⟩:∃q,p=q+1:=⟨p-1,om⟩
     have y:decide ((0:Int)<(p:Int))=true:=by simp;omega
     have hw:IntKind.i64.wrap ((p:Int)-1)=(q:Int):=dW om om;have U:q<p:=om
     have hg:gl q=.int .i64 (q:Int):=vl q U;have V:decide ((p:Int)<=(q:Int))=false:=by simp;omega
     simp -dsimp only[go_sem,aa,r,z,u,w,t,l,m,b,s,I,y,V,hw,U,hg,ul,hx,aY];refine(kY (F.nb p p b s) om).call ?_;simp only[go_sem,r,u,w,t,b,y,V,hw,hg,J,du,iq];refine sR om ?_;simp only[go_sem];show Aw (.loop _) _ _ _;refine key _ _ ?_;simp only[*,go_sem]
   clear r z u w t l m Q I J hs P;rintro O _ ⟨r,z,u,w,t,l,m,A,B,C,rfl⟩;refine dI (fun O S=>∃j:Nat,j<=p/\O 0=.lst 1 n (fun i=>.lst 2 (n+1) (fun j=>.big (H i j)))/\O 4=.int .i64 n/\O 7=x/\O 8=.int .i64 p/\O 9=.int .i64 p/\O 20=.int .i64 ((n+1:Nat):Int)/\O 21=.int .i64 p/\O 76=.lst 2 p (fun j=>.big (H p j))/\O 77=.int .i64 p/\O 78=.int .i64 j/\da 3 1 St.none S x p (fun a=>.int .i64 ((a:Nat):Int))) (fun O S=>p-cj (O 78)) ?_ ?_
   .simp only[go_sem,r,z,u,w,t,l,m,A,B,C];exact⟨0,om,rfl,D⟩
   clear r z u w t l m A B C D;rintro Q' G O S ⟨j,hj,r,z,u,w,t,l,m,A,B,C,D⟩;by_cases M:j<p
   .obtain⟨q1,q2⟩:=F.rng p j b M;have hs1:decide ((H p j).sign<0)=false:=by
     rcases UQ q1 with h|h
     .rw[dl h];rfl
     .rw[<-h];rfl
    have hcm:lG (H p j) (H p p)=-1:=by simp[lG,q2]
    simp -dsimp only[go_sem,A,B,C,M];refine aF.intro fun E W=>?_
    try simp -dsimp only[go_sem]
    have X:=((D.upd (by rfl) (D.fresh W) ⟨50,2,1,fun _=>AV.big 0⟩).upd (by rfl) (D.fresh W) ⟨50,2,1,bW (fun _=>AV.big 0) 0 (.big (H p j))⟩)
    obtain⟨S5,hS5,Y⟩:∃S5,S5=(S.upd E ⟨50,2,1,fun _=>AV.big 0⟩).upd E ⟨50,2,1,bW (fun _=>AV.big 0) 0 (.big (H p j))⟩/\S5 E=some ⟨50,2,1,bW (fun _=>AV.big 0) 0 (.big (H p j))⟩:=⟨_,rfl,cn⟩;rw[<-hS5]at X ⊢;have r0:PF 191 [.big (H p j)] (.int .i64 (H p j).sign):=kY (F.nb p j b om) om;have r1:PF 159 [.big (H p j),.big (H p p)] (.int .i64 (-1)):=hcm▸NV (F.nb p j b om) (F.nb p p b om) om;refine Lx [.big (H p j),.int .i64 (H p j).sign,.bool false,.bool false,.big (H p j),.lst 1 n (fun i=>.lst 2 (n+1) (fun j=>.big (H i j))),.int .i64 p,.pat 1 (.lst 2 (n+1) (fun j=>.big (H p j))),.lst 2 (n+1) (fun j=>.big (H p j)),.int .i64 p,.pat 2 (.big (H p p)),.big (H p p),.int .i64 (-1),.bool false,.bool false] kr ?_ ?_
    .refine⟨?_,?_,?_,?_,?_,?_,?_,?_,?_,?_,?_,?_,?_,?_,?_,trivial⟩
     .intro O1 g f K o;have N:O1 11=.ptr 2 E 0:=(g 11 dc).trans (by simp only[go_sem])
      unfold Bj;simp only[go_sem,aa,N,Y,eZ];exact o
     .intro O1 g f K o;have x82:O1 82=.big (H p j):=f 0 82 kr rfl
      unfold Bj;simp -dsimp only[go_sem,aa,x82];refine r0.call ?_;exact o
     .intro O1 g f K o;have x83:O1 83=.int .i64 (H p j).sign:=f 1 83 kr rfl
      unfold Bj;simp only[go_sem,x83,hs1];exact o
     .intro O1 g f K o;have x84:O1 84=.bool false:=f 2 84 kr rfl
      unfold Bj;simp only[go_sem,x84];exact o
     .intro O1 g f K o;have N:O1 11=.ptr 2 E 0:=(g 11 dc).trans (by simp only[go_sem])
      have d:O1 85=.bool false:=f 3 85 kr rfl
      unfold Bj;simp only[go_sem,aa,N,d,Y,eZ];exact o
     .intro O1 g f K o;have x0:O1 0=.lst 1 n (fun i=>.lst 2 (n+1) (fun j=>.big (H i j))):=(g 0 dc).trans (by simp only[go_sem,r])
      have d:O1 85=.bool false:=f 3 85 kr rfl
      unfold Bj;simp only[go_sem,x0,d];exact o
     .intro O1 g f K o;have x9:O1 9=.int .i64 p:=(g 9 dc).trans (by simp only[go_sem,t])
      have d:O1 85=.bool false:=f 3 85 kr rfl
      unfold Bj;simp only[go_sem,x9,d];exact o
     .intro O1 g f K o;have d:O1 85=.bool false:=f 3 85 kr rfl
      have x87:O1 87=.lst 1 n (fun i=>.lst 2 (n+1) (fun j=>.big (H i j))):=f 5 87 kr rfl
      have x88:O1 88=.int .i64 p:=f 6 88 kr rfl
      unfold Bj;simp only[go_sem,d,x87,x88,b];exact o
     .intro O1 g f K o;have d:O1 85=.bool false:=f 3 85 kr rfl
      have x89:O1 89=.pat 1 (.lst 2 (n+1) (fun j=>.big (H p j))):=f 7 89 kr rfl
      unfold Bj;simp only[go_sem,d,x89];exact o
     .intro O1 g f K o;have x8:O1 8=.int .i64 p:=(g 8 dc).trans (by simp only[go_sem,w])
      have d:O1 85=.bool false:=f 3 85 kr rfl
      unfold Bj;simp only[go_sem,x8,d];exact o
     .intro O1 g f K o;have d:O1 85=.bool false:=f 3 85 kr rfl
      have x90:O1 90=.lst 2 (n+1) (fun j=>.big (H p j)):=f 8 90 kr rfl
      have x91:O1 91=.int .i64 p:=f 9 91 kr rfl
      unfold Bj;simp only[go_sem,d,x90,x91,(om:p<n+1)]
      exact o
     .intro O1 g f K o;have d:O1 85=.bool false:=f 3 85 kr rfl
      have x92:O1 92=.pat 2 (.big (H p p)):=f 10 92 kr rfl
      unfold Bj;simp only[go_sem,d,x92];exact o
     .intro O1 g f K o;have d:O1 85=.bool false:=f 3 85 kr rfl
      have x86:O1 86=.big (H p j):=f 4 86 kr rfl
      have x93:O1 93=.big (H p p):=f 11 93 kr rfl
      unfold Bj;simp -dsimp only[go_sem,aa,d,x86,x93];refine r1.call ?_;exact o
     .intro O1 g f K o;have d:O1 85=.bool false:=f 3 85 kr rfl
      have x94:O1 94=.int .i64 (-1):=f 12 94 kr rfl
      unfold Bj;simp only[go_sem,d,x94,show decide ((0:Int)<=-1)=false by rfl]
      exact o
     .intro O1 g f K o;have d:O1 85=.bool false:=f 3 85 kr rfl
      have x95:O1 95=.bool false:=f 13 95 kr rfl
      unfold Bj;simp only[go_sem,d,x95];exact o
    .intro O1 g f;have x96:O1 96=.bool false:=f 14 96 rfl;have y0:O1 0=.lst 1 n (fun i=>.lst 2 (n+1) (fun j=>.big (H i j))):=(g 0 dc).trans (by simp only[go_sem,r])
     have y4:O1 4=.int .i64 n:=(g 4 dc).trans (by simp only[go_sem,z])
     have y7:O1 7=x:=(g 7 dc).trans (by simp only[go_sem,u])
     have y8:O1 8=.int .i64 p:=(g 8 dc).trans (by simp only[go_sem,w])
     have y9:O1 9=.int .i64 p:=(g 9 dc).trans (by simp only[go_sem,t])
     have y20:O1 20=.int .i64 ((n+1:Nat):Int):=(g 20 dc).trans (by simp only[go_sem,l])
     have y21:O1 21=.int .i64 p:=(g 21 dc).trans (by simp only[go_sem,m])
     have y76:O1 76=.lst 2 p (fun j=>.big (H p j)):=(g 76 dc).trans (by simp only[go_sem,A])
     have y77:O1 77=.int .i64 p:=(g 77 dc).trans (by simp only[go_sem,B])
     have y78:O1 78=.int .i64 j:=(g 78 dc).trans (by simp only[go_sem,C])
     simp only[go_sem,x96,y0,y4,y7,y8,y9,y20,y21,y76,y77,y78,aP (om:j<1000000),cj]
     exact⟨⟨j+1,om,rfl,X⟩,om⟩
   .obtain rfl:j=p:=om
    simp only[go_sem,A,B,C,M];rw[G];simp -dsimp only[*,go_sem];refine aF.intro fun b100 Z=>?_;have hxb:=D.fresh Z;have hX2:=D.upd (by rfl) hxb ⟨3,1,1,fun a=>[AV.int .i64 j].getD a .any⟩
    try simp -dsimp only[*,go_sem]
    refine da.app3 (v:=.int .i64 j) hX2 om (by simp[eF]) (bH ⟨_,_,_,rfl,cn,rfl,fun h=>hxb _ h rfl⟩) ?_
    intro c S6 hX' _ _;simp only[*,go_sem,aP (om:j<1000000),cj]
    refine⟨⟨j+1,om,rfl,?_⟩,om⟩
    rw[(om:min (j+1) n=j+1)]
    exact hX'.congr fun a _=>by
     by_cases e:a=j
     .rw[ai e,e]
     .rw[af e]
  .obtain rfl:p=n:=om
   obtain rfl:c=p:=om
   simp only[go_sem,r,z,u,w,t,l,m,b];rw[G];rw[NZ,ai rfl,zJ,N2,N2,Ts];refine QI fun K' hK'=>?_;simp only[go_sem,z,t];rw[hK',zJ,IA,show ev _ (.tmp 42)=AV.bool true by simp only[go_sem,dp],cd_t]
   simp only[*,go_sem,aP (om:c<1000000),cj]
   refine⟨⟨c+1,om,rfl,?_⟩,om⟩
   rw[(om:min (c+1) c=min c c)]
   exact D
 obtain rfl:c=n+1:=om
 simp only[*,go_sem];rcases D.2 with⟨h,_⟩|⟨c0,_,rfl,hL⟩
 .omega
 rw[(om:min (n+1) n=n)]at hL ⊢
 exact VR.tup2 (VR.sl hL om (fun a f=>by rw[aD];exact VR.mf rfl)) (VR.mf rfl)

def Ha{g:Nat->AV}{K:AV->Prop}(a:j<=n)(h:K (.lst 2 j g)):lj 59 (.lst 2 n g) (some (.int .i64 0)) (some (.int .i64 (j:Int))) ab K :=
 ⟨rfl,0,j,rfl,rfl,trivial,om,a,by simpa using h⟩
def Py(n m M:Nat)(A:Nat->Nat->Int)(k:Nat)(h1:n<=100)(T:m<=M)(U:M<=100)(h3:1<=m)(V:∀i j,i<n->j<m->nb (A i j) k)(hk:k<=1000000):MF 186 [aR n M A,.int .i64 0,.int .i64 m] n m A:=by
 refine MF.of ?_;refine i9 func186 ntmps186 results186 ?_;have W:((0:Int)==(m:Int))=false:=by simp;omega
 simp -dsimp only[go_sem,aR,bB,W]
 repeat refine an ?_
 refine aF.intro fun l f7=>?_;simp only[go_sem];refine aH (fun O S=>∃(i:Nat) (g:Nat->Nat),i<=n/\O 1=.int .i64 0/\O 2=.int .i64 m/\O 7=.sl 1 l 0 n/\O 18=aR n M A/\O 19=.int .i64 n/\O 20=.int .i64 i /\
  bM S l 59 1 n (fun a=>if a<i then .sl 2 (g a) 0 m else .nil)/\(∀a,a<i->jp S (g a) m (A a))/\∀a c,a<i->c<i->g a=g c->a=c) (fun O S=>n-cj (O 20)) ?_ ?_
 .simp only[go_sem,aR,bB];exact⟨0,om,rfl,fun _=>0,bM.here fun _ _=>by simp,fun a b=>om,fun a c b=>om⟩
 .rintro O S ⟨i,g,hi,Y,Z,N,D,E,F,u,s,hI⟩;by_cases o:i<n
  .simp only[*,go_sem,aR,bB,du,iq];refine Ha T ?_;simp only[go_sem];refine aH (fun O S'=>∃(j:Nat) (x:AV),j<=m/\O 1=.int .i64 0/\O 2=.int .i64 m/\O 7=.sl 1 l 0 n/\O 8=.int .i64 i/\O 18=aR n M A/\O 19=.int .i64 n/\O 20=.int .i64 i/\O 28=bB m (A i)/\O 29=.int .i64 m/\O 30=.int .i64 j /\
    bM S' l 59 1 n (fun a=>if a<i then .sl 2 (g a) 0 m else if a=i then x else .nil)/\(∀a,a<i->jp S' (g a) m (A a)/\¬eh x (g a))/\da 50 2 St.none S' x j (fun c=>.big (A i c))) (fun O S=>m-cj (O 30)) ?_ ?_
   .simp only[*,go_sem,aR,bB];exact⟨0,om,rfl,.nil,u.congr fun a _=>by grind,fun a b=>⟨s a b,by rintro⟨_,_,_,e⟩;cases e⟩,da.nil (fun k X h=>by cases h) _⟩
   .rintro O S' ⟨j,x,hj,Y,Z,N,e8,D,E,F,e28,e29,e30,u,s,t⟩;by_cases G:j<m
    .simp -dsimp only[*,go_sem,aR,bB];refine aF.intro fun p q=>?_;obtain⟨g1,v,P⟩:=u;have H:g1 i=x:=by rw[P i o];simp
     have r:l≠p:=bM.fresh (bM.of v) q;simp -dsimp only[go_sem];refine g9 9 kr ?_
     simp -dsimp only[go_sem,N,e8,o,r,v,H,bW]
     repeat refine an ?_
     refine⟨_,(rS (V i j o G) om).pure',?_⟩;simp -dsimp only[go_sem];have w:∀d,eh x d->d≠p:=t.fresh q;have I:=t.other v om;refine da.app50 ((t.upd (by rfl) w _).upd (by rfl) w _) om (show eF 2 (.big (A i j))from trivial) (bF ⟨_,rfl,rfl⟩) ?_
     intro c S2 y z B;have J:=z l _ (by rw[aO r,aO r];exact v) I
     simp only[*,go_sem,aR,bB,aP (om:j<1000000),cj]
     repeat refine an ?_
     refine⟨⟨j+1,om,rfl,.sl 2 c 0 (j+1),bM.here fun a b=>?_,fun a b=>?_,?_⟩,om⟩
     .have:=P a b;grind [bW]
     .obtain⟨C,Q⟩:=s a b;have f:g a≠p:=bM.fresh C q;have K:g a≠l:=bM.ne C (bM.of v) om;refine⟨(C.via fun X t=>z _ _ (by rw[aO f,aO f];exact t) Q).upd K _,fun R=>?_⟩
      rw[ep]at R;rw[<-R]at B;rcases B with h|h
      .exact Q h
      .rw[aO f,aO f]at h;exact bM.fresh C h rfl
     .refine(y.upd (by rfl) (fun d L e=>?_) _).congr (fun a b=>by grind)
      rw[e]at L;exact y.other J om L
    .simp only[*,go_sem,aR,bB,aP (om:i<1000000),cj]
     obtain rfl:j=m:=om
     rcases t.2 with⟨h0,_⟩|⟨c,_,rfl,hC⟩
     .omega
     refine⟨⟨i+1,om,rfl,fun a=>if a=i then c else g a,u.congr fun a b=>by grind,fun a b=>?_,fun a d b L e=>?_⟩,om⟩
     .by_cases e:a=i
      .subst e;simp only[aQ];exact hC
      .simp only[e,aS];exact(s a om).1
     .have k1:=fun a b=>(s a b).2;simp only[ep]at k1
      grind
  .simp only[*,go_sem,aR,bB];obtain rfl:i=n:=om
   exact⟨l,rfl,g,u.congr fun a b=>by simp[b],s,hI⟩
structure uY(n k:Nat)(A:aI)(B:aI):Prop where
 ex:∃R H U,LK n A R H U/\CV n k (fun i j=>lu (n+1) (fun k r=>A r k) U j i)/\B=fun i j=>lu (n+1) (fun k r=>A r k) U j i
def BR(n k:Nat)(M:aI)(d:mV n (fG n M))(e:k<=1000000)(f:∀R H U,LK n (fG n M) R H U->(∀a r,a<n+1->r<n+n+1->nb (lu (n+1) (fun k r=>fG n M r k) U a r) k)/\CV n k (fun i j=>lu (n+1) (fun k r=>fG n M r k) U j i)) :
  cP 123 [aR n (n+1) M] St.none (fun r S'=>∃b g B,r=.tup [.sl 1 b 0 n,.bool true]/\uY n k (fG n M) B/\dH S' b g n n B):=by
 have l:=d.h1;have s:=d.hn;refine i9 func123 ntmps123 results123 ?_;simp -dsimp only[go_sem,aa];refine(Eu n k M d e fun R H U h=>(f R H U h).1).mono ?_;rintro _ S1 ⟨R,H,U,m,V,rfl⟩;have c:=(f R H U m).2;have o:uY n k (fG n M) (fun i j=>lu (n+1) (fun k r=>fG n M r k) U j i):=⟨R,H,U,m,c,rfl⟩;generalize (fun i j=>lu (n+1) (fun k r=>fG n M r k) U j i)=B at c o;simp -dsimp only[go_sem,aa];refine(KO n k B l om e c).call ?_;simp -dsimp only[go_sem,aa];refine(Py n n (n+1) B k om om om l (fun i j p t=>c.nb i j p om) e _ _ (cS _ _)).mono ?_;rintro _ S2 ⟨b,g,rfl,q⟩;simp only[go_sem];exact⟨b,rfl,g,B,o,q.1⟩

def ra(a:1<=m)(i j:Nat):0<=lR A m i j/\lR A m i j<m:=⟨aW _ om,aV _ om⟩
def LP(n K l:Nat)(A B:aI)(m:Int)(o:1<=n)(d:n<=16)(e:1<=K)(b:K<=16)(p:1<=l)(f:l<=16)(q:2<=m)(a:m<=2147483647):Gv 181 [az n K A,az K l B,.int .i64 m] n l (kT (lR A m) (lR B m) K m):=by
 refine Gv.of ?_;refine i9 func181 ntmps181 results181 ?_;have r:0<n:=om
 have g:(0:Int)<(n:Int):=om
 simp -dsimp only[go_sem,aa];refine(tE n K A o d e b).call ?_;simp -dsimp only[go_sem,aa];refine(tE K l B e b p f).call ?_;simp -dsimp only[go_sem,aa,az,aK,g,show((K:Int) != K)=false by simp]
 refine(k9 m q a).call ?_;simp -dsimp only[go_sem,aa];refine(mF n K A m d b om a _ _ (cS _ _)).mono ?_;rintro _ S1 ⟨u,v,rfl,h⟩;simp -dsimp only[go_sem,aa];refine(mF K l B m b f om a _ _ (cS _ _)).mono ?_;rintro _ S2 ⟨w,x,rfl,c⟩;simp -dsimp only[go_sem,aa];refine(Hl n K l (lR A m) (lR B m) m d e b f om a (fun i j _ _=>ra om i j) (fun i j _ _=>ra om i j) _ _ (fI.imat (h.1.ext c.2.1) (fI.imat c.1 (cS _ _)))).mono ?_;rintro _ S3 ⟨s,t,rfl,k⟩;simp only[go_sem];exact⟨s,rfl,t,k.1⟩
def Pg(n:Nat)(v:Nat->Int)(c:1<=n):PF 183 [aK n v] (.bool (v 0 != 0)):=by
 refine iH func183 ntmps183 results183 ?_;have b:0<n:=om
 have a:(0:Int)<(n:Int):=om
 simp only[go_sem,aK,a];exact VR.mf rfl
def Eo(n m piv:Nat)(A:aI)(f:n<=16)(a:1<=m)(g:piv<n)(b:A piv 0≠0)(c:∀i,i<piv->A i 0=0):PF 182 [az n m A,.fn 183 []] (.int .i64 piv):=by
 refine iH func182 ntmps182 results182 ?_;simp only[go_sem,az,aK];refine aH (fun O S=>∃i:Nat,i<=piv/\O 0=az n m A/\O 1=.fn 183 []/\O 7=.int .i64 n/\O 8=.int .i64 i) (fun O S=>n-cj (O 8)) ?_ ?_
 .simp only[go_sem,az,aK];exact⟨0,om,rfl⟩
 .rintro O S ⟨i,h,j,k,l,o⟩;have d:i<n:=om
  simp -dsimp only[*,go_sem,aa,az,aK];refine(Pg m (A i) a).call ?_;by_cases e:i=piv
  .subst e;simp only[*,go_sem,az,aK,show(A i 0 != 0)=true by simp[b]]
   exact VR.mf rfl
  .simp only[*,go_sem,az,aK,show(A i 0 != 0)=false by simp[c i om],aP (om:i<1000000),cj]
   exact⟨⟨i+1,om,rfl⟩,om⟩

def Bq(x m:Int)(v:1<=m)(e:m<=2147483647)(w:0<=x)(U:x<m):PF 229 [.int .i64 x,.int .i64 m] (.tup [.int .i64 ((bz m.toNat x.toNat).2.2%m),.bool ((bz m.toNat x.toNat).1==1)]):=by
 obtain⟨M,rfl⟩:∃M:Nat,m=M:=⟨m.toNat,om⟩
 obtain⟨X,rfl⟩:∃X:Nat,x=X:=⟨x.toNat,om⟩
 rw[cC,cC];refine iH func229 ntmps229 results229 ?_;have f:¬((M:Int)=0):=om
 simp -dsimp only[go_sem];refine aH (fun O S=>∃(x y:Nat) (a na b nb:Int),L2 M X x y a b na nb/\O 1=.int .i64 M/\O 6=.int .i64 x/\O 7=.int .i64 y/\O 8=.int .i64 b/\O 9=.int .i64 nb) (fun O S=>cj (O 7)) ?_ ?_
 .simp -dsimp only[go_sem];exact⟨M,X,1,0,0,1,L2.init (bF om),rfl,rfl,rfl,rfl⟩
 .rintro O S ⟨x,y,a,na,b,nb,c,n,o,p,r,s⟩;have z:=c.lx;have A:=c.ly;have B:=c.lb;have t:=c.lnb;by_cases g:y=0
  .subst g;have C:=c.fin;obtain⟨D,E⟩:=Fd (x:=b) v e;simp -dsimp only[go_sem,n,o,p,r,s,f,D,E,show(((0:Nat):Int) != 0)=false from rfl];rw[C];exact VR.mf rfl
  .have u:=c.step g;have h:(((y:Nat):Int) != 0)=true:=by simp;omega
   have d:¬(((y:Nat):Int)=0):=om
   have F:pG (x:Int) (y:Int)=((x/y:Nat):Int):=(Vn x y).symm;have i:=dj x (gO g);have G:=gK x y;have j:=dd x y;have H:=u.lnb;have k:=(pZ (q:=((x/y:Nat):Int)) (cA _) c.gb).1;rw[fN]at k;have I:(((x/y:Nat):Int)*nb).natAbs=x/y*nb.natAbs:=by rw[cJ,fN]
   have J:IntKind.i64.wrap ((x/y:Nat):Int)=((x/y:Nat):Int):=by
    have K:(0:Int)<=((x/y:Nat):Int):=cA _;have L:((x/y:Nat):Int)<=x:=kH.2 G;generalize ((x/y:Nat):Int)=zz at *;exact i64_in om om
   have l:((x/y:Nat):Int)*(y:Int)=((x:Nat):Int)-((x%y:Nat):Int):=by
    have N:((y*(x/y)+x%y:Nat):Int)=(x:Int):=by rw[j]
    rw[eB,bD,cX]at N;omega
   have P:IntKind.i64.wrap (((x/y:Nat):Int)*(y:Int))=((x:Nat):Int)-((x%y:Nat):Int):=by rw[l];exact i64_in om om
   have Q:IntKind.i64.wrap (((x:Nat):Int)-(((x:Nat):Int)-((x%y:Nat):Int)))=((x%y:Nat):Int):=by
    rw[show((x:Nat):Int)-(((x:Nat):Int)-((x%y:Nat):Int))=((x%y:Nat):Int) by omega];exact i64_in om om
   have R:IntKind.i64.wrap (((x/y:Nat):Int)*nb)=((x/y:Nat):Int)*nb:=i64_in om om;have T:IntKind.i64.wrap (b-((x/y:Nat):Int)*nb)=b-((x/y:Nat):Int)*nb:=i64_in om om;simp -dsimp only[go_sem,aa,n,o,p,r,s,h,d,F,J,P,Q,R,T,cj];exact⟨⟨y,x%y,na,_,nb,_,u,rfl,rfl,rfl,rfl⟩,i⟩
def GC(b:Nat)(S S':St):Prop:=∀c,c≠b->S' c=S c
def GC.refl(b:Nat)(S:St):GC b S S:=fun _ _=>rfl
def GC.upd(h:GC b S S')(X:eS):GC b S (S'.upd b X):=fun c a=>by simp only[St.upd,a,aS];exact h c a
def GC.has(h:GC b S S')(a:c≠b){t es n:Nat}{g:Nat->AV}(d:bM S c t es n g):bM S' c t es n g:=by
 obtain⟨g',e,f⟩:=d;exact⟨g',(h c a).trans e,f⟩
def GC.var(h:GC b S S')(a:c≠b){t es:Nat}{z:AV}(d:ed S c t es z):ed S' c t es z:=by
 obtain⟨g',e,f⟩:=d;exact⟨g',(h c a).trans e,f⟩
def He(n b:Nat)(v:Nat->Int)(f m:Int)(S:St)(F:n<=16)(G:1<=m)(t:m<=1000000)(H:0<=f/\f<m)(u:∀j,j<n->0<=v j/\v j<m)(w:bM S b 2 1 n (fun j=>.int .i64 (v j))) :
  cP 230 [.sl 1 b 0 n,.int .i64 f,.int .i64 m] S (fun _ S'=>GC b S S'/\bM S' b 2 1 n (fun j=>.int .i64 (v j*f%m))):=by
 refine iw func230 rfl 24 ntmps230 kr sm ?_
 rw[lA,results230];have g:¬(m=0):=om
 simp -dsimp only[go_sem];refine aH (fun O S'=>∃i:Nat,i<=n/\O 0=.sl 1 b 0 n/\O 1=.int .i64 f/\O 2=.int .i64 m/\O 8=.sl 1 b 0 n/\O 9=.int .i64 n/\O 10=.int .i64 i/\GC b S S'/\bM S' b 2 1 n (fun j=>.int .i64 (if j<i then v j*f%m else v j))) (fun O S=>n-cj (O 10)) ?_ ?_
 .simp -dsimp only[go_sem];exact⟨0,om,rfl,GC.refl b S,w.congr fun j _=>by simp⟩
 .rintro O S' ⟨i,I,k,l,c,o,p,d,q,r⟩;by_cases a:i<n
  .obtain⟨x,y,s⟩:=id r;have z:x i=.int .i64 (v i):=(s i a).trans sm
   have J:=u i a;have C:=ow (A:=1000000) (B:=1000000) (om:0<=v i/\v i<=1000000) (om:0<=f/\f<=1000000)
   have D:IntKind.i64.wrap (v i*f)=v i*f:=i64_in om om;have E:fo (v i*f) m=v i*f%m:=aL C.1;simp -dsimp only[go_sem,aa,k,l,c,o,p,d,a,y,z,g,D,E,aP (om:i<1000000),cj]
   refine⟨⟨i+1,om,rfl,q.upd _,bM.here fun j h=>?_⟩,om⟩
   by_cases e:j=i
   .subst e;simp[bW]
   .simp only[bW,e,aS];rw[s j h];by_cases c:j<i
    .simp[c,(om:j<i+1)]
    .simp[c,(om:¬j<i+1)]
  .obtain rfl:i=n:=om
   simp -dsimp only[go_sem,k,l,c,o,p,d,a];exact⟨q,r.congr fun j h=>by simp[h]⟩
def Al(n bt br bm:Nat)(x y:Nat->Int)(q m:Int)(S:St)(T:n<=16)(U:1<=m)(v:m<=1000000)(V:0<=q/\q<m)(w:∀j,j<n->0<=x j/\x j<m)(z:∀j,j<n->0<=y j/\y j<m)(h:br≠bt)(d:bm≠bt)
  (k:bM S bt 2 1 n (fun j=>.int .i64 (x j))) (l:bM S br 2 1 n (fun j=>.int .i64 (y j))) (o:ed S bm 2 1 (.int .i64 m)) :
  cP 257 [.sl 1 bt 0 n,.sl 1 br 0 n,.int .i64 q,.ptr 1 bm 0] S (fun _ S'=>GC bt S S'/\bM S' bt 2 1 n (fun j=>.int .i64 ((x j-q*y j)%m))):=by
 refine iw func257 rfl 32 ntmps257 kr sm ?_
 rw[lA,results257];have p:¬(m=0):=om
 simp -dsimp only[go_sem];refine aH (fun O S'=>∃i:Nat,i<=n/\O 0=.sl 1 bt 0 n/\O 2=.int .i64 q/\O 3=.ptr 1 bm 0/\O 9=.sl 1 br 0 n/\O 10=.int .i64 n/\O 11=.int .i64 i/\GC bt S S'/\bM S' bt 2 1 n (fun j=>.int .i64 (if j<i then(x j-q*y j)%m else x j))) (fun O S=>n-cj (O 11)) ?_ ?_
 .simp -dsimp only[go_sem];exact⟨0,om,rfl,GC.refl bt S,k.congr fun j _=>by simp⟩
 .rintro O S' ⟨i,W,C,f,D,r,b,c,g,t⟩;by_cases a:i<n
  .obtain⟨E,F,u⟩:=id t;obtain⟨G,H,I⟩:=id (g.has h l);obtain⟨X,J,K⟩:=id (g.var d o);have L:E i=.int .i64 (x i):=(u i a).trans sm
   have M:G i=.int .i64 (y i):=I i a;have Y:=w i a;have Z:=z i a;have k2:=ow (A:=1000000) (B:=1000000) (om:0<=m-q/\m-q<=1000000) (om:0<=y i/\y i<=1000000)
   have N:IntKind.i64.wrap (m-q)=m-q:=i64_in om om;have P:IntKind.i64.wrap ((m-q)*y i)=(m-q)*y i:=i64_in om om;have Q:IntKind.i64.wrap (x i+(m-q)*y i)=x i+(m-q)*y i:=i64_in om om;have R:fo (x i+(m-q)*y i) m=(x i-q*y i)%m:=by
    rw[aL om,show x i+(m-q)*y i=x i-q*y i+m*y i by grind,qR]
   simp -dsimp only[go_sem,aa,r,b,c,a,H,M];refine bE 15 kr ?_
   simp -dsimp only[go_sem,aa,C,f,D,r,b,c,a,F,L,J,K,p,N,P,Q,R,aP (om:i<1000000),cj]
   refine⟨⟨i+1,om,rfl,g.upd _,bM.here fun j s=>?_⟩,om⟩
   by_cases e:j=i
   .subst e;simp[bW]
   .simp only[bW,e,aS];rw[u j s];by_cases f:j<i
    .simp[f,(om:j<i+1)]
    .simp[f,(om:¬j<i+1)]
  .obtain rfl:i=n:=om
   simp -dsimp only[go_sem,r,b,c,a];exact⟨g,t.congr fun j s=>by simp[s]⟩
def mS(m:Int)(S:St):cP 228 [.int .i64 m] S (fun r S'=>∃b,S b=ab/\r=.fn 257 [.ptr 1 b 0]/\ft S S'/\ed S' b 2 1 (.int .i64 m)):=by
 refine i9 func228 ntmps228 results228 ?_;simp -dsimp only[go_sem];refine aF.intro fun bc fc=>?_
 try simp -dsimp only[go_sem]
 exact⟨bc,fc,rfl,(ft.refl S).upd fc _,ed.new rfl⟩

def NK{q:Int}(k:c<n)(l:i<n)(d:c≠i):m∣det n (fun a j=>setRow R c (fun j=>(R c j-q*R i j)%m) (dO i c a) j)↔m∣det n R:=by
 have o:=Dd (setRow R c (fun j=>(R c j-q*R i j)%m)) l k (aj d);have p:=nj R k l d 1 (-q);have e:=uq (h:=m) n (setRow R c (fun j=>(R c j-q*R i j)%m)) (setRow R c (fun j=>1*R c j+(-q)*R i j)) (fun a b=>by
  simp only[setRow];split
  .rw[show(R c b-q*R i b)%m-(1*R c b+-q*R i b)=(R c b-q*R i b)%m-(R c b-q*R i b) by grind]
   have:=xW (R c b-q*R i b) m;exact⟨-((R c b-q*R i b)/m),by grind⟩
  .simp)
 rw[p,fA]at e;rw[o,Int.dvd_neg];constructor
 .intro f;have g:=IY f e
  rwa [show ∀x y:Int,x-(x-y)=y from fun x y=>om]at g
 .intro f;have g:=jP e f
  rwa [show ∀x y:Int,x-y+y=x from fun x y=>om]at g
theorem CB{m:Int}(f:2<=m)(d:∀a b:Int,m∣a*b->m∣a∨m∣b):∀(n:Nat) (A:aI),(∀i j,j<i->i<n->A i j=0)->(m∣det n A↔∃i,i<n/\m∣A i i)
 | 0,A,_=>⟨fun h=>by
   have:=mt (by simp[det]) h
   simp[det]at this;omega,fun⟨i,h,_⟩=>om⟩
 | n+1,A,h=>by
  have ih:=CB f d n (fun i j=>A (i+1) (j+1)) (fun a b e c=>h _ _ om om);rw[rU A (fun a k=>h (a+1) 0 om om)];constructor
  .intro e;rcases d _ _ e with c|c
   .exact⟨0,om,c⟩
   .obtain⟨i,l,g⟩:=ih.1 c;exact⟨i+1,om,g⟩
  .rintro⟨i,e,c⟩
   cases i with
   | zero=>exact eQ c
   | succ i=>exact di (ih.2 ⟨i,om,c⟩)
def eI.swap{m:Nat}{A:Nat->Nat->Int}(h:eI S b g n m A){p k:Nat}(v:p<n)(w:k<n)(r:p≠k){f:Nat->AV}(l:S b=some ⟨29,1,n,f⟩) :
  eI (S.upd b ⟨29,1,n,bW (bW f p (.sl 1 (g k) 0 m)) k (.sl 1 (g p) 0 m)⟩) b (fun i=>g (dO k p i)) n m (fun i j=>A (dO k p i) j):=by
 obtain⟨g',o,s⟩:=h.outer;rw[l]at o;cases o;have c:∀i,i<n->dO k p i<n:=fun i a=>by unfold dO;split<;>(try split)<;>omega
 refine⟨bM.here fun i a=>?_,fun i a=>(h.row _ (c i a)).upd (fun e=>?_) _,fun i j a t e=>?_⟩
 .have:=s i a;simp only[bW,dO];by_cases d:i=k
  .subst d;simp
  .by_cases q:i=p
   .subst q;simp[d]
   .simp[d,q,this]
 .exact bM.ne (bM.of l) (h.row _ (c i a)) om e.symm
 .have u:=h.inj _ _ (c i a) (c j t) e;unfold dO at u
  grind
structure QW(P:Prop)(n b bm:Nat)(m:Int)(S:St)(g:Nat->Nat)(R:aI):Prop where
 mat:eI S b g n n R
 rng:∀i j,i<n->j<n->0<=R i j/\R i j<m
 ndet:m∣det n R↔P
 var:ed S bm 2 1 (.int .i64 m)
 ne:b≠bm
 gne:∀a,a<n->g a≠bm
def Rc(n c:Nat)(R:aI):Prop:=∀a d,d<c->d<a->a<n->R a d=0
def cellN(S:St)(b i c:Nat):Nat:=match S b with
 | some X=>(match X.g i with
  | .sl _ b' _ _=>(match S b' with
   | some Y=>(match Y.g c with
    | .int _ z=>z.toNat
    | _=>0)
   | ab=>0)
  | _=>0)
 | ab=>0
def eI.cellN{m:Nat}(h:eI S b g n m A){i c:Nat}(a:i<n)(f:c<m):cellN S b i c=(A i c).toNat:=by
 obtain⟨p,j,k⟩:=h.outer;obtain⟨q,l,o⟩:=h.row i a;have d:=k i a;have e:=o c f;simp only at d e;simp[YtdobfmlmenaajaaGreatDoor.cellN,j,d,l,e]
def yd(P:Prop)(n b:Nat)(g:Nat->Nat)(R:aI)(m:Int)(S:St)(hn:n<=16)(hm:1<=m)(hm2:m<=1000000)(hM:eI S b g n n R)(hr:∀i j,i<n->j<n->0<=R i j/\R i j<m)(hd:m∣det n R↔P) :
  cP 227 [.sl 1 b 0 n,.int .i64 m] S (fun r S'=>∃(s:Int) (g':Nat->Nat) (R':aI),r=.int .i64 s/\(s=1∨s=-1)/\eI S' b g' n n R'/\(∀i j,i<n->j<n->0<=R' i j/\R' i j<m)/\(m∣det n R'↔P)/\Rc n n R'):=by
 refine i9 func227 ntmps227 results227 ?_;simp -dsimp only[go_sem,aa];refine(mS m S).mono ?_;rintro _ S1 ⟨bm,H,rfl,hE,hV⟩;simp -dsimp only[go_sem];refine aH (fun O S'=>∃c:Nat,c<=n/\O 0=.sl 1 b 0 n/\O 5=.fn 257 [.ptr 1 bm 0]/\O 12=.int .i64 n/\O 13=.int .i64 c/\∃(s:Int) (g':Nat->Nat) (R':aI),O 6=.int .i64 s/\(s=1∨s=-1)/\QW P n b bm m S' g' R'/\Rc n c R') (fun O S=>n-cj (O 13)) ?_ ?_
 .simp -dsimp only[go_sem];exact⟨0,om,rfl,1,rfl,bF rfl,g,R,⟨hM.ext hE,hr,hd,hV,bM.fresh hM.outer H,fun a z=>bM.fresh (hM.row a z) H⟩,fun a d h=>om⟩
 .rintro O S' ⟨c,hc,w,x,o,p,s,g',R',u,A,l,v⟩;by_cases f:c<n
  .simp -dsimp only[go_sem,u,o,p,f,aP (om:c<1000000)]
   refine aH (fun O S'=>∃i:Nat,i<=n/\O 0=.sl 1 b 0 n/\O 5=.fn 257 [.ptr 1 bm 0]/\O 7=.int .i64 c/\O 8=.int .i64 i/\O 12=.int .i64 n/\O 13=.int .i64 c/\∃(s:Int) (g':Nat->Nat) (R':aI),O 6=.int .i64 s/\(s=1∨s=-1)/\QW P n b bm m S' g' R'/\Rc n c R'/\c<i/\∀a,c<a->a<i->R' a c=0) (fun O S=>n-cj (O 8)) ?_ ?_
   .simp -dsimp only[go_sem,w,x,u,o,p];exact⟨c+1,om,rfl,s,rfl,A,g',R',l,v,om,fun a t C=>om⟩
   .clear w x u o p A l v;rintro O S' ⟨i,hi,w,x,E,B,o,p,s,g',R',u,A,l,v,I,G⟩;by_cases k:i<n
    .simp -dsimp only[go_sem,w,x,u,B,o,p,k];refine aH (fun O S'=>O 0=.sl 1 b 0 n/\O 5=.fn 257 [.ptr 1 bm 0]/\O 7=.int .i64 c/\O 8=.int .i64 i/\O 12=.int .i64 n/\O 13=.int .i64 c/\∃(s:Int) (g':Nat->Nat) (R':aI),O 6=.int .i64 s/\(s=1∨s=-1)/\QW P n b bm m S' g' R'/\Rc n c R'/\c<i/\∀a,c<a->a<i->R' a c=0) (fun O S=>cellN S b i c) ?_ ?_
     .simp -dsimp only[go_sem,w,x,u,E,B,o,p];exact⟨s,rfl,A,g',R',l,v,I,G⟩
     .clear w x u E B o p A l v G;rintro O S' ⟨w,x,E,B,o,p,s,g',R',u,A,l,v,_,G⟩;obtain⟨W,X,v1⟩:=id l.mat.outer;obtain⟨g2,u2,v2⟩:=id (l.mat.row i k);obtain⟨g3,u3,v3⟩:=id (l.mat.row c f);have Y:W i=.sl 1 (g' i) 0 n:=v1 i k;have y1:W c=.sl 1 (g' c) 0 n:=v1 c f;have x2:g2 c=.int .i64 (R' i c):=v2 c f;have x3:g3 c=.int .i64 (R' c c):=v3 c f;have r1:=l.rng i c k f;have Z:=l.rng c c f f;by_cases J:R' i c=0
      .simp -dsimp only[go_sem,aa,w,x,u,E,B,o,p,k,f,X,u2,Y,x2,J,show((0:Int) != 0)=false by simp,aP (om:i<1000000),cj]
       refine⟨⟨i+1,om,rfl,s,rfl,A,g',R',l,v,om,fun a t C=>?_⟩,om⟩
       by_cases e:a=i
       .rw[e];exact J
       .exact G a t om
      .have hq0:=Int.tdiv_nonneg Z.1 r1.1;have hq1:pG (R' c c) (R' i c)<=R' c c:=by
        rw[fM Z.1];exact oJ _ Z.1
       have w1:IntKind.i64.wrap (pG (R' c c) (R' i c))=pG (R' c c) (R' i c):=i64_in om om;generalize hq:pG (R' c c) (R' i c)=q at *;simp -dsimp only[go_sem,aa,w,x,u,E,B,o,p,k,f,X,u2,Y,x2,show(R' i c != 0)=true by simp[J]]
       refine bE 24 kr ?_
       simp -dsimp only[go_sem,aa,w,x,E,B,k,f,X,u2,u3,Y,y1,x2,x3,J,hq,w1];have K:g' i≠g' c:=fun e=>absurd (l.mat.inj i c k f e) om;refine(Al n (g' c) (g' i) bm (R' c) (R' i) q m S' hn hm hm2 om (fun j L=>l.rng c j f L) (fun j L=>l.rng i j k L) K (aj (l.gne c f)) (l.mat.row c f) (l.mat.row i k) l.var).mono ?_;rintro _ S2 ⟨hC,hH⟩;have M:b≠g' c:=l.mat.outer_ne f;have N:S2 b=some ⟨29,1,n,W⟩:=(hC b M).trans X;have hM2:eI S2 b g' n n (setRow R' c (fun j=>(R' c j-q*R' i j)%m)):=by
        refine⟨hC.has M l.mat.outer,fun a z=>?_,l.mat.inj⟩;by_cases e:a=c
        .subst e;exact hH.congr fun j _=>by simp[setRow]
        .refine(hC.has (fun F=>e (l.mat.inj a c z f F)) (l.mat.row a z)).congr fun j _=>by simp[setRow,e]
       have hM3:=hM2.swap f k om N;simp -dsimp only[go_sem];refine g9 13 kr ?_
       have ws:IntKind.i64.wrap (0-s)=-s:=by rw[EN];exact i64_in om om
       have y:c≠i:=om
       simp -dsimp only[go_sem,aa,w,x,u,E,B,o,p,k,f,N,Y,y1,ws];have key:(R' c c-q*R' i c)%m=R' c c-q*R' i c/\0<=R' c c-q*R' i c/\R' c c-q*R' i c<R' i c:=by
        have t:=fM (b:=R' i c) Z.1;have C:=aW (R' c c) J;have h3:=aV (R' c c) (om:0<R' i c)
        have h4:=Sf (R' c c) (R' i c);rw[hq]at t;rw[<-t,cX]at h4;exact⟨dZ om om,om,om⟩
       have D:QW P n b bm m (S2.upd b ⟨29,1,n,bW (bW W c (.sl 1 (g' i) 0 n)) i (.sl 1 (g' c) 0 n)⟩) (fun a=>g' (dO i c a)) (fun a j=>setRow R' c (fun j=>(R' c j-q*R' i j)%m) (dO i c a) j):=by
        have Q:∀a,a<n->dO i c a<n:=fun a z=>by unfold dO;split<;>(try split)<;>omega
        refine⟨hM3,fun a j z L=>?_,(NK f k y).trans l.ndet,(hC.var (aj (l.gne c f)) l.var).upd (aj l.ne) _,l.ne,fun a z=>l.gne _ (Q a z)⟩;simp only[setRow];split
        .exact⟨aW _ om,aV _ om⟩
        .exact l.rng _ _ (Q a z) L
       have ev:∀a d,(fun a j=>setRow R' c (fun j=>(R' c j-q*R' i j)%m) (dO i c a) j) a d=if a=i then(R' c d-q*R' i d)%m else if a=c then R' i d else R' a d:=fun a d=>by
        simp only[setRow,dO];by_cases T:a=i
        .simp[T]
        .by_cases F:a=c
         .simp[F,y,aj y]
         .simp[T,F]
       rw[mh];refine⟨⟨-s,rfl,om,_,_,D,fun a d t C h3=>?_,I,fun a t C=>?_⟩,?_⟩
       .refine(ev a d).trans ?_;by_cases T:a=i
        .rw[ai T,v c d t t f,v i d t om k];simp
        .rw[af T];by_cases F:a=c
         .rw[ai F,v i d t om k]
         .rw[af F];exact v a d t C h3
       .refine(ev a c).trans ?_;rw[af om,af om];exact G a t C
       .have U:=D.mat.cellN k f;have e9:=l.mat.cellN k f;have V:=(ev i c).trans ((ai rfl).trans key.1);simp only at U V;rw[V]at U;omega
    .simp -dsimp only[go_sem,w,x,u,B,o,p,k,aP (om:c<1000000),cj]
     refine⟨⟨c+1,om,rfl,s,rfl,A,g',R',l,fun a d t C h3=>?_⟩,om⟩
     by_cases e:d=c
     .rw[e];exact G a om om
     .exact v a d om C h3
  .obtain rfl:c=n:=om
   simp -dsimp only[go_sem,u,o,p,f];exact⟨s,rfl,A,g',R',l.mat,l.rng,l.ndet,v⟩
def GA(n:Nat)(H:aI)(m:Int)(C:1<=n)(W:n<=8)(Q:2<=m)(D:m<=1000000)(q:∀a b:Int,m∣a*b->m∣a∨m∣b) :
  cP 222 [az n n H,.int .i64 m] St.none (fun r S'=>∃d:Int,(d=0↔m∣det n H)/\r=.tup [.int .i64 d,.int .i64 0]):=by
 refine i9 func222 ntmps222 results222 ?_;have k:¬(m=0):=om
 simp -dsimp only[go_sem,aa];refine(xl n H C W).call ?_;simp -dsimp only[go_sem,aa];refine(k9 m Q om).call ?_;simp -dsimp only[go_sem,aa];refine(mF n n H m om om om om _ _ (cS _ _)).mono ?_;rintro _ S1 ⟨b,g,rfl,X⟩;simp -dsimp only[go_sem,aa];have E:m∣det n (lR H m)↔m∣det n H:=by
  have T:=uq (h:=m) n (lR H m) H (fun a b=>by
   have:=xW (H a b) m;exact⟨-(H a b/m),by simp only[lR];grind⟩)
  constructor
  .intro h;have F:=IY h T
   rwa [show ∀x y:Int,x-(x-y)=y from fun x y=>om]at F
  .intro h;have F:=jP T h
   rwa [show ∀x y:Int,x-y+y=x from fun x y=>om]at F
 refine(yd (m∣det n H) n b g (lR H m) m S1 om om D X.1 (fun i j _ _=>ra om i j) E).mono ?_;rintro _ S2 ⟨s,g',R,rfl,Y,u,Z,G,hZ⟩;have ws:IntKind.i64.wrap (s+m)=s+m:=i64_in om om;have v:=(CB Q q n R (fun a d C I=>hZ a d om C I)).symm.trans G;simp -dsimp only[go_sem,ws];refine aH (fun O S'=>∃i:Nat,i<=n/\O 1=.int .i64 m/\O 27=.sl 1 b 0 n/\O 28=.int .i64 n/\O 29=.int .i64 i/\∃d:Int,O 8=.int .i64 d/\(m∣d↔∃a,a<i/\m∣R a a)/\0<=d/\(0<i->d<m)/\eI S' b g' n n R) (fun O S=>n-cj (O 29)) ?_ ?_
 .simp -dsimp only[go_sem];refine⟨0,om,rfl,s+m,rfl,⟨fun h=>?_,fun⟨a,h,_⟩=>om⟩,om,fun h=>om,u⟩
  exfalso;obtain⟨t,ht⟩:=h;have U:s=m*(t-1):=by rw[se];omega
  have J:m∣1:=by
   rcases Y with rfl|rfl
   .exact⟨_,U⟩
   .exact⟨-(t-1),by rw[m9,<-U];rfl⟩
  have:=mt om J;omega
 .rintro O S' ⟨i,hi,K,l,o,p,d,L,f,w,M,u⟩;by_cases c:i<n
  .obtain⟨g1,u1,v1⟩:=id u.outer;obtain⟨g2,u2,v2⟩:=id (u.row i c);have x1:g1 i=.sl 1 (g' i) 0 n:=v1 i c;have x2:g2 i=.int .i64 (R i i):=v2 i c;have r1:=Z i i c c;have q0:fo d m=d%m:=aL w;have r2:0<=d%m/\d%m<m:=⟨aW _ k,aV _ om⟩;have r3:=ow (A:=1000000) (B:=1000000) (om:0<=d%m/\d%m<=1000000) (om:0<=R i i/\R i i<=1000000)
   have q1:IntKind.i64.wrap (d%m*R i i)=d%m*R i i:=i64_in om om;have q2:fo (d%m*R i i) m=d%m*R i i%m:=aL r3.1;simp -dsimp only[go_sem,aa,L,l,o,p,c,u1,x1];refine bE 10 kr ?_
   simp -dsimp only[go_sem,aa,K,L,l,o,p,c,u2,x2,k,q0,q1,q2,aP (om:i<1000000),cj]
   refine⟨⟨i+1,om,rfl,d%m*R i i%m,rfl,?_,aW _ k,fun _=>aV _ om,u⟩,om⟩
   have K:m∣d%m*R i i%m↔m∣d%m*R i i:=by rw[tj,tj,Int.emod_emod]
   have V:m∣d%m↔m∣d:=by rw[tj,tj,Int.emod_emod]
   rw[K];constructor
   .intro h;rcases q _ _ h with N|N
    .obtain⟨a,h6,z⟩:=f.1 (V.1 N);exact⟨a,om,z⟩
    .exact⟨i,om,N⟩
   .rintro⟨a,h6,z⟩;by_cases e:a=i
    .subst e;exact di z
    .exact eQ (V.2 (f.2 ⟨a,om,z⟩))
  .obtain rfl:i=n:=om
   simp -dsimp only[go_sem,L,l,o,p,c];have P:=M om;refine⟨d,⟨fun h=>v.1 (f.1 (by rw[h];exact je _)),fun h=>?_⟩,rfl⟩
   have I:=dw (f.2 (v.2 h))
   rwa [dZ w P]at I

end Go.Proofs.YtdobfmlmenaajaaGreatDoor
