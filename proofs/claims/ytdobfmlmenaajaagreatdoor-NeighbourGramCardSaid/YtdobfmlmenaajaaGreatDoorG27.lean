/-
  Lemmas for NeighbourGram.
-/
import Derived.Test.YtdobfmlmenaajaaGreatDoorG26
namespace Go.Proofs.YtdobfmlmenaajaaGreatDoor
open Go.RowKit Tryz
open _root_.Int renaming tmod→eN
open _root_.Option renaming none→ab
set_option maxHeartbeats 6400000
set_option maxRecDepth 4096
set_option linter.all false
attribute [local go_sem] Nat.reduceAdd Nat.reduceEqDiff Nat.reduceLeDiff Nat.reduceLT reduceCtorEq Int.ofNat_lt decide_true decide_false Int.zero_le_ofNat
attribute [local go_sem ↓] reduceIte
variable{x y:AV}{Q:AX->Tm->St->Prop}{ops:Array Oper}{D m:Int}{l:List Oper}{b b1 b3 b8 bu c i j k n top:Nat}{g gu:Nat->Nat}{S S' S0:St}{O:Tm}{K:Tm->St->Prop}{A C X:aJ}
def iL(k0:Nat):Nat->Nat
 | 0=>k0
 | k+1=>iL k0 k+iL k0 k+60
theorem oS(a:Nat):∀k,a<=iL a k
 | 0=>ae _
 | k+1=>by have:=oS a k;simp only[iL];omega
def xM(b:Nat)(c:b<=300):∀k,k<=8->iL b k<=100000:=by
 intro k a
 match k,a with
 | 0,_=>simp only[iL];omega
 | 1,_=>simp only[iL];omega
 | 2,_=>simp only[iL];omega
 | 3,_=>simp only[iL];omega
 | 4,_=>simp only[iL];omega
 | 5,_=>simp only[iL];omega
 | 6,_=>simp only[iL];omega
 | 7,_=>simp only[iL];omega
 | 8,_=>simp only[iL];omega
def Iz{B:aJ}(h:n<=9)(c:∀i j,i<n->j<n->nb (A i j) k)(d:∀i j,i<n->j<n->nb (B i j) k){i j:Nat}(e:i<n)(g:j<n):nb (mm n A B i j) (k+k+9):=by
 have:=pm (f:=fun a=>A i a*B a j) (k:=k+k) n (fun a b=>(c i a e b).mul (d a j b g));exact this.mono om
def Ln(c:n<=9)(b:∀i j,i<n->j<n->nb (A i j) k):∀t,t<=n->nb (az t (fun a=>A a a)) (k+9):=fun t d =>
 (pm (f:=fun a=>A a a) (k:=k) t (fun a e=>b a a om om)).mono om
def CZ{a b:Int}(c:nb a k):nb (a/b) (k+1):=by
 have h:(a/b).natAbs<=a.natAbs:=jg a b;exact(nb.of_le h c).mono om
theorem zk{n k0:Nat}{M:aJ}(c:n<=9)(d:1<=k0)(e:∀i j,i<n->j<n->nb (M i j) k0):∀k i j,i<n->j<n->nb (qz n M k i j) (iL k0 k)
 | 0,i,j,_,_=>by
  simp only[qz,iL];split
  .exact nb.one d
  .exact nb.zero _
 | k+1,i,j,a,b=>by
  have ih:=zk c d e k;have g:=oS k0 k;have f:∀i j,i<n->j<n->nb (mm n M (qz n M k) i j) (iL k0 k+iL k0 k+9):=fun i j a b=>Iz c (fun i j a b=>(e i j a b).mono g) ih a b;simp only[qz,iL];have h:nb (if i=j then tr n (mm n M (qz n M k))/(-((k+1:Nat):Int))else 0) (iL k0 k+iL k0 k+19):=by
   split
   .exact CZ (Ln c f n (ae _))
   .exact nb.zero _
  exact(((f i j a b).mono om).add h).mono om
def Fi(n s:Nat)(M:aJ)(B:1<=n)(C:n<=9)(D:1<=s)(hk:s<=300)(Q:∀i j,i<n->j<n->nb (M i j) s):MF 129 [aQ n n M] n n (mJ n M):=by
 refine MF.of ?_;refine jr func129 ntmps129 results129 ?_;simp -dsimp only[go_sem,aa,aQ,a8];refine(ky dc dc).call ?_
 simp -dsimp only[go_sem,aa];refine(Ju n 1 1 om (nb.one om) om _ _ (cI _ _)).mono ?_;rintro _ S1 ⟨b,g,rfl,f,_⟩;simp -dsimp only[go_sem];refine aH (fun O S=>∃k:Nat,1<=k/\k<=n/\O 0=aQ n n M/\O 3=.int .i64 n/\O 5=.int .i64 k/\∃b,O 4=.sl 1 b 0 n/\∃g,dA S b g n n (qz n M (k-1))) (fun O S=>n-ca (O 5)) ?_ ?_
 .simp -dsimp only[go_sem,aQ,a8];exact⟨1,om,B,rfl,b,rfl,g,f⟩
 clear f;rintro O S ⟨k,hk2,hkn,m,l,o,b,p,g,f⟩;by_cases R:k<n
 .have T:=xM s hk (k-1) om;have U:=oS s (k-1);have I:=zk C D Q (k-1);have E:∀i j,i<n->j<n->nb (M i j) (iL s (k-1)):=fun i j F V=>(Q i j F V).mono U;have J:∀i j,i<n->j<n->nb (mm n M (qz n M (k-1)) i j) (iL s (k-1)+iL s (k-1)+9):=fun i j F V=>Iz C E I F V;simp -dsimp only[go_sem,aa,m,l,p,o,R,aQ,a8];refine(tP n n n (iL s (k-1)) M (qz n M (k-1)) B om B om B om E I om _ _ (fD.two (VA.refl _ _) f.vr.va)).mono ?_;rintro _ S2 ⟨bc,g',rfl,r,_⟩;generalize W:mm n M (qz n M (k-1))=X at *;simp -dsimp only[go_sem,m,p];refine aG.intro fun K Y=>?_
  try simp -dsimp only[go_sem,l]
  have Z:bc≠K:=bJ.fresh r.outer Y;have q2:∀a,a<n->g' a≠K:=fun a w=>bJ.fresh (r.row a w) Y;refine aH (fun O S=>∃i:Nat,i<=n/\O 0=aQ n n M/\O 3=.int .i64 n/\O 4=.sl 1 bc 0 n/\O 5=.int .i64 k/\O 6=.ptr 2 K 0/\O 29=.int .i64 n/\O 30=.int .i64 i/\dA S bc g' n n X/\dT S K 50 2 (.big (az i fun a=>X a a))) (fun O S=>n-ca (O 30)) ?_ ?_
  .simp -dsimp only[go_sem,m,l,o];exact⟨0,om,rfl,(r.upd Z q2 _).upd Z q2 _,dT.set⟩
  clear r m l p o Y f;rintro O S ⟨i,F,m,l,p,o,e6,u,v,f,V6⟩;obtain⟨g6,u6,x6⟩:=id V6;by_cases d:i<n
  .obtain⟨g1,u1,v1⟩:=f.outer;obtain⟨g2,L,v2⟩:=f.row i d;have x1:g1 i=.sl 2 (g' i) 0 n:=v1 i d;have x2:g2 i=.big (X i i):=v2 i d;simp -dsimp only[go_sem,u,v,d];refine bF 9 kr ?_
   simp -dsimp only[go_sem,aa,m,l,p,o,e6,u,v,d,u1,x1,L,x2,u6,x6,aT (om:i<1000000),ca]
   exact⟨_,(vk (Ln C J i om) ((J i i d d).mono om) om).pure',trivial,⟨i+1,om,rfl,f.upd Z q2 _,dT.set⟩,om⟩
  have x:n=i:=om
  simp -dsimp only[go_sem,u,v,d];have wk:IntKind.i64.wrap (0-(k:Int))=-(k:Int):=by rw[DM];exact i64_in om om
  refine oT 11 [[7,8],[8],[]] kr ?_
  simp -dsimp only[go_sem,aa,o,e6,u6,x6,wk];have nt:=Ln C J n (ae _);subst x;refine⟨_,(ky om om).pure',_,(iR nt (b:=-(k:Int)) ((show nb (-(k:Int)) 4 by unfold nb;omega).mono om) om om).pure',?_⟩
  simp -dsimp only[go_sem];refine aG.intro fun N f8=>?_
  try simp -dsimp only[go_sem]
  refine aG.intro fun b9 P=>?_;have n9_8:=(ag P).1;simp -dsimp only[go_sem,l,nn n9_8];have r1:bc≠N:=bJ.fresh f.outer f8;have r2:∀a,a<n->g' a≠N:=fun a w=>bJ.fresh (f.row a w) f8;have r3:bc≠b9:=bJ.fresh f.outer (ag P).2;have r4:∀a,a<n->g' a≠b9:=fun a w=>bJ.fresh (f.row a w) (ag P).2;generalize hq:(az n fun a=>X a a) / -(k:Int)=q at *;have nq:nb q (iL s (k-1)+iL s (k-1)+19):=by rw[<-hq];exact CZ nt
  refine aH (fun O S=>∃i:Nat,i<=n/\O 0=aQ n n M/\O 3=.int .i64 n/\O 4=.sl 1 bc 0 n/\O 5=.int .i64 k/\O 8=.ptr 2 N 0/\O 52=.int .i64 n/\O 53=.int .i64 i/\dA S bc g' n n (fun a c=>X a c+if a=c/\a<i then q else 0)/\dT S N 50 2 (.big q)) (fun O S=>n-ca (O 53)) ?_ ?_
  .simp -dsimp only[go_sem,m,l,p,o];refine⟨0,om,rfl,rfl,dA.congr (A:=X) ?_ (fun a c _ _=>by simp),?_⟩
   .repeat' first|exact f|refine dA.upd ?_ (by assumption) (by assumption) _
   .simp only[dT.at_hit,dT.at_miss,DF,iG,bR,aO,aj n9_8]
  clear f m l p o e6 u v f8 P d V6 u6 x6;rintro O S ⟨i,F,m,l,p,o,e8,y,z,f,V8⟩;obtain⟨g8,u8,x8⟩:=id V8;by_cases d:i<n
  .obtain⟨g1,u1,v1⟩:=f.outer;obtain⟨g2,L,v2⟩:=f.row i d;have x1:g1 i=.sl 2 (g' i) 0 n:=v1 i d;have x2:g2 i=.big (X i i):=(v2 i d).trans sm
   simp -dsimp only[go_sem,m,l,p,o,y,z,d];refine bF 15 kr ?_
   simp -dsimp only[go_sem,aa,m,l,p,o,e8,y,z,d,u1,x1,L,x2,u8,x8,aT (om:i<1000000),ca]
   refine⟨_,(vk ((J i i d d).mono om) nq om).pure',trivial,⟨i+1,om,rfl,(f.set d L).congr fun a c _ _=>?_,V8.upd (aj (r2 i d)) _⟩,om⟩
   simp only[eV];by_cases e:a=i/\c=i
   .obtain⟨rfl,rfl⟩:=e;simp
   .rw[af e];by_cases e2:a=c/\a<i
    .rw[ai e2,ai ⟨e2.1,om⟩]
    .rw[af e2,af om]
  have x:n=i:=om
  subst x;simp -dsimp only[go_sem,m,l,p,o,y,z,cN,aT (om:k<1000000),ca]
  refine⟨⟨k+1,om,om,rfl,rfl,bc,rfl,g',f.congr fun a c w _=>?_⟩,om⟩
  rw[(om:k+1-1=(k-1)+1)]
  simp only[qz,W];congr 1;by_cases e:a=c
  .rw[ai ⟨e,w⟩,ai e,<-hq,show((k-1+1:Nat):Int)=(k:Int) by omega];rfl
  .rw[af (fun h=>e h.1),af e]
 have G:n=k:=om
 subst G;have I:=zk C D Q (n-1);have T:=xM s hk (n-1) om;by_cases H:n%2=0
 .have t:(eN (n:Int) 2==0)=true:=by rw[aK om,ue];omega
  simp -dsimp only[go_sem,aa,m,l,p,o,cN,t,show ¬((2:Int)=0) by decide]
  refine(Gr n n _ (qz n M (n-1)) B om om I om _ _ (fD.one f.vr.va)).mono ?_;rintro _ S2 ⟨c,g',rfl,r,_⟩;simp -dsimp only[go_sem];exact⟨c,rfl,g',r.congr fun a c _ _=>by simp[mJ,H]⟩
 .have t:(eN (n:Int) 2==0)=false:=by rw[aK om,gS];omega
  simp -dsimp only[go_sem,aa,m,l,p,o,cN,t,show ¬((2:Int)=0) by decide]
  exact⟨b,rfl,g,f.congr fun a c _ _=>by simp[mJ,H]⟩
def DC(n a:Nat)(M:aJ)(c:1<=n)(e:n<=9)(d:1<=a)(f:a<=300)(h:∀i j,i<n->j<n->nb (M i j) a):DI 78 [aQ n n M] n n (mJ n M):=by
 refine DI.of ?_;refine jr func78 ntmps78 results78 ?_;simp -dsimp only[go_sem,aa,aQ,a8];refine(kN n n M c om c om).call ?_;simp -dsimp only[go_sem,aa,show((n:Int) != n)=false by simp]
 refine(Fi n a M c e d f h _ _ (cI _ _)).mono ?_;rintro _ S1 ⟨b,g,rfl,k,_⟩;simp -dsimp only[go_sem];exact⟨b,rfl,g,k⟩

def wM(A:aJ)(n R:Nat):aJ:=fun a b=>A (ua n R a) b
structure mz(n:Nat)(A:aJ):Prop where
 h1:1<=n
 hn:n<=8
 hB:∀σ k,lI A (n+1) σ k->∀k' i j,k'+j<n+1->k'+i<n+n+1->nb (cM (fun x y=>A x (σ y)) k' i j) KB
 hdet:det (n+1) (wM A n (n+n))≠0
 hrow:∀R,n<=R->R<=n+n->det (n+1) (wM A n R)≠0->∀σ neg k,nv (wM A n R) (n+1) σ neg k->∀k' i j,k'+i<n+1->k'+j<n+1->nb (cM (fun a b=>wM A n R (σ a) b) k' i j) KB
 hent:∀r j,r<n+n+1->j<n+1->nb (A r j) KB
structure Kq(n:Nat)(A:aJ)(R:Nat)(H U:aJ):Prop where
 r1:n<=R
 r2:R<=n+n
 dt:det (n+1) (wM A n R)≠0
 tl:∃d M,TL (n+1) (eU (n+1) (n+1) (wM A n R)) d M/\M 0=((det (n+1) (wM A n R)).natAbs:Int)/\HI (n+1) (eU (n+1) (n+1) (wM A n R)) d M (n+1) (fun j r=>H r j)
 mu:∀i j,i<n+1->j<n+1->mm (n+1) (wM A n R) U i j=H i j
def mz.dlt(h:mz n A){R:Nat}(a:n<=R)(b:R<=n+n)(c:det (n+1) (wM A n R)≠0):(det (n+1) (wM A n R)).natAbs<PB:=by
 have:=h.hrow R a b c id false 0 (nv.init _ _) n 0 0 om om;rw[c8]at this;have d:nb (det (n+1) (wM A n R)) KB:=this;have:=d.P;omega
structure TF(S0 S:St)(b b1 b3 bu:Nat)(g gu:Nat->Nat)(n top:Nat)(A X:aJ)(D:Int):Prop where
 cols:dA S b g (n+1) (n+n+1) (fun j r=>A r j)
 pair:bJ S b1 218 1 2 (LL b (n+1) top)
 var:dT S b3 50 2 (.big D)
 mat:dA S bu gu (n+1) (n+1) X
 ext:eQ S0 S
 new:∀a,a<n+1->S0 (gu a)=ab
def TF.congr{Y:aJ}(h:TF S0 S b b1 b3 bu g gu n top A X D)(d:∀a c,a<n+1->c<n+1->X a c=Y a c):TF S0 S b b1 b3 bu g gu n top A Y D:=⟨h.cols,h.pair,h.var,h.mat.congr d,h.ext,h.new⟩
def TF.other(h:TF S0 S b b1 b3 bu g gu n top A X D){e:Nat}(c:S e=ab)(Z:eE):TF S0 (S.upd e Z) b b1 b3 bu g gu n top A X D :=
 ⟨h.cols.upd (bJ.fresh h.cols.outer c) (fun a d=>bJ.fresh (h.cols.row a d) c) _,h.pair.upd (bJ.fresh h.pair c) _,h.var.upd (h.var.fresh c) _,h.mat.upd (bJ.fresh h.mat.outer c) (fun a d=>bJ.fresh (h.mat.row a d) c) _,h.ext.upd (h.ext.none c) _,h.new⟩
def TF.set(h:TF S0 S b b1 b3 bu g gu n top A X D){i j:Nat}{z:Int}{g':Nat->AV}(c:i<n+1)(d:S (gu i)=some ⟨50,2,n+1,g'⟩)(m:1<=n):TF S0 (S.upd (gu i) ⟨50,2,n+1,bR g' j (.big z)⟩) b b1 b3 bu g gu n top A (eV X i j z) D:=by
 have f:=h.mat.row i c;refine⟨h.cols.upd (bJ.ne h.cols.outer f dc) (fun a l e=>?_) _,h.pair.upd (bJ.ne h.pair f dc) _,h.var.upd (fun e=>?_) _,h.mat.set c d,h.ext.upd (h.new i c) _,h.new⟩
 .obtain⟨y,k,_⟩:=h.cols.row a l;rw[e,d]at k;have k':=lc (Option.map eE.n) k;simp only[dd,eG]at k';omega
 .obtain⟨y,k,_⟩:=h.var;rw[e,d]at k;cases k;omega
def yx(S0:St)(b n top:Nat)(g:Nat->Nat)(A:aJ)(F:mz n A)(hO:dA S0 b g (n+1) (n+n+1) (fun j r=>A r j)) :
  cE 233 [.agg [.sl 1 b 0 (n+1),.int .i64 top]] S0 (fun _ S'=>(∃R H U,Kq n A R H U/\∃g',dA S' b g' (n+1) (n+n+1) (k9 (n+1) (fun k r=>A r k) U))/\iC b S0 S'):=by
 have hKB:=mC;refine ib func233 rfl 65 ntmps233 kr sm ?_
 rw[lg,results233];have h1:=F.h1;have hn:=F.hn;simp -dsimp only[go_sem,bH,bW,cC,cW];refine aG.intro fun P f1=>?_;refine nY (fun T=>bJ T P 218 1 2 (LL b (n+1) top)/\eQ S0 T) ?_ ?_
 .refine⟨bJ.here fun j f=>?_,(eQ.refl S0).upd f1 _⟩
  match j,f with
  | 0,_=>rfl
  | 1,_=>rfl
 rintro T ⟨G,Y⟩;have Z:=hO.ext Y;obtain⟨g1,u1,Q⟩:=id G;have x0:g1 0=.sl 1 b 0 (n+1):=Q 0 om;have x1:g1 1=.int .i64 top:=Q 1 om;refine fu 3 [[0,1],[],[]] kr ?_
 simp -dsimp only[go_sem,aa,u1,x0,x1,ee];refine(uT T b g n (n+1) (n+n+1) top A hn h1 rfl rfl Z.cols F.hB F.hdet).mono ?_;rintro _ S1 ⟨e,R,rfl,r1,r2,C,hL,v⟩;obtain⟨g2,u2,v2⟩:=id (v.has G);have y0:g2 0=.sl 1 b 0 (n+1):=v2 0 om;simp -dsimp only[go_sem,aa,u2,y0];have hO1:=Z.ext v;refine(xA (n+1) (n+n+1) (n+1) KB (fun j r=>A r j) (ua n R) om om (fun i q=>by unfold ua;split<;>omega) (fun c r hc hr=>F.hent r c hr hc) om _ _ (fD.two hO1.vr.va (VR.sl hL om (fun a s=>by rw[aB];exact VR.mf rfl)).va)).mono ?_
 rintro _ S2 ⟨bw,gw,rfl,x,hE2,_,_⟩
 replace C:det (n+1) (wM A n R)≠0:=C
 replace x:dA S2 bw gw (n+1) (n+1) (wM A n R):=x
 have V:=F.hrow R r1 r2 C;have hdl:=F.dlt r1 r2 C;have I:∀i j,i<n+1->j<n+1->nb (wM A n R i j) KB:=fun i j q f=>F.hent _ _ (by unfold ua;split<;>omega) f
 have y:eQ S0 S2:=(Y.trans v).trans hE2;have hp2:=(v.trans hE2).has G;simp -dsimp only[go_sem,aa];refine(Nj (n+1) KB (wM A n R) om om om om C V).spec (fD.one x.vr.va) ?_;simp -dsimp only[go_sem];refine aG.intro fun E f3=>?_
 try simp -dsimp only[go_sem]
 have s3:=y.none f3;have hNR:n+1≠1:=om
 refine Fs (fun T=>dA T bw gw (n+1) (n+1) (wM A n R)/\dT T E 50 2 (.big (det (n+1) (wM A n R)))/\eQ S0 T/\bJ T P 218 1 2 (LL b (n+1) top)) ?_ ?_
 .have q1:bw≠E:=bJ.fresh x.outer f3;have q2:∀a,a<n+1->gw a≠E:=fun a s=>bJ.fresh (x.row a s) f3;have q3:P≠E:=bJ.fresh hp2 f3;exact⟨(x.upd q1 q2 _).upd q1 q2 _,dT.set,(y.upd s3 _).upd s3 _,(hp2.upd q3 _).upd q3 _⟩
 clear x y hp2 v hE2 hL hO1 u2 v2 y0 u1 Q x0 x1 Z G Y f3;rintro T3 ⟨x,V3,t,hp3⟩;refine(DC (n+1) KB (wM A n R) om om om om I _ _ (fD.one x.vr.va)).mono ?_;rintro _ S4 ⟨ba,ga,rfl,hA4,z,_⟩;obtain⟨g3,u3,x3⟩:=id (V3.ext z);simp -dsimp only[go_sem,aa,u3,x3];have hw4:=x.ext z;refine(yw (n+1) (wM A n R) om om (fun i j q f=>(I i j q f).mono om) C hdl _ _ (fD.two hw4.vr.va (VA.refl _ _))).mono ?_;rintro _ S5 ⟨bh,gh,H,rfl,⟨d,M,hTL,hM0,J⟩,hH5,K,_⟩;have hHr:∀i j,i<n+1->j<n+1->nb (H i j) KB:=fun i j q f=>by
  have:=J.rng hTL (ae _) (fun c r _ h1 h2=>om) f q
  exact FJ om
 have hAb:∀i j,i<n+1->j<n+1->nb (mJ (n+1) (wM A n R) i j) (iL KB n):=fun i j q f=>by
  have:=zk om om I n i j q f;unfold mJ;split
  .exact this.neg
  .exact this
 have hbm:=oS KB n;have hbl:=xM KB om n om;obtain⟨U,hU1,hU2⟩:=JP (N:=n+1) (w:=wM A n R) (H:=H) om (fun j f=>J.mem j f);simp -dsimp only[go_sem,aa];refine(tP (n+1) (n+1) (n+1) (iL KB n) (mJ (n+1) (wM A n R)) H om om om om om om hAb (fun i j q f=>(hHr i j q f).mono hbm) om _ _ (fD.two (hA4.ext K).vr.va hH5.vr.va)).mono ?_;rintro _ S6 ⟨bu,gu,rfl,hU6,hE6,nu,nug⟩;have h:=(z.trans K).trans hE6;have hXb:∀i j,i<n+1->j<n+1->nb (mm (n+1) (mJ (n+1) (wM A n R)) H i j) (iL KB n+iL KB n+9):=fun i j q f=>Iz om hAb (fun i j q f=>(hHr i j q f).mono hbm) q f;have hTF:TF S0 S6 b P E bu g gu n top A (fun a c=>det (n+1) (wM A n R)*U a c) (det (n+1) (wM A n R)):=⟨hO.ext (t.trans h),h.has hp3,V3.ext h,hU6.congr hU2,t.trans h,fun a s=>((t.trans z).trans K).none (nug a s)⟩;have hDb:∀a c,a<n+1->c<n+1->nb (det (n+1) (wM A n R)*U a c) (iL KB n+iL KB n+9):=fun a c s hc=>by rw[<-hU2 a c s hc];exact hXb a c s hc
 have hTr:Kq n A R H U:=⟨r1,r2,C,⟨d,M,hTL,hM0,J⟩,hU1⟩;have hUb:∀a c,a<n+1->c<n+1->nb (U a c) (iL KB n+iL KB n+10):=fun a c s hc=>by
  have:=CZ (b:=det (n+1) (wM A n R)) (hDb a c s hc)
  rwa [cT _ C]at this
 generalize hDe:det (n+1) (wM A n R)=D at *;clear J hTL hM0 hH5 hU6 hA4 hw4 x V3 u3 x3 h hE6 K z t hp3 nu nug hU1 hU2 hXb hAb hHr V I;simp -dsimp only[go_sem];refine aH (fun O S=>∃i:Nat,i<=n+1/\O 1=.ptr 1 P 0/\O 3=.ptr 2 E 0/\O 7=.sl 1 bu 0 (n+1)/\O 36=.sl 1 bu 0 (n+1)/\O 37=.int .i64 ((n+1:Nat):Int)/\O 38=.int .i64 i/\TF S0 S b P E bu g gu n top A (fun a c=>if a<i then U a c else D*U a c) D) (fun O S=>n+1-ca (O 38)) ?_ ?_
 .simp -dsimp only[go_sem];exact⟨0,om,rfl,hTF.congr fun a c _ _=>by simp⟩
 clear hTF;rintro O S ⟨i,q,W,e3,X,l,m,o,u⟩;by_cases p:i<n+1
 .obtain⟨g1,u1,Q⟩:=u.mat.outer;have x1:g1 i=.sl 2 (gu i) 0 (n+1):=Q i p;simp -dsimp only[go_sem,aa,W,X,l,m,o,p,u1,x1];refine aH (fun O S=>∃j:Nat,j<=n+1/\O 1=.ptr 1 P 0/\O 3=.ptr 2 E 0/\O 7=.sl 1 bu 0 (n+1)/\O 10=.sl 2 (gu i) 0 (n+1)/\O 36=.sl 1 bu 0 (n+1)/\O 37=.int .i64 ((n+1:Nat):Int)/\O 38=.int .i64 i/\O 42=.sl 2 (gu i) 0 (n+1)/\O 43=.int .i64 ((n+1:Nat):Int)/\O 44=.int .i64 j/\TF S0 S b P E bu g gu n top A (fun a c=>if a<i∨(a=i/\c<j)then U a c else D*U a c) D) (fun O S=>n+1-ca (O 44)) ?_ ?_
  .simp -dsimp only[go_sem,W,e3,X,l,m,o];exact⟨0,om,rfl,u.congr fun a c _ _=>by simp⟩
  clear u W e3 X l m o u1 Q x1;rintro O S ⟨j,f,W,e3,X,e10,l,m,o,e42,e43,L,u⟩;by_cases B:j<n+1
  .obtain⟨g2,u2,v2⟩:=u.mat.row i p;have x2:g2 j=.big (D*U i j):=(v2 j B).trans sm
   obtain⟨g3,u3,x3⟩:=id u.var;simp -dsimp only[go_sem,aa,W,e3,X,l,m,o,e42,e43,L,B,u2];refine aG.intro fun b12 f12=>?_;have q1:E≠b12:=u.var.fresh f12;have q2:gu i≠b12:=bJ.fresh (u.mat.row i p) f12;simp -dsimp only[go_sem,aa,e3,e10,L,x2,u3,x3,q1,eL];refine(iR (hDb i j p B) ((FJ om).mono om) om C).call ?_;rw[cT _ C];simp -dsimp only[go_sem,aa,W,e3,X,e10,l,m,o,e42,e43,L,B,u2,x3,q2,aT (om:j<1000000),ca]
   refine⟨⟨j+1,om,rfl,?_⟩,om⟩
   rw[lU];refine((u.other f12 _).set p (by rw[aN q2];exact u2) om).congr fun a c _ _=>?_
   simp only[eV];by_cases e:a=i/\c=j
   .obtain⟨rfl,rfl⟩:=e;simp
   .rw[af e];by_cases e2:a<i∨(a=i/\c<j)
    .rw[ai e2,ai om]
    .rw[af e2,af om]
  have hnj:n+1=j:=om
  simp -dsimp only[go_sem,aa,W,e3,X,l,m,o,e42,e43,L,B,aT (om:i<1000000),ca]
  refine⟨⟨i+1,om,rfl,u.congr fun a c _ hc=>?_⟩,om⟩
  by_cases e2:a<i∨(a=i/\c<j)
  .rw[ai e2,ai om]
  .rw[af e2,af om]
 obtain⟨g1,u1,Q⟩:=id u.pair;have x1:g1 0=.sl 1 b 0 (n+1):=Q 0 om;simp -dsimp only[go_sem,aa,W,X,l,m,o,p,u1,x1];refine(F6 S b bu g gu (n+1) (n+n+1) (iL KB n+iL KB n+40) (fun j r=>A r j) _ om om om (fun a r s hr=>(F.hent r a hr s).mono om) (fun a r s hr=>?_) om u.cols u.mat).mono ?_
 .rw[ai om];exact(hUb a r s hr).mono om
 rintro _ S7 ⟨⟨g',hO7⟩,hK7⟩;simp -dsimp only[go_sem];refine⟨⟨R,H,U,hTr,g',hO7.congr fun a r s hr=>?_⟩,(iC.ext u.ext).trans hK7⟩;unfold k9;exact aF fun k hk=>by dsimp only;rw[ai om]

def wD(n m:Nat)(A:aJ)(a:1<=n)(b:n<=16)(c:1<=m)(d:m<=16):PF 210 [aQ n m A] (.tup [.int .i64 n,.int .i64 m,.bool true]):=by
 refine iQ func210 ntmps210 results210 ?_;simp -dsimp only[go_sem,aa,aQ,a8];refine(kN n m A a b c d).call ?_;simp only[go_sem];exact VR.tup (by simp[pq])
structure FS(S:St)(b b8:Nat)(g:Nat->Nat)(n i:Nat)(C:aJ)(x y:AV):Prop where
 cols:dA S b g (n+1) (n+n+1) C
 pair:bJ S b8 218 1 2 (LL b (n+1) n)
 hx:cV 3 1 St.none S x (min i n) (fun a=>.int .i64 ((a:Nat):Int))
 hy:cV 3 1 St.none S y (i-n) (fun a=>.int .i64 ((n+a:Nat):Int))
 xy:∀d,d5 x d->¬d5 y d
def FS.other(h:FS S b b8 g n i C x y){e:Nat}(c:S e=ab)(Z:eE):FS (S.upd e Z) b b8 g n i C x y :=
 ⟨h.cols.upd (bJ.fresh h.cols.outer c) (fun a d=>bJ.fresh (h.cols.row a d) c) _,h.pair.upd (bJ.fresh h.pair c) _,h.hx.upd rfl (h.hx.fresh c) _,h.hy.upd rfl (h.hy.fresh c) _,h.xy⟩
def FS.appx(h:FS S b b8 g n i C x y)(v:i<n){c:Nat}(l:cV 3 1 St.none S' (.sl 1 c 0 (min i n+1)) (min i n+1) (fun a=>if a=min i n then .int .i64 (i:Int)else .int .i64 ((a:Nat):Int)))(m:∀d X,S d=some X->¬d5 x d->S' d=some X)(p:d5 x c∨S c=ab) :
  FS S' b b8 g n (i+1) C (.sl 1 c 0 (min i n+1)) y:=by
 have kp:∀{b ty es n:Nat} {g:Nat->AV},bJ S b ty es n g->ty≠3->bJ S' b ty es n g:=fun q r=>by
  obtain⟨z,o,s⟩:=q;exact⟨z,m _ _ o (h.hx.other o r),s⟩
 have t:min i n=i:=om
 refine⟨⟨kp h.cols.outer dc,fun a u=>kp (h.cols.row a u) dc,h.cols.inj⟩,kp h.pair dc,?_,?_,fun d j f=>?_⟩
 .rw[t]at l ⊢;rw[(om:min (i+1) n=i+1)]
  exact l.congr fun a _=>by
   by_cases e:a=i
   .rw[ai e,e]
   .rw[af e]
 .have:=h.hy.keep (eQ.noneS _) m (fun d j f=>h.xy d f j);rw[(om:i+1-n=i-n)]
  exact this
 .rw[eR]at j;subst j;rcases p with e|e
  .exact h.xy _ e f
  .obtain⟨X,k⟩:=h.hy.blk f;rw[k]at e;cases e
def FS.appy(h:FS S b b8 g n i C x y)(u:n<=i){c:Nat}(o:cV 3 1 St.none S' (.sl 1 c 0 (i-n+1)) (i-n+1) (fun a=>if a=i-n then .int .i64 (i:Int)else .int .i64 ((n+a:Nat):Int)))(l:∀d X,S d=some X->¬d5 y d->S' d=some X)(p:d5 y c∨S c=ab) :
  FS S' b b8 g n (i+1) C x (.sl 1 c 0 (i-n+1)):=by
 have kp:∀{b ty es n:Nat} {g:Nat->AV},bJ S b ty es n g->ty≠3->bJ S' b ty es n g:=fun q r=>by
  obtain⟨z,m,s⟩:=q;exact⟨z,l _ _ m (h.hy.other m r),s⟩
 refine⟨⟨kp h.cols.outer dc,fun a t=>kp (h.cols.row a t) dc,h.cols.inj⟩,kp h.pair dc,?_,?_,fun d j f=>?_⟩
 .have:=h.hx.keep (eQ.noneS _) l (fun d j f=>h.xy d j f);rw[(om:min (i+1) n=min i n)]
  exact this
 .rw[(om:i+1-n=i-n+1)]
  exact o.congr fun a _=>by
   by_cases e:a=i-n
   .rw[ai e,e];congr 1;omega
   .rw[af e]
 .rw[eR]at f;subst f;rcases p with e|e
  .exact h.xy _ j e
  .obtain⟨X,k⟩:=h.hx.blk j;rw[k]at e;cases e
def Dw(n k:Nat)(M:aJ)(W:mz n (fo n M))(hk:k<=1000000)(hU:∀R H U,Kq n (fo n M) R H U->∀a r,a<n+1->r<n+n+1->nb (k9 (n+1) (fun k r=>fo n M r k) U a r) k) :
  cE 184 [aQ n (n+1) M] St.none (fun r _=>∃R H U,Kq n (fo n M) R H U/\∃V,r=.tup [aQ n (n+1) (fun i j=>k9 (n+1) (fun k r=>fo n M r k) U j i),V,.bool true]):=by
 refine jr func184 ntmps184 results184 ?_;have h1:=W.h1;have hn:=W.hn;simp -dsimp only[go_sem,aa,aQ,a8];refine(wD n (n+1) M h1 om om om).call ?_;simp -dsimp only[go_sem,aa];refine(CG _ n (n+1) M h1 om om om).mono ?_;rintro _ S1 ⟨b,g,rfl,q,_⟩;simp -dsimp only[go_sem,aa];refine aG.intro fun s f8=>?_;simp -dsimp only[go_sem,iU,ee,bH,bW,cC,cW,bI,bB,eO,cb];have F:∀{c ty es k:Nat} {z:Nat->AV},bJ S1 c ty es k z->c≠s:=fun h=>bJ.fresh h f8;rw[<-kD]at q;have I:=(q.upd (F q.outer) (fun a J=>F (q.row a J)) ⟨218,1,2,fun j=>if j=0 then AV.nil else AV.int IntKind.i64 0⟩).upd (F q.outer) (fun a J=>F (q.row a J)) ⟨218,1,2,iU (fun j=>if j=0 then AV.nil else AV.int IntKind.i64 0) 0 [AV.sl 1 b 0 (n+1),AV.int IntKind.i64 n]⟩
 have K:bJ ((S1.upd s ⟨218,1,2,fun j=>if j=0 then AV.nil else AV.int IntKind.i64 0⟩).upd s ⟨218,1,2,iU (fun j=>if j=0 then AV.nil else AV.int IntKind.i64 0) 0 [AV.sl 1 b 0 (n+1),AV.int IntKind.i64 n]⟩) s 218 1 2 (LL b (n+1) n):=bJ.here fun j hj=>by
  match j,hj with
  | 0,_=>rfl
  | 1,_=>rfl
 refine(yx _ b n n g (fo n M) W I).mono ?_;rintro _ S2 ⟨⟨R,H,U,hT,g',t⟩,hK⟩;have X:s≠b:=fun e=>F q.outer e.symm;have L:=hK.has K X;have u:=hU R H U hT;generalize hC:k9 (n+1) (fun k r=>fo n M r k) U=C at t u;simp only[go_sem];refine aH (fun O S=>∃(i:Nat) (x y:AV),i<=n+n+1/\O 8=.ptr 1 s 0/\O 9=x/\O 10=y/\O 26=.int .i64 ((n+n+1:Nat):Int)/\O 27=.int .i64 i/\FS S b s g' n i C x y) (fun O S=>n+n+1-ca (O 27)) ?_ ?_
 .simp only[go_sem];refine⟨0,om,by rw[dM (n:=n+n+1) om om],rfl,t,L,?_,?_,fun d hd=>?_⟩
  .rw[Nat.zero_min];exact cV.nil (eQ.noneS _) _
  .rw[Nat.zero_sub];exact cV.nil (eQ.noneS _) _
  .obtain⟨_,_,_,e⟩:=hd;cases e
 clear t L hK I K q f8 F;rintro O S ⟨i,x,y,hi,N,G,f,o,p,m⟩;by_cases P:i<n+n+1
 .obtain⟨gp,up,vp⟩:=id m.pair;have x1:gp 1=.int .i64 n:=vp 1 om;by_cases w:i<n
  .simp -dsimp only[go_sem,aa,N,G,f,o,p,P,w,up,x1];refine aG.intro fun b36 Q=>?_;have A:=m.hx.fresh Q;have l:=m.other Q ⟨3,1,1,fun j=>[AV.int .i64 i].getD j .any⟩
   try simp -dsimp only[go_sem,G]
   refine cV.app3 (v:=.int .i64 i) l.hx om (by simp[eg]) (bO ⟨_,_,_,rfl,ci,rfl,fun h=>A _ h rfl⟩) ?_
   intro c S3 Y B D;have E:=l.appx w Y B D;simp only[*,go_sem,aT (om:i<1000000),ca]
   exact⟨⟨i+1,om,rfl,E⟩,om⟩
  .simp -dsimp only[go_sem,aa,N,G,f,o,p,P,w,up,x1];refine aG.intro fun b40 T=>?_;have A:=m.hy.fresh T;have l:=m.other T ⟨3,1,1,fun j=>[AV.int .i64 i].getD j .any⟩
   try simp -dsimp only[go_sem,f]
   refine cV.app3 (v:=.int .i64 i) l.hy om (by simp[eg]) (bO ⟨_,_,_,rfl,ci,rfl,fun h=>A _ h rfl⟩) ?_
   intro c S3 Y B D;have E:=l.appy om Y B D;simp only[*,go_sem,aT (om:i<1000000),ca]
   exact⟨⟨i+1,om,rfl,E⟩,om⟩
 obtain rfl:i=n+n+1:=om
 obtain⟨gp,up,vp⟩:=id m.pair;have Z:gp 0=.sl 1 b 0 (n+1):=vp 0 om;obtain⟨c1,rfl,hL1⟩:∃c1,x=.sl 1 c1 0 n/\bJ S c1 3 1 n (fun a=>.int .i64 ((a:Nat):Int)):=by
  rcases m.hx.2 with⟨h,_⟩|⟨c,_,e,h⟩
  .omega
  .rw[(om:min (n+n+1) n=n)]at e h;exact⟨c,e,h⟩
 obtain⟨c2,rfl,hL2⟩:∃c2,y=.sl 1 c2 0 (n+1)/\bJ S c2 3 1 (n+1) (fun a=>.int .i64 ((n+a:Nat):Int)):=by
  rcases m.hy.2 with⟨h,_⟩|⟨c,_,e,h⟩
  .omega
  .rw[(om:n+n+1-n=n+1)]at e h;exact⟨c,e,h⟩
 simp -dsimp only[*,go_sem,aa];refine bF 11 kr ?_
 simp only[go_sem,aa,N,G,f,up,Z];have p1:=xA (n+1) (n+n+1) n k C (fun a=>a) om om (fun i hi=>om) (fun c r D hr=>u c r D hr) hk
 have p2:=xA (n+1) (n+n+1) (n+1) k C (fun a=>n+a) om om (fun i hi=>om) (fun c r D hr=>u c r D hr) hk
 refine⟨_,p1.pf.pureS (fD.two m.cols.vr.va (VR.sl hL1 om (fun a J=>by rw[aB];exact VR.mf rfl)).va),?_⟩
 try simp -dsimp only[go_sem,N,G,f,o,p,up,Z]
 refine⟨_,p2.pf.pureS (fD.two m.cols.vr.va (VR.sl hL2 om (fun a J=>by rw[aB];exact VR.mf rfl)).va),?_⟩
 try simp -dsimp only[go_sem,N,G,f,o,p,up,Z]
 subst hC;exact⟨R,H,U,hT,_,rfl⟩

def md:List Oper->List Nat
 | []=>[]
 | o::l=>(match o.dst with
  | some d=>[d]
  | ab=>[])++md l
def ll(l:List Oper)(k:Nat):Option Nat:=(l[k]?).bind (·.dst)
def RC(l:List Oper):Bool:=decide (md l).Nodup
def stP(ops:Array Oper)(O0:Tm)(S:St)(z:List AV):List Oper->Nat->Prop
 | [],_=>True
 | o::r,i=>(∀O:Tm,(∀t,¬t∈md ops.toList->O t=O0 t)->(∀k d,(aft o).contains k=true->ll ops.toList k=some d->O d=z.getD k .any)->∀K:Tm->St->Prop,K (O.put o.dst (z.getD i .any)) S->Ah ops o O S K)/\stP ops O0 S z r (i+1)
theorem Ib{ops:Array Oper}{O0:Tm}{S:St}{z:List AV}:∀(l:List Oper) (i j:Nat) (o:Oper),stP ops O0 S z l i->l[j]? = some o ->
  ∀O:Tm,(∀t,¬t∈md ops.toList->O t=O0 t)->(∀k d,(aft o).contains k=true->ll ops.toList k=some d->O d=z.getD k .any)->∀K:Tm->St->Prop,K (O.put o.dst (z.getD (i+j) .any)) S->Ah ops o O S K
 | [],i,j,o,_,h=>by simp at h
 | p::r,i,0,o,h,a=>by
  simp only[cO,eG]at a;subst a;exact h.1
 | p::r,i,j+1,o,h,a=>by
  rw[bV]at a;have:=Ib r (i+1) j o h.2 a;rw[(om:i+1+j=i+(j+1))]at this
  exact this
theorem uY:∀{l:List Oper} {j:Nat} {o:Oper} {d:Nat},l[j]? = some o->o.dst=some d->d∈md l
 | [],_,_,_,h,_=>by simp at h
 | p::l,0,o,d,h,a=>by
  simp only[cO,eG]at h;subst h;simp[md,a]
 | p::l,j+1,o,d,h,a=>by
  rw[bV]at h;simp[md,uY h a]
theorem BH:∀{l:List Oper} {i j:Nat} {d:Nat},(md l).Nodup->ll l i=some d->ll l j=some d->i=j
 | [],i,_,_,_,h,_=>by simp[ll]at h
 | p::l,i,j,d,a,f,g=>by
  have memj:∀k,ll l k=some d->d∈md l:=fun k b=>by
   unfold ll at b
   cases e:l[k]? with
   | none=>rw[e]at b;simp at b
   | some o=>rw[e]at b;exact uY e b
  have m:(md l).Nodup:=by
   unfold md at a;exact(List.nodup_append.1 a).2.1
  have c:p.dst=some d->¬d∈md l:=fun n q=>by
   unfold md at a;rw[n]at a;simp only[R7,vC]at a;exact a.1 q
  match i,j with
  | 0,0=>rfl
  | 0,j+1=>exact(c (by simpa [ll]using f) (memj j (by simpa [ll]using g))).elim
  | i+1,0=>exact(c (by simpa [ll]using g) (memj i (by simpa [ll]using f))).elim
  | i+1,j+1 =>
   have:=BH m (i:=i) (j:=j) (d:=d) (by simpa [ll]using f) (by simpa [ll]using g)
   omega
def Kb{O0:Tm}(z:List AV)(b:(BT ops&&RC ops.toList)=true)(s:stP ops O0 S z ops.toList 0)
  (u:∀O:Tm,(∀t,¬t∈md ops.toList->O t=O0 t)->(∀k d,ll ops.toList k=some d->O d=z.getD k .any)->K O S):KL ops O0 S K:=by
 rw[sv];simp only[au]at b;have m:(md ops.toList).Nodup:=jt b.2;refine bO ⟨fun L O S'=>S'=S/\(∀t,¬t∈md ops.toList->O t=O0 t)/\∀k d,L k=true->ll ops.toList k=some d->O d=z.getD k .any,b.1,⟨rfl,fun _ _=>rfl,fun _ _ h=>by cases h⟩,?_,?_⟩
 .rintro i o n L O S' ⟨rfl,c,f⟩ r v;have g:ops.toList[i]? = some o:=by simpa using n
  have:=Ib ops.toList 0 i o s g O c (fun k d j a=>f k d (v k (by simpa using j)) a) (fun O' S''=>S''=S'/\(∀t,¬t∈md ops.toList->O' t=O0 t)/\∀k d,(if k=i then true else L k)=true->ll ops.toList k=some d->O' d=z.getD k .any)
  rw[aB]at this;have p:=this ?_
  .unfold Ah at p;rw[vP]at p;exact p
  .refine⟨rfl,fun t q=>?_,fun k d j a=>?_⟩
   .rw[Tm.put_eq]
    cases e:o.dst with
    | none=>exact c t q
    | some d =>
     simp only;rw[af (fun l=>q (by subst l;exact uY g e))];exact c t q
   .rw[Tm.put_eq];by_cases l:k=i
    .subst l;have:o.dst=some d:=by simpa [ll,n]using a
     simp only[this,ai]
    .rw[af l]at j
     cases e:o.dst with
     | none=>exact f k d j a
     | some d' =>
      simp only;rw[af (fun w=>by
       subst w;exact l (BH m a (by simp[ll,n,e])))]
      exact f k d j a
 .rintro L O S' ⟨rfl,c,f⟩ r;refine u O c fun k d a=>f k d (r k ?_) a;rcases aA k ops.size with h|h
  .exact h
  .simp[ll,d7 h]at a
def Pq(h:∀K',K'=K->DB ops l O S K'):DB ops l O S K:=h K rfl
def fq{c:Code}(I:Tm->St->Prop)(μ:Tm->St->Nat)(a:I O S)(b:∀Q',Q'=Q->∀O S,I O S->Aw c (AX.seq (fun O' S'=>I O' S'/\μ O' S' < μ O S) Q') O S):Aw (.loop c) Q O S:=aH I μ a (b Q rfl)
def rT{g:Nat->AV}{K:AV->Prop}(a:j<=n)(h:K (.lst 2 j g)):kP 59 (.lst 2 n g) ab (some (.int .i64 (j:Int))) ab K :=
 ⟨rfl,0,j,rfl,rfl,trivial,om,a,by simpa using h⟩
structure B8(n k:Nat)(H:aJ):Prop where
 up:∀r c,r<c->r<n->c<n+1->H r c=0
 pos:∀c,c<n->0<H c c
 rng:∀c j,c<n->j<c->0<=H c j/\H c j<H c c
 nb:∀r c,r<n->c<n+1->nb (H r c) k
def JA(n k:Nat)(H:aJ)(h1:1<=n)(h2:n<=15)(hk:k<=1000000)(F:B8 n k H):PF 185 [aQ n (n+1) H] (.tup [.lst 1 n (fun a=>.int .i64 ((a:Nat):Int)),.bool true]):=by
 refine iQ func185 ntmps185 results185 ?_;simp -dsimp only[go_sem,aa,aQ,a8];refine(wD n (n+1) H h1 om om om).call ?_;simp only[go_sem];refine aH (fun O S=>∃(c:Nat) (x:AV),c<=n+1/\O 0=.lst 1 n (fun i=>.lst 2 (n+1) (fun j=>.big (H i j)))/\O 4=.int .i64 n/\O 7=x/\O 20=.int .i64 ((n+1:Nat):Int)/\O 21=.int .i64 c/\cV 3 1 St.none S x (min c n) (fun a=>.int .i64 ((a:Nat):Int))) (fun O S=>n+1-ca (O 21)) ?_ ?_
 .simp only[go_sem];exact⟨0,om,rfl,by rw[Nat.zero_min];exact cV.nil (eQ.noneS _) _⟩
 rintro O S ⟨c,x,hc,r,z,u,l,m,D⟩;by_cases s:c<n+1
 .simp only[*,go_sem];refine fq (fun O S'=>∃p:Nat,p<=c/\S'=S/\O 0=.lst 1 n (fun i=>.lst 2 (n+1) (fun j=>.big (H i j)))/\O 4=.int .i64 n/\O 7=x/\O 8=.int .i64 c/\O 9=.int .i64 p/\O 20=.int .i64 ((n+1:Nat):Int)/\O 21=.int .i64 c) (fun O S=>c-ca (O 9)) ?_ ?_
  .simp only[*,go_sem];exact⟨0,om,rfl⟩
  clear r z u l m;rintro Q' G O T ⟨p,hp,hTS,r,z,u,w,t,l,m⟩;subst hTS;by_cases b:p<n
  .simp -dsimp only[go_sem,aa,r,z,w,t,b,s];refine(kG (F.nb p c b s) om).call ?_;by_cases P:p<c
   .simp only[go_sem,r,z,u,w,t,l,m,b,F.up p c P b s,rK,eS,aT (om:p<1000000),ca]
    exact⟨⟨p+1,om,rfl⟩,om⟩
   obtain rfl:p=c:=om
   have hs:(H p p).sign=1:=cX (F.pos p b);have Q:((H p p).sign==0)=false:=by rw[hs]<;>rfl
   have I:((p:Int)==(n:Int))=false:=by simp;omega
   have J:decide ((H p p).sign<0)=false:=by rw[hs]<;>rfl
   rw[(om:min p n=p)]at D
   apply xN (fun O S'=>O 0=.lst 1 n (fun i=>.lst 2 (n+1) (fun j=>.big (H i j)))/\O 4=.int .i64 n/\O 7=x/\O 8=.int .i64 p/\O 9=.int .i64 p/\O 20=.int .i64 ((n+1:Nat):Int)/\O 21=.int .i64 p/\O 76=.lst 2 p (fun j=>.big (H p j))/\O 77=.int .i64 p/\O 78=.int .i64 0/\S'=T)
   .intro key;simp only[go_sem,r,z,u,w,t,l,m,b,Q];rw[G];rcases id D.2 with⟨R,hx⟩|⟨c0,_,hx,hL⟩
    .have L:((0:Int) != (p:Int))=false:=by rw[R];simp
     have y:decide ((0:Int)<(p:Int))=false:=by rw[R];simp
     simp -dsimp only[go_sem,aa,r,z,u,w,t,l,m,b,s,I,L,y,hx];refine(kG (F.nb p p b s) om).call ?_;simp only[go_sem,r,u,w,t,b,L,y,J,dd,gX];refine rT om ?_;simp only[go_sem];show Aw (.loop _) _ _ _;refine key _ _ ?_;simp only[*,go_sem]
    .obtain⟨gl,ul,vl⟩:=hL;rcases aX p with h0|h0
     .have L:((0:Int) != (p:Int))=false:=by rw[h0];simp
      have y:decide ((0:Int)<(p:Int))=false:=by rw[h0];simp
      simp -dsimp only[go_sem,aa,r,z,u,w,t,l,m,b,s,I,y,hx,cK];refine(kG (F.nb p p b s) om).call ?_;simp only[go_sem,r,u,w,t,b,y,J,dd,gX];refine rT om ?_;simp only[go_sem];show Aw (.loop _) _ _ _;refine key _ _ ?_;simp only[*,go_sem]
     obtain⟨q,hq⟩:∃q,p=q+1:=⟨p-1,om⟩
     have y:decide ((0:Int)<(p:Int))=true:=by simp;omega
     have hw:IntKind.i64.wrap ((p:Int)-1)=(q:Int):=dM om om;have U:q<p:=om
     have hg:gl q=.int .i64 (q:Int):=vl q U;have V:decide ((p:Int)<=(q:Int))=false:=by simp;omega
     simp -dsimp only[go_sem,aa,r,z,u,w,t,l,m,b,s,I,y,V,hw,U,hg,ul,hx,cK];refine(kG (F.nb p p b s) om).call ?_;simp only[go_sem,r,u,w,t,b,y,V,hw,hg,J,dd,gX];refine rT om ?_;simp only[go_sem];show Aw (.loop _) _ _ _;refine key _ _ ?_;simp only[*,go_sem]
   clear r z u w t l m Q I J hs P;rintro O _ ⟨r,z,u,w,t,l,m,A,B,C,rfl⟩;refine fq (fun O S=>∃j:Nat,j<=p/\O 0=.lst 1 n (fun i=>.lst 2 (n+1) (fun j=>.big (H i j)))/\O 4=.int .i64 n/\O 7=x/\O 8=.int .i64 p/\O 9=.int .i64 p/\O 20=.int .i64 ((n+1:Nat):Int)/\O 21=.int .i64 p/\O 76=.lst 2 p (fun j=>.big (H p j))/\O 77=.int .i64 p/\O 78=.int .i64 j/\cV 3 1 St.none S x p (fun a=>.int .i64 ((a:Nat):Int))) (fun O S=>p-ca (O 78)) ?_ ?_
   .simp only[go_sem,r,z,u,w,t,l,m,A,B,C];exact⟨0,om,rfl,D⟩
   clear r z u w t l m A B C D;rintro Q' G O S ⟨j,hj,r,z,u,w,t,l,m,A,B,C,D⟩;by_cases M:j<p
   .obtain⟨q1,q2⟩:=F.rng p j b M;have hs1:decide ((H p j).sign<0)=false:=by
     rcases Tf q1 with h|h
     .rw[cX h];rfl
     .rw[<-h];rfl
    have hcm:lA (H p j) (H p p)=-1:=by simp[lA,q2]
    simp -dsimp only[go_sem,A,B,C,M];refine aG.intro fun E W=>?_
    try simp -dsimp only[go_sem]
    have X:=((D.upd (by rfl) (D.fresh W) ⟨50,2,1,fun _=>AV.big 0⟩).upd (by rfl) (D.fresh W) ⟨50,2,1,bR (fun _=>AV.big 0) 0 (.big (H p j))⟩)
    obtain⟨S5,hS5,Y⟩:∃S5,S5=(S.upd E ⟨50,2,1,fun _=>AV.big 0⟩).upd E ⟨50,2,1,bR (fun _=>AV.big 0) 0 (.big (H p j))⟩/\S5 E=some ⟨50,2,1,bR (fun _=>AV.big 0) 0 (.big (H p j))⟩:=⟨_,rfl,ci⟩;rw[<-hS5]at X ⊢;have r0:PF 191 [.big (H p j)] (.int .i64 (H p j).sign):=kG (F.nb p j b om) om;have r1:PF 159 [.big (H p j),.big (H p p)] (.int .i64 (-1)):=hcm▸MI (F.nb p j b om) (F.nb p p b om) om;refine Kb [.big (H p j),.int .i64 (H p j).sign,.bool false,.bool false,.big (H p j),.lst 1 n (fun i=>.lst 2 (n+1) (fun j=>.big (H i j))),.int .i64 p,.pat 1 (.lst 2 (n+1) (fun j=>.big (H p j))),.lst 2 (n+1) (fun j=>.big (H p j)),.int .i64 p,.pat 2 (.big (H p p)),.big (H p p),.int .i64 (-1),.bool false,.bool false] kr ?_ ?_
    .refine⟨?_,?_,?_,?_,?_,?_,?_,?_,?_,?_,?_,?_,?_,?_,?_,trivial⟩
     .intro O1 g f K o;have N:O1 11=.ptr 2 E 0:=(g 11 dc).trans (by simp only[go_sem])
      unfold Ah;simp only[go_sem,aa,N,Y,eL];exact o
     .intro O1 g f K o;have x82:O1 82=.big (H p j):=f 0 82 kr rfl
      unfold Ah;simp -dsimp only[go_sem,aa,x82];refine r0.call ?_;exact o
     .intro O1 g f K o;have x83:O1 83=.int .i64 (H p j).sign:=f 1 83 kr rfl
      unfold Ah;simp only[go_sem,x83,hs1];exact o
     .intro O1 g f K o;have x84:O1 84=.bool false:=f 2 84 kr rfl
      unfold Ah;simp only[go_sem,x84];exact o
     .intro O1 g f K o;have N:O1 11=.ptr 2 E 0:=(g 11 dc).trans (by simp only[go_sem])
      have d:O1 85=.bool false:=f 3 85 kr rfl
      unfold Ah;simp only[go_sem,aa,N,d,Y,eL];exact o
     .intro O1 g f K o;have x0:O1 0=.lst 1 n (fun i=>.lst 2 (n+1) (fun j=>.big (H i j))):=(g 0 dc).trans (by simp only[go_sem,r])
      have d:O1 85=.bool false:=f 3 85 kr rfl
      unfold Ah;simp only[go_sem,x0,d];exact o
     .intro O1 g f K o;have x9:O1 9=.int .i64 p:=(g 9 dc).trans (by simp only[go_sem,t])
      have d:O1 85=.bool false:=f 3 85 kr rfl
      unfold Ah;simp only[go_sem,x9,d];exact o
     .intro O1 g f K o;have d:O1 85=.bool false:=f 3 85 kr rfl
      have x87:O1 87=.lst 1 n (fun i=>.lst 2 (n+1) (fun j=>.big (H i j))):=f 5 87 kr rfl
      have x88:O1 88=.int .i64 p:=f 6 88 kr rfl
      unfold Ah;simp only[go_sem,d,x87,x88,b];exact o
     .intro O1 g f K o;have d:O1 85=.bool false:=f 3 85 kr rfl
      have x89:O1 89=.pat 1 (.lst 2 (n+1) (fun j=>.big (H p j))):=f 7 89 kr rfl
      unfold Ah;simp only[go_sem,d,x89];exact o
     .intro O1 g f K o;have x8:O1 8=.int .i64 p:=(g 8 dc).trans (by simp only[go_sem,w])
      have d:O1 85=.bool false:=f 3 85 kr rfl
      unfold Ah;simp only[go_sem,x8,d];exact o
     .intro O1 g f K o;have d:O1 85=.bool false:=f 3 85 kr rfl
      have x90:O1 90=.lst 2 (n+1) (fun j=>.big (H p j)):=f 8 90 kr rfl
      have x91:O1 91=.int .i64 p:=f 9 91 kr rfl
      unfold Ah;simp only[go_sem,d,x90,x91,(om:p<n+1)]
      exact o
     .intro O1 g f K o;have d:O1 85=.bool false:=f 3 85 kr rfl
      have x92:O1 92=.pat 2 (.big (H p p)):=f 10 92 kr rfl
      unfold Ah;simp only[go_sem,d,x92];exact o
     .intro O1 g f K o;have d:O1 85=.bool false:=f 3 85 kr rfl
      have x86:O1 86=.big (H p j):=f 4 86 kr rfl
      have x93:O1 93=.big (H p p):=f 11 93 kr rfl
      unfold Ah;simp -dsimp only[go_sem,aa,d,x86,x93];refine r1.call ?_;exact o
     .intro O1 g f K o;have d:O1 85=.bool false:=f 3 85 kr rfl
      have x94:O1 94=.int .i64 (-1):=f 12 94 kr rfl
      unfold Ah;simp only[go_sem,d,x94,show decide ((0:Int)<=-1)=false by rfl]
      exact o
     .intro O1 g f K o;have d:O1 85=.bool false:=f 3 85 kr rfl
      have x95:O1 95=.bool false:=f 13 95 kr rfl
      unfold Ah;simp only[go_sem,d,x95];exact o
    .intro O1 g f;have x96:O1 96=.bool false:=f 14 96 rfl;have y0:O1 0=.lst 1 n (fun i=>.lst 2 (n+1) (fun j=>.big (H i j))):=(g 0 dc).trans (by simp only[go_sem,r])
     have y4:O1 4=.int .i64 n:=(g 4 dc).trans (by simp only[go_sem,z])
     have y7:O1 7=x:=(g 7 dc).trans (by simp only[go_sem,u])
     have y8:O1 8=.int .i64 p:=(g 8 dc).trans (by simp only[go_sem,w])
     have y9:O1 9=.int .i64 p:=(g 9 dc).trans (by simp only[go_sem,t])
     have y20:O1 20=.int .i64 ((n+1:Nat):Int):=(g 20 dc).trans (by simp only[go_sem,l])
     have y21:O1 21=.int .i64 p:=(g 21 dc).trans (by simp only[go_sem,m])
     have y76:O1 76=.lst 2 p (fun j=>.big (H p j)):=(g 76 dc).trans (by simp only[go_sem,A])
     have y77:O1 77=.int .i64 p:=(g 77 dc).trans (by simp only[go_sem,B])
     have y78:O1 78=.int .i64 j:=(g 78 dc).trans (by simp only[go_sem,C])
     simp only[go_sem,x96,y0,y4,y7,y8,y9,y20,y21,y76,y77,y78,aT (om:j<1000000),ca]
     exact⟨⟨j+1,om,rfl,X⟩,om⟩
   .obtain rfl:j=p:=om
    simp only[go_sem,A,B,C,M];rw[G];simp -dsimp only[*,go_sem];refine aG.intro fun b100 Z=>?_;have hxb:=D.fresh Z;have hX2:=D.upd (by rfl) hxb ⟨3,1,1,fun a=>[AV.int .i64 j].getD a .any⟩
    try simp -dsimp only[*,go_sem]
    refine cV.app3 (v:=.int .i64 j) hX2 om (by simp[eg]) (bO ⟨_,_,_,rfl,ci,rfl,fun h=>hxb _ h rfl⟩) ?_
    intro c S6 hX' _ _;simp only[*,go_sem,aT (om:j<1000000),ca]
    refine⟨⟨j+1,om,rfl,?_⟩,om⟩
    rw[(om:min (j+1) n=j+1)]
    exact hX'.congr fun a _=>by
     by_cases e:a=j
     .rw[ai e,e]
     .rw[af e]
  .obtain rfl:p=n:=om
   obtain rfl:c=p:=om
   simp only[go_sem,r,z,u,w,t,l,m,b];rw[G];rw[MM,ai rfl,yF,MP,MP,RQ];refine Pq fun K' hK'=>?_;simp only[go_sem,z,t];rw[hK',yF,GY,show ev _ (.tmp 42)=AV.bool true by simp only[go_sem,eS],cd_t]
   simp only[*,go_sem,aT (om:c<1000000),ca]
   refine⟨⟨c+1,om,rfl,?_⟩,om⟩
   rw[(om:min (c+1) c=min c c)]
   exact D
 obtain rfl:c=n+1:=om
 simp only[*,go_sem];rcases D.2 with⟨h,_⟩|⟨c0,_,rfl,hL⟩
 .omega
 rw[(om:min (n+1) n=n)]at hL ⊢
 exact VR.tup2 (VR.sl hL om (fun a f=>by rw[aB];exact VR.mf rfl)) (VR.mf rfl)

def F8{g:Nat->AV}{K:AV->Prop}(a:j<=n)(h:K (.lst 2 j g)):kP 59 (.lst 2 n g) (some (.int .i64 0)) (some (.int .i64 (j:Int))) ab K :=
 ⟨rfl,0,j,rfl,rfl,trivial,om,a,by simpa using h⟩
def Oi(n m M:Nat)(A:Nat->Nat->Int)(k:Nat)(h1:n<=100)(T:m<=M)(U:M<=100)(h3:1<=m)(V:∀i j,i<n->j<m->nb (A i j) k)(hk:k<=1000000):MF 186 [aQ n M A,.int .i64 0,.int .i64 m] n m A:=by
 refine MF.of ?_;refine jr func186 ntmps186 results186 ?_;have W:((0:Int)==(m:Int))=false:=by simp;omega
 simp -dsimp only[go_sem,aQ,a8,W]
 repeat refine an ?_
 refine aG.intro fun l f7=>?_;simp only[go_sem];refine aH (fun O S=>∃(i:Nat) (g:Nat->Nat),i<=n/\O 1=.int .i64 0/\O 2=.int .i64 m/\O 7=.sl 1 l 0 n/\O 18=aQ n M A/\O 19=.int .i64 n/\O 20=.int .i64 i /\
  bJ S l 59 1 n (fun a=>if a<i then .sl 2 (g a) 0 m else .nil)/\(∀a,a<i->iW S (g a) m (A a))/\∀a c,a<i->c<i->g a=g c->a=c) (fun O S=>n-ca (O 20)) ?_ ?_
 .simp only[go_sem,aQ,a8];exact⟨0,om,rfl,fun _=>0,bJ.here fun _ _=>by simp,fun a b=>om,fun a c b=>om⟩
 .rintro O S ⟨i,g,hi,Y,Z,N,D,E,F,u,s,hI⟩;by_cases o:i<n
  .simp only[*,go_sem,aQ,a8,dd,gX];refine F8 T ?_;simp only[go_sem];refine aH (fun O S'=>∃(j:Nat) (x:AV),j<=m/\O 1=.int .i64 0/\O 2=.int .i64 m/\O 7=.sl 1 l 0 n/\O 8=.int .i64 i/\O 18=aQ n M A/\O 19=.int .i64 n/\O 20=.int .i64 i/\O 28=a8 m (A i)/\O 29=.int .i64 m/\O 30=.int .i64 j /\
    bJ S' l 59 1 n (fun a=>if a<i then .sl 2 (g a) 0 m else if a=i then x else .nil)/\(∀a,a<i->iW S' (g a) m (A a)/\¬d5 x (g a))/\cV 50 2 St.none S' x j (fun c=>.big (A i c))) (fun O S=>m-ca (O 30)) ?_ ?_
   .simp only[*,go_sem,aQ,a8];exact⟨0,om,rfl,.nil,u.congr fun a _=>by grind,fun a b=>⟨s a b,by rintro⟨_,_,_,e⟩;cases e⟩,cV.nil (fun k X h=>by cases h) _⟩
   .rintro O S' ⟨j,x,hj,Y,Z,N,e8,D,E,F,e28,e29,e30,u,s,t⟩;by_cases G:j<m
    .simp -dsimp only[*,go_sem,aQ,a8];refine aG.intro fun p q=>?_;obtain⟨g1,v,P⟩:=u;have H:g1 i=x:=by rw[P i o];simp
     have r:l≠p:=bJ.fresh (bJ.of v) q;simp -dsimp only[go_sem];refine ip 9 kr ?_
     simp -dsimp only[go_sem,N,e8,o,r,v,H,bR]
     repeat refine an ?_
     refine⟨_,(qV (V i j o G) om).pure',?_⟩;simp -dsimp only[go_sem];have w:∀d,d5 x d->d≠p:=t.fresh q;have I:=t.other v om;refine cV.app50 ((t.upd (by rfl) w _).upd (by rfl) w _) om (show eg 2 (.big (A i j))from trivial) (bM ⟨_,rfl,rfl⟩) ?_
     intro c S2 y z B;have J:=z l _ (by rw[aN r,aN r];exact v) I
     simp only[*,go_sem,aQ,a8,aT (om:j<1000000),ca]
     repeat refine an ?_
     refine⟨⟨j+1,om,rfl,.sl 2 c 0 (j+1),bJ.here fun a b=>?_,fun a b=>?_,?_⟩,om⟩
     .have:=P a b;grind [bR]
     .obtain⟨C,Q⟩:=s a b;have f:g a≠p:=bJ.fresh C q;have K:g a≠l:=bJ.ne C (bJ.of v) om;refine⟨(C.via fun X t=>z _ _ (by rw[aN f,aN f];exact t) Q).upd K _,fun R=>?_⟩
      rw[eR]at R;rw[<-R]at B;rcases B with h|h
      .exact Q h
      .rw[aN f,aN f]at h;exact bJ.fresh C h rfl
     .refine(y.upd (by rfl) (fun d L e=>?_) _).congr (fun a b=>by grind)
      rw[e]at L;exact y.other J om L
    .simp only[*,go_sem,aQ,a8,aT (om:i<1000000),ca]
     obtain rfl:j=m:=om
     rcases t.2 with⟨h0,_⟩|⟨c,_,rfl,hC⟩
     .omega
     refine⟨⟨i+1,om,rfl,fun a=>if a=i then c else g a,u.congr fun a b=>by grind,fun a b=>?_,fun a d b L e=>?_⟩,om⟩
     .by_cases e:a=i
      .subst e;simp only[aO];exact hC
      .simp only[e,aP];exact(s a om).1
     .have k1:=fun a b=>(s a b).2;simp only[eR]at k1
      grind
  .simp only[*,go_sem,aQ,a8];obtain rfl:i=n:=om
   exact⟨l,rfl,g,u.congr fun a b=>by simp[b],s,hI⟩
structure tU(n k:Nat)(A:aJ)(B:aJ):Prop where
 ex:∃R H U,Kq n A R H U/\B8 n k (fun i j=>k9 (n+1) (fun k r=>A r k) U j i)/\B=fun i j=>k9 (n+1) (fun k r=>A r k) U j i
def AO(n k:Nat)(M:aJ)(d:mz n (fo n M))(e:k<=1000000)(f:∀R H U,Kq n (fo n M) R H U->(∀a r,a<n+1->r<n+n+1->nb (k9 (n+1) (fun k r=>fo n M r k) U a r) k)/\B8 n k (fun i j=>k9 (n+1) (fun k r=>fo n M r k) U j i)) :
  cE 123 [aQ n (n+1) M] St.none (fun r S'=>∃b g B,r=.tup [.sl 1 b 0 n,.bool true]/\tU n k (fo n M) B/\dA S' b g n n B):=by
 have l:=d.h1;have s:=d.hn;refine jr func123 ntmps123 results123 ?_;simp -dsimp only[go_sem,aa];refine(Dw n k M d e fun R H U h=>(f R H U h).1).mono ?_;rintro _ S1 ⟨R,H,U,m,V,rfl⟩;have c:=(f R H U m).2;have o:tU n k (fo n M) (fun i j=>k9 (n+1) (fun k r=>fo n M r k) U j i):=⟨R,H,U,m,c,rfl⟩;generalize (fun i j=>k9 (n+1) (fun k r=>fo n M r k) U j i)=B at c o;simp -dsimp only[go_sem,aa];refine(JA n k B l om e c).call ?_;simp -dsimp only[go_sem,aa];refine(Oi n n (n+1) B k om om om l (fun i j p t=>c.nb i j p om) e _ _ (cI _ _)).mono ?_;rintro _ S2 ⟨b,g,rfl,q⟩;simp only[go_sem];exact⟨b,rfl,g,B,o,q.1⟩

def qm(a:1<=m)(i j:Nat):0<=lz A m i j/\lz A m i j<m:=⟨aU _ om,aS _ om⟩
def Kv(n K l:Nat)(A B:aJ)(m:Int)(o:1<=n)(d:n<=16)(e:1<=K)(b:K<=16)(p:1<=l)(f:l<=16)(q:2<=m)(a:m<=2147483647):Fz 181 [aD n K A,aD K l B,.int .i64 m] n l (kA (lz A m) (lz B m) K m):=by
 refine Fz.of ?_;refine jr func181 ntmps181 results181 ?_;have r:0<n:=om
 have g:(0:Int)<(n:Int):=om
 simp -dsimp only[go_sem,aa];refine(sI n K A o d e b).call ?_;simp -dsimp only[go_sem,aa];refine(sI K l B e b p f).call ?_;simp -dsimp only[go_sem,aa,aD,aV,g,show((K:Int) != K)=false by simp]
 refine(kJ m q a).call ?_;simp -dsimp only[go_sem,aa];refine(mc n K A m d b om a _ _ (cI _ _)).mono ?_;rintro _ S1 ⟨u,v,rfl,h⟩;simp -dsimp only[go_sem,aa];refine(mc K l B m b f om a _ _ (cI _ _)).mono ?_;rintro _ S2 ⟨w,x,rfl,c⟩;simp -dsimp only[go_sem,aa];refine(Gh n K l (lz A m) (lz B m) m d e b f om a (fun i j _ _=>qm om i j) (fun i j _ _=>qm om i j) _ _ (fD.imat (h.1.ext c.2.1) (fD.imat c.1 (cI _ _)))).mono ?_;rintro _ S3 ⟨s,t,rfl,k⟩;simp only[go_sem];exact⟨s,rfl,t,k.1⟩
def N3(n:Nat)(v:Nat->Int)(c:1<=n):PF 183 [aV n v] (.bool (v 0 != 0)):=by
 refine iQ func183 ntmps183 results183 ?_;have b:0<n:=om
 have a:(0:Int)<(n:Int):=om
 simp only[go_sem,aV,a];exact VR.mf rfl
def Dr(n m piv:Nat)(A:aJ)(f:n<=16)(a:1<=m)(g:piv<n)(b:A piv 0≠0)(c:∀i,i<piv->A i 0=0):PF 182 [aD n m A,.fn 183 []] (.int .i64 piv):=by
 refine iQ func182 ntmps182 results182 ?_;simp only[go_sem,aD,aV];refine aH (fun O S=>∃i:Nat,i<=piv/\O 0=aD n m A/\O 1=.fn 183 []/\O 7=.int .i64 n/\O 8=.int .i64 i) (fun O S=>n-ca (O 8)) ?_ ?_
 .simp only[go_sem,aD,aV];exact⟨0,om,rfl⟩
 .rintro O S ⟨i,h,j,k,l,o⟩;have d:i<n:=om
  simp -dsimp only[*,go_sem,aa,aD,aV];refine(N3 m (A i) a).call ?_;by_cases e:i=piv
  .subst e;simp only[*,go_sem,aD,aV,show(A i 0 != 0)=true by simp[b]]
   exact VR.mf rfl
  .simp only[*,go_sem,aD,aV,show(A i 0 != 0)=false by simp[c i om],aT (om:i<1000000),ca]
   exact⟨⟨i+1,om,rfl⟩,om⟩

def Ao(x m:Int)(v:1<=m)(e:m<=2147483647)(w:0<=x)(U:x<m):PF 229 [.int .i64 x,.int .i64 m] (.tup [.int .i64 ((bz m.toNat x.toNat).2.2%m),.bool ((bz m.toNat x.toNat).1==1)]):=by
 obtain⟨M,rfl⟩:∃M:Nat,m=M:=⟨m.toNat,om⟩
 obtain⟨X,rfl⟩:∃X:Nat,x=X:=⟨x.toNat,om⟩
 rw[cj,cj];refine iQ func229 ntmps229 results229 ?_;have f:¬((M:Int)=0):=om
 simp -dsimp only[go_sem];refine aH (fun O S=>∃(x y:Nat) (a na b nb:Int),KJ M X x y a b na nb/\O 1=.int .i64 M/\O 6=.int .i64 x/\O 7=.int .i64 y/\O 8=.int .i64 b/\O 9=.int .i64 nb) (fun O S=>ca (O 7)) ?_ ?_
 .simp -dsimp only[go_sem];exact⟨M,X,1,0,0,1,KJ.init (bM om),rfl,rfl,rfl,rfl⟩
 .rintro O S ⟨x,y,a,na,b,nb,c,n,o,p,r,s⟩;have z:=c.lx;have A:=c.ly;have B:=c.lb;have t:=c.lnb;by_cases g:y=0
  .subst g;have C:=c.fin;obtain⟨D,E⟩:=Eb (x:=b) v e;simp -dsimp only[go_sem,n,o,p,r,s,f,D,E,show(((0:Nat):Int) != 0)=false from rfl];rw[C];exact VR.mf rfl
  .have u:=c.step g;have h:(((y:Nat):Int) != 0)=true:=by simp;omega
   have d:¬(((y:Nat):Int)=0):=om
   have F:Int.tdiv (x:Int) (y:Int)=((x/y:Nat):Int):=(TM x y).symm;have i:=dq x (gn g);have G:=fX x y;have j:=dv x y;have H:=u.lnb;have k:=(pn (q:=((x/y:Nat):Int)) (cJ _) c.gb).1;rw[fA]at k;have I:(((x/y:Nat):Int)*nb).natAbs=x/y*nb.natAbs:=by rw[cY,fA]
   have J:IntKind.i64.wrap ((x/y:Nat):Int)=((x/y:Nat):Int):=by
    have K:(0:Int)<=((x/y:Nat):Int):=cJ _;have L:((x/y:Nat):Int)<=x:=kg.2 G;generalize ((x/y:Nat):Int)=zz at *;exact i64_in om om
   have l:((x/y:Nat):Int)*(y:Int)=((x:Nat):Int)-((x%y:Nat):Int):=by
    have N:((y*(x/y)+x%y:Nat):Int)=(x:Int):=by rw[j]
    rw[gZ,bL,cR]at N;omega
   have P:IntKind.i64.wrap (((x/y:Nat):Int)*(y:Int))=((x:Nat):Int)-((x%y:Nat):Int):=by rw[l];exact i64_in om om
   have Q:IntKind.i64.wrap (((x:Nat):Int)-(((x:Nat):Int)-((x%y:Nat):Int)))=((x%y:Nat):Int):=by
    rw[show((x:Nat):Int)-(((x:Nat):Int)-((x%y:Nat):Int))=((x%y:Nat):Int) by omega];exact i64_in om om
   have R:IntKind.i64.wrap (((x/y:Nat):Int)*nb)=((x/y:Nat):Int)*nb:=i64_in om om;have T:IntKind.i64.wrap (b-((x/y:Nat):Int)*nb)=b-((x/y:Nat):Int)*nb:=i64_in om om;simp -dsimp only[go_sem,aa,n,o,p,r,s,h,d,F,J,P,Q,R,T,ca];exact⟨⟨y,x%y,na,_,nb,_,u,rfl,rfl,rfl,rfl⟩,i⟩
def FD(b:Nat)(S S':St):Prop:=∀c,c≠b->S' c=S c
def FD.refl(b:Nat)(S:St):FD b S S:=fun _ _=>rfl
def FD.upd(h:FD b S S')(X:eE):FD b S (S'.upd b X):=fun c a=>by simp only[St.upd,a,aP];exact h c a
def FD.has(h:FD b S S')(a:c≠b){t es n:Nat}{g:Nat->AV}(d:bJ S c t es n g):bJ S' c t es n g:=by
 obtain⟨g',e,f⟩:=d;exact⟨g',(h c a).trans e,f⟩
def FD.var(h:FD b S S')(a:c≠b){t es:Nat}{z:AV}(d:dT S c t es z):dT S' c t es z:=by
 obtain⟨g',e,f⟩:=d;exact⟨g',(h c a).trans e,f⟩
def Gb(n b:Nat)(v:Nat->Int)(f m:Int)(S:St)(F:n<=16)(G:1<=m)(t:m<=1000000)(H:0<=f/\f<m)(u:∀j,j<n->0<=v j/\v j<m)(w:bJ S b 2 1 n (fun j=>.int .i64 (v j))) :
  cE 230 [.sl 1 b 0 n,.int .i64 f,.int .i64 m] S (fun _ S'=>FD b S S'/\bJ S' b 2 1 n (fun j=>.int .i64 (v j*f%m))):=by
 refine ib func230 rfl 24 ntmps230 kr sm ?_
 rw[lg,results230];have g:¬(m=0):=om
 simp -dsimp only[go_sem];refine aH (fun O S'=>∃i:Nat,i<=n/\O 0=.sl 1 b 0 n/\O 1=.int .i64 f/\O 2=.int .i64 m/\O 8=.sl 1 b 0 n/\O 9=.int .i64 n/\O 10=.int .i64 i/\FD b S S'/\bJ S' b 2 1 n (fun j=>.int .i64 (if j<i then v j*f%m else v j))) (fun O S=>n-ca (O 10)) ?_ ?_
 .simp -dsimp only[go_sem];exact⟨0,om,rfl,FD.refl b S,w.congr fun j _=>by simp⟩
 .rintro O S' ⟨i,I,k,l,c,o,p,d,q,r⟩;by_cases a:i<n
  .obtain⟨x,y,s⟩:=id r;have z:x i=.int .i64 (v i):=(s i a).trans sm
   have J:=u i a;have C:=nH (A:=1000000) (B:=1000000) (om:0<=v i/\v i<=1000000) (om:0<=f/\f<=1000000)
   have D:IntKind.i64.wrap (v i*f)=v i*f:=i64_in om om;have E:eN (v i*f) m=v i*f%m:=aK C.1;simp -dsimp only[go_sem,aa,k,l,c,o,p,d,a,y,z,g,D,E,aT (om:i<1000000),ca]
   refine⟨⟨i+1,om,rfl,q.upd _,bJ.here fun j h=>?_⟩,om⟩
   by_cases e:j=i
   .subst e;simp[bR]
   .simp only[bR,e,aP];rw[s j h];by_cases c:j<i
    .simp[c,(om:j<i+1)]
    .simp[c,(om:¬j<i+1)]
  .obtain rfl:i=n:=om
   simp -dsimp only[go_sem,k,l,c,o,p,d,a];exact⟨q,r.congr fun j h=>by simp[h]⟩
def zn(n bt br bm:Nat)(x y:Nat->Int)(q m:Int)(S:St)(T:n<=16)(U:1<=m)(v:m<=1000000)(V:0<=q/\q<m)(w:∀j,j<n->0<=x j/\x j<m)(z:∀j,j<n->0<=y j/\y j<m)(h:br≠bt)(d:bm≠bt)
  (k:bJ S bt 2 1 n (fun j=>.int .i64 (x j))) (l:bJ S br 2 1 n (fun j=>.int .i64 (y j))) (o:dT S bm 2 1 (.int .i64 m)) :
  cE 257 [.sl 1 bt 0 n,.sl 1 br 0 n,.int .i64 q,.ptr 1 bm 0] S (fun _ S'=>FD bt S S'/\bJ S' bt 2 1 n (fun j=>.int .i64 ((x j-q*y j)%m))):=by
 refine ib func257 rfl 32 ntmps257 kr sm ?_
 rw[lg,results257];have p:¬(m=0):=om
 simp -dsimp only[go_sem];refine aH (fun O S'=>∃i:Nat,i<=n/\O 0=.sl 1 bt 0 n/\O 2=.int .i64 q/\O 3=.ptr 1 bm 0/\O 9=.sl 1 br 0 n/\O 10=.int .i64 n/\O 11=.int .i64 i/\FD bt S S'/\bJ S' bt 2 1 n (fun j=>.int .i64 (if j<i then(x j-q*y j)%m else x j))) (fun O S=>n-ca (O 11)) ?_ ?_
 .simp -dsimp only[go_sem];exact⟨0,om,rfl,FD.refl bt S,k.congr fun j _=>by simp⟩
 .rintro O S' ⟨i,W,C,f,D,r,b,c,g,t⟩;by_cases a:i<n
  .obtain⟨E,F,u⟩:=id t;obtain⟨G,H,I⟩:=id (g.has h l);obtain⟨X,J,K⟩:=id (g.var d o);have L:E i=.int .i64 (x i):=(u i a).trans sm
   have M:G i=.int .i64 (y i):=I i a;have Y:=w i a;have Z:=z i a;have k2:=nH (A:=1000000) (B:=1000000) (om:0<=m-q/\m-q<=1000000) (om:0<=y i/\y i<=1000000)
   have N:IntKind.i64.wrap (m-q)=m-q:=i64_in om om;have P:IntKind.i64.wrap ((m-q)*y i)=(m-q)*y i:=i64_in om om;have Q:IntKind.i64.wrap (x i+(m-q)*y i)=x i+(m-q)*y i:=i64_in om om;have R:eN (x i+(m-q)*y i) m=(x i-q*y i)%m:=by
    rw[aK om,show x i+(m-q)*y i=x i-q*y i+m*y i by grind,qc]
   simp -dsimp only[go_sem,aa,r,b,c,a,H,M];refine bF 15 kr ?_
   simp -dsimp only[go_sem,aa,C,f,D,r,b,c,a,F,L,J,K,p,N,P,Q,R,aT (om:i<1000000),ca]
   refine⟨⟨i+1,om,rfl,g.upd _,bJ.here fun j s=>?_⟩,om⟩
   by_cases e:j=i
   .subst e;simp[bR]
   .simp only[bR,e,aP];rw[u j s];by_cases f:j<i
    .simp[f,(om:j<i+1)]
    .simp[f,(om:¬j<i+1)]
  .obtain rfl:i=n:=om
   simp -dsimp only[go_sem,r,b,c,a];exact⟨g,t.congr fun j s=>by simp[s]⟩
def ms(m:Int)(S:St):cE 228 [.int .i64 m] S (fun r S'=>∃b,S b=ab/\r=.fn 257 [.ptr 1 b 0]/\eQ S S'/\dT S' b 2 1 (.int .i64 m)):=by
 refine jr func228 ntmps228 results228 ?_;simp -dsimp only[go_sem];refine aG.intro fun bc fc=>?_
 try simp -dsimp only[go_sem]
 exact⟨bc,fc,rfl,(eQ.refl S).upd fc _,dT.new rfl⟩

end Go.Proofs.YtdobfmlmenaajaaGreatDoor
