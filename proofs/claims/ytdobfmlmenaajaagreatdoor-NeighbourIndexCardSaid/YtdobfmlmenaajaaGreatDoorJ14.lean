/-
  Lemmas for NeighbourIndex.
-/
import Derived.Test.YtdobfmlmenaajaaGreatDoorJ12
namespace Go.Proofs.YtdobfmlmenaajaaGreatDoor
open Go.RowKit Tryz
open _root_.Int renaming ofNat_lt→af,zero_le_ofNat→az,emod_lt_of_pos→aV,emod_nonneg→aY,le_of_lt→cu,toNat_of_nonneg→gX,ediv_le_self→r9,ediv_nonneg→tK
open _root_.List renaming not_mem_nil→aT,forall_mem_cons→bG,getD_cons_zero→bI
open _root_.Nat renaming reduceEqDiff→aa,add_one_le_iff→ab,reduceLT→ae,le_refl→ah,reduceAdd→ak,zero_add→aF,sub_self→bW,lt_irrefl→cA,sub_zero→eG
open _root_.Ne renaming symm→ao
open _root_.Option renaming none→ac
open _root_.Or renaming inr→bH
set_option maxHeartbeats 6400000
set_option maxRecDepth 4096
set_option linter.all false
def MFE(f:Nat)(args:List AV)(n m:Nat)(P:aW->Prop):Prop:=∀S args',dO S args' args->cS f args' S (fun r S'=>∃b g A,r=.sl 1 b 0 n/\P A/\gQ S S' b g n m A)
theorem MFE.of{f:Nat}{args:List AV}{n m:Nat}{P:aW->Prop}(h:cS f args St.none (fun r S'=>∃b g A,r=.sl 1 b 0 n/\P A/\cZ S' b g n m A)):MFE f args n m P:=fun S args' hv=>by
 have h1:cS f args St.none (fun r S'=>∃b g A,r=.sl 1 b 0 n/\P A/\cZ S' b g n m A/\F8 S'):=h.less fun r S' ⟨b,g,A,e,hp,hm⟩=>⟨fW S' b g n,ja S' b g n,b,g,A,e,hp,hm.only.1,hm.only.2⟩;refine(h1.frame hv ?_).mono ?_
 ·rintro r S1 ⟨b,g,A,rfl,_,_,hc⟩;exact⟨rfl,hc⟩
 ·rintro r S' ⟨S1,⟨b,g,A,rfl,hp,hm,_⟩,hd,rfl⟩;exact⟨b,g,A,rfl,hp,hm.join hd⟩
theorem dO.two{S:St}{x x' y y':AV}(h:VA S x x')(h2:VA S y y'):dO S [x,y] [x',y']:=⟨h,h2,trivial⟩
theorem t9{G:Prop}{c:Code}{Q:AX->Tm->St->Prop}(P:Tm->St->Prop)(h1:(∀O S,P O S->Aw c Q O S)->G)(h2:∀O S,P O S->Aw c Q O S):G:=h1 h2
structure mv(S:St)(b b7 N:Nat)(z:Int)(C:aW):Prop where
 ex:∃g,cZ S b g N N C/\∀a,a<N->g a≠b7
 var:dl S b7 50 2 (.big z)
theorem mv.ne{S:St}{b b7 N:Nat}{z:Int}{C:aW}(h:mv S b b7 N z C):b7≠b:=by
 obtain⟨g,hO,_⟩:=h.ex;obtain⟨x,k,_⟩:=h.var;obtain⟨y,l,_⟩:=hO.outer;rintro rfl;rw[k]at l;cases l
theorem mv.next{S S':St}{b b7 N:Nat}{z:Int}{C C':aW}{g g':Nat->Nat}(h:mv S b b7 N z C)(hg:∀a,a<N->g a≠b7)(hO:cZ S' b g' N N C')(hC:ky S S' b g g' N):mv S' b b7 N z C':=by
 obtain⟨x,k,_⟩:=id h.var;exact⟨⟨g',hO,hC.ne k hg⟩,hC.var h.var h.ne hg⟩
theorem mv.congr{S:St}{b b7 N:Nat}{z:Int}{C C':aW}(h:mv S b b7 N z C)(he:∀c r,c<N->r<N->C c r=C' c r):mv S b b7 N z C':=by
 obtain⟨g,hO,hg⟩:=h.ex;exact⟨⟨g,hO.congr he,hg⟩,h.var⟩
def Rng(N i:Nat)(z:Int)(C:aW):Prop:=∀c r,c<N->i<=r->r<N->0<=C c r/\C c r<z
def T2(S:St)(b b7 N:Nat)(L:iG->Prop)(d M:Nat->Int)(i:Nat):Prop:=∃C,mv S b b7 N (M i) C/\HI N L d M i C/\Rng N i (M i) C
def T3(S:St)(b b7 N:Nat)(L:iG->Prop)(d M:Nat->Int)(i j:Nat):Prop:=∃C,mv S b b7 N (M i) C/\HI N L d M i C/\Rng N i (M i) C/\∀k,i<k->k<j->C k i=0
theorem mv.other{S:St}{b b7 N:Nat}{z:Int}{C:aW}(h:mv S b b7 N z C){e:Nat}(he:S e=ac)(X:dH):mv (S.upd e X) b b7 N z C:=by
 obtain⟨g,hO,hg⟩:=h.ex;exact⟨⟨g,hO.upd (bE.fresh hO.outer he) (fun a ha=>bE.fresh (hO.row a ha) he) _,hg⟩,h.var.upd (h.var.fresh he) _⟩
theorem mv.upd3{S:St}{b b7 N:Nat}{z:Int}{C:aW}(h:mv S b b7 N z C){e n:Nat}{x:Nat->AV}(he:bE S e 3 1 n x)(X:dH):mv (S.upd e X) b b7 N z C:=by
 obtain⟨g,hO,hg⟩:=h.ex;refine⟨⟨g,hO.upd (bE.ne hO.outer he dc) (fun a ha=>bE.ne (hO.row a ha) he dc) _,hg⟩,h.var.upd ?_ _⟩
 obtain⟨y,k,_⟩:=h.var;obtain⟨y',l,_⟩:=he;rintro rfl;rw[k]at l;cases l
theorem Cg{f:Nat}{args:List AV}{S:St}{K:AV->St->Prop}(P:St->Prop)(hP:P S)(h:∀T,P T->cS f args T K):cS f args S K:=h S hP
structure mj(S:St)(b b7 b11 N:Nat)(z p:Int)(g:Nat->Nat)(C:aW):Prop where
 mat:cZ S b g N N C
 h7:∀a,a<N->g a≠b7
 h11:∀a,a<N->g a≠b11
 v7:dl S b7 50 2 (.big z)
 v11:dl S b11 50 2 (.big p)
theorem mj.tri{S:St}{b b7 b11 N:Nat}{z p:Int}{g:Nat->Nat}{C:aW}(h:mj S b b7 b11 N z p g C):mv S b b7 N z C:=⟨⟨g,h.mat,h.h7⟩,h.v7⟩
theorem mj.other{S:St}{b b7 b11 N:Nat}{z p:Int}{g:Nat->Nat}{C:aW}(h:mj S b b7 b11 N z p g C){e:Nat}(he:S e=ac)(X:dH):mj (S.upd e X) b b7 b11 N z p g C :=
 ⟨h.mat.upd (bE.fresh h.mat.outer he) (fun a ha=>bE.fresh (h.mat.row a ha) he) _,h.h7,h.h11,h.v7.upd (h.v7.fresh he) _,h.v11.upd (h.v11.fresh he) _⟩
theorem dl.ext{S S':St}{b ty es:Nat}{z:AV}(h:dl S b ty es z)(hE:eJ S S'):dl S' b ty es z:=by
 obtain⟨x,k1,k2⟩:=h;exact⟨x,hE _ _ k1,k2⟩
theorem mj.n7{S:St}{b b7 b11 N:Nat}{z p:Int}{g:Nat->Nat}{C:aW}(h:mj S b b7 b11 N z p g C):b7≠b/\b11≠b:=by
 obtain⟨x,k,_⟩:=h.v7;obtain⟨x',k',_⟩:=h.v11;obtain⟨y,l,_⟩:=h.mat.outer;refine⟨?_,?_⟩<;>rintro rfl
 ·rw[k]at l;cases l
 ·rw[k']at l;cases l
theorem mj.repl{S S1:St}{b b7 b11 N:Nat}{z p:Int}{g:Nat->Nat}{C:aW}(h:mj S b b7 b11 N z p g C){j c:Nat}{v:Nat->Int}(hE:eJ S S1)(hn:S c=ac)(hI:gJ S1 c N v){g1:Nat->AV}(hS:S1 b=some ⟨59,1,N,g1⟩) :
  mj (S1.upd b ⟨59,1,N,bJ g1 j (.sl 2 c 0 N)⟩) b b7 b11 N z p (fun a=>if a=j then c else g a) (fun a r=>if a=j then v r else C a r):=by
 have hO:=h.mat.ext hE;refine⟨hO.repl hI (fun a ha=>bE.fresh (h.mat.row a ha) hn) hS,fun a ha=>?_,fun a ha=>?_,(h.v7.ext hE).upd h.n7.1 _,(h.v11.ext hE).upd h.n7.2 _⟩
 ·by_cases e:a=j
  ·simp only[e,if_true];exact ao (h.v7.fresh hn)
  ·simp only[e,if_false];exact h.h7 a ha
 ·by_cases e:a=j
  ·simp only[e,if_true];exact ao (h.v11.fresh hn)
  ·simp only[e,if_false];exact h.h11 a ha
theorem mj.set{S:St}{b b7 b11 N:Nat}{z p:Int}{g:Nat->Nat}{C:aW}(h:mj S b b7 b11 N z p g C){i j:Nat}{q:Int}{g':Nat->AV}(hi:i<N)(hS:S (g i)=some ⟨50,2,N,g'⟩):mj (S.upd (g i) ⟨50,2,N,bJ g' j (.big q)⟩) b b7 b11 N z p g (eE C i j q) :=
 ⟨h.mat.set hi hS,h.h7,h.h11,h.v7.upd (ao (h.h7 i hi)) _,h.v11.upd (ao (h.h11 i hi)) _⟩
theorem mj.congr{S:St}{b b7 b11 N:Nat}{z p:Int}{g:Nat->Nat}{C C':aW}(h:mj S b b7 b11 N z p g C)(he:∀c r,c<N->r<N->C c r=C' c r):mj S b b7 b11 N z p g C':=⟨h.mat.congr he,h.h7,h.h11,h.v7,h.v11⟩
def T4(S:St)(b b7 b11 N:Nat)(z p:Int)(C:aW):Prop:=∃g,mj S b b7 b11 N z p g C
theorem mj.upd{S:St}{b b7 b11 N:Nat}{z p:Int}{g:Nat->Nat}{C:aW}(h:mj S b b7 b11 N z p g C){e:Nat}(h1:b≠e)(h2:∀a,a<N->g a≠e)(h3:b7≠e)(h4:b11≠e)(X:dH):mj (S.upd e X) b b7 b11 N z p g C :=
 ⟨h.mat.upd h1 h2 _,h.h7,h.h11,h.v7.upd h3 _,h.v11.upd h4 _⟩
theorem Ee{N i:Nat}{C:aW}{p a:Int}(hA:∀c r,c<N->r<N->0<=C c r/\C c r<2147483648)(hp:nb p 31)(ha:nb a 31)(hi:i<N)(hp0:0<=p)(t:Nat):∀c r,c<N->r<N->nb (ny C i t p a c r) 100:=by
 intro c r hc hr;have h1:nb (if r=i then p else a*C i r) 62:=by
  split
  ·exact hp.mono om
  ·exact ha.mul (jb (hA i r hi hr))
 unfold ny;split
 ·exact h1.mono om
 ·split
  ·have k:=hA c i hc hi;have nq:nb (C c i/p) 31:=by
    have:=r9 p k.1;have:=tK k.1 hp0;unfold nb;omega
   have:=((jb (hA c r hc hr)).mono (om:31<=93)).sub (nq.mul h1)
   exact this.mono om
  ·exact(jb (hA c r hc hr)).mono om
theorem uS(N:Nat)(w:aW)(h1:1<=N)(hN:N<=16)(hw:∀i j,i<N->j<N->nb (w i j) 1000)(hd:det N w≠0)(hdb:(det N w).natAbs<2147483648) :
  MFE 260 [aZ N N w,.big (det N w)] N N (fun H=>∃d M,TL N (gK N N w) d M/\M 0=((det N w).natAbs:Int)/\HI N (gK N N w) d M N (fun j r=>H r j)):=by
 obtain⟨d,M,hL,hM0⟩:=TL.of_det hd;generalize det N w=D at *;refine MFE.of ?_;refine aD func260 rfl 147 ntmps260 kr sm (by simp[results260]) ?_
 rw[aQ,results260];have hp0:0<N:=om
 have hpz:(0:Int)<(N:Int):=om
 simp -dsimp only[go_sem,ak,aa,ae,reduceCtorEq,ab,aZ,bn];refine aH.intro fun b3 f3=>?_;refine(ru N N w h1 hN hN _ _ (cH _ _)).mono ?_;rintro _ S1 ⟨b,g,rfl,hO,hE,hb,hg⟩;have hv3:dl S1 b3 50 2 (.big D):=by
  obtain⟨x,k1,k2⟩:=dl.new (S:=St.none) (b:=b3) (ty:=50) (es:=2) (g:=fun _=>AV.big D) rfl;exact⟨x,hE _ _ k1,k2⟩
 obtain⟨g3,u3,v3⟩:=id hv3;simp -dsimp only[go_sem,aa,ae,reduceCtorEq,ab,u3];refine aH.intro fun b7 f7=>?_;have n37:b3≠b7:=hv3.fresh f7;have nb7:b≠b7:=bE.fresh hO.outer f7;have ng7:∀a,a<N->g a≠b7:=fun a ha=>bE.fresh (hO.row a ha) f7;have nD:nb D 32:=by unfold nb;omega
 simp -dsimp only[go_sem,aa,ae,↓reduceIte,ab,u3,v3,n37];refine(jJ nD om).call ?_;apply t9 (fun O S=>O 5=.int .i64 N/\O 6=.sl 1 b 0 N/\O 7=.ptr 2 b7 0/\O 31=.int .i64 N/\O 32=.int .i64 0/\mv S b b7 N (M 0) (fun c r=>w r c))
 ·intro key;by_cases hneg:D<0
  ·simp -dsimp only[go_sem,aa,ae,↓reduceIte,ab,u3,v3,n37,show decide (D.sign<0)=true by rw[Int.sign_eq_neg_one_of_neg hneg];rfl]
   refine(qD nD om).call ?_;simp -dsimp only[go_sem,aa,ae,↓reduceIte,ab,v3];refine key _ _ ?_;simp -dsimp only[go_sem,aa];refine⟨⟨g,?_,ng7⟩,?_⟩
   ·repeat' first|exact hO|refine cZ.upd ?_ (by assumption) (by assumption) _
   ·rw[(om:M 0=-D)]
    simp only[dl.at_hit,bJ,if_true]
  ·simp -dsimp only[go_sem,aa,ae,↓reduceIte,ab,u3,v3,n37,show decide (D.sign<0)=false by rw[Int.sign_eq_one_of_pos om];rfl]
   refine key _ _ ?_;simp -dsimp only[go_sem,aa];refine⟨⟨g,?_,ng7⟩,?_⟩
   ·repeat' first|exact hO|refine cZ.upd ?_ (by assumption) (by assumption) _
   ·rw[(om:M 0=D)]
    simp only[dl.at_hit,bJ,if_true]
 clear u3 v3 hv3 n37 nb7 ng7 hO hE hb hg;have hM0p:=hL.M_pos N 0 om om;have nM:∀i,i<=N->nb (M i) 31:=fun i hi=>by
  have:=hL.M_le i hi;have:=hL.M_pos N i om hi;unfold nb;omega
 rintro O S ⟨e5,e6,e7,e31,e32,hS⟩;refine aM (fun O S=>∃j:Nat,j<=N/\O 5=.int .i64 N/\O 6=.sl 1 b 0 N/\O 7=.ptr 2 b7 0/\O 31=.int .i64 N/\O 32=.int .i64 j/\mv S b b7 N (M 0) (fun c r=>if c<j then w r c%M 0 else w r c)) (fun O S=>N-ca (O 32)) ?_ ?_
 ·exact⟨0,om,e5,e6,e7,e31,e32,hS.congr fun c r _ _=>by simp⟩
 clear e5 e6 e7 e31 e32 hS;rintro O S ⟨j,hj,e5,e6,e7,e31,e32,hS⟩;by_cases hlt:j<N
 ·obtain⟨g7,u7,x7⟩:=id hS.var;obtain⟨g,hO,hg⟩:=hS.ex;simp -dsimp only[go_sem,aa,ae,↓reduceIte,af,decide_true,ab,e5,e6,e7,e31,e32,hlt,u7,x7];refine(mz S b g N N j 0 _ (M 0) hlt om om hM0p ((nM 0 om).mono om) 1000 om (fun r hr=>?_) hO).mono ?_
  ·rw[if_neg om];exact hw r j hr hlt
  rintro _ S1 ⟨hO1,hC1⟩;simp -dsimp only[go_sem,aa,↓reduceIte,e5,e6,e7,e31,e32,a6 (om:j<1000000),ca]
  refine⟨⟨j+1,om,rfl,(hS.next hg hO1 hC1).congr fun c r _ _=>?_⟩,om⟩
  by_cases e:c=j
  ·simp[e]
  ·by_cases e2:c<j
   ·simp[e,e2,(om:c<j+1)]
   ·simp[e,e2,(om:¬c<j+1)]
 obtain rfl:j=N:=om
 simp -dsimp only[go_sem,aa,ae,↓reduceIte,af,decide_false,ab,e5,e6,e7,e31,e32,hlt];have hT:T2 S b b7 j (gK j j w) d M 0:=⟨_,hS.congr (C':=fun c r=>w r c%M 0) fun c r hc _=>by simp[hc],HI.first hL,fun c r _ _ _=>⟨aY _ om,aV _ hM0p⟩⟩
 refine aM (fun O S=>∃i:Nat,i<=j/\O 5=.int .i64 j/\O 6=.sl 1 b 0 j/\O 7=.ptr 2 b7 0/\O 40=.int .i64 j/\O 41=.int .i64 i/\T2 S b b7 j (gK j j w) d M i) (fun O S=>j-ca (O 41)) ?_ ?_
 ·simp -dsimp only[go_sem,aa,e5,e6,e7];exact⟨0,om,rfl,hT⟩
 clear e5 e6 e7 e31 e32 hS hT hlt hj hw;generalize hNN:j=N at *;clear hNN;rintro O S ⟨i,hi,e5,e6,e7,e40,e41,hT⟩;by_cases hlt:i<N
 ·simp -dsimp only[go_sem,aa,↓reduceIte,af,decide_true,e5,e40,e41,hlt,a6 (om:i<1000000)]
  have hMi:=hL.M_pos N i om hi;refine aM (fun O S=>∃j:Nat,i+1<=j/\j<=N/\O 5=.int .i64 N/\O 6=.sl 1 b 0 N/\O 7=.ptr 2 b7 0/\O 9=.int .i64 i/\O 10=.int .i64 j/\O 40=.int .i64 N/\O 41=.int .i64 i/\T3 S b b7 N (gK N N w) d M i j) (fun O S=>N-ca (O 10)) ?_ ?_
  ·simp -dsimp only[go_sem,aa,e5,e6,e7,e40,e41];obtain⟨C,c1,c2,c3⟩:=hT;exact⟨i+1,om,om,rfl,C,c1,c2,c3,fun k _ _=>om⟩
  clear e5 e6 e7 e40 e41 hT;rintro O S ⟨j,hj1,hj2,e5,e6,e7,e9,e10,e40,e41,C,hS,hH,hR,hZ⟩;have hAll:∀c r,c<N->r<N->0<=C c r/\C c r<2147483648:=fun c r hc hr=>by
   have:=hH.rng hL hi hR hc hr;omega
  obtain⟨g7,u7,x7⟩:=id hS.var;obtain⟨g,hO,hg⟩:=hS.ex;by_cases hjt:j<N
  ·simp -dsimp only[go_sem,aa,ae,↓reduceIte,af,decide_true,ab,e5,e6,e7,e9,e10,hjt,u7,x7];refine(Do S b g N N i j C (M i) om hjt hlt om hMi (nM i hi) hAll hO).mono ?_;rintro _ S1 ⟨g',hO1,hC1⟩;have hcl:=L7 hL hH (om:i<j) hjt hR
   simp -dsimp only[go_sem,aa,↓reduceIte,e5,e6,e7,e9,e10,e40,e41,a6 (om:j<1000000),ca]
   refine⟨⟨j+1,om,om,rfl,_,hS.next hg hO1 hC1,hcl.1,hcl.2.1,fun k hk1 hk2=>?_⟩,om⟩
   by_cases e:k=j
   ·rw[e];exact hcl.2.2.1
   ·rw[hcl.2.2.2 k i om e];exact hZ k hk1 om
  have hNj:N=j:=om
  subst hNj;clear hjt hj1 hj2;simp -dsimp only[go_sem,aa,ae,↓reduceIte,af,decide_false,ab,e5,e6,e7,e9,e10,cA];obtain⟨g1,u1,v1⟩:=id hO.outer;obtain⟨g2,u2,v2⟩:=id (hO.row i hlt);have x1:g1 i=.sl 2 (g i) 0 N:=v1 i hlt;have x2:g2 i=.big (C i i):=v2 i hlt;have kii:=hR i i hlt (ah _) hlt;have nMi:=nM i hi;have hMi2:M i<2147483648:=by have:=hL.M_le i hi;omega
  have hbz:=wu (x:=C i i) (y:=M i) om om (bH om);have b1:=H7 (M i).toNat (C i i).toNat (M i).toNat (ah _);have b2:=H8 (M i).toNat (C i i).toNat (M i).toNat (ah _);have b3:=Dq (M i).toNat (C i i).toNat (M i).toNat (ah _) (bH om);have b4:=H9 (M i).toNat (C i i).toNat (M i).toNat (ah _) om;generalize bz (C i i).toNat (M i).toNat=D at *;rw[gX kii.1,gX (cu hMi)]at b1 b2;have nD1:nb D.1 31:=by unfold nb;omega
  have nD2:nb D.2.1 31:=by unfold nb;omega
  refine nJ 16 [[11,12],[12],[]] kr ?_
  simp -dsimp only[go_sem,aa,ae,↓reduceIte,af,ab,e6,e7,e9,u1,x1,u2,x2,u7,x7,hlt];refine⟨_,hbz.pure',?_⟩;simp -dsimp only[go_sem];refine aH.intro fun b11 f11=>?_
  try simp -dsimp only[go_sem]
  refine aH.intro fun b12 f12=>?_;have n12_11:=(ai f12).1
  try simp -dsimp only[go_sem]
  refine aH.intro fun b13 f13=>?_;have n13_12:=(ai f13).1;have n13_11:=(ai (ai f13).2).1;have s12:=(ai f12).2;have s13:=(ai (ai f13).2).2;have w11:b≠b11:=bE.fresh hO.outer f11;have w12:b≠b12:=bE.fresh hO.outer s12;have w13:b≠b13:=bE.fresh hO.outer s13;have y11:∀a,a<N->g a≠b11:=fun a ha=>bE.fresh (hO.row a ha) f11;have y12:∀a,a<N->g a≠b12:=fun a ha=>bE.fresh (hO.row a ha) s12;have y13:∀a,a<N->g a≠b13:=fun a ha=>bE.fresh (hO.row a ha) s13;have z11:b7≠b11:=hS.var.fresh f11;have z12:b7≠b12:=hS.var.fresh s12;have z13:b7≠b13:=hS.var.fresh s13;simp -dsimp only[go_sem,aa,ae,↓reduceIte,e6,e9,nn n12_11,nn n13_11,nn n13_12,bJ];refine Cg (fun T=>mj T b b7 b11 N (M i) D.1 g C/\dl T b12 50 2 (.big D.2.1)) ?_ ?_
  ·refine⟨⟨?_,hg,y11,?_,?_⟩,?_⟩
   ·repeat' first|exact hO|refine cZ.upd ?_ (by assumption) (by assumption) _
   all_goals simp only[dl.at_hit,dl.at_miss,ne_eq,not_false_eq_true,bJ,if_true,z11,z12,z13,ao n12_11,ao n13_11,ao n13_12]
   exact hS.var
  rintro T ⟨hT,hT12⟩;refine(mc N N 31 i i C D.2.1 0 hlt hlt om (fun c r hc hr=>jb (hAll c r hc hr)) nD2 (nb.zero 31) om _ _ (dO.first hT.mat.vr.va)).mono ?_
  rintro _ S1 ⟨c,rfl,hI,hE,hn⟩;have hO1:=hT.mat.ext hE;obtain⟨g4,u4,v4⟩:=id hO1.outer;obtain⟨g5,u5,v5⟩:=id hI;have hcg:∀a,a<N->g a≠c:=fun a ha=>bE.fresh (hT.mat.row a ha) hn;have hcb:c≠b:=ao (bE.fresh hT.mat.outer hn);simp -dsimp only[go_sem,aa,↓reduceIte,af,ab,e6,e9,u4,hlt,ed];obtain⟨g6,u6,x6⟩:=id (hT.v11.ext hE);have n11c:b11≠c:=hT.v11.fresh hn;refine bM 7 kr ?_
  simp -dsimp only[go_sem,aa,ae,↓reduceIte,af,ab,e6,e9,u5,u6,x6,hT.n7.2,hcb,hlt,ed];have hV1:=hT.repl (j:=i) hE hn hI u4;have hV2:=hV1.set (i:=i) (j:=i) (q:=D.1) hlt (g':=g5) (by simp only[if_true];rw[aP hcb];exact u5)
  simp only[if_true]at hV2;have hV3:=hV2.congr (C':=ny C i 0 D.1 D.2.1) (fun a r _ _=>by
   simp only[eE,ny,Nat.not_lt_zero,if_false];by_cases e:a=i
   ·by_cases e2:r=i
    ·simp[e,e2]
    ·simp[e,e2]
   ·simp[e])
  have hV4:T4 ((S1.upd b { ty:=59,es:=1,n:=N,g:=bJ g4 i (AV.sl 2 c 0 N) }).upd c { ty:=50,es:=2,n:=N,g:=bJ g5 i (AV.big D.1) }) b b7 b11 N (M i) D.1 (ny C i 0 D.1 D.2.1):=⟨_,hV3⟩;refine aM (fun O S=>∃t:Nat,t<=i/\O 5=.int .i64 N/\O 6=.sl 1 b 0 N/\O 7=.ptr 2 b7 0/\O 9=.int .i64 i/\O 11=.ptr 2 b11 0/\O 40=.int .i64 N/\O 41=.int .i64 i/\O 85=.int .i64 i/\O 86=.int .i64 t/\T4 S b b7 b11 N (M i) D.1 (ny C i t D.1 D.2.1)) (fun O S=>i-ca (O 86)) ?_ ?_
  ·simp -dsimp only[go_sem,aa,↓reduceIte,e5,e6,e7,e9,e40,e41];exact⟨0,om,rfl,hV4⟩
  clear hV1 hV2 hV3 hV4 u4 u5 u6 x6 n11c hO1 hcg hcb v4 v5 hI hE hn hT hT12 u1 u2 x1 x2 u7 x7 e5 e6 e7 e9 e10 e40 e41 hO hg hS;clear f11 f12 f13 s12 s13 w11 w12 w13 y11 y12 y13 z11 z12 z13 n12_11 n13_12 n13_11;rintro O S2 ⟨t,ht,e5,e6,e7,e9,e11,e40,e41,e85,e86,g',hV⟩;by_cases htt:t<i
  ·obtain⟨g1,u1,v1⟩:=id hV.mat.outer;have htN:t<N:=om
   obtain⟨g2,u2,v2⟩:=id (hV.mat.row t htN);obtain⟨g6,u6,x6⟩:=id hV.v11;have x1:g1 t=.sl 2 (g' t) 0 N:=v1 t htN;have x2:g2 i=.big (C t i):=(v2 i hlt).trans (by simp[ny,(om:¬t=i)])
   have kti:=hAll t i htN hlt;simp -dsimp only[go_sem,aa,ae,↓reduceIte,af,decide_true,ab,e7,e11,e85,e86,htt];refine nJ 15 [[11,12],[12],[]] kr ?_
   simp -dsimp only[go_sem,aa,ae,↓reduceIte,af,ab,e6,e9,e11,u1,x1,u2,x2,u6,x6,hlt,htN];refine⟨_,(kP (jb kti) nD1 om om (bH ((jb kti).mono om))).pure',?_⟩;simp -dsimp only[go_sem];refine aH.intro fun b15 f15=>?_
   try simp -dsimp only[go_sem]
   refine aH.intro fun b16 f16=>?_;have n16_15:=(ai f16).1;simp -dsimp only[go_sem,aa,ae,↓reduceIte,nn n16_15];refine mK (fun T=>mj T b b7 b11 N (M i) D.1 g' (ny C i t D.1 D.2.1)/\dl T b15 50 2 (.big (C t i/D.1))) ?_ ?_
   ·have s16:=(ai f16).2;have w15:b≠b15:=bE.fresh hV.mat.outer f15;have w16:b≠b16:=bE.fresh hV.mat.outer s16;have y15:∀a,a<N->g' a≠b15:=fun a ha=>bE.fresh (hV.mat.row a ha) f15;have y16:∀a,a<N->g' a≠b16:=fun a ha=>bE.fresh (hV.mat.row a ha) s16;have z1:b7≠b15:=hV.v7.fresh f15;have z2:b7≠b16:=hV.v7.fresh s16;have z3:b11≠b15:=hV.v11.fresh f15;have z4:b11≠b16:=hV.v11.fresh s16;refine⟨?_,?_⟩
    ·repeat' first|exact hV|refine mj.upd ?_ (by assumption) (by assumption) (by assumption) (by assumption) _
    ·simp only[dl.at_hit,dl.at_miss,ne_eq,not_false_eq_true,bJ,if_true,ao n16_15]
   rintro T ⟨hT,hT15⟩;obtain⟨g7,u7,x7⟩:=id hT15;refine eL 8 [[0,1],[],[]] kr ?_
   simp -dsimp only[go_sem,aa,ae,↓reduceIte,ab,e6,e9,u7,x7];have nq:nb (C t i/D.1) 31:=by
    have:=r9 D.1 kti.1;have:=tK kti.1 (cu b3.1);unfold nb;omega
   have nP:=Ee hAll nD1 nD2 hlt (cu b3.1) t;refine⟨_,(jw dc dc).pure',_,(qD nq om).pure',?_⟩
   refine(mc N N 100 t i _ 1 (-(C t i/D.1)) htN hlt om nP (nb.one om) (nq.neg.mono om) om _ _ (dO.first hT.mat.vr.va)).mono ?_
   rintro _ S3 ⟨c,rfl,hI,hE,hn⟩;obtain⟨g8,u8,v8⟩:=id (hT.mat.ext hE).outer;simp -dsimp only[go_sem,aa,↓reduceIte,af,ab,e5,e6,e7,e9,e11,e40,e41,e85,e86,u8,htN,a6 (om:t<1000000),ca]
   refine⟨⟨t+1,om,rfl,_,(hT.repl (j:=t) hE hn hI u8).congr fun a r _ _=>?_⟩,om⟩
   by_cases e:a=t
   ·subst e;simp only[if_true,ny,(om:¬a=i),cA,Nat.lt_succ_self,if_false]
    rw[Int.one_mul,Int.neg_mul];rfl
   ·simp only[e,if_false,ny];by_cases e2:a=i
    ·simp[e2]
    ·by_cases e3:a<t
     ·simp[e2,e3,(om:a<t+1)]
     ·simp[e2,e3,(om:¬a<t+1)]
  have hti:t=i:=om
  subst hti;obtain⟨hP1,hP2⟩:=LH hL hH hlt hZ b3.1 b1 b2.1 b2.2;obtain⟨g7,u7,x7⟩:=id hV.v7;obtain⟨g8,u8,x8⟩:=id hV.v11;have nP:=Ee hAll nD1 nD2 hlt (cu b3.1) t;simp -dsimp only[go_sem,aa,ae,↓reduceIte,af,decide_false,ab,e7,e11,e85,e86,cA,u7,x7,u8,x8];refine(kP nMi nD1 om om (bH (nMi.mono om))).call ?_;rw[hP2];simp -dsimp only[go_sem,aa,ae,↓reduceIte,ab,e5,e7,u7,x7,x8];have hM1:=hL.M_pos N (t+1) om om;have hT5:mv (S2.upd b7 ⟨50,2,1,bJ g7 0 (.big (M (t+1)))⟩) b b7 N (M (t+1)) (ny C t t D.1 D.2.1):=⟨⟨g',hV.mat.upd (ao hV.n7.1) hV.h7 _,hV.h7⟩,dl.set⟩;refine aM (fun O S=>∃j:Nat,j<=N/\O 5=.int .i64 N/\O 6=.sl 1 b 0 N/\O 7=.ptr 2 b7 0/\O 9=.int .i64 t/\O 40=.int .i64 N/\O 41=.int .i64 t/\O 120=.int .i64 N/\O 121=.int .i64 j/\mv S b b7 N (M (t+1)) (fun c r=>if c<j/\t+1<=r then ny C t t D.1 D.2.1 c r%M (t+1)else ny C t t D.1 D.2.1 c r)) (fun O S=>N-ca (O 121)) ?_ ?_
  ·simp -dsimp only[go_sem,aa,e5,e6,e7,e9,e40,e41];exact⟨0,om,rfl,hT5.congr fun c r _ _=>by simp⟩
  clear hT5 u7 x7 u8 x8 hV e5 e6 e7 e9 e11 e40 e41 e85 e86;rintro O S3 ⟨j,hj,e5,e6,e7,e9,e40,e41,e120,e121,hS⟩;by_cases hjt:j<N
  ·obtain⟨g7,u7,x7⟩:=id hS.var;obtain⟨g,hO,hg⟩:=hS.ex;simp -dsimp only[go_sem,aa,ae,↓reduceIte,af,decide_true,ab,e5,e6,e7,e9,e40,e41,e120,e121,hjt,u7,x7,a6 (om:t<1000000)]
   refine(mz S3 b g N N j (t+1) _ (M (t+1)) hjt om om hM1 ((nM (t+1) om).mono om) 100 om (fun r hr=>?_) hO).mono ?_
   ·rw[if_neg om];exact nP j r hjt hr
   rintro _ S4 ⟨hO1,hC1⟩;simp -dsimp only[go_sem,aa,↓reduceIte,e5,e6,e7,e9,e40,e41,e120,e121,a6 (om:j<1000000),ca]
   refine⟨⟨j+1,om,rfl,(hS.next hg hO1 hC1).congr fun c r _ _=>?_⟩,om⟩
   by_cases e2:t+1<=r
   ·by_cases e:c=j
    ·rw[if_pos ⟨e,e2⟩,if_neg om,if_pos om]
    ·by_cases e3:c<j
     ·rw[if_neg om,if_pos ⟨e3,e2⟩,if_pos om]
     ·rw[if_neg om,if_neg om,if_neg om]
   ·rw[if_neg om,if_neg om,if_neg om]
  have hNj:N=j:=om
  subst hNj;simp -dsimp only[go_sem,aa,ae,↓reduceIte,af,decide_false,ab,e5,e6,e7,e9,e40,e41,e120,e121,cA,a6 (om:t<1000000),ca]
  refine⟨⟨t+1,om,rfl,_,hS.congr (C':=fun c r=>if t+1<=r then ny C t t D.1 D.2.1 c r%M (t+1)else ny C t t D.1 D.2.1 c r) fun c r hc _=>by
   by_cases e2:t+1<=r
   ·rw[if_pos ⟨hc,e2⟩,if_pos e2]
   ·rw[if_neg om,if_neg e2],LD hL hP1 om,fun c r _ h1 _=>?_⟩,om⟩
  dsimp only;rw[if_pos h1];exact⟨aY _ om,aV _ hM1⟩
 ·have hNi:N=i:=om
  subst hNi;obtain⟨C,hS,hH,hR⟩:=hT;simp -dsimp only[go_sem,aa,↓reduceIte,af,decide_false,e5,e40,e41,cA]
  repeat refine an ?_
  refine aH.intro fun b19 f19=>?_;simp -dsimp only[go_sem];have hAll:∀c r,c<N->r<N->0<=C c r/\C c r<2147483648:=fun c r hc hr=>by
   have:=hH.rng hL (ah _) hR hc hr;omega
  refine aM (fun O S=>∃k:Nat,k<=N/\O 6=.sl 1 b 0 N/\O 19=.sl 1 b19 0 N/\O 135=.int .i64 N/\O 136=.int .i64 k/\mv S b b7 N (M N) C/\bE S b19 3 1 N (fun a=>.int .i64 (if a<k then(a:Int)else 0))) (fun O S=>N-ca (O 136)) ?_ ?_
  ·simp -dsimp only[go_sem,aa,e6];exact⟨0,om,rfl,hS.other f19 _,bE.here fun a _=>by simp⟩
  clear e5 e6 e7 e40 e41 hS f19;rintro O S ⟨k,hk,e6,e19,e135,e136,hS,hH19⟩;by_cases hkt:k<N
  ·obtain⟨g1,u1,v1⟩:=id hH19;simp -dsimp only[go_sem,aa,ae,↓reduceIte,reduceCtorEq,af,decide_true,ab,e6,e19,e135,e136,hkt,u1,a6 (om:k<1000000),ca]
   refine⟨⟨k+1,om,rfl,hS.upd3 hH19 _,bE.here fun a ha=>?_⟩,om⟩
   simp only[bJ];by_cases e:a=k
   ·simp[e]
   ·rw[if_neg e,v1 a ha];by_cases e2:a<k
    ·simp[e2,(om:a<k+1)]
    ·simp[e2,(om:¬a<k+1)]
  have hNk:N=k:=om
  subst hNk;obtain⟨g,hO,hg⟩:=hS.ex;simp -dsimp only[go_sem,aa,ae,↓reduceIte,reduceCtorEq,af,decide_false,ab,e6,e19,e135,e136,cA];refine(tX N N N 31 C (fun i=>i) om om (fun i hi=>hi) (fun c r hc hr=>jb (hAll c r hc hr)) om _ _ (dO.two hO.vr.va (VR.sl hH19 om (fun a ha=>by rw[aF,if_pos ha];exact VR.mf rfl)).va)).mono ?_
  rintro _ S5 ⟨b',g',rfl,hN'⟩;simp -dsimp only[go_sem,aa];exact⟨b',rfl,g',_,⟨d,M,hL,hM0,hH⟩,hN'.1⟩
def jN(N:Nat)(C U:aW):aW:=fun j r=>aE N fun a=>C a r*U a j
def Bh(N:Nat)(C U:aW)(j r t:Nat):Nat->Nat->AV:=fun a c=>.big (if a=j/\r<=c then(if c=r then aE t (fun k=>C k r*U k j)else 0)else jN N C U a c)
theorem B1{S:St}{b c t e ty ty' es N:Nat}{g0 g1:Nat->AV}{K:AV->St->Prop}(hb:S b=some ⟨ty,es,N,g0⟩)(hc:S c=some ⟨ty',es,N,g1⟩)(ht:c9 t=some e)(he:es=bP e)(hN:0<N)(hs:∀j,j<N->dI es (g1 j))
  (hK:K (.int .i64 N) (S.upd b ⟨ty,es,N,fun j=>if 0<=j/\j<0+N then g1 (0+(j-0))else g0 j⟩)):wD t (.sl es b 0 N) (.sl es c 0 N) S K:=by
 unfold wD qm;rw[ht];have h2:wZ S (.sl es c 0 N)=some (es,N,fun j=>g1 (0+j),some c):=by simp[wZ,hc]
 rw[h2];simp only[hb];exact⟨he,trivial,trivial,om,trivial,hN,fun j hj=>by rw[aF];exact hs j hj,hK⟩
theorem CK(S0:St)(b bu:Nat)(g gu:Nat->Nat)(N R k:Nat)(C U:aW)(h1:1<=N)(hN:N<=16)(hR:R<=100)(hC:∀a r,a<N->r<R->nb (C a r) k)(hU:∀a r,a<N->r<N->nb (U a r) k)(hk:k<=1000000)(hO:cZ S0 b g N R C)(hO2:cZ S0 bu gu N N U) :
  cS 261 [.sl 1 b 0 N,.sl 1 bu 0 N] S0 (fun _ S'=>(∃g',cZ S' b g' N R (jN N C U))/\gI b S0 S'):=by
 refine g9 func261 rfl 75 ntmps261 kr sm ?_
 rw[aQ,results261];simp -dsimp only[go_sem,ak,aa]
 repeat refine an ?_
 refine aH.intro fun bc fc=>?_;simp -dsimp only[go_sem];refine aM (fun O S'=>∃j:Nat,j<=N/\O 0=.sl 1 b 0 N/\O 1=.sl 1 bu 0 N/\O 4=.sl 1 bc 0 N/\O 13=.int .i64 N/\O 14=.int .i64 j/\∃g',eO 59 50 2 S0 S' bc g' N R j (fun a r=>.big (jN N C U a r))) (fun O S=>N-ca (O 14)) ?_ ?_
 ·simp -dsimp only[go_sem,aa,reduceCtorEq];exact⟨0,om,rfl,fun _=>0,eO.init fc (fun _ _=>rfl) _ _⟩
 rintro O S' ⟨j,hj,e0,e1,e4,e13,e14,g',hRr⟩;have hE:eJ S0 S':=hRr.ext;obtain⟨gg4,uu4,v4⟩:=id hRr.outer;by_cases hjt:j<N
 ·obtain⟨g0,u0,v0⟩:=id (hE.has hO.outer);have x0:g0 j=.sl 2 (g j) 0 R:=v0 j hjt;simp -dsimp only[go_sem,aa,↓reduceIte,reduceCtorEq,af,decide_true,ab,e0,e4,e13,e14,hjt,u0,x0]
  repeat refine an ?_
  refine aH.intro fun bd fd=>?_;have hdc:bc≠bd:=bE.fresh hRr.outer fd;simp -dsimp only[go_sem,hjt,uu4,hdc,ed];have hR1:=hRr.push dc fd uu4 (fun _=>.big 0)
  generalize hgg:(fun a=>if a=j then bd else g' a)=gg at hR1
  have hgj:gg j=bd:=by rw[<-hgg];simp
  refine aM (fun O S'=>∃r:Nat,r<=R/\O 0=.sl 1 b 0 N/\O 1=.sl 1 bu 0 N/\O 4=.sl 1 bc 0 N/\O 5=.int .i64 j/\O 13=.int .i64 N/\O 14=.int .i64 j/\O 30=.int .i64 R/\O 31=.int .i64 r/\eO 59 50 2 S0 S' bc gg N R (j+1) (Bh N C U j r 0)) (fun O S=>R-ca (O 31)) ?_ ?_
  ·simp -dsimp only[go_sem,aa,reduceCtorEq,e0,e1,e4,e13,e14];refine⟨0,om,rfl,hR1.congr fun a c _ _=>?_⟩
   unfold Bh;by_cases e:a=j
   ·simp[e,aE]
   ·simp[e]
  clear hR1 hRr hE uu4 v4 u0 v0 x0 e0 e1 e4 e13 e14;rintro O S' ⟨r,hr,e0,e1,e4,e5,e13,e14,e30,e31,hRr⟩;by_cases hrt:r<R
  ·simp -dsimp only[go_sem,aa,↓reduceIte,reduceCtorEq,af,decide_true,e0,e1,e4,e13,e14,e30,e31,hrt];refine aM (fun O S'=>∃t:Nat,t<=N/\O 0=.sl 1 b 0 N/\O 1=.sl 1 bu 0 N/\O 4=.sl 1 bc 0 N/\O 5=.int .i64 j/\O 6=.int .i64 r/\O 13=.int .i64 N/\O 14=.int .i64 j/\O 30=.int .i64 R/\O 31=.int .i64 r/\O 35=.int .i64 N/\O 36=.int .i64 t/\eO 59 50 2 S0 S' bc gg N R (j+1) (Bh N C U j r t)) (fun O S=>N-ca (O 36)) ?_ ?_
   ·simp -dsimp only[go_sem,aa,reduceCtorEq,e0,e1,e4,e5,e13,e14,e30,e31];exact⟨0,om,rfl,hRr⟩
   clear hRr e0 e1 e4 e5 e13 e14 e30 e31;rintro O S' ⟨t,ht,e0,e1,e4,e5,e6,e13,e14,e30,e31,e35,e36,hRr⟩;by_cases htt:t<N
   ·have hE:eJ S0 S':=hRr.ext;obtain⟨g0,u0,v0⟩:=id (hE.has hO.outer);obtain⟨g1,u1,v1⟩:=id (hE.has (hO.row t htt));obtain⟨g2,u2,v2⟩:=id (hE.has hO2.outer);obtain⟨g3,u3,v3⟩:=id (hE.has (hO2.row t htt));have x0:g0 t=.sl 2 (g t) 0 R:=v0 t htt;have x1:g1 r=.big (C t r):=v1 r hrt;have x2:g2 t=.sl 2 (gu t) 0 N:=v2 t htt;have x3:g3 j=.big (U t j):=v3 j hjt;have n1:=hC t r htt hrt;have n2:=hU t j htt hjt;simp -dsimp only[go_sem,aa,↓reduceIte,reduceCtorEq,af,decide_true,e0,e1,e4,e5,e13,e14,e30,e31,e35,e36,htt];refine bM 16 kr ?_
    simp -dsimp only[go_sem,aa,ae,↓reduceIte,reduceCtorEq,af,ab,e0,e1,e5,e6,htt,hjt,hrt,u0,x0,u1,x1,u2,x2,u3,x3];refine⟨_,(n9 n1 n2 om).pure',?_⟩;refine aH.intro fun b8 f8=>?_
    try simp -dsimp only[go_sem,aa,ae,↓reduceIte]
    refine mK (fun T=>eO 59 50 2 S0 T bc gg N R (j+1) (Bh N C U j r t)/\dl T b8 50 2 (.big (C t r*U t j))/\(∀a,a<j+1->gg a≠b8)/\bc≠b8) ?_ ?_
    ·have s8:=hE.none f8;have z1:bc≠b8:=bE.fresh hRr.outer f8;have z2:∀a,a<j+1->gg a≠b8:=fun a ha=>bE.fresh (hRr.row a ha) f8;refine⟨?_,?_,z2,z1⟩
     ·repeat' first|exact hRr|refine eO.upd ?_ (by assumption) (by assumption) (by assumption) _
     ·simp only[dl.at_hit,bJ,if_true]
    rintro T ⟨hT,hT8,hn8,hc8⟩;obtain⟨g4,u4,v4⟩:=id hT.outer;obtain⟨g5,u5,v5⟩:=id (hT.row j om);obtain⟨g6,u6,x6⟩:=id hT8;have x4:g4 j=.sl 2 (gg j) 0 R:=(v4 j hjt).trans (if_pos om);have x5:g5 r=.big (aE t (fun k=>C k r*U k j)):=(v5 r hrt).trans (by simp[Bh])
    refine bM 15 kr ?_
    simp -dsimp only[go_sem,aa,ae,↓reduceIte,reduceCtorEq,af,ab,e0,e1,e4,e5,e6,e13,e14,e30,e31,e35,e36,hjt,hrt,u4,x4,u5,x5,u6,x6,a6 (om:t<1000000),ca]
    have hs:=pR (f:=fun a=>C a r*U a j) (k:=k+k) t (fun a ha=>(hC a r om hrt).mul (hU a j om hjt));have hp:=(n1.mul n2).mono (om:k+k<=k+k+t)
    refine⟨_,(sT hs hp om).pure',trivial,⟨t+1,om,rfl,(hT.put dc (om:j<j+1) u5 r (.big (aE (t+1) (fun k=>C k r*U k j)))).congr fun a c _ _=>?_⟩,om⟩
    unfold Bh;by_cases e:a=j/\c=r
    ·obtain⟨rfl,rfl⟩:=e;simp
    ·rw[if_neg e];by_cases e2:a=j/\r<=c
     ·rw[if_pos e2,if_pos e2,if_neg (fun h=>e ⟨e2.1,h⟩),if_neg (fun h=>e ⟨e2.1,h⟩)]
     ·rw[if_neg e2,if_neg e2]
   have hNt:N=t:=om
   subst hNt;simp -dsimp only[go_sem,aa,↓reduceIte,reduceCtorEq,af,decide_false,e0,e1,e4,e5,e13,e14,e30,e31,e35,e36,cA,a6 (om:r<1000000),ca]
   refine⟨⟨r+1,om,rfl,hRr.congr fun a c _ hc=>?_⟩,om⟩
   unfold Bh;by_cases e:a=j/\r<=c
   ·by_cases e2:c=r
    ·obtain⟨rfl,_⟩:=e;subst e2;simp[jN];intro h;omega
    ·rw[if_pos e,if_neg e2,if_pos ⟨e.1,om⟩];simp[aE]
   ·rw[if_neg e,if_neg om]
  have hRr':R=r:=om
  subst hRr';simp -dsimp only[go_sem,aa,↓reduceIte,reduceCtorEq,af,decide_false,e0,e1,e4,e13,e14,e30,e31,cA,a6 (om:j<1000000),ca]
  refine⟨⟨j+1,om,rfl,gg,hRr.congr fun a c _ hc=>?_⟩,om⟩
  unfold Bh;rw[if_neg om]
 have hNj:N=j:=om
 subst hNj;obtain⟨g0,u0,v0⟩:=id (hE.has hO.outer);simp -dsimp only[go_sem,aa,↓reduceIte,reduceCtorEq,af,decide_false,az,ab,e0,e4,e13,e14,cA,u0];refine B1 (e:=59) u0 uu4 rfl rfl om (fun a ha=>by rw[v4 a ha];dsimp only;rw[if_pos ha];trivial) ?_
 simp -dsimp only[go_sem];refine⟨⟨g',bE.here fun a ha=>?_,fun a ha=>?_,hRr.inj⟩,(gI.ext hE).upd (Or.inl rfl) _⟩
 ·simp only[Nat.zero_le,true_and,ha,if_true,eG];rw[v4 a ha];dsimp only;rw[if_pos ha]
 ·exact(hRr.row a ha).upd (fun e=>by have:=hRr.rnew a ha;rw[e]at this;exact hO.some this) _
theorem Du{S:St}{b c n N:Nat}{gb gc:Nat->AV}{K:AV->St->Prop}(hb:S b=some ⟨50,2,n,gb⟩)(hc:S c=some ⟨50,2,N,gc⟩)(hne:c≠b)(hN:0<N)(hl:n+N<=1048576)(hs:∀j,j<N->dI 2 (gc j))
  (hK:∀b',(b'=b∨S b'=ac)->K (.sl 2 b' 0 (n+N)) ((S.del b).upd b' ⟨50,2,n+N,lP gb n N (fun j=>gc (0+j))⟩)):wG 59 59 (.sl 2 b 0 n) (.sl 2 c 0 N) S K:=by
 unfold wG eV;rw[show c9 59=some 50 from rfl];refine⟨rfl,rfl,?_⟩;have h2:wZ S (.sl 2 c 0 N)=some (2,N,fun j=>gc (0+j),some c):=by simp[wZ,hc]
 rw[h2];refine⟨rfl,hN,fun j hj=>by show dI 2 (gc (0+j));rw[aF];exact hs j hj,?_⟩
 simp only[hb];exact⟨trivial,trivial,trivial,trivial,trivial,hl,fun e=>hne (by cases e;rfl),hK⟩
structure rW(S0 S:St)(b:Nat)(g:Nat->Nat)(n N t:Nat)(M:aW):Prop where
 ext:eJ S0 S
 new:S0 b=ac
 outer:bE S b 59 1 N (fun a=>.sl 2 (g a) 0 (if a<t then n+N else n))
 row:∀a,a<N->gJ S (g a) (if a<t then n+N else n) (fun r=>dJ n M r a)
 rnew:∀a,a<N->S0 (g a)=ac
 inj:∀a c,a<N->c<N->g a=g c->a=c
theorem rW.upd{S0 S:St}{b:Nat}{g:Nat->Nat}{n N t:Nat}{M:aW}(h:rW S0 S b g n N t M){e:Nat}(h0:S0 e=ac)(h1:b≠e)(h2:∀a,a<N->g a≠e)(X:dH):rW S0 (S.upd e X) b g n N t M :=
 ⟨h.ext.upd h0 _,h.new,h.outer.upd h1 _,fun a ha=>(h.row a ha).upd (h2 a ha) _,h.rnew,h.inj⟩
theorem nG{S:St}{b k:Nat}(h:k≠b):S.del b k=S k:=by simp[St.del,h]
theorem rW.app{S0 S:St}{b:Nat}{g:Nat->Nat}{n N t:Nat}{M:aW}(h:rW S0 S b g n N t M)(ht:t<N){gb gc go:Nat->AV}(hb:S (g t)=some ⟨50,2,n,gb⟩)(hgc:∀j,j<N->gc j=.big (if j=t then 1 else 0)){b':Nat}(hb':b'=g t∨S b'=ac)(ho:S b=some ⟨59,1,N,go⟩) :
  rW S0 (((S.del (g t)).upd b' ⟨50,2,n+N,lP gb n N gc⟩).upd b ⟨59,1,N,bJ go t (.sl 2 b' 0 (n+N))⟩) b (fun a=>if a=t then b' else g a) n N (t+1) M:=by
 have hbg:∀a,a<N->b≠g a:=fun a ha=>bE.ne h.outer (h.row a ha) dc
 have hbb:b≠b':=by
  rcases hb' with e|e
  ·rw[e];exact hbg t ht
  ·exact bE.fresh h.outer e
 have hgb:∀a,a<N->a≠t->g a≠b':=fun a ha hat=>by
  rcases hb' with e|e
  ·rw[e];exact fun e2=>hat (h.inj a t ha ht e2)
  ·exact bE.fresh (h.row a ha) e
 have hn':S0 b'=ac:=by
  rcases hb' with e|e
  ·rw[e];exact h.rnew t ht
  ·exact h.ext.none e
 refine⟨fun k X hX=>?_,h.new,bE.here fun a ha=>?_,fun a ha=>?_,fun a ha=>?_,fun a c ha hc he=>?_⟩
 ·have k1:k≠b:=by rintro rfl;rw[h.new]at hX;cases hX
  have k2:k≠b':=by rintro rfl;rw[hn']at hX;cases hX
  have k3:k≠g t:=by rintro rfl;rw[h.rnew t ht]at hX;cases hX
  rw[aP k1,aP k2,nG k3];exact h.ext k X hX
 ·obtain⟨go',o1,o2⟩:=h.outer;rw[ho]at o1;cases o1;simp only[bJ];by_cases e:a=t
  ·simp[e]
  ·simp only[e,if_false];rw[o2 a ha];by_cases e2:a<t
   ·simp[e2,(om:a<t+1)]
   ·simp[e2,(om:¬a<t+1)]
 ·by_cases e:a=t
  ·subst e;simp only[if_true,Nat.lt_succ_self];refine bE.upd (bE.here fun r hr=>?_) (ao hbb) _;have hra:=h.row a ha;rw[if_neg (cA _)]at hra;obtain⟨gb',r1,r2⟩:=hra;rw[hb]at r1;cases r1;by_cases e2:r<n
   ·rw[Ai e2];exact r2 r e2
   ·rw[ua om om,hgc _ om];simp only[dJ,e2,if_false];congr 1;by_cases e3:r-n=a
    ·rw[if_pos e3,if_pos om]
    ·rw[if_neg e3,if_neg om]
  ·simp only[e,if_false];have e3:(if a<t+1 then n+N else n)=if a<t then n+N else n:=by
    by_cases e2:a<t
    ·rw[if_pos e2,if_pos om]
    ·rw[if_neg e2,if_neg om]
   rw[e3];have hne:g a≠g t:=fun e2=>e (h.inj a t ha ht e2);obtain⟨ga,r1,r2⟩:=h.row a ha;refine bE.upd (bE.upd ⟨ga,by rw[nG hne];exact r1,r2⟩ (hgb a ha e) _) (ao (hbg a ha)) _
 ·by_cases e:a=t
  ·simp only[e,if_true];exact hn'
  ·simp only[e,if_false];exact h.rnew a ha
 ·by_cases e:a=t
  ·by_cases e2:c=t
   ·omega
   ·rw[if_pos e,if_neg e2]at he;exact absurd he.symm (hgb c hc e2)
  ·by_cases e2:c=t
   ·rw[if_neg e,if_pos e2]at he;exact absurd he (hgb a ha e)
   ·rw[if_neg e,if_neg e2]at he;exact h.inj a c ha hc he
structure NPI(S0 S:St)(b b2 b3:Nat)(g:Nat->Nat)(n N t:Nat)(M:aW):Prop where
 pb:rW S0 S b g n N t M
 h2:bE S b2 218 1 2 (fun j=>if j=0 then .nil else .int .i64 0)
 h3:bE S b3 218 1 2 (fun j=>if j=0 then .sl 1 b 0 N else .int .i64 n)
 n2:S0 b2=ac
 n3:S0 b3=ac
theorem zM(S0:St)(n N:Nat)(M:aW)(h1:1<=n)(h2:n<=16)(h3:1<=N)(h4:N<=16) :
  cS 232 [aZ n N M] S0 (fun r S'=>∃b g,r=.agg [.sl 1 b 0 N,.int .i64 n]/\gQ S0 S' b g N (n+N) (fun j r=>dJ n M r j)):=by
 refine aD func232 rfl 38 ntmps232 kr sm (by simp[results232]) ?_
 rw[aQ,results232];have hp0:0<n:=om
 have hpz:(0:Int)<(n:Int):=om
 simp -dsimp only[go_sem,aa,ae,reduceCtorEq,ab,aZ,bn];refine aH.intro fun b2 f2=>?_
 try simp -dsimp only[go_sem]
 refine(ru n N M h1 h2 h4 _ _ (cH _ _)).mono ?_;rintro _ S1 ⟨b,g,rfl,hO,hE,hb,hg⟩;simp -dsimp only[go_sem,ak,aa,ae,↓reduceIte,reduceCtorEq,ab];refine aH.intro fun b3 f3=>?_;simp -dsimp only[go_sem,ak,ae,↓reduceIte,reduceCtorEq,ib,bG,aT,false_implies,implies_true,bI,bW];have hE0:eJ S0 S1:=((eJ.refl S0).upd f2 _).trans hE;have k2:bE S1 b2 218 1 2 (fun j=>if j=0 then .nil else .int .i64 0):=hE.has (bE.here fun _ _=>rfl)
 have hPB:rW S0 S1 b g n N 0 M:=⟨hE0,(ai hb).2,hO.outer.congr fun a _=>by simp,fun a ha=>by
  simp only[Nat.not_lt_zero,if_false];exact(hO.row a ha).congr fun r hr=>by simp[dJ,hr],fun a ha=>(ai (hg a ha)).2,hO.inj⟩
 have n32:b2≠b3:=bE.fresh k2 f3;refine aM (fun O S=>∃t:Nat,t<=N/\O 0=aZ n N M/\O 2=.ptr 1 b2 0/\O 3=.ptr 1 b3 0/\O 13=.sl 1 b 0 N/\O 14=.int .i64 N/\O 15=.int .i64 t/\∃g,NPI S0 S b b2 b3 g n N t M) (fun O S=>N-ca (O 15)) ?_ ?_
 ·simp -dsimp only[go_sem,aa,reduceCtorEq,aZ,bn];refine⟨0,om,rfl,g,?_,?_,?_,f2,hE0.none f3⟩
  ·repeat' first|exact hPB|refine rW.upd ?_ (hE0.none f3) (bE.fresh hO.outer f3) (fun a ha=>bE.fresh (hO.row a ha) f3) _
  ·exact(k2.upd n32 _).upd n32 _
  ·exact bE.here fun j hj=>by
    match j,hj with
    | 0,_=>simp[ib]
    | 1,_=>simp[ib]
 clear hE hb hg hO hPB k2 hE0 f3 f2;rintro O S ⟨t,ht,e0,e2,e3,e13,e14,e15,g,hS⟩;by_cases htt:t<N
 ·obtain⟨g1,u1,v1⟩:=id hS.pb.outer;have x1:g1 t=.sl 2 (g t) 0 n:=(v1 t htt).trans sm
  simp -dsimp only[go_sem,aa,ae,↓reduceIte,reduceCtorEq,af,decide_true,az,ab,e0,e2,e3,e13,e14,e15,htt,u1,x1,aZ,bn,hpz]
  repeat refine an ?_
  refine aH.intro fun b6 f6=>?_;simp -dsimp only[go_sem];refine(jw dc dc).call ?_
  simp -dsimp only[go_sem,aa,↓reduceIte,af,ab,htt];have n6:S0 b6=ac:=hS.pb.ext.none f6;have w6:b≠b6:=bE.fresh hS.pb.outer f6;have y6:∀a,a<N->g a≠b6:=fun a ha=>bE.fresh (hS.pb.row a ha) f6;have z2:b2≠b6:=bE.fresh hS.h2 f6;have z3:b3≠b6:=bE.fresh hS.h3 f6;refine mK (fun T=>NPI S0 T b b2 b3 g n N t M/\∃gc,T b6=some ⟨50,2,N,gc⟩/\∀j,j<N->gc j=.big (if j=t then 1 else 0)) ?_ ?_
  ·refine⟨⟨(hS.pb.upd n6 w6 y6 _).upd n6 w6 y6 _,(hS.h2.upd z2 _).upd z2 _,(hS.h3.upd z3 _).upd z3 _,hS.n2,hS.n3⟩,_,bZ,fun j hj=>?_⟩;simp only[bJ];by_cases e:j=t
   ·simp[e]
   ·simp[e]
  clear hS u1 v1 x1 f6;rintro T ⟨hS,gc,u6,hgc⟩;obtain⟨g1,u1,v1⟩:=id hS.pb.outer;have hrow:=hS.pb.row t htt;rw[if_neg (cA _)]at hrow;obtain⟨gb,ub,vb⟩:=id hrow;obtain⟨g3,u3,v3⟩:=id hS.h3;have x3:g3 0=.sl 1 b 0 N:=v3 0 om;refine eL 5 [[0,1,2],[],[]] kr ?_
  simp -dsimp only[go_sem,aa,ae,↓reduceIte,ab,e3,u3,x3];refine Du ub u6 (ao (y6 t htt)) om om (fun j hj=>by rw[hgc j hj];trivial) ?_
  intro b' hb';have p3:b3≠g t:=bE.ne hS.h3 hrow dc
  have p2:b2≠g t:=bE.ne hS.h2 hrow dc
  have p1:b≠g t:=bE.ne hS.pb.outer hrow dc
  have q3:b3≠b':=by rcases hb' with e|e;exact e▸p3;exact bE.fresh hS.h3 e
  have q2:b2≠b':=by rcases hb' with e|e;exact e▸p2;exact bE.fresh hS.h2 e
  have q1:b≠b':=by rcases hb' with e|e;exact e▸p1;exact bE.fresh hS.pb.outer e
  simp -dsimp only[go_sem,aa,ae,↓reduceIte,reduceCtorEq,af,ab,e0,e2,e3,e13,e14,e15,htt,u3,x3,u1,q1,q3,nG p3,nG p1,a6 (om:t<1000000),ca]
  refine⟨⟨t+1,om,rfl,rfl,_,hS.pb.app htt ub (gc:=fun j=>gc j) hgc hb' u1,?_,?_,hS.n2,hS.n3⟩,om⟩
  ·obtain⟨x,l1,l2⟩:=hS.h2;exact bE.upd (bE.upd ⟨x,by rw[nG p2];exact l1,l2⟩ q2 _) (bE.ne hS.h2 hS.pb.outer dc) _
  ·exact bE.upd (bE.upd ⟨g3,by rw[nG p3];exact u3,v3⟩ q3 _) (bE.ne hS.h3 hS.pb.outer dc) _
 have hNt:N=t:=om
 subst hNt;obtain⟨g3,u3,v3⟩:=id hS.h3;obtain⟨g2,u2,v2⟩:=id hS.h2;have x3:g3 0=.sl 1 b 0 N:=v3 0 om;have x4:g3 1=.int .i64 n:=v3 1 om;simp -dsimp only[go_sem,ak,aa,Nat.reduceLeDiff,ae,↓reduceIte,reduceCtorEq,af,decide_false,az,ab,e0,e2,e3,e13,e14,e15,cA,u3,x3,x4,u2,ib,dF,bG,aT,false_implies,implies_true,bI,List.getD_cons_succ,eG,bW];have y2:∀a,a<N->g a≠b2:=fun a ha=>bE.ne (hS.pb.row a ha) hS.h2 dc
 have w2:b≠b2:=bE.ne hS.pb.outer hS.h2 dc
 have hF:=hS.pb.upd (e:=b2) hS.n2 w2 y2 ⟨218,1,2,ib g2 0 [.sl 1 b 0 N,.int .i64 n]⟩;refine⟨b,rfl,g,⟨hF.outer.congr fun a ha=>by simp[ha],fun a ha=>?_,hF.inj⟩,hF.ext,hF.new,hF.rnew⟩
 have:=hF.row a ha;rw[if_pos ha]at this;exact this
end Go.Proofs.YtdobfmlmenaajaaGreatDoor
