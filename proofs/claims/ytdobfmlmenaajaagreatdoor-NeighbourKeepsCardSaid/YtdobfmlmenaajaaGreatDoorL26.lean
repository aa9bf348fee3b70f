/-
  Lemmas for NeighbourKeeps.
-/
import Derived.Test.YtdobfmlmenaajaaGreatDoorL24
namespace Go.Proofs.YtdobfmlmenaajaaGreatDoor
open Go.RowKit Tryz
open _root_.Int renaming le_of_lt→aS,emod_lt_of_pos→aU,emod_nonneg→a9,toNat_of_nonneg→eM,ediv_le_self→tu,ediv_nonneg→uY
open _root_.List renaming not_mem_nil→aG,forall_mem_cons→aO,getD_cons_zero→bG
open _root_.Nat renaming add_one_le_iff→aa,le_refl→af,zero_add→aJ,sub_self→bH,lt_irrefl→co,sub_zero→c9
open _root_.Ne renaming symm→ai
open _root_.Option renaming none→ae
open _root_.Or renaming inr→aK
set_option maxHeartbeats 6400000
set_option maxRecDepth 4096
set_option linter.all false
attribute [local go_sem] Nat.reduceAdd Nat.reduceEqDiff Nat.reduceLeDiff Nat.reduceLT reduceCtorEq Int.ofNat_lt decide_true decide_false Int.zero_le_ofNat
attribute [local go_sem ↓] reduceIte
variable{K:AV->St->Prop}{Q:AX->Tm->St->Prop}{c:Code}{p z:Int}{args:List AV}{N b b11 b7 es f n t ty:Nat}{g0 g1 gb:Nat->AV}{g g':Nat->Nat}{G:Prop}{S S' S0:St}{C C' M:aB}{P:aB->Prop}
def MFE(f:Nat)(args:List AV)(n m:Nat)(P:aB->Prop):Prop:=∀S args',dT S args' args->cL f args' S (fun r S'=>∃b g A,r=.sl 1 b 0 n/\P A/\ir S S' b g n m A)
theorem MFE.of{m:Nat}(h:cL f args St.none (fun r S'=>∃b g A,r=.sl 1 b 0 n/\P A/\dd S' b g n m A)):MFE f args n m P:=fun S args' d=>by
 have i:cL f args St.none (fun r S'=>∃b g A,r=.sl 1 b 0 n/\P A/\dd S' b g n m A/\yz S'):=h.less fun r S' ⟨b,g,A,e,c,a⟩=>⟨cZ S' b g n,fU S' b g n,b,g,A,e,c,a.only.1,a.only.2⟩;refine(i.frame d ?_).mono ?_
 ·rintro r S1 ⟨b,g,A,rfl,_,_,j⟩;exact⟨rfl,j⟩
 ·rintro r S' ⟨S1,⟨b,g,A,rfl,c,a,_⟩,k,rfl⟩;exact⟨b,g,A,rfl,c,a.join k⟩
theorem dT.two{x x' y y':AV}(h:VA S x x')(a:VA S y y'):dT S [x,y] [x',y']:=⟨h,a,trivial⟩
theorem qT(P:Tm->St->Prop)(a:(∀O S,P O S->Aw c Q O S)->G)(b:∀O S,P O S->Aw c Q O S):G:=a b
structure nR(S:St)(b b7 N:Nat)(z:Int)(C:aB):Prop where
 ex:∃g,dd S b g N N C/\∀a,a<N->g a≠b7
 var:cE S b7 50 2 (.big z)
theorem nR.ne(h:nR S b b7 N z C):b7≠b:=by
 obtain⟨g,a,_⟩:=h.ex;obtain⟨x,k,_⟩:=h.var;obtain⟨y,l,_⟩:=a.outer;rintro rfl;rw[k]at l;cases l
theorem nR.next(h:nR S b b7 N z C)(c:∀a,a<N->g a≠b7)(e:dd S' b g' N N C')(d:mw S S' b g g' N):nR S' b b7 N z C':=by
 obtain⟨x,k,_⟩:=id h.var;exact⟨⟨g',e,d.ne k c⟩,d.var h.var h.ne c⟩
theorem nR.congr(h:nR S b b7 N z C)(a:∀c r,c<N->r<N->C c r=C' c r):nR S b b7 N z C':=by
 obtain⟨g,d,e⟩:=h.ex;exact⟨⟨g,d.congr a,e⟩,h.var⟩
def Rng(N i:Nat)(z:Int)(C:aB):Prop:=∀c r,c<N->i<=r->r<N->0<=C c r/\C c r<z
def T2(S:St)(b b7 N:Nat)(L:ik->Prop)(d M:Nat->Int)(i:Nat):Prop:=∃C,nR S b b7 N (M i) C/\HI N L d M i C/\Rng N i (M i) C
def T3(S:St)(b b7 N:Nat)(L:ik->Prop)(d M:Nat->Int)(i j:Nat):Prop:=∃C,nR S b b7 N (M i) C/\HI N L d M i C/\Rng N i (M i) C/\∀k,i<k->k<j->C k i=0
theorem nR.other(h:nR S b b7 N z C){e:Nat}(c:S e=ae)(X:dH):nR (S.upd e X) b b7 N z C:=by
 obtain⟨g,d,f⟩:=h.ex;exact⟨⟨g,d.upd (aR.fresh d.outer c) (fun a i=>aR.fresh (d.row a i) c) _,f⟩,h.var.upd (h.var.fresh c) _⟩
theorem nR.upd3(h:nR S b b7 N z C){e n:Nat}{x:Nat->AV}(c:aR S e 3 1 n x)(X:dH):nR (S.upd e X) b b7 N z C:=by
 obtain⟨g,d,f⟩:=h.ex;refine⟨⟨g,d.upd (aR.ne d.outer c dc) (fun a i=>aR.ne (d.row a i) c dc) _,f⟩,h.var.upd ?_ _⟩
 obtain⟨y,k,_⟩:=h.var;obtain⟨y',l,_⟩:=c;rintro rfl;rw[k]at l;cases l
theorem C7(P:St->Prop)(a:P S)(h:∀T,P T->cL f args T K):cL f args S K:=h S a
structure pA(S:St)(b b7 b11 N:Nat)(z p:Int)(g:Nat->Nat)(C:aB):Prop where
 mat:dd S b g N N C
 h7:∀a,a<N->g a≠b7
 h11:∀a,a<N->g a≠b11
 v7:cE S b7 50 2 (.big z)
 v11:cE S b11 50 2 (.big p)
theorem cE.ext{z:AV}(h:cE S b ty es z)(a:cY S S'):cE S' b ty es z:=by
 obtain⟨x,c,d⟩:=h;exact⟨x,a _ _ c,d⟩
theorem pA.n7(h:pA S b b7 b11 N z p g C):b7≠b/\b11≠b:=by
 obtain⟨x,k,_⟩:=h.v7;obtain⟨x',k',_⟩:=h.v11;obtain⟨y,l,_⟩:=h.mat.outer;refine⟨?_,?_⟩<;>rintro rfl
 ·rw[k]at l;cases l
 ·rw[k']at l;cases l
theorem pA.repl{S1:St}(h:pA S b b7 b11 N z p g C){j c:Nat}{v:Nat->Int}(f:cY S S1)(i:S c=ae)(l:ic S1 c N v){k:Nat->AV}(m:S1 b=some ⟨59,1,N,k⟩) :
  pA (S1.upd b ⟨59,1,N,aL k j (.sl 2 c 0 N)⟩) b b7 b11 N z p (fun a=>if a=j then c else g a) (fun a r=>if a=j then v r else C a r):=by
 have n:=h.mat.ext f;refine⟨n.repl l (fun a d=>aR.fresh (h.mat.row a d) i) m,fun a d=>?_,fun a d=>?_,(h.v7.ext f).upd h.n7.1 _,(h.v11.ext f).upd h.n7.2 _⟩
 ·by_cases e:a=j
  ·simp only[e,if_true];exact ai (h.v7.fresh i)
  ·simp only[e,if_false];exact h.h7 a d
 ·by_cases e:a=j
  ·simp only[e,if_true];exact ai (h.v11.fresh i)
  ·simp only[e,if_false];exact h.h11 a d
theorem pA.set(h:pA S b b7 b11 N z p g C){i j:Nat}{q:Int}{g':Nat->AV}(a:i<N)(c:S (g i)=some ⟨50,2,N,g'⟩):pA (S.upd (g i) ⟨50,2,N,aL g' j (.big q)⟩) b b7 b11 N z p g (dK C i j q) :=
 ⟨h.mat.set a c,h.h7,h.h11,h.v7.upd (ai (h.h7 i a)) _,h.v11.upd (ai (h.h11 i a)) _⟩
theorem pA.congr(h:pA S b b7 b11 N z p g C)(a:∀c r,c<N->r<N->C c r=C' c r):pA S b b7 b11 N z p g C':=⟨h.mat.congr a,h.h7,h.h11,h.v7,h.v11⟩
def T4(S:St)(b b7 b11 N:Nat)(z p:Int)(C:aB):Prop:=∃g,pA S b b7 b11 N z p g C
theorem pA.upd(h:pA S b b7 b11 N z p g C){e:Nat}(c:b≠e)(d:∀a,a<N->g a≠e)(f:b7≠e)(i:b11≠e)(X:dH):pA (S.upd e X) b b7 b11 N z p g C :=
 ⟨h.mat.upd c d _,h.h7,h.h11,h.v7.upd f _,h.v11.upd i _⟩
theorem E8{i:Nat}{a:Int}(b:∀c r,c<N->r<N->0<=C c r/\C c r<2147483648)(j:nb p 31)(l:nb a 31)(g:i<N)(d:0<=p)(t:Nat):∀c r,c<N->r<N->nb (oc C i t p a c r) 100:=by
 intro c r e f;have h:nb (if r=i then p else a*C i r) 62:=by
  split
  ·exact j.mono om
  ·exact l.mul (jz (b i r g f))
 unfold oc;split
 ·exact h.mono om
 ·split
  ·have k:=b c i e g;have nq:nb (C c i/p) 31:=by
    have:=tu p k.1;have:=uY k.1 d;unfold nb;omega
   have:=((jz (b c r e f)).mono (om:31<=93)).sub (nq.mul h)
   exact this.mono om
  ·exact(jz (b c r e f)).mono om
theorem wD(N:Nat)(w:aB)(h1:1<=N)(hN:N<=16)(hw:∀i j,i<N->j<N->nb (w i j) 1000)(hd:det N w≠0)(hdb:(det N w).natAbs<2147483648) :
  MFE 260 [aV N N w,.big (det N w)] N N (fun H=>∃d M,TL N (gO N N w) d M/\M 0=((det N w).natAbs:Int)/\HI N (gO N N w) d M N (fun j r=>H r j)):=by
 obtain⟨d,M,Q,hM0⟩:=TL.of_det hd;generalize det N w=D at *;refine MFE.of ?_;refine ak func260 rfl 147 ntmps260 kr sm (by simp[results260]) ?_
 rw[aF,results260];have hp0:0<N:=om
 have hpz:(0:Int)<(N:Int):=om
 simp -dsimp only[go_sem,aa,aV,bA];refine au.intro fun b3 f3=>?_;refine(sS N N w h1 hN hN _ _ (cD _ _)).mono ?_;rintro _ S1 ⟨b,g,rfl,v,hE,hb,hg⟩;have hv3:cE S1 b3 50 2 (.big D):=by
  obtain⟨x,k1,k2⟩:=cE.new (S:=St.none) (b:=b3) (ty:=50) (es:=2) (g:=fun _=>AV.big D) rfl;exact⟨x,hE _ _ k1,k2⟩
 obtain⟨g3,u3,v3⟩:=id hv3;simp -dsimp only[go_sem,aa,u3];refine au.intro fun u f7=>?_;have n37:b3≠u:=hv3.fresh f7;have nb7:b≠u:=aR.fresh v.outer f7;have ng7:∀a,a<N->g a≠u:=fun a I=>aR.fresh (v.row a I) f7;have nD:nb D 32:=by unfold nb;omega
 simp -dsimp only[go_sem,aa,u3,v3,n37];refine(jp nD om).call ?_;apply qT (fun O S=>O 5=.int .i64 N/\O 6=.sl 1 b 0 N/\O 7=.ptr 2 u 0/\O 31=.int .i64 N/\O 32=.int .i64 0/\nR S b u N (M 0) (fun c r=>w r c))
 ·intro key;by_cases hneg:D<0
  ·simp -dsimp only[go_sem,aa,u3,v3,n37,show decide (D.sign<0)=true by rw[Int.sign_eq_neg_one_of_neg hneg];rfl]
   refine(rG nD om).call ?_;simp -dsimp only[go_sem,aa,v3];refine key _ _ ?_;simp -dsimp only[go_sem];refine⟨⟨g,?_,ng7⟩,?_⟩
   ·repeat' first|exact v|refine dd.upd ?_ (by assumption) (by assumption) _
   ·rw[(om:M 0=-D)]
    simp only[cE.at_hit,aL,if_true]
  ·simp -dsimp only[go_sem,aa,u3,v3,n37,show decide (D.sign<0)=false by rw[Int.sign_eq_one_of_pos om];rfl]
   refine key _ _ ?_;simp -dsimp only[go_sem];refine⟨⟨g,?_,ng7⟩,?_⟩
   ·repeat' first|exact v|refine dd.upd ?_ (by assumption) (by assumption) _
   ·rw[(om:M 0=D)]
    simp only[cE.at_hit,aL,if_true]
 clear u3 v3 hv3 n37 nb7 ng7 v hE hb hg;have hM0p:=Q.M_pos N 0 om om;have nM:∀i,i<=N->nb (M i) 31:=fun i hi=>by
  have:=Q.M_le i hi;have:=Q.M_pos N i om hi;unfold nb;omega
 rintro O S ⟨p,h,o,L,P,s⟩;refine aI (fun O S=>∃j:Nat,j<=N/\O 5=.int .i64 N/\O 6=.sl 1 b 0 N/\O 7=.ptr 2 u 0/\O 31=.int .i64 N/\O 32=.int .i64 j/\nR S b u N (M 0) (fun c r=>if c<j then w r c%M 0 else w r c)) (fun O S=>N-bT (O 32)) ?_ ?_
 ·exact⟨0,om,p,h,o,L,P,s.congr fun c r _ _=>by simp⟩
 clear p h o L P s;rintro O S ⟨j,hj,p,h,o,L,P,s⟩;by_cases f:j<N
 ·obtain⟨g7,R,U⟩:=id s.var;obtain⟨g,v,hg⟩:=s.ex;simp -dsimp only[go_sem,aa,p,h,o,L,P,f,R,U];refine(mX S b g N N j 0 _ (M 0) f om om hM0p ((nM 0 om).mono om) 1000 om (fun r W=>?_) v).mono ?_
  ·rw[if_neg om];exact hw r j W f
  rintro _ S1 ⟨J,X⟩;simp -dsimp only[go_sem,p,h,o,L,P,aM (om:j<1000000),bT]
  refine⟨⟨j+1,om,rfl,(s.next hg J X).congr fun c r _ _=>?_⟩,om⟩
  by_cases e:c=j
  ·simp[e]
  ·by_cases E:c<j
   ·simp[e,E,(om:c<j+1)]
   ·simp[e,E,(om:¬c<j+1)]
 obtain rfl:j=N:=om
 simp -dsimp only[go_sem,aa,p,h,o,L,P,f];have B:T2 S b u j (gO j j w) d M 0:=⟨_,s.congr (C':=fun c r=>w r c%M 0) fun c r Y _=>by simp[Y],HI.first Q,fun c r _ _ _=>⟨a9 _ om,aU _ hM0p⟩⟩
 refine aI (fun O S=>∃i:Nat,i<=j/\O 5=.int .i64 j/\O 6=.sl 1 b 0 j/\O 7=.ptr 2 u 0/\O 40=.int .i64 j/\O 41=.int .i64 i/\T2 S b u j (gO j j w) d M i) (fun O S=>j-bT (O 41)) ?_ ?_
 ·simp -dsimp only[go_sem,p,h,o];exact⟨0,om,rfl,B⟩
 clear p h o L P s B f hj hw;generalize hNN:j=N at *;clear hNN;rintro O S ⟨i,hi,p,h,o,l,m,B⟩;by_cases f:i<N
 ·simp -dsimp only[go_sem,p,l,m,f,aM (om:i<1000000)]
  have hMi:=Q.M_pos N i om hi;refine aI (fun O S=>∃j:Nat,i+1<=j/\j<=N/\O 5=.int .i64 N/\O 6=.sl 1 b 0 N/\O 7=.ptr 2 u 0/\O 9=.int .i64 i/\O 10=.int .i64 j/\O 40=.int .i64 N/\O 41=.int .i64 i/\T3 S b u N (gO N N w) d M i j) (fun O S=>N-bT (O 10)) ?_ ?_
  ·simp -dsimp only[go_sem,p,h,o,l,m];obtain⟨C,c1,c2,c3⟩:=B;exact⟨i+1,om,om,rfl,C,c1,c2,c3,fun k _ _=>om⟩
  clear p h o l m B;rintro O S ⟨j,hj1,hj2,p,h,o,F,e10,l,m,C,s,hH,hR,hZ⟩;have z:∀c r,c<N->r<N->0<=C c r/\C c r<2147483648:=fun c r Y W=>by
   have:=hH.rng Q hi hR Y W;omega
  obtain⟨g7,R,U⟩:=id s.var;obtain⟨g,v,hg⟩:=s.ex;by_cases K:j<N
  ·simp -dsimp only[go_sem,aa,p,h,o,F,e10,K,R,U];refine(Eg S b g N N i j C (M i) om K f om hMi (nM i hi) z v).mono ?_;rintro _ S1 ⟨g',J,X⟩;have hcl:=MC Q hH (om:i<j) K hR
   simp -dsimp only[go_sem,p,h,o,F,e10,l,m,aM (om:j<1000000),bT]
   refine⟨⟨j+1,om,om,rfl,_,s.next hg J X,hcl.1,hcl.2.1,fun k hk1 hk2=>?_⟩,om⟩
   by_cases e:k=j
   ·rw[e];exact hcl.2.2.1
   ·rw[hcl.2.2.2 k i om e];exact hZ k hk1 om
  have hNj:N=j:=om
  subst hNj;clear K hj1 hj2;simp -dsimp only[go_sem,aa,p,h,o,F,e10,co];obtain⟨g1,u1,v1⟩:=id v.outer;obtain⟨g2,u2,v2⟩:=id (v.row i f);have x1:g1 i=.sl 2 (g i) 0 N:=v1 i f;have x2:g2 i=.big (C i i):=v2 i f;have kii:=hR i i f (af _) f;have nMi:=nM i hi;have hMi2:M i<2147483648:=by have:=Q.M_le i hi;omega
  have hbz:=xT (x:=C i i) (y:=M i) om om (aK om);have b1:=IR (M i).toNat (C i i).toNat (M i).toNat (af _);have b2:=IS (M i).toNat (C i i).toNat (M i).toNat (af _);have b3:=Ei (M i).toNat (C i i).toNat (M i).toNat (af _) (aK om);have b4:=IT (M i).toNat (C i i).toNat (M i).toNat (af _) om;generalize bz (C i i).toNat (M i).toNat=D at *;rw[eM kii.1,eM (aS hMi)]at b1 b2;have nD1:nb D.1 31:=by unfold nb;omega
  have nD2:nb D.2.1 31:=by unfold nb;omega
  refine iw 16 [[11,12],[12],[]] kr ?_
  simp -dsimp only[go_sem,aa,h,o,F,u1,x1,u2,x2,R,U,f];refine⟨_,hbz.pure',?_⟩;simp -dsimp only[go_sem];refine au.intro fun A f11=>?_
  try simp -dsimp only[go_sem]
  refine au.intro fun b12 f12=>?_;have n12_11:=(ag f12).1
  try simp -dsimp only[go_sem]
  refine au.intro fun b13 f13=>?_;have n13_12:=(ag f13).1;have n13_11:=(ag (ag f13).2).1;have s12:=(ag f12).2;have s13:=(ag (ag f13).2).2;have w11:b≠A:=aR.fresh v.outer f11;have w12:b≠b12:=aR.fresh v.outer s12;have w13:b≠b13:=aR.fresh v.outer s13;have y11:∀a,a<N->g a≠A:=fun a I=>aR.fresh (v.row a I) f11;have y12:∀a,a<N->g a≠b12:=fun a I=>aR.fresh (v.row a I) s12;have y13:∀a,a<N->g a≠b13:=fun a I=>aR.fresh (v.row a I) s13;have z11:u≠A:=s.var.fresh f11;have z12:u≠b12:=s.var.fresh s12;have z13:u≠b13:=s.var.fresh s13;simp -dsimp only[go_sem,h,F,nn n12_11,nn n13_11,nn n13_12,aL];refine C7 (fun T=>pA T b u A N (M i) D.1 g C/\cE T b12 50 2 (.big D.2.1)) ?_ ?_
  ·refine⟨⟨?_,hg,y11,?_,?_⟩,?_⟩
   ·repeat' first|exact v|refine dd.upd ?_ (by assumption) (by assumption) _
   all_goals simp only[cE.at_hit,cE.at_miss,ne_eq,not_false_eq_true,aL,if_true,z11,z12,z13,ai n12_11,ai n13_11,ai n13_12]
   exact s.var
  rintro T ⟨B,hT12⟩;refine(mP N N 31 i i C D.2.1 0 f f om (fun c r Y W=>jz (z c r Y W)) nD2 (nb.zero 31) om _ _ (dT.first B.mat.vr.va)).mono ?_
  rintro _ S1 ⟨c,rfl,hI,hE,hn⟩;have J:=B.mat.ext hE;obtain⟨g4,u4,v4⟩:=id J.outer;obtain⟨g5,u5,v5⟩:=id hI;have hcg:∀a,a<N->g a≠c:=fun a I=>aR.fresh (B.mat.row a I) hn;have hcb:c≠b:=ai (aR.fresh B.mat.outer hn);simp -dsimp only[go_sem,aa,h,F,u4,f,dr];obtain⟨g6,u6,x6⟩:=id (B.v11.ext hE);have n11c:A≠c:=B.v11.fresh hn;refine aP 7 kr ?_
  simp -dsimp only[go_sem,aa,h,F,u5,u6,x6,B.n7.2,hcb,f,dr];have hV1:=B.repl (j:=i) hE hn hI u4;have hV2:=hV1.set (i:=i) (j:=i) (q:=D.1) f (g':=g5) (by simp only[if_true];rw[aH hcb];exact u5)
  simp only[if_true]at hV2;have hV3:=hV2.congr (C':=oc C i 0 D.1 D.2.1) (fun a r _ _=>by
   simp only[dK,oc,Nat.not_lt_zero,if_false];by_cases e:a=i
   ·by_cases E:r=i
    ·simp[e,E]
    ·simp[e,E]
   ·simp[e])
  have hV4:T4 ((S1.upd b { ty:=59,es:=1,n:=N,g:=aL g4 i (AV.sl 2 c 0 N) }).upd c { ty:=50,es:=2,n:=N,g:=aL g5 i (AV.big D.1) }) b u A N (M i) D.1 (oc C i 0 D.1 D.2.1):=⟨_,hV3⟩;refine aI (fun O S=>∃t:Nat,t<=i/\O 5=.int .i64 N/\O 6=.sl 1 b 0 N/\O 7=.ptr 2 u 0/\O 9=.int .i64 i/\O 11=.ptr 2 A 0/\O 40=.int .i64 N/\O 41=.int .i64 i/\O 85=.int .i64 i/\O 86=.int .i64 t/\T4 S b u A N (M i) D.1 (oc C i t D.1 D.2.1)) (fun O S=>i-bT (O 86)) ?_ ?_
  ·simp -dsimp only[go_sem,p,h,o,F,l,m];exact⟨0,om,rfl,hV4⟩
  clear hV1 hV2 hV3 hV4 u4 u5 u6 x6 n11c J hcg hcb v4 v5 hI hE hn B hT12 u1 u2 x1 x2 R U p h o F e10 l m v hg s;clear f11 f12 f13 s12 s13 w11 w12 w13 y11 y12 y13 z11 z12 z13 n12_11 n13_12 n13_11;rintro O S2 ⟨t,ht,p,h,o,F,Z,l,m,e85,e86,g',G⟩;by_cases htt:t<i
  ·obtain⟨g1,u1,v1⟩:=id G.mat.outer;have V:t<N:=om
   obtain⟨g2,u2,v2⟩:=id (G.mat.row t V);obtain⟨g6,u6,x6⟩:=id G.v11;have x1:g1 t=.sl 2 (g' t) 0 N:=v1 t V;have x2:g2 i=.big (C t i):=(v2 i f).trans (by simp[oc,(om:¬t=i)])
   have kti:=z t i V f;simp -dsimp only[go_sem,aa,o,Z,e85,e86,htt];refine iw 15 [[11,12],[12],[]] kr ?_
   simp -dsimp only[go_sem,aa,h,F,Z,u1,x1,u2,x2,u6,x6,f,V];refine⟨_,(mF (jz kti) nD1 om om (aK ((jz kti).mono om))).pure',?_⟩;simp -dsimp only[go_sem];refine au.intro fun b15 f15=>?_
   try simp -dsimp only[go_sem]
   refine au.intro fun b16 f16=>?_;have n16_15:=(ag f16).1;simp -dsimp only[go_sem,nn n16_15];refine lM (fun T=>pA T b u A N (M i) D.1 g' (oc C i t D.1 D.2.1)/\cE T b15 50 2 (.big (C t i/D.1))) ?_ ?_
   ·have s16:=(ag f16).2;have w15:b≠b15:=aR.fresh G.mat.outer f15;have w16:b≠b16:=aR.fresh G.mat.outer s16;have y15:∀a,a<N->g' a≠b15:=fun a I=>aR.fresh (G.mat.row a I) f15;have y16:∀a,a<N->g' a≠b16:=fun a I=>aR.fresh (G.mat.row a I) s16;have z1:u≠b15:=G.v7.fresh f15;have z2:u≠b16:=G.v7.fresh s16;have z3:A≠b15:=G.v11.fresh f15;have z4:A≠b16:=G.v11.fresh s16;refine⟨?_,?_⟩
    ·repeat' first|exact G|refine pA.upd ?_ (by assumption) (by assumption) (by assumption) (by assumption) _
    ·simp only[cE.at_hit,cE.at_miss,ne_eq,not_false_eq_true,aL,if_true,ai n16_15]
   rintro T ⟨B,hT15⟩;obtain⟨g7,R,U⟩:=id hT15;refine ej 8 [[0,1],[],[]] kr ?_
   simp -dsimp only[go_sem,aa,h,F,R,U];have nq:nb (C t i/D.1) 31:=by
    have:=tu D.1 kti.1;have:=uY kti.1 (aS b3.1);unfold nb;omega
   have nP:=E8 z nD1 nD2 f (aS b3.1) t;refine⟨_,(fQ dc dc).pure',_,(rG nq om).pure',?_⟩
   refine(mP N N 100 t i _ 1 (-(C t i/D.1)) V f om nP (nb.one om) (nq.neg.mono om) om _ _ (dT.first B.mat.vr.va)).mono ?_
   rintro _ S3 ⟨c,rfl,hI,hE,hn⟩;obtain⟨g8,u8,v8⟩:=id (B.mat.ext hE).outer;simp -dsimp only[go_sem,aa,p,h,o,F,Z,l,m,e85,e86,u8,V,aM (om:t<1000000),bT]
   refine⟨⟨t+1,om,rfl,_,(B.repl (j:=t) hE hn hI u8).congr fun a r _ _=>?_⟩,om⟩
   by_cases e:a=t
   ·subst e;simp only[if_true,oc,(om:¬a=i),co,Nat.lt_succ_self,if_false]
    rw[Int.one_mul,Int.neg_mul];rfl
   ·simp only[e,if_false,oc];by_cases E:a=i
    ·simp[E]
    ·by_cases e3:a<t
     ·simp[E,e3,(om:a<t+1)]
     ·simp[E,e3,(om:¬a<t+1)]
  have hti:t=i:=om
  subst hti;obtain⟨hP1,hP2⟩:=Mc Q hH f hZ b3.1 b1 b2.1 b2.2;obtain⟨g7,R,U⟩:=id G.v7;obtain⟨g8,u8,x8⟩:=id G.v11;have nP:=E8 z nD1 nD2 f (aS b3.1) t;simp -dsimp only[go_sem,aa,o,Z,e85,e86,co,R,U,u8,x8];refine(mF nMi nD1 om om (aK (nMi.mono om))).call ?_;rw[hP2];simp -dsimp only[go_sem,aa,p,o,R,U,x8];have hM1:=Q.M_pos N (t+1) om om;have hT5:nR (S2.upd u ⟨50,2,1,aL g7 0 (.big (M (t+1)))⟩) b u N (M (t+1)) (oc C t t D.1 D.2.1):=⟨⟨g',G.mat.upd (ai G.n7.1) G.h7 _,G.h7⟩,cE.set⟩;refine aI (fun O S=>∃j:Nat,j<=N/\O 5=.int .i64 N/\O 6=.sl 1 b 0 N/\O 7=.ptr 2 u 0/\O 9=.int .i64 t/\O 40=.int .i64 N/\O 41=.int .i64 t/\O 120=.int .i64 N/\O 121=.int .i64 j/\nR S b u N (M (t+1)) (fun c r=>if c<j/\t+1<=r then oc C t t D.1 D.2.1 c r%M (t+1)else oc C t t D.1 D.2.1 c r)) (fun O S=>N-bT (O 121)) ?_ ?_
  ·simp -dsimp only[go_sem,p,h,o,F,l,m];exact⟨0,om,rfl,hT5.congr fun c r _ _=>by simp⟩
  clear hT5 R U u8 x8 G p h o F Z l m e85 e86;rintro O S3 ⟨j,hj,p,h,o,F,l,m,e120,e121,s⟩;by_cases K:j<N
  ·obtain⟨g7,R,U⟩:=id s.var;obtain⟨g,v,hg⟩:=s.ex;simp -dsimp only[go_sem,aa,p,h,o,F,l,m,e120,e121,K,R,U,aM (om:t<1000000)]
   refine(mX S3 b g N N j (t+1) _ (M (t+1)) K om om hM1 ((nM (t+1) om).mono om) 100 om (fun r W=>?_) v).mono ?_
   ·rw[if_neg om];exact nP j r K W
   rintro _ S4 ⟨J,X⟩;simp -dsimp only[go_sem,p,h,o,F,l,m,e120,e121,aM (om:j<1000000),bT]
   refine⟨⟨j+1,om,rfl,(s.next hg J X).congr fun c r _ _=>?_⟩,om⟩
   by_cases E:t+1<=r
   ·by_cases e:c=j
    ·rw[if_pos ⟨e,E⟩,if_neg om,if_pos om]
    ·by_cases e3:c<j
     ·rw[if_neg om,if_pos ⟨e3,E⟩,if_pos om]
     ·rw[if_neg om,if_neg om,if_neg om]
   ·rw[if_neg om,if_neg om,if_neg om]
  have hNj:N=j:=om
  subst hNj;simp -dsimp only[go_sem,aa,p,h,o,F,l,m,e120,e121,co,aM (om:t<1000000),bT]
  refine⟨⟨t+1,om,rfl,_,s.congr (C':=fun c r=>if t+1<=r then oc C t t D.1 D.2.1 c r%M (t+1)else oc C t t D.1 D.2.1 c r) fun c r Y _=>by
   by_cases E:t+1<=r
   ·rw[if_pos ⟨Y,E⟩,if_pos E]
   ·rw[if_neg om,if_neg E],L7 Q hP1 om,fun c r _ h1 _=>?_⟩,om⟩
  dsimp only;rw[if_pos h1];exact⟨a9 _ om,aU _ hM1⟩
 ·have hNi:N=i:=om
  subst hNi;obtain⟨C,s,hH,hR⟩:=B;simp -dsimp only[go_sem,p,l,m,co]
  repeat refine an ?_
  refine au.intro fun b19 f19=>?_;simp -dsimp only[go_sem];have z:∀c r,c<N->r<N->0<=C c r/\C c r<2147483648:=fun c r Y W=>by
   have:=hH.rng Q (af _) hR Y W;omega
  refine aI (fun O S=>∃k:Nat,k<=N/\O 6=.sl 1 b 0 N/\O 19=.sl 1 b19 0 N/\O 135=.int .i64 N/\O 136=.int .i64 k/\nR S b u N (M N) C/\aR S b19 3 1 N (fun a=>.int .i64 (if a<k then(a:Int)else 0))) (fun O S=>N-bT (O 136)) ?_ ?_
  ·simp -dsimp only[go_sem,h];exact⟨0,om,rfl,s.other f19 _,aR.here fun a _=>by simp⟩
  clear p h o l m s f19;rintro O S ⟨k,hk,h,e19,e135,e136,s,hH19⟩;by_cases hkt:k<N
  ·obtain⟨g1,u1,v1⟩:=id hH19;simp -dsimp only[go_sem,aa,h,e19,e135,e136,hkt,u1,aM (om:k<1000000),bT]
   refine⟨⟨k+1,om,rfl,s.upd3 hH19 _,aR.here fun a I=>?_⟩,om⟩
   simp only[aL];by_cases e:a=k
   ·simp[e]
   ·rw[if_neg e,v1 a I];by_cases E:a<k
    ·simp[E,(om:a<k+1)]
    ·simp[E,(om:¬a<k+1)]
  have hNk:N=k:=om
  subst hNk;obtain⟨g,v,hg⟩:=s.ex;simp -dsimp only[go_sem,aa,h,e19,e135,e136,co];refine(vN N N N 31 C (fun i=>i) om om (fun i hi=>hi) (fun c r Y W=>jz (z c r Y W)) om _ _ (dT.two v.vr.va (VR.sl hH19 om (fun a I=>by rw[aJ,if_pos I];exact VR.mf rfl)).va)).mono ?_
  rintro _ S5 ⟨b',g',rfl,hN'⟩;simp -dsimp only[go_sem];exact⟨b',rfl,g',_,⟨d,M,Q,hM0,hH⟩,hN'.1⟩

def kC(N:Nat)(C U:aB):aB:=fun j r=>aq N fun a=>C a r*U a j
def BZ(N:Nat)(C U:aB)(j r t:Nat):Nat->Nat->AV:=fun a c=>.big (if a=j/\r<=c then(if c=r then aq t (fun k=>C k r*U k j)else 0)else kC N C U a c)
theorem CQ{c e ty':Nat}(a:S b=some ⟨ty,es,N,g0⟩)(d:S c=some ⟨ty',es,N,g1⟩)(f:dw t=some e)(g:es=bS e)(h:0<N)(i:∀j,j<N->dN es (g1 j))
  (k:K (.int .i64 N) (S.upd b ⟨ty,es,N,fun j=>if 0<=j/\j<0+N then g1 (0+(j-0))else g0 j⟩)):yb t (.sl es b 0 N) (.sl es c 0 N) S K:=by
 unfold yb uR;rw[f];have l:zN S (.sl es c 0 N)=some (es,N,fun j=>g1 (0+j),some c):=by simp[zN,d]
 rw[l];simp only[a];exact⟨g,trivial,trivial,om,trivial,h,fun j m=>by rw[aJ];exact i j m,k⟩
theorem Dq(S0:St)(b bu:Nat)(g gu:Nat->Nat)(N R k:Nat)(C U:aB)(h1:1<=N)(hN:N<=16)(hR:R<=100)(hC:∀a r,a<N->r<R->nb (C a r) k)(hU:∀a r,a<N->r<N->nb (U a r) k)(hk:k<=1000000)(G:dd S0 b g N R C)(H:dd S0 bu gu N N U) :
  cL 261 [.sl 1 b 0 N,.sl 1 bu 0 N] S0 (fun _ S'=>(∃g',dd S' b g' N R (kC N C U))/\ib b S0 S'):=by
 refine gL func261 rfl 75 ntmps261 kr sm ?_
 rw[aF,results261];simp -dsimp only[go_sem]
 repeat refine an ?_
 refine au.intro fun bc fc=>?_;simp -dsimp only[go_sem];refine aI (fun O S'=>∃j:Nat,j<=N/\O 0=.sl 1 b 0 N/\O 1=.sl 1 bu 0 N/\O 4=.sl 1 bc 0 N/\O 13=.int .i64 N/\O 14=.int .i64 j/\∃g',eQ 59 50 2 S0 S' bc g' N R j (fun a r=>.big (kC N C U a r))) (fun O S=>N-bT (O 14)) ?_ ?_
 ·simp -dsimp only[go_sem];exact⟨0,om,rfl,fun _=>0,eQ.init fc (fun _ _=>rfl) _ _⟩
 rintro O S' ⟨j,hj,s,v,u,i,l,g',d⟩;have x:cY S0 S':=d.ext;obtain⟨gg4,y,I⟩:=id d.outer;by_cases m:j<N
 ·obtain⟨M,A,J⟩:=id (x.has G.outer);have P:M j=.sl 2 (g j) 0 R:=J j m;simp -dsimp only[go_sem,aa,s,u,i,l,m,A,P]
  repeat refine an ?_
  refine au.intro fun bd fd=>?_;have Q:bc≠bd:=aR.fresh d.outer fd;simp -dsimp only[go_sem,m,y,Q,dr];have B:=d.push dc fd y (fun _=>.big 0)
  generalize hgg:(fun a=>if a=j then bd else g' a)=gg at B
  have hgj:gg j=bd:=by rw[<-hgg];simp
  refine aI (fun O S'=>∃r:Nat,r<=R/\O 0=.sl 1 b 0 N/\O 1=.sl 1 bu 0 N/\O 4=.sl 1 bc 0 N/\O 5=.int .i64 j/\O 13=.int .i64 N/\O 14=.int .i64 j/\O 30=.int .i64 R/\O 31=.int .i64 r/\eQ 59 50 2 S0 S' bc gg N R (j+1) (BZ N C U j r 0)) (fun O S=>R-bT (O 31)) ?_ ?_
  ·simp -dsimp only[go_sem,s,v,u,i,l];refine⟨0,om,rfl,B.congr fun a c _ _=>?_⟩
   unfold BZ;by_cases e:a=j
   ·simp[e,aq]
   ·simp[e]
  clear B d x y I A J P s v u i l;rintro O S' ⟨r,hr,s,v,u,D,i,l,n,o,d⟩;by_cases q:r<R
  ·simp -dsimp only[go_sem,s,v,u,i,l,n,o,q];refine aI (fun O S'=>∃t:Nat,t<=N/\O 0=.sl 1 b 0 N/\O 1=.sl 1 bu 0 N/\O 4=.sl 1 bc 0 N/\O 5=.int .i64 j/\O 6=.int .i64 r/\O 13=.int .i64 N/\O 14=.int .i64 j/\O 30=.int .i64 R/\O 31=.int .i64 r/\O 35=.int .i64 N/\O 36=.int .i64 t/\eQ 59 50 2 S0 S' bc gg N R (j+1) (BZ N C U j r t)) (fun O S=>N-bT (O 36)) ?_ ?_
   ·simp -dsimp only[go_sem,s,v,u,D,i,l,n,o];exact⟨0,om,rfl,d⟩
   clear d s v u D i l n o;rintro O S' ⟨t,ht,s,v,u,D,e6,i,l,n,o,E,F,d⟩;by_cases p:t<N
   ·have x:cY S0 S':=d.ext;obtain⟨M,A,J⟩:=id (x.has G.outer);obtain⟨g1,u1,v1⟩:=id (x.has (G.row t p));obtain⟨g2,u2,v2⟩:=id (x.has H.outer);obtain⟨g3,u3,v3⟩:=id (x.has (H.row t p));have P:M t=.sl 2 (g t) 0 R:=J t p;have x1:g1 r=.big (C t r):=v1 r q;have x2:g2 t=.sl 2 (gu t) 0 N:=v2 t p;have x3:g3 j=.big (U t j):=v3 j m;have n1:=hC t r p q;have n2:=hU t j p m;simp -dsimp only[go_sem,s,v,u,D,i,l,n,o,E,F,p];refine aP 16 kr ?_
    simp -dsimp only[go_sem,aa,s,v,D,e6,p,m,q,A,P,u1,x1,u2,x2,u3,x3];refine⟨_,(fV n1 n2 om).pure',?_⟩;refine au.intro fun K V=>?_
    try simp -dsimp only[go_sem]
    refine lM (fun T=>eQ 59 50 2 S0 T bc gg N R (j+1) (BZ N C U j r t)/\cE T K 50 2 (.big (C t r*U t j))/\(∀a,a<j+1->gg a≠K)/\bc≠K) ?_ ?_
    ·have s8:=x.none V;have z1:bc≠K:=aR.fresh d.outer V;have z2:∀a,a<j+1->gg a≠K:=fun a w=>aR.fresh (d.row a w) V;refine⟨?_,?_,z2,z1⟩
     ·repeat' first|exact d|refine eQ.upd ?_ (by assumption) (by assumption) (by assumption) _
     ·simp only[cE.at_hit,aL,if_true]
    rintro T ⟨W,X,hn8,hc8⟩;obtain⟨g4,u4,I⟩:=id W.outer;obtain⟨g5,u5,v5⟩:=id (W.row j om);obtain⟨g6,u6,x6⟩:=id X;have x4:g4 j=.sl 2 (gg j) 0 R:=(I j m).trans (if_pos om);have x5:g5 r=.big (aq t (fun k=>C k r*U k j)):=(v5 r q).trans (by simp[BZ])
    refine aP 15 kr ?_
    simp -dsimp only[go_sem,aa,s,v,u,D,e6,i,l,n,o,E,F,m,q,u4,x4,u5,x5,u6,x6,aM (om:t<1000000),bT]
    have hs:=qL (f:=fun a=>C a r*U a j) (k:=k+k) t (fun a w=>(hC a r om q).mul (hU a j om m));have hp:=(n1.mul n2).mono (om:k+k<=k+k+t)
    refine⟨_,(lC hs hp om).pure',trivial,⟨t+1,om,rfl,(W.put dc (om:j<j+1) u5 r (.big (aq (t+1) (fun k=>C k r*U k j)))).congr fun a c _ _=>?_⟩,om⟩
    unfold BZ;by_cases e:a=j/\c=r
    ·obtain⟨rfl,rfl⟩:=e;simp
    ·rw[if_neg e];by_cases z:a=j/\r<=c
     ·rw[if_pos z,if_pos z,if_neg (fun h=>e ⟨z.1,h⟩),if_neg (fun h=>e ⟨z.1,h⟩)]
     ·rw[if_neg z,if_neg z]
   have Y:N=t:=om
   subst Y;simp -dsimp only[go_sem,s,v,u,D,i,l,n,o,E,F,co,aM (om:r<1000000),bT]
   refine⟨⟨r+1,om,rfl,d.congr fun a c _ hc=>?_⟩,om⟩
   unfold BZ;by_cases e:a=j/\r<=c
   ·by_cases z:c=r
    ·obtain⟨rfl,_⟩:=e;subst z;simp[kC];intro h;omega
    ·rw[if_pos e,if_neg z,if_pos ⟨e.1,om⟩];simp[aq]
   ·rw[if_neg e,if_neg om]
  have L:R=r:=om
  subst L;simp -dsimp only[go_sem,s,v,u,i,l,n,o,co,aM (om:j<1000000),bT]
  refine⟨⟨j+1,om,rfl,gg,d.congr fun a c _ hc=>?_⟩,om⟩
  unfold BZ;rw[if_neg om]
 have Z:N=j:=om
 subst Z;obtain⟨M,A,J⟩:=id (x.has G.outer);simp -dsimp only[go_sem,aa,s,u,i,l,co,A];refine CQ (e:=59) A y rfl rfl om (fun a w=>by rw[I a w];dsimp only;rw[if_pos w];trivial) ?_
 simp -dsimp only[go_sem];refine⟨⟨g',aR.here fun a w=>?_,fun a w=>?_,d.inj⟩,(ib.ext x).upd (Or.inl rfl) _⟩
 ·simp only[Nat.zero_le,true_and,w,if_true,c9];rw[I a w];dsimp only;rw[if_pos w]
 ·exact(d.row a w).upd (fun e=>by have:=d.rnew a w;rw[e]at this;exact G.some this) _

theorem En{c:Nat}{gc:Nat->AV}(d:S b=some ⟨50,2,n,gb⟩)(f:S c=some ⟨50,2,N,gc⟩)(a:c≠b)(g:0<N)(h:n+N<=1048576)(i:∀j,j<N->dN 2 (gc j))
  (k:∀b',(b'=b∨S b'=ae)->K (.sl 2 b' 0 (n+N)) ((S.del b).upd b' ⟨50,2,n+N,oB gb n N (fun j=>gc (0+j))⟩)):yf 59 59 (.sl 2 b 0 n) (.sl 2 c 0 N) S K:=by
 unfold yf fZ;rw[show dw 59=some 50 from rfl];refine⟨rfl,rfl,?_⟩;have l:zN S (.sl 2 c 0 N)=some (2,N,fun j=>gc (0+j),some c):=by simp[zN,f]
 rw[l];refine⟨rfl,g,fun j m=>by show dN 2 (gc (0+j));rw[aJ];exact i j m,?_⟩
 simp only[d];exact⟨trivial,trivial,trivial,trivial,trivial,h,fun e=>a (by cases e;rfl),k⟩
structure th(S0 S:St)(b:Nat)(g:Nat->Nat)(n N t:Nat)(M:aB):Prop where
 ext:cY S0 S
 new:S0 b=ae
 outer:aR S b 59 1 N (fun a=>.sl 2 (g a) 0 (if a<t then n+N else n))
 row:∀a,a<N->ic S (g a) (if a<t then n+N else n) (fun r=>eg n M r a)
 rnew:∀a,a<N->S0 (g a)=ae
 inj:∀a c,a<N->c<N->g a=g c->a=c
theorem th.upd(h:th S0 S b g n N t M){e:Nat}(d:S0 e=ae)(f:b≠e)(i:∀a,a<N->g a≠e)(X:dH):th S0 (S.upd e X) b g n N t M :=
 ⟨h.ext.upd d _,h.new,h.outer.upd f _,fun a c=>(h.row a c).upd (i a c) _,h.rnew,h.inj⟩
theorem oo{k:Nat}(h:k≠b):S.del b k=S k:=by simp[St.del,h]
theorem th.app(h:th S0 S b g n N t M)(p:t<N){gb gc go:Nat->AV}(E:S (g t)=some ⟨50,2,n,gb⟩)(x:∀j,j<N->gc j=.big (if j=t then 1 else 0)){b':Nat}(i:b'=g t∨S b'=ae)(F:S b=some ⟨59,1,N,go⟩) :
  th S0 (((S.del (g t)).upd b' ⟨50,2,n+N,oB gb n N gc⟩).upd b ⟨59,1,N,aL go t (.sl 2 b' 0 (n+N))⟩) b (fun a=>if a=t then b' else g a) n N (t+1) M:=by
 have q:∀a,a<N->b≠g a:=fun a f=>aR.ne h.outer (h.row a f) dc
 have y:b≠b':=by
  rcases i with e|e
  ·rw[e];exact q t p
  ·exact aR.fresh h.outer e
 have l:∀a,a<N->a≠t->g a≠b':=fun a f z=>by
  rcases i with e|e
  ·rw[e];exact fun d=>z (h.inj a t f p d)
  ·exact aR.fresh (h.row a f) e
 have s:S0 b'=ae:=by
  rcases i with e|e
  ·rw[e];exact h.rnew t p
  ·exact h.ext.none e
 refine⟨fun k X m=>?_,h.new,aR.here fun a f=>?_,fun a f=>?_,fun a f=>?_,fun a c f C o=>?_⟩
 ·have G:k≠b:=by rintro rfl;rw[h.new]at m;cases m
  have H:k≠b':=by rintro rfl;rw[s]at m;cases m
  have I:k≠g t:=by rintro rfl;rw[h.rnew t p]at m;cases m
  rw[aH G,aH H,oo I];exact h.ext k X m
 ·obtain⟨go',D,J⟩:=h.outer;rw[F]at D;cases D;simp only[aL];by_cases e:a=t
  ·simp[e]
  ·simp only[e,if_false];rw[J a f];by_cases d:a<t
   ·simp[d,(om:a<t+1)]
   ·simp[d,(om:¬a<t+1)]
 ·by_cases e:a=t
  ·subst e;simp only[if_true,Nat.lt_succ_self];refine aR.upd (aR.here fun r K=>?_) (ai y) _;have u:=h.row a f;rw[if_neg (co _)]at u;obtain⟨gb',v,A⟩:=u;rw[E]at v;cases v;by_cases d:r<n
   ·rw[Bs d];exact A r d
   ·rw[vX om om,x _ om];simp only[eg,d,if_false];congr 1;by_cases w:r-n=a
    ·rw[if_pos w,if_pos om]
    ·rw[if_neg w,if_neg om]
  ·simp only[e,if_false];have w:(if a<t+1 then n+N else n)=if a<t then n+N else n:=by
    by_cases d:a<t
    ·rw[if_pos d,if_pos om]
    ·rw[if_neg d,if_neg om]
   rw[w];have B:g a≠g t:=fun d=>e (h.inj a t f p d);obtain⟨ga,v,A⟩:=h.row a f;refine aR.upd (aR.upd ⟨ga,by rw[oo B];exact v,A⟩ (l a f e) _) (ai (q a f)) _
 ·by_cases e:a=t
  ·simp only[e,if_true];exact s
  ·simp only[e,if_false];exact h.rnew a f
 ·by_cases e:a=t
  ·by_cases d:c=t
   ·omega
   ·rw[if_pos e,if_neg d]at o;exact absurd o.symm (l c C d)
  ·by_cases d:c=t
   ·rw[if_neg e,if_pos d]at o;exact absurd o (l a f e)
   ·rw[if_neg e,if_neg d]at o;exact h.inj a c f C o
structure NPI(S0 S:St)(b b2 b3:Nat)(g:Nat->Nat)(n N t:Nat)(M:aB):Prop where
 pb:th S0 S b g n N t M
 h2:aR S b2 218 1 2 (fun j=>if j=0 then .nil else .int .i64 0)
 h3:aR S b3 218 1 2 (fun j=>if j=0 then .sl 1 b 0 N else .int .i64 n)
 n2:S0 b2=ae
 n3:S0 b3=ae
theorem AJ(S0:St)(n N:Nat)(M:aB)(h1:1<=n)(h2:n<=16)(h3:1<=N)(h4:N<=16) :
  cL 232 [aV n N M] S0 (fun r S'=>∃b g,r=.agg [.sl 1 b 0 N,.int .i64 n]/\ir S0 S' b g N (n+N) (fun j r=>eg n M r j)):=by
 refine ak func232 rfl 38 ntmps232 kr sm (by simp[results232]) ?_
 rw[aF,results232];have hp0:0<n:=om
 have J:(0:Int)<(n:Int):=om
 simp -dsimp only[go_sem,aa,aV,bA];refine au.intro fun i K=>?_
 try simp -dsimp only[go_sem]
 refine(sS n N M h1 h2 h4 _ _ (cD _ _)).mono ?_;rintro _ S1 ⟨b,g,rfl,s,L,Y,Z⟩;simp -dsimp only[go_sem,aa];refine au.intro fun m u=>?_;simp -dsimp only[go_sem,eJ,aO,aG,false_implies,implies_true,bG,bH];have k:cY S0 S1:=((cY.refl S0).upd K _).trans L;have P:aR S1 i 218 1 2 (fun j=>if j=0 then .nil else .int .i64 0):=L.has (aR.here fun _ _=>rfl)
 have z:th S0 S1 b g n N 0 M:=⟨k,(ag Y).2,s.outer.congr fun a _=>by simp,fun a h=>by
  simp only[Nat.not_lt_zero,if_false];exact(s.row a h).congr fun r hr=>by simp[eg,hr],fun a h=>(ag (Z a h)).2,s.inj⟩
 have A:i≠m:=aR.fresh P u;refine aI (fun O S=>∃t:Nat,t<=N/\O 0=aV n N M/\O 2=.ptr 1 i 0/\O 3=.ptr 1 m 0/\O 13=.sl 1 b 0 N/\O 14=.int .i64 N/\O 15=.int .i64 t/\∃g,NPI S0 S b i m g n N t M) (fun O S=>N-bT (O 15)) ?_ ?_
 ·simp -dsimp only[go_sem,aV,bA];refine⟨0,om,rfl,g,?_,?_,?_,K,k.none u⟩
  ·repeat' first|exact z|refine th.upd ?_ (k.none u) (aR.fresh s.outer u) (fun a h=>aR.fresh (s.row a h) u) _
  ·exact(P.upd A _).upd A _
  ·exact aR.here fun j G=>by
    match j,G with
    | 0,_=>simp[eJ]
    | 1,_=>simp[eJ]
 clear L Y Z s z P k u K;rintro O S ⟨t,ht,Q,R,H,o,p,q,g,c⟩;by_cases f:t<N
 ·obtain⟨g1,B,U⟩:=id c.pb.outer;have x1:g1 t=.sl 2 (g t) 0 n:=(U t f).trans sm
  simp -dsimp only[go_sem,aa,Q,R,H,o,p,q,f,B,x1,aV,bA,J]
  repeat refine an ?_
  refine au.intro fun v w=>?_;simp -dsimp only[go_sem];refine(fQ dc dc).call ?_
  simp -dsimp only[go_sem,aa,f];have n6:S0 v=ae:=c.pb.ext.none w;have w6:b≠v:=aR.fresh c.pb.outer w;have V:∀a,a<N->g a≠v:=fun a h=>aR.fresh (c.pb.row a h) w;have z2:i≠v:=aR.fresh c.h2 w;have z3:m≠v:=aR.fresh c.h3 w;refine lM (fun T=>NPI S0 T b i m g n N t M/\∃gc,T v=some ⟨50,2,N,gc⟩/\∀j,j<N->gc j=.big (if j=t then 1 else 0)) ?_ ?_
  ·refine⟨⟨(c.pb.upd n6 w6 V _).upd n6 w6 V _,(c.h2.upd z2 _).upd z2 _,(c.h3.upd z3 _).upd z3 _,c.n2,c.n3⟩,_,bR,fun j G=>?_⟩;simp only[aL];by_cases e:j=t
   ·simp[e]
   ·simp[e]
  clear c B U x1 w;rintro T ⟨c,gc,u6,C⟩;obtain⟨g1,B,U⟩:=id c.pb.outer;have d:=c.pb.row t f;rw[if_neg (co _)]at d;obtain⟨gb,ub,vb⟩:=id d;obtain⟨D,E,F⟩:=id c.h3;have I:D 0=.sl 1 b 0 N:=F 0 om;refine ej 5 [[0,1,2],[],[]] kr ?_
  simp -dsimp only[go_sem,aa,H,E,I];refine En ub u6 (ai (V t f)) om om (fun j G=>by rw[C j G];trivial) ?_
  intro b' l;have W:m≠g t:=aR.ne c.h3 d dc
  have p2:i≠g t:=aR.ne c.h2 d dc
  have p1:b≠g t:=aR.ne c.pb.outer d dc
  have q3:m≠b':=by rcases l with e|e;exact e▸W;exact aR.fresh c.h3 e
  have q2:i≠b':=by rcases l with e|e;exact e▸p2;exact aR.fresh c.h2 e
  have q1:b≠b':=by rcases l with e|e;exact e▸p1;exact aR.fresh c.pb.outer e
  simp -dsimp only[go_sem,aa,Q,R,H,o,p,q,f,E,I,B,q1,q3,oo W,oo p1,aM (om:t<1000000),bT]
  refine⟨⟨t+1,om,rfl,rfl,_,c.pb.app f ub (gc:=fun j=>gc j) C l B,?_,?_,c.n2,c.n3⟩,om⟩
  ·obtain⟨x,l1,l2⟩:=c.h2;exact aR.upd (aR.upd ⟨x,by rw[oo p2];exact l1,l2⟩ q2 _) (aR.ne c.h2 c.pb.outer dc) _
  ·exact aR.upd (aR.upd ⟨D,by rw[oo W];exact E,F⟩ q3 _) (aR.ne c.h3 c.pb.outer dc) _
 have X:N=t:=om
 subst X;obtain⟨D,E,F⟩:=id c.h3;obtain⟨g2,u2,v2⟩:=id c.h2;have I:D 0=.sl 1 b 0 N:=F 0 om;have x4:D 1=.int .i64 n:=F 1 om;simp -dsimp only[go_sem,aa,Q,R,H,o,p,q,co,E,I,x4,u2,eJ,dD,aO,aG,false_implies,implies_true,bG,List.getD_cons_succ,c9,bH];have y2:∀a,a<N->g a≠i:=fun a h=>aR.ne (c.pb.row a h) c.h2 dc
 have w2:b≠i:=aR.ne c.pb.outer c.h2 dc
 have y:=c.pb.upd (e:=i) c.n2 w2 y2 ⟨218,1,2,eJ g2 0 [.sl 1 b 0 N,.int .i64 n]⟩;refine⟨b,rfl,g,⟨y.outer.congr fun a h=>by simp[h],fun a h=>?_,y.inj⟩,y.ext,y.new,y.rnew⟩
 have:=y.row a h;rw[if_pos h]at this;exact this

end Go.Proofs.YtdobfmlmenaajaaGreatDoor
