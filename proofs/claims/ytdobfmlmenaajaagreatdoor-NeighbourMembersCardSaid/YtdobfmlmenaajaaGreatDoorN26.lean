/-
  Lemmas for NeighbourMembers.
-/
import Derived.Test.YtdobfmlmenaajaaGreatDoorN25
namespace Go.Proofs.YtdobfmlmenaajaaGreatDoor
open Go.RowKit
open _root_.Int renaming ofNat_lt→af,zero_le_ofNat→ay,tmod_eq_emod_of_nonneg→aL,emod_lt_of_pos→aM,emod_nonneg→aT,le_of_lt→cA,dvd_of_emod_eq_zero→cF,mul_le_mul→cH,tmod→dW,emod_eq_of_lt→d9,mul_assoc→gL,tdiv_eq_ediv_of_nonneg→gW,tdiv→gX,mul_ediv_add_emod→sY
open _root_.Nat renaming reduceEqDiff→aa,add_one_le_iff→ab,reduceLT→ae,reduceAdd→aj
open _root_.Ne renaming symm→ak
open _root_.Option renaming none→ac
open _root_.Or renaming inr→bD,inl→bH
set_option maxHeartbeats 6400000
set_option maxRecDepth 4096
set_option linter.all false
theorem GD{n:Nat}{R:aU}{m q:Int}{c i:Nat}(hc:c<n)(hi:i<n)(hne:c≠i)(h:¬m∣det n R):¬m∣det n (fun a j=>setRow R c (fun j=>(R c j-q*R i j)%m) (dB i c a) j):=by
 have h1:=yq (setRow R c (fun j=>(R c j-q*R i j)%m)) hi hc (ak hne);have h2:=lh R hc hi hne 1 (-q);have h3:=qI (h:=m) n (setRow R c (fun j=>(R c j-q*R i j)%m)) (setRow R c (fun j=>1*R c j+(-q)*R i j)) (fun a b=>by
  simp only[setRow];split
  ·rw[show(R c b-q*R i b)%m-(1*R c b+-q*R i b)=(R c b-q*R i b)%m-(R c b-q*R i b) by grind]
   have:=sY (R c b-q*R i b) m;exact⟨-((R c b-q*R i b)/m),by grind⟩
  ·simp)
 rw[h2,Int.one_mul]at h3;intro h4;have h5:m∣- det n (setRow R c (fun j=>(R c j-q*R i j)%m)):=by rw[<-h1];exact h4
 have h6:=(Int.dvd_neg).1 h5;have h7:=Int.dvd_sub h6 h3;rw[show ∀x y:Int,x-(x-y)=y from fun x y=>by omega]at h7
 exact h h7
theorem AZ:∀(n:Nat) (A:aU),(∀i j,j<i->i<n->A i j=0)->∀i,i<n->A i i∣det n A
 | 0,_,_,i,hi=>by omega
 | n+1,A,h,i,hi=>by
  rw[rS A (fun a ha=>h (a+1) 0 om om)]
  cases i with
  | zero=>exact Int.dvd_mul_right _ _
  | succ i=>exact Int.dvd_mul_of_dvd_right (AZ n (fun i j=>A (i+1) (j+1)) (fun a b h1 h2=>h _ _ om om) i om)
theorem dD.swap{S:St}{b:Nat}{g:Nat->Nat}{n m:Nat}{A:Nat->Nat->Int}(h:dD S b g n m A){p k:Nat}(hp:p<n)(hk:k<n)(hpk:p≠k){g1:Nat->AV}(hS:S b=some ⟨29,1,n,g1⟩) :
  dD (S.upd b ⟨29,1,n,bK (bK g1 p (.sl 1 (g k) 0 m)) k (.sl 1 (g p) 0 m)⟩) b (fun i=>g (dB k p i)) n m (fun i j=>A (dB k p i) j):=by
 obtain⟨g',h1,h2⟩:=h.outer;rw[hS]at h1;cases h1;have hs:∀i,i<n->dB k p i<n:=fun i hi=>by unfold dB;split<;>(try split)<;>omega
 refine⟨bB.here fun i hi=>?_,fun i hi=>(h.row _ (hs i hi)).upd (fun e=>?_) _,fun i j hi hj e=>?_⟩
 ·have:=h2 i hi;simp only[bK,dB];by_cases e1:i=k
  ·subst e1;simp
  ·by_cases e2:i=p
   ·subst e2;simp[e1]
   ·simp[e1,e2,this]
 ·exact bB.ne (bB.of hS) (h.row _ (hs i hi)) om e.symm
 ·have h3:=h.inj _ _ (hs i hi) (hs j hj) e;unfold dB at h3
  grind
structure Jx(n b bm:Nat)(m:Int)(S:St)(g:Nat->Nat)(R:aU):Prop where
 mat:dD S b g n n R
 rng:∀i j,i<n->j<n->0<=R i j/\R i j<m
 ndet:¬m∣det n R
 var:dc S bm 2 1 (.int .i64 m)
 ne:b≠bm
 gne:∀a,a<n->g a≠bm
def JG(n c:Nat)(R:aU):Prop:=∀a d,d<c->d<a->a<n->R a d=0
def cellN(S:St)(b i c:Nat):Nat:=match S b with
 | some X=>(match X.g i with
  | .sl _ b' _ _=>(match S b' with
   | some Y=>(match Y.g c with
    | .int _ z=>z.toNat
    | _=>0)
   | ac=>0)
  | _=>0)
 | ac=>0
theorem dD.cellN{S:St}{b:Nat}{g:Nat->Nat}{n m:Nat}{A:aU}(h:dD S b g n m A){i c:Nat}(hi:i<n)(hc:c<m):cellN S b i c=(A i c).toNat:=by
 obtain⟨g1,u1,v1⟩:=h.outer;obtain⟨g2,u2,v2⟩:=h.row i hi;have x1:=v1 i hi;have x2:=v2 c hc;simp only at x1 x2;simp[YtdobfmlmenaajaaGreatDoor.cellN,u1,x1,u2,x2]
theorem sR(n b:Nat)(g:Nat->Nat)(R:aU)(m:Int)(S:St)(hn:n<=16)(hm:1<=m)(hm2:m<=1000000)(hM:dD S b g n n R)(hr:∀i j,i<n->j<n->0<=R i j/\R i j<m)(hd:¬m∣det n R) :
  cM 227 [.sl 1 b 0 n,.int .i64 m] S (fun r S'=>∃(s:Int) (g':Nat->Nat) (R':aU),r=.int .i64 s/\(s=1∨s=-1)/\dD S' b g' n n R'/\(∀i j,i<n->j<n->0<=R' i j/\R' i j<m)/\(¬m∣det n R')/\JG n n R'):=by
 refine aA Tryz.func227 rfl 75 Tryz.ntmps227 (by kernel_rfl) (by simp) (by simp[Tryz.results227]) ?_
 rw[aS,Tryz.results227];simp -dsimp only[go_sem,aj,aa,ae,reduceCtorEq,ab]
 repeat refine an ?_
 refine(kR m S).mono ?_;rintro _ S1 ⟨bm,hbm,rfl,hE,hV⟩;simp -dsimp only[go_sem,aa,reduceCtorEq]
 repeat refine an ?_
 refine aI (fun O S'=>∃c:Nat,c<=n/\O 0=.sl 1 b 0 n/\O 5=.fn 257 [.ptr 1 bm 0]/\O 12=.int .i64 n/\O 13=.int .i64 c/\∃(s:Int) (g':Nat->Nat) (R':aU),O 6=.int .i64 s/\(s=1∨s=-1)/\Jx n b bm m S' g' R'/\JG n c R') (fun O S=>n-bY (O 13)) ?_ ?_
 ·simp -dsimp only[go_sem,aa,reduceCtorEq];exact⟨0,by omega,rfl,1,rfl,bH rfl,g,R,⟨hM.ext hE,hr,hd,hV,bB.fresh hM.outer hbm,fun a ha=>bB.fresh (hM.row a ha) hbm⟩,fun a d h=>by omega⟩
 ·rintro O S' ⟨c,hc,e0,e5,e12,e13,s,g',R',e6,hs,hT,hZ⟩;by_cases hlt:c<n
  ·simp -dsimp only[go_sem,aa,↓reduceIte,af,decide_true,e6,e12,e13,hlt,aW (show c<1000000 by omega)]
   repeat refine an ?_
   refine aI (fun O S'=>∃i:Nat,i<=n/\O 0=.sl 1 b 0 n/\O 5=.fn 257 [.ptr 1 bm 0]/\O 7=.int .i64 c/\O 8=.int .i64 i/\O 12=.int .i64 n/\O 13=.int .i64 c/\∃(s:Int) (g':Nat->Nat) (R':aU),O 6=.int .i64 s/\(s=1∨s=-1)/\Jx n b bm m S' g' R'/\JG n c R'/\c<i/\∀a,c<a->a<i->R' a c=0) (fun O S=>n-bY (O 8)) ?_ ?_
   ·simp -dsimp only[go_sem,aa,reduceCtorEq,e0,e5,e6,e12,e13];exact⟨c+1,by omega,rfl,s,rfl,hs,g',R',hT,hZ,by omega,fun a h1 h2=>by omega⟩
   ·clear e0 e5 e6 e12 e13 hs hT hZ;rintro O S' ⟨i,hi,e0,e5,e7,e8,e12,e13,s,g',R',e6,hs,hT,hZ,hci,hz⟩;by_cases hit:i<n
    ·simp -dsimp only[go_sem,aa,↓reduceIte,reduceCtorEq,af,decide_true,e0,e5,e6,e8,e12,e13,hit]
     repeat refine an ?_
     refine aI (fun O S'=>O 0=.sl 1 b 0 n/\O 5=.fn 257 [.ptr 1 bm 0]/\O 7=.int .i64 c/\O 8=.int .i64 i/\O 12=.int .i64 n/\O 13=.int .i64 c/\∃(s:Int) (g':Nat->Nat) (R':aU),O 6=.int .i64 s/\(s=1∨s=-1)/\Jx n b bm m S' g' R'/\JG n c R'/\c<i/\∀a,c<a->a<i->R' a c=0) (fun O S=>cellN S b i c) ?_ ?_
     ·simp -dsimp only[go_sem,aa,reduceCtorEq,e0,e5,e6,e7,e8,e12,e13];exact⟨s,rfl,hs,g',R',hT,hZ,hci,hz⟩
     ·clear e0 e5 e6 e7 e8 e12 e13 hs hT hZ hz;rintro O S' ⟨e0,e5,e7,e8,e12,e13,s,g',R',e6,hs,hT,hZ,_,hz⟩;obtain⟨g1,u1,v1⟩:=id hT.mat.outer;obtain⟨g2,u2,v2⟩:=id (hT.mat.row i hit);obtain⟨g3,u3,v3⟩:=id (hT.mat.row c hlt);have x1:g1 i=.sl 1 (g' i) 0 n:=v1 i hit;have y1:g1 c=.sl 1 (g' c) 0 n:=v1 c hlt;have x2:g2 c=.int .i64 (R' i c):=v2 c hlt;have x3:g3 c=.int .i64 (R' c c):=v3 c hlt;have r1:=hT.rng i c hit hlt;have r2:=hT.rng c c hlt hlt;by_cases h0:R' i c=0
      ·simp -dsimp only[go_sem,aa,↓reduceIte,reduceCtorEq,af,ab,e0,e5,e6,e7,e8,e12,e13,hit,hlt,u1,u2,x1,x2,h0,show((0:Int) != 0)=false by simp,aW (show i<1000000 by omega),bY]
       repeat refine an ?_
       refine⟨⟨i+1,by omega,rfl,s,rfl,hs,g',R',hT,hZ,by omega,fun a h1 h2=>?_⟩,by omega⟩
       by_cases e:a=i
       ·rw[e];exact h0
       ·exact hz a h1 om
      ·have hq0:=Int.tdiv_nonneg r2.1 r1.1;have hq1:gX (R' c c) (R' i c)<=R' c c:=by
        rw[gW r2.1];exact Int.ediv_le_self _ r2.1
       have w1:IntKind.i64.wrap (gX (R' c c) (R' i c))=gX (R' c c) (R' i c):=i64_in om om;generalize hq:gX (R' c c) (R' i c)=q at *;simp -dsimp only[go_sem,aa,↓reduceIte,reduceCtorEq,af,ab,e0,e5,e6,e7,e8,e12,e13,hit,hlt,u1,u2,x1,x2,show(R' i c != 0)=true by simp[h0]]
       repeat refine an ?_
       refine bG 24 (by kernel_rfl) ?_
       simp -dsimp only[go_sem,aa,ae,↓reduceIte,reduceCtorEq,af,ab,e0,e5,e7,e8,hit,hlt,u1,u2,u3,x1,y1,x2,x3,h0,hq,w1]
       repeat refine an ?_
       have hgne:g' i≠g' c:=fun e=>absurd (hT.mat.inj i c hit hlt e) om;refine(uT n (g' c) (g' i) bm (R' c) (R' i) q m S' hn hm hm2 om (fun j hj=>hT.rng c j hlt hj) (fun j hj=>hT.rng i j hit hj) hgne (ak (hT.gne c hlt)) (hT.mat.row c hlt) (hT.mat.row i hit) hT.var).mono ?_;rintro _ S2 ⟨hC,hH⟩;have hbc:b≠g' c:=hT.mat.outer_ne hlt;have u1':S2 b=some ⟨29,1,n,g1⟩:=(hC b hbc).trans u1;have hM2:dD S2 b g' n n (setRow R' c (fun j=>(R' c j-q*R' i j)%m)):=by
        refine⟨hC.has hbc hT.mat.outer,fun a ha=>?_,hT.mat.inj⟩;by_cases e:a=c
        ·subst e;exact hH.congr fun j _=>by simp[setRow]
        ·refine(hC.has (fun e2=>e (hT.mat.inj a c ha hlt e2)) (hT.mat.row a ha)).congr fun j _=>by simp[setRow,e]
       have hM3:=hM2.swap hlt hit om u1';simp -dsimp only[go_sem]
       repeat refine an ?_
       refine gR 13 (by kernel_rfl) ?_
       have ws:IntKind.i64.wrap (0-s)=-s:=by rw[Int.zero_sub];exact i64_in om om
       have hci':c≠i:=by omega
       simp -dsimp only[go_sem,aa,↓reduceIte,reduceCtorEq,af,ab,e0,e5,e6,e7,e8,e12,e13,hit,hlt,u1',x1,y1,ws]
       repeat refine an ?_
       have key:(R' c c-q*R' i c)%m=R' c c-q*R' i c/\0<=R' c c-q*R' i c/\R' c c-q*R' i c<R' i c:=by
        have h1:=gW (b:=R' i c) r2.1;have h2:=aT (R' c c) h0;have h3:=aM (R' c c) (show 0<R' i c by omega)
        have h4:=Int.emod_def (R' c c) (R' i c);rw[hq]at h1;rw[<-h1,Int.mul_comm]at h4;exact⟨d9 om om,by omega,by omega⟩
       have hnew:Jx n b bm m (S2.upd b ⟨29,1,n,bK (bK g1 c (.sl 1 (g' i) 0 n)) i (.sl 1 (g' c) 0 n)⟩) (fun a=>g' (dB i c a)) (fun a j=>setRow R' c (fun j=>(R' c j-q*R' i j)%m) (dB i c a) j):=by
        have hsw:∀a,a<n->dB i c a<n:=fun a ha=>by unfold dB;split<;>(try split)<;>omega
        refine⟨hM3,fun a j ha hj=>?_,GD hlt hit hci' hT.ndet,(hC.var (ak (hT.gne c hlt)) hT.var).upd (ak hT.ne) _,hT.ne,fun a ha=>hT.gne _ (hsw a ha)⟩;simp only[setRow];split
        ·exact⟨aT _ om,aM _ om⟩
        ·exact hT.rng _ _ (hsw a ha) hj
       have ev:∀a d,(fun a j=>setRow R' c (fun j=>(R' c j-q*R' i j)%m) (dB i c a) j) a d=if a=i then(R' c d-q*R' i d)%m else if a=c then R' i d else R' a d:=fun a d=>by
        simp only[setRow,dB];by_cases e1:a=i
        ·simp[e1]
        ·by_cases e2:a=c
         ·simp[e2,hci',ak hci']
         ·simp[e1,e2]
       rw[kt];refine⟨⟨-s,rfl,by omega,_,_,hnew,fun a d h1 h2 h3=>?_,hci,fun a h1 h2=>?_⟩,?_⟩
       ·refine(ev a d).trans ?_;by_cases e1:a=i
        ·rw[if_pos e1,hZ c d h1 h1 hlt,hZ i d h1 om hit];simp
        ·rw[if_neg e1];by_cases e2:a=c
         ·rw[if_pos e2,hZ i d h1 om hit]
         ·rw[if_neg e2];exact hZ a d h1 h2 h3
       ·refine(ev a c).trans ?_;rw[if_neg om,if_neg om];exact hz a h1 h2
       ·have e8':=hnew.mat.cellN hit hlt;have e9:=hT.mat.cellN hit hlt;have e10:=(ev i c).trans ((if_pos rfl).trans key.1);simp only at e8' e10;rw[e10]at e8';omega
    ·simp -dsimp only[go_sem,aa,↓reduceIte,reduceCtorEq,af,decide_false,e0,e5,e6,e8,e12,e13,hit,aW (show c<1000000 by omega),bY]
     refine⟨⟨c+1,by omega,rfl,s,rfl,hs,g',R',hT,fun a d h1 h2 h3=>?_⟩,by omega⟩
     by_cases e:d=c
     ·rw[e];exact hz a om om
     ·exact hZ a d om h2 h3
  ·obtain rfl:c=n:=by omega
   simp -dsimp only[go_sem,aa,↓reduceIte,af,decide_false,e6,e12,e13,hlt];exact⟨s,rfl,hs,g',R',hT.mat,hT.rng,hT.ndet,hZ⟩
theorem Bx(n:Nat)(H:aU)(m:Int)(h1:1<=n)(hn:n<=8)(hm:2<=m)(hm2:m<=1000000)(hpr:∀a b:Int,m∣a*b->m∣a∨m∣b)(hd:¬m∣det n H) :
  cM 222 [aK n n H,.int .i64 m] St.none (fun r S'=>∃d:Int,d≠0/\r=.tup [.int .i64 d,.int .i64 0]):=by
 refine aA Tryz.func222 rfl 46 Tryz.ntmps222 (by kernel_rfl) (by simp) (by simp[Tryz.results222]) ?_
 rw[aS,Tryz.results222];have hm0:¬(m=0):=by omega
 simp -dsimp only[go_sem,aj,aa,ae,reduceCtorEq,ab]
 repeat refine an ?_
 refine(su n H h1 hn).call ?_;simp -dsimp only[go_sem,aa,ae,reduceCtorEq,ab]
 repeat refine an ?_
 refine(jl m hm om).call ?_;simp -dsimp only[go_sem,aa,ae,reduceCtorEq,ab]
 repeat refine an ?_
 refine(kG n n H m om om om om _ _ (cw _ _)).mono ?_;rintro _ S1 ⟨b,g,rfl,hN⟩;simp -dsimp only[go_sem,aa,ae,reduceCtorEq,ab]
 repeat refine an ?_
 have hd2:¬m∣det n (jJ H m):=fun h=>by
  have h3:=qI (h:=m) n (jJ H m) H (fun a b=>by
   have:=sY (H a b) m;exact⟨-(H a b/m),by simp only[jJ];grind⟩)
  have h4:=Int.dvd_sub h h3;rw[show ∀x y:Int,x-(x-y)=y from fun x y=>by omega]at h4
  exact hd h4
 refine(sR n b g (jJ H m) m S1 om om hm2 hN.1 (fun i j _ _=>oq om i j) hd2).mono ?_;rintro _ S2 ⟨s,g',R,rfl,hs,hM,hr,hnd,hZ⟩;have ws:IntKind.i64.wrap (s+m)=s+m:=i64_in om om;have hdi:∀i,i<n->¬m∣R i i:=fun i hi h=>hnd (Int.dvd_trans h (AZ n R (fun a d h1 h2=>hZ a d om h1 h2) i hi));simp -dsimp only[go_sem,aa,reduceCtorEq,ws]
 repeat refine an ?_
 refine aI (fun O S'=>∃i:Nat,i<=n/\O 1=.int .i64 m/\O 27=.sl 1 b 0 n/\O 28=.int .i64 n/\O 29=.int .i64 i/\∃d:Int,O 8=.int .i64 d/\¬m∣d/\0<=d/\dD S' b g' n n R) (fun O S=>n-bY (O 29)) ?_ ?_
 ·simp -dsimp only[go_sem,aa,reduceCtorEq];refine⟨0,by omega,rfl,s+m,rfl,fun h=>?_,by omega,hM⟩
  obtain⟨t,ht⟩:=h;have h9:s=m*(t-1):=by rw[Int.mul_sub];omega
  have h10:m∣1:=by
   rcases hs with rfl|rfl
   ·exact⟨_,h9⟩
   ·exact⟨-(t-1),by rw[Int.mul_neg,<-h9];rfl⟩
  have:=Int.le_of_dvd om h10;omega
 ·rintro O S' ⟨i,hi,e1,e27,e28,e29,d,e8,hnd,hd0,hM⟩;by_cases hlt:i<n
  ·obtain⟨g1,u1,v1⟩:=id hM.outer;obtain⟨g2,u2,v2⟩:=id (hM.row i hlt);have x1:g1 i=.sl 1 (g' i) 0 n:=v1 i hlt;have x2:g2 i=.int .i64 (R i i):=v2 i hlt;have r1:=hr i i hlt hlt;have q0:dW d m=d%m:=aL hd0;have r2:0<=d%m/\d%m<m:=⟨aT _ hm0,aM _ om⟩;have r3:=l0 (A:=1000000) (B:=1000000) (show 0<=d%m/\d%m<=1000000 by omega) (show 0<=R i i/\R i i<=1000000 by omega)
   have q1:IntKind.i64.wrap (d%m*R i i)=d%m*R i i:=i64_in om om;have q2:dW (d%m*R i i) m=d%m*R i i%m:=aL r3.1;simp -dsimp only[go_sem,aa,↓reduceIte,af,decide_true,ab,e8,e27,e28,e29,hlt,u1,x1]
   repeat refine an ?_
   refine bG 10 (by kernel_rfl) ?_
   simp -dsimp only[go_sem,aa,↓reduceIte,reduceCtorEq,af,ab,e1,e8,e27,e28,e29,hlt,u2,x2,hm0,q0,q1,q2,aW (show i<1000000 by omega),bY]
   repeat refine an ?_
   refine⟨⟨i+1,by omega,rfl,d%m*R i i%m,rfl,fun h=>?_,aT _ hm0,hM⟩,by omega⟩
   have h4:m∣d%m*R i i:=cF (by
    obtain⟨t,ht⟩:=h;have:=aM (d%m*R i i) (show 0<m by omega)
    have h5:=aT (d%m*R i i) hm0;have:=d9 h5 this;rw[<-this,ht];exact Int.mul_emod_right _ _)
   rcases hpr _ _ h4 with h5|h5
   ·exact hnd (cF (by
     have:=d9 r2.1 r2.2;rw[<-this];exact Int.emod_eq_zero_of_dvd h5))
   ·exact hdi i hlt h5
  ·simp -dsimp only[go_sem,aa,↓reduceIte,af,decide_false,e8,e27,e28,e29,hlt];exact⟨d,fun h=>hnd (by rw[h];exact Int.dvd_zero _),rfl⟩
theorem kM.stgb{n:Nat}{H:aU}(h:kM n H){k i j:Nat}(hi:k+i<n)(hj:k+j<n):-6973568802<=cI H k i j/\cI H k i j<=6973568802:=by
 have hd:∀a,k+a<n->cI H k a a<=6973568802:=fun a ha=>by
  have h1:=h.red.pd.stg_up k a ha;have h2:=h.red.lead k om;have h3:=h.red.diag h.five ha;have h4:=cH h2 h3 (cA (h.red.pd.diag ha)) om;omega
 have h1:=h.red.pd.cs i j k hi hj;have h4:=cH (hd i hi) (hd j hj) (cA (h.red.pd.stg_pos j k hj)) om;have h5:=o8 (x:=cI H k i j) (B:=6973568802) om om;omega
def zw(n:Nat)(H:aU)(k:Nat)(S:St)(x:AV):Prop:=x=aK (n-k) (n-k) (cI H k)∨∃b g,x=.sl 1 b 0 (n-k)/\dD S b g (n-k) (n-k) (cI H k)
theorem zw.ext{n:Nat}{H:aU}{k:Nat}{S S':St}{x:AV}(h:zw n H k S x)(hE:eZ S S'):zw n H k S' x:=by
 rcases h with h|⟨b,g,e,h⟩
 ·exact bH h
 ·exact bD ⟨b,g,e,hE.has h.outer,fun i hi=>hE.has (h.row i hi),h.inj⟩
theorem kv{a b A B:Int}(ha:-A<=a/\a<=A)(hb:-B<=b/\b<=B):-(A*B)<=a*b/\a*b<=A*B:=by
 have h:(a*b).natAbs<=A.natAbs*B.natAbs:=by rw[Int.natAbs_mul];exact Nat.mul_le_mul om om
 have h2:(A.natAbs:Int)*B.natAbs=A*B:=by rw[show(A.natAbs:Int)=A by omega,show(B.natAbs:Int)=B by omega]
 have h3:((A.natAbs*B.natAbs:Nat):Int)=A*B:=by rw[Int.natCast_mul,h2]
 omega
theorem Ew(n:Nat)(H:aU):aK n n H=aK (n-0) (n-0) (cI H 0):=by
 simp only[aK,bJ,Nat.sub_zero,io]
theorem zB(n:Nat)(H:aU)(hF:kM n H):PF 48 [aK n n H] (.bool true):=by
 have hn1:=hF.one;have hn5:=hF.five;have hsym:=hF.red.pd.sym;refine PF.of_spec (aA Tryz.func48 rfl 118 Tryz.ntmps48 (by kernel_rfl) (by simp) (by simp[Tryz.results48]) ?_)
 rw[aS,Tryz.results48];simp -dsimp only[go_sem,aa,ae,reduceCtorEq,ab,aK,bJ]
 repeat refine an ?_
 refine(Cj n H hn1 om (fun i j hi hj=>hsym i j hi hj) (fun i j hi hj=>by have:=hF.red.entry hn5 hi hj;omega)).call ?_
 simp -dsimp only[go_sem,reduceCtorEq]
 repeat refine an ?_
 refine aI (fun O S=>∃(k:Nat) (x:AV),k<n/\zw n H k S x/\O 3=x/\O 4=.int .i64 (det k H)) (fun O S=>match O 3 with|.lst _ m _=>m|.sl _ _ _ m=>m|_=>0) ?_ ?_
 ·simp -dsimp only[go_sem,aa];exact⟨0,by omega,_,bH (Ew n H),rfl,by simp[det]⟩
 ·rintro O S ⟨k,x,hk,hSt,e3,e4⟩;have d0:=hF.red.pd.pos k om;have d1:=hF.red.pd.pos (k+1) om;have d2:=hF.red.lead k om;have d3:=hF.red.lead (k+1) om;have hst0:cI H k 0 0=det (k+1) H:=cP H k;have hp0:0<n-k:=by omega
  have hpz:(0:Int)<((n-k:Nat):Int):=by omega
  by_cases hlt:1<n-k
  ·have hltz:(1:Int)<((n-k:Nat):Int):=by omega
   have wsub:IntKind.i64.wrap (((n-k:Nat):Int)-1)=((n-(k+1):Nat):Int):=dq om om;rcases hSt with rfl|⟨b,g,rfl,hM⟩
   ·simp -dsimp only[go_sem,aa,ae,↓reduceIte,decide_true,ay,ab,aK,bJ,e3,hltz,hpz,hst0]
    repeat refine an ?_
    refine(oD (n-k) (cI H k) hp0 om (by rw[cP];exact d1) (by rw[cP];omega) (fun i h1 h2=>?_)).spec (dY.cons (VA.refl _ _) dY.nil) ?_
    ·have h3:=hF.red.rows.1 (k+i) om k om;unfold fX jK at h3;rw[show k+i-k=i by omega]at h3
     rw[cP];omega
    simp -dsimp only[go_sem,aa,aK,bJ,e3,wsub]
    repeat refine an ?_
    refine aG.intro fun bc fc=>?_
    repeat refine an ?_
    simp -dsimp only[go_sem]
    repeat refine an ?_
    refine aI (fun O S'=>∃i:Nat,i<=n-(k+1)/\O 3=aK (n-k) (n-k) (cI H k)/\O 4=.int .i64 (det k H)/\O 5=.int .i64 (det (k+1) H)/\O 6=.sl 1 bc 0 (n-(k+1))/\O 31=.int .i64 ((n-(k+1):Nat):Int)/\O 32=.int .i64 i/\∃g',eh 29 2 1 S S' bc g' (n-(k+1)) (n-(k+1)) i (fun a j=>.int .i64 (cI H (k+1) a j))) (fun O S=>n-bY (O 32)) ?_ ?_
    ·simp -dsimp only[go_sem,aa,aK,bJ,e3,e4];exact⟨0,by omega,rfl,fun _=>0,eh.init fc (fun _ _=>rfl) _ _⟩
    ·clear e3 e4;rintro O S' ⟨i,hi,e3,e4,e5,e6,e31,e32,g',hR⟩;by_cases hit:i<n-(k+1)
     ·have hi1:i+1<n-k:=by omega
      obtain⟨g4,u4,v4⟩:=id hR.outer;simp -dsimp only[go_sem,aa,↓reduceIte,reduceCtorEq,af,decide_true,ay,ab,aK,bJ,e3,e4,e5,e6,e31,e32,hit,hi1,aW (show i<1000000 by omega),u4]
      repeat refine an ?_
      refine aG.intro fun bd fd=>?_
      repeat refine an ?_
      have hdc:bc≠bd:=bB.fresh hR.outer fd;simp -dsimp only[go_sem,hit,u4,hdc]
      repeat refine an ?_
      have hR1:=hR.push (by decide) fd u4 (fun _=>.int .i64 0)
      generalize hgg:(fun a=>if a=i then bd else g' a)=gg at hR1
      refine aI (fun O S'=>∃j:Nat,j<=n-(k+1)/\O 3=aK (n-k) (n-k) (cI H k)/\O 4=.int .i64 (det k H)/\O 5=.int .i64 (det (k+1) H)/\O 6=.sl 1 bc 0 (n-(k+1))/\O 7=.int .i64 i/\O 8=bJ (n-k) (cI H k (i+1))/\O 31=.int .i64 ((n-(k+1):Nat):Int)/\O 32=.int .i64 i/\O 47=.int .i64 ((n-(k+1):Nat):Int)/\O 48=.int .i64 j/\eh 29 2 1 S S' bc gg (n-(k+1)) (n-(k+1)) (i+1) (fun a c=>.int .i64 (if a=i/\j<=c then 0 else cI H (k+1) a c))) (fun O S=>n-bY (O 48)) ?_ ?_
      ·simp -dsimp only[go_sem,aa,aK,bJ,e3,e4,e5,e6,e31,e32];refine⟨0,by omega,rfl,hR1.congr fun a c _ _=>?_⟩
       by_cases e:a=i
       ·simp[e]
       ·simp[e]
      ·clear e3 e4 e5 e6 e31 e32 hR hR1 u4 v4 hgg;rintro O S' ⟨j,hj,e3,e4,e5,e6,e7,e8,e31,e32,e47,e48,hR⟩;by_cases hjt:j<n-(k+1)
       ·have hj1:j+1<n-k:=by omega
        obtain⟨g4,u4,v4⟩:=id hR.outer;obtain⟨g5,u5,v5⟩:=id (hR.row i om);have x4:g4 i=.sl 1 (gg i) 0 (n-(k+1)):=(v4 i hit).trans (if_pos om);have b1:=hF.stgb (k:=k) (i:=i+1) (j:=j+1) om om;have b2:=hF.stgb (k:=k) (i:=i+1) (j:=0) om om;have b3:=hF.stgb (k:=k) (i:=0) (j:=j+1) om om;have hs2:2*((cI H k (i+1) 0).natAbs:Int)<=det (k+1) H:=by
         have h3:=hF.red.rows.1 (k+(i+1)) om k om;unfold fX jK at h3;rw[show k+(i+1)-k=i+1 by omega]at h3
         exact h3
        have hstep:=iX (hF.red.pd.ne (show k<=n by omega)) i j
        rw[cP]at hstep;have p1:=kv (A:=59049) (B:=6973568802) (show -59049<=det (k+1) H/\det (k+1) H<=59049 by omega) b1
        have p2:=kv (A:=59049) (B:=6973568802) (show -59049<=cI H k (i+1) 0/\cI H k (i+1) 0<=59049 by omega) b3
        have q1:IntKind.i64.wrap (det (k+1) H*cI H k (i+1) (j+1))=det (k+1) H*cI H k (i+1) (j+1):=i64_in om om;have q2:IntKind.i64.wrap (cI H k (i+1) 0*cI H k 0 (j+1))=cI H k (i+1) 0*cI H k 0 (j+1):=i64_in om om;have q3:IntKind.i64.wrap (det (k+1) H*cI H k (i+1) (j+1)-cI H k (i+1) 0*cI H k 0 (j+1))=det k H*cI H (k+1) i j:=by rw[<-hstep];exact i64_in om om
        have b4:=hF.stgb (k:=k+1) (i:=i) (j:=j) om om;have q4:gX (det k H*cI H (k+1) i j) (det k H)=cI H (k+1) i j:=Int.mul_tdiv_cancel_left _ om;have q5:IntKind.i64.wrap (cI H (k+1) i j)=cI H (k+1) i j:=i64_in om om;have q6:¬(det k H=0):=by omega
        have hjn:j+1<n:=by omega
        have hin:i+1<n:=by omega
        have hpn:0<n:=by omega
        have hpnz:(0:Int)<(n:Int):=by omega
        simp -dsimp only[go_sem,aa,↓reduceIte,af,decide_true,aK,bJ,e3,e4,e5,e6,e31,e32,e47,e48,hjt,aW (show i<1000000 by omega)]
        repeat refine an ?_
        refine bG 27 (by kernel_rfl) ?_
        simp -dsimp only[go_sem,aa,↓reduceIte,reduceCtorEq,af,ay,ab,aK,bJ,e3,e4,e5,e6,e7,e8,e31,e32,e47,e48,hit,hjt,hj1,hpz,aW (show j<1000000 by omega),u4,x4,u5,q1,q2,q3,q4,q5,q6,bY]
        repeat refine an ?_
        refine⟨⟨j+1,by omega,rfl,(hR.put (by decide) (show i<i+1 by omega) u5 j (.int .i64 (cI H (k+1) i j))).congr fun a c _ _=>?_⟩,by omega⟩
        by_cases e:a=i/\c=j
        ·obtain⟨rfl,rfl⟩:=e;rw[if_pos ⟨rfl,rfl⟩,if_neg om]
        ·rw[if_neg e];congr 1;by_cases e2:a=i/\j<=c
         ·rw[if_pos e2,if_pos om]
         ·rw[if_neg e2,if_neg om]
       ·simp -dsimp only[go_sem,aa,↓reduceIte,af,decide_false,aK,bJ,e3,e4,e5,e6,e31,e32,e47,e48,hjt,aW (show i<1000000 by omega),bY]
        repeat refine an ?_
        exact⟨⟨i+1,by omega,rfl,gg,hR.congr fun a c _ hc=>by rw[if_neg om]⟩,by omega⟩
     ·obtain rfl:i=n-(k+1):=by omega
      have hN:=hR.imat (A:=cI H (k+1)) (fun _ _ _ _=>rfl);obtain⟨g4,u4,v4⟩:=id hN.1.outer;obtain⟨g5,u5,v5⟩:=id (hN.1.row 0 om);have x4:g4 0=.sl 1 (g' 0) 0 (n-(k+1)):=v4 0 om;have x5:g5 0=.int .i64 (det (k+2) H):=(v5 0 om).trans (by simp only[cP])
      have hq0:0<n-(k+1):=by omega
      have hqz:(0:Int)<((n-(k+1):Nat):Int):=by omega
      have hl:=hF.red.rows.2 (k+1) om om;unfold iV jK at hl;rw[show k+1-1=k by omega,show k+1-k=1 by omega,show k+1+1=k+2 from rfl]at hl
      have hs2:2*((cI H k 1 0).natAbs:Int)<=det (k+1) H:=by
       have h3:=hF.red.rows.1 (k+1) om k om;unfold fX jK at h3;rw[show k+1-k=1 by omega]at h3
       exact h3
      have d4:=hF.red.pd.pos (k+2) om;have d5:=hF.red.lead (k+2) om;have p1:=kv (A:=59049) (B:=59049) (show -59049<=det k H/\det k H<=59049 by omega) (show -59049<=det (k+2) H/\det (k+2) H<=59049 by omega)
      have p2:=kv (A:=59049) (B:=59049) (show -59049<=cI H k 1 0/\cI H k 1 0<=59049 by omega) (show -59049<=cI H k 1 0/\cI H k 1 0<=59049 by omega)
      have p3:=kv (A:=59049) (B:=59049) (show -59049<=det (k+1) H/\det (k+1) H<=59049 by omega) (show -59049<=det (k+1) H/\det (k+1) H<=59049 by omega)
      have q1:IntKind.i64.wrap (det k H*det (k+2) H)=det k H*det (k+2) H:=i64_in om om;have q2:IntKind.i64.wrap (cI H k 1 0*cI H k 1 0)=cI H k 1 0*cI H k 1 0:=i64_in om om;have q3:IntKind.i64.wrap (det k H*det (k+2) H+cI H k 1 0*cI H k 1 0)=det k H*det (k+2) H+cI H k 1 0*cI H k 1 0:=i64_in om om;have q4:IntKind.i64.wrap (4*(det k H*det (k+2) H+cI H k 1 0*cI H k 1 0))=4*(det k H*det (k+2) H+cI H k 1 0*cI H k 1 0):=i64_in om om;have q5:IntKind.i64.wrap (3*det (k+1) H)=3*det (k+1) H:=i64_in om om;have q6:IntKind.i64.wrap (3*det (k+1) H*det (k+1) H)=3*(det (k+1) H*det (k+1) H):=by rw[gL];exact i64_in om om
      have q7:¬(4*(det k H*det (k+2) H+cI H k 1 0*cI H k 1 0)<3*(det (k+1) H*det (k+1) H)):=by omega
      have hpn:0<n:=by omega
      have hpnz:(0:Int)<(n:Int):=by omega
      have hln:1<n:=by omega
      have hlnz:(1:Int)<(n:Int):=by omega
      simp -dsimp only[go_sem,aa,↓reduceIte,af,decide_false,ay,ab,aK,bJ,e3,e4,e5,e6,e31,e32,hit,hpz,hltz,hq0,hqz,u4,x4,u5,x5,q1,q2,q3,q4,q5,q6,q7,show Int.toNat 1=1 from rfl]
      repeat refine an ?_
      refine⟨⟨k+1,by omega,.sl 1 bc 0 (n-(k+1)),bD ⟨bc,g',rfl,hN.1⟩,rfl,rfl⟩,by omega⟩
   ·obtain⟨g1,u1,v1⟩:=id hM.outer;obtain⟨g2,u2,v2⟩:=id (hM.row 0 hp0);obtain⟨g3,u3,v3⟩:=id (hM.row 1 hlt);have x1:g1 0=.sl 1 (g 0) 0 (n-k):=v1 0 hp0;have x2:g2 0=.int .i64 (cI H k 0 0):=v2 0 hp0;have y1:g1 1=.sl 1 (g 1) 0 (n-k):=v1 1 hlt;have y2:g3 0=.int .i64 (cI H k 1 0):=v3 0 hp0;simp -dsimp only[go_sem,aa,ae,↓reduceIte,decide_true,ay,ab,e3,hltz,hp0,hpz,u1,u2,x1,x2,hst0]
    repeat refine an ?_
    refine(oD (n-k) (cI H k) hp0 om (by rw[cP];exact d1) (by rw[cP];omega) (fun i h1 h2=>?_)).spec (dY.cons hM.vr.va dY.nil) ?_
    ·have h3:=hF.red.rows.1 (k+i) om k om;unfold fX jK at h3;rw[show k+i-k=i by omega]at h3
     rw[cP];omega
    simp -dsimp only[go_sem,aa,e3,wsub]
    repeat refine an ?_
    refine aG.intro fun bc fc=>?_
    repeat refine an ?_
    simp -dsimp only[go_sem]
    repeat refine an ?_
    refine aI (fun O S'=>∃i:Nat,i<=n-(k+1)/\O 3=.sl 1 b 0 (n-k)/\O 4=.int .i64 (det k H)/\O 5=.int .i64 (det (k+1) H)/\O 6=.sl 1 bc 0 (n-(k+1))/\O 31=.int .i64 ((n-(k+1):Nat):Int)/\O 32=.int .i64 i/\∃g',eh 29 2 1 S S' bc g' (n-(k+1)) (n-(k+1)) i (fun a j=>.int .i64 (cI H (k+1) a j))) (fun O S=>n-bY (O 32)) ?_ ?_
    ·simp -dsimp only[go_sem,aa,e3,e4];exact⟨0,by omega,rfl,fun _=>0,eh.init fc (fun _ _=>rfl) _ _⟩
    ·clear e3 e4;rintro O S' ⟨i,hi,e3,e4,e5,e6,e31,e32,g',hR⟩;by_cases hit:i<n-(k+1)
     ·have hi1:i+1<n-k:=by omega
      obtain⟨g1,u1,v1⟩:=id (hR.ext.has hM.outer);have x1:g1 (i+1)=.sl 1 (g (i+1)) 0 (n-k):=v1 (i+1) hi1;have hbc:b≠bc:=bB.fresh hM.outer fc;obtain⟨g4,u4,v4⟩:=id hR.outer;simp -dsimp only[go_sem,aa,↓reduceIte,reduceCtorEq,af,decide_true,ay,ab,e3,e4,e5,e6,e31,e32,hit,hi1,u1,x1,aW (show i<1000000 by omega),u4]
      repeat refine an ?_
      refine aG.intro fun bd fd=>?_
      repeat refine an ?_
      have hdc:bc≠bd:=bB.fresh hR.outer fd;simp -dsimp only[go_sem,hit,u4,hdc]
      repeat refine an ?_
      have hR1:=hR.push (by decide) fd u4 (fun _=>.int .i64 0)
      generalize hgg:(fun a=>if a=i then bd else g' a)=gg at hR1
      refine aI (fun O S'=>∃j:Nat,j<=n-(k+1)/\O 3=.sl 1 b 0 (n-k)/\O 4=.int .i64 (det k H)/\O 5=.int .i64 (det (k+1) H)/\O 6=.sl 1 bc 0 (n-(k+1))/\O 7=.int .i64 i/\O 8=.sl 1 (g (i+1)) 0 (n-k)/\O 31=.int .i64 ((n-(k+1):Nat):Int)/\O 32=.int .i64 i/\O 47=.int .i64 ((n-(k+1):Nat):Int)/\O 48=.int .i64 j/\eh 29 2 1 S S' bc gg (n-(k+1)) (n-(k+1)) (i+1) (fun a c=>.int .i64 (if a=i/\j<=c then 0 else cI H (k+1) a c))) (fun O S=>n-bY (O 48)) ?_ ?_
      ·simp -dsimp only[go_sem,aa,e3,e4,e5,e6,e31,e32];refine⟨0,by omega,rfl,hR1.congr fun a c _ _=>?_⟩
       by_cases e:a=i
       ·simp[e]
       ·simp[e]
      ·clear e3 e4 e5 e6 e31 e32 hR hR1 u4 v4 hgg u1 v1 x1;rintro O S' ⟨j,hj,e3,e4,e5,e6,e7,e8,e31,e32,e47,e48,hR⟩;by_cases hjt:j<n-(k+1)
       ·have hj1:j+1<n-k:=by omega
        obtain⟨g4,u4,v4⟩:=id hR.outer;obtain⟨g5,u5,v5⟩:=id (hR.row i om);have x4:g4 i=.sl 1 (gg i) 0 (n-(k+1)):=(v4 i hit).trans (if_pos om);have b1:=hF.stgb (k:=k) (i:=i+1) (j:=j+1) om om;have b2:=hF.stgb (k:=k) (i:=i+1) (j:=0) om om;have b3:=hF.stgb (k:=k) (i:=0) (j:=j+1) om om;have hs2:2*((cI H k (i+1) 0).natAbs:Int)<=det (k+1) H:=by
         have h3:=hF.red.rows.1 (k+(i+1)) om k om;unfold fX jK at h3;rw[show k+(i+1)-k=i+1 by omega]at h3
         exact h3
        have hstep:=iX (hF.red.pd.ne (show k<=n by omega)) i j
        rw[cP]at hstep;have p1:=kv (A:=59049) (B:=6973568802) (show -59049<=det (k+1) H/\det (k+1) H<=59049 by omega) b1
        have p2:=kv (A:=59049) (B:=6973568802) (show -59049<=cI H k (i+1) 0/\cI H k (i+1) 0<=59049 by omega) b3
        have q1:IntKind.i64.wrap (det (k+1) H*cI H k (i+1) (j+1))=det (k+1) H*cI H k (i+1) (j+1):=i64_in om om;have q2:IntKind.i64.wrap (cI H k (i+1) 0*cI H k 0 (j+1))=cI H k (i+1) 0*cI H k 0 (j+1):=i64_in om om;have q3:IntKind.i64.wrap (det (k+1) H*cI H k (i+1) (j+1)-cI H k (i+1) 0*cI H k 0 (j+1))=det k H*cI H (k+1) i j:=by rw[<-hstep];exact i64_in om om
        have b4:=hF.stgb (k:=k+1) (i:=i) (j:=j) om om;have q4:gX (det k H*cI H (k+1) i j) (det k H)=cI H (k+1) i j:=Int.mul_tdiv_cancel_left _ om;have q5:IntKind.i64.wrap (cI H (k+1) i j)=cI H (k+1) i j:=i64_in om om;have q6:¬(det k H=0):=by omega
        obtain⟨g1,u1,v1⟩:=id (hR.ext.has hM.outer);obtain⟨g2,u2,v2⟩:=id (hR.ext.has (hM.row 0 hp0));obtain⟨g3,u3,v3⟩:=id (hR.ext.has (hM.row (i+1) hi1));have x1:g1 0=.sl 1 (g 0) 0 (n-k):=v1 0 hp0;have x2:g2 (j+1)=.int .i64 (cI H k 0 (j+1)):=v2 (j+1) hj1;have x3:g3 (j+1)=.int .i64 (cI H k (i+1) (j+1)):=v3 (j+1) hj1;have x5:g3 0=.int .i64 (cI H k (i+1) 0):=v3 0 hp0;simp -dsimp only[go_sem,aa,↓reduceIte,af,decide_true,e3,e4,e5,e6,e31,e32,e47,e48,hjt,aW (show i<1000000 by omega)]
        repeat refine an ?_
        refine bG 27 (by kernel_rfl) ?_
        simp -dsimp only[go_sem,aa,↓reduceIte,reduceCtorEq,af,ay,ab,e3,e4,e5,e6,e7,e8,e31,e32,e47,e48,hit,hjt,hj1,hp0,hpz,u1,u2,u3,x1,x2,x3,x5,aW (show j<1000000 by omega),u4,x4,u5,q1,q2,q3,q4,q5,q6,bY]
        repeat refine an ?_
        refine⟨⟨j+1,by omega,rfl,(hR.put (by decide) (show i<i+1 by omega) u5 j (.int .i64 (cI H (k+1) i j))).congr fun a c _ _=>?_⟩,by omega⟩
        by_cases e:a=i/\c=j
        ·obtain⟨rfl,rfl⟩:=e;rw[if_pos ⟨rfl,rfl⟩,if_neg om]
        ·rw[if_neg e];congr 1;by_cases e2:a=i/\j<=c
         ·rw[if_pos e2,if_pos om]
         ·rw[if_neg e2,if_neg om]
       ·simp -dsimp only[go_sem,aa,↓reduceIte,af,decide_false,e3,e4,e5,e6,e31,e32,e47,e48,hjt,aW (show i<1000000 by omega),bY]
        repeat refine an ?_
        exact⟨⟨i+1,by omega,rfl,gg,hR.congr fun a c _ hc=>by rw[if_neg om]⟩,by omega⟩
     ·obtain rfl:i=n-(k+1):=by omega
      have hN:=hR.imat (A:=cI H (k+1)) (fun _ _ _ _=>rfl);obtain⟨g4,u4,v4⟩:=id hN.1.outer;obtain⟨g5,u5,v5⟩:=id (hN.1.row 0 om);have x4:g4 0=.sl 1 (g' 0) 0 (n-(k+1)):=v4 0 om;have x5:g5 0=.int .i64 (det (k+2) H):=(v5 0 om).trans (by simp only[cP])
      have hq0:0<n-(k+1):=by omega
      have hqz:(0:Int)<((n-(k+1):Nat):Int):=by omega
      have hl:=hF.red.rows.2 (k+1) om om;unfold iV jK at hl;rw[show k+1-1=k by omega,show k+1-k=1 by omega,show k+1+1=k+2 from rfl]at hl
      have hs2:2*((cI H k 1 0).natAbs:Int)<=det (k+1) H:=by
       have h3:=hF.red.rows.1 (k+1) om k om;unfold fX jK at h3;rw[show k+1-k=1 by omega]at h3
       exact h3
      have d4:=hF.red.pd.pos (k+2) om;have d5:=hF.red.lead (k+2) om;have p1:=kv (A:=59049) (B:=59049) (show -59049<=det k H/\det k H<=59049 by omega) (show -59049<=det (k+2) H/\det (k+2) H<=59049 by omega)
      have p2:=kv (A:=59049) (B:=59049) (show -59049<=cI H k 1 0/\cI H k 1 0<=59049 by omega) (show -59049<=cI H k 1 0/\cI H k 1 0<=59049 by omega)
      have p3:=kv (A:=59049) (B:=59049) (show -59049<=det (k+1) H/\det (k+1) H<=59049 by omega) (show -59049<=det (k+1) H/\det (k+1) H<=59049 by omega)
      have q1:IntKind.i64.wrap (det k H*det (k+2) H)=det k H*det (k+2) H:=i64_in om om;have q2:IntKind.i64.wrap (cI H k 1 0*cI H k 1 0)=cI H k 1 0*cI H k 1 0:=i64_in om om;have q3:IntKind.i64.wrap (det k H*det (k+2) H+cI H k 1 0*cI H k 1 0)=det k H*det (k+2) H+cI H k 1 0*cI H k 1 0:=i64_in om om;have q4:IntKind.i64.wrap (4*(det k H*det (k+2) H+cI H k 1 0*cI H k 1 0))=4*(det k H*det (k+2) H+cI H k 1 0*cI H k 1 0):=i64_in om om;have q5:IntKind.i64.wrap (3*det (k+1) H)=3*det (k+1) H:=i64_in om om;have q6:IntKind.i64.wrap (3*det (k+1) H*det (k+1) H)=3*(det (k+1) H*det (k+1) H):=by rw[gL];exact i64_in om om
      have q7:¬(4*(det k H*det (k+2) H+cI H k 1 0*cI H k 1 0)<3*(det (k+1) H*det (k+1) H)):=by omega
      obtain⟨g1,u1,v1⟩:=id (hR.ext.has hM.outer);obtain⟨g3,u3,v3⟩:=id (hR.ext.has (hM.row 1 hlt));have y1:g1 1=.sl 1 (g 1) 0 (n-k):=v1 1 hlt;have y2:g3 0=.int .i64 (cI H k 1 0):=v3 0 hp0;simp -dsimp only[go_sem,aj,aa,↓reduceIte,af,decide_false,ay,ab,e3,e4,e5,e6,e31,e32,hit,hp0,hpz,hlt,hltz,hq0,hqz,u1,u3,y1,y2,u4,x4,u5,x5,q1,q2,q3,q4,q5,q6,q7,show Int.toNat 1=1 from rfl]
      repeat refine an ?_
      refine⟨⟨k+1,by omega,.sl 1 bc 0 (n-(k+1)),bD ⟨bc,g',rfl,hN.1⟩,rfl,rfl⟩,by omega⟩
  ·have hltz:¬((1:Int)<((n-k:Nat):Int)):=by omega
   have hkn:k+1=n:=by omega
   have hdn:=hF.det;rw[<-hkn]at hdn;rcases hSt with rfl|⟨b,g,rfl,hM⟩
   ·simp -dsimp only[go_sem,aa,ae,↓reduceIte,decide_true,decide_false,ay,ab,aK,bJ,e3,hltz,hpz,hst0,hdn.1,hdn.2]
    repeat refine an ?_
    exact VR.mf rfl
   ·obtain⟨g1,u1,v1⟩:=hM.outer;obtain⟨g2,u2,v2⟩:=hM.row 0 om;have w1:=v1 0 hp0;have w2:=v2 0 hp0;simp -dsimp only[go_sem,aa,ae,↓reduceIte,decide_true,decide_false,ay,ab,e3,hltz,hp0,hpz,u1,u2,w1,w2,hst0,hdn.1,hdn.2]
    repeat refine an ?_
    exact VR.mf rfl
end Go.Proofs.YtdobfmlmenaajaaGreatDoor
