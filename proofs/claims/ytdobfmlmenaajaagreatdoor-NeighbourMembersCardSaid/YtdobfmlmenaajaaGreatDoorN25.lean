/-
  Lemmas for NeighbourMembers.
-/
import Derived.Test.YtdobfmlmenaajaaGreatDoorN24
namespace Go.Proofs.YtdobfmlmenaajaaGreatDoor
open Go.RowKit
open _root_.Int renaming ofNat_lt→af,zero_le_ofNat→ay,tmod_eq_emod_of_nonneg→aL,le_of_lt→cA,tmod→dW,toNat_of_nonneg→gD,tdiv→gX,ediv_le_self→ri,ediv_nonneg→sO
open _root_.List renaming all_eq_true→az
open _root_.Nat renaming reduceEqDiff→aa,add_one_le_iff→ab,reduceLT→ae,reduceAdd→aj,reduceLeDiff→aq
open _root_.Ne renaming symm→ak
open _root_.Option renaming none→ac
open _root_.Or renaming inr→bD,inl→bH
set_option maxHeartbeats 6400000
set_option maxRecDepth 4096
set_option linter.all false
theorem cS.repl{S:St}{b:Nat}{g:Nat->Nat}{n m:Nat}{A:aU}(h:cS S b g n m A){j c:Nat}{v:Nat->Int}(hc:gV S c m v)(hcg:∀i,i<n->g i≠c){g1:Nat->AV}(hS:S b=some ⟨59,1,n,g1⟩) :
  cS (S.upd b ⟨59,1,n,bK g1 j (.sl 2 c 0 m)⟩) b (fun i=>if i=j then c else g i) n m (fun i r=>if i=j then v r else A i r):=by
 have hbc:b≠c:=bB.ne h.outer hc (by decide)
 refine⟨bB.here fun i hi=>?_,fun i hi=>?_,fun i k hi hk he=>?_⟩
 ·obtain⟨g2,k1,k2⟩:=h.outer;rw[hS]at k1;cases k1;simp only[bK];by_cases e:i=j
  ·simp[e]
  ·simp only[e,if_false];exact k2 i hi
 ·by_cases e:i=j
  ·simp only[e,if_true];exact hc.upd (ak hbc) _
  ·simp only[e,if_false];exact(h.row i hi).upd (ak (h.outer_ne hi)) _
 ·by_cases e:i=j
  ·by_cases e2:k=j
   ·omega
   ·simp only[e,e2,if_true,if_false]at he;exact absurd he.symm (hcg k hk)
  ·by_cases e2:k=j
   ·simp only[e,e2,if_true,if_false]at he;exact absurd he (hcg i hi)
   ·simp only[e,e2,if_false]at he;exact h.inj i k hi hk he
structure jP(S S':St)(b:Nat)(g g':Nat->Nat)(n:Nat):Prop where
 keep:∀k X,S k=some X->k≠b->(∀i,i<n->g i≠k)->S' k=some X
 new:∀i,i<n->(∃j,j<n/\g' i=g j)∨S (g' i)=ac
theorem jP.refl(S:St)(b:Nat)(g:Nat->Nat)(n:Nat):jP S S b g g n:=⟨fun _ _ h _ _=>h,fun i hi=>bH ⟨i,hi,rfl⟩⟩
theorem jP.ext{S S':St}{b:Nat}{g:Nat->Nat}{n:Nat}(h:eZ S S'):jP S S' b g g n:=⟨fun k X hX _ _=>h k X hX,fun i hi=>bH ⟨i,hi,rfl⟩⟩
theorem jP.upd{S S':St}{b:Nat}{g g':Nat->Nat}{n:Nat}(h:jP S S' b g g' n){c:Nat}(hc:c=b∨(∃i,i<n/\g i=c)∨S c=ac)(X:dn):jP S (S'.upd c X) b g g' n:=by
 refine⟨fun k Y hY h1 h2=>?_,h.new⟩;have hk:k≠c:=by
  rintro rfl;rcases hc with e|⟨i,hi,e⟩|e
  ·exact h1 e
  ·exact h2 i hi e
  ·rw[e]at hY;cases hY
 rw[aQ hk];exact h.keep k Y hY h1 h2
theorem jP.trans{S S1 S2:St}{b:Nat}{g g1 g2:Nat->Nat}{n:Nat}(h:jP S S1 b g g1 n)(k:jP S1 S2 b g1 g2 n)(hb:S1 b≠ac):jP S S2 b g g2 n:=by
 refine⟨fun c X hX h1 h2=>k.keep c X (h.keep c X hX h1 h2) h1 (fun i hi e=>?_),fun i hi=>?_⟩
 ·rcases h.new i hi with⟨j,hj,e2⟩|e2
  ·exact h2 j hj (e2.symm.trans e)
  ·rw[e,hX]at e2;cases e2
 ·rcases k.new i hi with⟨j,hj,e⟩|e
  ·rw[e];exact h.new j hj
  ·by_cases h3:∃j,j<n/\g2 i=g j
   ·exact bH h3
   ·refine bD ?_
    cases e2:S (g2 i)with
    | none=>rfl
    | some X =>
     have h4:g2 i≠b:=fun e3=>hb (e3▸e);have:=h.keep (g2 i) X e2 h4 (fun j hj e3=>h3 ⟨j,hj,e3.symm⟩);rw[e]at this;cases this
theorem jP.var{S S':St}{b:Nat}{g g':Nat->Nat}{n:Nat}(h:jP S S' b g g' n){c ty es:Nat}{z:AV}(hV:dc S c ty es z)(h1:c≠b)(h2:∀i,i<n->g i≠c):dc S' c ty es z:=by
 obtain⟨x,k1,k2⟩:=hV;exact⟨x,h.keep c _ k1 h1 h2,k2⟩
theorem jP.has{S S':St}{b:Nat}{g g':Nat->Nat}{n:Nat}(h:jP S S' b g g' n){c ty es k:Nat}{z:Nat->AV}(hV:bB S c ty es k z)(h1:c≠b)(h2:∀i,i<n->g i≠c):bB S' c ty es k z:=by
 obtain⟨x,k1,k2⟩:=hV;exact⟨x,h.keep c _ k1 h1 h2,k2⟩
theorem jP.ne{S S':St}{b:Nat}{g g':Nat->Nat}{n:Nat}(h:jP S S' b g g' n){c:Nat}{X:dn}(hc:S c=some X)(h2:∀i,i<n->g i≠c):∀i,i<n->g' i≠c:=by
 intro i hi e;rcases h.new i hi with⟨j,hj,e2⟩|e2
 ·exact h2 j hj (e2.symm.trans e)
 ·rw[e,hc]at e2;cases e2
theorem cS.some{S:St}{b:Nat}{g:Nat->Nat}{n m:Nat}{A:aU}(h:cS S b g n m A):S b≠ac:=by
 obtain⟨x,k1,_⟩:=h.outer;rw[k1];simp
structure lS(S:St)(b:Nat)(c:Nat->Nat)(n m:Nat)(A:aU):Prop where
 outer:bB S b 59 1 n (fun i=>.sl 2 (c i) 0 m)
 row:∀i,i<n->gV S (c i) m (A i)
theorem cS.cols{S:St}{b:Nat}{g:Nat->Nat}{n m:Nat}{A:aU}(h:cS S b g n m A):lS S b g n m A:=⟨h.outer,h.row⟩
theorem lS.ne{S:St}{b:Nat}{c:Nat->Nat}{n m:Nat}{A:aU}(h:lS S b c n m A){i:Nat}(hi:i<n):b≠c i:=bB.ne h.outer (h.row i hi) (by decide)
theorem lS.vr{S:St}{b:Nat}{c:Nat->Nat}{n m:Nat}{A:aU}(h:lS S b c n m A):VR S (.sl 1 b 0 n) (aV n m A):=VR.sl h.outer om (fun j hj=>by rw[Nat.zero_add];exact(h.row j hj).vr)
theorem lS.ext{S S':St}{b:Nat}{c:Nat->Nat}{n m:Nat}{A:aU}(h:lS S b c n m A)(he:eZ S S'):lS S' b c n m A:=⟨he.has h.outer,fun i hi=>he.has (h.row i hi)⟩
theorem lS.congr{S:St}{b:Nat}{c:Nat->Nat}{n m:Nat}{A B:aU}(h:lS S b c n m A)(he:∀i j,i<n->j<m->A i j=B i j):lS S b c n m B:=⟨h.outer,fun i hi=>(h.row i hi).congr fun j hj=>by rw[he i j hi hj]⟩
theorem lS.repl{S:St}{b:Nat}{c:Nat->Nat}{n m:Nat}{A:aU}(h:lS S b c n m A){j d:Nat}{v:Nat->Int}(hd:gV S d m v){g1:Nat->AV}(hS:S b=some ⟨59,1,n,g1⟩) :
  lS (S.upd b ⟨59,1,n,bK g1 j (.sl 2 d 0 m)⟩) b (fun i=>if i=j then d else c i) n m (fun i r=>if i=j then v r else A i r):=by
 have hbd:b≠d:=bB.ne h.outer hd (by decide)
 refine⟨bB.here fun i hi=>?_,fun i hi=>?_⟩
 ·obtain⟨g2,k1,k2⟩:=h.outer;rw[hS]at k1;cases k1;simp only[bK];by_cases e:i=j
  ·simp[e]
  ·simp only[e,if_false];exact k2 i hi
 ·by_cases e:i=j
  ·simp only[e,if_true];exact hd.upd (ak hbd) _
  ·simp only[e,if_false];exact(h.row i hi).upd (ak (h.ne hi)) _
def fU(b:Nat)(S S':St):Prop:=∀k X,S k=some X->k≠b->S' k=some X
theorem fU.refl(b:Nat)(S:St):fU b S S:=fun _ _ h _=>h
theorem fU.trans{b:Nat}{S S' S'':St}(h:fU b S S')(k:fU b S' S''):fU b S S'':=fun c X hX hc=>k c X (h c X hX hc) hc
theorem fU.ext{b:Nat}{S S':St}(h:eZ S S'):fU b S S':=fun c X hX _=>h c X hX
theorem fU.upd{b:Nat}{S S':St}(h:fU b S S'){c:Nat}(hc:c=b∨S c=ac)(X:dn):fU b S (S'.upd c X):=fun k Y hY hk=>by
 have:k≠c:=by
  rintro rfl;rcases hc with e|e
  ·exact hk e
  ·rw[e]at hY;cases hY
 rw[aQ this];exact h k Y hY hk
theorem fU.has{b:Nat}{S S':St}(h:fU b S S'){c ty es k:Nat}{z:Nat->AV}(hV:bB S c ty es k z)(h1:c≠b):bB S' c ty es k z:=by
 obtain⟨x,k1,k2⟩:=hV;exact⟨x,h c _ k1 h1,k2⟩
theorem fU.var{b:Nat}{S S':St}(h:fU b S S'){c ty es:Nat}{z:AV}(hV:dc S c ty es z)(h1:c≠b):dc S' c ty es z:=by
 obtain⟨x,k1,k2⟩:=hV;exact⟨x,h c _ k1 h1,k2⟩
theorem wB(S:St)(b:Nat)(c:Nat->Nat)(n m p q:Nat)(A:aU)(hp:p<n)(hq:q<n)(hO:lS S b c n m A) :
  cM 264 [.sl 1 b 0 n,.int .i64 p,.int .i64 q] S (fun _ S'=>(∃c',lS S' b c' n m (fun i=>A (dB p q i)))/\fU b S S'):=by
 refine gG Tryz.func264 rfl 20 Tryz.ntmps264 (by kernel_rfl) (by simp) ?_
 rw[aS,Tryz.results264];obtain⟨g1,u1,v1⟩:=id hO.outer;have x1:g1 p=.sl 2 (c p) 0 m:=v1 p hp;have x2:g1 q=.sl 2 (c q) 0 m:=v1 q hq;simp -dsimp only[go_sem,aj]
 repeat refine an ?_
 refine gR 13 (by kernel_rfl) ?_
 simp -dsimp only[go_sem,aa,↓reduceIte,reduceCtorEq,af,ab,u1,x1,x2,hp,hq]
 repeat refine an ?_
 refine⟨⟨fun i=>c (dB p q i),bB.here fun i hi=>?_,fun i hi=>?_⟩,((fU.refl b S).upd (bH rfl) _).upd (bH rfl) _⟩
 ·simp only[bK,dB];by_cases e:i=q
  ·subst e;by_cases e2:i=p
   ·subst e2;simp
   ·simp[e2]
  ·by_cases e2:i=p
   ·subst e2;simp[e]
   ·simp[e,e2,v1 i hi]
 ·have h1:dB p q i<n:=by unfold dB;split<;>(try split)<;>omega
  exact((hO.row _ h1).upd (ak (hO.ne h1)) _).upd (ak (hO.ne h1)) _
theorem dY.first{S:St}{x x':AV}{l:List AV}(h:VA S x x'):dY S (x::l) (x'::l):=⟨h,cw _ _⟩
structure LB(S0 S:St)(b bd b9:Nat)(c:Nat->Nat)(n m j t:Nat)(A:aU)(v:Nat->Int)(d:Int):Prop where
 outer:bB S b 59 1 n (fun a=>.sl 2 (if a=j then bd else c a) 0 m)
 new:gV S bd m (fun r=>if r<t then v r/d else v r)
 row:∀a,a<n->a≠j->gV S (c a) m (A a)
 var:dc S b9 50 2 (.big d)
 keep:fU b S0 S
 h1:S0 bd=ac
 h2:S0 b9=ac
 ne:b9≠bd
 nc:∀a,a<n->c a≠bd
theorem LB.other{S0 S:St}{b bd b9:Nat}{c:Nat->Nat}{n m j t:Nat}{A:aU}{v:Nat->Int}{d:Int}(h:LB S0 S b bd b9 c n m j t A v d){e:Nat}(he:S e=ac)(X:dn):LB S0 (S.upd e X) b bd b9 c n m j t A v d :=
 ⟨h.outer.upd (bB.fresh h.outer he) _,h.new.upd (bB.fresh h.new he) _,fun a ha hj=>(h.row a ha hj).upd (bB.fresh (h.row a ha hj) he) _,h.var.upd (h.var.fresh he) _,fun k Y hY hk=>by
  have:k≠e:=by rintro rfl;rw[h.keep k Y hY hk]at he;cases he
  rw[aQ this];exact h.keep k Y hY hk,h.h1,h.h2,h.ne,h.nc⟩
theorem LB.put{S0 S:St}{b bd b9:Nat}{c:Nat->Nat}{n m j t:Nat}{A:aU}{v:Nat->Int}{d:Int}(h:LB S0 S b bd b9 c n m j t A v d){g:Nat->AV}(hS:S bd=some ⟨50,2,m,g⟩):LB S0 (S.upd bd ⟨50,2,m,bK g t (.big (v t/d))⟩) b bd b9 c n m j (t+1) A v d:=by
 refine⟨h.outer.upd (bB.ne h.outer h.new (by decide)) _,bB.here fun r hr=>?_,fun a ha hj=>(h.row a ha hj).upd (h.nc a ha) _,h.var.upd h.ne _,h.keep.upd (bD h.h1) _,h.h1,h.h2,h.ne,h.nc⟩
 obtain⟨g',k1,k2⟩:=h.new;rw[hS]at k1;cases k1;simp only[bK];by_cases e:r=t
 ·subst e;simp
 ·rw[if_neg e,k2 r hr];by_cases e2:r<t
  ·simp[e2,show r<t+1 by omega]
  ·simp[e2,show ¬r<t+1 by omega]
theorem qF(S0:St)(b:Nat)(c:Nat->Nat)(n m i j row:Nat)(A:aU)(d:Int)(hi:i<n)(hj:j<n)(hr:row<m)(hm:m<=100)(hd:d≠0)(hdb:nb d 31)(hA:∀a r,a<n->r<m->nb (A a r) 31)(hO:lS S0 b c n m A) :
  cM 265 [.sl 1 b 0 n,.int .i64 j,.int .i64 i,.int .i64 row,.big d] S0 (fun _ S'=>(∃c',lS S' b c' n m (fun a r=>if a=j then(A i row*A j r-A j row*A i r)/d else A a r))/\fU b S0 S'):=by
 refine gG Tryz.func265 rfl 58 Tryz.ntmps265 (by kernel_rfl) (by simp) ?_
 rw[aS,Tryz.results265];simp -dsimp only[go_sem,aj,aa,reduceCtorEq]
 repeat refine an ?_
 refine aG.intro fun b9 f9=>?_
 try simp -dsimp only[go_sem,aj,aa,aq,ae,↓reduceIte,reduceCtorEq,af,decide_true,decide_false,ay]
 have hO1:lS (S0.upd b9 ⟨50,2,1,fun _=>.big d⟩) b c n m A:=hO.ext ((eZ.refl S0).upd f9 _);obtain⟨g1,u1,v1⟩:=id hO1.outer;obtain⟨g2,u2,v2⟩:=id (hO1.row i hi);obtain⟨g3,u3,v3⟩:=id (hO1.row j hj);have x1:g1 i=.sl 2 (c i) 0 m:=v1 i hi;have x2:g1 j=.sl 2 (c j) 0 m:=v1 j hj;have x3:=v2 row hr;have x4:=v3 row hr;refine ee 20 [[0,1],[],[]] (by kernel_rfl) ?_
 simp -dsimp only[go_sem,aa,ae,↓reduceIte,reduceCtorEq,af,ab,u1,x1,x2,hi,hj,hr,u2,x3,u3,x4]
 repeat refine an ?_
 have n1:=hA i row hi hr;have n2:=(hA j row hj hr).neg;refine⟨_,(pS (hA j row hj hr) om).pure',?_⟩;refine(lI n m 31 j i A (A i row) (-(A j row)) hj hi hm hA n1 n2 om _ _ (dY.first hO1.vr.va)).mono ?_
 rintro _ S1 ⟨bd,rfl,hI,hE,hbd⟩;obtain⟨nd_9,fd⟩:=ai hbd;clear u1 v1 u2 v2 u3 v3 x1 x2 x3 x4;have hO2:=hO1.ext hE;obtain⟨g1,u1,v1⟩:=id hO2.outer;obtain⟨g5,u5,v5⟩:=id hI;have hbn:b≠bd:=bB.ne hO2.outer hI (by decide)
 simp -dsimp only[go_sem,aa,↓reduceIte,reduceCtorEq,af,ab,u1,hj,d7]
 repeat refine an ?_
 generalize hv:(fun r=>A i row*A j r+-A j row*A i r)=v at *;have hvb:∀r,r<m->nb (v r) 63:=fun r hr=>by rw[<-hv];exact(n1.mul (hA j r hj hr)).add (n2.mul (hA i r hi hr))
 refine aI (fun O S'=>∃t:Nat,t<=m/\O 0=.sl 1 b 0 n/\O 1=.int .i64 j/\O 9=.ptr 2 b9 0/\O 37=.sl 2 bd 0 m/\O 38=.int .i64 m/\O 39=.int .i64 t/\LB S0 S' b bd b9 c n m j t A v d) (fun O S=>m-bY (O 39)) ?_ ?_
 ·simp -dsimp only[go_sem,aa,reduceCtorEq];refine⟨0,by omega,rfl,bB.here fun a ha=>?_,(hI.congr fun r _=>by simp).upd (ak hbn) _,fun a ha _=>(hO2.row a ha).upd (ak (hO2.ne ha)) _,?_,?_,fd,f9,ak nd_9,fun a ha=>bB.fresh (hO1.row a ha) hbd⟩
  ·simp only[bK];by_cases e:a=j
   ·simp[e]
   ·simp only[e,if_false];exact v1 a ha
  ·have h9:dc S1 b9 50 2 (.big d):=by
    obtain⟨x,k1,k2⟩:=dc.new (S:=S0) (b:=b9) (ty:=50) (es:=2) (g:=fun _=>AV.big d) rfl;exact⟨x,hE _ _ k1,k2⟩
   exact h9.upd (fun e=>by obtain⟨x,k1,_⟩:=hO.outer;rw[<-e,f9]at k1;cases k1) _
  ·exact(fU.ext (((eZ.refl S0).upd f9 _).trans hE)).upd (bH rfl) _
 ·rintro O S' ⟨t,ht,e0,e1,e9,e37,e38,e39,hS⟩;by_cases hlt:t<m
  ·obtain⟨g6,u6,v6⟩:=id hS.new;have x6:g6 t=.big (v t):=(v6 t hlt).trans (by simp)
   obtain⟨g7,u7,v7⟩:=id hS.outer;obtain⟨g8,u8,x8⟩:=id hS.var;have x7:g7 j=.sl 2 bd 0 m:=(v7 j hj).trans (by simp)
   simp -dsimp only[go_sem,aa,↓reduceIte,af,decide_true,ab,e37,e38,e39,hlt,u6]
   repeat refine an ?_
   refine aG.intro fun be fe=>?_;have hbe:b≠be:=bB.fresh hS.outer fe;have h9e:b9≠be:=hS.var.fresh fe;have hde:bd≠be:=bB.fresh hS.new fe;simp -dsimp only[go_sem,aa,ae,↓reduceIte,ab,e39,x6]
   repeat refine an ?_
   refine ee 13 [[10,11]] (by kernel_rfl) ?_
   simp -dsimp only[go_sem,aa,ae,↓reduceIte,reduceCtorEq,af,ab,e0,e1,e9,e37,e38,e39,hlt,u6,u7,x7,u8,x8,hj,hbe,h9e,hde,d7]
   repeat refine an ?_
   refine⟨_,(kc (hvb t hlt) (hdb.mono om) om hd (bD ((hvb t hlt).mono om))).pure',?_⟩;simp -dsimp only[go_sem,aW (show t<1000000 by omega),bY]
   repeat refine an ?_
   refine⟨⟨t+1,by omega,rfl,?_⟩,by omega⟩
   rw[kt];exact(hS.other fe _).put (by rw[aQ hde];exact u6)
  ·obtain rfl:t=m:=by omega
   simp -dsimp only[go_sem,aa,↓reduceIte,af,decide_false,e37,e38,e39,hlt];refine⟨⟨fun a=>if a=j then bd else c a,hS.outer,fun a ha=>?_⟩,hS.keep⟩
   by_cases e:a=j
   ·simp only[e,if_true];refine hS.new.congr fun r hr=>?_;simp only[hr,if_true,<-hv];rw[show A i row*A j r-A j row*A i r=A i row*A j r+-A j row*A i r by rw[Int.neg_mul];omega]
   ·simp only[e,if_false];exact hS.row a ha e
theorem lX(S0:St)(b:Nat)(g:Nat->Nat)(n m j f:Nat)(A:aU)(M:Int)(hj:j<n)(hm:m<=100)(hf:f<=m)(hM:0<M)(hMb:nb M 32)(k:Nat)(hk:k<=1000000)(hA:∀r,r<m->nb (A j r) k)(hO:cS S0 b g n m A) :
  cM 266 [.sl 1 b 0 n,.int .i64 j,.int .i64 f,.big M] S0 (fun _ S'=>cS S' b g n m (fun i r=>if i=j/\f<=r then A i r%M else A i r)/\jP S0 S' b g g n):=by
 refine gG Tryz.func266 rfl 38 Tryz.ntmps266 (by kernel_rfl) (by simp) ?_
 rw[aS,Tryz.results266];simp -dsimp only[go_sem,aj,aa,reduceCtorEq]
 repeat refine an ?_
 refine aG.intro fun bc fc=>?_
 try simp -dsimp only[go_sem,aj,aa,aq,ae,↓reduceIte,reduceCtorEq,af,decide_true,decide_false,ay]
 have hbc:b≠bc:=bB.fresh hO.outer fc;have hgc:∀i,i<n->g i≠bc:=fun i hi=>bB.fresh (hO.row i hi) fc;refine aI (fun O S'=>∃r:Nat,f<=r/\r<=m/\O 0=.sl 1 b 0 n/\O 1=.int .i64 j/\O 7=.ptr 2 bc 0/\O 8=.int .i64 r/\cS S' b g n m (fun i c=>if i=j/\f<=c/\c<r then A i c%M else A i c)/\dc S' bc 50 2 (.big M)/\jP S0 S' b g g n) (fun O S=>m-bY (O 8)) ?_ ?_
 ·simp -dsimp only[go_sem,aa,reduceCtorEq];exact⟨f,by omega,hf,rfl,(hO.upd hbc hgc _).congr fun i c _ _=>by rw[if_neg om],dc.new rfl,(jP.refl S0 b g n).upd (bD (bD fc)) _⟩
 ·rintro O S' ⟨r,hr1,hr2,e0,e1,e7,e8,hM1,hV,hC⟩;obtain⟨g1,u1,v1⟩:=id hM1.outer;obtain⟨g2,u2,v2⟩:=id (hM1.row j hj);obtain⟨g3,u3,v3⟩:=id hV;have x1:g1 j=.sl 2 (g j) 0 m:=v1 j hj;by_cases hlt:r<m
  ·have x2:g2 r=.big (A j r):=(v2 r hlt).trans (by dsimp only;rw[if_neg om])
   simp -dsimp only[go_sem,aa,↓reduceIte,reduceCtorEq,af,decide_true,ab,e0,e1,e8,u1,x1,hj,hlt]
   repeat refine an ?_
   refine ee 19 [[17]] (by kernel_rfl) ?_
   simp -dsimp only[go_sem,aa,ae,↓reduceIte,reduceCtorEq,af,ab,e0,e1,e7,e8,u1,x1,hj,hlt,u2,x2,u3,v3,aW (show r<1000000 by omega),bY]
   repeat refine an ?_
   refine⟨_,(nv (hA r hlt) hMb hk om).pure',?_⟩;simp -dsimp only[go_sem]
   repeat refine an ?_
   refine⟨⟨r+1,by omega,by omega,rfl,(hM1.set (j:=r) (z:=A j r%M) hj u2).congr fun i c _ _=>?_,hV.upd (ak (hgc j hj)) _,hC.upd (bD (bH ⟨j,hj,rfl⟩)) _⟩,by omega⟩
   unfold d6;dsimp only;by_cases e:i=j/\c=r
   ·obtain⟨rfl,rfl⟩:=e;rw[if_pos ⟨rfl,rfl⟩,if_pos om]
   ·rw[if_neg e];by_cases e2:i=j/\f<=c/\c<r
    ·rw[if_pos e2,if_pos om]
    ·rw[if_neg e2,if_neg om]
  ·obtain rfl:r=m:=by omega
   simp -dsimp only[go_sem,aa,↓reduceIte,reduceCtorEq,af,decide_false,e0,e1,e8,u1,x1,hj,hlt];refine And.intro om ?_;exact⟨hM1.congr fun i c _ hc=>by
    by_cases e:i=j/\f<=c
    ·rw[if_pos e,if_pos om]
    ·rw[if_neg e,if_neg om],hC⟩
def ms(A:aU)(i j:Nat)(a b x y:Int):aU:=fun c r=>if c=i then a*A i r+b*A j r else if c=j then x*A j r+-y*A i r else A c r
def B3(A:aU)(j f:Nat)(M:Int):aU:=fun c r=>if c=j/\f<=r then A c r%M else A c r
def wG(A:aU)(i j:Nat)(M:Int):aU:=if A j i=0 then A else
 B3 (B3 (ms A i j (bz (A i i).toNat (A j i).toNat).2.1 (bz (A i i).toNat (A j i).toNat).2.2 (A i i/(bz (A i i).toNat (A j i).toNat).1) (A j i/(bz (A i i).toNat (A j i).toNat).1)) i i M) j i M
theorem iG{z:Int}(h:0<=z/\z<2147483648):nb z 31:=by unfold nb;omega
theorem vu{x y:Int}(hx:0<=x/\x<4294967296)(hy:0<=y/\y<4294967296)(hp:x≠0∨y≠0):PF 268 [.big x,.big y] (.tup [.big (bz x.toNat y.toNat).1,.big (bz x.toNat y.toNat).2.1,.big (bz x.toNat y.toNat).2.2]):=by
 have:=EI x.toNat y.toNat om om om;rw[gD hx.1,gD hy.1]at this;exact this
structure se(T:St)(b:Nat)(g:Nat->Nat)(N m i j:Nat)(v1 v2:Nat->Int)(PL:List (Nat×Nat×AV))(BL:List (Nat×AV))(L:Nat->Bool)(O:Tm)(S:St):Prop where
 base:∀e∈BL,O e.1=e.2
 pure:∀e∈PL,L e.1=true->O e.2.1=e.2.2
 mem:∃c1 c2,(L 9=true->O 60=.sl 2 c1 0 m/\gV S c1 m v1/\T c1=ac)/\(L 16=true->O 67=.sl 2 c2 0 m/\gV S c2 m v2/\T c2=ac/\c1≠c2)/\bB S b 59 1 N (fun k=>.sl 2 (if L 18=true/\k=i then c1 else if L 20=true/\k=j then c2 else g k) 0 m)
 keep:fU b T S
 ord:(L 15=true->L 9=true)/\(L 16=true->L 15=true)/\(L 18=true->L 16=true)/\(L 20=true->L 18=true)
theorem se.put{T:St}{b:Nat}{g:Nat->Nat}{N m i j:Nat}{v1 v2:Nat->Int}{PL:List (Nat×Nat×AV)}{BL:List (Nat×AV)}{L:Nat->Bool}{O:Tm}{S:St}(h:se T b g N m i j v1 v2 PL BL L O S){k d:Nat}{z:AV}
  (h1:∀e∈PL,e.1=k->e.2.2=z) (h2:∀e∈PL,e.1≠k->e.2.1≠d) (h2':∀e∈PL,e.1=k->e.2.1=d) (h3:∀e∈BL,e.1≠d) (h4:d≠60/\d≠67) (h5:k≠9/\k≠16/\k≠18/\k≠20) (h6:k=15->L 9=true) :
  se T b g N m i j v1 v2 PL BL (fun c=>if c=k then true else L c) (O.put (some d) z) S:=by
 have hp:∀t,t≠d->(O.put (some d) z) t=O t:=fun t ht=>by rw[Tm.put_eq];exact if_neg ht
 have hd:(O.put (some d) z) d=z:=by rw[Tm.put_eq];exact if_pos rfl
 refine⟨fun e he=>by rw[hp _ (h3 e he)];exact h.base e he,fun e he hL=>?_,?_,h.keep,?_⟩
 ·by_cases e1:e.1=k
  ·rw[h2' e he e1,hd,h1 e he e1]
  ·rw[hp _ (h2 e he e1)];simp only[e1,if_false]at hL;exact h.pure e he hL
 ·obtain⟨c1,c2,m1,m2,m3⟩:=h.mem;refine⟨c1,c2,?_,?_,?_⟩
  ·rw[if_neg (ak h5.1),hp _ (ak h4.1)];exact m1
  ·rw[if_neg (ak h5.2.1),hp _ (ak h4.2)];exact m2
  ·rw[if_neg (ak h5.2.2.1),if_neg (ak h5.2.2.2)];exact m3
 ·obtain⟨o1,o2,o3,o4⟩:=h.ord;rw[if_neg (ak h5.1),if_neg (ak h5.2.1),if_neg (ak h5.2.2.1),if_neg (ak h5.2.2.2)];refine⟨fun h7=>?_,fun h7=>?_,o3,o4⟩
  ·by_cases e:15=k
   ·exact h6 e.symm
   ·rw[if_neg e]at h7;exact o1 h7
  ·by_cases e:15=k
   ·rw[if_pos e]
   ·rw[if_neg e];exact o2 h7
structure Hk(S0 S:St)(b b7 b8 b9 b11 b12:Nat)(g:Nat->Nat)(N m:Nat)(A:aU)(M x y a b':Int):Prop where
 mat:cS S b g N m A
 cols:jP S0 S b g g N
 v7:dc S b7 50 2 (.big M)
 v8:dc S b8 50 2 (.big x)
 v9:dc S b9 50 2 (.big y)
 v11:dc S b11 50 2 (.big a)
 v12:dc S b12 50 2 (.big b')
 n7:S0 b7=ac
section
variable {S0 T:St} {b b7 b8 b9 b11 b12:Nat} {g:Nat->Nat} {N m i j:Nat} {A:aU} {M x y a b':Int} {v1 v2:Nat->Int} {PL:List (Nat×Nat×AV)} {BL:List (Nat×AV)} {L:Nat->Bool} {O:Tm} {S:St}
theorem fU.fresh(h:fU b T S)(hb:S b≠ac){c:Nat}(hc:S c=ac):T c=ac:=by
 cases e:T c with
 | none=>rfl
 | some X =>
  have:c≠b:=fun e2=>hb (e2▸hc);rw[h c X e this]at hc;cases hc
theorem se.off(h:se T b g N m i j v1 v2 PL BL L O S)(h16:L 16=false):L 18=false/\L 20=false:=by
 obtain⟨o1,o2,o3,o4⟩:=h.ord;have h18:L 18=false:=by cases e:L 18 with
  | false=>rfl
  | true=>rw[o3 e]at h16;cases h16
 refine⟨h18,?_⟩
 cases e:L 20 with
 | false=>rfl
 | true=>rw[o4 e]at h18;cases h18
theorem se.colS(hC:Hk S0 T b b7 b8 b9 b11 b12 g N m A M x y a b')(h:se T b g N m i j v1 v2 PL BL L O S)(h16:L 16=false):lS S b g N m A:=by
 obtain⟨c1,c2,m1,m2,m3⟩:=h.mem;obtain⟨k1,k2⟩:=h.off h16;exact⟨m3.congr fun k _=>by simp[k1,k2],fun k hk=>h.keep.has (hC.mat.row k hk) (ak (hC.mat.outer_ne hk))⟩
theorem se.call9(hC:Hk S0 T b b7 b8 b9 b11 b12 g N m A M x y a b')(h:se T b g N m i j (fun r=>a*A i r+b'*A j r) v2 PL BL L O S)(hL:L 9=false)(hij:i<j)(hj:j<N)(hm:m<=100)(hA:∀c r,c<N->r<m->0<=A c r/\A c r<2147483648)(na:nb a 31)(nb':nb b' 31)
  (h1:∀e∈PL,e.1≠9/\e.2.1≠60) (h2:∀e∈BL,e.1≠60) :
  cM 269 [.sl 1 b 0 N,.int .i64 i,.big a,.int .i64 j,.big b'] S (fun z S'=>se T b g N m i j (fun r=>a*A i r+b'*A j r) v2 PL BL (fun k=>if k=9 then true else L k) (O.put (some 60) z) S'):=by
 obtain⟨o1,o2,o3,o4⟩:=h.ord;have h15:L 15=false:=by cases e:L 15 with
  | false=>rfl
  | true=>rw[o1 e]at hL;cases hL
 have h16:L 16=false:=by cases e:L 16 with
  | false=>rfl
  | true=>rw[o2 e]at h15;cases h15
 obtain⟨k1,k2⟩:=h.off h16;have hcol:=se.colS hC h h16;refine(lI N m 31 i j A a b' om hj hm (fun c r hc hr=>iG (hA c r hc hr)) na nb' om _ _ (dY.first hcol.vr.va)).mono ?_
 rintro _ S1 ⟨c1,rfl,hI,hE,hn⟩;have hp:∀t,t≠60->(O.put (some 60) (.sl 2 c1 0 m)) t=O t:=fun t ht=>by rw[Tm.put_eq];exact if_neg ht
 have hd:(O.put (some 60) (.sl 2 c1 0 m)) 60=.sl 2 c1 0 m:=by rw[Tm.put_eq];exact if_pos rfl
 have hbs:S b≠ac:=by obtain⟨z,k,_⟩:=hcol.outer;rw[k];simp
 refine⟨fun e he=>by rw[hp _ (h2 e he)];exact h.base e he,fun e he hl=>?_,⟨c1,0,fun _=>⟨hd,hI,h.keep.fresh hbs hn⟩,fun h7=>?_,?_⟩,h.keep.trans (fU.ext hE),?_⟩
 ·rw[hp _ (h1 e he).2];simp only[(h1 e he).1,if_false]at hl;exact h.pure e he hl
 ·simp[h16]at h7
 ·refine(hE.has hcol.outer).congr fun k _=>?_;simp[k1,k2]
 ·simp[h15,h16,k1,k2]
theorem se.call16(hC:Hk S0 T b b7 b8 b9 b11 b12 g N m A M x y a b')(h:se T b g N m i j v1 (fun r=>x*A j r+-y*A i r) PL BL L O S)(hL:L 16=false)(h15:L 15=true)(hij:i<j)(hj:j<N)(hm:m<=100)(hA:∀c r,c<N->r<m->0<=A c r/\A c r<2147483648)(na:nb x 31)(nb':nb y 31)
  (h1:∀e∈PL,e.1≠16/\e.2.1≠67) (h2:∀e∈BL,e.1≠67) :
  cM 269 [.sl 1 b 0 N,.int .i64 j,.big x,.int .i64 i,.big (-y)] S (fun z S'=>se T b g N m i j v1 (fun r=>x*A j r+-y*A i r) PL BL (fun k=>if k=16 then true else L k) (O.put (some 67) z) S'):=by
 obtain⟨o1,o2,o3,o4⟩:=h.ord;obtain⟨k1,k2⟩:=h.off hL;have hcol:=se.colS hC h hL;refine(lI N m 31 j i A x (-y) hj om hm (fun c r hc hr=>iG (hA c r hc hr)) na nb'.neg om _ _ (dY.first hcol.vr.va)).mono ?_
 rintro _ S1 ⟨c2,rfl,hI,hE,hn⟩;have hp:∀t,t≠67->(O.put (some 67) (.sl 2 c2 0 m)) t=O t:=fun t ht=>by rw[Tm.put_eq];exact if_neg ht
 have hd:(O.put (some 67) (.sl 2 c2 0 m)) 67=.sl 2 c2 0 m:=by rw[Tm.put_eq];exact if_pos rfl
 have hbs:S b≠ac:=by obtain⟨z,k,_⟩:=hcol.outer;rw[k];simp
 obtain⟨c1,_,m1,_,_⟩:=h.mem;obtain⟨q1,q2,q3⟩:=m1 (o1 h15);refine⟨fun e he=>by rw[hp _ (h2 e he)];exact h.base e he,fun e he hl=>?_,⟨c1,c2,fun _=>⟨by rw[hp _ (by decide)];exact q1,hE.has q2,q3⟩,fun _=>⟨hd,hI,h.keep.fresh hbs hn,bB.fresh q2 hn⟩,?_⟩,h.keep.trans (fU.ext hE),?_⟩
 ·rw[hp _ (h1 e he).2];simp only[(h1 e he).1,if_false]at hl;exact h.pure e he hl
 ·refine(hE.has hcol.outer).congr fun k _=>?_;simp[k1,k2]
 ·simp[h15,o1 h15,k1,k2]
theorem se.st18(h:se T b g N m i j v1 v2 PL BL L O S)(h9:L 9=true)(h16:L 16=true)(hL:L 18=false)(hij:i<j)(hj:j<N)(h1:∀e∈PL,e.1≠18) :
  ∃c1 g1,O 60=.sl 2 c1 0 m/\S b=some ⟨59,1,N,g1⟩/\se T b g N m i j v1 v2 PL BL (fun k=>if k=18 then true else L k) O (S.upd b ⟨59,1,N,bK g1 i (.sl 2 c1 0 m)⟩):=by
 obtain⟨o1,o2,o3,o4⟩:=h.ord;have h20:L 20=false:=by cases e:L 20 with
  | false=>rfl
  | true=>rw[o4 e]at hL;cases hL
 obtain⟨c1,c2,m1,m2,m3⟩:=h.mem;obtain⟨q1,q2,q3⟩:=m1 h9;obtain⟨r1,r2,r3,r4⟩:=m2 h16;obtain⟨g1,u1,w1⟩:=id m3;have n1:c1≠b:=ak (bB.ne m3 q2 (by decide))
 have n2:c2≠b:=ak (bB.ne m3 r2 (by decide))
 refine⟨c1,g1,q1,u1,h.base,fun e he hl=>?_,⟨c1,c2,fun _=>⟨q1,q2.upd n1 _,q3⟩,fun _=>⟨r1,r2.upd n2 _,r3,r4⟩,bB.here fun k hk=>?_⟩,h.keep.upd (bH rfl) _,?_⟩
 ·simp only[h1 e he,if_false]at hl;exact h.pure e he hl
 ·have:=w1 k hk;simp only[bK];by_cases e:k=i
  ·simp[e]
  ·rw[if_neg e,this];simp[e,h20]
 ·simp[h9,h16,h20,o2 h16]
theorem se.st20(h:se T b g N m i j v1 v2 PL BL L O S)(h16:L 16=true)(h18:L 18=true)(hL:L 20=false)(hij:i<j)(hj:j<N)(h1:∀e∈PL,e.1≠20) :
  ∃c2 g1,O 67=.sl 2 c2 0 m/\S b=some ⟨59,1,N,g1⟩/\se T b g N m i j v1 v2 PL BL (fun k=>if k=20 then true else L k) O (S.upd b ⟨59,1,N,bK g1 j (.sl 2 c2 0 m)⟩):=by
 obtain⟨o1,o2,o3,o4⟩:=h.ord;obtain⟨c1,c2,m1,m2,m3⟩:=h.mem;obtain⟨q1,q2,q3⟩:=m1 (o1 (o2 h16));obtain⟨r1,r2,r3,r4⟩:=m2 h16;obtain⟨g1,u1,w1⟩:=id m3;have n1:c1≠b:=ak (bB.ne m3 q2 (by decide))
 have n2:c2≠b:=ak (bB.ne m3 r2 (by decide))
 refine⟨c2,g1,r1,u1,h.base,fun e he hl=>?_,⟨c1,c2,fun _=>⟨q1,q2.upd n1 _,q3⟩,fun _=>⟨r1,r2.upd n2 _,r3,r4⟩,bB.here fun k hk=>?_⟩,h.keep.upd (bH rfl) _,?_⟩
 ·simp only[h1 e he,if_false]at hl;exact h.pure e he hl
 ·have:=w1 k hk;simp only[bK];by_cases e:k=j
  ·have:¬j=i:=by omega
   simp[e,h18,this]
  ·rw[if_neg e,this];simp[e,h18]
 ·simp[h16,h18,o2 h16,o1 (o2 h16)]
theorem se.fin(hC:Hk S0 T b b7 b8 b9 b11 b12 g N m A M x y a b')(h:se T b g N m i j (fun r=>a*A i r+b'*A j r) (fun r=>x*A j r+-y*A i r) PL BL L O S)(hL:∀k,k<21->L k=true)(hij:i<j):∃g',cS S b g' N m (ms A i j a b' x y)/\jP T S b g g' N:=by
 obtain⟨c1,c2,m1,m2,m3⟩:=h.mem;obtain⟨q1,q2,q3⟩:=m1 (hL 9 om);obtain⟨r1,r2,r3,r4⟩:=m2 (hL 16 om);have hg:∀k,k<N->T (g k)≠ac:=fun k hk=>by obtain⟨z,e,_⟩:=hC.mat.row k hk;rw[e];simp
 refine⟨fun k=>if k=i then c1 else if k=j then c2 else g k,⟨m3.congr fun k _=>by simp[hL 18 om,hL 20 om],fun k hk=>?_,fun k l hk hl e=>?_⟩,fun k X hX hk _=>h.keep k X hX hk,fun k hk=>?_⟩
 ·by_cases e1:k=i
  ·simp only[e1,if_true];exact q2.congr fun r _=>by simp[ms]
  ·by_cases e2:k=j
   ·simp only[e2,if_true,show ¬j=i by omega,if_false]
    exact r2.congr fun r _=>by simp[ms,show ¬j=i by omega]
   ·simp only[e1,e2,if_false];exact(h.keep.has (hC.mat.row k hk) (ak (hC.mat.outer_ne hk))).congr fun r _=>by simp[ms,e1,e2]
 ·have gc1:∀k,k<N->g k≠c1:=fun k hk e=>hg k hk (e▸q3);have gc2:∀k,k<N->g k≠c2:=fun k hk e=>hg k hk (e▸r3);by_cases a1:k=i
  ·by_cases b1:l=i
   ·omega
   ·by_cases b2:l=j
    ·rw[if_pos a1,if_neg b1,if_pos b2]at e;exact absurd e r4
    ·rw[if_pos a1,if_neg b1,if_neg b2]at e;exact absurd e.symm (gc1 l hl)
  ·by_cases a2:k=j
   ·by_cases b1:l=i
    ·rw[if_neg a1,if_pos a2,if_pos b1]at e;exact absurd e.symm r4
    ·by_cases b2:l=j
     ·omega
     ·rw[if_neg a1,if_pos a2,if_neg b1,if_neg b2]at e;exact absurd e.symm (gc2 l hl)
   ·by_cases b1:l=i
    ·rw[if_neg a1,if_neg a2,if_pos b1]at e;exact absurd e (gc1 k hk)
    ·by_cases b2:l=j
     ·rw[if_neg a1,if_neg a2,if_neg b1,if_pos b2]at e;exact absurd e (gc2 k hk)
     ·rw[if_neg a1,if_neg a2,if_neg b1,if_neg b2]at e;exact hC.mat.inj k l hk hl e
 ·by_cases a1:k=i
  ·simp only[a1,if_true];exact bD q3
  ·by_cases a2:k=j
   ·simp only[a2,if_true,show ¬j=i by omega,if_false];exact bD r3
   ·simp only[a1,a2,if_false];exact bH ⟨k,hk,rfl⟩
end
theorem md{ops:Array Oper}{O:Tm}{S:St}{K:Tm->St->Prop}(P:St->Prop)(hP:P S)(h:∀T,P T->Fm ops O T K):Fm ops O S K:=h S hP
theorem c9{ops:Array Oper}{o:Oper}{O:Tm}{S:St}{K:Tm->St->Prop}(h:o.guard=ac)(k:Hn o O S (fun z S'=>K (O.put o.dst z) S')):wb ops o O S K:=by unfold wb;rw[h];exact k
theorem Cz(S0:St)(b:Nat)(g:Nat->Nat)(N m i j:Nat)(A:aU)(M:Int)(hij:i<j)(hj:j<N)(hi:i<m)(hm:m<=100)(hM:0<M)(hMb:nb M 31)(hA:∀c r,c<N->r<m->0<=A c r/\A c r<2147483648)(hO:cS S0 b g N m A) :
  cM 267 [.sl 1 b 0 N,.int .i64 i,.int .i64 j,.big M] S0 (fun _ S'=>∃g',cS S' b g' N m (wG A i j M)/\jP S0 S' b g g' N):=by
 refine gG Tryz.func267 rfl 80 Tryz.ntmps267 (by kernel_rfl) (by simp) ?_
 rw[aS,Tryz.results267];have hiN:i<N:=by omega
 simp -dsimp only[go_sem,aj,aa,reduceCtorEq]
 repeat refine an ?_
 refine aG.intro fun b7 f7=>?_;have hO1:=hO.ext ((eZ.refl S0).upd f7 ⟨50,2,1,fun _=>.big M⟩);obtain⟨g1,u1,v1⟩:=id hO1.outer;obtain⟨g2,u2,v2⟩:=id (hO1.row i hiN);obtain⟨g3,u3,v3⟩:=id (hO1.row j hj);have x1:g1 i=.sl 2 (g i) 0 m:=v1 i hiN;have x2:g1 j=.sl 2 (g j) 0 m:=v1 j hj;have x3:g2 i=.big (A i i):=v2 i hi;have x4:g3 i=.big (A j i):=v3 i hi;refine mT 16 [[7,8,9,10,11,12,13],[]] (by kernel_rfl) ?_
 simp -dsimp only[go_sem,aa,ae,↓reduceIte,reduceCtorEq,af,ab,u1,x1,x2,u2,x3,u3,x4,hiN,hj,hi]
 repeat refine an ?_
 refine aG.intro fun b8 f8=>?_;have n8_7:=(ai f8).1
 try simp -dsimp only[go_sem]
 refine aG.intro fun b9 f9=>?_;have n9_8:=(ai f9).1;have n9_7:=(ai (ai f9).2).1;have s8:S0 b8=ac:=(ai f8).2;have s9:S0 b9=ac:=(ai (ai f9).2).2;have w7:b≠b7:=bB.fresh hO.outer f7;have w8:b≠b8:=bB.fresh hO.outer s8;have w9:b≠b9:=bB.fresh hO.outer s9;have y7:∀a,a<N->g a≠b7:=fun a ha=>bB.fresh (hO.row a ha) f7;have y8:∀a,a<N->g a≠b8:=fun a ha=>bB.fresh (hO.row a ha) s8;have y9:∀a,a<N->g a≠b9:=fun a ha=>bB.fresh (hO.row a ha) s9;have w8i:=y8 i hiN;have w8j:=y8 j hj;have w9i:=y9 i hiN;have w9j:=y9 j hj;simp -dsimp only[go_sem,aa,ae,↓reduceIte,reduceCtorEq,af,u1,x2,u3,x4,hj,hi,bK,w8,w8j,w9,w9j,nn n9_8]
 repeat refine an ?_
 have ki:=hA i i hiN hi;have kj:=hA j i hj hi;refine(jh (iG kj) om).call ?_;by_cases hz:A j i=0
 ·simp -dsimp only[go_sem,aa,aq,ae,↓reduceIte,hz,show(Int.sign 0==0)=true from rfl];refine⟨g,?_,?_⟩
  ·rw[wG,if_pos hz]
   repeat' first|exact hO|refine cS.upd ?_ (by assumption) (by assumption) _
  ·repeat' first|exact jP.refl S0 b g N|refine jP.upd ?_ (bD (bD (by assumption))) _
 ·have hs:((A j i).sign==0)=false:=by
   have:(A j i).sign=1:=Int.sign_eq_one_of_pos om;rw[this];rfl
  simp -dsimp only[go_sem,aa,ae,↓reduceIte,ab,hs,ak n9_8,d7]
  repeat refine an ?_
  refine(vu om om (bD hz)).call ?_;generalize hbz:bz (A i i).toNat (A j i).toNat=D at *;simp -dsimp only[go_sem,aa,↓reduceIte,d7]
  repeat refine an ?_
  refine aG.intro fun b10 f10=>?_;have n10_9:=(ai f10).1;have n10_8:=(ai (ai f10).2).1;have n10_9:=(ai (ai (ai f10).2).2).1;have n10_8:=(ai (ai (ai (ai f10).2).2).2).1;have n10_7:=(ai (ai (ai (ai (ai f10).2).2).2).2).1;simp -dsimp only[go_sem]
  repeat refine an ?_
  refine aG.intro fun b11 f11=>?_;have n11_10:=(ai f11).1;have n11_9:=(ai (ai f11).2).1;have n11_8:=(ai (ai (ai f11).2).2).1;have n11_9:=(ai (ai (ai (ai f11).2).2).2).1;have n11_8:=(ai (ai (ai (ai (ai f11).2).2).2).2).1;have n11_7:=(ai (ai (ai (ai (ai (ai f11).2).2).2).2).2).1;simp -dsimp only[go_sem]
  repeat refine an ?_
  refine aG.intro fun b12 f12=>?_;have n12_11:=(ai f12).1;have n12_10:=(ai (ai f12).2).1;have n12_9:=(ai (ai (ai f12).2).2).1;have n12_8:=(ai (ai (ai (ai f12).2).2).2).1;have n12_9:=(ai (ai (ai (ai (ai f12).2).2).2).2).1;have n12_8:=(ai (ai (ai (ai (ai (ai f12).2).2).2).2).2).1;have n12_7:=(ai (ai (ai (ai (ai (ai (ai f12).2).2).2).2).2).2).1;simp -dsimp only[go_sem,aa,ae,↓reduceIte,ab,nn n11_10,nn n12_10,nn n12_11,ak n9_8,ak n10_8,ak n11_8,ak n12_8,d7]
  repeat refine an ?_
  have s10:S0 b10=ac:=(ai (ai (ai (ai (ai f10).2).2).2).2).2;have s11:S0 b11=ac:=(ai (ai (ai (ai (ai (ai f11).2).2).2).2).2).2;have s12:S0 b12=ac:=(ai (ai (ai (ai (ai (ai (ai f12).2).2).2).2).2).2).2;have w10:b≠b10:=bB.fresh hO.outer s10;have w11:b≠b11:=bB.fresh hO.outer s11;have w12:b≠b12:=bB.fresh hO.outer s12;have y10:∀a,a<N->g a≠b10:=fun a ha=>bB.fresh (hO.row a ha) s10;have y11:∀a,a<N->g a≠b11:=fun a ha=>bB.fresh (hO.row a ha) s11;have y12:∀a,a<N->g a≠b12:=fun a ha=>bB.fresh (hO.row a ha) s12;have hD1:=CB (A j i).toNat (A i i).toNat (A j i).toNat om (bD om);have hD2:=GU (A j i).toNat (A i i).toNat (A j i).toNat om om;rw[hbz]at hD1 hD2;have nD1:nb D.1 31:=by unfold nb;omega
  have nD2:nb D.2.1 31:=by unfold nb;omega
  have nD3:nb D.2.2 31:=by unfold nb;omega
  refine(kc (iG ki) nD1 om om (bD ((iG ki).mono om))).call ?_;simp -dsimp only[go_sem,aa,ae,↓reduceIte,ab,nn n9_8,nn n10_8,ak n10_9,ak n11_8,ak n11_9,ak n11_10,ak n12_8,ak n12_9,ak n12_10,d7]
  repeat refine an ?_
  refine(kc (iG kj) nD1 om om (bD ((iG kj).mono om))).call ?_;simp -dsimp only[go_sem,aa,ae,↓reduceIte,ab,n9_8,ak n10_9,ak n11_9,ak n12_9,d7]
  repeat refine an ?_
  have hx':nb (A i i/D.1) 31:=by
   have:=ri D.1 ki.1;have:=sO ki.1 (cA hD1.1);unfold nb;omega
  have hy':nb (A j i/D.1) 31:=by
   have:=ri D.1 kj.1;have:=sO kj.1 (cA hD1.1);unfold nb;omega
  refine md (fun T=>Hk S0 T b b7 b8 b9 b11 b12 g N m A M (A i i/D.1) (A j i/D.1) D.2.1 D.2.2) ?_ ?_
  ·constructor
   ·repeat' first|exact hO|refine cS.upd ?_ (by assumption) (by assumption) _
   ·repeat' first|exact jP.refl S0 b g N|refine jP.upd ?_ (bD (bD (by assumption))) _
   all_goals first|exact f7|simp only[dc.at_hit,dc.at_miss,ne_eq,not_false_eq_true,bK,if_true,n11_8,n11_9,n12_8,n12_9,ak n8_7,ak n9_7,ak n9_8,ak n10_7,ak n11_7,ak n12_7,ak n12_11]
  intro T hC;generalize hxx:A i i/D.1=x' at *;generalize hyy:A j i/D.1=y' at *;refine xU (se T b g N m i j (fun r=>D.2.1*A i r+D.2.2*A j r) (fun r=>x'*A j r+-y'*A i r) [(0,51,.sl 1 b 0 N),(1,52,.int .i64 i),(2,53,.sl 1 b 0 N),(3,54,.int .i64 j),(4,55,.sl 1 b 0 N),(5,56,.int .i64 i),(6,57,.big D.2.1),(7,58,.int .i64 j),(8,59,.big D.2.2),(10,61,.sl 1 b 0 N),(11,62,.int .i64 j),(12,63,.big x'),(13,64,.int .i64 i),(14,65,.big y'),(15,66,.big (-y')),(17,68,.ptr 1 b i),(19,69,.ptr 1 b j)] [(0,.sl 1 b 0 N),(1,.int .i64 i),(2,.int .i64 j),(7,.ptr 2 b7 0),(8,.ptr 2 b8 0),(9,.ptr 2 b9 0),(11,.ptr 2 b11 0),(12,.ptr 2 b12 0)]) (by kernel_rfl) ?_ ?_ ?_
  ·refine⟨?_,(fun e _ h=>by cases h),⟨0,0,(fun h=>by cases h),(fun h=>by cases h),hC.mat.outer.congr fun k _=>by simp⟩,fU.refl _ _,by simp⟩
   simp only[List.forall_mem_cons,List.not_mem_nil,false_implies,implies_true,and_true];simp -dsimp only[go_sem,aa,↓reduceIte,reduceCtorEq]
  ·clear f8 f9 f10 f11 f12 hbz;refine⟨?_,?_,?_,?_,?_,?_,?_,?_,?_,?_,?_,?_,?_,?_,?_,?_,?_,?_,?_,?_,?_,trivial⟩
   ·intro L O S hP hL ha;have al:∀k,_->L k=true:=az.1 ha;refine c9 rfl ?_;have e0:O 0=.sl 1 b 0 N:=hP.base (0,.sl 1 b 0 N) (by simp)
    simp -dsimp only[go_sem,e0];exact hP.put (by simp) (by simp) (by simp) (by simp) (by decide) (by decide) (by intro h;cases h)
   ·intro L O S hP hL ha;have al:∀k,_->L k=true:=az.1 ha;refine c9 rfl ?_;have e1:O 1=.int .i64 i:=hP.base (1,.int .i64 i) (by simp)
    simp -dsimp only[go_sem,e1];exact hP.put (by simp) (by simp) (by simp) (by simp) (by decide) (by decide) (by intro h;cases h)
   ·intro L O S hP hL ha;have al:∀k,_->L k=true:=az.1 ha;refine c9 rfl ?_;have e0:O 0=.sl 1 b 0 N:=hP.base (0,.sl 1 b 0 N) (by simp)
    simp -dsimp only[go_sem,aj,e0];exact hP.put (by simp) (by simp) (by simp) (by simp) (by decide) (by decide) (by intro h;cases h)
   ·intro L O S hP hL ha;have al:∀k,_->L k=true:=az.1 ha;refine c9 rfl ?_;have e2:O 2=.int .i64 j:=hP.base (2,.int .i64 j) (by simp)
    simp -dsimp only[go_sem,aj,e2];exact hP.put (by simp) (by simp) (by simp) (by simp) (by decide) (by decide) (by intro h;cases h)
   ·intro L O S hP hL ha;have al:∀k,_->L k=true:=az.1 ha;refine c9 rfl ?_;have e0:O 0=.sl 1 b 0 N:=hP.base (0,.sl 1 b 0 N) (by simp)
    simp -dsimp only[go_sem,aj,e0];exact hP.put (by simp) (by simp) (by simp) (by simp) (by decide) (by decide) (by intro h;cases h)
   ·intro L O S hP hL ha;have al:∀k,_->L k=true:=az.1 ha;refine c9 rfl ?_;have e1:O 1=.int .i64 i:=hP.base (1,.int .i64 i) (by simp)
    simp -dsimp only[go_sem,aj,e1];exact hP.put (by simp) (by simp) (by simp) (by simp) (by decide) (by decide) (by intro h;cases h)
   ·intro L O S hP hL ha;have al:∀k,_->L k=true:=az.1 ha;refine c9 rfl ?_;have e11:O 11=.ptr 2 b11 0:=hP.base (11,.ptr 2 b11 0) (by simp)
    obtain⟨gg,uu,xx⟩:=hP.keep.var hC.v11 (ak w11);simp -dsimp only[go_sem,aj,↓reduceIte,e11,uu,xx];exact hP.put (by simp) (by simp) (by simp) (by simp) (by decide) (by decide) (by intro h;cases h)
   ·intro L O S hP hL ha;have al:∀k,_->L k=true:=az.1 ha;refine c9 rfl ?_;have e2:O 2=.int .i64 j:=hP.base (2,.int .i64 j) (by simp)
    simp -dsimp only[go_sem,aj,e2];exact hP.put (by simp) (by simp) (by simp) (by simp) (by decide) (by decide) (by intro h;cases h)
   ·intro L O S hP hL ha;have al:∀k,_->L k=true:=az.1 ha;refine c9 rfl ?_;have e12:O 12=.ptr 2 b12 0:=hP.base (12,.ptr 2 b12 0) (by simp)
    obtain⟨gg,uu,xx⟩:=hP.keep.var hC.v12 (ak w12);simp -dsimp only[go_sem,aj,↓reduceIte,e12,uu,xx];exact hP.put (by simp) (by simp) (by simp) (by simp) (by decide) (by decide) (by intro h;cases h)
   ·intro L O S hP hL ha;have al:∀k,_->L k=true:=az.1 ha;refine c9 rfl ?_;have p4:O 55=.sl 1 b 0 N:=hP.pure (4,55,.sl 1 b 0 N) (by simp) (al 4 (by decide))
    have p5:O 56=.int .i64 i:=hP.pure (5,56,.int .i64 i) (by simp) (al 5 (by decide))
    have p6:O 57=.big D.2.1:=hP.pure (6,57,.big D.2.1) (by simp) (al 6 (by decide))
    have p7:O 58=.int .i64 j:=hP.pure (7,58,.int .i64 j) (by simp) (al 7 (by decide))
    have p8:O 59=.big D.2.2:=hP.pure (8,59,.big D.2.2) (by simp) (al 8 (by decide))
    simp -dsimp only[go_sem,aa,aq,ae,p4,p5,p6,p7,p8];exact se.call9 hC hP hL hij hj hm hA nD2 nD3 (by simp) (by simp)
   ·intro L O S hP hL ha;have al:∀k,_->L k=true:=az.1 ha;refine c9 rfl ?_;have e0:O 0=.sl 1 b 0 N:=hP.base (0,.sl 1 b 0 N) (by simp)
    simp -dsimp only[go_sem,aj,e0];exact hP.put (by simp) (by simp) (by simp) (by simp) (by decide) (by decide) (by intro h;cases h)
   ·intro L O S hP hL ha;have al:∀k,_->L k=true:=az.1 ha;refine c9 rfl ?_;have e2:O 2=.int .i64 j:=hP.base (2,.int .i64 j) (by simp)
    simp -dsimp only[go_sem,aj,e2];exact hP.put (by simp) (by simp) (by simp) (by simp) (by decide) (by decide) (by intro h;cases h)
   ·intro L O S hP hL ha;have al:∀k,_->L k=true:=az.1 ha;refine c9 rfl ?_;have e8:O 8=.ptr 2 b8 0:=hP.base (8,.ptr 2 b8 0) (by simp)
    obtain⟨gg,uu,xx⟩:=hP.keep.var hC.v8 (ak w8);simp -dsimp only[go_sem,aj,↓reduceIte,e8,uu,xx];exact hP.put (by simp) (by simp) (by simp) (by simp) (by decide) (by decide) (by intro h;cases h)
   ·intro L O S hP hL ha;have al:∀k,_->L k=true:=az.1 ha;refine c9 rfl ?_;have e1:O 1=.int .i64 i:=hP.base (1,.int .i64 i) (by simp)
    simp -dsimp only[go_sem,aj,e1];exact hP.put (by simp) (by simp) (by simp) (by simp) (by decide) (by decide) (by intro h;cases h)
   ·intro L O S hP hL ha;have al:∀k,_->L k=true:=az.1 ha;refine c9 rfl ?_;have e9:O 9=.ptr 2 b9 0:=hP.base (9,.ptr 2 b9 0) (by simp)
    obtain⟨gg,uu,xx⟩:=hP.keep.var hC.v9 (ak w9);simp -dsimp only[go_sem,aj,↓reduceIte,e9,uu,xx];exact hP.put (by simp) (by simp) (by simp) (by simp) (by decide) (by decide) (by intro h;cases h)
   ·intro L O S hP hL ha;have al:∀k,_->L k=true:=az.1 ha;refine c9 rfl ?_;have p14:O 65=.big y':=hP.pure (14,65,.big y') (by simp) (al 14 (by decide))
    simp -dsimp only[go_sem,aa,aq,ae,p14];refine(pS hy' om).call ?_;simp -dsimp only[go_sem,aj];exact hP.put (by simp) (by simp) (by simp) (by simp) (by decide) (by decide) (fun _=>al 9 (by decide))
   ·intro L O S hP hL ha;have al:∀k,_->L k=true:=az.1 ha;refine c9 rfl ?_;have p10:O 61=.sl 1 b 0 N:=hP.pure (10,61,.sl 1 b 0 N) (by simp) (al 10 (by decide))
    have p11:O 62=.int .i64 j:=hP.pure (11,62,.int .i64 j) (by simp) (al 11 (by decide))
    have p12:O 63=.big x':=hP.pure (12,63,.big x') (by simp) (al 12 (by decide))
    have p13:O 64=.int .i64 i:=hP.pure (13,64,.int .i64 i) (by simp) (al 13 (by decide))
    have p15:O 66=.big (-y'):=hP.pure (15,66,.big (-y')) (by simp) (al 15 (by decide))
    simp -dsimp only[go_sem,aa,aq,ae,p10,p11,p12,p13,p15];exact se.call16 hC hP hL (al 15 (by decide)) hij hj hm hA hx' hy' (by simp) (by simp)
   ·intro L O S hP hL ha;have al:∀k,_->L k=true:=az.1 ha;refine c9 rfl ?_;have p0:O 51=.sl 1 b 0 N:=hP.pure (0,51,.sl 1 b 0 N) (by simp) (al 0 (by decide))
    have p1:O 52=.int .i64 i:=hP.pure (1,52,.int .i64 i) (by simp) (al 1 (by decide))
    simp -dsimp only[go_sem,aj,af,p0,p1,hiN]
    repeat refine an ?_
    exact hP.put (by simp) (by simp) (by simp) (by simp) (by decide) (by decide) (by intro h;cases h)
   ·intro L O S hP hL ha;have al:∀k,_->L k=true:=az.1 ha;refine c9 rfl ?_;have p17:O 68=.ptr 1 b i:=hP.pure (17,68,.ptr 1 b i) (by simp) (al 17 (by decide))
    obtain⟨c1,g1,q1,q2,q3⟩:=hP.st18 (al 9 (by decide)) (al 16 (by decide)) hL hij hj (by simp)
    simp -dsimp only[go_sem,aj,↓reduceIte,ab,p17,q1,q2,hiN]
    repeat refine an ?_
    exact q3
   ·intro L O S hP hL ha;have al:∀k,_->L k=true:=az.1 ha;refine c9 rfl ?_;have p2:O 53=.sl 1 b 0 N:=hP.pure (2,53,.sl 1 b 0 N) (by simp) (al 2 (by decide))
    have p3:O 54=.int .i64 j:=hP.pure (3,54,.int .i64 j) (by simp) (al 3 (by decide))
    simp -dsimp only[go_sem,aj,af,p2,p3,hj]
    repeat refine an ?_
    exact hP.put (by simp) (by simp) (by simp) (by simp) (by decide) (by decide) (by intro h;cases h)
   ·intro L O S hP hL ha;have al:∀k,_->L k=true:=az.1 ha;refine c9 rfl ?_;have p19:O 69=.ptr 1 b j:=hP.pure (19,69,.ptr 1 b j) (by simp) (al 19 (by decide))
    obtain⟨c2,g1,q1,q2,q3⟩:=hP.st20 (al 16 (by decide)) (al 18 (by decide)) hL hij hj (by simp)
    simp -dsimp only[go_sem,aj,↓reduceIte,ab,p19,q1,q2,hj]
    repeat refine an ?_
    exact q3
  ·intro L O S hP hL;obtain⟨g',hO',hC'⟩:=se.fin hC hP hL hij;have e0:O 0=.sl 1 b 0 N:=hP.base (0,.sl 1 b 0 N) (by simp)
   have e1:O 1=.int .i64 i:=hP.base (1,.int .i64 i) (by simp)
   have e2:O 2=.int .i64 j:=hP.base (2,.int .i64 j) (by simp)
   have e7:O 7=.ptr 2 b7 0:=hP.base (7,.ptr 2 b7 0) (by simp)
   obtain⟨gg,uu,xx⟩:=hP.keep.var hC.v7 (ak w7);simp -dsimp only[go_sem,aa,ae,↓reduceIte,ab,e0,e1,e7,uu,xx]
   repeat refine an ?_
   have nC:∀c r,c<N->r<m->nb (ms A i j D.2.1 D.2.2 x' y' c r) 63:=fun c r hc hr=>by
    have q1:=iG (hA i r hiN hr);have q2:=iG (hA j r hj hr);unfold ms;split
    ·exact(nD2.mul q1).add (nD3.mul q2)
    ·split
     ·exact(hx'.mul q2).add (hy'.neg.mul q1)
     ·exact(iG (hA c r hc hr)).mono om
   obtain⟨z7,k7,_⟩:=id hC.v7;have g7:∀a,a<N->g' a≠b7:=hC'.ne k7 y7;refine(lX S b g' N m i i _ M hiN hm om hM (hMb.mono om) 63 om (fun r hr=>nC i r hiN hr) hO').mono ?_;rintro _ S1 ⟨hO1',hC1'⟩;obtain⟨g3,u3,x3⟩:=hC1'.var ⟨gg,uu,xx⟩ (ak w7) g7;simp -dsimp only[go_sem,aa,ae,↓reduceIte,reduceCtorEq,ab,e0,e1,e2,e7,u3,x3]
   repeat refine an ?_
   refine(lX S1 b g' N m j i _ M hj hm om hM (hMb.mono om) 63 om (fun r hr=>?_) hO1').mono ?_
   ·rw[if_neg om];exact nC j r hj hr
   rintro _ S2 ⟨hO2',hC2'⟩;simp -dsimp only[go_sem];refine⟨g',?_,(hC.cols.trans (hC'.trans (hC1'.trans hC2' hO1'.some) hO'.some) hC.mat.some)⟩;have e:wG A i j M=B3 (B3 (ms A i j D.2.1 D.2.2 x' y') i i M) j i M:=by
    rw[wG,if_neg hz,hbz,hxx,hyy]
   rw[e];exact hO2'
theorem tc(N m K k:Nat)(A:aU)(ρ:Nat->Nat)(h2:N<=100)(h4:K<=100)(hρ:∀i,i<K->ρ i<m)(hA:∀c r,c<N->r<m->nb (A c r) k)(hk:k<=1000000):MF 234 [aV N m A,bJ K (fun i=>ρ i)] K N (fun i j=>A j (ρ i)):=by
 refine MF.of ?_;refine aA Tryz.func234 rfl 47 Tryz.ntmps234 (by kernel_rfl) (by simp) (by simp[Tryz.results234]) ?_
 rw[aS,Tryz.results234];simp -dsimp only[go_sem,aj,aa,reduceCtorEq,aV,bn,bJ]
 repeat refine an ?_
 refine aG.intro fun bc fc=>?_
 repeat refine an ?_
 simp -dsimp only[go_sem]
 repeat refine an ?_
 refine aI (fun O S'=>∃j:Nat,j<=K/\O 0=aV N m A/\O 5=.sl 1 bc 0 K/\O 12=bJ K (fun i=>ρ i)/\O 13=.int .i64 K/\O 14=.int .i64 j/\∃g',eh 59 50 2 St.none S' bc g' K N j (fun a i=>.big (A i (ρ a)))) (fun O S=>K-bY (O 14)) ?_ ?_
 ·simp -dsimp only[go_sem,aa,reduceCtorEq,aV,bn,bJ];exact⟨0,by omega,rfl,fun _=>0,eh.init fc (fun _ _=>rfl) _ _⟩
 ·rintro O S' ⟨j,hj,e0,e5,e12,e13,e14,g',hR⟩;by_cases hit:j<K
  ·obtain⟨g4,u4,v4⟩:=id hR.outer;simp -dsimp only[go_sem,aa,↓reduceIte,reduceCtorEq,af,decide_true,ab,e0,e5,e12,e13,e14,hit,aV,bn,bJ]
   repeat refine an ?_
   refine aG.intro fun bd fd=>?_
   repeat refine an ?_
   have hdc:bc≠bd:=bB.fresh hR.outer fd;simp -dsimp only[go_sem,hit,u4,hdc]
   repeat refine an ?_
   have hR1:=hR.push (by decide) fd u4 (fun _=>.big 0)
   generalize hgg:(fun a=>if a=j then bd else g' a)=gg at hR1
   refine aI (fun O S'=>∃i:Nat,i<=N/\O 0=aV N m A/\O 5=.sl 1 bc 0 K/\O 6=.int .i64 j/\O 7=.int .i64 (ρ j)/\O 12=bJ K (fun i=>ρ i)/\O 13=.int .i64 K/\O 14=.int .i64 j/\O 26=.int .i64 N/\O 27=.int .i64 i/\eh 59 50 2 St.none S' bc gg K N (j+1) (fun a c=>.big (if a=j/\i<=c then 0 else A c (ρ a)))) (fun O S=>N-bY (O 27)) ?_ ?_
   ·simp -dsimp only[go_sem,aa,reduceCtorEq,e0,e5,e12,e13,e14,aV,bn,bJ];refine⟨0,by omega,rfl,hR1.congr fun a c _ _=>?_⟩
    by_cases e:a=j
    ·simp[e]
    ·simp[e]
   ·clear e0 e5 e12 e13 e14 hR hR1 u4 v4 hgg;rintro O S' ⟨i,hi,e0,e5,e6,e7,e12,e13,e14,e26,e27,hR⟩;by_cases hjt:i<N
    ·obtain⟨g4,u4,v4⟩:=id hR.outer;obtain⟨g5,u5,v5⟩:=id (hR.row j om);have x4:g4 j=.sl 2 (gg j) 0 N:=(v4 j hit).trans (if_pos om);have hr:=hρ j hit;simp -dsimp only[go_sem,aa,↓reduceIte,reduceCtorEq,af,decide_true,e0,e5,e12,e13,e14,e26,e27,hjt,aV,bn,bJ]
     repeat refine an ?_
     refine bG 14 (by kernel_rfl) ?_
     simp -dsimp only[go_sem,aa,ae,↓reduceIte,reduceCtorEq,af,ab,e0,e5,e6,e7,e12,e13,e14,e26,e27,hit,hjt,u4,x4,u5,aV,bn,hr,bJ,aW (show i<1000000 by omega),bY]
     repeat refine an ?_
     refine⟨_,(qr (hA i (ρ j) hjt hr) om).pure',trivial,⟨i+1,by omega,rfl,(hR.put (by decide) (show j<j+1 by omega) u5 i (.big (A i (ρ j)))).congr fun a c _ _=>?_⟩,by omega⟩
     by_cases e:a=j/\c=i
     ·obtain⟨rfl,rfl⟩:=e;rw[if_pos ⟨rfl,rfl⟩,if_neg om]
     ·rw[if_neg e];congr 1;by_cases e2:a=j/\i<=c
      ·rw[if_pos e2,if_pos om]
      ·rw[if_neg e2,if_neg om]
    ·simp -dsimp only[go_sem,aa,↓reduceIte,reduceCtorEq,af,decide_false,e0,e5,e12,e13,e14,e26,e27,hjt,aW (show j<1000000 by omega),bY]
     repeat refine an ?_
     exact⟨⟨j+1,by omega,rfl,rfl,rfl,gg,hR.congr fun a c _ hc=>by rw[if_neg om]⟩,by omega⟩
  ·obtain rfl:j=K:=by omega
   have hN:=hR.mat (A:=fun i j=>A j (ρ i)) (fun _ _ _ _=>rfl);simp -dsimp only[go_sem,aa,↓reduceIte,reduceCtorEq,af,decide_false,ay,ab,e0,e5,e12,e13,e14,hit]
   repeat refine an ?_
   exact⟨bc,rfl,g',hN.1⟩
theorem oq{A:aU}{m:Int}(hm:1<=m)(i j:Nat):0<=jJ A m i j/\jJ A m i j<m:=⟨Int.emod_nonneg _ om,Int.emod_lt_of_pos _ om⟩
theorem Fc(n K l:Nat)(A B:aU)(m:Int)(h1:1<=n)(h2:n<=16)(h3:1<=K)(h4:K<=16)(h5:1<=l)(h6:l<=16)(hm:2<=m)(hm2:m<=2147483647):wK 181 [aK n K A,aK K l B,.int .i64 m] n l (i7 (jJ A m) (jJ B m) K m):=by
 refine wK.of ?_;refine aA Tryz.func181 rfl 39 Tryz.ntmps181 (by kernel_rfl) (by simp) (by simp[Tryz.results181]) ?_
 rw[aS,Tryz.results181];have hp0:0<n:=by omega
 have hpz:(0:Int)<(n:Int):=by omega
 simp -dsimp only[go_sem,aj,aa,ae,reduceCtorEq,ab]
 repeat refine an ?_
 refine(qf n K A h1 h2 h3 h4).call ?_;simp -dsimp only[go_sem,aa,ae,reduceCtorEq,ab]
 repeat refine an ?_
 refine(qf K l B h3 h4 h5 h6).call ?_;simp -dsimp only[go_sem,aa,ae,reduceCtorEq,ay,ab,aK,bJ,hpz,show((K:Int) != K)=false by simp]
 repeat refine an ?_
 refine(jl m hm hm2).call ?_;simp -dsimp only[go_sem,aa,ae,reduceCtorEq,ab]
 repeat refine an ?_
 refine(kG n K A m h2 h4 om hm2 _ _ (cw _ _)).mono ?_;rintro _ S1 ⟨b1,g1,rfl,hN1⟩;simp -dsimp only[go_sem,aa,ae,reduceCtorEq,ab]
 repeat refine an ?_
 refine(kG K l B m h4 h6 om hm2 _ _ (cw _ _)).mono ?_;rintro _ S2 ⟨b2,g2,rfl,hN2⟩;simp -dsimp only[go_sem,aa,ae,reduceCtorEq,ab]
 repeat refine an ?_
 refine(B5 n K l (jJ A m) (jJ B m) m h2 h3 h4 h6 om hm2 (fun i j _ _=>oq om i j) (fun i j _ _=>oq om i j) _ _ (dY.imat (hN1.1.ext hN2.2.1) (dY.imat hN2.1 (cw _ _)))).mono ?_;rintro _ S3 ⟨b3,g3,rfl,hN3⟩;simp -dsimp only[go_sem,aa,reduceCtorEq]
 repeat refine an ?_
 exact⟨b3,rfl,g3,hN3.1⟩
theorem Im(n:Nat)(v:Nat->Int)(hn:1<=n):PF 183 [bJ n v] (.bool (v 0 != 0)):=by
 refine PF.of_spec (aA Tryz.func183 rfl 7 Tryz.ntmps183 (by kernel_rfl) (by simp) (by simp[Tryz.results183]) ?_)
 rw[aS,Tryz.results183];have hp0:0<n:=by omega
 have hpz:(0:Int)<(n:Int):=by omega
 simp -dsimp only[go_sem,reduceCtorEq,ay,bJ,hpz]
 repeat refine an ?_
 exact VR.mf rfl
theorem zD(n m piv:Nat)(A:aU)(hn:n<=16)(hm:1<=m)(hp:piv<n)(h0:A piv 0≠0)(hf:∀i,i<piv->A i 0=0):PF 182 [aK n m A,.fn 183 []] (.int .i64 piv):=by
 refine PF.of_spec (aA Tryz.func182 rfl 19 Tryz.ntmps182 (by kernel_rfl) (by simp) (by simp[Tryz.results182]) ?_)
 rw[aS,Tryz.results182];simp -dsimp only[go_sem,aj,reduceCtorEq,aK,bJ]
 repeat refine an ?_
 refine aI (fun O S=>∃i:Nat,i<=piv/\O 0=aK n m A/\O 1=.fn 183 []/\O 7=.int .i64 n/\O 8=.int .i64 i) (fun O S=>n-bY (O 8)) ?_ ?_
 ·simp -dsimp only[go_sem,aa,reduceCtorEq,aK,bJ];exact⟨0,by omega,rfl⟩
 ·rintro O S ⟨i,hi,e0,e1,e7,e8⟩;have hlt:i<n:=by omega
  simp -dsimp only[go_sem,aa,ae,↓reduceIte,reduceCtorEq,af,decide_true,ab,aK,bJ,e0,e1,e7,e8,hlt]
  repeat refine an ?_
  refine(Im m (A i) hm).call ?_;by_cases e:i=piv
  ·subst e;simp -dsimp only[go_sem,aa,reduceCtorEq,aK,bJ,e0,e1,e7,e8,show(A i 0 != 0)=true by simp[h0]]
   repeat refine an ?_
   exact VR.mf rfl
  ·simp -dsimp only[go_sem,aa,reduceCtorEq,aK,bJ,e0,e1,e7,e8,show(A i 0 != 0)=false by simp[hf i om],aW (show i<1000000 by omega),bY]
   repeat refine an ?_
   exact⟨⟨i+1,by omega,rfl⟩,by omega⟩
def zV:Nat->Int->Int->Int->Int->Int
 | 0,_,_,u,_=>u
 | f+1,a,b,u,v=>if b=0 then u else zV f b (a-gX a b*b) v (u-gX a b*v)
def sm(x:Int):Bool:=decide (-1000000<=x/\x<=1000000)
def oG:Nat->Int->Int->Int->Int->Bool
 | 0,_,_,_,_=>false
 | f+1,a,b,u,v=>if b=0 then a==1 else decide (0<=a-gX a b*b/\a-gX a b*b<b)&&sm a&&sm b&&sm u&&sm v&&sm (gX a b)&&sm (gX a b*b)&&sm (gX a b*v)&&oG f b (a-gX a b*b) v (u-gX a b*v)
theorem FV{x:Int}(h:sm x=true):IntKind.i64.wrap x=x:=by
 simp only[sm,decide_eq_true_eq]at h;exact i64_in om om
theorem FU{x y:Int}(h:sm x=true)(h':sm y=true):IntKind.i64.wrap (x-y)=x-y:=by
 simp only[sm,decide_eq_true_eq]at h h';exact i64_in om om
theorem wo(F:Nat)(x m:Int)(hm:1<=m)(hm2:m<=2147483647)(h:oG F m x 0 1=true):PF 229 [.int .i64 x,.int .i64 m] (.tup [.int .i64 (zV F m x 0 1%m),.bool true]):=by
 refine PF.of_spec (aA Tryz.func229 rfl 39 Tryz.ntmps229 (by kernel_rfl) (by simp) (by simp[Tryz.results229]) ?_)
 rw[aS,Tryz.results229];have hm0:¬(m=0):=by omega
 simp -dsimp only[go_sem,aj,aa,reduceCtorEq]
 repeat refine an ?_
 refine aI (fun O S=>∃(a b u v:Int),O 1=.int .i64 m/\O 6=.int .i64 a/\O 7=.int .i64 b/\O 8=.int .i64 u/\O 9=.int .i64 v/\∃f,oG f a b u v=true/\zV f a b u v=zV F m x 0 1) (fun O S=>match O 7 with|.int _ b=>b.toNat|_=>0) ?_ ?_
 ·simp -dsimp only[go_sem,aa,reduceCtorEq];exact⟨m,rfl,x,rfl,0,rfl,1,rfl,F,h,rfl⟩
 ·rintro O S ⟨a,b,u,v,e1,e6,e7,e8,e9,f,hok,hv⟩
  cases f with
  | zero=>simp[oG]at hok
  | succ f =>
   by_cases hb:b=0
   ·subst hb;simp only[oG,if_true]at hok;simp only[zV,if_true]at hv;obtain⟨q1,q2⟩:=Ak (x:=u) hm hm2;rw[hv]at q1 q2 e8;simp -dsimp only[go_sem,aa,↓reduceIte,e1,e6,e7,e8,e9,hm0,q1,q2,hok,show((0:Int) != 0)=false by simp]
    repeat refine an ?_
    exact VR.mf rfl
   ·simp only[oG,if_neg hb,Bool.and_eq_true,decide_eq_true_eq]at hok;simp only[zV,if_neg hb]at hv;obtain⟨⟨⟨⟨⟨⟨⟨⟨k0,k1⟩,k2⟩,k3⟩,k4⟩,k5⟩,k6⟩,k7⟩,k8⟩:=hok;have w0:=FV k5;have w1:=FV k6;have w2:=FV k7;have w3:=FU k1 k6;have w4:=FU k3 k7;simp -dsimp only[go_sem,aa,↓reduceIte,e1,e6,e7,e8,e9,hb,show(b != 0)=true by simp[hb],w0,w1,w2,w3,w4]
    repeat refine an ?_
    exact⟨⟨b,rfl,_,rfl,v,rfl,_,rfl,f,k8,hv⟩,by omega⟩
def BA(b:Nat)(S S':St):Prop:=∀c,c≠b->S' c=S c
theorem BA.refl(b:Nat)(S:St):BA b S S:=fun _ _=>rfl
theorem BA.upd{b:Nat}{S S':St}(h:BA b S S')(X:dn):BA b S (S'.upd b X):=fun c hc=>by simp only[St.upd,hc,if_false];exact h c hc
theorem BA.has{b c:Nat}{S S':St}(h:BA b S S')(hc:c≠b){t es n:Nat}{g:Nat->AV}(hh:bB S c t es n g):bB S' c t es n g:=by
 obtain⟨g',h1,h2⟩:=hh;exact⟨g',(h c hc).trans h1,h2⟩
theorem BA.var{b c:Nat}{S S':St}(h:BA b S S')(hc:c≠b){t es:Nat}{z:AV}(hh:dc S c t es z):dc S' c t es z:=by
 obtain⟨g',h1,h2⟩:=hh;exact⟨g',(h c hc).trans h1,h2⟩
theorem BY(n b:Nat)(v:Nat->Int)(f m:Int)(S:St)(hn:n<=16)(hm:1<=m)(hm2:m<=1000000)(hf:0<=f/\f<m)(hv:∀j,j<n->0<=v j/\v j<m)(hb:bB S b 2 1 n (fun j=>.int .i64 (v j))) :
  cM 230 [.sl 1 b 0 n,.int .i64 f,.int .i64 m] S (fun _ S'=>BA b S S'/\bB S' b 2 1 n (fun j=>.int .i64 (v j*f%m))):=by
 refine gG Tryz.func230 rfl 24 Tryz.ntmps230 (by kernel_rfl) (by simp) ?_
 rw[aS,Tryz.results230];have hm0:¬(m=0):=by omega
 simp -dsimp only[go_sem,aj]
 repeat refine an ?_
 refine aI (fun O S'=>∃i:Nat,i<=n/\O 0=.sl 1 b 0 n/\O 1=.int .i64 f/\O 2=.int .i64 m/\O 8=.sl 1 b 0 n/\O 9=.int .i64 n/\O 10=.int .i64 i/\BA b S S'/\bB S' b 2 1 n (fun j=>.int .i64 (if j<i then v j*f%m else v j))) (fun O S=>n-bY (O 10)) ?_ ?_
 ·simp -dsimp only[go_sem,aa,reduceCtorEq];exact⟨0,by omega,rfl,BA.refl b S,hb.congr fun j _=>by simp⟩
 ·rintro O S' ⟨i,hi,e0,e1,e2,e8,e9,e10,hC,hH⟩;by_cases hlt:i<n
  ·obtain⟨g0,u0,v0⟩:=id hH;have x0:g0 i=.int .i64 (v i):=(v0 i hlt).trans (by simp)
   have k1:=hv i hlt;have k2:=l0 (A:=1000000) (B:=1000000) (show 0<=v i/\v i<=1000000 by omega) (show 0<=f/\f<=1000000 by omega)
   have q1:IntKind.i64.wrap (v i*f)=v i*f:=i64_in om om;have q2:dW (v i*f) m=v i*f%m:=aL k2.1;simp -dsimp only[go_sem,aa,↓reduceIte,reduceCtorEq,af,decide_true,ab,e0,e1,e2,e8,e9,e10,hlt,u0,x0,hm0,q1,q2,aW (show i<1000000 by omega),bY]
   repeat refine an ?_
   refine⟨⟨i+1,by omega,rfl,hC.upd _,bB.here fun j hj=>?_⟩,by omega⟩
   by_cases e:j=i
   ·subst e;simp[bK]
   ·simp only[bK,e,if_false];rw[v0 j hj];by_cases e2:j<i
    ·simp[e2,show j<i+1 by omega]
    ·simp[e2,show ¬j<i+1 by omega]
  ·obtain rfl:i=n:=by omega
   simp -dsimp only[go_sem,aa,↓reduceIte,reduceCtorEq,af,decide_false,e0,e1,e2,e8,e9,e10,hlt];exact⟨hC,hH.congr fun j hj=>by simp[hj]⟩
theorem uT(n bt br bm:Nat)(x y:Nat->Int)(q m:Int)(S:St)(hn:n<=16)(hm:1<=m)(hm2:m<=1000000)(hq:0<=q/\q<m)(hx:∀j,j<n->0<=x j/\x j<m)(hy:∀j,j<n->0<=y j/\y j<m)(hne:br≠bt)(hne2:bm≠bt)
  (hbt:bB S bt 2 1 n (fun j=>.int .i64 (x j))) (hbr:bB S br 2 1 n (fun j=>.int .i64 (y j))) (hbm:dc S bm 2 1 (.int .i64 m)) :
  cM 257 [.sl 1 bt 0 n,.sl 1 br 0 n,.int .i64 q,.ptr 1 bm 0] S (fun _ S'=>BA bt S S'/\bB S' bt 2 1 n (fun j=>.int .i64 ((x j-q*y j)%m))):=by
 refine gG Tryz.func257 rfl 32 Tryz.ntmps257 (by kernel_rfl) (by simp) ?_
 rw[aS,Tryz.results257];have hm0:¬(m=0):=by omega
 simp -dsimp only[go_sem,aj,reduceCtorEq]
 repeat refine an ?_
 refine aI (fun O S'=>∃i:Nat,i<=n/\O 0=.sl 1 bt 0 n/\O 2=.int .i64 q/\O 3=.ptr 1 bm 0/\O 9=.sl 1 br 0 n/\O 10=.int .i64 n/\O 11=.int .i64 i/\BA bt S S'/\bB S' bt 2 1 n (fun j=>.int .i64 (if j<i then(x j-q*y j)%m else x j))) (fun O S=>n-bY (O 11)) ?_ ?_
 ·simp -dsimp only[go_sem,aa,reduceCtorEq];exact⟨0,by omega,rfl,BA.refl bt S,hbt.congr fun j _=>by simp⟩
 ·rintro O S' ⟨i,hi,e0,e2,e3,e9,e10,e11,hC,hH⟩;by_cases hlt:i<n
  ·obtain⟨g0,u0,v0⟩:=id hH;obtain⟨g1,u1,v1⟩:=id (hC.has hne hbr);obtain⟨g2,u2,x2⟩:=id (hC.var hne2 hbm);have x0:g0 i=.int .i64 (x i):=(v0 i hlt).trans (by simp)
   have x1:g1 i=.int .i64 (y i):=v1 i hlt;have k0:=hx i hlt;have k1:=hy i hlt;have k2:=l0 (A:=1000000) (B:=1000000) (show 0<=m-q/\m-q<=1000000 by omega) (show 0<=y i/\y i<=1000000 by omega)
   have q0:IntKind.i64.wrap (m-q)=m-q:=i64_in om om;have q1:IntKind.i64.wrap ((m-q)*y i)=(m-q)*y i:=i64_in om om;have q2:IntKind.i64.wrap (x i+(m-q)*y i)=x i+(m-q)*y i:=i64_in om om;have q3:dW (x i+(m-q)*y i) m=(x i-q*y i)%m:=by
    rw[aL om,show x i+(m-q)*y i=x i-q*y i+m*y i by grind,Int.add_mul_emod_self_left]
   simp -dsimp only[go_sem,aa,↓reduceIte,af,decide_true,ab,e9,e10,e11,hlt,u1,x1]
   repeat refine an ?_
   refine bG 15 (by kernel_rfl) ?_
   simp -dsimp only[go_sem,aa,ae,↓reduceIte,reduceCtorEq,af,ab,e0,e2,e3,e9,e10,e11,hlt,u0,x0,u2,x2,hm0,q0,q1,q2,q3,aW (show i<1000000 by omega),bY]
   repeat refine an ?_
   refine⟨⟨i+1,by omega,rfl,hC.upd _,bB.here fun j hj=>?_⟩,by omega⟩
   by_cases e:j=i
   ·subst e;simp[bK]
   ·simp only[bK,e,if_false];rw[v0 j hj];by_cases e2:j<i
    ·simp[e2,show j<i+1 by omega]
    ·simp[e2,show ¬j<i+1 by omega]
  ·obtain rfl:i=n:=by omega
   simp -dsimp only[go_sem,aa,↓reduceIte,af,decide_false,e9,e10,e11,hlt];exact⟨hC,hH.congr fun j hj=>by simp[hj]⟩
theorem kR(m:Int)(S:St):cM 228 [.int .i64 m] S (fun r S'=>∃b,S b=ac/\r=.fn 257 [.ptr 1 b 0]/\eZ S S'/\dc S' b 2 1 (.int .i64 m)):=by
 refine aA Tryz.func228 rfl 4 Tryz.ntmps228 (by kernel_rfl) (by simp) (by simp[Tryz.results228]) ?_
 rw[aS,Tryz.results228];simp -dsimp only[go_sem,aa,reduceCtorEq]
 repeat refine an ?_
 refine aG.intro fun bc fc=>?_
 try simp -dsimp only[go_sem,aj,aa,aq,ae,↓reduceIte,reduceCtorEq,af,decide_true,decide_false,ay]
 exact⟨bc,fc,rfl,(eZ.refl S).upd fc _,dc.new rfl⟩
end Go.Proofs.YtdobfmlmenaajaaGreatDoor
