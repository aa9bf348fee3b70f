/-
  Lemmas for NeighbourIndex.
-/
import Derived.Test.YtdobfmlmenaajaaGreatDoorJ10
namespace Go.Proofs.YtdobfmlmenaajaaGreatDoor
open Go.RowKit Tryz
open _root_.Int renaming ofNat_lt→af,zero_le_ofNat→az,tmod_eq_emod_of_nonneg→aU,emod_lt_of_pos→aV,emod_nonneg→aY,le_of_lt→cu,dvd_of_emod_eq_zero→cE,mul_le_mul→cY,emod_eq_of_lt→dq,tmod→eA,mul_assoc→fK,toNat_of_nonneg→gX,tdiv_eq_ediv_of_nonneg→it,tdiv→iu,ediv_le_self→r9,ediv_nonneg→tK,mul_ediv_add_emod→tT
open _root_.List renaming all_eq_true→aB
open _root_.Nat renaming reduceEqDiff→aa,add_one_le_iff→ab,reduceLT→ae,reduceAdd→ak,reduceLeDiff→au
open _root_.Ne renaming symm→ao
open _root_.Option renaming none→ac
open _root_.Or renaming inr→bH,inl→bQ
set_option maxHeartbeats 6400000
set_option maxRecDepth 4096
set_option linter.all false
theorem cZ.repl{S:St}{b:Nat}{g:Nat->Nat}{n m:Nat}{A:aW}(h:cZ S b g n m A){j c:Nat}{v:Nat->Int}(hc:gJ S c m v)(hcg:∀i,i<n->g i≠c){g1:Nat->AV}(hS:S b=some ⟨59,1,n,g1⟩) :
  cZ (S.upd b ⟨59,1,n,bJ g1 j (.sl 2 c 0 m)⟩) b (fun i=>if i=j then c else g i) n m (fun i r=>if i=j then v r else A i r):=by
 have hbc:b≠c:=bE.ne h.outer hc dc
 refine⟨bE.here fun i hi=>?_,fun i hi=>?_,fun i k hi hk he=>?_⟩
 ·obtain⟨g2,k1,k2⟩:=h.outer;rw[hS]at k1;cases k1;simp only[bJ];by_cases e:i=j
  ·simp[e]
  ·simp only[e,if_false];exact k2 i hi
 ·by_cases e:i=j
  ·simp only[e,if_true];exact hc.upd (ao hbc) _
  ·simp only[e,if_false];exact(h.row i hi).upd (ao (h.outer_ne hi)) _
 ·by_cases e:i=j
  ·by_cases e2:k=j
   ·omega
   ·simp only[e,e2,if_true,if_false]at he;exact absurd he.symm (hcg k hk)
  ·by_cases e2:k=j
   ·simp only[e,e2,if_true,if_false]at he;exact absurd he (hcg i hi)
   ·simp only[e,e2,if_false]at he;exact h.inj i k hi hk he
structure ky(S S':St)(b:Nat)(g g':Nat->Nat)(n:Nat):Prop where
 keep:∀k X,S k=some X->k≠b->(∀i,i<n->g i≠k)->S' k=some X
 new:∀i,i<n->(∃j,j<n/\g' i=g j)∨S (g' i)=ac
theorem ky.refl(S:St)(b:Nat)(g:Nat->Nat)(n:Nat):ky S S b g g n:=⟨fun _ _ h _ _=>h,fun i hi=>bQ ⟨i,hi,rfl⟩⟩
theorem ky.ext{S S':St}{b:Nat}{g:Nat->Nat}{n:Nat}(h:eJ S S'):ky S S' b g g n:=⟨fun k X hX _ _=>h k X hX,fun i hi=>bQ ⟨i,hi,rfl⟩⟩
theorem ky.upd{S S':St}{b:Nat}{g g':Nat->Nat}{n:Nat}(h:ky S S' b g g' n){c:Nat}(hc:c=b∨(∃i,i<n/\g i=c)∨S c=ac)(X:dH):ky S (S'.upd c X) b g g' n:=by
 refine⟨fun k Y hY h1 h2=>?_,h.new⟩;have hk:k≠c:=by
  rintro rfl;rcases hc with e|⟨i,hi,e⟩|e
  ·exact h1 e
  ·exact h2 i hi e
  ·rw[e]at hY;cases hY
 rw[aP hk];exact h.keep k Y hY h1 h2
theorem ky.trans{S S1 S2:St}{b:Nat}{g g1 g2:Nat->Nat}{n:Nat}(h:ky S S1 b g g1 n)(k:ky S1 S2 b g1 g2 n)(hb:S1 b≠ac):ky S S2 b g g2 n:=by
 refine⟨fun c X hX h1 h2=>k.keep c X (h.keep c X hX h1 h2) h1 (fun i hi e=>?_),fun i hi=>?_⟩
 ·rcases h.new i hi with⟨j,hj,e2⟩|e2
  ·exact h2 j hj (e2.symm.trans e)
  ·rw[e,hX]at e2;cases e2
 ·rcases k.new i hi with⟨j,hj,e⟩|e
  ·rw[e];exact h.new j hj
  ·by_cases h3:∃j,j<n/\g2 i=g j
   ·exact bQ h3
   ·refine bH ?_
    cases e2:S (g2 i)with
    | none=>rfl
    | some X =>
     have h4:g2 i≠b:=fun e3=>hb (e3▸e);have:=h.keep (g2 i) X e2 h4 (fun j hj e3=>h3 ⟨j,hj,e3.symm⟩);rw[e]at this;cases this
theorem ky.var{S S':St}{b:Nat}{g g':Nat->Nat}{n:Nat}(h:ky S S' b g g' n){c ty es:Nat}{z:AV}(hV:dl S c ty es z)(h1:c≠b)(h2:∀i,i<n->g i≠c):dl S' c ty es z:=by
 obtain⟨x,k1,k2⟩:=hV;exact⟨x,h.keep c _ k1 h1 h2,k2⟩
theorem ky.has{S S':St}{b:Nat}{g g':Nat->Nat}{n:Nat}(h:ky S S' b g g' n){c ty es k:Nat}{z:Nat->AV}(hV:bE S c ty es k z)(h1:c≠b)(h2:∀i,i<n->g i≠c):bE S' c ty es k z:=by
 obtain⟨x,k1,k2⟩:=hV;exact⟨x,h.keep c _ k1 h1 h2,k2⟩
theorem ky.ne{S S':St}{b:Nat}{g g':Nat->Nat}{n:Nat}(h:ky S S' b g g' n){c:Nat}{X:dH}(hc:S c=some X)(h2:∀i,i<n->g i≠c):∀i,i<n->g' i≠c:=by
 intro i hi e;rcases h.new i hi with⟨j,hj,e2⟩|e2
 ·exact h2 j hj (e2.symm.trans e)
 ·rw[e,hc]at e2;cases e2
theorem cZ.some{S:St}{b:Nat}{g:Nat->Nat}{n m:Nat}{A:aW}(h:cZ S b g n m A):S b≠ac:=by
 obtain⟨x,k1,_⟩:=h.outer;rw[k1];simp
structure mq(S:St)(b:Nat)(c:Nat->Nat)(n m:Nat)(A:aW):Prop where
 outer:bE S b 59 1 n (fun i=>.sl 2 (c i) 0 m)
 row:∀i,i<n->gJ S (c i) m (A i)
theorem cZ.cols{S:St}{b:Nat}{g:Nat->Nat}{n m:Nat}{A:aW}(h:cZ S b g n m A):mq S b g n m A:=⟨h.outer,h.row⟩
theorem mq.ne{S:St}{b:Nat}{c:Nat->Nat}{n m:Nat}{A:aW}(h:mq S b c n m A){i:Nat}(hi:i<n):b≠c i:=bE.ne h.outer (h.row i hi) dc
theorem mq.vr{S:St}{b:Nat}{c:Nat->Nat}{n m:Nat}{A:aW}(h:mq S b c n m A):VR S (.sl 1 b 0 n) (aZ n m A):=VR.sl h.outer om (fun j hj=>by rw[Nat.zero_add];exact(h.row j hj).vr)
theorem mq.ext{S S':St}{b:Nat}{c:Nat->Nat}{n m:Nat}{A:aW}(h:mq S b c n m A)(he:eJ S S'):mq S' b c n m A:=⟨he.has h.outer,fun i hi=>he.has (h.row i hi)⟩
theorem mq.congr{S:St}{b:Nat}{c:Nat->Nat}{n m:Nat}{A B:aW}(h:mq S b c n m A)(he:∀i j,i<n->j<m->A i j=B i j):mq S b c n m B:=⟨h.outer,fun i hi=>(h.row i hi).congr fun j hj=>by rw[he i j hi hj]⟩
theorem mq.repl{S:St}{b:Nat}{c:Nat->Nat}{n m:Nat}{A:aW}(h:mq S b c n m A){j d:Nat}{v:Nat->Int}(hd:gJ S d m v){g1:Nat->AV}(hS:S b=some ⟨59,1,n,g1⟩) :
  mq (S.upd b ⟨59,1,n,bJ g1 j (.sl 2 d 0 m)⟩) b (fun i=>if i=j then d else c i) n m (fun i r=>if i=j then v r else A i r):=by
 have hbd:b≠d:=bE.ne h.outer hd dc
 refine⟨bE.here fun i hi=>?_,fun i hi=>?_⟩
 ·obtain⟨g2,k1,k2⟩:=h.outer;rw[hS]at k1;cases k1;simp only[bJ];by_cases e:i=j
  ·simp[e]
  ·simp only[e,if_false];exact k2 i hi
 ·by_cases e:i=j
  ·simp only[e,if_true];exact hd.upd (ao hbd) _
  ·simp only[e,if_false];exact(h.row i hi).upd (ao (h.ne hi)) _
def gI(b:Nat)(S S':St):Prop:=∀k X,S k=some X->k≠b->S' k=some X
theorem gI.refl(b:Nat)(S:St):gI b S S:=fun _ _ h _=>h
theorem gI.trans{b:Nat}{S S' S'':St}(h:gI b S S')(k:gI b S' S''):gI b S S'':=fun c X hX hc=>k c X (h c X hX hc) hc
theorem gI.ext{b:Nat}{S S':St}(h:eJ S S'):gI b S S':=fun c X hX _=>h c X hX
theorem gI.upd{b:Nat}{S S':St}(h:gI b S S'){c:Nat}(hc:c=b∨S c=ac)(X:dH):gI b S (S'.upd c X):=fun k Y hY hk=>by
 have:k≠c:=by
  rintro rfl;rcases hc with e|e
  ·exact hk e
  ·rw[e]at hY;cases hY
 rw[aP this];exact h k Y hY hk
theorem gI.has{b:Nat}{S S':St}(h:gI b S S'){c ty es k:Nat}{z:Nat->AV}(hV:bE S c ty es k z)(h1:c≠b):bE S' c ty es k z:=by
 obtain⟨x,k1,k2⟩:=hV;exact⟨x,h c _ k1 h1,k2⟩
theorem gI.var{b:Nat}{S S':St}(h:gI b S S'){c ty es:Nat}{z:AV}(hV:dl S c ty es z)(h1:c≠b):dl S' c ty es z:=by
 obtain⟨x,k1,k2⟩:=hV;exact⟨x,h c _ k1 h1,k2⟩
theorem xD(S:St)(b:Nat)(c:Nat->Nat)(n m p q:Nat)(A:aW)(hp:p<n)(hq:q<n)(hO:mq S b c n m A) :
  cS 264 [.sl 1 b 0 n,.int .i64 p,.int .i64 q] S (fun _ S'=>(∃c',mq S' b c' n m (fun i=>A (dU p q i)))/\gI b S S'):=by
 refine g9 func264 rfl 20 ntmps264 kr sm ?_
 rw[aQ,results264];obtain⟨g1,u1,v1⟩:=id hO.outer;have x1:g1 p=.sl 2 (c p) 0 m:=v1 p hp;have x2:g1 q=.sl 2 (c q) 0 m:=v1 q hq;simp -dsimp only[go_sem,ak];refine io 13 kr ?_
 simp -dsimp only[go_sem,aa,↓reduceIte,reduceCtorEq,af,ab,u1,x1,x2,hp,hq];refine⟨⟨fun i=>c (dU p q i),bE.here fun i hi=>?_,fun i hi=>?_⟩,((gI.refl b S).upd (bQ rfl) _).upd (bQ rfl) _⟩
 ·simp only[bJ,dU];by_cases e:i=q
  ·subst e;by_cases e2:i=p
   ·subst e2;simp
   ·simp[e2]
  ·by_cases e2:i=p
   ·subst e2;simp[e]
   ·simp[e,e2,v1 i hi]
 ·have h1:dU p q i<n:=by unfold dU;split<;>(try split)<;>omega
  exact((hO.row _ h1).upd (ao (hO.ne h1)) _).upd (ao (hO.ne h1)) _
theorem dO.first{S:St}{x x':AV}{l:List AV}(h:VA S x x'):dO S (x::l) (x'::l):=⟨h,cH _ _⟩
structure My(S0 S:St)(b bd b9:Nat)(c:Nat->Nat)(n m j t:Nat)(A:aW)(v:Nat->Int)(d:Int):Prop where
 outer:bE S b 59 1 n (fun a=>.sl 2 (if a=j then bd else c a) 0 m)
 new:gJ S bd m (fun r=>if r<t then v r/d else v r)
 row:∀a,a<n->a≠j->gJ S (c a) m (A a)
 var:dl S b9 50 2 (.big d)
 keep:gI b S0 S
 h1:S0 bd=ac
 h2:S0 b9=ac
 ne:b9≠bd
 nc:∀a,a<n->c a≠bd
theorem My.other{S0 S:St}{b bd b9:Nat}{c:Nat->Nat}{n m j t:Nat}{A:aW}{v:Nat->Int}{d:Int}(h:My S0 S b bd b9 c n m j t A v d){e:Nat}(he:S e=ac)(X:dH):My S0 (S.upd e X) b bd b9 c n m j t A v d :=
 ⟨h.outer.upd (bE.fresh h.outer he) _,h.new.upd (bE.fresh h.new he) _,fun a ha hj=>(h.row a ha hj).upd (bE.fresh (h.row a ha hj) he) _,h.var.upd (h.var.fresh he) _,fun k Y hY hk=>by
  have:k≠e:=by rintro rfl;rw[h.keep k Y hY hk]at he;cases he
  rw[aP this];exact h.keep k Y hY hk,h.h1,h.h2,h.ne,h.nc⟩
theorem My.put{S0 S:St}{b bd b9:Nat}{c:Nat->Nat}{n m j t:Nat}{A:aW}{v:Nat->Int}{d:Int}(h:My S0 S b bd b9 c n m j t A v d){g:Nat->AV}(hS:S bd=some ⟨50,2,m,g⟩):My S0 (S.upd bd ⟨50,2,m,bJ g t (.big (v t/d))⟩) b bd b9 c n m j (t+1) A v d:=by
 refine⟨h.outer.upd (bE.ne h.outer h.new dc) _,bE.here fun r hr=>?_,fun a ha hj=>(h.row a ha hj).upd (h.nc a ha) _,h.var.upd h.ne _,h.keep.upd (bH h.h1) _,h.h1,h.h2,h.ne,h.nc⟩
 obtain⟨g',k1,k2⟩:=h.new;rw[hS]at k1;cases k1;simp only[bJ];by_cases e:r=t
 ·subst e;simp
 ·rw[if_neg e,k2 r hr];by_cases e2:r<t
  ·simp[e2,(om:r<t+1)]
  ·simp[e2,(om:¬r<t+1)]
theorem rl(S0:St)(b:Nat)(c:Nat->Nat)(n m i j row:Nat)(A:aW)(d:Int)(hi:i<n)(hj:j<n)(hr:row<m)(hm:m<=100)(hd:d≠0)(hdb:nb d 31)(hA:∀a r,a<n->r<m->nb (A a r) 31)(hO:mq S0 b c n m A) :
  cS 265 [.sl 1 b 0 n,.int .i64 j,.int .i64 i,.int .i64 row,.big d] S0 (fun _ S'=>(∃c',mq S' b c' n m (fun a r=>if a=j then(A i row*A j r-A j row*A i r)/d else A a r))/\gI b S0 S'):=by
 refine g9 func265 rfl 58 ntmps265 kr sm ?_
 rw[aQ,results265];simp -dsimp only[go_sem,ak,aa,reduceCtorEq];refine aH.intro fun b9 f9=>?_
 try simp -dsimp only[go_sem,ak,aa,au,ae,↓reduceIte,reduceCtorEq,af,decide_true,decide_false,az]
 have hO1:mq (S0.upd b9 ⟨50,2,1,fun _=>.big d⟩) b c n m A:=hO.ext ((eJ.refl S0).upd f9 _);obtain⟨g1,u1,v1⟩:=id hO1.outer;obtain⟨g2,u2,v2⟩:=id (hO1.row i hi);obtain⟨g3,u3,v3⟩:=id (hO1.row j hj);have x1:g1 i=.sl 2 (c i) 0 m:=v1 i hi;have x2:g1 j=.sl 2 (c j) 0 m:=v1 j hj;have x3:=v2 row hr;have x4:=v3 row hr;refine eL 20 [[0,1],[],[]] kr ?_
 simp -dsimp only[go_sem,aa,ae,↓reduceIte,reduceCtorEq,af,ab,u1,x1,x2,hi,hj,hr,u2,x3,u3,x4];have n1:=hA i row hi hr;have n2:=(hA j row hj hr).neg;refine⟨_,(qD (hA j row hj hr) om).pure',?_⟩;refine(mc n m 31 j i A (A i row) (-(A j row)) hj hi hm hA n1 n2 om _ _ (dO.first hO1.vr.va)).mono ?_
 rintro _ S1 ⟨bd,rfl,hI,hE,hbd⟩;obtain⟨nd_9,fd⟩:=ai hbd;clear u1 v1 u2 v2 u3 v3 x1 x2 x3 x4;have hO2:=hO1.ext hE;obtain⟨g1,u1,v1⟩:=id hO2.outer;obtain⟨g5,u5,v5⟩:=id hI;have hbn:b≠bd:=bE.ne hO2.outer hI dc
 simp -dsimp only[go_sem,aa,↓reduceIte,reduceCtorEq,af,ab,u1,hj,ed];generalize hv:(fun r=>A i row*A j r+-A j row*A i r)=v at *;have hvb:∀r,r<m->nb (v r) 63:=fun r hr=>by rw[<-hv];exact(n1.mul (hA j r hj hr)).add (n2.mul (hA i r hi hr))
 refine aM (fun O S'=>∃t:Nat,t<=m/\O 0=.sl 1 b 0 n/\O 1=.int .i64 j/\O 9=.ptr 2 b9 0/\O 37=.sl 2 bd 0 m/\O 38=.int .i64 m/\O 39=.int .i64 t/\My S0 S' b bd b9 c n m j t A v d) (fun O S=>m-ca (O 39)) ?_ ?_
 ·simp -dsimp only[go_sem,aa,reduceCtorEq];refine⟨0,om,rfl,bE.here fun a ha=>?_,(hI.congr fun r _=>by simp).upd (ao hbn) _,fun a ha _=>(hO2.row a ha).upd (ao (hO2.ne ha)) _,?_,?_,fd,f9,ao nd_9,fun a ha=>bE.fresh (hO1.row a ha) hbd⟩
  ·simp only[bJ];by_cases e:a=j
   ·simp[e]
   ·simp only[e,if_false];exact v1 a ha
  ·have h9:dl S1 b9 50 2 (.big d):=by
    obtain⟨x,k1,k2⟩:=dl.new (S:=S0) (b:=b9) (ty:=50) (es:=2) (g:=fun _=>AV.big d) rfl;exact⟨x,hE _ _ k1,k2⟩
   exact h9.upd (fun e=>by obtain⟨x,k1,_⟩:=hO.outer;rw[<-e,f9]at k1;cases k1) _
  ·exact(gI.ext (((eJ.refl S0).upd f9 _).trans hE)).upd (bQ rfl) _
 ·rintro O S' ⟨t,ht,e0,e1,e9,e37,e38,e39,hS⟩;by_cases hlt:t<m
  ·obtain⟨g6,u6,v6⟩:=id hS.new;have x6:g6 t=.big (v t):=(v6 t hlt).trans sm
   obtain⟨g7,u7,v7⟩:=id hS.outer;obtain⟨g8,u8,x8⟩:=id hS.var;have x7:g7 j=.sl 2 bd 0 m:=(v7 j hj).trans sm
   simp -dsimp only[go_sem,aa,↓reduceIte,af,decide_true,ab,e37,e38,e39,hlt,u6];refine aH.intro fun be fe=>?_;have hbe:b≠be:=bE.fresh hS.outer fe;have h9e:b9≠be:=hS.var.fresh fe;have hde:bd≠be:=bE.fresh hS.new fe;simp -dsimp only[go_sem,aa,ae,↓reduceIte,ab,e39,x6];refine eL 13 [[10,11]] kr ?_
   simp -dsimp only[go_sem,aa,ae,↓reduceIte,reduceCtorEq,af,ab,e0,e1,e9,e37,e38,e39,hlt,u6,u7,x7,u8,x8,hj,hbe,h9e,hde,ed];refine⟨_,(kP (hvb t hlt) (hdb.mono om) om hd (bH ((hvb t hlt).mono om))).pure',?_⟩;simp -dsimp only[go_sem,a6 (om:t<1000000),ca]
   refine⟨⟨t+1,om,rfl,?_⟩,om⟩
   rw[kZ];exact(hS.other fe _).put (by rw[aP hde];exact u6)
  ·obtain rfl:t=m:=om
   simp -dsimp only[go_sem,aa,↓reduceIte,af,decide_false,e37,e38,e39,hlt];refine⟨⟨fun a=>if a=j then bd else c a,hS.outer,fun a ha=>?_⟩,hS.keep⟩
   by_cases e:a=j
   ·simp only[e,if_true];refine hS.new.congr fun r hr=>?_;simp only[hr,if_true,<-hv];rw[show A i row*A j r-A j row*A i r=A i row*A j r+-A j row*A i r by rw[Int.neg_mul];omega]
   ·simp only[e,if_false];exact hS.row a ha e
theorem mz(S0:St)(b:Nat)(g:Nat->Nat)(n m j f:Nat)(A:aW)(M:Int)(hj:j<n)(hm:m<=100)(hf:f<=m)(hM:0<M)(hMb:nb M 32)(k:Nat)(hk:k<=1000000)(hA:∀r,r<m->nb (A j r) k)(hO:cZ S0 b g n m A) :
  cS 266 [.sl 1 b 0 n,.int .i64 j,.int .i64 f,.big M] S0 (fun _ S'=>cZ S' b g n m (fun i r=>if i=j/\f<=r then A i r%M else A i r)/\ky S0 S' b g g n):=by
 refine g9 func266 rfl 38 ntmps266 kr sm ?_
 rw[aQ,results266];simp -dsimp only[go_sem,ak,aa,reduceCtorEq];refine aH.intro fun bc fc=>?_
 try simp -dsimp only[go_sem,ak,aa,au,ae,↓reduceIte,reduceCtorEq,af,decide_true,decide_false,az]
 have hbc:b≠bc:=bE.fresh hO.outer fc;have hgc:∀i,i<n->g i≠bc:=fun i hi=>bE.fresh (hO.row i hi) fc;refine aM (fun O S'=>∃r:Nat,f<=r/\r<=m/\O 0=.sl 1 b 0 n/\O 1=.int .i64 j/\O 7=.ptr 2 bc 0/\O 8=.int .i64 r/\cZ S' b g n m (fun i c=>if i=j/\f<=c/\c<r then A i c%M else A i c)/\dl S' bc 50 2 (.big M)/\ky S0 S' b g g n) (fun O S=>m-ca (O 8)) ?_ ?_
 ·simp -dsimp only[go_sem,aa,reduceCtorEq];exact⟨f,om,hf,rfl,(hO.upd hbc hgc _).congr fun i c _ _=>by rw[if_neg om],dl.new rfl,(ky.refl S0 b g n).upd (bH (bH fc)) _⟩
 ·rintro O S' ⟨r,hr1,hr2,e0,e1,e7,e8,hM1,hV,hC⟩;obtain⟨g1,u1,v1⟩:=id hM1.outer;obtain⟨g2,u2,v2⟩:=id (hM1.row j hj);obtain⟨g3,u3,v3⟩:=id hV;have x1:g1 j=.sl 2 (g j) 0 m:=v1 j hj;by_cases hlt:r<m
  ·have x2:g2 r=.big (A j r):=(v2 r hlt).trans (by dsimp only;rw[if_neg om])
   simp -dsimp only[go_sem,aa,↓reduceIte,reduceCtorEq,af,decide_true,ab,e0,e1,e8,u1,x1,hj,hlt];refine eL 19 [[17]] kr ?_
   simp -dsimp only[go_sem,aa,ae,↓reduceIte,reduceCtorEq,af,ab,e0,e1,e7,e8,u1,x1,hj,hlt,u2,x2,u3,v3,a6 (om:r<1000000),ca]
   refine⟨_,(mb (hA r hlt) hMb hk om).pure',?_⟩;simp -dsimp only[go_sem];refine⟨⟨r+1,om,om,rfl,(hM1.set (j:=r) (z:=A j r%M) hj u2).congr fun i c _ _=>?_,hV.upd (ao (hgc j hj)) _,hC.upd (bH (bQ ⟨j,hj,rfl⟩)) _⟩,om⟩
   unfold eE;dsimp only;by_cases e:i=j/\c=r
   ·obtain⟨rfl,rfl⟩:=e;rw[if_pos ⟨rfl,rfl⟩,if_pos om]
   ·rw[if_neg e];by_cases e2:i=j/\f<=c/\c<r
    ·rw[if_pos e2,if_pos om]
    ·rw[if_neg e2,if_neg om]
  ·obtain rfl:r=m:=om
   simp -dsimp only[go_sem,aa,↓reduceIte,reduceCtorEq,af,decide_false,e0,e1,e8,u1,x1,hj,hlt];refine And.intro om ?_;exact⟨hM1.congr fun i c _ hc=>by
    by_cases e:i=j/\f<=c
    ·rw[if_pos e,if_pos om]
    ·rw[if_neg e,if_neg om],hC⟩
def mX(A:aW)(i j:Nat)(a b x y:Int):aW:=fun c r=>if c=i then a*A i r+b*A j r else if c=j then x*A j r+-y*A i r else A c r
def CT(A:aW)(j f:Nat)(M:Int):aW:=fun c r=>if c=j/\f<=r then A c r%M else A c r
def xI(A:aW)(i j:Nat)(M:Int):aW:=if A j i=0 then A else
 CT (CT (mX A i j (bz (A i i).toNat (A j i).toNat).2.1 (bz (A i i).toNat (A j i).toNat).2.2 (A i i/(bz (A i i).toNat (A j i).toNat).1) (A j i/(bz (A i i).toNat (A j i).toNat).1)) i i M) j i M
theorem jb{z:Int}(h:0<=z/\z<2147483648):nb z 31:=by unfold nb;omega
theorem wu{x y:Int}(hx:0<=x/\x<4294967296)(hy:0<=y/\y<4294967296)(hp:x≠0∨y≠0):PF 268 [.big x,.big y] (.tup [.big (bz x.toNat y.toNat).1,.big (bz x.toNat y.toNat).2.1,.big (bz x.toNat y.toNat).2.2]):=by
 have:=FB x.toNat y.toNat om om om;rw[gX hx.1,gX hy.1]at this;exact this
structure tb(T:St)(b:Nat)(g:Nat->Nat)(N m i j:Nat)(v1 v2:Nat->Int)(PL:List (Nat×Nat×AV))(BL:List (Nat×AV))(L:Nat->Bool)(O:Tm)(S:St):Prop where
 base:∀e∈BL,O e.1=e.2
 pure:∀e∈PL,L e.1=true->O e.2.1=e.2.2
 mem:∃c1 c2,(L 9=true->O 60=.sl 2 c1 0 m/\gJ S c1 m v1/\T c1=ac)/\(L 16=true->O 67=.sl 2 c2 0 m/\gJ S c2 m v2/\T c2=ac/\c1≠c2)/\bE S b 59 1 N (fun k=>.sl 2 (if L 18=true/\k=i then c1 else if L 20=true/\k=j then c2 else g k) 0 m)
 keep:gI b T S
 ord:(L 15=true->L 9=true)/\(L 16=true->L 15=true)/\(L 18=true->L 16=true)/\(L 20=true->L 18=true)
theorem tb.put{T:St}{b:Nat}{g:Nat->Nat}{N m i j:Nat}{v1 v2:Nat->Int}{PL:List (Nat×Nat×AV)}{BL:List (Nat×AV)}{L:Nat->Bool}{O:Tm}{S:St}(h:tb T b g N m i j v1 v2 PL BL L O S){k d:Nat}{z:AV}
  (h1:∀e∈PL,e.1=k->e.2.2=z) (h2:∀e∈PL,e.1≠k->e.2.1≠d) (h2':∀e∈PL,e.1=k->e.2.1=d) (h3:∀e∈BL,e.1≠d) (h4:d≠60/\d≠67) (h5:k≠9/\k≠16/\k≠18/\k≠20) (h6:k=15->L 9=true) :
  tb T b g N m i j v1 v2 PL BL (fun c=>if c=k then true else L c) (O.put (some d) z) S:=by
 have hp:∀t,t≠d->(O.put (some d) z) t=O t:=fun t ht=>by rw[Tm.put_eq];exact if_neg ht
 have hd:(O.put (some d) z) d=z:=by rw[Tm.put_eq];exact if_pos rfl
 refine⟨fun e he=>by rw[hp _ (h3 e he)];exact h.base e he,fun e he hL=>?_,?_,h.keep,?_⟩
 ·by_cases e1:e.1=k
  ·rw[h2' e he e1,hd,h1 e he e1]
  ·rw[hp _ (h2 e he e1)];simp only[e1,if_false]at hL;exact h.pure e he hL
 ·obtain⟨c1,c2,m1,m2,m3⟩:=h.mem;refine⟨c1,c2,?_,?_,?_⟩
  ·rw[if_neg (ao h5.1),hp _ (ao h4.1)];exact m1
  ·rw[if_neg (ao h5.2.1),hp _ (ao h4.2)];exact m2
  ·rw[if_neg (ao h5.2.2.1),if_neg (ao h5.2.2.2)];exact m3
 ·obtain⟨o1,o2,o3,o4⟩:=h.ord;rw[if_neg (ao h5.1),if_neg (ao h5.2.1),if_neg (ao h5.2.2.1),if_neg (ao h5.2.2.2)];refine⟨fun h7=>?_,fun h7=>?_,o3,o4⟩
  ·by_cases e:15=k
   ·exact h6 e.symm
   ·rw[if_neg e]at h7;exact o1 h7
  ·by_cases e:15=k
   ·rw[if_pos e]
   ·rw[if_neg e];exact o2 h7
structure Iy(S0 S:St)(b b7 b8 b9 b11 b12:Nat)(g:Nat->Nat)(N m:Nat)(A:aW)(M x y a b':Int):Prop where
 mat:cZ S b g N m A
 cols:ky S0 S b g g N
 v7:dl S b7 50 2 (.big M)
 v8:dl S b8 50 2 (.big x)
 v9:dl S b9 50 2 (.big y)
 v11:dl S b11 50 2 (.big a)
 v12:dl S b12 50 2 (.big b')
 n7:S0 b7=ac
section
variable {S0 T:St} {b b7 b8 b9 b11 b12:Nat} {g:Nat->Nat} {N m i j:Nat} {A:aW} {M x y a b':Int} {v1 v2:Nat->Int} {PL:List (Nat×Nat×AV)} {BL:List (Nat×AV)} {L:Nat->Bool} {O:Tm} {S:St}
theorem gI.fresh(h:gI b T S)(hb:S b≠ac){c:Nat}(hc:S c=ac):T c=ac:=by
 cases e:T c with
 | none=>rfl
 | some X =>
  have:c≠b:=fun e2=>hb (e2▸hc);rw[h c X e this]at hc;cases hc
theorem tb.off(h:tb T b g N m i j v1 v2 PL BL L O S)(h16:L 16=false):L 18=false/\L 20=false:=by
 obtain⟨o1,o2,o3,o4⟩:=h.ord;have h18:L 18=false:=by cases e:L 18 with
  | false=>rfl
  | true=>rw[o3 e]at h16;cases h16
 refine⟨h18,?_⟩
 cases e:L 20 with
 | false=>rfl
 | true=>rw[o4 e]at h18;cases h18
theorem tb.colS(hC:Iy S0 T b b7 b8 b9 b11 b12 g N m A M x y a b')(h:tb T b g N m i j v1 v2 PL BL L O S)(h16:L 16=false):mq S b g N m A:=by
 obtain⟨c1,c2,m1,m2,m3⟩:=h.mem;obtain⟨k1,k2⟩:=h.off h16;exact⟨m3.congr fun k _=>by simp[k1,k2],fun k hk=>h.keep.has (hC.mat.row k hk) (ao (hC.mat.outer_ne hk))⟩
theorem tb.call9(hC:Iy S0 T b b7 b8 b9 b11 b12 g N m A M x y a b')(h:tb T b g N m i j (fun r=>a*A i r+b'*A j r) v2 PL BL L O S)(hL:L 9=false)(hij:i<j)(hj:j<N)(hm:m<=100)(hA:∀c r,c<N->r<m->0<=A c r/\A c r<2147483648)(na:nb a 31)(nb':nb b' 31)
  (h1:∀e∈PL,e.1≠9/\e.2.1≠60) (h2:∀e∈BL,e.1≠60) :
  cS 269 [.sl 1 b 0 N,.int .i64 i,.big a,.int .i64 j,.big b'] S (fun z S'=>tb T b g N m i j (fun r=>a*A i r+b'*A j r) v2 PL BL (fun k=>if k=9 then true else L k) (O.put (some 60) z) S'):=by
 obtain⟨o1,o2,o3,o4⟩:=h.ord;have h15:L 15=false:=by cases e:L 15 with
  | false=>rfl
  | true=>rw[o1 e]at hL;cases hL
 have h16:L 16=false:=by cases e:L 16 with
  | false=>rfl
  | true=>rw[o2 e]at h15;cases h15
 obtain⟨k1,k2⟩:=h.off h16;have hcol:=tb.colS hC h h16;refine(mc N m 31 i j A a b' om hj hm (fun c r hc hr=>jb (hA c r hc hr)) na nb' om _ _ (dO.first hcol.vr.va)).mono ?_
 rintro _ S1 ⟨c1,rfl,hI,hE,hn⟩;have hp:∀t,t≠60->(O.put (some 60) (.sl 2 c1 0 m)) t=O t:=fun t ht=>by rw[Tm.put_eq];exact if_neg ht
 have hd:(O.put (some 60) (.sl 2 c1 0 m)) 60=.sl 2 c1 0 m:=by rw[Tm.put_eq];exact if_pos rfl
 have hbs:S b≠ac:=by obtain⟨z,k,_⟩:=hcol.outer;rw[k];simp
 refine⟨fun e he=>by rw[hp _ (h2 e he)];exact h.base e he,fun e he hl=>?_,⟨c1,0,fun _=>⟨hd,hI,h.keep.fresh hbs hn⟩,fun h7=>?_,?_⟩,h.keep.trans (gI.ext hE),?_⟩
 ·rw[hp _ (h1 e he).2];simp only[(h1 e he).1,if_false]at hl;exact h.pure e he hl
 ·simp[h16]at h7
 ·refine(hE.has hcol.outer).congr fun k _=>?_;simp[k1,k2]
 ·simp[h15,h16,k1,k2]
theorem tb.call16(hC:Iy S0 T b b7 b8 b9 b11 b12 g N m A M x y a b')(h:tb T b g N m i j v1 (fun r=>x*A j r+-y*A i r) PL BL L O S)(hL:L 16=false)(h15:L 15=true)(hij:i<j)(hj:j<N)(hm:m<=100)(hA:∀c r,c<N->r<m->0<=A c r/\A c r<2147483648)(na:nb x 31)(nb':nb y 31)
  (h1:∀e∈PL,e.1≠16/\e.2.1≠67) (h2:∀e∈BL,e.1≠67) :
  cS 269 [.sl 1 b 0 N,.int .i64 j,.big x,.int .i64 i,.big (-y)] S (fun z S'=>tb T b g N m i j v1 (fun r=>x*A j r+-y*A i r) PL BL (fun k=>if k=16 then true else L k) (O.put (some 67) z) S'):=by
 obtain⟨o1,o2,o3,o4⟩:=h.ord;obtain⟨k1,k2⟩:=h.off hL;have hcol:=tb.colS hC h hL;refine(mc N m 31 j i A x (-y) hj om hm (fun c r hc hr=>jb (hA c r hc hr)) na nb'.neg om _ _ (dO.first hcol.vr.va)).mono ?_
 rintro _ S1 ⟨c2,rfl,hI,hE,hn⟩;have hp:∀t,t≠67->(O.put (some 67) (.sl 2 c2 0 m)) t=O t:=fun t ht=>by rw[Tm.put_eq];exact if_neg ht
 have hd:(O.put (some 67) (.sl 2 c2 0 m)) 67=.sl 2 c2 0 m:=by rw[Tm.put_eq];exact if_pos rfl
 have hbs:S b≠ac:=by obtain⟨z,k,_⟩:=hcol.outer;rw[k];simp
 obtain⟨c1,_,m1,_,_⟩:=h.mem;obtain⟨q1,q2,q3⟩:=m1 (o1 h15);refine⟨fun e he=>by rw[hp _ (h2 e he)];exact h.base e he,fun e he hl=>?_,⟨c1,c2,fun _=>⟨by rw[hp _ dc];exact q1,hE.has q2,q3⟩,fun _=>⟨hd,hI,h.keep.fresh hbs hn,bE.fresh q2 hn⟩,?_⟩,h.keep.trans (gI.ext hE),?_⟩
 ·rw[hp _ (h1 e he).2];simp only[(h1 e he).1,if_false]at hl;exact h.pure e he hl
 ·refine(hE.has hcol.outer).congr fun k _=>?_;simp[k1,k2]
 ·simp[h15,o1 h15,k1,k2]
theorem tb.st18(h:tb T b g N m i j v1 v2 PL BL L O S)(h9:L 9=true)(h16:L 16=true)(hL:L 18=false)(hij:i<j)(hj:j<N)(h1:∀e∈PL,e.1≠18) :
  ∃c1 g1,O 60=.sl 2 c1 0 m/\S b=some ⟨59,1,N,g1⟩/\tb T b g N m i j v1 v2 PL BL (fun k=>if k=18 then true else L k) O (S.upd b ⟨59,1,N,bJ g1 i (.sl 2 c1 0 m)⟩):=by
 obtain⟨o1,o2,o3,o4⟩:=h.ord;have h20:L 20=false:=by cases e:L 20 with
  | false=>rfl
  | true=>rw[o4 e]at hL;cases hL
 obtain⟨c1,c2,m1,m2,m3⟩:=h.mem;obtain⟨q1,q2,q3⟩:=m1 h9;obtain⟨r1,r2,r3,r4⟩:=m2 h16;obtain⟨g1,u1,w1⟩:=id m3;have n1:c1≠b:=ao (bE.ne m3 q2 dc)
 have n2:c2≠b:=ao (bE.ne m3 r2 dc)
 refine⟨c1,g1,q1,u1,h.base,fun e he hl=>?_,⟨c1,c2,fun _=>⟨q1,q2.upd n1 _,q3⟩,fun _=>⟨r1,r2.upd n2 _,r3,r4⟩,bE.here fun k hk=>?_⟩,h.keep.upd (bQ rfl) _,?_⟩
 ·simp only[h1 e he,if_false]at hl;exact h.pure e he hl
 ·have:=w1 k hk;simp only[bJ];by_cases e:k=i
  ·simp[e]
  ·rw[if_neg e,this];simp[e,h20]
 ·simp[h9,h16,h20,o2 h16]
theorem tb.st20(h:tb T b g N m i j v1 v2 PL BL L O S)(h16:L 16=true)(h18:L 18=true)(hL:L 20=false)(hij:i<j)(hj:j<N)(h1:∀e∈PL,e.1≠20) :
  ∃c2 g1,O 67=.sl 2 c2 0 m/\S b=some ⟨59,1,N,g1⟩/\tb T b g N m i j v1 v2 PL BL (fun k=>if k=20 then true else L k) O (S.upd b ⟨59,1,N,bJ g1 j (.sl 2 c2 0 m)⟩):=by
 obtain⟨o1,o2,o3,o4⟩:=h.ord;obtain⟨c1,c2,m1,m2,m3⟩:=h.mem;obtain⟨q1,q2,q3⟩:=m1 (o1 (o2 h16));obtain⟨r1,r2,r3,r4⟩:=m2 h16;obtain⟨g1,u1,w1⟩:=id m3;have n1:c1≠b:=ao (bE.ne m3 q2 dc)
 have n2:c2≠b:=ao (bE.ne m3 r2 dc)
 refine⟨c2,g1,r1,u1,h.base,fun e he hl=>?_,⟨c1,c2,fun _=>⟨q1,q2.upd n1 _,q3⟩,fun _=>⟨r1,r2.upd n2 _,r3,r4⟩,bE.here fun k hk=>?_⟩,h.keep.upd (bQ rfl) _,?_⟩
 ·simp only[h1 e he,if_false]at hl;exact h.pure e he hl
 ·have:=w1 k hk;simp only[bJ];by_cases e:k=j
  ·have:¬j=i:=om
   simp[e,h18,this]
  ·rw[if_neg e,this];simp[e,h18]
 ·simp[h16,h18,o2 h16,o1 (o2 h16)]
theorem tb.fin(hC:Iy S0 T b b7 b8 b9 b11 b12 g N m A M x y a b')(h:tb T b g N m i j (fun r=>a*A i r+b'*A j r) (fun r=>x*A j r+-y*A i r) PL BL L O S)(hL:∀k,k<21->L k=true)(hij:i<j):∃g',cZ S b g' N m (mX A i j a b' x y)/\ky T S b g g' N:=by
 obtain⟨c1,c2,m1,m2,m3⟩:=h.mem;obtain⟨q1,q2,q3⟩:=m1 (hL 9 om);obtain⟨r1,r2,r3,r4⟩:=m2 (hL 16 om);have hg:∀k,k<N->T (g k)≠ac:=fun k hk=>by obtain⟨z,e,_⟩:=hC.mat.row k hk;rw[e];simp
 refine⟨fun k=>if k=i then c1 else if k=j then c2 else g k,⟨m3.congr fun k _=>by simp[hL 18 om,hL 20 om],fun k hk=>?_,fun k l hk hl e=>?_⟩,fun k X hX hk _=>h.keep k X hX hk,fun k hk=>?_⟩
 ·by_cases e1:k=i
  ·simp only[e1,if_true];exact q2.congr fun r _=>by simp[mX]
  ·by_cases e2:k=j
   ·simp only[e2,if_true,(om:¬j=i),if_false]
    exact r2.congr fun r _=>by simp[mX,(om:¬j=i)]
   ·simp only[e1,e2,if_false];exact(h.keep.has (hC.mat.row k hk) (ao (hC.mat.outer_ne hk))).congr fun r _=>by simp[mX,e1,e2]
 ·have gc1:∀k,k<N->g k≠c1:=fun k hk e=>hg k hk (e▸q3);have gc2:∀k,k<N->g k≠c2:=fun k hk e=>hg k hk (e▸r3);by_cases a1:k=i
  ·by_cases b1:l=i
   ·omega
   ·by_cases b2:l=j
    ·rw[if_pos a1,if_neg b1,if_pos b2]at e;exact absurd e r4
    ·rw[if_pos a1,if_neg b1,if_neg b2]at e;exact absurd e.symm (gc1 l hl)
  ·by_cases a2:k=j
   ·by_cases b1:l=i
    ·rw[if_neg a1,if_pos a2,if_pos b1]at e;exact absurd e.symm r4
    ·by_cases b2:l=j
     ·omega
     ·rw[if_neg a1,if_pos a2,if_neg b1,if_neg b2]at e;exact absurd e.symm (gc2 l hl)
   ·by_cases b1:l=i
    ·rw[if_neg a1,if_neg a2,if_pos b1]at e;exact absurd e (gc1 k hk)
    ·by_cases b2:l=j
     ·rw[if_neg a1,if_neg a2,if_neg b1,if_pos b2]at e;exact absurd e (gc2 k hk)
     ·rw[if_neg a1,if_neg a2,if_neg b1,if_neg b2]at e;exact hC.mat.inj k l hk hl e
 ·by_cases a1:k=i
  ·simp only[a1,if_true];exact bH q3
  ·by_cases a2:k=j
   ·simp only[a2,if_true,(om:¬j=i),if_false];exact bH r3
   ·simp only[a1,a2,if_false];exact bQ ⟨k,hk,rfl⟩
end
theorem mK{ops:Array Oper}{O:Tm}{S:St}{K:Tm->St->Prop}(P:St->Prop)(hP:P S)(h:∀T,P T->Ga ops O T K):Ga ops O S K:=h S hP
theorem dn{ops:Array Oper}{o:Oper}{O:Tm}{S:St}{K:Tm->St->Prop}(h:o.guard=ac)(k:IB o O S (fun z S'=>K (O.put o.dst z) S')):xe ops o O S K:=by unfold xe;rw[h];exact k
theorem Do(S0:St)(b:Nat)(g:Nat->Nat)(N m i j:Nat)(A:aW)(M:Int)(hij:i<j)(hj:j<N)(hi:i<m)(hm:m<=100)(hM:0<M)(hMb:nb M 31)(hA:∀c r,c<N->r<m->0<=A c r/\A c r<2147483648)(hO:cZ S0 b g N m A) :
  cS 267 [.sl 1 b 0 N,.int .i64 i,.int .i64 j,.big M] S0 (fun _ S'=>∃g',cZ S' b g' N m (xI A i j M)/\ky S0 S' b g g' N):=by
 refine g9 func267 rfl 80 ntmps267 kr sm ?_
 rw[aQ,results267];have hiN:i<N:=om
 simp -dsimp only[go_sem,ak,aa,reduceCtorEq];refine aH.intro fun b7 f7=>?_;have hO1:=hO.ext ((eJ.refl S0).upd f7 ⟨50,2,1,fun _=>.big M⟩);obtain⟨g1,u1,v1⟩:=id hO1.outer;obtain⟨g2,u2,v2⟩:=id (hO1.row i hiN);obtain⟨g3,u3,v3⟩:=id (hO1.row j hj);have x1:g1 i=.sl 2 (g i) 0 m:=v1 i hiN;have x2:g1 j=.sl 2 (g j) 0 m:=v1 j hj;have x3:g2 i=.big (A i i):=v2 i hi;have x4:g3 i=.big (A j i):=v3 i hi;refine nJ 16 [[7,8,9,10,11,12,13],[]] kr ?_
 simp -dsimp only[go_sem,aa,ae,↓reduceIte,reduceCtorEq,af,ab,u1,x1,x2,u2,x3,u3,x4,hiN,hj,hi];refine aH.intro fun b8 f8=>?_;have n8_7:=(ai f8).1
 try simp -dsimp only[go_sem]
 refine aH.intro fun b9 f9=>?_;have n9_8:=(ai f9).1;have n9_7:=(ai (ai f9).2).1;have s8:S0 b8=ac:=(ai f8).2;have s9:S0 b9=ac:=(ai (ai f9).2).2;have w7:b≠b7:=bE.fresh hO.outer f7;have w8:b≠b8:=bE.fresh hO.outer s8;have w9:b≠b9:=bE.fresh hO.outer s9;have y7:∀a,a<N->g a≠b7:=fun a ha=>bE.fresh (hO.row a ha) f7;have y8:∀a,a<N->g a≠b8:=fun a ha=>bE.fresh (hO.row a ha) s8;have y9:∀a,a<N->g a≠b9:=fun a ha=>bE.fresh (hO.row a ha) s9;have w8i:=y8 i hiN;have w8j:=y8 j hj;have w9i:=y9 i hiN;have w9j:=y9 j hj;simp -dsimp only[go_sem,aa,ae,↓reduceIte,reduceCtorEq,af,u1,x2,u3,x4,hj,hi,bJ,w8,w8j,w9,w9j,nn n9_8];have ki:=hA i i hiN hi;have kj:=hA j i hj hi;refine(jJ (jb kj) om).call ?_;by_cases hz:A j i=0
 ·simp -dsimp only[go_sem,aa,au,ae,↓reduceIte,hz,show(Int.sign 0==0)=true from rfl];refine⟨g,?_,?_⟩
  ·rw[xI,if_pos hz]
   repeat' first|exact hO|refine cZ.upd ?_ (by assumption) (by assumption) _
  ·repeat' first|exact ky.refl S0 b g N|refine ky.upd ?_ (bH (bH (by assumption))) _
 ·have hs:((A j i).sign==0)=false:=by
   have:(A j i).sign=1:=Int.sign_eq_one_of_pos om;rw[this];rfl
  simp -dsimp only[go_sem,aa,ae,↓reduceIte,ab,hs,ao n9_8,ed];refine(wu om om (bH hz)).call ?_;generalize hbz:bz (A i i).toNat (A j i).toNat=D at *;simp -dsimp only[go_sem,aa,↓reduceIte,ed];refine aH.intro fun b10 f10=>?_;have n10_9:=(ai f10).1;have n10_8:=(ai (ai f10).2).1;have n10_9:=(ai (ai (ai f10).2).2).1;have n10_8:=(ai (ai (ai (ai f10).2).2).2).1;have n10_7:=(ai (ai (ai (ai (ai f10).2).2).2).2).1;simp -dsimp only[go_sem];refine aH.intro fun b11 f11=>?_;have n11_10:=(ai f11).1;have n11_9:=(ai (ai f11).2).1;have n11_8:=(ai (ai (ai f11).2).2).1;have n11_9:=(ai (ai (ai (ai f11).2).2).2).1;have n11_8:=(ai (ai (ai (ai (ai f11).2).2).2).2).1;have n11_7:=(ai (ai (ai (ai (ai (ai f11).2).2).2).2).2).1;simp -dsimp only[go_sem];refine aH.intro fun b12 f12=>?_;have n12_11:=(ai f12).1;have n12_10:=(ai (ai f12).2).1;have n12_9:=(ai (ai (ai f12).2).2).1;have n12_8:=(ai (ai (ai (ai f12).2).2).2).1;have n12_9:=(ai (ai (ai (ai (ai f12).2).2).2).2).1;have n12_8:=(ai (ai (ai (ai (ai (ai f12).2).2).2).2).2).1;have n12_7:=(ai (ai (ai (ai (ai (ai (ai f12).2).2).2).2).2).2).1;simp -dsimp only[go_sem,aa,ae,↓reduceIte,ab,nn n11_10,nn n12_10,nn n12_11,ao n9_8,ao n10_8,ao n11_8,ao n12_8,ed];have s10:S0 b10=ac:=(ai (ai (ai (ai (ai f10).2).2).2).2).2;have s11:S0 b11=ac:=(ai (ai (ai (ai (ai (ai f11).2).2).2).2).2).2;have s12:S0 b12=ac:=(ai (ai (ai (ai (ai (ai (ai f12).2).2).2).2).2).2).2;have w10:b≠b10:=bE.fresh hO.outer s10;have w11:b≠b11:=bE.fresh hO.outer s11;have w12:b≠b12:=bE.fresh hO.outer s12;have y10:∀a,a<N->g a≠b10:=fun a ha=>bE.fresh (hO.row a ha) s10;have y11:∀a,a<N->g a≠b11:=fun a ha=>bE.fresh (hO.row a ha) s11;have y12:∀a,a<N->g a≠b12:=fun a ha=>bE.fresh (hO.row a ha) s12;have hD1:=Dq (A j i).toNat (A i i).toNat (A j i).toNat om (bH om);have hD2:=H9 (A j i).toNat (A i i).toNat (A j i).toNat om om;rw[hbz]at hD1 hD2;have nD1:nb D.1 31:=by unfold nb;omega
  have nD2:nb D.2.1 31:=by unfold nb;omega
  have nD3:nb D.2.2 31:=by unfold nb;omega
  refine(kP (jb ki) nD1 om om (bH ((jb ki).mono om))).call ?_;simp -dsimp only[go_sem,aa,ae,↓reduceIte,ab,nn n9_8,nn n10_8,ao n10_9,ao n11_8,ao n11_9,ao n11_10,ao n12_8,ao n12_9,ao n12_10,ed];refine(kP (jb kj) nD1 om om (bH ((jb kj).mono om))).call ?_;simp -dsimp only[go_sem,aa,ae,↓reduceIte,ab,n9_8,ao n10_9,ao n11_9,ao n12_9,ed];have hx':nb (A i i/D.1) 31:=by
   have:=r9 D.1 ki.1;have:=tK ki.1 (cu hD1.1);unfold nb;omega
  have hy':nb (A j i/D.1) 31:=by
   have:=r9 D.1 kj.1;have:=tK kj.1 (cu hD1.1);unfold nb;omega
  refine mK (fun T=>Iy S0 T b b7 b8 b9 b11 b12 g N m A M (A i i/D.1) (A j i/D.1) D.2.1 D.2.2) ?_ ?_
  ·constructor
   ·repeat' first|exact hO|refine cZ.upd ?_ (by assumption) (by assumption) _
   ·repeat' first|exact ky.refl S0 b g N|refine ky.upd ?_ (bH (bH (by assumption))) _
   all_goals first|exact f7|simp only[dl.at_hit,dl.at_miss,ne_eq,not_false_eq_true,bJ,if_true,n11_8,n11_9,n12_8,n12_9,ao n8_7,ao n9_7,ao n9_8,ao n10_7,ao n11_7,ao n12_7,ao n12_11]
  intro T hC;generalize hxx:A i i/D.1=x' at *;generalize hyy:A j i/D.1=y' at *;refine yL (tb T b g N m i j (fun r=>D.2.1*A i r+D.2.2*A j r) (fun r=>x'*A j r+-y'*A i r) [(0,51,.sl 1 b 0 N),(1,52,.int .i64 i),(2,53,.sl 1 b 0 N),(3,54,.int .i64 j),(4,55,.sl 1 b 0 N),(5,56,.int .i64 i),(6,57,.big D.2.1),(7,58,.int .i64 j),(8,59,.big D.2.2),(10,61,.sl 1 b 0 N),(11,62,.int .i64 j),(12,63,.big x'),(13,64,.int .i64 i),(14,65,.big y'),(15,66,.big (-y')),(17,68,.ptr 1 b i),(19,69,.ptr 1 b j)] [(0,.sl 1 b 0 N),(1,.int .i64 i),(2,.int .i64 j),(7,.ptr 2 b7 0),(8,.ptr 2 b8 0),(9,.ptr 2 b9 0),(11,.ptr 2 b11 0),(12,.ptr 2 b12 0)]) kr ?_ ?_ ?_
  ·refine⟨?_,(fun e _ h=>by cases h),⟨0,0,(fun h=>by cases h),(fun h=>by cases h),hC.mat.outer.congr fun k _=>by simp⟩,gI.refl _ _,sm⟩
   simp only[List.forall_mem_cons,List.not_mem_nil,false_implies,implies_true,and_true];simp -dsimp only[go_sem,aa,↓reduceIte,reduceCtorEq]
  ·clear f8 f9 f10 f11 f12 hbz;refine⟨?_,?_,?_,?_,?_,?_,?_,?_,?_,?_,?_,?_,?_,?_,?_,?_,?_,?_,?_,?_,?_,trivial⟩
   ·intro L O S hP hL ha;have al:∀k,_->L k=true:=aB.1 ha;refine dn rfl ?_;have e0:O 0=.sl 1 b 0 N:=hP.base (0,.sl 1 b 0 N) sm
    simp -dsimp only[go_sem,e0];exact hP.put sm sm sm sm dc dc (by intro h;cases h)
   ·intro L O S hP hL ha;have al:∀k,_->L k=true:=aB.1 ha;refine dn rfl ?_;have e1:O 1=.int .i64 i:=hP.base (1,.int .i64 i) sm
    simp -dsimp only[go_sem,e1];exact hP.put sm sm sm sm dc dc (by intro h;cases h)
   ·intro L O S hP hL ha;have al:∀k,_->L k=true:=aB.1 ha;refine dn rfl ?_;have e0:O 0=.sl 1 b 0 N:=hP.base (0,.sl 1 b 0 N) sm
    simp -dsimp only[go_sem,ak,e0];exact hP.put sm sm sm sm dc dc (by intro h;cases h)
   ·intro L O S hP hL ha;have al:∀k,_->L k=true:=aB.1 ha;refine dn rfl ?_;have e2:O 2=.int .i64 j:=hP.base (2,.int .i64 j) sm
    simp -dsimp only[go_sem,ak,e2];exact hP.put sm sm sm sm dc dc (by intro h;cases h)
   ·intro L O S hP hL ha;have al:∀k,_->L k=true:=aB.1 ha;refine dn rfl ?_;have e0:O 0=.sl 1 b 0 N:=hP.base (0,.sl 1 b 0 N) sm
    simp -dsimp only[go_sem,ak,e0];exact hP.put sm sm sm sm dc dc (by intro h;cases h)
   ·intro L O S hP hL ha;have al:∀k,_->L k=true:=aB.1 ha;refine dn rfl ?_;have e1:O 1=.int .i64 i:=hP.base (1,.int .i64 i) sm
    simp -dsimp only[go_sem,ak,e1];exact hP.put sm sm sm sm dc dc (by intro h;cases h)
   ·intro L O S hP hL ha;have al:∀k,_->L k=true:=aB.1 ha;refine dn rfl ?_;have e11:O 11=.ptr 2 b11 0:=hP.base (11,.ptr 2 b11 0) sm
    obtain⟨gg,uu,xx⟩:=hP.keep.var hC.v11 (ao w11);simp -dsimp only[go_sem,ak,↓reduceIte,e11,uu,xx];exact hP.put sm sm sm sm dc dc (by intro h;cases h)
   ·intro L O S hP hL ha;have al:∀k,_->L k=true:=aB.1 ha;refine dn rfl ?_;have e2:O 2=.int .i64 j:=hP.base (2,.int .i64 j) sm
    simp -dsimp only[go_sem,ak,e2];exact hP.put sm sm sm sm dc dc (by intro h;cases h)
   ·intro L O S hP hL ha;have al:∀k,_->L k=true:=aB.1 ha;refine dn rfl ?_;have e12:O 12=.ptr 2 b12 0:=hP.base (12,.ptr 2 b12 0) sm
    obtain⟨gg,uu,xx⟩:=hP.keep.var hC.v12 (ao w12);simp -dsimp only[go_sem,ak,↓reduceIte,e12,uu,xx];exact hP.put sm sm sm sm dc dc (by intro h;cases h)
   ·intro L O S hP hL ha;have al:∀k,_->L k=true:=aB.1 ha;refine dn rfl ?_;have p4:O 55=.sl 1 b 0 N:=hP.pure (4,55,.sl 1 b 0 N) sm (al 4 dc)
    have p5:O 56=.int .i64 i:=hP.pure (5,56,.int .i64 i) sm (al 5 dc)
    have p6:O 57=.big D.2.1:=hP.pure (6,57,.big D.2.1) sm (al 6 dc)
    have p7:O 58=.int .i64 j:=hP.pure (7,58,.int .i64 j) sm (al 7 dc)
    have p8:O 59=.big D.2.2:=hP.pure (8,59,.big D.2.2) sm (al 8 dc)
    simp -dsimp only[go_sem,aa,au,ae,p4,p5,p6,p7,p8];exact tb.call9 hC hP hL hij hj hm hA nD2 nD3 sm sm
   ·intro L O S hP hL ha;have al:∀k,_->L k=true:=aB.1 ha;refine dn rfl ?_;have e0:O 0=.sl 1 b 0 N:=hP.base (0,.sl 1 b 0 N) sm
    simp -dsimp only[go_sem,ak,e0];exact hP.put sm sm sm sm dc dc (by intro h;cases h)
   ·intro L O S hP hL ha;have al:∀k,_->L k=true:=aB.1 ha;refine dn rfl ?_;have e2:O 2=.int .i64 j:=hP.base (2,.int .i64 j) sm
    simp -dsimp only[go_sem,ak,e2];exact hP.put sm sm sm sm dc dc (by intro h;cases h)
   ·intro L O S hP hL ha;have al:∀k,_->L k=true:=aB.1 ha;refine dn rfl ?_;have e8:O 8=.ptr 2 b8 0:=hP.base (8,.ptr 2 b8 0) sm
    obtain⟨gg,uu,xx⟩:=hP.keep.var hC.v8 (ao w8);simp -dsimp only[go_sem,ak,↓reduceIte,e8,uu,xx];exact hP.put sm sm sm sm dc dc (by intro h;cases h)
   ·intro L O S hP hL ha;have al:∀k,_->L k=true:=aB.1 ha;refine dn rfl ?_;have e1:O 1=.int .i64 i:=hP.base (1,.int .i64 i) sm
    simp -dsimp only[go_sem,ak,e1];exact hP.put sm sm sm sm dc dc (by intro h;cases h)
   ·intro L O S hP hL ha;have al:∀k,_->L k=true:=aB.1 ha;refine dn rfl ?_;have e9:O 9=.ptr 2 b9 0:=hP.base (9,.ptr 2 b9 0) sm
    obtain⟨gg,uu,xx⟩:=hP.keep.var hC.v9 (ao w9);simp -dsimp only[go_sem,ak,↓reduceIte,e9,uu,xx];exact hP.put sm sm sm sm dc dc (by intro h;cases h)
   ·intro L O S hP hL ha;have al:∀k,_->L k=true:=aB.1 ha;refine dn rfl ?_;have p14:O 65=.big y':=hP.pure (14,65,.big y') sm (al 14 dc)
    simp -dsimp only[go_sem,aa,au,ae,p14];refine(qD hy' om).call ?_;simp -dsimp only[go_sem,ak];exact hP.put sm sm sm sm dc dc (fun _=>al 9 dc)
   ·intro L O S hP hL ha;have al:∀k,_->L k=true:=aB.1 ha;refine dn rfl ?_;have p10:O 61=.sl 1 b 0 N:=hP.pure (10,61,.sl 1 b 0 N) sm (al 10 dc)
    have p11:O 62=.int .i64 j:=hP.pure (11,62,.int .i64 j) sm (al 11 dc)
    have p12:O 63=.big x':=hP.pure (12,63,.big x') sm (al 12 dc)
    have p13:O 64=.int .i64 i:=hP.pure (13,64,.int .i64 i) sm (al 13 dc)
    have p15:O 66=.big (-y'):=hP.pure (15,66,.big (-y')) sm (al 15 dc)
    simp -dsimp only[go_sem,aa,au,ae,p10,p11,p12,p13,p15];exact tb.call16 hC hP hL (al 15 dc) hij hj hm hA hx' hy' sm sm
   ·intro L O S hP hL ha;have al:∀k,_->L k=true:=aB.1 ha;refine dn rfl ?_;have p0:O 51=.sl 1 b 0 N:=hP.pure (0,51,.sl 1 b 0 N) sm (al 0 dc)
    have p1:O 52=.int .i64 i:=hP.pure (1,52,.int .i64 i) sm (al 1 dc)
    simp -dsimp only[go_sem,ak,af,p0,p1,hiN];exact hP.put sm sm sm sm dc dc (by intro h;cases h)
   ·intro L O S hP hL ha;have al:∀k,_->L k=true:=aB.1 ha;refine dn rfl ?_;have p17:O 68=.ptr 1 b i:=hP.pure (17,68,.ptr 1 b i) sm (al 17 dc)
    obtain⟨c1,g1,q1,q2,q3⟩:=hP.st18 (al 9 dc) (al 16 dc) hL hij hj sm
    simp -dsimp only[go_sem,ak,↓reduceIte,ab,p17,q1,q2,hiN];exact q3
   ·intro L O S hP hL ha;have al:∀k,_->L k=true:=aB.1 ha;refine dn rfl ?_;have p2:O 53=.sl 1 b 0 N:=hP.pure (2,53,.sl 1 b 0 N) sm (al 2 dc)
    have p3:O 54=.int .i64 j:=hP.pure (3,54,.int .i64 j) sm (al 3 dc)
    simp -dsimp only[go_sem,ak,af,p2,p3,hj];exact hP.put sm sm sm sm dc dc (by intro h;cases h)
   ·intro L O S hP hL ha;have al:∀k,_->L k=true:=aB.1 ha;refine dn rfl ?_;have p19:O 69=.ptr 1 b j:=hP.pure (19,69,.ptr 1 b j) sm (al 19 dc)
    obtain⟨c2,g1,q1,q2,q3⟩:=hP.st20 (al 16 dc) (al 18 dc) hL hij hj sm
    simp -dsimp only[go_sem,ak,↓reduceIte,ab,p19,q1,q2,hj];exact q3
  ·intro L O S hP hL;obtain⟨g',hO',hC'⟩:=tb.fin hC hP hL hij;have e0:O 0=.sl 1 b 0 N:=hP.base (0,.sl 1 b 0 N) sm
   have e1:O 1=.int .i64 i:=hP.base (1,.int .i64 i) sm
   have e2:O 2=.int .i64 j:=hP.base (2,.int .i64 j) sm
   have e7:O 7=.ptr 2 b7 0:=hP.base (7,.ptr 2 b7 0) sm
   obtain⟨gg,uu,xx⟩:=hP.keep.var hC.v7 (ao w7);simp -dsimp only[go_sem,aa,ae,↓reduceIte,ab,e0,e1,e7,uu,xx];have nC:∀c r,c<N->r<m->nb (mX A i j D.2.1 D.2.2 x' y' c r) 63:=fun c r hc hr=>by
    have q1:=jb (hA i r hiN hr);have q2:=jb (hA j r hj hr);unfold mX;split
    ·exact(nD2.mul q1).add (nD3.mul q2)
    ·split
     ·exact(hx'.mul q2).add (hy'.neg.mul q1)
     ·exact(jb (hA c r hc hr)).mono om
   obtain⟨z7,k7,_⟩:=id hC.v7;have g7:∀a,a<N->g' a≠b7:=hC'.ne k7 y7;refine(mz S b g' N m i i _ M hiN hm om hM (hMb.mono om) 63 om (fun r hr=>nC i r hiN hr) hO').mono ?_;rintro _ S1 ⟨hO1',hC1'⟩;obtain⟨g3,u3,x3⟩:=hC1'.var ⟨gg,uu,xx⟩ (ao w7) g7;simp -dsimp only[go_sem,aa,ae,↓reduceIte,reduceCtorEq,ab,e0,e1,e2,e7,u3,x3];refine(mz S1 b g' N m j i _ M hj hm om hM (hMb.mono om) 63 om (fun r hr=>?_) hO1').mono ?_
   ·rw[if_neg om];exact nC j r hj hr
   rintro _ S2 ⟨hO2',hC2'⟩;simp -dsimp only[go_sem];refine⟨g',?_,(hC.cols.trans (hC'.trans (hC1'.trans hC2' hO1'.some) hO'.some) hC.mat.some)⟩;have e:xI A i j M=CT (CT (mX A i j D.2.1 D.2.2 x' y') i i M) j i M:=by
    rw[xI,if_neg hz,hbz,hxx,hyy]
   rw[e];exact hO2'
theorem tX(N m K k:Nat)(A:aW)(ρ:Nat->Nat)(h2:N<=100)(h4:K<=100)(hρ:∀i,i<K->ρ i<m)(hA:∀c r,c<N->r<m->nb (A c r) k)(hk:k<=1000000):MF 234 [aZ N m A,bO K (fun i=>ρ i)] K N (fun i j=>A j (ρ i)):=by
 refine MF.of ?_;refine aD func234 rfl 47 ntmps234 kr sm (by simp[results234]) ?_
 rw[aQ,results234];simp -dsimp only[go_sem,ak,aa,reduceCtorEq,aZ,bn,bO]
 repeat refine an ?_
 refine aH.intro fun bc fc=>?_;simp -dsimp only[go_sem];refine aM (fun O S'=>∃j:Nat,j<=K/\O 0=aZ N m A/\O 5=.sl 1 bc 0 K/\O 12=bO K (fun i=>ρ i)/\O 13=.int .i64 K/\O 14=.int .i64 j/\∃g',eO 59 50 2 St.none S' bc g' K N j (fun a i=>.big (A i (ρ a)))) (fun O S=>K-ca (O 14)) ?_ ?_
 ·simp -dsimp only[go_sem,aa,reduceCtorEq,aZ,bn,bO];exact⟨0,om,rfl,fun _=>0,eO.init fc (fun _ _=>rfl) _ _⟩
 ·rintro O S' ⟨j,hj,e0,e5,e12,e13,e14,g',hR⟩;by_cases hit:j<K
  ·obtain⟨g4,u4,v4⟩:=id hR.outer;simp -dsimp only[go_sem,aa,↓reduceIte,reduceCtorEq,af,decide_true,ab,e0,e5,e12,e13,e14,hit,aZ,bn,bO]
   repeat refine an ?_
   refine aH.intro fun bd fd=>?_;have hdc:bc≠bd:=bE.fresh hR.outer fd;simp -dsimp only[go_sem,hit,u4,hdc];have hR1:=hR.push dc fd u4 (fun _=>.big 0)
   generalize hgg:(fun a=>if a=j then bd else g' a)=gg at hR1
   refine aM (fun O S'=>∃i:Nat,i<=N/\O 0=aZ N m A/\O 5=.sl 1 bc 0 K/\O 6=.int .i64 j/\O 7=.int .i64 (ρ j)/\O 12=bO K (fun i=>ρ i)/\O 13=.int .i64 K/\O 14=.int .i64 j/\O 26=.int .i64 N/\O 27=.int .i64 i/\eO 59 50 2 St.none S' bc gg K N (j+1) (fun a c=>.big (if a=j/\i<=c then 0 else A c (ρ a)))) (fun O S=>N-ca (O 27)) ?_ ?_
   ·simp -dsimp only[go_sem,aa,reduceCtorEq,e0,e5,e12,e13,e14,aZ,bn,bO];refine⟨0,om,rfl,hR1.congr fun a c _ _=>?_⟩
    by_cases e:a=j
    ·simp[e]
    ·simp[e]
   ·clear e0 e5 e12 e13 e14 hR hR1 u4 v4 hgg;rintro O S' ⟨i,hi,e0,e5,e6,e7,e12,e13,e14,e26,e27,hR⟩;by_cases hjt:i<N
    ·obtain⟨g4,u4,v4⟩:=id hR.outer;obtain⟨g5,u5,v5⟩:=id (hR.row j om);have x4:g4 j=.sl 2 (gg j) 0 N:=(v4 j hit).trans (if_pos om);have hr:=hρ j hit;simp -dsimp only[go_sem,aa,↓reduceIte,reduceCtorEq,af,decide_true,e0,e5,e12,e13,e14,e26,e27,hjt,aZ,bn,bO];refine bM 14 kr ?_
     simp -dsimp only[go_sem,aa,ae,↓reduceIte,reduceCtorEq,af,ab,e0,e5,e6,e7,e12,e13,e14,e26,e27,hit,hjt,u4,x4,u5,aZ,bn,hr,bO,a6 (om:i<1000000),ca]
     refine⟨_,(pQ (hA i (ρ j) hjt hr) om).pure',trivial,⟨i+1,om,rfl,(hR.put dc (om:j<j+1) u5 i (.big (A i (ρ j)))).congr fun a c _ _=>?_⟩,om⟩
     by_cases e:a=j/\c=i
     ·obtain⟨rfl,rfl⟩:=e;rw[if_pos ⟨rfl,rfl⟩,if_neg om]
     ·rw[if_neg e];congr 1;by_cases e2:a=j/\i<=c
      ·rw[if_pos e2,if_pos om]
      ·rw[if_neg e2,if_neg om]
    ·simp -dsimp only[go_sem,aa,↓reduceIte,reduceCtorEq,af,decide_false,e0,e5,e12,e13,e14,e26,e27,hjt,a6 (om:j<1000000),ca]
     exact⟨⟨j+1,om,rfl,rfl,rfl,gg,hR.congr fun a c _ hc=>by rw[if_neg om]⟩,om⟩
  ·obtain rfl:j=K:=om
   have hN:=hR.mat (A:=fun i j=>A j (ρ i)) (fun _ _ _ _=>rfl);simp -dsimp only[go_sem,aa,↓reduceIte,reduceCtorEq,af,decide_false,az,ab,e0,e5,e12,e13,e14,hit];exact⟨bc,rfl,g',hN.1⟩
theorem oY{A:aW}{m:Int}(hm:1<=m)(i j:Nat):0<=kq A m i j/\kq A m i j<m:=⟨aY _ om,aV _ om⟩
theorem F1(n K l:Nat)(A B:aW)(m:Int)(h1:1<=n)(h2:n<=16)(h3:1<=K)(h4:K<=16)(h5:1<=l)(h6:l<=16)(hm:2<=m)(hm2:m<=2147483647):xO 181 [aN n K A,aN K l B,.int .i64 m] n l (jz (kq A m) (kq B m) K m):=by
 refine xO.of ?_;refine aD func181 rfl 39 ntmps181 kr sm (by simp[results181]) ?_
 rw[aQ,results181];have hp0:0<n:=om
 have hpz:(0:Int)<(n:Int):=om
 simp -dsimp only[go_sem,ak,aa,ae,reduceCtorEq,ab];refine(qS n K A h1 h2 h3 h4).call ?_;simp -dsimp only[go_sem,aa,ae,reduceCtorEq,ab];refine(qS K l B h3 h4 h5 h6).call ?_;simp -dsimp only[go_sem,aa,ae,reduceCtorEq,az,ab,aN,bO,hpz,show((K:Int) != K)=false by simp]
 refine(jM m hm hm2).call ?_;simp -dsimp only[go_sem,aa,ae,reduceCtorEq,ab];refine(lm n K A m h2 h4 om hm2 _ _ (cH _ _)).mono ?_;rintro _ S1 ⟨b1,g1,rfl,hN1⟩;simp -dsimp only[go_sem,aa,ae,reduceCtorEq,ab];refine(lm K l B m h4 h6 om hm2 _ _ (cH _ _)).mono ?_;rintro _ S2 ⟨b2,g2,rfl,hN2⟩;simp -dsimp only[go_sem,aa,ae,reduceCtorEq,ab];refine(CV n K l (kq A m) (kq B m) m h2 h3 h4 h6 om hm2 (fun i j _ _=>oY om i j) (fun i j _ _=>oY om i j) _ _ (dO.imat (hN1.1.ext hN2.2.1) (dO.imat hN2.1 (cH _ _)))).mono ?_;rintro _ S3 ⟨b3,g3,rfl,hN3⟩;simp -dsimp only[go_sem,aa,reduceCtorEq];exact⟨b3,rfl,g3,hN3.1⟩
theorem Jb(n:Nat)(v:Nat->Int)(hn:1<=n):PF 183 [bO n v] (.bool (v 0 != 0)):=by
 refine PF.of_spec (aD func183 rfl 7 ntmps183 kr sm (by simp[results183]) ?_)
 rw[aQ,results183];have hp0:0<n:=om
 have hpz:(0:Int)<(n:Int):=om
 simp -dsimp only[go_sem,reduceCtorEq,az,bO,hpz];exact VR.mf rfl
theorem Ax(n m piv:Nat)(A:aW)(hn:n<=16)(hm:1<=m)(hp:piv<n)(h0:A piv 0≠0)(hf:∀i,i<piv->A i 0=0):PF 182 [aN n m A,.fn 183 []] (.int .i64 piv):=by
 refine PF.of_spec (aD func182 rfl 19 ntmps182 kr sm (by simp[results182]) ?_)
 rw[aQ,results182];simp -dsimp only[go_sem,ak,reduceCtorEq,aN,bO];refine aM (fun O S=>∃i:Nat,i<=piv/\O 0=aN n m A/\O 1=.fn 183 []/\O 7=.int .i64 n/\O 8=.int .i64 i) (fun O S=>n-ca (O 8)) ?_ ?_
 ·simp -dsimp only[go_sem,aa,reduceCtorEq,aN,bO];exact⟨0,om,rfl⟩
 ·rintro O S ⟨i,hi,e0,e1,e7,e8⟩;have hlt:i<n:=om
  simp -dsimp only[go_sem,aa,ae,↓reduceIte,reduceCtorEq,af,decide_true,ab,aN,bO,e0,e1,e7,e8,hlt];refine(Jb m (A i) hm).call ?_;by_cases e:i=piv
  ·subst e;simp -dsimp only[go_sem,aa,reduceCtorEq,aN,bO,e0,e1,e7,e8,show(A i 0 != 0)=true by simp[h0]]
   exact VR.mf rfl
  ·simp -dsimp only[go_sem,aa,reduceCtorEq,aN,bO,e0,e1,e7,e8,show(A i 0 != 0)=false by simp[hf i om],a6 (om:i<1000000),ca]
   exact⟨⟨i+1,om,rfl⟩,om⟩
def zZ:Nat->Int->Int->Int->Int->Int
 | 0,_,_,u,_=>u
 | f+1,a,b,u,v=>if b=0 then u else zZ f b (a-iu a b*b) v (u-iu a b*v)
def smi(x:Int):Bool:=decide (-1000000<=x/\x<=1000000)
def ph:Nat->Int->Int->Int->Int->Bool
 | 0,_,_,_,_=>false
 | f+1,a,b,u,v=>if b=0 then a==1 else decide (0<=a-iu a b*b/\a-iu a b*b<b)&&smi a&&smi b&&smi u&&smi v&&smi (iu a b)&&smi (iu a b*b)&&smi (iu a b*v)&&ph f b (a-iu a b*b) v (u-iu a b*v)
theorem GJ{x:Int}(h:smi x=true):IntKind.i64.wrap x=x:=by
 simp only[smi,decide_eq_true_eq]at h;exact i64_in om om
theorem GI{x y:Int}(h:smi x=true)(h':smi y=true):IntKind.i64.wrap (x-y)=x-y:=by
 simp only[smi,decide_eq_true_eq]at h h';exact i64_in om om
theorem xr(F:Nat)(x m:Int)(hm:1<=m)(hm2:m<=2147483647)(h:ph F m x 0 1=true):PF 229 [.int .i64 x,.int .i64 m] (.tup [.int .i64 (zZ F m x 0 1%m),.bool true]):=by
 refine PF.of_spec (aD func229 rfl 39 ntmps229 kr sm (by simp[results229]) ?_)
 rw[aQ,results229];have hm0:¬(m=0):=om
 simp -dsimp only[go_sem,ak,aa,reduceCtorEq];refine aM (fun O S=>∃(a b u v:Int),O 1=.int .i64 m/\O 6=.int .i64 a/\O 7=.int .i64 b/\O 8=.int .i64 u/\O 9=.int .i64 v/\∃f,ph f a b u v=true/\zZ f a b u v=zZ F m x 0 1) (fun O S=>match O 7 with|.int _ b=>b.toNat|_=>0) ?_ ?_
 ·simp -dsimp only[go_sem,aa,reduceCtorEq];exact⟨m,rfl,x,rfl,0,rfl,1,rfl,F,h,rfl⟩
 ·rintro O S ⟨a,b,u,v,e1,e6,e7,e8,e9,f,hok,hv⟩
  cases f with
  | zero=>simp[ph]at hok
  | succ f =>
   by_cases hb:b=0
   ·subst hb;simp only[ph,if_true]at hok;simp only[zZ,if_true]at hv;obtain⟨q1,q2⟩:=Bg (x:=u) hm hm2;rw[hv]at q1 q2 e8;simp -dsimp only[go_sem,aa,↓reduceIte,e1,e6,e7,e8,e9,hm0,q1,q2,hok,show((0:Int) != 0)=false by simp]
    exact VR.mf rfl
   ·simp only[ph,if_neg hb,Bool.and_eq_true,decide_eq_true_eq]at hok;simp only[zZ,if_neg hb]at hv;obtain⟨⟨⟨⟨⟨⟨⟨⟨k0,k1⟩,k2⟩,k3⟩,k4⟩,k5⟩,k6⟩,k7⟩,k8⟩:=hok;have w0:=GJ k5;have w1:=GJ k6;have w2:=GJ k7;have w3:=GI k1 k6;have w4:=GI k3 k7;simp -dsimp only[go_sem,aa,↓reduceIte,e1,e6,e7,e8,e9,hb,show(b != 0)=true by simp[hb],w0,w1,w2,w3,w4]
    exact⟨⟨b,rfl,_,rfl,v,rfl,_,rfl,f,k8,hv⟩,om⟩
def Cr(b:Nat)(S S':St):Prop:=∀c,c≠b->S' c=S c
theorem Cr.refl(b:Nat)(S:St):Cr b S S:=fun _ _=>rfl
theorem Cr.upd{b:Nat}{S S':St}(h:Cr b S S')(X:dH):Cr b S (S'.upd b X):=fun c hc=>by simp only[St.upd,hc,if_false];exact h c hc
theorem Cr.has{b c:Nat}{S S':St}(h:Cr b S S')(hc:c≠b){t es n:Nat}{g:Nat->AV}(hh:bE S c t es n g):bE S' c t es n g:=by
 obtain⟨g',h1,h2⟩:=hh;exact⟨g',(h c hc).trans h1,h2⟩
theorem Cr.var{b c:Nat}{S S':St}(h:Cr b S S')(hc:c≠b){t es:Nat}{z:AV}(hh:dl S c t es z):dl S' c t es z:=by
 obtain⟨g',h1,h2⟩:=hh;exact⟨g',(h c hc).trans h1,h2⟩
theorem CP(n b:Nat)(v:Nat->Int)(f m:Int)(S:St)(hn:n<=16)(hm:1<=m)(hm2:m<=1000000)(hf:0<=f/\f<m)(hv:∀j,j<n->0<=v j/\v j<m)(hb:bE S b 2 1 n (fun j=>.int .i64 (v j))) :
  cS 230 [.sl 1 b 0 n,.int .i64 f,.int .i64 m] S (fun _ S'=>Cr b S S'/\bE S' b 2 1 n (fun j=>.int .i64 (v j*f%m))):=by
 refine g9 func230 rfl 24 ntmps230 kr sm ?_
 rw[aQ,results230];have hm0:¬(m=0):=om
 simp -dsimp only[go_sem,ak];refine aM (fun O S'=>∃i:Nat,i<=n/\O 0=.sl 1 b 0 n/\O 1=.int .i64 f/\O 2=.int .i64 m/\O 8=.sl 1 b 0 n/\O 9=.int .i64 n/\O 10=.int .i64 i/\Cr b S S'/\bE S' b 2 1 n (fun j=>.int .i64 (if j<i then v j*f%m else v j))) (fun O S=>n-ca (O 10)) ?_ ?_
 ·simp -dsimp only[go_sem,aa,reduceCtorEq];exact⟨0,om,rfl,Cr.refl b S,hb.congr fun j _=>by simp⟩
 ·rintro O S' ⟨i,hi,e0,e1,e2,e8,e9,e10,hC,hH⟩;by_cases hlt:i<n
  ·obtain⟨g0,u0,v0⟩:=id hH;have x0:g0 i=.int .i64 (v i):=(v0 i hlt).trans sm
   have k1:=hv i hlt;have k2:=mC (A:=1000000) (B:=1000000) (om:0<=v i/\v i<=1000000) (om:0<=f/\f<=1000000)
   have q1:IntKind.i64.wrap (v i*f)=v i*f:=i64_in om om;have q2:eA (v i*f) m=v i*f%m:=aU k2.1;simp -dsimp only[go_sem,aa,↓reduceIte,reduceCtorEq,af,decide_true,ab,e0,e1,e2,e8,e9,e10,hlt,u0,x0,hm0,q1,q2,a6 (om:i<1000000),ca]
   refine⟨⟨i+1,om,rfl,hC.upd _,bE.here fun j hj=>?_⟩,om⟩
   by_cases e:j=i
   ·subst e;simp[bJ]
   ·simp only[bJ,e,if_false];rw[v0 j hj];by_cases e2:j<i
    ·simp[e2,(om:j<i+1)]
    ·simp[e2,(om:¬j<i+1)]
  ·obtain rfl:i=n:=om
   simp -dsimp only[go_sem,aa,↓reduceIte,reduceCtorEq,af,decide_false,e0,e1,e2,e8,e9,e10,hlt];exact⟨hC,hH.congr fun j hj=>by simp[hj]⟩
theorem vW(n bt br bm:Nat)(x y:Nat->Int)(q m:Int)(S:St)(hn:n<=16)(hm:1<=m)(hm2:m<=1000000)(hq:0<=q/\q<m)(hx:∀j,j<n->0<=x j/\x j<m)(hy:∀j,j<n->0<=y j/\y j<m)(hne:br≠bt)(hne2:bm≠bt)
  (hbt:bE S bt 2 1 n (fun j=>.int .i64 (x j))) (hbr:bE S br 2 1 n (fun j=>.int .i64 (y j))) (hbm:dl S bm 2 1 (.int .i64 m)) :
  cS 257 [.sl 1 bt 0 n,.sl 1 br 0 n,.int .i64 q,.ptr 1 bm 0] S (fun _ S'=>Cr bt S S'/\bE S' bt 2 1 n (fun j=>.int .i64 ((x j-q*y j)%m))):=by
 refine g9 func257 rfl 32 ntmps257 kr sm ?_
 rw[aQ,results257];have hm0:¬(m=0):=om
 simp -dsimp only[go_sem,ak,reduceCtorEq];refine aM (fun O S'=>∃i:Nat,i<=n/\O 0=.sl 1 bt 0 n/\O 2=.int .i64 q/\O 3=.ptr 1 bm 0/\O 9=.sl 1 br 0 n/\O 10=.int .i64 n/\O 11=.int .i64 i/\Cr bt S S'/\bE S' bt 2 1 n (fun j=>.int .i64 (if j<i then(x j-q*y j)%m else x j))) (fun O S=>n-ca (O 11)) ?_ ?_
 ·simp -dsimp only[go_sem,aa,reduceCtorEq];exact⟨0,om,rfl,Cr.refl bt S,hbt.congr fun j _=>by simp⟩
 ·rintro O S' ⟨i,hi,e0,e2,e3,e9,e10,e11,hC,hH⟩;by_cases hlt:i<n
  ·obtain⟨g0,u0,v0⟩:=id hH;obtain⟨g1,u1,v1⟩:=id (hC.has hne hbr);obtain⟨g2,u2,x2⟩:=id (hC.var hne2 hbm);have x0:g0 i=.int .i64 (x i):=(v0 i hlt).trans sm
   have x1:g1 i=.int .i64 (y i):=v1 i hlt;have k0:=hx i hlt;have k1:=hy i hlt;have k2:=mC (A:=1000000) (B:=1000000) (om:0<=m-q/\m-q<=1000000) (om:0<=y i/\y i<=1000000)
   have q0:IntKind.i64.wrap (m-q)=m-q:=i64_in om om;have q1:IntKind.i64.wrap ((m-q)*y i)=(m-q)*y i:=i64_in om om;have q2:IntKind.i64.wrap (x i+(m-q)*y i)=x i+(m-q)*y i:=i64_in om om;have q3:eA (x i+(m-q)*y i) m=(x i-q*y i)%m:=by
    rw[aU om,show x i+(m-q)*y i=x i-q*y i+m*y i by grind,Int.add_mul_emod_self_left]
   simp -dsimp only[go_sem,aa,↓reduceIte,af,decide_true,ab,e9,e10,e11,hlt,u1,x1];refine bM 15 kr ?_
   simp -dsimp only[go_sem,aa,ae,↓reduceIte,reduceCtorEq,af,ab,e0,e2,e3,e9,e10,e11,hlt,u0,x0,u2,x2,hm0,q0,q1,q2,q3,a6 (om:i<1000000),ca]
   refine⟨⟨i+1,om,rfl,hC.upd _,bE.here fun j hj=>?_⟩,om⟩
   by_cases e:j=i
   ·subst e;simp[bJ]
   ·simp only[bJ,e,if_false];rw[v0 j hj];by_cases e2:j<i
    ·simp[e2,(om:j<i+1)]
    ·simp[e2,(om:¬j<i+1)]
  ·obtain rfl:i=n:=om
   simp -dsimp only[go_sem,aa,↓reduceIte,af,decide_false,e9,e10,e11,hlt];exact⟨hC,hH.congr fun j hj=>by simp[hj]⟩
theorem lC(m:Int)(S:St):cS 228 [.int .i64 m] S (fun r S'=>∃b,S b=ac/\r=.fn 257 [.ptr 1 b 0]/\eJ S S'/\dl S' b 2 1 (.int .i64 m)):=by
 refine aD func228 rfl 4 ntmps228 kr sm (by simp[results228]) ?_
 rw[aQ,results228];simp -dsimp only[go_sem,aa,reduceCtorEq];refine aH.intro fun bc fc=>?_
 try simp -dsimp only[go_sem,ak,aa,au,ae,↓reduceIte,reduceCtorEq,af,decide_true,decide_false,az]
 exact⟨bc,fc,rfl,(eJ.refl S).upd fc _,dl.new rfl⟩
theorem Hu{n:Nat}{R:aW}{m q:Int}{c i:Nat}(hc:c<n)(hi:i<n)(hne:c≠i)(h:¬m∣det n R):¬m∣det n (fun a j=>setRow R c (fun j=>(R c j-q*R i j)%m) (dU i c a) j):=by
 have h1:=zp (setRow R c (fun j=>(R c j-q*R i j)%m)) hi hc (ao hne);have h2:=ka R hc hi hne 1 (-q);have h3:=rn (h:=m) n (setRow R c (fun j=>(R c j-q*R i j)%m)) (setRow R c (fun j=>1*R c j+(-q)*R i j)) (fun a b=>by
  simp only[setRow];split
  ·rw[show(R c b-q*R i b)%m-(1*R c b+-q*R i b)=(R c b-q*R i b)%m-(R c b-q*R i b) by grind]
   have:=tT (R c b-q*R i b) m;exact⟨-((R c b-q*R i b)/m),by grind⟩
  ·simp)
 rw[h2,Int.one_mul]at h3;intro h4;have h5:m∣- det n (setRow R c (fun j=>(R c j-q*R i j)%m)):=by rw[<-h1];exact h4
 have h6:=(Int.dvd_neg).1 h5;have h7:=Int.dvd_sub h6 h3;rw[show ∀x y:Int,x-(x-y)=y from fun x y=>om]at h7
 exact h h7
theorem BX:∀(n:Nat) (A:aW),(∀i j,j<i->i<n->A i j=0)->∀i,i<n->A i i∣det n A
 | 0,_,_,i,hi=>om
 | n+1,A,h,i,hi=>by
  rw[sN A (fun a ha=>h (a+1) 0 om om)]
  cases i with
  | zero=>exact Int.dvd_mul_right _ _
  | succ i=>exact Int.dvd_mul_of_dvd_right (BX n (fun i j=>A (i+1) (j+1)) (fun a b h1 h2=>h _ _ om om) i om)
theorem dR.swap{S:St}{b:Nat}{g:Nat->Nat}{n m:Nat}{A:Nat->Nat->Int}(h:dR S b g n m A){p k:Nat}(hp:p<n)(hk:k<n)(hpk:p≠k){g1:Nat->AV}(hS:S b=some ⟨29,1,n,g1⟩) :
  dR (S.upd b ⟨29,1,n,bJ (bJ g1 p (.sl 1 (g k) 0 m)) k (.sl 1 (g p) 0 m)⟩) b (fun i=>g (dU k p i)) n m (fun i j=>A (dU k p i) j):=by
 obtain⟨g',h1,h2⟩:=h.outer;rw[hS]at h1;cases h1;have hs:∀i,i<n->dU k p i<n:=fun i hi=>by unfold dU;split<;>(try split)<;>omega
 refine⟨bE.here fun i hi=>?_,fun i hi=>(h.row _ (hs i hi)).upd (fun e=>?_) _,fun i j hi hj e=>?_⟩
 ·have:=h2 i hi;simp only[bJ,dU];by_cases e1:i=k
  ·subst e1;simp
  ·by_cases e2:i=p
   ·subst e2;simp[e1]
   ·simp[e1,e2,this]
 ·exact bE.ne (bE.of hS) (h.row _ (hs i hi)) om e.symm
 ·have h3:=h.inj _ _ (hs i hi) (hs j hj) e;unfold dU at h3
  grind
structure Kp(n b bm:Nat)(m:Int)(S:St)(g:Nat->Nat)(R:aW):Prop where
 mat:dR S b g n n R
 rng:∀i j,i<n->j<n->0<=R i j/\R i j<m
 ndet:¬m∣det n R
 var:dl S bm 2 1 (.int .i64 m)
 ne:b≠bm
 gne:∀a,a<n->g a≠bm
def Kz(n c:Nat)(R:aW):Prop:=∀a d,d<c->d<a->a<n->R a d=0
def cellN(S:St)(b i c:Nat):Nat:=match S b with
 | some X=>(match X.g i with
  | .sl _ b' _ _=>(match S b' with
   | some Y=>(match Y.g c with
    | .int _ z=>z.toNat
    | _=>0)
   | ac=>0)
  | _=>0)
 | ac=>0
theorem dR.cellN{S:St}{b:Nat}{g:Nat->Nat}{n m:Nat}{A:aW}(h:dR S b g n m A){i c:Nat}(hi:i<n)(hc:c<m):cellN S b i c=(A i c).toNat:=by
 obtain⟨g1,u1,v1⟩:=h.outer;obtain⟨g2,u2,v2⟩:=h.row i hi;have x1:=v1 i hi;have x2:=v2 c hc;simp only at x1 x2;simp[YtdobfmlmenaajaaGreatDoor.cellN,u1,x1,u2,x2]
theorem tN(n b:Nat)(g:Nat->Nat)(R:aW)(m:Int)(S:St)(hn:n<=16)(hm:1<=m)(hm2:m<=1000000)(hM:dR S b g n n R)(hr:∀i j,i<n->j<n->0<=R i j/\R i j<m)(hd:¬m∣det n R) :
  cS 227 [.sl 1 b 0 n,.int .i64 m] S (fun r S'=>∃(s:Int) (g':Nat->Nat) (R':aW),r=.int .i64 s/\(s=1∨s=-1)/\dR S' b g' n n R'/\(∀i j,i<n->j<n->0<=R' i j/\R' i j<m)/\(¬m∣det n R')/\Kz n n R'):=by
 refine aD func227 rfl 75 ntmps227 kr sm (by simp[results227]) ?_
 rw[aQ,results227];simp -dsimp only[go_sem,ak,aa,ae,reduceCtorEq,ab];refine(lC m S).mono ?_;rintro _ S1 ⟨bm,hbm,rfl,hE,hV⟩;simp -dsimp only[go_sem,aa,reduceCtorEq];refine aM (fun O S'=>∃c:Nat,c<=n/\O 0=.sl 1 b 0 n/\O 5=.fn 257 [.ptr 1 bm 0]/\O 12=.int .i64 n/\O 13=.int .i64 c/\∃(s:Int) (g':Nat->Nat) (R':aW),O 6=.int .i64 s/\(s=1∨s=-1)/\Kp n b bm m S' g' R'/\Kz n c R') (fun O S=>n-ca (O 13)) ?_ ?_
 ·simp -dsimp only[go_sem,aa,reduceCtorEq];exact⟨0,om,rfl,1,rfl,bQ rfl,g,R,⟨hM.ext hE,hr,hd,hV,bE.fresh hM.outer hbm,fun a ha=>bE.fresh (hM.row a ha) hbm⟩,fun a d h=>om⟩
 ·rintro O S' ⟨c,hc,e0,e5,e12,e13,s,g',R',e6,hs,hT,hZ⟩;by_cases hlt:c<n
  ·simp -dsimp only[go_sem,aa,↓reduceIte,af,decide_true,e6,e12,e13,hlt,a6 (om:c<1000000)]
   refine aM (fun O S'=>∃i:Nat,i<=n/\O 0=.sl 1 b 0 n/\O 5=.fn 257 [.ptr 1 bm 0]/\O 7=.int .i64 c/\O 8=.int .i64 i/\O 12=.int .i64 n/\O 13=.int .i64 c/\∃(s:Int) (g':Nat->Nat) (R':aW),O 6=.int .i64 s/\(s=1∨s=-1)/\Kp n b bm m S' g' R'/\Kz n c R'/\c<i/\∀a,c<a->a<i->R' a c=0) (fun O S=>n-ca (O 8)) ?_ ?_
   ·simp -dsimp only[go_sem,aa,reduceCtorEq,e0,e5,e6,e12,e13];exact⟨c+1,om,rfl,s,rfl,hs,g',R',hT,hZ,om,fun a h1 h2=>om⟩
   ·clear e0 e5 e6 e12 e13 hs hT hZ;rintro O S' ⟨i,hi,e0,e5,e7,e8,e12,e13,s,g',R',e6,hs,hT,hZ,hci,hz⟩;by_cases hit:i<n
    ·simp -dsimp only[go_sem,aa,↓reduceIte,reduceCtorEq,af,decide_true,e0,e5,e6,e8,e12,e13,hit];refine aM (fun O S'=>O 0=.sl 1 b 0 n/\O 5=.fn 257 [.ptr 1 bm 0]/\O 7=.int .i64 c/\O 8=.int .i64 i/\O 12=.int .i64 n/\O 13=.int .i64 c/\∃(s:Int) (g':Nat->Nat) (R':aW),O 6=.int .i64 s/\(s=1∨s=-1)/\Kp n b bm m S' g' R'/\Kz n c R'/\c<i/\∀a,c<a->a<i->R' a c=0) (fun O S=>cellN S b i c) ?_ ?_
     ·simp -dsimp only[go_sem,aa,reduceCtorEq,e0,e5,e6,e7,e8,e12,e13];exact⟨s,rfl,hs,g',R',hT,hZ,hci,hz⟩
     ·clear e0 e5 e6 e7 e8 e12 e13 hs hT hZ hz;rintro O S' ⟨e0,e5,e7,e8,e12,e13,s,g',R',e6,hs,hT,hZ,_,hz⟩;obtain⟨g1,u1,v1⟩:=id hT.mat.outer;obtain⟨g2,u2,v2⟩:=id (hT.mat.row i hit);obtain⟨g3,u3,v3⟩:=id (hT.mat.row c hlt);have x1:g1 i=.sl 1 (g' i) 0 n:=v1 i hit;have y1:g1 c=.sl 1 (g' c) 0 n:=v1 c hlt;have x2:g2 c=.int .i64 (R' i c):=v2 c hlt;have x3:g3 c=.int .i64 (R' c c):=v3 c hlt;have r1:=hT.rng i c hit hlt;have r2:=hT.rng c c hlt hlt;by_cases h0:R' i c=0
      ·simp -dsimp only[go_sem,aa,↓reduceIte,reduceCtorEq,af,ab,e0,e5,e6,e7,e8,e12,e13,hit,hlt,u1,u2,x1,x2,h0,show((0:Int) != 0)=false by simp,a6 (om:i<1000000),ca]
       refine⟨⟨i+1,om,rfl,s,rfl,hs,g',R',hT,hZ,om,fun a h1 h2=>?_⟩,om⟩
       by_cases e:a=i
       ·rw[e];exact h0
       ·exact hz a h1 om
      ·have hq0:=Int.tdiv_nonneg r2.1 r1.1;have hq1:iu (R' c c) (R' i c)<=R' c c:=by
        rw[it r2.1];exact r9 _ r2.1
       have w1:IntKind.i64.wrap (iu (R' c c) (R' i c))=iu (R' c c) (R' i c):=i64_in om om;generalize hq:iu (R' c c) (R' i c)=q at *;simp -dsimp only[go_sem,aa,↓reduceIte,reduceCtorEq,af,ab,e0,e5,e6,e7,e8,e12,e13,hit,hlt,u1,u2,x1,x2,show(R' i c != 0)=true by simp[h0]]
       refine bM 24 kr ?_
       simp -dsimp only[go_sem,aa,ae,↓reduceIte,reduceCtorEq,af,ab,e0,e5,e7,e8,hit,hlt,u1,u2,u3,x1,y1,x2,x3,h0,hq,w1];have hgne:g' i≠g' c:=fun e=>absurd (hT.mat.inj i c hit hlt e) om;refine(vW n (g' c) (g' i) bm (R' c) (R' i) q m S' hn hm hm2 om (fun j hj=>hT.rng c j hlt hj) (fun j hj=>hT.rng i j hit hj) hgne (ao (hT.gne c hlt)) (hT.mat.row c hlt) (hT.mat.row i hit) hT.var).mono ?_;rintro _ S2 ⟨hC,hH⟩;have hbc:b≠g' c:=hT.mat.outer_ne hlt;have u1':S2 b=some ⟨29,1,n,g1⟩:=(hC b hbc).trans u1;have hM2:dR S2 b g' n n (setRow R' c (fun j=>(R' c j-q*R' i j)%m)):=by
        refine⟨hC.has hbc hT.mat.outer,fun a ha=>?_,hT.mat.inj⟩;by_cases e:a=c
        ·subst e;exact hH.congr fun j _=>by simp[setRow]
        ·refine(hC.has (fun e2=>e (hT.mat.inj a c ha hlt e2)) (hT.mat.row a ha)).congr fun j _=>by simp[setRow,e]
       have hM3:=hM2.swap hlt hit om u1';simp -dsimp only[go_sem];refine io 13 kr ?_
       have ws:IntKind.i64.wrap (0-s)=-s:=by rw[Int.zero_sub];exact i64_in om om
       have hci':c≠i:=om
       simp -dsimp only[go_sem,aa,↓reduceIte,reduceCtorEq,af,ab,e0,e5,e6,e7,e8,e12,e13,hit,hlt,u1',x1,y1,ws];have key:(R' c c-q*R' i c)%m=R' c c-q*R' i c/\0<=R' c c-q*R' i c/\R' c c-q*R' i c<R' i c:=by
        have h1:=it (b:=R' i c) r2.1;have h2:=aY (R' c c) h0;have h3:=aV (R' c c) (om:0<R' i c)
        have h4:=Int.emod_def (R' c c) (R' i c);rw[hq]at h1;rw[<-h1,Int.mul_comm]at h4;exact⟨dq om om,om,om⟩
       have hnew:Kp n b bm m (S2.upd b ⟨29,1,n,bJ (bJ g1 c (.sl 1 (g' i) 0 n)) i (.sl 1 (g' c) 0 n)⟩) (fun a=>g' (dU i c a)) (fun a j=>setRow R' c (fun j=>(R' c j-q*R' i j)%m) (dU i c a) j):=by
        have hsw:∀a,a<n->dU i c a<n:=fun a ha=>by unfold dU;split<;>(try split)<;>omega
        refine⟨hM3,fun a j ha hj=>?_,Hu hlt hit hci' hT.ndet,(hC.var (ao (hT.gne c hlt)) hT.var).upd (ao hT.ne) _,hT.ne,fun a ha=>hT.gne _ (hsw a ha)⟩;simp only[setRow];split
        ·exact⟨aY _ om,aV _ om⟩
        ·exact hT.rng _ _ (hsw a ha) hj
       have ev:∀a d,(fun a j=>setRow R' c (fun j=>(R' c j-q*R' i j)%m) (dU i c a) j) a d=if a=i then(R' c d-q*R' i d)%m else if a=c then R' i d else R' a d:=fun a d=>by
        simp only[setRow,dU];by_cases e1:a=i
        ·simp[e1]
        ·by_cases e2:a=c
         ·simp[e2,hci',ao hci']
         ·simp[e1,e2]
       rw[kZ];refine⟨⟨-s,rfl,om,_,_,hnew,fun a d h1 h2 h3=>?_,hci,fun a h1 h2=>?_⟩,?_⟩
       ·refine(ev a d).trans ?_;by_cases e1:a=i
        ·rw[if_pos e1,hZ c d h1 h1 hlt,hZ i d h1 om hit];simp
        ·rw[if_neg e1];by_cases e2:a=c
         ·rw[if_pos e2,hZ i d h1 om hit]
         ·rw[if_neg e2];exact hZ a d h1 h2 h3
       ·refine(ev a c).trans ?_;rw[if_neg om,if_neg om];exact hz a h1 h2
       ·have e8':=hnew.mat.cellN hit hlt;have e9:=hT.mat.cellN hit hlt;have e10:=(ev i c).trans ((if_pos rfl).trans key.1);simp only at e8' e10;rw[e10]at e8';omega
    ·simp -dsimp only[go_sem,aa,↓reduceIte,reduceCtorEq,af,decide_false,e0,e5,e6,e8,e12,e13,hit,a6 (om:c<1000000),ca]
     refine⟨⟨c+1,om,rfl,s,rfl,hs,g',R',hT,fun a d h1 h2 h3=>?_⟩,om⟩
     by_cases e:d=c
     ·rw[e];exact hz a om om
     ·exact hZ a d om h2 h3
  ·obtain rfl:c=n:=om
   simp -dsimp only[go_sem,aa,↓reduceIte,af,decide_false,e6,e12,e13,hlt];exact⟨s,rfl,hs,g',R',hT.mat,hT.rng,hT.ndet,hZ⟩
theorem Cp(n:Nat)(H:aW)(m:Int)(h1:1<=n)(hn:n<=8)(hm:2<=m)(hm2:m<=1000000)(hpr:∀a b:Int,m∣a*b->m∣a∨m∣b)(hd:¬m∣det n H) :
  cS 222 [aN n n H,.int .i64 m] St.none (fun r S'=>∃d:Int,d≠0/\r=.tup [.int .i64 d,.int .i64 0]):=by
 refine aD func222 rfl 46 ntmps222 kr sm (by simp[results222]) ?_
 rw[aQ,results222];have hm0:¬(m=0):=om
 simp -dsimp only[go_sem,ak,aa,ae,reduceCtorEq,ab];refine(tn n H h1 hn).call ?_;simp -dsimp only[go_sem,aa,ae,reduceCtorEq,ab];refine(jM m hm om).call ?_;simp -dsimp only[go_sem,aa,ae,reduceCtorEq,ab];refine(lm n n H m om om om om _ _ (cH _ _)).mono ?_;rintro _ S1 ⟨b,g,rfl,hN⟩;simp -dsimp only[go_sem,aa,ae,reduceCtorEq,ab];have hd2:¬m∣det n (kq H m):=fun h=>by
  have h3:=rn (h:=m) n (kq H m) H (fun a b=>by
   have:=tT (H a b) m;exact⟨-(H a b/m),by simp only[kq];grind⟩)
  have h4:=Int.dvd_sub h h3;rw[show ∀x y:Int,x-(x-y)=y from fun x y=>om]at h4
  exact hd h4
 refine(tN n b g (kq H m) m S1 om om hm2 hN.1 (fun i j _ _=>oY om i j) hd2).mono ?_;rintro _ S2 ⟨s,g',R,rfl,hs,hM,hr,hnd,hZ⟩;have ws:IntKind.i64.wrap (s+m)=s+m:=i64_in om om;have hdi:∀i,i<n->¬m∣R i i:=fun i hi h=>hnd (Int.dvd_trans h (BX n R (fun a d h1 h2=>hZ a d om h1 h2) i hi));simp -dsimp only[go_sem,aa,reduceCtorEq,ws];refine aM (fun O S'=>∃i:Nat,i<=n/\O 1=.int .i64 m/\O 27=.sl 1 b 0 n/\O 28=.int .i64 n/\O 29=.int .i64 i/\∃d:Int,O 8=.int .i64 d/\¬m∣d/\0<=d/\dR S' b g' n n R) (fun O S=>n-ca (O 29)) ?_ ?_
 ·simp -dsimp only[go_sem,aa,reduceCtorEq];refine⟨0,om,rfl,s+m,rfl,fun h=>?_,om,hM⟩
  obtain⟨t,ht⟩:=h;have h9:s=m*(t-1):=by rw[Int.mul_sub];omega
  have h10:m∣1:=by
   rcases hs with rfl|rfl
   ·exact⟨_,h9⟩
   ·exact⟨-(t-1),by rw[Int.mul_neg,<-h9];rfl⟩
  have:=Int.le_of_dvd om h10;omega
 ·rintro O S' ⟨i,hi,e1,e27,e28,e29,d,e8,hnd,hd0,hM⟩;by_cases hlt:i<n
  ·obtain⟨g1,u1,v1⟩:=id hM.outer;obtain⟨g2,u2,v2⟩:=id (hM.row i hlt);have x1:g1 i=.sl 1 (g' i) 0 n:=v1 i hlt;have x2:g2 i=.int .i64 (R i i):=v2 i hlt;have r1:=hr i i hlt hlt;have q0:eA d m=d%m:=aU hd0;have r2:0<=d%m/\d%m<m:=⟨aY _ hm0,aV _ om⟩;have r3:=mC (A:=1000000) (B:=1000000) (om:0<=d%m/\d%m<=1000000) (om:0<=R i i/\R i i<=1000000)
   have q1:IntKind.i64.wrap (d%m*R i i)=d%m*R i i:=i64_in om om;have q2:eA (d%m*R i i) m=d%m*R i i%m:=aU r3.1;simp -dsimp only[go_sem,aa,↓reduceIte,af,decide_true,ab,e8,e27,e28,e29,hlt,u1,x1];refine bM 10 kr ?_
   simp -dsimp only[go_sem,aa,↓reduceIte,reduceCtorEq,af,ab,e1,e8,e27,e28,e29,hlt,u2,x2,hm0,q0,q1,q2,a6 (om:i<1000000),ca]
   refine⟨⟨i+1,om,rfl,d%m*R i i%m,rfl,fun h=>?_,aY _ hm0,hM⟩,om⟩
   have h4:m∣d%m*R i i:=cE (by
    obtain⟨t,ht⟩:=h;have:=aV (d%m*R i i) (om:0<m)
    have h5:=aY (d%m*R i i) hm0;have:=dq h5 this;rw[<-this,ht];exact Int.mul_emod_right _ _)
   rcases hpr _ _ h4 with h5|h5
   ·exact hnd (cE (by
     have:=dq r2.1 r2.2;rw[<-this];exact Int.emod_eq_zero_of_dvd h5))
   ·exact hdi i hlt h5
  ·simp -dsimp only[go_sem,aa,↓reduceIte,af,decide_false,e8,e27,e28,e29,hlt];exact⟨d,fun h=>hnd (by rw[h];exact Int.dvd_zero _),rfl⟩
theorem iZ.stgb{n:Nat}{H:aW}(h:iZ n H){k i j:Nat}(hi:k+i<n)(hj:k+j<n):-6973568802<=cP H k i j/\cP H k i j<=6973568802:=by
 have hd:∀a,k+a<n->cP H k a a<=6973568802:=fun a ha=>by
  have h1:=h.red.pd.stg_up k a ha;have h2:=h.red.lead k om;have h3:=h.red.diag h.five ha;have h4:=cY h2 h3 (cu (h.red.pd.diag ha)) om;omega
 have h1:=h.red.pd.cs i j k hi hj;have h4:=cY (hd i hi) (hd j hj) (cu (h.red.pd.stg_pos j k hj)) om;have h5:=pK (x:=cP H k i j) (B:=6973568802) om om;omega
def As(n:Nat)(H:aW)(k:Nat)(S:St)(x:AV):Prop:=x=aN (n-k) (n-k) (cP H k)∨∃b g,x=.sl 1 b 0 (n-k)/\dR S b g (n-k) (n-k) (cP H k)
theorem As.ext{n:Nat}{H:aW}{k:Nat}{S S':St}{x:AV}(h:As n H k S x)(hE:eJ S S'):As n H k S' x:=by
 rcases h with h|⟨b,g,e,h⟩
 ·exact bQ h
 ·exact bH ⟨b,g,e,hE.has h.outer,fun i hi=>hE.has (h.row i hi),h.inj⟩
theorem lc{a b A B:Int}(ha:-A<=a/\a<=A)(hb:-B<=b/\b<=B):-(A*B)<=a*b/\a*b<=A*B:=by
 have h:(a*b).natAbs<=A.natAbs*B.natAbs:=by rw[Int.natAbs_mul];exact Nat.mul_le_mul om om
 have h2:(A.natAbs:Int)*B.natAbs=A*B:=by rw[show(A.natAbs:Int)=A by omega,show(B.natAbs:Int)=B by omega]
 have h3:((A.natAbs*B.natAbs:Nat):Int)=A*B:=by rw[Int.natCast_mul,h2]
 omega
theorem Fq(n:Nat)(H:aW):aN n n H=aN (n-0) (n-0) (cP H 0):=by
 simp only[aN,bO,Nat.sub_zero,iK]
theorem Au(n:Nat)(H:aW)(hF:iZ n H):PF 48 [aN n n H] (.bool true):=by
 have hn1:=hF.one;have hn5:=hF.five;have hsym:=hF.red.pd.sym;refine PF.of_spec (aD func48 rfl 118 ntmps48 kr sm (by simp[results48]) ?_)
 rw[aQ,results48];simp -dsimp only[go_sem,aa,ae,reduceCtorEq,ab,aN,bO];refine(C8 n H hn1 om (fun i j hi hj=>hsym i j hi hj) (fun i j hi hj=>by have:=hF.red.entry hn5 hi hj;omega)).call ?_
 simp -dsimp only[go_sem,reduceCtorEq];refine aM (fun O S=>∃(k:Nat) (x:AV),k<n/\As n H k S x/\O 3=x/\O 4=.int .i64 (det k H)) (fun O S=>match O 3 with|.lst _ m _=>m|.sl _ _ _ m=>m|_=>0) ?_ ?_
 ·simp -dsimp only[go_sem,aa];exact⟨0,om,_,bQ (Fq n H),rfl,by simp[det]⟩
 ·rintro O S ⟨k,x,hk,hSt,e3,e4⟩;have d0:=hF.red.pd.pos k om;have d1:=hF.red.pd.pos (k+1) om;have d2:=hF.red.lead k om;have d3:=hF.red.lead (k+1) om;have hst0:cP H k 0 0=det (k+1) H:=c8 H k;have hp0:0<n-k:=om
  have hpz:(0:Int)<((n-k:Nat):Int):=om
  by_cases hlt:1<n-k
  ·have hltz:(1:Int)<((n-k:Nat):Int):=om
   have wsub:IntKind.i64.wrap (((n-k:Nat):Int)-1)=((n-(k+1):Nat):Int):=dK om om;rcases hSt with rfl|⟨b,g,rfl,hM⟩
   ·simp -dsimp only[go_sem,aa,ae,↓reduceIte,decide_true,az,ab,aN,bO,e3,hltz,hpz,hst0];refine(pc (n-k) (cP H k) hp0 om (by rw[c8];exact d1) (by rw[c8];omega) (fun i h1 h2=>?_)).spec (dO.cons (VA.refl _ _) dO.nil) ?_
    ·have h3:=hF.red.rows.1 (k+i) om k om;unfold gE jW at h3;rw[(om:k+i-k=i)]at h3
     rw[c8];omega
    simp -dsimp only[go_sem,aa,aN,bO,e3,wsub]
    repeat refine an ?_
    refine aH.intro fun bc fc=>?_;simp -dsimp only[go_sem];refine aM (fun O S'=>∃i:Nat,i<=n-(k+1)/\O 3=aN (n-k) (n-k) (cP H k)/\O 4=.int .i64 (det k H)/\O 5=.int .i64 (det (k+1) H)/\O 6=.sl 1 bc 0 (n-(k+1))/\O 31=.int .i64 ((n-(k+1):Nat):Int)/\O 32=.int .i64 i/\∃g',eO 29 2 1 S S' bc g' (n-(k+1)) (n-(k+1)) i (fun a j=>.int .i64 (cP H (k+1) a j))) (fun O S=>n-ca (O 32)) ?_ ?_
    ·simp -dsimp only[go_sem,aa,aN,bO,e3,e4];exact⟨0,om,rfl,fun _=>0,eO.init fc (fun _ _=>rfl) _ _⟩
    ·clear e3 e4;rintro O S' ⟨i,hi,e3,e4,e5,e6,e31,e32,g',hR⟩;by_cases hit:i<n-(k+1)
     ·have hi1:i+1<n-k:=om
      obtain⟨g4,u4,v4⟩:=id hR.outer;simp -dsimp only[go_sem,aa,↓reduceIte,reduceCtorEq,af,decide_true,az,ab,aN,bO,e3,e4,e5,e6,e31,e32,hit,hi1,a6 (om:i<1000000),u4]
      repeat refine an ?_
      refine aH.intro fun bd fd=>?_;have hdc:bc≠bd:=bE.fresh hR.outer fd;simp -dsimp only[go_sem,hit,u4,hdc];have hR1:=hR.push dc fd u4 (fun _=>.int .i64 0)
      generalize hgg:(fun a=>if a=i then bd else g' a)=gg at hR1
      refine aM (fun O S'=>∃j:Nat,j<=n-(k+1)/\O 3=aN (n-k) (n-k) (cP H k)/\O 4=.int .i64 (det k H)/\O 5=.int .i64 (det (k+1) H)/\O 6=.sl 1 bc 0 (n-(k+1))/\O 7=.int .i64 i/\O 8=bO (n-k) (cP H k (i+1))/\O 31=.int .i64 ((n-(k+1):Nat):Int)/\O 32=.int .i64 i/\O 47=.int .i64 ((n-(k+1):Nat):Int)/\O 48=.int .i64 j/\eO 29 2 1 S S' bc gg (n-(k+1)) (n-(k+1)) (i+1) (fun a c=>.int .i64 (if a=i/\j<=c then 0 else cP H (k+1) a c))) (fun O S=>n-ca (O 48)) ?_ ?_
      ·simp -dsimp only[go_sem,aa,aN,bO,e3,e4,e5,e6,e31,e32];refine⟨0,om,rfl,hR1.congr fun a c _ _=>?_⟩
       by_cases e:a=i
       ·simp[e]
       ·simp[e]
      ·clear e3 e4 e5 e6 e31 e32 hR hR1 u4 v4 hgg;rintro O S' ⟨j,hj,e3,e4,e5,e6,e7,e8,e31,e32,e47,e48,hR⟩;by_cases hjt:j<n-(k+1)
       ·have hj1:j+1<n-k:=om
        obtain⟨g4,u4,v4⟩:=id hR.outer;obtain⟨g5,u5,v5⟩:=id (hR.row i om);have x4:g4 i=.sl 1 (gg i) 0 (n-(k+1)):=(v4 i hit).trans (if_pos om);have b1:=hF.stgb (k:=k) (i:=i+1) (j:=j+1) om om;have b2:=hF.stgb (k:=k) (i:=i+1) (j:=0) om om;have b3:=hF.stgb (k:=k) (i:=0) (j:=j+1) om om;have hs2:2*((cP H k (i+1) 0).natAbs:Int)<=det (k+1) H:=by
         have h3:=hF.red.rows.1 (k+(i+1)) om k om;unfold gE jW at h3;rw[(om:k+(i+1)-k=i+1)]at h3
         exact h3
        have hstep:=ju (hF.red.pd.ne (om:k<=n)) i j
        rw[c8]at hstep;have p1:=lc (A:=59049) (B:=6973568802) (om:-59049<=det (k+1) H/\det (k+1) H<=59049) b1
        have p2:=lc (A:=59049) (B:=6973568802) (om:-59049<=cP H k (i+1) 0/\cP H k (i+1) 0<=59049) b3
        have q1:IntKind.i64.wrap (det (k+1) H*cP H k (i+1) (j+1))=det (k+1) H*cP H k (i+1) (j+1):=i64_in om om;have q2:IntKind.i64.wrap (cP H k (i+1) 0*cP H k 0 (j+1))=cP H k (i+1) 0*cP H k 0 (j+1):=i64_in om om;have q3:IntKind.i64.wrap (det (k+1) H*cP H k (i+1) (j+1)-cP H k (i+1) 0*cP H k 0 (j+1))=det k H*cP H (k+1) i j:=by rw[<-hstep];exact i64_in om om
        have b4:=hF.stgb (k:=k+1) (i:=i) (j:=j) om om;have q4:iu (det k H*cP H (k+1) i j) (det k H)=cP H (k+1) i j:=Int.mul_tdiv_cancel_left _ om;have q5:IntKind.i64.wrap (cP H (k+1) i j)=cP H (k+1) i j:=i64_in om om;have q6:¬(det k H=0):=om
        have hjn:j+1<n:=om
        have hin:i+1<n:=om
        have hpn:0<n:=om
        have hpnz:(0:Int)<(n:Int):=om
        simp -dsimp only[go_sem,aa,↓reduceIte,af,decide_true,aN,bO,e3,e4,e5,e6,e31,e32,e47,e48,hjt,a6 (om:i<1000000)]
        refine bM 27 kr ?_
        simp -dsimp only[go_sem,aa,↓reduceIte,reduceCtorEq,af,az,ab,aN,bO,e3,e4,e5,e6,e7,e8,e31,e32,e47,e48,hit,hjt,hj1,hpz,a6 (om:j<1000000),u4,x4,u5,q1,q2,q3,q4,q5,q6,ca]
        refine⟨⟨j+1,om,rfl,(hR.put dc (om:i<i+1) u5 j (.int .i64 (cP H (k+1) i j))).congr fun a c _ _=>?_⟩,om⟩
        by_cases e:a=i/\c=j
        ·obtain⟨rfl,rfl⟩:=e;rw[if_pos ⟨rfl,rfl⟩,if_neg om]
        ·rw[if_neg e];congr 1;by_cases e2:a=i/\j<=c
         ·rw[if_pos e2,if_pos om]
         ·rw[if_neg e2,if_neg om]
       ·simp -dsimp only[go_sem,aa,↓reduceIte,af,decide_false,aN,bO,e3,e4,e5,e6,e31,e32,e47,e48,hjt,a6 (om:i<1000000),ca]
        exact⟨⟨i+1,om,rfl,gg,hR.congr fun a c _ hc=>by rw[if_neg om]⟩,om⟩
     ·obtain rfl:i=n-(k+1):=om
      have hN:=hR.imat (A:=cP H (k+1)) (fun _ _ _ _=>rfl);obtain⟨g4,u4,v4⟩:=id hN.1.outer;obtain⟨g5,u5,v5⟩:=id (hN.1.row 0 om);have x4:g4 0=.sl 1 (g' 0) 0 (n-(k+1)):=v4 0 om;have x5:g5 0=.int .i64 (det (k+2) H):=(v5 0 om).trans (by simp only[c8])
      have hq0:0<n-(k+1):=om
      have hqz:(0:Int)<((n-(k+1):Nat):Int):=om
      have hl:=hF.red.rows.2 (k+1) om om;unfold jc jW at hl;rw[(om:k+1-1=k),(om:k+1-k=1),show k+1+1=k+2 from rfl]at hl
      have hs2:2*((cP H k 1 0).natAbs:Int)<=det (k+1) H:=by
       have h3:=hF.red.rows.1 (k+1) om k om;unfold gE jW at h3;rw[(om:k+1-k=1)]at h3
       exact h3
      have d4:=hF.red.pd.pos (k+2) om;have d5:=hF.red.lead (k+2) om;have p1:=lc (A:=59049) (B:=59049) (om:-59049<=det k H/\det k H<=59049) (om:-59049<=det (k+2) H/\det (k+2) H<=59049)
      have p2:=lc (A:=59049) (B:=59049) (om:-59049<=cP H k 1 0/\cP H k 1 0<=59049) (om:-59049<=cP H k 1 0/\cP H k 1 0<=59049)
      have p3:=lc (A:=59049) (B:=59049) (om:-59049<=det (k+1) H/\det (k+1) H<=59049) (om:-59049<=det (k+1) H/\det (k+1) H<=59049)
      have q1:IntKind.i64.wrap (det k H*det (k+2) H)=det k H*det (k+2) H:=i64_in om om;have q2:IntKind.i64.wrap (cP H k 1 0*cP H k 1 0)=cP H k 1 0*cP H k 1 0:=i64_in om om;have q3:IntKind.i64.wrap (det k H*det (k+2) H+cP H k 1 0*cP H k 1 0)=det k H*det (k+2) H+cP H k 1 0*cP H k 1 0:=i64_in om om;have q4:IntKind.i64.wrap (4*(det k H*det (k+2) H+cP H k 1 0*cP H k 1 0))=4*(det k H*det (k+2) H+cP H k 1 0*cP H k 1 0):=i64_in om om;have q5:IntKind.i64.wrap (3*det (k+1) H)=3*det (k+1) H:=i64_in om om;have q6:IntKind.i64.wrap (3*det (k+1) H*det (k+1) H)=3*(det (k+1) H*det (k+1) H):=by rw[fK];exact i64_in om om
      have q7:¬(4*(det k H*det (k+2) H+cP H k 1 0*cP H k 1 0)<3*(det (k+1) H*det (k+1) H)):=om
      have hpn:0<n:=om
      have hpnz:(0:Int)<(n:Int):=om
      have hln:1<n:=om
      have hlnz:(1:Int)<(n:Int):=om
      simp -dsimp only[go_sem,aa,↓reduceIte,af,decide_false,az,ab,aN,bO,e3,e4,e5,e6,e31,e32,hit,hpz,hltz,hq0,hqz,u4,x4,u5,x5,q1,q2,q3,q4,q5,q6,q7,show Int.toNat 1=1 from rfl];refine⟨⟨k+1,om,.sl 1 bc 0 (n-(k+1)),bH ⟨bc,g',rfl,hN.1⟩,rfl,rfl⟩,om⟩
   ·obtain⟨g1,u1,v1⟩:=id hM.outer;obtain⟨g2,u2,v2⟩:=id (hM.row 0 hp0);obtain⟨g3,u3,v3⟩:=id (hM.row 1 hlt);have x1:g1 0=.sl 1 (g 0) 0 (n-k):=v1 0 hp0;have x2:g2 0=.int .i64 (cP H k 0 0):=v2 0 hp0;have y1:g1 1=.sl 1 (g 1) 0 (n-k):=v1 1 hlt;have y2:g3 0=.int .i64 (cP H k 1 0):=v3 0 hp0;simp -dsimp only[go_sem,aa,ae,↓reduceIte,decide_true,az,ab,e3,hltz,hp0,hpz,u1,u2,x1,x2,hst0];refine(pc (n-k) (cP H k) hp0 om (by rw[c8];exact d1) (by rw[c8];omega) (fun i h1 h2=>?_)).spec (dO.cons hM.vr.va dO.nil) ?_
    ·have h3:=hF.red.rows.1 (k+i) om k om;unfold gE jW at h3;rw[(om:k+i-k=i)]at h3
     rw[c8];omega
    simp -dsimp only[go_sem,aa,e3,wsub]
    repeat refine an ?_
    refine aH.intro fun bc fc=>?_;simp -dsimp only[go_sem];refine aM (fun O S'=>∃i:Nat,i<=n-(k+1)/\O 3=.sl 1 b 0 (n-k)/\O 4=.int .i64 (det k H)/\O 5=.int .i64 (det (k+1) H)/\O 6=.sl 1 bc 0 (n-(k+1))/\O 31=.int .i64 ((n-(k+1):Nat):Int)/\O 32=.int .i64 i/\∃g',eO 29 2 1 S S' bc g' (n-(k+1)) (n-(k+1)) i (fun a j=>.int .i64 (cP H (k+1) a j))) (fun O S=>n-ca (O 32)) ?_ ?_
    ·simp -dsimp only[go_sem,aa,e3,e4];exact⟨0,om,rfl,fun _=>0,eO.init fc (fun _ _=>rfl) _ _⟩
    ·clear e3 e4;rintro O S' ⟨i,hi,e3,e4,e5,e6,e31,e32,g',hR⟩;by_cases hit:i<n-(k+1)
     ·have hi1:i+1<n-k:=om
      obtain⟨g1,u1,v1⟩:=id (hR.ext.has hM.outer);have x1:g1 (i+1)=.sl 1 (g (i+1)) 0 (n-k):=v1 (i+1) hi1;have hbc:b≠bc:=bE.fresh hM.outer fc;obtain⟨g4,u4,v4⟩:=id hR.outer;simp -dsimp only[go_sem,aa,↓reduceIte,reduceCtorEq,af,decide_true,az,ab,e3,e4,e5,e6,e31,e32,hit,hi1,u1,x1,a6 (om:i<1000000),u4]
      repeat refine an ?_
      refine aH.intro fun bd fd=>?_;have hdc:bc≠bd:=bE.fresh hR.outer fd;simp -dsimp only[go_sem,hit,u4,hdc];have hR1:=hR.push dc fd u4 (fun _=>.int .i64 0)
      generalize hgg:(fun a=>if a=i then bd else g' a)=gg at hR1
      refine aM (fun O S'=>∃j:Nat,j<=n-(k+1)/\O 3=.sl 1 b 0 (n-k)/\O 4=.int .i64 (det k H)/\O 5=.int .i64 (det (k+1) H)/\O 6=.sl 1 bc 0 (n-(k+1))/\O 7=.int .i64 i/\O 8=.sl 1 (g (i+1)) 0 (n-k)/\O 31=.int .i64 ((n-(k+1):Nat):Int)/\O 32=.int .i64 i/\O 47=.int .i64 ((n-(k+1):Nat):Int)/\O 48=.int .i64 j/\eO 29 2 1 S S' bc gg (n-(k+1)) (n-(k+1)) (i+1) (fun a c=>.int .i64 (if a=i/\j<=c then 0 else cP H (k+1) a c))) (fun O S=>n-ca (O 48)) ?_ ?_
      ·simp -dsimp only[go_sem,aa,e3,e4,e5,e6,e31,e32];refine⟨0,om,rfl,hR1.congr fun a c _ _=>?_⟩
       by_cases e:a=i
       ·simp[e]
       ·simp[e]
      ·clear e3 e4 e5 e6 e31 e32 hR hR1 u4 v4 hgg u1 v1 x1;rintro O S' ⟨j,hj,e3,e4,e5,e6,e7,e8,e31,e32,e47,e48,hR⟩;by_cases hjt:j<n-(k+1)
       ·have hj1:j+1<n-k:=om
        obtain⟨g4,u4,v4⟩:=id hR.outer;obtain⟨g5,u5,v5⟩:=id (hR.row i om);have x4:g4 i=.sl 1 (gg i) 0 (n-(k+1)):=(v4 i hit).trans (if_pos om);have b1:=hF.stgb (k:=k) (i:=i+1) (j:=j+1) om om;have b2:=hF.stgb (k:=k) (i:=i+1) (j:=0) om om;have b3:=hF.stgb (k:=k) (i:=0) (j:=j+1) om om;have hs2:2*((cP H k (i+1) 0).natAbs:Int)<=det (k+1) H:=by
         have h3:=hF.red.rows.1 (k+(i+1)) om k om;unfold gE jW at h3;rw[(om:k+(i+1)-k=i+1)]at h3
         exact h3
        have hstep:=ju (hF.red.pd.ne (om:k<=n)) i j
        rw[c8]at hstep;have p1:=lc (A:=59049) (B:=6973568802) (om:-59049<=det (k+1) H/\det (k+1) H<=59049) b1
        have p2:=lc (A:=59049) (B:=6973568802) (om:-59049<=cP H k (i+1) 0/\cP H k (i+1) 0<=59049) b3
        have q1:IntKind.i64.wrap (det (k+1) H*cP H k (i+1) (j+1))=det (k+1) H*cP H k (i+1) (j+1):=i64_in om om;have q2:IntKind.i64.wrap (cP H k (i+1) 0*cP H k 0 (j+1))=cP H k (i+1) 0*cP H k 0 (j+1):=i64_in om om;have q3:IntKind.i64.wrap (det (k+1) H*cP H k (i+1) (j+1)-cP H k (i+1) 0*cP H k 0 (j+1))=det k H*cP H (k+1) i j:=by rw[<-hstep];exact i64_in om om
        have b4:=hF.stgb (k:=k+1) (i:=i) (j:=j) om om;have q4:iu (det k H*cP H (k+1) i j) (det k H)=cP H (k+1) i j:=Int.mul_tdiv_cancel_left _ om;have q5:IntKind.i64.wrap (cP H (k+1) i j)=cP H (k+1) i j:=i64_in om om;have q6:¬(det k H=0):=om
        obtain⟨g1,u1,v1⟩:=id (hR.ext.has hM.outer);obtain⟨g2,u2,v2⟩:=id (hR.ext.has (hM.row 0 hp0));obtain⟨g3,u3,v3⟩:=id (hR.ext.has (hM.row (i+1) hi1));have x1:g1 0=.sl 1 (g 0) 0 (n-k):=v1 0 hp0;have x2:g2 (j+1)=.int .i64 (cP H k 0 (j+1)):=v2 (j+1) hj1;have x3:g3 (j+1)=.int .i64 (cP H k (i+1) (j+1)):=v3 (j+1) hj1;have x5:g3 0=.int .i64 (cP H k (i+1) 0):=v3 0 hp0;simp -dsimp only[go_sem,aa,↓reduceIte,af,decide_true,e3,e4,e5,e6,e31,e32,e47,e48,hjt,a6 (om:i<1000000)]
        refine bM 27 kr ?_
        simp -dsimp only[go_sem,aa,↓reduceIte,reduceCtorEq,af,az,ab,e3,e4,e5,e6,e7,e8,e31,e32,e47,e48,hit,hjt,hj1,hp0,hpz,u1,u2,u3,x1,x2,x3,x5,a6 (om:j<1000000),u4,x4,u5,q1,q2,q3,q4,q5,q6,ca]
        refine⟨⟨j+1,om,rfl,(hR.put dc (om:i<i+1) u5 j (.int .i64 (cP H (k+1) i j))).congr fun a c _ _=>?_⟩,om⟩
        by_cases e:a=i/\c=j
        ·obtain⟨rfl,rfl⟩:=e;rw[if_pos ⟨rfl,rfl⟩,if_neg om]
        ·rw[if_neg e];congr 1;by_cases e2:a=i/\j<=c
         ·rw[if_pos e2,if_pos om]
         ·rw[if_neg e2,if_neg om]
       ·simp -dsimp only[go_sem,aa,↓reduceIte,af,decide_false,e3,e4,e5,e6,e31,e32,e47,e48,hjt,a6 (om:i<1000000),ca]
        exact⟨⟨i+1,om,rfl,gg,hR.congr fun a c _ hc=>by rw[if_neg om]⟩,om⟩
     ·obtain rfl:i=n-(k+1):=om
      have hN:=hR.imat (A:=cP H (k+1)) (fun _ _ _ _=>rfl);obtain⟨g4,u4,v4⟩:=id hN.1.outer;obtain⟨g5,u5,v5⟩:=id (hN.1.row 0 om);have x4:g4 0=.sl 1 (g' 0) 0 (n-(k+1)):=v4 0 om;have x5:g5 0=.int .i64 (det (k+2) H):=(v5 0 om).trans (by simp only[c8])
      have hq0:0<n-(k+1):=om
      have hqz:(0:Int)<((n-(k+1):Nat):Int):=om
      have hl:=hF.red.rows.2 (k+1) om om;unfold jc jW at hl;rw[(om:k+1-1=k),(om:k+1-k=1),show k+1+1=k+2 from rfl]at hl
      have hs2:2*((cP H k 1 0).natAbs:Int)<=det (k+1) H:=by
       have h3:=hF.red.rows.1 (k+1) om k om;unfold gE jW at h3;rw[(om:k+1-k=1)]at h3
       exact h3
      have d4:=hF.red.pd.pos (k+2) om;have d5:=hF.red.lead (k+2) om;have p1:=lc (A:=59049) (B:=59049) (om:-59049<=det k H/\det k H<=59049) (om:-59049<=det (k+2) H/\det (k+2) H<=59049)
      have p2:=lc (A:=59049) (B:=59049) (om:-59049<=cP H k 1 0/\cP H k 1 0<=59049) (om:-59049<=cP H k 1 0/\cP H k 1 0<=59049)
      have p3:=lc (A:=59049) (B:=59049) (om:-59049<=det (k+1) H/\det (k+1) H<=59049) (om:-59049<=det (k+1) H/\det (k+1) H<=59049)
      have q1:IntKind.i64.wrap (det k H*det (k+2) H)=det k H*det (k+2) H:=i64_in om om;have q2:IntKind.i64.wrap (cP H k 1 0*cP H k 1 0)=cP H k 1 0*cP H k 1 0:=i64_in om om;have q3:IntKind.i64.wrap (det k H*det (k+2) H+cP H k 1 0*cP H k 1 0)=det k H*det (k+2) H+cP H k 1 0*cP H k 1 0:=i64_in om om;have q4:IntKind.i64.wrap (4*(det k H*det (k+2) H+cP H k 1 0*cP H k 1 0))=4*(det k H*det (k+2) H+cP H k 1 0*cP H k 1 0):=i64_in om om;have q5:IntKind.i64.wrap (3*det (k+1) H)=3*det (k+1) H:=i64_in om om;have q6:IntKind.i64.wrap (3*det (k+1) H*det (k+1) H)=3*(det (k+1) H*det (k+1) H):=by rw[fK];exact i64_in om om
      have q7:¬(4*(det k H*det (k+2) H+cP H k 1 0*cP H k 1 0)<3*(det (k+1) H*det (k+1) H)):=om
      obtain⟨g1,u1,v1⟩:=id (hR.ext.has hM.outer);obtain⟨g3,u3,v3⟩:=id (hR.ext.has (hM.row 1 hlt));have y1:g1 1=.sl 1 (g 1) 0 (n-k):=v1 1 hlt;have y2:g3 0=.int .i64 (cP H k 1 0):=v3 0 hp0;simp -dsimp only[go_sem,ak,aa,↓reduceIte,af,decide_false,az,ab,e3,e4,e5,e6,e31,e32,hit,hp0,hpz,hlt,hltz,hq0,hqz,u1,u3,y1,y2,u4,x4,u5,x5,q1,q2,q3,q4,q5,q6,q7,show Int.toNat 1=1 from rfl];refine⟨⟨k+1,om,.sl 1 bc 0 (n-(k+1)),bH ⟨bc,g',rfl,hN.1⟩,rfl,rfl⟩,om⟩
  ·have hltz:¬((1:Int)<((n-k:Nat):Int)):=om
   have hkn:k+1=n:=om
   have hdn:=hF.det;rw[<-hkn]at hdn;rcases hSt with rfl|⟨b,g,rfl,hM⟩
   ·simp -dsimp only[go_sem,aa,ae,↓reduceIte,decide_true,decide_false,az,ab,aN,bO,e3,hltz,hpz,hst0,hdn.1,hdn.2];exact VR.mf rfl
   ·obtain⟨g1,u1,v1⟩:=hM.outer;obtain⟨g2,u2,v2⟩:=hM.row 0 om;have w1:=v1 0 hp0;have w2:=v2 0 hp0;simp -dsimp only[go_sem,aa,ae,↓reduceIte,decide_true,decide_false,az,ab,e3,hltz,hp0,hpz,u1,u2,w1,w2,hst0,hdn.1,hdn.2];exact VR.mf rfl
end Go.Proofs.YtdobfmlmenaajaaGreatDoor
