/-
  Lemmas for NeighbourIndex.
-/
import Derived.Test.YtdobfmlmenaajaaGreatDoorJ09
namespace Go.Proofs.YtdobfmlmenaajaaGreatDoor
open Go.RowKit Tryz
open _root_.Bool renaming false_eq_true→aR
open _root_.Classical renaming byContradiction→en,em→eH
open _root_.Int renaming ofNat_lt→af,zero_le_ofNat→az,tmod_eq_emod_of_nonneg→aU,emod_lt_of_pos→aV,emod_nonneg→aY,mul_le_mul_of_nonneg_right→cj,natCast_mul→ck,mul_comm→cF,sign_eq_one_of_pos→cU,mul_le_mul→cY,mul_nonneg→du,one_mul→eg,tmod→eA,mul_emod→eZ,toNat_natCast→fE,mul_one→ij,tdiv→iu,toNat_zero→mp,sign_zero→nh,zero_mul→oN,mul_sub→qo,ofNat_le→ta,ofNat_tmod→wT
open _root_.List renaming not_mem_nil→aT,getD_cons_succ→bC,forall_mem_cons→bG,getD_cons_zero→bI
open _root_.Nat renaming reduceEqDiff→aa,add_one_le_iff→ab,reduceLT→ae,le_refl→ah,reduceAdd→ak,reduceLeDiff→au,zero_add→aF,lt_or_ge→aI,mul_le_mul→bN,eq_zero_or_pos→bU,le_trans→bV,pow_le_pow_right→cg,pow_succ→ct,add_zero→dd,mod_lt→eP,lt_of_le_of_lt→gj,succ_mul→ia,one_mul→kg
open _root_.Ne renaming symm→ao
open _root_.Option renaming none→ac,map_some→dp,map_none→jE
open _root_.Or renaming inr→bH,inl→bQ
set_option maxHeartbeats 6400000
set_option maxRecDepth 4096
set_option linter.all false
structure Mp(n most:Nat)(A:aW):Prop where
 sym:∀a c,a<n->c<n->A a c=A c a
 diag:∀a,a<n->1<=A a a/\A a a<=most
 small:∀a c,a<n->c<n->-9<=A a c/\A a c<=9
def Mx(S0 S:St)(b bt N n:Nat)(Q:aW->Prop):Prop:=∃(g:Nat->Nat) (A:aW),dR S b g n n A/\ie S bt N/\Is S0 S bt/\S0 b=ac/\(∀a,a<n->S0 (g a)=ac)/\Q A
theorem tmod3(z:Int):-2<=z.tmod 3/\z.tmod 3<=2:=by
 have h1:=qU (a:=z) (b:=3) om;omega
theorem lN(S0:St)(bt N n:Nat)(hT:ie S0 bt N)(hn:n<=8)(hN:N<=500):cS 148 [.ptr 1 bt 0,.int .i64 n] S0 (fun r S'=>∃b,r=.sl 1 b 0 n/\Mx S0 S' b bt (N+n+n*n) n (Mp n 6)):=by
 refine aD func148 rfl 45 ntmps148 kr sm (by simp[results148]) ?_
 rw[aQ,results148];have hnn:n*n<=64:=bN hn hn;simp -dsimp only[go_sem,ak,aa,ae,reduceCtorEq,ab];refine(eN S0 bt N n 6 hT om om om).mono ?_;rintro r S1 ⟨b,g,A,rfl,hM,hTp,hFr,hD,hb0,hg0⟩;simp -dsimp only[go_sem,aa,reduceCtorEq];refine aM (fun O S=>∃i:Nat,i<=n/\O 0=.ptr 1 bt 0/\O 5=.sl 1 b 0 n/\O 12=.int .i64 n/\O 13=.int .i64 i/\Mx S0 S b bt (N+n+i*n) n (Mp n 6)) (fun O S=>n-ca (O 13)) ?_ ?_
 ·simp -dsimp only[go_sem,aa,reduceCtorEq];refine⟨0,om,rfl,g,A,hM,hTp.mono om,hFr,hb0,hg0,fun a c ha hc=>?_,fun a ha=>(hD a ha).1,fun a c ha hc=>?_⟩
  ·by_cases e:a=c
   ·rw[e]
   ·rw[(hD a ha).2 c hc (ao e),(hD c hc).2 a ha e]
  ·by_cases e:c=a
   ·have:=(hD a ha).1;rw[e];omega
   ·rw[(hD a ha).2 c hc e];omega
 ·clear hM hTp hFr hD hb0 hg0;rintro O S ⟨i,hi,e0,e5,e12,e13,hG⟩;by_cases hlt:i<n
  ·have hin:i*n+n<=n*n:=by rw[<-ia];exact Nat.mul_le_mul_right _ hlt
   simp -dsimp only[go_sem,aa,↓reduceIte,af,decide_true,e5,e12,e13,hlt];refine aM (fun O S=>∃k:Nat,k<=i/\O 0=.ptr 1 bt 0/\O 5=.sl 1 b 0 n/\O 6=.int .i64 i/\O 7=.int .i64 k/\O 12=.int .i64 n/\O 13=.int .i64 i/\Mx S0 S b bt (N+n+i*n+k) n (Mp n 6)) (fun O S=>i-ca (O 7)) ?_ ?_
   ·simp -dsimp only[go_sem,aa,reduceCtorEq,e0,e5,e12,e13];exact⟨0,om,rfl,hG⟩
   ·clear hG;rintro O S ⟨k,hk,e0,e5,e6,e7,e12,e13,g,A,hM,hTp,hFr,hb0,hg0,hS⟩;by_cases hki:k<i
    ·have hkn:k<n:=om
     obtain⟨g1,u1,v1⟩:=hM.outer;obtain⟨gi,ui,vi⟩:=hM.row i hlt;have w1:g1 i=.sl 1 (g i) 0 n:=v1 i hlt;have w2:g1 k=.sl 1 (g k) 0 n:=v1 k hkn;simp -dsimp only[go_sem,aa,↓reduceIte,reduceCtorEq,af,decide_true,e0,e5,e6,e7,e12,e13,hki];refine eL 6 [[0,1,2,3,4]] kr ?_
     simp -dsimp only[go_sem,aa,ae,↓reduceIte,reduceCtorEq,af,ab,e0,e5,e6,e7,hlt,u1,w1];refine(sW S bt _ hTp om).mono ?_;rintro r S2 ⟨z,hz,rfl,hT3,hkk⟩;have hbt:bt≠b:=hTp.ne u1 om;have hbg:∀a,a<n->g a≠bt:=fun a ha=>by obtain⟨gg,hgg,_⟩:=hM.row a ha;exact ao (hTp.ne hgg om)
     have hM2:dR S2 b g n n A:=⟨hM.outer.via fun X hX=>by rw[hkk b (ao hbt)];exact hX,fun a ha=>(hM.row a ha).via fun X hX=>by rw[hkk _ (hbg a ha)];exact hX,hM.inj⟩
     obtain⟨g1,u1,v1⟩:=hM2.outer;obtain⟨gi,ui,vi⟩:=hM2.row i hlt;have w1:g1 i=.sl 1 (g i) 0 n:=v1 i hlt;have w2:g1 k=.sl 1 (g k) 0 n:=v1 k hkn;have hz3:=tmod3 z;simp -dsimp only[go_sem,aa,↓reduceIte,reduceCtorEq,af,ab,e5,e6,e7,hlt,hkn,u1,w1,ui,show ¬((3:Int)=0) by decide]
     have hM3:=hM2.set (j:=k) (z:=z.tmod 3) hlt ui;have hMi:=hM2.outer_ne hlt;obtain⟨g1',u1',v1'⟩:=hM3.outer;obtain⟨gi',ui',vi'⟩:=hM3.row i hlt;obtain⟨gk',uk',vk'⟩:=hM3.row k hkn;have w1':g1' i=.sl 1 (g i) 0 n:=v1' i hlt;have w2':g1' k=.sl 1 (g k) 0 n:=v1' k hkn;have w3':gi' k=.int .i64 (z.tmod 3):=by rw[vi' k hkn];simp[eE]
     have hki':g i≠g k:=fun e=>by have:=hM.inj i k hlt hkn e;omega
     have hT4:=hT3.upd (ao (hbg i hlt)) ⟨2,1,n,bJ gi k (.int .i64 (z.tmod 3))⟩;have hF4:=(hFr.step hkk).upd (hg0 i hlt) ⟨2,1,n,bJ gi k (.int .i64 (z.tmod 3))⟩;generalize S2.upd (g i) ⟨2,1,n,bJ gi k (.int .i64 (z.tmod 3))⟩=S3 at *;simp -dsimp only[go_sem,u1',w1',hlt];refine bM 13 kr ?_
     simp -dsimp only[go_sem,aa,↓reduceIte,reduceCtorEq,af,ab,e0,e5,e6,e7,e12,e13,hlt,hkn,u1',w1',w2',ui',w3',uk',a6 (om:k<1000000),ca]
     have hM4:=hM3.set (j:=i) (z:=z.tmod 3) hkn uk';refine⟨⟨k+1,om,rfl,g,_,hM4,hT4.upd (ao (hbg k hkn)) _,hF4.upd (hg0 k hkn) _,hb0,hg0,fun a c ha hc=>?_,fun a ha=>?_,fun a c ha hc=>?_⟩,om⟩
     ·have:=hS.sym a c ha hc;simp only[eE];grind
     ·have:=hS.diag a ha;simp only[eE];rw[if_neg om,if_neg om];exact this
     ·have:=hS.small a c ha hc;simp only[eE];split
      ·omega
      ·split
       ·omega
       ·exact this
    ·simp -dsimp only[go_sem,aa,↓reduceIte,reduceCtorEq,af,decide_false,e0,e5,e6,e7,e12,e13,hki,a6 (om:i<1000000),ca]
     exact⟨⟨i+1,om,rfl,g,A,hM,hTp.mono (by rw[ia];omega),hFr,hb0,hg0,hS⟩,om⟩
  ·obtain rfl:i=n:=om
   simp -dsimp only[go_sem,aa,↓reduceIte,af,decide_false,e5,e12,e13,hlt];exact⟨b,rfl,hG⟩
structure At(S:St)(b:Nat)(g:Nat->Nat)(n i:Nat)(A:aW):Prop where
 outer:bE S b 29 1 n (fun a=>if a<i then .sl 1 (g a) 0 n else .nil)
 row:∀a,a<i->lG S (g a) n (A a)
 inj:∀a c,a<i->c<i->g a=g c->a=c
theorem At.outer_ne{S:St}{b:Nat}{g:Nat->Nat}{n i:Nat}{A:aW}(h:At S b g n i A){a:Nat}(ha:a<i):b≠g a:=bE.ne h.outer (h.row a ha) om
theorem At.set{S:St}{b:Nat}{g:Nat->Nat}{n i:Nat}{A:aW}(h:At S b g n i A){a j:Nat}{z:Int}{g':Nat->AV}(ha:a<i)(hS:S (g a)=some ⟨2,1,n,g'⟩):At (S.upd (g a) ⟨2,1,n,bJ g' j (.int .i64 z)⟩) b g n i (eE A a j z):=by
 refine⟨h.outer.upd (h.outer_ne ha) _,fun c hc=>?_,h.inj⟩;by_cases e:c=a
 ·subst e;obtain⟨g2,h1,h2⟩:=h.row c hc;rw[hS]at h1;cases h1;refine bE.here fun t ht=>?_;have:=h2 t ht;simp only[bJ,eE]
  grind
 ·have hne:g c≠g a:=fun e2=>e (h.inj c a hc ha e2);refine((h.row c hc).upd hne _).congr fun t _=>?_;simp[eE,e]
theorem At.new{S:St}{b:Nat}{g:Nat->Nat}{n i:Nat}{A:aW}(h:At S b g n i A){c:Nat}(hi:i<n)(hc:S c=ac){g1:Nat->AV}(hS:S b=some ⟨29,1,n,g1⟩)(h0:∀j,j<n->A i j=0) :
  At ((S.upd c ⟨2,1,n,fun _=>.int .i64 0⟩).upd b ⟨29,1,n,bJ g1 i (.sl 1 c 0 n)⟩) b (fun a=>if a=i then c else g a) n (i+1) A:=by
 have hbc:b≠c:=fun e=>by rw[<-e,hS]at hc;cases hc
 obtain⟨g2,h1,h2⟩:=h.outer;rw[hS]at h1;cases h1;refine⟨bE.here fun a ha=>?_,fun a ha=>?_,fun a d ha hd e=>?_⟩
 ·have:=h2 a ha;simp only[bJ];grind
 ·by_cases e:a=i
  ·subst e;simp only[if_true];exact(bE.here fun j hj=>by rw[h0 j hj]).upd (ao hbc) _
  ·simp only[e,if_false];have r:=h.row a om;exact(r.upd (bE.fresh r hc) _).upd (ao (h.outer_ne om)) _
 ·have q:∀a,a<i->g a≠c:=fun a ha=>bE.fresh (h.row a ha) hc;have:=h.inj
  grind
structure MA(n i:Nat)(A:aW):Prop where
 sym:∀a c,A a c=A c a
 out:∀a c,i<=a∨i<=c->A a c=0
 diag:∀a,a<i->A a a=2
 small:∀a c,-9<=A a c/\A a c<=9
def ChI(S0 S:St)(b n i:Nat):Prop:=∃(g:Nat->Nat) (A:aW),At S b g n i A/\MA n i A/\eJ S0 S/\S0 b=ac/\∀a,a<i->S0 (g a)=ac
theorem MA.next0{n i:Nat}{A:aW}(h:MA n i A):MA n (i+1) (eE A i i 2):=by
 refine⟨fun a c=>?_,fun a c hac=>?_,fun a ha=>?_,fun a c=>?_⟩
 ·have:=h.sym a c;simp only[eE];grind
 ·simp only[eE];rw[if_neg om];exact h.out a c om
 ·simp only[eE];by_cases e:a=i
  ·simp[e]
  ·rw[if_neg om];exact h.diag a om
 ·have:=h.small a c;simp only[eE];split
  ·omega
  ·exact this
theorem MA.next{n i m:Nat}{A:aW}(h:MA n i A)(hm:m<i):MA n (i+1) (eE (eE (eE A i i 2) i m (-1)) m i (-1)):=by
 have h1:=h.next0;refine⟨fun a c=>?_,fun a c hac=>?_,fun a ha=>?_,fun a c=>?_⟩
 ·have:=h1.sym a c;simp only[eE]at this ⊢;grind
 ·have:=h1.out a c hac;simp only[eE]at this ⊢;grind
 ·have:=h1.diag a ha;simp only[eE]at this ⊢;grind
 ·have:=h1.small a c;simp only[eE]at this ⊢;grind
theorem wj(S0:St)(n:Nat)(fork:Bool)(hn:n<=8):cS 149 [.int .i64 n,.bool fork] S0 (fun r S'=>∃b,r=.sl 1 b 0 n/\ChI S0 S' b n n):=by
 refine aD func149 rfl 57 ntmps149 kr sm (by simp[results149]) ?_
 rw[aQ,results149];simp -dsimp only[go_sem,ak,aa,reduceCtorEq]
 repeat refine an ?_
 refine aH.intro fun b5 f5=>?_;simp -dsimp only[go_sem];refine aM (fun O S=>∃i:Nat,i<=n/\O 0=.int .i64 n/\O 1=.bool fork/\O 5=.sl 1 b5 0 n/\O 11=.int .i64 n/\O 12=.int .i64 i/\ChI S0 S b5 n i) (fun O S=>n-ca (O 12)) ?_ ?_
 ·simp -dsimp only[go_sem,aa,reduceCtorEq];exact⟨0,om,rfl,fun _=>0,fun _ _=>0,⟨bE.here fun _ _=>by simp,fun a ha=>om,fun a c ha=>om⟩,⟨fun _ _=>rfl,fun _ _ _=>rfl,fun a ha=>om,fun _ _=>om⟩,(eJ.refl S0).upd f5 _,f5,fun a ha=>om⟩
 ·rintro O S ⟨i,hi,e0,e1,e5,e11,e12,g,A,hM,hC,hE,hb0,hg0⟩;by_cases hlt:i<n
  ·obtain⟨g1,u1,v1⟩:=hM.outer;simp -dsimp only[go_sem,aa,↓reduceIte,reduceCtorEq,af,decide_true,ab,e0,e1,e5,e11,e12,hlt]
   repeat refine an ?_
   refine aH.intro fun b18 f18=>?_;have h518:b5≠b18:=fun e=>by rw[<-e,u1]at f18;cases f18
   have hM1:=hM.new hlt f18 u1 (fun j _=>hC.out i j om);have hE1:=(hE.upd (hE.none f18) ⟨2,1,n,fun _=>.int .i64 0⟩).upd hb0 ⟨29,1,n,bJ g1 i (.sl 1 b18 0 n)⟩;have hw1:IntKind.i64.wrap ((i:Int)-1)=(i:Int)-1:=i64_in om om;have hw2:IntKind.i64.wrap ((i:Int)-2)=(i:Int)-2:=i64_in om om;have hwn:IntKind.i64.wrap ((n:Int)-1)=(n:Int)-1:=i64_in om om;have hg1:∀a,a<i+1->S0 ((fun a=>if a=i then b18 else g a) a)=ac:=fun a ha=>by
    by_cases e:a=i
    ·simp only[e,if_true];exact hE.none f18
    ·simp only[e,if_false];exact hg0 a om
   have hM2:=hM1.set (a:=i) (j:=i) (z:=2) (g':=fun _=>.int .i64 0) om (by simp only[if_true];rw[aP (ao h518)];exact bZ)
   simp only[if_true]at hM2;have hE2:=hE1.upd (hE.none f18) ⟨2,1,n,bJ (fun _=>.int .i64 0) i (.int .i64 2)⟩;by_cases hB:fork=true/\i+1=n/\3<n
   ·obtain⟨rfl,hin,h3⟩:=hB;obtain⟨m,hm⟩:∃m,i=m+2:=⟨i-2,om⟩
    have q1:((i:Int)==(n:Int)-1)=true:=by simp;omega
    have q2:(3:Int)<(n:Int):=om
    have q3:IntKind.i64.wrap ((i:Int)-2)=(m:Nat):=dK om om;simp -dsimp only[go_sem,↓reduceIte,reduceCtorEq,af,decide_true,hlt,nn h518,u1,bJ,hwn,hw1,q1,q2,q3];have hmn:m<n:=om
    have hM3:=hM2.set (a:=i) (j:=m) (z:=-1) (g':=bJ (fun _=>.int .i64 0) i (.int .i64 2)) om (by simp only[if_true];exact bZ)
    simp only[if_true]at hM3;obtain⟨gm,um,vm⟩:=hM3.row m om;have hmi:m≠i:=om
    simp only[hmi,if_false]at um vm;have hM4:=hM3.set (a:=m) (j:=i) (z:=-1) (g':=gm) om (by simp only[hmi,if_false];exact um)
    simp only[hmi,if_false]at hM4;have wm:g1 m=.sl 1 (g m) 0 n:=by rw[v1 m hmn];simp only[];rw[if_pos om]
    have hgm:g m≠b18:=bE.fresh (hM.row m om) f18;have hgb:g m≠b5:=ao (hM.outer_ne om);obtain⟨gm0,um0,vm0⟩:=hM.row m om;obtain rfl:gm0=gm:=by
     rw[aP hgm,aP hgm,aP hgb,aP hgm,um0]at um;cases um;rfl
    refine io 11 kr ?_
    simp -dsimp only[go_sem,aa,↓reduceIte,reduceCtorEq,af,ab,e0,e1,e5,e11,e12,hlt,h518,bJ,hmn,wm,hgm,hgb,um0,hmi,a6 (om:i<1000000),ca]
    exact⟨⟨i+1,om,rfl,_,_,hM4,hC.next om,(hE2.upd (hE.none f18) _).upd (hg0 m om) _,hb0,hg1⟩,om⟩
   ·cases hfk:fork with
    | false =>
     rw[hfk]at e1;rcases bU i with hi0|hi0
     ·have q3:IntKind.i64.wrap ((i:Int)-1)=-1:=by rw[hi0];decide
      have q4:¬((0:Int)<=-1):=by decide
      simp -dsimp only[go_sem,↓reduceIte,reduceCtorEq,af,decide_false,hlt,nn h518,u1,bJ,hwn,q3,q4,a6 (om:i<1000000),ca]
      exact⟨⟨i+1,om,rfl,_,_,hM2,hC.next0,hE2,hb0,hg1⟩,om⟩
     ·obtain⟨m,hm⟩:∃m,i=m+1:=⟨i-1,om⟩
      have q3:IntKind.i64.wrap ((i:Int)-1)=(m:Nat):=dK om om;simp -dsimp only[go_sem,↓reduceIte,reduceCtorEq,af,decide_true,hlt,nn h518,u1,bJ,hwn,q3];have hmn:m<n:=om
      have hM3:=hM2.set (a:=i) (j:=m) (z:=-1) (g':=bJ (fun _=>.int .i64 0) i (.int .i64 2)) om (by simp only[if_true];exact bZ)
      simp only[if_true]at hM3;obtain⟨gm,um,vm⟩:=hM3.row m om;have hmi:m≠i:=om
      simp only[hmi,if_false]at um vm;have hM4:=hM3.set (a:=m) (j:=i) (z:=-1) (g':=gm) om (by simp only[hmi,if_false];exact um)
      simp only[hmi,if_false]at hM4;have wm:g1 m=.sl 1 (g m) 0 n:=by rw[v1 m hmn];simp only[];rw[if_pos om]
      have hgm:g m≠b18:=bE.fresh (hM.row m om) f18;have hgb:g m≠b5:=ao (hM.outer_ne om);obtain⟨gm0,um0,vm0⟩:=hM.row m om;obtain rfl:gm0=gm:=by
       rw[aP hgm,aP hgm,aP hgb,aP hgm,um0]at um;cases um;rfl
      refine io 11 kr ?_
      simp -dsimp only[go_sem,aa,↓reduceIte,reduceCtorEq,af,ab,e0,e1,e5,e11,e12,hlt,h518,bJ,hmn,wm,hgm,hgb,um0,hmi,a6 (om:i<1000000),ca]
      exact⟨⟨i+1,om,rfl,_,_,hM4,hC.next om,(hE2.upd (hE.none f18) _).upd (hg0 m om) _,hb0,hg1⟩,om⟩
    | true =>
     rw[hfk]at e1;by_cases hin:i+1=n
     ·have q1:((i:Int)==(n:Int)-1)=true:=by simp;omega
      have h3:¬3<n:=fun h=>hB ⟨hfk,hin,h⟩;have q2:¬(3:Int)<(n:Int):=om
      rcases bU i with hi0|hi0
      ·have q3:IntKind.i64.wrap ((i:Int)-1)=-1:=by rw[hi0];decide
       have q4:¬((0:Int)<=-1):=by decide
       simp -dsimp only[go_sem,↓reduceIte,reduceCtorEq,af,decide_false,hlt,nn h518,u1,bJ,hwn,q1,q2,q3,q4,a6 (om:i<1000000),ca]
       exact⟨⟨i+1,om,rfl,_,_,hM2,hC.next0,hE2,hb0,hg1⟩,om⟩
      ·obtain⟨m,hm⟩:∃m,i=m+1:=⟨i-1,om⟩
       have q3:IntKind.i64.wrap ((i:Int)-1)=(m:Nat):=dK om om;simp -dsimp only[go_sem,↓reduceIte,reduceCtorEq,af,decide_true,decide_false,hlt,nn h518,u1,bJ,hwn,q1,q2,q3];have hmn:m<n:=om
       have hM3:=hM2.set (a:=i) (j:=m) (z:=-1) (g':=bJ (fun _=>.int .i64 0) i (.int .i64 2)) om (by simp only[if_true];exact bZ)
       simp only[if_true]at hM3;obtain⟨gm,um,vm⟩:=hM3.row m om;have hmi:m≠i:=om
       simp only[hmi,if_false]at um vm;have hM4:=hM3.set (a:=m) (j:=i) (z:=-1) (g':=gm) om (by simp only[hmi,if_false];exact um)
       simp only[hmi,if_false]at hM4;have wm:g1 m=.sl 1 (g m) 0 n:=by rw[v1 m hmn];simp only[];rw[if_pos om]
       have hgm:g m≠b18:=bE.fresh (hM.row m om) f18;have hgb:g m≠b5:=ao (hM.outer_ne om);obtain⟨gm0,um0,vm0⟩:=hM.row m om;obtain rfl:gm0=gm:=by
        rw[aP hgm,aP hgm,aP hgb,aP hgm,um0]at um;cases um;rfl
       refine io 11 kr ?_
       simp -dsimp only[go_sem,aa,↓reduceIte,reduceCtorEq,af,ab,e0,e1,e5,e11,e12,hlt,h518,bJ,hmn,wm,hgm,hgb,um0,hmi,a6 (om:i<1000000),ca]
       exact⟨⟨i+1,om,rfl,_,_,hM4,hC.next om,(hE2.upd (hE.none f18) _).upd (hg0 m om) _,hb0,hg1⟩,om⟩
     ·have q1:((i:Int)==(n:Int)-1)=false:=by simp;omega
      rcases bU i with hi0|hi0
      ·have q3:IntKind.i64.wrap ((i:Int)-1)=-1:=by rw[hi0];decide
       have q4:¬((0:Int)<=-1):=by decide
       simp -dsimp only[go_sem,↓reduceIte,reduceCtorEq,af,decide_false,hlt,nn h518,u1,bJ,hwn,q1,q3,q4,a6 (om:i<1000000),ca]
       exact⟨⟨i+1,om,rfl,_,_,hM2,hC.next0,hE2,hb0,hg1⟩,om⟩
      ·obtain⟨m,hm⟩:∃m,i=m+1:=⟨i-1,om⟩
       have q3:IntKind.i64.wrap ((i:Int)-1)=(m:Nat):=dK om om;simp -dsimp only[go_sem,↓reduceIte,reduceCtorEq,af,decide_true,hlt,nn h518,u1,bJ,hwn,q1,q3];have hmn:m<n:=om
       have hM3:=hM2.set (a:=i) (j:=m) (z:=-1) (g':=bJ (fun _=>.int .i64 0) i (.int .i64 2)) om (by simp only[if_true];exact bZ)
       simp only[if_true]at hM3;obtain⟨gm,um,vm⟩:=hM3.row m om;have hmi:m≠i:=om
       simp only[hmi,if_false]at um vm;have hM4:=hM3.set (a:=m) (j:=i) (z:=-1) (g':=gm) om (by simp only[hmi,if_false];exact um)
       simp only[hmi,if_false]at hM4;have wm:g1 m=.sl 1 (g m) 0 n:=by rw[v1 m hmn];simp only[];rw[if_pos om]
       have hgm:g m≠b18:=bE.fresh (hM.row m om) f18;have hgb:g m≠b5:=ao (hM.outer_ne om);obtain⟨gm0,um0,vm0⟩:=hM.row m om;obtain rfl:gm0=gm:=by
        rw[aP hgm,aP hgm,aP hgb,aP hgm,um0]at um;cases um;rfl
       refine io 11 kr ?_
       simp -dsimp only[go_sem,aa,↓reduceIte,reduceCtorEq,af,ab,e0,e1,e5,e11,e12,hlt,h518,bJ,hmn,wm,hgm,hgb,um0,hmi,a6 (om:i<1000000),ca]
       exact⟨⟨i+1,om,rfl,_,_,hM4,hC.next om,(hE2.upd (hE.none f18) _).upd (hg0 m om) _,hb0,hg1⟩,om⟩
  ·obtain rfl:i=n:=om
   simp -dsimp only[go_sem,aa,↓reduceIte,reduceCtorEq,af,decide_false,ab,e0,e1,e5,e11,e12,hlt];exact⟨b5,rfl,g,A,hM,hC,hE,hb0,hg0⟩
theorem nb9{z:Int}(h:-9<=z/\z<=9):nb z 4:=by unfold nb;omega
theorem KM{z:Int}(h:-9<=z/\z<=9):In z:=by unfold In;omega
theorem ik(n:Nat)(A:aW)(h1:1<=n)(h2:n<=8)(hS:∀a c,a<n->c<n->A a c=A c a)(hA:∀a c,a<n->c<n->-9<=A a c/\A a c<=9)(β:Bool)(hβ:β=true↔(∀k,k<=n->0<det k A)/\det n A<=10000):PF 152 [aN n n A] (.bool β):=by
 refine PF.of_spec (aD func152 rfl 16 ntmps152 kr sm (by simp[results152]) ?_)
 rw[aQ,results152];have hn4:∀i j,i<n->j<n->nb (A i j) 4:=fun i j hi hj=>nb9 (hA i j hi hj);have hd:=mB (k:=n) (n:=n) om hn4 (ah _);have h3:nb 10000 (17*(4+10)):=Nat.lt_of_lt_of_le (by decide:10000<2^14) (cg om om)
 simp -dsimp only[go_sem,aa,ae,reduceCtorEq,ab];refine(wN n n A h1 om h1 om (fun i j hi hj=>KM (hA i j hi hj))).call ?_;simp -dsimp only[go_sem,aa,ae,reduceCtorEq,ab];rcases eH (∀k,k<=n->0<det k A)with hp|hp
 ·refine(mG n A 4 h1 h2 hn4 om hS true (by simp;exact hp)).call ?_
  simp -dsimp only[go_sem,aa,ae,↓reduceIte,ab,show((0:Int)==0)=true from rfl];refine(gL n A 4 h1 om hn4 om).call ?_;simp -dsimp only[go_sem,aa,ae,↓reduceIte,ab,show((0:Int)==0)=true from rfl];refine(eK dc dc).call ?_
  simp -dsimp only[go_sem,aa,ae,↓reduceIte,ab,show((0:Int)==0)=true from rfl];refine(nX hd h3 om).call ?_;simp -dsimp only[go_sem,aa,↓reduceIte,show((0:Int)==0)=true from rfl,Ae];have:β=decide (det n A<=10000):=by
   cases β with
   | true=>have:=(hβ.1 rfl).2;simp[this]
   | false =>
    by_cases h:det n A<=10000
    ·exact absurd (hβ.2 ⟨hp,h⟩) sm
    ·simp[h]
  rw[this];exact VR.mf rfl
 ·refine(mG n A 4 h1 h2 hn4 om hS false (by simp only[aR,false_iff];exact hp)).call ?_
  simp -dsimp only[go_sem,aa,↓reduceIte,show((5:Int)==0)=false from rfl];have:β=false:=by
   cases β with
   | false=>rfl
   | true=>exact absurd (hβ.1 rfl).1 hp
  rw[this];exact VR.mf rfl
structure Lk(n:Nat)(A:aW):Prop where
 one:1<=n
 five:n<=5
 sym:∀a c,a<n->c<n->A a c=A c a
 pos:∀k,k<=n->0<det k A
 small:det n A<=10000
 diag:∀i,i<n->A i i<=9
 ent:∀a c,a<n->c<n->-9<=A a c/\A a c<=9
theorem GT{n:Nat}{f:Nat->Int}(h:∀i,i<n->0<f i/\f i<=2):fq n f<=2^n:=by
 induction n generalizing f with
 | zero=>simp[fq]
 | succ n ih =>
  simp only[fq];have h1:=ih (f:=fun i=>f (i+1)) (fun i hi=>h (i+1) om);have h2:=sD (n:=n) (f:=fun i=>f (i+1)) (fun i hi=>(h (i+1) om).1);have h3:=cY (h 0 om).2 h1 (Int.le_of_lt h2) om;rw[Int.pow_succ];omega
theorem Cn.det{n most:Nat}{A:aW}(h:Cn n most A){k:Nat}(hk:k<=n):det k A=fq k (fun r=>A r r):=by
 have h1:=oc (n:=0) k A (by rw[aF];exact fun r hr=>⟨fun j hj hjk=>(h r om).2 j om om,by have:=(h r om).1.1;omega⟩)
 rw[aF]at h1;rw[h1,show Go.Proofs.YtdobfmlmenaajaaGreatDoor.det 0 _=1 from rfl,ij]
theorem Cn.good{n:Nat}{A:aW}(h:Cn n 2 A)(h1:1<=n)(h2:n<=5):Lk n A:=by
 have hp:∀k,k<=n->0<Go.Proofs.YtdobfmlmenaajaaGreatDoor.det k A:=fun k hk=>by
  rw[h.det hk];exact sD fun i hi=>by have:=(h i om).1.1;omega
 refine⟨h1,h2,fun a c ha hc=>?_,hp,?_,fun i hi=>by have:=(h i hi).1.2;omega,fun a c ha hc=>?_⟩
 ·by_cases e:a=c
  ·rw[e]
  ·rw[(h a ha).2 c hc (ao e),(h c hc).2 a ha e]
 ·rw[h.det (ah _)];have h3:=GT (n:=n) (f:=fun r=>A r r) (fun i hi=>by have:=(h i hi).1;constructor<;>omega)
  have h4:=mA h2;have h5:(2:Int)^5=32:=by decide
  omega
 ·by_cases e:c=a
  ·have:=(h a ha).1;rw[e];omega
  ·rw[(h a ha).2 c hc e];omega
def Jx(d k L:Nat)(nums:Nat->Int)(Lb:Nat)(base:Nat->AV):AV:=.agg [.int .u8 d,.int .u8 k,.lst 1 L (fun i=>.int .i8 (nums i)),.lst 1 Lb base]
def EIM(f:Nat)(args:List AV)(P:Nat->aW->Prop):Prop:=∀S args',dO S args' args->cS f args' S (fun r S'=>∃b g n A,P n A/\r=.sl 1 b 0 n/\iY S S' b g n n A)
theorem EIM.of{f:Nat}{args:List AV}{P:Nat->aW->Prop}(h:cS f args St.none (fun r S'=>∃b g n A,P n A/\r=.sl 1 b 0 n/\dR S' b g n n A)):EIM f args P:=fun S args' hv=>by
 have h1:cS f args St.none (fun r S'=>∃b g n A,P n A/\r=.sl 1 b 0 n/\dR S' b g n n A/\F8 S'):=h.less fun r S' ⟨b,g,n,A,hP,e,hm⟩=>⟨fW S' b g n,ja S' b g n,b,g,n,A,hP,e,hm.only.1,hm.only.2⟩;refine(h1.frame hv ?_).mono ?_
 ·rintro r S1 ⟨b,g,n,A,_,rfl,_,hc⟩;exact⟨rfl,hc⟩
 ·rintro r S' ⟨S1,⟨b,g,n,A,hP,rfl,hm,_⟩,hd,rfl⟩;exact⟨b,g,n,A,hP,rfl,hm.join hd⟩
theorem Ir(d k L:Nat)(nums:Nat->Int)(Lb:Nat)(base:Nat->AV)(hd:d<256)(hk:k<256)(hnums:∀i,i<L->-128<=nums i/\nums i<=127):EIM 89 [Jx d k L nums Lb base,.int .i64 5] Lk:=by
 refine EIM.of ?_;refine aD func89 rfl 74 ntmps89 kr sm (by simp[results89]) ?_
 rw[aQ,results89];obtain⟨n,hn,hnd⟩:∃n,n=1+d%5/\1+d%5=n:=⟨_,rfl,rfl⟩;have hn5:n<=5:=om
 have hnn:n*n<=25:=bN hn5 hn5;have w1:IntKind.i64.wrap (d:Int)=(d:Nat):=i64_in om om;have w2:eA (d:Int) 5=((d%5:Nat):Int):=by rw[wT]<;>rfl
 have w3:IntKind.i64.wrap (1+((d%5:Nat):Int))=(n:Nat):=dK om om;have w4:eA (k:Int) 8=((k%8:Nat):Int):=by rw[wT]<;>rfl
 simp -dsimp only[go_sem,ak,aa,ae,↓reduceIte,reduceCtorEq,ab,Jx,bG,aT,false_implies,implies_true];refine aH.intro fun b2 f2=>?_;simp -dsimp only[go_sem,ae,bI,bC];refine aH.intro fun b5 f5=>?_;have n5_2:=(ai f5).1;have hT0:ie ((St.none.upd b2 ⟨24,1,4,fun j=>[AV.int .u8 d,.int .u8 k,.lst 1 L (fun i=>.int .i8 (nums i)),.lst 1 Lb base].getD j .any⟩).upd b5 ⟨107,1,2,fun j=>[AV.lst 1 L (fun i=>.int .i8 (nums i)),.int .i64 0].getD j .any⟩) b5 0:=⟨L,nums,0,_,bZ,rfl,rfl,ah _,hnums⟩;obtain⟨q,hq,hq8⟩:∃q,q=k%8/\q<8:=⟨_,rfl,eP _ om⟩;rw[<-hq]at w4;simp -dsimp only[go_sem,ae,ao n5_2,bI,bC,w1,w2,w3,w4,show ¬((5:Int)=0) by decide,show ¬((8:Int)=0) by decide]
 have hq':q=0∨q=1∨q=2∨q=3∨q=4∨q=5∨q=6∨q=7:=om
 clear hq w4;rcases hq' with rfl|rfl|rfl|rfl|rfl|rfl|rfl|rfl
 ·simp -dsimp only[go_sem,show((((0:Nat)):Int)==0)=true from rfl];refine(lN _ b5 0 n hT0 om om).mono ?_;rintro r S1 ⟨b,rfl,g,A,hM,hTp,hFr,hb0,hg0,hP⟩;have hSym:=And.intro hP.sym hP.small;simp -dsimp only[go_sem,aa,ae,ab,w1,w2,w3];rcases eH ((∀k,k<=n->0<det k A)/\det n A<=10000)with hg|hg
  ·refine(ik n A om om hSym.1 hSym.2 true (by simp only[true_iff];exact hg)).spec (dO.cons hM.vr.va dO.nil) ?_
   simp -dsimp only[go_sem,aa,ae,ab];exact⟨b,g,n,A,⟨om,om,hSym.1,hg.1,hg.2,fun i hi=>(hSym.2 i i hi hi).2,hSym.2⟩,rfl,hM⟩
  ·refine(ik n A om om hSym.1 hSym.2 false (by simp only[aR,false_iff];exact hg)).spec (dO.cons hM.vr.va dO.nil) ?_
   simp -dsimp only[go_sem,aa,ae,ab];refine(eN _ b5 _ n 2 hTp om om om).mono ?_;rintro r S9 ⟨b',g',A',rfl,hM',hTp',hFr',hD',_,_⟩;simp -dsimp only[go_sem,aa];exact⟨b',g',n,A',hD'.good om om,rfl,hM'⟩
 ·simp -dsimp only[go_sem,show((((1:Nat)):Int)==0)=false from rfl,show((((1:Nat)):Int)==1)=true from rfl];refine(lN _ b5 0 n hT0 om om).mono ?_;rintro r S1 ⟨b,rfl,g,A,hM,hTp,hFr,hb0,hg0,hP⟩;have hSym:=And.intro hP.sym hP.small;simp -dsimp only[go_sem,aa,ae,ab,w1,w2,w3];rcases eH ((∀k,k<=n->0<det k A)/\det n A<=10000)with hg|hg
  ·refine(ik n A om om hSym.1 hSym.2 true (by simp only[true_iff];exact hg)).spec (dO.cons hM.vr.va dO.nil) ?_
   simp -dsimp only[go_sem,aa,ae,ab];exact⟨b,g,n,A,⟨om,om,hSym.1,hg.1,hg.2,fun i hi=>(hSym.2 i i hi hi).2,hSym.2⟩,rfl,hM⟩
  ·refine(ik n A om om hSym.1 hSym.2 false (by simp only[aR,false_iff];exact hg)).spec (dO.cons hM.vr.va dO.nil) ?_
   simp -dsimp only[go_sem,aa,ae,ab];refine(eN _ b5 _ n 2 hTp om om om).mono ?_;rintro r S9 ⟨b',g',A',rfl,hM',hTp',hFr',hD',_,_⟩;simp -dsimp only[go_sem,aa];exact⟨b',g',n,A',hD'.good om om,rfl,hM'⟩
 ·simp -dsimp only[go_sem,show((((2:Nat)):Int)==0)=false from rfl,show((((2:Nat)):Int)==1)=false from rfl,show((((2:Nat)):Int)==2)=true from rfl];refine(lN _ b5 0 n hT0 om om).mono ?_;rintro r S1 ⟨b,rfl,g,A,hM,hTp,hFr,hb0,hg0,hP⟩;have hSym:=And.intro hP.sym hP.small;simp -dsimp only[go_sem,aa,ae,ab,w1,w2,w3];rcases eH ((∀k,k<=n->0<det k A)/\det n A<=10000)with hg|hg
  ·refine(ik n A om om hSym.1 hSym.2 true (by simp only[true_iff];exact hg)).spec (dO.cons hM.vr.va dO.nil) ?_
   simp -dsimp only[go_sem,aa,ae,ab];exact⟨b,g,n,A,⟨om,om,hSym.1,hg.1,hg.2,fun i hi=>(hSym.2 i i hi hi).2,hSym.2⟩,rfl,hM⟩
  ·refine(ik n A om om hSym.1 hSym.2 false (by simp only[aR,false_iff];exact hg)).spec (dO.cons hM.vr.va dO.nil) ?_
   simp -dsimp only[go_sem,aa,ae,ab];refine(eN _ b5 _ n 2 hTp om om om).mono ?_;rintro r S9 ⟨b',g',A',rfl,hM',hTp',hFr',hD',_,_⟩;simp -dsimp only[go_sem,aa];exact⟨b',g',n,A',hD'.good om om,rfl,hM'⟩
 ·simp -dsimp only[go_sem,show((((3:Nat)):Int)==0)=false from rfl,show((((3:Nat)):Int)==1)=false from rfl,show((((3:Nat)):Int)==2)=false from rfl,show((((3:Nat)):Int)==3)=true from rfl];refine(lN _ b5 0 n hT0 om om).mono ?_;rintro r S1 ⟨b,rfl,g,A,hM,hTp,hFr,hb0,hg0,hP⟩;have hSym:=And.intro hP.sym hP.small;simp -dsimp only[go_sem,aa,ae,ab,w1,w2,w3];rcases eH ((∀k,k<=n->0<det k A)/\det n A<=10000)with hg|hg
  ·refine(ik n A om om hSym.1 hSym.2 true (by simp only[true_iff];exact hg)).spec (dO.cons hM.vr.va dO.nil) ?_
   simp -dsimp only[go_sem,aa,ae,ab];exact⟨b,g,n,A,⟨om,om,hSym.1,hg.1,hg.2,fun i hi=>(hSym.2 i i hi hi).2,hSym.2⟩,rfl,hM⟩
  ·refine(ik n A om om hSym.1 hSym.2 false (by simp only[aR,false_iff];exact hg)).spec (dO.cons hM.vr.va dO.nil) ?_
   simp -dsimp only[go_sem,aa,ae,ab];refine(eN _ b5 _ n 2 hTp om om om).mono ?_;rintro r S9 ⟨b',g',A',rfl,hM',hTp',hFr',hD',_,_⟩;simp -dsimp only[go_sem,aa];exact⟨b',g',n,A',hD'.good om om,rfl,hM'⟩
 ·simp -dsimp only[go_sem,show((((4:Nat)):Int)==0)=false from rfl,show((((4:Nat)):Int)==1)=false from rfl,show((((4:Nat)):Int)==2)=false from rfl,show((((4:Nat)):Int)==3)=false from rfl,show((((4:Nat)):Int)==4)=true from rfl];refine(wj _ n false om).mono ?_;rintro r S1 ⟨b,rfl,g,A,hM0,hC,hE,hb0,hg0⟩;have hM1:dR S1 b g n n A:=⟨hM0.outer.congr fun a ha=>by simp[ha],hM0.row,hM0.inj⟩
  have hT1:ie S1 b5 0:=hT0.step ((hE _ _ bZ).trans bZ.symm);have hp:(0:Nat)<n:=om
  obtain⟨g1,u1,v1⟩:=hM1.outer;obtain⟨g2,u2,v2⟩:=hM1.row 0 hp;have x1:g1 0=.sl 1 (g 0) 0 n:=v1 0 hp;have x2:g2 0=.int .i64 2:=by rw[v2 0 hp];simp only[hC.diag 0 hp]
  simp -dsimp only[go_sem,aa,w1,w2,w3];refine eL 6 [[0,1,2,3,4],[0,1],[]] kr ?_
  simp -dsimp only[go_sem,aa,ae,↓reduceIte,az,ab,u1,u2,x1,x2,show((0:Int)<(n:Int)) by omega,mp]
  repeat refine an ?_
  refine(qL _ b5 0 3 hT1 om om om).mono ?_;rintro r S2 ⟨z,hz,rfl,hT2,hkk⟩;have hbt:b5≠b:=hT1.ne u1 om;have hbg:∀a,a<n->g a≠b5:=fun a ha=>by obtain⟨gg,hgg,_⟩:=hM1.row a ha;exact ao (hT1.ne hgg om)
  have hM2:dR S2 b g n n A:=⟨hM1.outer.via fun X hX=>by rw[hkk b (ao hbt)];exact hX,fun a ha=>(hM1.row a ha).via fun X hX=>by rw[hkk _ (hbg a ha)];exact hX,hM1.inj⟩
  have u1':S2 b=some ⟨29,1,n,g1⟩:=by rw[hkk b (ao hbt)];exact u1
  have u2':S2 (g 0)=some ⟨2,1,n,g2⟩:=by rw[hkk _ (hbg 0 hp)];exact u2
  have wz:IntKind.i64.wrap (2+(z:Int))=((2+z:Nat):Int):=dK om om;simp -dsimp only[go_sem,aa,ae,↓reduceIte,reduceCtorEq,az,ab,u1',u2',x1,x2,wz,show((0:Int)<(n:Int)) by omega,mp]
  repeat refine an ?_
  have hM:=hM2.set (j:=0) (z:=((2+z:Nat):Int)) hp u2';have hTp:=hT2.upd (ao (hbg 0 hp)) ⟨2,1,n,bJ g2 0 (.int .i64 ((2+z:Nat):Int))⟩;have hSym:(∀a c,a<n->c<n->eE A 0 0 ((2+z:Nat):Int) a c=eE A 0 0 ((2+z:Nat):Int) c a)/\∀a c,a<n->c<n->-9<=eE A 0 0 ((2+z:Nat):Int) a c/\eE A 0 0 ((2+z:Nat):Int) a c<=9:=by
   refine⟨fun a c _ _=>?_,fun a c _ _=>?_⟩
   ·have:=hC.sym a c;simp only[eE];grind
   ·have:=hC.small a c;simp only[eE];split
    ·omega
    ·exact this
  generalize eE A 0 0 ((2+z:Nat):Int)=A at *;rcases eH ((∀k,k<=n->0<det k A)/\det n A<=10000)with hg|hg
  ·refine(ik n A om om hSym.1 hSym.2 true (by simp only[true_iff];exact hg)).spec (dO.cons hM.vr.va dO.nil) ?_
   simp -dsimp only[go_sem,aa,ae,ab];exact⟨b,g,n,A,⟨om,om,hSym.1,hg.1,hg.2,fun i hi=>(hSym.2 i i hi hi).2,hSym.2⟩,rfl,hM⟩
  ·refine(ik n A om om hSym.1 hSym.2 false (by simp only[aR,false_iff];exact hg)).spec (dO.cons hM.vr.va dO.nil) ?_
   simp -dsimp only[go_sem,aa,ae,ab];refine(eN _ b5 _ n 2 hTp om om om).mono ?_;rintro r S9 ⟨b',g',A',rfl,hM',hTp',hFr',hD',_,_⟩;simp -dsimp only[go_sem,aa];exact⟨b',g',n,A',hD'.good om om,rfl,hM'⟩
 ·simp -dsimp only[go_sem,show((((5:Nat)):Int)==0)=false from rfl,show((((5:Nat)):Int)==1)=false from rfl,show((((5:Nat)):Int)==2)=false from rfl,show((((5:Nat)):Int)==3)=false from rfl,show((((5:Nat)):Int)==4)=false from rfl,show((((5:Nat)):Int)==5)=true from rfl];refine(wj _ n true om).mono ?_;rintro r S1 ⟨b,rfl,g,A,hM0,hC,hE,hb0,hg0⟩;have hM1:dR S1 b g n n A:=⟨hM0.outer.congr fun a ha=>by simp[ha],hM0.row,hM0.inj⟩
  have hT1:ie S1 b5 0:=hT0.step ((hE _ _ bZ).trans bZ.symm);obtain⟨p,hpn⟩:∃p,n=p+1:=⟨n-1,om⟩
  have hp:p<n:=om
  have wp:IntKind.i64.wrap ((n:Int)-1)=(p:Nat):=dK om om;obtain⟨g1,u1,v1⟩:=hM1.outer;obtain⟨g2,u2,v2⟩:=hM1.row p hp;have x1:g1 p=.sl 1 (g p) 0 n:=v1 p hp;have x2:g2 p=.int .i64 2:=by rw[v2 p hp];simp only[hC.diag p hp]
  simp -dsimp only[go_sem,aa,w1,w2,w3];refine eL 10 [[0,1,2,3,4,5,6,7,8],[0,1,2,3,5],[]] kr ?_
  simp -dsimp only[go_sem,aa,ae,↓reduceIte,reduceCtorEq,af,ab,u1,u2,x1,x2,wp,hp];refine(qL _ b5 0 2 hT1 om om om).mono ?_;rintro r S2 ⟨z,hz,rfl,hT2,hkk⟩;have hbt:b5≠b:=hT1.ne u1 om;have hbg:∀a,a<n->g a≠b5:=fun a ha=>by obtain⟨gg,hgg,_⟩:=hM1.row a ha;exact ao (hT1.ne hgg om)
  have hM2:dR S2 b g n n A:=⟨hM1.outer.via fun X hX=>by rw[hkk b (ao hbt)];exact hX,fun a ha=>(hM1.row a ha).via fun X hX=>by rw[hkk _ (hbg a ha)];exact hX,hM1.inj⟩
  have u1':S2 b=some ⟨29,1,n,g1⟩:=by rw[hkk b (ao hbt)];exact u1
  have u2':S2 (g p)=some ⟨2,1,n,g2⟩:=by rw[hkk _ (hbg p hp)];exact u2
  have wz:IntKind.i64.wrap (2+(z:Int))=((2+z:Nat):Int):=dK om om;simp -dsimp only[go_sem,aa,ae,↓reduceIte,reduceCtorEq,af,ab,u1',u2',x1,x2,wz,wp,hp];have hM:=hM2.set (j:=p) (z:=((2+z:Nat):Int)) hp u2';have hTp:=hT2.upd (ao (hbg p hp)) ⟨2,1,n,bJ g2 p (.int .i64 ((2+z:Nat):Int))⟩;have hSym:(∀a c,a<n->c<n->eE A p p ((2+z:Nat):Int) a c=eE A p p ((2+z:Nat):Int) c a)/\∀a c,a<n->c<n->-9<=eE A p p ((2+z:Nat):Int) a c/\eE A p p ((2+z:Nat):Int) a c<=9:=by
   refine⟨fun a c _ _=>?_,fun a c _ _=>?_⟩
   ·have:=hC.sym a c;simp only[eE];grind
   ·have:=hC.small a c;simp only[eE];split
    ·omega
    ·exact this
  generalize eE A p p ((2+z:Nat):Int)=A at *;rcases eH ((∀k,k<=n->0<det k A)/\det n A<=10000)with hg|hg
  ·refine(ik n A om om hSym.1 hSym.2 true (by simp only[true_iff];exact hg)).spec (dO.cons hM.vr.va dO.nil) ?_
   simp -dsimp only[go_sem,aa,ae,ab];exact⟨b,g,n,A,⟨om,om,hSym.1,hg.1,hg.2,fun i hi=>(hSym.2 i i hi hi).2,hSym.2⟩,rfl,hM⟩
  ·refine(ik n A om om hSym.1 hSym.2 false (by simp only[aR,false_iff];exact hg)).spec (dO.cons hM.vr.va dO.nil) ?_
   simp -dsimp only[go_sem,aa,ae,ab];refine(eN _ b5 _ n 2 hTp om om om).mono ?_;rintro r S9 ⟨b',g',A',rfl,hM',hTp',hFr',hD',_,_⟩;simp -dsimp only[go_sem,aa];exact⟨b',g',n,A',hD'.good om om,rfl,hM'⟩
 ·simp -dsimp only[go_sem,show((((6:Nat)):Int)==0)=false from rfl,show((((6:Nat)):Int)==1)=false from rfl,show((((6:Nat)):Int)==2)=false from rfl,show((((6:Nat)):Int)==3)=false from rfl,show((((6:Nat)):Int)==4)=false from rfl,show((((6:Nat)):Int)==5)=false from rfl,show((((6:Nat)):Int)==6)=true from rfl];refine(eN _ b5 0 n 9 hT0 om om om).mono ?_;rintro r S1 ⟨b,g,A,rfl,hM,hTp,hFr,hD,hb0,hg0⟩;have hSym:(∀a c,a<n->c<n->A a c=A c a)/\∀a c,a<n->c<n->-9<=A a c/\A a c<=9:=by
   refine⟨fun a c ha hc=>?_,fun a c ha hc=>?_⟩
   ·by_cases e:a=c
    ·rw[e]
    ·rw[(hD a ha).2 c hc (ao e),(hD c hc).2 a ha e]
   ·by_cases e:c=a
    ·have:=(hD a ha).1;rw[e];omega
    ·rw[(hD a ha).2 c hc e];omega
  simp -dsimp only[go_sem,aa,ae,ab,w1,w2,w3];rcases eH ((∀k,k<=n->0<det k A)/\det n A<=10000)with hg|hg
  ·refine(ik n A om om hSym.1 hSym.2 true (by simp only[true_iff];exact hg)).spec (dO.cons hM.vr.va dO.nil) ?_
   simp -dsimp only[go_sem,aa,ae,ab];exact⟨b,g,n,A,⟨om,om,hSym.1,hg.1,hg.2,fun i hi=>(hSym.2 i i hi hi).2,hSym.2⟩,rfl,hM⟩
  ·refine(ik n A om om hSym.1 hSym.2 false (by simp only[aR,false_iff];exact hg)).spec (dO.cons hM.vr.va dO.nil) ?_
   simp -dsimp only[go_sem,aa,ae,ab];refine(eN _ b5 _ n 2 hTp om om om).mono ?_;rintro r S9 ⟨b',g',A',rfl,hM',hTp',hFr',hD',_,_⟩;simp -dsimp only[go_sem,aa];exact⟨b',g',n,A',hD'.good om om,rfl,hM'⟩
 ·simp -dsimp only[go_sem,show((((7:Nat)):Int)==0)=false from rfl,show((((7:Nat)):Int)==1)=false from rfl,show((((7:Nat)):Int)==2)=false from rfl,show((((7:Nat)):Int)==3)=false from rfl,show((((7:Nat)):Int)==4)=false from rfl,show((((7:Nat)):Int)==5)=false from rfl,show((((7:Nat)):Int)==6)=false from rfl];refine(eN _ b5 0 n 1 hT0 om om om).mono ?_;rintro r S1 ⟨b,g,A,rfl,hM,hTp,hFr,hD,hb0,hg0⟩;have hSym:(∀a c,a<n->c<n->A a c=A c a)/\∀a c,a<n->c<n->-9<=A a c/\A a c<=9:=by
   refine⟨fun a c ha hc=>?_,fun a c ha hc=>?_⟩
   ·by_cases e:a=c
    ·rw[e]
    ·rw[(hD a ha).2 c hc (ao e),(hD c hc).2 a ha e]
   ·by_cases e:c=a
    ·have:=(hD a ha).1;rw[e];omega
    ·rw[(hD a ha).2 c hc e];omega
  simp -dsimp only[go_sem,aa,ae,ab,w1,w2,w3];rcases eH ((∀k,k<=n->0<det k A)/\det n A<=10000)with hg|hg
  ·refine(ik n A om om hSym.1 hSym.2 true (by simp only[true_iff];exact hg)).spec (dO.cons hM.vr.va dO.nil) ?_
   simp -dsimp only[go_sem,aa,ae,ab];exact⟨b,g,n,A,⟨om,om,hSym.1,hg.1,hg.2,fun i hi=>(hSym.2 i i hi hi).2,hSym.2⟩,rfl,hM⟩
  ·refine(ik n A om om hSym.1 hSym.2 false (by simp only[aR,false_iff];exact hg)).spec (dO.cons hM.vr.va dO.nil) ?_
   simp -dsimp only[go_sem,aa,ae,ab];refine(eN _ b5 _ n 2 hTp om om om).mono ?_;rintro r S9 ⟨b',g',A',rfl,hM',hTp',hFr',hD',_,_⟩;simp -dsimp only[go_sem,aa];exact⟨b',g',n,A',hD'.good om om,rfl,hM'⟩
theorem Fu{a m:Int}(hm:0<m):a%m=if a.tmod m<0 then a.tmod m+m else a.tmod m:=by
 have e:=Int.mul_tdiv_add_tmod a m;have h:=qU (a:=a) (b:=m) om;split
 ·refine(nF (a:=a) (b:=m) (q:=a.tdiv m-1) (r:=a.tmod m+m) ?_ om om).2;rw[qo,ij];omega
 ·exact(nF (a:=a) (b:=m) (q:=a.tdiv m) (r:=a.tmod m) om om om).2
theorem DG{a m:Int}(hm:0<m)(hm2:m<=1000000000000):PF 35 [.int .i64 a,.int .i64 m] (.int .i64 (a%m)):=by
 refine PF.of_spec (aD func35 rfl 15 ntmps35 kr sm (by simp[results35]) ?_)
 rw[aQ,results35,Fu hm];have h:=qU (a:=a) (b:=m) om;by_cases h0:a.tmod m<0
 ·have hw:IntKind.i64.wrap (a.tmod m+m)=a.tmod m+m:=i64_in om om;simp -dsimp only[go_sem,ak,aa,↓reduceIte,reduceCtorEq,decide_true,(om:¬(m=0)),h0,hw]
  exact VR.mf rfl
 ·simp -dsimp only[go_sem,ak,aa,↓reduceIte,reduceCtorEq,decide_false,(om:¬(m=0)),h0]
  exact VR.mf rfl
theorem zn{a m:Nat}:eA (a:Int) (m:Int)=((a%m:Nat):Int):=by rw[wT]
theorem Is_pf(p:Nat)(hp:2<=p)(hp2:p<=900)(β:Bool)(hβ:β=true↔∀d,2<=d->d*d<=p->¬p%d=0):PF 240 [.int .i64 p] (.bool β):=by
 refine PF.of_spec (aD func240 rfl 21 ntmps240 kr sm (by simp[results240]) ?_)
 rw[aQ,results240];simp -dsimp only[go_sem,aa,reduceCtorEq,decide_false,(om:¬((p:Int)<2)),(om:¬((2147483647:Int)<p))]
 refine aM (fun O S=>∃d:Nat,2<=d/\d<=31/\O 0=.int .i64 p/\O 3=.int .i64 d/\∀e,2<=e->e<d->¬p%e=0) (fun O S=>32-ca (O 3)) ?_ ?_
 ·simp -dsimp only[go_sem,reduceCtorEq];exact⟨2,om,om,rfl,fun e h1 h2=>om⟩
 ·rintro O S ⟨d,hd,hd2,e0,e3,hall⟩;have hdd:d*d<=31*31:=bN hd2 hd2;have hw:IntKind.i64.wrap ((d:Int)*d)=((d*d:Nat):Int):=dK (by rw[ck]) om
  have hd0:¬((d:Int)=0):=om
  by_cases hlt:d*d<=p
  ·have hd3:d<31:=by
    rcases aI d 31 with h|h
    ·exact h
    ·have:31*31<=d*d:=bN h h;omega
   by_cases h0:p%d=0
   ·simp -dsimp only[go_sem,aa,↓reduceIte,reduceCtorEq,decide_true,ab,e0,e3,hw,ta,hlt,hd0,zn,h0,show((((0:Nat)):Int)==0)=true from rfl];have:β=false:=by
     cases β with
     | false=>rfl
     | true=>exact absurd h0 (hβ.1 rfl d hd hlt)
    rw[this];exact VR.mf rfl
   ·have h0':(((p%d:Nat):Int)==0)=false:=by simp;omega
    simp -dsimp only[go_sem,aa,↓reduceIte,reduceCtorEq,decide_true,ab,e0,e3,hw,ta,hlt,hd0,zn,h0',a6 (om:d<1000000),ca]
    refine⟨⟨d+1,om,om,rfl,fun e h1 h2=>?_⟩,om⟩
    by_cases e':e=d
    ·rw[e'];exact h0
    ·exact hall e h1 om
  ·simp -dsimp only[go_sem,aa,↓reduceIte,reduceCtorEq,decide_false,ab,e0,e3,hw,ta,hlt];have:β=true:=hβ.2 fun e h1 h2=>hall e h1 (by
    rcases aI e d with h|h
    ·exact h
    ·have:=bN h h;omega)
   rw[this];exact VR.mf rfl
def Ea(p:Nat):Prop:=2<=p/\∀d,2<=d->d*d<=p->¬p%d=0
theorem DD(p:Nat)(hp:2<=p)(hp2:p<=900)(β:Bool)(hβ:β=true↔Ea p):PF 202 [.int .i64 p] (.bool β):=by
 refine PF.of_spec (aD func202 rfl 9 ntmps202 kr sm (by simp[results202]) ?_)
 rw[aQ,results202];simp -dsimp only[go_sem,aa,ae,reduceCtorEq,decide_true,ab,show(p:Int)<=9973 by omega]
 refine(Is_pf p hp hp2 β (by rw[hβ];unfold Ea;simp[hp])).call ?_
 simp -dsimp only[go_sem,aa,reduceCtorEq,decide_true,show(p:Int)<=9973 by omega]
 exact VR.mf rfl
theorem Io(p:Nat)(hp:3<=p)(hp2:p<=900)(β:Bool)(hβ:β=true↔Ea p):PF 153 [.int .i64 p] (.bool β):=by
 refine PF.of_spec (aD func153 rfl 9 ntmps153 kr sm (by simp[results153]) ?_)
 rw[aQ,results153];have h2:((p:Int) != 2)=true:=by simp;omega
 simp -dsimp only[go_sem,aa,ae,reduceCtorEq,ab,h2];refine(DD p om hp2 β hβ).call ?_;simp -dsimp only[go_sem,aa,reduceCtorEq,h2];exact VR.mf rfl
def DM(n:Nat)(H:aW):Prop:=∀i j,i<n->j<n->((H i j).natAbs:Int)<=118098
theorem DM.nb{n:Nat}{H:aW}(h:DM n H){i j:Nat}(hi:i<n)(hj:j<n):nb (H i j) 17:=by
 have:=h i j hi hj;unfold Go.Proofs.YtdobfmlmenaajaaGreatDoor.nb;omega
theorem DM.r64{n:Nat}{H:aW}(h:DM n H){i j:Nat}(hi:i<n)(hj:j<n):In (H i j):=by
 have:=h i j hi hj;unfold In;omega
theorem Co(n:Nat)(H:aW)(h1:1<=n)(h2:n<=8)(hE:DM n H)(hd:0<det n H/\det n H<=10000):PF 31 [aN n n H] (.int .i64 (det n H)):=by
 refine PF.of_spec (aD func31 rfl 13 ntmps31 kr sm (by simp[results31]) ?_)
 rw[aQ,results31];simp -dsimp only[go_sem,aa,ae,reduceCtorEq,ab];refine(wN n n H h1 om h1 om (fun i j hi hj=>hE.r64 hi hj)).call ?_;simp -dsimp only[go_sem,aa,ae,reduceCtorEq,ab];refine(gL n H 17 h1 om (fun i j hi hj=>hE.nb hi hj) om).call ?_;simp -dsimp only[go_sem,aa,ae,reduceCtorEq,ab];refine(yp (by unfold jQ;omega)).call ?_
 simp -dsimp only[go_sem,aa,reduceCtorEq];exact VR.mf rfl
theorem Ay(n p:Nat)(H:aW)(h1:1<=n)(h2:n<=8)(hE:DM n H)(hd:0<det n H/\det n H<=10000)(hp:3<=p)(hp2:p<=900)(β:Bool)(hβ:β=true↔Ea p/\¬det n H%p=0):PF 90 [aN n n H,.int .i64 p] (.bool β):=by
 refine PF.of_spec (aD func90 rfl 14 ntmps90 kr sm (by simp[results90]) ?_)
 rw[aQ,results90];simp -dsimp only[go_sem,ak,aa,ae,reduceCtorEq,ab];rcases eH (Ea p)with hpr|hpr
 ·refine(Io p hp hp2 true (by simp[hpr])).call ?_
  simp -dsimp only[go_sem,aa,ae,reduceCtorEq,ab];refine(Co n H h1 h2 hE hd).call ?_;have ht:(det n H).tmod (p:Int)=det n H%p:=aU om;have hb:β=(det n H%(p:Int) != 0):=by
   cases β with
   | true=>have:=(hβ.1 rfl).2;simp[this]
   | false =>
    by_cases h:det n H%(p:Int)=0
    ·simp[h]
    ·exact absurd (hβ.2 ⟨hpr,h⟩) sm
  simp -dsimp only[go_sem,aa,reduceCtorEq,(om:¬((p:Int)=0)),ht]
  rw[hb];exact VR.mf rfl
 ·refine(Io p hp hp2 false (by simp[hpr])).call ?_
  simp -dsimp only[go_sem,aa,reduceCtorEq];have:β=false:=by
   cases β with
   | false=>rfl
   | true=>exact absurd (hβ.1 rfl).1 hpr
  rw[this];exact VR.mf rfl
theorem FZ(n p:Nat)(hn:n<=8)(hp:1<=p)(hp2:p<=900):PF 91 [.int .i64 n,.int .i64 p] (.bool (decide (p^n<=65536))):=by
 refine PF.of_spec (aD func91 rfl 17 ntmps91 kr sm (by simp[results91]) ?_)
 rw[aQ,results91];simp -dsimp only[go_sem,ak];refine aM (fun O S=>∃i:Nat,i<=n/\p^i<=65536/\O 0=.int .i64 n/\O 1=.int .i64 p/\O 5=.int .i64 ((p^i:Nat):Int)/\O 6=.int .i64 i) (fun O S=>n-ca (O 6)) ?_ ?_
 ·simp -dsimp only[go_sem,aa,reduceCtorEq];exact⟨0,om,sm,sm,rfl⟩
 ·rintro O S ⟨i,hi,hpi,e0,e1,e5,e6⟩;by_cases hlt:i<n
  ·have hm:p^i*p<=65536*900:=bN hpi hp2;have hw:IntKind.i64.wrap (((p^i:Nat):Int)*p)=((p^(i+1):Nat):Int):=dK (by rw[ct,ck]) (by rw[ct];omega)
   by_cases hb:p^(i+1)<=65536
   ·simp -dsimp only[go_sem,aa,↓reduceIte,reduceCtorEq,af,decide_true,decide_false,e0,e1,e5,e6,hlt,hw,(om:¬((65536:Int)<((p^(i+1):Nat):Int))),a6 (om:i<1000000),ca]
    exact⟨⟨i+1,om,hb,rfl,rfl⟩,om⟩
   ·simp -dsimp only[go_sem,aa,↓reduceIte,reduceCtorEq,af,decide_true,e0,e1,e5,e6,hlt,hw,show((65536:Int)<((p^(i+1):Nat):Int)) by omega]
    have:p^(i+1)<=p^n:=cg hp hlt;have hd:decide (p^n<=65536)=false:=by simp;omega
    rw[hd];exact VR.mf rfl
  ·obtain rfl:i=n:=om
   simp -dsimp only[go_sem,aa,↓reduceIte,reduceCtorEq,af,decide_false,e0,e1,e5,e6,hlt];have hd:decide (p^i<=65536)=true:=by simp;exact hpi
   rw[hd];exact VR.mf rfl
theorem ww{s a b m:Int}:(s%m+(a%m)*(b%m)%m)%m=(s+a*b)%m:=by
 rw[Int.add_emod s,eZ a b]
theorem BJ(n m:Nat)(H:aW)(v:Nat->Int)(hn:n<=8)(hm:1<=m)(hm2:m<=100000):PF 60 [aN n n H,bO n v,.int .i64 m] (bO n (fun i=>(aE n fun j=>H i j*v j)%m)):=by
 refine PF.of_spec (aD func60 rfl 49 ntmps60 kr sm (by simp[results60]) ?_)
 rw[aQ,results60];have hm0:¬((m:Int)=0):=om
 simp -dsimp only[go_sem,ak,reduceCtorEq,aN,bO];refine aM (fun O S=>∃(i:Nat) (x:AV),i<=n/\O 1=bO n v/\O 2=.int .i64 m/\O 7=x/\O 13=aN n n H/\O 14=.int .i64 n/\O 15=.int .i64 i/\cG 2 1 St.none S x i (fun i=>.int .i64 ((aE n fun j=>H i j*v j)%m))) (fun O S=>n-ca (O 15)) ?_ ?_
 ·simp -dsimp only[go_sem,aa,reduceCtorEq,aN,bO];exact⟨0,om,rfl,cG.nil (eJ.noneS _) _⟩
 ·rintro O S ⟨i,x,hi,e1,e2,e7,e13,e14,e15,hX⟩;by_cases hlt:i<n
  ·simp -dsimp only[go_sem,aa,↓reduceIte,af,decide_true,aN,bO,e7,e13,e14,e15,hlt];refine aM (fun O S'=>∃j:Nat,j<=n/\O 1=bO n v/\O 2=.int .i64 m/\O 7=x/\O 10=.int .i64 ((aE j fun j=>H i j*v j)%m)/\O 13=aN n n H/\O 14=.int .i64 n/\O 15=.int .i64 i/\O 19=bO n (H i)/\O 20=.int .i64 n/\O 21=.int .i64 j/\S'=S) (fun O S=>n-ca (O 21)) ?_ ?_
   ·simp -dsimp only[go_sem,aa,aN,bO,e1,e2,e7,e13,e14,e15];exact⟨0,om,by simp[aE],rfl⟩
   ·rintro O S' ⟨j,hj,e1,e2,e7,e10,e13,e14,e15,e19,e20,e21,rfl⟩;by_cases hjn:j<n
    ·have hM:(0:Int)<m:=om
     have r1:=aY (H i j) (show(m:Int)≠0 by omega)
     have r2:=aV (H i j) hM;have r3:=aY (v j) (show(m:Int)≠0 by omega)
     have r4:=aV (v j) hM;have r5:=du r1 r3;have r6:H i j%m*(v j%m)<=100000*100000:=cY om om r3 om;have w1:IntKind.i64.wrap (H i j%m*(v j%m))=H i j%m*(v j%m):=i64_in om om;have w2:eA (H i j%m*(v j%m)) m=(H i j%m*(v j%m))%m:=aU r5;have s1:=aY (aE j fun j=>H i j*v j) (show(m:Int)≠0 by omega)
     have s2:=aV (aE j fun j=>H i j*v j) hM;have s3:=aY (H i j%m*(v j%m)) (show(m:Int)≠0 by omega)
     have s4:=aV (H i j%m*(v j%m)) hM;have w3:IntKind.i64.wrap ((aE j fun j=>H i j*v j)%m+(H i j%m*(v j%m))%m)=(aE j fun j=>H i j*v j)%m+(H i j%m*(v j%m))%m:=i64_in om om;have w4:eA ((aE j fun j=>H i j*v j)%m+(H i j%m*(v j%m))%m) m=(aE (j+1) fun j=>H i j*v j)%m:=by
      rw[aU om,ww];rfl
     simp -dsimp only[go_sem,aa,↓reduceIte,reduceCtorEq,af,decide_true,aN,bO,e7,e10,e19,e20,e21,hjn];refine bM 16 kr ?_
     simp -dsimp only[go_sem,aa,ae,↓reduceIte,reduceCtorEq,af,ab,aN,bO,e1,e2,e7,e10,e13,e14,e15,e19,e20,e21,hjn];refine⟨_,(DG hM om).pure',_,(DG hM om).pure',?_⟩;simp -dsimp only[go_sem,hm0,w1,w2,w3,w4,a6 (om:j<1000000),ca]
     exact⟨⟨j+1,om,rfl,rfl⟩,om⟩
    ·obtain rfl:j=n:=om
     simp -dsimp only[go_sem,aa,↓reduceIte,reduceCtorEq,af,decide_false,aN,bO,e7,e10,e19,e20,e21,hjn];refine aH.intro fun b45 f45=>?_;simp -dsimp only[go_sem,aa,↓reduceIte,e7,e10];have hxb:=hX.fresh f45;refine cG.app2 (hX.upd (by rfl) hxb _) om (show dI 1 (.int .i64 ((aE j fun j=>H i j*v j)%m)) by simp[dI]) (bH ⟨_,_,_,rfl,bZ,rfl,fun h=>hxb _ h rfl⟩) ?_
     intro c S2 hX' hk1 hk3;simp -dsimp only[go_sem,aa,aN,bO,e1,e2,e7,e10,e13,e14,e15,a6 (om:i<1000000),ca]
     exact⟨⟨i+1,om,rfl,hX'.congr fun a ha=>by grind⟩,om⟩
  ·obtain rfl:i=n:=om
   simp -dsimp only[go_sem,aa,↓reduceIte,af,decide_false,aN,bO,e7,e13,e14,e15,hlt];exact hX.vr fun a _=>VR.mf rfl
structure iZ(n:Nat)(H:aW):Prop where
 one:1<=n
 five:n<=5
 red:Ms H n
 small:det n H<=10000
theorem F6(S:St)(d k L:Nat)(nums:Nat->Int)(Lb:Nat)(base:Nat->AV)(hd:d<256)(hk:k<256)(hnums:∀i,i<L->-128<=nums i/\nums i<=127) :
  cS 38 [Jx d k L nums Lb base,.int .i64 5] S (fun r S'=>∃n H,iZ n H/\r=aN n n H/\eJ S S'):=by
 refine aD func38 rfl 18 ntmps38 kr sm (by simp[results38]) ?_
 rw[aQ,results38];simp -dsimp only[go_sem,ak,aa,ae,↓reduceIte,reduceCtorEq,ab,Jx,dF,bG,aT,false_implies,implies_true];refine aH.intro fun b2 f2=>?_;simp -dsimp only[go_sem,ak,ae,bI,bC];refine(Ir d k L nums Lb base hd hk hnums _ _ (cH _ _)).mono ?_;rintro r S1 ⟨b,g,n,A,hA,rfl,hM⟩;obtain⟨H,T,hR,hdet,hpf⟩:=FY n A hA.one hA.five hA.sym hA.pos hA.small hA.diag;simp -dsimp only[go_sem,aa,ae,↓reduceIte,reduceCtorEq,ab];refine(wN n n A hA.one (by have:=hA.five;omega) hA.one (by have:=hA.five;omega) (fun i j hi hj=>KM (hA.ent i j hi hj))).spec (dO.cons hM.1.vr.va dO.nil) ?_
 simp -dsimp only[go_sem,aa,ae,↓reduceIte,reduceCtorEq,ab];refine hpf.call ?_;simp -dsimp only[go_sem,aa,↓reduceIte,reduceCtorEq];exact⟨n,H,⟨hA.one,hA.five,hR,by rw[hdet];exact hA.small⟩,rfl,((eJ.refl S).upd f2 _).trans hM.2.1⟩
theorem lU(n:Nat)(f g:Nat->Int)(m:Int)(h:∀i,i<n->f i%m=g i%m):aE n f%m=aE n g%m:=by
 induction n with
 | zero=>rfl
 | succ n ih =>
  simp only[aE];rw[Int.add_emod,ih (fun i hi=>h i om),h n om,<-Int.add_emod]
def fB(n:Nat)(H:aW)(v:Nat->Int)(i:Nat):Int:=aE i fun i=>(aE n fun j=>H i j*v j)*v i
theorem yw(n m:Nat)(H:aW)(v:Nat->Int)(hn:n<=8)(hm:1<=m)(hm2:m<=100000):PF 76 [aN n n H,bO n v,.int .i64 m] (.int .i64 (fB n H v n%m)):=by
 refine PF.of_spec (aD func76 rfl 36 ntmps76 kr sm (by simp[results76]) ?_)
 rw[aQ,results76];have hm0:¬((m:Int)=0):=om
 simp -dsimp only[go_sem,ak,aa,ae,reduceCtorEq,ab];refine(BJ n m H v hn hm hm2).call ?_;simp -dsimp only[go_sem,aa,reduceCtorEq,bO];refine aM (fun O S=>∃i:Nat,i<=n/\O 1=bO n v/\O 2=.int .i64 m/\O 7=.int .i64 (fB n H v i%m)/\O 13=bO n (fun i=>(aE n fun j=>H i j*v j)%m)/\O 14=.int .i64 n/\O 15=.int .i64 i) (fun O S=>n-ca (O 15)) ?_ ?_
 ·simp -dsimp only[go_sem,aa,reduceCtorEq,bO];exact⟨0,om,by simp[fB,aE],rfl⟩
 ·rintro O S ⟨i,hi,e1,e2,e7,e13,e14,e15⟩;by_cases hlt:i<n
  ·have hM:(0:Int)<m:=om
   obtain⟨s,hs⟩:∃s,s=aE n fun j=>H i j*v j:=⟨_,rfl⟩;have r1:=aY s (show(m:Int)≠0 by omega)
   have r2:=aV s hM;have r3:=aY (v i) (show(m:Int)≠0 by omega)
   have r4:=aV (v i) hM;have r5:=du r1 r3;have r6:s%m*(v i%m)<=100000*100000:=cY om om r3 om;have w1:IntKind.i64.wrap (s%m*(v i%m))=s%m*(v i%m):=i64_in om om;have w2:eA (s%m*(v i%m)) m=(s%m*(v i%m))%m:=aU r5;have s1:=aY (fB n H v i) (show(m:Int)≠0 by omega)
   have s2:=aV (fB n H v i) hM;have s3:=aY (s%m*(v i%m)) (show(m:Int)≠0 by omega)
   have s4:=aV (s%m*(v i%m)) hM;have w3:IntKind.i64.wrap (fB n H v i%m+(s%m*(v i%m))%m)=fB n H v i%m+(s%m*(v i%m))%m:=i64_in om om;have w4:eA (fB n H v i%m+(s%m*(v i%m))%m) m=fB n H v (i+1)%m:=by
    rw[aU om,ww];simp only[fB,aE,hs]
   simp -dsimp only[go_sem,aa,ae,↓reduceIte,af,decide_true,ab,bO,e1,e2,e7,e13,e14,e15,hlt];refine(DG hM om).call ?_;rw[hs]at w1 w2 w3 w4;simp -dsimp only[go_sem,aa,bO,e1,e2,e7,e13,e14,e15,hm0,w1,w2,w3,w4,a6 (om:i<1000000),ca]
   exact⟨⟨i+1,om,rfl,rfl⟩,om⟩
  ·obtain rfl:i=n:=om
   simp -dsimp only[go_sem,aa,ae,↓reduceIte,af,decide_false,ab,bO,e1,e2,e7,e13,e14,e15,hlt];exact VR.mf rfl
def ic(v:Nat->Int):Nat->Int
 | 0=>0
 | j+1=>if ic v j=0 then v j else ic v j
theorem qe(n m:Nat)(H:aW)(v:Nat->Int)(hn:n<=8)(hm:1<=m)(hm2:m<=100000)(hv:∀i,i<n->0<=v i/\v i<m):PF 75 [aN n n H,.int .i64 m,bO n v] (.bool (ic v n==1&&fB n H v n%m==0)):=by
 refine PF.of_spec (aD func75 rfl 41 ntmps75 kr sm (by simp[results75]) ?_)
 rw[aQ,results75];simp -dsimp only[go_sem,ak,aa,reduceCtorEq,bO,aN,show((n:Int) != n)=false by simp]
 refine aM (fun O S=>∃i:Nat,i<=n/\O 0=aN n n H/\O 1=.int .i64 m/\O 2=bO n v/\O 7=.int .i64 (ic v i)/\O 15=bO n v/\O 16=.int .i64 n/\O 17=.int .i64 i) (fun O S=>n-ca (O 17)) ?_ ?_
 ·simp -dsimp only[go_sem,aa,reduceCtorEq,bO,aN];exact⟨0,om,rfl,rfl⟩
 ·rintro O S ⟨i,hi,e0,e1,e2,e7,e15,e16,e17⟩;by_cases hlt:i<n
  ·have h1:=hv i hlt;by_cases h0:ic v i=0
   ·have hl:ic v (i+1)=v i:=by simp[ic,h0]
    simp -dsimp only[go_sem,aa,ae,↓reduceIte,reduceCtorEq,af,decide_true,decide_false,ab,bO,aN,e0,e1,e2,e7,e15,e16,e17,hlt,(om:¬(v i<0)),(om:¬((m:Int)<=v i)),h0,show((0:Int)==0)=true from rfl,a6 (om:i<1000000),ca]
    exact⟨⟨i+1,om,by rw[hl],rfl⟩,om⟩
   ·have hl:ic v (i+1)=ic v i:=by simp[ic,h0]
    have h0':(ic v i==0)=false:=by simp[h0]
    simp -dsimp only[go_sem,aa,ae,↓reduceIte,reduceCtorEq,af,decide_true,decide_false,ab,bO,aN,e0,e1,e2,e7,e15,e16,e17,hlt,(om:¬(v i<0)),(om:¬((m:Int)<=v i)),h0',a6 (om:i<1000000),ca]
    exact⟨⟨i+1,om,by rw[hl],rfl⟩,om⟩
  ·obtain rfl:i=n:=om
   by_cases h0:ic v i=1
   ·simp -dsimp only[go_sem,aa,ae,↓reduceIte,reduceCtorEq,af,decide_false,ab,bO,aN,e0,e1,e2,e7,e15,e16,e17,hlt,h0,show((1:Int)==1)=true from rfl];refine(yw i m H v hn hm hm2).call ?_;simp -dsimp only[go_sem,aa,reduceCtorEq,bO,aN,e0,e1,e2,e7,h0,show((1:Int)==1)=true from rfl];exact VR.mf rfl
   ·have h0':(ic v i==1)=false:=by simp[h0]
    simp -dsimp only[go_sem,aa,↓reduceIte,reduceCtorEq,af,decide_false,bO,aN,e0,e1,e2,e7,e15,e16,e17,hlt,h0'];exact VR.mf rfl
theorem lW{p:Nat}(h1:2<=p)(h2:p<25)(a:¬p%2=0∨p<4)(b:¬p%3=0∨p<9)(c:¬p%4=0∨p<16):Ea p:=by
 refine⟨h1,fun d h3 h4=>?_⟩;have:d<5:=by
  rcases aI d 5 with h|h
  ·exact h
  ·have:5*5<=d*d:=bN h h;omega
 have:d=2∨d=3∨d=4:=om
 rcases this with rfl|rfl|rfl<;>omega
def kA(D:Int)(p:Nat):Prop:=3<=p/\p%2=1/\Ea p/\¬D%p=0
open Classical in
noncomputable def gc(D:Int):Nat->Nat
 | 0=>0
 | p+1=>gc D p+if kA D p then 1 else 0
open Classical in
theorem yD(D:Int)(q:Nat)(f:Nat)(h:Ea q/\3<=q/\q%2=1){k:Nat}(hk:k<=gc D q)(hf:f=if D%q=0 then 0 else 1):k+f<=gc D (q+1):=by
 simp only[gc,kA,hf];by_cases h0:D%(q:Int)=0<;>simp[h0,h.1,h.2.1,h.2.2]<;>omega
theorem ri(D:Int){p q:Nat}(h:p<=q){k:Nat}(hk:k<=gc D p):k<=gc D q:=by
 induction q with
 | zero=>rw[show(0:Nat)=p by omega];exact hk
 | succ q ih =>
  by_cases e:p=q+1
  ·rw[<-e];exact hk
  ·exact bV (ih om) (by simp only[gc];omega)
theorem MT{D:Int}(h0:0<D)(h1:D<=10000)(a b c d e:Nat)(h2:Nat.Coprime a b)(h3:Nat.Coprime (a*b) c)(h4:Nat.Coprime (a*b*c) d)(h5:Nat.Coprime (a*b*c*d) e)(h6:10000<a*b*c*d*e) :
  ¬(D%(a:Int)=0/\D%(b:Int)=0/\D%(c:Int)=0/\D%(d:Int)=0/\D%(e:Int)=0):=by
 rintro⟨k1,k2,k3,k4,k5⟩;have t:∀{x:Nat},D%(x:Int)=0->x∣D.natAbs:=fun h=>Int.ofNat_dvd_left.1 (Int.dvd_of_emod_eq_zero h);have h7:=Nat.le_of_dvd om (h5.mul_dvd_of_dvd_of_dvd (h4.mul_dvd_of_dvd_of_dvd (h3.mul_dvd_of_dvd_of_dvd (h2.mul_dvd_of_dvd_of_dvd (t k1) (t k2)) (t k3)) (t k4)) (t k5));omega
open Classical in
theorem Jc{a b c d e f:Prop}(h1:¬(a/\b/\c/\d/\e))(h2:¬(a/\b/\c/\d/\f))(h3:¬(a/\b/\c/\e/\f))(h4:¬(a/\b/\d/\e/\f))(h5:¬(a/\c/\d/\e/\f))(h6:¬(b/\c/\d/\e/\f)){k1 k2 k3 k4 k5 k6:Nat}
  (i1:a∨1<=k1) (i2:b∨1<=k2) (i3:c∨1<=k3) (i4:d∨1<=k4) (i5:e∨1<=k5) (i6:f∨1<=k6):2<=0+k1+k2+k3+k4+k5+k6:=by
 by_cases a<;>by_cases b<;>by_cases c<;>by_cases d<;>by_cases e<;>by_cases f<;>simp_all<;>omega
theorem LW{D:Int}(h0:0<D)(h1:D<=10000):2<=gc D 18:=by
 have p3:Ea 3:=lW om om om om om;have p5:Ea 5:=lW om om om om om;have p7:Ea 7:=lW om om om om om;have p11:Ea 11:=lW om om om om om;have p13:Ea 13:=lW om om om om om;have p17:Ea 17:=lW om om om om om;have a3:=yD D 3 _ ⟨p3,om,om⟩ (Nat.zero_le _) rfl
 have a5:=yD D 5 _ ⟨p5,om,om⟩ (ri D (om:3+1<=5) a3) rfl
 have a7:=yD D 7 _ ⟨p7,om,om⟩ (ri D (om:5+1<=7) a5) rfl
 have a11:=yD D 11 _ ⟨p11,om,om⟩ (ri D (om:7+1<=11) a7) rfl
 have a13:=yD D 13 _ ⟨p13,om,om⟩ (ri D (om:11+1<=13) a11) rfl
 have a17:=yD D 17 _ ⟨p17,om,om⟩ (ri D (om:13+1<=17) a13) rfl
 refine bV ?_ a17;have t:∀q:Nat,D%(q:Int)=0∨1<=(if D%(q:Int)=0 then 0 else 1:Nat):=fun q=>by
  by_cases h:D%(q:Int)=0
  ·exact bQ h
  ·right;simp[h]
 exact Jc (MT h0 h1 3 5 7 11 13 dc dc dc dc dc) (MT h0 h1 3 5 7 11 17 dc dc dc dc dc)
  (MT h0 h1 3 5 7 13 17 dc dc dc dc dc) (MT h0 h1 3 5 11 13 17 dc dc dc dc dc)
  (MT h0 h1 3 7 11 13 17 dc dc dc dc dc) (MT h0 h1 5 7 11 13 17 dc dc dc dc dc)
  (t 3) (t 5) (t 7) (t 11) (t 13) (t 17)
theorem EA{D:Int}{p:Nat}(hp:p%2=1):gc D (p+2)=gc D (p+1):=by
 have:¬kA D (p+1):=fun h=>by have:=h.2.1;omega
 simp[gc,this]
theorem iZ.ent{n:Nat}{H:aW}(h:iZ n H):DM n H:=fun i j hi hj=>by
 have:=h.red.entry h.five hi hj;omega
theorem iZ.det{n:Nat}{H:aW}(h:iZ n H):0<det n H/\det n H<=10000:=⟨h.red.pd.2 n (ah _),h.small⟩
def gpI(D:Int)(p s:Nat):Prop:=3<=p/\p<=17/\p%2=1/\gc D p+s<=1
theorem wV(S:St)(n:Nat)(H:aW)(k:Nat)(hF:iZ n H)(hk:k<256):cS 39 [aN n n H,.int .u8 k] S (fun r S'=>∃p:Nat,kA (det n H) p/\p<=17/\r=.int .i64 p/\S'=S):=by
 refine aD func39 rfl 20 ntmps39 kr sm (by simp[results39]) ?_
 rw[aQ,results39];have hn5:=hF.five;have w2:eA (k:Int) 2=((k%2:Nat):Int):=by rw[wT]<;>rfl
 have w3:IntKind.i64.wrap ((k%2:Nat):Int)=((k%2:Nat):Int):=i64_in om om;simp -dsimp only[go_sem,ak,aa,reduceCtorEq,w2,w3,show ¬((2:Int)=0) by decide]
 have g2:=LW hF.det.1 hF.det.2;refine aM (fun O S'=>∃p s:Nat,gpI (det n H) p s/\O 0=aN n n H/\O 5=.int .i64 s/\O 6=.int .i64 p/\S'=S) (fun O S=>18-ca (O 6)) ?_ ?_
 ·simp -dsimp only[go_sem,aa,reduceCtorEq];refine⟨3,k%2,⟨om,om,om,?_⟩,rfl,rfl⟩
  have:gc (det n H) 3=0:=by simp[gc,kA]
  omega
 ·rintro O S' ⟨p,s,⟨hp3,hp17,hpo,hgc⟩,e0,e5,e6,rfl⟩;have wp:IntKind.i64.wrap ((p:Int)+2)=((p+2:Nat):Int):=dK om om;rcases eH (kA (det n H) p)with hg|hg
  ·simp -dsimp only[go_sem,aa,ae,ab,e0,e6];refine(Ay n p H hF.one om hF.ent hF.det hp3 om true (by simp only[true_iff];exact hg.2.2)).call ?_
   have hg1:gc (det n H) (p+1)=gc (det n H) p+1:=by simp[gc,hg]
   by_cases hs:s=0
   ·subst hs;simp -dsimp only[go_sem,aa,reduceCtorEq,e0,e5,e6,show((((0:Nat)):Int)==0)=true from rfl];exact⟨p,hg,hp17,rfl⟩
   ·obtain rfl:s=1:=om
    have hp15:p+2<=17:=by
     rcases aI p 16 with h|h
     ·omega
     ·obtain rfl:p=17:=om
      rw[show(17:Nat)+1=18 from rfl]at hg1;omega
    simp -dsimp only[go_sem,aa,reduceCtorEq,e0,e5,e6,show((((1:Nat)):Int)==0)=false from rfl,wp,show IntKind.i64.wrap ((((1:Nat)):Int)-1)=((0:Nat):Int)from dK om om,ca];exact⟨⟨p+2,0,⟨om,om,om,by rw[EA hpo,hg1];omega⟩,rfl,rfl⟩,om⟩
  ·simp -dsimp only[go_sem,aa,ae,ab,e0,e6];refine(Ay n p H hF.one om hF.ent hF.det hp3 om false (by simp only[aR,false_iff];exact fun h=>hg ⟨hp3,hpo,h.1,h.2⟩)).call ?_
   have hg1:gc (det n H) (p+1)=gc (det n H) p:=by simp[gc,hg]
   have hp15:p+2<=17:=by
    rcases aI p 16 with h|h
    ·omega
    ·obtain rfl:p=17:=om
     rw[show(17:Nat)+1=18 from rfl]at hg1;omega
   simp -dsimp only[go_sem,aa,reduceCtorEq,e0,e5,e6,wp,ca];exact⟨⟨p+2,s,⟨om,om,om,by rw[EA hpo,hg1];omega⟩,rfl,rfl⟩,om⟩
def mN(p:Nat)(v:Nat->Nat):Nat->Nat
 | 0=>0
 | k+1=>mN p v k*p+v k
theorem zk{p:Nat}{v:Nat->Nat}{k:Nat}(h:∀i,i<k->v i<p):mN p v k<p^k:=by
 induction k with
 | zero=>simp[mN]
 | succ k ih =>
  have h1:=ih (fun i hi=>h i om);have h2:=h k om;simp only[mN];have h3:(mN p v k+1)*p<=p^k*p:=bN h1 (ah _);rw[Nat.add_mul,kg]at h3;rw[ct];omega
theorem uM{p:Nat}{v w:Nat->Nat}{k:Nat}(h:∀i,i<k->v i=w i):mN p v k=mN p w k:=by
 induction k with
 | zero=>rfl
 | succ k ih=>simp only[mN];rw[ih (fun i hi=>h i om),h k om]
theorem sn{p:Nat}{v w:Nat->Nat}{i:Nat}(h1:∀k,k<i->w k=v k)(h2:w i=v i+1):∀n,(∀k,i<k->k<i+1+n->w k=0/\v k<p)->mN p v (i+1+n)<mN p w (i+1+n)
 | 0,_=>by
  simp only[mN];rw[uM (p:=p) h1,h2];omega
 | n+1,h=>by
  have ih:=sn h1 h2 n (fun k hk hk2=>h k hk om);have h3:=h (i+1+n) om om;rw[<-Nat.add_assoc];simp only[mN,h3.1,dd];have h4:(mN p v (i+1+n)+1)*p<=mN p w (i+1+n)*p:=bN ih (ah _);rw[Nat.add_mul,kg]at h4;omega
structure lK(n p:Nat)(H:aW)(v:Nat->Nat):Prop where
 lt:∀i,i<n->v i<p
 lead:ic (fun i=>v i) n=1
 norm:fB n H (fun i=>v i) n%p=0
structure Ct(S0 S:St)(n p:Nat)(H:aW)(j:Nat)(x:AV)(c:Nat)(g:Nat->Nat)(V:Nat->Nat->Nat)(w:Nat->Nat):Prop where
 list:cG 29 1 S0 S x j (fun i=>.sl 1 (g i) 0 n)
 rows:∀i,i<j->bE S (g i) 2 1 n (fun k=>.int .i64 (V i k))/\S0 (g i)=ac/\g i≠c
 good:∀i,i<j->lK n p H (V i)
 now:bE S c 2 1 n (fun k=>.int .i64 (w k))
 new:S0 c=ac
theorem Ct.set{S0 S:St}{n p:Nat}{H:aW}{j:Nat}{x:AV}{c:Nat}{g:Nat->Nat}{V:Nat->Nat->Nat}{w:Nat->Nat}(h:Ct S0 S n p H j x c g V w){g':Nat->AV}(hc:S c=some ⟨2,1,n,g'⟩){i z:Nat} :
  Ct S0 (S.upd c ⟨2,1,n,bJ g' i (.int .i64 z)⟩) n p H j x c g V (fun k=>if k=i then z else w k):=by
 refine⟨h.list.upd h.new (fun d hd e=>h.list.other hc om (e▸hd)) _,fun a ha=>?_,h.good,?_,h.new⟩
 ·obtain⟨h1,h2,h3⟩:=h.rows a ha;exact⟨h1.upd h3 _,h2,h3⟩
 ·refine bE.here fun k hk=>?_;obtain⟨g2,h1,h2⟩:=h.now;rw[hc]at h1;cases h1;simp only[bJ];split
  ·rfl
  ·exact h2 k hk
def digI(n p k:Nat)(v w:Nat->Nat):Prop:=k<=n/\(∀i,i<n->v i<p)/\(∀i,i<k->w i=v i)/\∀i,k<=i->i<n->w i=0
def allH(n p j:Nat)(v:Nat->Nat):Prop:=(∀i,i<n->v i<p)/\j<=mN p v n
noncomputable def LP(n p:Nat)(S:St)(x:AV):Nat:=match x with
 | .sl _ c _ _=>(match S c with
  | some X=>p^n-mN p (fun i=>ca (X.g i)) n
  | ac=>0)
 | _=>0
theorem tZ{n p c:Nat}{S:St}{w:Nat->Nat}(h:bE S c 2 1 n (fun k=>.int .i64 (w k))):LP n p S (.sl 1 c 0 n)=p^n-mN p w n:=by
 obtain⟨g,h1,h2⟩:=h;simp only[LP,h1];rw[uM (w:=w) fun i hi=>by rw[h2 i hi];simp[ca]]
def AllR(S0 S:St)(n p:Nat)(H:aW)(r:AV):Prop:=∃j c g V w,j<=65536/\Ct S0 S n p H j r c g V w
def Fx(x:AV):Nat:=match x with
 | .int _ z=>(z+1).toNat
 | _=>0
theorem yM{S:St}{c n:Nat}{w:Nat->Nat}{K:AV->St->Prop}(h:bE S c 2 1 n (fun k=>.int .i64 (w k)))(h1:0<n)(h2:n<=1000)
  (hK:∀b h',S b=ac->(∀k,k<n->h' k=.int .i64 (w k))->K (.sl 1 b 0 n) (S.upd b ⟨2,1,n,h'⟩)):eV 29 29 .nil (.sl 1 c 0 n) S K:=by
 obtain⟨g,u1,u2⟩:=h;have e1:wZ S (.sl 1 c 0 n)=some (1,n,fun j=>g (0+j),some c):=by simp[wZ,u1]
 unfold eV;rw[show c9 29=some 2 from rfl,e1];refine⟨rfl,rfl,rfl,h1,fun j hj=>?_,om,fun b hb=>hK b _ hb fun k hk=>?_⟩
 ·show dI 1 (g (0+j));rw[aF,u2 j hj];simp[dI]
 ·show g (0+k)=_;rw[aF,u2 k hk]
theorem IA(S0:St)(n p:Nat)(H:aW)(h1:1<=n)(h2:n<=8)(hp:2<=p)(hp2:p<=900)(hpn:p^n<=65536) :
  cS 92 [aN n n H,.int .i64 p] S0 (fun r S'=>AllR S0 S' n p H r):=by
 refine aD func92 rfl 48 ntmps92 kr sm (by simp[results92]) ?_
 rw[aQ,results92];simp -dsimp only[go_sem,ak,reduceCtorEq,aN]
 repeat refine an ?_
 refine aH.intro fun b10 f10=>?_;simp -dsimp only[go_sem];refine aM (fun O S=>∃j x c g V w,Ct S0 S n p H j x c g V w/\allH n p j w/\O 0=aN n n H/\O 1=.int .i64 p/\O 5=x/\O 6=.sl 1 c 0 n) (fun O S=>LP n p S (O 6)) ?_ ?_
 ·simp -dsimp only[go_sem,aa,reduceCtorEq,aN];refine⟨0,_,b10,fun _=>0,fun _ _=>0,fun _=>0,⟨cG.nil ((eJ.refl S0).upd f10 _) _,fun i hi=>om,fun i hi=>om,bE.here fun i hi=>rfl,f10⟩,⟨fun i hi=>by show 0<p;omega,om⟩,rfl,rfl⟩
 ·rintro O S ⟨j,x,c,g,V,w,hA,⟨hw,hj⟩,e0,e1,e5,e6⟩;have hvl:=zk (p:=p) hw;simp -dsimp only[go_sem,aa,ae,ab,e0,e1,e6,aN];have hI:lG S c n (fun k=>w k):=hA.now;refine(qe n p H (fun k=>w k) h2 om om (fun i hi=>by have:=hw i hi;omega)).spec (dO.same (dO.same (dO.i64s hI dO.nil))) ?_
  rcases eH (lK n p H w)with hL|hL
  ·have hb:(ic (fun k=>(w k:Int)) n==1&&fB n H (fun k=>(w k:Int)) n%(p:Int)==0)=true:=by simp only[hL.lead,hL.norm];rfl
   simp -dsimp only[go_sem,aa,↓reduceIte,e0,e1,e5,e6,aN,hb];refine yM hA.now om om ?_;intro d h' hd hh;simp -dsimp only[go_sem,aa,e5,e6];refine aH.intro fun b18 f18=>?_;have n18d:=(ai f18).1;have hdc:c≠d:=hA.now.fresh hd;simp -dsimp only[go_sem,aa,↓reduceIte,e5,e6];have hl1:=(hA.list.upd (hA.list.1.none hd) (hA.list.fresh hd) ⟨2,1,n,h'⟩);have hxb:=hl1.fresh f18;refine cG.app29 (hl1.upd (hl1.1.none f18) hxb _) om (show dI 1 (.sl 1 d 0 n) by simp[dI]) (bH ⟨_,_,_,rfl,bZ,rfl,fun h=>hxb _ h rfl⟩) ?_
   intro c' S' hX' hk1 hk3;have hA1:Ct S0 S' n p H (j+1) (.sl 1 c' 0 (j+1)) c (fun i=>if i=j then d else g i) (fun i=>if i=j then w else V i) w:=by
    have hl2:=hl1.upd (hl1.1.none f18) hxb ⟨29,1,1,fun j=>[AV.sl 1 d 0 n].getD j AV.any⟩;have keep1:∀{b:Nat} {gg:Nat->AV},bE (S.upd d ⟨2,1,n,h'⟩) b 2 1 n gg->bE S' b 2 1 n gg:=fun {b gg} hb=>by
     obtain⟨gb,q1,q2⟩:=hb.upd (hb.fresh f18) ⟨29,1,1,fun j=>[AV.sl 1 d 0 n].getD j AV.any⟩;exact⟨gb,hk1 b _ q1 (hl2.other q1 om),q2⟩
    have keep:∀{b:Nat} {gg:Nat->AV},bE S b 2 1 n gg->bE S' b 2 1 n gg:=fun {b gg} hb=>keep1 (hb.upd (hb.fresh hd) _);refine⟨hX'.congr fun i hi=>?_,fun i hi=>?_,fun i hi=>?_,keep hA.now,hA.new⟩
    ·show(if i=j then AV.sl 1 d 0 n else AV.sl 1 (g i) 0 n)=AV.sl 1 (if i=j then d else g i) 0 n
     split<;>rfl
    ·by_cases e:i=j
     ·simp only[e,if_true];exact⟨keep1 (bE.here hh),hA.list.1.none hd,ao hdc⟩
     ·simp only[e,if_false];obtain⟨q1,q2,q3⟩:=hA.rows i om;exact⟨keep q1,q2,q3⟩
    ·by_cases e:i=j
     ·simp only[e,if_true];exact hL
     ·simp only[e,if_false];exact hA.good i om
   generalize (fun i=>if i=j then d else g i)=g2 at hA1
   generalize (fun i=>if i=j then w else V i)=V2 at hA1
   have wn:IntKind.i64.wrap ((n:Int)-1)=(n:Int)-1:=i64_in om om;simp -dsimp only[go_sem,aa,e5,e6,wn];refine aM (fun O S=>∃k w',Ct S0 S n p H (j+1) (.sl 1 c' 0 (j+1)) c g2 V2 w'/\digI n p k w w'/\O 0=aN n n H/\O 1=.int .i64 p/\O 5=(.sl 1 c' 0 (j+1))/\O 6=.sl 1 c 0 n/\O 7=.int .i64 ((k:Int)-1)) (fun O S=>Fx (O 7)) ?_ ?_
   ·simp -dsimp only[go_sem,aa,reduceCtorEq,e0,e1,e6,aN];exact⟨n,w,hA1,⟨ah _,hw,fun _ _=>rfl,fun i a b=>om⟩,rfl⟩
   ·rintro O S2 ⟨k,w',hA2,⟨hk,hv,hlo,hhi⟩,e0,e1,e5,e6,e7⟩;rcases bU k with rfl|hk0
    ·simp -dsimp only[go_sem,aa,↓reduceIte,reduceCtorEq,decide_true,decide_false,ab,e0,e1,e5,e6,aN,e7,show((((0:Nat):Int)-1)<0) by decide,show ¬((0:Int)<=(((0:Nat):Int)-1)) by decide]
     exact⟨(j+1),c,_,_,_,om,hA2⟩
    ·obtain⟨i,rfl⟩:∃i,k=i+1:=⟨k-1,om⟩
     rw[show(((i+1:Nat):Int)-1)=(i:Int) by omega]at e7
     have hi:i<n:=om
     obtain⟨g',u1,u2⟩:=hA2.now;have x1:g' i=.int .i64 (w i):=by rw[u2 i hi];show AV.int .i64 (w' i:Nat)=_;rw[hlo i om]
     have wp:IntKind.i64.wrap ((p:Int)-1)=((p-1:Nat):Int):=dK om om;have hwi:=hw i hi;by_cases he:w i=p-1
     ·have hb:(((w i:Nat):Int)==((p-1:Nat):Int))=true:=by simp[he]
      have wi:IntKind.i64.wrap ((i:Int)-1)=(i:Int)-1:=i64_in om om;simp -dsimp only[go_sem,aa,↓reduceIte,reduceCtorEq,af,decide_true,ab,e0,e1,e5,e6,aN,e7,hi,u1,x1,wp,hb,wi,Fx];refine⟨⟨i,_,hA2.set u1 (i:=i) (z:=0),⟨om,hv,fun a ha=>?_,fun a ha ha2=>?_⟩,rfl⟩,om⟩
      ·show(if a=i then 0 else w' a)=w a
       rw[if_neg om,hlo a om]
      ·show(if a=i then 0 else w' a)=0
       split
       ·rfl
       ·exact hhi a om ha2
     ·have hb:(((w i:Nat):Int)==((p-1:Nat):Int))=false:=by simp;omega
      have wi:IntKind.i64.wrap ((w i:Int)+1)=((w i+1:Nat):Int):=dK om om;have hA3:=hA2.set u1 (i:=i) (z:=w i+1);have hlt:mN p w n<mN p (fun k=>if k=i then w i+1 else w' k) n:=by
       have:=sn (p:=p) (v:=w) (w:=fun k=>if k=i then w i+1 else w' k) (i:=i) (fun k hk=>by show(if k=i then w i+1 else w' k)=w k;rw[if_neg om,hlo k om]) sm (n-(i+1)) (fun k h3 h4=>⟨by show(if k=i then w i+1 else w' k)=0;rw[if_neg om,hhi k om om],hw k om⟩)
       rwa [(om:i+1+(n-(i+1))=n)]at this
      have hwp:∀a,a<n->(fun k=>if k=i then w i+1 else w' k) a<p:=fun a ha=>by
       show(if a=i then w i+1 else w' a)<p
       split
       ·omega
       ·rcases aI a (i+1)with h|h
        ·rw[hlo a h];exact hw a ha
        ·rw[hhi a h ha];omega
      have hl2:=zk (p:=p) hwp;have m1:=tZ (p:=p) hA.now;have m2:=tZ (p:=p) hA3.now;simp -dsimp only[go_sem,aa,↓reduceIte,reduceCtorEq,af,decide_true,decide_false,ab,e0,e1,e5,e6,aN,e7,hi,u1,x1,wp,hb,wi,(om:¬((i:Int)<0))]
      refine⟨⟨(j+1),_,c,_,_,_,hA3,⟨hwp,om⟩,sm⟩,?_⟩
      rw[m1,m2];omega
  ·have hb:(ic (fun k=>(w k:Int)) n==1&&fB n H (fun k=>(w k:Int)) n%(p:Int)==0)=false:=by
    simp only[Bool.and_eq_false_iff,beq_eq_false_iff_ne];exact en fun h=>hL ⟨hw,en fun h5=>h (bQ h5),en fun h5=>h (bH h5)⟩
   simp -dsimp only[go_sem,aa,↓reduceIte,e0,e1,e5,e6,aN,hb];have wn:IntKind.i64.wrap ((n:Int)-1)=(n:Int)-1:=i64_in om om;simp -dsimp only[go_sem,wn];refine aM (fun O S=>∃k w',Ct S0 S n p H j x c g V w'/\digI n p k w w'/\O 0=aN n n H/\O 1=.int .i64 p/\O 5=x/\O 6=.sl 1 c 0 n/\O 7=.int .i64 ((k:Int)-1)) (fun O S=>Fx (O 7)) ?_ ?_
   ·simp -dsimp only[go_sem,aa,reduceCtorEq,e0,e1,e5,e6,aN];exact⟨n,w,hA,⟨ah _,hw,fun _ _=>rfl,fun i a b=>om⟩,rfl⟩
   ·rintro O S2 ⟨k,w',hA2,⟨hk,hv,hlo,hhi⟩,e0,e1,e5,e6,e7⟩;rcases bU k with rfl|hk0
    ·simp -dsimp only[go_sem,aa,↓reduceIte,reduceCtorEq,decide_true,decide_false,ab,e0,e1,e5,e6,aN,e7,show((((0:Nat):Int)-1)<0) by decide,show ¬((0:Int)<=(((0:Nat):Int)-1)) by decide]
     exact⟨j,c,_,_,_,om,hA2⟩
    ·obtain⟨i,rfl⟩:∃i,k=i+1:=⟨k-1,om⟩
     rw[show(((i+1:Nat):Int)-1)=(i:Int) by omega]at e7
     have hi:i<n:=om
     obtain⟨g',u1,u2⟩:=hA2.now;have x1:g' i=.int .i64 (w i):=by rw[u2 i hi];show AV.int .i64 (w' i:Nat)=_;rw[hlo i om]
     have wp:IntKind.i64.wrap ((p:Int)-1)=((p-1:Nat):Int):=dK om om;have hwi:=hw i hi;by_cases he:w i=p-1
     ·have hb:(((w i:Nat):Int)==((p-1:Nat):Int))=true:=by simp[he]
      have wi:IntKind.i64.wrap ((i:Int)-1)=(i:Int)-1:=i64_in om om;simp -dsimp only[go_sem,aa,↓reduceIte,reduceCtorEq,af,decide_true,ab,e0,e1,e5,e6,aN,e7,hi,u1,x1,wp,hb,wi,Fx];refine⟨⟨i,_,hA2.set u1 (i:=i) (z:=0),⟨om,hv,fun a ha=>?_,fun a ha ha2=>?_⟩,rfl⟩,om⟩
      ·show(if a=i then 0 else w' a)=w a
       rw[if_neg om,hlo a om]
      ·show(if a=i then 0 else w' a)=0
       split
       ·rfl
       ·exact hhi a om ha2
     ·have hb:(((w i:Nat):Int)==((p-1:Nat):Int))=false:=by simp;omega
      have wi:IntKind.i64.wrap ((w i:Int)+1)=((w i+1:Nat):Int):=dK om om;have hA3:=hA2.set u1 (i:=i) (z:=w i+1);have hlt:mN p w n<mN p (fun k=>if k=i then w i+1 else w' k) n:=by
       have:=sn (p:=p) (v:=w) (w:=fun k=>if k=i then w i+1 else w' k) (i:=i) (fun k hk=>by show(if k=i then w i+1 else w' k)=w k;rw[if_neg om,hlo k om]) sm (n-(i+1)) (fun k h3 h4=>⟨by show(if k=i then w i+1 else w' k)=0;rw[if_neg om,hhi k om om],hw k om⟩)
       rwa [(om:i+1+(n-(i+1))=n)]at this
      have hwp:∀a,a<n->(fun k=>if k=i then w i+1 else w' k) a<p:=fun a ha=>by
       show(if a=i then w i+1 else w' a)<p
       split
       ·omega
       ·rcases aI a (i+1)with h|h
        ·rw[hlo a h];exact hw a ha
        ·rw[hhi a h ha];omega
      have hl2:=zk (p:=p) hwp;have m1:=tZ (p:=p) hA.now;have m2:=tZ (p:=p) hA3.now;simp -dsimp only[go_sem,aa,↓reduceIte,reduceCtorEq,af,decide_true,decide_false,ab,e0,e1,e5,e6,aN,e7,hi,u1,x1,wp,hb,wi,(om:¬((i:Int)<0))]
      refine⟨⟨j,_,c,_,_,_,hA3,⟨hwp,om⟩,sm⟩,?_⟩
      rw[m1,m2];omega
def LineR(S0 S:St)(n p:Nat)(H:aW)(r:AV):Prop:=eJ S0 S/\(r=.tup [.nil,.bool false]∨∃d v,r=.tup [.sl 1 d 0 n,.bool true]/\bE S d 2 1 n (fun k=>.int .i64 ((v k:Nat):Int))/\S0 d=ac/\lK n p H v)
theorem F2(S0:St)(n p t:Nat)(H:aW)(h1:1<=n)(h2:n<=8)(hp:2<=p)(hp2:p<=900)(ht:t<65536):cS 40 [aN n n H,.int .i64 p,.int .u16 t] S0 (fun r S'=>LineR S0 S' n p H r):=by
 refine aD func40 rfl 28 ntmps40 kr sm (by simp[results40]) ?_
 rw[aQ,results40];simp -dsimp only[go_sem,ak,aa,ae,reduceCtorEq,ab,aN];refine(FZ n p h2 om hp2).call ?_;by_cases hpn:p^n<=65536
 ·simp -dsimp only[go_sem,aa,ae,reduceCtorEq,decide_true,ab,hpn];refine(IA S0 n p H h1 h2 hp hp2 hpn).mono ?_;rintro r S' ⟨j,c,g,V,w,hj,hA⟩;rcases hA.list.2 with⟨rfl,rfl⟩|⟨d,hd0,rfl,g',u1,u2⟩
  ·simp -dsimp only[go_sem,aa,reduceCtorEq,show((0:Int)==0)=true from rfl];exact⟨hA.list.1,bQ rfl⟩
  ·by_cases hj0:j=0
   ·subst hj0;simp -dsimp only[go_sem,aa,↓reduceIte,reduceCtorEq,ab,u1,show((((0:Nat):Int))==0)=true from rfl];exact⟨hA.list.1,bQ rfl⟩
   ·have hb:(((j:Nat):Int)==0)=false:=by simp;omega
    have w1:IntKind.i64.wrap (t:Int)=t:=i64_in om om;have hlt:t%j<j:=eP _ om;simp -dsimp only[go_sem,aa,↓reduceIte,reduceCtorEq,af,ab,u1,hb,w1,(om:¬((j:Int)=0)),zn,hlt,u2 _ hlt]
    obtain⟨q1,q2,q3⟩:=hA.rows _ hlt;exact⟨hA.list.1,bH ⟨_,_,rfl,q1,q2,hA.good _ hlt⟩⟩
 ·simp -dsimp only[go_sem,aa,ae,reduceCtorEq,decide_false,ab,hpn];exact⟨eJ.refl _,bQ rfl⟩
structure VecI(S0 S:St)(c n:Nat)(a:Nat->Int):Prop where
 has:bE S c 2 1 n (fun k=>.int .i64 (a k))
 new:S0 c=ac
 ext:eJ S0 S
 rng:∀k,k<n->-128<=a k/\a k<=127
def VecR(S0 S:St)(n:Nat)(r:AV):Prop:=∃c a,r=.sl 1 c 0 n/\VecI S0 S c n a
def VecM(S0 S:St)(bt c n i:Nat):Prop:=(∃a,VecI S0 S c n a)/\ie S bt i/\S0 bt=ac
theorem Le(S0:St)(L n:Nat)(nums:Nat->Int)(hn:n<=8)(hnums:∀i,i<L->-128<=nums i/\nums i<=127):cS 34 [.lst 1 L (fun i=>.int .i8 (nums i)),.int .i64 n] S0 (fun r S'=>VecR S0 S' n r):=by
 refine aD func34 rfl 25 ntmps34 kr sm (by simp[results34]) ?_
 rw[aQ,results34];simp -dsimp only[go_sem,ak,aa,reduceCtorEq,bG,aT,false_implies,implies_true];refine aH.intro fun b10 f10=>?_
 repeat refine an ?_
 refine aH.intro fun b12 f12=>?_;have n12_10:=(ai f12).1;simp -dsimp only[go_sem,fE];refine aM (fun O S=>∃i:Nat,i<=n/\VecM S0 S b10 b12 n i/\O 5=.ptr 1 b10 0/\O 6=.sl 1 b12 0 n/\O 14=.int .i64 n/\O 15=.int .i64 i) (fun O S=>n-ca (O 15)) ?_ ?_
 ·simp -dsimp only[go_sem,aa];refine⟨0,om,⟨⟨fun _=>0,bE.here fun i hi=>rfl,(ai f12).2,((eJ.refl S0).upd f10 _).upd (ai f12).2 _,fun k hk=>om⟩,?_,f10⟩,rfl⟩
  exact ie.upd ⟨L,nums,0,_,bZ,rfl,rfl,ah _,hnums⟩ (ao n12_10) _
 ·rintro O S ⟨i,hi,⟨⟨a,hV⟩,hT,hbt⟩,e5,e6,e14,e15⟩;by_cases hlt:i<n
  ·simp -dsimp only[go_sem,aa,ae,↓reduceIte,af,decide_true,ab,e5,e6,e14,e15,hlt];refine(sW S b10 i hT om).mono ?_;rintro r S' ⟨z,hz,rfl,hT',hk⟩;obtain⟨g,u1,u2⟩:=hV.has;have u1':S' b12=some ⟨2,1,n,g⟩:=by rw[hk b12 n12_10];exact u1
   simp -dsimp only[go_sem,aa,↓reduceIte,reduceCtorEq,af,ab,e5,e6,e14,e15,hlt,u1',a6 (om:i<1000000),ca]
   refine⟨⟨i+1,om,⟨⟨fun k=>if k=i then z else a k,bE.here fun k hk=>?_,hV.new,?_,fun k hk=>?_⟩,hT'.upd (ao n12_10) _,hbt⟩,rfl⟩,om⟩
   ·simp only[bJ];split
    ·rfl
    ·exact u2 k hk
   ·refine eJ.upd (fun b X hX=>?_) hV.new _;have hb:b≠b10:=by rintro rfl;rw[hbt]at hX;cases hX
    rw[hk b hb];exact hV.ext b X hX
   ·show -128<=(if k=i then z else a k)/\(if k=i then z else a k)<=127
    split
    ·exact hz
    ·exact hV.rng k hk
  ·obtain rfl:i=n:=om
   simp -dsimp only[go_sem,aa,ae,↓reduceIte,af,decide_false,ab,e5,e6,e14,e15,hlt];exact⟨b12,a,rfl,hV⟩
def wo(d k L:Nat)(nums:Nat->Int)(Lb:Nat)(base:Nat->AV)(q t:Nat):AV:=.agg [.int .u8 d,.int .u8 k,.lst 1 L (fun i=>.int .i8 (nums i)),.lst 1 Lb base,.int .u8 q,.int .u16 t]
def MadeR(S0 S:St)(r:AV):Prop:=eJ S0 S/\∃n H p,iZ n H/\kA (det n H) p/\p<=17 /\
 (r=.tup [aN n n H,.int .i64 p,.nil,.bool false]∨∃d v,r=.tup [aN n n H,.int .i64 p,.sl 1 d 0 n,.bool true]/\bE S d 2 1 n (fun k=>.int .i64 ((v k:Nat):Int))/\S0 d=ac/\lK n p H v)
theorem Fj(S0:St)(d k L:Nat)(nums:Nat->Int)(Lb:Nat)(base:Nat->AV)(q t:Nat)(hd:d<256)(hk:k<256)(hq:q<256)(ht:t<65536)(hnums:∀i,i<L->-128<=nums i/\nums i<=127) :
  cS 13 [wo d k L nums Lb base q t,.int .i64 5] S0 (fun r S'=>MadeR S0 S' r):=by
 refine aD func13 rfl 32 ntmps13 kr sm (by simp[results13]) ?_
 rw[aQ,results13];simp -dsimp only[go_sem,ak,aa,ae,↓reduceIte,reduceCtorEq,ab,wo,dF,bG,aT,false_implies,implies_true];refine aH.intro fun b2 f2=>?_;simp -dsimp only[go_sem,ak,ae,bI,bC];have hu:(S0.upd b2 ⟨27,1,6,fun j=>[AV.int .u8 d,.int .u8 k,.lst 1 L (fun i=>.int .i8 (nums i)),.lst 1 Lb base,.int .u8 q,.int .u16 t].getD j .any⟩) b2=some ⟨27,1,6,fun j=>[AV.int .u8 d,.int .u8 k,.lst 1 L (fun i=>.int .i8 (nums i)),.lst 1 Lb base,.int .u8 q,.int .u16 t].getD j .any⟩:=bZ;refine(F6 _ d k L nums Lb base hd hk hnums).mono ?_;rintro r S1 ⟨n,H,hF,rfl,hE1⟩;have hu1:=hE1 _ _ hu;simp -dsimp only[go_sem,ak,aa,ae,↓reduceIte,reduceCtorEq,ab,dF,bI,bC,hu1];refine(wV S1 n H q hF hq).mono ?_;rintro r S1' ⟨p,hg,hp,rfl,rfl⟩;simp -dsimp only[go_sem,ak,aa,ae,↓reduceIte,ab,bI,bC,hu1];refine(F2 S1' n p t H hF.one (by have:=hF.five;omega) (by have:=hg.1;omega) om ht).mono ?_
 rintro r S2 ⟨hE2,hR⟩;have hE:eJ S0 S2:=(((eJ.refl S0).upd f2 _).trans hE1).trans hE2;rcases hR with rfl|⟨c,v,rfl,h1,h2,h3⟩
 ·simp -dsimp only[go_sem,aa,↓reduceIte,bI,bC];exact⟨hE,n,H,p,hF,hg,hp,bQ rfl⟩
 ·simp -dsimp only[go_sem,aa,↓reduceIte,bI,bC];exact⟨hE,n,H,p,hF,hg,hp,bH ⟨c,v,rfl,h1,(((eJ.refl S0).upd f2 _).trans hE1).none h2,h3⟩⟩
structure lI(S:St)(bp bh:Nat)(gh:Nat->Nat)(bu:Nat)(gu:Nat->Nat)(n:Nat)(H U:aW):Prop where
 pair:∃g,S bp=some ⟨183,1,2,g⟩/\g 0=.sl 1 bh 0 n/\g 1=.sl 1 bu 0 n
 h:cZ S bh gh n n H
 u:cZ S bu gu n n U
 ne:∀i j,i<n->j<n->gh i≠gu j
theorem cZ.step{S S':St}{b:Nat}{g:Nat->Nat}{n m:Nat}{A:aW}(h:cZ S b g n m A)(h1:S' b=S b)(h2:∀i,i<n->S' (g i)=S (g i)):cZ S' b g n m A :=
 ⟨h.outer.via fun X hX=>by rw[h1];exact hX,fun i hi=>bE.via (h.row i hi) fun X hX=>by rw[h2 i hi];exact hX,h.inj⟩
theorem lI.step{S S':St}{bp bh bu n:Nat}{gh gu:Nat->Nat}{H U:aW}(h:lI S bp bh gh bu gu n H U){c ty es k:Nat}{gg:Nat->AV}(hc:S c=ac∨(S c=some ⟨ty,es,k,gg⟩/\ty≠183/\ty≠59/\(∀i,i<n->gh i≠c)/\∀i,i<n->gu i≠c))(hS:∀d,d≠c->S' d=S d):lI S' bp bh gh bu gu n H U:=by
 obtain⟨g,p1,p2,p3⟩:=h.pair;obtain⟨g1,q1,_⟩:=h.h.outer;obtain⟨g2,r1,_⟩:=h.u.outer;have d1:bp≠c:=by
  rintro rfl;rcases hc with hc|⟨hc,hc2,_⟩
  ·rw[p1]at hc;cases hc
  ·rw[p1]at hc;cases hc;exact hc2 rfl
 have d2:bh≠c:=by
  rintro rfl;rcases hc with hc|⟨hc,_,hc2,_⟩
  ·rw[q1]at hc;cases hc
  ·rw[q1]at hc;cases hc;exact hc2 rfl
 have d3:bu≠c:=by
  rintro rfl;rcases hc with hc|⟨hc,_,hc2,_⟩
  ·rw[r1]at hc;cases hc
  ·rw[r1]at hc;cases hc;exact hc2 rfl
 have d4:∀i,i<n->gh i≠c:=fun i hi=>by
  rintro rfl;rcases hc with hc|⟨_,_,_,hc,_⟩
  ·obtain⟨_,s1,_⟩:=h.h.row i hi;rw[s1]at hc;cases hc
  ·exact hc i hi rfl
 have d5:∀i,i<n->gu i≠c:=fun i hi=>by
  rintro rfl;rcases hc with hc|⟨_,_,_,_,hc⟩
  ·obtain⟨_,s1,_⟩:=h.u.row i hi;rw[s1]at hc;cases hc
  ·exact hc i hi rfl
 exact⟨⟨g,by rw[hS _ d1];exact p1,p2,p3⟩,h.h.step (hS _ d2) fun i hi=>hS _ (d4 i hi),h.u.step (hS _ d3) fun i hi=>hS _ (d5 i hi),h.ne⟩
theorem ym{A:aW}{i j:Nat}{z:Int}(h:z=A i j):eE A i j z=A:=by
 funext a c;simp only[eE];split
 ·rename_i hh;rw[hh.1,hh.2];exact h
 ·rfl
theorem lI.setH{S:St}{bp bh bu n:Nat}{gh gu:Nat->Nat}{H U:aW}(h:lI S bp bh gh bu gu n H U){i j:Nat}{z:Int}{g':Nat->AV}(hi:i<n)(hS:S (gh i)=some ⟨50,2,n,g'⟩):lI (S.upd (gh i) ⟨50,2,n,bJ g' j (.big z)⟩) bp bh gh bu gu n (eE H i j z) U:=by
 obtain⟨g,p1,p2,p3⟩:=h.pair;obtain⟨g2,r1,_⟩:=h.u.outer;have d1:bp≠gh i:=by rintro rfl;rw[p1]at hS;cases hS
 have d3:bu≠gh i:=by rintro rfl;rw[r1]at hS;cases hS
 exact⟨⟨g,by rw[aP d1];exact p1,p2,p3⟩,h.h.set hi hS,h.u.step (aP d3) fun k hk=>aP (ao (h.ne i k hi hk)),h.ne⟩
theorem lI.setU{S:St}{bp bh bu n:Nat}{gh gu:Nat->Nat}{H U:aW}(h:lI S bp bh gh bu gu n H U){i j:Nat}{z:Int}{g':Nat->AV}(hi:i<n)(hS:S (gu i)=some ⟨50,2,n,g'⟩):lI (S.upd (gu i) ⟨50,2,n,bJ g' j (.big z)⟩) bp bh gh bu gu n H (eE U i j z):=by
 obtain⟨g,p1,p2,p3⟩:=h.pair;obtain⟨g2,r1,_⟩:=h.h.outer;have d1:bp≠gu i:=by rintro rfl;rw[p1]at hS;cases hS
 have d3:bh≠gu i:=by rintro rfl;rw[r1]at hS;cases hS
 exact⟨⟨g,by rw[aP d1];exact p1,p2,p3⟩,h.h.step (aP d3) fun k hk=>aP (h.ne k i hk hi),h.u.set hi hS,h.ne⟩
def Mq(S:St)(bp bh:Nat)(gh:Nat->Nat)(bu:Nat)(gu:Nat->Nat)(n:Nat)(H U:aW)(b7:Nat):Prop:=lI S bp bh gh bu gu n H U/\bE S b7 50 2 1 (fun _=>.big 0)/\(∀i,i<n->gh i≠b7)/\∀i,i<n->gu i≠b7
theorem uX(S0:St)(bp bh bu n s p:Nat)(gh gu:Nat->Nat)(H U:aW)(k:Nat)(hn:n<=8)(hs:s<n)(hp:p<n)(hk:k<=1000)(hH:∀i j,i<n->j<n->nb (H i j) k)(hU:∀i j,i<n->j<n->nb (U i j) k)(hP:lI S0 bp bh gh bu gu n H U) :
  cS 188 [.ptr 1 bp 0,.int .i64 s,.int .i64 p,.big 0] S0 (fun r S'=>lI S' bp bh gh bu gu n H U):=by
 refine g9 func188 rfl 92 ntmps188 kr sm ?_
 rw[aQ,results188];obtain⟨g,p1,p2,p3⟩:=hP.pair;simp -dsimp only[go_sem,ak,aa,↓reduceIte,reduceCtorEq,ab];refine aH.intro fun b7 f7=>?_;have hQ:Mq (S0.upd b7 ⟨50,2,1,fun _=>.big 0⟩) bp bh gh bu gu n H U b7:=by
  refine⟨hP.step (ty:=0) (es:=0) (k:=0) (gg:=fun _=>.any) (bQ f7) fun d hd=>aP hd,bE.here fun _ _=>rfl,fun i hi=>bE.fresh (hP.h.row i hi) f7,fun i hi=>bE.fresh (hP.u.row i hi) f7⟩
 generalize S0.upd b7 ⟨50,2,1,fun _=>.big 0⟩=S1 at hQ ⊢;clear p1 p2 p3 hP f7;obtain⟨g,p1,p2,p3⟩:=hQ.1.pair;have h0:nb 0 k:=by unfold nb;exact Nat.pow_pos om
 simp -dsimp only[go_sem,ae,p1,p2];refine aM (fun O S=>∃i:Nat,i<=n/\Mq S bp bh gh bu gu n H U b7/\O 0=.ptr 1 bp 0/\O 1=.int .i64 s/\O 2=.int .i64 p/\O 7=.ptr 2 b7 0/\O 14=.int .i64 n/\O 15=.int .i64 i) (fun O S=>n-ca (O 15)) ?_ ?_
 ·simp -dsimp only[go_sem,aa,reduceCtorEq];exact⟨0,om,hQ,rfl⟩
 ·clear hQ p1 p2 p3;rintro O S ⟨i,hi,hQ,e0,e1,e2,e7,e14,e15⟩;obtain⟨hP,h7,d1,d2⟩:=id hQ;obtain⟨g,p1,p2,p3⟩:=hP.pair;obtain⟨g7,q1,q2⟩:=id h7;have q3:=q2 0 om;by_cases hlt:i<n
  ·obtain⟨g1,u1,v1⟩:=hP.h.outer;obtain⟨g2,u2,v2⟩:=hP.h.row i hlt;have x1:g1 i=.sl 2 (gh i) 0 n:=v1 i hlt;have x2:g2 s=.big (H i s):=v2 s hs;have x3:g2 p=.big (H i p):=v2 p hp;simp -dsimp only[go_sem,ak,aa,↓reduceIte,reduceCtorEq,af,decide_true,ab,e0,e14,e15,hlt];refine bM 32 kr ?_
   simp -dsimp only[go_sem,aa,ae,↓reduceIte,reduceCtorEq,af,ab,e0,e1,e2,e7,e14,e15,hlt,p1,p2,u1,x1,u2,x2,x3,hs,hp,q1,q3];refine⟨_,(gM h0 (hH i p hlt hp) om).pure',_,(pN (hH i s hlt hs) (show nb (0*H i p) k by rw[oN];exact h0) om).pure',?_⟩
   have hN:=hP.setH (j:=s) (z:=H i s-0*H i p) hlt u2;rw[ym (om:H i s-0*H i p=H i s)]at hN
   simp -dsimp only[go_sem,a6 (om:i<1000000),ca]
   exact⟨⟨i+1,om,⟨hN,h7.upd (ao (d1 i hlt)) _,d1,d2⟩,rfl⟩,om⟩
  ·simp -dsimp only[go_sem,ak,aa,ae,↓reduceIte,reduceCtorEq,af,decide_false,ab,e0,e14,e15,hlt,p1,p3];refine aM (fun O S=>∃i:Nat,i<=n/\Mq S bp bh gh bu gu n H U b7/\O 0=.ptr 1 bp 0/\O 1=.int .i64 s/\O 2=.int .i64 p/\O 7=.ptr 2 b7 0/\O 55=.int .i64 n/\O 56=.int .i64 i) (fun O S=>n-ca (O 56)) ?_ ?_
   ·simp -dsimp only[go_sem,aa,reduceCtorEq,e0,e1,e2,e7];exact⟨0,om,hQ,rfl⟩
   ·clear hQ p1 p2 p3 q1 q2 q3 hP d1 d2 h7 e0 e1 e2 e7 e14 e15;rintro O S ⟨i,hi,hQ,e0,e1,e2,e7,e14,e15⟩;obtain⟨hP,h7,d1,d2⟩:=id hQ;obtain⟨g,p1,p2,p3⟩:=hP.pair;obtain⟨g7,q1,q2⟩:=id h7;have q3:=q2 0 om;by_cases hlt:i<n
    ·obtain⟨g1,u1,v1⟩:=hP.u.outer;obtain⟨g2,u2,v2⟩:=hP.u.row i hlt;have x1:g1 i=.sl 2 (gu i) 0 n:=v1 i hlt;have x2:g2 s=.big (U i s):=v2 s hs;have x3:g2 p=.big (U i p):=v2 p hp;simp -dsimp only[go_sem,aa,↓reduceIte,af,decide_true,e14,e15,hlt];refine bM 32 kr ?_
     simp -dsimp only[go_sem,aa,ae,↓reduceIte,reduceCtorEq,af,ab,e0,e1,e2,e7,e14,e15,hlt,p1,p3,u1,x1,u2,x2,x3,hs,hp,q1,q3];refine⟨_,(gM h0 (hU i p hlt hp) om).pure',_,(pN (hU i s hlt hs) (show nb (0*U i p) k by rw[oN];exact h0) om).pure',?_⟩
     have hN:=hP.setU (j:=s) (z:=U i s-0*U i p) hlt u2;rw[ym (om:U i s-0*U i p=U i s)]at hN
     simp -dsimp only[go_sem,a6 (om:i<1000000),ca]
     exact⟨⟨i+1,om,⟨hN,h7.upd (ao (d2 i hlt)) _,d1,d2⟩,rfl⟩,om⟩
    ·obtain rfl:i=n:=om
     simp -dsimp only[go_sem,aa,↓reduceIte,af,decide_false,e14,e15,hlt];exact hP
theorem zX(S0:St)(bp bh bu n r p:Nat)(gh gu:Nat->Nat)(H U:aW)(k:Nat)(hn:n<=8)(hr:r<n)(hp:p<n)(hk:k<=1000)(hH:∀i j,i<n->j<n->nb (H i j) k)(hP:lI S0 bp bh gh bu gu n H U)
  (hz:∀c,p<c->c<n->H r c=0) (hd:0<H r p):cS 187 [.ptr 1 bp 0,.int .i64 r,.int .i64 p] S0 (fun _ S'=>S'=S0):=by
 refine g9 func187 rfl 74 ntmps187 kr sm ?_
 rw[aQ,results187];obtain⟨g,p1,p2,p3⟩:=hP.pair;obtain⟨g1,u1,v1⟩:=hP.h.outer;obtain⟨g2,u2,v2⟩:=hP.h.row r hr;have x1:g1 r=.sl 2 (gh r) 0 n:=v1 r hr;have x2:g2 p=.big (H r p):=v2 p hp;simp -dsimp only[go_sem,ak,aa,reduceCtorEq,a6 (om:p<1000000)]
 refine aM (fun O S=>∃c:Nat,(p<c/\c<=n)/\S=S0/\O 0=.ptr 1 bp 0/\O 1=.int .i64 r/\O 2=.int .i64 p/\O 6=.int .i64 c) (fun O S=>n-ca (O 6)) ?_ ?_
 ·simp -dsimp only[go_sem,aa,reduceCtorEq];exact⟨p+1,om,om,rfl⟩
 ·rintro O S ⟨c,hc,rfl,e0,e1,e2,e6⟩;by_cases hlt:c<n
  ·have x3:g2 c=.big (H r c):=v2 c hlt;have h0:=hz c hc.1 hlt;simp -dsimp only[go_sem,ak,aa,ae,↓reduceIte,reduceCtorEq,af,decide_true,ab,e0,e1,e2,e6,p1,p2,p3,hlt];refine aM (fun O S'=>S'=S/\O 0=.ptr 1 bp 0/\O 1=.int .i64 r/\O 2=.int .i64 p/\O 6=.int .i64 c) (fun O S=>0) ?_ ?_
   ·simp -dsimp only[go_sem,aa,reduceCtorEq,e0,e1,e2,e6]
   ·rintro O S' ⟨rfl,e0,e1,e2,e6⟩;simp -dsimp only[go_sem,aa,ae,↓reduceIte,af,ab,e0,e1,e6,p1,p2,u1,x1,u2,x3,hlt,hr];refine(il (hH r c hr hlt) om).call ?_;simp -dsimp only[go_sem,aa,↓reduceIte,reduceCtorEq,e0,e1,e2,e6,p2,x1,x3,h0,nh,show((0:Int) != 0)=false from rfl,a6 (om:c<1000000),ca]
    exact⟨⟨c+1,om,om,rfl⟩,om⟩
  ·simp -dsimp only[go_sem,ak,aa,ae,↓reduceIte,reduceCtorEq,af,decide_false,ab,e0,e1,e2,e6,p1,p2,p3,u1,x1,u2,x2,hlt,hr,hp];refine(il (hH r p hr hp) om).call ?_;simp -dsimp only[go_sem,aa,ae,↓reduceIte,reduceCtorEq,decide_false,ab,e0,e1,e2,p2,x1,x2,cU hd,show ¬((1:Int)<0) by decide]
structure sc(n:Nat)(H:aW):Prop where
 up:∀r c,r<n->r<c->c<n->H r c=0
 pos:∀r,r<n->0<H r r
 red:∀r c,r<n->c<r->0<=H r c/\H r c<H r r
def FormR(S:St)(n:Nat)(H:aW)(r:AV):Prop:=∃bh gh bu gu,r=.tup [.sl 1 bh 0 n,.sl 1 bu 0 n,.bool true]/\cZ S bh gh n n H/\cZ S bu gu n n nQ
theorem cZ.step'{S S':St}{b:Nat}{g:Nat->Nat}{n m:Nat}{A:aW}(h:cZ S b g n m A)(he:eJ S S'):cZ S' b g n m A :=
 ⟨h.outer.via fun X hX=>he _ _ hX,fun i hi=>bE.via (h.row i hi) fun X hX=>he _ _ hX,h.inj⟩
theorem DK(n:Nat)(H:aW)(k:Nat)(h1:1<=n)(hn:n<=8)(hk:k<=1000)(hk1:1<=k)(hH:∀i j,i<n->j<n->nb (H i j) k)(hM:sc n H):cS 125 [aZ n n H] St.none (fun r S'=>FormR S' n H r):=by
 refine aD func125 rfl 99 ntmps125 kr sm (by simp[results125]) ?_
 rw[aQ,results125];have hI:∀i j,i<n->j<n->nb (nQ i j) k:=fun i j _ _=>by
  have:2^1<=2^k:=cg om hk1;unfold nb nQ;split<;>simp<;>omega
 simp -dsimp only[go_sem,aa,ae,reduceCtorEq,ab];refine(oX n n H h1 om h1 om).call ?_;simp -dsimp only[go_sem,aa,ae,reduceCtorEq,ab];refine(pB n h1 om _ _ (cH _ _)).mono ?_;rintro r S1 ⟨bu,gu,rfl,hu⟩;simp -dsimp only[go_sem,aa,ae,reduceCtorEq,ab];refine(AF n n H k om h1 om hH om _ _ (cH _ _)).mono ?_;rintro r S2 ⟨bh,gh,rfl,hh⟩;simp -dsimp only[go_sem,ak,aa,reduceCtorEq,bG,aT,false_implies,implies_true];refine aH.intro fun b31 f31=>?_;have hP:lI (S2.upd b31 ⟨183,1,2,fun j=>[AV.sl 1 bh 0 n,.sl 1 bu 0 n].getD j .any⟩) b31 bh gh bu gu n H nQ:=by
  have hu2:cZ S2 bu gu n n nQ:=hu.1.step' hh.2.1;refine⟨⟨_,bZ,rfl,rfl⟩,hh.1.step (aP (bE.fresh hh.1.outer f31)) fun i hi=>aP (bE.fresh (hh.1.row i hi) f31),hu2.step (aP (bE.fresh hu2.outer f31)) fun i hi=>aP (bE.fresh (hu2.row i hi) f31),fun i j hi hj e=>?_⟩;have e1:=hh.2.2.2 i hi;obtain⟨_,e2,_⟩:=hu.1.row j hj;rw[e,e2]at e1;cases e1
 generalize S2.upd b31 ⟨183,1,2,fun j=>[AV.sl 1 bh 0 n,.sl 1 bu 0 n].getD j .any⟩=S3 at hP ⊢;clear hu hh f31;refine aM (fun O S=>∃i:Nat,i<=n/\lI S b31 bh gh bu gu n H nQ/\O 0=aZ n n H/\O 6=.int .i64 n/\O 10=.ptr 1 b31 0/\O 11=.int .i64 i/\O 12=.int .i64 i) (fun O S=>n-ca (O 11)) ?_ ?_
 ·simp -dsimp only[go_sem,aa,reduceCtorEq];exact⟨0,om,hP,rfl,rfl⟩
 ·clear hP;rintro O S ⟨i,hi,hP,e0,e6,e10,e11,e12⟩;by_cases hlt:i<n
  ·simp -dsimp only[go_sem,aa,ae,↓reduceIte,reduceCtorEq,af,decide_true,ab,aZ,e0,e6,e10,e11,e12,hlt];refine(zX S b31 bh bu n i i gh gu H nQ k hn hlt hlt hk hH hP (fun c h2 h3=>hM.up i c hlt h2 h3) (hM.pos i hlt)).mono ?_;rintro r S' rfl;obtain⟨g,p1,p2,p3⟩:=hP.pair;obtain⟨g1,u1,v1⟩:=hP.h.outer;obtain⟨g2,u2,v2⟩:=hP.h.row i hlt;have x1:g1 i=.sl 2 (gh i) 0 n:=v1 i hlt;have x2:g2 i=.big (H i i):=v2 i hlt;simp -dsimp only[go_sem,aa,ae,↓reduceIte,af,ab,e10,e11,e12,hlt,p1,p2,u1,x1,u2,x2];refine(il (hH i i hlt hlt) om).call ?_;simp -dsimp only[go_sem,aa,↓reduceIte,reduceCtorEq,aZ,e0,e6,e10,e11,e12,p2,x1,x2,cU (hM.pos i hlt),show((1:Int)==0)=false from rfl];clear u1 v1 u2 v2 x1 x2 p1 p2 p3;refine aM (fun O S=>∃s:Nat,s<=i/\lI S b31 bh gh bu gu n H nQ/\O 0=aZ n n H/\O 6=.int .i64 n/\O 10=.ptr 1 b31 0/\O 11=.int .i64 i/\O 12=.int .i64 i/\O 13=.int .i64 s) (fun O S=>i-ca (O 13)) ?_ ?_
   ·simp -dsimp only[go_sem,aa,reduceCtorEq,aZ,e0,e6,e10,e11,e12];exact⟨0,om,hP,rfl⟩
   ·clear hP e0 e6 e10 e11 e12;rintro O S ⟨s,hs,hP,e0,e6,e10,e11,e12,e13⟩;by_cases hsi:s<i
    ·obtain⟨g,p1,p2,p3⟩:=hP.pair;obtain⟨g1,u1,v1⟩:=hP.h.outer;obtain⟨g2,u2,v2⟩:=hP.h.row i hlt;have x1:g1 i=.sl 2 (gh i) 0 n:=v1 i hlt;have x2:g2 i=.big (H i i):=v2 i hlt;have hsn:s<n:=om
     have x3:g2 s=.big (H i s):=v2 s hsn;simp -dsimp only[go_sem,aa,↓reduceIte,reduceCtorEq,af,decide_true,aZ,e0,e6,e10,e11,e12,e13,hsi];refine bM 24 kr ?_
     simp -dsimp only[go_sem,aa,ae,↓reduceIte,af,ab,e10,e11,e12,e13,hlt,p1,p2,u1,x1,u2,x2,x3,hsn];refine⟨_,(nV (hH i s hlt hsn) (hH i i hlt hlt) om (by have:=hM.pos i hlt;omega)).pure',?_⟩
     have hq:H i s/H i i=0:=Int.ediv_eq_zero_of_lt (hM.red i s hlt hsi).1 (hM.red i s hlt hsi).2;rw[hq]
     try simp -dsimp only[go_sem,ak,aa,au,ae,↓reduceIte,reduceCtorEq,af,decide_true,decide_false,az]
     refine(uX S b31 bh bu n s i gh gu H nQ k hn hsn hlt hk hH hI hP).mono ?_;intro r S' hP';simp -dsimp only[go_sem,aa,reduceCtorEq,aZ,e0,e6,e10,e11,e12,e13,a6 (om:s<1000000),ca]
     exact⟨⟨s+1,om,hP',rfl⟩,om⟩
    ·obtain rfl:s=i:=om
     simp -dsimp only[go_sem,aa,↓reduceIte,reduceCtorEq,af,decide_false,aZ,e0,e6,e10,e11,e12,e13,hsi,a6 (om:s<1000000),ca]
     exact⟨⟨s+1,om,hP,rfl,rfl⟩,om⟩
  ·obtain rfl:i=n:=om
   obtain⟨g,p1,p2,p3⟩:=hP.pair;simp -dsimp only[go_sem,aa,ae,↓reduceIte,reduceCtorEq,af,decide_false,ab,aZ,e0,e10,e11,e12,hlt];refine bM 11 kr ?_
   simp -dsimp only[go_sem,aa,ae,↓reduceIte,ab,e10,p1,p2,p3];exact⟨bh,gh,bu,gu,rfl,hP.h,hP.u⟩
theorem GC(n c:Nat)(H:aW)(k:Nat)(hn:n<=8)(hk:k<=1000)(hc:c<n)(hH:∀i j,i<n->j<n->nb (H i j) k)(hM:sc n H):PF 73 [aZ n n H,.int .i64 c] (.int .i64 c):=by
 refine PF.of_spec (aD func73 rfl 24 ntmps73 kr sm (by simp[results73]) ?_)
 rw[aQ,results73];simp -dsimp only[go_sem,ak,reduceCtorEq,aZ];refine aM (fun O S=>∃i:Nat,i<=c/\O 0=aZ n n H/\O 1=.int .i64 c/\O 7=.int .i64 n/\O 8=.int .i64 i) (fun O S=>n-ca (O 8)) ?_ ?_
 ·simp -dsimp only[go_sem,aa,reduceCtorEq,aZ];exact⟨0,om,rfl⟩
 ·rintro O S ⟨i,hi,e0,e1,e7,e8⟩;have hlt:i<n:=om
  simp -dsimp only[go_sem,aa,ae,↓reduceIte,reduceCtorEq,af,decide_true,ab,aZ,bn,e0,e1,e7,e8,hlt,hc];refine(il (hH i c hlt hc) om).call ?_;by_cases e:i=c
  ·subst e;simp -dsimp only[go_sem,aa,reduceCtorEq,aZ,bn,e0,e1,e7,e8,cU (hM.pos i hlt),show((1:Int) != 0)=true from rfl];exact VR.mf rfl
  ·simp -dsimp only[go_sem,aa,reduceCtorEq,aZ,bn,e0,e1,e7,e8,hM.up i c hlt om hc,nh,show((0:Int) != 0)=false from rfl,a6 (om:i<1000000),ca]
   exact⟨⟨i+1,om,rfl⟩,om⟩
theorem Bn{b c:Nat}{K:AV->Prop}(h:K (.sl 2 b 0 c)):jR 59 (.sl 2 b 0 c) ac (some (.int .i64 c)) ac K:=by
 refine⟨rfl,0,c,?_⟩;simp;exact h
theorem F9(n:Nat)(H:aW)(k:Nat)(h1:1<=n)(hn:n<=8)(hk:k<=1000)(hk1:1<=k)(hH:∀i j,i<n->j<n->nb (H i j) k)(hM:sc n H):PF 62 [aZ n n H] (.tup [aZ n n H,.bool true]):=by
 refine PF.of_spec (aD func62 rfl 51 ntmps62 kr sm (by simp[results62]) ?_)
 rw[aQ,results62];simp -dsimp only[go_sem,aa,ae,reduceCtorEq,ab];refine(DK n H k h1 hn hk hk1 hH hM).mono ?_;rintro r S1 ⟨bh,gh,bu,gu,rfl,hh,hu⟩;simp -dsimp only[go_sem,aa,reduceCtorEq];clear hu;have hp0:0<n:=om
 refine aM (fun O S=>∃c:Nat,c<=n/\cZ S bh gh n n H/\O 4=.sl 1 bh 0 n/\O 7=.int .i64 c) (fun O S=>n-ca (O 7)) ?_ ?_
 ·simp -dsimp only[go_sem,aa];exact⟨0,om,hh,rfl⟩
 ·clear hh;rintro O S ⟨c,hc,hh,e4,e7⟩;obtain⟨g1,u1,v1⟩:=id hh.outer;obtain⟨g2,u2,v2⟩:=id (hh.row 0 hp0);have x1:g1 0=.sl 2 (gh 0) 0 n:=v1 0 hp0;by_cases hlt:c<n
  ·simp -dsimp only[go_sem,aa,ae,↓reduceIte,af,decide_true,az,ab,e4,e7,u1,x1,hlt,hp0,show((0:Int)<(n:Int)) by omega,mp]
   refine(GC n c H k hn hk hlt hH hM).spec (dO.mat hh (dO.same dO.nil)) ?_;simp -dsimp only[go_sem,aa,↓reduceIte,af,decide_true,e4,e7,x1,hlt,a6 (om:c<1000000),ca]
   exact⟨⟨c+1,om,hh,rfl⟩,om⟩
  ·obtain rfl:c=n:=om
   simp -dsimp only[go_sem,aa,↓reduceIte,af,decide_false,az,ab,e4,e7,u1,x1,hlt,hp0,show((0:Int)<(c:Int)) by omega,mp,show(((c:Nat):Int)==0)=false by simp;omega]
   refine aM (fun O S=>∃i:Nat,i<=c/\cZ S bh gh c c H/\O 4=.sl 1 bh 0 c/\O 7=.int .i64 c/\O 36=.int .i64 c/\O 37=.int .i64 i) (fun O S=>c-ca (O 37)) ?_ ?_
   ·simp -dsimp only[go_sem,aa,e4,e7];exact⟨0,om,hh,rfl⟩
   ·clear hh u1 v1 u2 v2 x1 e4 e7;rintro O S ⟨i,hi,hh,e4,e7,e36,e37⟩;obtain⟨g1,u1,v1⟩:=id hh.outer;by_cases hlt:i<c
    ·have x1:g1 i=.sl 2 (gh i) 0 c:=v1 i hlt;obtain⟨g2,u2,v2⟩:=id (hh.row i hlt);simp -dsimp only[go_sem,aa,↓reduceIte,af,decide_true,ab,e4,e7,e36,e37,hlt,u1,x1,a6 (om:i<1000000),ca,jE,dp]
     refine Bn ?_;simp -dsimp only[go_sem];refine⟨⟨i+1,om,⟨bE.here fun a ha=>?_,fun a ha=>bE.upd (hh.row a ha) (ao (hh.outer_ne ha)) _,hh.inj⟩,rfl⟩,om⟩
     simp only[bJ];split
     ·rename_i e;rw[e]
     ·exact v1 a ha
    ·simp -dsimp only[go_sem,aa,↓reduceIte,af,decide_false,ab,e4,e7,e36,e37,hlt];exact VR.tup2 hh.vr (VR.mf rfl)
def jO(H:aW)(x:Nat->Int):Nat->Nat->Int
 | 0=>x
 | c+1=>fun i=>jO H x c i-(jO H x c c/H c c)*H i c
theorem t7{a b:Int}(hb:0<b):(a/b).natAbs<=a.natAbs:=by
 have h1:=Int.mul_ediv_add_emod a b;have h2:=aY a (om:b≠0)
 have h3:=aV a hb;rcases Int.lt_or_le (a/b) 0 with h|h
 ·have h4:(a/b)*(b-1)<=0:=Int.mul_nonpos_of_nonpos_of_nonneg om om;have h5:b*(a/b)=(a/b)*(b-1)+a/b:=by rw[qo,ij,cF];omega
  have h6:(a/b+1)*(b-1)<=0:=Int.mul_nonpos_of_nonpos_of_nonneg om om;have h7:(a/b+1)*(b-1)=(a/b)*(b-1)+(b-1):=by rw[Int.add_mul,eg]
  omega
 ·have h4:0<=(a/b)*(b-1):=du h om;have h5:b*(a/b)=(a/b)*(b-1)+a/b:=by rw[qo,ij,cF];omega
  omega
theorem zt{n:Nat}{H:aW}{x:Nat->Int}{k:Nat}(hH:∀i j,i<n->j<n->nb (H i j) k)(hM:sc n H)(hx:∀i,i<n->nb (x i) k):∀c,c<=n->∀i,i<n->nb (jO H x c i) (k+c*(k+1))
 | 0,_,i,hi=>by simp only[jO,Nat.zero_mul,dd];exact hx i hi
 | c+1,hc,i,hi=>by
  have h1:=zt hH hM hx c om i hi;have h2:=zt hH hM hx c om c om;have h3:nb (jO H x c c/H c c) (k+c*(k+1)):=h2.of_le (t7 (hM.pos c om));have h4:=h3.mul (hH i c hi om);have h5:=(h1.mono (om:k+c*(k+1)<=k+c*(k+1)+k)).sub h4
  refine h5.mono ?_;rw[Nat.add_mul,kg];omega
theorem Dv{S:St}{n:Nat}{x:Nat->Int}{K:AV->St->Prop}(h1:0<n)(h2:n<=1000)
  (hK:∀b,S b=ac->K (.sl 2 b 0 n) (S.upd b ⟨50,2,n,fun i=>.big (x i)⟩)):eV 59 59 .nil (.lst 2 n (fun i=>.big (x i))) S K:=by
 unfold eV;rw[show c9 59=some 50 from rfl];exact⟨rfl,rfl,rfl,h1,fun j hj=>trivial,om,hK⟩
def ConI(S:St)(b7 b10 n:Nat)(f:Nat->Int)(q:Int):Prop:=bE S b7 50 2 n (fun a=>.big (f a))/\dl S b10 50 2 (.big q)
theorem tL(n:Nat)(H:aW)(x:Nat->Int)(k:Nat)(h1:1<=n)(hn:n<=8)(hk:k<=1000)(hk1:1<=k)(hH:∀i j,i<n->j<n->nb (H i j) k)(hM:sc n H)(hx:∀i,i<n->nb (x i) k)(β:Bool)(hβ:β=true↔∀i,i<n->jO H x n i=0):PF 32 [aZ n n H,bn n x] (.bool β):=by
 refine PF.of_spec (aD func32 rfl 91 ntmps32 kr sm (by simp[results32]) ?_)
 rw[aQ,results32];have hB:∀c,c<=n->∀i,i<n->nb (jO H x c i) 20000:=fun c hc i hi=>(zt hH hM hx c hc i hi).mono (by have:c*(k+1)<=8*1001:=bN om om;omega)
 have hp0:0<n:=om
 have hpz:((0:Int)<(n:Int)):=om
 simp -dsimp only[go_sem,ak,aa,ae,reduceCtorEq,ab];refine(F9 n H k h1 hn hk hk1 hH hM).call ?_;simp -dsimp only[go_sem,aa,↓reduceIte,reduceCtorEq,aZ,bn,show((n:Int) != n)=false by simp]
 refine Dv hp0 om ?_;intro b7 f7;simp -dsimp only[go_sem,aa,reduceCtorEq];refine aM (fun O S=>∃c:Nat,c<=n/\bE S b7 50 2 n (fun i=>.big (jO H x c i))/\O 5=aZ n n H/\O 7=.sl 2 b7 0 n/\O 8=.int .i64 c) (fun O S=>n-ca (O 8)) ?_ ?_
 ·simp -dsimp only[go_sem,aa,aZ,bn];exact⟨0,om,bE.here fun _ _=>rfl,rfl⟩
 ·rintro O S ⟨c,hc,hX,e5,e7,e8⟩;by_cases hlt:c<n
  ·simp -dsimp only[go_sem,aa,ae,↓reduceIte,af,decide_true,az,ab,aZ,bn,e5,e7,e8,hpz,hlt,mp];refine(GC n c H k hn hk hlt hH hM).call ?_;obtain⟨g,u1,u2⟩:=id hX;have x1:g c=.big (jO H x c c):=u2 c hlt;simp -dsimp only[go_sem,aa,aZ,bn,e5,e8];refine bM 13 kr ?_
   simp -dsimp only[go_sem,aa,ae,↓reduceIte,af,ab,aZ,bn,e5,e7,e8,hlt,u1,x1];refine⟨_,(nV (hB c hc c hlt) ((hH c c hlt hlt).mono om) om (by have:=hM.pos c hlt;omega)).pure',?_⟩
   refine aH.intro fun b10 f10=>?_;have nb7:b7≠b10:=hX.fresh f10;obtain⟨q,hq⟩:∃q,jO H x c c/H c c=q:=⟨_,rfl⟩;have hqn:nb q 20000:=by rw[<-hq];exact(hB c hc c hlt).of_le (t7 (hM.pos c hlt))
   simp -dsimp only[go_sem,aa,ae,↓reduceIte,e7,hq];refine aM (fun O S'=>∃i:Nat,i<=n/\ConI S' b7 b10 n (fun a=>if a<i then jO H x (c+1) a else jO H x c a) q/\O 5=aZ n n H/\O 7=.sl 2 b7 0 n/\O 8=.int .i64 c/\O 10=.ptr 2 b10 0/\O 59=.int .i64 n/\O 60=.int .i64 i) (fun O S=>n-ca (O 60)) ?_ ?_
   ·simp -dsimp only[go_sem,aa,↓reduceIte,aZ,bn,e5,e7,e8];exact⟨0,om,⟨((hX.upd nb7 _).upd nb7 _).congr fun a ha=>by simp,dl.set⟩,rfl,rfl⟩
   ·rintro O S' ⟨i,hi,⟨hX',hV⟩,e5,e7,e8,e10,e59,e60⟩;obtain⟨g',w1,w2⟩:=id hX';obtain⟨gq,y1,y2⟩:=id hV;by_cases hin:i<n
    ·have x2:g' i=.big (jO H x c i):=by rw[w2 i hin];simp
     have hm:=(hqn.mul (hH i c hin hlt));simp -dsimp only[go_sem,aa,↓reduceIte,af,decide_true,aZ,bn,e5,e7,e8,e59,e60,hin];refine bM 17 kr ?_
     simp -dsimp only[go_sem,aa,ae,↓reduceIte,reduceCtorEq,af,ab,aZ,bn,e5,e7,e8,e10,e59,e60,hin,hlt,w1,x2,y1,y2];refine⟨_,(gM hqn ((hH i c hin hlt).mono om) om).pure',_,(pN ((hB c hc i hin).mono om) (hm.mono (om:20000+k<=21000)) om).pure',?_⟩
     simp -dsimp only[go_sem,a6 (om:i<1000000),ca]
     refine⟨⟨i+1,om,⟨bE.here fun a ha=>?_,hV.upd (ao nb7) _⟩,rfl⟩,om⟩
     simp only[bJ];by_cases e:a=i
     ·subst e;simp[jO,hq]
     ·rw[if_neg e,w2 a ha];have:(a<i+1)↔a<i:=om
      simp only[this]
    ·obtain rfl:i=n:=om
     simp -dsimp only[go_sem,aa,↓reduceIte,af,decide_false,aZ,bn,e5,e7,e8,e59,e60,hin,a6 (om:c<1000000),ca]
     exact⟨⟨c+1,om,hX'.congr fun a ha=>by simp[ha],rfl⟩,om⟩
  ·obtain rfl:c=n:=om
   simp -dsimp only[go_sem,aa,ae,↓reduceIte,af,decide_true,decide_false,az,ab,aZ,bn,e5,e7,e8,hpz,hlt,mp];refine aM (fun O S=>∃i:Nat,(i<=c/\∀a,a<i->jO H x c a=0)/\bE S b7 50 2 c (fun i=>.big (jO H x c i))/\O 81=.sl 2 b7 0 c/\O 82=.int .i64 c/\O 83=.int .i64 i) (fun O S=>c-ca (O 83)) ?_ ?_
   ·simp -dsimp only[go_sem,aa];exact⟨0,om,fun a ha=>om,hX,rfl⟩
   ·clear hX e5 e7 e8;rintro O S ⟨i,⟨hi,hz⟩,hX,e81,e82,e83⟩;obtain⟨g,u1,u2⟩:=id hX;by_cases hin:i<c
    ·have x1:g i=.big (jO H x c i):=u2 i hin;simp -dsimp only[go_sem,aa,↓reduceIte,af,decide_true,ab,e81,e82,e83,hin,u1];refine aH.intro fun b13 f13=>?_;have nb7:b7≠b13:=hX.fresh f13;simp -dsimp only[go_sem,aa,ae,↓reduceIte,ab,x1,bJ];refine(il (hB c (ah _) i hin) om).call ?_;by_cases h0:jO H x c i=0
     ·simp -dsimp only[go_sem,aa,↓reduceIte,e81,e82,e83,h0,nh,show((0:Int) != 0)=false from rfl,a6 (om:i<1000000),ca]
      refine⟨⟨i+1,om,fun a ha=>?_,(hX.upd nb7 _).upd nb7 _,rfl⟩,om⟩
      by_cases e:a=i
      ·rw[e];exact h0
      ·exact hz a om
     ·have hs:((jO H x c i).sign != 0)=true:=by simp[h0]
      simp -dsimp only[go_sem,aa,↓reduceIte,e81,e82,e83,hs];have:β=false:=by
       cases β with
       | false=>rfl
       | true=>exact absurd (hβ.1 rfl i hin) h0
      rw[this];exact VR.mf rfl
    ·obtain rfl:i=c:=om
     simp -dsimp only[go_sem,aa,↓reduceIte,af,decide_false,ab,e81,e82,e83,hin];have:β=true:=hβ.2 hz;rw[this];exact VR.mf rfl
theorem Bm{H:aW}{x:Nat->Int}:∀c i,x i=jO H x c i+aE c fun d=>(jO H x d d/H d d)*H i d
 | 0,i=>by simp[jO,aE]
 | c+1,i=>by
  have h:=Bm (H:=H) (x:=x) c i;simp only[jO,aE];omega
theorem GE{n c:Nat}{f:Nat->Int}(hc:c<n)(hz:∀d,c<d->d<n->f d=0):aE n f=aE c f+f c:=by
 induction n with
 | zero=>omega
 | succ n ih =>
  simp only[aE];by_cases e:c=n
  ·rw[e]
  ·rw[ih om (fun d h1 h2=>hz d h1 om),hz n om om];omega
theorem zr{n:Nat}{H:aW}{x y:Nat->Int}(hM:sc n H)(hx:∀i,i<n->x i=aE n fun d=>y d*H i d):∀c,c<=n->∀i,i<n->jO H x c i=(aE n fun d=>y d*H i d)-aE c fun d=>y d*H i d
 | 0,_,i,hi=>by simp only[jO,aE];rw[hx i hi];omega
 | c+1,hc,i,hi=>by
  have h1:=zr hM hx c om i hi;have h2:=zr hM hx c om c om;have h3:=GE (n:=n) (c:=c) (f:=fun d=>y d*H c d) om (fun d h4 h5=>by show y d*H c d=0;rw[hM.up c d om h4 h5,Int.mul_zero])
  have h4:jO H x c c=y c*H c c:=by rw[h2,h3];show aE c _+y c*H c c-aE c _=_;omega
  have h5:jO H x c c/H c c=y c:=by rw[h4,Int.mul_ediv_cancel _ (by have:=hM.pos c om;omega)]
  simp only[jO,aE];rw[h5,h1];omega
theorem GF{n:Nat}{H:aW}{x:Nat->Int}(hM:sc n H):(∀i,i<n->jO H x n i=0)↔∃y:Nat->Int,∀i,i<n->x i=aE n fun d=>y d*H i d:=by
 constructor
 ·intro h;exact⟨fun d=>jO H x d d/H d d,fun i hi=>by have:=Bm (H:=H) (x:=x) n i;rw[h i hi,Int.zero_add]at this;exact this⟩
 ·rintro⟨y,hy⟩ i hi;rw[zr hM hy n (ah _) i hi];omega
theorem DY{n:Nat}{f:Nat->Int}{B:Int}(h:∀i,i<n->0<=f i/\f i<=B):0<=aE n f/\aE n f<=n*B:=by
 induction n with
 | zero=>simp[aE]
 | succ n ih =>
  have h1:=ih (fun i hi=>h i om);have h2:=h n om;simp only[aE];rw[Int.natCast_add,Int.add_mul];simp only[Int.natCast_one,eg];omega
theorem mC{a b A B:Int}(ha:0<=a/\a<=A)(hb:0<=b/\b<=B):0<=a*b/\a*b<=A*B :=
 ⟨du ha.1 hb.1,cY ha.2 hb.2 hb.1 om⟩
theorem BH(n m:Nat)(r v:Nat->Int)(hn:n<=8)(hm:1<=m)(hr:∀i,i<n->0<=r i/\r i<=10000)(hv:∀i,i<n->0<=v i/\v i<=10000):PF 178 [bO n r,bO n v,.int .i64 m] (.int .i64 ((aE n fun j=>r j*v j)%m)):=by
 refine PF.of_spec (aD func178 rfl 29 ntmps178 kr sm (by simp[results178]) ?_)
 rw[aQ,results178];have hm0:¬((m:Int)=0):=om
 simp -dsimp only[go_sem,ak,aa,reduceCtorEq,bO];refine aM (fun O S=>∃i:Nat,i<=n/\O 0=bO n r/\O 2=.int .i64 m/\O 7=.int .i64 (aE i fun j=>r j*v j)/\O 10=bO n v/\O 11=.int .i64 n/\O 12=.int .i64 i) (fun O S=>n-ca (O 12)) ?_ ?_
 ·simp -dsimp only[go_sem,aa,reduceCtorEq,bO];exact⟨0,om,rfl,rfl⟩
 ·rintro O S ⟨i,hi,e0,e2,e7,e10,e11,e12⟩;have hs:=DY (n:=i) (f:=fun j=>r j*v j) (B:=10000*10000) (fun j hj=>mC (hr j om) (hv j om));have hi8:(i:Int)*(10000*10000)<=8*(10000*10000):=cj om om;by_cases hlt:i<n
  ·have h1:=mC (hr i hlt) (hv i hlt);have w1:IntKind.i64.wrap (r i*v i)=r i*v i:=i64_in om om;have w2:IntKind.i64.wrap ((aE i fun j=>r j*v j)+r i*v i)=aE (i+1) fun j=>r j*v j:=i64_in om om;simp -dsimp only[go_sem,aa,↓reduceIte,reduceCtorEq,af,decide_true,bO,e0,e2,e7,e10,e11,e12,hlt,w1,w2,a6 (om:i<1000000),ca]
   exact⟨⟨i+1,om,rfl,rfl⟩,om⟩
  ·obtain rfl:i=n:=om
   have w1:eA (aE i fun j=>r j*v j) m=(aE i fun j=>r j*v j)%m:=aU hs.1;simp -dsimp only[go_sem,aa,↓reduceIte,reduceCtorEq,af,decide_false,bO,e0,e2,e7,e10,e11,e12,hlt,hm0,w1];exact VR.mf rfl
theorem vD(n m:Nat)(A:aW)(v:Nat->Int)(hn:n<=8)(hm:1<=m)(hm2:m<=10000)(hA:∀i j,i<n->j<n->0<=A i j/\A i j<=10000)(hv:∀i,i<n->0<=v i/\v i<=10000):PF 180 [aN n n A,bO n v,.int .i64 m] (.int .i64 (fB n A v n%m)):=by
 refine PF.of_spec (aD func180 rfl 32 ntmps180 kr sm (by simp[results180]) ?_)
 rw[aQ,results180];have hm0:¬((m:Int)=0):=om
 simp -dsimp only[go_sem,ak,aa,reduceCtorEq,bO,aN];refine aM (fun O S=>∃i:Nat,i<=n/\O 0=aN n n A/\O 1=bO n v/\O 2=.int .i64 m/\O 7=.int .i64 (aE i fun i=>(aE n fun j=>A i j*v j)%m*v i)/\O 10=bO n v/\O 11=.int .i64 n/\O 12=.int .i64 i) (fun O S=>n-ca (O 12)) ?_ ?_
 ·simp -dsimp only[go_sem,aa,reduceCtorEq,bO,aN];exact⟨0,om,rfl,rfl⟩
 ·rintro O S ⟨i,hi,e0,e1,e2,e7,e10,e11,e12⟩;have hq:∀j,0<=(aE n fun k=>A j k*v k)%m/\(aE n fun k=>A j k*v k)%m<=10000:=fun j=>by
   have h1:=aY (aE n fun k=>A j k*v k) (show(m:Int)≠0 by omega)
   have h2:=aV (aE n fun k=>A j k*v k) (show(0:Int)<m by omega)
   omega
  have hs:=DY (n:=i) (f:=fun i=>(aE n fun j=>A i j*v j)%m*v i) (B:=10000*10000) (fun j hj=>mC (hq j) (hv j om));have hi8:(i:Int)*(10000*10000)<=8*(10000*10000):=cj om om;by_cases hlt:i<n
  ·have h1:=mC (hq i) (hv i hlt);have w1:IntKind.i64.wrap ((aE n fun j=>A i j*v j)%m*v i)=(aE n fun j=>A i j*v j)%m*v i:=i64_in om om;have w2:IntKind.i64.wrap ((aE i fun i=>(aE n fun j=>A i j*v j)%m*v i)+(aE n fun j=>A i j*v j)%m*v i)=aE (i+1) fun i=>(aE n fun j=>A i j*v j)%m*v i:=i64_in om om;simp -dsimp only[go_sem,aa,ae,↓reduceIte,reduceCtorEq,af,decide_true,ab,bO,aN,e0,e1,e2,e7,e10,e11,e12,hlt];refine(BH n m (A i) v hn hm (fun j hj=>hA i j hlt hj) hv).call ?_;simp -dsimp only[go_sem,aa,reduceCtorEq,bO,aN,e0,e1,e2,e7,e10,e11,e12,w1,w2,a6 (om:i<1000000),ca]
   exact⟨⟨i+1,om,rfl,rfl⟩,om⟩
  ·obtain rfl:i=n:=om
   have w1:eA (aE i fun a=>(aE i fun j=>A a j*v j)%m*v a) m=fB i A v i%m:=by
    rw[aU hs.1];unfold fB;exact lU i _ _ m fun a _=>by rw[eZ,Int.emod_emod_of_dvd _ (Int.dvd_refl _),<-eZ]
   simp -dsimp only[go_sem,aa,ae,↓reduceIte,reduceCtorEq,af,decide_false,ab,bO,aN,e0,e1,e2,e7,e10,e11,e12,hlt,hm0,w1];exact VR.mf rfl
structure eO(o e es:Nat)(S1 S:St)(b:Nat)(g:Nat->Nat)(n m k:Nat)(E:Nat->Nat->AV):Prop where
 ext:eJ S1 S
 new:S1 b=ac
 outer:bE S b o 1 n (fun i=>if i<k then .sl es (g i) 0 m else .nil)
 row:∀i,i<k->bE S (g i) e es m (E i)
 rnew:∀i,i<k->S1 (g i)=ac
 inj:∀i j,i<k->j<k->g i=g j->i=j
theorem eO.init{o e es:Nat}{S1:St}{b:Nat}(hb:S1 b=ac){n m:Nat}{z:Nat->AV}(hz:∀i,i<n->z i=.nil)(g:Nat->Nat)(E:Nat->Nat->AV):eO o e es S1 (S1.upd b ⟨o,1,n,z⟩) b g n m 0 E :=
 ⟨(eJ.refl S1).upd hb _,hb,bE.here fun i hi=>by rw[if_neg om];exact hz i hi,fun i hi=>om,fun i hi=>om,fun i j hi=>om⟩
theorem eO.ne{o e es:Nat}{S1 S:St}{b:Nat}{g:Nat->Nat}{n m k:Nat}{E:Nat->Nat->AV}(h:eO o e es S1 S b g n m k E)(hoe:o≠e){i:Nat}(hi:i<k):b≠g i:=bE.ne h.outer (h.row i hi) hoe
theorem eO.push{o e es:Nat}{S1 S:St}{b:Nat}{g:Nat->Nat}{n m k:Nat}{E:Nat->Nat->AV}(h:eO o e es S1 S b g n m k E)(hoe:o≠e){c:Nat}(hc:S c=ac){g':Nat->AV}(hS:S b=some ⟨o,1,n,g'⟩)(z:Nat->AV) :
  eO o e es S1 ((S.upd c ⟨e,es,m,z⟩).upd b ⟨o,1,n,bJ g' k (.sl es c 0 m)⟩) b (fun i=>if i=k then c else g i) n m (k+1) (fun i=>if i=k then z else E i):=by
 have hbc:b≠c:=by rintro rfl;rw[hS]at hc;cases hc
 have hc1:=h.ext.none hc;obtain⟨g2,u1,u2⟩:=h.outer;rw[hS]at u1;cases u1;refine⟨(h.ext.upd hc1 _).upd h.new _,h.new,bE.here fun i hi=>?_,fun i hi=>?_,fun i hi=>?_,fun i j hi hj e=>?_⟩
 ·have:=u2 i hi;grind [bJ]
 ·by_cases e:i=k
  ·simp only[e,if_true];exact(bE.here fun _ _=>rfl).upd (ao hbc) _
  ·simp only[e,if_false];have r1:=h.row i om;exact(r1.upd (bE.fresh r1 hc) _).upd (ao (h.ne hoe om)) _
 ·by_cases e:i=k
  ·simp only[e,if_true];exact hc1
  ·simp only[e,if_false];exact h.rnew i om
 ·by_cases e1:i=k<;>by_cases e2:j=k<;>simp only[e1,e2,if_true,if_false]at e ⊢
  ·exact absurd e.symm (bE.fresh (h.row j om) hc)
  ·exact absurd e (bE.fresh (h.row i om) hc)
  ·exact h.inj i j om om e
theorem eO.put{o e es:Nat}{S1 S:St}{b:Nat}{g:Nat->Nat}{n m k:Nat}{E:Nat->Nat->AV}(h:eO o e es S1 S b g n m k E)(hoe:o≠e){i:Nat}(hi:i<k){g':Nat->AV}(hS:S (g i)=some ⟨e,es,m,g'⟩)(j:Nat)(v:AV) :
  eO o e es S1 (S.upd (g i) ⟨e,es,m,bJ g' j v⟩) b g n m k (fun a c=>if a=i/\c=j then v else E a c):=by
 refine⟨h.ext.upd (h.rnew i hi) _,h.new,h.outer.upd (h.ne hoe hi) _,fun a ha=>?_,h.rnew,h.inj⟩;by_cases e:a=i
 ·subst e;obtain⟨g2,h1,h2⟩:=h.row a ha;rw[hS]at h1;cases h1;refine bE.here fun c hc=>?_;have:=h2 c hc;simp only[bJ]
  grind
 ·refine((h.row a ha).upd (fun e2=>e (h.inj a i ha hi e2)) _).congr fun c _=>?_;simp[e]
theorem eO.congr{o e es:Nat}{S1 S:St}{b:Nat}{g:Nat->Nat}{n m k:Nat}{E E':Nat->Nat->AV}(h:eO o e es S1 S b g n m k E)(he:∀i j,i<k->j<m->E i j=E' i j):eO o e es S1 S b g n m k E' :=
 ⟨h.ext,h.new,h.outer,fun i hi=>(h.row i hi).congr fun j hj=>he i j hi hj,h.rnew,h.inj⟩
theorem eO.imat{S1 S:St}{b:Nat}{g:Nat->Nat}{n m:Nat}{E:Nat->Nat->AV}{A:aW}(h:eO 29 2 1 S1 S b g n m n E)(he:∀i j,i<n->j<m->E i j=.int .i64 (A i j)):iY S1 S b g n m A :=
 ⟨⟨h.outer.congr fun i hi=>by rw[if_pos hi],fun i hi=>(h.row i hi).congr fun j hj=>he i j hi hj,h.inj⟩,h.ext,h.new,h.rnew⟩
theorem eO.mat{S1 S:St}{b:Nat}{g:Nat->Nat}{n m:Nat}{E:Nat->Nat->AV}{A:aW}(h:eO 59 50 2 S1 S b g n m n E)(he:∀i j,i<n->j<m->E i j=.big (A i j)):gQ S1 S b g n m A :=
 ⟨⟨h.outer.congr fun i hi=>by rw[if_pos hi],fun i hi=>(h.row i hi).congr fun j hj=>he i j hi hj,h.inj⟩,h.ext,h.new,h.rnew⟩
theorem eO.other{o e es:Nat}{S1 S:St}{b:Nat}{g:Nat->Nat}{n m k:Nat}{E:Nat->Nat->AV}(h:eO o e es S1 S b g n m k E){S':St}(hE:eJ S S'):eO o e es S1 S' b g n m k E :=
 ⟨h.ext.trans hE,h.new,hE.has h.outer,fun i hi=>hE.has (h.row i hi),h.rnew,h.inj⟩
theorem eO.upd{o e es:Nat}{S1 S:St}{b:Nat}{g:Nat->Nat}{n m k:Nat}{E:Nat->Nat->AV}(h:eO o e es S1 S b g n m k E){c:Nat}(h1:S1 c=ac)(h2:b≠c)(h3:∀i,i<k->g i≠c)(X:dH):eO o e es S1 (S.upd c X) b g n m k E :=
 ⟨h.ext.upd h1 _,h.new,h.outer.upd h2 _,fun i hi=>(h.row i hi).upd (h3 i hi) _,h.rnew,h.inj⟩
theorem CN{t e es n:Nat}(l:Nat){a:Int}{g:Nat->AV}{k:IntKind}{K:AV->Prop}(ht:c9 t=some e)(he:es=bP e)(ha:a=(l:Int))(hl:l<=n)(h:K (.lst es (n-l) (fun j=>g (l+j)))):jR t (.lst es n g) (some (.int k a)) ac ac K:=by
 unfold jR;rw[ht];exact⟨he,l,n,ha,rfl,trivial,hl,ah _,h⟩
theorem pc(m:Nat)(A:aW)(h1:1<=m)(hm:m<=8)(h0:0<A 0 0)(h00:A 0 0<65536)(hA:∀i,1<=i->i<m->2*A i 0<=A 0 0/\-2*A i 0<=A 0 0):PF 108 [aN m m A] (.bool true):=by
 refine PF.of_spec (aD func108 rfl 39 ntmps108 kr sm (by simp[results108]) ?_)
 rw[aQ,results108];have hp0:0<m:=om
 have hpz:(0:Int)<(m:Int):=om
 have c1:¬(A 0 0<=0):=om
 have c2:¬((65536:Int)<=A 0 0):=om
 simp -dsimp only[go_sem,aa,reduceCtorEq,decide_false,az,bO,aN,hpz,c1,c2,jE,dp];refine CN 1 rfl rfl rfl om ?_;simp -dsimp only[go_sem];refine aM (fun O S=>∃i:Nat,i<=m-1/\O 3=.int .i64 (A 0 0)/\O 18=.lst 1 (m-1) (fun i=>bO m (A (1+i)))/\O 19=.int .i64 ((m-1:Nat):Int)/\O 20=.int .i64 i) (fun O S=>m-ca (O 20)) ?_ ?_
 ·simp -dsimp only[go_sem,aa,bO];exact⟨0,om,rfl⟩
 ·rintro O S ⟨i,hi,e3,e18,e19,e20⟩;by_cases hlt:i<m-1
  ·obtain⟨k1,k2⟩:=hA (1+i) om om;have w1:IntKind.i64.wrap (2*A (1+i) 0)=2*A (1+i) 0:=i64_in om om;have w2:IntKind.i64.wrap (-2*A (1+i) 0)=-2*A (1+i) 0:=i64_in om om;simp -dsimp only[go_sem,aa,↓reduceIte,af,decide_true,decide_false,az,bO,e3,e18,e19,e20,hpz,hlt,w1,w2,(om:¬(A 0 0<2*A (1+i) 0)),(om:¬(A 0 0 < -2*A (1+i) 0)),a6 (om:i<1000000),ca]
   exact⟨⟨i+1,om,rfl⟩,om⟩
  ·simp -dsimp only[go_sem,aa,↓reduceIte,af,decide_false,az,bO,e3,e18,e19,e20,hlt];exact VR.mf rfl
theorem C8(n:Nat)(A:aW)(h1:1<=n)(hn:n<=8)(hs:∀i j,i<n->j<n->A i j=A j i)(hA:∀i j,i<n->j<n->-262144<A i j/\A i j<262144):PF 107 [aN n n A] (.bool true):=by
 refine PF.of_spec (aD func107 rfl 62 ntmps107 kr sm (by simp[results107]) ?_)
 rw[aQ,results107];simp -dsimp only[go_sem,aa,reduceCtorEq,decide_false,bO,aN,(om:¬((n:Int)<1)),(om:¬((8:Int)<(n:Int)))]
 refine aM (fun O S=>∃i:Nat,i<=n/\O 0=aN n n A/\O 3=.int .i64 n/\O 18=aN n n A/\O 19=.int .i64 n/\O 20=.int .i64 i) (fun O S=>n-ca (O 20)) ?_ ?_
 ·simp -dsimp only[go_sem,aa,reduceCtorEq,bO,aN];exact⟨0,om,rfl⟩
 ·rintro O S ⟨i,hi,e0,e3,e18,e19,e20⟩;by_cases hlt:i<n
  ·simp -dsimp only[go_sem,aa,↓reduceIte,reduceCtorEq,af,decide_true,bO,aN,e0,e3,e18,e19,e20,hlt,show((n:Int) != n)=false by simp,a6 (om:i<1000000),ca]
   exact⟨⟨i+1,om,rfl⟩,om⟩
  ·simp -dsimp only[go_sem,aa,↓reduceIte,reduceCtorEq,af,decide_false,bO,aN,e0,e3,e18,e19,e20,hlt];clear e3 e18 e19 e20;refine aM (fun O S=>∃i:Nat,i<=n/\O 0=aN n n A/\O 29=aN n n A/\O 30=.int .i64 n/\O 31=.int .i64 i) (fun O S=>n-ca (O 31)) ?_ ?_
   ·simp -dsimp only[go_sem,aa,reduceCtorEq,bO,aN,e0];exact⟨0,om,rfl⟩
   ·clear e0;rintro O S ⟨i,hi,e0,e29,e30,e31⟩;by_cases hlt:i<n
    ·simp -dsimp only[go_sem,aa,↓reduceIte,af,decide_true,bO,aN,e29,e30,e31,hlt];refine aM (fun O S=>∃j:Nat,j<=n/\O 0=aN n n A/\O 6=.int .i64 i/\O 29=aN n n A/\O 30=.int .i64 n/\O 31=.int .i64 i/\O 36=bO n (A i)/\O 37=.int .i64 n/\O 38=.int .i64 j) (fun O S=>n-ca (O 38)) ?_ ?_
     ·simp -dsimp only[go_sem,aa,reduceCtorEq,bO,aN,e0,e29,e30,e31];exact⟨0,om,rfl⟩
     ·clear e0 e29 e30 e31;rintro O S ⟨j,hj,e0,e6,e29,e30,e31,e36,e37,e38⟩;by_cases hjt:j<n
      ·have k1:=hA i j hlt hjt;have k2:=hs i j hlt hjt;simp -dsimp only[go_sem,aa,↓reduceIte,reduceCtorEq,af,decide_true,decide_false,bO,aN,e0,e6,e29,e30,e31,e36,e37,e38,hlt,hjt,show(A i j != A j i)=false by rw[k2];simp,(om:¬(A i j<=-262144)),(om:¬((262144:Int)<=A i j)),a6 (om:j<1000000),ca]
       exact⟨⟨j+1,om,rfl⟩,om⟩
      ·simp -dsimp only[go_sem,aa,↓reduceIte,reduceCtorEq,af,decide_false,bO,aN,e0,e6,e29,e30,e31,e36,e37,e38,hlt,hjt,a6 (om:i<1000000),ca]
       exact⟨⟨i+1,om,rfl⟩,om⟩
    ·simp -dsimp only[go_sem,aa,↓reduceIte,af,decide_false,bO,aN,e29,e30,e31,hlt];exact VR.mf rfl
theorem qS(n m:Nat)(A:aW)(h1:1<=n)(h2:n<=16)(h3:1<=m)(h4:m<=16):PF 223 [aN n m A] (.bool true):=by
 refine PF.of_spec (aD func223 rfl 41 ntmps223 kr sm (by simp[results223]) ?_)
 rw[aQ,results223];have hp0:0<n:=om
 have hpz:(0:Int)<(n:Int):=om
 simp -dsimp only[go_sem,aa,reduceCtorEq,decide_false,az,bO,aN,hpz,(om:¬((n:Int)<1)),(om:¬((16:Int)<(n:Int))),(om:¬((m:Int)<1)),(om:¬((16:Int)<(m:Int)))]
 refine aM (fun O S=>∃i:Nat,i<=n/\O 0=aN n m A/\O 27=aN n m A/\O 28=.int .i64 n/\O 29=.int .i64 i) (fun O S=>n-ca (O 29)) ?_ ?_
 ·simp -dsimp only[go_sem,aa,reduceCtorEq,bO,aN];exact⟨0,om,rfl⟩
 ·rintro O S ⟨i,hi,e0,e27,e28,e29⟩;by_cases hlt:i<n
  ·simp -dsimp only[go_sem,aa,↓reduceIte,reduceCtorEq,af,decide_true,az,bO,aN,e0,e27,e28,e29,hpz,hlt,show((m:Int) != m)=false by simp,a6 (om:i<1000000),ca]
   exact⟨⟨i+1,om,rfl⟩,om⟩
  ·simp -dsimp only[go_sem,aa,↓reduceIte,reduceCtorEq,af,decide_false,az,bO,aN,e0,e27,e28,e29,hlt];exact VR.mf rfl
theorem jM(m:Int)(h1:2<=m)(h2:m<=2147483647):PF 224 [.int .i64 m] (.int .i64 0):=by
 refine PF.of_spec (aD func224 rfl 9 ntmps224 kr sm (by simp[results224]) ?_)
 rw[aQ,results224];simp -dsimp only[go_sem,aa,reduceCtorEq,decide_false,(om:¬(m<2)),(om:¬((2147483647:Int)<m))]
 exact VR.mf rfl
theorem tn(n:Nat)(A:aW)(h1:1<=n)(h2:n<=8):PF 226 [aN n n A] (.bool true):=by
 refine PF.of_spec (aD func226 rfl 19 ntmps226 kr sm (by simp[results226]) ?_)
 rw[aQ,results226];have hp0:0<n:=om
 have hpz:(0:Int)<(n:Int):=om
 simp -dsimp only[go_sem,aa,ae,reduceCtorEq,ab];refine(qS n n A h1 om h1 om).call ?_;simp -dsimp only[go_sem,aa,reduceCtorEq,decide_true,az,bO,aN,hpz,show((n:Int)<=8) by omega,show((n:Int)==n)=true by simp]
 exact VR.mf rfl
theorem Bg{x m:Int}(hm:1<=m)(hm2:m<=2147483647):IntKind.i64.wrap (eA x m+m)=eA x m+m/\eA (eA x m+m) m=x%m:=by
 have h1:eA x m<m:=Int.tmod_lt_of_pos x om;have h2:-m<eA x m:=by
  have:=Int.tmod_lt_of_pos (-x) (om:0<m)
  rw[Int.neg_tmod]at this;omega
 have h3:eA (eA x m+m) m=x%m:=by
  rw[aU om,Int.add_emod_right];have h4:x=m*iu x m+eA x m:=(Int.mul_tdiv_add_tmod x m).symm;have h5:x%m=(eA x m+m*iu x m)%m:=by rw[<-(om:x=eA x m+m*iu x m)]
  rw[h5,Int.add_mul_emod_self_left]
 have h6:=aY x (om:m≠0)
 have h7:=aV x (om:0<m)
 exact⟨i64_in om om,h3⟩
def kq(A:aW)(m:Int):aW:=fun i j=>A i j%m
theorem lm(n k:Nat)(A:aW)(m:Int)(hn:n<=16)(hk:k<=16)(hm:1<=m)(hm2:m<=2147483647):F5 225 [aN n k A,.int .i64 m] n k (kq A m):=by
 refine F5.of ?_;refine aD func225 rfl 49 ntmps225 kr sm (by simp[results225]) ?_
 rw[aQ,results225];have hm0:¬(m=0):=om
 simp -dsimp only[go_sem,ak,reduceCtorEq,bO,aN]
 repeat refine an ?_
 refine aH.intro fun bc fc=>?_;simp -dsimp only[go_sem];refine aM (fun O S'=>∃i:Nat,i<=n/\O 1=.int .i64 m/\O 5=.sl 1 bc 0 n/\O 13=aN n k A/\O 14=.int .i64 n/\O 15=.int .i64 i/\∃g',eO 29 2 1 St.none S' bc g' n k i (fun a j=>.int .i64 (kq A m a j))) (fun O S=>n-ca (O 15)) ?_ ?_
 ·simp -dsimp only[go_sem,aa,reduceCtorEq,bO,aN];exact⟨0,om,rfl,fun _=>0,eO.init fc (fun _ _=>rfl) _ _⟩
 ·rintro O S' ⟨i,hi,e1,e5,e13,e14,e15,g',hR⟩;by_cases hit:i<n
  ·obtain⟨g4,u4,v4⟩:=id hR.outer;simp -dsimp only[go_sem,aa,↓reduceIte,af,decide_true,ab,aN,bO,e5,e13,e14,e15,hit]
   repeat refine an ?_
   refine aH.intro fun bd fd=>?_;have hdc:bc≠bd:=bE.fresh hR.outer fd;simp -dsimp only[go_sem,hit,u4,hdc];have hR1:=hR.push dc fd u4 (fun _=>.int .i64 0)
   generalize hgg:(fun a=>if a=i then bd else g' a)=gg at hR1
   refine aM (fun O S'=>∃j:Nat,j<=k/\O 1=.int .i64 m/\O 5=.sl 1 bc 0 n/\O 6=.int .i64 i/\O 13=aN n k A/\O 14=.int .i64 n/\O 15=.int .i64 i/\O 26=bO k (A i)/\O 27=.int .i64 k/\O 28=.int .i64 j/\eO 29 2 1 St.none S' bc gg n k (i+1) (fun a c=>.int .i64 (if a=i/\j<=c then 0 else kq A m a c))) (fun O S=>k-ca (O 28)) ?_ ?_
   ·simp -dsimp only[go_sem,aa,aN,bO,e1,e5,e13,e14,e15];refine⟨0,om,rfl,hR1.congr fun a c _ _=>?_⟩
    by_cases e:a=i
    ·simp[e]
    ·simp[e]
   ·clear e1 e5 e13 e14 e15 hR hR1 u4 v4 hgg;rintro O S' ⟨j,hj,e1,e5,e6,e13,e14,e15,e26,e27,e28,hR⟩;by_cases hjt:j<k
    ·obtain⟨g4,u4,v4⟩:=id hR.outer;obtain⟨g5,u5,v5⟩:=id (hR.row i om);have x4:g4 i=.sl 1 (gg i) 0 k:=(v4 i hit).trans (if_pos om);obtain⟨q1,q2⟩:=Bg (x:=A i j) hm hm2;simp -dsimp only[go_sem,aa,↓reduceIte,af,decide_true,aN,bO,e1,e5,e13,e14,e15,e26,e27,e28,hjt];refine bM 13 kr ?_
     simp -dsimp only[go_sem,aa,↓reduceIte,reduceCtorEq,af,ab,aN,bO,e1,e5,e6,e13,e14,e15,e26,e27,e28,hit,hjt,u4,x4,u5,hm0,q1,q2,a6 (om:j<1000000),ca]
     refine⟨⟨j+1,om,rfl,(hR.put dc (om:i<i+1) u5 j (.int .i64 (kq A m i j))).congr fun a c _ _=>?_⟩,om⟩
     by_cases e:a=i/\c=j
     ·obtain⟨rfl,rfl⟩:=e;rw[if_pos ⟨rfl,rfl⟩,if_neg om]
     ·rw[if_neg e];congr 1;by_cases e2:a=i/\j<=c
      ·rw[if_pos e2,if_pos om]
      ·rw[if_neg e2,if_neg om]
    ·simp -dsimp only[go_sem,aa,↓reduceIte,af,decide_false,aN,bO,e1,e5,e13,e14,e15,e26,e27,e28,hjt,a6 (om:i<1000000),ca]
     exact⟨⟨i+1,om,rfl,gg,hR.congr fun a c _ hc=>by rw[if_neg om]⟩,om⟩
  ·obtain rfl:i=n:=om
   have hN:=hR.imat (A:=kq A m) (fun _ _ _ _=>rfl);simp -dsimp only[go_sem,aa,↓reduceIte,af,decide_false,ab,aN,bO,e5,e13,e14,e15,hit];exact⟨bc,rfl,g',hN.1⟩
def xO(f:Nat)(args:List AV)(n m:Nat)(A:Nat->Nat->Int):Prop:=∀S args',dO S args' args->cS f args' S (fun r S'=>∃b g,r=.tup [.sl 1 b 0 n,.int .i64 0]/\iY S S' b g n m A)
theorem xO.of{f:Nat}{args:List AV}{n m:Nat}{A:Nat->Nat->Int}(h:cS f args St.none (fun r S'=>∃b g,r=.tup [.sl 1 b 0 n,.int .i64 0]/\dR S' b g n m A)):xO f args n m A:=fun S args' hv=>by
 have h1:cS f args St.none (fun r S'=>∃b g,r=.tup [.sl 1 b 0 n,.int .i64 0]/\dR S' b g n m A/\F8 S'):=h.less fun r S' ⟨b,g,e,hm⟩=>⟨fW S' b g n,ja S' b g n,b,g,e,hm.only.1,hm.only.2⟩;refine(h1.frame hv ?_).mono ?_
 ·rintro r S1 ⟨b,g,rfl,_,hc⟩;exact⟨rfl,hc⟩
 ·rintro r S' ⟨S1,⟨b,g,rfl,hm,_⟩,hd,rfl⟩;exact⟨b,g,rfl,hm.join hd⟩
theorem xO.pf{f:Nat}{args:List AV}{n m:Nat}{A:Nat->Nat->Int}(h:xO f args n m A):PF f args (.tup [aN n m A,.int .i64 0]) :=
 PF.of_spec ((h St.none args (cH _ _)).mono fun _ _ ⟨_,_,e,h⟩=>e▸VR.tup2 h.vr (VR.mf rfl))
theorem tJ(n k:Nat)(A:aW)(m:Int)(h1:1<=n)(h2:n<=16)(h3:1<=k)(h4:k<=16)(hm:2<=m)(hm2:m<=2147483647):xO 176 [aN n k A,.int .i64 m] n k (kq A m):=by
 refine xO.of ?_;refine aD func176 rfl 18 ntmps176 kr sm (by simp[results176]) ?_
 rw[aQ,results176];simp -dsimp only[go_sem,ak,aa,ae,reduceCtorEq,ab];refine(qS n k A h1 h2 h3 h4).call ?_;simp -dsimp only[go_sem,aa,ae,reduceCtorEq,ab];refine(jM m hm hm2).call ?_;simp -dsimp only[go_sem,aa,ae,reduceCtorEq,ab];refine(lm n k A m h2 h4 om hm2 _ _ (cH _ _)).mono ?_;rintro _ S' ⟨b,g,rfl,hN⟩;simp -dsimp only[go_sem,aa,reduceCtorEq];exact⟨b,rfl,g,hN.1⟩
def jz(A B:aW)(K:Nat)(m:Int):aW:=fun i j=>(aE K fun t=>A i t*B t j)%m
theorem CV(n K l:Nat)(A B:aW)(m:Int)(hn:n<=16)(hK:1<=K)(hK2:K<=16)(hl:l<=16)(hm:1<=m)(hm2:m<=2147483647)(hA:∀i j,i<n->j<K->0<=A i j/\A i j<m)(hB:∀i j,i<K->j<l->0<=B i j/\B i j<m):F5 231 [aN n K A,aN K l B,.int .i64 m] n l (jz A B K m):=by
 refine F5.of ?_;refine aD func231 rfl 72 ntmps231 kr sm (by simp[results231]) ?_
 rw[aQ,results231];have hm0:¬(m=0):=om
 have hp0:0<K:=om
 have hpz:(0:Int)<(K:Int):=om
 simp -dsimp only[go_sem,ak,reduceCtorEq,bO,aN]
 repeat refine an ?_
 refine aH.intro fun bc fc=>?_;simp -dsimp only[go_sem];refine aM (fun O S'=>∃i:Nat,i<=n/\O 1=aN K l B/\O 2=.int .i64 m/\O 7=.sl 1 bc 0 n/\O 17=aN n K A/\O 18=.int .i64 n/\O 19=.int .i64 i/\∃g',eO 29 2 1 St.none S' bc g' n l i (fun a j=>.int .i64 (jz A B K m a j))) (fun O S=>n-ca (O 19)) ?_ ?_
 ·simp -dsimp only[go_sem,aa,reduceCtorEq,bO,aN];exact⟨0,om,rfl,fun _=>0,eO.init fc (fun _ _=>rfl) _ _⟩
 ·rintro O S' ⟨i,hi,e1,e2,e7,e17,e18,e19,g',hR⟩;by_cases hit:i<n
  ·obtain⟨g4,u4,v4⟩:=id hR.outer;simp -dsimp only[go_sem,aa,↓reduceIte,af,decide_true,az,ab,aN,bO,e1,e7,e17,e18,e19,hit,hpz]
   repeat refine an ?_
   refine aH.intro fun bd fd=>?_;have hdc:bc≠bd:=bE.fresh hR.outer fd;simp -dsimp only[go_sem,hit,u4,hdc];have hR1:=hR.push dc fd u4 (fun _=>.int .i64 0)
   generalize hgg:(fun a=>if a=i then bd else g' a)=gg at hR1
   refine aM (fun O S'=>∃k:Nat,k<=K/\O 1=aN K l B/\O 2=.int .i64 m/\O 7=.sl 1 bc 0 n/\O 8=.int .i64 i/\O 17=aN n K A/\O 18=.int .i64 n/\O 19=.int .i64 i/\O 32=bO K (A i)/\O 33=.int .i64 K/\O 34=.int .i64 k/\eO 29 2 1 St.none S' bc gg n l (i+1) (fun a c=>.int .i64 (if a=i then jz A B k m i c else jz A B K m a c))) (fun O S=>K-ca (O 34)) ?_ ?_
   ·simp -dsimp only[go_sem,aa,aN,bO,e1,e2,e7,e17,e18,e19];refine⟨0,om,rfl,hR1.congr fun a c _ _=>?_⟩
    by_cases e:a=i
    ·simp[e,jz,aE]
    ·simp[e]
   ·clear e1 e2 e7 e17 e18 e19 hR hR1 u4 v4 hgg;rintro O S' ⟨k,hk,e1,e2,e7,e8,e17,e18,e19,e32,e33,e34,hR⟩;by_cases hkt:k<K
    ·simp -dsimp only[go_sem,aa,↓reduceIte,af,decide_true,aN,bO,e1,e2,e7,e17,e18,e19,e32,e33,e34,hkt];refine aM (fun O S'=>∃j:Nat,j<=l/\O 1=aN K l B/\O 2=.int .i64 m/\O 7=.sl 1 bc 0 n/\O 8=.int .i64 i/\O 11=.int .i64 (A i k)/\O 17=aN n K A/\O 18=.int .i64 n/\O 19=.int .i64 i/\O 32=bO K (A i)/\O 33=.int .i64 K/\O 34=.int .i64 k/\O 42=bO l (B k)/\O 43=.int .i64 l/\O 44=.int .i64 j/\eO 29 2 1 St.none S' bc gg n l (i+1) (fun a c=>.int .i64 (if a=i then(if c<j then jz A B (k+1) m i c else jz A B k m i c)else jz A B K m a c))) (fun O S=>l-ca (O 44)) ?_ ?_
     ·simp -dsimp only[go_sem,aa,aN,bO,e1,e2,e7,e8,e17,e18,e19,e32,e33,e34];exact⟨0,om,rfl,hR.congr fun a c _ _=>by simp⟩
     ·clear e1 e2 e7 e8 e17 e18 e19 e32 e33 e34 hR;rintro O S' ⟨j,hj,e1,e2,e7,e8,e11,e17,e18,e19,e32,e33,e34,e42,e43,e44,hR⟩;by_cases hjt:j<l
      ·obtain⟨g4,u4,v4⟩:=id hR.outer;obtain⟨g5,u5,v5⟩:=id (hR.row i om);have x4:g4 i=.sl 1 (gg i) 0 l:=(v4 i hit).trans (if_pos om);have x5:g5 j=.int .i64 (jz A B k m i j):=(v5 j hjt).trans sm
       have b1:=hA i k hit hkt;have b2:=hB k j hkt hjt;have b3:0<=jz A B k m i j/\jz A B k m i j<m:=⟨aY _ om,aV _ om⟩;have b4:=mC (A:=2147483646) (B:=2147483646) (om:0<=A i k/\A i k<=2147483646) (om:0<=B k j/\B k j<=2147483646)
       have q1:IntKind.i64.wrap (A i k*B k j)=A i k*B k j:=i64_in om om;have q2:IntKind.i64.wrap (jz A B k m i j+A i k*B k j)=jz A B k m i j+A i k*B k j:=i64_in om om;have q3:eA (jz A B k m i j+A i k*B k j) m=jz A B (k+1) m i j:=by
        rw[aU om];simp only[jz,aE];rw[Int.emod_add_emod]
       simp -dsimp only[go_sem,aa,↓reduceIte,af,decide_true,aN,bO,e1,e2,e7,e8,e17,e18,e19,e32,e33,e34,e42,e43,e44,hjt];refine bM 19 kr ?_
       simp -dsimp only[go_sem,aa,↓reduceIte,reduceCtorEq,af,ab,aN,bO,e1,e2,e7,e8,e11,e17,e18,e19,e32,e33,e34,e42,e43,e44,hit,hjt,u4,x4,u5,x5,hm0,q1,q2,q3,a6 (om:j<1000000),ca]
       refine⟨⟨j+1,om,rfl,(hR.put dc (om:i<i+1) u5 j (.int .i64 (jz A B (k+1) m i j))).congr fun a c _ _=>?_⟩,om⟩
       by_cases e:a=i/\c=j
       ·obtain⟨rfl,rfl⟩:=e;simp
       ·rw[if_neg e];congr 1;by_cases e2:a=i
        ·rw[if_pos e2,if_pos e2];by_cases e3:c<j
         ·rw[if_pos e3,if_pos om]
         ·rw[if_neg e3,if_neg om]
        ·rw[if_neg e2,if_neg e2]
      ·simp -dsimp only[go_sem,aa,↓reduceIte,af,decide_false,aN,bO,e1,e2,e7,e8,e17,e18,e19,e32,e33,e34,e42,e43,e44,hjt,a6 (om:k<1000000),ca]
       exact⟨⟨k+1,om,rfl,hR.congr fun a c _ hc=>by rw[if_pos (om:c<j)]⟩,om⟩
    ·obtain rfl:k=K:=om
     simp -dsimp only[go_sem,aa,↓reduceIte,af,decide_false,aN,bO,e1,e2,e7,e17,e18,e19,e32,e33,e34,hkt,a6 (om:i<1000000),ca]
     exact⟨⟨i+1,om,rfl,gg,hR.congr fun a c _ hc=>by by_cases e:a=i<;>simp[e]⟩,om⟩
  ·obtain rfl:i=n:=om
   have hN:=hR.imat (A:=jz A B K m) (fun _ _ _ _=>rfl);simp -dsimp only[go_sem,aa,↓reduceIte,af,decide_false,az,ab,aN,bO,e1,e7,e17,e18,e19,hit];exact⟨bc,rfl,g',hN.1⟩
theorem VA.ptr{S:St}{b ty es:Nat}{x x':AV}(hh:dl S b ty es x)(hv:VA S x x'):VA S (.ptr es b 0) (.pat es x'):=by
 intro w v hs hr;obtain⟨g',hX,hg⟩:=hh;obtain⟨cs,h1,h2,h3,h4⟩:=hs b _ hX;simp only[bs]at hr ⊢;subst hr;obtain⟨u,u1,u2⟩:=h3 0 (by simp only;omega)
 refine⟨b,es*0,u,rfl,dW h1,fun hb=>hb,⟨cs,ty,(0,0),h1,u1⟩,hv w u hs ?_⟩;rw[<-hg];exact u2
theorem VA.fn{S:St}{f:Nat}{l l':List AV}(h:dO S l l'):VA S (.fn f l) (.fn f l'):=by
 intro w v hs hr;simp only[bs]at hr ⊢;obtain⟨vs,rfl,h1⟩:=hr;exact⟨vs,rfl,ue hs _ _ _ h h1⟩
theorem jP(n m:Nat)(A:aW)(h1:1<=n)(h2:n<=16)(h3:1<=m)(h4:m<=16):PF 97 [aZ n m A] (.tup [.int .i64 n,.int .i64 m,.bool true]):=by
 refine PF.of_spec (aD func97 rfl 40 ntmps97 kr sm (by simp[results97]) ?_)
 rw[aQ,results97];have hp0:0<n:=om
 have hpz:(0:Int)<(n:Int):=om
 simp -dsimp only[go_sem,aa,reduceCtorEq,decide_false,az,bn,aZ,hpz,(om:¬((n:Int)<1)),(om:¬((16:Int)<(n:Int))),(om:¬((m:Int)<1)),(om:¬((16:Int)<(m:Int)))]
 refine aM (fun O S=>∃i:Nat,i<=n/\O 0=aZ n m A/\O 5=.int .i64 m/\O 26=aZ n m A/\O 27=.int .i64 n/\O 28=.int .i64 i) (fun O S=>n-ca (O 28)) ?_ ?_
 ·simp -dsimp only[go_sem,aa,reduceCtorEq,bn,aZ];exact⟨0,om,rfl⟩
 ·rintro O S ⟨i,hi,e0,e5,e26,e27,e28⟩;by_cases hlt:i<n
  ·simp -dsimp only[go_sem,aa,↓reduceIte,reduceCtorEq,af,decide_true,bn,aZ,e0,e5,e26,e27,e28,hlt,show((m:Int) != m)=false by simp,a6 (om:i<1000000),ca]
   exact⟨⟨i+1,om,rfl⟩,om⟩
  ·simp -dsimp only[go_sem,aa,↓reduceIte,reduceCtorEq,af,decide_false,bn,aZ,e0,e5,e26,e27,e28,hlt];exact VR.tup (by simp[oG])
theorem Bp(n m:Nat)(A:aW)(h1:1<=n)(h2:n<=16)(h3:1<=m)(h4:m<=16):PF 154 [aN n m A] (.tup [.int .i64 n,.int .i64 m,.bool true]):=by
 refine PF.of_spec (aD func154 rfl 40 ntmps154 kr sm (by simp[results154]) ?_)
 rw[aQ,results154];have hp0:0<n:=om
 have hpz:(0:Int)<(n:Int):=om
 simp -dsimp only[go_sem,aa,reduceCtorEq,decide_false,az,bO,aN,hpz,(om:¬((n:Int)<1)),(om:¬((16:Int)<(n:Int))),(om:¬((m:Int)<1)),(om:¬((16:Int)<(m:Int)))]
 refine aM (fun O S=>∃i:Nat,i<=n/\O 0=aN n m A/\O 5=.int .i64 m/\O 26=aN n m A/\O 27=.int .i64 n/\O 28=.int .i64 i) (fun O S=>n-ca (O 28)) ?_ ?_
 ·simp -dsimp only[go_sem,aa,reduceCtorEq,bO,aN];exact⟨0,om,rfl⟩
 ·rintro O S ⟨i,hi,e0,e5,e26,e27,e28⟩;by_cases hlt:i<n
  ·simp -dsimp only[go_sem,aa,↓reduceIte,reduceCtorEq,af,decide_true,bO,aN,e0,e5,e26,e27,e28,hlt,show((m:Int) != m)=false by simp,a6 (om:i<1000000),ca]
   exact⟨⟨i+1,om,rfl⟩,om⟩
  ·simp -dsimp only[go_sem,aa,↓reduceIte,reduceCtorEq,af,decide_false,bO,aN,e0,e5,e26,e27,e28,hlt];exact VR.tup (by simp[oG])
theorem pk(n m F:Nat)(l:List AV)(A:aW)(hF:11<=F/\F<252)(hn:n<=16)(hm:m<=16)(hA:∀i j:Nat,i<n->j<m->PF F ([.int .i64 i,.int .i64 j]++l) (.big (A i j))):MF 131 [.int .i64 n,.int .i64 m,.fn F l] n m A:=by
 refine MF.of ?_;refine aD func131 rfl 43 ntmps131 kr sm (by simp[results131]) ?_
 rw[aQ,results131];simp -dsimp only[go_sem,ak,aa,reduceCtorEq]
 repeat refine an ?_
 refine aH.intro fun bc fc=>?_;simp -dsimp only[go_sem];refine aM (fun O S'=>∃i:Nat,i<=n/\O 1=.int .i64 m/\O 2=.fn F l/\O 7=.sl 1 bc 0 n/\O 13=.int .i64 n/\O 14=.int .i64 i/\∃g',eO 59 50 2 St.none S' bc g' n m i (fun a j=>.big (A a j))) (fun O S=>n-ca (O 14)) ?_ ?_
 ·simp -dsimp only[go_sem,aa,reduceCtorEq];exact⟨0,om,rfl,fun _=>0,eO.init fc (fun _ _=>rfl) _ _⟩
 ·rintro O S' ⟨i,hi,e1,e2,e7,e13,e14,g',hR⟩;by_cases hit:i<n
  ·obtain⟨g4,u4,v4⟩:=id hR.outer;simp -dsimp only[go_sem,aa,↓reduceIte,af,decide_true,ab,e1,e7,e13,e14,hit]
   repeat refine an ?_
   refine aH.intro fun bd fd=>?_;have hdc:bc≠bd:=bE.fresh hR.outer fd;have hset:bJ g4 i (.sl 2 bd 0 m) i=.sl 2 bd 0 m:=by simp[bJ]
   simp -dsimp only[go_sem,hit,u4,hdc,hset];have hR1:=hR.push dc fd u4 (fun _=>.big 0)
   generalize hgg:(fun a=>if a=i then bd else g' a)=gg at hR1
   refine aM (fun O S'=>∃j:Nat,j<=m/\O 1=.int .i64 m/\O 2=.fn F l/\O 7=.sl 1 bc 0 n/\O 8=.int .i64 i/\O 13=.int .i64 n/\O 14=.int .i64 i/\O 26=.int .i64 m/\O 27=.int .i64 j/\eO 59 50 2 St.none S' bc gg n m (i+1) (fun a c=>.big (if a=i/\j<=c then 0 else A a c))) (fun O S=>m-ca (O 27)) ?_ ?_
   ·simp -dsimp only[go_sem,aa,e1,e2,e7,e13,e14];refine⟨0,om,rfl,hR1.congr fun a c _ _=>?_⟩
    by_cases e:a=i
    ·simp[e]
    ·simp[e]
   ·clear e1 e2 e7 e13 e14 hR hR1 u4 v4 hgg;rintro O S' ⟨j,hj,e1,e2,e7,e8,e13,e14,e26,e27,hR⟩;by_cases hjt:j<m
    ·obtain⟨g4,u4,v4⟩:=id hR.outer;obtain⟨g5,u5,v5⟩:=id (hR.row i om);have x4:g4 i=.sl 2 (gg i) 0 m:=(v4 i hit).trans (if_pos om);simp -dsimp only[go_sem,aa,↓reduceIte,af,decide_true,e1,e2,e7,e13,e14,e26,e27,hjt];refine bM 10 kr ?_
     simp -dsimp only[go_sem,aa,↓reduceIte,reduceCtorEq,af,ab,e1,e2,e7,e8,e13,e14,e26,e27,hit,hjt,u4,x4,u5,a6 (om:j<1000000),ca]
     repeat refine an ?_
     refine⟨_,(hA i j hit hjt).pure',trivial,⟨j+1,om,rfl,(hR.put dc (om:i<i+1) u5 j (.big (A i j))).congr fun a c _ _=>?_⟩,om⟩
     by_cases e:a=i/\c=j
     ·obtain⟨rfl,rfl⟩:=e;rw[if_pos ⟨rfl,rfl⟩,if_neg om]
     ·rw[if_neg e];congr 1;by_cases e2:a=i/\j<=c
      ·rw[if_pos e2,if_pos om]
      ·rw[if_neg e2,if_neg om]
    ·simp -dsimp only[go_sem,aa,↓reduceIte,af,decide_false,e1,e2,e7,e13,e14,e26,e27,hjt,a6 (om:i<1000000),ca]
     exact⟨⟨i+1,om,rfl,gg,hR.congr fun a c _ hc=>by rw[if_neg om]⟩,om⟩
  ·obtain rfl:i=n:=om
   have hN:=hR.mat (A:=A) (fun _ _ _ _=>rfl);simp -dsimp only[go_sem,aa,↓reduceIte,af,decide_false,ab,e1,e7,e13,e14,hit];exact⟨bc,rfl,g',hN.1⟩
theorem AA(n m:Nat)(A:aW)(i j:Nat)(hi:i<n)(hj:j<m)(hA:-9223372036854775808<=A i j/\A i j<=9223372036854775807):PF 155 [.int .i64 i,.int .i64 j,.pat 1 (aN n m A)] (.big (A i j)):=by
 refine PF.of_spec (aD func155 rfl 14 ntmps155 kr sm (by simp[results155]) ?_)
 rw[aQ,results155];simp -dsimp only[go_sem,ak];refine aH.intro fun bc fc=>?_
 try simp -dsimp only[go_sem,aa,au,ae,reduceCtorEq,af,aN,bO,hi,hj]
 refine(jw hA.1 hA.2).call ?_;simp -dsimp only[go_sem,aa,ae,↓reduceIte,reduceCtorEq,ab];exact VR.mf rfl
theorem Jp(n m k:Nat)(A:aW)(i j:Nat)(hi:i<n)(hj:j<m)(hA:nb (A i j) k)(hk:k<=1000000000):PF 212 [.int .i64 i,.int .i64 j,.pat 1 (aZ n m A)] (.big (-A i j)):=by
 refine PF.of_spec (aD func212 rfl 14 ntmps212 kr sm (by simp[results212]) ?_)
 rw[aQ,results212];simp -dsimp only[go_sem,ak];refine aH.intro fun bc fc=>?_
 try simp -dsimp only[go_sem,aa,au,ae,reduceCtorEq,af,aZ,bn,hi,hj]
 refine(qD hA om).call ?_;simp -dsimp only[go_sem,aa,ae,↓reduceIte,reduceCtorEq,ab];exact VR.mf rfl
theorem CQ(k:Nat)(z:Int)(i j:Nat)(hz:nb z k)(hk:k<=1000000000):PF 238 [.int .i64 i,.int .i64 j,.pat 2 (.big z)] (.big (if i=j then z else 0)):=by
 refine PF.of_spec (aD func238 rfl 12 ntmps238 kr sm (by simp[results238]) ?_)
 rw[aQ,results238];simp -dsimp only[go_sem,ak];refine aH.intro fun bc fc=>?_;by_cases e:i=j
 ·subst e
  try simp -dsimp only[go_sem,aa,au,ae,↓reduceIte,reduceCtorEq,show((i:Int)==i)=true by simp]
  refine(pQ hz om).call ?_;simp -dsimp only[go_sem,aa,ae,↓reduceIte,ab];exact VR.mf rfl
 ·try simp -dsimp only[go_sem,aa,au,ae,↓reduceIte,reduceCtorEq,e,show((i:Int)==j)=false by simp;omega]
  exact VR.mf rfl
theorem dO.fn1{S:St}{f:Nat}{a b:AV}{l l':List AV}(h:dO S l l'):dO S [a,b,.fn f l] [a,b,.fn f l']:=⟨VA.refl _ _,VA.refl _ _,VA.fn h,trivial⟩
theorem dO.one{S:St}{x x':AV}(h:VA S x x'):dO S [x] [x']:=⟨h,trivial⟩
theorem dO.three{S:St}{x x' y y' z z':AV}(h:VA S x x')(h2:VA S y y')(h3:VA S z z'):dO S [x,y,z] [x',y',z']:=⟨h,h2,h3,trivial⟩
theorem ed{g:Nat->AV}{i:Nat}{x:AV}:bJ g i x i=x:=by simp[bJ]
theorem qr(n m:Nat)(A:aW)(h1:1<=n)(h2:n<=16)(h3:1<=m)(h4:m<=16)(hA:∀i j,i<n->j<m->-9223372036854775808<=A i j/\A i j<=9223372036854775807):xN 93 [aN n m A] n m A:=by
 refine xN.of ?_;refine aD func93 rfl 19 ntmps93 kr sm (by simp[results93]) ?_
 rw[aQ,results93];simp -dsimp only[go_sem,aa,ae,↓reduceIte,ab,aN,bO];refine aH.intro fun bc fc=>?_
 try simp -dsimp only[go_sem,ae]
 refine(Bp n m A h1 h2 h3 h4).call ?_;simp -dsimp only[go_sem,aa,ae,↓reduceIte,ab];refine(pk n m 155 [.pat 1 (aN n m A)] A om h2 h4 (fun i j hi hj=>AA n m A i j hi hj (hA i j hi hj)) _ _ (dO.fn1 (dO.one (VA.ptr (dl.new rfl) (VA.refl _ _))))).mono ?_;rintro _ S1 ⟨b,g,rfl,hN⟩;simp -dsimp only[go_sem,aa];exact⟨b,rfl,g,hN.1⟩
theorem Fb(n k:Nat)(z:Int)(hn:n<=16)(hz:nb z k)(hk:k<=1000000000):MF 190 [.int .i64 n,.big z] n n (fun i j=>if i=j then z else 0):=by
 refine MF.of ?_;refine aD func190 rfl 9 ntmps190 kr sm (by simp[results190]) ?_
 rw[aQ,results190];simp -dsimp only[go_sem,ak,aa,ae,reduceCtorEq,ab];refine aH.intro fun bc fc=>?_
 try simp -dsimp only[go_sem,ak,aa,au,ae,↓reduceIte,reduceCtorEq,af,decide_true,decide_false,az]
 refine(pk n n 238 [.pat 2 (.big z)] (fun i j=>if i=j then z else 0) om hn hn (fun i j hi hj=>CQ k z i j hz hk) _ _ (dO.fn1 (dO.one (VA.ptr (dl.new rfl) (VA.refl _ _))))).mono ?_
 rintro _ S1 ⟨b,g,rfl,hN⟩;simp -dsimp only[go_sem,aa,reduceCtorEq];exact⟨b,rfl,g,hN.1⟩
theorem pR{f:Nat->Int}{k:Nat}:∀(t:Nat),(∀i,i<t->nb (f i) k)->nb (aE t f) (k+t)
 | 0,_=>nb.zero _
 | t+1,h=>by
  have h1:=pR t (fun i hi=>h i om);have h2:=(h t om).mono (om:k<=k+t)
  exact h1.add h2
theorem Ky(n K l k:Nat)(A B:aW)(i j:Nat)(hi:i<n)(hj:j<l)(hK:K<=16)(hA:∀i j,i<n->j<K->nb (A i j) k)(hB:∀i j,i<K->j<l->nb (B i j) k)(hk:k<=1000000):PF 132 [.int .i64 i,.int .i64 j,.pat 1 (.int .i64 K),.pat 1 (aZ n K A),.pat 1 (aZ K l B)] (.big (mm K A B i j)):=by
 refine PF.of_spec (aD func132 rfl 34 ntmps132 kr sm (by simp[results132]) ?_)
 rw[aQ,results132];simp -dsimp only[go_sem,ak];refine aH.intro fun bc fc=>?_
 try simp -dsimp only[go_sem]
 refine aH.intro fun bd fd=>?_;have nd_c:=(ai fd).1
 try simp -dsimp only[go_sem,aa,↓reduceIte,reduceCtorEq]
 refine aM (fun O S'=>∃t:Nat,t<=K/\O 0=.int .i64 i/\O 1=.int .i64 j/\O 3=.pat 1 (aZ n K A)/\O 4=.pat 1 (aZ K l B)/\O 7=.ptr 2 bc 0/\O 8=.ptr 2 bd 0/\O 11=.int .i64 K/\O 12=.int .i64 t/\dl S' bc 50 2 (.big 0)/\dl S' bd 50 2 (.big (aE t fun a=>A i a*B a j))) (fun O S=>K-ca (O 12)) ?_ ?_
 ·simp -dsimp only[go_sem,aa,reduceCtorEq];exact⟨0,om,rfl,((dl.new rfl).upd (ao nd_c) _).upd (ao nd_c) _,dl.set⟩
 ·rintro O S' ⟨t,ht,e0,e1,e3,e4,e7,e8,e11,e12,hV1,hV2⟩;obtain⟨g1,u1,v1⟩:=id hV1;obtain⟨g2,u2,v2⟩:=id hV2;by_cases hlt:t<K
  ·simp -dsimp only[go_sem,aa,↓reduceIte,af,decide_true,ab,e7,e8,e11,e12,hlt];refine bM 17 kr ?_
   simp -dsimp only[go_sem,aa,ae,↓reduceIte,reduceCtorEq,af,ab,e0,e1,e3,e4,e7,e8,e11,e12,hlt,aZ,bn,hi,hj,u2,v2,a6 (om:t<1000000),ca]
   have hs:=pR (f:=fun a=>A i a*B a j) (k:=k+k) t (fun a ha=>(hA i a hi om).mul (hB a j om hj));have hp:=((hA i t hi hlt).mul (hB t j hlt hj)).mono (om:k+k<=k+k+t)
   exact⟨_,(n9 (hA i t hi hlt) (hB t j hlt hj) om).pure',_,(sT hs hp om).pure',trivial,⟨t+1,om,rfl,hV1.upd (ao nd_c) _,dl.set⟩,om⟩
  ·obtain rfl:t=K:=om
   simp -dsimp only[go_sem,aa,ae,↓reduceIte,af,decide_false,ab,e7,e8,e11,e12,hlt,u1,u2,v2];simp only[bJ,if_true];exact VR.mf rfl
theorem C1(n m k:Nat)(A:aW)(h1:1<=n)(hn:n<=16)(hm:m<=16)(hA:∀i j,i<n->j<m->nb (A i j) k)(hk:k<=1000000):MF 163 [aZ n m A] n m (fun i j=>- A i j):=by
 refine MF.of ?_;refine aD func163 rfl 11 ntmps163 kr sm (by simp[results163]) ?_
 rw[aQ,results163];have hp0:0<n:=om
 have hpz:(0:Int)<(n:Int):=om
 simp -dsimp only[go_sem,aZ,bn];refine aH.intro fun bc fc=>?_
 try simp -dsimp only[go_sem,ak,aa,au,ae,↓reduceIte,reduceCtorEq,af,decide_true,decide_false,az,aZ,bn,hp0,hpz]
 refine bM 7 kr ?_
 simp -dsimp only[go_sem,aa,ae,↓reduceIte,az,ab,hpz];refine(pk n m 212 [.pat 1 (aZ n m A)] (fun i j=>- A i j) om hn hm (fun i j hi hj=>Jp n m k A i j hi hj (hA i j hi hj) om) _ _ (dO.fn1 (dO.one (VA.ptr (dl.new rfl) (VA.refl _ _))))).mono ?_;rintro _ S1 ⟨b,g,rfl,hN⟩;simp -dsimp only[go_sem];exact⟨b,rfl,g,hN.1⟩
theorem rX(n K l k:Nat)(A B:aW)(h1:1<=n)(h2:n<=16)(h3:1<=K)(h4:K<=16)(h5:1<=l)(h6:l<=16)(hA:∀i j,i<n->j<K->nb (A i j) k)(hB:∀i j,i<K->j<l->nb (B i j) k)(hk:k<=1000000):xN 80 [aZ n K A,aZ K l B] n l (mm K A B):=by
 refine xN.of ?_;refine aD func80 rfl 39 ntmps80 kr sm (by simp[results80]) ?_
 rw[aQ,results80];simp -dsimp only[go_sem,ak,aa,ae,↓reduceIte,reduceCtorEq,ab,aZ,bn];refine aH.intro fun bc fc=>?_
 try simp -dsimp only[go_sem,ak,aa,au,ae,↓reduceIte,reduceCtorEq,af,decide_true,decide_false,az,aZ,bn]
 refine aH.intro fun bd fd=>?_;have nd_c:=(ai fd).1
 try simp -dsimp only[go_sem,ae,ao nd_c]
 refine(jP n K A h1 h2 h3 h4).call ?_;simp -dsimp only[go_sem,aa,ae,↓reduceIte,ab];refine aH.intro fun be fe=>?_;have ne_d:=(ai fe).1;have ne_c:=(ai (ai fe).2).1
 try simp -dsimp only[go_sem,ae,reduceCtorEq,ao ne_d]
 refine(jP K l B h3 h4 h5 h6).call ?_;simp -dsimp only[go_sem,aa,ae,↓reduceIte,ab,show((K:Int) != K)=false by simp,ed]
 have hc:bc≠bd:=ao nd_c;have hce:bc≠be:=ao ne_c;have hde:bd≠be:=ao ne_d;refine(pk n l 132 [.pat 1 (.int .i64 K),.pat 1 (aZ n K A),.pat 1 (aZ K l B)] (mm K A B) om h2 h6 (fun i j hi hj=>Ky n K l k A B i j hi hj h4 hA hB hk) _ _ (dO.fn1 (dO.three (VA.ptr dl.set (VA.refl _ _)) (VA.ptr ((((dl.new rfl).upd hc _).upd hce _).upd hce _) (VA.refl _ _)) (VA.ptr (((dl.new rfl).upd hde _).upd hde _) (VA.refl _ _))))).mono ?_;rintro _ S1 ⟨b,g,rfl,hN⟩;simp -dsimp only[go_sem,aa];exact⟨b,rfl,g,hN.1⟩
def LF(f:Nat)(args:List AV)(n:Nat)(v:Nat->Int):Prop:=∀S args',dO S args' args->cS f args' S (fun r S'=>∃b,r=.sl 2 b 0 n/\gJ S' b n v/\eJ S S'/\S b=ac)
def vu(S:St)(b:Nat):St:=fun k=>if k=b then S k else ac
theorem GX(S:St)(b:Nat):∀c X,vu S b c=some X->S c=some X:=by
 intro c X h;unfold vu at h;split at h
 ·exact h
 ·cases h
theorem gJ.only{S:St}{b n:Nat}{v:Nat->Int}(h:gJ S b n v):gJ (vu S b) b n v/\F8 (vu S b):=by
 obtain⟨g',h1,h2⟩:=h;refine⟨⟨g',by simp[vu,h1],h2⟩,fun c X hX j hj=>?_⟩
 unfold vu at hX;split at hX
 ·rename_i e;subst e;rw[hX]at h1;cases h1;show wh (g' j)=true;rw[h2 j hj];rfl
 ·cases hX
theorem LF.of{f:Nat}{args:List AV}{n:Nat}{v:Nat->Int}(h:cS f args St.none (fun r S'=>∃b,r=.sl 2 b 0 n/\gJ S' b n v)):LF f args n v:=fun S args' hv=>by
 have h1:cS f args St.none (fun r S'=>∃b,r=.sl 2 b 0 n/\gJ S' b n v/\F8 S'):=h.less fun r S' ⟨b,e,hm⟩=>⟨vu S' b,GX S' b,b,e,hm.only.1,hm.only.2⟩;refine(h1.frame hv ?_).mono ?_
 ·rintro r S1 ⟨b,rfl,_,hc⟩;exact⟨rfl,hc⟩
 ·rintro r S' ⟨S1,⟨b,rfl,hm,_⟩,hd,rfl⟩;exact⟨b,rfl,(bE.join hd hm).1,re S S1,(bE.join hd hm).2⟩
theorem mc(n m k i j:Nat)(A:aW)(a b:Int)(hi:i<n)(hj:j<n)(hm:m<=100)(hA:∀c r,c<n->r<m->nb (A c r) k)(ha:nb a k)(hb:nb b k)(hk:k<=1000000) :
  LF 269 [aZ n m A,.int .i64 i,.big a,.int .i64 j,.big b] m (fun r=>a*A i r+b*A j r):=by
 refine LF.of ?_;refine aD func269 rfl 48 ntmps269 kr sm (by simp[results269]) ?_
 rw[aQ,results269];simp -dsimp only[go_sem,ak,aa,reduceCtorEq,af,aZ,bn];refine aH.intro fun bc fc=>?_
 try simp -dsimp only[go_sem,ak,aa,au,ae,↓reduceIte,reduceCtorEq,af,decide_true,decide_false,az,aZ,bn]
 refine aH.intro fun bd fd=>?_;have nd_c:=(ai fd).1;simp -dsimp only[go_sem,hi]
 repeat refine an ?_
 refine aH.intro fun be fe=>?_;have ne_d:=(ai fe).1;have ne_c:=(ai (ai fe).2).1;simp -dsimp only[go_sem];refine aM (fun O S'=>∃t:Nat,t<=m/\O 0=aZ n m A/\O 1=.int .i64 i/\O 3=.int .i64 j/\O 7=.ptr 2 bc 0/\O 9=.ptr 2 bd 0/\O 11=.sl 2 be 0 m/\O 20=.int .i64 m/\O 21=.int .i64 t/\dl S' bc 50 2 (.big a)/\dl S' bd 50 2 (.big b)/\gJ S' be m (fun r=>if r<t then a*A i r+b*A j r else 0)) (fun O S=>m-ca (O 21)) ?_ ?_
 ·simp -dsimp only[go_sem,aa,reduceCtorEq,aZ,bn];exact⟨0,om,rfl,((dl.new rfl).upd (ao nd_c) _).upd (ao ne_c) _,(dl.new rfl).upd (ao ne_d) _,bE.here fun r hr=>by simp⟩
 ·rintro O S' ⟨t,ht,e0,e1,e3,e7,e9,e11,e20,e21,hV1,hV2,hI⟩;obtain⟨g1,u1,v1⟩:=id hV1;obtain⟨g2,u2,v2⟩:=id hV2;obtain⟨g3,u3,v3⟩:=id hI;by_cases hlt:t<m
  ·simp -dsimp only[go_sem,aa,↓reduceIte,af,decide_true,e11,e20,e21,hlt];refine bM 22 kr ?_
   simp -dsimp only[go_sem,aa,ae,↓reduceIte,reduceCtorEq,af,ab,e0,e1,e3,e7,e9,e11,e20,e21,hlt,aZ,bn,hi,hj,u1,v1,u2,v2,u3,a6 (om:t<1000000),ca]
   have p1:=ha.mul (hA i t hi hlt);have p2:=hb.mul (hA j t hj hlt);exact⟨_,(n9 ha (hA i t hi hlt) om).pure',_,(n9 hb (hA j t hj hlt) om).pure',_,(sT p1 p2 om).pure',trivial,⟨t+1,om,rfl,hV1.upd (ao ne_c) _,hV2.upd (ao ne_d) _,bE.here fun r hr=>by
    simp only[bJ];by_cases e:r=t
    ·subst e;simp
    ·rw[if_neg e,v3 r hr];by_cases e2:r<t
     ·simp[e2,(om:r<t+1)]
     ·simp[e2,(om:¬r<t+1)]⟩,om⟩
  ·obtain rfl:t=m:=om
   simp -dsimp only[go_sem,aa,↓reduceIte,af,decide_false,e11,e20,e21,hlt];exact⟨be,rfl,hI.congr fun r hr=>by simp[hr]⟩
theorem ru(n m:Nat)(A:aW)(h1:1<=n)(h2:n<=16)(h4:m<=16):MF 258 [aZ n m A] m n (fun j i=>A i j):=by
 refine MF.of ?_;refine aD func258 rfl 43 ntmps258 kr sm (by simp[results258]) ?_
 rw[aQ,results258];have hp0:0<n:=om
 have hpz:(0:Int)<(n:Int):=om
 simp -dsimp only[go_sem,aa,reduceCtorEq,az,aZ,bn,hpz]
 repeat refine an ?_
 refine aH.intro fun bc fc=>?_;simp -dsimp only[go_sem];refine aM (fun O S'=>∃j:Nat,j<=m/\O 0=aZ n m A/\O 3=.sl 1 bc 0 m/\O 13=.int .i64 m/\O 14=.int .i64 j/\∃g',eO 59 50 2 St.none S' bc g' m n j (fun a i=>.big (A i a))) (fun O S=>m-ca (O 14)) ?_ ?_
 ·simp -dsimp only[go_sem,aa,reduceCtorEq,aZ,bn];exact⟨0,om,rfl,fun _=>0,eO.init fc (fun _ _=>rfl) _ _⟩
 ·rintro O S' ⟨j,hj,e0,e3,e13,e14,g',hR⟩;by_cases hit:j<m
  ·obtain⟨g4,u4,v4⟩:=id hR.outer;simp -dsimp only[go_sem,aa,↓reduceIte,reduceCtorEq,af,decide_true,ab,e0,e3,e13,e14,hit,aZ,bn]
   repeat refine an ?_
   refine aH.intro fun bd fd=>?_;have hdc:bc≠bd:=bE.fresh hR.outer fd;simp -dsimp only[go_sem,hit,u4,hdc];have hR1:=hR.push dc fd u4 (fun _=>.big 0)
   generalize hgg:(fun a=>if a=j then bd else g' a)=gg at hR1
   refine aM (fun O S'=>∃i:Nat,i<=n/\O 0=aZ n m A/\O 3=.sl 1 bc 0 m/\O 4=.int .i64 j/\O 13=.int .i64 m/\O 14=.int .i64 j/\O 23=aZ n m A/\O 24=.int .i64 n/\O 25=.int .i64 i/\eO 59 50 2 St.none S' bc gg m n (j+1) (fun a c=>.big (if a=j/\i<=c then 0 else A c a))) (fun O S=>n-ca (O 25)) ?_ ?_
   ·simp -dsimp only[go_sem,aa,reduceCtorEq,e0,e3,e13,e14,aZ,bn];refine⟨0,om,rfl,hR1.congr fun a c _ _=>?_⟩
    by_cases e:a=j
    ·simp[e]
    ·simp[e]
   ·clear e0 e3 e13 e14 hR hR1 u4 v4 hgg;rintro O S' ⟨i,hi,e0,e3,e4,e13,e14,e23,e24,e25,hR⟩;by_cases hjt:i<n
    ·obtain⟨g4,u4,v4⟩:=id hR.outer;obtain⟨g5,u5,v5⟩:=id (hR.row j om);have x4:g4 j=.sl 2 (gg j) 0 n:=(v4 j hit).trans (if_pos om);simp -dsimp only[go_sem,aa,↓reduceIte,reduceCtorEq,af,decide_true,e0,e3,e13,e14,e23,e24,e25,hjt,aZ,bn];refine bM 10 kr ?_
     simp -dsimp only[go_sem,aa,↓reduceIte,reduceCtorEq,af,ab,e0,e3,e4,e13,e14,e23,e24,e25,hit,hjt,u4,x4,u5,aZ,bn,a6 (om:i<1000000),ca]
     refine⟨⟨i+1,om,rfl,(hR.put dc (om:j<j+1) u5 i (.big (A i j))).congr fun a c _ _=>?_⟩,om⟩
     by_cases e:a=j/\c=i
     ·obtain⟨rfl,rfl⟩:=e;rw[if_pos ⟨rfl,rfl⟩,if_neg om]
     ·rw[if_neg e];congr 1;by_cases e2:a=j/\i<=c
      ·rw[if_pos e2,if_pos om]
      ·rw[if_neg e2,if_neg om]
    ·simp -dsimp only[go_sem,aa,↓reduceIte,reduceCtorEq,af,decide_false,ab,e0,e3,e13,e14,e23,e24,e25,hjt,a6 (om:j<1000000),ca]
     exact⟨⟨j+1,om,rfl,rfl,gg,hR.congr fun a c _ hc=>by rw[if_neg om]⟩,om⟩
  ·obtain rfl:j=m:=om
   have hN:=hR.mat (A:=fun j i=>A i j) (fun _ _ _ _=>rfl);simp -dsimp only[go_sem,aa,↓reduceIte,reduceCtorEq,af,decide_false,az,ab,e0,e3,e13,e14,hit];exact⟨bc,rfl,g',hN.1⟩
theorem Er{z:Int}{k B:Nat}(h:z.natAbs<=B)(hB:B<2^k):nb z k:=gj h hB
theorem vH{z k:Nat}(h:z<2^k):nb (z:Int) k:=by unfold nb;simpa using h
theorem dl.at_hit{S:St}{b ty es:Nat}{g:Nat->AV}{z:AV}:dl (S.upd b ⟨ty,es,1,g⟩) b ty es z=(g 0=z) :=
 propext ⟨fun⟨g',h1,h2⟩=>by rw[bZ]at h1;cases h1;exact h2,fun h=>⟨g,bZ,h⟩⟩
theorem dl.at_miss{S:St}{b c ty es:Nat}{X:dH}{z:AV}(h:b≠c):dl (S.upd c X) b ty es z=dl S b ty es z:=by
 unfold dl;rw[aP h]
theorem Df(x y:Nat):(x:Int)/(y:Int)=((x/y:Nat):Int)/\(x:Int)%(y:Int)=((x%y:Nat):Int):=⟨sm,sm⟩
def Mc:St->AV->Nat
 | S,.ptr _ b _=>(match S b with
  | some X=>(match X.g 0 with
   | .big z=>z.toNat
   | _=>0)
  | _=>0)
 | _,_=>0
theorem B6{S:St}{b:Nat}{z:Int}(h:dl S b 50 2 (.big z)):Mc S (.ptr 2 b 0)=z.toNat:=by
 obtain⟨g,h1,h2⟩:=h;simp only[Mc,h1,h2]
def BzS(S:St)(b2 b3 b4 b5 b6 b7 b8:Nat)(x y a b na nb':Int):Prop :=
 dl S b2 50 2 (.big x)/\dl S b3 50 2 (.big y)/\dl S b4 50 2 (.big 0)/\dl S b5 50 2 (.big a)/\dl S b6 50 2 (.big b)/\dl S b7 50 2 (.big na)/\dl S b8 50 2 (.big nb')
theorem FB(x0 y0:Nat)(hx:x0<2^32)(hy:y0<2^32)(hp:0<x0∨0<y0) :
  PF 268 [.big x0,.big y0] (.tup [.big (bz x0 y0).1,.big (bz x0 y0).2.1,.big (bz x0 y0).2.2]):=by
 refine PF.of_spec (aD func268 rfl 43 ntmps268 kr sm (by simp[results268]) ?_)
 rw[aQ,results268];have one_pf:PF 81 [.int .i64 1] (.big 1):=jw dc dc
 simp -dsimp only[go_sem,ak,aa,reduceCtorEq];refine aH.intro fun bc fc=>?_
 try simp -dsimp only[go_sem,ak,aa,au,ae,↓reduceIte,reduceCtorEq,af,decide_true,decide_false,az]
 refine aH.intro fun bd fd=>?_;have nd_c:=(ai fd).1
 try simp -dsimp only[go_sem,ak,aa,au,ae,↓reduceIte,reduceCtorEq,af,decide_true,decide_false,az]
 refine aH.intro fun be fe=>?_;have ne_d:=(ai fe).1;have ne_c:=(ai (ai fe).2).1
 try simp -dsimp only[go_sem]
 refine aH.intro fun bf ff=>?_;have nf_e:=(ai ff).1;have nf_d:=(ai (ai ff).2).1;have nf_c:=(ai (ai (ai ff).2).2).1
 try simp -dsimp only[go_sem]
 refine aH.intro fun bg fg=>?_;have ng_f:=(ai fg).1;have ng_e:=(ai (ai fg).2).1;have ng_d:=(ai (ai (ai fg).2).2).1;have ng_c:=(ai (ai (ai (ai fg).2).2).2).1
 try simp -dsimp only[go_sem,aa,au,ae]
 refine one_pf.call ?_;simp -dsimp only[go_sem,aa,ae,↓reduceIte,ab,nn ng_f];refine one_pf.call ?_;simp -dsimp only[go_sem];refine aH.intro fun bh fh=>?_;have nh_g:=(ai fh).1;have nh_f:=(ai (ai fh).2).1;have nh_g:=(ai (ai (ai fh).2).2).1;have nh_f:=(ai (ai (ai (ai fh).2).2).2).1;have nh_e:=(ai (ai (ai (ai (ai fh).2).2).2).2).1;have nh_d:=(ai (ai (ai (ai (ai (ai fh).2).2).2).2).2).1;have nh_c:=(ai (ai (ai (ai (ai (ai (ai fh).2).2).2).2).2).2).1;simp -dsimp only[go_sem];refine aH.intro fun bi fi=>?_;have ni_h:=(ai fi).1;have ni_g:=(ai (ai fi).2).1;have ni_f:=(ai (ai (ai fi).2).2).1;have ni_g:=(ai (ai (ai (ai fi).2).2).2).1;have ni_f:=(ai (ai (ai (ai (ai fi).2).2).2).2).1;have ni_e:=(ai (ai (ai (ai (ai (ai fi).2).2).2).2).2).1;have ni_d:=(ai (ai (ai (ai (ai (ai (ai fi).2).2).2).2).2).2).1;have ni_c:=(ai (ai (ai (ai (ai (ai (ai (ai fi).2).2).2).2).2).2).2).1;simp -dsimp only[go_sem,aa,ae,↓reduceIte,ab,nn ni_h];refine aM (fun O S'=>∃(x y:Nat) (a b na nb':Int),KC x0 y0 x y a b na nb'/\O 2=.ptr 2 bc 0/\O 3=.ptr 2 bd 0/\O 4=.ptr 2 be 0/\O 5=.ptr 2 bf 0/\O 6=.ptr 2 bg 0/\O 7=.ptr 2 bh 0/\O 8=.ptr 2 bi 0/\BzS S' bc bd be bf bg bh bi x y a b na nb') (fun O S=>Mc S (O 3)) ?_ ?_
 ·simp -dsimp only[go_sem,aa];refine⟨x0,y0,1,0,0,1,KC.init hp,?_⟩;simp only[BzS,dl.at_hit,dl.at_miss,ne_eq,not_false_eq_true,bJ,if_true,and_self,ao nd_c,ao ne_c,ao ne_d,ao nf_c,ao nf_d,ao nf_e,ao ng_c,ao ng_d,ao ng_e,ao ng_f,ao nh_c,ao nh_d,ao nh_e,ao nh_f,ao nh_g,ao ni_c,ao ni_d,ao ni_e,ao ni_f,ao ni_g,ao ni_h]
 ·rintro O S' ⟨x,y,a,b,na,nbb,hI,e2,e3,e4,e5,e6,e7,e8,hS⟩;obtain⟨⟨g2,u2,v2⟩,⟨g3,u3,v3⟩,⟨g4,u4,v4⟩,⟨g5,u5,v5⟩,⟨g6,u6,v6⟩,⟨g7,u7,v7⟩,⟨g8,u8,v8⟩⟩:=id hS;by_cases hy0:y=0
  ·subst hy0;simp -dsimp only[go_sem,aa,ae,↓reduceIte,ab,e3,u3,v3];refine(jJ (nb.zero 1) om).call ?_;simp -dsimp only[go_sem,aa,ae,↓reduceIte,ab,e2,e3,u2,v2,u3,v3,show(Int.sign 0 != 0)=false from rfl];refine eL 3 [[1,2]] kr ?_
   simp -dsimp only[go_sem,aa,ae,↓reduceIte,ab,e2,e4,e5,e6,u2,v2,u4,u5,v5,u6,v6,nn nf_e,nn ng_e,nn ng_f];simp only[bJ,if_true];rw[hI.fin];exact⟨trivial,trivial,trivial,VR.tup (l:=[.big x,.big a,.big b]) (by simp[oG])⟩
  ·have hs:((y:Int).sign != 0)=true:=by simp;omega
   have lx:x<2^32/\y<2^32:=by
    have h1:=hI.lx;have h2:=hI.ly;omega
   have na1:nb a 32:=Er hI.la om;have na2:nb na 32:=Er hI.lna om;have na3:nb b 32:=Er hI.lb om;have na4:nb nbb 32:=Er hI.lnb om;have nq:nb ((x/y:Nat):Int) 32:=vH (gj (Nat.div_le_self x y) lx.1);have q0:=Df x y;simp -dsimp only[go_sem,aa,ae,↓reduceIte,ab,e3,u3,v3];refine(jJ (vH lx.2) om).call ?_;simp -dsimp only[go_sem,aa,ae,↓reduceIte,ab,e2,e3,u2,v2,u3,v3,hs];refine(kP (vH lx.1) (vH lx.2) om om (bH ((vH lx.1).mono om))).call ?_;rw[q0.1,q0.2];simp -dsimp only[go_sem,aa,↓reduceIte,v2,v3];refine aH.intro fun bj fj=>?_;have hj:bc≠bj/\bd≠bj/\be≠bj/\bf≠bj/\bg≠bj/\bh≠bj/\bi≠bj:=⟨dl.fresh hS.1 fj,dl.fresh hS.2.1 fj,dl.fresh hS.2.2.1 fj,dl.fresh hS.2.2.2.1 fj,dl.fresh hS.2.2.2.2.1 fj,dl.fresh hS.2.2.2.2.2.1 fj,dl.fresh hS.2.2.2.2.2.2 fj⟩;obtain⟨j1,j2,j3,j4,j5,j6,j7⟩:=hj;simp -dsimp only[go_sem];refine aH.intro fun bk fk=>?_;have nk_j:=(ai fk).1;have hk:=(ai fk).2;have hk':bc≠bk/\bd≠bk/\be≠bk/\bf≠bk/\bg≠bk/\bh≠bk/\bi≠bk:=⟨dl.fresh hS.1 hk,dl.fresh hS.2.1 hk,dl.fresh hS.2.2.1 hk,dl.fresh hS.2.2.2.1 hk,dl.fresh hS.2.2.2.2.1 hk,dl.fresh hS.2.2.2.2.2.1 hk,dl.fresh hS.2.2.2.2.2.2 hk⟩;obtain⟨k1,k2,k3,k4,k5,k6,k7⟩:=hk';simp -dsimp only[go_sem,aa,ae,↓reduceIte,ab,nn nk_j];refine eL 2 [[1]] kr ?_
   simp -dsimp only[go_sem,aa,ae,↓reduceIte,ab,e2,e3,u2,v2,u3,v3,nd_c,j1,j2,nn k1,nn k2,ed];refine bM 6 kr ?_
   simp -dsimp only[go_sem,aa,ae,↓reduceIte,ab,e5,e7,u5,v5,u7,v7,nf_c,nf_d,nh_c,nh_d,nh_f,j4,j6,k4,k6,ao nk_j,ed,ao j1,ao j2];refine⟨_,(n9 nq na2 om).pure',_,(zq (na1.mono (om:32<=64)) (nq.mul na2) om).pure',trivial,?_⟩
   refine bM 6 kr ?_
   simp -dsimp only[go_sem,aa,ae,↓reduceIte,ab,e2,e3,e4,e5,e6,e7,e8,u6,v6,u8,v8,ng_c,ng_d,ng_f,ni_c,ni_d,ni_f,ni_g,ni_h,ao nh_g,j5,j7,k5,k7,ao nk_j,ed,ao j1,ao j2,ao j4,ao j6];refine⟨_,(n9 nq na4 om).pure',_,(zq (na3.mono (om:32<=64)) (nq.mul na4) om).pure',trivial,?_⟩
   generalize hT:(((((((((S'.upd bj _).upd bk _).upd bj _).upd bk _).upd bc _).upd bd _).upd bf _).upd bh _).upd bg _).upd bi _=T;have hB:BzS T bc bd be bf bg bh bi (y:Int) ((x%y:Nat):Int) na nbb (a-((x/y:Nat):Int)*na) (b-((x/y:Nat):Int)*nbb):=by
    rw[<-hT];simp only[BzS,dl.at_hit,dl.at_miss,ne_eq,not_false_eq_true,bJ,if_true,and_self,true_and,and_true,ne_c,ne_d,nh_g,ao nd_c,ao nf_c,ao nf_d,ao nf_e,ao ng_c,ao ng_d,ao ng_e,ao ng_f,ao nh_c,ao nh_d,ao nh_e,ao nh_f,ao ni_c,ao ni_d,ao ni_e,ao ni_f,ao ni_g,ao ni_h,j3,k3];exact hS.2.2.1
   refine⟨⟨y,x%y,na,nbb,_,_,hI.step hy0,hB⟩,?_⟩;rw[B6 hB.2.1,B6 hS.2.1];have:=eP x (Nat.pos_of_ne_zero hy0);simp only[fE];exact this
end Go.Proofs.YtdobfmlmenaajaaGreatDoor
