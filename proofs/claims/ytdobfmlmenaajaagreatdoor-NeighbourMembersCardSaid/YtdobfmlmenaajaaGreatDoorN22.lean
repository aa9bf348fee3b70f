/-
  Lemmas for NeighbourMembers.
-/
import Derived.Test.YtdobfmlmenaajaaGreatDoorN21
namespace Go.Proofs.YtdobfmlmenaajaaGreatDoor
open Go.RowKit
open _root_.Bool renaming false_eq_true→aN
open _root_.Int renaming ofNat_lt→af,zero_le_ofNat→ay,tmod_eq_emod_of_nonneg→aL,emod_lt_of_pos→aM,emod_nonneg→aT,mul_le_mul→cH,mul_nonneg→cY,natCast_mul→di,tmod→dW,mul_one→k9,toNat_zero→lR,ofNat_le→sd,ofNat_tmod→vS,add_emod→Bv
open _root_.List renaming not_mem_nil→aZ,getD_cons_succ→bv,forall_mem_cons→bC,getD_cons_zero→bE
open _root_.Nat renaming reduceEqDiff→aa,add_one_le_iff→ab,reduceLT→ae,le_refl→ah,reduceAdd→aj,zero_add→aC,lt_or_ge→aE,eq_zero_or_pos→bO,le_trans→bW,pow_le_pow_right→ca,mul_le_mul→ci,pow_succ→cn
open _root_.Ne renaming symm→ak
open _root_.Option renaming none→ac
set_option maxHeartbeats 6400000
set_option maxRecDepth 4096
set_option linter.all false
structure zy(S:St)(b:Nat)(g:Nat->Nat)(n i:Nat)(A:aU):Prop where
 outer:bB S b 29 1 n (fun a=>if a<i then .sl 1 (g a) 0 n else .nil)
 row:∀a,a<i->nO S (g a) n (A a)
 inj:∀a c,a<i->c<i->g a=g c->a=c
theorem zy.outer_ne{S:St}{b:Nat}{g:Nat->Nat}{n i:Nat}{A:aU}(h:zy S b g n i A){a:Nat}(ha:a<i):b≠g a:=bB.ne h.outer (h.row a ha) om
theorem zy.set{S:St}{b:Nat}{g:Nat->Nat}{n i:Nat}{A:aU}(h:zy S b g n i A){a j:Nat}{z:Int}{g':Nat->AV}(ha:a<i)(hS:S (g a)=some ⟨2,1,n,g'⟩):zy (S.upd (g a) ⟨2,1,n,bK g' j (.int .i64 z)⟩) b g n i (d6 A a j z):=by
 refine⟨h.outer.upd (h.outer_ne ha) _,fun c hc=>?_,h.inj⟩;by_cases e:c=a
 ·subst e;obtain⟨g2,h1,h2⟩:=h.row c hc;rw[hS]at h1;cases h1;refine bB.here fun t ht=>?_;have:=h2 t ht;simp only[bK,d6]
  grind
 ·have hne:g c≠g a:=fun e2=>e (h.inj c a hc ha e2);refine((h.row c hc).upd hne _).congr fun t _=>?_;simp[d6,e]
theorem zy.new{S:St}{b:Nat}{g:Nat->Nat}{n i:Nat}{A:aU}(h:zy S b g n i A){c:Nat}(hi:i<n)(hc:S c=ac){g1:Nat->AV}(hS:S b=some ⟨29,1,n,g1⟩)(h0:∀j,j<n->A i j=0) :
  zy ((S.upd c ⟨2,1,n,fun _=>.int .i64 0⟩).upd b ⟨29,1,n,bK g1 i (.sl 1 c 0 n)⟩) b (fun a=>if a=i then c else g a) n (i+1) A:=by
 have hbc:b≠c:=fun e=>by rw[<-e,hS]at hc;cases hc
 obtain⟨g2,h1,h2⟩:=h.outer;rw[hS]at h1;cases h1;refine⟨bB.here fun a ha=>?_,fun a ha=>?_,fun a d ha hd e=>?_⟩
 ·have:=h2 a ha;simp only[bK];grind
 ·by_cases e:a=i
  ·subst e;simp only[if_true];exact(bB.here fun j hj=>by rw[h0 j hj]).upd (ak hbc) _
  ·simp only[e,if_false];have r:=h.row a om;exact(r.upd (bB.fresh r hc) _).upd (ak (h.outer_ne om)) _
 ·have q:∀a,a<i->g a≠c:=fun a ha=>bB.fresh (h.row a ha) hc;have:=h.inj
  grind
structure LD(n i:Nat)(A:aU):Prop where
 sym:∀a c,A a c=A c a
 out:∀a c,i<=a∨i<=c->A a c=0
 diag:∀a,a<i->A a a=2
 small:∀a c,-9<=A a c/\A a c<=9
def ChI(S0 S:St)(b n i:Nat):Prop:=∃(g:Nat->Nat) (A:aU),zy S b g n i A/\LD n i A/\eZ S0 S/\S0 b=ac/\∀a,a<i->S0 (g a)=ac
theorem LD.next0{n i:Nat}{A:aU}(h:LD n i A):LD n (i+1) (d6 A i i 2):=by
 refine⟨fun a c=>?_,fun a c hac=>?_,fun a ha=>?_,fun a c=>?_⟩
 ·have:=h.sym a c;simp only[d6];grind
 ·simp only[d6];rw[if_neg om];exact h.out a c om
 ·simp only[d6];by_cases e:a=i
  ·simp[e]
  ·rw[if_neg om];exact h.diag a om
 ·have:=h.small a c;simp only[d6];split
  ·omega
  ·exact this
theorem LD.next{n i m:Nat}{A:aU}(h:LD n i A)(hm:m<i):LD n (i+1) (d6 (d6 (d6 A i i 2) i m (-1)) m i (-1)):=by
 have h1:=h.next0;refine⟨fun a c=>?_,fun a c hac=>?_,fun a ha=>?_,fun a c=>?_⟩
 ·have:=h1.sym a c;simp only[d6]at this ⊢;grind
 ·have:=h1.out a c hac;simp only[d6]at this ⊢;grind
 ·have:=h1.diag a ha;simp only[d6]at this ⊢;grind
 ·have:=h1.small a c;simp only[d6]at this ⊢;grind
theorem vf(S0:St)(n:Nat)(fork:Bool)(hn:n<=8):cM 149 [.int .i64 n,.bool fork] S0 (fun r S'=>∃b,r=.sl 1 b 0 n/\ChI S0 S' b n n):=by
 refine aA Tryz.func149 rfl 57 Tryz.ntmps149 (by kernel_rfl) (by simp) (by simp[Tryz.results149]) ?_
 rw[aS,Tryz.results149];simp -dsimp only[go_sem,aj,aa,reduceCtorEq]
 repeat refine an ?_
 refine aG.intro fun b5 f5=>?_;simp -dsimp only[go_sem]
 repeat refine an ?_
 refine aI (fun O S=>∃i:Nat,i<=n/\O 0=.int .i64 n/\O 1=.bool fork/\O 5=.sl 1 b5 0 n/\O 11=.int .i64 n/\O 12=.int .i64 i/\ChI S0 S b5 n i) (fun O S=>n-bY (O 12)) ?_ ?_
 ·simp -dsimp only[go_sem,aa,reduceCtorEq];exact⟨0,by omega,rfl,fun _=>0,fun _ _=>0,⟨bB.here fun _ _=>by simp,fun a ha=>by omega,fun a c ha=>by omega⟩,⟨fun _ _=>rfl,fun _ _ _=>rfl,fun a ha=>by omega,fun _ _=>by omega⟩,(eZ.refl S0).upd f5 _,f5,fun a ha=>by omega⟩
 ·rintro O S ⟨i,hi,e0,e1,e5,e11,e12,g,A,hM,hC,hE,hb0,hg0⟩;by_cases hlt:i<n
  ·obtain⟨g1,u1,v1⟩:=hM.outer;simp -dsimp only[go_sem,aa,↓reduceIte,reduceCtorEq,af,decide_true,ab,e0,e1,e5,e11,e12,hlt]
   repeat refine an ?_
   refine aG.intro fun b18 f18=>?_;have h518:b5≠b18:=fun e=>by rw[<-e,u1]at f18;cases f18
   have hM1:=hM.new hlt f18 u1 (fun j _=>hC.out i j om);have hE1:=(hE.upd (hE.none f18) ⟨2,1,n,fun _=>.int .i64 0⟩).upd hb0 ⟨29,1,n,bK g1 i (.sl 1 b18 0 n)⟩;have hw1:IntKind.i64.wrap ((i:Int)-1)=(i:Int)-1:=i64_in om om;have hw2:IntKind.i64.wrap ((i:Int)-2)=(i:Int)-2:=i64_in om om;have hwn:IntKind.i64.wrap ((n:Int)-1)=(n:Int)-1:=i64_in om om;have hg1:∀a,a<i+1->S0 ((fun a=>if a=i then b18 else g a) a)=ac:=fun a ha=>by
    by_cases e:a=i
    ·simp only[e,if_true];exact hE.none f18
    ·simp only[e,if_false];exact hg0 a om
   have hM2:=hM1.set (a:=i) (j:=i) (z:=2) (g':=fun _=>.int .i64 0) om (by simp only[if_true];rw[aQ (ak h518)];exact bV)
   simp only[if_true]at hM2;have hE2:=hE1.upd (hE.none f18) ⟨2,1,n,bK (fun _=>.int .i64 0) i (.int .i64 2)⟩;by_cases hB:fork=true/\i+1=n/\3<n
   ·obtain⟨rfl,hin,h3⟩:=hB;obtain⟨m,hm⟩:∃m,i=m+2:=⟨i-2,by omega⟩
    have q1:((i:Int)==(n:Int)-1)=true:=by simp;omega
    have q2:(3:Int)<(n:Int):=by omega
    have q3:IntKind.i64.wrap ((i:Int)-2)=(m:Nat):=dq om om;simp -dsimp only[go_sem,↓reduceIte,reduceCtorEq,af,decide_true,hlt,nn h518,u1,bK,hwn,hw1,q1,q2,q3]
    repeat refine an ?_
    have hmn:m<n:=by omega
    have hM3:=hM2.set (a:=i) (j:=m) (z:=-1) (g':=bK (fun _=>.int .i64 0) i (.int .i64 2)) om (by simp only[if_true];exact bV)
    simp only[if_true]at hM3;obtain⟨gm,um,vm⟩:=hM3.row m om;have hmi:m≠i:=by omega
    simp only[hmi,if_false]at um vm;have hM4:=hM3.set (a:=m) (j:=i) (z:=-1) (g':=gm) om (by simp only[hmi,if_false];exact um)
    simp only[hmi,if_false]at hM4;have wm:g1 m=.sl 1 (g m) 0 n:=by rw[v1 m hmn];simp only[];rw[if_pos om]
    have hgm:g m≠b18:=bB.fresh (hM.row m om) f18;have hgb:g m≠b5:=ak (hM.outer_ne om);obtain⟨gm0,um0,vm0⟩:=hM.row m om;obtain rfl:gm0=gm:=by
     rw[aQ hgm,aQ hgm,aQ hgb,aQ hgm,um0]at um;cases um;rfl
    refine gR 11 (by kernel_rfl) ?_
    simp -dsimp only[go_sem,aa,↓reduceIte,reduceCtorEq,af,ab,e0,e1,e5,e11,e12,hlt,h518,bK,hmn,wm,hgm,hgb,um0,hmi,aW (show i<1000000 by omega),bY]
    repeat refine an ?_
    exact⟨⟨i+1,by omega,rfl,_,_,hM4,hC.next om,(hE2.upd (hE.none f18) _).upd (hg0 m om) _,hb0,hg1⟩,by omega⟩
   ·cases hfk:fork with
    | false =>
     rw[hfk]at e1;rcases bO i with hi0|hi0
     ·have q3:IntKind.i64.wrap ((i:Int)-1)=-1:=by rw[hi0];decide
      have q4:¬((0:Int)<=-1):=by decide
      simp -dsimp only[go_sem,↓reduceIte,reduceCtorEq,af,decide_false,hlt,nn h518,u1,bK,hwn,q3,q4,aW (show i<1000000 by omega),bY]
      repeat refine an ?_
      exact⟨⟨i+1,by omega,rfl,_,_,hM2,hC.next0,hE2,hb0,hg1⟩,by omega⟩
     ·obtain⟨m,hm⟩:∃m,i=m+1:=⟨i-1,by omega⟩
      have q3:IntKind.i64.wrap ((i:Int)-1)=(m:Nat):=dq om om;simp -dsimp only[go_sem,↓reduceIte,reduceCtorEq,af,decide_true,hlt,nn h518,u1,bK,hwn,q3]
      repeat refine an ?_
      have hmn:m<n:=by omega
      have hM3:=hM2.set (a:=i) (j:=m) (z:=-1) (g':=bK (fun _=>.int .i64 0) i (.int .i64 2)) om (by simp only[if_true];exact bV)
      simp only[if_true]at hM3;obtain⟨gm,um,vm⟩:=hM3.row m om;have hmi:m≠i:=by omega
      simp only[hmi,if_false]at um vm;have hM4:=hM3.set (a:=m) (j:=i) (z:=-1) (g':=gm) om (by simp only[hmi,if_false];exact um)
      simp only[hmi,if_false]at hM4;have wm:g1 m=.sl 1 (g m) 0 n:=by rw[v1 m hmn];simp only[];rw[if_pos om]
      have hgm:g m≠b18:=bB.fresh (hM.row m om) f18;have hgb:g m≠b5:=ak (hM.outer_ne om);obtain⟨gm0,um0,vm0⟩:=hM.row m om;obtain rfl:gm0=gm:=by
       rw[aQ hgm,aQ hgm,aQ hgb,aQ hgm,um0]at um;cases um;rfl
      refine gR 11 (by kernel_rfl) ?_
      simp -dsimp only[go_sem,aa,↓reduceIte,reduceCtorEq,af,ab,e0,e1,e5,e11,e12,hlt,h518,bK,hmn,wm,hgm,hgb,um0,hmi,aW (show i<1000000 by omega),bY]
      repeat refine an ?_
      exact⟨⟨i+1,by omega,rfl,_,_,hM4,hC.next om,(hE2.upd (hE.none f18) _).upd (hg0 m om) _,hb0,hg1⟩,by omega⟩
    | true =>
     rw[hfk]at e1;by_cases hin:i+1=n
     ·have q1:((i:Int)==(n:Int)-1)=true:=by simp;omega
      have h3:¬3<n:=fun h=>hB ⟨hfk,hin,h⟩;have q2:¬(3:Int)<(n:Int):=by omega
      rcases bO i with hi0|hi0
      ·have q3:IntKind.i64.wrap ((i:Int)-1)=-1:=by rw[hi0];decide
       have q4:¬((0:Int)<=-1):=by decide
       simp -dsimp only[go_sem,↓reduceIte,reduceCtorEq,af,decide_false,hlt,nn h518,u1,bK,hwn,q1,q2,q3,q4,aW (show i<1000000 by omega),bY]
       repeat refine an ?_
       exact⟨⟨i+1,by omega,rfl,_,_,hM2,hC.next0,hE2,hb0,hg1⟩,by omega⟩
      ·obtain⟨m,hm⟩:∃m,i=m+1:=⟨i-1,by omega⟩
       have q3:IntKind.i64.wrap ((i:Int)-1)=(m:Nat):=dq om om;simp -dsimp only[go_sem,↓reduceIte,reduceCtorEq,af,decide_true,decide_false,hlt,nn h518,u1,bK,hwn,q1,q2,q3]
       repeat refine an ?_
       have hmn:m<n:=by omega
       have hM3:=hM2.set (a:=i) (j:=m) (z:=-1) (g':=bK (fun _=>.int .i64 0) i (.int .i64 2)) om (by simp only[if_true];exact bV)
       simp only[if_true]at hM3;obtain⟨gm,um,vm⟩:=hM3.row m om;have hmi:m≠i:=by omega
       simp only[hmi,if_false]at um vm;have hM4:=hM3.set (a:=m) (j:=i) (z:=-1) (g':=gm) om (by simp only[hmi,if_false];exact um)
       simp only[hmi,if_false]at hM4;have wm:g1 m=.sl 1 (g m) 0 n:=by rw[v1 m hmn];simp only[];rw[if_pos om]
       have hgm:g m≠b18:=bB.fresh (hM.row m om) f18;have hgb:g m≠b5:=ak (hM.outer_ne om);obtain⟨gm0,um0,vm0⟩:=hM.row m om;obtain rfl:gm0=gm:=by
        rw[aQ hgm,aQ hgm,aQ hgb,aQ hgm,um0]at um;cases um;rfl
       refine gR 11 (by kernel_rfl) ?_
       simp -dsimp only[go_sem,aa,↓reduceIte,reduceCtorEq,af,ab,e0,e1,e5,e11,e12,hlt,h518,bK,hmn,wm,hgm,hgb,um0,hmi,aW (show i<1000000 by omega),bY]
       repeat refine an ?_
       exact⟨⟨i+1,by omega,rfl,_,_,hM4,hC.next om,(hE2.upd (hE.none f18) _).upd (hg0 m om) _,hb0,hg1⟩,by omega⟩
     ·have q1:((i:Int)==(n:Int)-1)=false:=by simp;omega
      rcases bO i with hi0|hi0
      ·have q3:IntKind.i64.wrap ((i:Int)-1)=-1:=by rw[hi0];decide
       have q4:¬((0:Int)<=-1):=by decide
       simp -dsimp only[go_sem,↓reduceIte,reduceCtorEq,af,decide_false,hlt,nn h518,u1,bK,hwn,q1,q3,q4,aW (show i<1000000 by omega),bY]
       repeat refine an ?_
       exact⟨⟨i+1,by omega,rfl,_,_,hM2,hC.next0,hE2,hb0,hg1⟩,by omega⟩
      ·obtain⟨m,hm⟩:∃m,i=m+1:=⟨i-1,by omega⟩
       have q3:IntKind.i64.wrap ((i:Int)-1)=(m:Nat):=dq om om;simp -dsimp only[go_sem,↓reduceIte,reduceCtorEq,af,decide_true,hlt,nn h518,u1,bK,hwn,q1,q3]
       repeat refine an ?_
       have hmn:m<n:=by omega
       have hM3:=hM2.set (a:=i) (j:=m) (z:=-1) (g':=bK (fun _=>.int .i64 0) i (.int .i64 2)) om (by simp only[if_true];exact bV)
       simp only[if_true]at hM3;obtain⟨gm,um,vm⟩:=hM3.row m om;have hmi:m≠i:=by omega
       simp only[hmi,if_false]at um vm;have hM4:=hM3.set (a:=m) (j:=i) (z:=-1) (g':=gm) om (by simp only[hmi,if_false];exact um)
       simp only[hmi,if_false]at hM4;have wm:g1 m=.sl 1 (g m) 0 n:=by rw[v1 m hmn];simp only[];rw[if_pos om]
       have hgm:g m≠b18:=bB.fresh (hM.row m om) f18;have hgb:g m≠b5:=ak (hM.outer_ne om);obtain⟨gm0,um0,vm0⟩:=hM.row m om;obtain rfl:gm0=gm:=by
        rw[aQ hgm,aQ hgm,aQ hgb,aQ hgm,um0]at um;cases um;rfl
       refine gR 11 (by kernel_rfl) ?_
       simp -dsimp only[go_sem,aa,↓reduceIte,reduceCtorEq,af,ab,e0,e1,e5,e11,e12,hlt,h518,bK,hmn,wm,hgm,hgb,um0,hmi,aW (show i<1000000 by omega),bY]
       repeat refine an ?_
       exact⟨⟨i+1,by omega,rfl,_,_,hM4,hC.next om,(hE2.upd (hE.none f18) _).upd (hg0 m om) _,hb0,hg1⟩,by omega⟩
  ·obtain rfl:i=n:=by omega
   simp -dsimp only[go_sem,aa,↓reduceIte,reduceCtorEq,af,decide_false,ab,e0,e1,e5,e11,e12,hlt]
   repeat refine an ?_
   exact⟨b5,rfl,g,A,hM,hC,hE,hb0,hg0⟩
theorem nb9{z:Int}(h:-9<=z/\z<=9):nb z 4:=by unfold nb;omega
theorem JT{z:Int}(h:-9<=z/\z<=9):Ki z:=by unfold Ki;omega
theorem gN(n:Nat)(A:aU)(h1:1<=n)(h2:n<=8)(hS:∀a c,a<n->c<n->A a c=A c a)(hA:∀a c,a<n->c<n->-9<=A a c/\A a c<=9)(β:Bool)(hβ:β=true↔(∀k,k<=n->0<det k A)/\det n A<=10000):PF 152 [aK n n A] (.bool β):=by
 refine PF.of_spec (aA Tryz.func152 rfl 16 Tryz.ntmps152 (by kernel_rfl) (by simp) (by simp[Tryz.results152]) ?_)
 rw[aS,Tryz.results152];have hn4:∀i j,i<n->j<n->nb (A i j) 4:=fun i j hi hj=>nb9 (hA i j hi hj);have hd:=lZ (k:=n) (n:=n) om hn4 (ah _);have h3:nb 10000 (17*(4+10)):=Nat.lt_of_lt_of_le (by decide:10000<2^14) (ca om om)
 simp -dsimp only[go_sem,aa,ae,reduceCtorEq,ab]
 repeat refine an ?_
 refine(DR n n A h1 om h1 om (fun i j hi hj=>JT (hA i j hi hj))).call ?_;simp -dsimp only[go_sem,aa,ae,reduceCtorEq,ab]
 repeat refine an ?_
 rcases Classical.em (∀k,k<=n->0<det k A)with hp|hp
 ·refine(oP n A 4 h1 h2 hn4 om hS true (by simp;exact hp)).call ?_
  simp -dsimp only[go_sem,aa,ae,↓reduceIte,ab,show((0:Int)==0)=true from rfl]
  repeat refine an ?_
  refine(iM n A 4 h1 om hn4 om).call ?_;simp -dsimp only[go_sem,aa,ae,↓reduceIte,ab,show((0:Int)==0)=true from rfl]
  repeat refine an ?_
  refine(fA (by decide) (by decide)).call ?_
  simp -dsimp only[go_sem,aa,ae,↓reduceIte,ab,show((0:Int)==0)=true from rfl]
  repeat refine an ?_
  refine(qm hd h3 om).call ?_;simp -dsimp only[go_sem,aa,↓reduceIte,show((0:Int)==0)=true from rfl,ze]
  repeat refine an ?_
  have:β=decide (det n A<=10000):=by
   cases β with
   | true=>have:=(hβ.1 rfl).2;simp[this]
   | false =>
    by_cases h:det n A<=10000
    ·exact absurd (hβ.2 ⟨hp,h⟩) (by simp)
    ·simp[h]
  rw[this];exact VR.mf rfl
 ·refine(oP n A 4 h1 h2 hn4 om hS false (by simp only[aN,false_iff];exact hp)).call ?_
  simp -dsimp only[go_sem,aa,↓reduceIte,show((5:Int)==0)=false from rfl]
  repeat refine an ?_
  have:β=false:=by
   cases β with
   | false=>rfl
   | true=>exact absurd (hβ.1 rfl).1 hp
  rw[this];exact VR.mf rfl
structure Kl(n:Nat)(A:aU):Prop where
 one:1<=n
 five:n<=5
 sym:∀a c,a<n->c<n->A a c=A c a
 pos:∀k,k<=n->0<det k A
 small:det n A<=10000
 diag:∀i,i<n->A i i<=9
 ent:∀a c,a<n->c<n->-9<=A a c/\A a c<=9
theorem F4{n:Nat}{f:Nat->Int}(h:∀i,i<n->0<f i/\f i<=2):lF n f<=2^n:=by
 induction n generalizing f with
 | zero=>simp[lF]
 | succ n ih =>
  simp only[lF];have h1:=ih (f:=fun i=>f (i+1)) (fun i hi=>h (i+1) om);have h2:=rI (n:=n) (f:=fun i=>f (i+1)) (fun i hi=>(h (i+1) om).1);have h3:=cH (h 0 om).2 h1 (Int.le_of_lt h2) om;rw[Int.pow_succ];omega
theorem Bw.det{n most:Nat}{A:aU}(h:Bw n most A){k:Nat}(hk:k<=n):det k A=lF k (fun r=>A r r):=by
 have h1:=tp (n:=0) k A (by rw[aC];exact fun r hr=>⟨fun j hj hjk=>(h r om).2 j om om,by have:=(h r om).1.1;omega⟩)
 rw[aC]at h1;rw[h1,show Go.Proofs.YtdobfmlmenaajaaGreatDoor.det 0 _=1 from rfl,k9]
theorem Bw.good{n:Nat}{A:aU}(h:Bw n 2 A)(h1:1<=n)(h2:n<=5):Kl n A:=by
 have hp:∀k,k<=n->0<Go.Proofs.YtdobfmlmenaajaaGreatDoor.det k A:=fun k hk=>by
  rw[h.det hk];exact rI fun i hi=>by have:=(h i om).1.1;omega
 refine⟨h1,h2,fun a c ha hc=>?_,hp,?_,fun i hi=>by have:=(h i hi).1.2;omega,fun a c ha hc=>?_⟩
 ·by_cases e:a=c
  ·rw[e]
  ·rw[(h a ha).2 c hc (ak e),(h c hc).2 a ha e]
 ·rw[h.det (ah _)];have h3:=F4 (n:=n) (f:=fun r=>A r r) (fun i hi=>by have:=(h i hi).1;constructor<;>omega)
  have h4:=lY h2;have h5:(2:Int)^5=32:=by decide
  omega
 ·by_cases e:c=a
  ·have:=(h a ha).1;rw[e];omega
  ·rw[(h a ha).2 c hc e];omega
def IH(d k L:Nat)(nums:Nat->Int)(Lb:Nat)(base:Nat->AV):AV:=.agg [.int .u8 d,.int .u8 k,.lst 1 L (fun i=>.int .i8 (nums i)),.lst 1 Lb base]
def EIM(f:Nat)(args:List AV)(P:Nat->aU->Prop):Prop:=∀S args',dY S args' args->cM f args' S (fun r S'=>∃b g n A,P n A/\r=.sl 1 b 0 n/\iB S S' b g n n A)
theorem EIM.of{f:Nat}{args:List AV}{P:Nat->aU->Prop}(h:cM f args St.none (fun r S'=>∃b g n A,P n A/\r=.sl 1 b 0 n/\dD S' b g n n A)):EIM f args P:=fun S args' hv=>by
 have h1:cM f args St.none (fun r S'=>∃b g n A,P n A/\r=.sl 1 b 0 n/\dD S' b g n n A/\Fk S'):=h.less fun r S' ⟨b,g,n,A,hP,e,hm⟩=>⟨fB S' b g n,iF S' b g n,b,g,n,A,hP,e,hm.only.1,hm.only.2⟩;refine(h1.frame hv ?_).mono ?_
 ·rintro r S1 ⟨b,g,n,A,_,rfl,_,hc⟩;exact⟨rfl,hc⟩
 ·rintro r S' ⟨S1,⟨b,g,n,A,hP,rfl,hm,_⟩,hd,rfl⟩;exact⟨b,g,n,A,hP,rfl,hm.join hd⟩
theorem Hb(d k L:Nat)(nums:Nat->Int)(Lb:Nat)(base:Nat->AV)(hd:d<256)(hk:k<256)(hnums:∀i,i<L->-128<=nums i/\nums i<=127):EIM 89 [IH d k L nums Lb base,.int .i64 5] Kl:=by
 refine EIM.of ?_;refine aA Tryz.func89 rfl 74 Tryz.ntmps89 (by kernel_rfl) (by simp) (by simp[Tryz.results89]) ?_
 rw[aS,Tryz.results89];obtain⟨n,hn,hnd⟩:∃n,n=1+d%5/\1+d%5=n:=⟨_,rfl,rfl⟩;have hn5:n<=5:=by omega
 have hnn:n*n<=25:=ci hn5 hn5;have w1:IntKind.i64.wrap (d:Int)=(d:Nat):=i64_in om om;have w2:dW (d:Int) 5=((d%5:Nat):Int):=by rw[vS];rfl
 have w3:IntKind.i64.wrap (1+((d%5:Nat):Int))=(n:Nat):=dq om om;have w4:dW (k:Int) 8=((k%8:Nat):Int):=by rw[vS];rfl
 simp -dsimp only[go_sem,aj,aa,ae,↓reduceIte,reduceCtorEq,ab,IH,bC,aZ,false_implies,implies_true]
 repeat refine an ?_
 refine aG.intro fun b2 f2=>?_;simp -dsimp only[go_sem,ae,bE,bv]
 repeat refine an ?_
 refine aG.intro fun b5 f5=>?_;have n5_2:=(ai f5).1;have hT0:gJ ((St.none.upd b2 ⟨24,1,4,fun j=>[AV.int .u8 d,.int .u8 k,.lst 1 L (fun i=>.int .i8 (nums i)),.lst 1 Lb base].getD j .any⟩).upd b5 ⟨107,1,2,fun j=>[AV.lst 1 L (fun i=>.int .i8 (nums i)),.int .i64 0].getD j .any⟩) b5 0:=⟨L,nums,0,_,bV,rfl,rfl,ah _,hnums⟩;obtain⟨q,hq,hq8⟩:∃q,q=k%8/\q<8:=⟨_,rfl,Nat.mod_lt _ om⟩;rw[<-hq]at w4;simp -dsimp only[go_sem,ae,ak n5_2,bE,bv,w1,w2,w3,w4,show ¬((5:Int)=0) by decide,show ¬((8:Int)=0) by decide]
 repeat refine an ?_
 have hq':q=0∨q=1∨q=2∨q=3∨q=4∨q=5∨q=6∨q=7:=by omega
 clear hq w4;rcases hq' with rfl|rfl|rfl|rfl|rfl|rfl|rfl|rfl
 ·simp -dsimp only[go_sem,show((((0:Nat)):Int)==0)=true from rfl]
  repeat refine an ?_
  refine(lg _ b5 0 n hT0 om om).mono ?_;rintro r S1 ⟨b,rfl,g,A,hM,hTp,hFr,hb0,hg0,hP⟩;have hSym:=And.intro hP.sym hP.small;simp -dsimp only[go_sem,aa,ae,ab,w1,w2,w3]
  repeat refine an ?_
  rcases Classical.em ((∀k,k<=n->0<det k A)/\det n A<=10000)with hg|hg
  ·refine(gN n A om om hSym.1 hSym.2 true (by simp only[true_iff];exact hg)).spec (dY.cons hM.vr.va dY.nil) ?_
   simp -dsimp only[go_sem,aa,ae,ab]
   repeat refine an ?_
   exact⟨b,g,n,A,⟨by omega,by omega,hSym.1,hg.1,hg.2,fun i hi=>(hSym.2 i i hi hi).2,hSym.2⟩,rfl,hM⟩
  ·refine(gN n A om om hSym.1 hSym.2 false (by simp only[aN,false_iff];exact hg)).spec (dY.cons hM.vr.va dY.nil) ?_
   simp -dsimp only[go_sem,aa,ae,ab]
   repeat refine an ?_
   refine(eg _ b5 _ n 2 hTp om om om).mono ?_;rintro r S9 ⟨b',g',A',rfl,hM',hTp',hFr',hD',_,_⟩;simp -dsimp only[go_sem,aa]
   repeat refine an ?_
   exact⟨b',g',n,A',hD'.good om om,rfl,hM'⟩
 ·simp -dsimp only[go_sem,show((((1:Nat)):Int)==0)=false from rfl,show((((1:Nat)):Int)==1)=true from rfl]
  repeat refine an ?_
  refine(lg _ b5 0 n hT0 om om).mono ?_;rintro r S1 ⟨b,rfl,g,A,hM,hTp,hFr,hb0,hg0,hP⟩;have hSym:=And.intro hP.sym hP.small;simp -dsimp only[go_sem,aa,ae,ab,w1,w2,w3]
  repeat refine an ?_
  rcases Classical.em ((∀k,k<=n->0<det k A)/\det n A<=10000)with hg|hg
  ·refine(gN n A om om hSym.1 hSym.2 true (by simp only[true_iff];exact hg)).spec (dY.cons hM.vr.va dY.nil) ?_
   simp -dsimp only[go_sem,aa,ae,ab]
   repeat refine an ?_
   exact⟨b,g,n,A,⟨by omega,by omega,hSym.1,hg.1,hg.2,fun i hi=>(hSym.2 i i hi hi).2,hSym.2⟩,rfl,hM⟩
  ·refine(gN n A om om hSym.1 hSym.2 false (by simp only[aN,false_iff];exact hg)).spec (dY.cons hM.vr.va dY.nil) ?_
   simp -dsimp only[go_sem,aa,ae,ab]
   repeat refine an ?_
   refine(eg _ b5 _ n 2 hTp om om om).mono ?_;rintro r S9 ⟨b',g',A',rfl,hM',hTp',hFr',hD',_,_⟩;simp -dsimp only[go_sem,aa]
   repeat refine an ?_
   exact⟨b',g',n,A',hD'.good om om,rfl,hM'⟩
 ·simp -dsimp only[go_sem,show((((2:Nat)):Int)==0)=false from rfl,show((((2:Nat)):Int)==1)=false from rfl,show((((2:Nat)):Int)==2)=true from rfl]
  repeat refine an ?_
  refine(lg _ b5 0 n hT0 om om).mono ?_;rintro r S1 ⟨b,rfl,g,A,hM,hTp,hFr,hb0,hg0,hP⟩;have hSym:=And.intro hP.sym hP.small;simp -dsimp only[go_sem,aa,ae,ab,w1,w2,w3]
  repeat refine an ?_
  rcases Classical.em ((∀k,k<=n->0<det k A)/\det n A<=10000)with hg|hg
  ·refine(gN n A om om hSym.1 hSym.2 true (by simp only[true_iff];exact hg)).spec (dY.cons hM.vr.va dY.nil) ?_
   simp -dsimp only[go_sem,aa,ae,ab]
   repeat refine an ?_
   exact⟨b,g,n,A,⟨by omega,by omega,hSym.1,hg.1,hg.2,fun i hi=>(hSym.2 i i hi hi).2,hSym.2⟩,rfl,hM⟩
  ·refine(gN n A om om hSym.1 hSym.2 false (by simp only[aN,false_iff];exact hg)).spec (dY.cons hM.vr.va dY.nil) ?_
   simp -dsimp only[go_sem,aa,ae,ab]
   repeat refine an ?_
   refine(eg _ b5 _ n 2 hTp om om om).mono ?_;rintro r S9 ⟨b',g',A',rfl,hM',hTp',hFr',hD',_,_⟩;simp -dsimp only[go_sem,aa]
   repeat refine an ?_
   exact⟨b',g',n,A',hD'.good om om,rfl,hM'⟩
 ·simp -dsimp only[go_sem,show((((3:Nat)):Int)==0)=false from rfl,show((((3:Nat)):Int)==1)=false from rfl,show((((3:Nat)):Int)==2)=false from rfl,show((((3:Nat)):Int)==3)=true from rfl]
  repeat refine an ?_
  refine(lg _ b5 0 n hT0 om om).mono ?_;rintro r S1 ⟨b,rfl,g,A,hM,hTp,hFr,hb0,hg0,hP⟩;have hSym:=And.intro hP.sym hP.small;simp -dsimp only[go_sem,aa,ae,ab,w1,w2,w3]
  repeat refine an ?_
  rcases Classical.em ((∀k,k<=n->0<det k A)/\det n A<=10000)with hg|hg
  ·refine(gN n A om om hSym.1 hSym.2 true (by simp only[true_iff];exact hg)).spec (dY.cons hM.vr.va dY.nil) ?_
   simp -dsimp only[go_sem,aa,ae,ab]
   repeat refine an ?_
   exact⟨b,g,n,A,⟨by omega,by omega,hSym.1,hg.1,hg.2,fun i hi=>(hSym.2 i i hi hi).2,hSym.2⟩,rfl,hM⟩
  ·refine(gN n A om om hSym.1 hSym.2 false (by simp only[aN,false_iff];exact hg)).spec (dY.cons hM.vr.va dY.nil) ?_
   simp -dsimp only[go_sem,aa,ae,ab]
   repeat refine an ?_
   refine(eg _ b5 _ n 2 hTp om om om).mono ?_;rintro r S9 ⟨b',g',A',rfl,hM',hTp',hFr',hD',_,_⟩;simp -dsimp only[go_sem,aa]
   repeat refine an ?_
   exact⟨b',g',n,A',hD'.good om om,rfl,hM'⟩
 ·simp -dsimp only[go_sem,show((((4:Nat)):Int)==0)=false from rfl,show((((4:Nat)):Int)==1)=false from rfl,show((((4:Nat)):Int)==2)=false from rfl,show((((4:Nat)):Int)==3)=false from rfl,show((((4:Nat)):Int)==4)=true from rfl]
  repeat refine an ?_
  refine(vf _ n false om).mono ?_;rintro r S1 ⟨b,rfl,g,A,hM0,hC,hE,hb0,hg0⟩;have hM1:dD S1 b g n n A:=⟨hM0.outer.congr fun a ha=>by simp[ha],hM0.row,hM0.inj⟩
  have hT1:gJ S1 b5 0:=hT0.step ((hE _ _ bV).trans bV.symm);have hp:(0:Nat)<n:=by omega
  obtain⟨g1,u1,v1⟩:=hM1.outer;obtain⟨g2,u2,v2⟩:=hM1.row 0 hp;have x1:g1 0=.sl 1 (g 0) 0 n:=v1 0 hp;have x2:g2 0=.int .i64 2:=by rw[v2 0 hp];simp only[hC.diag 0 hp]
  simp -dsimp only[go_sem,aa,w1,w2,w3]
  repeat refine an ?_
  refine ee 6 [[0,1,2,3,4],[0,1],[]] (by kernel_rfl) ?_
  simp -dsimp only[go_sem,aa,ae,↓reduceIte,ay,ab,u1,u2,x1,x2,show((0:Int)<(n:Int)) by omega,lR]
  repeat refine an ?_
  refine(p9 _ b5 0 3 hT1 om om om).mono ?_;rintro r S2 ⟨z,hz,rfl,hT2,hkk⟩;have hbt:b5≠b:=hT1.ne u1 om;have hbg:∀a,a<n->g a≠b5:=fun a ha=>by obtain⟨gg,hgg,_⟩:=hM1.row a ha;exact ak (hT1.ne hgg om)
  have hM2:dD S2 b g n n A:=⟨hM1.outer.via fun X hX=>by rw[hkk b (ak hbt)];exact hX,fun a ha=>(hM1.row a ha).via fun X hX=>by rw[hkk _ (hbg a ha)];exact hX,hM1.inj⟩
  have u1':S2 b=some ⟨29,1,n,g1⟩:=by rw[hkk b (ak hbt)];exact u1
  have u2':S2 (g 0)=some ⟨2,1,n,g2⟩:=by rw[hkk _ (hbg 0 hp)];exact u2
  have wz:IntKind.i64.wrap (2+(z:Int))=((2+z:Nat):Int):=dq om om;simp -dsimp only[go_sem,aa,ae,↓reduceIte,reduceCtorEq,ay,ab,u1',u2',x1,x2,wz,show((0:Int)<(n:Int)) by omega,lR]
  repeat refine an ?_
  have hM:=hM2.set (j:=0) (z:=((2+z:Nat):Int)) hp u2';have hTp:=hT2.upd (ak (hbg 0 hp)) ⟨2,1,n,bK g2 0 (.int .i64 ((2+z:Nat):Int))⟩;have hSym:(∀a c,a<n->c<n->d6 A 0 0 ((2+z:Nat):Int) a c=d6 A 0 0 ((2+z:Nat):Int) c a)/\∀a c,a<n->c<n->-9<=d6 A 0 0 ((2+z:Nat):Int) a c/\d6 A 0 0 ((2+z:Nat):Int) a c<=9:=by
   refine⟨fun a c _ _=>?_,fun a c _ _=>?_⟩
   ·have:=hC.sym a c;simp only[d6];grind
   ·have:=hC.small a c;simp only[d6];split
    ·omega
    ·exact this
  generalize d6 A 0 0 ((2+z:Nat):Int)=A at *;rcases Classical.em ((∀k,k<=n->0<det k A)/\det n A<=10000)with hg|hg
  ·refine(gN n A om om hSym.1 hSym.2 true (by simp only[true_iff];exact hg)).spec (dY.cons hM.vr.va dY.nil) ?_
   simp -dsimp only[go_sem,aa,ae,ab]
   repeat refine an ?_
   exact⟨b,g,n,A,⟨by omega,by omega,hSym.1,hg.1,hg.2,fun i hi=>(hSym.2 i i hi hi).2,hSym.2⟩,rfl,hM⟩
  ·refine(gN n A om om hSym.1 hSym.2 false (by simp only[aN,false_iff];exact hg)).spec (dY.cons hM.vr.va dY.nil) ?_
   simp -dsimp only[go_sem,aa,ae,ab]
   repeat refine an ?_
   refine(eg _ b5 _ n 2 hTp om om om).mono ?_;rintro r S9 ⟨b',g',A',rfl,hM',hTp',hFr',hD',_,_⟩;simp -dsimp only[go_sem,aa]
   repeat refine an ?_
   exact⟨b',g',n,A',hD'.good om om,rfl,hM'⟩
 ·simp -dsimp only[go_sem,show((((5:Nat)):Int)==0)=false from rfl,show((((5:Nat)):Int)==1)=false from rfl,show((((5:Nat)):Int)==2)=false from rfl,show((((5:Nat)):Int)==3)=false from rfl,show((((5:Nat)):Int)==4)=false from rfl,show((((5:Nat)):Int)==5)=true from rfl]
  repeat refine an ?_
  refine(vf _ n true om).mono ?_;rintro r S1 ⟨b,rfl,g,A,hM0,hC,hE,hb0,hg0⟩;have hM1:dD S1 b g n n A:=⟨hM0.outer.congr fun a ha=>by simp[ha],hM0.row,hM0.inj⟩
  have hT1:gJ S1 b5 0:=hT0.step ((hE _ _ bV).trans bV.symm);obtain⟨p,hpn⟩:∃p,n=p+1:=⟨n-1,by omega⟩
  have hp:p<n:=by omega
  have wp:IntKind.i64.wrap ((n:Int)-1)=(p:Nat):=dq om om;obtain⟨g1,u1,v1⟩:=hM1.outer;obtain⟨g2,u2,v2⟩:=hM1.row p hp;have x1:g1 p=.sl 1 (g p) 0 n:=v1 p hp;have x2:g2 p=.int .i64 2:=by rw[v2 p hp];simp only[hC.diag p hp]
  simp -dsimp only[go_sem,aa,w1,w2,w3]
  repeat refine an ?_
  refine ee 10 [[0,1,2,3,4,5,6,7,8],[0,1,2,3,5],[]] (by kernel_rfl) ?_
  simp -dsimp only[go_sem,aa,ae,↓reduceIte,reduceCtorEq,af,ab,u1,u2,x1,x2,wp,hp]
  repeat refine an ?_
  refine(p9 _ b5 0 2 hT1 om om om).mono ?_;rintro r S2 ⟨z,hz,rfl,hT2,hkk⟩;have hbt:b5≠b:=hT1.ne u1 om;have hbg:∀a,a<n->g a≠b5:=fun a ha=>by obtain⟨gg,hgg,_⟩:=hM1.row a ha;exact ak (hT1.ne hgg om)
  have hM2:dD S2 b g n n A:=⟨hM1.outer.via fun X hX=>by rw[hkk b (ak hbt)];exact hX,fun a ha=>(hM1.row a ha).via fun X hX=>by rw[hkk _ (hbg a ha)];exact hX,hM1.inj⟩
  have u1':S2 b=some ⟨29,1,n,g1⟩:=by rw[hkk b (ak hbt)];exact u1
  have u2':S2 (g p)=some ⟨2,1,n,g2⟩:=by rw[hkk _ (hbg p hp)];exact u2
  have wz:IntKind.i64.wrap (2+(z:Int))=((2+z:Nat):Int):=dq om om;simp -dsimp only[go_sem,aa,ae,↓reduceIte,reduceCtorEq,af,ab,u1',u2',x1,x2,wz,wp,hp]
  repeat refine an ?_
  have hM:=hM2.set (j:=p) (z:=((2+z:Nat):Int)) hp u2';have hTp:=hT2.upd (ak (hbg p hp)) ⟨2,1,n,bK g2 p (.int .i64 ((2+z:Nat):Int))⟩;have hSym:(∀a c,a<n->c<n->d6 A p p ((2+z:Nat):Int) a c=d6 A p p ((2+z:Nat):Int) c a)/\∀a c,a<n->c<n->-9<=d6 A p p ((2+z:Nat):Int) a c/\d6 A p p ((2+z:Nat):Int) a c<=9:=by
   refine⟨fun a c _ _=>?_,fun a c _ _=>?_⟩
   ·have:=hC.sym a c;simp only[d6];grind
   ·have:=hC.small a c;simp only[d6];split
    ·omega
    ·exact this
  generalize d6 A p p ((2+z:Nat):Int)=A at *;rcases Classical.em ((∀k,k<=n->0<det k A)/\det n A<=10000)with hg|hg
  ·refine(gN n A om om hSym.1 hSym.2 true (by simp only[true_iff];exact hg)).spec (dY.cons hM.vr.va dY.nil) ?_
   simp -dsimp only[go_sem,aa,ae,ab]
   repeat refine an ?_
   exact⟨b,g,n,A,⟨by omega,by omega,hSym.1,hg.1,hg.2,fun i hi=>(hSym.2 i i hi hi).2,hSym.2⟩,rfl,hM⟩
  ·refine(gN n A om om hSym.1 hSym.2 false (by simp only[aN,false_iff];exact hg)).spec (dY.cons hM.vr.va dY.nil) ?_
   simp -dsimp only[go_sem,aa,ae,ab]
   repeat refine an ?_
   refine(eg _ b5 _ n 2 hTp om om om).mono ?_;rintro r S9 ⟨b',g',A',rfl,hM',hTp',hFr',hD',_,_⟩;simp -dsimp only[go_sem,aa]
   repeat refine an ?_
   exact⟨b',g',n,A',hD'.good om om,rfl,hM'⟩
 ·simp -dsimp only[go_sem,show((((6:Nat)):Int)==0)=false from rfl,show((((6:Nat)):Int)==1)=false from rfl,show((((6:Nat)):Int)==2)=false from rfl,show((((6:Nat)):Int)==3)=false from rfl,show((((6:Nat)):Int)==4)=false from rfl,show((((6:Nat)):Int)==5)=false from rfl,show((((6:Nat)):Int)==6)=true from rfl]
  repeat refine an ?_
  refine(eg _ b5 0 n 9 hT0 om om om).mono ?_;rintro r S1 ⟨b,g,A,rfl,hM,hTp,hFr,hD,hb0,hg0⟩;have hSym:(∀a c,a<n->c<n->A a c=A c a)/\∀a c,a<n->c<n->-9<=A a c/\A a c<=9:=by
   refine⟨fun a c ha hc=>?_,fun a c ha hc=>?_⟩
   ·by_cases e:a=c
    ·rw[e]
    ·rw[(hD a ha).2 c hc (ak e),(hD c hc).2 a ha e]
   ·by_cases e:c=a
    ·have:=(hD a ha).1;rw[e];omega
    ·rw[(hD a ha).2 c hc e];omega
  simp -dsimp only[go_sem,aa,ae,ab,w1,w2,w3]
  repeat refine an ?_
  rcases Classical.em ((∀k,k<=n->0<det k A)/\det n A<=10000)with hg|hg
  ·refine(gN n A om om hSym.1 hSym.2 true (by simp only[true_iff];exact hg)).spec (dY.cons hM.vr.va dY.nil) ?_
   simp -dsimp only[go_sem,aa,ae,ab]
   repeat refine an ?_
   exact⟨b,g,n,A,⟨by omega,by omega,hSym.1,hg.1,hg.2,fun i hi=>(hSym.2 i i hi hi).2,hSym.2⟩,rfl,hM⟩
  ·refine(gN n A om om hSym.1 hSym.2 false (by simp only[aN,false_iff];exact hg)).spec (dY.cons hM.vr.va dY.nil) ?_
   simp -dsimp only[go_sem,aa,ae,ab]
   repeat refine an ?_
   refine(eg _ b5 _ n 2 hTp om om om).mono ?_;rintro r S9 ⟨b',g',A',rfl,hM',hTp',hFr',hD',_,_⟩;simp -dsimp only[go_sem,aa]
   repeat refine an ?_
   exact⟨b',g',n,A',hD'.good om om,rfl,hM'⟩
 ·simp -dsimp only[go_sem,show((((7:Nat)):Int)==0)=false from rfl,show((((7:Nat)):Int)==1)=false from rfl,show((((7:Nat)):Int)==2)=false from rfl,show((((7:Nat)):Int)==3)=false from rfl,show((((7:Nat)):Int)==4)=false from rfl,show((((7:Nat)):Int)==5)=false from rfl,show((((7:Nat)):Int)==6)=false from rfl]
  repeat refine an ?_
  refine(eg _ b5 0 n 1 hT0 om om om).mono ?_;rintro r S1 ⟨b,g,A,rfl,hM,hTp,hFr,hD,hb0,hg0⟩;have hSym:(∀a c,a<n->c<n->A a c=A c a)/\∀a c,a<n->c<n->-9<=A a c/\A a c<=9:=by
   refine⟨fun a c ha hc=>?_,fun a c ha hc=>?_⟩
   ·by_cases e:a=c
    ·rw[e]
    ·rw[(hD a ha).2 c hc (ak e),(hD c hc).2 a ha e]
   ·by_cases e:c=a
    ·have:=(hD a ha).1;rw[e];omega
    ·rw[(hD a ha).2 c hc e];omega
  simp -dsimp only[go_sem,aa,ae,ab,w1,w2,w3]
  repeat refine an ?_
  rcases Classical.em ((∀k,k<=n->0<det k A)/\det n A<=10000)with hg|hg
  ·refine(gN n A om om hSym.1 hSym.2 true (by simp only[true_iff];exact hg)).spec (dY.cons hM.vr.va dY.nil) ?_
   simp -dsimp only[go_sem,aa,ae,ab]
   repeat refine an ?_
   exact⟨b,g,n,A,⟨by omega,by omega,hSym.1,hg.1,hg.2,fun i hi=>(hSym.2 i i hi hi).2,hSym.2⟩,rfl,hM⟩
  ·refine(gN n A om om hSym.1 hSym.2 false (by simp only[aN,false_iff];exact hg)).spec (dY.cons hM.vr.va dY.nil) ?_
   simp -dsimp only[go_sem,aa,ae,ab]
   repeat refine an ?_
   refine(eg _ b5 _ n 2 hTp om om om).mono ?_;rintro r S9 ⟨b',g',A',rfl,hM',hTp',hFr',hD',_,_⟩;simp -dsimp only[go_sem,aa]
   repeat refine an ?_
   exact⟨b',g',n,A',hD'.good om om,rfl,hM'⟩
theorem EA{a m:Int}(hm:0<m):a%m=if a.tmod m<0 then a.tmod m+m else a.tmod m:=by
 have e:=Int.mul_tdiv_add_tmod a m;have h:=qh (a:=a) (b:=m) om;split
 ·refine(mO (a:=a) (b:=m) (q:=a.tdiv m-1) (r:=a.tmod m+m) ?_ om om).2;rw[Int.mul_sub,k9];omega
 ·exact(mO (a:=a) (b:=m) (q:=a.tdiv m) (r:=a.tmod m) om om om).2
theorem r9{a m:Int}(hm:0<m)(hm2:m<=1000000000000):PF 35 [.int .i64 a,.int .i64 m] (.int .i64 (a%m)):=by
 refine PF.of_spec (aA Tryz.func35 rfl 15 Tryz.ntmps35 (by kernel_rfl) (by simp) (by simp[Tryz.results35]) ?_)
 rw[aS,Tryz.results35,EA hm];have h:=qh (a:=a) (b:=m) om;by_cases h0:a.tmod m<0
 ·have hw:IntKind.i64.wrap (a.tmod m+m)=a.tmod m+m:=i64_in om om;simp -dsimp only[go_sem,aj,aa,↓reduceIte,reduceCtorEq,decide_true,show ¬(m=0) by omega,h0,hw]
  repeat refine an ?_
  exact VR.mf rfl
 ·simp -dsimp only[go_sem,aj,aa,↓reduceIte,reduceCtorEq,decide_false,show ¬(m=0) by omega,h0]
  repeat refine an ?_
  exact VR.mf rfl
theorem yo{a m:Nat}:dW (a:Int) (m:Int)=((a%m:Nat):Int):=by rw[vS]
theorem Is_pf(p:Nat)(hp:2<=p)(hp2:p<=900)(β:Bool)(hβ:β=true↔∀d,2<=d->d*d<=p->¬p%d=0):PF 240 [.int .i64 p] (.bool β):=by
 refine PF.of_spec (aA Tryz.func240 rfl 21 Tryz.ntmps240 (by kernel_rfl) (by simp) (by simp[Tryz.results240]) ?_)
 rw[aS,Tryz.results240];simp -dsimp only[go_sem,aa,reduceCtorEq,decide_false,show ¬((p:Int)<2) by omega,show ¬((2147483647:Int)<p) by omega]
 repeat refine an ?_
 refine aI (fun O S=>∃d:Nat,2<=d/\d<=31/\O 0=.int .i64 p/\O 3=.int .i64 d/\∀e,2<=e->e<d->¬p%e=0) (fun O S=>32-bY (O 3)) ?_ ?_
 ·simp -dsimp only[go_sem,reduceCtorEq];exact⟨2,by omega,by omega,rfl,fun e h1 h2=>by omega⟩
 ·rintro O S ⟨d,hd,hd2,e0,e3,hall⟩;have hdd:d*d<=31*31:=ci hd2 hd2;have hw:IntKind.i64.wrap ((d:Int)*d)=((d*d:Nat):Int):=dq (by rw[di]) om
  have hd0:¬((d:Int)=0):=by omega
  by_cases hlt:d*d<=p
  ·have hd3:d<31:=by
    rcases aE d 31 with h|h
    ·exact h
    ·have:31*31<=d*d:=ci h h;omega
   by_cases h0:p%d=0
   ·simp -dsimp only[go_sem,aa,↓reduceIte,reduceCtorEq,decide_true,ab,e0,e3,hw,sd,hlt,hd0,yo,h0,show((((0:Nat)):Int)==0)=true from rfl]
    repeat refine an ?_
    have:β=false:=by
     cases β with
     | false=>rfl
     | true=>exact absurd h0 (hβ.1 rfl d hd hlt)
    rw[this];exact VR.mf rfl
   ·have h0':(((p%d:Nat):Int)==0)=false:=by simp;omega
    simp -dsimp only[go_sem,aa,↓reduceIte,reduceCtorEq,decide_true,ab,e0,e3,hw,sd,hlt,hd0,yo,h0',aW (show d<1000000 by omega),bY]
    repeat refine an ?_
    refine⟨⟨d+1,by omega,by omega,rfl,fun e h1 h2=>?_⟩,by omega⟩
    by_cases e':e=d
    ·rw[e'];exact h0
    ·exact hall e h1 om
  ·simp -dsimp only[go_sem,aa,↓reduceIte,reduceCtorEq,decide_false,ab,e0,e3,hw,sd,hlt]
   repeat refine an ?_
   have:β=true:=hβ.2 fun e h1 h2=>hall e h1 (by
    rcases aE e d with h|h
    ·exact h
    ·have:=ci h h;omega)
   rw[this];exact VR.mf rfl
def Dj(p:Nat):Prop:=2<=p/\∀d,2<=d->d*d<=p->¬p%d=0
theorem CP(p:Nat)(hp:2<=p)(hp2:p<=900)(β:Bool)(hβ:β=true↔Dj p):PF 202 [.int .i64 p] (.bool β):=by
 refine PF.of_spec (aA Tryz.func202 rfl 9 Tryz.ntmps202 (by kernel_rfl) (by simp) (by simp[Tryz.results202]) ?_)
 rw[aS,Tryz.results202];simp -dsimp only[go_sem,aa,ae,reduceCtorEq,decide_true,ab,show(p:Int)<=9973 by omega]
 repeat refine an ?_
 refine(Is_pf p hp hp2 β (by rw[hβ];unfold Dj;simp[hp])).call ?_
 simp -dsimp only[go_sem,aa,reduceCtorEq,decide_true,show(p:Int)<=9973 by omega]
 repeat refine an ?_
 exact VR.mf rfl
theorem G8(p:Nat)(hp:3<=p)(hp2:p<=900)(β:Bool)(hβ:β=true↔Dj p):PF 153 [.int .i64 p] (.bool β):=by
 refine PF.of_spec (aA Tryz.func153 rfl 9 Tryz.ntmps153 (by kernel_rfl) (by simp) (by simp[Tryz.results153]) ?_)
 rw[aS,Tryz.results153];have h2:((p:Int) != 2)=true:=by simp;omega
 simp -dsimp only[go_sem,aa,ae,reduceCtorEq,ab,h2]
 repeat refine an ?_
 refine(CP p om hp2 β hβ).call ?_;simp -dsimp only[go_sem,aa,reduceCtorEq,h2]
 repeat refine an ?_
 exact VR.mf rfl
def CU(n:Nat)(H:aU):Prop:=∀i j,i<n->j<n->((H i j).natAbs:Int)<=118098
theorem CU.nb{n:Nat}{H:aU}(h:CU n H){i j:Nat}(hi:i<n)(hj:j<n):nb (H i j) 17:=by
 have:=h i j hi hj;unfold Go.Proofs.YtdobfmlmenaajaaGreatDoor.nb;omega
theorem CU.r64{n:Nat}{H:aU}(h:CU n H){i j:Nat}(hi:i<n)(hj:j<n):Ki (H i j):=by
 have:=h i j hi hj;unfold Ki;omega
theorem Hi(n:Nat)(H:aU)(h1:1<=n)(h2:n<=8)(hE:CU n H)(hd:0<det n H/\det n H<=10000):PF 31 [aK n n H] (.int .i64 (det n H)):=by
 refine PF.of_spec (aA Tryz.func31 rfl 13 Tryz.ntmps31 (by kernel_rfl) (by simp) (by simp[Tryz.results31]) ?_)
 rw[aS,Tryz.results31];simp -dsimp only[go_sem,aa,ae,reduceCtorEq,ab]
 repeat refine an ?_
 refine(DR n n H h1 om h1 om (fun i j hi hj=>hE.r64 hi hj)).call ?_;simp -dsimp only[go_sem,aa,ae,reduceCtorEq,ab]
 repeat refine an ?_
 refine(iM n H 17 h1 om (fun i j hi hj=>hE.nb hi hj) om).call ?_;simp -dsimp only[go_sem,aa,ae,reduceCtorEq,ab]
 repeat refine an ?_
 refine(xB (by unfold kb;omega)).call ?_
 simp -dsimp only[go_sem,aa,reduceCtorEq]
 repeat refine an ?_
 exact VR.mf rfl
theorem DS(n p:Nat)(H:aU)(h1:1<=n)(h2:n<=8)(hE:CU n H)(hd:0<det n H/\det n H<=10000)(hp:3<=p)(hp2:p<=900)(β:Bool)(hβ:β=true↔Dj p/\¬det n H%p=0):PF 90 [aK n n H,.int .i64 p] (.bool β):=by
 refine PF.of_spec (aA Tryz.func90 rfl 14 Tryz.ntmps90 (by kernel_rfl) (by simp) (by simp[Tryz.results90]) ?_)
 rw[aS,Tryz.results90];simp -dsimp only[go_sem,aj,aa,ae,reduceCtorEq,ab]
 repeat refine an ?_
 rcases Classical.em (Dj p)with hpr|hpr
 ·refine(G8 p hp hp2 true (by simp[hpr])).call ?_
  simp -dsimp only[go_sem,aa,ae,reduceCtorEq,ab]
  repeat refine an ?_
  refine(Hi n H h1 h2 hE hd).call ?_;have ht:(det n H).tmod (p:Int)=det n H%p:=aL om;have hb:β=(det n H%(p:Int) != 0):=by
   cases β with
   | true=>have:=(hβ.1 rfl).2;simp[this]
   | false =>
    by_cases h:det n H%(p:Int)=0
    ·simp[h]
    ·exact absurd (hβ.2 ⟨hpr,h⟩) (by simp)
  simp -dsimp only[go_sem,aa,reduceCtorEq,show ¬((p:Int)=0) by omega,ht]
  repeat refine an ?_
  rw[hb];exact VR.mf rfl
 ·refine(G8 p hp hp2 false (by simp[hpr])).call ?_
  simp -dsimp only[go_sem,aa,reduceCtorEq]
  repeat refine an ?_
  have:β=false:=by
   cases β with
   | false=>rfl
   | true=>exact absurd (hβ.1 rfl).1 hpr
  rw[this];exact VR.mf rfl
theorem Fa(n p:Nat)(hn:n<=8)(hp:1<=p)(hp2:p<=900):PF 91 [.int .i64 n,.int .i64 p] (.bool (decide (p^n<=65536))):=by
 refine PF.of_spec (aA Tryz.func91 rfl 17 Tryz.ntmps91 (by kernel_rfl) (by simp) (by simp[Tryz.results91]) ?_)
 rw[aS,Tryz.results91];simp -dsimp only[go_sem,aj]
 repeat refine an ?_
 refine aI (fun O S=>∃i:Nat,i<=n/\p^i<=65536/\O 0=.int .i64 n/\O 1=.int .i64 p/\O 5=.int .i64 ((p^i:Nat):Int)/\O 6=.int .i64 i) (fun O S=>n-bY (O 6)) ?_ ?_
 ·simp -dsimp only[go_sem,aa,reduceCtorEq];exact⟨0,by omega,by simp,by simp,rfl⟩
 ·rintro O S ⟨i,hi,hpi,e0,e1,e5,e6⟩;by_cases hlt:i<n
  ·have hm:p^i*p<=65536*900:=ci hpi hp2;have hw:IntKind.i64.wrap (((p^i:Nat):Int)*p)=((p^(i+1):Nat):Int):=dq (by rw[cn,di]) (by rw[cn];omega)
   by_cases hb:p^(i+1)<=65536
   ·simp -dsimp only[go_sem,aa,↓reduceIte,reduceCtorEq,af,decide_true,decide_false,e0,e1,e5,e6,hlt,hw,show ¬((65536:Int)<((p^(i+1):Nat):Int)) by omega,aW (show i<1000000 by omega),bY]
    repeat refine an ?_
    exact⟨⟨i+1,by omega,hb,rfl,rfl⟩,by omega⟩
   ·simp -dsimp only[go_sem,aa,↓reduceIte,reduceCtorEq,af,decide_true,e0,e1,e5,e6,hlt,hw,show((65536:Int)<((p^(i+1):Nat):Int)) by omega]
    repeat refine an ?_
    have:p^(i+1)<=p^n:=ca hp hlt;have hd:decide (p^n<=65536)=false:=by simp;omega
    rw[hd];exact VR.mf rfl
  ·obtain rfl:i=n:=by omega
   simp -dsimp only[go_sem,aa,↓reduceIte,reduceCtorEq,af,decide_false,e0,e1,e5,e6,hlt]
   repeat refine an ?_
   have hd:decide (p^i<=65536)=true:=by simp;exact hpi
   rw[hd];exact VR.mf rfl
theorem vB{s a b m:Int}:(s%m+(a%m)*(b%m)%m)%m=(s+a*b)%m:=by
 rw[Bv s,Int.mul_emod a b]
theorem Gr(n m:Nat)(H:aU)(v:Nat->Int)(hn:n<=8)(hm:1<=m)(hm2:m<=100000):PF 60 [aK n n H,bJ n v,.int .i64 m] (bJ n (fun i=>(aD n fun j=>H i j*v j)%m)):=by
 refine PF.of_spec (aA Tryz.func60 rfl 49 Tryz.ntmps60 (by kernel_rfl) (by simp) (by simp[Tryz.results60]) ?_)
 rw[aS,Tryz.results60];have hm0:¬((m:Int)=0):=by omega
 simp -dsimp only[go_sem,aj,reduceCtorEq,aK,bJ]
 repeat refine an ?_
 refine aI (fun O S=>∃(i:Nat) (x:AV),i<=n/\O 1=bJ n v/\O 2=.int .i64 m/\O 7=x/\O 13=aK n n H/\O 14=.int .i64 n/\O 15=.int .i64 i/\cJ 2 1 St.none S x i (fun i=>.int .i64 ((aD n fun j=>H i j*v j)%m))) (fun O S=>n-bY (O 15)) ?_ ?_
 ·simp -dsimp only[go_sem,aa,reduceCtorEq,aK,bJ];exact⟨0,by omega,rfl,cJ.nil (eZ.noneS _) _⟩
 ·rintro O S ⟨i,x,hi,e1,e2,e7,e13,e14,e15,hX⟩;by_cases hlt:i<n
  ·simp -dsimp only[go_sem,aa,↓reduceIte,af,decide_true,aK,bJ,e7,e13,e14,e15,hlt]
   repeat refine an ?_
   refine aI (fun O S'=>∃j:Nat,j<=n/\O 1=bJ n v/\O 2=.int .i64 m/\O 7=x/\O 10=.int .i64 ((aD j fun j=>H i j*v j)%m)/\O 13=aK n n H/\O 14=.int .i64 n/\O 15=.int .i64 i/\O 19=bJ n (H i)/\O 20=.int .i64 n/\O 21=.int .i64 j/\S'=S) (fun O S=>n-bY (O 21)) ?_ ?_
   ·simp -dsimp only[go_sem,aa,aK,bJ,e1,e2,e7,e13,e14,e15];exact⟨0,by omega,by simp[aD],rfl⟩
   ·rintro O S' ⟨j,hj,e1,e2,e7,e10,e13,e14,e15,e19,e20,e21,rfl⟩;by_cases hjn:j<n
    ·have hM:(0:Int)<m:=by omega
     have r1:=aT (H i j) (show(m:Int)≠0 by omega)
     have r2:=aM (H i j) hM;have r3:=aT (v j) (show(m:Int)≠0 by omega)
     have r4:=aM (v j) hM;have r5:=cY r1 r3;have r6:H i j%m*(v j%m)<=100000*100000:=cH om om r3 om;have w1:IntKind.i64.wrap (H i j%m*(v j%m))=H i j%m*(v j%m):=i64_in om om;have w2:dW (H i j%m*(v j%m)) m=(H i j%m*(v j%m))%m:=aL r5;have s1:=aT (aD j fun j=>H i j*v j) (show(m:Int)≠0 by omega)
     have s2:=aM (aD j fun j=>H i j*v j) hM;have s3:=aT (H i j%m*(v j%m)) (show(m:Int)≠0 by omega)
     have s4:=aM (H i j%m*(v j%m)) hM;have w3:IntKind.i64.wrap ((aD j fun j=>H i j*v j)%m+(H i j%m*(v j%m))%m)=(aD j fun j=>H i j*v j)%m+(H i j%m*(v j%m))%m:=i64_in om om;have w4:dW ((aD j fun j=>H i j*v j)%m+(H i j%m*(v j%m))%m) m=(aD (j+1) fun j=>H i j*v j)%m:=by
      rw[aL om,vB];rfl
     simp -dsimp only[go_sem,aa,↓reduceIte,reduceCtorEq,af,decide_true,aK,bJ,e7,e10,e19,e20,e21,hjn]
     repeat refine an ?_
     refine bG 16 (by kernel_rfl) ?_
     simp -dsimp only[go_sem,aa,ae,↓reduceIte,reduceCtorEq,af,ab,aK,bJ,e1,e2,e7,e10,e13,e14,e15,e19,e20,e21,hjn]
     repeat refine an ?_
     refine⟨_,(r9 hM om).pure',_,(r9 hM om).pure',?_⟩;simp -dsimp only[go_sem,hm0,w1,w2,w3,w4,aW (show j<1000000 by omega),bY]
     repeat refine an ?_
     exact⟨⟨j+1,by omega,rfl,rfl⟩,by omega⟩
    ·obtain rfl:j=n:=by omega
     simp -dsimp only[go_sem,aa,↓reduceIte,reduceCtorEq,af,decide_false,aK,bJ,e7,e10,e19,e20,e21,hjn]
     repeat refine an ?_
     refine aG.intro fun b45 f45=>?_;simp -dsimp only[go_sem,aa,↓reduceIte,e7,e10]
     repeat refine an ?_
     have hxb:=hX.fresh f45;refine cJ.app2 (hX.upd (by rfl) hxb _) om (show du 1 (.int .i64 ((aD j fun j=>H i j*v j)%m)) by simp[du]) (Or.inr ⟨_,_,_,rfl,bV,rfl,fun h=>hxb _ h rfl⟩) ?_
     intro c S2 hX' hk1 hk3;simp -dsimp only[go_sem,aa,aK,bJ,e1,e2,e7,e10,e13,e14,e15,aW (show i<1000000 by omega),bY]
     repeat refine an ?_
     exact⟨⟨i+1,by omega,rfl,hX'.congr fun a ha=>by grind⟩,by omega⟩
  ·obtain rfl:i=n:=by omega
   simp -dsimp only[go_sem,aa,↓reduceIte,af,decide_false,aK,bJ,e7,e13,e14,e15,hlt]
   repeat refine an ?_
   exact hX.vr fun a _=>VR.mf rfl
structure kM(n:Nat)(H:aU):Prop where
 one:1<=n
 five:n<=5
 red:Lv H n
 small:det n H<=10000
theorem Fi(S:St)(d k L:Nat)(nums:Nat->Int)(Lb:Nat)(base:Nat->AV)(hd:d<256)(hk:k<256)(hnums:∀i,i<L->-128<=nums i/\nums i<=127) :
  cM 38 [IH d k L nums Lb base,.int .i64 5] S (fun r S'=>∃n H,kM n H/\r=aK n n H/\eZ S S'):=by
 refine aA Tryz.func38 rfl 18 Tryz.ntmps38 (by kernel_rfl) (by simp) (by simp[Tryz.results38]) ?_
 rw[aS,Tryz.results38];simp -dsimp only[go_sem,aj,aa,ae,↓reduceIte,reduceCtorEq,ab,IH,dj,bC,aZ,false_implies,implies_true]
 repeat refine an ?_
 refine aG.intro fun b2 f2=>?_;simp -dsimp only[go_sem,aj,ae,bE,bv]
 repeat refine an ?_
 refine(Hb d k L nums Lb base hd hk hnums _ _ (cw _ _)).mono ?_;rintro r S1 ⟨b,g,n,A,hA,rfl,hM⟩;obtain⟨H,T,hR,hdet,hpf⟩:=E9 n A hA.one hA.five hA.sym hA.pos hA.small hA.diag;simp -dsimp only[go_sem,aa,ae,↓reduceIte,reduceCtorEq,ab]
 repeat refine an ?_
 refine(DR n n A hA.one (by have:=hA.five;omega) hA.one (by have:=hA.five;omega) (fun i j hi hj=>JT (hA.ent i j hi hj))).spec (dY.cons hM.1.vr.va dY.nil) ?_
 simp -dsimp only[go_sem,aa,ae,↓reduceIte,reduceCtorEq,ab]
 repeat refine an ?_
 refine hpf.call ?_;simp -dsimp only[go_sem,aa,↓reduceIte,reduceCtorEq]
 repeat refine an ?_
 exact⟨n,H,⟨hA.one,hA.five,hR,by rw[hdet];exact hA.small⟩,rfl,((eZ.refl S).upd f2 _).trans hM.2.1⟩
theorem lp(n:Nat)(f g:Nat->Int)(m:Int)(h:∀i,i<n->f i%m=g i%m):aD n f%m=aD n g%m:=by
 induction n with
 | zero=>rfl
 | succ n ih =>
  simp only[aD];rw[Bv,ih (fun i hi=>h i om),h n om,<-Bv]
def fD(n:Nat)(H:aU)(v:Nat->Int)(i:Nat):Int:=aD i fun i=>(aD n fun j=>H i j*v j)*v i
theorem Eo(n m:Nat)(H:aU)(v:Nat->Int)(hn:n<=8)(hm:1<=m)(hm2:m<=100000):PF 76 [aK n n H,bJ n v,.int .i64 m] (.int .i64 (fD n H v n%m)):=by
 refine PF.of_spec (aA Tryz.func76 rfl 36 Tryz.ntmps76 (by kernel_rfl) (by simp) (by simp[Tryz.results76]) ?_)
 rw[aS,Tryz.results76];have hm0:¬((m:Int)=0):=by omega
 simp -dsimp only[go_sem,aj,aa,ae,reduceCtorEq,ab]
 repeat refine an ?_
 refine(Gr n m H v hn hm hm2).call ?_;simp -dsimp only[go_sem,aa,reduceCtorEq,bJ]
 repeat refine an ?_
 refine aI (fun O S=>∃i:Nat,i<=n/\O 1=bJ n v/\O 2=.int .i64 m/\O 7=.int .i64 (fD n H v i%m)/\O 13=bJ n (fun i=>(aD n fun j=>H i j*v j)%m)/\O 14=.int .i64 n/\O 15=.int .i64 i) (fun O S=>n-bY (O 15)) ?_ ?_
 ·simp -dsimp only[go_sem,aa,reduceCtorEq,bJ];exact⟨0,by omega,by simp[fD,aD],rfl⟩
 ·rintro O S ⟨i,hi,e1,e2,e7,e13,e14,e15⟩;by_cases hlt:i<n
  ·have hM:(0:Int)<m:=by omega
   obtain⟨s,hs⟩:∃s,s=aD n fun j=>H i j*v j:=⟨_,rfl⟩;have r1:=aT s (show(m:Int)≠0 by omega)
   have r2:=aM s hM;have r3:=aT (v i) (show(m:Int)≠0 by omega)
   have r4:=aM (v i) hM;have r5:=cY r1 r3;have r6:s%m*(v i%m)<=100000*100000:=cH om om r3 om;have w1:IntKind.i64.wrap (s%m*(v i%m))=s%m*(v i%m):=i64_in om om;have w2:dW (s%m*(v i%m)) m=(s%m*(v i%m))%m:=aL r5;have s1:=aT (fD n H v i) (show(m:Int)≠0 by omega)
   have s2:=aM (fD n H v i) hM;have s3:=aT (s%m*(v i%m)) (show(m:Int)≠0 by omega)
   have s4:=aM (s%m*(v i%m)) hM;have w3:IntKind.i64.wrap (fD n H v i%m+(s%m*(v i%m))%m)=fD n H v i%m+(s%m*(v i%m))%m:=i64_in om om;have w4:dW (fD n H v i%m+(s%m*(v i%m))%m) m=fD n H v (i+1)%m:=by
    rw[aL om,vB];simp only[fD,aD,hs]
   simp -dsimp only[go_sem,aa,ae,↓reduceIte,af,decide_true,ab,bJ,e1,e2,e7,e13,e14,e15,hlt]
   repeat refine an ?_
   refine(r9 hM om).call ?_;rw[hs]at w1 w2 w3 w4;simp -dsimp only[go_sem,aa,bJ,e1,e2,e7,e13,e14,e15,hm0,w1,w2,w3,w4,aW (show i<1000000 by omega),bY]
   repeat refine an ?_
   exact⟨⟨i+1,by omega,rfl,rfl⟩,by omega⟩
  ·obtain rfl:i=n:=by omega
   simp -dsimp only[go_sem,aa,ae,↓reduceIte,af,decide_false,ab,bJ,e1,e2,e7,e13,e14,e15,hlt]
   repeat refine an ?_
   exact VR.mf rfl
def gP(v:Nat->Int):Nat->Int
 | 0=>0
 | j+1=>if gP v j=0 then v j else gP v j
theorem wl(n m:Nat)(H:aU)(v:Nat->Int)(hn:n<=8)(hm:1<=m)(hm2:m<=100000)(hv:∀i,i<n->0<=v i/\v i<m):PF 75 [aK n n H,.int .i64 m,bJ n v] (.bool (gP v n==1&&fD n H v n%m==0)):=by
 refine PF.of_spec (aA Tryz.func75 rfl 41 Tryz.ntmps75 (by kernel_rfl) (by simp) (by simp[Tryz.results75]) ?_)
 rw[aS,Tryz.results75];simp -dsimp only[go_sem,aj,aa,reduceCtorEq,bJ,aK,show((n:Int) != n)=false by simp]
 repeat refine an ?_
 refine aI (fun O S=>∃i:Nat,i<=n/\O 0=aK n n H/\O 1=.int .i64 m/\O 2=bJ n v/\O 7=.int .i64 (gP v i)/\O 15=bJ n v/\O 16=.int .i64 n/\O 17=.int .i64 i) (fun O S=>n-bY (O 17)) ?_ ?_
 ·simp -dsimp only[go_sem,aa,reduceCtorEq,bJ,aK];exact⟨0,by omega,rfl,rfl⟩
 ·rintro O S ⟨i,hi,e0,e1,e2,e7,e15,e16,e17⟩;by_cases hlt:i<n
  ·have h1:=hv i hlt;by_cases h0:gP v i=0
   ·have hl:gP v (i+1)=v i:=by simp[gP,h0]
    simp -dsimp only[go_sem,aa,ae,↓reduceIte,reduceCtorEq,af,decide_true,decide_false,ab,bJ,aK,e0,e1,e2,e7,e15,e16,e17,hlt,show ¬(v i<0) by omega,show ¬((m:Int)<=v i) by omega,h0,show((0:Int)==0)=true from rfl,aW (show i<1000000 by omega),bY]
    repeat refine an ?_
    exact⟨⟨i+1,by omega,by rw[hl],rfl⟩,by omega⟩
   ·have hl:gP v (i+1)=gP v i:=by simp[gP,h0]
    have h0':(gP v i==0)=false:=by simp[h0]
    simp -dsimp only[go_sem,aa,ae,↓reduceIte,reduceCtorEq,af,decide_true,decide_false,ab,bJ,aK,e0,e1,e2,e7,e15,e16,e17,hlt,show ¬(v i<0) by omega,show ¬((m:Int)<=v i) by omega,h0',aW (show i<1000000 by omega),bY]
    repeat refine an ?_
    exact⟨⟨i+1,by omega,by rw[hl],rfl⟩,by omega⟩
  ·obtain rfl:i=n:=by omega
   by_cases h0:gP v i=1
   ·simp -dsimp only[go_sem,aa,ae,↓reduceIte,reduceCtorEq,af,decide_false,ab,bJ,aK,e0,e1,e2,e7,e15,e16,e17,hlt,h0,show((1:Int)==1)=true from rfl]
    repeat refine an ?_
    refine(Eo i m H v hn hm hm2).call ?_;simp -dsimp only[go_sem,aa,reduceCtorEq,bJ,aK,e0,e1,e2,e7,h0,show((1:Int)==1)=true from rfl]
    repeat refine an ?_
    exact VR.mf rfl
   ·have h0':(gP v i==1)=false:=by simp[h0]
    simp -dsimp only[go_sem,aa,↓reduceIte,reduceCtorEq,af,decide_false,bJ,aK,e0,e1,e2,e7,e15,e16,e17,hlt,h0']
    repeat refine an ?_
    exact VR.mf rfl
theorem lu{p:Nat}(h1:2<=p)(h2:p<25)(a:¬p%2=0∨p<4)(b:¬p%3=0∨p<9)(c:¬p%4=0∨p<16):Dj p:=by
 refine⟨h1,fun d h3 h4=>?_⟩;have:d<5:=by
  rcases aE d 5 with h|h
  ·exact h
  ·have:5*5<=d*d:=ci h h;omega
 have:d=2∨d=3∨d=4:=by omega
 rcases this with rfl|rfl|rfl<;>omega
def l5(D:Int)(p:Nat):Prop:=3<=p/\p%2=1/\Dj p/\¬D%p=0
open Classical in
noncomputable def gc(D:Int):Nat->Nat
 | 0=>0
 | p+1=>gc D p+if l5 D p then 1 else 0
open Classical in
theorem xM(D:Int)(q:Nat)(f:Nat)(h:Dj q/\3<=q/\q%2=1){k:Nat}(hk:k<=gc D q)(hf:f=if D%q=0 then 0 else 1):k+f<=gc D (q+1):=by
 simp only[gc,l5,hf];by_cases h0:D%(q:Int)=0<;>simp[h0,h.1,h.2.1,h.2.2]<;>omega
theorem qC(D:Int){p q:Nat}(h:p<=q){k:Nat}(hk:k<=gc D p):k<=gc D q:=by
 induction q with
 | zero=>rw[show(0:Nat)=p by omega];exact hk
 | succ q ih =>
  by_cases e:p=q+1
  ·rw[<-e];exact hk
  ·exact bW (ih om) (by simp only[gc];omega)
theorem LW{D:Int}(h0:0<D)(h1:D<=10000)(a b c d e:Nat)(h2:Nat.Coprime a b)(h3:Nat.Coprime (a*b) c)(h4:Nat.Coprime (a*b*c) d)(h5:Nat.Coprime (a*b*c*d) e)(h6:10000<a*b*c*d*e) :
  ¬(D%(a:Int)=0/\D%(b:Int)=0/\D%(c:Int)=0/\D%(d:Int)=0/\D%(e:Int)=0):=by
 rintro⟨k1,k2,k3,k4,k5⟩;have t:∀{x:Nat},D%(x:Int)=0->x∣D.natAbs:=fun h=>Int.ofNat_dvd_left.1 (Int.dvd_of_emod_eq_zero h);have h7:=Nat.le_of_dvd om (h5.mul_dvd_of_dvd_of_dvd (h4.mul_dvd_of_dvd_of_dvd (h3.mul_dvd_of_dvd_of_dvd (h2.mul_dvd_of_dvd_of_dvd (t k1) (t k2)) (t k3)) (t k4)) (t k5));omega
open Classical in
theorem In{a b c d e f:Prop}(h1:¬(a/\b/\c/\d/\e))(h2:¬(a/\b/\c/\d/\f))(h3:¬(a/\b/\c/\e/\f))(h4:¬(a/\b/\d/\e/\f))(h5:¬(a/\c/\d/\e/\f))(h6:¬(b/\c/\d/\e/\f)){k1 k2 k3 k4 k5 k6:Nat}
  (i1:a∨1<=k1) (i2:b∨1<=k2) (i3:c∨1<=k3) (i4:d∨1<=k4) (i5:e∨1<=k5) (i6:f∨1<=k6):2<=0+k1+k2+k3+k4+k5+k6:=by
 by_cases a<;>by_cases b<;>by_cases c<;>by_cases d<;>by_cases e<;>by_cases f<;>simp_all<;>omega
theorem KV{D:Int}(h0:0<D)(h1:D<=10000):2<=gc D 18:=by
 have p3:Dj 3:=lu om om om om om;have p5:Dj 5:=lu om om om om om;have p7:Dj 7:=lu om om om om om;have p11:Dj 11:=lu om om om om om;have p13:Dj 13:=lu om om om om om;have p17:Dj 17:=lu om om om om om;have a3:=xM D 3 _ ⟨p3,by omega,by omega⟩ (Nat.zero_le _) rfl
 have a5:=xM D 5 _ ⟨p5,by omega,by omega⟩ (qC D (show 3+1<=5 by omega) a3) rfl
 have a7:=xM D 7 _ ⟨p7,by omega,by omega⟩ (qC D (show 5+1<=7 by omega) a5) rfl
 have a11:=xM D 11 _ ⟨p11,by omega,by omega⟩ (qC D (show 7+1<=11 by omega) a7) rfl
 have a13:=xM D 13 _ ⟨p13,by omega,by omega⟩ (qC D (show 11+1<=13 by omega) a11) rfl
 have a17:=xM D 17 _ ⟨p17,by omega,by omega⟩ (qC D (show 13+1<=17 by omega) a13) rfl
 refine bW ?_ a17;have t:∀q:Nat,D%(q:Int)=0∨1<=(if D%(q:Int)=0 then 0 else 1:Nat):=fun q=>by
  by_cases h:D%(q:Int)=0
  ·exact Or.inl h
  ·right;simp[h]
 exact In (LW h0 h1 3 5 7 11 13 (by decide) (by decide) (by decide) (by decide) (by decide)) (LW h0 h1 3 5 7 11 17 (by decide) (by decide) (by decide) (by decide) (by decide))
  (LW h0 h1 3 5 7 13 17 (by decide) (by decide) (by decide) (by decide) (by decide)) (LW h0 h1 3 5 11 13 17 (by decide) (by decide) (by decide) (by decide) (by decide))
  (LW h0 h1 3 7 11 13 17 (by decide) (by decide) (by decide) (by decide) (by decide)) (LW h0 h1 5 7 11 13 17 (by decide) (by decide) (by decide) (by decide) (by decide))
  (t 3) (t 5) (t 7) (t 11) (t 13) (t 17)
theorem DE{D:Int}{p:Nat}(hp:p%2=1):gc D (p+2)=gc D (p+1):=by
 have:¬l5 D (p+1):=fun h=>by have:=h.2.1;omega
 simp[gc,this]
theorem kM.ent{n:Nat}{H:aU}(h:kM n H):CU n H:=fun i j hi hj=>by
 have:=h.red.entry h.five hi hj;omega
theorem kM.det{n:Nat}{H:aU}(h:kM n H):0<det n H/\det n H<=10000:=⟨h.red.pd.2 n (ah _),h.small⟩
def gpI(D:Int)(p s:Nat):Prop:=3<=p/\p<=17/\p%2=1/\gc D p+s<=1
theorem vV(S:St)(n:Nat)(H:aU)(k:Nat)(hF:kM n H)(hk:k<256):cM 39 [aK n n H,.int .u8 k] S (fun r S'=>∃p:Nat,l5 (det n H) p/\p<=17/\r=.int .i64 p/\S'=S):=by
 refine aA Tryz.func39 rfl 20 Tryz.ntmps39 (by kernel_rfl) (by simp) (by simp[Tryz.results39]) ?_
 rw[aS,Tryz.results39];have hn5:=hF.five;have w2:dW (k:Int) 2=((k%2:Nat):Int):=by rw[vS];rfl
 have w3:IntKind.i64.wrap ((k%2:Nat):Int)=((k%2:Nat):Int):=i64_in om om;simp -dsimp only[go_sem,aj,aa,reduceCtorEq,w2,w3,show ¬((2:Int)=0) by decide]
 repeat refine an ?_
 have g2:=KV hF.det.1 hF.det.2;refine aI (fun O S'=>∃p s:Nat,gpI (det n H) p s/\O 0=aK n n H/\O 5=.int .i64 s/\O 6=.int .i64 p/\S'=S) (fun O S=>18-bY (O 6)) ?_ ?_
 ·simp -dsimp only[go_sem,aa,reduceCtorEq];refine⟨3,k%2,⟨by omega,by omega,by omega,?_⟩,rfl,rfl⟩
  have:gc (det n H) 3=0:=by simp[gc,l5]
  omega
 ·rintro O S' ⟨p,s,⟨hp3,hp17,hpo,hgc⟩,e0,e5,e6,rfl⟩;have wp:IntKind.i64.wrap ((p:Int)+2)=((p+2:Nat):Int):=dq om om;rcases Classical.em (l5 (det n H) p)with hg|hg
  ·simp -dsimp only[go_sem,aa,ae,ab,e0,e6]
   repeat refine an ?_
   refine(DS n p H hF.one om hF.ent hF.det hp3 om true (by simp only[true_iff];exact hg.2.2)).call ?_
   have hg1:gc (det n H) (p+1)=gc (det n H) p+1:=by simp[gc,hg]
   by_cases hs:s=0
   ·subst hs;simp -dsimp only[go_sem,aa,reduceCtorEq,e0,e5,e6,show((((0:Nat)):Int)==0)=true from rfl]
    repeat refine an ?_
    exact⟨p,hg,hp17,rfl⟩
   ·obtain rfl:s=1:=by omega
    have hp15:p+2<=17:=by
     rcases aE p 16 with h|h
     ·omega
     ·obtain rfl:p=17:=by omega
      rw[show(17:Nat)+1=18 from rfl]at hg1;omega
    simp -dsimp only[go_sem,aa,reduceCtorEq,e0,e5,e6,show((((1:Nat)):Int)==0)=false from rfl,wp,show IntKind.i64.wrap ((((1:Nat)):Int)-1)=((0:Nat):Int)from dq om om,bY]
    repeat refine an ?_
    exact⟨⟨p+2,0,⟨by omega,by omega,by omega,by rw[DE hpo,hg1];omega⟩,rfl,rfl⟩,by omega⟩
  ·simp -dsimp only[go_sem,aa,ae,ab,e0,e6]
   repeat refine an ?_
   refine(DS n p H hF.one om hF.ent hF.det hp3 om false (by simp only[aN,false_iff];exact fun h=>hg ⟨hp3,hpo,h.1,h.2⟩)).call ?_
   have hg1:gc (det n H) (p+1)=gc (det n H) p:=by simp[gc,hg]
   have hp15:p+2<=17:=by
    rcases aE p 16 with h|h
    ·omega
    ·obtain rfl:p=17:=by omega
     rw[show(17:Nat)+1=18 from rfl]at hg1;omega
   simp -dsimp only[go_sem,aa,reduceCtorEq,e0,e5,e6,wp,bY]
   repeat refine an ?_
   exact⟨⟨p+2,s,⟨by omega,by omega,by omega,by rw[DE hpo,hg1];omega⟩,rfl,rfl⟩,by omega⟩
end Go.Proofs.YtdobfmlmenaajaaGreatDoor
