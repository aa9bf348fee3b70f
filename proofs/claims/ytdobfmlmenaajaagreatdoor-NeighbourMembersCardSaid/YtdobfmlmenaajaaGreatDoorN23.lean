/-
  Lemmas for NeighbourMembers.
-/
import Derived.Test.YtdobfmlmenaajaaGreatDoorN22
namespace Go.Proofs.YtdobfmlmenaajaaGreatDoor
open Go.RowKit
open _root_.Int renaming ofNat_lt→af,zero_le_ofNat→ay,tmod_eq_emod_of_nonneg→aL,emod_lt_of_pos→aM,emod_nonneg→aT,mul_le_mul_of_nonneg_right→cc,sign_eq_one_of_pos→cK,mul_nonneg→cY,mul_comm→cZ,mul_emod→dl,tmod→dW,one_mul→et,mul_one→k9,toNat_zero→lR,sign_zero→mC,zero_mul→n0,mul_sub→vT
open _root_.List renaming not_mem_nil→aZ,getD_cons_succ→bv,forall_mem_cons→bC,getD_cons_zero→bE
open _root_.Nat renaming reduceEqDiff→aa,add_one_le_iff→ab,reduceLT→ae,le_refl→ah,reduceAdd→aj,zero_add→aC,lt_or_ge→aE,eq_zero_or_pos→bO,mul_le_mul→ci,add_zero→cR,one_mul→jG
open _root_.Ne renaming symm→ak
open _root_.Option renaming none→ac
open _root_.Or renaming inr→bD,inl→bH
set_option maxHeartbeats 6400000
set_option maxRecDepth 4096
set_option linter.all false
def mh(p:Nat)(v:Nat->Nat):Nat->Nat
 | 0=>0
 | k+1=>mh p v k*p+v k
theorem ym{p:Nat}{v:Nat->Nat}{k:Nat}(h:∀i,i<k->v i<p):mh p v k<p^k:=by
 induction k with
 | zero=>simp[mh]
 | succ k ih =>
  have h1:=ih (fun i hi=>h i om);have h2:=h k om;simp only[mh];have h3:(mh p v k+1)*p<=p^k*p:=ci h1 (ah _);rw[Nat.add_mul,jG]at h3;rw[Nat.pow_succ];omega
theorem tT{p:Nat}{v w:Nat->Nat}{k:Nat}(h:∀i,i<k->v i=w i):mh p v k=mh p w k:=by
 induction k with
 | zero=>rfl
 | succ k ih=>simp only[mh];rw[ih (fun i hi=>h i om),h k om]
theorem rt{p:Nat}{v w:Nat->Nat}{i:Nat}(h1:∀k,k<i->w k=v k)(h2:w i=v i+1):∀n,(∀k,i<k->k<i+1+n->w k=0/\v k<p)->mh p v (i+1+n)<mh p w (i+1+n)
 | 0,_=>by
  simp only[mh];rw[tT (p:=p) h1,h2];omega
 | n+1,h=>by
  have ih:=rt h1 h2 n (fun k hk hk2=>h k hk om);have h3:=h (i+1+n) om om;rw[<-Nat.add_assoc];simp only[mh,h3.1,cR];have h4:(mh p v (i+1+n)+1)*p<=mh p w (i+1+n)*p:=ci ih (ah _);rw[Nat.add_mul,jG]at h4;omega
structure oV(n p:Nat)(H:aU)(v:Nat->Nat):Prop where
 lt:∀i,i<n->v i<p
 lead:gP (fun i=>v i) n=1
 norm:fD n H (fun i=>v i) n%p=0
structure BC(S0 S:St)(n p:Nat)(H:aU)(j:Nat)(x:AV)(c:Nat)(g:Nat->Nat)(V:Nat->Nat->Nat)(w:Nat->Nat):Prop where
 list:cJ 29 1 S0 S x j (fun i=>.sl 1 (g i) 0 n)
 rows:∀i,i<j->bB S (g i) 2 1 n (fun k=>.int .i64 (V i k))/\S0 (g i)=ac/\g i≠c
 good:∀i,i<j->oV n p H (V i)
 now:bB S c 2 1 n (fun k=>.int .i64 (w k))
 new:S0 c=ac
theorem BC.set{S0 S:St}{n p:Nat}{H:aU}{j:Nat}{x:AV}{c:Nat}{g:Nat->Nat}{V:Nat->Nat->Nat}{w:Nat->Nat}(h:BC S0 S n p H j x c g V w){g':Nat->AV}(hc:S c=some ⟨2,1,n,g'⟩){i z:Nat} :
  BC S0 (S.upd c ⟨2,1,n,bK g' i (.int .i64 z)⟩) n p H j x c g V (fun k=>if k=i then z else w k):=by
 refine⟨h.list.upd h.new (fun d hd e=>h.list.other hc om (e▸hd)) _,fun a ha=>?_,h.good,?_,h.new⟩
 ·obtain⟨h1,h2,h3⟩:=h.rows a ha;exact⟨h1.upd h3 _,h2,h3⟩
 ·refine bB.here fun k hk=>?_;obtain⟨g2,h1,h2⟩:=h.now;rw[hc]at h1;cases h1;simp only[bK];split
  ·rfl
  ·exact h2 k hk
def digI(n p k:Nat)(v w:Nat->Nat):Prop:=k<=n/\(∀i,i<n->v i<p)/\(∀i,i<k->w i=v i)/\∀i,k<=i->i<n->w i=0
def allH(n p j:Nat)(v:Nat->Nat):Prop:=(∀i,i<n->v i<p)/\j<=mh p v n
noncomputable def KN(n p:Nat)(S:St)(x:AV):Nat:=match x with
 | .sl _ c _ _=>(match S c with
  | some X=>p^n-mh p (fun i=>bY (X.g i)) n
  | ac=>0)
 | _=>0
theorem tg{n p c:Nat}{S:St}{w:Nat->Nat}(h:bB S c 2 1 n (fun k=>.int .i64 (w k))):KN n p S (.sl 1 c 0 n)=p^n-mh p w n:=by
 obtain⟨g,h1,h2⟩:=h;simp only[KN,h1];rw[tT (w:=w) fun i hi=>by rw[h2 i hi];simp[bY]]
def AllR(S0 S:St)(n p:Nat)(H:aU)(r:AV):Prop:=∃j c g V w,j<=65536/\BC S0 S n p H j r c g V w
def ED(x:AV):Nat:=match x with
 | .int _ z=>(z+1).toNat
 | _=>0
theorem EU{S:St}{c n:Nat}{w:Nat->Nat}{K:AV->St->Prop}(h:bB S c 2 1 n (fun k=>.int .i64 (w k)))(h1:0<n)(h2:n<=1000)
  (hK:∀b h',S b=ac->(∀k,k<n->h' k=.int .i64 (w k))->K (.sl 1 b 0 n) (S.upd b ⟨2,1,n,h'⟩)):eL 29 29 .nil (.sl 1 c 0 n) S K:=by
 obtain⟨g,u1,u2⟩:=h;have e1:vZ S (.sl 1 c 0 n)=some (1,n,fun j=>g (0+j),some c):=by simp[vZ,u1]
 unfold eL;rw[show cX 29=some 2 from rfl,e1];refine⟨rfl,rfl,rfl,h1,fun j hj=>?_,by omega,fun b hb=>hK b _ hb fun k hk=>?_⟩
 ·show du 1 (g (0+j));rw[aC,u2 j hj];simp[du]
 ·show g (0+k)=_;rw[aC,u2 k hk]
theorem Hm(S0:St)(n p:Nat)(H:aU)(h1:1<=n)(h2:n<=8)(hp:2<=p)(hp2:p<=900)(hpn:p^n<=65536) :
  cM 92 [aK n n H,.int .i64 p] S0 (fun r S'=>AllR S0 S' n p H r):=by
 refine aA Tryz.func92 rfl 48 Tryz.ntmps92 (by kernel_rfl) (by simp) (by simp[Tryz.results92]) ?_
 rw[aS,Tryz.results92];simp -dsimp only[go_sem,aj,reduceCtorEq,aK]
 repeat refine an ?_
 refine aG.intro fun b10 f10=>?_;simp -dsimp only[go_sem]
 repeat refine an ?_
 refine aI (fun O S=>∃j x c g V w,BC S0 S n p H j x c g V w/\allH n p j w/\O 0=aK n n H/\O 1=.int .i64 p/\O 5=x/\O 6=.sl 1 c 0 n) (fun O S=>KN n p S (O 6)) ?_ ?_
 ·simp -dsimp only[go_sem,aa,reduceCtorEq,aK];refine⟨0,_,b10,fun _=>0,fun _ _=>0,fun _=>0,⟨cJ.nil ((eZ.refl S0).upd f10 _) _,fun i hi=>by omega,fun i hi=>by omega,bB.here fun i hi=>rfl,f10⟩,⟨fun i hi=>by show 0<p;omega,by omega⟩,rfl,rfl⟩
 ·rintro O S ⟨j,x,c,g,V,w,hA,⟨hw,hj⟩,e0,e1,e5,e6⟩;have hvl:=ym (p:=p) hw;simp -dsimp only[go_sem,aa,ae,ab,e0,e1,e6,aK]
  repeat refine an ?_
  have hI:nO S c n (fun k=>w k):=hA.now;refine(wl n p H (fun k=>w k) h2 om om (fun i hi=>by have:=hw i hi;omega)).spec (dY.same (dY.same (dY.i64s hI dY.nil))) ?_
  rcases Classical.em (oV n p H w)with hL|hL
  ·have hb:(gP (fun k=>(w k:Int)) n==1&&fD n H (fun k=>(w k:Int)) n%(p:Int)==0)=true:=by simp only[hL.lead,hL.norm];rfl
   simp -dsimp only[go_sem,aa,↓reduceIte,e0,e1,e5,e6,aK,hb]
   repeat refine an ?_
   refine EU hA.now om om ?_;intro d h' hd hh;simp -dsimp only[go_sem,aa,e5,e6]
   repeat refine an ?_
   refine aG.intro fun b18 f18=>?_;have n18d:=(ai f18).1;have hdc:c≠d:=hA.now.fresh hd;simp -dsimp only[go_sem,aa,↓reduceIte,e5,e6]
   repeat refine an ?_
   have hl1:=(hA.list.upd (hA.list.1.none hd) (hA.list.fresh hd) ⟨2,1,n,h'⟩);have hxb:=hl1.fresh f18;refine cJ.app29 (hl1.upd (hl1.1.none f18) hxb _) om (show du 1 (.sl 1 d 0 n) by simp[du]) (bD ⟨_,_,_,rfl,bV,rfl,fun h=>hxb _ h rfl⟩) ?_
   intro c' S' hX' hk1 hk3;have hA1:BC S0 S' n p H (j+1) (.sl 1 c' 0 (j+1)) c (fun i=>if i=j then d else g i) (fun i=>if i=j then w else V i) w:=by
    have hl2:=hl1.upd (hl1.1.none f18) hxb ⟨29,1,1,fun j=>[AV.sl 1 d 0 n].getD j AV.any⟩;have keep1:∀{b:Nat} {gg:Nat->AV},bB (S.upd d ⟨2,1,n,h'⟩) b 2 1 n gg->bB S' b 2 1 n gg:=fun {b gg} hb=>by
     obtain⟨gb,q1,q2⟩:=hb.upd (hb.fresh f18) ⟨29,1,1,fun j=>[AV.sl 1 d 0 n].getD j AV.any⟩;exact⟨gb,hk1 b _ q1 (hl2.other q1 om),q2⟩
    have keep:∀{b:Nat} {gg:Nat->AV},bB S b 2 1 n gg->bB S' b 2 1 n gg:=fun {b gg} hb=>keep1 (hb.upd (hb.fresh hd) _);refine⟨hX'.congr fun i hi=>?_,fun i hi=>?_,fun i hi=>?_,keep hA.now,hA.new⟩
    ·show(if i=j then AV.sl 1 d 0 n else AV.sl 1 (g i) 0 n)=AV.sl 1 (if i=j then d else g i) 0 n
     split<;>rfl
    ·by_cases e:i=j
     ·simp only[e,if_true];exact⟨keep1 (bB.here hh),hA.list.1.none hd,ak hdc⟩
     ·simp only[e,if_false];obtain⟨q1,q2,q3⟩:=hA.rows i om;exact⟨keep q1,q2,q3⟩
    ·by_cases e:i=j
     ·simp only[e,if_true];exact hL
     ·simp only[e,if_false];exact hA.good i om
   generalize (fun i=>if i=j then d else g i)=g2 at hA1
   generalize (fun i=>if i=j then w else V i)=V2 at hA1
   have wn:IntKind.i64.wrap ((n:Int)-1)=(n:Int)-1:=i64_in om om;simp -dsimp only[go_sem,aa,e5,e6,wn]
   repeat refine an ?_
   refine aI (fun O S=>∃k w',BC S0 S n p H (j+1) (.sl 1 c' 0 (j+1)) c g2 V2 w'/\digI n p k w w'/\O 0=aK n n H/\O 1=.int .i64 p/\O 5=(.sl 1 c' 0 (j+1))/\O 6=.sl 1 c 0 n/\O 7=.int .i64 ((k:Int)-1)) (fun O S=>ED (O 7)) ?_ ?_
   ·simp -dsimp only[go_sem,aa,reduceCtorEq,e0,e1,e6,aK];exact⟨n,w,hA1,⟨ah _,hw,fun _ _=>rfl,fun i a b=>by omega⟩,rfl⟩
   ·rintro O S2 ⟨k,w',hA2,⟨hk,hv,hlo,hhi⟩,e0,e1,e5,e6,e7⟩;rcases bO k with rfl|hk0
    ·simp -dsimp only[go_sem,aa,↓reduceIte,reduceCtorEq,decide_true,decide_false,ab,e0,e1,e5,e6,aK,e7,show((((0:Nat):Int)-1)<0) by decide,show ¬((0:Int)<=(((0:Nat):Int)-1)) by decide]
     repeat refine an ?_
     exact⟨(j+1),c,_,_,_,by omega,hA2⟩
    ·obtain⟨i,rfl⟩:∃i,k=i+1:=⟨k-1,by omega⟩
     rw[show(((i+1:Nat):Int)-1)=(i:Int) by omega]at e7
     have hi:i<n:=by omega
     obtain⟨g',u1,u2⟩:=hA2.now;have x1:g' i=.int .i64 (w i):=by rw[u2 i hi];show AV.int .i64 (w' i:Nat)=_;rw[hlo i om]
     have wp:IntKind.i64.wrap ((p:Int)-1)=((p-1:Nat):Int):=dq om om;have hwi:=hw i hi;by_cases he:w i=p-1
     ·have hb:(((w i:Nat):Int)==((p-1:Nat):Int))=true:=by simp[he]
      have wi:IntKind.i64.wrap ((i:Int)-1)=(i:Int)-1:=i64_in om om;simp -dsimp only[go_sem,aa,↓reduceIte,reduceCtorEq,af,decide_true,ab,e0,e1,e5,e6,aK,e7,hi,u1,x1,wp,hb,wi,ED]
      repeat refine an ?_
      refine⟨⟨i,_,hA2.set u1 (i:=i) (z:=0),⟨by omega,hv,fun a ha=>?_,fun a ha ha2=>?_⟩,rfl⟩,by omega⟩
      ·show(if a=i then 0 else w' a)=w a
       rw[if_neg om,hlo a om]
      ·show(if a=i then 0 else w' a)=0
       split
       ·rfl
       ·exact hhi a om ha2
     ·have hb:(((w i:Nat):Int)==((p-1:Nat):Int))=false:=by simp;omega
      have wi:IntKind.i64.wrap ((w i:Int)+1)=((w i+1:Nat):Int):=dq om om;have hA3:=hA2.set u1 (i:=i) (z:=w i+1);have hlt:mh p w n<mh p (fun k=>if k=i then w i+1 else w' k) n:=by
       have:=rt (p:=p) (v:=w) (w:=fun k=>if k=i then w i+1 else w' k) (i:=i) (fun k hk=>by show(if k=i then w i+1 else w' k)=w k;rw[if_neg om,hlo k om]) (by simp) (n-(i+1)) (fun k h3 h4=>⟨by show(if k=i then w i+1 else w' k)=0;rw[if_neg om,hhi k om om],hw k om⟩)
       rwa [show i+1+(n-(i+1))=n by omega]at this
      have hwp:∀a,a<n->(fun k=>if k=i then w i+1 else w' k) a<p:=fun a ha=>by
       show(if a=i then w i+1 else w' a)<p
       split
       ·omega
       ·rcases aE a (i+1)with h|h
        ·rw[hlo a h];exact hw a ha
        ·rw[hhi a h ha];omega
      have hl2:=ym (p:=p) hwp;have m1:=tg (p:=p) hA.now;have m2:=tg (p:=p) hA3.now;simp -dsimp only[go_sem,aa,↓reduceIte,reduceCtorEq,af,decide_true,decide_false,ab,e0,e1,e5,e6,aK,e7,hi,u1,x1,wp,hb,wi,show ¬((i:Int)<0) by omega]
      repeat refine an ?_
      refine⟨⟨(j+1),_,c,_,_,_,hA3,⟨hwp,by omega⟩,by simp⟩,?_⟩
      rw[m1,m2];omega
  ·have hb:(gP (fun k=>(w k:Int)) n==1&&fD n H (fun k=>(w k:Int)) n%(p:Int)==0)=false:=by
    simp only[Bool.and_eq_false_iff,beq_eq_false_iff_ne];exact Classical.byContradiction fun h=>hL ⟨hw,Classical.byContradiction fun h5=>h (bH h5),Classical.byContradiction fun h5=>h (bD h5)⟩
   simp -dsimp only[go_sem,aa,↓reduceIte,e0,e1,e5,e6,aK,hb]
   repeat refine an ?_
   have wn:IntKind.i64.wrap ((n:Int)-1)=(n:Int)-1:=i64_in om om;simp -dsimp only[go_sem,wn]
   repeat refine an ?_
   refine aI (fun O S=>∃k w',BC S0 S n p H j x c g V w'/\digI n p k w w'/\O 0=aK n n H/\O 1=.int .i64 p/\O 5=x/\O 6=.sl 1 c 0 n/\O 7=.int .i64 ((k:Int)-1)) (fun O S=>ED (O 7)) ?_ ?_
   ·simp -dsimp only[go_sem,aa,reduceCtorEq,e0,e1,e5,e6,aK];exact⟨n,w,hA,⟨ah _,hw,fun _ _=>rfl,fun i a b=>by omega⟩,rfl⟩
   ·rintro O S2 ⟨k,w',hA2,⟨hk,hv,hlo,hhi⟩,e0,e1,e5,e6,e7⟩;rcases bO k with rfl|hk0
    ·simp -dsimp only[go_sem,aa,↓reduceIte,reduceCtorEq,decide_true,decide_false,ab,e0,e1,e5,e6,aK,e7,show((((0:Nat):Int)-1)<0) by decide,show ¬((0:Int)<=(((0:Nat):Int)-1)) by decide]
     repeat refine an ?_
     exact⟨j,c,_,_,_,by omega,hA2⟩
    ·obtain⟨i,rfl⟩:∃i,k=i+1:=⟨k-1,by omega⟩
     rw[show(((i+1:Nat):Int)-1)=(i:Int) by omega]at e7
     have hi:i<n:=by omega
     obtain⟨g',u1,u2⟩:=hA2.now;have x1:g' i=.int .i64 (w i):=by rw[u2 i hi];show AV.int .i64 (w' i:Nat)=_;rw[hlo i om]
     have wp:IntKind.i64.wrap ((p:Int)-1)=((p-1:Nat):Int):=dq om om;have hwi:=hw i hi;by_cases he:w i=p-1
     ·have hb:(((w i:Nat):Int)==((p-1:Nat):Int))=true:=by simp[he]
      have wi:IntKind.i64.wrap ((i:Int)-1)=(i:Int)-1:=i64_in om om;simp -dsimp only[go_sem,aa,↓reduceIte,reduceCtorEq,af,decide_true,ab,e0,e1,e5,e6,aK,e7,hi,u1,x1,wp,hb,wi,ED]
      repeat refine an ?_
      refine⟨⟨i,_,hA2.set u1 (i:=i) (z:=0),⟨by omega,hv,fun a ha=>?_,fun a ha ha2=>?_⟩,rfl⟩,by omega⟩
      ·show(if a=i then 0 else w' a)=w a
       rw[if_neg om,hlo a om]
      ·show(if a=i then 0 else w' a)=0
       split
       ·rfl
       ·exact hhi a om ha2
     ·have hb:(((w i:Nat):Int)==((p-1:Nat):Int))=false:=by simp;omega
      have wi:IntKind.i64.wrap ((w i:Int)+1)=((w i+1:Nat):Int):=dq om om;have hA3:=hA2.set u1 (i:=i) (z:=w i+1);have hlt:mh p w n<mh p (fun k=>if k=i then w i+1 else w' k) n:=by
       have:=rt (p:=p) (v:=w) (w:=fun k=>if k=i then w i+1 else w' k) (i:=i) (fun k hk=>by show(if k=i then w i+1 else w' k)=w k;rw[if_neg om,hlo k om]) (by simp) (n-(i+1)) (fun k h3 h4=>⟨by show(if k=i then w i+1 else w' k)=0;rw[if_neg om,hhi k om om],hw k om⟩)
       rwa [show i+1+(n-(i+1))=n by omega]at this
      have hwp:∀a,a<n->(fun k=>if k=i then w i+1 else w' k) a<p:=fun a ha=>by
       show(if a=i then w i+1 else w' a)<p
       split
       ·omega
       ·rcases aE a (i+1)with h|h
        ·rw[hlo a h];exact hw a ha
        ·rw[hhi a h ha];omega
      have hl2:=ym (p:=p) hwp;have m1:=tg (p:=p) hA.now;have m2:=tg (p:=p) hA3.now;simp -dsimp only[go_sem,aa,↓reduceIte,reduceCtorEq,af,decide_true,decide_false,ab,e0,e1,e5,e6,aK,e7,hi,u1,x1,wp,hb,wi,show ¬((i:Int)<0) by omega]
      repeat refine an ?_
      refine⟨⟨j,_,c,_,_,_,hA3,⟨hwp,by omega⟩,by simp⟩,?_⟩
      rw[m1,m2];omega
def LineR(S0 S:St)(n p:Nat)(H:aU)(r:AV):Prop:=eZ S0 S/\(r=.tup [.nil,.bool false]∨∃d v,r=.tup [.sl 1 d 0 n,.bool true]/\bB S d 2 1 n (fun k=>.int .i64 ((v k:Nat):Int))/\S0 d=ac/\oV n p H v)
theorem Fe(S0:St)(n p t:Nat)(H:aU)(h1:1<=n)(h2:n<=8)(hp:2<=p)(hp2:p<=900)(ht:t<65536):cM 40 [aK n n H,.int .i64 p,.int .u16 t] S0 (fun r S'=>LineR S0 S' n p H r):=by
 refine aA Tryz.func40 rfl 28 Tryz.ntmps40 (by kernel_rfl) (by simp) (by simp[Tryz.results40]) ?_
 rw[aS,Tryz.results40];simp -dsimp only[go_sem,aj,aa,ae,reduceCtorEq,ab,aK]
 repeat refine an ?_
 refine(Fa n p h2 om hp2).call ?_;by_cases hpn:p^n<=65536
 ·simp -dsimp only[go_sem,aa,ae,reduceCtorEq,decide_true,ab,hpn]
  repeat refine an ?_
  refine(Hm S0 n p H h1 h2 hp hp2 hpn).mono ?_;rintro r S' ⟨j,c,g,V,w,hj,hA⟩;rcases hA.list.2 with⟨rfl,rfl⟩|⟨d,hd0,rfl,g',u1,u2⟩
  ·simp -dsimp only[go_sem,aa,reduceCtorEq,show((0:Int)==0)=true from rfl]
   repeat refine an ?_
   exact⟨hA.list.1,bH rfl⟩
  ·by_cases hj0:j=0
   ·subst hj0;simp -dsimp only[go_sem,aa,↓reduceIte,reduceCtorEq,ab,u1,show((((0:Nat):Int))==0)=true from rfl]
    repeat refine an ?_
    exact⟨hA.list.1,bH rfl⟩
   ·have hb:(((j:Nat):Int)==0)=false:=by simp;omega
    have w1:IntKind.i64.wrap (t:Int)=t:=i64_in om om;have hlt:t%j<j:=Nat.mod_lt _ om;simp -dsimp only[go_sem,aa,↓reduceIte,reduceCtorEq,af,ab,u1,hb,w1,show ¬((j:Int)=0) by omega,yo,hlt,u2 _ hlt]
    repeat refine an ?_
    obtain⟨q1,q2,q3⟩:=hA.rows _ hlt;exact⟨hA.list.1,bD ⟨_,_,rfl,q1,q2,hA.good _ hlt⟩⟩
 ·simp -dsimp only[go_sem,aa,ae,reduceCtorEq,decide_false,ab,hpn]
  repeat refine an ?_
  exact⟨eZ.refl _,bH rfl⟩
structure VecI(S0 S:St)(c n:Nat)(a:Nat->Int):Prop where
 has:bB S c 2 1 n (fun k=>.int .i64 (a k))
 new:S0 c=ac
 ext:eZ S0 S
 rng:∀k,k<n->-128<=a k/\a k<=127
def VecR(S0 S:St)(n:Nat)(r:AV):Prop:=∃c a,r=.sl 1 c 0 n/\VecI S0 S c n a
def VecM(S0 S:St)(bt c n i:Nat):Prop:=(∃a,VecI S0 S c n a)/\gJ S bt i/\S0 bt=ac
theorem Bp(S0:St)(L n:Nat)(nums:Nat->Int)(hn:n<=8)(hnums:∀i,i<L->-128<=nums i/\nums i<=127):cM 34 [.lst 1 L (fun i=>.int .i8 (nums i)),.int .i64 n] S0 (fun r S'=>VecR S0 S' n r):=by
 refine aA Tryz.func34 rfl 25 Tryz.ntmps34 (by kernel_rfl) (by simp) (by simp[Tryz.results34]) ?_
 rw[aS,Tryz.results34];simp -dsimp only[go_sem,aj,aa,reduceCtorEq,bC,aZ,false_implies,implies_true]
 repeat refine an ?_
 refine aG.intro fun b10 f10=>?_
 repeat refine an ?_
 refine aG.intro fun b12 f12=>?_;have n12_10:=(ai f12).1;simp -dsimp only[go_sem,Int.toNat_natCast]
 repeat refine an ?_
 refine aI (fun O S=>∃i:Nat,i<=n/\VecM S0 S b10 b12 n i/\O 5=.ptr 1 b10 0/\O 6=.sl 1 b12 0 n/\O 14=.int .i64 n/\O 15=.int .i64 i) (fun O S=>n-bY (O 15)) ?_ ?_
 ·simp -dsimp only[go_sem,aa];refine⟨0,by omega,⟨⟨fun _=>0,bB.here fun i hi=>rfl,(ai f12).2,((eZ.refl S0).upd f10 _).upd (ai f12).2 _,fun k hk=>by omega⟩,?_,f10⟩,rfl⟩
  exact gJ.upd ⟨L,nums,0,_,bV,rfl,rfl,ah _,hnums⟩ (ak n12_10) _
 ·rintro O S ⟨i,hi,⟨⟨a,hV⟩,hT,hbt⟩,e5,e6,e14,e15⟩;by_cases hlt:i<n
  ·simp -dsimp only[go_sem,aa,ae,↓reduceIte,af,decide_true,ab,e5,e6,e14,e15,hlt]
   repeat refine an ?_
   refine(rZ S b10 i hT om).mono ?_;rintro r S' ⟨z,hz,rfl,hT',hk⟩;obtain⟨g,u1,u2⟩:=hV.has;have u1':S' b12=some ⟨2,1,n,g⟩:=by rw[hk b12 n12_10];exact u1
   simp -dsimp only[go_sem,aa,↓reduceIte,reduceCtorEq,af,ab,e5,e6,e14,e15,hlt,u1',aW (show i<1000000 by omega),bY]
   repeat refine an ?_
   refine⟨⟨i+1,by omega,⟨⟨fun k=>if k=i then z else a k,bB.here fun k hk=>?_,hV.new,?_,fun k hk=>?_⟩,hT'.upd (ak n12_10) _,hbt⟩,rfl⟩,by omega⟩
   ·simp only[bK];split
    ·rfl
    ·exact u2 k hk
   ·refine eZ.upd (fun b X hX=>?_) hV.new _;have hb:b≠b10:=by rintro rfl;rw[hbt]at hX;cases hX
    rw[hk b hb];exact hV.ext b X hX
   ·show -128<=(if k=i then z else a k)/\(if k=i then z else a k)<=127
    split
    ·exact hz
    ·exact hV.rng k hk
  ·obtain rfl:i=n:=by omega
   simp -dsimp only[go_sem,aa,ae,↓reduceIte,af,decide_false,ab,e5,e6,e14,e15,hlt]
   repeat refine an ?_
   exact⟨b12,a,rfl,hV⟩
def vj(d k L:Nat)(nums:Nat->Int)(Lb:Nat)(base:Nat->AV)(q t:Nat):AV:=.agg [.int .u8 d,.int .u8 k,.lst 1 L (fun i=>.int .i8 (nums i)),.lst 1 Lb base,.int .u8 q,.int .u16 t]
def MadeR(S0 S:St)(r:AV):Prop:=eZ S0 S/\∃n H p,kM n H/\l5 (det n H) p/\p<=17 /\
 (r=.tup [aK n n H,.int .i64 p,.nil,.bool false]∨∃d v,r=.tup [aK n n H,.int .i64 p,.sl 1 d 0 n,.bool true]/\bB S d 2 1 n (fun k=>.int .i64 ((v k:Nat):Int))/\S0 d=ac/\oV n p H v)
theorem Ep(S0:St)(d k L:Nat)(nums:Nat->Int)(Lb:Nat)(base:Nat->AV)(q t:Nat)(hd:d<256)(hk:k<256)(hq:q<256)(ht:t<65536)(hnums:∀i,i<L->-128<=nums i/\nums i<=127) :
  cM 13 [vj d k L nums Lb base q t,.int .i64 5] S0 (fun r S'=>MadeR S0 S' r):=by
 refine aA Tryz.func13 rfl 32 Tryz.ntmps13 (by kernel_rfl) (by simp) (by simp[Tryz.results13]) ?_
 rw[aS,Tryz.results13];simp -dsimp only[go_sem,aj,aa,ae,↓reduceIte,reduceCtorEq,ab,vj,dj,bC,aZ,false_implies,implies_true]
 repeat refine an ?_
 refine aG.intro fun b2 f2=>?_;simp -dsimp only[go_sem,aj,ae,bE,bv]
 repeat refine an ?_
 have hu:(S0.upd b2 ⟨27,1,6,fun j=>[AV.int .u8 d,.int .u8 k,.lst 1 L (fun i=>.int .i8 (nums i)),.lst 1 Lb base,.int .u8 q,.int .u16 t].getD j .any⟩) b2=some ⟨27,1,6,fun j=>[AV.int .u8 d,.int .u8 k,.lst 1 L (fun i=>.int .i8 (nums i)),.lst 1 Lb base,.int .u8 q,.int .u16 t].getD j .any⟩:=bV;refine(Fi _ d k L nums Lb base hd hk hnums).mono ?_;rintro r S1 ⟨n,H,hF,rfl,hE1⟩;have hu1:=hE1 _ _ hu;simp -dsimp only[go_sem,aj,aa,ae,↓reduceIte,reduceCtorEq,ab,dj,bE,bv,hu1]
 repeat refine an ?_
 refine(vV S1 n H q hF hq).mono ?_;rintro r S1' ⟨p,hg,hp,rfl,rfl⟩;simp -dsimp only[go_sem,aj,aa,ae,↓reduceIte,ab,bE,bv,hu1]
 repeat refine an ?_
 refine(Fe S1' n p t H hF.one (by have:=hF.five;omega) (by have:=hg.1;omega) om ht).mono ?_
 rintro r S2 ⟨hE2,hR⟩;have hE:eZ S0 S2:=(((eZ.refl S0).upd f2 _).trans hE1).trans hE2;rcases hR with rfl|⟨c,v,rfl,h1,h2,h3⟩
 ·simp -dsimp only[go_sem,aa,↓reduceIte,bE,bv];exact⟨hE,n,H,p,hF,hg,hp,bH rfl⟩
 ·simp -dsimp only[go_sem,aa,↓reduceIte,bE,bv];exact⟨hE,n,H,p,hF,hg,hp,bD ⟨c,v,rfl,h1,(((eZ.refl S0).upd f2 _).trans hE1).none h2,h3⟩⟩
structure kY(S:St)(bp bh:Nat)(gh:Nat->Nat)(bu:Nat)(gu:Nat->Nat)(n:Nat)(H U:aU):Prop where
 pair:∃g,S bp=some ⟨183,1,2,g⟩/\g 0=.sl 1 bh 0 n/\g 1=.sl 1 bu 0 n
 h:cS S bh gh n n H
 u:cS S bu gu n n U
 ne:∀i j,i<n->j<n->gh i≠gu j
theorem cS.step{S S':St}{b:Nat}{g:Nat->Nat}{n m:Nat}{A:aU}(h:cS S b g n m A)(h1:S' b=S b)(h2:∀i,i<n->S' (g i)=S (g i)):cS S' b g n m A :=
 ⟨h.outer.via fun X hX=>by rw[h1];exact hX,fun i hi=>bB.via (h.row i hi) fun X hX=>by rw[h2 i hi];exact hX,h.inj⟩
theorem kY.step{S S':St}{bp bh bu n:Nat}{gh gu:Nat->Nat}{H U:aU}(h:kY S bp bh gh bu gu n H U){c ty es k:Nat}{gg:Nat->AV}(hc:S c=ac∨(S c=some ⟨ty,es,k,gg⟩/\ty≠183/\ty≠59/\(∀i,i<n->gh i≠c)/\∀i,i<n->gu i≠c))(hS:∀d,d≠c->S' d=S d):kY S' bp bh gh bu gu n H U:=by
 obtain⟨g,p1,p2,p3⟩:=h.pair;obtain⟨g1,q1,_⟩:=h.h.outer;obtain⟨g2,r1,_⟩:=h.u.outer;have d1:bp≠c:=by
  rintro rfl;rcases hc with hc|⟨hc,hc2,_⟩
  ·rw[p1]at hc;cases hc
  ·rw[p1]at hc;cases hc;exact hc2 rfl
 have d2:bh≠c:=by
  rintro rfl;rcases hc with hc|⟨hc,_,hc2,_⟩
  ·rw[q1]at hc;cases hc
  ·rw[q1]at hc;cases hc;exact hc2 rfl
 have d3:bu≠c:=by
  rintro rfl;rcases hc with hc|⟨hc,_,hc2,_⟩
  ·rw[r1]at hc;cases hc
  ·rw[r1]at hc;cases hc;exact hc2 rfl
 have d4:∀i,i<n->gh i≠c:=fun i hi=>by
  rintro rfl;rcases hc with hc|⟨_,_,_,hc,_⟩
  ·obtain⟨_,s1,_⟩:=h.h.row i hi;rw[s1]at hc;cases hc
  ·exact hc i hi rfl
 have d5:∀i,i<n->gu i≠c:=fun i hi=>by
  rintro rfl;rcases hc with hc|⟨_,_,_,_,hc⟩
  ·obtain⟨_,s1,_⟩:=h.u.row i hi;rw[s1]at hc;cases hc
  ·exact hc i hi rfl
 exact⟨⟨g,by rw[hS _ d1];exact p1,p2,p3⟩,h.h.step (hS _ d2) fun i hi=>hS _ (d4 i hi),h.u.step (hS _ d3) fun i hi=>hS _ (d5 i hi),h.ne⟩
theorem xu{A:aU}{i j:Nat}{z:Int}(h:z=A i j):d6 A i j z=A:=by
 funext a c;simp only[d6];split
 ·rename_i hh;rw[hh.1,hh.2];exact h
 ·rfl
theorem kY.setH{S:St}{bp bh bu n:Nat}{gh gu:Nat->Nat}{H U:aU}(h:kY S bp bh gh bu gu n H U){i j:Nat}{z:Int}{g':Nat->AV}(hi:i<n)(hS:S (gh i)=some ⟨50,2,n,g'⟩):kY (S.upd (gh i) ⟨50,2,n,bK g' j (.big z)⟩) bp bh gh bu gu n (d6 H i j z) U:=by
 obtain⟨g,p1,p2,p3⟩:=h.pair;obtain⟨g2,r1,_⟩:=h.u.outer;have d1:bp≠gh i:=by rintro rfl;rw[p1]at hS;cases hS
 have d3:bu≠gh i:=by rintro rfl;rw[r1]at hS;cases hS
 exact⟨⟨g,by rw[aQ d1];exact p1,p2,p3⟩,h.h.set hi hS,h.u.step (aQ d3) fun k hk=>aQ (ak (h.ne i k hi hk)),h.ne⟩
theorem kY.setU{S:St}{bp bh bu n:Nat}{gh gu:Nat->Nat}{H U:aU}(h:kY S bp bh gh bu gu n H U){i j:Nat}{z:Int}{g':Nat->AV}(hi:i<n)(hS:S (gu i)=some ⟨50,2,n,g'⟩):kY (S.upd (gu i) ⟨50,2,n,bK g' j (.big z)⟩) bp bh gh bu gu n H (d6 U i j z):=by
 obtain⟨g,p1,p2,p3⟩:=h.pair;obtain⟨g2,r1,_⟩:=h.h.outer;have d1:bp≠gu i:=by rintro rfl;rw[p1]at hS;cases hS
 have d3:bh≠gu i:=by rintro rfl;rw[r1]at hS;cases hS
 exact⟨⟨g,by rw[aQ d1];exact p1,p2,p3⟩,h.h.step (aQ d3) fun k hk=>aQ (h.ne k i hk hi),h.u.set hi hS,h.ne⟩
def Lt(S:St)(bp bh:Nat)(gh:Nat->Nat)(bu:Nat)(gu:Nat->Nat)(n:Nat)(H U:aU)(b7:Nat):Prop:=kY S bp bh gh bu gu n H U/\bB S b7 50 2 1 (fun _=>.big 0)/\(∀i,i<n->gh i≠b7)/\∀i,i<n->gu i≠b7
theorem t7(S0:St)(bp bh bu n s p:Nat)(gh gu:Nat->Nat)(H U:aU)(k:Nat)(hn:n<=8)(hs:s<n)(hp:p<n)(hk:k<=1000)(hH:∀i j,i<n->j<n->nb (H i j) k)(hU:∀i j,i<n->j<n->nb (U i j) k)(hP:kY S0 bp bh gh bu gu n H U) :
  cM 188 [.ptr 1 bp 0,.int .i64 s,.int .i64 p,.big 0] S0 (fun r S'=>kY S' bp bh gh bu gu n H U):=by
 refine gG Tryz.func188 rfl 92 Tryz.ntmps188 (by kernel_rfl) (by simp) ?_
 rw[aS,Tryz.results188];obtain⟨g,p1,p2,p3⟩:=hP.pair;simp -dsimp only[go_sem,aj,aa,↓reduceIte,reduceCtorEq,ab]
 repeat refine an ?_
 refine aG.intro fun b7 f7=>?_;have hQ:Lt (S0.upd b7 ⟨50,2,1,fun _=>.big 0⟩) bp bh gh bu gu n H U b7:=by
  refine⟨hP.step (ty:=0) (es:=0) (k:=0) (gg:=fun _=>.any) (bH f7) fun d hd=>aQ hd,bB.here fun _ _=>rfl,fun i hi=>bB.fresh (hP.h.row i hi) f7,fun i hi=>bB.fresh (hP.u.row i hi) f7⟩
 generalize S0.upd b7 ⟨50,2,1,fun _=>.big 0⟩=S1 at hQ ⊢;clear p1 p2 p3 hP f7;obtain⟨g,p1,p2,p3⟩:=hQ.1.pair;have h0:nb 0 k:=by unfold nb;exact Nat.pow_pos om
 simp -dsimp only[go_sem,ae,p1,p2]
 repeat refine an ?_
 refine aI (fun O S=>∃i:Nat,i<=n/\Lt S bp bh gh bu gu n H U b7/\O 0=.ptr 1 bp 0/\O 1=.int .i64 s/\O 2=.int .i64 p/\O 7=.ptr 2 b7 0/\O 14=.int .i64 n/\O 15=.int .i64 i) (fun O S=>n-bY (O 15)) ?_ ?_
 ·simp -dsimp only[go_sem,aa,reduceCtorEq];exact⟨0,by omega,hQ,rfl⟩
 ·clear hQ p1 p2 p3;rintro O S ⟨i,hi,hQ,e0,e1,e2,e7,e14,e15⟩;obtain⟨hP,h7,d1,d2⟩:=id hQ;obtain⟨g,p1,p2,p3⟩:=hP.pair;obtain⟨g7,q1,q2⟩:=id h7;have q3:=q2 0 om;by_cases hlt:i<n
  ·obtain⟨g1,u1,v1⟩:=hP.h.outer;obtain⟨g2,u2,v2⟩:=hP.h.row i hlt;have x1:g1 i=.sl 2 (gh i) 0 n:=v1 i hlt;have x2:g2 s=.big (H i s):=v2 s hs;have x3:g2 p=.big (H i p):=v2 p hp;simp -dsimp only[go_sem,aj,aa,↓reduceIte,reduceCtorEq,af,decide_true,ab,e0,e14,e15,hlt]
   repeat refine an ?_
   refine bG 32 (by kernel_rfl) ?_
   simp -dsimp only[go_sem,aa,ae,↓reduceIte,reduceCtorEq,af,ab,e0,e1,e2,e7,e14,e15,hlt,p1,p2,u1,x1,u2,x2,x3,hs,hp,q1,q3]
   repeat refine an ?_
   refine⟨_,(gz h0 (hH i p hlt hp) om).pure',_,(pc (hH i s hlt hs) (show nb (0*H i p) k by rw[n0];exact h0) om).pure',?_⟩
   have hN:=hP.setH (j:=s) (z:=H i s-0*H i p) hlt u2;rw[xu (show H i s-0*H i p=H i s by omega)]at hN
   simp -dsimp only[go_sem,aW (show i<1000000 by omega),bY]
   repeat refine an ?_
   exact⟨⟨i+1,by omega,⟨hN,h7.upd (ak (d1 i hlt)) _,d1,d2⟩,rfl⟩,by omega⟩
  ·simp -dsimp only[go_sem,aj,aa,ae,↓reduceIte,reduceCtorEq,af,decide_false,ab,e0,e14,e15,hlt,p1,p3]
   repeat refine an ?_
   refine aI (fun O S=>∃i:Nat,i<=n/\Lt S bp bh gh bu gu n H U b7/\O 0=.ptr 1 bp 0/\O 1=.int .i64 s/\O 2=.int .i64 p/\O 7=.ptr 2 b7 0/\O 55=.int .i64 n/\O 56=.int .i64 i) (fun O S=>n-bY (O 56)) ?_ ?_
   ·simp -dsimp only[go_sem,aa,reduceCtorEq,e0,e1,e2,e7];exact⟨0,by omega,hQ,rfl⟩
   ·clear hQ p1 p2 p3 q1 q2 q3 hP d1 d2 h7 e0 e1 e2 e7 e14 e15;rintro O S ⟨i,hi,hQ,e0,e1,e2,e7,e14,e15⟩;obtain⟨hP,h7,d1,d2⟩:=id hQ;obtain⟨g,p1,p2,p3⟩:=hP.pair;obtain⟨g7,q1,q2⟩:=id h7;have q3:=q2 0 om;by_cases hlt:i<n
    ·obtain⟨g1,u1,v1⟩:=hP.u.outer;obtain⟨g2,u2,v2⟩:=hP.u.row i hlt;have x1:g1 i=.sl 2 (gu i) 0 n:=v1 i hlt;have x2:g2 s=.big (U i s):=v2 s hs;have x3:g2 p=.big (U i p):=v2 p hp;simp -dsimp only[go_sem,aa,↓reduceIte,af,decide_true,e14,e15,hlt]
     repeat refine an ?_
     refine bG 32 (by kernel_rfl) ?_
     simp -dsimp only[go_sem,aa,ae,↓reduceIte,reduceCtorEq,af,ab,e0,e1,e2,e7,e14,e15,hlt,p1,p3,u1,x1,u2,x2,x3,hs,hp,q1,q3]
     repeat refine an ?_
     refine⟨_,(gz h0 (hU i p hlt hp) om).pure',_,(pc (hU i s hlt hs) (show nb (0*U i p) k by rw[n0];exact h0) om).pure',?_⟩
     have hN:=hP.setU (j:=s) (z:=U i s-0*U i p) hlt u2;rw[xu (show U i s-0*U i p=U i s by omega)]at hN
     simp -dsimp only[go_sem,aW (show i<1000000 by omega),bY]
     repeat refine an ?_
     exact⟨⟨i+1,by omega,⟨hN,h7.upd (ak (d2 i hlt)) _,d1,d2⟩,rfl⟩,by omega⟩
    ·obtain rfl:i=n:=by omega
     simp -dsimp only[go_sem,aa,↓reduceIte,af,decide_false,e14,e15,hlt]
     repeat refine an ?_
     exact hP
theorem yS(S0:St)(bp bh bu n r p:Nat)(gh gu:Nat->Nat)(H U:aU)(k:Nat)(hn:n<=8)(hr:r<n)(hp:p<n)(hk:k<=1000)(hH:∀i j,i<n->j<n->nb (H i j) k)(hP:kY S0 bp bh gh bu gu n H U)
  (hz:∀c,p<c->c<n->H r c=0) (hd:0<H r p):cM 187 [.ptr 1 bp 0,.int .i64 r,.int .i64 p] S0 (fun _ S'=>S'=S0):=by
 refine gG Tryz.func187 rfl 74 Tryz.ntmps187 (by kernel_rfl) (by simp) ?_
 rw[aS,Tryz.results187];obtain⟨g,p1,p2,p3⟩:=hP.pair;obtain⟨g1,u1,v1⟩:=hP.h.outer;obtain⟨g2,u2,v2⟩:=hP.h.row r hr;have x1:g1 r=.sl 2 (gh r) 0 n:=v1 r hr;have x2:g2 p=.big (H r p):=v2 p hp;simp -dsimp only[go_sem,aj,aa,reduceCtorEq,aW (show p<1000000 by omega)]
 repeat refine an ?_
 refine aI (fun O S=>∃c:Nat,(p<c/\c<=n)/\S=S0/\O 0=.ptr 1 bp 0/\O 1=.int .i64 r/\O 2=.int .i64 p/\O 6=.int .i64 c) (fun O S=>n-bY (O 6)) ?_ ?_
 ·simp -dsimp only[go_sem,aa,reduceCtorEq];exact⟨p+1,by omega,by omega,rfl⟩
 ·rintro O S ⟨c,hc,rfl,e0,e1,e2,e6⟩;by_cases hlt:c<n
  ·have x3:g2 c=.big (H r c):=v2 c hlt;have h0:=hz c hc.1 hlt;simp -dsimp only[go_sem,aj,aa,ae,↓reduceIte,reduceCtorEq,af,decide_true,ab,e0,e1,e2,e6,p1,p2,p3,hlt]
   repeat refine an ?_
   refine aI (fun O S'=>S'=S/\O 0=.ptr 1 bp 0/\O 1=.int .i64 r/\O 2=.int .i64 p/\O 6=.int .i64 c) (fun O S=>0) ?_ ?_
   ·simp -dsimp only[go_sem,aa,reduceCtorEq,e0,e1,e2,e6]
   ·rintro O S' ⟨rfl,e0,e1,e2,e6⟩;simp -dsimp only[go_sem,aa,ae,↓reduceIte,af,ab,e0,e1,e6,p1,p2,u1,x1,u2,x3,hlt,hr]
    repeat refine an ?_
    refine(gO (hH r c hr hlt) om).call ?_;simp -dsimp only[go_sem,aa,↓reduceIte,reduceCtorEq,e0,e1,e2,e6,p2,x1,x3,h0,mC,show((0:Int) != 0)=false from rfl,aW (show c<1000000 by omega),bY]
    repeat refine an ?_
    exact⟨⟨c+1,by omega,by omega,rfl⟩,by omega⟩
  ·simp -dsimp only[go_sem,aj,aa,ae,↓reduceIte,reduceCtorEq,af,decide_false,ab,e0,e1,e2,e6,p1,p2,p3,u1,x1,u2,x2,hlt,hr,hp]
   repeat refine an ?_
   refine(gO (hH r p hr hp) om).call ?_;simp -dsimp only[go_sem,aa,ae,↓reduceIte,reduceCtorEq,decide_false,ab,e0,e1,e2,p2,x1,x2,cK hd,show ¬((1:Int)<0) by decide]
   repeat refine an ?_
structure sP(n:Nat)(H:aU):Prop where
 up:∀r c,r<n->r<c->c<n->H r c=0
 pos:∀r,r<n->0<H r r
 red:∀r c,r<n->c<r->0<=H r c/\H r c<H r r
def FormR(S:St)(n:Nat)(H:aU)(r:AV):Prop:=∃bh gh bu gu,r=.tup [.sl 1 bh 0 n,.sl 1 bu 0 n,.bool true]/\cS S bh gh n n H/\cS S bu gu n n mZ
theorem cS.step'{S S':St}{b:Nat}{g:Nat->Nat}{n m:Nat}{A:aU}(h:cS S b g n m A)(he:eZ S S'):cS S' b g n m A :=
 ⟨h.outer.via fun X hX=>he _ _ hX,fun i hi=>bB.via (h.row i hi) fun X hX=>he _ _ hX,h.inj⟩
theorem CT(n:Nat)(H:aU)(k:Nat)(h1:1<=n)(hn:n<=8)(hk:k<=1000)(hk1:1<=k)(hH:∀i j,i<n->j<n->nb (H i j) k)(hM:sP n H):cM 125 [aV n n H] St.none (fun r S'=>FormR S' n H r):=by
 refine aA Tryz.func125 rfl 99 Tryz.ntmps125 (by kernel_rfl) (by simp) (by simp[Tryz.results125]) ?_
 rw[aS,Tryz.results125];have hI:∀i j,i<n->j<n->nb (mZ i j) k:=fun i j _ _=>by
  have:2^1<=2^k:=Nat.pow_le_pow_right om hk1;unfold nb mZ;split<;>simp<;>omega
 simp -dsimp only[go_sem,aa,ae,reduceCtorEq,ab]
 repeat refine an ?_
 refine(oo n n H h1 om h1 om).call ?_;simp -dsimp only[go_sem,aa,ae,reduceCtorEq,ab]
 repeat refine an ?_
 refine(oW n h1 om _ _ (cw _ _)).mono ?_;rintro r S1 ⟨bu,gu,rfl,hu⟩;simp -dsimp only[go_sem,aa,ae,reduceCtorEq,ab]
 repeat refine an ?_
 refine(zM n n H k om h1 om hH om _ _ (cw _ _)).mono ?_;rintro r S2 ⟨bh,gh,rfl,hh⟩;simp -dsimp only[go_sem,aj,aa,reduceCtorEq,bC,aZ,false_implies,implies_true]
 repeat refine an ?_
 refine aG.intro fun b31 f31=>?_;have hP:kY (S2.upd b31 ⟨183,1,2,fun j=>[AV.sl 1 bh 0 n,.sl 1 bu 0 n].getD j .any⟩) b31 bh gh bu gu n H mZ:=by
  have hu2:cS S2 bu gu n n mZ:=hu.1.step' hh.2.1;refine⟨⟨_,bV,rfl,rfl⟩,hh.1.step (aQ (bB.fresh hh.1.outer f31)) fun i hi=>aQ (bB.fresh (hh.1.row i hi) f31),hu2.step (aQ (bB.fresh hu2.outer f31)) fun i hi=>aQ (bB.fresh (hu2.row i hi) f31),fun i j hi hj e=>?_⟩;have e1:=hh.2.2.2 i hi;obtain⟨_,e2,_⟩:=hu.1.row j hj;rw[e,e2]at e1;cases e1
 generalize S2.upd b31 ⟨183,1,2,fun j=>[AV.sl 1 bh 0 n,.sl 1 bu 0 n].getD j .any⟩=S3 at hP ⊢;clear hu hh f31;refine aI (fun O S=>∃i:Nat,i<=n/\kY S b31 bh gh bu gu n H mZ/\O 0=aV n n H/\O 6=.int .i64 n/\O 10=.ptr 1 b31 0/\O 11=.int .i64 i/\O 12=.int .i64 i) (fun O S=>n-bY (O 11)) ?_ ?_
 ·simp -dsimp only[go_sem,aa,reduceCtorEq];exact⟨0,by omega,hP,rfl,rfl⟩
 ·clear hP;rintro O S ⟨i,hi,hP,e0,e6,e10,e11,e12⟩;by_cases hlt:i<n
  ·simp -dsimp only[go_sem,aa,ae,↓reduceIte,reduceCtorEq,af,decide_true,ab,aV,e0,e6,e10,e11,e12,hlt]
   repeat refine an ?_
   refine(yS S b31 bh bu n i i gh gu H mZ k hn hlt hlt hk hH hP (fun c h2 h3=>hM.up i c hlt h2 h3) (hM.pos i hlt)).mono ?_;rintro r S' rfl;obtain⟨g,p1,p2,p3⟩:=hP.pair;obtain⟨g1,u1,v1⟩:=hP.h.outer;obtain⟨g2,u2,v2⟩:=hP.h.row i hlt;have x1:g1 i=.sl 2 (gh i) 0 n:=v1 i hlt;have x2:g2 i=.big (H i i):=v2 i hlt;simp -dsimp only[go_sem,aa,ae,↓reduceIte,af,ab,e10,e11,e12,hlt,p1,p2,u1,x1,u2,x2]
   repeat refine an ?_
   refine(gO (hH i i hlt hlt) om).call ?_;simp -dsimp only[go_sem,aa,↓reduceIte,reduceCtorEq,aV,e0,e6,e10,e11,e12,p2,x1,x2,cK (hM.pos i hlt),show((1:Int)==0)=false from rfl]
   repeat refine an ?_
   clear u1 v1 u2 v2 x1 x2 p1 p2 p3;refine aI (fun O S=>∃s:Nat,s<=i/\kY S b31 bh gh bu gu n H mZ/\O 0=aV n n H/\O 6=.int .i64 n/\O 10=.ptr 1 b31 0/\O 11=.int .i64 i/\O 12=.int .i64 i/\O 13=.int .i64 s) (fun O S=>i-bY (O 13)) ?_ ?_
   ·simp -dsimp only[go_sem,aa,reduceCtorEq,aV,e0,e6,e10,e11,e12];exact⟨0,by omega,hP,rfl⟩
   ·clear hP e0 e6 e10 e11 e12;rintro O S ⟨s,hs,hP,e0,e6,e10,e11,e12,e13⟩;by_cases hsi:s<i
    ·obtain⟨g,p1,p2,p3⟩:=hP.pair;obtain⟨g1,u1,v1⟩:=hP.h.outer;obtain⟨g2,u2,v2⟩:=hP.h.row i hlt;have x1:g1 i=.sl 2 (gh i) 0 n:=v1 i hlt;have x2:g2 i=.big (H i i):=v2 i hlt;have hsn:s<n:=by omega
     have x3:g2 s=.big (H i s):=v2 s hsn;simp -dsimp only[go_sem,aa,↓reduceIte,reduceCtorEq,af,decide_true,aV,e0,e6,e10,e11,e12,e13,hsi]
     repeat refine an ?_
     refine bG 24 (by kernel_rfl) ?_
     simp -dsimp only[go_sem,aa,ae,↓reduceIte,af,ab,e10,e11,e12,e13,hlt,p1,p2,u1,x1,u2,x2,x3,hsn]
     repeat refine an ?_
     refine⟨_,(ni (hH i s hlt hsn) (hH i i hlt hlt) om (by have:=hM.pos i hlt;omega)).pure',?_⟩
     have hq:H i s/H i i=0:=Int.ediv_eq_zero_of_lt (hM.red i s hlt hsi).1 (hM.red i s hlt hsi).2;rw[hq]
     try simp -dsimp only[go_sem,aj,aa,Nat.reduceLeDiff,ae,↓reduceIte,reduceCtorEq,af,decide_true,decide_false,ay]
     refine(t7 S b31 bh bu n s i gh gu H mZ k hn hsn hlt hk hH hI hP).mono ?_;intro r S' hP';simp -dsimp only[go_sem,aa,reduceCtorEq,aV,e0,e6,e10,e11,e12,e13,aW (show s<1000000 by omega),bY]
     repeat refine an ?_
     exact⟨⟨s+1,by omega,hP',rfl⟩,by omega⟩
    ·obtain rfl:s=i:=by omega
     simp -dsimp only[go_sem,aa,↓reduceIte,reduceCtorEq,af,decide_false,aV,e0,e6,e10,e11,e12,e13,hsi,aW (show s<1000000 by omega),bY]
     repeat refine an ?_
     exact⟨⟨s+1,by omega,hP,rfl,rfl⟩,by omega⟩
  ·obtain rfl:i=n:=by omega
   obtain⟨g,p1,p2,p3⟩:=hP.pair;simp -dsimp only[go_sem,aa,ae,↓reduceIte,reduceCtorEq,af,decide_false,ab,aV,e0,e10,e11,e12,hlt]
   repeat refine an ?_
   refine bG 11 (by kernel_rfl) ?_
   simp -dsimp only[go_sem,aa,ae,↓reduceIte,ab,e10,p1,p2,p3]
   repeat refine an ?_
   exact⟨bh,gh,bu,gu,rfl,hP.h,hP.u⟩
theorem FN(n c:Nat)(H:aU)(k:Nat)(hn:n<=8)(hk:k<=1000)(hc:c<n)(hH:∀i j,i<n->j<n->nb (H i j) k)(hM:sP n H):PF 73 [aV n n H,.int .i64 c] (.int .i64 c):=by
 refine PF.of_spec (aA Tryz.func73 rfl 24 Tryz.ntmps73 (by kernel_rfl) (by simp) (by simp[Tryz.results73]) ?_)
 rw[aS,Tryz.results73];simp -dsimp only[go_sem,aj,reduceCtorEq,aV]
 repeat refine an ?_
 refine aI (fun O S=>∃i:Nat,i<=c/\O 0=aV n n H/\O 1=.int .i64 c/\O 7=.int .i64 n/\O 8=.int .i64 i) (fun O S=>n-bY (O 8)) ?_ ?_
 ·simp -dsimp only[go_sem,aa,reduceCtorEq,aV];exact⟨0,by omega,rfl⟩
 ·rintro O S ⟨i,hi,e0,e1,e7,e8⟩;have hlt:i<n:=by omega
  simp -dsimp only[go_sem,aa,ae,↓reduceIte,reduceCtorEq,af,decide_true,ab,aV,bn,e0,e1,e7,e8,hlt,hc]
  repeat refine an ?_
  refine(gO (hH i c hlt hc) om).call ?_;by_cases e:i=c
  ·subst e;simp -dsimp only[go_sem,aa,reduceCtorEq,aV,bn,e0,e1,e7,e8,cK (hM.pos i hlt),show((1:Int) != 0)=true from rfl]
   repeat refine an ?_
   exact VR.mf rfl
  ·simp -dsimp only[go_sem,aa,reduceCtorEq,aV,bn,e0,e1,e7,e8,hM.up i c hlt om hc,mC,show((0:Int) != 0)=false from rfl,aW (show i<1000000 by omega),bY]
   repeat refine an ?_
   exact⟨⟨i+1,by omega,rfl⟩,by omega⟩
theorem Aq{b c:Nat}{K:AV->Prop}(h:K (.sl 2 b 0 c)):jo 59 (.sl 2 b 0 c) ac (some (.int .i64 c)) ac K:=by
 refine⟨rfl,0,c,?_⟩;simp;exact h
theorem Fl(n:Nat)(H:aU)(k:Nat)(h1:1<=n)(hn:n<=8)(hk:k<=1000)(hk1:1<=k)(hH:∀i j,i<n->j<n->nb (H i j) k)(hM:sP n H):PF 62 [aV n n H] (.tup [aV n n H,.bool true]):=by
 refine PF.of_spec (aA Tryz.func62 rfl 51 Tryz.ntmps62 (by kernel_rfl) (by simp) (by simp[Tryz.results62]) ?_)
 rw[aS,Tryz.results62];simp -dsimp only[go_sem,aa,ae,reduceCtorEq,ab]
 repeat refine an ?_
 refine(CT n H k h1 hn hk hk1 hH hM).mono ?_;rintro r S1 ⟨bh,gh,bu,gu,rfl,hh,hu⟩;simp -dsimp only[go_sem,aa,reduceCtorEq]
 repeat refine an ?_
 clear hu;have hp0:0<n:=by omega
 refine aI (fun O S=>∃c:Nat,c<=n/\cS S bh gh n n H/\O 4=.sl 1 bh 0 n/\O 7=.int .i64 c) (fun O S=>n-bY (O 7)) ?_ ?_
 ·simp -dsimp only[go_sem,aa];exact⟨0,by omega,hh,rfl⟩
 ·clear hh;rintro O S ⟨c,hc,hh,e4,e7⟩;obtain⟨g1,u1,v1⟩:=id hh.outer;obtain⟨g2,u2,v2⟩:=id (hh.row 0 hp0);have x1:g1 0=.sl 2 (gh 0) 0 n:=v1 0 hp0;by_cases hlt:c<n
  ·simp -dsimp only[go_sem,aa,ae,↓reduceIte,af,decide_true,ay,ab,e4,e7,u1,x1,hlt,hp0,show((0:Int)<(n:Int)) by omega,lR]
   repeat refine an ?_
   refine(FN n c H k hn hk hlt hH hM).spec (dY.mat hh (dY.same dY.nil)) ?_;simp -dsimp only[go_sem,aa,↓reduceIte,af,decide_true,e4,e7,x1,hlt,aW (show c<1000000 by omega),bY]
   repeat refine an ?_
   exact⟨⟨c+1,by omega,hh,rfl⟩,by omega⟩
  ·obtain rfl:c=n:=by omega
   simp -dsimp only[go_sem,aa,↓reduceIte,af,decide_false,ay,ab,e4,e7,u1,x1,hlt,hp0,show((0:Int)<(c:Int)) by omega,lR,show(((c:Nat):Int)==0)=false by simp;omega]
   repeat refine an ?_
   refine aI (fun O S=>∃i:Nat,i<=c/\cS S bh gh c c H/\O 4=.sl 1 bh 0 c/\O 7=.int .i64 c/\O 36=.int .i64 c/\O 37=.int .i64 i) (fun O S=>c-bY (O 37)) ?_ ?_
   ·simp -dsimp only[go_sem,aa,e4,e7];exact⟨0,by omega,hh,rfl⟩
   ·clear hh u1 v1 u2 v2 x1 e4 e7;rintro O S ⟨i,hi,hh,e4,e7,e36,e37⟩;obtain⟨g1,u1,v1⟩:=id hh.outer;by_cases hlt:i<c
    ·have x1:g1 i=.sl 2 (gh i) 0 c:=v1 i hlt;obtain⟨g2,u2,v2⟩:=id (hh.row i hlt);simp -dsimp only[go_sem,aa,↓reduceIte,af,decide_true,ab,e4,e7,e36,e37,hlt,u1,x1,aW (show i<1000000 by omega),bY,Option.map_none,Option.map_some]
     repeat refine an ?_
     refine Aq ?_;simp -dsimp only[go_sem]
     repeat refine an ?_
     refine⟨⟨i+1,by omega,⟨bB.here fun a ha=>?_,fun a ha=>bB.upd (hh.row a ha) (ak (hh.outer_ne ha)) _,hh.inj⟩,rfl⟩,by omega⟩
     simp only[bK];split
     ·rename_i e;rw[e]
     ·exact v1 a ha
    ·simp -dsimp only[go_sem,aa,↓reduceIte,af,decide_false,ab,e4,e7,e36,e37,hlt]
     repeat refine an ?_
     exact VR.tup2 hh.vr (VR.mf rfl)
def jn(H:aU)(x:Nat->Int):Nat->Nat->Int
 | 0=>x
 | c+1=>fun i=>jn H x c i-(jn H x c c/H c c)*H i c
theorem DG{a b:Int}(hb:0<b):(a/b).natAbs<=a.natAbs:=by
 have h1:=Int.mul_ediv_add_emod a b;have h2:=aT a (show b≠0 by omega)
 have h3:=aM a hb;rcases Int.lt_or_le (a/b) 0 with h|h
 ·have h4:(a/b)*(b-1)<=0:=Int.mul_nonpos_of_nonpos_of_nonneg om om;have h5:b*(a/b)=(a/b)*(b-1)+a/b:=by rw[vT,k9,cZ];omega
  have h6:(a/b+1)*(b-1)<=0:=Int.mul_nonpos_of_nonpos_of_nonneg om om;have h7:(a/b+1)*(b-1)=(a/b)*(b-1)+(b-1):=by rw[Int.add_mul,et]
  omega
 ·have h4:0<=(a/b)*(b-1):=cY h om;have h5:b*(a/b)=(a/b)*(b-1)+a/b:=by rw[vT,k9,cZ];omega
  omega
theorem yu{n:Nat}{H:aU}{x:Nat->Int}{k:Nat}(hH:∀i j,i<n->j<n->nb (H i j) k)(hM:sP n H)(hx:∀i,i<n->nb (x i) k):∀c,c<=n->∀i,i<n->nb (jn H x c i) (k+c*(k+1))
 | 0,_,i,hi=>by simp only[jn,Nat.zero_mul,cR];exact hx i hi
 | c+1,hc,i,hi=>by
  have h1:=yu hH hM hx c om i hi;have h2:=yu hH hM hx c om c om;have h3:nb (jn H x c c/H c c) (k+c*(k+1)):=h2.of_le (DG (hM.pos c om));have h4:=h3.mul (hH i c hi om);have h5:=(h1.mono (show k+c*(k+1)<=k+c*(k+1)+k by omega)).sub h4
  refine h5.mono ?_;rw[Nat.add_mul,jG];omega
theorem CG{S:St}{n:Nat}{x:Nat->Int}{K:AV->St->Prop}(h1:0<n)(h2:n<=1000)
  (hK:∀b,S b=ac->K (.sl 2 b 0 n) (S.upd b ⟨50,2,n,fun i=>.big (x i)⟩)):eL 59 59 .nil (.lst 2 n (fun i=>.big (x i))) S K:=by
 unfold eL;rw[show cX 59=some 50 from rfl];exact⟨rfl,rfl,rfl,h1,fun j hj=>trivial,by omega,hK⟩
def ConI(S:St)(b7 b10 n:Nat)(f:Nat->Int)(q:Int):Prop:=bB S b7 50 2 n (fun a=>.big (f a))/\dc S b10 50 2 (.big q)
theorem Bz(n:Nat)(H:aU)(x:Nat->Int)(k:Nat)(h1:1<=n)(hn:n<=8)(hk:k<=1000)(hk1:1<=k)(hH:∀i j,i<n->j<n->nb (H i j) k)(hM:sP n H)(hx:∀i,i<n->nb (x i) k)(β:Bool)(hβ:β=true↔∀i,i<n->jn H x n i=0):PF 32 [aV n n H,bn n x] (.bool β):=by
 refine PF.of_spec (aA Tryz.func32 rfl 91 Tryz.ntmps32 (by kernel_rfl) (by simp) (by simp[Tryz.results32]) ?_)
 rw[aS,Tryz.results32];have hB:∀c,c<=n->∀i,i<n->nb (jn H x c i) 20000:=fun c hc i hi=>(yu hH hM hx c hc i hi).mono (by have:c*(k+1)<=8*1001:=ci om om;omega)
 have hp0:0<n:=by omega
 have hpz:((0:Int)<(n:Int)):=by omega
 simp -dsimp only[go_sem,aj,aa,ae,reduceCtorEq,ab]
 repeat refine an ?_
 refine(Fl n H k h1 hn hk hk1 hH hM).call ?_;simp -dsimp only[go_sem,aa,↓reduceIte,reduceCtorEq,aV,bn,show((n:Int) != n)=false by simp]
 repeat refine an ?_
 refine CG hp0 om ?_;intro b7 f7;simp -dsimp only[go_sem,aa,reduceCtorEq]
 repeat refine an ?_
 refine aI (fun O S=>∃c:Nat,c<=n/\bB S b7 50 2 n (fun i=>.big (jn H x c i))/\O 5=aV n n H/\O 7=.sl 2 b7 0 n/\O 8=.int .i64 c) (fun O S=>n-bY (O 8)) ?_ ?_
 ·simp -dsimp only[go_sem,aa,aV,bn];exact⟨0,by omega,bB.here fun _ _=>rfl,rfl⟩
 ·rintro O S ⟨c,hc,hX,e5,e7,e8⟩;by_cases hlt:c<n
  ·simp -dsimp only[go_sem,aa,ae,↓reduceIte,af,decide_true,ay,ab,aV,bn,e5,e7,e8,hpz,hlt,lR]
   repeat refine an ?_
   refine(FN n c H k hn hk hlt hH hM).call ?_;obtain⟨g,u1,u2⟩:=id hX;have x1:g c=.big (jn H x c c):=u2 c hlt;simp -dsimp only[go_sem,aa,aV,bn,e5,e8]
   repeat refine an ?_
   refine bG 13 (by kernel_rfl) ?_
   simp -dsimp only[go_sem,aa,ae,↓reduceIte,af,ab,aV,bn,e5,e7,e8,hlt,u1,x1]
   repeat refine an ?_
   refine⟨_,(ni (hB c hc c hlt) ((hH c c hlt hlt).mono om) om (by have:=hM.pos c hlt;omega)).pure',?_⟩
   refine aG.intro fun b10 f10=>?_;have nb7:b7≠b10:=hX.fresh f10;obtain⟨q,hq⟩:∃q,jn H x c c/H c c=q:=⟨_,rfl⟩;have hqn:nb q 20000:=by rw[<-hq];exact(hB c hc c hlt).of_le (DG (hM.pos c hlt))
   simp -dsimp only[go_sem,aa,ae,↓reduceIte,e7,hq]
   repeat refine an ?_
   refine aI (fun O S'=>∃i:Nat,i<=n/\ConI S' b7 b10 n (fun a=>if a<i then jn H x (c+1) a else jn H x c a) q/\O 5=aV n n H/\O 7=.sl 2 b7 0 n/\O 8=.int .i64 c/\O 10=.ptr 2 b10 0/\O 59=.int .i64 n/\O 60=.int .i64 i) (fun O S=>n-bY (O 60)) ?_ ?_
   ·simp -dsimp only[go_sem,aa,↓reduceIte,aV,bn,e5,e7,e8];exact⟨0,by omega,⟨((hX.upd nb7 _).upd nb7 _).congr fun a ha=>by simp,dc.set⟩,rfl,rfl⟩
   ·rintro O S' ⟨i,hi,⟨hX',hV⟩,e5,e7,e8,e10,e59,e60⟩;obtain⟨g',w1,w2⟩:=id hX';obtain⟨gq,y1,y2⟩:=id hV;by_cases hin:i<n
    ·have x2:g' i=.big (jn H x c i):=by rw[w2 i hin];simp
     have hm:=(hqn.mul (hH i c hin hlt));simp -dsimp only[go_sem,aa,↓reduceIte,af,decide_true,aV,bn,e5,e7,e8,e59,e60,hin]
     repeat refine an ?_
     refine bG 17 (by kernel_rfl) ?_
     simp -dsimp only[go_sem,aa,ae,↓reduceIte,reduceCtorEq,af,ab,aV,bn,e5,e7,e8,e10,e59,e60,hin,hlt,w1,x2,y1,y2]
     repeat refine an ?_
     refine⟨_,(gz hqn ((hH i c hin hlt).mono om) om).pure',_,(pc ((hB c hc i hin).mono om) (hm.mono (show 20000+k<=21000 by omega)) om).pure',?_⟩
     simp -dsimp only[go_sem,aW (show i<1000000 by omega),bY]
     repeat refine an ?_
     refine⟨⟨i+1,by omega,⟨bB.here fun a ha=>?_,hV.upd (ak nb7) _⟩,rfl⟩,by omega⟩
     simp only[bK];by_cases e:a=i
     ·subst e;simp[jn,hq]
     ·rw[if_neg e,w2 a ha];have:(a<i+1)↔a<i:=by omega
      simp only[this]
    ·obtain rfl:i=n:=by omega
     simp -dsimp only[go_sem,aa,↓reduceIte,af,decide_false,aV,bn,e5,e7,e8,e59,e60,hin,aW (show c<1000000 by omega),bY]
     repeat refine an ?_
     exact⟨⟨c+1,by omega,hX'.congr fun a ha=>by simp[ha],rfl⟩,by omega⟩
  ·obtain rfl:c=n:=by omega
   simp -dsimp only[go_sem,aa,ae,↓reduceIte,af,decide_true,decide_false,ay,ab,aV,bn,e5,e7,e8,hpz,hlt,lR]
   repeat refine an ?_
   refine aI (fun O S=>∃i:Nat,(i<=c/\∀a,a<i->jn H x c a=0)/\bB S b7 50 2 c (fun i=>.big (jn H x c i))/\O 81=.sl 2 b7 0 c/\O 82=.int .i64 c/\O 83=.int .i64 i) (fun O S=>c-bY (O 83)) ?_ ?_
   ·simp -dsimp only[go_sem,aa];exact⟨0,by omega,fun a ha=>by omega,hX,rfl⟩
   ·clear hX e5 e7 e8;rintro O S ⟨i,⟨hi,hz⟩,hX,e81,e82,e83⟩;obtain⟨g,u1,u2⟩:=id hX;by_cases hin:i<c
    ·have x1:g i=.big (jn H x c i):=u2 i hin;simp -dsimp only[go_sem,aa,↓reduceIte,af,decide_true,ab,e81,e82,e83,hin,u1]
     repeat refine an ?_
     refine aG.intro fun b13 f13=>?_;have nb7:b7≠b13:=hX.fresh f13;simp -dsimp only[go_sem,aa,ae,↓reduceIte,ab,x1,bK]
     repeat refine an ?_
     refine(gO (hB c (ah _) i hin) om).call ?_;by_cases h0:jn H x c i=0
     ·simp -dsimp only[go_sem,aa,↓reduceIte,e81,e82,e83,h0,mC,show((0:Int) != 0)=false from rfl,aW (show i<1000000 by omega),bY]
      repeat refine an ?_
      refine⟨⟨i+1,by omega,fun a ha=>?_,(hX.upd nb7 _).upd nb7 _,rfl⟩,by omega⟩
      by_cases e:a=i
      ·rw[e];exact h0
      ·exact hz a om
     ·have hs:((jn H x c i).sign != 0)=true:=by simp[h0]
      simp -dsimp only[go_sem,aa,↓reduceIte,e81,e82,e83,hs]
      repeat refine an ?_
      have:β=false:=by
       cases β with
       | false=>rfl
       | true=>exact absurd (hβ.1 rfl i hin) h0
      rw[this];exact VR.mf rfl
    ·obtain rfl:i=c:=by omega
     simp -dsimp only[go_sem,aa,↓reduceIte,af,decide_false,ab,e81,e82,e83,hin]
     repeat refine an ?_
     have:β=true:=hβ.2 hz;rw[this];exact VR.mf rfl
theorem Ap{H:aU}{x:Nat->Int}:∀c i,x i=jn H x c i+aD c fun d=>(jn H x d d/H d d)*H i d
 | 0,i=>by simp[jn,aD]
 | c+1,i=>by
  have h:=Ap (H:=H) (x:=x) c i;simp only[jn,aD];omega
theorem FP{n c:Nat}{f:Nat->Int}(hc:c<n)(hz:∀d,c<d->d<n->f d=0):aD n f=aD c f+f c:=by
 induction n with
 | zero=>omega
 | succ n ih =>
  simp only[aD];by_cases e:c=n
  ·rw[e]
  ·rw[ih om (fun d h1 h2=>hz d h1 om),hz n om om];omega
theorem yt{n:Nat}{H:aU}{x y:Nat->Int}(hM:sP n H)(hx:∀i,i<n->x i=aD n fun d=>y d*H i d):∀c,c<=n->∀i,i<n->jn H x c i=(aD n fun d=>y d*H i d)-aD c fun d=>y d*H i d
 | 0,_,i,hi=>by simp only[jn,aD];rw[hx i hi];omega
 | c+1,hc,i,hi=>by
  have h1:=yt hM hx c om i hi;have h2:=yt hM hx c om c om;have h3:=FP (n:=n) (c:=c) (f:=fun d=>y d*H c d) om (fun d h4 h5=>by show y d*H c d=0;rw[hM.up c d om h4 h5,Int.mul_zero])
  have h4:jn H x c c=y c*H c c:=by rw[h2,h3];show aD c _+y c*H c c-aD c _=_;omega
  have h5:jn H x c c/H c c=y c:=by rw[h4,Int.mul_ediv_cancel _ (by have:=hM.pos c om;omega)]
  simp only[jn,aD];rw[h5,h1];omega
theorem FQ{n:Nat}{H:aU}{x:Nat->Int}(hM:sP n H):(∀i,i<n->jn H x n i=0)↔∃y:Nat->Int,∀i,i<n->x i=aD n fun d=>y d*H i d:=by
 constructor
 ·intro h;exact⟨fun d=>jn H x d d/H d d,fun i hi=>by have:=Ap (H:=H) (x:=x) n i;rw[h i hi,Int.zero_add]at this;exact this⟩
 ·rintro⟨y,hy⟩ i hi;rw[yt hM hy n (ah _) i hi];omega
theorem C9{n:Nat}{f:Nat->Int}{B:Int}(h:∀i,i<n->0<=f i/\f i<=B):0<=aD n f/\aD n f<=n*B:=by
 induction n with
 | zero=>simp[aD]
 | succ n ih =>
  have h1:=ih (fun i hi=>h i om);have h2:=h n om;simp only[aD];rw[Int.natCast_add,Int.add_mul];simp only[Int.natCast_one,et];omega
theorem l0{a b A B:Int}(ha:0<=a/\a<=A)(hb:0<=b/\b<=B):0<=a*b/\a*b<=A*B :=
 ⟨cY ha.1 hb.1,Int.mul_le_mul ha.2 hb.2 hb.1 om⟩
theorem AK(n m:Nat)(r v:Nat->Int)(hn:n<=8)(hm:1<=m)(hr:∀i,i<n->0<=r i/\r i<=10000)(hv:∀i,i<n->0<=v i/\v i<=10000):PF 178 [bJ n r,bJ n v,.int .i64 m] (.int .i64 ((aD n fun j=>r j*v j)%m)):=by
 refine PF.of_spec (aA Tryz.func178 rfl 29 Tryz.ntmps178 (by kernel_rfl) (by simp) (by simp[Tryz.results178]) ?_)
 rw[aS,Tryz.results178];have hm0:¬((m:Int)=0):=by omega
 simp -dsimp only[go_sem,aj,aa,reduceCtorEq,bJ]
 repeat refine an ?_
 refine aI (fun O S=>∃i:Nat,i<=n/\O 0=bJ n r/\O 2=.int .i64 m/\O 7=.int .i64 (aD i fun j=>r j*v j)/\O 10=bJ n v/\O 11=.int .i64 n/\O 12=.int .i64 i) (fun O S=>n-bY (O 12)) ?_ ?_
 ·simp -dsimp only[go_sem,aa,reduceCtorEq,bJ];exact⟨0,by omega,rfl,rfl⟩
 ·rintro O S ⟨i,hi,e0,e2,e7,e10,e11,e12⟩;have hs:=C9 (n:=i) (f:=fun j=>r j*v j) (B:=10000*10000) (fun j hj=>l0 (hr j om) (hv j om));have hi8:(i:Int)*(10000*10000)<=8*(10000*10000):=cc om om;by_cases hlt:i<n
  ·have h1:=l0 (hr i hlt) (hv i hlt);have w1:IntKind.i64.wrap (r i*v i)=r i*v i:=i64_in om om;have w2:IntKind.i64.wrap ((aD i fun j=>r j*v j)+r i*v i)=aD (i+1) fun j=>r j*v j:=i64_in om om;simp -dsimp only[go_sem,aa,↓reduceIte,reduceCtorEq,af,decide_true,bJ,e0,e2,e7,e10,e11,e12,hlt,w1,w2,aW (show i<1000000 by omega),bY]
   repeat refine an ?_
   exact⟨⟨i+1,by omega,rfl,rfl⟩,by omega⟩
  ·obtain rfl:i=n:=by omega
   have w1:dW (aD i fun j=>r j*v j) m=(aD i fun j=>r j*v j)%m:=aL hs.1;simp -dsimp only[go_sem,aa,↓reduceIte,reduceCtorEq,af,decide_false,bJ,e0,e2,e7,e10,e11,e12,hlt,hm0,w1]
   repeat refine an ?_
   exact VR.mf rfl
theorem uA(n m:Nat)(A:aU)(v:Nat->Int)(hn:n<=8)(hm:1<=m)(hm2:m<=10000)(hA:∀i j,i<n->j<n->0<=A i j/\A i j<=10000)(hv:∀i,i<n->0<=v i/\v i<=10000):PF 180 [aK n n A,bJ n v,.int .i64 m] (.int .i64 (fD n A v n%m)):=by
 refine PF.of_spec (aA Tryz.func180 rfl 32 Tryz.ntmps180 (by kernel_rfl) (by simp) (by simp[Tryz.results180]) ?_)
 rw[aS,Tryz.results180];have hm0:¬((m:Int)=0):=by omega
 simp -dsimp only[go_sem,aj,aa,reduceCtorEq,bJ,aK]
 repeat refine an ?_
 refine aI (fun O S=>∃i:Nat,i<=n/\O 0=aK n n A/\O 1=bJ n v/\O 2=.int .i64 m/\O 7=.int .i64 (aD i fun i=>(aD n fun j=>A i j*v j)%m*v i)/\O 10=bJ n v/\O 11=.int .i64 n/\O 12=.int .i64 i) (fun O S=>n-bY (O 12)) ?_ ?_
 ·simp -dsimp only[go_sem,aa,reduceCtorEq,bJ,aK];exact⟨0,by omega,rfl,rfl⟩
 ·rintro O S ⟨i,hi,e0,e1,e2,e7,e10,e11,e12⟩;have hq:∀j,0<=(aD n fun k=>A j k*v k)%m/\(aD n fun k=>A j k*v k)%m<=10000:=fun j=>by
   have h1:=aT (aD n fun k=>A j k*v k) (show(m:Int)≠0 by omega)
   have h2:=aM (aD n fun k=>A j k*v k) (show(0:Int)<m by omega)
   omega
  have hs:=C9 (n:=i) (f:=fun i=>(aD n fun j=>A i j*v j)%m*v i) (B:=10000*10000) (fun j hj=>l0 (hq j) (hv j om));have hi8:(i:Int)*(10000*10000)<=8*(10000*10000):=cc om om;by_cases hlt:i<n
  ·have h1:=l0 (hq i) (hv i hlt);have w1:IntKind.i64.wrap ((aD n fun j=>A i j*v j)%m*v i)=(aD n fun j=>A i j*v j)%m*v i:=i64_in om om;have w2:IntKind.i64.wrap ((aD i fun i=>(aD n fun j=>A i j*v j)%m*v i)+(aD n fun j=>A i j*v j)%m*v i)=aD (i+1) fun i=>(aD n fun j=>A i j*v j)%m*v i:=i64_in om om;simp -dsimp only[go_sem,aa,ae,↓reduceIte,reduceCtorEq,af,decide_true,ab,bJ,aK,e0,e1,e2,e7,e10,e11,e12,hlt]
   repeat refine an ?_
   refine(AK n m (A i) v hn hm (fun j hj=>hA i j hlt hj) hv).call ?_;simp -dsimp only[go_sem,aa,reduceCtorEq,bJ,aK,e0,e1,e2,e7,e10,e11,e12,w1,w2,aW (show i<1000000 by omega),bY]
   repeat refine an ?_
   exact⟨⟨i+1,by omega,rfl,rfl⟩,by omega⟩
  ·obtain rfl:i=n:=by omega
   have w1:dW (aD i fun a=>(aD i fun j=>A a j*v j)%m*v a) m=fD i A v i%m:=by
    rw[aL hs.1];unfold fD;exact lp i _ _ m fun a _=>by rw[dl,Int.emod_emod_of_dvd _ (Int.dvd_refl _),<-dl]
   simp -dsimp only[go_sem,aa,ae,↓reduceIte,reduceCtorEq,af,decide_false,ab,bJ,aK,e0,e1,e2,e7,e10,e11,e12,hlt,hm0,w1]
   repeat refine an ?_
   exact VR.mf rfl
structure eh(o e es:Nat)(S1 S:St)(b:Nat)(g:Nat->Nat)(n m k:Nat)(E:Nat->Nat->AV):Prop where
 ext:eZ S1 S
 new:S1 b=ac
 outer:bB S b o 1 n (fun i=>if i<k then .sl es (g i) 0 m else .nil)
 row:∀i,i<k->bB S (g i) e es m (E i)
 rnew:∀i,i<k->S1 (g i)=ac
 inj:∀i j,i<k->j<k->g i=g j->i=j
theorem eh.init{o e es:Nat}{S1:St}{b:Nat}(hb:S1 b=ac){n m:Nat}{z:Nat->AV}(hz:∀i,i<n->z i=.nil)(g:Nat->Nat)(E:Nat->Nat->AV):eh o e es S1 (S1.upd b ⟨o,1,n,z⟩) b g n m 0 E :=
 ⟨(eZ.refl S1).upd hb _,hb,bB.here fun i hi=>by rw[if_neg om];exact hz i hi,fun i hi=>by omega,fun i hi=>by omega,fun i j hi=>by omega⟩
theorem eh.ne{o e es:Nat}{S1 S:St}{b:Nat}{g:Nat->Nat}{n m k:Nat}{E:Nat->Nat->AV}(h:eh o e es S1 S b g n m k E)(hoe:o≠e){i:Nat}(hi:i<k):b≠g i:=bB.ne h.outer (h.row i hi) hoe
theorem eh.push{o e es:Nat}{S1 S:St}{b:Nat}{g:Nat->Nat}{n m k:Nat}{E:Nat->Nat->AV}(h:eh o e es S1 S b g n m k E)(hoe:o≠e){c:Nat}(hc:S c=ac){g':Nat->AV}(hS:S b=some ⟨o,1,n,g'⟩)(z:Nat->AV) :
  eh o e es S1 ((S.upd c ⟨e,es,m,z⟩).upd b ⟨o,1,n,bK g' k (.sl es c 0 m)⟩) b (fun i=>if i=k then c else g i) n m (k+1) (fun i=>if i=k then z else E i):=by
 have hbc:b≠c:=by rintro rfl;rw[hS]at hc;cases hc
 have hc1:=h.ext.none hc;obtain⟨g2,u1,u2⟩:=h.outer;rw[hS]at u1;cases u1;refine⟨(h.ext.upd hc1 _).upd h.new _,h.new,bB.here fun i hi=>?_,fun i hi=>?_,fun i hi=>?_,fun i j hi hj e=>?_⟩
 ·have:=u2 i hi;grind [bK]
 ·by_cases e:i=k
  ·simp only[e,if_true];exact(bB.here fun _ _=>rfl).upd (ak hbc) _
  ·simp only[e,if_false];have r1:=h.row i om;exact(r1.upd (bB.fresh r1 hc) _).upd (ak (h.ne hoe om)) _
 ·by_cases e:i=k
  ·simp only[e,if_true];exact hc1
  ·simp only[e,if_false];exact h.rnew i om
 ·by_cases e1:i=k<;>by_cases e2:j=k<;>simp only[e1,e2,if_true,if_false]at e ⊢
  ·exact absurd e.symm (bB.fresh (h.row j om) hc)
  ·exact absurd e (bB.fresh (h.row i om) hc)
  ·exact h.inj i j om om e
theorem eh.put{o e es:Nat}{S1 S:St}{b:Nat}{g:Nat->Nat}{n m k:Nat}{E:Nat->Nat->AV}(h:eh o e es S1 S b g n m k E)(hoe:o≠e){i:Nat}(hi:i<k){g':Nat->AV}(hS:S (g i)=some ⟨e,es,m,g'⟩)(j:Nat)(v:AV) :
  eh o e es S1 (S.upd (g i) ⟨e,es,m,bK g' j v⟩) b g n m k (fun a c=>if a=i/\c=j then v else E a c):=by
 refine⟨h.ext.upd (h.rnew i hi) _,h.new,h.outer.upd (h.ne hoe hi) _,fun a ha=>?_,h.rnew,h.inj⟩;by_cases e:a=i
 ·subst e;obtain⟨g2,h1,h2⟩:=h.row a ha;rw[hS]at h1;cases h1;refine bB.here fun c hc=>?_;have:=h2 c hc;simp only[bK]
  grind
 ·refine((h.row a ha).upd (fun e2=>e (h.inj a i ha hi e2)) _).congr fun c _=>?_;simp[e]
theorem eh.congr{o e es:Nat}{S1 S:St}{b:Nat}{g:Nat->Nat}{n m k:Nat}{E E':Nat->Nat->AV}(h:eh o e es S1 S b g n m k E)(he:∀i j,i<k->j<m->E i j=E' i j):eh o e es S1 S b g n m k E' :=
 ⟨h.ext,h.new,h.outer,fun i hi=>(h.row i hi).congr fun j hj=>he i j hi hj,h.rnew,h.inj⟩
theorem eh.imat{S1 S:St}{b:Nat}{g:Nat->Nat}{n m:Nat}{E:Nat->Nat->AV}{A:aU}(h:eh 29 2 1 S1 S b g n m n E)(he:∀i j,i<n->j<m->E i j=.int .i64 (A i j)):iB S1 S b g n m A :=
 ⟨⟨h.outer.congr fun i hi=>by rw[if_pos hi],fun i hi=>(h.row i hi).congr fun j hj=>he i j hi hj,h.inj⟩,h.ext,h.new,h.rnew⟩
theorem eh.mat{S1 S:St}{b:Nat}{g:Nat->Nat}{n m:Nat}{E:Nat->Nat->AV}{A:aU}(h:eh 59 50 2 S1 S b g n m n E)(he:∀i j,i<n->j<m->E i j=.big (A i j)):ge S1 S b g n m A :=
 ⟨⟨h.outer.congr fun i hi=>by rw[if_pos hi],fun i hi=>(h.row i hi).congr fun j hj=>he i j hi hj,h.inj⟩,h.ext,h.new,h.rnew⟩
theorem eh.other{o e es:Nat}{S1 S:St}{b:Nat}{g:Nat->Nat}{n m k:Nat}{E:Nat->Nat->AV}(h:eh o e es S1 S b g n m k E){S':St}(hE:eZ S S'):eh o e es S1 S' b g n m k E :=
 ⟨h.ext.trans hE,h.new,hE.has h.outer,fun i hi=>hE.has (h.row i hi),h.rnew,h.inj⟩
theorem eh.upd{o e es:Nat}{S1 S:St}{b:Nat}{g:Nat->Nat}{n m k:Nat}{E:Nat->Nat->AV}(h:eh o e es S1 S b g n m k E){c:Nat}(h1:S1 c=ac)(h2:b≠c)(h3:∀i,i<k->g i≠c)(X:dn):eh o e es S1 (S.upd c X) b g n m k E :=
 ⟨h.ext.upd h1 _,h.new,h.outer.upd h2 _,fun i hi=>(h.row i hi).upd (h3 i hi) _,h.rnew,h.inj⟩
theorem BW{t e es n:Nat}(l:Nat){a:Int}{g:Nat->AV}{k:IntKind}{K:AV->Prop}(ht:cX t=some e)(he:es=bI e)(ha:a=(l:Int))(hl:l<=n)(h:K (.lst es (n-l) (fun j=>g (l+j)))):jo t (.lst es n g) (some (.int k a)) ac ac K:=by
 unfold jo;rw[ht];exact⟨he,l,n,ha,rfl,trivial,hl,ah _,h⟩
end Go.Proofs.YtdobfmlmenaajaaGreatDoor
