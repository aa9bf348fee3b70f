/-
  Lemmas for NeighbourMembers.
-/
import Derived.Test.YtdobfmlmenaajaaGreatDoorN23
import Derived.Test.YtdobfmlmenaajaaGreatDoorN15
namespace Go.Proofs.YtdobfmlmenaajaaGreatDoor
open Go.RowKit
open _root_.Int renaming ofNat_lt→af,zero_le_ofNat→ay,tmod_eq_emod_of_nonneg→aL,emod_lt_of_pos→aM,emod_nonneg→aT,tmod→dW,tdiv→gX
open _root_.Nat renaming reduceEqDiff→aa,add_one_le_iff→ab,reduceLT→ae,reduceAdd→aj,reduceLeDiff→aq,lt_of_le_of_lt→fH
open _root_.Ne renaming symm→ak
open _root_.Option renaming none→ac
set_option maxHeartbeats 6400000
set_option maxRecDepth 4096
set_option linter.all false
theorem oD(m:Nat)(A:aU)(h1:1<=m)(hm:m<=8)(h0:0<A 0 0)(h00:A 0 0<65536)(hA:∀i,1<=i->i<m->2*A i 0<=A 0 0/\-2*A i 0<=A 0 0):PF 108 [aK m m A] (.bool true):=by
 refine PF.of_spec (aA Tryz.func108 rfl 39 Tryz.ntmps108 (by kernel_rfl) (by simp) (by simp[Tryz.results108]) ?_)
 rw[aS,Tryz.results108];have hp0:0<m:=by omega
 have hpz:(0:Int)<(m:Int):=by omega
 have c1:¬(A 0 0<=0):=by omega
 have c2:¬((65536:Int)<=A 0 0):=by omega
 simp -dsimp only[go_sem,aa,reduceCtorEq,decide_false,ay,bJ,aK,hpz,c1,c2,Option.map_none,Option.map_some]
 repeat refine an ?_
 refine BW 1 rfl rfl rfl om ?_;simp -dsimp only[go_sem]
 repeat refine an ?_
 refine aI (fun O S=>∃i:Nat,i<=m-1/\O 3=.int .i64 (A 0 0)/\O 18=.lst 1 (m-1) (fun i=>bJ m (A (1+i)))/\O 19=.int .i64 ((m-1:Nat):Int)/\O 20=.int .i64 i) (fun O S=>m-bY (O 20)) ?_ ?_
 ·simp -dsimp only[go_sem,aa,bJ];exact⟨0,by omega,rfl⟩
 ·rintro O S ⟨i,hi,e3,e18,e19,e20⟩;by_cases hlt:i<m-1
  ·obtain⟨k1,k2⟩:=hA (1+i) om om;have w1:IntKind.i64.wrap (2*A (1+i) 0)=2*A (1+i) 0:=i64_in om om;have w2:IntKind.i64.wrap (-2*A (1+i) 0)=-2*A (1+i) 0:=i64_in om om;simp -dsimp only[go_sem,aa,↓reduceIte,af,decide_true,decide_false,ay,bJ,e3,e18,e19,e20,hpz,hlt,w1,w2,show ¬(A 0 0<2*A (1+i) 0) by omega,show ¬(A 0 0 < -2*A (1+i) 0) by omega,aW (show i<1000000 by omega),bY]
   repeat refine an ?_
   exact⟨⟨i+1,by omega,rfl⟩,by omega⟩
  ·simp -dsimp only[go_sem,aa,↓reduceIte,af,decide_false,ay,bJ,e3,e18,e19,e20,hlt]
   repeat refine an ?_
   exact VR.mf rfl
theorem Cj(n:Nat)(A:aU)(h1:1<=n)(hn:n<=8)(hs:∀i j,i<n->j<n->A i j=A j i)(hA:∀i j,i<n->j<n->-262144<A i j/\A i j<262144):PF 107 [aK n n A] (.bool true):=by
 refine PF.of_spec (aA Tryz.func107 rfl 62 Tryz.ntmps107 (by kernel_rfl) (by simp) (by simp[Tryz.results107]) ?_)
 rw[aS,Tryz.results107];simp -dsimp only[go_sem,aa,reduceCtorEq,decide_false,bJ,aK,show ¬((n:Int)<1) by omega,show ¬((8:Int)<(n:Int)) by omega]
 repeat refine an ?_
 refine aI (fun O S=>∃i:Nat,i<=n/\O 0=aK n n A/\O 3=.int .i64 n/\O 18=aK n n A/\O 19=.int .i64 n/\O 20=.int .i64 i) (fun O S=>n-bY (O 20)) ?_ ?_
 ·simp -dsimp only[go_sem,aa,reduceCtorEq,bJ,aK];exact⟨0,by omega,rfl⟩
 ·rintro O S ⟨i,hi,e0,e3,e18,e19,e20⟩;by_cases hlt:i<n
  ·simp -dsimp only[go_sem,aa,↓reduceIte,reduceCtorEq,af,decide_true,bJ,aK,e0,e3,e18,e19,e20,hlt,show((n:Int) != n)=false by simp,aW (show i<1000000 by omega),bY]
   repeat refine an ?_
   exact⟨⟨i+1,by omega,rfl⟩,by omega⟩
  ·simp -dsimp only[go_sem,aa,↓reduceIte,reduceCtorEq,af,decide_false,bJ,aK,e0,e3,e18,e19,e20,hlt]
   repeat refine an ?_
   clear e3 e18 e19 e20;refine aI (fun O S=>∃i:Nat,i<=n/\O 0=aK n n A/\O 29=aK n n A/\O 30=.int .i64 n/\O 31=.int .i64 i) (fun O S=>n-bY (O 31)) ?_ ?_
   ·simp -dsimp only[go_sem,aa,reduceCtorEq,bJ,aK,e0];exact⟨0,by omega,rfl⟩
   ·clear e0;rintro O S ⟨i,hi,e0,e29,e30,e31⟩;by_cases hlt:i<n
    ·simp -dsimp only[go_sem,aa,↓reduceIte,af,decide_true,bJ,aK,e29,e30,e31,hlt]
     repeat refine an ?_
     refine aI (fun O S=>∃j:Nat,j<=n/\O 0=aK n n A/\O 6=.int .i64 i/\O 29=aK n n A/\O 30=.int .i64 n/\O 31=.int .i64 i/\O 36=bJ n (A i)/\O 37=.int .i64 n/\O 38=.int .i64 j) (fun O S=>n-bY (O 38)) ?_ ?_
     ·simp -dsimp only[go_sem,aa,reduceCtorEq,bJ,aK,e0,e29,e30,e31];exact⟨0,by omega,rfl⟩
     ·clear e0 e29 e30 e31;rintro O S ⟨j,hj,e0,e6,e29,e30,e31,e36,e37,e38⟩;by_cases hjt:j<n
      ·have k1:=hA i j hlt hjt;have k2:=hs i j hlt hjt;simp -dsimp only[go_sem,aa,↓reduceIte,reduceCtorEq,af,decide_true,decide_false,bJ,aK,e0,e6,e29,e30,e31,e36,e37,e38,hlt,hjt,show(A i j != A j i)=false by rw[k2];simp,show ¬(A i j<=-262144) by omega,show ¬((262144:Int)<=A i j) by omega,aW (show j<1000000 by omega),bY]
       repeat refine an ?_
       exact⟨⟨j+1,by omega,rfl⟩,by omega⟩
      ·simp -dsimp only[go_sem,aa,↓reduceIte,reduceCtorEq,af,decide_false,bJ,aK,e0,e6,e29,e30,e31,e36,e37,e38,hlt,hjt,aW (show i<1000000 by omega),bY]
       repeat refine an ?_
       exact⟨⟨i+1,by omega,rfl⟩,by omega⟩
    ·simp -dsimp only[go_sem,aa,↓reduceIte,af,decide_false,bJ,aK,e29,e30,e31,hlt]
     repeat refine an ?_
     exact VR.mf rfl
theorem qf(n m:Nat)(A:aU)(h1:1<=n)(h2:n<=16)(h3:1<=m)(h4:m<=16):PF 223 [aK n m A] (.bool true):=by
 refine PF.of_spec (aA Tryz.func223 rfl 41 Tryz.ntmps223 (by kernel_rfl) (by simp) (by simp[Tryz.results223]) ?_)
 rw[aS,Tryz.results223];have hp0:0<n:=by omega
 have hpz:(0:Int)<(n:Int):=by omega
 simp -dsimp only[go_sem,aa,reduceCtorEq,decide_false,ay,bJ,aK,hpz,show ¬((n:Int)<1) by omega,show ¬((16:Int)<(n:Int)) by omega,show ¬((m:Int)<1) by omega,show ¬((16:Int)<(m:Int)) by omega]
 repeat refine an ?_
 refine aI (fun O S=>∃i:Nat,i<=n/\O 0=aK n m A/\O 27=aK n m A/\O 28=.int .i64 n/\O 29=.int .i64 i) (fun O S=>n-bY (O 29)) ?_ ?_
 ·simp -dsimp only[go_sem,aa,reduceCtorEq,bJ,aK];exact⟨0,by omega,rfl⟩
 ·rintro O S ⟨i,hi,e0,e27,e28,e29⟩;by_cases hlt:i<n
  ·simp -dsimp only[go_sem,aa,↓reduceIte,reduceCtorEq,af,decide_true,ay,bJ,aK,e0,e27,e28,e29,hpz,hlt,show((m:Int) != m)=false by simp,aW (show i<1000000 by omega),bY]
   repeat refine an ?_
   exact⟨⟨i+1,by omega,rfl⟩,by omega⟩
  ·simp -dsimp only[go_sem,aa,↓reduceIte,reduceCtorEq,af,decide_false,ay,bJ,aK,e0,e27,e28,e29,hlt]
   repeat refine an ?_
   exact VR.mf rfl
theorem jl(m:Int)(h1:2<=m)(h2:m<=2147483647):PF 224 [.int .i64 m] (.int .i64 0):=by
 refine PF.of_spec (aA Tryz.func224 rfl 9 Tryz.ntmps224 (by kernel_rfl) (by simp) (by simp[Tryz.results224]) ?_)
 rw[aS,Tryz.results224];simp -dsimp only[go_sem,aa,reduceCtorEq,decide_false,show ¬(m<2) by omega,show ¬((2147483647:Int)<m) by omega]
 repeat refine an ?_
 exact VR.mf rfl
theorem su(n:Nat)(A:aU)(h1:1<=n)(h2:n<=8):PF 226 [aK n n A] (.bool true):=by
 refine PF.of_spec (aA Tryz.func226 rfl 19 Tryz.ntmps226 (by kernel_rfl) (by simp) (by simp[Tryz.results226]) ?_)
 rw[aS,Tryz.results226];have hp0:0<n:=by omega
 have hpz:(0:Int)<(n:Int):=by omega
 simp -dsimp only[go_sem,aa,ae,reduceCtorEq,ab]
 repeat refine an ?_
 refine(qf n n A h1 om h1 om).call ?_;simp -dsimp only[go_sem,aa,reduceCtorEq,decide_true,ay,bJ,aK,hpz,show((n:Int)<=8) by omega,show((n:Int)==n)=true by simp]
 repeat refine an ?_
 exact VR.mf rfl
theorem Ak{x m:Int}(hm:1<=m)(hm2:m<=2147483647):IntKind.i64.wrap (dW x m+m)=dW x m+m/\dW (dW x m+m) m=x%m:=by
 have h1:dW x m<m:=Int.tmod_lt_of_pos x om;have h2:-m<dW x m:=by
  have:=Int.tmod_lt_of_pos (-x) (show 0<m by omega)
  rw[Int.neg_tmod]at this;omega
 have h3:dW (dW x m+m) m=x%m:=by
  rw[aL om,Int.add_emod_right];have h4:x=m*gX x m+dW x m:=(Int.mul_tdiv_add_tmod x m).symm;have h5:x%m=(dW x m+m*gX x m)%m:=by rw[<-show x=dW x m+m*gX x m by omega]
  rw[h5,Int.add_mul_emod_self_left]
 have h6:=aT x (show m≠0 by omega)
 have h7:=aM x (show 0<m by omega)
 exact⟨i64_in om om,h3⟩
def jJ(A:aU)(m:Int):aU:=fun i j=>A i j%m
theorem kG(n k:Nat)(A:aU)(m:Int)(hn:n<=16)(hk:k<=16)(hm:1<=m)(hm2:m<=2147483647):Fh 225 [aK n k A,.int .i64 m] n k (jJ A m):=by
 refine Fh.of ?_;refine aA Tryz.func225 rfl 49 Tryz.ntmps225 (by kernel_rfl) (by simp) (by simp[Tryz.results225]) ?_
 rw[aS,Tryz.results225];have hm0:¬(m=0):=by omega
 simp -dsimp only[go_sem,aj,reduceCtorEq,bJ,aK]
 repeat refine an ?_
 refine aG.intro fun bc fc=>?_
 repeat refine an ?_
 simp -dsimp only[go_sem]
 repeat refine an ?_
 refine aI (fun O S'=>∃i:Nat,i<=n/\O 1=.int .i64 m/\O 5=.sl 1 bc 0 n/\O 13=aK n k A/\O 14=.int .i64 n/\O 15=.int .i64 i/\∃g',eh 29 2 1 St.none S' bc g' n k i (fun a j=>.int .i64 (jJ A m a j))) (fun O S=>n-bY (O 15)) ?_ ?_
 ·simp -dsimp only[go_sem,aa,reduceCtorEq,bJ,aK];exact⟨0,by omega,rfl,fun _=>0,eh.init fc (fun _ _=>rfl) _ _⟩
 ·rintro O S' ⟨i,hi,e1,e5,e13,e14,e15,g',hR⟩;by_cases hit:i<n
  ·obtain⟨g4,u4,v4⟩:=id hR.outer;simp -dsimp only[go_sem,aa,↓reduceIte,af,decide_true,ab,aK,bJ,e5,e13,e14,e15,hit]
   repeat refine an ?_
   refine aG.intro fun bd fd=>?_
   repeat refine an ?_
   have hdc:bc≠bd:=bB.fresh hR.outer fd;simp -dsimp only[go_sem,hit,u4,hdc]
   repeat refine an ?_
   have hR1:=hR.push (by decide) fd u4 (fun _=>.int .i64 0)
   generalize hgg:(fun a=>if a=i then bd else g' a)=gg at hR1
   refine aI (fun O S'=>∃j:Nat,j<=k/\O 1=.int .i64 m/\O 5=.sl 1 bc 0 n/\O 6=.int .i64 i/\O 13=aK n k A/\O 14=.int .i64 n/\O 15=.int .i64 i/\O 26=bJ k (A i)/\O 27=.int .i64 k/\O 28=.int .i64 j/\eh 29 2 1 St.none S' bc gg n k (i+1) (fun a c=>.int .i64 (if a=i/\j<=c then 0 else jJ A m a c))) (fun O S=>k-bY (O 28)) ?_ ?_
   ·simp -dsimp only[go_sem,aa,aK,bJ,e1,e5,e13,e14,e15];refine⟨0,by omega,rfl,hR1.congr fun a c _ _=>?_⟩
    by_cases e:a=i
    ·simp[e]
    ·simp[e]
   ·clear e1 e5 e13 e14 e15 hR hR1 u4 v4 hgg;rintro O S' ⟨j,hj,e1,e5,e6,e13,e14,e15,e26,e27,e28,hR⟩;by_cases hjt:j<k
    ·obtain⟨g4,u4,v4⟩:=id hR.outer;obtain⟨g5,u5,v5⟩:=id (hR.row i om);have x4:g4 i=.sl 1 (gg i) 0 k:=(v4 i hit).trans (if_pos om);obtain⟨q1,q2⟩:=Ak (x:=A i j) hm hm2;simp -dsimp only[go_sem,aa,↓reduceIte,af,decide_true,aK,bJ,e1,e5,e13,e14,e15,e26,e27,e28,hjt]
     repeat refine an ?_
     refine bG 13 (by kernel_rfl) ?_
     simp -dsimp only[go_sem,aa,↓reduceIte,reduceCtorEq,af,ab,aK,bJ,e1,e5,e6,e13,e14,e15,e26,e27,e28,hit,hjt,u4,x4,u5,hm0,q1,q2,aW (show j<1000000 by omega),bY]
     repeat refine an ?_
     refine⟨⟨j+1,by omega,rfl,(hR.put (by decide) (show i<i+1 by omega) u5 j (.int .i64 (jJ A m i j))).congr fun a c _ _=>?_⟩,by omega⟩
     by_cases e:a=i/\c=j
     ·obtain⟨rfl,rfl⟩:=e;rw[if_pos ⟨rfl,rfl⟩,if_neg om]
     ·rw[if_neg e];congr 1;by_cases e2:a=i/\j<=c
      ·rw[if_pos e2,if_pos om]
      ·rw[if_neg e2,if_neg om]
    ·simp -dsimp only[go_sem,aa,↓reduceIte,af,decide_false,aK,bJ,e1,e5,e13,e14,e15,e26,e27,e28,hjt,aW (show i<1000000 by omega),bY]
     repeat refine an ?_
     exact⟨⟨i+1,by omega,rfl,gg,hR.congr fun a c _ hc=>by rw[if_neg om]⟩,by omega⟩
  ·obtain rfl:i=n:=by omega
   have hN:=hR.imat (A:=jJ A m) (fun _ _ _ _=>rfl);simp -dsimp only[go_sem,aa,↓reduceIte,af,decide_false,ab,aK,bJ,e5,e13,e14,e15,hit]
   repeat refine an ?_
   exact⟨bc,rfl,g',hN.1⟩
def wK(f:Nat)(args:List AV)(n m:Nat)(A:Nat->Nat->Int):Prop:=∀S args',dY S args' args->cM f args' S (fun r S'=>∃b g,r=.tup [.sl 1 b 0 n,.int .i64 0]/\iB S S' b g n m A)
theorem wK.of{f:Nat}{args:List AV}{n m:Nat}{A:Nat->Nat->Int}(h:cM f args St.none (fun r S'=>∃b g,r=.tup [.sl 1 b 0 n,.int .i64 0]/\dD S' b g n m A)):wK f args n m A:=fun S args' hv=>by
 have h1:cM f args St.none (fun r S'=>∃b g,r=.tup [.sl 1 b 0 n,.int .i64 0]/\dD S' b g n m A/\Fk S'):=h.less fun r S' ⟨b,g,e,hm⟩=>⟨fB S' b g n,iF S' b g n,b,g,e,hm.only.1,hm.only.2⟩;refine(h1.frame hv ?_).mono ?_
 ·rintro r S1 ⟨b,g,rfl,_,hc⟩;exact⟨rfl,hc⟩
 ·rintro r S' ⟨S1,⟨b,g,rfl,hm,_⟩,hd,rfl⟩;exact⟨b,g,rfl,hm.join hd⟩
theorem wK.pf{f:Nat}{args:List AV}{n m:Nat}{A:Nat->Nat->Int}(h:wK f args n m A):PF f args (.tup [aK n m A,.int .i64 0]) :=
 PF.of_spec ((h St.none args (cw _ _)).mono fun _ _ ⟨_,_,e,h⟩=>e▸VR.tup2 h.vr (VR.mf rfl))
theorem sN(n k:Nat)(A:aU)(m:Int)(h1:1<=n)(h2:n<=16)(h3:1<=k)(h4:k<=16)(hm:2<=m)(hm2:m<=2147483647):wK 176 [aK n k A,.int .i64 m] n k (jJ A m):=by
 refine wK.of ?_;refine aA Tryz.func176 rfl 18 Tryz.ntmps176 (by kernel_rfl) (by simp) (by simp[Tryz.results176]) ?_
 rw[aS,Tryz.results176];simp -dsimp only[go_sem,aj,aa,ae,reduceCtorEq,ab]
 repeat refine an ?_
 refine(qf n k A h1 h2 h3 h4).call ?_;simp -dsimp only[go_sem,aa,ae,reduceCtorEq,ab]
 repeat refine an ?_
 refine(jl m hm hm2).call ?_;simp -dsimp only[go_sem,aa,ae,reduceCtorEq,ab]
 repeat refine an ?_
 refine(kG n k A m h2 h4 om hm2 _ _ (cw _ _)).mono ?_;rintro _ S' ⟨b,g,rfl,hN⟩;simp -dsimp only[go_sem,aa,reduceCtorEq]
 repeat refine an ?_
 exact⟨b,rfl,g,hN.1⟩
def i7(A B:aU)(K:Nat)(m:Int):aU:=fun i j=>(aD K fun t=>A i t*B t j)%m
theorem B5(n K l:Nat)(A B:aU)(m:Int)(hn:n<=16)(hK:1<=K)(hK2:K<=16)(hl:l<=16)(hm:1<=m)(hm2:m<=2147483647)(hA:∀i j,i<n->j<K->0<=A i j/\A i j<m)(hB:∀i j,i<K->j<l->0<=B i j/\B i j<m):Fh 231 [aK n K A,aK K l B,.int .i64 m] n l (i7 A B K m):=by
 refine Fh.of ?_;refine aA Tryz.func231 rfl 72 Tryz.ntmps231 (by kernel_rfl) (by simp) (by simp[Tryz.results231]) ?_
 rw[aS,Tryz.results231];have hm0:¬(m=0):=by omega
 have hp0:0<K:=by omega
 have hpz:(0:Int)<(K:Int):=by omega
 simp -dsimp only[go_sem,aj,reduceCtorEq,bJ,aK]
 repeat refine an ?_
 refine aG.intro fun bc fc=>?_
 repeat refine an ?_
 simp -dsimp only[go_sem]
 repeat refine an ?_
 refine aI (fun O S'=>∃i:Nat,i<=n/\O 1=aK K l B/\O 2=.int .i64 m/\O 7=.sl 1 bc 0 n/\O 17=aK n K A/\O 18=.int .i64 n/\O 19=.int .i64 i/\∃g',eh 29 2 1 St.none S' bc g' n l i (fun a j=>.int .i64 (i7 A B K m a j))) (fun O S=>n-bY (O 19)) ?_ ?_
 ·simp -dsimp only[go_sem,aa,reduceCtorEq,bJ,aK];exact⟨0,by omega,rfl,fun _=>0,eh.init fc (fun _ _=>rfl) _ _⟩
 ·rintro O S' ⟨i,hi,e1,e2,e7,e17,e18,e19,g',hR⟩;by_cases hit:i<n
  ·obtain⟨g4,u4,v4⟩:=id hR.outer;simp -dsimp only[go_sem,aa,↓reduceIte,af,decide_true,ay,ab,aK,bJ,e1,e7,e17,e18,e19,hit,hpz]
   repeat refine an ?_
   refine aG.intro fun bd fd=>?_
   repeat refine an ?_
   have hdc:bc≠bd:=bB.fresh hR.outer fd;simp -dsimp only[go_sem,hit,u4,hdc]
   repeat refine an ?_
   have hR1:=hR.push (by decide) fd u4 (fun _=>.int .i64 0)
   generalize hgg:(fun a=>if a=i then bd else g' a)=gg at hR1
   refine aI (fun O S'=>∃k:Nat,k<=K/\O 1=aK K l B/\O 2=.int .i64 m/\O 7=.sl 1 bc 0 n/\O 8=.int .i64 i/\O 17=aK n K A/\O 18=.int .i64 n/\O 19=.int .i64 i/\O 32=bJ K (A i)/\O 33=.int .i64 K/\O 34=.int .i64 k/\eh 29 2 1 St.none S' bc gg n l (i+1) (fun a c=>.int .i64 (if a=i then i7 A B k m i c else i7 A B K m a c))) (fun O S=>K-bY (O 34)) ?_ ?_
   ·simp -dsimp only[go_sem,aa,aK,bJ,e1,e2,e7,e17,e18,e19];refine⟨0,by omega,rfl,hR1.congr fun a c _ _=>?_⟩
    by_cases e:a=i
    ·simp[e,i7,aD]
    ·simp[e]
   ·clear e1 e2 e7 e17 e18 e19 hR hR1 u4 v4 hgg;rintro O S' ⟨k,hk,e1,e2,e7,e8,e17,e18,e19,e32,e33,e34,hR⟩;by_cases hkt:k<K
    ·simp -dsimp only[go_sem,aa,↓reduceIte,af,decide_true,aK,bJ,e1,e2,e7,e17,e18,e19,e32,e33,e34,hkt]
     repeat refine an ?_
     refine aI (fun O S'=>∃j:Nat,j<=l/\O 1=aK K l B/\O 2=.int .i64 m/\O 7=.sl 1 bc 0 n/\O 8=.int .i64 i/\O 11=.int .i64 (A i k)/\O 17=aK n K A/\O 18=.int .i64 n/\O 19=.int .i64 i/\O 32=bJ K (A i)/\O 33=.int .i64 K/\O 34=.int .i64 k/\O 42=bJ l (B k)/\O 43=.int .i64 l/\O 44=.int .i64 j/\eh 29 2 1 St.none S' bc gg n l (i+1) (fun a c=>.int .i64 (if a=i then(if c<j then i7 A B (k+1) m i c else i7 A B k m i c)else i7 A B K m a c))) (fun O S=>l-bY (O 44)) ?_ ?_
     ·simp -dsimp only[go_sem,aa,aK,bJ,e1,e2,e7,e8,e17,e18,e19,e32,e33,e34];exact⟨0,by omega,rfl,hR.congr fun a c _ _=>by simp⟩
     ·clear e1 e2 e7 e8 e17 e18 e19 e32 e33 e34 hR;rintro O S' ⟨j,hj,e1,e2,e7,e8,e11,e17,e18,e19,e32,e33,e34,e42,e43,e44,hR⟩;by_cases hjt:j<l
      ·obtain⟨g4,u4,v4⟩:=id hR.outer;obtain⟨g5,u5,v5⟩:=id (hR.row i om);have x4:g4 i=.sl 1 (gg i) 0 l:=(v4 i hit).trans (if_pos om);have x5:g5 j=.int .i64 (i7 A B k m i j):=(v5 j hjt).trans (by simp)
       have b1:=hA i k hit hkt;have b2:=hB k j hkt hjt;have b3:0<=i7 A B k m i j/\i7 A B k m i j<m:=⟨aT _ om,aM _ om⟩;have b4:=l0 (A:=2147483646) (B:=2147483646) (show 0<=A i k/\A i k<=2147483646 by omega) (show 0<=B k j/\B k j<=2147483646 by omega)
       have q1:IntKind.i64.wrap (A i k*B k j)=A i k*B k j:=i64_in om om;have q2:IntKind.i64.wrap (i7 A B k m i j+A i k*B k j)=i7 A B k m i j+A i k*B k j:=i64_in om om;have q3:dW (i7 A B k m i j+A i k*B k j) m=i7 A B (k+1) m i j:=by
        rw[aL om];simp only[i7,aD];rw[Int.emod_add_emod]
       simp -dsimp only[go_sem,aa,↓reduceIte,af,decide_true,aK,bJ,e1,e2,e7,e8,e17,e18,e19,e32,e33,e34,e42,e43,e44,hjt]
       repeat refine an ?_
       refine bG 19 (by kernel_rfl) ?_
       simp -dsimp only[go_sem,aa,↓reduceIte,reduceCtorEq,af,ab,aK,bJ,e1,e2,e7,e8,e11,e17,e18,e19,e32,e33,e34,e42,e43,e44,hit,hjt,u4,x4,u5,x5,hm0,q1,q2,q3,aW (show j<1000000 by omega),bY]
       repeat refine an ?_
       refine⟨⟨j+1,by omega,rfl,(hR.put (by decide) (show i<i+1 by omega) u5 j (.int .i64 (i7 A B (k+1) m i j))).congr fun a c _ _=>?_⟩,by omega⟩
       by_cases e:a=i/\c=j
       ·obtain⟨rfl,rfl⟩:=e;simp
       ·rw[if_neg e];congr 1;by_cases e2:a=i
        ·rw[if_pos e2,if_pos e2];by_cases e3:c<j
         ·rw[if_pos e3,if_pos om]
         ·rw[if_neg e3,if_neg om]
        ·rw[if_neg e2,if_neg e2]
      ·simp -dsimp only[go_sem,aa,↓reduceIte,af,decide_false,aK,bJ,e1,e2,e7,e8,e17,e18,e19,e32,e33,e34,e42,e43,e44,hjt,aW (show k<1000000 by omega),bY]
       repeat refine an ?_
       exact⟨⟨k+1,by omega,rfl,hR.congr fun a c _ hc=>by rw[if_pos (show c<j by omega)]⟩,by omega⟩
    ·obtain rfl:k=K:=by omega
     simp -dsimp only[go_sem,aa,↓reduceIte,af,decide_false,aK,bJ,e1,e2,e7,e17,e18,e19,e32,e33,e34,hkt,aW (show i<1000000 by omega),bY]
     repeat refine an ?_
     exact⟨⟨i+1,by omega,rfl,gg,hR.congr fun a c _ hc=>by by_cases e:a=i<;>simp[e]⟩,by omega⟩
  ·obtain rfl:i=n:=by omega
   have hN:=hR.imat (A:=i7 A B K m) (fun _ _ _ _=>rfl);simp -dsimp only[go_sem,aa,↓reduceIte,af,decide_false,ay,ab,aK,bJ,e1,e7,e17,e18,e19,hit]
   repeat refine an ?_
   exact⟨bc,rfl,g',hN.1⟩
theorem VA.ptr{S:St}{b ty es:Nat}{x x':AV}(hh:dc S b ty es x)(hv:VA S x x'):VA S (.ptr es b 0) (.pat es x'):=by
 intro w v hs hr;obtain⟨g',hX,hg⟩:=hh;obtain⟨cs,h1,h2,h3,h4⟩:=hs b _ hX;simp only[a8]at hr ⊢;subst hr;obtain⟨u,u1,u2⟩:=h3 0 (by simp only;omega)
 refine⟨b,es*0,u,rfl,dE h1,fun hb=>hb,⟨cs,ty,(0,0),h1,u1⟩,hv w u hs ?_⟩;rw[<-hg];exact u2
theorem VA.fn{S:St}{f:Nat}{l l':List AV}(h:dY S l l'):VA S (.fn f l) (.fn f l'):=by
 intro w v hs hr;simp only[a8]at hr ⊢;obtain⟨vs,rfl,h1⟩:=hr;exact⟨vs,rfl,tv hs _ _ _ h h1⟩
theorem jX(n m:Nat)(A:aU)(h1:1<=n)(h2:n<=16)(h3:1<=m)(h4:m<=16):PF 97 [aV n m A] (.tup [.int .i64 n,.int .i64 m,.bool true]):=by
 refine PF.of_spec (aA Tryz.func97 rfl 40 Tryz.ntmps97 (by kernel_rfl) (by simp) (by simp[Tryz.results97]) ?_)
 rw[aS,Tryz.results97];have hp0:0<n:=by omega
 have hpz:(0:Int)<(n:Int):=by omega
 simp -dsimp only[go_sem,aa,reduceCtorEq,decide_false,ay,bn,aV,hpz,show ¬((n:Int)<1) by omega,show ¬((16:Int)<(n:Int)) by omega,show ¬((m:Int)<1) by omega,show ¬((16:Int)<(m:Int)) by omega]
 repeat refine an ?_
 refine aI (fun O S=>∃i:Nat,i<=n/\O 0=aV n m A/\O 5=.int .i64 m/\O 26=aV n m A/\O 27=.int .i64 n/\O 28=.int .i64 i) (fun O S=>n-bY (O 28)) ?_ ?_
 ·simp -dsimp only[go_sem,aa,reduceCtorEq,bn,aV];exact⟨0,by omega,rfl⟩
 ·rintro O S ⟨i,hi,e0,e5,e26,e27,e28⟩;by_cases hlt:i<n
  ·simp -dsimp only[go_sem,aa,↓reduceIte,reduceCtorEq,af,decide_true,bn,aV,e0,e5,e26,e27,e28,hlt,show((m:Int) != m)=false by simp,aW (show i<1000000 by omega),bY]
   repeat refine an ?_
   exact⟨⟨i+1,by omega,rfl⟩,by omega⟩
  ·simp -dsimp only[go_sem,aa,↓reduceIte,reduceCtorEq,af,decide_false,bn,aV,e0,e5,e26,e27,e28,hlt]
   repeat refine an ?_
   exact VR.tup (by simp[nY])
theorem As(n m:Nat)(A:aU)(h1:1<=n)(h2:n<=16)(h3:1<=m)(h4:m<=16):PF 154 [aK n m A] (.tup [.int .i64 n,.int .i64 m,.bool true]):=by
 refine PF.of_spec (aA Tryz.func154 rfl 40 Tryz.ntmps154 (by kernel_rfl) (by simp) (by simp[Tryz.results154]) ?_)
 rw[aS,Tryz.results154];have hp0:0<n:=by omega
 have hpz:(0:Int)<(n:Int):=by omega
 simp -dsimp only[go_sem,aa,reduceCtorEq,decide_false,ay,bJ,aK,hpz,show ¬((n:Int)<1) by omega,show ¬((16:Int)<(n:Int)) by omega,show ¬((m:Int)<1) by omega,show ¬((16:Int)<(m:Int)) by omega]
 repeat refine an ?_
 refine aI (fun O S=>∃i:Nat,i<=n/\O 0=aK n m A/\O 5=.int .i64 m/\O 26=aK n m A/\O 27=.int .i64 n/\O 28=.int .i64 i) (fun O S=>n-bY (O 28)) ?_ ?_
 ·simp -dsimp only[go_sem,aa,reduceCtorEq,bJ,aK];exact⟨0,by omega,rfl⟩
 ·rintro O S ⟨i,hi,e0,e5,e26,e27,e28⟩;by_cases hlt:i<n
  ·simp -dsimp only[go_sem,aa,↓reduceIte,reduceCtorEq,af,decide_true,bJ,aK,e0,e5,e26,e27,e28,hlt,show((m:Int) != m)=false by simp,aW (show i<1000000 by omega),bY]
   repeat refine an ?_
   exact⟨⟨i+1,by omega,rfl⟩,by omega⟩
  ·simp -dsimp only[go_sem,aa,↓reduceIte,reduceCtorEq,af,decide_false,bJ,aK,e0,e5,e26,e27,e28,hlt]
   repeat refine an ?_
   exact VR.tup (by simp[nY])
theorem qN(n m F:Nat)(l:List AV)(A:aU)(hF:11<=F/\F<252)(hn:n<=16)(hm:m<=16)(hA:∀i j:Nat,i<n->j<m->PF F ([.int .i64 i,.int .i64 j]++l) (.big (A i j))):MF 131 [.int .i64 n,.int .i64 m,.fn F l] n m A:=by
 refine MF.of ?_;refine aA Tryz.func131 rfl 43 Tryz.ntmps131 (by kernel_rfl) (by simp) (by simp[Tryz.results131]) ?_
 rw[aS,Tryz.results131];simp -dsimp only[go_sem,aj,aa,reduceCtorEq]
 repeat refine an ?_
 refine aG.intro fun bc fc=>?_
 repeat refine an ?_
 simp -dsimp only[go_sem]
 repeat refine an ?_
 refine aI (fun O S'=>∃i:Nat,i<=n/\O 1=.int .i64 m/\O 2=.fn F l/\O 7=.sl 1 bc 0 n/\O 13=.int .i64 n/\O 14=.int .i64 i/\∃g',eh 59 50 2 St.none S' bc g' n m i (fun a j=>.big (A a j))) (fun O S=>n-bY (O 14)) ?_ ?_
 ·simp -dsimp only[go_sem,aa,reduceCtorEq];exact⟨0,by omega,rfl,fun _=>0,eh.init fc (fun _ _=>rfl) _ _⟩
 ·rintro O S' ⟨i,hi,e1,e2,e7,e13,e14,g',hR⟩;by_cases hit:i<n
  ·obtain⟨g4,u4,v4⟩:=id hR.outer;simp -dsimp only[go_sem,aa,↓reduceIte,af,decide_true,ab,e1,e7,e13,e14,hit]
   repeat refine an ?_
   refine aG.intro fun bd fd=>?_
   repeat refine an ?_
   have hdc:bc≠bd:=bB.fresh hR.outer fd;have hset:bK g4 i (.sl 2 bd 0 m) i=.sl 2 bd 0 m:=by simp[bK]
   simp -dsimp only[go_sem,hit,u4,hdc,hset]
   repeat refine an ?_
   have hR1:=hR.push (by decide) fd u4 (fun _=>.big 0)
   generalize hgg:(fun a=>if a=i then bd else g' a)=gg at hR1
   refine aI (fun O S'=>∃j:Nat,j<=m/\O 1=.int .i64 m/\O 2=.fn F l/\O 7=.sl 1 bc 0 n/\O 8=.int .i64 i/\O 13=.int .i64 n/\O 14=.int .i64 i/\O 26=.int .i64 m/\O 27=.int .i64 j/\eh 59 50 2 St.none S' bc gg n m (i+1) (fun a c=>.big (if a=i/\j<=c then 0 else A a c))) (fun O S=>m-bY (O 27)) ?_ ?_
   ·simp -dsimp only[go_sem,aa,e1,e2,e7,e13,e14];refine⟨0,by omega,rfl,hR1.congr fun a c _ _=>?_⟩
    by_cases e:a=i
    ·simp[e]
    ·simp[e]
   ·clear e1 e2 e7 e13 e14 hR hR1 u4 v4 hgg;rintro O S' ⟨j,hj,e1,e2,e7,e8,e13,e14,e26,e27,hR⟩;by_cases hjt:j<m
    ·obtain⟨g4,u4,v4⟩:=id hR.outer;obtain⟨g5,u5,v5⟩:=id (hR.row i om);have x4:g4 i=.sl 2 (gg i) 0 m:=(v4 i hit).trans (if_pos om);simp -dsimp only[go_sem,aa,↓reduceIte,af,decide_true,e1,e2,e7,e13,e14,e26,e27,hjt]
     repeat refine an ?_
     refine bG 10 (by kernel_rfl) ?_
     simp -dsimp only[go_sem,aa,↓reduceIte,reduceCtorEq,af,ab,e1,e2,e7,e8,e13,e14,e26,e27,hit,hjt,u4,x4,u5,aW (show j<1000000 by omega),bY]
     repeat refine an ?_
     refine⟨_,(hA i j hit hjt).pure',trivial,⟨j+1,by omega,rfl,(hR.put (by decide) (show i<i+1 by omega) u5 j (.big (A i j))).congr fun a c _ _=>?_⟩,by omega⟩
     by_cases e:a=i/\c=j
     ·obtain⟨rfl,rfl⟩:=e;rw[if_pos ⟨rfl,rfl⟩,if_neg om]
     ·rw[if_neg e];congr 1;by_cases e2:a=i/\j<=c
      ·rw[if_pos e2,if_pos om]
      ·rw[if_neg e2,if_neg om]
    ·simp -dsimp only[go_sem,aa,↓reduceIte,af,decide_false,e1,e2,e7,e13,e14,e26,e27,hjt,aW (show i<1000000 by omega),bY]
     repeat refine an ?_
     exact⟨⟨i+1,by omega,rfl,gg,hR.congr fun a c _ hc=>by rw[if_neg om]⟩,by omega⟩
  ·obtain rfl:i=n:=by omega
   have hN:=hR.mat (A:=A) (fun _ _ _ _=>rfl);simp -dsimp only[go_sem,aa,↓reduceIte,af,decide_false,ab,e1,e7,e13,e14,hit]
   repeat refine an ?_
   exact⟨bc,rfl,g',hN.1⟩
theorem zH(n m:Nat)(A:aU)(i j:Nat)(hi:i<n)(hj:j<m)(hA:-9223372036854775808<=A i j/\A i j<=9223372036854775807):PF 155 [.int .i64 i,.int .i64 j,.pat 1 (aK n m A)] (.big (A i j)):=by
 refine PF.of_spec (aA Tryz.func155 rfl 14 Tryz.ntmps155 (by kernel_rfl) (by simp) (by simp[Tryz.results155]) ?_)
 rw[aS,Tryz.results155];simp -dsimp only[go_sem,aj]
 repeat refine an ?_
 refine aG.intro fun bc fc=>?_
 try simp -dsimp only[go_sem,aa,aq,ae,reduceCtorEq,af,aK,bJ,hi,hj]
 refine(ju hA.1 hA.2).call ?_;simp -dsimp only[go_sem,aa,ae,↓reduceIte,reduceCtorEq,ab]
 repeat refine an ?_
 exact VR.mf rfl
theorem IA(n m k:Nat)(A:aU)(i j:Nat)(hi:i<n)(hj:j<m)(hA:nb (A i j) k)(hk:k<=1000000000):PF 212 [.int .i64 i,.int .i64 j,.pat 1 (aV n m A)] (.big (-A i j)):=by
 refine PF.of_spec (aA Tryz.func212 rfl 14 Tryz.ntmps212 (by kernel_rfl) (by simp) (by simp[Tryz.results212]) ?_)
 rw[aS,Tryz.results212];simp -dsimp only[go_sem,aj]
 repeat refine an ?_
 refine aG.intro fun bc fc=>?_
 try simp -dsimp only[go_sem,aa,aq,ae,reduceCtorEq,af,aV,bn,hi,hj]
 refine(pS hA om).call ?_;simp -dsimp only[go_sem,aa,ae,↓reduceIte,reduceCtorEq,ab]
 repeat refine an ?_
 exact VR.mf rfl
theorem BZ(k:Nat)(z:Int)(i j:Nat)(hz:nb z k)(hk:k<=1000000000):PF 238 [.int .i64 i,.int .i64 j,.pat 2 (.big z)] (.big (if i=j then z else 0)):=by
 refine PF.of_spec (aA Tryz.func238 rfl 12 Tryz.ntmps238 (by kernel_rfl) (by simp) (by simp[Tryz.results238]) ?_)
 rw[aS,Tryz.results238];simp -dsimp only[go_sem,aj]
 repeat refine an ?_
 refine aG.intro fun bc fc=>?_;by_cases e:i=j
 ·subst e
  try simp -dsimp only[go_sem,aa,aq,ae,↓reduceIte,reduceCtorEq,show((i:Int)==i)=true by simp]
  refine(qr hz om).call ?_;simp -dsimp only[go_sem,aa,ae,↓reduceIte,ab]
  repeat refine an ?_
  exact VR.mf rfl
 ·try simp -dsimp only[go_sem,aa,aq,ae,↓reduceIte,reduceCtorEq,e,show((i:Int)==j)=false by simp;omega]
  exact VR.mf rfl
theorem dY.fn1{S:St}{f:Nat}{a b:AV}{l l':List AV}(h:dY S l l'):dY S [a,b,.fn f l] [a,b,.fn f l']:=⟨VA.refl _ _,VA.refl _ _,VA.fn h,trivial⟩
theorem dY.one{S:St}{x x':AV}(h:VA S x x'):dY S [x] [x']:=⟨h,trivial⟩
theorem dY.three{S:St}{x x' y y' z z':AV}(h:VA S x x')(h2:VA S y y')(h3:VA S z z'):dY S [x,y,z] [x',y',z']:=⟨h,h2,h3,trivial⟩
theorem d7{g:Nat->AV}{i:Nat}{x:AV}:bK g i x i=x:=by simp[bK]
theorem wL(n m:Nat)(A:aU)(h1:1<=n)(h2:n<=16)(h3:1<=m)(h4:m<=16)(hA:∀i j,i<n->j<m->-9223372036854775808<=A i j/\A i j<=9223372036854775807):zz 93 [aK n m A] n m A:=by
 refine zz.of ?_;refine aA Tryz.func93 rfl 19 Tryz.ntmps93 (by kernel_rfl) (by simp) (by simp[Tryz.results93]) ?_
 rw[aS,Tryz.results93];simp -dsimp only[go_sem,aa,ae,↓reduceIte,ab,aK,bJ]
 repeat refine an ?_
 refine aG.intro fun bc fc=>?_
 try simp -dsimp only[go_sem,ae]
 refine(As n m A h1 h2 h3 h4).call ?_;simp -dsimp only[go_sem,aa,ae,↓reduceIte,ab]
 repeat refine an ?_
 refine(qN n m 155 [.pat 1 (aK n m A)] A om h2 h4 (fun i j hi hj=>zH n m A i j hi hj (hA i j hi hj)) _ _ (dY.fn1 (dY.one (VA.ptr (dc.new rfl) (VA.refl _ _))))).mono ?_;rintro _ S1 ⟨b,g,rfl,hN⟩;simp -dsimp only[go_sem,aa]
 repeat refine an ?_
 exact⟨b,rfl,g,hN.1⟩
theorem Eg(n k:Nat)(z:Int)(hn:n<=16)(hz:nb z k)(hk:k<=1000000000):MF 190 [.int .i64 n,.big z] n n (fun i j=>if i=j then z else 0):=by
 refine MF.of ?_;refine aA Tryz.func190 rfl 9 Tryz.ntmps190 (by kernel_rfl) (by simp) (by simp[Tryz.results190]) ?_
 rw[aS,Tryz.results190];simp -dsimp only[go_sem,aj,aa,ae,reduceCtorEq,ab]
 repeat refine an ?_
 refine aG.intro fun bc fc=>?_
 try simp -dsimp only[go_sem,aj,aa,aq,ae,↓reduceIte,reduceCtorEq,af,decide_true,decide_false,ay]
 refine(qN n n 238 [.pat 2 (.big z)] (fun i j=>if i=j then z else 0) om hn hn (fun i j hi hj=>BZ k z i j hz hk) _ _ (dY.fn1 (dY.one (VA.ptr (dc.new rfl) (VA.refl _ _))))).mono ?_
 rintro _ S1 ⟨b,g,rfl,hN⟩;simp -dsimp only[go_sem,aa,reduceCtorEq]
 repeat refine an ?_
 exact⟨b,rfl,g,hN.1⟩
theorem qu{f:Nat->Int}{k:Nat}:∀(t:Nat),(∀i,i<t->nb (f i) k)->nb (aD t f) (k+t)
 | 0,_=>nb.zero _
 | t+1,h=>by
  have h1:=qu t (fun i hi=>h i om);have h2:=(h t om).mono (show k<=k+t by omega)
  exact h1.add h2
theorem JF(n K l k:Nat)(A B:aU)(i j:Nat)(hi:i<n)(hj:j<l)(hK:K<=16)(hA:∀i j,i<n->j<K->nb (A i j) k)(hB:∀i j,i<K->j<l->nb (B i j) k)(hk:k<=1000000):PF 132 [.int .i64 i,.int .i64 j,.pat 1 (.int .i64 K),.pat 1 (aV n K A),.pat 1 (aV K l B)] (.big (mm K A B i j)):=by
 refine PF.of_spec (aA Tryz.func132 rfl 34 Tryz.ntmps132 (by kernel_rfl) (by simp) (by simp[Tryz.results132]) ?_)
 rw[aS,Tryz.results132];simp -dsimp only[go_sem,aj]
 repeat refine an ?_
 refine aG.intro fun bc fc=>?_
 try simp -dsimp only[go_sem]
 refine aG.intro fun bd fd=>?_;have nd_c:=(ai fd).1
 try simp -dsimp only[go_sem,aa,↓reduceIte,reduceCtorEq]
 refine aI (fun O S'=>∃t:Nat,t<=K/\O 0=.int .i64 i/\O 1=.int .i64 j/\O 3=.pat 1 (aV n K A)/\O 4=.pat 1 (aV K l B)/\O 7=.ptr 2 bc 0/\O 8=.ptr 2 bd 0/\O 11=.int .i64 K/\O 12=.int .i64 t/\dc S' bc 50 2 (.big 0)/\dc S' bd 50 2 (.big (aD t fun a=>A i a*B a j))) (fun O S=>K-bY (O 12)) ?_ ?_
 ·simp -dsimp only[go_sem,aa,reduceCtorEq];exact⟨0,by omega,rfl,((dc.new rfl).upd (ak nd_c) _).upd (ak nd_c) _,dc.set⟩
 ·rintro O S' ⟨t,ht,e0,e1,e3,e4,e7,e8,e11,e12,hV1,hV2⟩;obtain⟨g1,u1,v1⟩:=id hV1;obtain⟨g2,u2,v2⟩:=id hV2;by_cases hlt:t<K
  ·simp -dsimp only[go_sem,aa,↓reduceIte,af,decide_true,ab,e7,e8,e11,e12,hlt]
   repeat refine an ?_
   refine bG 17 (by kernel_rfl) ?_
   simp -dsimp only[go_sem,aa,ae,↓reduceIte,reduceCtorEq,af,ab,e0,e1,e3,e4,e7,e8,e11,e12,hlt,aV,bn,hi,hj,u2,v2,aW (show t<1000000 by omega),bY]
   repeat refine an ?_
   have hs:=qu (f:=fun a=>A i a*B a j) (k:=k+k) t (fun a ha=>(hA i a hi om).mul (hB a j om hj));have hp:=((hA i t hi hlt).mul (hB t j hlt hj)).mono (show k+k<=k+k+t by omega)
   exact⟨_,(np (hA i t hi hlt) (hB t j hlt hj) om).pure',_,(rW hs hp om).pure',trivial,⟨t+1,by omega,rfl,hV1.upd (ak nd_c) _,dc.set⟩,by omega⟩
  ·obtain rfl:t=K:=by omega
   simp -dsimp only[go_sem,aa,ae,↓reduceIte,af,decide_false,ab,e7,e8,e11,e12,hlt,u1,u2,v2]
   repeat refine an ?_
   simp only[bK,if_true];exact VR.mf rfl
theorem Cb(n m k:Nat)(A:aU)(h1:1<=n)(hn:n<=16)(hm:m<=16)(hA:∀i j,i<n->j<m->nb (A i j) k)(hk:k<=1000000):MF 163 [aV n m A] n m (fun i j=>- A i j):=by
 refine MF.of ?_;refine aA Tryz.func163 rfl 11 Tryz.ntmps163 (by kernel_rfl) (by simp) (by simp[Tryz.results163]) ?_
 rw[aS,Tryz.results163];have hp0:0<n:=by omega
 have hpz:(0:Int)<(n:Int):=by omega
 simp -dsimp only[go_sem,aV,bn]
 repeat refine an ?_
 refine aG.intro fun bc fc=>?_
 try simp -dsimp only[go_sem,aj,aa,aq,ae,↓reduceIte,reduceCtorEq,af,decide_true,decide_false,ay,aV,bn,hp0,hpz]
 refine bG 7 (by kernel_rfl) ?_
 simp -dsimp only[go_sem,aa,ae,↓reduceIte,ay,ab,hpz]
 repeat refine an ?_
 refine(qN n m 212 [.pat 1 (aV n m A)] (fun i j=>- A i j) om hn hm (fun i j hi hj=>IA n m k A i j hi hj (hA i j hi hj) om) _ _ (dY.fn1 (dY.one (VA.ptr (dc.new rfl) (VA.refl _ _))))).mono ?_;rintro _ S1 ⟨b,g,rfl,hN⟩;simp -dsimp only[go_sem]
 repeat refine an ?_
 exact⟨b,rfl,g,hN.1⟩
theorem Bt(n K l k:Nat)(A B:aU)(h1:1<=n)(h2:n<=16)(h3:1<=K)(h4:K<=16)(h5:1<=l)(h6:l<=16)(hA:∀i j,i<n->j<K->nb (A i j) k)(hB:∀i j,i<K->j<l->nb (B i j) k)(hk:k<=1000000):zz 80 [aV n K A,aV K l B] n l (mm K A B):=by
 refine zz.of ?_;refine aA Tryz.func80 rfl 39 Tryz.ntmps80 (by kernel_rfl) (by simp) (by simp[Tryz.results80]) ?_
 rw[aS,Tryz.results80];simp -dsimp only[go_sem,aj,aa,ae,↓reduceIte,reduceCtorEq,ab,aV,bn]
 repeat refine an ?_
 refine aG.intro fun bc fc=>?_
 try simp -dsimp only[go_sem,aj,aa,aq,ae,↓reduceIte,reduceCtorEq,af,decide_true,decide_false,ay,aV,bn]
 refine aG.intro fun bd fd=>?_;have nd_c:=(ai fd).1
 try simp -dsimp only[go_sem,ae,ak nd_c]
 refine(jX n K A h1 h2 h3 h4).call ?_;simp -dsimp only[go_sem,aa,ae,↓reduceIte,ab]
 repeat refine an ?_
 refine aG.intro fun be fe=>?_;have ne_d:=(ai fe).1;have ne_c:=(ai (ai fe).2).1
 try simp -dsimp only[go_sem,ae,reduceCtorEq,ak ne_d]
 refine(jX K l B h3 h4 h5 h6).call ?_;simp -dsimp only[go_sem,aa,ae,↓reduceIte,ab,show((K:Int) != K)=false by simp,d7]
 repeat refine an ?_
 have hc:bc≠bd:=ak nd_c;have hce:bc≠be:=ak ne_c;have hde:bd≠be:=ak ne_d;refine(qN n l 132 [.pat 1 (.int .i64 K),.pat 1 (aV n K A),.pat 1 (aV K l B)] (mm K A B) om h2 h6 (fun i j hi hj=>JF n K l k A B i j hi hj h4 hA hB hk) _ _ (dY.fn1 (dY.three (VA.ptr dc.set (VA.refl _ _)) (VA.ptr ((((dc.new rfl).upd hc _).upd hce _).upd hce _) (VA.refl _ _)) (VA.ptr (((dc.new rfl).upd hde _).upd hde _) (VA.refl _ _))))).mono ?_;rintro _ S1 ⟨b,g,rfl,hN⟩;simp -dsimp only[go_sem,aa]
 repeat refine an ?_
 exact⟨b,rfl,g,hN.1⟩
def LF(f:Nat)(args:List AV)(n:Nat)(v:Nat->Int):Prop:=∀S args',dY S args' args->cM f args' S (fun r S'=>∃b,r=.sl 2 b 0 n/\gV S' b n v/\eZ S S'/\S b=ac)
def un(S:St)(b:Nat):St:=fun k=>if k=b then S k else ac
theorem F7(S:St)(b:Nat):∀c X,un S b c=some X->S c=some X:=by
 intro c X h;unfold un at h;split at h
 ·exact h
 ·cases h
theorem gV.only{S:St}{b n:Nat}{v:Nat->Int}(h:gV S b n v):gV (un S b) b n v/\Fk (un S b):=by
 obtain⟨g',h1,h2⟩:=h;refine⟨⟨g',by simp[un,h1],h2⟩,fun c X hX j hj=>?_⟩
 unfold un at hX;split at hX
 ·rename_i e;subst e;rw[hX]at h1;cases h1;show ve (g' j)=true;rw[h2 j hj];rfl
 ·cases hX
theorem LF.of{f:Nat}{args:List AV}{n:Nat}{v:Nat->Int}(h:cM f args St.none (fun r S'=>∃b,r=.sl 2 b 0 n/\gV S' b n v)):LF f args n v:=fun S args' hv=>by
 have h1:cM f args St.none (fun r S'=>∃b,r=.sl 2 b 0 n/\gV S' b n v/\Fk S'):=h.less fun r S' ⟨b,e,hm⟩=>⟨un S' b,F7 S' b,b,e,hm.only.1,hm.only.2⟩;refine(h1.frame hv ?_).mono ?_
 ·rintro r S1 ⟨b,rfl,_,hc⟩;exact⟨rfl,hc⟩
 ·rintro r S' ⟨S1,⟨b,rfl,hm,_⟩,hd,rfl⟩;exact⟨b,rfl,(bB.join hd hm).1,qz S S1,(bB.join hd hm).2⟩
theorem lI(n m k i j:Nat)(A:aU)(a b:Int)(hi:i<n)(hj:j<n)(hm:m<=100)(hA:∀c r,c<n->r<m->nb (A c r) k)(ha:nb a k)(hb:nb b k)(hk:k<=1000000) :
  LF 269 [aV n m A,.int .i64 i,.big a,.int .i64 j,.big b] m (fun r=>a*A i r+b*A j r):=by
 refine LF.of ?_;refine aA Tryz.func269 rfl 48 Tryz.ntmps269 (by kernel_rfl) (by simp) (by simp[Tryz.results269]) ?_
 rw[aS,Tryz.results269];simp -dsimp only[go_sem,aj,aa,reduceCtorEq,af,aV,bn]
 repeat refine an ?_
 refine aG.intro fun bc fc=>?_
 try simp -dsimp only[go_sem,aj,aa,aq,ae,↓reduceIte,reduceCtorEq,af,decide_true,decide_false,ay,aV,bn]
 refine aG.intro fun bd fd=>?_;have nd_c:=(ai fd).1;simp -dsimp only[go_sem,hi]
 repeat refine an ?_
 refine aG.intro fun be fe=>?_;have ne_d:=(ai fe).1;have ne_c:=(ai (ai fe).2).1
 repeat refine an ?_
 simp -dsimp only[go_sem]
 repeat refine an ?_
 refine aI (fun O S'=>∃t:Nat,t<=m/\O 0=aV n m A/\O 1=.int .i64 i/\O 3=.int .i64 j/\O 7=.ptr 2 bc 0/\O 9=.ptr 2 bd 0/\O 11=.sl 2 be 0 m/\O 20=.int .i64 m/\O 21=.int .i64 t/\dc S' bc 50 2 (.big a)/\dc S' bd 50 2 (.big b)/\gV S' be m (fun r=>if r<t then a*A i r+b*A j r else 0)) (fun O S=>m-bY (O 21)) ?_ ?_
 ·simp -dsimp only[go_sem,aa,reduceCtorEq,aV,bn];exact⟨0,by omega,rfl,((dc.new rfl).upd (ak nd_c) _).upd (ak ne_c) _,(dc.new rfl).upd (ak ne_d) _,bB.here fun r hr=>by simp⟩
 ·rintro O S' ⟨t,ht,e0,e1,e3,e7,e9,e11,e20,e21,hV1,hV2,hI⟩;obtain⟨g1,u1,v1⟩:=id hV1;obtain⟨g2,u2,v2⟩:=id hV2;obtain⟨g3,u3,v3⟩:=id hI;by_cases hlt:t<m
  ·simp -dsimp only[go_sem,aa,↓reduceIte,af,decide_true,e11,e20,e21,hlt]
   repeat refine an ?_
   refine bG 22 (by kernel_rfl) ?_
   simp -dsimp only[go_sem,aa,ae,↓reduceIte,reduceCtorEq,af,ab,e0,e1,e3,e7,e9,e11,e20,e21,hlt,aV,bn,hi,hj,u1,v1,u2,v2,u3,aW (show t<1000000 by omega),bY]
   repeat refine an ?_
   have p1:=ha.mul (hA i t hi hlt);have p2:=hb.mul (hA j t hj hlt);exact⟨_,(np ha (hA i t hi hlt) om).pure',_,(np hb (hA j t hj hlt) om).pure',_,(rW p1 p2 om).pure',trivial,⟨t+1,by omega,rfl,hV1.upd (ak ne_c) _,hV2.upd (ak ne_d) _,bB.here fun r hr=>by
    simp only[bK];by_cases e:r=t
    ·subst e;simp
    ·rw[if_neg e,v3 r hr];by_cases e2:r<t
     ·simp[e2,show r<t+1 by omega]
     ·simp[e2,show ¬r<t+1 by omega]⟩,by omega⟩
  ·obtain rfl:t=m:=by omega
   simp -dsimp only[go_sem,aa,↓reduceIte,af,decide_false,e11,e20,e21,hlt]
   repeat refine an ?_
   exact⟨be,rfl,hI.congr fun r hr=>by simp[hr]⟩
theorem qL(n m:Nat)(A:aU)(h1:1<=n)(h2:n<=16)(h4:m<=16):MF 258 [aV n m A] m n (fun j i=>A i j):=by
 refine MF.of ?_;refine aA Tryz.func258 rfl 43 Tryz.ntmps258 (by kernel_rfl) (by simp) (by simp[Tryz.results258]) ?_
 rw[aS,Tryz.results258];have hp0:0<n:=by omega
 have hpz:(0:Int)<(n:Int):=by omega
 simp -dsimp only[go_sem,aa,reduceCtorEq,ay,aV,bn,hpz]
 repeat refine an ?_
 refine aG.intro fun bc fc=>?_
 repeat refine an ?_
 simp -dsimp only[go_sem]
 repeat refine an ?_
 refine aI (fun O S'=>∃j:Nat,j<=m/\O 0=aV n m A/\O 3=.sl 1 bc 0 m/\O 13=.int .i64 m/\O 14=.int .i64 j/\∃g',eh 59 50 2 St.none S' bc g' m n j (fun a i=>.big (A i a))) (fun O S=>m-bY (O 14)) ?_ ?_
 ·simp -dsimp only[go_sem,aa,reduceCtorEq,aV,bn];exact⟨0,by omega,rfl,fun _=>0,eh.init fc (fun _ _=>rfl) _ _⟩
 ·rintro O S' ⟨j,hj,e0,e3,e13,e14,g',hR⟩;by_cases hit:j<m
  ·obtain⟨g4,u4,v4⟩:=id hR.outer;simp -dsimp only[go_sem,aa,↓reduceIte,reduceCtorEq,af,decide_true,ab,e0,e3,e13,e14,hit,aV,bn]
   repeat refine an ?_
   refine aG.intro fun bd fd=>?_
   repeat refine an ?_
   have hdc:bc≠bd:=bB.fresh hR.outer fd;simp -dsimp only[go_sem,hit,u4,hdc]
   repeat refine an ?_
   have hR1:=hR.push (by decide) fd u4 (fun _=>.big 0)
   generalize hgg:(fun a=>if a=j then bd else g' a)=gg at hR1
   refine aI (fun O S'=>∃i:Nat,i<=n/\O 0=aV n m A/\O 3=.sl 1 bc 0 m/\O 4=.int .i64 j/\O 13=.int .i64 m/\O 14=.int .i64 j/\O 23=aV n m A/\O 24=.int .i64 n/\O 25=.int .i64 i/\eh 59 50 2 St.none S' bc gg m n (j+1) (fun a c=>.big (if a=j/\i<=c then 0 else A c a))) (fun O S=>n-bY (O 25)) ?_ ?_
   ·simp -dsimp only[go_sem,aa,reduceCtorEq,e0,e3,e13,e14,aV,bn];refine⟨0,by omega,rfl,hR1.congr fun a c _ _=>?_⟩
    by_cases e:a=j
    ·simp[e]
    ·simp[e]
   ·clear e0 e3 e13 e14 hR hR1 u4 v4 hgg;rintro O S' ⟨i,hi,e0,e3,e4,e13,e14,e23,e24,e25,hR⟩;by_cases hjt:i<n
    ·obtain⟨g4,u4,v4⟩:=id hR.outer;obtain⟨g5,u5,v5⟩:=id (hR.row j om);have x4:g4 j=.sl 2 (gg j) 0 n:=(v4 j hit).trans (if_pos om);simp -dsimp only[go_sem,aa,↓reduceIte,reduceCtorEq,af,decide_true,e0,e3,e13,e14,e23,e24,e25,hjt,aV,bn]
     repeat refine an ?_
     refine bG 10 (by kernel_rfl) ?_
     simp -dsimp only[go_sem,aa,↓reduceIte,reduceCtorEq,af,ab,e0,e3,e4,e13,e14,e23,e24,e25,hit,hjt,u4,x4,u5,aV,bn,aW (show i<1000000 by omega),bY]
     repeat refine an ?_
     refine⟨⟨i+1,by omega,rfl,(hR.put (by decide) (show j<j+1 by omega) u5 i (.big (A i j))).congr fun a c _ _=>?_⟩,by omega⟩
     by_cases e:a=j/\c=i
     ·obtain⟨rfl,rfl⟩:=e;rw[if_pos ⟨rfl,rfl⟩,if_neg om]
     ·rw[if_neg e];congr 1;by_cases e2:a=j/\i<=c
      ·rw[if_pos e2,if_pos om]
      ·rw[if_neg e2,if_neg om]
    ·simp -dsimp only[go_sem,aa,↓reduceIte,reduceCtorEq,af,decide_false,ab,e0,e3,e13,e14,e23,e24,e25,hjt,aW (show j<1000000 by omega),bY]
     repeat refine an ?_
     exact⟨⟨j+1,by omega,rfl,rfl,gg,hR.congr fun a c _ hc=>by rw[if_neg om]⟩,by omega⟩
  ·obtain rfl:j=m:=by omega
   have hN:=hR.mat (A:=fun j i=>A i j) (fun _ _ _ _=>rfl);simp -dsimp only[go_sem,aa,↓reduceIte,reduceCtorEq,af,decide_false,ay,ab,e0,e3,e13,e14,hit]
   repeat refine an ?_
   exact⟨bc,rfl,g',hN.1⟩
theorem Dy{z:Int}{k B:Nat}(h:z.natAbs<=B)(hB:B<2^k):nb z k:=fH h hB
theorem uD{z k:Nat}(h:z<2^k):nb (z:Int) k:=by unfold nb;simpa using h
theorem dc.at_hit{S:St}{b ty es:Nat}{g:Nat->AV}{z:AV}:dc (S.upd b ⟨ty,es,1,g⟩) b ty es z=(g 0=z) :=
 propext ⟨fun⟨g',h1,h2⟩=>by rw[bV]at h1;cases h1;exact h2,fun h=>⟨g,bV,h⟩⟩
theorem dc.at_miss{S:St}{b c ty es:Nat}{X:dn}{z:AV}(h:b≠c):dc (S.upd c X) b ty es z=dc S b ty es z:=by
 unfold dc;rw[aQ h]
theorem Cr(x y:Nat):(x:Int)/(y:Int)=((x/y:Nat):Int)/\(x:Int)%(y:Int)=((x%y:Nat):Int):=⟨by simp,by simp⟩
def Lf:St->AV->Nat
 | S,.ptr _ b _=>(match S b with
  | some X=>(match X.g 0 with
   | .big z=>z.toNat
   | _=>0)
  | _=>0)
 | _,_=>0
theorem Bf{S:St}{b:Nat}{z:Int}(h:dc S b 50 2 (.big z)):Lf S (.ptr 2 b 0)=z.toNat:=by
 obtain⟨g,h1,h2⟩:=h;simp only[Lf,h1,h2]
def BzS(S:St)(b2 b3 b4 b5 b6 b7 b8:Nat)(x y a b na nb':Int):Prop :=
 dc S b2 50 2 (.big x)/\dc S b3 50 2 (.big y)/\dc S b4 50 2 (.big 0)/\dc S b5 50 2 (.big a)/\dc S b6 50 2 (.big b)/\dc S b7 50 2 (.big na)/\dc S b8 50 2 (.big nb')
theorem EI(x0 y0:Nat)(hx:x0<2^32)(hy:y0<2^32)(hp:0<x0∨0<y0) :
  PF 268 [.big x0,.big y0] (.tup [.big (bz x0 y0).1,.big (bz x0 y0).2.1,.big (bz x0 y0).2.2]):=by
 refine PF.of_spec (aA Tryz.func268 rfl 43 Tryz.ntmps268 (by kernel_rfl) (by simp) (by simp[Tryz.results268]) ?_)
 rw[aS,Tryz.results268];have one_pf:PF 81 [.int .i64 1] (.big 1):=ju (by decide) (by decide)
 simp -dsimp only[go_sem,aj,aa,reduceCtorEq]
 repeat refine an ?_
 refine aG.intro fun bc fc=>?_
 try simp -dsimp only[go_sem,aj,aa,aq,ae,↓reduceIte,reduceCtorEq,af,decide_true,decide_false,ay]
 refine aG.intro fun bd fd=>?_;have nd_c:=(ai fd).1
 try simp -dsimp only[go_sem,aj,aa,aq,ae,↓reduceIte,reduceCtorEq,af,decide_true,decide_false,ay]
 refine aG.intro fun be fe=>?_;have ne_d:=(ai fe).1;have ne_c:=(ai (ai fe).2).1
 try simp -dsimp only[go_sem]
 refine aG.intro fun bf ff=>?_;have nf_e:=(ai ff).1;have nf_d:=(ai (ai ff).2).1;have nf_c:=(ai (ai (ai ff).2).2).1
 try simp -dsimp only[go_sem]
 refine aG.intro fun bg fg=>?_;have ng_f:=(ai fg).1;have ng_e:=(ai (ai fg).2).1;have ng_d:=(ai (ai (ai fg).2).2).1;have ng_c:=(ai (ai (ai (ai fg).2).2).2).1
 try simp -dsimp only[go_sem,aa,aq,ae]
 refine one_pf.call ?_;simp -dsimp only[go_sem,aa,ae,↓reduceIte,ab,nn ng_f]
 repeat refine an ?_
 refine one_pf.call ?_;simp -dsimp only[go_sem]
 repeat refine an ?_
 refine aG.intro fun bh fh=>?_;have nh_g:=(ai fh).1;have nh_f:=(ai (ai fh).2).1;have nh_g:=(ai (ai (ai fh).2).2).1;have nh_f:=(ai (ai (ai (ai fh).2).2).2).1;have nh_e:=(ai (ai (ai (ai (ai fh).2).2).2).2).1;have nh_d:=(ai (ai (ai (ai (ai (ai fh).2).2).2).2).2).1;have nh_c:=(ai (ai (ai (ai (ai (ai (ai fh).2).2).2).2).2).2).1;simp -dsimp only[go_sem]
 repeat refine an ?_
 refine aG.intro fun bi fi=>?_;have ni_h:=(ai fi).1;have ni_g:=(ai (ai fi).2).1;have ni_f:=(ai (ai (ai fi).2).2).1;have ni_g:=(ai (ai (ai (ai fi).2).2).2).1;have ni_f:=(ai (ai (ai (ai (ai fi).2).2).2).2).1;have ni_e:=(ai (ai (ai (ai (ai (ai fi).2).2).2).2).2).1;have ni_d:=(ai (ai (ai (ai (ai (ai (ai fi).2).2).2).2).2).2).1;have ni_c:=(ai (ai (ai (ai (ai (ai (ai (ai fi).2).2).2).2).2).2).2).1;simp -dsimp only[go_sem,aa,ae,↓reduceIte,ab,nn ni_h]
 repeat refine an ?_
 refine aI (fun O S'=>∃(x y:Nat) (a b na nb':Int),JJ x0 y0 x y a b na nb'/\O 2=.ptr 2 bc 0/\O 3=.ptr 2 bd 0/\O 4=.ptr 2 be 0/\O 5=.ptr 2 bf 0/\O 6=.ptr 2 bg 0/\O 7=.ptr 2 bh 0/\O 8=.ptr 2 bi 0/\BzS S' bc bd be bf bg bh bi x y a b na nb') (fun O S=>Lf S (O 3)) ?_ ?_
 ·simp -dsimp only[go_sem,aa];refine⟨x0,y0,1,0,0,1,JJ.init hp,?_⟩;simp only[BzS,dc.at_hit,dc.at_miss,ne_eq,not_false_eq_true,bK,if_true,and_self,ak nd_c,ak ne_c,ak ne_d,ak nf_c,ak nf_d,ak nf_e,ak ng_c,ak ng_d,ak ng_e,ak ng_f,ak nh_c,ak nh_d,ak nh_e,ak nh_f,ak nh_g,ak ni_c,ak ni_d,ak ni_e,ak ni_f,ak ni_g,ak ni_h]
 ·rintro O S' ⟨x,y,a,b,na,nbb,hI,e2,e3,e4,e5,e6,e7,e8,hS⟩;obtain⟨⟨g2,u2,v2⟩,⟨g3,u3,v3⟩,⟨g4,u4,v4⟩,⟨g5,u5,v5⟩,⟨g6,u6,v6⟩,⟨g7,u7,v7⟩,⟨g8,u8,v8⟩⟩:=id hS;by_cases hy0:y=0
  ·subst hy0;simp -dsimp only[go_sem,aa,ae,↓reduceIte,ab,e3,u3,v3]
   repeat refine an ?_
   refine(jh (nb.zero 1) om).call ?_;simp -dsimp only[go_sem,aa,ae,↓reduceIte,ab,e2,e3,u2,v2,u3,v3,show(Int.sign 0 != 0)=false from rfl]
   repeat refine an ?_
   refine ee 3 [[1,2]] (by kernel_rfl) ?_
   simp -dsimp only[go_sem,aa,ae,↓reduceIte,ab,e2,e4,e5,e6,u2,v2,u4,u5,v5,u6,v6,nn nf_e,nn ng_e,nn ng_f]
   repeat refine an ?_
   simp only[bK,if_true];rw[hI.fin];exact⟨trivial,trivial,trivial,VR.tup (l:=[.big x,.big a,.big b]) (by simp[nY])⟩
  ·have hs:((y:Int).sign != 0)=true:=by simp;omega
   have lx:x<2^32/\y<2^32:=by
    have h1:=hI.lx;have h2:=hI.ly;omega
   have na1:nb a 32:=Dy hI.la om;have na2:nb na 32:=Dy hI.lna om;have na3:nb b 32:=Dy hI.lb om;have na4:nb nbb 32:=Dy hI.lnb om;have nq:nb ((x/y:Nat):Int) 32:=uD (fH (Nat.div_le_self x y) lx.1);have q0:=Cr x y;simp -dsimp only[go_sem,aa,ae,↓reduceIte,ab,e3,u3,v3]
   repeat refine an ?_
   refine(jh (uD lx.2) om).call ?_;simp -dsimp only[go_sem,aa,ae,↓reduceIte,ab,e2,e3,u2,v2,u3,v3,hs]
   repeat refine an ?_
   refine(kc (uD lx.1) (uD lx.2) om om (Or.inr ((uD lx.1).mono om))).call ?_;rw[q0.1,q0.2];simp -dsimp only[go_sem,aa,↓reduceIte,v2,v3]
   repeat refine an ?_
   refine aG.intro fun bj fj=>?_;have hj:bc≠bj/\bd≠bj/\be≠bj/\bf≠bj/\bg≠bj/\bh≠bj/\bi≠bj:=⟨dc.fresh hS.1 fj,dc.fresh hS.2.1 fj,dc.fresh hS.2.2.1 fj,dc.fresh hS.2.2.2.1 fj,dc.fresh hS.2.2.2.2.1 fj,dc.fresh hS.2.2.2.2.2.1 fj,dc.fresh hS.2.2.2.2.2.2 fj⟩;obtain⟨j1,j2,j3,j4,j5,j6,j7⟩:=hj;simp -dsimp only[go_sem]
   repeat refine an ?_
   refine aG.intro fun bk fk=>?_;have nk_j:=(ai fk).1;have hk:=(ai fk).2;have hk':bc≠bk/\bd≠bk/\be≠bk/\bf≠bk/\bg≠bk/\bh≠bk/\bi≠bk:=⟨dc.fresh hS.1 hk,dc.fresh hS.2.1 hk,dc.fresh hS.2.2.1 hk,dc.fresh hS.2.2.2.1 hk,dc.fresh hS.2.2.2.2.1 hk,dc.fresh hS.2.2.2.2.2.1 hk,dc.fresh hS.2.2.2.2.2.2 hk⟩;obtain⟨k1,k2,k3,k4,k5,k6,k7⟩:=hk';simp -dsimp only[go_sem,aa,ae,↓reduceIte,ab,nn nk_j]
   repeat refine an ?_
   refine ee 2 [[1]] (by kernel_rfl) ?_
   simp -dsimp only[go_sem,aa,ae,↓reduceIte,ab,e2,e3,u2,v2,u3,v3,nd_c,j1,j2,nn k1,nn k2,d7]
   repeat refine an ?_
   refine bG 6 (by kernel_rfl) ?_
   simp -dsimp only[go_sem,aa,ae,↓reduceIte,ab,e5,e7,u5,v5,u7,v7,nf_c,nf_d,nh_c,nh_d,nh_f,j4,j6,k4,k6,ak nk_j,d7,ak j1,ak j2]
   repeat refine an ?_
   refine⟨_,(np nq na2 om).pure',_,(yr (na1.mono (show 32<=64 by omega)) (nq.mul na2) om).pure',trivial,?_⟩
   refine bG 6 (by kernel_rfl) ?_
   simp -dsimp only[go_sem,aa,ae,↓reduceIte,ab,e2,e3,e4,e5,e6,e7,e8,u6,v6,u8,v8,ng_c,ng_d,ng_f,ni_c,ni_d,ni_f,ni_g,ni_h,ak nh_g,j5,j7,k5,k7,ak nk_j,d7,ak j1,ak j2,ak j4,ak j6]
   repeat refine an ?_
   refine⟨_,(np nq na4 om).pure',_,(yr (na3.mono (show 32<=64 by omega)) (nq.mul na4) om).pure',trivial,?_⟩
   generalize hT:(((((((((S'.upd bj _).upd bk _).upd bj _).upd bk _).upd bc _).upd bd _).upd bf _).upd bh _).upd bg _).upd bi _=T;have hB:BzS T bc bd be bf bg bh bi (y:Int) ((x%y:Nat):Int) na nbb (a-((x/y:Nat):Int)*na) (b-((x/y:Nat):Int)*nbb):=by
    rw[<-hT];simp only[BzS,dc.at_hit,dc.at_miss,ne_eq,not_false_eq_true,bK,if_true,and_self,true_and,and_true,ne_c,ne_d,nh_g,ak nd_c,ak nf_c,ak nf_d,ak nf_e,ak ng_c,ak ng_d,ak ng_e,ak ng_f,ak nh_c,ak nh_d,ak nh_e,ak nh_f,ak ni_c,ak ni_d,ak ni_e,ak ni_f,ak ni_g,ak ni_h,j3,k3];exact hS.2.2.1
   refine⟨⟨y,x%y,na,nbb,_,_,hI.step hy0,hB⟩,?_⟩;rw[Bf hB.2.1,Bf hS.2.1];have:=Nat.mod_lt x (Nat.pos_of_ne_zero hy0);simp only[Int.toNat_natCast];exact this
end Go.Proofs.YtdobfmlmenaajaaGreatDoor
