/-
  Lemmas for NeighbourMembers.
-/
import Derived.Test.YtdobfmlmenaajaaGreatDoorN19
namespace Go.Proofs.YtdobfmlmenaajaaGreatDoor
open Go.RowKit
open _root_.Int renaming ofNat_lt→af,zero_le_ofNat→ay,emod_nonneg→aT,mul_ediv_cancel_left→c8,mul_assoc→gL,gcd→kP,sign_zero→mC,mul_pos→mX,sign_eq_zero_iff_zero→pn
open _root_.List renaming not_mem_nil→aZ,getD_cons_succ→bv,forall_mem_cons→bC,getD_cons_zero→bE
open _root_.Nat renaming reduceEqDiff→aa,add_one_le_iff→ab,reduceLT→ae,le_refl→ah,reduceAdd→aj,reduceLeDiff→aq,sub_self→bP,mul_le_mul_right→bT,sub_zero→eD,sub_sub→vQ
open _root_.Ne renaming symm→ak
open _root_.Option renaming none→ac
open _root_.Or renaming inr→bD,inl→bH
set_option maxHeartbeats 6400000
set_option maxRecDepth 4096
set_option linter.all false
theorem ni{a b:Int}{k:Nat}(ha:nb a k)(hb:nb b k)(hk:k<=536870912)(h0:b≠0):PF 65 [.big a,.big b] (.big (a/b)):=by
 refine PF.of_spec (aA Tryz.func65 rfl 16 Tryz.ntmps65 (by kernel_rfl) (by simp) (by simp[Tryz.results65]) ?_)
 rw[aS,Tryz.results65];simp -dsimp only[go_sem,aj,aa,reduceCtorEq];refine aG.intro fun b2 f2=>?_
 try simp -dsimp only[go_sem,aj,aa,aq,ae,↓reduceIte,reduceCtorEq,af,decide_true,decide_false,ay]
 refine aG.intro fun b3 f3=>?_;have n3_2:=(ai f3).1
 try simp -dsimp only[go_sem,aj,aa,aq,ae,↓reduceIte,reduceCtorEq,af,decide_true,decide_false,ay]
 refine aG.intro fun b4 f4=>?_;have n4_3:=(ai f4).1;have n4_2:=(ai (ai f4).2).1;simp -dsimp only[go_sem,aa,aq,ae,↓reduceIte,ak n3_2,ak n4_2,ak n4_3];refine(uf ha hb hk h0).call ?_;simp -dsimp only[go_sem,aa,↓reduceIte];refine aG.intro fun b5 f5=>?_;have n5_4:=(ai f5).1;have n5_3:=(ai (ai f5).2).1;have n5_2:=(ai (ai (ai f5).2).2).1
 try simp -dsimp only[go_sem]
 refine aG.intro fun b6 f6=>?_;have n6_5:=(ai f6).1;have n6_4:=(ai (ai f6).2).1;have n6_3:=(ai (ai (ai f6).2).2).1;have n6_2:=(ai (ai (ai (ai f6).2).2).2).1;simp -dsimp only[go_sem,aa,↓reduceIte,nn n6_5,ak n5_4,ak n6_4,bK];exact VR.mf rfl
theorem Ir{a b:Int}{k:Nat}(ha:nb a k)(hb:nb b k)(hk:k<=536870912)(h0:b≠0):PF 147 [.big a,.big b] (.big (a%b)):=by
 refine PF.of_spec (aA Tryz.func147 rfl 16 Tryz.ntmps147 (by kernel_rfl) (by simp) (by simp[Tryz.results147]) ?_)
 rw[aS,Tryz.results147];simp -dsimp only[go_sem,aj,aa,reduceCtorEq];refine aG.intro fun b2 f2=>?_
 try simp -dsimp only[go_sem,aj,aa,aq,ae,↓reduceIte,reduceCtorEq,af,decide_true,decide_false,ay]
 refine aG.intro fun b3 f3=>?_;have n3_2:=(ai f3).1
 try simp -dsimp only[go_sem,aj,aa,aq,ae,↓reduceIte,reduceCtorEq,af,decide_true,decide_false,ay]
 refine aG.intro fun b4 f4=>?_;have n4_3:=(ai f4).1;have n4_2:=(ai (ai f4).2).1;simp -dsimp only[go_sem,aa,aq,ae,↓reduceIte,ak n3_2,ak n4_2,ak n4_3];refine(uf ha hb hk h0).call ?_;simp -dsimp only[go_sem,aa,↓reduceIte];refine aG.intro fun b5 f5=>?_;have n5_4:=(ai f5).1;have n5_3:=(ai (ai f5).2).1;have n5_2:=(ai (ai (ai f5).2).2).1
 try simp -dsimp only[go_sem]
 refine aG.intro fun b6 f6=>?_;have n6_5:=(ai f6).1;have n6_4:=(ai (ai f6).2).1;have n6_3:=(ai (ai (ai f6).2).2).1;have n6_2:=(ai (ai (ai (ai f6).2).2).2).1;simp -dsimp only[go_sem,aa,↓reduceIte,nn n6_5,ak n5_4,ak n6_4,bK];exact VR.mf rfl
theorem dc.get{S:St}{b ty es:Nat}{z:AV}(h:dc S b ty es z):∃g,S b=some ⟨ty,es,1,g⟩/\g 0=z:=h
theorem uF{a b:Int}(h:b≠0):(a%b).natAbs<b.natAbs:=by
 have h1:=aT a h;have h2:=Int.emod_lt a h;omega
theorem Io{a:Int}(h:a≠0):(a.sign != 0)=true:=by
 simp only[bne_iff_ne,ne_eq];rw[pn];exact h
theorem Gx{a b:Int}:kP a b=kP b (a%b):=by
 have h1:a%b=a+b*(-(a/b)):=by rw[Int.emod_def];grind
 rw[Int.gcd_comm b,h1,Int.gcd_add_mul_left_left]
theorem It{a b:Int}{k:Nat}(ha:nb a k)(hb:nb b k)(hk:k<=536870912):PF 262 [.big a,.big b] (.big (kP a b)):=by
 refine PF.of_spec (aA Tryz.func262 rfl 19 Tryz.ntmps262 (by kernel_rfl) (by simp) (by simp[Tryz.results262]) ?_)
 rw[aS,Tryz.results262];simp -dsimp only[go_sem,aj,aa,reduceCtorEq];refine aG.intro fun b2 f2=>?_
 try simp -dsimp only[go_sem,aj,aa,aq,ae,↓reduceIte,reduceCtorEq,af,decide_true,decide_false,ay]
 refine aG.intro fun b3 f3=>?_;have n3_2:=(ai f3).1
 try simp -dsimp only[go_sem,aj,aa,aq,ae,↓reduceIte,reduceCtorEq,af,decide_true,decide_false,ay]
 refine aG.intro fun b4 f4=>?_;have n4_3:=(ai f4).1;have n4_2:=(ai (ai f4).2).1;simp -dsimp only[go_sem];refine bG 6 (by kernel_rfl) ?_
 simp -dsimp only[go_sem,aa,aq,ae,↓reduceIte,ak n3_2,ak n4_2,ak n4_3];refine⟨_,(yG ha om).pure',_,(yG hb om).pure',?_⟩;refine aG.intro fun b5 f5=>?_;have n5_4:=(ai f5).1;have n5_3:=(ai (ai f5).2).1;have n5_2:=(ai (ai (ai f5).2).2).1
 try simp -dsimp only[go_sem]
 refine aG.intro fun b6 f6=>?_;have n6_5:=(ai f6).1;have n6_4:=(ai (ai f6).2).1;have n6_3:=(ai (ai (ai f6).2).2).1;have n6_2:=(ai (ai (ai (ai f6).2).2).2).1;simp -dsimp only[go_sem,aa,↓reduceIte,nn n6_5];refine aI (fun O S=>∃x y:Int,nb x k/\nb y k/\0<=x/\0<=y/\kP x y=kP a b/\O 4=.ptr 2 b4 0/\O 5=.ptr 2 b5 0/\O 6=.ptr 2 b6 0/\dc S b4 50 2 (.big 0)/\dc S b5 50 2 (.big x)/\dc S b6 50 2 (.big y)) (fun O S=>match S b6 with|some X=>(match X.g 0 with|.big y=>y.natAbs|_=>0)|ac=>0) ?_ ?_
 ·simp -dsimp only[go_sem,aa,↓reduceIte];exact⟨a.natAbs,nb.of_le (by simp) ha,b.natAbs,nb.of_le (by simp) hb,by omega,by omega,by simp[kP],((((dc.new rfl).upd (ak n5_4) _).upd (ak n6_4) _).upd (ak n5_4) _).upd (ak n6_4) _,dc.set.upd (ak n6_5) _,dc.set⟩
 ·rintro O S ⟨x,y,hx,hy,h0,h1,hg,e4,e5,e6,V4,V5,V6⟩;obtain⟨g4,s4,v4⟩:=V4;obtain⟨g5,s5,v5⟩:=V5;obtain⟨g6,s6,v6⟩:=V6;by_cases hy0:y=0
  ·simp -dsimp only[go_sem,aa,aq,ae,↓reduceIte,e6,s6,v6];refine(gO hy om).call ?_;simp -dsimp only[go_sem,aa,↓reduceIte,e4,e5,s4,s5,v5,v6,hy0,mC,bK];have hx':((kP a b:Nat):Int)=x:=by rw[<-hg,hy0,Int.gcd_zero];omega
   rw[hx'];exact VR.mf rfl
  ·simp -dsimp only[go_sem,aa,aq,ae,↓reduceIte,e6,s6,v6];refine(gO hy om).call ?_;simp -dsimp only[go_sem,aa,↓reduceIte,e4,e5,s4,s5,v5,v6,Io hy0,bK];refine bG 4 (by kernel_rfl) ?_
   simp -dsimp only[go_sem,aa,aq,ae,↓reduceIte,e4,e5,e6,s5,s6,v5,v6,n6_5,bK];refine⟨_,(Ir hx hy hk hy0).pure',?_⟩;simp -dsimp only[go_sem];have hlt:=uF (a:=x) hy0;have hem:=aT x hy0;exact⟨⟨y,hy,x%y,nb.of_le om hy,h1,hem,by rw[<-Gx];exact hg,(dc.upd ⟨g4,s4,v4⟩ (ak n5_4) _).upd (ak n6_4) _,dc.set.upd (ak n6_5) _,dc.set⟩,hlt⟩
def cJ(e es:Nat)(S0 S:St)(x:AV)(j:Nat)(g:Nat->AV):Prop:=eZ S0 S/\((j=0/\x=.nil)∨∃c,S0 c=ac/\x=.sl es c 0 j/\bB S c e es j g)
def dH(x:AV)(d:Nat):Prop:=∃es off len,x=.sl es d off len
theorem cJ.nil{e es:Nat}{S0 S:St}(h:eZ S0 S)(g:Nat->AV):cJ e es S0 S .nil 0 g:=⟨h,bH ⟨rfl,rfl⟩⟩
theorem cJ.congr{e es:Nat}{S0 S:St}{x:AV}{j:Nat}{g g':Nat->AV}(h:cJ e es S0 S x j g)(he:∀i,i<j->g i=g' i):cJ e es S0 S x j g':=by
 refine⟨h.1,h.2.imp id ?_⟩;rintro⟨c,h1,h2,h3⟩;exact⟨c,h1,h2,h3.congr he⟩
theorem cJ.step{e es:Nat}{S0 S S':St}{x:AV}{j:Nat}{g:Nat->AV}(h:cJ e es S0 S x j g)(he:eZ S0 S')(hs:∀d,dH x d->S' d=S d):cJ e es S0 S' x j g:=by
 refine⟨he,h.2.imp id ?_⟩;rintro⟨c,h1,h2,g',h3,h4⟩;exact⟨c,h1,h2,g',by rw[hs c ⟨_,_,_,h2⟩];exact h3,h4⟩
theorem cJ.upd{e es:Nat}{S0 S:St}{x:AV}{j:Nat}{g:Nat->AV}(h:cJ e es S0 S x j g){b:Nat}(hb:S0 b=ac)(hn:∀d,dH x d->d≠b)(X:dn):cJ e es S0 (S.upd b X) x j g :=
 h.step (h.1.upd hb X) (fun d hd=>aQ (hn d hd))
theorem cJ.fresh{e es:Nat}{S0 S:St}{x:AV}{j:Nat}{g:Nat->AV}(h:cJ e es S0 S x j g){b:Nat}(hb:S b=ac):∀d,dH x d->d≠b:=by
 rintro d ⟨es',off,len,hd⟩ rfl;rcases h.2 with⟨_,h1⟩|⟨c,_,h1,h2⟩
 ·rw[h1]at hd;cases hd
 ·rw[h1]at hd;cases hd;exact bB.fresh h2 hb rfl
theorem cJ.app{t e es:Nat}{S0 S:St}{x y v:AV}{j:Nat}{g:Nat->AV}{K:AV->St->Prop}(he:cX t=some e)(hz:(eQ e).isSome=true)(hes:es=bI e)(h:cJ e es S0 S x j g)(hj:j<1000000)(hv:du es v)
  (hy:(∃h,y=.lst es 1 h/\h 0=v)∨∃b gb ty,y=.sl es b 0 1/\S b=some ⟨ty,es,1,gb⟩/\gb 0=v/\¬dH x b)
  (hK:∀c S',cJ e es S0 S' (.sl es c 0 (j+1)) (j+1) (fun i=>if i=j then v else g i)->(∀d X,S d=some X->¬dH x d->S' d=some X)->(dH x c∨S c=ac)->K (.sl es c 0 (j+1)) S'):eL t t x y S K:=by
 unfold eL;rw[he];refine⟨rfl,hz,?_⟩;have hels:∃hh o,vZ S y=some (es,1,hh,o)/\hh 0=v/\(∀d,dH x d->o≠some d):=by
  rcases hy with⟨h,rfl,h0⟩|⟨b,gb,ty,rfl,h1,h2,h3⟩
  ·exact⟨_,_,rfl,h0,fun d _=>by simp⟩
  ·refine⟨fun j=>gb (0+j),some b,by simp[vZ,h1],h2,fun d hd e=>?_⟩
   cases e;exact h3 hd
 obtain⟨hh,o,h1,h2,h3⟩:=hels;rw[h1];refine⟨hes,by omega,fun i hi=>by rw[show i=0 by omega,h2];exact hv,?_⟩
 rcases h.2 with⟨rfl,rfl⟩|⟨c,hc0,rfl,g',hg1,hg2⟩
 ·refine⟨by omega,fun b hb=>hK _ _ ⟨h.1.upd (h.1.none hb) _,bD ⟨b,h.1.none hb,rfl,bB.here fun i hi=>?_⟩⟩ (fun d X hd _=>?_) (bD hb)⟩
  ·obtain rfl:i=0:=by omega
   simp[h2]
  ·rw[aQ];exact hd;rintro rfl;rw[hb]at hd;cases hd
 ·simp only[hg1];refine⟨trivial,trivial,trivial,trivial,trivial,by omega,h3 c ⟨_,_,_,rfl⟩,fun b' hb'=>hK _ _ ⟨?_,bD ⟨b',?_,rfl,bB.here fun i hi=>?_⟩⟩ (fun d X hd hnb=>?_) ?_⟩
  ·intro k X hX;have hkc:k≠c:=by rintro rfl;rw[hc0]at hX;cases hX
   have hkb:k≠b':=by
    rintro rfl;rcases hb' with rfl|hb'
    ·exact hkc rfl
    ·rw[h.1 k X hX]at hb';cases hb'
   rw[aQ hkb];simp only[St.del];rw[if_neg hkc];exact h.1 k X hX
  ·rcases hb' with rfl|hb'
   ·exact hc0
   ·exact h.1.none hb'
  ·by_cases e:i=j
   ·subst e;rw[tu (ah _) om,bP,h2,if_pos rfl]
   ·rw[zi om,if_neg e];exact hg2 i om
  ·have hdc:d≠c:=fun e=>hnb (by rw[e];exact⟨_,_,_,rfl⟩)
   have hdb:d≠b':=by
    rintro rfl;rcases hb' with rfl|hb'
    ·exact hdc rfl
    ·rw[hd]at hb';cases hb'
   rw[aQ hdb];simp only[St.del];rw[if_neg hdc];exact hd
  ·rcases hb' with rfl|hb'
   ·exact bH ⟨_,_,_,rfl⟩
   ·exact bD hb'
theorem cJ.app50{S0 S:St}{x y v:AV}{j:Nat}{g:Nat->AV}{K:AV->St->Prop}(h:cJ 50 2 S0 S x j g)(hj:j<1000000)(hv:du 2 v)(hy:(∃h,y=.lst 2 1 h/\h 0=v)∨∃b gb ty,y=.sl 2 b 0 1/\S b=some ⟨ty,2,1,gb⟩/\gb 0=v/\¬dH x b)
  (hK:∀c S',cJ 50 2 S0 S' (.sl 2 c 0 (j+1)) (j+1) (fun i=>if i=j then v else g i)->(∀d X,S d=some X->¬dH x d->S' d=some X)->(dH x c∨S c=ac)->K (.sl 2 c 0 (j+1)) S'):eL 59 59 x y S K:=cJ.app rfl rfl rfl h hj hv hy hK
theorem cJ.app2{S0 S:St}{x y v:AV}{j:Nat}{g:Nat->AV}{K:AV->St->Prop}(h:cJ 2 1 S0 S x j g)(hj:j<1000000)(hv:du 1 v)(hy:(∃h,y=.lst 1 1 h/\h 0=v)∨∃b gb ty,y=.sl 1 b 0 1/\S b=some ⟨ty,1,1,gb⟩/\gb 0=v/\¬dH x b)
  (hK:∀c S',cJ 2 1 S0 S' (.sl 1 c 0 (j+1)) (j+1) (fun i=>if i=j then v else g i)->(∀d X,S d=some X->¬dH x d->S' d=some X)->(dH x c∨S c=ac)->K (.sl 1 c 0 (j+1)) S'):eL 29 29 x y S K:=cJ.app rfl rfl rfl h hj hv hy hK
theorem cJ.app3{S0 S:St}{x y v:AV}{j:Nat}{g:Nat->AV}{K:AV->St->Prop}(h:cJ 3 1 S0 S x j g)(hj:j<1000000)(hv:du 1 v)(hy:(∃h,y=.lst 1 1 h/\h 0=v)∨∃b gb ty,y=.sl 1 b 0 1/\S b=some ⟨ty,1,1,gb⟩/\gb 0=v/\¬dH x b)
  (hK:∀c S',cJ 3 1 S0 S' (.sl 1 c 0 (j+1)) (j+1) (fun i=>if i=j then v else g i)->(∀d X,S d=some X->¬dH x d->S' d=some X)->(dH x c∨S c=ac)->K (.sl 1 c 0 (j+1)) S'):eL 146 146 x y S K:=cJ.app rfl rfl rfl h hj hv hy hK
theorem cJ.app59{S0 S:St}{x y v:AV}{j:Nat}{g:Nat->AV}{K:AV->St->Prop}(h:cJ 59 1 S0 S x j g)(hj:j<1000000)(hv:du 1 v)(hy:(∃h,y=.lst 1 1 h/\h 0=v)∨∃b gb ty,y=.sl 1 b 0 1/\S b=some ⟨ty,1,1,gb⟩/\gb 0=v/\¬dH x b)
  (hK:∀c S',cJ 59 1 S0 S' (.sl 1 c 0 (j+1)) (j+1) (fun i=>if i=j then v else g i)->(∀d X,S d=some X->¬dH x d->S' d=some X)->(dH x c∨S c=ac)->K (.sl 1 c 0 (j+1)) S'):eL 52 52 x y S K:=cJ.app rfl rfl rfl h hj hv hy hK
theorem cJ.app29{S0 S:St}{x y v:AV}{j:Nat}{g:Nat->AV}{K:AV->St->Prop}(h:cJ 29 1 S0 S x j g)(hj:j<1000000)(hv:du 1 v)(hy:(∃h,y=.lst 1 1 h/\h 0=v)∨∃b gb ty,y=.sl 1 b 0 1/\S b=some ⟨ty,1,1,gb⟩/\gb 0=v/\¬dH x b)
  (hK:∀c S',cJ 29 1 S0 S' (.sl 1 c 0 (j+1)) (j+1) (fun i=>if i=j then v else g i)->(∀d X,S d=some X->¬dH x d->S' d=some X)->(dH x c∨S c=ac)->K (.sl 1 c 0 (j+1)) S'):eL 28 28 x y S K:=cJ.app rfl rfl rfl h hj hv hy hK
theorem cJ.other{e es:Nat}{S0 S:St}{x:AV}{j:Nat}{g:Nat->AV}(h:cJ e es S0 S x j g){b ty es' n:Nat}{g':Nat->AV}(hb:S b=some ⟨ty,es',n,g'⟩)(ht:ty≠e):¬dH x b:=by
 rintro⟨_,_,_,he⟩;rcases h.2 with⟨_,h1⟩|⟨c,_,h1,h2⟩
 ·rw[h1]at he;cases he
 ·rw[h1]at he;cases he;exact bB.ne h2 (bB.of hb) (ak ht) rfl
theorem bB.via{S S':St}{b ty es n:Nat}{g:Nat->AV}(h:bB S b ty es n g)(hk:∀X,S b=some X->S' b=some X):bB S' b ty es n g:=by
 obtain⟨g',h1,h2⟩:=h;exact⟨g',hk _ h1,h2⟩
theorem eT{es b off len d:Nat}:dH (.sl es b off len) d↔d=b:=⟨fun⟨_,_,_,e⟩=>by cases e;rfl,fun e=>by rw[e];exact⟨_,_,_,rfl⟩⟩
theorem zM(n m:Nat)(A:Nat->Nat->Int)(k:Nat)(h2:n<=1000)(h3:1<=m)(h4:m<=1000)(hA:∀i j,i<n->j<m->nb (A i j) k)(hk:k<=8589934592):MF 63 [aV n m A] n m A:=by
 refine MF.of ?_;refine aA Tryz.func63 rfl 38 Tryz.ntmps63 (by kernel_rfl) (by simp) (by simp[Tryz.results63]) ?_
 rw[aS,Tryz.results63];simp -dsimp only[go_sem,reduceCtorEq,aV,bn]
 repeat refine an ?_
 refine aG.intro fun b3 f3=>?_;simp -dsimp only[go_sem];refine aI (fun O S=>∃(i:Nat) (g:Nat->Nat),i<=n/\O 0=aV n m A/\O 3=.sl 1 b3 0 n/\O 11=.int .i64 n/\O 12=.int .i64 i /\
  bB S b3 59 1 n (fun a=>if a<i then .sl 2 (g a) 0 m else .nil)/\(∀a,a<i->gV S (g a) m (A a))/\∀a c,a<i->c<i->g a=g c->a=c) (fun O S=>n-bY (O 12)) ?_ ?_
 ·simp -dsimp only[go_sem,aa,reduceCtorEq,aV,bn];exact⟨0,by omega,rfl,fun _=>0,bB.here fun _ _=>by simp,fun a ha=>by omega,fun a c ha=>by omega⟩
 ·rintro O S ⟨i,g,hi,e0,e3,e11,e12,hO,hR,hI⟩;by_cases hlt:i<n
  ·simp -dsimp only[go_sem,aa,↓reduceIte,reduceCtorEq,af,decide_true,aV,bn,e0,e3,e11,e12,hlt];refine aI (fun O S'=>∃(j:Nat) (x:AV),j<=m/\O 0=aV n m A/\O 3=.sl 1 b3 0 n/\O 4=.int .i64 i/\O 11=.int .i64 n/\O 12=.int .i64 i/\O 18=bn m (A i)/\O 19=.int .i64 m/\O 20=.int .i64 j /\
    bB S' b3 59 1 n (fun a=>if a<i then .sl 2 (g a) 0 m else if a=i then x else .nil)/\(∀a,a<i->gV S' (g a) m (A a)/\¬dH x (g a))/\cJ 50 2 St.none S' x j (fun c=>.big (A i c))) (fun O S=>m-bY (O 20)) ?_ ?_
   ·simp -dsimp only[go_sem,aa,reduceCtorEq,aV,bn,e0,e3,e11,e12];exact⟨0,by omega,rfl,.nil,hO.congr fun a _=>by grind,fun a ha=>⟨hR a ha,by rintro⟨_,_,_,e⟩;cases e⟩,cJ.nil (fun k X h=>by cases h) _⟩
   ·rintro O S' ⟨j,x,hj,e0,e3,e4,e11,e12,e18,e19,e20,hO,hR,hX⟩;by_cases hjm:j<m
    ·simp -dsimp only[go_sem,aa,↓reduceIte,reduceCtorEq,af,decide_true,aV,bn,e0,e3,e11,e12,e18,e19,e20,hjm];refine aG.intro fun b6 f6=>?_;obtain⟨g1,u1,v1⟩:=hO;have v1':g1 i=x:=by rw[v1 i hlt];simp
     have h36:b3≠b6:=bB.fresh (bB.of u1) f6;simp -dsimp only[go_sem,aa,↓reduceIte];refine gR 9 (by kernel_rfl) ?_
     simp -dsimp only[go_sem,aa,aq,ae,↓reduceIte,af,e3,e4,hlt,h36,u1,v1',bK]
     repeat refine an ?_
     refine⟨_,(Av (hA i j hlt hjm) hk).pure',?_⟩;simp -dsimp only[go_sem];have hxb:∀d,dH x d->d≠b6:=hX.fresh f6;have hx3:=hX.other u1 om;refine cJ.app50 ((hX.upd (by rfl) hxb _).upd (by rfl) hxb _) om (show du 2 (.big (A i j))from trivial) (bH ⟨_,rfl,rfl⟩) ?_
     intro c S2 hX' hk1 hk3;have u1':=hk1 b3 _ (by rw[aQ h36,aQ h36];exact u1) hx3
     simp -dsimp only[go_sem,aa,↓reduceIte,reduceCtorEq,af,aV,bn,e0,e3,e4,e11,e12,e18,e19,e20,hlt,u1',aW (show j<1000000 by omega),bY]
     repeat refine an ?_
     refine⟨⟨j+1,by omega,rfl,.sl 2 c 0 (j+1),bB.here fun a ha=>?_,fun a ha=>?_,?_⟩,by omega⟩
     ·have:=v1 a ha;grind [bK]
     ·obtain⟨r1,r2⟩:=hR a ha;have hg6:g a≠b6:=bB.fresh r1 f6;have hg3:g a≠b3:=bB.ne r1 (bB.of u1) om;refine⟨(r1.via fun X hX=>hk1 _ _ (by rw[aQ hg6,aQ hg6];exact hX) r2).upd hg3 _,fun hb=>?_⟩
      rw[eT]at hb;rw[<-hb]at hk3;rcases hk3 with h|h
      ·exact r2 h
      ·rw[aQ hg6,aQ hg6]at h;exact bB.fresh r1 h rfl
     ·refine(hX'.upd (by rfl) (fun d hd e=>?_) _).congr (fun a ha=>by grind)
      rw[e]at hd;exact hX'.other u1' om hd
    ·simp -dsimp only[go_sem,aa,↓reduceIte,reduceCtorEq,af,decide_false,aV,bn,e0,e3,e11,e12,e18,e19,e20,hjm,aW (show i<1000000 by omega),bY]
     obtain rfl:j=m:=by omega
     rcases hX.2 with⟨h0,_⟩|⟨c,_,rfl,hC⟩
     ·omega
     refine⟨⟨i+1,by omega,rfl,fun a=>if a=i then c else g a,hO.congr fun a ha=>by grind,fun a ha=>?_,fun a d ha hd e=>?_⟩,by omega⟩
     ·by_cases e:a=i
      ·subst e;simp only[if_true];exact hC
      ·simp only[e,if_false];exact(hR a om).1
     ·have k1:=fun a ha=>(hR a ha).2;simp only[eT]at k1
      grind
  ·simp -dsimp only[go_sem,aa,↓reduceIte,reduceCtorEq,af,decide_false,aV,bn,e0,e3,e11,e12,hlt];obtain rfl:i=n:=by omega
   exact⟨b3,rfl,g,hO.congr fun a ha=>by simp[ha],hR,hI⟩
theorem eZ.noneS(S:St):eZ St.none S:=fun k X h=>by cases h
theorem xY(n m p q:Nat)(A:Nat->Nat->Int)(ρ γ:Nat->Nat)(h1:1<=p)(h2:p<=1000)(h3:1<=q)(h4:q<=1000)(hρ:∀i,i<p->ρ i<n)(hγ:∀i,i<q->γ i<m):MF 143 [aV n m A,bJ p (fun i=>ρ i),bJ q (fun i=>γ i)] p q (fun i j=>A (ρ i) (γ j)):=by
 refine MF.of ?_;refine aA Tryz.func143 rfl 42 Tryz.ntmps143 (by kernel_rfl) (by simp) (by simp[Tryz.results143]) ?_
 rw[aS,Tryz.results143];simp -dsimp only[go_sem,aj,aa,reduceCtorEq,aV,bn,bJ];refine aI (fun O S=>∃(i:Nat) (x:AV) (g:Nat->Nat),i<=p/\O 0=aV n m A/\O 2=bJ q (fun i=>γ i)/\O 7=x/\O 13=bJ p (fun i=>ρ i)/\O 14=.int .i64 p/\O 15=.int .i64 i /\
  cJ 59 1 St.none S x i (fun a=>.sl 2 (g a) 0 q)/\(∀a,a<i->gV S (g a) q (fun j=>A (ρ a) (γ j)))/\∀a c,a<i->c<i->g a=g c->a=c) (fun O S=>p-bY (O 15)) ?_ ?_
 ·simp -dsimp only[go_sem,aa,reduceCtorEq,aV,bn,bJ];exact⟨0,by omega,rfl,fun _=>0,cJ.nil (eZ.noneS _) _,fun a ha=>by omega,fun a c ha=>by omega⟩
 ·rintro O S ⟨i,x,g,hi,e0,e2,e7,e13,e14,e15,hX,hR,hI⟩;by_cases hlt:i<p
  ·have hρi:=hρ i hlt;simp -dsimp only[go_sem,aa,↓reduceIte,af,decide_true,aV,bn,bJ,e2,e7,e13,e14,e15,hlt];refine aI (fun O S'=>∃(j:Nat) (y:AV),j<=q/\O 0=aV n m A/\O 2=bJ q (fun i=>γ i)/\O 7=x/\O 9=.int .i64 (ρ i)/\O 10=y/\O 13=bJ p (fun i=>ρ i)/\O 14=.int .i64 p/\O 15=.int .i64 i/\O 19=bJ q (fun i=>γ i)/\O 20=.int .i64 q/\O 21=.int .i64 j /\
    cJ 59 1 St.none S' x i (fun a=>.sl 2 (g a) 0 q)/\(∀a,a<i->gV S' (g a) q (fun j=>A (ρ a) (γ j))/\¬dH y (g a))/\cJ 50 2 St.none S' y j (fun c=>.big (A (ρ i) (γ c)))/\∀d,dH x d->¬dH y d) (fun O S=>q-bY (O 21)) ?_ ?_
   ·simp -dsimp only[go_sem,aa,reduceCtorEq,aV,bn,bJ,e0,e2,e7,e13,e14,e15];exact⟨0,by omega,rfl,hX,fun a ha=>⟨hR a ha,by rintro⟨_,_,_,e⟩;cases e⟩,cJ.nil (eZ.noneS _) _,fun d _=>by rintro⟨_,_,_,e⟩;cases e⟩
   ·rintro O S' ⟨j,y,hj,e0,e2,e7,e9,e10,e13,e14,e15,e19,e20,e21,hX,hR,hY,hXY⟩;by_cases hjm:j<q
    ·have hγj:=hγ j hjm;simp -dsimp only[go_sem,aa,↓reduceIte,reduceCtorEq,af,decide_true,aV,bn,bJ,e0,e7,e9,e10,e19,e20,e21,hjm,hρi,hγj];refine aG.intro fun b33 f33=>?_;simp -dsimp only[go_sem,aa,↓reduceIte,reduceCtorEq,aV,bn,e0,e9,e10];have hyb:=hY.fresh f33;have hxb:=hX.fresh f33;refine cJ.app50 (hY.upd (by rfl) hyb _) om (show du 2 (.big (A (ρ i) (γ j)))from trivial) (bD ⟨_,_,_,rfl,bV,rfl,fun h=>hyb _ h rfl⟩) ?_
     intro c S2 hY' hk1 hk3;simp -dsimp only[go_sem,aa,reduceCtorEq,aV,bn,bJ,e0,e2,e7,e9,e10,e13,e14,e15,e19,e20,e21,aW (show j<1000000 by omega),bY]
     have kx:∀d,dH x d->d≠b33/\¬dH y d:=fun d hd=>⟨hxb d hd,hXY d hd⟩;refine⟨⟨j+1,by omega,rfl,?_,fun a ha=>?_,hY'.congr fun a ha=>by grind,fun d hd he=>?_⟩,by omega⟩
     ·refine hX.step (eZ.noneS _) (fun d hd=>?_)
      cases hS:S' d with
      | none =>
       exfalso;obtain⟨_,_,_,e⟩:=hd;rcases hX.2 with⟨_,h1⟩|⟨c,_,h1,g',h2,_⟩
       ·rw[h1]at e;cases e
       ·rw[h1]at e;cases e;rw[hS]at h2;cases h2
      | some X=>exact hk1 d X (by rw[aQ (kx d hd).1];exact hS) (kx d hd).2
     ·obtain⟨r1,r2⟩:=hR a ha;have hg6:g a≠b33:=bB.fresh r1 f33;refine⟨r1.via fun X hX=>hk1 _ _ (by rw[aQ hg6];exact hX) r2,fun hb=>?_⟩
      rw[eT]at hb;rw[<-hb]at hk3;rcases hk3 with h|h
      ·exact r2 h
      ·rw[aQ hg6]at h;exact bB.fresh r1 h rfl
     ·rw[eT]at he;subst he;rcases hk3 with h|h
      ·exact hXY d hd h
      ·rw[aQ (hxb d hd)]at h;obtain⟨_,_,_,e⟩:=hd;rcases hX.2 with⟨_,h1⟩|⟨c,_,h1,g',h2,_⟩
       ·rw[h1]at e;cases e
       ·rw[h1]at e;cases e;rw[h]at h2;cases h2
    ·obtain rfl:j=q:=by omega
     rcases hY.2 with⟨h0,_⟩|⟨c,_,rfl,hC⟩
     ·omega
     simp -dsimp only[go_sem,aa,↓reduceIte,reduceCtorEq,af,decide_false,aV,bn,bJ,e0,e7,e9,e10,e19,e20,e21,hjm];refine aG.intro fun b38 f38=>?_;simp -dsimp only[go_sem,aa,↓reduceIte,e7,e10];have hxb:=hX.fresh f38;refine cJ.app59 (hX.upd (by rfl) hxb _) om (show du 1 (.sl 2 c 0 j)from trivial) (bD ⟨_,_,_,rfl,bV,rfl,fun h=>hxb _ h rfl⟩) ?_
     intro d S2 hX' hk1 hk3;have hc38:c≠b38:=bB.fresh hC f38;have hxc:¬dH x c:=fun h=>hXY c h (eT.2 rfl);simp -dsimp only[go_sem,aa,reduceCtorEq,aV,bn,bJ,e0,e2,e7,e10,e13,e14,e15,aW (show i<1000000 by omega),bY]
     refine⟨⟨i+1,by omega,rfl,fun a=>if a=i then c else g a,hX'.congr fun a ha=>by grind,fun a ha=>?_,fun a d ha hd e=>?_⟩,by omega⟩
     ·by_cases e:a=i
      ·subst e;simp only[if_true];exact hC.via fun X hX=>hk1 _ _ (by rw[aQ hc38];exact hX) hxc
      ·simp only[e,if_false];have r1:=(hR a om).1;have hga:g a≠b38:=bB.fresh r1 f38;obtain⟨gg,hgg,_⟩:=r1;exact(hR a om).1.via fun X hXX=>hk1 _ _ (by rw[aQ hga];exact hXX) (hX.other hgg om)
     ·have k1:=fun a ha=>(hR a ha).2;simp only[eT]at k1
      grind
  ·simp -dsimp only[go_sem,aa,↓reduceIte,af,decide_false,aV,bn,bJ,e2,e7,e13,e14,e15,hlt];obtain rfl:i=p:=by omega
   rcases hX.2 with⟨h0,_⟩|⟨c,_,rfl,hC⟩
   ·omega
   exact⟨c,rfl,g,hC,hR,hI⟩
theorem pT{k:Nat}:∀(m:Nat) (M:aU),m<=16->(∀a b,a<m->b<m->nb (M a b) k)->nb (det m M) (m*(k+10)+1)
 | 0,M,_,_=>by simp only[det];exact nb.one om
 | m+1,M,hm,h=>by
  simp only[det];have h1:∀j,j<m+1->nb (sw j*M 0 j*det m (iR M j)) (k+(m*(k+10)+1)):=by
   intro j hj;have h2:=pT m (iR M j) om (fun a b ha hb=>h _ _ om (qj hb));have h3:=(h 0 j om hj).mul h2;unfold nb at h3 ⊢;have:(sw j*M 0 j*det m (iR M j)).natAbs=(M 0 j*det m (iR M j)).natAbs:=by
    unfold sw;split
    ·rw[Int.one_mul]
    ·rw[gL];simp
   rw[this];exact h3
  have h4:=uC h1 om (m+1) (ah _);refine h4.mono ?_;rw[Nat.succ_mul];omega
theorem kt{S:St}{b:Nat}{X Y:dn}:(S.upd b X).upd b Y=S.upd b Y:=by
 funext k;simp only[St.upd];split<;>rfl
theorem cS.upd{S:St}{b:Nat}{g:Nat->Nat}{n m:Nat}{A:Nat->Nat->Int}(h:cS S b g n m A){c:Nat}(hb:b≠c)(hg:∀i,i<n->g i≠c)(X:dn):cS (S.upd c X) b g n m A :=
 ⟨h.outer.upd hb X,fun i hi=>(h.row i hi).upd (hg i hi) X,h.inj⟩
theorem cS.swap{S:St}{b:Nat}{g:Nat->Nat}{n m:Nat}{A:Nat->Nat->Int}(h:cS S b g n m A){p k:Nat}(hp:p<n)(hk:k<n)(hpk:p≠k){g1:Nat->AV}(hS:S b=some ⟨59,1,n,g1⟩) :
  cS (S.upd b ⟨59,1,n,bK (bK g1 p (.sl 2 (g k) 0 m)) k (.sl 2 (g p) 0 m)⟩) b (fun i=>g (dB k p i)) n m (fun i j=>A (dB k p i) j):=by
 obtain⟨g',h1,h2⟩:=h.outer;rw[hS]at h1;cases h1;have hs:∀i,i<n->dB k p i<n:=fun i hi=>by unfold dB;split<;>(try split)<;>omega
 refine⟨bB.here fun i hi=>?_,fun i hi=>(h.row _ (hs i hi)).upd (fun e=>?_) _,fun i j hi hj e=>?_⟩
 ·have:=h2 i hi;simp only[bK,dB];by_cases e1:i=k
  ·subst e1;simp
  ·by_cases e2:i=p
   ·subst e2;simp[e1]
   ·simp[e1,e2,this]
 ·exact bB.ne (bB.of hS) (h.row _ (hs i hi)) om e.symm
 ·have h3:=h.inj _ _ (hs i hi) (hs j hj) e;unfold dB at h3
  grind
theorem il{n k0:Nat}{A:aU}{σ:Nat->Nat}{neg:Bool}{k:Nat}(hn:n<=16)(hA:∀i j,i<n->j<n->nb (A i j) k0)(hE:mz A n σ neg k){i j:Nat}(hi:k+i<n)(hj:k+j<n):nb (cI (fun a b=>A (σ a) b) k i j) (17*(k0+10)):=by
 refine(pT (k+1) _ om (fun a b ha hb=>hA _ _ (hE.row _ ?_) ?_)).mono ?_
 ·rw[pl];split<;>omega
 ·rw[pl];split<;>omega
 ·have:(k+1)*(k0+10)<=16*(k0+10):=bT _ om;omega
def wN(A:aU)(n b b2 b5:Nat)(S:St)(k:Nat)(neg:Bool)(Q:(Nat->Nat)->(Nat->Nat->Int)->Prop):Prop:=∃(g σ:Nat->Nat) (B:Nat->Nat->Int),mz A n σ neg k/\cS S b g n n B/\(∀i,i<n->g i≠b2/\g i≠b5)/\dc S b2 50 2 (.big 0)/\dc S b5 50 2 (.big (det k (fun a c=>A (σ a) c)))/\Q σ B
def G6(A:aU)(n k:Nat)(σ:Nat->Nat)(B:Nat->Nat->Int):Prop:=∀i j,k<=i->i<n->k<=j->j<n->B i j=cI (fun a c=>A (σ a) c) k (i-k) (j-k)
def StgP(A:aU)(n k p:Nat)(σ:Nat->Nat)(B:Nat->Nat->Int):Prop:=G6 A n k σ B/\∀i,k<=i->i<p->B i k=0
def CO(A:aU)(n k i j:Nat)(σ:Nat->Nat)(B:Nat->Nat->Int):Prop:=cI (fun a c=>A (σ a) c) k 0 0≠0/\∀a c,k<=a->a<n->k<=c->c<n->B a c=if k<a/\k<c/\(a<i∨(a=i/\c<j))then cI (fun a c=>A (σ a) c) (k+1) (a-(k+1)) (c-(k+1))else cI (fun a c=>A (σ a) c) k (a-k) (c-k)
theorem iM(n:Nat)(A:aU)(k0:Nat)(h1:1<=n)(h2:n<=16)(hA:∀i j,i<n->j<n->nb (A i j) k0)(hk:k0<=10000000):PF 26 [aV n n A] (.big (det n A)):=by
 refine PF.of_spec (aA Tryz.func26 rfl 125 Tryz.ntmps26 (by kernel_rfl) (by simp) (by simp[Tryz.results26]) ?_)
 rw[aS,Tryz.results26];simp -dsimp only[go_sem];refine aG.intro fun b2 f2=>?_;simp -dsimp only[go_sem,aa,aq,ae,reduceCtorEq];refine(zM n n A k0 om h1 om hA om _ _ (cw _ _)).mono ?_;rintro r S1 ⟨b,g0,rfl,hM0⟩;simp -dsimp only[go_sem,aa,aq,ae,reduceCtorEq];refine(fA (by decide) (by decide)).call ?_
 simp -dsimp only[go_sem];refine aG.intro fun b5 f5=>?_;simp -dsimp only[go_sem,aa,↓reduceIte];have hb2:b2≠b:=fun e=>by have:=hM0.2.2.1;rw[<-e,bV]at this;cases this
 have hg2:∀i,i<n->g0 i≠b2:=fun i hi e=>by have:=hM0.2.2.2 i hi;rw[e,bV]at this;cases this
 have h25:b2≠b5:=fun e=>by have:=hM0.2.1 b2 _ bV;rw[e,f5]at this;cases this
 have hb5:b≠b5:=bB.fresh hM0.1.outer f5;have hg5:∀i,i<n->g0 i≠b5:=fun i hi=>bB.fresh (hM0.1.row i hi) f5;refine aI (fun O S=>∃(k:Nat) (neg:Bool),k<=n/\O 2=.ptr 2 b2 0/\O 3=.sl 1 b 0 n/\O 4=.int .i64 n/\O 5=.ptr 2 b5 0/\O 6=.bool neg/\O 7=.int .i64 k/\wN A n b b2 b5 S k neg (G6 A n k)) (fun O S=>n-bY (O 7)) ?_ ?_
 ·simp -dsimp only[go_sem,aa];refine⟨0,by omega,false,rfl,rfl,g0,id,A,mz.init A n,(hM0.1.upd hb5 hg5 _).upd hb5 hg5 _,fun i hi=>⟨hg2 i hi,hg5 i hi⟩,?_,dc.set,fun i j _ _ _ _=>by rw[io];rfl⟩
  exact(dc.upd ⟨_,hM0.2.1 b2 _ bV,rfl⟩ h25 _).upd h25 _
 ·rintro O S ⟨k,neg,hkn,e2,e3,e4,e5,e6,e7,hD⟩;by_cases hlt:k<n
  ·simp -dsimp only[go_sem,aa,ae,↓reduceIte,af,decide_true,ab,e2,e4,e5,e6,e7,hlt]
   repeat refine an ?_
   refine aI (fun O S=>∃p:Nat,k<=p/\p<=n/\O 2=.ptr 2 b2 0/\O 3=.sl 1 b 0 n/\O 4=.int .i64 n/\O 5=.ptr 2 b5 0/\O 6=.bool neg/\O 7=.int .i64 k/\O 8=.int .i64 p/\wN A n b b2 b5 S k neg (StgP A n k p)) (fun O S=>n-bY (O 8)) ?_ ?_
   ·simp -dsimp only[go_sem,aa,e2,e3,e4,e5,e6,e7]
    repeat refine an ?_
    obtain⟨g,σ,B,hE,hM,hG,V2,V5,hB⟩:=hD;exact⟨k,by omega,by omega,rfl,g,σ,B,hE,hM,hG,V2,V5,hB,fun i h1 h2=>by omega⟩
   ·clear hD;rintro O S ⟨p,hkp,hpn,e2,e3,e4,e5,e6,e7,e8,hD⟩;by_cases hp:p<n
    ·obtain⟨g,σ,B,hE,hM,hG,V2,V5,hB,hZ⟩:=hD;obtain⟨g1,u1,v1⟩:=hM.outer;obtain⟨g2,u2,v2⟩:=hM.row p hp;have v1':=v1 p hp;have v2':=v2 k hlt;have hbp:=il h2 hA hE (i:=p-k) (j:=0) om om;have hBpk:=hB p k hkp hp (ah _) hlt;rw[bP]at hBpk;rw[<-hBpk]at hbp;simp -dsimp only[go_sem,aa,ae,↓reduceIte,af,decide_true,ab,e3,e4,e7,e8,hp,hlt,u1,u2,v1',v2']
     repeat refine an ?_
     refine(gO hbp om).call ?_;by_cases h0:B p k=0
     ·simp -dsimp only[go_sem,aa,↓reduceIte,af,decide_true,ab,e2,e3,e4,e5,e6,e7,e8,hp,h0,mC,aW (show p<1000000 by omega),bY]
      repeat refine an ?_
      refine⟨⟨p+1,by omega,by omega,rfl,g,σ,B,hE,hM,hG,V2,V5,hB,fun i h1 h2=>?_⟩,by omega⟩
      by_cases e:i=p
      ·rw[e];exact h0
      ·exact hZ i h1 om
     ·have hs0:((B p k).sign==0)=false:=by
       simp only[beq_eq_false_iff_ne,ne_eq];rw[pn];exact h0
      have hpn':((p:Int)==n)=false:=by simp;omega
      simp -dsimp only[go_sem,aa,↓reduceIte,af,decide_true,ab,e2,e3,e4,e5,e6,e7,e8,hp,hs0,hpn']
      repeat refine an ?_
      by_cases hkp':k<p
      ·obtain⟨g3,u3,v3⟩:=hM.row k hlt;have v3':=v1 k hlt;have v1'':g1 p=.sl 2 (g p) 0 n:=v1';have v3'':g1 k=.sl 2 (g k) 0 n:=v3';simp -dsimp only[go_sem,decide_true,hkp']
       repeat refine an ?_
       refine gR 13 (by kernel_rfl) ?_
       simp -dsimp only[go_sem,aa,↓reduceIte,reduceCtorEq,af,ab,e3,e6,e7,e8,hp,hlt,u1,v1'',v3'',aW (show k<1000000 by omega)]
       repeat refine an ?_
       have hD':wN A n b b2 b5 ((S.upd b ⟨59,1,n,bK g1 p (.sl 2 (g k) 0 n)⟩).upd b ⟨59,1,n,bK (bK g1 p (.sl 2 (g k) 0 n)) k (.sl 2 (g p) 0 n)⟩) k (!neg) (CO A n k (k+1) (k+1)):=by
        rw[kt];have hs:∀i,i<n->dB k p i<n:=fun i hi=>by unfold dB;split<;>(try split)<;>omega
        refine⟨_,fun a=>σ (dB k p a),_,hE.swap hkp' hp,hM.swap hp hlt om u1,fun i hi=>hG _ (hs i hi),V2.upd hb2 _,?_,?_,fun a c ha1 ha2 hc1 hc2=>?_⟩
        ·have e:=t5 (n:=k) (fun a c=>A (σ a) c) (i:=k) (k:=p) om om;rw[e];exact V5.upd (ak hb5) _
        ·have e:=tb (k:=k) (p:=p) (fun a c=>A (σ a) c) hkp 0 0;rw[e,show dB 0 (p-k) 0=p-k by simp[dB],<-hBpk];exact h0
        ·rw[if_neg om];have e:=tb (k:=k) (p:=p) (fun a c=>A (σ a) c) hkp (a-k) (c-k);show B (dB k p a) c=_;rw[e,hB (dB k p a) c (by unfold dB;split<;>(try split)<;>omega) (hs a ha2) hc1 hc2]
         congr 1;unfold dB;split<;>(try split)<;>(try split)<;>(try split)<;>omega
       refine aI (fun O S=>∃i:Nat,k+1<=i/\i<=n/\O 2=.ptr 2 b2 0/\O 3=.sl 1 b 0 n/\O 4=.int .i64 n/\O 5=.ptr 2 b5 0/\O 6=.bool (!neg)/\O 7=.int .i64 k/\O 9=.int .i64 i/\wN A n b b2 b5 S k (!neg) (CO A n k i (k+1))) (fun O S=>n-bY (O 9)) ?_ ?_
       ·simp -dsimp only[go_sem,aa,e2,e3,e4,e5,e7];exact⟨k+1,by omega,by omega,rfl,hD'⟩
       ·clear hD' e2 e3 e4 e5 e6 e7 e8 u1 u2 v1 v2 v1' v2' hM V2 V5 hG hE;rintro O S ⟨i,hki,hin,e2,e3,e4,e5,e6,e7,e9,hD⟩;by_cases hi:i<n
        ·simp -dsimp only[go_sem,aa,↓reduceIte,af,decide_true,ab,e2,e3,e4,e5,e6,e7,e9,hi,hlt,aW (show k<1000000 by omega)]
         repeat refine an ?_
         refine aI (fun O S=>∃j:Nat,k+1<=j/\j<=n/\O 2=.ptr 2 b2 0/\O 3=.sl 1 b 0 n/\O 4=.int .i64 n/\O 5=.ptr 2 b5 0/\O 6=.bool (!neg)/\O 7=.int .i64 k/\O 9=.int .i64 i/\O 10=.int .i64 j/\wN A n b b2 b5 S k (!neg) (CO A n k i j)) (fun O S=>n-bY (O 10)) ?_ ?_
         ·simp -dsimp only[go_sem,aa,e2,e3,e4,e5,e6,e7,e9];exact⟨k+1,by omega,by omega,rfl,hD⟩
         ·clear hD;rintro O S ⟨j,hkj,hjn,e2,e3,e4,e5,e6,e7,e9,e10,hD⟩;by_cases hj:j<n
          ·obtain⟨g,σ,B,hE,hM,hG,V2,V5,h00,hB⟩:=hD;obtain⟨g1,u1,v1⟩:=hM.outer;obtain⟨g2,u2,v2⟩:=hM.row i hi;obtain⟨g3,u3,v3⟩:=hM.row k hlt;have w1:=v1 i hi;have w2:=v1 k hlt;have w3:=v2 j hj;have w4:=v2 k hlt;have w5:=v3 j hj;have w6:=v3 k hlt;obtain⟨gw,uw,vw⟩:=V5;have c1:=hB i j om hi om hj;have c2:=hB i k om hi (ah _) hlt;have c3:=hB k j (ah _) hlt om hj;have c4:=hB k k (ah _) hlt (ah _) hlt;rw[if_neg om]at c1 c2 c3 c4;rw[bP]at c2 c3 c4;have n1:=il h2 hA hE (i:=i-k) (j:=j-k) om om;have n2:=il h2 hA hE (i:=i-k) (j:=0) om om;have n3:=il h2 hA hE (i:=0) (j:=j-k) om om;have n4:=il h2 hA hE (i:=0) (j:=0) om om;rw[<-c1]at n1;rw[<-c2]at n2;rw[<-c3]at n3;rw[<-c4]at n4;have n5:nb (det k (fun a c=>A (σ a) c)) (17*(k0+10)):=(pT k _ om (fun a c ha hc=>hA _ _ (hE.row a om) om)).mono (by have:k*(k0+10)<=16*(k0+10):=bT _ om;omega)
           have hst:=iX hE.lead (i-k-1) (j-k-1);rw[show i-k-1+1=i-k by omega,show j-k-1+1=j-k by omega,<-c1,<-c2,<-c3,<-c4]at hst
           have hd0:=hE.lead k (ah _);have hq:(B k k*B i j-B i k*B k j)/det k (fun a c=>A (σ a) c)=cI (fun a c=>A (σ a) c) (k+1) (i-k-1) (j-k-1):=by
            rw[hst,c8 _ hd0]
           simp -dsimp only[go_sem,aa,↓reduceIte,af,decide_true,ab,e2,e3,e4,e5,e6,e7,e9,e10,hj]
           repeat refine an ?_
           refine bG 39 (by kernel_rfl) ?_
           simp -dsimp only[go_sem,aa,ae,↓reduceIte,reduceCtorEq,af,ab,e2,e3,e4,e5,e6,e7,e9,e10,hi,hj,hlt,u1,u2,u3,w1,w2,w3,w4,w5,w6,uw,vw]
           repeat refine an ?_
           refine⟨_,(gz n4 n1 om).pure',_,(gz n2 n3 om).pure',_,(pc (n4.mul n1) (n2.mul n3) om).pure',_,(ni (k:=17*(k0+10)+17*(k0+10)+1) ((n4.mul n1).sub (n2.mul n3)) (n5.mono om) om hd0).pure',?_⟩;simp -dsimp only[go_sem,aW (show j<1000000 by omega),bY]
           repeat refine an ?_
           rw[hq];refine⟨⟨j+1,by omega,by omega,rfl,g,σ,_,hE,hM.set hi u2,hG,dc.upd V2 (ak (hG i hi).1) _,dc.upd ⟨gw,uw,vw⟩ (ak (hG i hi).2) _,h00,fun a c ha1 ha2 hc1 hc2=>?_⟩,by omega⟩
           have h3:=hB a c ha1 ha2 hc1 hc2;simp only[d6];by_cases e1:a=i/\c=j
           ·obtain⟨rfl,rfl⟩:=e1;rw[if_pos ⟨rfl,rfl⟩,if_pos om,vQ,vQ]
           ·rw[if_neg e1,h3];by_cases e2:k<a/\k<c/\(a<i∨a=i/\c<j)
            ·rw[if_pos e2,if_pos om]
            ·rw[if_neg e2,if_neg om]
          ·obtain rfl:j=n:=by omega
           obtain⟨g,σ,B,hE,hM,hG,V2,V5,h00,hB⟩:=hD;simp -dsimp only[go_sem,aa,↓reduceIte,af,decide_false,ab,e2,e3,e4,e5,e6,e7,e9,e10,hj,aW (show i<1000000 by omega),bY]
           repeat refine an ?_
           refine⟨⟨i+1,by omega,by omega,rfl,g,σ,B,hE,hM,hG,V2,V5,h00,fun a c ha1 ha2 hc1 hc2=>?_⟩,by omega⟩
           rw[hB a c ha1 ha2 hc1 hc2];by_cases e2:k<a/\k<c/\(a<i∨a=i/\c<j)
           ·rw[if_pos e2,if_pos om]
           ·rw[if_neg e2,if_neg om]
        ·obtain rfl:i=n:=by omega
         obtain⟨g,σ,B,hE,hM,hG,V2,V5,h00,hB⟩:=hD;obtain⟨g1,u1,v1⟩:=hM.outer;obtain⟨g3,u3,v3⟩:=hM.row k hlt;have w2:=v1 k hlt;have w6:=v3 k hlt;obtain⟨gw,uw,vw⟩:=V5;have c4:=hB k k (ah _) hlt (ah _) hlt;rw[if_neg om,bP,cP]at c4;simp -dsimp only[go_sem,aa,ae,↓reduceIte,af,decide_false,ab,e2,e3,e4,e5,e6,e7,e9,hi,hlt,u1,u3,w2,w6,uw,aW (show k<1000000 by omega),bY]
         repeat refine an ?_
         refine⟨⟨k+1,by omega,(!neg),rfl,rfl,g,σ,B,hE.step h00,hM.upd hb5 (fun i hi=>(hG i hi).2) _,hG,V2.upd h25 _,?_,fun a c ha1 ha2 hc1 hc2=>?_⟩,by omega⟩
         ·rw[<-c4];exact dc.set
         ·rw[hB a c om ha2 om hc2,if_pos om]
      ·obtain rfl:k=p:=by omega
       simp -dsimp only[go_sem,decide_false,aW (show k<1000000 by omega),hkp']
       repeat refine an ?_
       have hD':wN A n b b2 b5 S k neg (CO A n k (k+1) (k+1)):=by
        refine⟨g,σ,B,hE,hM,hG,V2,V5,?_,fun a c ha1 ha2 hc1 hc2=>?_⟩
        ·rw[bP]at hBpk;rw[<-hBpk];exact h0
        ·rw[if_neg om];exact hB a c ha1 ha2 hc1 hc2
       refine aI (fun O S=>∃i:Nat,k+1<=i/\i<=n/\O 2=.ptr 2 b2 0/\O 3=.sl 1 b 0 n/\O 4=.int .i64 n/\O 5=.ptr 2 b5 0/\O 6=.bool neg/\O 7=.int .i64 k/\O 9=.int .i64 i/\wN A n b b2 b5 S k neg (CO A n k i (k+1))) (fun O S=>n-bY (O 9)) ?_ ?_
       ·simp -dsimp only[go_sem,aa,e2,e3,e4,e5,e6,e7];exact⟨k+1,by omega,by omega,rfl,hD'⟩
       ·clear hD' e2 e3 e4 e5 e6 e7 e8 u1 u2 v1 v2 v1' v2' hM V2 V5 hG hE;rintro O S ⟨i,hki,hin,e2,e3,e4,e5,e6,e7,e9,hD⟩;by_cases hi:i<n
        ·simp -dsimp only[go_sem,aa,↓reduceIte,af,decide_true,ab,e2,e3,e4,e5,e6,e7,e9,hi,hlt,aW (show k<1000000 by omega)]
         repeat refine an ?_
         refine aI (fun O S=>∃j:Nat,k+1<=j/\j<=n/\O 2=.ptr 2 b2 0/\O 3=.sl 1 b 0 n/\O 4=.int .i64 n/\O 5=.ptr 2 b5 0/\O 6=.bool neg/\O 7=.int .i64 k/\O 9=.int .i64 i/\O 10=.int .i64 j/\wN A n b b2 b5 S k neg (CO A n k i j)) (fun O S=>n-bY (O 10)) ?_ ?_
         ·simp -dsimp only[go_sem,aa,e2,e3,e4,e5,e6,e7,e9];exact⟨k+1,by omega,by omega,rfl,hD⟩
         ·clear hD;rintro O S ⟨j,hkj,hjn,e2,e3,e4,e5,e6,e7,e9,e10,hD⟩;by_cases hj:j<n
          ·obtain⟨g,σ,B,hE,hM,hG,V2,V5,h00,hB⟩:=hD;obtain⟨g1,u1,v1⟩:=hM.outer;obtain⟨g2,u2,v2⟩:=hM.row i hi;obtain⟨g3,u3,v3⟩:=hM.row k hlt;have w1:=v1 i hi;have w2:=v1 k hlt;have w3:=v2 j hj;have w4:=v2 k hlt;have w5:=v3 j hj;have w6:=v3 k hlt;obtain⟨gw,uw,vw⟩:=V5;have c1:=hB i j om hi om hj;have c2:=hB i k om hi (ah _) hlt;have c3:=hB k j (ah _) hlt om hj;have c4:=hB k k (ah _) hlt (ah _) hlt;rw[if_neg om]at c1 c2 c3 c4;rw[bP]at c2 c3 c4;have n1:=il h2 hA hE (i:=i-k) (j:=j-k) om om;have n2:=il h2 hA hE (i:=i-k) (j:=0) om om;have n3:=il h2 hA hE (i:=0) (j:=j-k) om om;have n4:=il h2 hA hE (i:=0) (j:=0) om om;rw[<-c1]at n1;rw[<-c2]at n2;rw[<-c3]at n3;rw[<-c4]at n4;have n5:nb (det k (fun a c=>A (σ a) c)) (17*(k0+10)):=(pT k _ om (fun a c ha hc=>hA _ _ (hE.row a om) om)).mono (by have:k*(k0+10)<=16*(k0+10):=bT _ om;omega)
           have hst:=iX hE.lead (i-k-1) (j-k-1);rw[show i-k-1+1=i-k by omega,show j-k-1+1=j-k by omega,<-c1,<-c2,<-c3,<-c4]at hst
           have hd0:=hE.lead k (ah _);have hq:(B k k*B i j-B i k*B k j)/det k (fun a c=>A (σ a) c)=cI (fun a c=>A (σ a) c) (k+1) (i-k-1) (j-k-1):=by
            rw[hst,c8 _ hd0]
           simp -dsimp only[go_sem,aa,↓reduceIte,af,decide_true,ab,e2,e3,e4,e5,e6,e7,e9,e10,hj]
           repeat refine an ?_
           refine bG 39 (by kernel_rfl) ?_
           simp -dsimp only[go_sem,aa,ae,↓reduceIte,reduceCtorEq,af,ab,e2,e3,e4,e5,e6,e7,e9,e10,hi,hj,hlt,u1,u2,u3,w1,w2,w3,w4,w5,w6,uw,vw]
           repeat refine an ?_
           refine⟨_,(gz n4 n1 om).pure',_,(gz n2 n3 om).pure',_,(pc (n4.mul n1) (n2.mul n3) om).pure',_,(ni (k:=17*(k0+10)+17*(k0+10)+1) ((n4.mul n1).sub (n2.mul n3)) (n5.mono om) om hd0).pure',?_⟩;simp -dsimp only[go_sem,aW (show j<1000000 by omega),bY]
           repeat refine an ?_
           rw[hq];refine⟨⟨j+1,by omega,by omega,rfl,g,σ,_,hE,hM.set hi u2,hG,dc.upd V2 (ak (hG i hi).1) _,dc.upd ⟨gw,uw,vw⟩ (ak (hG i hi).2) _,h00,fun a c ha1 ha2 hc1 hc2=>?_⟩,by omega⟩
           have h3:=hB a c ha1 ha2 hc1 hc2;simp only[d6];by_cases e1:a=i/\c=j
           ·obtain⟨rfl,rfl⟩:=e1;rw[if_pos ⟨rfl,rfl⟩,if_pos om,vQ,vQ]
           ·rw[if_neg e1,h3];by_cases e2:k<a/\k<c/\(a<i∨a=i/\c<j)
            ·rw[if_pos e2,if_pos om]
            ·rw[if_neg e2,if_neg om]
          ·obtain rfl:j=n:=by omega
           obtain⟨g,σ,B,hE,hM,hG,V2,V5,h00,hB⟩:=hD;simp -dsimp only[go_sem,aa,↓reduceIte,af,decide_false,ab,e2,e3,e4,e5,e6,e7,e9,e10,hj,aW (show i<1000000 by omega),bY]
           repeat refine an ?_
           refine⟨⟨i+1,by omega,by omega,rfl,g,σ,B,hE,hM,hG,V2,V5,h00,fun a c ha1 ha2 hc1 hc2=>?_⟩,by omega⟩
           rw[hB a c ha1 ha2 hc1 hc2];by_cases e2:k<a/\k<c/\(a<i∨a=i/\c<j)
           ·rw[if_pos e2,if_pos om]
           ·rw[if_neg e2,if_neg om]
        ·obtain rfl:i=n:=by omega
         obtain⟨g,σ,B,hE,hM,hG,V2,V5,h00,hB⟩:=hD;obtain⟨g1,u1,v1⟩:=hM.outer;obtain⟨g3,u3,v3⟩:=hM.row k hlt;have w2:=v1 k hlt;have w6:=v3 k hlt;obtain⟨gw,uw,vw⟩:=V5;have c4:=hB k k (ah _) hlt (ah _) hlt;rw[if_neg om,bP,cP]at c4;simp -dsimp only[go_sem,aa,ae,↓reduceIte,af,decide_false,ab,e2,e3,e4,e5,e6,e7,e9,hi,hlt,u1,u3,w2,w6,uw,aW (show k<1000000 by omega),bY]
         repeat refine an ?_
         refine⟨⟨k+1,by omega,neg,rfl,rfl,g,σ,B,hE.step h00,hM.upd hb5 (fun i hi=>(hG i hi).2) _,hG,V2.upd h25 _,?_,fun a c ha1 ha2 hc1 hc2=>?_⟩,by omega⟩
         ·rw[<-c4];exact dc.set
         ·rw[hB a c om ha2 om hc2,if_pos om]
    ·obtain rfl:p=n:=by omega
     have hpn':((p:Int)==p)=true:=by simp
     obtain⟨g,σ,B,hE,hM,hG,V2,V5,hB,hZ⟩:=hD;obtain⟨gv,uv,vv⟩:=V2;simp -dsimp only[go_sem,aa,ae,↓reduceIte,af,decide_false,ab,e2,e3,e4,e5,e6,e7,e8,hp,hpn',uv]
     repeat refine an ?_
     have hz:det p A=0:=hE.zero hlt (fun i hi=>by
      have h3:=hB (k+i) k om om (ah _) hlt;rw[hZ (k+i) om om,bP,show k+i-k=i by omega]at h3
      exact h3.symm)
     rw[hz];exact VR.mf rfl
  ·obtain rfl:k=n:=by omega
   obtain⟨g,σ,B,hE,hM,hG,V2,V5,hB⟩:=hD;obtain⟨gv,uv,vv⟩:=V2;obtain⟨gw,uw,vw⟩:=V5;have hs:=hE.sign;have hbd:nb (det k (fun a c=>A (σ a) c)) (17*(k0+10)):=(pT k _ h2 (fun a c ha hc=>hA _ _ (hE.row a ha) hc)).mono (by have:k*(k0+10)<=16*(k0+10):=bT _ h2;omega)
   cases neg
   ·simp only[Bool.false_eq_true,if_false]at hs;simp -dsimp only[go_sem,aa,ae,↓reduceIte,af,decide_false,ab,e2,e4,e5,e6,e7,hlt,uv,uw,vw,bK]
    repeat refine an ?_
    rw[<-hs];exact VR.mf rfl
   ·simp only[if_true]at hs;simp -dsimp only[go_sem,aa,ae,↓reduceIte,af,decide_false,ab,e2,e4,e5,e6,e7,hlt,uv,uw,vw]
    repeat refine an ?_
    refine(Dh hbd om).call ?_;simp -dsimp only[go_sem,aa,ae,↓reduceIte,ab,e2,uv,vw,bK]
    repeat refine an ?_
    rw[hs,Int.neg_neg];exact VR.mf rfl
theorem cJ.vr{e es:Nat}{S0 S:St}{x:AV}{j:Nat}{g g':Nat->AV}(h:cJ e es S0 S x j g)(hv:∀i,i<j->VR S (g i) (g' i)):VR S x (.lst es j g'):=by
 rcases h.2 with⟨rfl,rfl⟩|⟨c,_,rfl,h2⟩
 ·exact VR.nil
 ·exact VR.sl h2 om (fun i hi=>by rw[Nat.zero_add];exact hv i hi)
def fst(k m i:Nat):Nat:=if i<k then i else m
theorem AN(k m:Nat)(hk:k<=1000)(hm:m<=1000):PF 173 [.int .i64 k,.int .i64 m] (bJ (k+1) (fun i=>(fst k m i:Nat))):=by
 refine PF.of_spec (aA Tryz.func173 rfl 20 Tryz.ntmps173 (by kernel_rfl) (by simp) (by simp[Tryz.results173]) ?_)
 rw[aS,Tryz.results173];simp -dsimp only[go_sem,aj]
 repeat refine an ?_
 refine aI (fun O S=>∃(i:Nat) (x:AV),i<=k/\O 0=.int .i64 k/\O 1=.int .i64 m/\O 5=x/\O 6=.int .i64 i/\cJ 3 1 St.none S x i (fun a=>.int .i64 a)) (fun O S=>k-bY (O 6)) ?_ ?_
 ·simp -dsimp only[go_sem,aa,reduceCtorEq];exact⟨0,by omega,rfl,cJ.nil (eZ.noneS _) _⟩
 ·rintro O S ⟨i,x,hi,e0,e1,e5,e6,hX⟩;by_cases hlt:i<k
  ·simp -dsimp only[go_sem,aa,↓reduceIte,reduceCtorEq,af,decide_true,e0,e1,e5,e6,hlt]
   repeat refine an ?_
   refine aG.intro fun b14 f14=>?_;simp -dsimp only[go_sem,aa,↓reduceIte,e5,e6]
   repeat refine an ?_
   have hxb:=hX.fresh f14;refine cJ.app3 (hX.upd (by rfl) hxb _) om (show du 1 (.int .i64 (i:Int)) by simp[du]) (bD ⟨_,_,_,rfl,bV,rfl,fun h=>hxb _ h rfl⟩) ?_
   intro c S2 hX' hk1 hk3;simp -dsimp only[go_sem,aa,reduceCtorEq,e0,e1,e5,e6,aW (show i<1000000 by omega),bY]
   repeat refine an ?_
   exact⟨⟨i+1,by omega,rfl,hX'.congr fun a ha=>by grind⟩,by omega⟩
  ·obtain rfl:i=k:=by omega
   simp -dsimp only[go_sem,aa,↓reduceIte,reduceCtorEq,af,decide_false,e0,e1,e5,e6,hlt]
   repeat refine an ?_
   refine aG.intro fun b18 f18=>?_;simp -dsimp only[go_sem,aa,↓reduceIte,e1,e5]
   repeat refine an ?_
   have hxb:=hX.fresh f18;refine cJ.app3 (hX.upd (by rfl) hxb _) om (show du 1 (.int .i64 (m:Int)) by simp[du]) (bD ⟨_,_,_,rfl,bV,rfl,fun h=>hxb _ h rfl⟩) ?_
   intro c S2 hX' hk1 hk3;simp -dsimp only[go_sem,aa,e1,e5]
   repeat refine an ?_
   refine hX'.vr (fun a ha=>?_);have:(if a=i then AV.int .i64 (m:Int)else .int .i64 (a:Int))=.int .i64 ((fst i m a:Nat):Int):=by
    unfold fst;by_cases e:a=i
    ·subst e;simp
    ·rw[if_neg e,if_pos om]
   rw[this];exact VR.mf rfl
theorem DK(A:aU)(k i j:Nat):det (k+1) (fun a b=>A (fst k (k+i) a) (fst k (k+j) b))=cI A k i j:=by
 unfold cI;exact bS fun a b _ _=>rfl
theorem uL(n:Nat)(A:aU)(k0:Nat)(h1:1<=n)(h2:n<=16)(hA:∀i j,i<n->j<n->nb (A i j) k0)(hk:k0<=10000000):PF 118 [aV n n A] (.tup [bn n (fun k=>det (k+1) A),.bool true]):=by
 refine PF.of_spec (aA Tryz.func118 rfl 33 Tryz.ntmps118 (by kernel_rfl) (by simp) (by simp[Tryz.results118]) ?_)
 rw[aS,Tryz.results118];simp -dsimp only[go_sem,aa,ae,reduceCtorEq,ab]
 repeat refine an ?_
 refine(xl n A h1 h2).call ?_;simp -dsimp only[go_sem,aa,reduceCtorEq]
 repeat refine an ?_
 refine aI (fun O S=>∃(i:Nat) (x:AV),i<=n/\O 0=aV n n A/\O 4=.int .i64 n/\O 6=x/\O 7=.int .i64 i/\cJ 50 2 St.none S x i (fun a=>.big (det (a+1) A))) (fun O S=>n-bY (O 7)) ?_ ?_
 ·simp -dsimp only[go_sem,aa,reduceCtorEq];exact⟨0,by omega,rfl,cJ.nil (eZ.noneS _) _⟩
 ·rintro O S ⟨i,x,hi,e0,e4,e6,e7,hX⟩;by_cases hlt:i<n
  ·have hF:∀a,a<i+1->fst i i a<n:=fun a ha=>by unfold fst;split<;>omega
   simp -dsimp only[go_sem,aa,ae,↓reduceIte,reduceCtorEq,af,decide_true,ab,e0,e4,e6,e7,hlt]
   repeat refine an ?_
   refine(AN i i om om).call ?_;simp -dsimp only[go_sem,aa,ae,reduceCtorEq,ab,e0,e6,e7]
   repeat refine an ?_
   refine(AN i i om om).call ?_;simp -dsimp only[go_sem,aa,ae,reduceCtorEq,ab,e0,e6,e7]
   repeat refine an ?_
   refine(xY n n (i+1) (i+1) A (fst i i) (fst i i) om om om om hF hF).pf.call ?_;simp -dsimp only[go_sem,aa,ae,reduceCtorEq,ab,e0,e6,e7]
   repeat refine an ?_
   refine(iM (i+1) _ k0 om om (fun a b ha hb=>hA _ _ (hF a ha) (hF b hb)) hk).call ?_;simp -dsimp only[go_sem,aa,reduceCtorEq,e0,e6,e7]
   repeat refine an ?_
   refine aG.intro fun b30 f30=>?_;simp -dsimp only[go_sem,aa,↓reduceIte,reduceCtorEq,e0,e6,e7]
   repeat refine an ?_
   have hxb:=hX.fresh f30;have hd:det (i+1) (fun a b=>A (fst i i a) (fst i i b))=det (i+1) A:=by
    have:=DK A i 0 0;rw[Nat.add_zero,cP]at this;exact this
   refine cJ.app50 (hX.upd (by rfl) hxb _) om (show du 2 (.big (det (i+1) A))from trivial) (bD ⟨_,_,_,rfl,bV,by rw[hd];rfl,fun h=>hxb _ h rfl⟩) ?_
   intro c S2 hX' hk1 hk3;simp -dsimp only[go_sem,aa,reduceCtorEq,e0,e4,e6,e7,aW (show i<1000000 by omega),bY]
   repeat refine an ?_
   exact⟨⟨i+1,by omega,rfl,hX'.congr fun a ha=>by grind⟩,by omega⟩
  ·obtain rfl:i=n:=by omega
   simp -dsimp only[go_sem,aa,ae,↓reduceIte,reduceCtorEq,af,decide_false,ab,e0,e4,e6,e7,hlt]
   repeat refine an ?_
   exact VR.tup2 (hX.vr fun a _=>VR.mf rfl) (VR.mf rfl)
theorem EE(a:Int):lJ a a=0:=by unfold lJ;simp
theorem qi(n:Nat)(A:aU)(k0:Nat)(h2:n<=16)(hA:∀i j,i<n->j<n->nb (A i j) k0)(hk:k0<=10000000)(hs:∀a b,a<n->b<n->A a b=A b a):PF 116 [aV n n A] (.bool true):=by
 refine PF.of_spec (aA Tryz.func116 rfl 32 Tryz.ntmps116 (by kernel_rfl) (by simp) (by simp[Tryz.results116]) ?_)
 rw[aS,Tryz.results116];simp -dsimp only[go_sem,reduceCtorEq,aV,bn]
 repeat refine an ?_
 refine aI (fun O S=>∃i:Nat,i<=n/\O 0=aV n n A/\O 6=.int .i64 n/\O 7=.int .i64 i) (fun O S=>n-bY (O 7)) ?_ ?_
 ·simp -dsimp only[go_sem,aa,reduceCtorEq,aV,bn];exact⟨0,by omega,rfl⟩
 ·rintro O S ⟨i,hi,e0,e6,e7⟩;by_cases hlt:i<n
  ·simp -dsimp only[go_sem,aa,↓reduceIte,af,decide_true,aV,bn,e6,e7,hlt]
   repeat refine an ?_
   refine aI (fun O S=>∃j:Nat,j<=i/\O 0=aV n n A/\O 3=.int .i64 i/\O 4=.int .i64 j/\O 6=.int .i64 n/\O 7=.int .i64 i) (fun O S=>i-bY (O 4)) ?_ ?_
   ·simp -dsimp only[go_sem,aa,reduceCtorEq,aV,bn,e0,e6,e7];exact⟨0,by omega,rfl⟩
   ·rintro O S ⟨j,hj,e0,e3,e4,e6,e7⟩;by_cases hji:j<i
    ·have hjn:j<n:=by omega
     simp -dsimp only[go_sem,aa,↓reduceIte,reduceCtorEq,af,decide_true,aV,bn,e0,e3,e4,e6,e7,hji]
     repeat refine an ?_
     refine bG 16 (by kernel_rfl) ?_
     simp -dsimp only[go_sem,aa,ae,↓reduceIte,reduceCtorEq,af,ab,aV,bn,e0,e3,e4,e6,e7,hlt,hjn]
     repeat refine an ?_
     have h0:lJ (A i j) (A j i)=0:=by rw[hs i j hlt hjn];exact EE _
     refine⟨_,(qm (hA i j hlt hjn) (hA j i hjn hlt) om).pure',?_⟩;rw[h0];simp -dsimp only[go_sem,aW (show j<1000000 by omega),bY]
     repeat refine an ?_
     exact⟨⟨j+1,by omega,rfl⟩,by omega⟩
    ·simp -dsimp only[go_sem,aa,↓reduceIte,reduceCtorEq,af,decide_false,aV,bn,e0,e3,e4,e6,e7,hji,aW (show i<1000000 by omega),bY]
     repeat refine an ?_
     exact⟨⟨i+1,by omega,rfl⟩,by omega⟩
  ·simp -dsimp only[go_sem,aa,↓reduceIte,af,decide_false,aV,bn,e6,e7,hlt]
   repeat refine an ?_
   exact VR.mf rfl
theorem VR.agg{S:St}{l:List AV}(h:∀x∈l,nY x=true):VR S (.agg l) (.agg l):=by
 intro w v hs hr;simp only[a8]at hr ⊢;obtain⟨vs,h1,h2⟩:=hr;exact⟨vs,h1,yM l vs h h2⟩
def rN(a b:Int):Int:=a/(kP a b:Int)
def rD(a b:Int):Int:=b/(kP a b:Int)
theorem qB{a b:Int}(h:0<b):0<(kP a b:Int):=by
 have:=Int.gcd_pos_of_ne_zero_right a (show b≠0 by omega);omega
theorem F1{a b:Int}:(kP a b:Int)*rN a b=a:=Int.mul_ediv_cancel' (Int.gcd_dvd_left ..)
theorem B4{a b:Int}:(kP a b:Int)*rD a b=b:=Int.mul_ediv_cancel' (Int.gcd_dvd_right ..)
theorem nj{a b:Int}(h:0<b):0<rD a b:=by
 have h1:=B4 (a:=a) (b:=b);exact uk (qB (a:=a) h) (by rw[h1];exact h)
theorem Di{a b:Int}:rN a b*b=a*rD a b:=by
 have h1:=F1 (a:=a) (b:=b);have h2:=B4 (a:=a) (b:=b);have h3:(kP a b:Int)*(rN a b*rD a b)=a*rD a b:=by rw[<-gL,h1]
 have h4:(kP a b:Int)*(rN a b*rD a b)=rN a b*b:=by rw[Int.mul_left_comm,h2]
 rw[<-h3,h4]
theorem px{g x y:Int}(h:g*x=y)(hg:0<g):x.natAbs<=y.natAbs:=by
 rw[<-h,Int.natAbs_mul];exact Nat.le_mul_of_pos_left _ om
theorem ug{a b:Int}{k:Nat}(h:0<b)(ha:nb a k):nb (rN a b) k:=nb.of_le (px F1 (qB h)) ha
theorem uh{a b:Int}{k:Nat}(h:0<b)(hb:nb b k):nb (rD a b) k:=nb.of_le (px B4 (qB h)) hb
theorem l6{a b c d:Int}(hb:0<b)(hd:0<d)(h:a*d=c*b):a/b=c/d:=by
 rw[<-Int.mul_ediv_mul_of_pos_left a b hd,h,Int.mul_comm b d,Int.mul_ediv_mul_of_pos_left c d hb]
theorem xr{a:Int}(h:0<a):a.sign=1:=Int.sign_eq_one_of_pos h
theorem G9{a b:Int}{k:Nat}(ha:nb a k)(hb:nb b k)(hk:k<=500000000)(h0:0<b):PF 254 [.big a,.big b] (.tup [.agg [.big (rN a b),.big (rD a b)],.bool true]):=by
 refine PF.of_spec (aA Tryz.func254 rfl 28 Tryz.ntmps254 (by kernel_rfl) (by simp) (by simp[Tryz.results254]) ?_)
 rw[aS,Tryz.results254];have hg0:=qB (a:=a) h0;have hg:nb (kP a b:Int) k:=nb.of_le (by have:=Int.gcd_le_natAbs_right a (show b≠0 by omega);simp;exact this) hb
 try simp -dsimp only[go_sem,aj,aa,reduceCtorEq]
 refine aG.intro fun b2 f2=>?_
 try simp -dsimp only[go_sem,aj,aa,aq,ae,↓reduceIte,reduceCtorEq,af,decide_true,decide_false,ay]
 refine aG.intro fun b3 f3=>?_;have n3_2:=(ai f3).1
 try simp -dsimp only[go_sem,aj,aa,aq,ae,↓reduceIte,reduceCtorEq,af,decide_true,decide_false,ay]
 refine aG.intro fun b4 f4=>?_;have n4_3:=(ai f4).1;have n4_2:=(ai (ai f4).2).1;simp -dsimp only[go_sem,aa,ae,↓reduceIte,ab,ak n4_3]
 repeat refine an ?_
 refine(gO hb om).call ?_;rw[xr h0];simp -dsimp only[go_sem,aa,ae,↓reduceIte,ab,ak n4_3,show((1:Int)==0)=false from rfl]
 repeat refine an ?_
 refine(gO hb om).call ?_;rw[xr h0];simp -dsimp only[go_sem,aa,ae,↓reduceIte,decide_false,ab,ak n3_2,ak n4_2,ak n4_3,show ¬((1:Int)<0) by decide]
 repeat refine an ?_
 refine(It ha hb om).call ?_;simp -dsimp only[go_sem]
 repeat refine an ?_
 refine aG.intro fun b6 f6=>?_;have n6_4:=(ai f6).1;have n6_3:=(ai (ai f6).2).1;have n6_2:=(ai (ai (ai f6).2).2).1;simp -dsimp only[go_sem,aa,ae,↓reduceIte,ab]
 repeat refine an ?_
 refine bG 7 (by kernel_rfl) ?_
 simp -dsimp only[go_sem,aj,aa,ae,↓reduceIte,ab,ak n3_2,ak n4_2,ak n4_3,ak n6_2,ak n6_3,ak n6_4,bK]
 repeat refine an ?_
 refine⟨_,(ni ha hg om om).pure',_,(ni hb hg om om).pure',?_⟩;simp -dsimp only[go_sem,aj,aq,ae,↓reduceIte,gI,dj,bC,aZ,false_implies,implies_true,bE,bv,eD,bP]
 repeat refine an ?_
 exact VR.tup2 (VR.agg (by simp[nY])) (VR.mf rfl)
theorem lk{a b:Int}{k:Nat}(ha:nb a k)(hb:nb b k)(hk:k<=500000000)(h0:0<b):PF 220 [.agg [.big a,.big b]] (.agg [.big (rN a b),.big (rD a b)]):=by
 refine PF.of_spec (aA Tryz.func220 rfl 17 Tryz.ntmps220 (by kernel_rfl) (by simp) (by simp[Tryz.results220]) ?_)
 rw[aS,Tryz.results220];simp -dsimp only[go_sem,aj,bC,aZ,false_implies,implies_true]
 repeat refine an ?_
 refine aG.intro fun b1 f1=>?_
 try simp -dsimp only[go_sem,aj,aa,aq,ae,↓reduceIte,reduceCtorEq,af,decide_true,decide_false,ay]
 refine aG.intro fun b2 f2=>?_;have n2_1:=(ai f2).1;simp -dsimp only[go_sem,aj,aa,ae,↓reduceIte,ab,ak n2_1,bE,bv]
 repeat refine an ?_
 refine(G9 ha hb hk h0).call ?_;simp -dsimp only[go_sem,aa,↓reduceIte,bE,bv]
 repeat refine an ?_
 refine aG.intro fun b3 f3=>?_;have n3_2:=(ai f3).1;have n3_1:=(ai (ai f3).2).1;simp -dsimp only[go_sem,aj,aa,aq,ae,↓reduceIte,ab,ak n3_2,gI,dj,bC,aZ,false_implies,implies_true,bE,bv,eD,bP]
 repeat refine an ?_
 exact VR.agg (by simp[nY])
theorem JH:PF 219 [] (.agg [.big 1,.big 2]):=by
 refine PF.of_spec (aA Tryz.func219 rfl 4 Tryz.ntmps219 (by kernel_rfl) (by simp) (by simp[Tryz.results219]) ?_)
 rw[aS,Tryz.results219]
 try simp -dsimp only[go_sem]
 refine aG.intro fun b0 f0=>?_;simp -dsimp only[go_sem,aa,ae,ab]
 repeat refine an ?_
 refine(fA (by decide) (by decide)).call ?_
 simp -dsimp only[go_sem,aa,ae,ab]
 repeat refine an ?_
 refine(fA (by decide) (by decide)).call ?_
 simp -dsimp only[go_sem,aj,aa,aq,ae,↓reduceIte,reduceCtorEq,ab,gI,dj,bC,aZ,false_implies,implies_true,bE,bv,eD,bP]
 repeat refine an ?_
 exact VR.agg (by simp[nY])
theorem He{a b:Int}{k:Nat}(ha:nb a k)(hb:nb b k)(hk:k<=500000000)(h0:0<b):PF 217 [.agg [.big a,.big b]] (.big (a/b)):=by
 refine PF.of_spec (aA Tryz.func217 rfl 11 Tryz.ntmps217 (by kernel_rfl) (by simp) (by simp[Tryz.results217]) ?_)
 rw[aS,Tryz.results217];simp -dsimp only[go_sem,aj,bC,aZ,false_implies,implies_true]
 repeat refine an ?_
 refine aG.intro fun b1 f1=>?_
 try simp -dsimp only[go_sem,aj,aa,aq,ae,↓reduceIte,reduceCtorEq,af,decide_true,decide_false,ay]
 refine aG.intro fun b2 f2=>?_;have n2_1:=(ai f2).1;simp -dsimp only[go_sem,aa,ae,↓reduceIte,ab,ak n2_1,dj,bE,bv]
 repeat refine an ?_
 refine(lk ha hb hk h0).call ?_;simp -dsimp only[go_sem]
 repeat refine an ?_
 refine aG.intro fun b3 f3=>?_;have n3_2:=(ai f3).1;have n3_1:=(ai (ai f3).2).1;simp -dsimp only[go_sem,aj,aa,aq,ae,↓reduceIte,ab,gI,dj,bC,aZ,false_implies,implies_true,bE,bv,eD,bP]
 repeat refine an ?_
 have hd:=nj (a:=a) h0;refine(ni (ug h0 ha) (uh h0 hb) om om).call ?_;simp -dsimp only[go_sem,aj,aa,aq,ae,↓reduceIte,ab,ak n3_2,bK,gI,bE,bv,eD,bP]
 repeat refine an ?_
 rw[l6 hd h0 Di];exact VR.mf rfl
theorem Bs{a b:Int}{k:Nat}(ha:nb a k)(hb:nb b k)(hk:k<=500000000)(h0:0<b):PF 170 [.big a,.big b] (.agg [.big (rN a b),.big (rD a b)]):=by
 refine PF.of_spec (aA Tryz.func170 rfl 9 Tryz.ntmps170 (by kernel_rfl) (by simp) (by simp[Tryz.results170]) ?_)
 rw[aS,Tryz.results170]
 try simp -dsimp only[go_sem,aj,aa,reduceCtorEq]
 refine aG.intro fun b2 f2=>?_
 try simp -dsimp only[go_sem,aj,aa,aq,ae,↓reduceIte,reduceCtorEq,af,decide_true,decide_false,ay]
 refine aG.intro fun b3 f3=>?_;have n3_2:=(ai f3).1
 try simp -dsimp only[go_sem,aj,aa,aq,ae,↓reduceIte,reduceCtorEq,af,decide_true,decide_false,ay]
 refine aG.intro fun b4 f4=>?_;have n4_3:=(ai f4).1;have n4_2:=(ai (ai f4).2).1;simp -dsimp only[go_sem,aa,ae,↓reduceIte,ab,ak n3_2,ak n4_2,ak n4_3]
 repeat refine an ?_
 refine(lk ha hb hk h0).call ?_;simp -dsimp only[go_sem,aj,aa,aq,ae,↓reduceIte,ab,gI,dj,bC,aZ,false_implies,implies_true,bE,bv,eD,bP]
 repeat refine an ?_
 exact VR.agg (by simp[nY])
theorem LE{a b c d:Int}{k:Nat}(ha:nb a k)(hb:nb b k)(hc:nb c k)(hd:nb d k)(hk:k<=100000000)(h0:0<b)(h1:0<d) :
  PF 218 [.agg [.big a,.big b],.agg [.big c,.big d]] (.agg [.big (rN (rN a b*rD c d+rN c d*rD a b) (rD a b*rD c d)),.big (rD (rN a b*rD c d+rN c d*rD a b) (rD a b*rD c d))]):=by
 refine PF.of_spec (aA Tryz.func218 rfl 34 Tryz.ntmps218 (by kernel_rfl) (by simp) (by simp[Tryz.results218]) ?_)
 rw[aS,Tryz.results218];have p1:=nj (a:=a) h0;have p2:=nj (a:=c) h1;have n1:=ug h0 ha;have n2:=uh (a:=a) h0 hb;have n3:=ug h1 hc;have n4:=uh (a:=c) h1 hd;simp -dsimp only[go_sem,aj,aa,reduceCtorEq,bC,aZ,false_implies,implies_true]
 repeat refine an ?_
 refine aG.intro fun b2 f2=>?_
 try simp -dsimp only[go_sem,aj,aa,aq,ae,↓reduceIte,reduceCtorEq,af,decide_true,decide_false,ay]
 refine aG.intro fun b3 f3=>?_;have n3_2:=(ai f3).1
 try simp -dsimp only[go_sem,aj,aa,aq,ae,↓reduceIte,reduceCtorEq,af,decide_true,decide_false,ay]
 refine aG.intro fun b4 f4=>?_;have n4_3:=(ai f4).1;have n4_2:=(ai (ai f4).2).1;simp -dsimp only[go_sem]
 repeat refine an ?_
 refine bG 6 (by kernel_rfl) ?_
 simp -dsimp only[go_sem,aa,ae,↓reduceIte,ab,ak n3_2,ak n4_2,ak n4_3,dj,bE,bv]
 repeat refine an ?_
 refine⟨_,(lk ha hb om h0).pure',_,(lk hc hd om h1).pure',?_⟩;refine aG.intro fun b5 f5=>?_;have n5_4:=(ai f5).1;have n5_3:=(ai (ai f5).2).1;have n5_2:=(ai (ai (ai f5).2).2).1
 try simp -dsimp only[go_sem]
 refine aG.intro fun b6 f6=>?_;have n6_5:=(ai f6).1;have n6_4:=(ai (ai f6).2).1;have n6_3:=(ai (ai (ai f6).2).2).1;have n6_2:=(ai (ai (ai (ai f6).2).2).2).1;simp -dsimp only[go_sem,aj,aa,ae,↓reduceIte,nn n6_5,bC,aZ,false_implies,implies_true]
 repeat refine an ?_
 refine mT 21 [[19]] (by kernel_rfl) ?_
 simp -dsimp only[go_sem,aj,aa,aq,ae,↓reduceIte,ab,ak n6_5,gI,dj,bC,aZ,false_implies,implies_true,bE,bv,eD,bP]
 repeat refine an ?_
 refine⟨_,(gz n1 n4 om).pure',_,(gz n3 n2 om).pure',_,(qn (n1.mul n4) (n3.mul n2) om).pure',_,(gz n2 n4 om).pure',_,(G9 (k:=k+k+1) ((n1.mul n4).add (n3.mul n2)) ((n2.mul n4).mono om) om (mX p1 p2)).pure',?_⟩;simp -dsimp only[go_sem]
 repeat refine an ?_
 refine aG.intro fun b7 f7=>?_;have n7_6:=(ai f7).1;have n7_5:=(ai (ai f7).2).1;have n7_4:=(ai (ai (ai f7).2).2).1;have n7_3:=(ai (ai (ai (ai f7).2).2).2).1;have n7_2:=(ai (ai (ai (ai (ai f7).2).2).2).2).1;simp -dsimp only[go_sem,aj,aa,aq,ae,↓reduceIte,ak n5_4,ak n6_4,ak n7_2,gI,bC,aZ,false_implies,implies_true,bE,bv,eD,bP]
 repeat refine an ?_
 exact VR.agg (by simp[nY])
theorem IC{a b:Int}(h0:0<b):(rN a b*rD 1 2+rN 1 2*rD a b)/(rD a b*rD 1 2)=(2*a+b)/(2*b):=by
 have e1:rN 1 2=1:=by decide
 have e2:rD 1 2=2:=by decide
 have hp:=nj (a:=a) h0;have hr:=Di (a:=a) (b:=b);rw[e1,e2];refine l6 om om ?_
 grind
theorem CR{a b:Int}{k:Nat}(ha:nb a k)(hb:nb b k)(hk:k<=10000000)(hk2:4<=k)(h0:0<b):PF 169 [.agg [.big a,.big b]] (.big ((2*a+b)/(2*b))):=by
 refine PF.of_spec (aA Tryz.func169 rfl 7 Tryz.ntmps169 (by kernel_rfl) (by simp) (by simp[Tryz.results169]) ?_)
 rw[aS,Tryz.results169];have m1:nb 1 k:=nb.one om;have m2:nb 2 k:=Nat.lt_of_lt_of_le (by decide:2<2^2) (Nat.pow_le_pow_right om om)
 have p1:=nj (a:=a) h0;have p2:0<rD 1 2:=by decide
 have n1:=ug h0 ha;have n2:=uh (a:=a) h0 hb;have n3:nb (rN 1 2) k:=ug (by decide) m1
 have n4:nb (rD 1 2) k:=uh (by decide) m2
 have q1:=((n1.mul n4).add (n3.mul n2));have q2:=((n2.mul n4).mono (show k+k<=k+k+1 by omega))
 have hpos:=mX p1 p2;simp -dsimp only[go_sem,aj,bC,aZ,false_implies,implies_true]
 repeat refine an ?_
 refine aG.intro fun b1 f1=>?_
 try simp -dsimp only[go_sem,aj,aa,aq,ae,↓reduceIte,reduceCtorEq,af,decide_true,decide_false,ay]
 refine aG.intro fun b2 f2=>?_;have n2_1:=(ai f2).1;simp -dsimp only[go_sem]
 repeat refine an ?_
 refine bG 4 (by kernel_rfl) ?_
 simp -dsimp only[go_sem,aa,ae,↓reduceIte,ab,ak n2_1,bK,dj,bE,bv]
 repeat refine an ?_
 refine⟨_,JH.pure',_,(LE ha hb m1 m2 om h0 (by decide)).pure',_,(He (k:=k+k+1) (ug hpos q1) (uh hpos q2) om (nj hpos)).pure',?_⟩
 simp -dsimp only[go_sem]
 repeat refine an ?_
 rw[l6 (nj hpos) hpos Di,IC h0];exact VR.mf rfl
end Go.Proofs.YtdobfmlmenaajaaGreatDoor
