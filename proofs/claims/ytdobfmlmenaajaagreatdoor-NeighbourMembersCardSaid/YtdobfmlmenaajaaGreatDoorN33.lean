/-
  Lemmas for NeighbourMembers.
-/
import Derived.Test.YtdobfmlmenaajaaGreatDoorN32
namespace Go.Proofs.YtdobfmlmenaajaaGreatDoor
open Go.RowKit
open _root_.Bool renaming or_eq_true→cW
open _root_.Int renaming ofNat_lt→af,zero_le_ofNat→ay,tmod_eq_emod_of_nonneg→aL,emod_lt_of_pos→aM,emod_nonneg→aT,dvd_of_emod_eq_zero→cF,mul_le_mul→cH,mul_nonneg→cY,natCast_mul→di,mul_emod→dl,emod_eq_of_lt→d9,emod_eq_zero_of_dvd→ed,one_mul→et,emod_emod_of_dvd→eu,toNat_natCast→eN
open _root_.List renaming all_eq_true→az,not_mem_nil→aZ,range→cf,mem_range→ep,mem_cons→eU
open _root_.Nat renaming reduceEqDiff→aa,add_one_le_iff→ab,reduceLT→ae,reduceAdd→aj,reduceLeDiff→aq,zero_add→aC,le_trans→bW,mul_le_mul→ci,lt_trichotomy→dJ,lt_of_le_of_lt→fH,le_of_eq→r7
open _root_.Option renaming none→ac
open _root_.Or renaming inr→bD
set_option maxHeartbeats 6400000
set_option maxRecDepth 4096
set_option linter.all false
theorem ru(b:Nat)(m:Int)(S:St):cM 227 [.sl 1 b 0 1,.int .i64 m] S (fun r S'=>r=.int .i64 1/\eZ S S'):=by
 refine aA Tryz.func227 rfl 75 Tryz.ntmps227 (by kernel_rfl) (by simp) (by simp[Tryz.results227]) ?_
 rw[aS,Tryz.results227];simp -dsimp only[go_sem,aj,aa,ae,reduceCtorEq,ab]
 repeat refine an ?_
 refine(kR m S).mono ?_;rintro _ S1 ⟨bm,hbm,rfl,hE,hV⟩;simp -dsimp only[go_sem,aa,reduceCtorEq]
 repeat refine an ?_
 refine fm (fun O S'=>∃c:Nat,c<=1/\S'=S1/\O 0=.sl 1 b 0 1/\O 6=.int .i64 1/\O 12=.int .i64 ((1:Nat):Int)/\O 13=.int .i64 c) (fun O S=>1-bY (O 13)) ?_ ?_
 ·simp -dsimp only[go_sem,aa,reduceCtorEq];exact⟨0,by omega,rfl⟩
 rintro Q' hQ' O S' ⟨c,hc,rfl,e0,e6,e12,e13⟩;by_cases hct:c<1
 ·obtain rfl:c=0:=by omega
  simp -dsimp only[go_sem,aa,af,decide_true,e12,e13,hct]
  repeat refine an ?_
  refine fm (fun O S=>S=S'/\O 0=.sl 1 b 0 1/\O 6=.int .i64 1/\O 8=.int .i64 1/\O 12=.int .i64 ((1:Nat):Int)/\O 13=.int .i64 ((0:Nat):Int)) (fun O S=>0) ?_ ?_
  ·simp -dsimp only[go_sem,aa,reduceCtorEq,e0,e6,e12,e13];rw[aW (k:=0) om];rfl
  clear e0 e6 e12 e13;rintro Q'' hQ'' O S ⟨rfl,e0,e6,e8,e12,e13⟩;simp -dsimp only[go_sem,aa,ae,reduceCtorEq,e0,e8,show decide ((1:Int)<((1:Nat):Int))=false by rfl]
  repeat refine an ?_
  rw[hQ''];simp -dsimp only[go_sem,aa,↓reduceIte,reduceCtorEq,e0,e6,e12,e13,bY]
  repeat refine an ?_
  rw[aW (k:=0) om];exact⟨⟨1,by omega,rfl⟩,by simp⟩
 ·simp -dsimp only[go_sem,aa,af,decide_false,e12,e13,hct]
  repeat refine an ?_
  rw[hQ'];simp -dsimp only[go_sem,aa,↓reduceIte,e6]
  repeat refine an ?_
  exact hE
theorem appZ1{S:St}{b:Nat}{g:Nat->AV}{K:AV->St->Prop}(hb:S b=some ⟨2,1,1,g⟩)(hK:∀b',(b'=b∨S b'=ac)->K (.sl 1 b' 0 2) ((S.del b).upd b' ⟨2,1,2,li g 1 1 (fun _=>.int .i64 0)⟩)):lN 29 (.sl 1 b 0 1) (.int .i64 1) S K:=by
 show(match cX 29,S b with
  | some e,some X=>(match eQ e with
   | some (es',z,_)=>es'=1/\1=bI e/\0=0/\X.ty=e/\X.es=1/\X.n=1/\1<=1/\1+1<=1048576 /\
    ∀b',(b'=b∨S b'=ac)->K (.sl 1 b' 0 (1+1)) ((S.del b).upd b' ⟨e,1,1+1,li X.g 1 1 (fun _=>z)⟩)
   | ac=>False)
  | _,_=>False)
 rw[hb];exact⟨rfl,rfl,rfl,rfl,rfl,rfl,by omega,by omega,hK⟩
theorem GY{S:St}{b n off len:Nat}{g:Nat->AV}{v:Nat->Int}{K:AV->St->Prop}(hb:S b=some ⟨2,1,n,g⟩)(hg:∀j,j<len->g (off+j)=.int .i64 (v j))(h1:0<len)(h2:off+len<=n)(h3:len<=1000)
  (hK:∀b' h,S b'=ac->(∀j,j<len->h j=.int .i64 (v j))->K (.sl 1 b' 0 len) (S.upd b' ⟨2,1,len,h⟩)):eL 29 29 .nil (.sl 1 b off len) S K:=by
 have e1:vZ S (.sl 1 b off len)=some (1,len,fun j=>g (off+j),some b):=by simp[vZ,hb,h2]
 unfold eL;rw[show cX 29=some 2 from rfl,e1];refine⟨rfl,rfl,rfl,h1,fun j hj=>?_,by omega,fun b' hb'=>hK b' _ hb' fun k hk=>hg k hk⟩
 show du 1 (g (off+j));rw[hg j hj];simp[du]
theorem Ar{b:Nat}{K:AV->Prop}(h:K (.sl 1 b 1 1)):jo 29 (.sl 1 b 0 2) (some (.int .i64 1)) ac ac K :=
 ⟨rfl,1,2,rfl,rfl,trivial,by omega,by omega,h⟩
theorem Hl{ops:Array Oper}{l:List Oper}{O:Tm}{S:St}{K:Tm->St->Prop}(P:St->Prop)(hP:P S)(h:∀T,P T->zR ops l O T K):zR ops l O S K:=h S hP
theorem La:((1:Nat):Int)=1:=by omega
theorem c0i:((0:Nat):Int)=0:=by omega
def Fo(a p:Int):Nat->Int:=fun j=>if j=0 then a%p else 1
theorem rh(F:Nat)(a p:Int)(hp:2<=p)(hp2:p<=1000000)(he:oG F p (a%p) 0 1=true):wK 179 [aK 1 1 (fun _ _=>a),.int .i64 p] 1 1 (fun _ _=>zV F p (a%p) 0 1%p):=by
 refine wK.of ?_;refine aA Tryz.func179 rfl 123 Tryz.ntmps179 (by kernel_rfl) (by simp) (by simp[Tryz.results179]) ?_
 rw[aS,Tryz.results179];have hr0:0<=a%p/\a%p<p:=⟨aT _ om,aM _ om⟩;generalize hf:zV F p (a%p) 0 1%p=f;have hf0:0<=f/\f<p:=by rw[<-hf];exact⟨aT _ om,aM _ om⟩
 simp -dsimp only[go_sem,aj,aa,ae,reduceCtorEq,ab,aK,bJ]
 repeat refine an ?_
 refine(su 1 (fun _ _=>a) om om).call ?_;simp -dsimp only[go_sem,aa,ae,reduceCtorEq,ab]
 repeat refine an ?_
 refine(jl p hp om).call ?_;simp -dsimp only[go_sem,aa,ae,reduceCtorEq,ab]
 repeat refine an ?_
 refine(kG 1 1 (fun _ _=>a) p om om om om _ _ (cw _ _)).mono ?_;rintro _ S1 ⟨b,g,rfl,hM,_⟩;have hO1:=hM.outer;have hR1:=hM.row 0 om;simp -dsimp only[go_sem,aa,reduceCtorEq]
 repeat refine an ?_
 refine fm (fun O S=>∃i:Nat,i<=1/\O 1=.int .i64 p/\O 7=.int .i64 ((1:Nat):Int)/\O 8=.sl 1 b 0 1/\O 30=.int .i64 ((1:Nat):Int)/\O 31=.int .i64 i/\∃c,bB S b 29 1 1 (fun _=>.sl 1 c 0 (1+i))/\bB S c 2 1 (1+i) (fun j=>.int .i64 (Fo a p j))) (fun O S=>1-bY (O 31)) ?_ ?_
 ·simp -dsimp only[go_sem,aa,reduceCtorEq];refine⟨0,by omega,rfl,g 0,hO1.congr fun j hj=>?_,hR1.congr fun j hj=>?_⟩
  ·obtain rfl:j=0:=by omega
   rfl
  ·obtain rfl:j=0:=by omega
   simp[Fo,jJ]
 clear hM hO1 hR1;rintro Q' hQ' O S ⟨i,hi,e1,e7,e8,e30,e31,c,hB,hC⟩;by_cases hit:i<1
 ·obtain rfl:i=0:=by omega
  have hbc:b≠c:=bB.ne hB hC (by decide)
  obtain⟨gb,ub,vb⟩:=id hB;obtain⟨gc,uc,vc⟩:=id hC;have xb:gb 0=.sl 1 c 0 1:=vb 0 om;have xc:gc 0=.int .i64 (a%p):=(vc 0 om).trans (by simp[Fo])
  simp -dsimp only[go_sem,aa,↓reduceIte,ay,ab,e7,e8,e30,e31,hit,ub,xb,La,c0i]
  repeat refine an ?_
  refine appZ1 uc ?_;intro b' hb';have hbb:b≠b':=by
   rcases hb' with rfl|h
   ·exact hbc
   ·exact bB.fresh hB h
  refine Hl (fun T=>bB T b 29 1 1 (fun _=>.sl 1 c 0 1)/\bB T b' 2 1 2 (fun j=>.int .i64 (if j=0 then a%p else 0))) ?_ ?_
  ·refine⟨⟨gb,?_,vb⟩,bB.here fun j hj=>?_⟩
   ·rw[aQ hbb];unfold St.del;rw[if_neg hbc];exact ub
   ·match j,hj with
    | 0,_=>simp[li,bK,xc]
    | 1,_=>simp[li,bK]
  clear hB hC ub uc vb vc xb xc hbc hb';rintro T ⟨hB,hC⟩;obtain⟨gb,ub,vb⟩:=id hB;obtain⟨gc,uc,vc⟩:=id hC;have hbb':b'≠b:=hbb.symm;have w1:IntKind.i64.wrap (1+0)=1:=dq (n:=1) om om;have w01:IntKind.i64.wrap (0+1)=1:=dq (n:=1) om om;simp -dsimp only[go_sem,aa,↓reduceIte,reduceCtorEq,ay,ab,e1,e7,e8,e30,e31,hit,ub,uc,La,c0i,hbb',d7,w1,w01,bY]
  repeat refine an ?_
  refine⟨⟨1,by omega,rfl,b',?_,?_⟩,by omega⟩
  ·refine bB.upd (bB.here fun j hj=>?_) hbb _;obtain rfl:j=0:=by omega
   simp[bK]
  ·refine bB.here fun j hj=>?_
   match j,hj with
   | 0,_=>simp[bK,vc 0 om,Fo]
   | 1,_=>simp[bK,Fo]
 obtain rfl:i=1:=by omega
 simp -dsimp only[go_sem,aj,aa,↓reduceIte,af,decide_false,ab,e7,e8,e30,e31,hit]
 repeat refine an ?_
 rw[hQ'];simp -dsimp only[go_sem,aa,ae,↓reduceIte,ab,e1,e8]
 repeat refine an ?_
 refine(ru b p S).mono ?_;rintro _ S2 ⟨rfl,hE2⟩
 replace hB:=hE2.has hB
 replace hC:=hE2.has hC
 simp -dsimp only[go_sem,aa,ae,ab,e1,e8]
 repeat refine an ?_
 refine(kR p S2).mono ?_;rintro _ S3 ⟨bm,_,rfl,hE3,_⟩
 replace hB:=hE3.has hB
 replace hC:=hE3.has hC
 have w0:IntKind.i64.wrap (1-1)=0:=dq (n:=0) om om;simp -dsimp only[go_sem,aa,e1,e7,La,w0]
 repeat refine an ?_
 clear hE2 hE3 hQ' hit;refine fm (fun O S=>∃k:Nat,k<=1/\O 1=.int .i64 p/\O 7=.int .i64 1/\O 8=.sl 1 b 0 1/\O 11=.int .i64 ((k:Int)-1)/\bB S b 29 1 1 (fun _=>.sl 1 c 0 2)/\bB S c 2 1 2 (fun j=>.int .i64 (if k=0 then Fo a p j*f%p else Fo a p j))) (fun O S=>ED (O 11)) ?_ ?_
 ·simp -dsimp only[go_sem,aa,e1,e7,e8,La];exact⟨1,by omega,rfl,hB,hC.congr fun j _=>by simp⟩
 clear hB hC e1 e7 e8 e30 e31;rintro Q' hQ' O S ⟨k,hk,e1,e7,e8,e11,hB,hC⟩;have hbc:b≠c:=bB.ne hB hC (by decide)
 by_cases hk0:k=0
 ·subst hk0;have d1:decide ((0:Int)<=((0:Nat):Int)-1)=false:=by simp
  simp -dsimp only[go_sem,aa,ae,↓reduceIte,ab,e1,e8,e11,d1]
  repeat refine an ?_
  rw[hQ'];simp -dsimp only[go_sem,aa,↓reduceIte,e8]
  repeat refine an ?_
  refine fm (fun O S=>∃i:Nat,i<=1/\O 7=.int .i64 1/\O 8=.sl 1 b 0 1/\O 107=.int .i64 ((1:Nat):Int)/\O 108=.int .i64 i/\∃c,bB S b 29 1 1 (fun _=>.sl 1 c 0 (2-i))/\bB S c 2 1 (2-i) (fun j=>.int .i64 (if i=0 then Fo a p j*f%p else f))) (fun O S=>1-bY (O 108)) ?_ ?_
  ·simp -dsimp only[go_sem,aa,e7,e8];exact⟨0,by omega,rfl,c,hB,hC⟩
  clear hB hC e1 e7 e8 e11 hbc;rintro Q'' hQ'' O S ⟨i,hi,e7,e8,e107,e108,c,hB,hC⟩;have hbc:b≠c:=bB.ne hB hC (by decide)
  by_cases hit:i<1
  ·obtain rfl:i=0:=by omega
   obtain⟨gb,ub,vb⟩:=id hB;obtain⟨gc,uc,vc⟩:=id hC;have xb:gb 0=.sl 1 c 0 2:=vb 0 om;simp -dsimp only[go_sem,aa,↓reduceIte,ay,ab,e7,e8,e107,e108,hit,ub,xb,La,c0i,Option.map_some,Option.map_none]
   repeat refine an ?_
   refine Ar ?_
   try simp -dsimp only[go_sem,aj,aa,aq,ae,↓reduceIte,reduceCtorEq,af,decide_true,decide_false,ay,e7,e8,e107,e108,hit,ub,xb,La,c0i]
   refine GY (v:=fun _=>f) uc (fun j hj=>?_) om om om ?_
   ·obtain rfl:j=0:=by omega
    rw[vc 1 om];simp only[Fo];rw[if_pos trivial,if_neg om,et,d9 hf0.1 hf0.2]
   intro b' h hb' hh;have hbb:b≠b':=bB.fresh hB hb';have w1:IntKind.i64.wrap (0+1)=1:=dq (n:=1) om om;simp -dsimp only[go_sem,aa,↓reduceIte,ay,ab,e7,e8,e107,e108,hit,ub,La,c0i,hbb,w1,bY]
   repeat refine an ?_
   refine⟨⟨1,by omega,rfl,b',?_,?_⟩,by omega⟩
   ·refine bB.here fun j hj=>?_;obtain rfl:j=0:=by omega
    simp[bK]
   ·refine bB.upd (bB.here fun j hj=>?_) hbb.symm _;rw[hh j hj];simp
  obtain rfl:i=1:=by omega
  simp -dsimp only[go_sem,aj,aa,↓reduceIte,af,decide_false,ab,e7,e8,e107,e108,hit]
  repeat refine an ?_
  rw[hQ''];simp -dsimp only[go_sem,aa,↓reduceIte,e8]
  repeat refine an ?_
  refine⟨b,rfl,fun _=>c,hB,fun i _=>hC.congr fun j _=>by simp,fun i j h1 h2 _=>by omega⟩
 obtain rfl:k=1:=by omega
 obtain⟨gb,ub,vb⟩:=id hB;obtain⟨gc,uc,vc⟩:=id hC;have xb:gb 0=.sl 1 c 0 2:=vb 0 om;have xc:gc 0=.int .i64 (a%p):=(vc 0 om).trans (by simp[Fo])
 have d1:decide ((0:Int)<=((1:Nat):Int)-1)=true:=by simp
 have w2:((1:Nat):Int)-1=((0:Nat):Int):=by omega
 rw[w2]at e11 d1;simp -dsimp only[go_sem,aa,ae,↓reduceIte,af,decide_true,ab,e1,e8,e11,ub,uc,xb,xc]
 repeat refine an ?_
 refine(wo F (a%p) p om om he).call ?_;rw[hf];simp -dsimp only[go_sem,aa,ae,↓reduceIte,af,ab,e1,e8,e11,ub,xb,xc]
 repeat refine an ?_
 refine(BY 2 c (Fo a p) f p S om om hp2 hf0 (fun j hj=>?_) (hC.congr fun j _=>by simp)).mono ?_
 ·unfold Fo;split<;>omega
 rintro _ S4 ⟨hCh,hC4⟩;have hB4:=hCh.has hbc hB;simp -dsimp only[go_sem,aa,↓reduceIte,e1,e8,e11]
 repeat refine an ?_
 refine fm (fun O S=>S=S4/\O 1=.int .i64 p/\O 7=.int .i64 1/\O 8=.sl 1 b 0 1/\O 11=.int .i64 ((0:Nat):Int)/\O 84=.int .i64 ((0:Nat):Int)/\O 85=.int .i64 0) (fun O S=>0) ?_ ?_
 ·simp -dsimp only[go_sem,aa,e1,e7,e8,e11]
 clear e1 e7 e8 e11;rintro Q'' hQ'' O S ⟨rfl,e1,e7,e8,e11,e84,e85⟩;simp -dsimp only[go_sem,aa,ae,e84,e85,show decide ((0:Int)<((0:Nat):Int))=false by simp]
 repeat refine an ?_
 rw[hQ''];have w3:IntKind.i64.wrap (((0:Nat):Int)-1)=((0:Nat):Int)-1:=i64_in om om;simp -dsimp only[go_sem,aa,↓reduceIte,e1,e7,e8,e11,w3,ED]
 repeat refine an ?_
 refine⟨⟨0,by omega,rfl,hB4,hC4.congr fun j _=>by simp⟩,by simp⟩
theorem rG(F:Nat)(a p:Int)(hp:2<=p)(hp2:p<=1000000)(he:oG F p (a%p) 0 1=true):PF 142 [.int .i64 a,.int .i64 p] (.int .i64 (zV F p (a%p) 0 1%p)):=by
 refine PF.of_spec (aA Tryz.func142 rfl 22 Tryz.ntmps142 (by kernel_rfl) (by simp) (by simp[Tryz.results142]) ?_)
 rw[aS,Tryz.results142];simp -dsimp only[go_sem,aj,reduceCtorEq]
 repeat refine an ?_
 refine aG.intro fun b9 f9=>?_;simp -dsimp only[go_sem,reduceCtorEq]
 repeat refine an ?_
 refine aG.intro fun b10 f10=>?_;have n10_9:=(ai f10).1
 try simp -dsimp only[go_sem,aa,aq,ae,reduceCtorEq]
 have hIM:dD ((St.none.upd b9 ⟨2,1,1,fun j=>[AV.int .i64 a].getD j .any⟩).upd b10 ⟨29,1,1,fun j=>[AV.sl 1 b9 0 1].getD j .any⟩) b10 (fun _=>b9) 1 1 (fun _ _=>a):=by
  refine⟨bB.here fun j hj=>?_,fun j _=>bB.upd (bB.here fun k hk=>?_) n10_9.symm _,fun i j h1 h2 _=>by omega⟩
  ·obtain rfl:j=0:=by omega
   rfl
  ·obtain rfl:k=0:=by omega
   rfl
 refine(rh F a p hp hp2 he _ _ (dY.two hIM.vr.va (VA.refl _ _))).mono ?_;rintro _ S1 ⟨b,g,rfl,hM,_⟩;obtain⟨gb,ub,vb⟩:=id hM.outer;obtain⟨gc,uc,vc⟩:=id (hM.row 0 om);have xb:gb 0=.sl 1 (g 0) 0 1:=vb 0 om;have xc:gc 0=.int .i64 (zV F p (a%p) 0 1%p):=vc 0 om;simp -dsimp only[go_sem,aa,ae,↓reduceIte,reduceCtorEq,ay,ab,ub,uc,xb,xc]
 repeat refine an ?_
 exact VR.mf rfl
def fZ(n:Nat)(H:aU)(p:Int)(v:Nat->Int):Nat->Int:=fun i=>i7 (jJ H p) (jJ (fun i _=>v i) p) n p i 0
theorem tO{n:Nat}{H:aU}{p:Int}{v:Nat->Int}(hp:2<=p)(i:Nat):0<=fZ n H p v i/\fZ n H p v i<p:=⟨aT _ om,aM _ om⟩
theorem we(F n piv:Nat)(H:aU)(p:Int)(v:Nat->Int)(inv:Int)(h1:1<=n)(hn:n<=8)(hp:2<=p)(hp2:p<=1000)(hpiv:piv<n)(hw0:fZ n H p v piv≠0)(hwz:∀i,i<piv->fZ n H p v i=0)(he:oG F p (fZ n H p v piv%p) 0 1=true)(hinv:inv=zV F p (fZ n H p v piv%p) 0 1%p) :
  Fh 122 [aK n n H,.int .i64 p,bJ n v] n n (fun j i=>gM p piv (fun j=>fZ n H p v j*inv%p) i j):=by
 refine Fh.of ?_;refine aA Tryz.func122 rfl 103 Tryz.ntmps122 (by kernel_rfl) (by simp) (by simp[Tryz.results122]) ?_
 rw[aS,Tryz.results122];have hi0:0<=inv/\inv<p:=by rw[hinv];exact⟨aT _ om,aM _ om⟩
 simp -dsimp only[go_sem,aj,aa,reduceCtorEq,bJ]
 repeat refine an ?_
 refine aG.intro fun b7 f7=>?_;simp -dsimp only[go_sem]
 repeat refine an ?_
 refine aI (fun O S=>∃i:Nat,i<=n/\O 0=aK n n H/\O 1=.int .i64 p/\O 2=bJ n v/\O 7=.sl 1 b7 0 n/\O 19=bJ n v/\O 20=.int .i64 n/\O 21=.int .i64 i/\∃g',eh 29 2 1 St.none S b7 g' n 1 i (fun a _=>.int .i64 (v a))) (fun O S=>n-bY (O 21)) ?_ ?_
 ·simp -dsimp only[go_sem,aa,reduceCtorEq,bJ];exact⟨0,by omega,rfl,fun _=>0,eh.init f7 (fun _ _=>rfl) _ _⟩
 rintro O S ⟨i,hi,e0,e1,e2,e7,e19,e20,e21,g',hR⟩;by_cases hit:i<n
 ·obtain⟨g4,u4,v4⟩:=id hR.outer;simp -dsimp only[go_sem,aa,ae,↓reduceIte,reduceCtorEq,af,decide_true,ab,bJ,e0,e1,e7,e19,e20,e21,hit]
  repeat refine an ?_
  refine aG.intro fun b29 f29=>?_;have hne:b7≠b29:=bB.fresh hR.outer f29;simp -dsimp only[go_sem,aa,↓reduceIte,reduceCtorEq,af,ab,bJ,e0,e1,e2,e7,e19,e20,e21,hit,u4,hne,aW (show i<1000000 by omega),bY]
  repeat refine an ?_
  refine⟨⟨i+1,by omega,rfl,_,(hR.push (by decide) f29 u4 (fun j=>[AV.int .i64 (v i)].getD j .any)).congr fun a c ha hc=>?_⟩,by omega⟩
  obtain rfl:c=0:=by omega
  by_cases e:a=i
  ·subst e;simp
  ·rw[if_neg e]
 have hin:i=n:=by omega
 subst hin;have hN:=hR.imat (A:=fun i _=>v i) (fun _ _ _ _=>rfl);simp -dsimp only[go_sem,aa,ae,↓reduceIte,reduceCtorEq,af,decide_false,ab,bJ,e0,e1,e7,e19,e20,e21,hit]
 repeat refine an ?_
 refine(Fc i i 1 H (fun i _=>v i) p h1 om h1 om om om hp om S _ (dY.three (VA.refl _ _) hN.1.vr.va (VA.refl _ _))).mono ?_;rintro _ S1 ⟨bw,gw,rfl,hW,_,_,_⟩;simp -dsimp only[go_sem,aa,ae,reduceCtorEq,ab,e0,e1,e7]
 repeat refine an ?_
 have hWv:∀k,i7 (jJ H p) (jJ (fun i _=>v i) p) i p k 0=fZ i H p v k:=fun _=>rfl;refine(zD i 1 piv _ om om hpiv (by rw[hWv];exact hw0) (fun k hk=>by rw[hWv];exact hwz k hk)).spec (dY.two hW.vr.va (VA.refl _ _)) ?_
 obtain⟨go,uo,vo⟩:=id hW.outer;obtain⟨gp,up,vp⟩:=id (hW.row piv hpiv);have xo:go piv=.sl 1 (gw piv) 0 1:=vo piv hpiv;have xp:gp 0=.int .i64 (fZ i H p v piv):=vp 0 om;simp -dsimp only[go_sem,aa,ae,↓reduceIte,af,ay,ab,e1,hpiv,uo,up,xo,xp]
 repeat refine an ?_
 refine(rG F (fZ i H p v piv) p hp om he).call ?_;rw[<-hinv];simp -dsimp only[go_sem,aa,↓reduceIte,bJ,e1,e2]
 repeat refine an ?_
 refine aG.intro fun b14 f14=>?_;simp -dsimp only[go_sem]
 repeat refine an ?_
 have hq:∀k,0<=fZ i H p v k*inv%p/\fZ i H p v k*inv%p<p:=fun k=>⟨aT _ om,aM _ om⟩;have hpp:p*p<=1000000:=by have:=cH hp2 hp2 om om;omega
 have hpp0:0<=p*p:=cY om om;have hmul:∀a b:Int,0<=a->a<p->0<=b->b<p->0<=a*b/\a*b<=1000000:=fun a b a0 a1 b0 b1=>by
  have h1:=cH (show a<=p by omega) (show b<=p by omega) b0 om
  exact⟨cY a0 b0,by omega⟩
 clear uo up vo vp xo xp;refine fm (fun O S=>∃j:Nat,j<=i/\O 1=.int .i64 p/\O 2=bJ i v/\O 10=.sl 1 bw 0 i/\O 12=.int .i64 piv/\O 13=.int .i64 inv/\O 14=.sl 1 b14 0 i/\O 53=.int .i64 i/\O 54=.int .i64 j/\∃g',eh 29 2 1 S1 S b14 g' i i j (fun a c=>.int .i64 (gM p piv (fun j=>fZ i H p v j*inv%p) c a))) (fun O S=>i-bY (O 54)) ?_ ?_
 ·simp -dsimp only[go_sem,aa,e1,e2,bJ];exact⟨0,by omega,rfl,fun _=>0,eh.init f14 (fun _ _=>rfl) _ _⟩
 clear e0 e1 e2 e7 e19 e20 e21;rintro Q' hQ' O S ⟨j,hj,e1,e2,e10,e12,e13,e14,e53,e54,g',hR⟩;by_cases hjt:j<i
 ·obtain⟨g4,u4,v4⟩:=id hR.outer;by_cases hjp:j=piv
  ·subst hjp;simp -dsimp only[go_sem,aa,↓reduceIte,af,decide_true,ab,bJ,e1,e2,e10,e12,e13,e14,e53,e54,hjt,beq_self_eq_true]
   repeat refine an ?_
   refine aG.intro fun b61 f61=>?_;have hdc:b14≠b61:=bB.fresh hR.outer f61;have hcd:b61≠b14:=hdc.symm;have hR1:=hR.push (by decide) f61 u4 (fun _=>.int .i64 0)
   have wpp:IntKind.i64.wrap (p*p)=p*p:=i64_in om om;simp -dsimp only[go_sem,reduceCtorEq,af,hjt,u4,hdc,hcd,d7,wpp,aW (show j<1000000 by omega),bY]
   repeat refine an ?_
   have hR2:=hR1.put (by decide) (show j<j+1 by omega) (g':=fun _=>.int .i64 0) (by rw[if_pos rfl,aQ hcd,bV]) j (.int .i64 (p*p))
   rw[show(if j=j then b61 else g' j)=b61 from if_pos rfl]at hR2
   refine⟨⟨j+1,by omega,rfl,_,hR2.congr fun a c ha hc=>?_⟩,by omega⟩
   by_cases ea:a=j
   ·subst ea;simp only[true_and,if_true,gM];by_cases ec:c=a
    ·rw[if_pos ec,if_pos ec]
    ·rw[if_neg ec,if_neg ec]
   ·rw[if_neg (fun h=>ea h.1),if_neg ea]
  ·have hjb:((j:Int)==(piv:Int))=false:=by simp;omega
   simp -dsimp only[go_sem,aa,↓reduceIte,af,decide_true,ab,bJ,e1,e2,e10,e12,e13,e14,e53,e54,hjt,hjb]
   repeat refine an ?_
   refine aG.intro fun b61 f61=>?_;have hdc:b14≠b61:=bB.fresh hR.outer f61;have hcd:b61≠b14:=hdc.symm;have hR1:=hR.push (by decide) f61 u4 (fun _=>.int .i64 0)
   simp -dsimp only[go_sem,reduceCtorEq,af,hjt,u4,hdc,hcd,d7]
   repeat refine an ?_
   have hR2:=hR1.put (by decide) (show j<j+1 by omega) (g':=fun _=>.int .i64 0) (by rw[if_pos rfl,aQ hcd,bV]) j (.int .i64 p)
   rw[show(if j=j then b61 else g' j)=b61 from if_pos rfl]at hR2
   refine md (fun T=>∃gg,eh 29 2 1 S1 T b14 gg i i (j+1) (fun a c=>if a=j then .int .i64 (if c=j then p else 0)else .int .i64 (gM p piv (fun j=>fZ i H p v j*inv%p) c a))) ⟨_,hR2.congr fun a c ha hc=>?_⟩ ?_
   ·by_cases ea:a=j
    ·subst ea;simp only[true_and,if_true];by_cases ec:c=a
     ·rw[if_pos ec,if_pos ec]
     ·rw[if_neg ec,if_neg ec]
    ·rw[if_neg (fun h=>ea h.1),if_neg ea,if_neg ea]
   clear hR hR1 hR2 u4 v4 hdc hcd;rintro T ⟨gg,hT⟩;obtain⟨go,uo,vo⟩:=id hT.outer;obtain⟨gr,ur,vr⟩:=id (hT.row j om);have hWT:=hW.ext hT.ext;obtain⟨gx,ux,vx⟩:=id hWT.outer;obtain⟨gy,uy,vy⟩:=id (hWT.row j hjt);have xo:go j=.sl 1 (gg j) 0 i:=(vo j hjt).trans (if_pos om);have xx:gx j=.sl 1 (gw j) 0 1:=vx j hjt;have xy:gy 0=.int .i64 (fZ i H p v j):=vy 0 om;obtain⟨w0,w1⟩:=tO (n:=i) (H:=H) (v:=v) hp j;obtain⟨m0,m1⟩:=hmul _ _ w0 w1 hi0.1 hi0.2;obtain⟨q0,q1⟩:=hq j;obtain⟨r0,r1⟩:=hmul (p-1) _ om om q0 q1;have k1:IntKind.i64.wrap (0-p)=-p:=by rw[Int.zero_sub];exact i64_in om om
   have k2:IntKind.i64.wrap (fZ i H p v j*inv)=fZ i H p v j*inv:=i64_in om om;have k3:(fZ i H p v j*inv).tmod p=fZ i H p v j*inv%p:=aL m0;have k4:IntKind.i64.wrap (-p*(fZ i H p v j*inv%p))=-p*(fZ i H p v j*inv%p):=by
    rw[Int.sub_mul,et]at r0 r1;rw[Int.neg_mul];exact i64_in om om
   have hp0:¬p=0:=by omega
   refine bG 19 (by kernel_rfl) ?_
   simp -dsimp only[go_sem,aa,ae,↓reduceIte,reduceCtorEq,af,ay,ab,bJ,e1,e2,e10,e12,e13,e14,e53,e54,hjt,uo,ur,ux,uy,xo,xx,xy,hpiv,k1,k2,k3,k4,hp0,aW (show j<1000000 by omega),bY]
   repeat refine an ?_
   refine⟨⟨j+1,by omega,rfl,gg,(hT.put (by decide) (show j<j+1 by omega) ur piv (.int .i64 (-p*(fZ i H p v j*inv%p)))).congr fun a c ha hc=>?_⟩,by omega⟩
   by_cases ea:a=j
   ·subst ea;simp only[true_and,if_true,gM];rw[if_neg hjp];by_cases ec:c=piv
    ·rw[if_pos ec,if_neg om,if_pos ec,Int.neg_mul]
    ·rw[if_neg ec];by_cases ec2:c=a
     ·rw[if_pos ec2,if_pos ec2]
     ·rw[if_neg ec2,if_neg ec2,if_neg ec]
   ·rw[if_neg (fun h=>ea h.1),if_neg ea]
 have hji:j=i:=by omega
 rw[hji]at hR;have hN2:=hR.imat (A:=fun j i'=>gM p piv (fun j=>fZ i H p v j*inv%p) i' j) (fun _ _ _ _=>rfl);simp -dsimp only[go_sem,aa,↓reduceIte,af,decide_false,ay,ab,e1,e2,e10,e12,e13,e14,e53,e54,hjt]
 repeat refine an ?_
 rw[hQ'];simp -dsimp only[go_sem,aa,↓reduceIte,e14]
 repeat refine an ?_
 exact⟨b14,rfl,g',hN2.1⟩
def En:List AV:=[.int .i64 7,.int .i64 11,.int .i64 13,.int .i64 17,.int .i64 19,.int .i64 23,.int .i64 29,.int .i64 31]
def lf(S:St):Prop:=∃ty,bB S 0 ty 1 8 (fun j=>En.getD j .any)
theorem lf.ext{S S':St}(h:lf S)(hE:eZ S S'):lf S':=by
 obtain⟨ty,h⟩:=h;exact⟨ty,hE.has h⟩
def L2:List Int:=[2,3,5]
def dvA:List AV:=[.int .i64 2,.int .i64 3,.int .i64 5]
theorem GF{i:Nat}(hi:i<3):dvA.getD i .any=.int .i64 (L2.getD i 0)/\L2.getD i 0≠0:=by
 rcases (show i=0∨i=1∨i=2 by omega)with rfl|rfl|rfl<;>exact⟨rfl,by decide⟩
theorem Gs{i:Nat}(hi:i<3)(K:AV->Prop):zo 238 (.agg [.int .i64 2,.int .i64 3,.int .i64 5]) (.int .i64 i) K=K (.int .i64 (L2.getD i 0)):=by
 rw[<-(GF hi).1];unfold zo;apply propext;constructor
 ·rintro (⟨h,_⟩|⟨_,_,_,h⟩)
  ·exact absurd h (by decide)
  ·rwa [eN]at h
 ·intro h;exact bD ⟨Or.inl ⟨rfl,rfl⟩,by simp[du],⟨by omega,by simp;omega⟩,by rwa [eN]⟩
theorem KU(K:AV->Prop):zo 239 (.agg En) (.int .i64 0) K=K (.int .i64 7):=by
 unfold zo;apply propext;constructor
 ·rintro (⟨h,_⟩|⟨_,_,_,h⟩)
  ·exact absurd h (by decide)
  ·exact h
 ·intro h;exact bD ⟨bD ⟨rfl,rfl⟩,by simp[du,En],⟨by omega,by simp[En]⟩,h⟩
theorem Ge{S:St}(hG:lf S):∃ty g,S 0=some ⟨ty,1,8,g⟩/\dj g 0 8=En:=by
 obtain⟨ty,g,u,v⟩:=hG;refine⟨ty,g,u,?_⟩;simp only[dj,v 0 om,v 1 om,v 2 om,v 3 om,v 4 om,v 5 om,v 6 om,v 7 om];rfl
theorem j9(S:St)(p:Int)(k:Nat)(hk:k<=3)(h1:∀i,i<k->(p.tmod (L2.getD i 0)==0)=false)(h2:k<3->(p.tmod (L2.getD k 0)==0)=true/\L2.getD k 0=p)(h3:p<49)(hG:lf S) :
  cM 256 [.int .i64 p] S (fun r S'=>r=.int .i64 p/\S'=S):=by
 refine aA Tryz.func256 rfl 42 Tryz.ntmps256 (by kernel_rfl) (by simp) (by simp[Tryz.results256]) ?_
 rw[aS,Tryz.results256];simp -dsimp only[go_sem,reduceCtorEq]
 repeat refine an ?_
 refine fm (fun O S'=>∃i:Nat,i<=k/\S'=S/\O 0=.int .i64 p/\O 10=.agg [.int .i64 2,.int .i64 3,.int .i64 5]/\O 11=.int .i64 i) (fun O S=>3-bY (O 11)) ?_ ?_
 ·simp -dsimp only[go_sem,aa,reduceCtorEq];exact⟨0,by omega,rfl⟩
 rintro Q' hQ' O S' ⟨i,hi,rfl,e0,e10,e11⟩;by_cases hit:i<3
 ·obtain⟨_,hd0⟩:=GF hit;have d3:decide ((i:Int)<3)=true:=by simp;omega
  by_cases hik:i<k
  ·simp -dsimp only[go_sem,aa,reduceCtorEq,e0,e10,e11,d3,Gs hit,hd0,h1 i hik,aW (show i<1000000 by omega),bY]
   repeat refine an ?_
   exact⟨⟨i+1,by omega,rfl⟩,by omega⟩
  ·obtain rfl:i=k:=by omega
   obtain⟨a,b⟩:=h2 hit;simp -dsimp only[go_sem,aa,reduceCtorEq,e0,e10,e11,d3,Gs hit,hd0,a]
   repeat refine an ?_
   rw[hQ'];simp -dsimp only[go_sem,b]
   repeat refine an ?_
 have d3:decide ((i:Int)<3)=false:=by simp;omega
 simp -dsimp only[go_sem,aa,reduceCtorEq,e0,e10,e11,d3]
 repeat refine an ?_
 rw[hQ'];simp -dsimp only[go_sem,↓reduceIte,reduceCtorEq,e0]
 repeat refine an ?_
 refine fm (fun O S1=>S1=S'/\O 0=.int .i64 p/\O 5=.int .i64 p/\O 6=.int .i64 0) (fun O S=>0) ?_ ?_
 ·simp -dsimp only[go_sem,aa,reduceCtorEq,e0]
 clear hQ';rintro Q' hQ' O S1 ⟨rfl,e0,e5,e6⟩;obtain⟨ty,g,uG,vG⟩:=Ge hG;simp -dsimp only[go_sem,ae,↓reduceIte,ab,uG,vG,show dM 239=some (1,8)from rfl,show ¬(8:Nat)=1 by omega]
 repeat refine an ?_
 refine fm (fun O S2=>S2=S1/\O 0=.int .i64 p/\O 5=.int .i64 p/\O 6=.int .i64 0/\O 23=.agg En/\O 24=.int .i64 0) (fun O S=>0) ?_ ?_
 ·simp -dsimp only[go_sem,aa,reduceCtorEq,e0,e5,e6]
 rintro Q2 hQ2 O S2 ⟨rfl,e0,e5,e6,e23,e24⟩;have d8:decide ((0:Int)<8)=true:=by decide
 have d49:decide (p<49)=true:=by simp;omega
 have w7:IntKind.i64.wrap (0+7)=7:=by rw[i64_in om om];omega
 have w49:IntKind.i64.wrap (7*7)=49:=by rw[i64_in om om];omega
 simp -dsimp only[go_sem,aa,ae,↓reduceIte,reduceCtorEq,e0,e5,e6,e23,e24,d8,KU,w7,w49,d49]
 repeat refine an ?_
 rw[hQ2];simp -dsimp only[go_sem,aa,↓reduceIte]
 repeat refine an ?_
 rw[hQ'];simp -dsimp only[go_sem,aa,↓reduceIte,e5]
 repeat refine an ?_
def eS:List Nat:=[3,5,7,11,13,17]
theorem l5.six{D:Int}{p:Nat}(h:l5 D p)(hp:p<=17):p∈eS:=by
 obtain⟨h1,h2,⟨_,h3⟩,_⟩:=h;have h9:p≠9:=fun e=>by subst e;exact h3 3 om om om
 have h15:p≠15:=fun e=>by subst e;exact h3 3 om om om
 simp only[eS,eU,aZ,or_false];omega
def Gb:Bool:=eS.all fun p=>(cf p).all fun x=>(cf p).all fun y=>x==0||y==0||(x*y)%p != 0
theorem AF:Gb=true:=by decide +kernel
theorem pQ{p:Nat}(hp:p∈eS)(a b:Int)(h:(p:Int)∣a*b):(p:Int)∣a∨(p:Int)∣b:=by
 have hp0:0<p:=by
  simp only[eS,eU,aZ,or_false]at hp;omega
 have ha0:=aT a (show(p:Int)≠0 by omega)
 have hb0:=aT b (show(p:Int)≠0 by omega)
 have ha1:=aM a (show(0:Int)<p by omega)
 have hb1:=aM b (show(0:Int)<p by omega)
 obtain⟨x,hx⟩:=Int.eq_ofNat_of_zero_le ha0;obtain⟨y,hy⟩:=Int.eq_ofNat_of_zero_le hb0;have hm:=AF;unfold Gb at hm;have h2:=az.1 (az.1 (az.1 hm p hp) x (ep.2 om)) y (ep.2 om);have h3:=ed h;rw[dl,hx,hy,<-di,<-Int.natCast_emod]at h3;simp only[cW,beq_iff_eq,bne_iff_ne,ne_eq]at h2;rcases h2 with (h2|h2)|h2
 ·exact Or.inl (cF (by rw[hx,h2];rfl))
 ·exact bD (cF (by rw[hy,h2];rfl))
 ·exact absurd om h2
theorem IG(S:St)(p:Nat)(hp:p∈eS)(hG:lf S):cM 256 [.int .i64 p] S (fun r S'=>r=.int .i64 p/\S'=S):=by
 simp only[eS,eU,aZ,or_false]at hp;rcases hp with rfl|rfl|rfl|rfl|rfl|rfl
 ·exact j9 S 3 1 om (by decide) (fun _=>by decide) (by decide) hG
 ·exact j9 S 5 2 om (by decide) (fun _=>by decide) (by decide) hG
 ·exact j9 S 7 3 om (by decide) (fun h=>by omega) (by decide) hG
 ·exact j9 S 11 3 om (by decide) (fun h=>by omega) (by decide) hG
 ·exact j9 S 13 3 om (by decide) (fun h=>by omega) (by decide) hG
 ·exact j9 S 17 3 om (by decide) (fun h=>by omega) (by decide) hG
theorem CS(S:St)(p:Nat)(hp:p∈eS)(hG:lf S):cM 221 [.int .i64 p] S (fun r S'=>r=.bool true/\S'=S):=by
 refine aA Tryz.func221 rfl 15 Tryz.ntmps221 (by kernel_rfl) (by simp) (by simp[Tryz.results221]) ?_
 rw[aS,Tryz.results221];have h17:3<=p/\p<=17:=by
  have hp':=hp;simp only[eS,eU,aZ,or_false]at hp';omega
 have d1:decide ((2:Int)<=(p:Int))=true:=by simp;omega
 have d2:decide ((p:Int)<=2147483647)=true:=by simp;omega
 simp -dsimp only[go_sem,aa,ae,reduceCtorEq,ab,d1,d2]
 repeat refine an ?_
 refine(IG S p hp hG).mono ?_;rintro _ S' ⟨rfl,rfl⟩;simp -dsimp only[go_sem,aa,reduceCtorEq,d1,d2,beq_self_eq_true]
 repeat refine an ?_
theorem CA(S:St)(n p:Nat)(H:aU)(hF:kM n H)(hg:l5 (det n H) p)(hp:p∈eS)(hG:lf S):cM 174 [aK n n H,.int .i64 p] S (fun r S'=>r=.int .i64 0/\eZ S S'):=by
 refine aA Tryz.func174 rfl 33 Tryz.ntmps174 (by kernel_rfl) (by simp) (by simp[Tryz.results174]) ?_
 rw[aS,Tryz.results174];have h17:3<=p/\p<=17:=by
  have hp':=hp;simp only[eS,eU,aZ,or_false]at hp';omega
 have d1:((p:Int)==2)=false:=by simp;omega
 have d2:decide ((9973:Int)<(p:Int))=false:=by simp;omega
 simp -dsimp only[go_sem,aj,aa,ae,reduceCtorEq,ab]
 repeat refine an ?_
 refine(zB n H hF).call ?_;simp -dsimp only[go_sem,aa,ae,reduceCtorEq,ab,d1,d2]
 repeat refine an ?_
 refine(CS S p hp hG).mono ?_;rintro _ S' ⟨rfl,rfl⟩;simp -dsimp only[go_sem,aa,ae,reduceCtorEq,ab,d1,d2]
 repeat refine an ?_
 have hD:=((Bx n H p hF.one (by have:=hF.five;omega) om om (pQ hp) (fun h=>hg.2.2.2 (ed h))).less (post':=fun r S'=>(∃d:Int,d≠0/\r=.tup [.int .i64 d,.int .i64 0])/\S'=St.none) fun r S' h=>⟨St.none,(fun b X hb=>by simp[St.none]at hb),h,rfl⟩).frame (cw S' _) (by rintro r S1 ⟨⟨d,_,rfl⟩,rfl⟩;exact⟨rfl,fun b X hb=>by simp[St.none]at hb⟩)
 refine hD.mono ?_;rintro _ S2 ⟨S1,⟨⟨d,hd,rfl⟩,rfl⟩,_,rfl⟩;have d3:(d==0)=false:=by simpa using hd
 simp -dsimp only[go_sem,aa,reduceCtorEq,d3,bne_self_eq_false]
 repeat refine an ?_
 exact qz _ _
theorem ET{S:St}{b c n:Nat}{v:Nat->Int}{g0:Nat->AV}{K:AV->St->Prop}(hb:S b=some ⟨2,1,0,g0⟩)(hc:bB S c 2 1 n (fun j=>.int .i64 (v j)))(h1:0<n)(h2:n<=1000)
  (hK:∀b' h,(b'=b∨S b'=ac)->(∀j,j<n->h j=.int .i64 (v j))->K (.sl 1 b' 0 n) ((S.del b).upd b' ⟨2,1,n,h⟩)):eL 29 29 (.sl 1 b 0 0) (.sl 1 c 0 n) S K:=by
 obtain⟨g,u,w⟩:=hc;have hbc:c≠b:=by rintro rfl;rw[u]at hb;cases hb;omega
 have e1:vZ S (.sl 1 c 0 n)=some (1,n,fun j=>g (0+j),some c):=by simp[vZ,u]
 unfold eL;rw[show cX 29=some 2 from rfl,e1];refine⟨rfl,rfl,rfl,h1,fun j hj=>?_,?_⟩
 ·show du 1 (g (0+j));rw[aC,w j hj];simp[du]
 ·simp only[hb];refine⟨trivial,trivial,trivial,trivial,trivial,by omega,fun e=>hbc (Option.some.inj e),fun b' hb'=>?_⟩
  rw[aC];refine hK b' _ hb' fun j hj=>?_;unfold li;split
  ·have:j=0:=by omega
   subst this;simp only[bK,if_true,aC];exact w 0 om
  ·simp only[Nat.not_lt_zero,if_false,Nat.sub_zero,aC];exact w j hj
theorem Lc{S:St}{K:AV->St->Prop}:cL 29 0 [] S K=aG S (fun b=>K (.sl 1 b 0 0) (S.upd b ⟨2,1,0,fun j=>([]:List AV).getD j .any⟩)):=by
 simp only[cL,cX,bI];simp[dG,eQ,aG]
theorem wO(S:St)(d n:Nat)(v:Nat->Int)(h1:0<n)(h2:n<=1000)(hd:bB S d 2 1 n (fun j=>.int .i64 (v j))) :
  cM 177 [.sl 1 d 0 n] S (fun r S'=>∃b,r=.sl 1 b 0 n/\bB S' b 2 1 n (fun j=>.int .i64 (v j))/\eZ S S'/\S b=ac):=by
 refine aA Tryz.func177 rfl 8 Tryz.ntmps177 (by kernel_rfl) (by simp) (by simp[Tryz.results177]) ?_
 rw[aS,Tryz.results177];simp -dsimp only[go_sem,reduceCtorEq,Lc]
 repeat refine an ?_
 refine aG.intro fun b5 f5=>?_;have hd5:=hd.upd (hd.fresh f5) ⟨2,1,0,fun j=>([]:List AV).getD j .any⟩
 try simp -dsimp only[go_sem,aa,↓reduceIte,reduceCtorEq]
 refine ET bV hd5 h1 h2 ?_;intro b' h hb' hh;have hS:S b'=ac:=by
  rcases hb' with rfl|h
  ·exact f5
  ·by_cases e:b'=b5
   ·rw[e];exact f5
   ·rw[aQ e]at h;exact h
 simp -dsimp only[go_sem,reduceCtorEq]
 repeat refine an ?_
 refine⟨b',rfl,bB.here hh,fun k X hX=>?_,hS⟩;have k1:k≠b':=fun e=>by rw[e,hS]at hX;cases hX
 have k2:k≠b5:=fun e=>by rw[e,f5]at hX;cases hX
 rw[aQ k1];unfold St.del;rw[if_neg k2,aQ k2];exact hX
theorem uz(n:Nat)(H:aU)(v:Nat->Int)(m:Int):fD n (jJ H m) v n%m=fD n H v n%m:=by
 unfold fD;refine lp n _ _ m fun i _=>?_;rw[dl,lp n (fun j=>jJ H m i j*v j) (fun j=>H i j*v j) m fun j _=>?_,<-dl];show(H i j%m*v j)%m=_;rw[dl,eu _ (Int.dvd_refl m),<-dl]
theorem Eu(n p:Nat)(H:aU)(v:Nat->Nat)(h1:1<=n)(hn:n<=8)(hp:2<=p)(hp2:p<=100)(hL:oV n p H v):PF 175 [aK n n H,.int .i64 p,bJ n (fun k=>v k)] (.bool true):=by
 refine PF.of_spec (aA Tryz.func175 rfl 49 Tryz.ntmps175 (by kernel_rfl) (by simp) (by simp[Tryz.results175]) ?_)
 rw[aS,Tryz.results175];simp -dsimp only[go_sem,aj,aa,reduceCtorEq,aK,bJ,bne_self_eq_false]
 repeat refine an ?_
 refine fm (fun O S=>∃i:Nat,i<=n/\O 0=aK n n H/\O 1=.int .i64 p/\O 2=bJ n (fun k=>v k)/\O 7=.int .i64 (gP (fun k=>v k) i)/\O 17=bJ n (fun k=>v k)/\O 18=.int .i64 n/\O 19=.int .i64 i) (fun O S=>n-bY (O 19)) ?_ ?_
 ·simp -dsimp only[go_sem,aa,reduceCtorEq,aK,bJ];exact⟨0,by omega,rfl,rfl⟩
 rintro Q' hQ' O S ⟨i,hi,e0,e1,e2,e7,e17,e18,e19⟩;by_cases hit:i<n
 ·have hv:=hL.lt i hit;have d1:decide (((v i:Nat):Int)<0)=false:=by simp<;>omega
  have d2:decide ((p:Int)<=((v i:Nat):Int))=false:=by simp<;>omega
  by_cases hl:gP (fun k=>((v k:Nat):Int)) i=0
  ·simp -dsimp only[go_sem,aa,reduceCtorEq,af,decide_true,aK,bJ,e0,e1,e2,e7,e17,e18,e19,hit,d1,d2,hl,beq_self_eq_true,aW (show i<1000000 by omega),bY]
   repeat refine an ?_
   refine⟨⟨i+1,by omega,?_,rfl⟩,by omega⟩
   simp only[gP,hl,if_true]
  ·have d3:(gP (fun k=>((v k:Nat):Int)) i==0)=false:=by simpa using hl
   simp -dsimp only[go_sem,aa,reduceCtorEq,af,decide_true,aK,bJ,e0,e1,e2,e7,e17,e18,e19,hit,d1,d2,d3,aW (show i<1000000 by omega),bY]
   repeat refine an ?_
   refine⟨⟨i+1,by omega,?_,rfl⟩,by omega⟩
   simp only[gP,hl,if_false]
 have hin:i=n:=by omega
 rw[hin]at e7;simp -dsimp only[go_sem,aa,↓reduceIte,reduceCtorEq,af,decide_false,ab,e0,e1,e2,e7,e17,e18,e19,hit]
 repeat refine an ?_
 rw[hQ'];simp -dsimp only[go_sem,aa,ae,↓reduceIte,reduceCtorEq,ab,e0,e1]
 repeat refine an ?_
 refine(sN n n H p h1 om h1 om om om S _ (cw _ _)).mono ?_;rintro _ S1 ⟨b,g,rfl,hM,_⟩;have hld:(gP (fun k=>((v k:Nat):Int)) n==1)=true:=by rw[hL.lead];rfl
 simp -dsimp only[go_sem,aa,ae,reduceCtorEq,ab,e0,e1,e2,e7,hld]
 repeat refine an ?_
 have hr:=oq (A:=H) (m:=(p:Int)) om;refine(uA n p (jJ H p) (fun k=>v k) hn om om (fun i j _ _=>by have:=hr i j;omega) (fun i hi=>by have:=hL.lt i hi;omega)).spec (dY.three hM.vr.va (VA.refl _ _) (VA.refl _ _)) ?_
 rw[uz,hL.norm];simp -dsimp only[go_sem,aa,e1,e2,e7,hld,beq_self_eq_true]
 repeat refine an ?_
 exact VR.mf rfl
def sT(n:Nat)(H:aU)(p:Int)(v:Nat->Int):Nat->Int:=fun i=>(aD n fun j=>H i j*v j)%p
theorem FX(n:Nat)(H:aU)(p:Int)(v:Nat->Int)(i:Nat):(aD n fun j=>jJ H (p*p) i j*v j)%p=sT n H p v i:=by
 refine lp n _ _ p fun j _=>?_;show(H i j%(p*p)*v j)%p=_;rw[dl,eu _ (Int.dvd_mul_right p p),<-dl]
theorem C2(n:Nat)(H:aU)(p:Int)(v:Nat->Int)(i:Nat):fZ n H p v i=sT n H p v i:=by
 refine lp n _ _ p fun j _=>?_;show(H i j%p*(v j%p))%p=_;rw[<-dl]
theorem nA:∀(l1 l2:List Oper) (O:Tm) (S:St) (pend:List (Nat×dn)) (K:Tm->List (Nat×dn)->Prop),zh (l1++l2) O S pend K=zh l1 O S pend (fun O' p'=>zh l2 O' S p' K)
 | [],_,_,_,_,_=>rfl
 | o::l1,l2,O,S,pend,K=>by
  simp only[List.cons_append,zh];split
  ·split
   ·exact nA l1 l2 _ _ _ _
   ·rfl
  ·simp only[nA l1 l2]
theorem qO{l:List Oper}{O:Tm}{S:St}{pend:List (Nat×dn)}{K:Tm->List (Nat×dn)->Prop}(r:Nat)(h:∀K',K'=(fun O' p'=>BB (l.drop r) O' S p' K)->BB (l.take r) O S pend K'):BB l O S pend K:=by
 have h:=h _ rfl;rw[nQ]at h ⊢;rw[<-nA,List.take_append_drop]at h;exact h
theorem JL{O:Tm}{S:St}{pend:List (Nat×dn)}{K:Tm->List (Nat×dn)->Prop}:BB [] O S pend K=K O pend:=by rw[nQ];rfl
theorem JK{ops:Array Oper}{O:Tm}{S:St}{K:Tm->St->Prop}:zR ops [] O S K=K O S:=by rw[sf];rfl
theorem Jk{c:Code}{Q:AX->Tm->St->Prop}{O:Tm}{S:St}(h:∀Q',Q'=Q->Aw c Q' O S):Aw c Q O S:=h _ rfl
theorem DO{ops:Array Oper}{O:Tm}{S:St}{K:Tm->St->Prop}(r q:Nat)(hok:uV ops q=true)
  (h:∀K',K'=(fun O' pend=>BB ((ops.toList.take q).drop r) O' S pend (fun O' pend=>if pend.isEmpty then zR ops (ops.toList.drop q) O' S K else rm pend (qG (ky (ops.toList.take q)) O') S (fun O S=>zR ops (ops.toList.drop q) O S K)))->BB ((ops.toList.take q).take r) O S [] K'):Fm ops O S K:=by
 refine bG q hok ?_;have h:=h _ rfl;rw[nQ]at h ⊢;rw[<-nA,List.take_append_drop]at h;exact h
def GE:Bool:=eS.all fun p=>(cf p).all fun x=>x==0||(oG 20 p x 0 1&&((x:Int)*(zV 20 p x 0 1%p))%p==1)
theorem AO:GE=true:=by decide +kernel
theorem Co{p:Nat}(hp:p∈eS){x:Int}(h0:0<x)(h1:x<p):oG 20 p x 0 1=true/\(x*(zV 20 p x 0 1%p))%p=1:=by
 have h:=AO;unfold GE at h;obtain⟨k,rfl⟩:=Int.eq_ofNat_of_zero_le (show 0<=x by omega)
 have h2:=az.1 (az.1 h p hp) k (ep.2 om);simp only[cW,Bool.and_eq_true,beq_iff_eq]at h2;rcases h2 with h2|h2
 ·omega
 ·exact h2
theorem Ff(S:St)(d n p piv:Nat)(H:aU)(v:Nat->Nat)(hF:kM n H)(hg:l5 (det n H) p)(hp:p∈eS)(hL:oV n p H v)(hd:bB S d 2 1 n (fun k=>.int .i64 ((v k:Nat):Int)))(hG:lf S)
  (hpiv:piv<n) (hs0:sT n H p (fun k=>v k) piv≠0) (hsz:∀i,i<piv->sT n H p (fun k=>v k) i=0) :
  cM 121 [aK n n H,.int .i64 p,.sl 1 d 0 n] S (fun r S'=>∃b t,0<=t/\t<(p:Int)/\r=.tup [.sl 1 b 0 n,.int .i64 0]/\bB S' b 2 1 n (fun k=>.int .i64 (if k=piv then((v k:Nat):Int)+p*t else v k))/\eZ S S'):=by
 have h1:=hF.one;have hn:=hF.five;have hp17:3<=p/\p<=17:=by
  simp only[eS,eU,aZ,or_false]at hp;omega
 refine aA Tryz.func121 rfl 90 Tryz.ntmps121 (by kernel_rfl) (by simp) (by simp[Tryz.results121]) ?_
 rw[aS,Tryz.results121];simp -dsimp only[go_sem,aj,aa,ae,reduceCtorEq,ab]
 repeat refine an ?_
 refine(CA S n p H hF hg hp hG).mono ?_;rintro _ S1 ⟨rfl,hE1⟩;have hd1:=hE1.has hd;simp -dsimp only[go_sem,aa,ae,reduceCtorEq,ab]
 repeat refine an ?_
 refine(Eu n p H v h1 om om om hL).spec (dY.three (VA.refl _ _) (VA.refl _ _) (nO.vr (show nO S1 d n (fun k=>v k)from hd1)).va) ?_;have hpp:(p:Int)*p<=289/\9<=(p:Int)*p:=by
  rw[<-di];have a:=ci hp17.2 hp17.2;have b:=ci hp17.1 hp17.1;omega
 have wpp:IntKind.i64.wrap ((p:Int)*p)=(p:Int)*p:=i64_in om om;simp -dsimp only[go_sem,aa,ae,reduceCtorEq,ab,wpp]
 repeat refine an ?_
 refine(sN n n H (p*p) h1 om h1 om om om S1 _ (cw _ _)).mono ?_;rintro _ S2 ⟨br,gr,rfl,hR,hE2,_,_⟩;have hd2:=hE2.has hd1;simp -dsimp only[go_sem,aa,ae,reduceCtorEq,ab]
 repeat refine an ?_
 refine(wO S2 d n (fun k=>v k) om om hd2).mono ?_;rintro _ S3 ⟨bx,rfl,hx3,hE3,hbx⟩;have hd3:=hE3.has hd2;have hR3:=hR.ext hE3;simp -dsimp only[go_sem,aa,reduceCtorEq]
 repeat refine an ?_
 have hr:=oq (A:=H) (m:=(p:Int)*p) om;have hvr:∀i,i<n->(0:Int)<=(v i:Nat)/\((v i:Nat):Int)<=16:=fun i hi=>by have:=hL.lt i hi;omega
 have hE13:eZ S S3:=(hE1.trans hE2).trans hE3;refine fm (fun O S=>∃i:Nat,i<=piv/\S3=S/\O 1=.int .i64 p/\O 2=.sl 1 d 0 n/\O 9=.sl 1 br 0 n/\O 11=.sl 1 bx 0 n/\O 39=.sl 1 br 0 n/\O 40=.int .i64 n/\O 41=.int .i64 i) (fun O S=>n-bY (O 41)) ?_ ?_
 ·simp -dsimp only[go_sem,aa,reduceCtorEq];exact⟨0,by omega,rfl⟩
 rintro Q' hQ' O _ ⟨i,hi,rfl,e1,e2,e9,e11,e39,e40,e41⟩;have hin:i<n:=by omega
 obtain⟨g1,u1,v1⟩:=id hR3.outer;have x1:g1 i=.sl 1 (gr i) 0 n:=v1 i hin;simp -dsimp only[go_sem,aa,ae,↓reduceIte,af,decide_true,ab,e1,e2,e39,e40,e41,hin,u1,x1]
 repeat refine an ?_
 refine(AK n p (jJ H (p*p) i) (fun k=>v k) om om (fun j hj=>by have:=hr i j;omega) (fun j hj=>by have:=hvr j hj;omega)).spec (dY.three (nO.vr (hR3.row i hin)).va (nO.vr (show nO S3 d n (fun k=>v k)from hd3)).va (VA.refl _ _)) ?_
 rw[FX];by_cases hip:i<piv
 ·simp -dsimp only[go_sem,aa,↓reduceIte,reduceCtorEq,e1,e2,e9,e11,e39,e40,e41,hsz i hip,beq_self_eq_true,aW (show i<1000000 by omega),bY]
  repeat refine an ?_
  exact⟨⟨i+1,by omega,rfl⟩,by omega⟩
 obtain rfl:i=piv:=by omega
 have hsb:(sT n H p (fun k=>v k) i==0)=false:=by simpa using hs0
 have hsr:0<=sT n H p (fun k=>v k) i/\sT n H p (fun k=>v k) i<p:=⟨aT _ om,aM _ om⟩;generalize hsl:sT n H p (fun k=>v k) i=sl at *;have w2:IntKind.i64.wrap (2*sl)=2*sl:=i64_in om om;simp -dsimp only[go_sem,aa,↓reduceIte,reduceCtorEq,e1,e2,e9,e11,e39,e40,e41,hsb,w2]
 repeat refine an ?_
 refine aG.intro fun b55 f55=>?_
 try simp -dsimp only[go_sem,aa]
 refine aG.intro fun b56 f56=>?_;have n56_55:=(ai f56).1
 try simp -dsimp only[go_sem,aa,aq,ae,e1]
 have hIM:dD ((S3.upd b55 ⟨2,1,1,fun j=>[AV.int .i64 (2*sl)].getD j .any⟩).upd b56 ⟨29,1,1,fun j=>[AV.sl 1 b55 0 1].getD j .any⟩) b56 (fun _=>b55) 1 1 (fun _ _=>2*sl):=by
  refine⟨bB.here fun j hj=>?_,fun j _=>bB.upd (bB.here fun k hk=>?_) n56_55.symm _,fun i j h1 h2 _=>by omega⟩
  ·obtain rfl:j=0:=by omega
   rfl
  ·obtain rfl:k=0:=by omega
   rfl
 have f56':S3 b56=ac:=by rwa [aQ n56_55]at f56
 have up2:∀{b ty es m:Nat} {g:Nat->AV},bB S3 b ty es m g->bB ((S3.upd b55 ⟨2,1,1,fun j=>[AV.int .i64 (2*sl)].getD j .any⟩).upd b56 ⟨29,1,1,fun j=>[AV.sl 1 b55 0 1].getD j .any⟩) b ty es m g:=fun h=>(h.upd (h.fresh f55) _).upd (h.fresh f56') _;have hE35:eZ S3 ((S3.upd b55 ⟨2,1,1,fun j=>[AV.int .i64 (2*sl)].getD j .any⟩).upd b56 ⟨29,1,1,fun j=>[AV.sl 1 b55 0 1].getD j .any⟩):=((eZ.refl S3).upd f55 _).upd f56' _;have h2s:0<2*sl%p/\2*sl%p<p:=by
  have a:=aT (2*sl) (show(p:Int)≠0 by omega)
  have b:=aM (2*sl) (show(0:Int)<p by omega)
  have c:2*sl%p≠0:=fun h=>by
   rcases pQ hp 2 sl (cF h)with h|h
   ·have:=Int.le_of_dvd om h;omega
   ·exact hs0 (by have:=ed h;rwa [d9 hsr.1 hsr.2]at this)
  omega
 obtain⟨heo,_⟩:=Co hp h2s.1 h2s.2;refine(rh 20 (2*sl) p om om heo _ _ (dY.two hIM.vr.va (VA.refl _ _))).mono ?_;rintro _ S4 ⟨bi,gi,rfl,hI4,hE4,_,_⟩;have hiv:0<=zV 20 p (2*sl%p) 0 1%p/\zV 20 p (2*sl%p) 0 1%p<p:=⟨aT _ om,aM _ om⟩;generalize zV 20 p (2*sl%p) 0 1%p=iv at *;have hE34:eZ S3 S4:=hE35.trans hE4;have hx4:=hE34.has hx3;have hd4:=hE34.has hd3;have hR4:=hR3.ext hE34;obtain⟨gb,ub,vb⟩:=id hI4.outer;obtain⟨gc,uc,vc⟩:=id (hI4.row 0 om);obtain⟨gx,ux,vx⟩:=id hx4;have xb:gb 0=.sl 1 (gi 0) 0 1:=vb 0 om;have xc:gc 0=.int .i64 iv:=vc 0 om;have xx:gx i=.int .i64 (v i:Nat):=vx i hin;have hN:fD n (jJ H (p*p)) (fun k=>v k) n%(p*p)=fD n H (fun k=>v k) n%(p*p):=uz n H _ _;have hN0:=aT (fD n H (fun k=>v k) n) (show(p:Int)*p≠0 by omega)
 have hN1:=aM (fD n H (fun k=>v k) n) (show(0:Int)<p*p by omega)
 generalize hNN:fD n H (fun k=>v k) n%((p:Int)*p)=N at *;have hk0:0<=N/p/\N/p<p:=by
  refine⟨Int.ediv_nonneg hN0 om,?_⟩;exact Int.ediv_lt_of_lt_mul om hN1
 have k1:IntKind.i64.wrap (N.tdiv p)=N/p:=by rw[Int.tdiv_eq_ediv_of_nonneg hN0];exact i64_in om om
 have k2:IntKind.i64.wrap (p-N/p)=p-N/p:=i64_in om om;have hm0:0<=(p-N/p)*iv/\(p-N/p)*iv<=289:=by
  have:=cH (show(p:Int)-N/p<=17 by omega) (show iv<=17 by omega) hiv.1 om
  exact⟨cY om hiv.1,by omega⟩
 have k3:IntKind.i64.wrap ((p-N/p)*iv)=(p-N/p)*iv:=i64_in om om;have k4:((p-N/p)*iv).tmod p=(p-N/p)*iv%p:=aL hm0.1;have ht0:=aT ((p-N/p)*iv) (show(p:Int)≠0 by omega)
 have ht1:=aM ((p-N/p)*iv) (show(0:Int)<p by omega)
 generalize hT:(p-N/p)*iv%(p:Int)=t at *;have hpt:0<=(p:Int)*t/\(p:Int)*t<=289:=by
  have:=cH (show(p:Int)<=17 by omega) (show t<=17 by omega) ht0 om
  exact⟨cY om ht0,by omega⟩
 have k5:IntKind.i64.wrap (p*t)=p*t:=i64_in om om;have hvi:=hvr i hin;have k6:IntKind.i64.wrap (((v i:Nat):Int)+p*t)=((v i:Nat):Int)+p*t:=i64_in om om;have hp0:¬(p:Int)=0:=by omega
 simp -dsimp only[go_sem,aa,e1]
 repeat refine an ?_
 refine DO 7 19 (by kernel_rfl) fun K' hK'=>?_
 simp -dsimp only[go_sem,aa,ae,reduceCtorEq,ab,e1,e2,e9,wpp]
 repeat refine an ?_
 refine⟨_,(uA n (p*p) (jJ H (p*p)) (fun k=>v k) om om om (fun i j _ _=>by have:=hr i j;omega) (fun j hj=>by have:=hvr j hj;omega)).pureS (dY.three hR4.vr.va (nO.vr (show nO S4 d n (fun k=>v k)from hd4)).va (VA.refl _ _)),?_⟩
 rw[di,hN,hK'];refine qO 7 fun K'' hK''=>?_;simp -dsimp only[go_sem,aa,ae,↓reduceIte,reduceCtorEq,ay,ab,e1,ub,xb,hp0,k1,k2]
 repeat refine an ?_
 rw[hK''];refine qO 3 fun K3 hK3=>?_;simp -dsimp only[go_sem,aa,ae,↓reduceIte,reduceCtorEq,ab,e1,uc,xc,k3]
 repeat refine an ?_
 suffices key:∀O':Tm,O' 1=.int .i64 p->O' 11=.sl 1 bx 0 n->O' 12=.int .i64 i->O' 76=.int .i64 ((p-N/p)*iv)->O' 77=.int .i64 p->K3 O' [] by
  refine key _ ?_ ?_ ?_ ?_ ?_<;>simp -dsimp only[go_sem,aa,e1,e11]
 clear e1 e2 e9 e11 e39 e40 e41 hK' hK'';intro O' e1 e11 e12 e76 e77;rw[hK3];refine qO 2 fun K4 hK4=>?_;simp -dsimp only[go_sem,e76,e77,hp0,k4]
 repeat refine an ?_
 rw[hK4];clear hK4 hK3;rw[show(List.drop 2 (List.drop 3 (List.drop 7 (List.drop 7 (List.take 19 (Array.toList _))))))=([]:List Oper)from rfl];dsimp only;rw[JL];rw[show List.isEmpty ([]:List (Nat×dn))=true from rfl,if_pos rfl];rw[show(List.drop 19 (Array.toList _))=([]:List Oper)from rfl];rw[JK];refine Jk fun Q3 hQ3=>?_;simp -dsimp only[go_sem,aa,↓reduceIte,reduceCtorEq,af,ab,e1,e11,e12,hin,ux,xx,k5,k6]
 repeat refine an ?_
 rw[hQ3];simp -dsimp only[go_sem,↓reduceIte,reduceCtorEq]
 repeat refine an ?_
 rw[hQ'];simp -dsimp only[go_sem,aa,↓reduceIte]
 repeat refine an ?_
 refine⟨bx,t,ht0,ht1,by rw[e11],bB.here fun j hj=>?_,fun k Y hY=>?_⟩
 ·show bK gx i _ j=_;unfold bK;by_cases hji:j=i
  ·rw[if_pos hji,hji,if_pos rfl]
  ·rw[if_neg hji,if_neg hji];exact vx j hj
 ·have hk:k≠bx:=fun e=>by
   subst e;have:=hE2 k Y (hE1 k Y hY);rw[hbx]at this;cases this
  rw[aQ hk];exact(hE13.trans hE34) k Y hY
theorem FY(n piv r:Nat):1<=wj n piv r:=by unfold wj;split<;>(try split)<;>omega
theorem zk{n:Nat}(f:Nat->Int){j:Nat}(hj:j<n):(f j).natAbs<=cO n f:=by
 have:=ig f hj;omega
theorem El{n:Nat}{p:Int}{piv:Nat}{q x:Nat->Int}(h1:1<=n)(hn:n<=5)(hp:0<p)(hp2:p<=17)(hpiv:piv<n)(hq:∀j,j<n->0<=q j/\q j<=16)(hx:∀i,i<n->i≠piv->(x i).natAbs<=16)(hxp:(x piv).natAbs<=288) :
  kh n (dp n (zU n p piv q x)):=by
 have hrow:=KM hn hp hp2 hpiv hq hx hxp;refine⟨h1,hn,fun σ k hE k' i j hj hi=>?_,AE om hpiv q x,fun R hR1 hR2 _ σ neg k hE k' i j hi hj=>?_,fun r j hr hj=>?_⟩
 ·have h:=t8 hrow (k:=k') (i:=i) (j:=j) hj hE.sum;have h2:=Dg (n:=n) (piv:=piv) (k:=k') (r:=k'+i) om om om om om;unfold nb;exact fH (bW h h2) (by decide)
 ·have h:=wg (B:=wM (dp n (zU n p piv q x)) n R) (N:=n+1) (f:=fun t=>wj n piv (qb n R t)) (fun r _=>hrow _) (fun r _=>FY _ _ _) (k:=k') (i:=i) (j:=j) hi hj hE.row;have h2:=Dg (n:=n) (piv:=piv) (k:=n) (r:=R) om om om om om;unfold nb;refine fH (bW h (bW (r7 (kH fun a _=>?_)) h2)) (by decide)
  rfl
 ·have h:=zk (dp n (zU n p piv q x) r) hj;have h2:=hrow r;have h3:wj n piv r<=1665:=by unfold wj;split<;>(try split)<;>omega
  unfold nb;omega
def Be(n:Nat):Nat:=gC 31 n+gC 31 n+8+31
theorem E5.up{n:Nat}{A:aU}{R:Nat}{H U:aU}(hT:E5 n A R H U){i j:Nat}(hi:i<n)(hj:j<n+1):jm (n+1) (fun k r=>A r k) U j i=H i j:=by
 rw[<-hT.mu i j om hj];unfold jm mm;refine aP fun k hk=>?_;show A i k*U k j=wM A n R i k*U k j;unfold wM qb;rw[if_pos hi]
theorem E5.ubits{n:Nat}{A:aU}(hP:kh n A){R:Nat}{H U:aU}(hT:E5 n A R H U)(hH:∀i j,i<n+1->j<n+1->nb (H i j) 31){a c:Nat}(ha:a<n+1)(hc:c<n+1):nb (U a c) (gC 31 n+gC 31 n+8):=by
 have hwe:∀i j,i<n+1->j<n+1->nb (wM A n R i j) 31:=fun i j hi hj=>hP.hent _ _ (by have:=hT.r2;unfold qb;split<;>omega) hj
 have hAb:∀i j,i<n+1->j<n+1->nb (lj (n+1) (wM A n R) i j) (gC 31 n):=fun i j hi hj=>by
  have h:=uR (by have:=hP.hn;omega) om hwe n i j hi hj
  unfold lj;split
  ·exact h.neg
  ·exact h
 have e:mm (n+1) (lj (n+1) (wM A n R)) H a c=det (n+1) (wM A n R)*U a c:=by
  have e1:mm (n+1) (lj (n+1) (wM A n R)) H a c=mm (n+1) (lj (n+1) (wM A n R)) (mm (n+1) (wM A n R) U) a c:=uH (fun _ _=>rfl) fun k hk=>(hT.mu k c hk hc).symm;rw[e1,<-qv];unfold mm;rw[aP (g:=fun k=>(if a=k then det (n+1) (wM A n R)else 0)*U k c) fun k hk=>by
   show mm (n+1) (lj (n+1) (wM A n R)) (wM A n R) a k*U k c=_;rw[pi om _ ha hk]]
  rw[aP (g:=fun k=>(if a=k then 1 else 0)*(det (n+1) (wM A n R)*U k c)) fun k _=>by split<;>simp]
  rw[lr ha]
 have hb:nb (det (n+1) (wM A n R)*U a c) (gC 31 n+gC 31 n+8):=by
  rw[<-e];exact Dz (by have:=hP.hn;omega) hAb (fun i j hi hj=>(hH i j hi hj).mono (mR 31 n)) ha hc
 unfold nb at hb ⊢;rw[Int.natAbs_mul]at hb;have:1<=(det (n+1) (wM A n R)).natAbs:=by have:=hT.dt;omega
 exact fH (bW (r7 (Nat.one_mul _).symm) (Nat.mul_le_mul_right _ this)) hb
theorem E5.herm{n:Nat}{A:aU}(hP:kh n A){R:Nat}{H U:aU}(hT:E5 n A R H U)(hpr:∀r c,n<=r->r<n+n+1->c<n+1->A r c=if r=n+c then 1 else 0) :
  (∀a r,a<n+1->r<n+n+1->nb (jm (n+1) (fun k r=>A r k) U a r) (Be n))/\yc n (Be n) (fun i j=>jm (n+1) (fun k r=>A r k) U j i)/\(∀x,ik (n+1) (n+1) H x↔ik (n+1) (n+1) (wM A n R) x)/\∀i,i<n->H i n=0:=by
 obtain⟨d,M,hTL,hM0,hHI⟩:=hT.tl;have hdl:=hP.dlt hT.r1 hT.r2 hT.dt;have hd:∀i,i<n+1->0<d i/\d i<2147483648:=fun i hi=>by
  have h1:=hTL.pos i hi;have h2:=hTL.d_le hi;omega
 have hup:∀r c,r<c->c<n+1->H r c=0:=fun r c h1 h2=>(hHI.done c h2).1 r h1;have hdg:∀c,c<n+1->H c c=d c:=fun c hc=>(hHI.done c hc).2.1;have hrg:∀c j,c<n+1->j<c->0<=H c j/\H c j<d c:=fun c j hc hj=>(hHI.done j om).2.2 c hj hc;have hH:∀i j,i<n+1->j<n+1->nb (H i j) 31:=fun i j hi hj=>by
  unfold nb;rcases dJ i j with h|h|h
  ·rw[hup i j h hj];decide
  ·subst h;rw[hdg i hi];have:=hd i hi;omega
  ·have h1:=hrg i j hi h;have h2:=hd i hi;omega
 have hH2:∀i j,i<n->j<n+1->nb (jm (n+1) (fun k r=>A r k) U j i) (Be n):=fun i j hi hj=>by
  rw[hT.up hi hj];exact(hH i j om hj).mono (by unfold Be;omega)
 refine⟨fun a r ha hr=>?_,⟨fun r c h1 h2 h3=>?_,fun c hc=>?_,fun c j hc hj=>?_,hH2⟩,fun x=>?_,fun i hi=>hup i n hi om⟩
 ·rcases Nat.lt_or_ge r n with h|h
  ·exact hH2 r a h ha
  ·have e:jm (n+1) (fun k r=>A r k) U a r=U (r-n) a:=by
    unfold jm;rw[aP (g:=fun k=>(if r-n=k then 1 else 0)*U k a) fun k hk=>by
     show A r k*U k a=_;rw[hpr r k h hr hk];by_cases e:r=n+k
     ·rw[if_pos e,if_pos om]
     ·rw[if_neg e,if_neg om]]
    exact lr om _
   rw[e];exact(hT.ubits hP hH om ha).mono (by unfold Be;omega)
 ·show jm (n+1) (fun k r=>A r k) U c r=0;rw[hT.up h2 h3];exact hup r c h1 h3
 ·show 0<jm (n+1) (fun k r=>A r k) U c c;rw[hT.up hc om,hdg c om];exact(hd c om).1
 ·show 0<=jm (n+1) (fun k r=>A r k) U j c/\jm (n+1) (fun k r=>A r k) U j c<jm (n+1) (fun k r=>A r k) U c c;rw[hT.up hc om,hT.up hc om,hdg c om];exact hrg c j om hj
 ·exact hHI.span hTL x
theorem oX.members{n k:Nat}{M B:aU}(hP:kh n (dp n M))(h:oX n k (dp n M) B):∀y,ik n n B y↔ik n (n+1) M y:=by
 obtain⟨R,H,U,hT,hH,rfl⟩:=h.ex;intro y;obtain⟨_,_,hL,hz⟩:=hT.herm hP (fun r c h1 _ h3=>by unfold dp;rw[if_neg om])
 have h1:ik n n H y↔ik n (n+1) M y:=Gt (w:=wM (dp n M) n R) (fun i j hi hj=>by
  unfold wM qb dp;rw[if_pos hi,if_pos hi]) hL hz y
 rw[<-h1];have key:∀i,i<n->∀c:kX,aD n (fun j=>jm (n+1) (fun k r=>dp n M r k) U j i*c j)=aD n (fun j=>H i j*c j):=fun i hi c=>aP fun j hj=>by rw[hT.up hi om]
 constructor
 ·rintro⟨c,hc⟩;exact⟨c,fun i hi=>by rw[hc i hi,key i hi c]⟩
 ·rintro⟨c,hc⟩;exact⟨c,fun i hi=>by rw[hc i hi,<-key i hi c]⟩
theorem oX.ent{n k:Nat}{M B:aU}(hP:kh n (dp n M))(h:oX n k (dp n M) B):∀i j,i<n->j<n->nb (B i j) 31:=by
 obtain⟨R,H,U,hT,hH,rfl⟩:=h.ex;intro i j hi hj;show nb (jm (n+1) (fun k r=>dp n M r k) U j i) 31;rw[hT.up hi om];obtain⟨d,M',hTL,hM0,hHI⟩:=hT.tl;have hdl:=hP.dlt hT.r1 hT.r2 hT.dt;have hd:∀i,i<n+1->0<d i/\d i<2147483648:=fun i hi=>by
  have h1:=hTL.pos i hi;have h2:=hTL.d_le hi;omega
 unfold nb;rcases dJ i j with h|h|h
 ·rw[(hHI.done j om).1 i h];decide
 ·subst h;rw[(hHI.done i om).2.1];have:=hd i om;omega
 ·have h1:=(hHI.done j om).2.2 i h om;have h2:=hd i om;omega
theorem oX.herm{n k:Nat}{M B:aU}(h:oX n k (dp n M) B):yc n k B:=by
 obtain⟨R,H,U,hT,hH,rfl⟩:=h.ex;exact hH
end Go.Proofs.YtdobfmlmenaajaaGreatDoor
