/-
  Lemmas for NeighbourKeeps.
-/
import Derived.Test.YtdobfmlmenaajaaGreatDoorL29
namespace Go.Proofs.YtdobfmlmenaajaaGreatDoor
open Go.RowKit Tryz
open _root_.Bool renaming or_eq_true→fL
open _root_.Classical renaming byContradiction→cU
open _root_.Int renaming emod_lt_of_pos→aU,emod_nonneg→a9,natCast_mul→bO,mul_le_mul→bW,dvd_of_emod_eq_zero→de,mul_nonneg→dA,emod_eq_of_lt→dS,toNat_natCast→eN,mul_emod→ft,emod_eq_zero_of_dvd→il,eq_ofNat_of_zero_le→jI,emod_emod_of_dvd→kV,le_refl→rn
open _root_.List renaming all_eq_true→ap,not_mem_nil→aG,mem_cons→du,range→dY,mem_range→jH
open _root_.Nat renaming add_one_le_iff→aa,zero_add→aJ,le_trans→bI,mul_le_mul→bK,sub_zero→c9,lt_of_le_of_lt→eE,le_of_eq→un
open _root_.Ne renaming symm→ai
open _root_.Option renaming none→ae
open _root_.Or renaming inr→aK,inl→bn
set_option maxHeartbeats 6400000
set_option maxRecDepth 4096
set_option linter.all false
attribute [local go_sem] Nat.reduceAdd Nat.reduceEqDiff Nat.reduceLeDiff Nat.reduceLT reduceCtorEq Int.ofNat_lt decide_true decide_false Int.zero_le_ofNat
attribute [local go_sem ↓] reduceIte
variable{Q:AX->Tm->St->Prop}{ops:Array Oper}{c:Code}{D d q:Int}{pend:List (Nat×dH)}{l:List Oper}{R b b6 b7 b9 i k n p piv:Nat}{g0:Nat->AV}{m m' v x:Nat->Int}{P:Nat->Prop}{S S' S0:St}{O:Tm}{K:Tm->List (Nat×dH)->Prop}{A B H L T:aB}{M:oC}
def DK:List AV:=[.int .i64 7,.int .i64 11,.int .i64 13,.int .i64 17,.int .i64 19,.int .i64 23,.int .i64 29,.int .i64 31]
def iT(S:St):Prop:=∃ty,aR S 0 ty 1 8 (fun j=>DK.getD j .any)
theorem iT.ext(h:iT S)(a:cY S S'):iT S':=by
 obtain⟨ty,h⟩:=h;exact⟨ty,a.has h⟩
def Nw:List Int:=[2,3,5]
def dvA:List AV:=[.int .i64 2,.int .i64 3,.int .i64 5]
theorem IC(a:i<3):dvA.getD i .any=.int .i64 (Nw.getD i 0)/\Nw.getD i 0≠0:=by
 rcases (om:i=0∨i=1∨i=2)with rfl|rfl|rfl<;>exact⟨rfl,by decide⟩
theorem In(a:i<3)(K:AV->Prop):yU 238 (.agg [.int .i64 2,.int .i64 3,.int .i64 5]) (.int .i64 i) K=K (.int .i64 (Nw.getD i 0)):=by
 rw[<-(IC a).1];unfold yU;apply propext;constructor
 ·rintro (⟨h,_⟩|⟨_,_,_,h⟩)
  ·exact absurd h dc
  ·rwa [eN]at h
 ·intro h;exact aK ⟨bn ⟨rfl,rfl⟩,by simp[dN],⟨om,by simp;omega⟩,by rwa [eN]⟩
theorem Mt(K:AV->Prop):yU 239 (.agg DK) (.int .i64 0) K=K (.int .i64 7):=by
 unfold yU;apply propext;constructor
 ·rintro (⟨h,_⟩|⟨_,_,_,h⟩)
  ·exact absurd h dc
  ·exact h
 ·intro h;exact aK ⟨aK ⟨rfl,rfl⟩,by simp[dN,DK],⟨om,by simp[DK]⟩,h⟩
theorem Ib(a:iT S):∃ty g,S 0=some ⟨ty,1,8,g⟩/\dD g 0 8=DK:=by
 obtain⟨ty,g,u,v⟩:=a;refine⟨ty,g,u,?_⟩;simp only[dD,v 0 om,v 1 om,v 2 om,v 3 om,v 4 om,v 5 om,v 6 om,v 7 om];rfl
theorem lu(S:St)(p:Int)(k:Nat)(B:k<=3)(w:∀i,i<k->(p.tmod (Nw.getD i 0)==0)=false)(x:k<3->(p.tmod (Nw.getD k 0)==0)=true/\Nw.getD k 0=p)(C:p<49)(y:iT S) :
  cL 256 [.int .i64 p] S (fun r S'=>r=.int .i64 p/\S'=S):=by
 refine ak func256 rfl 42 ntmps256 kr sm (by simp[results256]) ?_
 rw[aF,results256];simp -dsimp only[go_sem];refine cg (fun O S'=>∃i:Nat,i<=k/\S'=S/\O 0=.int .i64 p/\O 10=.agg [.int .i64 2,.int .i64 3,.int .i64 5]/\O 11=.int .i64 i) (fun O S=>3-bT (O 11)) ?_ ?_
 ·simp -dsimp only[go_sem];exact⟨0,om,rfl⟩
 rintro Q' c O S' ⟨i,D,rfl,d,f,h⟩;by_cases e:i<3
 ·obtain⟨_,j⟩:=IC e;have l:decide ((i:Int)<3)=true:=by simp;omega
  by_cases n:i<k
  ·simp -dsimp only[go_sem,d,f,h,l,In e,j,w i n,aM (om:i<1000000),bT]
   exact⟨⟨i+1,om,rfl⟩,om⟩
  ·obtain rfl:i=k:=om
   obtain⟨a,b⟩:=x e;simp -dsimp only[go_sem,d,f,h,l,In e,j,a];rw[c];simp -dsimp only[go_sem,b]
 have l:decide ((i:Int)<3)=false:=by simp;omega
 simp -dsimp only[go_sem,d,f,h,l];rw[c];simp -dsimp only[go_sem,d];refine cg (fun O S1=>S1=S'/\O 0=.int .i64 p/\O 5=.int .i64 p/\O 6=.int .i64 0) (fun O S=>0) ?_ ?_
 ·simp -dsimp only[go_sem,d]
 clear c;rintro Q' c O S1 ⟨rfl,d,m,o⟩;obtain⟨ty,g,uG,vG⟩:=Ib y;simp -dsimp only[go_sem,aa,uG,vG,show eU 239=some (1,8)from rfl,(om:¬(8:Nat)=1)]
 refine cg (fun O S2=>S2=S1/\O 0=.int .i64 p/\O 5=.int .i64 p/\O 6=.int .i64 0/\O 23=.agg DK/\O 24=.int .i64 0) (fun O S=>0) ?_ ?_
 ·simp -dsimp only[go_sem,d,m,o]
 rintro Q2 q O S2 ⟨rfl,d,m,o,s,t⟩;have z:decide ((0:Int)<8)=true:=by decide
 have u:decide (p<49)=true:=by simp;omega
 have A:IntKind.i64.wrap (0+7)=7:=by rw[i64_in om om];omega
 have v:IntKind.i64.wrap (7*7)=49:=by rw[i64_in om om];omega
 simp -dsimp only[go_sem,d,m,o,s,t,z,Mt,A,v,u];rw[q];simp -dsimp only[go_sem];rw[c];simp -dsimp only[go_sem,m]
def cM:List Nat:=[3,5,7,11,13,17]
theorem j9.six(h:j9 D p)(c:p<=17):p∈cM:=by
 obtain⟨d,f,⟨_,a⟩,_⟩:=h;have g:p≠9:=fun e=>by subst e;exact a 3 om om om
 have b:p≠15:=fun e=>by subst e;exact a 3 om om om
 simp only[cM,du,aG,or_false];omega
def H9:Bool:=cM.all fun p=>(dY p).all fun x=>(dY p).all fun y=>x==0||y==0||(x*y)%p != 0
theorem Cp:H9=true:=by decide +kernel
theorem oT(f:p∈cM)(a b:Int)(h:(p:Int)∣a*b):(p:Int)∣a∨(p:Int)∣b:=by
 have k:0<p:=by
  simp only[cM,du,aG,or_false]at f;omega
 have d:=a9 a (show(p:Int)≠0 by omega)
 have e:=a9 b (show(p:Int)≠0 by omega)
 have l:=aU a (show(0:Int)<p by omega)
 have m:=aU b (show(0:Int)<p by omega)
 obtain⟨x,g⟩:=jI d;obtain⟨y,i⟩:=jI e;have j:=Cp;unfold H9 at j;have c:=ap.1 (ap.1 (ap.1 j p f) x (jH.2 om)) y (jH.2 om);have n:=il h;rw[ft,g,i,<-bO,<-Int.natCast_emod]at n;simp only[fL,beq_iff_eq,bne_iff_ne,ne_eq]at c;rcases c with (c|c)|c
 ·exact bn (de (by rw[g,c];rfl))
 ·exact aK (de (by rw[i,c];rfl))
 ·exact absurd om c
theorem J2(S:St)(p:Nat)(b:p∈cM)(a:iT S):cL 256 [.int .i64 p] S (fun r S'=>r=.int .i64 p/\S'=S):=by
 simp only[cM,du,aG,or_false]at b;rcases b with rfl|rfl|rfl|rfl|rfl|rfl
 ·exact lu S 3 1 om dc (fun _=>by decide) dc a
 ·exact lu S 5 2 om dc (fun _=>by decide) dc a
 ·exact lu S 7 3 om dc (fun h=>om) dc a
 ·exact lu S 11 3 om dc (fun h=>om) dc a
 ·exact lu S 13 3 om dc (fun h=>om) dc a
 ·exact lu S 17 3 om dc (fun h=>om) dc a
theorem EC(S:St)(p:Nat)(b:p∈cM)(e:iT S):cL 221 [.int .i64 p] S (fun r S'=>r=.bool true/\S'=S):=by
 refine ak func221 rfl 15 ntmps221 kr sm (by simp[results221]) ?_
 rw[aF,results221];have f:3<=p/\p<=17:=by
  have a:=b;simp only[cM,du,aG,or_false]at a;omega
 have c:decide ((2:Int)<=(p:Int))=true:=by simp;omega
 have d:decide ((p:Int)<=2147483647)=true:=by simp;omega
 simp -dsimp only[go_sem,aa,c,d];refine(J2 S p b e).mono ?_;rintro _ S' ⟨rfl,rfl⟩;simp -dsimp only[go_sem,c,d,beq_self_eq_true]
theorem Eh(S:St)(n p:Nat)(H:aB)(a:gH n H)(j:j9 (det n H) p)(c:p∈cM)(k:iT S):cL 174 [ax n n H,.int .i64 p] S (fun r S'=>r=.int .i64 0/\cY S S'):=by
 refine ak func174 rfl 33 ntmps174 kr sm (by simp[results174]) ?_
 rw[aF,results174];have l:3<=p/\p<=17:=by
  have e:=c;simp only[cM,du,aG,or_false]at e;omega
 have g:((p:Int)==2)=false:=by simp;omega
 have i:decide ((9973:Int)<(p:Int))=false:=by simp;omega
 simp -dsimp only[go_sem,aa];refine(pk n H a).call ?_;simp -dsimp only[go_sem,aa,g,i];refine(EC S p c k).mono ?_;rintro _ S' ⟨rfl,rfl⟩;simp -dsimp only[go_sem,aa,g,i];have m:=((De n H p a.one (by have:=a.five;omega) om om (oT c) (fun h=>j.2.2.2 (il h))).less (post':=fun r S'=>(∃d:Int,d≠0/\r=.tup [.int .i64 d,.int .i64 0])/\S'=St.none) fun r S' h=>⟨St.none,(fun b X f=>by simp[St.none]at f),h,rfl⟩).frame (cD S' _) (by rintro r S1 ⟨⟨d,_,rfl⟩,rfl⟩;exact⟨rfl,fun b X f=>by simp[St.none]at f⟩)
 refine m.mono ?_;rintro _ S2 ⟨S1,⟨⟨d,o,rfl⟩,rfl⟩,_,rfl⟩;have q:(d==0)=false:=by simpa using o
 simp -dsimp only[go_sem,q,bne_self_eq_false];exact lU _ _

theorem Gy{c:Nat}{K:AV->St->Prop}(a:S b=some ⟨2,1,0,g0⟩)(k:aR S c 2 1 n (fun j=>.int .i64 (v j)))(l:0<n)(p:n<=1000)
  (m:∀b' h,(b'=b∨S b'=ae)->(∀j,j<n->h j=.int .i64 (v j))->K (.sl 1 b' 0 n) ((S.del b).upd b' ⟨2,1,n,h⟩)):fZ 29 29 (.sl 1 b 0 0) (.sl 1 c 0 n) S K:=by
 obtain⟨g,u,w⟩:=k;have d:c≠b:=by rintro rfl;rw[u]at a;cases a;omega
 have o:zN S (.sl 1 c 0 n)=some (1,n,fun j=>g (0+j),some c):=by simp[zN,u]
 unfold fZ;rw[show dw 29=some 2 from rfl,o];refine⟨rfl,rfl,rfl,l,fun j f=>?_,?_⟩
 ·show dN 1 (g (0+j));rw[aJ,w j f];simp[dN]
 ·simp only[a];refine⟨trivial,trivial,trivial,trivial,trivial,om,fun e=>d (Option.some.inj e),fun b' i=>?_⟩
  rw[aJ];refine m b' _ i fun j f=>?_;unfold oB;split
  ·have:j=0:=om
   subst this;simp only[aL,if_true,aJ];exact w 0 om
  ·simp only[Nat.not_lt_zero,if_false,c9,aJ];exact w j f
theorem MH{K:AV->St->Prop}:cI 29 0 [] S K=au S (fun b=>K (.sl 1 b 0 0) (S.upd b ⟨2,1,0,fun j=>([]:List AV).getD j .any⟩)):=by
 simp only[cI,dw,bS];simp[d9,fD,au]
theorem zf(S:St)(d n:Nat)(v:Nat->Int)(p:0<n)(q:n<=1000)(i:aR S d 2 1 n (fun j=>.int .i64 (v j))) :
  cL 177 [.sl 1 d 0 n] S (fun r S'=>∃b,r=.sl 1 b 0 n/\aR S' b 2 1 n (fun j=>.int .i64 (v j))/\cY S S'/\S b=ae):=by
 refine ak func177 rfl 8 ntmps177 kr sm (by simp[results177]) ?_
 rw[aF,results177];simp -dsimp only[go_sem,MH];refine au.intro fun l c=>?_;have f:=i.upd (i.fresh c) ⟨2,1,0,fun j=>([]:List AV).getD j .any⟩
 try simp -dsimp only[go_sem]
 refine Gy bR f p q ?_;intro b' h g s;have m:S b'=ae:=by
  rcases g with rfl|h
  ·exact c
  ·by_cases e:b'=l
   ·rw[e];exact c
   ·rw[aH e]at h;exact h
 simp -dsimp only[go_sem];refine⟨b',rfl,aR.here s,fun k X a=>?_,m⟩;have t:k≠b':=fun e=>by rw[e,m]at a;cases a
 have o:k≠l:=fun e=>by rw[e,c]at a;cases a
 rw[aH t];unfold St.del;rw[if_neg o,aH o];exact a
theorem wZ(n:Nat)(H:aB)(v:Nat->Int)(m:Int):gC n (kW H m) v n%m=gC n H v n%m:=by
 unfold gC;refine mA n _ _ m fun i _=>?_;rw[ft,mA n (fun j=>kW H m i j*v j) (fun j=>H i j*v j) m fun j _=>?_,<-ft];show(H i j%m*v j)%m=_;rw[ft,kV _ (Int.dvd_refl m),<-ft]
theorem Ga(n p:Nat)(H:aB)(v:Nat->Nat)(w:1<=n)(B:n<=8)(G:2<=p)(C:p<=100)(r:kU n p H v):PF 175 [ax n n H,.int .i64 p,aX n (fun k=>v k)] (.bool true):=by
 refine PF.of_spec (ak func175 rfl 49 ntmps175 kr sm (by simp[results175]) ?_)
 rw[aF,results175];simp -dsimp only[go_sem,ax,aX,bne_self_eq_false];refine cg (fun O S=>∃i:Nat,i<=n/\O 0=ax n n H/\O 1=.int .i64 p/\O 2=aX n (fun k=>v k)/\O 7=.int .i64 (iM (fun k=>v k) i)/\O 17=aX n (fun k=>v k)/\O 18=.int .i64 n/\O 19=.int .i64 i) (fun O S=>n-bT (O 19)) ?_ ?_
 ·simp -dsimp only[go_sem,ax,aX];exact⟨0,om,rfl,rfl⟩
 rintro Q' t O S ⟨i,x,l,f,o,h,c,d,e⟩;by_cases a:i<n
 ·have I:=r.lt i a;have y:decide (((v i:Nat):Int)<0)=false:=by simp<;>omega
  have z:decide ((p:Int)<=((v i:Nat):Int))=false:=by simp<;>omega
  by_cases s:iM (fun k=>((v k:Nat):Int)) i=0
  ·simp -dsimp only[go_sem,ax,aX,l,f,o,h,c,d,e,a,y,z,s,beq_self_eq_true,aM (om:i<1000000),bT]
   refine⟨⟨i+1,om,?_,rfl⟩,om⟩
   simp only[iM,s,if_true]
  ·have D:(iM (fun k=>((v k:Nat):Int)) i==0)=false:=by simpa using s
   simp -dsimp only[go_sem,ax,aX,l,f,o,h,c,d,e,a,y,z,D,aM (om:i<1000000),bT]
   refine⟨⟨i+1,om,?_,rfl⟩,om⟩
   simp only[iM,s,if_false]
 have u:i=n:=om
 rw[u]at h;simp -dsimp only[go_sem,aa,l,f,o,h,c,d,e,a];rw[t];simp -dsimp only[go_sem,aa,l,f];refine(uV n n H p w om w om om om S _ (cD _ _)).mono ?_;rintro _ S1 ⟨b,g,rfl,E,_⟩;have q:(iM (fun k=>((v k:Nat):Int)) n==1)=true:=by rw[r.lead]<;>rfl
 simp -dsimp only[go_sem,aa,l,f,o,h,q];have F:=pI (A:=H) (m:=(p:Int)) om;refine(xa n p (kW H p) (fun k=>v k) B om om (fun i j _ _=>by have:=F i j;omega) (fun i x=>by have:=r.lt i x;omega)).spec (dT.three E.vr.va (VA.refl _ _) (VA.refl _ _)) ?_
 rw[wZ,r.norm];simp -dsimp only[go_sem,f,o,h,q,beq_self_eq_true];exact VR.mf rfl

def vu(n:Nat)(H:aB)(p:Int)(v:Nat->Int):Nat->Int:=fun i=>(aq n fun j=>H i j*v j)%p
theorem Ht(n:Nat)(H:aB)(p:Int)(v:Nat->Int)(i:Nat):(aq n fun j=>kW H (p*p) i j*v j)%p=vu n H p v i:=by
 refine mA n _ _ p fun j _=>?_;show(H i j%(p*p)*v j)%p=_;rw[ft,kV _ (Int.dvd_mul_right p p),<-ft]
theorem Aj(n:Nat)(H:aB)(p:Int)(v:Nat->Int)(i:Nat):fC n H p v i=vu n H p v i:=by
 refine mA n _ _ p fun j _=>?_;show(H i j%p*(v j%p))%p=_;rw[<-ft]
theorem o8:∀(a b:List Oper) (O:Tm) (S:St) (pend:List (Nat×dH)) (K:Tm->List (Nat×dH)->Prop),Br (a++b) O S pend K=Br a O S pend (fun O' p'=>Br b O' S p' K)
 | [],_,_,_,_,_=>rfl
 | o::a,b,O,S,pend,K=>by
  simp only[List.cons_append,Br];split
  ·split
   ·exact o8 a b _ _ _ _
   ·rfl
  ·simp only[o8 a b]
theorem Bq(r:Nat)(h:∀K',K'=(fun O' p'=>Dh (l.drop r) O' S p' K)->Dh (l.take r) O S pend K'):Dh l O S pend K:=by
 have h:=h _ rfl;rw[pm]at h ⊢;rw[<-o8,List.take_append_drop]at h;exact h
theorem Lq:Dh [] O S pend K=K O pend:=by rw[pm]<;>rfl
theorem Lp{K:Tm->St->Prop}:BQ ops [] O S K=K O S:=by rw[uz]<;>rfl
theorem KO(h:∀Q',Q'=Q->Aw c Q' O S):Aw c Q O S:=h _ rfl
theorem KR{K:Tm->St->Prop}(r q:Nat)(a:xG ops q=true)
  (h:∀K',K'=(fun O' pend=>Dh ((ops.toList.take q).drop r) O' S pend (fun O' pend=>if pend.isEmpty then BQ ops (ops.toList.drop q) O' S K else tE pend (sM (lL (ops.toList.take q)) O') S (fun O S=>BQ ops (ops.toList.drop q) O S K)))->Dh ((ops.toList.take q).take r) O S [] K'):EJ ops O S K:=by
 refine aP q a ?_;have h:=h _ rfl;rw[pm]at h ⊢;rw[<-o8,List.take_append_drop]at h;exact h
def IB:Bool:=cM.all fun p=>(dY p).all fun x=>x==0||(pU 20 p x 0 1&&((x:Int)*(Bc 20 p x 0 1%p))%p==1)
theorem CD:IB=true:=by decide +kernel
theorem Ba(b:p∈cM){x:Int}(c:0<x)(d:x<p):pU 20 p x 0 1=true/\(x*(Bc 20 p x 0 1%p))%p=1:=by
 have h:=CD;unfold IB at h;obtain⟨k,rfl⟩:=jI (om:0<=x)
 have a:=ap.1 (ap.1 h p b) k (jH.2 om);simp only[fL,Bool.and_eq_true,beq_iff_eq]at a;rcases a with a|a
 ·omega
 ·exact a
theorem GQ(S:St)(d n p piv:Nat)(H:aB)(v:Nat->Nat)(hF:gH n H)(hg:j9 (det n H) p)(hp:p∈cM)(hL:kU n p H v)(hd:aR S d 2 1 n (fun k=>.int .i64 ((v k:Nat):Int)))(hG:iT S)
  (hpiv:piv<n) (L:vu n H p (fun k=>v k) piv≠0) (hsz:∀i,i<piv->vu n H p (fun k=>v k) i=0) :
  cL 121 [ax n n H,.int .i64 p,.sl 1 d 0 n] S (fun r S'=>∃b t,0<=t/\t<(p:Int)/\(p:Int)*p∣jn n H (fun k=>if k=piv then((v k:Nat):Int)+p*t else v k) (fun k=>if k=piv then((v k:Nat):Int)+p*t else v k)/\r=.tup [.sl 1 b 0 n,.int .i64 0]/\aR S' b 2 1 n (fun k=>.int .i64 (if k=piv then((v k:Nat):Int)+p*t else v k))/\cY S S'):=by
 have h1:=hF.one;have hn:=hF.five;have q:3<=p/\p<=17:=by
  simp only[cM,du,aG,or_false]at hp;omega
 refine ak func121 rfl 90 ntmps121 kr sm (by simp[results121]) ?_
 rw[aF,results121];simp -dsimp only[go_sem,aa];refine(Eh S n p H hF hg hp hG).mono ?_;rintro _ S1 ⟨rfl,D⟩;have M:=D.has hd;simp -dsimp only[go_sem,aa];refine(Ga n p H v h1 om om om hL).spec (dT.three (VA.refl _ _) (VA.refl _ _) (l8.vr (show l8 S1 d n (fun k=>v k)from M)).va) ?_;have hpp:(p:Int)*p<=289/\9<=(p:Int)*p:=by
  rw[<-bO];have a:=bK q.2 q.2;have b:=bK q.1 q.1;omega
 have wpp:IntKind.i64.wrap ((p:Int)*p)=(p:Int)*p:=i64_in om om;simp -dsimp only[go_sem,aa,wpp];refine(uV n n H (p*p) h1 om h1 om om om S1 _ (cD _ _)).mono ?_;rintro _ S2 ⟨br,gr,rfl,hR,E,_,_⟩;have P:=E.has M;simp -dsimp only[go_sem,aa];refine(zf S2 d n (fun k=>v k) om om P).mono ?_;rintro _ S3 ⟨bx,rfl,hx3,F,hbx⟩;have Q:=F.has P;have G:=hR.ext F;simp -dsimp only[go_sem];have hr:=pI (A:=H) (m:=(p:Int)*p) om;have I:∀i,i<n->(0:Int)<=(v i:Nat)/\((v i:Nat):Int)<=16:=fun i hi=>by have:=hL.lt i hi;omega
 have R:cY S S3:=(D.trans E).trans F;refine cg (fun O S=>∃i:Nat,i<=piv/\S3=S/\O 1=.int .i64 p/\O 2=.sl 1 d 0 n/\O 9=.sl 1 br 0 n/\O 11=.sl 1 bx 0 n/\O 39=.sl 1 br 0 n/\O 40=.int .i64 n/\O 41=.int .i64 i) (fun O S=>n-bT (O 41)) ?_ ?_
 ·simp -dsimp only[go_sem];exact⟨0,om,rfl⟩
 rintro Q' hQ' O _ ⟨i,hi,rfl,u,T,e9,f,x,y,z⟩;have l:i<n:=om
 obtain⟨g1,u1,v1⟩:=id G.outer;have x1:g1 i=.sl 1 (gr i) 0 n:=v1 i l;simp -dsimp only[go_sem,aa,u,T,x,y,z,l,u1,x1];refine(Cw n p (kW H (p*p) i) (fun k=>v k) om om (fun j J=>by have:=hr i j;omega) (fun j J=>by have:=I j J;omega)).spec (dT.three (l8.vr (G.row i l)).va (l8.vr (show l8 S3 d n (fun k=>v k)from Q)).va (VA.refl _ _)) ?_
 rw[Ht];by_cases hip:i<piv
 ·simp -dsimp only[go_sem,u,T,e9,f,x,y,z,hsz i hip,beq_self_eq_true,aM (om:i<1000000),bT]
  exact⟨⟨i+1,om,rfl⟩,om⟩
 obtain rfl:i=piv:=om
 have hsb:(vu n H p (fun k=>v k) i==0)=false:=by simpa using L
 have U:0<=vu n H p (fun k=>v k) i/\vu n H p (fun k=>v k) i<p:=⟨a9 _ om,aU _ om⟩;generalize hsl:vu n H p (fun k=>v k) i=sl at *;have w2:IntKind.i64.wrap (2*sl)=2*sl:=i64_in om om;simp -dsimp only[go_sem,u,T,e9,f,x,y,z,hsb,w2];refine au.intro fun o V=>?_
 try simp -dsimp only[go_sem]
 refine au.intro fun w W=>?_;have n56_55:=(ag W).1
 try simp -dsimp only[go_sem,u]
 have hIM:cT ((S3.upd o ⟨2,1,1,fun j=>[AV.int .i64 (2*sl)].getD j .any⟩).upd w ⟨29,1,1,fun j=>[AV.sl 1 o 0 1].getD j .any⟩) w (fun _=>o) 1 1 (fun _ _=>2*sl):=by
  refine⟨aR.here fun j J=>?_,fun j _=>aR.upd (aR.here fun k hk=>?_) n56_55.symm _,fun i j h1 h2 _=>om⟩
  ·obtain rfl:j=0:=om
   rfl
  ·obtain rfl:k=0:=om
   rfl
 have C:S3 w=ae:=by rwa [aH n56_55]at W
 have up2:∀{b ty es m:Nat} {g:Nat->AV},aR S3 b ty es m g->aR ((S3.upd o ⟨2,1,1,fun j=>[AV.int .i64 (2*sl)].getD j .any⟩).upd w ⟨29,1,1,fun j=>[AV.sl 1 o 0 1].getD j .any⟩) b ty es m g:=fun h=>(h.upd (h.fresh V) _).upd (h.fresh C) _;have X:cY S3 ((S3.upd o ⟨2,1,1,fun j=>[AV.int .i64 (2*sl)].getD j .any⟩).upd w ⟨29,1,1,fun j=>[AV.sl 1 o 0 1].getD j .any⟩):=((cY.refl S3).upd V _).upd C _;have h2s:0<2*sl%p/\2*sl%p<p:=by
  have a:=a9 (2*sl) (show(p:Int)≠0 by omega)
  have b:=aU (2*sl) (show(0:Int)<p by omega)
  have c:2*sl%p≠0:=fun h=>by
   rcases oT hp 2 sl (de h)with h|h
   ·have:=Int.le_of_dvd om h;omega
   ·exact L (by have:=il h;rwa [dS U.1 U.2]at this)
  omega
 obtain⟨heo,hei⟩:=Ba hp h2s.1 h2s.2;refine(tp 20 (2*sl) p om om heo _ _ (dT.two hIM.vr.va (VA.refl _ _))).mono ?_;rintro _ S4 ⟨bi,gi,rfl,Z,hE4,_,_⟩;have hiv:0<=Bc 20 p (2*sl%p) 0 1%p/\Bc 20 p (2*sl%p) 0 1%p<p:=⟨a9 _ om,aU _ om⟩;generalize Bc 20 p (2*sl%p) 0 1%p=iv at *;have s:cY S3 S4:=X.trans hE4;have hx4:=s.has hx3;have hd4:=s.has Q;have hR4:=G.ext s;obtain⟨gb,ub,vb⟩:=id Z.outer;obtain⟨gc,uc,vc⟩:=id (Z.row 0 om);obtain⟨gx,ux,vx⟩:=id hx4;have xb:gb 0=.sl 1 (gi 0) 0 1:=vb 0 om;have xc:gc 0=.int .i64 iv:=vc 0 om;have xx:gx i=.int .i64 (v i:Nat):=vx i l;have hN:gC n (kW H (p*p)) (fun k=>v k) n%(p*p)=gC n H (fun k=>v k) n%(p*p):=wZ n H _ _;have hN0:=a9 (gC n H (fun k=>v k) n) (show(p:Int)*p≠0 by omega)
 have hN1:=aU (gC n H (fun k=>v k) n) (show(0:Int)<p*p by omega)
 generalize hNN:gC n H (fun k=>v k) n%((p:Int)*p)=N at *;have hk0:0<=N/p/\N/p<p:=by
  refine⟨Int.ediv_nonneg hN0 om,?_⟩;exact Int.ediv_lt_of_lt_mul om hN1
 have k1:IntKind.i64.wrap (N.tdiv p)=N/p:=by rw[Int.tdiv_eq_ediv_of_nonneg hN0];exact i64_in om om
 have k2:IntKind.i64.wrap (p-N/p)=p-N/p:=i64_in om om;have hm0:0<=(p-N/p)*iv/\(p-N/p)*iv<=289:=by
  have:=bW (show(p:Int)-N/p<=17 by omega) (om:iv<=17) hiv.1 om
  exact⟨dA om hiv.1,om⟩
 have k3:IntKind.i64.wrap ((p-N/p)*iv)=(p-N/p)*iv:=i64_in om om;have k4:((p-N/p)*iv).tmod p=(p-N/p)*iv%p:=Int.tmod_eq_emod_of_nonneg hm0.1;have K:=a9 ((p-N/p)*iv) (show(p:Int)≠0 by omega)
 have ht1:=aU ((p-N/p)*iv) (show(0:Int)<p by omega)
 generalize hT:(p-N/p)*iv%(p:Int)=t at *;have hnm:=F6 hF.red.pd.sym l (show(0:Int)<p by omega) hsl hei hNN hL.norm hT
 have hpt:0<=(p:Int)*t/\(p:Int)*t<=289:=by
  have:=bW (show(p:Int)<=17 by omega) (om:t<=17) K om
  exact⟨dA om K,om⟩
 have k5:IntKind.i64.wrap (p*t)=p*t:=i64_in om om;have hvi:=I i l;have k6:IntKind.i64.wrap (((v i:Nat):Int)+p*t)=((v i:Nat):Int)+p*t:=i64_in om om;have hp0:¬(p:Int)=0:=om
 simp -dsimp only[go_sem,u];refine KR 7 19 kr fun K' hK'=>?_
 simp -dsimp only[go_sem,aa,u,T,e9,wpp];refine⟨_,(xa n (p*p) (kW H (p*p)) (fun k=>v k) om om om (fun i j _ _=>by have:=hr i j;omega) (fun j J=>by have:=I j J;omega)).pureS (dT.three hR4.vr.va (l8.vr (show l8 S4 d n (fun k=>v k)from hd4)).va (VA.refl _ _)),?_⟩
 rw[bO,hN,hK'];refine Bq 7 fun K'' hK''=>?_;simp -dsimp only[go_sem,aa,u,ub,xb,hp0,k1,k2]
 repeat refine an ?_
 rw[hK''];refine Bq 3 fun K3 hK3=>?_;simp -dsimp only[go_sem,aa,u,uc,xc,k3]
 suffices key:∀O':Tm,O' 1=.int .i64 p->O' 11=.sl 1 bx 0 n->O' 12=.int .i64 i->O' 76=.int .i64 ((p-N/p)*iv)->O' 77=.int .i64 p->K3 O' [] by
  refine key _ ?_ ?_ ?_ ?_ ?_<;>simp -dsimp only[go_sem,u,f]
 clear u T e9 f x y z hK' hK'';intro O' u f e12 e76 e77;rw[hK3];refine Bq 2 fun K4 hK4=>?_;simp -dsimp only[go_sem,e76,e77,hp0,k4];rw[hK4];clear hK4 hK3;rw[show(List.drop 2 (List.drop 3 (List.drop 7 (List.drop 7 (List.take 19 (Array.toList _))))))=([]:List Oper)from rfl];dsimp only;rw[Lq];rw[show List.isEmpty ([]:List (Nat×dH))=true from rfl,if_pos rfl];rw[show(List.drop 19 (Array.toList _))=([]:List Oper)from rfl];rw[Lp];refine KO fun Q3 hQ3=>?_;simp -dsimp only[go_sem,aa,u,f,e12,l,ux,xx,k5,k6];rw[hQ3];simp -dsimp only[go_sem];rw[hQ'];simp -dsimp only[go_sem];refine⟨bx,t,K,ht1,hnm,by rw[f],aR.here fun j J=>?_,fun k Y hY=>?_⟩
 ·show aL gx i _ j=_;unfold aL;by_cases B:j=i
  ·rw[if_pos B,B,if_pos rfl]
  ·rw[if_neg B,if_neg B];exact vx j J
 ·have hk:k≠bx:=fun e=>by
   subst e;have:=E k Y (D k Y hY);rw[hbx]at this;cases this
  rw[aH hk];exact(R.trans s) k Y hY

theorem Hv(n piv r:Nat):1<=yD n piv r:=by unfold yD;split<;>(try split)<;>omega
theorem Bu(f:Nat->Int){j:Nat}(a:j<n):(f j).natAbs<=cW n f:=by
 have:=iX f a;omega
theorem FX{p:Int}{q:Nat->Int}(u:1<=n)(o:n<=5)(v:0<p)(g:p<=17)(c:piv<n)(w:∀j,j<n->0<=q j/\q j<=16)(y:∀i,i<n->i≠piv->(x i).natAbs<=16)(l:(x piv).natAbs<=288) :
  mj n (eg n (yI n p piv q x)):=by
 have b:=Mk o v g c w y l;refine⟨u,o,fun σ k m k' i j d s=>?_,Co om c q x,fun R z A _ σ neg k m k' i j s d=>?_,fun r j C d=>?_⟩
 ·have h:=wI b (k:=k') (i:=i) (j:=j) d m.sum;have e:=EZ (n:=n) (piv:=piv) (k:=k') (r:=k'+i) om om om om om;unfold nb;exact eE (bI h e) dc
 ·have h:=yC (B:=wM (eg n (yI n p piv q x)) n R) (N:=n+1) (f:=fun t=>yD n piv (rZ n R t)) (fun r _=>b _) (fun r _=>Hv _ _ _) (k:=k') (i:=i) (j:=j) s d m.row;have e:=EZ (n:=n) (piv:=piv) (k:=n) (r:=R) om om om om om;unfold nb;refine eE (bI h (bI (un (lS fun a _=>?_)) e)) dc
  rfl
 ·have h:=Bu (eg n (yI n p piv q x) r) d;have e:=b r;have D:yD n piv r<=1665:=by unfold yD;split<;>(try split)<;>omega
  unfold nb;omega
def CX(n:Nat):Nat:=iA 31 n+iA 31 n+8+31
theorem GG.up{U:aB}(a:GG n A R H U){i j:Nat}(b:i<n)(c:j<n+1):kC (n+1) (fun k r=>A r k) U j i=H i j:=by
 rw[<-a.mu i j om c];unfold kC mm;refine aA fun k d=>?_;show A i k*U k j=wM A n R i k*U k j;unfold wM rZ;rw[if_pos b]
theorem GG.ubits(f:mj n A){R:Nat}{H U:aB}(l:GG n A R H U)(t:∀i j,i<n+1->j<n+1->nb (H i j) 31){a c:Nat}(m:a<n+1)(s:c<n+1):nb (U a c) (iA 31 n+iA 31 n+8):=by
 have o:∀i j,i<n+1->j<n+1->nb (wM A n R i j) 31:=fun i j d b=>f.hent _ _ (by have:=l.r2;unfold rZ;split<;>omega) b
 have p:∀i j,i<n+1->j<n+1->nb (jF (n+1) (wM A n R) i j) (iA 31 n):=fun i j d b=>by
  have h:=xC (by have:=f.hn;omega) om o n i j d b
  unfold jF;split
  ·exact h.neg
  ·exact h
 have e:mm (n+1) (jF (n+1) (wM A n R)) H a c=det (n+1) (wM A n R)*U a c:=by
  have u:mm (n+1) (jF (n+1) (wM A n R)) H a c=mm (n+1) (jF (n+1) (wM A n R)) (mm (n+1) (wM A n R) U) a c:=pM (fun _ _=>rfl) fun k q=>(l.mu k c q s).symm;rw[u,<-pN];unfold mm;rw[aA (g:=fun k=>(if a=k then det (n+1) (wM A n R)else 0)*U k c) fun k q=>by
   show mm (n+1) (jF (n+1) (wM A n R)) (wM A n R) a k*U k c=_;rw[qU om _ m q]]
  rw[aA (g:=fun k=>(if a=k then 1 else 0)*(det (n+1) (wM A n R)*U k c)) fun k _=>by split<;>simp]
  rw[mC m]
 have r:nb (det (n+1) (wM A n R)*U a c) (iA 31 n+iA 31 n+8):=by
  rw[<-e];exact Fm (by have:=f.hn;omega) p (fun i j d b=>(t i j d b).mono (ou 31 n)) m s
 unfold nb at r ⊢;rw[Int.natAbs_mul]at r;have:1<=(det (n+1) (wM A n R)).natAbs:=by have:=l.dt;omega
 exact eE (bI (un (Nat.one_mul _).symm) (Nat.mul_le_mul_right _ this)) r
theorem GG.herm(B:mj n A){R:Nat}{H U:aB}(f:GG n A R H U)(y:∀r c,n<=r->r<n+n+1->c<n+1->A r c=if r=n+c then 1 else 0) :
  (∀a r,a<n+1->r<n+n+1->nb (kC (n+1) (fun k r=>A r k) U a r) (CX n))/\Ad n (CX n) (fun i j=>kC (n+1) (fun k r=>A r k) U j i)/\(∀x,gO (n+1) (n+1) H x↔gO (n+1) (n+1) (wM A n R) x)/\∀i,i<n->H i n=0:=by
 obtain⟨d,M,p,F,l⟩:=f.tl;have G:=B.dlt f.r1 f.r2 f.dt;have z:∀i,i<n+1->0<d i/\d i<2147483648:=fun i b=>by
  have t:=p.pos i b;have u:=p.d_le b;omega
 have q:∀r c,r<c->c<n+1->H r c=0:=fun r c t u=>(l.done c u).1 r t;have s:∀c,c<n+1->H c c=d c:=fun c m=>(l.done c m).2.1;have v:∀c j,c<n+1->j<c->0<=H c j/\H c j<d c:=fun c j m o=>(l.done j om).2.2 c o m;have C:∀i j,i<n+1->j<n+1->nb (H i j) 31:=fun i j b o=>by
  unfold nb;rcases Nat.lt_trichotomy i j with h|h|h
  ·rw[q i j h o];decide
  ·subst h;rw[s i b];have:=z i b;omega
  ·have t:=v i j b h;have u:=z i b;omega
 have w:∀i j,i<n->j<n+1->nb (kC (n+1) (fun k r=>A r k) U j i) (CX n):=fun i j b o=>by
  rw[f.up b o];exact(C i j om o).mono (by unfold CX;omega)
 refine⟨fun a r D I=>?_,⟨fun r c t u E=>?_,fun c m=>?_,fun c j m o=>?_,w⟩,fun x=>?_,fun i b=>q i n b om⟩
 ·rcases Nat.lt_or_ge r n with h|h
  ·exact w r a h D
  ·have e:kC (n+1) (fun k r=>A r k) U a r=U (r-n) a:=by
    unfold kC;rw[aA (g:=fun k=>(if r-n=k then 1 else 0)*U k a) fun k J=>by
     show A r k*U k a=_;rw[y r k h I J];by_cases e:r=n+k
     ·rw[if_pos e,if_pos om]
     ·rw[if_neg e,if_neg om]]
    exact mC om _
   rw[e];exact(f.ubits B C om D).mono (by unfold CX;omega)
 ·show kC (n+1) (fun k r=>A r k) U c r=0;rw[f.up u E];exact q r c t E
 ·show 0<kC (n+1) (fun k r=>A r k) U c c;rw[f.up m om,s c om];exact(z c om).1
 ·show 0<=kC (n+1) (fun k r=>A r k) U j c/\kC (n+1) (fun k r=>A r k) U j c<kC (n+1) (fun k r=>A r k) U c c;rw[f.up m om,f.up m om,s c om];exact v c j om o
 ·exact l.span p x
theorem tw.members{M:aB}(f:mj n (eg n M))(h:tw n k (eg n M) B):∀y,gO n n B y↔gO n (n+1) M y:=by
 obtain⟨R,H,U,d,o,rfl⟩:=h.ex;intro y;obtain⟨_,_,g,l⟩:=d.herm f (fun r c e _ p=>by unfold eg;rw[if_neg om])
 have e:gO n n H y↔gO n (n+1) M y:=Ir (w:=wM (eg n M) n R) (fun i j a m=>by
  unfold wM rZ eg;rw[if_pos a,if_pos a]) g l y
 rw[<-e];have key:∀i,i<n->∀c:ik,aq n (fun j=>kC (n+1) (fun k r=>eg n M r k) U j i*c j)=aq n (fun j=>H i j*c j):=fun i a c=>aA fun j m=>by rw[d.up a om]
 constructor
 ·rintro⟨c,b⟩;exact⟨c,fun i a=>by rw[b i a,key i a c]⟩
 ·rintro⟨c,b⟩;exact⟨c,fun i a=>by rw[b i a,<-key i a c]⟩
theorem tw.herm{M:aB}(h:tw n k (eg n M) B):Ad n k B:=by
 obtain⟨R,H,U,b,a,rfl⟩:=h.ex;exact a

theorem BO(n k:Nat)(M:aB)(f:mj n (eg n M))(h:k<=1000000)(l:∀R H U,GG n (eg n M) R H U->(∀a r,a<n+1->r<n+n+1->nb (kC (n+1) (fun k r=>eg n M r k) U a r) k)/\Ad n k (fun i j=>kC (n+1) (fun k r=>eg n M r k) U j i)) :
  ∀S args',dT S args' [aV n (n+1) M]->cL 123 args' S (fun r S'=>∃b g B,r=.tup [.sl 1 b 0 n,.bool true]/\tw n k (eg n M) B/\ir S S' b g n n B):=fun S args' m=>by
 have o:cL 123 [aV n (n+1) M] St.none (fun r S'=>∃b g B,r=.tup [.sl 1 b 0 n,.bool true]/\tw n k (eg n M) B/\dd S' b g n n B/\yz S'):=(zg n k M f h l).less fun r S' ⟨b,g,B,e,d,c⟩=>⟨cZ S' b g n,fU S' b g n,b,g,B,e,d,c.only.1,c.only.2⟩;refine(o.frame m ?_).mono ?_
 ·rintro r S1 ⟨b,g,B,rfl,_,_,p⟩;exact⟨rfl,p⟩
 ·rintro r S' ⟨S1,⟨b,g,B,rfl,d,c,_⟩,q,rfl⟩;exact⟨b,g,B,rfl,d,c.join q⟩
theorem FO{K:AV->Prop}(h:K (.sl 1 b 0 n)):kQ 28 (.sl 1 b 0 n) ae (some (.int .i64 n)) (some (.int .i64 n)) K:=by
 refine⟨rfl,0,n,rfl,rfl,⟨rn _,rn _,rfl⟩,Nat.zero_le _,Nat.le_refl _,?_⟩;show K (if (0:Nat)=0∨0<n then AV.sl 1 b (0+0) (n-0)else .lst 1 0 fun _=>.any)
 rw[if_pos (bn rfl)];exact h
structure lH(n p:Nat)(H:aB)(v:Nat->Nat)(B:aB):Prop where
 ex:∃piv t inv,piv<n/\0<=t/\t<(p:Int)/\(p:Int)*p∣jn n H (fun i=>if i=piv then((v i:Nat):Int)+p*t else v i) (fun i=>if i=piv then((v i:Nat):Int)+p*t else v i)/\inv=Bc 20 p (fC n H p (fun k=>v k) piv%p) 0 1%p/\fC n H p (fun k=>v k) piv≠0 /\
  mj n (eg n (yI n p piv (fun j=>fC n H p (fun k=>v k) j*inv%p) (fun i=>if i=piv then((v i:Nat):Int)+p*t else v i))) /\
  tw n (CX n) (eg n (yI n p piv (fun j=>fC n H p (fun k=>v k) j*inv%p) (fun i=>if i=piv then((v i:Nat):Int)+p*t else v i))) B
theorem CC(h:∃i,i<n/\P i):∃i,i<n/\P i/\∀j,j<i->¬P j:=by
 obtain⟨i,d,e⟩:=h
 induction i using Nat.strongRecOn with
 | _ i ih =>
  by_cases c:∃j,j<i/\P j
  ·obtain⟨j,a,b⟩:=c;exact ih j a om b
  ·exact⟨i,d,e,fun j a b=>c ⟨j,a,b⟩⟩
theorem zO{p:Int}{f:Nat->Int}:∀{n:Nat},(∀i,i<n->p∣f i)->p∣aq n f
 | 0,_=>Int.dvd_zero p
 | n+1,h=>Int.dvd_add (zO fun i a=>h i om) (h n om)
theorem xr{v:Nat->Int}:∀{n:Nat},(∀i,i<n->v i=0)->iM v n=0
 | 0,_=>rfl
 | n+1,h=>by
  simp only[iM,xr (n:=n) fun i a=>h i om,if_true];exact h n om
theorem Mb{v:Nat->Nat}(q:gH n H)(r:j9 (det n H) p)(s:p∈cM)(m:kU n p H v):∃piv,piv<n/\vu n H p (fun k=>v k) piv≠0/\∀i,i<piv->vu n H p (fun k=>v k) i=0:=by
 have b:∃i,i<n/\vu n H p (fun k=>v k) i≠0:=by
  refine cU fun c=>?_;have t:∀i,i<n->(p:Int)∣aq n fun j=>H i j*((v j:Nat):Int):=fun i d=>by
   refine de (cU fun h=>c ⟨i,d,h⟩)
  have u:∀k,k<n->((v k:Nat):Int)=0:=fun k e=>by
   have w:mm n (jF n H) (mm n H (fun j _=>((v j:Nat):Int))) k 0=det n H*((v k:Nat):Int):=by
    rw[<-pN];unfold mm;rw[aA (g:=fun j=>(if k=j then 1 else 0)*(det n H*((v j:Nat):Int))) fun j f=>by
     show mm n (jF n H) H k j*((v j:Nat):Int)=_;rw[qU q.one _ e f];split<;>simp]
    rw[mC e]
   have l:(p:Int)∣det n H*((v k:Nat):Int):=by
    rw[<-w];exact zO fun i d=>Int.dvd_mul_of_dvd_right (t i d)
   rcases oT s _ _ l with h|h
   ·exact absurd (il h) r.2.2.2
   ·have o:=m.lt k e;have a:=il h;rw[dS om om]at a;exact a
  have:=m.lead;rw[xr u]at this;omega
 obtain⟨i,x,o,a⟩:=CC b;exact⟨i,x,o,fun j f=>cU fun h=>a j f h⟩
theorem Bn(S:St)(d n p:Nat)(H:aB)(v:Nat->Nat)(hF:gH n H)(hg:j9 (det n H) p)(hp:p∈cM)(hL:kU n p H v)(Z:aR S d 2 1 n (fun k=>.int .i64 ((v k:Nat):Int)))(hG:iT S) :
  cL 59 [ax n n H,.int .i64 p,.sl 1 d 0 n] S (fun r S'=>∃b g B,r=.tup [.sl 1 b 0 n,.int .i64 0]/\lH n p H v B/\dd S' b g n n B/\cY S S'):=by
 have h1:=hF.one;have hn:=hF.five;have hp17:3<=p/\p<=17:=by
  have hp':=hp;simp only[cM,du,aG,or_false]at hp';omega
 obtain⟨piv,f,C,hsz⟩:=Mb hF hg hp hL;refine ak func59 rfl 83 ntmps59 kr sm (by simp[results59]) ?_
 rw[aF,results59];simp -dsimp only[go_sem,aa];refine(GQ S d n p piv H v hF hg hp hL Z hG f C hsz).mono ?_;rintro _ S1 ⟨bx,t,K,ht1,hnm,rfl,hx1,L⟩;have hd1:=L.has Z;simp -dsimp only[go_sem,aa,bne_self_eq_false];have hw:∀i,fC n H p (fun k=>v k) i=vu n H p (fun k=>v k) i:=Aj n H p _;have hwr:=r7 (n:=n) (H:=H) (p:=(p:Int)) (v:=fun k=>((v k:Nat):Int)) om;have hwp:0<fC n H p (fun k=>v k) piv%p/\fC n H p (fun k=>v k) piv%p<p:=by
  have:=hwr piv;rw[dS this.1 this.2];have h0:fC n H p (fun k=>v k) piv≠0:=by rw[hw];exact C
  omega
 obtain⟨heo,hei⟩:=Ba hp hwp.1 hwp.2;refine(yB 20 n piv H p (fun k=>v k) _ h1 om om om f (by rw[hw];exact C) (fun i F=>by rw[hw];exact hsz i F) heo rfl S1 _ (dT.three (VA.refl _ _) (VA.refl _ _) (l8.vr (show l8 S1 d n (fun k=>v k)from hd1)).va)).mono ?_
 rintro _ S2 ⟨bl,gl,rfl,D,hE2,nl2,nlg2⟩;generalize hinv:Bc 20 p (fC n H p (fun k=>v k) piv%p) 0 1%p=inv at *;have hx2:=hE2.has hx1;simp -dsimp only[go_sem,Option.map_some,Option.map_none];refine FO ?_
 try simp -dsimp only[go_sem]
 refine au.intro fun b41 N=>?_
 try simp -dsimp only[go_sem]
 have G:cY S S2:=L.trans hE2;have nbl:S bl=ae:=L.none nl2;have P:cC 29 1 S S2 (.sl 1 bl 0 n) n (fun j=>.sl 1 (gl j) 0 n):=⟨G,aK ⟨bl,nbl,rfl,D.outer⟩⟩;have hxb:=P.fresh N;have I:=P.upd (G.none N) hxb ⟨29,1,1,fun j=>[AV.sl 1 bx 0 n].getD j .any⟩;refine cC.app29 (v:=.sl 1 bx 0 n) I om (by simp[dN]) (aK ⟨_,_,_,rfl,bR,rfl,fun h=>hxb _ h rfl⟩) ?_
 intro bc S3 y z _;generalize A:yI n p piv (fun j=>fC n H p (fun k=>v k) j*inv%p) (fun i=>if i=piv then((v i:Nat):Int)+p*t else v i)=M
 have hcols:aR S3 bc 29 1 (n+1) (fun j=>.sl 1 (if j=n then bx else gl j) 0 n):=by
  rcases y.2 with⟨h,_⟩|⟨c,_,e,h⟩
  ·omega
  ·cases e
   exact h.congr fun j _=>by by_cases e:j=n<;>simp[e]
 have hcol:∀c,c<n+1->aR S3 (if c=n then bx else gl c) 2 1 n (fun i=>.int .i64 (M i c)):=fun c hc=>by
  have via:∀{b:Nat} {g:Nat->AV},aR S2 b 2 1 n g->aR S3 b 2 1 n g:=fun {b g} h=>by
   have n41:b≠b41:=aR.fresh h N;have nbl':b≠bl:=(aR.ne D.outer h dc).symm
   obtain⟨g',k,k2⟩:=h;exact⟨g',z b _ (by rw[aH n41];exact k) (fun hb=>nbl' (dk.1 hb)),k2⟩
  by_cases e:c=n
  ·subst e;rw[if_pos rfl];refine(via hx2).congr fun i F=>?_;rw[<-A];unfold yI;simp only[Nat.lt_irrefl,if_false]
  ·rw[if_neg e];refine(via (D.row c om)).congr fun i F=>?_;rw[<-A];unfold yI;rw[if_pos om]
 have hE03:cY S S3:=y.1;have hq16:∀j,j<n->0<=fC n H p (fun k=>v k) j*inv%p/\fC n H p (fun k=>v k) j*inv%p<=16:=fun j _=>by
  have a:=a9 (fC n H p (fun k=>v k) j*inv) (show(p:Int)≠0 by omega)
  have b:=aU (fC n H p (fun k=>v k) j*inv) (show(0:Int)<p by omega)
  omega
 have hpt:0<=(p:Int)*t/\(p:Int)*t<=272:=by
  have:=bW (show(p:Int)<=17 by omega) (om:t<=16) K om
  exact⟨dA om K,om⟩
 have hP:mj n (eg n M):=by
  rw[<-A];refine FX h1 hn om om f hq16 (fun i F hne=>?_) ?_
  ·rw[if_neg hne];have:=hL.lt i F;omega
  ·rw[if_pos rfl];have:=hL.lt piv f;omega
 have hMb:∀i j,i<n->j<n+1->-9223372036854775808<=M i j/\M i j<=9223372036854775807:=fun i j F hj=>by
  have:=hP.hent i j om hj;unfold eg at this;rw[if_pos F]at this;unfold nb at this;omega
 clear P I y z D hx2 hx1;simp -dsimp only[go_sem]
 repeat refine an ?_
 refine au.intro fun br fr=>?_;simp -dsimp only[go_sem];refine cg (fun O S=>∃(i:Nat) (g:Nat->Nat),i<=n/\O 11=.sl 1 bc 0 (n+1)/\O 12=.sl 1 br 0 n/\O 47=.int .i64 n/\O 48=.int .i64 i/\cY S3 S /\
  aR S br 29 1 n (fun a=>if a<i then .sl 1 (g a) 0 (n+1)else .nil)/\(∀a,a<i->aR S (g a) 2 1 (n+1) (fun c=>.int .i64 (M a c)))/\∀a c,a<i->c<i->g a=g c->a=c) (fun O S=>n-bT (O 48)) ?_ ?_
 ·simp -dsimp only[go_sem];exact⟨0,om,rfl,(cY.refl S3).upd fr _,fun _=>0,aR.here fun _ _=>by simp,fun a m=>om,fun a c m=>om⟩
 rintro Q' hQ' O S4 ⟨i,g,F,o,q,s,u,l,Q,J,hI⟩;by_cases w:i<n
 ·simp -dsimp only[go_sem,o,s,u,w];refine cg (fun O S'=>∃(j:Nat) (x:AV),j<=n+1/\O 11=.sl 1 bc 0 (n+1)/\O 12=.sl 1 br 0 n/\O 13=.int .i64 i/\O 47=.int .i64 n/\O 48=.int .i64 i/\O 51=.sl 1 bc 0 (n+1)/\O 52=.int .i64 ((n+1:Nat):Int)/\O 53=.int .i64 j/\cY S3 S' /\
   aR S' br 29 1 n (fun a=>if a<i then .sl 1 (g a) 0 (n+1)else if a=i then x else .nil)/\(∀a,a<i->aR S' (g a) 2 1 (n+1) (fun c=>.int .i64 (M a c))/\¬dl x (g a))/\cC 2 1 S3 S' x j (fun c=>.int .i64 (M i c))) (fun O S=>n+1-bT (O 53)) ?_ ?_
  ·simp -dsimp only[go_sem,o,q,s,u];exact⟨0,om,rfl,l,.nil,Q.congr fun a _=>by grind,fun a m=>⟨J a m,by rintro⟨_,_,_,e⟩;cases e⟩,cC.nil l _⟩
  clear Q J l o q s u;rintro Q'' hQ'' O S' ⟨j,x,hj,o,q,e13,s,u,T,V,W,l,Q,J,hX⟩;by_cases E:j<n+1
  ·obtain⟨gc,uc,vc⟩:=id (l.has hcols);obtain⟨gd,ud,vd⟩:=id (l.has (hcol j E));obtain⟨g1,u1,v1⟩:=id Q;have xc:gc j=.sl 1 (if j=n then bx else gl j) 0 n:=vc j E
   have xd:gd i=.int .i64 (M i j):=vd i w;have x1:g1 i=x:=by rw[v1 i w];simp
   simp -dsimp only[go_sem,aa,T,V,W,E,uc,xc];refine eR 11 kr ?_
   simp -dsimp only[go_sem,aa,q,e13,w,ud,xd,u1,x1];refine cC.app2 hX om (show dN 1 (.int .i64 (M i j)) by simp[dN]) (bn ⟨_,rfl,rfl⟩) ?_
   intro c S7 Y hk1 z;have hxr:=hX.other u1 om;have u1':=hk1 br _ u1 hxr;simp -dsimp only[go_sem,aa,o,q,e13,s,u,T,V,W,w,u1',aM (om:j<1000000),bT]
   have hrS:S3 br=ae:=fr;refine⟨⟨j+1,om,rfl,Y.1.upd hrS _,.sl 1 c 0 (j+1),aR.here fun a m=>?_,fun a m=>?_,?_⟩,om⟩
   ·have:=v1 a m;grind [aL]
   ·obtain⟨r1,r2⟩:=J a m;have hgr:g a≠br:=aR.ne r1 (aR.of u1) om;refine⟨(r1.via fun X hX=>hk1 _ _ hX r2).upd hgr _,fun hb=>?_⟩;rw[dk]at hb;rw[<-hb]at z;rcases z with h|h
    ·exact r2 h
    ·exact aR.fresh r1 h rfl
   ·refine(Y.upd hrS (fun d Z e=>?_) _).congr (fun a m=>by grind)
    rw[e]at Z;exact Y.other u1' om Z
  ·simp -dsimp only[go_sem,aa,T,V,W,E];rw[hQ''];simp -dsimp only[go_sem,o,q,s,u,aM (om:i<1000000),bT]
   obtain rfl:j=n+1:=om
   rcases hX.2 with⟨h0,_⟩|⟨c,_,rfl,hC⟩
   ·omega
   refine⟨⟨i+1,om,rfl,l,fun a=>if a=i then c else g a,Q.congr fun a m=>by grind,fun a m=>?_,fun a d m Z e=>?_⟩,om⟩
   ·by_cases e:a=i
    ·subst e;simp only[if_true];exact hC
    ·simp only[e,if_false];exact(J a om).1
   ·have k1:=fun a m=>(J a m).2;simp only[dk]at k1
    grind
 have hin:i=n:=om
 rw[hin]at Q J hI;have hIM:cT S4 br g n (n+1) M:=⟨Q.congr fun a m=>by rw[if_pos m],J,hI⟩
 simp -dsimp only[go_sem,o,s,u,w];rw[hQ'];simp -dsimp only[go_sem,aa,q];refine(nT n (n+1) M h1 om om om hMb _ _ (dT.one hIM.vr.va)).mono ?_;rintro _ S5 ⟨bm,gm,rfl,hM5⟩;simp -dsimp only[go_sem,aa];have hbb:=vW 31 om n om;refine(BO n (CX n) M hP (by unfold CX;omega) (fun R H' U hT=>?_) S5 _ (dT.one hM5.1.vr.va)).mono ?_
 ·obtain⟨a,b,_,_⟩:=hT.herm hP (fun r c h1 _ h3=>by unfold eg;rw[if_neg om])
  exact⟨a,b⟩
 rintro _ S6 ⟨b,gB,B,rfl,hB,hM6,hE6,_⟩;simp -dsimp only[go_sem];refine⟨b,rfl,gB,B,⟨piv,t,inv,f,K,ht1,hnm,hinv.symm,by rw[hw];exact C,by rw[A];exact hP,by rw[A];exact hB⟩,hM6,((hE03.trans l).trans hM5.2.1).trans hE6⟩

theorem zI{v:Nat->Int}:∀{n:Nat},iM v n=1->∃k,k<n/\v k=1
 | 0,h=>by simp[iM]at h
 | n+1,h=>by
  simp only[iM]at h;split at h
  ·exact⟨n,om,h⟩
  ·obtain⟨k,b,a⟩:=zI h;exact⟨k,om,a⟩

theorem AG(S:St)(M:oC)(n k K:Nat)(m:Nat->Int)(L T:aB)(h:kR S M n m L T)(hk:0<k)(v:k<n)(hn2:n<=16)(hK:K<=100000)(z:∀c,c<n+1->nb (m c) K)(G:nb (L k (k-1)) K)(h0:m k≠0) :
  cL 207 [.ptr 1 M.bs 0,.int .i64 k] S (fun r S'=>r=.agg [.big (m k),.big (L k (k-1)),.big ((m (k-1)*m (k+1)+L k (k-1)*L k (k-1))/m k),.big 1,.big 0,.big 0,.big 1]/\cY S S'):=by
 refine ak func207 rfl 67 ntmps207 kr sm (by simp[results207]) ?_
 rw[aF,results207];have R:IntKind.i64.wrap ((k:Int)-1)=((k-1:Nat):Int):=by rw[Int.ofNat_sub hk];exact i64_in om om
 have w2:=aM (om:k<1000000)
 simp -dsimp only[go_sem];refine au.intro fun j U=>?_;have W:=h.inn U;refine ig (fun O V=>O 0=.ptr 1 M.bs 0/\O 1=.int .i64 k/\O 4=.ptr 2 j 0/\kR V M n m L T/\aR V j 197 2 7 (fun _=>.big 0)/\cY S V) ⟨by simp -dsimp only[go_sem],by simp -dsimp only[go_sem],by simp -dsimp only[go_sem],h.upd W _,aR.here fun _ _=>rfl,(cY.refl S).upd U _⟩ ?_
 clear h;rintro O V ⟨w,x,H,h,b,f⟩;obtain⟨g,u,A,B,X,Y⟩:=h.c0;obtain⟨gm,um,vm⟩:=h.m0;obtain⟨gl,ul,vl⟩:=h.l0;obtain⟨gi,ui,vi⟩:=h.l1 v;have xl:gl k=.sl 2 (M.gl k) 0 k:=vl k v;have xj:gi (k-1)=.big (L k (k-1)):=vi (k-1) om;have xm:gm k=.big (m k):=vm k om;refine iw 20 [[7,8,9,10,11,12,13,14,15,16,17],[]] kr ?_
 simp -dsimp only[go_sem,aa,w,x,u,A,B,um,ul,ui,xl,xj,xm,R,v]
 repeat refine an ?_
 refine au.intro fun o C=>?_
 try simp -dsimp only[go_sem]
 refine au.intro fun p y=>?_;have n6_5:=(ag y).1;have i5:=h.inn C;have i6:=h.inn (ag y).2;obtain⟨p1,p2,p3,p4,p5,p6⟩:=mH.ne i5;obtain⟨q1,q2,q3,q4,q5,q6⟩:=mH.ne i6;have p5k:=p5 k v;have q5k:=q5 k v;simp -dsimp only[go_sem,w,x,u,B,ul,ui,xl,xj,R,v,nn n6_5,p1,p3,p5k,q1,q3,q5k]
 repeat refine an ?_
 have l:cY V ((((V.upd o ⟨50,2,1,fun _=>.big 0⟩).upd p ⟨50,2,1,fun _=>.big 0⟩).upd o ⟨50,2,1,aL (fun _=>.big 0) 0 (.big (m k))⟩).upd p ⟨50,2,1,aL (fun _=>.big 0) 0 (.big (L k (k-1)))⟩):=((((cY.refl V).upd C _).upd (ag y).2 _).upd C _).upd (ag y).2 _;have n54:j≠o:=aR.fresh b C;have n64:j≠p:=aR.fresh b (ag y).2;refine ig (fun O V=>O 0=.ptr 1 M.bs 0/\O 1=.int .i64 k/\O 4=.ptr 2 j 0/\O 5=.ptr 2 o 0/\O 6=.ptr 2 p 0/\kR V M n m L T/\aR V j 197 2 7 (fun _=>.big 0)/\cE V o 50 2 (.big (m k))/\cE V p 50 2 (.big (L k (k-1)))/\cY S V) ⟨by simp -dsimp only[go_sem,w],by simp -dsimp only[go_sem,x],by simp -dsimp only[go_sem,H],by simp -dsimp only[go_sem],by simp -dsimp only[go_sem],h.ext l,l.has b,cE.upd cE.set (ai n6_5) _,cE.set,f.trans l⟩ ?_
 clear l h b f w x H u A B X Y um ul ui vm vl vi xl xj xm C y p1 p2 p3 p4 p5 p6 q1 q2 q3 q4 q5 q6 p5k q5k i5 i6;clear g gm gl gi O V;rintro O V ⟨w,x,H,e5,e6,h,b,q,s,f⟩;obtain⟨g,u,A,B,X,Y⟩:=h.c0;obtain⟨gm,um,vm⟩:=h.m0;obtain⟨g5,I,J⟩:=id q;obtain⟨g6,P,Q⟩:=id s;have D:gm (k-1)=.big (m (k-1)):=vm (k-1) om;have E:gm (k+1)=.big (m (k+1)):=vm (k+1) om;refine aP 22 kr ?_
 simp -dsimp only[go_sem,aa,w,x,e6,u,A,um,D,E,R,w2,P,Q,(om:k-1<n+1)]
 repeat refine an ?_
 have k1:=(z (k-1) om).mul (z (k+1) om);have k2:=G.mul G;refine⟨_,(fV (z (k-1) om) (z (k+1) om) om).pure',_,(fV G G om).pure',_,(lC k1 k2 om).pure',?_⟩;refine au.intro fun i t=>?_;have i7:=h.inn t;have n47:j≠i:=aR.fresh b t;have Z:o≠i:=q.fresh t;have n67:p≠i:=s.fresh t;simp -dsimp only[go_sem,e5,I,J,Z,aL];generalize hN:m (k-1)*m (k+1)+L k (k-1)*L k (k-1)=N at *;have kN:nb N (K+K+1):=by rw[<-hN];exact k1.add k2
 have d:cY V ((V.upd i ⟨50,2,1,fun _=>.big 0⟩).upd i ⟨50,2,1,aL (fun _=>.big 0) 0 (.big N)⟩):=((cY.refl V).upd t _).upd t _;have h7:cE ((V.upd i ⟨50,2,1,fun _=>.big 0⟩).upd i ⟨50,2,1,aL (fun _=>.big 0) 0 (.big N)⟩) i 50 2 (.big N):=cE.set;refine(lw (k:=K+K+1) kN ((z k om).mono om) om h0).call ?_;generalize (V.upd i ⟨50,2,1,fun _=>.big 0⟩).upd i ⟨50,2,1,aL (fun _=>.big 0) 0 (.big N)⟩=V7 at *
 replace b:=d.has b
 replace q:=q.ext d
 replace s:=s.ext d
 replace f:=f.trans d
 clear h d u A B X Y um vm D E I J P Q t i7;simp -dsimp only[go_sem,aL];refine au.intro fun b8 F=>?_
 try simp -dsimp only[go_sem]
 refine au.intro fun b9 f9=>?_;have n9_8:=(ag f9).1;have n48:j≠b8:=aR.fresh b F;have n58:o≠b8:=q.fresh F;have n68:p≠b8:=s.fresh F;have e:=(ag f9).2;have n49:j≠b9:=aR.fresh b e;have n59:o≠b9:=q.fresh e;have n69:p≠b9:=s.fresh e;obtain⟨g4,u4,y4⟩:=id b;obtain⟨g5,I,J⟩:=id q;obtain⟨g6,P,Q⟩:=id s;simp -dsimp only[go_sem,aa,nn n9_8,aL];refine aP 10 kr ?_
 simp -dsimp only[go_sem,aa,H,e5,e6,ai n9_8,n48,n58,n68,n49,n59,n69,u4,I,J,P,Q,dD,eJ,aL,List.forall_mem_cons,aG,false_implies,implies_true,List.getD_cons_zero,List.getD_cons_succ,c9,Nat.sub_self];refine⟨_,(fQ (a:=1) om om).pure',trivial,_,(fQ (a:=1) om om).pure',trivial,?_⟩;simp -dsimp only[go_sem];exact((((f.upd (f.none F) _).upd (f.none e) _).upd (f.none F) _).upd (f.none e) _).upd U _
def Nq(m:Nat->Int)(L:aB)(i j:Nat):aB:=if 2*((L i j).natAbs:Int)<=m (j+1)then L else fun a c=>if a=i/\c<j then L i c-fN (L i j) (m (j+1))*L j c else if a=i/\c=j then L i j-fN (L i j) (m (j+1))*m (j+1)else L a c
def shV(m:Nat->Int)(L T:aB)(i j:Nat):aB:=if 2*((L i j).natAbs:Int)<=m (j+1)then T else rC T i j (fN (L i j) (m (j+1)))
structure G2(S0 S:St)(M:oC)(n:Nat)(m:Nat->Int)(L T:aB)(b6 b7 b9:Nat)(l d q:Int):Prop where
 st:kR S M n m L T
 v6:cE S b6 50 2 (.big l)
 v7:cE S b7 50 2 (.big d)
 v9:cE S b9 50 2 (.big q)
 n6:¬mH M n b6
 n7:¬mH M n b7
 n9:¬mH M n b9
 fr:mJ M n S0 S
theorem G2.mod{L' T':aB}{l:Int}(h:G2 S0 S M n m L T b6 b7 b9 l d q)(b:kR S' M n m' L' T')(a:mJ M n S S'):G2 S0 S' M n m' L' T' b6 b7 b9 l d q:=by
 obtain⟨c,e,f⟩:=h.v6;obtain⟨g,i,j⟩:=h.v7;obtain⟨k,o,p⟩:=h.v9;exact⟨b,⟨c,a _ _ h.n6 e,f⟩,⟨g,a _ _ h.n7 i,j⟩,⟨k,a _ _ h.n9 o,p⟩,h.n6,h.n7,h.n9,h.fr.trans a⟩
theorem G2.ext{l:Int}(h:G2 S0 S M n m L T b6 b7 b9 l d q)(a:cY S S'):G2 S0 S' M n m L T b6 b7 b9 l d q:=h.mod (h.st.ext a) ((mJ.refl M n S).ext a)
theorem mJ.ofExt(h:cY S S'):mJ M n S S':=fun d X _ a=>h d X a
theorem Dv(S:St)(M:oC)(n i j K:Nat)(m:Nat->Int)(L T:aB)(h:kR S M n m L T)(P:j<i)(o:i<n)(hn:n<=16)(e:K<=100000)(hK1:1<=K)
  (hm:nb (m (j+1)) K) (hm0:0<m (j+1)) (Q:∀a c,a<n->c<a->nb (L a c) K) (hT:∀a c,a<n->c<n->nb (T a c) K) :
  cL 206 [.ptr 1 M.bs 0,.int .i64 i,.int .i64 j] S (fun _ S'=>kR S' M n m (Nq m L i j) (shV m L T i j)/\mJ M n S S'):=by
 refine gL func206 rfl 137 ntmps206 kr sm ?_
 rw[aF,results206];have w2:=aM (om:j<1000000)
 obtain⟨g,u,y0,R,y2,y3⟩:=h.c0;obtain⟨gm,um,vm⟩:=h.m0;obtain⟨gl,ul,vl⟩:=h.l0;obtain⟨gi,ui,vi⟩:=h.l1 o;have xl:gl i=.sl 2 (M.gl i) 0 i:=vl i o;have xj:gi j=.big (L i j):=vi j P;have xm:gm (j+1)=.big (m (j+1)):=vm (j+1) om;simp -dsimp only[go_sem];refine iw 20 [[10,11,12,13,14,15,16,17],[]] kr ?_
 simp -dsimp only[go_sem,aa,u,y0,R,um,ul,ui,xl,xj,xm,w2,P,o,(om:j+1<n+1)]
 refine au.intro fun r f6=>?_
 try simp -dsimp only[go_sem]
 refine au.intro fun p f7=>?_;have n7_6:=(ag f7).1;have i6:=h.inn f6;have U:=(ag f7).2;have i7:=h.inn U;obtain⟨p1,p2,p3,p4,p5,p6⟩:=mH.ne i6;obtain⟨q1,q2,q3,q4,q5,q6⟩:=mH.ne i7;have p5k:=p5 i o;have q5k:=q5 i o;simp -dsimp only[go_sem,u,y0,um,xm,w2,nn n7_6,p1,p2,q1,q2,aL]
 repeat refine an ?_
 have kl:nb (L i j+L i j) (K+1):=(Q i j o P).add (Q i j o P);refine(lC (Q i j o P) (Q i j o P) om).call ?_;have hE7:cY S ((((S.upd r ⟨50,2,1,fun _=>.big 0⟩).upd p ⟨50,2,1,fun _=>.big 0⟩).upd r ⟨50,2,1,aL (fun _=>.big 0) 0 (.big (L i j))⟩).upd p ⟨50,2,1,aL (fun _=>.big 0) 0 (.big (m (j+1)))⟩):=((((cY.refl S).upd f6 _).upd U _).upd f6 _).upd U _;have h6:cE ((((S.upd r ⟨50,2,1,fun _=>.big 0⟩).upd p ⟨50,2,1,fun _=>.big 0⟩).upd r ⟨50,2,1,aL (fun _=>.big 0) 0 (.big (L i j))⟩).upd p ⟨50,2,1,aL (fun _=>.big 0) 0 (.big (m (j+1)))⟩) r 50 2 (.big (L i j)):=cE.set.upd (ai n7_6) _;have h7:cE ((((S.upd r ⟨50,2,1,fun _=>.big 0⟩).upd p ⟨50,2,1,fun _=>.big 0⟩).upd r ⟨50,2,1,aL (fun _=>.big 0) 0 (.big (L i j))⟩).upd p ⟨50,2,1,aL (fun _=>.big 0) 0 (.big (m (j+1)))⟩) p 50 2 (.big (m (j+1))):=cE.set;generalize (((S.upd r ⟨50,2,1,fun _=>.big 0⟩).upd p ⟨50,2,1,fun _=>.big 0⟩).upd r ⟨50,2,1,aL (fun _=>.big 0) 0 (.big (L i j))⟩).upd p ⟨50,2,1,aL (fun _=>.big 0) 0 (.big (m (j+1)))⟩=V at *
 replace h:=h.ext hE7
 have hF:mJ M n S V:=mJ.ofExt hE7;clear u y0 R y2 y3 um vm ul vl ui vi xl xj xm f6 f7 U p1 p2 p3 p4 p5 p6 q1 q2 q3 q4 q5 q6 p5k q5k hE7;clear g gm gl gi;simp -dsimp only[go_sem];refine au.intro fun b8 f8=>?_;have n68:=h6.fresh f8;have n78:=h7.fresh f8
 try simp -dsimp only[go_sem,aL]
 have J:cY V ((V.upd b8 ⟨50,2,1,fun _=>.big 0⟩).upd b8 ⟨50,2,1,aL (fun _=>.big 0) 0 (.big (L i j+L i j))⟩):=((cY.refl V).upd f8 _).upd f8 _;refine ig (fun O V=>O 0=.ptr 1 M.bs 0/\O 1=.int .i64 i/\O 2=.int .i64 j/\O 6=.ptr 2 r 0/\O 7=.ptr 2 p 0/\O 8=.ptr 2 b8 0/\kR V M n m L T/\cE V r 50 2 (.big (L i j))/\cE V p 50 2 (.big (m (j+1)))/\cE V b8 50 2 (.big (L i j+L i j))/\mJ M n S V) ⟨by simp -dsimp only[go_sem],by simp -dsimp only[go_sem],by simp -dsimp only[go_sem],by simp -dsimp only[go_sem],by simp -dsimp only[go_sem],by simp -dsimp only[go_sem],h.ext J,h6.ext J,h7.ext J,cE.set,hF.ext J⟩ ?_
 clear J h h6 h7 hF n68 n78 f8;clear V;rintro O V ⟨y,B,z,C,t,e8,h,h6,h7,h8,hF⟩;obtain⟨g6,u6,y6⟩:=id h6;obtain⟨g7,u7,y7⟩:=id h7;obtain⟨g8,u8,y8⟩:=id h8;apply qT (fun O V=>∃A,¬2*((L i j).natAbs:Int)<=m (j+1)/\O 0=.ptr 1 M.bs 0/\O 1=.int .i64 i/\O 2=.int .i64 j/\O 6=.ptr 2 r 0/\O 7=.ptr 2 p 0/\O 9=.ptr 2 A 0/\O 55=.sl 2 (M.gb j) 0 n/\O 56=.int .i64 n/\O 57=.int .i64 0/\G2 S V M n m L T r p A (L i j) (m (j+1)) (fN (L i j) (m (j+1))))
 ·intro key;by_cases hb1:L i j+L i j<=m (j+1)
  ·refine tY [.big (L i j+L i j),.big (m (j+1)),.int .i64 (ka (L i j+L i j) (m (j+1))),.bool true,.bool true,.big (L i j+L i j),.big (-(L i j+L i j)),.big (m (j+1)),.int .i64 (ka (-(L i j+L i j)) (m (j+1))),.bool (decide (-(L i j+L i j)<=m (j+1))),.bool (decide (-(L i j+L i j)<=m (j+1)))] kr ?_ ?_
   ·refine⟨?_,?_,?_,?_,?_,?_,?_,?_,?_,?_,?_,trivial⟩
    ·intro O1 l b K e;have x8:O1 8=.ptr 2 b8 0:=(l 8 dc).trans e8
     unfold ny;simp -dsimp only[go_sem,aa,x8,u8,y8];exact e
    ·intro O1 l b K e;have N:O1 7=.ptr 2 p 0:=(l 7 dc).trans t
     unfold ny;simp -dsimp only[go_sem,aa,N,u7,y7];exact e
    ·intro O1 l b K e;have x35:O1 35=.big (L i j+L i j):=b 0 35 kr rfl
     have x36:O1 36=.big (m (j+1)):=b 1 36 kr rfl
     unfold ny;simp -dsimp only[go_sem,aa,x35,x36];refine(pZ kl (hm.mono om) om).call ?_;exact e
    ·intro O1 l b K e;have x37:O1 37=.int .i64 (ka (L i j+L i j) (m (j+1))):=b 2 37 kr rfl
     unfold ny;simp -dsimp only[go_sem,x37,qQ,hb1];exact e
    ·intro O1 l b K e;have x38:O1 38=.bool true:=b 3 38 kr rfl
     unfold ny;simp -dsimp only[go_sem,x38];exact e
    ·intro O1 l b K e;have d:O1 39=.bool true:=b 4 39 kr rfl
     have x8:O1 8=.ptr 2 b8 0:=(l 8 dc).trans e8
     unfold ny;simp -dsimp only[go_sem,aa,d,x8,u8,y8];exact e
    ·intro O1 l b K e;have d:O1 39=.bool true:=b 4 39 kr rfl
     have x40:O1 40=.big (L i j+L i j):=b 5 40 kr rfl
     unfold ny;simp -dsimp only[go_sem,aa,d,x40];refine(rG kl om).call ?_;exact e
    ·intro O1 l b K e;have d:O1 39=.bool true:=b 4 39 kr rfl
     have N:O1 7=.ptr 2 p 0:=(l 7 dc).trans t
     unfold ny;simp -dsimp only[go_sem,aa,d,N,u7,y7];exact e
    ·intro O1 l b K e;have d:O1 39=.bool true:=b 4 39 kr rfl
     have x41:O1 41=.big (-(L i j+L i j)):=b 6 41 kr rfl
     have x42:O1 42=.big (m (j+1)):=b 7 42 kr rfl
     unfold ny;simp -dsimp only[go_sem,aa,d,x41,x42];refine(pZ kl.neg (hm.mono om) om).call ?_;exact e
    ·intro O1 l b K e;have d:O1 39=.bool true:=b 4 39 kr rfl
     have x43:O1 43=.int .i64 (ka (-(L i j+L i j)) (m (j+1))):=b 8 43 kr rfl
     unfold ny;simp -dsimp only[go_sem,d,x43,qQ];exact e
    ·intro O1 l b K e;have d:O1 39=.bool true:=b 4 39 kr rfl
     have x44:O1 44=.bool (decide (-(L i j+L i j)<=m (j+1))):=b 9 44 kr rfl
     unfold ny;simp -dsimp only[go_sem,d,x44];exact e
   intro O1 l b;have x0:O1 0=.ptr 1 M.bs 0:=(l 0 dc).trans y
   have x1:O1 1=.int .i64 i:=(l 1 dc).trans B
   have x2:O1 2=.int .i64 j:=(l 2 dc).trans z
   have x6:O1 6=.ptr 2 r 0:=(l 6 dc).trans C
   have N:O1 7=.ptr 2 p 0:=(l 7 dc).trans t
   have W:O1 45=.bool (decide (-(L i j+L i j)<=m (j+1))):=b 10 45 kr
   by_cases hb2:-(L i j+L i j)<=m (j+1)
   ·simp -dsimp only[go_sem,aa,W,hb2];have hs:2*((L i j).natAbs:Int)<=m (j+1):=om
    unfold Nq shV;rw[if_pos hs,if_pos hs];exact⟨h,hF⟩
   ·simp -dsimp only[go_sem,aa,x6,N,W,hb2,u6,y6,u7,y7];refine(rH (L i j) (m (j+1)) K (Q i j o P) hm om om).call ?_;rw[show(L i j+L i j+m (j+1))/(m (j+1)+m (j+1))=fN (L i j) (m (j+1))from rfl];simp -dsimp only[go_sem];refine au.intro fun A f9=>?_;have i9:=h.inn f9;obtain⟨p1,p2,p3,p4,p5,p6⟩:=mH.ne i9;obtain⟨gs,us,z0,z1,z2,z3⟩:=h.c0;obtain⟨gb,ub,vb⟩:=h.b0;have xb:gb j=.sl 2 (M.gb j) 0 n:=vb j om;simp -dsimp only[go_sem,aa,x0,x2,us,z2,ub,xb,p1,p4,(om:j<n)]
    refine key _ _ ?_;refine⟨A,om,by simp -dsimp only[go_sem,x0],by simp -dsimp only[go_sem,x1],by simp -dsimp only[go_sem,x2],by simp -dsimp only[go_sem,x6],by simp -dsimp only[go_sem,N],by simp -dsimp only[go_sem],by simp -dsimp only[go_sem],by simp -dsimp only[go_sem],by simp -dsimp only[go_sem],?_⟩
    have D:cY V ((V.upd A ⟨50,2,1,fun _=>.big 0⟩).upd A ⟨50,2,1,aL (fun _=>.big 0) 0 (.big (fN (L i j) (m (j+1))))⟩):=((cY.refl V).upd f9 _).upd f9 _;exact⟨h.ext D,h6.ext D,h7.ext D,cE.set,i6,i7,i9,hF.ext D⟩
  ·refine tY [.big (L i j+L i j),.big (m (j+1)),.int .i64 (ka (L i j+L i j) (m (j+1))),.bool false,.bool false,.any,.any,.any,.any,.any,.bool false] kr ?_ ?_
   ·refine⟨?_,?_,?_,?_,?_,?_,?_,?_,?_,?_,?_,trivial⟩
    ·intro O1 l b K e;have x8:O1 8=.ptr 2 b8 0:=(l 8 dc).trans e8
     unfold ny;simp -dsimp only[go_sem,aa,x8,u8,y8];exact e
    ·intro O1 l b K e;have N:O1 7=.ptr 2 p 0:=(l 7 dc).trans t
     unfold ny;simp -dsimp only[go_sem,aa,N,u7,y7];exact e
    ·intro O1 l b K e;have x35:O1 35=.big (L i j+L i j):=b 0 35 kr rfl
     have x36:O1 36=.big (m (j+1)):=b 1 36 kr rfl
     unfold ny;simp -dsimp only[go_sem,aa,x35,x36];refine(pZ kl (hm.mono om) om).call ?_;exact e
    ·intro O1 l b K e;have x37:O1 37=.int .i64 (ka (L i j+L i j) (m (j+1))):=b 2 37 kr rfl
     unfold ny;simp -dsimp only[go_sem,x37,qQ,hb1];exact e
    ·intro O1 l b K e;have x38:O1 38=.bool false:=b 3 38 kr rfl
     unfold ny;simp -dsimp only[go_sem,x38];exact e
    ·intro O1 l b K e;have d:O1 39=.bool false:=b 4 39 kr rfl
     unfold ny;simp -dsimp only[go_sem,aa,d];exact e
    ·intro O1 l b K e;have d:O1 39=.bool false:=b 4 39 kr rfl
     unfold ny;simp -dsimp only[go_sem,aa,d];exact e
    ·intro O1 l b K e;have d:O1 39=.bool false:=b 4 39 kr rfl
     unfold ny;simp -dsimp only[go_sem,aa,d];exact e
    ·intro O1 l b K e;have d:O1 39=.bool false:=b 4 39 kr rfl
     unfold ny;simp -dsimp only[go_sem,aa,d];exact e
    ·intro O1 l b K e;have d:O1 39=.bool false:=b 4 39 kr rfl
     unfold ny;simp -dsimp only[go_sem,d];exact e
    ·intro O1 l b K e;have d:O1 39=.bool false:=b 4 39 kr rfl
     unfold ny;simp -dsimp only[go_sem,d];exact e
   intro O1 l b;have x0:O1 0=.ptr 1 M.bs 0:=(l 0 dc).trans y
   have x1:O1 1=.int .i64 i:=(l 1 dc).trans B
   have x2:O1 2=.int .i64 j:=(l 2 dc).trans z
   have x6:O1 6=.ptr 2 r 0:=(l 6 dc).trans C
   have N:O1 7=.ptr 2 p 0:=(l 7 dc).trans t
   have W:O1 45=.bool false:=b 10 45 kr
   simp -dsimp only[go_sem,aa,x6,N,W,u6,y6,u7,y7];refine(rH (L i j) (m (j+1)) K (Q i j o P) hm om om).call ?_;rw[show(L i j+L i j+m (j+1))/(m (j+1)+m (j+1))=fN (L i j) (m (j+1))from rfl];simp -dsimp only[go_sem];refine au.intro fun A f9=>?_;have i9:=h.inn f9;obtain⟨p1,p2,p3,p4,p5,p6⟩:=mH.ne i9;obtain⟨gs,us,z0,z1,z2,z3⟩:=h.c0;obtain⟨gb,ub,vb⟩:=h.b0;have xb:gb j=.sl 2 (M.gb j) 0 n:=vb j om;simp -dsimp only[go_sem,aa,x0,x2,us,z2,ub,xb,p1,p4,(om:j<n)]
   refine key _ _ ?_;refine⟨A,om,by simp -dsimp only[go_sem,x0],by simp -dsimp only[go_sem,x1],by simp -dsimp only[go_sem,x2],by simp -dsimp only[go_sem,x6],by simp -dsimp only[go_sem,N],by simp -dsimp only[go_sem],by simp -dsimp only[go_sem],by simp -dsimp only[go_sem],by simp -dsimp only[go_sem],?_⟩
   have D:cY V ((V.upd A ⟨50,2,1,fun _=>.big 0⟩).upd A ⟨50,2,1,aL (fun _=>.big 0) 0 (.big (fN (L i j) (m (j+1))))⟩):=((cY.refl V).upd f9 _).upd f9 _;exact⟨h.ext D,h6.ext D,h7.ext D,cE.set,i6,i7,i9,hF.ext D⟩
 clear h h6 h7 h8 hF y B z C t e8 u6 y6 u7 y7 u8 y8;clear O V g6 g7 g8;rintro O V ⟨A,hns,y,B,z,C,t,F,v,w,s,f⟩;have hq:nb (fN (L i j) (m (j+1))) (K+4):=by
  unfold fN;refine nb.of_le (sN om) ?_;exact(kl.add (hm.mono om)).mono om
 generalize hqq:fN (L i j) (m (j+1))=q at *;refine cg (fun O V=>∃c:Nat,c<=n/\O 0=.ptr 1 M.bs 0/\O 1=.int .i64 i/\O 2=.int .i64 j/\O 6=.ptr 2 r 0/\O 7=.ptr 2 p 0/\O 9=.ptr 2 A 0/\O 55=.sl 2 (M.gb j) 0 n/\O 56=.int .i64 n/\O 57=.int .i64 c/\G2 S V M n m L (fun a x=>if a=i/\x<c then T i x-q*T j x else T a x) r p A (L i j) (m (j+1)) q) (fun O V=>n-bT (O 57)) ?_ ?_
 ·exact⟨0,om,y,B,z,C,t,F,v,w,s,f.mod (f.st.congr (fun _ _=>rfl) (fun _ _ _ _=>rfl) (fun a x _ _=>by simp)) (mJ.refl _ _ _)⟩
 clear y B z C t F v w s f;clear O V;rintro Q' X O V ⟨c,hc,y,B,z,C,t,F,v,w,s,f⟩;by_cases E:c<n
 ·obtain⟨gj,uj,vj⟩:=f.st.b1 (om:j<n)
  have xj:gj c=.big (T j c):=by have:=vj c E;rw[if_neg om]at this;exact this
  simp -dsimp only[go_sem,aa,v,w,s,E,uj];refine au.intro fun Y f11=>?_;have hE:cY V ((V.upd Y ⟨50,2,1,fun _=>.big 0⟩).upd Y ⟨50,2,1,aL (fun _=>.big 0) 0 (.big (T j c))⟩):=((cY.refl V).upd f11 _).upd f11 _;simp -dsimp only[go_sem,aa,s,xj];refine ig (fun O V=>O 0=.ptr 1 M.bs 0/\O 1=.int .i64 i/\O 2=.int .i64 j/\O 6=.ptr 2 r 0/\O 7=.ptr 2 p 0/\O 9=.ptr 2 A 0/\O 10=.int .i64 c/\O 11=.ptr 2 Y 0/\O 55=.sl 2 (M.gb j) 0 n/\O 56=.int .i64 n/\O 57=.int .i64 c/\cE V Y 50 2 (.big (T j c))/\G2 S V M n m L (fun a x=>if a=i/\x<c then T i x-q*T j x else T a x) r p A (L i j) (m (j+1)) q) ⟨by simp -dsimp only[go_sem,y],by simp -dsimp only[go_sem,B],by simp -dsimp only[go_sem,z],by simp -dsimp only[go_sem,C],by simp -dsimp only[go_sem,t],by simp -dsimp only[go_sem,F],by simp -dsimp only[go_sem],by simp -dsimp only[go_sem],by simp -dsimp only[go_sem,v],by simp -dsimp only[go_sem,w],by simp -dsimp only[go_sem,s],cE.set,f.ext hE⟩ ?_
  clear y B z C t F v w s f uj xj vj hE f11;clear O V gj;rintro O V ⟨y,B,z,C,t,F,e10,e11,v,w,s,h11,f⟩;obtain⟨g,u,y0,R,y2,y3⟩:=f.st.c0;obtain⟨gb,ub,vb⟩:=f.st.b0;obtain⟨gi,ui,vi⟩:=f.st.b1 o;obtain⟨g9,u9,y9⟩:=id f.v9;obtain⟨g11,u11,y11⟩:=id h11;have xb:gb i=.sl 2 (M.gb i) 0 n:=vb i o;have xi:gi c=.big (T i c):=by have:=vi c E;rw[if_neg om]at this;exact this
  refine aP 23 kr ?_
  simp -dsimp only[go_sem,aa,y,B,z,C,t,F,e10,e11,v,w,s,u,y2,ub,xb,ui,xi,u9,y9,u11,y11,o,E];have k1:=hq.mul ((hT j c om E).mono (om:K<=K+4))
  refine⟨_,(fV hq ((hT j c om E).mono om) om).pure',_,(me ((hT i c o E).mono (om:K<=K+4+(K+4))) k1 om).pure',?_⟩
  simp -dsimp only[go_sem,aM (om:c<1000000),bT]
  refine⟨⟨c+1,om,rfl,(f.mod (f.st.setT o ui) ((mJ.refl _ _ _).upd (mH.gb o) _)).mod ?_ (mJ.refl _ _ _)⟩,om⟩
  exact(f.st.setT o ui).congr (fun _ _=>rfl) (fun _ _ _ _=>rfl) (fun a x _ _=>by simp only[dK];grind)
 have hcn':c=n:=om
 subst hcn';have hI2:G2 S V M c m L (rC T i j q) r p A (L i j) (m (j+1)) q:=f.mod (f.st.congr (fun _ _=>rfl) (fun _ _ _ _=>rfl) (fun a x _ hx=>by simp only[rC];grind)) (mJ.refl _ _ _)
 obtain⟨g,u,y0,R,y2,y3⟩:=f.st.c0;obtain⟨gl,ul,vl⟩:=f.st.l0;have xl:gl j=.sl 2 (M.gl j) 0 j:=vl j om;simp -dsimp only[go_sem,aa,v,w,s,E];rw[X];simp -dsimp only[go_sem,aa,y,z,u,R,ul,xl,(om:j<c)]
 refine cg (fun O V=>∃k:Nat,k<=j/\O 0=.ptr 1 M.bs 0/\O 1=.int .i64 i/\O 2=.int .i64 j/\O 6=.ptr 2 r 0/\O 7=.ptr 2 p 0/\O 9=.ptr 2 A 0/\O 92=.sl 2 (M.gl j) 0 j/\O 93=.int .i64 j/\O 94=.int .i64 k/\G2 S V M c m (fun a x=>if a=i/\x<k then L i x-q*L j x else L a x) (rC T i j q) r p A (L i j) (m (j+1)) q) (fun O V=>j-bT (O 94)) ?_ ?_
 ·simp -dsimp only[go_sem,y,B,z,C,t,F];exact⟨0,om,rfl,hI2.mod (hI2.st.congr (fun _ _=>rfl) (fun a x _ _=>by simp) (fun _ _ _ _=>rfl)) (mJ.refl _ _ _)⟩
 clear y B z C t F v w s f hI2 u y0 R y2 y3 ul vl xl X;clear O V g gl Q';rintro Q' X O V ⟨k,hkj,y,B,z,C,t,F,H,I,G,f⟩;by_cases hk:k<j
 ·obtain⟨gj,uj,vj⟩:=f.st.l1 (om:j<c)
  have xj:gj k=.big (L j k):=by have:=vj k hk;rw[if_neg om]at this;exact this
  simp -dsimp only[go_sem,aa,H,I,G,hk,uj];refine au.intro fun Z f13=>?_;have hE:cY V ((V.upd Z ⟨50,2,1,fun _=>.big 0⟩).upd Z ⟨50,2,1,aL (fun _=>.big 0) 0 (.big (L j k))⟩):=((cY.refl V).upd f13 _).upd f13 _;simp -dsimp only[go_sem,aa,G,xj];refine ig (fun O V=>O 0=.ptr 1 M.bs 0/\O 1=.int .i64 i/\O 2=.int .i64 j/\O 6=.ptr 2 r 0/\O 7=.ptr 2 p 0/\O 9=.ptr 2 A 0/\O 12=.int .i64 k/\O 13=.ptr 2 Z 0/\O 92=.sl 2 (M.gl j) 0 j/\O 93=.int .i64 j/\O 94=.int .i64 k/\cE V Z 50 2 (.big (L j k))/\G2 S V M c m (fun a x=>if a=i/\x<k then L i x-q*L j x else L a x) (rC T i j q) r p A (L i j) (m (j+1)) q) ⟨by simp -dsimp only[go_sem,y],by simp -dsimp only[go_sem,B],by simp -dsimp only[go_sem,z],by simp -dsimp only[go_sem,C],by simp -dsimp only[go_sem,t],by simp -dsimp only[go_sem,F],by simp -dsimp only[go_sem],by simp -dsimp only[go_sem],by simp -dsimp only[go_sem,H],by simp -dsimp only[go_sem,I],by simp -dsimp only[go_sem,G],cE.set,f.ext hE⟩ ?_
  clear y B z C t F H I G f uj xj vj hE f13;clear O V gj;rintro O V ⟨y,B,z,C,t,F,e12,e13,H,I,G,h13,f⟩;obtain⟨g,u,y0,R,y2,y3⟩:=f.st.c0;obtain⟨gl,ul,vl⟩:=f.st.l0;obtain⟨gi,ui,vi⟩:=f.st.l1 o;obtain⟨g9,u9,y9⟩:=id f.v9;obtain⟨g13,u13,y13⟩:=id h13;have hki:k<i:=om
  have xl:gl i=.sl 2 (M.gl i) 0 i:=vl i o;have xi:gi k=.big (L i k):=by have:=vi k hki;rw[if_neg om]at this;exact this
  refine aP 23 kr ?_
  simp -dsimp only[go_sem,aa,y,B,z,C,t,F,e12,e13,H,I,G,u,R,ul,xl,ui,xi,u9,y9,u13,y13,o,hki];have k1:=hq.mul ((Q j k om hk).mono (om:K<=K+4))
  refine⟨_,(fV hq ((Q j k om hk).mono om) om).pure',_,(me ((Q i k o hki).mono (om:K<=K+4+(K+4))) k1 om).pure',?_⟩
  simp -dsimp only[go_sem,aM (om:k<1000000),bT]
  refine⟨⟨k+1,om,rfl,(f.mod (f.st.setL o ui) ((mJ.refl _ _ _).upd (mH.gl o) _)).mod ?_ (mJ.refl _ _ _)⟩,om⟩
  exact(f.st.setL o ui).congr (fun _ _=>rfl) (fun a x _ _=>by simp only[dK];grind) (fun _ _ _ _=>rfl)
 have hkj':k=j:=om
 subst hkj';simp -dsimp only[go_sem,aa,H,I,G,hk];rw[X];obtain⟨g,u,y0,R,y2,y3⟩:=f.st.c0;obtain⟨gl,ul,vl⟩:=f.st.l0;obtain⟨gi,ui,vi⟩:=f.st.l1 o;obtain⟨g6,u6,y6⟩:=id f.v6;obtain⟨g7,u7,y7⟩:=id f.v7;obtain⟨g9,u9,y9⟩:=id f.v9;have xl:gl i=.sl 2 (M.gl i) 0 i:=vl i o;simp -dsimp only[go_sem];refine aP 14 kr ?_
 simp -dsimp only[go_sem,aa,y,B,z,C,t,F,u,R,ul,xl,ui,u6,y6,u7,y7,u9,y9,o,P];have k1:=hq.mul (hm.mono (om:K<=K+4))
 refine⟨_,(fV hq (hm.mono om) om).pure',_,(me ((Q i k o P).mono (om:K<=K+4+(K+4))) k1 om).pure',?_⟩
 simp -dsimp only[go_sem];unfold Nq shV;rw[if_neg hns,if_neg hns,hqq];exact⟨(f.st.setL o ui).congr (fun _ _=>rfl) (fun a x _ _=>by simp only[dK];grind) (fun _ _ _ _=>rfl),f.fr.upd (mH.gl o) _⟩

end Go.Proofs.YtdobfmlmenaajaaGreatDoor
