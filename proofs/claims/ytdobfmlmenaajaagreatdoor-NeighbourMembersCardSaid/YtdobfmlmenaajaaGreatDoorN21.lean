/-
  Lemmas for NeighbourMembers.
-/
import Derived.Test.YtdobfmlmenaajaaGreatDoorN20
namespace Go.Proofs.YtdobfmlmenaajaaGreatDoor
open Go.RowKit
open _root_.Int renaming ofNat_lt→af,mul_comm→cZ,lt_trichotomy→iu,ofNat_le→sd
open _root_.Nat renaming reduceEqDiff→aa,add_one_le_iff→ab,reduceLT→ae,le_refl→ah,reduceAdd→aj,lt_or_ge→aE,eq_zero_or_pos→bO,mul_le_mul_right→bT,pow_le_pow_right→ca,mul_le_mul→ci,lt_of_lt_of_le→cV,le_of_lt→dd,succ_mul→it
open _root_.Ne renaming symm→ak
open _root_.Option renaming none→ac
open _root_.Or renaming inr→bD,inl→bH
set_option maxHeartbeats 6400000
set_option maxRecDepth 4096
set_option linter.all false
theorem dY.cons{S:St}{x y:AV}{l r:List AV}(h:VA S x y)(hl:dY S l r):dY S (x::l) (y::r):=⟨h,hl⟩
theorem cJ.blk{e es:Nat}{S0 S:St}{x:AV}{j:Nat}{g:Nat->AV}(h:cJ e es S0 S x j g){d:Nat}(hd:dH x d):∃X,S d=some X:=by
 obtain⟨_,_,_,he⟩:=hd;rcases h.2 with⟨_,h1⟩|⟨c,_,h1,g',h2,_⟩
 ·rw[h1]at he;cases he
 ·rw[h1]at he;cases he;exact⟨_,h2⟩
theorem cJ.keep{e es:Nat}{S0 S S':St}{x y:AV}{j:Nat}{g:Nat->AV}(h:cJ e es S0 S y j g)(hE:eZ S0 S')(hk:∀d X,S d=some X->¬dH x d->S' d=some X)(hd:∀d,dH y d->¬dH x d):cJ e es S0 S' y j g :=
 h.step hE (fun d hb=>by obtain⟨X,hX⟩:=h.blk hb;rw[hX];exact hk d X hX (hd d hb))
theorem sc(n i j:Nat)(A:aU)(k0:Nat)(h1:j<=i)(h2:i<n)(h3:n<=16)(hA:∀i j,i<n->j<n->nb (A i j) k0)(hk:k0<=10000000):PF 171 [aV n n A,.int .i64 i,.int .i64 j] (.big (jK A i j)):=by
 refine PF.of_spec (aA Tryz.func171 rfl 34 Tryz.ntmps171 (by kernel_rfl) (by simp) (by simp[Tryz.results171]) ?_)
 rw[aS,Tryz.results171]
 try simp -dsimp only[go_sem,aj]
 refine aG.intro fun b6 f6=>?_;simp -dsimp only[go_sem]
 repeat refine an ?_
 refine aI (fun O S=>∃(a:Nat) (x y:AV),a<=j/\O 0=aV n n A/\O 1=.int .i64 i/\O 2=.int .i64 j/\O 6=.ptr 2 b6 0/\O 7=x/\O 8=y/\O 9=.int .i64 a/\dc S b6 50 2 (.big 0)/\cJ 3 1 St.none S x a (fun a=>.int .i64 a)/\cJ 3 1 St.none S y a (fun a=>.int .i64 a)/\∀d,dH x d->¬dH y d) (fun O S=>j-bY (O 9)) ?_ ?_
 ·simp -dsimp only[go_sem,aa,reduceCtorEq];exact⟨0,by omega,rfl,dc.new rfl,cJ.nil (eZ.noneS _) _,cJ.nil (eZ.noneS _) _,fun d h=>by obtain⟨_,_,_,e⟩:=h;cases e⟩
 ·rintro O S ⟨a,x,y,ha,e0,e1,e2,e6,e7,e8,e9,V6,hX,hY,hXY⟩;obtain⟨g6,u6,v6⟩:=V6;have hx6:=hX.other u6 om;have hy6:=hY.other u6 om;by_cases hlt:a<j
  ·simp -dsimp only[go_sem,aa,↓reduceIte,reduceCtorEq,af,decide_true,e0,e1,e2,e7,e9,hlt]
   repeat refine an ?_
   refine aG.intro fun b17 f17=>?_;simp -dsimp only[go_sem,aa,↓reduceIte,e7,e9]
   repeat refine an ?_
   have hxb:=hX.fresh f17;have hyb:=hY.fresh f17;have h617:b6≠b17:=fun e=>by rw[<-e,u6]at f17;cases f17
   refine cJ.app3 (hX.upd (by rfl) hxb _) om (show du 1 (.int .i64 (a:Int)) by simp[du]) (bD ⟨_,_,_,rfl,bV,rfl,fun h=>hxb _ h rfl⟩) ?_
   intro c S2 hX2 hk1 hk3;have u62:=hk1 b6 _ (by rw[aQ h617];exact u6) hx6
   have hY2:cJ 3 1 St.none S2 y a (fun a=>.int .i64 a):=(hY.upd (by rfl) hyb _).keep (eZ.noneS _) hk1 (fun d hd hd2=>hXY d hd2 hd)
   have hcy:¬dH y c:=by
    intro hc;rcases hk3 with h|h
    ·exact hXY c h hc
    ·obtain⟨X,hX'⟩:=hY.blk hc;rw[aQ (hyb c hc),hX']at h;cases h
   simp -dsimp only[go_sem,aa,reduceCtorEq,e7,e8,e9]
   repeat refine an ?_
   refine aG.intro fun b21 f21=>?_;simp -dsimp only[go_sem,aa,↓reduceIte,e8,e9]
   repeat refine an ?_
   have hxb2:=hX2.fresh f21;have hyb2:=hY2.fresh f21;have h621:b6≠b21:=fun e=>by rw[<-e,u62]at f21;cases f21
   refine cJ.app3 (hY2.upd (by rfl) hyb2 _) om (show du 1 (.int .i64 (a:Int)) by simp[du]) (bD ⟨_,_,_,rfl,bV,rfl,fun h=>hyb2 _ h rfl⟩) ?_
   intro c2 S3 hY3 hk4 hk6;have u63:=hk4 b6 _ (by rw[aQ h621];exact u62) hy6
   have hX3:=(hX2.upd (by rfl) hxb2 _).keep (eZ.noneS _) hk4 (fun d hd hd2=>by rw[eT]at hd;rw[hd]at hd2;exact hcy hd2)
   simp -dsimp only[go_sem,aa,reduceCtorEq,e0,e1,e2,e6,e8,e9,aW (show a<1000000 by omega),bY]
   repeat refine an ?_
   refine⟨⟨a+1,by omega,rfl,⟨g6,u63,v6⟩,hX3.congr fun a ha=>by grind,hY3.congr fun a ha=>by grind,fun d hd hd2=>?_⟩,by omega⟩
   rw[eT]at hd hd2;subst hd;subst hd2;rcases hk6 with h|h
   ·exact hcy h
   ·obtain⟨X,hX'⟩:=hX2.blk (eT.2 rfl);rw[aQ (hxb2 _ (eT.2 rfl)),hX']at h;cases h
  ·obtain rfl:a=j:=by omega
   simp -dsimp only[go_sem,aa,↓reduceIte,reduceCtorEq,af,decide_false,e0,e1,e2,e7,e9,hlt]
   repeat refine an ?_
   refine aG.intro fun b17 f17=>?_;simp -dsimp only[go_sem,aa,↓reduceIte,reduceCtorEq,e0,e1,e7]
   repeat refine an ?_
   have hxb:=hX.fresh f17;have hyb:=hY.fresh f17;have h617:b6≠b17:=fun e=>by rw[<-e,u6]at f17;cases f17
   refine cJ.app3 (hX.upd (by rfl) hxb _) om (show du 1 (.int .i64 (i:Int)) by simp[du]) (bD ⟨_,_,_,rfl,bV,rfl,fun h=>hxb _ h rfl⟩) ?_
   intro c S2 hX2 hk1 hk3;have u62:=hk1 b6 _ (by rw[aQ h617];exact u6) hx6
   have hY2:cJ 3 1 St.none S2 y a (fun a=>.int .i64 a):=(hY.upd (by rfl) hyb _).keep (eZ.noneS _) hk1 (fun d hd hd2=>hXY d hd2 hd)
   have hcy:¬dH y c:=by
    intro hc;rcases hk3 with h|h
    ·exact hXY c h hc
    ·obtain⟨X,hX'⟩:=hY.blk hc;rw[aQ (hyb c hc),hX']at h;cases h
   simp -dsimp only[go_sem,aa,reduceCtorEq,e0,e1,e2,e7,e8]
   repeat refine an ?_
   refine aG.intro fun b21 f21=>?_;simp -dsimp only[go_sem,aa,↓reduceIte,reduceCtorEq,e0,e1,e2,e7,e8]
   repeat refine an ?_
   have hxb2:=hX2.fresh f21;have hyb2:=hY2.fresh f21;have h621:b6≠b21:=fun e=>by rw[<-e,u62]at f21;cases f21
   refine cJ.app3 (hY2.upd (by rfl) hyb2 _) om (show du 1 (.int .i64 (a:Int)) by simp[du]) (bD ⟨_,_,_,rfl,bV,rfl,fun h=>hyb2 _ h rfl⟩) ?_
   intro c2 S3 hY3 hk4 hk6;have u63:=hk4 b6 _ (by rw[aQ h621];exact u62) hy6
   have hX3:=(hX2.upd (by rfl) hxb2 _).keep (eZ.noneS _) hk4 (fun d hd hd2=>by rw[eT]at hd;rw[hd]at hd2;exact hcy hd2)
   simp -dsimp only[go_sem,aa,ae,reduceCtorEq,ab,e0,e1,e2,e7,e8]
   repeat refine an ?_
   have hF:∀c,c<a+1->fst a i c<n:=fun c hc=>by unfold fst;split<;>omega
   have hF2:∀c,c<a+1->fst a a c<n:=fun c hc=>by unfold fst;split<;>omega
   have vx:VR S3 (.sl 1 c 0 (a+1)) (bJ (a+1) (fun q=>(fst a i q:Nat))):=hX3.vr (fun q hq=>by
    have:(if q=a then AV.int .i64 (i:Int)else .int .i64 (q:Int))=.int .i64 ((fst a i q:Nat):Int):=by
     unfold fst;by_cases e:q=a
     ·subst e;simp
     ·rw[if_neg e,if_pos om]
    rw[this];exact VR.mf rfl)
   have vy:VR S3 (.sl 1 c2 0 (a+1)) (bJ (a+1) (fun q=>(fst a a q:Nat))):=hY3.vr (fun q hq=>by
    have:(if q=a then AV.int .i64 (a:Int)else .int .i64 (q:Int))=.int .i64 ((fst a a q:Nat):Int):=by
     unfold fst;by_cases e:q=a
     ·subst e;simp
     ·rw[if_neg e,if_pos om]
    rw[this];exact VR.mf rfl)
   refine(xY n n (a+1) (a+1) A (fst a i) (fst a a) om om om om hF hF2).pf.spec (dY.same (dY.cons vx.va (dY.cons vy.va dY.nil))) ?_;simp -dsimp only[go_sem,aa,ae,reduceCtorEq,ab,e0,e1,e2,e7,e8]
   repeat refine an ?_
   refine(iM (a+1) _ k0 om om (fun p q hp hq=>hA _ _ (hF p hp) (hF2 q hq)) hk).call ?_;simp -dsimp only[go_sem,aa,ae,↓reduceIte,reduceCtorEq,ab,e0,e1,e2,e6,e7,e8,u63,bK]
   repeat refine an ?_
   have hd:=DK A a (i-a) 0;simp only[show a+(i-a)=i by omega,Nat.add_zero]at hd
   rw[hd];exact VR.mf rfl
theorem mM(n k:Nat)(A:aU)(hn:n<=16)(hk:k<=n):PF 172 [bn n (fun k=>det (k+1) A),.int .i64 k] (.big (det k A)):=by
 refine PF.of_spec (aA Tryz.func172 rfl 13 Tryz.ntmps172 (by kernel_rfl) (by simp) (by simp[Tryz.results172]) ?_)
 rw[aS,Tryz.results172]
 try simp -dsimp only[go_sem,aj]
 refine aG.intro fun b4 f4=>?_;by_cases h0:k=0
 ·subst h0;simp -dsimp only[go_sem,aa,ae,↓reduceIte,reduceCtorEq,ab,show((0:Nat):Int)=0 from rfl,beq_self_eq_true]
  repeat refine an ?_
  refine(fA (by decide) (by decide)).call ?_
  simp -dsimp only[go_sem,aa,ae,↓reduceIte,ab,bK]
  repeat refine an ?_
  exact VR.mf rfl
 ·obtain⟨m,rfl⟩:∃m,k=m+1:=⟨k-1,by omega⟩
  have hb:(((m+1:Nat):Int)==0)=false:=by simp;omega
  have hw:IntKind.i64.wrap (((m+1:Nat):Int)-1)=(m:Nat):=dq om om;simp -dsimp only[go_sem,aa,ae,↓reduceIte,reduceCtorEq,af,ab,hb,hw,bn,show m<n by omega,bK]
  repeat refine an ?_
  exact VR.mf rfl
theorem ze{a b:Int}:decide (lJ a b<=0)=decide (a<=b):=by
 unfold lJ;rcases iu a b with h|h|h
 ·rw[if_pos h];simp;omega
 ·subst h;simp
 ·rw[if_neg om,if_pos h];simp;omega
theorem Jg{a b:Int}:decide (0<=lJ a b)=decide (b<=a):=by
 unfold lJ;rcases iu a b with h|h|h
 ·rw[if_pos h];simp;omega
 ·subst h;simp
 ·rw[if_neg om,if_pos h];simp;omega
theorem lZ{n:Nat}{A:aU}{k0 k:Nat}(h3:n<=16)(hA:∀i j,i<n->j<n->nb (A i j) k0)(hk:k<=n):nb (det k A) (17*(k0+10)) :=
 (pT k A om (fun a b ha hb=>hA a b om om)).mono (by have:k*(k0+10)<=16*(k0+10):=bT _ om;omega)
theorem Cd{n:Nat}{A:aU}{k0 i j:Nat}(h3:n<=16)(hA:∀i j,i<n->j<n->nb (A i j) k0)(h1:j<=i)(h2:i<n):nb (jK A i j) (17*(k0+10)):=by
 unfold jK;refine(pT (j+1) _ om (fun a b ha hb=>hA _ _ ?_ ?_)).mono (by have:(j+1)*(k0+10)<=16*(k0+10):=bT _ om;omega)
 ·rw[pl];split<;>omega
 ·rw[pl];split<;>omega
theorem G7(n i j:Nat)(A:aU)(k0:Nat)(h1:j<i)(h2:i<n)(h3:n<=16)(hA:∀i j,i<n->j<n->nb (A i j) k0)(hk:k0<=10000000):PF 119 [aV n n A,bn n (fun k=>det (k+1) A),.int .i64 i,.int .i64 j] (.bool (decide (2*((jK A i j).natAbs:Int)<=det (j+1) A))):=by
 refine PF.of_spec (aA Tryz.func119 rfl 22 Tryz.ntmps119 (by kernel_rfl) (by simp) (by simp[Tryz.results119]) ?_)
 rw[aS,Tryz.results119];have hl:=Cd h3 hA (dd h1) h2;have hla:nb ((jK A i j).natAbs:Int) (17*(k0+10)):=nb.of_le (by simp) hl
 have hd:=lZ (k:=j+1) h3 hA om;have h2':nb 2 (17*(k0+10)):=cV (by decide:2<2^2) (ca om om)
 simp -dsimp only[go_sem,aj,aa,ae,ab]
 repeat refine an ?_
 refine(fA (by decide) (by decide)).call ?_
 simp -dsimp only[go_sem,aa,ae,reduceCtorEq,ab]
 repeat refine an ?_
 refine(sc n i j A k0 (dd h1) h2 h3 hA hk).call ?_;simp -dsimp only[go_sem,aa,ae,reduceCtorEq,ab]
 repeat refine an ?_
 refine(yG hl om).call ?_;simp -dsimp only[go_sem,aa,ae,reduceCtorEq,ab]
 repeat refine an ?_
 refine(gz h2' hla om).call ?_;simp -dsimp only[go_sem,aa,ae,reduceCtorEq,ab,aW (show j<1000000 by omega)]
 repeat refine an ?_
 refine(mM n (j+1) A h3 om).call ?_;simp -dsimp only[go_sem,aa,ae,reduceCtorEq,ab]
 repeat refine an ?_
 refine(qm (h2'.mul hla) (hd.mono om) om).call ?_;simp -dsimp only[go_sem,aa,reduceCtorEq,ze]
 repeat refine an ?_
 exact VR.mf rfl
theorem Ed(n:Nat)(A:aU)(k0:Nat)(h1:1<=n)(h2:n<=16)(hA:∀i j,i<n->j<n->nb (A i j) k0)(hk:k0<=10000000):PF 57 [aV n n A] (.bool (decide (det n A<=10000))):=by
 refine PF.of_spec (aA Tryz.func57 rfl 8 Tryz.ntmps57 (by kernel_rfl) (by simp) (by simp[Tryz.results57]) ?_)
 rw[aS,Tryz.results57];have hd:=lZ (k:=n) h2 hA (ah _);have h3:nb 10000 (17*(k0+10)):=cV (by decide:10000<2^14) (ca om om)
 simp -dsimp only[go_sem,aa,ae,reduceCtorEq,ab]
 repeat refine an ?_
 refine(iM n A k0 h1 h2 hA hk).call ?_;simp -dsimp only[go_sem,aa,ae,reduceCtorEq,ab]
 repeat refine an ?_
 refine(fA (by decide) (by decide)).call ?_
 simp -dsimp only[go_sem,aa,ae,reduceCtorEq,ab]
 repeat refine an ?_
 refine(qm hd h3 om).call ?_;simp -dsimp only[go_sem,reduceCtorEq,ze]
 repeat refine an ?_
 exact VR.mf rfl
theorem rk(n:Nat)(A T:aU)(k:Nat)(h1:1<=n)(h2:n<=16)(hA:∀i j,i<n->j<n->nb (A i j) k)(hT:∀i j,i<n->j<n->nb (T i j) k)(hk:k<=100000000):MF 113 [aV n n A,aV n n T] n n (lT n (lT n (fun i j=>T j i) A) T):=by
 refine MF.of (aA Tryz.func113 rfl 17 Tryz.ntmps113 (by kernel_rfl) (by simp) (by simp[Tryz.results113]) ?_)
 rw[aS,Tryz.results113];have hP:∀i j,i<n->j<n->nb (lT n (fun i j=>T j i) A i j) (k+k+10):=fun i j hi hj=>uC (fun q hq=>(hT q i hq hi).mul (hA q j hq hj)) om n (ah _);simp -dsimp only[go_sem,aj,aa,ae,reduceCtorEq,ab]
 repeat refine an ?_
 refine(q8 n n T k h1 h2 h1 h2 hT om).pf.call ?_;simp -dsimp only[go_sem,aa,ae,reduceCtorEq,ab]
 repeat refine an ?_
 refine(nJ n n n (fun i j=>T j i) A k h1 h2 h1 h2 h1 h2 (fun i j hi hj=>hT j i hj hi) hA om).pf.call ?_;simp -dsimp only[go_sem,aa,ae,reduceCtorEq,ab]
 repeat refine an ?_
 refine(nJ n n n _ T (k+k+10) h1 h2 h1 h2 h1 h2 hP (fun i j hi hj=>(hT i j hi hj).mono om) om _ _ (cw _ _)).mono ?_;rintro r S1 ⟨b,g,rfl,hZ⟩;simp -dsimp only[go_sem,aa,reduceCtorEq]
 repeat refine an ?_
 exact⟨b,rfl,g,hZ.1⟩
theorem AD{z:Int}{k:Nat}(h:z.natAbs<16)(hk:4<=k):nb z k:=cV h (by have:=ca (n:=2) om hk;omega)
theorem Fd(n i:Nat)(A:aU)(k0:Nat)(h1:0<i)(h2:i<n)(h3:n<=16)(hA:∀i j,i<n->j<n->nb (A i j) k0)(hk:k0<=10000000):PF 120 [aV n n A,bn n (fun k=>det (k+1) A),.int .i64 i] (.bool (decide (3*(det i A*det i A)<=4*(det (i-1) A*det (i+1) A+jK A i (i-1)*jK A i (i-1))))):=by
 refine PF.of_spec (aA Tryz.func120 rfl 41 Tryz.ntmps120 (by kernel_rfl) (by simp) (by simp[Tryz.results120]) ?_)
 rw[aS,Tryz.results120];obtain⟨m,rfl⟩:∃m,i=m+1:=⟨i-1,by omega⟩
 rw[Nat.add_sub_cancel];have hw:IntKind.i64.wrap (((m+1:Nat):Int)-1)=(m:Nat):=dq om om;have hl:=Cd (i:=m+1) (j:=m) h3 hA om h2;have d0:=lZ (k:=m) h3 hA om;have d1:=lZ (k:=m+1) h3 hA om;have d2:=lZ (k:=m+1+1) h3 hA om;have c4:nb 4 (17*(k0+10)+17*(k0+10)+1):=AD (by decide) om
 have c3:nb 3 (17*(k0+10)+17*(k0+10)):=AD (by decide) om
 have s1:=(d0.mul d2).add (hl.mul hl);simp -dsimp only[go_sem,aj,aa,ae,reduceCtorEq,ab,hw]
 repeat refine an ?_
 refine(sc n (m+1) m A k0 om h2 h3 hA hk).call ?_;simp -dsimp only[go_sem]
 repeat refine an ?_
 refine aG.intro fun b7 f7=>?_;simp -dsimp only[go_sem,aa,ae,↓reduceIte,reduceCtorEq,ab,hw]
 repeat refine an ?_
 refine bG 16 (by kernel_rfl) ?_
 simp -dsimp only[go_sem,aa,ae,↓reduceIte,reduceCtorEq,ab,hw,aW (show m+1<1000000 by omega),bK]
 repeat refine an ?_
 refine⟨_,(fA (by decide) (by decide)).pure',_,(mM n m A h3 om).pure',_,(mM n (m+1+1) A h3 om).pure',_,(gz d0 d2 om).pure',_,(gz hl hl om).pure',_,(qn (d0.mul d2) (hl.mul hl) om).pure',_,(gz c4 s1 om).pure',?_⟩
 refine aG.intro fun b8 f8=>?_;have n8_7:=(ai f8).1;simp -dsimp only[go_sem,aa,ae,↓reduceIte]
 repeat refine an ?_
 refine bG 13 (by kernel_rfl) ?_
 simp -dsimp only[go_sem,aa,ae,↓reduceIte,reduceCtorEq,ab,bK]
 repeat refine an ?_
 refine⟨_,(fA (by decide) (by decide)).pure',_,(mM n (m+1) A h3 om).pure',_,(mM n (m+1) A h3 om).pure',_,(gz d1 d1 om).pure',_,(gz c3 (d1.mul d1) om).pure',_,(qm (c4.mul s1) ((c3.mul (d1.mul d1)).mono om) om).pure',?_⟩
 simp -dsimp only[go_sem,Jg]
 repeat refine an ?_
 exact VR.mf rfl
theorem Dd{a:Int}:decide (a.sign<=0)=decide (a<=0):=by
 rcases iu a 0 with h|h|h
 ·rw[Int.sign_eq_neg_one_of_neg h];simp;omega
 ·subst h;simp
 ·rw[Int.sign_eq_one_of_pos h];simp;omega
theorem By(n:Nat)(A:aU)(k0:Nat)(h1:1<=n)(h2:n<=16)(hA:∀i j,i<n->j<n->nb (A i j) k0)(hk:k0<=10000000)(hs:∀a b,a<n->b<n->A a b=A b a)(β:Bool)(hβ:β=true↔∀k,k<=n->0<det k A):PF 117 [aV n n A] (.bool β):=by
 refine PF.of_spec (aA Tryz.func117 rfl 29 Tryz.ntmps117 (by kernel_rfl) (by simp) (by simp[Tryz.results117]) ?_)
 rw[aS,Tryz.results117];simp -dsimp only[go_sem,aa,ae,reduceCtorEq,ab]
 repeat refine an ?_
 refine(uL n A k0 h1 h2 hA hk).call ?_;simp -dsimp only[go_sem,aa,ae,reduceCtorEq,ab,bn]
 repeat refine an ?_
 refine(qi n A k0 h2 hA hk hs).call ?_;simp -dsimp only[go_sem,aa,reduceCtorEq]
 repeat refine an ?_
 refine aI (fun O S=>∃i:Nat,i<=n/\O 19=bn n (fun k=>det (k+1) A)/\O 20=.int .i64 n/\O 21=.int .i64 i/\∀k,k<=i->0<det k A) (fun O S=>n-bY (O 21)) ?_ ?_
 ·simp -dsimp only[go_sem,aa,bn];exact⟨0,by omega,rfl,fun k hk=>by rw[show k=0 by omega];simp[det]⟩
 ·rintro O S ⟨i,hi,e19,e20,e21,hp⟩;by_cases hlt:i<n
  ·have hd:=lZ (k:=i+1) h2 hA om;simp -dsimp only[go_sem,aa,↓reduceIte,af,decide_true,bn,e19,e20,e21,hlt]
   repeat refine an ?_
   refine aG.intro fun b6 f6=>?_;simp -dsimp only[go_sem,aa,ae,↓reduceIte,ab,bK]
   repeat refine an ?_
   refine(gO hd om).call ?_;by_cases h0:det (i+1) A<=0
   ·simp -dsimp only[go_sem,aa,↓reduceIte,decide_true,bn,e19,e20,e21,Dd,h0]
    repeat refine an ?_
    have:β=false:=by
     cases β with
     | false=>rfl
     | true=>have:=hβ.1 rfl (i+1) om;omega
    rw[this];exact VR.mf rfl
   ·simp -dsimp only[go_sem,aa,↓reduceIte,decide_false,bn,e19,e20,e21,Dd,h0,aW (show i<1000000 by omega),bY]
    repeat refine an ?_
    refine⟨⟨i+1,by omega,rfl,fun k hk=>?_⟩,by omega⟩
    by_cases e:k=i+1
    ·rw[e];omega
    ·exact hp k om
  ·obtain rfl:i=n:=by omega
   simp -dsimp only[go_sem,aa,↓reduceIte,af,decide_false,bn,e19,e20,e21,hlt]
   repeat refine an ?_
   have:β=true:=hβ.2 hp;rw[this];exact VR.mf rfl
theorem oP(n:Nat)(A:aU)(k0:Nat)(h1:1<=n)(h2:n<=8)(hA:∀i j,i<n->j<n->nb (A i j) k0)(hk:k0<=10000000)(hs:∀a b,a<n->b<n->A a b=A b a)(β:Bool)(hβ:β=true↔∀k,k<=n->0<det k A):PF 56 [aV n n A] (.int .i64 (if β then 0 else 5)):=by
 refine PF.of_spec (aA Tryz.func56 rfl 25 Tryz.ntmps56 (by kernel_rfl) (by simp) (by simp[Tryz.results56]) ?_)
 rw[aS,Tryz.results56];simp -dsimp only[go_sem,aa,ae,reduceCtorEq,ab]
 repeat refine an ?_
 refine(xl n A h1 om).call ?_;simp -dsimp only[go_sem,aa,ae,reduceCtorEq,decide_false,ab,show ¬((8:Int)<n) by omega]
 repeat refine an ?_
 refine(qi n A k0 om hA hk hs).call ?_;simp -dsimp only[go_sem,aa,ae,reduceCtorEq,ab]
 repeat refine an ?_
 refine(By n A k0 h1 om hA hk hs β hβ).call ?_
 cases β
 ·simp -dsimp only[go_sem,↓reduceIte,reduceCtorEq]
  repeat refine an ?_
  exact VR.mf rfl
 ·simp -dsimp only[go_sem,↓reduceIte,reduceCtorEq]
  repeat refine an ?_
  exact VR.mf rfl
inductive Ev where
 | size (i j:Nat)
 | swap (i:Nat)
 | done
def zK(A:aU)(n:Nat):Ev->Prop
 | .size i j=>j<i/\i<n/\lD A i/\(∀j',j<j'->j'<i->fX A i j')/\¬fX A i j
 | .swap i=>0<i/\i<n/\lD A i/\(∀j',j'<i->fX A i j')/\¬iV A i
 | .done=>lD A n
def iH(n:Nat):Ev->Nat
 | .size i _=>i
 | .swap i=>i
 | .done=>n
def KY(A:aU)(i j:Nat):Int:=- ((2*jK A i j+det (j+1) A)/(2*det (j+1) A))
def Fp(A:aU):Ev->aU
 | .size i j=>d6 mZ j i (KY A i j)
 | .swap i=>fun a b=>mZ (dB (i-1) i a) b
 | .done=>mZ
def evV(n:Nat)(A:aU)(ev:Ev):AV:=match ev with
 | .done=>.tup [.nil,.bool false]
 | e=>.tup [aV n n (Fp A e),.bool true]
theorem zK.ok{A:aU}{n:Nat}{ev:Ev}(h:zK A n ev):lD A (iH n ev)/\iH n ev<=n:=by
 cases ev with
 | size i j=>exact⟨h.2.2.1,dd h.2.1⟩
 | swap i=>exact⟨h.2.2.1,dd h.2.1⟩
 | done=>exact⟨h,ah _⟩
theorem zq9(A:aU)(n:Nat):∃ev,zK A n ev:=by
 have key:∀i,i<=n->lD A i∨∃ev,zK A n ev:=by
  intro i
  induction i with
  | zero=>intro _;exact bH ⟨fun r hr=>by omega,fun r _ hr=>by omega⟩
  | succ i ih =>
   intro hi;rcases ih om with h|h
   ·have row:∀t,t<=i->(∀j',i-t<=j'->j'<i->fX A i j')∨∃ev,zK A n ev:=by
     intro t
     induction t with
     | zero=>intro _;exact bH (fun j' h1 h2=>by omega)
     | succ t iht =>
      intro ht;rcases iht om with h1|h1
      ·rcases Classical.em (fX A i (i-(t+1)))with h2|h2
       ·refine bH (fun j' h3 h4=>?_);by_cases e:j'=i-(t+1)
        ·rw[e];exact h2
        ·exact h1 j' om h4
       ·exact bD ⟨.size i (i-(t+1)),by omega,by omega,h,fun j' h3 h4=>h1 j' om h4,h2⟩
      ·exact bD h1
    rcases row i (ah _)with h1|h1
    ·have hs:∀j',j'<i->fX A i j':=fun j' hj=>h1 j' om hj;rcases bO i with h0|h0
     ·refine bH ⟨fun r hr j hj=>?_,fun r h2 hr=>by omega⟩
      omega
     ·rcases Classical.em (iV A i)with h2|h2
      ·refine bH ⟨fun r hr j hj=>?_,fun r h3 hr=>?_⟩
       ·by_cases e:r=i
        ·rw[e]at hj ⊢;exact hs j hj
        ·exact h.1 r om j hj
       ·by_cases e:r=i
        ·rw[e];exact h2
        ·exact h.2 r h3 om
      ·exact bD ⟨.swap i,h0,by omega,h,hs,h2⟩
    ·exact bD h1
   ·exact bD h
 rcases key n (ah _)with h|h
 ·exact⟨.done,h⟩
 ·exact h
theorem cS.swap'{S:St}{b:Nat}{g:Nat->Nat}{n m:Nat}{A:Nat->Nat->Int}(h:cS S b g n m A){p k:Nat}(hp:p<n)(hk:k<n)(hpk:p≠k){g1:Nat->AV}(hS:S b=some ⟨59,1,n,g1⟩) :
  cS ((S.upd b ⟨59,1,n,bK g1 p (.sl 2 (g k) 0 m)⟩).upd b ⟨59,1,n,bK (bK g1 p (.sl 2 (g k) 0 m)) k (.sl 2 (g p) 0 m)⟩) b (fun i=>g (dB k p i)) n m (fun i j=>A (dB k p i) j):=by
 rw[kt];exact h.swap hp hk hpk hS
theorem yx(n:Nat)(A:aU)(k0:Nat)(h1:1<=n)(h2:n<=8)(hA:∀i j,i<n->j<n->nb (A i j) k0)(hk:k0<=500000)(hpos:∀k,k<=n->0<det k A)(ev:Ev)(hf:zK A n ev):PF 112 [aV n n A] (evV n A ev):=by
 refine PF.of_spec (aA Tryz.func112 rfl 83 Tryz.ntmps112 (by kernel_rfl) (by simp) (by simp[Tryz.results112]) ?_)
 rw[aS,Tryz.results112];obtain⟨hrow,hrn⟩:=hf.ok;simp -dsimp only[go_sem,aa,ae,reduceCtorEq,ab]
 repeat refine an ?_
 refine(uL n A k0 h1 om hA om).call ?_;simp -dsimp only[go_sem,aa,ae,reduceCtorEq,ab,aV]
 repeat refine an ?_
 refine(oW n h1 om _ _ (cw _ _)).mono ?_;rintro r S1 ⟨b,g,rfl,hM⟩;simp -dsimp only[go_sem,aa,reduceCtorEq]
 repeat refine an ?_
 refine aI (fun O S=>∃i:Nat,i<=iH n ev/\O 0=aV n n A/\O 4=bn n (fun k=>det (k+1) A)/\O 6=.sl 1 b 0 n/\O 22=.int .i64 n/\O 23=.int .i64 i/\S=S1) (fun O S=>n-bY (O 23)) ?_ ?_
 ·simp -dsimp only[go_sem,aa,reduceCtorEq,aV,bn];exact⟨0,by omega,rfl⟩
 ·rintro O S ⟨i,hi,e0,e4,e6,e22,e23,rfl⟩;by_cases hlt:i<n
  ·have hw:IntKind.i64.wrap ((i:Int)-1)=(i:Int)-1:=i64_in om om;simp -dsimp only[go_sem,aa,↓reduceIte,af,decide_true,e22,e23,hlt,hw]
   repeat refine an ?_
   refine aI (fun O S'=>∃jj:Nat,jj<=i/\(∀j',jj<=j'->j'<i->fX A i j')/\(∀j,ev=.size i j->j<jj)/\O 0=aV n n A/\O 4=bn n (fun k=>det (k+1) A)/\O 6=.sl 1 b 0 n/\O 8=.int .i64 i/\O 9=.int .i64 ((jj:Int)-1)/\O 22=.int .i64 n/\O 23=.int .i64 i/\S'=S) (fun O S=>match O 9 with|.int _ z=>(z+1).toNat|_=>0) ?_ ?_
   ·simp -dsimp only[go_sem,aa,reduceCtorEq,e0,e4,e6,e22,e23];refine⟨i,by omega,fun j' h3 h4=>by omega,fun j hj=>?_,rfl⟩
    subst hj;exact hf.1
   ·rintro O S' ⟨jj,hjj,hsz,hev,e0,e4,e6,e8,e9,e22,e23,rfl⟩;rcases bO jj with h0|h0
    ·subst h0;have hall:∀j',j'<i->fX A i j':=fun j' hj=>hsz j' om hj;have hns:∀j,ev≠.size i j:=fun j hj=>by have:=hev j hj;omega
     have hc:¬((0:Int)<=((0:Nat):Int)-1):=by omega
     rcases bO i with hi0|hi0
     ·subst hi0;have hne:(0:Nat)≠iH n ev:=fun e=>by
       cases ev with
       | size a c=>have:=hf.1;simp only[iH]at e;omega
       | swap a=>have:=hf.1;simp only[iH]at e;omega
       | done=>simp only[iH]at e;omega
      simp -dsimp only[go_sem,aa,ae,↓reduceIte,reduceCtorEq,decide_false,ab,e0,e4,e6,e8,e9,e22,e23,show((0:Nat):Int)=0 from rfl,Int.lt_irrefl,show IntKind.i64.wrap ((0:Int)+1)=1 from rfl,bY]
      repeat refine an ?_
      refine⟨⟨1,by omega,rfl⟩,?_⟩
      simp;omega
     ·have hi0':(0:Int)<(i:Int):=by omega
      simp -dsimp only[go_sem,aa,ae,↓reduceIte,reduceCtorEq,decide_true,decide_false,ab,e0,e4,e8,e9,hc,hi0']
      repeat refine an ?_
      refine(Fd n i A k0 hi0 hlt om hA om).call ?_;by_cases hl:iV A i
      ·have hl':decide (3*(det i A*det i A)<=4*(det (i-1) A*det (i+1) A+jK A i (i-1)*jK A i (i-1)))=true:=by simpa [iV]using hl
       rw[hl'];simp -dsimp only[go_sem,aa,reduceCtorEq,decide_true,e0,e4,e6,e8,e22,e23,hi0',aW (show i<1000000 by omega),bY]
       repeat refine an ?_
       have hne:i≠iH n ev:=fun e=>by
        cases ev with
        | size a c=>simp only[iH]at e;subst e;exact hns c rfl
        | swap a=>simp only[iH]at e;subst e;exact hf.2.2.2.2 hl
        | done=>simp only[iH]at e;omega
       exact⟨⟨i+1,by omega,rfl⟩,by omega⟩
      ·have hl':decide (3*(det i A*det i A)<=4*(det (i-1) A*det (i+1) A+jK A i (i-1)*jK A i (i-1)))=false:=by simpa [iV]using hl
       rw[hl'];have hev2:ev=.swap i:=by
        have hie:i=iH n ev:=by
         rcases aE i (iH n ev)with h|h
         ·exact absurd (hrow.2 i hi0 h) hl
         ·omega
        cases ev with
        | size a c=>simp only[iH]at hie;subst hie;exact absurd rfl (hns c)
        | swap a=>simp only[iH]at hie;rw[hie]
        | done=>simp only[iH]at hie;omega
       subst hev2;obtain⟨m,rfl⟩:∃m,i=m+1:=⟨i-1,by omega⟩
       have hw3:IntKind.i64.wrap (((m+1:Nat):Int)-1)=(m:Nat):=dq om om;have hmn:m<n:=by omega
       obtain⟨g1,u1,v1⟩:=hM.1.outer;have w1:g1 (m+1)=.sl 2 (g (m+1)) 0 n:=v1 (m+1) hlt;have w2:g1 m=.sl 2 (g m) 0 n:=v1 m hmn;simp -dsimp only[go_sem,aa,reduceCtorEq,decide_true,e0,e4,e6,e8,e22,e23,hi0']
       repeat refine an ?_
       refine ee 15 [[2,3,4]] (by kernel_rfl) ?_
       simp -dsimp only[go_sem,aa,↓reduceIte,reduceCtorEq,af,ab,e6,e8,hlt,hw3,u1,w1,w2,hmn]
       repeat refine an ?_
       have hM2:=hM.1.swap' (p:=m+1) (k:=m) hlt hmn om u1;exact VR.tup2 (hM2.vr) (VR.mf rfl)
    ·obtain⟨j,rfl⟩:∃j,jj=j+1:=⟨jj-1,by omega⟩
     have e9':O 9=.int .i64 (j:Int):=by rw[e9];congr 1;omega
     clear e9;simp -dsimp only[go_sem,aa,ae,↓reduceIte,reduceCtorEq,decide_true,ab,e0,e4,e6,e8,e9',e22,e23]
     repeat refine an ?_
     refine(G7 n i j A k0 om hlt om hA om).call ?_;by_cases hs:fX A i j
     ·have hs':decide (2*((jK A i j).natAbs:Int)<=det (j+1) A)=true:=by simpa [fX]using hs
      rw[hs'];have hw2:IntKind.i64.wrap ((j:Int)-1)=(j:Int)-1:=i64_in om om;simp -dsimp only[go_sem,aa,reduceCtorEq,e0,e4,e6,e8,e9',e22,e23,hw2]
      repeat refine an ?_
      refine⟨⟨j,by omega,fun j' h3 h4=>?_,fun c hc=>?_,rfl⟩,by omega⟩
      ·by_cases e:j'=j
       ·rw[e];exact hs
       ·exact hsz j' om h4
      ·have h3:=hev c hc;have h4:c≠j:=fun e=>by
        subst e;subst hc;exact hf.2.2.2.2 hs
       omega
     ·have hs':decide (2*((jK A i j).natAbs:Int)<=det (j+1) A)=false:=by simpa [fX]using hs
      rw[hs'];have hev2:ev=.size i j:=by
       have hie:i=iH n ev:=by
        rcases aE i (iH n ev)with h|h
        ·exact absurd (hrow.1 i h j om) hs
        ·omega
       cases ev with
       | size a c =>
        simp only[iH]at hie;subst hie;have h3:=hev c rfl;rcases aE c j with h4|h4
        ·exact absurd (hf.2.2.2.1 j h4 om) hs
        ·rw[show c=j by omega]
       | swap a=>simp only[iH]at hie;subst hie;exact absurd (hf.2.2.2.1 j om) hs
       | done=>simp only[iH]at hie;omega
      subst hev2;have hjn:j<n:=by omega
      have hlam:=Cd (n:=n) (i:=i) (j:=j) om hA om hlt;have hd:=lZ (k:=j+1) (n:=n) om hA om;have hdp:=hpos (j+1) om;have hnear:(2*rN (jK A i j) (det (j+1) A)+rD (jK A i j) (det (j+1) A))/(2*rD (jK A i j) (det (j+1) A))=(2*jK A i j+det (j+1) A)/(2*det (j+1) A):=by
       have hp:=nj (a:=jK A i j) hdp;have hr:=Di (a:=jK A i j) (b:=det (j+1) A);refine l6 om om ?_
       grind
      have hnq:nb ((2*jK A i j+det (j+1) A)/(2*det (j+1) A)) (17*(k0+10)+1+1):=by
       have h5:nb (2*jK A i j) (17*(k0+10)+1):=by
        have:2*jK A i j=jK A i j+jK A i j:=by omega
        rw[this];exact hlam.add hlam
       exact nb.of_le (Int.natAbs_ediv_le_natAbs ..) (h5.add (hd.mono om))
      obtain⟨g1,u1,v1⟩:=hM.1.outer;obtain⟨g2,u2,v2⟩:=hM.1.row j hjn;have w1:=v1 j hjn;simp -dsimp only[go_sem,aa,reduceCtorEq,e0,e4,e6,e8,e9',e22,e23]
      repeat refine an ?_
      refine bG 17 (by kernel_rfl) ?_
      simp -dsimp only[go_sem,aa,ae,↓reduceIte,reduceCtorEq,af,ab,e0,e4,e6,e8,e9',hlt,hjn,u1,u2,w1,aW (show j<1000000 by omega)]
      repeat refine an ?_
      refine⟨_,(sc n i j A k0 om hlt om hA om).pure',_,(mM n (j+1) A om om).pure',_,(Bs hlam hd om hdp).pure',_,(CR (k:=17*(k0+10)) (ug hdp hlam) (uh hdp hd) om om (nj hdp)).pure',_,(Dh (k:=17*(k0+10)+1+1) (by rw[hnear];exact hnq) om).pure',?_⟩
      rw[hnear];simp -dsimp only[go_sem]
      repeat refine an ?_
      exact VR.tup2 ((hM.1.set hjn u2).vr) (VR.mf rfl)
  ·obtain rfl:i=n:=by omega
   simp -dsimp only[go_sem,aa,↓reduceIte,af,decide_false,e22,e23,hlt]
   repeat refine an ?_
   cases ev with
   | size a c=>have:=hf.2.1;simp only[iH]at hi;omega
   | swap a=>have:=hf.2.1;simp only[iH]at hi;omega
   | done=>exact VR.tup2 (VR.mf rfl) (VR.mf rfl)
theorem xi{n i j a:Nat}{q:Int}{f:Nat->Int}(hij:j≠i)(hj:j<n)(ha:a<n):aD n (fun c=>d6 mZ j i q c a*f c)=f a+(if a=i then q*f j else 0):=by
 have e:aD n (fun c=>d6 mZ j i q c a*f c)=aD n (fun c=>mZ c a*f c+(if c=j then(if a=i then q*f j else 0)else 0)):=aP fun c _=>by
  simp only[d6,mZ];by_cases h1:c=j
  ·subst h1;by_cases h2:a=i
   ·subst h2;simp[hij]
   ·simp[h2]
  ·simp[h1]
 rw[e,eX,cN a ha (fun c _ hc=>by simp[mZ,hc]),cN j hj (fun c _ hc=>by simp[hc])]
 simp[mZ]
theorem xh{n p a:Nat}{f:Nat->Int}(hp:0<p)(hpn:p<n)(ha:a<n):aD n (fun c=>mZ (dB (p-1) p c) a*f c)=f (dB (p-1) p a):=by
 have hs:dB (p-1) p a<n:=by unfold dB;split<;>(try split)<;>omega
 have hss:dB (p-1) p (dB (p-1) p a)=a:=by unfold dB;grind
 rw[cN (dB (p-1) p a) hs (fun c _ hc=>?_)]
 ·simp[mZ,hss]
 ·have:dB (p-1) p c≠a:=fun e=>hc (by rw[<-e];unfold dB;grind)
  simp[mZ,this]
theorem Cy{n i j a b:Nat}{A:aU}{q:Int}(hij:j<i)(hi:i<n)(ha:a<n)(hb:b<n):lT n (lT n (fun p c=>d6 mZ j i q c p) A) (d6 mZ j i q) a b=jL A i j q a b:=by
 have h1:∀c,c<n->lT n (fun p c=>d6 mZ j i q c p) A a c=A a c+(if a=i then q*A j c else 0):=fun c _=>xi (f:=fun t=>A t c) om om ha
 have h2:lT n (lT n (fun p c=>d6 mZ j i q c p) A) (d6 mZ j i q) a b=aD n (fun c=>d6 mZ j i q c b*(A a c+(if a=i then q*A j c else 0))):=aP fun c hc=>by rw[h1 c hc,cZ]
 rw[h2,xi (f:=fun c=>A a c+(if a=i then q*A j c else 0)) om om hb]
 simp only[jL];by_cases e1:a=i<;>by_cases e2:b=i<;>simp[e1,e2]<;>grind
theorem Cx{n p a b:Nat}{A:aU}(hp:0<p)(hpn:p<n)(ha:a<n)(hb:b<n):lT n (lT n (fun x c=>mZ (dB (p-1) p c) x) A) (fun a b=>mZ (dB (p-1) p a) b) a b=wd A p a b:=by
 have h1:∀c,c<n->lT n (fun x c=>mZ (dB (p-1) p c) x) A a c=A (dB (p-1) p a) c:=fun c _=>xh (f:=fun t=>A t c) hp hpn ha;have h2:lT n (lT n (fun x c=>mZ (dB (p-1) p c) x) A) (fun a b=>mZ (dB (p-1) p a) b) a b=aD n (fun c=>mZ (dB (p-1) p c) b*A (dB (p-1) p a) c):=aP fun c hc=>by rw[h1 c hc,cZ]
 rw[h2,xh (f:=fun c=>A (dB (p-1) p a) c) hp hpn hb];rfl
inductive Lu (n:Nat):aU->aU->aU->aU->Prop where
 | done {A T:aU}:zK A n .done->Lu n A T A T
 | size {A T H T':aU} {i j:Nat}:zK A n (.size i j)->Lu n (jL A i j (KY A i j)) (lT n T (Fp A (.size i j))) H T'->Lu n A T H T'
 | swap {A T H T':aU} {i:Nat}:zK A n (.swap i)->Lu n (wd A i) (lT n T (Fp A (.swap i))) H T'->Lu n A T H T'
theorem Cn{A:aU}{n i j:Nat}(h:Pd A n)(hi:i<n)(hj:j<i):2*((jK A i j+KY A i j*det (j+1) A).natAbs:Int)<=det (j+1) A:=IB (h.pos (j+1) om)
theorem KB{n:Nat}(hn:n<=5):∀(m:Nat) (A T:aU) (s:Nat),LI A n s->yN A n<=m->∃H T',Lu n A T H T'/\Lv H n/\det n H=det n A:=by
 intro m
 induction m with
 | zero =>
  intro A T s h hm;exfalso;have h1:=h.pd.pot_pos;unfold yN at hm;have:0<pot A n*(n*(n+1)+1):=Nat.mul_pos h1 om;omega
 | succ m ih =>
  intro A T s h hm;obtain⟨ev,hf⟩:=zq9 A n
  cases ev with
  | done=>exact⟨A,T,.done hf,⟨h.pd,hf,h.lead⟩,rfl⟩
  | size i j =>
   obtain⟨h1,h2,h3,h4,h5⟩:=hf;have hq:=Cn h.pd h2 h1;have hp:=rK (n:=n) h1 h2 h3 h4 h5 hq;obtain⟨H,T',r1,r2,r3⟩:=ih _ (lT n T (Fp A (.size i j))) s (h.add hn h1 h2 h3 h4 h5 hq) (by have:=AH h1 hp;omega)
   exact⟨H,T',.size ⟨h1,h2,h3,h4,h5⟩ r1,r2,by rw[r3,iQ h1]⟩
  | swap i =>
   obtain⟨h1,h2,h3,h4,h5⟩:=hf;obtain⟨H,T',r1,r2,r3⟩:=ih _ (lT n T (Fp A (.swap i))) (s+1) (h.swap hn h1 h2 h5) (by have:=xH h.pd h1 h2 h5;omega)
   exact⟨H,T',.swap ⟨h1,h2,h3,h4,h5⟩ r1,r2,by rw[r3,lW h1 om]⟩
def matOf(x:AV):aU:=fun i j=>match x with
 | .lst _ _ g=>(match g i with
  | .lst _ _ h=>(match h j with
   | .big z=>z
   | _=>0)
  | _=>0)
 | _=>0
def RI(n:Nat)(H Tf A:aU)(S:St)(x:AV):Prop:=∃(T:aU) (s b:Nat) (g:Nat->Nat),Lu n A T H Tf/\LI A n s/\(∀i j,i<n->j<n->nb (T i j) (10+124720*(31*s+ip A n)))/\x=.sl 1 b 0 n/\cS S b g n n T
theorem Dm{A:aU}{n:Nat}(hn:n<=5):ip A n<=30:=by
 have h1:=qq A n;have h2:n*(n+1)<=5*6:=ci hn om;omega
theorem KX{A:aU}{n s i j:Nat}(h:LI A n s)(hn:n<=5)(hi:i<n)(hj:j<i):nb (KY A i j) 124700:=by
 have h1:=h.pd.q_sq h.lead hj hi (Cn h.pd hi hj);have h2:=h.diag i hi;have hs:=h.s_le hn;have hp:=Dm (A:=A) hn;obtain⟨N,hN1,hN2⟩:∃N,249300<=N/\N<=249300:=⟨_,ah _,ah _⟩;have h3:=lY (show 4+40*(31*s+ip A n)<=N by omega)
 have h4:3*(59049*A i i)<=2^18*2^N:=by
  have e:(2:Int)^18=262144:=by decide
  rw[e];have hdg:=h.pd.diag hi;generalize (2:Int)^N=P at *;omega
 rw[<-Int.pow_add]at h4;obtain⟨M,hM1,hM2⟩:∃M,124690<=M/\M<=124690:=⟨_,ah _,ah _⟩;have h5:KY A i j*KY A i j<=2^M*2^M:=by
  rw[<-Int.pow_add];have h6:=lY (show 18+N<=M+M by omega)
  exact Int.le_trans h1 (Int.le_trans h4 h6)
 have e:(2:Int)^M=((2^M:Nat):Int):=by simp
 have h7:=o8 (by rw[e];exact Int.natCast_nonneg _) h5
 rw[e]at h7;refine nb.mono (k:=M+1) ?_ om;unfold nb;have h8:2^M<2^(M+1):=Nat.pow_lt_pow_right om om;omega
theorem VR.tup3{S:St}{x y z x' y' z':AV}(h1:VR S x x')(h2:VR S y y')(h3:VR S z z'):VR S (.tup [x,y,z]) (.tup [x',y',z']):=by
 intro w v hs hr;simp only[a8]at hr ⊢;obtain⟨vs,e,h⟩:=hr;refine⟨vs,e,?_⟩
 match vs,h with
 | [u,v,t],h=>simp only[a6]at h ⊢;exact⟨h1 w u hs h.1,h2 w v hs h.2.1,h3 w t hs h.2.2.1,trivial⟩
 | [],h=>simp[a6]at h
 | [_],h=>simp[a6]at h
 | [_,_],h=>simp[a6]at h
 | _::_::_::_::_,h=>simp[a6]at h
theorem Ck(a b k:Nat)(hk:1<=k):nb (mZ a b) k:=by
 unfold mZ;split
 ·exact nb.one hk
 ·exact nb.zero k
theorem IN{z:Int}(h:(z.natAbs:Int)<=118098):kb z:=by unfold kb;omega
theorem E9(n:Nat)(A:aU)(h1:1<=n)(h2:n<=5)(hs:∀a b,a<n->b<n->A a b=A b a)(hp:∀k,k<=n->0<det k A)(hd:det n A<=10000)(h9:∀i,i<n->A i i<=9) :
  ∃H T,Lv H n/\det n H=det n A/\PF 53 [aV n n A] (.tup [aK n n H,aV n n T,.int .i64 0]):=by
 have hpd:Pd A n:=⟨hs,hp⟩;have hL:=LI.init hpd h2 h9;have hA:∀i j,i<n->j<n->nb (A i j) 4:=fun i j hi hj=>by
  have h3:=hpd.cs0 hi hj;have h4:=Int.mul_le_mul (h9 i hi) (h9 j hj) (Int.le_of_lt (hpd.diag hj)) om;have h5:=o8 (x:=A i j) (B:=9) om om;unfold nb;omega
 obtain⟨H,T,hR,hRed,hdet⟩:=KB h2 _ A mZ 0 hL (ah _);refine⟨H,T,hRed,hdet,?_⟩;refine PF.of_spec (aA Tryz.func53 rfl 49 Tryz.ntmps53 (by kernel_rfl) (by simp) (by simp[Tryz.results53]) ?_)
 rw[aS,Tryz.results53];simp -dsimp only[go_sem,aa,ae,reduceCtorEq,ab]
 repeat refine an ?_
 refine(oP n A 4 h1 om hA om hs true (by simp;exact hp)).call ?_
 simp -dsimp only[go_sem,aa,ae,↓reduceIte,reduceCtorEq,ab,show((0:Int) != 0)=false from rfl]
 repeat refine an ?_
 refine(Ed n A 4 h1 om hA om).call ?_;simp -dsimp only[go_sem,aa,ae,reduceCtorEq,decide_true,ab,hd]
 repeat refine an ?_
 refine(zM n n A 4 om h1 om hA om).pf.call ?_;simp -dsimp only[go_sem,aa,ae,reduceCtorEq,ab,aV]
 repeat refine an ?_
 refine(oW n h1 om _ _ (cw _ _)).mono ?_;rintro r S1 ⟨b,g,rfl,hM⟩;simp -dsimp only[go_sem,aa,reduceCtorEq]
 repeat refine an ?_
 refine aI (fun O S=>∃A':aU,O 6=aV n n A'/\RI n H T A' S (O 7)) (fun O S=>yN (matOf (O 6)) n) ?_ ?_
 ·simp -dsimp only[go_sem,aa,aV,bn]
  repeat refine an ?_
  exact⟨A,rfl,mZ,0,b,g,hR,hL,fun i j _ _=>Ck i j _ om,rfl,hM.1⟩
 ·rintro O S ⟨A',e6,T',s,b,g,hRun,hLI,hT,e7,hM⟩;obtain⟨N,hN1,hN2⟩:∃N,249300<=N/\N<=249300:=⟨_,ah _,ah _⟩;have hent:∀i j,i<n->j<n->nb (A' i j) N:=fun i j hi hj=>hLI.entry h2 hi hj hN1;have hs1:=hLI.s_le h2;have hpl:=Dm (A:=A') h2
  cases hRun with
  | done hf =>
   simp -dsimp only[go_sem,aa,ae,ab,e6]
   repeat refine an ?_
   refine(yx n H N h1 om hent om (fun k hk=>hLI.pd.pos k hk) .done hf).call ?_;simp -dsimp only[go_sem,aa,ae,ab,e6,evV]
   repeat refine an ?_
   have hfit:∀i j,i<n->j<n->kb (H i j):=fun i j hi hj=>IN (hRed.entry h2 hi hj);refine(E6 n n H h1 om h1 om hfit _ _ (cw _ _)).mono ?_;rintro r S2 ⟨b2,g2,rfl,hM2⟩;simp -dsimp only[go_sem,aa,e6,e7]
   repeat refine an ?_
   exact VR.tup3 hM2.1.vr (hM.ext hM2.2.1).vr (VR.mf rfl)
  | size hf hRun' =>
   rename_i i j;obtain⟨f1,f2,f3,f4,f5⟩:=hf;have hq:=KX hLI h2 f2 f1;have hU:∀a c,a<n->c<n->nb (Fp A' (.size i j) a c) 124700:=fun a c _ _=>by
    simp only[Fp,d6];split
    ·exact hq
    ·exact Ck a c _ om
   have hok:=Cn hLI.pd f2 f1;have hpl2:=rK (n:=n) f1 f2 f3 f4 f5 hok;simp -dsimp only[go_sem,aa,ae,ab,e6]
   repeat refine an ?_
   refine(yx n A' N h1 om hent om (fun k hk=>hLI.pd.pos k hk) (.size i j) ⟨f1,f2,f3,f4,f5⟩).call ?_;simp -dsimp only[go_sem,aa,ae,ab,e6,evV]
   repeat refine an ?_
   refine((rk n A' (Fp A' (.size i j)) N h1 om hent (fun a c ha hc=>(hU a c ha hc).mono om) om).congr (B:=jL A' i j (KY A' i j)) (fun a c ha hc=>Cy f1 f2 ha hc)).pf.call ?_;simp -dsimp only[go_sem,aa,ae,ab,e6,e7]
   repeat refine an ?_
   refine(nJ n n n T' (Fp A' (.size i j)) (10+124720*(31*s+ip A' n)+124700) h1 om h1 om h1 om (fun a c ha hc=>(hT a c ha hc).mono om) (fun a c ha hc=>(hU a c ha hc).mono om) om _ _ (dY.mat hM (cw _ _))).mono ?_;rintro r S2 ⟨b2,g2,rfl,hM2⟩;simp -dsimp only[go_sem,aa,e6,e7]
   repeat refine an ?_
   refine⟨⟨_,rfl,_,s,b2,g2,hRun',hLI.add h2 f1 f2 f3 f4 f5 hok,fun a c ha hc=>?_,rfl,hM2.1⟩,AH f1 hpl2⟩;exact(uC (fun t ht=>(hT a t ha ht).mul (hU t c ht hc)) om n (ah _)).mono om
  | swap hf hRun' =>
   rename_i i;obtain⟨f1,f2,f3,f4,f5⟩:=hf;have hU:∀a c,a<n->c<n->nb (Fp A' (.swap i) a c) 124700:=fun a c _ _=>Ck _ c _ om;simp -dsimp only[go_sem,aa,ae,ab,e6]
   repeat refine an ?_
   refine(yx n A' N h1 om hent om (fun k hk=>hLI.pd.pos k hk) (.swap i) ⟨f1,f2,f3,f4,f5⟩).call ?_;simp -dsimp only[go_sem,aa,ae,ab,e6,evV]
   repeat refine an ?_
   refine((rk n A' (Fp A' (.swap i)) N h1 om hent (fun a c ha hc=>(hU a c ha hc).mono om) om).congr (B:=wd A' i) (fun a c ha hc=>Cx f1 f2 ha hc)).pf.call ?_;simp -dsimp only[go_sem,aa,ae,ab,e6,e7]
   repeat refine an ?_
   refine(nJ n n n T' (Fp A' (.swap i)) (10+124720*(31*s+ip A' n)+124700) h1 om h1 om h1 om (fun a c ha hc=>(hT a c ha hc).mono om) (fun a c ha hc=>(hU a c ha hc).mono om) om _ _ (dY.mat hM (cw _ _))).mono ?_;rintro r S2 ⟨b2,g2,rfl,hM2⟩;simp -dsimp only[go_sem,aa,e6,e7]
   repeat refine an ?_
   refine⟨⟨_,rfl,_,s+1,b2,g2,hRun',hLI.swap h2 f1 f2 f5,fun a c ha hc=>?_,rfl,hM2.1⟩,xH hLI.pd f1 f2 f5⟩;exact(uC (fun t ht=>(hT a t ha ht).mul (hU t c ht hc)) om n (ah _)).mono om
def gJ(S:St)(bt N:Nat):Prop:=∃(L:Nat) (nums:Nat->Int) (k:Nat) (g:Nat->AV),S bt=some ⟨107,1,2,g⟩/\g 0=.lst 1 L (fun i=>.int .i8 (nums i))/\g 1=.int .i64 k/\k<=N/\∀i,i<L->-128<=nums i/\nums i<=127
theorem gJ.upd{S:St}{bt N c:Nat}(h:gJ S bt N)(hc:bt≠c)(X:dn):gJ (S.upd c X) bt N:=by
 obtain⟨L,nums,k,g,h1,h2⟩:=h;exact⟨L,nums,k,g,by rw[aQ hc];exact h1,h2⟩
theorem gJ.step{S S':St}{bt N:Nat}(h:gJ S bt N)(he:S' bt=S bt):gJ S' bt N:=by
 obtain⟨L,nums,k,g,h1,h2⟩:=h;exact⟨L,nums,k,g,by rw[he];exact h1,h2⟩
theorem gJ.mono{S:St}{bt N M:Nat}(h:gJ S bt N)(hM:N<=M):gJ S bt M:=by
 obtain⟨L,nums,k,g,h1,h2,h3,h4,h5⟩:=h;exact⟨L,nums,k,g,h1,h2,h3,by omega,h5⟩
theorem gJ.ne{S:St}{bt N b ty es n:Nat}{g:Nat->AV}(h:gJ S bt N)(hb:S b=some ⟨ty,es,n,g⟩)(ht:ty≠107):bt≠b:=by
 obtain⟨_,_,_,_,h1,_⟩:=h;rintro rfl;rw[h1]at hb;cases hb;exact ht rfl
theorem gJ.fresh{S:St}{bt N c:Nat}(h:gJ S bt N)(hc:S c=ac):bt≠c:=by
 obtain⟨_,_,_,_,h1,_⟩:=h;rintro rfl;rw[h1]at hc;cases hc
theorem rZ(S:St)(bt N:Nat)(h:gJ S bt N)(hN:N<=1000):cM 77 [.ptr 1 bt 0] S (fun r S'=>∃z:Int,(-128<=z/\z<=127)/\r=.int .i64 z/\gJ S' bt (N+1)/\∀d,d≠bt->S' d=S d):=by
 refine aA Tryz.func77 rfl 32 Tryz.ntmps77 (by kernel_rfl) (by simp) (by simp[Tryz.results77]) ?_
 rw[aS,Tryz.results77];obtain⟨L,nums,k,g,h1,h2,h3,h4,h5⟩:=h;simp -dsimp only[go_sem]
 repeat refine an ?_
 refine bG 10 (by kernel_rfl) ?_
 by_cases hlt:L<=k
 ·simp -dsimp only[go_sem,aa,ae,↓reduceIte,reduceCtorEq,decide_true,ab,h1,h2,h3,sd,hlt]
  repeat refine an ?_
  exact⟨0,by omega,by omega,rfl,⟨L,nums,k,g,h1,h2,h3,by omega,h5⟩,fun _ _=>trivial⟩
 ·simp -dsimp only[go_sem,aa,ae,↓reduceIte,reduceCtorEq,decide_false,ab,h1,h2,h3,sd,hlt,aW (show k<1000000 by omega)]
  repeat refine an ?_
  refine bG 13 (by kernel_rfl) ?_
  have hw:IntKind.i64.wrap (((k+1:Nat):Int)-1)=(k:Nat):=dq om om;have hkL:k<L:=by omega
  have hr:=h5 k hkL;have hw2:IntKind.i64.wrap (nums k)=nums k:=i64_in om om;simp -dsimp only[go_sem,aa,ae,↓reduceIte,reduceCtorEq,af,ab,h2,hw,bK,hkL,hw2]
  repeat refine an ?_
  refine⟨nums k,by omega,by omega,rfl,⟨L,nums,k+1,_,bV,?_,?_,by omega,h5⟩,fun d hd=>aQ hd⟩
  ·simp[bK,h2]
  ·simp[bK]
theorem p9(S:St)(bt N m:Nat)(h:gJ S bt N)(hN:N<=1000)(hm:1<=m)(hm2:m<=100):cM 150 [.ptr 1 bt 0,.int .i64 m] S (fun r S'=>∃z:Nat,z<m/\r=.int .i64 z/\gJ S' bt (N+1)/\∀d,d≠bt->S' d=S d):=by
 refine aA Tryz.func150 rfl 11 Tryz.ntmps150 (by kernel_rfl) (by simp) (by simp[Tryz.results150]) ?_
 rw[aS,Tryz.results150];simp -dsimp only[go_sem,aj,aa,ae,reduceCtorEq,ab]
 repeat refine an ?_
 refine(rZ S bt N h hN).mono ?_;rintro r S' ⟨z,hz,rfl,hT,hk⟩;have hu:∃y:Nat,y<256/\IntKind.u8.wrap z=y:=by
  rw[IntKind.wrap_u8];exact⟨(z%256).toNat,by omega,by omega⟩
 obtain⟨y,hy,hu⟩:=hu;have hw:IntKind.i64.wrap (y:Int)=y:=i64_in om om;have hm0:¬((m:Int)=0):=by omega
 simp -dsimp only[go_sem,aa,reduceCtorEq,hu,hw,hm0]
 repeat refine an ?_
 refine⟨y%m,Nat.mod_lt _ om,?_,hT,hk⟩;rw[Int.ofNat_tmod]
def Hd(S0 S:St)(bt:Nat):Prop:=∀d X,S0 d=some X->d≠bt->S d=some X
def Bw(n most:Nat)(A:aU):Prop:=∀i,i<n->(1<=A i i/\A i i<=most)/\∀j,j<n->j≠i->A i j=0
def DgI(S0 S:St)(b bt N n most i:Nat):Prop:=∃(g:Nat->Nat) (A:aU),bB S b 29 1 n (fun a=>if a<i then .sl 1 (g a) 0 n else .nil)/\(∀a,a<i->nO S (g a) n (A a)/\S0 (g a)=ac)/\(∀a c,a<i->c<i->g a=g c->a=c) /\
 gJ S bt (N+i)/\Hd S0 S bt/\S0 b=ac/\∀a,a<i->(1<=A a a/\A a a<=most)/\∀j,j<n->j≠a->A a j=0
theorem Hd.upd{S0 S:St}{bt c:Nat}(h:Hd S0 S bt)(hc:S0 c=ac)(X:dn):Hd S0 (S.upd c X) bt:=fun d Y hd hb=>by
 have:d≠c:=by rintro rfl;rw[hc]at hd;cases hd
 rw[aQ this];exact h d Y hd hb
theorem Hd.none{S0 S:St}{bt c:Nat}(h:Hd S0 S bt)(hc:S c=ac)(hb:bt≠c):S0 c=ac:=by
 cases e:S0 c with
 | none=>rfl
 | some X=>rw[h c X e (ak hb)]at hc;cases hc
theorem Hd.step{S0 S S':St}{bt:Nat}(h:Hd S0 S bt)(hk:∀d,d≠bt->S' d=S d):Hd S0 S' bt:=fun d X hd hb=>by rw[hk d hb];exact h d X hd hb
theorem eg(S0:St)(bt N n most:Nat)(hT:gJ S0 bt N)(hN:N+n<=900)(hm:1<=most)(hm2:most<=100):cM 151 [.ptr 1 bt 0,.int .i64 n,.int .i64 most] S0 (fun r S'=>∃b g A,r=.sl 1 b 0 n/\dD S' b g n n A/\gJ S' bt (N+n)/\Hd S0 S' bt/\Bw n most A/\S0 b=ac/\∀a,a<n->S0 (g a)=ac):=by
 refine aA Tryz.func151 rfl 33 Tryz.ntmps151 (by kernel_rfl) (by simp) (by simp[Tryz.results151]) ?_
 rw[aS,Tryz.results151];simp -dsimp only[go_sem,aj,aa,reduceCtorEq]
 repeat refine an ?_
 refine aG.intro fun b7 f7=>?_;simp -dsimp only[go_sem]
 repeat refine an ?_
 have hbt:=hT.fresh f7;refine aI (fun O S=>∃i:Nat,i<=n/\O 0=.ptr 1 bt 0/\O 1=.int .i64 n/\O 2=.int .i64 most/\O 7=.sl 1 b7 0 n/\O 12=.int .i64 n/\O 13=.int .i64 i/\DgI S0 S b7 bt N n most i) (fun O S=>n-bY (O 13)) ?_ ?_
 ·simp -dsimp only[go_sem,aa,reduceCtorEq];exact⟨0,by omega,rfl,fun _=>0,fun _ _=>0,bB.here fun _ _=>by simp,fun a ha=>by omega,fun a c ha=>by omega,hT.upd hbt _,(fun d X hd _=>by rw[aQ (fun e=>by rw[e,f7]at hd;cases hd)];exact hd),f7,fun a ha=>by omega⟩
 ·rintro O S ⟨i,hi,e0,e1,e2,e7,e12,e13,g,A,hO,hR,hI,hTp,hFr,hb0,hA⟩;by_cases hlt:i<n
  ·simp -dsimp only[go_sem,aa,↓reduceIte,af,decide_true,ab,e1,e7,e12,e13,hlt]
   repeat refine an ?_
   refine aG.intro fun b18 f18=>?_;obtain⟨g1,u1,v1⟩:=hO;have h718:b7≠b18:=fun e=>by rw[<-e,u1]at f18;cases f18
   have hbt7:bt≠b7:=hTp.ne u1 om;have hbt18:bt≠b18:=hTp.fresh f18;have hc0:S0 b18=ac:=hFr.none f18 hbt18;simp -dsimp only[go_sem,hlt,h718,u1]
   repeat refine an ?_
   refine ee 7 [[0,1,2,3,4]] (by kernel_rfl) ?_
   simp -dsimp only[go_sem,aa,ae,↓reduceIte,reduceCtorEq,af,ab,e0,e2,e7,hlt,bK]
   repeat refine an ?_
   have hT2:gJ ((S.upd b18 ⟨2,1,n,fun _=>.int .i64 0⟩).upd b7 ⟨29,1,n,bK g1 i (.sl 1 b18 0 n)⟩) bt (N+i):=(hTp.upd hbt18 _).upd hbt7 _;refine(p9 _ bt (N+i) most hT2 om hm hm2).mono ?_;rintro r S2 ⟨z,hz,rfl,hT3,hk⟩;have k7:S2 b7=some ⟨29,1,n,bK g1 i (.sl 1 b18 0 n)⟩:=by rw[hk b7 (ak hbt7)];exact bV
   have k18:S2 b18=some ⟨2,1,n,fun _=>.int .i64 0⟩:=by rw[hk b18 (ak hbt18),aQ (ak h718)];exact bV
   have hw:IntKind.i64.wrap (1+(z:Int))=((z+1:Nat):Int):=dq om om;simp -dsimp only[go_sem,aa,↓reduceIte,reduceCtorEq,af,ab,e0,e1,e2,e7,e12,e13,hlt,h718,k7,k18,bK,hw,aW (show i<1000000 by omega),bY]
   repeat refine an ?_
   refine⟨⟨i+1,by omega,rfl,fun a=>if a=i then b18 else g a,fun a c=>if a=i then(if c=i then((z+1:Nat):Int)else 0)else A a c,(bB.of k7).upd h718 _ |>.congr fun a ha=>?_,fun a ha=>?_,fun a c ha hc e=>?_,hT3.upd hbt18 _,(((hFr.upd hc0 _).upd hb0 _).step hk).upd hc0 _,hb0,fun a ha=>?_⟩,by omega⟩
   ·have:=v1 a ha;simp only[bK];grind
   ·by_cases e:a=i
    ·subst e;simp only[if_true];refine⟨bB.here fun c hc=>?_,hc0⟩;simp only[bK];split<;>rfl
    ·simp only[e,if_false];obtain⟨r1,r2⟩:=hR a om;have q1:g a≠b18:=bB.fresh r1 f18;have q2:g a≠b7:=bB.ne r1 (bB.of u1) om;have q3:g a≠bt:=by obtain⟨gg,hgg,_⟩:=r1;exact ak (hTp.ne hgg om)
     refine⟨(r1.via fun X hX=>?_).upd q1 _,r2⟩;rw[hk _ q3,aQ q2,aQ q1];exact hX
   ·have q1:∀a,a<i->g a≠b18:=fun a ha=>bB.fresh (hR a ha).1 f18
    grind
   ·by_cases e:a=i
    ·subst e;refine⟨by simp only[if_true];omega,fun j hj hja=>by simp[hja]⟩
    ·simp only[e,if_false];exact hA a om
  ·obtain rfl:i=n:=by omega
   simp -dsimp only[go_sem,aa,↓reduceIte,af,decide_false,ab,e1,e7,e12,e13,hlt]
   repeat refine an ?_
   exact⟨b7,rfl,g,A,⟨hO.congr fun a ha=>by simp[ha],fun a ha=>(hR a ha).1,hI⟩,hTp,hFr,hA,hb0,fun a ha=>(hR a ha).2⟩
structure Ls(n most:Nat)(A:aU):Prop where
 sym:∀a c,a<n->c<n->A a c=A c a
 diag:∀a,a<n->1<=A a a/\A a a<=most
 small:∀a c,a<n->c<n->-9<=A a c/\A a c<=9
def Lz(S0 S:St)(b bt N n:Nat)(Q:aU->Prop):Prop:=∃(g:Nat->Nat) (A:aU),dD S b g n n A/\gJ S bt N/\Hd S0 S bt/\S0 b=ac/\(∀a,a<n->S0 (g a)=ac)/\Q A
theorem tmod3(z:Int):-2<=z.tmod 3/\z.tmod 3<=2:=by
 have h1:=qh (a:=z) (b:=3) om;omega
theorem lg(S0:St)(bt N n:Nat)(hT:gJ S0 bt N)(hn:n<=8)(hN:N<=500):cM 148 [.ptr 1 bt 0,.int .i64 n] S0 (fun r S'=>∃b,r=.sl 1 b 0 n/\Lz S0 S' b bt (N+n+n*n) n (Ls n 6)):=by
 refine aA Tryz.func148 rfl 45 Tryz.ntmps148 (by kernel_rfl) (by simp) (by simp[Tryz.results148]) ?_
 rw[aS,Tryz.results148];have hnn:n*n<=64:=ci hn hn;simp -dsimp only[go_sem,aj,aa,ae,reduceCtorEq,ab]
 repeat refine an ?_
 refine(eg S0 bt N n 6 hT om om om).mono ?_;rintro r S1 ⟨b,g,A,rfl,hM,hTp,hFr,hD,hb0,hg0⟩;simp -dsimp only[go_sem,aa,reduceCtorEq]
 repeat refine an ?_
 refine aI (fun O S=>∃i:Nat,i<=n/\O 0=.ptr 1 bt 0/\O 5=.sl 1 b 0 n/\O 12=.int .i64 n/\O 13=.int .i64 i/\Lz S0 S b bt (N+n+i*n) n (Ls n 6)) (fun O S=>n-bY (O 13)) ?_ ?_
 ·simp -dsimp only[go_sem,aa,reduceCtorEq];refine⟨0,by omega,rfl,g,A,hM,hTp.mono om,hFr,hb0,hg0,fun a c ha hc=>?_,fun a ha=>(hD a ha).1,fun a c ha hc=>?_⟩
  ·by_cases e:a=c
   ·rw[e]
   ·rw[(hD a ha).2 c hc (ak e),(hD c hc).2 a ha e]
  ·by_cases e:c=a
   ·have:=(hD a ha).1;rw[e];omega
   ·rw[(hD a ha).2 c hc e];omega
 ·clear hM hTp hFr hD hb0 hg0;rintro O S ⟨i,hi,e0,e5,e12,e13,hG⟩;by_cases hlt:i<n
  ·have hin:i*n+n<=n*n:=by rw[<-it];exact bT _ hlt
   simp -dsimp only[go_sem,aa,↓reduceIte,af,decide_true,e5,e12,e13,hlt]
   repeat refine an ?_
   refine aI (fun O S=>∃k:Nat,k<=i/\O 0=.ptr 1 bt 0/\O 5=.sl 1 b 0 n/\O 6=.int .i64 i/\O 7=.int .i64 k/\O 12=.int .i64 n/\O 13=.int .i64 i/\Lz S0 S b bt (N+n+i*n+k) n (Ls n 6)) (fun O S=>i-bY (O 7)) ?_ ?_
   ·simp -dsimp only[go_sem,aa,reduceCtorEq,e0,e5,e12,e13];exact⟨0,by omega,rfl,hG⟩
   ·clear hG;rintro O S ⟨k,hk,e0,e5,e6,e7,e12,e13,g,A,hM,hTp,hFr,hb0,hg0,hS⟩;by_cases hki:k<i
    ·have hkn:k<n:=by omega
     obtain⟨g1,u1,v1⟩:=hM.outer;obtain⟨gi,ui,vi⟩:=hM.row i hlt;have w1:g1 i=.sl 1 (g i) 0 n:=v1 i hlt;have w2:g1 k=.sl 1 (g k) 0 n:=v1 k hkn;simp -dsimp only[go_sem,aa,↓reduceIte,reduceCtorEq,af,decide_true,e0,e5,e6,e7,e12,e13,hki]
     repeat refine an ?_
     refine ee 6 [[0,1,2,3,4]] (by kernel_rfl) ?_
     simp -dsimp only[go_sem,aa,ae,↓reduceIte,reduceCtorEq,af,ab,e0,e5,e6,e7,hlt,u1,w1]
     repeat refine an ?_
     refine(rZ S bt _ hTp om).mono ?_;rintro r S2 ⟨z,hz,rfl,hT3,hkk⟩;have hbt:bt≠b:=hTp.ne u1 om;have hbg:∀a,a<n->g a≠bt:=fun a ha=>by obtain⟨gg,hgg,_⟩:=hM.row a ha;exact ak (hTp.ne hgg om)
     have hM2:dD S2 b g n n A:=⟨hM.outer.via fun X hX=>by rw[hkk b (ak hbt)];exact hX,fun a ha=>(hM.row a ha).via fun X hX=>by rw[hkk _ (hbg a ha)];exact hX,hM.inj⟩
     obtain⟨g1,u1,v1⟩:=hM2.outer;obtain⟨gi,ui,vi⟩:=hM2.row i hlt;have w1:g1 i=.sl 1 (g i) 0 n:=v1 i hlt;have w2:g1 k=.sl 1 (g k) 0 n:=v1 k hkn;have hz3:=tmod3 z;simp -dsimp only[go_sem,aa,↓reduceIte,reduceCtorEq,af,ab,e5,e6,e7,hlt,hkn,u1,w1,ui,show ¬((3:Int)=0) by decide]
     repeat refine an ?_
     have hM3:=hM2.set (j:=k) (z:=z.tmod 3) hlt ui;have hMi:=hM2.outer_ne hlt;obtain⟨g1',u1',v1'⟩:=hM3.outer;obtain⟨gi',ui',vi'⟩:=hM3.row i hlt;obtain⟨gk',uk',vk'⟩:=hM3.row k hkn;have w1':g1' i=.sl 1 (g i) 0 n:=v1' i hlt;have w2':g1' k=.sl 1 (g k) 0 n:=v1' k hkn;have w3':gi' k=.int .i64 (z.tmod 3):=by rw[vi' k hkn];simp[d6]
     have hki':g i≠g k:=fun e=>by have:=hM.inj i k hlt hkn e;omega
     have hT4:=hT3.upd (ak (hbg i hlt)) ⟨2,1,n,bK gi k (.int .i64 (z.tmod 3))⟩;have hF4:=(hFr.step hkk).upd (hg0 i hlt) ⟨2,1,n,bK gi k (.int .i64 (z.tmod 3))⟩;generalize S2.upd (g i) ⟨2,1,n,bK gi k (.int .i64 (z.tmod 3))⟩=S3 at *;simp -dsimp only[go_sem,u1',w1',hlt]
     repeat refine an ?_
     refine bG 13 (by kernel_rfl) ?_
     simp -dsimp only[go_sem,aa,↓reduceIte,reduceCtorEq,af,ab,e0,e5,e6,e7,e12,e13,hlt,hkn,u1',w1',w2',ui',w3',uk',aW (show k<1000000 by omega),bY]
     repeat refine an ?_
     have hM4:=hM3.set (j:=i) (z:=z.tmod 3) hkn uk';refine⟨⟨k+1,by omega,rfl,g,_,hM4,hT4.upd (ak (hbg k hkn)) _,hF4.upd (hg0 k hkn) _,hb0,hg0,fun a c ha hc=>?_,fun a ha=>?_,fun a c ha hc=>?_⟩,by omega⟩
     ·have:=hS.sym a c ha hc;simp only[d6];grind
     ·have:=hS.diag a ha;simp only[d6];rw[if_neg om,if_neg om];exact this
     ·have:=hS.small a c ha hc;simp only[d6];split
      ·omega
      ·split
       ·omega
       ·exact this
    ·simp -dsimp only[go_sem,aa,↓reduceIte,reduceCtorEq,af,decide_false,e0,e5,e6,e7,e12,e13,hki,aW (show i<1000000 by omega),bY]
     repeat refine an ?_
     exact⟨⟨i+1,by omega,rfl,g,A,hM,hTp.mono (by rw[it];omega),hFr,hb0,hg0,hS⟩,by omega⟩
  ·obtain rfl:i=n:=by omega
   simp -dsimp only[go_sem,aa,↓reduceIte,af,decide_false,e5,e12,e13,hlt]
   repeat refine an ?_
   exact⟨b,rfl,hG⟩
end Go.Proofs.YtdobfmlmenaajaaGreatDoor
