/-
  Lemmas for NeighbourKeeps.
-/
import Derived.Test.YtdobfmlmenaajaaGreatDoorL19
namespace Go.Proofs.YtdobfmlmenaajaaGreatDoor
open Go.RowKit Tryz
open _root_.Bool renaming false_eq_true→bQ
open _root_.Classical renaming em→eP
open _root_.Int renaming tmod_eq_emod_of_nonneg→aN,le_of_lt→aS,emod_lt_of_pos→aU,emod_nonneg→a9,natCast_mul→bO,mul_le_mul→bW,mul_comm→bZ,le_trans→dq,mul_nonneg→dA,tmod→eF,mul_one→ie,ofNat_le→pB,toNat_zero→qx,ofNat_tmod→yo
open _root_.List renaming not_mem_nil→aG,forall_mem_cons→aO,getD_cons_succ→bF,getD_cons_zero→bG
open _root_.Nat renaming add_one_le_iff→aa,le_refl→af,lt_or_ge→az,zero_add→aJ,eq_zero_or_pos→bC,mul_le_mul→bK,pow_succ→bM,pow_le_pow_right→cf,succ_mul→ck,mod_lt→dp
open _root_.Ne renaming symm→ai
open _root_.Option renaming none→ae
set_option maxHeartbeats 6400000
set_option maxRecDepth 4096
set_option linter.all false
attribute [local go_sem] Nat.reduceAdd Nat.reduceEqDiff Nat.reduceLeDiff Nat.reduceLT reduceCtorEq Int.ofNat_lt decide_true decide_false Int.zero_le_ofNat
attribute [local go_sem ↓] reduceIte
variable{m q z:Int}{args:List AV}{N a b bt c i j n p:Nat}{f:Nat->Int}{g:Nat->Nat}{P:Nat->aB->Prop}{S S' S0:St}{A H:aB}
theorem zp(b:j≠i)(k:j<n)(l:a<n):aq n (fun c=>dK ma j i q c a*f c)=f a+(if a=i then q*f j else 0):=by
 have e:aq n (fun c=>dK ma j i q c a*f c)=aq n (fun c=>ma c a*f c+(if c=j then(if a=i then q*f j else 0)else 0)):=aA fun c _=>by
  simp only[dK,ma];by_cases g:c=j
  ·subst g;by_cases h:a=i
   ·subst h;simp[b]
   ·simp[h]
  ·simp[g]
 rw[e,dI,cp a l (fun c _ d=>by simp[ma,d]),cp j k (fun c _ d=>by simp[d])]
 simp[ma]
theorem zo(i:0<p)(d:p<n)(j:a<n):aq n (fun c=>ma (cV (p-1) p c) a*f c)=f (cV (p-1) p a):=by
 have g:cV (p-1) p a<n:=by unfold cV;split<;>(try split)<;>omega
 have b:cV (p-1) p (cV (p-1) p a)=a:=by unfold cV;grind
 rw[cp (cV (p-1) p a) g (fun c _ h=>?_)]
 ·simp[ma,b]
 ·have:cV (p-1) p c≠a:=fun e=>h (by rw[<-e];unfold cV;grind)
  simp[ma,this]
theorem Ef(d:j<i)(r:i<n)(e:a<n)(g:b<n):mV n (mV n (fun p c=>dK ma j i q c p) A) (dK ma j i q) a b=iI A i j q a b:=by
 have h:∀c,c<n->mV n (fun p c=>dK ma j i q c p) A a c=A a c+(if a=i then q*A j c else 0):=fun c _=>zp (f:=fun t=>A t c) om om e
 have k:mV n (mV n (fun p c=>dK ma j i q c p) A) (dK ma j i q) a b=aq n (fun c=>dK ma j i q c b*(A a c+(if a=i then q*A j c else 0))):=aA fun c l=>by rw[h c l,bZ]
 rw[k,zp (f:=fun c=>A a c+(if a=i then q*A j c else 0)) om om g]
 simp only[iI];by_cases m:a=i<;>by_cases o:b=i<;>simp[m,o]<;>grind
theorem Ee(e:0<p)(d:p<n)(g:a<n)(h:b<n):mV n (mV n (fun x c=>ma (cV (p-1) p c) x) A) (fun a b=>ma (cV (p-1) p a) b) a b=q9 A p a b:=by
 have i:∀c,c<n->mV n (fun x c=>ma (cV (p-1) p c) x) A a c=A (cV (p-1) p a) c:=fun c _=>zo (f:=fun t=>A t c) e d g;have j:mV n (mV n (fun x c=>ma (cV (p-1) p c) x) A) (fun a b=>ma (cV (p-1) p a) b) a b=aq n (fun c=>ma (cV (p-1) p c) b*A (cV (p-1) p a) c):=aA fun c k=>by rw[i c k,bZ]
 rw[j,zo (f:=fun c=>A (cV (p-1) p a) c) e d h];rfl
inductive M2 (n:Nat):aB->aB->aB->aB->Prop where
 | done {A T:aB}:BN A n .done->M2 n A T A T
 | size {A T H T':aB} {i j:Nat}:BN A n (.size i j)->M2 n (iI A i j (Mx A i j)) (mV n T (GZ A (.size i j))) H T'->M2 n A T H T'
 | swap {A T H T':aB} {i:Nat}:BN A n (.swap i)->M2 n (q9 A i) (mV n T (GZ A (.swap i))) H T'->M2 n A T H T'
theorem D4(h:Pd A n)(a:i<n)(b:j<i):2*((eB A i j+Mx A i j*det (j+1) A).natAbs:Int)<=det (j+1) A:=Fj (h.pos (j+1) om)
theorem L5(o:n<=5):∀(m:Nat) (A T:aB) (s:Nat),LI A n s->AR A n<=m->∃H T',M2 n A T H T'/\G3 H n/\det n H=det n A:=by
 intro m
 induction m with
 | zero =>
  intro A T s h p;exfalso;have a:=h.pd.pot_pos;unfold AR at p;have:0<pot A n*(n*(n+1)+1):=Nat.mul_pos a om;omega
 | succ m ih =>
  intro A T s h p;obtain⟨ev,f⟩:=Kn A n
  cases ev with
  | done=>exact⟨A,T,.done f,⟨h.pd,f,h.lead⟩,rfl⟩
  | size i j =>
   obtain⟨a,b,d,e,c⟩:=f;have q:=D4 h.pd b a;have r:=tR (n:=n) a b d e c q;obtain⟨H,T',g,k,l⟩:=ih _ (mV n T (GZ A (.size i j))) s (h.add o a b d e c q) (by have:=Cr a r;omega)
   exact⟨H,T',.size ⟨a,b,d,e,c⟩ g,k,by rw[l,eo a]⟩
  | swap i =>
   obtain⟨a,b,d,e,c⟩:=f;obtain⟨H,T',g,k,l⟩:=ih _ (mV n T (GZ A (.swap i))) (s+1) (h.swap o a b c) (by have:=zG h.pd a b c;omega)
   exact⟨H,T',.swap ⟨a,b,d,e,c⟩ g,k,by rw[l,lO a om]⟩
def matOf(x:AV):aB:=fun i j=>match x with
 | .lst _ _ g=>(match g i with
  | .lst _ _ h=>(match h j with
   | .big z=>z
   | _=>0)
  | _=>0)
 | _=>0
def RI(n:Nat)(H Tf A:aB)(S:St)(x:AV):Prop:=∃(T:aB) (s b:Nat) (g:Nat->Nat),M2 n A T H Tf/\LI A n s/\(∀i j,i<n->j<n->nb (T i j) (10+124720*(31*s+jg A n)))/\x=.sl 1 b 0 n/\dd S b g n n T
theorem E7(a:n<=5):jg A n<=30:=by
 have b:=sA A n;have c:n*(n+1)<=5*6:=bK a om;omega
theorem Mw{s:Nat}(h:LI A n s)(b:n<=5)(a:i<n)(c:j<i):nb (Mx A i j) 124700:=by
 have f:=h.pd.q_sq h.lead c a (D4 h.pd a c);have u:=h.diag i a;have v:=h.s_le b;have w:=E7 (A:=A) b;obtain⟨N,g,l⟩:∃N,249300<=N/\N<=249300:=⟨_,af _,af _⟩;have x:=dU (om:4+40*(31*s+jg A n)<=N)
 have d:3*(59049*A i i)<=2^18*2^N:=by
  have e:(2:Int)^18=262144:=by decide
  rw[e];have m:=h.pd.diag a;generalize (2:Int)^N=P at *;omega
 rw[<-Int.pow_add]at d;obtain⟨M,o,p⟩:∃M,124690<=M/\M<=124690:=⟨_,af _,af _⟩;have q:Mx A i j*Mx A i j<=2^M*2^M:=by
  rw[<-Int.pow_add];have r:=dU (om:18+N<=M+M)
  exact dq f (dq d r)
 have e:(2:Int)^M=((2^M:Nat):Int):=by simp
 have t:=mD (by rw[e];exact Int.natCast_nonneg _) q
 rw[e]at t;refine nb.mono (k:=M+1) ?_ om;unfold nb;have y:2^M<2^(M+1):=Nat.pow_lt_pow_right om om;omega
theorem VR.tup3{x y z x' y' z':AV}(c:VR S x x')(d:VR S y y')(f:VR S z z'):VR S (.tup [x,y,z]) (.tup [x',y',z']):=by
 intro w v a b;simp only[bB]at b ⊢;obtain⟨vs,e,h⟩:=b;refine⟨vs,e,?_⟩
 match vs,h with
 | [u,v,t],h=>simp only[a6]at h ⊢;exact⟨c w u a h.1,d w v a h.2.1,f w t a h.2.2.1,trivial⟩
 | [],h=>simp[a6]at h
 | [_],h=>simp[a6]at h
 | [_,_],h=>simp[a6]at h
 | _::_::_::_::_,h=>simp[a6]at h
theorem DY(a b k:Nat)(c:1<=k):nb (ma a b) k:=by
 unfold ma;split
 ·exact nb.one c
 ·exact nb.zero k
theorem Km(h:(z.natAbs:Int)<=118098):iF z:=by unfold iF;omega
theorem GL(n:Nat)(A:aB)(h:1<=n)(u:n<=5)(hs:∀a b,a<n->b<n->A a b=A b a)(hp:∀k,k<=n->0<det k A)(hd:det n A<=10000)(Y:∀i,i<n->A i i<=9) :
  ∃H T,G3 H n/\det n H=det n A/\PF 53 [aV n n A] (.tup [ax n n H,aV n n T,.int .i64 0]):=by
 have w:Pd A n:=⟨hs,hp⟩;have hL:=LI.init w u Y;have Z:∀i j,i<n->j<n->nb (A i j) 4:=fun i j D y=>by
  have h3:=w.cs0 D y;have h4:=bW (Y i D) (Y j y) (aS (w.diag y)) om;have h5:=mD (x:=A i j) (B:=9) om om;unfold nb;omega
 obtain⟨H,T,hR,v,E⟩:=L5 u _ A ma 0 hL (af _);refine⟨H,T,v,E,?_⟩;refine PF.of_spec (ak func53 rfl 49 ntmps53 kr sm (by simp[results53]) ?_)
 rw[aF,results53];simp -dsimp only[go_sem,aa];refine(nk n A 4 h om Z om hs true (by simp;exact hp)).call ?_
 simp -dsimp only[go_sem,aa,show((0:Int) != 0)=false from rfl];refine(zw n A 4 h om Z om).call ?_;simp -dsimp only[go_sem,aa,hd];refine(FG n n A 4 om h om Z om).pf.call ?_;simp -dsimp only[go_sem,aa,aV];refine(uZ n h om _ _ (cD _ _)).mono ?_;rintro r S1 ⟨b,g,rfl,F⟩;simp -dsimp only[go_sem];refine aI (fun O S=>∃A':aB,O 6=aV n n A'/\RI n H T A' S (O 7)) (fun O S=>AR (matOf (O 6)) n) ?_ ?_
 ·simp -dsimp only[go_sem,aV,bA];exact⟨A,rfl,ma,0,b,g,hR,hL,fun i j _ _=>DY i j _ om,rfl,F.1⟩
 ·rintro O S ⟨A',p,T',s,b,g,G,d,V,I,F⟩;obtain⟨N,hN1,hN2⟩:∃N,249300<=N/\N<=249300:=⟨_,af _,af _⟩;have l:∀i j,i<n->j<n->nb (A' i j) N:=fun i j D y=>d.entry u D y hN1;have hs1:=d.s_le u;have hpl:=E7 (A:=A') u
  cases G with
  | done J =>
   simp -dsimp only[go_sem,aa,p];refine(At n H N h om l om (fun k K=>d.pd.pos k K) .done J).call ?_;simp -dsimp only[go_sem,aa,p,evV];have L:∀i j,i<n->j<n->iF (H i j):=fun i j D y=>Km (v.entry u D y);refine(GH n n H h om h om L _ _ (cD _ _)).mono ?_;rintro r S2 ⟨W,X,rfl,o⟩;simp -dsimp only[go_sem,p,I];exact VR.tup3 o.1.vr (F.ext o.2.1).vr (VR.mf rfl)
  | size J m =>
   rename_i i j;obtain⟨f1,q,M,P,z⟩:=J;have hq:=Mw d u q f1;have C:∀a c,a<n->c<n->nb (GZ A' (.size i j) a c) 124700:=fun a c _ _=>by
    simp only[GZ,dK];split
    ·exact hq
    ·exact DY a c _ om
   have Q:=D4 d.pd q f1;have R:=tR (n:=n) f1 q M P z Q;simp -dsimp only[go_sem,aa,p];refine(At n A' N h om l om (fun k K=>d.pd.pos k K) (.size i j) ⟨f1,q,M,P,z⟩).call ?_;simp -dsimp only[go_sem,aa,p,evV];refine((tC n A' (GZ A' (.size i j)) N h om l (fun a c e f=>(C a c e f).mono om) om).congr (B:=iI A' i j (Mx A' i j)) (fun a c e f=>Ef f1 q e f)).pf.call ?_;simp -dsimp only[go_sem,aa,p,I];refine(pi n n n T' (GZ A' (.size i j)) (10+124720*(31*s+jg A' n)+124700) h om h om h om (fun a c e f=>(V a c e f).mono om) (fun a c e f=>(C a c e f).mono om) om _ _ (dT.mat F (cD _ _))).mono ?_;rintro r S2 ⟨W,X,rfl,o⟩;simp -dsimp only[go_sem,p,I];refine⟨⟨_,rfl,_,s,W,X,m,d.add u f1 q M P z Q,fun a c e f=>?_,rfl,o.1⟩,Cr f1 R⟩;exact(pL (fun t U=>(V a t e U).mul (C t c U f)) om n (af _)).mono om
  | swap J m =>
   rename_i i;obtain⟨f1,q,M,P,z⟩:=J;have C:∀a c,a<n->c<n->nb (GZ A' (.swap i) a c) 124700:=fun a c _ _=>DY _ c _ om;simp -dsimp only[go_sem,aa,p];refine(At n A' N h om l om (fun k K=>d.pd.pos k K) (.swap i) ⟨f1,q,M,P,z⟩).call ?_;simp -dsimp only[go_sem,aa,p,evV];refine((tC n A' (GZ A' (.swap i)) N h om l (fun a c e f=>(C a c e f).mono om) om).congr (B:=q9 A' i) (fun a c e f=>Ee f1 q e f)).pf.call ?_;simp -dsimp only[go_sem,aa,p,I];refine(pi n n n T' (GZ A' (.swap i)) (10+124720*(31*s+jg A' n)+124700) h om h om h om (fun a c e f=>(V a c e f).mono om) (fun a c e f=>(C a c e f).mono om) om _ _ (dT.mat F (cD _ _))).mono ?_;rintro r S2 ⟨W,X,rfl,o⟩;simp -dsimp only[go_sem,p,I];refine⟨⟨_,rfl,_,s+1,W,X,m,d.swap u f1 q z,fun a c e f=>?_,rfl,o.1⟩,zG d.pd f1 q z⟩;exact(pL (fun t U=>(V a t e U).mul (C t c U f)) om n (af _)).mono om

def iG(S:St)(bt N:Nat):Prop:=∃(L:Nat) (nums:Nat->Int) (k:Nat) (g:Nat->AV),S bt=some ⟨107,1,2,g⟩/\g 0=.lst 1 L (fun i=>.int .i8 (nums i))/\g 1=.int .i64 k/\k<=N/\∀i,i<L->-128<=nums i/\nums i<=127
theorem iG.upd(h:iG S bt N)(a:bt≠c)(X:dH):iG (S.upd c X) bt N:=by
 obtain⟨L,nums,k,g,b,d⟩:=h;exact⟨L,nums,k,g,by rw[aH a];exact b,d⟩
theorem iG.step(h:iG S bt N)(a:S' bt=S bt):iG S' bt N:=by
 obtain⟨L,nums,k,g,b,c⟩:=h;exact⟨L,nums,k,g,by rw[a];exact b,c⟩
theorem iG.mono{M:Nat}(h:iG S bt N)(e:N<=M):iG S bt M:=by
 obtain⟨L,nums,k,g,a,b,c,f,d⟩:=h;exact⟨L,nums,k,g,a,b,c,om,d⟩
theorem iG.ne{ty es:Nat}{g:Nat->AV}(h:iG S bt N)(a:S b=some ⟨ty,es,n,g⟩)(c:ty≠107):bt≠b:=by
 obtain⟨_,_,_,_,d,_⟩:=h;rintro rfl;rw[d]at a;cases a;exact c rfl
theorem iG.fresh(h:iG S bt N)(a:S c=ae):bt≠c:=by
 obtain⟨_,_,_,_,b,_⟩:=h;rintro rfl;rw[b]at a;cases a
theorem uf(S:St)(bt N:Nat)(h:iG S bt N)(n:N<=1000):cL 77 [.ptr 1 bt 0] S (fun r S'=>∃z:Int,(-128<=z/\z<=127)/\r=.int .i64 z/\iG S' bt (N+1)/\∀d,d≠bt->S' d=S d):=by
 refine ak func77 rfl 32 ntmps77 kr sm (by simp[results77]) ?_
 rw[aF,results77];obtain⟨L,nums,k,g,e,a,f,o,i⟩:=h;simp -dsimp only[go_sem];refine aP 10 kr ?_
 by_cases b:L<=k
 ·simp -dsimp only[go_sem,aa,e,a,f,pB,b];exact⟨0,om,om,rfl,⟨L,nums,k,g,e,a,f,om,i⟩,fun _ _=>trivial⟩
 ·simp -dsimp only[go_sem,aa,e,a,f,pB,b,aM (om:k<1000000)]
  refine aP 13 kr ?_
  have l:IntKind.i64.wrap (((k+1:Nat):Int)-1)=(k:Nat):=dV om om;have c:k<L:=om
  have p:=i k c;have j:IntKind.i64.wrap (nums k)=nums k:=i64_in om om;simp -dsimp only[go_sem,aa,a,l,aL,c,j];refine⟨nums k,om,om,rfl,⟨L,nums,k+1,_,bR,?_,?_,om,i⟩,fun d m=>aH m⟩
  ·simp[aL,a]
  ·simp[aL]
theorem rX(S:St)(bt N m:Nat)(h:iG S bt N)(c:N<=1000)(j:1<=m)(e:m<=100):cL 150 [.ptr 1 bt 0,.int .i64 m] S (fun r S'=>∃z:Nat,z<m/\r=.int .i64 z/\iG S' bt (N+1)/\∀d,d≠bt->S' d=S d):=by
 refine ak func150 rfl 11 ntmps150 kr sm (by simp[results150]) ?_
 rw[aF,results150];simp -dsimp only[go_sem,aa];refine(uf S bt N h c).mono ?_;rintro r S' ⟨z,k,rfl,f,g⟩;have a:∃y:Nat,y<256/\IntKind.u8.wrap z=y:=by
  rw[IntKind.wrap_u8];exact⟨(z%256).toNat,om,om⟩
 obtain⟨y,l,a⟩:=a;have i:IntKind.i64.wrap (y:Int)=y:=i64_in om om;have b:¬((m:Int)=0):=om
 simp -dsimp only[go_sem,a,i,b];refine⟨y%m,dp _ om,?_,f,g⟩;rw[yo]
def Jf(S0 S:St)(bt:Nat):Prop:=∀d X,S0 d=some X->d≠bt->S d=some X
def Dd(n most:Nat)(A:aB):Prop:=∀i,i<n->(1<=A i i/\A i i<=most)/\∀j,j<n->j≠i->A i j=0
def DgI(S0 S:St)(b bt N n most i:Nat):Prop:=∃(g:Nat->Nat) (A:aB),aR S b 29 1 n (fun a=>if a<i then .sl 1 (g a) 0 n else .nil)/\(∀a,a<i->l8 S (g a) n (A a)/\S0 (g a)=ae)/\(∀a c,a<i->c<i->g a=g c->a=c) /\
 iG S bt (N+i)/\Jf S0 S bt/\S0 b=ae/\∀a,a<i->(1<=A a a/\A a a<=most)/\∀j,j<n->j≠a->A a j=0
theorem Jf.upd(h:Jf S0 S bt)(b:S0 c=ae)(X:dH):Jf S0 (S.upd c X) bt:=fun d Y a e=>by
 have:d≠c:=by rintro rfl;rw[b]at a;cases a
 rw[aH this];exact h d Y a e
theorem Jf.none(h:Jf S0 S bt)(a:S c=ae)(b:bt≠c):S0 c=ae:=by
 cases e:S0 c with
 | none=>rfl
 | some X=>rw[h c X e (ai b)]at a;cases a
theorem Jf.step(h:Jf S0 S bt)(b:∀d,d≠bt->S' d=S d):Jf S0 S' bt:=fun d X c a=>by rw[b d a];exact h d X c a
theorem eV(S0:St)(bt N n most:Nat)(T:iG S0 bt N)(hN:N+n<=900)(hm:1<=most)(F:most<=100):cL 151 [.ptr 1 bt 0,.int .i64 n,.int .i64 most] S0 (fun r S'=>∃b g A,r=.sl 1 b 0 n/\cT S' b g n n A/\iG S' bt (N+n)/\Jf S0 S' bt/\Dd n most A/\S0 b=ae/\∀a,a<n->S0 (g a)=ae):=by
 refine ak func151 rfl 33 ntmps151 kr sm (by simp[results151]) ?_
 rw[aF,results151];simp -dsimp only[go_sem]
 repeat refine an ?_
 refine au.intro fun q G=>?_;simp -dsimp only[go_sem];have H:=T.fresh G;refine aI (fun O S=>∃i:Nat,i<=n/\O 0=.ptr 1 bt 0/\O 1=.int .i64 n/\O 2=.int .i64 most/\O 7=.sl 1 q 0 n/\O 12=.int .i64 n/\O 13=.int .i64 i/\DgI S0 S q bt N n most i) (fun O S=>n-bT (O 13)) ?_ ?_
 ·simp -dsimp only[go_sem];exact⟨0,om,rfl,fun _=>0,fun _ _=>0,aR.here fun _ _=>by simp,fun a k=>om,fun a c k=>om,T.upd H _,(fun d X I _=>by rw[aH (fun e=>by rw[e,G]at I;cases I)];exact I),G,fun a k=>om⟩
 ·rintro O S ⟨i,hi,U,J,V,y,t,u,g,A,W,B,hI,o,v,w,Y⟩;by_cases p:i<n
  ·simp -dsimp only[go_sem,aa,J,y,t,u,p]
   repeat refine an ?_
   refine au.intro fun f m=>?_;obtain⟨Z,C,v1⟩:=W;have l:q≠f:=fun e=>by rw[<-e,C]at m;cases m
   have s:bt≠q:=o.ne C om;have h:bt≠f:=o.fresh m;have x:S0 f=ae:=v.none m h;simp -dsimp only[go_sem,p,l,C];refine ej 7 [[0,1,2,3,4]] kr ?_
   simp -dsimp only[go_sem,aa,U,V,y,p,aL];have K:iG ((S.upd f ⟨2,1,n,fun _=>.int .i64 0⟩).upd q ⟨29,1,n,aL Z i (.sl 1 f 0 n)⟩) bt (N+i):=(o.upd h _).upd s _;refine(rX _ bt (N+i) most K om hm F).mono ?_;rintro r S2 ⟨z,hz,rfl,L,D⟩;have k7:S2 q=some ⟨29,1,n,aL Z i (.sl 1 f 0 n)⟩:=by rw[D q (ai s)];exact bR
   have M:S2 f=some ⟨2,1,n,fun _=>.int .i64 0⟩:=by rw[D f (ai h),aH (ai l)];exact bR
   have hw:IntKind.i64.wrap (1+(z:Int))=((z+1:Nat):Int):=dV om om;simp -dsimp only[go_sem,aa,U,J,V,y,t,u,p,l,k7,M,aL,hw,aM (om:i<1000000),bT]
   refine⟨⟨i+1,om,rfl,fun a=>if a=i then f else g a,fun a c=>if a=i then(if c=i then((z+1:Nat):Int)else 0)else A a c,(aR.of k7).upd l _ |>.congr fun a k=>?_,fun a k=>?_,fun a c k hc e=>?_,L.upd h _,(((v.upd x _).upd w _).step D).upd x _,w,fun a k=>?_⟩,om⟩
   ·have:=v1 a k;simp only[aL];grind
   ·by_cases e:a=i
    ·subst e;simp only[if_true];refine⟨aR.here fun c hc=>?_,x⟩;simp only[aL];split<;>rfl
    ·simp only[e,if_false];obtain⟨E,r2⟩:=B a om;have P:g a≠f:=aR.fresh E m;have q2:g a≠q:=aR.ne E (aR.of C) om;have q3:g a≠bt:=by obtain⟨gg,Q,_⟩:=E;exact ai (o.ne Q om)
     refine⟨(E.via fun X hX=>?_).upd P _,r2⟩;rw[D _ q3,aH q2,aH P];exact hX
   ·have P:∀a,a<i->g a≠f:=fun a k=>aR.fresh (B a k).1 m
    grind
   ·by_cases e:a=i
    ·subst e;refine⟨by simp only[if_true];omega,fun j hj R=>by simp[R]⟩
    ·simp only[e,if_false];exact Y a om
  ·obtain rfl:i=n:=om
   simp -dsimp only[go_sem,aa,J,y,t,u,p];exact⟨q,rfl,g,A,⟨W.congr fun a k=>by simp[k],fun a k=>(B a k).1,hI⟩,o,v,Y,w,fun a k=>(B a k).2⟩

structure MY(n most:Nat)(A:aB):Prop where
 sym:∀a c,a<n->c<n->A a c=A c a
 diag:∀a,a<n->1<=A a a/\A a a<=most
 small:∀a c,a<n->c<n->-9<=A a c/\A a c<=9
def M7(S0 S:St)(b bt N n:Nat)(Q:aB->Prop):Prop:=∃(g:Nat->Nat) (A:aB),cT S b g n n A/\iG S bt N/\Jf S0 S bt/\S0 b=ae/\(∀a,a<n->S0 (g a)=ae)/\Q A
theorem tmod3(z:Int):-2<=z.tmod 3/\z.tmod 3<=2:=by
 have c:=sd (a:=z) (b:=3) om;omega
theorem mr(S0:St)(bt N n:Nat)(hT:iG S0 bt N)(hn:n<=8)(hN:N<=500):cL 148 [.ptr 1 bt 0,.int .i64 n] S0 (fun r S'=>∃b,r=.sl 1 b 0 n/\M7 S0 S' b bt (N+n+n*n) n (MY n 6)):=by
 refine ak func148 rfl 45 ntmps148 kr sm (by simp[results148]) ?_
 rw[aF,results148];have hnn:n*n<=64:=bK hn hn;simp -dsimp only[go_sem,aa];refine(eV S0 bt N n 6 hT om om om).mono ?_;rintro r S1 ⟨b,g,A,rfl,q,l,s,C,t,m⟩;simp -dsimp only[go_sem];refine aI (fun O S=>∃i:Nat,i<=n/\O 0=.ptr 1 bt 0/\O 5=.sl 1 b 0 n/\O 12=.int .i64 n/\O 13=.int .i64 i/\M7 S0 S b bt (N+n+i*n) n (MY n 6)) (fun O S=>n-bT (O 13)) ?_ ?_
 ·simp -dsimp only[go_sem];refine⟨0,om,rfl,g,A,q,l.mono om,s,t,m,fun a c h x=>?_,fun a h=>(C a h).1,fun a c h x=>?_⟩
  ·by_cases e:a=c
   ·rw[e]
   ·rw[(C a h).2 c x (ai e),(C c x).2 a h e]
  ·by_cases e:c=a
   ·have:=(C a h).1;rw[e];omega
   ·rw[(C a h).2 c x e];omega
 ·clear q l s C t m;rintro O S ⟨i,hi,D,u,o,p,R⟩;by_cases d:i<n
  ·have hin:i*n+n<=n*n:=by rw[<-ck];exact Nat.mul_le_mul_right _ d
   simp -dsimp only[go_sem,u,o,p,d];refine aI (fun O S=>∃k:Nat,k<=i/\O 0=.ptr 1 bt 0/\O 5=.sl 1 b 0 n/\O 6=.int .i64 i/\O 7=.int .i64 k/\O 12=.int .i64 n/\O 13=.int .i64 i/\M7 S0 S b bt (N+n+i*n+k) n (MY n 6)) (fun O S=>i-bT (O 7)) ?_ ?_
   ·simp -dsimp only[go_sem,D,u,o,p];exact⟨0,om,rfl,R⟩
   ·clear R;rintro O S ⟨k,hk,D,u,E,F,o,p,g,A,q,l,s,t,m,P⟩;by_cases G:k<i
    ·have f:k<n:=om
     obtain⟨H,Q,I⟩:=q.outer;obtain⟨gi,ui,vi⟩:=q.row i d;have T:H i=.sl 1 (g i) 0 n:=I i d;have w2:H k=.sl 1 (g k) 0 n:=I k f;simp -dsimp only[go_sem,D,u,E,F,o,p,G];refine ej 6 [[0,1,2,3,4]] kr ?_
     simp -dsimp only[go_sem,aa,D,u,E,F,d,Q,T];refine(uf S bt _ l om).mono ?_;rintro r S2 ⟨z,hz,rfl,U,y⟩;have V:bt≠b:=l.ne Q om;have B:∀a,a<n->g a≠bt:=fun a h=>by obtain⟨gg,W,_⟩:=q.row a h;exact ai (l.ne W om)
     have v:cT S2 b g n n A:=⟨q.outer.via fun X Y=>by rw[y b (ai V)];exact Y,fun a h=>(q.row a h).via fun X Y=>by rw[y _ (B a h)];exact Y,q.inj⟩
     obtain⟨H,Q,I⟩:=v.outer;obtain⟨gi,ui,vi⟩:=v.row i d;have T:H i=.sl 1 (g i) 0 n:=I i d;have w2:H k=.sl 1 (g k) 0 n:=I k f;have hz3:=tmod3 z;simp -dsimp only[go_sem,aa,u,E,F,d,f,Q,T,ui,show ¬((3:Int)=0) by decide]
     have w:=v.set (j:=k) (z:=z.tmod 3) d ui;have hMi:=v.outer_ne d;obtain⟨J,K,L⟩:=w.outer;obtain⟨gi',ui',vi'⟩:=w.row i d;obtain⟨gk',uk',vk'⟩:=w.row k f;have M:J i=.sl 1 (g i) 0 n:=L i d;have Z:J k=.sl 1 (g k) 0 n:=L k f;have w3':gi' k=.int .i64 (z.tmod 3):=by rw[vi' k f];simp[dK]
     have hki':g i≠g k:=fun e=>by have:=q.inj i k d f e;omega
     have hT4:=U.upd (ai (B i d)) ⟨2,1,n,aL gi k (.int .i64 (z.tmod 3))⟩;have hF4:=(s.step y).upd (m i d) ⟨2,1,n,aL gi k (.int .i64 (z.tmod 3))⟩;generalize S2.upd (g i) ⟨2,1,n,aL gi k (.int .i64 (z.tmod 3))⟩=S3 at *;simp -dsimp only[go_sem,K,M,d];refine aP 13 kr ?_
     simp -dsimp only[go_sem,aa,D,u,E,F,o,p,d,f,K,M,Z,ui',w3',uk',aM (om:k<1000000),bT]
     have hM4:=w.set (j:=i) (z:=z.tmod 3) f uk';refine⟨⟨k+1,om,rfl,g,_,hM4,hT4.upd (ai (B k f)) _,hF4.upd (m k f) _,t,m,fun a c h x=>?_,fun a h=>?_,fun a c h x=>?_⟩,om⟩
     ·have:=P.sym a c h x;simp only[dK];grind
     ·have:=P.diag a h;simp only[dK];rw[if_neg om,if_neg om];exact this
     ·have:=P.small a c h x;simp only[dK];split
      ·omega
      ·split
       ·omega
       ·exact this
    ·simp -dsimp only[go_sem,D,u,E,F,o,p,G,aM (om:i<1000000),bT]
     exact⟨⟨i+1,om,rfl,g,A,q,l.mono (by rw[ck];omega),s,t,m,P⟩,om⟩
  ·obtain rfl:i=n:=om
   simp -dsimp only[go_sem,u,o,p,d];exact⟨b,rfl,R⟩

structure BC(S:St)(b:Nat)(g:Nat->Nat)(n i:Nat)(A:aB):Prop where
 outer:aR S b 29 1 n (fun a=>if a<i then .sl 1 (g a) 0 n else .nil)
 row:∀a,a<i->l8 S (g a) n (A a)
 inj:∀a c,a<i->c<i->g a=g c->a=c
theorem BC.outer_ne(h:BC S b g n i A){a:Nat}(c:a<i):b≠g a:=aR.ne h.outer (h.row a c) om
theorem BC.set(h:BC S b g n i A){a j:Nat}{z:Int}{g':Nat->AV}(k:a<i)(m:S (g a)=some ⟨2,1,n,g'⟩):BC (S.upd (g a) ⟨2,1,n,aL g' j (.int .i64 z)⟩) b g n i (dK A a j z):=by
 refine⟨h.outer.upd (h.outer_ne k) _,fun c d=>?_,h.inj⟩;by_cases e:c=a
 ·subst e;obtain⟨r,l,o⟩:=h.row c d;rw[m]at l;cases l;refine aR.here fun t p=>?_;have:=o t p;simp only[aL,dK]
  grind
 ·have f:g c≠g a:=fun q=>e (h.inj c a d k q);refine((h.row c d).upd f _).congr fun t _=>?_;simp[dK,e]
theorem BC.new(h:BC S b g n i A){c:Nat}(v:i<n)(k:S c=ae){m:Nat->AV}(o:S b=some ⟨29,1,n,m⟩)(s:∀j,j<n->A i j=0) :
  BC ((S.upd c ⟨2,1,n,fun _=>.int .i64 0⟩).upd b ⟨29,1,n,aL m i (.sl 1 c 0 n)⟩) b (fun a=>if a=i then c else g a) n (i+1) A:=by
 have l:b≠c:=fun e=>by rw[<-e,o]at k;cases k
 obtain⟨w,p,t⟩:=h.outer;rw[o]at p;cases p;refine⟨aR.here fun a f=>?_,fun a f=>?_,fun a d f x e=>?_⟩
 ·have:=t a f;simp only[aL];grind
 ·by_cases e:a=i
  ·subst e;simp only[if_true];exact(aR.here fun j u=>by rw[s j u]).upd (ai l) _
  ·simp only[e,if_false];have r:=h.row a om;exact(r.upd (aR.fresh r k) _).upd (ai (h.outer_ne om)) _
 ·have q:∀a,a<i->g a≠c:=fun a f=>aR.fresh (h.row a f) k;have:=h.inj
  grind
structure M9(n i:Nat)(A:aB):Prop where
 sym:∀a c,A a c=A c a
 out:∀a c,i<=a∨i<=c->A a c=0
 diag:∀a,a<i->A a a=2
 small:∀a c,-9<=A a c/\A a c<=9
def ChI(S0 S:St)(b n i:Nat):Prop:=∃(g:Nat->Nat) (A:aB),BC S b g n i A/\M9 n i A/\cY S0 S/\S0 b=ae/\∀a,a<i->S0 (g a)=ae
theorem M9.next0(h:M9 n i A):M9 n (i+1) (dK A i i 2):=by
 refine⟨fun a c=>?_,fun a c b=>?_,fun a d=>?_,fun a c=>?_⟩
 ·have:=h.sym a c;simp only[dK];grind
 ·simp only[dK];rw[if_neg om];exact h.out a c om
 ·simp only[dK];by_cases e:a=i
  ·simp[e]
  ·rw[if_neg om];exact h.diag a om
 ·have:=h.small a c;simp only[dK];split
  ·omega
  ·exact this
theorem M9.next{m:Nat}(h:M9 n i A)(f:m<i):M9 n (i+1) (dK (dK (dK A i i 2) i m (-1)) m i (-1)):=by
 have b:=h.next0;refine⟨fun a c=>?_,fun a c d=>?_,fun a e=>?_,fun a c=>?_⟩
 ·have:=b.sym a c;simp only[dK]at this ⊢;grind
 ·have:=b.out a c d;simp only[dK]at this ⊢;grind
 ·have:=b.diag a e;simp only[dK]at this ⊢;grind
 ·have:=b.small a c;simp only[dK]at this ⊢;grind
theorem xO(S0:St)(n:Nat)(fork:Bool)(hn:n<=8):cL 149 [.int .i64 n,.bool fork] S0 (fun r S'=>∃b,r=.sl 1 b 0 n/\ChI S0 S' b n n):=by
 refine ak func149 rfl 57 ntmps149 kr sm (by simp[results149]) ?_
 rw[aF,results149];simp -dsimp only[go_sem]
 repeat refine an ?_
 refine au.intro fun N f5=>?_;simp -dsimp only[go_sem];refine aI (fun O S=>∃i:Nat,i<=n/\O 0=.int .i64 n/\O 1=.bool fork/\O 5=.sl 1 N 0 n/\O 11=.int .i64 n/\O 12=.int .i64 i/\ChI S0 S N n i) (fun O S=>n-bT (O 12)) ?_ ?_
 ·simp -dsimp only[go_sem];exact⟨0,om,rfl,fun _=>0,fun _ _=>0,⟨aR.here fun _ _=>by simp,fun a Z=>om,fun a c Z=>om⟩,⟨fun _ _=>rfl,fun _ _ _=>rfl,fun a Z=>om,fun _ _=>om⟩,(cY.refl S0).upd f5 _,f5,fun a Z=>om⟩
 ·rintro O S ⟨i,hi,U,P,V,G,H,g,A,y,K,L,v,I⟩;by_cases o:i<n
  ·obtain⟨W,M,v1⟩:=y.outer;simp -dsimp only[go_sem,aa,U,P,V,G,H,o]
   repeat refine an ?_
   refine au.intro fun B p=>?_;have k:N≠B:=fun e=>by rw[<-e,M]at p;cases p
   have hM1:=y.new o p M (fun j _=>K.out i j om);have hE1:=(L.upd (L.none p) ⟨2,1,n,fun _=>.int .i64 0⟩).upd v ⟨29,1,n,aL W i (.sl 1 B 0 n)⟩;have hw1:IntKind.i64.wrap ((i:Int)-1)=(i:Int)-1:=i64_in om om;have hw2:IntKind.i64.wrap ((i:Int)-2)=(i:Int)-2:=i64_in om om;have C:IntKind.i64.wrap ((n:Int)-1)=(n:Int)-1:=i64_in om om;have D:∀a,a<i+1->S0 ((fun a=>if a=i then B else g a) a)=ae:=fun a Z=>by
    by_cases e:a=i
    ·simp only[e,if_true];exact L.none p
    ·simp only[e,if_false];exact I a om
   have w:=hM1.set (a:=i) (j:=i) (z:=2) (g':=fun _=>.int .i64 0) om (by simp only[if_true];rw[aH (ai k)];exact bR)
   simp only[if_true]at w;have E:=hE1.upd (L.none p) ⟨2,1,n,aL (fun _=>.int .i64 0) i (.int .i64 2)⟩;by_cases hB:fork=true/\i+1=n/\3<n
   ·obtain⟨rfl,X,h3⟩:=hB;obtain⟨m,hm⟩:∃m,i=m+2:=⟨i-2,om⟩
    have Q:((i:Int)==(n:Int)-1)=true:=by simp;omega
    have q2:(3:Int)<(n:Int):=om
    have J:IntKind.i64.wrap ((i:Int)-2)=(m:Nat):=dV om om;simp -dsimp only[go_sem,o,nn k,M,aL,C,hw1,Q,q2,J];have q:m<n:=om
    have l:=w.set (a:=i) (j:=m) (z:=-1) (g':=aL (fun _=>.int .i64 0) i (.int .i64 2)) om (by simp only[if_true];exact bR)
    simp only[if_true]at l;obtain⟨gm,um,vm⟩:=l.row m om;have d:m≠i:=om
    simp only[d,if_false]at um vm;have s:=l.set (a:=m) (j:=i) (z:=-1) (g':=gm) om (by simp only[d,if_false];exact um)
    simp only[d,if_false]at s;have wm:W m=.sl 1 (g m) 0 n:=by rw[v1 m q];simp only[];rw[if_pos om]
    have f:g m≠B:=aR.fresh (y.row m om) p;have t:g m≠N:=ai (y.outer_ne om);obtain⟨F,u,R⟩:=y.row m om;obtain rfl:F=gm:=by
     rw[aH f,aH f,aH t,aH f,u]at um;cases um;rfl
    refine eR 11 kr ?_
    simp -dsimp only[go_sem,aa,U,P,V,G,H,o,k,aL,q,wm,f,t,u,d,aM (om:i<1000000),bT]
    exact⟨⟨i+1,om,rfl,_,_,s,K.next om,(E.upd (L.none p) _).upd (I m om) _,v,D⟩,om⟩
   ·cases T:fork with
    | false =>
     rw[T]at P;rcases bC i with x|x
     ·have J:IntKind.i64.wrap ((i:Int)-1)=-1:=by rw[x];decide
      have Y:¬((0:Int)<=-1):=by decide
      simp -dsimp only[go_sem,o,nn k,M,aL,C,J,Y,aM (om:i<1000000),bT]
      exact⟨⟨i+1,om,rfl,_,_,w,K.next0,E,v,D⟩,om⟩
     ·obtain⟨m,hm⟩:∃m,i=m+1:=⟨i-1,om⟩
      have J:IntKind.i64.wrap ((i:Int)-1)=(m:Nat):=dV om om;simp -dsimp only[go_sem,o,nn k,M,aL,C,J];have q:m<n:=om
      have l:=w.set (a:=i) (j:=m) (z:=-1) (g':=aL (fun _=>.int .i64 0) i (.int .i64 2)) om (by simp only[if_true];exact bR)
      simp only[if_true]at l;obtain⟨gm,um,vm⟩:=l.row m om;have d:m≠i:=om
      simp only[d,if_false]at um vm;have s:=l.set (a:=m) (j:=i) (z:=-1) (g':=gm) om (by simp only[d,if_false];exact um)
      simp only[d,if_false]at s;have wm:W m=.sl 1 (g m) 0 n:=by rw[v1 m q];simp only[];rw[if_pos om]
      have f:g m≠B:=aR.fresh (y.row m om) p;have t:g m≠N:=ai (y.outer_ne om);obtain⟨F,u,R⟩:=y.row m om;obtain rfl:F=gm:=by
       rw[aH f,aH f,aH t,aH f,u]at um;cases um;rfl
      refine eR 11 kr ?_
      simp -dsimp only[go_sem,aa,U,P,V,G,H,o,k,aL,q,wm,f,t,u,d,aM (om:i<1000000),bT]
      exact⟨⟨i+1,om,rfl,_,_,s,K.next om,(E.upd (L.none p) _).upd (I m om) _,v,D⟩,om⟩
    | true =>
     rw[T]at P;by_cases X:i+1=n
     ·have Q:((i:Int)==(n:Int)-1)=true:=by simp;omega
      have h3:¬3<n:=fun h=>hB ⟨T,X,h⟩;have q2:¬(3:Int)<(n:Int):=om
      rcases bC i with x|x
      ·have J:IntKind.i64.wrap ((i:Int)-1)=-1:=by rw[x];decide
       have Y:¬((0:Int)<=-1):=by decide
       simp -dsimp only[go_sem,o,nn k,M,aL,C,Q,q2,J,Y,aM (om:i<1000000),bT]
       exact⟨⟨i+1,om,rfl,_,_,w,K.next0,E,v,D⟩,om⟩
      ·obtain⟨m,hm⟩:∃m,i=m+1:=⟨i-1,om⟩
       have J:IntKind.i64.wrap ((i:Int)-1)=(m:Nat):=dV om om;simp -dsimp only[go_sem,o,nn k,M,aL,C,Q,q2,J];have q:m<n:=om
       have l:=w.set (a:=i) (j:=m) (z:=-1) (g':=aL (fun _=>.int .i64 0) i (.int .i64 2)) om (by simp only[if_true];exact bR)
       simp only[if_true]at l;obtain⟨gm,um,vm⟩:=l.row m om;have d:m≠i:=om
       simp only[d,if_false]at um vm;have s:=l.set (a:=m) (j:=i) (z:=-1) (g':=gm) om (by simp only[d,if_false];exact um)
       simp only[d,if_false]at s;have wm:W m=.sl 1 (g m) 0 n:=by rw[v1 m q];simp only[];rw[if_pos om]
       have f:g m≠B:=aR.fresh (y.row m om) p;have t:g m≠N:=ai (y.outer_ne om);obtain⟨F,u,R⟩:=y.row m om;obtain rfl:F=gm:=by
        rw[aH f,aH f,aH t,aH f,u]at um;cases um;rfl
       refine eR 11 kr ?_
       simp -dsimp only[go_sem,aa,U,P,V,G,H,o,k,aL,q,wm,f,t,u,d,aM (om:i<1000000),bT]
       exact⟨⟨i+1,om,rfl,_,_,s,K.next om,(E.upd (L.none p) _).upd (I m om) _,v,D⟩,om⟩
     ·have Q:((i:Int)==(n:Int)-1)=false:=by simp;omega
      rcases bC i with x|x
      ·have J:IntKind.i64.wrap ((i:Int)-1)=-1:=by rw[x];decide
       have Y:¬((0:Int)<=-1):=by decide
       simp -dsimp only[go_sem,o,nn k,M,aL,C,Q,J,Y,aM (om:i<1000000),bT]
       exact⟨⟨i+1,om,rfl,_,_,w,K.next0,E,v,D⟩,om⟩
      ·obtain⟨m,hm⟩:∃m,i=m+1:=⟨i-1,om⟩
       have J:IntKind.i64.wrap ((i:Int)-1)=(m:Nat):=dV om om;simp -dsimp only[go_sem,o,nn k,M,aL,C,Q,J];have q:m<n:=om
       have l:=w.set (a:=i) (j:=m) (z:=-1) (g':=aL (fun _=>.int .i64 0) i (.int .i64 2)) om (by simp only[if_true];exact bR)
       simp only[if_true]at l;obtain⟨gm,um,vm⟩:=l.row m om;have d:m≠i:=om
       simp only[d,if_false]at um vm;have s:=l.set (a:=m) (j:=i) (z:=-1) (g':=gm) om (by simp only[d,if_false];exact um)
       simp only[d,if_false]at s;have wm:W m=.sl 1 (g m) 0 n:=by rw[v1 m q];simp only[];rw[if_pos om]
       have f:g m≠B:=aR.fresh (y.row m om) p;have t:g m≠N:=ai (y.outer_ne om);obtain⟨F,u,R⟩:=y.row m om;obtain rfl:F=gm:=by
        rw[aH f,aH f,aH t,aH f,u]at um;cases um;rfl
       refine eR 11 kr ?_
       simp -dsimp only[go_sem,aa,U,P,V,G,H,o,k,aL,q,wm,f,t,u,d,aM (om:i<1000000),bT]
       exact⟨⟨i+1,om,rfl,_,_,s,K.next om,(E.upd (L.none p) _).upd (I m om) _,v,D⟩,om⟩
  ·obtain rfl:i=n:=om
   simp -dsimp only[go_sem,aa,U,P,V,G,H,o];exact⟨N,rfl,g,A,y,K,L,v,I⟩

theorem nb9(h:-9<=z/\z<=9):nb z 4:=by unfold nb;omega
theorem Lv(h:-9<=z/\z<=9):M3 z:=by unfold M3;omega
theorem iK(n:Nat)(A:aB)(d:1<=n)(l:n<=8)(m:∀a c,a<n->c<n->A a c=A c a)(o:∀a c,a<n->c<n->-9<=A a c/\A a c<=9)(β:Bool)(hβ:β=true↔(∀k,k<=n->0<det k A)/\det n A<=10000):PF 152 [ax n n A] (.bool β):=by
 refine PF.of_spec (ak func152 rfl 16 ntmps152 kr sm (by simp[results152]) ?_)
 rw[aF,results152];have b:∀i j,i<n->j<n->nb (A i j) 4:=fun i j f g=>nb9 (o i j f g);have p:=mY (k:=n) (n:=n) om b (af _);have q:nb 10000 (17*(4+10)):=Nat.lt_of_lt_of_le (by decide:10000<2^14) (cf om om)
 simp -dsimp only[go_sem,aa];refine(Jb n n A d om d om (fun i j f g=>Lv (o i j f g))).call ?_;simp -dsimp only[go_sem,aa];rcases eP (∀k,k<=n->0<det k A)with e|e
 ·refine(nk n A 4 d l b om m true (by simp;exact e)).call ?_
  simp -dsimp only[go_sem,aa,show((0:Int)==0)=true from rfl];refine(jJ n A 4 d om b om).call ?_;simp -dsimp only[go_sem,aa,show((0:Int)==0)=true from rfl];refine(gU dc dc).call ?_
  simp -dsimp only[go_sem,aa,show((0:Int)==0)=true from rfl];refine(sv p q om).call ?_;simp -dsimp only[go_sem,show((0:Int)==0)=true from rfl,qQ];have:β=decide (det n A<=10000):=by
   cases β with
   | true=>have:=(hβ.1 rfl).2;simp[this]
   | false =>
    by_cases h:det n A<=10000
    ·exact absurd (hβ.2 ⟨e,h⟩) sm
    ·simp[h]
  rw[this];exact VR.mf rfl
 ·refine(nk n A 4 d l b om m false (by simp only[bQ,false_iff];exact e)).call ?_
  simp -dsimp only[go_sem,show((5:Int)==0)=false from rfl];have:β=false:=by
   cases β with
   | false=>rfl
   | true=>exact absurd (hβ.1 rfl).1 e
  rw[this];exact VR.mf rfl
structure LY(n:Nat)(A:aB):Prop where
 one:1<=n
 five:n<=5
 sym:∀a c,a<n->c<n->A a c=A c a
 pos:∀k,k<=n->0<det k A
 small:det n A<=10000
 diag:∀i,i<n->A i i<=9
 ent:∀a c,a<n->c<n->-9<=A a c/\A a c<=9
theorem Hy(h:∀i,i<n->0<f i/\f i<=2):fv n f<=2^n:=by
 induction n generalizing f with
 | zero=>simp[fv]
 | succ n ih =>
  simp only[fv];have a:=ih (f:=fun i=>f (i+1)) (fun i b=>h (i+1) om);have c:=tP (n:=n) (f:=fun i=>f (i+1)) (fun i b=>(h (i+1) om).1);have d:=bW (h 0 om).2 a (aS c) om;rw[Int.pow_succ];omega
theorem Dd.det{most:Nat}(h:Dd n most A){k:Nat}(c:k<=n):det k A=fv k (fun r=>A r r):=by
 have a:=o5 (n:=0) k A (by rw[aJ];exact fun r d=>⟨fun j e b=>(h r om).2 j om om,by have:=(h r om).1.1;omega⟩)
 rw[aJ]at a;rw[a,show Go.Proofs.YtdobfmlmenaajaaGreatDoor.det 0 _=1 from rfl,ie]
theorem Dd.good(h:Dd n 2 A)(l:1<=n)(j:n<=5):LY n A:=by
 have m:∀k,k<=n->0<Go.Proofs.YtdobfmlmenaajaaGreatDoor.det k A:=fun k o=>by
  rw[h.det o];exact tP fun i d=>by have:=(h i om).1.1;omega
 refine⟨l,j,fun a c b g=>?_,m,?_,fun i d=>by have:=(h i d).1.2;omega,fun a c b g=>?_⟩
 ·by_cases e:a=c
  ·rw[e]
  ·rw[(h a b).2 c g (ai e),(h c g).2 a b e]
 ·rw[h.det (af _)];have p:=Hy (n:=n) (f:=fun r=>A r r) (fun i d=>by have:=(h i d).1;constructor<;>omega)
  have q:=dU j;have s:(2:Int)^5=32:=by decide
  omega
 ·by_cases e:c=a
  ·have:=(h a b).1;rw[e];omega
  ·rw[(h a b).2 c g e];omega
def J3(d k L:Nat)(nums:Nat->Int)(Lb:Nat)(base:Nat->AV):AV:=.agg [.int .u8 d,.int .u8 k,.lst 1 L (fun i=>.int .i8 (nums i)),.lst 1 Lb base]
def EIM(f:Nat)(args:List AV)(P:Nat->aB->Prop):Prop:=∀S args',dT S args' args->cL f args' S (fun r S'=>∃b g n A,P n A/\r=.sl 1 b 0 n/\kS S S' b g n n A)
theorem EIM.of{f:Nat}(h:cL f args St.none (fun r S'=>∃b g n A,P n A/\r=.sl 1 b 0 n/\cT S' b g n n A)):EIM f args P:=fun S args' d=>by
 have i:cL f args St.none (fun r S'=>∃b g n A,P n A/\r=.sl 1 b 0 n/\cT S' b g n n A/\yz S'):=h.less fun r S' ⟨b,g,n,A,c,e,a⟩=>⟨cZ S' b g n,fU S' b g n,b,g,n,A,c,e,a.only.1,a.only.2⟩;refine(i.frame d ?_).mono ?_
 ·rintro r S1 ⟨b,g,n,A,_,rfl,_,j⟩;exact⟨rfl,j⟩
 ·rintro r S' ⟨S1,⟨b,g,n,A,c,rfl,a,_⟩,k,rfl⟩;exact⟨b,g,n,A,c,rfl,a.join k⟩
theorem Je(d k L:Nat)(nums:Nat->Int)(Lb:Nat)(base:Nat->AV)(hd:d<256)(hk:k<256)(hnums:∀i,i<L->-128<=nums i/\nums i<=127):EIM 89 [J3 d k L nums Lb base,.int .i64 5] LY:=by
 refine EIM.of ?_;refine ak func89 rfl 74 ntmps89 kr sm (by simp[results89]) ?_
 rw[aF,results89];obtain⟨n,hn,hnd⟩:∃n,n=1+d%5/\1+d%5=n:=⟨_,rfl,rfl⟩;have hn5:n<=5:=om
 have hnn:n*n<=25:=bK hn5 hn5;have O:IntKind.i64.wrap (d:Int)=(d:Nat):=i64_in om om;have P:eF (d:Int) 5=((d%5:Nat):Int):=by rw[yo]<;>rfl
 have Q:IntKind.i64.wrap (1+((d%5:Nat):Int))=(n:Nat):=dV om om;have w4:eF (k:Int) 8=((k%8:Nat):Int):=by rw[yo]<;>rfl
 simp -dsimp only[go_sem,aa,J3,aO,aG,false_implies,implies_true];refine au.intro fun b2 f2=>?_;simp -dsimp only[go_sem,bG,bF];refine au.intro fun v f5=>?_;have n5_2:=(ag f5).1;have C:iG ((St.none.upd b2 ⟨24,1,4,fun j=>[AV.int .u8 d,.int .u8 k,.lst 1 L (fun i=>.int .i8 (nums i)),.lst 1 Lb base].getD j .any⟩).upd v ⟨107,1,2,fun j=>[AV.lst 1 L (fun i=>.int .i8 (nums i)),.int .i64 0].getD j .any⟩) v 0:=⟨L,nums,0,_,bR,rfl,rfl,af _,hnums⟩;obtain⟨q,hq,hq8⟩:∃q,q=k%8/\q<8:=⟨_,rfl,dp _ om⟩;rw[<-hq]at w4;simp -dsimp only[go_sem,ai n5_2,bG,bF,O,P,Q,w4,show ¬((5:Int)=0) by decide,show ¬((8:Int)=0) by decide]
 have hq':q=0∨q=1∨q=2∨q=3∨q=4∨q=5∨q=6∨q=7:=om
 clear hq w4;rcases hq' with rfl|rfl|rfl|rfl|rfl|rfl|rfl|rfl
 ·simp -dsimp only[go_sem,show((((0:Nat)):Int)==0)=true from rfl];refine(mr _ v 0 n C om om).mono ?_;rintro r S1 ⟨b,rfl,g,A,l,m,J,E,F,K⟩;have f:=And.intro K.sym K.small;simp -dsimp only[go_sem,aa,O,P,Q];rcases eP ((∀k,k<=n->0<det k A)/\det n A<=10000)with h|h
  ·refine(iK n A om om f.1 f.2 true (by simp only[true_iff];exact h)).spec (dT.cons l.vr.va dT.nil) ?_
   simp -dsimp only[go_sem,aa];exact⟨b,g,n,A,⟨om,om,f.1,h.1,h.2,fun i w=>(f.2 i i w w).2,f.2⟩,rfl,l⟩
  ·refine(iK n A om om f.1 f.2 false (by simp only[bQ,false_iff];exact h)).spec (dT.cons l.vr.va dT.nil) ?_
   simp -dsimp only[go_sem,aa];refine(eV _ v _ n 2 m om om om).mono ?_;rintro r S9 ⟨b',g',A',rfl,o,x,y,s,_,_⟩;simp -dsimp only[go_sem];exact⟨b',g',n,A',s.good om om,rfl,o⟩
 ·simp -dsimp only[go_sem,show((((1:Nat)):Int)==0)=false from rfl,show((((1:Nat)):Int)==1)=true from rfl];refine(mr _ v 0 n C om om).mono ?_;rintro r S1 ⟨b,rfl,g,A,l,m,J,E,F,K⟩;have f:=And.intro K.sym K.small;simp -dsimp only[go_sem,aa,O,P,Q];rcases eP ((∀k,k<=n->0<det k A)/\det n A<=10000)with h|h
  ·refine(iK n A om om f.1 f.2 true (by simp only[true_iff];exact h)).spec (dT.cons l.vr.va dT.nil) ?_
   simp -dsimp only[go_sem,aa];exact⟨b,g,n,A,⟨om,om,f.1,h.1,h.2,fun i w=>(f.2 i i w w).2,f.2⟩,rfl,l⟩
  ·refine(iK n A om om f.1 f.2 false (by simp only[bQ,false_iff];exact h)).spec (dT.cons l.vr.va dT.nil) ?_
   simp -dsimp only[go_sem,aa];refine(eV _ v _ n 2 m om om om).mono ?_;rintro r S9 ⟨b',g',A',rfl,o,x,y,s,_,_⟩;simp -dsimp only[go_sem];exact⟨b',g',n,A',s.good om om,rfl,o⟩
 ·simp -dsimp only[go_sem,show((((2:Nat)):Int)==0)=false from rfl,show((((2:Nat)):Int)==1)=false from rfl,show((((2:Nat)):Int)==2)=true from rfl];refine(mr _ v 0 n C om om).mono ?_;rintro r S1 ⟨b,rfl,g,A,l,m,J,E,F,K⟩;have f:=And.intro K.sym K.small;simp -dsimp only[go_sem,aa,O,P,Q];rcases eP ((∀k,k<=n->0<det k A)/\det n A<=10000)with h|h
  ·refine(iK n A om om f.1 f.2 true (by simp only[true_iff];exact h)).spec (dT.cons l.vr.va dT.nil) ?_
   simp -dsimp only[go_sem,aa];exact⟨b,g,n,A,⟨om,om,f.1,h.1,h.2,fun i w=>(f.2 i i w w).2,f.2⟩,rfl,l⟩
  ·refine(iK n A om om f.1 f.2 false (by simp only[bQ,false_iff];exact h)).spec (dT.cons l.vr.va dT.nil) ?_
   simp -dsimp only[go_sem,aa];refine(eV _ v _ n 2 m om om om).mono ?_;rintro r S9 ⟨b',g',A',rfl,o,x,y,s,_,_⟩;simp -dsimp only[go_sem];exact⟨b',g',n,A',s.good om om,rfl,o⟩
 ·simp -dsimp only[go_sem,show((((3:Nat)):Int)==0)=false from rfl,show((((3:Nat)):Int)==1)=false from rfl,show((((3:Nat)):Int)==2)=false from rfl,show((((3:Nat)):Int)==3)=true from rfl];refine(mr _ v 0 n C om om).mono ?_;rintro r S1 ⟨b,rfl,g,A,l,m,J,E,F,K⟩;have f:=And.intro K.sym K.small;simp -dsimp only[go_sem,aa,O,P,Q];rcases eP ((∀k,k<=n->0<det k A)/\det n A<=10000)with h|h
  ·refine(iK n A om om f.1 f.2 true (by simp only[true_iff];exact h)).spec (dT.cons l.vr.va dT.nil) ?_
   simp -dsimp only[go_sem,aa];exact⟨b,g,n,A,⟨om,om,f.1,h.1,h.2,fun i w=>(f.2 i i w w).2,f.2⟩,rfl,l⟩
  ·refine(iK n A om om f.1 f.2 false (by simp only[bQ,false_iff];exact h)).spec (dT.cons l.vr.va dT.nil) ?_
   simp -dsimp only[go_sem,aa];refine(eV _ v _ n 2 m om om om).mono ?_;rintro r S9 ⟨b',g',A',rfl,o,x,y,s,_,_⟩;simp -dsimp only[go_sem];exact⟨b',g',n,A',s.good om om,rfl,o⟩
 ·simp -dsimp only[go_sem,show((((4:Nat)):Int)==0)=false from rfl,show((((4:Nat)):Int)==1)=false from rfl,show((((4:Nat)):Int)==2)=false from rfl,show((((4:Nat)):Int)==3)=false from rfl,show((((4:Nat)):Int)==4)=true from rfl];refine(xO _ n false om).mono ?_;rintro r S1 ⟨b,rfl,g,A,G,T,hE,E,F⟩;have t:cT S1 b g n n A:=⟨G.outer.congr fun a u=>by simp[u],G.row,G.inj⟩
  have H:iG S1 v 0:=C.step ((hE _ _ bR).trans bR.symm);have D:(0:Nat)<n:=om
  obtain⟨g1,U,v1⟩:=t.outer;obtain⟨V,u2,v2⟩:=t.row 0 D;have x1:g1 0=.sl 1 (g 0) 0 n:=v1 0 D;have x2:V 0=.int .i64 2:=by rw[v2 0 D];simp only[T.diag 0 D]
  simp -dsimp only[go_sem,O,P,Q];refine ej 6 [[0,1,2,3,4],[0,1],[]] kr ?_
  simp -dsimp only[go_sem,aa,U,u2,x1,x2,show((0:Int)<(n:Int)) by omega,qx]
  repeat refine an ?_
  refine(rX _ v 0 3 H om om om).mono ?_;rintro r S2 ⟨z,hz,rfl,W,B⟩;have M:v≠b:=H.ne U om;have I:∀a,a<n->g a≠v:=fun a u=>by obtain⟨gg,Y,_⟩:=t.row a u;exact ai (H.ne Y om)
  have Z:cT S2 b g n n A:=⟨t.outer.via fun X hX=>by rw[B b (ai M)];exact hX,fun a u=>(t.row a u).via fun X hX=>by rw[B _ (I a u)];exact hX,t.inj⟩
  have u1':S2 b=some ⟨29,1,n,g1⟩:=by rw[B b (ai M)];exact U
  have N:S2 (g 0)=some ⟨2,1,n,V⟩:=by rw[B _ (I 0 D)];exact u2
  have wz:IntKind.i64.wrap (2+(z:Int))=((2+z:Nat):Int):=dV om om;simp -dsimp only[go_sem,aa,u1',N,x1,x2,wz,show((0:Int)<(n:Int)) by omega,qx]
  repeat refine an ?_
  have l:=Z.set (j:=0) (z:=((2+z:Nat):Int)) D N;have m:=W.upd (ai (I 0 D)) ⟨2,1,n,aL V 0 (.int .i64 ((2+z:Nat):Int))⟩;have f:(∀a c,a<n->c<n->dK A 0 0 ((2+z:Nat):Int) a c=dK A 0 0 ((2+z:Nat):Int) c a)/\∀a c,a<n->c<n->-9<=dK A 0 0 ((2+z:Nat):Int) a c/\dK A 0 0 ((2+z:Nat):Int) a c<=9:=by
   refine⟨fun a c _ _=>?_,fun a c _ _=>?_⟩
   ·have:=T.sym a c;simp only[dK];grind
   ·have:=T.small a c;simp only[dK];split
    ·omega
    ·exact this
  generalize dK A 0 0 ((2+z:Nat):Int)=A at *;rcases eP ((∀k,k<=n->0<det k A)/\det n A<=10000)with h|h
  ·refine(iK n A om om f.1 f.2 true (by simp only[true_iff];exact h)).spec (dT.cons l.vr.va dT.nil) ?_
   simp -dsimp only[go_sem,aa];exact⟨b,g,n,A,⟨om,om,f.1,h.1,h.2,fun i w=>(f.2 i i w w).2,f.2⟩,rfl,l⟩
  ·refine(iK n A om om f.1 f.2 false (by simp only[bQ,false_iff];exact h)).spec (dT.cons l.vr.va dT.nil) ?_
   simp -dsimp only[go_sem,aa];refine(eV _ v _ n 2 m om om om).mono ?_;rintro r S9 ⟨b',g',A',rfl,o,x,y,s,_,_⟩;simp -dsimp only[go_sem];exact⟨b',g',n,A',s.good om om,rfl,o⟩
 ·simp -dsimp only[go_sem,show((((5:Nat)):Int)==0)=false from rfl,show((((5:Nat)):Int)==1)=false from rfl,show((((5:Nat)):Int)==2)=false from rfl,show((((5:Nat)):Int)==3)=false from rfl,show((((5:Nat)):Int)==4)=false from rfl,show((((5:Nat)):Int)==5)=true from rfl];refine(xO _ n true om).mono ?_;rintro r S1 ⟨b,rfl,g,A,G,T,hE,E,F⟩;have t:cT S1 b g n n A:=⟨G.outer.congr fun a u=>by simp[u],G.row,G.inj⟩
  have H:iG S1 v 0:=C.step ((hE _ _ bR).trans bR.symm);obtain⟨p,hpn⟩:∃p,n=p+1:=⟨n-1,om⟩
  have D:p<n:=om
  have wp:IntKind.i64.wrap ((n:Int)-1)=(p:Nat):=dV om om;obtain⟨g1,U,v1⟩:=t.outer;obtain⟨V,u2,v2⟩:=t.row p D;have x1:g1 p=.sl 1 (g p) 0 n:=v1 p D;have x2:V p=.int .i64 2:=by rw[v2 p D];simp only[T.diag p D]
  simp -dsimp only[go_sem,O,P,Q];refine ej 10 [[0,1,2,3,4,5,6,7,8],[0,1,2,3,5],[]] kr ?_
  simp -dsimp only[go_sem,aa,U,u2,x1,x2,wp,D];refine(rX _ v 0 2 H om om om).mono ?_;rintro r S2 ⟨z,hz,rfl,W,B⟩;have M:v≠b:=H.ne U om;have I:∀a,a<n->g a≠v:=fun a u=>by obtain⟨gg,Y,_⟩:=t.row a u;exact ai (H.ne Y om)
  have Z:cT S2 b g n n A:=⟨t.outer.via fun X hX=>by rw[B b (ai M)];exact hX,fun a u=>(t.row a u).via fun X hX=>by rw[B _ (I a u)];exact hX,t.inj⟩
  have u1':S2 b=some ⟨29,1,n,g1⟩:=by rw[B b (ai M)];exact U
  have N:S2 (g p)=some ⟨2,1,n,V⟩:=by rw[B _ (I p D)];exact u2
  have wz:IntKind.i64.wrap (2+(z:Int))=((2+z:Nat):Int):=dV om om;simp -dsimp only[go_sem,aa,u1',N,x1,x2,wz,wp,D];have l:=Z.set (j:=p) (z:=((2+z:Nat):Int)) D N;have m:=W.upd (ai (I p D)) ⟨2,1,n,aL V p (.int .i64 ((2+z:Nat):Int))⟩;have f:(∀a c,a<n->c<n->dK A p p ((2+z:Nat):Int) a c=dK A p p ((2+z:Nat):Int) c a)/\∀a c,a<n->c<n->-9<=dK A p p ((2+z:Nat):Int) a c/\dK A p p ((2+z:Nat):Int) a c<=9:=by
   refine⟨fun a c _ _=>?_,fun a c _ _=>?_⟩
   ·have:=T.sym a c;simp only[dK];grind
   ·have:=T.small a c;simp only[dK];split
    ·omega
    ·exact this
  generalize dK A p p ((2+z:Nat):Int)=A at *;rcases eP ((∀k,k<=n->0<det k A)/\det n A<=10000)with h|h
  ·refine(iK n A om om f.1 f.2 true (by simp only[true_iff];exact h)).spec (dT.cons l.vr.va dT.nil) ?_
   simp -dsimp only[go_sem,aa];exact⟨b,g,n,A,⟨om,om,f.1,h.1,h.2,fun i w=>(f.2 i i w w).2,f.2⟩,rfl,l⟩
  ·refine(iK n A om om f.1 f.2 false (by simp only[bQ,false_iff];exact h)).spec (dT.cons l.vr.va dT.nil) ?_
   simp -dsimp only[go_sem,aa];refine(eV _ v _ n 2 m om om om).mono ?_;rintro r S9 ⟨b',g',A',rfl,o,x,y,s,_,_⟩;simp -dsimp only[go_sem];exact⟨b',g',n,A',s.good om om,rfl,o⟩
 ·simp -dsimp only[go_sem,show((((6:Nat)):Int)==0)=false from rfl,show((((6:Nat)):Int)==1)=false from rfl,show((((6:Nat)):Int)==2)=false from rfl,show((((6:Nat)):Int)==3)=false from rfl,show((((6:Nat)):Int)==4)=false from rfl,show((((6:Nat)):Int)==5)=false from rfl,show((((6:Nat)):Int)==6)=true from rfl];refine(eV _ v 0 n 9 C om om om).mono ?_;rintro r S1 ⟨b,g,A,rfl,l,m,J,R,E,F⟩;have f:(∀a c,a<n->c<n->A a c=A c a)/\∀a c,a<n->c<n->-9<=A a c/\A a c<=9:=by
   refine⟨fun a c u S=>?_,fun a c u S=>?_⟩
   ·by_cases e:a=c
    ·rw[e]
    ·rw[(R a u).2 c S (ai e),(R c S).2 a u e]
   ·by_cases e:c=a
    ·have:=(R a u).1;rw[e];omega
    ·rw[(R a u).2 c S e];omega
  simp -dsimp only[go_sem,aa,O,P,Q];rcases eP ((∀k,k<=n->0<det k A)/\det n A<=10000)with h|h
  ·refine(iK n A om om f.1 f.2 true (by simp only[true_iff];exact h)).spec (dT.cons l.vr.va dT.nil) ?_
   simp -dsimp only[go_sem,aa];exact⟨b,g,n,A,⟨om,om,f.1,h.1,h.2,fun i w=>(f.2 i i w w).2,f.2⟩,rfl,l⟩
  ·refine(iK n A om om f.1 f.2 false (by simp only[bQ,false_iff];exact h)).spec (dT.cons l.vr.va dT.nil) ?_
   simp -dsimp only[go_sem,aa];refine(eV _ v _ n 2 m om om om).mono ?_;rintro r S9 ⟨b',g',A',rfl,o,x,y,s,_,_⟩;simp -dsimp only[go_sem];exact⟨b',g',n,A',s.good om om,rfl,o⟩
 ·simp -dsimp only[go_sem,show((((7:Nat)):Int)==0)=false from rfl,show((((7:Nat)):Int)==1)=false from rfl,show((((7:Nat)):Int)==2)=false from rfl,show((((7:Nat)):Int)==3)=false from rfl,show((((7:Nat)):Int)==4)=false from rfl,show((((7:Nat)):Int)==5)=false from rfl,show((((7:Nat)):Int)==6)=false from rfl];refine(eV _ v 0 n 1 C om om om).mono ?_;rintro r S1 ⟨b,g,A,rfl,l,m,J,R,E,F⟩;have f:(∀a c,a<n->c<n->A a c=A c a)/\∀a c,a<n->c<n->-9<=A a c/\A a c<=9:=by
   refine⟨fun a c u S=>?_,fun a c u S=>?_⟩
   ·by_cases e:a=c
    ·rw[e]
    ·rw[(R a u).2 c S (ai e),(R c S).2 a u e]
   ·by_cases e:c=a
    ·have:=(R a u).1;rw[e];omega
    ·rw[(R a u).2 c S e];omega
  simp -dsimp only[go_sem,aa,O,P,Q];rcases eP ((∀k,k<=n->0<det k A)/\det n A<=10000)with h|h
  ·refine(iK n A om om f.1 f.2 true (by simp only[true_iff];exact h)).spec (dT.cons l.vr.va dT.nil) ?_
   simp -dsimp only[go_sem,aa];exact⟨b,g,n,A,⟨om,om,f.1,h.1,h.2,fun i w=>(f.2 i i w w).2,f.2⟩,rfl,l⟩
  ·refine(iK n A om om f.1 f.2 false (by simp only[bQ,false_iff];exact h)).spec (dT.cons l.vr.va dT.nil) ?_
   simp -dsimp only[go_sem,aa];refine(eV _ v _ n 2 m om om om).mono ?_;rintro r S9 ⟨b',g',A',rfl,o,x,y,s,_,_⟩;simp -dsimp only[go_sem];exact⟨b',g',n,A',s.good om om,rfl,o⟩

theorem Gh{a:Int}(c:0<m):a%m=if a.tmod m<0 then a.tmod m+m else a.tmod m:=by
 have e:=Int.mul_tdiv_add_tmod a m;have h:=sd (a:=a) (b:=m) om;split
 ·refine(oi (a:=a) (b:=m) (q:=a.tdiv m-1) (r:=a.tmod m+m) ?_ om om).2;rw[Int.mul_sub,ie];omega
 ·exact(oi (a:=a) (b:=m) (q:=a.tdiv m) (r:=a.tmod m) om om om).2
theorem BE{a:Int}(d:0<m)(e:m<=1000000000000):PF 35 [.int .i64 a,.int .i64 m] (.int .i64 (a%m)):=by
 refine PF.of_spec (ak func35 rfl 15 ntmps35 kr sm (by simp[results35]) ?_)
 rw[aF,results35,Gh d];have h:=sd (a:=a) (b:=m) om;by_cases c:a.tmod m<0
 ·have f:IntKind.i64.wrap (a.tmod m+m)=a.tmod m+m:=i64_in om om;simp -dsimp only[go_sem,(om:¬(m=0)),c,f]
  exact VR.mf rfl
 ·simp -dsimp only[go_sem,(om:¬(m=0)),c]
  exact VR.mf rfl
theorem Ap{m:Nat}:eF (a:Int) (m:Int)=((a%m:Nat):Int):=by rw[yo]
theorem Is_pf(p:Nat)(t:2<=p)(o:p<=900)(β:Bool)(hβ:β=true↔∀d,2<=d->d*d<=p->¬p%d=0):PF 240 [.int .i64 p] (.bool β):=by
 refine PF.of_spec (ak func240 rfl 21 ntmps240 kr sm (by simp[results240]) ?_)
 rw[aF,results240];simp -dsimp only[go_sem,(om:¬((p:Int)<2)),(om:¬((2147483647:Int)<p))]
 refine aI (fun O S=>∃d:Nat,2<=d/\d<=31/\O 0=.int .i64 p/\O 3=.int .i64 d/\∀e,2<=e->e<d->¬p%e=0) (fun O S=>32-bT (O 3)) ?_ ?_
 ·simp -dsimp only[go_sem];exact⟨2,om,om,rfl,fun e g n=>om⟩
 ·rintro O S ⟨d,q,c,i,j,b⟩;have r:d*d<=31*31:=bK c c;have k:IntKind.i64.wrap ((d:Int)*d)=((d*d:Nat):Int):=dV (by rw[bO]) om
  have f:¬((d:Int)=0):=om
  by_cases a:d*d<=p
  ·have s:d<31:=by
    rcases az d 31 with h|h
    ·exact h
    ·have:31*31<=d*d:=bK h h;omega
   by_cases l:p%d=0
   ·simp -dsimp only[go_sem,aa,i,j,k,pB,a,f,Ap,l,show((((0:Nat)):Int)==0)=true from rfl];have:β=false:=by
     cases β with
     | false=>rfl
     | true=>exact absurd l (hβ.1 rfl d q a)
    rw[this];exact VR.mf rfl
   ·have m:(((p%d:Nat):Int)==0)=false:=by simp;omega
    simp -dsimp only[go_sem,aa,i,j,k,pB,a,f,Ap,m,aM (om:d<1000000),bT]
    refine⟨⟨d+1,om,om,rfl,fun e g n=>?_⟩,om⟩
    by_cases e':e=d
    ·rw[e'];exact l
    ·exact b e g om
  ·simp -dsimp only[go_sem,aa,i,j,k,pB,a];have:β=true:=hβ.2 fun e g n=>b e g (by
    rcases az e d with h|h
    ·exact h
    ·have:=bK h h;omega)
   rw[this];exact VR.mf rfl
def E4(p:Nat):Prop:=2<=p/\∀d,2<=d->d*d<=p->¬p%d=0
theorem Ez(p:Nat)(b:2<=p)(a:p<=900)(β:Bool)(hβ:β=true↔E4 p):PF 202 [.int .i64 p] (.bool β):=by
 refine PF.of_spec (ak func202 rfl 9 ntmps202 kr sm (by simp[results202]) ?_)
 rw[aF,results202];simp -dsimp only[go_sem,aa,show(p:Int)<=9973 by omega]
 refine(Is_pf p b a β (by rw[hβ];unfold E4;simp[b])).call ?_
 simp -dsimp only[go_sem,show(p:Int)<=9973 by omega]
 exact VR.mf rfl
theorem Jc(p:Nat)(c:3<=p)(a:p<=900)(β:Bool)(hβ:β=true↔E4 p):PF 153 [.int .i64 p] (.bool β):=by
 refine PF.of_spec (ak func153 rfl 9 ntmps153 kr sm (by simp[results153]) ?_)
 rw[aF,results153];have b:((p:Int) != 2)=true:=by simp;omega
 simp -dsimp only[go_sem,aa,b];refine(Ez p om a β hβ).call ?_;simp -dsimp only[go_sem,b];exact VR.mf rfl
def EG(n:Nat)(H:aB):Prop:=∀i j,i<n->j<n->((H i j).natAbs:Int)<=118098
theorem EG.nb(h:EG n H){i j:Nat}(a:i<n)(b:j<n):nb (H i j) 17:=by
 have:=h i j a b;unfold Go.Proofs.YtdobfmlmenaajaaGreatDoor.nb;omega
theorem EG.r64(h:EG n H){i j:Nat}(a:i<n)(b:j<n):M3 (H i j):=by
 have:=h i j a b;unfold M3;omega
theorem Jh(n:Nat)(H:aB)(a:1<=n)(e:n<=8)(d:EG n H)(f:0<det n H/\det n H<=10000):PF 31 [ax n n H] (.int .i64 (det n H)):=by
 refine PF.of_spec (ak func31 rfl 13 ntmps31 kr sm (by simp[results31]) ?_)
 rw[aF,results31];simp -dsimp only[go_sem,aa];refine(Jb n n H a om a om (fun i j b c=>d.r64 b c)).call ?_;simp -dsimp only[go_sem,aa];refine(jJ n H 17 a om (fun i j b c=>d.nb b c) om).call ?_;simp -dsimp only[go_sem,aa];refine(zD (by unfold iF;omega)).call ?_
 simp -dsimp only[go_sem];exact VR.mf rfl
theorem FF(n p:Nat)(H:aB)(d:1<=n)(e:n<=8)(f:EG n H)(g:0<det n H/\det n H<=10000)(c:3<=p)(b:p<=900)(β:Bool)(hβ:β=true↔E4 p/\¬det n H%p=0):PF 90 [ax n n H,.int .i64 p] (.bool β):=by
 refine PF.of_spec (ak func90 rfl 14 ntmps90 kr sm (by simp[results90]) ?_)
 rw[aF,results90];simp -dsimp only[go_sem,aa];rcases eP (E4 p)with a|a
 ·refine(Jc p c b true (by simp[a])).call ?_
  simp -dsimp only[go_sem,aa];refine(Jh n H d e f g).call ?_;have i:(det n H).tmod (p:Int)=det n H%p:=aN om;have j:β=(det n H%(p:Int) != 0):=by
   cases β with
   | true=>have:=(hβ.1 rfl).2;simp[this]
   | false =>
    by_cases h:det n H%(p:Int)=0
    ·simp[h]
    ·exact absurd (hβ.2 ⟨a,h⟩) sm
  simp -dsimp only[go_sem,(om:¬((p:Int)=0)),i]
  rw[j];exact VR.mf rfl
 ·refine(Jc p c b false (by simp[a])).call ?_
  simp -dsimp only[go_sem];have:β=false:=by
   cases β with
   | false=>rfl
   | true=>exact absurd (hβ.1 rfl).1 a
  rw[this];exact VR.mf rfl
theorem GM(n p:Nat)(m:n<=8)(k:1<=p)(c:p<=900):PF 91 [.int .i64 n,.int .i64 p] (.bool (decide (p^n<=65536))):=by
 refine PF.of_spec (ak func91 rfl 17 ntmps91 kr sm (by simp[results91]) ?_)
 rw[aF,results91];simp -dsimp only[go_sem];refine aI (fun O S=>∃i:Nat,i<=n/\p^i<=65536/\O 0=.int .i64 n/\O 1=.int .i64 p/\O 5=.int .i64 ((p^i:Nat):Int)/\O 6=.int .i64 i) (fun O S=>n-bT (O 6)) ?_ ?_
 ·simp -dsimp only[go_sem];exact⟨0,om,sm,sm,rfl⟩
 ·rintro O S ⟨i,o,b,d,e,f,g⟩;by_cases a:i<n
  ·have q:p^i*p<=65536*900:=bK b c;have j:IntKind.i64.wrap (((p^i:Nat):Int)*p)=((p^(i+1):Nat):Int):=dV (by rw[bM,bO]) (by rw[bM];omega)
   by_cases l:p^(i+1)<=65536
   ·simp -dsimp only[go_sem,d,e,f,g,a,j,(om:¬((65536:Int)<((p^(i+1):Nat):Int))),aM (om:i<1000000),bT]
    exact⟨⟨i+1,om,l,rfl,rfl⟩,om⟩
   ·simp -dsimp only[go_sem,d,e,f,g,a,j,show((65536:Int)<((p^(i+1):Nat):Int)) by omega]
    have:p^(i+1)<=p^n:=cf k a;have h:decide (p^n<=65536)=false:=by simp;omega
    rw[h];exact VR.mf rfl
  ·obtain rfl:i=n:=om
   simp -dsimp only[go_sem,d,e,f,g,a];have h:decide (p^i<=65536)=true:=by simp;exact b
   rw[h];exact VR.mf rfl
theorem xV{s a b:Int}:(s%m+(a%m)*(b%m)%m)%m=(s+a*b)%m:=by
 rw[Int.add_emod s,Int.mul_emod a b]
theorem Im(n m:Nat)(H:aB)(v:Nat->Int)(N:n<=8)(P:1<=m)(C:m<=100000):PF 60 [ax n n H,aX n v,.int .i64 m] (aX n (fun i=>(aq n fun j=>H i j*v j)%m)):=by
 refine PF.of_spec (ak func60 rfl 49 ntmps60 kr sm (by simp[results60]) ?_)
 rw[aF,results60];have w:¬((m:Int)=0):=om
 simp -dsimp only[go_sem,ax,aX];refine aI (fun O S=>∃(i:Nat) (x:AV),i<=n/\O 1=aX n v/\O 2=.int .i64 m/\O 7=x/\O 13=ax n n H/\O 14=.int .i64 n/\O 15=.int .i64 i/\cC 2 1 St.none S x i (fun i=>.int .i64 ((aq n fun j=>H i j*v j)%m))) (fun O S=>n-bT (O 15)) ?_ ?_
 ·simp -dsimp only[go_sem,ax,aX];exact⟨0,om,rfl,cC.nil (cY.noneS _) _⟩
 ·rintro O S ⟨i,x,Q,t,u,g,b,d,e,y⟩;by_cases r:i<n
  ·simp -dsimp only[go_sem,ax,aX,g,b,d,e,r];refine aI (fun O S'=>∃j:Nat,j<=n/\O 1=aX n v/\O 2=.int .i64 m/\O 7=x/\O 10=.int .i64 ((aq j fun j=>H i j*v j)%m)/\O 13=ax n n H/\O 14=.int .i64 n/\O 15=.int .i64 i/\O 19=aX n (H i)/\O 20=.int .i64 n/\O 21=.int .i64 j/\S'=S) (fun O S=>n-bT (O 21)) ?_ ?_
   ·simp -dsimp only[go_sem,ax,aX,t,u,g,b,d,e];exact⟨0,om,by simp[aq],rfl⟩
   ·rintro O S' ⟨j,R,t,u,g,f,b,d,e,k,l,o,rfl⟩;by_cases p:j<n
    ·have q:(0:Int)<m:=om
     have D:=a9 (H i j) (show(m:Int)≠0 by omega)
     have T:=aU (H i j) q;have B:=a9 (v j) (show(m:Int)≠0 by omega)
     have U:=aU (v j) q;have E:=dA D B;have V:H i j%m*(v j%m)<=100000*100000:=bW om om B om;have F:IntKind.i64.wrap (H i j%m*(v j%m))=H i j%m*(v j%m):=i64_in om om;have G:eF (H i j%m*(v j%m)) m=(H i j%m*(v j%m))%m:=aN E;have s1:=a9 (aq j fun j=>H i j*v j) (show(m:Int)≠0 by omega)
     have W:=aU (aq j fun j=>H i j*v j) q;have X:=a9 (H i j%m*(v j%m)) (show(m:Int)≠0 by omega)
     have Y:=aU (H i j%m*(v j%m)) q;have I:IntKind.i64.wrap ((aq j fun j=>H i j*v j)%m+(H i j%m*(v j%m))%m)=(aq j fun j=>H i j*v j)%m+(H i j%m*(v j%m))%m:=i64_in om om;have J:eF ((aq j fun j=>H i j*v j)%m+(H i j%m*(v j%m))%m) m=(aq (j+1) fun j=>H i j*v j)%m:=by
      rw[aN om,xV];rfl
     simp -dsimp only[go_sem,ax,aX,g,f,k,l,o,p];refine aP 16 kr ?_
     simp -dsimp only[go_sem,aa,ax,aX,t,u,g,f,b,d,e,k,l,o,p];refine⟨_,(BE q om).pure',_,(BE q om).pure',?_⟩;simp -dsimp only[go_sem,w,F,G,I,J,aM (om:j<1000000),bT]
     exact⟨⟨j+1,om,rfl,rfl⟩,om⟩
    ·obtain rfl:j=n:=om
     simp -dsimp only[go_sem,ax,aX,g,f,k,l,o,p];refine au.intro fun K z=>?_;simp -dsimp only[go_sem,g,f];have s:=y.fresh z;refine cC.app2 (y.upd (by rfl) s _) om (show dN 1 (.int .i64 ((aq j fun j=>H i j*v j)%m)) by simp[dN]) (Or.inr ⟨_,_,_,rfl,bR,rfl,fun h=>s _ h rfl⟩) ?_
     intro c S2 A L M;simp -dsimp only[go_sem,ax,aX,t,u,g,f,b,d,e,aM (om:i<1000000),bT]
     exact⟨⟨i+1,om,rfl,A.congr fun a Z=>by grind⟩,om⟩
  ·obtain rfl:i=n:=om
   simp -dsimp only[go_sem,ax,aX,g,b,d,e,r];exact y.vr fun a _=>VR.mf rfl

structure gH(n:Nat)(H:aB):Prop where
 one:1<=n
 five:n<=5
 red:G3 H n
 small:det n H<=10000
theorem GT(S:St)(d k L:Nat)(nums:Nat->Int)(Lb:Nat)(base:Nat->AV)(h:d<256)(l:k<256)(hnums:∀i,i<L->-128<=nums i/\nums i<=127) :
  cL 38 [J3 d k L nums Lb base,.int .i64 5] S (fun r S'=>∃n H,gH n H/\r=ax n n H/\cY S S'):=by
 refine ak func38 rfl 18 ntmps38 kr sm (by simp[results38]) ?_
 rw[aF,results38];simp -dsimp only[go_sem,aa,J3,dD,aO,aG,false_implies,implies_true];refine au.intro fun s m=>?_;simp -dsimp only[go_sem,bG,bF];refine(Je d k L nums Lb base h l hnums _ _ (cD _ _)).mono ?_;rintro r S1 ⟨b,g,n,A,a,rfl,f⟩;obtain⟨H,T,o,c,e⟩:=GL n A a.one a.five a.sym a.pos a.small a.diag;simp -dsimp only[go_sem,aa];refine(Jb n n A a.one (by have:=a.five;omega) a.one (by have:=a.five;omega) (fun i j p q=>Lv (a.ent i j p q))).spec (dT.cons f.1.vr.va dT.nil) ?_
 simp -dsimp only[go_sem,aa];refine e.call ?_;simp -dsimp only[go_sem];exact⟨n,H,⟨a.one,a.five,o,by rw[c];exact a.small⟩,rfl,((cY.refl S).upd m _).trans f.2.1⟩
theorem mA(n:Nat)(f g:Nat->Int)(m:Int)(h:∀i,i<n->f i%m=g i%m):aq n f%m=aq n g%m:=by
 induction n with
 | zero=>rfl
 | succ n ih =>
  simp only[aq];rw[Int.add_emod,ih (fun i a=>h i om),h n om,<-Int.add_emod]
def gC(n:Nat)(H:aB)(v:Nat->Int)(i:Nat):Int:=aq i fun i=>(aq n fun j=>H i j*v j)*v i
theorem F1(n m:Nat)(H:aB)(v:Nat->Int)(w:n<=8)(x:1<=m)(f:m<=100000):PF 76 [ax n n H,aX n v,.int .i64 m] (.int .i64 (gC n H v n%m)):=by
 refine PF.of_spec (ak func76 rfl 36 ntmps76 kr sm (by simp[results76]) ?_)
 rw[aF,results76];have g:¬((m:Int)=0):=om
 simp -dsimp only[go_sem,aa];refine(Im n m H v w x f).call ?_;simp -dsimp only[go_sem,aX];refine aI (fun O S=>∃i:Nat,i<=n/\O 1=aX n v/\O 2=.int .i64 m/\O 7=.int .i64 (gC n H v i%m)/\O 13=aX n (fun i=>(aq n fun j=>H i j*v j)%m)/\O 14=.int .i64 n/\O 15=.int .i64 i) (fun O S=>n-bT (O 15)) ?_ ?_
 ·simp -dsimp only[go_sem,aX];exact⟨0,om,by simp[gC,aq],rfl⟩
 ·rintro O S ⟨i,A,h,k,l,a,b,c⟩;by_cases d:i<n
  ·have e:(0:Int)<m:=om
   obtain⟨s,o⟩:∃s,s=aq n fun j=>H i j*v j:=⟨_,rfl⟩;have y:=a9 s (show(m:Int)≠0 by omega)
   have B:=aU s e;have p:=a9 (v i) (show(m:Int)≠0 by omega)
   have C:=aU (v i) e;have z:=dA y p;have D:s%m*(v i%m)<=100000*100000:=bW om om p om;have q:IntKind.i64.wrap (s%m*(v i%m))=s%m*(v i%m):=i64_in om om;have r:eF (s%m*(v i%m)) m=(s%m*(v i%m))%m:=aN z;have s1:=a9 (gC n H v i) (show(m:Int)≠0 by omega)
   have E:=aU (gC n H v i) e;have F:=a9 (s%m*(v i%m)) (show(m:Int)≠0 by omega)
   have G:=aU (s%m*(v i%m)) e;have t:IntKind.i64.wrap (gC n H v i%m+(s%m*(v i%m))%m)=gC n H v i%m+(s%m*(v i%m))%m:=i64_in om om;have u:eF (gC n H v i%m+(s%m*(v i%m))%m) m=gC n H v (i+1)%m:=by
    rw[aN om,xV];simp only[gC,aq,o]
   simp -dsimp only[go_sem,aa,aX,h,k,l,a,b,c,d];refine(BE e om).call ?_;rw[o]at q r t u;simp -dsimp only[go_sem,aX,h,k,l,a,b,c,g,q,r,t,u,aM (om:i<1000000),bT]
   exact⟨⟨i+1,om,rfl,rfl⟩,om⟩
  ·obtain rfl:i=n:=om
   simp -dsimp only[go_sem,aa,aX,h,k,l,a,b,c,d];exact VR.mf rfl
def iM(v:Nat->Int):Nat->Int
 | 0=>0
 | j+1=>if iM v j=0 then v j else iM v j
theorem yE(n m:Nat)(H:aB)(v:Nat->Int)(p:n<=8)(q:1<=m)(l:m<=100000)(r:∀i,i<n->0<=v i/\v i<m):PF 75 [ax n n H,.int .i64 m,aX n v] (.bool (iM v n==1&&gC n H v n%m==0)):=by
 refine PF.of_spec (ak func75 rfl 41 ntmps75 kr sm (by simp[results75]) ?_)
 rw[aF,results75];simp -dsimp only[go_sem,aX,ax,show((n:Int) != n)=false by simp]
 refine aI (fun O S=>∃i:Nat,i<=n/\O 0=ax n n H/\O 1=.int .i64 m/\O 2=aX n v/\O 7=.int .i64 (iM v i)/\O 15=aX n v/\O 16=.int .i64 n/\O 17=.int .i64 i) (fun O S=>n-bT (O 17)) ?_ ?_
 ·simp -dsimp only[go_sem,aX,ax];exact⟨0,om,rfl,rfl⟩
 ·rintro O S ⟨i,s,g,h,j,k,b,c,d⟩;by_cases a:i<n
  ·have t:=r i a;by_cases e:iM v i=0
   ·have o:iM v (i+1)=v i:=by simp[iM,e]
    simp -dsimp only[go_sem,aa,aX,ax,g,h,j,k,b,c,d,a,(om:¬(v i<0)),(om:¬((m:Int)<=v i)),e,show((0:Int)==0)=true from rfl,aM (om:i<1000000),bT]
    exact⟨⟨i+1,om,by rw[o],rfl⟩,om⟩
   ·have o:iM v (i+1)=iM v i:=by simp[iM,e]
    have f:(iM v i==0)=false:=by simp[e]
    simp -dsimp only[go_sem,aa,aX,ax,g,h,j,k,b,c,d,a,(om:¬(v i<0)),(om:¬((m:Int)<=v i)),f,aM (om:i<1000000),bT]
    exact⟨⟨i+1,om,by rw[o],rfl⟩,om⟩
  ·obtain rfl:i=n:=om
   by_cases e:iM v i=1
   ·simp -dsimp only[go_sem,aa,aX,ax,g,h,j,k,b,c,d,a,e,show((1:Int)==1)=true from rfl];refine(F1 i m H v p q l).call ?_;simp -dsimp only[go_sem,aX,ax,g,h,j,k,e,show((1:Int)==1)=true from rfl];exact VR.mf rfl
   ·have f:(iM v i==1)=false:=by simp[e]
    simp -dsimp only[go_sem,aX,ax,g,h,j,k,b,c,d,a,f];exact VR.mf rfl

end Go.Proofs.YtdobfmlmenaajaaGreatDoor
