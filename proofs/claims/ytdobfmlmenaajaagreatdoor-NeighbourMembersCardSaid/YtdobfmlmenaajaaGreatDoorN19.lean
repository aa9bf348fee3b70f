/-
  Lemmas for NeighbourMembers.
-/
import Derived.Test.YtdobfmlmenaajaaGreatDoorN13
import Derived.Test.YtdobfmlmenaajaaGreatDoorN14
import Derived.Test.YtdobfmlmenaajaaGreatDoorN07
namespace Go.Proofs.YtdobfmlmenaajaaGreatDoor
open Go.RowKit
open _root_.Bool renaming false_eq_true→aN
open _root_.Int renaming ofNat_lt→af,zero_le_ofNat→ay,tmod_eq_emod_of_nonneg→aL,sign_eq_one_of_pos→cK,sign_eq_neg_one_of_neg→gY,mul_one→k9
open _root_.Nat renaming reduceEqDiff→aa,reduceLT→ae,le_refl→ah,reduceAdd→aj,reduceLeDiff→aq,le_trans→bW,pow_le_pow_right→ca,pow_succ→cn,lt_of_lt_of_le→cV,div_le_self→je,pow_add→jF,pow_pos→kZ
open _root_.Ne renaming symm→ak
open _root_.Option renaming none→ac
set_option maxHeartbeats 6400000
set_option maxRecDepth 4096
set_option linter.all false
def nb(z:Int)(k:Nat):Prop:=z.natAbs<2^k
theorem nb.mono{z:Int}{k j:Nat}(h:nb z k)(hk:k<=j):nb z j:=cV h (ca om hk)
theorem nb.nl{z:Int}{k N:Nat}(h:nb z k)(hk:k<=32*N):nl z.natAbs<=N:=by
 rw[iA,uj];exact h.mono hk
theorem nb.add{a b:Int}{k:Nat}(ha:nb a k)(hb:nb b k):nb (a+b) (k+1):=by
 unfold nb at *;rw[cn];omega
theorem nb.sub{a b:Int}{k:Nat}(ha:nb a k)(hb:nb b k):nb (a-b) (k+1):=by
 unfold nb at *;rw[cn];omega
theorem nb.mul{a b:Int}{k j:Nat}(ha:nb a k)(hb:nb b j):nb (a*b) (k+j):=by
 unfold nb at *;rw[Int.natAbs_mul,jF];exact Nat.mul_lt_mul_of_lt_of_lt ha hb
theorem nb.neg{a:Int}{k:Nat}(ha:nb a k):nb (-a) k:=by unfold nb at *;omega
theorem nb.zero(k:Nat):nb 0 k:=kZ om
theorem nb.one{k:Nat}(h:0<k):nb 1 k:=cV (by decide:1<2^1) (ca om h)
theorem nb.i64{a:Int}(h1:-9223372036854775808<=a)(h2:a<=9223372036854775807):nb a 64:=by unfold nb;omega
theorem nb.of_le{a b:Int}{k:Nat}(h:a.natAbs<=b.natAbs)(hb:nb b k):nb a k:=Nat.lt_of_le_of_lt h hb
theorem LV{f:Nat}{za zb z:Int}(h:∀va vb B w,B<=w.heap.size->dL w B va za->dL w B vb zb->Calls Tryz.prog f #[va,vb] w (cU w z)):PF f [.big za,.big zb] (.big z):=vO.pf rfl (KE h)
theorem pf1{f:Nat}{za z:Int}(h:∀va B w,B<=w.heap.size->dL w B va za->Calls Tryz.prog f #[va] w (cU w z)):PF f [.big za] (.big z):=vO.pf rfl (KF h)
theorem pf1i{f:Nat}{za:Int}{k:IntKind}{z:Int}(h:∀va B w,B<=w.heap.size->dL w B va za->Calls Tryz.prog f #[va] w fun e w'=>e=.returned (.int k z)/\Below w.heap.size w w'):PF f [.big za] (.int k z):=by
 intro w vs hr
 match vs,hr with
 | [va],hr =>
  simp only[a6,a8]at hr;refine(h va w.heap.size w (ah _) hr.1).mono ?_;rintro e w' ⟨rfl,h1⟩;exact⟨_,rfl,by simp[a8],co.below h1⟩
 | [],hr=>simp[a6]at hr
 | _::_::_,hr=>simp[a6]at hr
theorem pf2i{f:Nat}{za zb:Int}{k:IntKind}{z:Int}(h:∀va vb B w,B<=w.heap.size->dL w B va za->dL w B vb zb->Calls Tryz.prog f #[va,vb] w fun e w'=>e=.returned (.int k z)/\Below w.heap.size w w'):PF f [.big za,.big zb] (.int k z):=by
 intro w vs hr
 match vs,hr with
 | [va,vb],hr =>
  simp only[a6,a8]at hr;refine(h va vb w.heap.size w (ah _) hr.1 hr.2.1).mono ?_;rintro e w' ⟨rfl,h1⟩;exact⟨_,rfl,by simp[a8],co.below h1⟩
 | [],hr=>simp[a6]at hr
 | [_],hr=>simp[a6]at hr
 | _::_::_::_,hr=>simp[a6]at hr
theorem Do{f:Nat}{z:Int}(h:∀w,Calls Tryz.prog f #[.int .i64 z] w (cU w z)):PF f [.int .i64 z] (.big z):=by
 intro w vs hr
 match vs,hr with
 | [va],hr =>
  simp only[a6,a8]at hr;obtain⟨rfl,_⟩:=hr;refine(h w).mono ?_;rintro e w' ⟨v,rfl,h1,h2⟩;exact⟨v,rfl,by simpa [a8]using h1,co.below h2⟩
 | [],hr=>simp[a6]at hr
 | _::_::_,hr=>simp[a6]at hr
theorem Dp{f:Nat}{z:Int}(h:∀va B w,B<=w.heap.size->dL w B va z->Calls Tryz.prog f #[va] w fun e w'=>e=.returned (.tuple #[.int .i64 z,.bool true])/\Below w.heap.size w w'):PF f [.big z] (.tup [.int .i64 z,.bool true]):=by
 intro w vs hr
 match vs,hr with
 | [va],hr =>
  simp only[a6,a8]at hr;refine(h va w.heap.size w (ah _) hr.1).mono ?_;rintro e w' ⟨rfl,h1⟩;exact⟨_,rfl,by simp only[a8];exact⟨[_,_],rfl,by simp[a6,a8]⟩,co.below h1⟩
 | [],hr=>simp[a6]at hr
 | _::_::_,hr=>simp[a6]at hr
theorem rW{a b:Int}{k:Nat}(ha:nb a k)(hb:nb b k)(hk:k<=8589934592):PF 133 [.big a,.big b] (.big (a+b)):=LV fun va vb B w h1 h2 h3=>JM va vb a b B w h1 h2 h3 (ha.nl om) (hb.nl om)
theorem yr{a b:Int}{k:Nat}(ha:nb a k)(hb:nb b k)(hk:k<=8589934592):PF 192 [.big a,.big b] (.big (a-b)):=LV fun va vb B w h1 h2 h3=>JA va vb a b B w h1 h2 h3 (ha.nl om) (hb.nl om)
theorem np{a b:Int}{k:Nat}(ha:nb a k)(hb:nb b k)(hk:k<=8589934592):PF 83 [.big a,.big b] (.big (a*b)):=LV fun va vb B w h1 h2 h3=>JE va vb a b B w h1 h2 h3 (ha.nl om) (hb.nl om)
theorem pS{a:Int}{k:Nat}(ha:nb a k)(hk:k<=8589934592):PF 193 [.big a] (.big (-a)):=pf1 fun va B w h1 h2=>JD va a B w h1 h2 (ha.nl om)
theorem qr{a:Int}{k:Nat}(ha:nb a k)(hk:k<=8589934592):PF 157 [.big a] (.big a):=pf1 fun va B w h1 h2=>wJ va a B w h1 h2 (ha.nl om)
theorem jh{a:Int}{k:Nat}(ha:nb a k)(hk:k<=8589934592):PF 191 [.big a] (.int .i64 a.sign):=pf1i fun va B w h1 h2=>vM va a B w h1 h2 (ha.nl om)
theorem GO{a b:Int}{k:Nat}(ha:nb a k)(hb:nb b k)(hk:k<=8589934592):PF 159 [.big a,.big b] (.int .i64 (lJ a b)):=pf2i fun va vb B w h1 h2 h3=>JI va vb a b B w h1 h2 h3 (ha.nl om) (hb.nl om)
theorem ju{a:Int}(h1:-9223372036854775808<=a)(h2:a<=9223372036854775807):PF 81 [.int .i64 a] (.big a):=Do fun w=>E8 a w h1 h2
theorem AJ{a:Int}(h:kb a):PF 84 [.big a] (.tup [.int .i64 a,.bool true]):=Dp fun va B w h1 h2=>Fg va a B w h1 h2 h
theorem kc{a b:Int}{k:Nat}(ha:nb a k)(hb:nb b k)(hk:k<=8589934592)(h0:b≠0)(hs:a.natAbs<b.natAbs∨nb a 64):PF 82 [.big a,.big b] (.tup [.big (a/b),.big (a%b),.bool true]):=by
 intro w vs hr
 match vs,hr with
 | [va,vb],hr =>
  simp only[a6,a8]at hr;refine(vX va vb a b w.heap.size w (ah _) hr.1 hr.2.1 (ha.nl om) (hb.nl om) h0 (hs.imp id fun h=>Or.inl (h.nl om))).mono ?_;rintro e w' ⟨v1,v2,rfl,h1,h2,h3⟩;exact⟨_,rfl,by simp only[a8];exact⟨[v1,v2,.bool true],rfl,by simp only[a6,a8];exact⟨h1,h2,trivial,trivial⟩⟩,co.below h3⟩
 | [],hr=>simp[a6]at hr
 | [_],hr=>simp[a6]at hr
 | _::_::_::_,hr=>simp[a6]at hr
theorem nv{a b:Int}{k:Nat}(ha:nb a k)(hb:nb b 32)(hk:k<=1000000)(h0:b≠0):PF 82 [.big a,.big b] (.tup [.big (a/b),.big (a%b),.bool true]):=by
 intro w vs hr
 match vs,hr with
 | [va,vb],hr =>
  simp only[a6,a8]at hr;refine(vX va vb a b w.heap.size w (ah _) hr.1 hr.2.1 (ha.nl om) (hb.nl om) h0 (.inr (.inr (hb.nl om)))).mono ?_;rintro e w' ⟨v1,v2,rfl,h1,h2,h3⟩;exact⟨_,rfl,by simp only[a8];exact⟨[v1,v2,.bool true],rfl,by simp only[a6,a8];exact⟨h1,h2,trivial,trivial⟩⟩,co.below h3⟩
 | [],hr=>simp[a6]at hr
 | [_],hr=>simp[a6]at hr
 | _::_::_::_,hr=>simp[a6]at hr
theorem xB{a:Int}(h:kb a):PF 72 [.big a] (.tup [.int .i64 a,.bool true]):=Dp fun va B w h1 h2=>zC va a B w h1 h2 h
theorem qn{a b:Int}{k:Nat}(ha:nb a k)(hb:nb b k)(hk:k<=8589934592):PF 87 [.big a,.big b] (.big (a+b)):=LV fun va vb B w h1 h2 h3=>ye va vb a b B w h1 h2 h3 (ha.nl om) (hb.nl om)
theorem pc{a b:Int}{k:Nat}(ha:nb a k)(hb:nb b k)(hk:k<=8589934592):PF 66 [.big a,.big b] (.big (a-b)):=LV fun va vb B w h1 h2 h3=>E7 va vb a b B w h1 h2 h3 (ha.nl om) (hb.nl om)
theorem gz{a b:Int}{k:Nat}(ha:nb a k)(hb:nb b k)(hk:k<=8589934592):PF 67 [.big a,.big b] (.big (a*b)):=LV fun va vb B w h1 h2 h3=>Fb va vb a b B w h1 h2 h3 (ha.nl om) (hb.nl om)
theorem Dh{a:Int}{k:Nat}(ha:nb a k)(hk:k<=8589934592):PF 68 [.big a] (.big (-a)):=pf1 fun va B w h1 h2=>yb va a B w h1 h2 (ha.nl om)
theorem yG{a:Int}{k:Nat}(ha:nb a k)(hk:k<=8589934592):PF 45 [.big a] (.big a.natAbs):=pf1 fun va B w h1 h2=>Fn va a B w h1 h2 (ha.nl om)
theorem Av{a:Int}{k:Nat}(ha:nb a k)(hk:k<=8589934592):PF 126 [.big a] (.big a):=pf1 fun va B w h1 h2=>rY va a B w h1 h2 (ha.nl om)
theorem gO{a:Int}{k:Nat}(ha:nb a k)(hk:k<=8589934592):PF 64 [.big a] (.int .i64 a.sign):=pf1i fun va B w h1 h2=>pY va a B w h1 h2 (ha.nl om)
theorem qm{a b:Int}{k:Nat}(ha:nb a k)(hb:nb b k)(hk:k<=8589934592):PF 30 [.big a,.big b] (.int .i64 (lJ a b)):=pf2i fun va vb B w h1 h2 h3=>Fj va vb a b B w h1 h2 h3 (ha.nl om) (hb.nl om)
theorem fA{a:Int}(h1:-9223372036854775808<=a)(h2:a<=9223372036854775807):PF 29 [.int .i64 a] (.big a):=Do fun w=>Br a w h1 h2
def eZ(S S':St):Prop:=∀k X,S k=some X->S' k=some X
theorem eZ.refl(S:St):eZ S S:=fun _ _ h=>h
theorem eZ.upd{S S':St}(h:eZ S S'){b:Nat}(hb:S b=ac)(X:dn):eZ S (S'.upd b X):=fun k Y hY=>by
 have hk:k≠b:=by rintro rfl;rw[hb]at hY;cases hY
 rw[aQ hk];exact h k Y hY
theorem eZ.none{S S':St}(h:eZ S S'){b:Nat}(hb:S' b=ac):S b=ac:=by
 cases e:S b with
 | none=>rfl
 | some X=>rw[h b X e]at hb;cases hb
theorem eZ.trans{S S' S'':St}(h:eZ S S')(k:eZ S' S''):eZ S S'':=fun b X hX=>k b X (h b X hX)
theorem eZ.has{S S':St}(h:eZ S S'){b ty es n:Nat}{g:Nat->AV}(hh:bB S b ty es n g):bB S' b ty es n g:=by
 obtain⟨g',h1,h2⟩:=hh;exact⟨g',h b _ h1,h2⟩
def bY:AV->Nat
 | .int _ k=>k.toNat
 | _=>0
def dc(S:St)(b ty es:Nat)(z:AV):Prop:=∃g,S b=some ⟨ty,es,1,g⟩/\g 0=z
theorem dc.upd{S:St}{b c ty es:Nat}{z:AV}(h:dc S b ty es z)(hc:b≠c)(X:dn):dc (S.upd c X) b ty es z:=by
 obtain⟨g,h1,h2⟩:=h;exact⟨g,by rw[aQ hc];exact h1,h2⟩
theorem dc.new{S:St}{b ty es:Nat}{g:Nat->AV}{z:AV}(h:g 0=z):dc (S.upd b ⟨ty,es,1,g⟩) b ty es z:=⟨g,bV,h⟩
theorem dc.set{S:St}{b ty es:Nat}{g:Nat->AV}{z:AV}:dc (S.upd b ⟨ty,es,1,bK g 0 z⟩) b ty es z:=⟨_,bV,by simp[bK]⟩
theorem dc.fresh{S:St}{b c ty es:Nat}{z:AV}(h:dc S b ty es z)(hc:S c=ac):b≠c:=by
 rintro rfl;obtain⟨g,h1,_⟩:=h;rw[h1]at hc;cases hc
theorem ai{S:St}{b c:Nat}{X:dn}(h:S.upd b X c=ac):c≠b/\S c=ac:=by
 simp only[St.upd]at h;by_cases e:c=b
 ·rw[if_pos e]at h;cases h
 ·rw[if_neg e]at h;exact⟨e,h⟩
theorem uC{n k:Nat}{f:Nat->Int}(h:∀j,j<n->nb (f j) k)(hn:n<=1024):∀m,m<=n->nb (aD m f) (k+10):=by
 have key:∀m,m<=n->(aD m f).natAbs<=m*(2^k-1):=by
  intro m
  induction m with
  | zero=>intro _;simp[aD]
  | succ m ih =>
   intro hm;have h1:=ih om;have h2:=h m om;unfold nb at h2;simp only[aD];rw[Nat.succ_mul];omega
 intro m hm;have h1:=key m hm;have h2:m*(2^k-1)<=1024*(2^k-1):=Nat.mul_le_mul_right _ om;have h3:0<2^k:=kZ om;unfold nb;rw[jF];omega
theorem K5(n:Nat)(x y:Nat->Int)(k:Nat)(hx:∀j,j<n->nb (x j) k)(hy:∀j,j<n->nb (y j) k)(hk:k<=1000000000)(hn:n<=1000):PF 213 [bn n x,bn n y] (.big (aD n fun j=>x j*y j)):=by
 refine PF.of_spec (aA Tryz.func213 rfl 26 Tryz.ntmps213 (by kernel_rfl) (by simp) (by simp[Tryz.results213]) ?_)
 rw[aS,Tryz.results213];simp -dsimp only[go_sem,aj,bn];refine aG.intro fun b hb=>?_;simp -dsimp only[go_sem];refine aG.intro fun c hc=>?_;have hbc:b≠c:=ak (ai hc).1;simp -dsimp only[go_sem,aa,↓reduceIte,reduceCtorEq];have hs:=uC (f:=fun j=>x j*y j) (k:=k+k) (fun j hj=>(hx j hj).mul (hy j hj)) (show n<=1024 by omega)
 refine aI (fun O S=>∃j:Nat,j<=n/\O 0=bn n x/\O 1=bn n y/\O 4=.ptr 2 b 0/\O 5=.ptr 2 c 0/\O 9=.int .i64 n/\O 10=.int .i64 j/\dc S b 50 2 (.big 0)/\dc S c 50 2 (.big (aD j fun j=>x j*y j))) (fun O S=>n-bY (O 10)) ?_ ?_
 ·simp -dsimp only[go_sem,aa,reduceCtorEq,bn];exact⟨0,by omega,rfl,((dc.new rfl).upd hbc _).upd hbc _,dc.set⟩
 ·rintro O S ⟨j,hj,h0,h1,h4,h5,h9,h10,hB,hC⟩;obtain⟨gb,hSb,eb⟩:=hB;obtain⟨gc,hSc,ec⟩:=hC;by_cases hlt:j<n
  ·simp -dsimp only[go_sem,aa,↓reduceIte,af,decide_true,h4,h5,h9,h10,hSb,hSc,bY,bn,hlt];refine bG 11 (by kernel_rfl) ?_
   have hw:IntKind.i64.wrap ((j:Int)+1)=((j+1:Nat):Int):=dq om om;simp -dsimp only[go_sem,aa,aq,ae,↓reduceIte,reduceCtorEq,af,h0,h1,h4,h5,h9,h10,hSc,bn,hlt,ec,hw];exact⟨.big (x j*y j),(gz (hx j hlt) (hy j hlt) om).pure',.big ((aD j fun j=>x j*y j)+x j*y j),(qn (hs j hj) (((hx j hlt).mul (hy j hlt)).mono om) om).pure',trivial,
    ⟨j+1,by omega,rfl,dc.upd ⟨gb,hSb,eb⟩ hbc _,dc.set⟩,by omega⟩
  ·simp -dsimp only[go_sem,aa,↓reduceIte,af,decide_false,h4,h5,h9,h10,hSb,hSc,ec,hlt,bY,bn];obtain rfl:j=n:=by omega
   exact VR.mf rfl
theorem dlt{a b:Int}(h:¬a<b):decide (a<b)=false:=by simpa using h
theorem yM{w:World}{M M':Nat->Prop}:∀(l:List AV) (vs:List Value),(∀x∈l,nY x=true)->a6 w M l vs->a6 w M' l vs
 | [],[],_,_=>by simp[a6]
 | x::l,v::vs,h,h2=>by
  simp only[a6]at h2 ⊢;exact⟨nr (h x (List.mem_cons_self ..)) h2.1,yM l vs (fun y hy=>h y (List.mem_cons_of_mem _ hy)) h2.2⟩
 | [],_::_,_,h2=>by simp[a6]at h2
 | _::_,[],_,h2=>by simp[a6]at h2
theorem VR.tup{S:St}{l:List AV}(h:∀x∈l,nY x=true):VR S (.tup l) (.tup l):=by
 intro w v hs hr;simp only[a8]at hr ⊢;obtain⟨vs,h1,h2⟩:=hr;refine⟨vs,h1,?_⟩;exact yM l vs h h2
theorem oo(n m:Nat)(A:Nat->Nat->Int)(h1:1<=n)(h2:n<=16)(h3:1<=m)(h4:m<=16):PF 104 [aV n m A] (.tup [.int .i64 n,.int .i64 m,.bool true]):=by
 refine PF.of_spec (aA Tryz.func104 rfl 45 Tryz.ntmps104 (by kernel_rfl) (by simp) (by simp[Tryz.results104]) ?_)
 rw[aS,Tryz.results104];have d1:decide ((n:Int)<1)=false:=dlt om;have d2:decide ((16:Int)<n)=false:=dlt om;have d3:decide ((m:Int)<1)=false:=dlt om;have d4:decide ((16:Int)<m)=false:=dlt om;simp -dsimp only[go_sem,aa,reduceCtorEq,aV,bn,d1,d2];refine aI (fun O S=>∃j:Nat,j<=n/\O 0=aV n m A/\O 15=aV n m A/\O 16=.int .i64 n/\O 17=.int .i64 j) (fun O S=>n-bY (O 17)) ?_ ?_
 ·simp -dsimp only[go_sem,aa,reduceCtorEq,aV,bn];exact⟨0,by omega,rfl⟩
 ·rintro O S ⟨j,hj,e0,e15,e16,e17⟩;by_cases hlt:j<n
  ·have hw:IntKind.i64.wrap ((j:Int)+1)=((j+1:Nat):Int):=dq om om;simp -dsimp only[go_sem,aa,↓reduceIte,reduceCtorEq,af,decide_true,ay,e0,e15,e16,e17,aV,bn,d3,d4,hw,hlt,bY];exact⟨by omega,⟨j+1,by omega,rfl⟩,by omega⟩
  ·simp -dsimp only[go_sem,aa,↓reduceIte,reduceCtorEq,af,decide_false,ay,e0,e15,e16,e17,aV,bn,d3,d4,hlt];refine bG 9 (by kernel_rfl) ?_
   simp -dsimp only[go_sem,aa,↓reduceIte,reduceCtorEq,ay,e0,aV,bn]
   repeat refine an ?_
   exact VR.tup (by simp[nY])
theorem xl(n:Nat)(A:Nat->Nat->Int)(h1:1<=n)(h2:n<=16):PF 115 [aV n n A] (.tup [.int .i64 n,.bool true]):=by
 refine PF.of_spec (aA Tryz.func115 rfl 21 Tryz.ntmps115 (by kernel_rfl) (by simp) (by simp[Tryz.results115]) ?_)
 rw[aS,Tryz.results115];simp -dsimp only[go_sem,aa,aq,ae,reduceCtorEq];refine(oo n n A h1 h2 h1 h2).call ?_;simp -dsimp only[go_sem,aa,reduceCtorEq];exact VR.tup (by simp[nY])
def ge(S0 S:St)(b:Nat)(g:Nat->Nat)(n m:Nat)(A:Nat->Nat->Int):Prop:=cS S b g n m A/\eZ S0 S/\S0 b=ac/\∀i,i<n->S0 (g i)=ac
def d6(A:Nat->Nat->Int)(i j:Nat)(z:Int):Nat->Nat->Int:=fun a c=>if a=i/\c=j then z else A a c
theorem cS.outer_ne{S:St}{b:Nat}{g:Nat->Nat}{n m:Nat}{A:Nat->Nat->Int}(h:cS S b g n m A){i:Nat}(hi:i<n):b≠g i:=bB.ne h.outer (h.row i hi) om
theorem cS.set{S:St}{b:Nat}{g:Nat->Nat}{n m:Nat}{A:Nat->Nat->Int}(h:cS S b g n m A){i j:Nat}{z:Int}{g':Nat->AV}(hi:i<n)(hS:S (g i)=some ⟨50,2,m,g'⟩) :
  cS (S.upd (g i) ⟨50,2,m,bK g' j (.big z)⟩) b g n m (d6 A i j z):=by
 refine⟨h.outer.upd (h.outer_ne hi) _,fun a ha=>?_,h.inj⟩;by_cases e:a=i
 ·subst e;obtain⟨g2,h1,h2⟩:=h.row a ha;rw[hS]at h1;cases h1;refine bB.here fun c hc=>?_;have:=h2 c hc;simp only[bK,d6]
  grind
 ·have hne:g a≠g i:=fun e2=>e (h.inj a i ha hi e2);refine((h.row a ha).upd hne _).congr fun c _=>?_;simp[d6,e]
theorem ge.set{S0 S:St}{b:Nat}{g:Nat->Nat}{n m:Nat}{A:Nat->Nat->Int}(h:ge S0 S b g n m A){i j:Nat}{z:Int}{g':Nat->AV}(hi:i<n)(hS:S (g i)=some ⟨50,2,m,g'⟩) :
  ge S0 (S.upd (g i) ⟨50,2,m,bK g' j (.big z)⟩) b g n m (d6 A i j z):=⟨h.1.set hi hS,h.2.1.upd (h.2.2.2 i hi) _,h.2.2.1,h.2.2.2⟩
theorem cS.congr{S:St}{b:Nat}{g:Nat->Nat}{n m:Nat}{A B:Nat->Nat->Int}(h:cS S b g n m A)(he:∀i j,i<n->j<m->A i j=B i j):cS S b g n m B :=
 ⟨h.outer,fun i hi=>(h.row i hi).congr fun j hj=>by rw[he i j hi hj],h.inj⟩
theorem ge.congr{S0 S:St}{b:Nat}{g:Nat->Nat}{n m:Nat}{A B:Nat->Nat->Int}(h:ge S0 S b g n m A)(he:∀i j,i<n->j<m->A i j=B i j):ge S0 S b g n m B:=⟨h.1.congr he,h.2⟩
theorem VR.tup2{S:St}{x y x' y':AV}(h1:VR S x x')(h2:VR S y y'):VR S (.tup [x,y]) (.tup [x',y']):=by
 intro w v hs hr;simp only[a8]at hr ⊢;obtain⟨vs,e,h⟩:=hr;refine⟨vs,e,?_⟩
 match vs,h with
 | [u,v],h=>simp only[a6]at h ⊢;exact⟨h1 w u hs h.1,h2 w v hs h.2.1,trivial⟩
 | [],h=>simp[a6]at h
 | [_],h=>simp[a6]at h
 | _::_::_::_,h=>simp[a6]at h
theorem Bo(S0:St)(n m:Nat)(hn:n<=1000)(hm:m<=1000):cM 102 [.int .i64 n,.int .i64 m] S0 (fun r S'=>∃b g,r=.sl 1 b 0 n/\ge S0 S' b g n m (fun _ _=>0)):=by
 refine aA Tryz.func102 rfl 21 Tryz.ntmps102 (by kernel_rfl) (by simp) (by simp[Tryz.results102]) ?_
 rw[aS,Tryz.results102];simp -dsimp only[go_sem,aj,aa,reduceCtorEq];refine⟨by omega,aG.intro fun b hb=>?_⟩
 refine aI (fun O S=>∃(k:Nat) (g:Nat->Nat),k<=n/\O 1=.int .i64 m/\O 5=.sl 1 b 0 n/\O 10=.int .i64 n/\O 11=.int .i64 k /\
  eZ S0 S/\bB S b 59 1 n (fun i=>if i<k then .sl 2 (g i) 0 m else .nil)/\(∀i,i<k->gV S (g i) m (fun _=>0)/\S0 (g i)=ac)/\∀i j,i<k->j<k->g i=g j->i=j) (fun O S=>n-bY (O 11)) ?_ ?_
 ·simp -dsimp only[go_sem,aa,reduceCtorEq];exact⟨0,by omega,rfl,(eZ.refl S0).upd hb _,fun _=>0,bB.here fun i _=>by simp,fun i hi=>by omega,fun i j hi=>by omega⟩
 ·rintro O S ⟨k,g,hk,h1,h5,h10,h11,hE,hO,hR,hI⟩;by_cases hlt:k<n
  ·have hw:IntKind.i64.wrap ((k:Int)+1)=((k+1:Nat):Int):=dq om om;simp -dsimp only[go_sem,aa,↓reduceIte,af,decide_true,h1,h5,h10,h11,hlt,hw];refine⟨by omega,aG.intro fun c hc=>?_⟩
   obtain⟨g',hS,hg'⟩:=hO;have hbc:b≠c:=by rintro rfl;rw[hS]at hc;cases hc
   simp -dsimp only[go_sem,hbc,hS,bY]
   repeat refine an ?_
   refine⟨⟨k+1,by omega,rfl,(hE.upd (hE.none hc) _).upd hb _,fun i=>if i=k then c else g i,bB.here fun i hi=>?_,fun i hi=>?_,fun i j hi hj e=>?_⟩,by omega⟩
   ·have:=hg' i hi;grind [bK]
   ·by_cases e:i=k
    ·simp only[e,if_true];exact⟨(bB.here fun _ _=>rfl).upd (ak hbc) _,hE.none hc⟩
    ·simp only[e,if_false];obtain⟨r1,r2⟩:=hR i om;exact⟨(r1.upd (bB.fresh r1 hc) _).upd (fun e=>by rw[e]at r1;exact bB.ne (bB.of hS) r1 om rfl) _,r2⟩
   ·by_cases e1:i=k<;>by_cases e2:j=k<;>simp only[e1,e2,if_true,if_false]at e ⊢
    ·exact absurd e.symm (bB.fresh (hR j om).1 hc)
    ·exact absurd e (bB.fresh (hR i om).1 hc)
    ·exact hI i j om om e
  ·simp -dsimp only[go_sem,aa,↓reduceIte,af,decide_false,h1,h5,h10,h11,hlt];obtain rfl:k=n:=by omega
   exact⟨b,rfl,g,⟨hO.congr fun i hi=>by rw[if_pos hi],fun i hi=>(hR i hi).1,hI⟩,hE,hb,fun i hi=>(hR i hi).2⟩
theorem aW{k:Nat}(h:k<1000000):IntKind.i64.wrap ((k:Int)+1)=((k+1:Nat):Int):=dq om om
def Ki(z:Int):Prop:=-9223372036854775808<=z/\z<=9223372036854775807
theorem zG(S0:St)(n m:Nat)(A:Nat->Nat->Int)(h1:1<=n)(h2:n<=16)(h3:1<=m)(h4:m<=16)(hA:∀i j,i<n->j<m->Ki (A i j)) :
  cM 55 [aK n m A] S0 (fun r S'=>∃b g,r=.tup [.sl 1 b 0 n,.bool true]/\ge S0 S' b g n m A):=by
 refine aA Tryz.func55 rfl 78 Tryz.ntmps55 (by kernel_rfl) (by simp) (by simp[Tryz.results55]) ?_
 rw[aS,Tryz.results55];have d1:decide ((n:Int)<1)=false:=dlt om;have d2:decide ((16:Int)<n)=false:=dlt om;have d3:decide ((m:Int)<1)=false:=dlt om;have d4:decide ((16:Int)<m)=false:=dlt om;simp -dsimp only[go_sem,aa,reduceCtorEq,aK,bJ,d1,d2];refine aI (fun O S=>∃k:Nat,k<=n/\O 0=aK n m A/\O 17=aK n m A/\O 18=.int .i64 n/\O 19=.int .i64 k/\S=S0) (fun O S=>n-bY (O 19)) ?_ ?_
 ·simp -dsimp only[go_sem,aa,reduceCtorEq,aK,bJ];exact⟨0,by omega,rfl⟩
 ·rintro O S ⟨k,hk,e0,e17,e18,e19,rfl⟩;by_cases hlt:k<n
  ·simp -dsimp only[go_sem,aa,aq,ae,↓reduceIte,reduceCtorEq,af,decide_true,ay,aK,bJ,e0,e17,e18,e19,hlt,aW (show k<1000000 by omega),d3,d4,bY]
   exact⟨by omega,⟨k+1,by omega,rfl⟩,by omega⟩
  ·simp -dsimp only[go_sem,aa,aq,ae,↓reduceIte,reduceCtorEq,af,decide_false,ay,aK,bJ,e0,e17,e18,e19,hlt]
   repeat refine an ?_
   refine(Bo S n m om om).mono ?_;rintro r S1 ⟨b,g,rfl,hZ⟩;simp -dsimp only[go_sem,reduceCtorEq,aK,bJ,e0];refine aI (fun O S'=>∃k:Nat,k<=n/\O 0=aK n m A/\O 6=.sl 1 b 0 n/\O 49=.int .i64 n/\O 50=.int .i64 k/\ge S S' b g n m (fun i j=>if i<k then A i j else 0)) (fun O S=>n-bY (O 50)) ?_ ?_
   ·simp -dsimp only[go_sem,aa,reduceCtorEq,aK,bJ,e0];exact⟨0,by omega,rfl,hZ.congr (by simp)⟩
   ·rintro O S1 ⟨k,hk,e0,e6,e49,e50,hM⟩;by_cases hlt:k<n
    ·simp -dsimp only[go_sem,aa,↓reduceIte,reduceCtorEq,af,decide_true,aK,bJ,e0,e6,e49,e50,hlt];refine aI (fun O S'=>∃j:Nat,j<=m/\O 0=aK n m A/\O 6=.sl 1 b 0 n/\O 7=.int .i64 k/\O 49=.int .i64 n/\O 50=.int .i64 k/\O 57=.int .i64 m/\O 58=.int .i64 j/\ge S S' b g n m (fun i c=>if i<k∨(i=k/\c<j)then A i c else 0)) (fun O S=>m-bY (O 58)) ?_ ?_
     ·simp -dsimp only[go_sem,aa,reduceCtorEq,aK,bJ,e0,e6,e49,e50];exact⟨0,by omega,rfl,hM.congr (by simp)⟩
     ·rintro O S2 ⟨j,hj,e0,e6,e7,e49,e50,e57,e58,hM⟩;by_cases hjm:j<m
      ·obtain⟨g1,u1,v1⟩:=hM.1.outer;obtain⟨g2,u2,v2⟩:=hM.1.row k hlt;have v1':=v1 k hlt;simp -dsimp only[go_sem,aa,↓reduceIte,reduceCtorEq,af,decide_true,aK,bJ,e0,e6,e49,e50,e57,e58,hjm];refine bG 13 (by kernel_rfl) ?_
       simp -dsimp only[go_sem,aa,aq,ae,↓reduceIte,reduceCtorEq,af,aK,bJ,e0,e6,e7,e49,e50,e57,e58,hlt,hjm,u1,u2,v1',aW (show j<1000000 by omega)]
       repeat refine an ?_
       refine⟨_,(fA (hA k j hlt hjm).1 (hA k j hlt hjm).2).pure',by omega,trivial,⟨j+1,by omega,rfl,(hM.set hlt u2).congr fun i c _ _=>?_⟩,by simp only[bY,Int.toNat_natCast];omega⟩
       simp only[d6]
       grind
      ·simp -dsimp only[go_sem,aa,↓reduceIte,reduceCtorEq,af,decide_false,aK,bJ,e0,e6,e49,e50,e57,e58,hjm,bY,aW (show k<1000000 by omega)]
       refine⟨⟨k+1,by omega,rfl,hM.congr fun i c hi hc=>?_⟩,by omega⟩
       grind
    ·simp -dsimp only[go_sem,aa,↓reduceIte,reduceCtorEq,af,decide_false,aK,bJ,e0,e6,e49,e50,hlt];exact⟨b,rfl,g,hM.congr fun i j hi hj=>by rw[if_pos om]⟩
theorem ge.vr{S0 S:St}{b:Nat}{g:Nat->Nat}{n m:Nat}{A:Nat->Nat->Int}(h:ge S0 S b g n m A):VR S (.sl 1 b 0 n) (aV n m A):=h.1.vr
theorem Lw(S0:St)(n m:Nat)(A:Nat->Nat->Int)(h1:1<=n)(h2:n<=16)(h3:1<=m)(h4:m<=16)(hA:∀i j,i<n->j<m->Ki (A i j)) :
  cM 27 [aK n m A] S0 (fun r S'=>∃b g,r=.sl 1 b 0 n/\ge S0 S' b g n m A):=by
 refine aA Tryz.func27 rfl 11 Tryz.ntmps27 (by kernel_rfl) (by simp) (by simp[Tryz.results27]) ?_
 rw[aS,Tryz.results27];simp -dsimp only[go_sem,aa,aq,ae,reduceCtorEq];refine(zG S0 n m A h1 h2 h3 h4 hA).mono ?_;rintro r S1 ⟨b,g,rfl,hZ⟩;simp -dsimp only[go_sem,aa,reduceCtorEq];exact⟨b,rfl,g,hZ⟩
theorem DR(n m:Nat)(A:Nat->Nat->Int)(h1:1<=n)(h2:n<=16)(h3:1<=m)(h4:m<=16)(hA:∀i j,i<n->j<m->Ki (A i j)):PF 27 [aK n m A] (aV n m A) :=
 PF.of_spec ((Lw _ n m A h1 h2 h3 h4 hA).mono fun r S' ⟨b,g,e,h⟩=>e▸h.vr)
def ve:AV->Bool
 | .int _ _=>true
 | .bool _=>true
 | .big _=>true
 | .nil=>true
 | .sl _ _ _ _=>true
 | .ptr _ _ _=>true
 | _=>false
def clb:AV->Bool
 | .tup l=>l.all ve
 | x=>ve x
theorem u9{w:World}{M M':Nat->Prop}{x:AV}{v:Value}(h:ve x=true)(hr:a8 w M x v):a8 w M' x v:=by
 cases x<;>simp only[ve,aN]at h<;>simpa only[a8]using hr
theorem Bc{w:World}{M M':Nat->Prop}:∀(l:List AV) (vs:List Value),l.all ve=true->a6 w M l vs->a6 w M' l vs
 | [],[],_,_=>by simp[a6]
 | x::l,v::vs,h,h2=>by
  simp only[a6,List.all_cons,Bool.and_eq_true]at h h2 ⊢;exact⟨u9 h.1 h2.1,Bc l vs h.2 h2.2⟩
 | [],_::_,_,h2=>by simp[a6]at h2
 | _::_,[],_,h2=>by simp[a6]at h2
theorem Jh{w:World}{M M':Nat->Prop}{x:AV}{v:Value}(h:clb x=true)(hr:a8 w M x v):a8 w M' x v:=by
 cases x<;>first
  | (simp only[clb]at h;exact u9 h hr)
  | (simp only[clb]at h;simp only[a8]at hr ⊢;obtain⟨vs,e,h2⟩:=hr;exact⟨vs,e,Bc _ _ h h2⟩)
def St.join(S S1:St):St:=fun b=>match S b with
 | some X=>some X
 | ac=>S1 b
def Fk(S:St):Prop:=∀b X,S b=some X->∀j,j<X.n->ve (X.g j)=true
theorem cM.frame{f:Nat}{args args':List AV}{S:St}{post:AV->St->Prop}(h:cM f args' St.none post)(hv:dY S args args')(hc:∀r S1,post r S1->clb r=true/\Fk S1) :
  cM f args S (fun r S'=>∃S1,post r S1/\(∀b X,S b=some X->S1 b=ac)/\S'=S.join S1):=by
 intro w vs hs hr;refine(h w vs (fun b x hx=>by simp[St.none]at hx) (a6.turn (fun _ _ hk=>absurd rfl hk) _ _ (tv hs _ _ _ hv hr))).mono ?_
 rintro e w' ⟨v,r,S1,rfl,hp,hR,hS,hG⟩;obtain⟨c1,c2⟩:=hc r S1 hp;have hlt:∀b X,S b=some X->b<w.heap.size:=fun b X hX=>by obtain⟨cs,h1,_⟩:=hs b X hX;exact dE h1
 have hd:∀b,b<w.heap.size->S1 b=ac:=fun b hb=>by
  cases e:S1 b with
  | none=>rfl
  | some Y=>exact absurd (hG.own b hb (by simp[St.dom,e])) (by simp[St.dom,St.none])
 have hg:co S.dom (S.join S1).dom w w':=⟨hG.os,hG.tape,hG.output,hG.size,fun k hk _=>hG.keep k hk (by simp[St.dom,St.none]),hG.shape,fun k hk hm=>by
  simp only[St.dom,St.join]at hm ⊢
  cases e:S k with
  | none=>rw[e]at hm;exact absurd (hd k hk) hm
  | some X=>simp⟩
 refine⟨v,r,S.join S1,rfl,⟨S1,hp,fun b X hX=>hd b (hlt b X hX),rfl⟩,Jh c1 hR,?_,hg⟩;intro b X hX;simp only[St.join]at hX
 cases e:S b with
 | some Y =>
  rw[e]at hX;cases hX;obtain⟨cs,h1,h2,h3,h4⟩:=hs b X e;refine⟨cs,by rw[hG.keep b (dE h1) (by simp[St.dom,St.none])];exact h1,h2,fun j hj=>?_,h4⟩
  obtain⟨u,u1,u2⟩:=h3 j hj;exact⟨u,u1,a8.grow hs.noU hg _ _ u2⟩
 | none =>
  rw[e]at hX;obtain⟨cs,h1,h2,h3,h4⟩:=hS b X hX;refine⟨cs,h1,h2,fun j hj=>?_,h4⟩;obtain⟨u,u1,u2⟩:=h3 j hj;exact⟨u,u1,u9 (c2 b X hX j hj) u2⟩
theorem qz(S S1:St):eZ S (S.join S1):=fun k X h=>by simp[St.join,h]
theorem uO{S S1:St}(hd:∀b X,S b=some X->S1 b=ac){b:Nat}{X:dn}(h:S1 b=some X):S.join S1 b=some X/\S b=ac:=by
 cases e:S b with
 | some Y=>rw[hd b Y e]at h;cases h
 | none=>exact⟨by simp[St.join,e,h],rfl⟩
theorem bB.join{S S1:St}(hd:∀b X,S b=some X->S1 b=ac){b ty es n:Nat}{g:Nat->AV}(h:bB S1 b ty es n g):bB (S.join S1) b ty es n g/\S b=ac:=by
 obtain⟨g',h1,h2⟩:=h;exact⟨⟨g',(uO hd h1).1,h2⟩,(uO hd h1).2⟩
theorem cS.join{S S1:St}(hd:∀b X,S b=some X->S1 b=ac){b:Nat}{g:Nat->Nat}{n m:Nat}{A:Nat->Nat->Int}(h:cS S1 b g n m A):ge S (S.join S1) b g n m A :=
 ⟨⟨(h.outer.join hd).1,fun i hi=>((h.row i hi).join hd).1,h.inj⟩,qz S S1,(h.outer.join hd).2,fun i hi=>((h.row i hi).join hd).2⟩
theorem cM.less{f:Nat}{args:List AV}{S:St}{post post':AV->St->Prop}(h:cM f args S post)(hp:∀r S',post r S'->∃S'',(∀b X,S'' b=some X->S' b=some X)/\post' r S''):cM f args S post':=by
 intro w vs hs hr;refine(h w vs hs hr).mono ?_;rintro e w' ⟨v,r,S1,rfl,h1,h2,h3,h4⟩;obtain⟨S2,k1,k2⟩:=hp r S1 h1;obtain⟨l1,l2⟩:=h3.less k1;exact⟨v,r,S2,rfl,k2,a8.turn (fun k _ hk=>l2 k hk) _ _ h2,l1,h4.weaken l2⟩
def fB(S:St)(b:Nat)(g:Nat->Nat)(n:Nat):St:=fun k=>if k=b then S k else if ∃i,i<n/\k=g i then S k else ac
theorem iF(S:St)(b:Nat)(g:Nat->Nat)(n:Nat):∀c X,fB S b g n c=some X->S c=some X:=by
 intro c X h;unfold fB at h;split at h
 ·exact h
 ·split at h
  ·exact h
  ·cases h
theorem cS.only{S:St}{b:Nat}{g:Nat->Nat}{n m:Nat}{A:Nat->Nat->Int}(h:cS S b g n m A):cS (fB S b g n) b g n m A/\Fk (fB S b g n):=by
 refine⟨⟨?_,fun i hi=>?_,h.inj⟩,fun c X hX j hj=>?_⟩
 ·obtain⟨g',h1,h2⟩:=h.outer;exact⟨g',by simp[fB,h1],h2⟩
 ·obtain⟨g',h1,h2⟩:=h.row i hi;refine⟨g',?_,h2⟩;unfold fB;split
  ·exact h1
  ·rw[if_pos ⟨i,hi,rfl⟩];exact h1
 ·unfold fB at hX;split at hX
  ·rename_i e;subst e;obtain⟨g',h1,h2⟩:=h.outer;rw[hX]at h1;cases h1;show ve (g' j)=true;rw[h2 j hj];rfl
  ·split at hX
   ·rename_i e;obtain⟨i,hi,rfl⟩:=e;obtain⟨g',h1,h2⟩:=h.row i hi;rw[hX]at h1;cases h1;show ve (g' j)=true;rw[h2 j hj];rfl
   ·cases hX
def MF(f:Nat)(args:List AV)(n m:Nat)(A:Nat->Nat->Int):Prop:=∀S args',dY S args' args->cM f args' S (fun r S'=>∃b g,r=.sl 1 b 0 n/\ge S S' b g n m A)
def zz(f:Nat)(args:List AV)(n m:Nat)(A:Nat->Nat->Int):Prop:=∀S args',dY S args' args->cM f args' S (fun r S'=>∃b g,r=.tup [.sl 1 b 0 n,.bool true]/\ge S S' b g n m A)
theorem MF.of{f:Nat}{args:List AV}{n m:Nat}{A:Nat->Nat->Int}(h:cM f args St.none (fun r S'=>∃b g,r=.sl 1 b 0 n/\cS S' b g n m A)):MF f args n m A:=fun S args' hv=>by
 have h1:cM f args St.none (fun r S'=>∃b g,r=.sl 1 b 0 n/\cS S' b g n m A/\Fk S'):=h.less fun r S' ⟨b,g,e,hm⟩=>⟨fB S' b g n,iF S' b g n,b,g,e,hm.only.1,hm.only.2⟩;refine(h1.frame hv ?_).mono ?_
 ·rintro r S1 ⟨b,g,rfl,_,hc⟩;exact⟨rfl,hc⟩
 ·rintro r S' ⟨S1,⟨b,g,rfl,hm,_⟩,hd,rfl⟩;exact⟨b,g,rfl,hm.join hd⟩
theorem zz.of{f:Nat}{args:List AV}{n m:Nat}{A:Nat->Nat->Int}(h:cM f args St.none (fun r S'=>∃b g,r=.tup [.sl 1 b 0 n,.bool true]/\cS S' b g n m A)):zz f args n m A:=fun S args' hv=>by
 have h1:cM f args St.none (fun r S'=>∃b g,r=.tup [.sl 1 b 0 n,.bool true]/\cS S' b g n m A/\Fk S'):=h.less fun r S' ⟨b,g,e,hm⟩=>⟨fB S' b g n,iF S' b g n,b,g,e,hm.only.1,hm.only.2⟩;refine(h1.frame hv ?_).mono ?_
 ·rintro r S1 ⟨b,g,rfl,_,hc⟩;exact⟨rfl,hc⟩
 ·rintro r S' ⟨S1,⟨b,g,rfl,hm,_⟩,hd,rfl⟩;exact⟨b,g,rfl,hm.join hd⟩
theorem MF.pf{f:Nat}{args:List AV}{n m:Nat}{A:Nat->Nat->Int}(h:MF f args n m A):PF f args (aV n m A) :=
 PF.of_spec ((h St.none args (cw _ _)).mono fun _ _ ⟨_,_,e,h⟩=>e▸h.vr)
theorem zz.pf{f:Nat}{args:List AV}{n m:Nat}{A:Nat->Nat->Int}(h:zz f args n m A):PF f args (.tup [aV n m A,.bool true]) :=
 PF.of_spec ((h St.none args (cw _ _)).mono fun _ _ ⟨_,_,e,h⟩=>e▸VR.tup2 h.vr (VR.mf rfl))
theorem MF.congr{f:Nat}{args:List AV}{n m:Nat}{A B:Nat->Nat->Int}(h:MF f args n m A)(he:∀i j,i<n->j<m->A i j=B i j):MF f args n m B:=fun S args' hv=>(h S args' hv).mono fun _ _ ⟨b,g,e,hm⟩=>⟨b,g,e,hm.congr he⟩
theorem zz.congr{f:Nat}{args:List AV}{n m:Nat}{A B:Nat->Nat->Int}(h:zz f args n m A)(he:∀i j,i<n->j<m->A i j=B i j):zz f args n m B:=fun S args' hv=>(h S args' hv).mono fun _ _ ⟨b,g,e,hm⟩=>⟨b,g,e,hm.congr he⟩
theorem zr(n m:Nat)(hn:n<=1000)(hm:m<=1000):MF 102 [.int .i64 n,.int .i64 m] n m (fun _ _=>0):=MF.of ((Bo _ n m hn hm).mono fun _ _ ⟨b,g,e,h⟩=>⟨b,g,e,h.1⟩)
theorem dY.mat{S:St}{b:Nat}{g:Nat->Nat}{n m:Nat}{A:Nat->Nat->Int}(h:cS S b g n m A){l r:List AV}(hl:dY S l r):dY S (.sl 1 b 0 n::l) (aV n m A::r):=⟨h.vr.va,hl⟩
theorem dY.same{S:St}{x:AV}{l r:List AV}(hl:dY S l r):dY S (x::l) (x::r):=⟨VA.refl S x,hl⟩
theorem dY.nil{S:St}:dY S [] []:=trivial
def iB(S0 S:St)(b:Nat)(g:Nat->Nat)(n m:Nat)(A:Nat->Nat->Int):Prop:=dD S b g n m A/\eZ S0 S/\S0 b=ac/\∀i,i<n->S0 (g i)=ac
theorem dD.outer_ne{S:St}{b:Nat}{g:Nat->Nat}{n m:Nat}{A:Nat->Nat->Int}(h:dD S b g n m A){i:Nat}(hi:i<n):b≠g i:=bB.ne h.outer (h.row i hi) om
theorem dD.set{S:St}{b:Nat}{g:Nat->Nat}{n m:Nat}{A:Nat->Nat->Int}(h:dD S b g n m A){i j:Nat}{z:Int}{g':Nat->AV}(hi:i<n)(hS:S (g i)=some ⟨2,1,m,g'⟩) :
  dD (S.upd (g i) ⟨2,1,m,bK g' j (.int .i64 z)⟩) b g n m (d6 A i j z):=by
 refine⟨h.outer.upd (h.outer_ne hi) _,fun a ha=>?_,h.inj⟩;by_cases e:a=i
 ·subst e;obtain⟨g2,h1,h2⟩:=h.row a ha;rw[hS]at h1;cases h1;refine bB.here fun c hc=>?_;have:=h2 c hc;simp only[bK,d6]
  grind
 ·have hne:g a≠g i:=fun e2=>e (h.inj a i ha hi e2);refine((h.row a ha).upd hne _).congr fun c _=>?_;simp[d6,e]
theorem iB.set{S0 S:St}{b:Nat}{g:Nat->Nat}{n m:Nat}{A:Nat->Nat->Int}(h:iB S0 S b g n m A){i j:Nat}{z:Int}{g':Nat->AV}(hi:i<n)(hS:S (g i)=some ⟨2,1,m,g'⟩) :
  iB S0 (S.upd (g i) ⟨2,1,m,bK g' j (.int .i64 z)⟩) b g n m (d6 A i j z):=⟨h.1.set hi hS,h.2.1.upd (h.2.2.2 i hi) _,h.2.2.1,h.2.2.2⟩
theorem dD.congr{S:St}{b:Nat}{g:Nat->Nat}{n m:Nat}{A B:Nat->Nat->Int}(h:dD S b g n m A)(he:∀i j,i<n->j<m->A i j=B i j):dD S b g n m B :=
 ⟨h.outer,fun i hi=>(h.row i hi).congr fun j hj=>by rw[he i j hi hj],h.inj⟩
theorem iB.congr{S0 S:St}{b:Nat}{g:Nat->Nat}{n m:Nat}{A B:Nat->Nat->Int}(h:iB S0 S b g n m A)(he:∀i j,i<n->j<m->A i j=B i j):iB S0 S b g n m B:=⟨h.1.congr he,h.2⟩
theorem iB.vr{S0 S:St}{b:Nat}{g:Nat->Nat}{n m:Nat}{A:Nat->Nat->Int}(h:iB S0 S b g n m A):VR S (.sl 1 b 0 n) (aK n m A):=h.1.vr
theorem dD.join{S S1:St}(hd:∀b X,S b=some X->S1 b=ac){b:Nat}{g:Nat->Nat}{n m:Nat}{A:Nat->Nat->Int}(h:dD S1 b g n m A):iB S (S.join S1) b g n m A :=
 ⟨⟨(h.outer.join hd).1,fun i hi=>((h.row i hi).join hd).1,h.inj⟩,qz S S1,(h.outer.join hd).2,fun i hi=>((h.row i hi).join hd).2⟩
theorem dD.only{S:St}{b:Nat}{g:Nat->Nat}{n m:Nat}{A:Nat->Nat->Int}(h:dD S b g n m A):dD (fB S b g n) b g n m A/\Fk (fB S b g n):=by
 refine⟨⟨?_,fun i hi=>?_,h.inj⟩,fun c X hX j hj=>?_⟩
 ·obtain⟨g',h1,h2⟩:=h.outer;exact⟨g',by simp[fB,h1],h2⟩
 ·obtain⟨g',h1,h2⟩:=h.row i hi;refine⟨g',?_,h2⟩;unfold fB;split
  ·exact h1
  ·rw[if_pos ⟨i,hi,rfl⟩];exact h1
 ·unfold fB at hX;split at hX
  ·rename_i e;subst e;obtain⟨g',h1,h2⟩:=h.outer;rw[hX]at h1;cases h1;show ve (g' j)=true;rw[h2 j hj];rfl
  ·split at hX
   ·rename_i e;obtain⟨i,hi,rfl⟩:=e;obtain⟨g',h1,h2⟩:=h.row i hi;rw[hX]at h1;cases h1;show ve (g' j)=true;rw[h2 j hj];rfl
   ·cases hX
def Fh(f:Nat)(args:List AV)(n m:Nat)(A:Nat->Nat->Int):Prop:=∀S args',dY S args' args->cM f args' S (fun r S'=>∃b g,r=.sl 1 b 0 n/\iB S S' b g n m A)
def vU(f:Nat)(args:List AV)(n m:Nat)(A:Nat->Nat->Int):Prop:=∀S args',dY S args' args->cM f args' S (fun r S'=>∃b g,r=.tup [.sl 1 b 0 n,.bool true]/\iB S S' b g n m A)
theorem Fh.of{f:Nat}{args:List AV}{n m:Nat}{A:Nat->Nat->Int}(h:cM f args St.none (fun r S'=>∃b g,r=.sl 1 b 0 n/\dD S' b g n m A)):Fh f args n m A:=fun S args' hv=>by
 have h1:cM f args St.none (fun r S'=>∃b g,r=.sl 1 b 0 n/\dD S' b g n m A/\Fk S'):=h.less fun r S' ⟨b,g,e,hm⟩=>⟨fB S' b g n,iF S' b g n,b,g,e,hm.only.1,hm.only.2⟩;refine(h1.frame hv ?_).mono ?_
 ·rintro r S1 ⟨b,g,rfl,_,hc⟩;exact⟨rfl,hc⟩
 ·rintro r S' ⟨S1,⟨b,g,rfl,hm,_⟩,hd,rfl⟩;exact⟨b,g,rfl,hm.join hd⟩
theorem vU.of{f:Nat}{args:List AV}{n m:Nat}{A:Nat->Nat->Int}(h:cM f args St.none (fun r S'=>∃b g,r=.tup [.sl 1 b 0 n,.bool true]/\dD S' b g n m A)):vU f args n m A:=fun S args' hv=>by
 have h1:cM f args St.none (fun r S'=>∃b g,r=.tup [.sl 1 b 0 n,.bool true]/\dD S' b g n m A/\Fk S'):=h.less fun r S' ⟨b,g,e,hm⟩=>⟨fB S' b g n,iF S' b g n,b,g,e,hm.only.1,hm.only.2⟩;refine(h1.frame hv ?_).mono ?_
 ·rintro r S1 ⟨b,g,rfl,_,hc⟩;exact⟨rfl,hc⟩
 ·rintro r S' ⟨S1,⟨b,g,rfl,hm,_⟩,hd,rfl⟩;exact⟨b,g,rfl,hm.join hd⟩
theorem Fh.pf{f:Nat}{args:List AV}{n m:Nat}{A:Nat->Nat->Int}(h:Fh f args n m A):PF f args (aK n m A) :=
 PF.of_spec ((h St.none args (cw _ _)).mono fun _ _ ⟨_,_,e,h⟩=>e▸h.vr)
theorem vU.pf{f:Nat}{args:List AV}{n m:Nat}{A:Nat->Nat->Int}(h:vU f args n m A):PF f args (.tup [aK n m A,.bool true]) :=
 PF.of_spec ((h St.none args (cw _ _)).mono fun _ _ ⟨_,_,e,h⟩=>e▸VR.tup2 h.vr (VR.mf rfl))
theorem Fh.congr{f:Nat}{args:List AV}{n m:Nat}{A B:Nat->Nat->Int}(h:Fh f args n m A)(he:∀i j,i<n->j<m->A i j=B i j):Fh f args n m B:=fun S args' hv=>(h S args' hv).mono fun _ _ ⟨b,g,e,hm⟩=>⟨b,g,e,hm.congr he⟩
theorem vU.congr{f:Nat}{args:List AV}{n m:Nat}{A B:Nat->Nat->Int}(h:vU f args n m A)(he:∀i j,i<n->j<m->A i j=B i j):vU f args n m B:=fun S args' hv=>(h S args' hv).mono fun _ _ ⟨b,g,e,hm⟩=>⟨b,g,e,hm.congr he⟩
theorem dY.imat{S:St}{b:Nat}{g:Nat->Nat}{n m:Nat}{A:Nat->Nat->Int}(h:dD S b g n m A){l r:List AV}(hl:dY S l r):dY S (.sl 1 b 0 n::l) (aK n m A::r):=⟨h.vr.va,hl⟩
def mZ(i j:Nat):Int:=if i=j then 1 else 0
theorem oW(n:Nat)(h1:1<=n)(h2:n<=16):zz 111 [.int .i64 n] n n mZ:=by
 refine zz.of ?_;refine aA Tryz.func111 rfl 29 Tryz.ntmps111 (by kernel_rfl) (by simp) (by simp[Tryz.results111]) ?_
 rw[aS,Tryz.results111];have d1:¬((n:Int)<1):=by omega
 have d2:¬((16:Int)<n):=by omega
 simp -dsimp only[go_sem,aa,aq,ae,reduceCtorEq,decide_false,d1,d2];refine(zr n n om om _ _ (cw _ _)).mono ?_;rintro r S1 ⟨b,g,rfl,hZ⟩;simp -dsimp only[go_sem,reduceCtorEq];refine aI (fun O S'=>∃k:Nat,k<=n/\O 4=.sl 1 b 0 n/\O 16=.int .i64 n/\O 17=.int .i64 k/\cS S' b g n n (fun i j=>if i<k then mZ i j else 0)) (fun O S=>n-bY (O 17)) ?_ ?_
 ·simp -dsimp only[go_sem,aa];exact⟨0,by omega,rfl,hZ.1.congr (by simp)⟩
 ·rintro O S ⟨k,hk,e4,e16,e17,hM⟩;by_cases hlt:k<n
  ·obtain⟨g1,u1,v1⟩:=hM.outer;obtain⟨g2,u2,v2⟩:=hM.row k hlt;have v1':=v1 k hlt;simp -dsimp only[go_sem,aa,↓reduceIte,af,decide_true,e4,e16,e17,hlt];refine bG 6 (by kernel_rfl) ?_
   simp -dsimp only[go_sem,aa,aq,ae,↓reduceIte,reduceCtorEq,af,e4,e16,e17,hlt,u1,u2,v1',aW (show k<1000000 by omega),bY]
   repeat refine an ?_
   refine⟨_,(fA (by decide) (by decide)).pure',by omega,trivial,⟨k+1,by omega,rfl,(hM.set hlt u2).congr fun i c _ _=>?_⟩,by omega⟩
   simp only[d6,mZ]
   grind
  ·simp -dsimp only[go_sem,aa,↓reduceIte,af,decide_false,e4,e16,e17,hlt];exact⟨b,rfl,g,hM.congr fun i j hi hj=>by rw[if_pos om]⟩
theorem q8(n m:Nat)(A:Nat->Nat->Int)(k:Nat)(h1:1<=n)(h2:n<=16)(h3:1<=m)(h4:m<=16)(hA:∀i j,i<n->j<m->nb (A i j) k)(hk:k<=8589934592):zz 100 [aV n m A] m n (fun i j=>A j i):=by
 refine zz.of ?_;refine aA Tryz.func100 rfl 51 Tryz.ntmps100 (by kernel_rfl) (by simp) (by simp[Tryz.results100]) ?_
 rw[aS,Tryz.results100];simp -dsimp only[go_sem,aa,aq,ae,reduceCtorEq];refine(oo n m A h1 h2 h3 h4).call ?_;simp -dsimp only[go_sem,aa,aq,ae,reduceCtorEq];refine(zr m n om om _ _ (cw _ _)).mono ?_;rintro r S1 ⟨b,g,rfl,hZ⟩;simp -dsimp only[go_sem,aa,reduceCtorEq,aV,bn];refine aI (fun O S'=>∃k:Nat,k<=n/\O 0=aV n m A/\O 7=.sl 1 b 0 m/\O 22=.int .i64 n/\O 23=.int .i64 k/\cS S' b g m n (fun i j=>if j<k then A j i else 0)) (fun O S=>n-bY (O 23)) ?_ ?_
 ·simp -dsimp only[go_sem,aa,reduceCtorEq,aV,bn];exact⟨0,by omega,rfl,hZ.1.congr (by simp)⟩
 ·rintro O S ⟨k,hk,e0,e7,e22,e23,hM⟩;by_cases hlt:k<n
  ·simp -dsimp only[go_sem,aa,↓reduceIte,reduceCtorEq,af,decide_true,e0,e7,e22,e23,hlt,aV,bn];refine aI (fun O S'=>∃j:Nat,j<=m/\O 0=aV n m A/\O 7=.sl 1 b 0 m/\O 8=.int .i64 k/\O 22=.int .i64 n/\O 23=.int .i64 k/\O 30=.int .i64 m/\O 31=.int .i64 j/\cS S' b g m n (fun i c=>if c<k∨(c=k/\i<j)then A c i else 0)) (fun O S=>m-bY (O 31)) ?_ ?_
   ·simp -dsimp only[go_sem,aa,reduceCtorEq,e0,e7,e22,e23,aV,bn];exact⟨0,by omega,rfl,hM.congr (by simp)⟩
   ·rintro O S ⟨j,hj,e0,e7,e8,e22,e23,e30,e31,hM⟩;by_cases hjm:j<m
    ·obtain⟨g1,u1,v1⟩:=hM.outer;obtain⟨g2,u2,v2⟩:=hM.row j hjm;have v1':=v1 j hjm;simp -dsimp only[go_sem,aa,↓reduceIte,reduceCtorEq,af,decide_true,e0,e7,e22,e23,e30,e31,hjm,aV,bn];refine bG 13 (by kernel_rfl) ?_
     simp -dsimp only[go_sem,aa,aq,ae,↓reduceIte,reduceCtorEq,af,e0,e7,e8,e22,e23,e30,e31,hjm,hlt,aV,bn,u1,u2,v1',aW (show j<1000000 by omega),bY]
     repeat refine an ?_
     refine⟨_,(Av (hA k j hlt hjm) om).pure',by omega,trivial,⟨j+1,by omega,rfl,(hM.set hjm u2).congr fun i c _ _=>?_⟩,by omega⟩
     simp only[d6]
     grind
    ·simp -dsimp only[go_sem,aa,↓reduceIte,reduceCtorEq,af,decide_false,e0,e7,e22,e23,e30,e31,hjm,aV,bn,aW (show k<1000000 by omega),bY]
     refine⟨⟨k+1,by omega,rfl,hM.congr fun i c hi hc=>?_⟩,by omega⟩
     grind
  ·simp -dsimp only[go_sem,aa,↓reduceIte,reduceCtorEq,af,decide_false,e0,e7,e22,e23,hlt,aV,bn];exact⟨b,rfl,g,hM.congr fun i j hi hj=>by rw[if_pos om]⟩
theorem cS.ext{S S':St}{b:Nat}{g:Nat->Nat}{n m:Nat}{A:Nat->Nat->Int}(h:cS S b g n m A)(he:eZ S S'):cS S' b g n m A:=⟨he.has h.outer,fun i hi=>he.has (h.row i hi),h.inj⟩
theorem dD.ext{S S':St}{b:Nat}{g:Nat->Nat}{n m:Nat}{A:Nat->Nat->Int}(h:dD S b g n m A)(he:eZ S S'):dD S' b g n m A:=⟨he.has h.outer,fun i hi=>he.has (h.row i hi),h.inj⟩
theorem dY.ints{S:St}{b n:Nat}{r:Nat->Int}(h:gV S b n r){l l':List AV}(hl:dY S l l'):dY S (.sl 2 b 0 n::l) (bn n r::l'):=⟨h.vr.va,hl⟩
theorem dY.i64s{S:St}{b n:Nat}{r:Nat->Int}(h:nO S b n r){l l':List AV}(hl:dY S l l'):dY S (.sl 1 b 0 n::l) (bJ n r::l'):=⟨h.vr.va,hl⟩
def lT(m:Nat)(A B:Nat->Nat->Int)(i j:Nat):Int:=aD m fun k=>A i k*B k j
theorem Lx(n m q:Nat)(A B:Nat->Nat->Int)(k:Nat)(h1:1<=n)(h2:n<=16)(h3:1<=m)(h4:m<=16)(h5:1<=q)(h6:q<=16)(hA:∀i j,i<n->j<m->nb (A i j) k)(hB:∀i j,i<m->j<q->nb (B i j) k)
  (hk:k<=1000000000):zz 164 [aV n m A,aV m q B] n q (lT m A B):=by
 refine zz.of ?_;refine aA Tryz.func164 rfl 70 Tryz.ntmps164 (by kernel_rfl) (by simp) (by simp[Tryz.results164]) ?_
 rw[aS,Tryz.results164];simp -dsimp only[go_sem,aj,aa,aq,ae,reduceCtorEq];refine(oo n m A h1 h2 h3 h4).call ?_;simp -dsimp only[go_sem,aa,aq,ae,reduceCtorEq];refine(q8 m q B k h3 h4 h5 h6 hB om _ _ (cw _ _)).mono ?_;rintro r S1 ⟨bt,gt,rfl,hT⟩;simp -dsimp only[go_sem,aa,aq,ae,reduceCtorEq,aV,bn,not_false_eq_true];refine(zr n q om om _ _ (cw _ _)).mono ?_;rintro r S2 ⟨b,g,rfl,hZ⟩;simp -dsimp only[go_sem,aa,reduceCtorEq];refine aI (fun O S'=>∃k:Nat,k<=n/\O 0=aV n m A/\O 9=.sl 1 bt 0 q/\O 11=.sl 1 b 0 n/\O 43=.int .i64 n/\O 44=.int .i64 k/\ge S1 S' b g n q (fun i j=>if i<k then lT m A B i j else 0)) (fun O S=>n-bY (O 44)) ?_ ?_
 ·simp -dsimp only[go_sem,aa,reduceCtorEq,aV,bn];exact⟨0,by omega,rfl,hZ.congr (by simp)⟩
 ·rintro O S ⟨i,hi,e0,e9,e11,e43,e44,hM⟩;by_cases hlt:i<n
  ·simp -dsimp only[go_sem,aa,↓reduceIte,af,decide_true,e9,e11,e43,e44,hlt,aV,bn];refine aI (fun O S'=>∃j:Nat,j<=q/\O 0=aV n m A/\O 9=.sl 1 bt 0 q/\O 11=.sl 1 b 0 n/\O 12=.int .i64 i/\O 43=.int .i64 n/\O 44=.int .i64 i/\O 48=.int .i64 q/\O 49=.int .i64 j/\ge S1 S' b g n q (fun a c=>if a<i∨(a=i/\c<j)then lT m A B a c else 0)) (fun O S=>q-bY (O 49)) ?_ ?_
   ·simp -dsimp only[go_sem,aa,reduceCtorEq,e0,e9,e11,e43,e44,aV,bn];exact⟨0,by omega,rfl,hM.congr (by simp)⟩
   ·rintro O S ⟨j,hj,e0,e9,e11,e12,e43,e44,e48,e49,hM⟩;by_cases hjq:j<q
    ·obtain⟨g1,u1,v1⟩:=hM.1.outer;obtain⟨g2,u2,v2⟩:=hM.1.row i hlt;have v1':=v1 i hlt;have hTS:=hT.1.ext hM.2.1;obtain⟨g3,u3,v3⟩:=hTS.outer;have v3':=v3 j hjq;simp -dsimp only[go_sem,aa,↓reduceIte,reduceCtorEq,af,decide_true,e0,e9,e11,e43,e44,e48,e49,hjq,aV,bn];refine bG 14 (by kernel_rfl) ?_
     simp -dsimp only[go_sem,aa,aq,ae,↓reduceIte,reduceCtorEq,af,e0,e9,e11,e12,e43,e44,e48,e49,hjq,hlt,aV,bn,u1,u2,v1',u3,v3',aW (show j<1000000 by omega),bY]
     repeat refine an ?_
     refine⟨_,(K5 m (A i) (fun c=>B c j) k (fun c hc=>hA i c hlt hc) (fun c hc=>hB c j hc hjq) om om).pureS (dY.same (dY.ints (hTS.row j hjq) dY.nil)),by omega,trivial,⟨j+1,by omega,rfl,(hM.set hlt u2).congr fun a c _ _=>?_⟩,by omega⟩
     simp only[d6,lT]
     grind
    ·simp -dsimp only[go_sem,aa,↓reduceIte,reduceCtorEq,af,decide_false,e0,e9,e11,e43,e44,e48,e49,hjq,aV,bn,aW (show i<1000000 by omega),bY]
     refine⟨⟨i+1,by omega,rfl,hM.congr fun a c ha hc=>?_⟩,by omega⟩
     grind
  ·simp -dsimp only[go_sem,aa,↓reduceIte,af,decide_false,e9,e11,e43,e44,hlt,aV,bn];exact⟨b,rfl,g,hM.1.congr fun i j hi hj=>by rw[if_pos om]⟩
theorem nJ(n m q:Nat)(A B:Nat->Nat->Int)(k:Nat)(h1:1<=n)(h2:n<=16)(h3:1<=m)(h4:m<=16)(h5:1<=q)(h6:q<=16)(hA:∀i j,i<n->j<m->nb (A i j) k)(hB:∀i j,i<m->j<q->nb (B i j) k)
  (hk:k<=1000000000):MF 101 [aV n m A,aV m q B] n q (lT m A B):=by
 refine MF.of ?_;refine aA Tryz.func101 rfl 14 Tryz.ntmps101 (by kernel_rfl) (by simp) (by simp[Tryz.results101]) ?_
 rw[aS,Tryz.results101];simp -dsimp only[go_sem,aj,aa,aq,ae,reduceCtorEq];refine(Lx n m q A B k h1 h2 h3 h4 h5 h6 hA hB hk _ _ (cw _ _)).mono ?_;rintro r S1 ⟨b,g,rfl,hZ⟩;simp -dsimp only[go_sem,aa,reduceCtorEq];exact⟨b,rfl,g,hZ.1⟩
theorem E6(n m:Nat)(A:Nat->Nat->Int)(h1:1<=n)(h2:n<=16)(h3:1<=m)(h4:m<=16)(hA:∀i j,i<n->j<m->kb (A i j)):vU 46 [aV n m A] n m A:=by
 refine vU.of ?_;refine aA Tryz.func46 rfl 63 Tryz.ntmps46 (by kernel_rfl) (by simp) (by simp[Tryz.results46]) ?_
 rw[aS,Tryz.results46];simp -dsimp only[go_sem,aa,aq,ae,reduceCtorEq];refine(oo n m A h1 h2 h3 h4).call ?_;simp -dsimp only[go_sem,aa,reduceCtorEq]
 repeat refine an ?_
 refine aG.intro fun b hb=>?_;simp -dsimp only[go_sem];refine aI (fun O S=>∃(k:Nat) (g:Nat->Nat),k<=n/\O 0=aV n m A/\O 5=.int .i64 m/\O 7=.sl 1 b 0 n/\O 23=.int .i64 n/\O 24=.int .i64 k /\
  bB S b 29 1 n (fun i=>if i<k then .sl 1 (g i) 0 m else .nil)/\(∀i,i<k->nO S (g i) m (A i))/\∀i j,i<k->j<k->g i=g j->i=j) (fun O S=>n-bY (O 24)) ?_ ?_
 ·simp -dsimp only[go_sem,aa,reduceCtorEq,aV,bn];exact⟨0,by omega,rfl,fun _=>0,bB.here fun i _=>by simp,fun i hi=>by omega,fun i j hi=>by omega⟩
 ·rintro O S ⟨k,g,hk,e0,e5,e7,e23,e24,hO,hR,hI⟩;by_cases hlt:k<n
  ·simp -dsimp only[go_sem,aa,↓reduceIte,af,decide_true,e5,e7,e23,e24,hlt]
   repeat refine an ?_
   refine aG.intro fun c hc=>?_;obtain⟨g',hS,hg'⟩:=hO;have hbc:b≠c:=by rintro rfl;rw[hS]at hc;cases hc
   have hcg:∀i,i<k->g i≠c:=fun i hi=>bB.fresh (hR i hi) hc;simp -dsimp only[go_sem,↓reduceIte,hbc,hS,bK]
   repeat refine an ?_
   refine aI (fun O S'=>∃j:Nat,j<=m/\O 0=aV n m A/\O 5=.int .i64 m/\O 7=.sl 1 b 0 n/\O 8=.int .i64 k/\O 23=.int .i64 n/\O 24=.int .i64 k/\O 36=.int .i64 m/\O 37=.int .i64 j /\
    bB S' b 29 1 n (fun i=>if i<k then .sl 1 (g i) 0 m else if i=k then .sl 1 c 0 m else .nil)/\(∀i,i<k->nO S' (g i) m (A i))/\nO S' c m (fun t=>if t<j then A k t else 0)) (fun O S=>m-bY (O 37)) ?_ ?_
   ·simp -dsimp only[go_sem,aa,reduceCtorEq,e0,e5,e7,e23,e24];refine⟨0,by omega,rfl,bB.here fun i hi=>?_,fun i hi=>((hR i hi).upd (bB.fresh (hR i hi) hc) _).upd (ak (bB.ne (bB.of hS) (hR i hi) om)) _,(bB.here fun _ _=>by simp).upd (ak hbc) _⟩
    have:=hg' i hi
    grind [bK]
   ·rintro O S' ⟨j,hj,e0,e5,e7,e8,e23,e24,e36,e37,hO,hR,hC⟩;by_cases hjm:j<m
    ·obtain⟨g1,u1,v1⟩:=hO;obtain⟨g2,u2,v2⟩:=hC;have v1':=v1 k hlt;simp only[Nat.lt_irrefl,if_false,if_true]at v1';simp -dsimp only[go_sem,aa,aq,ae,↓reduceIte,reduceCtorEq,af,decide_true,e0,e5,e7,e8,e23,e24,e36,e37,hjm,hlt,aV,bn]
     repeat refine an ?_
     refine(xB (hA k j hlt hjm)).call ?_;simp -dsimp only[go_sem,aa,↓reduceIte,reduceCtorEq,af,e0,e5,e7,e8,e23,e24,e36,e37,hjm,hlt,aV,bn,u1,v1',u2,aW (show j<1000000 by omega),bY]
     repeat refine an ?_
     refine⟨⟨j+1,by omega,rfl,bB.upd ⟨g1,u1,v1⟩ hbc _,fun i hi=>(hR i hi).upd (hcg i hi) _,bB.here fun t ht=>?_⟩,by omega⟩
     have:=v2 t ht;simp only[bK]
     grind
    ·simp -dsimp only[go_sem,aa,aq,ae,↓reduceIte,reduceCtorEq,af,decide_false,e0,e5,e7,e8,e23,e24,e36,e37,hjm,aW (show k<1000000 by omega),bY]
     refine⟨⟨k+1,by omega,rfl,fun i=>if i=k then c else g i,hO.congr fun i hi=>?_,fun i hi=>?_,fun i j hi hj e=>?_⟩,by omega⟩
     ·grind
     ·by_cases e:i=k
      ·subst e;simp only[if_true];refine hC.congr fun t ht=>?_;have:t<j:=by omega
       simp[this]
      ·simp only[e,if_false];exact hR i om
     ·by_cases e1:i=k<;>by_cases e2:j=k<;>simp only[e1,e2,if_true,if_false]at e ⊢
      ·exact absurd e.symm (hcg j om)
      ·exact absurd e (hcg i om)
      ·exact hI i j om om e
  ·simp -dsimp only[go_sem,aa,↓reduceIte,af,decide_false,e5,e7,e23,e24,hlt];obtain rfl:k=n:=by omega
   exact⟨b,rfl,g,hO.congr fun i hi=>by rw[if_pos hi],hR,hI⟩
theorem th{w:World}{n:Nat}{v:Value}(h:dL w w.heap.size (.agg #[.bool false,v]) (n:Int)):∃A k c xs,v=.slice A k c/\k<=c/\bX w w.heap.size A k xs/\ob xs/\a9 xs=n/\k=nl n:=by
 obtain⟨neg,A,k,c,xs,e,hnc,hU,hT,hv⟩:=h
 cases e
 have h1:a9 xs=n:=by simp[sg]at hv;omega
 exact⟨A,k,c,xs,rfl,hnc,hU,hT,h1,by rw[aH hU hT,h1]⟩
theorem yE{w:World}{n:Nat}{A:Option Addr}{k c:Nat}{xs:List Nat}(h1:k<=c)(h2:bX w w.heap.size A k xs)(h3:ob xs)(h4:a9 xs=n):dL w w.heap.size (.agg #[.bool false,.slice A k c]) (n:Int) :=
 ⟨false,A,k,c,xs,rfl,h1,h2,h3,by rw[h4];simp[sg]⟩
theorem C7{n:Nat}(h:nl n<=2147483648):PF 71 [.mag n] (.mag n):=by
 intro w vs hr
 match vs,hr with
 | [va],hr =>
  simp only[a6,a8]at hr;obtain⟨A,k,c,xs,rfl,hnc,hU,hT,hv,hk⟩:=th hr.1;refine(eR A k c w.heap.size xs w hnc om (ah _) hU).mono ?_;rintro e w' ⟨A1,k1,c1,zs,rfl,h1,h2,h3,h4,h5⟩;exact⟨_,rfl,by simp only[a8];exact yE h1 h2 h3 (h4.trans hv),co.below h5⟩
 | [],hr=>simp[a6]at hr
 | _::_::_,hr=>simp[a6]at hr
theorem EC{a b:Nat}(ha:nl a<=16777216)(hb:nl b<=16777216)(h0:0<b):PF 189 [.mag a,.mag b] (.tup [.mag (a/b),.mag (a%b)]):=by
 intro w vs hr
 match vs,hr with
 | [va,vb],hr =>
  simp only[a6,a8]at hr;obtain⟨A,k,c,xs,rfl,hnc,hU,hT,hv,hk⟩:=th hr.1;obtain⟨B,m,d,ys,rfl,hmd,hU2,hT2,hv2,hm⟩:=th hr.2.1;refine(Cu A B k m c d w.heap.size xs ys w om om (ah _) hU hU2 hT2 om).mono ?_;rintro e w' ⟨A1,k1,c1,zs,D1,m1,d1,us,rfl,h1,h2,h3,h4,h5,h6,h7,h8,h9⟩;exact⟨_,rfl,by simp only[a8];exact⟨[.slice A1 k1 c1,.slice D1 m1 d1],rfl,by simp only[a6,a8];exact⟨yE h1 h3 h5 (by rw[h7,hv,hv2]),yE h2 h4 h6 (by rw[h8,hv,hv2]),trivial⟩⟩,co.below h9⟩
 | [],hr=>simp[a6]at hr
 | [_],hr=>simp[a6]at hr
 | _::_::_::_,hr=>simp[a6]at hr
theorem yO{p:Bool->Prop}{n:Nat}{z:Int}(h:nl n<=2147483648)(hp:∀s,p s->sg s n=z):PF 103 [.bset p,.mag n] (.big z):=by
 intro w vs hr
 match vs,hr with
 | [va,vb],hr =>
  simp only[a6,a8]at hr;obtain⟨⟨s,rfl,hs⟩,hr,_⟩:=hr;obtain⟨A,k,c,xs,rfl,hnc,hU,hT,hv,hk⟩:=th hr;refine(jH s A k c w.heap.size xs w hnc om (ah _) hU).mono ?_;rintro e w' ⟨v,rfl,h1,h2⟩;exact⟨v,rfl,by rw[hv,hp s hs]at h1;simpa [a8]using h1,co.below h2⟩
 | [],hr=>simp[a6]at hr
 | [_],hr=>simp[a6]at hr
 | _::_::_::_,hr=>simp[a6]at hr
theorem Gc{s:Bool}{n:Nat}(h:nl n<=2147483648):PF 103 [.bool s,.mag n] (.big (sg s n)):=by
 intro w vs hr;refine yO (p:=fun t=>t=s) (z:=sg s n) h (fun t ht=>by rw[ht]) w vs ?_
 match vs,hr with
 | [va,vb],hr=>simp only[a6,a8]at hr ⊢;exact⟨⟨s,hr.1,rfl⟩,hr.2⟩
 | [],hr=>simp[a6]at hr
 | [_],hr=>simp[a6]at hr
 | _::_::_::_,hr=>simp[a6]at hr
theorem mO{a b q r:Int}(h:a=b*q+r)(h1:0<=r)(h2:r<b.natAbs):a/b=q/\a%b=r:=by
 rcases Int.lt_or_le 0 b with hb|hb
 ·exact(Int.ediv_emod_unique hb).2 ⟨by rw[Int.add_comm];exact h.symm,h1,by omega⟩
 ·have h3:=(Int.ediv_emod_unique (a:=a) (b:=-b) (r:=r) (q:=-q) om).2 ⟨by rw[Int.neg_mul_neg,Int.add_comm];exact h.symm,h1,by omega⟩
  rw[Int.ediv_neg,Int.emod_neg]at h3;exact⟨by omega,h3.2⟩
theorem Ip{s:Bool}{a b:Int}(hs:sg s a.natAbs=a):sg s (a.natAbs%b.natAbs)=a.tmod b:=by
 rcases Int.natAbs_eq b with e|e<;>cases s<;>simp only[sg,if_true,aN,if_false]at hs ⊢
 ·rw[<-hs,e];simp[Int.natAbs_natCast];exact(aL om).symm
 ·rw[<-hs,e];simp[Int.neg_tmod];exact(aL om).symm
 ·rw[<-hs,e];simp[Int.tmod_neg];exact(aL om).symm
 ·rw[<-hs,e];simp[Int.neg_tmod,Int.tmod_neg];exact(aL om).symm
theorem Iq{s t:Bool}{a b:Int}(hs:sg s a.natAbs=a)(ht:sg t b.natAbs=b):sg (s != t) (a.natAbs/b.natAbs)=a.tdiv b:=by
 cases s<;>cases t<;>simp only[sg,if_true,aN,if_false,bne_self_eq_false,Bool.false_bne,Bool.true_bne,Bool.not_false]at hs ht ⊢
 ·rw[<-hs,<-ht];simp
 ·rw[<-hs,<-ht];simp[Int.tdiv_neg]
 ·rw[<-hs,<-ht];simp[Int.neg_tdiv]
 ·rw[<-hs,<-ht];simp[Int.neg_tdiv,Int.tdiv_neg]
theorem qh{a b:Int}(h:b≠0):(a.tmod b).natAbs<b.natAbs:=by
 rw[Int.natAbs_tmod];exact Nat.mod_lt _ om
theorem uf{a b:Int}{k:Nat}(ha:nb a k)(hb:nb b k)(hk:k<=536870912)(h0:b≠0):PF 127 [.big a,.big b] (.tup [.big (a/b),.big (a%b),.bool true]):=by
 have la:nl a.natAbs<=16777216:=ha.nl om;have lb:nl b.natAbs<=16777216:=hb.nl om;have b0:0<b.natAbs:=by omega
 have hnl:((nl b.natAbs:Int)==0)=false:=by
  have h1:nl b.natAbs≠0:=fun h=>by
   have:=iA.1 (show nl b.natAbs<=0 by omega)
   simp at this;omega
  simp;omega
 refine PF.of_spec (aA Tryz.func127 rfl 61 Tryz.ntmps127 (by kernel_rfl) (by simp) (by simp[Tryz.results127]) ?_)
 rw[aS,Tryz.results127];simp -dsimp only[go_sem,aj,aa,reduceCtorEq];refine aG.intro fun b2 f2=>?_
 try simp -dsimp only[go_sem,aj,aa,aq,ae,↓reduceIte,reduceCtorEq,af,decide_true,decide_false,ay]
 refine aG.intro fun b3 f3=>?_
 try simp -dsimp only[go_sem,aj,aa,aq,ae,↓reduceIte,reduceCtorEq,af,decide_true,decide_false,ay]
 refine aG.intro fun b4 f4=>?_
 try simp -dsimp only[go_sem]
 refine aG.intro fun b5 f5=>?_
 try simp -dsimp only[go_sem]
 have n32:=(ai f3).1;have n42:=(ai (ai f4).2).1;have n43:=(ai f4).1;have n52:=(ai (ai (ai f5).2).2).1;have n53:=(ai (ai f5).2).1;have n54:=(ai f5).1;refine bG 8 (by kernel_rfl) ?_
 simp -dsimp only[go_sem,aa,aq,ae,↓reduceIte,nn n54,ak n32,ak n42,ak n43,ak n52,ak n53];refine⟨_,(C7 om).pure',_,(C7 om).pure',?_⟩;simp -dsimp only[go_sem,hnl];refine(EC la lb b0).call ?_;simp -dsimp only[go_sem,aa,hnl];refine bG 13 (by kernel_rfl) ?_
 simp -dsimp only[go_sem,aa,aq,ae,↓reduceIte,reduceCtorEq,ak n32,ak n42,ak n43,ak n52,ak n53];refine⟨.big (a.tdiv b),(yO (bW (eJ (je a.natAbs b.natAbs)) om) (fun s hs=>by obtain⟨x,h1,y,h2,rfl⟩:=hs;exact Iq h1 h2)).pure',.big (a.tmod b),(yO (bW (eJ (Nat.mod_le a.natAbs b.natAbs)) om) (fun s hs=>Ip hs)).pure',?_⟩
 refine aG.intro fun b11 f11=>?_
 try simp -dsimp only[go_sem]
 refine aG.intro fun b12 f12=>?_;have p5:=(ai f11).1;have p4:=(ai (ai f11).2).1;have p3:=(ai (ai (ai f11).2).2).1;have p2:=(ai (ai (ai (ai f11).2).2).2).1;have qp:=(ai f12).1;have q5:=(ai (ai f12).2).1;have q4:=(ai (ai (ai f12).2).2).1;have q3:=(ai (ai (ai (ai f12).2).2).2).1;have q2:=(ai (ai (ai (ai (ai f12).2).2).2).2).1;have hq:nb (a.tdiv b) k:=nb.of_le (by rw[Int.natAbs_tdiv];exact je _ _) ha
 have hr:nb (a.tmod b) k:=nb.of_le (by rw[Int.natAbs_tmod];exact Nat.mod_le _ _) ha
 have e:=Int.mul_tdiv_add_tmod a b;have hlt:=qh (a:=a) h0;simp -dsimp only[go_sem,aa,↓reduceIte,nn qp];refine(gO hr om).call ?_;by_cases hneg:a.tmod b<0
 ·have hs1:(a.tmod b).sign<0:=by rw[gY hneg];decide
  simp -dsimp only[go_sem,↓reduceIte,decide_true,bK,hs1];have hb':nb (b.natAbs:Int) k:=nb.of_le (by simp) hb
  refine bG 4 (by kernel_rfl) ?_
  simp -dsimp only[go_sem,aa,aq,ae,↓reduceIte,ak n43,ak n53,ak p3,ak q3,bK];refine⟨.big (b.natAbs:Int),(Gc (s:=false) om).pure',.big (a.tmod b+(b.natAbs:Int)),(qn hr hb' om).pure',?_⟩;simp -dsimp only[go_sem];refine(gO hb om).call ?_;by_cases hbn:b<0
  ·have hs2:b.sign<0:=by rw[gY hbn];decide
   simp -dsimp only[go_sem,↓reduceIte,decide_true,hs2];refine ee 4 [[3]] (by kernel_rfl) ?_
   simp -dsimp only[go_sem,aa,aq,ae,↓reduceIte,nn n54,nn q4,nn q5,ak p4,ak p5,ak qp,bK];refine⟨.big 1,(fA (by decide) (by decide)).pure',.big (a.tdiv b+1),(qn (k:=k+1) (hq.mono om) (nb.one om) om).pure',?_⟩
   simp -dsimp only[go_sem];have hu:=mO (a:=a) (b:=b) (q:=a.tdiv b+1) (r:=a.tmod b+(b.natAbs:Int)) (by
    rw[Int.mul_add,k9];omega) om om
   rw[hu.1,hu.2];exact VR.tup (by simp[nY])
  ·have hs2:¬b.sign<0:=by rw[cK (show 0<b by omega)];decide
   simp -dsimp only[go_sem,↓reduceIte,decide_false,hs2];refine ee 4 [[3]] (by kernel_rfl) ?_
   simp -dsimp only[go_sem,aa,aq,ae,↓reduceIte,nn n54,nn q4,nn q5,ak p4,ak p5,ak qp,bK];refine⟨.big 1,(fA (by decide) (by decide)).pure',.big (a.tdiv b-1),(pc (k:=k+1) (hq.mono om) (nb.one om) om).pure',?_⟩
   simp -dsimp only[go_sem];have hu:=mO (a:=a) (b:=b) (q:=a.tdiv b-1) (r:=a.tmod b+(b.natAbs:Int)) (by
    rw[Int.mul_sub,k9];omega) om om
   rw[hu.1,hu.2];exact VR.tup (by simp[nY])
 ·have hs1:¬(a.tmod b).sign<0:=by
   rcases Int.lt_trichotomy (a.tmod b) 0 with h|h|h
   ·exact absurd h hneg
   ·rw[h];decide
   ·rw[cK h];decide
  simp -dsimp only[go_sem,↓reduceIte,decide_false,bK,hs1];refine ee 2 [[1]] (by kernel_rfl) ?_
  simp -dsimp only[go_sem,aa,↓reduceIte,nn n54,nn q4,nn q5,ak p4,ak p5,ak qp,bK];have hu:=mO (a:=a) (b:=b) (q:=a.tdiv b) (r:=a.tmod b) om om om;rw[hu.1,hu.2];exact VR.tup (by simp[nY])
end Go.Proofs.YtdobfmlmenaajaaGreatDoor
