/-
  Lemmas for NeighbourKeeps.
-/
import Derived.Test.YtdobfmlmenaajaaGreatDoorL12
import Derived.Test.YtdobfmlmenaajaaGreatDoorL13
import Derived.Test.YtdobfmlmenaajaaGreatDoorL07
namespace Go.Proofs.YtdobfmlmenaajaaGreatDoor
open Go.RowKit Tryz
open _root_.Bool renaming false_eq_true→bQ
open _root_.Int renaming tmod_eq_emod_of_nonneg→aN,emod_nonneg→a9,sign_eq_one_of_pos→dR,mul_one→ie,sign_eq_neg_one_of_neg→iR,gcd→md
open _root_.Nat renaming le_refl→af,le_trans→bI,pow_succ→bM,pow_le_pow_right→cf,lt_of_lt_of_le→cH,pow_add→fE,div_le_self→jc,pow_pos→jQ
open _root_.Ne renaming symm→ai
open _root_.Option renaming none→ae
open _root_.Or renaming inr→aK,inl→bn
open Tryz renaming prog→ah
set_option maxHeartbeats 6400000
set_option maxRecDepth 4096
set_option linter.all false
attribute [local go_sem] Nat.reduceAdd Nat.reduceEqDiff Nat.reduceLeDiff Nat.reduceLT reduceCtorEq Int.ofNat_lt decide_true decide_false Int.zero_le_ofNat
attribute [local go_sem ↓] reduceIte
variable{x y:AV}{K post post':AV->St->Prop}{s:Bool}{p:Bool->Prop}{a z za zb:Int}{args args' l:List AV}{xs:List Nat}{b c e es f j k m n ty:Nat}{g':Nat->AV}{r:Nat->Int}{g:Nat->Nat}{A B:Nat->Nat->Int}{M M':Nat->Prop}{S S' S0 S1:St}{v:Value}{w:World}{X:dH}
def nb(z:Int)(k:Nat):Prop:=z.natAbs<2^k
theorem nb.mono(h:nb z k)(a:k<=j):nb z j:=cH h (cf om a)
theorem nb.nl{N:Nat}(h:nb z k)(a:k<=32*N):nl z.natAbs<=N:=by
 rw[jt,wV];exact h.mono a
theorem nb.add{b:Int}(c:nb a k)(d:nb b k):nb (a+b) (k+1):=by
 unfold nb at *;rw[bM];omega
theorem nb.sub{b:Int}(c:nb a k)(d:nb b k):nb (a-b) (k+1):=by
 unfold nb at *;rw[bM];omega
theorem nb.mul{b:Int}(c:nb a k)(d:nb b j):nb (a*b) (k+j):=by
 unfold nb at *;rw[Int.natAbs_mul,fE];exact Nat.mul_lt_mul_of_lt_of_lt c d
theorem nb.neg(b:nb a k):nb (-a) k:=by unfold nb at *;omega
theorem nb.zero(k:Nat):nb 0 k:=jQ om
theorem nb.one(h:0<k):nb 1 k:=cH (by decide:1<2^1) (cf om h)
theorem nb.of_le{b:Int}(h:a.natAbs<=b.natAbs)(c:nb b k):nb a k:=Nat.lt_of_le_of_lt h c
theorem Nr(h:∀va vb B w,B<=w.heap.size->ed w B va za->ed w B vb zb->Calls ah f #[va,vb] w (dh w z)):PF f [.big za,.big zb] (.big z):=z8.pf rfl (L8 h)
theorem pf1(h:∀va B w,B<=w.heap.size->ed w B va za->Calls ah f #[va] w (dh w z)):PF f [.big za] (.big z):=z8.pf rfl (L9 h)
theorem pf1i{k:IntKind}(h:∀va B w,B<=w.heap.size->ed w B va za->Calls ah f #[va] w fun e w'=>e=.returned (.int k z)/\Below w.heap.size w w'):PF f [.big za] (.int k z):=by
 intro w vs a
 match vs,a with
 | [va],a =>
  simp only[a6,bB]at a;refine(h va w.heap.size w (af _) a.1).mono ?_;rintro e w' ⟨rfl,b⟩;exact⟨_,rfl,by simp[bB],cG.below b⟩
 | [],a=>simp[a6]at a
 | _::_::_,a=>simp[a6]at a
theorem pf2i{k:IntKind}(h:∀va vb B w,B<=w.heap.size->ed w B va za->ed w B vb zb->Calls ah f #[va,vb] w fun e w'=>e=.returned (.int k z)/\Below w.heap.size w w'):PF f [.big za,.big zb] (.int k z):=by
 intro w vs a
 match vs,a with
 | [va,vb],a =>
  simp only[a6,bB]at a;refine(h va vb w.heap.size w (af _) a.1 a.2.1).mono ?_;rintro e w' ⟨rfl,b⟩;exact⟨_,rfl,by simp[bB],cG.below b⟩
 | [],a=>simp[a6]at a
 | [_],a=>simp[a6]at a
 | _::_::_::_,a=>simp[a6]at a
theorem E9(h:∀w,Calls ah f #[.int .i64 z] w (dh w z)):PF f [.int .i64 z] (.big z):=by
 intro w vs a
 match vs,a with
 | [va],a =>
  simp only[a6,bB]at a;obtain⟨rfl,_⟩:=a;refine(h w).mono ?_;rintro e w' ⟨v,rfl,b,c⟩;exact⟨v,rfl,by simpa [bB]using b,cG.below c⟩
 | [],a=>simp[a6]at a
 | _::_::_,a=>simp[a6]at a
theorem Fa(h:∀va B w,B<=w.heap.size->ed w B va z->Calls ah f #[va] w fun e w'=>e=.returned (.tuple #[.int .i64 z,.bool true])/\Below w.heap.size w w'):PF f [.big z] (.tup [.int .i64 z,.bool true]):=by
 intro w vs a
 match vs,a with
 | [va],a =>
  simp only[a6,bB]at a;refine(h va w.heap.size w (af _) a.1).mono ?_;rintro e w' ⟨rfl,b⟩;exact⟨_,rfl,by simp only[bB];exact⟨[_,_],rfl,by simp[a6,bB]⟩,cG.below b⟩
 | [],a=>simp[a6]at a
 | _::_::_,a=>simp[a6]at a
theorem lC{b:Int}(c:nb a k)(d:nb b k)(h:k<=8589934592):PF 133 [.big a,.big b] (.big (a+b)):=Nr fun va vb B w e f g=>Lr va vb a b B w e f g (c.nl om) (d.nl om)
theorem me{b:Int}(c:nb a k)(d:nb b k)(h:k<=8589934592):PF 192 [.big a,.big b] (.big (a-b)):=Nr fun va vb B w e f g=>Lc va vb a b B w e f g (c.nl om) (d.nl om)
theorem fV{b:Int}(c:nb a k)(d:nb b k)(h:k<=8589934592):PF 83 [.big a,.big b] (.big (a*b)):=Nr fun va vb B w e f g=>Li va vb a b B w e f g (c.nl om) (d.nl om)
theorem rG(b:nb a k)(e:k<=8589934592):PF 193 [.big a] (.big (-a)):=pf1 fun va B w c d=>Lh va a B w c d (b.nl om)
theorem qK(b:nb a k)(e:k<=8589934592):PF 157 [.big a] (.big a):=pf1 fun va B w c d=>yZ va a B w c d (b.nl om)
theorem jp(b:nb a k)(e:k<=8589934592):PF 191 [.big a] (.int .i64 a.sign):=pf1i fun va B w c d=>yh va a B w c d (b.nl om)
theorem pZ{b:Int}(c:nb a k)(d:nb b k)(h:k<=8589934592):PF 159 [.big a,.big b] (.int .i64 (ka a b)):=pf2i fun va vb B w e f g=>Ln va vb a b B w e f g (c.nl om) (d.nl om)
theorem fQ(b:-9223372036854775808<=a)(c:a<=9223372036854775807):PF 81 [.int .i64 a] (.big a):=E9 fun w=>GK a w b c
theorem pR(h:iF a):PF 84 [.big a] (.tup [.int .i64 a,.bool true]):=Fa fun va B w b c=>GR va a B w b c h
theorem mF{b:Int}(d:nb a k)(f:nb b k)(p:k<=8589934592)(g:b≠0)(i:a.natAbs<b.natAbs∨nb a 64):PF 82 [.big a,.big b] (.tup [.big (a/b),.big (a%b),.bool true]):=by
 intro w vs c
 match vs,c with
 | [va,vb],c =>
  simp only[a6,bB]at c;refine(yw va vb a b w.heap.size w (af _) c.1 c.2.1 (d.nl om) (f.nl om) g (i.imp id fun h=>bn (h.nl om))).mono ?_;rintro e w' ⟨j,l,rfl,m,n,o⟩;exact⟨_,rfl,by simp only[bB];exact⟨[j,l,.bool true],rfl,by simp only[a6,bB];exact⟨m,n,trivial,trivial⟩⟩,cG.below o⟩
 | [],c=>simp[a6]at c
 | [_],c=>simp[a6]at c
 | _::_::_::_,c=>simp[a6]at c
theorem o0{b:Int}(f:nb a k)(d:nb b 32)(n:k<=1000000)(g:b≠0):PF 82 [.big a,.big b] (.tup [.big (a/b),.big (a%b),.bool true]):=by
 intro w vs c
 match vs,c with
 | [va,vb],c =>
  simp only[a6,bB]at c;refine(yw va vb a b w.heap.size w (af _) c.1 c.2.1 (f.nl om) (d.nl om) g (.inr (.inr (d.nl om)))).mono ?_;rintro e w' ⟨h,i,rfl,j,l,m⟩;exact⟨_,rfl,by simp only[bB];exact⟨[h,i,.bool true],rfl,by simp only[a6,bB];exact⟨j,l,trivial,trivial⟩⟩,cG.below m⟩
 | [],c=>simp[a6]at c
 | [_],c=>simp[a6]at c
 | _::_::_::_,c=>simp[a6]at c
theorem zD(h:iF a):PF 72 [.big a] (.tup [.int .i64 a,.bool true]):=Fa fun va B w b c=>BG va a B w b c h
theorem sw{b:Int}(c:nb a k)(d:nb b k)(h:k<=8589934592):PF 87 [.big a,.big b] (.big (a+b)):=Nr fun va vb B w e f g=>Af va vb a b B w e f g (c.nl om) (d.nl om)
theorem AB{b:Int}(c:nb a k)(d:nb b k)(h:k<=8589934592):PF 66 [.big a,.big b] (.big (a-b)):=Nr fun va vb B w e f g=>GI va vb a b B w e f g (c.nl om) (d.nl om)
theorem jr{b:Int}(c:nb a k)(d:nb b k)(h:k<=8589934592):PF 67 [.big a,.big b] (.big (a*b)):=Nr fun va vb B w e f g=>GN va vb a b B w e f g (c.nl om) (d.nl om)
theorem E0(b:nb a k)(e:k<=8589934592):PF 68 [.big a] (.big (-a)):=pf1 fun va B w c d=>z9 va a B w c d (b.nl om)
theorem AF(b:nb a k)(e:k<=8589934592):PF 45 [.big a] (.big a.natAbs):=pf1 fun va B w c d=>GX va a B w c d (b.nl om)
theorem Ch(b:nb a k)(e:k<=8589934592):PF 126 [.big a] (.big a):=pf1 fun va B w c d=>ue va a B w c d (b.nl om)
theorem lQ(b:nb a k)(e:k<=8589934592):PF 64 [.big a] (.int .i64 a.sign):=pf1i fun va B w c d=>rU va a B w c d (b.nl om)
theorem sv{b:Int}(c:nb a k)(d:nb b k)(h:k<=8589934592):PF 30 [.big a,.big b] (.int .i64 (ka a b)):=pf2i fun va vb B w e f g=>GW va vb a b B w e f g (c.nl om) (d.nl om)
theorem gU(b:-9223372036854775808<=a)(c:a<=9223372036854775807):PF 29 [.int .i64 a] (.big a):=E9 fun w=>C8 a w b c

def cY(S S':St):Prop:=∀k X,S k=some X->S' k=some X
theorem cY.refl(S:St):cY S S:=fun _ _ h=>h
theorem cY.upd(h:cY S S'){b:Nat}(c:S b=ae)(X:dH):cY S (S'.upd b X):=fun k Y a=>by
 have d:k≠b:=by rintro rfl;rw[c]at a;cases a
 rw[aH d];exact h k Y a
theorem cY.none(h:cY S S'){b:Nat}(a:S' b=ae):S b=ae:=by
 cases e:S b with
 | none=>rfl
 | some X=>rw[h b X e]at a;cases a
theorem cY.trans{S'':St}(h:cY S S')(k:cY S' S''):cY S S'':=fun b X a=>k b X (h b X a)
theorem cY.has(h:cY S S'){b ty es n:Nat}{g:Nat->AV}(a:aR S b ty es n g):aR S' b ty es n g:=by
 obtain⟨g',c,d⟩:=a;exact⟨g',h b _ c,d⟩
def bT:AV->Nat
 | .int _ k=>k.toNat
 | _=>0
def cE(S:St)(b ty es:Nat)(z:AV):Prop:=∃g,S b=some ⟨ty,es,1,g⟩/\g 0=z
theorem cE.upd{z:AV}(h:cE S b ty es z)(a:b≠c)(X:dH):cE (S.upd c X) b ty es z:=by
 obtain⟨g,d,e⟩:=h;exact⟨g,by rw[aH a];exact d,e⟩
theorem cE.new{g:Nat->AV}{z:AV}(h:g 0=z):cE (S.upd b ⟨ty,es,1,g⟩) b ty es z:=⟨g,bR,h⟩
theorem cE.set{g:Nat->AV}{z:AV}:cE (S.upd b ⟨ty,es,1,aL g 0 z⟩) b ty es z:=⟨_,bR,by simp[aL]⟩
theorem cE.fresh{z:AV}(h:cE S b ty es z)(a:S c=ae):b≠c:=by
 rintro rfl;obtain⟨g,d,_⟩:=h;rw[d]at a;cases a
theorem ag(h:S.upd b X c=ae):c≠b/\S c=ae:=by
 simp only[St.upd]at h;by_cases e:c=b
 ·rw[if_pos e]at h;cases h
 ·rw[if_neg e]at h;exact⟨e,h⟩
theorem pL{f:Nat->Int}(h:∀j,j<n->nb (f j) k)(d:n<=1024):∀m,m<=n->nb (aq m f) (k+10):=by
 have key:∀m,m<=n->(aq m f).natAbs<=m*(2^k-1):=by
  intro m
  induction m with
  | zero=>intro _;simp[aq]
  | succ m ih =>
   intro a;have c:=ih om;have b:=h m om;unfold nb at b;simp only[aq];rw[Nat.succ_mul];omega
 intro m a;have c:=key m a;have b:m*(2^k-1)<=1024*(2^k-1):=Nat.mul_le_mul_right _ om;have e:0<2^k:=jQ om;unfold nb;rw[fE];omega
theorem Mz(n:Nat)(x y:Nat->Int)(k:Nat)(l:∀j,j<n->nb (x j) k)(m:∀j,j<n->nb (y j) k)(A:k<=1000000000)(B:n<=1000):PF 213 [bA n x,bA n y] (.big (aq n fun j=>x j*y j)):=by
 refine PF.of_spec (ak func213 rfl 26 ntmps213 kr sm (by simp[results213]) ?_)
 rw[aF,results213];simp -dsimp only[go_sem,bA];refine au.intro fun b C=>?_;simp -dsimp only[go_sem];refine au.intro fun c r=>?_;have d:b≠c:=ai (ag r).1;simp -dsimp only[go_sem];have s:=pL (f:=fun j=>x j*y j) (k:=k+k) (fun j i=>(l j i).mul (m j i)) (om:n<=1024)
 refine aI (fun O S=>∃j:Nat,j<=n/\O 0=bA n x/\O 1=bA n y/\O 4=.ptr 2 b 0/\O 5=.ptr 2 c 0/\O 9=.int .i64 n/\O 10=.int .i64 j/\cE S b 50 2 (.big 0)/\cE S c 50 2 (.big (aq j fun j=>x j*y j))) (fun O S=>n-bT (O 10)) ?_ ?_
 ·simp -dsimp only[go_sem,bA];exact⟨0,om,rfl,((cE.new rfl).upd d _).upd d _,cE.set⟩
 ·rintro O S ⟨j,i,t,u,o,p,q,e,v,w⟩;obtain⟨gb,g,eb⟩:=v;obtain⟨gc,h,ec⟩:=w;by_cases a:j<n
  ·simp -dsimp only[go_sem,o,p,q,e,g,h,bT,bA,a];refine aP 11 kr ?_
   have z:IntKind.i64.wrap ((j:Int)+1)=((j+1:Nat):Int):=dV om om;simp -dsimp only[go_sem,t,u,o,p,q,e,h,bA,a,ec,z];exact⟨.big (x j*y j),(jr (l j a) (m j a) om).pure',.big ((aq j fun j=>x j*y j)+x j*y j),(sw (s j i) (((l j a).mul (m j a)).mono om) om).pure',trivial,
    ⟨j+1,om,rfl,cE.upd ⟨gb,g,eb⟩ d _,cE.set⟩,om⟩
  ·simp -dsimp only[go_sem,o,p,q,e,g,h,ec,a,bT,bA];obtain rfl:j=n:=om
   exact VR.mf rfl

theorem dlt{b:Int}(h:¬a<b):decide (a<b)=false:=by simpa using h
theorem AQ{w:World}{M M':Nat->Prop}:∀(l:List AV) (vs:List Value),(∀x∈l,qN x=true)->a6 w M l vs->a6 w M' l vs
 | [],[],_,_=>by simp[a6]
 | x::l,v::vs,h,a=>by
  simp only[a6]at a ⊢;exact⟨qM (h x (List.mem_cons_self ..)) a.1,AQ l vs (fun y b=>h y (List.mem_cons_of_mem _ b)) a.2⟩
 | [],_::_,_,a=>by simp[a6]at a
 | _::_,[],_,a=>by simp[a6]at a
theorem VR.tup(h:∀x∈l,qN x=true):VR S (.tup l) (.tup l):=by
 intro w v d a;simp only[bB]at a ⊢;obtain⟨vs,b,c⟩:=a;refine⟨vs,b,?_⟩;exact AQ l vs h c
theorem sk(n m:Nat)(A:Nat->Nat->Int)(l:1<=n)(o:n<=16)(p:1<=m)(q:m<=16):PF 104 [aV n m A] (.tup [.int .i64 n,.int .i64 m,.bool true]):=by
 refine PF.of_spec (ak func104 rfl 45 ntmps104 kr sm (by simp[results104]) ?_)
 rw[aF,results104];have h:decide ((n:Int)<1)=false:=dlt om;have i:decide ((16:Int)<n)=false:=dlt om;have f:decide ((m:Int)<1)=false:=dlt om;have g:decide ((16:Int)<m)=false:=dlt om;simp -dsimp only[go_sem,aV,bA,h,i];refine aI (fun O S=>∃j:Nat,j<=n/\O 0=aV n m A/\O 15=aV n m A/\O 16=.int .i64 n/\O 17=.int .i64 j) (fun O S=>n-bT (O 17)) ?_ ?_
 ·simp -dsimp only[go_sem,aV,bA];exact⟨0,om,rfl⟩
 ·rintro O S ⟨j,r,e,a,b,c⟩;by_cases d:j<n
  ·have k:IntKind.i64.wrap ((j:Int)+1)=((j+1:Nat):Int):=dV om om;simp -dsimp only[go_sem,e,a,b,c,aV,bA,f,g,k,d,bT];exact⟨om,⟨j+1,om,rfl⟩,om⟩
  ·simp -dsimp only[go_sem,e,a,b,c,aV,bA,f,g,d];refine aP 9 kr ?_
   simp -dsimp only[go_sem,e,aV,bA]
   repeat refine an ?_
   exact VR.tup (by simp[qN])
theorem zu(n:Nat)(A:Nat->Nat->Int)(a:1<=n)(b:n<=16):PF 115 [aV n n A] (.tup [.int .i64 n,.bool true]):=by
 refine PF.of_spec (ak func115 rfl 21 ntmps115 kr sm (by simp[results115]) ?_)
 rw[aF,results115];simp -dsimp only[go_sem];refine(sk n n A a b a b).call ?_;simp -dsimp only[go_sem];exact VR.tup (by simp[qN])

def ir(S0 S:St)(b:Nat)(g:Nat->Nat)(n m:Nat)(A:Nat->Nat->Int):Prop:=dd S b g n m A/\cY S0 S/\S0 b=ae/\∀i,i<n->S0 (g i)=ae
def dK(A:Nat->Nat->Int)(i j:Nat)(z:Int):Nat->Nat->Int:=fun a c=>if a=i/\c=j then z else A a c
theorem dd.outer_ne(h:dd S b g n m A){i:Nat}(a:i<n):b≠g i:=aR.ne h.outer (h.row i a) om
theorem dd.set(h:dd S b g n m A){i j:Nat}{z:Int}{g':Nat->AV}(k:i<n)(o:S (g i)=some ⟨50,2,m,g'⟩) :
  dd (S.upd (g i) ⟨50,2,m,aL g' j (.big z)⟩) b g n m (dK A i j z):=by
 refine⟨h.outer.upd (h.outer_ne k) _,fun a d=>?_,h.inj⟩;by_cases e:a=i
 ·subst e;obtain⟨s,l,p⟩:=h.row a d;rw[o]at l;cases l;refine aR.here fun c q=>?_;have:=p c q;simp only[aL,dK]
  grind
 ·have f:g a≠g i:=fun r=>e (h.inj a i d k r);refine((h.row a d).upd f _).congr fun c _=>?_;simp[dK,e]
theorem ir.set(h:ir S0 S b g n m A){i j:Nat}{z:Int}{g':Nat->AV}(a:i<n)(c:S (g i)=some ⟨50,2,m,g'⟩) :
  ir S0 (S.upd (g i) ⟨50,2,m,aL g' j (.big z)⟩) b g n m (dK A i j z):=⟨h.1.set a c,h.2.1.upd (h.2.2.2 i a) _,h.2.2.1,h.2.2.2⟩
theorem dd.congr(h:dd S b g n m A)(c:∀i j,i<n->j<m->A i j=B i j):dd S b g n m B :=
 ⟨h.outer,fun i a=>(h.row i a).congr fun j d=>by rw[c i j a d],h.inj⟩
theorem ir.congr(h:ir S0 S b g n m A)(a:∀i j,i<n->j<m->A i j=B i j):ir S0 S b g n m B:=⟨h.1.congr a,h.2⟩
theorem VR.tup2{x' y':AV}(c:VR S x x')(d:VR S y y'):VR S (.tup [x,y]) (.tup [x',y']):=by
 intro w v a b;simp only[bB]at b ⊢;obtain⟨vs,e,h⟩:=b;refine⟨vs,e,?_⟩
 match vs,h with
 | [u,v],h=>simp only[a6]at h ⊢;exact⟨c w u a h.1,d w v a h.2.1,trivial⟩
 | [],h=>simp[a6]at h
 | [_],h=>simp[a6]at h
 | _::_::_::_,h=>simp[a6]at h
theorem C5(S0:St)(n m:Nat)(E:n<=1000)(F:m<=1000):cL 102 [.int .i64 n,.int .i64 m] S0 (fun r S'=>∃b g,r=.sl 1 b 0 n/\ir S0 S' b g n m (fun _ _=>0)):=by
 refine ak func102 rfl 21 ntmps102 kr sm (by simp[results102]) ?_
 rw[aF,results102];simp -dsimp only[go_sem];refine⟨om,au.intro fun b t=>?_⟩
 refine aI (fun O S=>∃(k:Nat) (g:Nat->Nat),k<=n/\O 1=.int .i64 m/\O 5=.sl 1 b 0 n/\O 10=.int .i64 n/\O 11=.int .i64 k /\
  cY S0 S/\aR S b 59 1 n (fun i=>if i<k then .sl 2 (g i) 0 m else .nil)/\(∀i,i<k->ic S (g i) m (fun _=>0)/\S0 (g i)=ae)/\∀i j,i<k->j<k->g i=g j->i=j) (fun O S=>n-bT (O 11)) ?_ ?_
 ·simp -dsimp only[go_sem];exact⟨0,om,rfl,(cY.refl S0).upd t _,fun _=>0,aR.here fun i _=>by simp,fun i a=>om,fun i j a=>om⟩
 ·rintro O S ⟨k,g,G,w,x,f,h,q,y,l,z⟩;by_cases o:k<n
  ·have A:IntKind.i64.wrap ((k:Int)+1)=((k+1:Nat):Int):=dV om om;simp -dsimp only[go_sem,w,x,f,h,o,A];refine⟨om,au.intro fun c d=>?_⟩
   obtain⟨g',u,v⟩:=y;have p:b≠c:=by rintro rfl;rw[u]at d;cases d
   simp -dsimp only[go_sem,p,u,bT]
   repeat refine an ?_
   refine⟨⟨k+1,om,rfl,(q.upd (q.none d) _).upd t _,fun i=>if i=k then c else g i,aR.here fun i a=>?_,fun i a=>?_,fun i j a H e=>?_⟩,om⟩
   ·have:=v i a;grind [aL]
   ·by_cases e:i=k
    ·simp only[e,if_true];exact⟨(aR.here fun _ _=>rfl).upd (ai p) _,q.none d⟩
    ·simp only[e,if_false];obtain⟨s,B⟩:=l i om;exact⟨(s.upd (aR.fresh s d) _).upd (fun e=>by rw[e]at s;exact aR.ne (aR.of u) s om rfl) _,B⟩
   ·by_cases C:i=k<;>by_cases D:j=k<;>simp only[C,D,if_true,if_false]at e ⊢
    ·exact absurd e.symm (aR.fresh (l j om).1 d)
    ·exact absurd e (aR.fresh (l i om).1 d)
    ·exact z i j om om e
  ·simp -dsimp only[go_sem,w,x,f,h,o];obtain rfl:k=n:=om
   exact⟨b,rfl,g,⟨y.congr fun i a=>by rw[if_pos a],fun i a=>(l i a).1,z⟩,q,t,fun i a=>(l i a).2⟩

theorem aM(h:k<1000000):IntKind.i64.wrap ((k:Int)+1)=((k+1:Nat):Int):=dV om om
def M3(z:Int):Prop:=-9223372036854775808<=z/\z<=9223372036854775807
theorem tz(S0:St)(n m:Nat)(A:Nat->Nat->Int)(K:1<=n)(L:n<=16)(M:1<=m)(N:m<=16)(w:∀i j,i<n->j<m->M3 (A i j)) :
  cL 55 [ax n m A] S0 (fun r S'=>∃b g,r=.tup [.sl 1 b 0 n,.bool true]/\ir S0 S' b g n m A):=by
 refine ak func55 rfl 78 ntmps55 kr sm (by simp[results55]) ?_
 rw[aF,results55];have y:decide ((n:Int)<1)=false:=dlt om;have z:decide ((16:Int)<n)=false:=dlt om;have B:decide ((m:Int)<1)=false:=dlt om;have C:decide ((16:Int)<m)=false:=dlt om;simp -dsimp only[go_sem,ax,aX,y,z];refine aI (fun O S=>∃k:Nat,k<=n/\O 0=ax n m A/\O 17=ax n m A/\O 18=.int .i64 n/\O 19=.int .i64 k/\S=S0) (fun O S=>n-bT (O 19)) ?_ ?_
 ·simp -dsimp only[go_sem,ax,aX];exact⟨0,om,rfl⟩
 ·rintro O S ⟨k,D,f,s,t,u,rfl⟩;by_cases a:k<n
  ·simp -dsimp only[go_sem,ax,aX,f,s,t,u,a,aM (om:k<1000000),B,C,bT]
   exact⟨om,⟨k+1,om,rfl⟩,om⟩
  ·simp -dsimp only[go_sem,ax,aX,f,s,t,u,a]
   repeat refine an ?_
   refine(C5 S n m om om).mono ?_;rintro r S1 ⟨b,g,rfl,E⟩;simp -dsimp only[go_sem,ax,aX,f];refine aI (fun O S'=>∃k:Nat,k<=n/\O 0=ax n m A/\O 6=.sl 1 b 0 n/\O 49=.int .i64 n/\O 50=.int .i64 k/\ir S S' b g n m (fun i j=>if i<k then A i j else 0)) (fun O S=>n-bT (O 50)) ?_ ?_
   ·simp -dsimp only[go_sem,ax,aX,f];exact⟨0,om,rfl,E.congr sm⟩
   ·rintro O S1 ⟨k,D,f,l,d,e,o⟩;by_cases a:k<n
    ·simp -dsimp only[go_sem,ax,aX,f,l,d,e,a];refine aI (fun O S'=>∃j:Nat,j<=m/\O 0=ax n m A/\O 6=.sl 1 b 0 n/\O 7=.int .i64 k/\O 49=.int .i64 n/\O 50=.int .i64 k/\O 57=.int .i64 m/\O 58=.int .i64 j/\ir S S' b g n m (fun i c=>if i<k∨(i=k/\c<j)then A i c else 0)) (fun O S=>m-bT (O 58)) ?_ ?_
     ·simp -dsimp only[go_sem,ax,aX,f,l,d,e];exact⟨0,om,rfl,o.congr sm⟩
     ·rintro O S2 ⟨j,F,f,l,G,d,e,p,q,o⟩;by_cases h:j<m
      ·obtain⟨P,H,I⟩:=o.1.outer;obtain⟨Q,x,R⟩:=o.1.row k a;have v:=I k a;simp -dsimp only[go_sem,ax,aX,f,l,d,e,p,q,h];refine aP 13 kr ?_
       simp -dsimp only[go_sem,ax,aX,f,l,G,d,e,p,q,a,h,H,x,v,aM (om:j<1000000)]
       repeat refine an ?_
       refine⟨_,(gU (w k j a h).1 (w k j a h).2).pure',om,trivial,⟨j+1,om,rfl,(o.set a x).congr fun i c _ _=>?_⟩,by simp only[bT,Int.toNat_natCast];omega⟩
       simp only[dK]
       grind
      ·simp -dsimp only[go_sem,ax,aX,f,l,d,e,p,q,h,bT,aM (om:k<1000000)]
       refine⟨⟨k+1,om,rfl,o.congr fun i c J T=>?_⟩,om⟩
       grind
    ·simp -dsimp only[go_sem,ax,aX,f,l,d,e,a];exact⟨b,rfl,g,o.congr fun i j J F=>by rw[if_pos om]⟩
theorem ir.vr(h:ir S0 S b g n m A):VR S (.sl 1 b 0 n) (aV n m A):=h.1.vr
theorem M4(S0:St)(n m:Nat)(A:Nat->Nat->Int)(a:1<=n)(c:n<=16)(d:1<=m)(e:m<=16)(f:∀i j,i<n->j<m->M3 (A i j)) :
  cL 27 [ax n m A] S0 (fun r S'=>∃b g,r=.sl 1 b 0 n/\ir S0 S' b g n m A):=by
 refine ak func27 rfl 11 ntmps27 kr sm (by simp[results27]) ?_
 rw[aF,results27];simp -dsimp only[go_sem];refine(tz S0 n m A a c d e f).mono ?_;rintro r S1 ⟨b,g,rfl,h⟩;simp -dsimp only[go_sem];exact⟨b,rfl,g,h⟩
theorem Jb(n m:Nat)(A:Nat->Nat->Int)(a:1<=n)(c:n<=16)(d:1<=m)(f:m<=16)(k:∀i j,i<n->j<m->M3 (A i j)):PF 27 [ax n m A] (aV n m A) :=
 PF.of_spec ((M4 _ n m A a c d f k).mono fun r S' ⟨b,g,e,h⟩=>e▸h.vr)

def qd:AV->Bool
 | .int _ _=>true
 | .bool _=>true
 | .big _=>true
 | .nil=>true
 | .sl _ _ _ _=>true
 | .ptr _ _ _=>true
 | _=>false
def MD:AV->Bool
 | .tup l=>l.all qd
 | x=>qd x
theorem p9(h:qd x=true)(a:bB w M x v):bB w M' x v:=by
 cases x<;>simp only[qd,bQ]at h<;>simpa only[bB]using a
theorem CT{w:World}{M M':Nat->Prop}:∀(l:List AV) (vs:List Value),l.all qd=true->a6 w M l vs->a6 w M' l vs
 | [],[],_,_=>by simp[a6]
 | x::l,v::vs,h,a=>by
  simp only[a6,List.all_cons,Bool.and_eq_true]at h a ⊢;exact⟨p9 h.1 a.1,CT l vs h.2 a.2⟩
 | [],_::_,_,a=>by simp[a6]at a
 | _::_,[],_,a=>by simp[a6]at a
theorem vV(h:MD x=true)(a:bB w M x v):bB w M' x v:=by
 cases x<;>first
  | (simp only[MD]at h;exact p9 h a)
  | (simp only[MD]at h;simp only[bB]at a ⊢;obtain⟨vs,e,b⟩:=a;exact⟨vs,e,CT _ _ h b⟩)
def St.join(S S1:St):St:=fun b=>match S b with
 | some X=>some X
 | ae=>S1 b
def yz(S:St):Prop:=∀b X,S b=some X->∀j,j<X.n->qd (X.g j)=true
theorem cL.frame(h:cL f args' St.none post)(B:dT S args args')(C:∀r S1,post r S1->MD r=true/\yz S1) :
  cL f args S (fun r S'=>∃S1,post r S1/\(∀b X,S b=some X->S1 b=ae)/\S'=S.join S1):=by
 intro w vs i D;refine(h w vs (fun b x E=>by simp[St.none]at E) (a6.turn (fun _ _ g=>absurd rfl g) _ _ (vZ i _ _ _ B D))).mono ?_
 rintro e w' ⟨v,r,S1,rfl,y,F,G,c⟩;obtain⟨H,I⟩:=C r S1 y;have m:∀b X,S b=some X->b<w.heap.size:=fun b X a=>by obtain⟨cs,d,_⟩:=i b X a;exact dW d
 have z:∀b,b<w.heap.size->S1 b=ae:=fun b J=>by
  cases e:S1 b with
  | none=>rfl
  | some Y=>exact absurd (c.own b J (by simp[St.dom,e])) (by simp[St.dom,St.none])
 have A:cG S.dom (S.join S1).dom w w':=⟨c.os,c.tape,c.output,c.size,fun k g _=>c.keep k g (by simp[St.dom,St.none]),c.shape,fun k g n=>by
  simp only[St.dom,St.join]at n ⊢
  cases e:S k with
  | none=>rw[e]at n;exact absurd (z k g) n
  | some X=>simp⟩
 refine⟨v,r,S.join S1,rfl,⟨S1,y,fun b X a=>z b (m b X a),rfl⟩,vV H F,?_,A⟩;intro b X a;simp only[St.join]at a
 cases e:S b with
 | some Y =>
  rw[e]at a;cases a;obtain⟨cs,d,o,p,q⟩:=i b X e;refine⟨cs,by rw[c.keep b (dW d) (by simp[St.dom,St.none])];exact d,o,fun j l=>?_,q⟩
  obtain⟨u,s,t⟩:=p j l;exact⟨u,s,bB.grow i.noU A _ _ t⟩
 | none =>
  rw[e]at a;obtain⟨cs,d,o,p,q⟩:=G b X a;refine⟨cs,d,o,fun j l=>?_,q⟩;obtain⟨u,s,t⟩:=p j l;exact⟨u,s,p9 (I b X a j l) t⟩
theorem lU(S S1:St):cY S (S.join S1):=fun k X h=>by simp[St.join,h]
theorem oY(a:∀b X,S b=some X->S1 b=ae){b:Nat}{X:dH}(h:S1 b=some X):S.join S1 b=some X/\S b=ae:=by
 cases e:S b with
 | some Y=>rw[a b Y e]at h;cases h
 | none=>exact⟨by simp[St.join,e,h],rfl⟩
theorem aR.join(a:∀b X,S b=some X->S1 b=ae){b ty es n:Nat}{g:Nat->AV}(h:aR S1 b ty es n g):aR (S.join S1) b ty es n g/\S b=ae:=by
 obtain⟨g',c,d⟩:=h;exact⟨⟨g',(oY a c).1,d⟩,(oY a c).2⟩
theorem dd.join(a:∀b X,S b=some X->S1 b=ae){b:Nat}{g:Nat->Nat}{n m:Nat}{A:Nat->Nat->Int}(h:dd S1 b g n m A):ir S (S.join S1) b g n m A :=
 ⟨⟨(h.outer.join a).1,fun i c=>((h.row i c).join a).1,h.inj⟩,lU S S1,(h.outer.join a).2,fun i c=>((h.row i c).join a).2⟩
theorem cL.less(h:cL f args S post)(c:∀r S',post r S'->∃S'',(∀b X,S'' b=some X->S' b=some X)/\post' r S''):cL f args S post':=by
 intro w vs d g;refine(h w vs d g).mono ?_;rintro e w' ⟨v,r,S1,rfl,i,j,l,m⟩;obtain⟨S2,n,o⟩:=c r S1 i;obtain⟨p,a⟩:=l.less n;exact⟨v,r,S2,rfl,o,bB.turn (fun k _ q=>a k q) _ _ j,p,m.weaken a⟩
def cZ(S:St)(b:Nat)(g:Nat->Nat)(n:Nat):St:=fun k=>if k=b then S k else if ∃i,i<n/\k=g i then S k else ae
theorem fU(S:St)(b:Nat)(g:Nat->Nat)(n:Nat):∀c X,cZ S b g n c=some X->S c=some X:=by
 intro c X h;unfold cZ at h;split at h
 ·exact h
 ·split at h
  ·exact h
  ·cases h
theorem dd.only(h:dd S b g n m A):dd (cZ S b g n) b g n m A/\yz (cZ S b g n):=by
 refine⟨⟨?_,fun i k=>?_,h.inj⟩,fun c X f j l=>?_⟩
 ·obtain⟨g',a,d⟩:=h.outer;exact⟨g',by simp[cZ,a],d⟩
 ·obtain⟨g',a,d⟩:=h.row i k;refine⟨g',?_,d⟩;unfold cZ;split
  ·exact a
  ·rw[if_pos ⟨i,k,rfl⟩];exact a
 ·unfold cZ at f;split at f
  ·rename_i e;subst e;obtain⟨g',a,d⟩:=h.outer;rw[f]at a;cases a;show qd (g' j)=true;rw[d j l];rfl
  ·split at f
   ·rename_i e;obtain⟨i,k,rfl⟩:=e;obtain⟨g',a,d⟩:=h.row i k;rw[f]at a;cases a;show qd (g' j)=true;rw[d j l];rfl
   ·cases f
def MF(f:Nat)(args:List AV)(n m:Nat)(A:Nat->Nat->Int):Prop:=∀S args',dT S args' args->cL f args' S (fun r S'=>∃b g,r=.sl 1 b 0 n/\ir S S' b g n m A)
def Aa(f:Nat)(args:List AV)(n m:Nat)(A:Nat->Nat->Int):Prop:=∀S args',dT S args' args->cL f args' S (fun r S'=>∃b g,r=.tup [.sl 1 b 0 n,.bool true]/\ir S S' b g n m A)
theorem MF.of(h:cL f args St.none (fun r S'=>∃b g,r=.sl 1 b 0 n/\dd S' b g n m A)):MF f args n m A:=fun S args' c=>by
 have d:cL f args St.none (fun r S'=>∃b g,r=.sl 1 b 0 n/\dd S' b g n m A/\yz S'):=h.less fun r S' ⟨b,g,e,a⟩=>⟨cZ S' b g n,fU S' b g n,b,g,e,a.only.1,a.only.2⟩;refine(d.frame c ?_).mono ?_
 ·rintro r S1 ⟨b,g,rfl,_,i⟩;exact⟨rfl,i⟩
 ·rintro r S' ⟨S1,⟨b,g,rfl,a,_⟩,j,rfl⟩;exact⟨b,g,rfl,a.join j⟩
theorem Aa.of(h:cL f args St.none (fun r S'=>∃b g,r=.tup [.sl 1 b 0 n,.bool true]/\dd S' b g n m A)):Aa f args n m A:=fun S args' c=>by
 have d:cL f args St.none (fun r S'=>∃b g,r=.tup [.sl 1 b 0 n,.bool true]/\dd S' b g n m A/\yz S'):=h.less fun r S' ⟨b,g,e,a⟩=>⟨cZ S' b g n,fU S' b g n,b,g,e,a.only.1,a.only.2⟩;refine(d.frame c ?_).mono ?_
 ·rintro r S1 ⟨b,g,rfl,_,i⟩;exact⟨rfl,i⟩
 ·rintro r S' ⟨S1,⟨b,g,rfl,a,_⟩,j,rfl⟩;exact⟨b,g,rfl,a.join j⟩
theorem MF.pf(h:MF f args n m A):PF f args (aV n m A) :=
 PF.of_spec ((h St.none args (cD _ _)).mono fun _ _ ⟨_,_,e,h⟩=>e▸h.vr)
theorem Aa.pf(h:Aa f args n m A):PF f args (.tup [aV n m A,.bool true]) :=
 PF.of_spec ((h St.none args (cD _ _)).mono fun _ _ ⟨_,_,e,h⟩=>e▸VR.tup2 h.vr (VR.mf rfl))
theorem MF.congr(h:MF f args n m A)(a:∀i j,i<n->j<m->A i j=B i j):MF f args n m B:=fun S args' c=>(h S args' c).mono fun _ _ ⟨b,g,e,d⟩=>⟨b,g,e,d.congr a⟩
theorem Bz(n m:Nat)(a:n<=1000)(c:m<=1000):MF 102 [.int .i64 n,.int .i64 m] n m (fun _ _=>0):=MF.of ((C5 _ n m a c).mono fun _ _ ⟨b,g,e,h⟩=>⟨b,g,e,h.1⟩)
theorem dT.mat(h:dd S b g n m A){l r:List AV}(a:dT S l r):dT S (.sl 1 b 0 n::l) (aV n m A::r):=⟨h.vr.va,a⟩
theorem dT.same{r:List AV}(a:dT S l r):dT S (x::l) (x::r):=⟨VA.refl S x,a⟩
theorem dT.nil:dT S [] []:=trivial

def kS(S0 S:St)(b:Nat)(g:Nat->Nat)(n m:Nat)(A:Nat->Nat->Int):Prop:=cT S b g n m A/\cY S0 S/\S0 b=ae/\∀i,i<n->S0 (g i)=ae
theorem cT.outer_ne(h:cT S b g n m A){i:Nat}(a:i<n):b≠g i:=aR.ne h.outer (h.row i a) om
theorem cT.set(h:cT S b g n m A){i j:Nat}{z:Int}{g':Nat->AV}(k:i<n)(o:S (g i)=some ⟨2,1,m,g'⟩) :
  cT (S.upd (g i) ⟨2,1,m,aL g' j (.int .i64 z)⟩) b g n m (dK A i j z):=by
 refine⟨h.outer.upd (h.outer_ne k) _,fun a d=>?_,h.inj⟩;by_cases e:a=i
 ·subst e;obtain⟨s,l,p⟩:=h.row a d;rw[o]at l;cases l;refine aR.here fun c q=>?_;have:=p c q;simp only[aL,dK]
  grind
 ·have f:g a≠g i:=fun r=>e (h.inj a i d k r);refine((h.row a d).upd f _).congr fun c _=>?_;simp[dK,e]
theorem cT.congr(h:cT S b g n m A)(c:∀i j,i<n->j<m->A i j=B i j):cT S b g n m B :=
 ⟨h.outer,fun i a=>(h.row i a).congr fun j d=>by rw[c i j a d],h.inj⟩
theorem kS.congr(h:kS S0 S b g n m A)(a:∀i j,i<n->j<m->A i j=B i j):kS S0 S b g n m B:=⟨h.1.congr a,h.2⟩
theorem cT.join(a:∀b X,S b=some X->S1 b=ae){b:Nat}{g:Nat->Nat}{n m:Nat}{A:Nat->Nat->Int}(h:cT S1 b g n m A):kS S (S.join S1) b g n m A :=
 ⟨⟨(h.outer.join a).1,fun i c=>((h.row i c).join a).1,h.inj⟩,lU S S1,(h.outer.join a).2,fun i c=>((h.row i c).join a).2⟩
theorem cT.only(h:cT S b g n m A):cT (cZ S b g n) b g n m A/\yz (cZ S b g n):=by
 refine⟨⟨?_,fun i k=>?_,h.inj⟩,fun c X f j l=>?_⟩
 ·obtain⟨g',a,d⟩:=h.outer;exact⟨g',by simp[cZ,a],d⟩
 ·obtain⟨g',a,d⟩:=h.row i k;refine⟨g',?_,d⟩;unfold cZ;split
  ·exact a
  ·rw[if_pos ⟨i,k,rfl⟩];exact a
 ·unfold cZ at f;split at f
  ·rename_i e;subst e;obtain⟨g',a,d⟩:=h.outer;rw[f]at a;cases a;show qd (g' j)=true;rw[d j l];rfl
  ·split at f
   ·rename_i e;obtain⟨i,k,rfl⟩:=e;obtain⟨g',a,d⟩:=h.row i k;rw[f]at a;cases a;show qd (g' j)=true;rw[d j l];rfl
   ·cases f
def LX(f:Nat)(args:List AV)(n m:Nat)(A:Nat->Nat->Int):Prop:=∀S args',dT S args' args->cL f args' S (fun r S'=>∃b g,r=.sl 1 b 0 n/\kS S S' b g n m A)
def zd(f:Nat)(args:List AV)(n m:Nat)(A:Nat->Nat->Int):Prop:=∀S args',dT S args' args->cL f args' S (fun r S'=>∃b g,r=.tup [.sl 1 b 0 n,.bool true]/\kS S S' b g n m A)
theorem LX.of(h:cL f args St.none (fun r S'=>∃b g,r=.sl 1 b 0 n/\cT S' b g n m A)):LX f args n m A:=fun S args' c=>by
 have d:cL f args St.none (fun r S'=>∃b g,r=.sl 1 b 0 n/\cT S' b g n m A/\yz S'):=h.less fun r S' ⟨b,g,e,a⟩=>⟨cZ S' b g n,fU S' b g n,b,g,e,a.only.1,a.only.2⟩;refine(d.frame c ?_).mono ?_
 ·rintro r S1 ⟨b,g,rfl,_,i⟩;exact⟨rfl,i⟩
 ·rintro r S' ⟨S1,⟨b,g,rfl,a,_⟩,j,rfl⟩;exact⟨b,g,rfl,a.join j⟩
theorem zd.of(h:cL f args St.none (fun r S'=>∃b g,r=.tup [.sl 1 b 0 n,.bool true]/\cT S' b g n m A)):zd f args n m A:=fun S args' c=>by
 have d:cL f args St.none (fun r S'=>∃b g,r=.tup [.sl 1 b 0 n,.bool true]/\cT S' b g n m A/\yz S'):=h.less fun r S' ⟨b,g,e,a⟩=>⟨cZ S' b g n,fU S' b g n,b,g,e,a.only.1,a.only.2⟩;refine(d.frame c ?_).mono ?_
 ·rintro r S1 ⟨b,g,rfl,_,i⟩;exact⟨rfl,i⟩
 ·rintro r S' ⟨S1,⟨b,g,rfl,a,_⟩,j,rfl⟩;exact⟨b,g,rfl,a.join j⟩
theorem dT.imat(h:cT S b g n m A){l r:List AV}(a:dT S l r):dT S (.sl 1 b 0 n::l) (ax n m A::r):=⟨h.vr.va,a⟩

def ma(i j:Nat):Int:=if i=j then 1 else 0
theorem uZ(n:Nat)(u:1<=n)(v:n<=16):Aa 111 [.int .i64 n] n n ma:=by
 refine Aa.of ?_;refine ak func111 rfl 29 ntmps111 kr sm (by simp[results111]) ?_
 rw[aF,results111];have o:¬((n:Int)<1):=om
 have p:¬((16:Int)<n):=om
 simp -dsimp only[go_sem,o,p];refine(Bz n n om om _ _ (cD _ _)).mono ?_;rintro r S1 ⟨b,g,rfl,q⟩;simp -dsimp only[go_sem];refine aI (fun O S'=>∃k:Nat,k<=n/\O 4=.sl 1 b 0 n/\O 16=.int .i64 n/\O 17=.int .i64 k/\dd S' b g n n (fun i j=>if i<k then ma i j else 0)) (fun O S=>n-bT (O 17)) ?_ ?_
 ·simp -dsimp only[go_sem];exact⟨0,om,rfl,q.1.congr sm⟩
 ·rintro O S ⟨k,w,h,d,e,f⟩;by_cases a:k<n
  ·obtain⟨x,s,t⟩:=f.outer;obtain⟨y,m,z⟩:=f.row k a;have l:=t k a;simp -dsimp only[go_sem,h,d,e,a];refine aP 6 kr ?_
   simp -dsimp only[go_sem,h,d,e,a,s,m,l,aM (om:k<1000000),bT]
   repeat refine an ?_
   refine⟨_,(gU dc dc).pure',om,trivial,⟨k+1,om,rfl,(f.set a m).congr fun i c _ _=>?_⟩,om⟩
   simp only[dK,ma]
   grind
  ·simp -dsimp only[go_sem,h,d,e,a];exact⟨b,rfl,g,f.congr fun i j A B=>by rw[if_pos om]⟩
theorem td(n m:Nat)(A:Nat->Nat->Int)(k:Nat)(u:1<=n)(v:n<=16)(w:1<=m)(x:m<=16)(y:∀i j,i<n->j<m->nb (A i j) k)(z:k<=8589934592):Aa 100 [aV n m A] m n (fun i j=>A j i):=by
 refine Aa.of ?_;refine ak func100 rfl 51 ntmps100 kr sm (by simp[results100]) ?_
 rw[aF,results100];simp -dsimp only[go_sem];refine(sk n m A u v w x).call ?_;simp -dsimp only[go_sem];refine(Bz m n om om _ _ (cD _ _)).mono ?_;rintro r S1 ⟨b,g,rfl,B⟩;simp -dsimp only[go_sem,aV,bA];refine aI (fun O S'=>∃k:Nat,k<=n/\O 0=aV n m A/\O 7=.sl 1 b 0 m/\O 22=.int .i64 n/\O 23=.int .i64 k/\dd S' b g m n (fun i j=>if j<k then A j i else 0)) (fun O S=>n-bT (O 23)) ?_ ?_
 ·simp -dsimp only[go_sem,aV,bA];exact⟨0,om,rfl,B.1.congr sm⟩
 ·rintro O S ⟨k,z,h,l,a,d,o⟩;by_cases f:k<n
  ·simp -dsimp only[go_sem,h,l,a,d,f,aV,bA];refine aI (fun O S'=>∃j:Nat,j<=m/\O 0=aV n m A/\O 7=.sl 1 b 0 m/\O 8=.int .i64 k/\O 22=.int .i64 n/\O 23=.int .i64 k/\O 30=.int .i64 m/\O 31=.int .i64 j/\dd S' b g m n (fun i c=>if c<k∨(c=k/\i<j)then A c i else 0)) (fun O S=>m-bT (O 31)) ?_ ?_
   ·simp -dsimp only[go_sem,h,l,a,d,aV,bA];exact⟨0,om,rfl,o.congr sm⟩
   ·rintro O S ⟨j,C,h,l,D,a,d,p,q,o⟩;by_cases e:j<m
    ·obtain⟨H,E,F⟩:=o.outer;obtain⟨I,t,J⟩:=o.row j e;have s:=F j e;simp -dsimp only[go_sem,h,l,a,d,p,q,e,aV,bA];refine aP 13 kr ?_
     simp -dsimp only[go_sem,h,l,D,a,d,p,q,e,f,aV,bA,E,t,s,aM (om:j<1000000),bT]
     repeat refine an ?_
     refine⟨_,(Ch (y k j f e) om).pure',om,trivial,⟨j+1,om,rfl,(o.set e t).congr fun i c _ _=>?_⟩,om⟩
     simp only[dK]
     grind
    ·simp -dsimp only[go_sem,h,l,a,d,p,q,e,aV,bA,aM (om:k<1000000),bT]
     refine⟨⟨k+1,om,rfl,o.congr fun i c G K=>?_⟩,om⟩
     grind
  ·simp -dsimp only[go_sem,h,l,a,d,f,aV,bA];exact⟨b,rfl,g,o.congr fun i j G C=>by rw[if_pos om]⟩

theorem dd.ext(h:dd S b g n m A)(a:cY S S'):dd S' b g n m A:=⟨a.has h.outer,fun i c=>a.has (h.row i c),h.inj⟩
theorem cT.ext(h:cT S b g n m A)(a:cY S S'):cT S' b g n m A:=⟨a.has h.outer,fun i c=>a.has (h.row i c),h.inj⟩
theorem dT.ints(h:ic S b n r){l l':List AV}(a:dT S l l'):dT S (.sl 2 b 0 n::l) (bA n r::l'):=⟨h.vr.va,a⟩
theorem dT.i64s(h:l8 S b n r){l l':List AV}(a:dT S l l'):dT S (.sl 1 b 0 n::l) (aX n r::l'):=⟨h.vr.va,a⟩
def mV(m:Nat)(A B:Nat->Nat->Int)(i j:Nat):Int:=aq m fun k=>A i k*B k j
theorem M5(n m q:Nat)(A B:Nat->Nat->Int)(k:Nat)(G:1<=n)(H:n<=16)(C:1<=m)(D:m<=16)(I:1<=q)(J:q<=16)(K:∀i j,i<n->j<m->nb (A i j) k)(E:∀i j,i<m->j<q->nb (B i j) k)
  (V:k<=1000000000):Aa 164 [aV n m A,aV m q B] n q (mV m A B):=by
 refine Aa.of ?_;refine ak func164 rfl 70 ntmps164 kr sm (by simp[results164]) ?_
 rw[aF,results164];simp -dsimp only[go_sem];refine(sk n m A G H C D).call ?_;simp -dsimp only[go_sem];refine(td m q B k C D I J E om _ _ (cD _ _)).mono ?_;rintro r S1 ⟨bt,gt,rfl,L⟩;simp -dsimp only[go_sem,aV,bA,not_false_eq_true];refine(Bz n q om om _ _ (cD _ _)).mono ?_;rintro r S2 ⟨b,g,rfl,M⟩;simp -dsimp only[go_sem];refine aI (fun O S'=>∃k:Nat,k<=n/\O 0=aV n m A/\O 9=.sl 1 bt 0 q/\O 11=.sl 1 b 0 n/\O 43=.int .i64 n/\O 44=.int .i64 k/\ir S1 S' b g n q (fun i j=>if i<k then mV m A B i j else 0)) (fun O S=>n-bT (O 44)) ?_ ?_
 ·simp -dsimp only[go_sem,aV,bA];exact⟨0,om,rfl,M.congr sm⟩
 ·rintro O S ⟨i,N,u,p,d,e,f,o⟩;by_cases h:i<n
  ·simp -dsimp only[go_sem,p,d,e,f,h,aV,bA];refine aI (fun O S'=>∃j:Nat,j<=q/\O 0=aV n m A/\O 9=.sl 1 bt 0 q/\O 11=.sl 1 b 0 n/\O 12=.int .i64 i/\O 43=.int .i64 n/\O 44=.int .i64 i/\O 48=.int .i64 q/\O 49=.int .i64 j/\ir S1 S' b g n q (fun a c=>if a<i∨(a=i/\c<j)then mV m A B a c else 0)) (fun O S=>q-bT (O 49)) ?_ ?_
   ·simp -dsimp only[go_sem,u,p,d,e,f,aV,bA];exact⟨0,om,rfl,o.congr sm⟩
   ·rintro O S ⟨j,P,u,p,d,x,e,f,s,t,o⟩;by_cases l:j<q
    ·obtain⟨W,Q,R⟩:=o.1.outer;obtain⟨X,F,Y⟩:=o.1.row i h;have y:=R i h;have v:=L.1.ext o.2.1;obtain⟨Z,T,U⟩:=v.outer;have z:=U j l;simp -dsimp only[go_sem,u,p,d,e,f,s,t,l,aV,bA];refine aP 14 kr ?_
     simp -dsimp only[go_sem,u,p,d,x,e,f,s,t,l,h,aV,bA,Q,F,y,T,z,aM (om:j<1000000),bT]
     repeat refine an ?_
     refine⟨_,(Mz m (A i) (fun c=>B c j) k (fun c w=>K i c h w) (fun c w=>E c j w l) om om).pureS (dT.same (dT.ints (v.row j l) dT.nil)),om,trivial,⟨j+1,om,rfl,(o.set h F).congr fun a c _ _=>?_⟩,om⟩
     simp only[dK,mV]
     grind
    ·simp -dsimp only[go_sem,u,p,d,e,f,s,t,l,aV,bA,aM (om:i<1000000),bT]
     refine⟨⟨i+1,om,rfl,o.congr fun a c ha w=>?_⟩,om⟩
     grind
  ·simp -dsimp only[go_sem,p,d,e,f,h,aV,bA];exact⟨b,rfl,g,o.1.congr fun i j N P=>by rw[if_pos om]⟩
theorem pi(n m q:Nat)(A B:Nat->Nat->Int)(k:Nat)(a:1<=n)(c:n<=16)(d:1<=m)(e:m<=16)(f:1<=q)(h:q<=16)(l:∀i j,i<n->j<m->nb (A i j) k)(o:∀i j,i<m->j<q->nb (B i j) k)
  (p:k<=1000000000):MF 101 [aV n m A,aV m q B] n q (mV m A B):=by
 refine MF.of ?_;refine ak func101 rfl 14 ntmps101 kr sm (by simp[results101]) ?_
 rw[aF,results101];simp -dsimp only[go_sem];refine(M5 n m q A B k a c d e f h l o p _ _ (cD _ _)).mono ?_;rintro r S1 ⟨b,g,rfl,s⟩;simp -dsimp only[go_sem];exact⟨b,rfl,g,s.1⟩
theorem GH(n m:Nat)(A:Nat->Nat->Int)(J:1<=n)(K:n<=16)(L:1<=m)(M:m<=16)(N:∀i j,i<n->j<m->iF (A i j)):zd 46 [aV n m A] n m A:=by
 refine zd.of ?_;refine ak func46 rfl 63 ntmps46 kr sm (by simp[results46]) ?_
 rw[aF,results46];simp -dsimp only[go_sem];refine(sk n m A J K L M).call ?_;simp -dsimp only[go_sem]
 repeat refine an ?_
 refine au.intro fun b W=>?_;simp -dsimp only[go_sem];refine aI (fun O S=>∃(k:Nat) (g:Nat->Nat),k<=n/\O 0=aV n m A/\O 5=.int .i64 m/\O 7=.sl 1 b 0 n/\O 23=.int .i64 n/\O 24=.int .i64 k /\
  aR S b 29 1 n (fun i=>if i<k then .sl 1 (g i) 0 m else .nil)/\(∀i,i<k->l8 S (g i) m (A i))/\∀i j,i<k->j<k->g i=g j->i=j) (fun O S=>n-bT (O 24)) ?_ ?_
 ·simp -dsimp only[go_sem,aV,bA];exact⟨0,om,rfl,fun _=>0,aR.here fun i _=>by simp,fun i a=>om,fun i j a=>om⟩
 ·rintro O S ⟨k,g,X,w,p,q,d,f,x,o,E⟩;by_cases h:k<n
  ·simp -dsimp only[go_sem,p,q,d,f,h]
   repeat refine an ?_
   refine au.intro fun c z=>?_;obtain⟨g',B,C⟩:=x;have r:b≠c:=by rintro rfl;rw[B]at z;cases z
   have s:∀i,i<k->g i≠c:=fun i a=>aR.fresh (o i a) z;simp -dsimp only[go_sem,r,B,aL]
   repeat refine an ?_
   refine aI (fun O S'=>∃j:Nat,j<=m/\O 0=aV n m A/\O 5=.int .i64 m/\O 7=.sl 1 b 0 n/\O 8=.int .i64 k/\O 23=.int .i64 n/\O 24=.int .i64 k/\O 36=.int .i64 m/\O 37=.int .i64 j /\
    aR S' b 29 1 n (fun i=>if i<k then .sl 1 (g i) 0 m else if i=k then .sl 1 c 0 m else .nil)/\(∀i,i<k->l8 S' (g i) m (A i))/\l8 S' c m (fun t=>if t<j then A k t else 0)) (fun O S=>m-bT (O 37)) ?_ ?_
   ·simp -dsimp only[go_sem,w,p,q,d,f];refine⟨0,om,rfl,aR.here fun i a=>?_,fun i a=>((o i a).upd (aR.fresh (o i a) z) _).upd (ai (aR.ne (aR.of B) (o i a) om)) _,(aR.here fun _ _=>by simp).upd (ai r) _⟩
    have:=C i a
    grind [aL]
   ·rintro O S' ⟨j,P,w,p,q,D,d,f,u,v,x,o,F⟩;by_cases l:j<m
    ·obtain⟨Q,G,H⟩:=x;obtain⟨Y,R,T⟩:=F;have y:=H k h;simp only[Nat.lt_irrefl,if_false,if_true]at y;simp -dsimp only[go_sem,w,p,q,D,d,f,u,v,l,h,aV,bA];refine(zD (N k j h l)).call ?_;simp -dsimp only[go_sem,w,p,q,D,d,f,u,v,l,h,aV,bA,G,y,R,aM (om:j<1000000),bT]
     repeat refine an ?_
     refine⟨⟨j+1,om,rfl,aR.upd ⟨Q,G,H⟩ r _,fun i a=>(o i a).upd (s i a) _,aR.here fun t I=>?_⟩,om⟩
     have:=T t I;simp only[aL]
     grind
    ·simp -dsimp only[go_sem,w,p,q,D,d,f,u,v,l,aM (om:k<1000000),bT]
     refine⟨⟨k+1,om,rfl,fun i=>if i=k then c else g i,x.congr fun i a=>?_,fun i a=>?_,fun i j a P e=>?_⟩,om⟩
     ·grind
     ·by_cases e:i=k
      ·subst e;simp only[if_true];refine F.congr fun t I=>?_;have:t<j:=om
       simp[this]
      ·simp only[e,if_false];exact o i om
     ·by_cases U:i=k<;>by_cases V:j=k<;>simp only[U,V,if_true,if_false]at e ⊢
      ·exact absurd e.symm (s j om)
      ·exact absurd e (s i om)
      ·exact E i j om om e
  ·simp -dsimp only[go_sem,p,q,d,f,h];obtain rfl:k=n:=om
   exact⟨b,rfl,g,x.congr fun i a=>by rw[if_pos a],o,E⟩

theorem vQ(h:ed w w.heap.size (.agg #[.bool false,v]) (n:Int)):∃A k c xs,v=.slice A k c/\k<=c/\cj w w.heap.size A k xs/\nS xs/\aY xs=n/\k=nl n:=by
 obtain⟨neg,A,k,c,xs,e,a,b,d,g⟩:=h
 cases e
 have f:aY xs=n:=by simp[sg]at g;omega
 exact⟨A,k,c,xs,rfl,a,b,d,f,by rw[aE b d,f]⟩
theorem AD{A:Option Addr}(a:k<=c)(b:cj w w.heap.size A k xs)(d:nS xs)(e:aY xs=n):ed w w.heap.size (.agg #[.bool false,.slice A k c]) (n:Int) :=
 ⟨false,A,k,c,xs,rfl,a,b,d,by rw[e];simp[sg]⟩
theorem EP(h:nl n<=2147483648):PF 71 [.mag n] (.mag n):=by
 intro w vs a
 match vs,a with
 | [va],a =>
  simp only[a6,bB]at a;obtain⟨A,k,c,xs,rfl,b,d,o,f,p⟩:=vQ a.1;refine(fH A k c w.heap.size xs w b om (af _) d).mono ?_;rintro e w' ⟨A1,q,r,zs,rfl,g,i,j,l,m⟩;exact⟨_,rfl,by simp only[bB];exact AD g i j (l.trans f),cG.below m⟩
 | [],a=>simp[a6]at a
 | _::_::_,a=>simp[a6]at a
theorem Gj{a:Nat}(F:nl a<=16777216)(G:nl b<=16777216)(H:0<b):PF 189 [.mag a,.mag b] (.tup [.mag (a/b),.mag (a%b)]):=by
 intro w vs f
 match vs,f with
 | [va,vb],f =>
  simp only[a6,bB]at f;obtain⟨A,k,c,xs,rfl,l,n,I,j,J⟩:=vQ f.1;obtain⟨B,m,d,ys,rfl,o,h,i,g,K⟩:=vQ f.2.1;refine(Ea A B k m c d w.heap.size xs ys w om om (af _) n h i om).mono ?_;rintro e w' ⟨A1,p,q,zs,D1,r,s,us,rfl,t,u,v,x,y,z,C,D,E⟩;exact⟨_,rfl,by simp only[bB];exact⟨[.slice A1 p q,.slice D1 r s],rfl,by simp only[a6,bB];exact⟨AD t v y (by rw[C,j,g]),AD u x z (by rw[D,j,g]),trivial⟩⟩,cG.below E⟩
 | [],f=>simp[a6]at f
 | [_],f=>simp[a6]at f
 | _::_::_::_,f=>simp[a6]at f
theorem AS(h:nl n<=2147483648)(f:∀s,p s->sg s n=z):PF 103 [.bset p,.mag n] (.big z):=by
 intro w vs a
 match vs,a with
 | [va,vb],a =>
  simp only[a6,bB]at a;obtain⟨⟨s,rfl,g⟩,a,_⟩:=a;obtain⟨A,k,c,xs,rfl,b,i,m,j,o⟩:=vQ a;refine(kT s A k c w.heap.size xs w b om (af _) i).mono ?_;rintro e w' ⟨v,rfl,d,l⟩;exact⟨v,rfl,by rw[j,f s g]at d;simpa [bB]using d,cG.below l⟩
 | [],a=>simp[a6]at a
 | [_],a=>simp[a6]at a
 | _::_::_::_,a=>simp[a6]at a
theorem Ia(h:nl n<=2147483648):PF 103 [.bool s,.mag n] (.big (sg s n)):=by
 intro w vs a;refine AS (p:=fun t=>t=s) (z:=sg s n) h (fun t b=>by rw[b]) w vs ?_
 match vs,a with
 | [va,vb],a=>simp only[a6,bB]at a ⊢;exact⟨⟨s,a.1,rfl⟩,a.2⟩
 | [],a=>simp[a6]at a
 | [_],a=>simp[a6]at a
 | _::_::_::_,a=>simp[a6]at a
theorem oi{b q r:Int}(h:a=b*q+r)(c:0<=r)(f:r<b.natAbs):a/b=q/\a%b=r:=by
 rcases Int.lt_or_le 0 b with d|d
 ·exact(Int.ediv_emod_unique d).2 ⟨by rw[Int.add_comm];exact h.symm,c,om⟩
 ·have e:=(Int.ediv_emod_unique (a:=a) (b:=-b) (r:=r) (q:=-q) om).2 ⟨by rw[Int.neg_mul_neg,Int.add_comm];exact h.symm,c,om⟩
  rw[Int.ediv_neg,Int.emod_neg]at e;exact⟨om,e.2⟩
theorem JO{b:Int}(c:sg s a.natAbs=a):sg s (a.natAbs%b.natAbs)=a.tmod b:=by
 rcases Int.natAbs_eq b with e|e<;>cases s<;>simp only[sg,if_true,bQ,if_false]at c ⊢
 ·rw[<-c,e];simp[Int.natAbs_natCast];exact(aN om).symm
 ·rw[<-c,e];simp[Int.neg_tmod];exact(aN om).symm
 ·rw[<-c,e];simp[Int.tmod_neg];exact(aN om).symm
 ·rw[<-c,e];simp[Int.neg_tmod,Int.tmod_neg];exact(aN om).symm
theorem JP{t:Bool}{b:Int}(c:sg s a.natAbs=a)(d:sg t b.natAbs=b):sg (s != t) (a.natAbs/b.natAbs)=a.tdiv b:=by
 cases s<;>cases t<;>simp only[sg,if_true,bQ,if_false,bne_self_eq_false,Bool.false_bne,Bool.true_bne,Bool.not_false]at c d ⊢
 ·rw[<-c,<-d];simp
 ·rw[<-c,<-d];simp[Int.tdiv_neg]
 ·rw[<-c,<-d];simp[Int.neg_tdiv]
 ·rw[<-c,<-d];simp[Int.neg_tdiv,Int.tdiv_neg]
theorem sd{b:Int}(h:b≠0):(a.tmod b).natAbs<b.natAbs:=by
 rw[Int.natAbs_tmod];exact Nat.mod_lt _ om
theorem wO{b:Int}(v:nb a k)(w:nb b k)(U:k<=536870912)(L:b≠0):PF 127 [.big a,.big b] (.tup [.big (a/b),.big (a%b),.bool true]):=by
 have la:nl a.natAbs<=16777216:=v.nl om;have lb:nl b.natAbs<=16777216:=w.nl om;have M:0<b.natAbs:=om
 have o:((nl b.natAbs:Int)==0)=false:=by
  have H:nl b.natAbs≠0:=fun h=>by
   have:=jt.1 (om:nl b.natAbs<=0)
   simp at this;omega
  simp;omega
 refine PF.of_spec (ak func127 rfl 61 ntmps127 kr sm (by simp[results127]) ?_)
 rw[aF,results127];simp -dsimp only[go_sem];refine au.intro fun V W=>?_
 try simp -dsimp only[go_sem]
 refine au.intro fun X N=>?_
 try simp -dsimp only[go_sem]
 refine au.intro fun Y I=>?_
 try simp -dsimp only[go_sem]
 refine au.intro fun Z z=>?_
 try simp -dsimp only[go_sem]
 have p:=(ag N).1;have t:=(ag (ag I).2).1;have j:=(ag I).1;have u:=(ag (ag (ag z).2).2).1;have l:=(ag (ag z).2).1;have d:=(ag z).1;refine aP 8 kr ?_
 simp -dsimp only[go_sem,nn d,ai p,ai t,ai j,ai u,ai l];refine⟨_,(EP om).pure',_,(EP om).pure',?_⟩;simp -dsimp only[go_sem,o];refine(Gj la lb M).call ?_;simp -dsimp only[go_sem,o];refine aP 13 kr ?_
 simp -dsimp only[go_sem,ai p,ai t,ai j,ai u,ai l];refine⟨.big (a.tdiv b),(AS (bI (fo (jc a.natAbs b.natAbs)) om) (fun s A=>by obtain⟨x,H,y,O,rfl⟩:=A;exact JP H O)).pure',.big (a.tmod b),(AS (bI (fo (Nat.mod_le a.natAbs b.natAbs)) om) (fun s A=>JO A)).pure',?_⟩
 refine au.intro fun P f=>?_
 try simp -dsimp only[go_sem]
 refine au.intro fun Q c=>?_;have B:=(ag f).1;have C:=(ag (ag f).2).1;have R:=(ag (ag (ag f).2).2).1;have p2:=(ag (ag (ag (ag f).2).2).2).1;have qp:=(ag c).1;have D:=(ag (ag c).2).1;have E:=(ag (ag (ag c).2).2).1;have S:=(ag (ag (ag (ag c).2).2).2).1;have q2:=(ag (ag (ag (ag (ag c).2).2).2).2).1;have J:nb (a.tdiv b) k:=nb.of_le (by rw[Int.natAbs_tdiv];exact jc _ _) v
 have K:nb (a.tmod b) k:=nb.of_le (by rw[Int.natAbs_tmod];exact Nat.mod_le _ _) v
 have e:=Int.mul_tdiv_add_tmod a b;have T:=sd (a:=a) L;simp -dsimp only[go_sem,nn qp];refine(lQ K om).call ?_;by_cases g:a.tmod b<0
 ·have m:(a.tmod b).sign<0:=by rw[iR g];decide
  simp -dsimp only[go_sem,aL,m];have F:nb (b.natAbs:Int) k:=nb.of_le sm w
  refine aP 4 kr ?_
  simp -dsimp only[go_sem,ai j,ai l,ai R,ai S,aL];refine⟨.big (b.natAbs:Int),(Ia (s:=false) om).pure',.big (a.tmod b+(b.natAbs:Int)),(sw K F om).pure',?_⟩;simp -dsimp only[go_sem];refine(lQ w om).call ?_;by_cases G:b<0
  ·have n:b.sign<0:=by rw[iR G];decide
   simp -dsimp only[go_sem,n];refine ej 4 [[3]] kr ?_
   simp -dsimp only[go_sem,nn d,nn E,nn D,ai C,ai B,ai qp,aL];refine⟨.big 1,(gU dc dc).pure',.big (a.tdiv b+1),(sw (k:=k+1) (J.mono om) (nb.one om) om).pure',?_⟩
   simp -dsimp only[go_sem];have i:=oi (a:=a) (b:=b) (q:=a.tdiv b+1) (r:=a.tmod b+(b.natAbs:Int)) (by
    rw[Int.mul_add,ie];omega) om om
   rw[i.1,i.2];exact VR.tup (by simp[qN])
  ·have n:¬b.sign<0:=by rw[dR (om:0<b)];decide
   simp -dsimp only[go_sem,n];refine ej 4 [[3]] kr ?_
   simp -dsimp only[go_sem,nn d,nn E,nn D,ai C,ai B,ai qp,aL];refine⟨.big 1,(gU dc dc).pure',.big (a.tdiv b-1),(AB (k:=k+1) (J.mono om) (nb.one om) om).pure',?_⟩
   simp -dsimp only[go_sem];have i:=oi (a:=a) (b:=b) (q:=a.tdiv b-1) (r:=a.tmod b+(b.natAbs:Int)) (by
    rw[Int.mul_sub,ie];omega) om om
   rw[i.1,i.2];exact VR.tup (by simp[qN])
 ·have m:¬(a.tmod b).sign<0:=by
   rcases Int.lt_trichotomy (a.tmod b) 0 with h|h|h
   ·exact absurd h g
   ·rw[h];decide
   ·rw[dR h];decide
  simp -dsimp only[go_sem,aL,m];refine ej 2 [[1]] kr ?_
  simp -dsimp only[go_sem,nn d,nn E,nn D,ai C,ai B,ai qp,aL];have i:=oi (a:=a) (b:=b) (q:=a.tdiv b) (r:=a.tmod b) om om om;rw[i.1,i.2];exact VR.tup (by simp[qN])

theorem so{b:Int}(f:nb a k)(g:nb b k)(h:k<=536870912)(i:b≠0):PF 65 [.big a,.big b] (.big (a/b)):=by
 refine PF.of_spec (ak func65 rfl 16 ntmps65 kr sm (by simp[results65]) ?_)
 rw[aF,results65];simp -dsimp only[go_sem];refine au.intro fun l m=>?_
 try simp -dsimp only[go_sem]
 refine au.intro fun n j=>?_;have n3_2:=(ag j).1
 try simp -dsimp only[go_sem]
 refine au.intro fun o e=>?_;have n4_3:=(ag e).1;have n4_2:=(ag (ag e).2).1;simp -dsimp only[go_sem,ai n3_2,ai n4_2,ai n4_3];refine(wO f g h i).call ?_;simp -dsimp only[go_sem];refine au.intro fun p d=>?_;have n5_4:=(ag d).1;have n5_3:=(ag (ag d).2).1;have n5_2:=(ag (ag (ag d).2).2).1
 try simp -dsimp only[go_sem]
 refine au.intro fun q c=>?_;have n6_5:=(ag c).1;have n6_4:=(ag (ag c).2).1;have n6_3:=(ag (ag (ag c).2).2).1;have n6_2:=(ag (ag (ag (ag c).2).2).2).1;simp -dsimp only[go_sem,nn n6_5,ai n5_4,ai n6_4,aL];exact VR.mf rfl
theorem JQ{b:Int}(f:nb a k)(g:nb b k)(h:k<=536870912)(i:b≠0):PF 147 [.big a,.big b] (.big (a%b)):=by
 refine PF.of_spec (ak func147 rfl 16 ntmps147 kr sm (by simp[results147]) ?_)
 rw[aF,results147];simp -dsimp only[go_sem];refine au.intro fun l m=>?_
 try simp -dsimp only[go_sem]
 refine au.intro fun n j=>?_;have n3_2:=(ag j).1
 try simp -dsimp only[go_sem]
 refine au.intro fun o e=>?_;have n4_3:=(ag e).1;have n4_2:=(ag (ag e).2).1;simp -dsimp only[go_sem,ai n3_2,ai n4_2,ai n4_3];refine(wO f g h i).call ?_;simp -dsimp only[go_sem];refine au.intro fun p d=>?_;have n5_4:=(ag d).1;have n5_3:=(ag (ag d).2).1;have n5_2:=(ag (ag (ag d).2).2).1
 try simp -dsimp only[go_sem]
 refine au.intro fun q c=>?_;have n6_5:=(ag c).1;have n6_4:=(ag (ag c).2).1;have n6_3:=(ag (ag (ag c).2).2).1;have n6_2:=(ag (ag (ag (ag c).2).2).2).1;simp -dsimp only[go_sem,nn n6_5,ai n5_4,ai n6_4,aL];exact VR.mf rfl
theorem cE.get{z:AV}(h:cE S b ty es z):∃g,S b=some ⟨ty,es,1,g⟩/\g 0=z:=h
theorem xq{b:Int}(h:b≠0):(a%b).natAbs<b.natAbs:=by
 have c:=a9 a h;have d:=Int.emod_lt a h;omega
theorem JM(h:a≠0):(a.sign != 0)=true:=by
 simp only[bne_iff_ne,ne_eq];rw[Int.sign_eq_zero_iff_zero];exact h
theorem Iw{b:Int}:md a b=md b (a%b):=by
 have c:a%b=a+b*(-(a/b)):=by rw[Int.emod_def];grind
 rw[Int.gcd_comm b,c,Int.gcd_add_mul_left_left]
theorem JS{b:Int}(u:nb a k)(v:nb b k)(C:k<=536870912):PF 262 [.big a,.big b] (.big (md a b)):=by
 refine PF.of_spec (ak func262 rfl 19 ntmps262 kr sm (by simp[results262]) ?_)
 rw[aF,results262];simp -dsimp only[go_sem];refine au.intro fun I J=>?_
 try simp -dsimp only[go_sem]
 refine au.intro fun K D=>?_;have n3_2:=(ag D).1
 try simp -dsimp only[go_sem]
 refine au.intro fun w z=>?_;have n4_3:=(ag z).1;have n4_2:=(ag (ag z).2).1;simp -dsimp only[go_sem];refine aP 6 kr ?_
 simp -dsimp only[go_sem,ai n3_2,ai n4_2,ai n4_3];refine⟨_,(AF u om).pure',_,(AF v om).pure',?_⟩;refine au.intro fun A h=>?_;have n5_4:=(ag h).1;have n5_3:=(ag (ag h).2).1;have n5_2:=(ag (ag (ag h).2).2).1
 try simp -dsimp only[go_sem]
 refine au.intro fun i f=>?_;have n6_5:=(ag f).1;have n6_4:=(ag (ag f).2).1;have n6_3:=(ag (ag (ag f).2).2).1;have n6_2:=(ag (ag (ag (ag f).2).2).2).1;simp -dsimp only[go_sem,nn n6_5];refine aI (fun O S=>∃x y:Int,nb x k/\nb y k/\0<=x/\0<=y/\md x y=md a b/\O 4=.ptr 2 w 0/\O 5=.ptr 2 A 0/\O 6=.ptr 2 i 0/\cE S w 50 2 (.big 0)/\cE S A 50 2 (.big x)/\cE S i 50 2 (.big y)) (fun O S=>match S i with|some X=>(match X.g 0 with|.big y=>y.natAbs|_=>0)|ae=>0) ?_ ?_
 ·simp -dsimp only[go_sem];exact⟨a.natAbs,nb.of_le sm u,b.natAbs,nb.of_le sm v,om,om,by simp[md],((((cE.new rfl).upd (ai n5_4) _).upd (ai n6_4) _).upd (ai n5_4) _).upd (ai n6_4) _,cE.set.upd (ai n6_5) _,cE.set⟩
 ·rintro O S ⟨x,y,E,d,L,F,B,j,l,m,V4,V5,V6⟩;obtain⟨G,n,H⟩:=V4;obtain⟨M,o,p⟩:=V5;obtain⟨N,q,e⟩:=V6;by_cases c:y=0
  ·simp -dsimp only[go_sem,m,q,e];refine(lQ d om).call ?_;simp -dsimp only[go_sem,j,l,n,o,p,e,c,Int.sign_zero,aL];have r:((md a b:Nat):Int)=x:=by rw[<-B,c,Int.gcd_zero];omega
   rw[r];exact VR.mf rfl
  ·simp -dsimp only[go_sem,m,q,e];refine(lQ d om).call ?_;simp -dsimp only[go_sem,j,l,n,o,p,e,JM c,aL];refine aP 4 kr ?_
   simp -dsimp only[go_sem,j,l,m,o,q,p,e,n6_5,aL];refine⟨_,(JQ E d C c).pure',?_⟩;simp -dsimp only[go_sem];have s:=xq (a:=x) c;have t:=a9 x c;exact⟨⟨y,d,x%y,nb.of_le om d,F,t,by rw[<-Iw];exact B,(cE.upd ⟨G,n,H⟩ (ai n5_4) _).upd (ai n6_4) _,cE.set.upd (ai n6_5) _,cE.set⟩,s⟩

def cC(e es:Nat)(S0 S:St)(x:AV)(j:Nat)(g:Nat->AV):Prop:=cY S0 S/\((j=0/\x=.nil)∨∃c,S0 c=ae/\x=.sl es c 0 j/\aR S c e es j g)
def dl(x:AV)(d:Nat):Prop:=∃es off len,x=.sl es d off len
theorem cC.nil(h:cY S0 S)(g:Nat->AV):cC e es S0 S .nil 0 g:=⟨h,bn ⟨rfl,rfl⟩⟩
theorem cC.congr{g:Nat->AV}(h:cC e es S0 S x j g)(a:∀i,i<j->g i=g' i):cC e es S0 S x j g':=by
 refine⟨h.1,h.2.imp id ?_⟩;rintro⟨c,b,d,f⟩;exact⟨c,b,d,f.congr a⟩
theorem cC.step{g:Nat->AV}(h:cC e es S0 S x j g)(b:cY S0 S')(f:∀d,dl x d->S' d=S d):cC e es S0 S' x j g:=by
 refine⟨b,h.2.imp id ?_⟩;rintro⟨c,i,a,g',k,l⟩;exact⟨c,i,a,g',by rw[f c ⟨_,_,_,a⟩];exact k,l⟩
theorem cC.upd{g:Nat->AV}(h:cC e es S0 S x j g){b:Nat}(a:S0 b=ae)(c:∀d,dl x d->d≠b)(X:dH):cC e es S0 (S.upd b X) x j g :=
 h.step (h.1.upd a X) (fun d f=>aH (c d f))
theorem cC.fresh{g:Nat->AV}(h:cC e es S0 S x j g){b:Nat}(i:S b=ae):∀d,dl x d->d≠b:=by
 rintro d ⟨es',off,len,a⟩ rfl;rcases h.2 with⟨_,f⟩|⟨c,_,f,k⟩
 ·rw[f]at a;cases a
 ·rw[f]at a;cases a;exact aR.fresh k i rfl
theorem cC.app{t:Nat}{v:AV}{g:Nat->AV}(I:dw t=some e)(J:(fD e).isSome=true)(u:es=bS e)(h:cC e es S0 S x j g)(O:j<1000000)(L:dN es v)
  (M:(∃h,y=.lst es 1 h/\h 0=v)∨∃b gb ty,y=.sl es b 0 1/\S b=some ⟨ty,es,1,gb⟩/\gb 0=v/\¬dl x b)
  (G:∀c S',cC e es S0 S' (.sl es c 0 (j+1)) (j+1) (fun i=>if i=j then v else g i)->(∀d X,S d=some X->¬dl x d->S' d=some X)->(dl x c∨S c=ae)->K (.sl es c 0 (j+1)) S'):fZ t t x y S K:=by
 unfold fZ;rw[I];refine⟨rfl,J,?_⟩;have l:∃w o,zN S y=some (es,1,w,o)/\w 0=v/\(∀d,dl x d->o≠some d):=by
  rcases M with⟨h,rfl,N⟩|⟨b,gb,ty,rfl,z,m,A⟩
  ·exact⟨_,_,rfl,N,fun d _=>by simp⟩
  ·refine⟨fun j=>gb (0+j),some b,by simp[zN,z],m,fun d f e=>?_⟩
   cases e;exact A f
 obtain⟨w,o,z,m,A⟩:=l;rw[z];refine⟨u,om,fun i H=>by rw[(om:i=0),m];exact L,?_⟩
 rcases h.2 with⟨rfl,rfl⟩|⟨c,n,rfl,g',B,C⟩
 ·refine⟨om,fun b r=>G _ _ ⟨h.1.upd (h.1.none r) _,aK ⟨b,h.1.none r,rfl,aR.here fun i H=>?_⟩⟩ (fun d X f _=>?_) (aK r)⟩
  ·obtain rfl:i=0:=om
   simp[m]
  ·rw[aH];exact f;rintro rfl;rw[r]at f;cases f
 ·simp only[B];refine⟨trivial,trivial,trivial,trivial,trivial,om,A c ⟨_,_,_,rfl⟩,fun b' a=>G _ _ ⟨?_,aK ⟨b',?_,rfl,aR.here fun i H=>?_⟩⟩ (fun d X f D=>?_) ?_⟩
  ·intro k X s;have p:k≠c:=by rintro rfl;rw[n]at s;cases s
   have E:k≠b':=by
    rintro rfl;rcases a with rfl|a
    ·exact p rfl
    ·rw[h.1 k X s]at a;cases a
   rw[aH E];simp only[St.del];rw[if_neg p];exact h.1 k X s
  ·rcases a with rfl|a
   ·exact n
   ·exact h.1.none a
  ·by_cases e:i=j
   ·subst e;rw[vX (af _) om,Nat.sub_self,m,if_pos rfl]
   ·rw[Bs om,if_neg e];exact C i om
  ·have q:d≠c:=fun e=>D (by rw[e];exact⟨_,_,_,rfl⟩)
   have F:d≠b':=by
    rintro rfl;rcases a with rfl|a
    ·exact q rfl
    ·rw[f]at a;cases a
   rw[aH F];simp only[St.del];rw[if_neg q];exact f
  ·rcases a with rfl|a
   ·exact bn ⟨_,_,_,rfl⟩
   ·exact aK a
theorem cC.app50{v:AV}{g:Nat->AV}(h:cC 50 2 S0 S x j g)(a:j<1000000)(e:dN 2 v)(f:(∃h,y=.lst 2 1 h/\h 0=v)∨∃b gb ty,y=.sl 2 b 0 1/\S b=some ⟨ty,2,1,gb⟩/\gb 0=v/\¬dl x b)
  (k:∀c S',cC 50 2 S0 S' (.sl 2 c 0 (j+1)) (j+1) (fun i=>if i=j then v else g i)->(∀d X,S d=some X->¬dl x d->S' d=some X)->(dl x c∨S c=ae)->K (.sl 2 c 0 (j+1)) S'):fZ 59 59 x y S K:=cC.app rfl rfl rfl h a e f k
theorem cC.app2{v:AV}{g:Nat->AV}(h:cC 2 1 S0 S x j g)(a:j<1000000)(e:dN 1 v)(f:(∃h,y=.lst 1 1 h/\h 0=v)∨∃b gb ty,y=.sl 1 b 0 1/\S b=some ⟨ty,1,1,gb⟩/\gb 0=v/\¬dl x b)
  (k:∀c S',cC 2 1 S0 S' (.sl 1 c 0 (j+1)) (j+1) (fun i=>if i=j then v else g i)->(∀d X,S d=some X->¬dl x d->S' d=some X)->(dl x c∨S c=ae)->K (.sl 1 c 0 (j+1)) S'):fZ 29 29 x y S K:=cC.app rfl rfl rfl h a e f k
theorem cC.app3{v:AV}{g:Nat->AV}(h:cC 3 1 S0 S x j g)(a:j<1000000)(e:dN 1 v)(f:(∃h,y=.lst 1 1 h/\h 0=v)∨∃b gb ty,y=.sl 1 b 0 1/\S b=some ⟨ty,1,1,gb⟩/\gb 0=v/\¬dl x b)
  (k:∀c S',cC 3 1 S0 S' (.sl 1 c 0 (j+1)) (j+1) (fun i=>if i=j then v else g i)->(∀d X,S d=some X->¬dl x d->S' d=some X)->(dl x c∨S c=ae)->K (.sl 1 c 0 (j+1)) S'):fZ 146 146 x y S K:=cC.app rfl rfl rfl h a e f k
theorem cC.app59{v:AV}{g:Nat->AV}(h:cC 59 1 S0 S x j g)(a:j<1000000)(e:dN 1 v)(f:(∃h,y=.lst 1 1 h/\h 0=v)∨∃b gb ty,y=.sl 1 b 0 1/\S b=some ⟨ty,1,1,gb⟩/\gb 0=v/\¬dl x b)
  (k:∀c S',cC 59 1 S0 S' (.sl 1 c 0 (j+1)) (j+1) (fun i=>if i=j then v else g i)->(∀d X,S d=some X->¬dl x d->S' d=some X)->(dl x c∨S c=ae)->K (.sl 1 c 0 (j+1)) S'):fZ 52 52 x y S K:=cC.app rfl rfl rfl h a e f k
theorem cC.app29{v:AV}{g:Nat->AV}(h:cC 29 1 S0 S x j g)(a:j<1000000)(e:dN 1 v)(f:(∃h,y=.lst 1 1 h/\h 0=v)∨∃b gb ty,y=.sl 1 b 0 1/\S b=some ⟨ty,1,1,gb⟩/\gb 0=v/\¬dl x b)
  (k:∀c S',cC 29 1 S0 S' (.sl 1 c 0 (j+1)) (j+1) (fun i=>if i=j then v else g i)->(∀d X,S d=some X->¬dl x d->S' d=some X)->(dl x c∨S c=ae)->K (.sl 1 c 0 (j+1)) S'):fZ 28 28 x y S K:=cC.app rfl rfl rfl h a e f k
theorem cC.other{g:Nat->AV}(h:cC e es S0 S x j g){b ty es' n:Nat}{g':Nat->AV}(f:S b=some ⟨ty,es',n,g'⟩)(i:ty≠e):¬dl x b:=by
 rintro⟨_,_,_,a⟩;rcases h.2 with⟨_,d⟩|⟨c,_,d,k⟩
 ·rw[d]at a;cases a
 ·rw[d]at a;cases a;exact aR.ne k (aR.of f) (ai i) rfl
theorem aR.via{g:Nat->AV}(h:aR S b ty es n g)(a:∀X,S b=some X->S' b=some X):aR S' b ty es n g:=by
 obtain⟨g',c,d⟩:=h;exact⟨g',a _ c,d⟩
theorem dk{off len d:Nat}:dl (.sl es b off len) d↔d=b:=⟨fun⟨_,_,_,e⟩=>by cases e;rfl,fun e=>by rw[e];exact⟨_,_,_,rfl⟩⟩
theorem FG(n m:Nat)(A:Nat->Nat->Int)(k:Nat)(h2:n<=1000)(h3:1<=m)(h4:m<=1000)(W:∀i j,i<n->j<m->nb (A i j) k)(Y:k<=8589934592):MF 63 [aV n m A] n m A:=by
 refine MF.of ?_;refine ak func63 rfl 38 ntmps63 kr sm (by simp[results63]) ?_
 rw[aF,results63];simp -dsimp only[go_sem,aV,bA]
 repeat refine an ?_
 refine au.intro fun q f3=>?_;simp -dsimp only[go_sem];refine aI (fun O S=>∃(i:Nat) (g:Nat->Nat),i<=n/\O 0=aV n m A/\O 3=.sl 1 q 0 n/\O 11=.int .i64 n/\O 12=.int .i64 i /\
  aR S q 59 1 n (fun a=>if a<i then .sl 2 (g a) 0 m else .nil)/\(∀a,a<i->ic S (g a) m (A a))/\∀a c,a<i->c<i->g a=g c->a=c) (fun O S=>n-bT (O 12)) ?_ ?_
 ·simp -dsimp only[go_sem,aV,bA];exact⟨0,om,rfl,fun _=>0,aR.here fun _ _=>by simp,fun a b=>om,fun a c b=>om⟩
 ·rintro O S ⟨i,g,hi,s,r,f,l,C,z,Z⟩;by_cases o:i<n
  ·simp -dsimp only[go_sem,aV,bA,s,r,f,l,o];refine aI (fun O S'=>∃(j:Nat) (x:AV),j<=m/\O 0=aV n m A/\O 3=.sl 1 q 0 n/\O 4=.int .i64 i/\O 11=.int .i64 n/\O 12=.int .i64 i/\O 18=bA m (A i)/\O 19=.int .i64 m/\O 20=.int .i64 j /\
    aR S' q 59 1 n (fun a=>if a<i then .sl 2 (g a) 0 m else if a=i then x else .nil)/\(∀a,a<i->ic S' (g a) m (A a)/\¬dl x (g a))/\cC 50 2 St.none S' x j (fun c=>.big (A i c))) (fun O S=>m-bT (O 20)) ?_ ?_
   ·simp -dsimp only[go_sem,aV,bA,s,r,f,l];exact⟨0,om,rfl,.nil,C.congr fun a _=>by grind,fun a b=>⟨z a b,by rintro⟨_,_,_,e⟩;cases e⟩,cC.nil (fun k X h=>by cases h) _⟩
   ·rintro O S' ⟨j,x,hj,s,r,R,f,l,t,u,v,C,z,B⟩;by_cases w:j<m
    ·simp -dsimp only[go_sem,aV,bA,s,r,f,l,t,u,v,w];refine au.intro fun K L=>?_;obtain⟨g1,D,T⟩:=C;have M:g1 i=x:=by rw[T i o];simp
     have y:q≠K:=aR.fresh (aR.of D) L;simp -dsimp only[go_sem];refine eR 9 kr ?_
     simp -dsimp only[go_sem,r,R,o,y,D,M,aL]
     repeat refine an ?_
     refine⟨_,(Ch (W i j o w) Y).pure',?_⟩;simp -dsimp only[go_sem];have E:∀d,dl x d->d≠K:=B.fresh L;have N:=B.other D om;refine cC.app50 ((B.upd (by rfl) E _).upd (by rfl) E _) om (show dN 2 (.big (A i j))from trivial) (bn ⟨_,rfl,rfl⟩) ?_
     intro c S2 F G H;have I:=G q _ (by rw[aH y,aH y];exact D) N
     simp -dsimp only[go_sem,aV,bA,s,r,R,f,l,t,u,v,o,I,aM (om:j<1000000),bT]
     repeat refine an ?_
     refine⟨⟨j+1,om,rfl,.sl 2 c 0 (j+1),aR.here fun a b=>?_,fun a b=>?_,?_⟩,om⟩
     ·have:=T a b;grind [aL]
     ·obtain⟨J,U⟩:=z a b;have p:g a≠K:=aR.fresh J L;have P:g a≠q:=aR.ne J (aR.of D) om;refine⟨(J.via fun X B=>G _ _ (by rw[aH p,aH p];exact B) U).upd P _,fun V=>?_⟩
      rw[dk]at V;rw[<-V]at H;rcases H with h|h
      ·exact U h
      ·rw[aH p,aH p]at h;exact aR.fresh J h rfl
     ·refine(F.upd (by rfl) (fun d Q e=>?_) _).congr (fun a b=>by grind)
      rw[e]at Q;exact F.other I om Q
    ·simp -dsimp only[go_sem,aV,bA,s,r,f,l,t,u,v,w,aM (om:i<1000000),bT]
     obtain rfl:j=m:=om
     rcases B.2 with⟨h0,_⟩|⟨c,_,rfl,hC⟩
     ·omega
     refine⟨⟨i+1,om,rfl,fun a=>if a=i then c else g a,C.congr fun a b=>by grind,fun a b=>?_,fun a d b Q e=>?_⟩,om⟩
     ·by_cases e:a=i
      ·subst e;simp only[if_true];exact hC
      ·simp only[e,if_false];exact(z a om).1
     ·have k1:=fun a b=>(z a b).2;simp only[dk]at k1
      grind
  ·simp -dsimp only[go_sem,aV,bA,s,r,f,l,o];obtain rfl:i=n:=om
   exact⟨q,rfl,g,C.congr fun a b=>by simp[b],z,Z⟩

end Go.Proofs.YtdobfmlmenaajaaGreatDoor
