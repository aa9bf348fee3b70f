/-
  Lemmas for NeighbourVerify.
-/
import Derived.Test.YtdobfmlmenaajaaGreatDoorV15
namespace Go.Proofs.YtdobfmlmenaajaaGreatDoor
open Go.RowKit Tryz
open _root_.Int renaming gcd→nh
open _root_.Nat renaming beq→ap,blt→aQ
open _root_.Option renaming none→ab
set_option maxHeartbeats 6400000
set_option maxRecDepth 4096
set_option linter.all false
attribute [local go_sem] Nat.reduceAdd Nat.reduceEqDiff Nat.reduceLeDiff Nat.reduceLT reduceCtorEq Int.ofNat_lt decide_true decide_false Int.zero_le_ofNat
attribute [local go_sem ↓] reduceIte
variable{x z:AV}{post post':AV->St->Prop}{s:Bool}{p:Bool->Prop}{a:Int}{op:Int->Int->Option XV}{args args' l:List AV}{xs:List Nat}{b c es f k m n ty:Nat}{r:Nat->Int}{g:Nat->Nat}{A B:Nat->Nat->Int}{M M':Nat->Prop}{S S' S0 S1:St}{v:Value}{w:World}{Q:aH}{X:ft}
noncomputable section
def smx(z:Int):Bool:=aQ z.natAbs 18446744073709551616
def G9{z:Int}(h:smx z=true):nb z 64:=by
 unfold smx at h;rw[oZ]at h;unfold nb;omega
def Tn(op:Int->Int->Option XV):List XV->Option XV
 | [.big a,.big b]=>(match smx a&&smx b with
  | true=>op a b
  | false=>ab)
 | _=>ab
def UD(op:Int->Option XV):List XV->Option XV
 | [.big a]=>(match smx a with
  | true=>op a
  | false=>ab)
 | _=>ab
def LFX(f:Nat)(args:List XV)(v:XV):Prop:=∀φ as',fO φ args as'->∃z,(∀ψ,ER ψ v z)/\PF f as' z
def Ae(d:∀a b v,nb a 64->nb b 64->op a b=some v->∃z,(∀ψ,ER ψ v z)/\PF f [.big a,.big b] z){args:List XV}{v:XV}(h:Tn op args=some v):LFX f args v:=by
 unfold Tn at h;split at h
 .rename_i a b;split at h
  .rename_i e;simp only[ay]at e;intro φ as' c
   match as',c with
   | [x,y],c =>
    simp only[fO,ER]at c;obtain⟨rfl,rfl,_⟩:=c;exact d a b v (G9 e.1) (G9 e.2) h
   | [],c=>simp[fO]at c
   | [_],c=>simp[fO]at c
   | _::_::_::_,c=>simp[fO]at c
  .cases h
 .cases h
def DD{op:Int->Option XV}(c:∀a v,nb a 64->op a=some v->∃z,(∀ψ,ER ψ v z)/\PF f [.big a] z){args:List XV}{v:XV}(h:UD op args=some v):LFX f args v:=by
 unfold UD at h;split at h
 .rename_i a;split at h
  .rename_i d;intro φ as' b
   match as',b with
   | [x],b =>
    simp only[fO,ER]at b;obtain⟨rfl,_⟩:=b;exact c a v (G9 d) h
   | [],b=>simp[fO]at b
   | _::_::_,b=>simp[fO]at b
  .cases h
 .cases h
def QH(a:Int):Bool:=decide (-9223372036854775808<=a)&&decide (a<=9223372036854775807)
def JR:List XV->Option XV
 | [.int .i64 a]=>(match QH a with
  | true=>some (.big a)
  | false=>ab)
 | _=>ab
def Nz:List XV->Option XV
 | [.agg [.int .u64 (.ofNat h),.int .u64 (.ofNat s)],.int .u64 (.ofNat x),.int .u64 (.ofNat y)]=>(match ap h 0&&aQ x 4294967296&&aQ y 4294967296&&aQ (s+x*y) 18446744073709551616 with
  | true=>some (.agg [.int .u64 0,.int .u64 (.ofNat (s+x*y))])
  | false=>ab)
 | _=>ab
def FB:List XV->Option XV
 | [.agg [.int .u64 (.ofNat h),.int .u64 (.ofNat s)],.agg [.int .u64 (.ofNat h'),.int .u64 (.ofNat s')]]=>(match ap h 0&&ap h' 0&&aQ s 4611686018427387904&&aQ s' 4611686018427387904 with
  | true=>(match Nat.ble s' s with
   | true=>some (.tup [.int .i64 (.ofNat (s-s')),.bool true])
   | false=>some (.tup [.int .i64 0,.bool false]))
  | false=>ab)
 | _=>ab
def Mu(f:Nat)(args:List XV):Option XV :=
 match ap f 133 with
 | true=>Tn (fun a b=>some (.big (a+b))) args
 | false=>match ap f 83 with
 | true=>Tn (fun a b=>some (.big (a*b))) args
 | false=>match ap f 192 with
 | true=>Tn (fun a b=>some (.big (a-b))) args
 | false=>match ap f 82 with
 | true=>Tn (fun a b=>match decide (b=0)with
  | true=>ab
  | false=>some (.tup [.big (a/b),.big (a%b),.bool true])) args
 | false=>match ap f 159 with
 | true=>Tn (fun a b=>some (.int .i64 (lV a b))) args
 | false=>match ap f 193 with
 | true=>UD (fun a=>some (.big (-a))) args
 | false=>match ap f 157 with
 | true=>UD (fun a=>some (.big a)) args
 | false=>match ap f 191 with
 | true=>UD (fun a=>some (.int .i64 a.sign)) args
 | false=>match ap f 84 with
 | true=>UD (fun a=>match QH a with
  | true=>some (.tup [.int .i64 a,.bool true])
  | false=>ab) args
 | false=>match ap f 81 with
 | true=>JR args
 | false=>match ap f 215 with
 | true=>Nz args
 | false=>match ap f 216 with
 | true=>FB args
 | false=>ab
def NB:Nat:=2^133 ||| 2^83 ||| 2^192 ||| 2^82 ||| 2^159 ||| 2^193 ||| 2^157 ||| 2^191 ||| 2^84 ||| 2^81 ||| 2^215 ||| 2^216
def Tu(f:Nat):Bool:=Nat.testBit NB f
def DM(h:QH a=true):-9223372036854775808<=a/\a<=9223372036854775807:=by
 simpa [QH]using h
def Mt:OK Mu:=by
 intro f args v h;have big:∀(z:Int) (ψ:Ph),ER ψ (.big z) (.big z):=fun z ψ=>by simp[ER]
 have int:∀(k:IntKind) (z:Int) (ψ:Ph),ER ψ (.int k z) (.int k z):=fun k z ψ=>by simp[ER]
 have key:((11<=f/\f<270)/\f≠252/\f≠253)/\LFX f args v:=by
  unfold Mu at h
  repeat' (split at h)
  all_goals first
   | (rename_i e;obtain rfl:=ak e;refine⟨by decide,?_⟩)
   | cases h
  .exact Ae (fun a b v c i h=>by cases h;exact⟨_,big _,wO c i dc⟩) h
  .exact Ae (fun a b v c i h=>by cases h;exact⟨_,big _,qr c i dc⟩) h
  .exact Ae (fun a b v c i h=>by cases h;exact⟨_,big _,Df c i dc⟩) h
  .refine Ae (fun a b v c i h=>?_) h;split at h
   .cases h
   .rename_i g
    cases h
    exact⟨.tup [.big (a/b),.big (a%b),.bool true],fun ψ=>by simp[ER,fO],mt c i dc (by simpa using g) (bQ c)⟩
  .exact Ae (fun a b v c i h=>by cases h;exact⟨_,int _ _,Oh c i dc⟩) h
  .exact DD (fun a v c h=>by cases h;exact⟨_,big _,tA c dc⟩) h
  .exact DD (fun a v c h=>by cases h;exact⟨_,big _,sd c dc⟩) h
  .exact DD (fun a v c h=>by cases h;exact⟨_,int _ _,lp c dc⟩) h
  .refine DD (fun a v c h=>?_) h;split at h
   .rename_i g
    cases h
    exact⟨.tup [.int .i64 a,.bool true],fun ψ=>by simp[ER,fO],uJ (DM g)⟩
   .cases h
  .unfold JR at h;split at h
   .rename_i a;split at h
    .rename_i g
     cases h
     intro φ as' c
     match as',c with
     | [x],c =>
      simp only[fO,ER]at c;obtain⟨rfl,_⟩:=c;exact⟨_,big _,ld (DM g).1 (DM g).2⟩
     | [],c=>simp[fO]at c
     | _::_::_,c=>simp[fO]at c
    .cases h
   .cases h
  .unfold Nz at h;split at h
   .rename_i m s x y;split at h
    .rename_i g;simp only[ay,oZ]at g
     cases h
     intro φ as' c
     match as',c with
     | [u,v,w],c =>
      simp only[fO,ER]at c;obtain⟨⟨R,rfl,d⟩,rfl,rfl,_⟩:=c
      match R,d with
      | [p,q],d =>
       simp only[fO,ER]at d;obtain⟨rfl,rfl,_⟩:=d;obtain rfl:=ak g.1.1.1;exact⟨.agg [.int .u64 0,.int .u64 (.ofNat (s+x*y))],fun ψ=>by simp[ER,fO],Po g.1.1.2 g.1.2 g.2⟩
      | [],d=>simp[fO]at d
      | [_],d=>simp[fO]at d
      | _::_::_::_,d=>simp[fO]at d
     | [],c=>simp[fO]at c
     | [_],c=>simp[fO]at c
     | [_,_],c=>simp[fO]at c
     | _::_::_::_::_,c=>simp[fO]at c
    .cases h
   .cases h
  .unfold FB at h;split at h
   .rename_i n s o s';split at h
    .rename_i g;simp only[ay,oZ]at g;intro φ as' c
     match as',c with
     | [u,w],c =>
      simp only[fO,ER]at c;obtain⟨⟨R,rfl,d⟩,⟨R',rfl,j⟩,_⟩:=c
      match R,R',d,j with
      | [p,q],[p',q'],d,j =>
       simp only[fO,ER]at d j;obtain⟨rfl,rfl,_⟩:=d;obtain⟨rfl,rfl,_⟩:=j;obtain rfl:=ak g.1.1.1;obtain rfl:=ak g.1.1.2;split at h
       .rename_i l
        cases h
        exact⟨.tup [.int .i64 (.ofNat (s-s')),.bool true],fun ψ=>by simp[ER,fO],KB g.1.2 (cE l)⟩
       .rename_i l
        cases h
        exact⟨.tup [.int .i64 0,.bool false],fun ψ=>by simp[ER,fO],KC g.2 (by
         rcases aF s s' with h|h
         .exact h
         .rw[Nat.ble_eq_true_of_le h]at l;cases l)⟩
      | [],_,d,_=>simp[fO]at d
      | [_],_,d,_=>simp[fO]at d
      | _::_::_::_,_,d,_=>simp[fO]at d
      | [_,_],[],_,d=>simp[fO]at d
      | [_,_],[_],_,d=>simp[fO]at d
      | [_,_],_::_::_::_,_,d=>simp[fO]at d
     | [],c=>simp[fO]at c
     | [_],c=>simp[fO]at c
     | _::_::_::_,c=>simp[fO]at c
    .cases h
   .cases h
 exact key
end

def Il{b:Int}(d:nb a k)(f:nb b k)(n:k<=8000000000)(g:b≠0):PF 82 [.big a,.big b] (.tup [.big (a/b),.big (a%b),.bool true]):=by
 intro w vs c
 match vs,c with
 | [va,vb],c =>
  simp only[a6,bM]at c;refine(I5 va vb a b w.heap.size w (ae _) c.1 c.2.1 (d.nl om) (f.nl om) g).mono ?_;rintro e w' ⟨h,i,rfl,j,l,m⟩;exact⟨_,rfl,by simp only[bM];exact⟨[h,i,.bool true],rfl,by simp only[a6,bM];exact⟨j,l,trivial,trivial⟩⟩,dI.below m⟩
 | [],c=>simp[a6]at c
 | [_],c=>simp[a6]at c
 | _::_::_::_,c=>simp[a6]at c

def fM(S S':St):Prop:=∀k X,S k=some X->S' k=some X
def fM.refl(S:St):fM S S:=fun _ _ h=>h
def fM.upd(h:fM S S'){b:Nat}(c:S b=ab)(X:ft):fM S (S'.upd b X):=fun k Y a=>by
 have d:k≠b:=by rintro rfl;rw[c]at a;cases a
 rw[aO d];exact h k Y a
def fM.none(h:fM S S'){b:Nat}(a:S' b=ab):S b=ab:=by
 cases e:S b with
 | none=>rfl
 | some X=>rw[h b X e]at a;cases a
def fM.trans{S'':St}(h:fM S S')(k:fM S' S''):fM S S'':=fun b X a=>k b X (h b X a)
def fM.has(h:fM S S'){b ty es n:Nat}{g:Nat->AV}(a:bG S b ty es n g):bG S' b ty es n g:=by
 obtain⟨g',c,d⟩:=a;exact⟨g',h b _ c,d⟩
def co:AV->Nat
 | .int _ k=>k.toNat
 | _=>0
def en(S:St)(b ty es:Nat)(z:AV):Prop:=∃g,S b=some ⟨ty,es,1,g⟩/\g 0=z
def en.upd(h:en S b ty es z)(a:b≠c)(X:ft):en (S.upd c X) b ty es z:=by
 obtain⟨g,d,e⟩:=h;exact⟨g,by rw[aO a];exact d,e⟩
def en.new{g:Nat->AV}(h:g 0=z):en (S.upd b ⟨ty,es,1,g⟩) b ty es z:=⟨g,cp,h⟩
def en.set{g:Nat->AV}:en (S.upd b ⟨ty,es,1,bR g 0 z⟩) b ty es z:=⟨_,cp,by simp[bR]⟩
def en.fresh(h:en S b ty es z)(a:S c=ab):b≠c:=by
 rintro rfl;obtain⟨g,d,_⟩:=h;rw[d]at a;cases a
def ag(h:S.upd b X c=ab):c≠b/\S c=ab:=by
 simp only[St.upd]at h;by_cases e:c=b
 .rw[ah e]at h;cases h
 .rw[af e]at h;exact⟨e,h⟩
def Dw{f:Nat->Int}(h:∀j,j<n->nb (f j) k)(d:n<=1024):∀m,m<=n->nb (aq m f) (k+10):=by
 have key:∀m,m<=n->(aq m f).natAbs<=m*(2^k-1):=by
  intro m
  induction m with
  | zero=>intro _;simp[aq]
  | succ m ih =>
   intro a;have c:=ih om;have b:=h m om;unfold nb at b;simp only[aq];rw[dl];omega
 intro m a;have c:=key m a;have b:m*(2^k-1)<=1024*(2^k-1):=aD _ om;have e:0<2^k:=jX om;unfold nb;rw[fR];omega
def TB(n:Nat)(x y:Nat->Int)(k:Nat)(g:∀j,j<n->nb (x j) k)(h:∀j,j<n->nb (y j) k)(s:k<=1000000000)(t:n<=1000):PF 213 [bC n x,bC n y] (.big (aq n fun j=>x j*y j)):=by
 refine jo func213 ntmps213 results213 ?_;simp -dsimp only[go_sem,bC];refine aG.intro fun b u=>?_;simp -dsimp only[go_sem];refine aG.intro fun c l=>?_;have d:b≠c:=aj (ag l).1;simp only[go_sem];have m:=Dw (f:=fun j=>x j*y j) (k:=k+k) (fun j e=>(g j e).mul (h j e)) (om:n<=1024)
 refine aI (fun O S=>∃j:Nat,j<=n/\O 0=bC n x/\O 1=bC n y/\O 4=.ptr 2 b 0/\O 5=.ptr 2 c 0/\O 9=.int .i64 n/\O 10=.int .i64 j/\en S b 50 2 (.big 0)/\en S c 50 2 (.big (aq j fun j=>x j*y j))) (fun O S=>n-co (O 10)) ?_ ?_
 .simp only[go_sem,bC];exact⟨0,om,rfl,((en.new rfl).upd d _).upd d _,en.set⟩
 .rintro O S ⟨j,e,v,w,z,A,B,o,p,q⟩;obtain⟨gb,i,eb⟩:=p;obtain⟨gc,r,ec⟩:=q;by_cases a:j<n
  .simp -dsimp only[*,go_sem,co,bC];refine bD 11 kr ?_
   have C:IntKind.i64.wrap ((j:Int)+1)=((j+1:Nat):Int):=eF om om;simp only[*,go_sem,bC];exact⟨.big (x j*y j),(jl (g j a) (h j a) om).pure',.big ((aq j fun j=>x j*y j)+x j*y j),(ug (m j e) (((g j a).mul (h j a)).mono om) om).pure',trivial,
    ⟨j+1,om,rfl,en.upd ⟨gb,i,eb⟩ d _,en.set⟩,om⟩
  .simp only[*,go_sem,co,bC];obtain rfl:j=n:=om
   exact VR.mf rfl

def dlt{b:Int}(h:¬a<b):decide (a<b)=false:=by simpa using h
theorem DB{w:World}{M M':Nat->Prop}:∀(l:List AV) (vs:List Value),(∀x∈l,qZ x=true)->a6 w M l vs->a6 w M' l vs
 | [],[],_,_=>by simp[a6]
 | x::l,v::vs,h,a=>by
  simp only[a6]at a ⊢;exact⟨uC (h x (eU ..)) a.1,DB l vs (fun y b=>h y (d9 _ b)) a.2⟩
 | [],_::_,_,a=>by simp[a6]at a
 | _::_,[],_,a=>by simp[a6]at a
def VR.tup(h:∀x∈l,qZ x=true):VR S (.tup l) (.tup l):=by
 intro w v d a;simp only[bM]at a ⊢;obtain⟨vs,b,c⟩:=a;refine⟨vs,b,?_⟩;exact DB l vs h c
def og(n m:Nat)(A:Nat->Nat->Int)(f:1<=n)(g:n<=16)(h:1<=m)(i:m<=16):PF 104 [aU n m A] (.tup [.int .i64 n,.int .i64 m,.bool true]):=by
 refine jo func104 ntmps104 results104 ?_;have k:decide ((n:Int)<1)=false:=dlt om;have l:decide ((16:Int)<n)=false:=dlt om;have o:decide ((m:Int)<1)=false:=dlt om;have p:decide ((16:Int)<m)=false:=dlt om;simp only[*,go_sem,aU,bC];refine aI (fun O S=>∃j:Nat,j<=n/\O 0=aU n m A/\O 15=aU n m A/\O 16=.int .i64 n/\O 17=.int .i64 j) (fun O S=>n-co (O 17)) ?_ ?_
 .simp only[go_sem,aU,bC];exact⟨0,om,rfl⟩
 .rintro O S ⟨j,q,a,b,c,d⟩;by_cases e:j<n
  .have r:IntKind.i64.wrap ((j:Int)+1)=((j+1:Nat):Int):=eF om om;simp only[*,go_sem,aU,bC,co];exact⟨om,⟨j+1,om,rfl⟩,om⟩
  .simp -dsimp only[*,go_sem,aU,bC];refine bD 9 kr ?_
   simp only[go_sem,a,aU,bC]
   repeat refine an ?_
   exact VR.tup (by simp[qZ])
def pI(n:Nat)(A:Nat->Nat->Int)(a:1<=n)(b:n<=16):PF 115 [aU n n A] (.tup [.int .i64 n,.bool true]):=by
 refine jo func115 ntmps115 results115 ?_;simp -dsimp only[go_sem];refine(og n n A a b a b).call ?_;simp only[go_sem];exact VR.tup (by simp[qZ])

def je(S0 S:St)(b:Nat)(g:Nat->Nat)(n m:Nat)(A:Nat->Nat->Int):Prop:=dE S b g n m A/\fM S0 S/\S0 b=ab/\∀i,i<n->S0 (g i)=ab
def eQ(A:Nat->Nat->Int)(i j:Nat)(z:Int):Nat->Nat->Int:=fun a c=>if a=i/\c=j then z else A a c
def dE.outer_ne(h:dE S b g n m A){i:Nat}(a:i<n):b≠g i:=bG.ne h.outer (h.row i a) om
def dE.set(h:dE S b g n m A){i j:Nat}{z:Int}{g':Nat->AV}(k:i<n)(o:S (g i)=some ⟨50,2,m,g'⟩) :
  dE (S.upd (g i) ⟨50,2,m,bR g' j (.big z)⟩) b g n m (eQ A i j z):=by
 refine⟨h.outer.upd (h.outer_ne k) _,fun a d=>?_,h.inj⟩;by_cases e:a=i
 .subst e;obtain⟨s,l,p⟩:=h.row a d;rw[o]at l;cases l;refine bG.here fun c q=>?_;have:=p c q;simp only[bR,eQ]
  grind
 .have f:g a≠g i:=fun r=>e (h.inj a i d k r);refine((h.row a d).upd f _).congr fun c _=>?_;simp[eQ,e]
def je.set(h:je S0 S b g n m A){i j:Nat}{z:Int}{g':Nat->AV}(a:i<n)(c:S (g i)=some ⟨50,2,m,g'⟩) :
  je S0 (S.upd (g i) ⟨50,2,m,bR g' j (.big z)⟩) b g n m (eQ A i j z):=⟨h.1.set a c,h.2.1.upd (h.2.2.2 i a) _,h.2.2.1,h.2.2.2⟩
def dE.congr(h:dE S b g n m A)(c:∀i j,i<n->j<m->A i j=B i j):dE S b g n m B :=
 ⟨h.outer,fun i a=>(h.row i a).congr fun j d=>by rw[c i j a d],h.inj⟩
def je.congr(h:je S0 S b g n m A)(a:∀i j,i<n->j<m->A i j=B i j):je S0 S b g n m B:=⟨h.1.congr a,h.2⟩
def VR.tup2{y x' y':AV}(c:VR S x x')(d:VR S y y'):VR S (.tup [x,y]) (.tup [x',y']):=by
 intro w v a b;simp only[bM]at b ⊢;obtain⟨vs,e,h⟩:=b;refine⟨vs,e,?_⟩
 match vs,h with
 | [u,v],h=>simp only[a6]at h ⊢;exact⟨c w u a h.1,d w v a h.2.1,trivial⟩
 | [],h=>simp[a6]at h
 | [_],h=>simp[a6]at h
 | _::_::_::_,h=>simp[a6]at h
def vk(S0:St)(n m:Nat)(B:n<=1000)(C:m<=1000):cZ 102 [.int .i64 n,.int .i64 m] S0 (fun r S'=>∃b g,r=.sl 1 b 0 n/\je S0 S' b g n m (fun _ _=>0)):=by
 refine jI func102 ntmps102 results102 ?_;simp -dsimp only[go_sem];refine⟨om,aG.intro fun b o=>?_⟩
 refine aI (fun O S=>∃(k:Nat) (g:Nat->Nat),k<=n/\O 1=.int .i64 m/\O 5=.sl 1 b 0 n/\O 10=.int .i64 n/\O 11=.int .i64 k /\
  fM S0 S/\bG S b 59 1 n (fun i=>if i<k then .sl 2 (g i) 0 m else .nil)/\(∀i,i<k->jx S (g i) m (fun _=>0)/\S0 (g i)=ab)/\∀i j,i<k->j<k->g i=g j->i=j) (fun O S=>n-co (O 11)) ?_ ?_
 .simp only[go_sem];exact⟨0,om,rfl,(fM.refl S0).upd o _,fun _=>0,bG.here fun i _=>by simp,fun i a=>om,fun i j a=>om⟩
 .rintro O S ⟨k,g,D,E,F,v,w,h,s,f,t⟩;by_cases x:k<n
  .have G:IntKind.i64.wrap ((k:Int)+1)=((k+1:Nat):Int):=eF om om;simp -dsimp only[*,go_sem];refine⟨om,aG.intro fun c d=>?_⟩
   obtain⟨g',u,p⟩:=s;have q:b≠c:=by rintro rfl;rw[u]at d;cases d
   simp only[*,go_sem,co]
   repeat refine an ?_
   refine⟨⟨k+1,om,rfl,(h.upd (h.none d) _).upd o _,fun i=>if i=k then c else g i,bG.here fun i a=>?_,fun i a=>?_,fun i j a H e=>?_⟩,om⟩
   .have:=p i a;grind [bR]
   .by_cases e:i=k
    .simp only[e,aK];exact⟨(bG.here fun _ _=>rfl).upd (aj q) _,h.none d⟩
    .simp only[e,aM];obtain⟨l,y⟩:=f i om;exact⟨(l.upd (bG.fresh l d) _).upd (fun e=>by rw[e]at l;exact bG.ne (bG.of u) l om rfl) _,y⟩
   .by_cases z:i=k<;>by_cases A:j=k<;>simp only[z,A,aK,aM]at e ⊢
    .exact absurd e.symm (bG.fresh (f j om).1 d)
    .exact absurd e (bG.fresh (f i om).1 d)
    .exact t i j om om e
  .simp only[*,go_sem];obtain rfl:k=n:=om
   exact⟨b,rfl,g,⟨s.congr fun i a=>by rw[ah a],fun i a=>(f i a).1,t⟩,h,o,fun i a=>(f i a).2⟩

def aS(h:k<1000000):IntKind.i64.wrap ((k:Int)+1)=((k+1:Nat):Int):=eF om om
def ta(z:Int):Prop:=-9223372036854775808<=z/\z<=9223372036854775807
def vL(S0:St)(n m:Nat)(A:Nat->Nat->Int)(E:1<=n)(F:n<=16)(G:1<=m)(H:m<=16)(o:∀i j,i<n->j<m->ta (A i j)) :
  cZ 55 [aC n m A] S0 (fun r S'=>∃b g,r=.tup [.sl 1 b 0 n,.bool true]/\je S0 S' b g n m A):=by
 refine jI func55 ntmps55 results55 ?_;have I:decide ((n:Int)<1)=false:=dlt om;have J:decide ((16:Int)<n)=false:=dlt om;have K:decide ((m:Int)<1)=false:=dlt om;have L:decide ((16:Int)<m)=false:=dlt om;simp only[*,go_sem,aC,aW];refine aI (fun O S=>∃k:Nat,k<=n/\O 0=aC n m A/\O 17=aC n m A/\O 18=.int .i64 n/\O 19=.int .i64 k/\S=S0) (fun O S=>n-co (O 19)) ?_ ?_
 .simp only[go_sem,aC,aW];exact⟨0,om,rfl⟩
 .rintro O S ⟨k,p,f,q,s,t,rfl⟩;by_cases a:k<n
  .simp only[*,go_sem,aC,aW,aS (om:k<1000000),co]
   exact⟨om,⟨k+1,om,rfl⟩,om⟩
  .simp -dsimp only[*,go_sem,aC,aW]
   repeat refine an ?_
   refine(vk S n m om om).mono ?_;rintro r S1 ⟨b,g,rfl,u⟩;simp only[go_sem,aC,aW,f];refine aI (fun O S'=>∃k:Nat,k<=n/\O 0=aC n m A/\O 6=.sl 1 b 0 n/\O 49=.int .i64 n/\O 50=.int .i64 k/\je S S' b g n m (fun i j=>if i<k then A i j else 0)) (fun O S=>n-co (O 50)) ?_ ?_
   .simp only[go_sem,aC,aW,f];exact⟨0,om,rfl,u.congr sm⟩
   .rintro O S1 ⟨k,p,f,v,h,l,d⟩;by_cases a:k<n
    .simp only[*,go_sem,aC,aW];refine aI (fun O S'=>∃j:Nat,j<=m/\O 0=aC n m A/\O 6=.sl 1 b 0 n/\O 7=.int .i64 k/\O 49=.int .i64 n/\O 50=.int .i64 k/\O 57=.int .i64 m/\O 58=.int .i64 j/\je S S' b g n m (fun i c=>if i<k∨(i=k/\c<j)then A i c else 0)) (fun O S=>m-co (O 58)) ?_ ?_
     .simp only[*,go_sem,aC,aW];exact⟨0,om,rfl,d.congr sm⟩
     .rintro O S2 ⟨j,w,f,v,M,h,l,x,y,d⟩;by_cases e:j<m
      .obtain⟨N,P,z⟩:=d.1.outer;obtain⟨Q,B,R⟩:=d.1.row k a;have C:=z k a;simp -dsimp only[*,go_sem,aC,aW];refine bD 13 kr ?_
       simp only[*,go_sem,aC,aW,aS (om:j<1000000)]
       repeat refine an ?_
       refine⟨_,(gQ (o k j a e).1 (o k j a e).2).pure',om,trivial,⟨j+1,om,rfl,(d.set a B).congr fun i c _ _=>?_⟩,by simp only[co,eg];omega⟩
       simp only[eQ]
       grind
      .simp only[*,go_sem,aC,aW,co,aS (om:k<1000000)]
       refine⟨⟨k+1,om,rfl,d.congr fun i c D T=>?_⟩,om⟩
       grind
    .simp only[*,go_sem,aC,aW];exact⟨b,rfl,g,d.congr fun i j D w=>by rw[ah om]⟩
def je.vr(h:je S0 S b g n m A):VR S (.sl 1 b 0 n) (aU n m A):=h.1.vr
def OG(S0:St)(n m:Nat)(A:Nat->Nat->Int)(a:1<=n)(c:n<=16)(d:1<=m)(e:m<=16)(f:∀i j,i<n->j<m->ta (A i j)) :
  cZ 27 [aC n m A] S0 (fun r S'=>∃b g,r=.sl 1 b 0 n/\je S0 S' b g n m A):=by
 refine jI func27 ntmps27 results27 ?_;simp -dsimp only[go_sem];refine(vL S0 n m A a c d e f).mono ?_;rintro r S1 ⟨b,g,rfl,h⟩;simp only[go_sem];exact⟨b,rfl,g,h⟩
def tc(n m:Nat)(A:Nat->Nat->Int)(a:1<=n)(c:n<=16)(d:1<=m)(f:m<=16)(k:∀i j,i<n->j<m->ta (A i j)):PF 27 [aC n m A] (aU n m A) :=
 PF.of_spec ((OG _ n m A a c d f k).mono fun r S' ⟨b,g,e,h⟩=>e▸h.vr)

def AB:AV->Bool
 | .int _ _=>true
 | .bool _=>true
 | .big _=>true
 | .nil=>true
 | .sl _ _ _ _=>true
 | .ptr _ _ _=>true
 | _=>false
def clb:AV->Bool
 | .tup l=>l.all AB
 | x=>AB x
def AA(h:AB x=true)(a:bM w M x v):bM w M' x v:=by
 cases x<;>simp only[AB,bK]at h<;>simpa only[bM]using a
theorem F4{w:World}{M M':Nat->Prop}:∀(l:List AV) (vs:List Value),l.all AB=true->a6 w M l vs->a6 w M' l vs
 | [],[],_,_=>by simp[a6]
 | x::l,v::vs,h,a=>by
  simp only[a6,List.all_cons,ay]at h a ⊢;exact⟨AA h.1 a.1,F4 l vs h.2 a.2⟩
 | [],_::_,_,a=>by simp[a6]at a
 | _::_,[],_,a=>by simp[a6]at a
def QU(h:clb x=true)(a:bM w M x v):bM w M' x v:=by
 cases x<;>first
  | (simp only[clb]at h;exact AA h a)
  | (simp only[clb]at h;simp only[bM]at a ⊢;obtain⟨vs,e,b⟩:=a;exact⟨vs,e,F4 _ _ h b⟩)
def St.join(S S1:St):St:=fun b=>match S b with
 | some X=>some X
 | ab=>S1 b
def Kq(S:St):Prop:=∀b X,S b=some X->∀j,j<X.n->AB (X.g j)=true
def cZ.frame(h:cZ f args' St.none post)(B:fH S args args')(C:∀r S1,post r S1->clb r=true/\Kq S1) :
  cZ f args S (fun r S'=>∃S1,post r S1/\(∀b X,S b=some X->S1 b=ab)/\S'=S.join S1):=by
 intro w vs i D;refine(h w vs (fun b x E=>by simp[St.none]at E) (a6.turn (fun _ _ g=>absurd rfl g) _ _ (yR i _ _ _ B D))).mono ?_
 rintro e w' ⟨v,r,S1,rfl,y,F,G,c⟩;obtain⟨H,I⟩:=C r S1 y;have m:∀b X,S b=some X->b<w.heap.size:=fun b X a=>by obtain⟨cs,d,_⟩:=i b X a;exact gJ d
 have z:∀b,b<w.heap.size->S1 b=ab:=fun b J=>by
  cases e:S1 b with
  | none=>rfl
  | some Y=>exact absurd (c.own b J (by simp[St.dom,e])) (by simp[St.dom,St.none])
 have A:dI S.dom (S.join S1).dom w w':=⟨c.os,c.tape,c.output,c.size,fun k g _=>c.keep k g (by simp[St.dom,St.none]),c.shape,fun k g n=>by
  simp only[St.dom,St.join]at n ⊢
  cases e:S k with
  | none=>rw[e]at n;exact absurd (z k g) n
  | some X=>simp⟩
 refine⟨v,r,S.join S1,rfl,⟨S1,y,fun b X a=>z b (m b X a),rfl⟩,QU H F,?_,A⟩;intro b X a;simp only[St.join]at a
 cases e:S b with
 | some Y =>
  rw[e]at a;cases a;obtain⟨cs,d,o,p,q⟩:=i b X e;refine⟨cs,by rw[c.keep b (gJ d) (by simp[St.dom,St.none])];exact d,o,fun j l=>?_,q⟩
  obtain⟨u,s,t⟩:=p j l;exact⟨u,s,bM.grow i.noU A _ _ t⟩
 | none =>
  rw[e]at a;obtain⟨cs,d,o,p,q⟩:=G b X a;refine⟨cs,d,o,fun j l=>?_,q⟩;obtain⟨u,s,t⟩:=p j l;exact⟨u,s,AA (I b X a j l) t⟩
def rF(S S1:St):fM S (S.join S1):=fun k X h=>by simp[St.join,h]
def Ag(a:∀b X,S b=some X->S1 b=ab){b:Nat}{X:ft}(h:S1 b=some X):S.join S1 b=some X/\S b=ab:=by
 cases e:S b with
 | some Y=>rw[a b Y e]at h;cases h
 | none=>exact⟨by simp[St.join,e,h],rfl⟩
def bG.join(a:∀b X,S b=some X->S1 b=ab){b ty es n:Nat}{g:Nat->AV}(h:bG S1 b ty es n g):bG (S.join S1) b ty es n g/\S b=ab:=by
 obtain⟨g',c,d⟩:=h;exact⟨⟨g',(Ag a c).1,d⟩,(Ag a c).2⟩
def dE.join(a:∀b X,S b=some X->S1 b=ab){b:Nat}{g:Nat->Nat}{n m:Nat}{A:Nat->Nat->Int}(h:dE S1 b g n m A):je S (S.join S1) b g n m A :=
 ⟨⟨(h.outer.join a).1,fun i c=>((h.row i c).join a).1,h.inj⟩,rF S S1,(h.outer.join a).2,fun i c=>((h.row i c).join a).2⟩
def cZ.less(h:cZ f args S post)(c:∀r S',post r S'->∃S'',(∀b X,S'' b=some X->S' b=some X)/\post' r S''):cZ f args S post':=by
 intro w vs d g;refine(h w vs d g).mono ?_;rintro e w' ⟨v,r,S1,rfl,i,j,l,m⟩;obtain⟨S2,n,o⟩:=c r S1 i;obtain⟨p,a⟩:=l.less n;exact⟨v,r,S2,rfl,o,bM.turn (fun k _ q=>a k q) _ _ j,p,m.weaken a⟩
def ik(S:St)(b:Nat)(g:Nat->Nat)(n:Nat):St:=fun k=>if k=b then S k else if ∃i,i<n/\k=g i then S k else ab
def jQ(S:St)(b:Nat)(g:Nat->Nat)(n:Nat):∀c X,ik S b g n c=some X->S c=some X:=by
 intro c X h;unfold ik at h;split at h
 .exact h
 .split at h
  .exact h
  .cases h
def dE.only(h:dE S b g n m A):dE (ik S b g n) b g n m A/\Kq (ik S b g n):=by
 refine⟨⟨?_,fun i k=>?_,h.inj⟩,fun c X f j l=>?_⟩
 .obtain⟨g',a,d⟩:=h.outer;exact⟨g',by simp[ik,a],d⟩
 .obtain⟨g',a,d⟩:=h.row i k;refine⟨g',?_,d⟩;unfold ik;split
  .exact a
  .rw[ah ⟨i,k,rfl⟩];exact a
 .unfold ik at f;split at f
  .rename_i e;subst e;obtain⟨g',a,d⟩:=h.outer;rw[f]at a;cases a;show AB (g' j)=true;rw[d j l];rfl
  .split at f
   .rename_i e;obtain⟨i,k,rfl⟩:=e;obtain⟨g',a,d⟩:=h.row i k;rw[f]at a;cases a;show AB (g' j)=true;rw[d j l];rfl
   .cases f
def MF(f:Nat)(args:List AV)(n m:Nat)(A:Nat->Nat->Int):Prop:=∀S args',fH S args' args->cZ f args' S (fun r S'=>∃b g,r=.sl 1 b 0 n/\je S S' b g n m A)
def CQ(f:Nat)(args:List AV)(n m:Nat)(A:Nat->Nat->Int):Prop:=∀S args',fH S args' args->cZ f args' S (fun r S'=>∃b g,r=.tup [.sl 1 b 0 n,.bool true]/\je S S' b g n m A)
def MF.of(h:cZ f args St.none (fun r S'=>∃b g,r=.sl 1 b 0 n/\dE S' b g n m A)):MF f args n m A:=fun S args' c=>by
 have d:cZ f args St.none (fun r S'=>∃b g,r=.sl 1 b 0 n/\dE S' b g n m A/\Kq S'):=h.less fun r S' ⟨b,g,e,a⟩=>⟨ik S' b g n,jQ S' b g n,b,g,e,a.only.1,a.only.2⟩;refine(d.frame c ?_).mono ?_
 .rintro r S1 ⟨b,g,rfl,_,i⟩;exact⟨rfl,i⟩
 .rintro r S' ⟨S1,⟨b,g,rfl,a,_⟩,j,rfl⟩;exact⟨b,g,rfl,a.join j⟩
def CQ.of(h:cZ f args St.none (fun r S'=>∃b g,r=.tup [.sl 1 b 0 n,.bool true]/\dE S' b g n m A)):CQ f args n m A:=fun S args' c=>by
 have d:cZ f args St.none (fun r S'=>∃b g,r=.tup [.sl 1 b 0 n,.bool true]/\dE S' b g n m A/\Kq S'):=h.less fun r S' ⟨b,g,e,a⟩=>⟨ik S' b g n,jQ S' b g n,b,g,e,a.only.1,a.only.2⟩;refine(d.frame c ?_).mono ?_
 .rintro r S1 ⟨b,g,rfl,_,i⟩;exact⟨rfl,i⟩
 .rintro r S' ⟨S1,⟨b,g,rfl,a,_⟩,j,rfl⟩;exact⟨b,g,rfl,a.join j⟩
def MF.pf(h:MF f args n m A):PF f args (aU n m A) :=
 PF.of_spec ((h St.none args (cY _ _)).mono fun _ _ ⟨_,_,e,h⟩=>e▸h.vr)
def CQ.pf(h:CQ f args n m A):PF f args (.tup [aU n m A,.bool true]) :=
 PF.of_spec ((h St.none args (cY _ _)).mono fun _ _ ⟨_,_,e,h⟩=>e▸VR.tup2 h.vr (VR.mf rfl))
def MF.congr(h:MF f args n m A)(a:∀i j,i<n->j<m->A i j=B i j):MF f args n m B:=fun S args' c=>(h S args' c).mono fun _ _ ⟨b,g,e,d⟩=>⟨b,g,e,d.congr a⟩
def Eh(n m:Nat)(a:n<=1000)(c:m<=1000):MF 102 [.int .i64 n,.int .i64 m] n m (fun _ _=>0):=MF.of ((vk _ n m a c).mono fun _ _ ⟨b,g,e,h⟩=>⟨b,g,e,h.1⟩)
def Of_mf(n m:Nat)(A:Nat->Nat->Int)(a:1<=n)(c:n<=16)(d:1<=m)(f:m<=16)(k:∀i j,i<n->j<m->ta (A i j)):MF 27 [aC n m A] n m A:=MF.of ((OG _ n m A a c d f k).mono fun _ _ ⟨b,g,e,h⟩=>⟨b,g,e,h.1⟩)
def fH.mat(h:dE S b g n m A){l r:List AV}(a:fH S l r):fH S (.sl 1 b 0 n::l) (aU n m A::r):=⟨h.vr.va,a⟩
def fH.same{r:List AV}(a:fH S l r):fH S (x::l) (x::r):=⟨VA.refl S x,a⟩
def fH.nil:fH S [] []:=trivial

def qL(S0 S:St)(b:Nat)(g:Nat->Nat)(n m:Nat)(A:Nat->Nat->Int):Prop:=dZ S b g n m A/\fM S0 S/\S0 b=ab/\∀i,i<n->S0 (g i)=ab
def dZ.outer_ne(h:dZ S b g n m A){i:Nat}(a:i<n):b≠g i:=bG.ne h.outer (h.row i a) om
def dZ.set(h:dZ S b g n m A){i j:Nat}{z:Int}{g':Nat->AV}(k:i<n)(o:S (g i)=some ⟨2,1,m,g'⟩) :
  dZ (S.upd (g i) ⟨2,1,m,bR g' j (.int .i64 z)⟩) b g n m (eQ A i j z):=by
 refine⟨h.outer.upd (h.outer_ne k) _,fun a d=>?_,h.inj⟩;by_cases e:a=i
 .subst e;obtain⟨s,l,p⟩:=h.row a d;rw[o]at l;cases l;refine bG.here fun c q=>?_;have:=p c q;simp only[bR,eQ]
  grind
 .have f:g a≠g i:=fun r=>e (h.inj a i d k r);refine((h.row a d).upd f _).congr fun c _=>?_;simp[eQ,e]
def dZ.congr(h:dZ S b g n m A)(c:∀i j,i<n->j<m->A i j=B i j):dZ S b g n m B :=
 ⟨h.outer,fun i a=>(h.row i a).congr fun j d=>by rw[c i j a d],h.inj⟩
def dZ.join(a:∀b X,S b=some X->S1 b=ab){b:Nat}{g:Nat->Nat}{n m:Nat}{A:Nat->Nat->Int}(h:dZ S1 b g n m A):qL S (S.join S1) b g n m A :=
 ⟨⟨(h.outer.join a).1,fun i c=>((h.row i c).join a).1,h.inj⟩,rF S S1,(h.outer.join a).2,fun i c=>((h.row i c).join a).2⟩
def dZ.only(h:dZ S b g n m A):dZ (ik S b g n) b g n m A/\Kq (ik S b g n):=by
 refine⟨⟨?_,fun i k=>?_,h.inj⟩,fun c X f j l=>?_⟩
 .obtain⟨g',a,d⟩:=h.outer;exact⟨g',by simp[ik,a],d⟩
 .obtain⟨g',a,d⟩:=h.row i k;refine⟨g',?_,d⟩;unfold ik;split
  .exact a
  .rw[ah ⟨i,k,rfl⟩];exact a
 .unfold ik at f;split at f
  .rename_i e;subst e;obtain⟨g',a,d⟩:=h.outer;rw[f]at a;cases a;show AB (g' j)=true;rw[d j l];rfl
  .split at f
   .rename_i e;obtain⟨i,k,rfl⟩:=e;obtain⟨g',a,d⟩:=h.row i k;rw[f]at a;cases a;show AB (g' j)=true;rw[d j l];rfl
   .cases f
def SG(f:Nat)(args:List AV)(n m:Nat)(A:Nat->Nat->Int):Prop:=∀S args',fH S args' args->cZ f args' S (fun r S'=>∃b g,r=.sl 1 b 0 n/\qL S S' b g n m A)
def L6(f:Nat)(args:List AV)(n m:Nat)(A:Nat->Nat->Int):Prop:=∀S args',fH S args' args->cZ f args' S (fun r S'=>∃b g,r=.tup [.sl 1 b 0 n,.bool true]/\qL S S' b g n m A)
def SG.of(h:cZ f args St.none (fun r S'=>∃b g,r=.sl 1 b 0 n/\dZ S' b g n m A)):SG f args n m A:=fun S args' c=>by
 have d:cZ f args St.none (fun r S'=>∃b g,r=.sl 1 b 0 n/\dZ S' b g n m A/\Kq S'):=h.less fun r S' ⟨b,g,e,a⟩=>⟨ik S' b g n,jQ S' b g n,b,g,e,a.only.1,a.only.2⟩;refine(d.frame c ?_).mono ?_
 .rintro r S1 ⟨b,g,rfl,_,i⟩;exact⟨rfl,i⟩
 .rintro r S' ⟨S1,⟨b,g,rfl,a,_⟩,j,rfl⟩;exact⟨b,g,rfl,a.join j⟩
def L6.of(h:cZ f args St.none (fun r S'=>∃b g,r=.tup [.sl 1 b 0 n,.bool true]/\dZ S' b g n m A)):L6 f args n m A:=fun S args' c=>by
 have d:cZ f args St.none (fun r S'=>∃b g,r=.tup [.sl 1 b 0 n,.bool true]/\dZ S' b g n m A/\Kq S'):=h.less fun r S' ⟨b,g,e,a⟩=>⟨ik S' b g n,jQ S' b g n,b,g,e,a.only.1,a.only.2⟩;refine(d.frame c ?_).mono ?_
 .rintro r S1 ⟨b,g,rfl,_,i⟩;exact⟨rfl,i⟩
 .rintro r S' ⟨S1,⟨b,g,rfl,a,_⟩,j,rfl⟩;exact⟨b,g,rfl,a.join j⟩
def fH.imat(h:dZ S b g n m A){l r:List AV}(a:fH S l r):fH S (.sl 1 b 0 n::l) (aC n m A::r):=⟨h.vr.va,a⟩

def kR(i j:Nat):Int:=if i=j then 1 else 0
def rU(n:Nat)(p:1<=n)(q:n<=16):CQ 111 [.int .i64 n] n n kR:=by
 refine CQ.of ?_;refine jI func111 ntmps111 results111 ?_;have s:¬((n:Int)<1):=om
 have t:¬((16:Int)<n):=om
 simp -dsimp only[*,go_sem];refine(Eh n n om om _ _ (cY _ _)).mono ?_;rintro r S1 ⟨b,g,rfl,e⟩;simp only[go_sem];refine aI (fun O S'=>∃k:Nat,k<=n/\O 4=.sl 1 b 0 n/\O 16=.int .i64 n/\O 17=.int .i64 k/\dE S' b g n n (fun i j=>if i<k then kR i j else 0)) (fun O S=>n-co (O 17)) ?_ ?_
 .simp only[go_sem];exact⟨0,om,rfl,e.1.congr sm⟩
 .rintro O S ⟨k,u,v,f,h,d⟩;by_cases a:k<n
  .obtain⟨w,x,l⟩:=d.outer;obtain⟨y,m,z⟩:=d.row k a;have o:=l k a;simp -dsimp only[*,go_sem];refine bD 6 kr ?_
   simp only[*,go_sem,aS (om:k<1000000),co]
   repeat refine an ?_
   refine⟨_,(gQ dc dc).pure',om,trivial,⟨k+1,om,rfl,(d.set a m).congr fun i c _ _=>?_⟩,om⟩
   simp only[eQ,kR]
   grind
  .simp only[*,go_sem];exact⟨b,rfl,g,d.congr fun i j A B=>by rw[ah om]⟩
def nN(n m:Nat)(A:Nat->Nat->Int)(k:Nat)(l:1<=n)(o:n<=16)(p:1<=m)(q:m<=16)(s:∀i j,i<n->j<m->nb (A i j) k)(t:k<=8589934592):CQ 100 [aU n m A] m n (fun i j=>A j i):=by
 refine CQ.of ?_;refine jI func100 ntmps100 results100 ?_;simp -dsimp only[go_sem];refine(og n m A l o p q).call ?_;simp -dsimp only[go_sem];refine(Eh m n om om _ _ (cY _ _)).mono ?_;rintro r S1 ⟨b,g,rfl,u⟩;simp only[go_sem,aU,bC];refine aI (fun O S'=>∃k:Nat,k<=n/\O 0=aU n m A/\O 7=.sl 1 b 0 m/\O 22=.int .i64 n/\O 23=.int .i64 k/\dE S' b g m n (fun i j=>if j<k then A j i else 0)) (fun O S=>n-co (O 23)) ?_ ?_
 .simp only[go_sem,aU,bC];exact⟨0,om,rfl,u.1.congr sm⟩
 .rintro O S ⟨k,t,v,w,e,f,d⟩;by_cases h:k<n
  .simp only[*,go_sem,aU,bC];refine aI (fun O S'=>∃j:Nat,j<=m/\O 0=aU n m A/\O 7=.sl 1 b 0 m/\O 8=.int .i64 k/\O 22=.int .i64 n/\O 23=.int .i64 k/\O 30=.int .i64 m/\O 31=.int .i64 j/\dE S' b g m n (fun i c=>if c<k∨(c=k/\i<j)then A c i else 0)) (fun O S=>m-co (O 31)) ?_ ?_
   .simp only[*,go_sem,aU,bC];exact⟨0,om,rfl,d.congr sm⟩
   .rintro O S ⟨j,x,v,w,F,e,f,y,z,d⟩;by_cases a:j<m
    .obtain⟨G,H,B⟩:=d.outer;obtain⟨I,C,J⟩:=d.row j a;have D:=B j a;simp -dsimp only[*,go_sem,aU,bC];refine bD 13 kr ?_
     simp only[*,go_sem,aU,bC,aS (om:j<1000000),co]
     repeat refine an ?_
     refine⟨_,(Fp (s k j h a) om).pure',om,trivial,⟨j+1,om,rfl,(d.set a C).congr fun i c _ _=>?_⟩,om⟩
     simp only[eQ]
     grind
    .simp only[*,go_sem,aU,bC,aS (om:k<1000000),co]
     refine⟨⟨k+1,om,rfl,d.congr fun i c E K=>?_⟩,om⟩
     grind
  .simp only[*,go_sem,aU,bC];exact⟨b,rfl,g,d.congr fun i j E x=>by rw[ah om]⟩

def FG(a:Nat):kR a=du a:=by
 funext b;simp only[kR,du];split<;>split<;>first|rfl|omega
def wD{a:Nat}(d:a<n)(e:b<n):gT Q n kR a b=Q a b:=by
 unfold gT;rw[FG,FG,AH d,cJ b e (fun i _ c=>by simp[du,c])]
 simp[du]
theorem J2:∀n,det n (sJ kR)=1
 | 0=>rfl
 | n+1=>by
  rw[sh _ (fun i _=>by simp[sJ,kR])]
  have e:(fun i j=>sJ kR (i+1) (j+1))=sJ kR:=by
   funext i j;simp only[sJ,kR];split<;>split<;>first|rfl|omega
  rw[e,J2 n];simp[sJ,kR]
def qw(c:k<=n):det k (gT Q n kR)=det k Q:=bI fun a b d e=>wD om om
def Ub.init{d e:Nat}(f:Pd Q n)(m:1<=n)(o:∀i,i<n->Q i i<=2^e)(p:e*n<=d):Ub Q n d 1 kR:=by
 have q:Pd (gT Q n kR) n:=⟨fun a b g h=>by rw[wD g h,wD h g];exact f.sym a b g h,fun k c=>by rw[qw c];exact f.pos k c⟩
 have s:e<=d:=a9 (Rw e m) p;refine⟨ae _,m,⟨q,fun k c=>?_,by rw[J2];rfl,fun i l=>?_⟩,⟨fun r t j w=>om,fun r x t=>om⟩,qw (ae n)⟩
 .rw[qw c];have u:=f.det_le o k c;have v:((2:Int)^e)^k<=2^d:=by
   rw[<-Int.pow_mul];exact iY (a9 (aL e c) p)
  exact gD u v
 .rw[wD l l];exact gD (o i l) (iY om)

def dE.ext(h:dE S b g n m A)(a:fM S S'):dE S' b g n m A:=⟨a.has h.outer,fun i c=>a.has (h.row i c),h.inj⟩
def dZ.ext(h:dZ S b g n m A)(a:fM S S'):dZ S' b g n m A:=⟨a.has h.outer,fun i c=>a.has (h.row i c),h.inj⟩
def fH.ints(h:jx S b n r){l l':List AV}(a:fH S l l'):fH S (.sl 2 b 0 n::l) (bC n r::l'):=⟨h.vr.va,a⟩
def fH.i64s(h:ku S b n r){l l':List AV}(a:fH S l l'):fH S (.sl 1 b 0 n::l) (aW n r::l'):=⟨h.vr.va,a⟩
def kB(m:Nat)(A B:Nat->Nat->Int)(i j:Nat):Int:=aq m fun k=>A i k*B k j
def Uc(n m q:Nat)(A B:Nat->Nat->Int)(k:Nat)(w:1<=n)(x:n<=16)(t:1<=m)(u:m<=16)(y:1<=q)(z:q<=16)(C:∀i j,i<n->j<m->nb (A i j) k)(v:∀i j,i<m->j<q->nb (B i j) k)
  (T:k<=1000000000):CQ 164 [aU n m A,aU m q B] n q (kB m A B):=by
 refine CQ.of ?_;refine jI func164 ntmps164 results164 ?_;simp -dsimp only[go_sem];refine(og n m A w x t u).call ?_;simp -dsimp only[go_sem];refine(nN m q B k t u y z v om _ _ (cY _ _)).mono ?_;rintro r S1 ⟨bt,gt,rfl,D⟩;simp -dsimp only[go_sem,aU,bC,i7];refine(Eh n q om om _ _ (cY _ _)).mono ?_;rintro r S2 ⟨b,g,rfl,E⟩;simp only[go_sem];refine aI (fun O S'=>∃k:Nat,k<=n/\O 0=aU n m A/\O 9=.sl 1 bt 0 q/\O 11=.sl 1 b 0 n/\O 43=.int .i64 n/\O 44=.int .i64 k/\je S1 S' b g n q (fun i j=>if i<k then kB m A B i j else 0)) (fun O S=>n-co (O 44)) ?_ ?_
 .simp only[go_sem,aU,bC];exact⟨0,om,rfl,E.congr sm⟩
 .rintro O S ⟨i,F,G,H,o,p,s,e⟩;by_cases d:i<n
  .simp only[*,go_sem,aU,bC];refine aI (fun O S'=>∃j:Nat,j<=q/\O 0=aU n m A/\O 9=.sl 1 bt 0 q/\O 11=.sl 1 b 0 n/\O 12=.int .i64 i/\O 43=.int .i64 n/\O 44=.int .i64 i/\O 48=.int .i64 q/\O 49=.int .i64 j/\je S1 S' b g n q (fun a c=>if a<i∨(a=i/\c<j)then kB m A B a c else 0)) (fun O S=>q-co (O 49)) ?_ ?_
   .simp only[*,go_sem,aU,bC];exact⟨0,om,rfl,e.congr sm⟩
   .rintro O S ⟨j,I,G,H,o,J,p,s,K,L,e⟩;by_cases f:j<q
    .obtain⟨U,V,M⟩:=e.1.outer;obtain⟨W,N,X⟩:=e.1.row i d;have P:=M i d;have h:=D.1.ext e.2.1;obtain⟨Y,Z,Q⟩:=h.outer;have R:=Q j f;simp -dsimp only[*,go_sem,aU,bC];refine bD 14 kr ?_
     simp only[*,go_sem,aU,bC,aS (om:j<1000000),co]
     repeat refine an ?_
     refine⟨_,(TB m (A i) (fun c=>B c j) k (fun c l=>C i c d l) (fun c l=>v c j l f) om om).pureS (fH.same (fH.ints (h.row j f) fH.nil)),om,trivial,⟨j+1,om,rfl,(e.set d N).congr fun a c _ _=>?_⟩,om⟩
     simp only[eQ,kB]
     grind
    .simp only[*,go_sem,aU,bC,aS (om:i<1000000),co]
     refine⟨⟨i+1,om,rfl,e.congr fun a c ha l=>?_⟩,om⟩
     grind
  .simp only[*,go_sem,aU,bC];exact⟨b,rfl,g,e.1.congr fun i j F I=>by rw[ah om]⟩
def kJ(n m q:Nat)(A B:Nat->Nat->Int)(k:Nat)(a:1<=n)(c:n<=16)(d:1<=m)(e:m<=16)(f:1<=q)(h:q<=16)(l:∀i j,i<n->j<m->nb (A i j) k)(o:∀i j,i<m->j<q->nb (B i j) k)
  (p:k<=1000000000):MF 101 [aU n m A,aU m q B] n q (kB m A B):=by
 refine MF.of ?_;refine jI func101 ntmps101 results101 ?_;simp -dsimp only[go_sem];refine(Uc n m q A B k a c d e f h l o p _ _ (cY _ _)).mono ?_;rintro r S1 ⟨b,g,rfl,s⟩;simp only[go_sem];exact⟨b,rfl,g,s.1⟩
def su(n m:Nat)(A:Nat->Nat->Int)(I:1<=n)(J:n<=16)(K:1<=m)(L:m<=16)(M:∀i j,i<n->j<m->iT (A i j)):L6 46 [aU n m A] n m A:=by
 refine L6.of ?_;refine jI func46 ntmps46 results46 ?_;simp -dsimp only[go_sem];refine(og n m A I J K L).call ?_;simp -dsimp only[go_sem]
 repeat refine an ?_
 refine aG.intro fun b W=>?_;simp only[go_sem];refine aI (fun O S=>∃(k:Nat) (g:Nat->Nat),k<=n/\O 0=aU n m A/\O 5=.int .i64 m/\O 7=.sl 1 b 0 n/\O 23=.int .i64 n/\O 24=.int .i64 k /\
  bG S b 29 1 n (fun i=>if i<k then .sl 1 (g i) 0 m else .nil)/\(∀i,i<k->ku S (g i) m (A i))/\∀i j,i<k->j<k->g i=g j->i=j) (fun O S=>n-co (O 24)) ?_ ?_
 .simp only[go_sem,aU,bC];exact⟨0,om,rfl,fun _=>0,bG.here fun i _=>by simp,fun i a=>om,fun i j a=>om⟩
 .rintro O S ⟨k,g,X,y,z,B,l,o,p,d,C⟩;by_cases f:k<n
  .simp -dsimp only[*,go_sem]
   repeat refine an ?_
   refine aG.intro fun c u=>?_;obtain⟨g',D,v⟩:=p;have q:b≠c:=by rintro rfl;rw[D]at u;cases u
   have h:∀i,i<k->g i≠c:=fun i a=>bG.fresh (d i a) u;simp only[*,go_sem,bR]
   repeat refine an ?_
   refine aI (fun O S'=>∃j:Nat,j<=m/\O 0=aU n m A/\O 5=.int .i64 m/\O 7=.sl 1 b 0 n/\O 8=.int .i64 k/\O 23=.int .i64 n/\O 24=.int .i64 k/\O 36=.int .i64 m/\O 37=.int .i64 j /\
    bG S' b 29 1 n (fun i=>if i<k then .sl 1 (g i) 0 m else if i=k then .sl 1 c 0 m else .nil)/\(∀i,i<k->ku S' (g i) m (A i))/\ku S' c m (fun t=>if t<j then A k t else 0)) (fun O S=>m-co (O 37)) ?_ ?_
   .simp only[*,go_sem];refine⟨0,om,rfl,bG.here fun i a=>?_,fun i a=>((d i a).upd (bG.fresh (d i a) u) _).upd (aj (bG.ne (bG.of D) (d i a) om)) _,(bG.here fun _ _=>by simp).upd (aj q) _⟩
    have:=v i a
    grind [bR]
   .rintro O S' ⟨j,N,y,z,B,P,l,o,w,x,p,d,E⟩;by_cases r:j<m
    .obtain⟨Q,F,G⟩:=p;obtain⟨Y,R,T⟩:=E;have s:=G k f;simp only[cT,aM,aK]at s;simp -dsimp only[*,go_sem,aU,bC];refine(Ck (M k j f r)).call ?_;simp only[go_sem,y,z,B,P,l,o,w,x,r,f,aU,bC,F,s,R,aS (om:j<1000000),co]
     repeat refine an ?_
     refine⟨⟨j+1,om,rfl,bG.upd ⟨Q,F,G⟩ q _,fun i a=>(d i a).upd (h i a) _,bG.here fun t H=>?_⟩,om⟩
     have:=T t H;simp only[bR]
     grind
    .simp only[*,go_sem,aS (om:k<1000000),co]
     refine⟨⟨k+1,om,rfl,fun i=>if i=k then c else g i,p.congr fun i a=>?_,fun i a=>?_,fun i j a N e=>?_⟩,om⟩
     .grind
     .by_cases e:i=k
      .subst e;simp only[aK];refine E.congr fun t H=>?_;have:t<j:=om
       simp[this]
      .simp only[e,aM];exact d i om
     .by_cases U:i=k<;>by_cases V:j=k<;>simp only[U,V,aK,aM]at e ⊢
      .exact absurd e.symm (h j om)
      .exact absurd e (h i om)
      .exact C i j om om e
  .simp only[*,go_sem];obtain rfl:k=n:=om
   exact⟨b,rfl,g,p.congr fun i a=>by rw[ah a],d,C⟩

def yG(h:eV w w.heap.size (.agg #[.bool false,v]) (n:Int)):∃A k c xs,v=.slice A k c/\k<=c/\cI w w.heap.size A k xs/\pk xs/\aZ xs=n/\k=nl n:=by
 obtain⟨neg,A,k,c,xs,e,a,b,d,g⟩:=h
 cases e
 have f:aZ xs=n:=by simp[sg]at g;omega
 exact⟨A,k,c,xs,rfl,a,b,d,f,by rw[aJ b d,f]⟩
def Dr{A:Option Addr}(a:k<=c)(b:cI w w.heap.size A k xs)(d:pk xs)(e:aZ xs=n):eV w w.heap.size (.agg #[.bool false,.slice A k c]) (n:Int) :=
 ⟨false,A,k,c,xs,rfl,a,b,d,by rw[e];simp[sg]⟩
def Jj(h:nl n<=2147483648):PF 71 [.mag n] (.mag n):=by
 intro w vs a
 match vs,a with
 | [va],a =>
  simp only[a6,bM]at a;obtain⟨A,k,c,xs,rfl,b,d,o,f,p⟩:=yG a.1;refine(gO A k c w.heap.size xs w b om (ae _) d).mono ?_;rintro e w' ⟨A1,q,r,zs,rfl,g,i,j,l,m⟩;exact⟨_,rfl,by simp only[bM];exact Dr g i j (l.trans f),dI.below m⟩
 | [],a=>simp[a6]at a
 | _::_::_,a=>simp[a6]at a
def Lo{a:Nat}(F:nl a<=16777216)(G:nl b<=16777216)(H:0<b):PF 189 [.mag a,.mag b] (.tup [.mag (a/b),.mag (a%b)]):=by
 intro w vs f
 match vs,f with
 | [va,vb],f =>
  simp only[a6,bM]at f;obtain⟨A,k,c,xs,rfl,l,n,I,j,J⟩:=yG f.1;obtain⟨B,m,d,ys,rfl,o,h,i,g,K⟩:=yG f.2.1;refine(Io A B k m c d w.heap.size xs ys w om om (ae _) n h i om).mono ?_;rintro e w' ⟨A1,p,q,zs,D1,r,s,us,rfl,t,u,v,x,y,z,C,D,E⟩;exact⟨_,rfl,by simp only[bM];exact⟨[.slice A1 p q,.slice D1 r s],rfl,by simp only[a6,bM];exact⟨Dr t v y (by rw[C,j,g]),Dr u x z (by rw[D,j,g]),trivial⟩⟩,dI.below E⟩
 | [],f=>simp[a6]at f
 | [_],f=>simp[a6]at f
 | _::_::_::_,f=>simp[a6]at f
def DC{z:Int}(h:nl n<=2147483648)(f:∀s,p s->sg s n=z):PF 103 [.bset p,.mag n] (.big z):=by
 intro w vs a
 match vs,a with
 | [va,vb],a =>
  simp only[a6,bM]at a;obtain⟨⟨s,rfl,g⟩,a,_⟩:=a;obtain⟨A,k,c,xs,rfl,b,i,m,j,o⟩:=yG a;refine(lZ s A k c w.heap.size xs w b om (ae _) i).mono ?_;rintro e w' ⟨v,rfl,d,l⟩;exact⟨v,rfl,by rw[j,f s g]at d;simpa [bM]using d,dI.below l⟩
 | [],a=>simp[a6]at a
 | [_],a=>simp[a6]at a
 | _::_::_::_,a=>simp[a6]at a
def Nv(h:nl n<=2147483648):PF 103 [.bool s,.mag n] (.big (sg s n)):=by
 intro w vs a;refine DC (p:=fun t=>t=s) (z:=sg s n) h (fun t b=>by rw[b]) w vs ?_
 match vs,a with
 | [va,vb],a=>simp only[a6,bM]at a ⊢;exact⟨⟨s,a.1,rfl⟩,a.2⟩
 | [],a=>simp[a6]at a
 | [_],a=>simp[a6]at a
 | _::_::_::_,a=>simp[a6]at a
def pO{b q r:Int}(h:a=b*q+r)(c:0<=r)(f:r<b.natAbs):a/b=q/\a%b=r:=by
 rcases l9 0 b with d|d
 .exact(px d).2 ⟨by rw[SF];exact h.symm,c,om⟩
 .have e:=(px (a:=a) (b:=-b) (r:=r) (q:=-q) om).2 ⟨by rw[qc,SF];exact h.symm,c,om⟩
  rw[EM,SC]at e;exact⟨om,e.2⟩
def PH{b:Int}(c:sg s a.natAbs=a):sg s (a.natAbs%b.natAbs)=a.tmod b:=by
 rcases Int.natAbs_eq b with e|e<;>cases s<;>simp only[sg,aK,bK,aM]at c ⊢
 .rw[<-c,e];simp[iG];exact(aN om).symm
 .rw[<-c,e];simp[SB];exact(aN om).symm
 .rw[<-c,e];simp[Int.tmod_neg];exact(aN om).symm
 .rw[<-c,e];simp[SB,Int.tmod_neg];exact(aN om).symm
def PI{t:Bool}{b:Int}(c:sg s a.natAbs=a)(d:sg t b.natAbs=b):sg (s != t) (a.natAbs/b.natAbs)=a.tdiv b:=by
 cases s<;>cases t<;>simp only[sg,aK,bK,aM,bU,Bool.false_bne,Bool.true_bne,ra]at c d ⊢
 .rw[<-c,<-d];simp
 .rw[<-c,<-d];simp[Int.tdiv_neg]
 .rw[<-c,<-d];simp[Int.neg_tdiv]
 .rw[<-c,<-d];simp[Int.neg_tdiv,Int.tdiv_neg]
def tW{b:Int}(h:b≠0):(a.tmod b).natAbs<b.natAbs:=by
 rw[VE];exact dh _ om
def zP{b:Int}(v:nb a k)(w:nb b k)(U:k<=536870912)(L:b≠0):PF 127 [.big a,.big b] (.tup [.big (a/b),.big (a%b),.bool true]):=by
 have la:nl a.natAbs<=16777216:=v.nl om;have lb:nl b.natAbs<=16777216:=w.nl om;have M:0<b.natAbs:=om
 have o:((nl b.natAbs:Int)==0)=false:=by
  have H:nl b.natAbs≠0:=fun h=>by
   have:=kb.1 (om:nl b.natAbs<=0)
   simp at this;omega
  simp;omega
 refine jo func127 ntmps127 results127 ?_;simp -dsimp only[go_sem];refine aG.intro fun V W=>?_
 try simp -dsimp only[go_sem]
 refine aG.intro fun X N=>?_
 try simp -dsimp only[go_sem]
 refine aG.intro fun Y I=>?_
 try simp -dsimp only[go_sem]
 refine aG.intro fun Z z=>?_
 try simp -dsimp only[go_sem]
 have p:=(ag N).1;have t:=(ag (ag I).2).1;have j:=(ag I).1;have u:=(ag (ag (ag z).2).2).1;have l:=(ag (ag z).2).1;have d:=(ag z).1;refine bD 8 kr ?_
 simp -dsimp only[go_sem,nn d,aj p,aj t,aj j,aj u,aj l];refine⟨_,(Jj om).pure',_,(Jj om).pure',?_⟩;simp -dsimp only[go_sem,o];refine(Lo la lb M).call ?_;simp -dsimp only[go_sem,o];refine bD 13 kr ?_
 simp -dsimp only[go_sem,aj p,aj t,aj j,aj u,aj l];refine⟨.big (a.tdiv b),(DC (a9 (gk (iz a.natAbs b.natAbs)) om) (fun s A=>by obtain⟨x,H,y,O,rfl⟩:=A;exact PI H O)).pure',.big (a.tmod b),(DC (a9 (gk (Va a.natAbs b.natAbs)) om) (fun s A=>PH A)).pure',?_⟩
 refine aG.intro fun P f=>?_
 try simp -dsimp only[go_sem]
 refine aG.intro fun Q c=>?_;have B:=(ag f).1;have C:=(ag (ag f).2).1;have R:=(ag (ag (ag f).2).2).1;have p2:=(ag (ag (ag (ag f).2).2).2).1;have qp:=(ag c).1;have D:=(ag (ag c).2).1;have E:=(ag (ag (ag c).2).2).1;have S:=(ag (ag (ag (ag c).2).2).2).1;have q2:=(ag (ag (ag (ag (ag c).2).2).2).2).1;have J:nb (a.tdiv b) k:=nb.of_le (by rw[Int.natAbs_tdiv];exact iz _ _) v
 have K:nb (a.tmod b) k:=nb.of_le (by rw[VE];exact Va _ _) v
 have e:=ye a b;have T:=tW (a:=a) L;simp -dsimp only[go_sem,nn qp];refine(ka K om).call ?_;by_cases g:a.tmod b<0
 .have m:(a.tmod b).sign<0:=by rw[eZ g];decide
  simp -dsimp only[go_sem,bR,m];have F:nb (b.natAbs:Int) k:=nb.of_le sm w
  refine bD 4 kr ?_
  simp -dsimp only[go_sem,aj j,aj l,aj R,aj S,bR];refine⟨.big (b.natAbs:Int),(Nv (s:=false) om).pure',.big (a.tmod b+(b.natAbs:Int)),(ug K F om).pure',?_⟩;simp -dsimp only[go_sem];refine(ka w om).call ?_;by_cases G:b<0
  .have n:b.sign<0:=by rw[eZ G];decide
   simp -dsimp only[go_sem,n];refine fQ 4 [[3]] kr ?_
   simp only[*,go_sem,aj d,aj C,aj B,aj E,aj D,aj qp,bR];refine⟨.big 1,(gQ dc dc).pure',.big (a.tdiv b+1),(ug (k:=k+1) (J.mono om) (nb.one om) om).pure',?_⟩
   simp only[go_sem];have i:=pO (a:=a) (b:=b) (q:=a.tdiv b+1) (r:=a.tmod b+(b.natAbs:Int)) (by
    rw[UX,iN];omega) om om
   rw[i.1,i.2];exact VR.tup (by simp[qZ])
  .have n:¬b.sign<0:=by rw[dq (om:0<b)];decide
   simp -dsimp only[go_sem,n];refine fQ 4 [[3]] kr ?_
   simp only[*,go_sem,aj d,aj C,aj B,aj E,aj D,aj qp,bR];refine⟨.big 1,(gQ dc dc).pure',.big (a.tdiv b-1),(t7 (k:=k+1) (J.mono om) (nb.one om) om).pure',?_⟩
   simp only[go_sem];have i:=pO (a:=a) (b:=b) (q:=a.tdiv b-1) (r:=a.tmod b+(b.natAbs:Int)) (by
    rw[pw,iN];omega) om om
   rw[i.1,i.2];exact VR.tup (by simp[qZ])
 .have m:¬(a.tmod b).sign<0:=by
   rcases fy (a.tmod b) 0 with h|h|h
   .exact absurd h g
   .rw[h];decide
   .rw[dq h];decide
  simp -dsimp only[go_sem,bR,m];refine fQ 2 [[1]] kr ?_
  simp only[*,go_sem,aj d,aj C,aj B,aj E,aj D,aj qp,bR];have i:=pO (a:=a) (b:=b) (q:=a.tdiv b) (r:=a.tmod b) om om om;rw[i.1,i.2];exact VR.tup (by simp[qZ])

def oM{b:Int}(f:nb a k)(g:nb b k)(h:k<=536870912)(i:b≠0):PF 65 [.big a,.big b] (.big (a/b)):=by
 refine jo func65 ntmps65 results65 ?_;simp -dsimp only[go_sem];refine aG.intro fun l m=>?_
 try simp -dsimp only[go_sem]
 refine aG.intro fun n j=>?_;have n3_2:=(ag j).1
 try simp -dsimp only[go_sem]
 refine aG.intro fun o e=>?_;have n4_3:=(ag e).1;have n4_2:=(ag (ag e).2).1;simp -dsimp only[go_sem,aj n3_2,aj n4_2,aj n4_3];refine(zP f g h i).call ?_;simp -dsimp only[go_sem];refine aG.intro fun p d=>?_;have n5_4:=(ag d).1;have n5_3:=(ag (ag d).2).1;have n5_2:=(ag (ag (ag d).2).2).1
 try simp -dsimp only[go_sem]
 refine aG.intro fun q c=>?_;have n6_5:=(ag c).1;have n6_4:=(ag (ag c).2).1;have n6_3:=(ag (ag (ag c).2).2).1;have n6_2:=(ag (ag (ag (ag c).2).2).2).1;simp only[go_sem,nn n6_5,aj n5_4,aj n6_4,bR];exact VR.mf rfl
def PK{b:Int}(f:nb a k)(g:nb b k)(h:k<=536870912)(i:b≠0):PF 147 [.big a,.big b] (.big (a%b)):=by
 refine jo func147 ntmps147 results147 ?_;simp -dsimp only[go_sem];refine aG.intro fun l m=>?_
 try simp -dsimp only[go_sem]
 refine aG.intro fun n j=>?_;have n3_2:=(ag j).1
 try simp -dsimp only[go_sem]
 refine aG.intro fun o e=>?_;have n4_3:=(ag e).1;have n4_2:=(ag (ag e).2).1;simp -dsimp only[go_sem,aj n3_2,aj n4_2,aj n4_3];refine(zP f g h i).call ?_;simp -dsimp only[go_sem];refine aG.intro fun p d=>?_;have n5_4:=(ag d).1;have n5_3:=(ag (ag d).2).1;have n5_2:=(ag (ag (ag d).2).2).1
 try simp -dsimp only[go_sem]
 refine aG.intro fun q c=>?_;have n6_5:=(ag c).1;have n6_4:=(ag (ag c).2).1;have n6_3:=(ag (ag (ag c).2).2).1;have n6_2:=(ag (ag (ag (ag c).2).2).2).1;simp only[go_sem,nn n6_5,aj n5_4,aj n6_4,bR];exact VR.mf rfl
def en.get(h:en S b ty es z):∃g,S b=some ⟨ty,es,1,g⟩/\g 0=z:=h
def Aa{b:Int}(h:b≠0):(a%b).natAbs<b.natAbs:=by
 have c:=aT a h;have d:=UY a h;omega
def PE(h:a≠0):(a.sign != 0)=true:=by
 simp only[U8,Bu];rw[mb];exact h
def NW{b:Int}:nh a b=nh b (a%b):=by
 have c:a%b=a+b*(-(a/b)):=by rw[SD];grind
 rw[Int.gcd_comm b,c,Int.gcd_add_mul_left_left]
def PN{b:Int}(u:nb a k)(v:nb b k)(C:k<=536870912):PF 262 [.big a,.big b] (.big (nh a b)):=by
 refine jo func262 ntmps262 results262 ?_;simp -dsimp only[go_sem];refine aG.intro fun I J=>?_
 try simp -dsimp only[go_sem]
 refine aG.intro fun K D=>?_;have n3_2:=(ag D).1
 try simp -dsimp only[go_sem]
 refine aG.intro fun w z=>?_;have n4_3:=(ag z).1;have n4_2:=(ag (ag z).2).1;simp -dsimp only[go_sem];refine bD 6 kr ?_
 simp -dsimp only[go_sem,aj n3_2,aj n4_2,aj n4_3];refine⟨_,(uh u om).pure',_,(uh v om).pure',?_⟩;refine aG.intro fun A h=>?_;have n5_4:=(ag h).1;have n5_3:=(ag (ag h).2).1;have n5_2:=(ag (ag (ag h).2).2).1
 try simp -dsimp only[go_sem]
 refine aG.intro fun i f=>?_;have n6_5:=(ag f).1;have n6_4:=(ag (ag f).2).1;have n6_3:=(ag (ag (ag f).2).2).1;have n6_2:=(ag (ag (ag (ag f).2).2).2).1;simp only[go_sem,nn n6_5];refine aI (fun O S=>∃x y:Int,nb x k/\nb y k/\0<=x/\0<=y/\nh x y=nh a b/\O 4=.ptr 2 w 0/\O 5=.ptr 2 A 0/\O 6=.ptr 2 i 0/\en S w 50 2 (.big 0)/\en S A 50 2 (.big x)/\en S i 50 2 (.big y)) (fun O S=>match S i with|some X=>(match X.g 0 with|.big y=>y.natAbs|_=>0)|ab=>0) ?_ ?_
 .simp only[go_sem];exact⟨a.natAbs,nb.of_le sm u,b.natAbs,nb.of_le sm v,om,om,by simp[nh],((((en.new rfl).upd (aj n5_4) _).upd (aj n6_4) _).upd (aj n5_4) _).upd (aj n6_4) _,en.set.upd (aj n6_5) _,en.set⟩
 .rintro O S ⟨x,y,E,d,L,F,B,j,l,m,V4,V5,V6⟩;obtain⟨G,n,H⟩:=V4;obtain⟨M,o,p⟩:=V5;obtain⟨N,q,e⟩:=V6;by_cases c:y=0
  .simp -dsimp only[go_sem,m,q,e];refine(ka d om).call ?_;simp only[go_sem,j,l,n,o,p,e,c,tf,bR];have r:((nh a b:Nat):Int)=x:=by rw[<-B,c,Int.gcd_zero];omega
   rw[r];exact VR.mf rfl
  .simp -dsimp only[go_sem,m,q,e];refine(ka d om).call ?_;simp -dsimp only[go_sem,j,l,n,o,p,e,PE c,bR];refine bD 4 kr ?_
   simp only[go_sem,j,l,m,o,q,p,e,n6_5,bR];refine⟨_,(PK E d C c).pure',?_⟩;simp only[go_sem];have s:=Aa (a:=x) c;have t:=aT x c;exact⟨⟨y,d,x%y,nb.of_le om d,F,t,by rw[<-NW];exact B,(en.upd ⟨G,n,H⟩ (aj n5_4) _).upd (aj n6_4) _,en.set.upd (aj n6_5) _,en.set⟩,s⟩

end Go.Proofs.YtdobfmlmenaajaaGreatDoor
