/-
  Lemmas for NeighbourIndex.
-/
import Derived.Test.YtdobfmlmenaajaaGreatDoorJ06
import Derived.Test.YtdobfmlmenaajaaGreatDoorJ07
namespace Go.Proofs.YtdobfmlmenaajaaGreatDoor
open Go.RowKit Tryz
open _root_.Bool renaming false_eq_true→aR
open _root_.Classical renaming em→eH
open _root_.Int renaming ofNat_lt→af,zero_le_ofNat→az,tmod_eq_emod_of_nonneg→aU,emod_nonneg→aY,mul_comm→cF,sign_eq_one_of_pos→cU,mul_ediv_cancel_left→cV,natAbs_mul→fJ,mul_assoc→fK,mul_one→ij,sign_eq_neg_one_of_neg→iw,mul_ediv_cancel'→iO,lt_trichotomy→iP,gcd→lz,mul_pos→lL,sign_zero→nh,sign_eq_zero_iff_zero→p9,ofNat_le→ta
open _root_.List renaming not_mem_nil→aT,getD_cons_succ→bC,forall_mem_cons→bG,getD_cons_zero→bI
open _root_.Nat renaming reduceEqDiff→aa,add_one_le_iff→ab,reduceLT→ae,le_refl→ah,reduceAdd→ak,reduceLeDiff→au,lt_or_ge→aI,eq_zero_or_pos→bU,le_trans→bV,sub_self→bW,mul_le_mul_right→bY,pow_le_pow_right→cg,pow_succ→ct,add_zero→dd,lt_of_lt_of_le→di,le_of_lt→dw,sub_zero→eG,mod_lt→eP,succ_mul→ia,div_le_self→jF,pow_add→kf,pow_pos→lJ,sub_sub→wO
open _root_.Ne renaming symm→ao
open _root_.Option renaming none→ac
open _root_.Or renaming inr→bH,inl→bQ
open Tryz renaming prog→aj
set_option maxHeartbeats 6400000
set_option maxRecDepth 4096
set_option linter.all false
def nb(z:Int)(k:Nat):Prop:=z.natAbs<2^k
theorem nb.mono{z:Int}{k j:Nat}(h:nb z k)(hk:k<=j):nb z j:=di h (cg om hk)
theorem nb.nl{z:Int}{k N:Nat}(h:nb z k)(hk:k<=32*N):nl z.natAbs<=N:=by
 rw[iX,vk];exact h.mono hk
theorem nb.add{a b:Int}{k:Nat}(ha:nb a k)(hb:nb b k):nb (a+b) (k+1):=by
 unfold nb at *;rw[ct];omega
theorem nb.sub{a b:Int}{k:Nat}(ha:nb a k)(hb:nb b k):nb (a-b) (k+1):=by
 unfold nb at *;rw[ct];omega
theorem nb.mul{a b:Int}{k j:Nat}(ha:nb a k)(hb:nb b j):nb (a*b) (k+j):=by
 unfold nb at *;rw[fJ,kf];exact Nat.mul_lt_mul_of_lt_of_lt ha hb
theorem nb.neg{a:Int}{k:Nat}(ha:nb a k):nb (-a) k:=by unfold nb at *;omega
theorem nb.zero(k:Nat):nb 0 k:=lJ om
theorem nb.one{k:Nat}(h:0<k):nb 1 k:=di (by decide:1<2^1) (cg om h)
theorem nb.i64{a:Int}(h1:-9223372036854775808<=a)(h2:a<=9223372036854775807):nb a 64:=by unfold nb;omega
theorem nb.of_le{a b:Int}{k:Nat}(h:a.natAbs<=b.natAbs)(hb:nb b k):nb a k:=Nat.lt_of_le_of_lt h hb
theorem MS{f:Nat}{za zb z:Int}(h:∀va vb B w,B<=w.heap.size->d7 w B va za->d7 w B vb zb->Calls aj f #[va,vb] w (dh w z)):PF f [.big za,.big zb] (.big z):=wK.pf rfl (LE h)
theorem pf1{f:Nat}{za z:Int}(h:∀va B w,B<=w.heap.size->d7 w B va za->Calls aj f #[va] w (dh w z)):PF f [.big za] (.big z):=wK.pf rfl (LG h)
theorem pf1i{f:Nat}{za:Int}{k:IntKind}{z:Int}(h:∀va B w,B<=w.heap.size->d7 w B va za->Calls aj f #[va] w fun e w'=>e=.returned (.int k z)/\Below w.heap.size w w'):PF f [.big za] (.int k z):=by
 intro w vs hr
 match vs,hr with
 | [va],hr =>
  simp only[bq,bs]at hr;refine(h va w.heap.size w (ah _) hr.1).mono ?_;rintro e w' ⟨rfl,h1⟩;exact⟨_,rfl,by simp[bs],cw.below h1⟩
 | [],hr=>simp[bq]at hr
 | _::_::_,hr=>simp[bq]at hr
theorem pf2i{f:Nat}{za zb:Int}{k:IntKind}{z:Int}(h:∀va vb B w,B<=w.heap.size->d7 w B va za->d7 w B vb zb->Calls aj f #[va,vb] w fun e w'=>e=.returned (.int k z)/\Below w.heap.size w w'):PF f [.big za,.big zb] (.int k z):=by
 intro w vs hr
 match vs,hr with
 | [va,vb],hr =>
  simp only[bq,bs]at hr;refine(h va vb w.heap.size w (ah _) hr.1 hr.2.1).mono ?_;rintro e w' ⟨rfl,h1⟩;exact⟨_,rfl,by simp[bs],cw.below h1⟩
 | [],hr=>simp[bq]at hr
 | [_],hr=>simp[bq]at hr
 | _::_::_::_,hr=>simp[bq]at hr
theorem Ef{f:Nat}{z:Int}(h:∀w,Calls aj f #[.int .i64 z] w (dh w z)):PF f [.int .i64 z] (.big z):=by
 intro w vs hr
 match vs,hr with
 | [va],hr =>
  simp only[bq,bs]at hr;obtain⟨rfl,_⟩:=hr;refine(h w).mono ?_;rintro e w' ⟨v,rfl,h1,h2⟩;exact⟨v,rfl,by simpa [bs]using h1,cw.below h2⟩
 | [],hr=>simp[bq]at hr
 | _::_::_,hr=>simp[bq]at hr
theorem Eg{f:Nat}{z:Int}(h:∀va B w,B<=w.heap.size->d7 w B va z->Calls aj f #[va] w fun e w'=>e=.returned (.tuple #[.int .i64 z,.bool true])/\Below w.heap.size w w'):PF f [.big z] (.tup [.int .i64 z,.bool true]):=by
 intro w vs hr
 match vs,hr with
 | [va],hr =>
  simp only[bq,bs]at hr;refine(h va w.heap.size w (ah _) hr.1).mono ?_;rintro e w' ⟨rfl,h1⟩;exact⟨_,rfl,by simp only[bs];exact⟨[_,_],rfl,by simp[bq,bs]⟩,cw.below h1⟩
 | [],hr=>simp[bq]at hr
 | _::_::_,hr=>simp[bq]at hr
theorem sT{a b:Int}{k:Nat}(ha:nb a k)(hb:nb b k)(hk:k<=8589934592):PF 133 [.big a,.big b] (.big (a+b)):=MS fun va vb B w h1 h2 h3=>KF va vb a b B w h1 h2 h3 (ha.nl om) (hb.nl om)
theorem zq{a b:Int}{k:Nat}(ha:nb a k)(hb:nb b k)(hk:k<=8589934592):PF 192 [.big a,.big b] (.big (a-b)):=MS fun va vb B w h1 h2 h3=>Ks va vb a b B w h1 h2 h3 (ha.nl om) (hb.nl om)
theorem n9{a b:Int}{k:Nat}(ha:nb a k)(hb:nb b k)(hk:k<=8589934592):PF 83 [.big a,.big b] (.big (a*b)):=MS fun va vb B w h1 h2 h3=>Kx va vb a b B w h1 h2 h3 (ha.nl om) (hb.nl om)
theorem qD{a:Int}{k:Nat}(ha:nb a k)(hk:k<=8589934592):PF 193 [.big a] (.big (-a)):=pf1 fun va B w h1 h2=>Kw va a B w h1 h2 (ha.nl om)
theorem pQ{a:Int}{k:Nat}(ha:nb a k)(hk:k<=8589934592):PF 157 [.big a] (.big a):=pf1 fun va B w h1 h2=>xM va a B w h1 h2 (ha.nl om)
theorem jJ{a:Int}{k:Nat}(ha:nb a k)(hk:k<=8589934592):PF 191 [.big a] (.int .i64 a.sign):=pf1i fun va B w h1 h2=>wI va a B w h1 h2 (ha.nl om)
theorem H4{a b:Int}{k:Nat}(ha:nb a k)(hb:nb b k)(hk:k<=8589934592):PF 159 [.big a,.big b] (.int .i64 (md a b)):=pf2i fun va vb B w h1 h2 h3=>KB va vb a b B w h1 h2 h3 (ha.nl om) (hb.nl om)
theorem jw{a:Int}(h1:-9223372036854775808<=a)(h2:a<=9223372036854775807):PF 81 [.int .i64 a] (.big a):=Ef fun w=>FX a w h1 h2
theorem vR{a:Int}(h:jQ a):PF 84 [.big a] (.tup [.int .i64 a,.bool true]):=Eg fun va B w h1 h2=>F4 va a B w h1 h2 h
theorem kP{a b:Int}{k:Nat}(ha:nb a k)(hb:nb b k)(hk:k<=8589934592)(h0:b≠0)(hs:a.natAbs<b.natAbs∨nb a 64):PF 82 [.big a,.big b] (.tup [.big (a/b),.big (a%b),.bool true]):=by
 intro w vs hr
 match vs,hr with
 | [va,vb],hr =>
  simp only[bq,bs]at hr;refine(wX va vb a b w.heap.size w (ah _) hr.1 hr.2.1 (ha.nl om) (hb.nl om) h0 (hs.imp id fun h=>bQ (h.nl om))).mono ?_;rintro e w' ⟨v1,v2,rfl,h1,h2,h3⟩;exact⟨_,rfl,by simp only[bs];exact⟨[v1,v2,.bool true],rfl,by simp only[bq,bs];exact⟨h1,h2,trivial,trivial⟩⟩,cw.below h3⟩
 | [],hr=>simp[bq]at hr
 | [_],hr=>simp[bq]at hr
 | _::_::_::_,hr=>simp[bq]at hr
theorem mb{a b:Int}{k:Nat}(ha:nb a k)(hb:nb b 32)(hk:k<=1000000)(h0:b≠0):PF 82 [.big a,.big b] (.tup [.big (a/b),.big (a%b),.bool true]):=by
 intro w vs hr
 match vs,hr with
 | [va,vb],hr =>
  simp only[bq,bs]at hr;refine(wX va vb a b w.heap.size w (ah _) hr.1 hr.2.1 (ha.nl om) (hb.nl om) h0 (.inr (.inr (hb.nl om)))).mono ?_;rintro e w' ⟨v1,v2,rfl,h1,h2,h3⟩;exact⟨_,rfl,by simp only[bs];exact⟨[v1,v2,.bool true],rfl,by simp only[bq,bs];exact⟨h1,h2,trivial,trivial⟩⟩,cw.below h3⟩
 | [],hr=>simp[bq]at hr
 | [_],hr=>simp[bq]at hr
 | _::_::_::_,hr=>simp[bq]at hr
theorem yp{a:Int}(h:jQ a):PF 72 [.big a] (.tup [.int .i64 a,.bool true]):=Eg fun va B w h1 h2=>Av va a B w h1 h2 h
theorem qZ{a b:Int}{k:Nat}(ha:nb a k)(hb:nb b k)(hk:k<=8589934592):PF 87 [.big a,.big b] (.big (a+b)):=MS fun va vb B w h1 h2 h3=>yZ va vb a b B w h1 h2 h3 (ha.nl om) (hb.nl om)
theorem pN{a b:Int}{k:Nat}(ha:nb a k)(hb:nb b k)(hk:k<=8589934592):PF 66 [.big a,.big b] (.big (a-b)):=MS fun va vb B w h1 h2 h3=>FW va vb a b B w h1 h2 h3 (ha.nl om) (hb.nl om)
theorem gM{a b:Int}{k:Nat}(ha:nb a k)(hb:nb b k)(hk:k<=8589934592):PF 67 [.big a,.big b] (.big (a*b)):=MS fun va vb B w h1 h2 h3=>F0 va vb a b B w h1 h2 h3 (ha.nl om) (hb.nl om)
theorem D8{a:Int}{k:Nat}(ha:nb a k)(hk:k<=8589934592):PF 68 [.big a] (.big (-a)):=pf1 fun va B w h1 h2=>yU va a B w h1 h2 (ha.nl om)
theorem zK{a:Int}{k:Nat}(ha:nb a k)(hk:k<=8589934592):PF 45 [.big a] (.big a.natAbs):=pf1 fun va B w h1 h2=>Gb va a B w h1 h2 (ha.nl om)
theorem Bs{a:Int}{k:Nat}(ha:nb a k)(hk:k<=8589934592):PF 126 [.big a] (.big a):=pf1 fun va B w h1 h2=>sV va a B w h1 h2 (ha.nl om)
theorem il{a:Int}{k:Nat}(ha:nb a k)(hk:k<=8589934592):PF 64 [.big a] (.int .i64 a.sign):=pf1i fun va B w h1 h2=>qJ va a B w h1 h2 (ha.nl om)
theorem nX{a b:Int}{k:Nat}(ha:nb a k)(hb:nb b k)(hk:k<=8589934592):PF 30 [.big a,.big b] (.int .i64 (md a b)):=pf2i fun va vb B w h1 h2 h3=>F7 va vb a b B w h1 h2 h3 (ha.nl om) (hb.nl om)
theorem eK{a:Int}(h1:-9223372036854775808<=a)(h2:a<=9223372036854775807):PF 29 [.int .i64 a] (.big a):=Ef fun w=>Ch a w h1 h2
def eJ(S S':St):Prop:=∀k X,S k=some X->S' k=some X
theorem eJ.refl(S:St):eJ S S:=fun _ _ h=>h
theorem eJ.upd{S S':St}(h:eJ S S'){b:Nat}(hb:S b=ac)(X:dH):eJ S (S'.upd b X):=fun k Y hY=>by
 have hk:k≠b:=by rintro rfl;rw[hb]at hY;cases hY
 rw[aP hk];exact h k Y hY
theorem eJ.none{S S':St}(h:eJ S S'){b:Nat}(hb:S' b=ac):S b=ac:=by
 cases e:S b with
 | none=>rfl
 | some X=>rw[h b X e]at hb;cases hb
theorem eJ.trans{S S' S'':St}(h:eJ S S')(k:eJ S' S''):eJ S S'':=fun b X hX=>k b X (h b X hX)
theorem eJ.has{S S':St}(h:eJ S S'){b ty es n:Nat}{g:Nat->AV}(hh:bE S b ty es n g):bE S' b ty es n g:=by
 obtain⟨g',h1,h2⟩:=hh;exact⟨g',h b _ h1,h2⟩
def ca:AV->Nat
 | .int _ k=>k.toNat
 | _=>0
def dl(S:St)(b ty es:Nat)(z:AV):Prop:=∃g,S b=some ⟨ty,es,1,g⟩/\g 0=z
theorem dl.upd{S:St}{b c ty es:Nat}{z:AV}(h:dl S b ty es z)(hc:b≠c)(X:dH):dl (S.upd c X) b ty es z:=by
 obtain⟨g,h1,h2⟩:=h;exact⟨g,by rw[aP hc];exact h1,h2⟩
theorem dl.new{S:St}{b ty es:Nat}{g:Nat->AV}{z:AV}(h:g 0=z):dl (S.upd b ⟨ty,es,1,g⟩) b ty es z:=⟨g,bZ,h⟩
theorem dl.set{S:St}{b ty es:Nat}{g:Nat->AV}{z:AV}:dl (S.upd b ⟨ty,es,1,bJ g 0 z⟩) b ty es z:=⟨_,bZ,by simp[bJ]⟩
theorem dl.fresh{S:St}{b c ty es:Nat}{z:AV}(h:dl S b ty es z)(hc:S c=ac):b≠c:=by
 rintro rfl;obtain⟨g,h1,_⟩:=h;rw[h1]at hc;cases hc
theorem ai{S:St}{b c:Nat}{X:dH}(h:S.upd b X c=ac):c≠b/\S c=ac:=by
 simp only[St.upd]at h;by_cases e:c=b
 ·rw[if_pos e]at h;cases h
 ·rw[if_neg e]at h;exact⟨e,h⟩
theorem vF{n k:Nat}{f:Nat->Int}(h:∀j,j<n->nb (f j) k)(hn:n<=1024):∀m,m<=n->nb (aE m f) (k+10):=by
 have key:∀m,m<=n->(aE m f).natAbs<=m*(2^k-1):=by
  intro m
  induction m with
  | zero=>intro _;simp[aE]
  | succ m ih =>
   intro hm;have h1:=ih om;have h2:=h m om;unfold nb at h2;simp only[aE];rw[ia];omega
 intro m hm;have h1:=key m hm;have h2:m*(2^k-1)<=1024*(2^k-1):=bY _ om;have h3:0<2^k:=lJ om;unfold nb;rw[kf];omega
theorem L3(n:Nat)(x y:Nat->Int)(k:Nat)(hx:∀j,j<n->nb (x j) k)(hy:∀j,j<n->nb (y j) k)(hk:k<=1000000000)(hn:n<=1000):PF 213 [bn n x,bn n y] (.big (aE n fun j=>x j*y j)):=by
 refine PF.of_spec (aD func213 rfl 26 ntmps213 kr sm (by simp[results213]) ?_)
 rw[aQ,results213];simp -dsimp only[go_sem,ak,bn];refine aH.intro fun b hb=>?_;simp -dsimp only[go_sem];refine aH.intro fun c hc=>?_;have hbc:b≠c:=ao (ai hc).1;simp -dsimp only[go_sem,aa,↓reduceIte,reduceCtorEq];have hs:=vF (f:=fun j=>x j*y j) (k:=k+k) (fun j hj=>(hx j hj).mul (hy j hj)) (om:n<=1024)
 refine aM (fun O S=>∃j:Nat,j<=n/\O 0=bn n x/\O 1=bn n y/\O 4=.ptr 2 b 0/\O 5=.ptr 2 c 0/\O 9=.int .i64 n/\O 10=.int .i64 j/\dl S b 50 2 (.big 0)/\dl S c 50 2 (.big (aE j fun j=>x j*y j))) (fun O S=>n-ca (O 10)) ?_ ?_
 ·simp -dsimp only[go_sem,aa,reduceCtorEq,bn];exact⟨0,om,rfl,((dl.new rfl).upd hbc _).upd hbc _,dl.set⟩
 ·rintro O S ⟨j,hj,h0,h1,h4,h5,h9,h10,hB,hC⟩;obtain⟨gb,hSb,eb⟩:=hB;obtain⟨gc,hSc,ec⟩:=hC;by_cases hlt:j<n
  ·simp -dsimp only[go_sem,aa,↓reduceIte,af,decide_true,h4,h5,h9,h10,hSb,hSc,ca,bn,hlt];refine bM 11 kr ?_
   have hw:IntKind.i64.wrap ((j:Int)+1)=((j+1:Nat):Int):=dK om om;simp -dsimp only[go_sem,aa,au,ae,↓reduceIte,reduceCtorEq,af,h0,h1,h4,h5,h9,h10,hSc,bn,hlt,ec,hw];exact⟨.big (x j*y j),(gM (hx j hlt) (hy j hlt) om).pure',.big ((aE j fun j=>x j*y j)+x j*y j),(qZ (hs j hj) (((hx j hlt).mul (hy j hlt)).mono om) om).pure',trivial,
    ⟨j+1,om,rfl,dl.upd ⟨gb,hSb,eb⟩ hbc _,dl.set⟩,om⟩
  ·simp -dsimp only[go_sem,aa,↓reduceIte,af,decide_false,h4,h5,h9,h10,hSb,hSc,ec,hlt,ca,bn];obtain rfl:j=n:=om
   exact VR.mf rfl
theorem dlt{a b:Int}(h:¬a<b):decide (a<b)=false:=by simpa using h
theorem zR{w:World}{M M':Nat->Prop}:∀(l:List AV) (vs:List Value),(∀x∈l,oG x=true)->bq w M l vs->bq w M' l vs
 | [],[],_,_=>by simp[bq]
 | x::l,v::vs,h,h2=>by
  simp only[bq]at h2 ⊢;exact⟨oa (h x (List.mem_cons_self ..)) h2.1,zR l vs (fun y hy=>h y (List.mem_cons_of_mem _ hy)) h2.2⟩
 | [],_::_,_,h2=>by simp[bq]at h2
 | _::_,[],_,h2=>by simp[bq]at h2
theorem VR.tup{S:St}{l:List AV}(h:∀x∈l,oG x=true):VR S (.tup l) (.tup l):=by
 intro w v hs hr;simp only[bs]at hr ⊢;obtain⟨vs,h1,h2⟩:=hr;refine⟨vs,h1,?_⟩;exact zR l vs h h2
theorem oX(n m:Nat)(A:Nat->Nat->Int)(h1:1<=n)(h2:n<=16)(h3:1<=m)(h4:m<=16):PF 104 [aZ n m A] (.tup [.int .i64 n,.int .i64 m,.bool true]):=by
 refine PF.of_spec (aD func104 rfl 45 ntmps104 kr sm (by simp[results104]) ?_)
 rw[aQ,results104];have d1:decide ((n:Int)<1)=false:=dlt om;have d2:decide ((16:Int)<n)=false:=dlt om;have d3:decide ((m:Int)<1)=false:=dlt om;have d4:decide ((16:Int)<m)=false:=dlt om;simp -dsimp only[go_sem,aa,reduceCtorEq,aZ,bn,d1,d2];refine aM (fun O S=>∃j:Nat,j<=n/\O 0=aZ n m A/\O 15=aZ n m A/\O 16=.int .i64 n/\O 17=.int .i64 j) (fun O S=>n-ca (O 17)) ?_ ?_
 ·simp -dsimp only[go_sem,aa,reduceCtorEq,aZ,bn];exact⟨0,om,rfl⟩
 ·rintro O S ⟨j,hj,e0,e15,e16,e17⟩;by_cases hlt:j<n
  ·have hw:IntKind.i64.wrap ((j:Int)+1)=((j+1:Nat):Int):=dK om om;simp -dsimp only[go_sem,aa,↓reduceIte,reduceCtorEq,af,decide_true,az,e0,e15,e16,e17,aZ,bn,d3,d4,hw,hlt,ca];exact⟨om,⟨j+1,om,rfl⟩,om⟩
  ·simp -dsimp only[go_sem,aa,↓reduceIte,reduceCtorEq,af,decide_false,az,e0,e15,e16,e17,aZ,bn,d3,d4,hlt];refine bM 9 kr ?_
   simp -dsimp only[go_sem,aa,↓reduceIte,reduceCtorEq,az,e0,aZ,bn]
   repeat refine an ?_
   exact VR.tup (by simp[oG])
theorem yg(n:Nat)(A:Nat->Nat->Int)(h1:1<=n)(h2:n<=16):PF 115 [aZ n n A] (.tup [.int .i64 n,.bool true]):=by
 refine PF.of_spec (aD func115 rfl 21 ntmps115 kr sm (by simp[results115]) ?_)
 rw[aQ,results115];simp -dsimp only[go_sem,aa,au,ae,reduceCtorEq];refine(oX n n A h1 h2 h1 h2).call ?_;simp -dsimp only[go_sem,aa,reduceCtorEq];exact VR.tup (by simp[oG])
def gQ(S0 S:St)(b:Nat)(g:Nat->Nat)(n m:Nat)(A:Nat->Nat->Int):Prop:=cZ S b g n m A/\eJ S0 S/\S0 b=ac/\∀i,i<n->S0 (g i)=ac
def eE(A:Nat->Nat->Int)(i j:Nat)(z:Int):Nat->Nat->Int:=fun a c=>if a=i/\c=j then z else A a c
theorem cZ.outer_ne{S:St}{b:Nat}{g:Nat->Nat}{n m:Nat}{A:Nat->Nat->Int}(h:cZ S b g n m A){i:Nat}(hi:i<n):b≠g i:=bE.ne h.outer (h.row i hi) om
theorem cZ.set{S:St}{b:Nat}{g:Nat->Nat}{n m:Nat}{A:Nat->Nat->Int}(h:cZ S b g n m A){i j:Nat}{z:Int}{g':Nat->AV}(hi:i<n)(hS:S (g i)=some ⟨50,2,m,g'⟩) :
  cZ (S.upd (g i) ⟨50,2,m,bJ g' j (.big z)⟩) b g n m (eE A i j z):=by
 refine⟨h.outer.upd (h.outer_ne hi) _,fun a ha=>?_,h.inj⟩;by_cases e:a=i
 ·subst e;obtain⟨g2,h1,h2⟩:=h.row a ha;rw[hS]at h1;cases h1;refine bE.here fun c hc=>?_;have:=h2 c hc;simp only[bJ,eE]
  grind
 ·have hne:g a≠g i:=fun e2=>e (h.inj a i ha hi e2);refine((h.row a ha).upd hne _).congr fun c _=>?_;simp[eE,e]
theorem gQ.set{S0 S:St}{b:Nat}{g:Nat->Nat}{n m:Nat}{A:Nat->Nat->Int}(h:gQ S0 S b g n m A){i j:Nat}{z:Int}{g':Nat->AV}(hi:i<n)(hS:S (g i)=some ⟨50,2,m,g'⟩) :
  gQ S0 (S.upd (g i) ⟨50,2,m,bJ g' j (.big z)⟩) b g n m (eE A i j z):=⟨h.1.set hi hS,h.2.1.upd (h.2.2.2 i hi) _,h.2.2.1,h.2.2.2⟩
theorem cZ.congr{S:St}{b:Nat}{g:Nat->Nat}{n m:Nat}{A B:Nat->Nat->Int}(h:cZ S b g n m A)(he:∀i j,i<n->j<m->A i j=B i j):cZ S b g n m B :=
 ⟨h.outer,fun i hi=>(h.row i hi).congr fun j hj=>by rw[he i j hi hj],h.inj⟩
theorem gQ.congr{S0 S:St}{b:Nat}{g:Nat->Nat}{n m:Nat}{A B:Nat->Nat->Int}(h:gQ S0 S b g n m A)(he:∀i j,i<n->j<m->A i j=B i j):gQ S0 S b g n m B:=⟨h.1.congr he,h.2⟩
theorem VR.tup2{S:St}{x y x' y':AV}(h1:VR S x x')(h2:VR S y y'):VR S (.tup [x,y]) (.tup [x',y']):=by
 intro w v hs hr;simp only[bs]at hr ⊢;obtain⟨vs,e,h⟩:=hr;refine⟨vs,e,?_⟩
 match vs,h with
 | [u,v],h=>simp only[bq]at h ⊢;exact⟨h1 w u hs h.1,h2 w v hs h.2.1,trivial⟩
 | [],h=>simp[bq]at h
 | [_],h=>simp[bq]at h
 | _::_::_::_,h=>simp[bq]at h
theorem Cf(S0:St)(n m:Nat)(hn:n<=1000)(hm:m<=1000):cS 102 [.int .i64 n,.int .i64 m] S0 (fun r S'=>∃b g,r=.sl 1 b 0 n/\gQ S0 S' b g n m (fun _ _=>0)):=by
 refine aD func102 rfl 21 ntmps102 kr sm (by simp[results102]) ?_
 rw[aQ,results102];simp -dsimp only[go_sem,ak,aa,reduceCtorEq];refine⟨om,aH.intro fun b hb=>?_⟩
 refine aM (fun O S=>∃(k:Nat) (g:Nat->Nat),k<=n/\O 1=.int .i64 m/\O 5=.sl 1 b 0 n/\O 10=.int .i64 n/\O 11=.int .i64 k /\
  eJ S0 S/\bE S b 59 1 n (fun i=>if i<k then .sl 2 (g i) 0 m else .nil)/\(∀i,i<k->gJ S (g i) m (fun _=>0)/\S0 (g i)=ac)/\∀i j,i<k->j<k->g i=g j->i=j) (fun O S=>n-ca (O 11)) ?_ ?_
 ·simp -dsimp only[go_sem,aa,reduceCtorEq];exact⟨0,om,rfl,(eJ.refl S0).upd hb _,fun _=>0,bE.here fun i _=>by simp,fun i hi=>om,fun i j hi=>om⟩
 ·rintro O S ⟨k,g,hk,h1,h5,h10,h11,hE,hO,hR,hI⟩;by_cases hlt:k<n
  ·have hw:IntKind.i64.wrap ((k:Int)+1)=((k+1:Nat):Int):=dK om om;simp -dsimp only[go_sem,aa,↓reduceIte,af,decide_true,h1,h5,h10,h11,hlt,hw];refine⟨om,aH.intro fun c hc=>?_⟩
   obtain⟨g',hS,hg'⟩:=hO;have hbc:b≠c:=by rintro rfl;rw[hS]at hc;cases hc
   simp -dsimp only[go_sem,hbc,hS,ca]
   repeat refine an ?_
   refine⟨⟨k+1,om,rfl,(hE.upd (hE.none hc) _).upd hb _,fun i=>if i=k then c else g i,bE.here fun i hi=>?_,fun i hi=>?_,fun i j hi hj e=>?_⟩,om⟩
   ·have:=hg' i hi;grind [bJ]
   ·by_cases e:i=k
    ·simp only[e,if_true];exact⟨(bE.here fun _ _=>rfl).upd (ao hbc) _,hE.none hc⟩
    ·simp only[e,if_false];obtain⟨r1,r2⟩:=hR i om;exact⟨(r1.upd (bE.fresh r1 hc) _).upd (fun e=>by rw[e]at r1;exact bE.ne (bE.of hS) r1 om rfl) _,r2⟩
   ·by_cases e1:i=k<;>by_cases e2:j=k<;>simp only[e1,e2,if_true,if_false]at e ⊢
    ·exact absurd e.symm (bE.fresh (hR j om).1 hc)
    ·exact absurd e (bE.fresh (hR i om).1 hc)
    ·exact hI i j om om e
  ·simp -dsimp only[go_sem,aa,↓reduceIte,af,decide_false,h1,h5,h10,h11,hlt];obtain rfl:k=n:=om
   exact⟨b,rfl,g,⟨hO.congr fun i hi=>by rw[if_pos hi],fun i hi=>(hR i hi).1,hI⟩,hE,hb,fun i hi=>(hR i hi).2⟩
theorem a6{k:Nat}(h:k<1000000):IntKind.i64.wrap ((k:Int)+1)=((k+1:Nat):Int):=dK om om
def In(z:Int):Prop:=-9223372036854775808<=z/\z<=9223372036854775807
theorem sd(S0:St)(n m:Nat)(A:Nat->Nat->Int)(h1:1<=n)(h2:n<=16)(h3:1<=m)(h4:m<=16)(hA:∀i j,i<n->j<m->In (A i j)) :
  cS 55 [aN n m A] S0 (fun r S'=>∃b g,r=.tup [.sl 1 b 0 n,.bool true]/\gQ S0 S' b g n m A):=by
 refine aD func55 rfl 78 ntmps55 kr sm (by simp[results55]) ?_
 rw[aQ,results55];have d1:decide ((n:Int)<1)=false:=dlt om;have d2:decide ((16:Int)<n)=false:=dlt om;have d3:decide ((m:Int)<1)=false:=dlt om;have d4:decide ((16:Int)<m)=false:=dlt om;simp -dsimp only[go_sem,aa,reduceCtorEq,aN,bO,d1,d2];refine aM (fun O S=>∃k:Nat,k<=n/\O 0=aN n m A/\O 17=aN n m A/\O 18=.int .i64 n/\O 19=.int .i64 k/\S=S0) (fun O S=>n-ca (O 19)) ?_ ?_
 ·simp -dsimp only[go_sem,aa,reduceCtorEq,aN,bO];exact⟨0,om,rfl⟩
 ·rintro O S ⟨k,hk,e0,e17,e18,e19,rfl⟩;by_cases hlt:k<n
  ·simp -dsimp only[go_sem,aa,au,ae,↓reduceIte,reduceCtorEq,af,decide_true,az,aN,bO,e0,e17,e18,e19,hlt,a6 (om:k<1000000),d3,d4,ca]
   exact⟨om,⟨k+1,om,rfl⟩,om⟩
  ·simp -dsimp only[go_sem,aa,au,ae,↓reduceIte,reduceCtorEq,af,decide_false,az,aN,bO,e0,e17,e18,e19,hlt]
   repeat refine an ?_
   refine(Cf S n m om om).mono ?_;rintro r S1 ⟨b,g,rfl,hZ⟩;simp -dsimp only[go_sem,reduceCtorEq,aN,bO,e0];refine aM (fun O S'=>∃k:Nat,k<=n/\O 0=aN n m A/\O 6=.sl 1 b 0 n/\O 49=.int .i64 n/\O 50=.int .i64 k/\gQ S S' b g n m (fun i j=>if i<k then A i j else 0)) (fun O S=>n-ca (O 50)) ?_ ?_
   ·simp -dsimp only[go_sem,aa,reduceCtorEq,aN,bO,e0];exact⟨0,om,rfl,hZ.congr sm⟩
   ·rintro O S1 ⟨k,hk,e0,e6,e49,e50,hM⟩;by_cases hlt:k<n
    ·simp -dsimp only[go_sem,aa,↓reduceIte,reduceCtorEq,af,decide_true,aN,bO,e0,e6,e49,e50,hlt];refine aM (fun O S'=>∃j:Nat,j<=m/\O 0=aN n m A/\O 6=.sl 1 b 0 n/\O 7=.int .i64 k/\O 49=.int .i64 n/\O 50=.int .i64 k/\O 57=.int .i64 m/\O 58=.int .i64 j/\gQ S S' b g n m (fun i c=>if i<k∨(i=k/\c<j)then A i c else 0)) (fun O S=>m-ca (O 58)) ?_ ?_
     ·simp -dsimp only[go_sem,aa,reduceCtorEq,aN,bO,e0,e6,e49,e50];exact⟨0,om,rfl,hM.congr sm⟩
     ·rintro O S2 ⟨j,hj,e0,e6,e7,e49,e50,e57,e58,hM⟩;by_cases hjm:j<m
      ·obtain⟨g1,u1,v1⟩:=hM.1.outer;obtain⟨g2,u2,v2⟩:=hM.1.row k hlt;have v1':=v1 k hlt;simp -dsimp only[go_sem,aa,↓reduceIte,reduceCtorEq,af,decide_true,aN,bO,e0,e6,e49,e50,e57,e58,hjm];refine bM 13 kr ?_
       simp -dsimp only[go_sem,aa,au,ae,↓reduceIte,reduceCtorEq,af,aN,bO,e0,e6,e7,e49,e50,e57,e58,hlt,hjm,u1,u2,v1',a6 (om:j<1000000)]
       repeat refine an ?_
       refine⟨_,(eK (hA k j hlt hjm).1 (hA k j hlt hjm).2).pure',om,trivial,⟨j+1,om,rfl,(hM.set hlt u2).congr fun i c _ _=>?_⟩,by simp only[ca,Int.toNat_natCast];omega⟩
       simp only[eE]
       grind
      ·simp -dsimp only[go_sem,aa,↓reduceIte,reduceCtorEq,af,decide_false,aN,bO,e0,e6,e49,e50,e57,e58,hjm,ca,a6 (om:k<1000000)]
       refine⟨⟨k+1,om,rfl,hM.congr fun i c hi hc=>?_⟩,om⟩
       grind
    ·simp -dsimp only[go_sem,aa,↓reduceIte,reduceCtorEq,af,decide_false,aN,bO,e0,e6,e49,e50,hlt];exact⟨b,rfl,g,hM.congr fun i j hi hj=>by rw[if_pos om]⟩
theorem gQ.vr{S0 S:St}{b:Nat}{g:Nat->Nat}{n m:Nat}{A:Nat->Nat->Int}(h:gQ S0 S b g n m A):VR S (.sl 1 b 0 n) (aZ n m A):=h.1.vr
theorem Mu(S0:St)(n m:Nat)(A:Nat->Nat->Int)(h1:1<=n)(h2:n<=16)(h3:1<=m)(h4:m<=16)(hA:∀i j,i<n->j<m->In (A i j)) :
  cS 27 [aN n m A] S0 (fun r S'=>∃b g,r=.sl 1 b 0 n/\gQ S0 S' b g n m A):=by
 refine aD func27 rfl 11 ntmps27 kr sm (by simp[results27]) ?_
 rw[aQ,results27];simp -dsimp only[go_sem,aa,au,ae,reduceCtorEq];refine(sd S0 n m A h1 h2 h3 h4 hA).mono ?_;rintro r S1 ⟨b,g,rfl,hZ⟩;simp -dsimp only[go_sem,aa,reduceCtorEq];exact⟨b,rfl,g,hZ⟩
theorem wN(n m:Nat)(A:Nat->Nat->Int)(h1:1<=n)(h2:n<=16)(h3:1<=m)(h4:m<=16)(hA:∀i j,i<n->j<m->In (A i j)):PF 27 [aN n m A] (aZ n m A) :=
 PF.of_spec ((Mu _ n m A h1 h2 h3 h4 hA).mono fun r S' ⟨b,g,e,h⟩=>e▸h.vr)
def wh:AV->Bool
 | .int _ _=>true
 | .bool _=>true
 | .big _=>true
 | .nil=>true
 | .sl _ _ _ _=>true
 | .ptr _ _ _=>true
 | _=>false
def clb:AV->Bool
 | .tup l=>l.all wh
 | x=>wh x
theorem wg{w:World}{M M':Nat->Prop}{x:AV}{v:Value}(h:wh x=true)(hr:bs w M x v):bs w M' x v:=by
 cases x<;>simp only[wh,aR]at h<;>simpa only[bs]using hr
theorem B3{w:World}{M M':Nat->Prop}:∀(l:List AV) (vs:List Value),l.all wh=true->bq w M l vs->bq w M' l vs
 | [],[],_,_=>by simp[bq]
 | x::l,v::vs,h,h2=>by
  simp only[bq,List.all_cons,Bool.and_eq_true]at h h2 ⊢;exact⟨wg h.1 h2.1,B3 l vs h.2 h2.2⟩
 | [],_::_,_,h2=>by simp[bq]at h2
 | _::_,[],_,h2=>by simp[bq]at h2
theorem J7{w:World}{M M':Nat->Prop}{x:AV}{v:Value}(h:clb x=true)(hr:bs w M x v):bs w M' x v:=by
 cases x<;>first
  | (simp only[clb]at h;exact wg h hr)
  | (simp only[clb]at h;simp only[bs]at hr ⊢;obtain⟨vs,e,h2⟩:=hr;exact⟨vs,e,B3 _ _ h h2⟩)
def St.join(S S1:St):St:=fun b=>match S b with
 | some X=>some X
 | ac=>S1 b
def F8(S:St):Prop:=∀b X,S b=some X->∀j,j<X.n->wh (X.g j)=true
theorem cS.frame{f:Nat}{args args':List AV}{S:St}{post:AV->St->Prop}(h:cS f args' St.none post)(hv:dO S args args')(hc:∀r S1,post r S1->clb r=true/\F8 S1) :
  cS f args S (fun r S'=>∃S1,post r S1/\(∀b X,S b=some X->S1 b=ac)/\S'=S.join S1):=by
 intro w vs hs hr;refine(h w vs (fun b x hx=>by simp[St.none]at hx) (bq.turn (fun _ _ hk=>absurd rfl hk) _ _ (ue hs _ _ _ hv hr))).mono ?_
 rintro e w' ⟨v,r,S1,rfl,hp,hR,hS,hG⟩;obtain⟨c1,c2⟩:=hc r S1 hp;have hlt:∀b X,S b=some X->b<w.heap.size:=fun b X hX=>by obtain⟨cs,h1,_⟩:=hs b X hX;exact dW h1
 have hd:∀b,b<w.heap.size->S1 b=ac:=fun b hb=>by
  cases e:S1 b with
  | none=>rfl
  | some Y=>exact absurd (hG.own b hb (by simp[St.dom,e])) (by simp[St.dom,St.none])
 have hg:cw S.dom (S.join S1).dom w w':=⟨hG.os,hG.tape,hG.output,hG.size,fun k hk _=>hG.keep k hk (by simp[St.dom,St.none]),hG.shape,fun k hk hm=>by
  simp only[St.dom,St.join]at hm ⊢
  cases e:S k with
  | none=>rw[e]at hm;exact absurd (hd k hk) hm
  | some X=>simp⟩
 refine⟨v,r,S.join S1,rfl,⟨S1,hp,fun b X hX=>hd b (hlt b X hX),rfl⟩,J7 c1 hR,?_,hg⟩;intro b X hX;simp only[St.join]at hX
 cases e:S b with
 | some Y =>
  rw[e]at hX;cases hX;obtain⟨cs,h1,h2,h3,h4⟩:=hs b X e;refine⟨cs,by rw[hG.keep b (dW h1) (by simp[St.dom,St.none])];exact h1,h2,fun j hj=>?_,h4⟩
  obtain⟨u,u1,u2⟩:=h3 j hj;exact⟨u,u1,bs.grow hs.noU hg _ _ u2⟩
 | none =>
  rw[e]at hX;obtain⟨cs,h1,h2,h3,h4⟩:=hS b X hX;refine⟨cs,h1,h2,fun j hj=>?_,h4⟩;obtain⟨u,u1,u2⟩:=h3 j hj;exact⟨u,u1,wg (c2 b X hX j hj) u2⟩
theorem re(S S1:St):eJ S (S.join S1):=fun k X h=>by simp[St.join,h]
theorem vQ{S S1:St}(hd:∀b X,S b=some X->S1 b=ac){b:Nat}{X:dH}(h:S1 b=some X):S.join S1 b=some X/\S b=ac:=by
 cases e:S b with
 | some Y=>rw[hd b Y e]at h;cases h
 | none=>exact⟨by simp[St.join,e,h],rfl⟩
theorem bE.join{S S1:St}(hd:∀b X,S b=some X->S1 b=ac){b ty es n:Nat}{g:Nat->AV}(h:bE S1 b ty es n g):bE (S.join S1) b ty es n g/\S b=ac:=by
 obtain⟨g',h1,h2⟩:=h;exact⟨⟨g',(vQ hd h1).1,h2⟩,(vQ hd h1).2⟩
theorem cZ.join{S S1:St}(hd:∀b X,S b=some X->S1 b=ac){b:Nat}{g:Nat->Nat}{n m:Nat}{A:Nat->Nat->Int}(h:cZ S1 b g n m A):gQ S (S.join S1) b g n m A :=
 ⟨⟨(h.outer.join hd).1,fun i hi=>((h.row i hi).join hd).1,h.inj⟩,re S S1,(h.outer.join hd).2,fun i hi=>((h.row i hi).join hd).2⟩
theorem cS.less{f:Nat}{args:List AV}{S:St}{post post':AV->St->Prop}(h:cS f args S post)(hp:∀r S',post r S'->∃S'',(∀b X,S'' b=some X->S' b=some X)/\post' r S''):cS f args S post':=by
 intro w vs hs hr;refine(h w vs hs hr).mono ?_;rintro e w' ⟨v,r,S1,rfl,h1,h2,h3,h4⟩;obtain⟨S2,k1,k2⟩:=hp r S1 h1;obtain⟨l1,l2⟩:=h3.less k1;exact⟨v,r,S2,rfl,k2,bs.turn (fun k _ hk=>l2 k hk) _ _ h2,l1,h4.weaken l2⟩
def fW(S:St)(b:Nat)(g:Nat->Nat)(n:Nat):St:=fun k=>if k=b then S k else if ∃i,i<n/\k=g i then S k else ac
theorem ja(S:St)(b:Nat)(g:Nat->Nat)(n:Nat):∀c X,fW S b g n c=some X->S c=some X:=by
 intro c X h;unfold fW at h;split at h
 ·exact h
 ·split at h
  ·exact h
  ·cases h
theorem cZ.only{S:St}{b:Nat}{g:Nat->Nat}{n m:Nat}{A:Nat->Nat->Int}(h:cZ S b g n m A):cZ (fW S b g n) b g n m A/\F8 (fW S b g n):=by
 refine⟨⟨?_,fun i hi=>?_,h.inj⟩,fun c X hX j hj=>?_⟩
 ·obtain⟨g',h1,h2⟩:=h.outer;exact⟨g',by simp[fW,h1],h2⟩
 ·obtain⟨g',h1,h2⟩:=h.row i hi;refine⟨g',?_,h2⟩;unfold fW;split
  ·exact h1
  ·rw[if_pos ⟨i,hi,rfl⟩];exact h1
 ·unfold fW at hX;split at hX
  ·rename_i e;subst e;obtain⟨g',h1,h2⟩:=h.outer;rw[hX]at h1;cases h1;show wh (g' j)=true;rw[h2 j hj];rfl
  ·split at hX
   ·rename_i e;obtain⟨i,hi,rfl⟩:=e;obtain⟨g',h1,h2⟩:=h.row i hi;rw[hX]at h1;cases h1;show wh (g' j)=true;rw[h2 j hj];rfl
   ·cases hX
def MF(f:Nat)(args:List AV)(n m:Nat)(A:Nat->Nat->Int):Prop:=∀S args',dO S args' args->cS f args' S (fun r S'=>∃b g,r=.sl 1 b 0 n/\gQ S S' b g n m A)
def xN(f:Nat)(args:List AV)(n m:Nat)(A:Nat->Nat->Int):Prop:=∀S args',dO S args' args->cS f args' S (fun r S'=>∃b g,r=.tup [.sl 1 b 0 n,.bool true]/\gQ S S' b g n m A)
theorem MF.of{f:Nat}{args:List AV}{n m:Nat}{A:Nat->Nat->Int}(h:cS f args St.none (fun r S'=>∃b g,r=.sl 1 b 0 n/\cZ S' b g n m A)):MF f args n m A:=fun S args' hv=>by
 have h1:cS f args St.none (fun r S'=>∃b g,r=.sl 1 b 0 n/\cZ S' b g n m A/\F8 S'):=h.less fun r S' ⟨b,g,e,hm⟩=>⟨fW S' b g n,ja S' b g n,b,g,e,hm.only.1,hm.only.2⟩;refine(h1.frame hv ?_).mono ?_
 ·rintro r S1 ⟨b,g,rfl,_,hc⟩;exact⟨rfl,hc⟩
 ·rintro r S' ⟨S1,⟨b,g,rfl,hm,_⟩,hd,rfl⟩;exact⟨b,g,rfl,hm.join hd⟩
theorem xN.of{f:Nat}{args:List AV}{n m:Nat}{A:Nat->Nat->Int}(h:cS f args St.none (fun r S'=>∃b g,r=.tup [.sl 1 b 0 n,.bool true]/\cZ S' b g n m A)):xN f args n m A:=fun S args' hv=>by
 have h1:cS f args St.none (fun r S'=>∃b g,r=.tup [.sl 1 b 0 n,.bool true]/\cZ S' b g n m A/\F8 S'):=h.less fun r S' ⟨b,g,e,hm⟩=>⟨fW S' b g n,ja S' b g n,b,g,e,hm.only.1,hm.only.2⟩;refine(h1.frame hv ?_).mono ?_
 ·rintro r S1 ⟨b,g,rfl,_,hc⟩;exact⟨rfl,hc⟩
 ·rintro r S' ⟨S1,⟨b,g,rfl,hm,_⟩,hd,rfl⟩;exact⟨b,g,rfl,hm.join hd⟩
theorem MF.pf{f:Nat}{args:List AV}{n m:Nat}{A:Nat->Nat->Int}(h:MF f args n m A):PF f args (aZ n m A) :=
 PF.of_spec ((h St.none args (cH _ _)).mono fun _ _ ⟨_,_,e,h⟩=>e▸h.vr)
theorem xN.pf{f:Nat}{args:List AV}{n m:Nat}{A:Nat->Nat->Int}(h:xN f args n m A):PF f args (.tup [aZ n m A,.bool true]) :=
 PF.of_spec ((h St.none args (cH _ _)).mono fun _ _ ⟨_,_,e,h⟩=>e▸VR.tup2 h.vr (VR.mf rfl))
theorem MF.congr{f:Nat}{args:List AV}{n m:Nat}{A B:Nat->Nat->Int}(h:MF f args n m A)(he:∀i j,i<n->j<m->A i j=B i j):MF f args n m B:=fun S args' hv=>(h S args' hv).mono fun _ _ ⟨b,g,e,hm⟩=>⟨b,g,e,hm.congr he⟩
theorem xN.congr{f:Nat}{args:List AV}{n m:Nat}{A B:Nat->Nat->Int}(h:xN f args n m A)(he:∀i j,i<n->j<m->A i j=B i j):xN f args n m B:=fun S args' hv=>(h S args' hv).mono fun _ _ ⟨b,g,e,hm⟩=>⟨b,g,e,hm.congr he⟩
theorem Aq(n m:Nat)(hn:n<=1000)(hm:m<=1000):MF 102 [.int .i64 n,.int .i64 m] n m (fun _ _=>0):=MF.of ((Cf _ n m hn hm).mono fun _ _ ⟨b,g,e,h⟩=>⟨b,g,e,h.1⟩)
theorem dO.mat{S:St}{b:Nat}{g:Nat->Nat}{n m:Nat}{A:Nat->Nat->Int}(h:cZ S b g n m A){l r:List AV}(hl:dO S l r):dO S (.sl 1 b 0 n::l) (aZ n m A::r):=⟨h.vr.va,hl⟩
theorem dO.same{S:St}{x:AV}{l r:List AV}(hl:dO S l r):dO S (x::l) (x::r):=⟨VA.refl S x,hl⟩
theorem dO.nil{S:St}:dO S [] []:=trivial
def iY(S0 S:St)(b:Nat)(g:Nat->Nat)(n m:Nat)(A:Nat->Nat->Int):Prop:=dR S b g n m A/\eJ S0 S/\S0 b=ac/\∀i,i<n->S0 (g i)=ac
theorem dR.outer_ne{S:St}{b:Nat}{g:Nat->Nat}{n m:Nat}{A:Nat->Nat->Int}(h:dR S b g n m A){i:Nat}(hi:i<n):b≠g i:=bE.ne h.outer (h.row i hi) om
theorem dR.set{S:St}{b:Nat}{g:Nat->Nat}{n m:Nat}{A:Nat->Nat->Int}(h:dR S b g n m A){i j:Nat}{z:Int}{g':Nat->AV}(hi:i<n)(hS:S (g i)=some ⟨2,1,m,g'⟩) :
  dR (S.upd (g i) ⟨2,1,m,bJ g' j (.int .i64 z)⟩) b g n m (eE A i j z):=by
 refine⟨h.outer.upd (h.outer_ne hi) _,fun a ha=>?_,h.inj⟩;by_cases e:a=i
 ·subst e;obtain⟨g2,h1,h2⟩:=h.row a ha;rw[hS]at h1;cases h1;refine bE.here fun c hc=>?_;have:=h2 c hc;simp only[bJ,eE]
  grind
 ·have hne:g a≠g i:=fun e2=>e (h.inj a i ha hi e2);refine((h.row a ha).upd hne _).congr fun c _=>?_;simp[eE,e]
theorem iY.set{S0 S:St}{b:Nat}{g:Nat->Nat}{n m:Nat}{A:Nat->Nat->Int}(h:iY S0 S b g n m A){i j:Nat}{z:Int}{g':Nat->AV}(hi:i<n)(hS:S (g i)=some ⟨2,1,m,g'⟩) :
  iY S0 (S.upd (g i) ⟨2,1,m,bJ g' j (.int .i64 z)⟩) b g n m (eE A i j z):=⟨h.1.set hi hS,h.2.1.upd (h.2.2.2 i hi) _,h.2.2.1,h.2.2.2⟩
theorem dR.congr{S:St}{b:Nat}{g:Nat->Nat}{n m:Nat}{A B:Nat->Nat->Int}(h:dR S b g n m A)(he:∀i j,i<n->j<m->A i j=B i j):dR S b g n m B :=
 ⟨h.outer,fun i hi=>(h.row i hi).congr fun j hj=>by rw[he i j hi hj],h.inj⟩
theorem iY.congr{S0 S:St}{b:Nat}{g:Nat->Nat}{n m:Nat}{A B:Nat->Nat->Int}(h:iY S0 S b g n m A)(he:∀i j,i<n->j<m->A i j=B i j):iY S0 S b g n m B:=⟨h.1.congr he,h.2⟩
theorem iY.vr{S0 S:St}{b:Nat}{g:Nat->Nat}{n m:Nat}{A:Nat->Nat->Int}(h:iY S0 S b g n m A):VR S (.sl 1 b 0 n) (aN n m A):=h.1.vr
theorem dR.join{S S1:St}(hd:∀b X,S b=some X->S1 b=ac){b:Nat}{g:Nat->Nat}{n m:Nat}{A:Nat->Nat->Int}(h:dR S1 b g n m A):iY S (S.join S1) b g n m A :=
 ⟨⟨(h.outer.join hd).1,fun i hi=>((h.row i hi).join hd).1,h.inj⟩,re S S1,(h.outer.join hd).2,fun i hi=>((h.row i hi).join hd).2⟩
theorem dR.only{S:St}{b:Nat}{g:Nat->Nat}{n m:Nat}{A:Nat->Nat->Int}(h:dR S b g n m A):dR (fW S b g n) b g n m A/\F8 (fW S b g n):=by
 refine⟨⟨?_,fun i hi=>?_,h.inj⟩,fun c X hX j hj=>?_⟩
 ·obtain⟨g',h1,h2⟩:=h.outer;exact⟨g',by simp[fW,h1],h2⟩
 ·obtain⟨g',h1,h2⟩:=h.row i hi;refine⟨g',?_,h2⟩;unfold fW;split
  ·exact h1
  ·rw[if_pos ⟨i,hi,rfl⟩];exact h1
 ·unfold fW at hX;split at hX
  ·rename_i e;subst e;obtain⟨g',h1,h2⟩:=h.outer;rw[hX]at h1;cases h1;show wh (g' j)=true;rw[h2 j hj];rfl
  ·split at hX
   ·rename_i e;obtain⟨i,hi,rfl⟩:=e;obtain⟨g',h1,h2⟩:=h.row i hi;rw[hX]at h1;cases h1;show wh (g' j)=true;rw[h2 j hj];rfl
   ·cases hX
def F5(f:Nat)(args:List AV)(n m:Nat)(A:Nat->Nat->Int):Prop:=∀S args',dO S args' args->cS f args' S (fun r S'=>∃b g,r=.sl 1 b 0 n/\iY S S' b g n m A)
def wU(f:Nat)(args:List AV)(n m:Nat)(A:Nat->Nat->Int):Prop:=∀S args',dO S args' args->cS f args' S (fun r S'=>∃b g,r=.tup [.sl 1 b 0 n,.bool true]/\iY S S' b g n m A)
theorem F5.of{f:Nat}{args:List AV}{n m:Nat}{A:Nat->Nat->Int}(h:cS f args St.none (fun r S'=>∃b g,r=.sl 1 b 0 n/\dR S' b g n m A)):F5 f args n m A:=fun S args' hv=>by
 have h1:cS f args St.none (fun r S'=>∃b g,r=.sl 1 b 0 n/\dR S' b g n m A/\F8 S'):=h.less fun r S' ⟨b,g,e,hm⟩=>⟨fW S' b g n,ja S' b g n,b,g,e,hm.only.1,hm.only.2⟩;refine(h1.frame hv ?_).mono ?_
 ·rintro r S1 ⟨b,g,rfl,_,hc⟩;exact⟨rfl,hc⟩
 ·rintro r S' ⟨S1,⟨b,g,rfl,hm,_⟩,hd,rfl⟩;exact⟨b,g,rfl,hm.join hd⟩
theorem wU.of{f:Nat}{args:List AV}{n m:Nat}{A:Nat->Nat->Int}(h:cS f args St.none (fun r S'=>∃b g,r=.tup [.sl 1 b 0 n,.bool true]/\dR S' b g n m A)):wU f args n m A:=fun S args' hv=>by
 have h1:cS f args St.none (fun r S'=>∃b g,r=.tup [.sl 1 b 0 n,.bool true]/\dR S' b g n m A/\F8 S'):=h.less fun r S' ⟨b,g,e,hm⟩=>⟨fW S' b g n,ja S' b g n,b,g,e,hm.only.1,hm.only.2⟩;refine(h1.frame hv ?_).mono ?_
 ·rintro r S1 ⟨b,g,rfl,_,hc⟩;exact⟨rfl,hc⟩
 ·rintro r S' ⟨S1,⟨b,g,rfl,hm,_⟩,hd,rfl⟩;exact⟨b,g,rfl,hm.join hd⟩
theorem F5.pf{f:Nat}{args:List AV}{n m:Nat}{A:Nat->Nat->Int}(h:F5 f args n m A):PF f args (aN n m A) :=
 PF.of_spec ((h St.none args (cH _ _)).mono fun _ _ ⟨_,_,e,h⟩=>e▸h.vr)
theorem wU.pf{f:Nat}{args:List AV}{n m:Nat}{A:Nat->Nat->Int}(h:wU f args n m A):PF f args (.tup [aN n m A,.bool true]) :=
 PF.of_spec ((h St.none args (cH _ _)).mono fun _ _ ⟨_,_,e,h⟩=>e▸VR.tup2 h.vr (VR.mf rfl))
theorem F5.congr{f:Nat}{args:List AV}{n m:Nat}{A B:Nat->Nat->Int}(h:F5 f args n m A)(he:∀i j,i<n->j<m->A i j=B i j):F5 f args n m B:=fun S args' hv=>(h S args' hv).mono fun _ _ ⟨b,g,e,hm⟩=>⟨b,g,e,hm.congr he⟩
theorem wU.congr{f:Nat}{args:List AV}{n m:Nat}{A B:Nat->Nat->Int}(h:wU f args n m A)(he:∀i j,i<n->j<m->A i j=B i j):wU f args n m B:=fun S args' hv=>(h S args' hv).mono fun _ _ ⟨b,g,e,hm⟩=>⟨b,g,e,hm.congr he⟩
theorem dO.imat{S:St}{b:Nat}{g:Nat->Nat}{n m:Nat}{A:Nat->Nat->Int}(h:dR S b g n m A){l r:List AV}(hl:dO S l r):dO S (.sl 1 b 0 n::l) (aN n m A::r):=⟨h.vr.va,hl⟩
def nQ(i j:Nat):Int:=if i=j then 1 else 0
theorem pB(n:Nat)(h1:1<=n)(h2:n<=16):xN 111 [.int .i64 n] n n nQ:=by
 refine xN.of ?_;refine aD func111 rfl 29 ntmps111 kr sm (by simp[results111]) ?_
 rw[aQ,results111];have d1:¬((n:Int)<1):=om
 have d2:¬((16:Int)<n):=om
 simp -dsimp only[go_sem,aa,au,ae,reduceCtorEq,decide_false,d1,d2];refine(Aq n n om om _ _ (cH _ _)).mono ?_;rintro r S1 ⟨b,g,rfl,hZ⟩;simp -dsimp only[go_sem,reduceCtorEq];refine aM (fun O S'=>∃k:Nat,k<=n/\O 4=.sl 1 b 0 n/\O 16=.int .i64 n/\O 17=.int .i64 k/\cZ S' b g n n (fun i j=>if i<k then nQ i j else 0)) (fun O S=>n-ca (O 17)) ?_ ?_
 ·simp -dsimp only[go_sem,aa];exact⟨0,om,rfl,hZ.1.congr sm⟩
 ·rintro O S ⟨k,hk,e4,e16,e17,hM⟩;by_cases hlt:k<n
  ·obtain⟨g1,u1,v1⟩:=hM.outer;obtain⟨g2,u2,v2⟩:=hM.row k hlt;have v1':=v1 k hlt;simp -dsimp only[go_sem,aa,↓reduceIte,af,decide_true,e4,e16,e17,hlt];refine bM 6 kr ?_
   simp -dsimp only[go_sem,aa,au,ae,↓reduceIte,reduceCtorEq,af,e4,e16,e17,hlt,u1,u2,v1',a6 (om:k<1000000),ca]
   repeat refine an ?_
   refine⟨_,(eK dc dc).pure',om,trivial,⟨k+1,om,rfl,(hM.set hlt u2).congr fun i c _ _=>?_⟩,om⟩
   simp only[eE,nQ]
   grind
  ·simp -dsimp only[go_sem,aa,↓reduceIte,af,decide_false,e4,e16,e17,hlt];exact⟨b,rfl,g,hM.congr fun i j hi hj=>by rw[if_pos om]⟩
theorem rQ(n m:Nat)(A:Nat->Nat->Int)(k:Nat)(h1:1<=n)(h2:n<=16)(h3:1<=m)(h4:m<=16)(hA:∀i j,i<n->j<m->nb (A i j) k)(hk:k<=8589934592):xN 100 [aZ n m A] m n (fun i j=>A j i):=by
 refine xN.of ?_;refine aD func100 rfl 51 ntmps100 kr sm (by simp[results100]) ?_
 rw[aQ,results100];simp -dsimp only[go_sem,aa,au,ae,reduceCtorEq];refine(oX n m A h1 h2 h3 h4).call ?_;simp -dsimp only[go_sem,aa,au,ae,reduceCtorEq];refine(Aq m n om om _ _ (cH _ _)).mono ?_;rintro r S1 ⟨b,g,rfl,hZ⟩;simp -dsimp only[go_sem,aa,reduceCtorEq,aZ,bn];refine aM (fun O S'=>∃k:Nat,k<=n/\O 0=aZ n m A/\O 7=.sl 1 b 0 m/\O 22=.int .i64 n/\O 23=.int .i64 k/\cZ S' b g m n (fun i j=>if j<k then A j i else 0)) (fun O S=>n-ca (O 23)) ?_ ?_
 ·simp -dsimp only[go_sem,aa,reduceCtorEq,aZ,bn];exact⟨0,om,rfl,hZ.1.congr sm⟩
 ·rintro O S ⟨k,hk,e0,e7,e22,e23,hM⟩;by_cases hlt:k<n
  ·simp -dsimp only[go_sem,aa,↓reduceIte,reduceCtorEq,af,decide_true,e0,e7,e22,e23,hlt,aZ,bn];refine aM (fun O S'=>∃j:Nat,j<=m/\O 0=aZ n m A/\O 7=.sl 1 b 0 m/\O 8=.int .i64 k/\O 22=.int .i64 n/\O 23=.int .i64 k/\O 30=.int .i64 m/\O 31=.int .i64 j/\cZ S' b g m n (fun i c=>if c<k∨(c=k/\i<j)then A c i else 0)) (fun O S=>m-ca (O 31)) ?_ ?_
   ·simp -dsimp only[go_sem,aa,reduceCtorEq,e0,e7,e22,e23,aZ,bn];exact⟨0,om,rfl,hM.congr sm⟩
   ·rintro O S ⟨j,hj,e0,e7,e8,e22,e23,e30,e31,hM⟩;by_cases hjm:j<m
    ·obtain⟨g1,u1,v1⟩:=hM.outer;obtain⟨g2,u2,v2⟩:=hM.row j hjm;have v1':=v1 j hjm;simp -dsimp only[go_sem,aa,↓reduceIte,reduceCtorEq,af,decide_true,e0,e7,e22,e23,e30,e31,hjm,aZ,bn];refine bM 13 kr ?_
     simp -dsimp only[go_sem,aa,au,ae,↓reduceIte,reduceCtorEq,af,e0,e7,e8,e22,e23,e30,e31,hjm,hlt,aZ,bn,u1,u2,v1',a6 (om:j<1000000),ca]
     repeat refine an ?_
     refine⟨_,(Bs (hA k j hlt hjm) om).pure',om,trivial,⟨j+1,om,rfl,(hM.set hjm u2).congr fun i c _ _=>?_⟩,om⟩
     simp only[eE]
     grind
    ·simp -dsimp only[go_sem,aa,↓reduceIte,reduceCtorEq,af,decide_false,e0,e7,e22,e23,e30,e31,hjm,aZ,bn,a6 (om:k<1000000),ca]
     refine⟨⟨k+1,om,rfl,hM.congr fun i c hi hc=>?_⟩,om⟩
     grind
  ·simp -dsimp only[go_sem,aa,↓reduceIte,reduceCtorEq,af,decide_false,e0,e7,e22,e23,hlt,aZ,bn];exact⟨b,rfl,g,hM.congr fun i j hi hj=>by rw[if_pos om]⟩
theorem cZ.ext{S S':St}{b:Nat}{g:Nat->Nat}{n m:Nat}{A:Nat->Nat->Int}(h:cZ S b g n m A)(he:eJ S S'):cZ S' b g n m A:=⟨he.has h.outer,fun i hi=>he.has (h.row i hi),h.inj⟩
theorem dR.ext{S S':St}{b:Nat}{g:Nat->Nat}{n m:Nat}{A:Nat->Nat->Int}(h:dR S b g n m A)(he:eJ S S'):dR S' b g n m A:=⟨he.has h.outer,fun i hi=>he.has (h.row i hi),h.inj⟩
theorem dO.ints{S:St}{b n:Nat}{r:Nat->Int}(h:gJ S b n r){l l':List AV}(hl:dO S l l'):dO S (.sl 2 b 0 n::l) (bn n r::l'):=⟨h.vr.va,hl⟩
theorem dO.i64s{S:St}{b n:Nat}{r:Nat->Int}(h:lG S b n r){l l':List AV}(hl:dO S l l'):dO S (.sl 1 b 0 n::l) (bO n r::l'):=⟨h.vr.va,hl⟩
def ms(m:Nat)(A B:Nat->Nat->Int)(i j:Nat):Int:=aE m fun k=>A i k*B k j
theorem Mv(n m q:Nat)(A B:Nat->Nat->Int)(k:Nat)(h1:1<=n)(h2:n<=16)(h3:1<=m)(h4:m<=16)(h5:1<=q)(h6:q<=16)(hA:∀i j,i<n->j<m->nb (A i j) k)(hB:∀i j,i<m->j<q->nb (B i j) k)
  (hk:k<=1000000000):xN 164 [aZ n m A,aZ m q B] n q (ms m A B):=by
 refine xN.of ?_;refine aD func164 rfl 70 ntmps164 kr sm (by simp[results164]) ?_
 rw[aQ,results164];simp -dsimp only[go_sem,ak,aa,au,ae,reduceCtorEq];refine(oX n m A h1 h2 h3 h4).call ?_;simp -dsimp only[go_sem,aa,au,ae,reduceCtorEq];refine(rQ m q B k h3 h4 h5 h6 hB om _ _ (cH _ _)).mono ?_;rintro r S1 ⟨bt,gt,rfl,hT⟩;simp -dsimp only[go_sem,aa,au,ae,reduceCtorEq,aZ,bn,not_false_eq_true];refine(Aq n q om om _ _ (cH _ _)).mono ?_;rintro r S2 ⟨b,g,rfl,hZ⟩;simp -dsimp only[go_sem,aa,reduceCtorEq];refine aM (fun O S'=>∃k:Nat,k<=n/\O 0=aZ n m A/\O 9=.sl 1 bt 0 q/\O 11=.sl 1 b 0 n/\O 43=.int .i64 n/\O 44=.int .i64 k/\gQ S1 S' b g n q (fun i j=>if i<k then ms m A B i j else 0)) (fun O S=>n-ca (O 44)) ?_ ?_
 ·simp -dsimp only[go_sem,aa,reduceCtorEq,aZ,bn];exact⟨0,om,rfl,hZ.congr sm⟩
 ·rintro O S ⟨i,hi,e0,e9,e11,e43,e44,hM⟩;by_cases hlt:i<n
  ·simp -dsimp only[go_sem,aa,↓reduceIte,af,decide_true,e9,e11,e43,e44,hlt,aZ,bn];refine aM (fun O S'=>∃j:Nat,j<=q/\O 0=aZ n m A/\O 9=.sl 1 bt 0 q/\O 11=.sl 1 b 0 n/\O 12=.int .i64 i/\O 43=.int .i64 n/\O 44=.int .i64 i/\O 48=.int .i64 q/\O 49=.int .i64 j/\gQ S1 S' b g n q (fun a c=>if a<i∨(a=i/\c<j)then ms m A B a c else 0)) (fun O S=>q-ca (O 49)) ?_ ?_
   ·simp -dsimp only[go_sem,aa,reduceCtorEq,e0,e9,e11,e43,e44,aZ,bn];exact⟨0,om,rfl,hM.congr sm⟩
   ·rintro O S ⟨j,hj,e0,e9,e11,e12,e43,e44,e48,e49,hM⟩;by_cases hjq:j<q
    ·obtain⟨g1,u1,v1⟩:=hM.1.outer;obtain⟨g2,u2,v2⟩:=hM.1.row i hlt;have v1':=v1 i hlt;have hTS:=hT.1.ext hM.2.1;obtain⟨g3,u3,v3⟩:=hTS.outer;have v3':=v3 j hjq;simp -dsimp only[go_sem,aa,↓reduceIte,reduceCtorEq,af,decide_true,e0,e9,e11,e43,e44,e48,e49,hjq,aZ,bn];refine bM 14 kr ?_
     simp -dsimp only[go_sem,aa,au,ae,↓reduceIte,reduceCtorEq,af,e0,e9,e11,e12,e43,e44,e48,e49,hjq,hlt,aZ,bn,u1,u2,v1',u3,v3',a6 (om:j<1000000),ca]
     repeat refine an ?_
     refine⟨_,(L3 m (A i) (fun c=>B c j) k (fun c hc=>hA i c hlt hc) (fun c hc=>hB c j hc hjq) om om).pureS (dO.same (dO.ints (hTS.row j hjq) dO.nil)),om,trivial,⟨j+1,om,rfl,(hM.set hlt u2).congr fun a c _ _=>?_⟩,om⟩
     simp only[eE,ms]
     grind
    ·simp -dsimp only[go_sem,aa,↓reduceIte,reduceCtorEq,af,decide_false,e0,e9,e11,e43,e44,e48,e49,hjq,aZ,bn,a6 (om:i<1000000),ca]
     refine⟨⟨i+1,om,rfl,hM.congr fun a c ha hc=>?_⟩,om⟩
     grind
  ·simp -dsimp only[go_sem,aa,↓reduceIte,af,decide_false,e9,e11,e43,e44,hlt,aZ,bn];exact⟨b,rfl,g,hM.1.congr fun i j hi hj=>by rw[if_pos om]⟩
theorem ow(n m q:Nat)(A B:Nat->Nat->Int)(k:Nat)(h1:1<=n)(h2:n<=16)(h3:1<=m)(h4:m<=16)(h5:1<=q)(h6:q<=16)(hA:∀i j,i<n->j<m->nb (A i j) k)(hB:∀i j,i<m->j<q->nb (B i j) k)
  (hk:k<=1000000000):MF 101 [aZ n m A,aZ m q B] n q (ms m A B):=by
 refine MF.of ?_;refine aD func101 rfl 14 ntmps101 kr sm (by simp[results101]) ?_
 rw[aQ,results101];simp -dsimp only[go_sem,ak,aa,au,ae,reduceCtorEq];refine(Mv n m q A B k h1 h2 h3 h4 h5 h6 hA hB hk _ _ (cH _ _)).mono ?_;rintro r S1 ⟨b,g,rfl,hZ⟩;simp -dsimp only[go_sem,aa,reduceCtorEq];exact⟨b,rfl,g,hZ.1⟩
theorem FV(n m:Nat)(A:Nat->Nat->Int)(h1:1<=n)(h2:n<=16)(h3:1<=m)(h4:m<=16)(hA:∀i j,i<n->j<m->jQ (A i j)):wU 46 [aZ n m A] n m A:=by
 refine wU.of ?_;refine aD func46 rfl 63 ntmps46 kr sm (by simp[results46]) ?_
 rw[aQ,results46];simp -dsimp only[go_sem,aa,au,ae,reduceCtorEq];refine(oX n m A h1 h2 h3 h4).call ?_;simp -dsimp only[go_sem,aa,reduceCtorEq]
 repeat refine an ?_
 refine aH.intro fun b hb=>?_;simp -dsimp only[go_sem];refine aM (fun O S=>∃(k:Nat) (g:Nat->Nat),k<=n/\O 0=aZ n m A/\O 5=.int .i64 m/\O 7=.sl 1 b 0 n/\O 23=.int .i64 n/\O 24=.int .i64 k /\
  bE S b 29 1 n (fun i=>if i<k then .sl 1 (g i) 0 m else .nil)/\(∀i,i<k->lG S (g i) m (A i))/\∀i j,i<k->j<k->g i=g j->i=j) (fun O S=>n-ca (O 24)) ?_ ?_
 ·simp -dsimp only[go_sem,aa,reduceCtorEq,aZ,bn];exact⟨0,om,rfl,fun _=>0,bE.here fun i _=>by simp,fun i hi=>om,fun i j hi=>om⟩
 ·rintro O S ⟨k,g,hk,e0,e5,e7,e23,e24,hO,hR,hI⟩;by_cases hlt:k<n
  ·simp -dsimp only[go_sem,aa,↓reduceIte,af,decide_true,e5,e7,e23,e24,hlt]
   repeat refine an ?_
   refine aH.intro fun c hc=>?_;obtain⟨g',hS,hg'⟩:=hO;have hbc:b≠c:=by rintro rfl;rw[hS]at hc;cases hc
   have hcg:∀i,i<k->g i≠c:=fun i hi=>bE.fresh (hR i hi) hc;simp -dsimp only[go_sem,↓reduceIte,hbc,hS,bJ]
   repeat refine an ?_
   refine aM (fun O S'=>∃j:Nat,j<=m/\O 0=aZ n m A/\O 5=.int .i64 m/\O 7=.sl 1 b 0 n/\O 8=.int .i64 k/\O 23=.int .i64 n/\O 24=.int .i64 k/\O 36=.int .i64 m/\O 37=.int .i64 j /\
    bE S' b 29 1 n (fun i=>if i<k then .sl 1 (g i) 0 m else if i=k then .sl 1 c 0 m else .nil)/\(∀i,i<k->lG S' (g i) m (A i))/\lG S' c m (fun t=>if t<j then A k t else 0)) (fun O S=>m-ca (O 37)) ?_ ?_
   ·simp -dsimp only[go_sem,aa,reduceCtorEq,e0,e5,e7,e23,e24];refine⟨0,om,rfl,bE.here fun i hi=>?_,fun i hi=>((hR i hi).upd (bE.fresh (hR i hi) hc) _).upd (ao (bE.ne (bE.of hS) (hR i hi) om)) _,(bE.here fun _ _=>by simp).upd (ao hbc) _⟩
    have:=hg' i hi
    grind [bJ]
   ·rintro O S' ⟨j,hj,e0,e5,e7,e8,e23,e24,e36,e37,hO,hR,hC⟩;by_cases hjm:j<m
    ·obtain⟨g1,u1,v1⟩:=hO;obtain⟨g2,u2,v2⟩:=hC;have v1':=v1 k hlt;simp only[Nat.lt_irrefl,if_false,if_true]at v1';simp -dsimp only[go_sem,aa,au,ae,↓reduceIte,reduceCtorEq,af,decide_true,e0,e5,e7,e8,e23,e24,e36,e37,hjm,hlt,aZ,bn];refine(yp (hA k j hlt hjm)).call ?_;simp -dsimp only[go_sem,aa,↓reduceIte,reduceCtorEq,af,e0,e5,e7,e8,e23,e24,e36,e37,hjm,hlt,aZ,bn,u1,v1',u2,a6 (om:j<1000000),ca]
     repeat refine an ?_
     refine⟨⟨j+1,om,rfl,bE.upd ⟨g1,u1,v1⟩ hbc _,fun i hi=>(hR i hi).upd (hcg i hi) _,bE.here fun t ht=>?_⟩,om⟩
     have:=v2 t ht;simp only[bJ]
     grind
    ·simp -dsimp only[go_sem,aa,au,ae,↓reduceIte,reduceCtorEq,af,decide_false,e0,e5,e7,e8,e23,e24,e36,e37,hjm,a6 (om:k<1000000),ca]
     refine⟨⟨k+1,om,rfl,fun i=>if i=k then c else g i,hO.congr fun i hi=>?_,fun i hi=>?_,fun i j hi hj e=>?_⟩,om⟩
     ·grind
     ·by_cases e:i=k
      ·subst e;simp only[if_true];refine hC.congr fun t ht=>?_;have:t<j:=om
       simp[this]
      ·simp only[e,if_false];exact hR i om
     ·by_cases e1:i=k<;>by_cases e2:j=k<;>simp only[e1,e2,if_true,if_false]at e ⊢
      ·exact absurd e.symm (hcg j om)
      ·exact absurd e (hcg i om)
      ·exact hI i j om om e
  ·simp -dsimp only[go_sem,aa,↓reduceIte,af,decide_false,e5,e7,e23,e24,hlt];obtain rfl:k=n:=om
   exact⟨b,rfl,g,hO.congr fun i hi=>by rw[if_pos hi],hR,hI⟩
theorem t3{w:World}{n:Nat}{v:Value}(h:d7 w w.heap.size (.agg #[.bool false,v]) (n:Int)):∃A k c xs,v=.slice A k c/\k<=c/\cc w w.heap.size A k xs/\oR xs/\bv xs=n/\k=nl n:=by
 obtain⟨neg,A,k,c,xs,e,hnc,hU,hT,hv⟩:=h
 cases e
 have h1:bv xs=n:=by simp[sg]at hv;omega
 exact⟨A,k,c,xs,rfl,hnc,hU,hT,h1,by rw[aL hU hT,h1]⟩
theorem zH{w:World}{n:Nat}{A:Option Addr}{k c:Nat}{xs:List Nat}(h1:k<=c)(h2:cc w w.heap.size A k xs)(h3:oR xs)(h4:bv xs=n):d7 w w.heap.size (.agg #[.bool false,.slice A k c]) (n:Int) :=
 ⟨false,A,k,c,xs,rfl,h1,h2,h3,by rw[h4];simp[sg]⟩
theorem DX{n:Nat}(h:nl n<=2147483648):PF 71 [.mag n] (.mag n):=by
 intro w vs hr
 match vs,hr with
 | [va],hr =>
  simp only[bq,bs]at hr;obtain⟨A,k,c,xs,rfl,hnc,hU,hT,hv,hk⟩:=t3 hr.1;refine(fH A k c w.heap.size xs w hnc om (ah _) hU).mono ?_;rintro e w' ⟨A1,k1,c1,zs,rfl,h1,h2,h3,h4,h5⟩;exact⟨_,rfl,by simp only[bs];exact zH h1 h2 h3 (h4.trans hv),cw.below h5⟩
 | [],hr=>simp[bq]at hr
 | _::_::_,hr=>simp[bq]at hr
theorem Fv{a b:Nat}(ha:nl a<=16777216)(hb:nl b<=16777216)(h0:0<b):PF 189 [.mag a,.mag b] (.tup [.mag (a/b),.mag (a%b)]):=by
 intro w vs hr
 match vs,hr with
 | [va,vb],hr =>
  simp only[bq,bs]at hr;obtain⟨A,k,c,xs,rfl,hnc,hU,hT,hv,hk⟩:=t3 hr.1;obtain⟨B,m,d,ys,rfl,hmd,hU2,hT2,hv2,hm⟩:=t3 hr.2.1;refine(Di A B k m c d w.heap.size xs ys w om om (ah _) hU hU2 hT2 om).mono ?_;rintro e w' ⟨A1,k1,c1,zs,D1,m1,d1,us,rfl,h1,h2,h3,h4,h5,h6,h7,h8,h9⟩;exact⟨_,rfl,by simp only[bs];exact⟨[.slice A1 k1 c1,.slice D1 m1 d1],rfl,by simp only[bq,bs];exact⟨zH h1 h3 h5 (by rw[h7,hv,hv2]),zH h2 h4 h6 (by rw[h8,hv,hv2]),trivial⟩⟩,cw.below h9⟩
 | [],hr=>simp[bq]at hr
 | [_],hr=>simp[bq]at hr
 | _::_::_::_,hr=>simp[bq]at hr
theorem zT{p:Bool->Prop}{n:Nat}{z:Int}(h:nl n<=2147483648)(hp:∀s,p s->sg s n=z):PF 103 [.bset p,.mag n] (.big z):=by
 intro w vs hr
 match vs,hr with
 | [va,vb],hr =>
  simp only[bq,bs]at hr;obtain⟨⟨s,rfl,hs⟩,hr,_⟩:=hr;obtain⟨A,k,c,xs,rfl,hnc,hU,hT,hv,hk⟩:=t3 hr;refine(kh s A k c w.heap.size xs w hnc om (ah _) hU).mono ?_;rintro e w' ⟨v,rfl,h1,h2⟩;exact⟨v,rfl,by rw[hv,hp s hs]at h1;simpa [bs]using h1,cw.below h2⟩
 | [],hr=>simp[bq]at hr
 | [_],hr=>simp[bq]at hr
 | _::_::_::_,hr=>simp[bq]at hr
theorem G3{s:Bool}{n:Nat}(h:nl n<=2147483648):PF 103 [.bool s,.mag n] (.big (sg s n)):=by
 intro w vs hr;refine zT (p:=fun t=>t=s) (z:=sg s n) h (fun t ht=>by rw[ht]) w vs ?_
 match vs,hr with
 | [va,vb],hr=>simp only[bq,bs]at hr ⊢;exact⟨⟨s,hr.1,rfl⟩,hr.2⟩
 | [],hr=>simp[bq]at hr
 | [_],hr=>simp[bq]at hr
 | _::_::_::_,hr=>simp[bq]at hr
theorem nF{a b q r:Int}(h:a=b*q+r)(h1:0<=r)(h2:r<b.natAbs):a/b=q/\a%b=r:=by
 rcases Int.lt_or_le 0 b with hb|hb
 ·exact(Int.ediv_emod_unique hb).2 ⟨by rw[Int.add_comm];exact h.symm,h1,om⟩
 ·have h3:=(Int.ediv_emod_unique (a:=a) (b:=-b) (r:=r) (q:=-q) om).2 ⟨by rw[Int.neg_mul_neg,Int.add_comm];exact h.symm,h1,om⟩
  rw[Int.ediv_neg,Int.emod_neg]at h3;exact⟨om,h3.2⟩
theorem Je{s:Bool}{a b:Int}(hs:sg s a.natAbs=a):sg s (a.natAbs%b.natAbs)=a.tmod b:=by
 rcases Int.natAbs_eq b with e|e<;>cases s<;>simp only[sg,if_true,aR,if_false]at hs ⊢
 ·rw[<-hs,e];simp[Int.natAbs_natCast];exact(aU om).symm
 ·rw[<-hs,e];simp[Int.neg_tmod];exact(aU om).symm
 ·rw[<-hs,e];simp[Int.tmod_neg];exact(aU om).symm
 ·rw[<-hs,e];simp[Int.neg_tmod,Int.tmod_neg];exact(aU om).symm
theorem Jf{s t:Bool}{a b:Int}(hs:sg s a.natAbs=a)(ht:sg t b.natAbs=b):sg (s != t) (a.natAbs/b.natAbs)=a.tdiv b:=by
 cases s<;>cases t<;>simp only[sg,if_true,aR,if_false,bne_self_eq_false,Bool.false_bne,Bool.true_bne,Bool.not_false]at hs ht ⊢
 ·rw[<-hs,<-ht];simp
 ·rw[<-hs,<-ht];simp[Int.tdiv_neg]
 ·rw[<-hs,<-ht];simp[Int.neg_tdiv]
 ·rw[<-hs,<-ht];simp[Int.neg_tdiv,Int.tdiv_neg]
theorem qU{a b:Int}(h:b≠0):(a.tmod b).natAbs<b.natAbs:=by
 rw[Int.natAbs_tmod];exact eP _ om
theorem ve{a b:Int}{k:Nat}(ha:nb a k)(hb:nb b k)(hk:k<=536870912)(h0:b≠0):PF 127 [.big a,.big b] (.tup [.big (a/b),.big (a%b),.bool true]):=by
 have la:nl a.natAbs<=16777216:=ha.nl om;have lb:nl b.natAbs<=16777216:=hb.nl om;have b0:0<b.natAbs:=om
 have hnl:((nl b.natAbs:Int)==0)=false:=by
  have h1:nl b.natAbs≠0:=fun h=>by
   have:=iX.1 (om:nl b.natAbs<=0)
   simp at this;omega
  simp;omega
 refine PF.of_spec (aD func127 rfl 61 ntmps127 kr sm (by simp[results127]) ?_)
 rw[aQ,results127];simp -dsimp only[go_sem,ak,aa,reduceCtorEq];refine aH.intro fun b2 f2=>?_
 try simp -dsimp only[go_sem,ak,aa,au,ae,↓reduceIte,reduceCtorEq,af,decide_true,decide_false,az]
 refine aH.intro fun b3 f3=>?_
 try simp -dsimp only[go_sem,ak,aa,au,ae,↓reduceIte,reduceCtorEq,af,decide_true,decide_false,az]
 refine aH.intro fun b4 f4=>?_
 try simp -dsimp only[go_sem]
 refine aH.intro fun b5 f5=>?_
 try simp -dsimp only[go_sem]
 have n32:=(ai f3).1;have n42:=(ai (ai f4).2).1;have n43:=(ai f4).1;have n52:=(ai (ai (ai f5).2).2).1;have n53:=(ai (ai f5).2).1;have n54:=(ai f5).1;refine bM 8 kr ?_
 simp -dsimp only[go_sem,aa,au,ae,↓reduceIte,nn n54,ao n32,ao n42,ao n43,ao n52,ao n53];refine⟨_,(DX om).pure',_,(DX om).pure',?_⟩;simp -dsimp only[go_sem,hnl];refine(Fv la lb b0).call ?_;simp -dsimp only[go_sem,aa,hnl];refine bM 13 kr ?_
 simp -dsimp only[go_sem,aa,au,ae,↓reduceIte,reduceCtorEq,ao n32,ao n42,ao n43,ao n52,ao n53];refine⟨.big (a.tdiv b),(zT (bV (fy (jF a.natAbs b.natAbs)) om) (fun s hs=>by obtain⟨x,h1,y,h2,rfl⟩:=hs;exact Jf h1 h2)).pure',.big (a.tmod b),(zT (bV (fy (Nat.mod_le a.natAbs b.natAbs)) om) (fun s hs=>Je hs)).pure',?_⟩
 refine aH.intro fun b11 f11=>?_
 try simp -dsimp only[go_sem]
 refine aH.intro fun b12 f12=>?_;have p5:=(ai f11).1;have p4:=(ai (ai f11).2).1;have p3:=(ai (ai (ai f11).2).2).1;have p2:=(ai (ai (ai (ai f11).2).2).2).1;have qp:=(ai f12).1;have q5:=(ai (ai f12).2).1;have q4:=(ai (ai (ai f12).2).2).1;have q3:=(ai (ai (ai (ai f12).2).2).2).1;have q2:=(ai (ai (ai (ai (ai f12).2).2).2).2).1;have hq:nb (a.tdiv b) k:=nb.of_le (by rw[Int.natAbs_tdiv];exact jF _ _) ha
 have hr:nb (a.tmod b) k:=nb.of_le (by rw[Int.natAbs_tmod];exact Nat.mod_le _ _) ha
 have e:=Int.mul_tdiv_add_tmod a b;have hlt:=qU (a:=a) h0;simp -dsimp only[go_sem,aa,↓reduceIte,nn qp];refine(il hr om).call ?_;by_cases hneg:a.tmod b<0
 ·have hs1:(a.tmod b).sign<0:=by rw[iw hneg];decide
  simp -dsimp only[go_sem,↓reduceIte,decide_true,bJ,hs1];have hb':nb (b.natAbs:Int) k:=nb.of_le sm hb
  refine bM 4 kr ?_
  simp -dsimp only[go_sem,aa,au,ae,↓reduceIte,ao n43,ao n53,ao p3,ao q3,bJ];refine⟨.big (b.natAbs:Int),(G3 (s:=false) om).pure',.big (a.tmod b+(b.natAbs:Int)),(qZ hr hb' om).pure',?_⟩;simp -dsimp only[go_sem];refine(il hb om).call ?_;by_cases hbn:b<0
  ·have hs2:b.sign<0:=by rw[iw hbn];decide
   simp -dsimp only[go_sem,↓reduceIte,decide_true,hs2];refine eL 4 [[3]] kr ?_
   simp -dsimp only[go_sem,aa,au,ae,↓reduceIte,nn n54,nn q4,nn q5,ao p4,ao p5,ao qp,bJ];refine⟨.big 1,(eK dc dc).pure',.big (a.tdiv b+1),(qZ (k:=k+1) (hq.mono om) (nb.one om) om).pure',?_⟩
   simp -dsimp only[go_sem];have hu:=nF (a:=a) (b:=b) (q:=a.tdiv b+1) (r:=a.tmod b+(b.natAbs:Int)) (by
    rw[Int.mul_add,ij];omega) om om
   rw[hu.1,hu.2];exact VR.tup (by simp[oG])
  ·have hs2:¬b.sign<0:=by rw[cU (om:0<b)];decide
   simp -dsimp only[go_sem,↓reduceIte,decide_false,hs2];refine eL 4 [[3]] kr ?_
   simp -dsimp only[go_sem,aa,au,ae,↓reduceIte,nn n54,nn q4,nn q5,ao p4,ao p5,ao qp,bJ];refine⟨.big 1,(eK dc dc).pure',.big (a.tdiv b-1),(pN (k:=k+1) (hq.mono om) (nb.one om) om).pure',?_⟩
   simp -dsimp only[go_sem];have hu:=nF (a:=a) (b:=b) (q:=a.tdiv b-1) (r:=a.tmod b+(b.natAbs:Int)) (by
    rw[Int.mul_sub,ij];omega) om om
   rw[hu.1,hu.2];exact VR.tup (by simp[oG])
 ·have hs1:¬(a.tmod b).sign<0:=by
   rcases iP (a.tmod b) 0 with h|h|h
   ·exact absurd h hneg
   ·rw[h];decide
   ·rw[cU h];decide
  simp -dsimp only[go_sem,↓reduceIte,decide_false,bJ,hs1];refine eL 2 [[1]] kr ?_
  simp -dsimp only[go_sem,aa,↓reduceIte,nn n54,nn q4,nn q5,ao p4,ao p5,ao qp,bJ];have hu:=nF (a:=a) (b:=b) (q:=a.tdiv b) (r:=a.tmod b) om om om;rw[hu.1,hu.2];exact VR.tup (by simp[oG])
theorem nV{a b:Int}{k:Nat}(ha:nb a k)(hb:nb b k)(hk:k<=536870912)(h0:b≠0):PF 65 [.big a,.big b] (.big (a/b)):=by
 refine PF.of_spec (aD func65 rfl 16 ntmps65 kr sm (by simp[results65]) ?_)
 rw[aQ,results65];simp -dsimp only[go_sem,ak,aa,reduceCtorEq];refine aH.intro fun b2 f2=>?_
 try simp -dsimp only[go_sem,ak,aa,au,ae,↓reduceIte,reduceCtorEq,af,decide_true,decide_false,az]
 refine aH.intro fun b3 f3=>?_;have n3_2:=(ai f3).1
 try simp -dsimp only[go_sem,ak,aa,au,ae,↓reduceIte,reduceCtorEq,af,decide_true,decide_false,az]
 refine aH.intro fun b4 f4=>?_;have n4_3:=(ai f4).1;have n4_2:=(ai (ai f4).2).1;simp -dsimp only[go_sem,aa,au,ae,↓reduceIte,ao n3_2,ao n4_2,ao n4_3];refine(ve ha hb hk h0).call ?_;simp -dsimp only[go_sem,aa,↓reduceIte];refine aH.intro fun b5 f5=>?_;have n5_4:=(ai f5).1;have n5_3:=(ai (ai f5).2).1;have n5_2:=(ai (ai (ai f5).2).2).1
 try simp -dsimp only[go_sem]
 refine aH.intro fun b6 f6=>?_;have n6_5:=(ai f6).1;have n6_4:=(ai (ai f6).2).1;have n6_3:=(ai (ai (ai f6).2).2).1;have n6_2:=(ai (ai (ai (ai f6).2).2).2).1;simp -dsimp only[go_sem,aa,↓reduceIte,nn n6_5,ao n5_4,ao n6_4,bJ];exact VR.mf rfl
theorem Jg{a b:Int}{k:Nat}(ha:nb a k)(hb:nb b k)(hk:k<=536870912)(h0:b≠0):PF 147 [.big a,.big b] (.big (a%b)):=by
 refine PF.of_spec (aD func147 rfl 16 ntmps147 kr sm (by simp[results147]) ?_)
 rw[aQ,results147];simp -dsimp only[go_sem,ak,aa,reduceCtorEq];refine aH.intro fun b2 f2=>?_
 try simp -dsimp only[go_sem,ak,aa,au,ae,↓reduceIte,reduceCtorEq,af,decide_true,decide_false,az]
 refine aH.intro fun b3 f3=>?_;have n3_2:=(ai f3).1
 try simp -dsimp only[go_sem,ak,aa,au,ae,↓reduceIte,reduceCtorEq,af,decide_true,decide_false,az]
 refine aH.intro fun b4 f4=>?_;have n4_3:=(ai f4).1;have n4_2:=(ai (ai f4).2).1;simp -dsimp only[go_sem,aa,au,ae,↓reduceIte,ao n3_2,ao n4_2,ao n4_3];refine(ve ha hb hk h0).call ?_;simp -dsimp only[go_sem,aa,↓reduceIte];refine aH.intro fun b5 f5=>?_;have n5_4:=(ai f5).1;have n5_3:=(ai (ai f5).2).1;have n5_2:=(ai (ai (ai f5).2).2).1
 try simp -dsimp only[go_sem]
 refine aH.intro fun b6 f6=>?_;have n6_5:=(ai f6).1;have n6_4:=(ai (ai f6).2).1;have n6_3:=(ai (ai (ai f6).2).2).1;have n6_2:=(ai (ai (ai (ai f6).2).2).2).1;simp -dsimp only[go_sem,aa,↓reduceIte,nn n6_5,ao n5_4,ao n6_4,bJ];exact VR.mf rfl
theorem dl.get{S:St}{b ty es:Nat}{z:AV}(h:dl S b ty es z):∃g,S b=some ⟨ty,es,1,g⟩/\g 0=z:=h
theorem vJ{a b:Int}(h:b≠0):(a%b).natAbs<b.natAbs:=by
 have h1:=aY a h;have h2:=Int.emod_lt a h;omega
theorem Jd{a:Int}(h:a≠0):(a.sign != 0)=true:=by
 simp only[bne_iff_ne,ne_eq];rw[p9];exact h
theorem Hl{a b:Int}:lz a b=lz b (a%b):=by
 have h1:a%b=a+b*(-(a/b)):=by rw[Int.emod_def];grind
 rw[Int.gcd_comm b,h1,Int.gcd_add_mul_left_left]
theorem Ji{a b:Int}{k:Nat}(ha:nb a k)(hb:nb b k)(hk:k<=536870912):PF 262 [.big a,.big b] (.big (lz a b)):=by
 refine PF.of_spec (aD func262 rfl 19 ntmps262 kr sm (by simp[results262]) ?_)
 rw[aQ,results262];simp -dsimp only[go_sem,ak,aa,reduceCtorEq];refine aH.intro fun b2 f2=>?_
 try simp -dsimp only[go_sem,ak,aa,au,ae,↓reduceIte,reduceCtorEq,af,decide_true,decide_false,az]
 refine aH.intro fun b3 f3=>?_;have n3_2:=(ai f3).1
 try simp -dsimp only[go_sem,ak,aa,au,ae,↓reduceIte,reduceCtorEq,af,decide_true,decide_false,az]
 refine aH.intro fun b4 f4=>?_;have n4_3:=(ai f4).1;have n4_2:=(ai (ai f4).2).1;simp -dsimp only[go_sem];refine bM 6 kr ?_
 simp -dsimp only[go_sem,aa,au,ae,↓reduceIte,ao n3_2,ao n4_2,ao n4_3];refine⟨_,(zK ha om).pure',_,(zK hb om).pure',?_⟩;refine aH.intro fun b5 f5=>?_;have n5_4:=(ai f5).1;have n5_3:=(ai (ai f5).2).1;have n5_2:=(ai (ai (ai f5).2).2).1
 try simp -dsimp only[go_sem]
 refine aH.intro fun b6 f6=>?_;have n6_5:=(ai f6).1;have n6_4:=(ai (ai f6).2).1;have n6_3:=(ai (ai (ai f6).2).2).1;have n6_2:=(ai (ai (ai (ai f6).2).2).2).1;simp -dsimp only[go_sem,aa,↓reduceIte,nn n6_5];refine aM (fun O S=>∃x y:Int,nb x k/\nb y k/\0<=x/\0<=y/\lz x y=lz a b/\O 4=.ptr 2 b4 0/\O 5=.ptr 2 b5 0/\O 6=.ptr 2 b6 0/\dl S b4 50 2 (.big 0)/\dl S b5 50 2 (.big x)/\dl S b6 50 2 (.big y)) (fun O S=>match S b6 with|some X=>(match X.g 0 with|.big y=>y.natAbs|_=>0)|ac=>0) ?_ ?_
 ·simp -dsimp only[go_sem,aa,↓reduceIte];exact⟨a.natAbs,nb.of_le sm ha,b.natAbs,nb.of_le sm hb,om,om,by simp[lz],((((dl.new rfl).upd (ao n5_4) _).upd (ao n6_4) _).upd (ao n5_4) _).upd (ao n6_4) _,dl.set.upd (ao n6_5) _,dl.set⟩
 ·rintro O S ⟨x,y,hx,hy,h0,h1,hg,e4,e5,e6,V4,V5,V6⟩;obtain⟨g4,s4,v4⟩:=V4;obtain⟨g5,s5,v5⟩:=V5;obtain⟨g6,s6,v6⟩:=V6;by_cases hy0:y=0
  ·simp -dsimp only[go_sem,aa,au,ae,↓reduceIte,e6,s6,v6];refine(il hy om).call ?_;simp -dsimp only[go_sem,aa,↓reduceIte,e4,e5,s4,s5,v5,v6,hy0,nh,bJ];have hx':((lz a b:Nat):Int)=x:=by rw[<-hg,hy0,Int.gcd_zero];omega
   rw[hx'];exact VR.mf rfl
  ·simp -dsimp only[go_sem,aa,au,ae,↓reduceIte,e6,s6,v6];refine(il hy om).call ?_;simp -dsimp only[go_sem,aa,↓reduceIte,e4,e5,s4,s5,v5,v6,Jd hy0,bJ];refine bM 4 kr ?_
   simp -dsimp only[go_sem,aa,au,ae,↓reduceIte,e4,e5,e6,s5,s6,v5,v6,n6_5,bJ];refine⟨_,(Jg hx hy hk hy0).pure',?_⟩;simp -dsimp only[go_sem];have hlt:=vJ (a:=x) hy0;have hem:=aY x hy0;exact⟨⟨y,hy,x%y,nb.of_le om hy,h1,hem,by rw[<-Hl];exact hg,(dl.upd ⟨g4,s4,v4⟩ (ao n5_4) _).upd (ao n6_4) _,dl.set.upd (ao n6_5) _,dl.set⟩,hlt⟩
def cG(e es:Nat)(S0 S:St)(x:AV)(j:Nat)(g:Nat->AV):Prop:=eJ S0 S/\((j=0/\x=.nil)∨∃c,S0 c=ac/\x=.sl es c 0 j/\bE S c e es j g)
def dB(x:AV)(d:Nat):Prop:=∃es off len,x=.sl es d off len
theorem cG.nil{e es:Nat}{S0 S:St}(h:eJ S0 S)(g:Nat->AV):cG e es S0 S .nil 0 g:=⟨h,bQ ⟨rfl,rfl⟩⟩
theorem cG.congr{e es:Nat}{S0 S:St}{x:AV}{j:Nat}{g g':Nat->AV}(h:cG e es S0 S x j g)(he:∀i,i<j->g i=g' i):cG e es S0 S x j g':=by
 refine⟨h.1,h.2.imp id ?_⟩;rintro⟨c,h1,h2,h3⟩;exact⟨c,h1,h2,h3.congr he⟩
theorem cG.step{e es:Nat}{S0 S S':St}{x:AV}{j:Nat}{g:Nat->AV}(h:cG e es S0 S x j g)(he:eJ S0 S')(hs:∀d,dB x d->S' d=S d):cG e es S0 S' x j g:=by
 refine⟨he,h.2.imp id ?_⟩;rintro⟨c,h1,h2,g',h3,h4⟩;exact⟨c,h1,h2,g',by rw[hs c ⟨_,_,_,h2⟩];exact h3,h4⟩
theorem cG.upd{e es:Nat}{S0 S:St}{x:AV}{j:Nat}{g:Nat->AV}(h:cG e es S0 S x j g){b:Nat}(hb:S0 b=ac)(hn:∀d,dB x d->d≠b)(X:dH):cG e es S0 (S.upd b X) x j g :=
 h.step (h.1.upd hb X) (fun d hd=>aP (hn d hd))
theorem cG.fresh{e es:Nat}{S0 S:St}{x:AV}{j:Nat}{g:Nat->AV}(h:cG e es S0 S x j g){b:Nat}(hb:S b=ac):∀d,dB x d->d≠b:=by
 rintro d ⟨es',off,len,hd⟩ rfl;rcases h.2 with⟨_,h1⟩|⟨c,_,h1,h2⟩
 ·rw[h1]at hd;cases hd
 ·rw[h1]at hd;cases hd;exact bE.fresh h2 hb rfl
theorem cG.app{t e es:Nat}{S0 S:St}{x y v:AV}{j:Nat}{g:Nat->AV}{K:AV->St->Prop}(he:c9 t=some e)(hz:(fD e).isSome=true)(hes:es=bP e)(h:cG e es S0 S x j g)(hj:j<1000000)(hv:dI es v)
  (hy:(∃h,y=.lst es 1 h/\h 0=v)∨∃b gb ty,y=.sl es b 0 1/\S b=some ⟨ty,es,1,gb⟩/\gb 0=v/\¬dB x b)
  (hK:∀c S',cG e es S0 S' (.sl es c 0 (j+1)) (j+1) (fun i=>if i=j then v else g i)->(∀d X,S d=some X->¬dB x d->S' d=some X)->(dB x c∨S c=ac)->K (.sl es c 0 (j+1)) S'):eV t t x y S K:=by
 unfold eV;rw[he];refine⟨rfl,hz,?_⟩;have hels:∃hh o,wZ S y=some (es,1,hh,o)/\hh 0=v/\(∀d,dB x d->o≠some d):=by
  rcases hy with⟨h,rfl,h0⟩|⟨b,gb,ty,rfl,h1,h2,h3⟩
  ·exact⟨_,_,rfl,h0,fun d _=>by simp⟩
  ·refine⟨fun j=>gb (0+j),some b,by simp[wZ,h1],h2,fun d hd e=>?_⟩
   cases e;exact h3 hd
 obtain⟨hh,o,h1,h2,h3⟩:=hels;rw[h1];refine⟨hes,om,fun i hi=>by rw[(om:i=0),h2];exact hv,?_⟩
 rcases h.2 with⟨rfl,rfl⟩|⟨c,hc0,rfl,g',hg1,hg2⟩
 ·refine⟨om,fun b hb=>hK _ _ ⟨h.1.upd (h.1.none hb) _,bH ⟨b,h.1.none hb,rfl,bE.here fun i hi=>?_⟩⟩ (fun d X hd _=>?_) (bH hb)⟩
  ·obtain rfl:i=0:=om
   simp[h2]
  ·rw[aP];exact hd;rintro rfl;rw[hb]at hd;cases hd
 ·simp only[hg1];refine⟨trivial,trivial,trivial,trivial,trivial,om,h3 c ⟨_,_,_,rfl⟩,fun b' hb'=>hK _ _ ⟨?_,bH ⟨b',?_,rfl,bE.here fun i hi=>?_⟩⟩ (fun d X hd hnb=>?_) ?_⟩
  ·intro k X hX;have hkc:k≠c:=by rintro rfl;rw[hc0]at hX;cases hX
   have hkb:k≠b':=by
    rintro rfl;rcases hb' with rfl|hb'
    ·exact hkc rfl
    ·rw[h.1 k X hX]at hb';cases hb'
   rw[aP hkb];simp only[St.del];rw[if_neg hkc];exact h.1 k X hX
  ·rcases hb' with rfl|hb'
   ·exact hc0
   ·exact h.1.none hb'
  ·by_cases e:i=j
   ·subst e;rw[ua (ah _) om,bW,h2,if_pos rfl]
   ·rw[Ai om,if_neg e];exact hg2 i om
  ·have hdc:d≠c:=fun e=>hnb (by rw[e];exact⟨_,_,_,rfl⟩)
   have hdb:d≠b':=by
    rintro rfl;rcases hb' with rfl|hb'
    ·exact hdc rfl
    ·rw[hd]at hb';cases hb'
   rw[aP hdb];simp only[St.del];rw[if_neg hdc];exact hd
  ·rcases hb' with rfl|hb'
   ·exact bQ ⟨_,_,_,rfl⟩
   ·exact bH hb'
theorem cG.app50{S0 S:St}{x y v:AV}{j:Nat}{g:Nat->AV}{K:AV->St->Prop}(h:cG 50 2 S0 S x j g)(hj:j<1000000)(hv:dI 2 v)(hy:(∃h,y=.lst 2 1 h/\h 0=v)∨∃b gb ty,y=.sl 2 b 0 1/\S b=some ⟨ty,2,1,gb⟩/\gb 0=v/\¬dB x b)
  (hK:∀c S',cG 50 2 S0 S' (.sl 2 c 0 (j+1)) (j+1) (fun i=>if i=j then v else g i)->(∀d X,S d=some X->¬dB x d->S' d=some X)->(dB x c∨S c=ac)->K (.sl 2 c 0 (j+1)) S'):eV 59 59 x y S K:=cG.app rfl rfl rfl h hj hv hy hK
theorem cG.app2{S0 S:St}{x y v:AV}{j:Nat}{g:Nat->AV}{K:AV->St->Prop}(h:cG 2 1 S0 S x j g)(hj:j<1000000)(hv:dI 1 v)(hy:(∃h,y=.lst 1 1 h/\h 0=v)∨∃b gb ty,y=.sl 1 b 0 1/\S b=some ⟨ty,1,1,gb⟩/\gb 0=v/\¬dB x b)
  (hK:∀c S',cG 2 1 S0 S' (.sl 1 c 0 (j+1)) (j+1) (fun i=>if i=j then v else g i)->(∀d X,S d=some X->¬dB x d->S' d=some X)->(dB x c∨S c=ac)->K (.sl 1 c 0 (j+1)) S'):eV 29 29 x y S K:=cG.app rfl rfl rfl h hj hv hy hK
theorem cG.app3{S0 S:St}{x y v:AV}{j:Nat}{g:Nat->AV}{K:AV->St->Prop}(h:cG 3 1 S0 S x j g)(hj:j<1000000)(hv:dI 1 v)(hy:(∃h,y=.lst 1 1 h/\h 0=v)∨∃b gb ty,y=.sl 1 b 0 1/\S b=some ⟨ty,1,1,gb⟩/\gb 0=v/\¬dB x b)
  (hK:∀c S',cG 3 1 S0 S' (.sl 1 c 0 (j+1)) (j+1) (fun i=>if i=j then v else g i)->(∀d X,S d=some X->¬dB x d->S' d=some X)->(dB x c∨S c=ac)->K (.sl 1 c 0 (j+1)) S'):eV 146 146 x y S K:=cG.app rfl rfl rfl h hj hv hy hK
theorem cG.app59{S0 S:St}{x y v:AV}{j:Nat}{g:Nat->AV}{K:AV->St->Prop}(h:cG 59 1 S0 S x j g)(hj:j<1000000)(hv:dI 1 v)(hy:(∃h,y=.lst 1 1 h/\h 0=v)∨∃b gb ty,y=.sl 1 b 0 1/\S b=some ⟨ty,1,1,gb⟩/\gb 0=v/\¬dB x b)
  (hK:∀c S',cG 59 1 S0 S' (.sl 1 c 0 (j+1)) (j+1) (fun i=>if i=j then v else g i)->(∀d X,S d=some X->¬dB x d->S' d=some X)->(dB x c∨S c=ac)->K (.sl 1 c 0 (j+1)) S'):eV 52 52 x y S K:=cG.app rfl rfl rfl h hj hv hy hK
theorem cG.app29{S0 S:St}{x y v:AV}{j:Nat}{g:Nat->AV}{K:AV->St->Prop}(h:cG 29 1 S0 S x j g)(hj:j<1000000)(hv:dI 1 v)(hy:(∃h,y=.lst 1 1 h/\h 0=v)∨∃b gb ty,y=.sl 1 b 0 1/\S b=some ⟨ty,1,1,gb⟩/\gb 0=v/\¬dB x b)
  (hK:∀c S',cG 29 1 S0 S' (.sl 1 c 0 (j+1)) (j+1) (fun i=>if i=j then v else g i)->(∀d X,S d=some X->¬dB x d->S' d=some X)->(dB x c∨S c=ac)->K (.sl 1 c 0 (j+1)) S'):eV 28 28 x y S K:=cG.app rfl rfl rfl h hj hv hy hK
theorem cG.other{e es:Nat}{S0 S:St}{x:AV}{j:Nat}{g:Nat->AV}(h:cG e es S0 S x j g){b ty es' n:Nat}{g':Nat->AV}(hb:S b=some ⟨ty,es',n,g'⟩)(ht:ty≠e):¬dB x b:=by
 rintro⟨_,_,_,he⟩;rcases h.2 with⟨_,h1⟩|⟨c,_,h1,h2⟩
 ·rw[h1]at he;cases he
 ·rw[h1]at he;cases he;exact bE.ne h2 (bE.of hb) (ao ht) rfl
theorem bE.via{S S':St}{b ty es n:Nat}{g:Nat->AV}(h:bE S b ty es n g)(hk:∀X,S b=some X->S' b=some X):bE S' b ty es n g:=by
 obtain⟨g',h1,h2⟩:=h;exact⟨g',hk _ h1,h2⟩
theorem ez{es b off len d:Nat}:dB (.sl es b off len) d↔d=b:=⟨fun⟨_,_,_,e⟩=>by cases e;rfl,fun e=>by rw[e];exact⟨_,_,_,rfl⟩⟩
theorem AF(n m:Nat)(A:Nat->Nat->Int)(k:Nat)(h2:n<=1000)(h3:1<=m)(h4:m<=1000)(hA:∀i j,i<n->j<m->nb (A i j) k)(hk:k<=8589934592):MF 63 [aZ n m A] n m A:=by
 refine MF.of ?_;refine aD func63 rfl 38 ntmps63 kr sm (by simp[results63]) ?_
 rw[aQ,results63];simp -dsimp only[go_sem,reduceCtorEq,aZ,bn]
 repeat refine an ?_
 refine aH.intro fun b3 f3=>?_;simp -dsimp only[go_sem];refine aM (fun O S=>∃(i:Nat) (g:Nat->Nat),i<=n/\O 0=aZ n m A/\O 3=.sl 1 b3 0 n/\O 11=.int .i64 n/\O 12=.int .i64 i /\
  bE S b3 59 1 n (fun a=>if a<i then .sl 2 (g a) 0 m else .nil)/\(∀a,a<i->gJ S (g a) m (A a))/\∀a c,a<i->c<i->g a=g c->a=c) (fun O S=>n-ca (O 12)) ?_ ?_
 ·simp -dsimp only[go_sem,aa,reduceCtorEq,aZ,bn];exact⟨0,om,rfl,fun _=>0,bE.here fun _ _=>by simp,fun a ha=>om,fun a c ha=>om⟩
 ·rintro O S ⟨i,g,hi,e0,e3,e11,e12,hO,hR,hI⟩;by_cases hlt:i<n
  ·simp -dsimp only[go_sem,aa,↓reduceIte,reduceCtorEq,af,decide_true,aZ,bn,e0,e3,e11,e12,hlt];refine aM (fun O S'=>∃(j:Nat) (x:AV),j<=m/\O 0=aZ n m A/\O 3=.sl 1 b3 0 n/\O 4=.int .i64 i/\O 11=.int .i64 n/\O 12=.int .i64 i/\O 18=bn m (A i)/\O 19=.int .i64 m/\O 20=.int .i64 j /\
    bE S' b3 59 1 n (fun a=>if a<i then .sl 2 (g a) 0 m else if a=i then x else .nil)/\(∀a,a<i->gJ S' (g a) m (A a)/\¬dB x (g a))/\cG 50 2 St.none S' x j (fun c=>.big (A i c))) (fun O S=>m-ca (O 20)) ?_ ?_
   ·simp -dsimp only[go_sem,aa,reduceCtorEq,aZ,bn,e0,e3,e11,e12];exact⟨0,om,rfl,.nil,hO.congr fun a _=>by grind,fun a ha=>⟨hR a ha,by rintro⟨_,_,_,e⟩;cases e⟩,cG.nil (fun k X h=>by cases h) _⟩
   ·rintro O S' ⟨j,x,hj,e0,e3,e4,e11,e12,e18,e19,e20,hO,hR,hX⟩;by_cases hjm:j<m
    ·simp -dsimp only[go_sem,aa,↓reduceIte,reduceCtorEq,af,decide_true,aZ,bn,e0,e3,e11,e12,e18,e19,e20,hjm];refine aH.intro fun b6 f6=>?_;obtain⟨g1,u1,v1⟩:=hO;have v1':g1 i=x:=by rw[v1 i hlt];simp
     have h36:b3≠b6:=bE.fresh (bE.of u1) f6;simp -dsimp only[go_sem,aa,↓reduceIte];refine io 9 kr ?_
     simp -dsimp only[go_sem,aa,au,ae,↓reduceIte,af,e3,e4,hlt,h36,u1,v1',bJ]
     repeat refine an ?_
     refine⟨_,(Bs (hA i j hlt hjm) hk).pure',?_⟩;simp -dsimp only[go_sem];have hxb:∀d,dB x d->d≠b6:=hX.fresh f6;have hx3:=hX.other u1 om;refine cG.app50 ((hX.upd (by rfl) hxb _).upd (by rfl) hxb _) om (show dI 2 (.big (A i j))from trivial) (bQ ⟨_,rfl,rfl⟩) ?_
     intro c S2 hX' hk1 hk3;have u1':=hk1 b3 _ (by rw[aP h36,aP h36];exact u1) hx3
     simp -dsimp only[go_sem,aa,↓reduceIte,reduceCtorEq,af,aZ,bn,e0,e3,e4,e11,e12,e18,e19,e20,hlt,u1',a6 (om:j<1000000),ca]
     repeat refine an ?_
     refine⟨⟨j+1,om,rfl,.sl 2 c 0 (j+1),bE.here fun a ha=>?_,fun a ha=>?_,?_⟩,om⟩
     ·have:=v1 a ha;grind [bJ]
     ·obtain⟨r1,r2⟩:=hR a ha;have hg6:g a≠b6:=bE.fresh r1 f6;have hg3:g a≠b3:=bE.ne r1 (bE.of u1) om;refine⟨(r1.via fun X hX=>hk1 _ _ (by rw[aP hg6,aP hg6];exact hX) r2).upd hg3 _,fun hb=>?_⟩
      rw[ez]at hb;rw[<-hb]at hk3;rcases hk3 with h|h
      ·exact r2 h
      ·rw[aP hg6,aP hg6]at h;exact bE.fresh r1 h rfl
     ·refine(hX'.upd (by rfl) (fun d hd e=>?_) _).congr (fun a ha=>by grind)
      rw[e]at hd;exact hX'.other u1' om hd
    ·simp -dsimp only[go_sem,aa,↓reduceIte,reduceCtorEq,af,decide_false,aZ,bn,e0,e3,e11,e12,e18,e19,e20,hjm,a6 (om:i<1000000),ca]
     obtain rfl:j=m:=om
     rcases hX.2 with⟨h0,_⟩|⟨c,_,rfl,hC⟩
     ·omega
     refine⟨⟨i+1,om,rfl,fun a=>if a=i then c else g a,hO.congr fun a ha=>by grind,fun a ha=>?_,fun a d ha hd e=>?_⟩,om⟩
     ·by_cases e:a=i
      ·subst e;simp only[if_true];exact hC
      ·simp only[e,if_false];exact(hR a om).1
     ·have k1:=fun a ha=>(hR a ha).2;simp only[ez]at k1
      grind
  ·simp -dsimp only[go_sem,aa,↓reduceIte,reduceCtorEq,af,decide_false,aZ,bn,e0,e3,e11,e12,hlt];obtain rfl:i=n:=om
   exact⟨b3,rfl,g,hO.congr fun a ha=>by simp[ha],hR,hI⟩
theorem eJ.noneS(S:St):eJ St.none S:=fun k X h=>by cases h
theorem yR(n m p q:Nat)(A:Nat->Nat->Int)(ρ γ:Nat->Nat)(h1:1<=p)(h2:p<=1000)(h3:1<=q)(h4:q<=1000)(hρ:∀i,i<p->ρ i<n)(hγ:∀i,i<q->γ i<m):MF 143 [aZ n m A,bO p (fun i=>ρ i),bO q (fun i=>γ i)] p q (fun i j=>A (ρ i) (γ j)):=by
 refine MF.of ?_;refine aD func143 rfl 42 ntmps143 kr sm (by simp[results143]) ?_
 rw[aQ,results143];simp -dsimp only[go_sem,ak,aa,reduceCtorEq,aZ,bn,bO];refine aM (fun O S=>∃(i:Nat) (x:AV) (g:Nat->Nat),i<=p/\O 0=aZ n m A/\O 2=bO q (fun i=>γ i)/\O 7=x/\O 13=bO p (fun i=>ρ i)/\O 14=.int .i64 p/\O 15=.int .i64 i /\
  cG 59 1 St.none S x i (fun a=>.sl 2 (g a) 0 q)/\(∀a,a<i->gJ S (g a) q (fun j=>A (ρ a) (γ j)))/\∀a c,a<i->c<i->g a=g c->a=c) (fun O S=>p-ca (O 15)) ?_ ?_
 ·simp -dsimp only[go_sem,aa,reduceCtorEq,aZ,bn,bO];exact⟨0,om,rfl,fun _=>0,cG.nil (eJ.noneS _) _,fun a ha=>om,fun a c ha=>om⟩
 ·rintro O S ⟨i,x,g,hi,e0,e2,e7,e13,e14,e15,hX,hR,hI⟩;by_cases hlt:i<p
  ·have hρi:=hρ i hlt;simp -dsimp only[go_sem,aa,↓reduceIte,af,decide_true,aZ,bn,bO,e2,e7,e13,e14,e15,hlt];refine aM (fun O S'=>∃(j:Nat) (y:AV),j<=q/\O 0=aZ n m A/\O 2=bO q (fun i=>γ i)/\O 7=x/\O 9=.int .i64 (ρ i)/\O 10=y/\O 13=bO p (fun i=>ρ i)/\O 14=.int .i64 p/\O 15=.int .i64 i/\O 19=bO q (fun i=>γ i)/\O 20=.int .i64 q/\O 21=.int .i64 j /\
    cG 59 1 St.none S' x i (fun a=>.sl 2 (g a) 0 q)/\(∀a,a<i->gJ S' (g a) q (fun j=>A (ρ a) (γ j))/\¬dB y (g a))/\cG 50 2 St.none S' y j (fun c=>.big (A (ρ i) (γ c)))/\∀d,dB x d->¬dB y d) (fun O S=>q-ca (O 21)) ?_ ?_
   ·simp -dsimp only[go_sem,aa,reduceCtorEq,aZ,bn,bO,e0,e2,e7,e13,e14,e15];exact⟨0,om,rfl,hX,fun a ha=>⟨hR a ha,by rintro⟨_,_,_,e⟩;cases e⟩,cG.nil (eJ.noneS _) _,fun d _=>by rintro⟨_,_,_,e⟩;cases e⟩
   ·rintro O S' ⟨j,y,hj,e0,e2,e7,e9,e10,e13,e14,e15,e19,e20,e21,hX,hR,hY,hXY⟩;by_cases hjm:j<q
    ·have hγj:=hγ j hjm;simp -dsimp only[go_sem,aa,↓reduceIte,reduceCtorEq,af,decide_true,aZ,bn,bO,e0,e7,e9,e10,e19,e20,e21,hjm,hρi,hγj];refine aH.intro fun b33 f33=>?_;simp -dsimp only[go_sem,aa,↓reduceIte,reduceCtorEq,aZ,bn,e0,e9,e10];have hyb:=hY.fresh f33;have hxb:=hX.fresh f33;refine cG.app50 (hY.upd (by rfl) hyb _) om (show dI 2 (.big (A (ρ i) (γ j)))from trivial) (bH ⟨_,_,_,rfl,bZ,rfl,fun h=>hyb _ h rfl⟩) ?_
     intro c S2 hY' hk1 hk3;simp -dsimp only[go_sem,aa,reduceCtorEq,aZ,bn,bO,e0,e2,e7,e9,e10,e13,e14,e15,e19,e20,e21,a6 (om:j<1000000),ca]
     have kx:∀d,dB x d->d≠b33/\¬dB y d:=fun d hd=>⟨hxb d hd,hXY d hd⟩;refine⟨⟨j+1,om,rfl,?_,fun a ha=>?_,hY'.congr fun a ha=>by grind,fun d hd he=>?_⟩,om⟩
     ·refine hX.step (eJ.noneS _) (fun d hd=>?_)
      cases hS:S' d with
      | none =>
       exfalso;obtain⟨_,_,_,e⟩:=hd;rcases hX.2 with⟨_,h1⟩|⟨c,_,h1,g',h2,_⟩
       ·rw[h1]at e;cases e
       ·rw[h1]at e;cases e;rw[hS]at h2;cases h2
      | some X=>exact hk1 d X (by rw[aP (kx d hd).1];exact hS) (kx d hd).2
     ·obtain⟨r1,r2⟩:=hR a ha;have hg6:g a≠b33:=bE.fresh r1 f33;refine⟨r1.via fun X hX=>hk1 _ _ (by rw[aP hg6];exact hX) r2,fun hb=>?_⟩
      rw[ez]at hb;rw[<-hb]at hk3;rcases hk3 with h|h
      ·exact r2 h
      ·rw[aP hg6]at h;exact bE.fresh r1 h rfl
     ·rw[ez]at he;subst he;rcases hk3 with h|h
      ·exact hXY d hd h
      ·rw[aP (hxb d hd)]at h;obtain⟨_,_,_,e⟩:=hd;rcases hX.2 with⟨_,h1⟩|⟨c,_,h1,g',h2,_⟩
       ·rw[h1]at e;cases e
       ·rw[h1]at e;cases e;rw[h]at h2;cases h2
    ·obtain rfl:j=q:=om
     rcases hY.2 with⟨h0,_⟩|⟨c,_,rfl,hC⟩
     ·omega
     simp -dsimp only[go_sem,aa,↓reduceIte,reduceCtorEq,af,decide_false,aZ,bn,bO,e0,e7,e9,e10,e19,e20,e21,hjm];refine aH.intro fun b38 f38=>?_;simp -dsimp only[go_sem,aa,↓reduceIte,e7,e10];have hxb:=hX.fresh f38;refine cG.app59 (hX.upd (by rfl) hxb _) om (show dI 1 (.sl 2 c 0 j)from trivial) (bH ⟨_,_,_,rfl,bZ,rfl,fun h=>hxb _ h rfl⟩) ?_
     intro d S2 hX' hk1 hk3;have hc38:c≠b38:=bE.fresh hC f38;have hxc:¬dB x c:=fun h=>hXY c h (ez.2 rfl);simp -dsimp only[go_sem,aa,reduceCtorEq,aZ,bn,bO,e0,e2,e7,e10,e13,e14,e15,a6 (om:i<1000000),ca]
     refine⟨⟨i+1,om,rfl,fun a=>if a=i then c else g a,hX'.congr fun a ha=>by grind,fun a ha=>?_,fun a d ha hd e=>?_⟩,om⟩
     ·by_cases e:a=i
      ·subst e;simp only[if_true];exact hC.via fun X hX=>hk1 _ _ (by rw[aP hc38];exact hX) hxc
      ·simp only[e,if_false];have r1:=(hR a om).1;have hga:g a≠b38:=bE.fresh r1 f38;obtain⟨gg,hgg,_⟩:=r1;exact(hR a om).1.via fun X hXX=>hk1 _ _ (by rw[aP hga];exact hXX) (hX.other hgg om)
     ·have k1:=fun a ha=>(hR a ha).2;simp only[ez]at k1
      grind
  ·simp -dsimp only[go_sem,aa,↓reduceIte,af,decide_false,aZ,bn,bO,e2,e7,e13,e14,e15,hlt];obtain rfl:i=p:=om
   rcases hX.2 with⟨h0,_⟩|⟨c,_,rfl,hC⟩
   ·omega
   exact⟨c,rfl,g,hC,hR,hI⟩
theorem qE{k:Nat}:∀(m:Nat) (M:aW),m<=16->(∀a b,a<m->b<m->nb (M a b) k)->nb (det m M) (m*(k+10)+1)
 | 0,M,_,_=>by simp only[det];exact nb.one om
 | m+1,M,hm,h=>by
  simp only[det];have h1:∀j,j<m+1->nb (tq j*M 0 j*det m (jn M j)) (k+(m*(k+10)+1)):=by
   intro j hj;have h2:=qE m (jn M j) om (fun a b ha hb=>h _ _ om (qW hb));have h3:=(h 0 j om hj).mul h2;unfold nb at h3 ⊢;have:(tq j*M 0 j*det m (jn M j)).natAbs=(M 0 j*det m (jn M j)).natAbs:=by
    unfold tq;split
    ·rw[Int.one_mul]
    ·rw[fK];simp
   rw[this];exact h3
  have h4:=vF h1 om (m+1) (ah _);refine h4.mono ?_;rw[ia];omega
theorem kZ{S:St}{b:Nat}{X Y:dH}:(S.upd b X).upd b Y=S.upd b Y:=by
 funext k;simp only[St.upd];split<;>rfl
theorem cZ.upd{S:St}{b:Nat}{g:Nat->Nat}{n m:Nat}{A:Nat->Nat->Int}(h:cZ S b g n m A){c:Nat}(hb:b≠c)(hg:∀i,i<n->g i≠c)(X:dH):cZ (S.upd c X) b g n m A :=
 ⟨h.outer.upd hb X,fun i hi=>(h.row i hi).upd (hg i hi) X,h.inj⟩
theorem cZ.swap{S:St}{b:Nat}{g:Nat->Nat}{n m:Nat}{A:Nat->Nat->Int}(h:cZ S b g n m A){p k:Nat}(hp:p<n)(hk:k<n)(hpk:p≠k){g1:Nat->AV}(hS:S b=some ⟨59,1,n,g1⟩) :
  cZ (S.upd b ⟨59,1,n,bJ (bJ g1 p (.sl 2 (g k) 0 m)) k (.sl 2 (g p) 0 m)⟩) b (fun i=>g (dU k p i)) n m (fun i j=>A (dU k p i) j):=by
 obtain⟨g',h1,h2⟩:=h.outer;rw[hS]at h1;cases h1;have hs:∀i,i<n->dU k p i<n:=fun i hi=>by unfold dU;split<;>(try split)<;>omega
 refine⟨bE.here fun i hi=>?_,fun i hi=>(h.row _ (hs i hi)).upd (fun e=>?_) _,fun i j hi hj e=>?_⟩
 ·have:=h2 i hi;simp only[bJ,dU];by_cases e1:i=k
  ·subst e1;simp
  ·by_cases e2:i=p
   ·subst e2;simp[e1]
   ·simp[e1,e2,this]
 ·exact bE.ne (bE.of hS) (h.row _ (hs i hi)) om e.symm
 ·have h3:=h.inj _ _ (hs i hi) (hs j hj) e;unfold dU at h3
  grind
theorem iI{n k0:Nat}{A:aW}{σ:Nat->Nat}{neg:Bool}{k:Nat}(hn:n<=16)(hA:∀i j,i<n->j<n->nb (A i j) k0)(hE:mZ A n σ neg k){i j:Nat}(hi:k+i<n)(hj:k+j<n):nb (cP (fun a b=>A (σ a) b) k i j) (17*(k0+10)):=by
 refine(qE (k+1) _ om (fun a b ha hb=>hA _ _ (hE.row _ ?_) ?_)).mono ?_
 ·rw[pX];split<;>omega
 ·rw[pX];split<;>omega
 ·have:(k+1)*(k0+10)<=16*(k0+10):=bY _ om;omega
def xP(A:aW)(n b b2 b5:Nat)(S:St)(k:Nat)(neg:Bool)(Q:(Nat->Nat)->(Nat->Nat->Int)->Prop):Prop:=∃(g σ:Nat->Nat) (B:Nat->Nat->Int),mZ A n σ neg k/\cZ S b g n n B/\(∀i,i<n->g i≠b2/\g i≠b5)/\dl S b2 50 2 (.big 0)/\dl S b5 50 2 (.big (det k (fun a c=>A (σ a) c)))/\Q σ B
def Im(A:aW)(n k:Nat)(σ:Nat->Nat)(B:Nat->Nat->Int):Prop:=∀i j,k<=i->i<n->k<=j->j<n->B i j=cP (fun a c=>A (σ a) c) k (i-k) (j-k)
def StgP(A:aW)(n k p:Nat)(σ:Nat->Nat)(B:Nat->Nat->Int):Prop:=Im A n k σ B/\∀i,k<=i->i<p->B i k=0
def DC(A:aW)(n k i j:Nat)(σ:Nat->Nat)(B:Nat->Nat->Int):Prop:=cP (fun a c=>A (σ a) c) k 0 0≠0/\∀a c,k<=a->a<n->k<=c->c<n->B a c=if k<a/\k<c/\(a<i∨(a=i/\c<j))then cP (fun a c=>A (σ a) c) (k+1) (a-(k+1)) (c-(k+1))else cP (fun a c=>A (σ a) c) k (a-k) (c-k)
theorem gL(n:Nat)(A:aW)(k0:Nat)(h1:1<=n)(h2:n<=16)(hA:∀i j,i<n->j<n->nb (A i j) k0)(hk:k0<=10000000):PF 26 [aZ n n A] (.big (det n A)):=by
 refine PF.of_spec (aD func26 rfl 125 ntmps26 kr sm (by simp[results26]) ?_)
 rw[aQ,results26];simp -dsimp only[go_sem];refine aH.intro fun b2 f2=>?_;simp -dsimp only[go_sem,aa,au,ae,reduceCtorEq];refine(AF n n A k0 om h1 om hA om _ _ (cH _ _)).mono ?_;rintro r S1 ⟨b,g0,rfl,hM0⟩;simp -dsimp only[go_sem,aa,au,ae,reduceCtorEq];refine(eK dc dc).call ?_
 simp -dsimp only[go_sem];refine aH.intro fun b5 f5=>?_;simp -dsimp only[go_sem,aa,↓reduceIte];have hb2:b2≠b:=fun e=>by have:=hM0.2.2.1;rw[<-e,bZ]at this;cases this
 have hg2:∀i,i<n->g0 i≠b2:=fun i hi e=>by have:=hM0.2.2.2 i hi;rw[e,bZ]at this;cases this
 have h25:b2≠b5:=fun e=>by have:=hM0.2.1 b2 _ bZ;rw[e,f5]at this;cases this
 have hb5:b≠b5:=bE.fresh hM0.1.outer f5;have hg5:∀i,i<n->g0 i≠b5:=fun i hi=>bE.fresh (hM0.1.row i hi) f5;refine aM (fun O S=>∃(k:Nat) (neg:Bool),k<=n/\O 2=.ptr 2 b2 0/\O 3=.sl 1 b 0 n/\O 4=.int .i64 n/\O 5=.ptr 2 b5 0/\O 6=.bool neg/\O 7=.int .i64 k/\xP A n b b2 b5 S k neg (Im A n k)) (fun O S=>n-ca (O 7)) ?_ ?_
 ·simp -dsimp only[go_sem,aa];refine⟨0,om,false,rfl,rfl,g0,id,A,mZ.init A n,(hM0.1.upd hb5 hg5 _).upd hb5 hg5 _,fun i hi=>⟨hg2 i hi,hg5 i hi⟩,?_,dl.set,fun i j _ _ _ _=>by rw[iK];rfl⟩
  exact(dl.upd ⟨_,hM0.2.1 b2 _ bZ,rfl⟩ h25 _).upd h25 _
 ·rintro O S ⟨k,neg,hkn,e2,e3,e4,e5,e6,e7,hD⟩;by_cases hlt:k<n
  ·simp -dsimp only[go_sem,aa,ae,↓reduceIte,af,decide_true,ab,e2,e4,e5,e6,e7,hlt];refine aM (fun O S=>∃p:Nat,k<=p/\p<=n/\O 2=.ptr 2 b2 0/\O 3=.sl 1 b 0 n/\O 4=.int .i64 n/\O 5=.ptr 2 b5 0/\O 6=.bool neg/\O 7=.int .i64 k/\O 8=.int .i64 p/\xP A n b b2 b5 S k neg (StgP A n k p)) (fun O S=>n-ca (O 8)) ?_ ?_
   ·simp -dsimp only[go_sem,aa,e2,e3,e4,e5,e6,e7];obtain⟨g,σ,B,hE,hM,hG,V2,V5,hB⟩:=hD;exact⟨k,om,om,rfl,g,σ,B,hE,hM,hG,V2,V5,hB,fun i h1 h2=>om⟩
   ·clear hD;rintro O S ⟨p,hkp,hpn,e2,e3,e4,e5,e6,e7,e8,hD⟩;by_cases hp:p<n
    ·obtain⟨g,σ,B,hE,hM,hG,V2,V5,hB,hZ⟩:=hD;obtain⟨g1,u1,v1⟩:=hM.outer;obtain⟨g2,u2,v2⟩:=hM.row p hp;have v1':=v1 p hp;have v2':=v2 k hlt;have hbp:=iI h2 hA hE (i:=p-k) (j:=0) om om;have hBpk:=hB p k hkp hp (ah _) hlt;rw[bW]at hBpk;rw[<-hBpk]at hbp;simp -dsimp only[go_sem,aa,ae,↓reduceIte,af,decide_true,ab,e3,e4,e7,e8,hp,hlt,u1,u2,v1',v2'];refine(il hbp om).call ?_;by_cases h0:B p k=0
     ·simp -dsimp only[go_sem,aa,↓reduceIte,af,decide_true,ab,e2,e3,e4,e5,e6,e7,e8,hp,h0,nh,a6 (om:p<1000000),ca]
      refine⟨⟨p+1,om,om,rfl,g,σ,B,hE,hM,hG,V2,V5,hB,fun i h1 h2=>?_⟩,om⟩
      by_cases e:i=p
      ·rw[e];exact h0
      ·exact hZ i h1 om
     ·have hs0:((B p k).sign==0)=false:=by
       simp only[beq_eq_false_iff_ne,ne_eq];rw[p9];exact h0
      have hpn':((p:Int)==n)=false:=by simp;omega
      simp -dsimp only[go_sem,aa,↓reduceIte,af,decide_true,ab,e2,e3,e4,e5,e6,e7,e8,hp,hs0,hpn'];by_cases hkp':k<p
      ·obtain⟨g3,u3,v3⟩:=hM.row k hlt;have v3':=v1 k hlt;have v1'':g1 p=.sl 2 (g p) 0 n:=v1';have v3'':g1 k=.sl 2 (g k) 0 n:=v3';simp -dsimp only[go_sem,decide_true,hkp'];refine io 13 kr ?_
       simp -dsimp only[go_sem,aa,↓reduceIte,reduceCtorEq,af,ab,e3,e6,e7,e8,hp,hlt,u1,v1'',v3'',a6 (om:k<1000000)]
       have hD':xP A n b b2 b5 ((S.upd b ⟨59,1,n,bJ g1 p (.sl 2 (g k) 0 n)⟩).upd b ⟨59,1,n,bJ (bJ g1 p (.sl 2 (g k) 0 n)) k (.sl 2 (g p) 0 n)⟩) k (!neg) (DC A n k (k+1) (k+1)):=by
        rw[kZ];have hs:∀i,i<n->dU k p i<n:=fun i hi=>by unfold dU;split<;>(try split)<;>omega
        refine⟨_,fun a=>σ (dU k p a),_,hE.swap hkp' hp,hM.swap hp hlt om u1,fun i hi=>hG _ (hs i hi),V2.upd hb2 _,?_,?_,fun a c ha1 ha2 hc1 hc2=>?_⟩
        ·have e:=uV (n:=k) (fun a c=>A (σ a) c) (i:=k) (k:=p) om om;rw[e];exact V5.upd (ao hb5) _
        ·have e:=tW (k:=k) (p:=p) (fun a c=>A (σ a) c) hkp 0 0;rw[e,show dU 0 (p-k) 0=p-k by simp[dU],<-hBpk];exact h0
        ·rw[if_neg om];have e:=tW (k:=k) (p:=p) (fun a c=>A (σ a) c) hkp (a-k) (c-k);show B (dU k p a) c=_;rw[e,hB (dU k p a) c (by unfold dU;split<;>(try split)<;>omega) (hs a ha2) hc1 hc2]
         congr 1;unfold dU;split<;>(try split)<;>(try split)<;>(try split)<;>omega
       refine aM (fun O S=>∃i:Nat,k+1<=i/\i<=n/\O 2=.ptr 2 b2 0/\O 3=.sl 1 b 0 n/\O 4=.int .i64 n/\O 5=.ptr 2 b5 0/\O 6=.bool (!neg)/\O 7=.int .i64 k/\O 9=.int .i64 i/\xP A n b b2 b5 S k (!neg) (DC A n k i (k+1))) (fun O S=>n-ca (O 9)) ?_ ?_
       ·simp -dsimp only[go_sem,aa,e2,e3,e4,e5,e7];exact⟨k+1,om,om,rfl,hD'⟩
       ·clear hD' e2 e3 e4 e5 e6 e7 e8 u1 u2 v1 v2 v1' v2' hM V2 V5 hG hE;rintro O S ⟨i,hki,hin,e2,e3,e4,e5,e6,e7,e9,hD⟩;by_cases hi:i<n
        ·simp -dsimp only[go_sem,aa,↓reduceIte,af,decide_true,ab,e2,e3,e4,e5,e6,e7,e9,hi,hlt,a6 (om:k<1000000)]
         refine aM (fun O S=>∃j:Nat,k+1<=j/\j<=n/\O 2=.ptr 2 b2 0/\O 3=.sl 1 b 0 n/\O 4=.int .i64 n/\O 5=.ptr 2 b5 0/\O 6=.bool (!neg)/\O 7=.int .i64 k/\O 9=.int .i64 i/\O 10=.int .i64 j/\xP A n b b2 b5 S k (!neg) (DC A n k i j)) (fun O S=>n-ca (O 10)) ?_ ?_
         ·simp -dsimp only[go_sem,aa,e2,e3,e4,e5,e6,e7,e9];exact⟨k+1,om,om,rfl,hD⟩
         ·clear hD;rintro O S ⟨j,hkj,hjn,e2,e3,e4,e5,e6,e7,e9,e10,hD⟩;by_cases hj:j<n
          ·obtain⟨g,σ,B,hE,hM,hG,V2,V5,h00,hB⟩:=hD;obtain⟨g1,u1,v1⟩:=hM.outer;obtain⟨g2,u2,v2⟩:=hM.row i hi;obtain⟨g3,u3,v3⟩:=hM.row k hlt;have w1:=v1 i hi;have w2:=v1 k hlt;have w3:=v2 j hj;have w4:=v2 k hlt;have w5:=v3 j hj;have w6:=v3 k hlt;obtain⟨gw,uw,vw⟩:=V5;have c1:=hB i j om hi om hj;have c2:=hB i k om hi (ah _) hlt;have c3:=hB k j (ah _) hlt om hj;have c4:=hB k k (ah _) hlt (ah _) hlt;rw[if_neg om]at c1 c2 c3 c4;rw[bW]at c2 c3 c4;have n1:=iI h2 hA hE (i:=i-k) (j:=j-k) om om;have n2:=iI h2 hA hE (i:=i-k) (j:=0) om om;have n3:=iI h2 hA hE (i:=0) (j:=j-k) om om;have n4:=iI h2 hA hE (i:=0) (j:=0) om om;rw[<-c1]at n1;rw[<-c2]at n2;rw[<-c3]at n3;rw[<-c4]at n4;have n5:nb (det k (fun a c=>A (σ a) c)) (17*(k0+10)):=(qE k _ om (fun a c ha hc=>hA _ _ (hE.row a om) om)).mono (by have:k*(k0+10)<=16*(k0+10):=bY _ om;omega)
           have hst:=ju hE.lead (i-k-1) (j-k-1);rw[(om:i-k-1+1=i-k),(om:j-k-1+1=j-k),<-c1,<-c2,<-c3,<-c4]at hst
           have hd0:=hE.lead k (ah _);have hq:(B k k*B i j-B i k*B k j)/det k (fun a c=>A (σ a) c)=cP (fun a c=>A (σ a) c) (k+1) (i-k-1) (j-k-1):=by
            rw[hst,cV _ hd0]
           simp -dsimp only[go_sem,aa,↓reduceIte,af,decide_true,ab,e2,e3,e4,e5,e6,e7,e9,e10,hj];refine bM 39 kr ?_
           simp -dsimp only[go_sem,aa,ae,↓reduceIte,reduceCtorEq,af,ab,e2,e3,e4,e5,e6,e7,e9,e10,hi,hj,hlt,u1,u2,u3,w1,w2,w3,w4,w5,w6,uw,vw];refine⟨_,(gM n4 n1 om).pure',_,(gM n2 n3 om).pure',_,(pN (n4.mul n1) (n2.mul n3) om).pure',_,(nV (k:=17*(k0+10)+17*(k0+10)+1) ((n4.mul n1).sub (n2.mul n3)) (n5.mono om) om hd0).pure',?_⟩;simp -dsimp only[go_sem,a6 (om:j<1000000),ca]
           rw[hq];refine⟨⟨j+1,om,om,rfl,g,σ,_,hE,hM.set hi u2,hG,dl.upd V2 (ao (hG i hi).1) _,dl.upd ⟨gw,uw,vw⟩ (ao (hG i hi).2) _,h00,fun a c ha1 ha2 hc1 hc2=>?_⟩,om⟩
           have h3:=hB a c ha1 ha2 hc1 hc2;simp only[eE];by_cases e1:a=i/\c=j
           ·obtain⟨rfl,rfl⟩:=e1;rw[if_pos ⟨rfl,rfl⟩,if_pos om,wO,wO]
           ·rw[if_neg e1,h3];by_cases e2:k<a/\k<c/\(a<i∨a=i/\c<j)
            ·rw[if_pos e2,if_pos om]
            ·rw[if_neg e2,if_neg om]
          ·obtain rfl:j=n:=om
           obtain⟨g,σ,B,hE,hM,hG,V2,V5,h00,hB⟩:=hD;simp -dsimp only[go_sem,aa,↓reduceIte,af,decide_false,ab,e2,e3,e4,e5,e6,e7,e9,e10,hj,a6 (om:i<1000000),ca]
           refine⟨⟨i+1,om,om,rfl,g,σ,B,hE,hM,hG,V2,V5,h00,fun a c ha1 ha2 hc1 hc2=>?_⟩,om⟩
           rw[hB a c ha1 ha2 hc1 hc2];by_cases e2:k<a/\k<c/\(a<i∨a=i/\c<j)
           ·rw[if_pos e2,if_pos om]
           ·rw[if_neg e2,if_neg om]
        ·obtain rfl:i=n:=om
         obtain⟨g,σ,B,hE,hM,hG,V2,V5,h00,hB⟩:=hD;obtain⟨g1,u1,v1⟩:=hM.outer;obtain⟨g3,u3,v3⟩:=hM.row k hlt;have w2:=v1 k hlt;have w6:=v3 k hlt;obtain⟨gw,uw,vw⟩:=V5;have c4:=hB k k (ah _) hlt (ah _) hlt;rw[if_neg om,bW,c8]at c4;simp -dsimp only[go_sem,aa,ae,↓reduceIte,af,decide_false,ab,e2,e3,e4,e5,e6,e7,e9,hi,hlt,u1,u3,w2,w6,uw,a6 (om:k<1000000),ca]
         refine⟨⟨k+1,om,(!neg),rfl,rfl,g,σ,B,hE.step h00,hM.upd hb5 (fun i hi=>(hG i hi).2) _,hG,V2.upd h25 _,?_,fun a c ha1 ha2 hc1 hc2=>?_⟩,om⟩
         ·rw[<-c4];exact dl.set
         ·rw[hB a c om ha2 om hc2,if_pos om]
      ·obtain rfl:k=p:=om
       simp -dsimp only[go_sem,decide_false,a6 (om:k<1000000),hkp']
       have hD':xP A n b b2 b5 S k neg (DC A n k (k+1) (k+1)):=by
        refine⟨g,σ,B,hE,hM,hG,V2,V5,?_,fun a c ha1 ha2 hc1 hc2=>?_⟩
        ·rw[bW]at hBpk;rw[<-hBpk];exact h0
        ·rw[if_neg om];exact hB a c ha1 ha2 hc1 hc2
       refine aM (fun O S=>∃i:Nat,k+1<=i/\i<=n/\O 2=.ptr 2 b2 0/\O 3=.sl 1 b 0 n/\O 4=.int .i64 n/\O 5=.ptr 2 b5 0/\O 6=.bool neg/\O 7=.int .i64 k/\O 9=.int .i64 i/\xP A n b b2 b5 S k neg (DC A n k i (k+1))) (fun O S=>n-ca (O 9)) ?_ ?_
       ·simp -dsimp only[go_sem,aa,e2,e3,e4,e5,e6,e7];exact⟨k+1,om,om,rfl,hD'⟩
       ·clear hD' e2 e3 e4 e5 e6 e7 e8 u1 u2 v1 v2 v1' v2' hM V2 V5 hG hE;rintro O S ⟨i,hki,hin,e2,e3,e4,e5,e6,e7,e9,hD⟩;by_cases hi:i<n
        ·simp -dsimp only[go_sem,aa,↓reduceIte,af,decide_true,ab,e2,e3,e4,e5,e6,e7,e9,hi,hlt,a6 (om:k<1000000)]
         refine aM (fun O S=>∃j:Nat,k+1<=j/\j<=n/\O 2=.ptr 2 b2 0/\O 3=.sl 1 b 0 n/\O 4=.int .i64 n/\O 5=.ptr 2 b5 0/\O 6=.bool neg/\O 7=.int .i64 k/\O 9=.int .i64 i/\O 10=.int .i64 j/\xP A n b b2 b5 S k neg (DC A n k i j)) (fun O S=>n-ca (O 10)) ?_ ?_
         ·simp -dsimp only[go_sem,aa,e2,e3,e4,e5,e6,e7,e9];exact⟨k+1,om,om,rfl,hD⟩
         ·clear hD;rintro O S ⟨j,hkj,hjn,e2,e3,e4,e5,e6,e7,e9,e10,hD⟩;by_cases hj:j<n
          ·obtain⟨g,σ,B,hE,hM,hG,V2,V5,h00,hB⟩:=hD;obtain⟨g1,u1,v1⟩:=hM.outer;obtain⟨g2,u2,v2⟩:=hM.row i hi;obtain⟨g3,u3,v3⟩:=hM.row k hlt;have w1:=v1 i hi;have w2:=v1 k hlt;have w3:=v2 j hj;have w4:=v2 k hlt;have w5:=v3 j hj;have w6:=v3 k hlt;obtain⟨gw,uw,vw⟩:=V5;have c1:=hB i j om hi om hj;have c2:=hB i k om hi (ah _) hlt;have c3:=hB k j (ah _) hlt om hj;have c4:=hB k k (ah _) hlt (ah _) hlt;rw[if_neg om]at c1 c2 c3 c4;rw[bW]at c2 c3 c4;have n1:=iI h2 hA hE (i:=i-k) (j:=j-k) om om;have n2:=iI h2 hA hE (i:=i-k) (j:=0) om om;have n3:=iI h2 hA hE (i:=0) (j:=j-k) om om;have n4:=iI h2 hA hE (i:=0) (j:=0) om om;rw[<-c1]at n1;rw[<-c2]at n2;rw[<-c3]at n3;rw[<-c4]at n4;have n5:nb (det k (fun a c=>A (σ a) c)) (17*(k0+10)):=(qE k _ om (fun a c ha hc=>hA _ _ (hE.row a om) om)).mono (by have:k*(k0+10)<=16*(k0+10):=bY _ om;omega)
           have hst:=ju hE.lead (i-k-1) (j-k-1);rw[(om:i-k-1+1=i-k),(om:j-k-1+1=j-k),<-c1,<-c2,<-c3,<-c4]at hst
           have hd0:=hE.lead k (ah _);have hq:(B k k*B i j-B i k*B k j)/det k (fun a c=>A (σ a) c)=cP (fun a c=>A (σ a) c) (k+1) (i-k-1) (j-k-1):=by
            rw[hst,cV _ hd0]
           simp -dsimp only[go_sem,aa,↓reduceIte,af,decide_true,ab,e2,e3,e4,e5,e6,e7,e9,e10,hj];refine bM 39 kr ?_
           simp -dsimp only[go_sem,aa,ae,↓reduceIte,reduceCtorEq,af,ab,e2,e3,e4,e5,e6,e7,e9,e10,hi,hj,hlt,u1,u2,u3,w1,w2,w3,w4,w5,w6,uw,vw];refine⟨_,(gM n4 n1 om).pure',_,(gM n2 n3 om).pure',_,(pN (n4.mul n1) (n2.mul n3) om).pure',_,(nV (k:=17*(k0+10)+17*(k0+10)+1) ((n4.mul n1).sub (n2.mul n3)) (n5.mono om) om hd0).pure',?_⟩;simp -dsimp only[go_sem,a6 (om:j<1000000),ca]
           rw[hq];refine⟨⟨j+1,om,om,rfl,g,σ,_,hE,hM.set hi u2,hG,dl.upd V2 (ao (hG i hi).1) _,dl.upd ⟨gw,uw,vw⟩ (ao (hG i hi).2) _,h00,fun a c ha1 ha2 hc1 hc2=>?_⟩,om⟩
           have h3:=hB a c ha1 ha2 hc1 hc2;simp only[eE];by_cases e1:a=i/\c=j
           ·obtain⟨rfl,rfl⟩:=e1;rw[if_pos ⟨rfl,rfl⟩,if_pos om,wO,wO]
           ·rw[if_neg e1,h3];by_cases e2:k<a/\k<c/\(a<i∨a=i/\c<j)
            ·rw[if_pos e2,if_pos om]
            ·rw[if_neg e2,if_neg om]
          ·obtain rfl:j=n:=om
           obtain⟨g,σ,B,hE,hM,hG,V2,V5,h00,hB⟩:=hD;simp -dsimp only[go_sem,aa,↓reduceIte,af,decide_false,ab,e2,e3,e4,e5,e6,e7,e9,e10,hj,a6 (om:i<1000000),ca]
           refine⟨⟨i+1,om,om,rfl,g,σ,B,hE,hM,hG,V2,V5,h00,fun a c ha1 ha2 hc1 hc2=>?_⟩,om⟩
           rw[hB a c ha1 ha2 hc1 hc2];by_cases e2:k<a/\k<c/\(a<i∨a=i/\c<j)
           ·rw[if_pos e2,if_pos om]
           ·rw[if_neg e2,if_neg om]
        ·obtain rfl:i=n:=om
         obtain⟨g,σ,B,hE,hM,hG,V2,V5,h00,hB⟩:=hD;obtain⟨g1,u1,v1⟩:=hM.outer;obtain⟨g3,u3,v3⟩:=hM.row k hlt;have w2:=v1 k hlt;have w6:=v3 k hlt;obtain⟨gw,uw,vw⟩:=V5;have c4:=hB k k (ah _) hlt (ah _) hlt;rw[if_neg om,bW,c8]at c4;simp -dsimp only[go_sem,aa,ae,↓reduceIte,af,decide_false,ab,e2,e3,e4,e5,e6,e7,e9,hi,hlt,u1,u3,w2,w6,uw,a6 (om:k<1000000),ca]
         refine⟨⟨k+1,om,neg,rfl,rfl,g,σ,B,hE.step h00,hM.upd hb5 (fun i hi=>(hG i hi).2) _,hG,V2.upd h25 _,?_,fun a c ha1 ha2 hc1 hc2=>?_⟩,om⟩
         ·rw[<-c4];exact dl.set
         ·rw[hB a c om ha2 om hc2,if_pos om]
    ·obtain rfl:p=n:=om
     have hpn':((p:Int)==p)=true:=by simp
     obtain⟨g,σ,B,hE,hM,hG,V2,V5,hB,hZ⟩:=hD;obtain⟨gv,uv,vv⟩:=V2;simp -dsimp only[go_sem,aa,ae,↓reduceIte,af,decide_false,ab,e2,e3,e4,e5,e6,e7,e8,hp,hpn',uv];have hz:det p A=0:=hE.zero hlt (fun i hi=>by
      have h3:=hB (k+i) k om om (ah _) hlt;rw[hZ (k+i) om om,bW,(om:k+i-k=i)]at h3
      exact h3.symm)
     rw[hz];exact VR.mf rfl
  ·obtain rfl:k=n:=om
   obtain⟨g,σ,B,hE,hM,hG,V2,V5,hB⟩:=hD;obtain⟨gv,uv,vv⟩:=V2;obtain⟨gw,uw,vw⟩:=V5;have hs:=hE.sign;have hbd:nb (det k (fun a c=>A (σ a) c)) (17*(k0+10)):=(qE k _ h2 (fun a c ha hc=>hA _ _ (hE.row a ha) hc)).mono (by have:k*(k0+10)<=16*(k0+10):=bY _ h2;omega)
   cases neg
   ·simp only[aR,if_false]at hs;simp -dsimp only[go_sem,aa,ae,↓reduceIte,af,decide_false,ab,e2,e4,e5,e6,e7,hlt,uv,uw,vw,bJ];rw[<-hs];exact VR.mf rfl
   ·simp only[if_true]at hs;simp -dsimp only[go_sem,aa,ae,↓reduceIte,af,decide_false,ab,e2,e4,e5,e6,e7,hlt,uv,uw,vw];refine(D8 hbd om).call ?_;simp -dsimp only[go_sem,aa,ae,↓reduceIte,ab,e2,uv,vw,bJ];rw[hs,Int.neg_neg];exact VR.mf rfl
theorem cG.vr{e es:Nat}{S0 S:St}{x:AV}{j:Nat}{g g':Nat->AV}(h:cG e es S0 S x j g)(hv:∀i,i<j->VR S (g i) (g' i)):VR S x (.lst es j g'):=by
 rcases h.2 with⟨rfl,rfl⟩|⟨c,_,rfl,h2⟩
 ·exact VR.nil
 ·exact VR.sl h2 om (fun i hi=>by rw[Nat.zero_add];exact hv i hi)
def fst(k m i:Nat):Nat:=if i<k then i else m
theorem BN(k m:Nat)(hk:k<=1000)(hm:m<=1000):PF 173 [.int .i64 k,.int .i64 m] (bO (k+1) (fun i=>(fst k m i:Nat))):=by
 refine PF.of_spec (aD func173 rfl 20 ntmps173 kr sm (by simp[results173]) ?_)
 rw[aQ,results173];simp -dsimp only[go_sem,ak];refine aM (fun O S=>∃(i:Nat) (x:AV),i<=k/\O 0=.int .i64 k/\O 1=.int .i64 m/\O 5=x/\O 6=.int .i64 i/\cG 3 1 St.none S x i (fun a=>.int .i64 a)) (fun O S=>k-ca (O 6)) ?_ ?_
 ·simp -dsimp only[go_sem,aa,reduceCtorEq];exact⟨0,om,rfl,cG.nil (eJ.noneS _) _⟩
 ·rintro O S ⟨i,x,hi,e0,e1,e5,e6,hX⟩;by_cases hlt:i<k
  ·simp -dsimp only[go_sem,aa,↓reduceIte,reduceCtorEq,af,decide_true,e0,e1,e5,e6,hlt];refine aH.intro fun b14 f14=>?_;simp -dsimp only[go_sem,aa,↓reduceIte,e5,e6];have hxb:=hX.fresh f14;refine cG.app3 (hX.upd (by rfl) hxb _) om (show dI 1 (.int .i64 (i:Int)) by simp[dI]) (bH ⟨_,_,_,rfl,bZ,rfl,fun h=>hxb _ h rfl⟩) ?_
   intro c S2 hX' hk1 hk3;simp -dsimp only[go_sem,aa,reduceCtorEq,e0,e1,e5,e6,a6 (om:i<1000000),ca]
   exact⟨⟨i+1,om,rfl,hX'.congr fun a ha=>by grind⟩,om⟩
  ·obtain rfl:i=k:=om
   simp -dsimp only[go_sem,aa,↓reduceIte,reduceCtorEq,af,decide_false,e0,e1,e5,e6,hlt];refine aH.intro fun b18 f18=>?_;simp -dsimp only[go_sem,aa,↓reduceIte,e1,e5];have hxb:=hX.fresh f18;refine cG.app3 (hX.upd (by rfl) hxb _) om (show dI 1 (.int .i64 (m:Int)) by simp[dI]) (bH ⟨_,_,_,rfl,bZ,rfl,fun h=>hxb _ h rfl⟩) ?_
   intro c S2 hX' hk1 hk3;simp -dsimp only[go_sem,aa,e1,e5];refine hX'.vr (fun a ha=>?_);have:(if a=i then AV.int .i64 (m:Int)else .int .i64 (a:Int))=.int .i64 ((fst i m a:Nat):Int):=by
    unfold fst;by_cases e:a=i
    ·subst e;simp
    ·rw[if_neg e,if_pos om]
   rw[this];exact VR.mf rfl
theorem EF(A:aW)(k i j:Nat):det (k+1) (fun a b=>A (fst k (k+i) a) (fst k (k+j) b))=cP A k i j:=by
 unfold cP;exact bF fun a b _ _=>rfl
theorem qF(n:Nat)(A:aW)(k0:Nat)(h1:1<=n)(h2:n<=16)(hA:∀i j,i<n->j<n->nb (A i j) k0)(hk:k0<=10000000):PF 118 [aZ n n A] (.tup [bn n (fun k=>det (k+1) A),.bool true]):=by
 refine PF.of_spec (aD func118 rfl 33 ntmps118 kr sm (by simp[results118]) ?_)
 rw[aQ,results118];simp -dsimp only[go_sem,aa,ae,reduceCtorEq,ab];refine(yg n A h1 h2).call ?_;simp -dsimp only[go_sem,aa,reduceCtorEq];refine aM (fun O S=>∃(i:Nat) (x:AV),i<=n/\O 0=aZ n n A/\O 4=.int .i64 n/\O 6=x/\O 7=.int .i64 i/\cG 50 2 St.none S x i (fun a=>.big (det (a+1) A))) (fun O S=>n-ca (O 7)) ?_ ?_
 ·simp -dsimp only[go_sem,aa,reduceCtorEq];exact⟨0,om,rfl,cG.nil (eJ.noneS _) _⟩
 ·rintro O S ⟨i,x,hi,e0,e4,e6,e7,hX⟩;by_cases hlt:i<n
  ·have hF:∀a,a<i+1->fst i i a<n:=fun a ha=>by unfold fst;split<;>omega
   simp -dsimp only[go_sem,aa,ae,↓reduceIte,reduceCtorEq,af,decide_true,ab,e0,e4,e6,e7,hlt];refine(BN i i om om).call ?_;simp -dsimp only[go_sem,aa,ae,reduceCtorEq,ab,e0,e6,e7];refine(BN i i om om).call ?_;simp -dsimp only[go_sem,aa,ae,reduceCtorEq,ab,e0,e6,e7];refine(yR n n (i+1) (i+1) A (fst i i) (fst i i) om om om om hF hF).pf.call ?_;simp -dsimp only[go_sem,aa,ae,reduceCtorEq,ab,e0,e6,e7];refine(gL (i+1) _ k0 om om (fun a b ha hb=>hA _ _ (hF a ha) (hF b hb)) hk).call ?_;simp -dsimp only[go_sem,aa,reduceCtorEq,e0,e6,e7];refine aH.intro fun b30 f30=>?_;simp -dsimp only[go_sem,aa,↓reduceIte,reduceCtorEq,e0,e6,e7];have hxb:=hX.fresh f30;have hd:det (i+1) (fun a b=>A (fst i i a) (fst i i b))=det (i+1) A:=by
    have:=EF A i 0 0;rw[dd,c8]at this;exact this
   refine cG.app50 (hX.upd (by rfl) hxb _) om (show dI 2 (.big (det (i+1) A))from trivial) (bH ⟨_,_,_,rfl,bZ,by rw[hd];rfl,fun h=>hxb _ h rfl⟩) ?_
   intro c S2 hX' hk1 hk3;simp -dsimp only[go_sem,aa,reduceCtorEq,e0,e4,e6,e7,a6 (om:i<1000000),ca]
   exact⟨⟨i+1,om,rfl,hX'.congr fun a ha=>by grind⟩,om⟩
  ·obtain rfl:i=n:=om
   simp -dsimp only[go_sem,aa,ae,↓reduceIte,reduceCtorEq,af,decide_false,ab,e0,e4,e6,e7,hlt];exact VR.tup2 (hX.vr fun a _=>VR.mf rfl) (VR.mf rfl)
theorem sP(a:Int):md a a=0:=by unfold md;simp
theorem qV(n:Nat)(A:aW)(k0:Nat)(h2:n<=16)(hA:∀i j,i<n->j<n->nb (A i j) k0)(hk:k0<=10000000)(hs:∀a b,a<n->b<n->A a b=A b a):PF 116 [aZ n n A] (.bool true):=by
 refine PF.of_spec (aD func116 rfl 32 ntmps116 kr sm (by simp[results116]) ?_)
 rw[aQ,results116];simp -dsimp only[go_sem,reduceCtorEq,aZ,bn];refine aM (fun O S=>∃i:Nat,i<=n/\O 0=aZ n n A/\O 6=.int .i64 n/\O 7=.int .i64 i) (fun O S=>n-ca (O 7)) ?_ ?_
 ·simp -dsimp only[go_sem,aa,reduceCtorEq,aZ,bn];exact⟨0,om,rfl⟩
 ·rintro O S ⟨i,hi,e0,e6,e7⟩;by_cases hlt:i<n
  ·simp -dsimp only[go_sem,aa,↓reduceIte,af,decide_true,aZ,bn,e6,e7,hlt];refine aM (fun O S=>∃j:Nat,j<=i/\O 0=aZ n n A/\O 3=.int .i64 i/\O 4=.int .i64 j/\O 6=.int .i64 n/\O 7=.int .i64 i) (fun O S=>i-ca (O 4)) ?_ ?_
   ·simp -dsimp only[go_sem,aa,reduceCtorEq,aZ,bn,e0,e6,e7];exact⟨0,om,rfl⟩
   ·rintro O S ⟨j,hj,e0,e3,e4,e6,e7⟩;by_cases hji:j<i
    ·have hjn:j<n:=om
     simp -dsimp only[go_sem,aa,↓reduceIte,reduceCtorEq,af,decide_true,aZ,bn,e0,e3,e4,e6,e7,hji];refine bM 16 kr ?_
     simp -dsimp only[go_sem,aa,ae,↓reduceIte,reduceCtorEq,af,ab,aZ,bn,e0,e3,e4,e6,e7,hlt,hjn];have h0:md (A i j) (A j i)=0:=by rw[hs i j hlt hjn];exact sP _
     refine⟨_,(nX (hA i j hlt hjn) (hA j i hjn hlt) om).pure',?_⟩;rw[h0];simp -dsimp only[go_sem,a6 (om:j<1000000),ca]
     exact⟨⟨j+1,om,rfl⟩,om⟩
    ·simp -dsimp only[go_sem,aa,↓reduceIte,reduceCtorEq,af,decide_false,aZ,bn,e0,e3,e4,e6,e7,hji,a6 (om:i<1000000),ca]
     exact⟨⟨i+1,om,rfl⟩,om⟩
  ·simp -dsimp only[go_sem,aa,↓reduceIte,af,decide_false,aZ,bn,e6,e7,hlt];exact VR.mf rfl
theorem VR.agg{S:St}{l:List AV}(h:∀x∈l,oG x=true):VR S (.agg l) (.agg l):=by
 intro w v hs hr;simp only[bs]at hr ⊢;obtain⟨vs,h1,h2⟩:=hr;exact⟨vs,h1,zR l vs h h2⟩
def rN(a b:Int):Int:=a/(lz a b:Int)
def rD(a b:Int):Int:=b/(lz a b:Int)
theorem rh{a b:Int}(h:0<b):0<(lz a b:Int):=by
 have:=Int.gcd_pos_of_ne_zero_right a (om:b≠0);omega
theorem GQ{a b:Int}:(lz a b:Int)*rN a b=a:=iO (Int.gcd_dvd_left ..)
theorem CU{a b:Int}:(lz a b:Int)*rD a b=b:=iO (Int.gcd_dvd_right ..)
theorem nY{a b:Int}(h:0<b):0<rD a b:=by
 have h1:=CU (a:=a) (b:=b);exact vn (rh (a:=a) h) (by rw[h1];exact h)
theorem D9{a b:Int}:rN a b*b=a*rD a b:=by
 have h1:=GQ (a:=a) (b:=b);have h2:=CU (a:=a) (b:=b);have h3:(lz a b:Int)*(rN a b*rD a b)=a*rD a b:=by rw[<-fK,h1]
 have h4:(lz a b:Int)*(rN a b*rD a b)=rN a b*b:=by rw[Int.mul_left_comm,h2]
 rw[<-h3,h4]
theorem qh{g x y:Int}(h:g*x=y)(hg:0<g):x.natAbs<=y.natAbs:=by
 rw[<-h,fJ];exact Nat.le_mul_of_pos_left _ om
theorem vf{a b:Int}{k:Nat}(h:0<b)(ha:nb a k):nb (rN a b) k:=nb.of_le (qh GQ (rh h)) ha
theorem vg{a b:Int}{k:Nat}(h:0<b)(hb:nb b k):nb (rD a b) k:=nb.of_le (qh CU (rh h)) hb
theorem mD{a b c d:Int}(hb:0<b)(hd:0<d)(h:a*d=c*b):a/b=c/d:=by
 rw[<-Int.mul_ediv_mul_of_pos_left a b hd,h,cF b d,Int.mul_ediv_mul_of_pos_left c d hb]
theorem yk{a:Int}(h:0<a):a.sign=1:=cU h
theorem Ip{a b:Int}{k:Nat}(ha:nb a k)(hb:nb b k)(hk:k<=500000000)(h0:0<b):PF 254 [.big a,.big b] (.tup [.agg [.big (rN a b),.big (rD a b)],.bool true]):=by
 refine PF.of_spec (aD func254 rfl 28 ntmps254 kr sm (by simp[results254]) ?_)
 rw[aQ,results254];have hg0:=rh (a:=a) h0;have hg:nb (lz a b:Int) k:=nb.of_le (by have:=Int.gcd_le_natAbs_right a (om:b≠0);simp;exact this) hb
 try simp -dsimp only[go_sem,ak,aa,reduceCtorEq]
 refine aH.intro fun b2 f2=>?_
 try simp -dsimp only[go_sem,ak,aa,au,ae,↓reduceIte,reduceCtorEq,af,decide_true,decide_false,az]
 refine aH.intro fun b3 f3=>?_;have n3_2:=(ai f3).1
 try simp -dsimp only[go_sem,ak,aa,au,ae,↓reduceIte,reduceCtorEq,af,decide_true,decide_false,az]
 refine aH.intro fun b4 f4=>?_;have n4_3:=(ai f4).1;have n4_2:=(ai (ai f4).2).1;simp -dsimp only[go_sem,aa,ae,↓reduceIte,ab,ao n4_3];refine(il hb om).call ?_;rw[yk h0];simp -dsimp only[go_sem,aa,ae,↓reduceIte,ab,ao n4_3,show((1:Int)==0)=false from rfl];refine(il hb om).call ?_;rw[yk h0];simp -dsimp only[go_sem,aa,ae,↓reduceIte,decide_false,ab,ao n3_2,ao n4_2,ao n4_3,show ¬((1:Int)<0) by decide]
 refine(Ji ha hb om).call ?_;simp -dsimp only[go_sem];refine aH.intro fun b6 f6=>?_;have n6_4:=(ai f6).1;have n6_3:=(ai (ai f6).2).1;have n6_2:=(ai (ai (ai f6).2).2).1;simp -dsimp only[go_sem,aa,ae,↓reduceIte,ab];refine bM 7 kr ?_
 simp -dsimp only[go_sem,ak,aa,ae,↓reduceIte,ab,ao n3_2,ao n4_2,ao n4_3,ao n6_2,ao n6_3,ao n6_4,bJ];refine⟨_,(nV ha hg om om).pure',_,(nV hb hg om om).pure',?_⟩;simp -dsimp only[go_sem,ak,au,ae,↓reduceIte,ib,dF,bG,aT,false_implies,implies_true,bI,bC,eG,bW];exact VR.tup2 (VR.agg (by simp[oG])) (VR.mf rfl)
theorem lR{a b:Int}{k:Nat}(ha:nb a k)(hb:nb b k)(hk:k<=500000000)(h0:0<b):PF 220 [.agg [.big a,.big b]] (.agg [.big (rN a b),.big (rD a b)]):=by
 refine PF.of_spec (aD func220 rfl 17 ntmps220 kr sm (by simp[results220]) ?_)
 rw[aQ,results220];simp -dsimp only[go_sem,ak,bG,aT,false_implies,implies_true];refine aH.intro fun b1 f1=>?_
 try simp -dsimp only[go_sem,ak,aa,au,ae,↓reduceIte,reduceCtorEq,af,decide_true,decide_false,az]
 refine aH.intro fun b2 f2=>?_;have n2_1:=(ai f2).1;simp -dsimp only[go_sem,ak,aa,ae,↓reduceIte,ab,ao n2_1,bI,bC];refine(Ip ha hb hk h0).call ?_;simp -dsimp only[go_sem,aa,↓reduceIte,bI,bC];refine aH.intro fun b3 f3=>?_;have n3_2:=(ai f3).1;have n3_1:=(ai (ai f3).2).1;simp -dsimp only[go_sem,ak,aa,au,ae,↓reduceIte,ab,ao n3_2,ib,dF,bG,aT,false_implies,implies_true,bI,bC,eG,bW];exact VR.agg (by simp[oG])
theorem KA:PF 219 [] (.agg [.big 1,.big 2]):=by
 refine PF.of_spec (aD func219 rfl 4 ntmps219 kr sm (by simp[results219]) ?_)
 rw[aQ,results219]
 try simp -dsimp only[go_sem]
 refine aH.intro fun b0 f0=>?_;simp -dsimp only[go_sem,aa,ae,ab];refine(eK dc dc).call ?_
 simp -dsimp only[go_sem,aa,ae,ab];refine(eK dc dc).call ?_
 simp -dsimp only[go_sem,ak,aa,au,ae,↓reduceIte,reduceCtorEq,ab,ib,dF,bG,aT,false_implies,implies_true,bI,bC,eG,bW];exact VR.agg (by simp[oG])
theorem It{a b:Int}{k:Nat}(ha:nb a k)(hb:nb b k)(hk:k<=500000000)(h0:0<b):PF 217 [.agg [.big a,.big b]] (.big (a/b)):=by
 refine PF.of_spec (aD func217 rfl 11 ntmps217 kr sm (by simp[results217]) ?_)
 rw[aQ,results217];simp -dsimp only[go_sem,ak,bG,aT,false_implies,implies_true];refine aH.intro fun b1 f1=>?_
 try simp -dsimp only[go_sem,ak,aa,au,ae,↓reduceIte,reduceCtorEq,af,decide_true,decide_false,az]
 refine aH.intro fun b2 f2=>?_;have n2_1:=(ai f2).1;simp -dsimp only[go_sem,aa,ae,↓reduceIte,ab,ao n2_1,dF,bI,bC];refine(lR ha hb hk h0).call ?_;simp -dsimp only[go_sem];refine aH.intro fun b3 f3=>?_;have n3_2:=(ai f3).1;have n3_1:=(ai (ai f3).2).1;simp -dsimp only[go_sem,ak,aa,au,ae,↓reduceIte,ab,ib,dF,bG,aT,false_implies,implies_true,bI,bC,eG,bW];have hd:=nY (a:=a) h0;refine(nV (vf h0 ha) (vg h0 hb) om om).call ?_;simp -dsimp only[go_sem,ak,aa,au,ae,↓reduceIte,ab,ao n3_2,bJ,ib,bI,bC,eG,bW];rw[mD hd h0 D9];exact VR.mf rfl
theorem Cj{a b:Int}{k:Nat}(ha:nb a k)(hb:nb b k)(hk:k<=500000000)(h0:0<b):PF 170 [.big a,.big b] (.agg [.big (rN a b),.big (rD a b)]):=by
 refine PF.of_spec (aD func170 rfl 9 ntmps170 kr sm (by simp[results170]) ?_)
 rw[aQ,results170]
 try simp -dsimp only[go_sem,ak,aa,reduceCtorEq]
 refine aH.intro fun b2 f2=>?_
 try simp -dsimp only[go_sem,ak,aa,au,ae,↓reduceIte,reduceCtorEq,af,decide_true,decide_false,az]
 refine aH.intro fun b3 f3=>?_;have n3_2:=(ai f3).1
 try simp -dsimp only[go_sem,ak,aa,au,ae,↓reduceIte,reduceCtorEq,af,decide_true,decide_false,az]
 refine aH.intro fun b4 f4=>?_;have n4_3:=(ai f4).1;have n4_2:=(ai (ai f4).2).1;simp -dsimp only[go_sem,aa,ae,↓reduceIte,ab,ao n3_2,ao n4_2,ao n4_3];refine(lR ha hb hk h0).call ?_;simp -dsimp only[go_sem,ak,aa,au,ae,↓reduceIte,ab,ib,dF,bG,aT,false_implies,implies_true,bI,bC,eG,bW];exact VR.agg (by simp[oG])
theorem MB{a b c d:Int}{k:Nat}(ha:nb a k)(hb:nb b k)(hc:nb c k)(hd:nb d k)(hk:k<=100000000)(h0:0<b)(h1:0<d) :
  PF 218 [.agg [.big a,.big b],.agg [.big c,.big d]] (.agg [.big (rN (rN a b*rD c d+rN c d*rD a b) (rD a b*rD c d)),.big (rD (rN a b*rD c d+rN c d*rD a b) (rD a b*rD c d))]):=by
 refine PF.of_spec (aD func218 rfl 34 ntmps218 kr sm (by simp[results218]) ?_)
 rw[aQ,results218];have p1:=nY (a:=a) h0;have p2:=nY (a:=c) h1;have n1:=vf h0 ha;have n2:=vg (a:=a) h0 hb;have n3:=vf h1 hc;have n4:=vg (a:=c) h1 hd;simp -dsimp only[go_sem,ak,aa,reduceCtorEq,bG,aT,false_implies,implies_true];refine aH.intro fun b2 f2=>?_
 try simp -dsimp only[go_sem,ak,aa,au,ae,↓reduceIte,reduceCtorEq,af,decide_true,decide_false,az]
 refine aH.intro fun b3 f3=>?_;have n3_2:=(ai f3).1
 try simp -dsimp only[go_sem,ak,aa,au,ae,↓reduceIte,reduceCtorEq,af,decide_true,decide_false,az]
 refine aH.intro fun b4 f4=>?_;have n4_3:=(ai f4).1;have n4_2:=(ai (ai f4).2).1;simp -dsimp only[go_sem];refine bM 6 kr ?_
 simp -dsimp only[go_sem,aa,ae,↓reduceIte,ab,ao n3_2,ao n4_2,ao n4_3,dF,bI,bC];refine⟨_,(lR ha hb om h0).pure',_,(lR hc hd om h1).pure',?_⟩;refine aH.intro fun b5 f5=>?_;have n5_4:=(ai f5).1;have n5_3:=(ai (ai f5).2).1;have n5_2:=(ai (ai (ai f5).2).2).1
 try simp -dsimp only[go_sem]
 refine aH.intro fun b6 f6=>?_;have n6_5:=(ai f6).1;have n6_4:=(ai (ai f6).2).1;have n6_3:=(ai (ai (ai f6).2).2).1;have n6_2:=(ai (ai (ai (ai f6).2).2).2).1;simp -dsimp only[go_sem,ak,aa,ae,↓reduceIte,nn n6_5,bG,aT,false_implies,implies_true];refine nJ 21 [[19]] kr ?_
 simp -dsimp only[go_sem,ak,aa,au,ae,↓reduceIte,ab,ao n6_5,ib,dF,bG,aT,false_implies,implies_true,bI,bC,eG,bW];refine⟨_,(gM n1 n4 om).pure',_,(gM n3 n2 om).pure',_,(qZ (n1.mul n4) (n3.mul n2) om).pure',_,(gM n2 n4 om).pure',_,(Ip (k:=k+k+1) ((n1.mul n4).add (n3.mul n2)) ((n2.mul n4).mono om) om (lL p1 p2)).pure',?_⟩;simp -dsimp only[go_sem];refine aH.intro fun b7 f7=>?_;have n7_6:=(ai f7).1;have n7_5:=(ai (ai f7).2).1;have n7_4:=(ai (ai (ai f7).2).2).1;have n7_3:=(ai (ai (ai (ai f7).2).2).2).1;have n7_2:=(ai (ai (ai (ai (ai f7).2).2).2).2).1;simp -dsimp only[go_sem,ak,aa,au,ae,↓reduceIte,ao n5_4,ao n6_4,ao n7_2,ib,bG,aT,false_implies,implies_true,bI,bC,eG,bW];exact VR.agg (by simp[oG])
theorem Jr{a b:Int}(h0:0<b):(rN a b*rD 1 2+rN 1 2*rD a b)/(rD a b*rD 1 2)=(2*a+b)/(2*b):=by
 have e1:rN 1 2=1:=by decide
 have e2:rD 1 2=2:=by decide
 have hp:=nY (a:=a) h0;have hr:=D9 (a:=a) (b:=b);rw[e1,e2];refine mD om om ?_
 grind
theorem DF{a b:Int}{k:Nat}(ha:nb a k)(hb:nb b k)(hk:k<=10000000)(hk2:4<=k)(h0:0<b):PF 169 [.agg [.big a,.big b]] (.big ((2*a+b)/(2*b))):=by
 refine PF.of_spec (aD func169 rfl 7 ntmps169 kr sm (by simp[results169]) ?_)
 rw[aQ,results169];have m1:nb 1 k:=nb.one om;have m2:nb 2 k:=di (by decide:2<2^2) (cg om om)
 have p1:=nY (a:=a) h0;have p2:0<rD 1 2:=by decide
 have n1:=vf h0 ha;have n2:=vg (a:=a) h0 hb;have n3:nb (rN 1 2) k:=vf dc m1
 have n4:nb (rD 1 2) k:=vg dc m2
 have q1:=((n1.mul n4).add (n3.mul n2));have q2:=((n2.mul n4).mono (om:k+k<=k+k+1))
 have hpos:=lL p1 p2;simp -dsimp only[go_sem,ak,bG,aT,false_implies,implies_true];refine aH.intro fun b1 f1=>?_
 try simp -dsimp only[go_sem,ak,aa,au,ae,↓reduceIte,reduceCtorEq,af,decide_true,decide_false,az]
 refine aH.intro fun b2 f2=>?_;have n2_1:=(ai f2).1;simp -dsimp only[go_sem];refine bM 4 kr ?_
 simp -dsimp only[go_sem,aa,ae,↓reduceIte,ab,ao n2_1,bJ,dF,bI,bC];refine⟨_,KA.pure',_,(MB ha hb m1 m2 om h0 dc).pure',_,(It (k:=k+k+1) (vf hpos q1) (vg hpos q2) om (nY hpos)).pure',?_⟩
 simp -dsimp only[go_sem];rw[mD (nY hpos) hpos D9,Jr h0];exact VR.mf rfl
theorem dO.cons{S:St}{x y:AV}{l r:List AV}(h:VA S x y)(hl:dO S l r):dO S (x::l) (y::r):=⟨h,hl⟩
theorem cG.blk{e es:Nat}{S0 S:St}{x:AV}{j:Nat}{g:Nat->AV}(h:cG e es S0 S x j g){d:Nat}(hd:dB x d):∃X,S d=some X:=by
 obtain⟨_,_,_,he⟩:=hd;rcases h.2 with⟨_,h1⟩|⟨c,_,h1,g',h2,_⟩
 ·rw[h1]at he;cases he
 ·rw[h1]at he;cases he;exact⟨_,h2⟩
theorem cG.keep{e es:Nat}{S0 S S':St}{x y:AV}{j:Nat}{g:Nat->AV}(h:cG e es S0 S y j g)(hE:eJ S0 S')(hk:∀d X,S d=some X->¬dB x d->S' d=some X)(hd:∀d,dB y d->¬dB x d):cG e es S0 S' y j g :=
 h.step hE (fun d hb=>by obtain⟨X,hX⟩:=h.blk hb;rw[hX];exact hk d X hX (hd d hb))
theorem sZ(n i j:Nat)(A:aW)(k0:Nat)(h1:j<=i)(h2:i<n)(h3:n<=16)(hA:∀i j,i<n->j<n->nb (A i j) k0)(hk:k0<=10000000):PF 171 [aZ n n A,.int .i64 i,.int .i64 j] (.big (jW A i j)):=by
 refine PF.of_spec (aD func171 rfl 34 ntmps171 kr sm (by simp[results171]) ?_)
 rw[aQ,results171]
 try simp -dsimp only[go_sem,ak]
 refine aH.intro fun b6 f6=>?_;simp -dsimp only[go_sem];refine aM (fun O S=>∃(a:Nat) (x y:AV),a<=j/\O 0=aZ n n A/\O 1=.int .i64 i/\O 2=.int .i64 j/\O 6=.ptr 2 b6 0/\O 7=x/\O 8=y/\O 9=.int .i64 a/\dl S b6 50 2 (.big 0)/\cG 3 1 St.none S x a (fun a=>.int .i64 a)/\cG 3 1 St.none S y a (fun a=>.int .i64 a)/\∀d,dB x d->¬dB y d) (fun O S=>j-ca (O 9)) ?_ ?_
 ·simp -dsimp only[go_sem,aa,reduceCtorEq];exact⟨0,om,rfl,dl.new rfl,cG.nil (eJ.noneS _) _,cG.nil (eJ.noneS _) _,fun d h=>by obtain⟨_,_,_,e⟩:=h;cases e⟩
 ·rintro O S ⟨a,x,y,ha,e0,e1,e2,e6,e7,e8,e9,V6,hX,hY,hXY⟩;obtain⟨g6,u6,v6⟩:=V6;have hx6:=hX.other u6 om;have hy6:=hY.other u6 om;by_cases hlt:a<j
  ·simp -dsimp only[go_sem,aa,↓reduceIte,reduceCtorEq,af,decide_true,e0,e1,e2,e7,e9,hlt];refine aH.intro fun b17 f17=>?_;simp -dsimp only[go_sem,aa,↓reduceIte,e7,e9];have hxb:=hX.fresh f17;have hyb:=hY.fresh f17;have h617:b6≠b17:=fun e=>by rw[<-e,u6]at f17;cases f17
   refine cG.app3 (hX.upd (by rfl) hxb _) om (show dI 1 (.int .i64 (a:Int)) by simp[dI]) (bH ⟨_,_,_,rfl,bZ,rfl,fun h=>hxb _ h rfl⟩) ?_
   intro c S2 hX2 hk1 hk3;have u62:=hk1 b6 _ (by rw[aP h617];exact u6) hx6
   have hY2:cG 3 1 St.none S2 y a (fun a=>.int .i64 a):=(hY.upd (by rfl) hyb _).keep (eJ.noneS _) hk1 (fun d hd hd2=>hXY d hd2 hd)
   have hcy:¬dB y c:=by
    intro hc;rcases hk3 with h|h
    ·exact hXY c h hc
    ·obtain⟨X,hX'⟩:=hY.blk hc;rw[aP (hyb c hc),hX']at h;cases h
   simp -dsimp only[go_sem,aa,reduceCtorEq,e7,e8,e9];refine aH.intro fun b21 f21=>?_;simp -dsimp only[go_sem,aa,↓reduceIte,e8,e9];have hxb2:=hX2.fresh f21;have hyb2:=hY2.fresh f21;have h621:b6≠b21:=fun e=>by rw[<-e,u62]at f21;cases f21
   refine cG.app3 (hY2.upd (by rfl) hyb2 _) om (show dI 1 (.int .i64 (a:Int)) by simp[dI]) (bH ⟨_,_,_,rfl,bZ,rfl,fun h=>hyb2 _ h rfl⟩) ?_
   intro c2 S3 hY3 hk4 hk6;have u63:=hk4 b6 _ (by rw[aP h621];exact u62) hy6
   have hX3:=(hX2.upd (by rfl) hxb2 _).keep (eJ.noneS _) hk4 (fun d hd hd2=>by rw[ez]at hd;rw[hd]at hd2;exact hcy hd2)
   simp -dsimp only[go_sem,aa,reduceCtorEq,e0,e1,e2,e6,e8,e9,a6 (om:a<1000000),ca]
   refine⟨⟨a+1,om,rfl,⟨g6,u63,v6⟩,hX3.congr fun a ha=>by grind,hY3.congr fun a ha=>by grind,fun d hd hd2=>?_⟩,om⟩
   rw[ez]at hd hd2;subst hd;subst hd2;rcases hk6 with h|h
   ·exact hcy h
   ·obtain⟨X,hX'⟩:=hX2.blk (ez.2 rfl);rw[aP (hxb2 _ (ez.2 rfl)),hX']at h;cases h
  ·obtain rfl:a=j:=om
   simp -dsimp only[go_sem,aa,↓reduceIte,reduceCtorEq,af,decide_false,e0,e1,e2,e7,e9,hlt];refine aH.intro fun b17 f17=>?_;simp -dsimp only[go_sem,aa,↓reduceIte,reduceCtorEq,e0,e1,e7];have hxb:=hX.fresh f17;have hyb:=hY.fresh f17;have h617:b6≠b17:=fun e=>by rw[<-e,u6]at f17;cases f17
   refine cG.app3 (hX.upd (by rfl) hxb _) om (show dI 1 (.int .i64 (i:Int)) by simp[dI]) (bH ⟨_,_,_,rfl,bZ,rfl,fun h=>hxb _ h rfl⟩) ?_
   intro c S2 hX2 hk1 hk3;have u62:=hk1 b6 _ (by rw[aP h617];exact u6) hx6
   have hY2:cG 3 1 St.none S2 y a (fun a=>.int .i64 a):=(hY.upd (by rfl) hyb _).keep (eJ.noneS _) hk1 (fun d hd hd2=>hXY d hd2 hd)
   have hcy:¬dB y c:=by
    intro hc;rcases hk3 with h|h
    ·exact hXY c h hc
    ·obtain⟨X,hX'⟩:=hY.blk hc;rw[aP (hyb c hc),hX']at h;cases h
   simp -dsimp only[go_sem,aa,reduceCtorEq,e0,e1,e2,e7,e8];refine aH.intro fun b21 f21=>?_;simp -dsimp only[go_sem,aa,↓reduceIte,reduceCtorEq,e0,e1,e2,e7,e8];have hxb2:=hX2.fresh f21;have hyb2:=hY2.fresh f21;have h621:b6≠b21:=fun e=>by rw[<-e,u62]at f21;cases f21
   refine cG.app3 (hY2.upd (by rfl) hyb2 _) om (show dI 1 (.int .i64 (a:Int)) by simp[dI]) (bH ⟨_,_,_,rfl,bZ,rfl,fun h=>hyb2 _ h rfl⟩) ?_
   intro c2 S3 hY3 hk4 hk6;have u63:=hk4 b6 _ (by rw[aP h621];exact u62) hy6
   have hX3:=(hX2.upd (by rfl) hxb2 _).keep (eJ.noneS _) hk4 (fun d hd hd2=>by rw[ez]at hd;rw[hd]at hd2;exact hcy hd2)
   simp -dsimp only[go_sem,aa,ae,reduceCtorEq,ab,e0,e1,e2,e7,e8];have hF:∀c,c<a+1->fst a i c<n:=fun c hc=>by unfold fst;split<;>omega
   have hF2:∀c,c<a+1->fst a a c<n:=fun c hc=>by unfold fst;split<;>omega
   have vx:VR S3 (.sl 1 c 0 (a+1)) (bO (a+1) (fun q=>(fst a i q:Nat))):=hX3.vr (fun q hq=>by
    have:(if q=a then AV.int .i64 (i:Int)else .int .i64 (q:Int))=.int .i64 ((fst a i q:Nat):Int):=by
     unfold fst;by_cases e:q=a
     ·subst e;simp
     ·rw[if_neg e,if_pos om]
    rw[this];exact VR.mf rfl)
   have vy:VR S3 (.sl 1 c2 0 (a+1)) (bO (a+1) (fun q=>(fst a a q:Nat))):=hY3.vr (fun q hq=>by
    have:(if q=a then AV.int .i64 (a:Int)else .int .i64 (q:Int))=.int .i64 ((fst a a q:Nat):Int):=by
     unfold fst;by_cases e:q=a
     ·subst e;simp
     ·rw[if_neg e,if_pos om]
    rw[this];exact VR.mf rfl)
   refine(yR n n (a+1) (a+1) A (fst a i) (fst a a) om om om om hF hF2).pf.spec (dO.same (dO.cons vx.va (dO.cons vy.va dO.nil))) ?_;simp -dsimp only[go_sem,aa,ae,reduceCtorEq,ab,e0,e1,e2,e7,e8];refine(gL (a+1) _ k0 om om (fun p q hp hq=>hA _ _ (hF p hp) (hF2 q hq)) hk).call ?_;simp -dsimp only[go_sem,aa,ae,↓reduceIte,reduceCtorEq,ab,e0,e1,e2,e6,e7,e8,u63,bJ];have hd:=EF A a (i-a) 0;simp only[(om:a+(i-a)=i),dd]at hd
   rw[hd];exact VR.mf rfl
theorem nA(n k:Nat)(A:aW)(hn:n<=16)(hk:k<=n):PF 172 [bn n (fun k=>det (k+1) A),.int .i64 k] (.big (det k A)):=by
 refine PF.of_spec (aD func172 rfl 13 ntmps172 kr sm (by simp[results172]) ?_)
 rw[aQ,results172]
 try simp -dsimp only[go_sem,ak]
 refine aH.intro fun b4 f4=>?_;by_cases h0:k=0
 ·subst h0;simp -dsimp only[go_sem,aa,ae,↓reduceIte,reduceCtorEq,ab,show((0:Nat):Int)=0 from rfl,beq_self_eq_true];refine(eK dc dc).call ?_
  simp -dsimp only[go_sem,aa,ae,↓reduceIte,ab,bJ];exact VR.mf rfl
 ·obtain⟨m,rfl⟩:∃m,k=m+1:=⟨k-1,om⟩
  have hb:(((m+1:Nat):Int)==0)=false:=by simp;omega
  have hw:IntKind.i64.wrap (((m+1:Nat):Int)-1)=(m:Nat):=dK om om;simp -dsimp only[go_sem,aa,ae,↓reduceIte,reduceCtorEq,af,ab,hb,hw,bn,(om:m<n),bJ]
  exact VR.mf rfl
theorem Ae{a b:Int}:decide (md a b<=0)=decide (a<=b):=by
 unfold md;rcases iP a b with h|h|h
 ·rw[if_pos h];simp;omega
 ·subst h;simp
 ·rw[if_neg om,if_pos h];simp;omega
theorem J6{a b:Int}:decide (0<=md a b)=decide (b<=a):=by
 unfold md;rcases iP a b with h|h|h
 ·rw[if_pos h];simp;omega
 ·subst h;simp
 ·rw[if_neg om,if_pos h];simp;omega
theorem mB{n:Nat}{A:aW}{k0 k:Nat}(h3:n<=16)(hA:∀i j,i<n->j<n->nb (A i j) k0)(hk:k<=n):nb (det k A) (17*(k0+10)) :=
 (qE k A om (fun a b ha hb=>hA a b om om)).mono (by have:k*(k0+10)<=16*(k0+10):=bY _ om;omega)
theorem C2{n:Nat}{A:aW}{k0 i j:Nat}(h3:n<=16)(hA:∀i j,i<n->j<n->nb (A i j) k0)(h1:j<=i)(h2:i<n):nb (jW A i j) (17*(k0+10)):=by
 unfold jW;refine(qE (j+1) _ om (fun a b ha hb=>hA _ _ ?_ ?_)).mono (by have:(j+1)*(k0+10)<=16*(k0+10):=bY _ om;omega)
 ·rw[pX];split<;>omega
 ·rw[pX];split<;>omega
theorem Ci(n i j:Nat)(A:aW)(k0:Nat)(h1:j<i)(h2:i<n)(h3:n<=16)(hA:∀i j,i<n->j<n->nb (A i j) k0)(hk:k0<=10000000):PF 119 [aZ n n A,bn n (fun k=>det (k+1) A),.int .i64 i,.int .i64 j] (.bool (decide (2*((jW A i j).natAbs:Int)<=det (j+1) A))):=by
 refine PF.of_spec (aD func119 rfl 22 ntmps119 kr sm (by simp[results119]) ?_)
 rw[aQ,results119];have hl:=C2 h3 hA (dw h1) h2;have hla:nb ((jW A i j).natAbs:Int) (17*(k0+10)):=nb.of_le sm hl
 have hd:=mB (k:=j+1) h3 hA om;have h2':nb 2 (17*(k0+10)):=di (by decide:2<2^2) (cg om om)
 simp -dsimp only[go_sem,ak,aa,ae,ab];refine(eK dc dc).call ?_
 simp -dsimp only[go_sem,aa,ae,reduceCtorEq,ab];refine(sZ n i j A k0 (dw h1) h2 h3 hA hk).call ?_;simp -dsimp only[go_sem,aa,ae,reduceCtorEq,ab];refine(zK hl om).call ?_;simp -dsimp only[go_sem,aa,ae,reduceCtorEq,ab];refine(gM h2' hla om).call ?_;simp -dsimp only[go_sem,aa,ae,reduceCtorEq,ab,a6 (om:j<1000000)]
 refine(nA n (j+1) A h3 om).call ?_;simp -dsimp only[go_sem,aa,ae,reduceCtorEq,ab];refine(nX (h2'.mul hla) (hd.mono om) om).call ?_;simp -dsimp only[go_sem,aa,reduceCtorEq,Ae];exact VR.mf rfl
theorem yh(n:Nat)(A:aW)(k0:Nat)(h1:1<=n)(h2:n<=16)(hA:∀i j,i<n->j<n->nb (A i j) k0)(hk:k0<=10000000):PF 57 [aZ n n A] (.bool (decide (det n A<=10000))):=by
 refine PF.of_spec (aD func57 rfl 8 ntmps57 kr sm (by simp[results57]) ?_)
 rw[aQ,results57];have hd:=mB (k:=n) h2 hA (ah _);have h3:nb 10000 (17*(k0+10)):=di (by decide:10000<2^14) (cg om om)
 simp -dsimp only[go_sem,aa,ae,reduceCtorEq,ab];refine(gL n A k0 h1 h2 hA hk).call ?_;simp -dsimp only[go_sem,aa,ae,reduceCtorEq,ab];refine(eK dc dc).call ?_
 simp -dsimp only[go_sem,aa,ae,reduceCtorEq,ab];refine(nX hd h3 om).call ?_;simp -dsimp only[go_sem,reduceCtorEq,Ae];exact VR.mf rfl
theorem sf(n:Nat)(A T:aW)(k:Nat)(h1:1<=n)(h2:n<=16)(hA:∀i j,i<n->j<n->nb (A i j) k)(hT:∀i j,i<n->j<n->nb (T i j) k)(hk:k<=100000000):MF 113 [aZ n n A,aZ n n T] n n (ms n (ms n (fun i j=>T j i) A) T):=by
 refine MF.of (aD func113 rfl 17 ntmps113 kr sm (by simp[results113]) ?_)
 rw[aQ,results113];have hP:∀i j,i<n->j<n->nb (ms n (fun i j=>T j i) A i j) (k+k+10):=fun i j hi hj=>vF (fun q hq=>(hT q i hq hi).mul (hA q j hq hj)) om n (ah _);simp -dsimp only[go_sem,ak,aa,ae,reduceCtorEq,ab];refine(rQ n n T k h1 h2 h1 h2 hT om).pf.call ?_;simp -dsimp only[go_sem,aa,ae,reduceCtorEq,ab];refine(ow n n n (fun i j=>T j i) A k h1 h2 h1 h2 h1 h2 (fun i j hi hj=>hT j i hj hi) hA om).pf.call ?_;simp -dsimp only[go_sem,aa,ae,reduceCtorEq,ab];refine(ow n n n _ T (k+k+10) h1 h2 h1 h2 h1 h2 hP (fun i j hi hj=>(hT i j hi hj).mono om) om _ _ (cH _ _)).mono ?_;rintro r S1 ⟨b,g,rfl,hZ⟩;simp -dsimp only[go_sem,aa,reduceCtorEq];exact⟨b,rfl,g,hZ.1⟩
theorem BA{z:Int}{k:Nat}(h:z.natAbs<16)(hk:4<=k):nb z k:=di h (by have:=cg (n:=2) om hk;omega)
theorem yV(n i:Nat)(A:aW)(k0:Nat)(h1:0<i)(h2:i<n)(h3:n<=16)(hA:∀i j,i<n->j<n->nb (A i j) k0)(hk:k0<=10000000):PF 120 [aZ n n A,bn n (fun k=>det (k+1) A),.int .i64 i] (.bool (decide (3*(det i A*det i A)<=4*(det (i-1) A*det (i+1) A+jW A i (i-1)*jW A i (i-1))))):=by
 refine PF.of_spec (aD func120 rfl 41 ntmps120 kr sm (by simp[results120]) ?_)
 rw[aQ,results120];obtain⟨m,rfl⟩:∃m,i=m+1:=⟨i-1,om⟩
 rw[Nat.add_sub_cancel];have hw:IntKind.i64.wrap (((m+1:Nat):Int)-1)=(m:Nat):=dK om om;have hl:=C2 (i:=m+1) (j:=m) h3 hA om h2;have d0:=mB (k:=m) h3 hA om;have d1:=mB (k:=m+1) h3 hA om;have d2:=mB (k:=m+1+1) h3 hA om;have c4:nb 4 (17*(k0+10)+17*(k0+10)+1):=BA dc om
 have c3:nb 3 (17*(k0+10)+17*(k0+10)):=BA dc om
 have s1:=(d0.mul d2).add (hl.mul hl);simp -dsimp only[go_sem,ak,aa,ae,reduceCtorEq,ab,hw];refine(sZ n (m+1) m A k0 om h2 h3 hA hk).call ?_;simp -dsimp only[go_sem];refine aH.intro fun b7 f7=>?_;simp -dsimp only[go_sem,aa,ae,↓reduceIte,reduceCtorEq,ab,hw];refine bM 16 kr ?_
 simp -dsimp only[go_sem,aa,ae,↓reduceIte,reduceCtorEq,ab,hw,a6 (om:m+1<1000000),bJ]
 refine⟨_,(eK dc dc).pure',_,(nA n m A h3 om).pure',_,(nA n (m+1+1) A h3 om).pure',_,(gM d0 d2 om).pure',_,(gM hl hl om).pure',_,(qZ (d0.mul d2) (hl.mul hl) om).pure',_,(gM c4 s1 om).pure',?_⟩
 refine aH.intro fun b8 f8=>?_;have n8_7:=(ai f8).1;simp -dsimp only[go_sem,aa,ae,↓reduceIte];refine bM 13 kr ?_
 simp -dsimp only[go_sem,aa,ae,↓reduceIte,reduceCtorEq,ab,bJ];refine⟨_,(eK dc dc).pure',_,(nA n (m+1) A h3 om).pure',_,(nA n (m+1) A h3 om).pure',_,(gM d1 d1 om).pure',_,(gM c3 (d1.mul d1) om).pure',_,(nX (c4.mul s1) ((c3.mul (d1.mul d1)).mono om) om).pure',?_⟩
 simp -dsimp only[go_sem,J6];exact VR.mf rfl
theorem D4{a:Int}:decide (a.sign<=0)=decide (a<=0):=by
 rcases iP a 0 with h|h|h
 ·rw[iw h];simp;omega
 ·subst h;simp
 ·rw[cU h];simp;omega
theorem Cq(n:Nat)(A:aW)(k0:Nat)(h1:1<=n)(h2:n<=16)(hA:∀i j,i<n->j<n->nb (A i j) k0)(hk:k0<=10000000)(hs:∀a b,a<n->b<n->A a b=A b a)(β:Bool)(hβ:β=true↔∀k,k<=n->0<det k A):PF 117 [aZ n n A] (.bool β):=by
 refine PF.of_spec (aD func117 rfl 29 ntmps117 kr sm (by simp[results117]) ?_)
 rw[aQ,results117];simp -dsimp only[go_sem,aa,ae,reduceCtorEq,ab];refine(qF n A k0 h1 h2 hA hk).call ?_;simp -dsimp only[go_sem,aa,ae,reduceCtorEq,ab,bn];refine(qV n A k0 h2 hA hk hs).call ?_;simp -dsimp only[go_sem,aa,reduceCtorEq];refine aM (fun O S=>∃i:Nat,i<=n/\O 19=bn n (fun k=>det (k+1) A)/\O 20=.int .i64 n/\O 21=.int .i64 i/\∀k,k<=i->0<det k A) (fun O S=>n-ca (O 21)) ?_ ?_
 ·simp -dsimp only[go_sem,aa,bn];exact⟨0,om,rfl,fun k hk=>by rw[(om:k=0)];simp[det]⟩
 ·rintro O S ⟨i,hi,e19,e20,e21,hp⟩;by_cases hlt:i<n
  ·have hd:=mB (k:=i+1) h2 hA om;simp -dsimp only[go_sem,aa,↓reduceIte,af,decide_true,bn,e19,e20,e21,hlt];refine aH.intro fun b6 f6=>?_;simp -dsimp only[go_sem,aa,ae,↓reduceIte,ab,bJ];refine(il hd om).call ?_;by_cases h0:det (i+1) A<=0
   ·simp -dsimp only[go_sem,aa,↓reduceIte,decide_true,bn,e19,e20,e21,D4,h0];have:β=false:=by
     cases β with
     | false=>rfl
     | true=>have:=hβ.1 rfl (i+1) om;omega
    rw[this];exact VR.mf rfl
   ·simp -dsimp only[go_sem,aa,↓reduceIte,decide_false,bn,e19,e20,e21,D4,h0,a6 (om:i<1000000),ca]
    refine⟨⟨i+1,om,rfl,fun k hk=>?_⟩,om⟩
    by_cases e:k=i+1
    ·rw[e];omega
    ·exact hp k om
  ·obtain rfl:i=n:=om
   simp -dsimp only[go_sem,aa,↓reduceIte,af,decide_false,bn,e19,e20,e21,hlt];have:β=true:=hβ.2 hp;rw[this];exact VR.mf rfl
theorem mG(n:Nat)(A:aW)(k0:Nat)(h1:1<=n)(h2:n<=8)(hA:∀i j,i<n->j<n->nb (A i j) k0)(hk:k0<=10000000)(hs:∀a b,a<n->b<n->A a b=A b a)(β:Bool)(hβ:β=true↔∀k,k<=n->0<det k A):PF 56 [aZ n n A] (.int .i64 (if β then 0 else 5)):=by
 refine PF.of_spec (aD func56 rfl 25 ntmps56 kr sm (by simp[results56]) ?_)
 rw[aQ,results56];simp -dsimp only[go_sem,aa,ae,reduceCtorEq,ab];refine(yg n A h1 om).call ?_;simp -dsimp only[go_sem,aa,ae,reduceCtorEq,decide_false,ab,(om:¬((8:Int)<n))]
 refine(qV n A k0 om hA hk hs).call ?_;simp -dsimp only[go_sem,aa,ae,reduceCtorEq,ab];refine(Cq n A k0 h1 om hA hk hs β hβ).call ?_
 cases β
 ·simp -dsimp only[go_sem,↓reduceIte,reduceCtorEq];exact VR.mf rfl
 ·simp -dsimp only[go_sem,↓reduceIte,reduceCtorEq];exact VR.mf rfl
inductive Ev where
 | size (i j:Nat)
 | swap (i:Nat)
 | done
def AD(A:aW)(n:Nat):Ev->Prop
 | .size i j=>j<i/\i<n/\lA A i/\(∀j',j<j'->j'<i->gE A i j')/\¬gE A i j
 | .swap i=>0<i/\i<n/\lA A i/\(∀j',j'<i->gE A i j')/\¬jc A i
 | .done=>lA A n
def jd(n:Nat):Ev->Nat
 | .size i _=>i
 | .swap i=>i
 | .done=>n
def LZ(A:aW)(i j:Nat):Int:=- ((2*jW A i j+det (j+1) A)/(2*det (j+1) A))
def Gd(A:aW):Ev->aW
 | .size i j=>eE nQ j i (LZ A i j)
 | .swap i=>fun a b=>nQ (dU (i-1) i a) b
 | .done=>nQ
def evV(n:Nat)(A:aW)(ev:Ev):AV:=match ev with
 | .done=>.tup [.nil,.bool false]
 | e=>.tup [aZ n n (Gd A e),.bool true]
theorem AD.ok{A:aW}{n:Nat}{ev:Ev}(h:AD A n ev):lA A (jd n ev)/\jd n ev<=n:=by
 cases ev with
 | size i j=>exact⟨h.2.2.1,dw h.2.1⟩
 | swap i=>exact⟨h.2.2.1,dw h.2.1⟩
 | done=>exact⟨h,ah _⟩
theorem JG(A:aW)(n:Nat):∃ev,AD A n ev:=by
 have key:∀i,i<=n->lA A i∨∃ev,AD A n ev:=by
  intro i
  induction i with
  | zero=>intro _;exact bQ ⟨fun r hr=>om,fun r _ hr=>om⟩
  | succ i ih =>
   intro hi;rcases ih om with h|h
   ·have row:∀t,t<=i->(∀j',i-t<=j'->j'<i->gE A i j')∨∃ev,AD A n ev:=by
     intro t
     induction t with
     | zero=>intro _;exact bQ (fun j' h1 h2=>om)
     | succ t iht =>
      intro ht;rcases iht om with h1|h1
      ·rcases eH (gE A i (i-(t+1)))with h2|h2
       ·refine bQ (fun j' h3 h4=>?_);by_cases e:j'=i-(t+1)
        ·rw[e];exact h2
        ·exact h1 j' om h4
       ·exact bH ⟨.size i (i-(t+1)),om,om,h,fun j' h3 h4=>h1 j' om h4,h2⟩
      ·exact bH h1
    rcases row i (ah _)with h1|h1
    ·have hs:∀j',j'<i->gE A i j':=fun j' hj=>h1 j' om hj;rcases bU i with h0|h0
     ·refine bQ ⟨fun r hr j hj=>?_,fun r h2 hr=>om⟩
      omega
     ·rcases eH (jc A i)with h2|h2
      ·refine bQ ⟨fun r hr j hj=>?_,fun r h3 hr=>?_⟩
       ·by_cases e:r=i
        ·rw[e]at hj ⊢;exact hs j hj
        ·exact h.1 r om j hj
       ·by_cases e:r=i
        ·rw[e];exact h2
        ·exact h.2 r h3 om
      ·exact bH ⟨.swap i,h0,om,h,hs,h2⟩
    ·exact bH h1
   ·exact bH h
 rcases key n (ah _)with h|h
 ·exact⟨.done,h⟩
 ·exact h
theorem cZ.swap'{S:St}{b:Nat}{g:Nat->Nat}{n m:Nat}{A:Nat->Nat->Int}(h:cZ S b g n m A){p k:Nat}(hp:p<n)(hk:k<n)(hpk:p≠k){g1:Nat->AV}(hS:S b=some ⟨59,1,n,g1⟩) :
  cZ ((S.upd b ⟨59,1,n,bJ g1 p (.sl 2 (g k) 0 m)⟩).upd b ⟨59,1,n,bJ (bJ g1 p (.sl 2 (g k) 0 m)) k (.sl 2 (g p) 0 m)⟩) b (fun i=>g (dU k p i)) n m (fun i j=>A (dU k p i) j):=by
 rw[kZ];exact h.swap hp hk hpk hS
theorem zy(n:Nat)(A:aW)(k0:Nat)(h1:1<=n)(h2:n<=8)(hA:∀i j,i<n->j<n->nb (A i j) k0)(hk:k0<=500000)(hpos:∀k,k<=n->0<det k A)(ev:Ev)(hf:AD A n ev):PF 112 [aZ n n A] (evV n A ev):=by
 refine PF.of_spec (aD func112 rfl 83 ntmps112 kr sm (by simp[results112]) ?_)
 rw[aQ,results112];obtain⟨hrow,hrn⟩:=hf.ok;simp -dsimp only[go_sem,aa,ae,reduceCtorEq,ab];refine(qF n A k0 h1 om hA om).call ?_;simp -dsimp only[go_sem,aa,ae,reduceCtorEq,ab,aZ];refine(pB n h1 om _ _ (cH _ _)).mono ?_;rintro r S1 ⟨b,g,rfl,hM⟩;simp -dsimp only[go_sem,aa,reduceCtorEq];refine aM (fun O S=>∃i:Nat,i<=jd n ev/\O 0=aZ n n A/\O 4=bn n (fun k=>det (k+1) A)/\O 6=.sl 1 b 0 n/\O 22=.int .i64 n/\O 23=.int .i64 i/\S=S1) (fun O S=>n-ca (O 23)) ?_ ?_
 ·simp -dsimp only[go_sem,aa,reduceCtorEq,aZ,bn];exact⟨0,om,rfl⟩
 ·rintro O S ⟨i,hi,e0,e4,e6,e22,e23,rfl⟩;by_cases hlt:i<n
  ·have hw:IntKind.i64.wrap ((i:Int)-1)=(i:Int)-1:=i64_in om om;simp -dsimp only[go_sem,aa,↓reduceIte,af,decide_true,e22,e23,hlt,hw];refine aM (fun O S'=>∃jj:Nat,jj<=i/\(∀j',jj<=j'->j'<i->gE A i j')/\(∀j,ev=.size i j->j<jj)/\O 0=aZ n n A/\O 4=bn n (fun k=>det (k+1) A)/\O 6=.sl 1 b 0 n/\O 8=.int .i64 i/\O 9=.int .i64 ((jj:Int)-1)/\O 22=.int .i64 n/\O 23=.int .i64 i/\S'=S) (fun O S=>match O 9 with|.int _ z=>(z+1).toNat|_=>0) ?_ ?_
   ·simp -dsimp only[go_sem,aa,reduceCtorEq,e0,e4,e6,e22,e23];refine⟨i,om,fun j' h3 h4=>om,fun j hj=>?_,rfl⟩
    subst hj;exact hf.1
   ·rintro O S' ⟨jj,hjj,hsz,hev,e0,e4,e6,e8,e9,e22,e23,rfl⟩;rcases bU jj with h0|h0
    ·subst h0;have hall:∀j',j'<i->gE A i j':=fun j' hj=>hsz j' om hj;have hns:∀j,ev≠.size i j:=fun j hj=>by have:=hev j hj;omega
     have hc:¬((0:Int)<=((0:Nat):Int)-1):=om
     rcases bU i with hi0|hi0
     ·subst hi0;have hne:(0:Nat)≠jd n ev:=fun e=>by
       cases ev with
       | size a c=>have:=hf.1;simp only[jd]at e;omega
       | swap a=>have:=hf.1;simp only[jd]at e;omega
       | done=>simp only[jd]at e;omega
      simp -dsimp only[go_sem,aa,ae,↓reduceIte,reduceCtorEq,decide_false,ab,e0,e4,e6,e8,e9,e22,e23,show((0:Nat):Int)=0 from rfl,Int.lt_irrefl,show IntKind.i64.wrap ((0:Int)+1)=1 from rfl,ca];refine⟨⟨1,om,rfl⟩,?_⟩
      simp;omega
     ·have hi0':(0:Int)<(i:Int):=om
      simp -dsimp only[go_sem,aa,ae,↓reduceIte,reduceCtorEq,decide_true,decide_false,ab,e0,e4,e8,e9,hc,hi0'];refine(yV n i A k0 hi0 hlt om hA om).call ?_;by_cases hl:jc A i
      ·have hl':decide (3*(det i A*det i A)<=4*(det (i-1) A*det (i+1) A+jW A i (i-1)*jW A i (i-1)))=true:=by simpa [jc]using hl
       rw[hl'];simp -dsimp only[go_sem,aa,reduceCtorEq,decide_true,e0,e4,e6,e8,e22,e23,hi0',a6 (om:i<1000000),ca]
       have hne:i≠jd n ev:=fun e=>by
        cases ev with
        | size a c=>simp only[jd]at e;subst e;exact hns c rfl
        | swap a=>simp only[jd]at e;subst e;exact hf.2.2.2.2 hl
        | done=>simp only[jd]at e;omega
       exact⟨⟨i+1,om,rfl⟩,om⟩
      ·have hl':decide (3*(det i A*det i A)<=4*(det (i-1) A*det (i+1) A+jW A i (i-1)*jW A i (i-1)))=false:=by simpa [jc]using hl
       rw[hl'];have hev2:ev=.swap i:=by
        have hie:i=jd n ev:=by
         rcases aI i (jd n ev)with h|h
         ·exact absurd (hrow.2 i hi0 h) hl
         ·omega
        cases ev with
        | size a c=>simp only[jd]at hie;subst hie;exact absurd rfl (hns c)
        | swap a=>simp only[jd]at hie;rw[hie]
        | done=>simp only[jd]at hie;omega
       subst hev2;obtain⟨m,rfl⟩:∃m,i=m+1:=⟨i-1,om⟩
       have hw3:IntKind.i64.wrap (((m+1:Nat):Int)-1)=(m:Nat):=dK om om;have hmn:m<n:=om
       obtain⟨g1,u1,v1⟩:=hM.1.outer;have w1:g1 (m+1)=.sl 2 (g (m+1)) 0 n:=v1 (m+1) hlt;have w2:g1 m=.sl 2 (g m) 0 n:=v1 m hmn;simp -dsimp only[go_sem,aa,reduceCtorEq,decide_true,e0,e4,e6,e8,e22,e23,hi0'];refine eL 15 [[2,3,4]] kr ?_
       simp -dsimp only[go_sem,aa,↓reduceIte,reduceCtorEq,af,ab,e6,e8,hlt,hw3,u1,w1,w2,hmn];have hM2:=hM.1.swap' (p:=m+1) (k:=m) hlt hmn om u1;exact VR.tup2 (hM2.vr) (VR.mf rfl)
    ·obtain⟨j,rfl⟩:∃j,jj=j+1:=⟨jj-1,om⟩
     have e9':O 9=.int .i64 (j:Int):=by rw[e9];congr 1;omega
     clear e9;simp -dsimp only[go_sem,aa,ae,↓reduceIte,reduceCtorEq,decide_true,ab,e0,e4,e6,e8,e9',e22,e23];refine(Ci n i j A k0 om hlt om hA om).call ?_;by_cases hs:gE A i j
     ·have hs':decide (2*((jW A i j).natAbs:Int)<=det (j+1) A)=true:=by simpa [gE]using hs
      rw[hs'];have hw2:IntKind.i64.wrap ((j:Int)-1)=(j:Int)-1:=i64_in om om;simp -dsimp only[go_sem,aa,reduceCtorEq,e0,e4,e6,e8,e9',e22,e23,hw2];refine⟨⟨j,om,fun j' h3 h4=>?_,fun c hc=>?_,rfl⟩,om⟩
      ·by_cases e:j'=j
       ·rw[e];exact hs
       ·exact hsz j' om h4
      ·have h3:=hev c hc;have h4:c≠j:=fun e=>by
        subst e;subst hc;exact hf.2.2.2.2 hs
       omega
     ·have hs':decide (2*((jW A i j).natAbs:Int)<=det (j+1) A)=false:=by simpa [gE]using hs
      rw[hs'];have hev2:ev=.size i j:=by
       have hie:i=jd n ev:=by
        rcases aI i (jd n ev)with h|h
        ·exact absurd (hrow.1 i h j om) hs
        ·omega
       cases ev with
       | size a c =>
        simp only[jd]at hie;subst hie;have h3:=hev c rfl;rcases aI c j with h4|h4
        ·exact absurd (hf.2.2.2.1 j h4 om) hs
        ·rw[(om:c=j)]
       | swap a=>simp only[jd]at hie;subst hie;exact absurd (hf.2.2.2.1 j om) hs
       | done=>simp only[jd]at hie;omega
      subst hev2;have hjn:j<n:=om
      have hlam:=C2 (n:=n) (i:=i) (j:=j) om hA om hlt;have hd:=mB (k:=j+1) (n:=n) om hA om;have hdp:=hpos (j+1) om;have hnear:(2*rN (jW A i j) (det (j+1) A)+rD (jW A i j) (det (j+1) A))/(2*rD (jW A i j) (det (j+1) A))=(2*jW A i j+det (j+1) A)/(2*det (j+1) A):=by
       have hp:=nY (a:=jW A i j) hdp;have hr:=D9 (a:=jW A i j) (b:=det (j+1) A);refine mD om om ?_
       grind
      have hnq:nb ((2*jW A i j+det (j+1) A)/(2*det (j+1) A)) (17*(k0+10)+1+1):=by
       have h5:nb (2*jW A i j) (17*(k0+10)+1):=by
        have:2*jW A i j=jW A i j+jW A i j:=om
        rw[this];exact hlam.add hlam
       exact nb.of_le (Int.natAbs_ediv_le_natAbs ..) (h5.add (hd.mono om))
      obtain⟨g1,u1,v1⟩:=hM.1.outer;obtain⟨g2,u2,v2⟩:=hM.1.row j hjn;have w1:=v1 j hjn;simp -dsimp only[go_sem,aa,reduceCtorEq,e0,e4,e6,e8,e9',e22,e23];refine bM 17 kr ?_
      simp -dsimp only[go_sem,aa,ae,↓reduceIte,reduceCtorEq,af,ab,e0,e4,e6,e8,e9',hlt,hjn,u1,u2,w1,a6 (om:j<1000000)]
      refine⟨_,(sZ n i j A k0 om hlt om hA om).pure',_,(nA n (j+1) A om om).pure',_,(Cj hlam hd om hdp).pure',_,(DF (k:=17*(k0+10)) (vf hdp hlam) (vg hdp hd) om om (nY hdp)).pure',_,(D8 (k:=17*(k0+10)+1+1) (by rw[hnear];exact hnq) om).pure',?_⟩
      rw[hnear];simp -dsimp only[go_sem];exact VR.tup2 ((hM.1.set hjn u2).vr) (VR.mf rfl)
  ·obtain rfl:i=n:=om
   simp -dsimp only[go_sem,aa,↓reduceIte,af,decide_false,e22,e23,hlt]
   cases ev with
   | size a c=>have:=hf.2.1;simp only[jd]at hi;omega
   | swap a=>have:=hf.2.1;simp only[jd]at hi;omega
   | done=>exact VR.tup2 (VR.mf rfl) (VR.mf rfl)
theorem yd{n i j a:Nat}{q:Int}{f:Nat->Int}(hij:j≠i)(hj:j<n)(ha:a<n):aE n (fun c=>eE nQ j i q c a*f c)=f a+(if a=i then q*f j else 0):=by
 have e:aE n (fun c=>eE nQ j i q c a*f c)=aE n (fun c=>nQ c a*f c+(if c=j then(if a=i then q*f j else 0)else 0)):=aK fun c _=>by
  simp only[eE,nQ];by_cases h1:c=j
  ·subst h1;by_cases h2:a=i
   ·subst h2;simp[hij]
   ·simp[h2]
  ·simp[h1]
 rw[e,dX,cp a ha (fun c _ hc=>by simp[nQ,hc]),cp j hj (fun c _ hc=>by simp[hc])]
 simp[nQ]
theorem yc{n p a:Nat}{f:Nat->Int}(hp:0<p)(hpn:p<n)(ha:a<n):aE n (fun c=>nQ (dU (p-1) p c) a*f c)=f (dU (p-1) p a):=by
 have hs:dU (p-1) p a<n:=by unfold dU;split<;>(try split)<;>omega
 have hss:dU (p-1) p (dU (p-1) p a)=a:=by unfold dU;grind
 rw[cp (dU (p-1) p a) hs (fun c _ hc=>?_)]
 ·simp[nQ,hss]
 ·have:dU (p-1) p c≠a:=fun e=>hc (by rw[<-e];unfold dU;grind)
  simp[nQ,this]
theorem Dn{n i j a b:Nat}{A:aW}{q:Int}(hij:j<i)(hi:i<n)(ha:a<n)(hb:b<n):ms n (ms n (fun p c=>eE nQ j i q c p) A) (eE nQ j i q) a b=kt A i j q a b:=by
 have h1:∀c,c<n->ms n (fun p c=>eE nQ j i q c p) A a c=A a c+(if a=i then q*A j c else 0):=fun c _=>yd (f:=fun t=>A t c) om om ha
 have h2:ms n (ms n (fun p c=>eE nQ j i q c p) A) (eE nQ j i q) a b=aE n (fun c=>eE nQ j i q c b*(A a c+(if a=i then q*A j c else 0))):=aK fun c hc=>by rw[h1 c hc,cF]
 rw[h2,yd (f:=fun c=>A a c+(if a=i then q*A j c else 0)) om om hb]
 simp only[kt];by_cases e1:a=i<;>by_cases e2:b=i<;>simp[e1,e2]<;>grind
theorem Dm{n p a b:Nat}{A:aW}(hp:0<p)(hpn:p<n)(ha:a<n)(hb:b<n):ms n (ms n (fun x c=>nQ (dU (p-1) p c) x) A) (fun a b=>nQ (dU (p-1) p a) b) a b=xh A p a b:=by
 have h1:∀c,c<n->ms n (fun x c=>nQ (dU (p-1) p c) x) A a c=A (dU (p-1) p a) c:=fun c _=>yc (f:=fun t=>A t c) hp hpn ha;have h2:ms n (ms n (fun x c=>nQ (dU (p-1) p c) x) A) (fun a b=>nQ (dU (p-1) p a) b) a b=aE n (fun c=>nQ (dU (p-1) p c) b*A (dU (p-1) p a) c):=aK fun c hc=>by rw[h1 c hc,cF]
 rw[h2,yc (f:=fun c=>A (dU (p-1) p a) c) hp hpn hb];rfl
inductive Mr (n:Nat):aW->aW->aW->aW->Prop where
 | done {A T:aW}:AD A n .done->Mr n A T A T
 | size {A T H T':aW} {i j:Nat}:AD A n (.size i j)->Mr n (kt A i j (LZ A i j)) (ms n T (Gd A (.size i j))) H T'->Mr n A T H T'
 | swap {A T H T':aW} {i:Nat}:AD A n (.swap i)->Mr n (xh A i) (ms n T (Gd A (.swap i))) H T'->Mr n A T H T'
theorem Dc{A:aW}{n i j:Nat}(h:Pd A n)(hi:i<n)(hj:j<i):2*((jW A i j+LZ A i j*det (j+1) A).natAbs:Int)<=det (j+1) A:=Jq (h.pos (j+1) om)
theorem LB{n:Nat}(hn:n<=5):∀(m:Nat) (A T:aW) (s:Nat),LI A n s->zS A n<=m->∃H T',Mr n A T H T'/\Ms H n/\det n H=det n A:=by
 intro m
 induction m with
 | zero =>
  intro A T s h hm;exfalso;have h1:=h.pd.pot_pos;unfold zS at hm;have:0<pot A n*(n*(n+1)+1):=Nat.mul_pos h1 om;omega
 | succ m ih =>
  intro A T s h hm;obtain⟨ev,hf⟩:=JG A n
  cases ev with
  | done=>exact⟨A,T,.done hf,⟨h.pd,hf,h.lead⟩,rfl⟩
  | size i j =>
   obtain⟨h1,h2,h3,h4,h5⟩:=hf;have hq:=Dc h.pd h2 h1;have hp:=sF (n:=n) h1 h2 h3 h4 h5 hq;obtain⟨H,T',r1,r2,r3⟩:=ih _ (ms n T (Gd A (.size i j))) s (h.add hn h1 h2 h3 h4 h5 hq) (by have:=BD h1 hp;omega)
   exact⟨H,T',.size ⟨h1,h2,h3,h4,h5⟩ r1,r2,by rw[r3,jm h1]⟩
  | swap i =>
   obtain⟨h1,h2,h3,h4,h5⟩:=hf;obtain⟨H,T',r1,r2,r3⟩:=ih _ (ms n T (Gd A (.swap i))) (s+1) (h.swap hn h1 h2 h5) (by have:=yx h.pd h1 h2 h5;omega)
   exact⟨H,T',.swap ⟨h1,h2,h3,h4,h5⟩ r1,r2,by rw[r3,mw h1 om]⟩
def matOf(x:AV):aW:=fun i j=>match x with
 | .lst _ _ g=>(match g i with
  | .lst _ _ h=>(match h j with
   | .big z=>z
   | _=>0)
  | _=>0)
 | _=>0
def RI(n:Nat)(H Tf A:aW)(S:St)(x:AV):Prop:=∃(T:aW) (s b:Nat) (g:Nat->Nat),Mr n A T H Tf/\LI A n s/\(∀i j,i<n->j<n->nb (T i j) (10+124720*(31*s+iL A n)))/\x=.sl 1 b 0 n/\cZ S b g n n T
theorem Ed{A:aW}{n:Nat}(hn:n<=5):iL A n<=30:=by
 have h1:=q9 A n;have h2:n*(n+1)<=5*6:=Nat.mul_le_mul hn om;omega
theorem LY{A:aW}{n s i j:Nat}(h:LI A n s)(hn:n<=5)(hi:i<n)(hj:j<i):nb (LZ A i j) 124700:=by
 have h1:=h.pd.q_sq h.lead hj hi (Dc h.pd hi hj);have h2:=h.diag i hi;have hs:=h.s_le hn;have hp:=Ed (A:=A) hn;obtain⟨N,hN1,hN2⟩:∃N,249300<=N/\N<=249300:=⟨_,ah _,ah _⟩;have h3:=mA (om:4+40*(31*s+iL A n)<=N)
 have h4:3*(59049*A i i)<=2^18*2^N:=by
  have e:(2:Int)^18=262144:=by decide
  rw[e];have hdg:=h.pd.diag hi;generalize (2:Int)^N=P at *;omega
 rw[<-Int.pow_add]at h4;obtain⟨M,hM1,hM2⟩:∃M,124690<=M/\M<=124690:=⟨_,ah _,ah _⟩;have h5:LZ A i j*LZ A i j<=2^M*2^M:=by
  rw[<-Int.pow_add];have h6:=mA (om:18+N<=M+M)
  exact Int.le_trans h1 (Int.le_trans h4 h6)
 have e:(2:Int)^M=((2^M:Nat):Int):=by simp
 have h7:=pK (by rw[e];exact Int.natCast_nonneg _) h5
 rw[e]at h7;refine nb.mono (k:=M+1) ?_ om;unfold nb;have h8:2^M<2^(M+1):=Nat.pow_lt_pow_right om om;omega
theorem VR.tup3{S:St}{x y z x' y' z':AV}(h1:VR S x x')(h2:VR S y y')(h3:VR S z z'):VR S (.tup [x,y,z]) (.tup [x',y',z']):=by
 intro w v hs hr;simp only[bs]at hr ⊢;obtain⟨vs,e,h⟩:=hr;refine⟨vs,e,?_⟩
 match vs,h with
 | [u,v,t],h=>simp only[bq]at h ⊢;exact⟨h1 w u hs h.1,h2 w v hs h.2.1,h3 w t hs h.2.2.1,trivial⟩
 | [],h=>simp[bq]at h
 | [_],h=>simp[bq]at h
 | [_,_],h=>simp[bq]at h
 | _::_::_::_::_,h=>simp[bq]at h
theorem C9(a b k:Nat)(hk:1<=k):nb (nQ a b) k:=by
 unfold nQ;split
 ·exact nb.one hk
 ·exact nb.zero k
theorem JF{z:Int}(h:(z.natAbs:Int)<=118098):jQ z:=by unfold jQ;omega
theorem FY(n:Nat)(A:aW)(h1:1<=n)(h2:n<=5)(hs:∀a b,a<n->b<n->A a b=A b a)(hp:∀k,k<=n->0<det k A)(hd:det n A<=10000)(h9:∀i,i<n->A i i<=9) :
  ∃H T,Ms H n/\det n H=det n A/\PF 53 [aZ n n A] (.tup [aN n n H,aZ n n T,.int .i64 0]):=by
 have hpd:Pd A n:=⟨hs,hp⟩;have hL:=LI.init hpd h2 h9;have hA:∀i j,i<n->j<n->nb (A i j) 4:=fun i j hi hj=>by
  have h3:=hpd.cs0 hi hj;have h4:=Int.mul_le_mul (h9 i hi) (h9 j hj) (Int.le_of_lt (hpd.diag hj)) om;have h5:=pK (x:=A i j) (B:=9) om om;unfold nb;omega
 obtain⟨H,T,hR,hRed,hdet⟩:=LB h2 _ A nQ 0 hL (ah _);refine⟨H,T,hRed,hdet,?_⟩;refine PF.of_spec (aD func53 rfl 49 ntmps53 kr sm (by simp[results53]) ?_)
 rw[aQ,results53];simp -dsimp only[go_sem,aa,ae,reduceCtorEq,ab];refine(mG n A 4 h1 om hA om hs true (by simp;exact hp)).call ?_
 simp -dsimp only[go_sem,aa,ae,↓reduceIte,reduceCtorEq,ab,show((0:Int) != 0)=false from rfl];refine(yh n A 4 h1 om hA om).call ?_;simp -dsimp only[go_sem,aa,ae,reduceCtorEq,decide_true,ab,hd];refine(AF n n A 4 om h1 om hA om).pf.call ?_;simp -dsimp only[go_sem,aa,ae,reduceCtorEq,ab,aZ];refine(pB n h1 om _ _ (cH _ _)).mono ?_;rintro r S1 ⟨b,g,rfl,hM⟩;simp -dsimp only[go_sem,aa,reduceCtorEq];refine aM (fun O S=>∃A':aW,O 6=aZ n n A'/\RI n H T A' S (O 7)) (fun O S=>zS (matOf (O 6)) n) ?_ ?_
 ·simp -dsimp only[go_sem,aa,aZ,bn];exact⟨A,rfl,nQ,0,b,g,hR,hL,fun i j _ _=>C9 i j _ om,rfl,hM.1⟩
 ·rintro O S ⟨A',e6,T',s,b,g,hRun,hLI,hT,e7,hM⟩;obtain⟨N,hN1,hN2⟩:∃N,249300<=N/\N<=249300:=⟨_,ah _,ah _⟩;have hent:∀i j,i<n->j<n->nb (A' i j) N:=fun i j hi hj=>hLI.entry h2 hi hj hN1;have hs1:=hLI.s_le h2;have hpl:=Ed (A:=A') h2
  cases hRun with
  | done hf =>
   simp -dsimp only[go_sem,aa,ae,ab,e6];refine(zy n H N h1 om hent om (fun k hk=>hLI.pd.pos k hk) .done hf).call ?_;simp -dsimp only[go_sem,aa,ae,ab,e6,evV];have hfit:∀i j,i<n->j<n->jQ (H i j):=fun i j hi hj=>JF (hRed.entry h2 hi hj);refine(FV n n H h1 om h1 om hfit _ _ (cH _ _)).mono ?_;rintro r S2 ⟨b2,g2,rfl,hM2⟩;simp -dsimp only[go_sem,aa,e6,e7];exact VR.tup3 hM2.1.vr (hM.ext hM2.2.1).vr (VR.mf rfl)
  | size hf hRun' =>
   rename_i i j;obtain⟨f1,f2,f3,f4,f5⟩:=hf;have hq:=LY hLI h2 f2 f1;have hU:∀a c,a<n->c<n->nb (Gd A' (.size i j) a c) 124700:=fun a c _ _=>by
    simp only[Gd,eE];split
    ·exact hq
    ·exact C9 a c _ om
   have hok:=Dc hLI.pd f2 f1;have hpl2:=sF (n:=n) f1 f2 f3 f4 f5 hok;simp -dsimp only[go_sem,aa,ae,ab,e6];refine(zy n A' N h1 om hent om (fun k hk=>hLI.pd.pos k hk) (.size i j) ⟨f1,f2,f3,f4,f5⟩).call ?_;simp -dsimp only[go_sem,aa,ae,ab,e6,evV];refine((sf n A' (Gd A' (.size i j)) N h1 om hent (fun a c ha hc=>(hU a c ha hc).mono om) om).congr (B:=kt A' i j (LZ A' i j)) (fun a c ha hc=>Dn f1 f2 ha hc)).pf.call ?_;simp -dsimp only[go_sem,aa,ae,ab,e6,e7];refine(ow n n n T' (Gd A' (.size i j)) (10+124720*(31*s+iL A' n)+124700) h1 om h1 om h1 om (fun a c ha hc=>(hT a c ha hc).mono om) (fun a c ha hc=>(hU a c ha hc).mono om) om _ _ (dO.mat hM (cH _ _))).mono ?_;rintro r S2 ⟨b2,g2,rfl,hM2⟩;simp -dsimp only[go_sem,aa,e6,e7];refine⟨⟨_,rfl,_,s,b2,g2,hRun',hLI.add h2 f1 f2 f3 f4 f5 hok,fun a c ha hc=>?_,rfl,hM2.1⟩,BD f1 hpl2⟩;exact(vF (fun t ht=>(hT a t ha ht).mul (hU t c ht hc)) om n (ah _)).mono om
  | swap hf hRun' =>
   rename_i i;obtain⟨f1,f2,f3,f4,f5⟩:=hf;have hU:∀a c,a<n->c<n->nb (Gd A' (.swap i) a c) 124700:=fun a c _ _=>C9 _ c _ om;simp -dsimp only[go_sem,aa,ae,ab,e6];refine(zy n A' N h1 om hent om (fun k hk=>hLI.pd.pos k hk) (.swap i) ⟨f1,f2,f3,f4,f5⟩).call ?_;simp -dsimp only[go_sem,aa,ae,ab,e6,evV];refine((sf n A' (Gd A' (.swap i)) N h1 om hent (fun a c ha hc=>(hU a c ha hc).mono om) om).congr (B:=xh A' i) (fun a c ha hc=>Dm f1 f2 ha hc)).pf.call ?_;simp -dsimp only[go_sem,aa,ae,ab,e6,e7];refine(ow n n n T' (Gd A' (.swap i)) (10+124720*(31*s+iL A' n)+124700) h1 om h1 om h1 om (fun a c ha hc=>(hT a c ha hc).mono om) (fun a c ha hc=>(hU a c ha hc).mono om) om _ _ (dO.mat hM (cH _ _))).mono ?_;rintro r S2 ⟨b2,g2,rfl,hM2⟩;simp -dsimp only[go_sem,aa,e6,e7];refine⟨⟨_,rfl,_,s+1,b2,g2,hRun',hLI.swap h2 f1 f2 f5,fun a c ha hc=>?_,rfl,hM2.1⟩,yx hLI.pd f1 f2 f5⟩;exact(vF (fun t ht=>(hT a t ha ht).mul (hU t c ht hc)) om n (ah _)).mono om
def ie(S:St)(bt N:Nat):Prop:=∃(L:Nat) (nums:Nat->Int) (k:Nat) (g:Nat->AV),S bt=some ⟨107,1,2,g⟩/\g 0=.lst 1 L (fun i=>.int .i8 (nums i))/\g 1=.int .i64 k/\k<=N/\∀i,i<L->-128<=nums i/\nums i<=127
theorem ie.upd{S:St}{bt N c:Nat}(h:ie S bt N)(hc:bt≠c)(X:dH):ie (S.upd c X) bt N:=by
 obtain⟨L,nums,k,g,h1,h2⟩:=h;exact⟨L,nums,k,g,by rw[aP hc];exact h1,h2⟩
theorem ie.step{S S':St}{bt N:Nat}(h:ie S bt N)(he:S' bt=S bt):ie S' bt N:=by
 obtain⟨L,nums,k,g,h1,h2⟩:=h;exact⟨L,nums,k,g,by rw[he];exact h1,h2⟩
theorem ie.mono{S:St}{bt N M:Nat}(h:ie S bt N)(hM:N<=M):ie S bt M:=by
 obtain⟨L,nums,k,g,h1,h2,h3,h4,h5⟩:=h;exact⟨L,nums,k,g,h1,h2,h3,om,h5⟩
theorem ie.ne{S:St}{bt N b ty es n:Nat}{g:Nat->AV}(h:ie S bt N)(hb:S b=some ⟨ty,es,n,g⟩)(ht:ty≠107):bt≠b:=by
 obtain⟨_,_,_,_,h1,_⟩:=h;rintro rfl;rw[h1]at hb;cases hb;exact ht rfl
theorem ie.fresh{S:St}{bt N c:Nat}(h:ie S bt N)(hc:S c=ac):bt≠c:=by
 obtain⟨_,_,_,_,h1,_⟩:=h;rintro rfl;rw[h1]at hc;cases hc
theorem sW(S:St)(bt N:Nat)(h:ie S bt N)(hN:N<=1000):cS 77 [.ptr 1 bt 0] S (fun r S'=>∃z:Int,(-128<=z/\z<=127)/\r=.int .i64 z/\ie S' bt (N+1)/\∀d,d≠bt->S' d=S d):=by
 refine aD func77 rfl 32 ntmps77 kr sm (by simp[results77]) ?_
 rw[aQ,results77];obtain⟨L,nums,k,g,h1,h2,h3,h4,h5⟩:=h;simp -dsimp only[go_sem];refine bM 10 kr ?_
 by_cases hlt:L<=k
 ·simp -dsimp only[go_sem,aa,ae,↓reduceIte,reduceCtorEq,decide_true,ab,h1,h2,h3,ta,hlt];exact⟨0,om,om,rfl,⟨L,nums,k,g,h1,h2,h3,om,h5⟩,fun _ _=>trivial⟩
 ·simp -dsimp only[go_sem,aa,ae,↓reduceIte,reduceCtorEq,decide_false,ab,h1,h2,h3,ta,hlt,a6 (om:k<1000000)]
  refine bM 13 kr ?_
  have hw:IntKind.i64.wrap (((k+1:Nat):Int)-1)=(k:Nat):=dK om om;have hkL:k<L:=om
  have hr:=h5 k hkL;have hw2:IntKind.i64.wrap (nums k)=nums k:=i64_in om om;simp -dsimp only[go_sem,aa,ae,↓reduceIte,reduceCtorEq,af,ab,h2,hw,bJ,hkL,hw2];refine⟨nums k,om,om,rfl,⟨L,nums,k+1,_,bZ,?_,?_,om,h5⟩,fun d hd=>aP hd⟩
  ·simp[bJ,h2]
  ·simp[bJ]
theorem qL(S:St)(bt N m:Nat)(h:ie S bt N)(hN:N<=1000)(hm:1<=m)(hm2:m<=100):cS 150 [.ptr 1 bt 0,.int .i64 m] S (fun r S'=>∃z:Nat,z<m/\r=.int .i64 z/\ie S' bt (N+1)/\∀d,d≠bt->S' d=S d):=by
 refine aD func150 rfl 11 ntmps150 kr sm (by simp[results150]) ?_
 rw[aQ,results150];simp -dsimp only[go_sem,ak,aa,ae,reduceCtorEq,ab];refine(sW S bt N h hN).mono ?_;rintro r S' ⟨z,hz,rfl,hT,hk⟩;have hu:∃y:Nat,y<256/\IntKind.u8.wrap z=y:=by
  rw[IntKind.wrap_u8];exact⟨(z%256).toNat,om,om⟩
 obtain⟨y,hy,hu⟩:=hu;have hw:IntKind.i64.wrap (y:Int)=y:=i64_in om om;have hm0:¬((m:Int)=0):=om
 simp -dsimp only[go_sem,aa,reduceCtorEq,hu,hw,hm0];refine⟨y%m,eP _ om,?_,hT,hk⟩;rw[Int.ofNat_tmod]
def Is(S0 S:St)(bt:Nat):Prop:=∀d X,S0 d=some X->d≠bt->S d=some X
def Cn(n most:Nat)(A:aW):Prop:=∀i,i<n->(1<=A i i/\A i i<=most)/\∀j,j<n->j≠i->A i j=0
def DgI(S0 S:St)(b bt N n most i:Nat):Prop:=∃(g:Nat->Nat) (A:aW),bE S b 29 1 n (fun a=>if a<i then .sl 1 (g a) 0 n else .nil)/\(∀a,a<i->lG S (g a) n (A a)/\S0 (g a)=ac)/\(∀a c,a<i->c<i->g a=g c->a=c) /\
 ie S bt (N+i)/\Is S0 S bt/\S0 b=ac/\∀a,a<i->(1<=A a a/\A a a<=most)/\∀j,j<n->j≠a->A a j=0
theorem Is.upd{S0 S:St}{bt c:Nat}(h:Is S0 S bt)(hc:S0 c=ac)(X:dH):Is S0 (S.upd c X) bt:=fun d Y hd hb=>by
 have:d≠c:=by rintro rfl;rw[hc]at hd;cases hd
 rw[aP this];exact h d Y hd hb
theorem Is.none{S0 S:St}{bt c:Nat}(h:Is S0 S bt)(hc:S c=ac)(hb:bt≠c):S0 c=ac:=by
 cases e:S0 c with
 | none=>rfl
 | some X=>rw[h c X e (ao hb)]at hc;cases hc
theorem Is.step{S0 S S':St}{bt:Nat}(h:Is S0 S bt)(hk:∀d,d≠bt->S' d=S d):Is S0 S' bt:=fun d X hd hb=>by rw[hk d hb];exact h d X hd hb
theorem eN(S0:St)(bt N n most:Nat)(hT:ie S0 bt N)(hN:N+n<=900)(hm:1<=most)(hm2:most<=100):cS 151 [.ptr 1 bt 0,.int .i64 n,.int .i64 most] S0 (fun r S'=>∃b g A,r=.sl 1 b 0 n/\dR S' b g n n A/\ie S' bt (N+n)/\Is S0 S' bt/\Cn n most A/\S0 b=ac/\∀a,a<n->S0 (g a)=ac):=by
 refine aD func151 rfl 33 ntmps151 kr sm (by simp[results151]) ?_
 rw[aQ,results151];simp -dsimp only[go_sem,ak,aa,reduceCtorEq]
 repeat refine an ?_
 refine aH.intro fun b7 f7=>?_;simp -dsimp only[go_sem];have hbt:=hT.fresh f7;refine aM (fun O S=>∃i:Nat,i<=n/\O 0=.ptr 1 bt 0/\O 1=.int .i64 n/\O 2=.int .i64 most/\O 7=.sl 1 b7 0 n/\O 12=.int .i64 n/\O 13=.int .i64 i/\DgI S0 S b7 bt N n most i) (fun O S=>n-ca (O 13)) ?_ ?_
 ·simp -dsimp only[go_sem,aa,reduceCtorEq];exact⟨0,om,rfl,fun _=>0,fun _ _=>0,bE.here fun _ _=>by simp,fun a ha=>om,fun a c ha=>om,hT.upd hbt _,(fun d X hd _=>by rw[aP (fun e=>by rw[e,f7]at hd;cases hd)];exact hd),f7,fun a ha=>om⟩
 ·rintro O S ⟨i,hi,e0,e1,e2,e7,e12,e13,g,A,hO,hR,hI,hTp,hFr,hb0,hA⟩;by_cases hlt:i<n
  ·simp -dsimp only[go_sem,aa,↓reduceIte,af,decide_true,ab,e1,e7,e12,e13,hlt]
   repeat refine an ?_
   refine aH.intro fun b18 f18=>?_;obtain⟨g1,u1,v1⟩:=hO;have h718:b7≠b18:=fun e=>by rw[<-e,u1]at f18;cases f18
   have hbt7:bt≠b7:=hTp.ne u1 om;have hbt18:bt≠b18:=hTp.fresh f18;have hc0:S0 b18=ac:=hFr.none f18 hbt18;simp -dsimp only[go_sem,hlt,h718,u1];refine eL 7 [[0,1,2,3,4]] kr ?_
   simp -dsimp only[go_sem,aa,ae,↓reduceIte,reduceCtorEq,af,ab,e0,e2,e7,hlt,bJ];have hT2:ie ((S.upd b18 ⟨2,1,n,fun _=>.int .i64 0⟩).upd b7 ⟨29,1,n,bJ g1 i (.sl 1 b18 0 n)⟩) bt (N+i):=(hTp.upd hbt18 _).upd hbt7 _;refine(qL _ bt (N+i) most hT2 om hm hm2).mono ?_;rintro r S2 ⟨z,hz,rfl,hT3,hk⟩;have k7:S2 b7=some ⟨29,1,n,bJ g1 i (.sl 1 b18 0 n)⟩:=by rw[hk b7 (ao hbt7)];exact bZ
   have k18:S2 b18=some ⟨2,1,n,fun _=>.int .i64 0⟩:=by rw[hk b18 (ao hbt18),aP (ao h718)];exact bZ
   have hw:IntKind.i64.wrap (1+(z:Int))=((z+1:Nat):Int):=dK om om;simp -dsimp only[go_sem,aa,↓reduceIte,reduceCtorEq,af,ab,e0,e1,e2,e7,e12,e13,hlt,h718,k7,k18,bJ,hw,a6 (om:i<1000000),ca]
   refine⟨⟨i+1,om,rfl,fun a=>if a=i then b18 else g a,fun a c=>if a=i then(if c=i then((z+1:Nat):Int)else 0)else A a c,(bE.of k7).upd h718 _ |>.congr fun a ha=>?_,fun a ha=>?_,fun a c ha hc e=>?_,hT3.upd hbt18 _,(((hFr.upd hc0 _).upd hb0 _).step hk).upd hc0 _,hb0,fun a ha=>?_⟩,om⟩
   ·have:=v1 a ha;simp only[bJ];grind
   ·by_cases e:a=i
    ·subst e;simp only[if_true];refine⟨bE.here fun c hc=>?_,hc0⟩;simp only[bJ];split<;>rfl
    ·simp only[e,if_false];obtain⟨r1,r2⟩:=hR a om;have q1:g a≠b18:=bE.fresh r1 f18;have q2:g a≠b7:=bE.ne r1 (bE.of u1) om;have q3:g a≠bt:=by obtain⟨gg,hgg,_⟩:=r1;exact ao (hTp.ne hgg om)
     refine⟨(r1.via fun X hX=>?_).upd q1 _,r2⟩;rw[hk _ q3,aP q2,aP q1];exact hX
   ·have q1:∀a,a<i->g a≠b18:=fun a ha=>bE.fresh (hR a ha).1 f18
    grind
   ·by_cases e:a=i
    ·subst e;refine⟨by simp only[if_true];omega,fun j hj hja=>by simp[hja]⟩
    ·simp only[e,if_false];exact hA a om
  ·obtain rfl:i=n:=om
   simp -dsimp only[go_sem,aa,↓reduceIte,af,decide_false,ab,e1,e7,e12,e13,hlt];exact⟨b7,rfl,g,A,⟨hO.congr fun a ha=>by simp[ha],fun a ha=>(hR a ha).1,hI⟩,hTp,hFr,hA,hb0,fun a ha=>(hR a ha).2⟩
end Go.Proofs.YtdobfmlmenaajaaGreatDoor
