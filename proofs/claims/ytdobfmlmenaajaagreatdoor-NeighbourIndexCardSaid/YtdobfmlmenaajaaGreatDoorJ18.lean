/-
  Lemmas for NeighbourIndex.
-/
import Derived.Test.YtdobfmlmenaajaaGreatDoorJ17
namespace Go.Proofs.YtdobfmlmenaajaaGreatDoor
open Go.RowKit Tryz
open _root_.Classical renaming byContradiction→en
open _root_.Int renaming emod_lt_of_pos→aV,emod_nonneg→aY,dvd_of_emod_eq_zero→cE,mul_comm→cF,dvd_mul_of_dvd_right→cJ,emod_eq_of_lt→dq,emod_eq_zero_of_dvd→eI,mul_emod→eZ,natAbs_mul→fJ,mul_one→ij,dvd_add→iQ,dvd_refl→jt,emod_emod_of_dvd→kl,le_of_dvd→yW
open _root_.List renaming not_mem_nil→aT,mem_cons→cT
open _root_.Nat renaming mul_le_mul→bN,le_trans→bV
set_option maxHeartbeats 6400000
set_option maxRecDepth 4096
set_option linter.all false
def eu(v:Nat->Nat)(p:Int)(piv:Nat)(t:Int):iG:=fun i=>if i=piv then((v i:Nat):Int)+p*t else v i
theorem JB{p:Nat}(hp:p∈cQ){x:Int}(h0:0<x)(h1:x<p):∃iv:Int,(p:Int)∣iv*x-1:=by
 obtain⟨_,h⟩:=vX hp h0 h1;refine⟨zZ 20 p x 0 1%p,cE ?_⟩;rw[Int.sub_emod,cF,h,dq (show(0:Int)<=1 by omega) (by
  have:=hp;simp only[cQ,cT,aT,or_false]at this;omega)]
 simp
theorem nd.char{n p:Nat}{H:aW}{v:Nat->Nat}{B:aW}(hp:p∈cQ)(h:nd n p H v B) :
  ∃(piv:Nat) (t:Int),piv<n/\fA n H p (fun k=>v k) piv≠0/\(p:Int)*p∣oQ n H (eu v p piv t) (eu v p piv t)/\∀y,gK n n B y↔DI n p (fA n H p (fun k=>v k)) (eu v p piv t) y:=by
 have hp17:3<=p/\p<=17:=by
  have hp':=hp;simp only[cQ,cT,aT,or_false]at hp';omega
 obtain⟨piv,t,inv,hpiv,ht0,ht1,hnm,hinv,hw0,hP,hU⟩:=h.ex;refine⟨piv,t,hpiv,hw0,hnm,fun y=>?_⟩;have hwr:=qQ (n:=n) (H:=H) (p:=(p:Int)) (v:=fun k=>((v k:Nat):Int)) om;have hwe:=dq (hwr piv).1 (hwr piv).2;obtain⟨_,hei⟩:=vX hp (x:=fA n H p (fun k=>v k) piv%p) (by rw[hwe];have:=hwr piv;omega) (by rw[hwe];exact(hwr piv).2)
 rw[<-hinv,hwe]at hei;rw[hU.members hP y];refine Es (p:=(p:Int)) om (piv:=piv) hpiv (w:=fA n H p (fun k=>v k)) (q:=fun j=>fA n H p (fun k=>v k) j*inv%p) (inv:=inv) ?_ (fun j hj hne=>?_) y
 ·refine cE ?_;rw[Int.sub_emod,cF,hei,dq (show(0:Int)<=1 by omega) om]
  simp
 ·refine cE ?_;have h2:(fA n H p (fun k=>v k) j*inv%p*fA n H p (fun k=>v k) piv)%p=fA n H p (fun k=>v k) j%p:=by
   rw[eZ,kl _ (jt _),<-eZ,Int.mul_assoc,eZ,cF inv,hei,ij,kl _ (jt _)]
  rw[Int.sub_emod,h2,Int.sub_self,Int.zero_emod]
theorem Gw(n:Nat)(H:aW)(p:Int)(v:iG)(i:Nat):p∣(aE n fun j=>H i j*v j)-fA n H p v i:=by
 rw[zi];exact Int.dvd_self_sub_emod
theorem BF{n:Nat}{H:aW}{p:Int}{v l:iG}(hl:∀i,i<n->p∣l i-v i)(i:Nat):p∣(aE n fun j=>H i j*l j)-fA n H p v i:=by
 have e:(aE n fun j=>H i j*l j)-fA n H p v i=((aE n fun j=>H i j*v j)-fA n H p v i)+aE n fun j=>H i j*(l j-v j):=by
  have:(aE n fun j=>H i j*l j)=(aE n fun j=>H i j*v j)+aE n fun j=>H i j*(l j-v j):=by
   rw[<-dX];exact aK fun j _=>by grind
  omega
 rw[e];exact iQ (Gw n H p v i) (iR fun j hj=>cJ (hl j hj))
theorem nB{v:Nat->Nat}{p:Int}{piv:Nat}{t:Int}(i:Nat):p∣eu v p piv t i-(v i:Nat):=by
 unfold eu;split
 ·exact⟨t,om⟩
 ·exact⟨0,om⟩
theorem BE{n p:Nat}{H:aW}{v:Nat->Nat}(hL:lK n p H v):(p:Int)∣aE n fun i=>fA n H p (fun k=>v k) i*(v i:Nat):=by
 refine cE ?_;rw[<-hL.norm];unfold fB;refine lU n _ _ p fun i _=>?_;rw[zi];show((aE n fun j=>H i j*((v j:Nat):Int))%p*_)%p=_;rw[eZ,kl _ (jt _),<-eZ]
theorem Fk{n p:Nat}{H:aW}{v:Nat->Nat}{l:iG}(hL:lK n p H v)(hl:∀i,i<n->(p:Int)∣l i-(v i:Nat)):(p:Int)∣aE n fun i=>fA n H p (fun k=>v k) i*l i:=by
 have e:(aE n fun i=>fA n H p (fun k=>v k) i*l i)=(aE n fun i=>fA n H p (fun k=>v k) i*(v i:Nat))+aE n fun i=>fA n H p (fun k=>v k) i*(l i-(v i:Nat)):=by
  rw[<-dX];exact aK fun i _=>by grind
 rw[e];exact iQ (BE hL) (iR fun i hi=>cJ (hl i hi))
theorem nd.tri{n p:Nat}{H:aW}{v:Nat->Nat}{B:aW}(h:nd n p H v B):(∀r c,r<c->c<n->B r c=0)/\(∀r,r<n->0<B r r)/\(∀c j,c<n->j<c->0<=B c j/\B c j<B c c)/\EM n n B:=by
 obtain⟨piv,t,inv,_,_,_,_,_,_,hP,hU⟩:=h.ex;have hH:=hU.herm;exact⟨fun r c h1 h2=>hH.up r c h1 om om,hH.pos,hH.rng,fun r hr=>⟨fun j h1 h2=>hH.up r j h1 hr om,hH.pos r hr⟩⟩
theorem nd.det{n p:Nat}{H:aW}{v:Nat->Nat}{B:aW}(hp:p∈cQ)(hL:lK n p H v)(h:nd n p H v B):det n B=(p:Int)^n:=by
 have hp17:3<=p/\p<=17:=by
  have hp':=hp;simp only[cQ,cT,aT,or_false]at hp';omega
 obtain⟨piv,t,hpiv,hw0,hnm,hch⟩:=h.char hp;obtain⟨k0,hk0,hv0⟩:=yA hL.lead;have hwr:=qQ (n:=n) (H:=H) (p:=(p:Int)) (v:=fun k=>((v k:Nat):Int)) om;have hex:∃j,j<n/\k0≠j/\fA n H p (fun k=>v k) j≠0:=by
  refine en fun hno=>?_;have hz:∀j,j<n->j≠k0->fA n H p (fun k=>v k) j=0:=fun j hj hne=>en fun hc=>hno ⟨j,hj,Ne.symm hne,hc⟩;have h1:=BE hL;rw[cp k0 hk0 (fun i hi hne=>by rw[hz i hi hne];simp),hv0,ij]at h1
  have h2:=eI h1;rw[dq (hwr k0).1 (hwr k0).2]at h2;by_cases e:piv=k0
  ·rw[e]at hw0;exact hw0 h2
  ·exact hw0 (hz piv hpiv e)
 obtain⟨j,hj,hne,hwj⟩:=hex;obtain⟨iv,hiv⟩:=JB hp (x:=fA n H p (fun k=>v k) j) (by have:=hwr j;omega) (hwr j).2
 have hx:∃t',eu v p piv t k0=1+p*t':=by
  unfold eu;split
  ·exact⟨t,by rw[hv0]⟩
  ·exact⟨0,by rw[hv0];simp⟩
 obtain⟨t',hx⟩:=hx;exact Js (p:=(p:Int)) om hj hk0 hne hiv hx (Fk hL fun i _=>nB i) h.tri.2.2.2 hch
theorem nd.gram{n p:Nat}{H:aW}{v:Nat->Nat}{B:aW}(hF:iZ n H)(hp:p∈cQ)(h:nd n p H v B){i j:Nat}(hi:i<n)(hj:j<n):(p:Int)*p∣mm n (mm n (fun i j=>B j i) H) B i j:=by
 obtain⟨piv,t,hpiv,hw0,hnm,hch⟩:=h.char hp;rw[Ez];exact Hh hF.red.pd.sym (fun i _=>BF (fun k _=>nB k) i) hnm ((hch _).1 (gK.col hi)) ((hch _).1 (gK.col hj))
theorem nd.unit{n p:Nat}{H:aW}{v:Nat->Nat}{B:aW}(hp:p∈cQ)(h:nd n p H v B){k:Nat}(hk:k<n):gK n n B (iV ((p:Int)*p) k):=by
 obtain⟨piv,t,hpiv,hw0,hnm,hch⟩:=h.char hp;refine(hch _).2 ⟨0,iV p k,fun i _=>?_,?_⟩
 ·unfold iV;split<;>simp
 ·refine iR fun i _=>cJ ?_;unfold iV;split
  ·exact jt _
  ·exact Int.dvd_zero _
theorem nd.lift{n p:Nat}{H:aW}{v:Nat->Nat}{B:aW}(hF:iZ n H)(hp:p∈cQ)(h:nd n p H v B){l:iG}(hl:∀i,i<n->(p:Int)∣l i-(v i:Nat))(hn:(p:Int)*p∣oQ n H l l):gK n n B l:=by
 have hp17:3<=p/\p<=17:=by
  have hp':=hp;simp only[cQ,cT,aT,or_false]at hp';omega
 obtain⟨piv,t,hpiv,hw0,hnm,hch⟩:=h.char hp;have ha:∀i,i<n->l i=1*eu v p piv t i+p*((l i-eu v p piv t i)/p):=fun i hi=>by
  rw[Int.mul_ediv_cancel']
  ·omega
  ·have h1:=hl i hi;have h2:=nB (v:=v) (p:=(p:Int)) (piv:=piv) (t:=t) i;rw[(om:l i-eu v p piv t i=(l i-(v i:Nat))-(eu v p piv t i-(v i:Nat)))]
   exact Int.dvd_sub h1 h2
 refine(hch l).2 ⟨1,fun i=>(l i-eu v p piv t i)/p,ha,?_⟩;generalize hA:(fun i=>(l i-eu v p piv t i)/(p:Int))=a;have ha':∀i,i<n->l i=1*eu v p piv t i+p*a i:=fun i hi=>by rw[<-hA];exact ha i hi
 rw[sR ha' ha',rB,lO hF.red.pd.sym (eu v p piv t),lO hF.red.pd.sym a (fun i=>1*eu v p piv t i+p*a i),rB,rB,lO hF.red.pd.sym (eu v p piv t) a]at hn;have h3:(p:Int)∣2*oQ n H a (eu v p piv t):=by
  obtain⟨r,hr⟩:=hnm;obtain⟨s,hs⟩:=hn;refine⟨s-r-oQ n H a a,Int.eq_of_mul_eq_mul_left (show(p:Int)≠0 by omega) ?_⟩
  rw[hr]at hs
  grind
 have h4:(p:Int)∣oQ n H a (eu v p piv t):=by
  rcases l8 hp _ _ h3 with h|h
  ·have:=yW om h;omega
  ·exact h
 have e:(aE n fun i=>fA n H p (fun k=>v k) i*a i)=oQ n H a (eu v p piv t)-aE n fun i=>((aE n fun j=>H i j*eu v p piv t j)-fA n H p (fun k=>v k) i)*a i:=by
  unfold oQ;rw[<-kI];exact aK fun i _=>by grind
 show(p:Int)∣aE n fun i=>fA n H p (fun k=>v k) i*a i;rw[e];exact Int.dvd_sub h4 (iR fun i _=>Int.dvd_mul_of_dvd_left (BF (fun k _=>nB k) i))
theorem nd.ent{n p:Nat}{H:aW}{v:Nat->Nat}{B:aW}(hp:p∈cQ)(h:nd n p H v B){i j:Nat}(hi:i<n)(hj:j<n):0<=B i j/\B i j<=289:=by
 have hp17:3<=p/\p<=17:=by
  have hp':=hp;simp only[cQ,cT,aT,or_false]at hp';omega
 obtain⟨h1,h2,h3,h4⟩:=h.tri;have hd:B i i<=289:=by
  have h5:=(TL.of_tri h4).dvd _ (h.unit hp hi) i hi (fun r hr=>by unfold iV;rw[if_neg om])
  unfold iV at h5;rw[if_pos rfl]at h5;have h6:(0:Int)<p*p/\(p:Int)*p<=289:=by
   rw[<-Int.natCast_mul];have a:=bN hp17.2 hp17.2;have b:=bN hp17.1 hp17.1;omega
  have:=yW h6.1 h5;omega
 rcases Nat.lt_trichotomy i j with h|h|h
 ·rw[h1 i j h hj];omega
 ·subst h;have:=h2 i hi;omega
 ·have:=h3 i j hi h;omega
theorem Ka{n:Nat}{H:aW}{u v:iG}{a b c:Nat}(hn:n<=5)(hH:∀i j,i<n->j<n->(H i j).natAbs<=a)(hu:∀i,i<n->(u i).natAbs<=b)(hv:∀i,i<n->(v i).natAbs<=c):(oQ n H u v).natAbs<=25*(a*b*c):=by
 have h1:∀i,i<n->(aE n fun j=>H i j*v j).natAbs<=n*(a*c):=fun i hi=>by
  refine bV (yf _ _) (qH fun j hj=>?_);rw[fJ];exact bN (hH i j hi hj) (hv j hj)
 have h2:(oQ n H u v).natAbs<=n*(n*(a*c)*b):=by
  refine bV (yf _ _) (qH fun j hj=>?_);rw[fJ];exact bN (h1 j hj) (hu j hj)
 refine bV h2 ?_;have h3:n*n<=5*5:=bN hn hn;have h4:=Nat.mul_le_mul_right (a*b*c) h3;have e:n*(n*(a*c)*b)=n*n*(a*b*c):=by grind
 omega
theorem nd.gram_ent{n p:Nat}{H:aW}{v:Nat->Nat}{B:aW}(hF:iZ n H)(hp:p∈cQ)(h:nd n p H v B){i j:Nat}(hi:i<n)(hj:j<n):(mm n (mm n (fun i j=>B j i) H) B i j).natAbs<=246591576450:=by
 rw[Ez];have:=Ka (H:=H) (a:=118098) (b:=289) (c:=289) hF.five (fun i j hi hj=>by have:=hF.ent i j hi hj;omega) (u:=fun r=>B r i) (v:=fun r=>B r j) (fun r hr=>by have:=h.ent hp hr hi;omega) (fun r hr=>by have:=h.ent hp hr hj;omega)
 omega
theorem Jv{n p piv:Nat}{H:aW}{v:Nat->Nat}(hF:iZ n H)(hp:p∈cQ)(hL:lK n p H v)(hpiv:piv<n)(hs0:oL n H p (fun k=>v k) piv≠0):∃t:Int,0<=t/\t<p/\(p:Int)*p∣oQ n H (eu v p piv t) (eu v p piv t):=by
 have hp17:3<=p/\p<=17:=by
  have hp':=hp;simp only[cQ,cT,aT,or_false]at hp';omega
 have hsr:0<=oL n H p (fun k=>v k) piv/\oL n H p (fun k=>v k) piv<p:=⟨aY _ om,aV _ om⟩;generalize hsl:oL n H p (fun k=>v k) piv=sl at *;have h2s:0<2*sl%p/\2*sl%p<p:=by
  have a:=aY (2*sl) (show(p:Int)≠0 by omega)
  have b:=aV (2*sl) (show(0:Int)<p by omega)
  have c:2*sl%p≠0:=fun h=>by
   rcases l8 hp 2 sl (cE h)with h|h
   ·have:=yW om h;omega
   ·exact hs0 (by have:=eI h;rwa [dq hsr.1 hsr.2]at this)
  omega
 obtain⟨_,hei⟩:=vX hp h2s.1 h2s.2;exact⟨_,aY _ om,aV _ om,yz hF.red.pd.sym hpiv (show(0:Int)<p by omega) hsl hei rfl hL.norm rfl⟩
end Go.Proofs.YtdobfmlmenaajaaGreatDoor
