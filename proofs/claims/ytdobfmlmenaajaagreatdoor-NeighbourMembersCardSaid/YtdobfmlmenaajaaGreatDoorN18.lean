/-
  Lemmas for NeighbourMembers.
-/
import Derived.Test.YtdobfmlmenaajaaGreatDoorN17
namespace Go.Proofs.YtdobfmlmenaajaaGreatDoor
open Go.RowKit
open _root_.Array renaming getElem?_eq_getElem→aB,getElem?_eq_some_iff→bM
open _root_.Bool renaming and_eq_true→au,or_eq_true→cW,not_eq_true'→eO,or_eq_true_iff→gE,false_ne_true→oZ
open _root_.List renaming all_eq_true→az,getD_cons_succ→bv,range→cf,mem_cons_self→dU,mem_range→ep
open _root_.Nat renaming le_refl→ah,eq_of_beq_eq_true→ao,beq→ap,zero_add→aC,blt→aJ,testBit→gK,ble→gZ,strongRecOn→nL,blt_eq→oU
open _root_.Option renaming none→ac,some→dO
open _root_.Or renaming inr→bD,inl→bH
set_option maxHeartbeats 6400000
set_option maxRecDepth 4096
set_option linter.all false
noncomputable section
theorem MR.ext{φ:Ph}{l l':EL}{S:St}(h:MR φ l S)(e:∀j,dw l j=dw l' j):MR φ l' S :=
 ⟨fun i hi=>h.dom i (by rw[e];exact hi),fun i X hi=>h.live i X (by rw[e];exact hi),fun i j X Y b hi hj=>h.inj i j X Y b (by rw[e];exact hi) (by rw[e];exact hj)⟩
def zN(ops:Array Oper)(L:Nat->Bool):Prop:=∀i o,ops[i]? = some o->L i=true->∀k∈aft o,L k=true
structure Kk(ops:Array Oper)(T:Nat->TE)(N:Nat->Nat)(M:Nat->EL)(V:Nat->XV)(φ0:Ph)(L:Nat->Bool)(O:Tm)(S:St)(φ:Ph)(s:Nat)(m:EL):Prop where
 le:φ0.le φ
 s1:s<=ops.size
 s2:∀w,lU ops w=4->L w=true->w<s
 s3:s=0∨∃w,s=w+1/\lU ops w=4/\L w=true
 t1:∀t k,L k=true->wF ops k=some t->ER φ (V k) (O t)
 t2:∀t,(∀k,L k=true->wF ops k≠some t)->ER φ (ix (T 0) t) (O t)
 mr:MR φ m S
 m1:∀k,s<=k->lU ops k=2->L k=true->dw m (N k)=dw (M (k+1)) (N k)
 m2:∀j,(∀k,s<=k->lU ops k=2->L k=true->N k≠j)->dw m j=dw (M s) j
theorem qy{ops:Array Oper}{i:Nat}{o:Oper}(h:ops[i]? = some o):lU ops i=eG o.op:=by unfold lU;rw[h]
theorem Gi{ops:Array Oper}{i:Nat}(h:lU ops i≠0):∃o,ops[i]? = some o/\i<ops.size:=by
 unfold lU at h
 cases ho:ops[i]? with
 | none=>rw[ho]at h;exact absurd rfl h
 | some o=>exact⟨o,rfl,(bM.1 ho).1⟩
theorem AC(o:Op):eG o<=4:=by
 cases o<;>try (simp[eG];done)
 case call c=>have:=pR c;omega
theorem oQ.still{call:dh}(hp:rc call){ops:Array Oper}{T:Nat->TE}{N:Nat->Nat}{M:Nat->EL}{V:Nat->XV}(h:oQ call ops T N M V){i:Nat}{o:Oper}(ho:ops[i]? = some o)(h2:lU ops i≠2)(h4:lU ops i≠4):N (i+1)=N i/\M (i+1)=M i:=by
 have hst:=h.step i o ho;rw[qy ho]at h2 h4;have hle:=AC o.op;have:((N (i+1),M (i+1)):Nat×EL)=(N i,M i):=by
  rcases (show eG o.op=0∨eG o.op=1∨eG o.op=3 by omega)with e|e|e
  ·exact(CZ hp e hst).1
  ·exact(qc e hst).1
  ·exact Kq e hst
 exact⟨congrArg Prod.fst this,congrArg Prod.snd this⟩
theorem oQ.make{call:dh}{ops:Array Oper}{cls:List Nat}{alts:Nat->List Nat}(hs:nK ops cls alts){T:Nat->TE}{N:Nat->Nat}{M:Nat->EL}{V:Nat->XV}(h:oQ call ops T N M V){i:Nat}{o:Oper}(ho:ops[i]? = some o)(h2:lU ops i=2) :
  dw (M i) (N i)=ac/\N (i+1)=N i+1/\∃X,M (i+1)=pA (M i) (N i) (some X)/\∀l',dw l' (N i)=ac->xg call ops o (T i) (N i) l'=some (V i,N i+1,pA l' (N i) (some X)):=by
 have hst:=h.step i o ho;rw[qy ho]at h2;obtain⟨X,k1,k2,k3⟩:=H3 (hs.guard i o ho h2) h2 hst;have e:=congrArg Prod.snd k2;exact⟨k1,congrArg Prod.fst e,X,congrArg Prod.snd e,k3⟩
theorem oQ.seg{call:dh}(hp:rc call){ops:Array Oper}{cls:List Nat}{alts:Nat->List Nat}(hs:nK ops cls alts){T:Nat->TE}{N:Nat->Nat}{M:Nat->EL}{V:Nat->XV}(h:oQ call ops T N M V){s:Nat}:∀i,s<=i->i<=ops.size->(∀w,s<=w->w<i->lU ops w≠4) ->
  N s<=N i/\(∀k,s<=k->k<i->lU ops k=2->N k<N i/\dw (M i) (N k)=dw (M (k+1)) (N k)/\dw (M s) (N k)=ac)/\∀j,(∀k,s<=k->k<i->lU ops k=2->N k≠j)->dw (M i) j=dw (M s) j:=by
 intro i
 induction i with
 | zero =>
  intro h1 _ _;obtain rfl:s=0:=by omega
  exact⟨ah _,fun k _ hk=>by omega,fun j _=>rfl⟩
 | succ i ih =>
  intro h1 h2 hw;by_cases e:s=i+1
  ·subst e;exact⟨ah _,fun k a b=>by omega,fun j _=>rfl⟩
  obtain⟨q1,q2,q3⟩:=ih om om (fun w a b=>hw w a om);obtain⟨o,ho⟩:∃o,ops[i]? = some o:=⟨ops[i],aB om⟩;by_cases hk:lU ops i=2
  ·obtain⟨r1,r2,X,r3,_⟩:=h.make hs ho hk;refine⟨by omega,fun k a b c=>?_,fun j hj=>?_⟩
   ·by_cases ek:k=i
    ·subst ek;refine⟨by omega,rfl,?_⟩
     rw[<-q3 (N k) (fun k' a' b' c'=>by have:=(q2 k' a' b' c').1;omega)];exact r1
    ·obtain⟨u1,u2,u3⟩:=q2 k a om c;refine⟨by omega,?_,u3⟩
     rw[r3,ef,if_neg om];exact u2
   ·rw[r3,ef,if_neg (fun e2=>hj i om om hk e2.symm)];exact q3 j fun k a b c=>hj k a om c
  ·obtain⟨r1,r2⟩:=h.still hp ho hk (hw i om om);rw[r1,r2];refine⟨q1,fun k a b c=>?_,fun j hj=>q3 j fun k a b c=>hj k a om c⟩;have ek:k≠i:=fun e2=>by subst e2;exact hk c
   exact q2 k a om c
theorem GZ{ops:Array Oper}(h:xW ops=true){i:Nat}{o:Oper}(ho:ops[i]? = some o){k:Nat}(hk:k∈aft o):k<i:=by
 have h1:=az.1 h (o,i) (fJ (by simpa using ho))
 have h2:=az.1 h1 k hk;simpa using h2
theorem sJ{ops:Array Oper}{cls:List Nat}{alts:Nat->List Nat}(hs:nK ops cls alts):∀(i:Nat),i<ops.size->∀k,jb cls i k=true->k<i:=by
 intro i
 induction i using nL with
 | ind i ih =>
  intro hi k hk;have ho:ops[i]? = some ops[i]:=aB hi;obtain⟨j,hj,e⟩:=hs.cl i _ k ho hk;have hji:=GZ hs.aft ho hj;rcases e with rfl|e
  ·exact hji
  ·have:=ih j hji om k e;omega
theorem Ji{ops:Array Oper}{cls:List Nat}{alts:Nat->List Nat}(hs:nK ops cls alts){L:Nat->Bool}(hb:∀i,L i=true->i<ops.size)(hc:zN ops L):∀(x:Nat),L x=true->∀k,jb cls x k=true->L k=true:=by
 intro x
 induction x using nL with
 | ind x ih =>
  intro hx k hk;obtain⟨o,ho⟩:∃o,ops[x]? = some o:=⟨ops[x]'(hb x hx),aB (hb x hx)⟩;obtain⟨j,hj,e⟩:=hs.cl x _ k ho hk;have hL:=hc x _ ho hx j hj;rcases e with rfl|e
  ·exact hL
  ·exact ih j (GZ hs.aft ho hj) hL k e
theorem pL{ops:Array Oper}{cls:List Nat}{alts:Nat->List Nat}(hs:nK ops cls alts){te:TE}{V:Nat->XV}{L:Nat->Bool}{O:Tm}{φ ψ:Ph}(hle:φ.le ψ){i:Nat}{o:Oper}(ho:ops[i]? = some o){z:AV}(hz:ER ψ (V i) z)
  (t1:∀t k,L k=true->wF ops k=some t->ER φ (V k) (O t)) (t2:∀t,(∀k,L k=true->wF ops k≠some t)->ER φ (ix te t) (O t)) :
  (∀t k,(if k=i then true else L k)=true->wF ops k=some t->ER ψ (V k) (O.put o.dst z t))/\∀t,(∀k,(if k=i then true else L k)=true->wF ops k≠some t)->ER ψ (ix te t) (O.put o.dst z t):=by
 have hd:wF ops i=o.dst:=by unfold wF;rw[ho];rfl
 have hput:∀t,O.put o.dst z t=if o.dst=some t then z else O t:=fun t=>by
  cases ho':o.dst with
  | none=>rw[F2];simp
  | some d =>
   by_cases e:t=d
   ·subst e;rw[Iu];simp
   ·rw[F3 e,if_neg (fun e2=>e (dO.inj e2).symm)]
 refine⟨fun t k hk hkt=>?_,fun t hn=>?_⟩
 ·rw[hput];by_cases e:k=i
  ·subst e;rw[if_pos (by rw[<-hd];exact hkt)];exact hz
  ·rw[if_neg (fun e2=>e (hs.dst k i t hkt (by rw[hd];exact e2)))]
   rw[if_neg e]at hk;exact(t1 t k hk hkt).mono hle
 ·rw[hput,if_neg (by rw[<-hd];exact hn i (by simp))]
  exact(t2 t fun k hk=>hn k (by by_cases e:k=i<;>simp[e,hk])).mono hle
theorem F0{call:dh}{ops:Array Oper}{cls:List Nat}{alts:Nat->List Nat}(hs:nK ops cls alts){T:Nat->TE}{N:Nat->Nat}{M:Nat->EL}{V:Nat->XV}(h:oQ call ops T N M V){L:Nat->Bool}{O:Tm}{φ:Ph}{i:Nat}{o:Oper}(ho:ops[i]? = some o)(hi:i<ops.size)(hb:∀i,L i=true->i<ops.size)
  (cin:∀k,jb cls i k=true->L k=true) (nin:∀k,L k=true->jb cls k i=true->False)
  (t1:∀t k,L k=true->wF ops k=some t->ER φ (V k) (O t)) (t2:∀t,(∀k,L k=true->wF ops k≠some t)->ER φ (ix (T 0) t) (O t)) (hiL:L i=false) :
  ∀t∈ou ops o,ER φ (ix (T i) t) (O t):=by
 intro t ht;by_cases hk:∃k,L k=true/\wF ops k=some t
 ·obtain⟨k,h1,h2⟩:=hk;have hki:k≠i:=fun e=>by subst e;rw[h1]at hiL;cases hiL
  have hc:=hs.reads i o t k ho ht hki h2;unfold comp at hc;rcases gE.1 hc with e|e
  ·rw[(h.get hs i om t).1 k (sJ hs i hi k e) h2];exact t1 t k h1 h2
  ·exact(nin k h1 e).elim
 ·rw[(h.get hs i om t).2 fun k hki hkt=>?_]
  ·exact t2 t fun k h1 h2=>hk ⟨k,h1,h2⟩
  ·have hc:=hs.reads i o t k ho ht om hkt;unfold comp at hc;rcases gE.1 hc with e|e
   ·exact hk ⟨k,cin k e,hkt⟩
   ·have:=sJ hs k om i e;omega
theorem Iy{call:dh}(hc:kq call)(hp:rc call){ops:Array Oper}{cls:List Nat}{alts:Nat->List Nat}(hs:nK ops cls alts){T:Nat->TE}{N:Nat->Nat}{M:Nat->EL}{V:Nat->XV}(h:oQ call ops T N M V)
  (hl:∀(i:Nat) (o:Oper) a,ops[i]? = some o->eG o.op=1->a∈alts i->∃nx,xg call ops o (T i) nx (M a)=some (V i,nx,M a))
  {φ0:Ph} (hG:GP φ0) {O:Tm} {S:St} (ht:TR φ0 (T 0) O) (hm:MR φ0 (M 0) S) {K:Tm->St->Prop} (hK:∀ψ O' S',φ0.le ψ->TR ψ (T ops.size) O'->MR ψ (M ops.size) S'->K O' S'):awI ops O S K:=by
 refine⟨fun L O S=>(∀i,L i=true->i<ops.size)/\zN ops L/\∃φ s m,Kk ops T N M V φ0 L O S φ s m,hs.aft,?_,?_,?_⟩
 ·exact⟨fun i hi=>(oZ hi).elim,fun i o _ hi=>(oZ hi).elim,φ0,0,M 0,Ph.le_refl _,Nat.zero_le _,fun w _ hw=>(oZ hw).elim,bH rfl,fun t k hk=>(oZ hk).elim,fun t _=>ht t,hm,fun k _ _ hk=>(oZ hk).elim,fun j _=>rfl⟩
 ·intro i o ho L O S hP hi ha;obtain⟨hb,hcl,φ,s,m,P⟩:=hP;have hisz:i<ops.size:=(bM.1 ho).1;have hda:=Ji hs hb hcl;have cin:∀k,jb cls i k=true->L k=true:=fun k hk=>by
   obtain⟨j,hj,e⟩:=hs.cl i o k ho hk;rcases e with rfl|e
   ·exact ha _ hj
   ·exact hda j (ha j hj) k e
  have nin:∀k,L k=true->jb cls k i=true->False:=fun k h1 h2=>by rw[hda k h1 i h2]at hi;cases hi
  have hr:=F0 hs h ho hisz hb cin nin P.t1 P.t2 hi;have hGφ:=hG.mono P.le;have hst:=h.step i o ho;have kk:=qy ho;have hb':∀k,(if k=i then true else L k)=true->k<ops.size:=fun k hk=>by
   by_cases e:k=i
   ·omega
   ·rw[if_neg e]at hk;exact hb k hk
  have hcl':zN ops (fun k=>if k=i then true else L k):=fun x ox hox hx k hk=>by
   show(if k=i then true else L k)=true
   by_cases e:k=i
   ·rw[if_pos e]
   ·rw[if_neg e];by_cases ex:x=i
    ·subst ex;rw[ho]at hox;cases hox;exact ha k hk
    ·have hx':(if x=i then true else L x)=true:=hx
     rw[if_neg ex]at hx';exact hcl x ox hox hx' k hk
  have same:∀ψ z S',φ.le ψ->ER ψ (V i) z->MR ψ m S'->lU ops i≠2->lU ops i≠4->Kk ops T N M V φ0 (fun k=>if k=i then true else L k) (O.put o.dst z) S' ψ s m:=fun ψ z S' hle hz hm' n2 n4=>by
   obtain⟨t1,t2⟩:=pL hs hle ho hz P.t1 P.t2;refine⟨Ph.le_trans P.le hle,P.s1,fun w hw hLw=>?_,P.s3.imp id fun⟨w,e1,e2,e3⟩=>⟨w,e1,e2,by show(if w=i then true else L w)=true;rw[e3];simp⟩,t1,t2,hm',fun k h1 h2 h3=>?_,fun j hj=>P.m2 j fun k h1 h2 h3=>hj k h1 h2 (by show(if k=i then true else L k)=true;rw[h3];simp)⟩
   ·have hLw':(if w=i then true else L w)=true:=hLw
    have e:w≠i:=fun e=>by subst e;exact n4 hw
    rw[if_neg e]at hLw';exact P.s2 w hw hLw'
   ·have h3':(if k=i then true else L k)=true:=h3
    have e:k≠i:=fun e=>by subst e;exact n2 h2
    rw[if_neg e]at h3';exact P.m1 k h1 h2 h3'
  have hle4:=AC o.op;have segL:∀k,s<=k->lU ops k=2->L k=true->∀w,s<=w->w<k+1->lU ops w≠4:=fun k h1 h2 h3 w h4 h5 h6=>by
   have hwk:w≠k:=fun e=>by subst e;omega
   rcases gE.1 (hs.four w k hwk h6 om)with e|e
   ·obtain⟨_,_,hw⟩:=Gi (ops:=ops) (i:=w) om;have:=sJ hs w hw k e;omega
   ·have:=P.s2 w h6 (hda k h3 w e);omega
  have sLe:2<=lU ops i->s<=i:=fun h2=>by
   rcases P.s3 with e0|⟨w,e1,e2,e3⟩
   ·omega
   ·have hwi:w≠i:=fun e=>by subst e;rw[e3]at hi;cases hi
    rcases gE.1 (hs.four w i hwi e2 h2)with e|e
    ·exact(nin w e3 e).elim
    ·have:=sJ hs i hisz w e;omega
  have noW:2<=lU ops i->∀w,s<=w->w<i->lU ops w≠4:=fun h2 w h3 h4 h5=>by
   rcases gE.1 (hs.four w i om h5 h2)with e|e
   ·have:=sJ hs w om i e;omega
   ·have:=P.s2 w h5 (cin w e);omega
  have eqMi:2<=lU ops i->(∀k,lU ops k=2->comp cls i k=true)->∀j,dw m j=dw (M i) j:=fun h2 hcm j=>by
   have hsi:=sLe h2;have sg:=h.seg (s:=s) hp hs i hsi om (noW h2);have kIn:∀k,lU ops k=2->k<i->L k=true:=fun k hk hlt=>by
    rcases gE.1 (hcm k hk)with e|e
    ·exact cin k e
    ·have:=sJ hs k om i e;omega
   by_cases hk:∃k,s<=k/\k<i/\lU ops k=2/\N k=j
   ·obtain⟨k,h1,h3,h4,rfl⟩:=hk;rw[P.m1 k h1 h4 (kIn k h4 h3),(sg.2.1 k h1 h3 h4).2.1]
   ·rw[P.m2 j fun k h1 h3 h4 h5=>?_,sg.2.2 j fun k h1 h3 h4 h5=>hk ⟨k,h1,h3,h4,h5⟩];rcases gE.1 (hcm k h3)with e|e
    ·exact hk ⟨k,h1,sJ hs i hisz k e,h3,h5⟩
    ·exact nin k h4 e
  rcases (show eG o.op=0∨eG o.op=1∨eG o.op=2∨eG o.op=3∨eG o.op=4 by omega)with e|e|e|e|e
  ·obtain⟨_,e2⟩:=CZ hp e hst;exact tE hc (e2 (N i) m) hGφ hr P.mr fun ψ z S' hle hz hm'=>⟨hb',hcl',ψ,s,m,same ψ z S' hle hz hm' om om⟩
  ·have base:∀j X,dw (M s) j=some (some X)->dw m j=some (some X):=fun j X hj=>by
    rw[P.m2 j fun k h1 h2 h3 e3=>by
     subst e3;have:=((h.seg hp hs (k+1) om (by have:=hb k h3;omega) (segL k h1 h2 h3)).2.1 k h1 om h2).2.2
     rw[this]at hj;cases hj]
    exact hj
   have hsub:∃a∈alts i,∀j X,dw (M a) j=some (some X)->dw m j=some (some X):=by
    have caseA:(∀w,s=w+1->lU ops w=4->L w=true->jb cls i w=true)->∃a∈alts i,∀j X,dw (M a) j=some (some X)->dw m j=some (some X):=fun hA=>by
     obtain⟨a,ha1,ha2,ha3,ha4⟩:=hs.altA i om;have hsa:s<=a:=by
      rcases P.s3 with e0|⟨w,e1,e2,e3⟩
      ·omega
      ·have:=ha3 w e2 (hA w e1 e2 e3);omega
     have sg:=h.seg hp hs a hsa om fun w h1 h2 h3=>by
      have:=P.s2 w h3 (cin w (ha4 w h2 om om));omega
     refine⟨a,ha1,fun j X hj=>?_⟩;by_cases hk:∃k,s<=k/\k<a/\lU ops k=2/\N k=j
     ·obtain⟨k,h1,h2,h3,rfl⟩:=hk;rw[P.m1 k h1 h3 (cin k (ha4 k h2 om om)),<-(sg.2.1 k h1 h2 h3).2.1];exact hj
     ·refine base j X ?_;rw[<-sg.2.2 j fun k h1 h2 h3 h4=>hk ⟨k,h1,h2,h3,h4⟩];exact hj
    rcases P.s3 with e0|⟨w,e1,e2,e3⟩
    ·exact caseA fun w h1=>by omega
    ·cases hbw:jb cls i w with
     | true =>
      exact caseA fun w' h1 _ _=>by
       obtain rfl:w'=w:=by omega
       exact hbw
     | false =>
      have hcw:comp cls i w=false:=by
       unfold comp;rw[hbw]
       cases hwi:jb cls w i with
       | true=>exact(nin w e3 hwi).elim
       | false=>rfl
      exact⟨w+1,hs.altW i w om e2 hcw,e1▸base⟩
   obtain⟨a,ha1,ha2⟩:=hsub;obtain⟨nx,hx⟩:=hl i o a ho e ha1;have hx2:=(qc e hx).2 (N i) m ha2;exact tE hc hx2 hGφ hr P.mr fun ψ z S' hle hz hm'=>⟨hb',hcl',ψ,s,m,same ψ z S' hle hz hm' om om⟩
  ·obtain⟨r1,r2,X,r3,r4⟩:=h.make hs ho om;have hsi:=sLe om;have hnw:=noW om;have sg:=h.seg (s:=s) hp hs (i+1) om om fun w h1 h2 h3=>by
    by_cases ew:w=i
    ·subst ew;omega
    ·exact hnw w h1 om h3
   have hne:∀k,s<=k->lU ops k=2->L k=true->N k≠N i:=fun k h1 h2 h3=>by
    have hki:k≠i:=fun e=>by subst e;rw[h3]at hi;cases hi
    by_cases hlt:k<i
    ·have:=(h.seg hp hs i hsi om hnw).2.1 k h1 hlt h2;omega
    ·have:=(h.seg hp hs k om (by have:=hb k h3;omega) (fun w a b=>segL k h1 h2 h3 w a om)).2.1 i hsi om om
     omega
   have hnone:dw m (N i)=ac:=by
    rw[P.m2 (N i) hne];exact(sg.2.1 i hsi om om).2.2
   refine tE hc (r4 m hnone) hGφ hr P.mr fun ψ z S' hle hz hm'=>⟨hb',hcl',ψ,s,pA m (N i) (some X),?_⟩;obtain⟨t1,t2⟩:=pL hs hle ho hz P.t1 P.t2;refine⟨Ph.le_trans P.le hle,P.s1,fun w hw hLw=>?_,P.s3.imp id fun⟨w,e1,e2,e3⟩=>⟨w,e1,e2,by show(if w=i then true else L w)=true;rw[e3];simp⟩,t1,t2,hm',fun k h1 h2 h3=>?_,fun j hj=>?_⟩
   ·have hLw':(if w=i then true else L w)=true:=hLw
    have e:w≠i:=fun e=>by subst e;omega
    rw[if_neg e]at hLw';exact P.s2 w hw hLw'
   ·have h3':(if k=i then true else L k)=true:=h3
    by_cases ek:k=i
    ·subst ek;rw[r3,ef,ef,if_pos rfl,if_pos rfl]
    ·rw[if_neg ek]at h3';rw[ef,if_neg (hne k h1 h2 h3')];exact P.m1 k h1 h2 h3'
   ·rw[ef,if_neg (fun e2=>hj i hsi om (by simp) e2.symm)]
    refine P.m2 j fun k h1 h2 h3=>hj k h1 h2 (by show(if k=i then true else L k)=true;rw[h3];simp)
  ·have eqM:=eqMi om fun k hk=>hs.three i k om hk;refine tE hc hst hGφ hr (P.mr.ext eqM) fun ψ z S' hle hz hm'=>⟨hb',hcl',ψ,s,m,same ψ z S' hle hz (MR.ext ?_ fun j=>(eqM j).symm) om om⟩;have:=(h.still hp ho om om).2;rw[this]at hm';exact hm'
  ·have hki:lU ops i=4:=by omega
   have cmpC:∀k,lU ops k=2->comp cls i k=true:=fun k hk=>hs.four i k (fun e=>by subst e;omega) hki om
   have eqM:=eqMi om cmpC;have hsi:=sLe om;refine tE hc hst hGφ hr (P.mr.ext eqM) fun ψ z S' hle hz hm'=>⟨hb',hcl',ψ,i+1,M (i+1),?_⟩;obtain⟨t1,t2⟩:=pL hs hle ho hz P.t1 P.t2;refine⟨Ph.le_trans P.le hle,by omega,fun w hw hLw=>?_,bD ⟨i,rfl,hki,by simp⟩,t1,t2,hm',fun k h1 h2 h3=>?_,fun j _=>rfl⟩
   ·have hLw':(if w=i then true else L w)=true:=hLw
    by_cases ew:w=i
    ·omega
    ·rw[if_neg ew]at hLw';have:=P.s2 w hw hLw';omega
   ·have h3':(if k=i then true else L k)=true:=h3
    rw[if_neg om]at h3';rcases gE.1 (cmpC k h2)with e|e
    ·have:=sJ hs i hisz k e;omega
    ·exact(nin k h3' e).elim
 ·intro L O S hP hall;obtain⟨hb,hcl,φ,s,m,P⟩:=hP;have sg:=h.seg (s:=s) hp hs ops.size P.s1 (ah _) fun w h1 h2 h3=>by
   have:=P.s2 w h3 (hall w h2);omega
  refine hK φ O S P.le (fun t=>?_) (P.mr.ext fun j=>?_)
  ·by_cases hk:∃k,k<ops.size/\wF ops k=some t
   ·obtain⟨k,h1,h2⟩:=hk;rw[(h.get hs _ (ah _) t).1 k h1 h2];exact P.t1 t k (hall k h1) h2
   ·rw[(h.get hs _ (ah _) t).2 fun k h1 h2=>hk ⟨k,h1,h2⟩];exact P.t2 t fun k h1 h2=>hk ⟨k,hb k h1,h2⟩
  ·by_cases hk:∃k,s<=k/\k<ops.size/\lU ops k=2/\N k=j
   ·obtain⟨k,h1,h2,h3,rfl⟩:=hk;rw[P.m1 k h1 h3 (hall k h2),(sg.2.1 k h1 h2 h3).2.1]
   ·rw[P.m2 j fun k h1 h2 h3 h4=>hk ⟨k,h1,hb k h3,h2,h4⟩,sg.2.2 j fun k h1 h2 h3 h4=>hk ⟨k,h1,h2,h3,h4⟩]
end
noncomputable section
def xG(cls:List Nat):List Nat->Nat
 | []=>0
 | j::r=>2^j ||| (cls.getD j 0 ||| xG cls r)
theorem xF{cls:List Nat}{k:Nat}:∀{l:List Nat},gK (xG cls l) k=true->∃j∈l,j=k∨jb cls j k=true
 | [],h=>by simp[xG]at h
 | j::r,h=>by
  simp only[xG,Nat.testBit_or,cW]at h;rcases h with h|h|h
  ·rw[Nat.testBit_two_pow]at h;exact⟨j,dU ..,bH (by simpa using h)⟩
  ·exact⟨j,dU ..,bD h⟩
  ·obtain⟨i,hi,e⟩:=xF h;exact⟨i,List.mem_cons_of_mem _ hi,e⟩
def xS:List Oper->List Nat->List Nat
 | [],c=>c
 | o::r,c=>xS r (c++[xG c (aft o)])
def CH(p:Nat->Oper->Bool):Nat->List Oper->Bool
 | _,[]=>true
 | i,o::r=>p i o&&CH p (i+1) r
theorem qP{p:Nat->Oper->Bool}:∀{l:List Oper} {k:Nat},CH p k l=true->∀(i:Nat) (o:Oper),l[i]? = some o->p (k+i) o=true
 | [],_,_,i,o,h=>by simp at h
 | x::r,k,h,i,o,hi=>by
  simp only[CH,au]at h
  cases i with
  | zero=>simp at hi;subst hi;exact h.1
  | succ i =>
   rw[List.getElem?_cons_succ]at hi;have:=qP h.2 i o hi
   rwa [show k+1+i=k+(i+1) by omega]at this
def uU:List Oper->Nat->Bool
 | [],_=>true
 | o::r,m=>match o.dst with
  | ac=>uU r m
  | some d=>!gK m d&&uU r (m ||| 2^d)
theorem rQ:∀{l:List Oper} {m:Nat},uU l m=true->(∀(i:Nat) (d:Nat),(l[i]?).bind (·.dst)=some d->gK m d=false)/\∀(i j d:Nat),(l[i]?).bind (·.dst)=some d->(l[j]?).bind (·.dst)=some d->i=j
 | [],_,_=>⟨fun i d h=>by simp at h,fun i j d h=>by simp at h⟩
 | o::r,m,h=>by
  simp only[uU]at h
  cases ho:o.dst with
  | none =>
   rw[ho]at h;obtain⟨h1,h2⟩:=rQ h;refine⟨fun i d hi=>?_,fun i j d hi hj=>?_⟩
   ·cases i with
    | zero=>simp[ho]at hi
    | succ i=>exact h1 i d (by simpa using hi)
   ·cases i with
    | zero=>simp[ho]at hi
    | succ i =>
     cases j with
     | zero=>simp[ho]at hj
     | succ j=>rw[h2 i j d (by simpa using hi) (by simpa using hj)]
  | some d0 =>
   rw[ho]at h;simp only[au,eO]at h;obtain⟨h1,h2⟩:=rQ h.2;have h1':∀(i d:Nat),(r[i]?).bind (·.dst)=some d->gK m d=false/\d≠d0:=fun i d hi=>by
    have:=h1 i d hi;rw[Nat.testBit_or,Bool.or_eq_false_iff,Nat.testBit_two_pow]at this;exact⟨this.1,fun e=>by simp[e]at this⟩
   refine⟨fun i d hi=>?_,fun i j d hi hj=>?_⟩
   ·cases i with
    | zero=>simp[ho]at hi;subst hi;exact h.1
    | succ i=>exact(h1' i d (by simpa using hi)).1
   ·cases i with
    | zero =>
     simp[ho]at hi
     cases j with
     | zero=>rfl
     | succ j=>exact((h1' j d (by simpa using hj)).2 hi.symm).elim
    | succ i =>
     cases j with
     | zero=>simp[ho]at hj;exact((h1' i d (by simpa using hi)).2 hj.symm).elim
     | succ j=>rw[h2 i j d (by simpa using hi) (by simpa using hj)]
def AR:List Oper->Nat
 | []=>0
 | o::r=>match o.dst with
  | ac=>AR r
  | some d=>2^d ||| AR r
theorem AQ:∀{l:List Oper} {i d:Nat},(l[i]?).bind (·.dst)=some d->gK (AR l) d=true
 | [],i,d,h=>by simp at h
 | o::r,i,d,h=>by
  simp only[AR]
  cases i with
  | zero =>
   simp at h;rw[h];simp[Nat.testBit_or]
  | succ i =>
   have:=AQ (l:=r) (i:=i) (d:=d) (by simpa using h)
   cases ho:o.dst with
   | none=>exact this
   | some d0=>simp[Nat.testBit_or,this]
def zj(ops:List Oper)(cls:List Nat)(ks:List Nat)(i:Nat):List Nat :=
 match ap (ks.getD i 0) 1 with
 | true =>
  let n:=ops.length
  let a1:=((cf n).filter fun w=>ap (ks.getD w 0) 4&&jb cls i w).foldl (fun a w=>Nat.max a (w+1)) 0
  let a0:=(((cf i).filter fun k=>gZ a1 k&&(ap (ks.getD k 0) 2||ap (ks.getD k 0) 4)&&!jb cls i k).head?).getD i
  a0::((cf n).filter fun w=>ap (ks.getD w 0) 4&&!comp cls i w).map (·+1)
 | false=>[]
def yI(l:List Oper)(cls ks:List Nat)(alts:Nat->List Nat):Bool :=
 let D:=AR l
 let n:=l.length
 xW l.toArray&&uU l 0 &&
 CH (fun i o=>ap (cls.getD i 0) (xG cls (aft o))&&ap (ks.getD i 0) (eG o.op)) 0 l &&
 CH (fun i o=>(ou l.toArray o).all fun t=>!gK D t||CH (fun k p=>match p.dst with
  | some d=>!ap d t||ap k i||comp cls i k
  | ac=>true) 0 l) 0 l &&
 CH (fun i o=>match ap (ks.getD i 0) 2 with
  | true=>o.guard.isNone
  | false=>match ap (ks.getD i 0) 4 with
   | true=>(cf n).all fun j=>ap i j||aJ (ks.getD j 0) 2||comp cls i j
   | false=>match ap (ks.getD i 0) 3 with
    | true=>(cf n).all fun j=>!ap (ks.getD j 0) 2||comp cls i j
    | false=>match ap (ks.getD i 0) 1 with
     | true=>((cf n).all fun w=>!ap (ks.getD w 0) 4||comp cls i w||(alts i).contains (w+1)) &&
      (alts i).any fun a=>gZ a i&&((cf n).all fun w=>!ap (ks.getD w 0) 4||!jb cls i w||aJ w a) &&
       (cf a).all fun k=>aJ (ks.getD k 0) 2||ap (ks.getD k 0) 3||jb cls i k
     | false=>true) 0 l
theorem bor{a b:Bool}(h:(!a||b)=true)(ha:a=true):b=true:=by subst ha;simpa using h
theorem B8{l:List Oper}{cls ks:List Nat}{alts:Nat->List Nat}(h:yI l cls ks alts=true):nK l.toArray cls alts:=by
 simp only[yI,au]at h;obtain⟨⟨⟨⟨h1,h2⟩,h3⟩,h4⟩,h5⟩:=h;have a3:=qP h3;have a4:=qP h4;have a5:=qP h5;have get:∀(i:Nat) (o:Oper),l.toArray[i]? = some o->l[i]? = some o:=fun i o ho=>by simpa using ho
 have dAtE:∀i,wF l.toArray i=(l[i]?).bind (·.dst):=fun i=>by unfold wF;simp
 have lt:∀(i:Nat) (o:Oper),l[i]? = some o->i<l.length:=fun i o ho=>(List.getElem?_eq_some_iff.1 ho).1;have ksE:∀(i:Nat) (o:Oper),l[i]? = some o->ks.getD i 0=eG o.op:=fun i o ho=>by
  have:=a3 i o ho;simp only[au,aC]at this;exact ao this.2
 have kE:∀(i:Nat) (o:Oper),l[i]? = some o->lU l.toArray i=ks.getD i 0:=fun i o ho=>by rw[ksE i o ho];exact qy (by simpa using ho)
 have kS:∀i,lU l.toArray i≠0->∃o,l[i]? = some o/\i<l.length/\lU l.toArray i=ks.getD i 0:=fun i hi=>by
  obtain⟨o,ho,hl⟩:=Gi hi;exact⟨o,get i o ho,by simpa using hl,kE i o (get i o ho)⟩
 refine⟨h1,fun i o k ho hk=>?_,fun i j d hi hj=>?_,fun i o t k ho ht hki hkt=>?_,fun i j hij hi hj=>?_,fun i j hi hj=>?_,fun i o ho hk=>?_,fun i w hi hw hc=>?_,fun i hi=>?_⟩
 ·have:=a3 i o (get i o ho);simp only[au,aC]at this;have e:=ao this.1;unfold jb bit at hk;rw[e]at hk;exact xF hk
 ·rw[dAtE]at hi hj;exact(rQ h2).2 i j d hi hj
 ·have:=a4 i o (get i o ho);simp only[aC,az]at this;have:=this t ht;rw[dAtE]at hkt;have:=bor this (AQ hkt)
  cases hlk:l[k]? with
  | none=>rw[hlk]at hkt;simp at hkt
  | some p =>
   rw[hlk]at hkt;simp only[Option.bind_some]at hkt;have:=qP this k p hlk;simp only[aC]at this;rw[hkt]at this;simp only[cW,eO]at this;rcases this with (e|e)|e
   ·simp at e
   ·exact(hki (ao e)).elim
   ·exact e
 ·obtain⟨o,ho,hil,hk⟩:=kS i om;obtain⟨p,hp,hjl,hkj⟩:=kS j om;have:=a5 i o ho;simp only[aC]at this;rw[show ks.getD i 0=4 by omega]at this
  simp only[az]at this;have:=this j (ep.2 hjl);simp only[cW]at this;rcases this with (e|e)|e
  ·exact(hij (ao e)).elim
  ·have:ks.getD j 0<2:=by simpa [oU]using e
   omega
  ·exact e
 ·obtain⟨o,ho,hil,hk⟩:=kS i om;obtain⟨p,hp,hjl,hkj⟩:=kS j om;have:=a5 i o ho;simp only[aC]at this;rw[show ks.getD i 0=3 by omega]at this
  simp only[az]at this;have:=this j (ep.2 hjl);exact bor this (by rw[show ks.getD j 0=2 by omega];rfl)
 ·have:=a5 i o (get i o ho);simp only[aC]at this;rw[ksE i o (get i o ho),hk]at this;simpa using this
 ·obtain⟨o,ho,hil,hk⟩:=kS i om;obtain⟨p,hp,hwl,hkw⟩:=kS w om;have:=a5 i o ho;simp only[aC]at this;rw[show ks.getD i 0=1 by omega]at this
  simp only[au]at this;have:=az.1 this.1 w (ep.2 hwl);rw[show ks.getD w 0=4 by omega,hc]at this
  simpa using this
 ·obtain⟨o,ho,hil,hk⟩:=kS i om;have:=a5 i o ho;simp only[aC]at this;rw[show ks.getD i 0=1 by omega]at this
  simp only[au]at this;obtain⟨a,ha,e⟩:=List.any_eq_true.1 this.2;simp only[au,az]at e;obtain⟨⟨e1,e2⟩,e3⟩:=e;refine⟨a,ha,Nat.le_of_ble_eq_true e1,fun w hw hb=>?_,fun k hka hk2 hk3=>?_⟩
  ·obtain⟨p,hp,hwl,hkw⟩:=kS w om;have:=e2 w (ep.2 hwl);rw[show ks.getD w 0=4 by omega,hb]at this
   simpa [oU]using this
  ·obtain⟨p,hp,hwl,hkw⟩:=kS k om;have:=e3 k (ep.2 hka);simp only[cW]at this;rcases this with (e|e)|e
   ·have:ks.getD k 0<2:=by simpa [oU]using e
    omega
   ·have:=ao e;omega
   ·exact e
end
noncomputable section
def tput(te:TE)(d:Option Nat)(v:XV):TE:=match d with
 | some d=>tX te d v
 | ac=>te
theorem FM(te:TE)(d:Option Nat)(v:XV)(t:Nat):ix (tput te d v) t=if d=some t then v else ix te t:=by
 cases d with
 | none=>simp[tput]
 | some d =>
  simp only[tput,kD];by_cases e:t=d
  ·subst e;simp
  ·rw[if_neg e,if_neg (fun e2=>e (dO.inj e2).symm)]
theorem TR.tput{φ:Ph}{te:TE}{O:Tm}(h:TR φ te O){d:Option Nat}{v:XV}{z:AV}(hz:ER φ v z):TR φ (tput te d v) (O.put d z):=by
 cases d with
 | none=>rw[F2];exact h
 | some d=>exact h.put hz
def Ks(call:dh)(ops:Array Oper)(o:Oper)(te:TE)(nx:Nat)(l:EL):XR:=match o.guard with
 | ac=>wT call o te nx l
 | some (j,want)=>match rM ops te j with
  | .bool b=>if b=want then wT call o te nx l else some (.any,nx,l)
  | _=>ac
theorem Kr{call:dh}(hc:kq call){ops:Array Oper}{o:Oper}{te:TE}{nx:Nat}{l:EL}{r:XV×Nat×EL}(h:Ks call ops o te nx l=some r){φ:Ph}(hG:GP φ){O:Tm}{S:St}(ht:TR φ te O)(hm:MR φ l S){K:Tm->St->Prop}
  (hk:∀ψ z S',φ.le ψ->ER ψ r.1 z->MR ψ r.2.2 S'->K (O.put o.dst z) S'):wH ops o O S K:=by
 unfold Ks at h;unfold wH
 cases hg:o.guard with
 | none =>
  rw[hg]at h;exact yg hc h hG ht hm fun ψ z S' h1 h2 h3=>hk ψ z S' h1 h2 h3
 | some p =>
  obtain⟨j,want⟩:=p;rw[hg]at h;dsimp only at h ⊢;have hy:ER φ (rM ops te j) (zT ops O j):=by
   unfold rM zT
   cases (ops[j]?).bind (·.dst)with
   | none=>simp[ER]
   | some d=>exact ht d
  cases he:rM ops te j<;>rw[he]at h<;>try cases h
  rename_i b;rw[he]at hy;simp only[ER]at hy;rw[hy];dsimp only at h ⊢;refine⟨fun e=>?_,fun e=>?_⟩
  ·rw[if_pos e]at h;exact yg hc h hG ht hm fun ψ z S' h1 h2 h3=>hk ψ z S' h1 h2 h3
  ·rw[if_neg (by rw[e];cases want<;>simp)]at h
   cases h
   exact hk φ .any S (Ph.le_refl _) (by simp[ER]) hm
def od(call:dh)(ops:Array Oper)(L:List Oper):TE->Nat->EL->Option (TE×Nat×EL):=List.rec (motive:=fun _=>TE->Nat->EL->Option (TE×Nat×EL)) (fun te nx l=>some (te,nx,l))
 (fun o _ ih te nx l=>Option.rec ac (fun p=>Prod.rec (fun v q=>Prod.rec (fun nx' l'=>ih (tput te o.dst v) nx' l') q) p) (Ks call ops o te nx l)) L
theorem BJ(call:dh)(ops:Array Oper)(te:TE)(nx:Nat)(l:EL):od call ops [] te nx l=some (te,nx,l):=rfl
theorem z9(call:dh)(ops:Array Oper)(o:Oper)(r:List Oper)(te:TE)(nx:Nat)(l:EL):od call ops (o::r) te nx l=match Ks call ops o te nx l with
  | some (v,nx',l')=>od call ops r (tput te o.dst v) nx' l'
  | ac=>ac:=by
 show Option.rec (motive:=fun _=>Option (TE×Nat×EL)) ac (fun p=>Prod.rec (motive:=fun _=>Option (TE×Nat×EL)) (fun v q=>Prod.rec (motive:=fun _=>Option (TE×Nat×EL)) (fun nx' l'=>od call ops r (tput te o.dst v) nx' l') q) p) (Ks call ops o te nx l)=_
 cases Ks call ops o te nx l<;>rfl
theorem wW{call:dh}(hc:kq call){ops:Array Oper}:∀{L:List Oper} {te:TE} {nx:Nat} {l:EL} {r:TE×Nat×EL},od call ops L te nx l=some r->∀{φ:Ph},GP φ->∀{O:Tm} {S:St},TR φ te O->MR φ l S->∀{K:Tm->St->Prop},
  (∀ψ O' S',φ.le ψ->TR ψ r.1 O'->MR ψ r.2.2 S'->K O' S')->sW ops L O S K
 | [],te,nx,l,r,h,φ,hG,O,S,ht,hm,K,hK=>by
  rw[BJ]at h;cases h;exact hK φ O S (Ph.le_refl _) ht hm
 | o::L,te,nx,l,r,h,φ,hG,O,S,ht,hm,K,hK=>by
  rw[z9]at h
  cases hx:Ks call ops o te nx l with
  | none=>rw[hx]at h;cases h
  | some p =>
   obtain⟨v,nx',l'⟩:=p;rw[hx]at h;have:=Kr hc hx hG ht hm (K:=fun O S=>sW ops L O S K) fun ψ z S' h1 h2 h3=>wW hc h (hG.mono h1) ((ht.mono h1).tput h2) h3 fun χ O' S'' k1 k2 k3=>hK χ O' S'' (Ph.le_trans h1 k1) k2 k3;unfold sW;unfold wH at this;exact this
def tD(call:dh)(ops:Array Oper)(L:List Oper):TE->Nat->EL->Option (TE×Nat×EL):=List.rec (motive:=fun _=>TE->Nat->EL->Option (TE×Nat×EL)) (fun te nx l=>some (te,nx,l))
 (fun o _ ih te nx l=>Option.rec ac (fun p=>Prod.rec (fun v q=>Prod.rec (fun nx' l'=>ih (tput te o.dst v) nx' l') q) p) (xg call ops o te nx l)) L
theorem wV(call:dh)(ops:Array Oper)(te:TE)(nx:Nat)(l:EL):tD call ops [] te nx l=some (te,nx,l):=rfl
theorem tC(call:dh)(ops:Array Oper)(o:Oper)(r:List Oper)(te:TE)(nx:Nat)(l:EL):tD call ops (o::r) te nx l=match xg call ops o te nx l with
  | some (v,nx',l')=>tD call ops r (tput te o.dst v) nx' l'
  | ac=>ac:=by
 show Option.rec (motive:=fun _=>Option (TE×Nat×EL)) ac (fun p=>Prod.rec (motive:=fun _=>Option (TE×Nat×EL)) (fun v q=>Prod.rec (motive:=fun _=>Option (TE×Nat×EL)) (fun nx' l'=>tD call ops r (tput te o.dst v) nx' l') q) p) (xg call ops o te nx l)=_
 cases xg call ops o te nx l<;>rfl
theorem Fx{call:dh}(hc:kq call){ops:Array Oper}:∀{L:List Oper} {te:TE} {nx:Nat} {l:EL} {r:TE×Nat×EL},tD call ops L te nx l=some r->∀{φ:Ph},GP φ->∀{O:Tm} {S:St},TR φ te O->MR φ l S->∀{K:Tm->St->Prop},
  (∀ψ O' S',φ.le ψ->TR ψ r.1 O'->MR ψ r.2.2 S'->K O' S')->sW ops L O S K
 | [],te,nx,l,r,h,φ,hG,O,S,ht,hm,K,hK=>by
  rw[wV]at h;cases h;exact hK φ O S (Ph.le_refl _) ht hm
 | o::L,te,nx,l,r,h,φ,hG,O,S,ht,hm,K,hK=>by
  rw[tC]at h
  cases hx:xg call ops o te nx l with
  | none=>rw[hx]at h;cases h
  | some p =>
   obtain⟨v,nx',l'⟩:=p;rw[hx]at h;have:=JP hc hx hG ht hm (K:=fun O S=>sW ops L O S K) fun ψ z S' h1 h2 h3=>Fx hc h (hG.mono h1) ((ht.mono h1).tput h2) h3 fun χ O' S'' k1 k2 k3=>hK χ O' S'' (Ph.le_trans h1 k1) k2 k3;unfold sW;unfold wH at this;exact this
structure L9 where
 te:TE
 nx:Nat
 l:EL
 v:XV
def Fs(call:dh)(ops:Array Oper):List Oper->TE->Nat->EL->Option (List L9)
 | [],te,nx,l=>some [⟨te,nx,l,.any⟩]
 | o::r,te,nx,l=>match xg call ops o te nx l with
  | some (v,nx',l')=>(match Fs call ops r (tput te o.dst v) nx' l' with
   | some L=>some (⟨te,nx,l,v⟩::L)
   | ac=>ac)
  | ac=>ac
def g9:L9:=⟨.e,0,.e,.any⟩
theorem tB{call:dh}{ops:Array Oper}:∀{L:List Oper} {te:TE} {nx:Nat} {l:EL} {R:List L9},Fs call ops L te nx l=some R->R.length=L.length+1/\(R.getD 0 g9).te=te/\(R.getD 0 g9).nx=nx/\(R.getD 0 g9).l=l /\
  ∀(i:Nat) (o:Oper),L[i]? = some o->xg call ops o (R.getD i g9).te (R.getD i g9).nx (R.getD i g9).l=some ((R.getD i g9).v,(R.getD (i+1) g9).nx,(R.getD (i+1) g9).l)/\(R.getD (i+1) g9).te=tput (R.getD i g9).te o.dst (R.getD i g9).v
 | [],te,nx,l,R,h=>by
  simp only[Fs]at h;cases h;exact⟨rfl,rfl,rfl,rfl,fun i o hi=>by simp at hi⟩
 | o::L,te,nx,l,R,h=>by
  simp only[Fs]at h
  cases hx:xg call ops o te nx l with
  | none=>rw[hx]at h;cases h
  | some p =>
   obtain⟨v,nx',l'⟩:=p;rw[hx]at h;dsimp only at h
   cases hr:Fs call ops L (tput te o.dst v) nx' l' with
   | none=>rw[hr]at h;cases h
   | some R' =>
    rw[hr]at h
    cases h
    obtain⟨k1,k2,k3,k4,k5⟩:=tB hr;refine⟨by simp[k1],rfl,rfl,rfl,fun i o' hi=>?_⟩
    cases i with
    | zero =>
     simp at hi;subst hi;simp only[List.getD_cons_zero,aC,bv,k2,k3,k4];exact⟨hx,trivial⟩
    | succ i =>
     simp only[bv];exact k5 i o' (by simpa using hi)
theorem wU{call:dh}{ops:Array Oper}:∀{L:List Oper} {te:TE} {nx:Nat} {l:EL} {r:TE×Nat×EL},tD call ops L te nx l=some r->∃R,Fs call ops L te nx l=some R/\(R.getD L.length g9).te=r.1/\(R.getD L.length g9).nx=r.2.1/\(R.getD L.length g9).l=r.2.2
 | [],te,nx,l,r,h=>by
  rw[wV]at h;cases h;exact⟨_,rfl,rfl,rfl,rfl⟩
 | o::L,te,nx,l,r,h=>by
  rw[tC]at h
  cases hx:xg call ops o te nx l with
  | none=>rw[hx]at h;cases h
  | some p =>
   obtain⟨v,nx',l'⟩:=p;rw[hx]at h;obtain⟨R,h1,h2⟩:=wU h;refine⟨⟨te,nx,l,v⟩::R,by simp only[Fs,hx,h1],?_⟩
   simpa using h2
theorem DT{call:dh}{ops:Array Oper}{te:TE}{nx:Nat}{l:EL}{R:List L9}(h:Fs call ops ops.toList te nx l=some R):oQ call ops (fun i=>(R.getD i g9).te) (fun i=>(R.getD i g9).nx) (fun i=>(R.getD i g9).l) (fun i=>(R.getD i g9).v):=by
 obtain⟨_,_,_,_,k⟩:=tB h;refine⟨fun i o ho=>(k i o (by simpa using ho)).1,fun i o t ho=>?_⟩
 show ix (R.getD (i+1) g9).te t=_;rw[(k i o (by simpa using ho)).2,FM]
def z6(call:dh)(ops:Array Oper)(R:List L9)(alts:Nat->List Nat):Nat->List Oper->Bool
 | _,[]=>true
 | i,o::r=>(match ap (eG o.op) 1 with
  | true=>(alts i).all fun a=>ap a i||(match xg call ops o (R.getD i g9).te 0 (R.getD a g9).l with
   | some (v,_,_)=>jR v (R.getD i g9).v
   | ac=>false)
  | false=>true)&&z6 call ops R alts (i+1) r
theorem z5{call:dh}{ops:Array Oper}{R:List L9}{alts:Nat->List Nat}:∀{L:List Oper} {k:Nat},z6 call ops R alts k L=true->∀(i:Nat) (o:Oper) (a:Nat),L[i]? = some o->eG o.op=1->a∈alts (k+i)->a=k+i∨∃r,xg call ops o (R.getD (k+i) g9).te 0 (R.getD a g9).l=some r/\r.1=(R.getD (k+i) g9).v
 | [],_,_,i,o,a,hi,_,_=>by simp at hi
 | x::L,k,h,i,o,a,hi,hk,ha=>by
  simp only[z6,au]at h
  cases i with
  | zero =>
   simp at hi;subst hi;have h1:=h.1;rw[hk]at h1;simp only[az]at h1;have:=h1 a ha;simp only[cW]at this;rcases this with e|e
   ·exact bH (ao e)
   ·right;simp only[Nat.add_zero]at e ⊢
    cases hx:xg call ops x (R.getD k g9).te 0 (R.getD a g9).l with
    | none=>rw[hx]at e;cases e
    | some r =>
     rw[hx]at e;exact⟨r,rfl,vA _ _ e⟩
  | succ i =>
   have:=z5 h.2 i o a (by simpa using hi) hk (by rwa [show k+1+i=k+(i+1) by omega])
   rwa [show k+1+i=k+(i+1) by omega]at this
structure Reg where
 cls:List Nat
 alts:Nat->List Nat
 easy:Bool
def ql(l:List Oper):Reg :=
 let c:=xS l []
 let ks:=l.map fun o=>eG o.op
 let al:=(cf l.length).map (zj l c ks)
 ⟨c,fun i=>al.getD i [],al.zipIdx.all fun p=>p.1.all fun a=>ap a p.2⟩
def FZ(l:List Oper):Bool:=yI l (xS l []) (l.map fun o=>eG o.op) (ql l).alts
def zX(call:dh)(hard:Bool)(ops:Array Oper)(te:TE)(nx:Nat)(l:EL):Option (TE×Nat×EL):=match hard with
 | false=>tD call ops ops.toList te nx l
 | true=>match Fs call ops ops.toList te nx l with
  | some R=>(match z6 call ops R (ql ops.toList).alts 0 ops.toList with
   | true=>some ((R.getD ops.toList.length g9).te,(R.getD ops.toList.length g9).nx,(R.getD ops.toList.length g9).l)
   | false=>ac)
  | ac=>ac
theorem Jc{l:List Oper}(h:(ql l).easy=true):∀i a,a∈(ql l).alts i->a=i:=by
 intro i a ha;have h1:(((cf l.length).map (zj l (xS l []) (l.map fun o=>eG o.op))).zipIdx.all fun p=>p.1.all fun a=>ap a p.2)=true:=h;have ha':a∈((cf l.length).map (zj l (xS l []) (l.map fun o=>eG o.op))).getD i []:=ha;generalize (cf l.length).map (zj l (xS l []) (l.map fun o=>eG o.op))=al at h1 ha';rw[List.getD_eq_getElem?_getD]at ha'
 cases hg:al[i]? with
 | none=>rw[hg]at ha';simp at ha'
 | some x =>
  rw[hg]at ha';have:=az.1 h1 (x,i) (List.mk_mem_zipIdx_iff_getElem?.2 hg);have:=az.1 this a ha';exact ao this
theorem Ft{call:dh}(hc:kq call)(hp:rc call){hard:Bool}{ops:Array Oper}(hchk:FZ ops.toList=true)(hh:(hard||(ql ops.toList).easy)=true){te:TE}{nx:Nat}{l:EL}{r:TE×Nat×EL}(h:zX call hard ops te nx l=some r){φ:Ph}(hG:GP φ){O:Tm}{S:St}(ht:TR φ te O)(hm:MR φ l S){K:Tm->St->Prop}
  (hK:∀ψ O' S',φ.le ψ->TR ψ r.1 O'->MR ψ r.2.2 S'->K O' S'):awI ops O S K:=by
 have hs:=B8 hchk;have main:∀R,Fs call ops ops.toList te nx l=some R->(R.getD ops.toList.length g9).te=r.1->(R.getD ops.toList.length g9).l=r.2.2->(∀(i:Nat) (o:Oper) a,ops[i]? = some o->eG o.op=1->a∈(ql ops.toList).alts i->∃nx,xg call ops o (R.getD i g9).te nx (R.getD a g9).l=some ((R.getD i g9).v,nx,(R.getD a g9).l))->awI ops O S K:=by
  intro R hR e1 e2 hal;obtain⟨k1,k2,k3,k4,k5⟩:=tB hR;refine Iy hc hp hs (DT hR) hal hG (by show TR φ (R.getD 0 g9).te O;rw[k2];exact ht) (by show MR φ (R.getD 0 g9).l S;rw[k4];exact hm) fun ψ O' S' h1 h2 h3=>hK ψ O' S' h1 ?_ ?_
  ·rw[<-e1];exact h2
  ·rw[<-e2];exact h3
 unfold zX at h
 cases hard with
 | false =>
  have he:(ql ops.toList).easy=true:=hh;obtain⟨R,h1,h2,h3,h4⟩:=wU h;refine main R h1 h2 h4 fun i o a ho hk ha=>?_;obtain rfl:=Jc he i a ha;have:=((tB h1).2.2.2.2 a o (by simpa using ho)).1
  have e:=(qc hk this).1;simp only[Prod.mk.injEq]at e;rw[e.1,e.2]at this;exact⟨_,this⟩
 | true =>
  dsimp only at h
  cases hx:Fs call ops ops.toList te nx l with
  | none=>rw[hx]at h;cases h
  | some R =>
   rw[hx]at h;dsimp only at h
   cases hl:z6 call ops R (ql ops.toList).alts 0 ops.toList with
   | false=>rw[hl]at h;cases h
   | true =>
    rw[hl]at h
    cases h
    refine main R hx rfl rfl fun i o a ho hk ha=>?_;have ho':ops.toList[i]? = some o:=by simpa using ho
    have:=z5 hl i o a ho' hk (by rwa [aC])
    rw[aC]at this;rcases this with rfl|⟨p,h1,h2⟩
    ·have:=((tB hx).2.2.2.2 a o ho').1;have e:=(qc hk this).1;simp only[Prod.mk.injEq]at e;rw[e.1,e.2]at this;exact⟨_,this⟩
    ·have e:=(qc hk h1).1;refine⟨0,?_⟩;rw[h1];obtain⟨p1,p2,p3⟩:=p;simp only[Prod.mk.injEq]at e;rw[e.1,e.2,<-h2]
inductive XE where
 | normal
 | ret
 | exit (id:Nat)
def XE.ax:XE->AX
 | .normal=>.normal
 | .ret=>.ret
 | .exit i=>.exit i
abbrev XC:=Option (XE×TE×Nat×EL)
def xn:Option (TE×Nat×EL)->XC
 | some r=>some (.normal,r)
 | ac=>ac
abbrev Lr:=Code->TE->Nat->EL->XC
def CY(r:XC)(k:TE->Nat->EL->XC):XC:=match r with
 | some (e,q)=>(match e with
  | .normal=>k q.1 q.2.1 q.2.2
  | .ret=>some (.ret,q)
  | .exit i=>some (.exit i,q))
 | ac=>ac
def BO(id:Nat)(r:XC):XC:=match r with
 | some (e,q)=>(match e with
  | .normal=>some (.normal,q)
  | .ret=>some (.ret,q)
  | .exit i=>(match ap i id with
   | true=>some (.normal,q)
   | false=>some (.exit i,q)))
 | ac=>ac
def JQ(b:XV)(x y:XC):XC:=match b with
 | .bool t=>(match t with
  | true=>x
  | false=>y)
 | _=>ac
def JN(call:dh)(hm:Nat)(ih:Lr)(c:Code):TE->Nat->EL->XC:=match c with
 | .skip=>fun te nx l=>some (.normal,te,nx,l)
 | .region id ops b=>(match b with
  | false=>fun te nx l=>xn (od call ops ops.toList te nx l)
  | true=>fun te nx l=>xn (zX call (gK hm id) ops te nx l))
 | .seq x y=>fun te nx l=>CY (ih x te nx l) (ih y)
 | .cond b x y=>fun te nx l=>JQ (ji te b) (ih x te nx l) (ih y te nx l)
 | .block id c=>fun te nx l=>BO id (ih c te nx l)
 | .loop c=>fun te nx l=>CY (ih c te nx l) (ih (.loop c))
 | .exit id=>fun te nx l=>some (.exit id,te,nx,l)
 | .ret=>fun te nx l=>some (.ret,te,nx,l)
 | .scope c=>ih c
 | .label _=>fun te nx l=>some (.normal,te,nx,l)
 | _=>fun _ _ _=>ac
def kB(call:dh)(hm:Nat)(n:Nat):Lr:=Nat.rec (motive:=fun _=>Lr) (fun _ _ _ _=>ac) (fun _ ih=>JN call hm ih) n
theorem tF(call:dh)(hm:Nat)(c:Code)(te:TE)(nx:Nat)(l:EL):kB call hm 0 c te nx l=ac:=rfl
theorem fC(call:dh)(hm n:Nat)(c:Code)(te:TE)(nx:Nat)(l:EL):kB call hm (n+1) c te nx l=JN call hm (kB call hm n) c te nx l:=rfl
def iT(hm:Nat):Code->Bool
 | .region id ops true=>FZ ops.toList&&(gK hm id||(ql ops.toList).easy)
 | .seq x y=>iT hm x&&iT hm y
 | .cond _ x y=>iT hm x&&iT hm y
 | .block _ c=>iT hm c
 | .loop c=>iT hm c
 | .scope c=>iT hm c
 | _=>true
theorem mj{P:Nat->Prop}(h:∃n,P n):∃n,P n/\∀m,m<n->¬P m:=by
 obtain⟨n,hn⟩:=h
 induction n using nL with
 | ind n ih =>
  by_cases h:∃m,m<n/\P m
  ·obtain⟨m,h1,h2⟩:=h;exact ih m h1 h2
  ·exact⟨n,hn,fun m h1 h2=>h ⟨m,h1,h2⟩⟩
theorem EK{c:Code}{Q:AX->Tm->St->Prop}(J:Nat->Tm->St->Prop)(h:∀n O S,J n O S->∀k:Tm->St->Prop,(∀m O' S',m<n->J m O' S'->k O' S')->aw c (AX.seq k Q) O S){n:Nat}{O:Tm}{S:St}(h0:J n O S):aw (.loop c) Q O S:=by
 classical
 refine⟨fun O S=>∃n,J n O S,fun O S=>if h:∃n,J n O S then Classical.choose (mj h)else 0,⟨n,h0⟩,fun O S hI=>?_⟩
 have hm:=Classical.choose_spec (mj hI);have e:(if h:∃n,J n O S then Classical.choose (mj h)else 0)=Classical.choose (mj hI):=by rw[dif_pos hI]
 refine h _ O S hm.1 _ fun m O' S' h1 h2=>⟨⟨m,h2⟩,?_⟩;have hI':∃n,J n O' S':=⟨m,h2⟩;have e':(if h:∃n,J n O' S' then Classical.choose (mj h)else 0)=Classical.choose (mj hI'):=by rw[dif_pos hI']
 show(if h:∃n,J n O' S' then Classical.choose (mj h)else 0)<(if h:∃n,J n O S then Classical.choose (mj h)else 0)
 rw[e,e'];have:=(Classical.choose_spec (mj hI')).2;rcases Nat.lt_or_ge m (Classical.choose (mj hI'))with h3|h3
 ·exact(this m h3 h2).elim
 ·omega
theorem FG{call:dh}(hc:kq call)(hp:rc call)(hm0:Nat):∀(n:Nat) (c:Code) (te:TE) (nx:Nat) (l:EL) (r:XE×TE×Nat×EL),iT hm0 c=true->kB call hm0 n c te nx l=some r->∀{φ:Ph},GP φ->∀{O:Tm} {S:St},TR φ te O->MR φ l S->∀{Q:AX->Tm->St->Prop},
  (∀ψ O' S',φ.le ψ->TR ψ r.2.1 O'->MR ψ r.2.2.2 S'->Q r.1.ax O' S')->aw c Q O S:=by
 intro n
 induction n using nL with
 | ind n ih0 =>
 cases n with
 | zero=>intro c te nx l r _ h;rw[tF]at h;cases h
 | succ n =>
  have ih:=ih0 n om;intro c te nx l r hok h φ hG O S ht hm Q hQ
  cases c with
  | skip=>rw[fC]at h;cases h;exact hQ φ O S (Ph.le_refl _) ht hm
  | region id ops b =>
   cases b with
   | false =>
    rw[fC]at h;change xn (od call ops ops.toList te nx l)=some r at h
    cases hx:od call ops ops.toList te nx l with
    | none=>rw[hx]at h;cases h
    | some p =>
     rw[hx]at h;cases h;exact wW hc hx hG ht hm hQ
   | true =>
    rw[fC]at h;change xn (zX call (gK hm0 id) ops te nx l)=some r at h;simp only[iT,au]at hok
    cases hx:zX call (gK hm0 id) ops te nx l with
    | none=>rw[hx]at h;cases h
    | some p =>
     rw[hx]at h;cases h;exact bD (bD (bD (bD (Ft hc hp hok.1 hok.2 hx hG ht hm hQ))))
  | seq x y =>
   rw[fC]at h;change CY (kB call hm0 n x te nx l) (kB call hm0 n y)=some r at h;simp only[iT,au]at hok;simp only[aw]
   cases hx:kB call hm0 n x te nx l with
   | none=>rw[hx]at h;cases h
   | some p =>
    obtain⟨e,te',nx',l'⟩:=p;rw[hx]at h;refine ih x te nx l _ hok.1 hx hG ht hm fun ψ O' S' h1 h2 h3=>?_
    cases e with
    | normal=>exact ih y te' nx' l' r hok.2 h (hG.mono h1) h2 h3 fun χ O'' S'' k1 k2 k3=>hQ χ O'' S'' (Ph.le_trans h1 k1) k2 k3
    | ret=>cases h;exact hQ ψ O' S' h1 h2 h3
    | exit i=>cases h;exact hQ ψ O' S' h1 h2 h3
  | cond b x y =>
   rw[fC]at h;change JQ (ji te b) (kB call hm0 n x te nx l) (kB call hm0 n y te nx l)=some r at h;simp only[iT,au]at hok;simp only[aw];have hv:=ht.ev b
   cases hb:ji te b with
   | bool t =>
    rw[hb]at h hv;simp only[ER]at hv;rw[hv]
    cases t with
    | true=>exact⟨fun _=>ih x te nx l r hok.1 h hG ht hm hQ,fun e=>by cases e⟩
    | false=>exact⟨fun e=>(by cases e),fun _=>ih y te nx l r hok.2 h hG ht hm hQ⟩
   | _=>rw[hb]at h;cases h
  | block id c =>
   rw[fC]at h;change BO id (kB call hm0 n c te nx l)=some r at h;simp only[iT]at hok;simp only[aw]
   cases hx:kB call hm0 n c te nx l with
   | none=>rw[hx]at h;cases h
   | some p =>
    obtain⟨e,p⟩:=p;rw[hx]at h;refine ih c te nx l _ hok hx hG ht hm fun ψ O' S' h1 h2 h3=>?_
    cases e with
    | normal=>cases h;exact hQ ψ O' S' h1 h2 h3
    | ret=>cases h;exact hQ ψ O' S' h1 h2 h3
    | exit i =>
     simp only[BO]at h;show(if i=id then Q .normal else Q (.exit i)) O' S'
     cases hb:ap i id with
     | true =>
      rw[hb]at h;cases h;rw[if_pos (ao hb)];exact hQ ψ O' S' h1 h2 h3
     | false =>
      rw[hb]at h;cases h;rw[if_neg (fun e=>by subst e;simp at hb)]
      exact hQ ψ O' S' h1 h2 h3
  | loop c =>
   simp only[iT]at hok;refine EK (fun m O S=>m<=n+1/\∃ψ te nx l,φ.le ψ/\TR ψ te O/\MR ψ l S/\kB call hm0 m (.loop c) te nx l=some r) ?_ (n:=n+1) ⟨ah _,φ,te,nx,l,Ph.le_refl _,ht,hm,h⟩;rintro m O S ⟨hmn,ψ,te,nx,l,h1,h2,h3,h4⟩ k hk
   cases m with
   | zero=>rw[tF]at h4;cases h4
   | succ m =>
    rw[fC]at h4;change CY (kB call hm0 m c te nx l) (kB call hm0 m (.loop c))=some r at h4
    cases hx:kB call hm0 m c te nx l with
    | none=>rw[hx]at h4;cases h4
    | some p =>
     obtain⟨e,te',nx',l'⟩:=p;rw[hx]at h4;have body:∀{Q:AX->Tm->St->Prop},(∀χ O' S',ψ.le χ->TR χ te' O'->MR χ l' S'->Q e.ax O' S')->aw c Q O S:=by
      intro Q hQ;exact ih0 m om c te nx l _ hok hx (hG.mono h1) h2 h3 hQ
     refine body fun χ O' S' k1 k2 k3=>?_
     cases e with
     | normal=>exact hk m O' S' om ⟨by omega,χ,te',nx',l',Ph.le_trans h1 k1,k2,k3,h4⟩
     | ret=>cases h4;exact hQ χ O' S' (Ph.le_trans h1 k1) k2 k3
     | exit i=>cases h4;exact hQ χ O' S' (Ph.le_trans h1 k1) k2 k3
  | exit id=>rw[fC]at h;cases h;exact hQ φ O S (Ph.le_refl _) ht hm
  | ret=>rw[fC]at h;cases h;exact hQ φ O S (Ph.le_refl _) ht hm
  | scope c =>
   rw[fC]at h;change kB call hm0 n c te nx l=some r at h;simp only[iT]at hok;simp only[aw];exact ih c te nx l r hok h hG ht hm hQ
  | label _=>rw[fC]at h;cases h;exact hQ φ O S (Ph.le_refl _) ht hm
  | _=>rw[fC]at h;cases h
end
end Go.Proofs.YtdobfmlmenaajaaGreatDoor
