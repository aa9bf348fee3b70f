/-
  Lemmas for NeighbourMembers.
-/
import Derived.Test.YtdobfmlmenaajaaGreatDoorN16
namespace Go.Proofs.YtdobfmlmenaajaaGreatDoor
open Go.RowKit
open _root_.Bool renaming and_eq_true→au,false_eq_true→aN
open _root_.List renaming map_cons→cj,flatMap_cons→cT,map_nil→lO,cons→oc
open _root_.Nat renaming eq_of_beq_eq_true→ao,beq→ap,testBit→gK,ble→gZ
open _root_.Option renaming none→ac,map_eq_some_iff→ck,map_some→da
set_option maxHeartbeats 6400000
set_option maxRecDepth 4096
set_option linter.all false
noncomputable section
def xun(op:UnOp)(x:XV):Option XV:=match op,x with
 | .neg,.int k n=>some (.int k (k.wrap (0-n)))
 | .not,.bool b=>some (.bool (!b))
 | _,_=>ac
theorem Kn{φ:Ph}{op:UnOp}{x v:XV}{a:AV}{K:AV->Prop}(h:xun op x=some v)(hx:ER φ x a)(hk:∀z,ER φ v z->K z):J7 op a K:=by
 unfold xun at h;split at h
 ·simp only[ER]at hx;subst hx;cases h;exact hk _ (by simp[ER])
 ·simp only[ER]at hx;subst hx;cases h;exact hk _ (by simp[ER])
 ·cases h
def FF(s d:Nat)(x:XV):Option XV:=match qx d,x with
 | some k,.int _ n=>match wh s with
  | true=>some (.int k (k.wrap n))
  | false=>ac
 | _,_=>ac
theorem FE{φ:Ph}{s d:Nat}{x v:XV}{a:AV}{K:AV->Prop}(h:FF s d x=some v)(hx:ER φ x a)(hk:∀z,ER φ v z->K z):qV s d a K:=by
 unfold FF at h;split at h
 ·rename_i k k' n hkd;simp only[ER]at hx;subst hx;split at h
  ·rename_i hs
   cases h
   unfold qV;simp only[hkd];exact⟨hs,hk _ (by simp[ER])⟩
  ·cases h
 ·cases h
def BN(t:Nat)(ps:List (Nat×XV)):Option XV:=match t,ps with
 | 50,[]=>some (.big 0)
 | 167,[(0,x),(1,y)]=>if lH 2 x&&lH 2 y then some (.agg [x,y])else ac
 | 195,[(0,x),(1,y)]=>if lH 2 x&&lH 2 y then some (.agg [x,y])else ac
 | 183,[(0,x),(1,y)]=>if lH 1 x&&lH 1 y then some (.agg [x,y])else ac
 | 218,[(0,x),(1,y)]=>if lH 1 x&&lH 1 y then some (.agg [x,y])else ac
 | 202,[(0,x),(1,y)]=>if lH 1 x&&lH 1 y then some (.agg [x,y])else ac
 | 160,[(0,x),(1,y)]=>if lH 1 x&&lH 1 y then some (.agg [x,y,.nil,.nfn])else ac
 | 238,[(0,x),(1,y),(2,z)]=>if lH 1 x&&lH 1 y&&lH 1 z then some (.agg [x,y,z])else ac
 | 197,[(0,x),(1,y),(2,z),(3,.agg [p,q]),(4,.agg [r,s])]=>if lG 2 [x,y,z,p,q,r,s]then some (.agg [x,y,z,p,q,r,s])else ac
 | _,_=>ac
def Hg(φ:Ph):List (Nat×XV)->List (Nat×AV)->Prop
 | [],[]=>True
 | p::l,q::r=>p.1=q.1/\ER φ p.2 q.2/\Hg φ l r
 | _,_=>False
theorem D0{φ:Ph}{t:Nat}{ps:List (Nat×XV)}{qs:List (Nat×AV)}{v:XV}{K:AV->Prop}(h:BN t ps=some v)(hp:Hg φ ps qs)(hk:∀z,ER φ v z->K z):oO t qs K:=by
 have two:∀{x y:XV} {qs:List (Nat×AV)},Hg φ [(0,x),(1,y)] qs->∃a b,qs=[(0,a),(1,b)]/\ER φ x a/\ER φ y b:=by
  intro x y qs hp
  match qs,hp with
  | [(i,a),(j,b)],hp =>
   simp only[Hg]at hp;obtain⟨rfl,ha,rfl,hb,_⟩:=hp;exact⟨a,b,rfl,ha,hb⟩
  | [],hp=>exact hp.elim
  | [_],hp=>exact hp.2.2.elim
  | _::_::_::_,hp=>exact hp.2.2.2.2.elim
 unfold BN at h;split at h
 ·match qs,hp with
  | [],_=>cases h;exact hk _ (by simp[ER])
 all_goals first
  | (rename_i x y
     obtain⟨a,b,rfl,ha,hb⟩:=two hp;split at h
     ·rename_i h2;simp only[au]at h2
      cases h
      refine⟨jy h2.1 ha,jy h2.2 hb,hk _ ?_⟩;simp only[ER];refine⟨_,rfl,?_⟩;simp only[dZ,ER];simp[ha,hb]
     ·cases h)
  | (rename_i x y z
     split at h
     ·rename_i h2;simp only[au]at h2
      cases h
      match qs,hp with
      | [(i1,a),(i2,b),(i3,c)],hp =>
       simp only[Hg]at hp;obtain⟨rfl,ha,rfl,hb,rfl,hc,_⟩:=hp;refine⟨jy h2.1.1 ha,jy h2.1.2 hb,jy h2.2 hc,hk _ ?_⟩;simp only[ER];refine⟨_,rfl,?_⟩;simp only[dZ];exact⟨ha,hb,hc,trivial⟩
      | [],hp=>exact hp.elim
      | [_],hp=>exact hp.2.2.elim
      | [_,_],hp=>exact hp.2.2.2.2.elim
      | _::_::_::_::_,hp=>exact hp.2.2.2.2.2.2.elim
     ·cases h)
  | (rename_i x y z p q r s
     split at h
     ·rename_i h2
      cases h
      match qs,hp with
      | [(i1,a),(i2,b),(i3,c),(i4,d),(i5,e)],hp =>
       simp only[Hg]at hp;obtain⟨rfl,ha,rfl,hb,rfl,hc,rfl,hd,rfl,he,_⟩:=hp;simp only[ER]at hd he;obtain⟨R,rfl,hR⟩:=hd;obtain⟨R',rfl,hR'⟩:=he
       match R,R',hR,hR' with
       | [p',q'],[r',s'],hR,hR' =>
        simp only[dZ]at hR hR';have hL:dZ φ [x,y,z,p,q,r,s] [a,b,c,p',q',r',s']:=by
         simp only[dZ];exact⟨ha,hb,hc,hR.1,hR.2.1,hR'.1,hR'.2.1,trivial⟩
        have hS:=mN h2 hL;refine⟨hS _ (by simp),hS _ (by simp),hS _ (by simp),hS _ (by simp),hS _ (by simp),hS _ (by simp),hS _ (by simp),hk _ ?_⟩
        simp only[ER];exact⟨_,rfl,hL⟩
       | [],_,hR,_=>simp[dZ]at hR
       | [_],_,hR,_=>simp[dZ]at hR
       | _::_::_::_,_,hR,_=>simp[dZ]at hR
       | [_,_],[],_,hR=>simp[dZ]at hR
       | [_,_],[_],_,hR=>simp[dZ]at hR
       | [_,_],_::_::_::_,_,hR=>simp[dZ]at hR
      | [],hp=>exact hp.elim
      | [_],hp=>exact hp.2.2.elim
      | [_,_],hp=>exact hp.2.2.2.2.elim
      | [_,_,_],hp=>exact hp.2.2.2.2.2.2.elim
      | [_,_,_,_],hp=>exact hp.2.2.2.2.2.2.2.2.elim
      | _::_::_::_::_::_::_,hp=>exact hp.2.2.2.2.2.2.2.2.2.2.elim
     ·cases h)
  | cases h
def oA:Nat->List (Nat×XV)->Bool
 | _,[]=>true
 | k,p::l=>ap p.1 k&&oA (k+1) l
theorem sG{φ:Ph}:∀{ps:List (Nat×XV)} {qs:List (Nat×AV)} {k:Nat},oA k ps=true->Hg φ ps qs->qs=dG k (qs.map (·.2))/\dZ φ (ps.map (·.2)) (qs.map (·.2))/\qs.length=ps.length
 | [],[],k,_,_=>⟨rfl,by simp[dZ],rfl⟩
 | p::l,q::r,k,h,hp=>by
  simp only[oA,au]at h;simp only[Hg]at hp;obtain⟨h1,h2,h3⟩:=sG h.2 hp.2.2;have e:=ao h.1;refine⟨?_,by simp only[cj,dZ];exact⟨hp.2.1,h2⟩,by simp[h3]⟩
  simp only[cj,dG,oc.injEq];refine⟨?_,h1⟩;obtain⟨i,a⟩:=q;simp only at hp ⊢;rw[<-hp.1,e]
 | [],_::_,_,_,hp=>hp.elim
 | _::_,[],_,_,hp=>hp.elim
def kC(t n:Nat)(ps:List (Nat×XV))(nx:Nat)(l:EL):XR:=match cX t with
 | some e=>match oA 0 ps&&ap ps.length n&&gZ n 16&&(zE e).isSome&&lG (bI e) (ps.map (·.2))with
  | true=>qt nx l ⟨e,bI e,ps.map (·.2)⟩ (.sl (bI e) nx 0 n)
  | false=>ac
 | ac=>ac
theorem tJ{φ:Ph}{t n nx:Nat}{ps:List (Nat×XV)}{qs:List (Nat×AV)}{l:EL}{S:St}{r:XV×Nat×EL}{K:AV->St->Prop}(h:kC t n ps nx l=some r)(hp:Hg φ ps qs)(hm:MR φ l S)(hk:XK φ r.1 r.2.2 K):cL t n qs S K:=by
 unfold kC at h;split at h
 ·rename_i e he;split at h
  ·rename_i h2;simp only[au]at h2;obtain⟨⟨⟨⟨p1,p2⟩,p3⟩,p4⟩,p5⟩:=h2;obtain⟨q1,q2,q3⟩:=sG p1 hp;have p2:=ao p2;have hz:(eQ e).isSome=true:=by
    cases hz:zE e with
    | none=>rw[hz]at p4;cases p4
    | some y =>
     obtain⟨a,v,h3,_⟩:=zW (t:=e) (es:=y.1) (x:=y.2) hz;rw[h3];rfl
   unfold cL;simp only[he];refine⟨q1,by omega,Nat.le_of_ble_eq_true p3,hz,fun p hp=>mN p5 q2 p.2 (List.mem_map_of_mem hp),fun b hb=>?_⟩
   exact nm h hm q2.toG (by simp;omega) hk hb (.inr ⟨rfl,rfl⟩)
  ·cases h
 ·cases h
def Kp(t:Nat)(x i:XV):Option XV:=match x,i with
 | .agg [p,q],.int _ n=>if t=195/\(n=0∨n=1)then(if lH 2 p&&lH 2 q then some (if n=0 then p else q)else ac)else ac
 | .agg [p,q,r],.int _ (.ofNat n)=>(match ap t 238&&Nat.blt n 3&&lG 1 [p,q,r]with
  | true=>[p,q,r][n]?
  | false=>ac)
 | _,_=>ac
theorem H2{φ:Ph}{t:Nat}{x i v:XV}{a c:AV}{K:AV->Prop}(h:Kp t x i=some v)(hx:ER φ x a)(hi:ER φ i c)(hk:∀z,ER φ v z->K z):zo t a c K:=by
 unfold Kp at h;split at h
 ·rename_i p q k n;simp only[ER]at hx hi;subst hi;obtain⟨R,rfl,hR⟩:=hx;split at h
  ·rename_i h1;split at h
   ·rename_i h2;simp only[au]at h2
    cases h
    match R,hR with
    | [p',q'],hR =>
     simp only[dZ]at hR;refine Or.inl ⟨h1.1,p',q',rfl,jy h2.1 hR.1,jy h2.2 hR.2.1,h1.2,hk _ ?_⟩;split
     ·exact hR.1
     ·exact hR.2.1
    | [],hR=>simp[dZ]at hR
    | [_],hR=>simp[dZ]at hR
    | _::_::_::_,hR=>simp[dZ]at hR
   ·cases h
  ·cases h
 ·rename_i p q r k n;simp only[ER]at hx hi;subst hi;obtain⟨R,rfl,hR⟩:=hx;split at h
  ·rename_i h2;simp only[au,Nat.blt_eq]at h2;obtain⟨⟨h3,h4⟩,h5⟩:=h2;have h3:=ao h3;obtain⟨a,h6,h7⟩:=hR.get h;have hl:=hR.length;refine Or.inr ⟨Or.inl ⟨h3,hl⟩,mN h5 hR,⟨Int.natCast_nonneg n,by rw[hl];exact Int.ofNat_lt.2 h4⟩,?_⟩
   have:R.getD (Int.toNat (Int.ofNat n)) .any=a:=by
    rw[List.getD_eq_getElem?_getD];show(R[n]?).getD .any=a;rw[h6];rfl
   rw[this];exact hk a h7
  ·cases h
 ·cases h
def GP(φ:Ph):Prop:=φ 0=some 0
theorem GP.mono{φ ψ:Ph}(h:GP φ)(hle:φ.le ψ):GP ψ:=hle _ _ h
def kq(call:dh):Prop:=∀f args nx l r,call f args nx l=some r->∀φ as' S K,GP φ->dZ φ args as'->MR φ l S->XK φ r.1 r.2.2 K ->
 ((11<=f/\f<270)/\f≠252/\f≠253)/\cM f as' S K
def lA(b:Builtin)(args:List XV)(ts:List Nat)(nx:Nat)(l:EL):XR:=match b,args,ts with
 | .len,[x],[t]=>(Ko t x).map fun v=>(v,nx,l)
 | .max,[.int k a,.int k' c],_=>if k=k' then some (.int k (if c > a then c else a),nx,l)else ac
 | .append,[s,x],[t,t']=>(match ap t' 3 with
  | true=>tK t s x nx l
  | false=>yh t t' s x nx l)
 | .copy,[s,x],[t,_]=>(FD t s x l).map fun p=>(p.1,nx,p.2)
 | _,_,_=>ac
def wT(call:dh)(o:Oper)(te:TE)(nx:Nat)(l:EL):XR:=match o.op with
 | .move x=>some (ji te x,nx,l)
 | .assign x=>some (ji te x,nx,l)
 | .pick c x y=>match ji te c with
  | .bool t=>some (if t then ji te x else ji te y,nx,l)
  | _=>ac
 | .alloc t=>tL t nx l
 | .box t x=>FH t (ji te x) nx l
 | .build t ps=>(BN t (ps.toList.map fun p=>(p.1,ji te p.2))).map fun v=>(v,nx,l)
 | .buildSlice t n ps=>kC t n (ps.toList.map fun p=>(p.1,ji te p.2)) nx l
 | .load t x=>(si t (ji te x) l).map fun v=>(v,nx,l)
 | .store t x y=>(BG t (ji te x) (ji te y) l).map fun l'=>(.any,nx,l')
 | .nilCheck x=>match ji te x with
  | .ptr es b i=>some (.ptr es b i,nx,l)
  | .pat es y=>some (.pat es y,nx,l)
  | _=>ac
 | .binOp op t x y _=>(Kt op t (ji te x) (ji te y)).map fun v=>(v,nx,l)
 | .unOp op _ x=>(xun op (ji te x)).map fun v=>(v,nx,l)
 | .convert s d x=>(FF s d (ji te x)).map fun v=>(v,nx,l)
 | .makeFunc (.func f) fi cs=>match fi.toList,cs.toList with
  | [],L=>some (.fn f (L.map (ji te)),nx,l)
  | x::L,[]=>some (.mfn f ((x::L).map (ji te)),nx,l)
  | _,_=>ac
 | .makeSlice t x y=>z0 t (ji te x) (ji te y) nx l
 | .slice t x lo hi mx=>(BH t (ji te x) (lo.map (ji te)) (hi.map (ji te)) (mx.map (ji te))).map fun v=>(v,nx,l)
 | .fieldAddr t x f=>(BM t (ji te x) f).map fun v=>(v,nx,l)
 | .indexAddr t x i=>(BK t (ji te x) (ji te i)).map fun v=>(v,nx,l)
 | .index t x i=>(Kp t (ji te x) (ji te i)).map fun v=>(v,nx,l)
 | .extract x i=>match ji te x with
  | .tup L=>(L[i]?).map fun v=>(v,nx,l)
  | _=>ac
 | .call c=>match c.callee with
  | .value f=>match ji te f with
   | .fn g cs=>call g (c.args.toList.map (ji te)++cs) nx l
   | .mfn g cs=>call g (cs++c.args.toList.map (ji te)) nx l
   | _=>ac
  | .builtin b=>lA b (c.args.toList.map (ji te)) c.argTypes.toList nx l
  | _=>ac
 | _=>ac
theorem TR.evP{φ:Ph}{te:TE}{O:Tm}(h:TR φ te O):∀ps:List (Nat×Operand),Hg φ (ps.map fun p=>(p.1,ji te p.2)) (ps.map fun p=>(p.1,Go.Proofs.YtdobfmlmenaajaaGreatDoor.ev O p.2))
 | []=>trivial
 | p::ps=>by simp only[cj,Hg];exact⟨trivial,h.ev p.2,h.evP ps⟩
theorem TR.evO{φ:Ph}{te:TE}{O:Tm}(h:TR φ te O)(x:Option Operand):LC φ (x.map (ji te)) (x.map (Go.Proofs.YtdobfmlmenaajaaGreatDoor.ev O)):=by
 cases x with
 | none=>trivial
 | some x=>exact h.ev x
theorem yg{call:dh}(hc:kq call){o:Oper}{te:TE}{nx:Nat}{l:EL}{r:XV×Nat×EL}(h:wT call o te nx l=some r){φ:Ph}(hG:GP φ){O:Tm}{S:St}(ht:TR φ te O)(hm:MR φ l S){K:AV->St->Prop}(hk:XK φ r.1 r.2.2 K):vF o O S K:=by
 have pure_:∀(p:Option XV),p.map (fun v=>(v,nx,l))=some r->∃v,p=some v/\∀z,ER φ v z->K z S:=by
  intro p hp;obtain⟨v,rfl,hv⟩:=ck.1 hp;subst hv;exact⟨v,rfl,fun z hz=>hk φ z S (Ph.le_refl _) hz hm⟩
 unfold wT at h;unfold vF;split at h
 ·rename_i x ho;simp only[ho];cases h;exact hk _ _ _ (Ph.le_refl _) (ht.ev x) hm
 ·rename_i x ho;simp only[ho];cases h;exact hk _ _ _ (Ph.le_refl _) (ht.ev x) hm
 ·rename_i c x y ho;simp only[ho];split at h
  ·rename_i t hct
   cases h
   have:=ht.ev c;rw[hct]at this;simp only[ER]at this;simp only[this];refine hk _ _ _ (Ph.le_refl _) ?_ hm
   cases t
   ·exact ht.ev y
   ·exact ht.ev x
  ·cases h
 ·rename_i t ho;simp only[ho];exact D3 h hm hk
 ·rename_i t x ho;simp only[ho];exact H5 h (ht.ev x) hm hk
 ·rename_i t ps ho;simp only[ho];obtain⟨v,h1,h2⟩:=pure_ _ h;exact D0 h1 (ht.evP ps.toList) h2
 ·rename_i t n ps ho;simp only[ho];exact tJ h (ht.evP ps.toList) hm hk
 ·rename_i t x ho;simp only[ho];obtain⟨v,h1,h2⟩:=pure_ _ h;exact z8 h1 (ht.ev x) hm h2
 ·rename_i t x y ho;simp only[ho];obtain⟨l',h1,h2⟩:=ck.1 h;subst h2;exact DU h1 (ht.ev x) (ht.ev y) hm fun S' hS=>hk _ _ _ (Ph.le_refl _) (by simp[ER]) hS
 ·rename_i x ho;simp only[ho];have hx:=ht.ev x;split at h
  ·rename_i es b i hxe
   cases h
   rw[hxe]at hx;simp only[ER]at hx;obtain⟨b',hb,e⟩:=hx;simp only[e];exact hk _ _ _ (Ph.le_refl _) (by simp only[ER];exact⟨b',hb,rfl⟩) hm
  ·rename_i es y hxe
   cases h
   rw[hxe]at hx;simp only[ER]at hx;obtain⟨y',e,hy⟩:=hx;simp only[e];exact hk _ _ _ (Ph.le_refl _) (by simp only[ER];exact⟨y',rfl,hy⟩) hm
  ·cases h
 ·rename_i op t x y _ ho;simp only[ho];obtain⟨v,h1,h2⟩:=pure_ _ h;exact H6 h1 (ht.ev x) (ht.ev y) h2
 ·rename_i op t x ho;simp only[ho];obtain⟨v,h1,h2⟩:=pure_ _ h;exact Kn h1 (ht.ev x) h2
 ·rename_i s d x ho;simp only[ho];obtain⟨v,h1,h2⟩:=pure_ _ h;exact FE h1 (ht.ev x) h2
 ·rename_i f fi cs ho;simp only[ho];split at h
  ·rename_i hfi
   cases h
   simp only[hfi,lO,pX];exact hk _ _ _ (Ph.le_refl _) (by simp only[ER];exact⟨_,rfl,ht.evL cs.toList⟩) hm
  ·rename_i x L hfi hcs
   cases h
   simp only[hfi,hcs,lO,cj,pX];exact⟨trivial,hk _ _ _ (Ph.le_refl _) (by simp only[ER];exact⟨_,rfl,ht.evL (x::L)⟩) hm⟩
  ·cases h
 ·rename_i t x y ho;simp only[ho];exact Fw h (ht.ev x) (ht.ev y) hm hk
 ·rename_i t x lo hi mx ho;simp only[ho];obtain⟨v,h1,h2⟩:=pure_ _ h;exact DV h1 (ht.ev x) (ht.evO lo) (ht.evO hi) (ht.evO mx) h2
 ·rename_i t x f ho;simp only[ho];obtain⟨v,h1,h2⟩:=pure_ _ h;exact DZ h1 (ht.ev x) h2
 ·rename_i t x i ho;simp only[ho];obtain⟨v,h1,h2⟩:=pure_ _ h;exact DY h1 (ht.ev x) (ht.ev i) h2
 ·rename_i t x i ho;simp only[ho];obtain⟨v,h1,h2⟩:=pure_ _ h;exact H2 h1 (ht.ev x) (ht.ev i) h2
 ·rename_i x i ho;simp only[ho];have hx:=ht.ev x;split at h
  ·rename_i L hxe;obtain⟨v,h1,h2⟩:=pure_ _ h;rw[hxe]at hx;simp only[ER]at hx;obtain⟨R,e,hR⟩:=hx;obtain⟨a,h3,h4⟩:=hR.get h1;simp only[e,h3];exact h2 a h4
  ·cases h
 ·rename_i c ho;simp only[ho];unfold qW;split at h
  ·rename_i f hf;simp only[hf];have hx:=ht.ev f;split at h
   ·rename_i g cs hge;rw[hge]at hx;simp only[ER]at hx;obtain⟨R,e,hR⟩:=hx;simp only[e];exact hc _ _ _ _ _ h φ _ S K hG ((ht.evL _).append hR) hm hk
   ·rename_i g cs hge;rw[hge]at hx;simp only[ER]at hx;obtain⟨R,e,hR⟩:=hx;simp only[e];exact hc _ _ _ _ _ h φ _ S K hG (hR.append (ht.evL _)) hm hk
   ·cases h
  ·rename_i b hb;simp only[hb];unfold lA at h;have hL:=ht.evL c.args.toList;split at h
   ·rename_i x t hx hts;rw[hx]at hL;obtain⟨v,h1,h2⟩:=pure_ _ h
    cases ha:c.args.toList with
    | nil=>rw[ha]at hx;simp at hx
    | cons y r =>
     cases r with
     | cons _ _=>rw[ha]at hx;simp at hx
     | nil =>
      rw[ha]at hx;simp only[cj,lO,oc.injEq,and_true]at hx;rw[<-hx]at h1;simp only[hts];exact H1 h1 (ht.ev y) h2
   ·rename_i k a k' d hx;split at h
    ·rename_i hkk;subst hkk
     cases h
     cases ha:c.args.toList with
     | nil=>rw[ha]at hx;simp at hx
     | cons y r =>
      cases r with
      | nil=>rw[ha]at hx;simp at hx
      | cons y' r =>
       cases r with
       | cons _ _=>rw[ha]at hx;simp at hx
       | nil =>
        rw[ha]at hx;simp only[cj,lO,oc.injEq,and_true]at hx;have e1:=ht.ev y;have e2:=ht.ev y';rw[hx.1]at e1;rw[hx.2]at e2;simp only[ER]at e1 e2;simp only[e1,e2,G4];exact⟨trivial,hk _ _ _ (Ph.le_refl _) (by simp[ER]) hm⟩
    ·cases h
   ·rename_i s x t t' hx hts
    cases ha:c.args.toList with
    | nil=>rw[ha]at hx;simp at hx
    | cons y r =>
     cases r with
     | nil=>rw[ha]at hx;simp at hx
     | cons y' r =>
      cases r with
      | cons _ _=>rw[ha]at hx;simp at hx
      | nil =>
       rw[ha]at hx;simp only[cj,lO,oc.injEq,and_true]at hx;rw[<-hx.1,<-hx.2]at h;simp only[hts];split at h
       ·rename_i e3;rw[if_pos (ao e3)];exact Ad h (ht.ev y) (ht.ev y') hm hk
       ·rename_i e3;rw[if_neg (fun e=>by subst e;simp at e3)]
        exact BP h (ht.ev y) (ht.ev y') hm hk
   ·rename_i s x t t' hx hts;obtain⟨p,h1,h2⟩:=ck.1 h;subst h2
    cases ha:c.args.toList with
    | nil=>rw[ha]at hx;simp at hx
    | cons y r =>
     cases r with
     | nil=>rw[ha]at hx;simp at hx
     | cons y' r =>
      cases r with
      | cons _ _=>rw[ha]at hx;simp at hx
      | nil =>
       rw[ha]at hx;simp only[cj,lO,oc.injEq,and_true]at hx;rw[<-hx.1,<-hx.2]at h1;simp only[hts];exact FC h1 (ht.ev y) (ht.ev y') hm hk
   ·cases h
  ·cases h
 ·cases h
end
noncomputable section
def jY:Operand->List Nat
 | .tmp t=>[t]
 | _=>[]
def ow(l:List Operand):List Nat:=l.flatMap jY
def AB(x:Option Operand):List Nat:=ow x.toList
def yF(o:Op):List Nat:=match o with
 | .move x=>jY x
 | .assign x=>jY x
 | .pick c x y=>jY c++(jY x++jY y)
 | .box _ x=>jY x
 | .build _ ps=>ow (ps.toList.map (·.2))
 | .buildSlice _ _ ps=>ow (ps.toList.map (·.2))
 | .load _ x=>jY x
 | .store _ x y=>jY x++jY y
 | .nilCheck x=>jY x
 | .binOp _ _ x y _=>jY x++jY y
 | .unOp _ _ x=>jY x
 | .convert _ _ x=>jY x
 | .makeFunc _ fi cs=>ow fi.toList++ow cs.toList
 | .makeSlice _ x y=>jY x++jY y
 | .slice _ x lo hi mx=>jY x++(AB lo++(AB hi++AB mx))
 | .fieldAddr _ x _=>jY x
 | .indexAddr _ x i=>jY x++jY i
 | .index _ x i=>jY x++jY i
 | .extract x _=>jY x
 | .call c=>(match c.callee with
  | .value f=>jY f
  | _=>[])++ow c.args.toList
 | _=>[]
def BD(te te':TE)(l:List Nat):Prop:=∀t∈l,ix te t=ix te' t
theorem BD.left{te te':TE}{a b:List Nat}(h:BD te te' (a++b)):BD te te' a:=fun t ht=>h t (List.mem_append_left _ ht)
theorem BD.right{te te':TE}{a b:List Nat}(h:BD te te' (a++b)):BD te te' b:=fun t ht=>h t (List.mem_append_right _ ht)
theorem BD.ev{te te':TE}{x:Operand}(h:BD te te' (jY x)):ji te x=ji te' x:=by
 cases x with
 | tmp t=>exact h t (by simp[jY])
 | const v=>rfl
 | global g=>rfl
 | func f=>rfl
theorem BD.evL{te te':TE}:∀{l:List Operand},BD te te' (ow l)->l.map (ji te)=l.map (ji te')
 | [],_=>rfl
 | x::l,h=>by
  unfold ow at h;rw[cT]at h;rw[cj,cj,h.left.ev,evL (l:=l) h.right]
theorem BD.evP{te te':TE}:∀{l:List (Nat×Operand)},BD te te' (ow (l.map (·.2)))->(l.map fun p=>(p.1,ji te p.2))=l.map fun p=>(p.1,ji te' p.2)
 | [],_=>rfl
 | x::l,h=>by
  unfold ow at h;rw[cj,cT]at h;rw[cj,cj,h.left.ev,evP (l:=l) h.right]
theorem BD.evO{te te':TE}{x:Option Operand}(h:BD te te' (AB x)):x.map (ji te)=x.map (ji te'):=by
 cases x with
 | none=>rfl
 | some x =>
  unfold AB ow at h;simp only[Option.toList_some,cT,List.flatMap_nil,List.append_nil]at h;rw[da,da,h.ev]
theorem DW{call:dh}{o:Oper}{te te':TE}{nx:Nat}{l:EL}(h:BD te te' (yF o.op)):wT call o te nx l=wT call o te' nx l:=by
 unfold wT
 cases ho:o.op<;>rw[ho]at h<;>simp only[yF]at h<;>try rfl
 case move x=>dsimp only;rw[h.ev]
 case assign x=>dsimp only;rw[h.ev]
 case pick c x y=>dsimp only;rw[h.left.ev,h.right.left.ev,h.right.right.ev]
 case box t x=>dsimp only;rw[h.ev]
 case build t ps=>dsimp only;rw[h.evP]
 case buildSlice t n ps=>dsimp only;rw[h.evP]
 case load t x=>dsimp only;rw[h.ev]
 case store t x y=>dsimp only;rw[h.left.ev,h.right.ev]
 case nilCheck x=>dsimp only;rw[h.ev]
 case binOp op t x y _=>dsimp only;rw[h.left.ev,h.right.ev]
 case unOp op t x=>dsimp only;rw[h.ev]
 case convert s d x=>dsimp only;rw[h.ev]
 case makeFunc f fi cs =>
  cases f<;>try rfl
  have h1:=h.left.evL;have h2:=h.right.evL;dsimp only;generalize fi.toList=F at h1 ⊢;generalize cs.toList=C at h2 ⊢
  cases F with
  | nil=>dsimp only;rw[h2]
  | cons x F=>cases C with
   | nil=>dsimp only;rw[h1]
   | cons _ _=>rfl
 case makeSlice t x y=>dsimp only;rw[h.left.ev,h.right.ev]
 case slice t x lo hi mx=>dsimp only;rw[h.left.ev,h.right.left.evO,h.right.right.left.evO,h.right.right.right.evO]
 case fieldAddr t x f=>dsimp only;rw[h.ev]
 case indexAddr t x i=>dsimp only;rw[h.left.ev,h.right.ev]
 case index t x i=>dsimp only;rw[h.left.ev,h.right.ev]
 case extract x i=>dsimp only;rw[h.ev]
 case call c =>
  dsimp only;rw[h.right.evL]
  cases hc:c.callee with
  | value f =>
   have h1:=h.left;rw[hc]at h1;simp only[h1.ev]
  | _=>rfl
def pureM:Nat:=2^81 ||| 2^82 ||| 2^83 ||| 2^84 ||| 2^133 ||| 2^157 ||| 2^159 ||| 2^191 ||| 2^192 ||| 2^193 ||| 2^215 ||| 2^216 ||| 2^247 ||| 2^249 ||| 2^251 ||| 2^268
def xC(f:Nat):Bool:=gK pureM f
def eG(o:Op):Nat:=match o with
 | .move _=>0
 | .assign _=>0
 | .pick _ _ _=>0
 | .build _ _=>0
 | .nilCheck _=>0
 | .binOp _ _ _ _ _=>0
 | .unOp _ _ _=>0
 | .convert _ _ _=>0
 | .makeFunc _ _ _=>0
 | .slice _ _ _ _ _=>0
 | .fieldAddr _ _ _=>0
 | .indexAddr _ _ _=>0
 | .index _ _ _=>0
 | .extract _ _=>0
 | .load _ _=>1
 | .alloc _=>2
 | .box _ _=>2
 | .buildSlice _ _ _=>2
 | .makeSlice _ _ _=>2
 | .call c=>(match c.callee with
  | .builtin .len=>0
  | .builtin .max=>0
  | .value (.func f)=>if xC f then 0 else 4
  | .value (.tmp _)=>3
  | _=>4)
 | _=>4
def rc(call:dh):Prop:=∀f args nx l r,xC f=true->call f args nx l=some r->r.2=(nx,l)/\∀nx' l',call f args nx' l'=some (r.1,nx',l')
theorem kw{nx:Nat}{l:EL}{r:XV×Nat×EL}(p:Option XV)(h:p.map (fun v=>(v,nx,l))=some r):r.2=(nx,l)/\∀(nx':Nat) (l':EL),p.map (fun v=>(v,nx',l'))=some (r.1,nx',l'):=by
 obtain⟨v,rfl,rfl⟩:=ck.1 h;exact⟨rfl,fun _ _=>rfl⟩
theorem lB{nx:Nat}{l:EL}{r:XV×Nat×EL}{v:XV}(h:some (v,nx,l)=some r):r.2=(nx,l)/\∀(nx':Nat) (l':EL),some (v,nx',l')=some (r.1,nx',l'):=by
 cases h
 exact⟨rfl,fun _ _=>rfl⟩
theorem Fy{A:List XV}{B:List Nat}{nx:Nat}{l:EL}{r:XV×Nat×EL}(h:lA .len A B nx l=some r):r.2=(nx,l)/\∀nx' l',lA .len A B nx' l'=some (r.1,nx',l'):=by
 rcases A with _|⟨x,_|⟨y,A⟩⟩
 ·cases h
 ·rcases B with _|⟨t,_|⟨u,B⟩⟩
  ·cases h
  ·exact kw _ h
  ·cases h
 ·cases h
theorem Fv{A:List XV}{B:List Nat}{nx:Nat}{l:EL}{r:XV×Nat×EL}(h:lA .max A B nx l=some r):r.2=(nx,l)/\∀nx' l',lA .max A B nx' l'=some (r.1,nx',l'):=by
 rcases A with _|⟨x,_|⟨y,_|⟨z,A⟩⟩⟩
 ·cases h
 ·cases x<;>cases h
 ·cases x<;>try cases h
  cases y<;>try cases h
  rename_i k a k' c;unfold lA at h ⊢;dsimp only at h ⊢;by_cases e:k=k'
  ·rw[if_pos e]at h;refine⟨(lB h).1,fun nx' l'=>?_⟩;rw[if_pos e];exact(lB h).2 nx' l'
  ·rw[if_neg e]at h;cases h
 ·cases x<;>try cases h
  cases y<;>cases h
theorem zY{call:dh}(hp:rc call){o:Oper}{te:TE}{nx:Nat}{l:EL}{r:XV×Nat×EL}(hk:eG o.op=0)(h:wT call o te nx l=some r):r.2=(nx,l)/\∀nx' l',wT call o te nx' l'=some (r.1,nx',l'):=by
 unfold wT at h ⊢
 cases ho:o.op<;>rw[ho]at h hk<;>(try (simp[eG]at hk;done))
 case move x=>exact lB h
 case assign x=>exact lB h
 case pick c x y =>
  dsimp only at h ⊢
  cases hc:ji te c<;>rw[hc]at h<;>try cases h
  exact⟨rfl,fun _ _=>rfl⟩
 case build t ps=>exact kw _ h
 case nilCheck x =>
  dsimp only at h ⊢
  cases hc:ji te x<;>rw[hc]at h<;>first|exact lB h|cases h
 case binOp op t x y _=>exact kw _ h
 case unOp op t x=>exact kw _ h
 case convert s d x=>exact kw _ h
 case makeFunc f fi cs =>
  cases f<;>dsimp only at h ⊢<;>try cases h
  generalize fi.toList=F at h ⊢;generalize cs.toList=C at h ⊢
  cases F with
  | nil=>exact lB h
  | cons x F=>cases C with
   | nil=>exact lB h
   | cons _ _=>cases h
 case slice t x lo hi mx=>exact kw _ h
 case fieldAddr t x f=>exact kw _ h
 case indexAddr t x i=>exact kw _ h
 case index t x i=>exact kw _ h
 case extract x i =>
  dsimp only at h ⊢
  cases hc:ji te x<;>rw[hc]at h<;>first|exact kw _ h|cases h
 case call c =>
  dsimp only at h ⊢;simp only[eG]at hk
  cases hc:c.callee with
  | value f =>
   rw[hc]at h hk;dsimp only at h ⊢
   cases f with
   | func g =>
    dsimp only[ji]at h ⊢;by_cases hg:xC g=true
    ·exact hp _ _ _ _ _ hg h
    ·simp only[hg]at hk;cases hk
   | tmp t=>cases hk
   | const v=>cases hk
   | global g=>cases hk
  | builtin b =>
   rw[hc]at h hk;dsimp only at h ⊢
   cases b<;>first|(cases hk;done)|exact Fy h|exact Fv h
  | _=>rw[hc]at hk;cases hk
theorem BI{t:Nat}{x v:XV}{l l':EL}(h:si t x l=some v)(hl:∀i X,dw l i=some (some X)->dw l' i=some (some X)):si t x l'=some v:=by
 unfold si at h ⊢;split at h
 ·exact h
 ·rename_i es i k0;split at h
  ·rename_i X hX;rw[hl i X hX];exact h
  ·cases h
 ·cases h
theorem pR(c:Go.Call):eG (.call c)=0∨eG (.call c)=3∨eG (.call c)=4:=by
 simp only[eG]
 cases hc:c.callee with
 | value f =>
  cases f with
  | func g=>dsimp only;by_cases hg:xC g=true<;>simp[hg]
  | tmp t=>simp
  | const v=>simp
  | global g=>simp
 | builtin b=>cases b<;>simp
 | _=>simp
theorem zZ{call:dh}{o:Oper}{te:TE}{nx:Nat}{l:EL}{r:XV×Nat×EL}(hk:eG o.op=1)(h:wT call o te nx l=some r):r.2=(nx,l)/\∀nx' l',(∀i X,dw l i=some (some X)->dw l' i=some (some X))->wT call o te nx' l'=some (r.1,nx',l'):=by
 unfold wT at h ⊢
 cases ho:o.op<;>rw[ho]at h hk<;>(try (simp[eG]at hk;done))
 case load t x =>
  dsimp only at h ⊢;obtain⟨v,h1,rfl⟩:=ck.1 h;exact⟨rfl,fun nx' l' hl=>by rw[BI h1 hl];rfl⟩
 case call c=>have:=pR c;omega
theorem Ga{nx:Nat}{l:EL}{X:EB}{v:XV}{r:XV×Nat×EL}(h:qt nx l X v=some r):dw l nx=ac/\r=(v,nx+1,pA l nx (some X))/\∀l',dw l' nx=ac->qt nx l' X v=some (v,nx+1,pA l' nx (some X)):=by
 unfold qt at h;split at h
 ·rename_i hl
  cases h
  exact⟨hl,rfl,fun l' hl'=>by unfold qt;rw[hl']⟩
 ·cases h
theorem Fu{call:dh}{o:Oper}{te:TE}{nx:Nat}{l:EL}{r:XV×Nat×EL}(hk:eG o.op=2)(h:wT call o te nx l=some r):∃X,dw l nx=ac/\r=(r.1,nx+1,pA l nx (some X))/\∀l',dw l' nx=ac->wT call o te nx l'=some (r.1,nx+1,pA l' nx (some X)):=by
 have key:∀(f:EL->XR),f l=some r->(∃X v,∀l',f l'=qt nx l' X v)->∃X,dw l nx=ac/\r=(r.1,nx+1,pA l nx (some X))/\∀l',dw l' nx=ac->f l'=some (r.1,nx+1,pA l' nx (some X)):=by
  rintro f hf ⟨X,v,hX⟩;rw[hX]at hf;obtain⟨h1,rfl,h3⟩:=Ga hf;exact⟨X,h1,rfl,fun l' hl'=>by rw[hX];exact h3 l' hl'⟩
 unfold wT at h ⊢
 cases ho:o.op<;>rw[ho]at h hk<;>(try (simp[eG]at hk;done))
 case alloc t =>
  refine key (fun l=>tL t nx l) h ?_;dsimp only at h;unfold tL at h ⊢
  cases h1:zE t with
  | some p=>exact⟨_,_,fun _=>rfl⟩
  | none =>
   rw[h1]at h
   cases h2:zA t with
   | some p=>exact⟨_,_,fun _=>rfl⟩
   | none=>rw[h2]at h;cases h
 case box t x =>
  refine key (fun l=>FH t (ji te x) nx l) h ?_;dsimp only at h;unfold FH at h ⊢
  cases h1:dM t with
  | none=>rw[h1]at h;cases h
  | some p =>
   obtain⟨es,k⟩:=p;rw[h1]at h;dsimp only at h ⊢
   cases h2:ap k 1 with
   | true =>
    rw[h2]at h;dsimp only at h ⊢
    cases h3:lH es (ji te x)with
    | true=>exact⟨_,_,fun _=>rfl⟩
    | false=>rw[h3]at h;cases h
   | false =>
    rw[h2]at h;dsimp only at h ⊢
    cases h3:ji te x<;>rw[h3]at h<;>dsimp only at h<;>try cases h
    rename_i L
    cases h4:(ap L.length k&&lG es L)with
    | true=>exact⟨_,_,fun _=>by dsimp only;rw[h4]⟩
    | false=>rw[h4]at h;cases h
 case buildSlice t n ps =>
  refine key (fun l=>kC t n (ps.toList.map fun p=>(p.1,ji te p.2)) nx l) h ?_;dsimp only at h;generalize (ps.toList.map fun p=>(p.1,ji te p.2))=qs at *;unfold kC at h ⊢
  cases h1:cX t with
  | none=>rw[h1]at h;cases h
  | some e =>
   rw[h1]at h;dsimp only at h ⊢
   cases h2:(oA 0 qs&&ap qs.length n&&gZ n 16&&(zE e).isSome&&lG (bI e) (qs.map (·.2)))with
   | true=>exact⟨_,_,fun _=>rfl⟩
   | false=>rw[h2]at h;cases h
 case makeSlice t x y =>
  refine key (fun l=>z0 t (ji te x) (ji te y) nx l) h ?_;dsimp only at h;generalize ji te x=a at *;generalize ji te y=b at *;unfold z0 at h ⊢;split at h
  ·rename_i e n m he;split at h
   ·rename_i es z hz;split at h
    ·rename_i h2;exact⟨⟨e,es,List.replicate n z⟩,.sl es nx 0 n,fun l'=>by simp only[]⟩
    ·cases h
   ·cases h
  ·cases h
 case call c=>have:=pR c;omega
end
noncomputable section
mutual
def mF:XV->Bool
 | .sl ..=>false
 | .ptr ..=>false
 | .lst _ l=>jV l
 | .pat _ x=>mF x
 | .tup l=>jV l
 | .agg l=>jV l
 | .fn _ l=>jV l
 | .int ..=>true
 | .bool _=>true
 | .big _=>true
 | .nil=>true
 | .any=>true
 | .nfn=>true
 | .mfn _ l=>jV l
def jV:List XV->Bool
 | []=>true
 | x::l=>mF x&&jV l
end
mutual
theorem qe{φ ψ:Ph}:∀(x:XV) (a:AV),mF x=true->ER φ x a->ER ψ x a
 | .int ..,_,_,e=>by simpa [ER]using e
 | .bool _,_,_,e=>by simpa [ER]using e
 | .big _,_,_,e=>by simpa [ER]using e
 | .nil,_,_,e=>by simpa [ER]using e
 | .sl ..,_,h,_=>by simp[mF]at h
 | .ptr ..,_,h,_=>by simp[mF]at h
 | .lst _ l,_,h,e=>by
  simp only[ER,mF]at e h ⊢;obtain⟨g,h1,h2⟩:=e;exact⟨g,h1,xe l g 0 h h2⟩
 | .pat _ x,_,h,e=>by
  simp only[ER,mF]at e h ⊢;obtain⟨y,h1,h2⟩:=e;exact⟨y,h1,qe x y h h2⟩
 | .tup l,_,h,e=>by
  simp only[ER,mF]at e h ⊢;obtain⟨r,h1,h2⟩:=e;exact⟨r,h1,ll l r h h2⟩
 | .agg l,_,h,e=>by
  simp only[ER,mF]at e h ⊢;obtain⟨r,h1,h2⟩:=e;exact⟨r,h1,ll l r h h2⟩
 | .fn _ l,_,h,e=>by
  simp only[ER,mF]at e h ⊢;obtain⟨r,h1,h2⟩:=e;exact⟨r,h1,ll l r h h2⟩
 | .any,_,_,_=>by simp[ER]
 | .nfn,_,_,e=>by simpa [ER]using e
 | .mfn _ l,_,h,e=>by
  simp only[mF]at h;simp only[ER]at e ⊢;obtain⟨r,h1,h2⟩:=e;exact⟨r,h1,ll l r h h2⟩
theorem ll{φ ψ:Ph}:∀(l:List XV) (r:List AV),jV l=true->dZ φ l r->dZ ψ l r
 | [],[],_,_=>by simp[dZ]
 | x::l,a::r,h,e=>by
  simp only[dZ,jV,au]at e h ⊢;exact⟨qe x a h.1 e.1,ll l r h.2 e.2⟩
 | [],_::_,_,e=>by simp[dZ]at e
 | _::_,[],_,e=>by simp[dZ]at e
theorem xe{φ ψ:Ph}:∀(l:List XV) (g:Nat->AV) (k:Nat),jV l=true->jI φ l g k->jI ψ l g k
 | [],_,_,_,_=>by simp[jI]
 | x::l,g,k,h,e=>by
  simp only[jI,jV,au]at e h ⊢;exact⟨qe x _ h.1 e.1,xe l g (k+1) h.2 e.2⟩
end
def Ph.on(φ ψ:Ph):Ph:=fun i=>match φ i with
 | some _=>ψ i
 | ac=>ac
theorem Ph.on_le{φ ψ:Ph}(h:φ.le ψ):φ.le (φ.on ψ):=fun i b e=>by
 unfold Ph.on;rw[e];exact h i b e
mutual
theorem Hf{φ ψ:Ph}:∀(x:XV) (a0 a:AV),ER φ x a0->ER ψ x a->ER (φ.on ψ) x a
 | .int ..,_,_,_,e=>by simpa [ER]using e
 | .bool _,_,_,_,e=>by simpa [ER]using e
 | .big _,_,_,_,e=>by simpa [ER]using e
 | .nil,_,_,_,e=>by simpa [ER]using e
 | .sl ..,_,_,h,e=>by
  simp only[ER]at e h ⊢;obtain⟨b0,h1,_⟩:=h;obtain⟨b,h3,h4⟩:=e;exact⟨b,by unfold Ph.on;rw[h1];exact h3,h4⟩
 | .ptr ..,_,_,h,e=>by
  simp only[ER]at e h ⊢;obtain⟨b0,h1,_⟩:=h;obtain⟨b,h3,h4⟩:=e;exact⟨b,by unfold Ph.on;rw[h1];exact h3,h4⟩
 | .lst _ l,_,_,h,e=>by
  simp only[ER]at e h ⊢;obtain⟨g0,_,h0⟩:=h;obtain⟨g,h1,h2⟩:=e;exact⟨g,h1,CV l g0 g 0 h0 h2⟩
 | .pat _ x,_,_,h,e=>by
  simp only[ER]at e h ⊢;obtain⟨y0,_,h0⟩:=h;obtain⟨y,h1,h2⟩:=e;exact⟨y,h1,Hf x y0 y h0 h2⟩
 | .tup l,_,_,h,e=>by
  simp only[ER]at e h ⊢;obtain⟨r0,_,h0⟩:=h;obtain⟨r,h1,h2⟩:=e;exact⟨r,h1,vW l r0 r h0 h2⟩
 | .agg l,_,_,h,e=>by
  simp only[ER]at e h ⊢;obtain⟨r0,_,h0⟩:=h;obtain⟨r,h1,h2⟩:=e;exact⟨r,h1,vW l r0 r h0 h2⟩
 | .fn _ l,_,_,h,e=>by
  simp only[ER]at e h ⊢;obtain⟨r0,_,h0⟩:=h;obtain⟨r,h1,h2⟩:=e;exact⟨r,h1,vW l r0 r h0 h2⟩
 | .any,_,_,_,_=>by simp[ER]
 | .nfn,_,_,_,e=>by simpa [ER]using e
 | .mfn _ l,_,_,h,e=>by
  simp only[ER]at h e ⊢;obtain⟨r0,h1,h2⟩:=h;obtain⟨r,h3,h4⟩:=e;exact⟨r,h3,vW l r0 r h2 h4⟩
theorem vW{φ ψ:Ph}:∀(l:List XV) (r0 r:List AV),dZ φ l r0->dZ ψ l r->dZ (φ.on ψ) l r
 | [],_,[],_,_=>by simp[dZ]
 | x::l,a0::r0,a::r,h,e=>by
  simp only[dZ]at e h ⊢;exact⟨Hf x a0 a h.1 e.1,vW l r0 r h.2 e.2⟩
 | _::_,[],_,h,_=>by simp[dZ]at h
 | [],_,_::_,_,e=>by simp[dZ]at e
 | _::_,_,[],_,e=>by simp[dZ]at e
theorem CV{φ ψ:Ph}:∀(l:List XV) (g0 g:Nat->AV) (k:Nat),jI φ l g0 k->jI ψ l g k->jI (φ.on ψ) l g k
 | [],_,_,_,_,_=>by simp[jI]
 | x::l,g0,g,k,h,e=>by
  simp only[jI]at e h ⊢;exact⟨Hf x _ _ h.1 e.1,CV l g0 g (k+1) h.2 e.2⟩
end
theorem MR.back{φ ψ:Ph}{l l':EL}{S S':St}(h:MR φ l S)(hle:φ.le ψ)(h':MR ψ l' S')(hf:∀i X,dw l i=some (some X)->dw l' i=some (some X)):φ.le (φ.on ψ)/\MR (φ.on ψ) l S':=by
 have sub:∀i b,φ.on ψ i=some b->ψ i=some b:=fun i b e=>by
  unfold Ph.on at e
  cases hp:φ i with
  | none=>rw[hp]at e;cases e
  | some c=>rw[hp]at e;exact e
 refine⟨Ph.on_le hle,fun i hi=>?_,fun i X hi=>?_,fun i j X Y b hi hj ei ej=>?_⟩
 ·unfold Ph.on;rw[h.dom i hi]
 ·obtain⟨b0,g0,k1,_,k3⟩:=h.live i X hi;have hi':dw l' i=some (some X):=hf _ _ hi;obtain⟨b,g,e1,e2,e3⟩:=h'.live i X hi';exact⟨b,g,by unfold Ph.on;rw[k1];exact e1,e2,CV _ _ _ _ k3 e3⟩
 ·exact h'.inj i j X Y b (hf _ _ hi) (hf _ _ hj) (sub i b ei) (sub j b ej)
theorem HE{call:dh}(hc:kq call){o:Oper}{te:TE}{nx:Nat}{l:EL}{v:XV}{nx':Nat}{l':EL}(h:wT call o te nx l=some (v,nx',l'))(hv:mF v=true)(hf:∀i X,dw l i=some (some X)->dw l' i=some (some X)){φ:Ph}(hG:GP φ){O:Tm}{S:St}(ht:TR φ te O)(hm:MR φ l S){K:AV->St->Prop}(hk:XK φ v l K):vF o O S K:=by
 refine yg hc h hG ht hm fun ψ z S' hle hz hm'=>?_;obtain⟨h1,h2⟩:=hm.back hle hm' hf;exact hk _ z S' h1 (qe v z hv hz) h2
end
noncomputable section
mutual
def jR:XV->XV->Bool
 | .int k n,.int k' n'=>decide (k=k')&&decide (n=n')
 | .bool b,.bool c=>decide (b=c)
 | .big z,.big z'=>decide (z=z')
 | .nil,.nil=>true
 | .any,.any=>true
 | .nfn,.nfn=>true
 | .mfn a l,.mfn a' l'=>ap a a'&&lK l l'
 | .sl a b c d,.sl a' b' c' d'=>ap a a'&&ap b b'&&ap c c'&&ap d d'
 | .ptr a b c,.ptr a' b' c'=>ap a a'&&ap b b'&&ap c c'
 | .lst a l,.lst a' l'=>ap a a'&&lK l l'
 | .pat a x,.pat a' x'=>ap a a'&&jR x x'
 | .tup l,.tup l'=>lK l l'
 | .agg l,.agg l'=>lK l l'
 | .fn a l,.fn a' l'=>ap a a'&&lK l l'
 | _,_=>false
def lK:List XV->List XV->Bool
 | [],[]=>true
 | x::l,y::r=>jR x y&&lK l r
 | _,_=>false
end
mutual
theorem vA:∀(x y:XV),jR x y=true->x=y
 | .int ..,y,h=>by
  cases y<;>simp only[jR,au,decide_eq_true_eq,aN]at h
  rw[h.1,h.2]
 | .bool _,y,h=>by
  cases y<;>simp only[jR,decide_eq_true_eq,aN]at h
  rw[h]
 | .big _,y,h=>by
  cases y<;>simp only[jR,decide_eq_true_eq,aN]at h
  rw[h]
 | .nil,y,h=>by cases y<;>simp only[jR,aN]at h;rfl
 | .any,y,h=>by cases y<;>simp only[jR,aN]at h;rfl
 | .nfn,y,h=>by cases y<;>simp only[jR,aN]at h;rfl
 | .sl ..,y,h=>by
  cases y<;>simp only[jR,au,aN]at h
  rw[ao h.1.1.1,ao h.1.1.2,ao h.1.2,ao h.2]
 | .ptr ..,y,h=>by
  cases y<;>simp only[jR,au,aN]at h
  rw[ao h.1.1,ao h.1.2,ao h.2]
 | .lst _ l,y,h=>by
  cases y<;>simp only[jR,au,aN]at h
  rw[ao h.1,ke l _ h.2]
 | .pat _ x,y,h=>by
  cases y<;>simp only[jR,au,aN]at h
  rw[ao h.1,vA x _ h.2]
 | .tup l,y,h=>by
  cases y<;>simp only[jR,aN]at h
  rw[ke l _ h]
 | .agg l,y,h=>by
  cases y<;>simp only[jR,aN]at h
  rw[ke l _ h]
 | .mfn _ l,y,h=>by
  cases y<;>simp only[jR,au,aN]at h
  rw[ao h.1,ke l _ h.2]
 | .fn _ l,y,h=>by
  cases y<;>simp only[jR,au,aN]at h
  rw[ao h.1,ke l _ h.2]
theorem ke:∀(l r:List XV),lK l r=true->l=r
 | [],[],_=>rfl
 | x::l,y::r,h=>by
  simp only[lK,au]at h;rw[vA x y h.1,ke l r h.2]
 | [],_::_,h=>by simp[lK]at h
 | _::_,[],h=>by simp[lK]at h
end
def Ec:Option (Option EB)->Option (Option EB)->Bool
 | some (some X),some (some Y)=>ap X.ty Y.ty&&ap X.es Y.es&&lK X.l Y.l
 | some (some _),_=>false
 | _,_=>true
def Ii(s:EL):EL->Bool:=EL.rec (motive:=fun _=>EL->Bool) (fun _=>true) (fun _=>true) (fun x _ _ a b s'=>match s' with
 | .n y l r=>Ec x y&&(a l&&b r)
 | _=>false) s
theorem Ih{x y:Option (Option EB)}(h:Ec x y=true){X:EB}(hx:x=some (some X)):y=some (some X):=by
 subst hx
 match y,h with
 | some (some Y),h =>
  simp only[Ec,au]at h;obtain⟨ty,es,l⟩:=X;obtain⟨ty',es',l'⟩:=Y;obtain⟨⟨h1,h2⟩,h3⟩:=h;dsimp only at h1 h2 h3;rw[ao h1,ao h2,ke _ _ h3]
 | some ac,h=>simp[Ec]at h
 | ac,h=>simp[Ec]at h
theorem yv:∀(s s':EL),Ii s s'=true->∀i X,dw s i=some (some X)->dw s' i=some (some X)
 | .e,_,_,i,X,h=>by rw[uJ]at h;cases h
 | .d,_,_,i,X,h=>by rw[Ci]at h;cases h
 | .n x l r,.n y l' r',hs,i,X,h=>by
  change (Ec x y&&(Ii l l'&&Ii r r'))=true at hs;simp only[au]at hs;rw[iy]at h ⊢;split
  ·rename_i h0;rw[if_pos h0]at h;exact Ih hs.1 h
  ·rename_i h0;rw[if_neg h0]at h;split
   ·rename_i h1;rw[if_pos h1]at h;exact yv l l' hs.2.1 _ X h
   ·rename_i h1;rw[if_neg h1]at h;exact yv r r' hs.2.2 _ X h
 | .n _ _ _,.e,hs,_,_,_=>by cases hs
 | .n _ _ _,.d,hs,_,_,_=>by cases hs
def xk(call:dh)(o:Oper)(te:TE)(nx:Nat)(l:EL):XR:=match ap (eG o.op) 3 with
 | true=>match wT call o te nx l with
  | some (v,_,l')=>match mF v&&Ii l l' with
   | true=>some (v,nx,l)
   | false=>ac
  | ac=>ac
 | false=>wT call o te nx l
theorem JO{call:dh}(hc:kq call){o:Oper}{te:TE}{nx:Nat}{l:EL}{r:XV×Nat×EL}(h:xk call o te nx l=some r){φ:Ph}(hG:GP φ){O:Tm}{S:St}(ht:TR φ te O)(hm:MR φ l S){K:AV->St->Prop}(hk:XK φ r.1 r.2.2 K):vF o O S K:=by
 unfold xk at h;split at h
 ·split at h
  ·rename_i v nx' l' he;split at h
   ·rename_i hb
    cases h
    simp only[au]at hb;exact HE hc he hb.1 (yv _ _ hb.2) hG ht hm hk
   ·cases h
  ·cases h
 ·exact yg hc h hG ht hm hk
theorem Aa{call:dh}{o:Oper}{te te':TE}{nx:Nat}{l:EL}(h:BD te te' (yF o.op)):xk call o te nx l=xk call o te' nx l:=by
 unfold xk;rw[DW h]
def rM(ops:Array Oper)(te:TE)(j:Nat):XV:=match (ops[j]?).bind (·.dst)with
 | some d=>ix te d
 | ac=>.any
def xg(call:dh)(ops:Array Oper)(o:Oper)(te:TE)(nx:Nat)(l:EL):XR:=match o.guard with
 | ac=>xk call o te nx l
 | some (j,want)=>match rM ops te j with
  | .bool b=>if b=want then xk call o te nx l else some (.any,nx,l)
  | _=>ac
def ou(ops:Array Oper)(o:Oper):List Nat:=(match o.guard with
 | ac=>[]
 | some (j,_)=>(match (ops[j]?).bind (·.dst)with
  | some d=>[d]
  | ac=>[]))++yF o.op
theorem JP{call:dh}(hc:kq call){ops:Array Oper}{o:Oper}{te:TE}{nx:Nat}{l:EL}{r:XV×Nat×EL}(h:xg call ops o te nx l=some r){φ:Ph}(hG:GP φ){O:Tm}{S:St}(ht:TR φ te O)(hm:MR φ l S){K:Tm->St->Prop}
  (hk:∀ψ z S',φ.le ψ->ER ψ r.1 z->MR ψ r.2.2 S'->K (O.put o.dst z) S'):wH ops o O S K:=by
 unfold xg at h;unfold wH
 cases hg:o.guard with
 | none =>
  rw[hg]at h;exact JO hc h hG ht hm fun ψ z S' h1 h2 h3=>hk ψ z S' h1 h2 h3
 | some p =>
  obtain⟨j,want⟩:=p;rw[hg]at h;dsimp only at h ⊢;have hy:ER φ (rM ops te j) (zT ops O j):=by
   unfold rM zT
   cases (ops[j]?).bind (·.dst)with
   | none=>simp[ER]
   | some d=>exact ht d
  cases he:rM ops te j<;>rw[he]at h<;>try cases h
  rename_i b;rw[he]at hy;simp only[ER]at hy;rw[hy];dsimp only at h ⊢;refine⟨fun e=>?_,fun e=>?_⟩
  ·rw[if_pos e]at h;exact JO hc h hG ht hm fun ψ z S' h1 h2 h3=>hk ψ z S' h1 h2 h3
  ·rw[if_neg (by rw[e];cases want<;>simp)]at h
   cases h
   exact hk φ .any S (Ph.le_refl _) (by simp[ER]) hm
theorem FB{call:dh}{ops:Array Oper}{o:Oper}{te te':TE}{nx:Nat}{l:EL}(h:BD te te' (ou ops o)):xg call ops o te nx l=xg call ops o te' nx l:=by
 unfold xg;unfold ou at h
 cases hg:o.guard with
 | none=>exact Aa h.right
 | some p =>
  obtain⟨j,want⟩:=p;rw[hg]at h;dsimp only;have e:rM ops te j=rM ops te' j:=by
   unfold rM;have h1:=h.left;dsimp only at h1
   cases hd:(ops[j]?).bind (·.dst)with
   | none=>rfl
   | some d=>rw[hd]at h1;exact h1 d (List.mem_singleton.2 rfl)
  rw[e,Aa h.right]
end
noncomputable section
theorem DA(te:TE):∀R:List Nat,∃te',∀t,ix te' t=if t∈R then ix te t else .any
 | []=>⟨.e,fun t=>by simp[pK]⟩
 | s::R=>by
  obtain⟨te',h⟩:=DA te R;refine⟨tX te' s (ix te s),fun t=>?_⟩;rw[kD,h];by_cases e:t=s
  ·subst e;simp
  ·rw[if_neg e];simp[e]
theorem tE{call:dh}(hc:kq call){ops:Array Oper}{o:Oper}{te:TE}{nx:Nat}{l:EL}{r:XV×Nat×EL}(h:xg call ops o te nx l=some r){φ:Ph}(hG:GP φ){O:Tm}{S:St}(ht:∀t∈ou ops o,ER φ (ix te t) (O t))(hm:MR φ l S){K:Tm->St->Prop}
  (hk:∀ψ z S',φ.le ψ->ER ψ r.1 z->MR ψ r.2.2 S'->K (O.put o.dst z) S'):wH ops o O S K:=by
 obtain⟨te',h'⟩:=DA te (ou ops o);rw[FB (te':=te') (fun t ht=>by rw[h',if_pos ht])]at h
 refine JP hc h hG (fun t=>?_) hm hk;rw[h'];by_cases e:t∈ou ops o
 ·rw[if_pos e];exact ht t e
 ·rw[if_neg e];simp[ER]
def bit(m k:Nat):Bool:=gK m k
def jb(cls:List Nat)(i k:Nat):Bool:=bit (cls.getD i 0) k
def lU(ops:Array Oper)(i:Nat):Nat:=match ops[i]? with
 | some o=>eG o.op
 | ac=>0
def wF(ops:Array Oper)(i:Nat):Option Nat:=(ops[i]?).bind (·.dst)
def comp(cls:List Nat)(i j:Nat):Bool:=jb cls i j||jb cls j i
structure nK(ops:Array Oper)(cls:List Nat)(alts:Nat->List Nat):Prop where
 aft:xW ops=true
 cl:∀i o k,ops[i]? = some o->jb cls i k=true->∃j∈Go.Proofs.YtdobfmlmenaajaaGreatDoor.aft o,j=k∨jb cls j k=true
 dst:∀i j d,wF ops i=some d->wF ops j=some d->i=j
 reads:∀i o t k,ops[i]? = some o->t∈ou ops o->k≠i->wF ops k=some t->comp cls i k=true
 four:∀i j,i≠j->lU ops i=4->2<=lU ops j->comp cls i j=true
 three:∀i j,lU ops i=3->lU ops j=2->comp cls i j=true
 guard:∀(i:Nat) (o:Oper),ops[i]? = some o->eG o.op=2->o.guard=ac
 altW:∀i w,lU ops i=1->lU ops w=4->comp cls i w=false->w+1∈alts i
 altA:∀i,lU ops i=1->∃a∈alts i,a<=i/\(∀w,lU ops w=4->jb cls i w=true->w<a)/\∀k,k<a->2<=lU ops k->lU ops k≠3->jb cls i k=true
structure oQ(call:dh)(ops:Array Oper)(T:Nat->TE)(N:Nat->Nat)(M:Nat->EL)(V:Nat->XV):Prop where
 step:∀i o,ops[i]? = some o->xg call ops o (T i) (N i) (M i)=some (V i,N (i+1),M (i+1))
 put:∀i o t,ops[i]? = some o->ix (T (i+1)) t=if o.dst=some t then V i else ix (T i) t
theorem oQ.get{call:dh}{ops:Array Oper}{T:Nat->TE}{N:Nat->Nat}{M:Nat->EL}{V:Nat->XV}(h:oQ call ops T N M V){cls:List Nat}{alts:Nat->List Nat}(hs:nK ops cls alts) :
  ∀i,i<=ops.size->∀t,(∀k,k<i->wF ops k=some t->ix (T i) t=V k)/\((∀k,k<i->wF ops k≠some t)->ix (T i) t=ix (T 0) t):=by
 intro i
 induction i with
 | zero=>intro _ t;exact⟨fun k hk=>by omega,fun _=>rfl⟩
 | succ i ih =>
  intro hi t;obtain⟨o,ho⟩:∃o,ops[i]? = some o:=⟨ops[i],Array.getElem?_eq_getElem om⟩;have hp:=h.put i o t ho;have hd:wF ops i=o.dst:=by unfold wF;rw[ho];rfl
  obtain⟨h1,h2⟩:=ih om t;refine⟨fun k hk hkt=>?_,fun hn=>?_⟩
  ·by_cases e:k=i
   ·subst e;rw[hp,if_pos (by rw[<-hd];exact hkt)]
   ·rw[hp,if_neg (fun e2=>e (hs.dst k i t hkt (by rw[hd];exact e2)))]
    exact h1 k om hkt
  ·rw[hp,if_neg (by rw[<-hd];exact hn i om)]
   exact h2 fun k hk=>hn k om
theorem pp{call:dh}{o:Oper}{te:TE}{nx:Nat}{l:EL}(hk:eG o.op≠3):xk call o te nx l=wT call o te nx l:=by
 unfold xk;rw[Lg hk]
theorem CZ{call:dh}(hp:rc call){ops:Array Oper}{o:Oper}{te:TE}{nx:Nat}{l:EL}{r:XV×Nat×EL}(hk:eG o.op=0)(h:xg call ops o te nx l=some r):r.2=(nx,l)/\∀nx' l',xg call ops o te nx' l'=some (r.1,nx',l'):=by
 unfold xg at h ⊢
 cases hg:o.guard with
 | none =>
  rw[hg]at h;dsimp only at h ⊢;rw[pp om]at h;obtain⟨h1,h2⟩:=zY hp hk h;exact⟨h1,fun nx' l'=>by rw[pp om];exact h2 nx' l'⟩
 | some p =>
  obtain⟨j,want⟩:=p;rw[hg]at h;dsimp only at h ⊢
  cases he:rM ops te j<;>rw[he]at h<;>try cases h
  rename_i b;dsimp only at h ⊢;by_cases e:b=want
  ·rw[if_pos e,pp om]at h;obtain⟨h1,h2⟩:=zY hp hk h;exact⟨h1,fun nx' l'=>by rw[if_pos e,pp om];exact h2 nx' l'⟩
  ·rw[if_neg e]at h
   cases h
   exact⟨rfl,fun nx' l'=>by rw[if_neg e]⟩
theorem qc{call:dh}{ops:Array Oper}{o:Oper}{te:TE}{nx:Nat}{l:EL}{r:XV×Nat×EL}(hk:eG o.op=1)(h:xg call ops o te nx l=some r):r.2=(nx,l)/\∀nx' l',(∀i X,dw l i=some (some X)->dw l' i=some (some X))->xg call ops o te nx' l'=some (r.1,nx',l'):=by
 unfold xg at h ⊢
 cases hg:o.guard with
 | none =>
  rw[hg]at h;dsimp only at h ⊢;rw[pp om]at h;obtain⟨h1,h2⟩:=zZ hk h;exact⟨h1,fun nx' l' hl=>by rw[pp om];exact h2 nx' l' hl⟩
 | some p =>
  obtain⟨j,want⟩:=p;rw[hg]at h;dsimp only at h ⊢
  cases he:rM ops te j<;>rw[he]at h<;>try cases h
  rename_i b;dsimp only at h ⊢;by_cases e:b=want
  ·rw[if_pos e,pp om]at h;obtain⟨h1,h2⟩:=zZ hk h;exact⟨h1,fun nx' l' hl=>by rw[if_pos e,pp om];exact h2 nx' l' hl⟩
  ·rw[if_neg e]at h
   cases h
   exact⟨rfl,fun nx' l' _=>by rw[if_neg e]⟩
theorem Kq{call:dh}{ops:Array Oper}{o:Oper}{te:TE}{nx:Nat}{l:EL}{r:XV×Nat×EL}(hk:eG o.op=3)(h:xg call ops o te nx l=some r):r.2=(nx,l):=by
 have key:∀{r},xk call o te nx l=some r->r.2=(nx,l):=fun {r} h=>by
  unfold xk at h;split at h
  ·split at h
   ·split at h
    ·cases h;rfl
    ·cases h
   ·cases h
  ·rename_i e;rw[hk]at e;cases e
 unfold xg at h;split at h
 ·exact key h
 ·split at h
  ·split at h
   ·exact key h
   ·cases h;rfl
  ·cases h
theorem H3{call:dh}{ops:Array Oper}{o:Oper}{te:TE}{nx:Nat}{l:EL}{r:XV×Nat×EL}(hg:o.guard=ac)(hk:eG o.op=2)(h:xg call ops o te nx l=some r):∃X,dw l nx=ac/\r=(r.1,nx+1,pA l nx (some X))/\∀l',dw l' nx=ac->xg call ops o te nx l'=some (r.1,nx+1,pA l' nx (some X)):=by
 unfold xg at h ⊢;rw[hg]at h ⊢;dsimp only at h ⊢;rw[pp om]at h;obtain⟨X,h1,h2,h3⟩:=Fu hk h;exact⟨X,h1,h2,fun l' hl'=>by rw[pp om];exact h3 l' hl'⟩
end
end Go.Proofs.YtdobfmlmenaajaaGreatDoor
