/-
  Lemmas for NeighbourMembers.
-/
import Derived.Test.YtdobfmlmenaajaaGreatDoorN06
namespace Go.Proofs.YtdobfmlmenaajaaGreatDoor
open Go.RowKit
open _root_.Array renaming getElem?_setIfInBounds_ne→bZ,getElem?_setIfInBounds_self_of_lt→jt,ext_getElem?→o0
open _root_.List renaming replicate→bL,getElem?_cons_succ→bN,size_toArray→bQ,mem_of_getElem?→cq,length_cons→cr,getD→cB,flatMap_cons→cT,mem_cons_of_mem→dk,getElem?_append_right→dC,getElem?_append_left→dR,mem_cons_self→dU,getElem?_toArray→eP,eq_of_mem_replicate→fM,length_nil→jf,replicate_succ→kl,length_replicate→mb
open _root_.Nat renaming le_refl→ah,mul_comm→aO,mul_le_mul_left→aY,le_trans→bW,mul_add→ct,add_zero→cR,lt_of_lt_of_le→cV,mul_zero→dA,mul_succ→dT,succ_mul→it
open _root_.Ne renaming symm→ak
open _root_.Option renaming none→ac,map_eq_some_iff→ck,bind_some→cQ
open _root_.Or renaming inl→bH
set_option maxHeartbeats 6400000
set_option maxRecDepth 4096
set_option linter.all false
inductive AV where
 | int (k:IntKind) (n:Int)
 | bool (b:Bool)
 | big (z:Int)
 | nil
 | sl (es b off len:Nat)
 | ptr (es b i:Nat)
 | lst (es n:Nat) (g:Nat->AV)
 | pat (es:Nat) (x:AV)
 | tup (l:List AV)
 | agg (l:List AV)
 | fn (f:Nat) (l:List AV)
 | mag (n:Nat)
 | fp (b i f:Nat)
 | bset (p:Bool->Prop)
 | any
 | nfn
 | mfn (f:Nat) (l:List AV)
structure dn where
 ty:TypeId
 es:Nat
 n:Nat
 g:Nat->AV
abbrev St:=Nat->Option dn
def St.dom(S:St)(b:Nat):Prop:=S b≠none
def St.none:St:=fun _=>ac
def St.upd(S:St)(b:Nat)(x:dn):St:=fun k=>if k=b then some x else S k
def one:Value->Prop
 | .agg _=>False
 | .tuple _=>False
 | _=>True
def jQ:Value->Prop
 | .int .u32 _=>False
 | _=>True
def reads(cs:Array Value)(off:Nat):Nat->Value->Prop
 | 1,u=>cs[off]? = some u/\one u
 | 2,u=>∃x y,u=.agg #[x,y]/\one x/\one y/\cs[off]? = some x/\cs[off+1]? = some y
 | _,_=>False
def rH(w:World)(b off es:Nat)(u:Value):Prop:=∃cs ty fr,w.heap[b]? = some (.cells cs ty fr)/\reads cs off es u
mutual
def a8(w:World)(M:Nat->Prop):AV->Value->Prop
 | .int k n,v=>v=.int k n
 | .bool b,v=>v=.bool b
 | .big z,v=>dL w w.heap.size v z
 | .nil,v=>v=.slice none 0 0
 | .sl es b off len,v=>∃cap cs ty fr,v=.slice (some ⟨b,es*off,none⟩) len cap/\len<=cap/\w.heap[b]? = some (.cells cs ty fr)/\es*(off+cap)<=cs.size
 | .ptr es b i,v=>v=.pointer (some ⟨b,es*i,none⟩)
 | .lst es n g,v=>∃A c,v=.slice A n c/\n<=c/\(0<n->∃b off,A=some ⟨b,off,none⟩/\b<w.heap.size/\¬M b/\∀j,j<n->∃u,rH w b (off+es*j) es u/\a8 w M (g j) u)
 | .pat es x,v=>∃b off u,v=.pointer (some ⟨b,off,none⟩)/\b<w.heap.size/\¬M b/\rH w b off es u/\a8 w M x u
 | .tup l,v=>∃vs:List Value,v=.tuple vs.toArray/\a6 w M l vs
 | .agg l,v=>∃vs:List Value,v=.agg (vs.flatMap (fun u=>u.cells.toList)).toArray/\a6 w M l vs
 | .fn f l,v=>∃vs:List Value,v=.func (.func f) #[] vs.toArray/\a6 w M l vs
 | .mag n,v=>dL w w.heap.size (.agg #[.bool false,v]) (n:Int)
 | .fp b i f,v=>v=.pointer (some ⟨b,2*i+f,none⟩)
 | .bset p,v=>∃s,v=.bool s/\p s
 | .any,_=>True
 | .nfn,v=>v=.nilFunc
 | .mfn f l,v=>∃vs:List Value,v=.func (.func f) vs.toArray #[]/\a6 w M l vs
def a6(w:World)(M:Nat->Prop):List AV->List Value->Prop
 | [],[]=>True
 | a::l,v::vs=>a8 w M a v/\a6 w M l vs
 | [],_::_=>False
 | _::_,[]=>False
end
def dz(w:World)(S:St):Prop:=∀b x,S b=some x->∃cs,w.heap[b]? = some (.cells cs x.ty (0,0))/\x.es*x.n<=cs.size /\
 (∀j,j<x.n->∃u,reads cs (x.es*j) x.es u/\a8 w S.dom (x.g j) u)/\∀(k:Nat) (y:Value),cs[k]? = some y->jQ y
def Ma(M:Nat->Prop)(w:World):Prop:=∀b,M b->∀cs ty fr,w.heap[b]? = some (.cells cs ty fr)->∀(k:Nat) (y:Value),cs[k]? = some y->jQ y
theorem dz.noU{w:World}{S:St}(h:dz w S):Ma S.dom w:=by
 intro b hb cs ty fr hc k y hy;unfold St.dom at hb
 cases e:S b with
 | none=>exact absurd e hb
 | some x =>
  obtain⟨cs',h1,_,_,h4⟩:=h b x e;rw[h1]at hc
  cases hc
  exact h4 k y hy
structure co(M M':Nat->Prop)(w w':World):Prop where
 os:w'.os=w.os
 tape:w'.tape=w.tape
 output:w'.output=w.output
 size:w.heap.size<=w'.heap.size
 keep:∀k,k<w.heap.size->¬M k->w'.heap[k]? = w.heap[k]?
 shape:∀(k:Nat) (cs:Array Value) (ty:TypeId) (fr:Nat×Nat),w.heap[k]? = some (Obj.cells cs ty fr)->∃cs':Array Value,w'.heap[k]? = some (Obj.cells cs' ty fr)/\cs'.size=cs.size
 own:∀k,k<w.heap.size->M' k->M k
theorem co.refl(M:Nat->Prop)(w:World):co M M w w:=⟨rfl,rfl,rfl,ah _,fun _ _ _=>rfl,fun _ cs _ _ h=>⟨cs,h,rfl⟩,fun _ _ h=>h⟩
theorem co.trans{M M' M'':Nat->Prop}{a b c:World}(h:co M M' a b)(k:co M' M'' b c):co M M'' a c :=
 ⟨k.os.trans h.os,k.tape.trans h.tape,k.output.trans h.output,bW h.size k.size,
   fun i hi hm=>(k.keep i (cV hi h.size) (fun hm'=>hm (h.own i hi hm'))).trans (h.keep i hi hm),
   fun i cs ty fr hc=>by
    obtain⟨cs1,h1,e1⟩:=h.shape i cs ty fr hc;obtain⟨cs2,h2,e2⟩:=k.shape i cs1 ty fr h1;exact⟨cs2,h2,e2.trans e1⟩,
   fun i hi hm=>h.own i hi (k.own i (cV hi h.size) hm)⟩
theorem co.weaken{M M' M'':Nat->Prop}{a b:World}(h:co M M' a b)(hs:∀k,M'' k->M' k):co M M'' a b :=
 ⟨h.os,h.tape,h.output,h.size,h.keep,h.shape,fun k hk hm=>h.own k hk (hs k hm)⟩
theorem dE{w:World}{b:Nat}{o:Obj}(h:w.heap[b]? = some o):b<w.heap.size:=by
 rcases Nat.lt_or_ge b w.heap.size with hlt|hge
 ·exact hlt
 ·rw[Array.getElem?_eq_none hge]at h;cases h
theorem vg{w:World}{ad:Addr}{v:Value}(h:w.cell? ad=some v):∃cs ty fr,w.heap[ad.block]? = some (.cells cs ty fr)/\∃k:Nat,cs[k]? = some v:=by
 unfold World.cell? at h;split at h
 ·rename_i cs ty fr hc;split at h
  ·cases h
  ·exact⟨cs,ty,fr,hc,_,h⟩
 ·cases h
theorem dL.grow{M M':Nat->Prop}{w w':World}(hu:Ma M w)(hg:co M M' w w'){v:Value}{z:Int}(h:dL w w.heap.size v z):dL w' w'.heap.size v z:=by
 obtain⟨neg,A,n,c,xs,h1,h2,h3,h4,h5⟩:=h;refine⟨neg,A,n,c,xs,h1,h2,⟨h3.1,h3.2.1,fun hn=>?_⟩,h4,h5⟩;obtain⟨ad,e,hl,hc⟩:=h3.2.2 hn;refine⟨ad,e,cV hl hg.size,fun j hj=>?_⟩;have hj1:=hc j hj;have hm:¬M ad.block:=by
  intro hm;obtain⟨cs,ty,fr,hb,k,hk⟩:=vg hj1;rw[lv]at hb;exact hu _ hm cs ty fr hb k _ hk
 rw[<-hj1];exact World.cell?_of_block (w:=w) (by rw[lv];exact hg.keep _ hl hm)
theorem rH.grow{M M':Nat->Prop}{w w':World}(hg:co M M' w w'){b off es:Nat}{u:Value}(hb:b<w.heap.size)(hm:¬M b)(h:rH w b off es u):rH w' b off es u:=by
 obtain⟨cs,ty,fr,h1,h2⟩:=h;exact⟨cs,ty,fr,(hg.keep b hb hm).trans h1,h2⟩
mutual
theorem a8.grow{M M':Nat->Prop}{w w':World}(hu:Ma M w)(hg:co M M' w w'):∀(a:AV) (v:Value),a8 w M a v->a8 w' M' a v
 | .int k n,v,h=>by simpa [a8]using h
 | .bool b,v,h=>by simpa [a8]using h
 | .big z,v,h=>by simp only[a8]at h ⊢;exact h.grow hu hg
 | .nil,v,h=>by simpa [a8]using h
 | .sl es b off len,v,h=>by
  simp only[a8]at h ⊢;obtain⟨cap,cs,ty,fr,h1,h2,h3,h4⟩:=h;obtain⟨cs',h5,h6⟩:=hg.shape b cs ty fr h3;exact⟨cap,cs',ty,fr,h1,h2,h5,by rw[h6];exact h4⟩
 | .ptr es b i,v,h=>by simpa [a8]using h
 | .lst es n g,v,h=>by
  simp only[a8]at h ⊢;obtain⟨A,c,h1,h2,h3⟩:=h;refine⟨A,c,h1,h2,fun hn=>?_⟩;obtain⟨b,off,e,hb,hm,hj⟩:=h3 hn;refine⟨b,off,e,cV hb hg.size,fun hm'=>hm (hg.own b hb hm'),fun j hjn=>?_⟩;obtain⟨u,hr,hu'⟩:=hj j hjn;exact⟨u,hr.grow hg hb hm,a8.grow hu hg (g j) u hu'⟩
 | .pat es x,v,h=>by
  simp only[a8]at h ⊢;obtain⟨b,off,u,h1,hb,hm,hr,hx⟩:=h;exact⟨b,off,u,h1,cV hb hg.size,fun hm'=>hm (hg.own b hb hm'),hr.grow hg hb hm,a8.grow hu hg x u hx⟩
 | .tup l,v,h=>by
  simp only[a8]at h ⊢;obtain⟨vs,h1,h2⟩:=h;exact⟨vs,h1,a6.grow hu hg l vs h2⟩
 | .agg l,v,h=>by
  simp only[a8]at h ⊢;obtain⟨vs,h1,h2⟩:=h;exact⟨vs,h1,a6.grow hu hg l vs h2⟩
 | .fn f l,v,h=>by
  simp only[a8]at h ⊢;obtain⟨vs,h1,h2⟩:=h;exact⟨vs,h1,a6.grow hu hg l vs h2⟩
 | .mag n,v,h=>by simp only[a8]at h ⊢;exact h.grow hu hg
 | .fp b i f,v,h=>by simpa [a8]using h
 | .bset p,v,h=>by simpa [a8]using h
 | .any,v,h=>by simp[a8]
 | .nfn,v,h=>by simpa [a8]using h
 | .mfn f l,v,h=>by
  simp only[a8]at h ⊢;obtain⟨vs,h1,h2⟩:=h;exact⟨vs,h1,a6.grow hu hg l vs h2⟩
theorem a6.grow{M M':Nat->Prop}{w w':World}(hu:Ma M w)(hg:co M M' w w'):∀(l:List AV) (vs:List Value),a6 w M l vs->a6 w' M' l vs
 | [],[],_=>by simp[a6]
 | a::l,v::vs,h=>by
  simp only[a6]at h ⊢;exact⟨a8.grow hu hg a v h.1,a6.grow hu hg l vs h.2⟩
 | [],_::_,h=>by simp[a6]at h
 | _::_,[],h=>by simp[a6]at h
end
def cM(f:Nat)(args:List AV)(S:St)(post:AV->St->Prop):Prop :=
 ∀(w:World) (vs:List Value),dz w S->a6 w S.dom args vs->Calls Tryz.prog f vs.toArray w (fun e w' =>
  ∃v r S',e=.returned v/\post r S'/\a8 w' S'.dom r v/\dz w' S'/\co S.dom S'.dom w w')
theorem cM.mono{f:Nat}{args:List AV}{S:St}{post post':AV->St->Prop}(h:cM f args S post)(hp:∀r S',post r S'->post' r S'):cM f args S post' :=
 fun w vs hs hr=>(h w vs hs hr).mono fun _ _ ⟨v,r,S',h1,h2,h3⟩=>⟨v,r,S',h1,hp r S' h2,h3⟩
abbrev Tm:=Nat->AV
theorem Tm.put_ex:∃p:Tm->Option Nat->AV->Tm,∀O d x,p O d x=(match d with
 | some d=>fun t=>if t=d then x else O t
 | ac=>O):=⟨_,fun _ _ _=>rfl⟩
noncomputable def Tm.put:Tm->Option Nat->AV->Tm:=Classical.choose Tm.put_ex
theorem Tm.put_eq(O:Tm)(d:Option Nat)(x:AV):O.put d x=(match d with
 | some d=>fun t=>if t=d then x else O t
 | ac=>O):=Classical.choose_spec Tm.put_ex O d x
def JU:Value->AV
 | .int k n=>.int k n
 | .bool b=>.bool b
 | .slice ac 0 0=>.nil
 | _=>.any
def ev(O:Tm):Operand->AV
 | .tmp t=>O t
 | .const v=>JU v
 | .global g=>.ptr 1 g 0
 | .func f=>.fn f []
theorem Dw(w:World)(M:Nat->Prop)(v:Value):a8 w M (JU v) v:=by
 unfold JU;split<;>simp[a8]
structure RT(O:Tm)(S:St)(N:Nat)(a:Act)(w:World):Prop where
 defers:a.defers=[]
 size:a.tmps.size=N
 tm:∀t,a8 w S.dom (O t) (a.tmps.getD t undef)
 st:dz w S
theorem RT.ev{O:Tm}{S:St}{N:Nat}{a:Act}{w:World}(h:RT O S N a w)(x:Operand):a8 w S.dom (ev O x) (a.eval x):=by
 cases x with
 | tmp t=>exact h.tm t
 | const v=>exact Dw _ _ v
 | global g=>simp only[Go.Proofs.YtdobfmlmenaajaaGreatDoor.ev,a8,dA];rfl
 | func f=>simp only[Go.Proofs.YtdobfmlmenaajaaGreatDoor.ev,a8];exact⟨[],rfl,by simp[a6]⟩
theorem RT.put{O:Tm}{S S':St}{N:Nat}{a:Act}{w w':World}(h:RT O S N a w)(hg:co S.dom S'.dom w w')(hs:dz w' S'){d:Option Nat}(hd:∀k,d=some k->k<N){x:AV}{v:Value}(hx:a8 w' S'.dom x v) :
  RT (O.put d x) S' N (a.put d v) w':=by
 have hold:∀t,a8 w' S'.dom (O t) (a.tmps.getD t undef):=fun t=>a8.grow h.st.noU hg _ _ (h.tm t)
 cases d with
 | none=>rw[Tm.put_eq];exact⟨h.defers,h.size,hold,hs⟩
 | some d =>
  refine⟨h.defers,by simp[Act.put,h.size],fun t=>?_,hs⟩
  have hdN:=hd d rfl;simp only[Tm.put_eq,Act.put];by_cases e:t=d
  ·subst e;have:(a.tmps.setIfInBounds t v).getD t undef=v:=by
    simp[Array.getD,h.size,hdN]
   rw[if_pos rfl,this];exact hx
  ·have:(a.tmps.setIfInBounds d v).getD t undef=a.tmps.getD t undef:=by
    simp only[Array.getD_eq_getD_getElem?];rw[bZ (ak e)]
   rw[if_neg e,this];exact hold t
def Bn(op:BinOp)(t:TypeId)(x y:AV)(K:AV->Prop):Prop:=match x,y with
 | .int k a,.int k' b=>k=k'/\(match op with
  | .add=>K (.int k (k.wrap (a+b)))
  | .sub=>K (.int k (k.wrap (a-b)))
  | .mul=>K (.int k (k.wrap (a*b)))
  | .quo=>b≠0/\K (.int k (k.wrap (a.tdiv b)))
  | .rem=>b≠0/\K (.int k (a.tmod b))
  | .eql=>K (.bool (a==b))
  | .neq=>K (.bool (a != b))
  | .lss=>K (.bool (decide (a<b)))
  | .leq=>K (.bool (decide (a<=b)))
  | .gtr=>K (.bool (decide (b<a)))
  | .geq=>K (.bool (decide (b<=a)))
  | _=>False)
 | .bool a,.bool b=>t=4/\(match op with
  | .eql=>K (.bool (a==b))
  | .neq=>K (.bool (a != b))
  | _=>False)
 | .bset p,.bset q=>t=4/\op=.neq/\K (.bset (fun s=>∃a b,p a/\q b/\s=(a != b)))
 | .sl _ _ _ _,.nil=>(t=29/\op=.eql)/\K (.bool false)
 | .lst _ n _,.nil=>(t=29/\op=.eql/\0<n)/\K (.bool false)
 | .nil,.nil=>(t=29/\op=.eql)/\K (.bool true)
 | _,_=>False
theorem vJ{op:BinOp}{ty:TypeId}{x y:AV}{K:AV->Prop}(h:Bn op ty x y K){w:World}{M:Nat->Prop}{vx vy:Value}(hx:a8 w M x vx)(hy:a8 w M y vy)(ox oy:Operand) :
  ∃z v,K z/\a8 w M z v/\(do eqGuard op ty ox oy vx vy;binOp op ty vx vy:Sem Value).run Tryz.prog w=.ok v w:=by
 have q29:∀(w:World) (a:Option Addr) (n c n' c':Nat),(binOp .eql 29 (.slice a n c) (.slice none n' c')).run Tryz.prog w=.ok (.bool a.isNone) w:=fun w a n c n' c'=>Lib.run_eql_slice_nil w _ _ a n c n' c' Tryz.underlying29;unfold Bn at h;split at h
 ·rename_i k a k' b;obtain⟨rfl,h⟩:=h;simp only[a8]at hx hy;subst hx hy;split at h
  ·exact⟨_,.int k (k.wrap (a+b)),h,by simp[a8],by simp[eqGuard,binOp,Op.intArith]⟩
  ·exact⟨_,.int k (k.wrap (a-b)),h,by simp[a8],by simp[eqGuard,binOp,Op.intArith]⟩
  ·exact⟨_,.int k (k.wrap (a*b)),h,by simp[a8],by simp[eqGuard,binOp,Op.intArith]⟩
  ·exact⟨_,.int k (k.wrap (a.tdiv b)),h.2,by simp[a8],by simp[eqGuard,binOp,Op.intDiv,h.1]⟩
  ·exact⟨_,.int k (a.tmod b),h.2,by simp[a8],by simp[eqGuard,binOp,Op.intDiv,h.1]⟩
  ·exact⟨_,.bool (a==b),h,by simp[a8],by simp[eqGuard,binOp,Op.intCmp]⟩
  ·exact⟨_,.bool (a != b),h,by simp[a8],by simp[eqGuard,binOp,Op.intCmp]⟩
  ·exact⟨_,.bool (decide (a<b)),h,by simp[a8],by simp[eqGuard,binOp,Op.intCmp]⟩
  ·exact⟨_,.bool (decide (a<=b)),h,by simp[a8],by simp[eqGuard,binOp,Op.intCmp]⟩
  ·exact⟨_,.bool (decide (b<a)),h,by simp[a8],by simp[eqGuard,binOp,Op.intCmp]⟩
  ·exact⟨_,.bool (decide (b<=a)),h,by simp[a8],by simp[eqGuard,binOp,Op.intCmp]⟩
  ·exact h.elim
 ·rename_i a b;obtain⟨rfl,h⟩:=h;simp only[a8]at hx hy;subst hx hy;have hu:(underlying 4).run Tryz.prog w=.ok .bool w:=by
   simp[underlying,Tryz.underlying4]
  have he:(Op.equal 4 (.bool a) (.bool b)).run Tryz.prog w=.ok (a==b) w:=by
   unfold Op.equal Op.maxDepth;rw[Op.equalIn];simp[hu]
  split at h
  ·exact⟨_,.bool (a==b),h,by simp[a8],by simp[eqGuard,binOp,he]⟩
  ·exact⟨_,.bool (a != b),h,by simp[a8],by simp[eqGuard,binOp,he];cases a<;>cases b<;>rfl⟩
  ·exact h.elim
 ·rename_i p q;obtain⟨rfl,rfl,h⟩:=h;simp only[a8]at hx hy;obtain⟨a,rfl,ha⟩:=hx;obtain⟨b,rfl,hb⟩:=hy;have hu:(underlying 4).run Tryz.prog w=.ok .bool w:=by
   simp[underlying,Tryz.underlying4]
  have he:(Op.equal 4 (.bool a) (.bool b)).run Tryz.prog w=.ok (a==b) w:=by
   unfold Op.equal Op.maxDepth;rw[Op.equalIn];simp[hu]
  exact⟨_,.bool (a != b),h,by simp only[a8];exact⟨_,rfl,a,b,ha,hb,rfl⟩,by simp[eqGuard,binOp,he];cases a<;>cases b<;>rfl⟩
 ·obtain⟨⟨rfl,rfl⟩,h⟩:=h;simp only[a8]at hx hy;obtain⟨cap,cs,ty,fr,rfl,_⟩:=hx;subst hy;exact⟨_,.bool false,h,by simp[a8],by simp[eqGuard,q29]⟩
 ·obtain⟨⟨rfl,rfl,h0⟩,h⟩:=h;simp only[a8]at hx hy;obtain⟨A,c,rfl,_,hb⟩:=hx;obtain⟨b,off,rfl,_⟩:=hb h0;subst hy;exact⟨_,.bool false,h,by simp[a8],by simp[eqGuard,q29]⟩
 ·obtain⟨⟨rfl,rfl⟩,h⟩:=h;simp only[a8]at hx hy;subst hx hy;exact⟨_,.bool true,h,by simp[a8],by simp[eqGuard,q29]⟩
 ·exact h.elim
def dM:TypeId->Option (Nat×Nat)
 | 2=>some (1,1)|3=>some (1,1)|4=>some (1,1)|5=>some (1,1)|22=>some (1,1)|25=>some (1,1)|28=>some (1,1)|29=>some (1,1)
 | 34=>some (1,1)|41=>some (1,1)|48=>some (1,1)|52=>some (1,1)|59=>some (1,1)|97=>some (1,1)|146=>some (1,1)|158=>some (1,1)|192=>some (1,1)|216=>some (1,1)
 | 50=>some (2,1)|167=>some (2,2)|195=>some (2,2)|197=>some (2,7)
 | 24=>some (1,4)|27=>some (1,6)|107=>some (1,2)|160=>some (1,4)|183=>some (1,2)|202=>some (1,2)|238=>some (1,3)|239=>some (1,8)|218=>some (1,2)
 | _=>ac
def EW:TypeDesc->Bool
 | .struct _=>true
 | .array _ _=>true
 | _=>false
def FI(P:Program)(t es k:Nat):Bool:=match P.info? t,P.underlying t with
 | some i,some d=>i.size==es*k&&(if EW d then es*k != 1 else es==1&&k==1)
 | _,_=>false
theorem o9{t es k:Nat}(h:dM t=some (es,k)):FI Tryz.prog t es k=true/\(es=1∨es=2)/\0<k:=by
 unfold dM at h;split at h<;>first
  | (cases h;refine⟨by kernel_rfl,by omega,by omega⟩)
  | cases h
theorem tW{t es k:Nat}(h:FI Tryz.prog t es k=true):∃i d,Tryz.prog.info? t=some i/\i.size=es*k/\Tryz.prog.underlying t=some d/\((EW d=true/\es*k≠1)∨(EW d=false/\es=1/\k=1)):=by
 unfold FI at h;split at h
 ·rename_i i d hi hd;simp only[Bool.and_eq_true,beq_iff_eq]at h;refine⟨i,d,hi,h.1,hd,?_⟩;have h2:=h.2;split at h2
  ·rename_i ha;exact bH ⟨ha,by simpa using h2⟩
  ·rename_i ha;simp at h2;exact Or.inr ⟨by simpa using ha,h2.1,h2.2⟩
 ·cases h
def dj(g:Nat->AV)(i:Nat):Nat->List AV
 | 0=>[]
 | k+1=>g i::dj g (i+1) k
theorem pg{u:Value}(h:one u):u.cells=#[u]:=by cases u<;>first|rfl|exact h.elim
theorem l8{w:World}{b off:Nat}{cs:Array Value}{ty:TypeId}{fr:Nat×Nat}(h:w.heap[b]? = some (.cells cs ty fr)):w.cell? ⟨b,off,ac⟩=cs[off]?:=by
 simp[World.cell?,h]
theorem fT(b off k:Nat):(⟨b,off,ac⟩:Addr).add k=⟨b,off+k,ac⟩:=by
 unfold Addr.add;split<;>simp_all
theorem pr{w:World}{b:Nat}{cs:Array Value}{ty:TypeId}{fr:Nat×Nat}(h:w.heap[b]? = some (.cells cs ty fr))(off:Nat)(P:Program) :
  ∀(l:List Value) (i:Nat) (acc:Array Value),(∀j,j<l.length->cs[off+i+j]? = l[j]?)->(loadCellsFrom ⟨b,off,ac⟩ i l.length acc).run P w=.ok (acc++l.toArray) w
 | [],i,acc,_=>by simp[loadCellsFrom]
 | v::l,i,acc,hc=>by
  have h0:=hc 0 (by simp)
  simp only[cR,List.getElem?_cons_zero]at h0;have ih:=pr h off P l (i+1) (acc.push v) (fun j hj=>by
   have:=hc (j+1) (by simp;omega)
   rw[bN]at this;rw[<-this];congr 1;omega)
  simp only[cr,loadCellsFrom];simp only[load,fT];simp[Sem.run,bind,Sem.bind,l8 h,h0];simpa using ih
theorem xz{t:TypeId}{d:TypeDesc}(hd:Tryz.prog.underlying t=some d)(w:World):(isAgg t).run Tryz.prog w=.ok (EW d) w:=by
 simp only[isAgg,Sem.run_bind,run_underlying hd,Result.andThen_ok]
 cases d<;>rfl
theorem cp{t:TypeId}{i:TypeInfo}(hi:Tryz.prog.info? t=some i)(w:World):(sizeOf t).run Tryz.prog w=.ok i.size w:=by
 simp[sizeOf,typeInfo,hi]
theorem sD{w:World}{b off t es k:Nat}{cs:Array Value}{ty:TypeId}{fr:Nat×Nat}(h:w.heap[b]? = some (.cells cs ty fr))(ht:dM t=some (es,k))(hk:es*k≠1)
  (l:List Value) (hl:l.length=es*k) (hc:∀j,j<l.length->cs[off+j]? = l[j]?) :
  (Instr.loadAt t (.pointer (some ⟨b,off,ac⟩))).run Tryz.prog w=.ok (.agg l.toArray) w:=by
 obtain⟨hch,he,_⟩:=o9 ht;obtain⟨i,d,hi,hs,hd,hx⟩:=tW hch;have ha:EW d=true:=hx.elim (fun hx=>hx.1) (fun hx=>by rw[hx.2.1,hx.2.2]at hk;omega)
 have h2:=pr h off Tryz.prog l 0 #[] (fun j hj=>by rw[cR];exact hc j hj)
 simp only[Instr.loadAt,Instr.sureAddr,pure_bind,loadVar,Sem.run_bind,xz hd,ha,Result.andThen_ok,if_true,cp hi,loadCells];rw[hs,<-hl,h2];simp
theorem pa{w:World}{b off t es:Nat}{cs:Array Value}{ty:TypeId}{fr:Nat×Nat}{u:Value}(h:w.heap[b]? = some (.cells cs ty fr))(ht:dM t=some (es,1))(hr:reads cs off es u) :
  (Instr.loadAt t (.pointer (some ⟨b,off,ac⟩))).run Tryz.prog w=.ok u w:=by
 obtain⟨hc,he,_⟩:=o9 ht;rcases he with rfl|rfl
 ·obtain⟨i,d,hi,hs,hd,hx⟩:=tW hc;have ha:EW d=false:=hx.elim (fun hx=>absurd rfl hx.2) (fun hx=>hx.1);simp only[reads]at hr;simp only[Instr.loadAt,Instr.sureAddr,pure_bind,loadVar,Sem.run_bind,xz hd,ha,Result.andThen_ok];simp[l8 h,hr.1]
 ·simp only[reads]at hr;obtain⟨x,y,rfl,hx1,hy1,h0,h1⟩:=hr;exact sD h ht om [x,y] rfl (fun j hj=>by
   match j with
   | 0=>simpa using h0
   | 1=>simpa using h1
   | j+2=>simp at hj;omega)
theorem lE{w:World}{M:Nat->Prop}{cs:Array Value}{es n:Nat}{g:Nat->AV}(hj:∀j,j<n->∃u,reads cs (es*j) es u/\a8 w M (g j) u) :
  ∀(k i:Nat),i+k<=n->∃vs:List Value,a6 w M (dj g i k) vs/\(vs.flatMap (fun u=>u.cells.toList)).length=es*k/\∀j,j<es*k->cs[es*i+j]? = (vs.flatMap (fun u=>u.cells.toList))[j]?
 | 0,i,_=>⟨[],by simp[dj,a6],by simp,fun j hj=>by simp at hj⟩
 | k+1,i,hk=>by
  obtain⟨u,hr,hu⟩:=hj i om;obtain⟨vs,h1,h2,h3⟩:=lE hj k (i+1) om;have hsz:u.cells.toList.length=es/\∀j,j<es->cs[es*i+j]? = u.cells.toList[j]?:=by
   match es,hr with
   | 1,hr =>
    simp only[reads]at hr;rw[pg hr.2];exact⟨rfl,fun j hj=>by
     obtain rfl:j=0:=by omega
     simpa using hr.1⟩
   | 2,hr =>
    simp only[reads]at hr;obtain⟨x,y,rfl,_,_,h0,h1⟩:=hr;refine⟨rfl,fun j hj=>?_⟩
    match j with
    | 0=>simpa [Value.cells]using h0
    | 1=>simpa [Value.cells]using h1
    | j+2=>omega
  refine⟨u::vs,by simp only[dj,a6];exact⟨hu,h1⟩,by simp only[cT,List.length_append,hsz.1,h2];rw[dT];omega,fun j hj=>?_⟩
  simp only[cT];by_cases hlt:j<es
  ·rw[dR (by rw[hsz.1];exact hlt)];exact hsz.2 j hlt
  ·rw[dC (by rw[hsz.1];omega),hsz.1,<-h3 (j-es) (by rw[dT]at hj;omega)]
   congr 1;rw[dT];omega
def mU(t:TypeId)(x:AV)(S:St)(K:AV->Prop):Prop:=match x with
 | .pat es y=>dM t=some (es,1)/\K y
 | .ptr es b i=>(match S b with
  | some X=>(match dM t with
   | some (es',k)=>es'=es/\X.es=es/\i+k<=X.n/\K (if k=1 then X.g i else .agg (dj X.g i k))
   | ac=>False)
  | ac=>False)
 | .fp b i f=>(match S b with
  | some X=>X.es=2/\i<X.n/\(match X.g i with
   | .big z=>if t=48/\f=1 then K (.mag z.natAbs)else if t=4/\f=0 then K (.bset (fun s=>sg s z.natAbs=z))else False
   | _=>False)
  | ac=>False)
 | _=>False
theorem oN{t:TypeId}{x:AV}{S:St}{K:AV->Prop}(h:mU t x S K){w:World}(hs:dz w S){vx:Value}(hx:a8 w S.dom x vx) :
  ∃z v,K z/\a8 w S.dom z v/\(Instr.loadAt t vx).run Tryz.prog w=.ok v w:=by
 cases x with
 | pat es y =>
  simp only[mU]at h;simp only[a8]at hx;obtain⟨b,off,u,rfl,_,_,⟨cs,ty,fr,hb,hr⟩,hu⟩:=hx;exact⟨_,u,h.2,hu,pa hb h.1 hr⟩
 | ptr es b i =>
  simp only[mU]at h
  cases hX:S b with
  | none=>rw[hX]at h;exact h.elim
  | some X =>
   rw[hX]at h
   cases hk:dM t with
   | none=>rw[hk]at h;exact h.elim
   | some p =>
    obtain⟨es',k⟩:=p;rw[hk]at h;obtain⟨rfl,rfl,hn,hK⟩:=h;simp only[a8]at hx;subst hx;obtain⟨cs,hb,hsz,hj,hnu⟩:=hs b X hX;by_cases hk1:k=1
    ·subst hk1;obtain⟨u,hr,hu⟩:=hj i om;rw[if_pos rfl]at hK;exact⟨_,u,hK,hu,pa hb hk hr⟩
    ·obtain⟨vs,h1,h2,h3⟩:=lE hj k i hn;rw[if_neg hk1]at hK;have hr:a8 w S.dom (.agg (dj X.g i k)) (.agg (vs.flatMap (fun u=>u.cells.toList)).toArray):=by
      simp only[a8];exact⟨vs,rfl,h1⟩
     refine⟨_,_,hK,hr,sD hb hk ?_ _ h2 (fun j hj=>h3 j (by rw[<-h2];exact hj))⟩
     obtain⟨_,he,hk0⟩:=o9 hk;intro e;rcases he with e1|e1<;>rw[e1]at e<;>omega
 | fp b i f =>
  simp only[mU]at h
  cases hX:S b with
  | none=>rw[hX]at h;exact h.elim
  | some X =>
   rw[hX]at h;obtain⟨hes,hin,h⟩:=h;simp only[a8]at hx;subst hx;obtain⟨cs,hb,hsz,hj,hnu⟩:=hs b X hX;obtain⟨u,hr,hu⟩:=hj i hin;rw[hes]at hr
   cases hg:X.g i<;>rw[hg]at h hu<;>try exact h.elim
   rename_i z;simp only[a8]at hu;obtain⟨neg,A,n,c,xs,rfl,hnc,hU,hT,rfl⟩:=hu;obtain⟨x,y,he,ox,oy,c0,c1⟩:=hr
   cases he
   have hz:(sg neg (a9 xs)).natAbs=a9 xs:=by cases neg<;>simp[sg]
   simp only at h;split at h
   ·rename_i e;obtain⟨rfl,rfl⟩:=e;refine⟨_,.slice A n c,h,?_,pa hb (rfl:dM 48=some (1,1)) ⟨c1,oy⟩⟩;simp only[a8];exact⟨false,A,n,c,xs,rfl,hnc,hU,hT,by rw[hz];simp[sg]⟩
   ·split at h
    ·rename_i e;obtain⟨rfl,rfl⟩:=e;exact⟨_,.bool neg,h,by simp only[a8];exact⟨neg,rfl,by rw[hz]⟩,pa hb (rfl:dM 4=some (1,1)) ⟨c0,ox⟩⟩
    ·exact h.elim
 | _=>exact h.elim
def eA(w:World)(b:Nat)(cs:Array Value)(ty:TypeId):World:={ w with heap:=w.heap.setIfInBounds b (.cells cs ty (0,0)) }
theorem ia{w:World}{b:Nat}(hb:b<w.heap.size)(cs:Array Value)(ty:TypeId)(k:Nat):(eA w b cs ty).heap[k]? = if k=b then some (.cells cs ty (0,0))else w.heap[k]?:=by
 simp only[eA];by_cases e:k=b
 ·subst e;simp[hb]
 ·rw[if_neg e,bZ (ak e)]
theorem yj(w:World)(b:Nat)(cs:Array Value)(ty:TypeId):(eA w b cs ty).heap.size=w.heap.size:=by simp[eA]
theorem yk{w:World}{b:Nat}{cs:Array Value}{ty:TypeId}(h:w.heap[b]? = some (.cells cs ty (0,0))):eA w b cs ty=w:=by
 unfold eA;have:w.heap.setIfInBounds b (.cells cs ty (0,0))=w.heap:=by
  apply o0;intro i;by_cases e:i=b
  ·subst e;rw[jt (dE h),h]
  ·rw[bZ (ak e)]
 rw[this]
theorem sQ(w:World)(b:Nat)(c1 c2:Array Value)(ty:TypeId):eA (eA w b c1 ty) b c2 ty=eA w b c2 ty:=by
 simp[eA]
theorem sS{w:World}{b off:Nat}{cs:Array Value}{ty:TypeId}(h:w.heap[b]? = some (.cells cs ty (0,0)))(u:Value):w.setCell ⟨b,off,ac⟩ u=eA w b (cs.setIfInBounds off u) ty:=by
 unfold World.setCell eA;congr 1;apply o0;intro i;rw[Array.getElem?_modify];by_cases e:b=i
 ·subst e;rw[if_pos rfl,h,jt (dE h)];rfl
 ·rw[if_neg e,bZ e]
def dK(cs:Array Value)(o:Nat):List Value->Array Value
 | []=>cs
 | v::l=>dK (cs.setIfInBounds o v) (o+1) l
theorem fI:∀(l:List Value) (cs:Array Value) (o:Nat),(dK cs o l).size=cs.size
 | [],_,_=>rfl
 | v::l,cs,o=>by simp[dK,fI l]
theorem fR:∀(l:List Value) (cs:Array Value) (o j:Nat),o+l.length<=cs.size->(dK cs o l)[j]? = if o<=j/\j<o+l.length then l[j-o]? else cs[j]?
 | [],cs,o,j,_=>by rw[if_neg (by simp only[jf];omega)];rfl
 | v::l,cs,o,j,h=>by
  simp only[cr]at h;rw[dK,fR l _ (o+1) j (by simp;omega)]
  by_cases e:j=o
  ·subst e;rw[if_neg om,if_pos (by simp),jt om];simp
  ·rw[bZ (ak e)];by_cases h2:o+1<=j/\j<o+1+l.length
   ·rw[if_pos h2,if_pos (by simp;omega),show j-o=(j-(o+1))+1 by omega,bN]
   ·rw[if_neg h2,if_neg (by simp;omega)]
theorem iE(P:Program){b off:Nat}{ty:TypeId}:∀(l:List Value) (w:World) (cs:Array Value) (i:Nat),w.heap[b]? = some (.cells cs ty (0,0))->off+i+l.length<=cs.size->(∀u∈l,one u) ->
  (storeCells ⟨b,off,ac⟩ l i).run P w=.ok () (eA w b (dK cs (off+i) l) ty)
 | [],w,cs,i,h,_,_=>by simp[storeCells,dK,yk h]
 | v::l,w,cs,i,h,hl,ho=>by
  simp only[cr]at hl;have hv:=ho v (dU ..);have hcell:w.cell? ⟨b,off+i,ac⟩=cs[off+i]?:=l8 h;have hin:cs[off+i]? = some cs[off+i]:=Array.getElem?_eq_getElem om;have hfr:w.frozen? ⟨b,off+i,ac⟩=false:=by simp[World.frozen?,h]
  have hst:(store ⟨b,off+i,ac⟩ v).run P w=.ok () (eA w b (cs.setIfInBounds (off+i) v) ty):=by
   cases v<;>first|exact hv.elim|simp[store,Sem.run,hcell,hin,hfr,sS h]
  have ih:=iE P (b:=b) (off:=off) (ty:=ty) l (eA w b (cs.setIfInBounds (off+i) v) ty) (cs.setIfInBounds (off+i) v) (i+1)
   (by rw[ia (dE h),if_pos rfl]) (by simp;omega) (fun u hu=>ho u (dk _ hu))
  simp only[storeCells,fT,Sem.run_bind,hst,Result.andThen_ok,ih,sQ,dK];rfl
def du:Nat->AV->Prop
 | 1,.int k _=>k≠.u32
 | 1,.bool _=>True
 | 1,.nil=>True
 | 1,.sl ..=>True
 | 1,.ptr ..=>True
 | 1,.lst ..=>True
 | 1,.pat ..=>True
 | 1,.fn ..=>True
 | 1,.nfn=>True
 | 1,.mfn ..=>True
 | 2,.big _=>True
 | _,_=>False
theorem yy{w:World}{M:Nat->Prop}{es:Nat}{y:AV}{v:Value}(h:du es y)(hr:a8 w M y v) :
  (es=1/\one v/\jQ v)∨(es=2/\∃p q,v=.agg #[p,q]/\one p/\one q/\jQ p/\jQ q):=by
 match es,y,h,hr with
 | 1,.int k n,h,hr =>
  simp only[a8]at hr;subst hr;refine bH ⟨rfl,trivial,?_⟩
  cases k<;>first|trivial|exact absurd rfl h
 | 1,.bool _,h,hr=>simp only[a8]at hr;subst hr;exact bH ⟨rfl,trivial,trivial⟩
 | 1,.nil,h,hr=>simp only[a8]at hr;subst hr;exact bH ⟨rfl,trivial,trivial⟩
 | 1,.sl ..,h,hr=>simp only[a8]at hr;obtain⟨_,_,_,_,rfl,_⟩:=hr;exact bH ⟨rfl,trivial,trivial⟩
 | 1,.ptr ..,h,hr=>simp only[a8]at hr;subst hr;exact bH ⟨rfl,trivial,trivial⟩
 | 1,.lst ..,h,hr=>simp only[a8]at hr;obtain⟨_,_,rfl,_⟩:=hr;exact bH ⟨rfl,trivial,trivial⟩
 | 1,.pat ..,h,hr=>simp only[a8]at hr;obtain⟨_,_,_,rfl,_⟩:=hr;exact bH ⟨rfl,trivial,trivial⟩
 | 1,.fn ..,h,hr=>simp only[a8]at hr;obtain⟨_,rfl,_⟩:=hr;exact bH ⟨rfl,trivial,trivial⟩
 | 1,.nfn,h,hr=>simp only[a8]at hr;subst hr;exact bH ⟨rfl,trivial,trivial⟩
 | 1,.mfn ..,h,hr=>simp only[a8]at hr;obtain⟨_,rfl,_⟩:=hr;exact bH ⟨rfl,trivial,trivial⟩
 | 2,.big z,h,hr =>
  simp only[a8]at hr;obtain⟨neg,A,n,c,xs,rfl,_⟩:=hr;exact Or.inr ⟨rfl,_,_,rfl,trivial,trivial,trivial,trivial⟩
theorem o7{w:World}{M:Nat->Prop}{es:Nat}{y:AV}{v:Value}(h:du es y)(hr:a8 w M y v) :
  v.cells.size=es/\(∀u∈v.cells.toList,one u/\jQ u)/\∀(cs:Array Value) (o:Nat),(∀j,j<es->cs[o+j]? = v.cells[j]?)->reads cs o es v:=by
 rcases yy h hr with⟨rfl,h1,h2⟩|⟨rfl,p,q,rfl,h1,h2,h3,h4⟩
 ·rw[pg h1];refine⟨rfl,fun u hu=>by simp at hu;subst hu;exact⟨h1,h2⟩,fun cs o hc=>?_⟩
  have:=hc 0 om;simp only[reads];exact⟨by simpa using this,h1⟩
 ·refine⟨rfl,fun u hu=>?_,fun cs o hc=>?_⟩
  ·simp[Value.cells]at hu;rcases hu with rfl|rfl
   ·exact⟨h1,h3⟩
   ·exact⟨h2,h4⟩
  ·simp only[reads];exact⟨p,q,rfl,h1,h2,by simpa [Value.cells]using hc 0 om,by simpa [Value.cells]using hc 1 om⟩
theorem H9{S:St}{b:Nat}{X:dn}(h:S b≠ac):(S.upd b X).dom=S.dom:=by
 funext k;simp only[St.dom,St.upd];by_cases e:k=b
 ·subst e;simp[h]
 ·simp[e]
theorem dz.write{w:World}{S:St}(hs:dz w S){b:Nat}{X X':dn}(hX:S b=some X){cs cs':Array Value}(hb:w.heap[b]? = some (.cells cs X.ty (0,0)))(hsz:cs'.size=cs.size)
  (ht:X'.ty=X.ty) (hn:X'.es*X'.n<=cs'.size) (hj:∀j,j<X'.n->∃u,reads cs' (X'.es*j) X'.es u/\a8 w S.dom (X'.g j) u) (hu:∀(k:Nat) (y:Value),cs'[k]? = some y->jQ y) :
  dz (eA w b cs' X.ty) (S.upd b X')/\co S.dom (S.upd b X').dom w (eA w b cs' X.ty):=by
 have hlt:=dE hb;have hd:(S.upd b X').dom=S.dom:=H9 (by rw[hX];simp)
 have hg:co S.dom (S.upd b X').dom w (eA w b cs' X.ty):=by
  rw[hd];refine⟨rfl,rfl,rfl,by rw[yj];exact ah _,fun k hk hm=>?_,fun k c ty fr hc=>?_,fun _ _ h=>h⟩
  ·rw[ia hlt,if_neg];intro e;subst e;exact hm (by simp[St.dom,hX])
  ·rw[ia hlt];by_cases e:k=b
   ·subst e;rw[hb]at hc;cases hc;exact⟨cs',by rw[if_pos rfl],hsz⟩
   ·exact⟨c,by rw[if_neg e];exact hc,rfl⟩
 refine⟨fun k Y hY=>?_,hg⟩;simp only[St.upd]at hY;by_cases e:k=b
 ·subst e;rw[if_pos rfl]at hY
  cases hY
  refine⟨cs',by rw[ia hlt,if_pos rfl,ht],hn,fun j hjn=>?_,hu⟩
  obtain⟨u,h1,h2⟩:=hj j hjn;exact⟨u,h1,a8.grow hs.noU hg _ _ h2⟩
 ·rw[if_neg e]at hY;obtain⟨c,h1,h2,h3,h4⟩:=hs k Y hY;refine⟨c,by rw[ia hlt,if_neg e];exact h1,h2,fun j hjn=>?_,h4⟩
  obtain⟨u,h5,h6⟩:=h3 j hjn;exact⟨u,h5,a8.grow hs.noU hg _ _ h6⟩
theorem dz.new{w:World}{S:St}(hs:dz w S){X:dn}{cs:Array Value}(hn:X.es*X.n<=cs.size)
  (hj:∀j,j<X.n->∃u,reads cs (X.es*j) X.es u/\a8 w S.dom (X.g j) u) (hu:∀(k:Nat) (y:Value),cs[k]? = some y->jQ y) :
  S w.heap.size=ac/\dz (w.alloc (.cells cs X.ty)) (S.upd w.heap.size X)/\co S.dom (S.upd w.heap.size X).dom w (w.alloc (.cells cs X.ty)):=by
 have hnone:S w.heap.size=ac:=by
  cases e:S w.heap.size with
  | none=>rfl
  | some Y =>
   obtain⟨c,h1,_⟩:=hs _ Y e;exact absurd (dE h1) (Nat.lt_irrefl _)
 have hh:∀k,(w.alloc (.cells cs X.ty)).heap[k]? = if k=w.heap.size then some (.cells cs X.ty (0,0))else w.heap[k]?:=by
  intro k;show(w.heap.push _)[k]? = _;rw[Array.getElem?_push]
 have hg:co S.dom (S.upd w.heap.size X).dom w (w.alloc (.cells cs X.ty)):=by
  refine⟨rfl,rfl,rfl,by simp,fun k hk _=>?_,fun k c ty fr hc=>⟨c,?_,rfl⟩,fun k hk hm=>?_⟩
  ·rw[hh,if_neg om]
  ·rw[hh,if_neg (by have:=dE hc;omega)];exact hc
  ·simp only[St.dom,St.upd]at hm;rw[if_neg om]at hm;exact hm
 refine⟨hnone,fun k Y hY=>?_,hg⟩;simp only[St.upd]at hY;by_cases e:k=w.heap.size
 ·rw[if_pos e]at hY
  cases hY
  refine⟨cs,by rw[hh,if_pos e],hn,fun j hjn=>?_,hu⟩
  obtain⟨u,h1,h2⟩:=hj j hjn;exact⟨u,h1,a8.grow hs.noU hg _ _ h2⟩
 ·rw[if_neg e]at hY;obtain⟨c,h1,h2,h3,h4⟩:=hs k Y hY;refine⟨c,by rw[hh,if_neg e];exact h1,h2,fun j hjn=>?_,h4⟩
  obtain⟨u,h5,h6⟩:=h3 j hjn;exact⟨u,h5,a8.grow hs.noU hg _ _ h6⟩
def zF(s:Sem Value)(w:World)(S:St)(K:AV->St->Prop):Prop :=
 ∃z v w' S',K z S'/\a8 w' S'.dom z v/\dz w' S'/\co S.dom S'.dom w w'/\s.run Tryz.prog w=.ok v w'
def bK(g:Nat->AV)(i:Nat)(y:AV):Nat->AV:=fun j=>if j=i then y else g j
def gI(g:Nat->AV)(i:Nat)(l:List AV):Nat->AV:=fun j=>if i<=j/\j<i+l.length then l.getD (j-i) .any else g j
def nB(t:TypeId)(x y:AV)(S:St)(K:St->Prop):Prop:=match x with
 | .ptr es b i=>(match S b with
  | some X=>(match dM t with
   | some (es',k)=>es'=es/\X.es=es/\i+k<=X.n/\(if k=1 then du es y/\K (S.upd b { X with g:=bK X.g i y })else(match y with
    | .agg l=>l.length=k/\(∀z∈l,du es z)/\K (S.upd b { X with g:=gI X.g i l })
    | _=>False))
   | ac=>False)
  | ac=>False)
 | _=>False
theorem fQ{w:World}{M:Nat->Prop}{es:Nat}:∀(l:List AV) (vs:List Value),a6 w M l vs->(∀z∈l,du es z) ->
  vs.length=l.length/\(vs.flatMap (fun u=>u.cells.toList)).length=es*l.length/\(∀u∈vs.flatMap (fun u=>u.cells.toList),one u/\jQ u) /\
  ∀j,j<l.length->∃u,a8 w M (l.getD j .any) u/\∀(cs:Array Value) (o:Nat),(∀q,q<es*l.length->cs[o+q]? = (vs.flatMap (fun u=>u.cells.toList))[q]?)->reads cs (o+es*j) es u
 | [],[],_,_=>⟨rfl,by simp,by simp,fun j hj=>by simp at hj⟩
 | a::l,v::vs,hr,hs=>by
  simp only[a6]at hr;have ha:=hs a (dU ..);obtain⟨h1,h2,h3⟩:=o7 ha hr.1;obtain⟨i1,i2,i3,i4⟩:=fQ l vs hr.2 (fun z hz=>hs z (dk _ hz));have h1':v.cells.toList.length=es:=by simpa using h1
  refine⟨by simp[i1],by simp only[cT,List.length_append,h1',i2,cr];rw[dT];omega,fun u hu=>?_,fun j hj=>?_⟩
  ·simp only[cT,List.mem_append]at hu;rcases hu with hu|hu
   ·exact h2 u hu
   ·exact i3 u hu
  ·simp only[cr]at hj
   cases j with
   | zero =>
    refine⟨v,by simpa using hr.1,fun cs o hc=>?_⟩
    rw[dA,cR];refine h3 cs o (fun q hq=>?_);rw[hc q (by rw[cr,dT];omega),cT,dR om]
    simp
   | succ j =>
    obtain⟨u,hu1,hu2⟩:=i4 j om;refine⟨u,by simpa using hu1,fun cs o hc=>?_⟩
    have:=hu2 cs (o+es) (fun q hq=>by
     have h5:=hc (es+q) (by rw[cr,dT];omega)
     rw[cT,dC om,h1',show es+q-es=q by omega]at h5
     rw[<-h5];congr 1;omega)
    rw[dT,show o+(es*j+es)=o+es+es*j by omega]
    exact this
 | [],_::_,h,_=>by simp[a6]at h
 | _::_,[],h,_=>by simp[a6]at h
theorem iY{cs cs':Array Value}{o es:Nat}{u:Value}(h:reads cs o es u)(hsame:∀q,q<es->cs'[o+q]? = cs[o+q]?):reads cs' o es u:=by
 match es,h with
 | 1,h=>simp only[reads]at h ⊢;have:=hsame 0 om;simp only[cR]at this;exact⟨by rw[this];exact h.1,h.2⟩
 | 2,h =>
  simp only[reads]at h ⊢;obtain⟨x,y,e,h1,h2,h3,h4⟩:=h;have s0:=hsame 0 om;have s1:=hsame 1 om;simp only[cR]at s0;exact⟨x,y,e,h1,h2,by rw[s0];exact h3,by rw[s1];exact h4⟩
theorem oe{w:World}{S:St}(hs:dz w S){b:Nat}{X:dn}(hX:S b=some X)(l:List AV)(vs:List Value)(hr:a6 w S.dom l vs)(hl:∀z∈l,du X.es z)(i:Nat)(hi:i+l.length<=X.n) :
  ∃cs,w.heap[b]? = some (.cells cs X.ty (0,0))/\X.es*i+(vs.flatMap (fun u=>u.cells.toList)).length<=cs.size/\(∀u∈vs.flatMap (fun u=>u.cells.toList),one u) /\
   dz (eA w b (dK cs (X.es*i) (vs.flatMap (fun u=>u.cells.toList))) X.ty) (S.upd b { X with g:=gI X.g i l }) /\
   co S.dom (S.upd b { X with g:=gI X.g i l }).dom w (eA w b (dK cs (X.es*i) (vs.flatMap (fun u=>u.cells.toList))) X.ty):=by
 obtain⟨cs,hb,hsz,hj,hu⟩:=hs b X hX;obtain⟨l1,l2,l3,l4⟩:=fQ l vs hr hl;have hfit:X.es*i+(vs.flatMap (fun u=>u.cells.toList)).length<=cs.size:=by
  rw[l2,<-ct];exact bW (aY _ hi) hsz
 refine⟨cs,hb,hfit,fun u hu=>(l3 u hu).1,?_⟩;refine dz.write hs hX hb (fI _ _ _) rfl (by rw[fI];exact hsz) (fun j hjn=>?_) (fun k y hy=>?_)
 ·show ∃u,reads _ (X.es*j) X.es u/\a8 w S.dom (gI X.g i l j) u;unfold gI;by_cases hin:i<=j/\j<i+l.length
  ·rw[if_pos hin];obtain⟨u,h1,h2⟩:=l4 (j-i) om;refine⟨u,?_,h1⟩;have:=h2 (dK cs (X.es*i) (vs.flatMap (fun u=>u.cells.toList))) (X.es*i) (fun q hq=>by
    rw[fR _ _ _ _ hfit,if_pos (by rw[l2];omega)];congr 1;omega)
   rw[<-ct,show i+(j-i)=j by omega]at this
   exact this
  ·rw[if_neg hin];obtain⟨u,h1,h2⟩:=hj j hjn;refine⟨u,iY h1 (fun q hq=>?_),h2⟩;rw[fR _ _ _ _ hfit,if_neg];rw[l2];intro hc;have hji:j<i∨i+l.length<=j:=by omega
   rcases hji with h|h
   ·have:X.es*(j+1)<=X.es*i:=aY _ h;rw[dT]at this;omega
   ·have:X.es*(i+l.length)<=X.es*j:=aY _ h;rw[ct]at this;omega
 ·rw[fR _ _ _ _ hfit]at hy;split at hy
  ·exact(l3 y (cq hy)).2
  ·exact hu k y hy
theorem Ef(g:Nat->AV)(i:Nat)(y:AV):gI g i [y]=bK g i y:=by
 funext j;simp only[gI,bK,cr,jf];by_cases e:j=i
 ·subst e;rw[if_pos om,if_pos rfl];simp
 ·rw[if_neg om,if_neg e]
theorem sC{w:World}{b off t es k:Nat}{cs:Array Value}{ty:TypeId}(h:w.heap[b]? = some (.cells cs ty (0,0)))(ht:dM t=some (es,k))(v:Value)(hl:v.cells.size=es*k)
  (hfit:off+v.cells.size<=cs.size) (ho:∀u∈v.cells.toList,one u) :
  (Instr.storeAt t (.pointer (some ⟨b,off,ac⟩)) v).run Tryz.prog w=.ok () (eA w b (dK cs off v.cells.toList) ty):=by
 obtain⟨hch,_,_⟩:=o9 ht;obtain⟨i,d,hi,hs,hd,hx⟩:=tW hch;have h1:=iE Tryz.prog (b:=b) (off:=off) (ty:=ty) v.cells.toList w cs 0 h (by simpa using hfit) ho
 rw[cR]at h1;have hne:¬(v.cells.size≠i.size):=by rw[hs,hl];simp
 simp only[Instr.storeAt,Instr.sureAddr,pure_bind,storeVar,Sem.run_bind,cp hi,Result.andThen_ok];rw[if_neg hne];simp[h1]
theorem zm{t:TypeId}{x y:AV}{S:St}{K:St->Prop}(h:nB t x y S K){w:World}(hs:dz w S){vx vy:Value}(hx:a8 w S.dom x vx)(hy:a8 w S.dom y vy) :
  ∃w' S',K S'/\dz w' S'/\co S.dom S'.dom w w'/\(Instr.storeAt t vx vy).run Tryz.prog w=.ok () w':=by
 cases x with
 | ptr es b i =>
  simp only[nB]at h
  cases hX:S b with
  | none=>rw[hX]at h;exact h.elim
  | some X =>
   rw[hX]at h
   cases hk:dM t with
   | none=>rw[hk]at h;exact h.elim
   | some p =>
    obtain⟨es',k⟩:=p;rw[hk]at h;obtain⟨rfl,rfl,hn,hK⟩:=h;simp only[a8]at hx;subst hx;by_cases hk1:k=1
    ·subst hk1;rw[if_pos rfl]at hK;obtain⟨cs,hb,hfit,ho,hS,hG⟩:=oe hs hX [y] [vy] (by simp only[a6];exact⟨hy,trivial⟩) (fun z hz=>by simp at hz;subst hz;exact hK.1) i (by simpa using hn)
     simp only[cT,List.flatMap_nil,List.append_nil]at hfit ho hS hG;rw[Ef]at hS hG;refine⟨_,_,hK.2,hS,hG,?_⟩;obtain⟨h1,_,_⟩:=o7 hK.1 hy;exact sC hb hk vy (by rw[h1,Nat.mul_one]) (by simpa using hfit) ho
    ·rw[if_neg hk1]at hK
     cases y with
     | agg l =>
      simp only at hK;obtain⟨hl,hst,hK⟩:=hK;simp only[a8]at hy;obtain⟨vs,rfl,hr⟩:=hy;obtain⟨cs,hb,hfit,ho,hS,hG⟩:=oe hs hX l vs hr hst i (by rw[hl];exact hn)
      refine⟨_,_,hK,hS,hG,?_⟩;obtain⟨_,l2,_,_⟩:=fQ l vs hr hst;generalize vs.flatMap (fun u=>u.cells.toList)=fl at hfit ho l2 ⊢;exact sC (off:=X.es*i) hb hk (.agg fl.toArray) (by show fl.toArray.size=_;rw[bQ,l2,hl]) (by show _+fl.toArray.size<=_;rw[bQ];exact hfit) ho
     | _=>exact hK.elim
 | _=>exact h.elim
theorem dL.zero(w:World):dL w w.heap.size (.agg #[.bool false,.slice ac 0 0]) 0 :=
 ⟨false,ac,0,0,[],rfl,ah _,⟨rfl,by simp[lQ],fun h=>absurd h om⟩,by intro x hx;simp at hx,by simp[a9,sg]⟩
def eQ:TypeId->Option (Nat×AV×Value)
 | 2=>some (1,.int .i64 0,.int .i64 0)
 | 3=>some (1,.int .i64 0,.int .i64 0)
 | 4=>some (1,.bool false,.bool false)
 | 28=>some (1,.nil,.slice ac 0 0)
 | 29=>some (1,.nil,.slice ac 0 0)
 | 52=>some (1,.nil,.slice ac 0 0)
 | 59=>some (1,.nil,.slice ac 0 0)
 | 50=>some (2,.big 0,.agg #[.bool false,.slice ac 0 0])
 | _=>ac
def kA(P:Program)(t:TypeId):Option (Value×Nat×Nat):=(P.info? t).bind fun i=>i.zero.map fun z=>(z,i.size,i.bytes)
theorem mD{t es:Nat}{x:AV}{z:Value}(h:eQ t=some (es,x,z)):∃i,Tryz.prog.info? t=some i/\i.zero=some z/\i.size=es/\i.bytes<=32/\0<es/\z.cells.size=es/\du es x/\∀w M,a8 w M x z:=by
 have key:∀(z':Value) (s b:Nat),kA Tryz.prog t=some (z',s,b)->b<=32->∃i,Tryz.prog.info? t=some i/\i.zero=some z'/\i.size=s/\i.bytes<=32:=by
  intro z' s b hc hb;unfold kA at hc
  cases hi:Tryz.prog.info? t with
  | none=>rw[hi]at hc;simp at hc
  | some i =>
   rw[hi]at hc;simp only[cQ,ck,Prod.mk.injEq]at hc;obtain⟨z2,h1,h2,h3,h4⟩:=hc;exact⟨i,rfl,by rw[h1,h2],h3,by omega⟩
 unfold eQ at h;split at h
 ·cases h;obtain⟨i,h1,h2,h3,h4⟩:=key (.int .i64 0) 1 8 (by kernel_rfl) om;exact⟨i,h1,h2,h3,h4,by omega,rfl,by simp[du],fun w M=>by simp[a8]⟩
 ·cases h;obtain⟨i,h1,h2,h3,h4⟩:=key (.int .i64 0) 1 8 (by kernel_rfl) om;exact⟨i,h1,h2,h3,h4,by omega,rfl,by simp[du],fun w M=>by simp[a8]⟩
 ·cases h;obtain⟨i,h1,h2,h3,h4⟩:=key (.bool false) 1 1 (by kernel_rfl) om;exact⟨i,h1,h2,h3,h4,by omega,rfl,by simp[du],fun w M=>by simp[a8]⟩
 ·cases h;obtain⟨i,h1,h2,h3,h4⟩:=key (.slice ac 0 0) 1 24 (by kernel_rfl) om;exact⟨i,h1,h2,h3,h4,by omega,rfl,by simp[du],fun w M=>by simp[a8]⟩
 ·cases h;obtain⟨i,h1,h2,h3,h4⟩:=key (.slice ac 0 0) 1 24 (by kernel_rfl) om;exact⟨i,h1,h2,h3,h4,by omega,rfl,by simp[du],fun w M=>by simp[a8]⟩
 ·cases h;obtain⟨i,h1,h2,h3,h4⟩:=key (.slice ac 0 0) 1 24 (by kernel_rfl) om;exact⟨i,h1,h2,h3,h4,by omega,rfl,by simp[du],fun w M=>by simp[a8]⟩
 ·cases h;obtain⟨i,h1,h2,h3,h4⟩:=key (.slice ac 0 0) 1 24 (by kernel_rfl) om;exact⟨i,h1,h2,h3,h4,by omega,rfl,by simp[du],fun w M=>by simp[a8]⟩
 ·cases h;obtain⟨i,h1,h2,h3,h4⟩:=key (.agg #[.bool false,.slice ac 0 0]) 2 32 (by kernel_rfl) om;exact⟨i,h1,h2,h3,h4,by omega,rfl,by simp[du],fun w M=>by simp only[a8];exact dL.zero w⟩
 ·cases h
theorem jZ{w:World}{S:St}(hs:dz w S){es:Nat}(t:TypeId)(l:List AV)(vs:List Value)(hr:a6 w S.dom l vs)(hl:∀z∈l,du es z) :
  S w.heap.size=ac/\dz (w.alloc (.cells (vs.flatMap (fun u=>u.cells.toList)).toArray t)) (S.upd w.heap.size ⟨t,es,l.length,fun j=>l.getD j .any⟩) /\
   co S.dom (S.upd w.heap.size ⟨t,es,l.length,fun j=>l.getD j .any⟩).dom w (w.alloc (.cells (vs.flatMap (fun u=>u.cells.toList)).toArray t))/\(vs.flatMap (fun u=>u.cells.toList)).length=es*l.length:=by
 obtain⟨l1,l2,l3,l4⟩:=fQ l vs hr hl;have:=dz.new hs (X:=⟨t,es,l.length,fun j=>l.getD j .any⟩) (cs:=(vs.flatMap (fun u=>u.cells.toList)).toArray) (by simp only[bQ];rw[l2];exact ah _) (fun j hj=>by
   obtain⟨u,h1,h2⟩:=l4 j hj;refine⟨u,?_,h1⟩;have:=h2 (vs.flatMap (fun u=>u.cells.toList)).toArray 0 (fun q _=>by simp)
   simpa using this) (fun k y hy=>by
   rw[eP]at hy;exact(l3 y (cq hy)).2)
 exact⟨this.1,this.2.1,this.2.2,l2⟩
theorem iL{w:World}{M:Nat->Prop}{x:AV}{v:Value}(h:a8 w M x v):∀n,a6 w M (bL n x) (bL n v)
 | 0=>by simp[a6]
 | n+1=>by simp only[kl,a6];exact⟨h,iL h n⟩
theorem dz.reg{w:World}{S:St}{b:Nat}{X Y:dn}(h:dz w (S.upd b X))(h1:Y.ty=X.ty)(h2:Y.es=X.es)(h3:Y.n=X.n)(h4:∀j,j<X.n->Y.g j=X.g j):dz w (S.upd b Y)/\(S.upd b Y).dom=(S.upd b X).dom:=by
 have hd:(S.upd b Y).dom=(S.upd b X).dom:=by
  funext k;simp only[St.dom,St.upd];by_cases e:k=b<;>simp[e]
 refine⟨fun k Z hZ=>?_,hd⟩;rw[hd];simp only[St.upd]at hZ;by_cases e:k=b
 ·rw[if_pos e]at hZ
  cases hZ
  obtain⟨cs,c1,c2,c3,c4⟩:=h k X (by simp[St.upd,e])
  refine⟨cs,by rw[h1];exact c1,by rw[h2,h3];exact c2,fun j hj=>?_,c4⟩
  rw[h3]at hj;obtain⟨u,u1,u2⟩:=c3 j hj;rw[h2,h4 j hj];exact⟨u,u1,u2⟩
 ·rw[if_neg e]at hZ;exact h k Z (by simp[St.upd,e,hZ])
theorem uQ{n j:Nat}(h:j<n)(x d:AV):(bL n x).getD j d=x:=by simp[cB,h]
def kT(t:TypeId)(S:St)(K:AV->St->Prop):Prop:=match eQ t with
 | some (es,x,_)=>∀b,S b=ac->K (.ptr es b 0) (S.upd b ⟨t,es,1,fun _=>x⟩)
 | ac=>(match t with
  | 167=>∀b,S b=ac->K (.ptr 2 b 0) (S.upd b ⟨167,2,2,fun _=>.big 0⟩)
  | 197=>∀b,S b=ac->K (.ptr 2 b 0) (S.upd b ⟨197,2,7,fun _=>.big 0⟩)
  | 218=>∀b,S b=ac->K (.ptr 1 b 0) (S.upd b ⟨218,1,2,fun j=>if j=0 then .nil else .int .i64 0⟩)
  | 202=>∀b,S b=ac->K (.ptr 1 b 0) (S.upd b ⟨202,1,2,fun _=>.int .u64 0⟩)
  | _=>False)
theorem xA{t:TypeId}{i:TypeInfo}{z:Value}(hi:Tryz.prog.info? t=some i)(hz:i.zero=some z)(w:World) :
  (Instr.alloc t true (.tuple #[])).run Tryz.prog w=.ok (.pointer (some ⟨w.heap.size,0,ac⟩)) (w.alloc (.cells z.cells t)):=by
 simp[Instr.alloc,zeroValue,typeInfo,hi,hz,newVar,newRow]
theorem lL{w:World}{S:St}(hs:dz w S){t es:Nat}(l:List AV)(vs:List Value){i:TypeInfo}{z:Value}(hi:Tryz.prog.info? t=some i)(hz:i.zero=some z)(hv:z.cells=(vs.flatMap (fun u=>u.cells.toList)).toArray)
  (hr:a6 w S.dom l vs) (hl:∀y∈l,du es y) (Y:dn) (h1:Y.ty=t) (h2:Y.es=es) (h3:Y.n=l.length) (h4:∀j,j<l.length->Y.g j=l.getD j .any) {K:AV->St->Prop} (hK:∀b,S b=ac->K (.ptr es b 0) (S.upd b Y)) :
  zF (Instr.alloc t true (.tuple #[])) w S K:=by
 obtain⟨n1,n2,n3,_⟩:=jZ hs t l vs hr hl;obtain⟨r1,r2⟩:=dz.reg n2 (Y:=Y) h1 h2 h3 h4;refine⟨_,.pointer (some ⟨w.heap.size,0,ac⟩),_,_,hK _ n1,by simp[a8],r1,by rw[r2];exact n3,?_⟩
 rw[xA hi hz,hv]
theorem zq{t:TypeId}{S:St}{K:AV->St->Prop}(h:kT t S K){w:World}(hs:dz w S):zF (Instr.alloc t true (.tuple #[])) w S K:=by
 have key:∀(z':Value) (s b:Nat),kA Tryz.prog t=some (z',s,b)->∃i,Tryz.prog.info? t=some i/\i.zero=some z':=by
  intro z' s b hc;unfold kA at hc
  cases hi:Tryz.prog.info? t with
  | none=>rw[hi]at hc;simp at hc
  | some i =>
   rw[hi]at hc;simp only[cQ,ck,Prod.mk.injEq]at hc;obtain⟨z2,h1,h2,h3,h4⟩:=hc;exact⟨i,rfl,by rw[h1,h2]⟩
 unfold kT at h
 cases hz:eQ t with
 | some p =>
  obtain⟨es,x,z⟩:=p;rw[hz]at h;obtain⟨i,h1,h2,h3,h4,h5,h6,h7,h8⟩:=mD hz;exact lL hs [x] [z] h1 h2 (by simp) (by simp only[a6];exact⟨h8 _ _,trivial⟩) (fun y hy=>by simp at hy;subst hy;exact h7) ⟨t,es,1,fun _=>x⟩ rfl rfl rfl (fun j hj=>by simp at hj;subst hj;rfl) h
 | none =>
  rw[hz]at h;have zb:∀M,a8 w M (.big 0) (.agg #[.bool false,.slice ac 0 0]):=fun M=>by simp only[a8];exact dL.zero w
  simp only at h;split at h
  ·obtain⟨i,h1,h2⟩:=key (.agg #[.bool false,.slice ac 0 0,.bool false,.slice ac 0 0]) 4 64 (by kernel_rfl)
   exact lL hs (bL 2 (.big 0)) (bL 2 (.agg #[.bool false,.slice ac 0 0])) h1 h2 rfl (iL (zb _) 2) (fun y hy=>by rw[fM hy];simp[du]) ⟨167,2,2,fun _=>.big 0⟩ rfl rfl rfl
    (fun j hj=>(uQ (by rw[mb]at hj;exact hj) _ _).symm) h
  ·obtain⟨i,h1,h2⟩:=key (.agg (bL 7 [.bool false,.slice ac 0 0]).flatten.toArray) 14 224 (by kernel_rfl)
   exact lL hs (bL 7 (.big 0)) (bL 7 (.agg #[.bool false,.slice ac 0 0])) h1 h2 rfl (iL (zb _) 7) (fun y hy=>by rw[fM hy];simp[du]) ⟨197,2,7,fun _=>.big 0⟩ rfl rfl rfl
    (fun j hj=>(uQ (by rw[mb]at hj;exact hj) _ _).symm) h
  ·obtain⟨i,h1,h2⟩:=key (.agg #[.slice ac 0 0,.int .i64 0]) 2 32 (by kernel_rfl)
   exact lL hs [.nil,.int .i64 0] [.slice ac 0 0,.int .i64 0] h1 h2 rfl (by simp[a6,a8]) (fun y hy=>by simp at hy;rcases hy with rfl|rfl<;>simp[du]) ⟨218,1,2,fun j=>if j=0 then .nil else .int .i64 0⟩ rfl rfl rfl
    (fun j hj=>by match j with
     | 0=>rfl
     | 1=>rfl
     | j+2=>exact absurd hj (by simp only[cr,jf];omega)) h
  ·obtain⟨i,h1,h2⟩:=key (.agg #[.int .u64 0,.int .u64 0]) 2 16 (by kernel_rfl)
   exact lL hs [.int .u64 0,.int .u64 0] [.int .u64 0,.int .u64 0] h1 h2 rfl (by simp[a6,a8]) (fun y hy=>by simp at hy;subst hy;simp[du]) ⟨202,1,2,fun _=>.int .u64 0⟩ rfl rfl rfl
    (fun j hj=>by match j with
     | 0=>rfl
     | 1=>rfl
     | j+2=>exact absurd hj (by simp only[cr,jf];omega)) h
  ·exact h.elim
def iK(t:TypeId)(x:AV)(S:St)(K:AV->St->Prop):Prop:=match dM t with
 | some (es,k)=>if k=1 then du es x/\∀b,S b=ac->K (.ptr es b 0) (S.upd b ⟨t,es,1,fun _=>x⟩)else(match x with
  | .agg l=>l.length=k/\(∀z∈l,du es z)/\∀b,S b=ac->K (.ptr es b 0) (S.upd b ⟨t,es,k,fun j=>l.getD j .any⟩)
  | _=>False)
 | ac=>False
theorem Df(t:TypeId)(v:Value)(w:World):(Instr.box t v).run Tryz.prog w=.ok (.pointer (some ⟨w.heap.size,0,ac⟩)) (w.alloc (.cells v.cells t)):=by
 simp[Instr.box,newVar,newRow]
theorem CN{t:TypeId}{x:AV}{S:St}{K:AV->St->Prop}(h:iK t x S K){w:World}(hs:dz w S){v:Value}(hx:a8 w S.dom x v):zF (Instr.box t v) w S K:=by
 unfold iK at h
 cases hk:dM t with
 | none=>rw[hk]at h;exact h.elim
 | some p =>
  obtain⟨es,k⟩:=p;rw[hk]at h;simp only at h;by_cases hk1:k=1
  ·rw[if_pos hk1]at h;obtain⟨n1,n2,n3,_⟩:=jZ hs t [x] [v] (by simp only[a6];exact⟨hx,trivial⟩) (fun z hz=>by simp at hz;subst hz;exact h.1)
   obtain⟨r1,r2⟩:=dz.reg n2 (Y:=⟨t,es,1,fun _=>x⟩) rfl rfl rfl (fun j hj=>by simp at hj;subst hj;rfl)
   refine⟨_,.pointer (some ⟨w.heap.size,0,ac⟩),_,_,h.2 _ n1,by simp[a8],r1,by rw[r2];exact n3,?_⟩
   rw[Df];simp
  ·rw[if_neg hk1]at h
   cases x with
   | agg l =>
    simp only at h;obtain⟨hl,hst,hK⟩:=h;simp only[a8]at hx;obtain⟨vs,rfl,hr⟩:=hx;obtain⟨n1,n2,n3,_⟩:=jZ hs t l vs hr hst;rw[hl]at n2 n3;exact⟨_,.pointer (some ⟨w.heap.size,0,ac⟩),_,_,hK _ n1,by simp[a8],n2,n3,Df ..⟩
   | _=>exact h.elim
def cX:TypeId->Option TypeId
 | 22=>some 41
 | 28=>some 29
 | 29=>some 2
 | 52=>some 59
 | 59=>some 50
 | 146=>some 3
 | 192=>some 52
 | 216=>some 59
 | _=>ac
def bI:TypeId->Nat
 | 50=>2
 | _=>1
def eChk(P:Program)(t:TypeId):Option (TypeId×Nat):=(P.underlying t).bind fun
 | .slice e=>(P.info? e).map fun i=>(e,i.size)
 | _=>ac
theorem gQ{t e:TypeId}(h:cX t=some e):Tryz.prog.underlying t=some (.slice e)/\∃i,Tryz.prog.info? e=some i/\i.size=bI e:=by
 have key:∀s,eChk Tryz.prog t=some (e,s)->Tryz.prog.underlying t=some (.slice e)/\∃i,Tryz.prog.info? e=some i/\i.size=s:=by
  intro s hc;unfold eChk at hc
  cases hu:Tryz.prog.underlying t with
  | none=>rw[hu]at hc;simp at hc
  | some d =>
   rw[hu]at hc
   cases d<;>simp only[cQ,ck,Prod.mk.injEq,reduceCtorEq]at hc
   obtain⟨i,h1,rfl,h3⟩:=hc;exact⟨rfl,i,h1,h3⟩
 unfold cX at h;split at h<;>first
  | (cases h;exact key _ (by kernel_rfl))
  | cases h
def nE(t:TypeId)(x i:AV)(K:AV->Prop):Prop:=match cX t,x,i with
 | some e,.sl es b off len,.int _ n=>es=bI e/\(0<=n/\n<(len:Int))/\K (.ptr es b (off+n.toNat))
 | some e,.lst es len g,.int _ n=>es=bI e/\(0<=n/\n<(len:Int))/\K (.pat es (g n.toNat))
 | ac,.ptr es b k,.int _ n=>(es=2/\t=195)/\(0<=n/\n<2)/\K (.ptr 2 b (k+n.toNat))
 | _,_,_=>False
theorem sE{t e:TypeId}(he:cX t=some e)(w:World)(b off len cap:Nat)(k:IntKind)(n:Int)(h0:0<=n)(h1:n<(len:Int)) :
  (Instr.indexAt t (.slice (some ⟨b,off,ac⟩) len cap) (.int k n)).run Tryz.prog w=.ok (.pointer (some ⟨b,off+n.toNat*bI e,ac⟩)) w:=by
 obtain⟨hu,i,hi,hs⟩:=gQ he;have hc:0<=n/\n<(len:Int):=⟨h0,h1⟩;simp[Instr.indexAt,asIntOf,run_underlying hu,cp hi,hs,fT,hc]
theorem qT{t:TypeId}{x y:AV}{K:AV->Prop}(h:nE t x y K){w:World}{M:Nat->Prop}{vx vy:Value}(hx:a8 w M x vx)(hy:a8 w M y vy) :
  ∃z v,K z/\a8 w M z v/\(Instr.indexAt t vx vy).run Tryz.prog w=.ok v w:=by
 unfold nE at h;split at h
 ·rename_i e es b off len k n he;obtain⟨rfl,⟨h0,h1⟩,hK⟩:=h;simp only[a8]at hx hy;obtain⟨cap,cs,ty,fr,rfl,_,_,_⟩:=hx;subst hy;refine⟨_,_,hK,?_,sE he w b _ len cap k n h0 h1⟩;simp only[a8];rw[ct,aO (bI e) n.toNat]
 ·rename_i e es len g k n he;obtain⟨rfl,⟨h0,h1⟩,hK⟩:=h;simp only[a8]at hx hy;obtain⟨A,c,rfl,hc,hb⟩:=hx;subst hy;obtain⟨b,off,rfl,hlt,hm,hj⟩:=hb om;obtain⟨u,hr,hu⟩:=hj n.toNat om;refine⟨_,_,hK,?_,sE he w b _ len c k n h0 h1⟩;simp only[a8];exact⟨b,_,u,by rw[aO],hlt,hm,by rw[aO];rw[aO]at hr;exact hr,hu⟩
 ·rename_i es b k kk n he;obtain⟨⟨rfl,rfl⟩,⟨h0,h1⟩,hK⟩:=h;simp only[a8]at hx hy;subst hx hy;obtain⟨hu,i,hi,hs⟩:=gQ (t:=59) (e:=50) rfl;refine⟨_,.pointer (some ⟨b,2*k+n.toNat*2,ac⟩),hK,?_,?_⟩
  ·simp only[a8];rw[ct,aO n.toNat]
  ·have hc:0<=n/\n<2:=⟨h0,h1⟩;simp[Instr.indexAt,Instr.sureAddr,asIntOf,run_underlying Tryz.underlying195,cp hi,hs,fT,hc,bI]
 ·exact h.elim
def jr(t:TypeId)(x y:AV)(S:St)(K:AV->St->Prop):Prop:=match cX t,x with
 | some e,.int _ n=>(match eQ e with
  | some (es,z,_)=>x=y/\es=bI e/\(0<=n/\n<=1099511627776)/\∀b,S b=ac->K (.sl es b 0 n.toNat) (S.upd b ⟨e,es,n.toNat,fun _=>z⟩)
  | ac=>False)
 | _,_=>False
theorem kW(z:Value)(n:Nat):madeCells z.cells (n*z.cells.size)=((bL n z).flatMap (fun u=>u.cells.toList)).toArray:=by
 apply o0;intro i;simp only[madeCells,Array.getElem?_map,eP]
 induction n generalizing i with
 | zero=>simp
 | succ n ih =>
  simp only[kl,cT];by_cases h:i<z.cells.size
  ·rw[dR (by simpa using h)]
   have h2:i<(n+1)*z.cells.size:=by rw[it];omega
   simp[h2,Nat.mod_eq_of_lt h,h]
  ·rw[dC (by simp;omega)]
   have:=ih (i-z.cells.size);simp only[Array.length_toList];rw[<-this];by_cases h2:i<(n+1)*z.cells.size
   ·have h3:i-z.cells.size<n*z.cells.size:=by rw[it]at h2;omega
    have h4:i%z.cells.size=(i-z.cells.size)%z.cells.size:=by
     rw[Nat.mod_eq_sub_mod om]
    simp[h2,h3,h4]
   ·have h3:¬i-z.cells.size<n*z.cells.size:=by rw[it]at h2;omega
    simp[h2,h3]
theorem Bl{t:TypeId}{x y:AV}{S:St}{K:AV->St->Prop}(h:jr t x y S K){w:World}(hs:dz w S){vx vy:Value}(hx:a8 w S.dom x vx)(hy:a8 w S.dom y vy):zF (Instr.makeSlice t vx vy) w S K:=by
 unfold jr at h;split at h
 ·rename_i e k n he
  cases hz:eQ e with
  | none=>rw[hz]at h;exact h.elim
  | some p =>
   obtain⟨es,z,zv⟩:=p;rw[hz]at h;obtain⟨rfl,rfl,⟨h0,h1⟩,hK⟩:=h;obtain⟨hu,i,hi,hsz⟩:=gQ he;obtain⟨i',g1,g2,g3,g4,g5,g6,g7,g8⟩:=mD hz;rw[hi]at g1;cases g1;simp only[a8]at hx hy;subst hx hy;have hb:(i.bytes:Int)*n<=281474976710656:=by
    have h3:(i.bytes:Int)*n<=32*n:=Int.mul_le_mul_of_nonneg_right om h0;omega
   have hrun:=run_make (P:=Tryz.prog) w t e i zv hu hi g2 k k n n h0 (Int.le_refl _) hb om;obtain⟨n1,n2,n3,n4⟩:=jZ hs e (bL n.toNat z) (bL n.toNat zv) (iL (g8 _ _) _) (fun y hy=>by rw[fM hy];exact g7)
   rw[mb]at n2 n3 n4;obtain⟨r1,r2⟩:=dz.reg n2 (Y:=⟨e,bI e,n.toNat,fun _=>z⟩) rfl rfl rfl (fun j hj=>by simp only at hj;simp[cB,hj])
   rw[g3,<-g6,kW zv n.toNat]at hrun;refine⟨_,_,_,_,hK _ n1,?_,r1,by rw[r2];exact n3,hrun⟩
   simp only[a8];refine⟨n.toNat,_,e,(0,0),by rw[dA],ah _,heap_alloc_new w _,?_⟩
   simp only[bQ];rw[n4];simp
 ·exact h.elim
def eM:TypeId->Nat->Option (Nat×Nat)
 | 24,0=>some (1,0)|24,1=>some (1,1)|24,2=>some (1,2)|24,3=>some (1,3)
 | 27,0=>some (1,0)|27,1=>some (1,4)|27,2=>some (1,5)
 | 107,0=>some (1,0)|107,1=>some (1,1)
 | 160,0=>some (1,0)|160,1=>some (1,1)|160,2=>some (1,2)|160,3=>some (1,3)
 | 167,0=>some (2,0)|167,1=>some (2,1)
 | 183,0=>some (1,0)|183,1=>some (1,1)
 | 197,0=>some (2,0)|197,1=>some (2,1)|197,2=>some (2,2)|197,3=>some (2,3)|197,4=>some (2,5)
 | 218,0=>some (1,0)|218,1=>some (1,1)
 | _,_=>ac
def Ez(P:Program)(t f:Nat):Option (Nat×Bool):=(P.underlying t).bind fun
 | .struct fs=>(fs[f]?).bind fun fl=>(P.info? fl.type).map fun i=>(fl.offset,i.size==0)
 | _=>ac
theorem Ey{t f es k:Nat}(h:eM t f=some (es,k)):Ez Tryz.prog t f=some (es*k,false):=by
 unfold eM at h;split at h<;>first
  | (cases h;kernel_rfl)
  | cases h
theorem GB:Ez Tryz.prog 50 0=some (0,false):=by kernel_rfl
theorem GA:Ez Tryz.prog 50 1=some (1,false):=by kernel_rfl
def nF(t:TypeId)(x:AV)(f:Nat)(K:AV->Prop):Prop:=match eM t f,x with
 | some (es',k),.ptr es b i=>es'=es/\K (.ptr es b (i+k))
 | ac,.ptr es b i=>(es=2/\t=50/\f<2)/\K (.fp b i f)
 | _,_=>False
theorem qU{t:TypeId}{x:AV}{f:Nat}{K:AV->Prop}(h:nF t x f K){w:World}{M:Nat->Prop}{vx:Value}(hx:a8 w M x vx) :
  ∃z v,K z/\a8 w M z v/\(Instr.fieldAt t vx f).run Tryz.prog w=.ok v w:=by
 unfold nF at h;split at h
 ·rename_i es' k es b i hf;obtain⟨rfl,hK⟩:=h;simp only[a8]at hx;subst hx;have hc:=Ey hf;unfold Ez at hc
  cases hu:Tryz.prog.underlying t with
  | none=>rw[hu]at hc;simp at hc
  | some d =>
   rw[hu]at hc
   cases d<;>simp only[cQ,reduceCtorEq]at hc
   rename_i fs
   cases hfl:fs[f]? with
   | none=>rw[hfl]at hc;simp at hc
   | some fl =>
    rw[hfl]at hc;simp only[cQ,ck,Prod.mk.injEq,beq_eq_false_iff_ne]at hc;obtain⟨ii,hi,ho,hz⟩:=hc;refine⟨_,.pointer (some ⟨b,es'*i+es'*k,ac⟩),hK,by simp[a8,ct],?_⟩
    simp[Instr.fieldAt,run_underlying hu,hfl,Instr.sureAddr,fieldPlace,cp hi,hz,fT,ho]
 ·rename_i es b i hf;obtain⟨⟨rfl,rfl,hf2⟩,hK⟩:=h;simp only[a8]at hx;subst hx;have hc:Ez Tryz.prog 50 f=some (f,false):=by
   have h2:f=0∨f=1:=by omega
   rcases h2 with rfl|rfl
   ·exact GB
   ·exact GA
  unfold Ez at hc
  cases hu:Tryz.prog.underlying 50 with
  | none=>rw[hu]at hc;simp at hc
  | some d =>
   rw[hu]at hc
   cases d<;>simp only[cQ,reduceCtorEq]at hc
   rename_i fs
   cases hfl:fs[f]? with
   | none=>rw[hfl]at hc;simp at hc
   | some fl =>
    rw[hfl]at hc;simp only[cQ,ck,Prod.mk.injEq,beq_eq_false_iff_ne]at hc;obtain⟨ii,hi,ho,hz⟩:=hc;refine⟨_,.pointer (some ⟨b,2*i+f,ac⟩),hK,by simp[a8],?_⟩
    simp[Instr.fieldAt,run_underlying hu,hfl,Instr.sureAddr,fieldPlace,cp hi,hz,fT,ho]
 ·exact h.elim
end Go.Proofs.YtdobfmlmenaajaaGreatDoor
