/-
  Lemmas for NeighbourVerify.
-/
import Derived.Test.YtdobfmlmenaajaaGreatDoorV07
import Derived.LoopN
import Derived.Scope
namespace Go.Proofs.YtdobfmlmenaajaaGreatDoor
open Go.RowKit Tryz
open _root_.Array renaming replicate→ln
open _root_.Classical renaming choose→dM
open _root_.List renaming getD→cS
open _root_.Option renaming none→ab
open Region renaming wanted→pu
open Tryz renaming prog→ai
set_option maxHeartbeats 6400000
set_option maxRecDepth 4096
set_option linter.all false
variable{x z:AV}{post:AV->St->Prop}{ops:Array Oper}{R:Array ResultVar}{c:Code}{Q:Exit->Act->World->Prop}{a za:Int}{args args':List AV}{N b es f i j k m n ty:Nat}{g g' h:Nat->AV}{r:Nat->Int}{A:Nat->Nat->Int}{M:Nat->Prop}{p q:Prop}{S:St}{O:Tm}{K:Tm->St->Prop}{α:Type}{w:World}
def CL(ops:Array Oper):Bool:=ops.toList.zipIdx.all (fun p=>(aft p.1).all (fun k=>decide (k<p.2)))
def Ed(ops:Array Oper)(o:Oper)(O:Tm)(S:St)(K:Tm->St->Prop):Prop:=match o.guard with
 | ab=>AP o O S (fun z S'=>K (O.put o.dst z) S')
 | some (j,want)=>(match EG ops O j with
  | .bool b=>(b=want->AP o O S (fun z S'=>K (O.put o.dst z) S'))/\(b=!want->K (O.put o.dst .any) S)
  | _=>False)
def awI(ops:Array Oper)(O:Tm)(S:St)(K:Tm->St->Prop):Prop:=∃P:(Nat->Bool)->Tm->St->Prop,CL ops=true/\P (fun _=>false) O S /\
 (∀(i:Nat) (o:Oper),ops[i]? = some o->∀L O S,P L O S->L i=false->(∀k∈aft o,L k=true)->Ed ops o O S (P (fun k=>if k=i then true else L k))) /\
 (∀L O S,P L O S->(∀i,i<ops.size->L i=true)->K O S)
def LK{id:Nat}{a:Act}(h:awI ops O S K)(q:RT O S N a w)(R:xN N ops.toList=true)
  (T:∀O' S' a' w',K O' S'->RT O' S' N a' w'->dI S.dom S'.dom w w'->Q .normal a' w'):(Code.region id ops true).wp ai Q a w:=by
 obtain⟨P,C,U,hstep,r⟩:=h;have back:∀(j:Nat) (o:Oper),ops[j]? = some o->∀k∈aft o,k<j:=by
  intro j o m k V;have c:=aE.1 C (o,j) (mG (by simpa using m))
  have W:=aE.1 c k V;simpa using W
 have w0s:fI w.drew S:=q.st.drew;have X:RT O S N a w.drew:=⟨q.defers,q.size,fun t=>bM.grow q.st.noU (dI.drew _ w) _ _ (q.tm t),w0s⟩;refine wp_region_any kr (qe (fun listed a' w'=>listed.size=ops.size/\∃O' S',P (fun i=>listed.getD i false) O' S'/\RT O' S' N a' w'/\dI S.dom S'.dom w.drew w') ?_ ?_ ops.size _ a w.drew ?_ ⟨sm,O,S,?_,X,dI.refl _ _⟩)
 .rintro listed a' w' i ⟨g,O',S',D,l,E⟩ F;obtain⟨o,m,G,s⟩:=mH F;have Y:i<ops.size:=(er.1 m).1;have Z:(fun k=>listed.getD k false) i=false:=(DI om).symm.trans G;have c:=hstep i o m _ O' S' D Z s;have u:(fun k=>(listed.setIfInBounds i true).getD k false)=(fun k=>if k=i then true else listed.getD k false):=by
   funext k;exact mK listed i k false om
  have nxt:∀z v w'' S'',P (fun k=>if k=i then true else listed.getD k false) (O'.put o.dst z) S''->bM w'' S''.dom z v->fI w'' S''->dI S'.dom S''.dom w' w'' ->
    ((listed.setIfInBounds i true).size=ops.size/\∃O1 S1,P (fun i_1=>(listed.setIfInBounds i true).getD i_1 false) O1 S1/\RT O1 S1 N (a'.put o.dst v) w''/\dI S.dom S1.dom w.drew w''):=by
   intro z v w'' S'' x y A n;refine⟨by simp[g],_,S'',?_,l.put n A (fun d H=>Aq R m H) y,E.trans n⟩
   rw[u];exact x
  unfold wpOp;simp only[m];unfold Ed at c
  cases f:o.guard with
  | none =>
   rw[f]at c;rw[ah (by simp[pu,f])]
   exact bW (pT c l (fun z v w'' S'' x y A n=>nxt z v w'' S'' x y A n))
  | some p =>
   obtain⟨j,want⟩:=p;rw[f]at c;simp only at c
   cases M:EG ops O' j<;>rw[M]at c<;>try exact c.elim
   rename_i b;have B:=BW l M;by_cases I:b=want
   .rw[ah (by simp[pu,f,B,I])]
    exact bW (pT (c.1 I) l (fun z v w'' S'' x y A n=>nxt z v w'' S'' x y A n))
   .rw[af (by simp[pu,f,B,I])]
    have J:b=!want:=by cases b<;>cases want<;>simp_all
    exact nxt .any undef w' S' (c.2 J) (by simp[bM]) l.st (dI.refl _ _)
 .rintro listed a' w' ⟨g,O',S',D,l,E⟩ L;exact T O' S' a' w' (r _ O' S' D (fun i F=>wj back g L i F)) l ((dI.drew S.dom w).trans E)
 .simp only[Uo];exact a9 Ue sm
 .have e:(fun i=>(ln ops.size false).getD i false)=fun _=>false:=by funext i;exact Cl _ _
  show P (fun i=>(ln ops.size false).getD i false) O S;rw[e];exact U

inductive AX where
 | normal
 | ret
 | exit (id:Nat)
def AX.seq(k:Tm->St->Prop)(Q:AX->Tm->St->Prop):AX->Tm->St->Prop
 | .normal=>k
 | .ret=>Q .ret
 | .exit i=>Q (.exit i)
def AX.blk(id:Nat)(Q:AX->Tm->St->Prop):AX->Tm->St->Prop
 | .normal=>Q .normal
 | .ret=>Q .ret
 | .exit i=>if i=id then Q .normal else Q (.exit i)
def Q7(ops:Array Oper)(O:Tm)(S:St)(K:Tm->St->Prop):Prop:=awX ops O S K∨awI ops O S K
def aw:Code->(AX->Tm->St->Prop)->Tm->St->Prop
 | .skip,Q,O,S=>Q .normal O S
 | .region _ ops false,Q,O,S=>Gb ops ops.toList O S (Q .normal)
 | .region _ ops true,Q,O,S=>Q7 ops O S (Q .normal)
 | .seq x y,Q,O,S=>aw x (AX.seq (aw y Q) Q) O S
 | .cond c x y,Q,O,S=>(match ev O c with
  | .bool b=>(b=true->aw x Q O S)/\(b=false->aw y Q O S)
  | _=>False)
 | .block id c,Q,O,S=>aw c (AX.blk id Q) O S
 | .loop c,Q,O,S=>∃(I:Tm->St->Prop) (μ:Tm->St->Nat),I O S/\∀O S,I O S->aw c (AX.seq (fun O' S'=>I O' S'/\μ O' S' < μ O S) Q) O S
 | .exit id,Q,O,S=>Q (.exit id) O S
 | .ret,Q,O,S=>Q .ret O S
 | .scope c,Q,O,S=>aw c Q O S
 | .label _,Q,O,S=>Q .normal O S
 | _,_,_,_=>False
def jt(N:Nat):Code->Bool
 | .skip=>true
 | .region _ ops _=>xN N ops.toList
 | .seq x y=>jt N x&&jt N y
 | .cond _ x y=>jt N x&&jt N y
 | .block _ c=>jt N c
 | .loop c=>jt N c
 | .exit _=>true
 | .ret=>true
 | .scope c=>jt N c
 | .label _=>true
 | _=>false
def Post(Q:AX->Tm->St->Prop)(D:Nat->Prop)(N:Nat)(w0:World):Exit->Act->World->Prop
 | .normal,a,w=>∃O S,Q .normal O S/\RT O S N a w/\dI D S.dom w0 w
 | .ret,a,w=>∃O S,Q .ret O S/\RT O S N a w/\dI D S.dom w0 w
 | .exit i,a,w=>∃O S,Q (.exit i) O S/\RT O S N a w/\dI D S.dom w0 w
 | _,_,_=>False
theorem mY{N:Nat}:∀(c:Code) (Q:AX->Tm->St->Prop) (O:Tm) (S:St) (D:Nat->Prop) (j:World) (a:Act) (w:World),aw c Q O S->jt N c=true->RT O S N a w->dI D S.dom j w->c.wp ai (Post Q D N j) a w
 | .skip,Q,O,S,D,j,a,w,h,_,f,g=>wp_skip ⟨O,S,h,f,g⟩
 | .region id ops false,Q,O,S,D,j,a,w,h,k,f,g=>by
  refine wp_region_list (wN ops.toList h f k (fun O' S' a' w' m o p=>⟨O',S',m,o,g.trans p⟩))
 | .region id ops true,Q,O,S,D,j,a,w,h,k,f,g =>
  h.elim (fun h=>LI h f k (fun O' S' a' w' m o p=>⟨O',S',m,o,g.trans p⟩)) (fun h=>LK h f k (fun O' S' a' w' m o p=>⟨O',S',m,o,g.trans p⟩))
 | .seq x y,Q,O,S,D,j,a,w,h,k,f,g=>by
  simp only[jt,ay]at k;simp only[aw]at h;refine wp_seq (yv ?_ (mY x _ O S D j a w h k.1 f g));intro e a' w' d
  cases e with
  | normal=>obtain⟨O',S',m,o,p⟩:=d;exact mY y Q O' S' D j a' w' m k.2 o p
  | ret=>exact d
  | exit i=>exact d
  | goto l=>exact d.elim
  | panic ch=>exact d.elim
  | outgrown=>exact d.elim
 | .cond c x y,Q,O,S,D,j,a,w,h,k,f,g=>by
  simp only[jt,ay]at k;simp only[aw]at h;have q:=f.ev c
  cases r:ev O c<;>rw[r]at h q<;>try exact h.elim
  rename_i b;simp only[bM]at q
  cases b
  .exact wp_cond_false q (mY y Q O S D j a w (h.2 rfl) k.2 f g)
  .exact wp_cond_true q (mY x Q O S D j a w (h.1 rfl) k.1 f g)
 | .block id c,Q,O,S,D,j,a,w,h,k,f,g=>by
  simp only[jt]at k;simp only[aw]at h;refine wp_block (yv ?_ (mY c _ O S D j a w h k f g));intro e a' w' d
  cases e with
  | normal=>exact d
  | ret=>exact d
  | exit i =>
   obtain⟨O',S',m,o,p⟩:=d;simp only[AX.blk]at m;simp only[Exit.inBlock];split at m
   .rename_i e;subst e;simp;exact⟨O',S',m,o,p⟩
   .rename_i e;simp[e];exact⟨O',S',m,o,p⟩
  | goto l=>exact d.elim
  | panic ch=>exact d.elim
  | outgrown=>exact d.elim
 | .loop c,Q,O,S,D,j,a,w,h,k,f,g=>by
  simp only[jt]at k;simp only[aw]at h;obtain⟨I,μ,s,hround⟩:=h;have key:∀n O S a w,μ O S<n->I O S->RT O S N a w->dI D S.dom j w->Code.rounds ai c (Post Q D N j) n a w:=by
   intro n
   induction n with
   | zero=>intro O S a w m;omega
   | succ n ih =>
    intro O S a w m o p t;refine yv ?_ (mY c _ O S D j a w (hround O S o) k p t);intro e a' w' d
    cases e with
    | normal =>
     obtain⟨O',S',⟨u,A⟩,v,z⟩:=d;exact ih O' S' a' w' om u v z
    | ret=>exact d
    | exit i=>exact d
    | goto l=>exact d.elim
    | panic ch=>exact d.elim
    | outgrown=>exact d.elim
  exact wp_loop_rounds (μ O S+1) (key _ O S a w om s f g)
 | .exit id,Q,O,S,D,j,a,w,h,_,f,g=>wp_exit ⟨O,S,h,f,g⟩
 | .ret,Q,O,S,D,j,a,w,h,_,f,g=>wp_ret ⟨O,S,h,f,g⟩
 | .rangeFunc ..,_,_,_,_,_,_,_,h,_,_,_=>h.elim
 | .scope c,Q,O,S,D,j,a,w,h,k,f,g=>by
  simp only[jt]at k;simp only[aw]at h;refine wp_scope_straight (yv ?_ (mY c Q O S D j a w h k f g));intro e a' w' d
  cases e with
  | normal=>exact d
  | ret=>exact d
  | exit i=>exact d
  | goto l=>exact d.elim
  | panic ch=>exact d.elim
  | outgrown=>exact d.elim
 | .label _,Q,O,S,D,j,a,w,h,_,f,g=>wp_label ⟨O,S,h,f,g⟩
 | .goto _,_,_,_,_,_,_,_,h,_,_,_=>h.elim
 | .refuse _,_,_,_,_,_,_,_,h,_,_,_=>h.elim
def yo:List ResultVar->Tm->St->(List AV->Prop)->Prop
 | [],_,_,K=>K []
 | .tmp t::r,O,S,K=>yo r O S (fun l=>K (O t::l))
 | .cell p ty::r,O,S,K=>pU ty (O p) S (fun z=>yo r O S (fun l=>K (z::l)))
def rk:List AV->AV
 | [x]=>x
 | l=>.tup l
theorem Do{N:Nat}{O:Tm}{S:St}{a:Act}{w:World}(e:RT O S N a w):∀(rs:List ResultVar) (K:List AV->Prop),yo rs O S K ->
  ∃l vs,K l/\a6 w S.dom l vs/\vs.length=rs.length/\(rs.mapM (m:=Sem) fun
   | .tmp t=>pure (a.tmps.getD t undef)
   | .cell p t=>do loadVar t (<-asAddr (a.tmps.getD p undef))).run ai w=.ok vs w
 | [],K,h=>⟨[],[],h,by simp[a6],rfl,sm⟩
 | .tmp t::r,K,h=>by
  obtain⟨l,vs,g,i,j,k⟩:=Do e r _ h;exact⟨O t::l,a.tmps.getD t undef::vs,g,by simp only[a6];exact⟨e.tm t,i⟩,by simp[j],by simp only[VL,ko,IM,ix,k]⟩
 | .cell p ty::r,K,h=>by
  obtain⟨z,v,o,q,d⟩:=rQ h e.st (e.tm p);obtain⟨l,vs,g,i,j,k⟩:=Do e r _ o;have f:∃ad,a.tmps.getD p undef=.pointer (some ad):=by
   have c:=e.tm p;simp only[yo]at h
   cases n:O p<;>rw[n]at h c<;>simp only[pU]at h
   .simp only[bM]at c;exact⟨_,c⟩
   .simp only[bM]at c;obtain⟨b,off,u,c,_⟩:=c;exact⟨_,c⟩
   .simp only[bM]at c;exact⟨_,c⟩
  obtain⟨ad,f⟩:=f;rw[f]at d;have s:(loadVar ty ad).run ai w=.ok v w:=by simpa [Instr.loadAt,Instr.sureAddr]using d
  have haddr:(asAddr (.pointer (some ad))).run ai w=.ok ad w:=by simp[asAddr]
  exact⟨z::l,v::vs,g,by simp only[a6];exact⟨q,i⟩,by simp[j],by simp only[VL,ko,IM,ix,f,haddr,s,k]⟩
def KI(args:List AV):Tm:=fun t=>args.getD t .any
def Ps:∀(args:List AV) (vs:List Value) (k:Nat),a6 w M args vs->∀t,bM w M (KI args t) ((vs.toArray++ln k undef).getD t undef):=by
 intro args vs k h t;have f:∀(j:Nat),(ln k undef).getD j undef=undef:=fun j=>by
  rw[cQ,Pc];split<;>rfl
 rcases aF t args.length with a|a
 .have b:args[t]? = some (args[t]):=bE a;obtain⟨v,c,d⟩:=vu args vs h t _ b;have e:t<vs.length:=(eJ.1 c).1;have:(vs.toArray++ln k undef).getD t undef=v:=by
   rw[cQ,fo (by simpa using e)]
   simp[c]
  rw[this];simp only[KI,cS,b,gA];exact d
 .have:KI args t=.any:=by simp[KI,cS,cK a]
  rw[this];simp[bM]
theorem AZ{w:World}{M:Nat->Prop}:∀(l:List AV) (vs:List Value),a6 w M l vs->vs.length=l.length
 | [],[],_=>rfl
 | _::l,_::vs,h=>by simp only[a6]at h;simp[AZ l vs h.2]
 | [],_::_,h=>by simp[a6]at h
 | _::_,[],h=>by simp[a6]at h
def Ee(rs:List ResultVar)(post:AV->St->Prop):AX->Tm->St->Prop
 | .normal,O,S=>yo rs O S (fun l=>post (rk l) S)
 | .ret,O,S=>yo rs O S (fun l=>post (rk l) S)
 | .exit _,_,_=>False
def o8{fn:Func}(s:ai.funcs[f]? = some fn)(z:fn.body=some c){args:List AV}{S:St}{post:AV->St->Prop}(N:Nat)(E:fn.ntmps=N)(k:jt N c=true)(o:args.length<=N)
  (h:aw c (Ee fn.results.toList post) (KI args) S):cZ f args S post:=by
 intro w vs A p;refine calls_of_wp s z ?_;have B:=AZ _ _ p;have m:RT (KI args) S N { tmps:=vs.toArray++ln (fn.ntmps-vs.toArray.size) undef,defers:=[] } w:=by
  refine⟨rfl,?_,fun t=>Ps args vs _ p t,A⟩;simp;omega
 refine yv ?_ (mY c _ _ S S.dom w _ w h k m (dI.refl _ _));have fin:∀a w',(∃O S',yo fn.results.toList O S' (fun l=>post (rk l) S')/\RT O S' N a w'/\dI S.dom S'.dom w w')->a.defers=[]/\∃v,(results fn a.tmps).run ai w'=.ok v w'/\∃v' r S',Ending.returned v=.returned v'/\post r S'/\bM w' S'.dom r v'/\fI w' S'/\dI S.dom S'.dom w w':=by
  rintro a w' ⟨O,S',n,j,q⟩;obtain⟨l,us,C,b,F,D⟩:=Do j _ _ n;have g:=AZ _ _ b;refine⟨j.defers,if h:us.toArray.size=1 then us.toArray[0]else .tuple us.toArray,?_,_,_,S',rfl,C,?_,j.st,q⟩
  .simp only[results];rw[Array.mapM_eq_mapM_toList];simp only[ko,Sem.run_map,IM];exact(jA (fun r:Result (List Value)=>((r.andThen fun a w'=>Result.ok a.toArray w').andThen fun a w'=>Result.ok (if h:a.size=1 then a[0]else Value.tuple a) w')) D).trans rfl
  .match l,us,b,g with
   | [x],[u],b,_=>simp only[a6]at b;simpa [rk]using b.1
   | [],[],b,g =>
    simp only[rk,bM];exact⟨[],sm,by simp[a6]⟩
   | x::y::l,u::u'::us,b,_ =>
    simp only[rk,bM];exact⟨u::u'::us,sm,b⟩
 intro e a w' d
 cases e with
 | normal=>exact fin a w' d
 | ret=>exact fin a w' d
 | exit i=>obtain⟨O,S',n,j,q⟩:=d;exact n.elim
 | goto l=>exact d.elim
 | panic ch=>exact d.elim
 | outgrown=>exact d.elim
def Dl{fn:Func}(d:ai.funcs[f]? = some fn)(e:fn.body=some c){args:List AV}{S:St}{post:AV->St->Prop}(N:Nat)(g:fn.ntmps=N)(b:jt N c=true)(a:args.length<=N)(_hne:fn.results.size≠0)
  (h:aw c (Ee fn.results.toList post) (KI args) S):cZ f args S post:=o8 d e N g b a h

def dI.below{w':World}(h:Below w.heap.size w w'):dI BK BK w w' :=
 ⟨h.os,h.tape,h.output,h.size,fun k b _=>h.block k b,fun k cs ty fr a=>⟨cs,by rw[h.block k (gJ a)];exact a,rfl⟩,fun _ _ h=>h⟩
def CO(f:Nat)(args:List AV)(z:AV):Prop:=∀S,vB f args S z
def SZ{zb z:Int}(h:∀va vb B w,B<=w.heap.size->eV w B va za->eV w B vb zb->Calls ai f #[va,vb] w (dU w z)):CO f [.big za,.big zb] (.big z):=by
 intro S w vs _ a
 match vs,a with
 | [va,vb],a =>
  simp only[a6,bM]at a;refine(h va vb w.heap.size w (ae _) a.1 a.2.1).mono ?_;rintro e w' ⟨v,rfl,b,c⟩;exact⟨v,rfl,by simpa [bM]using b,dI.below c⟩
 | [],a=>simp[a6]at a
 | [_],a=>simp[a6]at a
 | _::_::_::_,a=>simp[a6]at a
def S8{z:Int}(h:∀va B w,B<=w.heap.size->eV w B va za->Calls ai f #[va] w (dU w z)):CO f [.big za] (.big z):=by
 intro S w vs _ a
 match vs,a with
 | [va],a =>
  simp only[a6,bM]at a;refine(h va w.heap.size w (ae _) a.1).mono ?_;rintro e w' ⟨v,rfl,b,c⟩;exact⟨v,rfl,by simpa [bM]using b,dI.below c⟩
 | [],a=>simp[a6]at a
 | _::_::_,a=>simp[a6]at a
def vB.spec(h:vB f args S z){post:AV->St->Prop}(c:post z S):cZ f args S post:=by
 intro w vs a d;refine(h w vs a d).mono ?_;rintro e w' ⟨v,rfl,g,b⟩;exact⟨v,z,S,rfl,c,g,a.frozen b,b.any _⟩
def kq(x:α):∃y:α,y=x:=⟨x,rfl⟩
noncomputable def Aw:Code->(AX->Tm->St->Prop)->Tm->St->Prop:=dM (kq aw)
def pZ:Aw=aw:=dC (kq aw)
noncomputable def EE:Array Oper->List Oper->Tm->St->(Tm->St->Prop)->Prop:=dM (kq Gb)
def xq:EE=Gb:=dC (kq Gb)
noncomputable def GF:Array Oper->Tm->St->(Tm->St->Prop)->Prop:=dM (kq Q7)
def tM:GF=Q7:=dC (kq Q7)
noncomputable def GE:List Oper->Tm->St->List (Nat×ft)->(Tm->List (Nat×ft)->Prop)->Prop:=dM (kq GJ)
def qN:GE=GJ:=dC (kq GJ)
noncomputable def SI:List Oper->List (List Nat)->List Oper->Tm->St->(Tm->St->Prop)->Prop:=dM (kq Q0)
def ED:SI=Q0:=dC (kq Q0)
noncomputable def OZ:Oper->Tm->St->(AV->St->Prop)->Prop:=dM (kq AP)
def xr:OZ=AP:=dC (kq AP)
noncomputable def vQ:List (Nat×ft)->Tm->St->(Tm->St->Prop)->Prop:=dM (kq oV)
def vP:vQ=oV:=dC (kq oV)
structure OT{α:Type}(x:α):Type where
structure Dep2{α β:Type}(x:α)(y:β):Type where
def aG(S:St)(K:Nat->Prop)(_u:OT K:=⟨⟩):Prop:=∀b,S b=ab->K b
def Sr(f:Nat)(args:List AV)(S:St)(K:AV->St->Prop)(_u:OT K:=⟨⟩):Prop:=cZ f args S K
def AU(t t':TypeId)(s x:AV)(S:St)(K:AV->St->Prop)(_u:OT K:=⟨⟩):Prop:=gP t t' s x S K
def LR(t:TypeId)(s x:AV)(S:St)(K:AV->St->Prop)(_u:OT K:=⟨⟩):Prop:=oE t s x S K
def AR(t:TypeId)(s x:AV)(S:St)(K:AV->St->Prop)(_u:OT K:=⟨⟩):Prop:=sX t s x S K
noncomputable def AwDK(ops:Array Oper)(O:Tm)(S:St)(K:Tm->St->Prop)(_u:Dep2 ops K:=⟨⟩):Prop:=GF ops O S K
noncomputable def AwLK(c:Code)(Q:AX->Tm->St->Prop)(O:Tm)(S:St)(_u:Dep2 c Q:=⟨⟩):Prop:=Aw (.loop c) Q O S
def aG.intro{K:Nat->Prop}(h:∀b,S b=ab->K b):aG S K:=h
def gd(y:AV)(want:Bool)(A B:Prop):Prop:=match y with
 | .bool b=>if b=want then A else B
 | _=>False
def cd(y:AV)(A B:Prop):Prop:=match y with
 | .bool b=>if b=true then A else B
 | _=>False
def AO(c x y:AV)(K:AV->Prop):Prop:=match c with
 | .bool t=>K (if t then x else y)
 | _=>False
def Rb(x:AV)(K:AV->Prop):Prop:=match x with
 | .ptr es b i=>K (.ptr es b i)
 | .pat es y=>K (.pat es y)
 | _=>False
def Ke(x:AV)(i:Nat)(K:AV->Prop):Prop:=match x with
 | .tup l=>(match l[i]? with
  | some z=>K z
  | ab=>False)
 | _=>False
def Ef(f:AV)(args:List AV)(S:St)(K:AV->St->Prop):Prop:=match f with
 | .fn f l=>((11<=f/\f<270)/\f≠252/\f≠253)/\Sr f (args++l) S K
 | .mfn f l=>((11<=f/\f<270)/\f≠252/\f≠253)/\Sr f (l++args) S K
 | _=>False
def NR(f:AV)(args:List AV)(S:St)(z:AV):Prop:=match f with
 | .fn f l=>((11<=f/\f<270)/\f≠252/\f≠253)/\vB f (args++l) S z
 | _=>False
@[congr] theorem gd_congr{y y':AV}{b:Bool}{A B:Prop}(h:y=y'):gd y b A B=gd y' b A B:=by rw[h]
@[congr] theorem cd_congr{y y':AV}{A B:Prop}(h:y=y'):cd y A B=cd y' A B:=by rw[h]
@[congr] theorem Se{c c' x x' y y':AV}{K:AV->Prop}(h:c=c')(h2:x=x')(h3:y=y'):AO c x y K=AO c' x' y' K:=by rw[h,h2,h3]
@[congr] theorem T6{x x':AV}{K:AV->Prop}(h:x=x'):Rb x K=Rb x' K:=by rw[h]
@[congr] theorem Sh{x x':AV}{i:Nat}{K:AV->Prop}(h:x=x'):Ke x i K=Ke x' i K:=by rw[h]
@[congr] theorem Ri{f f':AV}{l l':List AV}{S:St}{K:AV->St->Prop}(h:f=f')(h2:l=l'):Ef f l S K=Ef f' l' S K:=by rw[h,h2]
@[go_sem] theorem gd_tt{A B:Prop}:gd (.bool true) true A B=A:=by simp[gd]
@[go_sem] theorem gd_ff{A B:Prop}:gd (.bool false) false A B=A:=by simp[gd]
@[go_sem] theorem gd_tf{A B:Prop}:gd (.bool true) false A B=B:=by simp[gd]
@[go_sem] theorem gd_ft{A B:Prop}:gd (.bool false) true A B=B:=by simp[gd]
@[go_sem] theorem cd_t{A B:Prop}:cd (.bool true) A B=A:=by simp[cd]
@[go_sem] theorem cd_f{A B:Prop}:cd (.bool false) A B=B:=by simp[cd]
@[go_sem] theorem aPick_t{x y:AV}{K:AV->Prop}:AO (.bool true) x y K=K x:=by simp[AO]
@[go_sem] theorem aPick_f{x y:AV}{K:AV->Prop}:AO (.bool false) x y K=K y:=by simp[AO]
attribute [go_sem] Rb Ke Ef NR tI
section
variable {O O':Tm} {S:St} {K1:AV->Prop} {K2:AV->St->Prop} {K3:Tm->St->Prop} {KS:St->Prop} {x x' y y':AV} {t t2 f:Nat}
@[congr] theorem UK{c:Code}{Q:AX->Tm->St->Prop}(h:O=O'):Aw c Q O S=Aw c Q O' S:=by rw[h]
@[congr] theorem TT{ops:Array Oper}{l:List Oper}(h:O=O'):EE ops l O S K3=EE ops l O' S K3:=by rw[h]
@[congr] theorem TV{ops:Array Oper}(h:O=O'):GF ops O S K3=GF ops O' S K3:=by rw[h]
@[congr] theorem TU{l:List Oper}{pend pend':List (Nat×ft)}{H:Tm->List (Nat×ft)->Prop}(h:O=O')(hp:pend=pend'):GE l O S pend H=GE l O' S pend' H:=by rw[h,hp]
@[congr] theorem TS{ops l:List Oper}{js:List (List Nat)}(h:O=O'):SI ops js l O S K3=SI ops js l O' S K3:=by rw[h]
@[congr] theorem Q9{pend pend':List (Nat×ft)}(h:O=O')(hp:pend=pend'):vQ pend O S K3=vQ pend' O' S K3:=by rw[h,hp]
@[congr] theorem T5{o:Oper}(h:O=O'):OZ o O S K2=OZ o O' S K2:=by rw[h]
@[congr] theorem Rh{c:Call}(h:O=O'):ve O c S K2=ve O' c S K2:=by rw[h]
@[congr] theorem O7:ns t S K2=ns t S K2:=rfl
@[congr] theorem Si(h:x=x'):kH t x S K2=kH t x' S K2:=by rw[h]
@[congr] theorem Rc(h:x=x')(h2:y=y'):lJ t x y S K2=lJ t x' y' S K2:=by rw[h,h2]
@[congr] theorem Rd(h:x=x'):pU t x S K1=pU t x' S K1:=by rw[h]
@[congr] theorem O2(h:x=x')(h2:y=y'):qE t x y S KS=qE t x' y' S KS:=by rw[h,h2]
@[congr] theorem O4(h:x=x')(h2:y=y'):qF t x y K1=qF t x' y' K1:=by rw[h,h2]
@[congr] theorem O5(h:x=x'):qG t x f K1=qG t x' f K1:=by rw[h]
@[congr] theorem Sf(h:x=x'):Eb t x K1=Eb t x' K1:=by rw[h]
@[congr] theorem Sj{op:BinOp}(h:x=x')(h2:y=y'):Gk op t x y K1=Gk op t x' y' K1:=by rw[h,h2]
@[congr] theorem T1{op:UnOp}(h:x=x'):Sc op x K1=Sc op x' K1:=by rw[h]
@[congr] theorem Rg(h:x=x'):u9 t t2 x K1=u9 t t2 x' K1:=by rw[h]
@[congr] theorem O6{ps ps':List (Nat×AV)}(h:ps=ps'):rR t ps K1=rR t ps' K1:=by rw[h]
@[congr] theorem IG{n:Nat}{ps ps':List (Nat×AV)}(h:ps=ps'):dR t n ps S K2=dR t n ps' S K2:=by rw[h]
@[congr] theorem O3{lo lo' hi hi' mx mx':Option AV}(h:x=x')(h1:lo=lo')(h2:hi=hi')(h3:mx=mx'):kG t x lo hi mx K1=kG t x' lo' hi' mx' K1:=by rw[h,h1,h2,h3]
@[congr] theorem OC(h:x=x')(h2:y=y'):gP t t2 x y S K2=gP t t2 x' y' S K2:=by rw[h,h2]
@[congr] theorem Re(h:x=x')(h2:y=y'):sX t x y S K2=sX t x' y' S K2:=by rw[h,h2]
@[congr] theorem Sd{rs:List ResultVar}{K:List AV->Prop}(h:O=O'):yo rs O S K=yo rs O' S K:=by rw[h]
@[congr] theorem Sg{rs:List ResultVar}{e:AX}(h:O=O'):Ee rs K2 e O S=Ee rs K2 e O' S:=by rw[h]
@[congr] theorem Ru{args args':List AV}{z:AV}(h:args=args'):vB f args S z=vB f args' S z:=by rw[h]
end
section
variable {Q:AX->Tm->St->Prop} {O:Tm} {S:St} {x y c:Code} {id i:Nat} {ops:Array Oper} {K:Tm->St->Prop} {H:AV->St->Prop} {l:List Oper} {o:Oper}
@[go_sem ↓] theorem aw_skip:Aw .skip Q O S=Q .normal O S:=by rw[pZ,aw]
@[go_sem ↓] theorem TQ:Aw (.region id ops false) Q O S=EE ops ops.toList O S (Q .normal):=by rw[pZ,xq,aw]
@[go_sem ↓] theorem aw_draw:Aw (.region id ops true) Q O S=AwDK ops O S (Q .normal):=by unfold AwDK;rw[pZ,tM,aw]
@[go_sem ↓] theorem aw_lp:Aw (.loop c) Q O S=AwLK c Q O S:=rfl
@[go_sem ↓] theorem Oq:Aw (.seq x y) Q O S=Aw x (AX.seq (Aw y Q) Q) O S:=by rw[pZ,aw]
@[go_sem ↓] theorem aw_block:Aw (.block id c) Q O S=Aw c (AX.blk id Q) O S:=by rw[pZ,aw]
@[go_sem ↓] theorem aw_exit:Aw (.exit id) Q O S=Q (.exit id) O S:=by rw[pZ,aw]
@[go_sem ↓] theorem aw_scope:Aw (.scope x) Q O S=Aw x Q O S:=by rw[pZ,aw]
@[go_sem ↓] theorem aw_label{l:Nat}:Aw (.label l) Q O S=Q .normal O S:=by rw[pZ,aw]
@[go_sem ↓] theorem aw_ret:Aw .ret Q O S=Q .ret O S:=by rw[pZ,aw]
@[go_sem ↓] theorem zO:AX.seq K Q .normal=K:=rfl
@[go_sem ↓] theorem seq_ret:AX.seq K Q .ret=Q .ret:=rfl
@[go_sem ↓] theorem seq_exit:AX.seq K Q (.exit i)=Q (.exit i):=rfl
@[go_sem ↓] theorem TN:AX.blk id Q .normal=Q .normal:=rfl
@[go_sem ↓] theorem blk_ret:AX.blk id Q .ret=Q .ret:=rfl
@[go_sem ↓] theorem Ol:AX.blk id Q (.exit i)=if i=id then Q .normal else Q (.exit i):=rfl
@[go_sem ↓] theorem awL_nil:EE ops [] O S K=K O S:=by rw[xq,Gb]
def aI(I:Tm->St->Prop)(μ:Tm->St->Nat)(a:I O S)(b:∀O S,I O S->Aw c (AX.seq (fun O' S'=>I O' S'/\μ O' S' < μ O S) Q) O S):Aw (.loop c) Q O S:=by
 rw[pZ]at *;exact⟨I,μ,a,b⟩
end
def Qh{b c:Bool}:((b=c->p)/\(b=!c->q))=if b=c then p else q:=by
 cases b<;>cases c<;>simp
def NJ{b:Bool}:((b=true->p)/\(b=false->q))=if b=true then p else q:=by
 cases b<;>simp
@[go_sem ↓] theorem IA{e:Operand}{x y:Code}{Q:AX->Tm->St->Prop}{O:Tm}{S:St}:Aw (.cond e x y) Q O S=cd (ev O e) (Aw x Q O S) (Aw y Q O S):=by
 rw[pZ,aw];unfold cd
 cases ev O e<;>first|rfl|exact NJ
@[go_sem ↓] theorem awL_go{ops:Array Oper}{l:List Oper}{O:Tm}{S:St}{K:Tm->St->Prop}{o:Oper}:EE ops (o::l) O S K=(match o.guard with
  | ab=>OZ o O S (fun z S'=>EE ops l (O.put o.dst z) S' K)
  | some (j,want)=>gd (EG ops O j) want (OZ o O S (fun z S'=>EE ops l (O.put o.dst z) S' K)) (EE ops l (O.put o.dst .any) S K)):=by
 rw[xq,xr,Gb]
 cases o.guard with
 | none=>rfl
 | some p =>
  obtain⟨j,want⟩:=p;simp only[gd]
  cases EG ops O j<;>first|rfl|exact Qh
@[go_sem ↓] theorem aCall_go{O:Tm}{c:Call}{S:St}{K:AV->St->Prop}:ve O c S K=(match c.callee with
 | .value f=>Ef (ev O f) (c.args.toList.map (ev O)) S K
 | .builtin .len=>(match c.args.toList,c.argTypes.toList with
  | [x],[t]=>Eb t (ev O x) (fun z=>K z S)
  | _,_=>False)
 | .builtin .max=>(match c.args.toList with
  | [x,y]=>OB (ev O x) (ev O y) (fun z=>K z S)
  | _=>False)
 | .builtin .append=>(match c.args.toList,c.argTypes.toList with
  | [s,x],[t,t']=>if t'=3 then LR t (ev O s) (ev O x) S K else AU t t' (ev O s) (ev O x) S K
  | _,_=>False)
 | .builtin .copy=>(match c.args.toList,c.argTypes.toList with
  | [s,x],[t,_]=>AR t (ev O s) (ev O x) S K
  | _,_=>False)
 | _=>False):=rfl
@[go_sem ↓] theorem AOp_go{o:Oper}{O:Tm}{S:St}{K:AV->St->Prop}:OZ o O S K=(match o.op with
  | .move x=>K (ev O x) S
  | .assign x=>K (ev O x) S
  | .pick c x y=>AO (ev O c) (ev O x) (ev O y) (fun z=>K z S)
  | .alloc t=>ns t S K
  | .box t x=>kH t (ev O x) S K
  | .build t ps=>rR t (ps.toList.map fun p=>(p.1,ev O p.2)) (fun z=>K z S)
  | .buildSlice t n ps=>dR t n (ps.toList.map fun p=>(p.1,ev O p.2)) S K
  | .load t x=>pU t (ev O x) S (fun z=>K z S)
  | .store t x y=>qE t (ev O x) (ev O y) S (fun S'=>K .any S')
  | .nilCheck x=>Rb (ev O x) (fun z=>K z S)
  | .binOp op t x y _=>Gk op t (ev O x) (ev O y) (fun z=>K z S)
  | .unOp op _ x=>Sc op (ev O x) (fun z=>K z S)
  | .convert s d x=>u9 s d (ev O x) (fun z=>K z S)
  | .makeFunc (.func f) fi cs=>tI f (fi.toList.map (ev O)) (cs.toList.map (ev O)) (fun z=>K z S)
  | .makeSlice t x y=>lJ t (ev O x) (ev O y) S K
  | .slice t x lo hi mx=>kG t (ev O x) (lo.map (ev O)) (hi.map (ev O)) (mx.map (ev O)) (fun z=>K z S)
  | .fieldAddr t x f=>qG t (ev O x) f (fun z=>K z S)
  | .indexAddr t x i=>qF t (ev O x) (ev O i) (fun z=>K z S)
  | .index t x i=>Ec t (ev O x) (ev O i) (fun z=>K z S)
  | .extract x i=>Ke (ev O x) i (fun z=>K z S)
  | .call c=>ve O c S K
  | _=>False):=by rw[xr,AP]<;>rfl
def iC{fn:Func}(d:ai.funcs[f]? = some fn)(e:fn.body=some c){args:List AV}{S:St}{post:AV->St->Prop}(N:Nat)(g:fn.ntmps=N)(b:jt N c=true)(a:args.length<=N)
  (h:Aw c (Ee fn.results.toList post) (KI args) S):cZ f args S post:=o8 d e N g b a (by rw[pZ]at h;exact h)
def KM{fn:Func}(e:ai.funcs[f]? = some fn)(g:fn.body=some c){args:List AV}{S:St}{post:AV->St->Prop}(N:Nat)(i:fn.ntmps=N)(b:jt N c=true)(a:args.length<=N)(d:fn.results.size≠0)
  (h:Aw c (Ee fn.results.toList post) (KI args) S):cZ f args S post:=Dl e g N i b a d (by rw[pZ]at h;exact h)
@[go_sem] theorem PP{O:Tm}{d:Nat}{x:AV}:O.put (some d) x d=x:=by simp[Tm.put_eq]
@[go_sem] theorem M9{O:Tm}{d t:Nat}{x:AV}(h:t≠d):O.put (some d) x t=O t:=by simp[Tm.put_eq,h]
@[go_sem] theorem M8{O:Tm}{x:AV}:O.put ab x=O:=by rw[Tm.put_eq]
noncomputable def O0(k:Nat):List AV->Tm
 | []=>fun _=>.any
 | a::l=>(O0 (k+1) l).put (some k) a
theorem MN:∀(l:List AV) (k t:Nat),O0 k l t=if k<=t then l.getD (t-k) .any else .any
 | [],k,t=>by simp[O0]
 | a::l,k,t=>by
  simp only[O0,Tm.put_eq];by_cases e:t=k
  .subst e;simp
  .rw[af e,MN l (k+1) t];by_cases h:k<=t
   .rw[ah om,ah h,(om:t-k=(t-(k+1))+1)];simp
   .rw[af om,af h]
def ml(l:List AV):KI l=O0 0 l:=by funext t;rw[MN];simp[KI]
def jI{fn:Func}(g:ai.funcs[f]? = some fn)(i:fn.ntmps=N)(e:fn.results=R)
  (h:Aw c (Ee R.toList post) (O0 0 args) S) (j:fn.body=some c:=by exact rfl) (b:jt N c=true:=by kernel_rfl) (a:args.length<=N:=by simp) (d:R.size≠0:=by simp):cZ f args S post :=
 KM g j N i b a (by rw[e];exact d) (by rw[e,ml];exact h)
@[go_sem] theorem tmP_nil{k:Nat}:O0 k []=fun _=>.any:=rfl
@[go_sem] theorem tmP_cons{k:Nat}{a:AV}{l:List AV}:O0 k (a::l)=(O0 (k+1) l).put (some k) a:=rfl
@[go_sem ↓] theorem alloc50{S:St}{K:AV->St->Prop}:ns 50 S K=aG S (fun b=>K (.ptr 2 b 0) (S.upd b ⟨50,2,1,fun _=>.big 0⟩)):=rfl
@[go_sem ↓] theorem alloc52{S:St}{K:AV->St->Prop}:ns 52 S K=aG S (fun b=>K (.ptr 1 b 0) (S.upd b ⟨52,1,1,fun _=>.nil⟩)):=rfl
@[go_sem ↓] theorem alloc4{S:St}{K:AV->St->Prop}:ns 4 S K=aG S (fun b=>K (.ptr 1 b 0) (S.upd b ⟨4,1,1,fun _=>.bool false⟩)):=rfl
@[go_sem ↓] theorem alloc167{S:St}{K:AV->St->Prop}:ns 167 S K=aG S (fun b=>K (.ptr 2 b 0) (S.upd b ⟨167,2,2,fun _=>.big 0⟩)):=rfl
@[go_sem] theorem cp{S:St}{b:Nat}{X:ft}:S.upd b X b=some X:=by simp[St.upd]
@[go_sem] theorem aO{S:St}{b c:Nat}{X:ft}(h:c≠b):S.upd b X c=S c:=by simp[St.upd,h]
@[go_sem] theorem slots_2:fD 2=some (1,1):=rfl
@[go_sem] theorem slots_3:fD 3=some (1,1):=rfl
@[go_sem] theorem slots_4:fD 4=some (1,1):=rfl
@[go_sem] theorem slots_5:fD 5=some (1,1):=rfl
@[go_sem] theorem slots_22:fD 22=some (1,1):=rfl
@[go_sem] theorem slots_25:fD 25=some (1,1):=rfl
@[go_sem] theorem slots_28:fD 28=some (1,1):=rfl
@[go_sem] theorem slots_29:fD 29=some (1,1):=rfl
@[go_sem] theorem slots_34:fD 34=some (1,1):=rfl
@[go_sem] theorem slots_48:fD 48=some (1,1):=rfl
@[go_sem] theorem RZ:gL 50 0=ab:=rfl
@[go_sem] theorem RY:gL 50 1=ab:=rfl
@[go_sem] theorem elemT_48:dY 48=ab:=rfl
@[go_sem] theorem slots_41:fD 41=some (1,1):=rfl
@[go_sem] theorem slots_52:fD 52=some (1,1):=rfl
@[go_sem] theorem slots_59:fD 59=some (1,1):=rfl
@[go_sem] theorem slots_97:fD 97=some (1,1):=rfl
@[go_sem] theorem Uy:fD 146=some (1,1):=rfl
@[go_sem] theorem Ux:fD 158=some (1,1):=rfl
@[go_sem] theorem Ut:fD 192=some (1,1):=rfl
@[go_sem] theorem Uq:fD 216=some (1,1):=rfl
@[go_sem] theorem slots_50:fD 50=some (2,1):=rfl
@[go_sem] theorem Uv:fD 167=some (2,2):=rfl
@[go_sem] theorem Us:fD 195=some (2,2):=rfl
@[go_sem] theorem Ur:fD 197=some (2,7):=rfl
@[go_sem] theorem slots_24:fD 24=some (1,4):=rfl
@[go_sem] theorem slots_27:fD 27=some (1,6):=rfl
@[go_sem] theorem Uz:fD 107=some (1,2):=rfl
@[go_sem] theorem Uw:fD 160=some (1,4):=rfl
@[go_sem] theorem Uu:fD 183=some (1,2):=rfl
@[go_sem] theorem Up:fD 218=some (1,2):=rfl
@[go_sem] theorem elemT_22:dY 22=some 41:=rfl
@[go_sem] theorem elemS_41:cg 41=1:=rfl
@[go_sem] theorem elemT_28:dY 28=some 29:=rfl
@[go_sem] theorem elemT_29:dY 29=some 2:=rfl
@[go_sem] theorem elemT_52:dY 52=some 59:=rfl
@[go_sem] theorem elemT_59:dY 59=some 50:=rfl
@[go_sem] theorem UG:dY 146=some 3:=rfl
@[go_sem] theorem UF:dY 192=some 52:=rfl
@[go_sem] theorem UE:dY 216=some 59:=rfl
@[go_sem] theorem elemS_2:cg 2=1:=rfl
@[go_sem] theorem elemS_3:cg 3=1:=rfl
@[go_sem] theorem elemS_29:cg 29=1:=rfl
@[go_sem] theorem elemS_59:cg 59=1:=rfl
@[go_sem] theorem elemS_50:cg 50=2:=rfl
@[go_sem] theorem elemS_52:cg 52=1:=rfl
@[go_sem] theorem make_28{k k':IntKind}{n n':Int}{S:St}{K:AV->St->Prop}:lJ 28 (.int k n) (.int k' n') S K=((AV.int k n=.int k' n')/\(0<=n/\n<=1099511627776)/\aG S (fun b=>K (.sl 1 b 0 n.toNat) (S.upd b ⟨29,1,n.toNat,fun _=>.nil⟩))):=by
 simp only[lJ,dY,gM,cg,kv];rfl
@[go_sem] theorem make_29{k k':IntKind}{n n':Int}{S:St}{K:AV->St->Prop}:lJ 29 (.int k n) (.int k' n') S K=((AV.int k n=.int k' n')/\(0<=n/\n<=1099511627776)/\aG S (fun b=>K (.sl 1 b 0 n.toNat) (S.upd b ⟨2,1,n.toNat,fun _=>.int .i64 0⟩))):=by
 simp only[lJ,dY,gM,cg,kv];rfl
@[go_sem] theorem make_52{k k':IntKind}{n n':Int}{S:St}{K:AV->St->Prop}:lJ 52 (.int k n) (.int k' n') S K=((AV.int k n=.int k' n')/\(0<=n/\n<=1099511627776)/\aG S (fun b=>K (.sl 1 b 0 n.toNat) (S.upd b ⟨59,1,n.toNat,fun _=>.nil⟩))):=by
 simp only[lJ,dY,gM,cg,kv];rfl
@[go_sem] theorem make_59{k k':IntKind}{n n':Int}{S:St}{K:AV->St->Prop}:lJ 59 (.int k n) (.int k' n') S K=((AV.int k n=.int k' n')/\(0<=n/\n<=1099511627776)/\aG S (fun b=>K (.sl 2 b 0 n.toNat) (S.upd b ⟨50,2,n.toNat,fun _=>.big 0⟩))):=by
 simp only[lJ,dY,gM,cg,kv];rfl
@[go_sem] theorem make_146{k k':IntKind}{n n':Int}{S:St}{K:AV->St->Prop}:lJ 146 (.int k n) (.int k' n') S K=((AV.int k n=.int k' n')/\(0<=n/\n<=1099511627776)/\aG S (fun b=>K (.sl 1 b 0 n.toNat) (S.upd b ⟨3,1,n.toNat,fun _=>.int .i64 0⟩))):=by
 simp only[lJ,dY,gM,cg,kv];rfl
@[go_sem] theorem make_216{k k':IntKind}{n n':Int}{S:St}{K:AV->St->Prop}:lJ 216 (.int k n) (.int k' n') S K=((AV.int k n=.int k' n')/\(0<=n/\n<=1099511627776)/\aG S (fun b=>K (.sl 1 b 0 n.toNat) (S.upd b ⟨59,1,n.toNat,fun _=>.nil⟩))):=by
 simp only[lJ,dY,gM,cg,kv];rfl
@[go_sem] theorem R8:gL 24 0=some (1,0):=rfl
@[go_sem] theorem R7:gL 24 1=some (1,1):=rfl
@[go_sem] theorem R6:gL 24 2=some (1,2):=rfl
@[go_sem] theorem R5:gL 24 3=some (1,3):=rfl
@[go_sem] theorem R4:gL 27 0=some (1,0):=rfl
@[go_sem] theorem R3:gL 27 1=some (1,4):=rfl
@[go_sem] theorem R2:gL 27 2=some (1,5):=rfl
@[go_sem] theorem QE:gL 107 0=some (1,0):=rfl
@[go_sem] theorem QD:gL 107 1=some (1,1):=rfl
@[go_sem] theorem QC:gL 160 0=some (1,0):=rfl
@[go_sem] theorem QB:gL 160 1=some (1,1):=rfl
@[go_sem] theorem QA:gL 160 2=some (1,2):=rfl
@[go_sem] theorem Qz:gL 160 3=some (1,3):=rfl
@[go_sem] theorem Qy:gL 167 0=some (2,0):=rfl
@[go_sem] theorem Qx:gL 167 1=some (2,1):=rfl
@[go_sem] theorem Qw:gL 183 0=some (1,0):=rfl
@[go_sem] theorem Qv:gL 183 1=some (1,1):=rfl
@[go_sem] theorem Qu:gL 197 0=some (2,0):=rfl
@[go_sem] theorem Qt:gL 197 1=some (2,1):=rfl
@[go_sem] theorem Qs:gL 197 2=some (2,2):=rfl
@[go_sem] theorem Qr:gL 197 3=some (2,3):=rfl
@[go_sem] theorem Qq:gL 197 4=some (2,5):=rfl
@[go_sem] theorem Qp:gL 218 0=some (1,0):=rfl
@[go_sem] theorem Qo:gL 218 1=some (1,1):=rfl
@[go_sem] theorem kindT_2:uH 2=some .i64:=rfl
@[go_sem] theorem kindT_3:uH 3=some .i64:=rfl
@[go_sem] theorem kindT_5:uH 5=some .u8:=rfl
@[go_sem] theorem kindT_34:uH 34=some .i64:=rfl
@[go_sem] theorem kindT_97:uH 97=some .u64:=rfl
@[go_sem] theorem srcT_2:Br 2=true:=rfl
@[go_sem] theorem srcT_3:Br 3=true:=rfl
@[go_sem] theorem srcT_5:Br 5=true:=rfl
@[go_sem] theorem srcT_25:Br 25=true:=rfl
@[go_sem] theorem srcT_41:Br 41=true:=rfl
@[go_sem] theorem srcT_97:Br 97=true:=rfl
@[go_sem] theorem box_2{x:AV}{S:St}{K:AV->St->Prop}:kH 2 x S K=(eO 1 x/\aG S (fun b=>K (.ptr 1 b 0) (S.upd b ⟨2,1,1,fun _=>x⟩))):=rfl
@[go_sem] theorem box_3{x:AV}{S:St}{K:AV->St->Prop}:kH 3 x S K=(eO 1 x/\aG S (fun b=>K (.ptr 1 b 0) (S.upd b ⟨3,1,1,fun _=>x⟩))):=rfl
@[go_sem] theorem box_4{x:AV}{S:St}{K:AV->St->Prop}:kH 4 x S K=(eO 1 x/\aG S (fun b=>K (.ptr 1 b 0) (S.upd b ⟨4,1,1,fun _=>x⟩))):=rfl
@[go_sem] theorem box_5{x:AV}{S:St}{K:AV->St->Prop}:kH 5 x S K=(eO 1 x/\aG S (fun b=>K (.ptr 1 b 0) (S.upd b ⟨5,1,1,fun _=>x⟩))):=rfl
@[go_sem] theorem box_22{x:AV}{S:St}{K:AV->St->Prop}:kH 22 x S K=(eO 1 x/\aG S (fun b=>K (.ptr 1 b 0) (S.upd b ⟨22,1,1,fun _=>x⟩))):=rfl
@[go_sem] theorem box_25{x:AV}{S:St}{K:AV->St->Prop}:kH 25 x S K=(eO 1 x/\aG S (fun b=>K (.ptr 1 b 0) (S.upd b ⟨25,1,1,fun _=>x⟩))):=rfl
@[go_sem] theorem box_28{x:AV}{S:St}{K:AV->St->Prop}:kH 28 x S K=(eO 1 x/\aG S (fun b=>K (.ptr 1 b 0) (S.upd b ⟨28,1,1,fun _=>x⟩))):=rfl
@[go_sem] theorem box_29{x:AV}{S:St}{K:AV->St->Prop}:kH 29 x S K=(eO 1 x/\aG S (fun b=>K (.ptr 1 b 0) (S.upd b ⟨29,1,1,fun _=>x⟩))):=rfl
@[go_sem] theorem box_34{x:AV}{S:St}{K:AV->St->Prop}:kH 34 x S K=(eO 1 x/\aG S (fun b=>K (.ptr 1 b 0) (S.upd b ⟨34,1,1,fun _=>x⟩))):=rfl
@[go_sem] theorem box_41{x:AV}{S:St}{K:AV->St->Prop}:kH 41 x S K=(eO 1 x/\aG S (fun b=>K (.ptr 1 b 0) (S.upd b ⟨41,1,1,fun _=>x⟩))):=rfl
@[go_sem] theorem box_52{x:AV}{S:St}{K:AV->St->Prop}:kH 52 x S K=(eO 1 x/\aG S (fun b=>K (.ptr 1 b 0) (S.upd b ⟨52,1,1,fun _=>x⟩))):=rfl
@[go_sem] theorem box_59{x:AV}{S:St}{K:AV->St->Prop}:kH 59 x S K=(eO 1 x/\aG S (fun b=>K (.ptr 1 b 0) (S.upd b ⟨59,1,1,fun _=>x⟩))):=rfl
@[go_sem] theorem box_97{x:AV}{S:St}{K:AV->St->Prop}:kH 97 x S K=(eO 1 x/\aG S (fun b=>K (.ptr 1 b 0) (S.upd b ⟨97,1,1,fun _=>x⟩))):=rfl
@[go_sem] theorem box_146{x:AV}{S:St}{K:AV->St->Prop}:kH 146 x S K=(eO 1 x/\aG S (fun b=>K (.ptr 1 b 0) (S.upd b ⟨146,1,1,fun _=>x⟩))):=rfl
@[go_sem] theorem box_158{x:AV}{S:St}{K:AV->St->Prop}:kH 158 x S K=(eO 1 x/\aG S (fun b=>K (.ptr 1 b 0) (S.upd b ⟨158,1,1,fun _=>x⟩))):=rfl
@[go_sem] theorem box_192{x:AV}{S:St}{K:AV->St->Prop}:kH 192 x S K=(eO 1 x/\aG S (fun b=>K (.ptr 1 b 0) (S.upd b ⟨192,1,1,fun _=>x⟩))):=rfl
@[go_sem] theorem box_216{x:AV}{S:St}{K:AV->St->Prop}:kH 216 x S K=(eO 1 x/\aG S (fun b=>K (.ptr 1 b 0) (S.upd b ⟨216,1,1,fun _=>x⟩))):=rfl
@[go_sem] theorem box_50{x:AV}{S:St}{K:AV->St->Prop}:kH 50 x S K=(eO 2 x/\aG S (fun b=>K (.ptr 2 b 0) (S.upd b ⟨50,2,1,fun _=>x⟩))):=rfl
@[go_sem] theorem box_167{l:List AV}{S:St}{K:AV->St->Prop}:kH 167 (.agg l) S K=(l.length=2/\(∀z∈l,eO 2 z)/\aG S (fun b=>K (.ptr 2 b 0) (S.upd b ⟨167,2,2,fun j=>l.getD j .any⟩))):=rfl
@[go_sem] theorem box_195{l:List AV}{S:St}{K:AV->St->Prop}:kH 195 (.agg l) S K=(l.length=2/\(∀z∈l,eO 2 z)/\aG S (fun b=>K (.ptr 2 b 0) (S.upd b ⟨195,2,2,fun j=>l.getD j .any⟩))):=rfl
@[go_sem] theorem box_197{l:List AV}{S:St}{K:AV->St->Prop}:kH 197 (.agg l) S K=(l.length=7/\(∀z∈l,eO 2 z)/\aG S (fun b=>K (.ptr 2 b 0) (S.upd b ⟨197,2,7,fun j=>l.getD j .any⟩))):=rfl
@[go_sem] theorem box_24{l:List AV}{S:St}{K:AV->St->Prop}:kH 24 (.agg l) S K=(l.length=4/\(∀z∈l,eO 1 z)/\aG S (fun b=>K (.ptr 1 b 0) (S.upd b ⟨24,1,4,fun j=>l.getD j .any⟩))):=rfl
@[go_sem] theorem box_27{l:List AV}{S:St}{K:AV->St->Prop}:kH 27 (.agg l) S K=(l.length=6/\(∀z∈l,eO 1 z)/\aG S (fun b=>K (.ptr 1 b 0) (S.upd b ⟨27,1,6,fun j=>l.getD j .any⟩))):=rfl
@[go_sem] theorem box_107{l:List AV}{S:St}{K:AV->St->Prop}:kH 107 (.agg l) S K=(l.length=2/\(∀z∈l,eO 1 z)/\aG S (fun b=>K (.ptr 1 b 0) (S.upd b ⟨107,1,2,fun j=>l.getD j .any⟩))):=rfl
@[go_sem] theorem box_160{l:List AV}{S:St}{K:AV->St->Prop}:kH 160 (.agg l) S K=(l.length=4/\(∀z∈l,eO 1 z)/\aG S (fun b=>K (.ptr 1 b 0) (S.upd b ⟨160,1,4,fun j=>l.getD j .any⟩))):=rfl
@[go_sem] theorem box_183{l:List AV}{S:St}{K:AV->St->Prop}:kH 183 (.agg l) S K=(l.length=2/\(∀z∈l,eO 1 z)/\aG S (fun b=>K (.ptr 1 b 0) (S.upd b ⟨183,1,2,fun j=>l.getD j .any⟩))):=rfl
@[go_sem] theorem box_218{l:List AV}{S:St}{K:AV->St->Prop}:kH 218 (.agg l) S K=(l.length=2/\(∀z∈l,eO 1 z)/\aG S (fun b=>K (.ptr 1 b 0) (S.upd b ⟨218,1,2,fun j=>l.getD j .any⟩))):=rfl
@[go_sem] theorem bs_59{x:AV}{S:St}{K:AV->St->Prop}:dR 59 1 [(0,x)] S K=(eO 2 x/\aG S (fun b=>K (.sl 2 b 0 1) (S.upd b ⟨50,2,1,fun j=>[x].getD j .any⟩))):=by
 simp only[dR,dY,cg];simp[fu,gM,aG]
@[go_sem] theorem hbs_59{x z:AV}:fz 59 1 [(0,x)] z=(eO 2 x/\z=.lst 2 1 (fun j=>[x].getD j .any)):=by
 simp only[fz,dY,cg];simp[fu,gM]
@[go_sem] theorem bs_52{x:AV}{S:St}{K:AV->St->Prop}:dR 52 1 [(0,x)] S K=(eO 1 x/\aG S (fun b=>K (.sl 1 b 0 1) (S.upd b ⟨59,1,1,fun j=>[x].getD j .any⟩))):=by
 simp only[dR,dY,cg];simp[fu,gM,aG]
@[go_sem] theorem hbs_52{x z:AV}:fz 52 1 [(0,x)] z=(eO 1 x/\z=.lst 1 1 (fun j=>[x].getD j .any)):=by
 simp only[fz,dY,cg];simp[fu,gM]
@[go_sem] theorem bs_29{x:AV}{S:St}{K:AV->St->Prop}:dR 29 1 [(0,x)] S K=(eO 1 x/\aG S (fun b=>K (.sl 1 b 0 1) (S.upd b ⟨2,1,1,fun j=>[x].getD j .any⟩))):=by
 simp only[dR,dY,cg];simp[fu,gM,aG]
@[go_sem] theorem hbs_29{x z:AV}:fz 29 1 [(0,x)] z=(eO 1 x/\z=.lst 1 1 (fun j=>[x].getD j .any)):=by
 simp only[fz,dY,cg];simp[fu,gM]
@[go_sem] theorem bs_28{x:AV}{S:St}{K:AV->St->Prop}:dR 28 1 [(0,x)] S K=(eO 1 x/\aG S (fun b=>K (.sl 1 b 0 1) (S.upd b ⟨29,1,1,fun j=>[x].getD j .any⟩))):=by
 simp only[dR,dY,cg];simp[fu,gM,aG]
@[go_sem] theorem hbs_28{x z:AV}:fz 28 1 [(0,x)] z=(eO 1 x/\z=.lst 1 1 (fun j=>[x].getD j .any)):=by
 simp only[fz,dY,cg];simp[fu,gM]
@[go_sem] theorem bs_146{x:AV}{S:St}{K:AV->St->Prop}:dR 146 1 [(0,x)] S K=(eO 1 x/\aG S (fun b=>K (.sl 1 b 0 1) (S.upd b ⟨3,1,1,fun j=>[x].getD j .any⟩))):=by
 simp only[dR,dY,cg];simp[fu,gM,aG]
@[go_sem] theorem hbs_146{x z:AV}:fz 146 1 [(0,x)] z=(eO 1 x/\z=.lst 1 1 (fun j=>[x].getD j .any)):=by
 simp only[fz,dY,cg];simp[fu,gM]
@[go_sem] theorem bs_216{x:AV}{S:St}{K:AV->St->Prop}:dR 216 1 [(0,x)] S K=(eO 1 x/\aG S (fun b=>K (.sl 1 b 0 1) (S.upd b ⟨59,1,1,fun j=>[x].getD j .any⟩))):=by
 simp only[dR,dY,cg];simp[fu,gM,aG]
@[go_sem] theorem hbs_216{x z:AV}:fz 216 1 [(0,x)] z=(eO 1 x/\z=.lst 1 1 (fun j=>[x].getD j .any)):=by
 simp only[fz,dY,cg];simp[fu,gM]
attribute [go_sem] ev RS pU qE qF qG Eb Gk Sc u9 rR eO Ee yo rk

attribute [go_sem] Bu i7 kv yQ aK aM eg oa az cU l5 wZ xa l6 forall_const
 cO List.toList_toArray cA fY
attribute [go_sem] eq_self true_implies cG bU Bool.true_eq_false c9 cn dJ exists_eq_left' exists_eq_left exists_and_left and_assoc jz false_or false_and Fq U6 Mj List.drop_succ_cons yW List.isEmpty_nil List.isEmpty_cons bK qZ Bv Bool.and_self Bk List.filterMap_nil
 BT ra VO Bool.and_true cN ae exists_const
section
variable {ops:Array Oper} {l:List Oper} {O:Tm} {S:St} {K:Tm->St->Prop} {o:Oper} {pend:List (Nat×ft)} {H:Tm->List (Nat×ft)->Prop} {z:AV} {d:Nat} {X:ft} {r:List (Nat×ft)}
def bD(q:Nat)(a:xO ops q [] false=true)(h:GE (ops.toList.take q) O S [] (fun O' pend=>if pend.isEmpty then EE ops (ops.toList.drop q) O' S K else vQ pend (As (qu (ops.toList.take q)) O') S (fun O S=>EE ops (ops.toList.drop q) O S K))):GF ops O S K:=by
 rw[tM];rw[qN,xq,vP]at h;refine bW ⟨q,[],false,_,a,h,fun O' p b=>?_⟩;split at b
 .rename_i e;exact bW ⟨e,bW ⟨rfl,b⟩⟩
 .exact bQ ⟨rfl,_,b,fun O S h=>⟨trivial,bW ⟨rfl,h⟩⟩⟩
def ie(q:Nat)(a:xO ops q [] true=true)(h:GE (ops.toList.take q) O S [] (fun O' pend=>pend.isEmpty=true/\EE ops (ops.toList.drop q) O' S K)):GF ops O S K:=by
 rw[tM];rw[qN,xq]at h;exact bW ⟨q,[],true,_,a,h,fun O' p b=>bW ⟨b.1,bW ⟨rfl,b.2⟩⟩⟩
def fQ(q:Nat)(js:List (List Nat))(a:xO ops q js false=true)(h:GE (ops.toList.take q) O S [] (fun O' pend=>pend.isEmpty=true/\SI ops.toList js (ops.toList.drop q) O' S K)):GF ops O S K:=by
 rw[tM];rw[qN,ED]at h;exact bW ⟨q,js,false,_,a,h,fun O' p b=>bW ⟨b.1,bQ b.2⟩⟩
def pS(q:Nat)(js:List (List Nat))(a:xO ops q js false=true)(h:GE (ops.toList.take q) O S [] (fun O' pend=>vQ pend (As (qu (ops.toList.take q)) O') S (fun O S=>nm ops.toList O S (DF js)/\SI ops.toList js (ops.toList.drop q) O S K))):GF ops O S K:=by
 rw[tM];rw[qN,ED,vP]at h;exact bW ⟨q,js,false,_,a,h,fun O' p b=>bQ ⟨rfl,_,b,fun O S h=>⟨h.1,bQ h.2⟩⟩⟩
def Bl(ops:Array Oper)(o:Oper)(O:Tm)(S:St)(K:Tm->St->Prop):Prop:=match o.guard with
 | ab=>OZ o O S (fun z S'=>K (O.put o.dst z) S')
 | some (j,want)=>(match EG ops O j with
  | .bool b=>(b=want->OZ o O S (fun z S'=>K (O.put o.dst z) S'))/\(b=!want->K (O.put o.dst .any) S)
  | _=>False)
def stI(ops:Array Oper)(P:(Nat->Bool)->Tm->St->Prop):List Oper->Nat->Prop
 | [],_=>True
 | o::r,i=>(∀L O S,P L O S->L i=false->(aft o).all L=true->Bl ops o O S (P (fun k=>if k=i then true else L k)))/\stI ops P r (i+1)
theorem Jo{ops:Array Oper}{P:(Nat->Bool)->Tm->St->Prop}:∀(l:List Oper) (i j:Nat) (o:Oper),stI ops P l i->l[j]? = some o->∀L O S,P L O S->L (i+j)=false->(∀k∈aft o,L k=true)->Ed ops o O S (P (fun k=>if k=i+j then true else L k))
 | [],i,j,o,_,h=>by simp at h
 | p::r,i,0,o,h,a=>by
  simp only[c9,fv]at a;subst a;intro L O S b c d;have:=h.1 L O S b c (aE.2 d);unfold Bl at this;rw[xr]at this;exact this
 | p::r,i,j+1,o,h,a=>by
  rw[cn]at a;have:=Jo r (i+1) j o h.2 a;rw[(om:i+1+j=i+(j+1))]at this
  exact this
def CH(P:(Nat->Bool)->Tm->St->Prop)(a:CL ops=true)(b:P (fun _=>false) O S)(c:stI ops P ops.toList 0)(d:∀L O S,P L O S->(∀i,i<ops.toList.length->L i=true)->K O S):GF ops O S K:=by
 rw[tM];refine bQ ⟨P,a,b,fun i o e=>?_,fun L O S f g=>d L O S f (fun i h=>g i (by simpa using h))⟩
 have:=Jo ops.toList 0 i o c (by simpa using e)
 simp only[az]at this;exact this
@[go_sem ↓] theorem awT_nil{os:List Oper}{js:List (List Nat)}:SI os js [] O S K=K O S:=by rw[ED,Q0]
@[go_sem ↓] theorem awT_go{os:List Oper}{js:List (List Nat)}:SI os js (o::l) O S K=OZ o O S (fun z S'=>nm os (O.put o.dst z) S' (DF js)/\SI os (NI js) l (O.put o.dst z) S' K):=by rw[ED,xr,Q0]
@[go_sem] theorem jsHd_c{a:List Nat}{l:List (List Nat)}:DF (a::l)=a:=rfl
@[go_sem] theorem jsNx_1{a:List Nat}:NI [a]=[a]:=rfl
@[go_sem] theorem jsNx_2{a b:List Nat}{l:List (List Nat)}:NI (a::b::l)=b::l:=rfl
@[go_sem] theorem To{os:List Oper}:nm os O S []=True:=by rw[nm]
@[go_sem ↓] theorem RU{os:List Oper}{j:Nat}{js:List Nat}:nm os O S (j::js)=((match os[j]? with
  | some o=>(match o.dst with
   | some d=>BP o O S (O d)
   | ab=>False)
  | ab=>False)/\nm os O S js):=by rw[nm]<;>rfl
@[go_sem ↓] theorem awH_nil:GE [] O S pend H=H O pend:=by rw[qN,GJ]
@[go_sem ↓] theorem awH_go:GE (o::l) O S pend H=(match o.op,o.dst with
  | .alloc t,some d=>(match nr t with
   | some X=>GE l (O.put (some d) .any) S (pend++[(d,X)]) H
   | ab=>False)
  | _,_=>∃z,BP o O S z/\GE l (O.put o.dst z) S pend H):=by rw[qN,GJ]<;>rfl
@[go_sem ↓] theorem HOK_go:BP o O S z=((Fq o.op=true/\OZ o O S (fun z' S'=>z'=z/\S'=S))∨(match o.op with
 | .call c=>(match c.callee with
  | .value f=>NR (ev O f) (c.args.toList.map (ev O)) S z
  | _=>False)
 | .buildSlice t n ps=>fz t n (ps.toList.map fun p=>(p.1,ev O p.2)) z
 | _=>False)):=by rw[BP,xr]<;>rfl
@[go_sem ↓] theorem UO:vQ [] O S K=K O S:=by rw[vP,oV]
@[go_sem ↓] theorem TZ:vQ ((d,X)::r) O S K=aG S (fun b=>vQ r (O.put (some d) (.ptr X.es b 0)) (S.upd b X) K):=by rw[vP,oV]<;>rfl
@[go_sem] theorem UN:nr 50=some ⟨50,2,1,fun _=>.big 0⟩:=rfl
@[go_sem] theorem UM:nr 52=some ⟨52,1,1,fun _=>.nil⟩:=rfl
@[go_sem] theorem TW:nr 167=some ⟨167,2,2,fun _=>.big 0⟩:=rfl
@[go_sem] theorem UI{ds:List Nat}{t:Nat}:As ds O t=if ds.contains t&&!qZ (O t)then .any else O t:=rfl
end
def zd(O:Tm):List Oper->Nat->AV
 | [],_=>.any
 | o::_,0=>(match o.dst with
  | some d=>O d
  | ab=>.any)
 | _::l,j+1=>zd O l j
theorem I9(O:Tm):∀(l:List Oper) (j:Nat),EG l.toArray O j=zd O l j
 | [],j=>by simp[EG,zd]
 | o::l,0=>by simp[EG,zd];rfl
 | o::l,j+1=>by
  have:=I9 O l j;simp only[EG,zd,fN,cn]at this ⊢;exact this
@[go_sem] theorem yld_go{l:List Oper}{O:Tm}{j:Nat}:EG l.toArray O j=zd O l j:=I9 O l j
@[go_sem] theorem Um{o:Oper}{l:List Oper}{O:Tm}:zd O (o::l) 0=(match o.dst with
  | some d=>O d
  | ab=>.any):=by rw[zd]
@[go_sem] theorem Un{o:Oper}{l:List Oper}{O:Tm}{j:Nat}:zd O (o::l) (j+1)=zd O l j:=by rw[zd]
def PF(f:Nat)(args:List AV)(z:AV):Prop :=
 ∀(w:World) (vs:List Value),a6 w BK args vs->Calls ai f vs.toArray w (fun e w'=>∃v,e=.returned v/\bM w' (fun b=>b<w.heap.size) z v/\dI BK BK w w')
def VA(S:St)(x x':AV):Prop:=∀(w:World) (v:Value),fI w S->bM w S.dom x v->bM w BK x' v
def VR(S:St)(x x':AV):Prop:=∀(w:World) (v:Value),fI w S->bM w S.dom x v->bM w (fun b=>¬S.dom b) x' v
def fH(S:St):List AV->List AV->Prop
 | [],[]=>True
 | x::l,y::r=>VA S x y/\fH S l r
 | [],_::_=>False
 | _::_,[]=>False
def VA.refl(S:St)(x:AV):VA S x x:=fun _ _ _ h=>bM.turn (fun _ _ a=>a.elim) _ _ h
def VR.va{y:AV}(h:VR S x y):VA S x y:=fun w v a b=>bM.turn (fun _ _ c=>c.elim) _ _ (h w v a b)
def VR.mf(h:qZ x=true):VR S x x:=fun _ _ _ a=>uC h a
theorem yR{S:St}{w:World}(b:fI w S):∀(l r:List AV) (vs:List Value),fH S l r->a6 w S.dom l vs->a6 w BK r vs
 | [],[],[],_,_=>by simp[a6]
 | x::l,y::r,v::vs,h,a=>by simp only[a6]at a ⊢;exact⟨h.1 w v b a.1,yR b l r vs h.2 a.2⟩
 | [],[],_::_,_,a=>by simp[a6]at a
 | _::_,_,[],_,a=>by simp[a6]at a
 | [],_::_,_,h,_=>h.elim
 | _::_,[],_,h,_=>h.elim
theorem cY(S:St):∀l,fH S l l
 | []=>trivial
 | x::l=>⟨VA.refl S x,cY S l⟩
def PF.pureS(h:PF f args' z)(c:fH S args args'):vB f args S z:=by
 intro w vs a d;refine(h w vs (yR a _ _ _ c d)).mono ?_;rintro e w' ⟨v,rfl,g,i⟩;exact⟨v,rfl,bM.turn (fun k _ b=>by
  simp only[St.dom]at b
  cases e:S k with
  | none=>exact absurd e b
  | some X=>obtain⟨cs,j,_⟩:=a k X e;exact gJ j) _ _ g,i⟩
def PF.pure'(h:PF f args z):vB f args S z:=h.pureS (cY S args)
def PF.spec(h:PF f args' z)(a:fH S args args'){post:AV->St->Prop}(b:post z S):cZ f args S post:=(h.pureS a).spec b
def PF.call(h:PF f args z){post:AV->St->Prop}(a:post z S):cZ f args S post:=h.pure'.spec a
def CO.pf(a:qZ z=true)(h:CO f args z):PF f args z:=by
 intro w vs c;refine(h St.none w vs (fun b x d=>by simp[St.none]at d) (a6.turn (fun _ _ g=>absurd rfl g) _ _ c)).mono ?_
 rintro e w' ⟨v,rfl,i,j⟩;exact⟨v,rfl,uC a i,j⟩
def PF.of_spec(h:cZ f args St.none (fun r S'=>VR S' r z)):PF f args z:=by
 intro w vs d;refine(h w vs (fun b x g=>by simp[St.none]at g) (a6.turn (fun _ _ c=>absurd rfl c) _ _ d)).mono ?_
 rintro e w' ⟨v,r,S',rfl,i,j,l,a⟩;refine⟨v,rfl,bM.turn (fun k _ c m=>?_) _ _ (i w' v l j),a.os,a.tape,a.output,a.size,fun k c _=>a.keep k c (fun x=>x rfl),a.shape,fun _ _ h=>h⟩;exact a.own k c m rfl
def jo{fn:Func}(e:ai.funcs[f]? = some fn)(g:fn.ntmps=N)(i:fn.results=R)
  (h:Aw c (Ee R.toList fun r S'=>VR S' r z) (O0 0 args) St.none) (j:fn.body=some c:=by exact rfl) (b:jt N c=true:=by kernel_rfl) (a:args.length<=N:=by simp) (d:R.size≠0:=by simp):PF f args z:=PF.of_spec (jI e g i h j b a d)
def bG(S:St)(b ty es n:Nat)(g:Nat->AV):Prop:=∃g',S b=some ⟨ty,es,n,g'⟩/\∀i,i<n->g' i=g i
def bG.of(h:S b=some ⟨ty,es,n,g⟩):bG S b ty es n g:=⟨g,h,fun _ _=>rfl⟩
def bG.ne{c ty' es' n':Nat}(h:bG S b ty es n g)(h':bG S c ty' es' n' g')(d:ty≠ty'):b≠c:=by
 rintro rfl;obtain⟨x,e,_⟩:=h;obtain⟨y,a,_⟩:=h';rw[e]at a;cases a;exact d rfl
def bG.fresh{c:Nat}(h:bG S b ty es n g)(a:S c=ab):b≠c:=by
 rintro rfl;obtain⟨x,d,_⟩:=h;rw[d]at a;cases a
def bG.upd{c:Nat}(h:bG S b ty es n g)(a:b≠c)(X:ft):bG (S.upd c X) b ty es n g:=by
 obtain⟨x,d,e⟩:=h;exact⟨x,by rw[aO a];exact d,e⟩
def bG.here(h:∀i,i<n->g' i=g i):bG (S.upd b ⟨ty,es,n,g'⟩) b ty es n g:=⟨g',cp,h⟩
def bG.congr(h:bG S b ty es n g)(c:∀i,i<n->g i=g' i):bG S b ty es n g':=by
 obtain⟨x,d,e⟩:=h;exact⟨x,d,fun i a=>(e i a).trans (c i a)⟩
def VR.sl{off len:Nat}(f:bG S b ty es n g)(s:off+len<=n)(i:∀j,j<len->VR S (g (off+j)) (h j)):VR S (.sl es b off len) (.lst es len h):=by
 intro w v a c;obtain⟨g',d,k⟩:=f;obtain⟨cs,e,t,l,x⟩:=a b _ d;simp only[bM]at c ⊢;obtain⟨cap,cs',ty',fr',rfl,m,_,_⟩:=c;refine⟨_,cap,rfl,m,fun y=>⟨b,es*off,rfl,gJ e,fun o=>o (by simp[St.dom,d]),fun j p=>?_⟩⟩
 obtain⟨u,q,r⟩:=l (off+j) (by simp only;omega)
 refine⟨u,⟨cs,ty,(0,0),e,by rw[<-cj];exact q⟩,i j p w u a ?_⟩
 rw[<-k (off+j) om];exact r
def VR.nil:VR S .nil (.lst es 0 h):=by
 intro w v c a;simp only[bM]at a ⊢;subst a;exact⟨_,0,rfl,ae _,fun b=>absurd b om⟩
def bC(n:Nat)(r:Nat->Int):AV:=.lst 2 n (fun j=>.big (r j))
def aU(n m:Nat)(A:Nat->Nat->Int):AV:=.lst 1 n (fun i=>bC m (A i))
def aW(n:Nat)(r:Nat->Int):AV:=.lst 1 n (fun j=>.int .i64 (r j))
def aC(n m:Nat)(A:Nat->Nat->Int):AV:=.lst 1 n (fun i=>aW m (A i))
def jx(S:St)(b n:Nat)(r:Nat->Int):Prop:=bG S b 50 2 n (fun j=>.big (r j))
def ku(S:St)(b n:Nat)(r:Nat->Int):Prop:=bG S b 2 1 n (fun j=>.int .i64 (r j))
structure dE(S:St)(b:Nat)(g:Nat->Nat)(n m:Nat)(A:Nat->Nat->Int):Prop where
 outer:bG S b 59 1 n (fun i=>.sl 2 (g i) 0 m)
 row:∀i,i<n->jx S (g i) m (A i)
 inj:∀i j,i<n->j<n->g i=g j->i=j
structure dZ(S:St)(b:Nat)(g:Nat->Nat)(n m:Nat)(A:Nat->Nat->Int):Prop where
 outer:bG S b 29 1 n (fun i=>.sl 1 (g i) 0 m)
 row:∀i,i<n->ku S (g i) m (A i)
 inj:∀i j,i<n->j<n->g i=g j->i=j
def jx.vr(h:jx S b n r):VR S (.sl 2 b 0 n) (bC n r):=VR.sl h om (fun j _=>by rw[az];exact VR.mf rfl)
def ku.vr(h:ku S b n r):VR S (.sl 1 b 0 n) (aW n r):=VR.sl h om (fun j _=>by rw[az];exact VR.mf rfl)
def dE.vr{g:Nat->Nat}(h:dE S b g n m A):VR S (.sl 1 b 0 n) (aU n m A):=VR.sl h.outer om (fun j a=>by rw[az];exact(h.row j a).vr)
def dZ.vr{g:Nat->Nat}(h:dZ S b g n m A):VR S (.sl 1 b 0 n) (aC n m A):=VR.sl h.outer om (fun j a=>by rw[az];exact(h.row j a).vr)
def i64_in(b:-9223372036854775808<=a)(c:a<=9223372036854775807):IntKind.i64.wrap a=a:=IntWalk.i64_in a ⟨b,c⟩
def eF(h:a=n)(b:n<=4611686018427387904):IntKind.i64.wrap a=(n:Int):=by rw[h];exact i64_in om om

abbrev aH:=Nat->Nat->Int
def aq:Nat->(Nat->Int)->Int
 | 0,_=>0
 | n+1,f=>aq n f+f n
def aB{f g:Nat->Int}(h:∀i,i<n->f i=g i):aq n f=aq n g:=by
 induction n with
 | zero=>rfl
 | succ n ih=>simp only[aq];rw[ih (fun i a=>h i om),h n om]
def iP{f:Nat->Int}(h:∀i,i<n->f i=0):aq n f=0:=by
 induction n with
 | zero=>rfl
 | succ n ih=>simp only[aq];rw[ih (fun i a=>h i om),h n om];rfl
def eE(n:Nat)(f g:Nat->Int):aq n (fun i=>f i+g i)=aq n f+aq n g:=by
 induction n with
 | zero=>rfl
 | succ n ih=>simp only[aq];rw[ih];omega
def df(n:Nat)(c:Int)(f:Nat->Int):aq n (fun i=>c*f i)=c*aq n f:=by
 induction n with
 | zero=>simp[aq]
 | succ n ih=>simp only[aq];rw[ih,UX]
def pE(n:Nat)(x y:Int)(f g:Nat->Int):aq n (fun i=>x*f i+y*g i)=x*aq n f+y*aq n g:=by
 rw[eE,df,df]
def cJ{f:Nat->Int}(k:Nat)(c:k<n)(h:∀i,i<n->i≠k->f i=0):aq n f=f k:=by
 induction n with
 | zero=>omega
 | succ n ih =>
  simp only[aq];by_cases e:k=n
  .subst e;rw[iP (fun i b=>h i om om)];omega
  .rw[ih om (fun i b a=>h i om a),h n om om];omega
def Cb{f:Nat->Int}(k:Nat)(d:k+1<n)(h:∀i,i<n->i≠k->i≠k+1->f i=0):aq n f=f k+f (k+1):=by
 induction n with
 | zero=>omega
 | succ n ih =>
  simp only[aq];by_cases e:k+1=n
  .subst e;rw[cJ k om (fun i b a=>h i om a om)]
  .rw[ih om (fun i b a c=>h i om a c),h n om om om];omega
def qi(n m:Nat)(f:Nat->Nat->Int):aq n (fun i=>aq m (fun j=>f i j))=aq m (fun j=>aq n (fun i=>f i j)):=by
 induction n with
 | zero=>simp only[aq];rw[iP];intros;rfl
 | succ n ih=>simp only[aq];rw[ih,<-eE]
def nF(j:Nat):Int:=if j%2=0 then 1 else -1
def Fn(j:Nat):nF (j+1)=- nF j:=by unfold nF;split<;>split<;>omega
def zN:nF 0=1:=rfl
def skip(j k:Nat):Nat:=if k<j then k else k+1
def cut(A:aH)(j:Nat):aH:=fun i k=>A (i+1) (skip j k)
def det:Nat->aH->Int
 | 0,_=>1
 | n+1,A=>aq (n+1) fun j=>nF j*A 0 j*det n (cut A j)
def lN(h:k<n):skip j k<n+1:=by unfold skip;split<;>omega
def bI{A B:aH}(h:∀i j,i<n->j<n->A i j=B i j):det n A=det n B:=by
 induction n generalizing A B with
 | zero=>rfl
 | succ n ih =>
  simp only[det];refine aB fun j a=>?_;rw[h 0 j om a,ih (A:=cut A j) (B:=cut B j) (fun i k c b=>h _ _ om (lN b))]
def setRow(A:aH)(i:Nat)(r:Nat->Int):aH:=fun a b=>if a=i then r b else A a b
def cb(A:aH)(i:Nat)(r:Nat->Int):aH:=fun a b=>if b=i then r a else A a b
def qB(A:aH)(i j:Nat)(r:Nat->Int):cut (setRow A (i+1) r) j=setRow (cut A j) i (fun k=>r (skip j k)):=by
 funext a b;simp[cut,setRow]
def xS(A:aH)(j:Nat)(r:Nat->Int):cut (setRow A 0 r) j=cut A j:=by
 funext a b;simp[cut,setRow]
def qz(A:aH)(a:i<n)(x y:Int)(r s:Nat->Int) :
  det n (setRow A i (fun j=>x*r j+y*s j))=x*det n (setRow A i r)+y*det n (setRow A i s):=by
 induction n generalizing A i r s with
 | zero=>omega
 | succ n ih =>
  simp only[det];rw[<-pE];refine aB fun j _=>?_
  cases i with
  | zero=>simp only[xS,setRow,aK];grind
  | succ i=>rw[qB,ih _ om,qB,qB];simp only[setRow,Nat.reduceEqDiff,aM];grind
def oS(A:aH)(c:i<n)(x:Int)(r:Nat->Int):det n (setRow A i (fun j=>x*r j))=x*det n (setRow A i r):=by
 have h:=qz A c x 0 r r;rw[bI (B:=setRow A i (fun j=>x*r j+0*r j)) (fun a b _ _=>by simp[setRow]),h];omega
def kD(A:aH)(c:i<n)(r s:Nat->Int):det n (setRow A i (fun j=>r j+s j))=det n (setRow A i r)+det n (setRow A i s):=by
 have h:=qz A c 1 1 r s;rw[bI (B:=setRow A i (fun j=>1*r j+1*s j)) (fun a b _ _=>by simp[setRow]),h];omega
def Hn(N:Nat)(g:Nat->Nat->Int):aq (N+1) (fun j=>aq N (fun k=>if k<j then g k j else-g j (k+1)))=0:=by
 induction N with
 | zero=>simp[aq]
 | succ N ih =>
  rw[show aq (N+1+1) (fun j=>aq (N+1) (fun k=>if k<j then g k j else-g j (k+1)))
  =aq (N+1) (fun j=>aq (N+1) (fun k=>if k<j then g k j else-g j (k+1)))+aq (N+1) (fun k=>if k<N+1 then g k (N+1)else-g (N+1) (k+1))from rfl]
  have a:aq (N+1) (fun j=>aq (N+1) (fun k=>if k<j then g k j else-g j (k+1)))
  =aq (N+1) (fun j=>aq N (fun k=>if k<j then g k j else-g j (k+1))+(- g j (N+1))):=by
   refine aB fun j e=>?_;simp only[aq];rw[af om]
  have b:aq (N+1) (fun k=>if k<N+1 then g k (N+1)else-g (N+1) (k+1))=aq (N+1) (fun k=>g k (N+1)) :=
   aB fun k c=>by rw[ah c]
  rw[a,b,eE,ih];have d:aq (N+1) (fun j=>- g j (N+1))=- aq (N+1) (fun j=>g j (N+1)):=by
   have:=df (N+1) (-1) (fun j=>g j (N+1));rw[aB (g:=fun i=>-1*g i (N+1)) (fun i _=>om),this];omega
  rw[d];omega
def Dm(h:k<j)(c:Nat):skip j (skip k c)=skip k (skip (j-1) c):=by
 unfold skip;split<;>split<;>(try split)<;>(try split)<;>omega
def J4(A:aH)(o:i+1<n)(h:∀j,j<n->A i j=A (i+1) j):det n A=0:=by
 induction n generalizing A i with
 | zero=>omega
 | succ n ih =>
  cases i with
  | succ i =>
   simp only[det];exact iP fun j g=>by rw[ih (cut A j) (i:=i) om (fun k d=>h _ (lN d))];omega
  | zero =>
   obtain⟨n,rfl⟩:∃m,n=m+1:=⟨n-1,om⟩
   have e:det (n+1+1) A=aq (n+1+1) (fun j=>aq (n+1) (fun k =>
     if k<j then nF k*nF j*A 0 k*A 0 j*det n (cut (cut A j) k)else-(nF j*nF (k+1)*A 0 j*A 0 (k+1)*det n (cut (cut A (k+1)) j)))):=by
    simp only[det];refine aB fun j g=>?_;rw[<-df];refine aB fun k d=>?_;have l:cut A j 0 k=A 0 (skip j k):=by
     show A 1 (skip j k)=_;exact(h _ (lN d)).symm
    rw[l];split
    .rename_i c;rw[show skip j k=k by unfold skip;rw[ah c]];grind
    .rename_i c;rw[show skip j k=k+1 by unfold skip;rw[af c],Fn]
     have f:cut (cut A j) k=cut (cut A (k+1)) j:=by
      funext a b;show A (a+1+1) (skip j (skip k b))=A (a+1+1) (skip (k+1) (skip j b));rw[Dm (j:=k+1) (k:=j) om];rfl
     rw[f];grind
   rw[e];exact Hn (n+1) (fun k j=>nF k*nF j*A 0 k*A 0 j*det n (cut (cut A j) k))

end Go.Proofs.YtdobfmlmenaajaaGreatDoor
