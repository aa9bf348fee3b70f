/-
  Lemmas for NeighbourMembers.
-/
import Derived.Test.YtdobfmlmenaajaaGreatDoorN12
namespace Go.Proofs.YtdobfmlmenaajaaGreatDoor
open Go.RowKit
open _root_.List renaming getElem?_cons_succ→bN,getElem?_cons_zero→cE
open _root_.Nat renaming le_refl→ah,zero_add→aC
open _root_.Option renaming none→ac
open _root_.Or renaming inr→bD,inl→bH
set_option maxHeartbeats 6400000
set_option maxRecDepth 4096
set_option linter.all false
theorem co.below{w w':World}(h:Below w.heap.size w w'):co oS oS w w' :=
 ⟨h.os,h.tape,h.output,h.size,fun k hk _=>h.block k hk,fun k cs ty fr hc=>⟨cs,by rw[h.block k (dE hc)];exact hc,rfl⟩,fun _ _ h=>h⟩
def vO(f:Nat)(args:List AV)(z:AV):Prop:=∀S,rb f args S z
theorem KE{f:Nat}{za zb z:Int}(h:∀va vb B w,B<=w.heap.size->dL w B va za->dL w B vb zb->Calls Tryz.prog f #[va,vb] w (cU w z)):vO f [.big za,.big zb] (.big z):=by
 intro S w vs _ hr
 match vs,hr with
 | [va,vb],hr =>
  simp only[a6,a8]at hr;refine(h va vb w.heap.size w (ah _) hr.1 hr.2.1).mono ?_;rintro e w' ⟨v,rfl,h1,h2⟩;exact⟨v,rfl,by simpa [a8]using h1,co.below h2⟩
 | [],hr=>simp[a6]at hr
 | [_],hr=>simp[a6]at hr
 | _::_::_::_,hr=>simp[a6]at hr
theorem KF{f:Nat}{za z:Int}(h:∀va B w,B<=w.heap.size->dL w B va za->Calls Tryz.prog f #[va] w (cU w z)):vO f [.big za] (.big z):=by
 intro S w vs _ hr
 match vs,hr with
 | [va],hr =>
  simp only[a6,a8]at hr;refine(h va w.heap.size w (ah _) hr.1).mono ?_;rintro e w' ⟨v,rfl,h1,h2⟩;exact⟨v,rfl,by simpa [a8]using h1,co.below h2⟩
 | [],hr=>simp[a6]at hr
 | _::_::_,hr=>simp[a6]at hr
theorem rb.spec{f:Nat}{args:List AV}{S:St}{z:AV}(h:rb f args S z){post:AV->St->Prop}(hp:post z S):cM f args S post:=by
 intro w vs hs hr;refine(h w vs hs hr).mono ?_;rintro e w' ⟨v,rfl,h1,h2⟩;exact⟨v,z,S,rfl,hp,h1,hs.frozen h2,h2.any _⟩
theorem cM.pure{f:Nat}{args:List AV}{z:AV}(hz:nY z=true)(h:cM f args St.none (fun r _=>r=z)):vO f args z:=by
 intro S w vs _ hr;have hd:∀k,k<w.heap.size->St.none.dom k->S.dom k:=fun k _ hk=>absurd rfl hk;refine(h w vs (fun b x hx=>by simp[St.none]at hx) (a6.turn hd _ _ hr)).mono ?_
 rintro e w' ⟨v,r,S',rfl,rfl,h2,h3,h4⟩;exact⟨v,rfl,nr hz h2,h4.os,h4.tape,h4.output,h4.size,fun k hk _=>h4.keep k hk (fun x=>x rfl),h4.shape,fun _ _ h=>h⟩
theorem iz{α:Type}(x:α):∃y:α,y=x:=⟨x,rfl⟩
noncomputable def Aw:Code->(AX->Tm->St->Prop)->Tm->St->Prop:=Classical.choose (iz aw)
theorem mY:Aw=aw:=Classical.choose_spec (iz aw)
noncomputable def zR:Array Oper->List Oper->Tm->St->(Tm->St->Prop)->Prop:=Classical.choose (iz sW)
theorem sf:zR=sW:=Classical.choose_spec (iz sW)
noncomputable def Fm:Array Oper->Tm->St->(Tm->St->Prop)->Prop:=Classical.choose (iz Jm)
theorem qa:Fm=Jm:=Classical.choose_spec (iz Jm)
noncomputable def BB:List Oper->Tm->St->List (Nat×dn)->(Tm->List (Nat×dn)->Prop)->Prop:=Classical.choose (iz zh)
theorem nQ:BB=zh:=Classical.choose_spec (iz zh)
noncomputable def Km:List Oper->List (List Nat)->List Oper->Tm->St->(Tm->St->Prop)->Prop:=Classical.choose (iz Fq)
theorem zQ:Km=Fq:=Classical.choose_spec (iz Fq)
noncomputable def Hn:Oper->Tm->St->(AV->St->Prop)->Prop:=Classical.choose (iz vF)
theorem sh:Hn=vF:=Classical.choose_spec (iz vF)
noncomputable def rm:List (Nat×dn)->Tm->St->(Tm->St->Prop)->Prop:=Classical.choose (iz lM)
theorem rl:rm=lM:=Classical.choose_spec (iz lM)
structure Hj{α:Type}(x:α):Type where
structure Dep2{α β:Type}(x:α)(y:β):Type where
def aG(S:St)(K:Nat->Prop)(_u:Hj K:=⟨⟩):Prop:=∀b,S b=ac->K b
def Kg(f:Nat)(args:List AV)(S:St)(K:AV->St->Prop)(_u:Hj K:=⟨⟩):Prop:=cM f args S K
def vL(t t':TypeId)(s x:AV)(S:St)(K:AV->St->Prop)(_u:Hj K:=⟨⟩):Prop:=eL t t' s x S K
def E4(t:TypeId)(s x:AV)(S:St)(K:AV->St->Prop)(_u:Hj K:=⟨⟩):Prop:=lN t s x S K
def vI(t:TypeId)(s x:AV)(S:St)(K:AV->St->Prop)(_u:Hj K:=⟨⟩):Prop:=pE t s x S K
noncomputable def AwDK(ops:Array Oper)(O:Tm)(S:St)(K:Tm->St->Prop)(_u:Dep2 ops K:=⟨⟩):Prop:=Fm ops O S K
noncomputable def AwLK(c:Code)(Q:AX->Tm->St->Prop)(O:Tm)(S:St)(_u:Dep2 c Q:=⟨⟩):Prop:=Aw (.loop c) Q O S
theorem aG.intro{S:St}{K:Nat->Prop}(h:∀b,S b=ac->K b):aG S K:=h
def gd(y:AV)(want:Bool)(A B:Prop):Prop:=match y with
 | .bool b=>if b=want then A else B
 | _=>False
def cd(y:AV)(A B:Prop):Prop:=match y with
 | .bool b=>if b=true then A else B
 | _=>False
def vE(c x y:AV)(K:AV->Prop):Prop:=match c with
 | .bool t=>K (if t then x else y)
 | _=>False
def Jp(x:AV)(K:AV->Prop):Prop:=match x with
 | .ptr es b i=>K (.ptr es b i)
 | .pat es y=>K (.pat es y)
 | _=>False
def DQ(x:AV)(i:Nat)(K:AV->Prop):Prop:=match x with
 | .tup l=>(match l[i]? with
  | some z=>K z
  | ac=>False)
 | _=>False
def zp(f:AV)(args:List AV)(S:St)(K:AV->St->Prop):Prop:=match f with
 | .fn f l=>((11<=f/\f<270)/\f≠252/\f≠253)/\Kg f (args++l) S K
 | .mfn f l=>((11<=f/\f<270)/\f≠252/\f≠253)/\Kg f (l++args) S K
 | _=>False
def Gu(f:AV)(args:List AV)(S:St)(z:AV):Prop:=match f with
 | .fn f l=>((11<=f/\f<270)/\f≠252/\f≠253)/\rb f (args++l) S z
 | _=>False
@[congr] theorem gd_congr{y y':AV}{b:Bool}{A B:Prop}(h:y=y'):gd y b A B=gd y' b A B:=by rw[h]
@[congr] theorem cd_congr{y y':AV}{A B:Prop}(h:y=y'):cd y A B=cd y' A B:=by rw[h]
@[congr] theorem J9{c c' x x' y y':AV}{K:AV->Prop}(h:c=c')(h2:x=x')(h3:y=y'):vE c x y K=vE c' x' y' K:=by rw[h,h2,h3]
@[congr] theorem Lq{x x':AV}{K:AV->Prop}(h:x=x'):Jp x K=Jp x' K:=by rw[h]
@[congr] theorem Kc{x x':AV}{i:Nat}{K:AV->Prop}(h:x=x'):DQ x i K=DQ x' i K:=by rw[h]
@[congr] theorem Jv{f f':AV}{l l':List AV}{S:St}{K:AV->St->Prop}(h:f=f')(h2:l=l'):zp f l S K=zp f' l' S K:=by rw[h,h2]
@[go_sem] theorem gd_tt{A B:Prop}:gd (.bool true) true A B=A:=by simp[gd]
@[go_sem] theorem gd_ff{A B:Prop}:gd (.bool false) false A B=A:=by simp[gd]
@[go_sem] theorem gd_tf{A B:Prop}:gd (.bool true) false A B=B:=by simp[gd]
@[go_sem] theorem gd_ft{A B:Prop}:gd (.bool false) true A B=B:=by simp[gd]
@[go_sem] theorem cd_t{A B:Prop}:cd (.bool true) A B=A:=by simp[cd]
@[go_sem] theorem cd_f{A B:Prop}:cd (.bool false) A B=B:=by simp[cd]
@[go_sem] theorem aPick_t{x y:AV}{K:AV->Prop}:vE (.bool true) x y K=K x:=by simp[vE]
@[go_sem] theorem aPick_f{x y:AV}{K:AV->Prop}:vE (.bool false) x y K=K y:=by simp[vE]
attribute [go_sem] Jp DQ zp Gu pX
section
variable {O O':Tm} {S:St} {K1:AV->Prop} {K2:AV->St->Prop} {K3:Tm->St->Prop} {KS:St->Prop} {x x' y y':AV} {t t2 f:Nat}
@[congr] theorem L5{c:Code}{Q:AX->Tm->St->Prop}(h:O=O'):Aw c Q O S=Aw c Q O' S:=by rw[h]
@[congr] theorem Lj{ops:Array Oper}{l:List Oper}(h:O=O'):zR ops l O S K3=zR ops l O' S K3:=by rw[h]
@[congr] theorem Ll{ops:Array Oper}(h:O=O'):Fm ops O S K3=Fm ops O' S K3:=by rw[h]
@[congr] theorem Lk{l:List Oper}{pend pend':List (Nat×dn)}{H:Tm->List (Nat×dn)->Prop}(h:O=O')(hp:pend=pend'):BB l O S pend H=BB l O' S pend' H:=by rw[h,hp]
@[congr] theorem Li{ops l:List Oper}{js:List (List Nat)}(h:O=O'):Km ops js l O S K3=Km ops js l O' S K3:=by rw[h]
@[congr] theorem Jn{pend pend':List (Nat×dn)}(h:O=O')(hp:pend=pend'):rm pend O S K3=rm pend' O' S K3:=by rw[h,hp]
@[congr] theorem Lp{o:Oper}(h:O=O'):Hn o O S K2=Hn o O' S K2:=by rw[h]
@[congr] theorem Ju{c:Call}(h:O=O'):qW O c S K2=qW O' c S K2:=by rw[h]
@[congr] theorem Hx:kT t S K2=kT t S K2:=rfl
@[congr] theorem Kd(h:x=x'):iK t x S K2=iK t x' S K2:=by rw[h]
@[congr] theorem Jq(h:x=x')(h2:y=y'):jr t x y S K2=jr t x' y' S K2:=by rw[h,h2]
@[congr] theorem Jr(h:x=x'):mU t x S K1=mU t x' S K1:=by rw[h]
@[congr] theorem Hs(h:x=x')(h2:y=y'):nB t x y S KS=nB t x' y' S KS:=by rw[h,h2]
@[congr] theorem Hu(h:x=x')(h2:y=y'):nE t x y K1=nE t x' y' K1:=by rw[h,h2]
@[congr] theorem Hv(h:x=x'):nF t x f K1=nF t x' f K1:=by rw[h]
@[congr] theorem Ka(h:x=x'):zn t x K1=zn t x' K1:=by rw[h]
@[congr] theorem Ke{op:BinOp}(h:x=x')(h2:y=y'):Bn op t x y K1=Bn op t x' y' K1:=by rw[h,h2]
@[congr] theorem Lo{op:UnOp}(h:x=x'):J7 op x K1=J7 op x' K1:=by rw[h]
@[congr] theorem Jt(h:x=x'):qV t t2 x K1=qV t t2 x' K1:=by rw[h]
@[congr] theorem Hw{ps ps':List (Nat×AV)}(h:ps=ps'):oO t ps K1=oO t ps' K1:=by rw[h]
@[congr] theorem CM{n:Nat}{ps ps':List (Nat×AV)}(h:ps=ps'):cL t n ps S K2=cL t n ps' S K2:=by rw[h]
@[congr] theorem Ht{lo lo' hi hi' mx mx':Option AV}(h:x=x')(h1:lo=lo')(h2:hi=hi')(h3:mx=mx'):jo t x lo hi mx K1=jo t x' lo' hi' mx' K1:=by rw[h,h1,h2,h3]
@[congr] theorem G5(h:x=x')(h2:y=y'):eL t t2 x y S K2=eL t t2 x' y' S K2:=by rw[h,h2]
@[congr] theorem Js(h:x=x')(h2:y=y'):pE t x y S K2=pE t x' y' S K2:=by rw[h,h2]
@[congr] theorem J8{rs:List ResultVar}{K:List AV->Prop}(h:O=O'):sX rs O S K=sX rs O' S K:=by rw[h]
@[congr] theorem Kb{rs:List ResultVar}{e:AX}(h:O=O'):CL rs K2 e O S=CL rs K2 e O' S:=by rw[h]
@[congr] theorem JC{args args':List AV}{z:AV}(h:args=args'):rb f args S z=rb f args' S z:=by rw[h]
end
section
variable {Q:AX->Tm->St->Prop} {O:Tm} {S:St} {x y c:Code} {id i:Nat} {ops:Array Oper} {K:Tm->St->Prop} {H:AV->St->Prop} {l:List Oper} {o:Oper}
@[go_sem ↓] theorem aw_skip:Aw .skip Q O S=Q .normal O S:=by rw[mY,aw]
@[go_sem ↓] theorem Lh:Aw (.region id ops false) Q O S=zR ops ops.toList O S (Q .normal):=by rw[mY,sf,aw]
@[go_sem ↓] theorem aw_draw:Aw (.region id ops true) Q O S=AwDK ops O S (Q .normal):=by unfold AwDK;rw[mY,qa,aw]
@[go_sem ↓] theorem aw_lp:Aw (.loop c) Q O S=AwLK c Q O S:=rfl
@[go_sem ↓] theorem GX:Aw (.seq x y) Q O S=Aw x (AX.seq (Aw y Q) Q) O S:=by rw[mY,aw]
@[go_sem ↓] theorem aw_block:Aw (.block id c) Q O S=Aw c (AX.blk id Q) O S:=by rw[mY,aw]
@[go_sem ↓] theorem aw_exit:Aw (.exit id) Q O S=Q (.exit id) O S:=by rw[mY,aw]
@[go_sem ↓] theorem aw_scope:Aw (.scope x) Q O S=Aw x Q O S:=by rw[mY,aw]
@[go_sem ↓] theorem aw_label{l:Nat}:Aw (.label l) Q O S=Q .normal O S:=by rw[mY,aw]
@[go_sem ↓] theorem aw_ret:Aw .ret Q O S=Q .ret O S:=by rw[mY,aw]
@[go_sem ↓] theorem ue:AX.seq K Q .normal=K:=rfl
@[go_sem ↓] theorem seq_ret:AX.seq K Q .ret=Q .ret:=rfl
@[go_sem ↓] theorem seq_exit:AX.seq K Q (.exit i)=Q (.exit i):=rfl
@[go_sem ↓] theorem Le:AX.blk id Q .normal=Q .normal:=rfl
@[go_sem ↓] theorem blk_ret:AX.blk id Q .ret=Q .ret:=rfl
@[go_sem ↓] theorem GV:AX.blk id Q (.exit i)=if i=id then Q .normal else Q (.exit i):=rfl
@[go_sem ↓] theorem awL_nil:zR ops [] O S K=K O S:=by rw[sf,sW]
theorem aI(I:Tm->St->Prop)(μ:Tm->St->Nat)(h0:I O S)(hr:∀O S,I O S->Aw c (AX.seq (fun O' S'=>I O' S'/\μ O' S' < μ O S) Q) O S):Aw (.loop c) Q O S:=by
 rw[mY]at *;exact⟨I,μ,h0,hr⟩
end
theorem IJ{b c:Bool}{p q:Prop}:((b=c->p)/\(b=!c->q))=if b=c then p else q:=by
 cases b<;>cases c<;>simp
theorem Gk{b:Bool}{p q:Prop}:((b=true->p)/\(b=false->q))=if b=true then p else q:=by
 cases b<;>simp
@[go_sem ↓] theorem CE{e:Operand}{x y:Code}{Q:AX->Tm->St->Prop}{O:Tm}{S:St}:Aw (.cond e x y) Q O S=cd (ev O e) (Aw x Q O S) (Aw y Q O S):=by
 rw[mY,aw];unfold cd
 cases ev O e<;>first|rfl|exact Gk
@[go_sem ↓] theorem awL_go{ops:Array Oper}{l:List Oper}{O:Tm}{S:St}{K:Tm->St->Prop}{o:Oper}:zR ops (o::l) O S K=(match o.guard with
  | ac=>Hn o O S (fun z S'=>zR ops l (O.put o.dst z) S' K)
  | some (j,want)=>gd (zT ops O j) want (Hn o O S (fun z S'=>zR ops l (O.put o.dst z) S' K)) (zR ops l (O.put o.dst .any) S K)):=by
 rw[sf,sh,sW]
 cases o.guard with
 | none=>rfl
 | some p =>
  obtain⟨j,want⟩:=p;simp only[gd]
  cases zT ops O j<;>first|rfl|exact IJ
@[go_sem ↓] theorem aCall_go{O:Tm}{c:Call}{S:St}{K:AV->St->Prop}:qW O c S K=(match c.callee with
 | .value f=>zp (ev O f) (c.args.toList.map (ev O)) S K
 | .builtin .len=>(match c.args.toList,c.argTypes.toList with
  | [x],[t]=>zn t (ev O x) (fun z=>K z S)
  | _,_=>False)
 | .builtin .max=>(match c.args.toList with
  | [x,y]=>G4 (ev O x) (ev O y) (fun z=>K z S)
  | _=>False)
 | .builtin .append=>(match c.args.toList,c.argTypes.toList with
  | [s,x],[t,t']=>if t'=3 then E4 t (ev O s) (ev O x) S K else vL t t' (ev O s) (ev O x) S K
  | _,_=>False)
 | .builtin .copy=>(match c.args.toList,c.argTypes.toList with
  | [s,x],[t,_]=>vI t (ev O s) (ev O x) S K
  | _,_=>False)
 | _=>False):=rfl
@[go_sem ↓] theorem AOp_go{o:Oper}{O:Tm}{S:St}{K:AV->St->Prop}:Hn o O S K=(match o.op with
  | .move x=>K (ev O x) S
  | .assign x=>K (ev O x) S
  | .pick c x y=>vE (ev O c) (ev O x) (ev O y) (fun z=>K z S)
  | .alloc t=>kT t S K
  | .box t x=>iK t (ev O x) S K
  | .build t ps=>oO t (ps.toList.map fun p=>(p.1,ev O p.2)) (fun z=>K z S)
  | .buildSlice t n ps=>cL t n (ps.toList.map fun p=>(p.1,ev O p.2)) S K
  | .load t x=>mU t (ev O x) S (fun z=>K z S)
  | .store t x y=>nB t (ev O x) (ev O y) S (fun S'=>K .any S')
  | .nilCheck x=>Jp (ev O x) (fun z=>K z S)
  | .binOp op t x y _=>Bn op t (ev O x) (ev O y) (fun z=>K z S)
  | .unOp op _ x=>J7 op (ev O x) (fun z=>K z S)
  | .convert s d x=>qV s d (ev O x) (fun z=>K z S)
  | .makeFunc (.func f) fi cs=>pX f (fi.toList.map (ev O)) (cs.toList.map (ev O)) (fun z=>K z S)
  | .makeSlice t x y=>jr t (ev O x) (ev O y) S K
  | .slice t x lo hi mx=>jo t (ev O x) (lo.map (ev O)) (hi.map (ev O)) (mx.map (ev O)) (fun z=>K z S)
  | .fieldAddr t x f=>nF t (ev O x) f (fun z=>K z S)
  | .indexAddr t x i=>nE t (ev O x) (ev O i) (fun z=>K z S)
  | .index t x i=>zo t (ev O x) (ev O i) (fun z=>K z S)
  | .extract x i=>DQ (ev O x) i (fun z=>K z S)
  | .call c=>qW O c S K
  | _=>False):=by rw[sh,vF];rfl
theorem gG{f:Nat}{fn:Func}{c:Code}(hf:Tryz.prog.funcs[f]? = some fn)(hb:fn.body=some c){args:List AV}{S:St}{post:AV->St->Prop}(N:Nat)(hN:fn.ntmps=N)(hok:ie N c=true)(hlen:args.length<=N)
  (h:Aw c (CL fn.results.toList post) (D9 args) S):cM f args S post:=mi hf hb N hN hok hlen (by rw[mY]at h;exact h)
theorem aA{f:Nat}{fn:Func}{c:Code}(hf:Tryz.prog.funcs[f]? = some fn)(hb:fn.body=some c){args:List AV}{S:St}{post:AV->St->Prop}(N:Nat)(hN:fn.ntmps=N)(hok:ie N c=true)(hlen:args.length<=N)(hne:fn.results.size≠0)
  (h:Aw c (CL fn.results.toList post) (D9 args) S):cM f args S post:=yz hf hb N hN hok hlen hne (by rw[mY]at h;exact h)
@[go_sem] theorem Iu{O:Tm}{d:Nat}{x:AV}:O.put (some d) x d=x:=by simp[Tm.put_eq]
@[go_sem] theorem F3{O:Tm}{d t:Nat}{x:AV}(h:t≠d):O.put (some d) x t=O t:=by simp[Tm.put_eq,h]
@[go_sem] theorem F2{O:Tm}{x:AV}:O.put ac x=O:=by rw[Tm.put_eq]
noncomputable def JS(k:Nat):List AV->Tm
 | []=>fun _=>.any
 | a::l=>(JS (k+1) l).put (some k) a
theorem FO:∀(l:List AV) (k t:Nat),JS k l t=if k<=t then l.getD (t-k) .any else .any
 | [],k,t=>by simp[JS]
 | a::l,k,t=>by
  simp only[JS,Tm.put_eq];by_cases e:t=k
  ·subst e;simp
  ·rw[if_neg e,FO l (k+1) t];by_cases h:k<=t
   ·rw[if_pos om,if_pos h,show t-k=(t-(k+1))+1 by omega];simp
   ·rw[if_neg om,if_neg h]
theorem aS(l:List AV):D9 l=JS 0 l:=by funext t;rw[FO];simp[D9]
@[go_sem] theorem tmP_nil{k:Nat}:JS k []=fun _=>.any:=rfl
@[go_sem] theorem tmP_cons{k:Nat}{a:AV}{l:List AV}:JS k (a::l)=(JS (k+1) l).put (some k) a:=rfl
@[go_sem ↓] theorem alloc50{S:St}{K:AV->St->Prop}:kT 50 S K=aG S (fun b=>K (.ptr 2 b 0) (S.upd b ⟨50,2,1,fun _=>.big 0⟩)):=rfl
@[go_sem ↓] theorem alloc52{S:St}{K:AV->St->Prop}:kT 52 S K=aG S (fun b=>K (.ptr 1 b 0) (S.upd b ⟨52,1,1,fun _=>.nil⟩)):=rfl
@[go_sem ↓] theorem alloc4{S:St}{K:AV->St->Prop}:kT 4 S K=aG S (fun b=>K (.ptr 1 b 0) (S.upd b ⟨4,1,1,fun _=>.bool false⟩)):=rfl
@[go_sem ↓] theorem alloc167{S:St}{K:AV->St->Prop}:kT 167 S K=aG S (fun b=>K (.ptr 2 b 0) (S.upd b ⟨167,2,2,fun _=>.big 0⟩)):=rfl
@[go_sem] theorem bV{S:St}{b:Nat}{X:dn}:S.upd b X b=some X:=by simp[St.upd]
@[go_sem] theorem aQ{S:St}{b c:Nat}{X:dn}(h:c≠b):S.upd b X c=S c:=by simp[St.upd,h]
@[go_sem] theorem slots_2:dM 2=some (1,1):=rfl
@[go_sem] theorem slots_3:dM 3=some (1,1):=rfl
@[go_sem] theorem slots_4:dM 4=some (1,1):=rfl
@[go_sem] theorem slots_5:dM 5=some (1,1):=rfl
@[go_sem] theorem slots_22:dM 22=some (1,1):=rfl
@[go_sem] theorem slots_25:dM 25=some (1,1):=rfl
@[go_sem] theorem slots_28:dM 28=some (1,1):=rfl
@[go_sem] theorem slots_29:dM 29=some (1,1):=rfl
@[go_sem] theorem slots_34:dM 34=some (1,1):=rfl
@[go_sem] theorem slots_48:dM 48=some (1,1):=rfl
@[go_sem] theorem JY:eM 50 0=ac:=rfl
@[go_sem] theorem JX:eM 50 1=ac:=rfl
@[go_sem] theorem elemT_48:cX 48=ac:=rfl
@[go_sem] theorem slots_41:dM 41=some (1,1):=rfl
@[go_sem] theorem slots_52:dM 52=some (1,1):=rfl
@[go_sem] theorem slots_59:dM 59=some (1,1):=rfl
@[go_sem] theorem slots_97:dM 97=some (1,1):=rfl
@[go_sem] theorem LS:dM 146=some (1,1):=rfl
@[go_sem] theorem LR:dM 158=some (1,1):=rfl
@[go_sem] theorem LN:dM 192=some (1,1):=rfl
@[go_sem] theorem LK:dM 216=some (1,1):=rfl
@[go_sem] theorem slots_50:dM 50=some (2,1):=rfl
@[go_sem] theorem LP:dM 167=some (2,2):=rfl
@[go_sem] theorem LM:dM 195=some (2,2):=rfl
@[go_sem] theorem LL:dM 197=some (2,7):=rfl
@[go_sem] theorem slots_24:dM 24=some (1,4):=rfl
@[go_sem] theorem slots_27:dM 27=some (1,6):=rfl
@[go_sem] theorem LT:dM 107=some (1,2):=rfl
@[go_sem] theorem LQ:dM 160=some (1,4):=rfl
@[go_sem] theorem LO:dM 183=some (1,2):=rfl
@[go_sem] theorem LJ:dM 218=some (1,2):=rfl
@[go_sem] theorem elemT_22:cX 22=some 41:=rfl
@[go_sem] theorem elemS_41:bI 41=1:=rfl
@[go_sem] theorem elemT_28:cX 28=some 29:=rfl
@[go_sem] theorem elemT_29:cX 29=some 2:=rfl
@[go_sem] theorem elemT_52:cX 52=some 59:=rfl
@[go_sem] theorem elemT_59:cX 59=some 50:=rfl
@[go_sem] theorem L0:cX 146=some 3:=rfl
@[go_sem] theorem LZ:cX 192=some 52:=rfl
@[go_sem] theorem LY:cX 216=some 59:=rfl
@[go_sem] theorem elemS_2:bI 2=1:=rfl
@[go_sem] theorem elemS_3:bI 3=1:=rfl
@[go_sem] theorem elemS_29:bI 29=1:=rfl
@[go_sem] theorem elemS_59:bI 59=1:=rfl
@[go_sem] theorem elemS_50:bI 50=2:=rfl
@[go_sem] theorem elemS_52:bI 52=1:=rfl
@[go_sem] theorem make_28{k k':IntKind}{n n':Int}{S:St}{K:AV->St->Prop}:jr 28 (.int k n) (.int k' n') S K=((AV.int k n=.int k' n')/\(0<=n/\n<=1099511627776)/\aG S (fun b=>K (.sl 1 b 0 n.toNat) (S.upd b ⟨29,1,n.toNat,fun _=>.nil⟩))):=by
 simp only[jr,cX,eQ,bI,true_and];rfl
@[go_sem] theorem make_29{k k':IntKind}{n n':Int}{S:St}{K:AV->St->Prop}:jr 29 (.int k n) (.int k' n') S K=((AV.int k n=.int k' n')/\(0<=n/\n<=1099511627776)/\aG S (fun b=>K (.sl 1 b 0 n.toNat) (S.upd b ⟨2,1,n.toNat,fun _=>.int .i64 0⟩))):=by
 simp only[jr,cX,eQ,bI,true_and];rfl
@[go_sem] theorem make_52{k k':IntKind}{n n':Int}{S:St}{K:AV->St->Prop}:jr 52 (.int k n) (.int k' n') S K=((AV.int k n=.int k' n')/\(0<=n/\n<=1099511627776)/\aG S (fun b=>K (.sl 1 b 0 n.toNat) (S.upd b ⟨59,1,n.toNat,fun _=>.nil⟩))):=by
 simp only[jr,cX,eQ,bI,true_and];rfl
@[go_sem] theorem make_59{k k':IntKind}{n n':Int}{S:St}{K:AV->St->Prop}:jr 59 (.int k n) (.int k' n') S K=((AV.int k n=.int k' n')/\(0<=n/\n<=1099511627776)/\aG S (fun b=>K (.sl 2 b 0 n.toNat) (S.upd b ⟨50,2,n.toNat,fun _=>.big 0⟩))):=by
 simp only[jr,cX,eQ,bI,true_and];rfl
@[go_sem] theorem make_146{k k':IntKind}{n n':Int}{S:St}{K:AV->St->Prop}:jr 146 (.int k n) (.int k' n') S K=((AV.int k n=.int k' n')/\(0<=n/\n<=1099511627776)/\aG S (fun b=>K (.sl 1 b 0 n.toNat) (S.upd b ⟨3,1,n.toNat,fun _=>.int .i64 0⟩))):=by
 simp only[jr,cX,eQ,bI,true_and];rfl
@[go_sem] theorem make_216{k k':IntKind}{n n':Int}{S:St}{K:AV->St->Prop}:jr 216 (.int k n) (.int k' n') S K=((AV.int k n=.int k' n')/\(0<=n/\n<=1099511627776)/\aG S (fun b=>K (.sl 1 b 0 n.toNat) (S.upd b ⟨59,1,n.toNat,fun _=>.nil⟩))):=by
 simp only[jr,cX,eQ,bI,true_and];rfl
@[go_sem] theorem J5:eM 24 0=some (1,0):=rfl
@[go_sem] theorem J4:eM 24 1=some (1,1):=rfl
@[go_sem] theorem J3:eM 24 2=some (1,2):=rfl
@[go_sem] theorem J2:eM 24 3=some (1,3):=rfl
@[go_sem] theorem J1:eM 27 0=some (1,0):=rfl
@[go_sem] theorem J0:eM 27 1=some (1,4):=rfl
@[go_sem] theorem JZ:eM 27 2=some (1,5):=rfl
@[go_sem] theorem I7:eM 107 0=some (1,0):=rfl
@[go_sem] theorem I6:eM 107 1=some (1,1):=rfl
@[go_sem] theorem I5:eM 160 0=some (1,0):=rfl
@[go_sem] theorem I4:eM 160 1=some (1,1):=rfl
@[go_sem] theorem I3:eM 160 2=some (1,2):=rfl
@[go_sem] theorem I2:eM 160 3=some (1,3):=rfl
@[go_sem] theorem I1:eM 167 0=some (2,0):=rfl
@[go_sem] theorem I0:eM 167 1=some (2,1):=rfl
@[go_sem] theorem IZ:eM 183 0=some (1,0):=rfl
@[go_sem] theorem IY:eM 183 1=some (1,1):=rfl
@[go_sem] theorem IX:eM 197 0=some (2,0):=rfl
@[go_sem] theorem IW:eM 197 1=some (2,1):=rfl
@[go_sem] theorem IU:eM 197 2=some (2,2):=rfl
@[go_sem] theorem IT:eM 197 3=some (2,3):=rfl
@[go_sem] theorem IS:eM 197 4=some (2,5):=rfl
@[go_sem] theorem IR:eM 218 0=some (1,0):=rfl
@[go_sem] theorem IP:eM 218 1=some (1,1):=rfl
@[go_sem] theorem kindT_2:qx 2=some .i64:=rfl
@[go_sem] theorem kindT_3:qx 3=some .i64:=rfl
@[go_sem] theorem kindT_5:qx 5=some .u8:=rfl
@[go_sem] theorem kindT_34:qx 34=some .i64:=rfl
@[go_sem] theorem kindT_97:qx 97=some .u64:=rfl
@[go_sem] theorem srcT_2:wh 2=true:=rfl
@[go_sem] theorem srcT_3:wh 3=true:=rfl
@[go_sem] theorem srcT_5:wh 5=true:=rfl
@[go_sem] theorem srcT_25:wh 25=true:=rfl
@[go_sem] theorem srcT_41:wh 41=true:=rfl
@[go_sem] theorem srcT_97:wh 97=true:=rfl
@[go_sem] theorem box_2{x:AV}{S:St}{K:AV->St->Prop}:iK 2 x S K=(du 1 x/\aG S (fun b=>K (.ptr 1 b 0) (S.upd b ⟨2,1,1,fun _=>x⟩))):=rfl
@[go_sem] theorem box_3{x:AV}{S:St}{K:AV->St->Prop}:iK 3 x S K=(du 1 x/\aG S (fun b=>K (.ptr 1 b 0) (S.upd b ⟨3,1,1,fun _=>x⟩))):=rfl
@[go_sem] theorem box_4{x:AV}{S:St}{K:AV->St->Prop}:iK 4 x S K=(du 1 x/\aG S (fun b=>K (.ptr 1 b 0) (S.upd b ⟨4,1,1,fun _=>x⟩))):=rfl
@[go_sem] theorem box_5{x:AV}{S:St}{K:AV->St->Prop}:iK 5 x S K=(du 1 x/\aG S (fun b=>K (.ptr 1 b 0) (S.upd b ⟨5,1,1,fun _=>x⟩))):=rfl
@[go_sem] theorem box_22{x:AV}{S:St}{K:AV->St->Prop}:iK 22 x S K=(du 1 x/\aG S (fun b=>K (.ptr 1 b 0) (S.upd b ⟨22,1,1,fun _=>x⟩))):=rfl
@[go_sem] theorem box_25{x:AV}{S:St}{K:AV->St->Prop}:iK 25 x S K=(du 1 x/\aG S (fun b=>K (.ptr 1 b 0) (S.upd b ⟨25,1,1,fun _=>x⟩))):=rfl
@[go_sem] theorem box_28{x:AV}{S:St}{K:AV->St->Prop}:iK 28 x S K=(du 1 x/\aG S (fun b=>K (.ptr 1 b 0) (S.upd b ⟨28,1,1,fun _=>x⟩))):=rfl
@[go_sem] theorem box_29{x:AV}{S:St}{K:AV->St->Prop}:iK 29 x S K=(du 1 x/\aG S (fun b=>K (.ptr 1 b 0) (S.upd b ⟨29,1,1,fun _=>x⟩))):=rfl
@[go_sem] theorem box_34{x:AV}{S:St}{K:AV->St->Prop}:iK 34 x S K=(du 1 x/\aG S (fun b=>K (.ptr 1 b 0) (S.upd b ⟨34,1,1,fun _=>x⟩))):=rfl
@[go_sem] theorem box_41{x:AV}{S:St}{K:AV->St->Prop}:iK 41 x S K=(du 1 x/\aG S (fun b=>K (.ptr 1 b 0) (S.upd b ⟨41,1,1,fun _=>x⟩))):=rfl
@[go_sem] theorem box_52{x:AV}{S:St}{K:AV->St->Prop}:iK 52 x S K=(du 1 x/\aG S (fun b=>K (.ptr 1 b 0) (S.upd b ⟨52,1,1,fun _=>x⟩))):=rfl
@[go_sem] theorem box_59{x:AV}{S:St}{K:AV->St->Prop}:iK 59 x S K=(du 1 x/\aG S (fun b=>K (.ptr 1 b 0) (S.upd b ⟨59,1,1,fun _=>x⟩))):=rfl
@[go_sem] theorem box_97{x:AV}{S:St}{K:AV->St->Prop}:iK 97 x S K=(du 1 x/\aG S (fun b=>K (.ptr 1 b 0) (S.upd b ⟨97,1,1,fun _=>x⟩))):=rfl
@[go_sem] theorem box_146{x:AV}{S:St}{K:AV->St->Prop}:iK 146 x S K=(du 1 x/\aG S (fun b=>K (.ptr 1 b 0) (S.upd b ⟨146,1,1,fun _=>x⟩))):=rfl
@[go_sem] theorem box_158{x:AV}{S:St}{K:AV->St->Prop}:iK 158 x S K=(du 1 x/\aG S (fun b=>K (.ptr 1 b 0) (S.upd b ⟨158,1,1,fun _=>x⟩))):=rfl
@[go_sem] theorem box_192{x:AV}{S:St}{K:AV->St->Prop}:iK 192 x S K=(du 1 x/\aG S (fun b=>K (.ptr 1 b 0) (S.upd b ⟨192,1,1,fun _=>x⟩))):=rfl
@[go_sem] theorem box_216{x:AV}{S:St}{K:AV->St->Prop}:iK 216 x S K=(du 1 x/\aG S (fun b=>K (.ptr 1 b 0) (S.upd b ⟨216,1,1,fun _=>x⟩))):=rfl
@[go_sem] theorem box_50{x:AV}{S:St}{K:AV->St->Prop}:iK 50 x S K=(du 2 x/\aG S (fun b=>K (.ptr 2 b 0) (S.upd b ⟨50,2,1,fun _=>x⟩))):=rfl
@[go_sem] theorem box_167{l:List AV}{S:St}{K:AV->St->Prop}:iK 167 (.agg l) S K=(l.length=2/\(∀z∈l,du 2 z)/\aG S (fun b=>K (.ptr 2 b 0) (S.upd b ⟨167,2,2,fun j=>l.getD j .any⟩))):=rfl
@[go_sem] theorem box_195{l:List AV}{S:St}{K:AV->St->Prop}:iK 195 (.agg l) S K=(l.length=2/\(∀z∈l,du 2 z)/\aG S (fun b=>K (.ptr 2 b 0) (S.upd b ⟨195,2,2,fun j=>l.getD j .any⟩))):=rfl
@[go_sem] theorem box_197{l:List AV}{S:St}{K:AV->St->Prop}:iK 197 (.agg l) S K=(l.length=7/\(∀z∈l,du 2 z)/\aG S (fun b=>K (.ptr 2 b 0) (S.upd b ⟨197,2,7,fun j=>l.getD j .any⟩))):=rfl
@[go_sem] theorem box_24{l:List AV}{S:St}{K:AV->St->Prop}:iK 24 (.agg l) S K=(l.length=4/\(∀z∈l,du 1 z)/\aG S (fun b=>K (.ptr 1 b 0) (S.upd b ⟨24,1,4,fun j=>l.getD j .any⟩))):=rfl
@[go_sem] theorem box_27{l:List AV}{S:St}{K:AV->St->Prop}:iK 27 (.agg l) S K=(l.length=6/\(∀z∈l,du 1 z)/\aG S (fun b=>K (.ptr 1 b 0) (S.upd b ⟨27,1,6,fun j=>l.getD j .any⟩))):=rfl
@[go_sem] theorem box_107{l:List AV}{S:St}{K:AV->St->Prop}:iK 107 (.agg l) S K=(l.length=2/\(∀z∈l,du 1 z)/\aG S (fun b=>K (.ptr 1 b 0) (S.upd b ⟨107,1,2,fun j=>l.getD j .any⟩))):=rfl
@[go_sem] theorem box_160{l:List AV}{S:St}{K:AV->St->Prop}:iK 160 (.agg l) S K=(l.length=4/\(∀z∈l,du 1 z)/\aG S (fun b=>K (.ptr 1 b 0) (S.upd b ⟨160,1,4,fun j=>l.getD j .any⟩))):=rfl
@[go_sem] theorem box_183{l:List AV}{S:St}{K:AV->St->Prop}:iK 183 (.agg l) S K=(l.length=2/\(∀z∈l,du 1 z)/\aG S (fun b=>K (.ptr 1 b 0) (S.upd b ⟨183,1,2,fun j=>l.getD j .any⟩))):=rfl
@[go_sem] theorem box_218{l:List AV}{S:St}{K:AV->St->Prop}:iK 218 (.agg l) S K=(l.length=2/\(∀z∈l,du 1 z)/\aG S (fun b=>K (.ptr 1 b 0) (S.upd b ⟨218,1,2,fun j=>l.getD j .any⟩))):=rfl
@[go_sem] theorem bs_59{x:AV}{S:St}{K:AV->St->Prop}:cL 59 1 [(0,x)] S K=(du 2 x/\aG S (fun b=>K (.sl 2 b 0 1) (S.upd b ⟨50,2,1,fun j=>[x].getD j .any⟩))):=by
 simp only[cL,cX,bI];simp[dG,eQ,aG]
@[go_sem] theorem hbs_59{x z:AV}:dI 59 1 [(0,x)] z=(du 2 x/\z=.lst 2 1 (fun j=>[x].getD j .any)):=by
 simp only[dI,cX,bI];simp[dG,eQ]
@[go_sem] theorem bs_52{x:AV}{S:St}{K:AV->St->Prop}:cL 52 1 [(0,x)] S K=(du 1 x/\aG S (fun b=>K (.sl 1 b 0 1) (S.upd b ⟨59,1,1,fun j=>[x].getD j .any⟩))):=by
 simp only[cL,cX,bI];simp[dG,eQ,aG]
@[go_sem] theorem hbs_52{x z:AV}:dI 52 1 [(0,x)] z=(du 1 x/\z=.lst 1 1 (fun j=>[x].getD j .any)):=by
 simp only[dI,cX,bI];simp[dG,eQ]
@[go_sem] theorem bs_29{x:AV}{S:St}{K:AV->St->Prop}:cL 29 1 [(0,x)] S K=(du 1 x/\aG S (fun b=>K (.sl 1 b 0 1) (S.upd b ⟨2,1,1,fun j=>[x].getD j .any⟩))):=by
 simp only[cL,cX,bI];simp[dG,eQ,aG]
@[go_sem] theorem hbs_29{x z:AV}:dI 29 1 [(0,x)] z=(du 1 x/\z=.lst 1 1 (fun j=>[x].getD j .any)):=by
 simp only[dI,cX,bI];simp[dG,eQ]
@[go_sem] theorem bs_28{x:AV}{S:St}{K:AV->St->Prop}:cL 28 1 [(0,x)] S K=(du 1 x/\aG S (fun b=>K (.sl 1 b 0 1) (S.upd b ⟨29,1,1,fun j=>[x].getD j .any⟩))):=by
 simp only[cL,cX,bI];simp[dG,eQ,aG]
@[go_sem] theorem hbs_28{x z:AV}:dI 28 1 [(0,x)] z=(du 1 x/\z=.lst 1 1 (fun j=>[x].getD j .any)):=by
 simp only[dI,cX,bI];simp[dG,eQ]
@[go_sem] theorem bs_146{x:AV}{S:St}{K:AV->St->Prop}:cL 146 1 [(0,x)] S K=(du 1 x/\aG S (fun b=>K (.sl 1 b 0 1) (S.upd b ⟨3,1,1,fun j=>[x].getD j .any⟩))):=by
 simp only[cL,cX,bI];simp[dG,eQ,aG]
@[go_sem] theorem hbs_146{x z:AV}:dI 146 1 [(0,x)] z=(du 1 x/\z=.lst 1 1 (fun j=>[x].getD j .any)):=by
 simp only[dI,cX,bI];simp[dG,eQ]
@[go_sem] theorem bs_216{x:AV}{S:St}{K:AV->St->Prop}:cL 216 1 [(0,x)] S K=(du 1 x/\aG S (fun b=>K (.sl 1 b 0 1) (S.upd b ⟨59,1,1,fun j=>[x].getD j .any⟩))):=by
 simp only[cL,cX,bI];simp[dG,eQ,aG]
@[go_sem] theorem hbs_216{x z:AV}:dI 216 1 [(0,x)] z=(du 1 x/\z=.lst 1 1 (fun j=>[x].getD j .any)):=by
 simp only[dI,cX,bI];simp[dG,eQ]
attribute [go_sem] ev JU mU nB nE nF zn Bn J7 qV oO du CL sX og
attribute [go_sem] ne_eq not_false_eq_true true_and and_true if_true if_false Int.toNat_natCast Int.toNat_zero aC List.map_cons List.map_nil List.nil_append List.append_nil List.cons_append forall_const
 Int.natCast_nonneg List.toList_toArray List.length_cons List.length_nil
attribute [go_sem] eq_self true_implies false_implies bne_self_eq_false Bool.true_eq_false cE bN Option.bind_some exists_eq_left' exists_eq_left exists_and_left and_assoc or_false false_or false_and Ax List.take_succ_cons List.take_zero List.drop_succ_cons List.drop_zero List.isEmpty_nil List.isEmpty_cons Bool.false_eq_true nY wu Bool.and_self List.filterMap_cons List.filterMap_nil
 Bool.not_true Bool.not_false Bool.and_false Bool.and_true Nat.add_zero ah exists_const
section
variable {ops:Array Oper} {l:List Oper} {O:Tm} {S:St} {K:Tm->St->Prop} {o:Oper} {pend:List (Nat×dn)} {H:Tm->List (Nat×dn)->Prop} {z:AV} {d:Nat} {X:dn} {r:List (Nat×dn)}
theorem bG(q:Nat)(hok:uV ops q=true)(h:BB (ops.toList.take q) O S [] (fun O' pend=>if pend.isEmpty then zR ops (ops.toList.drop q) O' S K else rm pend (qG (ky (ops.toList.take q)) O') S (fun O S=>zR ops (ops.toList.drop q) O S K))):Fm ops O S K:=by
 rw[qa];rw[nQ,sf,rl]at h;exact bH ⟨q,hok,h⟩
theorem gR(q:Nat)(hok:DF ops q=true)(h:BB (ops.toList.take q) O S [] (fun O' pend=>pend.isEmpty=true/\zR ops (ops.toList.drop q) O' S K)):Fm ops O S K:=by
 rw[qa];rw[nQ,sf]at h;exact bD (bH ⟨q,hok,h⟩)
theorem ee(q:Nat)(js:List (List Nat))(hok:xQ ops q js=true)(h:BB (ops.toList.take q) O S [] (fun O' pend=>pend.isEmpty=true/\Km ops.toList js (ops.toList.drop q) O' S K)):Fm ops O S K:=by
 rw[qa];rw[nQ,zQ]at h;exact bD (bD (bH ⟨q,js,hok,h⟩))
theorem mT(q:Nat)(js:List (List Nat))(hok:xQ ops q js=true)(h:BB (ops.toList.take q) O S [] (fun O' pend=>rm pend (qG (ky (ops.toList.take q)) O') S (fun O S=>ka ops.toList O S (uN js)/\Km ops.toList js (ops.toList.drop q) O S K))):Fm ops O S K:=by
 rw[qa];rw[nQ,zQ,rl]at h;exact bD (bD (bD (bH ⟨q,js,hok,h⟩)))
def wb(ops:Array Oper)(o:Oper)(O:Tm)(S:St)(K:Tm->St->Prop):Prop:=match o.guard with
 | ac=>Hn o O S (fun z S'=>K (O.put o.dst z) S')
 | some (j,want)=>(match zT ops O j with
  | .bool b=>(b=want->Hn o O S (fun z S'=>K (O.put o.dst z) S'))/\(b=!want->K (O.put o.dst .any) S)
  | _=>False)
def stI(ops:Array Oper)(P:(Nat->Bool)->Tm->St->Prop):List Oper->Nat->Prop
 | [],_=>True
 | o::r,i=>(∀L O S,P L O S->L i=false->(aft o).all L=true->wb ops o O S (P (fun k=>if k=i then true else L k)))/\stI ops P r (i+1)
theorem Dc{ops:Array Oper}{P:(Nat->Bool)->Tm->St->Prop}:∀(l:List Oper) (i j:Nat) (o:Oper),stI ops P l i->l[j]? = some o->∀L O S,P L O S->L (i+j)=false->(∀k∈aft o,L k=true)->wH ops o O S (P (fun k=>if k=i+j then true else L k))
 | [],i,j,o,_,h=>by simp at h
 | p::r,i,0,o,h,ho=>by
  simp only[cE,Option.some.injEq]at ho;subst ho;intro L O S h1 h2 h3;have:=h.1 L O S h1 h2 (List.all_eq_true.2 h3);unfold wb at this;rw[sh]at this;exact this
 | p::r,i,j+1,o,h,ho=>by
  rw[bN]at ho;have:=Dc r (i+1) j o h.2 ho;rw[show i+1+j=i+(j+1) by omega]at this
  exact this
theorem xU(P:(Nat->Bool)->Tm->St->Prop)(hok:xW ops=true)(h0:P (fun _=>false) O S)(hs:stI ops P ops.toList 0)(he:∀L O S,P L O S->(∀i,i<ops.toList.length->L i=true)->K O S):Fm ops O S K:=by
 rw[qa];refine bD (bD (bD (bD ⟨P,hok,h0,fun i o ho=>?_,fun L O S h1 h2=>he L O S h1 (fun i hi=>h2 i (by simpa using hi))⟩)))
 have:=Dc ops.toList 0 i o hs (by simpa using ho)
 simp only[aC]at this;exact this
@[go_sem ↓] theorem awT_nil{os:List Oper}{js:List (List Nat)}:Km os js [] O S K=K O S:=by rw[zQ,Fq]
@[go_sem ↓] theorem awT_go{os:List Oper}{js:List (List Nat)}:Km os js (o::l) O S K=Hn o O S (fun z S'=>ka os (O.put o.dst z) S' (uN js)/\Km os (Gj js) l (O.put o.dst z) S' K):=by rw[zQ,sh,Fq]
@[go_sem] theorem jsHd_c{a:List Nat}{l:List (List Nat)}:uN (a::l)=a:=rfl
@[go_sem] theorem jsNx_1{a:List Nat}:Gj [a]=[a]:=rfl
@[go_sem] theorem jsNx_2{a b:List Nat}{l:List (List Nat)}:Gj (a::b::l)=b::l:=rfl
@[go_sem] theorem KQ{os:List Oper}:ka os O S []=True:=by rw[ka]
@[go_sem ↓] theorem JV{os:List Oper}{j:Nat}{js:List Nat}:ka os O S (j::js)=((match os[j]? with
  | some o=>(match o.dst with
   | some d=>wa o O S (O d)
   | ac=>False)
  | ac=>False)/\ka os O S js):=by rw[ka];rfl
@[go_sem ↓] theorem awH_nil:BB [] O S pend H=H O pend:=by rw[nQ,zh]
@[go_sem ↓] theorem awH_go:BB (o::l) O S pend H=(match o.op,o.dst with
  | .alloc t,some d=>(match kf t with
   | some X=>BB l (O.put (some d) .any) S (pend++[(d,X)]) H
   | ac=>False)
  | _,_=>∃z,wa o O S z/\BB l (O.put o.dst z) S pend H):=by rw[nQ,zh];rfl
@[go_sem ↓] theorem HOK_go:wa o O S z=((Ax o.op=true/\Hn o O S (fun z' S'=>z'=z/\S'=S))∨(match o.op with
 | .call c=>(match c.callee with
  | .value f=>Gu (ev O f) (c.args.toList.map (ev O)) S z
  | _=>False)
 | .buildSlice t n ps=>dI t n (ps.toList.map fun p=>(p.1,ev O p.2)) z
 | _=>False)):=by rw[wa,sh];rfl
@[go_sem ↓] theorem L8:rm [] O S K=K O S:=by rw[rl,lM]
@[go_sem ↓] theorem Ln:rm ((d,X)::r) O S K=aG S (fun b=>rm r (O.put (some d) (.ptr X.es b 0)) (S.upd b X) K):=by rw[rl,lM];rfl
@[go_sem] theorem L7:kf 50=some ⟨50,2,1,fun _=>.big 0⟩:=rfl
@[go_sem] theorem L6:kf 52=some ⟨52,1,1,fun _=>.nil⟩:=rfl
@[go_sem] theorem Lm:kf 167=some ⟨167,2,2,fun _=>.big 0⟩:=rfl
@[go_sem] theorem L3{ds:List Nat}{t:Nat}:qG ds O t=if ds.contains t&&!nY (O t)then .any else O t:=rfl
end
def tA(O:Tm):List Oper->Nat->AV
 | [],_=>.any
 | o::_,0=>(match o.dst with
  | some d=>O d
  | ac=>.any)
 | _::l,j+1=>tA O l j
theorem CX(O:Tm):∀(l:List Oper) (j:Nat),zT l.toArray O j=tA O l j
 | [],j=>by simp[zT,tA]
 | o::l,0=>by simp[zT,tA];rfl
 | o::l,j+1=>by
  have:=CX O l j;simp only[zT,tA,List.getElem?_toArray,bN]at this ⊢;exact this
@[go_sem] theorem yld_go{l:List Oper}{O:Tm}{j:Nat}:zT l.toArray O j=tA O l j:=CX O l j
@[go_sem] theorem LG{o:Oper}{l:List Oper}{O:Tm}:tA O (o::l) 0=(match o.dst with
  | some d=>O d
  | ac=>.any):=by rw[tA]
@[go_sem] theorem LH{o:Oper}{l:List Oper}{O:Tm}{j:Nat}:tA O (o::l) (j+1)=tA O l j:=by rw[tA]
def PF(f:Nat)(args:List AV)(z:AV):Prop :=
 ∀(w:World) (vs:List Value),a6 w oS args vs->Calls Tryz.prog f vs.toArray w (fun e w'=>∃v,e=.returned v/\a8 w' (fun b=>b<w.heap.size) z v/\co oS oS w w')
def VA(S:St)(x x':AV):Prop:=∀(w:World) (v:Value),dz w S->a8 w S.dom x v->a8 w oS x' v
def VR(S:St)(x x':AV):Prop:=∀(w:World) (v:Value),dz w S->a8 w S.dom x v->a8 w (fun b=>¬S.dom b) x' v
def dY(S:St):List AV->List AV->Prop
 | [],[]=>True
 | x::l,y::r=>VA S x y/\dY S l r
 | [],_::_=>False
 | _::_,[]=>False
theorem VA.refl(S:St)(x:AV):VA S x x:=fun _ _ _ h=>a8.turn (fun _ _ hk=>hk.elim) _ _ h
theorem VR.va{S:St}{x y:AV}(h:VR S x y):VA S x y:=fun w v hs hr=>a8.turn (fun _ _ hk=>hk.elim) _ _ (h w v hs hr)
theorem VR.mf{S:St}{x:AV}(h:nY x=true):VR S x x:=fun _ _ _ hr=>nr h hr
theorem tv{S:St}{w:World}(hs:dz w S):∀(l r:List AV) (vs:List Value),dY S l r->a6 w S.dom l vs->a6 w oS r vs
 | [],[],[],_,_=>by simp[a6]
 | x::l,y::r,v::vs,h,hr=>by simp only[a6]at hr ⊢;exact⟨h.1 w v hs hr.1,tv hs l r vs h.2 hr.2⟩
 | [],[],_::_,_,hr=>by simp[a6]at hr
 | _::_,_,[],_,hr=>by simp[a6]at hr
 | [],_::_,_,h,_=>h.elim
 | _::_,[],_,h,_=>h.elim
theorem cw(S:St):∀l,dY S l l
 | []=>trivial
 | x::l=>⟨VA.refl S x,cw S l⟩
theorem PF.pureS{f:Nat}{args args':List AV}{z:AV}{S:St}(h:PF f args' z)(hv:dY S args args'):rb f args S z:=by
 intro w vs hs hr;refine(h w vs (tv hs _ _ _ hv hr)).mono ?_;rintro e w' ⟨v,rfl,h1,h2⟩;exact⟨v,rfl,a8.turn (fun k _ hk=>by
  simp only[St.dom]at hk
  cases e:S k with
  | none=>exact absurd e hk
  | some X=>obtain⟨cs,h3,_⟩:=hs k X e;exact dE h3) _ _ h1,h2⟩
theorem PF.pure'{f:Nat}{args:List AV}{z:AV}{S:St}(h:PF f args z):rb f args S z:=h.pureS (cw S args)
theorem PF.spec{f:Nat}{args args':List AV}{z:AV}{S:St}(h:PF f args' z)(hv:dY S args args'){post:AV->St->Prop}(hp:post z S):cM f args S post:=(h.pureS hv).spec hp
theorem PF.call{f:Nat}{args:List AV}{z:AV}{S:St}(h:PF f args z){post:AV->St->Prop}(hp:post z S):cM f args S post:=h.pure'.spec hp
theorem vO.pf{f:Nat}{args:List AV}{z:AV}(hz:nY z=true)(h:vO f args z):PF f args z:=by
 intro w vs hr;refine(h St.none w vs (fun b x hx=>by simp[St.none]at hx) (a6.turn (fun _ _ hk=>absurd rfl hk) _ _ hr)).mono ?_
 rintro e w' ⟨v,rfl,h1,h2⟩;exact⟨v,rfl,nr hz h1,h2⟩
theorem PF.of_spec{f:Nat}{args:List AV}{z:AV}(h:cM f args St.none (fun r S'=>VR S' r z)):PF f args z:=by
 intro w vs hr;refine(h w vs (fun b x hx=>by simp[St.none]at hx) (a6.turn (fun _ _ hk=>absurd rfl hk) _ _ hr)).mono ?_
 rintro e w' ⟨v,r,S',rfl,h1,h2,h3,h4⟩;refine⟨v,rfl,a8.turn (fun k _ hk hd=>?_) _ _ (h1 w' v h3 h2),h4.os,h4.tape,h4.output,h4.size,fun k hk _=>h4.keep k hk (fun x=>x rfl),h4.shape,fun _ _ h=>h⟩;exact h4.own k hk hd rfl
def bB(S:St)(b ty es n:Nat)(g:Nat->AV):Prop:=∃g',S b=some ⟨ty,es,n,g'⟩/\∀i,i<n->g' i=g i
theorem bB.of{S:St}{b ty es n:Nat}{g:Nat->AV}(h:S b=some ⟨ty,es,n,g⟩):bB S b ty es n g:=⟨g,h,fun _ _=>rfl⟩
theorem bB.ne{S:St}{b c ty es n ty' es' n':Nat}{g g':Nat->AV}(h:bB S b ty es n g)(h':bB S c ty' es' n' g')(ht:ty≠ty'):b≠c:=by
 rintro rfl;obtain⟨x,h1,_⟩:=h;obtain⟨y,h2,_⟩:=h';rw[h1]at h2;cases h2;exact ht rfl
theorem bB.fresh{S:St}{b c ty es n:Nat}{g:Nat->AV}(h:bB S b ty es n g)(hc:S c=ac):b≠c:=by
 rintro rfl;obtain⟨x,h1,_⟩:=h;rw[h1]at hc;cases hc
theorem bB.upd{S:St}{b c ty es n:Nat}{g:Nat->AV}(h:bB S b ty es n g)(hc:b≠c)(X:dn):bB (S.upd c X) b ty es n g:=by
 obtain⟨x,h1,h2⟩:=h;exact⟨x,by rw[aQ hc];exact h1,h2⟩
theorem bB.here{S:St}{b ty es n:Nat}{g g':Nat->AV}(h:∀i,i<n->g' i=g i):bB (S.upd b ⟨ty,es,n,g'⟩) b ty es n g:=⟨g',bV,h⟩
theorem bB.congr{S:St}{b ty es n:Nat}{g g':Nat->AV}(h:bB S b ty es n g)(hg:∀i,i<n->g i=g' i):bB S b ty es n g':=by
 obtain⟨x,h1,h2⟩:=h;exact⟨x,h1,fun i hi=>(h2 i hi).trans (hg i hi)⟩
theorem VR.sl{S:St}{b ty es n off len:Nat}{g h:Nat->AV}(hh:bB S b ty es n g)(hn:off+len<=n)(hv:∀j,j<len->VR S (g (off+j)) (h j)):VR S (.sl es b off len) (.lst es len h):=by
 intro w v hs hr;obtain⟨g',hX,hg⟩:=hh;obtain⟨cs,h1,h2,h3,h4⟩:=hs b _ hX;simp only[a8]at hr ⊢;obtain⟨cap,cs',ty',fr',rfl,hc,_,_⟩:=hr;refine⟨_,cap,rfl,hc,fun h0=>⟨b,es*off,rfl,dE h1,fun hb=>hb (by simp[St.dom,hX]),fun j hj=>?_⟩⟩
 obtain⟨u,u1,u2⟩:=h3 (off+j) (by simp only;omega)
 refine⟨u,⟨cs,ty,(0,0),h1,by rw[<-Nat.mul_add];exact u1⟩,hv j hj w u hs ?_⟩
 rw[<-hg (off+j) om];exact u2
theorem VR.nil{S:St}{es:Nat}{h:Nat->AV}:VR S .nil (.lst es 0 h):=by
 intro w v hs hr;simp only[a8]at hr ⊢;subst hr;exact⟨_,0,rfl,ah _,fun h0=>absurd h0 om⟩
def bn(n:Nat)(r:Nat->Int):AV:=.lst 2 n (fun j=>.big (r j))
def aV(n m:Nat)(A:Nat->Nat->Int):AV:=.lst 1 n (fun i=>bn m (A i))
def bJ(n:Nat)(r:Nat->Int):AV:=.lst 1 n (fun j=>.int .i64 (r j))
def aK(n m:Nat)(A:Nat->Nat->Int):AV:=.lst 1 n (fun i=>bJ m (A i))
def gV(S:St)(b n:Nat)(r:Nat->Int):Prop:=bB S b 50 2 n (fun j=>.big (r j))
def nO(S:St)(b n:Nat)(r:Nat->Int):Prop:=bB S b 2 1 n (fun j=>.int .i64 (r j))
structure cS(S:St)(b:Nat)(g:Nat->Nat)(n m:Nat)(A:Nat->Nat->Int):Prop where
 outer:bB S b 59 1 n (fun i=>.sl 2 (g i) 0 m)
 row:∀i,i<n->gV S (g i) m (A i)
 inj:∀i j,i<n->j<n->g i=g j->i=j
structure dD(S:St)(b:Nat)(g:Nat->Nat)(n m:Nat)(A:Nat->Nat->Int):Prop where
 outer:bB S b 29 1 n (fun i=>.sl 1 (g i) 0 m)
 row:∀i,i<n->nO S (g i) m (A i)
 inj:∀i j,i<n->j<n->g i=g j->i=j
theorem gV.vr{S:St}{b n:Nat}{r:Nat->Int}(h:gV S b n r):VR S (.sl 2 b 0 n) (bn n r):=VR.sl h om (fun j _=>by rw[aC];exact VR.mf rfl)
theorem nO.vr{S:St}{b n:Nat}{r:Nat->Int}(h:nO S b n r):VR S (.sl 1 b 0 n) (bJ n r):=VR.sl h om (fun j _=>by rw[aC];exact VR.mf rfl)
theorem cS.vr{S:St}{b:Nat}{g:Nat->Nat}{n m:Nat}{A:Nat->Nat->Int}(h:cS S b g n m A):VR S (.sl 1 b 0 n) (aV n m A):=VR.sl h.outer om (fun j hj=>by rw[aC];exact(h.row j hj).vr)
theorem dD.vr{S:St}{b:Nat}{g:Nat->Nat}{n m:Nat}{A:Nat->Nat->Int}(h:dD S b g n m A):VR S (.sl 1 b 0 n) (aK n m A):=VR.sl h.outer om (fun j hj=>by rw[aC];exact(h.row j hj).vr)
theorem i64_in{a:Int}(h1:-9223372036854775808<=a)(h2:a<=9223372036854775807):IntKind.i64.wrap a=a:=IntWalk.i64_in a ⟨h1,h2⟩
theorem dq{a:Int}{n:Nat}(h:a=n)(hn:n<=4611686018427387904):IntKind.i64.wrap a=(n:Int):=by rw[h];exact i64_in om om
end Go.Proofs.YtdobfmlmenaajaaGreatDoor
