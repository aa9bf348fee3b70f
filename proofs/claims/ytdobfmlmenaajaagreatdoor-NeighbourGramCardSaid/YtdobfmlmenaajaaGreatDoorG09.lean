/-
  Lemmas for NeighbourGram.
-/
import Derived.Test.YtdobfmlmenaajaaGreatDoorG08
namespace Go.Proofs.YtdobfmlmenaajaaGreatDoor
open Go.RowKit Tryz
open _root_.Classical renaming choose→c9
open _root_.Option renaming none→ab
open Tryz renaming prog→ah
set_option maxHeartbeats 6400000
set_option maxRecDepth 4096
set_option linter.all false
variable{x z:AV}{post:AV->St->Prop}{R:Array ResultVar}{c:Code}{a prev za:Int}{args args':List AV}{N b es f i j k m n ty:Nat}{g g' h:Nat->AV}{r:Nat->Int}{A:Nat->Nat->Int}{K:Nat->Prop}{p q:Prop}{S:St}{α:Type}
def dl.below{w w':World}(h:Below w.heap.size w w'):dl AI AI w w' :=
 ⟨h.os,h.tape,h.output,h.size,fun k b _=>h.block k b,fun k cs ty fr a=>⟨cs,by rw[h.block k (fP a)];exact a,rfl⟩,fun _ _ h=>h⟩
def BZ(f:Nat)(args:List AV)(z:AV):Prop:=∀S,tM f args S z
def Ra{zb z:Int}(h:∀va vb B w,B<=w.heap.size->er w B va za->er w B vb zb->Calls ah f #[va,vb] w (dD w z)):BZ f [.big za,.big zb] (.big z):=by
 intro S w vs d a
 match vs,a with
 | [va,vb],a =>
  simp only[aW,bn]at a;refine(h va vb w.heap.size w (ae _) a.1 a.2.1).mono ?_;rintro e w' ⟨v,rfl,b,c⟩;exact⟨v,rfl,by simpa [bn]using b,dl.below c⟩
 | [],a=>simp[aW]at a
 | [_],a=>simp[aW]at a
 | _::_::_::_,a=>simp[aW]at a
def Rb{z:Int}(h:∀va B w,B<=w.heap.size->er w B va za->Calls ah f #[va] w (dD w z)):BZ f [.big za] (.big z):=by
 intro S w vs d a
 match vs,a with
 | [va],a =>
  simp only[aW,bn]at a;refine(h va w.heap.size w (ae _) a.1).mono ?_;rintro e w' ⟨v,rfl,b,c⟩;exact⟨v,rfl,by simpa [bn]using b,dl.below c⟩
 | [],a=>simp[aW]at a
 | _::_::_,a=>simp[aW]at a
def tM.spec(h:tM f args S z){post:AV->St->Prop}(c:post z S):cE f args S post:=by
 intro w vs a d;refine(h w vs a d).mono ?_;rintro e w' ⟨v,rfl,g,b⟩;exact⟨v,z,S,rfl,c,g,a.frozen b,b.any _⟩
def jK(x:α):∃y:α,y=x:=⟨x,rfl⟩
noncomputable def Aw:Code->(AX->Tm->St->Prop)->Tm->St->Prop:=c9 (jK aw)
def o0:Aw=aw:=cS (jK aw)
noncomputable def DB:Array Oper->List Oper->Tm->St->(Tm->St->Prop)->Prop:=c9 (jK Fh)
def vO:DB=Fh:=cS (jK Fh)
noncomputable def KL:Array Oper->Tm->St->(Tm->St->Prop)->Prop:=c9 (jK Ps)
def sv:KL=Ps:=cS (jK Ps)
noncomputable def FE:List Oper->Tm->St->List (Nat×eE)->(Tm->List (Nat×eE)->Prop)->Prop:=c9 (jK FK)
def pM:FE=FK:=cS (jK FK)
noncomputable def QS:List Oper->List (List Nat)->List Oper->Tm->St->(Tm->St->Prop)->Prop:=c9 (jK Pp)
def DA:QS=Pp:=cS (jK Pp)
noncomputable def Nq:Oper->Tm->St->(AV->St->Prop)->Prop:=c9 (jK zO)
def vP:Nq=zO:=cS (jK zO)
noncomputable def t8:List (Nat×eE)->Tm->St->(Tm->St->Prop)->Prop:=c9 (jK nO)
def t7:t8=nO:=cS (jK nO)
structure Nl{α:Type}(x:α):Type where
structure Dep2{α β:Type}(x:α)(y:β):Type where
def aG(S:St)(K:Nat->Prop)(_u:Nl K:=⟨⟩):Prop:=∀b,S b=ab->K b
def QA(f:Nat)(args:List AV)(S:St)(K:AV->St->Prop)(_u:Nl K:=⟨⟩):Prop:=cE f args S K
def zT(t t':TypeId)(s x:AV)(S:St)(K:AV->St->Prop)(_u:Nl K:=⟨⟩):Prop:=fG t t' s x S K
def Kp(t:TypeId)(s x:AV)(S:St)(K:AV->St->Prop)(_u:Nl K:=⟨⟩):Prop:=nr t s x S K
def zQ(t:TypeId)(s x:AV)(S:St)(K:AV->St->Prop)(_u:Nl K:=⟨⟩):Prop:=rH t s x S K
noncomputable def AwDK(ops:Array Oper)(O:Tm)(S:St)(K:Tm->St->Prop)(_u:Dep2 ops K:=⟨⟩):Prop:=KL ops O S K
noncomputable def AwLK(c:Code)(Q:AX->Tm->St->Prop)(O:Tm)(S:St)(_u:Dep2 c Q:=⟨⟩):Prop:=Aw (.loop c) Q O S
def aG.intro(h:∀b,S b=ab->K b):aG S K:=h
def gd(y:AV)(want:Bool)(A B:Prop):Prop:=match y with
 | .bool b=>if b=want then A else B
 | _=>False
def cd(y:AV)(A B:Prop):Prop:=match y with
 | .bool b=>if b=true then A else B
 | _=>False
def zN(c x y:AV)(K:AV->Prop):Prop:=match c with
 | .bool t=>K (if t then x else y)
 | _=>False
def Pv(x:AV)(K:AV->Prop):Prop:=match x with
 | .ptr es b i=>K (.ptr es b i)
 | .pat es y=>K (.pat es y)
 | _=>False
def IZ(x:AV)(i:Nat)(K:AV->Prop):Prop:=match x with
 | .tup l=>(match l[i]? with
  | some z=>K z
  | ab=>False)
 | _=>False
def Dk(f:AV)(args:List AV)(S:St)(K:AV->St->Prop):Prop:=match f with
 | .fn f l=>((11<=f/\f<270)/\f≠252/\f≠253)/\QA f (args++l) S K
 | .mfn f l=>((11<=f/\f<270)/\f≠252/\f≠253)/\QA f (l++args) S K
 | _=>False
def Mm(f:AV)(args:List AV)(S:St)(z:AV):Prop:=match f with
 | .fn f l=>((11<=f/\f<270)/\f≠252/\f≠253)/\tM f (args++l) S z
 | _=>False
@[congr] theorem gd_congr{y y':AV}{b:Bool}{A B:Prop}(h:y=y'):gd y b A B=gd y' b A B:=by rw[h]
@[congr] theorem cd_congr{y y':AV}{A B:Prop}(h:y=y'):cd y A B=cd y' A B:=by rw[h]
@[congr] theorem Qn{c c' x x' y y':AV}{K:AV->Prop}(h:c=c')(h2:x=x')(h3:y=y'):zN c x y K=zN c' x' y' K:=by rw[h,h2,h3]
@[congr] theorem R0{x x':AV}{K:AV->Prop}(h:x=x'):Pv x K=Pv x' K:=by rw[h]
@[congr] theorem Qq{x x':AV}{i:Nat}{K:AV->Prop}(h:x=x'):IZ x i K=IZ x' i K:=by rw[h]
@[congr] theorem PC{f f':AV}{l l':List AV}{S:St}{K:AV->St->Prop}(h:f=f')(h2:l=l'):Dk f l S K=Dk f' l' S K:=by rw[h,h2]
@[go_sem] theorem gd_tt{A B:Prop}:gd (.bool true) true A B=A:=by simp[gd]
@[go_sem] theorem gd_ff{A B:Prop}:gd (.bool false) false A B=A:=by simp[gd]
@[go_sem] theorem gd_tf{A B:Prop}:gd (.bool true) false A B=B:=by simp[gd]
@[go_sem] theorem gd_ft{A B:Prop}:gd (.bool false) true A B=B:=by simp[gd]
@[go_sem] theorem cd_t{A B:Prop}:cd (.bool true) A B=A:=by simp[cd]
@[go_sem] theorem cd_f{A B:Prop}:cd (.bool false) A B=B:=by simp[cd]
@[go_sem] theorem aPick_t{x y:AV}{K:AV->Prop}:zN (.bool true) x y K=K x:=by simp[zN]
@[go_sem] theorem aPick_f{x y:AV}{K:AV->Prop}:zN (.bool false) x y K=K y:=by simp[zN]
attribute [go_sem] Pv IZ Dk Mm si
section
variable {O O':Tm} {S:St} {K1:AV->Prop} {K2:AV->St->Prop} {K3:Tm->St->Prop} {KS:St->Prop} {x x' y y':AV} {t t2 f:Nat}
@[congr] theorem SF{c:Code}{Q:AX->Tm->St->Prop}(h:O=O'):Aw c Q O S=Aw c Q O' S:=by rw[h]
@[congr] theorem RS{ops:Array Oper}{l:List Oper}(h:O=O'):DB ops l O S K3=DB ops l O' S K3:=by rw[h]
@[congr] theorem RV{ops:Array Oper}(h:O=O'):KL ops O S K3=KL ops O' S K3:=by rw[h]
@[congr] theorem RU{l:List Oper}{pend pend':List (Nat×eE)}{H:Tm->List (Nat×eE)->Prop}(h:O=O')(hp:pend=pend'):FE l O S pend H=FE l O' S pend' H:=by rw[h,hp]
@[congr] theorem RR{ops l:List Oper}{js:List (List Nat)}(h:O=O'):QS ops js l O S K3=QS ops js l O' S K3:=by rw[h]
@[congr] theorem Pt{pend pend':List (Nat×eE)}(h:O=O')(hp:pend=pend'):t8 pend O S K3=t8 pend' O' S K3:=by rw[h,hp]
@[congr] theorem RZ{o:Oper}(h:O=O'):Nq o O S K2=Nq o O' S K2:=by rw[h]
@[congr] theorem PA{c:Call}(h:O=O'):tF O c S K2=tF O' c S K2:=by rw[h]
@[congr] theorem Ny:mw t S K2=mw t S K2:=rfl
@[congr] theorem Qr(h:x=x'):jW t x S K2=jW t x' S K2:=by rw[h]
@[congr] theorem Pw(h:x=x')(h2:y=y'):kZ t x y S K2=kZ t x' y' S K2:=by rw[h,h2]
@[congr] theorem Px(h:x=x'):oV t x S K1=oV t x' S K1:=by rw[h]
@[congr] theorem Nt(h:x=x')(h2:y=y'):pB t x y S KS=pB t x' y' S KS:=by rw[h,h2]
@[congr] theorem Nv(h:x=x')(h2:y=y'):pC t x y K1=pC t x' y' K1:=by rw[h,h2]
@[congr] theorem Nw(h:x=x'):pD t x f K1=pD t x' f K1:=by rw[h]
@[congr] theorem Qo(h:x=x'):Dg t x K1=Dg t x' K1:=by rw[h]
@[congr] theorem Qs{op:BinOp}(h:x=x')(h2:y=y'):Fp op t x y K1=Fp op t x' y' K1:=by rw[h,h2]
@[congr] theorem RY{op:UnOp}(h:x=x'):Ql op x K1=Ql op x' K1:=by rw[h]
@[congr] theorem Pz(h:x=x'):tE t t2 x K1=tE t t2 x' K1:=by rw[h]
@[congr] theorem Nx{ps ps':List (Nat×AV)}(h:ps=ps'):qI t ps K1=qI t ps' K1:=by rw[h]
@[congr] theorem G4{n:Nat}{ps ps':List (Nat×AV)}(h:ps=ps'):dz t n ps S K2=dz t n ps' S K2:=by rw[h]
@[congr] theorem Nu{lo lo' hi hi' mx mx':Option AV}(h:x=x')(h1:lo=lo')(h2:hi=hi')(h3:mx=mx'):kP t x lo hi mx K1=kP t x' lo' hi' mx' K1:=by rw[h,h1,h2,h3]
@[congr] theorem M0(h:x=x')(h2:y=y'):fG t t2 x y S K2=fG t t2 x' y' S K2:=by rw[h,h2]
@[congr] theorem Py(h:x=x')(h2:y=y'):rH t x y S K2=rH t x' y' S K2:=by rw[h,h2]
@[congr] theorem Qm{rs:List ResultVar}{K:List AV->Prop}(h:O=O'):wY rs O S K=wY rs O' S K:=by rw[h]
@[congr] theorem Qp{rs:List ResultVar}{e:AX}(h:O=O'):Dj rs K2 e O S=Dj rs K2 e O' S:=by rw[h]
@[congr] theorem PN{args args':List AV}{z:AV}(h:args=args'):tM f args S z=tM f args' S z:=by rw[h]
end
section
variable {Q:AX->Tm->St->Prop} {O:Tm} {S:St} {x y c:Code} {id i:Nat} {ops:Array Oper} {K:Tm->St->Prop} {H:AV->St->Prop} {l:List Oper} {o:Oper}
@[go_sem ↓] theorem aw_skip:Aw .skip Q O S=Q .normal O S:=by rw[o0,aw]
@[go_sem ↓] theorem RQ:Aw (.region id ops false) Q O S=DB ops ops.toList O S (Q .normal):=by rw[o0,vO,aw]
@[go_sem ↓] theorem aw_draw:Aw (.region id ops true) Q O S=AwDK ops O S (Q .normal):=by unfold AwDK;rw[o0,sv,aw]
@[go_sem ↓] theorem aw_lp:Aw (.loop c) Q O S=AwLK c Q O S:=rfl
@[go_sem ↓] theorem MP:Aw (.seq x y) Q O S=Aw x (AX.seq (Aw y Q) Q) O S:=by rw[o0,aw]
@[go_sem ↓] theorem aw_block:Aw (.block id c) Q O S=Aw c (AX.blk id Q) O S:=by rw[o0,aw]
@[go_sem ↓] theorem aw_exit:Aw (.exit id) Q O S=Q (.exit id) O S:=by rw[o0,aw]
@[go_sem ↓] theorem aw_scope:Aw (.scope x) Q O S=Aw x Q O S:=by rw[o0,aw]
@[go_sem ↓] theorem aw_label{l:Nat}:Aw (.label l) Q O S=Q .normal O S:=by rw[o0,aw]
@[go_sem ↓] theorem aw_ret:Aw .ret Q O S=Q .ret O S:=by rw[o0,aw]
@[go_sem ↓] theorem yF:AX.seq K Q .normal=K:=rfl
@[go_sem ↓] theorem seq_ret:AX.seq K Q .ret=Q .ret:=rfl
@[go_sem ↓] theorem seq_exit:AX.seq K Q (.exit i)=Q (.exit i):=rfl
@[go_sem ↓] theorem RN:AX.blk id Q .normal=Q .normal:=rfl
@[go_sem ↓] theorem blk_ret:AX.blk id Q .ret=Q .ret:=rfl
@[go_sem ↓] theorem MM:AX.blk id Q (.exit i)=if i=id then Q .normal else Q (.exit i):=rfl
@[go_sem ↓] theorem awL_nil:DB ops [] O S K=K O S:=by rw[vO,Fh]
def aH(I:Tm->St->Prop)(μ:Tm->St->Nat)(a:I O S)(b:∀O S,I O S->Aw c (AX.seq (fun O' S'=>I O' S'/\μ O' S' < μ O S) Q) O S):Aw (.loop c) Q O S:=by
 rw[o0]at *;exact⟨I,μ,a,b⟩
end
def OH{b c:Bool}:((b=c->p)/\(b=!c->q))=if b=c then p else q:=by
 cases b<;>cases c<;>simp
def Mg{b:Bool}:((b=true->p)/\(b=false->q))=if b=true then p else q:=by
 cases b<;>simp
@[go_sem ↓] theorem GY{e:Operand}{x y:Code}{Q:AX->Tm->St->Prop}{O:Tm}{S:St}:Aw (.cond e x y) Q O S=cd (ev O e) (Aw x Q O S) (Aw y Q O S):=by
 rw[o0,aw];unfold cd
 cases ev O e<;>first|rfl|exact Mg
@[go_sem ↓] theorem awL_go{ops:Array Oper}{l:List Oper}{O:Tm}{S:St}{K:Tm->St->Prop}{o:Oper}:DB ops (o::l) O S K=(match o.guard with
  | ab=>Nq o O S (fun z S'=>DB ops l (O.put o.dst z) S' K)
  | some (j,want)=>gd (DD ops O j) want (Nq o O S (fun z S'=>DB ops l (O.put o.dst z) S' K)) (DB ops l (O.put o.dst .any) S K)):=by
 rw[vO,vP,Fh]
 cases o.guard with
 | none=>rfl
 | some p =>
  obtain⟨j,want⟩:=p;simp only[gd]
  cases DD ops O j<;>first|rfl|exact OH
@[go_sem ↓] theorem aCall_go{O:Tm}{c:Call}{S:St}{K:AV->St->Prop}:tF O c S K=(match c.callee with
 | .value f=>Dk (ev O f) (c.args.toList.map (ev O)) S K
 | .builtin .len=>(match c.args.toList,c.argTypes.toList with
  | [x],[t]=>Dg t (ev O x) (fun z=>K z S)
  | _,_=>False)
 | .builtin .max=>(match c.args.toList with
  | [x,y]=>MZ (ev O x) (ev O y) (fun z=>K z S)
  | _=>False)
 | .builtin .append=>(match c.args.toList,c.argTypes.toList with
  | [s,x],[t,t']=>if t'=3 then Kp t (ev O s) (ev O x) S K else zT t t' (ev O s) (ev O x) S K
  | _,_=>False)
 | .builtin .copy=>(match c.args.toList,c.argTypes.toList with
  | [s,x],[t,_]=>zQ t (ev O s) (ev O x) S K
  | _,_=>False)
 | _=>False):=rfl
@[go_sem ↓] theorem AOp_go{o:Oper}{O:Tm}{S:St}{K:AV->St->Prop}:Nq o O S K=(match o.op with
  | .move x=>K (ev O x) S
  | .assign x=>K (ev O x) S
  | .pick c x y=>zN (ev O c) (ev O x) (ev O y) (fun z=>K z S)
  | .alloc t=>mw t S K
  | .box t x=>jW t (ev O x) S K
  | .build t ps=>qI t (ps.toList.map fun p=>(p.1,ev O p.2)) (fun z=>K z S)
  | .buildSlice t n ps=>dz t n (ps.toList.map fun p=>(p.1,ev O p.2)) S K
  | .load t x=>oV t (ev O x) S (fun z=>K z S)
  | .store t x y=>pB t (ev O x) (ev O y) S (fun S'=>K .any S')
  | .nilCheck x=>Pv (ev O x) (fun z=>K z S)
  | .binOp op t x y _=>Fp op t (ev O x) (ev O y) (fun z=>K z S)
  | .unOp op _ x=>Ql op (ev O x) (fun z=>K z S)
  | .convert s d x=>tE s d (ev O x) (fun z=>K z S)
  | .makeFunc (.func f) fi cs=>si f (fi.toList.map (ev O)) (cs.toList.map (ev O)) (fun z=>K z S)
  | .makeSlice t x y=>kZ t (ev O x) (ev O y) S K
  | .slice t x lo hi mx=>kP t (ev O x) (lo.map (ev O)) (hi.map (ev O)) (mx.map (ev O)) (fun z=>K z S)
  | .fieldAddr t x f=>pD t (ev O x) f (fun z=>K z S)
  | .indexAddr t x i=>pC t (ev O x) (ev O i) (fun z=>K z S)
  | .index t x i=>Dh t (ev O x) (ev O i) (fun z=>K z S)
  | .extract x i=>IZ (ev O x) i (fun z=>K z S)
  | .call c=>tF O c S K
  | _=>False):=by rw[vP,zO]<;>rfl
def ib{fn:Func}(d:ah.funcs[f]? = some fn)(e:fn.body=some c){args:List AV}{S:St}{post:AV->St->Prop}(N:Nat)(g:fn.ntmps=N)(b:iS N c=true)(a:args.length<=N)
  (h:Aw c (Dj fn.results.toList post) (Jn args) S):cE f args S post:=oa d e N g b a (by rw[o0]at h;exact h)
def Bj{fn:Func}(e:ah.funcs[f]? = some fn)(g:fn.body=some c){args:List AV}{S:St}{post:AV->St->Prop}(N:Nat)(i:fn.ntmps=N)(b:iS N c=true)(a:args.length<=N)(d:fn.results.size≠0)
  (h:Aw c (Dj fn.results.toList post) (Jn args) S):cE f args S post:=Cw e g N i b a d (by rw[o0]at h;exact h)
@[go_sem] theorem Od{O:Tm}{d:Nat}{x:AV}:O.put (some d) x d=x:=by simp[Tm.put_eq]
@[go_sem] theorem LI{O:Tm}{d t:Nat}{x:AV}(h:t≠d):O.put (some d) x t=O t:=by simp[Tm.put_eq,h]
@[go_sem] theorem LH{O:Tm}{x:AV}:O.put ab x=O:=by rw[Tm.put_eq]
noncomputable def Nr(k:Nat):List AV->Tm
 | []=>fun _=>.any
 | a::l=>(Nr (k+1) l).put (some k) a
theorem Lp:∀(l:List AV) (k t:Nat),Nr k l t=if k<=t then l.getD (t-k) .any else .any
 | [],k,t=>by simp[Nr]
 | a::l,k,t=>by
  simp only[Nr,Tm.put_eq];by_cases e:t=k
  .subst e;simp
  .rw[af e,Lp l (k+1) t];by_cases h:k<=t
   .rw[ai om,ai h,(om:t-k=(t-(k+1))+1)];simp
   .rw[af om,af h]
def lg(l:List AV):Jn l=Nr 0 l:=by funext t;rw[Lp];simp[Jn]
def jr{fn:Func}(g:ah.funcs[f]? = some fn)(i:fn.ntmps=N)(e:fn.results=R)
  (h:Aw c (Dj R.toList post) (Nr 0 args) S) (j:fn.body=some c:=by exact rfl) (b:iS N c=true:=by kernel_rfl) (a:args.length<=N:=by simp) (d:R.size≠0:=by simp):cE f args S post :=
 Bj g j N i b a (by rw[e];exact d) (by rw[e,lg];exact h)
@[go_sem] theorem tmP_nil{k:Nat}:Nr k []=fun _=>.any:=rfl
@[go_sem] theorem tmP_cons{k:Nat}{a:AV}{l:List AV}:Nr k (a::l)=(Nr (k+1) l).put (some k) a:=rfl
@[go_sem ↓] theorem alloc50{S:St}{K:AV->St->Prop}:mw 50 S K=aG S (fun b=>K (.ptr 2 b 0) (S.upd b ⟨50,2,1,fun _=>.big 0⟩)):=rfl
@[go_sem ↓] theorem alloc52{S:St}{K:AV->St->Prop}:mw 52 S K=aG S (fun b=>K (.ptr 1 b 0) (S.upd b ⟨52,1,1,fun _=>.nil⟩)):=rfl
@[go_sem ↓] theorem alloc4{S:St}{K:AV->St->Prop}:mw 4 S K=aG S (fun b=>K (.ptr 1 b 0) (S.upd b ⟨4,1,1,fun _=>.bool false⟩)):=rfl
@[go_sem ↓] theorem alloc167{S:St}{K:AV->St->Prop}:mw 167 S K=aG S (fun b=>K (.ptr 2 b 0) (S.upd b ⟨167,2,2,fun _=>.big 0⟩)):=rfl
@[go_sem] theorem ci{S:St}{b:Nat}{X:eE}:S.upd b X b=some X:=by simp[St.upd]
@[go_sem] theorem aN{S:St}{b c:Nat}{X:eE}(h:c≠b):S.upd b X c=S c:=by simp[St.upd,h]
@[go_sem] theorem slots_2:eK 2=some (1,1):=rfl
@[go_sem] theorem slots_3:eK 3=some (1,1):=rfl
@[go_sem] theorem slots_4:eK 4=some (1,1):=rfl
@[go_sem] theorem slots_5:eK 5=some (1,1):=rfl
@[go_sem] theorem slots_22:eK 22=some (1,1):=rfl
@[go_sem] theorem slots_25:eK 25=some (1,1):=rfl
@[go_sem] theorem slots_28:eK 28=some (1,1):=rfl
@[go_sem] theorem slots_29:eK 29=some (1,1):=rfl
@[go_sem] theorem slots_34:eK 34=some (1,1):=rfl
@[go_sem] theorem slots_48:eK 48=some (1,1):=rfl
@[go_sem] theorem Qb:fR 50 0=ab:=rfl
@[go_sem] theorem Qa:fR 50 1=ab:=rfl
@[go_sem] theorem elemT_48:dB 48=ab:=rfl
@[go_sem] theorem slots_41:eK 41=some (1,1):=rfl
@[go_sem] theorem slots_52:eK 52=some (1,1):=rfl
@[go_sem] theorem slots_59:eK 59=some (1,1):=rfl
@[go_sem] theorem slots_97:eK 97=some (1,1):=rfl
@[go_sem] theorem Su:eK 146=some (1,1):=rfl
@[go_sem] theorem Ss:eK 158=some (1,1):=rfl
@[go_sem] theorem Sn:eK 192=some (1,1):=rfl
@[go_sem] theorem Sk:eK 216=some (1,1):=rfl
@[go_sem] theorem slots_50:eK 50=some (2,1):=rfl
@[go_sem] theorem Sq:eK 167=some (2,2):=rfl
@[go_sem] theorem Sm:eK 195=some (2,2):=rfl
@[go_sem] theorem Sl:eK 197=some (2,7):=rfl
@[go_sem] theorem slots_24:eK 24=some (1,4):=rfl
@[go_sem] theorem slots_27:eK 27=some (1,6):=rfl
@[go_sem] theorem Sv:eK 107=some (1,2):=rfl
@[go_sem] theorem Sr:eK 160=some (1,4):=rfl
@[go_sem] theorem Sp:eK 183=some (1,2):=rfl
@[go_sem] theorem Sj:eK 218=some (1,2):=rfl
@[go_sem] theorem elemT_22:dB 22=some 41:=rfl
@[go_sem] theorem elemS_41:bP 41=1:=rfl
@[go_sem] theorem elemT_28:dB 28=some 29:=rfl
@[go_sem] theorem elemT_29:dB 29=some 2:=rfl
@[go_sem] theorem elemT_52:dB 52=some 59:=rfl
@[go_sem] theorem elemT_59:dB 59=some 50:=rfl
@[go_sem] theorem SC:dB 146=some 3:=rfl
@[go_sem] theorem SB:dB 192=some 52:=rfl
@[go_sem] theorem SA:dB 216=some 59:=rfl
@[go_sem] theorem elemS_2:bP 2=1:=rfl
@[go_sem] theorem elemS_3:bP 3=1:=rfl
@[go_sem] theorem elemS_29:bP 29=1:=rfl
@[go_sem] theorem elemS_59:bP 59=1:=rfl
@[go_sem] theorem elemS_50:bP 50=2:=rfl
@[go_sem] theorem elemS_52:bP 52=1:=rfl
@[go_sem] theorem make_28{k k':IntKind}{n n':Int}{S:St}{K:AV->St->Prop}:kZ 28 (.int k n) (.int k' n') S K=((AV.int k n=.int k' n')/\(0<=n/\n<=1099511627776)/\aG S (fun b=>K (.sl 1 b 0 n.toNat) (S.upd b ⟨29,1,n.toNat,fun _=>.nil⟩))):=by
 simp only[kZ,dB,fU,bP,jO];rfl
@[go_sem] theorem make_29{k k':IntKind}{n n':Int}{S:St}{K:AV->St->Prop}:kZ 29 (.int k n) (.int k' n') S K=((AV.int k n=.int k' n')/\(0<=n/\n<=1099511627776)/\aG S (fun b=>K (.sl 1 b 0 n.toNat) (S.upd b ⟨2,1,n.toNat,fun _=>.int .i64 0⟩))):=by
 simp only[kZ,dB,fU,bP,jO];rfl
@[go_sem] theorem make_52{k k':IntKind}{n n':Int}{S:St}{K:AV->St->Prop}:kZ 52 (.int k n) (.int k' n') S K=((AV.int k n=.int k' n')/\(0<=n/\n<=1099511627776)/\aG S (fun b=>K (.sl 1 b 0 n.toNat) (S.upd b ⟨59,1,n.toNat,fun _=>.nil⟩))):=by
 simp only[kZ,dB,fU,bP,jO];rfl
@[go_sem] theorem make_59{k k':IntKind}{n n':Int}{S:St}{K:AV->St->Prop}:kZ 59 (.int k n) (.int k' n') S K=((AV.int k n=.int k' n')/\(0<=n/\n<=1099511627776)/\aG S (fun b=>K (.sl 2 b 0 n.toNat) (S.upd b ⟨50,2,n.toNat,fun _=>.big 0⟩))):=by
 simp only[kZ,dB,fU,bP,jO];rfl
@[go_sem] theorem make_146{k k':IntKind}{n n':Int}{S:St}{K:AV->St->Prop}:kZ 146 (.int k n) (.int k' n') S K=((AV.int k n=.int k' n')/\(0<=n/\n<=1099511627776)/\aG S (fun b=>K (.sl 1 b 0 n.toNat) (S.upd b ⟨3,1,n.toNat,fun _=>.int .i64 0⟩))):=by
 simp only[kZ,dB,fU,bP,jO];rfl
@[go_sem] theorem make_216{k k':IntKind}{n n':Int}{S:St}{K:AV->St->Prop}:kZ 216 (.int k n) (.int k' n') S K=((AV.int k n=.int k' n')/\(0<=n/\n<=1099511627776)/\aG S (fun b=>K (.sl 1 b 0 n.toNat) (S.upd b ⟨59,1,n.toNat,fun _=>.nil⟩))):=by
 simp only[kZ,dB,fU,bP,jO];rfl
@[go_sem] theorem Qi:fR 24 0=some (1,0):=rfl
@[go_sem] theorem Qh:fR 24 1=some (1,1):=rfl
@[go_sem] theorem Qg:fR 24 2=some (1,2):=rfl
@[go_sem] theorem Qf:fR 24 3=some (1,3):=rfl
@[go_sem] theorem Qe:fR 27 0=some (1,0):=rfl
@[go_sem] theorem Qd:fR 27 1=some (1,4):=rfl
@[go_sem] theorem Qc:fR 27 2=some (1,5):=rfl
@[go_sem] theorem O2:fR 107 0=some (1,0):=rfl
@[go_sem] theorem O1:fR 107 1=some (1,1):=rfl
@[go_sem] theorem O0:fR 160 0=some (1,0):=rfl
@[go_sem] theorem OZ:fR 160 1=some (1,1):=rfl
@[go_sem] theorem OY:fR 160 2=some (1,2):=rfl
@[go_sem] theorem OX:fR 160 3=some (1,3):=rfl
@[go_sem] theorem OW:fR 167 0=some (2,0):=rfl
@[go_sem] theorem OV:fR 167 1=some (2,1):=rfl
@[go_sem] theorem OU:fR 183 0=some (1,0):=rfl
@[go_sem] theorem OT:fR 183 1=some (1,1):=rfl
@[go_sem] theorem OS:fR 197 0=some (2,0):=rfl
@[go_sem] theorem OR:fR 197 1=some (2,1):=rfl
@[go_sem] theorem OQ:fR 197 2=some (2,2):=rfl
@[go_sem] theorem OP:fR 197 3=some (2,3):=rfl
@[go_sem] theorem OO:fR 197 4=some (2,5):=rfl
@[go_sem] theorem ON:fR 218 0=some (1,0):=rfl
@[go_sem] theorem OM:fR 218 1=some (1,1):=rfl
@[go_sem] theorem kindT_2:tc 2=some .i64:=rfl
@[go_sem] theorem kindT_3:tc 3=some .i64:=rfl
@[go_sem] theorem kindT_5:tc 5=some .u8:=rfl
@[go_sem] theorem kindT_34:tc 34=some .i64:=rfl
@[go_sem] theorem kindT_97:tc 97=some .u64:=rfl
@[go_sem] theorem srcT_2:Am 2=true:=rfl
@[go_sem] theorem srcT_3:Am 3=true:=rfl
@[go_sem] theorem srcT_5:Am 5=true:=rfl
@[go_sem] theorem srcT_25:Am 25=true:=rfl
@[go_sem] theorem srcT_41:Am 41=true:=rfl
@[go_sem] theorem srcT_97:Am 97=true:=rfl
@[go_sem] theorem box_2{x:AV}{S:St}{K:AV->St->Prop}:jW 2 x S K=(eg 1 x/\aG S (fun b=>K (.ptr 1 b 0) (S.upd b ⟨2,1,1,fun _=>x⟩))):=rfl
@[go_sem] theorem box_3{x:AV}{S:St}{K:AV->St->Prop}:jW 3 x S K=(eg 1 x/\aG S (fun b=>K (.ptr 1 b 0) (S.upd b ⟨3,1,1,fun _=>x⟩))):=rfl
@[go_sem] theorem box_4{x:AV}{S:St}{K:AV->St->Prop}:jW 4 x S K=(eg 1 x/\aG S (fun b=>K (.ptr 1 b 0) (S.upd b ⟨4,1,1,fun _=>x⟩))):=rfl
@[go_sem] theorem box_5{x:AV}{S:St}{K:AV->St->Prop}:jW 5 x S K=(eg 1 x/\aG S (fun b=>K (.ptr 1 b 0) (S.upd b ⟨5,1,1,fun _=>x⟩))):=rfl
@[go_sem] theorem box_22{x:AV}{S:St}{K:AV->St->Prop}:jW 22 x S K=(eg 1 x/\aG S (fun b=>K (.ptr 1 b 0) (S.upd b ⟨22,1,1,fun _=>x⟩))):=rfl
@[go_sem] theorem box_25{x:AV}{S:St}{K:AV->St->Prop}:jW 25 x S K=(eg 1 x/\aG S (fun b=>K (.ptr 1 b 0) (S.upd b ⟨25,1,1,fun _=>x⟩))):=rfl
@[go_sem] theorem box_28{x:AV}{S:St}{K:AV->St->Prop}:jW 28 x S K=(eg 1 x/\aG S (fun b=>K (.ptr 1 b 0) (S.upd b ⟨28,1,1,fun _=>x⟩))):=rfl
@[go_sem] theorem box_29{x:AV}{S:St}{K:AV->St->Prop}:jW 29 x S K=(eg 1 x/\aG S (fun b=>K (.ptr 1 b 0) (S.upd b ⟨29,1,1,fun _=>x⟩))):=rfl
@[go_sem] theorem box_34{x:AV}{S:St}{K:AV->St->Prop}:jW 34 x S K=(eg 1 x/\aG S (fun b=>K (.ptr 1 b 0) (S.upd b ⟨34,1,1,fun _=>x⟩))):=rfl
@[go_sem] theorem box_41{x:AV}{S:St}{K:AV->St->Prop}:jW 41 x S K=(eg 1 x/\aG S (fun b=>K (.ptr 1 b 0) (S.upd b ⟨41,1,1,fun _=>x⟩))):=rfl
@[go_sem] theorem box_52{x:AV}{S:St}{K:AV->St->Prop}:jW 52 x S K=(eg 1 x/\aG S (fun b=>K (.ptr 1 b 0) (S.upd b ⟨52,1,1,fun _=>x⟩))):=rfl
@[go_sem] theorem box_59{x:AV}{S:St}{K:AV->St->Prop}:jW 59 x S K=(eg 1 x/\aG S (fun b=>K (.ptr 1 b 0) (S.upd b ⟨59,1,1,fun _=>x⟩))):=rfl
@[go_sem] theorem box_97{x:AV}{S:St}{K:AV->St->Prop}:jW 97 x S K=(eg 1 x/\aG S (fun b=>K (.ptr 1 b 0) (S.upd b ⟨97,1,1,fun _=>x⟩))):=rfl
@[go_sem] theorem box_146{x:AV}{S:St}{K:AV->St->Prop}:jW 146 x S K=(eg 1 x/\aG S (fun b=>K (.ptr 1 b 0) (S.upd b ⟨146,1,1,fun _=>x⟩))):=rfl
@[go_sem] theorem box_158{x:AV}{S:St}{K:AV->St->Prop}:jW 158 x S K=(eg 1 x/\aG S (fun b=>K (.ptr 1 b 0) (S.upd b ⟨158,1,1,fun _=>x⟩))):=rfl
@[go_sem] theorem box_192{x:AV}{S:St}{K:AV->St->Prop}:jW 192 x S K=(eg 1 x/\aG S (fun b=>K (.ptr 1 b 0) (S.upd b ⟨192,1,1,fun _=>x⟩))):=rfl
@[go_sem] theorem box_216{x:AV}{S:St}{K:AV->St->Prop}:jW 216 x S K=(eg 1 x/\aG S (fun b=>K (.ptr 1 b 0) (S.upd b ⟨216,1,1,fun _=>x⟩))):=rfl
@[go_sem] theorem box_50{x:AV}{S:St}{K:AV->St->Prop}:jW 50 x S K=(eg 2 x/\aG S (fun b=>K (.ptr 2 b 0) (S.upd b ⟨50,2,1,fun _=>x⟩))):=rfl
@[go_sem] theorem box_167{l:List AV}{S:St}{K:AV->St->Prop}:jW 167 (.agg l) S K=(l.length=2/\(∀z∈l,eg 2 z)/\aG S (fun b=>K (.ptr 2 b 0) (S.upd b ⟨167,2,2,fun j=>l.getD j .any⟩))):=rfl
@[go_sem] theorem box_195{l:List AV}{S:St}{K:AV->St->Prop}:jW 195 (.agg l) S K=(l.length=2/\(∀z∈l,eg 2 z)/\aG S (fun b=>K (.ptr 2 b 0) (S.upd b ⟨195,2,2,fun j=>l.getD j .any⟩))):=rfl
@[go_sem] theorem box_197{l:List AV}{S:St}{K:AV->St->Prop}:jW 197 (.agg l) S K=(l.length=7/\(∀z∈l,eg 2 z)/\aG S (fun b=>K (.ptr 2 b 0) (S.upd b ⟨197,2,7,fun j=>l.getD j .any⟩))):=rfl
@[go_sem] theorem box_24{l:List AV}{S:St}{K:AV->St->Prop}:jW 24 (.agg l) S K=(l.length=4/\(∀z∈l,eg 1 z)/\aG S (fun b=>K (.ptr 1 b 0) (S.upd b ⟨24,1,4,fun j=>l.getD j .any⟩))):=rfl
@[go_sem] theorem box_27{l:List AV}{S:St}{K:AV->St->Prop}:jW 27 (.agg l) S K=(l.length=6/\(∀z∈l,eg 1 z)/\aG S (fun b=>K (.ptr 1 b 0) (S.upd b ⟨27,1,6,fun j=>l.getD j .any⟩))):=rfl
@[go_sem] theorem box_107{l:List AV}{S:St}{K:AV->St->Prop}:jW 107 (.agg l) S K=(l.length=2/\(∀z∈l,eg 1 z)/\aG S (fun b=>K (.ptr 1 b 0) (S.upd b ⟨107,1,2,fun j=>l.getD j .any⟩))):=rfl
@[go_sem] theorem box_160{l:List AV}{S:St}{K:AV->St->Prop}:jW 160 (.agg l) S K=(l.length=4/\(∀z∈l,eg 1 z)/\aG S (fun b=>K (.ptr 1 b 0) (S.upd b ⟨160,1,4,fun j=>l.getD j .any⟩))):=rfl
@[go_sem] theorem box_183{l:List AV}{S:St}{K:AV->St->Prop}:jW 183 (.agg l) S K=(l.length=2/\(∀z∈l,eg 1 z)/\aG S (fun b=>K (.ptr 1 b 0) (S.upd b ⟨183,1,2,fun j=>l.getD j .any⟩))):=rfl
@[go_sem] theorem box_218{l:List AV}{S:St}{K:AV->St->Prop}:jW 218 (.agg l) S K=(l.length=2/\(∀z∈l,eg 1 z)/\aG S (fun b=>K (.ptr 1 b 0) (S.upd b ⟨218,1,2,fun j=>l.getD j .any⟩))):=rfl
@[go_sem] theorem bs_59{x:AV}{S:St}{K:AV->St->Prop}:dz 59 1 [(0,x)] S K=(eg 2 x/\aG S (fun b=>K (.sl 2 b 0 1) (S.upd b ⟨50,2,1,fun j=>[x].getD j .any⟩))):=by
 simp only[dz,dB,bP];simp[eF,fU,aG]
@[go_sem] theorem hbs_59{x z:AV}:eH 59 1 [(0,x)] z=(eg 2 x/\z=.lst 2 1 (fun j=>[x].getD j .any)):=by
 simp only[eH,dB,bP];simp[eF,fU]
@[go_sem] theorem bs_52{x:AV}{S:St}{K:AV->St->Prop}:dz 52 1 [(0,x)] S K=(eg 1 x/\aG S (fun b=>K (.sl 1 b 0 1) (S.upd b ⟨59,1,1,fun j=>[x].getD j .any⟩))):=by
 simp only[dz,dB,bP];simp[eF,fU,aG]
@[go_sem] theorem hbs_52{x z:AV}:eH 52 1 [(0,x)] z=(eg 1 x/\z=.lst 1 1 (fun j=>[x].getD j .any)):=by
 simp only[eH,dB,bP];simp[eF,fU]
@[go_sem] theorem bs_29{x:AV}{S:St}{K:AV->St->Prop}:dz 29 1 [(0,x)] S K=(eg 1 x/\aG S (fun b=>K (.sl 1 b 0 1) (S.upd b ⟨2,1,1,fun j=>[x].getD j .any⟩))):=by
 simp only[dz,dB,bP];simp[eF,fU,aG]
@[go_sem] theorem hbs_29{x z:AV}:eH 29 1 [(0,x)] z=(eg 1 x/\z=.lst 1 1 (fun j=>[x].getD j .any)):=by
 simp only[eH,dB,bP];simp[eF,fU]
@[go_sem] theorem bs_28{x:AV}{S:St}{K:AV->St->Prop}:dz 28 1 [(0,x)] S K=(eg 1 x/\aG S (fun b=>K (.sl 1 b 0 1) (S.upd b ⟨29,1,1,fun j=>[x].getD j .any⟩))):=by
 simp only[dz,dB,bP];simp[eF,fU,aG]
@[go_sem] theorem hbs_28{x z:AV}:eH 28 1 [(0,x)] z=(eg 1 x/\z=.lst 1 1 (fun j=>[x].getD j .any)):=by
 simp only[eH,dB,bP];simp[eF,fU]
@[go_sem] theorem bs_146{x:AV}{S:St}{K:AV->St->Prop}:dz 146 1 [(0,x)] S K=(eg 1 x/\aG S (fun b=>K (.sl 1 b 0 1) (S.upd b ⟨3,1,1,fun j=>[x].getD j .any⟩))):=by
 simp only[dz,dB,bP];simp[eF,fU,aG]
@[go_sem] theorem hbs_146{x z:AV}:eH 146 1 [(0,x)] z=(eg 1 x/\z=.lst 1 1 (fun j=>[x].getD j .any)):=by
 simp only[eH,dB,bP];simp[eF,fU]
@[go_sem] theorem bs_216{x:AV}{S:St}{K:AV->St->Prop}:dz 216 1 [(0,x)] S K=(eg 1 x/\aG S (fun b=>K (.sl 1 b 0 1) (S.upd b ⟨59,1,1,fun j=>[x].getD j .any⟩))):=by
 simp only[dz,dB,bP];simp[eF,fU,aG]
@[go_sem] theorem hbs_216{x z:AV}:eH 216 1 [(0,x)] z=(eg 1 x/\z=.lst 1 1 (fun j=>[x].getD j .any)):=by
 simp only[eH,dB,bP];simp[eF,fU]
attribute [go_sem] ev P6 oV pB pC pD Dg Fp Ql tE qI eg Dj wY qj

attribute [go_sem] DF iG jO xP aO aP cj jP aB cG lv vD vE lw forall_const
 cJ List.toList_toArray cA jn
attribute [go_sem] eq_self true_implies cC cK Bool.true_eq_false cO bV dp exists_eq_left' exists_eq_left exists_and_left and_assoc TA false_or false_and Ep SW KU List.drop_succ_cons xT List.isEmpty_nil List.isEmpty_cons bD pq Ap Bool.and_self Ag List.filterMap_nil
 AN qd TP Bool.and_true cu ae exists_const
section
variable {ops:Array Oper} {l:List Oper} {O:Tm} {S:St} {K:Tm->St->Prop} {o:Oper} {pend:List (Nat×eE)} {H:Tm->List (Nat×eE)->Prop} {z:AV} {d:Nat} {X:eE} {r:List (Nat×eE)}
def bF(q:Nat)(a:wl ops q [] false=true)(h:FE (ops.toList.take q) O S [] (fun O' pend=>if pend.isEmpty then DB ops (ops.toList.drop q) O' S K else t8 pend (zq (pu (ops.toList.take q)) O') S (fun O S=>DB ops (ops.toList.drop q) O S K))):KL ops O S K:=by
 rw[sv];rw[pM,vO,t7]at h;refine bM ⟨q,[],false,_,a,h,fun O' p b=>?_⟩;split at b
 .rename_i e;exact bM ⟨e,bM ⟨rfl,b⟩⟩
 .exact bO ⟨rfl,_,b,fun O S h=>⟨trivial,bM ⟨rfl,h⟩⟩⟩
def ip(q:Nat)(a:wl ops q [] true=true)(h:FE (ops.toList.take q) O S [] (fun O' pend=>pend.isEmpty=true/\DB ops (ops.toList.drop q) O' S K)):KL ops O S K:=by
 rw[sv];rw[pM,vO]at h;exact bM ⟨q,[],true,_,a,h,fun O' p b=>bM ⟨b.1,bM ⟨rfl,b.2⟩⟩⟩
def fu(q:Nat)(js:List (List Nat))(a:wl ops q js false=true)(h:FE (ops.toList.take q) O S [] (fun O' pend=>pend.isEmpty=true/\QS ops.toList js (ops.toList.drop q) O' S K)):KL ops O S K:=by
 rw[sv];rw[pM,DA]at h;exact bM ⟨q,js,false,_,a,h,fun O' p b=>bM ⟨b.1,bO b.2⟩⟩
def oT(q:Nat)(js:List (List Nat))(a:wl ops q js false=true)(h:FE (ops.toList.take q) O S [] (fun O' pend=>t8 pend (zq (pu (ops.toList.take q)) O') S (fun O S=>mq ops.toList O S (CS js)/\QS ops.toList js (ops.toList.drop q) O S K))):KL ops O S K:=by
 rw[sv];rw[pM,DA,t7]at h;exact bM ⟨q,js,false,_,a,h,fun O' p b=>bO ⟨rfl,_,b,fun O S h=>⟨h.1,bO h.2⟩⟩⟩
def Ah(ops:Array Oper)(o:Oper)(O:Tm)(S:St)(K:Tm->St->Prop):Prop:=match o.guard with
 | ab=>Nq o O S (fun z S'=>K (O.put o.dst z) S')
 | some (j,want)=>(match DD ops O j with
  | .bool b=>(b=want->Nq o O S (fun z S'=>K (O.put o.dst z) S'))/\(b=!want->K (O.put o.dst .any) S)
  | _=>False)
def stI(ops:Array Oper)(P:(Nat->Bool)->Tm->St->Prop):List Oper->Nat->Prop
 | [],_=>True
 | o::r,i=>(∀L O S,P L O S->L i=false->(aft o).all L=true->Ah ops o O S (P (fun k=>if k=i then true else L k)))/\stI ops P r (i+1)
theorem Ic{ops:Array Oper}{P:(Nat->Bool)->Tm->St->Prop}:∀(l:List Oper) (i j:Nat) (o:Oper),stI ops P l i->l[j]? = some o->∀L O S,P L O S->L (i+j)=false->(∀k∈aft o,L k=true)->Di ops o O S (P (fun k=>if k=i+j then true else L k))
 | [],i,j,o,_,h=>by simp at h
 | p::r,i,0,o,h,a=>by
  simp only[cO,eG]at a;subst a;intro L O S b c d;have:=h.1 L O S b c (aE.2 d);unfold Ah at this;rw[vP]at this;exact this
 | p::r,i,j+1,o,h,a=>by
  rw[bV]at a;have:=Ic r (i+1) j o h.2 a;rw[(om:i+1+j=i+(j+1))]at this
  exact this
def BR(P:(Nat->Bool)->Tm->St->Prop)(a:BT ops=true)(b:P (fun _=>false) O S)(c:stI ops P ops.toList 0)(d:∀L O S,P L O S->(∀i,i<ops.toList.length->L i=true)->K O S):KL ops O S K:=by
 rw[sv];refine bO ⟨P,a,b,fun i o e=>?_,fun L O S f g=>d L O S f (fun i h=>g i (by simpa using h))⟩
 have:=Ic ops.toList 0 i o c (by simpa using e)
 simp only[aB]at this;exact this
@[go_sem ↓] theorem awT_nil{os:List Oper}{js:List (List Nat)}:QS os js [] O S K=K O S:=by rw[DA,Pp]
@[go_sem ↓] theorem awT_go{os:List Oper}{js:List (List Nat)}:QS os js (o::l) O S K=Nq o O S (fun z S'=>mq os (O.put o.dst z) S' (CS js)/\QS os (Mf js) l (O.put o.dst z) S' K):=by rw[DA,vP,Pp]
@[go_sem] theorem jsHd_c{a:List Nat}{l:List (List Nat)}:CS (a::l)=a:=rfl
@[go_sem] theorem jsNx_1{a:List Nat}:Mf [a]=[a]:=rfl
@[go_sem] theorem jsNx_2{a b:List Nat}{l:List (List Nat)}:Mf (a::b::l)=b::l:=rfl
@[go_sem] theorem Ro{os:List Oper}:mq os O S []=True:=by rw[mq]
@[go_sem ↓] theorem P7{os:List Oper}{j:Nat}{js:List Nat}:mq os O S (j::js)=((match os[j]? with
  | some o=>(match o.dst with
   | some d=>AK o O S (O d)
   | ab=>False)
  | ab=>False)/\mq os O S js):=by rw[mq]<;>rfl
@[go_sem ↓] theorem awH_nil:FE [] O S pend H=H O pend:=by rw[pM,FK]
@[go_sem ↓] theorem awH_go:FE (o::l) O S pend H=(match o.op,o.dst with
  | .alloc t,some d=>(match mt t with
   | some X=>FE l (O.put (some d) .any) S (pend++[(d,X)]) H
   | ab=>False)
  | _,_=>∃z,AK o O S z/\FE l (O.put o.dst z) S pend H):=by rw[pM,FK]<;>rfl
@[go_sem ↓] theorem HOK_go:AK o O S z=((Ep o.op=true/\Nq o O S (fun z' S'=>z'=z/\S'=S))∨(match o.op with
 | .call c=>(match c.callee with
  | .value f=>Mm (ev O f) (c.args.toList.map (ev O)) S z
  | _=>False)
 | .buildSlice t n ps=>eH t n (ps.toList.map fun p=>(p.1,ev O p.2)) z
 | _=>False)):=by rw[AK,vP]<;>rfl
@[go_sem ↓] theorem SJ:t8 [] O S K=K O S:=by rw[t7,nO]
@[go_sem ↓] theorem RX:t8 ((d,X)::r) O S K=aG S (fun b=>t8 r (O.put (some d) (.ptr X.es b 0)) (S.upd b X) K):=by rw[t7,nO]<;>rfl
@[go_sem] theorem SI:mt 50=some ⟨50,2,1,fun _=>.big 0⟩:=rfl
@[go_sem] theorem SH:mt 52=some ⟨52,1,1,fun _=>.nil⟩:=rfl
@[go_sem] theorem RW:mt 167=some ⟨167,2,2,fun _=>.big 0⟩:=rfl
@[go_sem] theorem SD{ds:List Nat}{t:Nat}:zq ds O t=if ds.contains t&&!pq (O t)then .any else O t:=rfl
end
def xY(O:Tm):List Oper->Nat->AV
 | [],_=>.any
 | o::_,0=>(match o.dst with
  | some d=>O d
  | ab=>.any)
 | _::l,j+1=>xY O l j
theorem Hv(O:Tm):∀(l:List Oper) (j:Nat),DD l.toArray O j=xY O l j
 | [],j=>by simp[DD,xY]
 | o::l,0=>by simp[DD,xY];rfl
 | o::l,j+1=>by
  have:=Hv O l j;simp only[DD,xY,eY,bV]at this ⊢;exact this
@[go_sem] theorem yld_go{l:List Oper}{O:Tm}{j:Nat}:DD l.toArray O j=xY O l j:=Hv O l j
@[go_sem] theorem Sg{o:Oper}{l:List Oper}{O:Tm}:xY O (o::l) 0=(match o.dst with
  | some d=>O d
  | ab=>.any):=by rw[xY]
@[go_sem] theorem Sh{o:Oper}{l:List Oper}{O:Tm}{j:Nat}:xY O (o::l) (j+1)=xY O l j:=by rw[xY]
def PF(f:Nat)(args:List AV)(z:AV):Prop :=
 ∀(w:World) (vs:List Value),tV w->aW w AI args vs->Calls ah f vs.toArray w (fun e w'=>∃v,e=.returned v/\bn w' (fun b=>b<w.heap.size) z v/\dl AI AI w w')
def VA(S:St)(x x':AV):Prop:=∀(w:World) (v:Value),ep w S->bn w S.dom x v->bn w AI x' v
def VR(S:St)(x x':AV):Prop:=∀(w:World) (v:Value),ep w S->bn w S.dom x v->bn w (fun b=>¬S.dom b) x' v
def fD(S:St):List AV->List AV->Prop
 | [],[]=>True
 | x::l,y::r=>VA S x y/\fD S l r
 | [],_::_=>False
 | _::_,[]=>False
def VA.refl(S:St)(x:AV):VA S x x:=fun _ _ _ h=>bn.turn (fun _ _ a=>a.elim) _ _ h
def VR.va{y:AV}(h:VR S x y):VA S x y:=fun w v a b=>bn.turn (fun _ _ c=>c.elim) _ _ (h w v a b)
def VR.mf(h:pq x=true):VR S x x:=fun _ _ _ a=>sX h a
theorem xQ{S:St}{w:World}(b:ep w S):∀(l r:List AV) (vs:List Value),fD S l r->aW w S.dom l vs->aW w AI r vs
 | [],[],[],_,_=>by simp[aW]
 | x::l,y::r,v::vs,h,a=>by simp only[aW]at a ⊢;exact⟨h.1 w v b a.1,xQ b l r vs h.2 a.2⟩
 | [],[],_::_,_,a=>by simp[aW]at a
 | _::_,_,[],_,a=>by simp[aW]at a
 | [],_::_,_,h,_=>h.elim
 | _::_,[],_,h,_=>h.elim
theorem cI(S:St):∀l,fD S l l
 | []=>trivial
 | x::l=>⟨VA.refl S x,cI S l⟩
def PF.pureS(h:PF f args' z)(c:fD S args args'):tM f args S z:=by
 intro w vs a d;refine(h w vs a.gl (xQ a _ _ _ c d)).mono ?_;rintro e w' ⟨v,rfl,g,i⟩;exact⟨v,rfl,bn.turn (fun k _ b=>by
  simp only[St.dom]at b
  cases e:S k with
  | none=>exact absurd e b
  | some X=>obtain⟨cs,j,_⟩:=a k X e;exact fP j) _ _ g,i⟩
def PF.pure'(h:PF f args z):tM f args S z:=h.pureS (cI S args)
def PF.spec(h:PF f args' z)(a:fD S args args'){post:AV->St->Prop}(b:post z S):cE f args S post:=(h.pureS a).spec b
def PF.call(h:PF f args z){post:AV->St->Prop}(a:post z S):cE f args S post:=h.pure'.spec a
def BZ.pf(a:pq z=true)(h:BZ f args z):PF f args z:=by
 intro w vs c d;refine(h St.none w vs ⟨rfl,c,fun b x g=>by simp[St.none]at g⟩ (aW.turn (fun _ _ i=>absurd rfl i) _ _ d)).mono ?_
 rintro e w' ⟨v,rfl,j,k⟩;exact⟨v,rfl,sX a j,k⟩
def PF.of_spec(h:cE f args St.none (fun r S'=>VR S' r z)):PF f args z:=by
 intro w vs d g;refine(h w vs ⟨rfl,d,fun b x i=>by simp[St.none]at i⟩ (aW.turn (fun _ _ c=>absurd rfl c) _ _ g)).mono ?_
 rintro e w' ⟨v,r,S',rfl,j,l,m,a⟩;refine⟨v,rfl,bn.turn (fun k _ c n=>?_) _ _ (j w' v m l),a.os,a.tape,a.output,a.size,fun k c _=>a.keep k c (fun x=>x rfl),a.shape,fun _ _ h=>h⟩;exact a.own k c n rfl
def iQ{fn:Func}(e:ah.funcs[f]? = some fn)(g:fn.ntmps=N)(i:fn.results=R)
  (h:Aw c (Dj R.toList fun r S'=>VR S' r z) (Nr 0 args) St.none) (j:fn.body=some c:=by exact rfl) (b:iS N c=true:=by kernel_rfl) (a:args.length<=N:=by simp) (d:R.size≠0:=by simp):PF f args z:=PF.of_spec (jr e g i h j b a d)
def bJ(S:St)(b ty es n:Nat)(g:Nat->AV):Prop:=∃g',S b=some ⟨ty,es,n,g'⟩/\∀i,i<n->g' i=g i
def bJ.of(h:S b=some ⟨ty,es,n,g⟩):bJ S b ty es n g:=⟨g,h,fun _ _=>rfl⟩
def bJ.ne{c ty' es' n':Nat}(h:bJ S b ty es n g)(h':bJ S c ty' es' n' g')(d:ty≠ty'):b≠c:=by
 rintro rfl;obtain⟨x,e,_⟩:=h;obtain⟨y,a,_⟩:=h';rw[e]at a;cases a;exact d rfl
def bJ.fresh{c:Nat}(h:bJ S b ty es n g)(a:S c=ab):b≠c:=by
 rintro rfl;obtain⟨x,d,_⟩:=h;rw[d]at a;cases a
def bJ.upd{c:Nat}(h:bJ S b ty es n g)(a:b≠c)(X:eE):bJ (S.upd c X) b ty es n g:=by
 obtain⟨x,d,e⟩:=h;exact⟨x,by rw[aN a];exact d,e⟩
def bJ.here(h:∀i,i<n->g' i=g i):bJ (S.upd b ⟨ty,es,n,g'⟩) b ty es n g:=⟨g',ci,h⟩
def bJ.congr(h:bJ S b ty es n g)(c:∀i,i<n->g i=g' i):bJ S b ty es n g':=by
 obtain⟨x,d,e⟩:=h;exact⟨x,d,fun i a=>(e i a).trans (c i a)⟩
def VR.sl{off len:Nat}(f:bJ S b ty es n g)(s:off+len<=n)(i:∀j,j<len->VR S (g (off+j)) (h j)):VR S (.sl es b off len) (.lst es len h):=by
 intro w v a c;obtain⟨g',d,k⟩:=f;obtain⟨cs,e,t,l,x⟩:=a b _ d;simp only[bn]at c ⊢;obtain⟨cap,cs',ty',fr',rfl,m,_,_⟩:=c;refine⟨_,cap,rfl,m,fun y=>⟨b,es*off,rfl,fP e,fun o=>o (by simp[St.dom,d]),fun j p=>?_⟩⟩
 obtain⟨u,q,r⟩:=l (off+j) (by simp only;omega)
 refine⟨u,⟨cs,ty,(0,0),e,by rw[<-bS];exact q⟩,i j p w u a ?_⟩
 rw[<-k (off+j) om];exact r
def VR.nil:VR S .nil (.lst es 0 h):=by
 intro w v c a;simp only[bn]at a ⊢;subst a;exact⟨_,0,rfl,ae _,fun b=>absurd b om⟩
def a8(n:Nat)(r:Nat->Int):AV:=.lst 2 n (fun j=>.big (r j))
def aQ(n m:Nat)(A:Nat->Nat->Int):AV:=.lst 1 n (fun i=>a8 m (A i))
def aV(n:Nat)(r:Nat->Int):AV:=.lst 1 n (fun j=>.int .i64 (r j))
def aD(n m:Nat)(A:Nat->Nat->Int):AV:=.lst 1 n (fun i=>aV m (A i))
def iW(S:St)(b n:Nat)(r:Nat->Int):Prop:=bJ S b 50 2 n (fun j=>.big (r j))
def tT(S:St)(b n:Nat)(r:Nat->Int):Prop:=bJ S b 2 1 n (fun j=>.int .i64 (r j))
structure dA(S:St)(b:Nat)(g:Nat->Nat)(n m:Nat)(A:Nat->Nat->Int):Prop where
 outer:bJ S b 59 1 n (fun i=>.sl 2 (g i) 0 m)
 row:∀i,i<n->iW S (g i) m (A i)
 inj:∀i j,i<n->j<n->g i=g j->i=j
structure eh(S:St)(b:Nat)(g:Nat->Nat)(n m:Nat)(A:Nat->Nat->Int):Prop where
 outer:bJ S b 29 1 n (fun i=>.sl 1 (g i) 0 m)
 row:∀i,i<n->tT S (g i) m (A i)
 inj:∀i j,i<n->j<n->g i=g j->i=j
def iW.vr(h:iW S b n r):VR S (.sl 2 b 0 n) (a8 n r):=VR.sl h om (fun j _=>by rw[aB];exact VR.mf rfl)
def tT.vr(h:tT S b n r):VR S (.sl 1 b 0 n) (aV n r):=VR.sl h om (fun j _=>by rw[aB];exact VR.mf rfl)
def dA.vr{g:Nat->Nat}(h:dA S b g n m A):VR S (.sl 1 b 0 n) (aQ n m A):=VR.sl h.outer om (fun j a=>by rw[aB];exact(h.row j a).vr)
def eh.vr{g:Nat->Nat}(h:eh S b g n m A):VR S (.sl 1 b 0 n) (aD n m A):=VR.sl h.outer om (fun j a=>by rw[aB];exact(h.row j a).vr)
def i64_in(b:-9223372036854775808<=a)(c:a<=9223372036854775807):IntKind.i64.wrap a=a:=IntWalk.i64_in a ⟨b,c⟩
def dM(h:a=n)(b:n<=4611686018427387904):IntKind.i64.wrap a=(n:Int):=by rw[h];exact i64_in om om

abbrev aJ:=Nat->Nat->Int
def az:Nat->(Nat->Int)->Int
 | 0,_=>0
 | n+1,f=>az n f+f n
def aF{f g:Nat->Int}(h:∀i,i<n->f i=g i):az n f=az n g:=by
 induction n with
 | zero=>rfl
 | succ n ih=>simp only[az];rw[ih (fun i a=>h i om),h n om]
def iP{f:Nat->Int}(h:∀i,i<n->f i=0):az n f=0:=by
 induction n with
 | zero=>rfl
 | succ n ih=>simp only[az];rw[ih (fun i a=>h i om),h n om];rfl
def eP(n:Nat)(f g:Nat->Int):az n (fun i=>f i+g i)=az n f+az n g:=by
 induction n with
 | zero=>rfl
 | succ n ih=>simp only[az];rw[ih];omega
def du(n:Nat)(c:Int)(f:Nat->Int):az n (fun i=>c*f i)=c*az n f:=by
 induction n with
 | zero=>simp[az]
 | succ n ih=>simp only[az];rw[ih,SQ]
def oH(n:Nat)(x y:Int)(f g:Nat->Int):az n (fun i=>x*f i+y*g i)=x*az n f+y*az n g:=by
 rw[eP,du,du]
def da{f:Nat->Int}(k:Nat)(c:k<n)(h:∀i,i<n->i≠k->f i=0):az n f=f k:=by
 induction n with
 | zero=>omega
 | succ n ih =>
  simp only[az];by_cases e:k=n
  .subst e;rw[iP (fun i b=>h i om om)];omega
  .rw[ih om (fun i b a=>h i om a),h n om om];omega
def Be{f:Nat->Int}(k:Nat)(d:k+1<n)(h:∀i,i<n->i≠k->i≠k+1->f i=0):az n f=f k+f (k+1):=by
 induction n with
 | zero=>omega
 | succ n ih =>
  simp only[az];by_cases e:k+1=n
  .subst e;rw[da k om (fun i b a=>h i om a om)]
  .rw[ih om (fun i b a c=>h i om a c),h n om om om];omega
def pc(n m:Nat)(f:Nat->Nat->Int):az n (fun i=>az m (fun j=>f i j))=az m (fun j=>az n (fun i=>f i j)):=by
 induction n with
 | zero=>simp only[az];rw[iP];intros;rfl
 | succ n ih=>simp only[az];rw[ih,<-eP]
def vX(j:Nat):Int:=if j%2=0 then 1 else -1
def Ek(j:Nat):vX (j+1)=- vX j:=by unfold vX;split<;>split<;>omega
def yE:vX 0=1:=rfl
def skip(j k:Nat):Nat:=if k<j then k else k+1
def cut(A:aJ)(j:Nat):aJ:=fun i k=>A (i+1) (skip j k)
def det:Nat->aJ->Int
 | 0,_=>1
 | n+1,A=>az (n+1) fun j=>vX j*A 0 j*det n (cut A j)
def xv(h:k<n):skip j k<n+1:=by unfold skip;split<;>omega
def ck{A B:aJ}(h:∀i j,i<n->j<n->A i j=B i j):det n A=det n B:=by
 induction n generalizing A B with
 | zero=>rfl
 | succ n ih =>
  simp only[det];refine aF fun j a=>?_;rw[h 0 j om a,ih (A:=cut A j) (B:=cut B j) (fun i k c b=>h _ _ om (xv b))]
def setRow(A:aJ)(i:Nat)(r:Nat->Int):aJ:=fun a b=>if a=i then r b else A a b
def cn(A:aJ)(i:Nat)(r:Nat->Int):aJ:=fun a b=>if b=i then r a else A a b
def se(A:aJ)(i j:Nat)(r:Nat->Int):cut (setRow A (i+1) r) j=setRow (cut A j) i (fun k=>r (skip j k)):=by
 funext a b;simp[cut,setRow]
def E7(A:aJ)(j:Nat)(r:Nat->Int):cut (setRow A 0 r) j=cut A j:=by
 funext a b;simp[cut,setRow]
def tp(A:aJ)(a:i<n)(x y:Int)(r s:Nat->Int) :
  det n (setRow A i (fun j=>x*r j+y*s j))=x*det n (setRow A i r)+y*det n (setRow A i s):=by
 induction n generalizing A i r s with
 | zero=>omega
 | succ n ih =>
  simp only[det];rw[<-oH];refine aF fun j _=>?_
  cases i with
  | zero=>simp only[E7,setRow,aO];grind
  | succ i=>rw[se,ih _ om,se,se];simp only[setRow,Nat.reduceEqDiff,aP];grind
def qA(A:aJ)(c:i<n)(x:Int)(r:Nat->Int):det n (setRow A i (fun j=>x*r j))=x*det n (setRow A i r):=by
 have h:=tp A c x 0 r r;rw[ck (B:=setRow A i (fun j=>x*r j+0*r j)) (fun a b _ _=>by simp[setRow]),h];omega
def jU(A:aJ)(c:i<n)(r s:Nat->Int):det n (setRow A i (fun j=>r j+s j))=det n (setRow A i r)+det n (setRow A i s):=by
 have h:=tp A c 1 1 r s;rw[ck (B:=setRow A i (fun j=>1*r j+1*s j)) (fun a b _ _=>by simp[setRow]),h];omega
def Gk(N:Nat)(g:Nat->Nat->Int):az (N+1) (fun j=>az N (fun k=>if k<j then g k j else-g j (k+1)))=0:=by
 induction N with
 | zero=>simp[az]
 | succ N ih =>
  rw[show az (N+1+1) (fun j=>az (N+1) (fun k=>if k<j then g k j else-g j (k+1)))
  =az (N+1) (fun j=>az (N+1) (fun k=>if k<j then g k j else-g j (k+1)))+az (N+1) (fun k=>if k<N+1 then g k (N+1)else-g (N+1) (k+1))from rfl]
  have a:az (N+1) (fun j=>az (N+1) (fun k=>if k<j then g k j else-g j (k+1)))
  =az (N+1) (fun j=>az N (fun k=>if k<j then g k j else-g j (k+1))+(- g j (N+1))):=by
   refine aF fun j e=>?_;simp only[az];rw[af om]
  have b:az (N+1) (fun k=>if k<N+1 then g k (N+1)else-g (N+1) (k+1))=az (N+1) (fun k=>g k (N+1)) :=
   aF fun k c=>by rw[ai c]
  rw[a,b,eP,ih];have d:az (N+1) (fun j=>- g j (N+1))=- az (N+1) (fun j=>g j (N+1)):=by
   have:=du (N+1) (-1) (fun j=>g j (N+1));rw[aF (g:=fun i=>-1*g i (N+1)) (fun i _=>om),this];omega
  rw[d];omega
def Cx(h:k<j)(c:Nat):skip j (skip k c)=skip k (skip (j-1) c):=by
 unfold skip;split<;>split<;>(try split)<;>(try split)<;>omega
def IS(A:aJ)(o:i+1<n)(h:∀j,j<n->A i j=A (i+1) j):det n A=0:=by
 induction n generalizing A i with
 | zero=>omega
 | succ n ih =>
  cases i with
  | succ i =>
   simp only[det];exact iP fun j g=>by rw[ih (cut A j) (i:=i) om (fun k d=>h _ (xv d))];omega
  | zero =>
   obtain⟨n,rfl⟩:∃m,n=m+1:=⟨n-1,om⟩
   have e:det (n+1+1) A=az (n+1+1) (fun j=>az (n+1) (fun k =>
     if k<j then vX k*vX j*A 0 k*A 0 j*det n (cut (cut A j) k)else-(vX j*vX (k+1)*A 0 j*A 0 (k+1)*det n (cut (cut A (k+1)) j)))):=by
    simp only[det];refine aF fun j g=>?_;rw[<-du];refine aF fun k d=>?_;have l:cut A j 0 k=A 0 (skip j k):=by
     show A 1 (skip j k)=_;exact(h _ (xv d)).symm
    rw[l];split
    .rename_i c;rw[show skip j k=k by unfold skip;rw[ai c]];grind
    .rename_i c;rw[show skip j k=k+1 by unfold skip;rw[af c],Ek]
     have f:cut (cut A j) k=cut (cut A (k+1)) j:=by
      funext a b;show A (a+1+1) (skip j (skip k b))=A (a+1+1) (skip (k+1) (skip j b));rw[Cx (j:=k+1) (k:=j) om];rfl
     rw[f];grind
   rw[e];exact Gk (n+1) (fun k j=>vX k*vX j*A 0 k*A 0 j*det n (cut (cut A j) k))

def jQ(A:aJ)(i:Nat):setRow A i (A i)=A:=by funext a b;simp only[setRow];split<;>simp_all
def kW(A:aJ)(i:Nat):cn A i (fun a=>A a i)=A:=by funext a b;simp only[cn];split<;>simp_all
def iJ(A:aJ){i k:Nat}(h:i≠k)(r s:Nat->Int):setRow (setRow A i r) k s=setRow (setRow A k s) i r:=by
 funext a b;simp only[setRow];grind
def C2(A:aJ)(b:i+1<n)(r s:Nat->Int):det n (setRow (setRow A i r) (i+1) s)=- det n (setRow (setRow A i s) (i+1) r):=by
 have a:∀t:Nat->Int,det n (setRow (setRow A i t) (i+1) t)=0:=fun t =>
  IS _ b (fun j _=>by simp[setRow])
 have c:=a (fun j=>r j+s j);rw[jU _ om,iJ _ om,iJ A (k:=i+1) (s:=s) om,jU _ om,jU _ om]at c;rw[iJ _ om s r,iJ _ om r s];have d:=a r;have e:=a s;rw[iJ _ om]at d e;omega
def me(A:aJ)(c:i<k)(a:k<n)(h:∀j,j<n->A i j=A k j):det n A=0:=by
 induction k generalizing A with
 | zero=>omega
 | succ k ih =>
  by_cases e:i=k
  .subst e;exact IS A a h
  .have b:=C2 A a (A k) (A (k+1));have d:setRow (setRow A k (A k)) (k+1) (A (k+1))=A:=by rw[jQ,jQ]
   rw[d]at b;rw[b,ih (setRow (setRow A k (A (k+1))) (k+1) (A k)) om om (fun j f=>?_)];· rfl
   have:=h j f;simp only[setRow];rw[af om,af om,af om,ai trivial];exact this
def rF(A:aJ)(b:i<n)(c:k<n)(a:i≠k):det n (setRow A i (A k))=0:=by
 rcases ml a with h|h
 .exact me _ h c (fun j _=>by simp only[setRow];rw[ai trivial,af om])
 .exact me _ h b (fun j _=>by simp only[setRow];rw[af om,ai trivial])
def mG(A:aJ)(b:i<n)(d:k<n)(a:i≠k)(x c:Int):det n (setRow A i (fun j=>x*A i j+c*A k j))=x*det n A:=by
 rw[tp A b x c (A i) (A k),rF A b d a,jQ];omega
def My(A:aJ)(b:i<n)(d:k<n)(a:i≠k):det n (setRow (setRow A i (A k)) k (A i))=- det n A:=by
 have c:∀t:Nat->Int,det n (setRow (setRow A i t) k t)=0:=fun t=>by
  rcases ml a with h|h
  .exact me _ h d (fun j _=>by simp only[setRow];grind)
  .exact me _ h b (fun j _=>by simp only[setRow];grind)
 have e:=c (fun j=>A i j+A k j);rw[jU _ d,iJ _ a,iJ A a (s:=A k),jU _ b,jU _ b]at e;have f:=c (A i);have g:=c (A k);rw[iJ _ a]at f g;have l:setRow (setRow A k (A k)) i (A i)=A:=by rw[jQ,jQ]
 rw[l]at e;rw[iJ _ a];omega
def gD(j:Nat):Nat->Int:=fun k=>if k=j then 1 else 0
def sf(n:Nat)(A:aJ)(i j:Nat):Int:=det n (setRow A i (gD j))
def E4(A:aJ)(c:i<n)(m:Nat)(r:Nat->Int) :
  det n (setRow A i (fun k=>if k<m then r k else 0))=az m (fun j=>r j*sf n A i j):=by
 induction m with
 | zero =>
  have h:=qA A c 0 (fun _=>0);rw[ck (B:=setRow A i (fun j=>0*(fun _=>0) j)) (fun a b _ _=>by simp[setRow]),h];simp[az]
 | succ m ih =>
  simp only[az];rw[<-ih];have h:=tp A c 1 (r m) (fun k=>if k<m then r k else 0) (gD m)
  rw[ck (B:=setRow A i (fun j=>1*(fun k=>if k<m then r k else 0) j+r m*gD m j)) (fun a b _ _=>?_),h]
  .show _=_+r m*det n _;omega
  .simp only[setRow,gD];split
   .by_cases e:b=m
    .subst e;simp
    .by_cases d:b<m
     .simp[e,d];omega
     .have:¬b<m+1:=om
      simp[e,d,this]
   .rfl
def GQ(A:aJ)(c:i<n)(r:Nat->Int):az n (fun j=>r j*sf n A i j)=det n (setRow A i r):=by
 rw[<-E4 A c n r];exact ck fun a b _ d=>by simp only[setRow];split<;>simp_all
def CL(A:aJ)(a:i<n)(b:k<n):az n (fun j=>A k j*sf n A i j)=if i=k then det n A else 0:=by
 rw[GQ A a];split
 .rename_i e;subst e;rw[jQ]
 .rename_i e;exact rF A a b e
def tt(A:aJ)(a:0<n)(h:∀i,i<n->A i 0=0):det n A=0:=by
 induction n generalizing A with
 | zero=>omega
 | succ n ih =>
  simp only[det];refine iP fun j b=>?_
  cases j with
  | zero=>rw[h 0 om];omega
  | succ j=>rw[ih (cut A (j+1)) om (fun i c=>by
    show A (i+1) (skip (j+1) 0)=0;rw[show skip (j+1) 0=0 from rfl];exact h _ om)];omega
def qX(A:aJ)(h:∀i,i<n->A (i+1) 0=0):det (n+1) A=A 0 0*det n (fun i j=>A (i+1) (j+1)):=by
 rw[det,da 0 om]
 .rw[yE,eW];rfl
 .intro j c a
  cases j with
  | zero=>omega
  | succ j=>rw[tt (cut A (j+1)) om (fun i b=>by
    show A (i+1) (skip (j+1) 0)=0;rw[show skip (j+1) 0=0 from rfl];exact h _ b)];omega
def jE(A:aJ)(m:Nat):aJ:=fun i j=>if 0<i/\i<=m then A 0 0*A i j-A i 0*A 0 j else A i j
def Az(A:aJ)(n m:Nat)(a:m<=n):det (n+1) (jE A m)=A 0 0^m*det (n+1) A:=by
 induction m with
 | zero=>rw[ck (B:=A) (fun i j _ _=>by unfold jE;rw[af om])];simp
 | succ m ih =>
  have e:∀i j,jE A (m+1) i j=setRow (jE A m) (m+1) (fun j=>A 0 0*jE A m (m+1) j+(- A (m+1) 0)*jE A m 0 j) i j:=by
   intro i j;simp only[setRow];split
   .rename_i e;subst e;simp only[jE];rw[ai om,af om,af om];grind
   .simp only[jE];by_cases h:0<i/\i<=m
    .rw[ai om,ai h]
    .rw[af om,af h]
  rw[ck (fun i j _ _=>e i j),mG _ om om om,ih om,fY]
  grind
def Fd(A:aJ):aJ:=fun i j=>A 0 0*A (i+1) (j+1)-A (i+1) 0*A 0 (j+1)
def MC(A:aJ)(n:Nat):A 0 0*det n (Fd A)=A 0 0^n*det (n+1) A:=by
 rw[<-Az A n n (ae _),qX]
 .congr 1;exact ck fun i j a b=>by simp only[jE,Fd];rw[ai om]
 .intro i a;simp only[jE];rw[ai om];grind
def od(A:aJ){c j:Nat}(r:Nat->Int)(h:c<j):cut (cn A c r) j=cn (cut A j) c (fun a=>r (a+1)):=by
 funext a b;simp only[cut,cn,skip];grind
def oe(A:aJ){c j:Nat}(r:Nat->Int)(h:j<c):cut (cn A c r) j=cn (cut A j) (c-1) (fun a=>r (a+1)):=by
 funext a b;simp only[cut,cn,skip];grind
def og(A:aJ)(c:Nat)(r:Nat->Int):cut (cn A c r) c=cut A c:=by
 funext a b;simp only[cut,cn,skip];grind
def C5{c:Nat}(A:aJ)(a:c<n)(x y:Int)(r s:Nat->Int) :
  det n (cn A c (fun j=>x*r j+y*s j))=x*det n (cn A c r)+y*det n (cn A c s):=by
 induction n generalizing A c r s with
 | zero=>omega
 | succ n ih =>
  simp only[det];rw[<-oH];refine aF fun j b=>?_;rcases dN c j with h|h|h
  .rw[od _ _ h,od _ _ h,od _ _ h,ih _ om];simp only[cn];rw[af om,af om,af om];grind
  .subst h;rw[og,og,og];simp only[cn,aO];grind
  .rw[oe _ _ h,oe _ _ h,oe _ _ h,ih _ om];simp only[cn];rw[af om,af om,af om];grind
def wt{c:Nat}(A:aJ)(f:c+1<n)(h:∀i,i<n->A i c=A i (c+1)):det n A=0:=by
 induction n generalizing A c with
 | zero=>omega
 | succ n ih =>
  simp only[det];rw[Be c f]
  .have e:det n (cut A c)=det n (cut A (c+1)):=ck fun i k b m=>by
    simp only[cut,skip];by_cases a:k<c
    .rw[ai a,ai om]
    .by_cases d:k=c
     .subst d;rw[af om,ai om];exact(h _ om).symm
     .rw[af a,af om]
   rw[e,Ek,h 0 om];grind
  .intro j o a d;rcases ml a with g|l
   .rw[ih (cut A j) (c:=c-1) om (fun i b=>by
     simp only[cut,skip];rw[af om,af om];rw[(om:c-1+1=c)];exact h _ om)];omega
   .rw[ih (cut A j) (c:=c) om (fun i b=>by
     simp only[cut,skip];rw[ai om,ai om];exact h _ om)];omega
def iK(A:aJ){i k:Nat}(h:i≠k)(r s:Nat->Int):cn (cn A i r) k s=cn (cn A k s) i r:=by
 funext a b;simp only[cn];grind
def kY(A:aJ)(c:i<n)(r s:Nat->Int):det n (cn A i (fun j=>r j+s j))=det n (cn A i r)+det n (cn A i s):=by
 have h:=C5 A c 1 1 r s;rw[ck (B:=cn A i (fun j=>1*r j+1*s j)) (fun a b _ _=>by simp[cn]),h];omega
def ve(A:aJ)(b:i+1<n)(r s:Nat->Int):det n (cn (cn A i r) (i+1) s)=- det n (cn (cn A i s) (i+1) r):=by
 have a:∀t:Nat->Int,det n (cn (cn A i t) (i+1) t)=0:=fun t =>
  wt _ b (fun j _=>by simp[cn])
 have c:=a (fun j=>r j+s j);rw[kY _ om,iK _ om,iK A (k:=i+1) (s:=s) om,kY _ om,kY _ om]at c;rw[iK _ om s r,iK _ om r s];have d:=a r;have e:=a s;rw[iK _ om]at d e;omega
def nK(A:aJ)(d:i<k)(b:k<n)(h:∀j,j<n->A j i=A j k):det n A=0:=by
 induction k generalizing A with
 | zero=>omega
 | succ k ih =>
  by_cases e:i=k
  .subst e;exact wt A b h
  .have c:=ve A b (fun a=>A a k) (fun a=>A a (k+1));have f:cn (cn A k (fun a=>A a k)) (k+1) (fun a=>A a (k+1))=A:=by rw[kW,kW]
   rw[f]at c;rw[c,ih (cn (cn A k (fun a=>A a (k+1))) (k+1) (fun a=>A a k)) om om (fun j g=>?_)];· rfl
   have:=h j g;simp only[cn];rw[af om,af om,af om,ai trivial];exact this
def px(A:aJ)(b:i<n)(d:k<n)(a:i≠k)(x c:Int):det n (cn A i (fun j=>x*A j i+c*A j k))=x*det n A:=by
 rw[C5 A b x c (fun j=>A j i) (fun j=>A j k),kW];have:det n (cn A i (fun j=>A j k))=0:=by
  rcases ml a with h|h
  .exact nK _ h d (fun j _=>by simp only[cn];rw[ai trivial,af om])
  .exact nK _ h b (fun j _=>by simp only[cn];rw[af om,ai trivial])
 rw[this];omega
def C4(A:aJ)(c:i<n)(e:k<n)(b:i≠k):det n (cn (cn A i (fun a=>A a k)) k (fun a=>A a i))=- det n A:=by
 have d:∀t:Nat->Int,det n (cn (cn A i t) k t)=0:=fun t=>by
  rcases ml b with h|h
  .exact nK _ h e (fun j _=>by simp only[cn];grind)
  .exact nK _ h c (fun j _=>by simp only[cn];grind)
 have f:=d (fun j=>A j i+A j k);rw[kY _ e,iK _ b,iK A b (s:=fun j=>A j k),kY _ c,kY _ c]at f;have g:=d (fun j=>A j i);have l:=d (fun j=>A j k);rw[iK _ b]at g l;have m:cn (cn A k (fun j=>A j k)) i (fun j=>A j i)=A:=by rw[kW,kW]
 rw[m]at f;rw[iK _ b];omega

def Pc(A:aJ):det 1 A=A 0 0:=by simp[det,az,vX]
def zq9(A:aJ):det 2 A=A 0 0*A 1 1-A 1 0*A 0 1:=by simp[det,az,vX,cut,skip];grind
def wo(n:Nat)(c:Int)(A:aJ):det n (fun i j=>c*A i j)=c^n*det n A:=by
 induction n generalizing A with
 | zero=>simp[det]
 | succ n ih =>
  simp only[det];rw[<-du];refine aF fun j _=>?_;rw[show cut (fun i j=>c*A i j) j=fun i k=>c*cut A j i k from rfl,ih,fY];grind
def bar(prev:Int)(A:aJ):aJ:=fun i j=>Fd A i j/prev
def PU(prev:Int)(A:aJ):Prop:=∀(l:Nat) (ρ γ:Nat->Nat),prev^l∣det (l+1) (fun i j=>A (ρ i) (γ j))
def lj(ρ:Nat->Nat):Nat->Nat
 | 0=>0
 | i+1=>ρ i+1
def PU.exact{A:aJ}(h:PU prev A)(i j:Nat):prev*bar prev A i j=Fd A i j:=by
 have a:=h 1 (lj fun _=>i) (lj fun _=>j);rw[zq9,fY,Int.pow_zero,eW]at a;exact ir a
def J7{A:aJ}(h:PU prev A)(b:A 0 0≠0)(l:Nat)(ρ γ:Nat->Nat) :
  prev^(l+1)*det (l+1) (fun i j=>bar prev A (ρ i) (γ j))=A 0 0^l*det (l+2) (fun i j=>A (lj ρ i) (lj γ j)):=by
 have a:=MC (fun i j=>A (lj ρ i) (lj γ j)) (l+1);rw[<-wo,ck (B:=Fd (fun i j=>A (lj ρ i) (lj γ j))) (fun i j _ _=>by
  show prev*bar prev A (ρ i) (γ j)=_;rw[h.exact];rfl)]
 simp only[lj]at a;rw[fY,cR (A 0 0^l),iT]at a;exact dF b a

end Go.Proofs.YtdobfmlmenaajaaGreatDoor
