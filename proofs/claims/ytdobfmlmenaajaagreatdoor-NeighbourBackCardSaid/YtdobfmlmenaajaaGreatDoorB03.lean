/-
  Lemmas for NeighbourBack.
-/
import Derived.Test.YtdobfmlmenaajaaGreatDoorB02
import Derived.LoopN
import Derived.Scope
namespace Go.Proofs.YtdobfmlmenaajaaGreatDoor
open Go.RowKit Tryz
open _root_.Array renaming replicate→kV
open _root_.Classical renaming choose→fP
open _root_.List renaming replicate→cp,getD→df,range→xh
open _root_.Option renaming none→ae
open Region renaming ready→kJ,wanted→pk
open Tryz renaming prog→ak
open _root_.Go.Proofs.YtdobfmlmenaajaaGreatDoor.AV renaming any→Up,big→Ue,bool→Ub,int→Ug,lst→UM,mfn→WH,nil→US,pat→WF,ptr→UA,sl→Vg,tup→UE
open _root_.Go.Callee renaming builtin→UP,value→Wr
open _root_.Go.Code renaming region→UR,scope→Wv,skip→WK
open _root_.Go.Op renaming buildSlice→UU,call→WC,convert→Wj,extract→Wk,fieldAddr→VG,indexAddr→VH,makeFunc→VX,move→WM,nilCheck→VY,operands→Ua,unary→Vq
open _root_.Go renaming Oper→TZ,Operand→UL,ResultVar→Vi,asIntOf→Va,typeInfo→Uw,zeroValue→Uv,IntKind→UJ,TypeId→TW,Value→TM,World→TO,builtin→Vs,execOp→TU,invoke→Vh,resolve→UV,undef→Ut
open _root_.Go.IntKind renaming i64→Uc
open _root_.Go.Value renaming agg→Uf,bool→TR,cells→TV,int→TQ,nilFunc→Wl,pointer→Uk,slice→TK,tuple→UB
open _root_.Go.Instr renaming build→Um,fill→Ul,extract→VS,index→UQ,makeFunc→VI
open _root_.List renaming map_map→Wa
open _root_.Array renaming getD→VF
open _root_.Bool renaming false→TJ,true→TN,false_or→VU
open _root_.Option renaming some→ho
set_option maxHeartbeats 6400000
set_option maxRecDepth 4096
set_option linter.all false
variable{x y z:AV}{K:AV->Prop}{post:AV->St->Prop}{a:Act}{ps:Array (Nat×Operand)}{listed:Array Bool}{ops:Array Oper}{fi:Array Operand}{R:Array ResultVar}{c:Code}{Q:Exit->Act->World->Prop}{prev za:Int}{jss:List (List Nat)}{args args':List AV}{l:List Oper}{N b es f i id j k m n ty:Nat}{g g' h:Nat->AV}{r:Nat->Int}{A:Nat->Nat->Int}{M:Nat->Prop}{o:Oper}{d:Option Nat}{p q:Prop}{S:St}{O O':Tm}{α:Type}{t:TypeId}{v:Value}{w w':World}{X:eA}
def Qa(P:Program)(f:Nat):Bool:=match P.funcs[f]? with
 | some fn => fn.body.isSome && fn.name != "runtime.NumGoroutine"
 | ae=>false
def Ro:(xh 259).all (fun i=>i==241||(i==242||Qa ak (i+11)))=TN:=by kernel_rfl
def Mt(h:(11<=f/\f<270)/\f≠252/\f≠253)(args:Array TM)(w:TO):(callFunc f args).run ak w=.ok (.enter f args) w:=by
 have a:=aG.1 Ro (f-11) (by simp;omega)
 rw[(om:f-11+11=f)]at a
 have c:(f-11==241)=TJ:=by simp;omega
 have d:(f-11==242)=TJ:=by simp;omega
 rw[c,d,VU,VU]at a;unfold Qa at a
 cases b:ak.funcs[f]? with
 | none=>rw[b]at a;cases a
 | some fn =>
  rw[b]at a;simp only[cV,bne_iff_ne,yL]at a;simp[callFunc,b,a.2];intro e;simp[e]at a
def Ps(x y:AV)(K:AV->Prop):Prop:=match x,y with
 | Ug k a,Ug k' b=>k=k'/\K (Ug k (if b > a then b else a))
 | _,_=>False
def Hy(h:Ps x y K){w:TO}{M:Nat->Prop}{vx vy:TM}(c:bI w M x vx)(d:bI w M y vy)(ts:Array TW)(t:TW) :
  ∃z v,K z/\bI w M z v/\(Builtin.max_ ts t #[vx,vy]).run ak w=.ok v w:=by
 unfold Ps at h;split at h
 .rename_i k a k' b;obtain⟨rfl,e⟩:=h;simp only[bI]at c d;subst c d;exact⟨_,TQ k (if b > a then b else a),e,by simp[bI],by simp[Builtin.max_,Builtin.max2]⟩
 .exact h.elim
def AK(f:Nat)(l r:List AV)(K:AV->Prop):Prop:=match l with
 | []=>K (.fn f r)
 | x::l=>r=[]/\K (WH f (x::l))
def yd(O:Tm)(c:Call)(S:St)(K:AV->St->Prop):Prop:=match c.callee with
 | Wr f=>(match ev O f with
  | .fn f l=>((11<=f/\f<270)/\f≠252/\f≠253)/\cI f (c.args.toList.map (ev O)++l) S K
  | WH f l=>((11<=f/\f<270)/\f≠252/\f≠253)/\cI f (l++c.args.toList.map (ev O)) S K
  | _=>False)
 | UP .len=>(match c.args.toList,c.argTypes.toList with
  | [x],[t]=>Hz t (ev O x) (fun z=>K z S)
  | _,_=>False)
 | UP .max=>(match c.args.toList with
  | [x,y]=>Ps (ev O x) (ev O y) (fun z=>K z S)
  | _=>False)
 | UP .append=>(match c.args.toList,c.argTypes.toList with
  | [s,x],[t,t']=>if t'=3 then rM t (ev O s) (ev O x) S K else gE t t' (ev O s) (ev O x) S K
  | _,_=>False)
 | UP .copy=>(match c.args.toList,c.argTypes.toList with
  | [s,x],[t,_]=>yb t (ev O s) (ev O x) S K
  | _,_=>False)
 | _=>False
def tz(t:TW)(ps:List (Nat×AV))(K:AV->Prop):Prop:=match t,ps with
 | 50,[]=>K (Ue 0)
 | 167,[(0,x),(1,y)]=>dY 2 x/\dY 2 y/\K (.agg [x,y])
 | 183,[(0,x),(1,y)]=>dY 1 x/\dY 1 y/\K (.agg [x,y])
 | 218,[(0,x),(1,y)]=>dY 1 x/\dY 1 y/\K (.agg [x,y])
 | 107,[(0,x)]=>dY 1 x/\K (.agg [x,Ug Uc 0])
 | 195,[(0,x),(1,y)]=>dY 2 x/\dY 2 y/\K (.agg [x,y])
 | 238,[(0,x),(1,y),(2,z)]=>dY 1 x/\dY 1 y/\dY 1 z/\K (.agg [x,y,z])
 | 160,[(0,x),(1,y)]=>dY 1 x/\dY 1 y/\K (.agg [x,y,US,.nfn])
 | 202,[(0,x),(1,y)]=>dY 1 x/\dY 1 y/\K (.agg [x,y])
 | 197,[(0,x),(1,y),(2,z),(3,.agg [p,q]),(4,.agg [r,s])]=>dY 2 x/\dY 2 y/\dY 2 z/\dY 2 p/\dY 2 q/\dY 2 r/\dY 2 s/\K (.agg [x,y,z,p,q,r,s])
 | _,_=>False
def fV{z:TM}{s:Nat}(a:ml ak t=ho (z,s,b)):∃i,ak.info? t=ho i/\i.zero=ho z/\i.size=s:=by
 unfold ml at a
 cases c:ak.info? t with
 | none=>rw[c]at a;simp at a
 | some i =>
  rw[c]at a;simp only[dS,eY,jV]at a;obtain⟨z2,d,e,f,g⟩:=a;exact⟨i,rfl,by rw[d,e],f⟩
def z107:ml ak 107=ho (Uf #[TK ae 0 0,TQ Uc 0],2,32):=by kernel_rfl
def z183:ml ak 183=ho (Uf #[TK ae 0 0,TK ae 0 0],2,48):=by kernel_rfl
def z218:ml ak 218=ho (Uf #[TK ae 0 0,TQ Uc 0],2,32):=by kernel_rfl
def z167:ml ak 167=ho (Uf #[TR TJ,TK ae 0 0,TR TJ,TK ae 0 0],4,64):=by kernel_rfl
def z50:ml ak 50=ho (Uf #[TR TJ,TK ae 0 0],2,32):=by kernel_rfl
def z52:ml ak 52=ho (TK ae 0 0,1,24):=by kernel_rfl
def z216:ml ak 216=ho (TK ae 0 0,1,24):=by kernel_rfl
def z22:ml ak 22=ho (TK ae 0 0,1,24):=by kernel_rfl
def z195:ml ak 195=ho (Uf #[TR TJ,TK ae 0 0,TR TJ,TK ae 0 0],4,64):=by kernel_rfl
def z197:ml ak 197=ho (Uf (cp 7 [TR TJ,TK ae 0 0]).flatten.toArray,14,224):=by kernel_rfl
def z160:ml ak 160=ho (Uf #[TK ae 0 0,TK ae 0 0,TK ae 0 0,Wl],4,80):=by kernel_rfl
def z202:ml ak 202=ho (Uf #[TQ .u64 0,TQ .u64 0],2,16):=by kernel_rfl
def z97:ml ak 97=ho (TQ .u64 0,1,8):=by kernel_rfl
def z59:ml ak 59=ho (TK ae 0 0,1,24):=by kernel_rfl
def z2:ml ak 2=ho (TQ Uc 0,1,8):=by kernel_rfl
def z238:ml ak 238=ho (Uf #[TQ Uc 0,TQ Uc 0,TQ Uc 0],3,24):=by kernel_rfl
def z3:ml ak 3=ho (TQ Uc 0,1,8):=by kernel_rfl
def gR(h:dY 1 x)(a:bI w M x v):v.cells=#[v]:=by
 rcases C5 h a with⟨_,b,_⟩|⟨e,_⟩
 .exact sc b
 .omega
def gQ(h:dY 2 x)(a:bI w M x v):∃p q,v=Uf #[p,q]:=by
 rcases C5 h a with⟨e,_⟩|⟨_,p,q,e,_⟩
 .omega
 .exact⟨p,q,e⟩
def uZ{ps:List (Nat×AV)}(h:tz t ps K){w:TO}{M:Nat->Prop}{qs:List (Nat×TM)}(f:qJ w M ps qs) :
  ∃z u,K z/\bI w M z u/\(Um t qs.toArray).run ak w=.ok u w:=by
 unfold tz at h;split at h
 .cases qs with
  | cons _ _=>exact f.elim
  | nil =>
   refine⟨_,Uf #[TR TJ,TK ae 0 0],h,by simp only[bI];exact eC.zero w,?_⟩
   obtain⟨i,X,Y,_⟩:=pn (t:=50) (es:=2) (x:=Ue 0) (z:=Uf #[TR TJ,TK ae 0 0]) rfl;have Z:=Qt;simp[Um,Uv,Uw,X,Y,Ul,TV]
 .rename_i x y;obtain⟨sx,sy,g⟩:=h
  match qs,f with
  | [(a,vx),(b,vy)],f =>
   simp only[qJ]at f;obtain⟨rfl,rx,rfl,ry,_⟩:=f;obtain⟨D,E,rfl⟩:=gQ sx rx;obtain⟨F,G,rfl⟩:=gQ sy ry;obtain⟨i,l,m,v⟩:=fV z167;obtain⟨j,n,A,o⟩:=fV z50;refine⟨_,Uf #[D,E,F,G],g,by simp only[bI];exact⟨[Uf #[D,E],Uf #[F,G]],by simp[TV],by simp only[bB];exact⟨rx,ry,trivial⟩⟩,?_⟩
   simp[Um,Uv,Uw,l,m,bM underlying167,de n,o,Ul,TV]
  | [],f=>exact f.elim
  | [_],f=>exact f.2.2.elim
  | _::_::_::_,f=>exact f.2.2.2.2.elim
 .rename_i x y;obtain⟨sx,sy,g⟩:=h
  match qs,f with
  | [(a,vx),(b,vy)],f =>
   simp only[qJ]at f;obtain⟨rfl,rx,rfl,ry,_⟩:=f;have cx:=gR sx rx;have cy:=gR sy ry;obtain⟨i,l,m,v⟩:=fV z183;obtain⟨j,n,A,o⟩:=fV z52;refine⟨_,Uf #[vx,vy],g,by simp only[bI];exact⟨[vx,vy],by simp[cx,cy],by simp only[bB];exact⟨rx,ry,trivial⟩⟩,?_⟩
   simp[Um,Uv,Uw,l,m,bM underlying183,de n,o,Ul,cx,cy];simp[TV]
  | [],f=>exact f.elim
  | [_],f=>exact f.2.2.elim
  | _::_::_::_,f=>exact f.2.2.2.2.elim
 .rename_i x y;obtain⟨sx,sy,g⟩:=h
  match qs,f with
  | [(a,vx),(b,vy)],f =>
   simp only[qJ]at f;obtain⟨rfl,rx,rfl,ry,_⟩:=f;have cx:=gR sx rx;have cy:=gR sy ry;obtain⟨i,l,m,v⟩:=fV z218;obtain⟨j,n,A,o⟩:=fV z216;obtain⟨k,B,H,C⟩:=fV z3;refine⟨_,Uf #[vx,vy],g,by simp only[bI];exact⟨[vx,vy],by simp[cx,cy],by simp only[bB];exact⟨rx,ry,trivial⟩⟩,?_⟩
   simp[Um,Uv,Uw,l,m,bM underlying218,de n,o,de B,C,Ul,cx,cy];simp[TV]
  | [],f=>exact f.elim
  | [_],f=>exact f.2.2.elim
  | _::_::_::_,f=>exact f.2.2.2.2.elim
 .rename_i x;obtain⟨sx,g⟩:=h
  match qs,f with
  | [(a,vx)],f =>
   simp only[qJ]at f;obtain⟨rfl,rx,_⟩:=f;have cx:=gR sx rx;obtain⟨i,l,m,v⟩:=fV z107;obtain⟨j,n,A,o⟩:=fV z22;obtain⟨k,B,H,C⟩:=fV z3;refine⟨_,Uf #[vx,TQ Uc 0],g,by simp only[bI];exact⟨[vx,TQ Uc 0],by simp[cx];rfl,by simp only[bB,bI];exact⟨rx,trivial,trivial⟩⟩,?_⟩
   simp[Um,Uv,Uw,l,m,bM underlying107,de n,o,de B,C,Ul,cx];simp[TV]
  | [],f=>exact f.elim
  | _::_::_,f=>exact f.2.2.elim
 .rename_i x y;obtain⟨sx,sy,g⟩:=h
  match qs,f with
  | [(a,vx),(b,vy)],f =>
   simp only[qJ]at f;obtain⟨rfl,rx,rfl,ry,_⟩:=f;obtain⟨D,E,rfl⟩:=gQ sx rx;obtain⟨F,G,rfl⟩:=gQ sy ry;obtain⟨i,l,m,v⟩:=fV z195;obtain⟨j,n,A,o⟩:=fV z50;refine⟨_,Uf #[D,E,F,G],g,by simp only[bI];exact⟨[Uf #[D,E],Uf #[F,G]],by simp[TV],by simp only[bB];exact⟨rx,ry,trivial⟩⟩,?_⟩
   simp[Um,Uv,Uw,l,m,bM ye,de n,o,Ul,TV]
  | [],f=>exact f.elim
  | [_],f=>exact f.2.2.elim
  | _::_::_::_,f=>exact f.2.2.2.2.elim
 .rename_i x y z;obtain⟨sx,sy,sz,g⟩:=h
  match qs,f with
  | [(a,vx),(b,vy),(c,vz)],f =>
   simp only[qJ]at f;obtain⟨rfl,rx,rfl,ry,rfl,rz,_⟩:=f;have cx:=gR sx rx;have cy:=gR sy ry;have cz:=gR sz rz;obtain⟨i,l,m,v⟩:=fV z238;obtain⟨j,n,A,o⟩:=fV z2;refine⟨_,Uf #[vx,vy,vz],g,by simp only[bI];exact⟨[vx,vy,vz],by simp[cx,cy,cz],by simp only[bB];exact⟨rx,ry,rz,trivial⟩⟩,?_⟩
   simp[Um,Uv,Uw,l,m,bM underlying238,de n,o,Ul,cx,cy,cz];simp[TV]
  | [],f=>exact f.elim
  | [_],f=>exact f.2.2.elim
  | [_,_],f=>exact f.2.2.2.2.elim
  | _::_::_::_::_,f=>exact f.2.2.2.2.2.2.elim
 .rename_i x y;obtain⟨sx,sy,g⟩:=h
  match qs,f with
  | [(a,vx),(b,vy)],f =>
   simp only[qJ]at f;obtain⟨rfl,rx,rfl,ry,_⟩:=f;have cx:=gR sx rx;have cy:=gR sy ry;obtain⟨i,l,m,v⟩:=fV z160;obtain⟨j,n,A,o⟩:=fV z59;obtain⟨k,B,H,C⟩:=fV z52;refine⟨_,Uf #[vx,vy,TK ae 0 0,Wl],g,by simp only[bI];exact⟨[vx,vy,TK ae 0 0,Wl],by simp[cx,cy];rfl,by simp only[bB,bI];exact⟨rx,ry,trivial,trivial,trivial⟩⟩,?_⟩
   simp[Um,Uv,Uw,l,m,bM underlying160,de n,o,de B,C,Ul,cx,cy];simp[TV]
  | [],f=>exact f.elim
  | [_],f=>exact f.2.2.elim
  | _::_::_::_,f=>exact f.2.2.2.2.elim
 .rename_i x y;obtain⟨sx,sy,g⟩:=h
  match qs,f with
  | [(a,vx),(b,vy)],f =>
   simp only[qJ]at f;obtain⟨rfl,rx,rfl,ry,_⟩:=f;have cx:=gR sx rx;have cy:=gR sy ry;obtain⟨i,l,m,v⟩:=fV z202;obtain⟨j,n,A,o⟩:=fV z97;refine⟨_,Uf #[vx,vy],g,by simp only[bI];exact⟨[vx,vy],by simp[cx,cy],by simp only[bB];exact⟨rx,ry,trivial⟩⟩,?_⟩
   simp[Um,Uv,Uw,l,m,bM underlying202,de n,o,Ul,cx,cy];simp[TV]
  | [],f=>exact f.elim
  | [_],f=>exact f.2.2.elim
  | _::_::_::_,f=>exact f.2.2.2.2.elim
 .rename_i x y z p q r s;obtain⟨sx,sy,sz,sp,sq,sr,ss,g⟩:=h
  match qs,f with
  | [(a,vx),(b,vy),(c,vz),(d,vp),(e,vr)],f =>
   simp only[qJ]at f;obtain⟨rfl,rx,rfl,ry,rfl,rz,rfl,rp,rfl,rr,_⟩:=f;simp only[bI]at rp rr;obtain⟨ps,rfl,rp⟩:=rp;obtain⟨rs,rfl,rr⟩:=rr
   match ps,rs,rp,rr with
   | [vp,vq],[vr,vs],rp,rr =>
    simp only[bB]at rp rr;obtain⟨rp,rq,_⟩:=rp;obtain⟨rr,rs,_⟩:=rr;obtain⟨I,J,rfl⟩:=gQ sx rx;obtain⟨L,N,rfl⟩:=gQ sy ry;obtain⟨O,P,rfl⟩:=gQ sz rz;obtain⟨Q,R,rfl⟩:=gQ sp rp;obtain⟨S,T,rfl⟩:=gQ sq rq;obtain⟨f1,U,rfl⟩:=gQ sr rr;obtain⟨V,W,rfl⟩:=gQ ss rs;obtain⟨i,l,m,v⟩:=fV z197;obtain⟨j,n,A,o⟩:=fV z50;obtain⟨k,B,H,C⟩:=fV z195;refine⟨_,Uf #[I,J,L,N,O,P,Q,R,S,T,f1,U,V,W],g,by
     simp only[bI];exact⟨[Uf #[I,J],Uf #[L,N],Uf #[O,P],Uf #[Q,R],Uf #[S,T],Uf #[f1,U],Uf #[V,W]],by simp[TV],by simp only[bB];exact⟨rx,ry,rz,rp,rq,rr,rs,trivial⟩⟩,?_⟩
    simp[Um,Uv,Uw,l,m,bM underlying197,de n,o,de B,C,Ul,TV]
   | [],_,rp,_=>simp[bB]at rp
   | [_],_,rp,_=>simp[bB]at rp
   | _::_::_::_,_,rp,_=>simp[bB]at rp
   | [_,_],[],_,rr=>simp[bB]at rr
   | [_,_],[_],_,rr=>simp[bB]at rr
   | [_,_],_::_::_::_,_,rr=>simp[bB]at rr
  | [],f=>exact f.elim
  | [_],f=>exact f.2.2.elim
  | [_,_],f=>exact f.2.2.2.2.elim
  | [_,_,_],f=>exact f.2.2.2.2.2.2.elim
  | [_,_,_,_],f=>exact f.2.2.2.2.2.2.2.2.elim
  | _::_::_::_::_::_::_,f=>exact f.2.2.2.2.2.2.2.2.2.2.elim
 .exact h.elim
theorem CB{w:TO}{M:Nat->Prop}:∀(l:List AV) (vs:List TM),bB w M l vs->∀(i:Nat) (z:AV),l[i]? = ho z->∃v,vs[i]? = ho v/\bI w M z v
 | [],_,_,i,z,h=>by simp at h
 | x::l,v::vs,a,0,z,h=>by simp only[bB]at a;simp at h;subst h;exact⟨v,sm,a.1⟩
 | x::l,v::vs,a,i+1,z,h=>by simp only[bB]at a;simp at h;obtain⟨u,b,c⟩:=CB l vs a.2 i z h;exact⟨u,by simpa using b,c⟩
 | _::_,[],a,_,_,_=>by simp[bB]at a
def By(t:TW)(x i:AV)(K:AV->Prop):Prop:=match x,i with
 | .agg l,Ug _ n=>(t=195/\∃p q,l=[p,q]/\dY 2 p/\dY 2 q/\(n=0∨n=1)/\K (if n=0 then p else q)) ∨
  ((t=238/\l.length=3∨t=239/\l.length=8)/\(∀z∈l,dY 1 z)/\(0<=n/\n<(l.length:Int))/\K (l.getD n.toNat Up))
 | _,_=>False
theorem MN{w:TO}{M:Nat->Prop}:∀(l:List AV) (vs:List TM),(∀z∈l,dY 1 z)->bB w M l vs->vs.flatMap (fun u=>u.cells.toList)=vs
 | [],[],_,_=>rfl
 | x::l,v::vs,b,a=>by
  simp only[bB]at a;simp only[ei,MN l vs (fun z c=>b z (eh _ c)) a.2,gR (b x (fE ..)) a.1];rfl
 | [],_::_,_,a=>by simp[bB]at a
 | _::_,[],_,a=>by simp[bB]at a
def H4(h:By t x y K){w:TO}{M:Nat->Prop}{vx vy:TM}(g:bI w M x vx)(i:bI w M y vy) :
  ∃z v,K z/\bI w M z v/\(UQ t vx vy).run ak w=.ok v w:=by
 unfold By at h;split at h
 .rename_i l k n;simp only[bI]at g i;subst i;obtain⟨vs,rfl,a⟩:=g;rcases h with⟨rfl,p,q,rfl,sp,sq,r,d⟩|⟨s,u,⟨m,H⟩,d⟩
  .match vs,a with
   | [vp,vq],a =>
    simp only[bB]at a;obtain⟨rp,rq,_⟩:=a;obtain⟨A,B,rfl⟩:=gQ sp rp;obtain⟨C,D,rfl⟩:=gQ sq rq;obtain⟨j,b,E,c⟩:=fV z50;rcases r with rfl|rfl
    .refine⟨_,Uf #[A,B],d,by simpa using rp,?_⟩
     simp[UQ,Va,bM ye,de b,c,part,isAgg,bM Qt,TV]
    .refine⟨_,Uf #[C,D],d,by simpa using rq,?_⟩
     simp[UQ,Va,bM ye,de b,c,part,isAgg,bM Qt,TV]
   | [],a=>simp[bB]at a
   | [_],a=>simp[bB]at a
   | _::_::_::_,a=>simp[bB]at a
  .rw[MN l vs u a];have e:n.toNat<l.length:=om
   obtain⟨v,o,F⟩:=CB l vs a n.toNat (l.getD n.toNat Up) (by simp[df,bE e])
   obtain⟨j,b,E,c⟩:=fV z2;refine⟨_,v,d,F,?_⟩;rcases s with⟨rfl,G⟩|⟨rfl,G⟩
   .have f:n<3:=om
    simp[UQ,Va,bM underlying238,de b,c,part,isAgg,bM nH,m,f,o]
   .have f:n<8:=om
    simp[UQ,Va,bM underlying239,de b,c,part,isAgg,bM nH,m,f,o]
 .exact h.elim
def D5(o:TZ)(O:Tm)(S:St)(K:AV->St->Prop):Prop:=match o.op with
 | WM x=>K (ev O x) S
 | .assign x=>K (ev O x) S
 | .pick c x y=>(match ev O c with
  | Ub t=>K (if t then ev O x else ev O y) S
  | _=>False)
 | .alloc t=>o9 t S K
 | .box t x=>kI t (ev O x) S K
 | .build t ps=>tz t (ps.toList.map fun p=>(p.1,ev O p.2)) (fun z=>K z S)
 | UU t n ps=>da t n (ps.toList.map fun p=>(p.1,ev O p.2)) S K
 | .load t x=>rL t (ev O x) S (fun z=>K z S)
 | .store t x y=>tu t (ev O x) (ev O y) S (fun S'=>K Up S')
 | VY x=>(match ev O x with
  | UA es b i=>K (UA es b i) S
  | WF es y=>K (WF es y) S
  | _=>False)
 | .binOp op t x y _=>H7 op t (ev O x) (ev O y) (fun z=>K z S)
 | .unOp op _ x=>RQ op (ev O x) (fun z=>K z S)
 | Wj s d x=>AN s d (ev O x) (fun z=>K z S)
 | VX (.func f) fi cs=>AK f (fi.toList.map (ev O)) (cs.toList.map (ev O)) (fun z=>K z S)
 | .makeSlice t x y=>lR t (ev O x) (ev O y) S K
 | .slice t x lo hi mx=>lh t (ev O x) (lo.map (ev O)) (hi.map (ev O)) (mx.map (ev O)) (fun z=>K z S)
 | VG t x f=>tw t (ev O x) f (fun z=>K z S)
 | VH t x i=>tv t (ev O x) (ev O i) (fun z=>K z S)
 | .index t x i=>By t (ev O x) (ev O i) (fun z=>K z S)
 | Wk x i=>(match ev O x with
  | UE l=>(match l[i]? with
   | some z=>K z S
   | ae=>False)
  | _=>False)
 | WC c=>yd O c S K
 | _=>False
def ix{next:Act->TO->Prop}(b:(TU a.eval o).run ak w=.ok (.value v) w')(c:next (a.put o.dst v) w'):o.wp ak a w next Q:=by
 unfold Oper.wp;rw[b];exact c
def Gn{next:Act->TO->Prop}(b:(TU a.eval o).run ak w=.ok .skip w')(c:next (a.put o.dst Ut) w'):o.wp ak a w next Q:=by
 unfold Oper.wp;rw[b];exact c
theorem rP{O:Tm}{S:St}{N:Nat}{a:Act}{w:TO}(h:RT O S N a w):∀ps:List (Nat×UL),qJ w S.dom (ps.map fun p=>(p.1,ev O p.2)) (ps.map fun p=>(p.1,a.eval p.2))
 | []=>by simp[qJ]
 | p::ps=>by simp only[iJ,qJ];exact⟨trivial,h.ev p.2,rP h ps⟩
theorem pR{O:Tm}{S:St}{N:Nat}{a:Act}{w:TO}(h:RT O S N a w):∀ps:List UL,bB w S.dom (ps.map (ev O)) (ps.map a.eval)
 | []=>by simp[bB]
 | p::ps=>by simp only[iJ,bB];exact⟨h.ev p,pR h ps⟩
theorem oR{w:TO}{M:Nat->Prop}:∀(l l':List AV) (vs vs':List TM),bB w M l vs->bB w M l' vs'->bB w M (l++l') (vs++vs')
 | [],_,[],_,_,h=>by simpa using h
 | x::l,l',v::vs,vs',h,h'=>by simp only[oS,bB]at h ⊢;exact⟨h.1,oR l l' vs vs' h.2 h'⟩
 | [],_,_::_,_,h,_=>by simp[bB]at h
 | _::_,_,[],_,h,_=>by simp[bB]at h
theorem vn{w:TO}{M:Nat->Prop}:∀(l:List AV) (vs:List TM),bB w M l vs->∀(i:Nat) (z:AV),l[i]? = ho z->∃v,vs[i]? = ho v/\bI w M z v
 | [],_,_,i,z,h=>by simp at h
 | x::l,v::vs,a,0,z,h=>by simp only[bB]at a;simp at h;subst h;exact⟨v,sm,a.1⟩
 | x::l,v::vs,a,i+1,z,h=>by simp only[bB]at a;simp at h;obtain⟨u,b,c⟩:=vn l vs a.2 i z h;exact⟨u,by simpa using b,c⟩
 | _::_,[],a,_,_,_=>by simp[bB]at a
def pQ(h:RT O S N a w)(x:Option UL):tB w S.dom (x.map (ev O)) (x.map a.eval):=by
 cases x with
 | none=>simp[tB]
 | some x=>simp only[dw,tB];exact h.ev x
def Cf(a:Act)(ps:Array (Nat×UL)):(ps.map fun(x:Nat×UL)=>(x.1,a.eval x.2))=(ps.toList.map fun p=>(p.1,a.eval p.2)).toArray:=by apply gJ;simp
def Am(b:o.op=.build t ps){w:TO}:(TU a.eval o).run ak w=((Um t (ps.toList.map fun p=>(p.1,a.eval p.2)).toArray).run ak w).andThen fun v w'=>.ok (.value v) w':=by
 rw[<-Cf];unfold TU;rw[b];simp
def qN(b:o.op=UU t n ps){w:TO}:(TU a.eval o).run ak w=((Instr.buildSlice t n (ps.toList.map fun p=>(p.1,a.eval p.2)).toArray).run ak w).andThen fun v w'=>.ok (.value v) w':=by
 rw[<-Cf];unfold TU;rw[b];simp
def Next_(K:AV->St->Prop)(S:St)(a:Act)(d:Option Nat)(w:TO)(next:Act->TO->Prop):Prop:=∀z v w' S',K z S'->bI w' S'.dom z v->eF w' S'->dA S.dom S'.dom w w'->next (a.put d v) w'
def uW{cs:Array UL}(h:AK f (fi.toList.map (ev O)) (cs.toList.map (ev O)) K){N:Nat}{a:Act}{w:TO}(d:RT O S N a w):∃z,K z/\bI w S.dom z (.func (.func f) (fi.map a.eval) (cs.map a.eval)):=by
 unfold AK at h;split at h
 .rename_i b;have b:fi=#[]:=by apply gJ;simpa using b
  refine⟨_,h,?_⟩;simp only[bI];exact⟨cs.toList.map a.eval,by rw[b];congr 1<;>apply gJ<;>simp,pR d _⟩
 .rename_i x l b;have c:cs=#[]:=by apply gJ;simpa using h.1
  refine⟨_,h.2,?_⟩;simp only[bI];exact⟨fi.toList.map a.eval,by rw[c];congr 1<;>apply gJ<;>simp,by rw[<-b];exact pR d _⟩
def pO{K:AV->St->Prop}(h:D5 o O S K){N:Nat}{a:Act}{w:TO}(j:RT O S N a w){next:Act->TO->Prop}{Q:Exit->Act->TO->Prop}
  (C:Next_ K S a o.dst w next):o.wp ak a w next Q:=by
 have pure_:∀(s:Sem TM),(TU a.eval o=do let x <-s;pure (.value x))->(∃z u,K z S/\bI w S.dom z u/\s.run ak w=.ok u w)->o.wp ak a w next Q:=by
  intro s T ⟨z,u,q,A,B⟩;exact ix (by rw[T];simp[B]) (C z u w S q A j.st (dA.refl _ _))
 have goes_:∀(s:Sem TM),(TU a.eval o=do let x <-s;pure (.value x))->Ek s w S K->o.wp ak a w next Q:=by
  intro s T ⟨z,u,w',S',q,A,B,J,U⟩;exact ix (by rw[T];simp[U]) (C z u w' S' q A B J)
 unfold D5 at h;split at h
 .rename_i x k;exact ix (v:=a.eval x) (by simp[TU,k]) (C _ _ w S h (j.ev x) j.st (dA.refl _ _))
 .rename_i x k;exact ix (v:=a.eval x) (by simp[TU,k]) (C _ _ w S h (j.ev x) j.st (dA.refl _ _))
 .rename_i c x y k;have E:=j.ev c
  cases V:ev O c<;>rw[V]at h E<;>try exact h.elim
  rename_i t;simp only[bI]at E;refine ix (v:=if t then a.eval x else a.eval y) (by simp[TU,k,E,asBool]) (C _ _ w S h ?_ j.st (dA.refl _ _))
  cases t
  .exact j.ev y
  .exact j.ev x
 .rename_i t k;exact goes_ (Instr.alloc t TN (UB #[])) (by simp[TU,k]) (D8 h j.st)
 .rename_i t x k;exact goes_ (Instr.box t (a.eval x)) (by simp[TU,k]) (H6 h j.st (j.ev x))
 .rename_i t ps k;obtain⟨z,u,q,A,B⟩:=uZ h (rP j ps.toList);refine ix (v:=u) ?_ (C z u w S q A j.st (dA.refl _ _));rw[Am k,B];rfl
 .rename_i t n ps k;obtain⟨z,u,w',S',q,A,B,J,U⟩:=ve h j.st (rP j ps.toList);refine ix (v:=u) ?_ (C z u w' S' q A B J);rw[qN k,U];rfl
 .rename_i t x k;exact pure_ (Instr.loadAt t (a.eval x)) (by simp[TU,k]) (rK h j.st (j.ev x))
 .rename_i t x y k;obtain⟨w',S',q,A,B,J⟩:=D4 h j.st (j.ev x) (j.ev y);exact Gn (by simp[TU,k,J]) (C _ _ w' S' q (by simp[bI]) A B)
 .rename_i x k;have m:=j.ev x
  cases F:ev O x<;>rw[F]at h m<;>try exact h.elim
  .have L:=m;simp only[bI]at m;exact ix (v:=a.eval x) (by simp[TU,k,m]) (C _ _ w S h L j.st (dA.refl _ _))
  .have L:=m;simp only[bI]at m;obtain⟨b,off,u,m,_⟩:=m;exact ix (v:=a.eval x) (by simp[TU,k,m]) (C _ _ w S h L j.st (dA.refl _ _))
 .rename_i op t x y _ k;have:=AO (ty:=t) h (j.ev x) (j.ev y) x y;exact pure_ (do eqGuard op t x y (a.eval x) (a.eval y);binOp op t (a.eval x) (a.eval y)) (by simp[TU,k]) this
 .rename_i op t x k;exact pure_ (Vq op (a.eval x)) (by simp[TU,k]) (Cx h (j.ev x))
 .rename_i s d x k;exact pure_ (convert s d (a.eval x)) (by simp[TU,k]) (yc h (j.ev x))
 .rename_i f fi cs k;obtain⟨z,q,A⟩:=uW h j;exact ix (v:=.func (.func f) (fi.map a.eval) (cs.map a.eval)) (by simp[TU,k,VI]) (C _ _ w S q A j.st (dA.refl _ _))
 .rename_i t x y k;exact goes_ (Instr.makeSlice t (a.eval x) (a.eval y)) (by simp[TU,k]) (FO h j.st (j.ev x) (j.ev y))
 .rename_i t x lo Y mx k;exact pure_ (Instr.sliceAt t (a.eval x) (lo.map a.eval) (Y.map a.eval) (mx.map a.eval)) (by simp[TU,k]) (uV h (j.ev x) (pQ j lo) (pQ j Y) (pQ j mx))
 .rename_i t x f k;exact pure_ (Instr.fieldAt t (a.eval x) f) (by simp[TU,k]) (uY h (j.ev x))
 .rename_i t x i k;exact pure_ (Instr.indexAt t (a.eval x) (a.eval i)) (by simp[TU,k]) (uX h (j.ev x) (j.ev i))
 .rename_i t x i k;exact pure_ (UQ t (a.eval x) (a.eval i)) (by simp[TU,k]) (H4 h (j.ev x) (j.ev i))
 .rename_i x i k;have m:=j.ev x
  cases F:ev O x<;>rw[F]at h m<;>try exact h.elim
  rename_i l;simp only at h
  cases W:l[i]? with
  | none=>rw[W]at h;exact h.elim
  | some z =>
   rw[W]at h;simp only[bI]at m;obtain⟨vs,m,G⟩:=m;obtain⟨v,hv,hz⟩:=vn l vs G i z W;exact ix (v:=v) (by simp[TU,k,VS,m,hv]) (C _ _ w S h hz j.st (dA.refl _ _))
 .rename_i c k;unfold yd at h;split at h
  .rename_i f Z;have H:=j.ev f
   cases F:ev O f<;>rw[F]at h H<;>try exact h.elim
   .rename_i g l;simp only[bI]at H;obtain⟨vs,M,G⟩:=H;obtain⟨X,P⟩:=h;have I:(TU a.eval o).run ak w=.ok (.enter g (c.args.map a.eval++vs.toArray)) w:=by
     simp[TU,k,UV,Z,Deferred.ofValue,M,Vh,Mt X]
    unfold Oper.wp;rw[I];have hargs:(c.args.map a.eval++vs.toArray)=(c.args.toList.map a.eval++vs).toArray:=by apply gJ;simp
    rw[hargs];refine(P w _ j.st (oR _ _ _ _ (pR j _) G)).mono ?_;rintro e w' ⟨v,r,S',rfl,q,A,B,J⟩;exact C r v w' S' q A B J
   .rename_i g l;simp only[bI]at H;obtain⟨vs,M,G⟩:=H;obtain⟨X,P⟩:=h;have I:(TU a.eval o).run ak w=.ok (.enter g (vs.toArray++c.args.map a.eval)) w:=by
     simp[TU,k,UV,Z,Deferred.ofValue,M,Vh,Mt X]
    unfold Oper.wp;rw[I];have hargs:(vs.toArray++c.args.map a.eval)=(vs++c.args.toList.map a.eval).toArray:=by apply gJ;simp
    rw[hargs];refine(P w _ j.st (oR _ _ _ _ G (pR j _))).mono ?_;rintro e w' ⟨v,r,S',rfl,q,A,B,J⟩;exact C r v w' S' q A B J
  .rename_i E;split at h
   .rename_i x t m R;have p:c.args=#[x]:=by apply gJ;simpa using m
    have D:c.argTypes=#[t]:=by apply gJ;simpa using R
    exact pure_ (Builtin.len_ #[t] o.type #[a.eval x]) (by simp[TU,k,UV,E,Vh,Vs,p,D]) (AL h (j.ev x))
   .exact h.elim
  .rename_i E;split at h
   .rename_i x y m;have p:c.args=#[x,y]:=by apply gJ;simpa using m
    exact pure_ (Builtin.max_ c.argTypes o.type #[a.eval x,a.eval y]) (by simp[TU,k,UV,E,Vh,Vs,p]) (Hy h (j.ev x) (j.ev y) _ _)
   .exact h.elim
  .rename_i E;split at h
   .rename_i s x t t' m R;have p:c.args=#[s,x]:=by apply gJ;simpa using m
    have D:c.argTypes=#[t,t']:=by apply gJ;simpa using R
    split at h
    .rename_i B;subst B;exact goes_ (Builtin.append_ #[t,3] o.type #[a.eval s,a.eval x]) (by simp[TU,k,UV,E,Vh,Vs,p,D]) (AP h j.st (j.ev s) (j.ev x))
    .exact goes_ (Builtin.append_ #[t,t'] o.type #[a.eval s,a.eval x]) (by simp[TU,k,UV,E,Vh,Vs,p,D]) (Bz h j.st (j.ev s) (j.ev x))
   .exact h.elim
  .rename_i E;split at h
   .rename_i s x t t' m R;have p:c.args=#[s,x]:=by apply gJ;simpa using m
    have D:c.argTypes=#[t,t']:=by apply gJ;simpa using R
    exact goes_ (Builtin.copy_ #[t,t'] o.type #[a.eval s,a.eval x]) (by simp[TU,k,UV,E,Vh,Vs,p,D]) (FP h j.st (j.ev s) (j.ev x))
   .exact h.elim
  .exact h.elim
 .exact h.elim

def Iv(ops:Array TZ)(O:Tm)(j:Nat):AV:=match (ops[j]?).bind (·.dst)with
 | some d=>O d
 | ae=>.any
def Jv(ops:Array TZ):List TZ->Tm->St->(Tm->St->Prop)->Prop
 | [],O,S,K=>K O S
 | o::l,O,S,K=>(match o.guard with
  | ae=>D5 o O S (fun z S'=>Jv ops l (O.put o.dst z) S' K)
  | some (j,want)=>(match Iv ops O j with
   | Ub b=>(b=want->D5 o O S (fun z S'=>Jv ops l (O.put o.dst z) S' K))/\(b=!want->Jv ops l (O.put o.dst Up) S K)
   | _=>False))
def xS(N:Nat)(l:List TZ):Bool:=l.all fun o=>match o.dst with
 | some d=>decide (d<N)
 | ae=>true
def Ha(h:xS N (o::l)=TN):(∀k,o.dst=ho k->k<N)/\xS N l=TN:=by
 simp only[xS,List.all_cons,cV]at h;refine⟨fun k b=>?_,h.2⟩;have a:=h.1;rw[b]at a;simpa using a
def BR(g:RT O S N a w){j:Nat}{b:Bool}(h:Iv ops O j=Ub b):yielded ops a.tmps j=ho b:=by
 unfold Iv at h
 cases e:(ops[j]?).bind (·.dst)with
 | none=>rw[e]at h;cases h
 | some d =>
  rw[e]at h;have c:=g.tm d;simp only at h;rw[h]at c;simp only[bI]at c;unfold yielded;rw[e];simp only[dS]
  cases f:a.tmps[d]? with
  | none=>simp[cT,f,Ut]at c
  | some v =>
   have:v=TR b:=by simpa [cT,f]using c
   subst this;rfl
theorem wT{ops:Array TZ}{N:Nat}{Q:Exit->Act->TO->Prop}{K:Tm->St->Prop}:∀(l:List TZ) {O:Tm} {S:St} {a:Act} {w:TO},Jv ops l O S K->RT O S N a w->xS N l=TN ->
  (∀O' S' a' w',K O' S'->RT O' S' N a' w'->dA S.dom S'.dom w w'->Q .normal a' w')->wpList ak ops Q l a w
 | [],O,S,a,w,h,d,_,i=>i O S a w h d (dA.refl _ _)
 | o::l,O,S,a,w,h,d,r,i=>by
  obtain⟨e,f⟩:=Ha r;have run:D5 o O S (fun z S'=>Jv ops l (O.put o.dst z) S' K)->o.wp ak a w (wpList ak ops Q l) Q:=fun s =>
   pO s d (fun z v w' S' t u x n=>wT l t (d.put n x e u) f (fun O' S'' a' w'' y A B=>i O' S'' a' w'' y A (n.trans B)))
  unfold Jv at h;unfold wpList
  cases c:o.guard with
  | none =>
   rw[c]at h;rw[aj (by simp[pk,c])]
   exact a6 (run h)
  | some p =>
   obtain⟨j,want⟩:=p;rw[c]at h;simp only at h
   cases q:Iv ops O j<;>rw[q]at h<;>try exact h.elim
   rename_i b;have g:=BR d q;by_cases k:b=want
   .rw[aj (by simp[pk,c,g,k])]
    exact a6 (run (h.1 k))
   .rw[ah (by simp[pk,c,g,k])]
    have m:b=!want:=by cases b<;>cases want<;>simp_all
    exact wT l (h.2 m) (d.put (dA.refl _ _) d.st e (by simp[bI])) f i
def wV{K:AV->St->Prop}(a:∀x,x∈o.op.operands.toList->ev O x=ev O' x)(h:D5 o O S K):D5 o O' S K:=by
 have j:∀l:List UL,(∀x∈l,ev O x=ev O' x)->l.map (ev O)=l.map (ev O'):=fun l v=>lS v;unfold D5 at h ⊢;split at h
 .rename_i x b;rw[b]at a;simp only[Ua]at a;rw[<-a x sm];exact h
 .rename_i x b;rw[b]at a;simp only[Ua]at a;rw[<-a x sm];exact h
 .rename_i c x y b;rw[b]at a;simp only[Ua]at a;rw[<-a c sm,<-a x sm,<-a y sm];exact h
 .rename_i t b;exact h
 .rename_i t x b;rw[b]at a;simp only[Ua]at a;rw[<-a x sm];exact h
 .rename_i t ps b;rw[b]at a;simp only[Ua]at a;have:(ps.toList.map fun p=>(p.1,ev O p.2))=ps.toList.map fun p=>(p.1,ev O' p.2):=lS fun p q=>by rw[a p.2 (by simp;exact⟨p.1,by simpa using q⟩)]
  rw[<-this];exact h
 .rename_i t n ps b;rw[b]at a;simp only[Ua]at a;have:(ps.toList.map fun p=>(p.1,ev O p.2))=ps.toList.map fun p=>(p.1,ev O' p.2):=lS fun p q=>by rw[a p.2 (by simp;exact⟨p.1,by simpa using q⟩)]
  rw[<-this];exact h
 .rename_i t x b;rw[b]at a;simp only[Ua]at a;rw[<-a x sm];exact h
 .rename_i t x y b;rw[b]at a;simp only[Ua]at a;rw[<-a x sm,<-a y sm];exact h
 .rename_i x b;rw[b]at a;simp only[Ua]at a;rw[<-a x sm];exact h
 .rename_i op t x y _ b;rw[b]at a;simp only[Ua]at a;rw[<-a x sm,<-a y sm];exact h
 .rename_i op t x b;rw[b]at a;simp only[Ua]at a;rw[<-a x sm];exact h
 .rename_i s d x b;rw[b]at a;simp only[Ua]at a;rw[<-a x sm];exact h
 .rename_i f fi cs b;rw[b]at a;simp only[Ua]at a;rw[<-j cs.toList (fun x e=>a x (by simp;exact aQ (by simpa using e))),<-j fi.toList (fun x e=>a x (by simp;exact a6 (by simpa using e)))];exact h
 .rename_i t x y b;rw[b]at a;simp only[Ua]at a;rw[<-a x sm,<-a y sm];exact h
 .rename_i t x lo w mx b;rw[b]at a;simp only[Ua]at a;have k:∀y:Option UL,(∀z,y=ho z->ev O z=ev O' z)->y.map (ev O)=y.map (ev O'):=fun y A=>by cases y<;>simp[A]
  rw[<-a x sm,<-k lo (fun z m=>a z (by subst m;simp)),<-k w (fun z m=>a z (by subst m;simp)),<-k mx (fun z m=>a z (by subst m;simp))];exact h
 .rename_i t x f b;rw[b]at a;simp only[Ua]at a;rw[<-a x sm];exact h
 .rename_i t x i b;rw[b]at a;simp only[Ua]at a;rw[<-a x sm,<-a i sm];exact h
 .rename_i t x i b;rw[b]at a;simp only[Ua]at a;rw[<-a x sm,<-a i sm];exact h
 .rename_i x i b;rw[b]at a;simp only[Ua]at a;rw[<-a x sm];exact h
 .rename_i c b;rw[b]at a;simp only[Ua,Call.operands]at a;have g:∀x∈c.args.toList,ev O x=ev O' x:=fun x e=>a x (by simp;exact aQ (by simpa using e))
  unfold yd at h ⊢;split at h
  .rename_i f B;rw[B]at a;simp only at a;rw[<-a f sm,<-j _ g];exact h
  .rename_i r;split at h
   .rename_i x t e u;rw[<-g x (by rw[e];simp)];exact h
   .exact h.elim
  .rename_i r;split at h
   .rename_i x y e;rw[<-g x (by rw[e];simp),<-g y (by rw[e];simp)];exact h
   .exact h.elim
  .rename_i r;split at h
   .rename_i s x t t' e u;rw[<-g x (by rw[e];simp),<-g s (by rw[e];simp)];exact h
   .exact h.elim
  .rename_i r;split at h
   .rename_i s x t t' e u;rw[<-g x (by rw[e];simp),<-g s (by rw[e];simp)];exact h
   .exact h.elim
  .exact h.elim
 .exact h.elim

def mM:TW->Option eA
 | 50=>ho ⟨50,2,1,fun _=>Ue 0⟩
 | 52=>ho ⟨52,1,1,fun _=>US⟩
 | 167=>ho ⟨167,2,2,fun _=>Ue 0⟩
 | 218=>ho ⟨218,1,2,fun j=>if j=0 then US else Ug Uc 0⟩
 | _=>ae
def KH(h:mM t=ho X):∃zc:Array TM,X.ty=t/\(∀w,(Instr.alloc t TN (UB #[])).run ak w=.ok (Uk (ho ⟨w.heap.size,0,ae⟩)) (w.alloc (.cells zc t))) /\
  X.es*X.n<=zc.size/\(∀w M j,j<X.n->∃u,reads zc (X.es*j) X.es u/\bI w M (X.g j) u)/\∀(k:Nat) (y:TM),zc[k]? = ho y->lQ y:=by
 have key:∀(z':TM) (s b:Nat),ml ak t=ho (z',s,b)->∃i,ak.info? t=ho i/\i.zero=ho z':=by
  intro z' s b e;unfold ml at e
  cases f:ak.info? t with
  | none=>rw[f]at e;simp at e
  | some i =>
   rw[f]at e;simp only[dS,eY,jV]at e;obtain⟨z2,m,o,G,H⟩:=e;exact⟨i,rfl,by rw[m,o]⟩
 have fin:∀(l:List AV) (vs:List TM) (z:TM) (s b:Nat),ml ak t=ho (z,s,b)->z.cells=(vs.flatMap (fun u=>u.cells.toList)).toArray->(∀w M,bB w M l vs)->(∀y∈l,dY X.es y)->X.ty=t->X.n=l.length->(∀j,j<l.length->X.g j=l.getD j Up) ->
   ∃zc:Array TM,X.ty=t/\(∀w,(Instr.alloc t TN (UB #[])).run ak w=.ok (Uk (ho ⟨w.heap.size,0,ae⟩)) (w.alloc (.cells zc t))) /\
   X.es*X.n<=zc.size/\(∀w M j,j<X.n->∃u,reads zc (X.es*j) X.es u/\bI w M (X.g j) u)/\∀(k:Nat) (y:TM),zc[k]? = ho y->lQ y:=by
  intro l vs z s b A p r d B x C;obtain⟨i,f,v⟩:=key z s b A;refine⟨z.cells,B,fun w=>Ca f v w,?_,fun w M j a=>?_,fun k y c=>?_⟩
  .obtain⟨_,D,_,_⟩:=iR l vs (r default (fun _=>False)) d;rw[p,ct,D,x];exact ag _
  .obtain⟨_,_,_,E⟩:=iR l vs (r w M) d;rw[x]at a;obtain⟨u,m,o⟩:=E j a;refine⟨u,?_,by rw[C j a];exact m⟩
   have:=o z.cells 0 (fun q _=>by rw[p];simp)
   simpa using this
  .obtain⟨_,_,F,_⟩:=iR l vs (r default (fun _=>False)) d;rw[p,fz]at c;exact(F y (gM c)).2
 have zb:∀w M,bI w M (Ue 0) (Uf #[TR TJ,TK ae 0 0]):=fun w M=>by simp only[bI];exact eC.zero w
 unfold mM at h;split at h
 .cases h
  exact fin [Ue 0] [Uf #[TR TJ,TK ae 0 0]] (Uf #[TR TJ,TK ae 0 0]) 2 32 kr rfl (fun w M=>by simp only[bB];exact⟨zb w M,trivial⟩) (fun y c=>by simp at c;subst c;simp[dY]) rfl rfl (fun j a=>by simp at a;subst a;rfl)
 .cases h
  exact fin [US] [TK ae 0 0] (TK ae 0 0) 1 24 kr rfl (fun w M=>by simp[bB,bI]) (fun y c=>by simp at c;subst c;simp[dY]) rfl rfl (fun j a=>by simp at a;subst a;rfl)
 .cases h
  exact fin (cp 2 (Ue 0)) (cp 2 (Uf #[TR TJ,TK ae 0 0])) (Uf #[TR TJ,TK ae 0 0,TR TJ,TK ae 0 0]) 4 64 kr rfl (fun w M=>kv (zb w M) 2) (fun y c=>by rw[iK c];simp[dY]) rfl rfl
   (fun j a=>(Ah (by rw[ow]at a;exact a) _ _).symm)
 .cases h
  exact fin [US,Ug Uc 0] [TK ae 0 0,TQ Uc 0] (Uf #[TK ae 0 0,TQ Uc 0]) 2 32 kr rfl (fun w M=>by simp[bB,bI]) (fun y c=>by simp at c;rcases c with rfl|rfl<;>simp[dY]) rfl rfl
   (fun j a=>by match j with
    | 0=>rfl
    | 1=>rfl
    | j+2=>exact absurd a (by simp only[cL,iu];omega))
 .cases h
mutual
def rm:AV->Bool
 | Ug ..=>true
 | Ub _=>true
 | Ue _=>true
 | US=>true
 | Vg ..=>true
 | UA ..=>true
 | .mag _=>true
 | .fp ..=>true
 | .bset _=>true
 | Up=>true
 | .nfn=>true
 | WH _ l=>E8 l
 | UE l=>E8 l
 | .agg l=>E8 l
 | .fn _ l=>E8 l
 | UM ..=>false
 | WF ..=>false
def E8:List AV->Bool
 | []=>true
 | x::l=>rm x&&E8 l
end
mutual
theorem ue{w:TO}{M M':Nat->Prop}:∀{x:AV} {v:TM},rm x=TN->bI w M x v->bI w M' x v
 | Ug ..,v,_,a=>by simpa [bI]using a
 | Ub _,v,_,a=>by simpa [bI]using a
 | Ue _,v,_,a=>by simpa [bI]using a
 | US,v,_,a=>by simpa [bI]using a
 | Vg ..,v,_,a=>by simpa [bI]using a
 | UA ..,v,_,a=>by simpa [bI]using a
 | .mag _,v,_,a=>by simpa [bI]using a
 | .fp ..,v,_,a=>by simpa [bI]using a
 | .bset _,v,_,a=>by simpa [bI]using a
 | Up,v,_,a=>by simp[bI]
 | .nfn,v,_,a=>by simpa [bI]using a
 | WH f l,v,h,a=>by
  simp only[rm]at h;simp only[bI]at a ⊢;obtain⟨vs,b,c⟩:=a;exact⟨vs,b,rl h c⟩
 | UE l,v,h,a=>by
  simp only[rm]at h;simp only[bI]at a ⊢;obtain⟨vs,b,c⟩:=a;exact⟨vs,b,rl h c⟩
 | .agg l,v,h,a=>by
  simp only[rm]at h;simp only[bI]at a ⊢;obtain⟨vs,b,c⟩:=a;exact⟨vs,b,rl h c⟩
 | .fn f l,v,h,a=>by
  simp only[rm]at h;simp only[bI]at a ⊢;obtain⟨vs,b,c⟩:=a;exact⟨vs,b,rl h c⟩
 | UM ..,v,h,_=>by simp[rm]at h
 | WF ..,v,h,_=>by simp[rm]at h
theorem rl{w:TO}{M M':Nat->Prop}:∀{l:List AV} {vs:List TM},E8 l=TN->bB w M l vs->bB w M' l vs
 | [],[],_,_=>by simp[bB]
 | x::l,v::vs,h,a=>by
  simp only[E8,cV]at h;simp only[bB]at a ⊢;exact⟨ue h.1 a.1,rl h.2 a.2⟩
 | [],_::_,_,a=>by simp[bB]at a
 | _::_,[],_,a=>by simp[bB]at a
end
def BF:Nat->Prop:=fun _=>False
def EY:Op->Bool
 | WM _=>true
 | .assign _=>true
 | .pick ..=>true
 | .build ..=>true
 | .load ..=>true
 | VY _=>true
 | .binOp ..=>true
 | .unOp ..=>true
 | Wj ..=>true
 | VX ..=>true
 | .slice ..=>true
 | VG ..=>true
 | VH ..=>true
 | Wk ..=>true
 | WC { callee:=UP .len,.. }=>true
 | _=>false
def vA(f:Nat)(args:List AV)(S:St)(z:AV):Prop :=
 ∀(w:TO) (vs:List TM),eF w S->bB w S.dom args vs->Calls ak f vs.toArray w (fun e w'=>∃v,e=.returned v/\bI w' S.dom z v/\dA BF BF w w')
def BJ(o:TZ)(O:Tm)(S:St)(z:AV):Prop:=(EY o.op=TN/\D5 o O S (fun z' S'=>z'=z/\S'=S)) ∨
 (match o.op with
 | WC c=>(match c.callee with
  | Wr f=>(match ev O f with
   | .fn f l=>((11<=f/\f<270)/\f≠252/\f≠253)/\vA f (c.args.toList.map (ev O)++l) S z
   | _=>False)
  | _=>False)
 | UU t n ps=>eP t n (ps.toList.map fun p=>(p.1,ev O p.2)) z
 | _=>False)
def M5(j:EY o.op=TN){O:Tm}{S:St}{K:AV->St->Prop}(h:D5 o O S K){N:Nat}{a:Act}{w:TO}(g:RT O S N a w) :
  ∃z v,K z S/\bI w S.dom z v/\(TU a.eval o).run ak w=.ok (.value v) w:=by
 have pure_:∀(s:Sem TM),(TU a.eval o=do let x <-s;pure (.value x))->(∃z u,K z S/\bI w S.dom z u/\s.run ak w=.ok u w)->∃z v,K z S/\bI w S.dom z v/\(TU a.eval o).run ak w=.ok (.value v) w:=by
  intro s J ⟨z,u,r,A,C⟩;exact⟨z,u,r,A,by rw[J];simp[C]⟩
 unfold D5 at h;split at h
 .rename_i x e;exact⟨_,_,h,g.ev x,by simp[TU,e]⟩
 .rename_i x e;exact⟨_,_,h,g.ev x,by simp[TU,e]⟩
 .rename_i c x y e;have B:=g.ev c
  cases D:ev O c<;>rw[D]at h B<;>try exact h.elim
  rename_i t;simp only[bI]at B;refine⟨_,if t then a.eval x else a.eval y,h,?_,by simp[TU,e,B,asBool]⟩
  cases t
  .exact g.ev y
  .exact g.ev x
 .rename_i t e;rw[e]at j;simp[EY]at j
 .rename_i t x e;rw[e]at j;simp[EY]at j
 .rename_i t ps e;obtain⟨z,u,r,A,C⟩:=uZ h (rP g ps.toList);exact⟨z,u,r,A,by rw[Am e,C];rfl⟩
 .rename_i t n ps e;rw[e]at j;simp[EY]at j
 .rename_i t x e;exact pure_ (Instr.loadAt t (a.eval x)) (by simp[TU,e]) (rK h g.st (g.ev x))
 .rename_i t x y e;rw[e]at j;simp[EY]at j
 .rename_i x e;have k:=g.ev x
  cases p:ev O x<;>rw[p]at h k<;>try exact h.elim
  .have q:=k;simp only[bI]at k;exact⟨_,a.eval x,h,q,by simp[TU,e,k]⟩
  .have q:=k;simp only[bI]at k;obtain⟨b,off,u,k,_⟩:=k;exact⟨_,a.eval x,h,q,by simp[TU,e,k]⟩
 .rename_i op t x y _ e;have:=AO (ty:=t) h (g.ev x) (g.ev y) x y;exact pure_ (do eqGuard op t x y (a.eval x) (a.eval y);binOp op t (a.eval x) (a.eval y)) (by simp[TU,e]) this
 .rename_i op t x e;exact pure_ (Vq op (a.eval x)) (by simp[TU,e]) (Cx h (g.ev x))
 .rename_i s d x e;exact pure_ (convert s d (a.eval x)) (by simp[TU,e]) (yc h (g.ev x))
 .rename_i f fi cs e;obtain⟨z,r,A⟩:=uW h g;exact⟨_,.func (.func f) (fi.map a.eval) (cs.map a.eval),r,A,by simp[TU,e,VI]⟩
 .rename_i t x y e;rw[e]at j;simp[EY]at j
 .rename_i t x lo I mx e;exact pure_ (Instr.sliceAt t (a.eval x) (lo.map a.eval) (I.map a.eval) (mx.map a.eval)) (by simp[TU,e]) (uV h (g.ev x) (pQ g lo) (pQ g I) (pQ g mx))
 .rename_i t x f e;exact pure_ (Instr.fieldAt t (a.eval x) f) (by simp[TU,e]) (uY h (g.ev x))
 .rename_i t x i e;exact pure_ (Instr.indexAt t (a.eval x) (a.eval i)) (by simp[TU,e]) (uX h (g.ev x) (g.ev i))
 .rename_i t x i e;rw[e]at j;simp[EY]at j
 .rename_i x i e;have k:=g.ev x
  cases p:ev O x<;>rw[p]at h k<;>try exact h.elim
  rename_i l;simp only at h
  cases E:l[i]? with
  | none=>rw[E]at h;exact h.elim
  | some z =>
   rw[E]at h;simp only[bI]at k;obtain⟨vs,k,F⟩:=k;obtain⟨v,L,M⟩:=vn l vs F i z E;exact⟨_,v,h,M,by simp[TU,e,VS,k,L]⟩
 .rename_i c e;unfold yd at h;split at h
  .rename_i f m;obtain⟨ce,ar,at_⟩:=c;simp only at m;subst m;rw[e]at j;simp[EY]at j
  .rename_i B;split at h
   .rename_i x t k P;have G:c.args=#[x]:=by apply gJ;simpa using k
    have H:c.argTypes=#[t]:=by apply gJ;simpa using P
    exact pure_ (Builtin.len_ #[t] o.type #[a.eval x]) (by simp[TU,e,UV,B,Vh,Vs,G,H]) (AL h (g.ev x))
   .exact h.elim
  .rename_i m;obtain⟨ce,ar,at_⟩:=c;simp only at m;subst m;rw[e]at j;simp[EY]at j
  .rename_i m;obtain⟨ce,ar,at_⟩:=c;simp only at m;subst m;rw[e]at j;simp[EY]at j
  .rename_i m;obtain⟨ce,ar,at_⟩:=c;simp only at m;subst m;rw[e]at j;simp[EY]at j
  .exact h.elim
 .exact h.elim
def CN(h:BJ o O S z){N:Nat}{a:Act}{w:TO}(d:RT O S N a w){next:Act->TO->Prop}{Q:Exit->Act->TO->Prop}
  (k:∀v w',bI w' S.dom z v->dA BF BF w w'->next (a.put o.dst v) w'):o.wp ak a w next Q:=by
 rcases h with⟨y,h⟩|h
 .obtain⟨z',v,⟨rfl,_⟩,i,m⟩:=M5 y h d;exact ix m (k v w i (dA.refl _ _))
 .split at h
  .rename_i c p;split at h
   .rename_i f A;have b:=d.ev f
    cases q:ev O f<;>rw[q]at h b<;>try exact h.elim
    rename_i g l;simp only[bI]at b;obtain⟨vs,r,s⟩:=b;obtain⟨B,u⟩:=h;have j:(TU a.eval o).run ak w=.ok (.enter g (c.args.map a.eval++vs.toArray)) w:=by
     simp[TU,p,UV,A,Deferred.ofValue,r,Vh,Mt B]
    unfold Oper.wp;rw[j];have hargs:(c.args.map a.eval++vs.toArray)=(c.args.toList.map a.eval++vs).toArray:=by apply gJ;simp
    rw[hargs];refine(u w _ d.st (oR _ _ _ _ (pR d _) s)).mono ?_;rintro e w' ⟨v,rfl,x,i⟩;exact k v w' x i
   .exact h.elim
  .rename_i t n ps p;obtain⟨v,w',x,i,m⟩:=uA h d.st (rP d ps.toList);exact ix (by rw[qN p,x];rfl) (k v w' i m)
  .exact h.elim
def sA(a:∀x,x∈o.op.operands.toList->ev O x=ev O' x)(h:BJ o O S z):BJ o O' S z:=by
 rcases h with⟨e,h⟩|h
 .exact a6 ⟨e,wV a h⟩
 .refine aQ ?_;split at h
  .rename_i c b;rw[b]at a;simp only[Ua,Call.operands]at a;split at h
   .rename_i f g;rw[g]at a;simp only at a;have d:c.args.toList.map (ev O)=c.args.toList.map (ev O'):=lS fun x i=>a x (by simp;exact aQ (by simpa using i))
    rw[<-a f sm,<-d];exact h
   .exact h.elim
  .rename_i t n ps b;rw[b]at a;have d:(ps.toList.map fun p=>(p.1,ev O p.2))=ps.toList.map fun p=>(p.1,ev O' p.2):=lS fun p j=>by
    rw[a p.2 (by simp only[Ua];simp;exact⟨p.1,by simpa using j⟩)]
   rw[<-d];exact h
  .exact h.elim
def Gg:List TZ->Tm->St->List (Nat×eA)->(Tm->List (Nat×eA)->Prop)->Prop
 | [],O,_,pend,K=>K O pend
 | o::l,O,S,pend,K=>(match o.op,o.dst with
  | .alloc t,ho d=>(match mM t with
   | some X=>Gg l (O.put (ho d) Up) S (pend++[(d,X)]) K
   | ae=>False)
  | _,_=>∃z,BJ o O S z/\Gg l (O.put o.dst z) S pend K)
def oO:List (Nat×eA)->Tm->St->(Tm->St->Prop)->Prop
 | [],O,S,K=>K O S
 | (d,X)::r,O,S,K=>∀b,S b=ae->oO r (O.put (ho d) (UA X.es b 0)) (S.upd b X) K
def Aq(ds:List Nat)(O:Tm):Tm:=fun t=>if ds.contains t&&!rm (O t)then Up else O t
def qz(l:List TZ):List Nat:=l.filterMap (·.dst)
def looks(o:TZ):List Nat:=o.op.operands.toList.filterMap fun
 | .tmp t=>ho t
 | _=>ae
def vW(o:TZ):List Nat:=(o.after.toList.filter (Region.binds .any)).map (·.on)
def tZ(ops:Array TZ):Nat->Nat->Nat->Bool
 | 0,_,_=>false
 | f+1,j,i=>(match ops[i]? with
  | some o=>(vW o).contains j||(vW o).any (fun k=>Nat.ble j k&&tZ ops f j k)
  | ae=>TJ)
theorem Cu:∀(l:List TZ) (O:Tm) (S:St) (pend:List (Nat×eA)) (K:Tm->List (Nat×eA)->Prop),Gg l O S pend K ->
  ∃(Os:Nat->Tm) (al:Nat->Option eA),Os 0=O/\K (Os l.length) (pend++(xh l.length).filterMap (fun i=>(al i).bind fun X=>(l[i]?).bind fun o=>o.dst.map fun d=>(d,X))) /\
   ∀i o,l[i]? = ho o->(∃t d X,o.op=.alloc t/\o.dst=ho d/\mM t=ho X/\al i=ho X/\Os (i+1)=(Os i).put (ho d) Up) ∨
    (al i=ae/\∃z,BJ o (Os i) S z/\Os (i+1)=(Os i).put o.dst z)
 | [],O,S,pend,K,h=>⟨fun _=>O,fun _=>ae,rfl,by simpa [Gg]using h,fun i o c=>by simp at c⟩
 | o::l,O,S,pend,K,h=>by
  have glue:∀(x:Option eA) (O1:Tm) (pend1:List (Nat×eA)),(pend1=pend++(x.bind fun X=>o.dst.map fun d=>(d,X)).toList)->Gg l O1 S pend1 K ->
    ((∃t d X,o.op=.alloc t/\o.dst=ho d/\mM t=ho X/\x=ho X/\O1=O.put (ho d) Up)∨(x=ae/\∃z,BJ o O S z/\O1=O.put o.dst z)) ->
    ∃(Os:Nat->Tm) (al:Nat->Option eA),Os 0=O/\K (Os (o::l).length) (pend++(xh (o::l).length).filterMap (fun i=>(al i).bind fun X=>((o::l)[i]?).bind fun o=>o.dst.map fun d=>(d,X))) /\
     ∀i o',(o::l)[i]? = ho o'->(∃t d X,o'.op=.alloc t/\o'.dst=ho d/\mM t=ho X/\al i=ho X/\Os (i+1)=(Os i).put (ho d) Up) ∨
      (al i=ae/\∃z,BJ o' (Os i) S z/\Os (i+1)=(Os i).put o'.dst z):=by
   intro x O1 pend1 k e m;obtain⟨Os,al,n,b,p⟩:=Cu l O1 S pend1 K e;refine⟨fun i=>match i with|0=>O|i+1=>Os i,fun i=>match i with|0=>x|i+1=>al i,rfl,?_,fun i o' c=>?_⟩
   .simp only[cL];rw[k]at b;rw[List.range_succ_eq_map,Bj,List.filterMap_map];have q:(fun i=>((al i).bind fun X=>(l[i]?).bind fun o=>o.dst.map fun d=>(d,X)))=((fun i=>(match i with|0=>x|i+1=>al i:Option eA).bind fun X=>((o::l)[i]?).bind fun o=>o.dst.map fun d=>(d,X))∘Nat.succ):=by
     funext i;simp
    rw[<-q]
    cases a:(x.bind fun X=>o.dst.map fun d=>(d,X))with
    | none=>rw[a]at b;simp only[Option.toList_none,JA]at b;simp only[dE,dS];rw[a];exact b
    | some y=>rw[a]at b;simp only[Option.toList_some,Eu,R3]at b;simp only[dE,dS];rw[a];exact b
   .cases i with
    | zero =>
     simp at c;subst c;simp only[n];exact m
    | succ i =>
     simp only[dd]at c;exact p i o' c
  unfold Gg at h;split at h
  .rename_i t d f j
   cases g:mM t with
   | none=>rw[g]at h;exact h.elim
   | some X =>
    rw[g]at h;exact glue (ho X) _ _ (by rw[j];rfl) h (a6 ⟨t,d,X,f,j,g,rfl,rfl⟩)
  .obtain⟨z,r,e⟩:=h;exact glue ae _ _ sm e (aQ ⟨rfl,z,r,rfl⟩)

def mg(h:i∈kJ .any ops listed):∃o,ops[i]? = ho o/\listed.getD i TN=TJ/\∀k∈vW o,listed.getD k TJ=TN:=by
 simp only[kJ,qd,yX,cV,sH]at h;obtain⟨d,f,a⟩:=h;have b:ops[i]? = ho ops[i]:=dy d;rw[b]at a;refine⟨ops[i],b,f,fun k c=>?_⟩;simp only[dw,iE]at a;simp only[vW,ib,qd]at c;obtain⟨e,⟨g,j⟩,rfl⟩:=c;have:=(Ey.1 a) e (by simpa using g)
 simpa [j]using this
def LJ(a:ops[i]? = ho o)(c:listed.getD i TN=TJ)(d:∀k∈vW o,listed.getD k TJ=TN):i∈kJ .any ops listed:=by
 have f:i<ops.size:=(jt.1 a).1;simp only[kJ,qd,yX,cV,sH];refine⟨f,c,?_⟩;rw[a];simp only[dw,iE];refine Ey.2 fun e g=>?_;by_cases b:Region.binds .any e=true
 .have:=d e.on (by simp only[vW,ib,qd];exact⟨e,⟨by simpa using g,b⟩,rfl⟩)
  rw[this];simp
 .simp[b]
def Sg(listed:Array Bool):Nat:=listed.toList.countP (·==TJ)
def Iy(h:listed.getD i TN=TJ):Sg (listed.setIfInBounds i TN)+1=Sg listed:=by
 have a:i<listed.size:=by
  rcases aB i listed.size with b|b
  .exact b
  .rw[cT,eo b]at h;cases h
 have c:listed.toList[i]'(by simpa using a)=TJ:=by
  rw[cT,dy a]at h;simpa using h
 simp only[Sg,Array.toList_setIfInBounds];rw[List.countP_set (by simpa using a),c]
 have:0<listed.toList.countP (·==TJ):=List.countP_pos_iff.2 ⟨TJ,by rw[<-c];exact Gj _,rfl⟩
 rw[aj (by rfl),ah dc]
 omega
def mi(listed:Array Bool)(i k:Nat)(d:Bool)(a:i<listed.size):(listed.setIfInBounds i TN).getD k d=if k=i then TN else listed.getD k d:=by
 simp only[cT];by_cases e:k=i
 .subst e;simp[a]
 .rw[ah e,dM (ai e)]
theorem qj{ops:Array TZ}{Q:Exit->Act->TO->Prop}(I:Array Bool->Act->TO->Prop)
  (hstep:∀listed a w i,I listed a w->i∈kJ .any ops listed->wpOp ak ops Q i (fun a' w'=>I (listed.setIfInBounds i TN) a' w') a w)
  (b:∀listed a w,I listed a w->kJ .any ops listed=[]->Q .normal a w) :
  ∀fuel listed a w,Sg listed<=fuel->I listed a w->wpAny ak .any ops Q fuel listed a w
 | 0,listed,a,w,g,c=>by
  have d:kJ .any ops listed=[]:=by
   cases d:kJ .any ops listed with
   | nil=>rfl
   | cons x xs =>
    obtain⟨o,_,e,_⟩:=mg (i:=x) (by rw[d];exact fE ..)
    have:=Iy e;omega
  exact⟨d,b listed a w c d⟩
 | fuel+1,listed,a,w,g,c=>by
  refine⟨b listed a w c,fun i f=>?_⟩;obtain⟨o,_,e,_⟩:=mg f;have j:=Iy e;exact wpOp_mono (fun a' w' h=>qj I hstep b fuel _ a' w' om h) (hstep listed a w i c f)
def xA(ops:Array TZ)(listed:Array Bool):Prop:=∀(i:Nat) (o:TZ),ops[i]? = ho o->listed.getD i TJ=TN->∀k∈vW o,listed.getD k TJ=true
theorem tY{ops:Array TZ}{listed:Array Bool}(b:xA ops listed):∀(f j i:Nat) (o:TZ),ops[i]? = ho o->(∀k∈vW o,listed.getD k TJ=TN)->tZ ops f j i=TN->listed.getD j TJ=true
 | 0,_,_,_,_,_,h=>by simp[tZ]at h
 | f+1,j,i,o,d,c,h=>by
  simp only[tZ,d,qh]at h;rcases h with h|h
  .exact c j (by simpa using h)
  .obtain⟨k,e,h⟩:=List.any_eq_true.1 h
   replace h:=(cV _ _▸h:_/\_).2
   cases f with
   | zero=>simp[tZ]at h
   | succ f =>
    cases a:ops[k]? with
    | none=>simp[tZ,a]at h
    | some ok=>exact tY b (f+1) j k ok a (b k ok a (c k e)) h
def oY(h:l[i]? = ho o):(o,i)∈l.zipIdx:=by
 rw[List.mem_zipIdx_iff_getElem?];exact h
def uf(h:∀t∈looks o,O t=O' t):∀x,x∈o.op.operands.toList->ev O x=ev O' x:=by
 intro x a
 cases x with
 | tmp t=>exact h t (by simp only[looks,SY];exact⟨.tmp t,a,rfl⟩)
 | const v=>rfl
 | global g=>rfl
 | func f=>rfl
def eF.fresh(h:eF w S){b:Nat}(c:w.heap.size<=b):S b=ae:=by
 cases e:S b with
 | none=>rfl
 | some X=>obtain⟨cs,a,_⟩:=h b X e;exact absurd (fN a) om

mutual
theorem bI.turn{M M':Nat->Prop}{w:TO}(o:∀k,k<w.heap.size->M' k->M k):∀(a:AV) (v:TM),bI w M a v->bI w M' a v
 | Ug k n,v,h=>by simpa [bI]using h
 | Ub b,v,h=>by simpa [bI]using h
 | Ue z,v,h=>by simpa [bI]using h
 | US,v,h=>by simpa [bI]using h
 | Vg es b off len,v,h=>by simpa [bI]using h
 | UA es b i,v,h=>by simpa [bI]using h
 | UM es n g,v,h=>by
  simp only[bI]at h ⊢;obtain⟨A,c,d,m,C⟩:=h;refine⟨A,c,d,m,fun D=>?_⟩;obtain⟨b,off,e,s,q,E⟩:=C D;refine⟨b,off,e,s,fun r=>q (o b s r),fun j t=>?_⟩;obtain⟨u,y,B⟩:=E j t;exact⟨u,y,bI.turn o (g j) u B⟩
 | WF es x,v,h=>by
  simp only[bI]at h ⊢;obtain⟨b,off,u,d,s,q,y,F⟩:=h;exact⟨b,off,u,d,s,fun r=>q (o b s r),y,bI.turn o x u F⟩
 | UE l,v,h=>by
  simp only[bI]at h ⊢;obtain⟨vs,d,m⟩:=h;exact⟨vs,d,bB.turn o l vs m⟩
 | .agg l,v,h=>by
  simp only[bI]at h ⊢;obtain⟨vs,d,m⟩:=h;exact⟨vs,d,bB.turn o l vs m⟩
 | .fn f l,v,h=>by
  simp only[bI]at h ⊢;obtain⟨vs,d,m⟩:=h;exact⟨vs,d,bB.turn o l vs m⟩
 | .mag n,v,h=>by simpa [bI]using h
 | .fp b i f,v,h=>by simpa [bI]using h
 | .bset p,v,h=>by simpa [bI]using h
 | Up,v,h=>by simp[bI]
 | .nfn,v,h=>by simpa [bI]using h
 | WH f l,v,h=>by
  simp only[bI]at h ⊢;obtain⟨vs,d,m⟩:=h;exact⟨vs,d,bB.turn o l vs m⟩
theorem bB.turn{M M':Nat->Prop}{w:TO}(b:∀k,k<w.heap.size->M' k->M k):∀(l:List AV) (vs:List TM),bB w M l vs->bB w M' l vs
 | [],[],_=>by simp[bB]
 | a::l,v::vs,h=>by
  simp only[bB]at h ⊢;exact⟨bI.turn b a v h.1,bB.turn b l vs h.2⟩
 | [],_::_,h=>by simp[bB]at h
 | _::_,[],h=>by simp[bB]at h
end
def dA.any(h:dA BF BF w w')(M:Nat->Prop):dA M M w w':=⟨h.os,h.tape,h.output,h.size,fun k a _=>h.keep k a (fun x=>x),h.shape,fun _ _ h=>h⟩
def eF.frozen(h:eF w S)(a:dA BF BF w w'):eF w' S:=⟨h.z,h.gl.grow a (fun x=>x),fun b X d=>by
 obtain⟨cs,c,e,f,g⟩:=h b X d;exact⟨cs,(a.keep b (fN c) (fun x=>x)).trans c,e,fun j i=>by obtain⟨u,k,l⟩:=f j i;exact⟨u,k,bI.grow h.noU (a.any _) _ _ l⟩,g⟩⟩
def Qy(w:TO)(M:Nat->Prop)(S:St):Prop:=∀b x,S b=ho x->∃cs,w.heap[b]? = ho (.cells cs x.ty (0,0))/\x.es*x.n<=cs.size /\
 (∀j,j<x.n->∃u,reads cs (x.es*j) x.es u/\bI w M (x.g j) u)/\∀(k:Nat) (y:TM),cs[k]? = ho y->lQ y
def ZX(X:eA)(zc:Array TM):Prop:=X.es*X.n<=zc.size/\(∀w M j,j<X.n->∃u,reads zc (X.es*j) X.es u/\bI w M (X.g j) u)/\∀(k:Nat) (y:TM),zc[k]? = ho y->lQ y
theorem xZ{w:TO}{a:Act}{N B0:Nat}{M:Nat->Prop}{K:Tm->St->Prop}:∀(L:List (Nat×eA×Nat)) (O:Tm) (S:St),oO (L.map fun x=>(x.1,x.2.1)) O S K ->
  Qy w M S->(∀t,bI w M (O t) (a.tmps.getD t Ut))->(∀x∈L,a.tmps.getD x.1 Ut=Uk (ho ⟨x.2.2,0,ae⟩)/\∃zc,w.heap[x.2.2]? = ho (.cells zc x.2.1.ty (0,0))/\ZX x.2.1 zc) ->
  (L.map (·.2.2)).Nodup->(∀x∈L,S x.2.2=ae/\B0<=x.2.2) ->
  ∃O' S',K O' S'/\Qy w M S'/\(∀t,bI w M (O' t) (a.tmps.getD t Ut))/\∀k,S'.dom k->S.dom k∨B0<=k
 | [],O,S,h,i,l,_,_,_=>⟨O,S,by simpa [oO]using h,i,l,fun k m=>a6 m⟩
 | (d,X,b)::L,O,S,h,i,l,o,n,p=>by
  simp only[iJ,oO]at h;obtain⟨q,zc,r,s,u,v⟩:=o (d,X,b) (fE ..);obtain⟨y,z⟩:=p (d,X,b) (fE ..);simp only at q r s u v y z;simp only[iJ,xn]at n;obtain⟨O',S',A,B,C,D⟩:=xZ (B0:=B0) (N:=N) L (O.put (ho d) (UA X.es b 0)) (S.upd b X) (h b y)
   (fun k Y c=>by
    simp only[St.upd]at c;by_cases e:k=b
    .rw[aj e]at c;cases c;subst e;exact⟨zc,r,s,fun j E=>u w M j E,v⟩
    .rw[ah e]at c;exact i k Y c)
   (fun t=>by
    simp only[Tm.put_eq];by_cases e:t=d
    .subst e;rw[aj rfl,q];simp[bI]
    .rw[ah e];exact l t)
   (fun x g=>o x (eh _ g)) n.2
   (fun x g=>by
    obtain⟨s1,F⟩:=p x (eh _ g);refine⟨?_,F⟩;simp only[St.upd];rw[ah]
    .exact s1
    .intro e;exact n.1 (by rw[<-e];exact ib.2 ⟨x,g,rfl⟩))
  refine⟨O',S',A,B,C,fun k m=>?_⟩;rcases D k m with f|f
  .simp only[St.dom,St.upd]at f ⊢;by_cases e:k=b
   .right;rw[e];exact z
   .rw[ah e]at f;exact a6 f
  .exact aQ f
def wA{t:Nat}(h:d≠ho t):(a.put d v).tmps.getD t Ut=a.tmps.getD t Ut:=by
 cases d with
 | none=>rfl
 | some d =>
  simp only[Act.put,cT];rw[dM (fun e=>h (by rw[e]))]
def put_eq{d:Nat}(h:d<a.tmps.size):(a.put (ho d) v).tmps.getD d Ut=v:=by
 simp[Act.put,VF,h]
def zQ:(a.put d v).tmps.size=a.tmps.size:=by cases d<;>simp[Act.put]
def ta:(a.put d v).defers=a.defers:=by cases d<;>simp[Act.put]

def Mg(l:List TZ)(q j:Nat):Bool:=decide (j<q)&&(match l[j]? with
 | some o=>EY o.op&&(match o.dst with
  | some d=>(l.zipIdx.drop q).all (fun p=>(match p.1.dst with
    | some t=>!(looks o).contains t&&decide (t≠d)
    | ae=>TN)&&(!(looks p.1).contains d||(vW p.1).contains j))
  | _=>TJ)
 | ae=>TJ)
def Mf(l:List TZ)(j:Nat):Bool:=match l[j]? with
 | some o=>(match o.op with
  | WM _=>true
  | _=>TJ)
 | ae=>false
def Dx:List (List Nat)->List Nat
 | []=>[]
 | js::_=>js
def Md:List (List Nat)->List (List Nat)
 | []=>[]
 | [js]=>[js]
 | _::r=>r
def G1(jss:List (List Nat)):Nat->List (List Nat)
 | 0=>jss
 | k+1=>Md (G1 jss k)
def xT(ops:Array TZ)(q:Nat)(jss:List (List Nat))(mv:Bool):Bool :=
 let l:=ops.toList
 l.all (fun o=>o.guard.isNone) &&
 l.zipIdx.all (fun p=>(vW p.1).all (fun k=>decide (k<p.2))) &&
 (l.take q).zipIdx.all (fun p=>(l.take q).zipIdx.all (fun r=>match r.1.dst with
  | some t=>!(looks p.1).contains t||(decide (r.2<p.2)&&(vW p.1).contains r.2)
  | ae=>TN)) &&
 (l.take q).zipIdx.all (fun p=>(l.take q).zipIdx.all (fun r=>decide (p.2=r.2)||p.1.dst.isNone||p.1.dst != r.1.dst)) &&
 (l.zipIdx.drop q).all (fun p=>(xh p.2).all (fun j=>(vW p.1).contains j||(((Dx (G1 jss (p.2-q))).contains j||(mv&&Mf l j))&&Mg l q j)||tZ ops 12 j p.2)) &&
 decide (q<=l.length)
def mK(ops:List TZ)(O:Tm)(S:St):List Nat->Prop
 | []=>True
 | j::js=>(match ops[j]? with
  | some o=>(match o.dst with
   | some d=>BJ o O S (O d)
   | ae=>False)
  | ae=>False)/\mK ops O S js
def Pl(ops:List TZ):List (List Nat)->List TZ->Tm->St->(Tm->St->Prop)->Prop
 | _,[],O,S,K=>K O S
 | jss,o::l,O,S,K=>D5 o O S (fun z S'=>mK ops (O.put o.dst z) S' (Dx jss)/\Pl ops (Md jss) l (O.put o.dst z) S' K)
def tlX(ops:Array TZ)(jss:List (List Nat))(l:List TZ)(O:Tm)(S:St)(K:Tm->St->Prop):Prop:=(jss=[]/\Jv ops l O S K)∨Pl ops.toList jss l O S K
def awX(ops:Array TZ)(O:Tm)(S:St)(K:Tm->St->Prop):Prop:=∃q jss mv H,xT ops q jss mv=TN/\Gg (ops.toList.take q) O S [] H/\∀O' p,H O' p ->
 (p.isEmpty=TN/\tlX ops jss (ops.toList.drop q) O' S K) ∨
 (mv=TJ/\∃K',oO p (Aq (qz (ops.toList.take q)) O') S K'/\∀O S,K' O S->mK ops.toList O S (Dx jss)/\tlX ops jss (ops.toList.drop q) O S K)
theorem tg{ops:List TZ}{O:Tm}{S:St}:∀{js:List Nat},mK ops O S js->∀j∈js,∃o d,ops[j]? = ho o/\o.dst=ho d/\BJ o O S (O d)
 | [],_,j,b=>by cases b
 | i::js,h,j,b=>by
  simp only[mK]at h;rcases BH.1 b with rfl|b
  .have a:=h.1
   cases e:ops[j]? with
   | none=>rw[e]at a;exact a.elim
   | some o =>
    rw[e]at a;simp only at a
    cases c:o.dst with
    | none=>rw[c]at a;exact a.elim
    | some d=>rw[c]at a;exact⟨o,d,rfl,c,a⟩
  .exact tg h.2 j b
def R5{S':St}(c:l[j]? = ho o)(a:Mf l j=TN)(h:BJ o O S z):BJ o O S' z:=by
 simp only[Mf,c]at a;split at a
 .rename_i x b;rcases h with⟨d,h⟩|h
  .refine a6 ⟨d,?_⟩;unfold D5 at h ⊢;rw[b]at h ⊢;exact⟨h.1,rfl⟩
  .rw[b]at h;exact h.elim
 .cases a
structure xr(ops:Array TZ)(q j:Nat)(o:TZ)(d:Nat):Prop where
 lt:j<q
 op:ops[j]? = ho o
 dst:o.dst=ho d
 pure:EY o.op=true
 tail:∀(i:Nat) (p:TZ),q<=i->ops[i]? = ho p->(∀t,p.dst=ho t->t ∉ looks o/\t≠d)/\(d∈looks p->j∈vW p)
structure GOK(ops:Array TZ)(q:Nat)(jss:List (List Nat))(mv:Bool):Prop where
 guard:∀(i:Nat) (o:TZ),ops[i]? = ho o->o.guard=ae
 back:∀(i:Nat) (o:TZ),ops[i]? = ho o->∀k∈vW o,k<i
 reads:∀(i:Nat) (o:TZ) (j:Nat) (p:TZ) (t:Nat),i<q->j<q->ops[i]? = ho o->ops[j]? = ho p->p.dst=ho t->t∈looks o->j<i/\j∈vW o
 apart:∀(i:Nat) (o:TZ) (j:Nat) (p:TZ) (t:Nat),i<q->j<q->ops[i]? = ho o->ops[j]? = ho p->o.dst=ho t->p.dst=ho t->i=j
 tail:∀(i:Nat) (o:TZ),q<=i->ops[i]? = ho o->∀j,j<i->(j∈vW o∨tZ ops 12 j i=TN)∨((j∈Dx (G1 jss (i-q))∨mv=TN/\Mf ops.toList j=TN)/\∃p d,xr ops q j p d)
 le:q<=ops.size
def Hb{q:Nat}{mv:Bool}(h:xT ops q jss mv=TN):GOK ops q jss mv:=by
 simp only[xT,cV,jK]at h;obtain⟨⟨⟨⟨⟨y,z⟩,A⟩,B⟩,C⟩,D⟩:=h;have gl:∀{i:Nat} {o:TZ},ops[i]? = ho o->ops.toList[i]? = ho o:=fun h=>by simpa using h
 have tk:∀{i:Nat} {o:TZ},i<q->ops[i]? = ho o->(o,i)∈(ops.toList.take q).zipIdx:=fun c b=>oY (by rw[qV,aj c];exact gl b)
 have dm:∀{i:Nat} {o:TZ},q<=i->ops[i]? = ho o->(o,i)∈ops.toList.zipIdx.drop q:=fun {i o} c b=>by
  rw[List.mem_iff_getElem?];exact⟨i-q,by rw[List.getElem?_drop,(om:q+(i-q)=i),List.getElem?_zipIdx,gl b];simp⟩
 refine⟨fun i o b=>?_,fun i o b k E=>?_,fun i o j p t c l b m n F=>?_,fun i o j p t c l b m n r=>?_,fun i o c b j l=>?_,by simpa using D⟩
 .simpa using aG.1 y o (gM (gl b))
 .simpa using aG.1 (aG.1 z (o,i) (oY (gl b))) k E
 .have:=aG.1 (aG.1 A (o,i) (tk c b)) (p,j) (tk l m);simp only[n]at this;simp only[qh,sH,cV,jK]at this;rcases this with a|a
  .simp at a;exact absurd F a
  .exact⟨a.1,by simpa using a.2⟩
 .have:=aG.1 (aG.1 B (o,i) (tk c b)) (p,j) (tk l m);simp only[n,r]at this;simpa using this
 .have:=aG.1 (aG.1 C (o,i) (dm c b)) j (by simpa using l)
  simp only[qh]at this;rcases this with (a|a)|a
  .exact a6 (a6 (by simpa using a))
  .right;rw[cV]at a;obtain⟨s,a⟩:=a;refine⟨by simpa using s,?_⟩
   simp only[Mg,cV,jK]at a;obtain⟨u,a⟩:=a
   cases e:ops.toList[j]? with
   | none=>rw[e]at a;cases a
   | some oj =>
    rw[e]at a;simp only[cV]at a;obtain⟨v,a⟩:=a
    cases f:oj.dst with
    | none=>rw[f]at a;cases a
    | some d =>
     rw[f]at a;refine⟨oj,d,u,by simpa using e,f,v,fun i' p w m=>?_⟩
     have x:=aG.1 a (p,i') (dm w m);simp only[cV,qh,sH]at x;refine⟨fun t n=>?_,fun G=>?_⟩
     .have g:=x.1;rw[n]at g;simpa using g
     .rcases x.2 with g|g
      .simp at g;exact absurd G g
      .simpa using g
  .exact a6 (aQ a)
structure Ik(ops:Array TZ)(q:Nat)(S:St)(O1:Tm)(al:Nat->Option eA)(N:Nat)(a0:Act)(w0:TO)(listed:Array Bool)(a:Act)(w:TO):Prop where
 size:listed.size=ops.size
 tailU:∀i,q<=i->i<ops.size->listed.getD i TN=false
 defers:a.defers=[]
 tsize:a.tmps.size=N
 gr:dA BF BF w0 w
 tm:∀t,(∀(j:Nat) (o:TZ),j<q->ops[j]? = ho o->o.dst=ho t->listed.getD j TJ=TN)->bI w S.dom (O1 t) (a.tmps.getD t Ut)
 old:∀t,(∀(j:Nat) (o:TZ),j<q->ops[j]? = ho o->o.dst≠ho t)->a.tmps.getD t Ut=a0.tmps.getD t undef
 news:∃B:Nat->Nat,(∀(i:Nat) (o:TZ) (X:eA) (d:Nat),i<q->ops[i]? = ho o->al i=ho X->o.dst=ho d->listed.getD i TJ=TN ->
   a.tmps.getD d Ut=Uk (ho ⟨B i,0,ae⟩)/\w0.heap.size<=B i/\∃zc,w.heap[B i]? = ho (.cells zc X.ty (0,0))/\ZX X zc) /\
  ∀i j,i<q->j<q->(al i).isSome=TN->(al j).isSome=TN->listed.getD i TJ=TN->listed.getD j TJ=TN->B i=B j->i=j
def vE(ops:Array TZ)(q:Nat)(listed:Array Bool)(t:Nat):Prop:=∃j o,listed.getD j TN=TJ/\xr ops q j o t
structure H9(ops:Array TZ)(q:Nat)(jss:List (List Nat))(K:Tm->St->Prop)(D:Nat->Prop)(N:Nat)(w0:TO)(listed:Array Bool)(a:Act)(w:TO):Prop where
 ex:∃k O S,q<=k/\k<=ops.size/\listed.size=ops.size/\(∀i,q<=i->i<ops.size->(listed.getD i TN=TN↔i<k)) /\
  (∀j,j<q->listed.getD j TN=TJ->∃o d,xr ops q j o d/\BJ o O S (O d))/\tlX ops (G1 jss (k-q)) (ops.toList.drop k) O S K /\
  a.defers=[]/\a.tmps.size=N/\eF w S/\(∀t,¬vE ops q listed t->bI w S.dom (O t) (a.tmps.getD t Ut))/\dA D S.dom w0 w
theorem t8{α β:Type}{f:α->β}:∀{l:List α},l.Nodup->(∀x∈l,∀y∈l,f x=f y->x=y)->(l.map f).Nodup
 | [],_,_=>by simp
 | a::l,h,c=>by
  simp only[xn]at h;simp only[iJ,xn,ib,not_exists,not_and];refine⟨fun x b e=>?_,t8 h.2 (fun x b y d=>c x (eh _ b) y (eh _ d))⟩;have:=c x (eh _ b) a (fE ..) e;subst this;exact h.1 b
def Cb(n i:Nat):(kV n TJ).getD i TJ=TJ:=by
 rw[cT,NM];split<;>rfl
def DB(h:j<listed.size):listed.getD j TN=listed.getD j TJ:=by simp[VF,h]
def oH(h:listed.getD k TJ=TN):listed.getD k TN=TN:=by
 rw[cT]at h ⊢
 cases a:listed[k]? with
 | none=>rw[a]at h;cases h
 | some b=>rw[a]at h;exact h
def N9:O.put ae x=O:=by rw[Tm.put_eq]
def t7{t:Nat}(h:d≠ho t):O.put d x t=O t:=by
 cases d with
 | none=>rw[N9]
 | some d=>simp only[Tm.put_eq];rw[ah];intro e;exact h (by rw[e])
def LL{t:Nat}:O.put (ho t) x t=x:=by simp[Tm.put_eq]
def Ap{d:Nat}(b:xS N ops.toList=TN)(c:ops[i]? = ho o)(a:o.dst=ho d):d<N:=by
 have:=aG.1 b o (gM (by simpa using c:ops.toList[i]? = some o))
 rw[a]at this;simpa using this
def wx(c:∀(i:Nat) (o:TZ),ops[i]? = ho o->∀k∈vW o,k<i)(e:listed.size=ops.size)(a:kJ .any ops listed=[]):∀j,j<ops.size->listed.getD j TJ=TN:=by
 intro j
 induction j using Nat.strongRecOn with
 | _ j ih =>
  intro b
  cases f:listed.getD j TJ with
  | true=>rfl
  | false =>
   have:j∈kJ .any ops listed:=LJ (dy b) ((DB om).trans f) (fun k d=>ih k (c j _ (dy b) k d) (by have:=c j _ (dy b) k d;omega))
   rw[a]at this;cases this
theorem uS{P:Nat->Prop}:∀(pend:List (Nat×eA)) (O0:Tm) {O1:Tm} (S:St) (K:Tm->St->Prop),oO pend O0 S K->(∀t,¬P t->O1 t=O0 t)->oO pend O1 S (fun O S=>∃O',(∀t,¬P t->O t=O' t)/\K O' S)
 | [],O0,O1,S,K,h,a=>by simp only[oO]at h ⊢;exact⟨O0,a,h⟩
 | (d,X)::r,O0,O1,S,K,h,a=>by
  simp only[oO]at h ⊢;intro b c;refine uS r _ _ K (h b c) (fun t e=>?_);simp only[Tm.put_eq];split
  .rfl
  .exact a t e
def KA{K:Tm->St->Prop}(h:awX ops O S K)(hr:RT O S N a w)(hd:xS N ops.toList=TN)
  (hq:∀O' S' a' w',K O' S'->RT O' S' N a' w'->dA S.dom S'.dom w w'->Q .normal a' w'):(UR id ops TN).wp ak Q a w:=by
 classical
 obtain⟨q,jss,mv,H0,hok,hH,hX⟩:=h;have D:=Hb hok;have hlen:(ops.toList.take q).length=q:=by rw[gN];have:=D.le;simp;omega
 obtain⟨Os,al,e0,hK,hi⟩:=Cu _ _ _ _ _ hH;rw[hlen]at hK
 replace hK:=hX _ _ hK
 have hi':∀(i:Nat) (o:TZ),i<q->ops[i]? = ho o->(∃t d X,o.op=.alloc t/\o.dst=ho d/\mM t=ho X/\al i=ho X/\Os (i+1)=(Os i).put (ho d) Up) ∨
   (al i=ae/\∃z,BJ o (Os i) S z/\Os (i+1)=(Os i).put o.dst z):=fun i o c g=>hi i o (by rw[qV,aj c];simpa using g)
 have stable:∀t k i,i<=k->k<=q->(∀j o,i<=j->j<k->ops[j]? = ho o->o.dst≠ho t)->Os k t=Os i t:=by
  intro t k
  induction k with
  | zero=>intro i l _ _;rw[(om:i=0)]
  | succ k ih =>
   intro i l n G;by_cases e:i=k+1
   .rw[e]
   .have hk:k<ops.size:=by have:=D.le;omega
    have I:=G k _ om om (dy hk);refine Eq.trans ?_ (ih i om om (fun j o U r g=>G j o U om g));rcases hi' k _ om (dy hk)with⟨_,d,X,_,n,_,_,C⟩|⟨_,z,_,C⟩
    .rw[C];exact t7 (by rw[<-n];exact I)
    .rw[C];exact t7 I
 have kept:∀(i:Nat) (o:TZ) (d:Nat) (x:AV),i<q->ops[i]? = ho o->o.dst=ho d->Os (i+1)=(Os i).put (ho d) x->Os q d=x:=by
  intro i o d x c g hdd hO;rw[stable d q (i+1) om (ag _) (fun j p U r hp hpd=>by
   have:=D.apart i o j p d c r g hp hdd hpd;omega),hO]
  exact LL
 have seen:∀(i:Nat) (o:TZ) (t:Nat),i<q->ops[i]? = ho o->t∈looks o->Os q t=Os i t:=fun i o t c g I =>
  stable t q i om (ag _) (fun j p U r hp hpt=>by
   have:=(D.reads i o j p t c r g hp hpt I).1;omega)
 have w0s:eF w.drew S:=hr.st.drew;have r0:RT O S N a w.drew:=⟨hr.defers,hr.size,fun t=>bI.grow hr.st.noU (dA.drew _ w) _ _ (hr.tm t),w0s⟩;have came:∀(listed:Array Bool) (i j:Nat) (o:TZ),xA ops listed->ops[i]? = ho o->(∀k∈vW o,listed.getD k TJ=TN)->(j∈vW o∨tZ ops 12 j i=TN)->listed.getD j TJ=TN :=
  fun listed i j o V g m h=>h.elim (m j) (tY V 12 j i o g m)
 have HT:∀listed a' w',Ik ops q S (Os q) al N a w.drew listed a' w'->(∀j,j<q->listed.getD j TN=TJ->(j∈Dx jss∨mv=TN/\Mf ops.toList j=TN)/\∃o d,xr ops q j o d)->H9 ops q jss K S.dom N w.drew listed a' w':=by
  intro listed a' w' H W;have hlist:∀(j:Nat) (o:TZ),j<q->ops[j]? = ho o->listed.getD j TN≠TJ->listed.getD j TJ=TN:=by
   intro j o A g hn;rw[DB (by rw[H.size];exact(jt.1 g).1)]at hn
   simpa using hn
  have hpure:∀(i:Nat) (o:TZ) (d:Nat),i<q->xr ops q i o d->al i=ae/\∃z,BJ o (Os i) S z/\Os (i+1)=(Os i).put o.dst z:=by
   intro i o d c R;rcases hi' i o c R.op with⟨t,d,Y,l,_⟩|l
   .have:=R.pure;rw[l]at this;simp[EY]at this
   .exact l
  have halloc:∀(i:Nat) (o:TZ) (X:eA),i<q->ops[i]? = ho o->al i=ho X->listed.getD i TJ=TN:=by
   intro i o X c g hX;refine hlist i o c g (fun J=>?_);obtain⟨_,o',d,R⟩:=W i c J;rw[(hpure i o' d c R).1]at hX;cases hX
  have hS:eF w' S:=w0s.frozen H.gr;have htm:∀t,¬vE ops q listed t->bI w' S.dom (Os q t) (a'.tmps.getD t Ut):=fun t I=>H.tm t (fun j o A g hot=>by
   refine hlist j o A g (fun J=>?_);obtain⟨_,o',d,R⟩:=W j A J;have ho':=R.op;rw[g]at ho';cases ho';have E:=R.dst;rw[hot]at E;cases E;exact I ⟨j,o,J,R⟩)
  suffices hsuf:∃O' S',(∀j,j<q->listed.getD j TN=TJ->∃o d,xr ops q j o d/\BJ o O' S' (O' d))/\tlX ops jss (ops.toList.drop q) O' S' K/\eF w' S'/\(∀t,¬vE ops q listed t->bI w' S'.dom (O' t) (a'.tmps.getD t Ut))/\dA S.dom S'.dom w.drew w' by
   obtain⟨O',S',g1,g2,g3,g4,g5⟩:=hsuf;refine⟨q,O',S',ag _,D.le,H.size,fun i hi1 hi2=>?_,g1,by rw[bR];exact g2,H.defers,H.tsize,g3,g4,g5⟩
   rw[H.tailU i hi1 hi2];constructor
   .intro h;cases h
   .intro h;omega
  rcases hK with⟨_,hT⟩|⟨hmv,K',hA,hK'⟩
  .refine⟨Os q,S,fun j A F=>?_,hT,hS,htm,H.gr.any _⟩;obtain⟨_,o,d,R⟩:=W j A F;obtain⟨_,z,hz,hO⟩:=hpure j o d A R;refine⟨o,d,R,?_⟩;rw[kept j o d z A R.op R.dst (by rw[hO,R.dst])]
   exact sA (uf fun t I=>(seen j o t A R.op I).symm) hz
  generalize hpe:(([]:List (Nat×eA))++(xh q).filterMap (fun i=>(al i).bind fun X=>((ops.toList.take q)[i]?).bind fun o=>o.dst.map fun d=>(d,X)))=pend at hA;have hK2:=uS (O1:=fun t=>if vE ops q listed t then Up else Aq (qz (ops.toList.take q)) (Os q) t) (P:=vE ops q listed) pend _ S _ hA (fun t I=>by simp only[ah I])
  obtain⟨B,hB1,hB2⟩:=H.news
  let idx:=(xh q).filter (fun i=>((al i).bind fun X=>((ops.toList.take q)[i]?).bind fun o=>o.dst.map fun d=>(d,X)).isSome)
  let f:Nat->Nat×eA×Nat:=fun i=>match ((al i).bind fun X=>((ops.toList.take q)[i]?).bind fun o=>o.dst.map fun d=>(d,X))with
   | some (d,X)=>(d,X,B i)
   | ae=>(0,⟨0,0,0,fun _=>Up⟩,B i)
  have hidx:∀i∈idx,∃o X d,i<q/\ops[i]? = ho o/\al i=ho X/\o.dst=ho d/\f i=(d,X,B i):=by
   intro i hii;simp only[idx,qd,yX]at hii;obtain⟨l,n⟩:=hii;obtain⟨p,hp⟩:=Option.isSome_iff_exists.1 n;have R:f i=(p.1,p.2,B i):=by simp only[f,hp]
   simp only[Option.bind_eq_some_iff,eY]at hp;obtain⟨X,hX,o,g,d,hd1,hd2⟩:=hp;rw[qV,aj l]at g;refine⟨o,X,d,l,by simpa using g,hX,hd1,?_⟩
   rw[R,<-hd2]
  have hpend:pend=(idx.map f).map fun x=>(x.1,x.2.1):=by
   rw[<-hpe,xq,Wa];simp only[idx];generalize xh q=rg
   induction rg with
   | nil=>rfl
   | cons i rg ih =>
    simp only[Bj,List.filter_cons]
    cases hc:((al i).bind fun X=>((ops.toList.take q)[i]?).bind fun o=>o.dst.map fun d=>(d,X))with
    | none=>simp only[Option.isSome_none,dB,aI];exact ih
    | some p=>simp only[Option.isSome_some,aH,iJ];rw[<-ih];simp only[Function.comp,f,hc]
  rw[hpend]at hK2
  let M:Nat->Prop:=fun b=>S.dom b∨w.drew.heap.size<=b
  have hnuM:NoU M w.drew:=by
   intro b hb cs ty fr hc;rcases hb with hb|hb
   .exact w0s.noU b hb cs ty fr hc
   .exact absurd (fN hc) om
  have up:∀x v,bI w.drew S.dom x v->bI w' M x v:=fun x v hx =>
   bI.grow hnuM (H.gr.any M) x v (bI.turn (M:=S.dom) (M':=M) (fun k hk hm=>by
    rcases hm with hm|hm
    .exact hm
    .omega) x v hx)
  have hres:=xZ (a:=a') (w:=w') (N:=N) (B0:=w.drew.heap.size) (M:=M) (idx.map f) _ S hK2
   (fun b X hX=>by
    obtain⟨cs,l,n,G,L⟩:=w0s b X hX;exact⟨cs,(H.gr.keep b (fN l) (fun x=>x)).trans l,n,fun j A=>by obtain⟨u,C,h6⟩:=G j A;exact⟨u,C,up _ _ h6⟩,L⟩)
   (fun t=>by
    by_cases hlt:vE ops q listed t
    .simp only[aj hlt];simp[bI]
    simp only[ah hlt,Aq];by_cases hin:(qz (ops.toList.take q)).contains t=true
    .by_cases hmf:rm (Os q t)=true
     .simp only[hmf,BO,TI,dB,aI];exact ue hmf (htm t hlt)
     .simp only[hin,hmf,qX,Bool.and_self,aH];simp[bI]
    .simp only[hin,Bool.false_and,dB,aI];have hno:∀(j:Nat) (o:TZ),j<q->ops[j]? = ho o->o.dst≠ho t:=by
      intro j o A g hdt;apply hin;simp only[qz,List.contains_iff_mem,SY];exact⟨o,gM (i:=j) (by rw[qV,aj A];simpa using g),hdt⟩
     rw[H.old t hno,stable t q 0 om (ag _) (fun j o _ A g=>hno j o A g),e0];exact up _ _ (r0.tm t))
   (fun x hx=>by
    obtain⟨i,hii,rfl⟩:=ib.1 hx;obtain⟨o,X,d,l,n,G,L,C⟩:=hidx i hii;rw[C];obtain⟨g1,g2,g3⟩:=hB1 i o X d l n G L (halloc i _ _ l n G);exact⟨g1,g3⟩)
   (by
    rw[Wa];refine t8 (List.Pairwise.filter _ List.nodup_range) (fun i hii j hjj e=>?_);obtain⟨o,X,d,l,n,G,L,C⟩:=hidx i hii;obtain⟨o',X',d',h1',h2',h3',h4',h5'⟩:=hidx j hjj;simp only[Function.comp,C,h5']at e;exact hB2 i j l h1' (by rw[G];rfl) (by rw[h3'];rfl) (halloc i _ _ l n G) (halloc j _ _ h1' h2' h3') e)
   (fun x hx=>by
    obtain⟨i,hii,rfl⟩:=ib.1 hx;obtain⟨o,X,d,l,n,G,L,C⟩:=hidx i hii;rw[C];obtain⟨g1,g2,g3⟩:=hB1 i o X d l n G L (halloc i _ _ l n G);exact⟨w0s.fresh g2,g2⟩)
  obtain⟨O',S',⟨O2,Z,k1⟩,k2,k3,k4⟩:=hres;obtain⟨k5,k6⟩:=hK' _ _ k1;have hdom:∀k,k<w'.heap.size->S'.dom k->M k:=fun k _ hk=>k4 k hk;refine⟨O2,S',fun j A F=>?_,k6,⟨cK fun e=>(k4 0 e).elim hS.n0 fun h=>absurd w0s.gl.pos om,hS.gl,fun b X hX=>?_⟩,fun t I=>?_,?_⟩
  .obtain⟨hjs|⟨hm,_⟩,o,d,R⟩:=W j A F
   .obtain⟨p',d',l,n,G⟩:=tg k5 j hjs;rw[show ops.toList[j]? = ho o by simpa using R.op]at l;cases l
    rw[R.dst]at n;cases n;exact⟨o,d,R,G⟩
   .rw[hmv]at hm;cases hm
  .obtain⟨cs,l,n,G,L⟩:=k2 b X hX;exact⟨cs,l,n,fun j A=>by obtain⟨u,C,h6⟩:=G j A;exact⟨u,C,bI.turn hdom _ _ h6⟩,L⟩
  .rw[<-Z t I];exact bI.turn hdom _ _ (k3 t)
  .refine⟨H.gr.os,H.gr.tape,H.gr.output,H.gr.size,fun k hk _=>H.gr.keep k hk (fun x=>x),H.gr.shape,fun k hk hm=>?_⟩;rcases k4 k hm with h6|h6
   .exact h6
   .exact absurd hk om
 have tailStep:∀listed a' w' i o,H9 ops q jss K S.dom N w.drew listed a' w'->xA ops listed->ops[i]? = ho o->listed.getD i TN=TJ->(∀k∈vW o,listed.getD k TJ=TN)->o.wp ak a' w' (fun a'' w''=>Ik ops q S (Os q) al N a w.drew (listed.setIfInBounds i TN) a'' w''∨H9 ops q jss K S.dom N w.drew (listed.setIfInBounds i TN) a'' w'') Q:=by
  intro listed a' w' i o T V g J m;obtain⟨k,O',S',hk1,hk2,hsz,hl,hfr,hL,hdef,hts,hrs,htm,hG⟩:=T.ex;have hio:i<ops.size:=(jt.1 g).1;have hils:i<listed.size:=om
  have s:∀j d,(listed.setIfInBounds i TN).getD j d=if j=i then TN else listed.getD j d:=fun j d=>mi _ _ _ _ hils
  let Om:Tm:=fun t=>if vE ops q listed t then Up else O' t
  have hRm:RT Om S' N a' w':=⟨hdef,hts,fun t=>by
   simp only[Om];split
   .simp[bI]
   .rename_i hc;exact htm t hc,hrs⟩
  have hlk:∀x,x∈o.op.operands.toList->ev O' x=ev Om x:=uf fun t I=>by
   simp only[Om];rw[ah];rintro⟨j,oj,F,hfj⟩;have:listed.getD j TJ=TN:=by
    rcases aB i q with c|c
    .exact m j (D.reads i o j oj t c hfj.lt g hfj.op hfj.dst I).2
    .exact m j ((hfj.tail i o c g).2 I)
   rw[oH this]at F;cases F
  have late:∀t,¬vE ops q (listed.setIfInBounds i TN) t->o.dst≠ho t->¬vE ops q listed t:=by
   rintro t I e ⟨j,oj,F,hfj⟩;refine I ⟨j,oj,?_,hfj⟩;rw[s,ah]
   .exact F
   .rintro rfl;have hoj:=hfj.op;rw[g]at hoj;cases hoj;exact e hfj.dst
  rcases aB i q with c|c
  ·
   obtain⟨o',d,R,hok'⟩:=hfr i c J;have ho':=R.op;rw[g]at ho';cases ho';have E:=R.dst;refine CN (sA hlk hok') hRm (fun v w'' hv hg=>aQ ⟨k,O',S',hk1,hk2,by simp[hsz],fun j U r=>?_,fun j U r=>?_,hL,by rw[ta];exact hdef,by rw[zQ];exact hts,hrs.frozen hg,fun t I=>?_,hG.trans (hg.any _)⟩)
   .rw[s,ah om];exact hl j U r
   .rw[s]at r;by_cases e:j=i
    .rw[aj e]at r;cases r
    .rw[ah e]at r;exact hfr j U r
   .by_cases e:o.dst=ho t
    .have Z:=e;rw[E]at Z;cases Z;rw[e,put_eq (by rw[hts];exact Ap hd g E)];exact hv
    .rw[wA e];exact bI.grow hrs.noU (hg.any _) _ _ (htm t (late t I e))
  .have hik:i=k:=by
    rcases c8 i k with l|l|l
    .rw[(hl i c hio).2 l]at J;cases J
    .exact l
    .rcases D.tail i o c g k l with n|⟨_,p,d,n⟩
     .have:=(hl k om om).1 (oH (came _ i k o V g m n));omega
     .have:=n.lt;omega
   subst hik;have hdrop:ops.toList.drop i=o::ops.toList.drop (i+1):=by
    have l:ops.toList[i]? = ho o:=by simpa using g
    rw[sv (by simpa using hio)]
    congr 1;exact(eX.1 l).2
   rw[hdrop]at hL;have nxt:∀z v w'' S'',(∀j,j∈Dx (G1 jss (i-q))->∃p d,ops.toList[j]? = ho p/\p.dst=ho d/\BJ p (O'.put o.dst z) S'' (O'.put o.dst z d))->tlX ops (G1 jss (i-q+1)) (ops.toList.drop (i+1)) (O'.put o.dst z) S'' K->bI w'' S''.dom z v->eF w'' S''->dA S'.dom S''.dom w' w'' ->
     Ik ops q S (Os q) al N a w.drew (listed.setIfInBounds i TN) (a'.put o.dst v) w''∨H9 ops q jss K S.dom N w.drew (listed.setIfInBounds i TN) (a'.put o.dst v) w'':=by
    intro z v w'' S'' hlate hz hv hs hg;refine aQ ⟨i+1,O'.put o.dst z,S'',om,om,by simp[hsz],fun j U r=>?_,fun j U r=>?_,by rw[(om:i+1-q=(i-q)+1)];exact hz,by rw[ta];exact hdef,by rw[zQ];exact hts,hs,fun t I=>?_,hG.trans hg⟩
    .rw[s];by_cases e:j=i
     .rw[aj e];simp;omega
     .rw[ah e,hl j U r];omega
    .rw[s,ah om]at r;obtain⟨p,d,R,hp⟩:=hfr j U r;refine⟨p,d,R,?_⟩;have L:ops.toList[j]? = ho p:=by simpa using R.op
     rcases D.tail i o c g j om with l|⟨l|⟨_,hm⟩,_⟩
     .rw[oH (came _ i j o V g m l)]at r;cases r
     .obtain⟨p',d',l,n,G⟩:=hlate j l;rw[L]at l;cases l;rw[R.dst]at n;cases n;exact G
     .have hta:=(R.tail i o c g).1;rw[t7 (fun e=>(hta d e).2 rfl)];exact sA (uf fun t I=>(t7 (fun e=>(hta t e).1 I)).symm) (R5 L hm hp)
    .by_cases e:o.dst=ho t
     .rw[e,put_eq (by rw[hts];exact Ap hd g e),LL];exact hv
     .rw[wA e,t7 e];exact bI.grow hrs.noU hg _ _ (htm t (late t I e))
   rcases hL with⟨A,hL⟩|hL
   .unfold Jv at hL;rw[D.guard i o g]at hL;exact pO (wV hlk hL) hRm (fun z v w'' S'' hz hv hs hg=>nxt z v w'' S'' (by rw[A];intro j h;cases h) (a6 ⟨by simp only[G1];rw[A];rfl,hz⟩) hv hs hg)
   .unfold Pl at hL;exact pO (wV hlk hL) hRm (fun z v w'' S'' hz hv hs hg=>nxt z v w'' S'' (tg hz.1) (aQ hz.2) hv hs hg)
 have headStep:∀listed a' w' i o,Ik ops q S (Os q) al N a w.drew listed a' w'->xA ops listed->ops[i]? = ho o->listed.getD i TN=TJ->(∀k∈vW o,listed.getD k TJ=TN)->o.wp ak a' w' (fun a'' w''=>Ik ops q S (Os q) al N a w.drew (listed.setIfInBounds i TN) a'' w''∨H9 ops q jss K S.dom N w.drew (listed.setIfInBounds i TN) a'' w'') Q:=by
  intro listed a' w' i o H V g J m;have hio:i<ops.size:=(jt.1 g).1;have hils:i<listed.size:=by rw[H.size];exact hio
  rcases aB i q with c|c
  .have s:∀j d,(listed.setIfInBounds i TN).getD j d=if j=i then TN else listed.getD j d:=fun j d=>mi _ _ _ _ hils
   have hS:eF w' S:=w0s.frozen H.gr;have mk:∀(v:TM) (w'':TO),dA BF BF w' w''->(∀d,o.dst=ho d->bI w'' S.dom (Os q d) v) ->
     (∃B:Nat->Nat,(∀(j:Nat) (p:TZ) (X:eA) (d:Nat),j<q->ops[j]? = ho p->al j=ho X->p.dst=ho d->(listed.setIfInBounds i TN).getD j TJ=TN ->
       (a'.put o.dst v).tmps.getD d Ut=Uk (ho ⟨B j,0,ae⟩)/\w.drew.heap.size<=B j/\∃zc,w''.heap[B j]? = ho (.cells zc X.ty (0,0))/\ZX X zc) /\
      ∀j k,j<q->k<q->(al j).isSome=TN->(al k).isSome=TN->(listed.setIfInBounds i TN).getD j TJ=TN->(listed.setIfInBounds i TN).getD k TJ=TN->B j=B k->j=k) ->
     Ik ops q S (Os q) al N a w.drew (listed.setIfInBounds i TN) (a'.put o.dst v) w'':=by
    intro v w'' hg hz hB;refine⟨by simp[H.size],fun j U r=>?_,by rw[ta];exact H.defers,by rw[zQ];exact H.tsize,H.gr.trans hg,fun t I=>?_,fun t I=>?_,hB⟩
    .rw[s,ah om];exact H.tailU j U r
    .by_cases e:o.dst=ho t
     .rw[e,put_eq (by rw[H.tsize];exact Ap hd g e)]
      exact hz t e
     .rw[wA e];refine bI.grow hS.noU (hg.any _) _ _ (H.tm t (fun j p A hp hpt=>?_));have:=I j p A hp hpt;rw[s]at this;by_cases Z:j=i
      .subst Z;rw[g]at hp;cases hp;exact absurd hpt e
      .rw[ah Z]at this;exact this
    .rw[wA (I i o c g)];exact H.old t I
   obtain⟨B,hB1,hB2⟩:=H.news;rcases hi' i o c g with⟨t,d,X,hop,E,hX,hal,hO⟩|⟨hal,z,hz,hO⟩
   .obtain⟨zc,z1,z2,z3⟩:=KH hX;refine ix (v:=Uk (ho ⟨w'.heap.size,0,ae⟩)) (w':=w'.alloc (.cells zc t)) (by simp[TU,hop,z2 w']) (a6 ?_)
    have hg:dA BF BF w' (w'.alloc (.cells zc t)):=⟨rfl,rfl,rfl,sm,fun k hk _=>SQ w' _ k hk,fun k cs ty fr hc=>⟨cs,by rw[SQ w' _ k (fN hc)];exact hc,rfl⟩,fun _ _ h=>h⟩
    have hBlt:∀(j:Nat),j<q->(al j).isSome=TN->listed.getD j TJ=TN->B j<w'.heap.size:=by
     intro j A hs C;have hjs:j<ops.size:=by have:=D.le;omega
     rcases hi' j ops[j] A (dy hjs)with⟨_,e,Y,_,n,_,L,_⟩|⟨L,_⟩
     .obtain⟨_,_,zc',hz',_⟩:=hB1 j _ Y e A (dy hjs) L n C;exact fN hz'
     .rw[L]at hs;cases hs
    refine mk _ _ hg (fun d' hd'=>?_) ⟨fun j=>if j=i then w'.heap.size else B j,fun j p Y e l n G L C=>?_,fun j k l n G L C h6 h7=>?_⟩
    .rw[E]at hd';cases hd';rw[kept i o d _ c g E hO];simp[bI]
    .by_cases Z:j=i
     .subst Z;rw[g]at n;cases n;rw[E]at L;cases L;rw[hal]at G;cases G;simp only[aH];refine⟨by rw[E,put_eq (by rw[H.tsize];exact Ap hd g E)],H.gr.size,zc,?_,z3⟩
      rw[z1];exact jB w' _
     .simp only[ah Z];rw[s,ah Z]at C;obtain⟨g1,g2,zc',g3,g4⟩:=hB1 j p Y e l n G L C;refine⟨?_,g2,zc',?_,g4⟩
      .rw[wA]
       .exact g1
       .intro e3;exact Z (D.apart j p i o e l c n g L e3)
      .rw[SQ w' _ _ (fN g3)];exact g3
    .rw[s]at C h6;by_cases e1:j=i
     .by_cases Z:k=i
      .rw[e1,Z]
      .simp only[aj e1,ah Z]at h7;rw[ah Z]at h6;have:=hBlt k n L h6;omega
     .rw[ah e1]at C;by_cases Z:k=i
      .simp only[ah e1,aj Z]at h7;have:=hBlt j l G C;omega
      .simp only[ah e1,ah Z]at h7;rw[ah Z]at h6;exact hB2 j k l n G L C h6 h7
   .let Oe:Tm:=fun t=>if (∀(j:Nat) (p:TZ),j<q->ops[j]? = ho p->p.dst=ho t->listed.getD j TJ=TN)then Os q t else .any
    have hRe:RT Oe S N a' w':=⟨H.defers,H.tsize,fun t=>by
     simp only[Oe];split
     .rename_i hc;exact H.tm t hc
     .simp[bI],hS⟩
    have hze:BJ o Oe S z:=sA (uf fun t I=>by
     simp only[Oe];rw[aj (fun j p A hp hpt=>m j (D.reads i o j p t c A g hp hpt I).2),seen i o t c g I]) hz
    have hne:∀j,(al j).isSome=TN->j≠i:=fun j h Z=>by subst Z;rw[hal]at h;cases h
    refine CN hze hRe (fun v w'' hv hg=>a6 (mk v w'' hg (fun d hdd=>?_) ⟨B,fun j p Y e l n G L C=>?_,fun j k l n G L C h6 h7=>?_⟩))
    .rw[kept i o d z c g hdd (by rw[hO,hdd])];exact hv
    .have hji:=hne j (by rw[G];rfl)
     rw[s,ah hji]at C;obtain⟨g1,g2,zc',g3,g4⟩:=hB1 j p Y e l n G L C;refine⟨?_,g2,zc',(hg.keep _ (fN g3) (fun x=>x)).trans g3,g4⟩;rw[wA]
     .exact g1
     .intro e3;exact hji (D.apart j p i o e l c n g L e3)
    .rw[s,ah (hne j G)]at C;rw[s,ah (hne k L)]at h6;exact hB2 j k l n G L C h6 h7
  .have hi0:i=q:=by
    rcases aB q i with h|h
    .exfalso;rcases D.tail i o c g q h with l|⟨_,p,d,l⟩
     .have n:=oH (came _ i q o V g m l);rw[H.tailU q (ag _) om]at n;cases n
     .have:=l.lt;omega
    .omega
   refine tailStep listed a' w' i o (HT listed a' w' H (fun j A F=>?_)) V g J m;rcases D.tail i o c g j om with l|l
   .rw[oH (came _ i j o V g m l)]at F;cases F
   .rw[hi0,bR]at l;exact l
 refine wp_region_any kr (qj (fun listed a' w'=>xA ops listed/\(Ik ops q S (Os q) al N a w.drew listed a' w'∨H9 ops q jss K S.dom N w.drew listed a' w')) ?_ ?_ ops.size _ a w.drew ?_ ⟨fun i o g h=>?_,a6 ?_⟩)
 .rintro listed a' w' i ⟨V,hI⟩ hi;obtain⟨o,g,J,m⟩:=mg hi;have hcl':xA ops (listed.setIfInBounds i TN):=by
   have hils:i<listed.size:=by
    rcases aB i listed.size with h|h
    .exact h
    .rw[cT,eo h]at J;cases J
   intro j p hp A k hk;rw[mi _ _ _ _ hils]at A ⊢;split
   .rfl
   .split at A
    .rename_i e;subst e;rw[g]at hp;cases hp;exact m k hk
    .exact V j p hp A k hk
  unfold wpOp;simp only[g];rw[aj (by simp[pk,D.guard i o g])]
  simp only[hcl',ke];rcases hI with H|T
  .exact a6 (headStep listed a' w' i o H V g J m)
  .exact a6 (tailStep listed a' w' i o T V g J m)
 .rintro listed a' w' ⟨_,hI⟩ hre;have T:H9 ops q jss K S.dom N w.drew listed a' w':=by
   rcases hI with H|T
   .refine HT listed a' w' H (fun j A F=>?_);rw[oH (wx D.back H.size hre j (by have:=D.le;omega))]at F;cases F
   .exact T
  obtain⟨k,O',S',hk1,hk2,hsz,hl,hfr,hL,hdef,hts,hrs,htm,hG⟩:=T.ex;have W:=wx D.back hsz hre;have hk:k=ops.size:=by
   rcases aB k ops.size with l|l
   .have:=(hl k hk1 l).1 (oH (W k l));omega
   .omega
  rw[hk,kF sm]at hL
  refine hq O' S' a' w' (hL.elim (fun h=>h.2) (fun h=>by unfold Pl at h;exact h)) ⟨hdef,hts,fun t=>htm t ?_,hrs⟩ ((dA.drew S.dom w).trans hG)
  rintro⟨j,y,F,hfj⟩;rw[oH (W j (by have:=hfj.lt;have:=D.le;omega))]at F;cases F
 .simp only[Sg];exact bQ R4 sm
 .rw[Cb]at h;cases h
 .refine⟨sm,fun i _ hi2=>?_,hr.defers,hr.size,dA.refl _ _,fun t I=>?_,fun _ _=>rfl,fun _=>0,fun i o X d l n G L C=>?_,fun i j l n G L C h6 h7=>?_⟩
  .rw[DB (by simpa using hi2)];exact Cb _ _
  .rw[stable t q 0 om (ag _) (fun j o _ A g hdt=>by
    have:=I j o A g hdt;rw[Cb]at this;cases this),e0]
   exact r0.tm t
  .rw[Cb]at C;cases C
  .rw[Cb]at C;cases C

def M1(ops:Array TZ):Bool:=ops.toList.zipIdx.all (fun p=>(vW p.1).all (fun k=>decide (k<p.2)))
def RU(ops:Array TZ)(o:TZ)(O:Tm)(S:St)(K:Tm->St->Prop):Prop:=match o.guard with
 | ae=>D5 o O S (fun z S'=>K (O.put o.dst z) S')
 | some (j,want)=>(match Iv ops O j with
  | Ub b=>(b=want->D5 o O S (fun z S'=>K (O.put o.dst z) S'))/\(b=!want->K (O.put o.dst Up) S)
  | _=>False)
def awI(ops:Array TZ)(O:Tm)(S:St)(K:Tm->St->Prop):Prop:=∃P:(Nat->Bool)->Tm->St->Prop,M1 ops=TN/\P (fun _=>TJ) O S /\
 (∀(i:Nat) (o:TZ),ops[i]? = ho o->∀L O S,P L O S->L i=TJ->(∀k∈vW o,L k=TN)->RU ops o O S (P (fun k=>if k=i then TN else L k))) /\
 (∀L O S,P L O S->(∀i,i<ops.size->L i=TN)->K O S)
def KC{K:Tm->St->Prop}(h:awI ops O S K)(q:RT O S N a w)(R:xS N ops.toList=TN)
  (T:∀O' S' a' w',K O' S'->RT O' S' N a' w'->dA S.dom S'.dom w w'->Q .normal a' w'):(UR id ops TN).wp ak Q a w:=by
 obtain⟨P,C,U,hstep,r⟩:=h;have back:∀(j:Nat) (o:TZ),ops[j]? = ho o->∀k∈vW o,k<j:=by
  intro j o m k V;have c:=aG.1 C (o,j) (oY (by simpa using m))
  have W:=aG.1 c k V;simpa using W
 have w0s:eF w.drew S:=q.st.drew;have X:RT O S N a w.drew:=⟨q.defers,q.size,fun t=>bI.grow q.st.noU (dA.drew _ w) _ _ (q.tm t),w0s⟩;refine wp_region_any kr (qj (fun listed a' w'=>listed.size=ops.size/\∃O' S',P (fun i=>listed.getD i TJ) O' S'/\RT O' S' N a' w'/\dA S.dom S'.dom w.drew w') ?_ ?_ ops.size _ a w.drew ?_ ⟨sm,O,S,?_,X,dA.refl _ _⟩)
 .rintro listed a' w' i ⟨g,O',S',D,l,E⟩ F;obtain⟨o,m,G,s⟩:=mg F;have Y:i<ops.size:=(jt.1 m).1;have Z:(fun k=>listed.getD k TJ) i=TJ:=(DB om).symm.trans G;have c:=hstep i o m _ O' S' D Z s;have u:(fun k=>(listed.setIfInBounds i TN).getD k TJ)=(fun k=>if k=i then TN else listed.getD k TJ):=by
   funext k;exact mi listed i k TJ om
  have nxt:∀z v w'' S'',P (fun k=>if k=i then TN else listed.getD k TJ) (O'.put o.dst z) S''->bI w'' S''.dom z v->eF w'' S''->dA S'.dom S''.dom w' w'' ->
    ((listed.setIfInBounds i TN).size=ops.size/\∃O1 S1,P (fun i_1=>(listed.setIfInBounds i TN).getD i_1 TJ) O1 S1/\RT O1 S1 N (a'.put o.dst v) w''/\dA S.dom S1.dom w.drew w''):=by
   intro z v w'' S'' x y A n;refine⟨by simp[g],_,S'',?_,l.put n A (fun d H=>Ap R m H) y,E.trans n⟩
   rw[u];exact x
  unfold wpOp;simp only[m];unfold RU at c
  cases f:o.guard with
  | none =>
   rw[f]at c;rw[aj (by simp[pk,f])]
   exact a6 (pO c l (fun z v w'' S'' x y A n=>nxt z v w'' S'' x y A n))
  | some p =>
   obtain⟨j,want⟩:=p;rw[f]at c;simp only at c
   cases M:Iv ops O' j<;>rw[M]at c<;>try exact c.elim
   rename_i b;have B:=BR l M;by_cases I:b=want
   .rw[aj (by simp[pk,f,B,I])]
    exact a6 (pO (c.1 I) l (fun z v w'' S'' x y A n=>nxt z v w'' S'' x y A n))
   .rw[ah (by simp[pk,f,B,I])]
    have J:b=!want:=by cases b<;>cases want<;>simp_all
    exact nxt Up Ut w' S' (c.2 J) (by simp[bI]) l.st (dA.refl _ _)
 .rintro listed a' w' ⟨g,O',S',D,l,E⟩ L;exact T O' S' a' w' (r _ O' S' D (fun i F=>wx back g L i F)) l ((dA.drew S.dom w).trans E)
 .simp only[Sg];exact bQ R4 sm
 .have e:(fun i=>(kV ops.size TJ).getD i TJ)=fun _=>TJ:=by funext i;exact Cb _ _
  show P (fun i=>(kV ops.size TJ).getD i TJ) O S;rw[e];exact U

inductive AX where
 | normal
 | ret
 | exit (id:Nat)
def AX.seq(k:Tm->St->Prop)(Q:AX->Tm->St->Prop):AX->Tm->St->Prop
 | .normal=>k
 | .ret=>Q .ret
 | .exit i=>Q (.exit i)
def AX.blk(id:Nat)(Q:AX->Tm->St->Prop):AX->Tm->St->Prop
 | .normal=>Q .normal
 | .ret=>Q .ret
 | .exit i=>if i=id then Q .normal else Q (.exit i)
def Po(ops:Array TZ)(O:Tm)(S:St)(K:Tm->St->Prop):Prop:=awX ops O S K∨awI ops O S K
def aw:Code->(AX->Tm->St->Prop)->Tm->St->Prop
 | WK,Q,O,S=>Q .normal O S
 | UR _ ops TJ,Q,O,S=>Jv ops ops.toList O S (Q .normal)
 | UR _ ops TN,Q,O,S=>Po ops O S (Q .normal)
 | .seq x y,Q,O,S=>aw x (AX.seq (aw y Q) Q) O S
 | .cond c x y,Q,O,S=>(match ev O c with
  | Ub b=>(b=TN->aw x Q O S)/\(b=TJ->aw y Q O S)
  | _=>False)
 | .block id c,Q,O,S=>aw c (AX.blk id Q) O S
 | .loop c,Q,O,S=>∃(I:Tm->St->Prop) (μ:Tm->St->Nat),I O S/\∀O S,I O S->aw c (AX.seq (fun O' S'=>I O' S'/\μ O' S' < μ O S) Q) O S
 | .exit id,Q,O,S=>Q (.exit id) O S
 | .ret,Q,O,S=>Q .ret O S
 | Wv c,Q,O,S=>aw c Q O S
 | .label _,Q,O,S=>Q .normal O S
 | _,_,_,_=>False
def jG(N:Nat):Code->Bool
 | WK=>true
 | UR _ ops _=>xS N ops.toList
 | .seq x y=>jG N x&&jG N y
 | .cond _ x y=>jG N x&&jG N y
 | .block _ c=>jG N c
 | .loop c=>jG N c
 | .exit _=>true
 | .ret=>true
 | Wv c=>jG N c
 | .label _=>true
 | _=>false
def Post(Q:AX->Tm->St->Prop)(D:Nat->Prop)(N:Nat)(w0:TO):Exit->Act->TO->Prop
 | .normal,a,w=>∃O S,Q .normal O S/\RT O S N a w/\dA D S.dom w0 w
 | .ret,a,w=>∃O S,Q .ret O S/\RT O S N a w/\dA D S.dom w0 w
 | .exit i,a,w=>∃O S,Q (.exit i) O S/\RT O S N a w/\dA D S.dom w0 w
 | _,_,_=>False
theorem mz{N:Nat}:∀(c:Code) (Q:AX->Tm->St->Prop) (O:Tm) (S:St) (D:Nat->Prop) (j:TO) (a:Act) (w:TO),aw c Q O S->jG N c=TN->RT O S N a w->dA D S.dom j w->c.wp ak (Post Q D N j) a w
 | WK,Q,O,S,D,j,a,w,h,_,f,g=>wp_skip ⟨O,S,h,f,g⟩
 | UR id ops TJ,Q,O,S,D,j,a,w,h,k,f,g=>by
  refine wp_region_list (wT ops.toList h f k (fun O' S' a' w' m o p=>⟨O',S',m,o,g.trans p⟩))
 | UR id ops TN,Q,O,S,D,j,a,w,h,k,f,g =>
  h.elim (fun h=>KA h f k (fun O' S' a' w' m o p=>⟨O',S',m,o,g.trans p⟩)) (fun h=>KC h f k (fun O' S' a' w' m o p=>⟨O',S',m,o,g.trans p⟩))
 | .seq x y,Q,O,S,D,j,a,w,h,k,f,g=>by
  simp only[jG,cV]at k;simp only[aw]at h;refine wp_seq (yC ?_ (mz x _ O S D j a w h k.1 f g));intro e a' w' d
  cases e with
  | normal=>obtain⟨O',S',m,o,p⟩:=d;exact mz y Q O' S' D j a' w' m k.2 o p
  | ret=>exact d
  | exit i=>exact d
  | goto l=>exact d.elim
  | panic ch=>exact d.elim
  | outgrown=>exact d.elim
 | .cond c x y,Q,O,S,D,j,a,w,h,k,f,g=>by
  simp only[jG,cV]at k;simp only[aw]at h;have q:=f.ev c
  cases r:ev O c<;>rw[r]at h q<;>try exact h.elim
  rename_i b;simp only[bI]at q
  cases b
  .exact wp_cond_false q (mz y Q O S D j a w (h.2 rfl) k.2 f g)
  .exact wp_cond_true q (mz x Q O S D j a w (h.1 rfl) k.1 f g)
 | .block id c,Q,O,S,D,j,a,w,h,k,f,g=>by
  simp only[jG]at k;simp only[aw]at h;refine wp_block (yC ?_ (mz c _ O S D j a w h k f g));intro e a' w' d
  cases e with
  | normal=>exact d
  | ret=>exact d
  | exit i =>
   obtain⟨O',S',m,o,p⟩:=d;simp only[AX.blk]at m;simp only[Exit.inBlock];split at m
   .rename_i e;subst e;simp;exact⟨O',S',m,o,p⟩
   .rename_i e;simp[e];exact⟨O',S',m,o,p⟩
  | goto l=>exact d.elim
  | panic ch=>exact d.elim
  | outgrown=>exact d.elim
 | .loop c,Q,O,S,D,j,a,w,h,k,f,g=>by
  simp only[jG]at k;simp only[aw]at h;obtain⟨I,μ,s,hround⟩:=h;have key:∀n O S a w,μ O S<n->I O S->RT O S N a w->dA D S.dom j w->Code.rounds ak c (Post Q D N j) n a w:=by
   intro n
   induction n with
   | zero=>intro O S a w m;omega
   | succ n ih =>
    intro O S a w m o p t;refine yC ?_ (mz c _ O S D j a w (hround O S o) k p t);intro e a' w' d
    cases e with
    | normal =>
     obtain⟨O',S',⟨u,A⟩,v,z⟩:=d;exact ih O' S' a' w' om u v z
    | ret=>exact d
    | exit i=>exact d
    | goto l=>exact d.elim
    | panic ch=>exact d.elim
    | outgrown=>exact d.elim
  exact wp_loop_rounds (μ O S+1) (key _ O S a w om s f g)
 | .exit id,Q,O,S,D,j,a,w,h,_,f,g=>wp_exit ⟨O,S,h,f,g⟩
 | .ret,Q,O,S,D,j,a,w,h,_,f,g=>wp_ret ⟨O,S,h,f,g⟩
 | .rangeFunc ..,_,_,_,_,_,_,_,h,_,_,_=>h.elim
 | Wv c,Q,O,S,D,j,a,w,h,k,f,g=>by
  simp only[jG]at k;simp only[aw]at h;refine wp_scope_straight (yC ?_ (mz c Q O S D j a w h k f g));intro e a' w' d
  cases e with
  | normal=>exact d
  | ret=>exact d
  | exit i=>exact d
  | goto l=>exact d.elim
  | panic ch=>exact d.elim
  | outgrown=>exact d.elim
 | .label _,Q,O,S,D,j,a,w,h,_,f,g=>wp_label ⟨O,S,h,f,g⟩
 | .goto _,_,_,_,_,_,_,_,h,_,_,_=>h.elim
 | .refuse _,_,_,_,_,_,_,_,h,_,_,_=>h.elim
def Bx:List Vi->Tm->St->(List AV->Prop)->Prop
 | [],_,_,K=>K []
 | .tmp t::r,O,S,K=>Bx r O S (fun l=>K (O t::l))
 | .cell p ty::r,O,S,K=>rL ty (O p) S (fun z=>Bx r O S (fun l=>K (z::l)))
def zw:List AV->AV
 | [x]=>x
 | l=>UE l
theorem Db{N:Nat}{O:Tm}{S:St}{a:Act}{w:TO}(e:RT O S N a w):∀(rs:List Vi) (K:List AV->Prop),Bx rs O S K ->
  ∃l vs,K l/\bB w S.dom l vs/\vs.length=rs.length/\(rs.mapM (m:=Sem) fun
   | .tmp t=>pure (a.tmps.getD t Ut)
   | .cell p t=>do loadVar t (<-asAddr (a.tmps.getD p Ut))).run ak w=.ok vs w
 | [],K,h=>⟨[],[],h,by simp[bB],rfl,sm⟩
 | .tmp t::r,K,h=>by
  obtain⟨l,vs,g,i,j,k⟩:=Db e r _ h;exact⟨O t::l,a.tmps.getD t Ut::vs,g,by simp only[bB];exact⟨e.tm t,i⟩,by simp[j],by simp only[TD,j9,Ib,ir,k]⟩
 | .cell p ty::r,K,h=>by
  obtain⟨z,v,o,q,d⟩:=rK h e.st (e.tm p);obtain⟨l,vs,g,i,j,k⟩:=Db e r _ o;have f:∃ad,a.tmps.getD p Ut=Uk (ho ad):=by
   have c:=e.tm p;simp only[Bx]at h
   cases n:O p<;>rw[n]at h c<;>simp only[rL]at h
   .simp only[bI]at c;exact⟨_,c⟩
   .simp only[bI]at c;obtain⟨b,off,u,c,_⟩:=c;exact⟨_,c⟩
   .simp only[bI]at c;exact⟨_,c⟩
  obtain⟨ad,f⟩:=f;rw[f]at d;have s:(loadVar ty ad).run ak w=.ok v w:=by simpa [Instr.loadAt,Instr.sureAddr]using d
  have haddr:(asAddr (Uk (ho ad))).run ak w=.ok ad w:=by simp[asAddr]
  exact⟨z::l,v::vs,g,by simp only[bB];exact⟨q,i⟩,by simp[j],by simp only[TD,j9,Ib,ir,f,haddr,s,k]⟩
def Lv(args:List AV):Tm:=fun t=>args.getD t .any
def NU:∀(args:List AV) (vs:List TM) (k:Nat),bB w M args vs->∀t,bI w M (Lv args t) ((vs.toArray++kV k Ut).getD t Ut):=by
 intro args vs k h t;have f:∀(j:Nat),(kV k Ut).getD j Ut=Ut:=fun j=>by
  rw[cT,NM];split<;>rfl
 rcases aB t args.length with a|a
 .have b:args[t]? = ho (args[t]):=bE a;obtain⟨v,c,d⟩:=vn args vs h t _ b;have e:t<vs.length:=(eX.1 c).1;have:(vs.toArray++kV k Ut).getD t Ut=v:=by
   rw[cT,eL (by simpa using e)]
   simp[c]
  rw[this];simp only[Lv,df,b,iE];exact d
 .have:Lv args t=Up:=by simp[Lv,df,dX a]
  rw[this];simp[bI]
theorem AS{w:TO}{M:Nat->Prop}:∀(l:List AV) (vs:List TM),bB w M l vs->vs.length=l.length
 | [],[],_=>rfl
 | _::l,_::vs,h=>by simp only[bB]at h;simp[AS l vs h.2]
 | [],_::_,h=>by simp[bB]at h
 | _::_,[],h=>by simp[bB]at h
def D6(rs:List Vi)(post:AV->St->Prop):AX->Tm->St->Prop
 | .normal,O,S=>Bx rs O S (fun l=>post (zw l) S)
 | .ret,O,S=>Bx rs O S (fun l=>post (zw l) S)
 | .exit _,_,_=>False
def sI{fn:Func}(s:ak.funcs[f]? = ho fn)(z:fn.body=ho c){args:List AV}{S:St}{post:AV->St->Prop}(N:Nat)(E:fn.ntmps=N)(k:jG N c=TN)(o:args.length<=N)
  (h:aw c (D6 fn.results.toList post) (Lv args) S):cI f args S post:=by
 intro w vs A p;refine calls_of_wp s z ?_;have B:=AS _ _ p;have m:RT (Lv args) S N { tmps:=vs.toArray++kV (fn.ntmps-vs.toArray.size) Ut,defers:=[] } w:=by
  refine⟨rfl,?_,fun t=>NU args vs _ p t,A⟩;simp;omega
 refine yC ?_ (mz c _ _ S S.dom w _ w h k m (dA.refl _ _));have fin:∀a w',(∃O S',Bx fn.results.toList O S' (fun l=>post (zw l) S')/\RT O S' N a w'/\dA S.dom S'.dom w w')->a.defers=[]/\∃v,(results fn a.tmps).run ak w'=.ok v w'/\∃v' r S',Ending.returned v=.returned v'/\post r S'/\bI w' S'.dom r v'/\eF w' S'/\dA S.dom S'.dom w w':=by
  rintro a w' ⟨O,S',n,j,q⟩;obtain⟨l,us,C,b,F,D⟩:=Db j _ _ n;have g:=AS _ _ b;refine⟨j.defers,if h:us.toArray.size=1 then us.toArray[0]else UB us.toArray,?_,_,_,S',rfl,C,?_,j.st,q⟩
  .simp only[results];rw[Array.mapM_eq_mapM_toList];simp only[j9,Sem.run_map,Ib];exact(nF (fun r:Result (List TM)=>((r.andThen fun a w'=>Result.ok a.toArray w').andThen fun a w'=>Result.ok (if h:a.size=1 then a[0]else UB a) w')) D).trans rfl
  .match l,us,b,g with
   | [x],[u],b,_=>simp only[bB]at b;simpa [zw]using b.1
   | [],[],b,g =>
    simp only[zw,bI];exact⟨[],sm,by simp[bB]⟩
   | x::y::l,u::u'::us,b,_ =>
    simp only[zw,bI];exact⟨u::u'::us,sm,b⟩
 intro e a w' d
 cases e with
 | normal=>exact fin a w' d
 | ret=>exact fin a w' d
 | exit i=>obtain⟨O,S',n,j,q⟩:=d;exact n.elim
 | goto l=>exact d.elim
 | panic ch=>exact d.elim
 | outgrown=>exact d.elim
def C8{fn:Func}(d:ak.funcs[f]? = ho fn)(e:fn.body=ho c){args:List AV}{S:St}{post:AV->St->Prop}(N:Nat)(g:fn.ntmps=N)(b:jG N c=TN)(a:args.length<=N)(_hne:fn.results.size≠0)
  (h:aw c (D6 fn.results.toList post) (Lv args) S):cI f args S post:=sI d e N g b a h

def dA.below(h:Below w.heap.size w w'):dA BF BF w w' :=
 ⟨h.os,h.tape,h.output,h.size,fun k b _=>h.block k b,fun k cs ty fr a=>⟨cs,by rw[h.block k (fN a)];exact a,rfl⟩,fun _ _ h=>h⟩
def CC(f:Nat)(args:List AV)(z:AV):Prop:=∀S,vA f args S z
def QX{zb z:Int}(h:∀va vb B w,B<=w.heap.size->eC w B va za->eC w B vb zb->Calls ak f #[va,vb] w (dJ w z)):CC f [Ue za,Ue zb] (Ue z):=by
 intro S w vs d a
 match vs,a with
 | [va,vb],a =>
  simp only[bB,bI]at a;refine(h va vb w.heap.size w (ag _) a.1 a.2.1).mono ?_;rintro e w' ⟨v,rfl,b,c⟩;exact⟨v,rfl,by simpa [bI]using b,dA.below c⟩
 | [],a=>simp[bB]at a
 | [_],a=>simp[bB]at a
 | _::_::_::_,a=>simp[bB]at a
def QY{z:Int}(h:∀va B w,B<=w.heap.size->eC w B va za->Calls ak f #[va] w (dJ w z)):CC f [Ue za] (Ue z):=by
 intro S w vs d a
 match vs,a with
 | [va],a =>
  simp only[bB,bI]at a;refine(h va w.heap.size w (ag _) a.1).mono ?_;rintro e w' ⟨v,rfl,b,c⟩;exact⟨v,rfl,by simpa [bI]using b,dA.below c⟩
 | [],a=>simp[bB]at a
 | _::_::_,a=>simp[bB]at a
def vA.spec(h:vA f args S z){post:AV->St->Prop}(c:post z S):cI f args S post:=by
 intro w vs a d;refine(h w vs a d).mono ?_;rintro e w' ⟨v,rfl,g,b⟩;exact⟨v,z,S,rfl,c,g,a.frozen b,b.any _⟩
def kb(x:α):∃y:α,y=x:=⟨x,rfl⟩
noncomputable def Aw:Code->(AX->Tm->St->Prop)->Tm->St->Prop:=fP (kb aw)
def pW:Aw=aw:=dj (kb aw)
noncomputable def Er:Array TZ->List TZ->Tm->St->(Tm->St->Prop)->Prop:=fP (kb Jv)
def xD:Er=Jv:=dj (kb Jv)
noncomputable def It:Array TZ->Tm->St->(Tm->St->Prop)->Prop:=fP (kb Po)
def tG:It=Po:=dj (kb Po)
noncomputable def Gc:List TZ->Tm->St->List (Nat×eA)->(Tm->List (Nat×eA)->Prop)->Prop:=fP (kb Gg)
def qL:Gc=Gg:=dj (kb Gg)
noncomputable def QO:List TZ->List (List Nat)->List TZ->Tm->St->(Tm->St->Prop)->Prop:=fP (kb Pl)
def Ep:QO=Pl:=dj (kb Pl)
noncomputable def Nx:TZ->Tm->St->(AV->St->Prop)->Prop:=fP (kb D5)
def xE:Nx=D5:=dj (kb D5)
noncomputable def vS:List (Nat×eA)->Tm->St->(Tm->St->Prop)->Prop:=fP (kb oO)
def vR:vS=oO:=dj (kb oO)
structure Ns{α:Type}(x:α):Type where
structure Dep2{α β:Type}(x:α)(y:β):Type where
def ax(S:St)(K:Nat->Prop)(_u:Ns K:=⟨⟩):Prop:=∀b,S b=ae->K b
def Qx(f:Nat)(args:List AV)(S:St)(K:AV->St->Prop)(_u:Ns K:=⟨⟩):Prop:=cI f args S K
def AQ(t t':TW)(s x:AV)(S:St)(K:AV->St->Prop)(_u:Ns K:=⟨⟩):Prop:=gE t t' s x S K
def KM(t:TW)(s x:AV)(S:St)(K:AV->St->Prop)(_u:Ns K:=⟨⟩):Prop:=rM t s x S K
def AM(t:TW)(s x:AV)(S:St)(K:AV->St->Prop)(_u:Ns K:=⟨⟩):Prop:=yb t s x S K
noncomputable def AwDK(ops:Array TZ)(O:Tm)(S:St)(K:Tm->St->Prop)(_u:Dep2 ops K:=⟨⟩):Prop:=It ops O S K
noncomputable def AwLK(c:Code)(Q:AX->Tm->St->Prop)(O:Tm)(S:St)(_u:Dep2 c Q:=⟨⟩):Prop:=Aw (.loop c) Q O S
def ax.intro{K:Nat->Prop}(h:∀b,S b=ae->K b):ax S K:=h
def gd(y:AV)(want:Bool)(A B:Prop):Prop:=match y with
 | Ub b=>if b=want then A else B
 | _=>False
def cd(y:AV)(A B:Prop):Prop:=match y with
 | Ub b=>if b=TN then A else B
 | _=>False
def AJ(c x y:AV)(K:AV->Prop):Prop:=match c with
 | Ub t=>K (if t then x else y)
 | _=>False
def Pr(x:AV)(K:AV->Prop):Prop:=match x with
 | UA es b i=>K (UA es b i)
 | WF es y=>K (WF es y)
 | _=>False
def Jw(x:AV)(i:Nat)(K:AV->Prop):Prop:=match x with
 | UE l=>(match l[i]? with
  | some z=>K z
  | ae=>False)
 | _=>False
def D7(f:AV)(args:List AV)(S:St)(K:AV->St->Prop):Prop:=match f with
 | .fn f l=>((11<=f/\f<270)/\f≠252/\f≠253)/\Qx f (args++l) S K
 | WH f l=>((11<=f/\f<270)/\f≠252/\f≠253)/\Qx f (l++args) S K
 | _=>False
def Mp(f:AV)(args:List AV)(S:St)(z:AV):Prop:=match f with
 | .fn f l=>((11<=f/\f<270)/\f≠252/\f≠253)/\vA f (args++l) S z
 | _=>False
@[congr] theorem gd_congr{y y':AV}{b:Bool}{A B:Prop}(h:y=y'):gd y b A B=gd y' b A B:=by rw[h]
@[congr] theorem cd_congr{y y':AV}{A B:Prop}(h:y=y'):cd y A B=cd y' A B:=by rw[h]
@[congr] theorem Qm{c c' x x' y y':AV}{K:AV->Prop}(h:c=c')(h2:x=x')(h3:y=y'):AJ c x y K=AJ c' x' y' K:=by rw[h,h2,h3]
@[congr] theorem RS{x x':AV}{K:AV->Prop}(h:x=x'):Pr x K=Pr x' K:=by rw[h]
@[congr] theorem Qp{x x':AV}{i:Nat}{K:AV->Prop}(h:x=x'):Jw x i K=Jw x' i K:=by rw[h]
@[congr] theorem Py{f f':AV}{l l':List AV}{S:St}{K:AV->St->Prop}(h:f=f')(h2:l=l'):D7 f l S K=D7 f' l' S K:=by rw[h,h2]
@[go_sem] theorem gd_tt{A B:Prop}:gd (Ub TN) TN A B=A:=by simp[gd]
@[go_sem] theorem gd_ff{A B:Prop}:gd (Ub TJ) TJ A B=A:=by simp[gd]
@[go_sem] theorem gd_tf{A B:Prop}:gd (Ub TN) TJ A B=B:=by simp[gd]
@[go_sem] theorem gd_ft{A B:Prop}:gd (Ub TJ) TN A B=B:=by simp[gd]
@[go_sem] theorem cd_t{A B:Prop}:cd (Ub TN) A B=A:=by simp[cd]
@[go_sem] theorem cd_f{A B:Prop}:cd (Ub TJ) A B=B:=by simp[cd]
@[go_sem] theorem aPick_t{x y:AV}{K:AV->Prop}:AJ (Ub TN) x y K=K x:=by simp[AJ]
@[go_sem] theorem aPick_f{x y:AV}{K:AV->Prop}:AJ (Ub TJ) x y K=K y:=by simp[AJ]
attribute [go_sem] Pr Jw D7 Mp AK
section
variable {O O':Tm} {S:St} {K1:AV->Prop} {K2:AV->St->Prop} {K3:Tm->St->Prop} {KS:St->Prop} {x x' y y':AV} {t t2 f:Nat}
@[congr] theorem SD{c:Code}{Q:AX->Tm->St->Prop}(h:O=O'):Aw c Q O S=Aw c Q O' S:=by rw[h]
@[congr] theorem RI{ops:Array TZ}{l:List TZ}(h:O=O'):Er ops l O S K3=Er ops l O' S K3:=by rw[h]
@[congr] theorem RL{ops:Array TZ}(h:O=O'):It ops O S K3=It ops O' S K3:=by rw[h]
@[congr] theorem RK{l:List TZ}{pend pend':List (Nat×eA)}{H:Tm->List (Nat×eA)->Prop}(h:O=O')(hp:pend=pend'):Gc l O S pend H=Gc l O' S pend' H:=by rw[h,hp]
@[congr] theorem RH{ops l:List TZ}{js:List (List Nat)}(h:O=O'):QO ops js l O S K3=QO ops js l O' S K3:=by rw[h]
@[congr] theorem Pp{pend pend':List (Nat×eA)}(h:O=O')(hp:pend=pend'):vS pend O S K3=vS pend' O' S K3:=by rw[h,hp]
@[congr] theorem RR{o:TZ}(h:O=O'):Nx o O S K2=Nx o O' S K2:=by rw[h]
@[congr] theorem Px{c:Call}(h:O=O'):yd O c S K2=yd O' c S K2:=by rw[h]
@[congr] theorem NG:o9 t S K2=o9 t S K2:=rfl
@[congr] theorem Qq(h:x=x'):kI t x S K2=kI t x' S K2:=by rw[h]
@[congr] theorem Pt(h:x=x')(h2:y=y'):lR t x y S K2=lR t x' y' S K2:=by rw[h,h2]
@[congr] theorem Pu(h:x=x'):rL t x S K1=rL t x' S K1:=by rw[h]
@[congr] theorem NB(h:x=x')(h2:y=y'):tu t x y S KS=tu t x' y' S KS:=by rw[h,h2]
@[congr] theorem ND(h:x=x')(h2:y=y'):tv t x y K1=tv t x' y' K1:=by rw[h,h2]
@[congr] theorem NE(h:x=x'):tw t x f K1=tw t x' f K1:=by rw[h]
@[congr] theorem Qn(h:x=x'):Hz t x K1=Hz t x' K1:=by rw[h]
@[congr] theorem Qr{op:BinOp}(h:x=x')(h2:y=y'):H7 op t x y K1=H7 op t x' y' K1:=by rw[h,h2]
@[congr] theorem RP{op:UnOp}(h:x=x'):RQ op x K1=RQ op x' K1:=by rw[h]
@[congr] theorem Pw(h:x=x'):AN t t2 x K1=AN t t2 x' K1:=by rw[h]
@[congr] theorem NF{ps ps':List (Nat×AV)}(h:ps=ps'):tz t ps K1=tz t ps' K1:=by rw[h]
@[congr] theorem H5{n:Nat}{ps ps':List (Nat×AV)}(h:ps=ps'):da t n ps S K2=da t n ps' S K2:=by rw[h]
@[congr] theorem NC{lo lo' hi hi' mx mx':Option AV}(h:x=x')(h1:lo=lo')(h2:hi=hi')(h3:mx=mx'):lh t x lo hi mx K1=lh t x' lo' hi' mx' K1:=by rw[h,h1,h2,h3]
@[congr] theorem M6(h:x=x')(h2:y=y'):gE t t2 x y S K2=gE t t2 x' y' S K2:=by rw[h,h2]
@[congr] theorem Pv(h:x=x')(h2:y=y'):yb t x y S K2=yb t x' y' S K2:=by rw[h,h2]
@[congr] theorem Ql{rs:List Vi}{K:List AV->Prop}(h:O=O'):Bx rs O S K=Bx rs O' S K:=by rw[h]
@[congr] theorem Qo{rs:List Vi}{e:AX}(h:O=O'):D6 rs K2 e O S=D6 rs K2 e O' S:=by rw[h]
@[congr] theorem PM{args args':List AV}{z:AV}(h:args=args'):vA f args S z=vA f args' S z:=by rw[h]
end
section
variable {Q:AX->Tm->St->Prop} {O:Tm} {S:St} {x y c:Code} {id i:Nat} {ops:Array Oper} {K:Tm->St->Prop} {H:AV->St->Prop} {l:List Oper} {o:Oper}
@[go_sem ↓] theorem aw_skip:Aw WK Q O S=Q .normal O S:=by rw[pW,aw]
@[go_sem ↓] theorem RG:Aw (UR id ops TJ) Q O S=Er ops ops.toList O S (Q .normal):=by rw[pW,xD,aw]
@[go_sem ↓] theorem aw_draw:Aw (UR id ops TN) Q O S=AwDK ops O S (Q .normal):=by unfold AwDK;rw[pW,tG,aw]
@[go_sem ↓] theorem aw_lp:Aw (.loop c) Q O S=AwLK c Q O S:=rfl
@[go_sem ↓] theorem MW:Aw (.seq x y) Q O S=Aw x (AX.seq (Aw y Q) Q) O S:=by rw[pW,aw]
@[go_sem ↓] theorem aw_block:Aw (.block id c) Q O S=Aw c (AX.blk id Q) O S:=by rw[pW,aw]
@[go_sem ↓] theorem aw_exit:Aw (.exit id) Q O S=Q (.exit id) O S:=by rw[pW,aw]
@[go_sem ↓] theorem aw_scope:Aw (Wv x) Q O S=Aw x Q O S:=by rw[pW,aw]
@[go_sem ↓] theorem aw_label{l:Nat}:Aw (.label l) Q O S=Q .normal O S:=by rw[pW,aw]
@[go_sem ↓] theorem aw_ret:Aw .ret Q O S=Q .ret O S:=by rw[pW,aw]
@[go_sem ↓] theorem zJ:AX.seq K Q .normal=K:=rfl
@[go_sem ↓] theorem seq_ret:AX.seq K Q .ret=Q .ret:=rfl
@[go_sem ↓] theorem seq_exit:AX.seq K Q (.exit i)=Q (.exit i):=rfl
@[go_sem ↓] theorem RD:AX.blk id Q .normal=Q .normal:=rfl
@[go_sem ↓] theorem blk_ret:AX.blk id Q .ret=Q .ret:=rfl
@[go_sem ↓] theorem MR:AX.blk id Q (.exit i)=if i=id then Q .normal else Q (.exit i):=rfl
@[go_sem ↓] theorem awL_nil:Er ops [] O S K=K O S:=by rw[xD,Jv]
def aC(I:Tm->St->Prop)(μ:Tm->St->Nat)(a:I O S)(b:∀O S,I O S->Aw c (AX.seq (fun O' S'=>I O' S'/\μ O' S' < μ O S) Q) O S):Aw (.loop c) Q O S:=by
 rw[pW]at *;exact⟨I,μ,a,b⟩
end
def OC{b c:Bool}:((b=c->p)/\(b=!c->q))=if b=c then p else q:=by
 cases b<;>cases c<;>simp
def Me{b:Bool}:((b=TN->p)/\(b=TJ->q))=if b=TN then p else q:=by
 cases b<;>simp
@[go_sem ↓] theorem Hu{e:UL}{x y:Code}{Q:AX->Tm->St->Prop}{O:Tm}{S:St}:Aw (.cond e x y) Q O S=cd (ev O e) (Aw x Q O S) (Aw y Q O S):=by
 rw[pW,aw];unfold cd
 cases ev O e<;>first|rfl|exact Me
@[go_sem ↓] theorem awL_go{ops:Array TZ}{l:List TZ}{O:Tm}{S:St}{K:Tm->St->Prop}{o:TZ}:Er ops (o::l) O S K=(match o.guard with
  | ae=>Nx o O S (fun z S'=>Er ops l (O.put o.dst z) S' K)
  | some (j,want)=>gd (Iv ops O j) want (Nx o O S (fun z S'=>Er ops l (O.put o.dst z) S' K)) (Er ops l (O.put o.dst Up) S K)):=by
 rw[xD,xE,Jv]
 cases o.guard with
 | none=>rfl
 | some p =>
  obtain⟨j,want⟩:=p;simp only[gd]
  cases Iv ops O j<;>first|rfl|exact OC
@[go_sem ↓] theorem aCall_go{O:Tm}{c:Call}{S:St}{K:AV->St->Prop}:yd O c S K=(match c.callee with
 | Wr f=>D7 (ev O f) (c.args.toList.map (ev O)) S K
 | UP .len=>(match c.args.toList,c.argTypes.toList with
  | [x],[t]=>Hz t (ev O x) (fun z=>K z S)
  | _,_=>False)
 | UP .max=>(match c.args.toList with
  | [x,y]=>Ps (ev O x) (ev O y) (fun z=>K z S)
  | _=>False)
 | UP .append=>(match c.args.toList,c.argTypes.toList with
  | [s,x],[t,t']=>if t'=3 then KM t (ev O s) (ev O x) S K else AQ t t' (ev O s) (ev O x) S K
  | _,_=>False)
 | UP .copy=>(match c.args.toList,c.argTypes.toList with
  | [s,x],[t,_]=>AM t (ev O s) (ev O x) S K
  | _,_=>False)
 | _=>False):=rfl
@[go_sem ↓] theorem AOp_go{o:TZ}{O:Tm}{S:St}{K:AV->St->Prop}:Nx o O S K=(match o.op with
  | WM x=>K (ev O x) S
  | .assign x=>K (ev O x) S
  | .pick c x y=>AJ (ev O c) (ev O x) (ev O y) (fun z=>K z S)
  | .alloc t=>o9 t S K
  | .box t x=>kI t (ev O x) S K
  | .build t ps=>tz t (ps.toList.map fun p=>(p.1,ev O p.2)) (fun z=>K z S)
  | UU t n ps=>da t n (ps.toList.map fun p=>(p.1,ev O p.2)) S K
  | .load t x=>rL t (ev O x) S (fun z=>K z S)
  | .store t x y=>tu t (ev O x) (ev O y) S (fun S'=>K Up S')
  | VY x=>Pr (ev O x) (fun z=>K z S)
  | .binOp op t x y _=>H7 op t (ev O x) (ev O y) (fun z=>K z S)
  | .unOp op _ x=>RQ op (ev O x) (fun z=>K z S)
  | Wj s d x=>AN s d (ev O x) (fun z=>K z S)
  | VX (.func f) fi cs=>AK f (fi.toList.map (ev O)) (cs.toList.map (ev O)) (fun z=>K z S)
  | .makeSlice t x y=>lR t (ev O x) (ev O y) S K
  | .slice t x lo hi mx=>lh t (ev O x) (lo.map (ev O)) (hi.map (ev O)) (mx.map (ev O)) (fun z=>K z S)
  | VG t x f=>tw t (ev O x) f (fun z=>K z S)
  | VH t x i=>tv t (ev O x) (ev O i) (fun z=>K z S)
  | .index t x i=>By t (ev O x) (ev O i) (fun z=>K z S)
  | Wk x i=>Jw (ev O x) i (fun z=>K z S)
  | WC c=>yd O c S K
  | _=>False):=by rw[xE,D5]<;>rfl
def fC{fn:Func}(d:ak.funcs[f]? = ho fn)(e:fn.body=ho c){args:List AV}{S:St}{post:AV->St->Prop}(N:Nat)(g:fn.ntmps=N)(b:jG N c=TN)(a:args.length<=N)
  (h:Aw c (D6 fn.results.toList post) (Lv args) S):cI f args S post:=sI d e N g b a (by rw[pW]at h;exact h)
def B4{fn:Func}(e:ak.funcs[f]? = ho fn)(g:fn.body=ho c){args:List AV}{S:St}{post:AV->St->Prop}(N:Nat)(i:fn.ntmps=N)(b:jG N c=TN)(a:args.length<=N)(d:fn.results.size≠0)
  (h:Aw c (D6 fn.results.toList post) (Lv args) S):cI f args S post:=C8 e g N i b a d (by rw[pW]at h;exact h)
@[go_sem] theorem put_hit{O:Tm}{d:Nat}{x:AV}:O.put (ho d) x d=x:=by simp[Tm.put_eq]
@[go_sem] theorem put_miss{O:Tm}{d t:Nat}{x:AV}(h:t≠d):O.put (ho d) x t=O t:=by simp[Tm.put_eq,h]
@[go_sem] theorem put_no{O:Tm}{x:AV}:O.put ae x=O:=by rw[Tm.put_eq]
noncomputable def Ny(k:Nat):List AV->Tm
 | []=>fun _=>.any
 | a::l=>(Ny (k+1) l).put (ho k) a
theorem Lu:∀(l:List AV) (k t:Nat),Ny k l t=if k<=t then l.getD (t-k) Up else .any
 | [],k,t=>by simp[Ny]
 | a::l,k,t=>by
  simp only[Ny,Tm.put_eq];by_cases e:t=k
  .subst e;simp
  .rw[ah e,Lu l (k+1) t];by_cases h:k<=t
   .rw[aj om,aj h,(om:t-k=(t-(k+1))+1)];simp
   .rw[ah om,ah h]
def jY(l:List AV):Lv l=Ny 0 l:=by funext t;rw[Lu];simp[Lv]
def jg{fn:Func}(g:ak.funcs[f]? = ho fn)(i:fn.ntmps=N)(e:fn.results=R)
  (h:Aw c (D6 R.toList post) (Ny 0 args) S) (j:fn.body=ho c:=by exact rfl) (b:jG N c=TN:=by kernel_rfl) (a:args.length<=N:=by simp) (d:R.size≠0:=by simp):cI f args S post :=
 B4 g j N i b a (by rw[e];exact d) (by rw[e,jY];exact h)
@[go_sem] theorem tmP_nil{k:Nat}:Ny k []=fun _=>Up:=rfl
@[go_sem] theorem tmP_cons{k:Nat}{a:AV}{l:List AV}:Ny k (a::l)=(Ny (k+1) l).put (ho k) a:=rfl
@[go_sem ↓] theorem alloc50{S:St}{K:AV->St->Prop}:o9 50 S K=ax S (fun b=>K (UA 2 b 0) (S.upd b ⟨50,2,1,fun _=>Ue 0⟩)):=rfl
@[go_sem ↓] theorem alloc52{S:St}{K:AV->St->Prop}:o9 52 S K=ax S (fun b=>K (UA 1 b 0) (S.upd b ⟨52,1,1,fun _=>US⟩)):=rfl
@[go_sem ↓] theorem alloc4{S:St}{K:AV->St->Prop}:o9 4 S K=ax S (fun b=>K (UA 1 b 0) (S.upd b ⟨4,1,1,fun _=>Ub TJ⟩)):=rfl
@[go_sem ↓] theorem alloc167{S:St}{K:AV->St->Prop}:o9 167 S K=ax S (fun b=>K (UA 2 b 0) (S.upd b ⟨167,2,2,fun _=>Ue 0⟩)):=rfl
@[go_sem] theorem bW{S:St}{b:Nat}{X:eA}:S.upd b X b=ho X:=by simp[St.upd]
@[go_sem] theorem aE{S:St}{b c:Nat}{X:eA}(h:c≠b):S.upd b X c=S c:=by simp[St.upd,h]
@[go_sem] theorem slots_2:fI 2=ho (1,1):=rfl
@[go_sem] theorem slots_3:fI 3=ho (1,1):=rfl
@[go_sem] theorem slots_4:fI 4=ho (1,1):=rfl
@[go_sem] theorem slots_5:fI 5=ho (1,1):=rfl
@[go_sem] theorem slots_22:fI 22=ho (1,1):=rfl
@[go_sem] theorem slots_25:fI 25=ho (1,1):=rfl
@[go_sem] theorem slots_28:fI 28=ho (1,1):=rfl
@[go_sem] theorem slots_29:fI 29=ho (1,1):=rfl
@[go_sem] theorem slots_34:fI 34=ho (1,1):=rfl
@[go_sem] theorem slots_48:fI 48=ho (1,1):=rfl
@[go_sem] theorem Qc:gD 50 0=ae:=rfl
@[go_sem] theorem Qb:gD 50 1=ae:=rfl
@[go_sem] theorem elemT_48:dQ 48=ae:=rfl
@[go_sem] theorem slots_41:fI 41=ho (1,1):=rfl
@[go_sem] theorem slots_52:fI 52=ho (1,1):=rfl
@[go_sem] theorem slots_59:fI 59=ho (1,1):=rfl
@[go_sem] theorem slots_97:fI 97=ho (1,1):=rfl
@[go_sem] theorem Sr:fI 146=ho (1,1):=rfl
@[go_sem] theorem Sq:fI 158=ho (1,1):=rfl
@[go_sem] theorem Sl:fI 192=ho (1,1):=rfl
@[go_sem] theorem Si:fI 216=ho (1,1):=rfl
@[go_sem] theorem slots_50:fI 50=ho (2,1):=rfl
@[go_sem] theorem Sn:fI 167=ho (2,2):=rfl
@[go_sem] theorem Sk:fI 195=ho (2,2):=rfl
@[go_sem] theorem Sj:fI 197=ho (2,7):=rfl
@[go_sem] theorem slots_24:fI 24=ho (1,4):=rfl
@[go_sem] theorem slots_27:fI 27=ho (1,6):=rfl
@[go_sem] theorem Ss:fI 107=ho (1,2):=rfl
@[go_sem] theorem Sp:fI 160=ho (1,4):=rfl
@[go_sem] theorem Sm:fI 183=ho (1,2):=rfl
@[go_sem] theorem Sh:fI 218=ho (1,2):=rfl
@[go_sem] theorem elemT_22:dQ 22=ho 41:=rfl
@[go_sem] theorem elemS_41:cg 41=1:=rfl
@[go_sem] theorem elemT_28:dQ 28=ho 29:=rfl
@[go_sem] theorem elemT_29:dQ 29=ho 2:=rfl
@[go_sem] theorem elemT_52:dQ 52=ho 59:=rfl
@[go_sem] theorem elemT_59:dQ 59=ho 50:=rfl
@[go_sem] theorem SA:dQ 146=ho 3:=rfl
@[go_sem] theorem Sz:dQ 192=ho 52:=rfl
@[go_sem] theorem Sy:dQ 216=ho 59:=rfl
@[go_sem] theorem elemS_2:cg 2=1:=rfl
@[go_sem] theorem elemS_3:cg 3=1:=rfl
@[go_sem] theorem elemS_29:cg 29=1:=rfl
@[go_sem] theorem elemS_59:cg 59=1:=rfl
@[go_sem] theorem elemS_50:cg 50=2:=rfl
@[go_sem] theorem elemS_52:cg 52=1:=rfl
@[go_sem] theorem make_28{k k':UJ}{n n':Int}{S:St}{K:AV->St->Prop}:lR 28 (Ug k n) (Ug k' n') S K=((AV.int k n=Ug k' n')/\(0<=n/\n<=1099511627776)/\ax S (fun b=>K (Vg 1 b 0 n.toNat) (S.upd b ⟨29,1,n.toNat,fun _=>US⟩))):=by
 simp only[lR,dQ,fZ,cg,ke];rfl
@[go_sem] theorem make_29{k k':UJ}{n n':Int}{S:St}{K:AV->St->Prop}:lR 29 (Ug k n) (Ug k' n') S K=((AV.int k n=Ug k' n')/\(0<=n/\n<=1099511627776)/\ax S (fun b=>K (Vg 1 b 0 n.toNat) (S.upd b ⟨2,1,n.toNat,fun _=>Ug Uc 0⟩))):=by
 simp only[lR,dQ,fZ,cg,ke];rfl
@[go_sem] theorem make_52{k k':UJ}{n n':Int}{S:St}{K:AV->St->Prop}:lR 52 (Ug k n) (Ug k' n') S K=((AV.int k n=Ug k' n')/\(0<=n/\n<=1099511627776)/\ax S (fun b=>K (Vg 1 b 0 n.toNat) (S.upd b ⟨59,1,n.toNat,fun _=>US⟩))):=by
 simp only[lR,dQ,fZ,cg,ke];rfl
@[go_sem] theorem make_59{k k':UJ}{n n':Int}{S:St}{K:AV->St->Prop}:lR 59 (Ug k n) (Ug k' n') S K=((AV.int k n=Ug k' n')/\(0<=n/\n<=1099511627776)/\ax S (fun b=>K (Vg 2 b 0 n.toNat) (S.upd b ⟨50,2,n.toNat,fun _=>Ue 0⟩))):=by
 simp only[lR,dQ,fZ,cg,ke];rfl
@[go_sem] theorem make_146{k k':UJ}{n n':Int}{S:St}{K:AV->St->Prop}:lR 146 (Ug k n) (Ug k' n') S K=((AV.int k n=Ug k' n')/\(0<=n/\n<=1099511627776)/\ax S (fun b=>K (Vg 1 b 0 n.toNat) (S.upd b ⟨3,1,n.toNat,fun _=>Ug Uc 0⟩))):=by
 simp only[lR,dQ,fZ,cg,ke];rfl
@[go_sem] theorem make_216{k k':UJ}{n n':Int}{S:St}{K:AV->St->Prop}:lR 216 (Ug k n) (Ug k' n') S K=((AV.int k n=Ug k' n')/\(0<=n/\n<=1099511627776)/\ax S (fun b=>K (Vg 1 b 0 n.toNat) (S.upd b ⟨59,1,n.toNat,fun _=>US⟩))):=by
 simp only[lR,dQ,fZ,cg,ke];rfl
@[go_sem] theorem Qj:gD 24 0=ho (1,0):=rfl
@[go_sem] theorem Qi:gD 24 1=ho (1,1):=rfl
@[go_sem] theorem Qh:gD 24 2=ho (1,2):=rfl
@[go_sem] theorem Qg:gD 24 3=ho (1,3):=rfl
@[go_sem] theorem Qf:gD 27 0=ho (1,0):=rfl
@[go_sem] theorem Qe:gD 27 1=ho (1,4):=rfl
@[go_sem] theorem Qd:gD 27 2=ho (1,5):=rfl
@[go_sem] theorem O3:gD 107 0=ho (1,0):=rfl
@[go_sem] theorem O2:gD 107 1=ho (1,1):=rfl
@[go_sem] theorem O1:gD 160 0=ho (1,0):=rfl
@[go_sem] theorem O0:gD 160 1=ho (1,1):=rfl
@[go_sem] theorem OZ:gD 160 2=ho (1,2):=rfl
@[go_sem] theorem OY:gD 160 3=ho (1,3):=rfl
@[go_sem] theorem OX:gD 167 0=ho (2,0):=rfl
@[go_sem] theorem OW:gD 167 1=ho (2,1):=rfl
@[go_sem] theorem OV:gD 183 0=ho (1,0):=rfl
@[go_sem] theorem OU:gD 183 1=ho (1,1):=rfl
@[go_sem] theorem OT:gD 197 0=ho (2,0):=rfl
@[go_sem] theorem OS:gD 197 1=ho (2,1):=rfl
@[go_sem] theorem OR:gD 197 2=ho (2,2):=rfl
@[go_sem] theorem OQ:gD 197 3=ho (2,3):=rfl
@[go_sem] theorem OP:gD 197 4=ho (2,5):=rfl
@[go_sem] theorem OO:gD 218 0=ho (1,0):=rfl
@[go_sem] theorem ON:gD 218 1=ho (1,1):=rfl
@[go_sem] theorem kindT_2:xR 2=ho Uc:=rfl
@[go_sem] theorem kindT_3:xR 3=ho Uc:=rfl
@[go_sem] theorem kindT_5:xR 5=ho .u8:=rfl
@[go_sem] theorem kindT_34:xR 34=ho Uc:=rfl
@[go_sem] theorem kindT_97:xR 97=ho .u64:=rfl
@[go_sem] theorem srcT_2:C6 2=TN:=rfl
@[go_sem] theorem srcT_3:C6 3=TN:=rfl
@[go_sem] theorem srcT_5:C6 5=TN:=rfl
@[go_sem] theorem srcT_25:C6 25=TN:=rfl
@[go_sem] theorem srcT_41:C6 41=TN:=rfl
@[go_sem] theorem srcT_97:C6 97=TN:=rfl
@[go_sem] theorem box_2{x:AV}{S:St}{K:AV->St->Prop}:kI 2 x S K=(dY 1 x/\ax S (fun b=>K (UA 1 b 0) (S.upd b ⟨2,1,1,fun _=>x⟩))):=rfl
@[go_sem] theorem box_3{x:AV}{S:St}{K:AV->St->Prop}:kI 3 x S K=(dY 1 x/\ax S (fun b=>K (UA 1 b 0) (S.upd b ⟨3,1,1,fun _=>x⟩))):=rfl
@[go_sem] theorem box_4{x:AV}{S:St}{K:AV->St->Prop}:kI 4 x S K=(dY 1 x/\ax S (fun b=>K (UA 1 b 0) (S.upd b ⟨4,1,1,fun _=>x⟩))):=rfl
@[go_sem] theorem box_5{x:AV}{S:St}{K:AV->St->Prop}:kI 5 x S K=(dY 1 x/\ax S (fun b=>K (UA 1 b 0) (S.upd b ⟨5,1,1,fun _=>x⟩))):=rfl
@[go_sem] theorem box_22{x:AV}{S:St}{K:AV->St->Prop}:kI 22 x S K=(dY 1 x/\ax S (fun b=>K (UA 1 b 0) (S.upd b ⟨22,1,1,fun _=>x⟩))):=rfl
@[go_sem] theorem box_25{x:AV}{S:St}{K:AV->St->Prop}:kI 25 x S K=(dY 1 x/\ax S (fun b=>K (UA 1 b 0) (S.upd b ⟨25,1,1,fun _=>x⟩))):=rfl
@[go_sem] theorem box_28{x:AV}{S:St}{K:AV->St->Prop}:kI 28 x S K=(dY 1 x/\ax S (fun b=>K (UA 1 b 0) (S.upd b ⟨28,1,1,fun _=>x⟩))):=rfl
@[go_sem] theorem box_29{x:AV}{S:St}{K:AV->St->Prop}:kI 29 x S K=(dY 1 x/\ax S (fun b=>K (UA 1 b 0) (S.upd b ⟨29,1,1,fun _=>x⟩))):=rfl
@[go_sem] theorem box_34{x:AV}{S:St}{K:AV->St->Prop}:kI 34 x S K=(dY 1 x/\ax S (fun b=>K (UA 1 b 0) (S.upd b ⟨34,1,1,fun _=>x⟩))):=rfl
@[go_sem] theorem box_41{x:AV}{S:St}{K:AV->St->Prop}:kI 41 x S K=(dY 1 x/\ax S (fun b=>K (UA 1 b 0) (S.upd b ⟨41,1,1,fun _=>x⟩))):=rfl
@[go_sem] theorem box_52{x:AV}{S:St}{K:AV->St->Prop}:kI 52 x S K=(dY 1 x/\ax S (fun b=>K (UA 1 b 0) (S.upd b ⟨52,1,1,fun _=>x⟩))):=rfl
@[go_sem] theorem box_59{x:AV}{S:St}{K:AV->St->Prop}:kI 59 x S K=(dY 1 x/\ax S (fun b=>K (UA 1 b 0) (S.upd b ⟨59,1,1,fun _=>x⟩))):=rfl
@[go_sem] theorem box_97{x:AV}{S:St}{K:AV->St->Prop}:kI 97 x S K=(dY 1 x/\ax S (fun b=>K (UA 1 b 0) (S.upd b ⟨97,1,1,fun _=>x⟩))):=rfl
@[go_sem] theorem box_146{x:AV}{S:St}{K:AV->St->Prop}:kI 146 x S K=(dY 1 x/\ax S (fun b=>K (UA 1 b 0) (S.upd b ⟨146,1,1,fun _=>x⟩))):=rfl
@[go_sem] theorem box_158{x:AV}{S:St}{K:AV->St->Prop}:kI 158 x S K=(dY 1 x/\ax S (fun b=>K (UA 1 b 0) (S.upd b ⟨158,1,1,fun _=>x⟩))):=rfl
@[go_sem] theorem box_192{x:AV}{S:St}{K:AV->St->Prop}:kI 192 x S K=(dY 1 x/\ax S (fun b=>K (UA 1 b 0) (S.upd b ⟨192,1,1,fun _=>x⟩))):=rfl
@[go_sem] theorem box_216{x:AV}{S:St}{K:AV->St->Prop}:kI 216 x S K=(dY 1 x/\ax S (fun b=>K (UA 1 b 0) (S.upd b ⟨216,1,1,fun _=>x⟩))):=rfl
@[go_sem] theorem box_50{x:AV}{S:St}{K:AV->St->Prop}:kI 50 x S K=(dY 2 x/\ax S (fun b=>K (UA 2 b 0) (S.upd b ⟨50,2,1,fun _=>x⟩))):=rfl
@[go_sem] theorem box_167{l:List AV}{S:St}{K:AV->St->Prop}:kI 167 (.agg l) S K=(l.length=2/\(∀z∈l,dY 2 z)/\ax S (fun b=>K (UA 2 b 0) (S.upd b ⟨167,2,2,fun j=>l.getD j Up⟩))):=rfl
@[go_sem] theorem box_195{l:List AV}{S:St}{K:AV->St->Prop}:kI 195 (.agg l) S K=(l.length=2/\(∀z∈l,dY 2 z)/\ax S (fun b=>K (UA 2 b 0) (S.upd b ⟨195,2,2,fun j=>l.getD j Up⟩))):=rfl
@[go_sem] theorem box_197{l:List AV}{S:St}{K:AV->St->Prop}:kI 197 (.agg l) S K=(l.length=7/\(∀z∈l,dY 2 z)/\ax S (fun b=>K (UA 2 b 0) (S.upd b ⟨197,2,7,fun j=>l.getD j Up⟩))):=rfl
@[go_sem] theorem box_24{l:List AV}{S:St}{K:AV->St->Prop}:kI 24 (.agg l) S K=(l.length=4/\(∀z∈l,dY 1 z)/\ax S (fun b=>K (UA 1 b 0) (S.upd b ⟨24,1,4,fun j=>l.getD j Up⟩))):=rfl
@[go_sem] theorem box_27{l:List AV}{S:St}{K:AV->St->Prop}:kI 27 (.agg l) S K=(l.length=6/\(∀z∈l,dY 1 z)/\ax S (fun b=>K (UA 1 b 0) (S.upd b ⟨27,1,6,fun j=>l.getD j Up⟩))):=rfl
@[go_sem] theorem box_107{l:List AV}{S:St}{K:AV->St->Prop}:kI 107 (.agg l) S K=(l.length=2/\(∀z∈l,dY 1 z)/\ax S (fun b=>K (UA 1 b 0) (S.upd b ⟨107,1,2,fun j=>l.getD j Up⟩))):=rfl
@[go_sem] theorem box_160{l:List AV}{S:St}{K:AV->St->Prop}:kI 160 (.agg l) S K=(l.length=4/\(∀z∈l,dY 1 z)/\ax S (fun b=>K (UA 1 b 0) (S.upd b ⟨160,1,4,fun j=>l.getD j Up⟩))):=rfl
@[go_sem] theorem box_183{l:List AV}{S:St}{K:AV->St->Prop}:kI 183 (.agg l) S K=(l.length=2/\(∀z∈l,dY 1 z)/\ax S (fun b=>K (UA 1 b 0) (S.upd b ⟨183,1,2,fun j=>l.getD j Up⟩))):=rfl
@[go_sem] theorem box_218{l:List AV}{S:St}{K:AV->St->Prop}:kI 218 (.agg l) S K=(l.length=2/\(∀z∈l,dY 1 z)/\ax S (fun b=>K (UA 1 b 0) (S.upd b ⟨218,1,2,fun j=>l.getD j Up⟩))):=rfl
@[go_sem] theorem bs_59{x:AV}{S:St}{K:AV->St->Prop}:da 59 1 [(0,x)] S K=(dY 2 x/\ax S (fun b=>K (Vg 2 b 0 1) (S.upd b ⟨50,2,1,fun j=>[x].getD j Up⟩))):=by
 simp only[da,dQ,cg];simp[eD,fZ,ax]
@[go_sem] theorem hbs_59{x z:AV}:eP 59 1 [(0,x)] z=(dY 2 x/\z=UM 2 1 (fun j=>[x].getD j Up)):=by
 simp only[eP,dQ,cg];simp[eD,fZ]
@[go_sem] theorem bs_52{x:AV}{S:St}{K:AV->St->Prop}:da 52 1 [(0,x)] S K=(dY 1 x/\ax S (fun b=>K (Vg 1 b 0 1) (S.upd b ⟨59,1,1,fun j=>[x].getD j Up⟩))):=by
 simp only[da,dQ,cg];simp[eD,fZ,ax]
@[go_sem] theorem hbs_52{x z:AV}:eP 52 1 [(0,x)] z=(dY 1 x/\z=UM 1 1 (fun j=>[x].getD j Up)):=by
 simp only[eP,dQ,cg];simp[eD,fZ]
@[go_sem] theorem bs_29{x:AV}{S:St}{K:AV->St->Prop}:da 29 1 [(0,x)] S K=(dY 1 x/\ax S (fun b=>K (Vg 1 b 0 1) (S.upd b ⟨2,1,1,fun j=>[x].getD j Up⟩))):=by
 simp only[da,dQ,cg];simp[eD,fZ,ax]
@[go_sem] theorem hbs_29{x z:AV}:eP 29 1 [(0,x)] z=(dY 1 x/\z=UM 1 1 (fun j=>[x].getD j Up)):=by
 simp only[eP,dQ,cg];simp[eD,fZ]
@[go_sem] theorem bs_28{x:AV}{S:St}{K:AV->St->Prop}:da 28 1 [(0,x)] S K=(dY 1 x/\ax S (fun b=>K (Vg 1 b 0 1) (S.upd b ⟨29,1,1,fun j=>[x].getD j Up⟩))):=by
 simp only[da,dQ,cg];simp[eD,fZ,ax]
@[go_sem] theorem hbs_28{x z:AV}:eP 28 1 [(0,x)] z=(dY 1 x/\z=UM 1 1 (fun j=>[x].getD j Up)):=by
 simp only[eP,dQ,cg];simp[eD,fZ]
@[go_sem] theorem bs_146{x:AV}{S:St}{K:AV->St->Prop}:da 146 1 [(0,x)] S K=(dY 1 x/\ax S (fun b=>K (Vg 1 b 0 1) (S.upd b ⟨3,1,1,fun j=>[x].getD j Up⟩))):=by
 simp only[da,dQ,cg];simp[eD,fZ,ax]
@[go_sem] theorem hbs_146{x z:AV}:eP 146 1 [(0,x)] z=(dY 1 x/\z=UM 1 1 (fun j=>[x].getD j Up)):=by
 simp only[eP,dQ,cg];simp[eD,fZ]
@[go_sem] theorem bs_216{x:AV}{S:St}{K:AV->St->Prop}:da 216 1 [(0,x)] S K=(dY 1 x/\ax S (fun b=>K (Vg 1 b 0 1) (S.upd b ⟨59,1,1,fun j=>[x].getD j Up⟩))):=by
 simp only[da,dQ,cg];simp[eD,fZ,ax]
@[go_sem] theorem hbs_216{x z:AV}:eP 216 1 [(0,x)] z=(dY 1 x/\z=UM 1 1 (fun j=>[x].getD j Up)):=by
 simp only[eP,dQ,cg];simp[eD,fZ]
attribute [go_sem] ev ofV rL tu tv tw Hz H7 RQ AN tz dY D6 Bx zw

attribute [go_sem] yL ia ke Tv aH aI cR jr aM iJ List.map_nil xq JA oS forall_const
 cO List.toList_toArray cL iu
attribute [go_sem] eq_self true_implies ca aR Bool.true_eq_false dE dd dS exists_eq_left' exists_eq_left exists_and_left and_assoc Tu false_or false_and EY SR Lj List.drop_succ_cons yY List.isEmpty_nil List.isEmpty_cons dB rm E8 Bool.and_self Bj List.filterMap_nil
 BO qX TI Bool.and_true cB ag exists_const
section
variable {ops:Array Oper} {l:List Oper} {O:Tm} {S:St} {K:Tm->St->Prop} {o:Oper} {pend:List (Nat×eA)} {H:Tm->List (Nat×eA)->Prop} {z:AV} {d:Nat} {X:eA} {r:List (Nat×eA)}
def aN(q:Nat)(a:xT ops q [] TJ=TN)(h:Gc (ops.toList.take q) O S [] (fun O' pend=>if pend.isEmpty then Er ops (ops.toList.drop q) O' S K else vS pend (Aq (qz (ops.toList.take q)) O') S (fun O S=>Er ops (ops.toList.drop q) O S K))):It ops O S K:=by
 rw[tG];rw[qL,xD,vR]at h;refine a6 ⟨q,[],TJ,_,a,h,fun O' p b=>?_⟩;split at b
 .rename_i e;exact a6 ⟨e,a6 ⟨rfl,b⟩⟩
 .exact aQ ⟨rfl,_,b,fun O S h=>⟨trivial,a6 ⟨rfl,h⟩⟩⟩
def fm(q:Nat)(a:xT ops q [] TN=TN)(h:Gc (ops.toList.take q) O S [] (fun O' pend=>pend.isEmpty=TN/\Er ops (ops.toList.drop q) O' S K)):It ops O S K:=by
 rw[tG];rw[qL,xD]at h;exact a6 ⟨q,[],TN,_,a,h,fun O' p b=>a6 ⟨b.1,a6 ⟨rfl,b.2⟩⟩⟩
def eO(q:Nat)(js:List (List Nat))(a:xT ops q js TJ=TN)(h:Gc (ops.toList.take q) O S [] (fun O' pend=>pend.isEmpty=TN/\QO ops.toList js (ops.toList.drop q) O' S K)):It ops O S K:=by
 rw[tG];rw[qL,Ep]at h;exact a6 ⟨q,js,TJ,_,a,h,fun O' p b=>a6 ⟨b.1,aQ b.2⟩⟩
def iz(q:Nat)(js:List (List Nat))(a:xT ops q js TJ=TN)(h:Gc (ops.toList.take q) O S [] (fun O' pend=>vS pend (Aq (qz (ops.toList.take q)) O') S (fun O S=>mK ops.toList O S (Dx js)/\QO ops.toList js (ops.toList.drop q) O S K))):It ops O S K:=by
 rw[tG];rw[qL,Ep,vR]at h;exact a6 ⟨q,js,TJ,_,a,h,fun O' p b=>aQ ⟨rfl,_,b,fun O S h=>⟨h.1,aQ h.2⟩⟩⟩
def oU(ops:Array TZ)(o:TZ)(O:Tm)(S:St)(K:Tm->St->Prop):Prop:=match o.guard with
 | ae=>Nx o O S (fun z S'=>K (O.put o.dst z) S')
 | some (j,want)=>(match Iv ops O j with
  | Ub b=>(b=want->Nx o O S (fun z S'=>K (O.put o.dst z) S'))/\(b=!want->K (O.put o.dst Up) S)
  | _=>False)
def stI(ops:Array TZ)(P:(Nat->Bool)->Tm->St->Prop):List TZ->Nat->Prop
 | [],_=>True
 | o::r,i=>(∀L O S,P L O S->L i=TJ->(vW o).all L=TN->oU ops o O S (P (fun k=>if k=i then TN else L k)))/\stI ops P r (i+1)
theorem IF{ops:Array TZ}{P:(Nat->Bool)->Tm->St->Prop}:∀(l:List TZ) (i j:Nat) (o:TZ),stI ops P l i->l[j]? = ho o->∀L O S,P L O S->L (i+j)=TJ->(∀k∈vW o,L k=TN)->RU ops o O S (P (fun k=>if k=i+j then TN else L k))
 | [],i,j,o,_,h=>by simp at h
 | p::r,i,0,o,h,a=>by
  simp only[dE,fY]at a;subst a;intro L O S b c d;have:=h.1 L O S b c (aG.2 d);unfold oU at this;rw[xE]at this;exact this
 | p::r,i,j+1,o,h,a=>by
  rw[dd]at a;have:=IF r (i+1) j o h.2 a;rw[(om:i+1+j=i+(j+1))]at this
  exact this
def wU(P:(Nat->Bool)->Tm->St->Prop)(a:M1 ops=TN)(b:P (fun _=>TJ) O S)(c:stI ops P ops.toList 0)(d:∀L O S,P L O S->(∀i,i<ops.toList.length->L i=TN)->K O S):It ops O S K:=by
 rw[tG];refine aQ ⟨P,a,b,fun i o e=>?_,fun L O S f g=>d L O S f (fun i h=>g i (by simpa using h))⟩
 have:=IF ops.toList 0 i o c (by simpa using e)
 simp only[aM]at this;exact this
@[go_sem ↓] theorem awT_nil{os:List TZ}{js:List (List Nat)}:QO os js [] O S K=K O S:=by rw[Ep,Pl]
@[go_sem ↓] theorem awT_go{os:List TZ}{js:List (List Nat)}:QO os js (o::l) O S K=Nx o O S (fun z S'=>mK os (O.put o.dst z) S' (Dx js)/\QO os (Md js) l (O.put o.dst z) S' K):=by rw[Ep,xE,Pl]
@[go_sem] theorem jsHd_c{a:List Nat}{l:List (List Nat)}:Dx (a::l)=a:=rfl
@[go_sem] theorem jsNx_1{a:List Nat}:Md [a]=[a]:=rfl
@[go_sem] theorem jsNx_2{a b:List Nat}{l:List (List Nat)}:Md (a::b::l)=b::l:=rfl
@[go_sem] theorem Rh{os:List TZ}:mK os O S []=True:=by rw[mK]
@[go_sem ↓] theorem P8{os:List TZ}{j:Nat}{js:List Nat}:mK os O S (j::js)=((match os[j]? with
  | some o=>(match o.dst with
   | some d=>BJ o O S (O d)
   | ae=>False)
  | ae=>False)/\mK os O S js):=by rw[mK]<;>rfl
@[go_sem ↓] theorem awH_nil:Gc [] O S pend H=H O pend:=by rw[qL,Gg]
@[go_sem ↓] theorem awH_go:Gc (o::l) O S pend H=(match o.op,o.dst with
  | .alloc t,ho d=>(match mM t with
   | some X=>Gc l (O.put (ho d) Up) S (pend++[(d,X)]) H
   | ae=>False)
  | _,_=>∃z,BJ o O S z/\Gc l (O.put o.dst z) S pend H):=by rw[qL,Gg]<;>rfl
@[go_sem ↓] theorem HOK_go:BJ o O S z=((EY o.op=TN/\Nx o O S (fun z' S'=>z'=z/\S'=S))∨(match o.op with
 | WC c=>(match c.callee with
  | Wr f=>Mp (ev O f) (c.args.toList.map (ev O)) S z
  | _=>False)
 | UU t n ps=>eP t n (ps.toList.map fun p=>(p.1,ev O p.2)) z
 | _=>False)):=by rw[BJ,xE]<;>rfl
@[go_sem ↓] theorem SH:vS [] O S K=K O S:=by rw[vR,oO]
@[go_sem ↓] theorem RN:vS ((d,X)::r) O S K=ax S (fun b=>vS r (O.put (ho d) (UA X.es b 0)) (S.upd b X) K):=by rw[vR,oO]<;>rfl
@[go_sem] theorem SG:mM 50=ho ⟨50,2,1,fun _=>Ue 0⟩:=rfl
@[go_sem] theorem SF:mM 52=ho ⟨52,1,1,fun _=>US⟩:=rfl
@[go_sem] theorem RM:mM 167=ho ⟨167,2,2,fun _=>Ue 0⟩:=rfl
@[go_sem] theorem SB{ds:List Nat}{t:Nat}:Aq ds O t=if ds.contains t&&!rm (O t)then Up else O t:=rfl
end
def zh(O:Tm):List TZ->Nat->AV
 | [],_=>.any
 | o::_,0=>(match o.dst with
  | some d=>O d
  | ae=>Up)
 | _::l,j+1=>zh O l j
theorem Iu(O:Tm):∀(l:List TZ) (j:Nat),Iv l.toArray O j=zh O l j
 | [],j=>by simp[Iv,zh]
 | o::l,0=>by simp[Iv,zh]<;>rfl
 | o::l,j+1=>by
  have:=Iu O l j;simp only[Iv,zh,fz,dd]at this ⊢;exact this
@[go_sem] theorem yld_go{l:List TZ}{O:Tm}{j:Nat}:Iv l.toArray O j=zh O l j:=Iu O l j
@[go_sem] theorem Se{o:TZ}{l:List TZ}{O:Tm}:zh O (o::l) 0=(match o.dst with
  | some d=>O d
  | ae=>Up):=by rw[zh]
@[go_sem] theorem Sf{o:TZ}{l:List TZ}{O:Tm}{j:Nat}:zh O (o::l) (j+1)=zh O l j:=by rw[zh]
def PF(f:Nat)(args:List AV)(z:AV):Prop :=
 ∀(w:TO) (vs:List TM),vK w->bB w BF args vs->Calls ak f vs.toArray w (fun e w'=>∃v,e=.returned v/\bI w' (fun b=>b<w.heap.size) z v/\dA BF BF w w')
def VA(S:St)(x x':AV):Prop:=∀(w:TO) (v:TM),eF w S->bI w S.dom x v->bI w BF x' v
def VR(S:St)(x x':AV):Prop:=∀(w:TO) (v:TM),eF w S->bI w S.dom x v->bI w (fun b=>¬S.dom b) x' v
def eM(S:St):List AV->List AV->Prop
 | [],[]=>True
 | x::l,y::r=>VA S x y/\eM S l r
 | [],_::_=>False
 | _::_,[]=>False
def VA.refl(S:St)(x:AV):VA S x x:=fun _ _ _ h=>bI.turn (fun _ _ a=>a.elim) _ _ h
def VR.va(h:VR S x y):VA S x y:=fun w v a b=>bI.turn (fun _ _ c=>c.elim) _ _ (h w v a b)
def VR.mf(h:rm x=TN):VR S x x:=fun _ _ _ a=>ue h a
theorem yV{S:St}{w:TO}(b:eF w S):∀(l r:List AV) (vs:List TM),eM S l r->bB w S.dom l vs->bB w BF r vs
 | [],[],[],_,_=>by simp[bB]
 | x::l,y::r,v::vs,h,a=>by simp only[bB]at a ⊢;exact⟨h.1 w v b a.1,yV b l r vs h.2 a.2⟩
 | [],[],_::_,_,a=>by simp[bB]at a
 | _::_,_,[],_,a=>by simp[bB]at a
 | [],_::_,_,h,_=>h.elim
 | _::_,[],_,h,_=>h.elim
theorem cD(S:St):∀l,eM S l l
 | []=>trivial
 | x::l=>⟨VA.refl S x,cD S l⟩
def PF.pureS(h:PF f args' z)(c:eM S args args'):vA f args S z:=by
 intro w vs a d;refine(h w vs a.gl (yV a _ _ _ c d)).mono ?_;rintro e w' ⟨v,rfl,g,i⟩;exact⟨v,rfl,bI.turn (fun k _ b=>by
  simp only[St.dom]at b
  cases e:S k with
  | none=>exact absurd e b
  | some X=>obtain⟨cs,j,_⟩:=a k X e;exact fN j) _ _ g,i⟩
def PF.pure'(h:PF f args z):vA f args S z:=h.pureS (cD S args)
def PF.spec(h:PF f args' z)(a:eM S args args'){post:AV->St->Prop}(b:post z S):cI f args S post:=(h.pureS a).spec b
def PF.call(h:PF f args z){post:AV->St->Prop}(a:post z S):cI f args S post:=h.pure'.spec a
def CC.pf(a:rm z=TN)(h:CC f args z):PF f args z:=by
 intro w vs c d;refine(h St.none w vs ⟨rfl,c,fun b x g=>by simp[St.none]at g⟩ (bB.turn (fun _ _ i=>absurd rfl i) _ _ d)).mono ?_
 rintro e w' ⟨v,rfl,j,k⟩;exact⟨v,rfl,ue a j,k⟩
def PF.of_spec(h:cI f args St.none (fun r S'=>VR S' r z)):PF f args z:=by
 intro w vs d g;refine(h w vs ⟨rfl,d,fun b x i=>by simp[St.none]at i⟩ (bB.turn (fun _ _ c=>absurd rfl c) _ _ g)).mono ?_
 rintro e w' ⟨v,r,S',rfl,j,l,m,a⟩;refine⟨v,rfl,bI.turn (fun k _ c n=>?_) _ _ (j w' v m l),a.os,a.tape,a.output,a.size,fun k c _=>a.keep k c (fun x=>x rfl),a.shape,fun _ _ h=>h⟩;exact a.own k c n rfl
def iy{fn:Func}(e:ak.funcs[f]? = ho fn)(g:fn.ntmps=N)(i:fn.results=R)
  (h:Aw c (D6 R.toList fun r S'=>VR S' r z) (Ny 0 args) St.none) (j:fn.body=ho c:=by exact rfl) (b:jG N c=TN:=by kernel_rfl) (a:args.length<=N:=by simp) (d:R.size≠0:=by simp):PF f args z:=PF.of_spec (jg e g i h j b a d)
def aY(S:St)(b ty es n:Nat)(g:Nat->AV):Prop:=∃g',S b=ho ⟨ty,es,n,g'⟩/\∀i,i<n->g' i=g i
def aY.of(h:S b=ho ⟨ty,es,n,g⟩):aY S b ty es n g:=⟨g,h,fun _ _=>rfl⟩
def aY.ne{c ty' es' n':Nat}(h:aY S b ty es n g)(h':aY S c ty' es' n' g')(d:ty≠ty'):b≠c:=by
 rintro rfl;obtain⟨x,e,_⟩:=h;obtain⟨y,a,_⟩:=h';rw[e]at a;cases a;exact d rfl
def aY.fresh{c:Nat}(h:aY S b ty es n g)(a:S c=ae):b≠c:=by
 rintro rfl;obtain⟨x,d,_⟩:=h;rw[d]at a;cases a
def aY.upd{c:Nat}(h:aY S b ty es n g)(a:b≠c)(X:eA):aY (S.upd c X) b ty es n g:=by
 obtain⟨x,d,e⟩:=h;exact⟨x,by rw[aE a];exact d,e⟩
def aY.here(h:∀i,i<n->g' i=g i):aY (S.upd b ⟨ty,es,n,g'⟩) b ty es n g:=⟨g',bW,h⟩
def aY.congr(h:aY S b ty es n g)(c:∀i,i<n->g i=g' i):aY S b ty es n g':=by
 obtain⟨x,d,e⟩:=h;exact⟨x,d,fun i a=>(e i a).trans (c i a)⟩
def VR.sl{off len:Nat}(f:aY S b ty es n g)(s:off+len<=n)(i:∀j,j<len->VR S (g (off+j)) (h j)):VR S (Vg es b off len) (UM es len h):=by
 intro w v a c;obtain⟨g',d,k⟩:=f;obtain⟨cs,e,t,l,x⟩:=a b _ d;simp only[bI]at c ⊢;obtain⟨cap,cs',ty',fr',rfl,m,_,_⟩:=c;refine⟨_,cap,rfl,m,fun y=>⟨b,es*off,rfl,fN e,fun o=>o (by simp[St.dom,d]),fun j p=>?_⟩⟩
 obtain⟨u,q,r⟩:=l (off+j) (by simp only;omega)
 refine⟨u,⟨cs,ty,(0,0),e,by rw[<-bV];exact q⟩,i j p w u a ?_⟩
 rw[<-k (off+j) om];exact r
def VR.nil:VR S US (UM es 0 h):=by
 intro w v c a;simp only[bI]at a ⊢;subst a;exact⟨_,0,rfl,ag _,fun b=>absurd b om⟩
def bn(n:Nat)(r:Nat->Int):AV:=UM 2 n (fun j=>Ue (r j))
def aP(n m:Nat)(A:Nat->Nat->Int):AV:=UM 1 n (fun i=>bn m (A i))
def aK(n:Nat)(r:Nat->Int):AV:=UM 1 n (fun j=>Ug Uc (r j))
def av(n m:Nat)(A:Nat->Nat->Int):AV:=UM 1 n (fun i=>aK m (A i))
def iY(S:St)(b n:Nat)(r:Nat->Int):Prop:=aY S b 50 2 n (fun j=>Ue (r j))
def oq(S:St)(b n:Nat)(r:Nat->Int):Prop:=aY S b 2 1 n (fun j=>Ug Uc (r j))
structure dr(S:St)(b:Nat)(g:Nat->Nat)(n m:Nat)(A:Nat->Nat->Int):Prop where
 outer:aY S b 59 1 n (fun i=>Vg 2 (g i) 0 m)
 row:∀i,i<n->iY S (g i) m (A i)
 inj:∀i j,i<n->j<n->g i=g j->i=j
structure eg(S:St)(b:Nat)(g:Nat->Nat)(n m:Nat)(A:Nat->Nat->Int):Prop where
 outer:aY S b 29 1 n (fun i=>Vg 1 (g i) 0 m)
 row:∀i,i<n->oq S (g i) m (A i)
 inj:∀i j,i<n->j<n->g i=g j->i=j
def iY.vr(h:iY S b n r):VR S (Vg 2 b 0 n) (bn n r):=VR.sl h om (fun j _=>by rw[aM];exact VR.mf rfl)
def oq.vr(h:oq S b n r):VR S (Vg 1 b 0 n) (aK n r):=VR.sl h om (fun j _=>by rw[aM];exact VR.mf rfl)
def dr.vr{g:Nat->Nat}(h:dr S b g n m A):VR S (Vg 1 b 0 n) (aP n m A):=VR.sl h.outer om (fun j a=>by rw[aM];exact(h.row j a).vr)
def eg.vr{g:Nat->Nat}(h:eg S b g n m A):VR S (Vg 1 b 0 n) (av n m A):=VR.sl h.outer om (fun j a=>by rw[aM];exact(h.row j a).vr)
def i64_in{a:Int}(b:-9223372036854775808<=a)(c:a<=9223372036854775807):IntKind.i64.wrap a=a:=IntWalk.i64_in a ⟨b,c⟩
def dN{a:Int}(h:a=n)(b:n<=4611686018427387904):IntKind.i64.wrap a=(n:Int):=by rw[h];exact i64_in om om
abbrev ι:=AV.int .i64
abbrev ω:=IntKind.i64.wrap
abbrev ϑ:=AV.sl 1
abbrev ϕ:=AV.sl 2
abbrev ϱ:=AV.big
abbrev ϖ:=AV.ptr 2
abbrev ϰ:=AV.ptr 1

abbrev az:=Nat->Nat->Int
def ap:Nat->(Nat->Int)->Int
 | 0,_=>0
 | n+1,f=>ap n f+f n
def ay{f g:Nat->Int}(h:∀i,i<n->f i=g i):ap n f=ap n g:=by
 induction n with
 | zero=>rfl
 | succ n ih=>simp only[ap];rw[ih (fun i a=>h i om),h n om]
def iQ{f:Nat->Int}(h:∀i,i<n->f i=0):ap n f=0:=by
 induction n with
 | zero=>rfl
 | succ n ih=>simp only[ap];rw[ih (fun i a=>h i om),h n om];rfl
def dH(n:Nat)(f g:Nat->Int):ap n (fun i=>f i+g i)=ap n f+ap n g:=by
 induction n with
 | zero=>rfl
 | succ n ih=>simp only[ap];rw[ih];omega
def cG(n:Nat)(c:Int)(f:Nat->Int):ap n (fun i=>c*f i)=c*ap n f:=by
 induction n with
 | zero=>simp[ap]
 | succ n ih=>simp only[ap];rw[ih,zd]
def pq(n:Nat)(x y:Int)(f g:Nat->Int):ap n (fun i=>x*f i+y*g i)=x*ap n f+y*ap n g:=by
 rw[dH,cG,cG]
def cF{f:Nat->Int}(k:Nat)(c:k<n)(h:∀i,i<n->i≠k->f i=0):ap n f=f k:=by
 induction n with
 | zero=>omega
 | succ n ih =>
  simp only[ap];by_cases e:k=n
  .subst e;rw[iQ (fun i b=>h i om om)];omega
  .rw[ih om (fun i b a=>h i om a),h n om om];omega
def BY{f:Nat->Int}(k:Nat)(d:k+1<n)(h:∀i,i<n->i≠k->i≠k+1->f i=0):ap n f=f k+f (k+1):=by
 induction n with
 | zero=>omega
 | succ n ih =>
  simp only[ap];by_cases e:k+1=n
  .subst e;rw[cF k om (fun i b a=>h i om a om)]
  .rw[ih om (fun i b a c=>h i om a c),h n om om om];omega
def qn(n m:Nat)(f:Nat->Nat->Int):ap n (fun i=>ap m (fun j=>f i j))=ap m (fun j=>ap n (fun i=>f i j)):=by
 induction n with
 | zero=>simp only[ap];rw[iQ];intros;rfl
 | succ n ih=>simp only[ap];rw[ih,<-dH]
def mY(j:Nat):Int:=if j%2=0 then 1 else -1
def ER(j:Nat):mY (j+1)=- mY j:=by unfold mY;split<;>split<;>omega
def zI:mY 0=1:=rfl
def skip(j k:Nat):Nat:=if k<j then k else k+1
def cut(A:az)(j:Nat):az:=fun i k=>A (i+1) (skip j k)
def det:Nat->az->Int
 | 0,_=>1
 | n+1,A=>ap (n+1) fun j=>mY j*A 0 j*det n (cut A j)
def mb(h:k<n):skip j k<n+1:=by unfold skip;split<;>omega
def aZ{A B:az}(h:∀i j,i<n->j<n->A i j=B i j):det n A=det n B:=by
 induction n generalizing A B with
 | zero=>rfl
 | succ n ih =>
  simp only[det];refine ay fun j a=>?_;rw[h 0 j om a,ih (A:=cut A j) (B:=cut B j) (fun i k c b=>h _ _ om (mb b))]
def setRow(A:az)(i:Nat)(r:Nat->Int):az:=fun a b=>if a=i then r b else A a b
def a9(A:az)(i:Nat)(r:Nat->Int):az:=fun a b=>if b=i then r a else A a b
def qB(A:az)(i j:Nat)(r:Nat->Int):cut (setRow A (i+1) r) j=setRow (cut A j) i (fun k=>r (skip j k)):=by
 funext a b;simp[cut,setRow]
def xX(A:az)(j:Nat)(r:Nat->Int):cut (setRow A 0 r) j=cut A j:=by
 funext a b;simp[cut,setRow]
def oK(A:az)(a:i<n)(x y:Int)(r s:Nat->Int) :
  det n (setRow A i (fun j=>x*r j+y*s j))=x*det n (setRow A i r)+y*det n (setRow A i s):=by
 induction n generalizing A i r s with
 | zero=>omega
 | succ n ih =>
  simp only[det];rw[<-pq];refine ay fun j _=>?_
  cases i with
  | zero=>simp only[xX,setRow,aH];grind
  | succ i=>rw[qB,ih _ om,qB,qB];simp only[setRow,Nat.reduceEqDiff,aI];grind
def oJ(A:az)(c:i<n)(x:Int)(r:Nat->Int):det n (setRow A i (fun j=>x*r j))=x*det n (setRow A i r):=by
 have h:=oK A c x 0 r r;rw[aZ (B:=setRow A i (fun j=>x*r j+0*r j)) (fun a b _ _=>by simp[setRow]),h];omega
def ks(A:az)(c:i<n)(r s:Nat->Int):det n (setRow A i (fun j=>r j+s j))=det n (setRow A i r)+det n (setRow A i s):=by
 have h:=oK A c 1 1 r s;rw[aZ (B:=setRow A i (fun j=>1*r j+1*s j)) (fun a b _ _=>by simp[setRow]),h];omega
def GM(N:Nat)(g:Nat->Nat->Int):ap (N+1) (fun j=>ap N (fun k=>if k<j then g k j else-g j (k+1)))=0:=by
 induction N with
 | zero=>simp[ap]
 | succ N ih =>
  rw[show ap (N+1+1) (fun j=>ap (N+1) (fun k=>if k<j then g k j else-g j (k+1)))
  =ap (N+1) (fun j=>ap (N+1) (fun k=>if k<j then g k j else-g j (k+1)))+ap (N+1) (fun k=>if k<N+1 then g k (N+1)else-g (N+1) (k+1))from rfl]
  have a:ap (N+1) (fun j=>ap (N+1) (fun k=>if k<j then g k j else-g j (k+1)))
  =ap (N+1) (fun j=>ap N (fun k=>if k<j then g k j else-g j (k+1))+(- g j (N+1))):=by
   refine ay fun j e=>?_;simp only[ap];rw[ah om]
  have b:ap (N+1) (fun k=>if k<N+1 then g k (N+1)else-g (N+1) (k+1))=ap (N+1) (fun k=>g k (N+1)) :=
   ay fun k c=>by rw[aj c]
  rw[a,b,dH,ih];have d:ap (N+1) (fun j=>- g j (N+1))=- ap (N+1) (fun j=>g j (N+1)):=by
   have:=cG (N+1) (-1) (fun j=>g j (N+1));rw[ay (g:=fun i=>-1*g i (N+1)) (fun i _=>om),this];omega
  rw[d];omega
def C9(h:k<j)(c:Nat):skip j (skip k c)=skip k (skip (j-1) c):=by
 unfold skip;split<;>split<;>(try split)<;>(try split)<;>omega
def Jn(A:az)(o:i+1<n)(h:∀j,j<n->A i j=A (i+1) j):det n A=0:=by
 induction n generalizing A i with
 | zero=>omega
 | succ n ih =>
  cases i with
  | succ i =>
   simp only[det];exact iQ fun j g=>by rw[ih (cut A j) (i:=i) om (fun k d=>h _ (mb d))];omega
  | zero =>
   obtain⟨n,rfl⟩:∃m,n=m+1:=⟨n-1,om⟩
   have e:det (n+1+1) A=ap (n+1+1) (fun j=>ap (n+1) (fun k =>
     if k<j then mY k*mY j*A 0 k*A 0 j*det n (cut (cut A j) k)else-(mY j*mY (k+1)*A 0 j*A 0 (k+1)*det n (cut (cut A (k+1)) j)))):=by
    simp only[det];refine ay fun j g=>?_;rw[<-cG];refine ay fun k d=>?_;have l:cut A j 0 k=A 0 (skip j k):=by
     show A 1 (skip j k)=_;exact(h _ (mb d)).symm
    rw[l];split
    .rename_i c;rw[show skip j k=k by unfold skip;rw[aj c]];grind
    .rename_i c;rw[show skip j k=k+1 by unfold skip;rw[ah c],ER]
     have f:cut (cut A j) k=cut (cut A (k+1)) j:=by
      funext a b;show A (a+1+1) (skip j (skip k b))=A (a+1+1) (skip (k+1) (skip j b));rw[C9 (j:=k+1) (k:=j) om];rfl
     rw[f];grind
   rw[e];exact GM (n+1) (fun k j=>mY k*mY j*A 0 k*A 0 j*det n (cut (cut A j) k))

def jC(A:az)(i:Nat):setRow A i (A i)=A:=by funext a b;simp only[setRow];split<;>simp_all
def ij(A:az)(i:Nat):a9 A i (fun a=>A a i)=A:=by funext a b;simp only[a9];split<;>simp_all
def ji(A:az){i k:Nat}(h:i≠k)(r s:Nat->Int):setRow (setRow A i r) k s=setRow (setRow A k s) i r:=by
 funext a b;simp only[setRow];grind
def DO(A:az)(b:i+1<n)(r s:Nat->Int):det n (setRow (setRow A i r) (i+1) s)=- det n (setRow (setRow A i s) (i+1) r):=by
 have a:∀t:Nat->Int,det n (setRow (setRow A i t) (i+1) t)=0:=fun t =>
  Jn _ b (fun j _=>by simp[setRow])
 have c:=a (fun j=>r j+s j);rw[ks _ om,ji _ om,ji A (k:=i+1) (s:=s) om,ks _ om,ks _ om]at c;rw[ji _ om s r,ji _ om r s];have d:=a r;have e:=a s;rw[ji _ om]at d e;omega
def my(A:az)(c:i<k)(a:k<n)(h:∀j,j<n->A i j=A k j):det n A=0:=by
 induction k generalizing A with
 | zero=>omega
 | succ k ih =>
  by_cases e:i=k
  .subst e;exact Jn A a h
  .have b:=DO A a (A k) (A (k+1));have d:setRow (setRow A k (A k)) (k+1) (A (k+1))=A:=by rw[jC,jC]
   rw[d]at b;rw[b,ih (setRow (setRow A k (A (k+1))) (k+1) (A k)) om om (fun j f=>?_)];· rfl
   have:=h j f;simp only[setRow];rw[ah om,ah om,ah om,aj trivial];exact this
def o0(A:az)(b:i<n)(c:k<n)(a:i≠k):det n (setRow A i (A k))=0:=by
 rcases mE a with h|h
 .exact my _ h c (fun j _=>by simp only[setRow];rw[aj trivial,ah om])
 .exact my _ h b (fun j _=>by simp only[setRow];rw[ah om,aj trivial])
def kB(A:az)(b:i<n)(d:k<n)(a:i≠k)(x c:Int):det n (setRow A i (fun j=>x*A i j+c*A k j))=x*det n A:=by
 rw[oK A b x c (A i) (A k),o0 A b d a,jC];omega
def MA(A:az)(b:i<n)(d:k<n)(a:i≠k):det n (setRow (setRow A i (A k)) k (A i))=- det n A:=by
 have c:∀t:Nat->Int,det n (setRow (setRow A i t) k t)=0:=fun t=>by
  rcases mE a with h|h
  .exact my _ h d (fun j _=>by simp only[setRow];grind)
  .exact my _ h b (fun j _=>by simp only[setRow];grind)
 have e:=c (fun j=>A i j+A k j);rw[ks _ d,ji _ a,ji A a (s:=A k),ks _ b,ks _ b]at e;have f:=c (A i);have g:=c (A k);rw[ji _ a]at f g;have l:setRow (setRow A k (A k)) i (A i)=A:=by rw[jC,jC]
 rw[l]at e;rw[ji _ a];omega
def dp(j:Nat):Nat->Int:=fun k=>if k=j then 1 else 0
def pI(n:Nat)(A:az)(i j:Nat):Int:=det n (setRow A i (dp j))
def Fw(A:az)(c:i<n)(m:Nat)(r:Nat->Int) :
  det n (setRow A i (fun k=>if k<m then r k else 0))=ap m (fun j=>r j*pI n A i j):=by
 induction m with
 | zero =>
  have h:=oJ A c 0 (fun _=>0);rw[aZ (B:=setRow A i (fun j=>0*(fun _=>0) j)) (fun a b _ _=>by simp[setRow]),h];simp[ap]
 | succ m ih =>
  simp only[ap];rw[<-ih];have h:=oK A c 1 (r m) (fun k=>if k<m then r k else 0) (dp m)
  rw[aZ (B:=setRow A i (fun j=>1*(fun k=>if k<m then r k else 0) j+r m*dp m j)) (fun a b _ _=>?_),h]
  .show _=_+r m*det n _;omega
  .simp only[setRow,dp];split
   .by_cases e:b=m
    .subst e;simp
    .by_cases d:b<m
     .simp[e,d];omega
     .have:¬b<m+1:=om
      simp[e,d,this]
   .rfl
def Av(A:az)(c:i<n)(r:Nat->Int):ap n (fun j=>r j*pI n A i j)=det n (setRow A i r):=by
 rw[<-Fw A c n r];exact aZ fun a b _ d=>by simp only[setRow];split<;>simp_all
def t9(A:az)(a:i<n)(b:k<n):ap n (fun j=>A k j*pI n A i j)=if i=k then det n A else 0:=by
 rw[Av A a];split
 .rename_i e;subst e;rw[jC]
 .rename_i e;exact o0 A a b e
def uN(A:az)(a:0<n)(h:∀i,i<n->A i 0=0):det n A=0:=by
 induction n generalizing A with
 | zero=>omega
 | succ n ih =>
  simp only[det];refine iQ fun j b=>?_
  cases j with
  | zero=>rw[h 0 om];omega
  | succ j=>rw[ih (cut A (j+1)) om (fun i c=>by
    show A (i+1) (skip (j+1) 0)=0;rw[show skip (j+1) 0=0 from rfl];exact h _ om)];omega
def sh(A:az)(h:∀i,i<n->A (i+1) 0=0):det (n+1) A=A 0 0*det n (fun i j=>A (i+1) (j+1)):=by
 rw[det,cF 0 om]
 .rw[zI,cU];rfl
 .intro j c a
  cases j with
  | zero=>omega
  | succ j=>rw[uN (cut A (j+1)) om (fun i b=>by
    show A (i+1) (skip (j+1) 0)=0;rw[show skip (j+1) 0=0 from rfl];exact h _ b)];omega
def jU(A:az)(m:Nat):az:=fun i j=>if 0<i/\i<=m then A 0 0*A i j-A i 0*A 0 j else A i j
def Bv(A:az)(n m:Nat)(a:m<=n):det (n+1) (jU A m)=A 0 0^m*det (n+1) A:=by
 induction m with
 | zero=>rw[aZ (B:=A) (fun i j _ _=>by unfold jU;rw[ah om])];simp
 | succ m ih =>
  have e:∀i j,jU A (m+1) i j=setRow (jU A m) (m+1) (fun j=>A 0 0*jU A m (m+1) j+(- A (m+1) 0)*jU A m 0 j) i j:=by
   intro i j;simp only[setRow];split
   .rename_i e;subst e;simp only[jU];rw[aj om,ah om,ah om];grind
   .simp only[jU];by_cases h:0<i/\i<=m
    .rw[aj om,aj h]
    .rw[ah om,ah h]
  rw[aZ (fun i j _ _=>e i j),kB _ om om om,ih om,eH]
  grind
def FF(A:az):az:=fun i j=>A 0 0*A (i+1) (j+1)-A (i+1) 0*A 0 (j+1)
def ME(A:az)(n:Nat):A 0 0*det n (FF A)=A 0 0^n*det (n+1) A:=by
 rw[<-Bv A n n (ag _),sh]
 .congr 1;exact aZ fun i j a b=>by simp only[jU,FF];rw[aj om]
 .intro i a;simp only[jU];rw[aj om];grind
def o5(A:az){c j:Nat}(r:Nat->Int)(h:c<j):cut (a9 A c r) j=a9 (cut A j) c (fun a=>r (a+1)):=by
 funext a b;simp only[cut,a9,skip];grind
def o6(A:az){c j:Nat}(r:Nat->Int)(h:j<c):cut (a9 A c r) j=a9 (cut A j) (c-1) (fun a=>r (a+1)):=by
 funext a b;simp only[cut,a9,skip];grind
def o7(A:az)(c:Nat)(r:Nat->Int):cut (a9 A c r) c=cut A c:=by
 funext a b;simp only[cut,a9,skip];grind
def m9{c:Nat}(A:az)(a:c<n)(x y:Int)(r s:Nat->Int) :
  det n (a9 A c (fun j=>x*r j+y*s j))=x*det n (a9 A c r)+y*det n (a9 A c s):=by
 induction n generalizing A c r s with
 | zero=>omega
 | succ n ih =>
  simp only[det];rw[<-pq];refine ay fun j b=>?_;rcases c8 c j with h|h|h
  .rw[o5 _ _ h,o5 _ _ h,o5 _ _ h,ih _ om];simp only[a9];rw[ah om,ah om,ah om];grind
  .subst h;rw[o7,o7,o7];simp only[a9,aH];grind
  .rw[o6 _ _ h,o6 _ _ h,o6 _ _ h,ih _ om];simp only[a9];rw[ah om,ah om,ah om];grind
def xW{c:Nat}(A:az)(f:c+1<n)(h:∀i,i<n->A i c=A i (c+1)):det n A=0:=by
 induction n generalizing A c with
 | zero=>omega
 | succ n ih =>
  simp only[det];rw[BY c f]
  .have e:det n (cut A c)=det n (cut A (c+1)):=aZ fun i k b m=>by
    simp only[cut,skip];by_cases a:k<c
    .rw[aj a,aj om]
    .by_cases d:k=c
     .subst d;rw[ah om,aj om];exact(h _ om).symm
     .rw[ah a,ah om]
   rw[e,ER,h 0 om];grind
  .intro j o a d;rcases mE a with g|l
   .rw[ih (cut A j) (c:=c-1) om (fun i b=>by
     simp only[cut,skip];rw[ah om,ah om];rw[(om:c-1+1=c)];exact h _ om)];omega
   .rw[ih (cut A j) (c:=c) om (fun i b=>by
     simp only[cut,skip];rw[aj om,aj om];exact h _ om)];omega
def ik(A:az){i k:Nat}(h:i≠k)(r s:Nat->Int):a9 (a9 A i r) k s=a9 (a9 A k s) i r:=by
 funext a b;simp only[a9];grind
def lk(A:az)(c:i<n)(r s:Nat->Int):det n (a9 A i (fun j=>r j+s j))=det n (a9 A i r)+det n (a9 A i s):=by
 have h:=m9 A c 1 1 r s;rw[aZ (B:=a9 A i (fun j=>1*r j+1*s j)) (fun a b _ _=>by simp[a9]),h];omega
def wO(A:az)(b:i+1<n)(r s:Nat->Int):det n (a9 (a9 A i r) (i+1) s)=- det n (a9 (a9 A i s) (i+1) r):=by
 have a:∀t:Nat->Int,det n (a9 (a9 A i t) (i+1) t)=0:=fun t =>
  xW _ b (fun j _=>by simp[a9])
 have c:=a (fun j=>r j+s j);rw[lk _ om,ik _ om,ik A (k:=i+1) (s:=s) om,lk _ om,lk _ om]at c;rw[ik _ om s r,ik _ om r s];have d:=a r;have e:=a s;rw[ik _ om]at d e;omega
def kt(A:az)(d:i<k)(b:k<n)(h:∀j,j<n->A j i=A j k):det n A=0:=by
 induction k generalizing A with
 | zero=>omega
 | succ k ih =>
  by_cases e:i=k
  .subst e;exact xW A b h
  .have c:=wO A b (fun a=>A a k) (fun a=>A a (k+1));have f:a9 (a9 A k (fun a=>A a k)) (k+1) (fun a=>A a (k+1))=A:=by rw[ij,ij]
   rw[f]at c;rw[c,ih (a9 (a9 A k (fun a=>A a (k+1))) (k+1) (fun a=>A a k)) om om (fun j g=>?_)];· rfl
   have:=h j g;simp only[a9];rw[ah om,ah om,ah om,aj trivial];exact this
def lD(A:az)(b:i<n)(d:k<n)(a:i≠k)(x c:Int):det n (a9 A i (fun j=>x*A j i+c*A j k))=x*det n A:=by
 rw[m9 A b x c (fun j=>A j i) (fun j=>A j k),ij];have:det n (a9 A i (fun j=>A j k))=0:=by
  rcases mE a with h|h
  .exact kt _ h d (fun j _=>by simp only[a9];rw[aj trivial,ah om])
  .exact kt _ h b (fun j _=>by simp only[a9];rw[ah om,aj trivial])
 rw[this];omega
def uO(A:az)(c:i<n)(e:k<n)(b:i≠k):det n (a9 (a9 A i (fun a=>A a k)) k (fun a=>A a i))=- det n A:=by
 have d:∀t:Nat->Int,det n (a9 (a9 A i t) k t)=0:=fun t=>by
  rcases mE b with h|h
  .exact kt _ h e (fun j _=>by simp only[a9];grind)
  .exact kt _ h c (fun j _=>by simp only[a9];grind)
 have f:=d (fun j=>A j i+A j k);rw[lk _ e,ik _ b,ik A b (s:=fun j=>A j k),lk _ c,lk _ c]at f;have g:=d (fun j=>A j i);have l:=d (fun j=>A j k);rw[ik _ b]at g l;have m:a9 (a9 A k (fun j=>A j k)) i (fun j=>A j i)=A:=by rw[ij,ij]
 rw[m]at f;rw[ik _ b];omega

def DP(A:az):det 1 A=A 0 0:=by simp[det,ap,mY]
def uL(A:az):det 2 A=A 0 0*A 1 1-A 1 0*A 0 1:=by simp[det,ap,mY,cut,skip];grind
def rA(n:Nat)(c:Int)(A:az):det n (fun i j=>c*A i j)=c^n*det n A:=by
 induction n generalizing A with
 | zero=>simp[det]
 | succ n ih =>
  simp only[det];rw[<-cG];refine ay fun j _=>?_;rw[show cut (fun i j=>c*A i j) j=fun i k=>c*cut A j i k from rfl,ih,eH];grind
def bar(prev:Int)(A:az):az:=fun i j=>FF A i j/prev
def PX(prev:Int)(A:az):Prop:=∀(l:Nat) (ρ γ:Nat->Nat),prev^l∣det (l+1) (fun i j=>A (ρ i) (γ j))
def lA(ρ:Nat->Nat):Nat->Nat
 | 0=>0
 | i+1=>ρ i+1
def PX.exact{A:az}(h:PX prev A)(i j:Nat):prev*bar prev A i j=FF A i j:=by
 have a:=h 1 (lA fun _=>i) (lA fun _=>j);rw[uL,eH,Int.pow_zero,cU]at a;exact iP a
def Kz{A:az}(h:PX prev A)(b:A 0 0≠0)(l:Nat)(ρ γ:Nat->Nat) :
  prev^(l+1)*det (l+1) (fun i j=>bar prev A (ρ i) (γ j))=A 0 0^l*det (l+2) (fun i j=>A (lA ρ i) (lA γ j)):=by
 have a:=ME (fun i j=>A (lA ρ i) (lA γ j)) (l+1);rw[<-rA,aZ (B:=FF (fun i j=>A (lA ρ i) (lA γ j))) (fun i j _ _=>by
  show prev*bar prev A (ρ i) (γ j)=_;rw[h.exact];rfl)]
 simp only[lA]at a;rw[eH,bU (A 0 0^l),fu]at a;exact cJ b a

end Go.Proofs.YtdobfmlmenaajaaGreatDoor
