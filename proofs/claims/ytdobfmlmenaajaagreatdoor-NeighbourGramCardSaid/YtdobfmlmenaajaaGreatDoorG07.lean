/-
  Lemmas for NeighbourGram.
-/
import Derived.Test.YtdobfmlmenaajaaGreatDoorG06
namespace Go.Proofs.YtdobfmlmenaajaaGreatDoor
open Go.RowKit Tryz
open _root_.List renaming replicate→bN,range→fT
open _root_.Option renaming none→ab
open Region renaming ready→ko,wanted→ot
open Tryz renaming prog→ah
set_option maxHeartbeats 6400000
set_option maxRecDepth 4096
set_option linter.all false
variable{x y z:AV}{K:AV->Prop}{a:Act}{ps:Array (Nat×Operand)}{listed:Array Bool}{ops:Array Oper}{fi:Array Operand}{Q:Exit->Act->World->Prop}{l:List Oper}{N f i n:Nat}{M:Nat->Prop}{o:Oper}{d:Option Nat}{S:St}{O O':Tm}{t:TypeId}{v:Value}{w w':World}{X:eE}
def P9(P:Program)(f:Nat):Bool:=match P.funcs[f]? with
 | some fn => fn.body.isSome && fn.name != "runtime.NumGoroutine"
 | ab=>false
def Ry:(fT 259).all (fun i=>i==241||(i==242||P9 ah (i+11)))=true:=by kernel_rfl
def Mq(h:(11<=f/\f<270)/\f≠252/\f≠253)(args:Array Value)(w:World):(callFunc f args).run ah w=.ok (.enter f args) w:=by
 have a:=aE.1 Ry (f-11) (by simp;omega)
 rw[(om:f-11+11=f)]at a
 have c:(f-11==241)=false:=by simp;omega
 have d:(f-11==242)=false:=by simp;omega
 rw[c,d,Bool.false_or,Bool.false_or]at a;unfold P9 at a
 cases b:ah.funcs[f]? with
 | none=>rw[b]at a;cases a
 | some fn =>
  rw[b]at a;simp only[au,bne_iff_ne,DF]at a;simp[callFunc,b,a.2];intro e;simp[e]at a
def MZ(x y:AV)(K:AV->Prop):Prop:=match x,y with
 | .int k a,.int k' b=>k=k'/\K (.int k (if b > a then b else a))
 | _,_=>False
def G2(h:MZ x y K){w:World}{M:Nat->Prop}{vx vy:Value}(c:bn w M x vx)(d:bn w M y vy)(ts:Array TypeId)(t:TypeId) :
  ∃z v,K z/\bn w M z v/\(Builtin.max_ ts t #[vx,vy]).run ah w=.ok v w:=by
 unfold MZ at h;split at h
 .rename_i k a k' b;obtain⟨rfl,e⟩:=h;simp only[bn]at c d;subst c d;exact⟨_,.int k (if b > a then b else a),e,by simp[bn],by simp[Builtin.max_,Builtin.max2]⟩
 .exact h.elim
def si(f:Nat)(l r:List AV)(K:AV->Prop):Prop:=match l with
 | []=>K (.fn f r)
 | x::l=>r=[]/\K (.mfn f (x::l))
def tF(O:Tm)(c:Call)(S:St)(K:AV->St->Prop):Prop:=match c.callee with
 | .value f=>(match ev O f with
  | .fn f l=>((11<=f/\f<270)/\f≠252/\f≠253)/\cE f (c.args.toList.map (ev O)++l) S K
  | .mfn f l=>((11<=f/\f<270)/\f≠252/\f≠253)/\cE f (l++c.args.toList.map (ev O)) S K
  | _=>False)
 | .builtin .len=>(match c.args.toList,c.argTypes.toList with
  | [x],[t]=>Dg t (ev O x) (fun z=>K z S)
  | _,_=>False)
 | .builtin .max=>(match c.args.toList with
  | [x,y]=>MZ (ev O x) (ev O y) (fun z=>K z S)
  | _=>False)
 | .builtin .append=>(match c.args.toList,c.argTypes.toList with
  | [s,x],[t,t']=>if t'=3 then nr t (ev O s) (ev O x) S K else fG t t' (ev O s) (ev O x) S K
  | _,_=>False)
 | .builtin .copy=>(match c.args.toList,c.argTypes.toList with
  | [s,x],[t,_]=>rH t (ev O s) (ev O x) S K
  | _,_=>False)
 | _=>False
def qI(t:TypeId)(ps:List (Nat×AV))(K:AV->Prop):Prop:=match t,ps with
 | 50,[]=>K (.big 0)
 | 167,[(0,x),(1,y)]=>eg 2 x/\eg 2 y/\K (.agg [x,y])
 | 183,[(0,x),(1,y)]=>eg 1 x/\eg 1 y/\K (.agg [x,y])
 | 218,[(0,x),(1,y)]=>eg 1 x/\eg 1 y/\K (.agg [x,y])
 | 107,[(0,x)]=>eg 1 x/\K (.agg [x,.int .i64 0])
 | 195,[(0,x),(1,y)]=>eg 2 x/\eg 2 y/\K (.agg [x,y])
 | 238,[(0,x),(1,y),(2,z)]=>eg 1 x/\eg 1 y/\eg 1 z/\K (.agg [x,y,z])
 | 160,[(0,x),(1,y)]=>eg 1 x/\eg 1 y/\K (.agg [x,y,.nil,.nfn])
 | 202,[(0,x),(1,y)]=>eg 1 x/\eg 1 y/\K (.agg [x,y])
 | 197,[(0,x),(1,y),(2,z),(3,.agg [p,q]),(4,.agg [r,s])]=>eg 2 x/\eg 2 y/\eg 2 z/\eg 2 p/\eg 2 q/\eg 2 r/\eg 2 s/\K (.agg [x,y,z,p,q,r,s])
 | _,_=>False
def fO{z:Value}{s b:Nat}(a:l8 ah t=some (z,s,b)):∃i,ah.info? t=some i/\i.zero=some z/\i.size=s:=by
 unfold l8 at a
 cases c:ah.info? t with
 | none=>rw[c]at a;simp at a
 | some i =>
  rw[c]at a;simp only[dp,cH,gM]at a;obtain⟨z2,d,e,f,g⟩:=a;exact⟨i,rfl,by rw[d,e],f⟩
def z107:l8 ah 107=some (.agg #[.slice ab 0 0,.int .i64 0],2,32):=by kernel_rfl
def z183:l8 ah 183=some (.agg #[.slice ab 0 0,.slice ab 0 0],2,48):=by kernel_rfl
def z218:l8 ah 218=some (.agg #[.slice ab 0 0,.int .i64 0],2,32):=by kernel_rfl
def z167:l8 ah 167=some (.agg #[.bool false,.slice ab 0 0,.bool false,.slice ab 0 0],4,64):=by kernel_rfl
def z50:l8 ah 50=some (.agg #[.bool false,.slice ab 0 0],2,32):=by kernel_rfl
def z52:l8 ah 52=some (.slice ab 0 0,1,24):=by kernel_rfl
def z216:l8 ah 216=some (.slice ab 0 0,1,24):=by kernel_rfl
def z22:l8 ah 22=some (.slice ab 0 0,1,24):=by kernel_rfl
def z195:l8 ah 195=some (.agg #[.bool false,.slice ab 0 0,.bool false,.slice ab 0 0],4,64):=by kernel_rfl
def z197:l8 ah 197=some (.agg (bN 7 [.bool false,.slice ab 0 0]).flatten.toArray,14,224):=by kernel_rfl
def z160:l8 ah 160=some (.agg #[.slice ab 0 0,.slice ab 0 0,.slice ab 0 0,.nilFunc],4,80):=by kernel_rfl
def z202:l8 ah 202=some (.agg #[.int .u64 0,.int .u64 0],2,16):=by kernel_rfl
def z97:l8 ah 97=some (.int .u64 0,1,8):=by kernel_rfl
def z59:l8 ah 59=some (.slice ab 0 0,1,24):=by kernel_rfl
def z2:l8 ah 2=some (.int .i64 0,1,8):=by kernel_rfl
def z238:l8 ah 238=some (.agg #[.int .i64 0,.int .i64 0,.int .i64 0],3,24):=by kernel_rfl
def z3:l8 ah 3=some (.int .i64 0,1,8):=by kernel_rfl
def gF(h:eg 1 x)(a:bn w M x v):v.cells=#[v]:=by
 rcases Cv h a with⟨_,b,_⟩|⟨e,_⟩
 .exact qU b
 .omega
def gE(h:eg 2 x)(a:bn w M x v):∃p q,v=.agg #[p,q]:=by
 rcases Cv h a with⟨e,_⟩|⟨_,p,q,e,_⟩
 .omega
 .exact⟨p,q,e⟩
def tG{ps:List (Nat×AV)}(h:qI t ps K){w:World}{M:Nat->Prop}{qs:List (Nat×Value)}(f:pH w M ps qs) :
  ∃z u,K z/\bn w M z u/\(Instr.build t qs.toArray).run ah w=.ok u w:=by
 unfold qI at h;split at h
 .cases qs with
  | cons _ _=>exact f.elim
  | nil =>
   refine⟨_,.agg #[.bool false,.slice ab 0 0],h,by simp only[bn];exact er.zero w,?_⟩
   obtain⟨i,Y,Z,_⟩:=oB (t:=50) (es:=2) (x:=.big 0) (z:=.agg #[.bool false,.slice ab 0 0]) rfl;have hu:=Qv;simp[Instr.build,zeroValue,typeInfo,Y,Z,Instr.fill,Value.cells]
 .rename_i x y;obtain⟨sx,sy,g⟩:=h
  match qs,f with
  | [(a,vx),(b,vy)],f =>
   simp only[pH]at f;obtain⟨rfl,rx,rfl,ry,_⟩:=f;obtain⟨D,E,rfl⟩:=gE sx rx;obtain⟨F,G,rfl⟩:=gE sy ry;obtain⟨i,l,m,v⟩:=fO z167;obtain⟨j,n,A,o⟩:=fO z50;refine⟨_,.agg #[D,E,F,G],g,by simp only[bn];exact⟨[.agg #[D,E],.agg #[F,G]],by simp[Value.cells],by simp only[aW];exact⟨rx,ry,trivial⟩⟩,?_⟩
   simp[Instr.build,zeroValue,typeInfo,l,m,bG underlying167,cP n,o,Instr.fill,Value.cells]
  | [],f=>exact f.elim
  | [_],f=>exact f.2.2.elim
  | _::_::_::_,f=>exact f.2.2.2.2.elim
 .rename_i x y;obtain⟨sx,sy,g⟩:=h
  match qs,f with
  | [(a,vx),(b,vy)],f =>
   simp only[pH]at f;obtain⟨rfl,rx,rfl,ry,_⟩:=f;have cx:=gF sx rx;have cy:=gF sy ry;obtain⟨i,l,m,v⟩:=fO z183;obtain⟨j,n,A,o⟩:=fO z52;refine⟨_,.agg #[vx,vy],g,by simp only[bn];exact⟨[vx,vy],by simp[cx,cy],by simp only[aW];exact⟨rx,ry,trivial⟩⟩,?_⟩
   simp[Instr.build,zeroValue,typeInfo,l,m,bG underlying183,cP n,o,Instr.fill,cx,cy];simp[Value.cells]
  | [],f=>exact f.elim
  | [_],f=>exact f.2.2.elim
  | _::_::_::_,f=>exact f.2.2.2.2.elim
 .rename_i x y;obtain⟨sx,sy,g⟩:=h
  match qs,f with
  | [(a,vx),(b,vy)],f =>
   simp only[pH]at f;obtain⟨rfl,rx,rfl,ry,_⟩:=f;have cx:=gF sx rx;have cy:=gF sy ry;obtain⟨i,l,m,v⟩:=fO z218;obtain⟨j,n,A,o⟩:=fO z216;obtain⟨k,B,H,C⟩:=fO z3;refine⟨_,.agg #[vx,vy],g,by simp only[bn];exact⟨[vx,vy],by simp[cx,cy],by simp only[aW];exact⟨rx,ry,trivial⟩⟩,?_⟩
   simp[Instr.build,zeroValue,typeInfo,l,m,bG underlying218,cP n,o,cP B,C,Instr.fill,cx,cy];simp[Value.cells]
  | [],f=>exact f.elim
  | [_],f=>exact f.2.2.elim
  | _::_::_::_,f=>exact f.2.2.2.2.elim
 .rename_i x;obtain⟨sx,g⟩:=h
  match qs,f with
  | [(a,vx)],f =>
   simp only[pH]at f;obtain⟨rfl,rx,_⟩:=f;have cx:=gF sx rx;obtain⟨i,l,m,v⟩:=fO z107;obtain⟨j,n,A,o⟩:=fO z22;obtain⟨k,B,H,C⟩:=fO z3;refine⟨_,.agg #[vx,.int .i64 0],g,by simp only[bn];exact⟨[vx,.int .i64 0],by simp[cx];rfl,by simp only[aW,bn];exact⟨rx,trivial,trivial⟩⟩,?_⟩
   simp[Instr.build,zeroValue,typeInfo,l,m,bG underlying107,cP n,o,cP B,C,Instr.fill,cx];simp[Value.cells]
  | [],f=>exact f.elim
  | _::_::_,f=>exact f.2.2.elim
 .rename_i x y;obtain⟨sx,sy,g⟩:=h
  match qs,f with
  | [(a,vx),(b,vy)],f =>
   simp only[pH]at f;obtain⟨rfl,rx,rfl,ry,_⟩:=f;obtain⟨D,E,rfl⟩:=gE sx rx;obtain⟨F,G,rfl⟩:=gE sy ry;obtain⟨i,l,m,v⟩:=fO z195;obtain⟨j,n,A,o⟩:=fO z50;refine⟨_,.agg #[D,E,F,G],g,by simp only[bn];exact⟨[.agg #[D,E],.agg #[F,G]],by simp[Value.cells],by simp only[aW];exact⟨rx,ry,trivial⟩⟩,?_⟩
   simp[Instr.build,zeroValue,typeInfo,l,m,bG wB,cP n,o,Instr.fill,Value.cells]
  | [],f=>exact f.elim
  | [_],f=>exact f.2.2.elim
  | _::_::_::_,f=>exact f.2.2.2.2.elim
 .rename_i x y z;obtain⟨sx,sy,sz,g⟩:=h
  match qs,f with
  | [(a,vx),(b,vy),(c,vz)],f =>
   simp only[pH]at f;obtain⟨rfl,rx,rfl,ry,rfl,rz,_⟩:=f;have cx:=gF sx rx;have cy:=gF sy ry;have cz:=gF sz rz;obtain⟨i,l,m,v⟩:=fO z238;obtain⟨j,n,A,o⟩:=fO z2;refine⟨_,.agg #[vx,vy,vz],g,by simp only[bn];exact⟨[vx,vy,vz],by simp[cx,cy,cz],by simp only[aW];exact⟨rx,ry,rz,trivial⟩⟩,?_⟩
   simp[Instr.build,zeroValue,typeInfo,l,m,bG underlying238,cP n,o,Instr.fill,cx,cy,cz];simp[Value.cells]
  | [],f=>exact f.elim
  | [_],f=>exact f.2.2.elim
  | [_,_],f=>exact f.2.2.2.2.elim
  | _::_::_::_::_,f=>exact f.2.2.2.2.2.2.elim
 .rename_i x y;obtain⟨sx,sy,g⟩:=h
  match qs,f with
  | [(a,vx),(b,vy)],f =>
   simp only[pH]at f;obtain⟨rfl,rx,rfl,ry,_⟩:=f;have cx:=gF sx rx;have cy:=gF sy ry;obtain⟨i,l,m,v⟩:=fO z160;obtain⟨j,n,A,o⟩:=fO z59;obtain⟨k,B,H,C⟩:=fO z52;refine⟨_,.agg #[vx,vy,.slice ab 0 0,.nilFunc],g,by simp only[bn];exact⟨[vx,vy,.slice ab 0 0,.nilFunc],by simp[cx,cy];rfl,by simp only[aW,bn];exact⟨rx,ry,trivial,trivial,trivial⟩⟩,?_⟩
   simp[Instr.build,zeroValue,typeInfo,l,m,bG underlying160,cP n,o,cP B,C,Instr.fill,cx,cy];simp[Value.cells]
  | [],f=>exact f.elim
  | [_],f=>exact f.2.2.elim
  | _::_::_::_,f=>exact f.2.2.2.2.elim
 .rename_i x y;obtain⟨sx,sy,g⟩:=h
  match qs,f with
  | [(a,vx),(b,vy)],f =>
   simp only[pH]at f;obtain⟨rfl,rx,rfl,ry,_⟩:=f;have cx:=gF sx rx;have cy:=gF sy ry;obtain⟨i,l,m,v⟩:=fO z202;obtain⟨j,n,A,o⟩:=fO z97;refine⟨_,.agg #[vx,vy],g,by simp only[bn];exact⟨[vx,vy],by simp[cx,cy],by simp only[aW];exact⟨rx,ry,trivial⟩⟩,?_⟩
   simp[Instr.build,zeroValue,typeInfo,l,m,bG underlying202,cP n,o,Instr.fill,cx,cy];simp[Value.cells]
  | [],f=>exact f.elim
  | [_],f=>exact f.2.2.elim
  | _::_::_::_,f=>exact f.2.2.2.2.elim
 .rename_i x y z p q r s;obtain⟨sx,sy,sz,sp,sq,sr,ss,g⟩:=h
  match qs,f with
  | [(a,vx),(b,vy),(c,vz),(d,vp),(e,vr)],f =>
   simp only[pH]at f;obtain⟨rfl,rx,rfl,ry,rfl,rz,rfl,rp,rfl,rr,_⟩:=f;simp only[bn]at rp rr;obtain⟨ps,rfl,rp⟩:=rp;obtain⟨rs,rfl,rr⟩:=rr
   match ps,rs,rp,rr with
   | [vp,vq],[vr,vs],rp,rr =>
    simp only[aW]at rp rr;obtain⟨rp,rq,_⟩:=rp;obtain⟨rr,rs,_⟩:=rr;obtain⟨I,J,rfl⟩:=gE sx rx;obtain⟨L,N,rfl⟩:=gE sy ry;obtain⟨O,P,rfl⟩:=gE sz rz;obtain⟨Q,R,rfl⟩:=gE sp rp;obtain⟨S,T,rfl⟩:=gE sq rq;obtain⟨U,V,rfl⟩:=gE sr rr;obtain⟨W,X,rfl⟩:=gE ss rs;obtain⟨i,l,m,v⟩:=fO z197;obtain⟨j,n,A,o⟩:=fO z50;obtain⟨k,B,H,C⟩:=fO z195;refine⟨_,.agg #[I,J,L,N,O,P,Q,R,S,T,U,V,W,X],g,by
     simp only[bn];exact⟨[.agg #[I,J],.agg #[L,N],.agg #[O,P],.agg #[Q,R],.agg #[S,T],.agg #[U,V],.agg #[W,X]],by simp[Value.cells],by simp only[aW];exact⟨rx,ry,rz,rp,rq,rr,rs,trivial⟩⟩,?_⟩
    simp[Instr.build,zeroValue,typeInfo,l,m,bG underlying197,cP n,o,cP B,C,Instr.fill,Value.cells]
   | [],_,rp,_=>simp[aW]at rp
   | [_],_,rp,_=>simp[aW]at rp
   | _::_::_::_,_,rp,_=>simp[aW]at rp
   | [_,_],[],_,rr=>simp[aW]at rr
   | [_,_],[_],_,rr=>simp[aW]at rr
   | [_,_],_::_::_::_,_,rr=>simp[aW]at rr
  | [],f=>exact f.elim
  | [_],f=>exact f.2.2.elim
  | [_,_],f=>exact f.2.2.2.2.elim
  | [_,_,_],f=>exact f.2.2.2.2.2.2.elim
  | [_,_,_,_],f=>exact f.2.2.2.2.2.2.2.2.elim
  | _::_::_::_::_::_::_,f=>exact f.2.2.2.2.2.2.2.2.2.2.elim
 .exact h.elim
theorem BY{w:World}{M:Nat->Prop}:∀(l:List AV) (vs:List Value),aW w M l vs->∀(i:Nat) (z:AV),l[i]? = some z->∃v,vs[i]? = some v/\bn w M z v
 | [],_,_,i,z,h=>by simp at h
 | x::l,v::vs,a,0,z,h=>by simp only[aW]at a;simp at h;subst h;exact⟨v,sm,a.1⟩
 | x::l,v::vs,a,i+1,z,h=>by simp only[aW]at a;simp at h;obtain⟨u,b,c⟩:=BY l vs a.2 i z h;exact⟨u,by simpa using b,c⟩
 | _::_,[],a,_,_,_=>by simp[aW]at a
def Dh(t:TypeId)(x i:AV)(K:AV->Prop):Prop:=match x,i with
 | .agg l,.int _ n=>(t=195/\∃p q,l=[p,q]/\eg 2 p/\eg 2 q/\(n=0∨n=1)/\K (if n=0 then p else q)) ∨
  ((t=238/\l.length=3∨t=239/\l.length=8)/\(∀z∈l,eg 1 z)/\(0<=n/\n<(l.length:Int))/\K (l.getD n.toNat .any))
 | _,_=>False
theorem MK{w:World}{M:Nat->Prop}:∀(l:List AV) (vs:List Value),(∀z∈l,eg 1 z)->aW w M l vs->vs.flatMap (fun u=>u.cells.toList)=vs
 | [],[],_,_=>rfl
 | x::l,v::vs,b,a=>by
  simp only[aW]at a;simp only[dj,MK l vs (fun z c=>b z (dJ _ c)) a.2,gF (b x (ef ..)) a.1];rfl
 | [],_::_,_,a=>by simp[aW]at a
 | _::_,[],_,a=>by simp[aW]at a
def G3(h:Dh t x y K){w:World}{M:Nat->Prop}{vx vy:Value}(g:bn w M x vx)(i:bn w M y vy) :
  ∃z v,K z/\bn w M z v/\(Instr.index t vx vy).run ah w=.ok v w:=by
 unfold Dh at h;split at h
 .rename_i l k n;simp only[bn]at g i;subst i;obtain⟨vs,rfl,a⟩:=g;rcases h with⟨rfl,p,q,rfl,sp,sq,r,d⟩|⟨s,u,⟨m,H⟩,d⟩
  .match vs,a with
   | [vp,vq],a =>
    simp only[aW]at a;obtain⟨rp,rq,_⟩:=a;obtain⟨A,B,rfl⟩:=gE sp rp;obtain⟨C,D,rfl⟩:=gE sq rq;obtain⟨j,b,E,c⟩:=fO z50;rcases r with rfl|rfl
    .refine⟨_,.agg #[A,B],d,by simpa using rp,?_⟩
     simp[Instr.index,asIntOf,bG wB,cP b,c,part,isAgg,bG Qv,Value.cells]
    .refine⟨_,.agg #[C,D],d,by simpa using rq,?_⟩
     simp[Instr.index,asIntOf,bG wB,cP b,c,part,isAgg,bG Qv,Value.cells]
   | [],a=>simp[aW]at a
   | [_],a=>simp[aW]at a
   | _::_::_::_,a=>simp[aW]at a
  .rw[MK l vs u a];have e:n.toNat<l.length:=om
   obtain⟨v,o,F⟩:=BY l vs a n.toNat (l.getD n.toNat .any) (by simp[List.getD,aY e])
   obtain⟨j,b,E,c⟩:=fO z2;refine⟨_,v,d,F,?_⟩;rcases s with⟨rfl,G⟩|⟨rfl,G⟩
   .have f:n<3:=om
    simp[Instr.index,asIntOf,bG underlying238,cP b,c,part,isAgg,bG mT,m,f,o]
   .have f:n<8:=om
    simp[Instr.index,asIntOf,bG underlying239,cP b,c,part,isAgg,bG mT,m,f,o]
 .exact h.elim
def zO(o:Oper)(O:Tm)(S:St)(K:AV->St->Prop):Prop:=match o.op with
 | .move x=>K (ev O x) S
 | .assign x=>K (ev O x) S
 | .pick c x y=>(match ev O c with
  | .bool t=>K (if t then ev O x else ev O y) S
  | _=>False)
 | .alloc t=>mw t S K
 | .box t x=>jW t (ev O x) S K
 | .build t ps=>qI t (ps.toList.map fun p=>(p.1,ev O p.2)) (fun z=>K z S)
 | .buildSlice t n ps=>dz t n (ps.toList.map fun p=>(p.1,ev O p.2)) S K
 | .load t x=>oV t (ev O x) S (fun z=>K z S)
 | .store t x y=>pB t (ev O x) (ev O y) S (fun S'=>K .any S')
 | .nilCheck x=>(match ev O x with
  | .ptr es b i=>K (.ptr es b i) S
  | .pat es y=>K (.pat es y) S
  | _=>False)
 | .binOp op t x y _=>Fp op t (ev O x) (ev O y) (fun z=>K z S)
 | .unOp op _ x=>Ql op (ev O x) (fun z=>K z S)
 | .convert s d x=>tE s d (ev O x) (fun z=>K z S)
 | .makeFunc (.func f) fi cs=>si f (fi.toList.map (ev O)) (cs.toList.map (ev O)) (fun z=>K z S)
 | .makeSlice t x y=>kZ t (ev O x) (ev O y) S K
 | .slice t x lo hi mx=>kP t (ev O x) (lo.map (ev O)) (hi.map (ev O)) (mx.map (ev O)) (fun z=>K z S)
 | .fieldAddr t x f=>pD t (ev O x) f (fun z=>K z S)
 | .indexAddr t x i=>pC t (ev O x) (ev O i) (fun z=>K z S)
 | .index t x i=>Dh t (ev O x) (ev O i) (fun z=>K z S)
 | .extract x i=>(match ev O x with
  | .tup l=>(match l[i]? with
   | some z=>K z S
   | ab=>False)
  | _=>False)
 | .call c=>tF O c S K
 | _=>False
def g9{next:Act->World->Prop}(b:(execOp a.eval o).run ah w=.ok (.value v) w')(c:next (a.put o.dst v) w'):o.wp ah a w next Q:=by
 unfold Oper.wp;rw[b];exact c
def F1{next:Act->World->Prop}(b:(execOp a.eval o).run ah w=.ok .skip w')(c:next (a.put o.dst undef) w'):o.wp ah a w next Q:=by
 unfold Oper.wp;rw[b];exact c
theorem qK{O:Tm}{S:St}{N:Nat}{a:Act}{w:World}(h:RT O S N a w):∀ps:List (Nat×Operand),pH w S.dom (ps.map fun p=>(p.1,ev O p.2)) (ps.map fun p=>(p.1,a.eval p.2))
 | []=>by simp[pH]
 | p::ps=>by simp only[cG,pH];exact⟨trivial,h.ev p.2,qK h ps⟩
theorem oX{O:Tm}{S:St}{N:Nat}{a:Act}{w:World}(h:RT O S N a w):∀ps:List Operand,aW w S.dom (ps.map (ev O)) (ps.map a.eval)
 | []=>by simp[aW]
 | p::ps=>by simp only[cG,aW];exact⟨h.ev p,oX h ps⟩
theorem nS{w:World}{M:Nat->Prop}:∀(l l':List AV) (vs vs':List Value),aW w M l vs->aW w M l' vs'->aW w M (l++l') (vs++vs')
 | [],_,[],_,_,h=>by simpa using h
 | x::l,l',v::vs,vs',h,h'=>by simp only[lw,aW]at h ⊢;exact⟨h.1,nS l l' vs vs' h.2 h'⟩
 | [],_,_::_,_,h,_=>by simp[aW]at h
 | _::_,_,[],_,h,_=>by simp[aW]at h
theorem tL{w:World}{M:Nat->Prop}:∀(l:List AV) (vs:List Value),aW w M l vs->∀(i:Nat) (z:AV),l[i]? = some z->∃v,vs[i]? = some v/\bn w M z v
 | [],_,_,i,z,h=>by simp at h
 | x::l,v::vs,a,0,z,h=>by simp only[aW]at a;simp at h;subst h;exact⟨v,sm,a.1⟩
 | x::l,v::vs,a,i+1,z,h=>by simp only[aW]at a;simp at h;obtain⟨u,b,c⟩:=tL l vs a.2 i z h;exact⟨u,by simpa using b,c⟩
 | _::_,[],a,_,_,_=>by simp[aW]at a
def oW(h:RT O S N a w)(x:Option Operand):sk w S.dom (x.map (ev O)) (x.map a.eval):=by
 cases x with
 | none=>simp[sk]
 | some x=>simp only[dd,sk];exact h.ev x
def BA(a:Act)(ps:Array (Nat×Operand)):(ps.map fun(x:Nat×Operand)=>(x.1,a.eval x.2))=(ps.toList.map fun p=>(p.1,a.eval p.2)).toArray:=by apply gA;simp
def zm(b:o.op=.build t ps){w:World}:(execOp a.eval o).run ah w=((Instr.build t (ps.toList.map fun p=>(p.1,a.eval p.2)).toArray).run ah w).andThen fun v w'=>.ok (.value v) w':=by
 rw[<-BA];unfold execOp;rw[b];simp
def pP(b:o.op=.buildSlice t n ps){w:World}:(execOp a.eval o).run ah w=((Instr.buildSlice t n (ps.toList.map fun p=>(p.1,a.eval p.2)).toArray).run ah w).andThen fun v w'=>.ok (.value v) w':=by
 rw[<-BA];unfold execOp;rw[b];simp
def Next_(K:AV->St->Prop)(S:St)(a:Act)(d:Option Nat)(w:World)(next:Act->World->Prop):Prop:=∀z v w' S',K z S'->bn w' S'.dom z v->ep w' S'->dl S.dom S'.dom w w'->next (a.put d v) w'
def tB{cs:Array Operand}(h:si f (fi.toList.map (ev O)) (cs.toList.map (ev O)) K){N:Nat}{a:Act}{w:World}(d:RT O S N a w):∃z,K z/\bn w S.dom z (.func (.func f) (fi.map a.eval) (cs.map a.eval)):=by
 unfold si at h;split at h
 .rename_i b;have b:fi=#[]:=by apply gA;simpa using b
  refine⟨_,h,?_⟩;simp only[bn];exact⟨cs.toList.map a.eval,by rw[b];congr 1<;>apply gA<;>simp,oX d _⟩
 .rename_i x l b;have c:cs=#[]:=by apply gA;simpa using h.1
  refine⟨_,h.2,?_⟩;simp only[bn];exact⟨fi.toList.map a.eval,by rw[c];congr 1<;>apply gA<;>simp,by rw[<-b];exact oX d _⟩
def oU{K:AV->St->Prop}(h:zO o O S K){N:Nat}{a:Act}{w:World}(j:RT O S N a w){next:Act->World->Prop}{Q:Exit->Act->World->Prop}
  (C:Next_ K S a o.dst w next):o.wp ah a w next Q:=by
 have pure_:∀(s:Sem Value),(execOp a.eval o=do let x <-s;pure (.value x))->(∃z u,K z S/\bn w S.dom z u/\s.run ah w=.ok u w)->o.wp ah a w next Q:=by
  intro s T ⟨z,u,q,A,B⟩;exact g9 (by rw[T];simp[B]) (C z u w S q A j.st (dl.refl _ _))
 have goes_:∀(s:Sem Value),(execOp a.eval o=do let x <-s;pure (.value x))->Dt s w S K->o.wp ah a w next Q:=by
  intro s T ⟨z,u,w',S',q,A,B,J,U⟩;exact g9 (by rw[T];simp[U]) (C z u w' S' q A B J)
 unfold zO at h;split at h
 .rename_i x k;exact g9 (v:=a.eval x) (by simp[execOp,k]) (C _ _ w S h (j.ev x) j.st (dl.refl _ _))
 .rename_i x k;exact g9 (v:=a.eval x) (by simp[execOp,k]) (C _ _ w S h (j.ev x) j.st (dl.refl _ _))
 .rename_i c x y k;have E:=j.ev c
  cases V:ev O c<;>rw[V]at h E<;>try exact h.elim
  rename_i t;simp only[bn]at E;refine g9 (v:=if t then a.eval x else a.eval y) (by simp[execOp,k,E,asBool]) (C _ _ w S h ?_ j.st (dl.refl _ _))
  cases t
  .exact j.ev y
  .exact j.ev x
 .rename_i t k;exact goes_ (Instr.alloc t true (.tuple #[])) (by simp[execOp,k]) (Dl h j.st)
 .rename_i t x k;exact goes_ (Instr.box t (a.eval x)) (by simp[execOp,k]) (G5 h j.st (j.ev x))
 .rename_i t ps k;obtain⟨z,u,q,A,B⟩:=tG h (qK j ps.toList);refine g9 (v:=u) ?_ (C z u w S q A j.st (dl.refl _ _));rw[zm k,B];rfl
 .rename_i t n ps k;obtain⟨z,u,w',S',q,A,B,J,U⟩:=tH h j.st (qK j ps.toList);refine g9 (v:=u) ?_ (C z u w' S' q A B J);rw[pP k,U];rfl
 .rename_i t x k;exact pure_ (Instr.loadAt t (a.eval x)) (by simp[execOp,k]) (qH h j.st (j.ev x))
 .rename_i t x y k;obtain⟨w',S',q,A,B,J⟩:=Df h j.st (j.ev x) (j.ev y);exact F1 (by simp[execOp,k,J]) (C _ _ w' S' q (by simp[bn]) A B)
 .rename_i x k;have m:=j.ev x
  cases F:ev O x<;>rw[F]at h m<;>try exact h.elim
  .have L:=m;simp only[bn]at m;exact g9 (v:=a.eval x) (by simp[execOp,k,m]) (C _ _ w S h L j.st (dl.refl _ _))
  .have L:=m;simp only[bn]at m;obtain⟨b,off,u,m,_⟩:=m;exact g9 (v:=a.eval x) (by simp[execOp,k,m]) (C _ _ w S h L j.st (dl.refl _ _))
 .rename_i op t x y _ k;have:=zR (ty:=t) h (j.ev x) (j.ev y) x y;exact pure_ (do eqGuard op t x y (a.eval x) (a.eval y);binOp op t (a.eval x) (a.eval y)) (by simp[execOp,k]) this
 .rename_i op t x k;exact pure_ (Op.unary op (a.eval x)) (by simp[execOp,k]) (BU h (j.ev x))
 .rename_i s d x k;exact pure_ (convert s d (a.eval x)) (by simp[execOp,k]) (wA h (j.ev x))
 .rename_i f fi cs k;obtain⟨z,q,A⟩:=tB h j;exact g9 (v:=.func (.func f) (fi.map a.eval) (cs.map a.eval)) (by simp[execOp,k,Instr.makeFunc]) (C _ _ w S q A j.st (dl.refl _ _))
 .rename_i t x y k;exact goes_ (Instr.makeSlice t (a.eval x) (a.eval y)) (by simp[execOp,k]) (Fn h j.st (j.ev x) (j.ev y))
 .rename_i t x lo Y mx k;exact pure_ (Instr.sliceAt t (a.eval x) (lo.map a.eval) (Y.map a.eval) (mx.map a.eval)) (by simp[execOp,k]) (tA h (j.ev x) (oW j lo) (oW j Y) (oW j mx))
 .rename_i t x f k;exact pure_ (Instr.fieldAt t (a.eval x) f) (by simp[execOp,k]) (tD h (j.ev x))
 .rename_i t x i k;exact pure_ (Instr.indexAt t (a.eval x) (a.eval i)) (by simp[execOp,k]) (tC h (j.ev x) (j.ev i))
 .rename_i t x i k;exact pure_ (Instr.index t (a.eval x) (a.eval i)) (by simp[execOp,k]) (G3 h (j.ev x) (j.ev i))
 .rename_i x i k;have m:=j.ev x
  cases F:ev O x<;>rw[F]at h m<;>try exact h.elim
  rename_i l;simp only at h
  cases W:l[i]? with
  | none=>rw[W]at h;exact h.elim
  | some z =>
   rw[W]at h;simp only[bn]at m;obtain⟨vs,m,G⟩:=m;obtain⟨v,hv,hz⟩:=tL l vs G i z W;exact g9 (v:=v) (by simp[execOp,k,Instr.extract,m,hv]) (C _ _ w S h hz j.st (dl.refl _ _))
 .rename_i c k;unfold tF at h;split at h
  .rename_i f Z;have H:=j.ev f
   cases F:ev O f<;>rw[F]at h H<;>try exact h.elim
   .rename_i g l;simp only[bn]at H;obtain⟨vs,M,G⟩:=H;obtain⟨X,P⟩:=h;have I:(execOp a.eval o).run ah w=.ok (.enter g (c.args.map a.eval++vs.toArray)) w:=by
     simp[execOp,k,resolve,Z,Deferred.ofValue,M,invoke,Mq X]
    unfold Oper.wp;rw[I];have hargs:(c.args.map a.eval++vs.toArray)=(c.args.toList.map a.eval++vs).toArray:=by apply gA;simp
    rw[hargs];refine(P w _ j.st (nS _ _ _ _ (oX j _) G)).mono ?_;rintro e w' ⟨v,r,S',rfl,q,A,B,J⟩;exact C r v w' S' q A B J
   .rename_i g l;simp only[bn]at H;obtain⟨vs,M,G⟩:=H;obtain⟨X,P⟩:=h;have I:(execOp a.eval o).run ah w=.ok (.enter g (vs.toArray++c.args.map a.eval)) w:=by
     simp[execOp,k,resolve,Z,Deferred.ofValue,M,invoke,Mq X]
    unfold Oper.wp;rw[I];have hargs:(vs.toArray++c.args.map a.eval)=(vs++c.args.toList.map a.eval).toArray:=by apply gA;simp
    rw[hargs];refine(P w _ j.st (nS _ _ _ _ G (oX j _))).mono ?_;rintro e w' ⟨v,r,S',rfl,q,A,B,J⟩;exact C r v w' S' q A B J
  .rename_i E;split at h
   .rename_i x t m R;have p:c.args=#[x]:=by apply gA;simpa using m
    have D:c.argTypes=#[t]:=by apply gA;simpa using R
    exact pure_ (Builtin.len_ #[t] o.type #[a.eval x]) (by simp[execOp,k,resolve,E,invoke,builtin,p,D]) (zP h (j.ev x))
   .exact h.elim
  .rename_i E;split at h
   .rename_i x y m;have p:c.args=#[x,y]:=by apply gA;simpa using m
    exact pure_ (Builtin.max_ c.argTypes o.type #[a.eval x,a.eval y]) (by simp[execOp,k,resolve,E,invoke,builtin,p]) (G2 h (j.ev x) (j.ev y) _ _)
   .exact h.elim
  .rename_i E;split at h
   .rename_i s x t t' m R;have p:c.args=#[s,x]:=by apply gA;simpa using m
    have D:c.argTypes=#[t,t']:=by apply gA;simpa using R
    split at h
    .rename_i B;subst B;exact goes_ (Builtin.append_ #[t,3] o.type #[a.eval s,a.eval x]) (by simp[execOp,k,resolve,E,invoke,builtin,p,D]) (zS h j.st (j.ev s) (j.ev x))
    .exact goes_ (Builtin.append_ #[t,t'] o.type #[a.eval s,a.eval x]) (by simp[execOp,k,resolve,E,invoke,builtin,p,D]) (AC h j.st (j.ev s) (j.ev x))
   .exact h.elim
  .rename_i E;split at h
   .rename_i s x t t' m R;have p:c.args=#[s,x]:=by apply gA;simpa using m
    have D:c.argTypes=#[t,t']:=by apply gA;simpa using R
    exact goes_ (Builtin.copy_ #[t,t'] o.type #[a.eval s,a.eval x]) (by simp[execOp,k,resolve,E,invoke,builtin,p,D]) (Fo h j.st (j.ev s) (j.ev x))
   .exact h.elim
  .exact h.elim
 .exact h.elim

def DD(ops:Array Oper)(O:Tm)(j:Nat):AV:=match (ops[j]?).bind (·.dst)with
 | some d=>O d
 | ab=>.any
def Fh(ops:Array Oper):List Oper->Tm->St->(Tm->St->Prop)->Prop
 | [],O,S,K=>K O S
 | o::l,O,S,K=>(match o.guard with
  | ab=>zO o O S (fun z S'=>Fh ops l (O.put o.dst z) S' K)
  | some (j,want)=>(match DD ops O j with
   | .bool b=>(b=want->zO o O S (fun z S'=>Fh ops l (O.put o.dst z) S' K))/\(b=!want->Fh ops l (O.put o.dst .any) S K)
   | _=>False))
def wj(N:Nat)(l:List Oper):Bool:=l.all fun o=>match o.dst with
 | some d=>decide (d<N)
 | ab=>true
def GI(h:wj N (o::l)=true):(∀k,o.dst=some k->k<N)/\wj N l=true:=by
 simp only[wj,List.all_cons,au]at h;refine⟨fun k b=>?_,h.2⟩;have a:=h.1;rw[b]at a;simpa using a
def AQ(g:RT O S N a w){j:Nat}{b:Bool}(h:DD ops O j=.bool b):yielded ops a.tmps j=some b:=by
 unfold DD at h
 cases e:(ops[j]?).bind (·.dst)with
 | none=>rw[e]at h;cases h
 | some d =>
  rw[e]at h;have c:=g.tm d;simp only at h;rw[h]at c;simp only[bn]at c;unfold yielded;rw[e];simp only[dp]
  cases f:a.tmps[d]? with
  | none=>simp[cD,f,undef]at c
  | some v =>
   have:v=.bool b:=by simpa [cD,f]using c
   subst this;rfl
theorem vj{ops:Array Oper}{N:Nat}{Q:Exit->Act->World->Prop}{K:Tm->St->Prop}:∀(l:List Oper) {O:Tm} {S:St} {a:Act} {w:World},Fh ops l O S K->RT O S N a w->wj N l=true ->
  (∀O' S' a' w',K O' S'->RT O' S' N a' w'->dl S.dom S'.dom w w'->Q .normal a' w')->wpList ah ops Q l a w
 | [],O,S,a,w,h,d,_,i=>i O S a w h d (dl.refl _ _)
 | o::l,O,S,a,w,h,d,r,i=>by
  obtain⟨e,f⟩:=GI r;have run:zO o O S (fun z S'=>Fh ops l (O.put o.dst z) S' K)->o.wp ah a w (wpList ah ops Q l) Q:=fun s =>
   oU s d (fun z v w' S' t u x n=>vj l t (d.put n x e u) f (fun O' S'' a' w'' y A B=>i O' S'' a' w'' y A (n.trans B)))
  unfold Fh at h;unfold wpList
  cases c:o.guard with
  | none =>
   rw[c]at h;rw[ai (by simp[ot,c])]
   exact bM (run h)
  | some p =>
   obtain⟨j,want⟩:=p;rw[c]at h;simp only at h
   cases q:DD ops O j<;>rw[q]at h<;>try exact h.elim
   rename_i b;have g:=AQ d q;by_cases k:b=want
   .rw[ai (by simp[ot,c,g,k])]
    exact bM (run (h.1 k))
   .rw[af (by simp[ot,c,g,k])]
    have m:b=!want:=by cases b<;>cases want<;>simp_all
    exact vj l (h.2 m) (d.put (dl.refl _ _) d.st e (by simp[bn])) f i
def vn{K:AV->St->Prop}(a:∀x,x∈o.op.operands.toList->ev O x=ev O' x)(h:zO o O S K):zO o O' S K:=by
 have j:∀l:List Operand,(∀x∈l,ev O x=ev O' x)->l.map (ev O)=l.map (ev O'):=fun l v=>lF v;unfold zO at h ⊢;split at h
 .rename_i x b;rw[b]at a;simp only[Op.operands]at a;rw[<-a x sm];exact h
 .rename_i x b;rw[b]at a;simp only[Op.operands]at a;rw[<-a x sm];exact h
 .rename_i c x y b;rw[b]at a;simp only[Op.operands]at a;rw[<-a c sm,<-a x sm,<-a y sm];exact h
 .rename_i t b;exact h
 .rename_i t x b;rw[b]at a;simp only[Op.operands]at a;rw[<-a x sm];exact h
 .rename_i t ps b;rw[b]at a;simp only[Op.operands]at a;have:(ps.toList.map fun p=>(p.1,ev O p.2))=ps.toList.map fun p=>(p.1,ev O' p.2):=lF fun p q=>by rw[a p.2 (by simp;exact⟨p.1,by simpa using q⟩)]
  rw[<-this];exact h
 .rename_i t n ps b;rw[b]at a;simp only[Op.operands]at a;have:(ps.toList.map fun p=>(p.1,ev O p.2))=ps.toList.map fun p=>(p.1,ev O' p.2):=lF fun p q=>by rw[a p.2 (by simp;exact⟨p.1,by simpa using q⟩)]
  rw[<-this];exact h
 .rename_i t x b;rw[b]at a;simp only[Op.operands]at a;rw[<-a x sm];exact h
 .rename_i t x y b;rw[b]at a;simp only[Op.operands]at a;rw[<-a x sm,<-a y sm];exact h
 .rename_i x b;rw[b]at a;simp only[Op.operands]at a;rw[<-a x sm];exact h
 .rename_i op t x y _ b;rw[b]at a;simp only[Op.operands]at a;rw[<-a x sm,<-a y sm];exact h
 .rename_i op t x b;rw[b]at a;simp only[Op.operands]at a;rw[<-a x sm];exact h
 .rename_i s d x b;rw[b]at a;simp only[Op.operands]at a;rw[<-a x sm];exact h
 .rename_i f fi cs b;rw[b]at a;simp only[Op.operands]at a;rw[<-j cs.toList (fun x e=>a x (by simp;exact bO (by simpa using e))),<-j fi.toList (fun x e=>a x (by simp;exact bM (by simpa using e)))];exact h
 .rename_i t x y b;rw[b]at a;simp only[Op.operands]at a;rw[<-a x sm,<-a y sm];exact h
 .rename_i t x lo w mx b;rw[b]at a;simp only[Op.operands]at a;have k:∀y:Option Operand,(∀z,y=some z->ev O z=ev O' z)->y.map (ev O)=y.map (ev O'):=fun y A=>by cases y<;>simp[A]
  rw[<-a x sm,<-k lo (fun z m=>a z (by subst m;simp)),<-k w (fun z m=>a z (by subst m;simp)),<-k mx (fun z m=>a z (by subst m;simp))];exact h
 .rename_i t x f b;rw[b]at a;simp only[Op.operands]at a;rw[<-a x sm];exact h
 .rename_i t x i b;rw[b]at a;simp only[Op.operands]at a;rw[<-a x sm,<-a i sm];exact h
 .rename_i t x i b;rw[b]at a;simp only[Op.operands]at a;rw[<-a x sm,<-a i sm];exact h
 .rename_i x i b;rw[b]at a;simp only[Op.operands]at a;rw[<-a x sm];exact h
 .rename_i c b;rw[b]at a;simp only[Op.operands,Call.operands]at a;have g:∀x∈c.args.toList,ev O x=ev O' x:=fun x e=>a x (by simp;exact bO (by simpa using e))
  unfold tF at h ⊢;split at h
  .rename_i f B;rw[B]at a;simp only at a;rw[<-a f sm,<-j _ g];exact h
  .rename_i r;split at h
   .rename_i x t e u;rw[<-g x (by rw[e];simp)];exact h
   .exact h.elim
  .rename_i r;split at h
   .rename_i x y e;rw[<-g x (by rw[e];simp),<-g y (by rw[e];simp)];exact h
   .exact h.elim
  .rename_i r;split at h
   .rename_i s x t t' e u;rw[<-g x (by rw[e];simp),<-g s (by rw[e];simp)];exact h
   .exact h.elim
  .rename_i r;split at h
   .rename_i s x t t' e u;rw[<-g x (by rw[e];simp),<-g s (by rw[e];simp)];exact h
   .exact h.elim
  .exact h.elim
 .exact h.elim

def mt:TypeId->Option eE
 | 50=>some ⟨50,2,1,fun _=>.big 0⟩
 | 52=>some ⟨52,1,1,fun _=>.nil⟩
 | 167=>some ⟨167,2,2,fun _=>.big 0⟩
 | 218=>some ⟨218,1,2,fun j=>if j=0 then .nil else .int .i64 0⟩
 | _=>ab
def Kh(h:mt t=some X):∃zc:Array Value,X.ty=t/\(∀w,(Instr.alloc t true (.tuple #[])).run ah w=.ok (.pointer (some ⟨w.heap.size,0,ab⟩)) (w.alloc (.cells zc t))) /\
  X.es*X.n<=zc.size/\(∀w M j,j<X.n->∃u,reads zc (X.es*j) X.es u/\bn w M (X.g j) u)/\∀(k:Nat) (y:Value),zc[k]? = some y->lD y:=by
 have key:∀(z':Value) (s b:Nat),l8 ah t=some (z',s,b)->∃i,ah.info? t=some i/\i.zero=some z':=by
  intro z' s b e;unfold l8 at e
  cases f:ah.info? t with
  | none=>rw[f]at e;simp at e
  | some i =>
   rw[f]at e;simp only[dp,cH,gM]at e;obtain⟨z2,m,o,G,H⟩:=e;exact⟨i,rfl,by rw[m,o]⟩
 have fin:∀(l:List AV) (vs:List Value) (z:Value) (s b:Nat),l8 ah t=some (z,s,b)->z.cells=(vs.flatMap (fun u=>u.cells.toList)).toArray->(∀w M,aW w M l vs)->(∀y∈l,eg X.es y)->X.ty=t->X.n=l.length->(∀j,j<l.length->X.g j=l.getD j .any) ->
   ∃zc:Array Value,X.ty=t/\(∀w,(Instr.alloc t true (.tuple #[])).run ah w=.ok (.pointer (some ⟨w.heap.size,0,ab⟩)) (w.alloc (.cells zc t))) /\
   X.es*X.n<=zc.size/\(∀w M j,j<X.n->∃u,reads zc (X.es*j) X.es u/\bn w M (X.g j) u)/\∀(k:Nat) (y:Value),zc[k]? = some y->lD y:=by
  intro l vs z s b A p r d B x C;obtain⟨i,f,v⟩:=key z s b A;refine⟨z.cells,B,fun w=>Bq f v w,?_,fun w M j a=>?_,fun k y c=>?_⟩
  .obtain⟨_,D,_,_⟩:=it l vs (r default (fun _=>False)) d;rw[p,bY,D,x];exact ae _
  .obtain⟨_,_,_,E⟩:=it l vs (r w M) d;rw[x]at a;obtain⟨u,m,o⟩:=E j a;refine⟨u,?_,by rw[C j a];exact m⟩
   have:=o z.cells 0 (fun q _=>by rw[p];simp)
   simpa using this
  .obtain⟨_,_,F,_⟩:=it l vs (r default (fun _=>False)) d;rw[p,eY]at c;exact(F y (fy c)).2
 have zb:∀w M,bn w M (.big 0) (.agg #[.bool false,.slice ab 0 0]):=fun w M=>by simp only[bn];exact er.zero w
 unfold mt at h;split at h
 .cases h
  exact fin [.big 0] [.agg #[.bool false,.slice ab 0 0]] (.agg #[.bool false,.slice ab 0 0]) 2 32 kr rfl (fun w M=>by simp only[aW];exact⟨zb w M,trivial⟩) (fun y c=>by simp at c;subst c;simp[eg]) rfl rfl (fun j a=>by simp at a;subst a;rfl)
 .cases h
  exact fin [.nil] [.slice ab 0 0] (.slice ab 0 0) 1 24 kr rfl (fun w M=>by simp[aW,bn]) (fun y c=>by simp at c;subst c;simp[eg]) rfl rfl (fun j a=>by simp at a;subst a;rfl)
 .cases h
  exact fin (bN 2 (.big 0)) (bN 2 (.agg #[.bool false,.slice ab 0 0])) (.agg #[.bool false,.slice ab 0 0,.bool false,.slice ab 0 0]) 4 64 kr rfl (fun w M=>jX (zb w M) 2) (fun y c=>by rw[fV c];simp[eg]) rfl rfl
   (fun j a=>(zi (by rw[kL]at a;exact a) _ _).symm)
 .cases h
  exact fin [.nil,.int .i64 0] [.slice ab 0 0,.int .i64 0] (.agg #[.slice ab 0 0,.int .i64 0]) 2 32 kr rfl (fun w M=>by simp[aW,bn]) (fun y c=>by simp at c;rcases c with rfl|rfl<;>simp[eg]) rfl rfl
   (fun j a=>by match j with
    | 0=>rfl
    | 1=>rfl
    | j+2=>exact absurd a (by simp only[cA,jn];omega))
 .cases h
mutual
def pq:AV->Bool
 | .int ..=>true
 | .bool _=>true
 | .big _=>true
 | .nil=>true
 | .sl ..=>true
 | .ptr ..=>true
 | .mag _=>true
 | .fp ..=>true
 | .bset _=>true
 | .any=>true
 | .nfn=>true
 | .mfn _ l=>Ap l
 | .tup l=>Ap l
 | .agg l=>Ap l
 | .fn _ l=>Ap l
 | .lst ..=>false
 | .pat ..=>false
def Ap:List AV->Bool
 | []=>true
 | x::l=>pq x&&Ap l
end
mutual
theorem sX{w:World}{M M':Nat->Prop}:∀{x:AV} {v:Value},pq x=true->bn w M x v->bn w M' x v
 | .int ..,v,_,a=>by simpa [bn]using a
 | .bool _,v,_,a=>by simpa [bn]using a
 | .big _,v,_,a=>by simpa [bn]using a
 | .nil,v,_,a=>by simpa [bn]using a
 | .sl ..,v,_,a=>by simpa [bn]using a
 | .ptr ..,v,_,a=>by simpa [bn]using a
 | .mag _,v,_,a=>by simpa [bn]using a
 | .fp ..,v,_,a=>by simpa [bn]using a
 | .bset _,v,_,a=>by simpa [bn]using a
 | .any,v,_,a=>by simp[bn]
 | .nfn,v,_,a=>by simpa [bn]using a
 | .mfn f l,v,h,a=>by
  simp only[pq]at h;simp only[bn]at a ⊢;obtain⟨vs,b,c⟩:=a;exact⟨vs,b,qw h c⟩
 | .tup l,v,h,a=>by
  simp only[pq]at h;simp only[bn]at a ⊢;obtain⟨vs,b,c⟩:=a;exact⟨vs,b,qw h c⟩
 | .agg l,v,h,a=>by
  simp only[pq]at h;simp only[bn]at a ⊢;obtain⟨vs,b,c⟩:=a;exact⟨vs,b,qw h c⟩
 | .fn f l,v,h,a=>by
  simp only[pq]at h;simp only[bn]at a ⊢;obtain⟨vs,b,c⟩:=a;exact⟨vs,b,qw h c⟩
 | .lst ..,v,h,_=>by simp[pq]at h
 | .pat ..,v,h,_=>by simp[pq]at h
theorem qw{w:World}{M M':Nat->Prop}:∀{l:List AV} {vs:List Value},Ap l=true->aW w M l vs->aW w M' l vs
 | [],[],_,_=>by simp[aW]
 | x::l,v::vs,h,a=>by
  simp only[Ap,au]at h;simp only[aW]at a ⊢;exact⟨sX h.1 a.1,qw h.2 a.2⟩
 | [],_::_,_,a=>by simp[aW]at a
 | _::_,[],_,a=>by simp[aW]at a
end
def AI:Nat->Prop:=fun _=>False
def Ep:Op->Bool
 | .move _=>true
 | .assign _=>true
 | .pick ..=>true
 | .build ..=>true
 | .load ..=>true
 | .nilCheck _=>true
 | .binOp ..=>true
 | .unOp ..=>true
 | .convert ..=>true
 | .makeFunc ..=>true
 | .slice ..=>true
 | .fieldAddr ..=>true
 | .indexAddr ..=>true
 | .extract ..=>true
 | .call { callee:=.builtin .len,.. }=>true
 | _=>false
def tM(f:Nat)(args:List AV)(S:St)(z:AV):Prop :=
 ∀(w:World) (vs:List Value),ep w S->aW w S.dom args vs->Calls ah f vs.toArray w (fun e w'=>∃v,e=.returned v/\bn w' S.dom z v/\dl AI AI w w')
def AK(o:Oper)(O:Tm)(S:St)(z:AV):Prop:=(Ep o.op=true/\zO o O S (fun z' S'=>z'=z/\S'=S)) ∨
 (match o.op with
 | .call c=>(match c.callee with
  | .value f=>(match ev O f with
   | .fn f l=>((11<=f/\f<270)/\f≠252/\f≠253)/\tM f (c.args.toList.map (ev O)++l) S z
   | _=>False)
  | _=>False)
 | .buildSlice t n ps=>eH t n (ps.toList.map fun p=>(p.1,ev O p.2)) z
 | _=>False)
def MY(j:Ep o.op=true){O:Tm}{S:St}{K:AV->St->Prop}(h:zO o O S K){N:Nat}{a:Act}{w:World}(g:RT O S N a w) :
  ∃z v,K z S/\bn w S.dom z v/\(execOp a.eval o).run ah w=.ok (.value v) w:=by
 have pure_:∀(s:Sem Value),(execOp a.eval o=do let x <-s;pure (.value x))->(∃z u,K z S/\bn w S.dom z u/\s.run ah w=.ok u w)->∃z v,K z S/\bn w S.dom z v/\(execOp a.eval o).run ah w=.ok (.value v) w:=by
  intro s J ⟨z,u,r,A,C⟩;exact⟨z,u,r,A,by rw[J];simp[C]⟩
 unfold zO at h;split at h
 .rename_i x e;exact⟨_,_,h,g.ev x,by simp[execOp,e]⟩
 .rename_i x e;exact⟨_,_,h,g.ev x,by simp[execOp,e]⟩
 .rename_i c x y e;have B:=g.ev c
  cases D:ev O c<;>rw[D]at h B<;>try exact h.elim
  rename_i t;simp only[bn]at B;refine⟨_,if t then a.eval x else a.eval y,h,?_,by simp[execOp,e,B,asBool]⟩
  cases t
  .exact g.ev y
  .exact g.ev x
 .rename_i t e;rw[e]at j;simp[Ep]at j
 .rename_i t x e;rw[e]at j;simp[Ep]at j
 .rename_i t ps e;obtain⟨z,u,r,A,C⟩:=tG h (qK g ps.toList);exact⟨z,u,r,A,by rw[zm e,C];rfl⟩
 .rename_i t n ps e;rw[e]at j;simp[Ep]at j
 .rename_i t x e;exact pure_ (Instr.loadAt t (a.eval x)) (by simp[execOp,e]) (qH h g.st (g.ev x))
 .rename_i t x y e;rw[e]at j;simp[Ep]at j
 .rename_i x e;have k:=g.ev x
  cases p:ev O x<;>rw[p]at h k<;>try exact h.elim
  .have q:=k;simp only[bn]at k;exact⟨_,a.eval x,h,q,by simp[execOp,e,k]⟩
  .have q:=k;simp only[bn]at k;obtain⟨b,off,u,k,_⟩:=k;exact⟨_,a.eval x,h,q,by simp[execOp,e,k]⟩
 .rename_i op t x y _ e;have:=zR (ty:=t) h (g.ev x) (g.ev y) x y;exact pure_ (do eqGuard op t x y (a.eval x) (a.eval y);binOp op t (a.eval x) (a.eval y)) (by simp[execOp,e]) this
 .rename_i op t x e;exact pure_ (Op.unary op (a.eval x)) (by simp[execOp,e]) (BU h (g.ev x))
 .rename_i s d x e;exact pure_ (convert s d (a.eval x)) (by simp[execOp,e]) (wA h (g.ev x))
 .rename_i f fi cs e;obtain⟨z,r,A⟩:=tB h g;exact⟨_,.func (.func f) (fi.map a.eval) (cs.map a.eval),r,A,by simp[execOp,e,Instr.makeFunc]⟩
 .rename_i t x y e;rw[e]at j;simp[Ep]at j
 .rename_i t x lo I mx e;exact pure_ (Instr.sliceAt t (a.eval x) (lo.map a.eval) (I.map a.eval) (mx.map a.eval)) (by simp[execOp,e]) (tA h (g.ev x) (oW g lo) (oW g I) (oW g mx))
 .rename_i t x f e;exact pure_ (Instr.fieldAt t (a.eval x) f) (by simp[execOp,e]) (tD h (g.ev x))
 .rename_i t x i e;exact pure_ (Instr.indexAt t (a.eval x) (a.eval i)) (by simp[execOp,e]) (tC h (g.ev x) (g.ev i))
 .rename_i t x i e;rw[e]at j;simp[Ep]at j
 .rename_i x i e;have k:=g.ev x
  cases p:ev O x<;>rw[p]at h k<;>try exact h.elim
  rename_i l;simp only at h
  cases E:l[i]? with
  | none=>rw[E]at h;exact h.elim
  | some z =>
   rw[E]at h;simp only[bn]at k;obtain⟨vs,k,F⟩:=k;obtain⟨v,L,M⟩:=tL l vs F i z E;exact⟨_,v,h,M,by simp[execOp,e,Instr.extract,k,L]⟩
 .rename_i c e;unfold tF at h;split at h
  .rename_i f m;obtain⟨ce,ar,at_⟩:=c;simp only at m;subst m;rw[e]at j;simp[Ep]at j
  .rename_i B;split at h
   .rename_i x t k P;have G:c.args=#[x]:=by apply gA;simpa using k
    have H:c.argTypes=#[t]:=by apply gA;simpa using P
    exact pure_ (Builtin.len_ #[t] o.type #[a.eval x]) (by simp[execOp,e,resolve,B,invoke,builtin,G,H]) (zP h (g.ev x))
   .exact h.elim
  .rename_i m;obtain⟨ce,ar,at_⟩:=c;simp only at m;subst m;rw[e]at j;simp[Ep]at j
  .rename_i m;obtain⟨ce,ar,at_⟩:=c;simp only at m;subst m;rw[e]at j;simp[Ep]at j
  .rename_i m;obtain⟨ce,ar,at_⟩:=c;simp only at m;subst m;rw[e]at j;simp[Ep]at j
  .exact h.elim
 .exact h.elim
def B9(h:AK o O S z){N:Nat}{a:Act}{w:World}(d:RT O S N a w){next:Act->World->Prop}{Q:Exit->Act->World->Prop}
  (k:∀v w',bn w' S.dom z v->dl AI AI w w'->next (a.put o.dst v) w'):o.wp ah a w next Q:=by
 rcases h with⟨y,h⟩|h
 .obtain⟨z',v,⟨rfl,_⟩,i,m⟩:=MY y h d;exact g9 m (k v w i (dl.refl _ _))
 .split at h
  .rename_i c p;split at h
   .rename_i f A;have b:=d.ev f
    cases q:ev O f<;>rw[q]at h b<;>try exact h.elim
    rename_i g l;simp only[bn]at b;obtain⟨vs,r,s⟩:=b;obtain⟨B,u⟩:=h;have j:(execOp a.eval o).run ah w=.ok (.enter g (c.args.map a.eval++vs.toArray)) w:=by
     simp[execOp,p,resolve,A,Deferred.ofValue,r,invoke,Mq B]
    unfold Oper.wp;rw[j];have hargs:(c.args.map a.eval++vs.toArray)=(c.args.toList.map a.eval++vs).toArray:=by apply gA;simp
    rw[hargs];refine(u w _ d.st (nS _ _ _ _ (oX d _) s)).mono ?_;rintro e w' ⟨v,rfl,x,i⟩;exact k v w' x i
   .exact h.elim
  .rename_i t n ps p;obtain⟨v,w',x,i,m⟩:=tf h d.st (qK d ps.toList);exact g9 (by rw[pP p,x];rfl) (k v w' i m)
  .exact h.elim
def q9(a:∀x,x∈o.op.operands.toList->ev O x=ev O' x)(h:AK o O S z):AK o O' S z:=by
 rcases h with⟨e,h⟩|h
 .exact bM ⟨e,vn a h⟩
 .refine bO ?_;split at h
  .rename_i c b;rw[b]at a;simp only[Op.operands,Call.operands]at a;split at h
   .rename_i f g;rw[g]at a;simp only at a;have d:c.args.toList.map (ev O)=c.args.toList.map (ev O'):=lF fun x i=>a x (by simp;exact bO (by simpa using i))
    rw[<-a f sm,<-d];exact h
   .exact h.elim
  .rename_i t n ps b;rw[b]at a;have d:(ps.toList.map fun p=>(p.1,ev O p.2))=ps.toList.map fun p=>(p.1,ev O' p.2):=lF fun p j=>by
    rw[a p.2 (by simp only[Op.operands];simp;exact⟨p.1,by simpa using j⟩)]
   rw[<-d];exact h
  .exact h.elim
def FK:List Oper->Tm->St->List (Nat×eE)->(Tm->List (Nat×eE)->Prop)->Prop
 | [],O,_,pend,K=>K O pend
 | o::l,O,S,pend,K=>(match o.op,o.dst with
  | .alloc t,some d=>(match mt t with
   | some X=>FK l (O.put (some d) .any) S (pend++[(d,X)]) K
   | ab=>False)
  | _,_=>∃z,AK o O S z/\FK l (O.put o.dst z) S pend K)
def nO:List (Nat×eE)->Tm->St->(Tm->St->Prop)->Prop
 | [],O,S,K=>K O S
 | (d,X)::r,O,S,K=>∀b,S b=ab->nO r (O.put (some d) (.ptr X.es b 0)) (S.upd b X) K
def zq(ds:List Nat)(O:Tm):Tm:=fun t=>if ds.contains t&&!pq (O t)then .any else O t
def pu(l:List Oper):List Nat:=l.filterMap (·.dst)
def looks(o:Oper):List Nat:=o.op.operands.toList.filterMap fun
 | .tmp t=>some t
 | _=>ab
def aft(o:Oper):List Nat:=(o.after.toList.filter (Region.binds .any)).map (·.on)
def sR(ops:Array Oper):Nat->Nat->Nat->Bool
 | 0,_,_=>false
 | f+1,j,i=>(match ops[i]? with
  | some o=>(aft o).contains j||(aft o).any (fun k=>Nat.ble j k&&sR ops f j k)
  | ab=>false)
theorem BS:∀(l:List Oper) (O:Tm) (S:St) (pend:List (Nat×eE)) (K:Tm->List (Nat×eE)->Prop),FK l O S pend K ->
  ∃(Os:Nat->Tm) (al:Nat->Option eE),Os 0=O/\K (Os l.length) (pend++(fT l.length).filterMap (fun i=>(al i).bind fun X=>(l[i]?).bind fun o=>o.dst.map fun d=>(d,X))) /\
   ∀i o,l[i]? = some o->(∃t d X,o.op=.alloc t/\o.dst=some d/\mt t=some X/\al i=some X/\Os (i+1)=(Os i).put (some d) .any) ∨
    (al i=ab/\∃z,AK o (Os i) S z/\Os (i+1)=(Os i).put o.dst z)
 | [],O,S,pend,K,h=>⟨fun _=>O,fun _=>ab,rfl,by simpa [FK]using h,fun i o c=>by simp at c⟩
 | o::l,O,S,pend,K,h=>by
  have glue:∀(x:Option eE) (O1:Tm) (pend1:List (Nat×eE)),(pend1=pend++(x.bind fun X=>o.dst.map fun d=>(d,X)).toList)->FK l O1 S pend1 K ->
    ((∃t d X,o.op=.alloc t/\o.dst=some d/\mt t=some X/\x=some X/\O1=O.put (some d) .any)∨(x=ab/\∃z,AK o O S z/\O1=O.put o.dst z)) ->
    ∃(Os:Nat->Tm) (al:Nat->Option eE),Os 0=O/\K (Os (o::l).length) (pend++(fT (o::l).length).filterMap (fun i=>(al i).bind fun X=>((o::l)[i]?).bind fun o=>o.dst.map fun d=>(d,X))) /\
     ∀i o',(o::l)[i]? = some o'->(∃t d X,o'.op=.alloc t/\o'.dst=some d/\mt t=some X/\al i=some X/\Os (i+1)=(Os i).put (some d) .any) ∨
      (al i=ab/\∃z,AK o' (Os i) S z/\Os (i+1)=(Os i).put o'.dst z):=by
   intro x O1 pend1 k e m;obtain⟨Os,al,n,b,p⟩:=BS l O1 S pend1 K e;refine⟨fun i=>match i with|0=>O|i+1=>Os i,fun i=>match i with|0=>x|i+1=>al i,rfl,?_,fun i o' c=>?_⟩
   .simp only[cA];rw[k]at b;rw[List.range_succ_eq_map,Ag,List.filterMap_map];have q:(fun i=>((al i).bind fun X=>(l[i]?).bind fun o=>o.dst.map fun d=>(d,X)))=((fun i=>(match i with|0=>x|i+1=>al i:Option eE).bind fun X=>((o::l)[i]?).bind fun o=>o.dst.map fun d=>(d,X))∘Nat.succ):=by
     funext i;simp
    rw[<-q]
    cases a:(x.bind fun X=>o.dst.map fun d=>(d,X))with
    | none=>rw[a]at b;simp only[Option.toList_none,vE]at b;simp only[cO,dp];rw[a];exact b
    | some y=>rw[a]at b;simp only[SZ,DK,R7]at b;simp only[cO,dp];rw[a];exact b
   .cases i with
    | zero =>
     simp at c;subst c;simp only[n];exact m
    | succ i =>
     simp only[bV]at c;exact p i o' c
  unfold FK at h;split at h
  .rename_i t d f j
   cases g:mt t with
   | none=>rw[g]at h;exact h.elim
   | some X =>
    rw[g]at h;exact glue (some X) _ _ (by rw[j];rfl) h (bM ⟨t,d,X,f,j,g,rfl,rfl⟩)
  .obtain⟨z,r,e⟩:=h;exact glue ab _ _ sm e (bO ⟨rfl,z,r,rfl⟩)

def lY(h:i∈ko .any ops listed):∃o,ops[i]? = some o/\listed.getD i true=false/\∀k∈aft o,listed.getD k false=true:=by
 simp only[ko,o5,iY,au,kR]at h;obtain⟨d,f,a⟩:=h;have b:ops[i]? = some ops[i]:=cg d;rw[b]at a;refine⟨ops[i],b,f,fun k c=>?_⟩;simp only[dd,fI]at a;simp only[aft,gN,o5]at c;obtain⟨e,⟨g,j⟩,rfl⟩:=c;have:=(DP.1 a) e (by simpa using g)
 simpa [j]using this
def LB(a:ops[i]? = some o)(c:listed.getD i true=false)(d:∀k∈aft o,listed.getD k false=true):i∈ko .any ops listed:=by
 have f:i<ops.size:=(fB.1 a).1;simp only[ko,o5,iY,au,kR];refine⟨f,c,?_⟩;rw[a];simp only[dd,fI];refine DP.2 fun e g=>?_;by_cases b:Region.binds .any e=true
 .have:=d e.on (by simp only[aft,gN,o5];exact⟨e,⟨by simpa using g,b⟩,rfl⟩)
  rw[this];simp
 .simp[b]
def Si(listed:Array Bool):Nat:=listed.toList.countP (·==false)
def H7(h:listed.getD i true=false):Si (listed.setIfInBounds i true)+1=Si listed:=by
 have a:i<listed.size:=by
  rcases aA i listed.size with b|b
  .exact b
  .rw[cD,d7 b]at h;cases h
 have c:listed.toList[i]'(by simpa using a)=false:=by
  rw[cD,cg a]at h;simpa using h
 simp only[Si,Array.toList_setIfInBounds];rw[List.countP_set (by simpa using a),c]
 have:0<listed.toList.countP (·==false):=List.countP_pos_iff.2 ⟨false,by rw[<-c];exact FM _,rfl⟩
 rw[ai (by rfl),af dc]
 omega
def l5(listed:Array Bool)(i k:Nat)(d:Bool)(a:i<listed.size):(listed.setIfInBounds i true).getD k d=if k=i then true else listed.getD k d:=by
 simp only[cD];by_cases e:k=i
 .subst e;simp[a]
 .rw[af e,dH (aj e)]
theorem o7{ops:Array Oper}{Q:Exit->Act->World->Prop}(I:Array Bool->Act->World->Prop)
  (hstep:∀listed a w i,I listed a w->i∈ko .any ops listed->wpOp ah ops Q i (fun a' w'=>I (listed.setIfInBounds i true) a' w') a w)
  (b:∀listed a w,I listed a w->ko .any ops listed=[]->Q .normal a w) :
  ∀fuel listed a w,Si listed<=fuel->I listed a w->wpAny ah .any ops Q fuel listed a w
 | 0,listed,a,w,g,c=>by
  have d:ko .any ops listed=[]:=by
   cases d:ko .any ops listed with
   | nil=>rfl
   | cons x xs =>
    obtain⟨o,_,e,_⟩:=lY (i:=x) (by rw[d];exact ef ..)
    have:=H7 e;omega
  exact⟨d,b listed a w c d⟩
 | fuel+1,listed,a,w,g,c=>by
  refine⟨b listed a w c,fun i f=>?_⟩;obtain⟨o,_,e,_⟩:=lY f;have j:=H7 e;exact wpOp_mono (fun a' w' h=>o7 I hstep b fuel _ a' w' om h) (hstep listed a w i c f)
def vM(ops:Array Oper)(listed:Array Bool):Prop:=∀(i:Nat) (o:Oper),ops[i]? = some o->listed.getD i false=true->∀k∈aft o,listed.getD k false=true
theorem sQ{ops:Array Oper}{listed:Array Bool}(b:vM ops listed):∀(f j i:Nat) (o:Oper),ops[i]? = some o->(∀k∈aft o,listed.getD k false=true)->sR ops f j i=true->listed.getD j false=true
 | 0,_,_,_,_,_,h=>by simp[sR]at h
 | f+1,j,i,o,d,c,h=>by
  simp only[sR,d,gj]at h;rcases h with h|h
  .exact c j (by simpa using h)
  .obtain⟨k,e,h⟩:=Tt.1 h
   replace h:=(au _ _▸h:_/\_).2
   cases f with
   | zero=>simp[sR]at h
   | succ f =>
    cases a:ops[k]? with
    | none=>simp[sR,a]at h
    | some ok=>exact sQ b (f+1) j k ok a (b k ok a (c k e)) h
def lX(h:l[i]? = some o):(o,i)∈l.zipIdx:=by
 rw[List.mem_zipIdx_iff_getElem?];exact h
def sY(h:∀t∈looks o,O t=O' t):∀x,x∈o.op.operands.toList->ev O x=ev O' x:=by
 intro x a
 cases x with
 | tmp t=>exact h t (by simp only[looks,Td];exact⟨.tmp t,a,rfl⟩)
 | const v=>rfl
 | global g=>rfl
 | func f=>rfl
def ep.fresh(h:ep w S){b:Nat}(c:w.heap.size<=b):S b=ab:=by
 cases e:S b with
 | none=>rfl
 | some X=>obtain⟨cs,a,_⟩:=h b X e;exact absurd (fP a) om

mutual
theorem bn.turn{M M':Nat->Prop}{w:World}(o:∀k,k<w.heap.size->M' k->M k):∀(a:AV) (v:Value),bn w M a v->bn w M' a v
 | .int k n,v,h=>by simpa [bn]using h
 | .bool b,v,h=>by simpa [bn]using h
 | .big z,v,h=>by simpa [bn]using h
 | .nil,v,h=>by simpa [bn]using h
 | .sl es b off len,v,h=>by simpa [bn]using h
 | .ptr es b i,v,h=>by simpa [bn]using h
 | .lst es n g,v,h=>by
  simp only[bn]at h ⊢;obtain⟨A,c,d,m,C⟩:=h;refine⟨A,c,d,m,fun D=>?_⟩;obtain⟨b,off,e,s,q,E⟩:=C D;refine⟨b,off,e,s,fun r=>q (o b s r),fun j t=>?_⟩;obtain⟨u,y,B⟩:=E j t;exact⟨u,y,bn.turn o (g j) u B⟩
 | .pat es x,v,h=>by
  simp only[bn]at h ⊢;obtain⟨b,off,u,d,s,q,y,F⟩:=h;exact⟨b,off,u,d,s,fun r=>q (o b s r),y,bn.turn o x u F⟩
 | .tup l,v,h=>by
  simp only[bn]at h ⊢;obtain⟨vs,d,m⟩:=h;exact⟨vs,d,aW.turn o l vs m⟩
 | .agg l,v,h=>by
  simp only[bn]at h ⊢;obtain⟨vs,d,m⟩:=h;exact⟨vs,d,aW.turn o l vs m⟩
 | .fn f l,v,h=>by
  simp only[bn]at h ⊢;obtain⟨vs,d,m⟩:=h;exact⟨vs,d,aW.turn o l vs m⟩
 | .mag n,v,h=>by simpa [bn]using h
 | .fp b i f,v,h=>by simpa [bn]using h
 | .bset p,v,h=>by simpa [bn]using h
 | .any,v,h=>by simp[bn]
 | .nfn,v,h=>by simpa [bn]using h
 | .mfn f l,v,h=>by
  simp only[bn]at h ⊢;obtain⟨vs,d,m⟩:=h;exact⟨vs,d,aW.turn o l vs m⟩
theorem aW.turn{M M':Nat->Prop}{w:World}(b:∀k,k<w.heap.size->M' k->M k):∀(l:List AV) (vs:List Value),aW w M l vs->aW w M' l vs
 | [],[],_=>by simp[aW]
 | a::l,v::vs,h=>by
  simp only[aW]at h ⊢;exact⟨bn.turn b a v h.1,aW.turn b l vs h.2⟩
 | [],_::_,h=>by simp[aW]at h
 | _::_,[],h=>by simp[aW]at h
end
def dl.any(h:dl AI AI w w')(M:Nat->Prop):dl M M w w':=⟨h.os,h.tape,h.output,h.size,fun k a _=>h.keep k a (fun x=>x),h.shape,fun _ _ h=>h⟩
def ep.frozen(h:ep w S)(a:dl AI AI w w'):ep w' S:=⟨h.z,h.gl.grow a (fun x=>x),fun b X d=>by
 obtain⟨cs,c,e,f,g⟩:=h b X d;exact⟨cs,(a.keep b (fP c) (fun x=>x)).trans c,e,fun j i=>by obtain⟨u,k,l⟩:=f j i;exact⟨u,k,bn.grow h.noU (a.any _) _ _ l⟩,g⟩⟩
def QB(w:World)(M:Nat->Prop)(S:St):Prop:=∀b x,S b=some x->∃cs,w.heap[b]? = some (.cells cs x.ty (0,0))/\x.es*x.n<=cs.size /\
 (∀j,j<x.n->∃u,reads cs (x.es*j) x.es u/\bn w M (x.g j) u)/\∀(k:Nat) (y:Value),cs[k]? = some y->lD y
def ZX(X:eE)(zc:Array Value):Prop:=X.es*X.n<=zc.size/\(∀w M j,j<X.n->∃u,reads zc (X.es*j) X.es u/\bn w M (X.g j) u)/\∀(k:Nat) (y:Value),zc[k]? = some y->lD y
theorem wx{w:World}{a:Act}{N B0:Nat}{M:Nat->Prop}{K:Tm->St->Prop}:∀(L:List (Nat×eE×Nat)) (O:Tm) (S:St),nO (L.map fun x=>(x.1,x.2.1)) O S K ->
  QB w M S->(∀t,bn w M (O t) (a.tmps.getD t undef))->(∀x∈L,a.tmps.getD x.1 undef=.pointer (some ⟨x.2.2,0,ab⟩)/\∃zc,w.heap[x.2.2]? = some (.cells zc x.2.1.ty (0,0))/\ZX x.2.1 zc) ->
  (L.map (·.2.2)).Nodup->(∀x∈L,S x.2.2=ab/\B0<=x.2.2) ->
  ∃O' S',K O' S'/\QB w M S'/\(∀t,bn w M (O' t) (a.tmps.getD t undef))/\∀k,S'.dom k->S.dom k∨B0<=k
 | [],O,S,h,i,l,_,_,_=>⟨O,S,by simpa [nO]using h,i,l,fun k m=>bM m⟩
 | (d,X,b)::L,O,S,h,i,l,o,n,p=>by
  simp only[cG,nO]at h;obtain⟨q,zc,r,s,u,v⟩:=o (d,X,b) (ef ..);obtain⟨y,z⟩:=p (d,X,b) (ef ..);simp only at q r s u v y z;simp only[cG,vC]at n;obtain⟨O',S',A,B,C,D⟩:=wx (B0:=B0) (N:=N) L (O.put (some d) (.ptr X.es b 0)) (S.upd b X) (h b y)
   (fun k Y c=>by
    simp only[St.upd]at c;by_cases e:k=b
    .rw[ai e]at c;cases c;subst e;exact⟨zc,r,s,fun j E=>u w M j E,v⟩
    .rw[af e]at c;exact i k Y c)
   (fun t=>by
    simp only[Tm.put_eq];by_cases e:t=d
    .subst e;rw[ai rfl,q];simp[bn]
    .rw[af e];exact l t)
   (fun x g=>o x (dJ _ g)) n.2
   (fun x g=>by
    obtain⟨F,G⟩:=p x (dJ _ g);refine⟨?_,G⟩;simp only[St.upd];rw[af]
    .exact F
    .intro e;exact n.1 (by rw[<-e];exact gN.2 ⟨x,g,rfl⟩))
  refine⟨O',S',A,B,C,fun k m=>?_⟩;rcases D k m with f|f
  .simp only[St.dom,St.upd]at f ⊢;by_cases e:k=b
   .right;rw[e];exact z
   .rw[af e]at f;exact bM f
  .exact bO f
def uL{t:Nat}(h:d≠some t):(a.put d v).tmps.getD t undef=a.tmps.getD t undef:=by
 cases d with
 | none=>rfl
 | some d =>
  simp only[Act.put,cD];rw[dH (fun e=>h (by rw[e]))]
def put_eq{d:Nat}(h:d<a.tmps.size):(a.put (some d) v).tmps.getD d undef=v:=by
 simp[Act.put,Array.getD,h]
def yK:(a.put d v).tmps.size=a.tmps.size:=by cases d<;>simp[Act.put]
def rV:(a.put d v).defers=a.defers:=by cases d<;>simp[Act.put]

end Go.Proofs.YtdobfmlmenaajaaGreatDoor
