/-
  Lemmas for NeighbourGram.
-/
import Derived.Test.YtdobfmlmenaajaaGreatDoorG05
import Derived.Lib.AppendZerosOnto
namespace Go.Proofs.YtdobfmlmenaajaaGreatDoor
open Go.RowKit Tryz
open _root_.List renaming replicate→bN
open _root_.Option renaming none→ab
open Tryz renaming prog→ah
set_option maxHeartbeats 6400000
set_option maxRecDepth 4096
set_option linter.all false
variable{s x y:AV}{K:AV->St->Prop}{k:IntKind}{ps:List (Nat×AV)}{vs:List Value}{es f j len m n:Nat}{g h:Nat->AV}{M:Nat->Prop}{S:St}{d t t' ty:TypeId}{op:UnOp}{z:Value}{w:World}
def jW(t:TypeId)(x:AV)(S:St)(K:AV->St->Prop):Prop:=match eK t with
 | some (es,k)=>if k=1 then eg es x/\∀b,S b=ab->K (.ptr es b 0) (S.upd b ⟨t,es,1,fun _=>x⟩)else(match x with
  | .agg l=>l.length=k/\(∀z∈l,eg es z)/\∀b,S b=ab->K (.ptr es b 0) (S.upd b ⟨t,es,k,fun j=>l.getD j .any⟩)
  | _=>False)
 | ab=>False
def Ig(t:TypeId)(v:Value)(w:World):(Instr.box t v).run ah w=.ok (.pointer (some ⟨w.heap.size,0,ab⟩)) (w.alloc (.cells v.cells t)):=by
 simp[Instr.box,newVar,newRow]
def G5{t:TypeId}{x:AV}{S:St}{K:AV->St->Prop}(h:jW t x S K){w:World}(g:ep w S){v:Value}(d:bn w S.dom x v):Dt (Instr.box t v) w S K:=by
 unfold jW at h
 cases i:eK t with
 | none=>rw[i]at h;exact h.elim
 | some p =>
  obtain⟨es,k⟩:=p;rw[i]at h;simp only at h;by_cases a:k=1
  .rw[ai a]at h;obtain⟨e,b,c,_⟩:=lM g t [x] [v] (by simp only[aW];exact⟨d,trivial⟩) (fun z m=>by simp at m;subst m;exact h.1)
   obtain⟨o,q⟩:=ep.reg b (Y:=⟨t,es,1,fun _=>x⟩) rfl rfl rfl (fun j n=>by simp at n;subst n;rfl)
   refine⟨_,.pointer (some ⟨w.heap.size,0,ab⟩),_,_,h.2 _ e,by simp[bn],o,by rw[q];exact c,?_⟩
   rw[Ig];simp
  .rw[af a]at h
   cases x with
   | agg l =>
    simp only at h;obtain⟨r,f,s⟩:=h;simp only[bn]at d;obtain⟨vs,rfl,u⟩:=d;obtain⟨e,b,c,_⟩:=lM g t l vs u f;rw[r]at b c;exact⟨_,.pointer (some ⟨w.heap.size,0,ab⟩),_,_,s _ e,by simp[bn],b,c,Ig ..⟩
   | _=>exact h.elim
def dB:TypeId->Option TypeId
 | 22=>some 41
 | 28=>some 29
 | 29=>some 2
 | 52=>some 59
 | 59=>some 50
 | 146=>some 3
 | 192=>some 52
 | 216=>some 59
 | _=>ab
def bP:TypeId->Nat
 | 50=>2
 | _=>1
def eChk(P:Program)(t:TypeId):Option (TypeId×Nat):=(P.underlying t).bind fun
 | .slice e=>(P.info? e).map fun i=>(e,i.size)
 | _=>ab
def ja{e:TypeId}(h:dB t=some e):ah.underlying t=some (.slice e)/\∃i,ah.info? e=some i/\i.size=bP e:=by
 have key:∀s,eChk ah t=some (e,s)->ah.underlying t=some (.slice e)/\∃i,ah.info? e=some i/\i.size=s:=by
  intro s a;unfold eChk at a
  cases b:ah.underlying t with
  | none=>rw[b]at a;simp at a
  | some d =>
   rw[b]at a
   cases d<;>simp only[dp,cH,gM,reduceCtorEq]at a
   obtain⟨i,c,rfl,f⟩:=a;exact⟨rfl,i,c,f⟩
 unfold dB at h;split at h<;>first
  | (cases h;exact key _ kr)
  | cases h
def pC(t:TypeId)(x i:AV)(K:AV->Prop):Prop:=match dB t,x,i with
 | some e,.sl es b off len,.int _ n=>es=bP e/\(0<=n/\n<(len:Int))/\K (.ptr es b (off+n.toNat))
 | some e,.lst es len g,.int _ n=>es=bP e/\(0<=n/\n<(len:Int))/\K (.pat es (g n.toNat))
 | ab,.ptr es b k,.int _ n=>(es=2/\t=195)/\(0<=n/\n<2)/\K (.ptr 2 b (k+n.toNat))
 | _,_,_=>False
def wb{e:TypeId}(a:dB t=some e)(w:World)(b off len cap:Nat)(k:IntKind)(n:Int)(c:0<=n)(d:n<(len:Int)) :
  (Instr.indexAt t (.slice (some ⟨b,off,ab⟩) len cap) (.int k n)).run ah w=.ok (.pointer (some ⟨b,off+n.toNat*bP e,ab⟩)) w:=by
 obtain⟨f,i,g,h⟩:=ja a;have j:0<=n/\n<(len:Int):=⟨c,d⟩;simp[Instr.indexAt,asIntOf,bG f,cP g,h,iy,j]
def tC{K:AV->Prop}(h:pC t x y K){w:World}{M:Nat->Prop}{vx vy:Value}(a:bn w M x vx)(d:bn w M y vy) :
  ∃z v,K z/\bn w M z v/\(Instr.indexAt t vx vy).run ah w=.ok v w:=by
 unfold pC at h;split at h
 .rename_i e es b off len k n m;obtain⟨rfl,⟨f,j⟩,l⟩:=h;simp only[bn]at a d;obtain⟨cap,cs,ty,fr,rfl,_,_,_⟩:=a;subst d;refine⟨_,_,l,?_,wb m w b _ len cap k n f j⟩;simp only[bn];rw[bS,ay (bP e) n.toNat]
 .rename_i e es len g k n m;obtain⟨rfl,⟨f,j⟩,l⟩:=h;simp only[bn]at a d;obtain⟨A,c,rfl,p,s⟩:=a;subst d;obtain⟨b,off,rfl,o,B,C⟩:=s om;obtain⟨u,q,r⟩:=C n.toNat om;refine⟨_,_,l,?_,wb m w b _ len c k n f j⟩;simp only[bn];exact⟨b,_,u,by rw[ay],o,B,by rw[ay];rw[ay]at q;exact q,r⟩
 .rename_i es b k kk n m;obtain⟨⟨rfl,rfl⟩,⟨f,j⟩,l⟩:=h;simp only[bn]at a d;subst a d;obtain⟨r,i,D,E⟩:=ja (t:=59) (e:=50) rfl;refine⟨_,.pointer (some ⟨b,2*k+n.toNat*2,ab⟩),l,?_,?_⟩
  .simp only[bn];rw[bS,ay n.toNat]
  .have p:0<=n/\n<2:=⟨f,j⟩;simp[Instr.indexAt,Instr.sureAddr,asIntOf,bG wB,cP D,E,iy,p,bP]
 .exact h.elim
def kZ(t:TypeId)(x y:AV)(S:St)(K:AV->St->Prop):Prop:=match dB t,x with
 | some e,.int _ n=>(match fU e with
  | some (es,z,_)=>x=y/\es=bP e/\(0<=n/\n<=1099511627776)/\∀b,S b=ab->K (.sl es b 0 n.toNat) (S.upd b ⟨e,es,n.toNat,fun _=>z⟩)
  | ab=>False)
 | _,_=>False
def mE(z:Value)(n:Nat):madeCells z.cells (n*z.cells.size)=((bN n z).flatMap (fun u=>u.cells.toList)).toArray:=by
 apply qe;intro i;simp only[madeCells,Tg,eY]
 induction n generalizing i with
 | zero=>simp
 | succ n ih =>
  simp only[jN,dj];by_cases h:i<z.cells.size
  .rw[dY (by simpa using h)]
   have a:i<(n+1)*z.cells.size:=by rw[cQ];omega
   simp[a,ez h,h]
  .rw[dS (by simp;omega)]
   have:=ih (i-z.cells.size);simp only[SX];rw[<-this];by_cases a:i<(n+1)*z.cells.size
   .have b:i-z.cells.size<n*z.cells.size:=by rw[cQ]at a;omega
    have c:i%z.cells.size=(i-z.cells.size)%z.cells.size:=by
     rw[Nat.mod_eq_sub_mod om]
    simp[a,b,c]
   .have b:¬i-z.cells.size<n*z.cells.size:=by rw[cQ]at a;omega
    simp[a,b]
def Fn(h:kZ t x y S K){w:World}(s:ep w S){vx vy:Value}(d:bn w S.dom x vx)(b:bn w S.dom y vy):Dt (Instr.makeSlice t vx vy) w S K:=by
 unfold kZ at h;split at h
 .rename_i e k n u
  cases c:fU e with
  | none=>rw[c]at h;exact h.elim
  | some p =>
   obtain⟨es,z,zv⟩:=p;rw[c]at h;obtain⟨rfl,rfl,⟨f,M⟩,v⟩:=h;obtain⟨A,i,g,B⟩:=ja u;obtain⟨i',l,C,D,N,O,E,F,G⟩:=oB c;rw[g]at l;cases l;simp only[bn]at d b;subst d b;have H:(i.bytes:Int)*n<=281474976710656:=by
    have Q:(i.bytes:Int)*n<=32*n:=cq om f;omega
   have a:=run_make (P:=ah) w t e i zv A g C k k n n f (xV _) H om;obtain⟨I,m,o,q⟩:=lM s e (bN n.toNat z) (bN n.toNat zv) (jX (G _ _) _) (fun y b=>by rw[fV b];exact F)
   rw[kL]at m o q;obtain⟨J,L⟩:=ep.reg m (Y:=⟨e,bP e,n.toNat,fun _=>z⟩) rfl rfl rfl (fun j r=>by simp only at r;simp[List.getD,r])
   rw[D,<-E,mE zv n.toNat]at a;refine⟨_,_,_,_,v _ I,?_,J,by rw[L];exact o,a⟩
   simp only[bn];refine⟨n.toNat,_,e,(0,0),by rw[dI],ae _,jf w _,?_⟩
   simp only[bY];rw[q];simp
 .exact h.elim
def fR:TypeId->Nat->Option (Nat×Nat)
 | 24,0=>some (1,0)|24,1=>some (1,1)|24,2=>some (1,2)|24,3=>some (1,3)
 | 27,0=>some (1,0)|27,1=>some (1,4)|27,2=>some (1,5)
 | 107,0=>some (1,0)|107,1=>some (1,1)
 | 160,0=>some (1,0)|160,1=>some (1,1)|160,2=>some (1,2)|160,3=>some (1,3)
 | 167,0=>some (2,0)|167,1=>some (2,1)
 | 183,0=>some (1,0)|183,1=>some (1,1)
 | 197,0=>some (2,0)|197,1=>some (2,1)|197,2=>some (2,2)|197,3=>some (2,3)|197,4=>some (2,5)
 | 218,0=>some (1,0)|218,1=>some (1,1)
 | _,_=>ab
def JS(P:Program)(t f:Nat):Option (Nat×Bool):=(P.underlying t).bind fun
 | .struct fs=>(fs[f]?).bind fun fl=>(P.info? fl.type).map fun i=>(fl.offset,i.size==0)
 | _=>ab
def JR{t k:Nat}(h:fR t f=some (es,k)):JS ah t f=some (es*k,false):=by
 unfold fR at h;split at h<;>first
  | (cases h;kernel_rfl)
  | cases h
def Mt:JS ah 50 0=some (0,false):=by kernel_rfl
def Ms:JS ah 50 1=some (1,false):=by kernel_rfl
def pD(t:TypeId)(x:AV)(f:Nat)(K:AV->Prop):Prop:=match fR t f,x with
 | some (es',k),.ptr es b i=>es'=es/\K (.ptr es b (i+k))
 | ab,.ptr es b i=>(es=2/\t=50/\f<2)/\K (.fp b i f)
 | _,_=>False
def tD{K:AV->Prop}(h:pD t x f K){w:World}{M:Nat->Prop}{vx:Value}(g:bn w M x vx) :
  ∃z v,K z/\bn w M z v/\(Instr.fieldAt t vx f).run ah w=.ok v w:=by
 unfold pD at h;split at h
 .rename_i es' k es b i o;obtain⟨rfl,j⟩:=h;simp only[bn]at g;subst g;have a:=JR o;unfold JS at a
  cases e:ah.underlying t with
  | none=>rw[e]at a;simp at a
  | some d =>
   rw[e]at a
   cases d<;>simp only[dp,reduceCtorEq]at a
   rename_i fs
   cases c:fs[f]? with
   | none=>rw[c]at a;simp at a
   | some fl =>
    rw[c]at a;simp only[dp,cH,gM,gS]at a;obtain⟨ii,l,m,n⟩:=a;refine⟨_,.pointer (some ⟨b,es'*i+es'*k,ab⟩),j,by simp[bn,bS],?_⟩
    simp[Instr.fieldAt,bG e,c,Instr.sureAddr,fieldPlace,cP l,n,iy,m]
 .rename_i es b i o;obtain⟨⟨rfl,rfl,p⟩,j⟩:=h;simp only[bn]at g;subst g;have a:JS ah 50 f=some (f,false):=by
   have q:f=0∨f=1:=om
   rcases q with rfl|rfl
   .exact Mt
   .exact Ms
  unfold JS at a
  cases e:ah.underlying 50 with
  | none=>rw[e]at a;simp at a
  | some d =>
   rw[e]at a
   cases d<;>simp only[dp,reduceCtorEq]at a
   rename_i fs
   cases c:fs[f]? with
   | none=>rw[c]at a;simp at a
   | some fl =>
    rw[c]at a;simp only[dp,cH,gM,gS]at a;obtain⟨ii,l,m,n⟩:=a;refine⟨_,.pointer (some ⟨b,2*i+f,ab⟩),j,by simp[bn],?_⟩
    simp[Instr.fieldAt,bG e,c,Instr.sureAddr,fieldPlace,cP l,n,iy,m]
 .exact h.elim

def Av(S:St):AV->Option (Nat×Nat×(Nat->AV)×Option Nat)
 | .sl es b off len=>(S b).bind fun X=>if X.es=es/\off+len<=X.n then some (es,len,fun j=>X.g (off+j),some b)else ab
 | .lst es n g=>some (es,n,g,ab)
 | _=>ab
theorem vW(g:Nat->AV)(o:Nat):∀k i,ee (fun j=>g (o+j)) i k=ee g (o+i) k
 | 0,_=>rfl
 | k+1,i=>by simp only[ee];rw[vW g o k (i+1)];rfl
theorem j8(g:Nat->AV):∀k i,(ee g i k).length=k
 | 0,_=>rfl
 | k+1,i=>by simp[ee,j8 g k]
theorem rS(g:Nat->AV):∀k i j,j<k->(ee g i k).getD j .any=g (i+j)
 | 0,_,_,h=>om
 | k+1,i,0,_=>by simp[ee]
 | k+1,i,j+1,h=>by
  have:=rS g k (i+1) j om;simp only[ee,bB];rw[this];congr 1;omega
theorem oJ(g:Nat->AV):∀k i z,z∈ee g i k->∃j,j<k/\z=g (i+j)
 | 0,_,_,h=>by simp[ee]at h
 | k+1,i,z,h=>by
  simp only[ee,rJ]at h;rcases h with rfl|h
  .exact⟨0,om,rfl⟩
  .obtain⟨j,b,a⟩:=oJ g k (i+1) z h;exact⟨j+1,om,by rw[a];congr 1;omega⟩
theorem wc{w:World}{M:Nat->Prop}{b off es:Nat}{g:Nat->AV}{n:Nat}(c:∀j,j<n->∃u,uK w b (off+es*j) es u/\bn w M (g j) u) :
  ∀(k i:Nat),i+k<=n->∃vs:List Value,aW w M (ee g i k) vs/\(vs.flatMap (fun u=>u.cells.toList)).length=es*k/\∀j,j<es*k->w.cell? ⟨b,off+es*i+j,ab⟩=(vs.flatMap (fun u=>u.cells.toList))[j]?
 | 0,i,_=>⟨[],by simp[ee,aW],sm,fun j c=>by simp at c⟩
 | k+1,i,q=>by
  obtain⟨u,⟨cs,ty,fr,h,d⟩,l⟩:=c i om;obtain⟨vs,f,m,o⟩:=wc c k (i+1) om;have a:u.cells.toList.length=es/\∀j,j<es->w.cell? ⟨b,off+es*i+j,ab⟩=u.cells.toList[j]?:=by
   match es,d with
   | 1,d =>
    simp only[reads]at d;rw[qU d.2];exact⟨rfl,fun j c=>by
     obtain rfl:j=0:=om
     rw[nL h];simpa using d.1⟩
   | 2,d =>
    simp only[reads]at d;obtain⟨x,y,rfl,_,_,p,f⟩:=d;refine⟨rfl,fun j c=>?_⟩;rw[nL h]
    match j with
    | 0=>simpa [Value.cells]using p
    | 1=>simpa [Value.cells]using f
    | j+2=>omega
  refine⟨u::vs,by simp only[ee,aW];exact⟨l,f⟩,by simp only[dj,B5,a.1,m];rw[et];omega,fun j c=>?_⟩
  simp only[dj];by_cases e:j<es
  .rw[dY (by rw[a.1];exact e)];exact a.2 j e
  .rw[dS (by rw[a.1];omega),a.1,<-o (j-es) (by rw[et]at c;omega)]
   congr 2;rw[et];omega
def BF(r:ep w S){x:AV}{v:Value}(e:bn w S.dom x v){es m:Nat}{h:Nat->AV}{o:Option Nat}(a:Av S x=some (es,m,h,o))(s:0<m) :
  ∃b off c vs,v=.slice (some ⟨b,off,ab⟩) m c/\aW w S.dom (ee h 0 m) vs/\(vs.flatMap (fun u=>u.cells.toList)).length=es*m/\∀j,j<es*m->w.cell? ⟨b,off+j,ab⟩=(vs.flatMap (fun u=>u.cells.toList))[j]?:=by
 cases x with
 | sl es' b off len =>
  simp only[Av]at a
  cases k:S b with
  | none=>rw[k]at a;simp at a
  | some X =>
   rw[k]at a;simp only[dp]at a;split at a
   .rename_i l;simp only[eG,gM]at a;obtain⟨rfl,rfl,rfl,_⟩:=a;simp only[bn]at e;obtain⟨cap,cs',ty',fr',rfl,_,_,_⟩:=e;obtain⟨cs,p,t,d,_⟩:=r b X k;obtain⟨vs,q,f,i⟩:=mZ d len off l.2;rw[l.1]at f i;refine⟨b,es'*off,cap,vs,rfl,by rw[vW,cu];exact q,f,fun j d=>?_⟩
    rw[nL p];exact i j d
   .cases a
 | lst es' n g =>
  simp only[Av,eG,gM]at a;obtain⟨rfl,rfl,rfl,_⟩:=a;simp only[bn]at e;obtain⟨A,c,rfl,l,p⟩:=e;obtain⟨b,off,rfl,_,_,d⟩:=p s;obtain⟨vs,q,f,i⟩:=wc d n 0 om;exact⟨b,off,c,vs,rfl,q,f,fun j d=>by have:=i j d;simpa using this⟩
 | _=>simp[Av]at a
def mI(g:Nat->AV)(len m:Nat)(h:Nat->AV):Nat->AV:=if m=1 then bR g len (h 0)else fun j=>if j<len then g j else h (j-len)
def Dc(a:j<len):mI g len m h j=g j:=by
 unfold mI;split
 .simp only[bR];rw[af om]
 .simp only;rw[ai a]
def xO(a:len<=j)(b:j<len+m):mI g len m h j=h (j-len):=by
 unfold mI;split
 .simp only[bR];rw[ai om];congr 1;omega
 .simp only;rw[af om]
def St.del(S:St)(b:Nat):St:=fun k=>if k=b then ab else S k
def fG(t t':TypeId)(s x:AV)(S:St)(K:AV->St->Prop):Prop:=match dB t with
 | some e=>t=t'/\(fU e).isSome=true/\(match Av S x with
  | some (es,m,h,o)=>es=bP e/\0<m/\(∀j,j<m->eg es (h j))/\(match s with
   | .nil=>m<=1048576/\∀b,S b=ab->K (.sl es b 0 m) (S.upd b ⟨e,es,m,h⟩)
   | .sl es' b off len=>(match S b with
    | some X=>es'=es/\off=0/\X.ty=e/\X.es=es/\X.n=len/\len+m<=1048576/\o≠some b /\
     ∀b',(b'=b∨S b'=ab)->K (.sl es b' 0 (len+m)) ((S.del b).upd b' ⟨e,es,len+m,mI X.g len m h⟩)
    | ab=>False)
   | _=>False)
  | ab=>False)
 | ab=>False
def nZ(h:eg es x)(d:bn w M x z)(n k:Nat)(y:Value)(b:(Builtin.zeroCells z.cells n)[k]? = some y):lD y:=by
 obtain⟨g,e,_⟩:=qP h d;simp only[Builtin.zeroCells,Tg,cH]at b;obtain⟨i,c,rfl⟩:=b;by_cases f:z.cells.size=0
 .rw[f]at c;simp at c
 .have a:i%z.cells.size<z.cells.size:=dq _ om;rw[getElem!_pos z.cells _ a];exact(e _ sm).2
def dl.drew(M:Nat->Prop)(w:World):dl M M w w.drew:=⟨rfl,rfl,rfl,ae _,fun _ _ _=>rfl,fun _ cs _ _ h=>⟨cs,h,rfl⟩,fun _ _ h=>h⟩
def ep.drew(h:ep w S):ep w.drew S:=⟨h.z,h.grow (dl.drew _ w),fun b X a=>by
 obtain⟨cs,c,d,e,f⟩:=h b X a;exact⟨cs,c,d,fun j g=>by obtain⟨u,i,k⟩:=e j g;exact⟨u,i,bn.grow h.noU (dl.drew _ w) _ _ k⟩,f⟩⟩
def ep.less{S':St}(h:ep w S)(a:∀b X,S' b=some X->S b=some X):ep w S'/\∀k,S'.dom k->S.dom k:=by
 have c:∀k,S'.dom k->S.dom k:=fun k d=>by
  simp only[St.dom]at d ⊢
  cases e:S' k with
  | none=>exact absurd e d
  | some X=>rw[a k X e];simp
 have f:dl S.dom S'.dom w w:=(dl.refl S.dom w).weaken c;refine⟨⟨?_,h.gl,fun b X g=>?_⟩,c⟩
 .cases e:S' 0 with
  | none=>rfl
  | some X=>have:=a 0 X e;rw[h.z]at this;cases this
 obtain⟨cs,i,l,m,n⟩:=h b X (a b X g);exact⟨cs,i,l,fun j o=>by obtain⟨u,p,q⟩:=m j o;exact⟨u,p,bn.grow h.noU f _ _ q⟩,n⟩
def E6(S:St)(b:Nat):∀k X,S.del b k=some X->S k=some X:=by
 intro k X h;simp only[St.del]at h;split at h
 .cases h
 .exact h

def xW{e:TypeId}(h:(fU e).isSome=true):∃x z,fU e=some (bP e,x,z):=by
 unfold fU at h ⊢;split at h<;>first|exact⟨_,_,rfl⟩|cases h
def H5(S:St)(b:Nat)(X:eE):(S.del b).upd b X=S.upd b X:=by
 funext k;simp only[St.del,St.upd];split<;>rfl
def mV(z:Array Value)(n:Nat):(Builtin.zeroCells z n).size=n*z.size:=by simp[Builtin.zeroCells]
def lq{cs:Array Value}
  (a:∀j,j<len->∃u,reads cs (es*j) es u/\bn w M (g j) u) (i:aW w M (ee h 0 m) vs) (d:∀j,j<m->eg es (h j))
  (b:∀q,q<es*m->cs[es*len+q]? = (vs.flatMap (fun u=>u.cells.toList))[q]?) :
  ∀j,j<len+m->∃u,reads cs (es*j) es u/\bn w M (mI g len m h j) u:=by
 intro j l;by_cases c:j<len
 .rw[Dc c];exact a j c
 .rw[xO om l];obtain⟨_,_,_,n⟩:=it (es:=es) (ee h 0 m) vs i (fun z o=>by
   obtain⟨k,p,rfl⟩:=oJ h m 0 z o;rw[aB];exact d k p)
  obtain⟨u,e,r⟩:=n (j-len) (by rw[j8];omega)
  rw[rS _ _ _ _ om,aB]at e;refine⟨u,?_,e⟩;have:=r cs (es*len) (fun q f=>b q (by rw[j8]at f;exact f))
  rw[<-bS,(om:len+(j-len)=j)]at this
  exact this
def AC(h:fG t t' s x S K){w:World}(J:ep w S){vs vx:Value}(E:bn w S.dom s vs)(hx:bn w S.dom x vx) :
  Dt (Builtin.append_ #[t,t'] ty #[vs,vx]) w S K:=by
 unfold fG at h
 cases he:dB t with
 | none=>rw[he]at h;exact h.elim
 | some e =>
  rw[he]at h;obtain⟨rfl,hze,h⟩:=h;obtain⟨zx,zv,hz⟩:=xW hze;obtain⟨Z,i,hi,l⟩:=ja he;obtain⟨i',g1,g2,g3,g4,g5,g6,g7,g8⟩:=oB hz;rw[hi]at g1;cases g1
  cases O:Av S x with
  | none=>rw[O]at h;exact h.elim
  | some p =>
   obtain⟨es,m,f,o⟩:=p;rw[O]at h;obtain⟨rfl,hm,F,h⟩:=h;obtain⟨xb,xo,xc,us,rfl,u1,L,u3⟩:=BF J hx O hm;obtain⟨_,_,l3,_⟩:=it (es:=bP e) (ee f 0 m) us u1 (fun z hz=>by
    obtain⟨k,hk,rfl⟩:=oJ f m 0 z hz;rw[aB];exact F k hk)
   generalize Q:us.flatMap (fun u=>u.cells.toList)=fl at *;have r:fl.length=m*i.size:=by rw[L,l,ay]
   have hnews:∀j v,fl[j]? = some v->w.cell? ((⟨xb,xo,ab⟩:Addr).add j)=some v:=fun j v A=>by
    rw[iy,u3 j (by rw[<-L];exact(dX.1 A).1)];exact A
   have R:∀(k:Nat) (y:Value),fl[k]? = some y->lD y:=fun k y d=>(l3 y (fy d)).2;have hmb:m*i.bytes<=32*m:=by rw[ay];exact aC _ g4
   cases s with
   | nil =>
    simp only at h;obtain⟨hm2,hK⟩:=h;simp only[bn]at E;subst E;have a:=run_append_nil (P:=ah) w t ty e i zv Z hi g2 ⟨xb,xo,ab⟩ m xc fl r hnews hm om om;have c:=Th w m 0 e;generalize grownCap w m 0 e=cap at a c;have hsize:(fl.toArray++Builtin.zeroCells zv.cells (cap-m)).size=bP e*cap:=by
     rw[gP,mV,bY,L,g6,ay (cap-m),<-bS,(om:m+(cap-m)=cap)]
    have B:=lq (w:=w.drew) (M:=S.dom) (es:=bP e) (len:=0) (m:=m) (g:=f) (h:=f) (cs:=fl.toArray++Builtin.zeroCells zv.cells (cap-m)) (vs:=us) (fun j A=>om) (aW.grow J.noU (dl.drew _ w) _ _ u1) F (fun q G=>by
     rw[dI,aB,Q,eD (by rw[bY,L];exact G)];simp)
    obtain⟨n1,n2,n3⟩:=ep.new (w:=w.drew) J.drew (X:=⟨e,bP e,m,f⟩) (cs:=fl.toArray++Builtin.zeroCells zv.cells (cap-m)) (by rw[hsize];exact aL _ c)
     (fun j A=>by have:=B j (by simpa using A);rw[xO om (by simpa using A)]at this;simpa using this) (fun k y d=>by
      rw[kM]at d;split at d
      .exact R k y (by simpa using d)
      .exact nZ g7 (g8 w S.dom) _ _ _ d)
    refine⟨_,_,_,_,hK _ n1,?_,n2,(dl.drew S.dom w).trans n3,a⟩;simp only[bn];exact⟨cap,_,e,(0,0),by rw[dI];rfl,c,jf w.drew _,by rw[hsize,aB];exact ae _⟩
   | sl es' b off len =>
    simp only at h
    cases hX:S b with
    | none=>rw[hX]at h;exact h.elim
    | some X =>
     rw[hX]at h;obtain⟨rfl,rfl,H,hes,hn,hmax,hob,hK⟩:=h;simp only[bn,dI,aB]at E;obtain⟨cap,cs',ty',fr',rfl,hlc,T,C⟩:=E;obtain⟨cs,W,hcsz,A,hcu⟩:=J b X hX;rw[W]at T;simp only[eG,Obj.cells.injEq]at T;obtain⟨rfl,rfl,rfl⟩:=T;rw[hes,hn]at A hcsz;rw[H]at W;by_cases hroom:len+m<=cap
     .have hf:=CA (P:=ah) w i.size m ⟨xb,xo,ab⟩ m xc fl r hnews;have n:bP e*len+fl.length<=cs.size:=by
       rw[L,<-bS];exact bU (aL _ hroom) C
      have N:=jR ah (b:=b) (off:=len*i.size) (ty:=e) fl w cs 0 W (by rw[l,cu,ay];exact n) (fun u Z=>(l3 u Z).1)
      rw[cu]at N;have a:(Builtin.append_ #[t,t] ty #[.slice (some ⟨b,0,ab⟩) len cap,.slice (some ⟨xb,xo,ab⟩) m xc]).run ah w=.ok (.slice (some ⟨b,0,ab⟩) (len+m) cap) (fE w b (eI cs (len*i.size) fl) e):=by
       simp[Builtin.append_,bG Z,sizeOf,typeInfo,hi,Builtin.lenOf,hroom,hf,iy,N]
      have hcsn:∀q,q<bP e*m->(eI cs (len*i.size) fl)[bP e*len+q]? = fl[q]?:=fun q G=>by
       rw[iw _ _ _ _ (by rw[l,ay];exact n),ai (by rw[l,L,ay len];omega)]
       rw[show bP e*len+q-len*i.size=q by rw[l,ay len];omega]
      have B:=lq (w:=w) (M:=S.dom) (es:=bP e) (len:=len) (m:=m) (g:=X.g) (h:=f) (cs:=eI cs (len*i.size) fl) (vs:=us) (fun j D=>by
       obtain⟨u,h5,h6⟩:=A j D;refine⟨u,kz h5 (fun q G=>?_),h6⟩;rw[iw _ _ _ _ (by rw[l,ay];exact n),af]
       rw[l,ay len];have:bP e*(j+1)<=bP e*len:=aL _ D;rw[et]at this;omega) u1 F (fun q G=>by rw[Q];exact hcsn q G)
      have U:=ep.write J hX (X':=⟨e,bP e,len+m,mI X.g len m f⟩) (cs:=cs) (cs':=eI cs (len*i.size) fl) (by rw[H];exact W) (il _ _ _) H.symm (by
        rw[il];exact bU (aL _ hroom) C) B (fun k y d=>by
        rw[iw _ _ _ _ (by rw[l,ay];exact n)]at d
        split at d
        .exact R _ y d
        .exact hcu k y d)
      rw[H]at U;have hK':=hK b (bM rfl);rw[H5]at hK';refine⟨_,_,_,_,hK',?_,U.1,U.2,a⟩;simp only[bn,dI,aB];exact⟨cap,eI cs (len*i.size) fl,e,(0,0),rfl,hroom,by rw[jl (fP W),ai rfl],by rw[il];exact C⟩
     .obtain⟨os,o1,I,o3⟩:=mZ A len 0 om;generalize hol:os.flatMap (fun u=>u.cells.toList)=ol at *;have hob2:(len+m)*i.bytes<=32*(len+m):=by rw[ay];exact aC _ g4
      have a:=run_append_grow (P:=ah) w t ty e i zv Z hi g2 ⟨b,0,ab⟩ len cap ol (by rw[I,l,ay]) (fun j v hjv=>by
        rw[iy,nL W];have:=o3 j (by rw[<-I];exact(dX.1 hjv).1)
        rw[dI]at this;rw[this];exact hjv) ⟨xb,xo,ab⟩ m xc fl r hnews om om (growslice_fits om om)
      have c:=Th w (len+m) cap e;generalize grownCap w (len+m) cap e=cap2 at a c;have hsize:(ol.toArray++fl.toArray++Builtin.zeroCells zv.cells (cap2-(len+m))).size=bP e*cap2:=by
       rw[gP,gP,mV,bY,bY,L,I,g6,ay (cap2-(len+m)),<-bS,<-bS,(om:len+m+(cap2-(len+m))=cap2)]
      have V:∀q,q<bP e*len->(ol.toArray++fl.toArray++Builtin.zeroCells zv.cells (cap2-(len+m)))[q]? = ol[q]?:=fun q G=>by
       rw[eD (by rw[gP,bY,I];omega),eD (by rw[bY,I];exact G)];simp
      have B:=lq (w:=w.drew) (M:=S.dom) (es:=bP e) (len:=len) (m:=m) (g:=X.g) (h:=f) (cs:=ol.toArray++fl.toArray++Builtin.zeroCells zv.cells (cap2-(len+m))) (vs:=us) (fun j D=>by
        obtain⟨u,h5,h6⟩:=A j D;refine⟨u,kz h5 (fun q G=>?_),bn.grow J.noU (dl.drew _ w) _ _ h6⟩;have hql:bP e*j+q<bP e*len:=by
         have:bP e*(j+1)<=bP e*len:=aL _ D;rw[et]at this;omega
        rw[V _ hql,<-o3 _ hql,dI,aB]) (aW.grow J.noU (dl.drew _ w) _ _ u1) F (fun q G=>by
        rw[Q,eD (by rw[gP,bY,bY,I,L];omega),KM (by rw[bY,I];omega),bY,I,(om:bP e*len+q-bP e*len=q)];simp)
      have holu:∀(k:Nat) (y:Value),ol[k]? = some y->lD y:=fun k y d=>by
       have hk:k<ol.length:=(dX.1 d).1;have:=o3 k (by rw[<-I];exact hk)
       rw[d]at this;exact hcu _ y this
      obtain⟨n1,n2,n3⟩:=ep.new (w:=w.drew) J.drew (X:=⟨e,bP e,len+m,mI X.g len m f⟩) (cs:=ol.toArray++fl.toArray++Builtin.zeroCells zv.cells (cap2-(len+m))) (by rw[hsize];exact aL _ c) B (fun k y d=>by
        rw[kM]at d;split at d
        .rw[kM]at d;split at d
         .exact holu k y (by simpa using d)
         .exact R _ y (by simpa using d)
        .exact nZ g7 (g8 w S.dom) _ _ _ d)
      have hless:=ep.less n2 (S':=(S.del b).upd w.drew.heap.size ⟨e,bP e,len+m,mI X.g len m f⟩) (fun k Y hY=>by
       simp only[St.upd]at hY ⊢;split at hY
       .rename_i e1;rw[ai e1];exact hY
       .rename_i e1;rw[af e1];exact E6 S b k Y hY)
      refine⟨_,_,_,_,hK _ (bO n1),?_,hless.1,((dl.drew S.dom w).trans n3).weaken hless.2,a⟩;simp only[bn,dI,aB];exact⟨cap2,_,e,(0,0),rfl,c,jf w.drew _,by rw[hsize];exact ae _⟩
   | _=>exact h.elim

def xX(z:Value)(n:Nat):Builtin.zeroCells z.cells n=((bN n z).flatMap (fun u=>u.cells.toList)).toArray:=mE z n
theorem ro{w:World}{M:Nat->Prop}{x:AV}{z:Value}(h:bn w M x z):∀n k,aW w M (ee (fun _=>x) k n) (bN n z)
 | 0,_=>by simp[ee,aW]
 | n+1,k=>by simp only[ee,jN,aW];exact⟨h,ro h n (k+1)⟩
def nr(t:TypeId)(s x:AV)(S:St)(K:AV->St->Prop):Prop:=match s,x with
 | .sl es b off len,.int _ (.ofNat m)=>(match dB t,S b with
  | some e,some X=>(match fU e with
   | some (es',z,_)=>es'=es/\es=bP e/\off=0/\X.ty=e/\X.es=es/\X.n=len/\1<=m/\len+m<=1048576 /\
    ∀b',(b'=b∨S b'=ab)->K (.sl es b' 0 (len+m)) ((S.del b).upd b' ⟨e,es,len+m,mI X.g len m (fun _=>z)⟩)
   | ab=>False)
  | _,_=>False)
 | _,_=>False
def zS(h:nr t s x S K){w:World}(N:ep w S){vs vx:Value}(O:bn w S.dom s vs)(hx:bn w S.dom x vx) :
  Dt (Builtin.append_ #[t,3] ty #[vs,vx]) w S K:=by
 unfold nr at h;split at h
 .rename_i es0 b off len k m
  cases he:dB t with
  | none=>rw[he]at h;exact h.elim
  | some e =>
  cases hX:S b with
  | none=>rw[he,hX]at h;exact h.elim
  | some X =>
   rw[he,hX]at h;simp only at h
   cases Q:fU e with
   | none=>rw[Q]at h;exact h.elim
   | some p =>
   obtain⟨es',zx,zv⟩:=p;rw[Q]at h;obtain⟨rfl,rfl,rfl,A,hes,hn,hm,hmax,hK⟩:=h;obtain⟨hu,i,hi,a⟩:=ja he;obtain⟨i',g1,g2,g3,g4,g5,g6,g7,g8⟩:=oB Q;rw[hi]at g1;cases g1;have h3u:=underlying3;simp only[bn]at hx;subst hx;have hx3:Int.ofNat m=(m:Int):=rfl;rw[hx3];have R:m≠0:=om
   have u1:=ro (g8 w S.dom) m 0;generalize hff:(fun _:Nat=>zx)=f at *;have D:∀j,j<m->eg (bP e) (f j):=fun j T=>by rw[<-hff];exact g7
   obtain⟨_,U,l3,_⟩:=it (es:=bP e) (ee f 0 m) (bN m zv) u1 (fun z Q=>by
    obtain⟨k,hk,rfl⟩:=oJ f m 0 z Q;rw[aB];exact D k hk)
   have V:=xX zv m;generalize hus:bN m zv=us at *;generalize W:us.flatMap (fun u=>u.cells.toList)=fl at *;rw[j8]at U;have Z:∀(k:Nat) (y:Value),fl[k]? = some y->lD y:=fun k y c=>(l3 y (fy c)).2;have hwm:IntKind.i64.wrap (m:Int)=m:=by rw[oY];omega
   have hmb:m*i.bytes<=32*m:=by rw[ay];exact aC _ g4
   have hib:¬(281474976710656<(m:Int)*(i.bytes:Int)):=by rw[<-bL];omega
   have hm0:¬((m:Int)<0):=om
   have hi1:i.size≠0:=by rw[a];unfold bP;split<;>omega
   simp only[bn,dI,aB]at O;obtain⟨cap,cs',ty',fr',rfl,hlc,E,n⟩:=O;obtain⟨cs,L,hcsz,T,hcu⟩:=N b X hX;rw[L]at E;simp only[eG,Obj.cells.injEq]at E;obtain⟨rfl,rfl,rfl⟩:=E;rw[hes,hn]at T hcsz;rw[A]at L;by_cases hroom:len+m<=cap
   .have R:m≠0:=om
    have l:bP e*len+fl.length<=cs.size:=by
     rw[U,<-bS];exact bU (aL _ hroom) n
    have C:=jR ah (b:=b) (off:=len*i.size) (ty:=e) fl w cs 0 L (by rw[a,cu,ay];exact l) (fun u hu=>(l3 u hu).1)
    rw[cu]at C;have F:(storeCells ⟨b,len*i.size,ab⟩ fl).run ah w=.ok () (fE w b (eI cs (len*i.size) fl) e):=C;have d:(Builtin.append_ #[t,3] ty #[.slice (some ⟨b,0,ab⟩) len cap,.int k (m:Int)]).run ah w=.ok (.slice (some ⟨b,0,ab⟩) (len+m) cap) (fE w b (eI cs (len*i.size) fl) e):=by
     simp[Builtin.append_,bG hu,bG h3u,sizeOf,typeInfo,hi,asInt,asIntOf,hwm,hm0,hib,zeroValue,g2,V,hroom,iy,F];intro h0;exact absurd h0 (Nat.mul_ne_zero R hi1)
    have hcsn:∀q,q<bP e*m->(eI cs (len*i.size) fl)[bP e*len+q]? = fl[q]?:=fun q G=>by
     rw[iw _ _ _ _ (by rw[a,ay];exact l),ai (by rw[a,U,ay len];omega)]
     rw[show bP e*len+q-len*i.size=q by rw[a,ay len];omega]
    have H:=lq (w:=w) (M:=S.dom) (es:=bP e) (len:=len) (m:=m) (g:=X.g) (h:=f) (cs:=eI cs (len*i.size) fl) (vs:=us) (fun j o=>by
     obtain⟨u,h5,h6⟩:=T j o;refine⟨u,kz h5 (fun q G=>?_),h6⟩;rw[iw _ _ _ _ (by rw[a,ay];exact l),af]
     rw[a,ay len];have:bP e*(j+1)<=bP e*len:=aL _ o;rw[et]at this;omega) u1 D (fun q G=>by rw[W];exact hcsn q G)
    have I:=ep.write N hX (X':=⟨e,bP e,len+m,mI X.g len m f⟩) (cs:=cs) (cs':=eI cs (len*i.size) fl) (by rw[A];exact L) (il _ _ _) A.symm (by
      rw[il];exact bU (aL _ hroom) n) H (fun k y c=>by
      rw[iw _ _ _ _ (by rw[a,ay];exact l)]at c
      split at c
      .exact Z _ y c
      .exact hcu k y c)
    rw[A]at I;have hK':=hK b (bM rfl);rw[H5]at hK';refine⟨_,_,_,_,hK',?_,I.1,I.2,d⟩;simp only[bn,dI,aB];exact⟨cap,eI cs (len*i.size) fl,e,(0,0),rfl,hroom,by rw[jl (fP L),ai rfl],by rw[il];exact n⟩
   .obtain⟨os,o1,B,o3⟩:=mZ T len 0 om;generalize hol:os.flatMap (fun u=>u.cells.toList)=ol at *;have hob2:(len+m)*i.bytes<=32*(len+m):=by rw[ay];exact aC _ g4
    have d:=Lib.run_append_grow_zeros (P:=ah) w t 3 ty e i zv k .i64 hu h3u hi g2 (some ⟨b,0,ab⟩) len cap ol (CA (P:=ah) w.drew i.size len ⟨b,0,ab⟩ len cap ol (by rw[B,a,ay]) (fun j v hjv=>by
      rw[iy];have hbd:w.drew.heap[b]? = some (.cells cs e (0,0)):=L;rw[nL hbd];have:=o3 j (by rw[<-B];exact(dX.1 hjv).1)
      rw[dI]at this;rw[this];exact hjv)) m om (by rw[a];unfold bP;split<;>omega) om om om (growslice_fits om om)
    rw[V]at d;have r:=Th w (len+m) cap e;generalize grownCap w (len+m) cap e=cap2 at d r;have hsize:(ol.toArray++fl.toArray++Builtin.zeroCells zv.cells (cap2-(len+m))).size=bP e*cap2:=by
     rw[gP,gP,mV,bY,bY,U,B,g6,ay (cap2-(len+m)),<-bS,<-bS,(om:len+m+(cap2-(len+m))=cap2)]
    have J:∀q,q<bP e*len->(ol.toArray++fl.toArray++Builtin.zeroCells zv.cells (cap2-(len+m)))[q]? = ol[q]?:=fun q G=>by
     rw[eD (by rw[gP,bY,B];omega),eD (by rw[bY,B];exact G)];simp
    have H:=lq (w:=w.drew) (M:=S.dom) (es:=bP e) (len:=len) (m:=m) (g:=X.g) (h:=f) (cs:=ol.toArray++fl.toArray++Builtin.zeroCells zv.cells (cap2-(len+m))) (vs:=us) (fun j o=>by
      obtain⟨u,h5,h6⟩:=T j o;refine⟨u,kz h5 (fun q G=>?_),bn.grow N.noU (dl.drew _ w) _ _ h6⟩;have hql:bP e*j+q<bP e*len:=by
       have:bP e*(j+1)<=bP e*len:=aL _ o;rw[et]at this;omega
      rw[J _ hql,<-o3 _ hql,dI,aB]) (aW.grow N.noU (dl.drew _ w) _ _ u1) D (fun q G=>by
      rw[W,eD (by rw[gP,bY,bY,B,U];omega),KM (by rw[bY,B];omega),bY,B,(om:bP e*len+q-bP e*len=q)];simp)
    have holu:∀(k:Nat) (y:Value),ol[k]? = some y->lD y:=fun k y c=>by
     have hk:k<ol.length:=(dX.1 c).1;have:=o3 k (by rw[<-B];exact hk)
     rw[c]at this;exact hcu _ y this
    obtain⟨n1,n2,n3⟩:=ep.new (w:=w.drew) N.drew (X:=⟨e,bP e,len+m,mI X.g len m f⟩) (cs:=ol.toArray++fl.toArray++Builtin.zeroCells zv.cells (cap2-(len+m))) (by rw[hsize];exact aL _ r) H (fun k y c=>by
      rw[kM]at c;split at c
      .rw[kM]at c;split at c
       .exact holu k y (by simpa using c)
       .exact Z _ y (by simpa using c)
      .exact nZ g7 (g8 w S.dom) _ _ _ c)
    have hless:=ep.less n2 (S':=(S.del b).upd w.drew.heap.size ⟨e,bP e,len+m,mI X.g len m f⟩) (fun k Y hY=>by
     simp only[St.upd]at hY ⊢;split at hY
     .rename_i e1;rw[ai e1];exact hY
     .rename_i e1;rw[af e1];exact E6 S b k Y hY)
    refine⟨_,_,_,_,hK _ (bO n1),?_,hless.1,((dl.drew S.dom w).trans n3).weaken hless.2,d⟩;simp only[bn,dI,aB];exact⟨cap2,_,e,(0,0),rfl,r,jf w.drew _,by rw[hsize];exact ae _⟩
 .exact h.elim

def tI(len:Nat)(lo hi mx:Option AV)(K:Nat->Nat->Prop):Prop :=
 ∃l h:Nat,(match lo with|ab=>l=0|some (.int _ a)=>a=(l:Int)|_=>False)/\(match hi with|ab=>h=len|some (.int _ a)=>a=(h:Int)|_=>False) /\
  (match mx with|ab=>True|some (.int _ a)=>(h:Int)<=a/\a<=(len:Int)/\hi.isSome=true|_=>False)/\l<=h/\h<=len/\K l h
def kP(t:TypeId)(x:AV)(lo hi mx:Option AV)(K:AV->Prop):Prop:=match dB t,x with
 | some e,.sl es b off len=>es=bP e/\tI len lo hi mx (fun l h=>K (if l=0∨l<h then .sl es b (off+l) (h-l)else .lst es 0 (fun _=>.any)))
 | some e,.lst es n g=>es=bP e/\tI n lo hi mx (fun l h=>K (.lst es (h-l) (fun j=>g (l+j))))
 | some _,.nil=>tI 0 lo hi mx (fun _ _=>K .nil)
 | _,_=>False
def sk(w:World)(M:Nat->Prop):Option AV->Option Value->Prop
 | ab,ab=>True
 | some x,some v=>bn w M x v
 | _,_=>False
def rU{cap:Nat}(B:len<=cap){lo j mx:Option AV}{K:Nat->Nat->Prop}(h:tI len lo j mx K){vl vh vm:Option Value}(b:sk w M lo vl)(f:sk w M j vh)(o:sk w M mx vm) :
  ∃l h m:Nat,K l h/\l<=h/\h<=len/\h<=m/\m<=cap/\(Instr.sliceBounds true len cap vl vh vm).run ah w=.ok (l,h,m) w:=by
 obtain⟨l,h,d,e,p,g,q,r⟩:=h;have bnd:∀(a:Int) (k:IntKind) (n:Nat) (y:Nat) (c:BoundsCode),a=(n:Int)->n<=y->(Instr.sliceBound (.int k a) y c).run ah w=.ok n w:=by
  intro a k n y c s t;subst s;have:(0:Int)<=n/\(n:Int)<=(y:Int):=om
  simp[Instr.sliceBound,asIntOf,t]
 cases mx with
 | none =>
  cases vm with
  | some _=>exact o.elim
  | none =>
   refine⟨l,h,cap,r,g,q,om,ae _,?_⟩
   cases j with
   | none =>
    cases vh with
    | some _=>exact f.elim
    | none =>
     simp only at e;subst e
     cases lo with
     | none =>
      cases vl with
      | some _=>exact b.elim
      | none=>simp only at d;subst d;simp[Instr.sliceBounds]
     | some x =>
      cases vl with
      | none=>exact b.elim
      | some v =>
       cases x<;>simp only at d
       simp only[sk,bn]at b;subst b;simp[Instr.sliceBounds,bnd _ _ l h _ d g]
   | some y =>
    cases vh with
    | none=>exact f.elim
    | some u =>
     cases y<;>simp only at e
     simp only[sk,bn]at f;subst f
     cases lo with
     | none =>
      cases vl with
      | some _=>exact b.elim
      | none=>simp only at d;subst d;simp[Instr.sliceBounds,bnd _ _ h cap _ e om]
     | some x =>
      cases vl with
      | none=>exact b.elim
      | some v =>
       cases x<;>simp only at d
       simp only[sk,bn]at b;subst b;simp[Instr.sliceBounds,bnd _ _ h cap _ e om,bnd _ _ l h _ d g]
 | some z =>
  cases vm with
  | none=>exact o.elim
  | some C =>
   cases z<;>simp only at p
   rename_i km am;simp only[sk,bn]at o;subst o;obtain⟨D,E,A⟩:=p
   cases j with
   | none=>simp at A
   | some y =>
    cases vh with
    | none=>exact f.elim
    | some u =>
     cases y<;>simp only at e
     simp only[sk,bn]at f;subst f;refine⟨l,h,am.toNat,r,g,q,om,om,?_⟩
     have i:=bnd am km am.toNat cap .slice3Acap om om
     cases lo with
     | none =>
      cases vl with
      | some _=>exact b.elim
      | none=>simp only at d;subst d;simp[Instr.sliceBounds,i,bnd _ _ h am.toNat _ e om]
     | some x =>
      cases vl with
      | none=>exact b.elim
      | some v =>
       cases x<;>simp only at d
       simp only[sk,bn]at b;subst b;simp[Instr.sliceBounds,i,bnd _ _ h am.toNat _ e om,bnd _ _ l h _ d g]
def tA{lo hi mx:Option AV}{K:AV->Prop}(h:kP t x lo hi mx K){w:World}{M:Nat->Prop}{v:Value}{vl vh vm:Option Value}(k:bn w M x v)(y:sk w M lo vl)(B:sk w M hi vh)(C:sk w M mx vm) :
  ∃z u,K z/\bn w M z u/\(Instr.sliceAt t v vl vh vm).run ah w=.ok u w:=by
 unfold kP at h;split at h
 .rename_i e es b off len o;obtain⟨rfl,D⟩:=h;obtain⟨p,i,c,s⟩:=ja o;simp only[bn]at k;obtain⟨cap,cs,ty,fr,rfl,E,hheap,F⟩:=k;obtain⟨l,h,m,q,J,L,N,O,a⟩:=rU E D y B C;have d:(Instr.sliceAt t (.slice (some ⟨b,bP e*off,ab⟩) len cap) vl vh vm).run ah w=.ok (.slice (if m=l then some ⟨b,bP e*off,ab⟩else some ⟨b,bP e*off+l*bP e,ab⟩) (h-l) (m-l)) w:=by
   simp[Instr.sliceAt,bG p,Instr.slice,a,cP c,s,iy]
  refine⟨_,_,q,?_,d⟩;by_cases f:l=0∨l<h
  .rw[ai f];simp only[bn];refine⟨m-l,cs,ty,fr,?_,om,hheap,bU (aL _ om) F⟩
   rcases f with rfl|f
   .simp
   .rw[af om,bS,ay l]
  .rw[af f];simp only[bn];exact⟨_,m-l,by rw[(om:h-l=0)],om,fun P=>absurd P om⟩
 .rename_i e es n g o;obtain⟨rfl,D⟩:=h;obtain⟨p,i,c,s⟩:=ja o;simp only[bn]at k;obtain⟨A,cap,rfl,E,G⟩:=k;obtain⟨l,h,m,q,J,L,N,O,a⟩:=rU E D y B C;have d:(Instr.sliceAt t (.slice A n cap) vl vh vm).run ah w=.ok (.slice (if m=l then A else A.map (·.add (l*bP e))) (h-l) (m-l)) w:=by
   simp[Instr.sliceAt,bG p,Instr.slice,a,cP c,s]
  refine⟨_,_,q,?_,d⟩;simp only[bn];refine⟨_,m-l,rfl,om,fun P=>?_⟩
  obtain⟨b,off,rfl,H,Q,R⟩:=G om;rw[af om];refine⟨b,off+l*bP e,by simp[iy],H,Q,fun j S=>?_⟩
  obtain⟨u,r,I⟩:=R (l+j) om;refine⟨u,?_,I⟩;rw[bS,ay (bP e) l,<-kD]at r;exact r
 .rename_i e o;obtain⟨p,i,c,s⟩:=ja o;simp only[bn]at k;subst k;obtain⟨l,h',m,q,J,L,N,O,a⟩:=rU (ae 0) h y B C;obtain rfl:l=0:=om
  obtain rfl:h'=0:=om
  obtain rfl:m=0:=om
  exact⟨_,.slice ab 0 0,q,by simp[bn],by simp[Instr.sliceAt,bG p,Instr.slice,a,cP c]⟩
 .exact h.elim
def Dg(t:TypeId)(x:AV)(K:AV->Prop):Prop:=match dB t,x with
 | some _,.sl _ _ _ len=>K (.int .i64 len)
 | some _,.lst _ n _=>K (.int .i64 n)
 | some _,.nil=>K (.int .i64 0)
 | ab,.mag n=>t=48/\K (.int .i64 (nl n))
 | _,_=>False
def zP{K:AV->Prop}(h:Dg t x K){w:World}{M:Nat->Prop}{v:Value}(a:bn w M x v) :
  ∃z u,K z/\bn w M z u/\(Builtin.len_ #[t] ty #[v]).run ah w=.ok u w:=by
 unfold Dg at h;split at h
 .rename_i e es b off len d;obtain⟨f,_⟩:=ja d;simp only[bn]at a;obtain⟨cap,cs,ty,fr,rfl,_⟩:=a;exact⟨_,.int .i64 len,h,by simp[bn],by simp[Builtin.len_,bG f,goInt]⟩
 .rename_i e es n g d;obtain⟨f,_⟩:=ja d;simp only[bn]at a;obtain⟨A,c,rfl,_⟩:=a;exact⟨_,.int .i64 n,h,by simp[bn],by simp[Builtin.len_,bG f,goInt]⟩
 .rename_i e d;obtain⟨f,_⟩:=ja d;simp only[bn]at a;subst a;exact⟨_,.int .i64 0,h,by simp[bn],by simp[Builtin.len_,bG f,goInt]⟩
 .rename_i n d;obtain⟨rfl,h⟩:=h;simp only[bn]at a;obtain⟨neg,A,k,c,xs,e,i,j,l,m⟩:=a
  cases e
  have o:k=nl n:=by
   rw[aI j l];congr 1;simp[sg]at m;omega
  rw[<-o]at h;exact⟨_,.int .i64 k,h,by simp[bn],by simp[Builtin.len_,bG fH,goInt]⟩
 .exact h.elim
def rH(t:TypeId)(d s:AV)(S:St)(K:AV->St->Prop):Prop:=match dB t,d with
 | some e,.sl es b off len=>(match S b,Av S s with
  | some X,some (es',m,h,_)=>es=bP e/\es'=es/\X.es=es/\off+len<=X.n/\m=len/\0<m/\(∀j,j<m->eg es (h j)) /\
   K (.int .i64 len) (S.upd b { X with g:=fun j=>if off<=j/\j<off+len then h (j-off)else X.g j })
  | _,_=>False)
 | _,_=>False
def Fo{d:AV}(h:rH t d s S K){w:World}(D:ep w S){vd vs:Value}(E:bn w S.dom d vd)(r:bn w S.dom s vs) :
  Dt (Builtin.copy_ #[t,t'] ty #[vd,vs]) w S K:=by
 unfold rH at h;split at h
 .rename_i e es b off len I;obtain⟨J,i,L,x⟩:=ja I;split at h
  .rename_i X es' m f o M y;obtain⟨rfl,rfl,l,N,rfl,O,A,F⟩:=h;obtain⟨xb,xo,xc,us,rfl,Q,G,R⟩:=BF D r y O;simp only[bn]at E;obtain⟨cap,cs',ty',fr',rfl,_,_,_⟩:=E;have n:∀z∈ee f 0 m,eg X.es z:=fun z T=>by
    obtain⟨k,U,rfl⟩:=oJ f m 0 z T;rw[aB,l];exact A k U
   obtain⟨cs,V,a,W,B,C⟩:=qg D M (ee f 0 m) us Q n off (by rw[j8];exact N)
   rw[l]at a B C;generalize hfl:us.flatMap (fun u=>u.cells.toList)=fl at *;have p:fl.length=m*i.size:=by rw[G,x,ay]
   have Y:=CA (P:=ah) w i.size m ⟨xb,xo,ab⟩ m xc fl p (fun j v H=>by
    rw[iy,R j (by rw[<-G];exact(dX.1 H).1)];exact H)
   have c:=jR ah (b:=b) (off:=bP e*off) (ty:=X.ty) fl w cs 0 V (by rw[cu];exact a) W
   rw[cu]at c;have q:(Builtin.copy_ #[t,t'] ty #[.slice (some ⟨b,bP e*off,ab⟩) m cap,.slice (some ⟨xb,xo,ab⟩) m xc]).run ah w=.ok (.int .i64 m) (fE w b (eI cs (bP e*off) fl) X.ty):=by
    simp[Builtin.copy_,bG J,Builtin.lenOf,cP L,Y,c,goInt]
   have Z:iU X.g off (ee f 0 m)=fun j=>if off<=j/\j<off+m then f (j-off)else X.g j:=by
    funext j;simp only[iU,j8];split
    .rw[rS _ _ _ _ om,aB]
    .rfl
   rw[Z]at B C;rw[l]at F;exact⟨_,.int .i64 m,_,_,F,by simp[bn],B,C,q⟩
  .exact h.elim
 .exact h.elim

theorem ti(off:Nat):∀(l:List Value) (k:Nat) (cs:Array Value),(l.zipIdx k).foldl (fun(cs:Array Value) (p:Value×Nat)=>cs.setIfInBounds (off+p.2) p.1) cs=eI cs (off+k) l
 | [],_,_=>rfl
 | v::l,k,cs=>by
  simp only[List.zipIdx_cons,List.foldl_cons,eI];rw[ti off l (k+1)];rfl
def eF(k:Nat):List AV->List (Nat×AV)
 | []=>[]
 | x::l=>(k,x)::eF (k+1) l
def lJ(k:Nat):List Value->List (Nat×Value)
 | []=>[]
 | x::l=>(k,x)::lJ (k+1) l
theorem rl:∀(a b:List Value) (cs:Array Value) (o:Nat),eI cs o (a++b)=eI (eI cs o a) (o+a.length) b
 | [],b,cs,o=>by simp[eI]
 | x::a,b,cs,o=>by simp only[lw,eI,cA];rw[rl a b];congr 1;omega
theorem El{w:World}{M:Nat->Prop}{es:Nat}:∀(l:List AV) (vs:List Value) (k:Nat) (cs:Array Value),aW w M l vs->(∀z∈l,eg es z)->es*(k+l.length)<=cs.size ->
  Instr.fill (fun i=>some (i*es,es)) cs (lJ k vs)=some (eI cs (es*k) (vs.flatMap (fun u=>u.cells.toList)))
 | [],[],k,cs,_,_,_=>by simp[lJ,Instr.fill,eI]
 | a::l,v::vs,k,cs,b,f,d=>by
  simp only[aW]at b;obtain⟨g,_,_⟩:=qP (f a (ef ..)) b.1;simp only[cA]at d;have n:es*(k+1)<=cs.size:=bU (aL _ om) d;have m:¬(cs.size<k*es+es):=by rw[et,ay]at n;omega
  have ih:=El l vs (k+1) (eI cs (k*es) v.cells.toList) b.2 (fun z o=>f z (dJ _ o)) (by rw[il];rw[(om:k+1+l.length=k+(l.length+1))];exact d)
  have q:v.cells.zipIdx.foldl (fun(cs:Array Value) (p:Value×Nat)=>cs.setIfInBounds (k*es+p.2) p.1) cs=eI cs (k*es) v.cells.toList:=by
   rw[<-Array.foldl_toList,Array.toList_zipIdx,ti];rfl
  simp only[lJ,Instr.fill];rw[af (by simp[g];omega)]
  have e:(v.cells.zipIdx.foldl (fun(cs:Array Value) x=>match x with|(c,j)=>cs.setIfInBounds (k*es+j) c) cs)=eI cs (k*es) v.cells.toList:=q
  rw[e,ih,dj,rl,ay k es];congr 2;rw[SX,g,et]
 | [],_::_,_,_,h,_,_=>by simp[aW]at h
 | _::_,[],_,_,h,_,_=>by simp[aW]at h
def Cy(cs:Array Value)(l:List Value)(h:cs.size=l.length):eI cs 0 l=l.toArray:=by
 apply qe;intro i;rw[iw _ _ _ _ om];split
 .simp
 .rename_i a;rw[d7 om,d7 (by simp;omega)]
def dz(t:TypeId)(n:Nat)(ps:List (Nat×AV))(S:St)(K:AV->St->Prop):Prop:=match dB t with
 | some e=>ps=eF 0 (ps.map (·.2))/\ps.length=n/\n<=16/\(fU e).isSome=true/\(∀p∈ps,eg (bP e) p.2)/\∀b,S b=ab->K (.sl (bP e) b 0 n) (S.upd b ⟨e,bP e,n,fun j=>(ps.map (·.2)).getD j .any⟩)
 | ab=>False
def pH(w:World)(M:Nat->Prop):List (Nat×AV)->List (Nat×Value)->Prop
 | [],[]=>True
 | p::l,q::r=>p.1=q.1/\bn w M p.2 q.2/\pH w M l r
 | _,_=>False
theorem pG{w:World}{M:Nat->Prop}:∀(ps:List (Nat×AV)) (qs:List (Nat×Value)),pH w M ps qs->aW w M (ps.map (·.2)) (qs.map (·.2))/\∀k,ps=eF k (ps.map (·.2))->qs=lJ k (qs.map (·.2))
 | [],[],_=>⟨by simp[aW],fun _ _=>rfl⟩
 | p::l,q::r,h=>by
  simp only[pH]at h;obtain⟨b,c⟩:=pG l r h.2.2;refine⟨by simp only[cG,aW];exact⟨h.2.1,b⟩,fun k a=>?_⟩
  simp only[cG,eF,jo]at a;simp only[cG,lJ,jo];refine⟨?_,c (k+1) a.2⟩;have:=a.1;obtain⟨d,e⟩:=p;obtain⟨f,g⟩:=q;simp at this h;simp[<-h.1,this]
 | [],_::_,h=>h.elim
 | _::_,[],h=>h.elim
def qC{e:TypeId}(C:dB t=some e)(l:ps=eF 0 (ps.map (·.2)))(c:ps.length=n)(D:n<=16)(m:(fU e).isSome=true)(o:∀p∈ps,eg (bP e) p.2){w:World}(E:ep w S){qs:List (Nat×Value)}(F:pH w S.dom ps qs) :
  (Instr.buildSlice t n qs.toArray).run ah w=.ok (.slice (some ⟨w.heap.size,0,ab⟩) n n) (w.alloc (.cells ((qs.map (·.2)).flatMap (fun u=>u.cells.toList)).toArray e)):=by
 obtain⟨v,i,h,a⟩:=ja C;obtain⟨zx,zv,k⟩:=xW m;obtain⟨i',x,G,L,M,N,O,P,Q⟩:=oB k;rw[h]at x;cases x;obtain⟨y,H⟩:=pG ps qs F;have q:=H 0 l;have d:(ps.map (·.2)).length=n:=by simp[c]
 generalize hxs:ps.map (·.2)=xs at *
 generalize hvs:qs.map (·.2)=vs at *
 have b:∀z∈xs,eg (bP e) z:=fun z k=>by
  rw[<-hxs]at k;obtain⟨p,r,rfl⟩:=gN.1 k;exact o p r
 obtain⟨R,I,J,A⟩:=lM E e xs vs y b;rw[d]at I J A;have f:bP e<=2:=by unfold bP;split<;>omega
 have B:n*bP e<=32:=bU (bs D f) om;have hsmall:¬(16777216<n*i.size):=by rw[a];omega
 have hfill:∀cs:Array Value,cs.size=n*i.size->Instr.fill (fun j=>some (j*i.size,i.size)) cs qs=some (vs.flatMap (fun u=>u.cells.toList)).toArray:=by
  intro cs g;rw[q,a,El xs vs 0 cs y b (by rw[g,a,aB,d,ay];exact ae _),dI,Cy _ _ (by rw[g,a,A,ay])]
 by_cases s:n*i.size=0
 .have hfill0:=hfill (Array.map (fun _=>default) (Array.range 0)) (by simp[s])
  simp[Instr.buildSlice,bG v,cP h,s,newRow,hfill0]
 .have hfill1:=hfill ((Array.range (n*i.size)).map (zv.cells[· % zv.cells.size]!)) sm
  simp[Instr.buildSlice,bG v,cP h,hsmall,newRow,zeroValue,typeInfo,h,G,hfill1];intro K;exact absurd K s
def tH(h:dz t n ps S K){w:World}(l:ep w S){qs:List (Nat×Value)}(m:pH w S.dom ps qs) :
  Dt (Instr.buildSlice t n qs.toArray) w S K:=by
 unfold dz at h
 cases f:dB t with
 | none=>rw[f]at h;exact h.elim
 | some e =>
  rw[f]at h;obtain⟨g,a,s,i,b,u⟩:=h;have c:=qC f g a s i b l m;obtain⟨v,_⟩:=pG ps qs m;have j:(ps.map (·.2)).length=n:=by simp[a]
  have d:∀z∈ps.map (·.2),eg (bP e) z:=fun z x=>by
   obtain⟨p,k,rfl⟩:=gN.1 x;exact b p k
  obtain⟨y,o,q,r⟩:=lM l e _ _ v d;rw[j]at o q r;refine⟨_,_,_,_,u _ y,?_,o,q,c⟩;simp only[bn,dI,aB];exact⟨n,_,e,(0,0),rfl,ae _,jf w _,by rw[bY,r];exact ae _⟩
def eH(t:TypeId)(n:Nat)(ps:List (Nat×AV))(z:AV):Prop:=match dB t with
 | some e=>ps=eF 0 (ps.map (·.2))/\ps.length=n/\n<=16/\(fU e).isSome=true/\(∀p∈ps,eg (bP e) p.2)/\z=.lst (bP e) n (fun j=>(ps.map (·.2)).getD j .any)
 | ab=>False
def tf{z:AV}(h:eH t n ps z){w:World}(i:ep w S){qs:List (Nat×Value)}(s:pH w S.dom ps qs) :
  ∃v w',(Instr.buildSlice t n qs.toArray).run ah w=.ok v w'/\bn w' S.dom z v/\dl (fun _=>False) (fun _=>False) w w':=by
 unfold eH at h
 cases l:dB t with
 | none=>rw[l]at h;exact h.elim
 | some e =>
  rw[l]at h;obtain⟨m,a,B,o,d,rfl⟩:=h;have f:=qC l m a B o d i s;obtain⟨x,_⟩:=pG ps qs s;have C:(ps.map (·.2)).length=n:=by simp[a]
  have b:∀z∈ps.map (·.2),eg (bP e) z:=fun z E=>by
   obtain⟨p,r,rfl⟩:=gN.1 E;exact d p r
  obtain⟨F,L,M,N⟩:=lM i e _ _ x b;obtain⟨O,P,Q,G⟩:=it (ps.map (·.2)) (qs.map (·.2)) x b
  generalize hcs:((qs.map (·.2)).flatMap (fun u=>u.cells.toList))=cs at *
  have H:(w.alloc (.cells cs.toArray e)).heap.size=w.heap.size+1:=by simp
  have hkeep:∀k,k<w.heap.size->(w.alloc (.cells cs.toArray e)).heap[k]? = w.heap[k]?:=fun k g=>by
   show(w.heap.push _)[k]? = _;rw[Array.getElem?_push_lt g,cg g]
  have y:∀D:Nat->Prop,dl D D w (w.alloc (.cells cs.toArray e)):=fun D=>⟨rfl,rfl,rfl,om,fun k g _=>hkeep k g,fun k c ty fr A=>⟨c,by rw[hkeep k (fP A)];exact A,rfl⟩,fun _ _ h=>h⟩
  refine⟨_,_,f,?_,y _⟩;simp only[bn];refine⟨_,n,rfl,ae _,fun _=>⟨w.heap.size,0,rfl,om,fun I=>I F,fun j R=>?_⟩⟩
  obtain⟨u,J,K⟩:=G j om;refine⟨u,⟨cs.toArray,e,(0,0),jf w _,K cs.toArray 0 (fun q T=>by simp)⟩,bn.grow i.noU (y _) _ _ J⟩
def Ql(op:UnOp)(x:AV)(K:AV->Prop):Prop:=match op,x with
 | .neg,.int k n=>K (.int k (k.wrap (0-n)))
 | .not,.bool b=>K (.bool (!b))
 | _,_=>False
def BU{K:AV->Prop}(h:Ql op x K){w:World}{M:Nat->Prop}{v:Value}(a:bn w M x v):∃z u,K z/\bn w M z u/\(Op.unary op v).run ah w=.ok u w:=by
 unfold Ql at h;split at h
 .rename_i k n;simp only[bn]at a;subst a;exact⟨_,.int k (k.wrap (0-n)),h,by simp[bn],by simp[Op.unary,Op.intArith]⟩
 .rename_i b;simp only[bn]at a;subst a;exact⟨_,.bool (!b),h,by simp[bn],by simp[Op.unary]⟩
 .exact h.elim
def tc:TypeId->Option IntKind
 | 2=>some .i64
 | 3=>some .i64
 | 5=>some .u8
 | 34=>some .i64
 | 97=>some .u64
 | _=>ab
def kChk(P:Program)(s t:TypeId):Option IntKind:=match P.underlying s,P.underlying t with
 | some _,some (.int k)=>some k
 | _,_=>ab
def Am(s:TypeId):Bool:=s==2||s==3||s==5||s==25||s==41||s==97
def tE(s d:TypeId)(x:AV)(K:AV->Prop):Prop:=match tc d,x with
 | some k,.int _ n=>Am s=true/\K (.int k (k.wrap n))
 | _,_=>False
def OG{s:TypeId}(e:Am s=true)(c:tc d=some k):∃u,ah.underlying s=some u/\ah.underlying d=some (.int k):=by
 have f:∀u,(ah.underlying s).isSome=true->ah.underlying d=some u->∃x,ah.underlying s=some x/\ah.underlying d=some u:=fun u a b=>⟨_,Option.eq_some_of_isSome a,b⟩;refine f _ ?_ ?_
 .unfold Am at e;simp only[gj,ue]at e;rcases e with ((((rfl|rfl)|rfl)|rfl)|rfl)|rfl<;>kernel_rfl
 .unfold tc at c;split at c<;>first|(cases c;kernel_rfl)|cases c
def wA{s:TypeId}{K:AV->Prop}(h:tE s d x K){w:World}{M:Nat->Prop}{v:Value}(a:bn w M x v):∃z u,K z/\bn w M z u/\(convert s d v).run ah w=.ok u w:=by
 unfold tE at h;split at h
 .rename_i k k' n b;obtain⟨c,e⟩:=h;obtain⟨u,f,g⟩:=OG c b;simp only[bn]at a;subst a;refine⟨_,.int k (k.wrap n),e,by simp[bn],?_⟩
  simp only[convert,jJ,bG f,bG g,gW];simp[Conv.intToInt]
 .exact h.elim

end Go.Proofs.YtdobfmlmenaajaaGreatDoor
