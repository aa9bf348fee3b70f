/-
  Lemmas for NeighbourVerify.
-/
import Derived.Test.YtdobfmlmenaajaaGreatDoorV13
namespace Go.Proofs.YtdobfmlmenaajaaGreatDoor
open Go.RowKit Tryz
open _root_.List renaming range→et
open _root_.Nat renaming beq→ap,blt→aQ,strongRecOn→jf,testBit→jw,ble→jH
open _root_.Option renaming none→ab
set_option maxHeartbeats 6400000
set_option maxRecDepth 4096
set_option linter.all false
variable{ops:Array Oper}{X:EB}{l l':EL}{B a b cls ks:List Nat}{A:List XV}{i nx t:Nat}{M:Nat->EL}{alts:Nat->List Nat}{N:Nat->Nat}{T:Nat->TE}{V:Nat->XV}{o:Oper}{y:Option (Option EB)}{x:Option Operand}{φ ψ:Ph}{S:St}{te te':TE}{v:XV}{r:XV×Nat×EL}
noncomputable section
def mo:Operand->List Nat
 | .tmp t=>[t]
 | _=>[]
def ru(l:List Operand):List Nat:=l.flatMap mo
def Fu(x:Option Operand):List Nat:=ru x.toList
def Ds(o:Op):List Nat:=match o with
 | .move x=>mo x
 | .assign x=>mo x
 | .pick c x y=>mo c++(mo x++mo y)
 | .box _ x=>mo x
 | .build _ ps=>ru (ps.toList.map (·.2))
 | .buildSlice _ _ ps=>ru (ps.toList.map (·.2))
 | .load _ x=>mo x
 | .store _ x y=>mo x++mo y
 | .nilCheck x=>mo x
 | .binOp _ _ x y _=>mo x++mo y
 | .unOp _ _ x=>mo x
 | .convert _ _ x=>mo x
 | .makeFunc _ fi cs=>ru fi.toList++ru cs.toList
 | .makeSlice _ x y=>mo x++mo y
 | .slice _ x lo hi mx=>mo x++(Fu lo++(Fu hi++Fu mx))
 | .fieldAddr _ x _=>mo x
 | .indexAddr _ x i=>mo x++mo i
 | .index _ x i=>mo x++mo i
 | .extract x _=>mo x
 | .call c=>(match c.callee with
  | .value f=>mo f
  | _=>[])++ru c.args.toList
 | _=>[]
def GH(te te':TE)(l:List Nat):Prop:=∀t∈l,kg te t=kg te' t
def GH.left(h:GH te te' (a++b)):GH te te' a:=fun t c=>h t (List.mem_append_left _ c)
def GH.right(h:GH te te' (a++b)):GH te te' b:=fun t c=>h t (List.mem_append_right _ c)
def GH.ev{x:Operand}(h:GH te te' (mo x)):lr te x=lr te' x:=by
 cases x with
 | tmp t=>exact h t (by simp[mo])
 | const v=>rfl
 | global g=>rfl
 | func f=>rfl
def GH.evL:∀{l:List Operand},GH te te' (ru l)->l.map (lr te)=l.map (lr te')
 | [],_=>rfl
 | x::l,h=>by
  unfold ru at h;rw[dF]at h;rw[cU,cU,h.left.ev,evL (l:=l) h.right]
def GH.evP:∀{l:List (Nat×Operand)},GH te te' (ru (l.map (·.2)))->(l.map fun p=>(p.1,lr te p.2))=l.map fun p=>(p.1,lr te' p.2)
 | [],_=>rfl
 | x::l,h=>by
  unfold ru at h;rw[cU,dF]at h;rw[cU,cU,h.left.ev,evP (l:=l) h.right]
def GH.evO(h:GH te te' (Fu x)):x.map (lr te)=x.map (lr te'):=by
 cases x with
 | none=>rfl
 | some x =>
  unfold Fu ru at h;simp only[U9,dF,GN,xa]at h;rw[cV,cV,h.ev]
def Ku{call:eP}(h:GH te te' (Ds o.op)):BX call o te nx l=BX call o te' nx l:=by
 unfold BX
 cases e:o.op<;>rw[e]at h<;>simp only[Ds]at h<;>try rfl
 case move x=>dsimp only;rw[h.ev]
 case assign x=>dsimp only;rw[h.ev]
 case pick c x y=>dsimp only;rw[h.left.ev,h.right.left.ev,h.right.right.ev]
 case box t x=>dsimp only;rw[h.ev]
 case build t ps=>dsimp only;rw[h.evP]
 case buildSlice t n ps=>dsimp only;rw[h.evP]
 case load t x=>dsimp only;rw[h.ev]
 case store t x y=>dsimp only;rw[h.left.ev,h.right.ev]
 case nilCheck x=>dsimp only;rw[h.ev]
 case binOp op t x y _=>dsimp only;rw[h.left.ev,h.right.ev]
 case unOp op t x=>dsimp only;rw[h.ev]
 case convert s d x=>dsimp only;rw[h.ev]
 case makeFunc f fi cs =>
  cases f<;>try rfl
  have a:=h.left.evL;have b:=h.right.evL;dsimp only;generalize fi.toList=F at a ⊢;generalize cs.toList=C at b ⊢
  cases F with
  | nil=>dsimp only;rw[b]
  | cons x F=>cases C with
   | nil=>dsimp only;rw[a]
   | cons _ _=>rfl
 case makeSlice t x y=>dsimp only;rw[h.left.ev,h.right.ev]
 case slice t x lo j mx=>dsimp only;rw[h.left.ev,h.right.left.evO,h.right.right.left.evO,h.right.right.right.evO]
 case fieldAddr t x f=>dsimp only;rw[h.ev]
 case indexAddr t x i=>dsimp only;rw[h.left.ev,h.right.ev]
 case index t x i=>dsimp only;rw[h.left.ev,h.right.ev]
 case extract x i=>dsimp only;rw[h.ev]
 case call c =>
  dsimp only;rw[h.right.evL]
  cases g:c.callee with
  | value f =>
   have a:=h.left;rw[g]at a;simp only[a.ev]
  | _=>rfl
def pureM:Nat:=2^81 ||| 2^82 ||| 2^83 ||| 2^84 ||| 2^133 ||| 2^157 ||| 2^159 ||| 2^191 ||| 2^192 ||| 2^193 ||| 2^215 ||| 2^216 ||| 2^247 ||| 2^249 ||| 2^251 ||| 2^268
def Cm(f:Nat):Bool:=jw pureM f
def gG(o:Op):Nat:=match o with
 | .move _=>0
 | .assign _=>0
 | .pick _ _ _=>0
 | .build _ _=>0
 | .nilCheck _=>0
 | .binOp _ _ _ _ _=>0
 | .unOp _ _ _=>0
 | .convert _ _ _=>0
 | .makeFunc _ _ _=>0
 | .slice _ _ _ _ _=>0
 | .fieldAddr _ _ _=>0
 | .indexAddr _ _ _=>0
 | .index _ _ _=>0
 | .extract _ _=>0
 | .load _ _=>1
 | .alloc _=>2
 | .box _ _=>2
 | .buildSlice _ _ _=>2
 | .makeSlice _ _ _=>2
 | .call c=>(match c.callee with
  | .builtin .len=>0
  | .builtin .max=>0
  | .value (.func f)=>if Cm f then 0 else 4
  | .value (.tmp _)=>3
  | _=>4)
 | _=>4
def vC(call:eP):Prop:=∀f args nx l r,Cm f=true->call f args nx l=some r->r.2=(nx,l)/\∀nx' l',call f args nx' l'=some (r.1,nx',l')
def mI(p:Option XV)(h:p.map (fun v=>(v,nx,l))=some r):r.2=(nx,l)/\∀(nx':Nat) (l':EL),p.map (fun v=>(v,nx',l'))=some (r.1,nx',l'):=by
 obtain⟨v,rfl,rfl⟩:=cW.1 h;exact⟨rfl,fun _ _=>rfl⟩
def od(h:some (v,nx,l)=some r):r.2=(nx,l)/\∀(nx':Nat) (l':EL),some (v,nx',l')=some (r.1,nx',l'):=by
 cases h
 exact⟨rfl,fun _ _=>rfl⟩
def Ms(h:oc .len A B nx l=some r):r.2=(nx,l)/\∀nx' l',oc .len A B nx' l'=some (r.1,nx',l'):=by
 rcases A with _|⟨x,_|⟨y,A⟩⟩
 .cases h
 .rcases B with _|⟨t,_|⟨u,B⟩⟩
  .cases h
  .exact mI _ h
  .cases h
 .cases h
def Mq(h:oc .max A B nx l=some r):r.2=(nx,l)/\∀nx' l',oc .max A B nx' l'=some (r.1,nx',l'):=by
 rcases A with _|⟨x,_|⟨y,_|⟨z,A⟩⟩⟩
 .cases h
 .cases x<;>cases h
 .cases x<;>try cases h
  cases y<;>try cases h
  rename_i k a k' c;unfold oc at h ⊢;dsimp only at h ⊢;by_cases e:k=k'
  .rw[ah e]at h;refine⟨(od h).1,fun nx' l'=>?_⟩;rw[ah e];exact(od h).2 nx' l'
  .rw[af e]at h;cases h
 .cases x<;>try cases h
  cases y<;>cases h
def EQ{call:eP}(k:vC call){o:Oper}{te:TE}{nx:Nat}{l:EL}{r:XV×Nat×EL}(a:gG o.op=0)(h:BX call o te nx l=some r):r.2=(nx,l)/\∀nx' l',BX call o te nx' l'=some (r.1,nx',l'):=by
 unfold BX at h ⊢
 cases m:o.op<;>rw[m]at h a<;>(try (simp[gG]at a;done))
 case move x=>exact od h
 case assign x=>exact od h
 case pick c x y =>
  dsimp only at h ⊢
  cases e:lr te c<;>rw[e]at h<;>try cases h
  exact⟨rfl,fun _ _=>rfl⟩
 case build t ps=>exact mI _ h
 case nilCheck x =>
  dsimp only at h ⊢
  cases e:lr te x<;>rw[e]at h<;>first|exact od h|cases h
 case binOp op t x y _=>exact mI _ h
 case unOp op t x=>exact mI _ h
 case convert s d x=>exact mI _ h
 case makeFunc f fi cs =>
  cases f<;>dsimp only at h ⊢<;>try cases h
  generalize fi.toList=F at h ⊢;generalize cs.toList=C at h ⊢
  cases F with
  | nil=>exact od h
  | cons x F=>cases C with
   | nil=>exact od h
   | cons _ _=>cases h
 case slice t x lo n mx=>exact mI _ h
 case fieldAddr t x f=>exact mI _ h
 case indexAddr t x i=>exact mI _ h
 case index t x i=>exact mI _ h
 case extract x i =>
  dsimp only at h ⊢
  cases e:lr te x<;>rw[e]at h<;>first|exact mI _ h|cases h
 case call c =>
  dsimp only at h ⊢;simp only[gG]at a
  cases e:c.callee with
  | value f =>
   rw[e]at h a;dsimp only at h ⊢
   cases f with
   | func g =>
    dsimp only[lr]at h ⊢;by_cases j:Cm g=true
    .exact k _ _ _ _ _ j h
    .simp only[j]at a;cases a
   | tmp t=>cases a
   | const v=>cases a
   | global g=>cases a
  | builtin b =>
   rw[e]at h a;dsimp only at h ⊢
   cases b<;>first|(cases a;done)|exact Ms h|exact Mq h
  | _=>rw[e]at a;cases a
def GT{x:XV}(h:xt t x l=some v)(a:∀i X,eW l i=some (some X)->eW l' i=some (some X)):xt t x l'=some v:=by
 unfold xt at h ⊢;split at h
 .exact h
 .rename_i es i c;split at h
  .rename_i X b;rw[a i X b];exact h
  .cases h
 .cases h
def tz(c:Go.Call):gG (.call c)=0∨gG (.call c)=3∨gG (.call c)=4:=by
 simp only[gG]
 cases d:c.callee with
 | value f =>
  cases f with
  | func g=>dsimp only;by_cases a:Cm g=true<;>simp[a]
  | tmp t=>simp
  | const v=>simp
  | global g=>simp
 | builtin b=>cases b<;>simp
 | _=>simp
def ES{call:eP}(a:gG o.op=1)(h:BX call o te nx l=some r):r.2=(nx,l)/\∀nx' l',(∀i X,eW l i=some (some X)->eW l' i=some (some X))->BX call o te nx' l'=some (r.1,nx',l'):=by
 unfold BX at h ⊢
 cases b:o.op<;>rw[b]at h a<;>(try (simp[gG]at a;done))
 case load t x =>
  dsimp only at h ⊢;obtain⟨v,d,rfl⟩:=cW.1 h;exact⟨rfl,fun nx' l' e=>by rw[GT d e];rfl⟩
 case call c=>have:=tz c;omega
def No(h:uA nx l X v=some r):eW l nx=ab/\r=(v,nx+1,sU l nx (some X))/\∀l',eW l' nx=ab->uA nx l' X v=some (v,nx+1,sU l' nx (some X)):=by
 unfold uA at h;split at h
 .rename_i b
  cases h
  exact⟨b,rfl,fun l' a=>by unfold uA;rw[a]⟩
 .cases h
def Mp{call:eP}(q:gG o.op=2)(h:BX call o te nx l=some r):∃X,eW l nx=ab/\r=(r.1,nx+1,sU l nx (some X))/\∀l',eW l' nx=ab->BX call o te nx l'=some (r.1,nx+1,sU l' nx (some X)):=by
 have key:∀(f:EL->XR),f l=some r->(∃X v,∀l',f l'=uA nx l' X v)->∃X,eW l nx=ab/\r=(r.1,nx+1,sU l nx (some X))/\∀l',eW l' nx=ab->f l'=some (r.1,nx+1,sU l' nx (some X)):=by
  rintro f s ⟨X,v,u⟩;rw[u]at s;obtain⟨d,rfl,i⟩:=No s;exact⟨X,d,rfl,fun l' j=>by rw[u];exact i l' j⟩
 unfold BX at h ⊢
 cases A:o.op<;>rw[A]at h q<;>(try (simp[gG]at q;done))
 case alloc t =>
  refine key (fun l=>zn t nx l) h ?_;dsimp only at h;unfold zn at h ⊢
  cases d:zE t with
  | some p=>exact⟨_,_,fun _=>rfl⟩
  | none =>
   rw[d]at h
   cases g:zA t with
   | some p=>exact⟨_,_,fun _=>rfl⟩
   | none=>rw[g]at h;cases h
 case box t x =>
  refine key (fun l=>MB t (lr te x) nx l) h ?_;dsimp only at h;unfold MB at h ⊢
  cases d:fD t with
  | none=>rw[d]at h;cases h
  | some p =>
   obtain⟨es,k⟩:=p;rw[d]at h;dsimp only at h ⊢
   cases g:ap k 1 with
   | true =>
    rw[g]at h;dsimp only at h ⊢
    cases i:oA es (lr te x)with
    | true=>exact⟨_,_,fun _=>rfl⟩
    | false=>rw[i]at h;cases h
   | false =>
    rw[g]at h;dsimp only at h ⊢
    cases i:lr te x<;>rw[i]at h<;>dsimp only at h<;>try cases h
    rename_i L
    cases w:(ap L.length k&&ow es L)with
    | true=>exact⟨_,_,fun _=>by dsimp only;rw[w]⟩
    | false=>rw[w]at h;cases h
 case buildSlice t n ps =>
  refine key (fun l=>mO t n (ps.toList.map fun p=>(p.1,lr te p.2)) nx l) h ?_;dsimp only at h;generalize (ps.toList.map fun p=>(p.1,lr te p.2))=qs at *;unfold mO at h ⊢
  cases d:dY t with
  | none=>rw[d]at h;cases h
  | some e =>
   rw[d]at h;dsimp only at h ⊢
   cases g:(rA 0 qs&&ap qs.length n&&jH n 16&&(zE e).isSome&&ow (cg e) (qs.map (·.2)))with
   | true=>exact⟨_,_,fun _=>rfl⟩
   | false=>rw[g]at h;cases h
 case makeSlice t x y =>
  refine key (fun l=>ET t (lr te x) (lr te y) nx l) h ?_;dsimp only at h;generalize lr te x=a at *;generalize lr te y=b at *;unfold ET at h ⊢;split at h
  .rename_i e n m B;split at h
   .rename_i es z C;split at h
    .rename_i g;exact⟨⟨e,es,List.replicate n z⟩,.sl es nx 0 n,fun l'=>by simp only[]⟩
    .cases h
   .cases h
  .cases h
 case call c=>have:=tz c;omega
end

noncomputable section
mutual
def pB:XV->Bool
 | .sl ..=>false
 | .ptr ..=>false
 | .lst _ l=>mj l
 | .pat _ x=>pB x
 | .tup l=>mj l
 | .agg l=>mj l
 | .fn _ l=>mj l
 | .int ..=>true
 | .bool _=>true
 | .big _=>true
 | .nil=>true
 | .any=>true
 | .nfn=>true
 | .mfn _ l=>mj l
def mj:List XV->Bool
 | []=>true
 | x::l=>pB x&&mj l
end
mutual
theorem tS{φ ψ:Ph}:∀(x:XV) (a:AV),pB x=true->ER φ x a->ER ψ x a
 | .int ..,_,_,e=>by simpa [ER]using e
 | .bool _,_,_,e=>by simpa [ER]using e
 | .big _,_,_,e=>by simpa [ER]using e
 | .nil,_,_,e=>by simpa [ER]using e
 | .sl ..,_,h,_=>by simp[pB]at h
 | .ptr ..,_,h,_=>by simp[pB]at h
 | .lst _ l,_,h,e=>by
  simp only[ER,pB]at e h ⊢;obtain⟨g,b,c⟩:=e;exact⟨g,b,B8 l g 0 h c⟩
 | .pat _ x,_,h,e=>by
  simp only[ER,pB]at e h ⊢;obtain⟨y,b,c⟩:=e;exact⟨y,b,tS x y h c⟩
 | .tup l,_,h,e=>by
  simp only[ER,pB]at e h ⊢;obtain⟨r,b,c⟩:=e;exact⟨r,b,nS l r h c⟩
 | .agg l,_,h,e=>by
  simp only[ER,pB]at e h ⊢;obtain⟨r,b,c⟩:=e;exact⟨r,b,nS l r h c⟩
 | .fn _ l,_,h,e=>by
  simp only[ER,pB]at e h ⊢;obtain⟨r,b,c⟩:=e;exact⟨r,b,nS l r h c⟩
 | .any,_,_,_=>by simp[ER]
 | .nfn,_,_,e=>by simpa [ER]using e
 | .mfn _ l,_,h,e=>by
  simp only[pB]at h;simp only[ER]at e ⊢;obtain⟨r,b,c⟩:=e;exact⟨r,b,nS l r h c⟩
theorem nS{φ ψ:Ph}:∀(l:List XV) (r:List AV),mj l=true->fO φ l r->fO ψ l r
 | [],[],_,_=>by simp[fO]
 | x::l,a::r,h,e=>by
  simp only[fO,mj,ay]at e h ⊢;exact⟨tS x a h.1 e.1,nS l r h.2 e.2⟩
 | [],_::_,_,e=>by simp[fO]at e
 | _::_,[],_,e=>by simp[fO]at e
theorem B8{φ ψ:Ph}:∀(l:List XV) (g:Nat->AV) (k:Nat),mj l=true->l0 φ l g k->l0 ψ l g k
 | [],_,_,_,_=>by simp[l0]
 | x::l,g,k,h,e=>by
  simp only[l0,mj,ay]at e h ⊢;exact⟨tS x _ h.1 e.1,B8 l g (k+1) h.2 e.2⟩
end
def Ph.on(φ ψ:Ph):Ph:=fun i=>match φ i with
 | some _=>ψ i
 | ab=>ab
def Ph.on_le(h:φ.le ψ):φ.le (φ.on ψ):=fun i b e=>by
 unfold Ph.on;rw[e];exact h i b e
mutual
theorem OP{φ ψ:Ph}:∀(x:XV) (m a:AV),ER φ x m->ER ψ x a->ER (φ.on ψ) x a
 | .int ..,_,_,_,e=>by simpa [ER]using e
 | .bool _,_,_,_,e=>by simpa [ER]using e
 | .big _,_,_,_,e=>by simpa [ER]using e
 | .nil,_,_,_,e=>by simpa [ER]using e
 | .sl ..,_,_,h,e=>by
  simp only[ER]at e h ⊢;obtain⟨n,c,_⟩:=h;obtain⟨b,j,k⟩:=e;exact⟨b,by unfold Ph.on;rw[c];exact j,k⟩
 | .ptr ..,_,_,h,e=>by
  simp only[ER]at e h ⊢;obtain⟨n,c,_⟩:=h;obtain⟨b,j,k⟩:=e;exact⟨b,by unfold Ph.on;rw[c];exact j,k⟩
 | .lst _ l,_,_,h,e=>by
  simp only[ER]at e h ⊢;obtain⟨o,_,f⟩:=h;obtain⟨g,c,d⟩:=e;exact⟨g,c,I3 l o g 0 f d⟩
 | .pat _ x,_,_,h,e=>by
  simp only[ER]at e h ⊢;obtain⟨p,_,f⟩:=h;obtain⟨y,c,d⟩:=e;exact⟨y,c,OP x p y f d⟩
 | .tup l,_,_,h,e=>by
  simp only[ER]at e h ⊢;obtain⟨i,_,f⟩:=h;obtain⟨r,c,d⟩:=e;exact⟨r,c,Be l i r f d⟩
 | .agg l,_,_,h,e=>by
  simp only[ER]at e h ⊢;obtain⟨i,_,f⟩:=h;obtain⟨r,c,d⟩:=e;exact⟨r,c,Be l i r f d⟩
 | .fn _ l,_,_,h,e=>by
  simp only[ER]at e h ⊢;obtain⟨i,_,f⟩:=h;obtain⟨r,c,d⟩:=e;exact⟨r,c,Be l i r f d⟩
 | .any,_,_,_,_=>by simp[ER]
 | .nfn,_,_,_,e=>by simpa [ER]using e
 | .mfn _ l,_,_,h,e=>by
  simp only[ER]at h e ⊢;obtain⟨i,c,d⟩:=h;obtain⟨r,j,k⟩:=e;exact⟨r,j,Be l i r d k⟩
theorem Be{φ ψ:Ph}:∀(l:List XV) (b r:List AV),fO φ l b->fO ψ l r->fO (φ.on ψ) l r
 | [],_,[],_,_=>by simp[fO]
 | x::l,c::b,a::r,h,e=>by
  simp only[fO]at e h ⊢;exact⟨OP x c a h.1 e.1,Be l b r h.2 e.2⟩
 | _::_,[],_,h,_=>by simp[fO]at h
 | [],_,_::_,_,e=>by simp[fO]at e
 | _::_,_,[],_,e=>by simp[fO]at e
theorem I3{φ ψ:Ph}:∀(l:List XV) (a g:Nat->AV) (k:Nat),l0 φ l a k->l0 ψ l g k->l0 (φ.on ψ) l g k
 | [],_,_,_,_,_=>by simp[l0]
 | x::l,a,g,k,h,e=>by
  simp only[l0]at e h ⊢;exact⟨OP x _ _ h.1 e.1,I3 l a g (k+1) h.2 e.2⟩
end
def MR.back{S':St}(h:MR φ l S)(d:φ.le ψ)(h':MR ψ l' S')(f:∀i X,eW l i=some (some X)->eW l' i=some (some X)):φ.le (φ.on ψ)/\MR (φ.on ψ) l S':=by
 have sub:∀i b,φ.on ψ i=some b->ψ i=some b:=fun i b e=>by
  unfold Ph.on at e
  cases m:φ i with
  | none=>rw[m]at e;cases e
  | some c=>rw[m]at e;exact e
 refine⟨Ph.on_le d,fun i a=>?_,fun i X a=>?_,fun i j X Y b a n ei ej=>?_⟩
 .unfold Ph.on;rw[h.dom i a]
 .obtain⟨t,u,o,_,p⟩:=h.live i X a;have k:eW l' i=some (some X):=f _ _ a;obtain⟨b,g,q,r,s⟩:=h'.live i X k;exact⟨b,g,by unfold Ph.on;rw[o];exact q,r,I3 _ _ _ _ p s⟩
 .exact h'.inj i j X Y b (f _ _ a) (f _ _ n) (sub i b ei) (sub j b ej)
def Pe{call:eP}(d:nE call){o:Oper}{te:TE}{nx:Nat}{l:EL}{v:XV}{nx':Nat}{l':EL}(h:BX call o te nx l=some (v,nx',l'))(e:pB v=true)(f:∀i X,eW l i=some (some X)->eW l' i=some (some X)){φ:Ph}(g:GP φ){O:Tm}{S:St}(j:TR φ te O)(c:MR φ l S){K:AV->St->Prop}(k:XK φ v l K):AP o O S K:=by
 refine CZ d h g j c fun ψ z S' a m b=>?_;obtain⟨n,p⟩:=c.back a b f;exact k _ z S' n (tS v z e m) p
end

noncomputable section
mutual
def md:XV->XV->Bool
 | .int k n,.int k' n'=>decide (k=k')&&decide (n=n')
 | .bool b,.bool c=>decide (b=c)
 | .big z,.big z'=>decide (z=z')
 | .nil,.nil=>true
 | .any,.any=>true
 | .nfn,.nfn=>true
 | .mfn a l,.mfn a' l'=>ap a a'&&oC l l'
 | .sl a b c d,.sl a' b' c' d'=>ap a a'&&ap b b'&&ap c c'&&ap d d'
 | .ptr a b c,.ptr a' b' c'=>ap a a'&&ap b b'&&ap c c'
 | .lst a l,.lst a' l'=>ap a a'&&oC l l'
 | .pat a x,.pat a' x'=>ap a a'&&md x x'
 | .tup l,.tup l'=>oC l l'
 | .agg l,.agg l'=>oC l l'
 | .fn a l,.fn a' l'=>ap a a'&&oC l l'
 | _,_=>false
def oC:List XV->List XV->Bool
 | [],[]=>true
 | x::l,y::r=>md x y&&oC l r
 | _,_=>false
end
mutual
theorem AJ:∀(x y:XV),md x y=true->x=y
 | .int ..,y,h=>by
  cases y<;>simp only[md,ay,dj,bK]at h
  rw[h.1,h.2]
 | .bool _,y,h=>by
  cases y<;>simp only[md,dj,bK]at h
  rw[h]
 | .big _,y,h=>by
  cases y<;>simp only[md,dj,bK]at h
  rw[h]
 | .nil,y,h=>by cases y<;>simp only[md,bK]at h;rfl
 | .any,y,h=>by cases y<;>simp only[md,bK]at h;rfl
 | .nfn,y,h=>by cases y<;>simp only[md,bK]at h;rfl
 | .sl ..,y,h=>by
  cases y<;>simp only[md,ay,bK]at h
  rw[ak h.1.1.1,ak h.1.1.2,ak h.1.2,ak h.2]
 | .ptr ..,y,h=>by
  cases y<;>simp only[md,ay,bK]at h
  rw[ak h.1.1,ak h.1.2,ak h.2]
 | .lst _ l,y,h=>by
  cases y<;>simp only[md,ay,bK]at h
  rw[ak h.1,mz l _ h.2]
 | .pat _ x,y,h=>by
  cases y<;>simp only[md,ay,bK]at h
  rw[ak h.1,AJ x _ h.2]
 | .tup l,y,h=>by
  cases y<;>simp only[md,bK]at h
  rw[mz l _ h]
 | .agg l,y,h=>by
  cases y<;>simp only[md,bK]at h
  rw[mz l _ h]
 | .mfn _ l,y,h=>by
  cases y<;>simp only[md,ay,bK]at h
  rw[ak h.1,mz l _ h.2]
 | .fn _ l,y,h=>by
  cases y<;>simp only[md,ay,bK]at h
  rw[ak h.1,mz l _ h.2]
theorem mz:∀(l r:List XV),oC l r=true->l=r
 | [],[],_=>rfl
 | x::l,y::r,h=>by
  simp only[oC,ay]at h;rw[AJ x y h.1,mz l r h.2]
 | [],_::_,h=>by simp[oC]at h
 | _::_,[],h=>by simp[oC]at h
end
def KL:Option (Option EB)->Option (Option EB)->Bool
 | some (some X),some (some Y)=>ap X.ty Y.ty&&ap X.es Y.es&&oC X.l Y.l
 | some (some _),_=>false
 | _,_=>true
def Py(s:EL):EL->Bool:=EL.rec (motive:=fun _=>EL->Bool) (fun _=>true) (fun _=>true) (fun x _ _ a b s'=>match s' with
 | .n y l r=>KL x y&&(a l&&b r)
 | _=>false) s
def Px{x:Option (Option EB)}(h:KL x y=true){X:EB}(d:x=some (some X)):y=some (some X):=by
 subst d
 match y,h with
 | some (some Y),h =>
  simp only[KL,ay]at h;obtain⟨ty,es,l⟩:=X;obtain⟨ty',es',l'⟩:=Y;obtain⟨⟨a,b⟩,c⟩:=h;dsimp only at a b c;rw[ak a,ak b,mz _ _ c]
 | some ab,h=>simp[KL]at h
 | ab,h=>simp[KL]at h
theorem Dg:∀(s s':EL),Py s s'=true->∀i X,eW s i=some (some X)->eW s' i=some (some X)
 | .e,_,_,i,X,h=>by rw[Ac]at h;cases h
 | .d,_,_,i,X,h=>by rw[H7]at h;cases h
 | .n x l r,.n y l' r',a,i,X,h=>by
  change (KL x y&&(Py l l'&&Py r r'))=true at a;simp only[ay]at a;rw[kl]at h ⊢;split
  .rename_i b;rw[ah b]at h;exact Px a.1 h
  .rename_i b;rw[af b]at h;split
   .rename_i c;rw[ah c]at h;exact Dg l l' a.2.1 _ X h
   .rename_i c;rw[af c]at h;exact Dg r r' a.2.2 _ X h
 | .n _ _ _,.e,a,_,_,_=>by cases a
 | .n _ _ _,.d,a,_,_,_=>by cases a
def xk(call:eP)(o:Oper)(te:TE)(nx:Nat)(l:EL):XR:=match ap (gG o.op) 3 with
 | true=>match BX call o te nx l with
  | some (v,_,l')=>match pB v&&Py l l' with
   | true=>some (v,nx,l)
   | false=>ab
  | ab=>ab
 | false=>BX call o te nx l
def RL{call:eP}(b:nE call){o:Oper}{te:TE}{nx:Nat}{l:EL}{r:XV×Nat×EL}(h:xk call o te nx l=some r){φ:Ph}(c:GP φ){O:Tm}{S:St}(d:TR φ te O)(e:MR φ l S){K:AV->St->Prop}(f:XK φ r.1 r.2.2 K):AP o O S K:=by
 unfold xk at h;split at h
 .split at h
  .rename_i v nx' l' g;split at h
   .rename_i a
    cases h
    simp only[ay]at a;exact Pe b g a.1 (Dg _ _ a.2) c d e f
   .cases h
  .cases h
 .exact CZ b h c d e f
def EZ{call:eP}(h:GH te te' (Ds o.op)):xk call o te nx l=xk call o te' nx l:=by
 unfold xk;rw[Ku h]
def wE(ops:Array Oper)(te:TE)(j:Nat):XV:=match (ops[j]?).bind (·.dst)with
 | some d=>kg te d
 | ab=>.any
def xg(call:eP)(ops:Array Oper)(o:Oper)(te:TE)(nx:Nat)(l:EL):XR:=match o.guard with
 | ab=>xk call o te nx l
 | some (j,want)=>match wE ops te j with
  | .bool b=>if b=want then xk call o te nx l else some (.any,nx,l)
  | _=>ab
def ro(ops:Array Oper)(o:Oper):List Nat:=(match o.guard with
 | ab=>[]
 | some (j,_)=>(match (ops[j]?).bind (·.dst)with
  | some d=>[d]
  | ab=>[]))++Ds o.op
def xg_ok{call:eP}(n:nE call){ops:Array Oper}{o:Oper}{te:TE}{nx:Nat}{l:EL}{r:XV×Nat×EL}(h:xg call ops o te nx l=some r){φ:Ph}(q:GP φ){O:Tm}{S:St}(a:TR φ te O)(c:MR φ l S){K:Tm->St->Prop}
  (f:∀ψ z S',φ.le ψ->ER ψ r.1 z->MR ψ r.2.2 S'->K (O.put o.dst z) S'):Ed ops o O S K:=by
 unfold xg at h;unfold Ed
 cases s:o.guard with
 | none =>
  rw[s]at h;exact RL n h q a c fun ψ z S' g i k=>f ψ z S' g i k
 | some p =>
  obtain⟨j,want⟩:=p;rw[s]at h;dsimp only at h ⊢;have m:ER φ (wE ops te j) (EG ops O j):=by
   unfold wE EG
   cases (ops[j]?).bind (·.dst)with
   | none=>simp[ER]
   | some d=>exact a d
  cases t:wE ops te j<;>rw[t]at h<;>try cases h
  rename_i b;rw[t]at m;simp only[ER]at m;rw[m];dsimp only at h ⊢;refine⟨fun e=>?_,fun e=>?_⟩
  .rw[ah e]at h;exact RL n h q a c fun ψ z S' g i k=>f ψ z S' g i k
  .rw[af (by rw[e];cases want<;>simp)]at h
   cases h
   exact f φ .any S (Ph.le_refl _) (by simp[ER]) c
def Mv{call:eP}(h:GH te te' (ro ops o)):xg call ops o te nx l=xg call ops o te' nx l:=by
 unfold xg;unfold ro at h
 cases b:o.guard with
 | none=>exact EZ h.right
 | some p =>
  obtain⟨j,want⟩:=p;rw[b]at h;dsimp only;have e:wE ops te j=wE ops te' j:=by
   unfold wE;have a:=h.left;dsimp only at a
   cases c:(ops[j]?).bind (·.dst)with
   | none=>rfl
   | some d=>rw[c]at a;exact a d (Vd.2 rfl)
  rw[e,EZ h.right]
end

noncomputable section
theorem JQ(te:TE):∀R:List Nat,∃te',∀t,kg te' t=if t∈R then kg te t else .any
 | []=>⟨.e,fun t=>by simp[tj]⟩
 | s::R=>by
  obtain⟨te',h⟩:=JQ te R;refine⟨zC te' s (kg te s),fun t=>?_⟩;rw[mR,h];by_cases e:t=s
  .subst e;simp
  .rw[af e];simp[e]
def zf{call:eP}(b:nE call){ops:Array Oper}{o:Oper}{te:TE}{nx:Nat}{l:EL}{r:XV×Nat×EL}(h:xg call ops o te nx l=some r){φ:Ph}(c:GP φ){O:Tm}{S:St}(a:∀t∈ro ops o,ER φ (kg te t) (O t))(d:MR φ l S){K:Tm->St->Prop}
  (f:∀ψ z S',φ.le ψ->ER ψ r.1 z->MR ψ r.2.2 S'->K (O.put o.dst z) S'):Ed ops o O S K:=by
 obtain⟨te',h'⟩:=JQ te (ro ops o);rw[Mv (te':=te') (fun t a=>by rw[h',ah a])]at h
 refine xg_ok b h c (fun t=>?_) d f;rw[h'];by_cases e:t∈ro ops o
 .rw[ah e];exact a t e
 .rw[af e];simp[ER]
def bit(m k:Nat):Bool:=jw m k
def li(cls:List Nat)(i k:Nat):Bool:=bit (cls.getD i 0) k
def oH(ops:Array Oper)(i:Nat):Nat:=match ops[i]? with
 | some o=>gG o.op
 | ab=>0
def BE(ops:Array Oper)(i:Nat):Option Nat:=(ops[i]?).bind (·.dst)
def comp(cls:List Nat)(i j:Nat):Bool:=li cls i j||li cls j i
structure qK(ops:Array Oper)(cls:List Nat)(alts:Nat->List Nat):Prop where
 aft:CL ops=true
 cl:∀i o k,ops[i]? = some o->li cls i k=true->∃j∈Go.Proofs.YtdobfmlmenaajaaGreatDoor.aft o,j=k∨li cls j k=true
 dst:∀i j d,BE ops i=some d->BE ops j=some d->i=j
 reads:∀i o t k,ops[i]? = some o->t∈ro ops o->k≠i->BE ops k=some t->comp cls i k=true
 four:∀i j,i≠j->oH ops i=4->2<=oH ops j->comp cls i j=true
 three:∀i j,oH ops i=3->oH ops j=2->comp cls i j=true
 guard:∀(i:Nat) (o:Oper),ops[i]? = some o->gG o.op=2->o.guard=ab
 altW:∀i w,oH ops i=1->oH ops w=4->comp cls i w=false->w+1∈alts i
 altA:∀i,oH ops i=1->∃a∈alts i,a<=i/\(∀w,oH ops w=4->li cls i w=true->w<a)/\∀k,k<a->2<=oH ops k->oH ops k≠3->li cls i k=true
structure rS(call:eP)(ops:Array Oper)(T:Nat->TE)(N:Nat->Nat)(M:Nat->EL)(V:Nat->XV):Prop where
 step:∀i o,ops[i]? = some o->xg call ops o (T i) (N i) (M i)=some (V i,N (i+1),M (i+1))
 put:∀i o t,ops[i]? = some o->kg (T (i+1)) t=if o.dst=some t then V i else kg (T i) t
def rS.get{call:eP}(h:rS call ops T N M V){cls:List Nat}{alts:Nat->List Nat}(j:qK ops cls alts) :
  ∀i,i<=ops.size->∀t,(∀k,k<i->BE ops k=some t->kg (T i) t=V k)/\((∀k,k<i->BE ops k≠some t)->kg (T i) t=kg (T 0) t):=by
 intro i
 induction i with
 | zero=>intro _ t;exact⟨fun k d=>om,fun _=>rfl⟩
 | succ i ih =>
  intro p t;obtain⟨o,f⟩:∃o,ops[i]? = some o:=⟨ops[i],cF om⟩;have b:=h.put i o t f;have c:BE ops i=o.dst:=by unfold BE;rw[f];rfl
  obtain⟨l,m⟩:=ih om t;refine⟨fun k d a=>?_,fun g=>?_⟩
  .by_cases e:k=i
   .subst e;rw[b,ah (by rw[<-c];exact a)]
   .rw[b,af (fun n=>e (j.dst k i t a (by rw[c];exact n)))]
    exact l k om a
  .rw[b,af (by rw[<-c];exact g i om)]
   exact m fun k d=>g k om
def sI{call:eP}(a:gG o.op≠3):xk call o te nx l=BX call o te nx l:=by
 unfold xk;rw[TP a]
def Jb{call:eP}(d:vC call){ops:Array Oper}{o:Oper}{te:TE}{nx:Nat}{l:EL}{r:XV×Nat×EL}(f:gG o.op=0)(h:xg call ops o te nx l=some r):r.2=(nx,l)/\∀nx' l',xg call ops o te nx' l'=some (r.1,nx',l'):=by
 unfold xg at h ⊢
 cases g:o.guard with
 | none =>
  rw[g]at h;dsimp only at h ⊢;rw[sI om]at h;obtain⟨a,c⟩:=EQ d f h;exact⟨a,fun nx' l'=>by rw[sI om];exact c nx' l'⟩
 | some p =>
  obtain⟨j,want⟩:=p;rw[g]at h;dsimp only at h ⊢
  cases i:wE ops te j<;>rw[i]at h<;>try cases h
  rename_i b;dsimp only at h ⊢;by_cases e:b=want
  .rw[ah e,sI om]at h;obtain⟨a,c⟩:=EQ d f h;exact⟨a,fun nx' l'=>by rw[ah e,sI om];exact c nx' l'⟩
  .rw[af e]at h
   cases h
   exact⟨rfl,fun nx' l'=>by rw[af e]⟩
def tQ{call:eP}(f:gG o.op=1)(h:xg call ops o te nx l=some r):r.2=(nx,l)/\∀nx' l',(∀i X,eW l i=some (some X)->eW l' i=some (some X))->xg call ops o te nx' l'=some (r.1,nx',l'):=by
 unfold xg at h ⊢
 cases g:o.guard with
 | none =>
  rw[g]at h;dsimp only at h ⊢;rw[sI om]at h;obtain⟨a,c⟩:=ES f h;exact⟨a,fun nx' l' d=>by rw[sI om];exact c nx' l' d⟩
 | some p =>
  obtain⟨j,want⟩:=p;rw[g]at h;dsimp only at h ⊢
  cases k:wE ops te j<;>rw[k]at h<;>try cases h
  rename_i b;dsimp only at h ⊢;by_cases e:b=want
  .rw[ah e,sI om]at h;obtain⟨a,c⟩:=ES f h;exact⟨a,fun nx' l' d=>by rw[ah e,sI om];exact c nx' l' d⟩
  .rw[af e]at h
   cases h
   exact⟨rfl,fun nx' l' _=>by rw[af e]⟩
def SM{call:eP}(a:gG o.op=3)(h:xg call ops o te nx l=some r):r.2=(nx,l):=by
 have key:∀{r},xk call o te nx l=some r->r.2=(nx,l):=fun {r} h=>by
  unfold xk at h;split at h
  .split at h
   .split at h
    .cases h;rfl
    .cases h
   .cases h
  .rename_i e;rw[a]at e;cases e
 unfold xg at h;split at h
 .exact key h
 .split at h
  .split at h
   .exact key h
   .cases h;rfl
  .cases h
def Pj{call:eP}(b:o.guard=ab)(c:gG o.op=2)(h:xg call ops o te nx l=some r):∃X,eW l nx=ab/\r=(r.1,nx+1,sU l nx (some X))/\∀l',eW l' nx=ab->xg call ops o te nx l'=some (r.1,nx+1,sU l' nx (some X)):=by
 unfold xg at h ⊢;rw[b]at h ⊢;dsimp only at h ⊢;rw[sI om]at h;obtain⟨X,d,e,f⟩:=Mp c h;exact⟨X,d,e,fun l' a=>by rw[sI om];exact f l' a⟩
end

noncomputable section
def MR.ext(h:MR φ l S)(e:∀j,eW l j=eW l' j):MR φ l' S :=
 ⟨fun i a=>h.dom i (by rw[e];exact a),fun i X a=>h.live i X (by rw[e];exact a),fun i j X Y b a c=>h.inj i j X Y b (by rw[e];exact a) (by rw[e];exact c)⟩
def Ez(ops:Array Oper)(L:Nat->Bool):Prop:=∀i o,ops[i]? = some o->L i=true->∀k∈aft o,L k=true
structure Sv(ops:Array Oper)(T:Nat->TE)(N:Nat->Nat)(M:Nat->EL)(V:Nat->XV)(φ0:Ph)(L:Nat->Bool)(O:Tm)(S:St)(φ:Ph)(s:Nat)(m:EL):Prop where
 le:φ0.le φ
 s1:s<=ops.size
 s2:∀w,oH ops w=4->L w=true->w<s
 s3:s=0∨∃w,s=w+1/\oH ops w=4/\L w=true
 t1:∀t k,L k=true->BE ops k=some t->ER φ (V k) (O t)
 t2:∀t,(∀k,L k=true->BE ops k≠some t)->ER φ (kg (T 0) t) (O t)
 mr:MR φ m S
 m1:∀k,s<=k->oH ops k=2->L k=true->eW m (N k)=eW (M (k+1)) (N k)
 m2:∀j,(∀k,s<=k->oH ops k=2->L k=true->N k≠j)->eW m j=eW (M s) j
def uI(h:ops[i]? = some o):oH ops i=gG o.op:=by unfold oH;rw[h]
def NH(h:oH ops i≠0):∃o,ops[i]? = some o/\i<ops.size:=by
 unfold oH at h
 cases a:ops[i]? with
 | none=>rw[a]at h;exact absurd rfl h
 | some o=>exact⟨o,rfl,(er.1 a).1⟩
def Fv(o:Op):gG o<=4:=by
 cases o<;>try (simp[gG];done)
 case call c=>have:=tz c;omega
def rS.still{call:eP}(c:vC call){ops:Array Oper}{T:Nat->TE}{N:Nat->Nat}{M:Nat->EL}{V:Nat->XV}(h:rS call ops T N M V){i:Nat}{o:Oper}(b:ops[i]? = some o)(d:oH ops i≠2)(f:oH ops i≠4):N (i+1)=N i/\M (i+1)=M i:=by
 have a:=h.step i o b;rw[uI b]at d f;have g:=Fv o.op;have:((N (i+1),M (i+1)):Nat×EL)=(N i,M i):=by
  rcases (om:gG o.op=0∨gG o.op=1∨gG o.op=3)with e|e|e
  .exact(Jb c e a).1
  .exact(tQ e a).1
  .exact SM e a
 exact⟨jA Prod.fst this,jA Prod.snd this⟩
def rS.make{call:eP}(d:qK ops cls alts){T:Nat->TE}{N:Nat->Nat}{M:Nat->EL}{V:Nat->XV}(h:rS call ops T N M V){i:Nat}{o:Oper}(a:ops[i]? = some o)(b:oH ops i=2) :
  eW (M i) (N i)=ab/\N (i+1)=N i+1/\∃X,M (i+1)=sU (M i) (N i) (some X)/\∀l',eW l' (N i)=ab->xg call ops o (T i) (N i) l'=some (V i,N i+1,sU l' (N i) (some X)):=by
 have c:=h.step i o a;rw[uI a]at b;obtain⟨X,f,g,j⟩:=Pj (d.guard i o a b) b c;have e:=jA Prod.snd g;exact⟨f,jA Prod.fst e,X,jA Prod.snd e,j⟩
def rS.seg{call:eP}(u:vC call){ops:Array Oper}{cls:List Nat}{alts:Nat->List Nat}(v:qK ops cls alts){T:Nat->TE}{N:Nat->Nat}{M:Nat->EL}{V:Nat->XV}(h:rS call ops T N M V){s:Nat}:∀i,s<=i->i<=ops.size->(∀w,s<=w->w<i->oH ops w≠4) ->
  N s<=N i/\(∀k,s<=k->k<i->oH ops k=2->N k<N i/\eW (M i) (N k)=eW (M (k+1)) (N k)/\eW (M s) (N k)=ab)/\∀j,(∀k,s<=k->k<i->oH ops k=2->N k≠j)->eW (M i) j=eW (M s) j:=by
 intro i
 induction i with
 | zero =>
  intro x _ _;obtain rfl:s=0:=om
  exact⟨ae _,fun k _ d=>om,fun j _=>rfl⟩
 | succ i ih =>
  intro x B p;by_cases e:s=i+1
  .subst e;exact⟨ae _,fun k a b=>om,fun j _=>rfl⟩
  obtain⟨y,g,l⟩:=ih om om (fun w a b=>p w a om);obtain⟨o,q⟩:∃o,ops[i]? = some o:=⟨ops[i],cF om⟩;by_cases d:oH ops i=2
  .obtain⟨m,r,X,t,_⟩:=h.make v q d;refine⟨om,fun k a b c=>?_,fun j f=>?_⟩
   .by_cases ek:k=i
    .subst ek;refine⟨om,rfl,?_⟩
     rw[<-l (N k) (fun k' a' b' c'=>by have:=(g k' a' b' c').1;omega)];exact m
    .obtain⟨C,z,A⟩:=g k a om c;refine⟨om,?_,A⟩
     rw[t,fW,af om];exact z
   .rw[t,fW,af (fun n=>f i om om d n.symm)];exact l j fun k a b c=>f k a om c
  .obtain⟨m,r⟩:=h.still u q d (p i om om);rw[m,r];refine⟨y,fun k a b c=>?_,fun j f=>l j fun k a b c=>f k a om c⟩;have ek:k≠i:=fun n=>by subst n;exact d c
   exact g k a om c
def Ox(h:CL ops=true){i:Nat}{o:Oper}(a:ops[i]? = some o){k:Nat}(b:k∈aft o):k<i:=by
 have c:=aE.1 h (o,i) (mG (by simpa using a))
 have d:=aE.1 c k b;simpa using d
def xT(b:qK ops cls alts):∀(i:Nat),i<ops.size->∀k,li cls i k=true->k<i:=by
 intro i
 induction i using jf with
 | ind i ih =>
  intro d k f;have c:ops[i]? = some ops[i]:=cF d;obtain⟨j,g,e⟩:=b.cl i _ k c f;have a:=Ox b.aft c g;rcases e with rfl|e
  .exact a
  .have:=ih j a om k e;omega
def QV(c:qK ops cls alts){L:Nat->Bool}(d:∀i,L i=true->i<ops.size)(h:Ez ops L):∀(x:Nat),L x=true->∀k,li cls x k=true->L k=true:=by
 intro x
 induction x using jf with
 | ind x ih =>
  intro a k l;obtain⟨o,b⟩:∃o,ops[x]? = some o:=⟨ops[x]'(d x a),cF (d x a)⟩;obtain⟨j,f,e⟩:=c.cl x _ k b l;have g:=h x _ b a j f;rcases e with rfl|e
  .exact g
  .exact ih j (Ox c.aft b f) g k e
def tn(l:qK ops cls alts){te:TE}{V:Nat->XV}{L:Nat->Bool}{O:Tm}{φ ψ:Ph}(c:φ.le ψ){i:Nat}{o:Oper}(m:ops[i]? = some o){z:AV}(n:ER ψ (V i) z)
  (p:∀t k,L k=true->BE ops k=some t->ER φ (V k) (O t)) (q:∀t,(∀k,L k=true->BE ops k≠some t)->ER φ (kg te t) (O t)) :
  (∀t k,(if k=i then true else L k)=true->BE ops k=some t->ER ψ (V k) (O.put o.dst z t))/\∀t,(∀k,(if k=i then true else L k)=true->BE ops k≠some t)->ER ψ (kg te t) (O.put o.dst z t):=by
 have g:BE ops i=o.dst:=by unfold BE;rw[m];rfl
 have a:∀t,O.put o.dst z t=if o.dst=some t then z else O t:=fun t=>by
  cases r:o.dst with
  | none=>rw[M8];simp
  | some d =>
   by_cases e:t=d
   .subst e;rw[PP];simp
   .rw[M9 e,af (fun h=>e (jS h).symm)]
 refine⟨fun t k f b=>?_,fun t j=>?_⟩
 .rw[a];by_cases e:k=i
  .subst e;rw[ah (by rw[<-g];exact b)];exact n
  .rw[af (fun h=>e (l.dst k i t b (by rw[g];exact h)))]
   rw[af e]at f;exact(p t k f b).mono c
 .rw[a,af (by rw[<-g];exact j i sm)]
  exact(q t fun k f=>j k (by by_cases e:k=i<;>simp[e,f])).mono c
def M4{call:eP}(a:qK ops cls alts){T:Nat->TE}{N:Nat->Nat}{M:Nat->EL}{V:Nat->XV}(h:rS call ops T N M V){L:Nat->Bool}{O:Tm}{φ:Ph}{i:Nat}{o:Oper}(m:ops[i]? = some o)(p:i<ops.size)(s:∀i,L i=true->i<ops.size)
  (cin:∀k,li cls i k=true->L k=true) (nin:∀k,L k=true->li cls k i=true->False)
  (q:∀t k,L k=true->BE ops k=some t->ER φ (V k) (O t)) (r:∀t,(∀k,L k=true->BE ops k≠some t)->ER φ (kg (T 0) t) (O t)) (b:L i=false) :
  ∀t∈ro ops o,ER φ (kg (T i) t) (O t):=by
 intro t n;by_cases l:∃k,L k=true/\BE ops k=some t
 .obtain⟨k,c,d⟩:=l;have f:k≠i:=fun e=>by subst e;rw[c]at b;cases b
  have g:=a.reads i o t k m n f d;unfold comp at g;rcases iw.1 g with e|e
  .rw[(h.get a i om t).1 k (xT a i p k e) d];exact q t k c d
  .exact(nin k c e).elim
 .rw[(h.get a i om t).2 fun k f j=>?_]
  .exact r t fun k c d=>l ⟨k,c,d⟩
  .have g:=a.reads i o t k m n om j;unfold comp at g;rcases iw.1 g with e|e
   .exact l ⟨k,cin k e,j⟩
   .have:=xT a k om i e;omega
def PV{call:eP}(hc:nE call)(R:vC call){ops:Array Oper}{cls:List Nat}{alts:Nat->List Nat}(l:qK ops cls alts){T:Nat->TE}{N:Nat->Nat}{M:Nat->EL}{V:Nat->XV}(h:rS call ops T N M V)
  (hl:∀(i:Nat) (o:Oper) a,ops[i]? = some o->gG o.op=1->a∈alts i->∃nx,xg call ops o (T i) nx (M a)=some (V i,nx,M a))
  {φ0:Ph} (hG:GP φ0) {O:Tm} {S:St} (ht:TR φ0 (T 0) O) (hm:MR φ0 (M 0) S) {K:Tm->St->Prop} (hK:∀ψ O' S',φ0.le ψ->TR ψ (T ops.size) O'->MR ψ (M ops.size) S'->K O' S'):awI ops O S K:=by
 refine⟨fun L O S=>(∀i,L i=true->i<ops.size)/\Ez ops L/\∃φ s m,Sv ops T N M V φ0 L O S φ s m,l.aft,?_,?_,?_⟩
 .exact⟨fun i F=>(ni F).elim,fun i o _ F=>(ni F).elim,φ0,0,M 0,Ph.le_refl _,jW _,fun w _ Q=>(ni Q).elim,bW rfl,fun t k g=>(ni g).elim,fun t _=>ht t,hm,fun k _ _ g=>(ni g).elim,fun j _=>rfl⟩
 .intro i o D L O S hP F ha;obtain⟨U,Y,φ,s,m,P⟩:=hP;have A:i<ops.size:=(er.1 D).1;have Z:=QV l U Y;have cin:∀k,li cls i k=true->L k=true:=fun k g=>by
   obtain⟨j,B,e⟩:=l.cl i o k D g;rcases e with rfl|e
   .exact ha _ B
   .exact Z j (ha j B) k e
  have nin:∀k,L k=true->li cls k i=true->False:=fun k d c=>by rw[Z k d i c]at F;cases F
  have hr:=M4 l h D A U cin nin P.t1 P.t2 F;have hGφ:=hG.mono P.le;have hst:=h.step i o D;have kk:=uI D;have G:∀k,(if k=i then true else L k)=true->k<ops.size:=fun k g=>by
   by_cases e:k=i
   .omega
   .rw[af e]at g;exact U k g
  have u:Ez ops (fun k=>if k=i then true else L k):=fun x ox hox hx k g=>by
   show(if k=i then true else L k)=true
   by_cases e:k=i
   .rw[ah e]
   .rw[af e];by_cases ex:x=i
    .subst ex;rw[D]at hox;cases hox;exact ha k g
    .have hx':(if x=i then true else L x)=true:=hx
     rw[af ex]at hx';exact Y x ox hox hx' k g
  have same:∀ψ z S',φ.le ψ->ER ψ (V i) z->MR ψ m S'->oH ops i≠2->oH ops i≠4->Sv ops T N M V φ0 (fun k=>if k=i then true else L k) (O.put o.dst z) S' ψ s m:=fun ψ z S' n H q n2 n4=>by
   obtain⟨t1,t2⟩:=tn l n D H P.t1 P.t2;refine⟨Ph.le_trans P.le n,P.s1,fun w Q I=>?_,P.s3.imp id fun⟨w,W,C,E⟩=>⟨w,W,C,by show(if w=i then true else L w)=true;rw[E];simp⟩,t1,t2,q,fun k d c f=>?_,fun j B=>P.m2 j fun k d c f=>B k d c (by show(if k=i then true else L k)=true;rw[f];simp)⟩
   .have p:(if w=i then true else L w)=true:=I
    have e:w≠i:=fun e=>by subst e;exact n4 Q
    rw[af e]at p;exact P.s2 w Q p
   .have r:(if k=i then true else L k)=true:=f
    have e:k≠i:=fun e=>by subst e;exact n2 c
    rw[af e]at r;exact P.m1 k d c r
  have hle4:=Fv o.op;have segL:∀k,s<=k->oH ops k=2->L k=true->∀w,s<=w->w<k+1->oH ops w≠4:=fun k d c f w v h5 h6=>by
   have hwk:w≠k:=fun e=>by subst e;omega
   rcases iw.1 (l.four w k hwk h6 om)with e|e
   .obtain⟨_,_,Q⟩:=NH (ops:=ops) (i:=w) om;have:=xT l w Q k e;omega
   .have:=P.s2 w h6 (Z k f w e);omega
  have sLe:2<=oH ops i->s<=i:=fun c=>by
   rcases P.s3 with e0|⟨w,W,C,E⟩
   .omega
   .have hwi:w≠i:=fun e=>by subst e;rw[E]at F;cases F
    rcases iw.1 (l.four w i hwi C c)with e|e
    .exact(nin w E e).elim
    .have:=xT l i A w e;omega
  have noW:2<=oH ops i->∀w,s<=w->w<i->oH ops w≠4:=fun c w f v h5=>by
   rcases iw.1 (l.four w i om h5 c)with e|e
   .have:=xT l w om i e;omega
   .have:=P.s2 w h5 (cin w e);omega
  have eqMi:2<=oH ops i->(∀k,oH ops k=2->comp cls i k=true)->∀j,eW m j=eW (M i) j:=fun c hcm j=>by
   have y:=sLe c;have sg:=h.seg (s:=s) R l i y om (noW c);have kIn:∀k,oH ops k=2->k<i->L k=true:=fun k g hlt=>by
    rcases iw.1 (hcm k g)with e|e
    .exact cin k e
    .have:=xT l k om i e;omega
   by_cases g:∃k,s<=k/\k<i/\oH ops k=2/\N k=j
   .obtain⟨k,d,f,v,rfl⟩:=g;rw[P.m1 k d v (kIn k v f),(sg.2.1 k d f v).2.1]
   .rw[P.m2 j fun k d f v h5=>?_,sg.2.2 j fun k d f v h5=>g ⟨k,d,f,v,h5⟩];rcases iw.1 (hcm k f)with e|e
    .exact g ⟨k,d,xT l i A k e,f,h5⟩
    .exact nin k v e
  rcases (om:gG o.op=0∨gG o.op=1∨gG o.op=2∨gG o.op=3∨gG o.op=4)with e|e|e|e|e
  .obtain⟨_,C⟩:=Jb R e hst;exact zf hc (C (N i) m) hGφ hr P.mr fun ψ z S' n H q=>⟨G,u,ψ,s,m,same ψ z S' n H q om om⟩
  .have base:∀j X,eW (M s) j=some (some X)->eW m j=some (some X):=fun j X B=>by
    rw[P.m2 j fun k d c f E=>by
     subst E;have:=((h.seg R l (k+1) om (by have:=U k f;omega) (segL k d c f)).2.1 k d om c).2.2
     rw[this]at B;cases B]
    exact B
   have hsub:∃a∈alts i,∀j X,eW (M a) j=some (some X)->eW m j=some (some X):=by
    have caseA:(∀w,s=w+1->oH ops w=4->L w=true->li cls i w=true)->∃a∈alts i,∀j X,eW (M a) j=some (some X)->eW m j=some (some X):=fun hA=>by
     obtain⟨a,ha1,ha2,ha3,ha4⟩:=l.altA i om;have hsa:s<=a:=by
      rcases P.s3 with e0|⟨w,W,C,E⟩
      .omega
      .have:=ha3 w C (hA w W C E);omega
     have sg:=h.seg R l a hsa om fun w d c f=>by
      have:=P.s2 w f (cin w (ha4 w c om om));omega
     refine⟨a,ha1,fun j X B=>?_⟩;by_cases g:∃k,s<=k/\k<a/\oH ops k=2/\N k=j
     .obtain⟨k,d,c,f,rfl⟩:=g;rw[P.m1 k d f (cin k (ha4 k c om om)),<-(sg.2.1 k d c f).2.1];exact B
     .refine base j X ?_;rw[<-sg.2.2 j fun k d c f v=>g ⟨k,d,c,f,v⟩];exact B
    rcases P.s3 with e0|⟨w,W,C,E⟩
    .exact caseA fun w d=>om
    .cases hbw:li cls i w with
     | true =>
      exact caseA fun w' d _ _=>by
       obtain rfl:w'=w:=om
       exact hbw
     | false =>
      have hcw:comp cls i w=false:=by
       unfold comp;rw[hbw]
       cases hwi:li cls w i with
       | true=>exact(nin w E hwi).elim
       | false=>rfl
      exact⟨w+1,l.altW i w om C hcw,W▸base⟩
   obtain⟨a,ha1,ha2⟩:=hsub;obtain⟨nx,hx⟩:=hl i o a D e ha1;have hx2:=(tQ e hx).2 (N i) m ha2;exact zf hc hx2 hGφ hr P.mr fun ψ z S' n H q=>⟨G,u,ψ,s,m,same ψ z S' n H q om om⟩
  .obtain⟨r1,r2,X,r3,r4⟩:=h.make l D om;have y:=sLe om;have hnw:=noW om;have sg:=h.seg (s:=s) R l (i+1) om om fun w d c f=>by
    by_cases ew:w=i
    .subst ew;omega
    .exact hnw w d om f
   have hne:∀k,s<=k->oH ops k=2->L k=true->N k≠N i:=fun k d c f=>by
    have hki:k≠i:=fun e=>by subst e;rw[f]at F;cases F
    by_cases hlt:k<i
    .have:=(h.seg R l i y om hnw).2.1 k d hlt c;omega
    .have:=(h.seg R l k om (by have:=U k f;omega) (fun w a b=>segL k d c f w a om)).2.1 i y om om
     omega
   have hnone:eW m (N i)=ab:=by
    rw[P.m2 (N i) hne];exact(sg.2.1 i y om om).2.2
   refine zf hc (r4 m hnone) hGφ hr P.mr fun ψ z S' n H q=>⟨G,u,ψ,s,sU m (N i) (some X),?_⟩;obtain⟨t1,t2⟩:=tn l n D H P.t1 P.t2;refine⟨Ph.le_trans P.le n,P.s1,fun w Q I=>?_,P.s3.imp id fun⟨w,W,C,E⟩=>⟨w,W,C,by show(if w=i then true else L w)=true;rw[E];simp⟩,t1,t2,q,fun k d c f=>?_,fun j B=>?_⟩
   .have p:(if w=i then true else L w)=true:=I
    have e:w≠i:=fun e=>by subst e;omega
    rw[af e]at p;exact P.s2 w Q p
   .have r:(if k=i then true else L k)=true:=f
    by_cases ek:k=i
    .subst ek;rw[r3,fW,fW,ah rfl,ah rfl]
    .rw[af ek]at r;rw[fW,af (hne k d c r)];exact P.m1 k d c r
   .rw[fW,af (fun C=>B i y om sm C.symm)]
    refine P.m2 j fun k d c f=>B k d c (by show(if k=i then true else L k)=true;rw[f];simp)
  .have eqM:=eqMi om fun k g=>l.three i k om g;refine zf hc hst hGφ hr (P.mr.ext eqM) fun ψ z S' n H q=>⟨G,u,ψ,s,m,same ψ z S' n H (MR.ext ?_ fun j=>(eqM j).symm) om om⟩;have:=(h.still R D om om).2;rw[this]at q;exact q
  .have hki:oH ops i=4:=om
   have cmpC:∀k,oH ops k=2->comp cls i k=true:=fun k g=>l.four i k (fun e=>by subst e;omega) hki om
   have eqM:=eqMi om cmpC;have y:=sLe om;refine zf hc hst hGφ hr (P.mr.ext eqM) fun ψ z S' n H q=>⟨G,u,ψ,i+1,M (i+1),?_⟩;obtain⟨t1,t2⟩:=tn l n D H P.t1 P.t2;refine⟨Ph.le_trans P.le n,om,fun w Q I=>?_,bQ ⟨i,rfl,hki,sm⟩,t1,t2,q,fun k d c f=>?_,fun j _=>rfl⟩
   .have p:(if w=i then true else L w)=true:=I
    by_cases ew:w=i
    .omega
    .rw[af ew]at p;have:=P.s2 w Q p;omega
   .have r:(if k=i then true else L k)=true:=f
    rw[af om]at r;rcases iw.1 (cmpC k c)with e|e
    .have:=xT l i A k e;omega
    .exact(nin k r e).elim
 .intro L O S hP J;obtain⟨U,Y,φ,s,m,P⟩:=hP;have sg:=h.seg (s:=s) R l ops.size P.s1 (ae _) fun w d c f=>by
   have:=P.s2 w f (J w c);omega
  refine hK φ O S P.le (fun t=>?_) (P.mr.ext fun j=>?_)
  .by_cases g:∃k,k<ops.size/\BE ops k=some t
   .obtain⟨k,d,c⟩:=g;rw[(h.get l _ (ae _) t).1 k d c];exact P.t1 t k (J k d) c
   .rw[(h.get l _ (ae _) t).2 fun k d c=>g ⟨k,d,c⟩];exact P.t2 t fun k d c=>g ⟨k,U k d,c⟩
  .by_cases g:∃k,s<=k/\k<ops.size/\oH ops k=2/\N k=j
   .obtain⟨k,d,c,f,rfl⟩:=g;rw[P.m1 k d f (J k c),(sg.2.1 k d c f).2.1]
   .rw[P.m2 j fun k d c f v=>g ⟨k,d,U k f,c,v⟩,sg.2.2 j fun k d c f v=>g ⟨k,d,c,f,v⟩]
end

noncomputable section
def Cq(cls:List Nat):List Nat->Nat
 | []=>0
 | j::r=>2^j ||| (cls.getD j 0 ||| Cq cls r)
theorem Cp{cls:List Nat}{k:Nat}:∀{l:List Nat},jw (Cq cls l) k=true->∃j∈l,j=k∨li cls j k=true
 | [],h=>by simp[Cq]at h
 | j::r,h=>by
  simp only[Cq,yS,eX]at h;rcases h with h|h|h
  .rw[U4]at h;exact⟨j,eU ..,bW (by simpa using h)⟩
  .exact⟨j,eU ..,bQ h⟩
  .obtain⟨i,a,e⟩:=Cp h;exact⟨i,d9 _ a,e⟩
def CD:List Oper->List Nat->List Nat
 | [],c=>c
 | o::r,c=>CD r (c++[Cq c (aft o)])
def IC(p:Nat->Oper->Bool):Nat->List Oper->Bool
 | _,[]=>true
 | i,o::r=>p i o&&IC p (i+1) r
theorem uU{p:Nat->Oper->Bool}:∀{l:List Oper} {k:Nat},IC p k l=true->∀(i:Nat) (o:Oper),l[i]? = some o->p (k+i) o=true
 | [],_,_,i,o,h=>by simp at h
 | x::r,k,h,i,o,a=>by
  simp only[IC,ay]at h
  cases i with
  | zero=>simp at a;subst a;exact h.1
  | succ i =>
   rw[cn]at a;have:=uU h.2 i o a
   rwa [(om:k+1+i=k+(i+1))]at this
def Ar:List Oper->Nat->Bool
 | [],_=>true
 | o::r,m=>match o.dst with
  | ab=>Ar r m
  | some d=>!jw m d&&Ar r (m ||| 2^d)
theorem wH:∀{l:List Oper} {m:Nat},Ar l m=true->(∀(i:Nat) (d:Nat),(l[i]?).bind (·.dst)=some d->jw m d=false)/\∀(i j d:Nat),(l[i]?).bind (·.dst)=some d->(l[j]?).bind (·.dst)=some d->i=j
 | [],_,_=>⟨fun i d h=>by simp at h,fun i j d h=>by simp at h⟩
 | o::r,m,h=>by
  simp only[Ar]at h
  cases b:o.dst with
  | none =>
   rw[b]at h;obtain⟨g,k⟩:=wH h;refine⟨fun i d a=>?_,fun i j d a c=>?_⟩
   .cases i with
    | zero=>simp[b]at a
    | succ i=>exact g i d (by simpa using a)
   .cases i with
    | zero=>simp[b]at a
    | succ i =>
     cases j with
     | zero=>simp[b]at c
     | succ j=>rw[k i j d (by simpa using a) (by simpa using c)]
  | some n =>
   rw[b]at h;simp only[ay,lE]at h;obtain⟨g,k⟩:=wH h.2;have f:∀(i d:Nat),(r[i]?).bind (·.dst)=some d->jw m d=false/\d≠n:=fun i d a=>by
    have:=g i d a;rw[yS,Bool.or_eq_false_iff,U4]at this;exact⟨this.1,fun e=>by simp[e]at this⟩
   refine⟨fun i d a=>?_,fun i j d a c=>?_⟩
   .cases i with
    | zero=>simp[b]at a;subst a;exact h.1
    | succ i=>exact(f i d (by simpa using a)).1
   .cases i with
    | zero =>
     simp[b]at a
     cases j with
     | zero=>rfl
     | succ j=>exact((f j d (by simpa using c)).2 a.symm).elim
    | succ i =>
     cases j with
     | zero=>simp[b]at c;exact((f i d (by simpa using a)).2 c.symm).elim
     | succ j=>rw[k i j d (by simpa using a) (by simpa using c)]
def FQ:List Oper->Nat
 | []=>0
 | o::r=>match o.dst with
  | ab=>FQ r
  | some d=>2^d ||| FQ r
theorem FP:∀{l:List Oper} {i d:Nat},(l[i]?).bind (·.dst)=some d->jw (FQ l) d=true
 | [],i,d,h=>by simp at h
 | o::r,i,d,h=>by
  simp only[FQ]
  cases i with
  | zero =>
   simp at h;rw[h];simp[yS]
  | succ i =>
   have:=FP (l:=r) (i:=i) (d:=d) (by simpa using h)
   cases a:o.dst with
   | none=>exact this
   | some b=>simp[yS,this]
def D8(ops:List Oper)(cls:List Nat)(ks:List Nat)(i:Nat):List Nat :=
 match ap (ks.getD i 0) 1 with
 | true =>
  let n:=ops.length
  let a1:=((et n).filter fun w=>ap (ks.getD w 0) 4&&li cls i w).foldl (fun a w=>Nat.max a (w+1)) 0
  let a0:=(((et i).filter fun k=>jH a1 k&&(ap (ks.getD k 0) 2||ap (ks.getD k 0) 4)&&!li cls i k).head?).getD i
  a0::((et n).filter fun w=>ap (ks.getD w 0) 4&&!comp cls i w).map (·+1)
 | false=>[]
def Dt(l:List Oper)(cls ks:List Nat)(alts:Nat->List Nat):Bool :=
 let D:=FQ l
 let n:=l.length
 CL l.toArray&&Ar l 0 &&
 IC (fun i o=>ap (cls.getD i 0) (Cq cls (aft o))&&ap (ks.getD i 0) (gG o.op)) 0 l &&
 IC (fun i o=>(ro l.toArray o).all fun t=>!jw D t||IC (fun k p=>match p.dst with
  | some d=>!ap d t||ap k i||comp cls i k
  | ab=>true) 0 l) 0 l &&
 IC (fun i o=>match ap (ks.getD i 0) 2 with
  | true=>o.guard.isNone
  | false=>match ap (ks.getD i 0) 4 with
   | true=>(et n).all fun j=>ap i j||aQ (ks.getD j 0) 2||comp cls i j
   | false=>match ap (ks.getD i 0) 3 with
    | true=>(et n).all fun j=>!ap (ks.getD j 0) 2||comp cls i j
    | false=>match ap (ks.getD i 0) 1 with
     | true=>((et n).all fun w=>!ap (ks.getD w 0) 4||comp cls i w||(alts i).contains (w+1)) &&
      (alts i).any fun a=>jH a i&&((et n).all fun w=>!ap (ks.getD w 0) 4||!li cls i w||aQ w a) &&
       (et a).all fun k=>aQ (ks.getD k 0) 2||ap (ks.getD k 0) 3||li cls i k
     | false=>true) 0 l
def qW{a b:Bool}(h:(!a||b)=true)(c:a=true):b=true:=by subst c;simpa using h
def Hs{l:List Oper}(h:Dt l cls ks alts=true):qK l.toArray cls alts:=by
 simp only[Dt,ay]at h;obtain⟨⟨⟨⟨D,E⟩,F⟩,G⟩,H⟩:=h;have C:=uU F;have I:=uU G;have s:=uU H;have get:∀(i:Nat) (o:Oper),l.toArray[i]? = some o->l[i]? = some o:=fun i o b=>by simpa using b
 have dAtE:∀i,BE l.toArray i=(l[i]?).bind (·.dst):=fun i=>by unfold BE;simp
 have lt:∀(i:Nat) (o:Oper),l[i]? = some o->i<l.length:=fun i o b=>(eJ.1 b).1;have ksE:∀(i:Nat) (o:Oper),l[i]? = some o->ks.getD i 0=gG o.op:=fun i o b=>by
  have:=C i o b;simp only[ay,az]at this;exact ak this.2
 have kE:∀(i:Nat) (o:Oper),l[i]? = some o->oH l.toArray i=ks.getD i 0:=fun i o b=>by rw[ksE i o b];exact uI (by simpa using b)
 have kS:∀i,oH l.toArray i≠0->∃o,l[i]? = some o/\i<l.length/\oH l.toArray i=ks.getD i 0:=fun i m=>by
  obtain⟨o,b,J⟩:=NH m;exact⟨o,get i o b,by simpa using J,kE i o (get i o b)⟩
 refine⟨D,fun i o k b f=>?_,fun i j d m v=>?_,fun i o t k b K y c=>?_,fun i j z m v=>?_,fun i j m v=>?_,fun i o b f=>?_,fun i w m L M=>?_,fun i m=>?_⟩
 .have:=C i o (get i o b);simp only[ay,az]at this;have e:=ak this.1;unfold li bit at f;rw[e]at f;exact Cp f
 .rw[dAtE]at m v;exact(wH E).2 i j d m v
 .have:=I i o (get i o b);simp only[az,aE]at this;have:=this t K;rw[dAtE]at c;have:=qW this (FP c)
  cases n:l[k]? with
  | none=>rw[n]at c;simp at c
  | some p =>
   rw[n]at c;simp only[dJ]at c;have:=uU this k p n;simp only[az]at this;rw[c]at this;simp only[eX,lE]at this;rcases this with (e|e)|e
   .simp at e
   .exact(y (ak e)).elim
   .exact e
 .obtain⟨o,b,q,f⟩:=kS i om;obtain⟨p,x,r,A⟩:=kS j om;have:=s i o b;simp only[az]at this;rw[(om:ks.getD i 0=4)]at this
  simp only[aE]at this;have:=this j (fS.2 r);simp only[eX]at this;rcases this with (e|e)|e
  .exact(z (ak e)).elim
  .have:ks.getD j 0<2:=by simpa [oZ]using e
   omega
  .exact e
 .obtain⟨o,b,q,f⟩:=kS i om;obtain⟨p,x,r,A⟩:=kS j om;have:=s i o b;simp only[az]at this;rw[(om:ks.getD i 0=3)]at this
  simp only[aE]at this;have:=this j (fS.2 r);exact qW this (by rw[(om:ks.getD j 0=2)];rfl)
 .have:=s i o (get i o b);simp only[az]at this;rw[ksE i o (get i o b),f]at this;simpa using this
 .obtain⟨o,b,q,f⟩:=kS i om;obtain⟨p,x,g,u⟩:=kS w om;have:=s i o b;simp only[az]at this;rw[(om:ks.getD i 0=1)]at this
  simp only[ay]at this;have:=aE.1 this.1 w (fS.2 g);rw[(om:ks.getD w 0=4),M]at this
  simpa using this
 .obtain⟨o,b,q,f⟩:=kS i om;have:=s i o b;simp only[az]at this;rw[(om:ks.getD i 0=1)]at this
  simp only[ay]at this;obtain⟨a,N,e⟩:=Vu.1 this.2;simp only[ay,aE]at e;obtain⟨⟨O,P⟩,Q⟩:=e;refine⟨a,N,cE O,fun w L R=>?_,fun k B S T=>?_⟩
  .obtain⟨p,x,g,u⟩:=kS w om;have:=P w (fS.2 g);rw[(om:ks.getD w 0=4),R]at this
   simpa [oZ]using this
  .obtain⟨p,x,g,u⟩:=kS k om;have:=Q k (fS.2 B);simp only[eX]at this;rcases this with (e|e)|e
   .have:ks.getD k 0<2:=by simpa [oZ]using e
    omega
   .have:=ak e;omega
   .exact e
end

end Go.Proofs.YtdobfmlmenaajaaGreatDoor
