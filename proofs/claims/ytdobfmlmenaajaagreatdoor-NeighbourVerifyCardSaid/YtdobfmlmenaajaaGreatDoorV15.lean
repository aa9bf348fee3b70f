/-
  Lemmas for NeighbourVerify.
-/
import Derived.Test.YtdobfmlmenaajaaGreatDoorV14
import Derived.Laws.Externs
import Derived.Laws.Bits64b
import Derived.Lib.Mul64
namespace Go.Proofs.YtdobfmlmenaajaaGreatDoor
open Go.RowKit Tryz
open _root_.Classical renaming choose→dM
open _root_.List renaming range→et
open _root_.Nat renaming beq→ap,strongRecOn→jf,testBit→jw
open _root_.Option renaming none→ab
open Tryz renaming prog→ai
set_option maxHeartbeats 6400000
set_option maxRecDepth 4096
set_option linter.all false
variable{Q:AX->Tm->St->Prop}{ops:Array Oper}{c:Code}{a b z za zb:Int}{L' as':List AV}{l:List Oper}{L args:List XV}{W f j k nx x y:Nat}{isL:Nat->Bool}{leaf:Nat->List XV->Option XV}{M P:Nat->Prop}{φ:Ph}{te:TE}{O:Tm}{v:Value}{w:World}
noncomputable section
def tput(te:TE)(d:Option Nat)(v:XV):TE:=match d with
 | some d=>zC te d v
 | ab=>te
def MM(te:TE)(d:Option Nat)(v:XV)(t:Nat):kg (tput te d v) t=if d=some t then v else kg te t:=by
 cases d with
 | none=>simp[tput]
 | some d =>
  simp only[tput,mR];by_cases e:t=d
  .subst e;simp
  .rw[af e,af (fun a=>e (jS a).symm)]
def TR.tput(h:TR φ te O){d:Option Nat}{v:XV}{z:AV}(a:ER φ v z):TR φ (tput te d v) (O.put d z):=by
 cases d with
 | none=>rw[M8];exact h
 | some d=>exact h.put a
def SO(call:eP)(ops:Array Oper)(o:Oper)(te:TE)(nx:Nat)(l:EL):XR:=match o.guard with
 | ab=>BX call o te nx l
 | some (j,want)=>match wE ops te j with
  | .bool b=>if b=want then BX call o te nx l else some (.any,nx,l)
  | _=>ab
def SN{call:eP}(n:nE call){ops:Array Oper}{o:Oper}{te:TE}{nx:Nat}{l:EL}{r:XV×Nat×EL}(h:SO call ops o te nx l=some r){φ:Ph}(q:GP φ){O:Tm}{S:St}(a:TR φ te O)(c:MR φ l S){K:Tm->St->Prop}
  (f:∀ψ z S',φ.le ψ->ER ψ r.1 z->MR ψ r.2.2 S'->K (O.put o.dst z) S'):Ed ops o O S K:=by
 unfold SO at h;unfold Ed
 cases s:o.guard with
 | none =>
  rw[s]at h;exact CZ n h q a c fun ψ z S' g i k=>f ψ z S' g i k
 | some p =>
  obtain⟨j,want⟩:=p;rw[s]at h;dsimp only at h ⊢;have m:ER φ (wE ops te j) (EG ops O j):=by
   unfold wE EG
   cases (ops[j]?).bind (·.dst)with
   | none=>simp[ER]
   | some d=>exact a d
  cases t:wE ops te j<;>rw[t]at h<;>try cases h
  rename_i b;rw[t]at m;simp only[ER]at m;rw[m];dsimp only at h ⊢;refine⟨fun e=>?_,fun e=>?_⟩
  .rw[ah e]at h;exact CZ n h q a c fun ψ z S' g i k=>f ψ z S' g i k
  .rw[af (by rw[e];cases want<;>simp)]at h
   cases h
   exact f φ .any S (Ph.le_refl _) (by simp[ER]) c
def rc(call:eP)(ops:Array Oper)(L:List Oper):TE->Nat->EL->Option (TE×Nat×EL):=List.rec (motive:=fun _=>TE->Nat->EL->Option (TE×Nat×EL)) (fun te nx l=>some (te,nx,l))
 (fun o _ ih te nx l=>Option.rec ab (fun p=>Prod.rec (fun v q=>Prod.rec (fun nx' l'=>ih (tput te o.dst v) nx' l') q) p) (SO call ops o te nx l)) L
def GV(call:eP)(ops:Array Oper)(te:TE)(nx:Nat)(l:EL):rc call ops [] te nx l=some (te,nx,l):=rfl
def EY(call:eP)(ops:Array Oper)(o:Oper)(r:List Oper)(te:TE)(nx:Nat)(l:EL):rc call ops (o::r) te nx l=match SO call ops o te nx l with
  | some (v,nx',l')=>rc call ops r (tput te o.dst v) nx' l'
  | ab=>ab:=by
 show Option.rec (motive:=fun _=>Option (TE×Nat×EL)) ab (fun p=>Prod.rec (motive:=fun _=>Option (TE×Nat×EL)) (fun v q=>Prod.rec (motive:=fun _=>Option (TE×Nat×EL)) (fun nx' l'=>rc call ops r (tput te o.dst v) nx' l') q) p) (SO call ops o te nx l)=_
 cases SO call ops o te nx l<;>rfl
theorem BZ{call:eP}(g:nE call){ops:Array Oper}:∀{L:List Oper} {te:TE} {nx:Nat} {l:EL} {r:TE×Nat×EL},rc call ops L te nx l=some r->∀{φ:Ph},GP φ->∀{O:Tm} {S:St},TR φ te O->MR φ l S->∀{K:Tm->St->Prop},
  (∀ψ O' S',φ.le ψ->TR ψ r.1 O'->MR ψ r.2.2 S'->K O' S')->Gb ops L O S K
 | [],te,nx,l,r,h,φ,b,O,S,a,c,K,d=>by
  rw[GV]at h;cases h;exact d φ O S (Ph.le_refl _) a c
 | o::L,te,nx,l,r,h,φ,b,O,S,a,c,K,d=>by
  rw[EY]at h
  cases e:SO call ops o te nx l with
  | none=>rw[e]at h;cases h
  | some p =>
   obtain⟨v,nx',l'⟩:=p;rw[e]at h;have:=SN g e b a c (K:=fun O S=>Gb ops L O S K) fun ψ z S' f i j=>BZ g h (b.mono f) ((a.mono f).tput i) j fun χ O' S'' k m n=>d χ O' S'' (Ph.le_trans f k) m n;unfold Gb;unfold Ed at this;exact this
def B2(call:eP)(ops:Array Oper)(L:List Oper):TE->Nat->EL->Option (TE×Nat×EL):=List.rec (motive:=fun _=>TE->Nat->EL->Option (TE×Nat×EL)) (fun te nx l=>some (te,nx,l))
 (fun o _ ih te nx l=>Option.rec ab (fun p=>Prod.rec (fun v q=>Prod.rec (fun nx' l'=>ih (tput te o.dst v) nx' l') q) p) (xg call ops o te nx l)) L
def Kw(call:eP)(ops:Array Oper)(te:TE)(nx:Nat)(l:EL):B2 call ops [] te nx l=some (te,nx,l):=rfl
def GU(call:eP)(ops:Array Oper)(o:Oper)(r:List Oper)(te:TE)(nx:Nat)(l:EL):B2 call ops (o::r) te nx l=match xg call ops o te nx l with
  | some (v,nx',l')=>B2 call ops r (tput te o.dst v) nx' l'
  | ab=>ab:=by
 show Option.rec (motive:=fun _=>Option (TE×Nat×EL)) ab (fun p=>Prod.rec (motive:=fun _=>Option (TE×Nat×EL)) (fun v q=>Prod.rec (motive:=fun _=>Option (TE×Nat×EL)) (fun nx' l'=>B2 call ops r (tput te o.dst v) nx' l') q) p) (xg call ops o te nx l)=_
 cases xg call ops o te nx l<;>rfl
structure UP where
 te:TE
 nx:Nat
 l:EL
 v:XV
variable{R:List UP}
def Mn(call:eP)(ops:Array Oper):List Oper->TE->Nat->EL->Option (List UP)
 | [],te,nx,l=>some [⟨te,nx,l,.any⟩]
 | o::r,te,nx,l=>match xg call ops o te nx l with
  | some (v,nx',l')=>(match Mn call ops r (tput te o.dst v) nx' l' with
   | some L=>some (⟨te,nx,l,v⟩::L)
   | ab=>ab)
  | ab=>ab
def jN:UP:=⟨.e,0,.e,.any⟩
theorem ze{call:eP}{ops:Array Oper}:∀{L:List Oper} {te:TE} {nx:Nat} {l:EL} {R:List UP},Mn call ops L te nx l=some R->R.length=L.length+1/\(R.getD 0 jN).te=te/\(R.getD 0 jN).nx=nx/\(R.getD 0 jN).l=l /\
  ∀(i:Nat) (o:Oper),L[i]? = some o->xg call ops o (R.getD i jN).te (R.getD i jN).nx (R.getD i jN).l=some ((R.getD i jN).v,(R.getD (i+1) jN).nx,(R.getD (i+1) jN).l)/\(R.getD (i+1) jN).te=tput (R.getD i jN).te o.dst (R.getD i jN).v
 | [],te,nx,l,R,h=>by
  simp only[Mn]at h;cases h;exact⟨rfl,rfl,rfl,rfl,fun i o a=>by simp at a⟩
 | o::L,te,nx,l,R,h=>by
  simp only[Mn]at h
  cases b:xg call ops o te nx l with
  | none=>rw[b]at h;cases h
  | some p =>
   obtain⟨v,nx',l'⟩:=p;rw[b]at h;dsimp only at h
   cases c:Mn call ops L (tput te o.dst v) nx' l' with
   | none=>rw[c]at h;cases h
   | some R' =>
    rw[c]at h
    cases h
    obtain⟨d,e,f,g,j⟩:=ze c;refine⟨by simp[d],rfl,rfl,rfl,fun i o' a=>?_⟩
    cases i with
    | zero =>
     simp at a;subst a;simp only[bS,az,bH,e,f,g];exact⟨b,trivial⟩
    | succ i =>
     simp only[bH];exact j i o' (by simpa using a)
theorem BY{call:eP}{ops:Array Oper}:∀{L:List Oper} {te:TE} {nx:Nat} {l:EL} {r:TE×Nat×EL},B2 call ops L te nx l=some r->∃R,Mn call ops L te nx l=some R/\(R.getD L.length jN).te=r.1/\(R.getD L.length jN).nx=r.2.1/\(R.getD L.length jN).l=r.2.2
 | [],te,nx,l,r,h=>by
  rw[Kw]at h;cases h;exact⟨_,rfl,rfl,rfl,rfl⟩
 | o::L,te,nx,l,r,h=>by
  rw[GU]at h
  cases a:xg call ops o te nx l with
  | none=>rw[a]at h;cases h
  | some p =>
   obtain⟨v,nx',l'⟩:=p;rw[a]at h;obtain⟨R,b,c⟩:=BY h;refine⟨⟨te,nx,l,v⟩::R,by simp only[Mn,a,b],?_⟩
   simpa using c
def Kr{call:eP}{l:EL}(h:Mn call ops ops.toList te nx l=some R):rS call ops (fun i=>(R.getD i jN).te) (fun i=>(R.getD i jN).nx) (fun i=>(R.getD i jN).l) (fun i=>(R.getD i jN).v):=by
 obtain⟨_,_,_,_,k⟩:=ze h;refine⟨fun i o a=>(k i o (by simpa using a)).1,fun i o t a=>?_⟩
 show kg (R.getD (i+1) jN).te t=_;rw[(k i o (by simpa using a)).2,MM]
def EW(call:eP)(ops:Array Oper)(R:List UP)(alts:Nat->List Nat):Nat->List Oper->Bool
 | _,[]=>true
 | i,o::r=>(match ap (gG o.op) 1 with
  | true=>(alts i).all fun a=>ap a i||(match xg call ops o (R.getD i jN).te 0 (R.getD a jN).l with
   | some (v,_,_)=>md v (R.getD i jN).v
   | ab=>false)
  | false=>true)&&EW call ops R alts (i+1) r
theorem EU{call:eP}{ops:Array Oper}{R:List UP}{alts:Nat->List Nat}:∀{L:List Oper} {k:Nat},EW call ops R alts k L=true->∀(i:Nat) (o:Oper) (a:Nat),L[i]? = some o->gG o.op=1->a∈alts (k+i)->a=k+i∨∃r,xg call ops o (R.getD (k+i) jN).te 0 (R.getD a jN).l=some r/\r.1=(R.getD (k+i) jN).v
 | [],_,_,i,o,a,b,_,_=>by simp at b
 | x::L,k,h,i,o,a,b,d,g=>by
  simp only[EW,ay]at h
  cases i with
  | zero =>
   simp at b;subst b;have c:=h.1;rw[d]at c;simp only[aE]at c;have:=c a g;simp only[eX]at this;rcases this with e|e
   .exact bW (ak e)
   .right;simp only[cN]at e ⊢
    cases f:xg call ops x (R.getD k jN).te 0 (R.getD a jN).l with
    | none=>rw[f]at e;cases e
    | some r =>
     rw[f]at e;exact⟨r,rfl,AJ _ _ e⟩
  | succ i =>
   have:=EU h.2 i o a (by simpa using b) d (by rwa [(om:k+1+i=k+(i+1))])
   rwa [(om:k+1+i=k+(i+1))]at this
structure Reg where
 cls:List Nat
 alts:Nat->List Nat
 easy:Bool
def ua(l:List Oper):Reg :=
 let c:=CD l []
 let ks:=l.map fun o=>gG o.op
 let al:=(et l.length).map (D8 l c ks)
 ⟨c,fun i=>al.getD i [],al.zipIdx.all fun p=>p.1.all fun a=>ap a p.2⟩
def M2(l:List Oper):Bool:=Dt l (CD l []) (l.map fun o=>gG o.op) (ua l).alts
def EP(call:eP)(hard:Bool)(ops:Array Oper)(te:TE)(nx:Nat)(l:EL):Option (TE×Nat×EL):=match hard with
 | false=>B2 call ops ops.toList te nx l
 | true=>match Mn call ops ops.toList te nx l with
  | some R=>(match EW call ops R (ua ops.toList).alts 0 ops.toList with
   | true=>some ((R.getD ops.toList.length jN).te,(R.getD ops.toList.length jN).nx,(R.getD ops.toList.length jN).l)
   | false=>ab)
  | ab=>ab
def QO(h:(ua l).easy=true):∀i a,a∈(ua l).alts i->a=i:=by
 intro i a e;have d:(((et l.length).map (D8 l (CD l []) (l.map fun o=>gG o.op))).zipIdx.all fun p=>p.1.all fun a=>ap a p.2)=true:=h;have b:a∈((et l.length).map (D8 l (CD l []) (l.map fun o=>gG o.op))).getD i []:=e;generalize (et l.length).map (D8 l (CD l []) (l.map fun o=>gG o.op))=al at d b;rw[io]at b
 cases c:al[i]? with
 | none=>rw[c]at b;simp at b
 | some x =>
  rw[c]at b;have:=aE.1 d (x,i) (List.mk_mem_zipIdx_iff_getElem?.2 c);have:=aE.1 this a b;exact ak this
def Mo{call:eP}(w:nE call)(x:vC call){b:Bool}{ops:Array Oper}(d:M2 ops.toList=true)(y:(b||(ua ops.toList).easy)=true){te:TE}{nx:Nat}{l:EL}{r:TE×Nat×EL}(h:EP call b ops te nx l=some r){φ:Ph}(z:GP φ){O:Tm}{S:St}(A:TR φ te O)(B:MR φ l S){K:Tm->St->Prop}
  (C:∀ψ O' S',φ.le ψ->TR ψ r.1 O'->MR ψ r.2.2 S'->K O' S'):awI ops O S K:=by
 have D:=Hs d;have main:∀R,Mn call ops ops.toList te nx l=some R->(R.getD ops.toList.length jN).te=r.1->(R.getD ops.toList.length jN).l=r.2.2->(∀(i:Nat) (o:Oper) a,ops[i]? = some o->gG o.op=1->a∈(ua ops.toList).alts i->∃nx,xg call ops o (R.getD i jN).te nx (R.getD a jN).l=some ((R.getD i jN).v,nx,(R.getD a jN).l))->awI ops O S K:=by
  intro R s E F m;obtain⟨L,G,M,H,N⟩:=ze s;refine PV w x D (Kr s) m z (by show TR φ (R.getD 0 jN).te O;rw[G];exact A) (by show MR φ (R.getD 0 jN).l S;rw[H];exact B) fun ψ O' S' c f t=>C ψ O' S' c ?_ ?_
  .rw[<-E];exact f
  .rw[<-F];exact t
 unfold EP at h
 cases b with
 | false =>
  have I:(ua ops.toList).easy=true:=y;obtain⟨R,c,f,t,J⟩:=BY h;refine main R c f J fun i o a n g u=>?_;obtain rfl:=QO I i a u;have:=((ze c).2.2.2.2 a o (by simpa using n)).1
  have e:=(tQ g this).1;simp only[il]at e;rw[e.1,e.2]at this;exact⟨_,this⟩
 | true =>
  dsimp only at h
  cases k:Mn call ops ops.toList te nx l with
  | none=>rw[k]at h;cases h
  | some R =>
   rw[k]at h;dsimp only at h
   cases q:EW call ops R (ua ops.toList).alts 0 ops.toList with
   | false=>rw[q]at h;cases h
   | true =>
    rw[q]at h
    cases h
    refine main R k rfl rfl fun i o a n g u=>?_;have j:ops.toList[i]? = some o:=by simpa using n
    have:=EU q i o a j g (by rwa [az])
    rw[az]at this;rcases this with rfl|⟨p,c,f⟩
    .have:=((ze k).2.2.2.2 a o j).1;have e:=(tQ g this).1;simp only[il]at e;rw[e.1,e.2]at this;exact⟨_,this⟩
    .have e:=(tQ g c).1;refine⟨0,?_⟩;rw[c];obtain⟨P,Q,T⟩:=p;simp only[il]at e;rw[e.1,e.2,<-f]
inductive XE where
 | normal
 | ret
 | exit (id:Nat)
def XE.ax:XE->AX
 | .normal=>.normal
 | .ret=>.ret
 | .exit i=>.exit i
abbrev XC:=Option (XE×TE×Nat×EL)
def xn:Option (TE×Nat×EL)->XC
 | some r=>some (.normal,r)
 | ab=>ab
abbrev T7:=Code->TE->Nat->EL->XC
def Ja(r:XC)(k:TE->Nat->EL->XC):XC:=match r with
 | some (e,q)=>(match e with
  | .normal=>k q.1 q.2.1 q.2.2
  | .ret=>some (.ret,q)
  | .exit i=>some (.exit i,q))
 | ab=>ab
def GZ(id:Nat)(r:XC):XC:=match r with
 | some (e,q)=>(match e with
  | .normal=>some (.normal,q)
  | .ret=>some (.ret,q)
  | .exit i=>(match ap i id with
   | true=>some (.normal,q)
   | false=>some (.exit i,q)))
 | ab=>ab
def RM(b:XV)(x y:XC):XC:=match b with
 | .bool t=>(match t with
  | true=>x
  | false=>y)
 | _=>ab
def RK(call:eP)(hm:Nat)(ih:T7)(c:Code):TE->Nat->EL->XC:=match c with
 | .skip=>fun te nx l=>some (.normal,te,nx,l)
 | .region id ops b=>(match b with
  | false=>fun te nx l=>xn (rc call ops ops.toList te nx l)
  | true=>fun te nx l=>xn (EP call (jw hm id) ops te nx l))
 | .seq x y=>fun te nx l=>Ja (ih x te nx l) (ih y)
 | .cond b x y=>fun te nx l=>RM (lr te b) (ih x te nx l) (ih y te nx l)
 | .block id c=>fun te nx l=>GZ id (ih c te nx l)
 | .loop c=>fun te nx l=>Ja (ih c te nx l) (ih (.loop c))
 | .exit id=>fun te nx l=>some (.exit id,te,nx,l)
 | .ret=>fun te nx l=>some (.ret,te,nx,l)
 | .scope c=>ih c
 | .label _=>fun te nx l=>some (.normal,te,nx,l)
 | _=>fun _ _ _=>ab
def mN(call:eP)(hm:Nat)(n:Nat):T7:=Nat.rec (motive:=fun _=>T7) (fun _ _ _ _=>ab) (fun _ ih=>RK call hm ih) n
def zg(call:eP)(a:Nat)(c:Code)(te:TE)(nx:Nat)(l:EL):mN call a 0 c te nx l=ab:=rfl
def iB(call:eP)(a n:Nat)(c:Code)(te:TE)(nx:Nat)(l:EL):mN call a (n+1) c te nx l=RK call a (mN call a n) c te nx l:=rfl
def kW(hm:Nat):Code->Bool
 | .region id ops true=>M2 ops.toList&&(jw hm id||(ua ops.toList).easy)
 | .seq x y=>kW hm x&&kW hm y
 | .cond _ x y=>kW hm x&&kW hm y
 | .block _ c=>kW hm c
 | .loop c=>kW hm c
 | .scope c=>kW hm c
 | _=>true
def o9(h:∃n,P n):∃n,P n/\∀m,m<n->¬P m:=by
 obtain⟨n,c⟩:=h
 induction n using jf with
 | ind n ih =>
  by_cases h:∃m,m<n/\P m
  .obtain⟨m,a,b⟩:=h;exact ih m a b
  .exact⟨n,c,fun m a b=>h ⟨m,a,b⟩⟩
def LH(J:Nat->Tm->St->Prop)(h:∀n O S,J n O S->∀k:Tm->St->Prop,(∀m O' S',m<n->J m O' S'->k O' S')->aw c (AX.seq k Q) O S){n:Nat}{O:Tm}{S:St}(g:J n O S):aw (.loop c) Q O S:=by
 classical
 refine⟨fun O S=>∃n,J n O S,fun O S=>if h:∃n,J n O S then dM (o9 h)else 0,⟨n,g⟩,fun O S b=>?_⟩
 have i:=dC (o9 b);have e:(if h:∃n,J n O S then dM (o9 h)else 0)=dM (o9 b):=by rw[Vk b]
 refine h _ O S i.1 _ fun m O' S' j d=>⟨⟨m,d⟩,?_⟩;have a:∃n,J n O' S':=⟨m,d⟩;have e':(if h:∃n,J n O' S' then dM (o9 h)else 0)=dM (o9 a):=by rw[Vk a]
 show(if h:∃n,J n O' S' then dM (o9 h)else 0)<(if h:∃n,J n O S then dM (o9 h)else 0)
 rw[e,e'];have:=(dC (o9 a)).2;rcases aF m (dM (o9 a))with f|f
 .exact(this m f d).elim
 .omega
def MA{call:eP}(F:nE call)(G:vC call)(a:Nat):∀(n:Nat) (c:Code) (te:TE) (nx:Nat) (l:EL) (r:XE×TE×Nat×EL),kW a c=true->mN call a n c te nx l=some r->∀{φ:Ph},GP φ->∀{O:Tm} {S:St},TR φ te O->MR φ l S->∀{Q:AX->Tm->St->Prop},
  (∀ψ O' S',φ.le ψ->TR ψ r.2.1 O'->MR ψ r.2.2.2 S'->Q r.1.ax O' S')->aw c Q O S:=by
 intro n
 induction n using jf with
 | ind n A =>
 cases n with
 | zero=>intro c te nx l r _ h;rw[zg]at h;cases h
 | succ n =>
  have ih:=A n om;intro c te nx l r d h φ w O S o q Q f
  cases c with
  | skip=>rw[iB]at h;cases h;exact f φ O S (Ph.le_refl _) o q
  | region id ops b =>
   cases b with
   | false =>
    rw[iB]at h;change xn (rc call ops ops.toList te nx l)=some r at h
    cases g:rc call ops ops.toList te nx l with
    | none=>rw[g]at h;cases h
    | some p =>
     rw[g]at h;cases h;exact BZ F g w o q f
   | true =>
    rw[iB]at h;change xn (EP call (jw a id) ops te nx l)=some r at h;simp only[kW,ay]at d
    cases g:EP call (jw a id) ops te nx l with
    | none=>rw[g]at h;cases h
    | some p =>
     rw[g]at h;cases h;exact bQ (Mo F G d.1 d.2 g w o q f)
  | seq x y =>
   rw[iB]at h;change Ja (mN call a n x te nx l) (mN call a n y)=some r at h;simp only[kW,ay]at d;simp only[aw]
   cases g:mN call a n x te nx l with
   | none=>rw[g]at h;cases h
   | some p =>
    obtain⟨e,te',nx',l'⟩:=p;rw[g]at h;refine ih x te nx l _ d.1 g w o q fun ψ O' S' j s u=>?_
    cases e with
    | normal=>exact ih y te' nx' l' r d.2 h (w.mono j) s u fun χ O'' S'' B C D=>f χ O'' S'' (Ph.le_trans j B) C D
    | ret=>cases h;exact f ψ O' S' j s u
    | exit i=>cases h;exact f ψ O' S' j s u
  | cond b x y =>
   rw[iB]at h;change RM (lr te b) (mN call a n x te nx l) (mN call a n y te nx l)=some r at h;simp only[kW,ay]at d;simp only[aw];have E:=o.ev b
   cases z:lr te b with
   | bool t =>
    rw[z]at h E;simp only[ER]at E;rw[E]
    cases t with
    | true=>exact⟨fun _=>ih x te nx l r d.1 h w o q f,fun e=>by cases e⟩
    | false=>exact⟨fun e=>(by cases e),fun _=>ih y te nx l r d.2 h w o q f⟩
   | _=>rw[z]at h;cases h
  | block id c =>
   rw[iB]at h;change GZ id (mN call a n c te nx l)=some r at h;simp only[kW]at d;simp only[aw]
   cases g:mN call a n c te nx l with
   | none=>rw[g]at h;cases h
   | some p =>
    obtain⟨e,p⟩:=p;rw[g]at h;refine ih c te nx l _ d g w o q fun ψ O' S' j s u=>?_
    cases e with
    | normal=>cases h;exact f ψ O' S' j s u
    | ret=>cases h;exact f ψ O' S' j s u
    | exit i =>
     simp only[GZ]at h;show(if i=id then Q .normal else Q (.exit i)) O' S'
     cases z:ap i id with
     | true =>
      rw[z]at h;cases h;rw[ah (ak z)];exact f ψ O' S' j s u
     | false =>
      rw[z]at h;cases h;rw[af (fun e=>by subst e;simp at z)]
      exact f ψ O' S' j s u
  | loop c =>
   simp only[kW]at d;refine LH (fun m O S=>m<=n+1/\∃ψ te nx l,φ.le ψ/\TR ψ te O/\MR ψ l S/\mN call a m (.loop c) te nx l=some r) ?_ (n:=n+1) ⟨ae _,φ,te,nx,l,Ph.le_refl _,o,q,h⟩;rintro m O S ⟨H,ψ,te,nx,l,j,s,u,v⟩ k I
   cases m with
   | zero=>rw[zg]at v;cases v
   | succ m =>
    rw[iB]at v;change Ja (mN call a m c te nx l) (mN call a m (.loop c))=some r at v
    cases g:mN call a m c te nx l with
    | none=>rw[g]at v;cases v
    | some p =>
     obtain⟨e,te',nx',l'⟩:=p;rw[g]at v;have body:∀{Q:AX->Tm->St->Prop},(∀χ O' S',ψ.le χ->TR χ te' O'->MR χ l' S'->Q e.ax O' S')->aw c Q O S:=by
      intro Q f;exact A m om c te nx l _ d g (w.mono j) s u f
     refine body fun χ O' S' B C D=>?_
     cases e with
     | normal=>exact I m O' S' om ⟨om,χ,te',nx',l',Ph.le_trans j B,C,D,v⟩
     | ret=>cases v;exact f χ O' S' (Ph.le_trans j B) C D
     | exit i=>cases v;exact f χ O' S' (Ph.le_trans j B) C D
  | exit id=>rw[iB]at h;cases h;exact f φ O S (Ph.le_refl _) o q
  | ret=>rw[iB]at h;cases h;exact f φ O S (Ph.le_refl _) o q
  | scope c =>
   rw[iB]at h;change mN call a n c te nx l=some r at h;simp only[kW]at d;simp only[aw];exact ih c te nx l r d h w o q f
  | label _=>rw[iB]at h;cases h;exact f φ O S (Ph.le_refl _) o q
  | _=>rw[iB]at h;cases h
end

def nb(z:Int)(k:Nat):Prop:=z.natAbs<2^k
def nb.mono(h:nb z k)(a:k<=j):nb z j:=dK h (cu om a)
def nb.nl{N:Nat}(h:nb z k)(a:k<=32*N):nl z.natAbs<=N:=by
 rw[kb,zU];exact h.mono a
def nb.add(c:nb a k)(d:nb b k):nb (a+b) (k+1):=by
 unfold nb at *;rw[cf];omega
def nb.sub(c:nb a k)(d:nb b k):nb (a-b) (k+1):=by
 unfold nb at *;rw[cf];omega
def nb.mul(c:nb a k)(d:nb b j):nb (a*b) (k+j):=by
 unfold nb at *;rw[cH,fR];exact Nat.mul_lt_mul_of_lt_of_lt c d
def nb.neg(b:nb a k):nb (-a) k:=by unfold nb at *;omega
def nb.zero(k:Nat):nb 0 k:=jX om
def nb.one(h:0<k):nb 1 k:=dK (by decide:1<2^1) (cu om h)
def nb.of_le(h:a.natAbs<=b.natAbs)(c:nb b k):nb a k:=eS h c
def UB(h:∀va vb B w,B<=w.heap.size->eV w B va za->eV w B vb zb->Calls ai f #[va,vb] w (dU w z)):PF f [.big za,.big zb] (.big z):=CO.pf rfl (SZ h)
def pf1(h:∀va B w,B<=w.heap.size->eV w B va za->Calls ai f #[va] w (dU w z)):PF f [.big za] (.big z):=CO.pf rfl (S8 h)
def pf1i{k:IntKind}(h:∀va B w,B<=w.heap.size->eV w B va za->Calls ai f #[va] w fun e w'=>e=.returned (.int k z)/\Below w.heap.size w w'):PF f [.big za] (.int k z):=by
 intro w vs a
 match vs,a with
 | [va],a =>
  simp only[a6,bM]at a;refine(h va w.heap.size w (ae _) a.1).mono ?_;rintro e w' ⟨rfl,b⟩;exact⟨_,rfl,by simp[bM],dI.below b⟩
 | [],a=>simp[a6]at a
 | _::_::_,a=>simp[a6]at a
def pf2i{k:IntKind}(h:∀va vb B w,B<=w.heap.size->eV w B va za->eV w B vb zb->Calls ai f #[va,vb] w fun e w'=>e=.returned (.int k z)/\Below w.heap.size w w'):PF f [.big za,.big zb] (.int k z):=by
 intro w vs a
 match vs,a with
 | [va,vb],a =>
  simp only[a6,bM]at a;refine(h va vb w.heap.size w (ae _) a.1 a.2.1).mono ?_;rintro e w' ⟨rfl,b⟩;exact⟨_,rfl,by simp[bM],dI.below b⟩
 | [],a=>simp[a6]at a
 | [_],a=>simp[a6]at a
 | _::_::_::_,a=>simp[a6]at a
def JB(h:∀w,Calls ai f #[.int .i64 z] w (dU w z)):PF f [.int .i64 z] (.big z):=by
 intro w vs a
 match vs,a with
 | [va],a =>
  simp only[a6,bM]at a;obtain⟨rfl,_⟩:=a;refine(h w).mono ?_;rintro e w' ⟨v,rfl,b,c⟩;exact⟨v,rfl,by simpa [bM]using b,dI.below c⟩
 | [],a=>simp[a6]at a
 | _::_::_,a=>simp[a6]at a
def JC(h:∀va B w,B<=w.heap.size->eV w B va z->Calls ai f #[va] w fun e w'=>e=.returned (.tuple #[.int .i64 z,.bool true])/\Below w.heap.size w w'):PF f [.big z] (.tup [.int .i64 z,.bool true]):=by
 intro w vs a
 match vs,a with
 | [va],a =>
  simp only[a6,bM]at a;refine(h va w.heap.size w (ae _) a.1).mono ?_;rintro e w' ⟨rfl,b⟩;exact⟨_,rfl,by simp only[bM];exact⟨[_,_],rfl,by simp[a6,bM]⟩,dI.below b⟩
 | [],a=>simp[a6]at a
 | _::_::_,a=>simp[a6]at a
def wO(c:nb a k)(d:nb b k)(h:k<=8589934592):PF 133 [.big a,.big b] (.big (a+b)):=UB fun va vb B w e f g=>RI va vb a b B w e f g (c.nl om) (d.nl om)
def Df(c:nb a k)(d:nb b k)(h:k<=8589934592):PF 192 [.big a,.big b] (.big (a-b)):=UB fun va vb B w e f g=>Rn va vb a b B w e f g (c.nl om) (d.nl om)
def qr(c:nb a k)(d:nb b k)(h:k<=8589934592):PF 83 [.big a,.big b] (.big (a*b)):=UB fun va vb B w e f g=>Rx va vb a b B w e f g (c.nl om) (d.nl om)
def tA(b:nb a k)(e:k<=8589934592):PF 193 [.big a] (.big (-a)):=pf1 fun va B w c d=>Rv va a B w c d (b.nl om)
def sd(b:nb a k)(e:k<=8589934592):PF 157 [.big a] (.big a):=pf1 fun va B w c d=>BJ va a B w c d (b.nl om)
def lp(b:nb a k)(e:k<=8589934592):PF 191 [.big a] (.int .i64 a.sign):=pf1i fun va B w c d=>AY va a B w c d (b.nl om)
def Oh(c:nb a k)(d:nb b k)(h:k<=8589934592):PF 159 [.big a,.big b] (.int .i64 (lV a b)):=pf2i fun va vb B w e f g=>RE va vb a b B w e f g (c.nl om) (d.nl om)
def ld(b:-9223372036854775808<=a)(c:a<=9223372036854775807):PF 81 [.int .i64 a] (.big a):=JB fun w=>LW a w b c
def uJ(h:iT a):PF 84 [.big a] (.tup [.int .i64 a,.bool true]):=JC fun va B w b c=>L5 va a B w b c h
def mt(d:nb a k)(f:nb b k)(p:k<=8589934592)(g:b≠0)(i:a.natAbs<b.natAbs∨nb a 64):PF 82 [.big a,.big b] (.tup [.big (a/b),.big (a%b),.bool true]):=by
 intro w vs c
 match vs,c with
 | [va,vb],c =>
  simp only[a6,bM]at c;refine(Bg va vb a b w.heap.size w (ae _) c.1 c.2.1 (d.nl om) (f.nl om) g (i.imp id fun h=>bW (h.nl om))).mono ?_;rintro e w' ⟨j,l,rfl,m,n,o⟩;exact⟨_,rfl,by simp only[bM];exact⟨[j,l,.bool true],rfl,by simp only[a6,bM];exact⟨m,n,trivial,trivial⟩⟩,dI.below o⟩
 | [],c=>simp[a6]at c
 | [_],c=>simp[a6]at c
 | _::_::_::_,c=>simp[a6]at c
def qx(f:nb a k)(d:nb b 32)(n:k<=1000000)(g:b≠0):PF 82 [.big a,.big b] (.tup [.big (a/b),.big (a%b),.bool true]):=by
 intro w vs c
 match vs,c with
 | [va,vb],c =>
  simp only[a6,bM]at c;refine(Bg va vb a b w.heap.size w (ae _) c.1 c.2.1 (f.nl om) (d.nl om) g (.inr (.inr (d.nl om)))).mono ?_;rintro e w' ⟨h,i,rfl,j,l,m⟩;exact⟨_,rfl,by simp only[bM];exact⟨[h,i,.bool true],rfl,by simp only[a6,bM];exact⟨j,l,trivial,trivial⟩⟩,dI.below m⟩
 | [],c=>simp[a6]at c
 | [_],c=>simp[a6]at c
 | _::_::_::_,c=>simp[a6]at c
def Ck(h:iT a):PF 72 [.big a] (.tup [.int .i64 a,.bool true]):=JC fun va B w b c=>Er va a B w b c h
def ug(c:nb a k)(d:nb b k)(h:k<=8589934592):PF 87 [.big a,.big b] (.big (a+b)):=UB fun va vb B w e f g=>CX va vb a b B w e f g (c.nl om) (d.nl om)
def t7(c:nb a k)(d:nb b k)(h:k<=8589934592):PF 66 [.big a,.big b] (.big (a-b)):=UB fun va vb B w e f g=>LV va vb a b B w e f g (c.nl om) (d.nl om)
def jl(c:nb a k)(d:nb b k)(h:k<=8589934592):PF 67 [.big a,.big b] (.big (a*b)):=UB fun va vb B w e f g=>LY va vb a b B w e f g (c.nl om) (d.nl om)
def t8(b:nb a k)(e:k<=8589934592):PF 68 [.big a] (.big (-a)):=pf1 fun va B w c d=>CP va a B w c d (b.nl om)
def uh(b:nb a k)(e:k<=8589934592):PF 45 [.big a] (.big a.natAbs):=pf1 fun va B w c d=>Md va a B w c d (b.nl om)
def Fp(b:nb a k)(e:k<=8589934592):PF 126 [.big a] (.big a):=pf1 fun va B w c d=>wW va a B w c d (b.nl om)
def ka(b:nb a k)(e:k<=8589934592):PF 64 [.big a] (.int .i64 a.sign):=pf1i fun va B w c d=>tJ va a B w c d (b.nl om)
def nI(c:nb a k)(d:nb b k)(h:k<=8589934592):PF 30 [.big a,.big b] (.int .i64 (lV a b)):=pf2i fun va vb B w e f g=>Mb va vb a b B w e f g (c.nl om) (d.nl om)
def gQ(b:-9223372036854775808<=a)(c:a<=9223372036854775807):PF 29 [.int .i64 a] (.big a):=JB fun w=>Gq a w b c

def OL(va:Value)(za:Int)(B:Nat)(w:World)(hB:B<=w.heap.size)(ha:eV w B va za)(sa:nl za.natAbs<=536870912)(hz:¬iT za) :
  Calls ai 84 #[va] w fun e w'=>e=.returned (.tuple #[.int .i64 0,.bool false])/\Below w.heap.size w w':=by
 obtain⟨s1,A,n,c,xs,rfl,hnc,hx,tx,rfl⟩:=ha;rw[fV,<-aJ hx tx]at sa;have hb0:=(aY w.heap.size w).alloc (ae _) (Obj.cells #[Value.bool s1,Value.slice A n c] 50);have hv2:n<=2->aZ xs<18446744073709551616:=fun h=>by
  rw[aJ hx tx]at h;have:=kb.1 h;omega
 have HU:=ac (hx.below hb0 hB);have HX:=ac hx;clear hx;have HTX:=ac tx;clear tx;have HB:=ac hb0;clear hb0;unfold iT at hz;by_cases hn:n<=2
 .have hv3:=hv2 hn;have hn2:¬((2:Int)<(n:Int)):=om
  have hn3:decide ((2:Int)<(n:Int))=false:=by simpa using hn2
  cases s1
  .have hv:(sg false (aZ xs))=(aZ xs:Int):=by simp[sg]
   rw[hv]at hz;clear hv;generalize hvv:aZ xs=v at hz hv3 hv2;have HV:=ac hvv;clear hvv;have hl:¬(v:Int)<9223372036854775808:=om
   have hl2:decide ((v:Int)<9223372036854775808)=false:=by simpa using hl
   clear hv2 hz hv3
   go_enter Kf,EI
   go_wp2_with fail
   refine(gE A n c B xs _ hnc om HU.out HTX.out).mono ?_;rintro e w' ⟨rfl,rfl⟩
   go_wp2_with fail
   refine(mP A n c B xs _ hn HU.out).mono ?_;rintro e w' ⟨rfl,rfl⟩;rw[HV.out];go_wp2;go_ret2;exact⟨rfl,HB.out⟩
  .have hv:(sg true (aZ xs))=-(aZ xs:Int):=by simp[sg]
   rw[hv]at hz;clear hv;generalize hvv:aZ xs=v at hz hv3 hv2;have HV:=ac hvv;clear hvv;have hl:¬(v:Int)<=9223372036854775808:=om
   have hl2:decide ((v:Int)<=9223372036854775808)=false:=by simpa using hl
   clear hv2 hz hv3
   go_enter Kf,EI
   go_wp2_with fail
   refine(gE A n c B xs _ hnc om HU.out HTX.out).mono ?_;rintro e w' ⟨rfl,rfl⟩
   go_wp2_with fail
   refine(mP A n c B xs _ hn HU.out).mono ?_;rintro e w' ⟨rfl,rfl⟩;rw[HV.out];go_wp2;go_ret2;exact⟨rfl,HB.out⟩
 .have hn2:(2:Int)<(n:Int):=om
  have hn3:decide ((2:Int)<(n:Int))=true:=by simpa using hn2
  clear hv2 hz
  go_enter Kf,EI
  go_wp2_with fail
  refine(gE A n c B xs _ hnc om HU.out HTX.out).mono ?_;rintro e w' ⟨rfl,rfl⟩;go_wp2;go_ret2;exact⟨rfl,HB.out⟩
def NN(c:nb a k)(f:k<=8589934592)(h:¬iT a):PF 84 [.big a] (.tup [.int .i64 0,.bool false]):=by
 intro w vs b
 match vs,b with
 | [va],b =>
  simp only[a6,bM]at b;refine(OL va a w.heap.size w (ae _) b.1 (c.nl om) h).mono ?_;rintro e w' ⟨rfl,d⟩;exact⟨_,rfl,by simp only[bM];exact⟨[_,_],rfl,by simp[a6,bM]⟩,dI.below d⟩
 | [],b=>simp[a6]at b
 | _::_::_,b=>simp[a6]at b

def Ig(a p:Nat)(w:World)(ha:a<1000000)(hp:p<1000000):Calls ai 124 #[.int .i64 a,.int .i64 p] w fun e w'=>e=.returned (.int .i64 (bz a p).1)/\eh w w':=by
 go_enter func124,ntmps124
 go_wp2
 go_loopw [0,1] (fun iv jv wr=>∃x y:Nat,iv=.int .i64 x/\jv=.int .i64 y/\x<1000000/\y<1000000/\Hid (eh w wr)/\Hid ((bz x y).1=(bz a p).1)) (fun _ jv _=>(intOf jv).toNat)
 case atStart=>exact⟨a,p,rfl,rfl,ha,hp,ac (eh.refl w),ac rfl⟩
 case round =>
  obtain⟨x,y,rfl,rfl,hx,hy,HQ,HD⟩:=hrel;by_cases h0:y=0
  .subst h0;have hr:=ac (show((x:Nat):Int)=(bz a p).1 by have:=HD.out;rw[nK]at this;exact this)
   go_wp2;go_ret;exact⟨by rw[hr.out];rfl,HQ.out⟩
  .have hyz:((y:Nat):Int)≠0:=om
   have hlt:=ac (dh x (iF h0));go_wp2
   go_quiet (fail)
   go_wp2;refine⟨⟨y,x%y,rfl,by rw[kw],hy,by have:=hlt.out;omega,ac (by repeat' (first|exact HQ.out|apply eh.more)),ac (by rw[<-HD.out,sk x h0])⟩,?_⟩
   have h2:=hlt.out;rw[<-kw];exact h2
def Lj(a p:Nat)(c:a<1000000)(d:p<1000000):PF 124 [.int .i64 a,.int .i64 p] (.int .i64 (bz a p).1):=by
 intro w vs b
 match vs,b with
 | [va,vb],b =>
  simp only[a6,bM]at b;obtain⟨rfl,rfl,_⟩:=b;refine(Ig a p w c d).mono ?_;rintro e w' ⟨rfl,f⟩;exact⟨_,rfl,by simp[bM],dI.below (f.below _)⟩
 | [],b=>simp[a6]at b
 | [_],b=>simp[a6]at b
 | _::_::_::_,b=>simp[a6]at b

def wR(x y c:Nat)(a:c<=1)(w:World):(callFunc 252 #[.int .u64 x,.int .u64 y,.int .u64 c]).run ai w =
   .ok (.value (.tuple #[.int .u64 (((x:Int)+y+c)%18446744073709551616),.int .u64 (((x:Int)+y+c)/18446744073709551616)])) w:=by
 rw[Vo func252 kr kr kr (e:=add64Entry) kr,run_add64 x y c om om om om]
 rfl
def SV:Array Value->Sem Value:=fun args=>do
 let (x, y, b) <- Extern.MathBitsCarry.three "Sub64" args
 pure (Extern.MathBitsCarry.pair ((x+Extern.MathBitsCarry.m64-y-b)%Extern.MathBitsCarry.m64) (if x<y+b then 1 else 0))
def pH(x y b:Nat)(a:b<=1)(w:World):(callFunc 253 #[.int .u64 x,.int .u64 y,.int .u64 b]).run ai w =
   .ok (.value (.tuple #[.int .u64 (((x+18446744073709551616-y-b)%18446744073709551616:Nat):Int),.int .u64 ((if x<y+b then 1 else 0:Nat):Int)])) w:=by
 rw[Vo func253 kr kr kr (e:=SV) kr]
 have:b=0∨b=1:=om
 rcases this with rfl|rfl<;>rfl
def H4(x y:Nat)(hx:x<4294967296)(hy:y<4294967296)(w:World):Calls ai 251 #[.int .u64 x,.int .u64 y] w fun e w'=>e=.returned (.tuple #[.int .u64 0,.int .u64 ((x*y:Nat):Int)])/\w'=w:=by
 have hxy:x*y<18446744073709551616:=by
  have:=aV (om:x<=4294967295) (om:y<=4294967295)
  omega
 go_enter func251,ntmps251
 go_wp2;have mask:∀a:Nat,a<4294967296->bits .and .u64 (a:Int) 4294967295=(a:Int):=fun a ha=>by
  have h:=bits_and_u64_nat a 4294967295 om om;have e:a &&& 4294967295=a%4294967296:=GL a 32;rw[e,ef ha]at h;exact h
 have mx:=mask x hx;have my:=mask y hy;have dx:(x:Int)/4294967296=0:=om
 have dy:(y:Int)/4294967296=0:=om
 have w0:IntKind.u64.wrap 0=0:=rfl;have wP:IntKind.u64.wrap ((x:Int)*y)=((x*y:Nat):Int):=by rw[ci,<-bF];omega
 have dP:((x*y:Nat):Int)/4294967296=((x*y/4294967296:Nat):Int):=om
 have wQ:IntKind.u64.wrap ((x*y/4294967296:Nat):Int)=((x*y/4294967296:Nat):Int):=by rw[ci];omega
 have mQ:=mask (x*y/4294967296) om;have dQ:((x*y/4294967296:Nat):Int)/4294967296=0:=om
 simp only[mx,my,dx,dy,kU,jZ,w0,EK,Int.add_zero,wP,dP,wQ,mQ,dQ];go_ret2;exact⟨rfl,rfl⟩
def Kc(x y:Nat)(h:x+y<18446744073709551616)(w:World):(callFunc 252 #[.int .u64 x,.int .u64 y,.int .u64 0]).run ai w=.ok (.value (.tuple #[.int .u64 ((x+y:Nat):Int),.int .u64 0])) w:=by
 have:=wR x y 0 om w;rw[show((x:Int)+y+(0:Nat))%18446744073709551616=((x+y:Nat):Int) by omega,show((x:Int)+y+(0:Nat))/18446744073709551616=0 by omega]at this
 exact this
def Ra(w:World):(callFunc 252 #[.int .u64 0,.int .u64 0,.int .u64 0]).run ai w=.ok (.value (.tuple #[.int .u64 0,.int .u64 0])) w:=Kc 0 0 om w
def KD(s x y:Nat)(hx:x<4294967296)(hy:y<4294967296)(hs:s+x*y<18446744073709551616)(w:World):Calls ai 215 #[.agg #[.int .u64 0,.int .u64 s],.int .u64 x,.int .u64 y] w fun e w'=>e=.returned (.agg #[.int .u64 0,.int .u64 ((s+x*y:Nat):Int)])/\Below w.heap.size w w':=by
 have hm:=H4 x y hx hy;generalize x*y=P at hm hs ⊢;have e1:=Kc s P hs
 go_enter func215,ntmps215
 go_wp2_with fail
 refine(hm _).mono ?_;rintro e w' ⟨rfl,hw'⟩;rw[hw']
 go_wp2_with (simp only[Ra])
 refine cM (v:=.agg #[.int .u64 0,.int .u64 ((s:Int)+P)]) (by simp[results,results215,go_sem]) rfl ⟨by rw[eM],((aY _ w).alloc (ae _) _).alloc sm _⟩
def Jl(x y:Nat)(a:x<18446744073709551616)(h:y<=x)(w:World):(callFunc 253 #[.int .u64 x,.int .u64 y,.int .u64 0]).run ai w=.ok (.value (.tuple #[.int .u64 ((x-y:Nat):Int),.int .u64 0])) w:=by
 have:=pH x y 0 om w;rw[show(x+18446744073709551616-y-0)%18446744073709551616=x-y by omega,af om]at this
 exact this
def Pz(x y:Nat)(a:y<18446744073709551616)(h:x<y)(w:World):(callFunc 253 #[.int .u64 x,.int .u64 y,.int .u64 0]).run ai w=.ok (.value (.tuple #[.int .u64 ((x+18446744073709551616-y:Nat):Int),.int .u64 1])) w:=by
 have:=pH x y 0 om w;rw[show(x+18446744073709551616-y-0)%18446744073709551616=x+18446744073709551616-y by omega,ah om]at this
 exact this
def PB(w:World):(callFunc 253 #[.int .u64 0,.int .u64 0,.int .u64 0]).run ai w=.ok (.value (.tuple #[.int .u64 0,.int .u64 0])) w:=Jl 0 0 om om w
def PA(w:World):(callFunc 253 #[.int .u64 0,.int .u64 0,.int .u64 1]).run ai w=.ok (.value (.tuple #[.int .u64 18446744073709551615,.int .u64 1])) w:=pH 0 0 1 om w
def E6(x y:Nat)(hx:x<4611686018427387904)(h:y<=x)(w:World):Calls ai 216 #[.agg #[.int .u64 0,.int .u64 x],.agg #[.int .u64 0,.int .u64 y]] w fun e w'=>e=.returned (.tuple #[.int .i64 ((x-y:Nat):Int),.bool true])/\Below w.heap.size w w':=by
 have e1:=Jl x y om h;have hk:x-y<4611686018427387904:=om
 generalize x-y=P at e1 hk ⊢;have h1:¬(4611686018427387904:Int)<P:=om
 have w1:IntKind.i64.wrap (P:Int)=P:=by rw[mC];omega
 go_enter vR,sB
 go_wp2_with (simp only[PB])
 go_ret2;exact⟨rfl,((aY _ w).alloc (ae _) _).alloc sm _⟩
def C1(x y:Nat)(hy:y<4611686018427387904)(h:x<y)(w:World):Calls ai 216 #[.agg #[.int .u64 0,.int .u64 x],.agg #[.int .u64 0,.int .u64 y]] w fun e w'=>e=.returned (.tuple #[.int .i64 0,.bool false])/\Below w.heap.size w w':=by
 have e1:=Pz x y om h;generalize x+18446744073709551616-y=P at e1
 go_enter vR,sB
 go_wp2_with (simp only[PA])
 go_ret2;exact⟨rfl,((aY _ w).alloc (ae _) _).alloc sm _⟩
def pA(h:bM w M (.agg [.int .u64 a,.int .u64 b]) v):v=.agg #[.int .u64 a,.int .u64 b]:=by
 simp only[bM]at h;obtain⟨vs,rfl,h⟩:=h
 match vs,h with
 | [x,y],h =>
  simp only[a6,bM]at h;obtain⟨rfl,rfl,_⟩:=h;simp[Value.cells]
 | [],h=>simp[a6]at h
 | [_],h=>simp[a6]at h
 | _::_::_::_,h=>simp[a6]at h
def Je(w:World)(M:Nat->Prop)(a b:Int):bM w M (.agg [.int .u64 a,.int .u64 b]) (.agg #[.int .u64 a,.int .u64 b]):=by
 simp only[bM];exact⟨[.int .u64 a,.int .u64 b],by simp[Value.cells],by simp[a6,bM]⟩
def Po{s:Nat}(h:x<4294967296)(i:y<4294967296)(j:s+x*y<18446744073709551616):PF 215 [.agg [.int .u64 0,.int .u64 s],.int .u64 x,.int .u64 y] (.agg [.int .u64 0,.int .u64 ((s+x*y:Nat):Int)]):=by
 intro w vs d
 match vs,d with
 | [a,b,c],d =>
  simp only[a6]at d;obtain⟨k,f,g,_⟩:=d;obtain rfl:=pA k;simp only[bM]at f g;subst f;subst g;refine(KD s x y h i j w).mono ?_;rintro e w' ⟨rfl,l⟩;exact⟨_,rfl,Je _ _ _ _,dI.below l⟩
 | [],d=>simp[a6]at d
 | [_],d=>simp[a6]at d
 | [_,_],d=>simp[a6]at d
 | _::_::_::_::_,d=>simp[a6]at d
def RN{b:Bool}(h:∀w,Calls ai 216 #[.agg #[.int .u64 0,.int .u64 x],.agg #[.int .u64 0,.int .u64 y]] w fun e w'=>e=.returned (.tuple #[.int .i64 z,.bool b])/\Below w.heap.size w w'):PF 216 [.agg [.int .u64 0,.int .u64 x],.agg [.int .u64 0,.int .u64 y]] (.tup [.int .i64 z,.bool b]):=by
 intro w vs d
 match vs,d with
 | [a,c],d =>
  simp only[a6]at d;obtain⟨f,g,_⟩:=d;obtain rfl:=pA f;obtain rfl:=pA g;refine(h w).mono ?_;rintro e w' ⟨rfl,i⟩;refine⟨_,rfl,?_,dI.below i⟩;simp only[bM];exact⟨[.int .i64 z,.bool b],sm,by simp[a6,bM]⟩
 | [],d=>simp[a6]at d
 | [_],d=>simp[a6]at d
 | _::_::_::_,d=>simp[a6]at d
def KB(a:x<4611686018427387904)(h:y<=x):PF 216 [.agg [.int .u64 0,.int .u64 x],.agg [.int .u64 0,.int .u64 y]] (.tup [.int .i64 ((x-y:Nat):Int),.bool true]):=RN (E6 x y a h)
def KC(a:y<4611686018427387904)(h:x<y):PF 216 [.agg [.int .u64 0,.int .u64 x],.agg [.int .u64 0,.int .u64 y]] (.tup [.int .i64 0,.bool false]):=RN (C1 x y a h)

def H5(a:Nat)(b:a<18446744073709551616):bits .and .u64 (a:Int) 4294967295=((a%4294967296:Nat):Int):=by
 have h:=bits_and_u64_nat a 4294967295 b om;have e:a &&& 4294967295=a%4294967296:=GL a 32;rw[e]at h;exact h
def div64(a:Nat):(a:Int)/4294967296=((a/4294967296:Nat):Int):=om
def Ti(a b:Nat):(a:Int)*(b:Int)=((a*b:Nat):Int):=(bF a b).symm
def T0(a b:Nat):(a:Int)+(b:Int)=((a+b:Nat):Int):=(eM a b).symm
def xv(a:Nat)(b:a<18446744073709551616):IntKind.u64.wrap (a:Int)=(a:Int):=by rw[ci];omega
def Pn(a:Nat):IntKind.u64.wrap (a:Int)=((a%18446744073709551616:Nat):Int):=by rw[ci];omega
def K7(x y:Nat)(hx:x<18446744073709551616)(hy:y<18446744073709551616)(w:World):Calls ai 251 #[.int .u64 x,.int .u64 y] w fun e w'=>e=.returned (.tuple #[.int .u64 ((x*y/18446744073709551616:Nat):Int),.int .u64 ((x*y%18446744073709551616:Nat):Int)])/\w'=w:=by
 obtain⟨bd,bt,bw,hhi⟩:=Lib.mul64_hi x y hx hy;have ba:=Lib.half_mul_le (a:=x/4294967296) (b:=y/4294967296) om om;have bb:=Lib.half_mul_le (a:=x/4294967296) (b:=y%4294967296) om om;have bc:=Lib.half_mul_le (a:=x%4294967296) (b:=y/4294967296) om om;have ba':x/4294967296*(y/4294967296)<18446744073709551616:=om
 have bb':x/4294967296*(y%4294967296)<18446744073709551616:=om
 have bc':x%4294967296*(y/4294967296)<18446744073709551616:=om
 have bh1:x/4294967296*(y/4294967296)+(x/4294967296*(y%4294967296)+x%4294967296*(y%4294967296)/4294967296)/4294967296<18446744073709551616:=om
 have bh:x/4294967296*(y/4294967296)+(x/4294967296*(y%4294967296)+x%4294967296*(y%4294967296)/4294967296)/4294967296+((x/4294967296*(y%4294967296)+x%4294967296*(y%4294967296)/4294967296)%4294967296+x%4294967296*(y/4294967296))/4294967296<18446744073709551616:=om
 go_enter func251,ntmps251
 go_wp2;simp only[H5 x hx,H5 y hy,div64,Ti,T0,xv _ bd,xv _ bb',xv _ bt,H5 _ bt,xv _ bc',xv _ bw,xv _ ba',xv _ bh1,xv _ bh,Pn (x*y)];rw[hhi];go_ret2;exact⟨rfl,rfl⟩
def yD(W:Nat):∃W1 W0,W/18446744073709551616=W1/\W%18446744073709551616=W0/\W=18446744073709551616*W1+W0/\W0<18446744073709551616 :=
 ⟨_,_,rfl,rfl,(dz W 18446744073709551616).symm,dh _ om⟩
def MC(W x y:Nat)(hx:x<18446744073709551616)(hy:y<18446744073709551616)(hs:W+x*y<340282366920938463463374607431768211456)(w:World):Calls ai 215 #[.agg #[.int .u64 ((W/18446744073709551616:Nat):Int),.int .u64 ((W%18446744073709551616:Nat):Int)],.int .u64 x,.int .u64 y] w fun e w'=>e=.returned (.agg #[.int .u64 (((W+x*y)/18446744073709551616:Nat):Int),.int .u64 (((W+x*y)%18446744073709551616:Nat):Int)])/\Below w.heap.size w w':=by
 have hm:=K7 x y hx hy;generalize x*y=P at hm hs ⊢;obtain⟨W1,W0,a1,a2,a3,a4⟩:=yD W;obtain⟨P1,P0,b1,b2,b3,b4⟩:=yD P;obtain⟨C,hC⟩:∃C,C=(W0+P0)/18446744073709551616:=⟨_,rfl⟩;obtain⟨R0,hR0⟩:∃R,R=(W0+P0)%18446744073709551616:=⟨_,rfl⟩;have hR:=dz (W0+P0) 18446744073709551616;rw[<-hC,<-hR0]at hR;have hR0l:R0<18446744073709551616:=by rw[hR0];exact dh _ om
 have e1:=wR W0 P0 0 om;have q1:((W0:Int)+(P0:Int)+((0:Nat):Int))%18446744073709551616=(R0:Int):=by
  rw[hR0,kw,eM];simp
 have q2:((W0:Int)+(P0:Int)+((0:Nat):Int))/18446744073709551616=(C:Int):=by
  rw[hC,l8,eM];simp
 rw[q1,q2]at e1;clear q1 q2 hC hR0;have hC1:C<=1:=om
 have hsum:W+P=18446744073709551616*(W1+P1+C)+R0:=om
 have hlt:W1+P1+C<18446744073709551616:=om
 have r1:(W+P)/18446744073709551616=W1+P1+C:=by rw[hsum];omega
 have r0:(W+P)%18446744073709551616=R0:=by rw[hsum];omega
 rw[a1,a2,r1,r0];rw[b1,b2]at hm;have e2:=wR W1 P1 C hC1;have q3:((W1:Int)+(P1:Int)+(C:Int))%18446744073709551616=((W1+P1+C:Nat):Int):=by
  rw[<-eM,<-eM];exact dH (cO _) om
 rw[q3]at e2;clear q3 hs hsum hlt r1 r0 hR a1 a2 a3 a4 b1 b2 b3 b4 hR0l hC1;generalize ((W1:Int)+(P1:Int)+(C:Int))/18446744073709551616=cc at e2;generalize W1+P1+C=R1 at *
 go_enter func215,ntmps215
 go_wp2_with fail
 refine(hm _).mono ?_;rintro e w' ⟨rfl,hw'⟩;rw[hw']
 go_wp2_with (first|simp only[show(0:Int)=((0:Nat):Int)from rfl,e1]|simp only[e2])
 refine cM (v:=.agg #[.int .u64 (R1:Int),.int .u64 (R0:Int)]) (by simp[results,results215,go_sem]) rfl ⟨rfl,((aY _ w).alloc (ae _) _).alloc sm _⟩
def Jm{c:Nat}(a:x<18446744073709551616)(b:y<18446744073709551616)(d:c<=1):(x+18446744073709551616-y-c)%18446744073709551616=if x<y+c then x+18446744073709551616-y-c else x-y-c:=by
 split
 .exact ef om
 .rw[(om:x+18446744073709551616-y-c=(x-y-c)+18446744073709551616),Nat.add_mod_right]
  exact ef om
def G2(W V:Nat)(hW:W<340282366920938463463374607431768211456)(hV:V<340282366920938463463374607431768211456)(w:World):Calls ai 216 #[.agg #[.int .u64 ((W/18446744073709551616:Nat):Int),.int .u64 ((W%18446744073709551616:Nat):Int)],.agg #[.int .u64 ((V/18446744073709551616:Nat):Int),.int .u64 ((V%18446744073709551616:Nat):Int)]] w fun e w'=>e=.returned (.tuple #[.int .i64 (if V<=W/\W-V<=4611686018427387904 then((W-V:Nat):Int)else 0),.bool (decide (V<=W/\W-V<=4611686018427387904))])/\Below w.heap.size w w':=by
 obtain⟨W1,W0,a1,a2,a3,a4⟩:=yD W;obtain⟨V1,V0,b1,b2,b3,b4⟩:=yD V;rw[a1,a2,b1,b2];have e1:=pH W0 V0 0 om;rw[Jm a4 b4 om]at e1;obtain⟨c,hc,hc1⟩:∃c,c=(if W0<V0+0 then 1 else 0:Nat)/\c<=1:=⟨_,rfl,by split<;>omega⟩
 obtain⟨lo,hlo⟩:∃z,z=(if W0<V0+0 then W0+18446744073709551616-V0-0 else W0-V0-0:Nat):=⟨_,rfl⟩
 rw[<-hc,<-hlo]at e1;have e2:=pH W1 V1 c hc1;rw[Jm om om hc1]at e2;obtain⟨br,hbr⟩:∃z,z=(if W1<V1+c then 1 else 0:Nat):=⟨_,rfl⟩
 obtain⟨hi,hhi⟩:∃z,z=(if W1<V1+c then W1+18446744073709551616-V1-c else W1-V1-c:Nat):=⟨_,rfl⟩
 rw[<-hbr,<-hhi]at e2;have q':(br=0/\hi=0/\lo<=4611686018427387904/\V<=W/\W-V<=4611686018427387904/\lo=W-V)∨(¬(V<=W/\W-V<=4611686018427387904)/\(br=1∨(br=0/\hi≠0/\0<hi)∨(br=0/\hi=0/\4611686018427387904<lo))):=by
  by_cases c0:W0<V0+0
  .rw[ah c0]at hc hlo;subst hc;by_cases c1:W1<V1+1
   .rw[ah c1]at hbr hhi;right;omega
   .rw[af c1]at hbr hhi;by_cases c2:hi=0
    .omega
    .right;omega
  .rw[af c0]at hc hlo;subst hc;by_cases c1:W1<V1+0
   .rw[ah c1]at hbr hhi;right;omega
   .rw[af c1]at hbr hhi;by_cases c2:hi=0
    .omega
    .right;omega
 have hlol:lo<18446744073709551616:=by rw[hlo];split<;>omega
 clear hc hlo hbr hhi hc1 a1 a2 b1 b2 a3 b3 a4 b4;generalize hR:(if V<=W/\W-V<=4611686018427387904 then((W-V:Nat):Int)else 0)=R
 generalize hB:decide (V<=W/\W-V<=4611686018427387904)=B;rcases q' with⟨rfl,rfl,h3,h4,h5,rfl⟩|⟨h4,h5⟩
 .rw[ah ⟨h4,h5⟩]at hR;rw[nZ (show V<=W/\W-V<=4611686018427387904 from⟨h4,h5⟩)]at hB;subst hR;subst hB;clear hW hV h4 h5;generalize W-V=lo at *;have h1:¬(4611686018427387904:Int)<lo:=om
  have w1:IntKind.i64.wrap (lo:Int)=lo:=by rw[mC];omega
  go_enter vR,sB
  go_wp2_with (first|simp only[show(0:Int)=((0:Nat):Int)from rfl,e1]|simp only[e2])
  go_ret2;exact⟨rfl,((aY _ w).alloc (ae _) _).alloc sm _⟩
 .rw[af h4]at hR;rw[p9 h4]at hB;subst hR;subst hB;clear hW hV h4;rcases h5 with rfl|⟨rfl,h6,h7⟩|⟨rfl,rfl,h6⟩
  .go_enter vR,sB
   go_wp2_with (first|simp only[show(0:Int)=((0:Nat):Int)from rfl,e1]|simp only[e2])
   go_ret2;exact⟨rfl,((aY _ w).alloc (ae _) _).alloc sm _⟩
  .have h8:((hi:Nat):Int)≠0:=om
   go_enter vR,sB
   go_wp2_with (first|simp only[show(0:Int)=((0:Nat):Int)from rfl,e1]|simp only[e2])
   go_ret2;exact⟨rfl,((aY _ w).alloc (ae _) _).alloc sm _⟩
  .have h1:(4611686018427387904:Int)<lo:=om
   go_enter vR,sB
   go_wp2_with (first|simp only[show(0:Int)=((0:Nat):Int)from rfl,e1]|simp only[e2])
   go_ret2;exact⟨rfl,((aY _ w).alloc (ae _) _).alloc sm _⟩
def RO(W:Nat):AV:=.agg [.int .u64 ((W/18446744073709551616:Nat):Int),.int .u64 ((W%18446744073709551616:Nat):Int)]
def yx(h:x<18446744073709551616)(i:y<18446744073709551616)(j:W+x*y<340282366920938463463374607431768211456):PF 215 [RO W,.int .u64 x,.int .u64 y] (RO (W+x*y)):=by
 intro w vs d
 match vs,d with
 | [a,b,c],d =>
  simp only[a6]at d;obtain⟨k,f,g,_⟩:=d;obtain rfl:=pA k;simp only[bM]at f g;subst f;subst g;refine(MC W x y h i j w).mono ?_;rintro e w' ⟨rfl,l⟩;exact⟨_,rfl,Je _ _ _ _,dI.below l⟩
 | [],d=>simp[a6]at d
 | [_],d=>simp[a6]at d
 | [_,_],d=>simp[a6]at d
 | _::_::_::_::_,d=>simp[a6]at d
def B7{V:Nat}(d:W<340282366920938463463374607431768211456)(f:V<340282366920938463463374607431768211456):PF 216 [RO W,RO V] (.tup [.int .i64 (if V<=W/\W-V<=4611686018427387904 then((W-V:Nat):Int)else 0),.bool (decide (V<=W/\W-V<=4611686018427387904))]):=by
 intro w vs b
 match vs,b with
 | [a,c],b =>
  simp only[a6]at b;obtain⟨g,h,_⟩:=b;obtain rfl:=pA g;obtain rfl:=pA h;refine(G2 W V d f w).mono ?_;rintro e w' ⟨rfl,i⟩;refine⟨_,rfl,?_,dI.below i⟩;generalize (if V<=W/\W-V<=4611686018427387904 then((W-V:Nat):Int)else 0)=z
  generalize decide (V<=W/\W-V<=4611686018427387904)=β;simp only[bM];exact⟨[.int .i64 z,.bool β],sm,by simp[a6,bM]⟩
 | [],b=>simp[a6]at b
 | [_],b=>simp[a6]at b
 | _::_::_::_,b=>simp[a6]at b

noncomputable section
def Bm:List ResultVar->TE->EL->Option (List XV)
 | [],_,_=>some []
 | .tmp t::r,te,l=>(match Bm r te l with
  | some L=>some (kg te t::L)
  | ab=>ab)
 | .cell p ty::r,te,l=>(match xt ty (kg te p) l with
  | some v=>(match Bm r te l with
   | some L=>some (v::L)
   | ab=>ab)
  | ab=>ab)
theorem CY{φ:Ph}{te:TE}{O:Tm}{l:EL}{S:St}(c:TR φ te O)(d:MR φ l S):∀{rs:List ResultVar} {L:List XV} {K:List AV->Prop},Bm rs te l=some L->(∀L',fO φ L L'->K L')->yo rs O S K
 | [],L,K,h,b=>by
  simp only[Bm]at h;cases h;exact b [] (by simp[fO])
 | .tmp t::r,L,K,h,b=>by
  simp only[Bm]at h
  cases a:Bm r te l with
  | none=>rw[a]at h;cases h
  | some L1 =>
   rw[a]at h;cases h;exact CY (rs:=r) (K:=fun l=>K (O t::l)) c d a fun L' e=>b _ (by simp only[fO];exact⟨c t,e⟩)
 | .cell p ty::r,L,K,h,b=>by
  simp only[Bm]at h
  cases f:xt ty (kg te p) l with
  | none=>rw[f]at h;cases h
  | some v =>
   rw[f]at h
   cases a:Bm r te l with
   | none=>rw[a]at h;cases h
   | some L1 =>
    rw[a]at h;cases h;exact EX f (c p) d fun z g=>CY (rs:=r) (K:=fun l=>K (z::l)) c d a fun L' e=>b _ (by simp only[fO];exact⟨g,e⟩)
def N2:List XV->XV
 | [x]=>x
 | l=>.tup l
def QL(h:fO φ L L'):ER φ (N2 L) (rk L'):=by
 match L,L',h with
 | [],[],h=>simp only[N2,rk,ER];exact⟨_,rfl,h⟩
 | [x],[a],h=>simp only[fO]at h;exact h.1
 | x::y::L,a::b::L',h=>simp only[N2,rk,ER];exact⟨_,rfl,h⟩
 | [],_::_,h=>simp[fO]at h
 | _::_,[],h=>simp[fO]at h
 | [_],_::_::_,h=>simp[fO]at h
 | _::_::_,[_],h=>simp[fO]at h
structure XF where
 code:Code
 res:List ResultVar
 N:Nat
 hm:Nat
variable{tbl:Nat->Option XF}
def B3(call:eP)(F:XF)(args:List XV)(nx:Nat)(l:EL):XR:=match Nat.ble args.length F.N with
 | true=>(match mN call F.hm 5000 F.code (zY args) nx l with
  | some (e,te,nx',l')=>(match e with
   | .exit _=>ab
   | _=>match Bm F.res te l' with
    | some L=>some (N2 L,nx',l')
    | ab=>ab)
  | ab=>ab)
 | false=>ab
structure Sk(f:Nat)(F:XF):Prop where
 rng:(11<=f/\f<270)/\f≠252/\f≠253
 fn:∃fn,ai.funcs[f]? = some fn/\fn.body=some F.code/\fn.results.toList=F.res/\fn.ntmps=F.N
 code:jt F.N F.code=true
 regs:kW F.hm F.code=true
def SS(h:fO φ args as'):TR φ (zY args) (KI as'):=fun t=>by
 rw[Ht];unfold KI;rw[io,io]
 cases e:args[t]? with
 | some x =>
  obtain⟨a,b,c⟩:=h.get e;rw[b];exact c
 | none=>simp[ER]
def E3{call:eP}(m:nE call)(n:vC call){f:Nat}{F:XF}(d:Sk f F){args:List XV}{nx:Nat}{l:EL}{r:XV×Nat×EL}(h:B3 call F args nx l=some r){φ:Ph}(o:GP φ){as':List AV}(j:fO φ args as'){S:St}(p:MR φ l S){K:AV->St->Prop}(q:XK φ r.1 r.2.2 K):cZ f as' S K:=by
 obtain⟨fn,s,t,u,v⟩:=d.fn;unfold B3 at h;split at h
 .rename_i b;split at h
  .rename_i e te nx' l' w;have a:as'.length<=F.N:=by rw[j.length];exact cE b
   refine o8 s t F.N v d.code a ?_;refine MA m n F.hm 5000 F.code (zY args) nx l _ d.regs w o (SS j) p fun ψ O' S' x y k=>?_;rw[u];have fin:∀{L},Bm F.res te l'=some L->r=(N2 L,nx',l')->yo F.res O' S' (fun l=>K (rk l) S'):=fun c e=>by
    subst e;exact CY y k c fun L' g=>q ψ _ S' x (QL g) k
   cases e with
   | exit i=>cases h
   | normal =>
    dsimp only at h;split at h
    .rename_i L c;cases h;exact fin c rfl
    .cases h
   | ret =>
    dsimp only at h;split at h
    .rename_i L c;cases h;exact fin c rfl
    .cases h
  .cases h
 .cases h
mutual
def th:XV->Bool
 | .int ..=>true
 | .bool _=>true
 | .big _=>true
 | .nil=>true
 | .tup l=>E7 l
 | .agg l=>E7 l
 | _=>false
def E7:List XV->Bool
 | []=>true
 | x::l=>th x&&E7 l
end
mutual
theorem Jf:∀(x:XV),th x=true->∃z:AV,qZ z=true/\∀(φ:Ph) (a:AV),ER φ x a↔a=z
 | .int k n,_=>⟨.int k n,rfl,fun φ a=>by simp[ER]⟩
 | .bool b,_=>⟨.bool b,rfl,fun φ a=>by simp[ER]⟩
 | .big z,_=>⟨.big z,rfl,fun φ a=>by simp[ER]⟩
 | .nil,_=>⟨.nil,rfl,fun φ a=>by simp[ER]⟩
 | .tup l,h=>by
  simp only[th]at h;obtain⟨L,d,c⟩:=zp l h;refine⟨.tup L,by simpa [qZ]using d,fun φ a=>?_⟩
  simp only[ER];exact⟨fun⟨r,e,f⟩=>by rw[e,(c φ r).1 f],fun e=>⟨L,e,(c φ L).2 rfl⟩⟩
 | .agg l,h=>by
  simp only[th]at h;obtain⟨L,d,c⟩:=zp l h;refine⟨.agg L,by simpa [qZ]using d,fun φ a=>?_⟩
  simp only[ER];exact⟨fun⟨r,e,f⟩=>by rw[e,(c φ r).1 f],fun e=>⟨L,e,(c φ L).2 rfl⟩⟩
 | .sl ..,h=>by simp[th]at h
 | .ptr ..,h=>by simp[th]at h
 | .lst ..,h=>by simp[th]at h
 | .pat ..,h=>by simp[th]at h
 | .fn ..,h=>by simp[th]at h
 | .any,h=>by simp[th]at h
 | .nfn,h=>by simp[th]at h
 | .mfn ..,h=>by simp[th]at h
theorem zp:∀(l:List XV),E7 l=true->∃L:List AV,Bv L=true/\∀(φ:Ph) (r:List AV),fO φ l r↔r=L
 | [],_=>⟨[],rfl,fun φ r=>by cases r<;>simp[fO]⟩
 | x::l,h=>by
  simp only[E7,ay]at h;obtain⟨z,b,c⟩:=Jf x h.1;obtain⟨L,d,e⟩:=zp l h.2;refine⟨z::L,by simp[Bv,b,d],fun φ r=>?_⟩
  cases r with
  | nil=>simp[fO]
  | cons a r=>simp only[fO,jT,c,e]
end
def OK(leaf:Nat->List XV->Option XV):Prop:=∀f args v,leaf f args=some v->((11<=f/\f<270)/\f≠252/\f≠253)/\∀φ as',fO φ args as'->∃z,(∀ψ,ER ψ v z)/\PF f as' z
def Sq(tbl:Nat->Option XF):Prop:=∀f F,tbl f=some F->Sk f F
def Sb:EL:=.n (some ab) .e .e
def Jd(isL:Nat->Bool)(leaf:Nat->List XV->Option XV)(tbl:Nat->Option XF)(call:eP)(f:Nat)(args:List XV)(nx:Nat)(l:EL):XR:=match isL f with
  | true=>(match leaf f args with
   | some v=>some (v,nx,l)
   | ab=>ab)
  | false=>(match tbl f with
   | ab=>ab
   | some F=>(match Cm f with
    | true=>(match B3 call F args 1 Sb with
     | some (v,_,_)=>(match mj args&&th v with
      | true=>some (v,nx,l)
      | false=>ab)
     | ab=>ab)
    | false=>B3 call F args nx l))
def xu(isL:Nat->Bool)(leaf:Nat->List XV->Option XV)(tbl:Nat->Option XF)(n:Nat):eP:=Nat.rec (motive:=fun _=>eP) (fun _ _ _ _=>ab) (fun _ ih=>Jd isL leaf tbl ih) n
def zh(f:Nat)(args:List XV)(nx:Nat)(l:EL):xu isL leaf tbl 0 f args nx l=ab:=rfl
def zi(n f:Nat)(args:List XV)(nx:Nat)(l:EL):xu isL leaf tbl (n+1) f args nx l=Jd isL leaf tbl (xu isL leaf tbl n) f args nx l:=rfl
def zj:∀n,vC (xu isL leaf tbl n)
 | 0=>fun f args nx l r _ h=>by rw[zh]at h;cases h
 | n+1=>fun f args nx l r a h=>by
  simp only[zi,Jd]at h ⊢
  cases b:isL f with
  | true =>
   rw[b]at h;dsimp only at h ⊢
   cases c:leaf f args with
   | none=>rw[c]at h;cases h
   | some v=>rw[c]at h;cases h;exact⟨rfl,fun _ _=>rfl⟩
  | false =>
   rw[b]at h;dsimp only at h ⊢
   cases d:tbl f with
   | none=>rw[d]at h;cases h
   | some F =>
    rw[d,a]at h;rw[a];dsimp only at h ⊢
    cases e:B3 (xu isL leaf tbl n) F args 1 Sb with
    | none=>rw[e]at h;cases h
    | some p =>
     obtain⟨v,q⟩:=p;rw[e]at h;dsimp only at h ⊢
     cases g:(mj args&&th v)with
     | false=>rw[g]at h;cases h
     | true=>rw[g]at h;cases h;exact⟨rfl,fun _ _=>rfl⟩
def φ0:Ph:=fun i=>if i=0 then some 0 else ab
def Ab(i:Nat):eW Sb i=if i=0 then some ab else ab:=by
 unfold Sb;rw[kl,Ac,Ac];split
 .rfl
 .split<;>rfl
def MR.empty:MR φ0 Sb St.none:=by
 refine⟨fun i a=>?_,fun i X a=>?_,fun i j X Y b a=>?_⟩
 .unfold φ0;rw[Ab]at a;by_cases e:i=0
  .rw[ah e]at a;cases a
  .rw[af e]
 .rw[Ab]at a;split at a<;>cases a
 .rw[Ab]at a;split at a<;>cases a
theorem E0{isL:Nat->Bool}{leaf:Nat->List XV->Option XV}{tbl:Nat->Option XF}(u:OK leaf)(w:Sq tbl):∀n,nE (xu isL leaf tbl n)
 | 0=>fun f args nx l r h=>by rw[zh]at h;cases h
 | n+1=>fun f args nx l r h φ as' S K y e g i=>by
  have ih:=E0 u w (isL:=isL) n;simp only[zi,Jd]at h
  cases x:isL f with
  | true =>
   rw[x]at h;dsimp only at h
   cases j:leaf f args with
   | none=>rw[j]at h;cases h
   | some v =>
    rw[j]at h;cases h;obtain⟨k,d⟩:=u f args v j;obtain⟨z,A,m⟩:=d φ as' e;exact⟨k,m.call (i φ z S (Ph.le_refl _) (A φ) g)⟩
  | false =>
   rw[x]at h;dsimp only at h
   cases o:tbl f with
   | none=>rw[o]at h;cases h
   | some F =>
    rw[o]at h;have s:=w f F o;refine⟨s.rng,?_⟩
    cases b:Cm f with
    | false =>
     rw[b]at h;exact E3 ih (zj n) s h y e g i
    | true =>
     rw[b]at h;dsimp only at h
     cases t:B3 (xu isL leaf tbl n) F args 1 Sb with
     | none=>rw[t]at h;cases h
     | some p =>
      obtain⟨v,q⟩:=p;rw[t]at h;dsimp only at h
      cases c:(mj args&&th v)with
      | false=>rw[c]at h;cases h
      | true =>
       rw[c]at h;cases h;simp only[ay]at c;obtain⟨z,k,d⟩:=Jf v c.2;have:PF f as' z:=PF.of_spec (E3 ih (zj n) s t (φ:=φ0) (by simp[GP,φ0]) (nS _ _ c.1 e) MR.empty fun ψ a S' _ m _=>by
        have:=(d ψ a).1 m;subst this;exact VR.mf k)
       exact this.call (i φ z S (Ph.le_refl _) ((d φ z).2 rfl) g)
end

end Go.Proofs.YtdobfmlmenaajaaGreatDoor
