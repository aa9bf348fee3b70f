/-
  Lemmas for NeighbourBack.
-/
import Derived.Test.YtdobfmlmenaajaaGreatDoorB17
namespace Go.Proofs.YtdobfmlmenaajaaGreatDoor
open Go.RowKit Tryz
set_option maxHeartbeats 6400000
set_option maxRecDepth 4096
set_option linter.all false
attribute [local go_sem] Nat.reduceAdd Nat.reduceEqDiff Nat.reduceLeDiff Nat.reduceLT reduceCtorEq Int.ofNat_lt decide_true decide_false Int.zero_le_ofNat
attribute [local go_sem ↓] reduceIte
variable{x y z:AV}{K:AV->St->Prop}{Q:AX->Tm->St->Prop}{c p:Int}{args:List AV}{b f n:Nat}{g h:Nat->AV}{v:Nat->Nat}{S:St}{O:Tm}{A B0 H:az}
def MY{a b c r:Code}(P:Tm->St->Prop)(h:∀r' Q',Q'=Q->(∀O S,P O S->Aw r' Q' O S)->Aw (.seq a (.seq b (.seq c r'))) Q' O S)(d:∀O S,P O S->Aw r Q O S):Aw (.seq a (.seq b (.seq c r))) Q O S:=h r Q rfl d
def QG.rb{Q:az}(h:QG n Q):(∀i j,i<n->j<n->mH n Q i j=mH n Q j i)/\vu (mH n Q) n :=
 ⟨h.red.1.pd.sym,h.red.1.pd.pos,by rw[h.red.2];exact h.dt,h.red.1.rows⟩
def CO{p:Nat}(d:eQ n H)(i:jw (det n H) p)(e:nI p)(j:jn n p H v)(l:tC n p H v B0):PF 14 [av n n H,ι p,aK n (fun k=>v k)] (.tup [av n n (mH n (ko n p H B0)),av n n (jZ n (ko n p H B0)),ι 0]):=by
 refine PF.of_spec ((ym St.none n p H v d i e j trivial).mono ?_);rintro _ S' ⟨b,g,c,gc,B,S1,S2,S3,rfl,h,o,f,m,a⟩;rw[se (h.uniq d e l)]at f a;exact VR.tup3 (f.1.ext (m.trans a.2.1)).vr a.1.vr (VR.mf rfl)
def Np(a:c≠0)(h:F9 59 [x,y,z] c):Et 14 [x,y,z] (.tup [.nil,.nil,ι c]):=fun S b=>by
 refine jg func14 ntmps14 results14 ?_;simp -dsimp only[go_sem,aa];refine(L1 a h S b).mono ?_;rintro _ S1 ⟨rfl,d⟩;simp only[go_sem,aa,show(c != 0)=true by simpa using a]
 exact d
def R8{p:Nat}(a:eQ n H)(b:nI p)(c:jn n p H v)(d:tC n p H v B0):∀i j,i<n->j<n->xa (jZ n (ko n p H B0) i j):=fun i j e f=>by
 have:=(d.qg a b c).wfit e f;unfold xa;omega
def M7{G W Q:az}{v:AV}(f:1<=n)(a:n<=8)(g:Et 25 [av n n H,ι p,v] (.tup [av n n Q,ι 0]))(b:PF 48 [av n n G] (.bool true))(c:(∀i j,i<n->j<n->G i j=G j i)/\vu G n)(h:∀i j,i<n->j<n->xa (W i j))(e:PA n G W/\∀i j,i<n->j<n->rt n G (fun i r=>W r i) i j=Q i j):Et 17 [av n n H,ι p,v,av n n G,av n n W] (ι 0):=fun S k=>by
 refine jg func17 ntmps17 results17 ?_;simp -dsimp only[go_sem,aa];refine(g S k).mono ?_;rintro _ S1 ⟨rfl,l⟩;simp -dsimp only[go_sem,aa,aR];refine b.call ?_;simp -dsimp only[go_sem,aa,av,aR];refine(C7 n n (fun _=>n) W true om ⟨fun _=>⟨rfl,fun _ _=>rfl⟩,fun _=>rfl⟩).call ?_;simp -dsimp only[go_sem,aa];refine(yl.lift (yy n G W f a (fun i j m o=>by have:=(c.2.red c.1 a).entry a m o;omega) c h true ⟨fun _=>e.1,fun _=>rfl⟩) S1 _ (cD _ _)).mono ?_
 rintro _ S2 ⟨⟨_,t,u,rfl,q⟩|⟨s,_⟩,d⟩
 .simp -dsimp only[go_sem,aa];refine(yB n n _ Q true om om ⟨fun _=>e.2,fun _=>rfl⟩).spec (eM.three q.vr.va (VA.refl _ _) (VA.refl _ _)) ?_;simp only[go_sem];exact l.trans d
 .cases s
def PU{p:Nat}(a:eQ n H)(f:jw (det n H) p)(b:nI p)(c:jn n p H v)(d:tC n p H v B0)(g:PA n (mH n (ko n p H B0)) (jZ n (ko n p H B0))/\∀i j,i<n->j<n->rt n (mH n (ko n p H B0)) (fun i r=>jZ n (ko n p H B0) r i) i j=ko n p H B0 i j):Et 17 [av n n H,ι p,aK n (fun k=>v k),av n n (mH n (ko n p H B0)),av n n (jZ n (ko n p H B0))] (ι 0):=by
 have e:=d.qg a b c;exact M7 a.one a.eight (PT a f b c d).1 (mS n _ true a.one a.eight ⟨fun _=>e.rb,fun _=>rfl⟩) e.rb (R8 a b c d) g

def Et.pf(a:rm z=true)(h:Et f args z):PF f args z :=
 PF.of_spec ((h St.none trivial).mono fun r S' ⟨e,_⟩=>by rw[e];exact VR.mf a)
def I2:az:=fun i j=>if i=j then 1 else 0
def v12:Nat->Nat:=fun i=>i+1
def vI:eQ 2 I2:=by
 refine⟨om,om,⟨⟨fun a b _ _=>by simp[I2,eq_comm],fun k c=>?_⟩,⟨fun r d j e=>?_,fun r f d=>?_⟩,fun k c=>?_⟩,by decide⟩
 .rcases (om:k=0∨k=1∨k=2)with rfl|rfl|rfl<;>decide
 .obtain⟨rfl,rfl⟩:r=1/\j=0:=om
  unfold ig;decide
 .obtain rfl:r=1:=om
  unfold gS;decide
 .rcases (om:k=0∨k=1∨k=2)with rfl|rfl|rfl<;>decide
def sw:jw (det 2 I2) 5:=⟨om,om,⟨om,fun d a b=>by
 have:d<3:=by
  rcases aB d 3 with h|h
  .exact h
  .have:=aX h h;omega
 obtain rfl:d=2:=om
 omega⟩,by decide⟩
def vH:jn 2 5 I2 v12:=⟨fun i a=>by unfold v12;omega,by decide,by decide⟩
def red2(h:Ed A 2)(g:det 2 A=1):A 0 0=1/\A 1 1=1/\A 0 1=0/\A 1 0=0:=by
 have j:=h.pd.sym 0 1 om om;have k:=h.pd.pos 1 om;have f:=h.rows.1 1 om 0 om;have e:=h.rows.2 1 om om;have l:fq A 1 0=A 1 0:=by show cl A 0 1 0=A 1 0;exact eV ..
 unfold ig at f;unfold gS at e;rw[l]at f e;rw[uL]at g;simp only[aM,bR,Nat.reduceAdd,DP,uL,show det 0 A=1 from rfl,cU]at k f e;rw[j]at g e ⊢;rw[g]at e;generalize A 0 0=a at *;generalize A 1 0=b at *;generalize A 1 1=c at *;have o:=oX (x:=b) (d:=a) f;have m:a=1:=by
  rcases jo a 2 with i|i
  .omega
  .have p:2*2<=a*a:=ck i i om om;omega
 subst m;have n:b=0:=om
 subst n;exact⟨rfl,om,rfl,rfl⟩
def rT:az:=fun i j=>if i=0 then(if j=0 then 1 else 0)else if j=0 then 7 else 25
def FZ:tC 2 5 I2 v12 rT:=by
 refine⟨fun r m=>⟨fun j b n=>?_,?_⟩,fun c j e o=>?_,⟨0,om,by decide⟩,⟨fun i=>if i=0 then 1 else 7,fun i g=>?_,by decide,fun y=>⟨?_,?_⟩⟩⟩
 .obtain⟨rfl,rfl⟩:r=0/\j=1:=om
  rfl
 .rcases (om:r=0∨r=1)with rfl|rfl<;>decide
 .obtain⟨rfl,rfl⟩:c=1/\j=0:=om
  decide
 .rcases (om:i=0∨i=1)with rfl|rfl<;>decide
 .rintro⟨c,e⟩;have d:=e 0 om;have b:=e 1 om;simp only[ap,rT]at d b;simp at d b;refine⟨c 0,fun i=>if i=0 then 0 else 5*c 1,fun i g=>?_,?_⟩
  .rcases (om:i=0∨i=1)with rfl|rfl
   .simp;omega
   .simp;omega
  .have f:wL 2 I2 5 v12 1=2:=by decide
   simp[ap,f];omega
 .rintro⟨c,a,h,k⟩;have d:=h 0 om;have b:=h 1 om;have l:wL 2 I2 5 v12 0=1:=by decide
  have f:wL 2 I2 5 v12 1=2:=by decide
  simp only[ap,l,f]at k;simp at d b k;refine⟨fun i=>if i=0 then y 0 else(y 1-7*y 0)/25,fun i g=>?_⟩
  rcases (om:i=0∨i=1)with rfl|rfl
  .simp[ap,rT]
  .simp[ap,rT];omega
def Ij{i j:Nat}(g:i<2)(h:j<2):mH 2 (ko 2 5 I2 rT) i j=I2 i j:=by
 have f:nI 5:=sw.pr om;have e:=FZ.qg vI f vH;obtain⟨a,b,c,d⟩:=red2 e.red.1 (e.red.2.trans dc)
 rcases (om:i=0∨i=1)with rfl|rfl<;>rcases (om:j=0∨j=1)with rfl|rfl
 .exact a
 .exact c
 .exact d
 .exact b
def P6(x:Int):0<=x*x:=by
 rcases Int.le_total 0 x with h|h
 .exact cC h h
 .exact Int.mul_nonneg_of_nonpos_of_nonpos h h
def Nm(i j:Nat)(a:i<2)(b:j<2):mm 2 (fun i j=>jZ 2 (ko 2 5 I2 rT) j i) (mm 2 (mH 2 (ko 2 5 I2 rT)) (jZ 2 (ko 2 5 I2 rT))) i j=ko 2 5 I2 rT i j:=by
 rw[MO];exact(FZ.qg vI (sw.pr om) vH).wgram a b
def I2_dW:det 2 (jZ 2 (ko 2 5 I2 rT))=1∨det 2 (jZ 2 (ko 2 5 I2 rT))=-1:=by
 have e:∀x y,x<2->y<2->mH 2 (ko 2 5 I2 rT) x y=I2 x y:=fun x y h k=>Ij h k;have f:det 2 (ko 2 5 I2 rT)=1:=by decide
 have g:=fun i j l m=>Nm i j l m;rw[uL]at f ⊢;rw[<-g 0 0 om om,<-g 0 1 om om,<-g 1 0 om om,<-g 1 1 om om]at f;simp only[mm,ap,e 0 0 om om,e 0 1 om om,e 1 0 om om,e 1 1 om om]at f;simp[I2]at f;generalize jZ 2 (ko 2 5 I2 rT) 0 0=a at *;generalize jZ 2 (ko 2 5 I2 rT) 0 1=b at *;generalize jZ 2 (ko 2 5 I2 rT) 1 0=c at *;generalize jZ 2 (ko 2 5 I2 rT) 1 1=d at *;exact Gv (by rw[<-f];grind)
def I2_tr:PA 2 (mH 2 (ko 2 5 I2 rT)) (jZ 2 (ko 2 5 I2 rT))/\∀i j,i<2->j<2->rt 2 (mH 2 (ko 2 5 I2 rT)) (fun i r=>jZ 2 (ko 2 5 I2 rT) r i) i j=ko 2 5 I2 rT i j:=by
 have d:=FZ.qg vI (sw.pr om) vH;have f:=d.rb.1;have g:∀i j,i<2->j<2->jm 2 (mH 2 (ko 2 5 I2 rT)) (fun r=>jZ 2 (ko 2 5 I2 rT) r i) (fun r=>jZ 2 (ko 2 5 I2 rT) r j)=ko 2 5 I2 rT i j:=fun i j a b=>d.wgram a b;have h:∀i j,i<2->j<2->(ko 2 5 I2 rT i j).natAbs<=25:=fun i j a b=>by
  rcases (om:i=0∨i=1)with rfl|rfl<;>rcases (om:j=0∨j=1)with rfl|rfl<;>decide
 refine⟨⟨I2_dW,fun i k a p=>?_,fun i j a b=>?_⟩,fun i j a b=>by rw[Kb f,g i j a b]⟩
 .have l:=Nm i i a a;have e:∀x y,x<2->y<2->mH 2 (ko 2 5 I2 rT) x y=I2 x y:=fun x y m n=>Ij m n;have c:=h i i a a;rw[<-l]at c;simp only[mm,ap,e 0 0 om om,e 0 1 om om,e 1 0 om om,e 1 1 om om]at c;simp[I2]at c;have q:=P6 (jZ 2 (ko 2 5 I2 rT) 0 i);have s:=P6 (jZ 2 (ko 2 5 I2 rT) 1 i);have o:jZ 2 (ko 2 5 I2 rT) k i*jZ 2 (ko 2 5 I2 rT) k i<=25*25:=by
   rcases (om:k=0∨k=1)with rfl|rfl<;>omega
  have:=rY om o;show(jZ 2 (ko 2 5 I2 rT) k i).natAbs<=_;omega
 .rw[wH f,g i j a om];have:=h i j a om;omega
def G4{m:Nat}{B:az}(h:∀i j,i<n->j<m->A i j=B i j)(w:World)(M:Nat->Prop)(u:Value)(d:bI w M (av n m A) u):bI w M (av n m B) u:=by
 unfold av at d ⊢;simp only[bI]at d ⊢;obtain⟨a,c,f,g,k⟩:=d;refine⟨a,c,f,g,fun l=>?_⟩;obtain⟨b,off,o,p,q,r⟩:=k l;refine⟨b,off,o,p,q,fun j e=>?_⟩;obtain⟨u,s,t⟩:=r j e;exact⟨u,s,bI.lst_congr (fun i v=>by rw[h j i e v]) t⟩
def DV{x y:Int}:da 29 2 [(0,.int .i64 x),(1,.int .i64 y)] S K=ax S (fun b=>K (.sl 1 b 0 2) (S.upd b ⟨2,1,2,fun j=>[AV.int .i64 x,.int .i64 y].getD j .any⟩)):=by
 simp only[da,dQ,cg];simp[eD,fZ,ax,dY]
def Ho{c:Nat}:da 28 2 [(0,.sl 1 b 0 2),(1,.sl 1 c 0 2)] S K=ax S (fun a=>K (.sl 1 a 0 2) (S.upd a ⟨29,1,2,fun j=>[AV.sl 1 b 0 2,.sl 1 c 0 2].getD j .any⟩)):=by
 simp only[da,dQ,cg];simp[eD,fZ,ax,dY]
def two{P:Nat->Prop}(a:P 0)(b:P 1)(i:Nat)(c:i<2):P i:=by
 rcases (om:i=0∨i=1)with rfl|rfl
 .exact a
 .exact b
def MV:PF 12 [] (.bool true):=by
 have m:nI 5:=sw.pr om;have b:=PU vI sw m vH FZ I2_tr;have c:=CO vI sw m vH FZ;generalize jZ 2 (ko 2 5 I2 rT)=W at *;have eR:=fun i j n o=>Ij (i:=i) (j:=j) n o;generalize mH 2 (ko 2 5 I2 rT)=R at *;have d:=b.pf rfl;refine iy func12 ntmps12 results12 ?_;simp -dsimp only[go_sem,DV];refine ax.intro fun ba fa=>?_
 try simp -dsimp only[go_sem,DV,Ho]
 refine ax.intro fun bb fb=>?_;have nb_a:=(af fb).1
 try simp -dsimp only[go_sem,Ho]
 refine ax.intro fun bh fh=>?_;have nh_b:=(af fh).1;have nh_a:=(af (af fh).2).1
 try simp -dsimp only[go_sem,DV,Ho]
 refine ax.intro fun bd fd=>?_;have nd_h:=(af fd).1;have nd_b:=(af (af fd).2).1;have nd_a:=(af (af (af fd).2).2).1
 try simp -dsimp only[go_sem]
 generalize a:((((St.none.upd ba ⟨2,1,2,fun j=>[AV.int .i64 1,.int .i64 0].getD j .any⟩).upd bb ⟨2,1,2,fun j=>[AV.int .i64 0,.int .i64 1].getD j .any⟩).upd bh ⟨29,1,2,fun j=>[AV.sl 1 ba 0 2,.sl 1 bb 0 2].getD j .any⟩).upd bd ⟨2,1,2,fun j=>[AV.int .i64 1,.int .i64 2].getD j .any⟩)=S5;have ua:S5 ba=some ⟨2,1,2,fun j=>[AV.int .i64 1,.int .i64 0].getD j .any⟩:=by rw[<-a];exact(aE (ai nd_a)).trans ((aE (ai nh_a)).trans ((aE (ai nb_a)).trans bW))
 have ub:S5 bb=some ⟨2,1,2,fun j=>[AV.int .i64 0,.int .i64 1].getD j .any⟩:=by rw[<-a];exact(aE (ai nd_b)).trans ((aE (ai nh_b)).trans bW)
 have uh:S5 bh=some ⟨29,1,2,fun j=>[AV.sl 1 ba 0 2,.sl 1 bb 0 2].getD j .any⟩:=by rw[<-a];exact(aE (ai nd_h)).trans bW
 have ud:S5 bd=some ⟨2,1,2,fun j=>[AV.int .i64 1,.int .i64 2].getD j .any⟩:=by rw[<-a];exact bW
 clear a;have f:eg S5 bh (fun i=>if i=0 then ba else bb) 2 2 I2:=⟨⟨_,uh,two rfl rfl⟩,two ⟨_,ua,two rfl rfl⟩ ⟨_,ub,two rfl rfl⟩,fun i j n o e=>by
  rcases (om:i=0∨i=1)with rfl|rfl<;>rcases (om:j=0∨j=1)with rfl|rfl
  .rfl
  .exact absurd e (ai nb_a)
  .exact absurd e nb_a
  .rfl⟩
 have g:oq S5 bd 2 (fun k=>((v12 k:Nat):Int)):=⟨_,ud,two rfl rfl⟩;refine c.spec (eM.three f.vr.va (VA.refl _ _) g.vr.va) ?_;simp -dsimp only[go_sem,aa,cb];refine(CA 2 2 I2 om om).spec (eM.two (fun w u p q=>G4 eR w _ u (VA.refl S5 _ w u p q)) f.vr.va) ?_;simp -dsimp only[go_sem,aa,DV];refine ax.intro fun be fe=>?_
 try simp -dsimp only[go_sem,cb]
 have h:dh S5 (S5.upd be ⟨2,1,2,fun j=>[AV.int .i64 1,.int .i64 2].getD j .any⟩):=(dh.refl S5).upd fe _;have l:oq (S5.upd be ⟨2,1,2,fun j=>[AV.int .i64 1,.int .i64 2].getD j .any⟩) be 2 (fun k=>((v12 k:Nat):Int)):=⟨_,bW,two rfl rfl⟩;refine d.spec (eM.cons (f.ext h).vr.va (eM.same (eM.cons l.vr.va (eM.same (eM.same eM.nil))))) ?_;simp only[go_sem,cb];exact VR.mf rfl
def Ht(S:St):cI 12 [] S (fun r S'=>r=.bool true/\S'=S):=MV.call ⟨rfl,rfl⟩

def Nu(a:c≠0)(h:F9 59 [x,y,z] c):Et 36 [x,y,z] (.tup [.nil,ι c]):=fun S b=>by
 refine jg func36 ntmps36 results36 ?_;simp -dsimp only[go_sem,aa];refine(L1 a h S b).mono ?_;rintro _ S1 ⟨rfl,d⟩;simp -dsimp only[go_sem,aa,show(c != 0)=true by simpa using a]
 exact d
def vQ(n:Nat)(h:AV)(p:Int)(v:AV):Prop:=(∃c:Int,c≠0/\Et 36 [h,ι p,v] (.tup [.nil,ι c])/\Et 14 [h,ι p,v] (.tup [.nil,.nil,ι c])) ∨
 ∃(w g:AV) (T:az) (k:Nat) (W:Nat->Int),n<=8/\k<=8/\(w=.nil/\k=0∨w=aK k W)/\Et 36 [h,ι p,v] (.tup [w,ι 0])/\Et 14 [h,ι p,v] (.tup [g,av n n T,ι 0])/\PF 37 [h,ι p,v,av n n T] w
def vQ.mv{h h' v v':AV}(a:vQ n h p v)(e:∀w M u,bI w M h' u->bI w M h u)(f:∀w M u,bI w M v' u->bI w M v u):vQ n h' p v':=by
 have k:∀l w M vs,bB w M (h'::ι p::v'::l) vs->bB w M (h::ι p::v::l) vs:=fun l w M=>bB.step (e w M) (bB.step (fun _ h=>h) (bB.step (f w M) fun _ h=>h));rcases a with⟨c,a,b,d⟩|⟨w,g,T,m,W,i,j,o,b,d,q⟩
 .exact a6 ⟨c,a,b.congr (k []),d.congr (k [])⟩
 .exact aQ ⟨w,g,T,m,W,i,j,o,b.congr (k []),d.congr (k []),fun W vs r s=>q W vs r (k _ _ _ _ s)⟩
def xC(n:Nat)(h v:AV)(p c:Int)(a:c≠0)(b:F9 121 [h,ι p,v] c):vQ n h p v :=
 a6 ⟨c,a,Nu a (Ct a b),Np a (Ct a b)⟩
def Is(n p:Nat)(H:az)(v:Nat->Nat)(a:eQ n H)(l:jw (det n H) p)(d:nI p)(f:jn n p H v):vQ n (av n n H) p (aK n (fun k=>v k)):=by
 have y:=a.eight;by_cases m:∃B,tC n p H v B
 case neg =>
  refine a6 ⟨1,by decide,fun S o=>?_,fun S o=>?_⟩
  .refine jg func36 ntmps36 results36 ?_;simp -dsimp only[go_sem,aa];refine(kz S n p H v a l d f o).mono ?_;rintro _ S1 ⟨_,_,_,_,B,_,_,h,_⟩;exact absurd ⟨B,h.nbB d⟩ m
  .exact(ym S n p H v a l d f o).mono fun r S' ⟨b,g,c,gc,B,S1,S2,S3,e,h,_⟩=>absurd ⟨B,h⟩ m
 obtain⟨B0,q⟩:=m;have s:=(CO a l d f q).ge;obtain⟨w,t⟩:=BK.ex n p (Ph n p (jZ n (ko n p H B0)) B0);have z:=q.qg a d f;have A:∀i j,i<n->j<n->xa (jZ n (ko n p H B0) i j):=fun i j C D=>by have:=z.wfit C D;unfold xa;omega
 have u:PF 24 [av n n H,ι p,aK n (fun k=>v k)] (.tup [av n n B0,ι 0]) :=
  PF.of_spec ((vP St.none n p H v a l d f).mono fun r S' ⟨b,g,B,S1,e,m,G,E⟩=>by rw[e];exact VR.tup2 (E.1.congr (m.uniq a d q)).vr (VR.mf rfl))
 obtain⟨k,W,x,F⟩:∃(k:Nat) (W:Nat->Int),k<=8/\(w=.nil/\k=0∨w=aK k W):=by
  rcases id t with⟨_,e⟩|⟨i,j,_,_,_,_,_,e⟩
  .exact⟨0,fun _=>0,om,a6 ⟨e,rfl⟩⟩
  .exact⟨n,_,y,aQ e⟩
 exact aQ ⟨w,_,_,k,W,y,x,F,fun S o=>Gb S n p H v B0 w a l d f o q t,s,K9 n p H v B0 _ w a l d f q u A t⟩
def VA.sl{ty es off len:Nat}(e:aY S b ty es n g)(s:off+len<=n)(f:∀j,j<len->VA S (g (off+j)) (h j)):VA S (.sl es b off len) (.lst es len h):=by
 intro w v a c;obtain⟨g',i,k⟩:=e;obtain⟨cs,d,t,l,x⟩:=a b _ i;simp only[bI]at c ⊢;obtain⟨cap,cs',ty',fr',rfl,m,_,_⟩:=c;refine⟨_,cap,rfl,m,fun y=>⟨b,es*off,rfl,fN d,fun o=>o,fun j p=>?_⟩⟩;obtain⟨u,q,r⟩:=l (off+j) (by simp only;omega)
 refine⟨u,⟨cs,ty,(0,0),d,by rw[<-bV];exact q⟩,f j p w u a ?_⟩
 rw[<-k (off+j) om];exact r
def Ga{l:Nat}{v:Nat->Int}(d:1<=n)(e:n<=8):vQ n (av n n H) p (aK l v):=by
 have c:=fun S g=>Cr S n H p d e g;by_cases b:ro n H p=0
 .obtain⟨j,k,m⟩:=J9 b;obtain⟨q,rfl,a⟩:=k.nat;rw[b]at c;by_cases f:l=n/\CI n q H v
  .obtain⟨rfl,o⟩:=f;obtain⟨r,s⟩:=o.nat;exact(Is _ _ _ _ j ⟨a.2.1,a.odd,a.1,m⟩ a r).mv (fun _ _ _ h=>h) fun w M u t=>bI.lst_congr (fun i x=>by rw[s i x]) t
  .exact xC n _ _ _ 26 dc (KW c (G2 n l q H v false d e (by have:=a.2.1;omega) a.2.2 ⟨(fun h=>by cases h),fun h=>absurd h f⟩))
 .exact xC n _ _ _ _ b (CJ b c)
def BackP(S0:St)(O:Tm)(S:St):Prop:=∃(m:Nat) (g:Nat->AV) (p:Int) (v:AV),O 1=.lst 1 m g/\O 2=ι p/\O 3=v/\vQ m (.lst 1 m g) p v/\dh S0 S
def G0(s:∀S,kT S->cI 12 [] S (fun r S'=>r=.bool true/\dh S S'))(S0:St)(N:kT S0)(d k L:Nat)(nums:Nat->Int)(Lb:Nat)(base:Nat->AV)(q t:Nat)(X:d<256)(Y:k<256)(Z:q<256)(ht:t<65536)(hnums:∀i,i<L->-128<=nums i/\nums i<=127)(m:Nat)(len:Nat->Nat)(A:az)(p:Int)(l:Nat)(v:Nat->Int)(mk:Bool)(hA:∀i j,i<m->j<len i->xa (A i j)) :
  cI 10 [AB d k L nums Lb base q t,lW m len A,ι p,aK l v,.bool mk] S0 (fun r S'=>r=.bool true/\dh S0 S'):=by
 refine jg func10 ntmps10 results10 ?_;refine MY (BackP S0) (fun r' Q' F key=>?_) ?_
 .simp -dsimp only[go_sem,aa,AB,ed,aU,bF,ca,cA];refine ax.intro fun b1 f1=>?_;have a:dh S0 (S0.upd b1 ⟨27,1,6,fun j=>[AV.int .u8 d,.int .u8 k,.lst 1 L (fun i=>.int .i8 (nums i)),.lst 1 Lb base,.int .u8 q,.int .u16 t].getD j .any⟩):=(dh.refl S0).upd f1 _;have e:=N.ext a;by_cases hb:12<m∨∃i,i<m/\12<len i
  .refine(Fd m len A true ⟨fun _=>hb,fun _=>rfl⟩).call ?_;simp -dsimp only[go_sem,aa,lW,aK];refine(s _ e).mono ?_;rintro _ S2 ⟨rfl,b⟩;simp -dsimp only[go_sem];rw[F];simp -dsimp only[go_sem];exact a.trans b
  refine(Fd m len A false ⟨(fun h=>by cases h),fun h=>absurd h hb⟩).call ?_
  by_cases hl:12<l
  .simp -dsimp only[go_sem,aa,lW,aK,show(12:Int)<(l:Int) by omega]
   refine(s _ e).mono ?_;rintro _ S2 ⟨rfl,b⟩;simp -dsimp only[go_sem];rw[F];simp -dsimp only[go_sem];exact a.trans b
  simp -dsimp only[go_sem,aa,lW,aK,(om:¬(12:Int)<(l:Int))]
  cases mk
  case false =>
   simp -dsimp only[go_sem,aa];have G:vQ m (lW m len A) p (aK l v):=by
    by_cases h:SqR m len
    .obtain⟨h1,h8,I⟩:=h;exact(Ga h1 h8).mv (fun w M u hu=>bI.lst_congr (fun i hi=>by rw[I i hi]) hu) fun _ _ _ h=>h
    .exact xC m _ _ _ 6 dc (CJ dc fun S N=>Ks m len A p om h S N)
   refine key _ _ ⟨m,_,p,aK l v,?_,?_,?_,G,a⟩
   all_goals simp -dsimp only[go_sem,lW,av,aK]
  case true =>
   simp -dsimp only[go_sem,aa,ed,bL,bJ];refine(GW _ 4 d k L nums Lb base q t om om X Y Z ht hnums).mono ?_;rintro _ _ ⟨⟨m,p,l,H,v,ok,hF,rfl⟩,rfl⟩;have G:vQ m (av m m H) p (aK l v):=Ga hF.one hF.eight;simp -dsimp only[go_sem,aa];refine key _ _ ⟨m,_,p,aK l v,?_,?_,?_,G,a⟩
   all_goals simp -dsimp only[go_sem,lW,av,aK]
 .rintro O S ⟨m,gm,p,v,x,y,z,G,a⟩;have e:=N.ext a;clear hnums hA X Y Z ht;rcases G with⟨c,hc,P,Q⟩|⟨w,g,T,m2,W,a1,a2,a3,P,Q,c3⟩
  .simp -dsimp only[go_sem,aa,x,y,z];refine(P _ e).mono ?_;rintro _ S2 ⟨rfl,b⟩;have f:=e.ext b;simp -dsimp only[go_sem,aa,x,y,z];refine(Q _ f).mono ?_;rintro _ S3 ⟨rfl,n⟩;simp (maxSteps:=3000000) -dsimp only[go_sem,Nat.reduceEqDiff,Nat.reduceLT,↓reduceIte,reduceCtorEq,aa,show(c != 0)=true by simpa using hc,cb,decide_true]
   refine(s _ (f.ext n)).mono ?_;rintro _ S6 ⟨rfl,E⟩;simp -dsimp only[go_sem];exact((a.trans b).trans n).trans E
  .simp -dsimp only[go_sem,aa,x,y,z];refine(P _ e).mono ?_;rintro _ S2 ⟨rfl,b⟩;have f:=e.ext b;simp -dsimp only[go_sem,aa,x,y,z];refine(Q _ f).mono ?_;rintro _ S3 ⟨rfl,n⟩;have R:=f.ext n;simp -dsimp only[go_sem,aa,aR,cb,x,y,z];refine(Ea m m (fun _=>m) T true om ⟨fun _=>⟨rfl,fun _ _=>rfl⟩,fun _=>rfl⟩).call ?_;have o:dY 1 w:=by rcases a3 with⟨rfl,_⟩|rfl<;>trivial
   unfold dY at o;have D:∀S,VA S w (aK m2 W):=fun S=>by
    rcases a3 with⟨rfl,rfl⟩|rfl
    .exact fun w v hs hr=>I1 (by simpa only[bI]using hr)
    .exact VA.refl _ _
   simp -dsimp only[go_sem,aa,o,x,y,z,cb];refine ax.intro fun B U=>?_
   try simp -dsimp only[go_sem,aa,o,x,y,z,cb]
   refine c3.call ?_;simp -dsimp only[go_sem,aa,o,x,y,z,cb];refine ax.intro fun C J=>?_;have V:=(af J).1
   try simp -dsimp only[go_sem,aa,o,x,y,z,cb]
   have K:dh S3 ((S3.upd B ⟨29,1,1,fun j=>[w].getD j .any⟩).upd C ⟨29,1,1,fun j=>[w].getD j .any⟩):=((dh.refl S3).upd U _).upd (af J).2 _;have u1:aY ((S3.upd B ⟨29,1,1,fun j=>[w].getD j .any⟩).upd C ⟨29,1,1,fun j=>[w].getD j .any⟩) C 29 1 1 (fun _=>w):=aY.here fun j hj=>by
    obtain rfl:j=0:=om
    rfl
   have u2:aY ((S3.upd B ⟨29,1,1,fun j=>[w].getD j .any⟩).upd C ⟨29,1,1,fun j=>[w].getD j .any⟩) B 29 1 1 (fun _=>w):=(aY.here fun j hj=>by
    obtain rfl:j=0:=om
    rfl).upd (ai V) _
   refine(CA 1 m2 (fun _=>W) om om).spec (eM.two (VA.sl u2 om fun j _=>D _) (VA.sl u1 om fun j _=>D _)) ?_;simp -dsimp only[go_sem,aa];refine(s _ (R.ext K)).mono ?_;rintro _ S6 ⟨rfl,E⟩;simp -dsimp only[go_sem];exact(((a.trans b).trans n).trans K).trans E

end Go.Proofs.YtdobfmlmenaajaaGreatDoor
