/-
  Lemmas for NeighbourRaw.
-/
import Derived.Test.YtdobfmlmenaajaaGreatDoorH28
namespace Go.Proofs.YtdobfmlmenaajaaGreatDoor
open Go.RowKit Tryz
open _root_.Option renaming none→ab
set_option maxHeartbeats 6400000
set_option maxRecDepth 4096
set_option linter.all false
attribute [local go_sem] Nat.reduceAdd Nat.reduceEqDiff Nat.reduceLeDiff Nat.reduceLT reduceCtorEq Int.ofNat_lt decide_true decide_false Int.zero_le_ofNat
attribute [local go_sem ↓] reduceIte
variable{Q:AX->Tm->St->Prop}{ops:Array Oper}{c:Code}{t z:Int}{pend:List (Nat×eS)}{l:List Oper}{R b bh bp bu j k m n p:Nat}{q x:Nat->Int}{g gh gu v:Nat->Nat}{S:St}{O:Tm}{K:Tm->List (Nat×eS)->Prop}{A B B' H M U:aI}
def qH(n:Nat)(H:aI)(p:Int)(v:Nat->Int):Nat->Int:=fun i=>(ay n fun j=>H i j*v j)%p
def MM(n:Nat)(H:aI)(p:Int)(v:Nat->Int)(i:Nat):(ay n fun j=>lR H (p*p) i j*v j)%p=qH n H p v i:=by
 refine pe n _ _ p fun j _=>?_;show(H i j%(p*p)*v j)%p=_;rw[fX,lz _ (Int.dvd_mul_right p p),<-fX]
def C6(n:Nat)(H:aI)(p:Int)(v:Nat->Int)(i:Nat):io n H p v i=qH n H p v i:=by
 refine pe n _ _ p fun j _=>?_;show(H i j%p*(v j%p))%p=_;rw[<-fX]
theorem qf:∀(a b:List Oper) (O:Tm) (S:St) (pend:List (Nat×eS)) (K:Tm->List (Nat×eS)->Prop),GJ (a++b) O S pend K=GJ a O S pend (fun O' p'=>GJ b O' S p' K)
 | [],_,_,_,_,_=>rfl
 | o::a,b,O,S,pend,K=>by
  simp only[lO,GJ];split
  .split
   .exact qf a b _ _ _ _
   .rfl
  .simp only[qf a b]
def D7(r:Nat)(h:∀K',K'=(fun O' p'=>GE (l.drop r) O' S p' K)->GE (l.take r) O S pend K'):GE l O S pend K:=by
 have h:=h _ rfl;rw[qu]at h ⊢;rw[<-qf,xT]at h;exact h
def Rk:GE [] O S pend K=K O pend:=by rw[qu]<;>rfl
def Rj{K:Tm->St->Prop}:EC ops [] O S K=K O S:=by rw[wX]<;>rfl
def QE(h:∀Q',Q'=Q->Aw c Q' O S):Aw c Q O S:=h _ rfl
def QJ{K:Tm->St->Prop}(r q:Nat)(a:xF ops q [] false=true)
  (h:∀K',K'=(fun O' pend=>GE ((ops.toList.take q).drop r) O' S pend (fun O' pend=>if pend.isEmpty then EC ops (ops.toList.drop q) O' S K else vj pend (Ao (qb (ops.toList.take q)) O') S (fun O S=>EC ops (ops.toList.drop q) O S K)))->GE ((ops.toList.take q).take r) O S [] K'):L3 ops O S K:=by
 refine bE q a ?_;have h:=h _ rfl;rw[qu]at h ⊢;rw[<-qf,xT]at h;exact h
def LR(S:St)(n p piv:Nat)(H:aI)(v:Nat->Nat)(hF:gk n H)(hg:lp (det n H) p)(J:sH p)(hL:lX n p H v)(hG:lL S)
  (hpiv:piv<n) (K:qH n H p (fun k=>v k) piv≠0) (hsz:∀i,i<piv->qH n H p (fun k=>v k) i=0) :
  cP 121 [az n n H,.int .i64 p,aK n (fun k=>v k)] S (fun r S'=>∃b t,S b=ab/\0<=t/\t<(p:Int)/\(p:Int)*p∣lv n H (fun k=>if k=piv then((v k:Nat):Int)+p*t else v k) (fun k=>if k=piv then((v k:Nat):Int)+p*t else v k)/\r=.tup [.sl 1 b 0 n,.int .i64 0]/\bM S' b 2 1 n (fun k=>.int .i64 (if k=piv then((v k:Nat):Int)+p*t else v k))/\ft S S'):=by
 have L:=hF.one;have hn:=hF.eight;have o:=J.2;refine i9 RY Vl UI ?_;simp -dsimp only[go_sem,aa];refine(CF S n H p L hn hG).mono ?_;rintro _ S1 ⟨rfl,C⟩;rw[yG hF ⟨qL.of J,hg.2.2.2⟩];simp -dsimp only[go_sem,aa];refine(K0 n p H v L om om om hL).spec (cS _ _) ?_;have hpp:(p:Int)*p<=99460729/\9<=(p:Int)*p:=by
  rw[<-bD];have a:=a9 o.2 o.2;have b:=a9 o.1 o.1;omega
 have wpp:IntKind.i64.wrap ((p:Int)*p)=(p:Int)*p:=i64_in om om;simp -dsimp only[go_sem,aa,wpp];refine(xR n n H (p*p) L om L om om om S1 _ (cS _ _)).mono ?_;rintro _ S2 ⟨br,gr,rfl,hR,D,_,_⟩;simp -dsimp only[go_sem,aa];refine(BO S2 n (fun k=>v k) om om).mono ?_;rintro _ S3 ⟨bx,rfl,hx3,M,P⟩;have E:=hR.ext M;simp -dsimp only[go_sem];have hr:=ra (A:=H) (m:=(p:Int)*p) om;have F:∀i,i<n->(0:Int)<=(v i:Nat)/\((v i:Nat):Int)<=9972:=fun i hi=>by have:=hL.lt i hi;omega
 have Q:ft S S3:=(C.trans D).trans M;refine dI (fun O S=>∃i:Nat,i<=piv/\S3=S/\O 1=.int .i64 p/\O 2=aK n (fun k=>v k)/\O 9=.sl 1 br 0 n/\O 11=.sl 1 bx 0 n/\O 39=.sl 1 br 0 n/\O 40=.int .i64 n/\O 41=.int .i64 i) (fun O S=>n-cj (O 41)) ?_ ?_
 .simp -dsimp only[go_sem];exact⟨0,om,rfl⟩
 rintro Q' hQ' O _ ⟨i,hi,rfl,q,R,e9,d,w,x,y⟩;have f:i<n:=om
 obtain⟨g1,u1,v1⟩:=id E.outer;have x1:g1 i=.sl 1 (gr i) 0 n:=v1 i f;simp -dsimp only[go_sem,aa,q,R,w,x,y,f,u1,x1];refine(FG n p (lR H (p*p) i) (fun k=>v k) om om (fun j G=>by have:=hr i j;omega) (fun j G=>by have:=F j G;omega)).spec (fI.three (qr.vr (E.row i f)).va (VA.refl _ _) (VA.refl _ _)) ?_
 rw[MM];by_cases hip:i<piv
 .simp -dsimp only[go_sem,q,R,e9,d,w,x,y,hsz i hip,dp,aP (om:i<1000000),cj]
  exact⟨⟨i+1,om,rfl⟩,om⟩
 obtain rfl:i=piv:=om
 have hsb:(qH n H p (fun k=>v k) i==0)=false:=by simpa using K
 have T:0<=qH n H p (fun k=>v k) i/\qH n H p (fun k=>v k) i<p:=⟨aW _ om,aV _ om⟩;generalize hsl:qH n H p (fun k=>v k) i=sl at *;have w2:IntKind.i64.wrap (2*sl)=2*sl:=i64_in om om;simp -dsimp only[go_sem,q,R,e9,d,w,x,y,hsb,w2];refine aF.intro fun l U=>?_
 try simp -dsimp only[go_sem]
 refine aF.intro fun s V=>?_;have n56_55:=(ag V).1
 try simp -dsimp only[go_sem,q]
 have hIM:eI ((S3.upd l ⟨2,1,1,fun j=>[AV.int .i64 (2*sl)].getD j .any⟩).upd s ⟨29,1,1,fun j=>[AV.sl 1 l 0 1].getD j .any⟩) s (fun _=>l) 1 1 (fun _ _=>2*sl):=by
  refine⟨bM.here fun j G=>?_,fun j _=>bM.upd (bM.here fun k hk=>?_) n56_55.symm _,fun i j L h2 _=>om⟩
  .obtain rfl:j=0:=om
   rfl
  .obtain rfl:k=0:=om
   rfl
 have B:S3 s=ab:=by rwa [aO n56_55]at V
 have up2:∀{b ty es m:Nat} {g:Nat->AV},bM S3 b ty es m g->bM ((S3.upd l ⟨2,1,1,fun j=>[AV.int .i64 (2*sl)].getD j .any⟩).upd s ⟨29,1,1,fun j=>[AV.sl 1 l 0 1].getD j .any⟩) b ty es m g:=fun h=>(h.upd (h.fresh U) _).upd (h.fresh B) _;have W:ft S3 ((S3.upd l ⟨2,1,1,fun j=>[AV.int .i64 (2*sl)].getD j .any⟩).upd s ⟨29,1,1,fun j=>[AV.sl 1 l 0 1].getD j .any⟩):=((ft.refl S3).upd U _).upd B _;have h2s:0<2*sl%p/\2*sl%p<p:=by
  have a:=aW (2*sl) (show(p:Int)≠0 by omega)
  have b:=aV (2*sl) (show(0:Int)<p by omega)
  have c:2*sl%p≠0:=fun h=>by
   rcases J.1.mul 2 sl (eg h)with h|h
   .have:=mt om h;omega
   .exact K (by have:=dw h;rwa [dZ T.1 T.2]at this)
  omega
 have X:¬(p:Int)∣2*sl:=fun h=>by have:=dw h;omega
 have hei:=J.1.inv1 X;refine(uX (2*sl) p om om (J.1.gcd' X) _ _ (fI.two hIM.vr.va (VA.refl _ _))).mono ?_;rintro _ S4 ⟨bi,gi,rfl,Z,hE4,_,_⟩;have hiv:=zS (p:=(p:Int)) om (2*sl);generalize rf p (2*sl)=iv at *;have u:ft S3 S4:=W.trans hE4;have hx4:=u.has hx3;have hR4:=E.ext u;obtain⟨gb,ub,vb⟩:=id Z.outer;obtain⟨gc,uc,vc⟩:=id (Z.row 0 om);obtain⟨gx,ux,vx⟩:=id hx4;have xb:gb 0=.sl 1 (gi 0) 0 1:=vb 0 om;have xc:gc 0=.int .i64 iv:=vc 0 om;have xx:gx i=.int .i64 (v i:Nat):=vx i f;have hN:eX n (lR H (p*p)) (fun k=>v k) n%(p*p)=eX n H (fun k=>v k) n%(p*p):=zW n H _ _;have hN0:=aW (eX n H (fun k=>v k) n) (show(p:Int)*p≠0 by omega)
 have hN1:=aV (eX n H (fun k=>v k) n) (show(0:Int)<p*p by omega)
 generalize hNN:eX n H (fun k=>v k) n%((p:Int)*p)=N at *;have hk0:0<=N/p/\N/p<p:=by
  refine⟨mL hN0 om,?_⟩;exact Int.ediv_lt_of_lt_mul om hN1
 have k1:IntKind.i64.wrap (N.tdiv p)=N/p:=by rw[fM hN0];exact i64_in om om
 have k2:IntKind.i64.wrap (p-N/p)=p-N/p:=i64_in om om;have hm0:0<=(p-N/p)*iv/\(p-N/p)*iv<=99460729:=by
  have:=cN (show(p:Int)-N/p<=9973 by omega) (om:iv<=9973) hiv.1 om
  exact⟨cK om hiv.1,om⟩
 have k3:IntKind.i64.wrap ((p-N/p)*iv)=(p-N/p)*iv:=i64_in om om;have k4:((p-N/p)*iv).tmod p=(p-N/p)*iv%p:=aL hm0.1;have I:=aW ((p-N/p)*iv) (show(p:Int)≠0 by omega)
 have ht1:=aV ((p-N/p)*iv) (show(0:Int)<p by omega)
 generalize hT:(p-N/p)*iv%(p:Int)=t at *;have hnm:=Ct hF.red.pd.sym f (show(0:Int)<p by omega) hsl hei hNN hL.norm hT
 have hpt:0<=(p:Int)*t/\(p:Int)*t<=99460729:=by
  have:=cN (show(p:Int)<=9973 by omega) (om:t<=9973) I om
  exact⟨cK om I,om⟩
 have k5:IntKind.i64.wrap (p*t)=p*t:=i64_in om om;have hvi:=F i f;have k6:IntKind.i64.wrap (((v i:Nat):Int)+p*t)=((v i:Nat):Int)+p*t:=i64_in om om;have hp0:¬(p:Int)=0:=om
 simp -dsimp only[go_sem,q];refine QJ 7 19 kr fun K' hK'=>?_
 simp -dsimp only[go_sem,aa,q,R,e9,wpp];refine⟨_,(zX n (p*p) (lR H (p*p)) (fun k=>v k) om om om (fun i j _ _=>by have:=hr i j;omega) (fun j G=>by have:=F j G;omega)).pureS (fI.three hR4.vr.va (VA.refl _ _) (VA.refl _ _)),?_⟩
 rw[bD,hN,hK'];refine D7 7 fun K'' hK''=>?_;simp -dsimp only[go_sem,aa,q,ub,xb,hp0,k1,k2]
 repeat refine an ?_
 rw[hK''];refine D7 3 fun K3 hK3=>?_;simp -dsimp only[go_sem,aa,q,uc,xc,k3]
 suffices key:∀O':Tm,O' 1=.int .i64 p->O' 11=.sl 1 bx 0 n->O' 12=.int .i64 i->O' 76=.int .i64 ((p-N/p)*iv)->O' 77=.int .i64 p->K3 O' [] by
  refine key _ ?_ ?_ ?_ ?_ ?_<;>simp -dsimp only[go_sem,q,d]
 clear q R e9 d w x y hK' hK'';intro O' q d e12 e76 e77;rw[hK3];refine D7 2 fun K4 hK4=>?_;simp -dsimp only[go_sem,e76,e77,hp0,k4];rw[hK4];clear hK4 hK3;rw[show(List.drop 2 (List.drop 3 (List.drop 7 (List.drop 7 (List.take 19 (Array.toList _))))))=([]:List Oper)from rfl];dsimp only;rw[Rk];rw[show List.isEmpty ([]:List (Nat×eS))=true from rfl,ai rfl];rw[show(List.drop 19 (Array.toList _))=([]:List Oper)from rfl];rw[Rj];refine QE fun Q3 hQ3=>?_;simp -dsimp only[go_sem,aa,q,d,e12,f,ux,xx,k5,k6];rw[hQ3];simp -dsimp only[go_sem];rw[hQ'];simp -dsimp only[go_sem];have hbS:S bx=ab:=by
  cases e:S bx with
  | none=>rfl
  | some Y=>have:=D _ Y (C _ Y e);rw[P]at this;cases this
 refine⟨bx,hbS,t,I,ht1,hnm,by rw[d],bM.here fun j G=>?_,fun k Y hY=>?_⟩
 .show bW gx i _ j=_;unfold bW;by_cases z:j=i
  .rw[ai z,z,ai rfl]
  .rw[af z,af z];exact vx j G
 .have hk:k≠bx:=fun e=>by
   subst e;have:=D k Y (C k Y hY);rw[P]at this;cases this
  rw[aO hk];exact(Q.trans u) k Y hY

def Eb(f:Nat->Int){j:Nat}(a:j<n):(f j).natAbs<=dU n f:=by
 have:=md f a;omega
def nbK(h:z.natAbs<=iX k (fun _=>2^30))(a:k<=9):nb z KB:=by
 rw[Ft]at h;exact ee h (jO om (by have:=mY;omega))
def KP{p:Int}{piv:Nat}(m:1<=n)(g:n<=8)(v:0<p)(d:p<=9973)(b:piv<n)(o:∀j,j<n->0<=q j/\q j<=9972)(s:∀i,i<n->(x i).natAbs<=100000000) :
  mV n (fG n (Bg n p piv q x)):=by
 have a:=M1 g (DA (piv:=piv) om d o s);refine⟨m,g,fun σ k e k' i j c l=>?_,FA om b q x,fun R t u _ σ neg k e k' i j l c=>?_,fun r j w c=>?_⟩
 .have h:=zF a (k:=k') (i:=i) (j:=j) c e.sum;exact nbK h om
 .have h:=Bn (B:=wM (fG n (Bg n p piv q x)) n R) (N:=n+1) (f:=fun _=>2^30) (fun r _=>a _) (fun r _=>iK om) (k:=k') (i:=i) (j:=j) l c e.row;exact nbK h om
 .have h:=Eb (fG n (Bg n p piv q x) r) c;exact nbK (k:=1) (by rw[Ft];exact bQ h (a r)) om
noncomputable def F9(n:Nat):Nat:=jc KB n+jc KB n+9+KB
def LK.up(a:LK n A R H U){i j:Nat}(b:i<n)(c:j<n+1):lu (n+1) (fun k r=>A r k) U j i=H i j:=by
 rw[<-a.mu i j om c];unfold lu mm;refine aE fun k d=>?_;show A i k*U k j=wM A n R i k*U k j;unfold wM vn;rw[ai b]
def LK.ubits(f:mV n A){R:Nat}{H U:aI}(l:LK n A R H U)(t:∀i j,i<n+1->j<n+1->nb (H i j) KB){a c:Nat}(m:a<n+1)(s:c<n+1):nb (U a c) (jc KB n+jc KB n+9):=by
 have u:=mY;have o:∀i j,i<n+1->j<n+1->nb (wM A n R i j) KB:=fun i j d b=>f.hent _ _ (by have:=l.r2;unfold vn;split<;>omega) b
 have p:∀i j,i<n+1->j<n+1->nb (np (n+1) (wM A n R) i j) (jc KB n):=fun i j d b=>by
  have h:=Aj (by have:=f.hn;omega) om o n i j d b
  unfold np;split
  .exact h.neg
  .exact h
 have e:mm (n+1) (np (n+1) (wM A n R)) H a c=det (n+1) (wM A n R)*U a c:=by
  have v:mm (n+1) (np (n+1) (wM A n R)) H a c=mm (n+1) (np (n+1) (wM A n R)) (mm (n+1) (wM A n R) U) a c:=rj (fun _ _=>rfl) fun k q=>(l.mu k c q s).symm;rw[v,<-nU];unfold mm;rw[aE (g:=fun k=>(if a=k then det (n+1) (wM A n R)else 0)*U k c) fun k q=>by
   show mm (n+1) (np (n+1) (wM A n R)) (wM A n R) a k*U k c=_;rw[rX om _ m q]]
  rw[aE (g:=fun k=>(if a=k then 1 else 0)*(det (n+1) (wM A n R)*U k c)) fun k _=>by split<;>simp]
  rw[nE m]
 have r:nb (det (n+1) (wM A n R)*U a c) (jc KB n+jc KB n+9):=by
  rw[<-e];exact JJ (by have:=f.hn;omega) p (fun i j d b=>(t i j d b).mono (pA KB n)) m s
 unfold nb at r ⊢;rw[cJ]at r;have:1<=(det (n+1) (wM A n R)).natAbs:=by have:=l.dt;omega
 exact ee (bQ (vB (mW _).symm) (aB _ this)) r
def LK.herm(z:mV n A){R:Nat}{H U:aI}(b:LK n A R H U)(y:∀r c,n<=r->r<n+n+1->c<n+1->A r c=if r=n+c then 1 else 0) :
  (∀a r,a<n+1->r<n+n+1->nb (lu (n+1) (fun k r=>A r k) U a r) (F9 n))/\CV n (F9 n) (fun i j=>lu (n+1) (fun k r=>A r k) U j i)/\(∀x,fy (n+1) (n+1) H x↔fy (n+1) (n+1) (wM A n R) x)/\∀i,i<n->H i n=0:=by
 obtain⟨d,M,p,F,l⟩:=b.tl;have G:=z.dlt b.r1 b.r2 b.dt;have B:∀i,i<n+1->0<d i/\d i<PB:=fun i f=>by
  have t:=p.pos i f;have w:=p.d_le f;omega
 have q:∀r c,r<c->c<n+1->H r c=0:=fun r c t w=>(l.done c w).1 r t;have s:∀c,c<n+1->H c c=d c:=fun c m=>(l.done c m).2.1;have u:∀c j,c<n+1->j<c->0<=H c j/\H c j<d c:=fun c j m o=>(l.done j om).2.2 c o m;have C:∀i j,i<n+1->j<n+1->nb (H i j) KB:=fun i j f o=>by
  have I:=B i f;rcases dY i j with h|h|h
  .rw[q i j h o];exact nb.zero _
  .subst h;rw[s i f];exact GI om
  .have t:=u i j f h;exact GI om
 have v:∀i j,i<n->j<n+1->nb (lu (n+1) (fun k r=>A r k) U j i) (F9 n):=fun i j f o=>by
  rw[b.up f o];exact(C i j om o).mono (by unfold F9;omega)
 refine⟨fun a r D J=>?_,⟨fun r c t w E=>?_,fun c m=>?_,fun c j m o=>?_,v⟩,fun x=>?_,fun i f=>q i n f om⟩
 .rcases aC r n with h|h
  .exact v r a h D
  .have e:lu (n+1) (fun k r=>A r k) U a r=U (r-n) a:=by
    unfold lu;rw[aE (g:=fun k=>(if r-n=k then 1 else 0)*U k a) fun k K=>by
     show A r k*U k a=_;rw[y r k h J K];by_cases e:r=n+k
     .rw[ai e,ai om]
     .rw[af e,af om]]
    exact nE om _
   rw[e];exact(b.ubits z C om D).mono (by unfold F9;omega)
 .show lu (n+1) (fun k r=>A r k) U c r=0;rw[b.up w E];exact q r c t E
 .show 0<lu (n+1) (fun k r=>A r k) U c c;rw[b.up m om,s c om];exact(B c om).1
 .show 0<=lu (n+1) (fun k r=>A r k) U j c/\lu (n+1) (fun k r=>A r k) U j c<lu (n+1) (fun k r=>A r k) U c c;rw[b.up m om,b.up m om,s c om];exact u c j om o
 .exact l.span p x
def uY.members(f:mV n (fG n M))(h:uY n k (fG n M) B):∀y,fy n n B y↔fy n (n+1) M y:=by
 obtain⟨R,H,U,d,o,rfl⟩:=h.ex;intro y;obtain⟨_,_,g,l⟩:=d.herm f (fun r c e _ p=>by unfold fG;rw[af om])
 have e:fy n n H y↔fy n (n+1) M y:=Ny (w:=wM (fG n M) n R) (fun i j a m=>by
  unfold wM vn fG;rw[ai a,ai a]) g l y
 rw[<-e];have key:∀i,i<n->∀c:iB,ay n (fun j=>lu (n+1) (fun k r=>fG n M r k) U j i*c j)=ay n (fun j=>H i j*c j):=fun i a c=>aE fun j m=>by rw[d.up a om]
 constructor
 .rintro⟨c,b⟩;exact⟨c,fun i a=>by rw[b i a,key i a c]⟩
 .rintro⟨c,b⟩;exact⟨c,fun i a=>by rw[b i a,<-key i a c]⟩
def uY.herm(h:uY n k (fG n M) B):CV n k B:=by
 obtain⟨R,H,U,b,a,rfl⟩:=h.ex;exact a

def Ez(n k:Nat)(M:aI)(f:mV n (fG n M))(h:k<=1000000)(l:∀R H U,LK n (fG n M) R H U->(∀a r,a<n+1->r<n+n+1->nb (lu (n+1) (fun k r=>fG n M r k) U a r) k)/\CV n k (fun i j=>lu (n+1) (fun k r=>fG n M r k) U j i)) :
  ∀S args',fI S args' [aR n (n+1) M]->cP 123 args' S (fun r S'=>∃b g B,r=.tup [.sl 1 b 0 n,.bool true]/\uY n k (fG n M) B/\iR S S' b g n n B):=fun S args' m=>by
 have o:cP 123 [aR n (n+1) M] St.none (fun r S'=>∃b g B,r=.tup [.sl 1 b 0 n,.bool true]/\uY n k (fG n M) B/\dH S' b g n n B/\Kg S'):=(BR n k M f h l).less fun r S' ⟨b,g,B,e,d,c⟩=>⟨gQ S' b g n,ji S' b g n,b,g,B,e,d,c.only.1,c.only.2⟩;refine(o.frame m ?_).mono ?_
 .rintro r S1 ⟨b,g,B,rfl,_,_,p⟩;exact⟨rfl,p⟩
 .rintro r S' ⟨S1,⟨b,g,B,rfl,d,c,_⟩,q,rfl⟩;exact⟨b,g,B,rfl,d,c.join q⟩
def KE{K:AV->Prop}(h:K (.sl 1 b 0 n)):lj 28 (.sl 1 b 0 n) ab (some (.int .i64 n)) (some (.int .i64 n)) K:=by
 refine⟨rfl,0,n,rfl,rfl,⟨o5 _,o5 _,rfl⟩,jM _,ae _,?_⟩;show K (if (0:Nat)=0∨0<n then AV.sl 1 b (0+0) (n-0)else .lst 1 0 fun _=>.any)
 rw[ai (bF rfl)];exact h
structure tp(n p:Nat)(H:aI)(v:Nat->Nat)(B:aI):Prop where
 ex:∃piv t inv,piv<n/\0<=t/\t<(p:Int)/\(p:Int)*p∣lv n H (fun i=>if i=piv then((v i:Nat):Int)+p*t else v i) (fun i=>if i=piv then((v i:Nat):Int)+p*t else v i)/\inv=rf p (io n H p (fun k=>v k) piv)/\io n H p (fun k=>v k) piv≠0 /\
  mV n (fG n (Bg n p piv (fun j=>io n H p (fun k=>v k) j*inv%p) (fun i=>if i=piv then((v i:Nat):Int)+p*t else v i))) /\
  uY n (F9 n) (fG n (Bg n p piv (fun j=>io n H p (fun k=>v k) j*inv%p) (fun i=>if i=piv then((v i:Nat):Int)+p*t else v i))) B
def NE{P:Nat->Prop}(h:∃i,i<n/\P i):∃i,i<n/\P i/\∀j,j<i->¬P j:=by
 obtain⟨i,d,e⟩:=h
 induction i using Nat.strongRecOn with
 | _ i ih =>
  by_cases c:∃j,j<i/\P j
  .obtain⟨j,a,b⟩:=c;exact ih j a om b
  .exact⟨i,d,e,fun j a b=>c ⟨j,a,b⟩⟩
theorem Cz{p:Int}{f:Nat->Int}:∀{n:Nat},(∀i,i<n->p∣f i)->p∣ay n f
 | 0,_=>je p
 | n+1,h=>jP (Cz fun i a=>h i om) (h n om)
theorem Aa{v:Nat->Int}:∀{n:Nat},(∀i,i<n->v i=0)->iO v n=0
 | 0,_=>rfl
 | n+1,h=>by
  simp only[iO,Aa (n:=n) fun i a=>h i om,aQ];exact h n om
def Hn(q:gk n H)(r:lp (det n H) p)(s:sH p)(m:lX n p H v):∃piv,piv<n/\qH n H p (fun k=>v k) piv≠0/\∀i,i<piv->qH n H p (fun k=>v k) i=0:=by
 have b:∃i,i<n/\qH n H p (fun k=>v k) i≠0:=by
  refine ez fun c=>?_;have t:∀i,i<n->(p:Int)∣ay n fun j=>H i j*((v j:Nat):Int):=fun i d=>by
   refine eg (ez fun h=>c ⟨i,d,h⟩)
  have u:∀k,k<n->((v k:Nat):Int)=0:=fun k e=>by
   have w:mm n (np n H) (mm n H (fun j _=>((v j:Nat):Int))) k 0=det n H*((v k:Nat):Int):=by
    rw[<-nU];unfold mm;rw[aE (g:=fun j=>(if k=j then 1 else 0)*(det n H*((v j:Nat):Int))) fun j f=>by
     show mm n (np n H) H k j*((v j:Nat):Int)=_;rw[rX q.one _ e f];split<;>simp]
    rw[nE e]
   have l:(p:Int)∣det n H*((v k:Nat):Int):=by
    rw[<-w];exact Cz fun i d=>di (t i d)
   rcases s.1.mul _ _ l with h|h
   .exact absurd (dw h) r.2.2.2
   .have o:=m.lt k e;have a:=dw h;rw[dZ om om]at a;exact a
  have:=m.lead;rw[Aa u]at this;omega
 obtain⟨i,x,o,a⟩:=NE b;exact⟨i,x,o,fun j f=>ez fun h=>a j f h⟩
def D6(S:St)(n p:Nat)(H:aI)(v:Nat->Nat)(hF:gk n H)(hg:lp (det n H) p)(hp:sH p)(hL:lX n p H v)(hG:lL S) :
  cP 59 [az n n H,.int .i64 p,aK n (fun k=>v k)] S (fun r S'=>∃b g B S1,r=.tup [.sl 1 b 0 n,.int .i64 0]/\tp n p H v B/\ft S S1/\iR S1 S' b g n n B):=by
 have h1:=hF.one;have hn:=hF.eight;have hp17:=hp.2;obtain⟨piv,u,C,Z⟩:=Hn hF hg hp hL;refine i9 func59 ntmps59 results59 ?_;simp -dsimp only[go_sem,aa];refine(LR S n p piv H v hF hg hp hL hG u C Z).mono ?_;rintro _ S1 ⟨bx,t,_,L,ht1,hnm,rfl,hx1,hE1⟩;simp -dsimp only[go_sem,aa,aY];have hw:∀i,io n H p (fun k=>v k) i=qH n H p (fun k=>v k) i:=C6 n H p _;have hwr:=tC (n:=n) (H:=H) (p:=(p:Int)) (v:=fun k=>((v k:Nat):Int)) om;have hwp:0<io n H p (fun k=>v k) piv%p/\io n H p (fun k=>v k) piv%p<p:=by
  have:=hwr piv;rw[dZ this.1 this.2];have h0:io n H p (fun k=>v k) piv≠0:=by rw[hw];exact C
  omega
 have hnd:¬(p:Int)∣io n H p (fun k=>v k) piv:=fun h=>by have:=dw h;omega
 refine(Bm n piv H p (fun k=>v k) _ h1 om om om u (by rw[hw];exact C) (fun i F=>by rw[hw];exact Z i F) (hp.1.gcd' hnd) rfl S1 _ (cS _ _)).mono ?_
 rintro _ S2 ⟨bl,gl,rfl,D,hE2,nl2,nlg2⟩;generalize hinv:rf p (io n H p (fun k=>v k) piv)=inv at *;have hx2:=hE2.has hx1;simp -dsimp only[go_sem,du,iq];refine KE ?_
 try simp -dsimp only[go_sem]
 refine aF.intro fun b41 N=>?_
 try simp -dsimp only[go_sem]
 have G:ft S S2:=hE1.trans hE2;have nbl:S bl=ab:=hE1.none nl2;have P:da 29 1 S S2 (.sl 1 bl 0 n) n (fun j=>.sl 1 (gl j) 0 n):=⟨G,bH ⟨bl,nbl,rfl,D.outer⟩⟩;have hxf:=P.fresh N;have I:=P.upd (G.none N) hxf ⟨29,1,1,fun j=>[AV.sl 1 bx 0 n].getD j .any⟩;refine da.app29 (v:=.sl 1 bx 0 n) I om (by simp[eF]) (bH ⟨_,_,_,rfl,cn,rfl,fun h=>hxf _ h rfl⟩) ?_
 intro bc S3 z A _;generalize w:Bg n p piv (fun j=>io n H p (fun k=>v k) j*inv%p) (fun i=>if i=piv then((v i:Nat):Int)+p*t else v i)=M
 have hcols:bM S3 bc 29 1 (n+1) (fun j=>.sl 1 (if j=n then bx else gl j) 0 n):=by
  rcases z.2 with⟨h,_⟩|⟨c,_,e,h⟩
  .omega
  .cases e
   exact h.congr fun j _=>by by_cases e:j=n<;>simp[e]
 have hcol:∀c,c<n+1->bM S3 (if c=n then bx else gl c) 2 1 n (fun i=>.int .i64 (M i c)):=fun c hc=>by
  have via:∀{b:Nat} {g:Nat->AV},bM S2 b 2 1 n g->bM S3 b 2 1 n g:=fun {b g} h=>by
   have n41:b≠b41:=bM.fresh h N;have nbl':b≠bl:=(bM.ne D.outer h dc).symm
   obtain⟨g',k,k2⟩:=h;exact⟨g',A b _ (by rw[aO n41];exact k) (fun hb=>nbl' (ep.1 hb)),k2⟩
  by_cases e:c=n
  .subst e;rw[ai rfl];refine(via hx2).congr fun i F=>?_;rw[<-w];unfold Bg;simp only[cZ,aS]
  .rw[af e];refine(via (D.row c om)).congr fun i F=>?_;rw[<-w];unfold Bg;rw[ai om]
 have hE03:ft S S3:=z.1;have J:∀j,j<n->0<=io n H p (fun k=>v k) j*inv%p/\io n H p (fun k=>v k) j*inv%p<=9972:=fun j _=>by
  have a:=aW (io n H p (fun k=>v k) j*inv) (show(p:Int)≠0 by omega)
  have b:=aV (io n H p (fun k=>v k) j*inv) (show(0:Int)<p by omega)
  omega
 have hpt:0<=(p:Int)*t/\(p:Int)*t<=99450756:=by
  have:=cN (show(p:Int)<=9973 by omega) (om:t<=9972) L om
  exact⟨cK om L,om⟩
 have hxb:∀i,i<n->(if i=piv then((v i:Nat):Int)+p*t else v i).natAbs<=100000000:=fun i F=>by
  have:=hL.lt i F;split<;>omega
 have hP:mV n (fG n M):=by
  rw[<-w];exact KP h1 hn om om u J hxb
 have hMb:∀i j,i<n->j<n+1->-9223372036854775808<=M i j/\M i j<=9223372036854775807:=fun i j F hj=>by
  have:=DA (piv:=piv) (p:=(p:Int)) om om J hxb i j F hj;rw[w]at this;omega
 clear P I z A D hx2 hx1;simp -dsimp only[go_sem]
 repeat refine an ?_
 refine aF.intro fun br fr=>?_;simp -dsimp only[go_sem];refine dI (fun O S=>∃(i:Nat) (g:Nat->Nat),i<=n/\O 11=.sl 1 bc 0 (n+1)/\O 12=.sl 1 br 0 n/\O 47=.int .i64 n/\O 48=.int .i64 i/\ft S3 S /\
  bM S br 29 1 n (fun a=>if a<i then .sl 1 (g a) 0 (n+1)else .nil)/\(∀a,a<i->bM S (g a) 2 1 (n+1) (fun c=>.int .i64 (M a c)))/\∀a c,a<i->c<i->g a=g c->a=c) (fun O S=>n-cj (O 48)) ?_ ?_
 .simp -dsimp only[go_sem];exact⟨0,om,rfl,(ft.refl S3).upd fr _,fun _=>0,bM.here fun _ _=>by simp,fun a l=>om,fun a c l=>om⟩
 rintro Q' hQ' O S4 ⟨i,g,F,m,o,q,s,f,Q,K,hI⟩;by_cases y:i<n
 .simp -dsimp only[go_sem,m,q,s,y];refine dI (fun O S'=>∃(j:Nat) (x:AV),j<=n+1/\O 11=.sl 1 bc 0 (n+1)/\O 12=.sl 1 br 0 n/\O 13=.int .i64 i/\O 47=.int .i64 n/\O 48=.int .i64 i/\O 51=.sl 1 bc 0 (n+1)/\O 52=.int .i64 ((n+1:Nat):Int)/\O 53=.int .i64 j/\ft S3 S' /\
   bM S' br 29 1 n (fun a=>if a<i then .sl 1 (g a) 0 (n+1)else if a=i then x else .nil)/\(∀a,a<i->bM S' (g a) 2 1 (n+1) (fun c=>.int .i64 (M a c))/\¬eh x (g a))/\da 2 1 S3 S' x j (fun c=>.int .i64 (M i c))) (fun O S=>n+1-cj (O 53)) ?_ ?_
  .simp -dsimp only[go_sem,m,o,q,s];exact⟨0,om,rfl,f,.nil,Q.congr fun a _=>by grind,fun a l=>⟨K a l,by rintro⟨_,_,_,e⟩;cases e⟩,da.nil f _⟩
  clear Q K f m o q s;rintro Q'' hQ'' O S' ⟨j,x,hj,m,o,e13,q,s,T,V,W,f,Q,K,hX⟩;by_cases E:j<n+1
  .obtain⟨gc,uc,vc⟩:=id (f.has hcols);obtain⟨gd,ud,vd⟩:=id (f.has (hcol j E));obtain⟨g1,u1,v1⟩:=id Q;have xc:gc j=.sl 1 (if j=n then bx else gl j) 0 n:=vc j E
   have xd:gd i=.int .i64 (M i j):=vd i y;have x1:g1 i=x:=by rw[v1 i y];simp
   simp -dsimp only[go_sem,aa,T,V,W,E,uc,xc];refine g9 11 kr ?_
   simp -dsimp only[go_sem,aa,o,e13,y,ud,xd,u1,x1];refine da.app2 hX om (show eF 1 (.int .i64 (M i j)) by simp[eF]) (bF ⟨_,rfl,rfl⟩) ?_
   intro c S7 Y hk1 A;have hxr:=hX.other u1 om;have u1':=hk1 br _ u1 hxr;simp -dsimp only[go_sem,aa,m,o,e13,q,s,T,V,W,y,u1',aP (om:j<1000000),cj]
   have hrS:S3 br=ab:=fr;refine⟨⟨j+1,om,rfl,Y.1.upd hrS _,.sl 1 c 0 (j+1),bM.here fun a l=>?_,fun a l=>?_,?_⟩,om⟩
   .have:=v1 a l;grind [bW]
   .obtain⟨r1,r2⟩:=K a l;have hgr:g a≠br:=bM.ne r1 (bM.of u1) om;refine⟨(r1.via fun X hX=>hk1 _ _ hX r2).upd hgr _,fun hb=>?_⟩;rw[ep]at hb;rw[<-hb]at A;rcases A with h|h
    .exact r2 h
    .exact bM.fresh r1 h rfl
   .refine(Y.upd hrS (fun d hd e=>?_) _).congr (fun a l=>by grind)
    rw[e]at hd;exact Y.other u1' om hd
  .simp -dsimp only[go_sem,aa,T,V,W,E];rw[hQ''];simp -dsimp only[go_sem,m,o,q,s,aP (om:i<1000000),cj]
   obtain rfl:j=n+1:=om
   rcases hX.2 with⟨h0,_⟩|⟨c,_,rfl,hC⟩
   .omega
   refine⟨⟨i+1,om,rfl,f,fun a=>if a=i then c else g a,Q.congr fun a l=>by grind,fun a l=>?_,fun a d l hd e=>?_⟩,om⟩
   .by_cases e:a=i
    .subst e;simp only[aQ];exact hC
    .simp only[e,aS];exact(K a om).1
   .have k1:=fun a l=>(K a l).2;simp only[ep]at k1
    grind
 have hin:i=n:=om
 rw[hin]at Q K hI;have hIM:eI S4 br g n (n+1) M:=⟨Q.congr fun a l=>by rw[ai l],K,hI⟩
 simp -dsimp only[go_sem,m,q,s,y];rw[hQ'];simp -dsimp only[go_sem,aa,o];refine(oY n (n+1) M h1 om om om hMb _ _ (fI.one hIM.vr.va)).mono ?_;rintro _ S5 ⟨bm,gm,rfl,hM5⟩;simp -dsimp only[go_sem,aa];have hKB:=mY;have hbb:=yK KB om n om;refine(Ez n (F9 n) M hP (by unfold F9;omega) (fun R H' U hT=>?_) S5 _ (fI.one hM5.1.vr.va)).mono ?_
 .obtain⟨a,b,_,_⟩:=hT.herm hP (fun r c h1 _ h3=>by unfold fG;rw[af om])
  exact⟨a,b⟩
 rintro _ S6 ⟨b,gB,B,rfl,hB,hM6⟩;simp -dsimp only[go_sem];exact⟨b,rfl,gB,B,⟨piv,t,inv,u,L,ht1,hnm,hinv.symm,by rw[hw];exact C,by rw[w];exact hP,by rw[w];exact hB⟩,S5,(hE03.trans f).trans hM5.2.1,hM6⟩



def iI(v:Nat->Nat)(p:Int)(piv:Nat)(t:Int):iB:=fun i=>if i=piv then((v i:Nat):Int)+p*t else v i
def tp.char(l:sH p)(h:tp n p H v B) :
  ∃(piv:Nat) (t:Int),piv<n/\io n H p (fun k=>v k) piv≠0/\(p:Int)*p∣lv n H (iI v p piv t) (iI v p piv t)/\∀y,fy n n B y↔OQ n p (io n H p (fun k=>v k)) (iI v p piv t) y:=by
 have m:=l.2;obtain⟨piv,t,inv,b,o,r,g,d,e,s,u⟩:=h.ex;refine⟨piv,t,b,e,g,fun y=>?_⟩;have f:=tC (n:=n) (H:=H) (p:=(p:Int)) (v:=fun k=>((v k:Nat):Int)) om;have i:=dZ (f piv).1 (f piv).2;have c:=l.1.inv1 (a:=io n H p (fun k=>v k) piv) (fun x=>e (by have:=dw x;omega))
 rw[<-d,i]at c;rw[u.members s y];refine JI (p:=(p:Int)) om (piv:=piv) b (w:=io n H p (fun k=>v k)) (q:=fun j=>io n H p (fun k=>v k) j*inv%p) (inv:=inv) ?_ (fun j C z=>?_) y
 .refine eg ?_;rw[Int.sub_emod,cX,c,dZ (show(0:Int)<=1 by omega) om]
  simp
 .refine eg ?_;have A:(io n H p (fun k=>v k) j*inv%p*io n H p (fun k=>v k) piv)%p=io n H p (fun k=>v k) j%p:=by
   rw[fX,lz _ (jf _),<-fX,jn,fX,cX inv,c,sf,lz _ (jf _)]
  rw[Int.sub_emod,A,Int.sub_self,Int.zero_emod]
def Mt(n:Nat)(H:aI)(p:Int)(v:iB)(i:Nat):p∣(ay n fun j=>H i j*v j)-io n H p v i:=by
 rw[C6];exact Int.dvd_self_sub_emod
def z8{p:Int}{v l:iB}(a:∀i,i<n->p∣l i-v i)(i:Nat):p∣(ay n fun j=>H i j*l j)-io n H p v i:=by
 have e:(ay n fun j=>H i j*l j)-io n H p v i=((ay n fun j=>H i j*v j)-io n H p v i)+ay n fun j=>H i j*(l j-v j):=by
  have:(ay n fun j=>H i j*l j)=(ay n fun j=>H i j*v j)+ay n fun j=>H i j*(l j-v j):=by
   rw[<-eD];exact aE fun j _=>by grind
  omega
 rw[e];exact jP (Mt n H p v i) (jt fun j b=>di (a j b))
def we{p:Int}{piv:Nat}(i:Nat):p∣iI v p piv t i-(v i:Nat):=by
 unfold iI;split
 .exact⟨t,om⟩
 .exact⟨0,om⟩
def tp.tri(h:tp n p H v B):(∀r c,r<c->c<n->B r c=0)/\(∀r,r<n->0<B r r)/\(∀c j,c<n->j<c->0<=B c j/\B c j<B c c)/\xO n n B:=by
 obtain⟨piv,t,inv,_,_,_,_,_,_,g,e⟩:=h.ex;have a:=e.herm;exact⟨fun r c b f=>a.up r c b om om,a.pos,a.rng,fun r d=>⟨fun j b f=>a.up r j b d om,a.pos r d⟩⟩
def tp.gram(d:gk n H)(e:sH p)(h:tp n p H v B){i j:Nat}(f:i<n)(g:j<n):(p:Int)*p∣mm n (mm n (fun i j=>B j i) H) B i j:=by
 obtain⟨piv,t,c,l,b,a⟩:=h.char e;rw[yI];exact FJ d.red.pd.sym (fun i _=>z8 (fun k _=>we k) i) b ((a _).1 (fy.col f)) ((a _).1 (fy.col g))
def tp.unit(c:sH p)(h:tp n p H v B){k:Nat}(f:k<n):fy n n B (gN ((p:Int)*p) k):=by
 obtain⟨piv,t,b,d,e,a⟩:=h.char c;refine(a _).2 ⟨0,gN p k,fun i _=>?_,?_⟩
 .unfold gN;split<;>simp
 .refine jt fun i _=>di ?_;unfold gN;split
  .exact jf _
  .exact je _
def tp.ent(f:sH p)(h:tp n p H v B){i j:Nat}(d:i<n)(g:j<n):0<=B i j/\B i j<=99460729:=by
 have c:=f.2;obtain⟨k,l,m,o⟩:=h.tri;have s:B i i<=99460729:=by
  have e:=(TL.of_tri o).dvd _ (h.unit f d) i d (fun r t=>by unfold gN;rw[af om])
  unfold gN at e;rw[ai rfl]at e;have q:(0:Int)<p*p/\(p:Int)*p<=99460729:=by
   rw[<-bD];have a:=a9 c.2 c.2;have b:=a9 c.1 c.1;omega
  have:=mt q.1 e;omega
 rcases dY i j with h|h|h
 .rw[k i j h g];omega
 .subst h;have:=l i d;omega
 .have:=m i j d h;omega
def QD{u v:iB}{a c:Nat}(f:n<=8)(g:∀i j,i<n->j<n->(H i j).natAbs<=a)(h:∀i,i<n->(u i).natAbs<=b)(k:∀i,i<n->(v i).natAbs<=c):(lv n H u v).natAbs<=64*(a*b*c):=by
 have l:∀i,i<n->(ay n fun j=>H i j*v j).natAbs<=n*(a*c):=fun i m=>by
  refine bQ (vL _ _) (qg fun j d=>?_);rw[cJ];exact a9 (g i j m d) (k j d)
 have o:(lv n H u v).natAbs<=n*(n*(a*c)*b):=by
  refine bQ (vL _ _) (qg fun j d=>?_);rw[cJ];exact a9 (l j d) (h j d)
 refine bQ o ?_;have p:n*n<=8*8:=a9 f f;have q:=aB (a*b*c) p;have e:n*(n*(a*c)*b)=n*n*(a*b*c):=by grind
 omega
def PN{piv:Nat}(m:gk n H)(f:sH p)(o:lX n p H v)(d:piv<n)(g:qH n H p (fun k=>v k) piv≠0):∃t:Int,0<=t/\t<p/\(p:Int)*p∣lv n H (iI v p piv t) (iI v p piv t):=by
 have l:=f.2;have e:0<=qH n H p (fun k=>v k) piv/\qH n H p (fun k=>v k) piv<p:=⟨aW _ om,aV _ om⟩;generalize i:qH n H p (fun k=>v k) piv=sl at *;have h2s:0<2*sl%p/\2*sl%p<p:=by
  have a:=aW (2*sl) (show(p:Int)≠0 by omega)
  have b:=aV (2*sl) (show(0:Int)<p by omega)
  have c:2*sl%p≠0:=fun h=>by
   rcases f.1.mul 2 sl (eg h)with h|h
   .have:=mt om h;omega
   .exact g (by have:=dw h;rwa [dZ e.1 e.2]at this)
  omega
 have j:=f.1.inv1 (a:=2*sl) (fun h=>by have:=dw h;omega)
 exact⟨_,aW _ om,aV _ om,Ct m.red.pd.sym d (show(0:Int)<p by omega) i j rfl o.norm rfl⟩

def Cu(p:xO n n B)(d:xO n n B')(q:∀c j,c<n->j<c->0<=B c j/\B c j<B c c)(u:∀c j,c<n->j<c->0<=B' c j/\B' c j<B' c c)
  (C:∀y,fy n n B y↔fy n n B' y):∀i j,i<n->j<n->B i j=B' i j:=by
 have t:=TL.of_tri p;have t':=(TL.of_tri d).congr t.lat C;have v:∀i,i<=n->GH B n i=GH B' n i:=fun i a=>t.uniq t' (n-i) i om a;have hdiag:∀i,i<n->B i i=B' i i:=fun i a=>by
  have f:=t.step i a;have g:=t'.step i a;have D:=t.M_pos n (i+1) om om;rw[v i om,v (i+1) om]at f;rw[v (i+1) om]at D;rw[f]at g;exact Int.eq_of_mul_eq_mul_right om g
 intro i j a s;rcases aC i j with h|h
 .rw[(p i a).1 j h s,(d i a).1 j h s]
 have E:fy n n B (fun r=>1*B r j+(-1)*B' r j):=by
  obtain⟨c,F⟩:=(C _).2 (fy.col (n:=n) (B:=B') s);obtain⟨G,w⟩:=fy.col (n:=n) (B:=B) s;refine⟨fun k=>1*G k+(-1)*c k,fun r q=>?_⟩;have f:=F r q;have g:=w r q;dsimp only at f g ⊢;rw[f,g,<-pg];exact aE fun k _=>by grind
 have key:∀m i,i<n->j<=i->i-j<=m->∀r,r<=i->B r j=B' r j:=by
  intro m
  induction m with
  | zero =>
   intro i a l H r o;obtain rfl:i=j:=om
   rcases aC r i with e|e
   .rw[(p r om).1 i e a,(d r om).1 i e a]
   .obtain rfl:r=i:=om
    exact hdiag r a
  | succ m ih =>
   intro i a l H r o;rcases aC j i with e|e
   .have ih':=ih (i-1) om om om;rcases aC r i with I|I
    .exact ih' r om
    .obtain rfl:r=i:=om
     have J:=t.dvd _ E r a (fun k M=>by rw[ih' k om];omega)
     have N:=q r j a e;have K:=u r j a e;rw[<-hdiag r a]at K;obtain⟨z,L⟩:=J;have b:=(p r a).2;have x:z=0:=by
      rcases fF z 0 with A|A|A
      .have:=bV (om:z<=-1) (ck b)
       omega
      .exact A
      .have:=bV (om:1<=z) (ck b)
       omega
     rw[x]at L;omega
   .exact ih i a l om r o
 exact key (i-j) i a h (ae _) i (ae _)

def p6(a:sH p):3<=p/\p<=9973:=a.2
def p6z(e:sH p):9<=(p:Int)*p/\(p:Int)*p<=99460729:=by
 obtain⟨c,d⟩:=p6 e;rw[<-bD];have a:=a9 c c;have b:=a9 d d;omega
def wL(n:Nat)(H:aI)(p:Nat)(v:Nat->Nat):iB:=io n H p (fun k=>v k)
structure EJ(n p:Nat)(H:aI)(v:Nat->Nat)(B:aI):Prop where
 tri:xO n n B
 red:∀c j,c<n->j<c->0<=B c j/\B c j<B c c
 piv:∃i,i<n/\wL n H p v i≠0
 lat:∃l:iB,(∀i,i<n->(p:Int)∣l i-(v i:Nat))/\(p:Int)*p∣lv n H l l/\∀y,fy n n B y↔OQ n p (wL n H p v) l y
def tp.nbB(a:sH p)(h:tp n p H v B):EJ n p H v B:=by
 obtain⟨piv,t,b,c,d,e⟩:=h.char a;obtain⟨_,_,f,g⟩:=h.tri;exact⟨g,f,⟨piv,b,c⟩,iI v p piv t,fun i _=>we i,d,e⟩
def PM(d:gk n H)(g:sH p){l x:iB}(k:∀i,i<n->(p:Int)∣x i-(v i:Nat))(f:(p:Int)*p∣lv n H x x)(t:∀i,i<n->(p:Int)∣l i-(v i:Nat))(m:(p:Int)*p∣lv n H l l) :
  ∃a:iB,(∀i,i<n->l i=x i+p*a i)/\(p:Int)∣ay n fun i=>wL n H p v i*a i:=by
 have o:=p6 g;have q:∀i,i<n->l i=1*x i+p*((l i-x i)/p):=fun i b=>by
  rw[iL]
  .omega
  .have u:=t i b;have w:=k i b;rw[(om:l i-x i=(l i-(v i:Nat))-(x i-(v i:Nat)))]
   exact IY u w
 refine⟨fun i=>(l i-x i)/p,fun i b=>by have:=q i b;dsimp only;omega,?_⟩
 generalize y:(fun i=>(l i-x i)/(p:Int))=a;have c:∀i,i<n->l i=1*x i+p*a i:=fun i b=>by rw[<-y];exact q i b
 rw[wA c c,qz,j9 d.red.pd.sym x,j9 d.red.pd.sym a (fun i=>1*x i+p*a i),qz,qz,j9 d.red.pd.sym x a]at m;have z:(p:Int)∣2*lv n H a x:=by
  obtain⟨r,A⟩:=f;obtain⟨s,B⟩:=m;refine⟨s-r-lv n H a a,dN (show(p:Int)≠0 by omega) ?_⟩
  rw[A]at B
  grind
 have C:(p:Int)∣lv n H a x:=by
  rcases g.1.mul _ _ z with h|h
  .have:=mt om h;omega
  .exact h
 have e:(ay n fun i=>wL n H p v i*a i)=lv n H a x-ay n fun i=>((ay n fun j=>H i j*x j)-wL n H p v i)*a i:=by
  unfold lv;rw[<-lm];exact aE fun i _=>by grind
 show(p:Int)∣ay n fun i=>wL n H p v i*a i;rw[e];exact IY C (jt fun i _=>eQ (z8 k i))
def FH(g:gk n H)(j:sH p){l x:iB}(k:∀i,i<n->(p:Int)∣x i-(v i:Nat))(d:(p:Int)*p∣lv n H x x)(m:∀i,i<n->(p:Int)∣l i-(v i:Nat))(o:(p:Int)*p∣lv n H l l)(y:iB)(h:OQ n p (wL n H p v) l y):OQ n p (wL n H p v) x y:=by
 obtain⟨a,q,r⟩:=PM g j k d m o;obtain⟨c,b,s,e⟩:=h;refine⟨c,fun i=>b i+c*a i,fun i f=>by rw[s i f,q i f];grind,?_⟩
 rw[MD];exact jP e (di r)
def EJ.uniq(e:gk n H)(f:sH p)(h:EJ n p H v B)(h':EJ n p H v B'):∀i j,i<n->j<n->B i j=B' i j:=by
 obtain⟨l,g,k,m⟩:=h.lat;obtain⟨l',a,b,c⟩:=h'.lat;exact Cu h.tri h'.tri h.red h'.red fun y=>⟨fun d=>(c y).2 (FH e f a b g k y ((m y).1 d)),fun d=>(m y).2 (FH e f g k a b y ((c y).1 d))⟩
def EJ.unit(h:EJ n p H v B){k:Nat}:fy n n B (gN ((p:Int)*p) k):=by
 obtain⟨l,_,_,a⟩:=h.lat;refine(a _).2 ⟨0,gN p k,fun i _=>?_,?_⟩
 .unfold gN;split<;>simp
 .refine jt fun i _=>di ?_;unfold gN;split
  .exact jf _
  .exact je _
def EJ.ent(d:sH p)(h:EJ n p H v B){i j:Nat}(b:i<n)(e:j<n):0<=B i j/\B i j<=(p:Int)*p:=by
 have f:=p6z d;have g:B i i<=(p:Int)*p:=by
  have c:=(TL.of_tri h.tri).dvd _ (h.unit (k:=i)) i b (fun r l=>by unfold gN;rw[af om])
  unfold gN at c;rw[ai rfl]at c;exact mt om c
 rcases dY i j with a|a|a
 .rw[(h.tri i b).1 j a e];omega
 .subst a;have:=(h.tri i b).2;omega
 .have:=h.red i j b a;omega
def EJ.gram(c:gk n H)(h:EJ n p H v B){i j:Nat}(d:i<n)(e:j<n):(p:Int)*p∣mm n (mm n (fun i j=>B j i) H) B i j:=by
 obtain⟨l,f,b,a⟩:=h.lat;rw[yI];exact FJ c.red.pd.sym (fun i _=>z8 f i) b ((a _).1 (fy.col d)) ((a _).1 (fy.col e))
def EH(n p:Nat)(H B:aI):aI:=fun i j=>if i<n/\j<n then mm n (mm n (fun i j=>B j i) H) B i j/((p:Int)*p)else 0
def EJ.eq(c:gk n H)(h:EJ n p H v B){i j:Nat}(a:i<n)(b:j<n):mm n (mm n (fun i j=>B j i) H) B i j=(p:Int)*p*EH n p H B i j:=by
 unfold EH;rw[ai ⟨a,b⟩,iL (h.gram c a b)]
def EJ.gent(g:gk n H)(k:sH p)(h:EJ n p H v B){i j:Nat}(d:i<n)(f:j<n):(EH n p H B i j).natAbs<=1120325651456000:=by
 have e:=h.eq g d f;rw[yI]at e;have l:=p6z k;have o:=QD (H:=H) (a:=176000) (b:=p*p) (c:=p*p) g.eight (fun i j d f=>by have:=g.ent i j d f;omega) (u:=fun r=>B r i) (v:=fun r=>B r j) (fun r m=>by have:=h.ent k m d;rw[<-bD]at this;omega) (fun r m=>by have:=h.ent k m f;rw[<-bD]at this;omega)
 rw[e,cJ,<-bD,fN]at o;rw[<-bD]at l;have q:p*p*(EH n p H B i j).natAbs<=p*p*(64*(176000*(p*p))):=by
  have:64*(176000*(p*p)*(p*p))=p*p*(64*(176000*(p*p))):=by grind
  omega
 have s:=Ol q om;omega

def BF(n m k:Nat)(A:aI)(i j:Nat)(a:i<m)(b:j<n)(c:nb (A j i) k)(d:k<=1000000):PF 156 [.int .i64 i,.int .i64 j,.pat 1 (aR n m A)] (.big (A j i)):=by
 refine iH func156 ntmps156 results156 ?_;simp -dsimp only[go_sem];refine aF.intro fun bc fc=>?_
 try simp -dsimp only[go_sem,aR,bB,a,b]
 refine(rS c om).call ?_;simp -dsimp only[go_sem,aa];exact VR.mf rfl
def AR(n m k:Nat)(A:aI)(f:1<=n)(a:n<=16)(h:1<=m)(c:m<=16)(l:∀i j,i<n->j<m->nb (A i j) k)(o:k<=1000000):EK 94 [aR n m A] m n (fun i j=>A j i):=by
 refine EK.of ?_;refine i9 func94 ntmps94 results94 ?_;simp -dsimp only[go_sem,aa,aR,bB];refine aF.intro fun bc fc=>?_
 try simp -dsimp only[go_sem]
 refine(lh n m A f a h c).call ?_;simp -dsimp only[go_sem,aa];refine(ro m n 156 [.pat 1 (aR n m A)] (fun i j=>A j i) om c a (fun i j d e=>BF n m k A i j d e (l j i e d) o) _ _ (fI.fn1 (fI.one (VA.ptr (ed.new rfl) (VA.refl _ _))))).mono ?_;rintro _ S1 ⟨b,g,rfl,p⟩;simp -dsimp only[go_sem];exact⟨b,rfl,g,p.1⟩
def da.appx{t e es:Nat}{S0 S3:St}{x y v:AV}{g:Nat->AV}{K:AV->St->Prop}(l:dJ t=some e)(m:(gG e).isSome=true)(f:es=bZ e)(a:ft S S3)(h:da e es S0 S x j g)(n:j<1000000)(o:eF es v)
  (p:∃b gb ty,y=.sl es b 0 1/\S3 b=some ⟨ty,es,1,gb⟩/\gb 0=v/\S b=ab)
  (q:∀c S',da e es S0 S' (.sl es c 0 (j+1)) (j+1) (fun i=>if i=j then v else g i)->(∀d X,S d=some X->¬eh x d->S' d=some X)->(eh x c∨S c=ab)->K (.sl es c 0 (j+1)) S'):fU t t x y S3 K:=by
 obtain⟨b,gb,ty,rfl,r,s,u⟩:=p;have w:da e es S0 S3 x j g:=h.keep (x:=.nil) (h.1.trans a) (fun d X k _=>a d X k) (fun d _=>by rintro⟨_,_,_,e⟩;cases e)
 refine da.app l m f w n o (bH ⟨b,gb,ty,rfl,r,s,fun z=>h.fresh u b z rfl⟩) fun c S' A B C=>q c S' A (fun d X k D=>B d X (a d X k) D) (C.imp id fun h=>a.none h)
def wb(S:St)(n p:Nat)(H:aI)(v:Nat->Nat)(Z:gk n H)(hg:lp (det n H) p)(hp:sH p)(hL:lX n p H v)(hG:lL S) :
  cP 41 [az n n H,.int .i64 p,aK n (fun k=>v k)] S (fun r S'=>∃b c gb g B S1,r=.tup [.sl 1 b 0 n,.sl 1 c 0 n,.int .i64 0]/\tp n p H v B/\ft S S1/\S1 b=ab/\(∀i,i<n->S1 (gb i)=ab)/\dH S' b gb n n B/\dH S' c g n n (EH n p H B)/\ft S1 S'):=by
 have M:=Z.one;have hn:=Z.eight;have A:=hp.2;have hpp:(p:Int)*p<=99460729/\9<=(p:Int)*p:=by
  rw[<-bD];have a:=a9 A.2 A.2;have b:=a9 A.1 A.1;omega
 have wpp:IntKind.i64.wrap ((p:Int)*p)=(p:Int)*p:=i64_in om om;refine i9 func41 ntmps41 results41 ?_;simp -dsimp only[go_sem,aa];refine(D6 S n p H v Z hg hp hL hG).mono ?_;rintro _ S1 ⟨b,gB,B,S0,rfl,hB,hE0,F⟩;have hM1:=F.1;have hE1:=hE0.trans F.2.1;simp -dsimp only[go_sem,aa,aY];refine(oY n n H M om M om (fun i j m o=>by have:=Z.ent i j m o;omega) S1 _ (cS _ _)).mono ?_
 rintro _ S2 ⟨bf,gf,rfl,hf⟩;have hM2:=hM1.ext hf.2.1;have G:∀i j,i<n->j<n->nb (B i j) 27:=fun i j m o=>by have:=hB.ent hp m o;unfold nb;omega
 have hHn:∀i j,i<n->j<n->nb (H i j) 18:=fun i j m o=>Z.ent.nb m o;simp -dsimp only[go_sem,aa];refine(AR n n 27 B M om M om G om S2 _ (fI.one hM2.vr.va)).mono ?_;rintro _ S3 ⟨bt,gt,rfl,ht⟩;have hM3:=hM2.ext ht.2.1;have hf3:=hf.1.ext ht.2.1;simp -dsimp only[go_sem,aa];refine(uU n n n 27 (fun i j=>B j i) H M om M om M om (fun i j m o=>(G j i o m).mono om) (fun i j m o=>(hHn i j m o).mono om) om S3 _ (fI.two ht.1.vr.va hf3.vr.va)).mono ?_;rintro _ S4 ⟨b1,g1,rfl,I⟩;have hM4:=hM3.ext I.2.1;have hmn:∀i j,i<n->j<n->nb (mm n (fun i j=>B j i) H i j) 53:=fun i j m o=>(pW (f:=fun k=>B k i*H k j) (k:=45) n fun k hk=>(G k i hk m).mul (hHn k j hk o)).mono om;simp -dsimp only[go_sem,aa];refine(uU n n n 53 (mm n (fun i j=>B j i) H) B M om M om M om hmn (fun i j m o=>(G i j m o).mono om) om S4 _ (fI.two I.1.vr.va hM4.vr.va)).mono ?_;rintro _ S5 ⟨bp,gp,rfl,N⟩;have hPn:∀i j,i<n->j<n->nb (mm n (mm n (fun i j=>B j i) H) B i j) 88:=fun i j m o=>(pW (f:=fun k=>mm n (fun i j=>B j i) H i k*B k j) (k:=80) n fun k hk=>(hmn i k m hk).mul (G k j hk o)).mono om;have hent:∀i j,i<n->j<n->(mm n (mm n (fun i j=>B j i) H) B i j/((p:Int)*p)).natAbs<=1120325651456000:=fun i j m o=>by
  have:=(hB.nbB hp).gent Z hp m o;unfold EH at this
  rwa [ai ⟨m,o⟩]at this
 have hMb5:=((hM1.ext hf.2.1).ext ht.2.1).ext (I.2.1.trans N.2.1);have hdvd:=fun i j (m:i<n) (o:j<n)=>hB.gram Z hp m o;have hP5:=N.1;have hE5:ft S0 S5:=(((F.2.1.trans hf.2.1).trans ht.2.1).trans I.2.1).trans N.2.1;generalize hPP:mm n (mm n (fun i j=>B j i) H) B=P at *;clear N I hf ht hf3 hM4 hM3 hM2 hM1 hmn;simp -dsimp only[go_sem,aa,wpp];refine(kQ (a:=(p:Int)*p) om om).call ?_;simp -dsimp only[go_sem];refine aF.intro fun l f15=>?_;simp -dsimp only[go_sem,aa];have hV6:ed ((S5.upd l ⟨50,2,1,fun _=>.big 0⟩).upd l ⟨50,2,1,bW (fun _=>.big 0) 0 (.big ((p:Int)*p))⟩) l 50 2 (.big ((p:Int)*p)):=ed.set;have hE6:ft S5 ((S5.upd l ⟨50,2,1,fun _=>.big 0⟩).upd l ⟨50,2,1,bW (fun _=>.big 0) 0 (.big ((p:Int)*p))⟩):=((ft.refl S5).upd f15 _).upd f15 _;have hP6:=hP5.ext hE6;refine dI (fun O S=>∃(i:Nat) (x:AV) (g:Nat->Nat),i<=n/\O 6=.sl 1 b 0 n/\O 7=x/\O 15=.ptr 2 l 0/\O 62=.sl 1 bp 0 n/\O 63=.int .i64 n/\O 64=.int .i64 i /\
  da 59 1 ((S5.upd l ⟨50,2,1,fun _=>.big 0⟩).upd l ⟨50,2,1,bW (fun _=>.big 0) 0 (.big ((p:Int)*p))⟩) S x i (fun a=>.sl 2 (g a) 0 n)/\(∀a,a<i->jp S (g a) n (fun j=>P a j/(p*p)))/\∀a c,a<i->c<i->g a=g c->a=c) (fun O S=>n-cj (O 64)) ?_ ?_
 .simp -dsimp only[go_sem];exact⟨0,om,rfl,fun _=>0,da.nil (ft.refl _) _,fun a J=>om,fun a c J=>om⟩
 generalize (S5.upd l ⟨50,2,1,fun _=>AV.big 0⟩).upd l ⟨50,2,1,bW (fun _=>AV.big 0) 0 (AV.big ((p:Int)*p))⟩=S6 at *;rintro Q' hQ' O S ⟨i,x,g,m,e6,R,C,s,t,u,q,T,hI⟩;by_cases w:i<n
 .have hP:=hP6.ext q.1;obtain⟨g1,u1,v1⟩:=id hP.outer;have x1:g1 i=.sl 2 (gp i) 0 n:=v1 i w;simp -dsimp only[go_sem,aa,s,t,u,w,u1,x1];refine dI (fun O S'=>∃(j:Nat) (y:AV),j<=n/\O 6=.sl 1 b 0 n/\O 7=x/\O 15=.ptr 2 l 0/\O 18=y/\O 62=.sl 1 bp 0 n/\O 63=.int .i64 n/\O 64=.int .i64 i/\O 68=.sl 2 (gp i) 0 n/\O 69=.int .i64 n/\O 70=.int .i64 j /\
   da 59 1 S6 S' x i (fun a=>.sl 2 (g a) 0 n)/\(∀a,a<i->jp S' (g a) n (fun j=>P a j/(p*p))/\¬eh y (g a))/\da 50 2 S6 S' y j (fun c=>.big (P i c/(p*p)))/\∀d,eh x d->¬eh y d) (fun O S=>n-cj (O 70)) ?_ ?_
  .simp -dsimp only[go_sem,e6,R,C,s,t,u];exact⟨0,om,rfl,q,fun a J=>⟨T a J,by rintro⟨_,_,_,e⟩;cases e⟩,da.nil q.1 _,fun d _=>by rintro⟨_,_,_,e⟩;cases e⟩
  clear e6 R C s t u q T hP u1 v1 x1;rintro Q2 hQ2 O S' ⟨j,y,o,e6,R,C,K,s,t,u,e68,e69,e70,q,T,hY,hXY⟩;by_cases D:j<n
  .have hP:=hP6.ext q.1;obtain⟨g1,u1,v1⟩:=id (hP.row i w);have x1:g1 j=.big (P i j):=v1 j D;have hV:=hV6.ext q.1;have hb1:=hent i j w D;obtain⟨z,hz⟩:=hdvd i j w D;have hq:P i j/((p:Int)*p)=z:=by rw[hz,dh _ om]
   have hzb:z.natAbs<=1120325651456000:=by rw[<-hq];exact hb1
   simp -dsimp only[go_sem,aa,e68,e69,e70,D,u1];refine aF.intro fun b20 f20=>?_;obtain⟨g2,u2,v2⟩:=(id hV.get);have n20:l≠b20:=hV.fresh f20;simp -dsimp only[go_sem,aa,C,x1,n20,u2,v2,eZ];refine(Io (a:=P i j) (b:=(p:Int)*p) (k:=88) (hPn i j w D) (by unfold nb;omega) om om).call ?_
   rw[hq];simp -dsimp only[go_sem];refine aF.intro fun b21 f21=>?_;have n21_20:=(ag f21).1
   try simp -dsimp only[go_sem]
   refine aF.intro fun b22 f22=>?_;have n22_21:=(ag f22).1;have n22_20:=(ag (ag f22).2).1
   try simp -dsimp only[go_sem,nn n22_21]
   refine(t8 (a:=z) (by unfold jk;omega)).call ?_
   simp -dsimp only[go_sem,aa,K,aj n22_21,(om:¬(z < -4611686018427387904)),(om:¬((4611686018427387904:Int)<z)),eZ]
   refine aF.intro fun b98 E=>?_;have n98_22:=(ag E).1;have n98_21:=(ag (ag E).2).1;have n98_22:=(ag (ag (ag E).2).2).1;have n98_21:=(ag (ag (ag (ag E).2).2).2).1;have n98_20:=(ag (ag (ag (ag (ag E).2).2).2).2).1
   try simp -dsimp only[go_sem,K]
   have U:S' b21=ab:=by simpa only[aO n21_20]using f21
   have V:S' b22=ab:=by simpa only[aO n22_21,aO n22_20]using f22
   have W:S' b98=ab:=by simpa only[aO n98_22,aO n98_21,aO n98_20]using E
   refine da.appx rfl rfl rfl ((((((((ft.refl S').upd f20 _).upd f20 _).upd U _).upd V _).upd U _).upd V _).upd W _) hY om (show eF 2 (.big z)from trivial) ⟨_,_,_,rfl,cn,rfl,W⟩ ?_;intro c S2 hY' L Q;simp -dsimp only[go_sem,e6,R,C,K,s,t,u,e68,e69,e70,aP (om:j<1000000),cj]
   refine⟨⟨j+1,om,rfl,q.keep hY'.1 L hXY,fun a J=>?_,hY'.congr fun a J=>?_,fun d hd he=>?_⟩,om⟩
   .obtain⟨r1,r2⟩:=T a J;refine⟨r1.via fun X q=>L _ _ q r2,fun hb=>?_⟩;rw[ep]at hb;rw[<-hb]at Q;rcases Q with h|h
    .exact r2 h
    .exact bM.fresh r1 h rfl
   .by_cases e:a=j
    .subst e;rw[ai rfl,hq]
    .rw[af e]
   .rw[ep]at he;subst he;rcases Q with h|h
    .exact hXY d hd h
    .exact q.fresh h d hd rfl
  .obtain rfl:j=n:=om
   rcases hY.2 with⟨h0,_⟩|⟨c,_,rfl,hC⟩
   .omega
   simp -dsimp only[go_sem,aa,e68,e69,e70,D];rw[hQ2];simp -dsimp only[go_sem,R,K];refine aF.intro fun b103 Y=>?_
   try simp -dsimp only[go_sem,R]
   refine da.appx rfl rfl rfl ((ft.refl S').upd Y _) q om (show eF 1 (.sl 2 c 0 j)from trivial) ⟨_,_,_,rfl,cn,rfl,Y⟩ ?_;intro d S2 hX' L Q;have hxc:¬eh x c:=fun h=>hXY c h (ep.2 rfl);simp -dsimp only[go_sem,e6,R,C,K,s,t,u,aP (om:i<1000000),cj]
   refine⟨⟨i+1,om,rfl,fun a=>if a=i then c else g a,hX'.congr fun a J=>by grind,fun a J=>?_,fun a d J hd e=>?_⟩,om⟩
   .by_cases e:a=i
    .subst e;simp only[aQ];exact hC.via fun X q=>L _ _ q hxc
    .simp only[e,aS];obtain⟨gg,hgg,hg2⟩:=(T a om).1;exact⟨gg,L _ _ hgg (q.other hgg om),hg2⟩
   .have k1:=fun a J=>(T a J).2;simp only[ep]at k1
    grind
 have hin:i=n:=om
 rw[hin]at q T hI;rcases q.2 with⟨h0,_⟩|⟨c,_,rfl,hC⟩
 .omega
 simp -dsimp only[go_sem,aa,s,t,u,w];rw[hQ'];simp -dsimp only[go_sem,e6,R];refine⟨b,c,rfl,gB,g,B,hB,S0,hE0,F.2.2.1,F.2.2.2,hMb5.ext (hE6.trans q.1),dH.congr ⟨hC,T,hI⟩ fun i j m o=>?_,(hE5.trans hE6).trans q.1⟩;unfold EH;rw[ai ⟨m,o⟩,hPP]
def xY(S:St)(n p:Nat)(H:aI)(v:Nat->Nat)(a:gk n H)(m:lp (det n H) p)(d:sH p)(o:lX n p H v)(q:lL S) :
  cP 25 [az n n H,.int .i64 p,aK n (fun k=>v k)] S (fun r S'=>∃c g B S1,r=.tup [.sl 1 c 0 n,.int .i64 0]/\tp n p H v B/\ft S S1/\jd S1 S' c g n n (EH n p H B)):=by
 have h:=a.one;have z:=a.eight;refine i9 func25 ntmps25 results25 ?_;simp -dsimp only[go_sem,aa];refine(wb S n p H v a m d o q).mono ?_;rintro _ S1 ⟨b,c,gb,g,B,S0,rfl,l,e,_,_,_,s,t⟩;simp -dsimp only[go_sem,aa,aY];refine(Ek n n (EH n p H B) h om h om (fun i j u w=>by have:=(l.nbB d).gent a d u w;unfold jk;omega) S1 _ (fI.one s.vr.va)).mono ?_
 rintro _ S2 ⟨x,y,rfl,f⟩;simp -dsimp only[go_sem];exact⟨x,rfl,y,B,l,S1,e.trans t,f⟩

structure jx(S:St)(bp bh:Nat)(gh:Nat->Nat)(bu:Nat)(gu:Nat->Nat)(n m:Nat)(H U:aI):Prop where
 pair:∃g,S bp=some ⟨183,1,2,g⟩/\g 0=.sl 1 bh 0 n/\g 1=.sl 1 bu 0 m
 h:dH S bh gh n m H
 u:dH S bu gu m m U
 ne:∀i j,i<n->j<m->gh i≠gu j
def dH.stp{S':St}(h:dH S b g n m A)(d:S' b=S b)(e:∀i,i<n->S' (g i)=S (g i)):dH S' b g n m A :=
 ⟨h.outer.via fun X a=>by rw[d];exact a,fun i c=>bM.via (h.row i c) fun X a=>by rw[e i c];exact a,h.inj⟩
def jx.fresh(h:jx S bp bh gh bu gu n m H U){c:Nat}{X:eS}(j:S c=ab):jx (S.upd c X) bp bh gh bu gu n m H U:=by
 obtain⟨g,f,k,l⟩:=h.pair;obtain⟨r,o,_⟩:=h.h.outer;obtain⟨s,p,_⟩:=h.u.outer;have d:∀b,S b≠ab->(S.upd c X) b=S b:=fun b q=>aO (by rintro rfl;exact q j)
 exact⟨⟨g,by rw[d _ (by rw[f];simp)];exact f,k,l⟩,h.h.stp (d _ (by rw[o];simp)) fun i a=>d _ (by obtain⟨_,e,_⟩:=h.h.row i a;rw[e];simp),h.u.stp (d _ (by rw[p];simp)) fun i a=>d _ (by obtain⟨_,e,_⟩:=h.u.row i a;rw[e];simp),h.ne⟩
def jx.setH(h:jx S bp bh gh bu gu n m H U){i j:Nat}{z:Int}{g':Nat->AV}(b:i<n)(a:S (gh i)=some ⟨50,2,m,g'⟩):jx (S.upd (gh i) ⟨50,2,m,bW g' j (.big z)⟩) bp bh gh bu gu n m (fu H i j z) U:=by
 obtain⟨g,c,d,e⟩:=h.pair;obtain⟨q,f,_⟩:=h.u.outer;have l:bp≠gh i:=by rintro rfl;rw[c]at a;cases a
 have o:bu≠gh i:=by rintro rfl;rw[f]at a;cases a
 exact⟨⟨g,by rw[aO l];exact c,d,e⟩,h.h.set b a,h.u.stp (aO o) fun k p=>aO (aj (h.ne i k b p)),h.ne⟩
def jx.setU(h:jx S bp bh gh bu gu n m H U){i j:Nat}{z:Int}{g':Nat->AV}(b:i<m)(a:S (gu i)=some ⟨50,2,m,g'⟩):jx (S.upd (gu i) ⟨50,2,m,bW g' j (.big z)⟩) bp bh gh bu gu n m H (fu U i j z):=by
 obtain⟨g,c,d,e⟩:=h.pair;obtain⟨q,f,_⟩:=h.h.outer;have l:bp≠gu i:=by rintro rfl;rw[c]at a;cases a
 have o:bh≠gu i:=by rintro rfl;rw[f]at a;cases a
 exact⟨⟨g,by rw[aO l];exact c,d,e⟩,h.h.stp (aO o) fun k p=>aO (h.ne k i p b),h.u.set b a,h.ne⟩
def rd(i:Nat)(A B:aI):aI:=fun r c=>if r<i then B r c else A r c
def mG(A B:aI):rd 0 A B=A:=by funext r c;simp[rd]
def mi(i:Nat)(A B:aI)(c:Nat):rd i A B i c=A i c:=by simp[rd]
def oq(h:dH S b g n m (rd n A B)):dH S b g n m B:=h.congr fun r c a _=>by simp[rd,a]
def Jt(i s p:Nat)(q:Int)(A:aI):fu (rd i A (kv A s p q)) i s (A i s-q*A i p)=rd (i+1) A (kv A s p q):=by
 funext r c;simp only[fu,rd,kv];by_cases a:r=i
 .subst a;by_cases d:c=s<;>simp[d]
 .by_cases b:r<i
  .simp[a,b,(om:r<i+1)]
  .simp[a,b,(om:¬r<i+1)]
def Ju(i s:Nat)(A:aI):fu (rd i A (l8 A s)) i s (- A i s)=rd (i+1) A (l8 A s):=by
 funext r c;simp only[fu,rd,l8];by_cases a:r=i
 .subst a;by_cases d:c=s<;>simp[d]
 .by_cases b:r<i
  .simp[a,b,(om:r<i+1)]
  .simp[a,b,(om:¬r<i+1)]
def MW(i a b:Nat)(d:a≠b)(A:aI):fu (fu (rd i A (B7 A a b)) i a (A i b)) i b (A i a)=rd (i+1) A (B7 A a b):=by
 funext r c;simp only[fu,rd,B7,dO];by_cases f:r=i
 .subst f;by_cases g:c=b
  .subst g;simp[aj d]
  .by_cases e:c=a
   .subst e;simp[d]
   .simp[g,e]
 .by_cases e:r<i
  .simp[f,e,(om:r<i+1)]
  .simp[f,e,(om:¬r<i+1)]
def Q0(S:St)(bp bh:Nat)(gh:Nat->Nat)(bu:Nat)(gu:Nat->Nat)(n m:Nat)(H U:aI)(b7:Nat)(q:Int):Prop:=jx S bp bh gh bu gu n m H U/\bM S b7 50 2 1 (fun _=>.big q)/\(∀i,i<n->gh i≠b7)/\∀i,i<m->gu i≠b7
def ph(S0:St)(bp bh bu n m s p:Nat)(gh gu:Nat->Nat)(H U:aI)(q:Int)(k:Nat)(hn:n<=8)(hm:m<=9)(x:s<m)(l:p<m)(hk:k<=4000000000)(J:nb q k)(Q:∀i j,i<n->j<m->nb (H i j) k)(R:∀i j,i<m->j<m->nb (U i j) k)(b:jx S0 bp bh gh bu gu n m H U) :
  cP 188 [.ptr 1 bp 0,.int .i64 s,.int .i64 p,.big q] S0 (fun _ S'=>jx S' bp bh gh bu gu n m (kv H s p q) (kv U s p q)):=by
 refine iw func188 rfl 92 ntmps188 kr sm ?_
 rw[lA,results188];obtain⟨g,f,o,r⟩:=b.pair;simp -dsimp only[go_sem,aa];refine aF.intro fun t K=>?_;have e:Q0 (S0.upd t ⟨50,2,1,fun _=>.big q⟩) bp bh gh bu gu n m (rd 0 H (kv H s p q)) U t q:=by
  rw[mG];exact⟨b.fresh K,bM.here fun _ _=>rfl,fun i L=>bM.fresh (b.h.row i L) K,fun i L=>bM.fresh (b.u.row i L) K⟩
 generalize S0.upd t ⟨50,2,1,fun _=>.big q⟩=S1 at e ⊢;clear f o r b K;obtain⟨g,f,o,r⟩:=e.1.pair;simp -dsimp only[go_sem,f,o];refine aH (fun O S=>∃i:Nat,i<=n/\Q0 S bp bh gh bu gu n m (rd i H (kv H s p q)) U t q/\O 0=.ptr 1 bp 0/\O 1=.int .i64 s/\O 2=.int .i64 p/\O 7=.ptr 2 t 0/\O 14=.int .i64 n/\O 15=.int .i64 i) (fun O S=>n-cj (O 15)) ?_ ?_
 .simp -dsimp only[go_sem];exact⟨0,om,e,rfl⟩
 .clear e f o r;rintro O S ⟨i,L,e,v,B,C,D,c,d⟩;obtain⟨b,w,y,A⟩:=id e;obtain⟨g,f,o,r⟩:=b.pair;obtain⟨g7,M,N⟩:=id w;have P:=N 0 om;by_cases a:i<n
  .obtain⟨T,V,W⟩:=b.h.outer;obtain⟨E,F,G⟩:=b.h.row i a;have X:T i=.sl 2 (gh i) 0 m:=W i a;have Y:E s=.big (H i s):=(G s x).trans (by simp only[mi])
   have Z:E p=.big (H i p):=(G p l).trans (by simp only[mi])
   simp -dsimp only[go_sem,aa,v,c,d,a];refine bE 32 kr ?_
   simp -dsimp only[go_sem,aa,v,B,C,D,c,d,a,f,o,V,X,F,Y,Z,x,l,M,P];refine⟨_,(ja J (Q i p a l) om).pure',_,(tL (k:=k+k) ((Q i s a x).mono om) (J.mul (Q i p a l)) om).pure',?_⟩;have I:=b.setH (j:=s) (z:=H i s-q*H i p) a F;rw[Jt]at I;simp -dsimp only[go_sem,aP (om:i<1000000),cj]
   exact⟨⟨i+1,om,⟨I,w.upd (aj (y i a)) _,y,A⟩,rfl⟩,om⟩
  .obtain rfl:i=n:=om
   have e:Q0 S bp bh gh bu gu i m (kv H s p q) (rd 0 U (kv U s p q)) t q:=by
    rw[mG];exact⟨⟨b.pair,oq b.h,b.u,b.ne⟩,w,y,A⟩
   simp -dsimp only[go_sem,aa,v,c,d,a,f,r];refine aH (fun O S=>∃j:Nat,j<=m/\Q0 S bp bh gh bu gu i m (kv H s p q) (rd j U (kv U s p q)) t q/\O 0=.ptr 1 bp 0/\O 1=.int .i64 s/\O 2=.int .i64 p/\O 7=.ptr 2 t 0/\O 55=.int .i64 m/\O 56=.int .i64 j) (fun O S=>m-cj (O 56)) ?_ ?_
   .simp -dsimp only[go_sem,v,B,C,D];exact⟨0,om,e,rfl⟩
   .clear e f o r M N P b y A w v B C D c d a;rintro O S ⟨j,hj,e,v,B,C,D,c,d⟩;obtain⟨b,w,y,A⟩:=id e;obtain⟨g,f,o,r⟩:=b.pair;obtain⟨g7,M,N⟩:=id w;have P:=N 0 om;by_cases a:j<m
    .obtain⟨T,V,W⟩:=b.u.outer;obtain⟨E,F,G⟩:=b.u.row j a;have X:T j=.sl 2 (gu j) 0 m:=W j a;have Y:E s=.big (U j s):=(G s x).trans (by simp only[mi])
     have Z:E p=.big (U j p):=(G p l).trans (by simp only[mi])
     simp -dsimp only[go_sem,c,d,a];refine bE 32 kr ?_
     simp -dsimp only[go_sem,aa,v,B,C,D,c,d,a,f,r,V,X,F,Y,Z,x,l,M,P];refine⟨_,(ja J (R j p a l) om).pure',_,(tL (k:=k+k) ((R j s a x).mono om) (J.mul (R j p a l)) om).pure',?_⟩;have I:=b.setU (j:=s) (z:=U j s-q*U j p) a F;rw[Jt]at I;simp -dsimp only[go_sem,aP (om:j<1000000),cj]
     exact⟨⟨j+1,om,⟨I,w.upd (aj (A j a)) _,y,A⟩,rfl⟩,om⟩
    .obtain rfl:j=m:=om
     simp -dsimp only[go_sem,c,d,a];exact⟨b.pair,b.h,oq b.u,b.ne⟩
def zZ(S0:St)(bp bh bu n m s:Nat)(gh gu:Nat->Nat)(H U:aI)(k:Nat)(G:n<=8)(I:m<=9)(l:s<m)(J:k<=4000000000)(E:∀i j,i<n->j<m->nb (H i j) k)(F:∀i j,i<m->j<m->nb (U i j) k)(b:jx S0 bp bh gh bu gu n m H U) :
  cP 236 [.ptr 1 bp 0,.int .i64 s] S0 (fun _ S'=>jx S' bp bh gh bu gu n m (l8 H s) (l8 U s)):=by
 refine iw func236 rfl 64 ntmps236 kr sm ?_
 rw[lA,results236];obtain⟨g,e,o,p⟩:=b.pair;simp -dsimp only[go_sem,aa,e,o];refine aH (fun O S=>∃i:Nat,i<=n/\jx S bp bh gh bu gu n m (rd i H (l8 H s)) U/\O 0=.ptr 1 bp 0/\O 1=.int .i64 s/\O 10=.int .i64 n/\O 11=.int .i64 i) (fun O S=>n-cj (O 11)) ?_ ?_
 .simp -dsimp only[go_sem];exact⟨0,om,by rw[mG];exact b,rfl⟩
 .clear b e o p;rintro O S ⟨i,K,b,f,q,c,d⟩;obtain⟨g,e,o,p⟩:=b.pair;by_cases a:i<n
  .obtain⟨w,x,y⟩:=b.h.outer;obtain⟨A,r,B⟩:=b.h.row i a;have C:w i=.sl 2 (gh i) 0 m:=y i a;have D:A s=.big (H i s):=(B s l).trans (by simp only[mi])
   simp -dsimp only[go_sem,aa,f,c,d,a];refine bE 20 kr ?_
   simp -dsimp only[go_sem,aa,f,q,c,d,a,e,o,x,C,r,D,l];refine⟨_,(yx (E i s a l) om).pure',?_⟩;have t:=b.setH (j:=s) (z:=- H i s) a r;rw[Ju]at t;simp -dsimp only[go_sem,aP (om:i<1000000),cj]
   exact⟨⟨i+1,om,t,rfl⟩,om⟩
  .obtain rfl:i=n:=om
   have v:jx S bp bh gh bu gu i m (l8 H s) (rd 0 U (l8 U s)):=by
    rw[mG];exact⟨b.pair,oq b.h,b.u,b.ne⟩
   simp -dsimp only[go_sem,aa,f,c,d,a,e,p];refine aH (fun O S=>∃j:Nat,j<=m/\jx S bp bh gh bu gu i m (l8 H s) (rd j U (l8 U s))/\O 0=.ptr 1 bp 0/\O 1=.int .i64 s/\O 39=.int .i64 m/\O 40=.int .i64 j) (fun O S=>m-cj (O 40)) ?_ ?_
   .simp -dsimp only[go_sem,f,q];exact⟨0,om,v,rfl⟩
   .clear b v e o p f q c d a;rintro O S ⟨j,L,b,f,q,c,d⟩;obtain⟨g,e,o,p⟩:=b.pair;by_cases a:j<m
    .obtain⟨w,x,y⟩:=b.u.outer;obtain⟨A,r,B⟩:=b.u.row j a;have C:w j=.sl 2 (gu j) 0 m:=y j a;have D:A s=.big (U j s):=(B s l).trans (by simp only[mi])
     simp -dsimp only[go_sem,c,d,a];refine bE 20 kr ?_
     simp -dsimp only[go_sem,aa,f,q,c,d,a,e,p,x,C,r,D,l];refine⟨_,(yx (F j s a l) om).pure',?_⟩;have t:=b.setU (j:=s) (z:=- U j s) a r;rw[Ju]at t;simp -dsimp only[go_sem,aP (om:j<1000000),cj]
     exact⟨⟨j+1,om,t,rfl⟩,om⟩
    .obtain rfl:j=m:=om
     simp -dsimp only[go_sem,c,d,a];exact⟨b.pair,b.h,oq b.u,b.ne⟩
def De(S0:St)(bp bh bu n m a b:Nat)(gh gu:Nat->Nat)(H U:aI)(J:n<=8)(K:m<=9)(A:a<m)(B:b<m)(q:a≠b)(d:jx S0 bp bh gh bu gu n m H U) :
  cP 235 [.ptr 1 bp 0,.int .i64 a,.int .i64 b] S0 (fun _ S'=>jx S' bp bh gh bu gu n m (B7 H a b) (B7 U a b)):=by
 refine iw func235 rfl 102 ntmps235 kr sm ?_
 rw[lA,results235];obtain⟨g,k,o,p⟩:=d.pair;simp -dsimp only[go_sem,aa,k,o];refine aH (fun O S=>∃i:Nat,i<=n/\jx S bp bh gh bu gu n m (rd i H (B7 H a b)) U/\O 0=.ptr 1 bp 0/\O 1=.int .i64 a/\O 2=.int .i64 b/\O 12=.int .i64 n/\O 13=.int .i64 i) (fun O S=>n-cj (O 13)) ?_ ?_
 .simp -dsimp only[go_sem];exact⟨0,om,by rw[mG];exact d,rfl⟩
 .clear d k o p;rintro O S ⟨i,L,d,l,r,s,e,f⟩;obtain⟨g,k,o,p⟩:=d.pair;by_cases c:i<n
  .obtain⟨C,D,E⟩:=d.h.outer;obtain⟨t,v,w⟩:=d.h.row i c;have F:C i=.sl 2 (gh i) 0 m:=E i c;have G:t a=.big (H i a):=(w a A).trans (by simp only[mi])
   have I:t b=.big (H i b):=(w b B).trans (by simp only[mi])
   simp -dsimp only[go_sem,aa,l,e,f,c];refine g9 37 kr ?_
   simp (maxSteps:=3000000) -dsimp only[go_sem,Nat.reduceEqDiff,Nat.reduceLT,↓reduceIte,reduceCtorEq,Sc,aa,l,r,s,e,f,c,k,o,D,F,v,G,I,A,B];have x:=(d.setH (j:=a) (z:=H i b) c v).setH (j:=b) (z:=H i a) c cn;rw[MW i a b q]at x;simp -dsimp only[go_sem,aP (om:i<1000000),cj]
   exact⟨⟨i+1,om,x,rfl⟩,om⟩
  .obtain rfl:i=n:=om
   have y:jx S bp bh gh bu gu i m (B7 H a b) (rd 0 U (B7 U a b)):=by
    rw[mG];exact⟨d.pair,oq d.h,d.u,d.ne⟩
   simp -dsimp only[go_sem,aa,l,e,f,c,k,p];refine aH (fun O S=>∃j:Nat,j<=m/\jx S bp bh gh bu gu i m (B7 H a b) (rd j U (B7 U a b))/\O 0=.ptr 1 bp 0/\O 1=.int .i64 a/\O 2=.int .i64 b/\O 59=.int .i64 m/\O 60=.int .i64 j) (fun O S=>m-cj (O 60)) ?_ ?_
   .simp -dsimp only[go_sem,l,r,s];exact⟨0,om,y,rfl⟩
   .clear d y k o p l r s e f c;rintro O S ⟨j,M,d,l,r,s,e,f⟩;obtain⟨g,k,o,p⟩:=d.pair;by_cases c:j<m
    .obtain⟨C,D,E⟩:=d.u.outer;obtain⟨t,v,w⟩:=d.u.row j c;have F:C j=.sl 2 (gu j) 0 m:=E j c;have G:t a=.big (U j a):=(w a A).trans (by simp only[mi])
     have I:t b=.big (U j b):=(w b B).trans (by simp only[mi])
     simp -dsimp only[go_sem,e,f,c];refine g9 37 kr ?_
     simp (maxSteps:=3000000) -dsimp only[go_sem,Nat.reduceEqDiff,Nat.reduceLT,↓reduceIte,reduceCtorEq,Sc,aa,l,r,s,e,f,c,k,p,D,F,v,G,I,A,B];have x:=(d.setU (j:=a) (z:=U j b) c v).setU (j:=b) (z:=U j a) c cn;rw[MW j a b q]at x;simp -dsimp only[go_sem,aP (om:j<1000000),cj]
     exact⟨⟨j+1,om,x,rfl⟩,om⟩
    .obtain rfl:j=m:=om
     simp -dsimp only[go_sem,e,f,c];exact⟨d.pair,d.h,oq d.u,d.ne⟩

end Go.Proofs.YtdobfmlmenaajaaGreatDoor
