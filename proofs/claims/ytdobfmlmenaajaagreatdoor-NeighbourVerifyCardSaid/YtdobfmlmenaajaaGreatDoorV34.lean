/-
  Lemmas for NeighbourVerify.
-/
import Derived.Test.YtdobfmlmenaajaaGreatDoorV33
namespace Go.Proofs.YtdobfmlmenaajaaGreatDoor
open Go.RowKit Tryz
open _root_.Int renaming tmod→eI,reduceBEq→iM
open _root_.Option renaming none→ab
set_option maxHeartbeats 6400000
set_option maxRecDepth 4096
set_option linter.all false
attribute [local go_sem] Nat.reduceAdd Nat.reduceEqDiff Nat.reduceLeDiff Nat.reduceLT reduceCtorEq Int.ofNat_lt decide_true decide_false Int.zero_le_ofNat
attribute [local go_sem ↓] reduceIte
variable{ops:Array Oper}{βc βl βr βs:Bool}{z:Int}{b c d i j m n p:Nat}{g:Nat->AV}{v:Nat->Int}{gb len:Nat->Nat}{S S' S0:St}{O:Tm}{K:Tm->St->Prop}{A B H Q R T W:aH}
def vn(n:Nat)(W:aH)(β:Bool)(c:1<=n)(m:n<=8)(l:∀i j,i<n->j<n->ta (W i j))(hβ:β=true↔det n W=1∨det n W=-1):PF 109 [aC n n W] (.bool β):=by
 have a:∀i j,i<n->j<n->nb (W i j) 64:=fun i j d f=>by have:=l i j d f;unfold ta at this;unfold nb;omega
 refine jo func109 ntmps109 results109 ?_;simp -dsimp only[go_sem,aa];refine(po n n W c om c om (fun i j d f=>by have o:=l i j d f;unfold ta at o;omega)).pf.call ?_
 simp -dsimp only[go_sem,aa,aC,(om:¬((8:Int)<(n:Int)))]
 refine(GA n (17*(64+10)) W c om om om (QN om a)).call ?_;simp -dsimp only[go_sem];refine aG.intro fun bx fx=>?_
 try simp -dsimp only[go_sem]
 by_cases b:iT (det n W)
 .refine(uJ b).call ?_;by_cases e:det n W=1
  .rw[e,hβ.2 (bW e)];simp only[go_sem,dw];exact VR.mf rfl
  by_cases g:det n W=-1
  .rw[g,hβ.2 (bQ g)];simp only[go_sem,dw];exact VR.mf rfl
  rw[dD hβ fun h=>by rcases h with h|h<;>contradiction]
  simp only[go_sem,show(det n W==1)=false by simpa using e,show(det n W==-1)=false by simpa using g]
  exact VR.mf rfl
 .have k:nb (det n W) (17*(64+10)):=(oq n W om a).mono (by have:=aD (64+10) m;omega)
  refine(NN k om b).call ?_;rw[dD hβ fun h=>by unfold iT at b;rcases h with h|h<;>rw[h]at b<;>omega]
  simp only[go_sem,show((0:Int)==1)=false from rfl,show((0:Int)==-1)=false from rfl];exact VR.mf rfl
def ColR(S:St)(bb n i r:Nat)(W:aH):Prop:=∃(g:Nat->Nat) (x:AV),bG S bb 29 1 n (fun a=>if a<i then .sl 1 (g a) 0 n else if a=i then x else .nil) /\
 (∀a,a<i->ku S (g a) n (fun c=>W c a)/\¬eC x (g a))/\c8 2 1 St.none S x r (fun c=>.int .i64 (W c i))/\¬eC x bb
def ColT(S:St)(bb n i:Nat)(W:aH):Prop:=∃g:Nat->Nat,bG S bb 29 1 n (fun a=>if a<i then .sl 1 (g a) 0 n else .nil)/\∀a,a<i->ku S (g a) n (fun c=>W c a)
def T8(n:Nat)(A W:aH):Prop:=(det n W=1∨det n W=-1)/\I0 n n A (fun i r=>W r i)
def yq(n:Nat)(A W:aH)(K:1<=n)(V:n<=5)(hA:∀i j,i<n->j<n->-262144<A i j/\A i j<262144)(M:(∀i j,i<n->j<n->A i j=A j i)/\vA A n)(hW:∀i j,i<n->j<n->ta (W i j))(β:Bool)(hβ:β=true↔T8 n A W) :
  cZ 50 [aC n n A,aC n n W] St.none (yf n n A (fun i r=>W r i) β):=by
 have h5:=V;obtain⟨βu,hβu⟩:=jB (det n W=1∨det n W=-1);obtain⟨βg,hβg⟩:=jB (I0 n n A (fun i r=>W r i));refine jI func50 ntmps50 results50 ?_;simp -dsimp only[go_sem,aa,aC,bU];refine(vn n W βu K om hW hβu).call ?_
 cases βu with
 | false =>
  simp only[go_sem,bU];exact bQ ⟨dD hβ fun h=>(by have:=hβu.2 h.1;cases this),rfl⟩
 | true =>
 have hu:=hβu.1 rfl;simp -dsimp only[go_sem,bU]
 repeat refine an ?_
 refine aG.intro fun bb fb=>?_
 try simp only[go_sem]
 refine dA (fun O S=>∃i:Nat,i<=n/\O 0=aC n n A/\O 1=aC n n W/\O 6=.sl 1 bb 0 n/\O 24=.int .i64 n/\O 25=.int .i64 i/\ColT S bb n i W) (fun O S=>n-co (O 25)) ?_ ?_
 .simp only[go_sem,aC];exact⟨0,om,rfl,fun _=>0,bG.here fun a b=>by simp,fun a b=>om⟩
 rintro Q1 m O S ⟨i,hi,Y,L,N,f,k,t⟩;by_cases l:i<n
 .simp only[go_sem,L,f,k,l,aC];refine dA (fun O S=>∃r:Nat,r<=n/\O 0=aC n n A/\O 1=aC n n W/\O 6=.sl 1 bb 0 n/\O 7=.int .i64 i/\O 24=.int .i64 n/\O 25=.int .i64 i/\O 28=aC n n W/\O 29=.int .i64 n/\O 30=.int .i64 r/\ColR S bb n i r W) (fun O S=>n-co (O 30)) ?_ ?_
  .simp only[*,go_sem,aC];obtain⟨g,o,v⟩:=t;obtain⟨z,u,w⟩:=o;exact⟨0,om,rfl,g,.nil,⟨z,u,fun a b=>(w a b).trans (by by_cases e:a<i<;>simp[e])⟩,fun a b=>⟨v a b,by rintro⟨_,_,_,e⟩;cases e⟩,c8.nil (fun _ _ h=>by cases h) _,by rintro⟨_,_,_,e⟩;cases e⟩
  clear Y L N f k t;clear O S;rintro Q2 p O S ⟨r,hr,Y,L,N,e7,f,k,B,C,D,g,x,o,v,P,E⟩;by_cases F:r<n
  .obtain⟨g4,Q,Z⟩:=id o;have x4:g4 i=x:=(Z i l).trans sm
   simp -dsimp only[go_sem,B,C,D,F,aC,aW];refine ie 11 kr ?_
   simp -dsimp only[go_sem,aa,N,e7,l,Q,x4];clear m p;refine c8.app rfl rfl rfl P om (show eO 1 (.int .i64 (W r i))from by simp[eO]) (bW ⟨_,rfl,rfl⟩) ?_
   intro c S2 R G s;have u5:=G _ _ Q E;simp only[*,go_sem,aa,aS (om:r<1000000),co]
   have H:c≠bb:=by
    rintro rfl;rcases s with h|h
    .exact E h
    .rw[Q]at h;cases h
   refine⟨⟨r+1,om,rfl,rfl,rfl,rfl,g,.sl 1 c 0 (r+1),⟨_,cp,fun a b=>?_⟩,fun a b=>?_,?_,fun h=>H (eH.1 h).symm⟩,om⟩
   .by_cases e:a=i
    .simp[bR,e]
    .exact(af e).trans ((Z a b).trans (by simp[e]))
   .obtain⟨T,r2⟩:=v a b;have U:g a≠bb:=fun h=>by have:=bG.ne T o dc;exact this h
    obtain⟨q,q1,q2⟩:=id T;refine⟨⟨q,(aO U).trans (G _ _ q1 r2),q2⟩,fun y=>?_⟩;rw[eH]at y;rw[<-y]at s;rcases s with h|h
    .exact r2 h
    .exact bG.fresh T h rfl
   .refine(R.keep (x:=.sl 1 bb 0 0) (fun _ _ h=>by cases h) (fun d X hX hd=>(aO (fun h=>hd (eH.2 h))).trans hX) (fun d K h2=>H ((eH.1 K).symm.trans (eH.1 h2)))).congr fun a b=>?_
    by_cases e:a=r
    .subst e;rw[ah rfl]
    .rw[af e]
  simp only[go_sem,aa,B,C,D,F];rw[p];clear p;simp only[*,go_sem,aC,aS (om:i<1000000),co]
  have I:r=n:=om
  rw[I]at P;rcases P.2 with⟨h0,_⟩|⟨c,_,rfl,t⟩
  .omega
  refine⟨⟨i+1,om,rfl,fun a=>if a=i then c else g a,?_,fun a b=>?_⟩,om⟩
  .obtain⟨z,u,w⟩:=o;refine⟨z,u,fun a b=>(w a b).trans ?_⟩;by_cases e:a=i
   .simp[e]
   .simp[e,(om:a<i+1↔a<i)]
  .by_cases e:a=i
   .subst e;simp only[aK];exact t
   .simp only[e,aM];exact(v a om).1
 simp only[go_sem,L,f,k,l];rw[m];simp -dsimp only[*,go_sem,aa];clear m;have J:i=n:=om
 rw[J]at t;obtain⟨g,o,v⟩:=t;refine(yf.lift (Gx n n A (fun a c=>W c a) K V om hA M βg hβg) S _ (fH.two (VA.refl _ _) (VR.va (VR.sl (h:=fun a=>aW n (fun c=>W c a)) o om fun a b=>?_)))).mono ?_
 .rw[az,ah b];exact(v a b).vr
 rintro _ S2 ⟨⟨y,b2,g2,rfl,hN⟩|⟨y,rfl⟩,_⟩
 .simp only[go_sem];exact bW ⟨hβ.2 ⟨hu,hβg.1 y⟩,b2,g2,rfl,hN⟩
 .simp only[go_sem];exact bQ ⟨dD hβ fun h=>(by have:=hβg.2 h.2;rw[y]at this;cases this),rfl⟩

def QX{u v:ig}{a:Nat}(e:∀i j,i<n->j<n->(H i j).natAbs<=a)(f:∀i,i<n->(u i).natAbs<=b)(g:∀i,i<n->(v i).natAbs<=c):(jy n H u v).natAbs<=n*(n*(a*c)*b):=by
 have h:∀i,i<n->(aq n fun j=>H i j*v j).natAbs<=n*(a*c):=fun i k=>by
  refine a9 (pF _ _) (mB fun j d=>?_);rw[cH];exact aV (e i j k d) (g j d)
 refine a9 (pF _ _) (mB fun j d=>?_);rw[cH];exact aV (h j d) (f j d)
def tN.gent4{v:Nat->Nat}(o:ge n H)(k:p∈cw)(h:tN n p H v B)(d:n<=4){i j:Nat}(f:i<n)(g:j<n):(qU n p H B i j).natAbs<=546085152:=by
 have e:=h.eq o f g;rw[qv]at e;have l:=RR k;rw[<-bF]at l;have q:=QX (n:=n) (H:=H) (a:=118098) (b:=p*p) (c:=p*p) (fun i j f g=>by have:=o.ent i j f g;omega) (u:=fun r=>B r i) (v:=fun r=>B r j) (fun r m=>by have:=h.ent k m f;rw[<-bF]at this;omega) (fun r m=>by have:=h.ent k m g;rw[<-bF]at this;omega)
 rw[e,cH,<-bF]at q;generalize t:p*p=P at *;rw[iG]at q;have s:P*(qU n p H B i j).natAbs<=P*(n*n*(118098*P)):=by
  have:n*(n*(118098*P)*P)=P*(n*n*(118098*P)):=by grind
  omega
 have w:=sv s om;have x:=aV (aV d d) (aL 118098 (om:P<=289))
 omega
def wB(a:∀i j,i<n->j<n->A i j=A j i)(i j:Nat):pM n A (fun i r=>W r i) i j=jy n A (fun r=>W r i) (fun r=>W r j):=by
 rw[jn a];unfold pM jy;exact aB fun k _=>ck _ _
def Cw(a:∀i j,i<n->j<n->A i j=A j i)(i j:Nat):sV n A (fun i r=>W r i) i j=jy n A (fun r=>W r i) (fun r=>W r j):=by
 unfold sV;split
 .exact wB a i j
 .rw[wB a,jn a]
def F7(i j:Nat):mm n (fun i j=>W j i) (mm n A W) i j=jy n A (fun r=>W r i) (fun r=>W r j):=by
 rw[<-ou,qv]
def Kg.coord4(h:Kg R n)(e:1<=n)(f:n<=4){x:ig}(a:jy n R x x<=546085152){j:Nat}(g:j<n):(x j).natAbs<=1099511627776:=by
 obtain⟨m,rfl⟩:∃m,n=m+1:=⟨n-1,om⟩
 have i:=h.pd.coord (E:=118098) (m-j) x j (fun k b=>h.diag om b) om;have c:(118098:Int)^m<=118098^3:=by
  rcases (om:m=0∨m=1∨m=2∨m=3)with rfl|rfl|rfl|rfl<;>decide
 have d:0<=(118098:Int)^m:=cC (IW om);have l:(118098:Int)^m*jy (m+1) R x x<=118098^3*546085152:=by
  refine gD (ca a d) (cB c dc)
 have o:(118098:Int)^3*546085152<=1099511627776*1099511627776:=by decide
 have p:=wb (x:=x j) (B:=1099511627776) dc om
 omega
def Lx(l:1<=n)(m:n<=4)(c:(∀i j,i<n->j<n->R i j=R j i)/\vA R n)(h:∀i j,i<n->j<n->(Q i j).natAbs<=546085152) :
  (T8 n R W/\∀i j,i<n->j<n->sV n R (fun i r=>W r i) i j=Q i j)↔((det n W=1∨det n W=-1)/\∀i j,i<n->j<n->mm n (fun i j=>W j i) (mm n R W) i j=Q i j):=by
 have d:=c.1;constructor
 .rintro⟨⟨e,_⟩,f⟩;exact⟨e,fun i j a b=>by rw[F7,<-Cw d,f i j a b]⟩
 .rintro⟨e,f⟩;have g:∀i j,i<n->j<n->jy n R (fun r=>W r i) (fun r=>W r j)=Q i j:=fun i j a b=>by rw[<-F7,f i j a b]
  refine⟨⟨e,fun i k a o=>?_,fun i j a b=>?_⟩,fun i j a b=>by rw[Cw d,g i j a b]⟩
  .exact(c.2.red d om).coord4 l m (x:=fun r=>W r i) (by rw[g i i a a];have:=h i i a a;omega) o
  .rw[wB d,g i j a om];have:=h i j a om;omega
def Me(n:Nat)(R:aH):aH:=Lg n (sJ R)
def Em.uni(h:Em Q n R):det n (sJ R)*det n (sJ R)=1:=h.inv.ls.uni
def Em.wgram(c:QF n Q)(h:Em Q n R){i j:Nat}(d:i<n)(e:j<n):jy n (gT Q n R) (fun a=>Me n R a i) (fun a=>Me n R a j)=Q i j :=
 NM c.pd.sym (fun a b f g=>Ic c.one h.uni f g) (fun _ _ _ _=>rfl) d e
def Em.wsmall(c:QF n Q)(h:Em Q n R)(d:n<=4)(e:∀i j,i<n->j<n->(Q i j).natAbs<=546085152){i j:Nat}(f:i<n)(b:j<n):(Me n R i j).natAbs<=1099511627776 :=
 h.red.coord4 c.one d (x:=fun a=>Me n R a j) (by rw[h.wgram c b b];have:=e j j b b;omega) f

def Ny{v:Nat->Nat}(d:ge n H)(f:jb (det n H) p)(k:p∈cw)(a:ll n p H v):2<=n:=by
 have g:=d.one;refine Vb g fun e=>?_;subst e;have i:=a.lead;have j:v 0=1:=by
  have h:((v 0:Nat):Int)=1:=by simpa [iq]using i
  omega
 have b:=a.norm;simp only[fB,aq,j]at b;have c:=f.2.2.2;rw[J1]at c;simp at b;exact c om
def Gy(S:St)(d n p:Nat)(H:aH)(v:Nat->Nat)(q:ge n H)(J:jb (det n H) p)(u:p∈cw)(z:ll n p H v)(l:n<=4)(K:bG S d 2 1 n (fun k=>.int .i64 ((v k:Nat):Int))) :
  cZ 18 [aC n n H,.int .i64 p,.sl 1 d 0 n] S (fun r S'=>∃b c g gc B R,r=.tup [.sl 1 b 0 n,.sl 1 c 0 n,.int .i64 0]/\tN n p H v B/\Em (qU n p H B) n R/\dZ S' b g n n (gT (qU n p H B) n R)/\dZ S' c gc n n (Me n R)/\fM S S'/\S b=ab/\S c=ab/\(∀i,i<n->S (g i)=ab/\S (gc i)=ab)/\(∀i j,i<n->j<n->g i≠gc j)):=by
 have w:=q.one;have O:=Ny q J u z;obtain⟨m,rfl⟩:∃m,n=m+1:=⟨n-1,om⟩
 refine jI func18 ntmps18 results18 ?_;simp -dsimp only[go_sem,aa];refine(yg S d (m+1) p H v q J u z l K).mono ?_;rintro _ S1 ⟨P,Q,B,rfl,A,L,C⟩;have D:=A.qf q u z;have s:∀i j,i<m+1->j<m+1->(qU (m+1) p H B i j).natAbs<=546085152:=fun i j e h=>A.gent4 q u l e h;obtain⟨R,x,E⟩:=sZ (m+1) (qU (m+1) p H B) D;have M:=(x.inv.bits D).2.1;simp -dsimp only[go_sem,aa,bU];refine(tc (m+1) (m+1) (qU (m+1) p H B) w om w om (fun i j e h=>by have:=s i j e h;unfold ta;omega)).spec (fH.one L.vr.va) ?_
 simp -dsimp only[go_sem,aa];refine(E S1).mono ?_;rintro _ S3 ⟨b,g,c,gc,S2,rfl,t,N,F⟩;simp -dsimp only[go_sem,aa];have G:∀i j,i<m+1->j<m+1->iT (Me (m+1) R i j):=fun i j e h=>by have:=x.wsmall D l s e h;unfold iT;omega
 refine(BN m (sJ R) 17740 om om (fun i j e h=>M j i h e) om x.uni _ _ (fH.one N.vr.va)).mono ?_;rintro _ Sw ⟨bw,gw,rfl,y⟩;have I:dE Sw bw gw (m+1) (m+1) (Me (m+1) R):=y.1;simp -dsimp only[go_sem,aa];refine(su (m+1) (m+1) (Me (m+1) R) w om w om G _ _ (fH.one I.vr.va)).mono ?_;rintro _ S4 ⟨bt,gt,rfl,a⟩;have f:=C.trans F;have o:=(f.trans t.2.1).trans y.2.1;simp only[go_sem];exact⟨b,bt,rfl,g,gt,B,A,R,x,(t.1.ext y.2.1).ext a.2.1,a.1,o.trans a.2.1,f.none t.2.2.1,o.none a.2.2.1,fun i e=>⟨f.none (t.2.2.2 i e),o.none (a.2.2.2 i e)⟩,fun i j e h=>bG.fresh (y.2.1.has (t.1.row i e)) (a.2.2.2 j h)⟩

def I1(S:St)(d n p:Nat)(H:aH)(v:Nat->Nat)(e:ge n H)(s:jb (det n H) p)(f:p∈cw)(t:ll n p H v)(u:bG S d 2 1 n (fun k=>.int .i64 ((v k:Nat):Int)))(w:lm S) :
  cZ 25 [aC n n H,.int .i64 p,.sl 1 d 0 n] S (fun r S'=>∃c g B,r=.tup [.sl 1 c 0 n,.int .i64 0]/\tN n p H v B/\dZ S' c g n n (qU n p H B)/\fM S S'):=by
 have m:=e.one;have D:=e.five;have x:=RR f;refine jI func25 ntmps25 results25 ?_;simp -dsimp only[go_sem,aa];refine(ww S d n p H v e s f t u w).mono ?_;rintro _ S1 ⟨b,c,g,B,Q,rfl,o,q,y,z⟩;simp -dsimp only[go_sem,aa,bU];refine(Ek n n Q m om m om (fun i j h l=>by have:=(q i j h l).2;unfold iT;omega) S1 _ (fH.one y.vr.va)).mono ?_
 rintro _ S2 ⟨A,C,rfl,a⟩;simp only[go_sem];refine⟨A,rfl,C,B,o.nbB f,a.1.congr fun i j h l=>?_,z.trans a.2.1⟩;refine cL (show(p:Int)*p≠0 by omega) ?_
 rw[<-(q i j h l).1,(o.nbB f).eq e h l]
structure En(S:St)(c:Nat)(g:Nat->Nat)(n:Nat)(len:Nat->Nat)(T:aH):Prop where
 outer:bG S c 29 1 n (fun i=>.sl 1 (g i) 0 (len i))
 row:∀i,i<n->bG S (g i) 2 1 n (fun j=>.int .i64 (T i j))
 le:∀i,i<n->len i<=n
def En.ext{g:Nat->Nat}(h:En S c g n len T)(a:fM S S'):En S' c g n len T:=⟨a.has h.outer,fun i b=>a.has (h.row i b),h.le⟩
def En.vr{g:Nat->Nat}(h:En S c g n len T)(a:m<=n):VR S (.sl 1 c 0 m) (qk m len T):=by
 refine VR.sl h.outer om fun i b=>?_;rw[az];refine VR.sl (h.row i om) (by have:=h.le i om;omega) fun j _=>?_
 rw[az];exact VR.mf rfl
def En.full{g:Nat->Nat}(h:En S c g n len T)(b:∀i,i<n->len i=n):VR S (.sl 1 c 0 n) (aC n n T):=by
 refine VR.sl h.outer om fun i a=>?_;rw[az,b i a];refine VR.sl (h.row i a) om fun j _=>?_;rw[az];exact VR.mf rfl
def RP(l r s c:Bool):Int:=if l then(if r then(if s then(if c then 0 else 10)else 3)else 6)else 26
def RD(n:Nat)(R W Q:aH):Prop:=(det n W=1∨det n W=-1)/\∀i j,i<n->j<n->mm n (fun i j=>W j i) (mm n R W) i j=Q i j
def RD.congr{Q':aH}(h:RD n R W Q)(e:∀i j,i<n->j<n->Q i j=Q' i j):RD n R W Q':=⟨h.1,fun i j a b=>(h.2 i j a b).trans (e i j a b)⟩
def tN.cry{v:Nat->Nat}(d:ge n H)(e:p∈cw)(h:tN n p H v B):(∃B,tN n p H v B/\RD n R W (qU n p H B))↔RD n R W (qU n p H B) :=
 ⟨fun⟨B',h',a⟩=>a.congr fun i j b c=>by
  unfold qU;rw[ah ⟨b,c⟩,ah ⟨b,c⟩];exact jA (· / ((p:Int)*p)) (rB (fun k f=>rB (A':=fun i j=>B j i) (fun l g=>h'.uniq d e h l i g b) (fun _ _=>rfl)) (fun k f=>h'.uniq d e h k j f c)),fun a=>⟨B,h,a⟩⟩
structure LT(S:St)(d n p b c m:Nat)(gb gc len:Nat->Nat)(H:aH)(v:Nat->Int)(R T:aH)(βl βr βs βc:Bool):Prop where
 form:ge n H
 four:n<=4
 good:jb (det n H) p
 pr:p∈cw
 vec:bG S d 2 1 n (fun k=>.int .i64 (v k))
 r:dZ S b gb n n R
 rb:∀i j,i<n->j<n->-262144<R i j/\R i j<262144
 t:En S c gc n len T
 mn:m<=n
 tb:∀i j,i<n->j<n->ta (T i j)
 bl:βl=true↔oF n p H v
 br:βr=true↔(∀i j,i<n->j<n->R i j=R j i)/\vA R n
 bs:βs=true↔m=n/\∀i,i<m->len i=n
 bc:βc=true↔∃B,tN n p H (toN v) B/\RD n R T (qU n p H B)
def Ej{gc:Nat->Nat}(h:LT S d n p b c m gb gc len H v R T βl βr βs βc) :
  cZ 16 [aC n n H,.int .i64 p,.sl 1 d 0 n,.sl 1 b 0 n,.sl 1 c 0 m] S (fun r S'=>r=.int .i64 (RP βl βr βs βc)/\fM S S'):=by
 have z:=h.form.one;have C:=h.four;refine jI func16 ntmps16 results16 ?_;simp -dsimp only[go_sem,aa]
 cases βl with
 | false =>
  have u:¬oF n p H v:=fun w=>by have:=h.bl.2 w;cases this
  refine(L8 n p H v h.form h.good h.pr u).spec (fH.three (VA.refl _ _) (VA.refl _ _) (ku.vr (show ku S d n v from h.vec)).va) ?_;simp only[go_sem,aa,show((26:Int) != 0)=true from rfl];exact⟨rfl,fM.refl _⟩
 | true =>
 have e:=(h.bl.1 rfl).toN;have u:=e.1;have D:bG S d 2 1 n (fun k=>.int .i64 ((toN v k:Nat):Int)):=h.vec.congr fun k E=>by rw[e.2 k E]
 refine(yg S d n p H (toN v) h.form h.good h.pr u h.four D).mono ?_;rintro _ S1 ⟨bq,gq,B,rfl,A,F,a⟩;have f:=h.r.ext a;have g:=h.t.ext a;have x:∀i j,i<n->j<n->(qU n p H B i j).natAbs<=546085152:=fun i j o q=>A.gent4 h.form h.pr C o q;have y:βc=true↔RD n R T (qU n p H B):=h.bc.trans (A.cry h.form h.pr);generalize qU n p H B=Q at *;simp -dsimp only[go_sem,aa,bU];refine(qR n R βr z om h.rb h.br).spec (fH.one f.vr.va) ?_
 cases βr with
 | false =>
  simp only[go_sem,aa];exact⟨rfl,a⟩
 | true =>
 simp -dsimp only[go_sem,aa,aC,bU];refine(El n m len T βs (by have:=h.mn;omega) h.bs).spec (fH.two (g.vr h.mn).va (VA.refl _ _)) ?_
 cases βs with
 | false =>
  simp only[go_sem,aa];exact⟨rfl,a⟩
 | true =>
 obtain⟨rfl,w⟩:=h.bs.1 rfl;simp -dsimp only[go_sem,aa];refine(BS m R T Q βc z om (fun i j o q=>by have:=h.rb i j o q;unfold ta;omega) h.tb (fun i j o q=>by have:=x i j o q;unfold ta;omega) y).spec (fH.three f.vr.va (g.full w).va F.vr.va) ?_
 cases βc with
 | false =>
  simp only[go_sem];exact⟨rfl,a⟩
 | true =>
  simp only[go_sem];exact⟨rfl,a⟩
def Ei{gc:Nat->Nat}(J:lm S)(h:LT S d n p b c m gb gc len H v R T βl βr βs βc) :
  cZ 17 [aC n n H,.int .i64 p,.sl 1 d 0 n,.sl 1 b 0 n,.sl 1 c 0 m] S (fun r S'=>r=.int .i64 (RP βl βr βs βc)/\fM S S'):=by
 have z:=h.form.one;have K:=h.four;refine jI func17 ntmps17 results17 ?_;simp -dsimp only[go_sem,aa]
 cases βl with
 | false =>
  have A:¬oF n p H v:=fun C=>by have:=h.bl.2 C;cases this
  refine(L7 S d n p H v h.form h.good h.pr A h.vec J).mono ?_;rintro _ S1 ⟨rfl,f⟩;simp only[go_sem,aa,show((26:Int) != 0)=true from rfl];exact⟨rfl,f⟩
 | true =>
 have u:=(h.bl.1 rfl).toN;have A:=u.1;have M:bG S d 2 1 n (fun k=>.int .i64 ((toN v k:Nat):Int)):=h.vec.congr fun k N=>by rw[u.2 k N]
 refine(I1 S d n p H (toN v) h.form h.good h.pr A M J).mono ?_;rintro _ S1 ⟨bq,gq,B,rfl,L,O,f⟩;have w:=h.r.ext f;have x:=h.t.ext f;have D:∀i j,i<n->j<n->(qU n p H B i j).natAbs<=546085152:=fun i j P U=>L.gent4 h.form h.pr K P U;have o:βc=true↔RD n R T (qU n p H B):=h.bc.trans (L.cry h.form h.pr);generalize qU n p H B=Q at *;simp -dsimp only[go_sem,aa,bU];refine(nA n R βr z om h.rb h.br).spec (fH.one w.vr.va) ?_
 cases βr with
 | false =>
  simp only[go_sem,aa];exact⟨rfl,f⟩
 | true =>
 have y:=h.br.1 rfl;simp -dsimp only[go_sem,aa,aC,bU];refine(Dk n m len T βs (by have:=h.mn;omega) h.bs).spec (fH.two (x.vr h.mn).va (VA.refl _ _)) ?_
 cases βs with
 | false =>
  simp only[go_sem,aa];exact⟨rfl,f⟩
 | true =>
 obtain⟨rfl,C⟩:=h.bs.1 rfl;simp -dsimp only[go_sem,aa];obtain⟨βt,hβt⟩:=jB (T8 m R T);obtain⟨βe,hβe⟩:=jB (∀i j,i<m->j<m->sV m R (fun i r=>T r i) i j=Q i j);have a:=Lx (W:=T) z K y D;refine(yf.lift (yq m R T z om h.rb y h.tb βt hβt) S1 _ (fH.two w.vr.va (x.full C).va)).mono ?_;rintro _ S2 ⟨⟨E,X,Y,rfl,V⟩|⟨E,rfl⟩,g⟩
 .simp -dsimp only[go_sem,aa];have F:=O.ext g;refine(yu m m _ Q βe om om hβe).spec (fH.three V.vr.va F.vr.va (VA.refl _ _)) ?_
  cases βe with
  | false =>
   have q:βc=false:=dD o fun G=>by have:=hβe.2 (a.2 G).2;cases this
   rw[q];simp only[go_sem];exact⟨rfl,f.trans g⟩
  | true =>
   have I:βc=true:=o.2 (a.1 ⟨hβt.1 E,hβe.1 rfl⟩);rw[I];simp only[go_sem];exact⟨rfl,f.trans g⟩
 .have q:βc=false:=dD o fun G=>by have:=hβt.2 (a.2 G).1;rw[E]at this;cases this
  rw[q];simp only[go_sem];exact⟨rfl,f.trans g⟩

def Ot{a b c d e f r:Code}{Q:AX->Tm->St->Prop}(P:Tm->St->Prop)(g:∀r' Q',Q'=Q->(∀O S,P O S->Aw r' Q' O S)->Aw (.seq a (.seq b (.seq c (.seq d (.seq e (.seq f r')))))) Q' O S)(h:∀O S,P O S->Aw r Q O S) :
  Aw (.seq a (.seq b (.seq c (.seq d (.seq e (.seq f r)))))) Q O S:=g r Q rfl h
def dZ.upd{g:Nat->Nat}(h:dZ S b g n m A)(d:b≠c)(e:∀i,i<n->g i≠c)(X:ft):dZ (S.upd c X) b g n m A:=⟨h.outer.upd d X,fun i a=>(h.row i a).upd (e i a) X,h.inj⟩
def OX(P:Tm->St->Prop)(a:P O S)(h:∀O T,P O T->GF ops O T K):GF ops O S K:=h O S a
def RH(P:Tm->St->Prop)(h:∀K':Tm->St->Prop,(∀O S,P O S->K' O S)->GF ops O S K')(a:∀O S,P O S->K O S):GF ops O S K:=h K a
def KP{K:AV->Prop}(a:n<=m)(h:K (.sl 1 b 0 n)):kG 28 (.sl 1 b 0 m) ab (some (.int .i64 n)) ab K:=by
 refine⟨rfl,0,n,?_⟩;simp;exact⟨a,h⟩
def KO{K:AV->Prop}(a:n<=m)(h:K (.sl 1 b 0 n)):kG 29 (.sl 1 b 0 m) ab (some (.int .i64 n)) ab K:=by
 refine⟨rfl,0,n,?_⟩;simp;exact⟨a,h⟩
structure LB(S0 S:St)(d n b c:Nat)(gb gc len:Nat->Nat)(v:Nat->Int)(R T:aH):Prop where
 vec:bG S d 2 1 n (fun k=>.int .i64 (v k))
 r:dZ S b gb n n R
 t:En S c gc n len T
 inj:∀i j,i<n->j<n->gc i=gc j->i=j
 ne:∀i j,i<n->j<n->gb i≠gc j
 ned:∀i,i<n->gb i≠d/\gc i≠d
 ext:fM S0 S
 fr:S0 d=ab/\S0 c=ab
 frr:∀i,i<n->S0 (gb i)=ab/\S0 (gc i)=ab
def LB.setT{gc:Nat->Nat}(h:LB S0 S d n b c gb gc len v R T)(l:i<n)(u:S (gc i)=some ⟨2,1,n,g⟩):LB S0 (S.upd (gc i) ⟨2,1,n,bR g j (.int .i64 z)⟩) d n b c gb gc len v R (eQ T i j z):=by
 have f:=h.t.row i l;refine⟨h.vec.upd (aj (h.ned i l).2) _,h.r.upd (bG.ne h.r.outer f dc) (fun a m=>h.ne a i m l) _,⟨h.t.outer.upd (bG.ne h.t.outer f dc) _,fun a m=>?_,h.t.le⟩,h.inj,h.ne,h.ned,h.ext.upd (h.frr i l).2 _,h.fr,h.frr⟩
 by_cases e:a=i
 .subst e;obtain⟨g',u',w⟩:=f;rw[u]at u';cases u';refine bG.here fun k p=>?_;simp only[bR,eQ];by_cases o:k=j
  .simp[o]
  .simp[o,w k p]
 .refine((h.t.row a m).upd (fun o=>e (h.inj a i m l o)) _).congr fun k _=>?_;simp[eQ,e]
def LB.setR{gc:Nat->Nat}(h:LB S0 S d n b c gb gc len v R T)(e:i<n)(u:S (gb i)=some ⟨2,1,n,g⟩):LB S0 (S.upd (gb i) ⟨2,1,n,bR g j (.int .i64 z)⟩) d n b c gb gc len v (eQ R i j z) T:=by
 have f:=h.r.row i e;exact⟨h.vec.upd (aj (h.ned i e).1) _,h.r.set e u,⟨h.t.outer.upd (bG.ne h.t.outer f dc) _,fun a k=>(h.t.row a k).upd (aj (h.ne i a e k)) _,h.t.le⟩,h.inj,h.ne,h.ned,h.ext.upd (h.frr i e).1 _,h.fr,h.frr⟩
def LB.setV{gc:Nat->Nat}(h:LB S0 S d n b c gb gc len v R T)(u:S d=some ⟨2,1,n,g⟩):LB S0 (S.upd d ⟨2,1,n,bR g i (.int .i64 z)⟩) d n b c gb gc len (fun k=>if k=i then z else v k) R T:=by
 have j:=h.vec;refine⟨?_,h.r.upd (bG.ne h.r.outer j dc) (fun a f=>(h.ned a f).1) _,⟨h.t.outer.upd (bG.ne h.t.outer j dc) _,fun a f=>(h.t.row a f).upd (h.ned a f).2 _,h.t.le⟩,h.inj,h.ne,h.ned,h.ext.upd h.fr.1 _,h.fr,h.frr⟩
 obtain⟨g',u',w⟩:=j;rw[u]at u';cases u';refine bG.here fun k l=>?_;simp only[bR];by_cases e:k=i
 .simp[e]
 .simp[e,w k l]
def LB.cut{gc:Nat->Nat}(h:LB S0 S d n b c gb gc len v R T)(m:i<n)(y:j<n)(u:S c=some ⟨29,1,n,g⟩):LB S0 (S.upd c ⟨29,1,n,bR g i (.sl 1 (gc i) 0 j)⟩) d n b c gb gc (fun k=>if k=i then j else len k) v R T:=by
 have l:=h.t.outer;refine⟨h.vec.upd (bG.ne h.vec l dc) _,h.r.upd ?_ (fun a f=>bG.ne (h.r.row a f) l dc) _,⟨?_,fun a f=>(h.t.row a f).upd (bG.ne (h.t.row a f) l dc) _,fun a f=>?_⟩,h.inj,h.ne,h.ned,h.ext.upd h.fr.2 _,h.fr,h.frr⟩
 .rintro rfl;obtain⟨z,p,q⟩:=h.r.outer;obtain⟨A,o,s⟩:=l;rw[p]at o;cases o;have:=(q i m).symm.trans (s i m);simp only[AV.sl.injEq]at this;exact h.ne i i m m this.2.1
 .obtain⟨g',u',w⟩:=l;rw[u]at u';cases u';refine bG.here fun k x=>?_;simp only[bR];by_cases e:k=i
  .subst e;simp
  .simp[e,w k x]
 .split
  .omega
  .exact h.t.le a f
def VfyJ(S0:St)(O:Tm)(S:St):Prop:=∃(d n p b c m:Nat) (gb gc len:Nat->Nat) (H:aH) (v:Nat->Int) (R T:aH) (βl βr βs βc:Bool),O 9=aC n n H/\O 10=.int .i64 p/\O 11=.sl 1 d 0 n/\O 13=.sl 1 b 0 n/\O 14=.sl 1 c 0 m /\
 LT S d n p b c m gb gc len H v R T βl βr βs βc/\fM S0 S
def LT.ext{gc:Nat->Nat}(h:LT S d n p b c m gb gc len H v R T βl βr βs βc)(a:fM S S'):LT S' d n p b c m gb gc len H v R T βl βr βs βc :=
 ⟨h.form,h.four,h.good,h.pr,a.has h.vec,h.r.ext a,h.rb,h.t.ext a,h.mn,h.tb,h.bl,h.br,h.bs,h.bc⟩
def LB.vfy{gc:Nat->Nat}(h:LB S0 S d n b c gb gc len v R T)(k:ge n H)(o:n<=4)(q:jb (det n H) p)(u:p∈cw)(w:m<=n)(x:∀i j,i<n->j<n->-262144<R i j/\R i j<262144)(y:∀i j,i<n->j<n->ta (T i j)){O:Tm}(z:O 9=aC n n H)(a:O 10=.int .i64 p)(e:O 11=.sl 1 d 0 n)(f:O 13=.sl 1 b 0 n)(g:O 14=.sl 1 c 0 m):VfyJ S0 O S:=by
 obtain⟨βl,A⟩:=jB (oF n p H v);obtain⟨βr,C⟩:=jB ((∀i j,i<n->j<n->R i j=R j i)/\vA R n);obtain⟨βs,D⟩:=jB (m=n/\∀i,i<m->len i=n);obtain⟨βc,E⟩:=jB (∃B,tN n p H (toN v) B/\RD n R T (qU n p H B));exact⟨d,n,p,b,c,m,gb,gc,len,H,v,R,T,βl,βr,βs,βc,z,a,e,f,g,⟨k,o,q,u,h.vec,h.r,x,h.t,w,y,A,C,D,E⟩,h.ext⟩
def Le(haw:∀S,lm S->cZ 12 [] S (fun r S'=>r=.bool true/\fM S S'))(S0:St)(hG:lm S0)(d k L:Nat)(nums:Nat->Int)(Lb:Nat)(base:Nat->AV)(q t fd pt:Nat)(nn:Int)(hd:d<256)(hk:k<256)(hq:q<256)(ht:t<65536)(hnums:∀i,i<L->-128<=nums i/\nums i<=127)(hfd:fd<256)(hpt:pt<256)(hnn:-128<=nn/\nn<=127) :
  cZ 4 [AF d k L nums Lb base q t,.int .u8 fd,.int .u8 pt,.int .i8 nn] S0 (fun r S'=>r=.bool true/\fM S0 S'):=by
 refine jI Vs ntmps4 results4 ?_;refine Ot (VfyJ S0) (fun r' Q' hQ' key=>?_) ?_
 .simp -dsimp only[go_sem,aa,AF,eG,a8,aR,cG,cP];refine aG.intro fun b4 f4=>?_;simp -dsimp only[go_sem,bS,bH];have hE0:fM S0 (S0.upd b4 ⟨27,1,6,fun j=>[AV.int .u8 d,.int .u8 k,.lst 1 L (fun i=>.int .i8 (nums i)),.lst 1 Lb base,.int .u8 q,.int .u16 t].getD j .any⟩):=(fM.refl S0).upd f4 _;refine(Nw _ 4 d k L nums Lb base q t om om hd hk hq ht hnums).mono ?_;rintro r S1 ⟨J,n,H,p,K,A,Y,hp17,hR⟩;have w:=hE0.trans J;rcases hR with rfl|⟨dv,v,rfl,hv,hdv,hL⟩
  .simp -dsimp only[go_sem,aa];refine(haw S1 (hG.ext w)).mono ?_;rintro _ S2 ⟨rfl,E⟩;simp only[go_sem];rw[hQ'];simp only[go_sem];exact w.trans E
  have h1:=K.one;have Q:=Y.six hp17;have hdv0:=hE0.none hdv;clear hE0 J f4 hdv;simp -dsimp only[go_sem,aa];refine(Gy S1 dv n p H v K Y Q hL A hv).mono ?_;rintro _ S2 ⟨b,c,gb,gc,B,R,rfl,hB,hRR,hr,Z,E,hb,I,M,hne⟩;have hqf:=hB.qf K Q hL;have hq4:∀i j,i<n->j<n->(qU n p H B i j).natAbs<=546085152:=fun i j e F=>hB.gent4 K Q A e F;have hRb:∀i j,i<n->j<n->-118098<=gT (qU n p H B) n R i j/\gT (qU n p H B) n R i j<=118098:=fun i j e F=>by have:=hRR.red.entry om e F;omega
  have hWb:∀i j,i<n->j<n->-1099511627776<=Me n R i j/\Me n R i j<=1099511627776:=fun i j e F=>by have:=hRR.wsmall hqf A hq4 e F;omega
  have hvb:∀i,i<n->(0:Int)<=((v i:Nat):Int)/\((v i:Nat):Int)<=16:=fun i e=>by have:=hL.lt i e;omega
  have g:LB S0 S2 dv n b c gb gc (fun _=>n) (fun k=>((v k:Nat):Int)) (gT (qU n p H B) n R) (Me n R):=⟨E.has hv,hr,⟨Z.outer,Z.row,fun _ _=>ae n⟩,Z.inj,hne,fun i e=>⟨aj (bG.fresh hv (M i e).1),aj (bG.fresh hv (M i e).2)⟩,w.trans E,⟨hdv0,w.none I⟩,fun i e=>⟨w.none (M i e).1,w.none (M i e).2⟩⟩;generalize gT (qU n p H B) n R=Rm at *;generalize Me n R=W at *;clear hr Z E hb I M hne hqf hq4 hRR hB w hv hdv0;simp -dsimp only[go_sem];refine OX (fun O T=>O 1=.int .u8 fd/\O 2=.int .u8 pt/\O 3=.int .i8 nn/\O 9=aC n n H/\O 10=.int .i64 p/\O 11=.sl 1 dv 0 n/\O 13=.sl 1 b 0 n/\O 14=.sl 1 c 0 n/\S2=T) ⟨by simp only[go_sem],by simp only[go_sem],by simp only[go_sem],by simp only[go_sem],by simp only[go_sem],by simp only[go_sem],by simp only[go_sem],by simp only[go_sem],rfl⟩ ?_
  rintro O _ ⟨U,e2,V,e9,N,h,o,u,rfl⟩;have hnz:¬((n:Int)=0):=om
  have w1:IntKind.i64.wrap (pt:Int)=(pt:Nat):=i64_in om om;have w2:eI (pt:Int) (n:Int)=((pt%n:Nat):Int):=by rw[jC]
  have w3:Int.tdiv (pt:Int) 8=((pt/8:Nat):Int):=(VM pt 8).symm;have w4:IntKind.u8.wrap ((pt/8:Nat):Int)=((pt/8:Nat):Int):=by rw[IntKind.wrap_u8];omega
  have w5:IntKind.i64.wrap ((pt/8:Nat):Int)=((pt/8:Nat):Int):=i64_in om om;have w6:eI ((pt/8:Nat):Int) (n:Int)=((pt/8%n:Nat):Int):=by rw[jC]
  have w7:IntKind.i64.wrap nn=nn:=i64_in om om;have w8:eI (fd:Int) 7=((fd%7:Nat):Int):=by rw[jC]<;>rfl
  have e:pt%n<n:=dh _ om;have F:pt/8%n<n:=dh _ om;obtain⟨f,hf,hf7⟩:∃f:Int,f=((fd%7:Nat):Int)/\(f=0∨f=1∨f=2∨f=3∨f=4∨f=5∨f=6):=⟨_,rfl,om⟩
  rw[<-hf]at w8;generalize pt%n=i at *;generalize pt/8%n=j at *;clear hf;obtain⟨g1,u1,v1⟩:=id g.t.outer;obtain⟨g2,u2,v2⟩:=id (g.t.row i e);have x1:g1 i=.sl 1 (gc i) 0 n:=v1 i e;have x2:g2 j=.int .i64 (W i j):=v2 j F;have G:∀a c,a<n->c<n->-262144<Rm a c/\Rm a c<262144:=fun a c X I=>by have:=hRb a c X I;omega
  have P:∀a c,a<n->c<n->ta (W a c):=fun a c X I=>by have:=hWb a c X I;unfold ta;omega
  refine RH (fun O T=>O 1=.int .u8 fd/\O 3=.int .i8 nn/\O 9=aC n n H/\O 10=.int .i64 p/\O 11=.sl 1 dv 0 n/\O 13=.sl 1 b 0 n/\O 14=.sl 1 c 0 n/\O 16=.int .i64 i/\O 17=.int .i64 j/\S2=T) (fun K' hK'=>?_) ?_
  .refine bD 13 kr ?_
   simp only[go_sem,e2,e9,hnz,w1,w2,w3,w4,w5,w6,aC,show ¬((8:Int)=0) by decide]
   refine hK' _ _ ⟨?_,?_,?_,?_,?_,?_,?_,?_,?_,rfl⟩<;>simp only[*,go_sem]
  clear U e2 V e9 N h o u w1 w2 w3 w4 w5 w6 hnz;clear O;rintro O _ ⟨U,V,e9,N,h,o,u,C,D,rfl⟩;rcases hf7 with rfl|rfl|rfl|rfl|rfl|rfl|rfl
  .have hw:=hWb i j e F;have w9:IntKind.i64.wrap (W i j+nn)=W i j+nn:=i64_in om om;have hT1:∀a c,a<n->c<n->ta (eQ W i j (W i j+nn) a c):=fun a c X I=>by
    have:=hWb a c X I;unfold ta eQ;split<;>omega
   simp only[go_sem,aa,U,V,h,o,u,C,D,w8,show ¬((7:Int)=0) by decide,iM,w7,w9,u1,x1,u2,x2,e,F]
   refine key _ _ ?_;refine(g.setT (z:=W i j+nn) (j:=j) e u2).vfy K A Y Q (ae n) G hT1 ?_ ?_ ?_ ?_ ?_<;>simp only[*,go_sem]
  .obtain⟨g3,u3,v3⟩:=id g.r.outer;obtain⟨g4,u4,v4⟩:=id (g.r.row i e);have x3:g3 i=.sl 1 (gb i) 0 n:=v3 i e;have x4:g4 j=.int .i64 (Rm i j):=v4 j F;have hw:=hRb i j e F;have w9:IntKind.i64.wrap (Rm i j+nn)=Rm i j+nn:=i64_in om om;have hR1:∀a c,a<n->c<n->-262144<eQ Rm i j (Rm i j+nn) a c/\eQ Rm i j (Rm i j+nn) a c<262144:=fun a c X I=>by
    have:=hRb a c X I;unfold eQ;split<;>omega
   simp only[go_sem,aa,U,V,h,o,u,C,D,w8,show ¬((7:Int)=0) by decide,iM,w7,w9,u3,x3,u4,x4,e,F]
   refine key _ _ ?_;refine(g.setR (z:=Rm i j+nn) (j:=j) e u4).vfy K A Y Q (ae n) hR1 P ?_ ?_ ?_ ?_ ?_<;>simp only[*,go_sem]
  .simp only[go_sem,aa,U,V,h,o,u,C,D,w8,show ¬((7:Int)=0) by decide,iM,fX,cV]
   refine KP om ?_;refine key _ _ ?_;refine g.vfy K A Y Q (dp e) G P ?_ ?_ ?_ ?_ ?_<;>simp only[*,go_sem]
  .simp only[go_sem,aa,U,V,h,o,u,C,D,w8,show ¬((7:Int)=0) by decide,iM,u1,x1,e,fX,cV]
   refine KO om ?_;simp only[go_sem];refine key _ _ ?_;refine(g.cut (j:=j) e F u1).vfy K A Y Q (ae n) G P ?_ ?_ ?_ ?_ ?_<;>simp only[*,go_sem]
  .obtain⟨g3,u3,v3⟩:=id g.vec;have x3:g3 i=.int .i64 ((v i:Nat):Int):=v3 i e;have hw:=hvb i e;have w9:IntKind.i64.wrap (((v i:Nat):Int)+nn)=((v i:Nat):Int)+nn:=i64_in om om;simp only[go_sem,aa,U,V,h,o,u,C,D,w8,show ¬((7:Int)=0) by decide,iM,w7,w9,u3,x3,e]
   refine key _ _ ?_;refine(g.setV (i:=i) (z:=((v i:Nat):Int)+nn) u3).vfy K A Y Q (ae n) G P ?_ ?_ ?_ ?_ ?_<;>simp only[*,go_sem]
  .simp only[go_sem,aa,U,V,h,o,u,C,D,w8,show ¬((7:Int)=0) by decide,iM,u1,x1,e]
   refine dA (fun O S=>∃(a:Nat) (T:aH),a<=n/\O 9=aC n n H/\O 10=.int .i64 p/\O 11=.sl 1 dv 0 n/\O 13=.sl 1 b 0 n/\O 14=.sl 1 c 0 n/\O 16=.int .i64 i/\O 108=.int .i64 n/\O 109=.int .i64 a/\LB S0 S dv n b c gb gc (fun _=>n) (fun k=>((v k:Nat):Int)) Rm T/\∀x y,x<n->y<n->-1099511627776<=T x y/\T x y<=1099511627776) (fun O S=>n-co (O 109)) ?_ ?_
   .simp only[*,go_sem];exact⟨0,om,rfl,W,g,hWb⟩
   clear g u1 v1 u2 v2 x1 x2 U V e9 N h o u C D;clear O;rintro Q2 hQ2 O S ⟨a,T,X,e9,N,h,o,u,C,e108,e109,hB1,hTb⟩;by_cases hat:a<n
   .obtain⟨g1,u1,v1⟩:=id hB1.t.outer;obtain⟨g2,u2,v2⟩:=id (hB1.t.row i e);have x1:g1 i=.sl 1 (gc i) 0 n:=v1 i e;have x2:g2 a=.int .i64 (T i a):=v2 a hat;have hw:=hTb i a e hat;have w9:IntKind.i64.wrap (0-T i a)=- T i a:=by rw[vT];exact i64_in om om
    simp -dsimp only[go_sem,e108,e109,hat];refine bD 14 kr ?_
    simp only[*,go_sem,aa,aS (om:a<1000000),co]
    refine⟨⟨a+1,om,rfl,_,hB1.setT (z:=- T i a) (j:=a) e u2,fun x y hx hy=>?_⟩,om⟩
    have:=hTb x y hx hy;unfold eQ;split<;>omega
   .simp only[go_sem,e108,e109,hat];rw[hQ2];simp only[go_sem];refine key _ _ ?_;refine hB1.vfy K A Y Q (ae n) G (fun a c X I=>by have:=hTb a c X I;unfold ta;omega) ?_ ?_ ?_ ?_ ?_<;>simp only[*,go_sem]
  .simp only[go_sem,aa,U,V,h,o,u,C,D,w8,show ¬((7:Int)=0) by decide,iM]
   refine key _ _ ?_;refine g.vfy K A Y Q (ae n) G P ?_ ?_ ?_ ?_ ?_<;>simp only[*,go_sem]
 .rintro O S ⟨d,n,p,b,c,m,gb,gc,len,H,v,R,T,βl,βr,βs,βc,e9,N,h,o,u,hI,hE⟩;simp -dsimp only[*,go_sem,aa];refine(Ei (hG.ext hE) hI).mono ?_;rintro _ S1 ⟨rfl,J⟩;simp -dsimp only[*,go_sem,aa];refine(Ej (hI.ext J)).mono ?_;rintro _ S2 ⟨rfl,E⟩;have hE02:=(hE.trans J).trans E;simp -dsimp only[go_sem,aa,dw];refine(haw S2 (hG.ext hE02)).mono ?_;rintro _ S3 ⟨rfl,hE3⟩;simp only[go_sem,dw];exact hE02.trans hE3

end Go.Proofs.YtdobfmlmenaajaaGreatDoor
