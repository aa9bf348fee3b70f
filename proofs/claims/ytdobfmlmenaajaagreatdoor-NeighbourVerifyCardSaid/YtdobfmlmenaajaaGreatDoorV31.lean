/-
  Lemmas for NeighbourVerify.
-/
import Derived.Test.YtdobfmlmenaajaaGreatDoorV30
import Derived.Test.YtdobfmlmenaajaaGreatDoorV29
namespace Go.Proofs.YtdobfmlmenaajaaGreatDoor
open Go.RowKit Tryz
open _root_.Int renaming tdiv→iX
open _root_.List renaming range→et
open _root_.Option renaming none→ab
set_option maxHeartbeats 6400000
set_option maxRecDepth 4096
set_option linter.all false
attribute [local go_sem] Nat.reduceAdd Nat.reduceEqDiff Nat.reduceLeDiff Nat.reduceLT reduceCtorEq Int.ofNat_lt decide_true decide_false Int.zero_le_ofNat
attribute [local go_sem ↓] reduceIte
variable{Q:AX->Tm->St->Prop}{ops:Array Oper}{c:Code}{D:Int}{pend:List (Nat×ft)}{l:List Oper}{R b i k n p:Nat}{g0:Nat->AV}{q v x:Nat->Int}{P:Nat->Prop}{S:St}{O:Tm}{K:Tm->List (Nat×ft)->Prop}{A B H M:aH}
def qO(m:Nat)(A:aH)(β:Bool)(b:1<=m)(p:m<=8)(f:∀i,i<m->-21474836480<=A i 0/\A i 0<=21474836480)(hβ:β=true↔wc A m):PF 108 [aC m m A] (.bool β):=by
 refine jo func108 ntmps108 results108 ?_;have g:0<m:=om
 have j:(0:Int)<(m:Int):=om
 by_cases q:A 0 0<=0
 .simp only[*,go_sem,aW,aC,fX,cV];rw[dD hβ fun h=>by have:=h.1;omega]
  exact VR.mf rfl
 by_cases r:(65536:Int)<=A 0 0
 .simp only[*,go_sem,aW,aC,fX,cV];rw[dD hβ fun h=>by have:=h.2.1;omega]
  exact VR.mf rfl
 simp only[*,go_sem,aW,aC,fX,cV];refine Hb 1 rfl rfl rfl om ?_;simp only[go_sem];refine aI (fun O S=>∃i:Nat,i<=m-1/\(∀a,1<=a->a<1+i->2*A a 0<=A 0 0/\-2*A a 0<=A 0 0)/\O 3=.int .i64 (A 0 0)/\O 18=.lst 1 (m-1) (fun i=>aW m (A (1+i)))/\O 19=.int .i64 ((m-1:Nat):Int)/\O 20=.int .i64 i) (fun O S=>m-co (O 20)) ?_ ?_
 .simp only[go_sem,aW];exact⟨0,om,fun a b d=>om,rfl⟩
 .rintro O S ⟨i,s,c,t,k,l,n⟩;by_cases o:i<m-1
  .obtain⟨u,v⟩:=f (1+i) om;have w:IntKind.i64.wrap (2*A (1+i) 0)=2*A (1+i) 0:=i64_in om om;have x:IntKind.i64.wrap (-2*A (1+i) 0)=-2*A (1+i) 0:=i64_in om om;by_cases y:A 0 0<2*A (1+i) 0
   .simp only[*,go_sem,aa,aW];rw[dD hβ fun h=>by have:=h.2.2 (1+i) om om;omega]
    exact VR.mf rfl
   by_cases z:A 0 0 < -2*A (1+i) 0
   .simp only[*,go_sem,aa,aW];rw[dD hβ fun h=>by have:=h.2.2 (1+i) om om;omega]
    exact VR.mf rfl
   simp only[*,go_sem,aa,aW,aS (om:i<1000000),co]
   refine⟨⟨i+1,om,fun a b d=>?_,rfl⟩,om⟩
   by_cases e:a=1+i
   .rw[e];omega
   .exact c a b om
  .simp only[*,go_sem,aa,aW];rw[hβ.2 ⟨om,om,fun a b d=>c a b om⟩]
   exact VR.mf rfl
def FD(n:Nat)(A:aH)(β:Bool)(o:1<=n)(D:n<=8)(y:∀i j,i<n->j<n->-262144<A i j/\A i j<262144)(hβ:β=true↔∀i j,i<n->j<n->A i j=A j i):PF 107 [aC n n A] (.bool β):=by
 refine jo func107 ntmps107 results107 ?_;simp only[go_sem,aW,aC,(om:¬((n:Int)<1)),(om:¬((8:Int)<(n:Int)))]
 refine aI (fun O S=>∃i:Nat,i<=n/\O 0=aC n n A/\O 3=.int .i64 n/\O 18=aC n n A/\O 19=.int .i64 n/\O 20=.int .i64 i) (fun O S=>n-co (O 20)) ?_ ?_
 .simp only[go_sem,aW,aC];exact⟨0,om,rfl⟩
 .rintro O S ⟨i,z,m,B,s,t,u⟩;by_cases c:i<n
  .simp only[*,go_sem,aW,aC,show((n:Int) != n)=false by simp,aS (om:i<1000000),co]
   exact⟨⟨i+1,om,rfl⟩,om⟩
  .simp only[*,go_sem,aW,aC];clear B s t u;refine aI (fun O S=>∃i:Nat,i<=n/\(∀a b,a<i->b<n->A a b=A b a)/\O 0=aC n n A/\O 29=aC n n A/\O 30=.int .i64 n/\O 31=.int .i64 i) (fun O S=>n-co (O 31)) ?_ ?_
   .simp only[go_sem,aW,aC,m];exact⟨0,om,fun a b o q=>om,rfl⟩
   .clear m;rintro O S ⟨i,z,p,m,f,g,k⟩;by_cases c:i<n
    .simp only[*,go_sem,aW,aC];refine aI (fun O S=>∃j:Nat,j<=n/\(∀b,b<j->A i b=A b i)/\O 0=aC n n A/\O 6=.int .i64 i/\O 29=aC n n A/\O 30=.int .i64 n/\O 31=.int .i64 i/\O 36=aW n (A i)/\O 37=.int .i64 n/\O 38=.int .i64 j) (fun O S=>n-co (O 38)) ?_ ?_
     .simp only[*,go_sem,aW,aC];exact⟨0,om,fun b o=>om,rfl⟩
     .clear m f g k;rintro O S ⟨j,E,d,m,C,f,g,k,v,w,x⟩;by_cases l:j<n
      .have F:=y i j c l;by_cases r:A i j=A j i
       .simp only[go_sem,aW,aC,m,C,f,g,k,v,w,x,c,l,show(A i j != A j i)=false by rw[r];simp,(om:¬(A i j<=-262144)),(om:¬((262144:Int)<=A i j)),aS (om:j<1000000),co]
        refine⟨⟨j+1,om,fun b o=>?_,rfl⟩,om⟩
        by_cases e:b=j
        .rw[e];exact r
        .exact d b om
       .simp only[*,go_sem,aW,aC,show(A i j != A j i)=true by simpa using r]
        rw[dD hβ fun h=>r (h i j c l)];exact VR.mf rfl
      .simp only[*,go_sem,aW,aC,aS (om:i<1000000),co]
       refine⟨⟨i+1,om,fun a b o q=>?_,rfl⟩,om⟩
       by_cases e:a=i
       .rw[e];exact d b om
       .exact p a b om q
    .simp only[*,go_sem,aW,aC];rw[hβ.2 fun a b o q=>p a b om q];exact VR.mf rfl

def nA(n:Nat)(H:aH)(β:Bool)(hn1:1<=n)(f:n<=5)(hA:∀i j,i<n->j<n->-262144<H i j/\H i j<262144)(hβ:β=true↔(∀i j,i<n->j<n->H i j=H j i)/\vA H n):PF 48 [aC n n H] (.bool β):=by
 obtain⟨βs,hβs⟩:=jB (∀i j,i<n->j<n->H i j=H j i);refine jo func48 ntmps48 results48 ?_;simp -dsimp only[go_sem,aa,aC,aW];refine(FD n H βs hn1 om hA hβs).call ?_
 cases βs with
 | false =>
  simp only[go_sem];rw[dD hβ fun h=>by have:=hβs.2 h.1;cases this]
  exact VR.mf rfl
 | true =>
 have C:=hβs.1 rfl;have L:¬vA H n->β=false:=fun h=>dD hβ fun hh=>h hh.2;simp only[go_sem];refine aI (fun O S=>∃(k:Nat) (x:AV),k<n/\yp H n k/\Rp H n k/\Ua n H k S x/\O 3=x/\O 4=.int .i64 (det k H)) (fun O S=>match O 3 with|.lst _ m _=>m|.sl _ _ _ m=>m|_=>0) ?_ ?_
 .simp only[go_sem];exact⟨0,om,yp.init,Rp.init hA,_,bW (Lh n H),rfl,by simp[det]⟩
 .rintro O S ⟨k,x,hk,w,p,Z,z,K⟩;have d0:=w.pos k om;have d2:=w.lt k om;have b0:=p.num (i:=0) (j:=0) ⟨d0,d2⟩ f om om;rw[dd]at b0;obtain⟨βk,hβk⟩:=jB (wc (cX H k) (n-k));have D:cX H k 0 0=det (k+1) H:=dd H k;have d:0<n-k:=om
  have u:(0:Int)<((n-k:Nat):Int):=om
  by_cases M:1<n-k
  .have l:(1:Int)<((n-k:Nat):Int):=om
   have wsub:IntKind.i64.wrap (((n-k:Nat):Int)-1)=((n-(k+1):Nat):Int):=eF om om;rcases Z with rfl|⟨b,g,rfl,v⟩
   .simp -dsimp only[*,go_sem,aa,aC,aW];refine(qO (n-k) (cX H k) βk d om (fun i hi=>p.num ⟨d0,d2⟩ f om om) hβk).spec (fH.cons (VA.refl _ _) fH.nil) ?_
    cases βk with
    | false =>
     simp only[*,go_sem,aC,aW];rw[L fun h=>by have:=hβk.2 (h.short C f hk);cases this]
     exact VR.mf rfl
    | true =>
    have E:=hβk.1 rfl;obtain⟨d1,d3,F⟩:=id E;rw[dd]at d1 d3 F;have q:=p.step w C E;simp -dsimp only[*,go_sem,aC,aW]
    repeat refine an ?_
    refine aG.intro fun bc fc=>?_;simp only[go_sem];refine aI (fun O S'=>∃i:Nat,i<=n-(k+1)/\O 3=aC (n-k) (n-k) (cX H k)/\O 4=.int .i64 (det k H)/\O 5=.int .i64 (det (k+1) H)/\O 6=.sl 1 bc 0 (n-(k+1))/\O 31=.int .i64 ((n-(k+1):Nat):Int)/\O 32=.int .i64 i/\∃g',fL 29 2 1 S S' bc g' (n-(k+1)) (n-(k+1)) i (fun a j=>.int .i64 (cX H (k+1) a j))) (fun O S=>n-co (O 32)) ?_ ?_
    .simp only[*,go_sem,aC,aW];exact⟨0,om,rfl,fun _=>0,fL.init fc (fun _ _=>rfl) _ _⟩
    .clear z K;rintro O S' ⟨i,hi,z,K,P,Q,r,t,g',o⟩;by_cases y:i<n-(k+1)
     .have hi1:i+1<n-k:=om
      obtain⟨g4,G,R⟩:=id o.outer;simp -dsimp only[*,go_sem,aa,aC,aW,aS (om:i<1000000)]
      repeat refine an ?_
      refine aG.intro fun bd fd=>?_;have hdc:bc≠bd:=bG.fresh o.outer fd;simp only[*,go_sem];have I:=o.push dc fd G (fun _=>.int .i64 0)
      generalize hgg:(fun a=>if a=i then bd else g' a)=gg at I
      refine aI (fun O S'=>∃j:Nat,j<=n-(k+1)/\O 3=aC (n-k) (n-k) (cX H k)/\O 4=.int .i64 (det k H)/\O 5=.int .i64 (det (k+1) H)/\O 6=.sl 1 bc 0 (n-(k+1))/\O 7=.int .i64 i/\O 8=aW (n-k) (cX H k (i+1))/\O 31=.int .i64 ((n-(k+1):Nat):Int)/\O 32=.int .i64 i/\O 47=.int .i64 ((n-(k+1):Nat):Int)/\O 48=.int .i64 j/\fL 29 2 1 S S' bc gg (n-(k+1)) (n-(k+1)) (i+1) (fun a c=>.int .i64 (if a=i/\j<=c then 0 else cX H (k+1) a c))) (fun O S=>n-co (O 48)) ?_ ?_
      .simp only[*,go_sem,aC,aW];refine⟨0,om,rfl,I.congr fun a c _ _=>?_⟩
       by_cases e:a=i
       .simp[e]
       .simp[e]
      .clear z K P Q r t o I G R hgg;rintro O S' ⟨j,hj,z,K,P,Q,e7,e8,r,t,e47,e48,o⟩;by_cases hjt:j<n-(k+1)
       .have T:j+1<n-k:=om
        obtain⟨g4,G,R⟩:=id o.outer;obtain⟨g5,U,v5⟩:=id (o.row i om);have x4:g4 i=.sl 1 (gg i) 0 (n-(k+1)):=(R i y).trans (ah om);have b1:=p.num (i:=i+1) (j:=j+1) ⟨d0,d2⟩ f om om;have b2:=p.num (i:=i+1) (j:=0) ⟨d0,d2⟩ f om om;have b3:=p.num (i:=0) (j:=j+1) ⟨d0,d2⟩ f om om;have hs2:2*((cX H k (i+1) 0).natAbs:Int)<=det (k+1) H:=by
         have h3:=F (i+1) om om;omega
        have hstep:=jh w.ne i j;rw[dd]at hstep;have p1:=lq (A:=65536) (B:=21474836480) (om:-65536<=det (k+1) H/\det (k+1) H<=65536) b1
        have p2:=lq (A:=65536) (B:=21474836480) (om:-65536<=cX H k (i+1) 0/\cX H k (i+1) 0<=65536) b3
        have q1:IntKind.i64.wrap (det (k+1) H*cX H k (i+1) (j+1))=det (k+1) H*cX H k (i+1) (j+1):=i64_in om om;have q2:IntKind.i64.wrap (cX H k (i+1) 0*cX H k 0 (j+1))=cX H k (i+1) 0*cX H k 0 (j+1):=i64_in om om;have q3:IntKind.i64.wrap (det (k+1) H*cX H k (i+1) (j+1)-cX H k (i+1) 0*cX H k 0 (j+1))=det k H*cX H (k+1) i j:=by rw[<-hstep];exact i64_in om om
        have b4:=q.num (i:=i) (j:=j) ⟨d1,d3⟩ f om om;have q4:iX (det k H*cX H (k+1) i j) (det k H)=cX H (k+1) i j:=O9 _ om;have q5:IntKind.i64.wrap (cX H (k+1) i j)=cX H (k+1) i j:=i64_in om om;have q6:¬(det k H=0):=om
        have hjn:j+1<n:=om
        have hin:i+1<n:=om
        have hpn:0<n:=om
        have hpnz:(0:Int)<(n:Int):=om
        simp -dsimp only[*,go_sem,aC,aW,aS (om:i<1000000)]
        refine bD 27 kr ?_
        simp only[go_sem,aa,aC,aW,z,K,P,Q,e7,e8,r,t,e47,e48,y,hjt,T,u,aS (om:j<1000000),G,x4,U,q1,q2,q3,q4,q5,q6,co]
        refine⟨⟨j+1,om,rfl,(o.put dc (om:i<i+1) U j (.int .i64 (cX H (k+1) i j))).congr fun a c _ _=>?_⟩,om⟩
        by_cases e:a=i/\c=j
        .obtain⟨rfl,rfl⟩:=e;rw[ah ⟨rfl,rfl⟩,af om]
        .rw[af e];congr 1;by_cases e2:a=i/\j<=c
         .rw[ah e2,ah om]
         .rw[af e2,af om]
       .simp only[*,go_sem,aC,aW,aS (om:i<1000000),co]
        exact⟨⟨i+1,om,rfl,gg,o.congr fun a c _ hc=>by rw[af om]⟩,om⟩
     .obtain rfl:i=n-(k+1):=om
      have hN:=o.imat (A:=cX H (k+1)) (fun _ _ _ _=>rfl);obtain⟨g4,G,R⟩:=id hN.1.outer;obtain⟨g5,U,v5⟩:=id (hN.1.row 0 om);have x4:g4 0=.sl 1 (g' 0) 0 (n-(k+1)):=R 0 om;have x5:g5 0=.int .i64 (det (k+2) H):=(v5 0 om).trans (by simp only[dd])
      have V:0<n-(k+1):=om
      have W:(0:Int)<((n-(k+1):Nat):Int):=om
      have X:iH H (k+1)↔3*(det (k+1) H*det (k+1) H)<=4*(det k H*det (k+2) H+cX H k 1 0*cX H k 1 0):=by
       unfold iH kZ;rw[(om:k+1-1=k),(om:k+1-k=1),show k+1+1=k+2 from rfl]
      have hs2:2*((cX H k 1 0).natAbs:Int)<=det (k+1) H:=by
       have h3:=F 1 om om;omega
      have d4:=q.num (i:=0) (j:=0) ⟨d1,d3⟩ f om om;rw[dd,show k+1+1=k+2 from rfl]at d4;have p1:=lq (A:=65536) (B:=21474836480) (om:-65536<=det k H/\det k H<=65536) d4
      have p2:=lq (A:=65536) (B:=65536) (om:-65536<=cX H k 1 0/\cX H k 1 0<=65536) (om:-65536<=cX H k 1 0/\cX H k 1 0<=65536)
      have p3:=lq (A:=65536) (B:=65536) (om:-65536<=det (k+1) H/\det (k+1) H<=65536) (om:-65536<=det (k+1) H/\det (k+1) H<=65536)
      have q1:IntKind.i64.wrap (det k H*det (k+2) H)=det k H*det (k+2) H:=i64_in om om;have q2:IntKind.i64.wrap (cX H k 1 0*cX H k 1 0)=cX H k 1 0*cX H k 1 0:=i64_in om om;have q3:IntKind.i64.wrap (det k H*det (k+2) H+cX H k 1 0*cX H k 1 0)=det k H*det (k+2) H+cX H k 1 0*cX H k 1 0:=i64_in om om;have q4:IntKind.i64.wrap (4*(det k H*det (k+2) H+cX H k 1 0*cX H k 1 0))=4*(det k H*det (k+2) H+cX H k 1 0*cX H k 1 0):=i64_in om om;have q5:IntKind.i64.wrap (3*det (k+1) H)=3*det (k+1) H:=i64_in om om;have q6:IntKind.i64.wrap (3*det (k+1) H*det (k+1) H)=3*(det (k+1) H*det (k+1) H):=by rw[fK];exact i64_in om om
      have hk1n:k+1<n:=om
      have hpn:0<n:=om
      have hpnz:(0:Int)<(n:Int):=om
      have hln:1<n:=om
      have hlnz:(1:Int)<(n:Int):=om
      by_cases q7:4*(det k H*det (k+2) H+cX H k 1 0*cX H k 1 0)<3*(det (k+1) H*det (k+1) H)
      .simp only[go_sem,aa,aC,aW,z,K,P,Q,r,t,y,u,l,V,W,G,x4,U,x5,q1,q2,q3,q4,q5,q6,q7,show Int.toNat 1=1 from rfl];rw[L fun h=>by have:=X.1 (h.rows.2 (k+1) om hk1n);omega]
       exact VR.mf rfl
      .simp only[go_sem,aa,aC,aW,z,K,P,Q,r,t,y,u,l,V,W,G,x4,U,x5,q1,q2,q3,q4,q5,q6,q7,show Int.toNat 1=1 from rfl];have hU1:=w.step E (X.2 om);refine⟨⟨k+1,om,hU1,q,.sl 1 bc 0 (n-(k+1)),bQ ⟨bc,g',rfl,hN.1⟩,rfl,rfl⟩,om⟩
   .obtain⟨Y,N,J⟩:=id v.outer;obtain⟨g2,u2,v2⟩:=id (v.row 0 d);obtain⟨g3,u3,v3⟩:=id (v.row 1 M);have x1:Y 0=.sl 1 (g 0) 0 (n-k):=J 0 d;have x2:g2 0=.int .i64 (cX H k 0 0):=v2 0 d;have y1:Y 1=.sl 1 (g 1) 0 (n-k):=J 1 M;have y2:g3 0=.int .i64 (cX H k 1 0):=v3 0 d;simp -dsimp only[*,go_sem,aa];refine(qO (n-k) (cX H k) βk d om (fun i hi=>p.num ⟨d0,d2⟩ f om om) hβk).spec (fH.cons v.vr.va fH.nil) ?_
    cases βk with
    | false =>
     simp only[*,go_sem];rw[L fun h=>by have:=hβk.2 (h.short C f hk);cases this]
     exact VR.mf rfl
    | true =>
    have E:=hβk.1 rfl;obtain⟨d1,d3,F⟩:=id E;rw[dd]at d1 d3 F;have q:=p.step w C E;simp -dsimp only[*,go_sem]
    repeat refine an ?_
    refine aG.intro fun bc fc=>?_;simp only[go_sem];refine aI (fun O S'=>∃i:Nat,i<=n-(k+1)/\O 3=.sl 1 b 0 (n-k)/\O 4=.int .i64 (det k H)/\O 5=.int .i64 (det (k+1) H)/\O 6=.sl 1 bc 0 (n-(k+1))/\O 31=.int .i64 ((n-(k+1):Nat):Int)/\O 32=.int .i64 i/\∃g',fL 29 2 1 S S' bc g' (n-(k+1)) (n-(k+1)) i (fun a j=>.int .i64 (cX H (k+1) a j))) (fun O S=>n-co (O 32)) ?_ ?_
    .simp only[*,go_sem];exact⟨0,om,rfl,fun _=>0,fL.init fc (fun _ _=>rfl) _ _⟩
    .clear z K;rintro O S' ⟨i,hi,z,K,P,Q,r,t,g',o⟩;by_cases y:i<n-(k+1)
     .have hi1:i+1<n-k:=om
      obtain⟨Y,N,J⟩:=id (o.ext.has v.outer);have x1:Y (i+1)=.sl 1 (g (i+1)) 0 (n-k):=J (i+1) hi1;have hbc:b≠bc:=bG.fresh v.outer fc;obtain⟨g4,G,R⟩:=id o.outer;simp -dsimp only[*,go_sem,aa,aS (om:i<1000000)]
      repeat refine an ?_
      refine aG.intro fun bd fd=>?_;have hdc:bc≠bd:=bG.fresh o.outer fd;simp only[*,go_sem];have I:=o.push dc fd G (fun _=>.int .i64 0)
      generalize hgg:(fun a=>if a=i then bd else g' a)=gg at I
      refine aI (fun O S'=>∃j:Nat,j<=n-(k+1)/\O 3=.sl 1 b 0 (n-k)/\O 4=.int .i64 (det k H)/\O 5=.int .i64 (det (k+1) H)/\O 6=.sl 1 bc 0 (n-(k+1))/\O 7=.int .i64 i/\O 8=.sl 1 (g (i+1)) 0 (n-k)/\O 31=.int .i64 ((n-(k+1):Nat):Int)/\O 32=.int .i64 i/\O 47=.int .i64 ((n-(k+1):Nat):Int)/\O 48=.int .i64 j/\fL 29 2 1 S S' bc gg (n-(k+1)) (n-(k+1)) (i+1) (fun a c=>.int .i64 (if a=i/\j<=c then 0 else cX H (k+1) a c))) (fun O S=>n-co (O 48)) ?_ ?_
      .simp only[*,go_sem];refine⟨0,om,rfl,I.congr fun a c _ _=>?_⟩
       by_cases e:a=i
       .simp[e]
       .simp[e]
      .clear z K P Q r t o I G R hgg N J x1;rintro O S' ⟨j,hj,z,K,P,Q,e7,e8,r,t,e47,e48,o⟩;by_cases hjt:j<n-(k+1)
       .have T:j+1<n-k:=om
        obtain⟨g4,G,R⟩:=id o.outer;obtain⟨g5,U,v5⟩:=id (o.row i om);have x4:g4 i=.sl 1 (gg i) 0 (n-(k+1)):=(R i y).trans (ah om);have b1:=p.num (i:=i+1) (j:=j+1) ⟨d0,d2⟩ f om om;have b2:=p.num (i:=i+1) (j:=0) ⟨d0,d2⟩ f om om;have b3:=p.num (i:=0) (j:=j+1) ⟨d0,d2⟩ f om om;have hs2:2*((cX H k (i+1) 0).natAbs:Int)<=det (k+1) H:=by
         have h3:=F (i+1) om om;omega
        have hstep:=jh w.ne i j;rw[dd]at hstep;have p1:=lq (A:=65536) (B:=21474836480) (om:-65536<=det (k+1) H/\det (k+1) H<=65536) b1
        have p2:=lq (A:=65536) (B:=21474836480) (om:-65536<=cX H k (i+1) 0/\cX H k (i+1) 0<=65536) b3
        have q1:IntKind.i64.wrap (det (k+1) H*cX H k (i+1) (j+1))=det (k+1) H*cX H k (i+1) (j+1):=i64_in om om;have q2:IntKind.i64.wrap (cX H k (i+1) 0*cX H k 0 (j+1))=cX H k (i+1) 0*cX H k 0 (j+1):=i64_in om om;have q3:IntKind.i64.wrap (det (k+1) H*cX H k (i+1) (j+1)-cX H k (i+1) 0*cX H k 0 (j+1))=det k H*cX H (k+1) i j:=by rw[<-hstep];exact i64_in om om
        have b4:=q.num (i:=i) (j:=j) ⟨d1,d3⟩ f om om;have q4:iX (det k H*cX H (k+1) i j) (det k H)=cX H (k+1) i j:=O9 _ om;have q5:IntKind.i64.wrap (cX H (k+1) i j)=cX H (k+1) i j:=i64_in om om;have q6:¬(det k H=0):=om
        obtain⟨Y,N,J⟩:=id (o.ext.has v.outer);obtain⟨g2,u2,v2⟩:=id (o.ext.has (v.row 0 d));obtain⟨g3,u3,v3⟩:=id (o.ext.has (v.row (i+1) hi1));have x1:Y 0=.sl 1 (g 0) 0 (n-k):=J 0 d;have x2:g2 (j+1)=.int .i64 (cX H k 0 (j+1)):=v2 (j+1) T;have x3:g3 (j+1)=.int .i64 (cX H k (i+1) (j+1)):=v3 (j+1) T;have x5:g3 0=.int .i64 (cX H k (i+1) 0):=v3 0 d;simp -dsimp only[*,go_sem,aS (om:i<1000000)]
        refine bD 27 kr ?_
        simp only[go_sem,aa,z,K,P,Q,e7,e8,r,t,e47,e48,y,hjt,T,d,u,N,u2,u3,x1,x2,x3,x5,aS (om:j<1000000),G,x4,U,q1,q2,q3,q4,q5,q6,co]
        refine⟨⟨j+1,om,rfl,(o.put dc (om:i<i+1) U j (.int .i64 (cX H (k+1) i j))).congr fun a c _ _=>?_⟩,om⟩
        by_cases e:a=i/\c=j
        .obtain⟨rfl,rfl⟩:=e;rw[ah ⟨rfl,rfl⟩,af om]
        .rw[af e];congr 1;by_cases e2:a=i/\j<=c
         .rw[ah e2,ah om]
         .rw[af e2,af om]
       .simp only[*,go_sem,aS (om:i<1000000),co]
        exact⟨⟨i+1,om,rfl,gg,o.congr fun a c _ hc=>by rw[af om]⟩,om⟩
     .obtain rfl:i=n-(k+1):=om
      have hN:=o.imat (A:=cX H (k+1)) (fun _ _ _ _=>rfl);obtain⟨g4,G,R⟩:=id hN.1.outer;obtain⟨g5,U,v5⟩:=id (hN.1.row 0 om);have x4:g4 0=.sl 1 (g' 0) 0 (n-(k+1)):=R 0 om;have x5:g5 0=.int .i64 (det (k+2) H):=(v5 0 om).trans (by simp only[dd])
      have V:0<n-(k+1):=om
      have W:(0:Int)<((n-(k+1):Nat):Int):=om
      have X:iH H (k+1)↔3*(det (k+1) H*det (k+1) H)<=4*(det k H*det (k+2) H+cX H k 1 0*cX H k 1 0):=by
       unfold iH kZ;rw[(om:k+1-1=k),(om:k+1-k=1),show k+1+1=k+2 from rfl]
      have hs2:2*((cX H k 1 0).natAbs:Int)<=det (k+1) H:=by
       have h3:=F 1 om om;omega
      have d4:=q.num (i:=0) (j:=0) ⟨d1,d3⟩ f om om;rw[dd,show k+1+1=k+2 from rfl]at d4;have p1:=lq (A:=65536) (B:=21474836480) (om:-65536<=det k H/\det k H<=65536) d4
      have p2:=lq (A:=65536) (B:=65536) (om:-65536<=cX H k 1 0/\cX H k 1 0<=65536) (om:-65536<=cX H k 1 0/\cX H k 1 0<=65536)
      have p3:=lq (A:=65536) (B:=65536) (om:-65536<=det (k+1) H/\det (k+1) H<=65536) (om:-65536<=det (k+1) H/\det (k+1) H<=65536)
      have q1:IntKind.i64.wrap (det k H*det (k+2) H)=det k H*det (k+2) H:=i64_in om om;have q2:IntKind.i64.wrap (cX H k 1 0*cX H k 1 0)=cX H k 1 0*cX H k 1 0:=i64_in om om;have q3:IntKind.i64.wrap (det k H*det (k+2) H+cX H k 1 0*cX H k 1 0)=det k H*det (k+2) H+cX H k 1 0*cX H k 1 0:=i64_in om om;have q4:IntKind.i64.wrap (4*(det k H*det (k+2) H+cX H k 1 0*cX H k 1 0))=4*(det k H*det (k+2) H+cX H k 1 0*cX H k 1 0):=i64_in om om;have q5:IntKind.i64.wrap (3*det (k+1) H)=3*det (k+1) H:=i64_in om om;have q6:IntKind.i64.wrap (3*det (k+1) H*det (k+1) H)=3*(det (k+1) H*det (k+1) H):=by rw[fK];exact i64_in om om
      have hk1n:k+1<n:=om
      obtain⟨Y,N,J⟩:=id (o.ext.has v.outer);obtain⟨g3,u3,v3⟩:=id (o.ext.has (v.row 1 M));have y1:Y 1=.sl 1 (g 1) 0 (n-k):=J 1 M;have y2:g3 0=.int .i64 (cX H k 1 0):=v3 0 d;by_cases q7:4*(det k H*det (k+2) H+cX H k 1 0*cX H k 1 0)<3*(det (k+1) H*det (k+1) H)
      .simp only[go_sem,aa,z,K,P,Q,r,t,y,d,u,M,l,V,W,N,u3,y1,y2,G,x4,U,x5,q1,q2,q3,q4,q5,q6,q7,show Int.toNat 1=1 from rfl];rw[L fun h=>by have:=X.1 (h.rows.2 (k+1) om hk1n);omega]
       exact VR.mf rfl
      .simp only[go_sem,aa,z,K,P,Q,r,t,y,d,u,M,l,V,W,N,u3,y1,y2,G,x4,U,x5,q1,q2,q3,q4,q5,q6,q7,show Int.toNat 1=1 from rfl];have hU1:=w.step E (X.2 om);refine⟨⟨k+1,om,hU1,q,.sl 1 bc 0 (n-(k+1)),bQ ⟨bc,g',rfl,hN.1⟩,rfl,rfl⟩,om⟩
  .have l:¬((1:Int)<((n-k:Nat):Int)):=om
   have hkn:k+1=n:=om
   have b1:=b0;rw[hkn]at b1 D;by_cases z1:0<det n H
   .by_cases z2:det n H<=10000
    .have hβt:β=true:=hβ.2 ⟨C,w.redB hkn z1 z2⟩;rw[hβt];rcases Z with rfl|⟨b,g,rfl,v⟩
     .simp only[go_sem,aa,aC,aW,z,l,u,D,z1,z2];exact VR.mf rfl
     .obtain⟨Y,N,J⟩:=v.outer;obtain⟨g2,u2,v2⟩:=v.row 0 om;have w1:=J 0 d;have w2:=v2 0 d;simp only[go_sem,aa,z,l,d,u,N,u2,w1,w2,D,z1,z2];exact VR.mf rfl
    .rw[L fun h=>z2 h.dt];rcases Z with rfl|⟨b,g,rfl,v⟩
     .simp only[go_sem,aa,aC,aW,z,l,u,D,z1,z2];exact VR.mf rfl
     .obtain⟨Y,N,J⟩:=v.outer;obtain⟨g2,u2,v2⟩:=v.row 0 om;have w1:=J 0 d;have w2:=v2 0 d;simp only[go_sem,aa,z,l,d,u,N,u2,w1,w2,D,z1,z2];exact VR.mf rfl
   .rw[L fun h=>z1 (h.pos n (ae n))];rcases Z with rfl|⟨b,g,rfl,v⟩
    .simp only[*,go_sem,aa,aC,aW];exact VR.mf rfl
    .obtain⟨Y,N,J⟩:=v.outer;obtain⟨g2,u2,v2⟩:=v.row 0 om;have w1:=J 0 d;have w2:=v2 0 d;simp only[*,go_sem,aa];exact VR.mf rfl

def K5:List AV:=[.int .i64 7,.int .i64 11,.int .i64 13,.int .i64 17,.int .i64 19,.int .i64 23,.int .i64 29,.int .i64 31]
def lm(S:St):Prop:=∃ty,bG S 0 ty 1 8 (fun j=>K5.getD j .any)
def lm.ext{S':St}(h:lm S)(a:fM S S'):lm S':=by
 obtain⟨ty,h⟩:=h;exact⟨ty,a.has h⟩
def UH:List Int:=[2,3,5]
def dvA:List AV:=[.int .i64 2,.int .i64 3,.int .i64 5]
def N5(a:i<3):dvA.getD i .any=.int .i64 (UH.getD i 0)/\UH.getD i 0≠0:=by
 rcases (om:i=0∨i=1∨i=2)with rfl|rfl|rfl<;>exact⟨rfl,by decide⟩
def NO(a:i<3)(K:AV->Prop):Ec 238 (.agg [.int .i64 2,.int .i64 3,.int .i64 5]) (.int .i64 i) K=K (.int .i64 (UH.getD i 0)):=by
 rw[<-(N5 a).1];unfold Ec;apply propext;constructor
 .rintro (⟨h,_⟩|⟨_,_,_,h⟩)
  .exact absurd h dc
  .rwa [eg]at h
 .intro h;exact bQ ⟨bW ⟨rfl,rfl⟩,by simp[eO],⟨om,by simp;omega⟩,by rwa [eg]⟩
def Tv(K:AV->Prop):Ec 239 (.agg K5) (.int .i64 0) K=K (.int .i64 7):=by
 unfold Ec;apply propext;constructor
 .rintro (⟨h,_⟩|⟨_,_,_,h⟩)
  .exact absurd h dc
  .exact h
 .intro h;exact bQ ⟨bQ ⟨rfl,rfl⟩,by simp[eO,K5],⟨om,by simp[K5]⟩,h⟩
def Nx(a:lm S):∃ty g,S 0=some ⟨ty,1,8,g⟩/\eG g 0 8=K5:=by
 obtain⟨ty,g,u,v⟩:=a;refine⟨ty,g,u,?_⟩;simp only[eG,v 0 om,v 1 om,v 2 om,v 3 om,v 4 om,v 5 om,v 6 om,v 7 om];rfl
def ms(S:St)(p:Int)(k:Nat)(B:k<=3)(w:∀i,i<k->(p.tmod (UH.getD i 0)==0)=false)(x:k<3->(p.tmod (UH.getD k 0)==0)=true/\UH.getD k 0=p)(C:p<49)(y:lm S) :
  cZ 256 [.int .i64 p] S (fun r S'=>r=.int .i64 p/\S'=S):=by
 refine jI func256 ntmps256 results256 ?_;simp only[go_sem];refine dA (fun O S'=>∃i:Nat,i<=k/\S'=S/\O 0=.int .i64 p/\O 10=.agg [.int .i64 2,.int .i64 3,.int .i64 5]/\O 11=.int .i64 i) (fun O S=>3-co (O 11)) ?_ ?_
 .simp only[go_sem];exact⟨0,om,rfl⟩
 rintro Q' c O S' ⟨i,D,rfl,e,f,h⟩;by_cases d:i<3
 .obtain⟨_,j⟩:=N5 d;have l:decide ((i:Int)<3)=true:=by simp;omega
  by_cases m:i<k
  .simp only[*,go_sem,NO d,w i m,aS (om:i<1000000),co]
   exact⟨⟨i+1,om,rfl⟩,om⟩
  .obtain rfl:i=k:=om
   obtain⟨a,b⟩:=x d;simp only[go_sem,e,f,h,l,NO d,j,a];rw[c];simp only[go_sem,b]
 have l:decide ((i:Int)<3)=false:=by simp;omega
 simp only[go_sem,e,f,h,l];rw[c];simp only[go_sem,e];refine dA (fun O S1=>S1=S'/\O 0=.int .i64 p/\O 5=.int .i64 p/\O 6=.int .i64 0) (fun O S=>0) ?_ ?_
 .simp only[go_sem,e]
 clear c;rintro Q' c O S1 ⟨rfl,e,n,v⟩;obtain⟨ty,g,uG,vG⟩:=Nx y;simp only[go_sem,aa,uG,vG,show fD 239=some (1,8)from rfl,(om:¬(8:Nat)=1)]
 refine dA (fun O S2=>S2=S1/\O 0=.int .i64 p/\O 5=.int .i64 p/\O 6=.int .i64 0/\O 23=.agg K5/\O 24=.int .i64 0) (fun O S=>0) ?_ ?_
 .simp only[*,go_sem]
 rintro Q2 o O S2 ⟨rfl,e,n,v,q,s⟩;have z:decide ((0:Int)<8)=true:=by decide
 have t:decide (p<49)=true:=by simp;omega
 have A:IntKind.i64.wrap (0+7)=7:=by rw[i64_in om om];omega
 have u:IntKind.i64.wrap (7*7)=49:=by rw[i64_in om om];omega
 simp only[go_sem,e,n,v,q,s,z,Tv,A,u,t];rw[o];simp only[go_sem];rw[c];simp only[go_sem,n]
def cw:List Nat:=[3,5,7,11,13,17]
def jb.six(h:jb D p)(c:p<=17):p∈cw:=by
 obtain⟨d,f,⟨_,a⟩,_⟩:=h;have g:p≠9:=fun e=>by subst e;exact a 3 om om om
 have b:p≠15:=fun e=>by subst e;exact a 3 om om om
 simp only[cw,ed,aR,jz];omega
def Nt:Bool:=cw.all fun p=>(et p).all fun x=>(et p).all fun y=>x==0||y==0||(x*y)%p != 0
def Fz:Nt=true:=by decide +kernel
def oo(f:p∈cw)(a b:Int)(h:(p:Int)∣a*b):(p:Int)∣a∨(p:Int)∣b:=by
 have k:0<p:=by
  simp only[cw,ed,aR,jz]at f;omega
 have d:=aT a (show(p:Int)≠0 by omega)
 have e:=aT b (show(p:Int)≠0 by omega)
 have l:=aP a (show(0:Int)<p by omega)
 have m:=aP b (show(0:Int)<p by omega)
 obtain⟨x,g⟩:=i9 d;obtain⟨y,i⟩:=i9 e;have j:=Fz;unfold Nt at j;have c:=aE.1 (aE.1 (aE.1 j p f) x (fS.2 om)) y (fS.2 om);have n:=fm h;rw[fP,g,i,<-bF,<-kw]at n;simp only[eX,oU,U8,Bu]at c;rcases c with (c|c)|c
 .exact bW (cR (by rw[g,c];rfl))
 .exact bQ (cR (by rw[i,c];rfl))
 .exact absurd om c
def P7(S:St)(p:Nat)(b:p∈cw)(a:lm S):cZ 256 [.int .i64 p] S (fun r S'=>r=.int .i64 p/\S'=S):=by
 simp only[cw,ed,aR,jz]at b;rcases b with rfl|rfl|rfl|rfl|rfl|rfl
 .exact ms S 3 1 om dc (fun _=>by decide) dc a
 .exact ms S 5 2 om dc (fun _=>by decide) dc a
 .exact ms S 7 3 om dc (fun h=>om) dc a
 .exact ms S 11 3 om dc (fun h=>om) dc a
 .exact ms S 13 3 om dc (fun h=>om) dc a
 .exact ms S 17 3 om dc (fun h=>om) dc a
def IU(S:St)(p:Nat)(b:p∈cw)(c:lm S):cZ 221 [.int .i64 p] S (fun r S'=>r=.bool true/\S'=S):=by
 refine jI func221 ntmps221 results221 ?_;have d:3<=p/\p<=17:=by
  have a:=b;simp only[cw,ed,aR,jz]at a;omega
 have e:decide ((2:Int)<=(p:Int))=true:=by simp;omega
 have f:decide ((p:Int)<=2147483647)=true:=by simp;omega
 simp -dsimp only[*,go_sem,aa];refine(P7 S p b c).mono ?_;rintro _ S' ⟨rfl,rfl⟩;simp only[*,go_sem,dw]
def AC(S:St)(n p:Nat)(H:aH)(a:ge n H)(g:jb (det n H) p)(c:p∈cw)(k:lm S):cZ 174 [aC n n H,.int .i64 p] S (fun r S'=>r=.int .i64 0/\fM S S'):=by
 refine jI func174 ntmps174 results174 ?_;have l:3<=p/\p<=17:=by
  have e:=c;simp only[cw,ed,aR,jz]at e;omega
 have u:((p:Int)==2)=false:=by simp;omega
 have v:decide ((9973:Int)<(p:Int))=false:=by simp;omega
 simp -dsimp only[go_sem,aa];refine(nA n H true a.one a.five (fun i j m o=>by have:=a.ent i j m o;omega) ⟨fun _=>a.redB,fun _=>rfl⟩).call ?_
 simp -dsimp only[*,go_sem,aa];refine(IU S p c k).mono ?_;rintro _ S' ⟨rfl,rfl⟩;simp -dsimp only[*,go_sem,aa];have q:=((GB n H p a.one (by have:=a.five;omega) om om (oo c) (fun h=>g.2.2.2 (fm h))).less (post':=fun r S'=>(∃d:Int,d≠0/\r=.tup [.int .i64 d,.int .i64 0])/\S'=St.none) fun r S' h=>⟨St.none,(fun b X f=>by simp[St.none]at f),h,rfl⟩).frame (cY S' _) (by rintro r S1 ⟨⟨d,_,rfl⟩,rfl⟩;exact⟨rfl,fun b X f=>by simp[St.none]at f⟩)
 refine q.mono ?_;rintro _ S2 ⟨S1,⟨⟨d,s,rfl⟩,rfl⟩,_,rfl⟩;have t:(d==0)=false:=by simpa using s
 simp only[go_sem,t,bU];exact rF _ _

def LL{c:Nat}{K:AV->St->Prop}(a:S b=some ⟨2,1,0,g0⟩)(k:bG S c 2 1 n (fun j=>.int .i64 (v j)))(l:0<n)(p:n<=1000)
  (m:∀b' h,(b'=b∨S b'=ab)->(∀j,j<n->h j=.int .i64 (v j))->K (.sl 1 b' 0 n) ((S.del b).upd b' ⟨2,1,n,h⟩)):gP 29 29 (.sl 1 b 0 0) (.sl 1 c 0 n) S K:=by
 obtain⟨g,u,w⟩:=k;have d:c≠b:=by rintro rfl;rw[u]at a;cases a;omega
 have o:Bj S (.sl 1 c 0 n)=some (1,n,fun j=>g (0+j),some c):=by simp[Bj,u]
 unfold gP;rw[show dY 29=some 2 from rfl,o];refine⟨rfl,rfl,rfl,l,fun j f=>?_,?_⟩
 .show eO 1 (g (0+j));rw[az,w j f];simp[eO]
 .simp only[a];refine⟨trivial,trivial,trivial,trivial,trivial,om,fun e=>d (jS e),fun b' i=>?_⟩
  rw[az];refine m b' _ i fun j f=>?_;unfold nL;split
  .have:j=0:=om
   subst this;simp only[bR,aK,az];exact w 0 om
  .simp only[Kh,aM,d6,az];exact w j f
def TK{K:AV->St->Prop}:dR 29 0 [] S K=aG S (fun b=>K (.sl 1 b 0 0) (S.upd b ⟨2,1,0,fun j=>([]:List AV).getD j .any⟩)):=by
 simp only[dR,dY,cg];simp[fu,gM,aG]
def BR(S:St)(d n:Nat)(v:Nat->Int)(p:0<n)(q:n<=1000)(i:bG S d 2 1 n (fun j=>.int .i64 (v j))) :
  cZ 177 [.sl 1 d 0 n] S (fun r S'=>∃b,r=.sl 1 b 0 n/\bG S' b 2 1 n (fun j=>.int .i64 (v j))/\fM S S'/\S b=ab):=by
 refine jI func177 ntmps177 results177 ?_;simp -dsimp only[go_sem,TK];refine aG.intro fun l c=>?_;have f:=i.upd (i.fresh c) ⟨2,1,0,fun j=>([]:List AV).getD j .any⟩
 try simp -dsimp only[go_sem]
 refine LL cp f p q ?_;intro b' h g s;have m:S b'=ab:=by
  rcases g with rfl|h
  .exact c
  .by_cases e:b'=l
   .rw[e];exact c
   .rw[aO e]at h;exact h
 simp only[go_sem];refine⟨b',rfl,bG.here s,fun k X a=>?_,m⟩;have t:k≠b':=fun e=>by rw[e,m]at a;cases a
 have o:k≠l:=fun e=>by rw[e,c]at a;cases a
 rw[aO t];unfold St.del;rw[af o,aO o];exact a
def zZ(n:Nat)(H:aH)(v:Nat->Int)(m:Int):fB n (ma H m) v n%m=fB n H v n%m:=by
 unfold fB;refine nU n _ _ m fun i _=>?_;rw[fP,nU n (fun j=>ma H m i j*v j) (fun j=>H i j*v j) m fun j _=>?_,<-fP];show(H i j%m*v j)%m=_;rw[fP,j8 _ (iL m),<-fP]
def Ah(n p:Nat)(H:aH)(v:Nat->Int)(β:Bool)(C:1<=n)(F:n<=8)(M:2<=p)(G:p<=100)(hβ:β=true↔oF n p H v):PF 175 [aC n n H,.int .i64 p,aW n v] (.bool β):=by
 refine jo func175 ntmps175 results175 ?_;simp only[go_sem,aC,aW,bU];refine dA (fun O S=>∃i:Nat,i<=n/\(∀k,k<i->0<=v k/\v k<p)/\O 0=aC n n H/\O 1=.int .i64 p/\O 2=aW n v/\O 7=.int .i64 (iq v i)/\O 17=aW n v/\O 18=.int .i64 n/\O 19=.int .i64 i) (fun O S=>n-co (O 19)) ?_ ?_
 .simp only[go_sem,aC,aW];exact⟨0,om,fun k I=>om,rfl,rfl⟩
 rintro Q' o O S ⟨i,D,d,x,u,w,t,q,r,s⟩;by_cases a:i<n
 .by_cases E:v i<0
  .simp only[go_sem,aC,aW,x,u,w,t,q,r,s,a,E];rw[o];simp only[go_sem];rw[dD hβ fun h=>by have:=h.1 i a;omega]
   exact VR.mf rfl
  by_cases J:(p:Int)<=v i
  .simp only[go_sem,aC,aW,x,u,w,t,q,r,s,a,E,J];rw[o];simp only[go_sem];rw[dD hβ fun h=>by have:=h.1 i a;omega]
   exact VR.mf rfl
  have l:∀k,k<i+1->0<=v k/\v k<p:=fun k I=>by
   by_cases e:k=i
   .rw[e];omega
   .exact d k om
  by_cases z:iq v i=0
  .simp only[*,go_sem,aC,aW,dw,aS (om:i<1000000),co]
   refine⟨⟨i+1,om,l,?_,rfl⟩,om⟩
   simp only[iq,z,aK]
  .have N:(iq v i==0)=false:=by simpa using z
   simp only[*,go_sem,aC,aW,aS (om:i<1000000),co]
   refine⟨⟨i+1,om,l,?_,rfl⟩,om⟩
   simp only[iq,z,aM]
 have B:i=n:=om
 rw[B]at t d;simp only[go_sem,aa,x,u,w,t,q,r,s,a];rw[o];simp -dsimp only[*,go_sem,aa];refine(yb n n H p C om C om om om S _ (cY _ _)).mono ?_;rintro _ S1 ⟨b,g,rfl,K,_⟩;by_cases f:iq v n=1
 .have c:(iq v n==1)=true:=by rw[f]<;>rfl
  simp -dsimp only[go_sem,aa,x,u,w,t,c];have L:=rm (A:=H) (m:=(p:Int)) om;refine(z0 n p (ma H p) v F om om (fun i j _ _=>by have:=L i j;omega) (fun i D=>by have:=d i D;omega)).spec (fH.three K.vr.va (VA.refl _ _) (VA.refl _ _)) ?_
  rw[zZ];by_cases y:fB n H v n%(p:Int)=0
  .rw[y,hβ.2 ⟨d,f,y⟩];simp only[*,go_sem,dw];exact VR.mf rfl
  .rw[dD hβ fun h=>y h.2.2];simp only[go_sem,u,w,t,c,show(fB n H v n%(p:Int)==0)=false by simpa using y]
   exact VR.mf rfl
 .have c:(iq v n==1)=false:=by simpa using f
  simp only[*,go_sem];rw[dD hβ fun h=>f h.2.1];exact VR.mf rfl
def Lf(n p:Nat)(H:aH)(v:Nat->Nat)(c:1<=n)(d:n<=8)(e:2<=p)(a:p<=100)(b:ll n p H v):PF 175 [aC n n H,.int .i64 p,aW n (fun k=>v k)] (.bool true) :=
 Ah n p H _ true c d e a ⟨fun _=>⟨fun i f=>by have:=b.lt i f;dsimp only;omega,b.lead,b.norm⟩,fun _=>rfl⟩

def qT(n:Nat)(H:aH)(p:Int)(v:Nat->Int):Nat->Int:=fun i=>(aq n fun j=>H i j*v j)%p
def M0(n:Nat)(H:aH)(p:Int)(v:Nat->Int)(i:Nat):(aq n fun j=>ma H (p*p) i j*v j)%p=qT n H p v i:=by
 refine nU n _ _ p fun j _=>?_;show(H i j%(p*p)*v j)%p=_;rw[fP,j8 _ (Vn p p),<-fP]
def yy(n:Nat)(H:aH)(p:Int)(v:Nat->Int)(i:Nat):gY n H p v i=qT n H p v i:=by
 refine nU n _ _ p fun j _=>?_;show(H i j%p*(v j%p))%p=_;rw[<-fP]
theorem qD:∀(a b:List Oper) (O:Tm) (S:St) (pend:List (Nat×ft)) (K:Tm->List (Nat×ft)->Prop),GJ (a++b) O S pend K=GJ a O S pend (fun O' p'=>GJ b O' S p' K)
 | [],_,_,_,_,_=>rfl
 | o::a,b,O,S,pend,K=>by
  simp only[l6,GJ];split
  .split
   .exact qD a b _ _ _ _
   .rfl
  .simp only[qD a b]
def D5(r:Nat)(h:∀K',K'=(fun O' p'=>GE (l.drop r) O' S p' K)->GE (l.take r) O S pend K'):GE l O S pend K:=by
 have h:=h _ rfl;rw[qN]at h ⊢;rw[<-qD,yd]at h;exact h
def RG:GE [] O S pend K=K O pend:=by rw[qN]<;>rfl
def RF{K:Tm->St->Prop}:EE ops [] O S K=K O S:=by rw[xq]<;>rfl
def QY(h:∀Q',Q'=Q->Aw c Q' O S):Aw c Q O S:=h _ rfl
def Q6{K:Tm->St->Prop}(r q:Nat)(a:xO ops q [] false=true)
  (h:∀K',K'=(fun O' pend=>GE ((ops.toList.take q).drop r) O' S pend (fun O' pend=>if pend.isEmpty then EE ops (ops.toList.drop q) O' S K else vQ pend (As (qu (ops.toList.take q)) O') S (fun O S=>EE ops (ops.toList.drop q) O S K)))->GE ((ops.toList.take q).take r) O S [] K'):GF ops O S K:=by
 refine bD q a ?_;have h:=h _ rfl;rw[qN]at h ⊢;rw[<-qD,yd]at h;exact h
def N4:Bool:=cw.all fun p=>(et p).all fun x=>x==0||(rH 20 p x 0 1&&((x:Int)*(DO 20 p x 0 1%p))%p==1)
def FO:N4=true:=by decide +kernel
def Ap(b:p∈cw){x:Int}(c:0<x)(d:x<p):rH 20 p x 0 1=true/\(x*(DO 20 p x 0 1%p))%p=1:=by
 have h:=FO;unfold N4 at h;obtain⟨k,rfl⟩:=i9 (om:0<=x)
 have a:=aE.1 (aE.1 h p b) k (fS.2 om);simp only[eX,ay,oU]at a;rcases a with a|a
 .omega
 .exact a
def L2(S:St)(d n p piv:Nat)(H:aH)(v:Nat->Nat)(hF:ge n H)(hg:jb (det n H) p)(hp:p∈cw)(hL:ll n p H v)(hd:bG S d 2 1 n (fun k=>.int .i64 ((v k:Nat):Int)))(hG:lm S)
  (hpiv:piv<n) (L:qT n H p (fun k=>v k) piv≠0) (hsz:∀i,i<piv->qT n H p (fun k=>v k) i=0) :
  cZ 121 [aC n n H,.int .i64 p,.sl 1 d 0 n] S (fun r S'=>∃b t,0<=t/\t<(p:Int)/\(p:Int)*p∣jy n H (fun k=>if k=piv then((v k:Nat):Int)+p*t else v k) (fun k=>if k=piv then((v k:Nat):Int)+p*t else v k)/\r=.tup [.sl 1 b 0 n,.int .i64 0]/\bG S' b 2 1 n (fun k=>.int .i64 (if k=piv then((v k:Nat):Int)+p*t else v k))/\fM S S'):=by
 have h1:=hF.one;have hn:=hF.five;have o:3<=p/\p<=17:=by
  simp only[cw,ed,aR,jz]at hp;omega
 refine jI func121 ntmps121 results121 ?_;simp -dsimp only[go_sem,aa];refine(AC S n p H hF hg hp hG).mono ?_;rintro _ S1 ⟨rfl,z⟩;have M:=z.has hd;simp -dsimp only[go_sem,aa];refine(Lf n p H v h1 om om om hL).spec (fH.three (VA.refl _ _) (VA.refl _ _) (ku.vr (show ku S1 d n (fun k=>v k)from M)).va) ?_;have hpp:(p:Int)*p<=289/\9<=(p:Int)*p:=by
  rw[<-bF];have a:=aV o.2 o.2;have b:=aV o.1 o.1;omega
 have wpp:IntKind.i64.wrap ((p:Int)*p)=(p:Int)*p:=i64_in om om;simp -dsimp only[go_sem,aa,wpp];refine(yb n n H (p*p) h1 om h1 om om om S1 _ (cY _ _)).mono ?_;rintro _ S2 ⟨br,gr,rfl,hR,B,_,_⟩;have P:=B.has M;simp -dsimp only[go_sem,aa];refine(BR S2 d n (fun k=>v k) om om P).mono ?_;rintro _ S3 ⟨bx,rfl,hx3,C,hbx⟩;have Q:=C.has P;have D:=hR.ext C;simp only[go_sem];have hr:=rm (A:=H) (m:=(p:Int)*p) om;have E:∀i,i<n->(0:Int)<=(v i:Nat)/\((v i:Nat):Int)<=16:=fun i hi=>by have:=hL.lt i hi;omega
 have R:fM S S3:=(z.trans B).trans C;refine dA (fun O S=>∃i:Nat,i<=piv/\S3=S/\O 1=.int .i64 p/\O 2=.sl 1 d 0 n/\O 9=.sl 1 br 0 n/\O 11=.sl 1 bx 0 n/\O 39=.sl 1 br 0 n/\O 40=.int .i64 n/\O 41=.int .i64 i) (fun O S=>n-co (O 41)) ?_ ?_
 .simp only[go_sem];exact⟨0,om,rfl⟩
 rintro Q' hQ' O _ ⟨i,hi,rfl,w,e2,e9,s,F,G,I⟩;have f:i<n:=om
 obtain⟨g1,u1,v1⟩:=id D.outer;have x1:g1 i=.sl 1 (gr i) 0 n:=v1 i f;simp -dsimp only[go_sem,aa,w,e2,F,G,I,f,u1,x1];refine(FE n p (ma H (p*p) i) (fun k=>v k) om om (fun j J=>by have:=hr i j;omega) (fun j J=>by have:=E j J;omega)).spec (fH.three (ku.vr (D.row i f)).va (ku.vr (show ku S3 d n (fun k=>v k)from Q)).va (VA.refl _ _)) ?_
 rw[M0];by_cases hip:i<piv
 .simp only[*,go_sem,hsz i hip,dw,aS (om:i<1000000),co]
  exact⟨⟨i+1,om,rfl⟩,om⟩
 obtain rfl:i=piv:=om
 have hsb:(qT n H p (fun k=>v k) i==0)=false:=by simpa using L
 have T:0<=qT n H p (fun k=>v k) i/\qT n H p (fun k=>v k) i<p:=⟨aT _ om,aP _ om⟩;generalize hsl:qT n H p (fun k=>v k) i=sl at *;have w2:IntKind.i64.wrap (2*sl)=2*sl:=i64_in om om;simp -dsimp only[go_sem,w,e2,e9,s,F,G,I,hsb,w2];refine aG.intro fun l U=>?_
 try simp -dsimp only[go_sem]
 refine aG.intro fun u V=>?_;have n56_55:=(ag V).1
 try simp -dsimp only[go_sem,w]
 have hIM:dZ ((S3.upd l ⟨2,1,1,fun j=>[AV.int .i64 (2*sl)].getD j .any⟩).upd u ⟨29,1,1,fun j=>[AV.sl 1 l 0 1].getD j .any⟩) u (fun _=>l) 1 1 (fun _ _=>2*sl):=by
  refine⟨bG.here fun j J=>?_,fun j _=>bG.upd (bG.here fun k hk=>?_) n56_55.symm _,fun i j h1 h2 _=>om⟩
  .obtain rfl:j=0:=om
   rfl
  .obtain rfl:k=0:=om
   rfl
 have y:S3 u=ab:=by rwa [aO n56_55]at V
 have up2:∀{b ty es m:Nat} {g:Nat->AV},bG S3 b ty es m g->bG ((S3.upd l ⟨2,1,1,fun j=>[AV.int .i64 (2*sl)].getD j .any⟩).upd u ⟨29,1,1,fun j=>[AV.sl 1 l 0 1].getD j .any⟩) b ty es m g:=fun h=>(h.upd (h.fresh U) _).upd (h.fresh y) _;have W:fM S3 ((S3.upd l ⟨2,1,1,fun j=>[AV.int .i64 (2*sl)].getD j .any⟩).upd u ⟨29,1,1,fun j=>[AV.sl 1 l 0 1].getD j .any⟩):=((fM.refl S3).upd U _).upd y _;have h2s:0<2*sl%p/\2*sl%p<p:=by
  have a:=aT (2*sl) (show(p:Int)≠0 by omega)
  have b:=aP (2*sl) (show(0:Int)<p by omega)
  have c:2*sl%p≠0:=fun h=>by
   rcases oo hp 2 sl (cR h)with h|h
   .have:=pn om h;omega
   .exact L (by have:=fm h;rwa [dH T.1 T.2]at this)
  omega
 obtain⟨heo,hei⟩:=Ap hp h2s.1 h2s.2;refine(vJ 20 (2*sl) p om om heo _ _ (fH.two hIM.vr.va (VA.refl _ _))).mono ?_;rintro _ S4 ⟨bi,gi,rfl,X,hE4,_,_⟩;have Z:0<=DO 20 p (2*sl%p) 0 1%p/\DO 20 p (2*sl%p) 0 1%p<p:=⟨aT _ om,aP _ om⟩;generalize DO 20 p (2*sl%p) 0 1%p=iv at *;have q:fM S3 S4:=W.trans hE4;have hx4:=q.has hx3;have hd4:=q.has Q;have hR4:=D.ext q;obtain⟨gb,ub,vb⟩:=id X.outer;obtain⟨gc,uc,vc⟩:=id (X.row 0 om);obtain⟨gx,ux,vx⟩:=id hx4;have xb:gb 0=.sl 1 (gi 0) 0 1:=vb 0 om;have xc:gc 0=.int .i64 iv:=vc 0 om;have xx:gx i=.int .i64 (v i:Nat):=vx i f;have hN:fB n (ma H (p*p)) (fun k=>v k) n%(p*p)=fB n H (fun k=>v k) n%(p*p):=zZ n H _ _;have hN0:=aT (fB n H (fun k=>v k) n) (show(p:Int)*p≠0 by omega)
 have hN1:=aP (fB n H (fun k=>v k) n) (show(0:Int)<p*p by omega)
 generalize hNN:fB n H (fun k=>v k) n%((p:Int)*p)=N at *;have hk0:0<=N/p/\N/p<p:=by
  refine⟨nd hN0 om,?_⟩;exact Int.ediv_lt_of_lt_mul om hN1
 have k1:IntKind.i64.wrap (N.tdiv p)=N/p:=by rw[fU hN0];exact i64_in om om
 have k2:IntKind.i64.wrap (p-N/p)=p-N/p:=i64_in om om;have hm0:0<=(p-N/p)*iv/\(p-N/p)*iv<=289:=by
  have:=da (show(p:Int)-N/p<=17 by omega) (om:iv<=17) Z.1 om
  exact⟨dr om Z.1,om⟩
 have k3:IntKind.i64.wrap ((p-N/p)*iv)=(p-N/p)*iv:=i64_in om om;have k4:((p-N/p)*iv).tmod p=(p-N/p)*iv%p:=aN hm0.1;have K:=aT ((p-N/p)*iv) (show(p:Int)≠0 by omega)
 have ht1:=aP ((p-N/p)*iv) (show(0:Int)<p by omega)
 generalize hT:(p-N/p)*iv%(p:Int)=t at *;have hnm:=Ct hF.red.pd.sym f (show(0:Int)<p by omega) hsl hei hNN hL.norm hT
 have hpt:0<=(p:Int)*t/\(p:Int)*t<=289:=by
  have:=da (show(p:Int)<=17 by omega) (om:t<=17) K om
  exact⟨dr om K,om⟩
 have k5:IntKind.i64.wrap (p*t)=p*t:=i64_in om om;have hvi:=E i f;have k6:IntKind.i64.wrap (((v i:Nat):Int)+p*t)=((v i:Nat):Int)+p*t:=i64_in om om;have hp0:¬(p:Int)=0:=om
 simp -dsimp only[go_sem,w];refine Q6 7 19 kr fun K' hK'=>?_
 simp only[go_sem,aa,w,e2,e9,wpp];refine⟨_,(z0 n (p*p) (ma H (p*p)) (fun k=>v k) om om om (fun i j _ _=>by have:=hr i j;omega) (fun j J=>by have:=E j J;omega)).pureS (fH.three hR4.vr.va (ku.vr (show ku S4 d n (fun k=>v k)from hd4)).va (VA.refl _ _)),?_⟩
 rw[bF,hN,hK'];refine D5 7 fun K'' hK''=>?_;simp only[go_sem,aa,w,ub,xb,hp0,k1,k2]
 repeat refine an ?_
 rw[hK''];refine D5 3 fun K3 hK3=>?_;simp only[go_sem,aa,w,uc,xc,k3]
 suffices key:∀O':Tm,O' 1=.int .i64 p->O' 11=.sl 1 bx 0 n->O' 12=.int .i64 i->O' 76=.int .i64 ((p-N/p)*iv)->O' 77=.int .i64 p->K3 O' [] by
  refine key _ ?_ ?_ ?_ ?_ ?_<;>simp only[*,go_sem]
 clear w e2 e9 s F G I hK' hK'';intro O' w s e12 e76 e77;rw[hK3];refine D5 2 fun K4 hK4=>?_;simp only[go_sem,e76,e77,hp0,k4];rw[hK4];clear hK4 hK3;rw[show(List.drop 2 (List.drop 3 (List.drop 7 (List.drop 7 (List.take 19 (Array.toList _))))))=([]:List Oper)from rfl];dsimp only;rw[RG];rw[show List.isEmpty ([]:List (Nat×ft))=true from rfl,ah rfl];rw[show(List.drop 19 (Array.toList _))=([]:List Oper)from rfl];rw[RF];refine QY fun Q3 hQ3=>?_;simp only[go_sem,aa,w,s,e12,f,ux,xx,k5,k6];rw[hQ3];simp only[go_sem];rw[hQ'];simp only[go_sem];refine⟨bx,t,K,ht1,hnm,by rw[s],bG.here fun j J=>?_,fun k Y hY=>?_⟩
 .show bR gx i _ j=_;unfold bR;by_cases x:j=i
  .rw[ah x,x,ah rfl]
  .rw[af x,af x];exact vx j J
 .have hk:k≠bx:=fun e=>by
   subst e;have:=B k Y (z k Y hY);rw[hbx]at this;cases this
  rw[aO hk];exact(R.trans q) k Y hY

def M1(n piv r:Nat):1<=Dq n piv r:=by unfold Dq;split<;>(try split)<;>omega
def D9(f:Nat->Int){j:Nat}(a:j<n):(f j).natAbs<=dN n f:=by
 have:=jR f a;omega
def KZ{p:Int}{piv:Nat}(u:1<=n)(o:n<=5)(v:0<p)(g:p<=17)(c:piv<n)(w:∀j,j<n->0<=q j/\q j<=16)(y:∀i,i<n->i≠piv->(x i).natAbs<=16)(l:(x piv).natAbs<=288) :
  nv n (fq n (tB n p piv q x)):=by
 have b:=Th o v g c w y l;refine⟨u,o,fun σ k m k' i j d s=>?_,Fy om c q x,fun R z A _ σ neg k m k' i j s d=>?_,fun r j C d=>?_⟩
 .have h:=zK b (k:=k') (i:=i) (j:=j) d m.sum;have e:=Ju (n:=n) (piv:=piv) (k:=k') (r:=k'+i) om om om om om;unfold nb;exact eS (a9 h e) dc
 .have h:=Bq (B:=wM (fq n (tB n p piv q x)) n R) (N:=n+1) (f:=fun t=>Dq n piv (t9 n R t)) (fun r _=>b _) (fun r _=>M1 _ _ _) (k:=k') (i:=i) (j:=j) s d m.row;have e:=Ju (n:=n) (piv:=piv) (k:=n) (r:=R) om om om om om;unfold nb;refine eS (a9 h (a9 (qQ (mT fun a _=>?_)) e)) dc
  rfl
 .have h:=D9 (fq n (tB n p piv q x) r) d;have e:=b r;have D:Dq n piv r<=1665:=by unfold Dq;split<;>(try split)<;>omega
  unfold nb;omega
def F8(n:Nat):Nat:=jm 31 n+jm 31 n+8+31
def LU.up{U:aH}(a:LU n A R H U){i j:Nat}(b:i<n)(c:j<n+1):lK (n+1) (fun k r=>A r k) U j i=H i j:=by
 rw[<-a.mu i j om c];unfold lK mm;refine aB fun k d=>?_;show A i k*U k j=wM A n R i k*U k j;unfold wM t9;rw[ah b]
def LU.ubits(f:nv n A){R:Nat}{H U:aH}(l:LU n A R H U)(t:∀i j,i<n+1->j<n+1->nb (H i j) 31){a c:Nat}(m:a<n+1)(s:c<n+1):nb (U a c) (jm 31 n+jm 31 n+8):=by
 have o:∀i j,i<n+1->j<n+1->nb (wM A n R i j) 31:=fun i j d b=>f.hent _ _ (by have:=l.r2;unfold t9;split<;>omega) b
 have p:∀i j,i<n+1->j<n+1->nb (ke (n+1) (wM A n R) i j) (jm 31 n):=fun i j d b=>by
  have h:=Am (by have:=f.hn;omega) om o n i j d b
  unfold ke;split
  .exact h.neg
  .exact h
 have e:mm (n+1) (ke (n+1) (wM A n R)) H a c=det (n+1) (wM A n R)*U a c:=by
  have u:mm (n+1) (ke (n+1) (wM A n R)) H a c=mm (n+1) (ke (n+1) (wM A n R)) (mm (n+1) (wM A n R) U) a c:=rB (fun _ _=>rfl) fun k q=>(l.mu k c q s).symm;rw[u,<-ou];unfold mm;rw[aB (g:=fun k=>(if a=k then det (n+1) (wM A n R)else 0)*U k c) fun k q=>by
   show mm (n+1) (ke (n+1) (wM A n R)) (wM A n R) a k*U k c=_;rw[so om _ m q]]
  rw[aB (g:=fun k=>(if a=k then 1 else 0)*(det (n+1) (wM A n R)*U k c)) fun k _=>by split<;>simp]
  rw[nV m]
 have r:nb (det (n+1) (wM A n R)*U a c) (jm 31 n+jm 31 n+8):=by
  rw[<-e];exact JO (by have:=f.hn;omega) p (fun i j d b=>(t i j d b).mono (pQ 31 n)) m s
 unfold nb at r ⊢;rw[cH]at r;have:1<=(det (n+1) (wM A n R)).natAbs:=by have:=l.dt;omega
 exact eS (a9 (qQ (kQ _).symm) (aD _ this)) r
def LU.herm(B:nv n A){R:Nat}{H U:aH}(f:LU n A R H U)(y:∀r c,n<=r->r<n+n+1->c<n+1->A r c=if r=n+c then 1 else 0) :
  (∀a r,a<n+1->r<n+n+1->nb (lK (n+1) (fun k r=>A r k) U a r) (F8 n))/\CU n (F8 n) (fun i j=>lK (n+1) (fun k r=>A r k) U j i)/\(∀x,fC (n+1) (n+1) H x↔fC (n+1) (n+1) (wM A n R) x)/\∀i,i<n->H i n=0:=by
 obtain⟨d,M,p,F,l⟩:=f.tl;have G:=B.dlt f.r1 f.r2 f.dt;have z:∀i,i<n+1->0<d i/\d i<2147483648:=fun i b=>by
  have t:=p.pos i b;have u:=p.d_le b;omega
 have q:∀r c,r<c->c<n+1->H r c=0:=fun r c t u=>(l.done c u).1 r t;have s:∀c,c<n+1->H c c=d c:=fun c m=>(l.done c m).2.1;have v:∀c j,c<n+1->j<c->0<=H c j/\H c j<d c:=fun c j m o=>(l.done j om).2.2 c o m;have C:∀i j,i<n+1->j<n+1->nb (H i j) 31:=fun i j b o=>by
  unfold nb;rcases dS i j with h|h|h
  .rw[q i j h o];decide
  .subst h;rw[s i b];have:=z i b;omega
  .have t:=v i j b h;have u:=z i b;omega
 have w:∀i j,i<n->j<n+1->nb (lK (n+1) (fun k r=>A r k) U j i) (F8 n):=fun i j b o=>by
  rw[f.up b o];exact(C i j om o).mono (by unfold F8;omega)
 refine⟨fun a r D I=>?_,⟨fun r c t u E=>?_,fun c m=>?_,fun c j m o=>?_,w⟩,fun x=>?_,fun i b=>q i n b om⟩
 .rcases aF r n with h|h
  .exact w r a h D
  .have e:lK (n+1) (fun k r=>A r k) U a r=U (r-n) a:=by
    unfold lK;rw[aB (g:=fun k=>(if r-n=k then 1 else 0)*U k a) fun k J=>by
     show A r k*U k a=_;rw[y r k h I J];by_cases e:r=n+k
     .rw[ah e,ah om]
     .rw[af e,af om]]
    exact nV om _
   rw[e];exact(f.ubits B C om D).mono (by unfold F8;omega)
 .show lK (n+1) (fun k r=>A r k) U c r=0;rw[f.up u E];exact q r c t E
 .show 0<lK (n+1) (fun k r=>A r k) U c c;rw[f.up m om,s c om];exact(z c om).1
 .show 0<=lK (n+1) (fun k r=>A r k) U j c/\lK (n+1) (fun k r=>A r k) U j c<lK (n+1) (fun k r=>A r k) U c c;rw[f.up m om,f.up m om,s c om];exact v c j om o
 .exact l.span p x
def vK.members(f:nv n (fq n M))(h:vK n k (fq n M) B):∀y,fC n n B y↔fC n (n+1) M y:=by
 obtain⟨R,H,U,d,o,rfl⟩:=h.ex;intro y;obtain⟨_,_,g,l⟩:=d.herm f (fun r c e _ p=>by unfold fq;rw[af om])
 have e:fC n n H y↔fC n (n+1) M y:=NQ (w:=wM (fq n M) n R) (fun i j a m=>by
  unfold wM t9 fq;rw[ah a,ah a]) g l y
 rw[<-e];have key:∀i,i<n->∀c:ig,aq n (fun j=>lK (n+1) (fun k r=>fq n M r k) U j i*c j)=aq n (fun j=>H i j*c j):=fun i a c=>aB fun j m=>by rw[d.up a om]
 constructor
 .rintro⟨c,b⟩;exact⟨c,fun i a=>by rw[b i a,key i a c]⟩
 .rintro⟨c,b⟩;exact⟨c,fun i a=>by rw[b i a,<-key i a c]⟩
def vK.herm(h:vK n k (fq n M) B):CU n k B:=by
 obtain⟨R,H,U,b,a,rfl⟩:=h.ex;exact a

def EC(n k:Nat)(M:aH)(f:nv n (fq n M))(h:k<=1000000)(l:∀R H U,LU n (fq n M) R H U->(∀a r,a<n+1->r<n+n+1->nb (lK (n+1) (fun k r=>fq n M r k) U a r) k)/\CU n k (fun i j=>lK (n+1) (fun k r=>fq n M r k) U j i)) :
  ∀S args',fH S args' [aU n (n+1) M]->cZ 123 args' S (fun r S'=>∃b g B,r=.tup [.sl 1 b 0 n,.bool true]/\vK n k (fq n M) B/\je S S' b g n n B):=fun S args' m=>by
 have o:cZ 123 [aU n (n+1) M] St.none (fun r S'=>∃b g B,r=.tup [.sl 1 b 0 n,.bool true]/\vK n k (fq n M) B/\dE S' b g n n B/\Kq S'):=(BU n k M f h l).less fun r S' ⟨b,g,B,e,d,c⟩=>⟨ik S' b g n,jQ S' b g n,b,g,B,e,d,c.only.1,c.only.2⟩;refine(o.frame m ?_).mono ?_
 .rintro r S1 ⟨b,g,B,rfl,_,_,p⟩;exact⟨rfl,p⟩
 .rintro r S' ⟨S1,⟨b,g,B,rfl,d,c,_⟩,q,rfl⟩;exact⟨b,g,B,rfl,d,c.join q⟩
def KQ{K:AV->Prop}(h:K (.sl 1 b 0 n)):kG 28 (.sl 1 b 0 n) ab (some (.int .i64 n)) (some (.int .i64 n)) K:=by
 refine⟨rfl,0,n,rfl,rfl,⟨sF _,sF _,rfl⟩,jW _,ae _,?_⟩;show K (if (0:Nat)=0∨0<n then AV.sl 1 b (0+0) (n-0)else .lst 1 0 fun _=>.any)
 rw[ah (bW rfl)];exact h
structure sH(n p:Nat)(H:aH)(v:Nat->Nat)(B:aH):Prop where
 ex:∃piv t inv,piv<n/\0<=t/\t<(p:Int)/\(p:Int)*p∣jy n H (fun i=>if i=piv then((v i:Nat):Int)+p*t else v i) (fun i=>if i=piv then((v i:Nat):Int)+p*t else v i)/\inv=DO 20 p (gY n H p (fun k=>v k) piv%p) 0 1%p/\gY n H p (fun k=>v k) piv≠0 /\
  nv n (fq n (tB n p piv (fun j=>gY n H p (fun k=>v k) j*inv%p) (fun i=>if i=piv then((v i:Nat):Int)+p*t else v i))) /\
  vK n (F8 n) (fq n (tB n p piv (fun j=>gY n H p (fun k=>v k) j*inv%p) (fun i=>if i=piv then((v i:Nat):Int)+p*t else v i))) B
def FM(h:∃i,i<n/\P i):∃i,i<n/\P i/\∀j,j<i->¬P j:=by
 obtain⟨i,d,e⟩:=h
 induction i using Nat.strongRecOn with
 | _ i ih =>
  by_cases c:∃j,j<i/\P j
  .obtain⟨j,a,b⟩:=c;exact ih j a om b
  .exact⟨i,d,e,fun j a b=>c ⟨j,a,b⟩⟩
theorem CA{p:Int}{f:Nat->Int}:∀{n:Nat},(∀i,i<n->p∣f i)->p∣aq n f
 | 0,_=>jp p
 | n+1,h=>iO (CA fun i a=>h i om) (h n om)
theorem Af{v:Nat->Int}:∀{n:Nat},(∀i,i<n->v i=0)->iq v n=0
 | 0,_=>rfl
 | n+1,h=>by
  simp only[iq,Af (n:=n) fun i a=>h i om,aK];exact h n om
def Hm{v:Nat->Nat}(q:ge n H)(r:jb (det n H) p)(s:p∈cw)(m:ll n p H v):∃piv,piv<n/\qT n H p (fun k=>v k) piv≠0/\∀i,i<piv->qT n H p (fun k=>v k) i=0:=by
 have b:∃i,i<n/\qT n H p (fun k=>v k) i≠0:=by
  refine dW fun c=>?_;have t:∀i,i<n->(p:Int)∣aq n fun j=>H i j*((v j:Nat):Int):=fun i d=>by
   refine cR (dW fun h=>c ⟨i,d,h⟩)
  have u:∀k,k<n->((v k:Nat):Int)=0:=fun k e=>by
   have w:mm n (ke n H) (mm n H (fun j _=>((v j:Nat):Int))) k 0=det n H*((v k:Nat):Int):=by
    rw[<-ou];unfold mm;rw[aB (g:=fun j=>(if k=j then 1 else 0)*(det n H*((v j:Nat):Int))) fun j f=>by
     show mm n (ke n H) H k j*((v j:Nat):Int)=_;rw[so q.one _ e f];split<;>simp]
    rw[nV e]
   have l:(p:Int)∣det n H*((v k:Nat):Int):=by
    rw[<-w];exact CA fun i d=>cD (t i d)
   rcases oo s _ _ l with h|h
   .exact absurd (fm h) r.2.2.2
   .have o:=m.lt k e;have a:=fm h;rw[dH om om]at a;exact a
  have:=m.lead;rw[Af u]at this;omega
 obtain⟨i,x,o,a⟩:=FM b;exact⟨i,x,o,fun j f=>dW fun h=>a j f h⟩
def D4(S:St)(d n p:Nat)(H:aH)(v:Nat->Nat)(hF:ge n H)(hg:jb (det n H) p)(hp:p∈cw)(hL:ll n p H v)(V:bG S d 2 1 n (fun k=>.int .i64 ((v k:Nat):Int)))(hG:lm S) :
  cZ 59 [aC n n H,.int .i64 p,.sl 1 d 0 n] S (fun r S'=>∃b g B,r=.tup [.sl 1 b 0 n,.int .i64 0]/\sH n p H v B/\dE S' b g n n B/\fM S S'):=by
 have h1:=hF.one;have hn:=hF.five;have hp17:3<=p/\p<=17:=by
  have hp':=hp;simp only[cw,ed,aR,jz]at hp';omega
 obtain⟨piv,f,C,W⟩:=Hm hF hg hp hL;refine jI func59 ntmps59 results59 ?_;simp -dsimp only[go_sem,aa];refine(L2 S d n p piv H v hF hg hp hL V hG f C W).mono ?_;rintro _ S1 ⟨bx,t,K,ht1,hnm,rfl,Y,L⟩;have hd1:=L.has V;simp -dsimp only[go_sem,aa,bU];have hw:∀i,gY n H p (fun k=>v k) i=qT n H p (fun k=>v k) i:=yy n H p _;have hwr:=rf (n:=n) (H:=H) (p:=(p:Int)) (v:=fun k=>((v k:Nat):Int)) om;have Z:0<gY n H p (fun k=>v k) piv%p/\gY n H p (fun k=>v k) piv%p<p:=by
  have:=hwr piv;rw[dH this.1 this.2];have h0:gY n H p (fun k=>v k) piv≠0:=by rw[hw];exact C
  omega
 obtain⟨heo,hei⟩:=Ap hp Z.1 Z.2;refine(Bp 20 n piv H p (fun k=>v k) _ h1 om om om f (by rw[hw];exact C) (fun i F=>by rw[hw];exact W i F) heo rfl S1 _ (fH.three (VA.refl _ _) (VA.refl _ _) (ku.vr (show ku S1 d n (fun k=>v k)from hd1)).va)).mono ?_
 rintro _ S2 ⟨bl,gl,rfl,D,hE2,nl2,nlg2⟩;generalize hinv:DO 20 p (gY n H p (fun k=>v k) piv%p) 0 1%p=inv at *;have hx2:=hE2.has Y;simp -dsimp only[go_sem,cV,fX];refine KQ ?_
 try simp -dsimp only[go_sem]
 refine aG.intro fun b41 N=>?_
 try simp -dsimp only[go_sem]
 have G:fM S S2:=L.trans hE2;have nbl:S bl=ab:=L.none nl2;have P:c8 29 1 S S2 (.sl 1 bl 0 n) n (fun j=>.sl 1 (gl j) 0 n):=⟨G,bQ ⟨bl,nbl,rfl,D.outer⟩⟩;have hxb:=P.fresh N;have I:=P.upd (G.none N) hxb ⟨29,1,1,fun j=>[AV.sl 1 bx 0 n].getD j .any⟩;refine c8.app29 (v:=.sl 1 bx 0 n) I om (by simp[eO]) (bQ ⟨_,_,_,rfl,cp,rfl,fun h=>hxb _ h rfl⟩) ?_
 intro bc S3 w y _;generalize z:tB n p piv (fun j=>gY n H p (fun k=>v k) j*inv%p) (fun i=>if i=piv then((v i:Nat):Int)+p*t else v i)=M
 have hcols:bG S3 bc 29 1 (n+1) (fun j=>.sl 1 (if j=n then bx else gl j) 0 n):=by
  rcases w.2 with⟨h,_⟩|⟨c,_,e,h⟩
  .omega
  .cases e
   exact h.congr fun j _=>by by_cases e:j=n<;>simp[e]
 have hcol:∀c,c<n+1->bG S3 (if c=n then bx else gl c) 2 1 n (fun i=>.int .i64 (M i c)):=fun c hc=>by
  have via:∀{b:Nat} {g:Nat->AV},bG S2 b 2 1 n g->bG S3 b 2 1 n g:=fun {b g} h=>by
   have n41:b≠b41:=bG.fresh h N;have nbl':b≠bl:=(bG.ne D.outer h dc).symm
   obtain⟨g',k,k2⟩:=h;exact⟨g',y b _ (by rw[aO n41];exact k) (fun hb=>nbl' (eH.1 hb)),k2⟩
  by_cases e:c=n
  .subst e;rw[ah rfl];refine(via hx2).congr fun i F=>?_;rw[<-z];unfold tB;simp only[cT,aM]
  .rw[af e];refine(via (D.row c om)).congr fun i F=>?_;rw[<-z];unfold tB;rw[ah om]
 have hE03:fM S S3:=w.1;have hq16:∀j,j<n->0<=gY n H p (fun k=>v k) j*inv%p/\gY n H p (fun k=>v k) j*inv%p<=16:=fun j _=>by
  have a:=aT (gY n H p (fun k=>v k) j*inv) (show(p:Int)≠0 by omega)
  have b:=aP (gY n H p (fun k=>v k) j*inv) (show(0:Int)<p by omega)
  omega
 have hpt:0<=(p:Int)*t/\(p:Int)*t<=272:=by
  have:=da (show(p:Int)<=17 by omega) (om:t<=16) K om
  exact⟨dr om K,om⟩
 have hP:nv n (fq n M):=by
  rw[<-z];refine KZ h1 hn om om f hq16 (fun i F hne=>?_) ?_
  .rw[af hne];have:=hL.lt i F;omega
  .rw[ah rfl];have:=hL.lt piv f;omega
 have hMb:∀i j,i<n->j<n+1->-9223372036854775808<=M i j/\M i j<=9223372036854775807:=fun i j F hj=>by
  have:=hP.hent i j om hj;unfold fq at this;rw[ah F]at this;unfold nb at this;omega
 clear P I w y D hx2 Y;simp -dsimp only[go_sem]
 repeat refine an ?_
 refine aG.intro fun br fr=>?_;simp only[go_sem];refine dA (fun O S=>∃(i:Nat) (g:Nat->Nat),i<=n/\O 11=.sl 1 bc 0 (n+1)/\O 12=.sl 1 br 0 n/\O 47=.int .i64 n/\O 48=.int .i64 i/\fM S3 S /\
  bG S br 29 1 n (fun a=>if a<i then .sl 1 (g a) 0 (n+1)else .nil)/\(∀a,a<i->bG S (g a) 2 1 (n+1) (fun c=>.int .i64 (M a c)))/\∀a c,a<i->c<i->g a=g c->a=c) (fun O S=>n-co (O 48)) ?_ ?_
 .simp only[go_sem];exact⟨0,om,rfl,(fM.refl S3).upd fr _,fun _=>0,bG.here fun _ _=>by simp,fun a m=>om,fun a c m=>om⟩
 rintro Q' hQ' O S4 ⟨i,g,F,o,q,s,u,l,Q,J,hI⟩;by_cases A:i<n
 .simp only[go_sem,o,s,u,A];refine dA (fun O S'=>∃(j:Nat) (x:AV),j<=n+1/\O 11=.sl 1 bc 0 (n+1)/\O 12=.sl 1 br 0 n/\O 13=.int .i64 i/\O 47=.int .i64 n/\O 48=.int .i64 i/\O 51=.sl 1 bc 0 (n+1)/\O 52=.int .i64 ((n+1:Nat):Int)/\O 53=.int .i64 j/\fM S3 S' /\
   bG S' br 29 1 n (fun a=>if a<i then .sl 1 (g a) 0 (n+1)else if a=i then x else .nil)/\(∀a,a<i->bG S' (g a) 2 1 (n+1) (fun c=>.int .i64 (M a c))/\¬eC x (g a))/\c8 2 1 S3 S' x j (fun c=>.int .i64 (M i c))) (fun O S=>n+1-co (O 53)) ?_ ?_
  .simp only[go_sem,o,q,s,u];exact⟨0,om,rfl,l,.nil,Q.congr fun a _=>by grind,fun a m=>⟨J a m,by rintro⟨_,_,_,e⟩;cases e⟩,c8.nil l _⟩
  clear Q J l o q s u;rintro Q'' hQ'' O S' ⟨j,x,hj,o,q,e13,s,u,e51,e52,e53,l,Q,J,hX⟩;by_cases E:j<n+1
  .obtain⟨gc,uc,vc⟩:=id (l.has hcols);obtain⟨gd,ud,vd⟩:=id (l.has (hcol j E));obtain⟨g1,u1,v1⟩:=id Q;have xc:gc j=.sl 1 (if j=n then bx else gl j) 0 n:=vc j E
   have xd:gd i=.int .i64 (M i j):=vd i A;have x1:g1 i=x:=by rw[v1 i A];simp
   simp -dsimp only[go_sem,aa,e51,e52,e53,E,uc,xc];refine ie 11 kr ?_
   simp -dsimp only[go_sem,aa,q,e13,A,ud,xd,u1,x1];refine c8.app2 hX om (show eO 1 (.int .i64 (M i j)) by simp[eO]) (bW ⟨_,rfl,rfl⟩) ?_
   intro c S7 T hk1 y;have hxr:=hX.other u1 om;have u1':=hk1 br _ u1 hxr;simp only[*,go_sem,aa,aS (om:j<1000000),co]
   have hrS:S3 br=ab:=fr;refine⟨⟨j+1,om,rfl,T.1.upd hrS _,.sl 1 c 0 (j+1),bG.here fun a m=>?_,fun a m=>?_,?_⟩,om⟩
   .have:=v1 a m;grind [bR]
   .obtain⟨r1,r2⟩:=J a m;have hgr:g a≠br:=bG.ne r1 (bG.of u1) om;refine⟨(r1.via fun X hX=>hk1 _ _ hX r2).upd hgr _,fun hb=>?_⟩;rw[eH]at hb;rw[<-hb]at y;rcases y with h|h
    .exact r2 h
    .exact bG.fresh r1 h rfl
   .refine(T.upd hrS (fun d V e=>?_) _).congr (fun a m=>by grind)
    rw[e]at V;exact T.other u1' om V
  .simp only[go_sem,aa,e51,e52,e53,E];rw[hQ''];simp only[go_sem,o,q,s,u,aS (om:i<1000000),co]
   obtain rfl:j=n+1:=om
   rcases hX.2 with⟨h0,_⟩|⟨c,_,rfl,hC⟩
   .omega
   refine⟨⟨i+1,om,rfl,l,fun a=>if a=i then c else g a,Q.congr fun a m=>by grind,fun a m=>?_,fun a d m V e=>?_⟩,om⟩
   .by_cases e:a=i
    .subst e;simp only[aK];exact hC
    .simp only[e,aM];exact(J a om).1
   .have k1:=fun a m=>(J a m).2;simp only[eH]at k1
    grind
 have hin:i=n:=om
 rw[hin]at Q J hI;have hIM:dZ S4 br g n (n+1) M:=⟨Q.congr fun a m=>by rw[ah m],J,hI⟩
 simp only[go_sem,o,s,u,A];rw[hQ'];simp -dsimp only[go_sem,aa,q];refine(po n (n+1) M h1 om om om hMb _ _ (fH.one hIM.vr.va)).mono ?_;rintro _ S5 ⟨bm,gm,rfl,hM5⟩;simp -dsimp only[go_sem,aa];have hbb:=yN 31 om n om;refine(EC n (F8 n) M hP (by unfold F8;omega) (fun R H' U hT=>?_) S5 _ (fH.one hM5.1.vr.va)).mono ?_
 .obtain⟨a,b,_,_⟩:=hT.herm hP (fun r c h1 _ h3=>by unfold fq;rw[af om])
  exact⟨a,b⟩
 rintro _ S6 ⟨b,gB,B,rfl,hB,hM6,hE6,_⟩;simp only[go_sem];refine⟨b,rfl,gB,B,⟨piv,t,inv,f,K,ht1,hnm,hinv.symm,by rw[hw];exact C,by rw[z];exact hP,by rw[z];exact hB⟩,hM6,((hE03.trans l).trans hM5.2.1).trans hE6⟩

theorem Cu{v:Nat->Int}:∀{n:Nat},iq v n=1->∃k,k<n/\v k=1
 | 0,h=>by simp[iq]at h
 | n+1,h=>by
  simp only[iq]at h;split at h
  .exact⟨n,om,h⟩
  .obtain⟨k,b,a⟩:=Cu h;exact⟨k,om,a⟩

end Go.Proofs.YtdobfmlmenaajaaGreatDoor
