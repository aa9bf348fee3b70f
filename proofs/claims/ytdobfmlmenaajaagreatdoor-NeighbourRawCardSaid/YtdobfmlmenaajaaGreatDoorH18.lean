/-
  Lemmas for NeighbourRaw.
-/
import Derived.Test.YtdobfmlmenaajaaGreatDoorH17
namespace Go.Proofs.YtdobfmlmenaajaaGreatDoor
open Go.RowKit Tryz
open _root_.Int renaming gcd→mN
set_option maxHeartbeats 6400000
set_option maxRecDepth 4096
set_option linter.all false
attribute [local go_sem] Nat.reduceAdd Nat.reduceEqDiff Nat.reduceLeDiff Nat.reduceLT reduceCtorEq Int.ofNat_lt decide_true decide_false Int.zero_le_ofNat
attribute [local go_sem ↓] reduceIte
variable{x y:AV}{a b c q z:Int}{l r:List AV}{E d es i j k k0 m n p:Nat}{g':Nat->AV}{f:Nat->Int}{g σ:Nat->Nat}{A:Nat->Nat->Int}{S S0:St}{Q R:aI}
theorem oO{k:Nat}:∀(m:Nat) (M:aI),m<=16->(∀a b,a<m->b<m->nb (M a b) k)->nb (det m M) (m*(k+10)+1)
 | 0,M,_,_=>by simp only[det];exact nb.one om
 | m+1,M,l,h=>by
  simp only[det];have d:∀j,j<m+1->nb (xq j*M 0 j*det m (cut M j)) (k+(m*(k+10)+1)):=by
   intro j e;have f:=oO m (cut M j) om (fun a b n g=>h _ _ om (yv g));have c:=(h 0 j om e).mul f;unfold nb at c ⊢;have:(xq j*M 0 j*det m (cut M j)).natAbs=(M 0 j*det m (cut M j)).natAbs:=by
    unfold xq;split
    .rw[fA]
    .rw[jn];simp
   rw[this];exact c
  have i:=Dx d om (m+1) (ae _);refine i.mono ?_;rw[cW];omega
def mh{b:Nat}{X Y:eS}:(S.upd b X).upd b Y=S.upd b Y:=by
 funext k;simp only[St.upd];split<;>rfl
def dH.upd{b:Nat}(h:dH S b g n m A){c:Nat}(d:b≠c)(e:∀i,i<n->g i≠c)(X:eS):dH (S.upd c X) b g n m A :=
 ⟨h.outer.upd d X,fun i a=>(h.row i a).upd (e i a) X,h.inj⟩
def dH.swap{b:Nat}(h:dH S b g n m A){p k:Nat}(v:p<n)(w:k<n)(r:p≠k){f:Nat->AV}(l:S b=some ⟨59,1,n,f⟩) :
  dH (S.upd b ⟨59,1,n,bW (bW f p (.sl 2 (g k) 0 m)) k (.sl 2 (g p) 0 m)⟩) b (fun i=>g (dO k p i)) n m (fun i j=>A (dO k p i) j):=by
 obtain⟨g',o,s⟩:=h.outer;rw[l]at o;cases o;have c:∀i,i<n->dO k p i<n:=fun i a=>by unfold dO;split<;>(try split)<;>omega
 refine⟨bM.here fun i a=>?_,fun i a=>(h.row _ (c i a)).upd (fun e=>?_) _,fun i j a t e=>?_⟩
 .have:=s i a;simp only[bW,dO];by_cases d:i=k
  .subst d;simp
  .by_cases q:i=p
   .subst q;simp[d]
   .simp[d,q,this]
 .exact bM.ne (bM.of l) (h.row _ (c i a)) om e.symm
 .have u:=h.inj _ _ (c i a) (c j t) e;unfold dO at u
  grind
def jJ{A:aI}{neg:Bool}(e:n<=16)(c:∀i j,i<n->j<n->nb (A i j) k0)(d:od A n σ neg k){i j:Nat}(f:k+i<n)(g:k+j<n):nb (cQ (fun a b=>A (σ a) b) k i j) (17*(k0+10)):=by
 refine(oO (k+1) _ om (fun a b h l=>c _ _ (d.row _ ?_) ?_)).mono ?_
 .rw[qG];split<;>omega
 .rw[qG];split<;>omega
 .have:(k+1)*(k0+10)<=16*(k0+10):=aB _ om;omega
def BN(A:aI)(n b b2 b5:Nat)(S:St)(k:Nat)(neg:Bool)(Q:(Nat->Nat)->(Nat->Nat->Int)->Prop):Prop:=∃(g σ:Nat->Nat) (B:Nat->Nat->Int),od A n σ neg k/\dH S b g n n B/\(∀i,i<n->g i≠b2/\g i≠b5)/\ed S b2 50 2 (.big 0)/\ed S b5 50 2 (.big (det k (fun a c=>A (σ a) c)))/\Q σ B
def Og(A:aI)(n k:Nat)(σ:Nat->Nat)(B:Nat->Nat->Int):Prop:=∀i j,k<=i->i<n->k<=j->j<n->B i j=cQ (fun a c=>A (σ a) c) k (i-k) (j-k)
def StgP(A:aI)(n k p:Nat)(σ:Nat->Nat)(B:Nat->Nat->Int):Prop:=Og A n k σ B/\∀i,k<=i->i<p->B i k=0
def IL(A:aI)(n k i j:Nat)(σ:Nat->Nat)(B:Nat->Nat->Int):Prop:=cQ (fun a c=>A (σ a) c) k 0 0≠0/\∀a c,k<=a->a<n->k<=c->c<n->B a c=if k<a/\k<c/\(a<i∨(a=i/\c<j))then cQ (fun a c=>A (σ a) c) (k+1) (a-(k+1)) (c-(k+1))else cQ (fun a c=>A (σ a) c) k (a-k) (c-k)
def jA(n:Nat)(A:aI)(E:Nat)(h1:1<=n)(M:n<=16)(N:∀i j,i<n->j<n->nb (A i j) E)(hk:E<=10000000):PF 26 [aR n n A] (.big (det n A)):=by
 refine iH func26 ntmps26 results26 ?_;simp -dsimp only[go_sem];refine aF.intro fun y f2=>?_;simp -dsimp only[go_sem];refine(yT n n A E om h1 om N om _ _ (cS _ _)).mono ?_;rintro r S1 ⟨b,g0,rfl,H⟩;simp -dsimp only[go_sem];refine(gJ dc dc).call ?_
 simp -dsimp only[go_sem];refine aF.intro fun z f5=>?_;simp only[go_sem];have hb2:y≠b:=fun e=>by have:=H.2.2.1;rw[<-e,cn]at this;cases this
 have hg2:∀i,i<n->g0 i≠y:=fun i h e=>by have:=H.2.2.2 i h;rw[e,cn]at this;cases this
 have Y:y≠z:=fun e=>by have:=H.2.1 y _ cn;rw[e,f5]at this;cases this
 have Q:b≠z:=bM.fresh H.1.outer f5;have hg5:∀i,i<n->g0 i≠z:=fun i h=>bM.fresh (H.1.row i h) f5;refine aH (fun O S=>∃(k:Nat) (neg:Bool),k<=n/\O 2=.ptr 2 y 0/\O 3=.sl 1 b 0 n/\O 4=.int .i64 n/\O 5=.ptr 2 z 0/\O 6=.bool neg/\O 7=.int .i64 k/\BN A n b y z S k neg (Og A n k)) (fun O S=>n-cj (O 7)) ?_ ?_
 .simp only[go_sem];refine⟨0,om,false,rfl,rfl,g0,id,A,od.init A n,(H.1.upd Q hg5 _).upd Q hg5 _,fun i h=>⟨hg2 i h,hg5 i h⟩,?_,ed.set,fun i j _ _ _ _=>by rw[iz];rfl⟩
  exact(ed.upd ⟨_,H.2.1 y _ cn,rfl⟩ Y _).upd Y _
 .rintro O S ⟨k,neg,hkn,s,I,F,J,G,C,x⟩;by_cases d:k<n
  .simp only[*,go_sem,aa];refine aH (fun O S=>∃p:Nat,k<=p/\p<=n/\O 2=.ptr 2 y 0/\O 3=.sl 1 b 0 n/\O 4=.int .i64 n/\O 5=.ptr 2 z 0/\O 6=.bool neg/\O 7=.int .i64 k/\O 8=.int .i64 p/\BN A n b y z S k neg (StgP A n k p)) (fun O S=>n-cj (O 8)) ?_ ?_
   .simp only[*,go_sem];obtain⟨g,σ,B,f,l,t,V2,V5,m⟩:=x;exact⟨k,om,om,rfl,g,σ,B,f,l,t,V2,V5,m,fun i h1 M=>om⟩
   .clear x;rintro O S ⟨p,hkp,hpn,s,I,F,J,G,C,e8,x⟩;by_cases Z:p<n
    .obtain⟨g,σ,B,f,l,t,V2,V5,m,hZ⟩:=x;obtain⟨g1,P,L⟩:=l.outer;obtain⟨g2,u2,v2⟩:=l.row p Z;have v1':=L p Z;have v2':=v2 k d;have hbp:=jJ M N f (i:=p-k) (j:=0) om om;have D:=m p k hkp Z (ae _) d;rw[ct]at D;rw[<-D]at hbp;simp -dsimp only[go_sem,aa,I,F,C,e8,Z,d,P,u2,v1',v2'];refine(jR hbp om).call ?_;by_cases h0:B p k=0
     .simp -dsimp only[go_sem,aa,s,I,F,J,G,C,e8,Z,h0,sK,aP (om:p<1000000),cj]
      refine⟨⟨p+1,om,om,rfl,g,σ,B,f,l,t,V2,V5,m,fun i h1 M=>?_⟩,om⟩
      by_cases e:i=p
      .rw[e];exact h0
      .exact hZ i h1 om
     .have hs0:((B p k).sign==0)=false:=by
       simp only[il,EG];rw[lS];exact h0
      have hpn':((p:Int)==n)=false:=by simp;omega
      simp -dsimp only[go_sem,aa,s,I,F,J,G,C,e8,Z,hs0,hpn'];by_cases R:k<p
      .obtain⟨g3,u3,X⟩:=l.row k d;have v3':=L k d;have v1'':g1 p=.sl 2 (g p) 0 n:=v1';have v3'':g1 k=.sl 2 (g k) 0 n:=v3';simp -dsimp only[go_sem,R];refine g9 13 kr ?_
       simp only[go_sem,aa,I,G,C,e8,Z,d,P,v1'',v3'',aP (om:k<1000000)]
       have T:BN A n b y z ((S.upd b ⟨59,1,n,bW g1 p (.sl 2 (g k) 0 n)⟩).upd b ⟨59,1,n,bW (bW g1 p (.sl 2 (g k) 0 n)) k (.sl 2 (g p) 0 n)⟩) k (!neg) (IL A n k (k+1) (k+1)):=by
        rw[mh];have hs:∀i,i<n->dO k p i<n:=fun i h=>by unfold dO;split<;>(try split)<;>omega
        refine⟨_,fun a=>σ (dO k p a),_,f.swap R Z,l.swap Z d om P,fun i h=>t _ (hs i h),V2.upd hb2 _,?_,?_,fun a c v o u q=>?_⟩
        .have e:=zC (n:=k) (fun a c=>A (σ a) c) (i:=k) (k:=p) om om;rw[e];exact V5.upd (aj Q) _
        .have e:=yu (k:=k) (p:=p) (fun a c=>A (σ a) c) hkp 0 0;rw[e,show dO 0 (p-k) 0=p-k by simp[dO],<-D];exact h0
        .rw[af om];have e:=yu (k:=k) (p:=p) (fun a c=>A (σ a) c) hkp (a-k) (c-k);show B (dO k p a) c=_;rw[e,m (dO k p a) c (by unfold dO;split<;>(try split)<;>omega) (hs a o) u q]
         congr 1;unfold dO;split<;>(try split)<;>(try split)<;>(try split)<;>omega
       refine aH (fun O S=>∃i:Nat,k+1<=i/\i<=n/\O 2=.ptr 2 y 0/\O 3=.sl 1 b 0 n/\O 4=.int .i64 n/\O 5=.ptr 2 z 0/\O 6=.bool (!neg)/\O 7=.int .i64 k/\O 9=.int .i64 i/\BN A n b y z S k (!neg) (IL A n k i (k+1))) (fun O S=>n-cj (O 9)) ?_ ?_
       .simp only[*,go_sem];exact⟨k+1,om,om,rfl,T⟩
       .clear T s I F J G C e8 P u2 L v2 v1' v2' l V2 V5 t f;rintro O S ⟨i,hki,hin,s,I,F,J,G,C,e9,x⟩;by_cases h:i<n
        .simp only[*,go_sem,aa,aP (om:k<1000000)]
         refine aH (fun O S=>∃j:Nat,k+1<=j/\j<=n/\O 2=.ptr 2 y 0/\O 3=.sl 1 b 0 n/\O 4=.int .i64 n/\O 5=.ptr 2 z 0/\O 6=.bool (!neg)/\O 7=.int .i64 k/\O 9=.int .i64 i/\O 10=.int .i64 j/\BN A n b y z S k (!neg) (IL A n k i j)) (fun O S=>n-cj (O 10)) ?_ ?_
         .simp only[*,go_sem];exact⟨k+1,om,om,rfl,x⟩
         .clear x;rintro O S ⟨j,hkj,hjn,s,I,F,J,G,C,e9,e10,x⟩;by_cases U:j<n
          .obtain⟨g,σ,B,f,l,t,V2,V5,w,m⟩:=x;obtain⟨g1,P,L⟩:=l.outer;obtain⟨g2,u2,v2⟩:=l.row i h;obtain⟨g3,u3,X⟩:=l.row k d;have w1:=L i h;have w2:=L k d;have w3:=v2 j U;have w4:=v2 k d;have w5:=X j U;have w6:=X k d;obtain⟨gw,uw,vw⟩:=V5;have c1:=m i j om h om U;have c2:=m i k om h (ae _) d;have c3:=m k j (ae _) d om U;have K:=m k k (ae _) d (ae _) d;rw[af om]at c1 c2 c3 K;rw[ct]at c2 c3 K;have n1:=jJ M N f (i:=i-k) (j:=j-k) om om;have n2:=jJ M N f (i:=i-k) (j:=0) om om;have n3:=jJ M N f (i:=0) (j:=j-k) om om;have n4:=jJ M N f (i:=0) (j:=0) om om;rw[<-c1]at n1;rw[<-c2]at n2;rw[<-c3]at n3;rw[<-K]at n4;have n5:nb (det k (fun a c=>A (σ a) c)) (17*(E+10)):=(oO k _ om (fun a c ha hc=>N _ _ (f.row a om) om)).mono (by have:k*(E+10)<=16*(E+10):=aB _ om;omega)
           have V:=ju f.lead (i-k-1) (j-k-1);rw[(om:i-k-1+1=i-k),(om:j-k-1+1=j-k),<-c1,<-c2,<-c3,<-K]at V
           have W:=f.lead k (ae _);have hq:(B k k*B i j-B i k*B k j)/det k (fun a c=>A (σ a) c)=cQ (fun a c=>A (σ a) c) (k+1) (i-k-1) (j-k-1):=by
            rw[V,dh _ W]
           simp -dsimp only[*,go_sem,aa];refine bE 39 kr ?_
           simp only[go_sem,aa,s,I,F,J,G,C,e9,e10,h,U,d,P,u2,u3,w1,w2,w3,w4,w5,w6,uw,vw];refine⟨_,(ja n4 n1 om).pure',_,(ja n2 n3 om).pure',_,(tL (n4.mul n1) (n2.mul n3) om).pure',_,(oi (k:=17*(E+10)+17*(E+10)+1) ((n4.mul n1).sub (n2.mul n3)) (n5.mono om) om W).pure',?_⟩;simp only[go_sem,aP (om:j<1000000),cj]
           rw[hq];refine⟨⟨j+1,om,om,rfl,g,σ,_,f,l.set h u2,t,ed.upd V2 (aj (t i h).1) _,ed.upd ⟨gw,uw,vw⟩ (aj (t i h).2) _,w,fun a c v o u q=>?_⟩,om⟩
           have h3:=m a c v o u q;simp only[fu];by_cases e1:a=i/\c=j
           .obtain⟨rfl,rfl⟩:=e1;rw[ai ⟨rfl,rfl⟩,ai om,r8,r8]
           .rw[af e1,h3];by_cases s:k<a/\k<c/\(a<i∨a=i/\c<j)
            .rw[ai s,ai om]
            .rw[af s,af om]
          .obtain rfl:j=n:=om
           obtain⟨g,σ,B,f,l,t,V2,V5,w,m⟩:=x;simp only[*,go_sem,aa,aP (om:i<1000000),cj]
           refine⟨⟨i+1,om,om,rfl,g,σ,B,f,l,t,V2,V5,w,fun a c v o u q=>?_⟩,om⟩
           rw[m a c v o u q];by_cases s:k<a/\k<c/\(a<i∨a=i/\c<j)
           .rw[ai s,ai om]
           .rw[af s,af om]
        .obtain rfl:i=n:=om
         obtain⟨g,σ,B,f,l,t,V2,V5,w,m⟩:=x;obtain⟨g1,P,L⟩:=l.outer;obtain⟨g3,u3,X⟩:=l.row k d;have w2:=L k d;have w6:=X k d;obtain⟨gw,uw,vw⟩:=V5;have K:=m k k (ae _) d (ae _) d;rw[af om,ct,df]at K;simp only[go_sem,aa,s,I,F,J,G,C,e9,h,d,P,u3,w2,w6,uw,aP (om:k<1000000),cj]
         refine⟨⟨k+1,om,(!neg),rfl,rfl,g,σ,B,f.step w,l.upd Q (fun i h=>(t i h).2) _,t,V2.upd Y _,?_,fun a c v o u q=>?_⟩,om⟩
         .rw[<-K];exact ed.set
         .rw[m a c om o om q,ai om]
      .obtain rfl:k=p:=om
       simp only[go_sem,aP (om:k<1000000),R]
       have T:BN A n b y z S k neg (IL A n k (k+1) (k+1)):=by
        refine⟨g,σ,B,f,l,t,V2,V5,?_,fun a c v o u q=>?_⟩
        .rw[ct]at D;rw[<-D];exact h0
        .rw[af om];exact m a c v o u q
       refine aH (fun O S=>∃i:Nat,k+1<=i/\i<=n/\O 2=.ptr 2 y 0/\O 3=.sl 1 b 0 n/\O 4=.int .i64 n/\O 5=.ptr 2 z 0/\O 6=.bool neg/\O 7=.int .i64 k/\O 9=.int .i64 i/\BN A n b y z S k neg (IL A n k i (k+1))) (fun O S=>n-cj (O 9)) ?_ ?_
       .simp only[*,go_sem];exact⟨k+1,om,om,rfl,T⟩
       .clear T s I F J G C e8 P u2 L v2 v1' v2' l V2 V5 t f;rintro O S ⟨i,hki,hin,s,I,F,J,G,C,e9,x⟩;by_cases h:i<n
        .simp only[*,go_sem,aa,aP (om:k<1000000)]
         refine aH (fun O S=>∃j:Nat,k+1<=j/\j<=n/\O 2=.ptr 2 y 0/\O 3=.sl 1 b 0 n/\O 4=.int .i64 n/\O 5=.ptr 2 z 0/\O 6=.bool neg/\O 7=.int .i64 k/\O 9=.int .i64 i/\O 10=.int .i64 j/\BN A n b y z S k neg (IL A n k i j)) (fun O S=>n-cj (O 10)) ?_ ?_
         .simp only[*,go_sem];exact⟨k+1,om,om,rfl,x⟩
         .clear x;rintro O S ⟨j,hkj,hjn,s,I,F,J,G,C,e9,e10,x⟩;by_cases U:j<n
          .obtain⟨g,σ,B,f,l,t,V2,V5,w,m⟩:=x;obtain⟨g1,P,L⟩:=l.outer;obtain⟨g2,u2,v2⟩:=l.row i h;obtain⟨g3,u3,X⟩:=l.row k d;have w1:=L i h;have w2:=L k d;have w3:=v2 j U;have w4:=v2 k d;have w5:=X j U;have w6:=X k d;obtain⟨gw,uw,vw⟩:=V5;have c1:=m i j om h om U;have c2:=m i k om h (ae _) d;have c3:=m k j (ae _) d om U;have K:=m k k (ae _) d (ae _) d;rw[af om]at c1 c2 c3 K;rw[ct]at c2 c3 K;have n1:=jJ M N f (i:=i-k) (j:=j-k) om om;have n2:=jJ M N f (i:=i-k) (j:=0) om om;have n3:=jJ M N f (i:=0) (j:=j-k) om om;have n4:=jJ M N f (i:=0) (j:=0) om om;rw[<-c1]at n1;rw[<-c2]at n2;rw[<-c3]at n3;rw[<-K]at n4;have n5:nb (det k (fun a c=>A (σ a) c)) (17*(E+10)):=(oO k _ om (fun a c ha hc=>N _ _ (f.row a om) om)).mono (by have:k*(E+10)<=16*(E+10):=aB _ om;omega)
           have V:=ju f.lead (i-k-1) (j-k-1);rw[(om:i-k-1+1=i-k),(om:j-k-1+1=j-k),<-c1,<-c2,<-c3,<-K]at V
           have W:=f.lead k (ae _);have hq:(B k k*B i j-B i k*B k j)/det k (fun a c=>A (σ a) c)=cQ (fun a c=>A (σ a) c) (k+1) (i-k-1) (j-k-1):=by
            rw[V,dh _ W]
           simp -dsimp only[*,go_sem,aa];refine bE 39 kr ?_
           simp only[go_sem,aa,s,I,F,J,G,C,e9,e10,h,U,d,P,u2,u3,w1,w2,w3,w4,w5,w6,uw,vw];refine⟨_,(ja n4 n1 om).pure',_,(ja n2 n3 om).pure',_,(tL (n4.mul n1) (n2.mul n3) om).pure',_,(oi (k:=17*(E+10)+17*(E+10)+1) ((n4.mul n1).sub (n2.mul n3)) (n5.mono om) om W).pure',?_⟩;simp only[go_sem,aP (om:j<1000000),cj]
           rw[hq];refine⟨⟨j+1,om,om,rfl,g,σ,_,f,l.set h u2,t,ed.upd V2 (aj (t i h).1) _,ed.upd ⟨gw,uw,vw⟩ (aj (t i h).2) _,w,fun a c v o u q=>?_⟩,om⟩
           have h3:=m a c v o u q;simp only[fu];by_cases e1:a=i/\c=j
           .obtain⟨rfl,rfl⟩:=e1;rw[ai ⟨rfl,rfl⟩,ai om,r8,r8]
           .rw[af e1,h3];by_cases s:k<a/\k<c/\(a<i∨a=i/\c<j)
            .rw[ai s,ai om]
            .rw[af s,af om]
          .obtain rfl:j=n:=om
           obtain⟨g,σ,B,f,l,t,V2,V5,w,m⟩:=x;simp only[*,go_sem,aa,aP (om:i<1000000),cj]
           refine⟨⟨i+1,om,om,rfl,g,σ,B,f,l,t,V2,V5,w,fun a c v o u q=>?_⟩,om⟩
           rw[m a c v o u q];by_cases s:k<a/\k<c/\(a<i∨a=i/\c<j)
           .rw[ai s,ai om]
           .rw[af s,af om]
        .obtain rfl:i=n:=om
         obtain⟨g,σ,B,f,l,t,V2,V5,w,m⟩:=x;obtain⟨g1,P,L⟩:=l.outer;obtain⟨g3,u3,X⟩:=l.row k d;have w2:=L k d;have w6:=X k d;obtain⟨gw,uw,vw⟩:=V5;have K:=m k k (ae _) d (ae _) d;rw[af om,ct,df]at K;simp only[go_sem,aa,s,I,F,J,G,C,e9,h,d,P,u3,w2,w6,uw,aP (om:k<1000000),cj]
         refine⟨⟨k+1,om,neg,rfl,rfl,g,σ,B,f.step w,l.upd Q (fun i h=>(t i h).2) _,t,V2.upd Y _,?_,fun a c v o u q=>?_⟩,om⟩
         .rw[<-K];exact ed.set
         .rw[m a c om o om q,ai om]
    .obtain rfl:p=n:=om
     have hpn':((p:Int)==p)=true:=by simp
     obtain⟨g,σ,B,f,l,t,V2,V5,m,hZ⟩:=x;obtain⟨gv,uv,vv⟩:=V2;simp only[*,go_sem,aa];have hz:det p A=0:=f.zero d (fun i h=>by
      have h3:=m (k+i) k om om (ae _) d;rw[hZ (k+i) om om,ct,(om:k+i-k=i)]at h3
      exact h3.symm)
     rw[hz];exact VR.mf rfl
  .obtain rfl:k=n:=om
   obtain⟨g,σ,B,f,l,t,V2,V5,m⟩:=x;obtain⟨gv,uv,vv⟩:=V2;obtain⟨gw,uw,vw⟩:=V5;have hs:=f.sign;have hbd:nb (det k (fun a c=>A (σ a) c)) (17*(E+10)):=(oO k _ M (fun a c ha hc=>N _ _ (f.row a ha) hc)).mono (by have:k*(E+10)<=16*(E+10):=aB _ M;omega)
   cases neg
   .simp only[bJ,aS]at hs;simp only[go_sem,aa,s,F,J,G,C,d,uv,uw,vw,bW];rw[<-hs];exact VR.mf rfl
   .simp only[aQ]at hs;simp -dsimp only[go_sem,aa,s,F,J,G,C,d,uv,uw,vw];refine(yx hbd om).call ?_;simp only[go_sem,aa,s,uv,vw,bW];rw[hs,IW];exact VR.mf rfl

def da.vr{e:Nat}{g:Nat->AV}(h:da e es S0 S x j g)(a:∀i,i<j->VR S (g i) (g' i)):VR S x (.lst es j g'):=by
 rcases h.2 with⟨rfl,rfl⟩|⟨c,_,rfl,b⟩
 .exact VR.nil
 .exact VR.sl b om (fun i d=>by rw[aD];exact a i d)
def fst(k m i:Nat):Nat:=if i<k then i else m
def FN(k m:Nat)(s:k<=1000)(t:m<=1000):PF 173 [.int .i64 k,.int .i64 m] (aK (k+1) (fun i=>(fst k m i:Nat))):=by
 refine iH func173 ntmps173 results173 ?_;simp only[go_sem];refine aH (fun O S=>∃(i:Nat) (x:AV),i<=k/\O 0=.int .i64 k/\O 1=.int .i64 m/\O 5=x/\O 6=.int .i64 i/\da 3 1 St.none S x i (fun a=>.int .i64 a)) (fun O S=>k-cj (O 6)) ?_ ?_
 .simp only[go_sem];exact⟨0,om,rfl,da.nil (ft.noneS _) _⟩
 .rintro O S ⟨i,x,u,v,w,y,z,f⟩;by_cases o:i<k
  .simp -dsimp only[*,go_sem];refine aF.intro fun p g=>?_;simp -dsimp only[*,go_sem];have b:=f.fresh g;refine da.app3 (f.upd (by rfl) b _) om (show eF 1 (.int .i64 (i:Int)) by simp[eF]) (bH ⟨_,_,_,rfl,cn,rfl,fun h=>b _ h rfl⟩) ?_
   intro c S2 d j l;simp only[*,go_sem,aP (om:i<1000000),cj]
   exact⟨⟨i+1,om,rfl,d.congr fun a q=>by grind⟩,om⟩
  .obtain rfl:i=k:=om
   simp -dsimp only[*,go_sem];refine aF.intro fun r n=>?_;simp -dsimp only[*,go_sem];have b:=f.fresh n;refine da.app3 (f.upd (by rfl) b _) om (show eF 1 (.int .i64 (m:Int)) by simp[eF]) (bH ⟨_,_,_,rfl,cn,rfl,fun h=>b _ h rfl⟩) ?_
   intro c S2 d j l;simp only[*,go_sem];refine d.vr (fun a q=>?_);have:(if a=i then AV.int .i64 (m:Int)else .int .i64 (a:Int))=.int .i64 ((fst i m a:Nat):Int):=by
    unfold fst;by_cases e:a=i
    .subst e;simp
    .rw[af e,ai om]
   rw[this];exact VR.mf rfl
def JZ(A:aI)(k i j:Nat):det (k+1) (fun a b=>A (fst k (k+i) a) (fst k (k+j) b))=cQ A k i j:=by
 unfold cQ;exact cD fun a b _ _=>rfl
def sX(n:Nat)(A:aI)(f:Nat)(p:1<=n)(q:n<=16)(r:∀i j,i<n->j<n->nb (A i j) f)(s:f<=10000000):PF 118 [aR n n A] (.tup [bB n (fun k=>det (k+1) A),.bool true]):=by
 refine iH func118 ntmps118 results118 ?_;simp -dsimp only[go_sem,aa];refine(pj n A p q).call ?_;simp only[go_sem];refine aH (fun O S=>∃(i:Nat) (x:AV),i<=n/\O 0=aR n n A/\O 4=.int .i64 n/\O 6=x/\O 7=.int .i64 i/\da 50 2 St.none S x i (fun a=>.big (det (a+1) A))) (fun O S=>n-cj (O 7)) ?_ ?_
 .simp only[go_sem];exact⟨0,om,rfl,da.nil (ft.noneS _) _⟩
 .rintro O S ⟨i,x,B,C,D,E,F,g⟩;by_cases t:i<n
  .have e:∀a,a<i+1->fst i i a<n:=fun a l=>by unfold fst;split<;>omega
   simp -dsimp only[*,go_sem,aa];refine(FN i i om om).call ?_;simp -dsimp only[*,go_sem,aa];refine(FN i i om om).call ?_;simp -dsimp only[*,go_sem,aa];refine(CN n n (i+1) (i+1) A (fst i i) (fst i i) om om om om e e).pf.call ?_;simp -dsimp only[*,go_sem,aa];refine(jA (i+1) _ f om om (fun a b l u=>r _ _ (e a l) (e b u)) s).call ?_;simp -dsimp only[*,go_sem];refine aF.intro fun v m=>?_;simp -dsimp only[*,go_sem];have d:=g.fresh m;have w:det (i+1) (fun a b=>A (fst i i a) (fst i i b))=det (i+1) A:=by
    have:=JZ A i 0 0;rw[cF,df]at this;exact this
   refine da.app50 (g.upd (by rfl) d _) om (show eF 2 (.big (det (i+1) A))from trivial) (bH ⟨_,_,_,rfl,cn,by rw[w];rfl,fun h=>d _ h rfl⟩) ?_
   intro c S2 o y z;simp only[*,go_sem,aP (om:i<1000000),cj]
   exact⟨⟨i+1,om,rfl,o.congr fun a l=>by grind⟩,om⟩
  .obtain rfl:i=n:=om
   simp only[*,go_sem,aa];exact VR.tup2 (g.vr fun a _=>VR.mf rfl) (VR.mf rfl)
def rV(a:Int):lG a a=0:=by unfold lG;simp
def tI(n:Nat)(A:aI)(e:Nat)(r:n<=16)(f:∀i j,i<n->j<n->nb (A i j) e)(s:e<=10000000)(l:∀a b,a<n->b<n->A a b=A b a):PF 116 [aR n n A] (.bool true):=by
 refine iH func116 ntmps116 results116 ?_;simp only[go_sem,aR,bB];refine aH (fun O S=>∃i:Nat,i<=n/\O 0=aR n n A/\O 6=.int .i64 n/\O 7=.int .i64 i) (fun O S=>n-cj (O 7)) ?_ ?_
 .simp only[go_sem,aR,bB];exact⟨0,om,rfl⟩
 .rintro O S ⟨i,t,g,h,k⟩;by_cases c:i<n
  .simp only[*,go_sem,aR,bB];refine aH (fun O S=>∃j:Nat,j<=i/\O 0=aR n n A/\O 3=.int .i64 i/\O 4=.int .i64 j/\O 6=.int .i64 n/\O 7=.int .i64 i) (fun O S=>i-cj (O 4)) ?_ ?_
   .simp only[*,go_sem,aR,bB];exact⟨0,om,rfl⟩
   .rintro O S ⟨j,u,g,m,o,h,k⟩;by_cases p:j<i
    .have d:j<n:=om
     simp -dsimp only[*,go_sem,aR,bB];refine bE 16 kr ?_
     simp only[go_sem,aa,aR,bB,g,m,o,h,k,c,d];have q:lG (A i j) (A j i)=0:=by rw[l i j c d];exact rV _
     refine⟨_,(ni (f i j c d) (f j i d c) om).pure',?_⟩;rw[q];simp only[go_sem,aP (om:j<1000000),cj]
     exact⟨⟨j+1,om,rfl⟩,om⟩
    .simp only[*,go_sem,aR,bB,aP (om:i<1000000),cj]
     exact⟨⟨i+1,om,rfl⟩,om⟩
  .simp only[*,go_sem,aR,bB];exact VR.mf rfl

def VR.agg(h:∀x∈l,pI x=true):VR S (.agg l) (.agg l):=by
 intro w v d a;simp only[bs]at a ⊢;obtain⟨vs,b,c⟩:=a;exact⟨vs,b,DE l vs h c⟩
def rN(a b:Int):Int:=a/(mN a b:Int)
def rD(a b:Int):Int:=b/(mN a b:Int)
def ua(h:0<b):0<(mN a b:Int):=by
 have:=Int.gcd_pos_of_ne_zero_right a (om:b≠0);omega
def MS:(mN a b:Int)*rN a b=a:=iL (Int.gcd_dvd_left ..)
def Hk:(mN a b:Int)*rD a b=b:=iL (Int.gcd_dvd_right ..)
def pT(h:0<b):0<rD a b:=by
 have c:=Hk (a:=a) (b:=b);exact zR (ua (a:=a) h) (by rw[c];exact h)
def Js:rN a b*b=a*rD a b:=by
 have c:=MS (a:=a) (b:=b);have d:=Hk (a:=a) (b:=b);have e:(mN a b:Int)*(rN a b*rD a b)=a*rD a b:=by rw[<-jn,c]
 have f:(mN a b:Int)*(rN a b*rD a b)=rN a b*b:=by rw[UV,d]
 rw[<-e,f]
def sA{g x y:Int}(h:g*x=y)(a:0<g):x.natAbs<=y.natAbs:=by
 rw[<-h,cJ];exact Nat.le_mul_of_pos_left _ om
def zM(h:0<b)(c:nb a k):nb (rN a b) k:=nb.of_le (sA MS (ua h)) c
def zN(h:0<b)(c:nb b k):nb (rD a b) k:=nb.of_le (sA Hk (ua h)) c
def oB{d:Int}(e:0<b)(f:0<d)(h:a*d=c*b):a/b=c/d:=by
 rw[<-Ke a b f,h,cX b d,Ke c d e]
def Cf(h:0<a):a.sign=1:=dl h
def Ok(f:nb a k)(c:nb b k)(l:k<=500000000)(d:0<b):PF 254 [.big a,.big b] (.tup [.agg [.big (rN a b),.big (rD a b)],.bool true]):=by
 refine iH func254 ntmps254 results254 ?_;have i:=ua (a:=a) d;have g:nb (mN a b:Int) k:=nb.of_le (by have:=Int.gcd_le_natAbs_right a (om:b≠0);simp;exact this) c
 try simp -dsimp only[go_sem]
 refine aF.intro fun m n=>?_
 try simp -dsimp only[go_sem]
 refine aF.intro fun o j=>?_;have n3_2:=(ag j).1
 try simp -dsimp only[go_sem]
 refine aF.intro fun p h=>?_;have n4_3:=(ag h).1;have n4_2:=(ag (ag h).2).1;simp -dsimp only[go_sem,aa,aj n4_3];refine(jR c om).call ?_;rw[Cf d];simp -dsimp only[go_sem,aa,aj n4_3,show((1:Int)==0)=false from rfl];refine(jR c om).call ?_;rw[Cf d];simp -dsimp only[go_sem,aa,aj n3_2,aj n4_2,aj n4_3,show ¬((1:Int)<0) by decide]
 refine(Pp f c om).call ?_;simp -dsimp only[go_sem];refine aF.intro fun q e=>?_;have n6_4:=(ag e).1;have n6_3:=(ag (ag e).2).1;have n6_2:=(ag (ag (ag e).2).2).1;simp -dsimp only[go_sem,aa];refine bE 7 kr ?_
 simp only[go_sem,aa,aj n3_2,aj n4_2,aj n4_3,aj n6_2,aj n6_3,aj n6_4,bW];refine⟨_,(oi f g om om).pure',_,(oi c g om om).pure',?_⟩;simp only[go_sem,iW,eA,bn,bS,cB,cM,bO,bG,fq,ct];exact VR.tup2 (VR.agg (by simp[pI])) (VR.mf rfl)
def nv(d:nb a k)(e:nb b k)(f:k<=500000000)(g:0<b):PF 220 [.agg [.big a,.big b]] (.agg [.big (rN a b),.big (rD a b)]):=by
 refine iH func220 ntmps220 results220 ?_;simp -dsimp only[go_sem,bn,bS,cB,cM];refine aF.intro fun i j=>?_
 try simp -dsimp only[go_sem]
 refine aF.intro fun l h=>?_;have n2_1:=(ag h).1;simp -dsimp only[go_sem,aa,aj n2_1,bO,bG];refine(Ok d e f g).call ?_;simp -dsimp only[go_sem,bO,bG];refine aF.intro fun m c=>?_;have n3_2:=(ag c).1;have n3_1:=(ag (ag c).2).1;simp only[go_sem,aa,aj n3_2,iW,eA,bn,bS,cB,cM,bO,bG,fq,ct];exact VR.agg (by simp[pI])
def Rd:PF 219 [] (.agg [.big 1,.big 2]):=by
 refine iH func219 ntmps219 results219 ?_
 try simp -dsimp only[go_sem]
 refine aF.intro fun a b=>?_;simp -dsimp only[go_sem,aa];refine(gJ dc dc).call ?_
 simp -dsimp only[go_sem,aa];refine(gJ dc dc).call ?_
 simp only[go_sem,aa,iW,eA,bn,bS,cB,cM,bO,bG,fq,ct];exact VR.agg (by simp[pI])
def Ov(d:nb a k)(e:nb b k)(g:k<=500000000)(c:0<b):PF 217 [.agg [.big a,.big b]] (.big (a/b)):=by
 refine iH func217 ntmps217 results217 ?_;simp -dsimp only[go_sem,bn,bS,cB,cM];refine aF.intro fun j l=>?_
 try simp -dsimp only[go_sem]
 refine aF.intro fun m h=>?_;have n2_1:=(ag h).1;simp -dsimp only[go_sem,aa,aj n2_1,eA,bO,bG];refine(nv d e g c).call ?_;simp -dsimp only[go_sem];refine aF.intro fun n f=>?_;have n3_2:=(ag f).1;have n3_1:=(ag (ag f).2).1;simp -dsimp only[go_sem,aa,iW,eA,bn,bS,cB,cM,bO,bG,fq,ct];have i:=pT (a:=a) c;refine(oi (zM c d) (zN c e) om om).call ?_;simp only[go_sem,aa,aj n3_2,bW,iW,bO,bG,fq,ct];rw[oB i c Js];exact VR.mf rfl
def Gs(d:nb a k)(e:nb b k)(f:k<=500000000)(g:0<b):PF 170 [.big a,.big b] (.agg [.big (rN a b),.big (rD a b)]):=by
 refine iH func170 ntmps170 results170 ?_
 try simp -dsimp only[go_sem]
 refine aF.intro fun i j=>?_
 try simp -dsimp only[go_sem]
 refine aF.intro fun l h=>?_;have n3_2:=(ag h).1
 try simp -dsimp only[go_sem]
 refine aF.intro fun m c=>?_;have n4_3:=(ag c).1;have n4_2:=(ag (ag c).2).1;simp -dsimp only[go_sem,aa,aj n3_2,aj n4_2,aj n4_3];refine(nv d e f g).call ?_;simp only[go_sem,aa,iW,eA,bn,bS,cB,cM,bO,bG,fq,ct];exact VR.agg (by simp[pI])
def T1{d:Int}(o:nb a k)(p:nb b k)(q:nb c k)(r:nb d k)(w:k<=100000000)(h:0<b)(i:0<d) :
  PF 218 [.agg [.big a,.big b],.agg [.big c,.big d]] (.agg [.big (rN (rN a b*rD c d+rN c d*rD a b) (rD a b*rD c d)),.big (rD (rN a b*rD c d+rN c d*rD a b) (rD a b*rD c d))]):=by
 refine iH func218 ntmps218 results218 ?_;have t:=pT (a:=a) h;have u:=pT (a:=c) i;have l:=zM h o;have e:=zN (a:=a) h p;have m:=zM i q;have f:=zN (a:=c) i r;simp -dsimp only[go_sem,bn,bS,cB,cM];refine aF.intro fun x y=>?_
 try simp -dsimp only[go_sem]
 refine aF.intro fun z v=>?_;have n3_2:=(ag v).1
 try simp -dsimp only[go_sem]
 refine aF.intro fun A s=>?_;have n4_3:=(ag s).1;have n4_2:=(ag (ag s).2).1;simp -dsimp only[go_sem];refine bE 6 kr ?_
 simp -dsimp only[go_sem,aa,aj n3_2,aj n4_2,aj n4_3,eA,bO,bG];refine⟨_,(nv o p om h).pure',_,(nv q r om i).pure',?_⟩;refine aF.intro fun B n=>?_;have n5_4:=(ag n).1;have n5_3:=(ag (ag n).2).1;have n5_2:=(ag (ag (ag n).2).2).1
 try simp -dsimp only[go_sem]
 refine aF.intro fun C j=>?_;have n6_5:=(ag j).1;have n6_4:=(ag (ag j).2).1;have n6_3:=(ag (ag (ag j).2).2).1;have n6_2:=(ag (ag (ag (ag j).2).2).2).1;simp -dsimp only[go_sem,nn n6_5,bn,bS,cB,cM];refine pB 21 [[19]] kr ?_
 simp -dsimp only[go_sem,aa,aj n6_5,iW,eA,bn,bS,cB,cM,bO,bG,fq,ct];refine⟨_,(ja l f om).pure',_,(ja m e om).pure',_,(tP (l.mul f) (m.mul e) om).pure',_,(ja e f om).pure',_,(Ok (k:=k+k+1) ((l.mul f).add (m.mul e)) ((e.mul f).mono om) om (o0 t u)).pure',?_⟩;simp -dsimp only[go_sem];refine aF.intro fun D g=>?_;have n7_6:=(ag g).1;have n7_5:=(ag (ag g).2).1;have n7_4:=(ag (ag (ag g).2).2).1;have n7_3:=(ag (ag (ag (ag g).2).2).2).1;have n7_2:=(ag (ag (ag (ag (ag g).2).2).2).2).1;simp only[go_sem,aj n5_4,aj n6_4,aj n7_2,iW,bn,bS,cB,cM,bO,bG,fq,ct];exact VR.agg (by simp[pI])
def PI(c:0<b):(rN a b*rD 1 2+rN 1 2*rD a b)/(rD a b*rD 1 2)=(2*a+b)/(2*b):=by
 have d:rN 1 2=1:=by decide
 have e:rD 1 2=2:=by decide
 have f:=pT (a:=a) c;have g:=Js (a:=a) (b:=b);rw[d,e];refine oB om om ?_
 grind
def IR(e:nb a k)(f:nb b k)(t:k<=10000000)(l:4<=k)(d:0<b):PF 169 [.agg [.big a,.big b]] (.big ((2*a+b)/(2*b))):=by
 refine iH func169 ntmps169 results169 ?_;have g:nb 1 k:=nb.one om;have h:nb 2 k:=dF (by decide:2<2^2) (cp om om)
 have m:=pT (a:=a) d;have n:0<rD 1 2:=by decide
 have o:=zM d e;have i:=zN (a:=a) d f;have p:nb (rN 1 2) k:=zM dc g
 have j:nb (rD 1 2) k:=zN dc h
 have q:=((o.mul j).add (p.mul i));have r:=((i.mul j).mono (om:k+k<=k+k+1))
 have c:=o0 m n;simp -dsimp only[go_sem,bn,bS,cB,cM];refine aF.intro fun u v=>?_
 try simp -dsimp only[go_sem]
 refine aF.intro fun w s=>?_;have n2_1:=(ag s).1;simp -dsimp only[go_sem];refine bE 4 kr ?_
 simp only[go_sem,aa,aj n2_1,bW,eA,bO,bG];refine⟨_,Rd.pure',_,(T1 e f g h om d dc).pure',_,(Ov (k:=k+k+1) (zM c q) (zN c r) om (pT c)).pure',?_⟩
 simp only[go_sem];rw[oB (pT c) c Js,PI d];exact VR.mf rfl

def fI.cons(h:VA S x y)(a:fI S l r):fI S (x::l) (y::r):=⟨h,a⟩
def da.blk{e:Nat}{g:Nat->AV}(h:da e es S0 S x j g){d:Nat}(f:eh x d):∃X,S d=some X:=by
 obtain⟨_,_,_,a⟩:=f;rcases h.2 with⟨_,b⟩|⟨c,_,b,g',i,_⟩
 .rw[b]at a;cases a
 .rw[b]at a;cases a;exact⟨_,i⟩
def da.keep{e:Nat}{S':St}{g:Nat->AV}(h:da e es S0 S y j g)(c:ft S0 S')(f:∀d X,S d=some X->¬eh x d->S' d=some X)(i:∀d,eh y d->¬eh x d):da e es S0 S' y j g :=
 h.step c (fun d a=>by obtain⟨X,b⟩:=h.blk a;rw[b];exact f d X b (i d a))
def wR(n i j:Nat)(A:aI)(W:Nat)(h1:j<=i)(h2:i<n)(h3:n<=16)(hA:∀i j,i<n->j<n->nb (A i j) W)(hk:W<=10000000):PF 171 [aR n n A,.int .i64 i,.int .i64 j] (.big (kK A i j)):=by
 refine iH func171 ntmps171 results171 ?_
 try simp -dsimp only[go_sem]
 refine aF.intro fun D f6=>?_;simp only[go_sem];refine aH (fun O S=>∃(a:Nat) (x y:AV),a<=j/\O 0=aR n n A/\O 1=.int .i64 i/\O 2=.int .i64 j/\O 6=.ptr 2 D 0/\O 7=x/\O 8=y/\O 9=.int .i64 a/\ed S D 50 2 (.big 0)/\da 3 1 St.none S x a (fun a=>.int .i64 a)/\da 3 1 St.none S y a (fun a=>.int .i64 a)/\∀d,eh x d->¬eh y d) (fun O S=>j-cj (O 9)) ?_ ?_
 .simp only[go_sem];exact⟨0,om,rfl,ed.new rfl,da.nil (ft.noneS _) _,da.nil (ft.noneS _) _,fun d h=>by obtain⟨_,_,_,e⟩:=h;cases e⟩
 .rintro O S ⟨a,x,y,Z,e0,e1,e2,e6,e7,e8,e9,V6,P,H,E⟩;obtain⟨g6,N,v6⟩:=V6;have Q:=P.other N om;have R:=H.other N om;by_cases hlt:a<j
  .simp -dsimp only[*,go_sem];refine aF.intro fun I f=>?_;simp -dsimp only[*,go_sem];have r:=P.fresh f;have s:=H.fresh f;have t:D≠I:=fun e=>by rw[<-e,N]at f;cases f
   refine da.app3 (P.upd (by rfl) r _) om (show eF 1 (.int .i64 (a:Int)) by simp[eF]) (bH ⟨_,_,_,rfl,cn,rfl,fun h=>r _ h rfl⟩) ?_
   intro c S2 o u J;have v:=u D _ (by rw[aO t];exact N) Q
   have w:da 3 1 St.none S2 y a (fun a=>.int .i64 a):=(H.upd (by rfl) s _).keep (ft.noneS _) u (fun d l b=>E d b l)
   have F:¬eh y c:=by
    intro G;rcases J with h|h
    .exact E c h G
    .obtain⟨X,z⟩:=H.blk G;rw[aO (s c G),z]at h;cases h
   simp -dsimp only[*,go_sem];refine aF.intro fun K g=>?_;simp -dsimp only[*,go_sem];have m:=o.fresh g;have k:=w.fresh g;have B:D≠K:=fun e=>by rw[<-e,v]at g;cases g
   refine da.app3 (w.upd (by rfl) k _) om (show eF 1 (.int .i64 (a:Int)) by simp[eF]) (bH ⟨_,_,_,rfl,cn,rfl,fun h=>k _ h rfl⟩) ?_
   intro c2 S3 L C T;have U:=C D _ (by rw[aO B];exact v) R
   have M:=(o.upd (by rfl) m _).keep (ft.noneS _) C (fun d l b=>by rw[ep]at l;rw[l]at b;exact F b)
   simp only[*,go_sem,aP (om:a<1000000),cj]
   refine⟨⟨a+1,om,rfl,⟨g6,U,v6⟩,M.congr fun a Z=>by grind,L.congr fun a Z=>by grind,fun d l b=>?_⟩,om⟩
   rw[ep]at l b;subst l;subst b;rcases T with h|h
   .exact F h
   .obtain⟨X,z⟩:=o.blk (ep.2 rfl);rw[aO (m _ (ep.2 rfl)),z]at h;cases h
  .obtain rfl:a=j:=om
   simp -dsimp only[*,go_sem];refine aF.intro fun I f=>?_;simp -dsimp only[*,go_sem];have r:=P.fresh f;have s:=H.fresh f;have t:D≠I:=fun e=>by rw[<-e,N]at f;cases f
   refine da.app3 (P.upd (by rfl) r _) om (show eF 1 (.int .i64 (i:Int)) by simp[eF]) (bH ⟨_,_,_,rfl,cn,rfl,fun h=>r _ h rfl⟩) ?_
   intro c S2 o u J;have v:=u D _ (by rw[aO t];exact N) Q
   have w:da 3 1 St.none S2 y a (fun a=>.int .i64 a):=(H.upd (by rfl) s _).keep (ft.noneS _) u (fun d l b=>E d b l)
   have F:¬eh y c:=by
    intro G;rcases J with h|h
    .exact E c h G
    .obtain⟨X,z⟩:=H.blk G;rw[aO (s c G),z]at h;cases h
   simp -dsimp only[*,go_sem];refine aF.intro fun K g=>?_;simp -dsimp only[*,go_sem];have m:=o.fresh g;have k:=w.fresh g;have B:D≠K:=fun e=>by rw[<-e,v]at g;cases g
   refine da.app3 (w.upd (by rfl) k _) om (show eF 1 (.int .i64 (a:Int)) by simp[eF]) (bH ⟨_,_,_,rfl,cn,rfl,fun h=>k _ h rfl⟩) ?_
   intro c2 S3 L C T;have U:=C D _ (by rw[aO B];exact v) R
   have M:=(o.upd (by rfl) m _).keep (ft.noneS _) C (fun d l b=>by rw[ep]at l;rw[l]at b;exact F b)
   simp -dsimp only[*,go_sem,aa];have hF:∀c,c<a+1->fst a i c<n:=fun c G=>by unfold fst;split<;>omega
   have V:∀c,c<a+1->fst a a c<n:=fun c G=>by unfold fst;split<;>omega
   have vx:VR S3 (.sl 1 c 0 (a+1)) (aK (a+1) (fun q=>(fst a i q:Nat))):=M.vr (fun q Y=>by
    have:(if q=a then AV.int .i64 (i:Int)else .int .i64 (q:Int))=.int .i64 ((fst a i q:Nat):Int):=by
     unfold fst;by_cases e:q=a
     .subst e;simp
     .rw[af e,ai om]
    rw[this];exact VR.mf rfl)
   have vy:VR S3 (.sl 1 c2 0 (a+1)) (aK (a+1) (fun q=>(fst a a q:Nat))):=L.vr (fun q Y=>by
    have:(if q=a then AV.int .i64 (a:Int)else .int .i64 (q:Int))=.int .i64 ((fst a a q:Nat):Int):=by
     unfold fst;by_cases e:q=a
     .subst e;simp
     .rw[af e,ai om]
    rw[this];exact VR.mf rfl)
   refine(CN n n (a+1) (a+1) A (fst a i) (fst a a) om om om om hF V).pf.spec (fI.same (fI.cons vx.va (fI.cons vy.va fI.nil))) ?_;simp -dsimp only[*,go_sem,aa];refine(jA (a+1) _ W om om (fun p q hp Y=>hA _ _ (hF p hp) (V q Y)) hk).call ?_;simp only[*,go_sem,aa,bW];have l:=JZ A a (i-a) 0;simp only[(om:a+(i-a)=i),cF]at l
   rw[l];exact VR.mf rfl
def po(n k:Nat)(A:aI)(b:n<=16)(c:k<=n):PF 172 [bB n (fun k=>det (k+1) A),.int .i64 k] (.big (det k A)):=by
 refine iH func172 ntmps172 results172 ?_
 try simp -dsimp only[go_sem]
 refine aF.intro fun d e=>?_;by_cases a:k=0
 .subst a;simp -dsimp only[go_sem,aa,show((0:Nat):Int)=0 from rfl,dp];refine(gJ dc dc).call ?_
  simp only[go_sem,aa,bW];exact VR.mf rfl
 .obtain⟨m,rfl⟩:∃m,k=m+1:=⟨k-1,om⟩
  have f:(((m+1:Nat):Int)==0)=false:=by simp;omega
  have g:IntKind.i64.wrap (((m+1:Nat):Int)-1)=(m:Nat):=dW om om;simp only[*,go_sem,aa,bB,(om:m<n),bW]
  exact VR.mf rfl
def D0:decide (lG a b<=0)=decide (a<=b):=by
 unfold lG;rcases fF a b with h|h|h
 .rw[ai h];simp;omega
 .subst h;simp
 .rw[af om,ai h];simp;omega
def Qx:decide (0<=lG a b)=decide (b<=a):=by
 unfold lG;rcases fF a b with h|h|h
 .rw[ai h];simp;omega
 .subst h;simp
 .rw[af om,ai h];simp;omega
def ou{A:aI}(d:n<=16)(c:∀i j,i<n->j<n->nb (A i j) k0)(e:k<=n):nb (det k A) (17*(k0+10)) :=
 (oO k A om (fun a b f g=>c a b om om)).mono (by have:k*(k0+10)<=16*(k0+10):=aB _ om;omega)
def Hz{A:aI}(d:n<=16)(c:∀i j,i<n->j<n->nb (A i j) k0)(e:j<=i)(f:i<n):nb (kK A i j) (17*(k0+10)):=by
 unfold kK;refine(oO (j+1) _ om (fun a b g h=>c _ _ ?_ ?_)).mono (by have:(j+1)*(k0+10)<=16*(k0+10):=aB _ om;omega)
 .rw[qG];split<;>omega
 .rw[qG];split<;>omega
def Gq(n i j:Nat)(A:aI)(a:Nat)(f:j<i)(g:i<n)(d:n<=16)(e:∀i j,i<n->j<n->nb (A i j) a)(l:a<=10000000):PF 119 [aR n n A,bB n (fun k=>det (k+1) A),.int .i64 i,.int .i64 j] (.bool (decide (2*((kK A i j).natAbs:Int)<=det (j+1) A))):=by
 refine iH func119 ntmps119 results119 ?_;have h:=Hz d e (dB f) g;have b:nb ((kK A i j).natAbs:Int) (17*(a+10)):=nb.of_le sm h
 have m:=ou (k:=j+1) d e om;have c:nb 2 (17*(a+10)):=dF (by decide:2<2^2) (cp om om)
 simp -dsimp only[go_sem,aa];refine(gJ dc dc).call ?_
 simp -dsimp only[go_sem,aa];refine(wR n i j A a (dB f) g d e l).call ?_;simp -dsimp only[go_sem,aa];refine(tQ h om).call ?_;simp -dsimp only[go_sem,aa];refine(ja c b om).call ?_;simp -dsimp only[go_sem,aa,aP (om:j<1000000)]
 refine(po n (j+1) A d om).call ?_;simp -dsimp only[go_sem,aa];refine(ni (c.mul b) (m.mono om) om).call ?_;simp only[go_sem,D0];exact VR.mf rfl
def Cc(n:Nat)(A:aI)(a:Nat)(d:1<=n)(b:n<=16)(c:∀i j,i<n->j<n->nb (A i j) a)(e:a<=10000000):PF 57 [aR n n A] (.bool (decide (det n A<=10000))):=by
 refine iH func57 ntmps57 results57 ?_;have f:=ou (k:=n) b c (ae _);have g:nb 10000 (17*(a+10)):=dF (by decide:10000<2^14) (cp om om)
 simp -dsimp only[go_sem,aa];refine(jA n A a d b c e).call ?_;simp -dsimp only[go_sem,aa];refine(gJ dc dc).call ?_
 simp -dsimp only[go_sem,aa];refine(ni f g om).call ?_;simp only[go_sem,D0];exact VR.mf rfl
def vf(n:Nat)(A T:aI)(k:Nat)(a:1<=n)(c:n<=16)(h:∀i j,i<n->j<n->nb (A i j) k)(f:∀i j,i<n->j<n->nb (T i j) k)(p:k<=100000000):MF 113 [aR n n A,aR n n T] n n (kg n (kg n (fun i j=>T j i) A) T):=by
 refine MF.of (i9 func113 ntmps113 results113 ?_);have m:∀i j,i<n->j<n->nb (kg n (fun i j=>T j i) A i j) (k+k+10):=fun i j d e=>Dx (fun q l=>(f q i l d).mul (h q j l e)) om n (ae _);simp -dsimp only[go_sem,aa];refine(nr n n T k a c a c f om).pf.call ?_;simp -dsimp only[go_sem,aa];refine(ku n n n (fun i j=>T j i) A k a c a c a c (fun i j d e=>f j i e d) h om).pf.call ?_;simp -dsimp only[go_sem,aa];refine(ku n n n _ T (k+k+10) a c a c a c m (fun i j d e=>(f i j d e).mono om) om _ _ (cS _ _)).mono ?_;rintro r S1 ⟨b,g,rfl,o⟩;simp only[go_sem];exact⟨b,rfl,g,o.1⟩

def Fz(h:z.natAbs<16)(a:4<=k):nb z k:=dF h (by have:=cp (n:=2) om a;omega)
def CR(n i:Nat)(A:aI)(b:Nat)(t:0<i)(l:i<n)(a:n<=16)(e:∀i j,i<n->j<n->nb (A i j) b)(r:b<=10000000):PF 120 [aR n n A,bB n (fun k=>det (k+1) A),.int .i64 i] (.bool (decide (3*(det i A*det i A)<=4*(det (i-1) A*det (i+1) A+kK A i (i-1)*kK A i (i-1))))):=by
 refine iH func120 ntmps120 results120 ?_;obtain⟨m,rfl⟩:∃m,i=m+1:=⟨i-1,om⟩
 rw[fK];have f:IntKind.i64.wrap (((m+1:Nat):Int)-1)=(m:Nat):=dW om om;have c:=Hz (i:=m+1) (j:=m) a e om l;have g:=ou (k:=m) a e om;have d:=ou (k:=m+1) a e om;have h:=ou (k:=m+1+1) a e om;have o:nb 4 (17*(b+10)+17*(b+10)+1):=Fz dc om
 have p:nb 3 (17*(b+10)+17*(b+10)):=Fz dc om
 have q:=(g.mul h).add (c.mul c);simp -dsimp only[go_sem,aa,f];refine(wR n (m+1) m A b om l a e r).call ?_;simp -dsimp only[go_sem];refine aF.intro fun u v=>?_;simp -dsimp only[go_sem,aa,f];refine bE 16 kr ?_
 simp -dsimp only[go_sem,aa,f,aP (om:m+1<1000000),bW]
 refine⟨_,(gJ dc dc).pure',_,(po n m A a om).pure',_,(po n (m+1+1) A a om).pure',_,(ja g h om).pure',_,(ja c c om).pure',_,(tP (g.mul h) (c.mul c) om).pure',_,(ja o q om).pure',?_⟩
 refine aF.intro fun w s=>?_;have n8_7:=(ag s).1;simp -dsimp only[go_sem];refine bE 13 kr ?_
 simp only[go_sem,aa,bW];refine⟨_,(gJ dc dc).pure',_,(po n (m+1) A a om).pure',_,(po n (m+1) A a om).pure',_,(ja d d om).pure',_,(ja p (d.mul d) om).pure',_,(ni (o.mul q) ((p.mul (d.mul d)).mono om) om).pure',?_⟩
 simp only[go_sem,Qx];exact VR.mf rfl
def Jp:decide (a.sign<=0)=decide (a<=0):=by
 rcases fF a 0 with h|h|h
 .rw[eP h];simp;omega
 .subst h;simp
 .rw[dl h];simp;omega
def GB(n:Nat)(A:aI)(c:Nat)(l:1<=n)(f:n<=16)(g:∀i j,i<n->j<n->nb (A i j) c)(d:c<=10000000)(m:∀a b,a<n->b<n->A a b=A b a)(β:Bool)(hβ:β=true↔∀k,k<=n->0<det k A):PF 117 [aR n n A] (.bool β):=by
 refine iH func117 ntmps117 results117 ?_;simp -dsimp only[go_sem,aa];refine(sX n A c l f g d).call ?_;simp -dsimp only[go_sem,aa,bB];refine(tI n A c f g d m).call ?_;simp only[go_sem];refine aH (fun O S=>∃i:Nat,i<=n/\O 19=bB n (fun k=>det (k+1) A)/\O 20=.int .i64 n/\O 21=.int .i64 i/\∀k,k<=i->0<det k A) (fun O S=>n-cj (O 21)) ?_ ?_
 .simp only[go_sem,bB];exact⟨0,om,rfl,fun k d=>by rw[(om:k=0)];simp[det]⟩
 .rintro O S ⟨i,t,o,p,q,h⟩;by_cases r:i<n
  .have s:=ou (k:=i+1) f g om;simp -dsimp only[*,go_sem,bB];refine aF.intro fun u v=>?_;simp -dsimp only[go_sem,aa,bW];refine(jR s om).call ?_;by_cases w:det (i+1) A<=0
   .simp only[*,go_sem,bB,Jp];have:β=false:=by
     cases β with
     | false=>rfl
     | true=>have:=hβ.1 rfl (i+1) om;omega
    rw[this];exact VR.mf rfl
   .simp only[*,go_sem,bB,Jp,aP (om:i<1000000),cj]
    refine⟨⟨i+1,om,rfl,fun k d=>?_⟩,om⟩
    by_cases e:k=i+1
    .rw[e];omega
    .exact h k om
  .obtain rfl:i=n:=om
   simp only[*,go_sem,bB];have:β=true:=hβ.2 h;rw[this];exact VR.mf rfl
def oG(n:Nat)(A:aI)(c:Nat)(d:1<=n)(h:n<=8)(e:∀i j,i<n->j<n->nb (A i j) c)(f:c<=10000000)(g:∀a b,a<n->b<n->A a b=A b a)(β:Bool)(hβ:β=true↔∀k,k<=n->0<det k A):PF 56 [aR n n A] (.int .i64 (if β then 0 else 5)):=by
 refine iH func56 ntmps56 U4 ?_;simp -dsimp only[go_sem,aa];refine(pj n A d om).call ?_;simp -dsimp only[go_sem,aa,(om:¬((8:Int)<n))]
 refine(tI n A c om e f g).call ?_;simp -dsimp only[go_sem,aa];refine(GB n A c d om e f g β hβ).call ?_
 cases β
 .simp only[go_sem];exact VR.mf rfl
 .simp only[go_sem];exact VR.mf rfl

inductive Ev where
 | size (i j:Nat)
 | swap (i:Nat)
 | done
def wU(A:aI)(n:Nat):Ev->Prop
 | .size i j=>j<i/\i<n/\jX A i/\(∀j',j<j'->j'<i->iF A i j')/\¬iF A i j
 | .swap i=>0<i/\i<n/\jX A i/\(∀j',j'<i->iF A i j')/\¬iC A i
 | .done=>jX A n
def kh(n:Nat):Ev->Nat
 | .size i _=>i
 | .swap i=>i
 | .done=>n
def JU(A:aI)(i j:Nat):Int:=- ((2*kK A i j+det (j+1) A)/(2*det (j+1) A))
def RG(A:aI):Ev->aI
 | .size i j=>fu kD j i (JU A i j)
 | .swap i=>fun a b=>kD (dO (i-1) i a) b
 | .done=>kD
def evV(n:Nat)(A:aI)(ev:Ev):AV:=match ev with
 | .done=>.tup [.nil,.bool false]
 | e=>.tup [aR n n (RG A e),.bool true]
def wU.ok{A:aI}{ev:Ev}(h:wU A n ev):jX A (kh n ev)/\kh n ev<=n:=by
 cases ev with
 | size i j=>exact⟨h.2.2.1,dB h.2.1⟩
 | swap i=>exact⟨h.2.2.1,dB h.2.1⟩
 | done=>exact⟨h,ae _⟩
def P3(A:aI)(n:Nat):∃ev,wU A n ev:=by
 have key:∀i,i<=n->jX A i∨∃ev,wU A n ev:=by
  intro i
  induction i with
  | zero=>intro _;exact bF ⟨fun r d=>om,fun r _ d=>om⟩
  | succ i ih =>
   intro m;rcases ih om with h|h
   .have row:∀t,t<=i->(∀j',i-t<=j'->j'<i->iF A i j')∨∃ev,wU A n ev:=by
     intro t
     induction t with
     | zero=>intro _;exact bF (fun j' a b=>om)
     | succ t iht =>
      intro o;rcases iht om with a|a
      .rcases iJ (iF A i (i-(t+1)))with b|b
       .refine bF (fun j' f g=>?_);by_cases e:j'=i-(t+1)
        .rw[e];exact b
        .exact a j' om g
       .exact bH ⟨.size i (i-(t+1)),om,om,h,fun j' f g=>a j' om g,b⟩
      .exact bH a
    rcases row i (ae _)with a|a
    .have k:∀j',j'<i->iF A i j':=fun j' c=>a j' om c;rcases a6 i with l|l
     .refine bF ⟨fun r d j c=>?_,fun r b d=>om⟩
      omega
     .rcases iJ (iC A i)with b|b
      .refine bF ⟨fun r d j c=>?_,fun r f d=>?_⟩
       .by_cases e:r=i
        .rw[e]at c ⊢;exact k j c
        .exact h.1 r om j c
       .by_cases e:r=i
        .rw[e];exact b
        .exact h.2 r f om
      .exact bH ⟨.swap i,l,om,h,k,b⟩
    .exact bH a
   .exact bH h
 rcases key n (ae _)with h|h
 .exact⟨.done,h⟩
 .exact h
def dH.swap'{b:Nat}(h:dH S b g n m A){p k:Nat}(d:p<n)(e:k<n)(a:p≠k){c:Nat->AV}(f:S b=some ⟨59,1,n,c⟩) :
  dH ((S.upd b ⟨59,1,n,bW c p (.sl 2 (g k) 0 m)⟩).upd b ⟨59,1,n,bW (bW c p (.sl 2 (g k) 0 m)) k (.sl 2 (g p) 0 m)⟩) b (fun i=>g (dO k p i)) n m (fun i j=>A (dO k p i) j):=by
 rw[mh];exact h.swap d e a f
def Dj(n:Nat)(A:aI)(s:Nat)(h1:1<=n)(h2:n<=8)(E:∀i j,i<n->j<n->nb (A i j) s)(hk:s<=500000)(G:∀k,k<=n->0<det k A)(ev:Ev)(t:wU A n ev):PF 112 [aR n n A] (evV n A ev):=by
 refine iH func112 ntmps112 results112 ?_;obtain⟨v,hrn⟩:=t.ok;simp -dsimp only[go_sem,aa];refine(sX n A s h1 om E om).call ?_;simp -dsimp only[go_sem,aa,aR];refine(rI n h1 om _ _ (cS _ _)).mono ?_;rintro r S1 ⟨b,g,rfl,H⟩;simp only[go_sem];refine aH (fun O S=>∃i:Nat,i<=kh n ev/\O 0=aR n n A/\O 4=bB n (fun k=>det (k+1) A)/\O 6=.sl 1 b 0 n/\O 22=.int .i64 n/\O 23=.int .i64 i/\S=S1) (fun O S=>n-cj (O 23)) ?_ ?_
 .simp only[go_sem,aR,bB];exact⟨0,om,rfl⟩
 .rintro O S ⟨i,hi,e0,e4,Q,I,J,rfl⟩;by_cases f:i<n
  .have hw:IntKind.i64.wrap ((i:Int)-1)=(i:Int)-1:=i64_in om om;simp only[*,go_sem];refine aH (fun O S'=>∃jj:Nat,jj<=i/\(∀j',jj<=j'->j'<i->iF A i j')/\(∀j,ev=.size i j->j<jj)/\O 0=aR n n A/\O 4=bB n (fun k=>det (k+1) A)/\O 6=.sl 1 b 0 n/\O 8=.int .i64 i/\O 9=.int .i64 ((jj:Int)-1)/\O 22=.int .i64 n/\O 23=.int .i64 i/\S'=S) (fun O S=>match O 9 with|.int _ z=>(z+1).toNat|_=>0) ?_ ?_
   .simp only[*,go_sem];refine⟨i,om,fun j' R F=>om,fun j K=>?_,rfl⟩
    subst K;exact t.1
   .rintro O S' ⟨jj,hjj,L,w,e0,e4,Q,e8,T,I,J,rfl⟩;rcases a6 jj with h0|h0
    .subst h0;have hall:∀j',j'<i->iF A i j':=fun j' K=>L j' om K;have M:∀j,ev≠.size i j:=fun j K=>by have:=w j K;omega
     have U:¬((0:Int)<=((0:Nat):Int)-1):=om
     rcases a6 i with u|u
     .subst u;have V:(0:Nat)≠kh n ev:=fun e=>by
       cases ev with
       | size a c=>have:=t.1;simp only[kh]at e;omega
       | swap a=>have:=t.1;simp only[kh]at e;omega
       | done=>simp only[kh]at e;omega
      simp -dsimp only[go_sem,aa,e0,e4,Q,e8,T,I,J,show((0:Nat):Int)=0 from rfl,OP,show IntKind.i64.wrap ((0:Int)+1)=1 from rfl,cj];refine⟨⟨1,om,rfl⟩,?_⟩
      simp;omega
     .have hi0':(0:Int)<(i:Int):=om
      simp -dsimp only[*,go_sem,aa];refine(CR n i A s u f om E om).call ?_;by_cases N:iC A i
      .have x:decide (3*(det i A*det i A)<=4*(det (i-1) A*det (i+1) A+kK A i (i-1)*kK A i (i-1)))=true:=by simpa [iC]using N
       rw[x];simp only[*,go_sem,aP (om:i<1000000),cj]
       have V:i≠kh n ev:=fun e=>by
        cases ev with
        | size a c=>simp only[kh]at e;subst e;exact M c rfl
        | swap a=>simp only[kh]at e;subst e;exact t.2.2.2.2 N
        | done=>simp only[kh]at e;omega
       exact⟨⟨i+1,om,rfl⟩,om⟩
      .have x:decide (3*(det i A*det i A)<=4*(det (i-1) A*det (i+1) A+kK A i (i-1)*kK A i (i-1)))=false:=by simpa [iC]using N
       rw[x];have o:ev=.swap i:=by
        have d:i=kh n ev:=by
         rcases aC i (kh n ev)with h|h
         .exact absurd (v.2 i u h) N
         .omega
        cases ev with
        | size a c=>simp only[kh]at d;subst d;exact absurd rfl (M c)
        | swap a=>simp only[kh]at d;rw[d]
        | done=>simp only[kh]at d;omega
       subst o;obtain⟨m,rfl⟩:∃m,i=m+1:=⟨i-1,om⟩
       have W:IntKind.i64.wrap (((m+1:Nat):Int)-1)=(m:Nat):=dW om om;have y:m<n:=om
       obtain⟨X,Y,P⟩:=H.1.outer;have w1:X (m+1)=.sl 2 (g (m+1)) 0 n:=P (m+1) f;have w2:X m=.sl 2 (g m) 0 n:=P m y;simp -dsimp only[*,go_sem];refine fH 15 [[2,3,4]] kr ?_
       simp only[go_sem,aa,Q,e8,f,W,Y,w1,w2,y];have Z:=H.1.swap' (p:=m+1) (k:=m) f y om Y;exact VR.tup2 (Z.vr) (VR.mf rfl)
    .obtain⟨j,rfl⟩:∃j,jj=j+1:=⟨jj-1,om⟩
     have e9':O 9=.int .i64 (j:Int):=by rw[T];congr 1;omega
     clear T;simp -dsimp only[*,go_sem,aa];refine(Gq n i j A s om f om E om).call ?_;by_cases B:iF A i j
     .have C:decide (2*((kK A i j).natAbs:Int)<=det (j+1) A)=true:=by simpa [iF]using B
      rw[C];have hw2:IntKind.i64.wrap ((j:Int)-1)=(j:Int)-1:=i64_in om om;simp only[*,go_sem];refine⟨⟨j,om,fun j' R F=>?_,fun c U=>?_,rfl⟩,om⟩
      .by_cases e:j'=j
       .rw[e];exact B
       .exact L j' om F
      .have R:=w c U;have F:c≠j:=fun e=>by
        subst e;subst U;exact t.2.2.2.2 B
       omega
     .have C:decide (2*((kK A i j).natAbs:Int)<=det (j+1) A)=false:=by simpa [iF]using B
      rw[C];have o:ev=.size i j:=by
       have d:i=kh n ev:=by
        rcases aC i (kh n ev)with h|h
        .exact absurd (v.1 i h j om) B
        .omega
       cases ev with
       | size a c =>
        simp only[kh]at d;subst d;have R:=w c rfl;rcases aC c j with F|F
        .exact absurd (t.2.2.2.1 j F om) B
        .rw[(om:c=j)]
       | swap a=>simp only[kh]at d;subst d;exact absurd (t.2.2.2.1 j om) B
       | done=>simp only[kh]at d;omega
      subst o;have D:j<n:=om
      have l:=Hz (n:=n) (i:=i) (j:=j) om E om f;have hd:=ou (k:=j+1) (n:=n) om E om;have q:=G (j+1) om;have hnear:(2*rN (kK A i j) (det (j+1) A)+rD (kK A i j) (det (j+1) A))/(2*rD (kK A i j) (det (j+1) A))=(2*kK A i j+det (j+1) A)/(2*det (j+1) A):=by
       have hp:=pT (a:=kK A i j) q;have hr:=Js (a:=kK A i j) (b:=det (j+1) A);refine oB om om ?_
       grind
      have hnq:nb ((2*kK A i j+det (j+1) A)/(2*det (j+1) A)) (17*(s+10)+1+1):=by
       have h5:nb (2*kK A i j) (17*(s+10)+1):=by
        have:2*kK A i j=kK A i j+kK A i j:=om
        rw[this];exact l.add l
       exact nb.of_le (jD ..) (h5.add (hd.mono om))
      obtain⟨X,Y,P⟩:=H.1.outer;obtain⟨g2,u2,v2⟩:=H.1.row j D;have w1:=P j D;simp -dsimp only[*,go_sem];refine bE 17 kr ?_
      simp only[*,go_sem,aa,aP (om:j<1000000)]
      refine⟨_,(wR n i j A s om f om E om).pure',_,(po n (j+1) A om om).pure',_,(Gs l hd om q).pure',_,(IR (k:=17*(s+10)) (zM q l) (zN q hd) om om (pT q)).pure',_,(yx (k:=17*(s+10)+1+1) (by rw[hnear];exact hnq) om).pure',?_⟩
      rw[hnear];simp only[go_sem];exact VR.tup2 ((H.1.set D u2).vr) (VR.mf rfl)
  .obtain rfl:i=n:=om
   simp only[*,go_sem]
   cases ev with
   | size a c=>have:=t.2.1;simp only[kh]at hi;omega
   | swap a=>have:=t.2.1;simp only[kh]at hi;omega
   | done=>exact VR.tup2 (VR.mf rfl) (VR.mf rfl)

inductive IN (Q:aI) (n:Nat):aI->aI->Prop where
 | done {R:aI}:wU (gT Q n R) n .done->IN Q n R R
 | size {R R':aI} {i j:Nat}:wU (gT Q n R) n (.size i j)->IN Q n (q9 R i j (-JU (gT Q n R) i j)) R'->IN Q n R R'
 | swap {R R':aI} {i:Nat}:wU (gT Q n R) n (.swap i)->IN Q n (fun a b=>R (dO (i-1) i a) b) R'->IN Q n R R'
def FO(A:aI)(i j:Nat):-JU A i j=sv (kK A i j) (det (j+1) A):=by
 unfold JU sv;rw[IW,(om:kK A i j+kK A i j+det (j+1) A=2*kK A i j+det (j+1) A),(om:det (j+1) A+det (j+1) A=2*det (j+1) A)]
def wP(E c n pl i:Nat):Nat:=E+c*(pl-i*(n+1))
def wP_le{c pl:Nat}(h:pl<=m):wP E c n pl i<=E+c*m:=by
 unfold wP;have:=aM c (om:pl-i*(n+1)<=m)
 omega
structure GL(Q:aI)(n d E:Nat)(R:aI):Prop where
 ls:LS Q n d (wP E (3*d+8) n (lT (gT Q n R) n)) R
 dn:det n (gT Q n R)=det n Q
def Qn{A:aI}(h:Pd A n)(a:i<n)(b:j<i):2*((kK A i j+JU A i j*det (j+1) A).natAbs:Int)<=det (j+1) A:=JG (h.pos (j+1) om)
def GL.add(h:GL Q n d E R)(s:∀a b,a<n->b<n->Q a b=Q b a)(v:n<=8)(B:d+3<=E)(w:wU (gT Q n R) n (.size i j)) :
  GL Q n d E (q9 R i j (-JU (gT Q n R) i j))/\wc (gT Q n (q9 R i j (-JU (gT Q n R) i j))) n<wc (gT Q n R) n:=by
 obtain⟨f,g,k,t,x⟩:=w;have l:gT Q n R j j<=2^(d+3):=h.ls.row v om (fun c m=>k.1 j f c m);have o:=KN (n:=n) f g k t x (Qn h.ls.pd g f);have y:i*(n+1)+(i-(j+1))<=lT (gT Q n R) n:=by
  refine wj (fun c m=>CE k (fun j' C z=>t j' om z) om g m) _ ?_;have:(i+1)*(n+1)<=n*(n+1):=aB _ g;rw[cW]at this;omega
 have p:gT Q n (q9 R i j (-JU (gT Q n R) i j))=mc (gT Q n R) i j (JU (gT Q n R) i j):=by rw[Ik s,IW]
 refine⟨⟨?_,?_⟩,?_⟩
 .have A:=h.ls.weak (w':=fun a=>if a=j then d+3 else wP E (3*d+8) n (lT (gT Q n R) n) a) (fun a q=>by
   try dsimp only
   by_cases e:a=j
   .subst e;rw[ai rfl];exact l
   .rw[af e];exact h.ls.dg a q)
  have r:=A.sub s f g (by(try dsimp only);rw[ai rfl];exact ae _)
  rw[<-FO]at r;refine r.weak fun a q=>gL (r.dg a q) (iT ?_);rw[p];generalize lT (gT Q n R) n=pl at *;generalize lT (mc (gT Q n R) i j (JU (gT Q n R) i j)) n=pl' at *
  try dsimp only
  by_cases e:a=i
  .subst e;rw[ai rfl,af om];unfold wP;have u:=aM (3*d+8) (om:pl-a*(n+1)+1<=pl'-a*(n+1))
   rw[cg]at u;omega
  .rw[af e];unfold wP;have u:=aM (3*d+8) (om:pl-a*(n+1)<=pl'-a*(n+1))
   split<;>omega
 .rw[p,kB f];exact h.dn
 .rw[p];exact Nf f o
def GL.swap(h:GL Q n d E R)(s:n<=8)(t:d+3<=E)(u:wU (gT Q n R) n (.swap i)) :
  GL Q n d E (fun a b=>R (dO (i-1) i a) b)/\wc (gT Q n (fun a b=>R (dO (i-1) i a) b)) n<wc (gT Q n R) n:=by
 obtain⟨f,g,v,w,m⟩:=u;have l:gT Q n (fun a b=>R (dO (i-1) i a) b)=EF (gT Q n R) i:=rfl;have x:lT (gT Q n R) n<=i*(n+1)+i:=by
  refine tb ?_ _;rw[F6 om];exact fun y=>m (y.2 rfl f)
 have j:∀a,a<n->gT Q n R a a<=2^E:=fun a o=>by
  rcases aC i a with p|p
  .refine gL (h.ls.dg a o) (iT ?_);unfold wP;have:(i+1)*(n+1)<=a*(n+1):=aB _ p;rw[cW]at this;rw[(om:lT (gT Q n R) n-a*(n+1)=0)]
   omega
  .refine gL (h.ls.row s o fun c r=>?_) (iT t);by_cases e:a=i
   .subst e;exact w c r
   .exact v.1 a om c r
 refine⟨⟨⟨?_,fun k q=>?_,?_,fun a o=>?_⟩,?_⟩,?_⟩
 .rw[l];exact h.ls.pd.swap f g
 .rw[l];by_cases e:k=i
  .subst e;have p:=B6 h.ls.pd f g m;have B:=h.ls.lead k q;have C:=(h.ls.pd.swap f g).pos k q;omega
  .rw[oh f e];exact h.ls.lead k q
 .have z:det n (vk (fun a b=>R (dO (i-1) i a) b))=- det n (vk R):=og (vk R) (n:=n) (i:=i-1) (k:=i) om g om;rw[z,pL];exact h.ls.uni
 .have A:dO (i-1) i a<n:=by unfold dO;split<;>(try split)<;>omega
  exact gL (j _ A) (iT (by unfold wP;omega))
 .rw[l,oh f om];exact h.dn
 .rw[l];exact KU h.ls.pd f g m
def Pm(q:∀a b,a<n->b<n->Q a b=Q b a)(l:n<=8)(o:d+3<=E):∀(m:Nat) (R:aI),GL Q n d E R->wc (gT Q n R) n<=m->∃R',IN Q n R R'/\GL Q n d E R'/\jX (gT Q n R') n:=by
 intro m
 induction m with
 | zero =>
  intro R h p;exfalso;have e:=h.ls.pd.pot_pos;unfold wc at p;have:0<Pv (gT Q n R) n*(n*(n+1)+1):=IS e om;omega
 | succ m ih =>
  intro R h p;obtain⟨ev,c⟩:=P3 (gT Q n R) n
  cases ev with
  | done=>exact⟨R,.done c,h,c⟩
  | size i j =>
   obtain⟨e,r⟩:=h.add q l o c;obtain⟨R',f,g,k⟩:=ih _ e om;exact⟨R',.size c f,g,k⟩
  | swap i =>
   obtain⟨e,r⟩:=h.swap l o c;obtain⟨R',f,g,k⟩:=ih _ e om;exact⟨R',.swap c f,g,k⟩
def GL.init{e:Nat}(f:Pd Q n)(b:1<=n)(c:∀i,i<n->Q i i<=2^e)(g:e*n<=d)(j:d<=E):GL Q n d E kD:=by
 have h:=(TO.init f b c g).ls;refine⟨h.weak fun i a=>?_,qc (ae n)⟩;rw[wl a a];refine gL (c i a) (iT ?_);have:=aM e b;unfold wP;omega
structure QF(n:Nat)(Q:aI):Prop where
 pd:Pd Q n
 one:1<=n
 five:n<=5
 ent:∀i j,i<n->j<n->(Q i j).natAbs<=246591576450
 dt:det n Q<=10000
def p2_38:(2:Int)^38=274877906944:=by decide
def QF.e(h:QF n Q):∀i,i<n->Q i i<=2^38:=fun i a=>by
 have:=h.ent i i a a;rw[p2_38];omega
def QF.init(h:QF n Q):GL Q n 190 193 kD:=GL.init h.pd h.one h.e (by have:=h.five;omega) om
def M0{A:aI}(a:n<=5):lT A n<=30:=by
 have b:=Fu A n;have c:n*(n+1)<=5*6:=a9 a om;omega
def GL.bits(h:GL Q n 190 193 R)(g:QF n Q):(∀i j,i<n->j<n->(gT Q n R i j).natAbs<2^17540)/\(∀i j,i<n->j<n->(R i j).natAbs<2^17740)/\∀i j,i<n->j<i->(JU (gT Q n R) i j).natAbs<2^17940:=by
 obtain⟨m,rfl⟩:∃m,n=m+1:=⟨n-1,by have:=g.one;omega⟩
 have r:=g.five;have k:∀i,wP 193 (3*190+8) (m+1) (lT (gT Q (m+1) R) (m+1)) i<=17533:=fun i=>wP_le (M0 r);obtain⟨W,o,s⟩:∃W,17533<=W/\W<=17533:=⟨_,ae _,ae _⟩;have p:∀i,i<m+1->gT Q (m+1) R i i<=2^W:=fun i c=>gL (h.ls.dg i c) (iT (bQ (k i) o));refine⟨fun i j c d=>?_,fun i j c d=>?_,fun i j c d=>?_⟩
 .have f:=h.ls.pd.cs0 c d;have q:=M4 (ck (h.ls.pd.diag d)) (p i c) (p j d);exact M5 (b:=17540) (M2 (a:=W) (gL f (gL q (iT om)))) om
 .have f:=h.ls.coord g.pd g.e om c d;exact M5 (b:=17740) (M2 (a:=190+W) (gL f (iT (by have:=k i;omega)))) om
 .have f:=Fy (l:=kK (gT Q (m+1) R) i j) (h.ls.pd.pos (j+1) om);have q:=h.ls.lamB d c;rw[<-FO,pL]at f;have t:=iT (show 190+(190+wP 193 (3*190+8) (m+1) (lT (gT Q (m+1) R) (m+1)) i)<=190+(190+W) by have:=k i;omega)
  have u:=M3 (190+(190+W));have v:=pU (190+(190+W)) 3;have w:=iT (om:190+(190+W)+3<=2*(390+W))
  exact M5 (b:=17940) (M2 (a:=390+W) om) om

def vK{a:Nat}(b:j≠i)(k:j<n)(l:a<n):ay n (fun c=>fu kD j i q c a*f c)=f a+(if a=i then q*f j else 0):=by
 have e:ay n (fun c=>fu kD j i q c a*f c)=ay n (fun c=>kD c a*f c+(if c=j then(if a=i then q*f j else 0)else 0)):=aE fun c _=>by
  simp only[fu,kD];by_cases g:c=j
  .subst g;by_cases h:a=i
   .subst h;simp[b]
   .simp[h]
  .simp[g]
 rw[e,eD,dr a l (fun c _ d=>by simp[kD,d]),dr j k (fun c _ d=>by simp[d])]
 simp[kD]
def vJ{a:Nat}(i:0<p)(d:p<n)(j:a<n):ay n (fun c=>kD (dO (p-1) p c) a*f c)=f (dO (p-1) p a):=by
 have g:dO (p-1) p a<n:=by unfold dO;split<;>(try split)<;>omega
 have b:dO (p-1) p (dO (p-1) p a)=a:=by unfold dO;grind
 rw[dr (dO (p-1) p a) g (fun c _ h=>?_)]
 .simp[kD,b]
 .have:dO (p-1) p c≠a:=fun e=>h (by rw[<-e];unfold dO;grind)
  simp[kD,this]
def Iu{a b:Nat}{A:aI}(d:j<i)(r:i<n)(e:a<n)(g:b<n):kg n (kg n (fun p c=>fu kD j i q c p) A) (fu kD j i q) a b=mc A i j q a b:=by
 have h:∀c,c<n->kg n (fun p c=>fu kD j i q c p) A a c=A a c+(if a=i then q*A j c else 0):=fun c _=>vK (f:=fun t=>A t c) om om e
 have k:kg n (kg n (fun p c=>fu kD j i q c p) A) (fu kD j i q) a b=ay n (fun c=>fu kD j i q c b*(A a c+(if a=i then q*A j c else 0))):=aE fun c l=>by rw[h c l,cX]
 rw[k,vK (f:=fun c=>A a c+(if a=i then q*A j c else 0)) om om g]
 simp only[mc];by_cases m:a=i<;>by_cases o:b=i<;>simp[m,o]<;>grind
def It{a b:Nat}{A:aI}(e:0<p)(d:p<n)(g:a<n)(h:b<n):kg n (kg n (fun x c=>kD (dO (p-1) p c) x) A) (fun a b=>kD (dO (p-1) p a) b) a b=EF A p a b:=by
 have i:∀c,c<n->kg n (fun x c=>kD (dO (p-1) p c) x) A a c=A (dO (p-1) p a) c:=fun c _=>vJ (f:=fun t=>A t c) e d g;have j:kg n (kg n (fun x c=>kD (dO (p-1) p c) x) A) (fun a b=>kD (dO (p-1) p a) b) a b=ay n (fun c=>kD (dO (p-1) p c) b*A (dO (p-1) p a) c):=aE fun c k=>by rw[i c k,cX]
 rw[j,vJ (f:=fun c=>A (dO (p-1) p a) c) e d h];rfl
def matOf(x:AV):aI:=fun i j=>match x with
 | .lst _ _ g=>(match g i with
  | .lst _ _ h=>(match h j with
   | .big z=>z
   | _=>0)
  | _=>0)
 | _=>0
def VR.tup3{z x' y' z':AV}(c:VR S x x')(d:VR S y y')(f:VR S z z'):VR S (.tup [x,y,z]) (.tup [x',y',z']):=by
 intro w v a b;simp only[bs]at b ⊢;obtain⟨vs,e,h⟩:=b;refine⟨vs,e,?_⟩
 match vs,h with
 | [u,v,t],h=>simp only[aT]at h ⊢;exact⟨c w u a h.1,d w v a h.2.1,f w t a h.2.2.1,trivial⟩
 | [],h=>simp[aT]at h
 | [_],h=>simp[aT]at h
 | [_,_],h=>simp[aT]at h
 | _::_::_::_::_,h=>simp[aT]at h
def Nx(a b k:Nat)(c:1<=k):nb (kD a b) k:=by
 unfold kD;split
 .exact nb.one c
 .exact nb.zero k
def P2(h:(z.natAbs:Int)<=176000):jk z:=by unfold jk;omega

end Go.Proofs.YtdobfmlmenaajaaGreatDoor
