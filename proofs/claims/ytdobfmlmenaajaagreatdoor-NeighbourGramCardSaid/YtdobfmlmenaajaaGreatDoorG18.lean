/-
  Lemmas for NeighbourGram.
-/
import Derived.Test.YtdobfmlmenaajaaGreatDoorG17
namespace Go.Proofs.YtdobfmlmenaajaaGreatDoor
open Go.RowKit Tryz
open _root_.Int renaming gcd→mn
set_option maxHeartbeats 6400000
set_option maxRecDepth 4096
set_option linter.all false
attribute [local go_sem] Nat.reduceAdd Nat.reduceEqDiff Nat.reduceLeDiff Nat.reduceLT reduceCtorEq Int.ofNat_lt decide_true decide_false Int.zero_le_ofNat
attribute [local go_sem ↓] reduceIte
variable{x y:AV}{a b c d z:Int}{l r:List AV}{es j k k0 m n:Nat}{g':Nat->AV}{g σ:Nat->Nat}{A:Nat->Nat->Int}{S S0:St}
def eQ.noneS(S:St):eQ St.none S:=fun k X h=>by cases h
def BW(n m p q:Nat)(A:Nat->Nat->Int)(ρ γ:Nat->Nat)(v:1<=p)(E:p<=1000)(h3:1<=q)(h4:q<=1000)(hρ:∀i,i<p->ρ i<n)(hγ:∀i,i<q->γ i<m):MF 143 [aQ n m A,aV p (fun i=>ρ i),aV q (fun i=>γ i)] p q (fun i j=>A (ρ i) (γ j)):=by
 refine MF.of ?_;refine jr func143 ntmps143 results143 ?_;simp only[go_sem,aQ,a8,aV];refine aH (fun O S=>∃(i:Nat) (x:AV) (g:Nat->Nat),i<=p/\O 0=aQ n m A/\O 2=aV q (fun i=>γ i)/\O 7=x/\O 13=aV p (fun i=>ρ i)/\O 14=.int .i64 p/\O 15=.int .i64 i /\
  cV 59 1 St.none S x i (fun a=>.sl 2 (g a) 0 q)/\(∀a,a<i->iW S (g a) q (fun j=>A (ρ a) (γ j)))/\∀a c,a<i->c<i->g a=g c->a=c) (fun O S=>p-ca (O 15)) ?_ ?_
 .simp only[go_sem,aQ,a8,aV];exact⟨0,om,rfl,fun _=>0,cV.nil (eQ.noneS _) _,fun a f=>om,fun a c f=>om⟩
 .rintro O S ⟨i,x,g,hi,Z,L,M,r,s,t,b,w,hI⟩;by_cases z:i<p
  .have hρi:=hρ i z;simp only[go_sem,aQ,a8,aV,L,M,r,s,t,z];refine aH (fun O S'=>∃(j:Nat) (y:AV),j<=q/\O 0=aQ n m A/\O 2=aV q (fun i=>γ i)/\O 7=x/\O 9=.int .i64 (ρ i)/\O 10=y/\O 13=aV p (fun i=>ρ i)/\O 14=.int .i64 p/\O 15=.int .i64 i/\O 19=aV q (fun i=>γ i)/\O 20=.int .i64 q/\O 21=.int .i64 j /\
    cV 59 1 St.none S' x i (fun a=>.sl 2 (g a) 0 q)/\(∀a,a<i->iW S' (g a) q (fun j=>A (ρ a) (γ j))/\¬d5 y (g a))/\cV 50 2 St.none S' y j (fun c=>.big (A (ρ i) (γ c)))/\∀d,d5 x d->¬d5 y d) (fun O S=>q-ca (O 21)) ?_ ?_
   .simp only[go_sem,aQ,a8,aV,Z,L,M,r,s,t];exact⟨0,om,rfl,b,fun a f=>⟨w a f,by rintro⟨_,_,_,e⟩;cases e⟩,cV.nil (eQ.noneS _) _,fun d _=>by rintro⟨_,_,_,e⟩;cases e⟩
   .rintro O S' ⟨j,y,hj,Z,L,M,e9,e10,r,s,t,e19,e20,e21,b,w,P,B⟩;by_cases Q:j<q
    .have hγj:=hγ j Q;simp -dsimp only[*,go_sem,aQ,a8,aV];refine aG.intro fun G C=>?_;simp -dsimp only[*,go_sem,aQ,a8];have H:=P.fresh C;have k:=b.fresh C;refine cV.app50 (P.upd (by rfl) H _) om (show eg 2 (.big (A (ρ i) (γ j)))from trivial) (bO ⟨_,_,_,rfl,ci,rfl,fun h=>H _ h rfl⟩) ?_
     intro c S2 R l u;simp only[*,go_sem,aQ,a8,aV,aT (om:j<1000000),ca]
     have kx:∀d,d5 x d->d≠G/\¬d5 y d:=fun d o=>⟨k d o,B d o⟩;refine⟨⟨j+1,om,rfl,?_,fun a f=>?_,R.congr fun a f=>by grind,fun d o he=>?_⟩,om⟩
     .refine b.step (eQ.noneS _) (fun d o=>?_)
      cases hS:S' d with
      | none =>
       exfalso;obtain⟨_,_,_,e⟩:=o;rcases b.2 with⟨_,v⟩|⟨c,_,v,g',E,_⟩
       .rw[v]at e;cases e
       .rw[v]at e;cases e;rw[hS]at E;cases E
      | some X=>exact l d X (by rw[aN (kx d o).1];exact hS) (kx d o).2
     .obtain⟨F,r2⟩:=w a f;have I:g a≠G:=bJ.fresh F C;refine⟨F.via fun X b=>l _ _ (by rw[aN I];exact b) r2,fun hb=>?_⟩
      rw[eR]at hb;rw[<-hb]at u;rcases u with h|h
      .exact r2 h
      .rw[aN I]at h;exact bJ.fresh F h rfl
     .rw[eR]at he;subst he;rcases u with h|h
      .exact B d o h
      .rw[aN (k d o)]at h;obtain⟨_,_,_,e⟩:=o;rcases b.2 with⟨_,v⟩|⟨c,_,v,g',E,_⟩
       .rw[v]at e;cases e
       .rw[v]at e;cases e;rw[h]at E;cases E
    .obtain rfl:j=q:=om
     rcases P.2 with⟨h0,_⟩|⟨c,_,rfl,N⟩
     .omega
     simp -dsimp only[*,go_sem,aQ,a8,aV];refine aG.intro fun J D=>?_;simp -dsimp only[*,go_sem];have k:=b.fresh D;refine cV.app59 (b.upd (by rfl) k _) om (show eg 1 (.sl 2 c 0 j)from trivial) (bO ⟨_,_,_,rfl,ci,rfl,fun h=>k _ h rfl⟩) ?_
     intro d S2 T l u;have K:c≠J:=bJ.fresh N D;have U:¬d5 x c:=fun h=>B c h (eR.2 rfl);simp only[*,go_sem,aQ,a8,aV,aT (om:i<1000000),ca]
     refine⟨⟨i+1,om,rfl,fun a=>if a=i then c else g a,T.congr fun a f=>by grind,fun a f=>?_,fun a d f o e=>?_⟩,om⟩
     .by_cases e:a=i
      .subst e;simp only[aO];exact N.via fun X b=>l _ _ (by rw[aN K];exact b) U
      .simp only[e,aP];have F:=(w a om).1;have V:g a≠J:=bJ.fresh F D;obtain⟨gg,W,_⟩:=F;exact(w a om).1.via fun X Y=>l _ _ (by rw[aN V];exact Y) (b.other W om)
     .have k1:=fun a f=>(w a f).2;simp only[eR]at k1
      grind
  .simp only[go_sem,aQ,a8,aV,L,M,r,s,t,z];obtain rfl:i=p:=om
   rcases b.2 with⟨h0,_⟩|⟨c,_,rfl,N⟩
   .omega
   exact⟨c,rfl,g,N,w,hI⟩

theorem rZ{k:Nat}:∀(m:Nat) (M:aJ),m<=16->(∀a b,a<m->b<m->nb (M a b) k)->nb (det m M) (m*(k+10)+1)
 | 0,M,_,_=>by simp only[det];exact nb.one om
 | m+1,M,l,h=>by
  simp only[det];have d:∀j,j<m+1->nb (vX j*M 0 j*det m (cut M j)) (k+(m*(k+10)+1)):=by
   intro j e;have f:=rZ m (cut M j) om (fun a b n g=>h _ _ om (xv g));have c:=(h 0 j om e).mul f;unfold nb at c ⊢;have:(vX j*M 0 j*det m (cut M j)).natAbs=(M 0 j*det m (cut M j)).natAbs:=by
    unfold vX;split
    .rw[eW]
    .rw[iT];simp
   rw[this];exact c
  have i:=CH d om (m+1) (ae _);refine i.mono ?_;rw[cQ];omega
def lU{b:Nat}{X Y:eE}:(S.upd b X).upd b Y=S.upd b Y:=by
 funext k;simp only[St.upd];split<;>rfl
def dA.upd{b:Nat}(h:dA S b g n m A){c:Nat}(d:b≠c)(e:∀i,i<n->g i≠c)(X:eE):dA (S.upd c X) b g n m A :=
 ⟨h.outer.upd d X,fun i a=>(h.row i a).upd (e i a) X,h.inj⟩
def dA.swap{b:Nat}(h:dA S b g n m A){p k:Nat}(v:p<n)(w:k<n)(r:p≠k){f:Nat->AV}(l:S b=some ⟨59,1,n,f⟩) :
  dA (S.upd b ⟨59,1,n,bR (bR f p (.sl 2 (g k) 0 m)) k (.sl 2 (g p) 0 m)⟩) b (fun i=>g (dG k p i)) n m (fun i j=>A (dG k p i) j):=by
 obtain⟨g',o,s⟩:=h.outer;rw[l]at o;cases o;have c:∀i,i<n->dG k p i<n:=fun i a=>by unfold dG;split<;>(try split)<;>omega
 refine⟨bJ.here fun i a=>?_,fun i a=>(h.row _ (c i a)).upd (fun e=>?_) _,fun i j a t e=>?_⟩
 .have:=s i a;simp only[bR,dG];by_cases d:i=k
  .subst d;simp
  .by_cases q:i=p
   .subst q;simp[d]
   .simp[d,q,this]
 .exact bJ.ne (bJ.of l) (h.row _ (c i a)) om e.symm
 .have u:=h.inj _ _ (c i a) (c j t) e;unfold dG at u
  grind
def jq{A:aJ}{neg:Bool}(e:n<=16)(c:∀i j,i<n->j<n->nb (A i j) k0)(d:nv A n σ neg k){i j:Nat}(f:k+i<n)(g:k+j<n):nb (cM (fun a b=>A (σ a) b) k i j) (17*(k0+10)):=by
 refine(rZ (k+1) _ om (fun a b h l=>c _ _ (d.row _ ?_) ?_)).mono ?_
 .rw[ra];split<;>omega
 .rw[ra];split<;>omega
 .have:(k+1)*(k0+10)<=16*(k0+10):=aC _ om;omega
def AL(A:aJ)(n b b2 b5:Nat)(S:St)(k:Nat)(neg:Bool)(Q:(Nat->Nat)->(Nat->Nat->Int)->Prop):Prop:=∃(g σ:Nat->Nat) (B:Nat->Nat->Int),nv A n σ neg k/\dA S b g n n B/\(∀i,i<n->g i≠b2/\g i≠b5)/\dT S b2 50 2 (.big 0)/\dT S b5 50 2 (.big (det k (fun a c=>A (σ a) c)))/\Q σ B
def M3(A:aJ)(n k:Nat)(σ:Nat->Nat)(B:Nat->Nat->Int):Prop:=∀i j,k<=i->i<n->k<=j->j<n->B i j=cM (fun a c=>A (σ a) c) k (i-k) (j-k)
def StgP(A:aJ)(n k p:Nat)(σ:Nat->Nat)(B:Nat->Nat->Int):Prop:=M3 A n k σ B/\∀i,k<=i->i<p->B i k=0
def G8(A:aJ)(n k i j:Nat)(σ:Nat->Nat)(B:Nat->Nat->Int):Prop:=cM (fun a c=>A (σ a) c) k 0 0≠0/\∀a c,k<=a->a<n->k<=c->c<n->B a c=if k<a/\k<c/\(a<i∨(a=i/\c<j))then cM (fun a c=>A (σ a) c) (k+1) (a-(k+1)) (c-(k+1))else cM (fun a c=>A (σ a) c) k (a-k) (c-k)
def jY(n:Nat)(A:aJ)(E:Nat)(h1:1<=n)(M:n<=16)(N:∀i j,i<n->j<n->nb (A i j) E)(hk:E<=10000000):PF 26 [aQ n n A] (.big (det n A)):=by
 refine iQ func26 ntmps26 results26 ?_;simp -dsimp only[go_sem];refine aG.intro fun y f2=>?_;simp -dsimp only[go_sem];refine(Dx n n A E om h1 om N om _ _ (cI _ _)).mono ?_;rintro r S1 ⟨b,g0,rfl,H⟩;simp -dsimp only[go_sem];refine(gG dc dc).call ?_
 simp -dsimp only[go_sem];refine aG.intro fun z f5=>?_;simp only[go_sem];have hb2:y≠b:=fun e=>by have:=H.2.2.1;rw[<-e,ci]at this;cases this
 have hg2:∀i,i<n->g0 i≠y:=fun i h e=>by have:=H.2.2.2 i h;rw[e,ci]at this;cases this
 have Y:y≠z:=fun e=>by have:=H.2.1 y _ ci;rw[e,f5]at this;cases this
 have Q:b≠z:=bJ.fresh H.1.outer f5;have hg5:∀i,i<n->g0 i≠z:=fun i h=>bJ.fresh (H.1.row i h) f5;refine aH (fun O S=>∃(k:Nat) (neg:Bool),k<=n/\O 2=.ptr 2 y 0/\O 3=.sl 1 b 0 n/\O 4=.int .i64 n/\O 5=.ptr 2 z 0/\O 6=.bool neg/\O 7=.int .i64 k/\AL A n b y z S k neg (M3 A n k)) (fun O S=>n-ca (O 7)) ?_ ?_
 .simp only[go_sem];refine⟨0,om,false,rfl,rfl,g0,id,A,nv.init A n,(H.1.upd Q hg5 _).upd Q hg5 _,fun i h=>⟨hg2 i h,hg5 i h⟩,?_,dT.set,fun i j _ _ _ _=>by rw[ie];rfl⟩
  exact(dT.upd ⟨_,H.2.1 y _ ci,rfl⟩ Y _).upd Y _
 .rintro O S ⟨k,neg,hkn,s,I,F,J,G,C,x⟩;by_cases d:k<n
  .simp only[*,go_sem,aa];refine aH (fun O S=>∃p:Nat,k<=p/\p<=n/\O 2=.ptr 2 y 0/\O 3=.sl 1 b 0 n/\O 4=.int .i64 n/\O 5=.ptr 2 z 0/\O 6=.bool neg/\O 7=.int .i64 k/\O 8=.int .i64 p/\AL A n b y z S k neg (StgP A n k p)) (fun O S=>n-ca (O 8)) ?_ ?_
   .simp only[*,go_sem];obtain⟨g,σ,B,f,l,t,V2,V5,m⟩:=x;exact⟨k,om,om,rfl,g,σ,B,f,l,t,V2,V5,m,fun i h1 M=>om⟩
   .clear x;rintro O S ⟨p,hkp,hpn,s,I,F,J,G,C,e8,x⟩;by_cases Z:p<n
    .obtain⟨g,σ,B,f,l,t,V2,V5,m,hZ⟩:=x;obtain⟨g1,P,L⟩:=l.outer;obtain⟨g2,u2,v2⟩:=l.row p Z;have v1':=L p Z;have v2':=v2 k d;have hbp:=jq M N f (i:=p-k) (j:=0) om om;have D:=m p k hkp Z (ae _) d;rw[cb]at D;rw[<-D]at hbp;simp -dsimp only[go_sem,aa,I,F,C,e8,Z,d,P,u2,v1',v2'];refine(jB hbp om).call ?_;by_cases h0:B p k=0
     .simp -dsimp only[go_sem,aa,s,I,F,J,G,C,e8,Z,h0,rK,aT (om:p<1000000),ca]
      refine⟨⟨p+1,om,om,rfl,g,σ,B,f,l,t,V2,V5,m,fun i h1 M=>?_⟩,om⟩
      by_cases e:i=p
      .rw[e];exact h0
      .exact hZ i h1 om
     .have hs0:((B p k).sign==0)=false:=by
       simp only[gS,DF];rw[lB];exact h0
      have hpn':((p:Int)==n)=false:=by simp;omega
      simp -dsimp only[go_sem,aa,s,I,F,J,G,C,e8,Z,hs0,hpn'];by_cases R:k<p
      .obtain⟨g3,u3,X⟩:=l.row k d;have v3':=L k d;have v1'':g1 p=.sl 2 (g p) 0 n:=v1';have v3'':g1 k=.sl 2 (g k) 0 n:=v3';simp -dsimp only[go_sem,R];refine ip 13 kr ?_
       simp only[go_sem,aa,I,G,C,e8,Z,d,P,v1'',v3'',aT (om:k<1000000)]
       have T:AL A n b y z ((S.upd b ⟨59,1,n,bR g1 p (.sl 2 (g k) 0 n)⟩).upd b ⟨59,1,n,bR (bR g1 p (.sl 2 (g k) 0 n)) k (.sl 2 (g p) 0 n)⟩) k (!neg) (G8 A n k (k+1) (k+1)):=by
        rw[lU];have hs:∀i,i<n->dG k p i<n:=fun i h=>by unfold dG;split<;>(try split)<;>omega
        refine⟨_,fun a=>σ (dG k p a),_,f.swap R Z,l.swap Z d om P,fun i h=>t _ (hs i h),V2.upd hb2 _,?_,?_,fun a c v o u q=>?_⟩
        .have e:=yz (n:=k) (fun a c=>A (σ a) c) (i:=k) (k:=p) om om;rw[e];exact V5.upd (aj Q) _
        .have e:=xu (k:=k) (p:=p) (fun a c=>A (σ a) c) hkp 0 0;rw[e,show dG 0 (p-k) 0=p-k by simp[dG],<-D];exact h0
        .rw[af om];have e:=xu (k:=k) (p:=p) (fun a c=>A (σ a) c) hkp (a-k) (c-k);show B (dG k p a) c=_;rw[e,m (dG k p a) c (by unfold dG;split<;>(try split)<;>omega) (hs a o) u q]
         congr 1;unfold dG;split<;>(try split)<;>(try split)<;>(try split)<;>omega
       refine aH (fun O S=>∃i:Nat,k+1<=i/\i<=n/\O 2=.ptr 2 y 0/\O 3=.sl 1 b 0 n/\O 4=.int .i64 n/\O 5=.ptr 2 z 0/\O 6=.bool (!neg)/\O 7=.int .i64 k/\O 9=.int .i64 i/\AL A n b y z S k (!neg) (G8 A n k i (k+1))) (fun O S=>n-ca (O 9)) ?_ ?_
       .simp only[*,go_sem];exact⟨k+1,om,om,rfl,T⟩
       .clear T s I F J G C e8 P u2 L v2 v1' v2' l V2 V5 t f;rintro O S ⟨i,hki,hin,s,I,F,J,G,C,e9,x⟩;by_cases h:i<n
        .simp only[*,go_sem,aa,aT (om:k<1000000)]
         refine aH (fun O S=>∃j:Nat,k+1<=j/\j<=n/\O 2=.ptr 2 y 0/\O 3=.sl 1 b 0 n/\O 4=.int .i64 n/\O 5=.ptr 2 z 0/\O 6=.bool (!neg)/\O 7=.int .i64 k/\O 9=.int .i64 i/\O 10=.int .i64 j/\AL A n b y z S k (!neg) (G8 A n k i j)) (fun O S=>n-ca (O 10)) ?_ ?_
         .simp only[*,go_sem];exact⟨k+1,om,om,rfl,x⟩
         .clear x;rintro O S ⟨j,hkj,hjn,s,I,F,J,G,C,e9,e10,x⟩;by_cases U:j<n
          .obtain⟨g,σ,B,f,l,t,V2,V5,w,m⟩:=x;obtain⟨g1,P,L⟩:=l.outer;obtain⟨g2,u2,v2⟩:=l.row i h;obtain⟨g3,u3,X⟩:=l.row k d;have w1:=L i h;have w2:=L k d;have w3:=v2 j U;have w4:=v2 k d;have w5:=X j U;have w6:=X k d;obtain⟨gw,uw,vw⟩:=V5;have c1:=m i j om h om U;have c2:=m i k om h (ae _) d;have c3:=m k j (ae _) d om U;have K:=m k k (ae _) d (ae _) d;rw[af om]at c1 c2 c3 K;rw[cb]at c2 c3 K;have n1:=jq M N f (i:=i-k) (j:=j-k) om om;have n2:=jq M N f (i:=i-k) (j:=0) om om;have n3:=jq M N f (i:=0) (j:=j-k) om om;have n4:=jq M N f (i:=0) (j:=0) om om;rw[<-c1]at n1;rw[<-c2]at n2;rw[<-c3]at n3;rw[<-K]at n4;have n5:nb (det k (fun a c=>A (σ a) c)) (17*(E+10)):=(rZ k _ om (fun a c ha hc=>N _ _ (f.row a om) om)).mono (by have:k*(E+10)<=16*(E+10):=aC _ om;omega)
           have V:=i9 f.lead (i-k-1) (j-k-1);rw[(om:i-k-1+1=i-k),(om:j-k-1+1=j-k),<-c1,<-c2,<-c3,<-K]at V
           have W:=f.lead k (ae _);have hq:(B k k*B i j-B i k*B k j)/det k (fun a c=>A (σ a) c)=cM (fun a c=>A (σ a) c) (k+1) (i-k-1) (j-k-1):=by
            rw[V,cT _ W]
           simp -dsimp only[*,go_sem,aa];refine bF 39 kr ?_
           simp only[go_sem,aa,s,I,F,J,G,C,e9,e10,h,U,d,P,u2,u3,w1,w2,w3,w4,w5,w6,uw,vw];refine⟨_,(iX n4 n1 om).pure',_,(iX n2 n3 om).pure',_,(sO (n4.mul n1) (n2.mul n3) om).pure',_,(nB (k:=17*(E+10)+17*(E+10)+1) ((n4.mul n1).sub (n2.mul n3)) (n5.mono om) om W).pure',?_⟩;simp only[go_sem,aT (om:j<1000000),ca]
           rw[hq];refine⟨⟨j+1,om,om,rfl,g,σ,_,f,l.set h u2,t,dT.upd V2 (aj (t i h).1) _,dT.upd ⟨gw,uw,vw⟩ (aj (t i h).2) _,w,fun a c v o u q=>?_⟩,om⟩
           have h3:=m a c v o u q;simp only[eV];by_cases e1:a=i/\c=j
           .obtain⟨rfl,rfl⟩:=e1;rw[ai ⟨rfl,rfl⟩,ai om,rb,rb]
           .rw[af e1,h3];by_cases s:k<a/\k<c/\(a<i∨a=i/\c<j)
            .rw[ai s,ai om]
            .rw[af s,af om]
          .obtain rfl:j=n:=om
           obtain⟨g,σ,B,f,l,t,V2,V5,w,m⟩:=x;simp only[*,go_sem,aa,aT (om:i<1000000),ca]
           refine⟨⟨i+1,om,om,rfl,g,σ,B,f,l,t,V2,V5,w,fun a c v o u q=>?_⟩,om⟩
           rw[m a c v o u q];by_cases s:k<a/\k<c/\(a<i∨a=i/\c<j)
           .rw[ai s,ai om]
           .rw[af s,af om]
        .obtain rfl:i=n:=om
         obtain⟨g,σ,B,f,l,t,V2,V5,w,m⟩:=x;obtain⟨g1,P,L⟩:=l.outer;obtain⟨g3,u3,X⟩:=l.row k d;have w2:=L k d;have w6:=X k d;obtain⟨gw,uw,vw⟩:=V5;have K:=m k k (ae _) d (ae _) d;rw[af om,cb,c8]at K;simp only[go_sem,aa,s,I,F,J,G,C,e9,h,d,P,u3,w2,w6,uw,aT (om:k<1000000),ca]
         refine⟨⟨k+1,om,(!neg),rfl,rfl,g,σ,B,f.step w,l.upd Q (fun i h=>(t i h).2) _,t,V2.upd Y _,?_,fun a c v o u q=>?_⟩,om⟩
         .rw[<-K];exact dT.set
         .rw[m a c om o om q,ai om]
      .obtain rfl:k=p:=om
       simp only[go_sem,aT (om:k<1000000),R]
       have T:AL A n b y z S k neg (G8 A n k (k+1) (k+1)):=by
        refine⟨g,σ,B,f,l,t,V2,V5,?_,fun a c v o u q=>?_⟩
        .rw[cb]at D;rw[<-D];exact h0
        .rw[af om];exact m a c v o u q
       refine aH (fun O S=>∃i:Nat,k+1<=i/\i<=n/\O 2=.ptr 2 y 0/\O 3=.sl 1 b 0 n/\O 4=.int .i64 n/\O 5=.ptr 2 z 0/\O 6=.bool neg/\O 7=.int .i64 k/\O 9=.int .i64 i/\AL A n b y z S k neg (G8 A n k i (k+1))) (fun O S=>n-ca (O 9)) ?_ ?_
       .simp only[*,go_sem];exact⟨k+1,om,om,rfl,T⟩
       .clear T s I F J G C e8 P u2 L v2 v1' v2' l V2 V5 t f;rintro O S ⟨i,hki,hin,s,I,F,J,G,C,e9,x⟩;by_cases h:i<n
        .simp only[*,go_sem,aa,aT (om:k<1000000)]
         refine aH (fun O S=>∃j:Nat,k+1<=j/\j<=n/\O 2=.ptr 2 y 0/\O 3=.sl 1 b 0 n/\O 4=.int .i64 n/\O 5=.ptr 2 z 0/\O 6=.bool neg/\O 7=.int .i64 k/\O 9=.int .i64 i/\O 10=.int .i64 j/\AL A n b y z S k neg (G8 A n k i j)) (fun O S=>n-ca (O 10)) ?_ ?_
         .simp only[*,go_sem];exact⟨k+1,om,om,rfl,x⟩
         .clear x;rintro O S ⟨j,hkj,hjn,s,I,F,J,G,C,e9,e10,x⟩;by_cases U:j<n
          .obtain⟨g,σ,B,f,l,t,V2,V5,w,m⟩:=x;obtain⟨g1,P,L⟩:=l.outer;obtain⟨g2,u2,v2⟩:=l.row i h;obtain⟨g3,u3,X⟩:=l.row k d;have w1:=L i h;have w2:=L k d;have w3:=v2 j U;have w4:=v2 k d;have w5:=X j U;have w6:=X k d;obtain⟨gw,uw,vw⟩:=V5;have c1:=m i j om h om U;have c2:=m i k om h (ae _) d;have c3:=m k j (ae _) d om U;have K:=m k k (ae _) d (ae _) d;rw[af om]at c1 c2 c3 K;rw[cb]at c2 c3 K;have n1:=jq M N f (i:=i-k) (j:=j-k) om om;have n2:=jq M N f (i:=i-k) (j:=0) om om;have n3:=jq M N f (i:=0) (j:=j-k) om om;have n4:=jq M N f (i:=0) (j:=0) om om;rw[<-c1]at n1;rw[<-c2]at n2;rw[<-c3]at n3;rw[<-K]at n4;have n5:nb (det k (fun a c=>A (σ a) c)) (17*(E+10)):=(rZ k _ om (fun a c ha hc=>N _ _ (f.row a om) om)).mono (by have:k*(E+10)<=16*(E+10):=aC _ om;omega)
           have V:=i9 f.lead (i-k-1) (j-k-1);rw[(om:i-k-1+1=i-k),(om:j-k-1+1=j-k),<-c1,<-c2,<-c3,<-K]at V
           have W:=f.lead k (ae _);have hq:(B k k*B i j-B i k*B k j)/det k (fun a c=>A (σ a) c)=cM (fun a c=>A (σ a) c) (k+1) (i-k-1) (j-k-1):=by
            rw[V,cT _ W]
           simp -dsimp only[*,go_sem,aa];refine bF 39 kr ?_
           simp only[go_sem,aa,s,I,F,J,G,C,e9,e10,h,U,d,P,u2,u3,w1,w2,w3,w4,w5,w6,uw,vw];refine⟨_,(iX n4 n1 om).pure',_,(iX n2 n3 om).pure',_,(sO (n4.mul n1) (n2.mul n3) om).pure',_,(nB (k:=17*(E+10)+17*(E+10)+1) ((n4.mul n1).sub (n2.mul n3)) (n5.mono om) om W).pure',?_⟩;simp only[go_sem,aT (om:j<1000000),ca]
           rw[hq];refine⟨⟨j+1,om,om,rfl,g,σ,_,f,l.set h u2,t,dT.upd V2 (aj (t i h).1) _,dT.upd ⟨gw,uw,vw⟩ (aj (t i h).2) _,w,fun a c v o u q=>?_⟩,om⟩
           have h3:=m a c v o u q;simp only[eV];by_cases e1:a=i/\c=j
           .obtain⟨rfl,rfl⟩:=e1;rw[ai ⟨rfl,rfl⟩,ai om,rb,rb]
           .rw[af e1,h3];by_cases s:k<a/\k<c/\(a<i∨a=i/\c<j)
            .rw[ai s,ai om]
            .rw[af s,af om]
          .obtain rfl:j=n:=om
           obtain⟨g,σ,B,f,l,t,V2,V5,w,m⟩:=x;simp only[*,go_sem,aa,aT (om:i<1000000),ca]
           refine⟨⟨i+1,om,om,rfl,g,σ,B,f,l,t,V2,V5,w,fun a c v o u q=>?_⟩,om⟩
           rw[m a c v o u q];by_cases s:k<a/\k<c/\(a<i∨a=i/\c<j)
           .rw[ai s,ai om]
           .rw[af s,af om]
        .obtain rfl:i=n:=om
         obtain⟨g,σ,B,f,l,t,V2,V5,w,m⟩:=x;obtain⟨g1,P,L⟩:=l.outer;obtain⟨g3,u3,X⟩:=l.row k d;have w2:=L k d;have w6:=X k d;obtain⟨gw,uw,vw⟩:=V5;have K:=m k k (ae _) d (ae _) d;rw[af om,cb,c8]at K;simp only[go_sem,aa,s,I,F,J,G,C,e9,h,d,P,u3,w2,w6,uw,aT (om:k<1000000),ca]
         refine⟨⟨k+1,om,neg,rfl,rfl,g,σ,B,f.step w,l.upd Q (fun i h=>(t i h).2) _,t,V2.upd Y _,?_,fun a c v o u q=>?_⟩,om⟩
         .rw[<-K];exact dT.set
         .rw[m a c om o om q,ai om]
    .obtain rfl:p=n:=om
     have hpn':((p:Int)==p)=true:=by simp
     obtain⟨g,σ,B,f,l,t,V2,V5,m,hZ⟩:=x;obtain⟨gv,uv,vv⟩:=V2;simp only[*,go_sem,aa];have hz:det p A=0:=f.zero d (fun i h=>by
      have h3:=m (k+i) k om om (ae _) d;rw[hZ (k+i) om om,cb,(om:k+i-k=i)]at h3
      exact h3.symm)
     rw[hz];exact VR.mf rfl
  .obtain rfl:k=n:=om
   obtain⟨g,σ,B,f,l,t,V2,V5,m⟩:=x;obtain⟨gv,uv,vv⟩:=V2;obtain⟨gw,uw,vw⟩:=V5;have hs:=f.sign;have hbd:nb (det k (fun a c=>A (σ a) c)) (17*(E+10)):=(rZ k _ M (fun a c ha hc=>N _ _ (f.row a ha) hc)).mono (by have:k*(E+10)<=16*(E+10):=aC _ M;omega)
   cases neg
   .simp only[bD,aP]at hs;simp only[go_sem,aa,s,F,J,G,C,d,uv,uw,vw,bR];rw[<-hs];exact VR.mf rfl
   .simp only[aO]at hs;simp -dsimp only[go_sem,aa,s,F,J,G,C,d,uv,uw,vw];refine(xB hbd om).call ?_;simp only[go_sem,aa,s,uv,vw,bR];rw[hs,Hi];exact VR.mf rfl

def cV.vr{e:Nat}{g:Nat->AV}(h:cV e es S0 S x j g)(a:∀i,i<j->VR S (g i) (g' i)):VR S x (.lst es j g'):=by
 rcases h.2 with⟨rfl,rfl⟩|⟨c,_,rfl,b⟩
 .exact VR.nil
 .exact VR.sl b om (fun i d=>by rw[aB];exact a i d)
def fst(k m i:Nat):Nat:=if i<k then i else m
def EQ(k m:Nat)(s:k<=1000)(t:m<=1000):PF 173 [.int .i64 k,.int .i64 m] (aV (k+1) (fun i=>(fst k m i:Nat))):=by
 refine iQ func173 ntmps173 results173 ?_;simp only[go_sem];refine aH (fun O S=>∃(i:Nat) (x:AV),i<=k/\O 0=.int .i64 k/\O 1=.int .i64 m/\O 5=x/\O 6=.int .i64 i/\cV 3 1 St.none S x i (fun a=>.int .i64 a)) (fun O S=>k-ca (O 6)) ?_ ?_
 .simp only[go_sem];exact⟨0,om,rfl,cV.nil (eQ.noneS _) _⟩
 .rintro O S ⟨i,x,u,v,w,y,z,f⟩;by_cases o:i<k
  .simp -dsimp only[*,go_sem];refine aG.intro fun p g=>?_;simp -dsimp only[*,go_sem];have b:=f.fresh g;refine cV.app3 (f.upd (by rfl) b _) om (show eg 1 (.int .i64 (i:Int)) by simp[eg]) (bO ⟨_,_,_,rfl,ci,rfl,fun h=>b _ h rfl⟩) ?_
   intro c S2 d j l;simp only[*,go_sem,aT (om:i<1000000),ca]
   exact⟨⟨i+1,om,rfl,d.congr fun a q=>by grind⟩,om⟩
  .obtain rfl:i=k:=om
   simp -dsimp only[*,go_sem];refine aG.intro fun r n=>?_;simp -dsimp only[*,go_sem];have b:=f.fresh n;refine cV.app3 (f.upd (by rfl) b _) om (show eg 1 (.int .i64 (m:Int)) by simp[eg]) (bO ⟨_,_,_,rfl,ci,rfl,fun h=>b _ h rfl⟩) ?_
   intro c S2 d j l;simp only[*,go_sem];refine d.vr (fun a q=>?_);have:(if a=i then AV.int .i64 (m:Int)else .int .i64 (a:Int))=.int .i64 ((fst i m a:Nat):Int):=by
    unfold fst;by_cases e:a=i
    .subst e;simp
    .rw[af e,ai om]
   rw[this];exact VR.mf rfl
def IR(A:aJ)(k i j:Nat):det (k+1) (fun a b=>A (fst k (k+i) a) (fst k (k+j) b))=cM A k i j:=by
 unfold cM;exact ck fun a b _ _=>rfl
def r7(n:Nat)(A:aJ)(f:Nat)(p:1<=n)(q:n<=16)(r:∀i j,i<n->j<n->nb (A i j) f)(s:f<=10000000):PF 118 [aQ n n A] (.tup [a8 n (fun k=>det (k+1) A),.bool true]):=by
 refine iQ func118 ntmps118 results118 ?_;simp -dsimp only[go_sem,aa];refine(qQ n A p q).call ?_;simp only[go_sem];refine aH (fun O S=>∃(i:Nat) (x:AV),i<=n/\O 0=aQ n n A/\O 4=.int .i64 n/\O 6=x/\O 7=.int .i64 i/\cV 50 2 St.none S x i (fun a=>.big (det (a+1) A))) (fun O S=>n-ca (O 7)) ?_ ?_
 .simp only[go_sem];exact⟨0,om,rfl,cV.nil (eQ.noneS _) _⟩
 .rintro O S ⟨i,x,B,C,D,E,F,g⟩;by_cases t:i<n
  .have e:∀a,a<i+1->fst i i a<n:=fun a l=>by unfold fst;split<;>omega
   simp -dsimp only[*,go_sem,aa];refine(EQ i i om om).call ?_;simp -dsimp only[*,go_sem,aa];refine(EQ i i om om).call ?_;simp -dsimp only[*,go_sem,aa];refine(BW n n (i+1) (i+1) A (fst i i) (fst i i) om om om om e e).pf.call ?_;simp -dsimp only[*,go_sem,aa];refine(jY (i+1) _ f om om (fun a b l u=>r _ _ (e a l) (e b u)) s).call ?_;simp -dsimp only[*,go_sem];refine aG.intro fun v m=>?_;simp -dsimp only[*,go_sem];have d:=g.fresh m;have w:det (i+1) (fun a b=>A (fst i i a) (fst i i b))=det (i+1) A:=by
    have:=IR A i 0 0;rw[cu,c8]at this;exact this
   refine cV.app50 (g.upd (by rfl) d _) om (show eg 2 (.big (det (i+1) A))from trivial) (bO ⟨_,_,_,rfl,ci,by rw[w];rfl,fun h=>d _ h rfl⟩) ?_
   intro c S2 o y z;simp only[*,go_sem,aT (om:i<1000000),ca]
   exact⟨⟨i+1,om,rfl,o.congr fun a l=>by grind⟩,om⟩
  .obtain rfl:i=n:=om
   simp only[*,go_sem,aa];exact VR.tup2 (g.vr fun a _=>VR.mf rfl) (VR.mf rfl)
def BJ(a:Int):lA a a=0:=by unfold lA;simp
def sM(n:Nat)(A:aJ)(e:Nat)(r:n<=16)(f:∀i j,i<n->j<n->nb (A i j) e)(s:e<=10000000)(l:∀a b,a<n->b<n->A a b=A b a):PF 116 [aQ n n A] (.bool true):=by
 refine iQ func116 ntmps116 results116 ?_;simp only[go_sem,aQ,a8];refine aH (fun O S=>∃i:Nat,i<=n/\O 0=aQ n n A/\O 6=.int .i64 n/\O 7=.int .i64 i) (fun O S=>n-ca (O 7)) ?_ ?_
 .simp only[go_sem,aQ,a8];exact⟨0,om,rfl⟩
 .rintro O S ⟨i,t,g,h,k⟩;by_cases c:i<n
  .simp only[*,go_sem,aQ,a8];refine aH (fun O S=>∃j:Nat,j<=i/\O 0=aQ n n A/\O 3=.int .i64 i/\O 4=.int .i64 j/\O 6=.int .i64 n/\O 7=.int .i64 i) (fun O S=>i-ca (O 4)) ?_ ?_
   .simp only[*,go_sem,aQ,a8];exact⟨0,om,rfl⟩
   .rintro O S ⟨j,u,g,m,o,h,k⟩;by_cases p:j<i
    .have d:j<n:=om
     simp -dsimp only[*,go_sem,aQ,a8];refine bF 16 kr ?_
     simp only[go_sem,aa,aQ,a8,g,m,o,h,k,c,d];have q:lA (A i j) (A j i)=0:=by rw[l i j c d];exact BJ _
     refine⟨_,(pg (f i j c d) (f j i d c) om).pure',?_⟩;rw[q];simp only[go_sem,aT (om:j<1000000),ca]
     exact⟨⟨j+1,om,rfl⟩,om⟩
    .simp only[*,go_sem,aQ,a8,aT (om:i<1000000),ca]
     exact⟨⟨i+1,om,rfl⟩,om⟩
  .simp only[*,go_sem,aQ,a8];exact VR.mf rfl

def VR.agg(h:∀x∈l,pq x=true):VR S (.agg l) (.agg l):=by
 intro w v d a;simp only[bn]at a ⊢;obtain⟨vs,b,c⟩:=a;exact⟨vs,b,CO l vs h c⟩
def rN(a b:Int):Int:=a/(mn a b:Int)
def rD(a b:Int):Int:=b/(mn a b:Int)
def tg(h:0<b):0<(mn a b:Int):=by
 have:=Int.gcd_pos_of_ne_zero_right a (om:b≠0);omega
def LD:(mn a b:Int)*rN a b=a:=ir (Int.gcd_dvd_left ..)
def Gg:(mn a b:Int)*rD a b=b:=ir (Int.gcd_dvd_right ..)
def ph(h:0<b):0<rD a b:=by
 have c:=Gg (a:=a) (b:=b);exact yM (tg (a:=a) h) (by rw[c];exact h)
def Ih:rN a b*b=a*rD a b:=by
 have c:=LD (a:=a) (b:=b);have d:=Gg (a:=a) (b:=b);have e:(mn a b:Int)*(rN a b*rD a b)=a*rD a b:=by rw[<-iT,c]
 have f:(mn a b:Int)*(rN a b*rD a b)=rN a b*b:=by rw[Tk,d]
 rw[<-e,f]
def rB{g x y:Int}(h:g*x=y)(a:0<g):x.natAbs<=y.natAbs:=by
 rw[<-h,cY];exact Nat.le_mul_of_pos_left _ om
def yI(h:0<b)(c:nb a k):nb (rN a b) k:=nb.of_le (rB LD (tg h)) c
def yJ(h:0<b)(c:nb b k):nb (rD a b) k:=nb.of_le (rB Gg (tg h)) c
def nJ(e:0<b)(f:0<d)(h:a*d=c*b):a/b=c/d:=by
 rw[<-I5 a b f,h,cR b d,I5 c d e]
def Bn(h:0<a):a.sign=1:=cX h
def M7(f:nb a k)(c:nb b k)(l:k<=500000000)(d:0<b):PF 254 [.big a,.big b] (.tup [.agg [.big (rN a b),.big (rD a b)],.bool true]):=by
 refine iQ func254 ntmps254 results254 ?_;have i:=tg (a:=a) d;have g:nb (mn a b:Int) k:=nb.of_le (by have:=Int.gcd_le_natAbs_right a (om:b≠0);simp;exact this) c
 try simp -dsimp only[go_sem]
 refine aG.intro fun m n=>?_
 try simp -dsimp only[go_sem]
 refine aG.intro fun o j=>?_;have n3_2:=(ag j).1
 try simp -dsimp only[go_sem]
 refine aG.intro fun p h=>?_;have n4_3:=(ag h).1;have n4_2:=(ag (ag h).2).1;simp -dsimp only[go_sem,aa,aj n4_3];refine(jB c om).call ?_;rw[Bn d];simp -dsimp only[go_sem,aa,aj n4_3,show((1:Int)==0)=false from rfl];refine(jB c om).call ?_;rw[Bn d];simp -dsimp only[go_sem,aa,aj n3_2,aj n4_2,aj n4_3,show ¬((1:Int)<0) by decide]
 refine(Ob f c om).call ?_;simp -dsimp only[go_sem];refine aG.intro fun q e=>?_;have n6_4:=(ag e).1;have n6_3:=(ag (ag e).2).1;have n6_2:=(ag (ag (ag e).2).2).1;simp -dsimp only[go_sem,aa];refine bF 7 kr ?_
 simp only[go_sem,aa,aj n3_2,aj n4_2,aj n4_3,aj n6_2,aj n6_3,aj n6_4,bR];refine⟨_,(nB f g om om).pure',_,(nB c g om om).pure',?_⟩;simp only[go_sem,iU,ee,bH,bW,cC,cW,bI,bB,eO,cb];exact VR.tup2 (VR.agg (by simp[pq])) (VR.mf rfl)
def mL(d:nb a k)(e:nb b k)(f:k<=500000000)(g:0<b):PF 220 [.agg [.big a,.big b]] (.agg [.big (rN a b),.big (rD a b)]):=by
 refine iQ func220 ntmps220 results220 ?_;simp -dsimp only[go_sem,bH,bW,cC,cW];refine aG.intro fun i j=>?_
 try simp -dsimp only[go_sem]
 refine aG.intro fun l h=>?_;have n2_1:=(ag h).1;simp -dsimp only[go_sem,aa,aj n2_1,bI,bB];refine(M7 d e f g).call ?_;simp -dsimp only[go_sem,bI,bB];refine aG.intro fun m c=>?_;have n3_2:=(ag c).1;have n3_1:=(ag (ag c).2).1;simp only[go_sem,aa,aj n3_2,iU,ee,bH,bW,cC,cW,bI,bB,eO,cb];exact VR.agg (by simp[pq])
def PS:PF 219 [] (.agg [.big 1,.big 2]):=by
 refine iQ func219 ntmps219 results219 ?_
 try simp -dsimp only[go_sem]
 refine aG.intro fun a b=>?_;simp -dsimp only[go_sem,aa];refine(gG dc dc).call ?_
 simp -dsimp only[go_sem,aa];refine(gG dc dc).call ?_
 simp only[go_sem,aa,iU,ee,bH,bW,cC,cW,bI,bB,eO,cb];exact VR.agg (by simp[pq])
def Nf(d:nb a k)(e:nb b k)(g:k<=500000000)(c:0<b):PF 217 [.agg [.big a,.big b]] (.big (a/b)):=by
 refine iQ func217 ntmps217 results217 ?_;simp -dsimp only[go_sem,bH,bW,cC,cW];refine aG.intro fun j l=>?_
 try simp -dsimp only[go_sem]
 refine aG.intro fun m h=>?_;have n2_1:=(ag h).1;simp -dsimp only[go_sem,aa,aj n2_1,ee,bI,bB];refine(mL d e g c).call ?_;simp -dsimp only[go_sem];refine aG.intro fun n f=>?_;have n3_2:=(ag f).1;have n3_1:=(ag (ag f).2).1;simp -dsimp only[go_sem,aa,iU,ee,bH,bW,cC,cW,bI,bB,eO,cb];have i:=ph (a:=a) c;refine(nB (yI c d) (yJ c e) om om).call ?_;simp only[go_sem,aa,aj n3_2,bR,iU,bI,bB,eO,cb];rw[nJ i c Ih];exact VR.mf rfl
def Fw(d:nb a k)(e:nb b k)(f:k<=500000000)(g:0<b):PF 170 [.big a,.big b] (.agg [.big (rN a b),.big (rD a b)]):=by
 refine iQ func170 ntmps170 results170 ?_
 try simp -dsimp only[go_sem]
 refine aG.intro fun i j=>?_
 try simp -dsimp only[go_sem]
 refine aG.intro fun l h=>?_;have n3_2:=(ag h).1
 try simp -dsimp only[go_sem]
 refine aG.intro fun m c=>?_;have n4_3:=(ag c).1;have n4_2:=(ag (ag c).2).1;simp -dsimp only[go_sem,aa,aj n3_2,aj n4_2,aj n4_3];refine(mL d e f g).call ?_;simp only[go_sem,aa,iU,ee,bH,bW,cC,cW,bI,bB,eO,cb];exact VR.agg (by simp[pq])
def Sf(o:nb a k)(p:nb b k)(q:nb c k)(r:nb d k)(w:k<=100000000)(h:0<b)(i:0<d) :
  PF 218 [.agg [.big a,.big b],.agg [.big c,.big d]] (.agg [.big (rN (rN a b*rD c d+rN c d*rD a b) (rD a b*rD c d)),.big (rD (rN a b*rD c d+rN c d*rD a b) (rD a b*rD c d))]):=by
 refine iQ func218 ntmps218 results218 ?_;have t:=ph (a:=a) h;have u:=ph (a:=c) i;have l:=yI h o;have e:=yJ (a:=a) h p;have m:=yI i q;have f:=yJ (a:=c) i r;simp -dsimp only[go_sem,bH,bW,cC,cW];refine aG.intro fun x y=>?_
 try simp -dsimp only[go_sem]
 refine aG.intro fun z v=>?_;have n3_2:=(ag v).1
 try simp -dsimp only[go_sem]
 refine aG.intro fun A s=>?_;have n4_3:=(ag s).1;have n4_2:=(ag (ag s).2).1;simp -dsimp only[go_sem];refine bF 6 kr ?_
 simp -dsimp only[go_sem,aa,aj n3_2,aj n4_2,aj n4_3,ee,bI,bB];refine⟨_,(mL o p om h).pure',_,(mL q r om i).pure',?_⟩;refine aG.intro fun B n=>?_;have n5_4:=(ag n).1;have n5_3:=(ag (ag n).2).1;have n5_2:=(ag (ag (ag n).2).2).1
 try simp -dsimp only[go_sem]
 refine aG.intro fun C j=>?_;have n6_5:=(ag j).1;have n6_4:=(ag (ag j).2).1;have n6_3:=(ag (ag (ag j).2).2).1;have n6_2:=(ag (ag (ag (ag j).2).2).2).1;simp -dsimp only[go_sem,nn n6_5,bH,bW,cC,cW];refine oT 21 [[19]] kr ?_
 simp -dsimp only[go_sem,aa,aj n6_5,iU,ee,bH,bW,cC,cW,bI,bB,eO,cb];refine⟨_,(iX l f om).pure',_,(iX m e om).pure',_,(sS (l.mul f) (m.mul e) om).pure',_,(iX e f om).pure',_,(M7 (k:=k+k+1) ((l.mul f).add (m.mul e)) ((e.mul f).mono om) om (ou t u)).pure',?_⟩;simp -dsimp only[go_sem];refine aG.intro fun D g=>?_;have n7_6:=(ag g).1;have n7_5:=(ag (ag g).2).1;have n7_4:=(ag (ag (ag g).2).2).1;have n7_3:=(ag (ag (ag (ag g).2).2).2).1;have n7_2:=(ag (ag (ag (ag (ag g).2).2).2).2).1;simp only[go_sem,aj n5_4,aj n6_4,aj n7_2,iU,bH,bW,cC,cW,bI,bB,eO,cb];exact VR.agg (by simp[pq])
def Ot(c:0<b):(rN a b*rD 1 2+rN 1 2*rD a b)/(rD a b*rD 1 2)=(2*a+b)/(2*b):=by
 have d:rN 1 2=1:=by decide
 have e:rD 1 2=2:=by decide
 have f:=ph (a:=a) c;have g:=Ih (a:=a) (b:=b);rw[d,e];refine nJ om om ?_
 grind
def He(e:nb a k)(f:nb b k)(t:k<=10000000)(l:4<=k)(d:0<b):PF 169 [.agg [.big a,.big b]] (.big ((2*a+b)/(2*b))):=by
 refine iQ func169 ntmps169 results169 ?_;have g:nb 1 k:=nb.one om;have h:nb 2 k:=dr (by decide:2<2^2) (bZ om om)
 have m:=ph (a:=a) d;have n:0<rD 1 2:=by decide
 have o:=yI d e;have i:=yJ (a:=a) d f;have p:nb (rN 1 2) k:=yI dc g
 have j:nb (rD 1 2) k:=yJ dc h
 have q:=((o.mul j).add (p.mul i));have r:=((i.mul j).mono (om:k+k<=k+k+1))
 have c:=ou m n;simp -dsimp only[go_sem,bH,bW,cC,cW];refine aG.intro fun u v=>?_
 try simp -dsimp only[go_sem]
 refine aG.intro fun w s=>?_;have n2_1:=(ag s).1;simp -dsimp only[go_sem];refine bF 4 kr ?_
 simp only[go_sem,aa,aj n2_1,bR,ee,bI,bB];refine⟨_,PS.pure',_,(Sf e f g h om d dc).pure',_,(Nf (k:=k+k+1) (yI c q) (yJ c r) om (ph c)).pure',?_⟩
 simp only[go_sem];rw[nJ (ph c) c Ih,Ot d];exact VR.mf rfl

def fD.cons(h:VA S x y)(a:fD S l r):fD S (x::l) (y::r):=⟨h,a⟩
def cV.blk{e:Nat}{g:Nat->AV}(h:cV e es S0 S x j g){d:Nat}(f:d5 x d):∃X,S d=some X:=by
 obtain⟨_,_,_,a⟩:=f;rcases h.2 with⟨_,b⟩|⟨c,_,b,g',i,_⟩
 .rw[b]at a;cases a
 .rw[b]at a;cases a;exact⟨_,i⟩
def cV.keep{e:Nat}{S':St}{g:Nat->AV}(h:cV e es S0 S y j g)(c:eQ S0 S')(f:∀d X,S d=some X->¬d5 x d->S' d=some X)(i:∀d,d5 y d->¬d5 x d):cV e es S0 S' y j g :=
 h.step c (fun d a=>by obtain⟨X,b⟩:=h.blk a;rw[b];exact f d X b (i d a))
def vH(n i j:Nat)(A:aJ)(W:Nat)(h1:j<=i)(h2:i<n)(h3:n<=16)(hA:∀i j,i<n->j<n->nb (A i j) W)(hk:W<=10000000):PF 171 [aQ n n A,.int .i64 i,.int .i64 j] (.big (kt A i j)):=by
 refine iQ func171 ntmps171 results171 ?_
 try simp -dsimp only[go_sem]
 refine aG.intro fun D f6=>?_;simp only[go_sem];refine aH (fun O S=>∃(a:Nat) (x y:AV),a<=j/\O 0=aQ n n A/\O 1=.int .i64 i/\O 2=.int .i64 j/\O 6=.ptr 2 D 0/\O 7=x/\O 8=y/\O 9=.int .i64 a/\dT S D 50 2 (.big 0)/\cV 3 1 St.none S x a (fun a=>.int .i64 a)/\cV 3 1 St.none S y a (fun a=>.int .i64 a)/\∀d,d5 x d->¬d5 y d) (fun O S=>j-ca (O 9)) ?_ ?_
 .simp only[go_sem];exact⟨0,om,rfl,dT.new rfl,cV.nil (eQ.noneS _) _,cV.nil (eQ.noneS _) _,fun d h=>by obtain⟨_,_,_,e⟩:=h;cases e⟩
 .rintro O S ⟨a,x,y,Z,e0,e1,e2,e6,e7,e8,e9,V6,P,H,E⟩;obtain⟨g6,N,v6⟩:=V6;have Q:=P.other N om;have R:=H.other N om;by_cases hlt:a<j
  .simp -dsimp only[*,go_sem];refine aG.intro fun I f=>?_;simp -dsimp only[*,go_sem];have r:=P.fresh f;have s:=H.fresh f;have t:D≠I:=fun e=>by rw[<-e,N]at f;cases f
   refine cV.app3 (P.upd (by rfl) r _) om (show eg 1 (.int .i64 (a:Int)) by simp[eg]) (bO ⟨_,_,_,rfl,ci,rfl,fun h=>r _ h rfl⟩) ?_
   intro c S2 o u J;have v:=u D _ (by rw[aN t];exact N) Q
   have w:cV 3 1 St.none S2 y a (fun a=>.int .i64 a):=(H.upd (by rfl) s _).keep (eQ.noneS _) u (fun d l b=>E d b l)
   have F:¬d5 y c:=by
    intro G;rcases J with h|h
    .exact E c h G
    .obtain⟨X,z⟩:=H.blk G;rw[aN (s c G),z]at h;cases h
   simp -dsimp only[*,go_sem];refine aG.intro fun K g=>?_;simp -dsimp only[*,go_sem];have m:=o.fresh g;have k:=w.fresh g;have B:D≠K:=fun e=>by rw[<-e,v]at g;cases g
   refine cV.app3 (w.upd (by rfl) k _) om (show eg 1 (.int .i64 (a:Int)) by simp[eg]) (bO ⟨_,_,_,rfl,ci,rfl,fun h=>k _ h rfl⟩) ?_
   intro c2 S3 L C T;have U:=C D _ (by rw[aN B];exact v) R
   have M:=(o.upd (by rfl) m _).keep (eQ.noneS _) C (fun d l b=>by rw[eR]at l;rw[l]at b;exact F b)
   simp only[*,go_sem,aT (om:a<1000000),ca]
   refine⟨⟨a+1,om,rfl,⟨g6,U,v6⟩,M.congr fun a Z=>by grind,L.congr fun a Z=>by grind,fun d l b=>?_⟩,om⟩
   rw[eR]at l b;subst l;subst b;rcases T with h|h
   .exact F h
   .obtain⟨X,z⟩:=o.blk (eR.2 rfl);rw[aN (m _ (eR.2 rfl)),z]at h;cases h
  .obtain rfl:a=j:=om
   simp -dsimp only[*,go_sem];refine aG.intro fun I f=>?_;simp -dsimp only[*,go_sem];have r:=P.fresh f;have s:=H.fresh f;have t:D≠I:=fun e=>by rw[<-e,N]at f;cases f
   refine cV.app3 (P.upd (by rfl) r _) om (show eg 1 (.int .i64 (i:Int)) by simp[eg]) (bO ⟨_,_,_,rfl,ci,rfl,fun h=>r _ h rfl⟩) ?_
   intro c S2 o u J;have v:=u D _ (by rw[aN t];exact N) Q
   have w:cV 3 1 St.none S2 y a (fun a=>.int .i64 a):=(H.upd (by rfl) s _).keep (eQ.noneS _) u (fun d l b=>E d b l)
   have F:¬d5 y c:=by
    intro G;rcases J with h|h
    .exact E c h G
    .obtain⟨X,z⟩:=H.blk G;rw[aN (s c G),z]at h;cases h
   simp -dsimp only[*,go_sem];refine aG.intro fun K g=>?_;simp -dsimp only[*,go_sem];have m:=o.fresh g;have k:=w.fresh g;have B:D≠K:=fun e=>by rw[<-e,v]at g;cases g
   refine cV.app3 (w.upd (by rfl) k _) om (show eg 1 (.int .i64 (a:Int)) by simp[eg]) (bO ⟨_,_,_,rfl,ci,rfl,fun h=>k _ h rfl⟩) ?_
   intro c2 S3 L C T;have U:=C D _ (by rw[aN B];exact v) R
   have M:=(o.upd (by rfl) m _).keep (eQ.noneS _) C (fun d l b=>by rw[eR]at l;rw[l]at b;exact F b)
   simp -dsimp only[*,go_sem,aa];have hF:∀c,c<a+1->fst a i c<n:=fun c G=>by unfold fst;split<;>omega
   have V:∀c,c<a+1->fst a a c<n:=fun c G=>by unfold fst;split<;>omega
   have vx:VR S3 (.sl 1 c 0 (a+1)) (aV (a+1) (fun q=>(fst a i q:Nat))):=M.vr (fun q Y=>by
    have:(if q=a then AV.int .i64 (i:Int)else .int .i64 (q:Int))=.int .i64 ((fst a i q:Nat):Int):=by
     unfold fst;by_cases e:q=a
     .subst e;simp
     .rw[af e,ai om]
    rw[this];exact VR.mf rfl)
   have vy:VR S3 (.sl 1 c2 0 (a+1)) (aV (a+1) (fun q=>(fst a a q:Nat))):=L.vr (fun q Y=>by
    have:(if q=a then AV.int .i64 (a:Int)else .int .i64 (q:Int))=.int .i64 ((fst a a q:Nat):Int):=by
     unfold fst;by_cases e:q=a
     .subst e;simp
     .rw[af e,ai om]
    rw[this];exact VR.mf rfl)
   refine(BW n n (a+1) (a+1) A (fst a i) (fst a a) om om om om hF V).pf.spec (fD.same (fD.cons vx.va (fD.cons vy.va fD.nil))) ?_;simp -dsimp only[*,go_sem,aa];refine(jY (a+1) _ W om om (fun p q hp Y=>hA _ _ (hF p hp) (V q Y)) hk).call ?_;simp only[*,go_sem,aa,bR];have l:=IR A a (i-a) 0;simp only[(om:a+(i-a)=i),cu]at l
   rw[l];exact VR.mf rfl
def oO(n k:Nat)(A:aJ)(b:n<=16)(c:k<=n):PF 172 [a8 n (fun k=>det (k+1) A),.int .i64 k] (.big (det k A)):=by
 refine iQ func172 ntmps172 results172 ?_
 try simp -dsimp only[go_sem]
 refine aG.intro fun d e=>?_;by_cases a:k=0
 .subst a;simp -dsimp only[go_sem,aa,show((0:Nat):Int)=0 from rfl,eS];refine(gG dc dc).call ?_
  simp only[go_sem,aa,bR];exact VR.mf rfl
 .obtain⟨m,rfl⟩:∃m,k=m+1:=⟨k-1,om⟩
  have f:(((m+1:Nat):Int)==0)=false:=by simp;omega
  have g:IntKind.i64.wrap (((m+1:Nat):Int)-1)=(m:Nat):=dM om om;simp only[*,go_sem,aa,a8,(om:m<n),bR]
  exact VR.mf rfl
def C7:decide (lA a b<=0)=decide (a<=b):=by
 unfold lA;rcases fm a b with h|h|h
 .rw[ai h];simp;omega
 .subst h;simp
 .rw[af om,ai h];simp;omega
def Pg:decide (0<=lA a b)=decide (b<=a):=by
 unfold lA;rcases fm a b with h|h|h
 .rw[ai h];simp;omega
 .subst h;simp
 .rw[af om,ai h];simp;omega
def nG{A:aJ}(d:n<=16)(c:∀i j,i<n->j<n->nb (A i j) k0)(e:k<=n):nb (det k A) (17*(k0+10)) :=
 (rZ k A om (fun a b f g=>c a b om om)).mono (by have:k*(k0+10)<=16*(k0+10):=aC _ om;omega)
def Gs{A:aJ}{i:Nat}(d:n<=16)(c:∀i j,i<n->j<n->nb (A i j) k0)(e:j<=i)(f:i<n):nb (kt A i j) (17*(k0+10)):=by
 unfold kt;refine(rZ (j+1) _ om (fun a b g h=>c _ _ ?_ ?_)).mono (by have:(j+1)*(k0+10)<=16*(k0+10):=aC _ om;omega)
 .rw[ra];split<;>omega
 .rw[ra];split<;>omega
def Fu(n i j:Nat)(A:aJ)(a:Nat)(f:j<i)(g:i<n)(d:n<=16)(e:∀i j,i<n->j<n->nb (A i j) a)(l:a<=10000000):PF 119 [aQ n n A,a8 n (fun k=>det (k+1) A),.int .i64 i,.int .i64 j] (.bool (decide (2*((kt A i j).natAbs:Int)<=det (j+1) A))):=by
 refine iQ func119 ntmps119 results119 ?_;have h:=Gs d e (dw f) g;have b:nb ((kt A i j).natAbs:Int) (17*(a+10)):=nb.of_le sm h
 have m:=nG (k:=j+1) d e om;have c:nb 2 (17*(a+10)):=dr (by decide:2<2^2) (bZ om om)
 simp -dsimp only[go_sem,aa];refine(gG dc dc).call ?_
 simp -dsimp only[go_sem,aa];refine(vH n i j A a (dw f) g d e l).call ?_;simp -dsimp only[go_sem,aa];refine(xC h om).call ?_;simp -dsimp only[go_sem,aa];refine(iX c b om).call ?_;simp -dsimp only[go_sem,aa,aT (om:j<1000000)]
 refine(oO n (j+1) A d om).call ?_;simp -dsimp only[go_sem,aa];refine(pg (c.mul b) (m.mono om) om).call ?_;simp only[go_sem,C7];exact VR.mf rfl
def Bk(n:Nat)(A:aJ)(a:Nat)(d:1<=n)(b:n<=16)(c:∀i j,i<n->j<n->nb (A i j) a)(e:a<=10000000):PF 57 [aQ n n A] (.bool (decide (det n A<=10000))):=by
 refine iQ func57 ntmps57 results57 ?_;have f:=nG (k:=n) b c (ae _);have g:nb 10000 (17*(a+10)):=dr (by decide:10000<2^14) (bZ om om)
 simp -dsimp only[go_sem,aa];refine(jY n A a d b c e).call ?_;simp -dsimp only[go_sem,aa];refine(gG dc dc).call ?_
 simp -dsimp only[go_sem,aa];refine(pg f g om).call ?_;simp only[go_sem,C7];exact VR.mf rfl
def tY(n:Nat)(A T:aJ)(k:Nat)(a:1<=n)(c:n<=16)(h:∀i j,i<n->j<n->nb (A i j) k)(f:∀i j,i<n->j<n->nb (T i j) k)(p:k<=100000000):MF 113 [aQ n n A,aQ n n T] n n (li n (li n (fun i j=>T j i) A) T):=by
 refine MF.of (jr func113 ntmps113 results113 ?_);have m:∀i j,i<n->j<n->nb (li n (fun i j=>T j i) A i j) (k+k+10):=fun i j d e=>CH (fun q l=>(f q i l d).mul (h q j l e)) om n (ae _);simp -dsimp only[go_sem,aa];refine(pE n n T k a c a c f om).pf.call ?_;simp -dsimp only[go_sem,aa];refine(lT n n n (fun i j=>T j i) A k a c a c a c (fun i j d e=>f j i e d) h om).pf.call ?_;simp -dsimp only[go_sem,aa];refine(lT n n n _ T (k+k+10) a c a c a c m (fun i j d e=>(f i j d e).mono om) om _ _ (cI _ _)).mono ?_;rintro r S1 ⟨b,g,rfl,o⟩;simp only[go_sem];exact⟨b,rfl,g,o.1⟩

def Ez(h:z.natAbs<16)(a:4<=k):nb z k:=dr h (by have:=bZ (n:=2) om a;omega)
def B4(n i:Nat)(A:aJ)(b:Nat)(t:0<i)(l:i<n)(a:n<=16)(e:∀i j,i<n->j<n->nb (A i j) b)(r:b<=10000000):PF 120 [aQ n n A,a8 n (fun k=>det (k+1) A),.int .i64 i] (.bool (decide (3*(det i A*det i A)<=4*(det (i-1) A*det (i+1) A+kt A i (i-1)*kt A i (i-1))))):=by
 refine iQ func120 ntmps120 results120 ?_;obtain⟨m,rfl⟩:∃m,i=m+1:=⟨i-1,om⟩
 rw[fx];have f:IntKind.i64.wrap (((m+1:Nat):Int)-1)=(m:Nat):=dM om om;have c:=Gs (i:=m+1) (j:=m) a e om l;have g:=nG (k:=m) a e om;have d:=nG (k:=m+1) a e om;have h:=nG (k:=m+1+1) a e om;have o:nb 4 (17*(b+10)+17*(b+10)+1):=Ez dc om
 have p:nb 3 (17*(b+10)+17*(b+10)):=Ez dc om
 have q:=(g.mul h).add (c.mul c);simp -dsimp only[go_sem,aa,f];refine(vH n (m+1) m A b om l a e r).call ?_;simp -dsimp only[go_sem];refine aG.intro fun u v=>?_;simp -dsimp only[go_sem,aa,f];refine bF 16 kr ?_
 simp -dsimp only[go_sem,aa,f,aT (om:m+1<1000000),bR]
 refine⟨_,(gG dc dc).pure',_,(oO n m A a om).pure',_,(oO n (m+1+1) A a om).pure',_,(iX g h om).pure',_,(iX c c om).pure',_,(sS (g.mul h) (c.mul c) om).pure',_,(iX o q om).pure',?_⟩
 refine aG.intro fun w s=>?_;have n8_7:=(ag s).1;simp -dsimp only[go_sem];refine bF 13 kr ?_
 simp only[go_sem,aa,bR];refine⟨_,(gG dc dc).pure',_,(oO n (m+1) A a om).pure',_,(oO n (m+1) A a om).pure',_,(iX d d om).pure',_,(iX p (d.mul d) om).pure',_,(pg (o.mul q) ((p.mul (d.mul d)).mono om) om).pure',?_⟩
 simp only[go_sem,Pg];exact VR.mf rfl
def Ie:decide (a.sign<=0)=decide (a<=0):=by
 rcases fm a 0 with h|h|h
 .rw[eB h];simp;omega
 .subst h;simp
 .rw[cX h];simp;omega
def FC(n:Nat)(A:aJ)(c:Nat)(l:1<=n)(f:n<=16)(g:∀i j,i<n->j<n->nb (A i j) c)(d:c<=10000000)(m:∀a b,a<n->b<n->A a b=A b a)(β:Bool)(hβ:β=true↔∀k,k<=n->0<det k A):PF 117 [aQ n n A] (.bool β):=by
 refine iQ func117 ntmps117 results117 ?_;simp -dsimp only[go_sem,aa];refine(r7 n A c l f g d).call ?_;simp -dsimp only[go_sem,aa,a8];refine(sM n A c f g d m).call ?_;simp only[go_sem];refine aH (fun O S=>∃i:Nat,i<=n/\O 19=a8 n (fun k=>det (k+1) A)/\O 20=.int .i64 n/\O 21=.int .i64 i/\∀k,k<=i->0<det k A) (fun O S=>n-ca (O 21)) ?_ ?_
 .simp only[go_sem,a8];exact⟨0,om,rfl,fun k d=>by rw[(om:k=0)];simp[det]⟩
 .rintro O S ⟨i,t,o,p,q,h⟩;by_cases r:i<n
  .have s:=nG (k:=i+1) f g om;simp -dsimp only[*,go_sem,a8];refine aG.intro fun u v=>?_;simp -dsimp only[go_sem,aa,bR];refine(jB s om).call ?_;by_cases w:det (i+1) A<=0
   .simp only[*,go_sem,a8,Ie];have:β=false:=by
     cases β with
     | false=>rfl
     | true=>have:=hβ.1 rfl (i+1) om;omega
    rw[this];exact VR.mf rfl
   .simp only[*,go_sem,a8,Ie,aT (om:i<1000000),ca]
    refine⟨⟨i+1,om,rfl,fun k d=>?_⟩,om⟩
    by_cases e:k=i+1
    .rw[e];omega
    .exact h k om
  .obtain rfl:i=n:=om
   simp only[*,go_sem,a8];have:β=true:=hβ.2 h;rw[this];exact VR.mf rfl
def nR(n:Nat)(A:aJ)(c:Nat)(d:1<=n)(h:n<=8)(e:∀i j,i<n->j<n->nb (A i j) c)(f:c<=10000000)(g:∀a b,a<n->b<n->A a b=A b a)(β:Bool)(hβ:β=true↔∀k,k<=n->0<det k A):PF 56 [aQ n n A] (.int .i64 (if β then 0 else 5)):=by
 refine iQ func56 ntmps56 Tq ?_;simp -dsimp only[go_sem,aa];refine(qQ n A d om).call ?_;simp -dsimp only[go_sem,aa,(om:¬((8:Int)<n))]
 refine(sM n A c om e f g).call ?_;simp -dsimp only[go_sem,aa];refine(FC n A c d om e f g β hβ).call ?_
 cases β
 .simp only[go_sem];exact VR.mf rfl
 .simp only[go_sem];exact VR.mf rfl

inductive Ev where
 | size (i j:Nat)
 | swap (i:Nat)
 | done
def vL(A:aJ)(n:Nat):Ev->Prop
 | .size i j=>j<i/\i<n/\jG A i/\(∀j',j<j'->j'<i->iu A i j')/\¬iu A i j
 | .swap i=>0<i/\i<n/\jG A i/\(∀j',j'<i->iu A i j')/\¬ij A i
 | .done=>jG A n
def jT(n:Nat):Ev->Nat
 | .size i _=>i
 | .swap i=>i
 | .done=>n
def IL(A:aJ)(i j:Nat):Int:=- ((2*kt A i j+det (j+1) A)/(2*det (j+1) A))
def Qj(A:aJ):Ev->aJ
 | .size i j=>eV kd j i (IL A i j)
 | .swap i=>fun a b=>kd (dG (i-1) i a) b
 | .done=>kd
def evV(n:Nat)(A:aJ)(ev:Ev):AV:=match ev with
 | .done=>.tup [.nil,.bool false]
 | e=>.tup [aQ n n (Qj A e),.bool true]
def vL.ok{A:aJ}{ev:Ev}(h:vL A n ev):jG A (jT n ev)/\jT n ev<=n:=by
 cases ev with
 | size i j=>exact⟨h.2.2.1,dw h.2.1⟩
 | swap i=>exact⟨h.2.2.1,dw h.2.1⟩
 | done=>exact⟨h,ae _⟩
def OL(A:aJ)(n:Nat):∃ev,vL A n ev:=by
 have key:∀i,i<=n->jG A i∨∃ev,vL A n ev:=by
  intro i
  induction i with
  | zero=>intro _;exact bM ⟨fun r d=>om,fun r _ d=>om⟩
  | succ i ih =>
   intro m;rcases ih om with h|h
   .have row:∀t,t<=i->(∀j',i-t<=j'->j'<i->iu A i j')∨∃ev,vL A n ev:=by
     intro t
     induction t with
     | zero=>intro _;exact bM (fun j' a b=>om)
     | succ t iht =>
      intro o;rcases iht om with a|a
      .rcases io (iu A i (i-(t+1)))with b|b
       .refine bM (fun j' f g=>?_);by_cases e:j'=i-(t+1)
        .rw[e];exact b
        .exact a j' om g
       .exact bO ⟨.size i (i-(t+1)),om,om,h,fun j' f g=>a j' om g,b⟩
      .exact bO a
    rcases row i (ae _)with a|a
    .have k:∀j',j'<i->iu A i j':=fun j' c=>a j' om c;rcases aX i with l|l
     .refine bM ⟨fun r d j c=>?_,fun r b d=>om⟩
      omega
     .rcases io (ij A i)with b|b
      .refine bM ⟨fun r d j c=>?_,fun r f d=>?_⟩
       .by_cases e:r=i
        .rw[e]at c ⊢;exact k j c
        .exact h.1 r om j c
       .by_cases e:r=i
        .rw[e];exact b
        .exact h.2 r f om
      .exact bO ⟨.swap i,l,om,h,k,b⟩
    .exact bO a
   .exact bO h
 rcases key n (ae _)with h|h
 .exact⟨.done,h⟩
 .exact h
def dA.swap'{b:Nat}(h:dA S b g n m A){p k:Nat}(d:p<n)(e:k<n)(a:p≠k){c:Nat->AV}(f:S b=some ⟨59,1,n,c⟩) :
  dA ((S.upd b ⟨59,1,n,bR c p (.sl 2 (g k) 0 m)⟩).upd b ⟨59,1,n,bR (bR c p (.sl 2 (g k) 0 m)) k (.sl 2 (g p) 0 m)⟩) b (fun i=>g (dG k p i)) n m (fun i j=>A (dG k p i) j):=by
 rw[lU];exact h.swap d e a f
def Cu(n:Nat)(A:aJ)(s:Nat)(h1:1<=n)(h2:n<=8)(E:∀i j,i<n->j<n->nb (A i j) s)(hk:s<=500000)(G:∀k,k<=n->0<det k A)(ev:Ev)(t:vL A n ev):PF 112 [aQ n n A] (evV n A ev):=by
 refine iQ func112 ntmps112 results112 ?_;obtain⟨v,hrn⟩:=t.ok;simp -dsimp only[go_sem,aa];refine(r7 n A s h1 om E om).call ?_;simp -dsimp only[go_sem,aa,aQ];refine(qL n h1 om _ _ (cI _ _)).mono ?_;rintro r S1 ⟨b,g,rfl,H⟩;simp only[go_sem];refine aH (fun O S=>∃i:Nat,i<=jT n ev/\O 0=aQ n n A/\O 4=a8 n (fun k=>det (k+1) A)/\O 6=.sl 1 b 0 n/\O 22=.int .i64 n/\O 23=.int .i64 i/\S=S1) (fun O S=>n-ca (O 23)) ?_ ?_
 .simp only[go_sem,aQ,a8];exact⟨0,om,rfl⟩
 .rintro O S ⟨i,hi,e0,e4,Q,I,J,rfl⟩;by_cases f:i<n
  .have hw:IntKind.i64.wrap ((i:Int)-1)=(i:Int)-1:=i64_in om om;simp only[*,go_sem];refine aH (fun O S'=>∃jj:Nat,jj<=i/\(∀j',jj<=j'->j'<i->iu A i j')/\(∀j,ev=.size i j->j<jj)/\O 0=aQ n n A/\O 4=a8 n (fun k=>det (k+1) A)/\O 6=.sl 1 b 0 n/\O 8=.int .i64 i/\O 9=.int .i64 ((jj:Int)-1)/\O 22=.int .i64 n/\O 23=.int .i64 i/\S'=S) (fun O S=>match O 9 with|.int _ z=>(z+1).toNat|_=>0) ?_ ?_
   .simp only[*,go_sem];refine⟨i,om,fun j' R F=>om,fun j K=>?_,rfl⟩
    subst K;exact t.1
   .rintro O S' ⟨jj,hjj,L,w,e0,e4,Q,e8,T,I,J,rfl⟩;rcases aX jj with h0|h0
    .subst h0;have hall:∀j',j'<i->iu A i j':=fun j' K=>L j' om K;have M:∀j,ev≠.size i j:=fun j K=>by have:=w j K;omega
     have U:¬((0:Int)<=((0:Nat):Int)-1):=om
     rcases aX i with u|u
     .subst u;have V:(0:Nat)≠jT n ev:=fun e=>by
       cases ev with
       | size a c=>have:=t.1;simp only[jT]at e;omega
       | swap a=>have:=t.1;simp only[jT]at e;omega
       | done=>simp only[jT]at e;omega
      simp -dsimp only[go_sem,aa,e0,e4,Q,e8,T,I,J,show((0:Nat):Int)=0 from rfl,NC,show IntKind.i64.wrap ((0:Int)+1)=1 from rfl,ca];refine⟨⟨1,om,rfl⟩,?_⟩
      simp;omega
     .have hi0':(0:Int)<(i:Int):=om
      simp -dsimp only[*,go_sem,aa];refine(B4 n i A s u f om E om).call ?_;by_cases N:ij A i
      .have x:decide (3*(det i A*det i A)<=4*(det (i-1) A*det (i+1) A+kt A i (i-1)*kt A i (i-1)))=true:=by simpa [ij]using N
       rw[x];simp only[*,go_sem,aT (om:i<1000000),ca]
       have V:i≠jT n ev:=fun e=>by
        cases ev with
        | size a c=>simp only[jT]at e;subst e;exact M c rfl
        | swap a=>simp only[jT]at e;subst e;exact t.2.2.2.2 N
        | done=>simp only[jT]at e;omega
       exact⟨⟨i+1,om,rfl⟩,om⟩
      .have x:decide (3*(det i A*det i A)<=4*(det (i-1) A*det (i+1) A+kt A i (i-1)*kt A i (i-1)))=false:=by simpa [ij]using N
       rw[x];have o:ev=.swap i:=by
        have d:i=jT n ev:=by
         rcases aA i (jT n ev)with h|h
         .exact absurd (v.2 i u h) N
         .omega
        cases ev with
        | size a c=>simp only[jT]at d;subst d;exact absurd rfl (M c)
        | swap a=>simp only[jT]at d;rw[d]
        | done=>simp only[jT]at d;omega
       subst o;obtain⟨m,rfl⟩:∃m,i=m+1:=⟨i-1,om⟩
       have W:IntKind.i64.wrap (((m+1:Nat):Int)-1)=(m:Nat):=dM om om;have y:m<n:=om
       obtain⟨X,Y,P⟩:=H.1.outer;have w1:X (m+1)=.sl 2 (g (m+1)) 0 n:=P (m+1) f;have w2:X m=.sl 2 (g m) 0 n:=P m y;simp -dsimp only[*,go_sem];refine fu 15 [[2,3,4]] kr ?_
       simp only[go_sem,aa,Q,e8,f,W,Y,w1,w2,y];have Z:=H.1.swap' (p:=m+1) (k:=m) f y om Y;exact VR.tup2 (Z.vr) (VR.mf rfl)
    .obtain⟨j,rfl⟩:∃j,jj=j+1:=⟨jj-1,om⟩
     have e9':O 9=.int .i64 (j:Int):=by rw[T];congr 1;omega
     clear T;simp -dsimp only[*,go_sem,aa];refine(Fu n i j A s om f om E om).call ?_;by_cases B:iu A i j
     .have C:decide (2*((kt A i j).natAbs:Int)<=det (j+1) A)=true:=by simpa [iu]using B
      rw[C];have hw2:IntKind.i64.wrap ((j:Int)-1)=(j:Int)-1:=i64_in om om;simp only[*,go_sem];refine⟨⟨j,om,fun j' R F=>?_,fun c U=>?_,rfl⟩,om⟩
      .by_cases e:j'=j
       .rw[e];exact B
       .exact L j' om F
      .have R:=w c U;have F:c≠j:=fun e=>by
        subst e;subst U;exact t.2.2.2.2 B
       omega
     .have C:decide (2*((kt A i j).natAbs:Int)<=det (j+1) A)=false:=by simpa [iu]using B
      rw[C];have o:ev=.size i j:=by
       have d:i=jT n ev:=by
        rcases aA i (jT n ev)with h|h
        .exact absurd (v.1 i h j om) B
        .omega
       cases ev with
       | size a c =>
        simp only[jT]at d;subst d;have R:=w c rfl;rcases aA c j with F|F
        .exact absurd (t.2.2.2.1 j F om) B
        .rw[(om:c=j)]
       | swap a=>simp only[jT]at d;subst d;exact absurd (t.2.2.2.1 j om) B
       | done=>simp only[jT]at d;omega
      subst o;have D:j<n:=om
      have l:=Gs (n:=n) (i:=i) (j:=j) om E om f;have hd:=nG (k:=j+1) (n:=n) om E om;have q:=G (j+1) om;have hnear:(2*rN (kt A i j) (det (j+1) A)+rD (kt A i j) (det (j+1) A))/(2*rD (kt A i j) (det (j+1) A))=(2*kt A i j+det (j+1) A)/(2*det (j+1) A):=by
       have hp:=ph (a:=kt A i j) q;have hr:=Ih (a:=kt A i j) (b:=det (j+1) A);refine nJ om om ?_
       grind
      have hnq:nb ((2*kt A i j+det (j+1) A)/(2*det (j+1) A)) (17*(s+10)+1+1):=by
       have h5:nb (2*kt A i j) (17*(s+10)+1):=by
        have:2*kt A i j=kt A i j+kt A i j:=om
        rw[this];exact l.add l
       exact nb.of_le (jg ..) (h5.add (hd.mono om))
      obtain⟨X,Y,P⟩:=H.1.outer;obtain⟨g2,u2,v2⟩:=H.1.row j D;have w1:=P j D;simp -dsimp only[*,go_sem];refine bF 17 kr ?_
      simp only[*,go_sem,aa,aT (om:j<1000000)]
      refine⟨_,(vH n i j A s om f om E om).pure',_,(oO n (j+1) A om om).pure',_,(Fw l hd om q).pure',_,(He (k:=17*(s+10)) (yI q l) (yJ q hd) om om (ph q)).pure',_,(xB (k:=17*(s+10)+1+1) (by rw[hnear];exact hnq) om).pure',?_⟩
      rw[hnear];simp only[go_sem];exact VR.tup2 ((H.1.set D u2).vr) (VR.mf rfl)
  .obtain rfl:i=n:=om
   simp only[*,go_sem]
   cases ev with
   | size a c=>have:=t.2.1;simp only[jT]at hi;omega
   | swap a=>have:=t.2.1;simp only[jT]at hi;omega
   | done=>exact VR.tup2 (VR.mf rfl) (VR.mf rfl)

end Go.Proofs.YtdobfmlmenaajaaGreatDoor
