/-
  Lemmas for NeighbourKeeps.
-/
import Derived.Test.YtdobfmlmenaajaaGreatDoorL18
namespace Go.Proofs.YtdobfmlmenaajaaGreatDoor
open Go.RowKit Tryz
open _root_.Classical renaming em→eP
open _root_.Int renaming mul_ediv_cancel_left→cc,sign_eq_one_of_pos→dR,mul_assoc→eY,lt_trichotomy→fF,mul_pos→iH,mul_ediv_cancel'→ji,gcd→md
open _root_.List renaming not_mem_nil→aG,forall_mem_cons→aO,getD_cons_succ→bF,getD_cons_zero→bG
open _root_.Nat renaming add_one_le_iff→aa,le_refl→af,mul_le_mul_right→ay,lt_or_ge→az,eq_zero_or_pos→bC,sub_self→bH,pow_le_pow_right→cf,add_zero→cn,lt_of_lt_of_le→cH,le_of_lt→cX,sub_zero→c9,sub_sub→oI
open _root_.Ne renaming symm→ai
open _root_.Or renaming inr→aK,inl→bn
set_option maxHeartbeats 6400000
set_option maxRecDepth 4096
set_option linter.all false
attribute [local go_sem] Nat.reduceAdd Nat.reduceEqDiff Nat.reduceLeDiff Nat.reduceLT reduceCtorEq Int.ofNat_lt decide_true decide_false Int.zero_le_ofNat
attribute [local go_sem ↓] reduceIte
variable{x y:AV}{neg:Bool}{a b c d z:Int}{l r:List AV}{e es j k k0 m n:Nat}{g':Nat->AV}{g σ:Nat->Nat}{A:Nat->Nat->Int}{S S0:St}
theorem cY.noneS(S:St):cY St.none S:=fun k X h=>by cases h
theorem zY(n m p q:Nat)(A:Nat->Nat->Int)(ρ γ:Nat->Nat)(z:1<=p)(L:p<=1000)(h3:1<=q)(h4:q<=1000)(hρ:∀i,i<p->ρ i<n)(hγ:∀i,i<q->γ i<m):MF 143 [aV n m A,aX p (fun i=>ρ i),aX q (fun i=>γ i)] p q (fun i j=>A (ρ i) (γ j)):=by
 refine MF.of ?_;refine ak func143 rfl 42 ntmps143 kr sm (by simp[results143]) ?_
 rw[aF,results143];simp -dsimp only[go_sem,aV,bA,aX];refine aI (fun O S=>∃(i:Nat) (x:AV) (g:Nat->Nat),i<=p/\O 0=aV n m A/\O 2=aX q (fun i=>γ i)/\O 7=x/\O 13=aX p (fun i=>ρ i)/\O 14=.int .i64 p/\O 15=.int .i64 i /\
  cC 59 1 St.none S x i (fun a=>.sl 2 (g a) 0 q)/\(∀a,a<i->ic S (g a) q (fun j=>A (ρ a) (γ j)))/\∀a c,a<i->c<i->g a=g c->a=c) (fun O S=>p-bT (O 15)) ?_ ?_
 ·simp -dsimp only[go_sem,aV,bA,aX];exact⟨0,om,rfl,fun _=>0,cC.nil (cY.noneS _) _,fun a r=>om,fun a c r=>om⟩
 ·rintro O S ⟨i,x,g,hi,B,M,v,f,k,l,b,C,hI⟩;by_cases D:i<p
  ·have hρi:=hρ i D;simp -dsimp only[go_sem,aV,bA,aX,M,v,f,k,l,D];refine aI (fun O S'=>∃(j:Nat) (y:AV),j<=q/\O 0=aV n m A/\O 2=aX q (fun i=>γ i)/\O 7=x/\O 9=.int .i64 (ρ i)/\O 10=y/\O 13=aX p (fun i=>ρ i)/\O 14=.int .i64 p/\O 15=.int .i64 i/\O 19=aX q (fun i=>γ i)/\O 20=.int .i64 q/\O 21=.int .i64 j /\
    cC 59 1 St.none S' x i (fun a=>.sl 2 (g a) 0 q)/\(∀a,a<i->ic S' (g a) q (fun j=>A (ρ a) (γ j))/\¬dl y (g a))/\cC 50 2 St.none S' y j (fun c=>.big (A (ρ i) (γ c)))/\∀d,dl x d->¬dl y d) (fun O S=>q-bT (O 21)) ?_ ?_
   ·simp -dsimp only[go_sem,aV,bA,aX,B,M,v,f,k,l];exact⟨0,om,rfl,b,fun a r=>⟨C a r,by rintro⟨_,_,_,e⟩;cases e⟩,cC.nil (cY.noneS _) _,fun d _=>by rintro⟨_,_,_,e⟩;cases e⟩
   ·rintro O S' ⟨j,y,hj,B,M,v,V,o,f,k,l,E,F,G,b,C,Y,H⟩;by_cases I:j<q
    ·have hγj:=hγ j I;simp -dsimp only[go_sem,aV,bA,aX,B,v,V,o,E,F,G,I,hρi,hγj];refine au.intro fun P J=>?_;simp -dsimp only[go_sem,aV,bA,B,V,o];have Q:=Y.fresh J;have s:=b.fresh J;refine cC.app50 (Y.upd (by rfl) Q _) om (show dN 2 (.big (A (ρ i) (γ j)))from trivial) (aK ⟨_,_,_,rfl,bR,rfl,fun h=>Q _ h rfl⟩) ?_
     intro c S2 Z t w;simp -dsimp only[go_sem,aV,bA,aX,B,M,v,V,o,f,k,l,E,F,G,aM (om:j<1000000),bT]
     have kx:∀d,dl x d->d≠P/\¬dl y d:=fun d u=>⟨s d u,H d u⟩;refine⟨⟨j+1,om,rfl,?_,fun a r=>?_,Z.congr fun a r=>by grind,fun d u he=>?_⟩,om⟩
     ·refine b.step (cY.noneS _) (fun d u=>?_)
      cases hS:S' d with
      | none =>
       exfalso;obtain⟨_,_,_,e⟩:=u;rcases b.2 with⟨_,z⟩|⟨c,_,z,g',L,_⟩
       ·rw[z]at e;cases e
       ·rw[z]at e;cases e;rw[hS]at L;cases L
      | some X=>exact t d X (by rw[aH (kx d u).1];exact hS) (kx d u).2
     ·obtain⟨N,r2⟩:=C a r;have R:g a≠P:=aR.fresh N J;refine⟨N.via fun X b=>t _ _ (by rw[aH R];exact b) r2,fun hb=>?_⟩
      rw[dk]at hb;rw[<-hb]at w;rcases w with h|h
      ·exact r2 h
      ·rw[aH R]at h;exact aR.fresh N h rfl
     ·rw[dk]at he;subst he;rcases w with h|h
      ·exact H d u h
      ·rw[aH (s d u)]at h;obtain⟨_,_,_,e⟩:=u;rcases b.2 with⟨_,z⟩|⟨c,_,z,g',L,_⟩
       ·rw[z]at e;cases e
       ·rw[z]at e;cases e;rw[h]at L;cases L
    ·obtain rfl:j=q:=om
     rcases Y.2 with⟨h0,_⟩|⟨c,_,rfl,W⟩
     ·omega
     simp -dsimp only[go_sem,aV,bA,aX,B,v,V,o,E,F,G,I];refine au.intro fun T K=>?_;simp -dsimp only[go_sem,v,o];have s:=b.fresh K;refine cC.app59 (b.upd (by rfl) s _) om (show dN 1 (.sl 2 c 0 j)from trivial) (aK ⟨_,_,_,rfl,bR,rfl,fun h=>s _ h rfl⟩) ?_
     intro d S2 hX' t w;have U:c≠T:=aR.fresh W K;have hxc:¬dl x c:=fun h=>H c h (dk.2 rfl);simp -dsimp only[go_sem,aV,bA,aX,B,M,v,o,f,k,l,aM (om:i<1000000),bT]
     refine⟨⟨i+1,om,rfl,fun a=>if a=i then c else g a,hX'.congr fun a r=>by grind,fun a r=>?_,fun a d r u e=>?_⟩,om⟩
     ·by_cases e:a=i
      ·subst e;simp only[if_true];exact W.via fun X b=>t _ _ (by rw[aH U];exact b) hxc
      ·simp only[e,if_false];have N:=(C a om).1;have hga:g a≠T:=aR.fresh N K;obtain⟨gg,hgg,_⟩:=N;exact(C a om).1.via fun X hXX=>t _ _ (by rw[aH hga];exact hXX) (b.other hgg om)
     ·have k1:=fun a r=>(C a r).2;simp only[dk]at k1
      grind
  ·simp -dsimp only[go_sem,aV,bA,aX,M,v,f,k,l,D];obtain rfl:i=p:=om
   rcases b.2 with⟨h0,_⟩|⟨c,_,rfl,W⟩
   ·omega
   exact⟨c,rfl,g,W,C,hI⟩

theorem nG{k:Nat}:∀(m:Nat) (M:aB),m<=16->(∀a b,a<m->b<m->nb (M a b) k)->nb (det m M) (m*(k+10)+1)
 | 0,M,_,_=>by simp only[det];exact nb.one om
 | m+1,M,l,h=>by
  simp only[det];have d:∀j,j<m+1->nb (uE j*M 0 j*det m (cut M j)) (k+(m*(k+10)+1)):=by
   intro j e;have f:=nG m (cut M j) om (fun a b n g=>h _ _ om (sj g));have c:=(h 0 j om e).mul f;unfold nb at c ⊢;have:(uE j*M 0 j*det m (cut M j)).natAbs=(M 0 j*det m (cut M j)).natAbs:=by
    unfold uE;split
    ·rw[Int.one_mul]
    ·rw[eY];simp
   rw[this];exact c
  have i:=pL d om (m+1) (af _);refine i.mono ?_;rw[Nat.succ_mul];omega
theorem kE{b:Nat}{X Y:dH}:(S.upd b X).upd b Y=S.upd b Y:=by
 funext k;simp only[St.upd];split<;>rfl
theorem dd.upd{b:Nat}(h:dd S b g n m A){c:Nat}(d:b≠c)(e:∀i,i<n->g i≠c)(X:dH):dd (S.upd c X) b g n m A :=
 ⟨h.outer.upd d X,fun i a=>(h.row i a).upd (e i a) X,h.inj⟩
theorem dd.swap{b:Nat}(h:dd S b g n m A){p k:Nat}(v:p<n)(w:k<n)(r:p≠k){f:Nat->AV}(l:S b=some ⟨59,1,n,f⟩) :
  dd (S.upd b ⟨59,1,n,aL (aL f p (.sl 2 (g k) 0 m)) k (.sl 2 (g p) 0 m)⟩) b (fun i=>g (cV k p i)) n m (fun i j=>A (cV k p i) j):=by
 obtain⟨g',o,s⟩:=h.outer;rw[l]at o;cases o;have c:∀i,i<n->cV k p i<n:=fun i a=>by unfold cV;split<;>(try split)<;>omega
 refine⟨aR.here fun i a=>?_,fun i a=>(h.row _ (c i a)).upd (fun e=>?_) _,fun i j a t e=>?_⟩
 ·have:=s i a;simp only[aL,cV];by_cases d:i=k
  ·subst d;simp
  ·by_cases q:i=p
   ·subst q;simp[d]
   ·simp[d,q,this]
 ·exact aR.ne (aR.of l) (h.row _ (c i a)) om e.symm
 ·have u:=h.inj _ _ (c i a) (c j t) e;unfold cV at u
  grind
theorem ja{A:aB}(e:n<=16)(c:∀i j,i<n->j<n->nb (A i j) k0)(d:l9 A n σ neg k){i j:Nat}(f:k+i<n)(g:k+j<n):nb (ca (fun a b=>A (σ a) b) k i j) (17*(k0+10)):=by
 refine(nG (k+1) _ om (fun a b h l=>c _ _ (d.row _ ?_) ?_)).mono ?_
 ·rw[jw];split<;>omega
 ·rw[jw];split<;>omega
 ·have:(k+1)*(k0+10)<=16*(k0+10):=ay _ om;omega
def ze(A:aB)(n b b2 b5:Nat)(S:St)(k:Nat)(neg:Bool)(Q:(Nat->Nat)->(Nat->Nat->Int)->Prop):Prop:=∃(g σ:Nat->Nat) (B:Nat->Nat->Int),l9 A n σ neg k/\dd S b g n n B/\(∀i,i<n->g i≠b2/\g i≠b5)/\cE S b2 50 2 (.big 0)/\cE S b5 50 2 (.big (det k (fun a c=>A (σ a) c)))/\Q σ B
def I8(A:aB)(n k:Nat)(σ:Nat->Nat)(B:Nat->Nat->Int):Prop:=∀i j,k<=i->i<n->k<=j->j<n->B i j=ca (fun a c=>A (σ a) c) k (i-k) (j-k)
def StgP(A:aB)(n k p:Nat)(σ:Nat->Nat)(B:Nat->Nat->Int):Prop:=I8 A n k σ B/\∀i,k<=i->i<p->B i k=0
def Ey(A:aB)(n k i j:Nat)(σ:Nat->Nat)(B:Nat->Nat->Int):Prop:=ca (fun a c=>A (σ a) c) k 0 0≠0/\∀a c,k<=a->a<n->k<=c->c<n->B a c=if k<a/\k<c/\(a<i∨(a=i/\c<j))then ca (fun a c=>A (σ a) c) (k+1) (a-(k+1)) (c-(k+1))else ca (fun a c=>A (σ a) c) k (a-k) (c-k)
theorem jJ(n:Nat)(A:aB)(I:Nat)(h1:1<=n)(Q:n<=16)(R:∀i j,i<n->j<n->nb (A i j) I)(hk:I<=10000000):PF 26 [aV n n A] (.big (det n A)):=by
 refine PF.of_spec (ak func26 rfl 125 ntmps26 kr sm (by simp[results26]) ?_)
 rw[aF,results26];simp -dsimp only[go_sem];refine au.intro fun F f2=>?_;simp -dsimp only[go_sem];refine(FG n n A I om h1 om R om _ _ (cD _ _)).mono ?_;rintro r S1 ⟨b,g0,rfl,J⟩;simp -dsimp only[go_sem];refine(gU dc dc).call ?_
 simp -dsimp only[go_sem];refine au.intro fun G f5=>?_;simp -dsimp only[go_sem];have hb2:F≠b:=fun e=>by have:=J.2.2.1;rw[<-e,bR]at this;cases this
 have hg2:∀i,i<n->g0 i≠F:=fun i l e=>by have:=J.2.2.2 i l;rw[e,bR]at this;cases this
 have h25:F≠G:=fun e=>by have:=J.2.1 F _ bR;rw[e,f5]at this;cases this
 have U:b≠G:=aR.fresh J.1.outer f5;have hg5:∀i,i<n->g0 i≠G:=fun i l=>aR.fresh (J.1.row i l) f5;refine aI (fun O S=>∃(k:Nat) (neg:Bool),k<=n/\O 2=.ptr 2 F 0/\O 3=.sl 1 b 0 n/\O 4=.int .i64 n/\O 5=.ptr 2 G 0/\O 6=.bool neg/\O 7=.int .i64 k/\ze A n b F G S k neg (I8 A n k)) (fun O S=>n-bT (O 7)) ?_ ?_
 ·simp -dsimp only[go_sem];refine⟨0,om,false,rfl,rfl,g0,id,A,l9.init A n,(J.1.upd U hg5 _).upd U hg5 _,fun i l=>⟨hg2 i l,hg5 i l⟩,?_,cE.set,fun i j _ _ _ _=>by rw[eS];rfl⟩
  exact(cE.upd ⟨_,J.2.1 F _ bR,rfl⟩ h25 _).upd h25 _
 ·rintro O S ⟨k,neg,hkn,f,x,u,v,w,t,E⟩;by_cases d:k<n
  ·simp -dsimp only[go_sem,aa,f,u,v,w,t,d];refine aI (fun O S=>∃p:Nat,k<=p/\p<=n/\O 2=.ptr 2 F 0/\O 3=.sl 1 b 0 n/\O 4=.int .i64 n/\O 5=.ptr 2 G 0/\O 6=.bool neg/\O 7=.int .i64 k/\O 8=.int .i64 p/\ze A n b F G S k neg (StgP A n k p)) (fun O S=>n-bT (O 8)) ?_ ?_
   ·simp -dsimp only[go_sem,f,x,u,v,w,t];obtain⟨g,σ,B,h,m,y,V2,V5,o⟩:=E;exact⟨k,om,om,rfl,g,σ,B,h,m,y,V2,V5,o,fun i h1 Q=>om⟩
   ·clear E;rintro O S ⟨p,hkp,hpn,f,x,u,v,w,t,e8,E⟩;by_cases hp:p<n
    ·obtain⟨g,σ,B,h,m,y,V2,V5,o,hZ⟩:=E;obtain⟨g1,T,P⟩:=m.outer;obtain⟨g2,u2,v2⟩:=m.row p hp;have v1':=P p hp;have v2':=v2 k d;have hbp:=ja Q R h (i:=p-k) (j:=0) om om;have H:=o p k hkp hp (af _) d;rw[bH]at H;rw[<-H]at hbp;simp -dsimp only[go_sem,aa,x,u,t,e8,hp,d,T,u2,v1',v2'];refine(lQ hbp om).call ?_;by_cases h0:B p k=0
     ·simp -dsimp only[go_sem,aa,f,x,u,v,w,t,e8,hp,h0,Int.sign_zero,aM (om:p<1000000),bT]
      refine⟨⟨p+1,om,om,rfl,g,σ,B,h,m,y,V2,V5,o,fun i h1 Q=>?_⟩,om⟩
      by_cases e:i=p
      ·rw[e];exact h0
      ·exact hZ i h1 om
     ·have hs0:((B p k).sign==0)=false:=by
       simp only[beq_eq_false_iff_ne,ne_eq];rw[Int.sign_eq_zero_iff_zero];exact h0
      have V:((p:Int)==n)=false:=by simp;omega
      simp -dsimp only[go_sem,aa,f,x,u,v,w,t,e8,hp,hs0,V];by_cases W:k<p
      ·obtain⟨g3,u3,v3⟩:=m.row k d;have v3':=P k d;have v1'':g1 p=.sl 2 (g p) 0 n:=v1';have v3'':g1 k=.sl 2 (g k) 0 n:=v3';simp -dsimp only[go_sem,W];refine eR 13 kr ?_
       simp -dsimp only[go_sem,aa,x,w,t,e8,hp,d,T,v1'',v3'',aM (om:k<1000000)]
       have X:ze A n b F G ((S.upd b ⟨59,1,n,aL g1 p (.sl 2 (g k) 0 n)⟩).upd b ⟨59,1,n,aL (aL g1 p (.sl 2 (g k) 0 n)) k (.sl 2 (g p) 0 n)⟩) k (!neg) (Ey A n k (k+1) (k+1)):=by
        rw[kE];have hs:∀i,i<n->cV k p i<n:=fun i l=>by unfold cV;split<;>(try split)<;>omega
        refine⟨_,fun a=>σ (cV k p a),_,h.swap W hp,m.swap hp d om T,fun i l=>y _ (hs i l),V2.upd hb2 _,?_,?_,fun a c C q z s=>?_⟩
        ·have e:=sh (n:=k) (fun a c=>A (σ a) c) (i:=k) (k:=p) om om;rw[e];exact V5.upd (ai U) _
        ·have e:=sf (k:=k) (p:=p) (fun a c=>A (σ a) c) hkp 0 0;rw[e,show cV 0 (p-k) 0=p-k by simp[cV],<-H];exact h0
        ·rw[if_neg om];have e:=sf (k:=k) (p:=p) (fun a c=>A (σ a) c) hkp (a-k) (c-k);show B (cV k p a) c=_;rw[e,o (cV k p a) c (by unfold cV;split<;>(try split)<;>omega) (hs a q) z s]
         congr 1;unfold cV;split<;>(try split)<;>(try split)<;>(try split)<;>omega
       refine aI (fun O S=>∃i:Nat,k+1<=i/\i<=n/\O 2=.ptr 2 F 0/\O 3=.sl 1 b 0 n/\O 4=.int .i64 n/\O 5=.ptr 2 G 0/\O 6=.bool (!neg)/\O 7=.int .i64 k/\O 9=.int .i64 i/\ze A n b F G S k (!neg) (Ey A n k i (k+1))) (fun O S=>n-bT (O 9)) ?_ ?_
       ·simp -dsimp only[go_sem,f,x,u,v,t];exact⟨k+1,om,om,rfl,X⟩
       ·clear X f x u v w t e8 T u2 P v2 v1' v2' m V2 V5 y h;rintro O S ⟨i,hki,hin,f,x,u,v,w,t,K,E⟩;by_cases l:i<n
        ·simp -dsimp only[go_sem,aa,f,x,u,v,w,t,K,l,d,aM (om:k<1000000)]
         refine aI (fun O S=>∃j:Nat,k+1<=j/\j<=n/\O 2=.ptr 2 F 0/\O 3=.sl 1 b 0 n/\O 4=.int .i64 n/\O 5=.ptr 2 G 0/\O 6=.bool (!neg)/\O 7=.int .i64 k/\O 9=.int .i64 i/\O 10=.int .i64 j/\ze A n b F G S k (!neg) (Ey A n k i j)) (fun O S=>n-bT (O 10)) ?_ ?_
         ·simp -dsimp only[go_sem,f,x,u,v,w,t,K];exact⟨k+1,om,om,rfl,E⟩
         ·clear E;rintro O S ⟨j,hkj,hjn,f,x,u,v,w,t,K,L,E⟩;by_cases M:j<n
          ·obtain⟨g,σ,B,h,m,y,V2,V5,D,o⟩:=E;obtain⟨g1,T,P⟩:=m.outer;obtain⟨g2,u2,v2⟩:=m.row i l;obtain⟨g3,u3,v3⟩:=m.row k d;have w1:=P i l;have w2:=P k d;have w3:=v2 j M;have w4:=v2 k d;have w5:=v3 j M;have w6:=v3 k d;obtain⟨gw,uw,vw⟩:=V5;have c1:=o i j om l om M;have c2:=o i k om l (af _) d;have c3:=o k j (af _) d om M;have N:=o k k (af _) d (af _) d;rw[if_neg om]at c1 c2 c3 N;rw[bH]at c2 c3 N;have n1:=ja Q R h (i:=i-k) (j:=j-k) om om;have n2:=ja Q R h (i:=i-k) (j:=0) om om;have n3:=ja Q R h (i:=0) (j:=j-k) om om;have n4:=ja Q R h (i:=0) (j:=0) om om;rw[<-c1]at n1;rw[<-c2]at n2;rw[<-c3]at n3;rw[<-N]at n4;have n5:nb (det k (fun a c=>A (σ a) c)) (17*(I+10)):=(nG k _ om (fun a c ha hc=>R _ _ (h.row a om) om)).mono (by have:k*(I+10)<=16*(I+10):=ay _ om;omega)
           have Y:=ix h.lead (i-k-1) (j-k-1);rw[(om:i-k-1+1=i-k),(om:j-k-1+1=j-k),<-c1,<-c2,<-c3,<-N]at Y
           have Z:=h.lead k (af _);have hq:(B k k*B i j-B i k*B k j)/det k (fun a c=>A (σ a) c)=ca (fun a c=>A (σ a) c) (k+1) (i-k-1) (j-k-1):=by
            rw[Y,cc _ Z]
           simp -dsimp only[go_sem,aa,f,x,u,v,w,t,K,L,M];refine aP 39 kr ?_
           simp -dsimp only[go_sem,aa,f,x,u,v,w,t,K,L,l,M,d,T,u2,u3,w1,w2,w3,w4,w5,w6,uw,vw];refine⟨_,(jr n4 n1 om).pure',_,(jr n2 n3 om).pure',_,(AB (n4.mul n1) (n2.mul n3) om).pure',_,(so (k:=17*(I+10)+17*(I+10)+1) ((n4.mul n1).sub (n2.mul n3)) (n5.mono om) om Z).pure',?_⟩;simp -dsimp only[go_sem,aM (om:j<1000000),bT]
           rw[hq];refine⟨⟨j+1,om,om,rfl,g,σ,_,h,m.set l u2,y,cE.upd V2 (ai (y i l).1) _,cE.upd ⟨gw,uw,vw⟩ (ai (y i l).2) _,D,fun a c C q z s=>?_⟩,om⟩
           have h3:=o a c C q z s;simp only[dK];by_cases e1:a=i/\c=j
           ·obtain⟨rfl,rfl⟩:=e1;rw[if_pos ⟨rfl,rfl⟩,if_pos om,oI,oI]
           ·rw[if_neg e1,h3];by_cases f:k<a/\k<c/\(a<i∨a=i/\c<j)
            ·rw[if_pos f,if_pos om]
            ·rw[if_neg f,if_neg om]
          ·obtain rfl:j=n:=om
           obtain⟨g,σ,B,h,m,y,V2,V5,D,o⟩:=E;simp -dsimp only[go_sem,aa,f,x,u,v,w,t,K,L,M,aM (om:i<1000000),bT]
           refine⟨⟨i+1,om,om,rfl,g,σ,B,h,m,y,V2,V5,D,fun a c C q z s=>?_⟩,om⟩
           rw[o a c C q z s];by_cases f:k<a/\k<c/\(a<i∨a=i/\c<j)
           ·rw[if_pos f,if_pos om]
           ·rw[if_neg f,if_neg om]
        ·obtain rfl:i=n:=om
         obtain⟨g,σ,B,h,m,y,V2,V5,D,o⟩:=E;obtain⟨g1,T,P⟩:=m.outer;obtain⟨g3,u3,v3⟩:=m.row k d;have w2:=P k d;have w6:=v3 k d;obtain⟨gw,uw,vw⟩:=V5;have N:=o k k (af _) d (af _) d;rw[if_neg om,bH,cA]at N;simp -dsimp only[go_sem,aa,f,x,u,v,w,t,K,l,d,T,u3,w2,w6,uw,aM (om:k<1000000),bT]
         refine⟨⟨k+1,om,(!neg),rfl,rfl,g,σ,B,h.step D,m.upd U (fun i l=>(y i l).2) _,y,V2.upd h25 _,?_,fun a c C q z s=>?_⟩,om⟩
         ·rw[<-N];exact cE.set
         ·rw[o a c om q om s,if_pos om]
      ·obtain rfl:k=p:=om
       simp -dsimp only[go_sem,aM (om:k<1000000),W]
       have X:ze A n b F G S k neg (Ey A n k (k+1) (k+1)):=by
        refine⟨g,σ,B,h,m,y,V2,V5,?_,fun a c C q z s=>?_⟩
        ·rw[bH]at H;rw[<-H];exact h0
        ·rw[if_neg om];exact o a c C q z s
       refine aI (fun O S=>∃i:Nat,k+1<=i/\i<=n/\O 2=.ptr 2 F 0/\O 3=.sl 1 b 0 n/\O 4=.int .i64 n/\O 5=.ptr 2 G 0/\O 6=.bool neg/\O 7=.int .i64 k/\O 9=.int .i64 i/\ze A n b F G S k neg (Ey A n k i (k+1))) (fun O S=>n-bT (O 9)) ?_ ?_
       ·simp -dsimp only[go_sem,f,x,u,v,w,t];exact⟨k+1,om,om,rfl,X⟩
       ·clear X f x u v w t e8 T u2 P v2 v1' v2' m V2 V5 y h;rintro O S ⟨i,hki,hin,f,x,u,v,w,t,K,E⟩;by_cases l:i<n
        ·simp -dsimp only[go_sem,aa,f,x,u,v,w,t,K,l,d,aM (om:k<1000000)]
         refine aI (fun O S=>∃j:Nat,k+1<=j/\j<=n/\O 2=.ptr 2 F 0/\O 3=.sl 1 b 0 n/\O 4=.int .i64 n/\O 5=.ptr 2 G 0/\O 6=.bool neg/\O 7=.int .i64 k/\O 9=.int .i64 i/\O 10=.int .i64 j/\ze A n b F G S k neg (Ey A n k i j)) (fun O S=>n-bT (O 10)) ?_ ?_
         ·simp -dsimp only[go_sem,f,x,u,v,w,t,K];exact⟨k+1,om,om,rfl,E⟩
         ·clear E;rintro O S ⟨j,hkj,hjn,f,x,u,v,w,t,K,L,E⟩;by_cases M:j<n
          ·obtain⟨g,σ,B,h,m,y,V2,V5,D,o⟩:=E;obtain⟨g1,T,P⟩:=m.outer;obtain⟨g2,u2,v2⟩:=m.row i l;obtain⟨g3,u3,v3⟩:=m.row k d;have w1:=P i l;have w2:=P k d;have w3:=v2 j M;have w4:=v2 k d;have w5:=v3 j M;have w6:=v3 k d;obtain⟨gw,uw,vw⟩:=V5;have c1:=o i j om l om M;have c2:=o i k om l (af _) d;have c3:=o k j (af _) d om M;have N:=o k k (af _) d (af _) d;rw[if_neg om]at c1 c2 c3 N;rw[bH]at c2 c3 N;have n1:=ja Q R h (i:=i-k) (j:=j-k) om om;have n2:=ja Q R h (i:=i-k) (j:=0) om om;have n3:=ja Q R h (i:=0) (j:=j-k) om om;have n4:=ja Q R h (i:=0) (j:=0) om om;rw[<-c1]at n1;rw[<-c2]at n2;rw[<-c3]at n3;rw[<-N]at n4;have n5:nb (det k (fun a c=>A (σ a) c)) (17*(I+10)):=(nG k _ om (fun a c ha hc=>R _ _ (h.row a om) om)).mono (by have:k*(I+10)<=16*(I+10):=ay _ om;omega)
           have Y:=ix h.lead (i-k-1) (j-k-1);rw[(om:i-k-1+1=i-k),(om:j-k-1+1=j-k),<-c1,<-c2,<-c3,<-N]at Y
           have Z:=h.lead k (af _);have hq:(B k k*B i j-B i k*B k j)/det k (fun a c=>A (σ a) c)=ca (fun a c=>A (σ a) c) (k+1) (i-k-1) (j-k-1):=by
            rw[Y,cc _ Z]
           simp -dsimp only[go_sem,aa,f,x,u,v,w,t,K,L,M];refine aP 39 kr ?_
           simp -dsimp only[go_sem,aa,f,x,u,v,w,t,K,L,l,M,d,T,u2,u3,w1,w2,w3,w4,w5,w6,uw,vw];refine⟨_,(jr n4 n1 om).pure',_,(jr n2 n3 om).pure',_,(AB (n4.mul n1) (n2.mul n3) om).pure',_,(so (k:=17*(I+10)+17*(I+10)+1) ((n4.mul n1).sub (n2.mul n3)) (n5.mono om) om Z).pure',?_⟩;simp -dsimp only[go_sem,aM (om:j<1000000),bT]
           rw[hq];refine⟨⟨j+1,om,om,rfl,g,σ,_,h,m.set l u2,y,cE.upd V2 (ai (y i l).1) _,cE.upd ⟨gw,uw,vw⟩ (ai (y i l).2) _,D,fun a c C q z s=>?_⟩,om⟩
           have h3:=o a c C q z s;simp only[dK];by_cases e1:a=i/\c=j
           ·obtain⟨rfl,rfl⟩:=e1;rw[if_pos ⟨rfl,rfl⟩,if_pos om,oI,oI]
           ·rw[if_neg e1,h3];by_cases f:k<a/\k<c/\(a<i∨a=i/\c<j)
            ·rw[if_pos f,if_pos om]
            ·rw[if_neg f,if_neg om]
          ·obtain rfl:j=n:=om
           obtain⟨g,σ,B,h,m,y,V2,V5,D,o⟩:=E;simp -dsimp only[go_sem,aa,f,x,u,v,w,t,K,L,M,aM (om:i<1000000),bT]
           refine⟨⟨i+1,om,om,rfl,g,σ,B,h,m,y,V2,V5,D,fun a c C q z s=>?_⟩,om⟩
           rw[o a c C q z s];by_cases f:k<a/\k<c/\(a<i∨a=i/\c<j)
           ·rw[if_pos f,if_pos om]
           ·rw[if_neg f,if_neg om]
        ·obtain rfl:i=n:=om
         obtain⟨g,σ,B,h,m,y,V2,V5,D,o⟩:=E;obtain⟨g1,T,P⟩:=m.outer;obtain⟨g3,u3,v3⟩:=m.row k d;have w2:=P k d;have w6:=v3 k d;obtain⟨gw,uw,vw⟩:=V5;have N:=o k k (af _) d (af _) d;rw[if_neg om,bH,cA]at N;simp -dsimp only[go_sem,aa,f,x,u,v,w,t,K,l,d,T,u3,w2,w6,uw,aM (om:k<1000000),bT]
         refine⟨⟨k+1,om,neg,rfl,rfl,g,σ,B,h.step D,m.upd U (fun i l=>(y i l).2) _,y,V2.upd h25 _,?_,fun a c C q z s=>?_⟩,om⟩
         ·rw[<-N];exact cE.set
         ·rw[o a c om q om s,if_pos om]
    ·obtain rfl:p=n:=om
     have V:((p:Int)==p)=true:=by simp
     obtain⟨g,σ,B,h,m,y,V2,V5,o,hZ⟩:=E;obtain⟨gv,uv,vv⟩:=V2;simp -dsimp only[go_sem,aa,f,x,u,v,w,t,e8,hp,V,uv];have hz:det p A=0:=h.zero d (fun i l=>by
      have h3:=o (k+i) k om om (af _) d;rw[hZ (k+i) om om,bH,(om:k+i-k=i)]at h3
      exact h3.symm)
     rw[hz];exact VR.mf rfl
  ·obtain rfl:k=n:=om
   obtain⟨g,σ,B,h,m,y,V2,V5,o⟩:=E;obtain⟨gv,uv,vv⟩:=V2;obtain⟨gw,uw,vw⟩:=V5;have hs:=h.sign;have hbd:nb (det k (fun a c=>A (σ a) c)) (17*(I+10)):=(nG k _ Q (fun a c ha hc=>R _ _ (h.row a ha) hc)).mono (by have:k*(I+10)<=16*(I+10):=ay _ Q;omega)
   cases neg
   ·simp only[Bool.false_eq_true,if_false]at hs;simp -dsimp only[go_sem,aa,f,u,v,w,t,d,uv,uw,vw,aL];rw[<-hs];exact VR.mf rfl
   ·simp only[if_true]at hs;simp -dsimp only[go_sem,aa,f,u,v,w,t,d,uv,uw,vw];refine(E0 hbd om).call ?_;simp -dsimp only[go_sem,aa,f,uv,vw,aL];rw[hs,Int.neg_neg];exact VR.mf rfl

theorem cC.vr{g:Nat->AV}(h:cC e es S0 S x j g)(a:∀i,i<j->VR S (g i) (g' i)):VR S x (.lst es j g'):=by
 rcases h.2 with⟨rfl,rfl⟩|⟨c,_,rfl,b⟩
 ·exact VR.nil
 ·exact VR.sl b om (fun i d=>by rw[Nat.zero_add];exact a i d)
def xB(k m i:Nat):Nat:=if i<k then i else m
theorem CB(k m:Nat)(w:k<=1000)(y:m<=1000):PF 173 [.int .i64 k,.int .i64 m] (aX (k+1) (fun i=>(xB k m i:Nat))):=by
 refine PF.of_spec (ak func173 rfl 20 ntmps173 kr sm (by simp[results173]) ?_)
 rw[aF,results173];simp -dsimp only[go_sem];refine aI (fun O S=>∃(i:Nat) (x:AV),i<=k/\O 0=.int .i64 k/\O 1=.int .i64 m/\O 5=x/\O 6=.int .i64 i/\cC 3 1 St.none S x i (fun a=>.int .i64 a)) (fun O S=>k-bT (O 6)) ?_ ?_
 ·simp -dsimp only[go_sem];exact⟨0,om,rfl,cC.nil (cY.noneS _) _⟩
 ·rintro O S ⟨i,x,z,o,g,f,l,n⟩;by_cases j:i<k
  ·simp -dsimp only[go_sem,o,g,f,l,j];refine au.intro fun t p=>?_;simp -dsimp only[go_sem,f,l];have b:=n.fresh p;refine cC.app3 (n.upd (by rfl) b _) om (show dN 1 (.int .i64 (i:Int)) by simp[dN]) (aK ⟨_,_,_,rfl,bR,rfl,fun h=>b _ h rfl⟩) ?_
   intro c S2 d q r;simp -dsimp only[go_sem,o,g,f,l,aM (om:i<1000000),bT]
   exact⟨⟨i+1,om,rfl,d.congr fun a u=>by grind⟩,om⟩
  ·obtain rfl:i=k:=om
   simp -dsimp only[go_sem,o,g,f,l,j];refine au.intro fun v s=>?_;simp -dsimp only[go_sem,g,f];have b:=n.fresh s;refine cC.app3 (n.upd (by rfl) b _) om (show dN 1 (.int .i64 (m:Int)) by simp[dN]) (aK ⟨_,_,_,rfl,bR,rfl,fun h=>b _ h rfl⟩) ?_
   intro c S2 d q r;simp -dsimp only[go_sem,g,f];refine d.vr (fun a u=>?_);have:(if a=i then AV.int .i64 (m:Int)else .int .i64 (a:Int))=.int .i64 ((xB i m a:Nat):Int):=by
    unfold xB;by_cases e:a=i
    ·subst e;simp
    ·rw[if_neg e,if_pos om]
   rw[this];exact VR.mf rfl
theorem Fx(A:aB)(k i j:Nat):det (k+1) (fun a b=>A (xB k (k+i) a) (xB k (k+j) b))=ca A k i j:=by
 unfold ca;exact aT fun a b _ _=>rfl
theorem rI(n:Nat)(A:aB)(o:Nat)(u:1<=n)(v:n<=16)(w:∀i j,i<n->j<n->nb (A i j) o)(y:o<=10000000):PF 118 [aV n n A] (.tup [bA n (fun k=>det (k+1) A),.bool true]):=by
 refine PF.of_spec (ak func118 rfl 33 ntmps118 kr sm (by simp[results118]) ?_)
 rw[aF,results118];simp -dsimp only[go_sem,aa];refine(zu n A u v).call ?_;simp -dsimp only[go_sem];refine aI (fun O S=>∃(i:Nat) (x:AV),i<=n/\O 0=aV n n A/\O 4=.int .i64 n/\O 6=x/\O 7=.int .i64 i/\cC 50 2 St.none S x i (fun a=>.big (det (a+1) A))) (fun O S=>n-bT (O 7)) ?_ ?_
 ·simp -dsimp only[go_sem];exact⟨0,om,rfl,cC.nil (cY.noneS _) _⟩
 ·rintro O S ⟨i,x,F,d,p,e,f,q⟩;by_cases g:i<n
  ·have m:∀a,a<i+1->xB i i a<n:=fun a r=>by unfold xB;split<;>omega
   simp -dsimp only[go_sem,aa,d,p,e,f,g];refine(CB i i om om).call ?_;simp -dsimp only[go_sem,aa,d,e,f];refine(CB i i om om).call ?_;simp -dsimp only[go_sem,aa,d,e,f];refine(zY n n (i+1) (i+1) A (xB i i) (xB i i) om om om om m m).pf.call ?_;simp -dsimp only[go_sem,aa,d,e,f];refine(jJ (i+1) _ o om om (fun a b r z=>w _ _ (m a r) (m b z)) y).call ?_;simp -dsimp only[go_sem,d,e,f];refine au.intro fun B s=>?_;simp -dsimp only[go_sem,d,e,f];have l:=q.fresh s;have C:det (i+1) (fun a b=>A (xB i i a) (xB i i b))=det (i+1) A:=by
    have:=Fx A i 0 0;rw[cn,cA]at this;exact this
   refine cC.app50 (q.upd (by rfl) l _) om (show dN 2 (.big (det (i+1) A))from trivial) (aK ⟨_,_,_,rfl,bR,by rw[C];rfl,fun h=>l _ h rfl⟩) ?_
   intro c S2 t D E;simp -dsimp only[go_sem,d,p,e,f,aM (om:i<1000000),bT]
   exact⟨⟨i+1,om,rfl,t.congr fun a r=>by grind⟩,om⟩
  ·obtain rfl:i=n:=om
   simp -dsimp only[go_sem,aa,d,p,e,f,g];exact VR.tup2 (q.vr fun a _=>VR.mf rfl) (VR.mf rfl)
theorem tW(a:Int):ka a a=0:=by unfold ka;simp
theorem se(n:Nat)(A:aB)(m:Nat)(r:n<=16)(o:∀i j,i<n->j<n->nb (A i j) m)(s:m<=10000000)(p:∀a b,a<n->b<n->A a b=A b a):PF 116 [aV n n A] (.bool true):=by
 refine PF.of_spec (ak func116 rfl 32 ntmps116 kr sm (by simp[results116]) ?_)
 rw[aF,results116];simp -dsimp only[go_sem,aV,bA];refine aI (fun O S=>∃i:Nat,i<=n/\O 0=aV n n A/\O 6=.int .i64 n/\O 7=.int .i64 i) (fun O S=>n-bT (O 7)) ?_ ?_
 ·simp -dsimp only[go_sem,aV,bA];exact⟨0,om,rfl⟩
 ·rintro O S ⟨i,t,g,e,f⟩;by_cases c:i<n
  ·simp -dsimp only[go_sem,aV,bA,e,f,c];refine aI (fun O S=>∃j:Nat,j<=i/\O 0=aV n n A/\O 3=.int .i64 i/\O 4=.int .i64 j/\O 6=.int .i64 n/\O 7=.int .i64 i) (fun O S=>i-bT (O 4)) ?_ ?_
   ·simp -dsimp only[go_sem,aV,bA,g,e,f];exact⟨0,om,rfl⟩
   ·rintro O S ⟨j,u,g,k,l,e,f⟩;by_cases h:j<i
    ·have d:j<n:=om
     simp -dsimp only[go_sem,aV,bA,g,k,l,e,f,h];refine aP 16 kr ?_
     simp -dsimp only[go_sem,aa,aV,bA,g,k,l,e,f,c,d];have q:ka (A i j) (A j i)=0:=by rw[p i j c d];exact tW _
     refine⟨_,(sv (o i j c d) (o j i d c) om).pure',?_⟩;rw[q];simp -dsimp only[go_sem,aM (om:j<1000000),bT]
     exact⟨⟨j+1,om,rfl⟩,om⟩
    ·simp -dsimp only[go_sem,aV,bA,g,k,l,e,f,h,aM (om:i<1000000),bT]
     exact⟨⟨i+1,om,rfl⟩,om⟩
  ·simp -dsimp only[go_sem,aV,bA,e,f,c];exact VR.mf rfl

theorem VR.agg(h:∀x∈l,qN x=true):VR S (.agg l) (.agg l):=by
 intro w v d a;simp only[bB]at a ⊢;obtain⟨vs,b,c⟩:=a;exact⟨vs,b,AQ l vs h c⟩
def rN(a b:Int):Int:=a/(md a b:Int)
def rD(a b:Int):Int:=b/(md a b:Int)
theorem sG(h:0<b):0<(md a b:Int):=by
 have:=Int.gcd_pos_of_ne_zero_right a (om:b≠0);omega
theorem Hw:(md a b:Int)*rN a b=a:=ji (Int.gcd_dvd_left ..)
theorem DC:(md a b:Int)*rD a b=b:=ji (Int.gcd_dvd_right ..)
theorem oR(h:0<b):0<rD a b:=by
 have c:=DC (a:=a) (b:=b);exact oU (sG (a:=a) h) (by rw[c];exact h)
theorem E3:rN a b*b=a*rD a b:=by
 have c:=Hw (a:=a) (b:=b);have d:=DC (a:=a) (b:=b);have e:(md a b:Int)*(rN a b*rD a b)=a*rD a b:=by rw[<-eY,c]
 have f:(md a b:Int)*(rN a b*rD a b)=rN a b*b:=by rw[Int.mul_left_comm,d]
 rw[<-e,f]
theorem rh{g x y:Int}(h:g*x=y)(a:0<g):x.natAbs<=y.natAbs:=by
 rw[<-h,Int.natAbs_mul];exact Nat.le_mul_of_pos_left _ om
theorem wS(h:0<b)(c:nb a k):nb (rN a b) k:=nb.of_le (rh Hw (sG h)) c
theorem wT(h:0<b)(c:nb b k):nb (rD a b) k:=nb.of_le (rh DC (sG h)) c
theorem m9(e:0<b)(f:0<d)(h:a*d=c*b):a/b=c/d:=by
 rw[<-Int.mul_ediv_mul_of_pos_left a b f,h,Int.mul_comm b d,Int.mul_ediv_mul_of_pos_left c d e]
theorem zy(h:0<a):a.sign=1:=dR h
theorem Jd(f:nb a k)(c:nb b k)(l:k<=500000000)(d:0<b):PF 254 [.big a,.big b] (.tup [.agg [.big (rN a b),.big (rD a b)],.bool true]):=by
 refine PF.of_spec (ak func254 rfl 28 ntmps254 kr sm (by simp[results254]) ?_)
 rw[aF,results254];have i:=sG (a:=a) d;have g:nb (md a b:Int) k:=nb.of_le (by have:=Int.gcd_le_natAbs_right a (om:b≠0);simp;exact this) c
 try simp -dsimp only[go_sem]
 refine au.intro fun m n=>?_
 try simp -dsimp only[go_sem]
 refine au.intro fun o j=>?_;have n3_2:=(ag j).1
 try simp -dsimp only[go_sem]
 refine au.intro fun p h=>?_;have n4_3:=(ag h).1;have n4_2:=(ag (ag h).2).1;simp -dsimp only[go_sem,aa,ai n4_3];refine(lQ c om).call ?_;rw[zy d];simp -dsimp only[go_sem,aa,ai n4_3,show((1:Int)==0)=false from rfl];refine(lQ c om).call ?_;rw[zy d];simp -dsimp only[go_sem,aa,ai n3_2,ai n4_2,ai n4_3,show ¬((1:Int)<0) by decide]
 refine(JS f c om).call ?_;simp -dsimp only[go_sem];refine au.intro fun q e=>?_;have n6_4:=(ag e).1;have n6_3:=(ag (ag e).2).1;have n6_2:=(ag (ag (ag e).2).2).1;simp -dsimp only[go_sem,aa];refine aP 7 kr ?_
 simp -dsimp only[go_sem,aa,ai n3_2,ai n4_2,ai n4_3,ai n6_2,ai n6_3,ai n6_4,aL];refine⟨_,(so f g om om).pure',_,(so c g om om).pure',?_⟩;simp -dsimp only[go_sem,eJ,dD,aO,aG,false_implies,implies_true,bG,bF,c9,bH];exact VR.tup2 (VR.agg (by simp[qN])) (VR.mf rfl)
theorem mv(d:nb a k)(e:nb b k)(f:k<=500000000)(g:0<b):PF 220 [.agg [.big a,.big b]] (.agg [.big (rN a b),.big (rD a b)]):=by
 refine PF.of_spec (ak func220 rfl 17 ntmps220 kr sm (by simp[results220]) ?_)
 rw[aF,results220];simp -dsimp only[go_sem,aO,aG,false_implies,implies_true];refine au.intro fun i f1=>?_
 try simp -dsimp only[go_sem]
 refine au.intro fun j h=>?_;have n2_1:=(ag h).1;simp -dsimp only[go_sem,aa,ai n2_1,bG,bF];refine(Jd d e f g).call ?_;simp -dsimp only[go_sem,bG,bF];refine au.intro fun l c=>?_;have n3_2:=(ag c).1;have n3_1:=(ag (ag c).2).1;simp -dsimp only[go_sem,aa,ai n3_2,eJ,dD,aO,aG,false_implies,implies_true,bG,bF,c9,bH];exact VR.agg (by simp[qN])
theorem Ll:PF 219 [] (.agg [.big 1,.big 2]):=by
 refine PF.of_spec (ak func219 rfl 4 ntmps219 kr sm (by simp[results219]) ?_)
 rw[aF,results219]
 try simp -dsimp only[go_sem]
 refine au.intro fun a f0=>?_;simp -dsimp only[go_sem,aa];refine(gU dc dc).call ?_
 simp -dsimp only[go_sem,aa];refine(gU dc dc).call ?_
 simp -dsimp only[go_sem,aa,eJ,dD,aO,aG,false_implies,implies_true,bG,bF,c9,bH];exact VR.agg (by simp[qN])
theorem Jg(d:nb a k)(e:nb b k)(g:k<=500000000)(c:0<b):PF 217 [.agg [.big a,.big b]] (.big (a/b)):=by
 refine PF.of_spec (ak func217 rfl 11 ntmps217 kr sm (by simp[results217]) ?_)
 rw[aF,results217];simp -dsimp only[go_sem,aO,aG,false_implies,implies_true];refine au.intro fun j f1=>?_
 try simp -dsimp only[go_sem]
 refine au.intro fun l h=>?_;have n2_1:=(ag h).1;simp -dsimp only[go_sem,aa,ai n2_1,dD,bG,bF];refine(mv d e g c).call ?_;simp -dsimp only[go_sem];refine au.intro fun m f=>?_;have n3_2:=(ag f).1;have n3_1:=(ag (ag f).2).1;simp -dsimp only[go_sem,aa,eJ,dD,aO,aG,false_implies,implies_true,bG,bF,c9,bH];have i:=oR (a:=a) c;refine(so (wS c d) (wT c e) om om).call ?_;simp -dsimp only[go_sem,aa,ai n3_2,aL,eJ,bG,bF,c9,bH];rw[m9 i c E3];exact VR.mf rfl
theorem Da(d:nb a k)(e:nb b k)(f:k<=500000000)(g:0<b):PF 170 [.big a,.big b] (.agg [.big (rN a b),.big (rD a b)]):=by
 refine PF.of_spec (ak func170 rfl 9 ntmps170 kr sm (by simp[results170]) ?_)
 rw[aF,results170]
 try simp -dsimp only[go_sem]
 refine au.intro fun i j=>?_
 try simp -dsimp only[go_sem]
 refine au.intro fun l h=>?_;have n3_2:=(ag h).1
 try simp -dsimp only[go_sem]
 refine au.intro fun m c=>?_;have n4_3:=(ag c).1;have n4_2:=(ag (ag c).2).1;simp -dsimp only[go_sem,aa,ai n3_2,ai n4_2,ai n4_3];refine(mv d e f g).call ?_;simp -dsimp only[go_sem,aa,eJ,dD,aO,aG,false_implies,implies_true,bG,bF,c9,bH];exact VR.agg (by simp[qN])
theorem Na(o:nb a k)(p:nb b k)(q:nb c k)(r:nb d k)(w:k<=100000000)(h:0<b)(i:0<d) :
  PF 218 [.agg [.big a,.big b],.agg [.big c,.big d]] (.agg [.big (rN (rN a b*rD c d+rN c d*rD a b) (rD a b*rD c d)),.big (rD (rN a b*rD c d+rN c d*rD a b) (rD a b*rD c d))]):=by
 refine PF.of_spec (ak func218 rfl 34 ntmps218 kr sm (by simp[results218]) ?_)
 rw[aF,results218];have t:=oR (a:=a) h;have u:=oR (a:=c) i;have l:=wS h o;have e:=wT (a:=a) h p;have m:=wS i q;have f:=wT (a:=c) i r;simp -dsimp only[go_sem,aO,aG,false_implies,implies_true];refine au.intro fun x y=>?_
 try simp -dsimp only[go_sem]
 refine au.intro fun z v=>?_;have n3_2:=(ag v).1
 try simp -dsimp only[go_sem]
 refine au.intro fun A s=>?_;have n4_3:=(ag s).1;have n4_2:=(ag (ag s).2).1;simp -dsimp only[go_sem];refine aP 6 kr ?_
 simp -dsimp only[go_sem,aa,ai n3_2,ai n4_2,ai n4_3,dD,bG,bF];refine⟨_,(mv o p om h).pure',_,(mv q r om i).pure',?_⟩;refine au.intro fun B n=>?_;have n5_4:=(ag n).1;have n5_3:=(ag (ag n).2).1;have n5_2:=(ag (ag (ag n).2).2).1
 try simp -dsimp only[go_sem]
 refine au.intro fun C j=>?_;have n6_5:=(ag j).1;have n6_4:=(ag (ag j).2).1;have n6_3:=(ag (ag (ag j).2).2).1;have n6_2:=(ag (ag (ag (ag j).2).2).2).1;simp -dsimp only[go_sem,nn n6_5,aO,aG,false_implies,implies_true];refine iw 21 [[19]] kr ?_
 simp -dsimp only[go_sem,aa,ai n6_5,eJ,dD,aO,aG,false_implies,implies_true,bG,bF,c9,bH];refine⟨_,(jr l f om).pure',_,(jr m e om).pure',_,(sw (l.mul f) (m.mul e) om).pure',_,(jr e f om).pure',_,(Jd (k:=k+k+1) ((l.mul f).add (m.mul e)) ((e.mul f).mono om) om (iH t u)).pure',?_⟩;simp -dsimp only[go_sem];refine au.intro fun D g=>?_;have n7_6:=(ag g).1;have n7_5:=(ag (ag g).2).1;have n7_4:=(ag (ag (ag g).2).2).1;have n7_3:=(ag (ag (ag (ag g).2).2).2).1;have n7_2:=(ag (ag (ag (ag (ag g).2).2).2).2).1;simp -dsimp only[go_sem,ai n5_4,ai n6_4,ai n7_2,eJ,aO,aG,false_implies,implies_true,bG,bF,c9,bH];exact VR.agg (by simp[qN])
theorem JZ(c:0<b):(rN a b*rD 1 2+rN 1 2*rD a b)/(rD a b*rD 1 2)=(2*a+b)/(2*b):=by
 have d:rN 1 2=1:=by decide
 have e:rD 1 2=2:=by decide
 have f:=oR (a:=a) c;have g:=E3 (a:=a) (b:=b);rw[d,e];refine m9 om om ?_
 grind
theorem EB(e:nb a k)(f:nb b k)(t:k<=10000000)(l:4<=k)(d:0<b):PF 169 [.agg [.big a,.big b]] (.big ((2*a+b)/(2*b))):=by
 refine PF.of_spec (ak func169 rfl 7 ntmps169 kr sm (by simp[results169]) ?_)
 rw[aF,results169];have g:nb 1 k:=nb.one om;have h:nb 2 k:=cH (by decide:2<2^2) (cf om om)
 have m:=oR (a:=a) d;have n:0<rD 1 2:=by decide
 have o:=wS d e;have i:=wT (a:=a) d f;have p:nb (rN 1 2) k:=wS dc g
 have j:nb (rD 1 2) k:=wT dc h
 have q:=((o.mul j).add (p.mul i));have r:=((i.mul j).mono (om:k+k<=k+k+1))
 have c:=iH m n;simp -dsimp only[go_sem,aO,aG,false_implies,implies_true];refine au.intro fun u f1=>?_
 try simp -dsimp only[go_sem]
 refine au.intro fun v s=>?_;have n2_1:=(ag s).1;simp -dsimp only[go_sem];refine aP 4 kr ?_
 simp -dsimp only[go_sem,aa,ai n2_1,aL,dD,bG,bF];refine⟨_,Ll.pure',_,(Na e f g h om d dc).pure',_,(Jg (k:=k+k+1) (wS c q) (wT c r) om (oR c)).pure',?_⟩
 simp -dsimp only[go_sem];rw[m9 (oR c) c E3,JZ d];exact VR.mf rfl

theorem dT.cons(h:VA S x y)(a:dT S l r):dT S (x::l) (y::r):=⟨h,a⟩
theorem cC.blk{g:Nat->AV}(h:cC e es S0 S x j g){d:Nat}(f:dl x d):∃X,S d=some X:=by
 obtain⟨_,_,_,a⟩:=f;rcases h.2 with⟨_,b⟩|⟨c,_,b,g',i,_⟩
 ·rw[b]at a;cases a
 ·rw[b]at a;cases a;exact⟨_,i⟩
theorem cC.keep{S':St}{g:Nat->AV}(h:cC e es S0 S y j g)(c:cY S0 S')(f:∀d X,S d=some X->¬dl x d->S' d=some X)(i:∀d,dl y d->¬dl x d):cC e es S0 S' y j g :=
 h.step c (fun d a=>by obtain⟨X,b⟩:=h.blk a;rw[b];exact f d X b (i d a))
theorem uq(n i j:Nat)(A:aB)(k0:Nat)(h1:j<=i)(h2:i<n)(h3:n<=16)(hA:∀i j,i<n->j<n->nb (A i j) k0)(hk:k0<=10000000):PF 171 [aV n n A,.int .i64 i,.int .i64 j] (.big (eB A i j)):=by
 refine PF.of_spec (ak func171 rfl 34 ntmps171 kr sm (by simp[results171]) ?_)
 rw[aF,results171]
 try simp -dsimp only[go_sem]
 refine au.intro fun D f6=>?_;simp -dsimp only[go_sem];refine aI (fun O S=>∃(a:Nat) (x y:AV),a<=j/\O 0=aV n n A/\O 1=.int .i64 i/\O 2=.int .i64 j/\O 6=.ptr 2 D 0/\O 7=x/\O 8=y/\O 9=.int .i64 a/\cE S D 50 2 (.big 0)/\cC 3 1 St.none S x a (fun a=>.int .i64 a)/\cC 3 1 St.none S y a (fun a=>.int .i64 a)/\∀d,dl x d->¬dl y d) (fun O S=>j-bT (O 9)) ?_ ?_
 ·simp -dsimp only[go_sem];exact⟨0,om,rfl,cE.new rfl,cC.nil (cY.noneS _) _,cC.nil (cY.noneS _) _,fun d h=>by obtain⟨_,_,_,e⟩:=h;cases e⟩
 ·rintro O S ⟨a,x,y,ha,F,G,K,e6,E,L,V,V6,Y,M,H⟩;obtain⟨g6,W,v6⟩:=V6;have Z:=Y.other W om;have hy6:=M.other W om;by_cases hlt:a<j
  ·simp -dsimp only[go_sem,F,G,K,E,V,hlt];refine au.intro fun N f=>?_;simp -dsimp only[go_sem,E,V];have r:=Y.fresh f;have s:=M.fresh f;have t:D≠N:=fun e=>by rw[<-e,W]at f;cases f
   refine cC.app3 (Y.upd (by rfl) r _) om (show dN 1 (.int .i64 (a:Int)) by simp[dN]) (aK ⟨_,_,_,rfl,bR,rfl,fun h=>r _ h rfl⟩) ?_
   intro c S2 o u P;have v:=u D _ (by rw[aH t];exact W) Z
   have w:cC 3 1 St.none S2 y a (fun a=>.int .i64 a):=(M.upd (by rfl) s _).keep (cY.noneS _) u (fun d l b=>H d b l)
   have I:¬dl y c:=by
    intro J;rcases P with h|h
    ·exact H c h J
    ·obtain⟨X,z⟩:=M.blk J;rw[aH (s c J),z]at h;cases h
   simp -dsimp only[go_sem,E,L,V];refine au.intro fun Q g=>?_;simp -dsimp only[go_sem,L,V];have m:=o.fresh g;have k:=w.fresh g;have B:D≠Q:=fun e=>by rw[<-e,v]at g;cases g
   refine cC.app3 (w.upd (by rfl) k _) om (show dN 1 (.int .i64 (a:Int)) by simp[dN]) (aK ⟨_,_,_,rfl,bR,rfl,fun h=>k _ h rfl⟩) ?_
   intro c2 S3 R C hk6;have T:=C D _ (by rw[aH B];exact v) hy6
   have U:=(o.upd (by rfl) m _).keep (cY.noneS _) C (fun d l b=>by rw[dk]at l;rw[l]at b;exact I b)
   simp -dsimp only[go_sem,F,G,K,e6,L,V,aM (om:a<1000000),bT]
   refine⟨⟨a+1,om,rfl,⟨g6,T,v6⟩,U.congr fun a ha=>by grind,R.congr fun a ha=>by grind,fun d l b=>?_⟩,om⟩
   rw[dk]at l b;subst l;subst b;rcases hk6 with h|h
   ·exact I h
   ·obtain⟨X,z⟩:=o.blk (dk.2 rfl);rw[aH (m _ (dk.2 rfl)),z]at h;cases h
  ·obtain rfl:a=j:=om
   simp -dsimp only[go_sem,F,G,K,E,V,hlt];refine au.intro fun N f=>?_;simp -dsimp only[go_sem,F,G,E];have r:=Y.fresh f;have s:=M.fresh f;have t:D≠N:=fun e=>by rw[<-e,W]at f;cases f
   refine cC.app3 (Y.upd (by rfl) r _) om (show dN 1 (.int .i64 (i:Int)) by simp[dN]) (aK ⟨_,_,_,rfl,bR,rfl,fun h=>r _ h rfl⟩) ?_
   intro c S2 o u P;have v:=u D _ (by rw[aH t];exact W) Z
   have w:cC 3 1 St.none S2 y a (fun a=>.int .i64 a):=(M.upd (by rfl) s _).keep (cY.noneS _) u (fun d l b=>H d b l)
   have I:¬dl y c:=by
    intro J;rcases P with h|h
    ·exact H c h J
    ·obtain⟨X,z⟩:=M.blk J;rw[aH (s c J),z]at h;cases h
   simp -dsimp only[go_sem,F,G,K,E,L];refine au.intro fun Q g=>?_;simp -dsimp only[go_sem,F,G,K,E,L];have m:=o.fresh g;have k:=w.fresh g;have B:D≠Q:=fun e=>by rw[<-e,v]at g;cases g
   refine cC.app3 (w.upd (by rfl) k _) om (show dN 1 (.int .i64 (a:Int)) by simp[dN]) (aK ⟨_,_,_,rfl,bR,rfl,fun h=>k _ h rfl⟩) ?_
   intro c2 S3 R C hk6;have T:=C D _ (by rw[aH B];exact v) hy6
   have U:=(o.upd (by rfl) m _).keep (cY.noneS _) C (fun d l b=>by rw[dk]at l;rw[l]at b;exact I b)
   simp -dsimp only[go_sem,aa,F,G,K,E,L];have hF:∀c,c<a+1->xB a i c<n:=fun c J=>by unfold xB;split<;>omega
   have hF2:∀c,c<a+1->xB a a c<n:=fun c J=>by unfold xB;split<;>omega
   have vx:VR S3 (.sl 1 c 0 (a+1)) (aX (a+1) (fun q=>(xB a i q:Nat))):=U.vr (fun q hq=>by
    have:(if q=a then AV.int .i64 (i:Int)else .int .i64 (q:Int))=.int .i64 ((xB a i q:Nat):Int):=by
     unfold xB;by_cases e:q=a
     ·subst e;simp
     ·rw[if_neg e,if_pos om]
    rw[this];exact VR.mf rfl)
   have vy:VR S3 (.sl 1 c2 0 (a+1)) (aX (a+1) (fun q=>(xB a a q:Nat))):=R.vr (fun q hq=>by
    have:(if q=a then AV.int .i64 (a:Int)else .int .i64 (q:Int))=.int .i64 ((xB a a q:Nat):Int):=by
     unfold xB;by_cases e:q=a
     ·subst e;simp
     ·rw[if_neg e,if_pos om]
    rw[this];exact VR.mf rfl)
   refine(zY n n (a+1) (a+1) A (xB a i) (xB a a) om om om om hF hF2).pf.spec (dT.same (dT.cons vx.va (dT.cons vy.va dT.nil))) ?_;simp -dsimp only[go_sem,aa,F,G,K,E,L];refine(jJ (a+1) _ k0 om om (fun p q hp hq=>hA _ _ (hF p hp) (hF2 q hq)) hk).call ?_;simp -dsimp only[go_sem,aa,F,G,K,e6,E,L,T,aL];have l:=Fx A a (i-a) 0;simp only[(om:a+(i-a)=i),cn]at l
   rw[l];exact VR.mf rfl
theorem og(n k:Nat)(A:aB)(d:n<=16)(e:k<=n):PF 172 [bA n (fun k=>det (k+1) A),.int .i64 k] (.big (det k A)):=by
 refine PF.of_spec (ak func172 rfl 13 ntmps172 kr sm (by simp[results172]) ?_)
 rw[aF,results172]
 try simp -dsimp only[go_sem]
 refine au.intro fun f g=>?_;by_cases a:k=0
 ·subst a;simp -dsimp only[go_sem,aa,show((0:Nat):Int)=0 from rfl,beq_self_eq_true];refine(gU dc dc).call ?_
  simp -dsimp only[go_sem,aa,aL];exact VR.mf rfl
 ·obtain⟨m,rfl⟩:∃m,k=m+1:=⟨k-1,om⟩
  have b:(((m+1:Nat):Int)==0)=false:=by simp;omega
  have c:IntKind.i64.wrap (((m+1:Nat):Int)-1)=(m:Nat):=dV om om;simp -dsimp only[go_sem,aa,b,c,bA,(om:m<n),aL]
  exact VR.mf rfl
theorem qQ:decide (ka a b<=0)=decide (a<=b):=by
 unfold ka;rcases fF a b with h|h|h
 ·rw[if_pos h];simp;omega
 ·subst h;simp
 ·rw[if_neg om,if_pos h];simp;omega
theorem KL:decide (0<=ka a b)=decide (b<=a):=by
 unfold ka;rcases fF a b with h|h|h
 ·rw[if_pos h];simp;omega
 ·subst h;simp
 ·rw[if_neg om,if_pos h];simp;omega
theorem mY{A:aB}(d:n<=16)(c:∀i j,i<n->j<n->nb (A i j) k0)(e:k<=n):nb (det k A) (17*(k0+10)) :=
 (nG k A om (fun a b f g=>c a b om om)).mono (by have:k*(k0+10)<=16*(k0+10):=ay _ om;omega)
theorem DP{A:aB}{i:Nat}(d:n<=16)(c:∀i j,i<n->j<n->nb (A i j) k0)(e:j<=i)(f:i<n):nb (eB A i j) (17*(k0+10)):=by
 unfold eB;refine(nG (j+1) _ om (fun a b g h=>c _ _ ?_ ?_)).mono (by have:(j+1)*(k0+10)<=16*(k0+10):=ay _ om;omega)
 ·rw[jw];split<;>omega
 ·rw[jw];split<;>omega
theorem C9(n i j:Nat)(A:aB)(a:Nat)(f:j<i)(g:i<n)(d:n<=16)(e:∀i j,i<n->j<n->nb (A i j) a)(l:a<=10000000):PF 119 [aV n n A,bA n (fun k=>det (k+1) A),.int .i64 i,.int .i64 j] (.bool (decide (2*((eB A i j).natAbs:Int)<=det (j+1) A))):=by
 refine PF.of_spec (ak func119 rfl 22 ntmps119 kr sm (by simp[results119]) ?_)
 rw[aF,results119];have h:=DP d e (cX f) g;have b:nb ((eB A i j).natAbs:Int) (17*(a+10)):=nb.of_le sm h
 have m:=mY (k:=j+1) d e om;have c:nb 2 (17*(a+10)):=cH (by decide:2<2^2) (cf om om)
 simp -dsimp only[go_sem,aa];refine(gU dc dc).call ?_
 simp -dsimp only[go_sem,aa];refine(uq n i j A a (cX f) g d e l).call ?_;simp -dsimp only[go_sem,aa];refine(AF h om).call ?_;simp -dsimp only[go_sem,aa];refine(jr c b om).call ?_;simp -dsimp only[go_sem,aa,aM (om:j<1000000)]
 refine(og n (j+1) A d om).call ?_;simp -dsimp only[go_sem,aa];refine(sv (c.mul b) (m.mono om) om).call ?_;simp -dsimp only[go_sem,qQ];exact VR.mf rfl
theorem zw(n:Nat)(A:aB)(a:Nat)(d:1<=n)(b:n<=16)(c:∀i j,i<n->j<n->nb (A i j) a)(e:a<=10000000):PF 57 [aV n n A] (.bool (decide (det n A<=10000))):=by
 refine PF.of_spec (ak func57 rfl 8 ntmps57 kr sm (by simp[results57]) ?_)
 rw[aF,results57];have f:=mY (k:=n) b c (af _);have g:nb 10000 (17*(a+10)):=cH (by decide:10000<2^14) (cf om om)
 simp -dsimp only[go_sem,aa];refine(jJ n A a d b c e).call ?_;simp -dsimp only[go_sem,aa];refine(gU dc dc).call ?_
 simp -dsimp only[go_sem,aa];refine(sv f g om).call ?_;simp -dsimp only[go_sem,qQ];exact VR.mf rfl
theorem tC(n:Nat)(A T:aB)(k:Nat)(a:1<=n)(c:n<=16)(h:∀i j,i<n->j<n->nb (A i j) k)(f:∀i j,i<n->j<n->nb (T i j) k)(p:k<=100000000):MF 113 [aV n n A,aV n n T] n n (mV n (mV n (fun i j=>T j i) A) T):=by
 refine MF.of (ak func113 rfl 17 ntmps113 kr sm (by simp[results113]) ?_)
 rw[aF,results113];have m:∀i j,i<n->j<n->nb (mV n (fun i j=>T j i) A i j) (k+k+10):=fun i j d e=>pL (fun q l=>(f q i l d).mul (h q j l e)) om n (af _);simp -dsimp only[go_sem,aa];refine(td n n T k a c a c f om).pf.call ?_;simp -dsimp only[go_sem,aa];refine(pi n n n (fun i j=>T j i) A k a c a c a c (fun i j d e=>f j i e d) h om).pf.call ?_;simp -dsimp only[go_sem,aa];refine(pi n n n _ T (k+k+10) a c a c a c m (fun i j d e=>(f i j d e).mono om) om _ _ (cD _ _)).mono ?_;rintro r S1 ⟨b,g,rfl,o⟩;simp -dsimp only[go_sem];exact⟨b,rfl,g,o.1⟩

theorem Cn(h:z.natAbs<16)(a:4<=k):nb z k:=cH h (by have:=cf (n:=2) om a;omega)
theorem Ab(n i:Nat)(A:aB)(b:Nat)(s:0<i)(l:i<n)(a:n<=16)(e:∀i j,i<n->j<n->nb (A i j) b)(q:b<=10000000):PF 120 [aV n n A,bA n (fun k=>det (k+1) A),.int .i64 i] (.bool (decide (3*(det i A*det i A)<=4*(det (i-1) A*det (i+1) A+eB A i (i-1)*eB A i (i-1))))):=by
 refine PF.of_spec (ak func120 rfl 41 ntmps120 kr sm (by simp[results120]) ?_)
 rw[aF,results120];obtain⟨m,rfl⟩:∃m,i=m+1:=⟨i-1,om⟩
 rw[Nat.add_sub_cancel];have f:IntKind.i64.wrap (((m+1:Nat):Int)-1)=(m:Nat):=dV om om;have c:=DP (i:=m+1) (j:=m) a e om l;have g:=mY (k:=m) a e om;have d:=mY (k:=m+1) a e om;have h:=mY (k:=m+1+1) a e om;have o:nb 4 (17*(b+10)+17*(b+10)+1):=Cn dc om
 have p:nb 3 (17*(b+10)+17*(b+10)):=Cn dc om
 have s1:=(g.mul h).add (c.mul c);simp -dsimp only[go_sem,aa,f];refine(uq n (m+1) m A b om l a e q).call ?_;simp -dsimp only[go_sem];refine au.intro fun t u=>?_;simp -dsimp only[go_sem,aa,f];refine aP 16 kr ?_
 simp -dsimp only[go_sem,aa,f,aM (om:m+1<1000000),aL]
 refine⟨_,(gU dc dc).pure',_,(og n m A a om).pure',_,(og n (m+1+1) A a om).pure',_,(jr g h om).pure',_,(jr c c om).pure',_,(sw (g.mul h) (c.mul c) om).pure',_,(jr o s1 om).pure',?_⟩
 refine au.intro fun v r=>?_;have n8_7:=(ag r).1;simp -dsimp only[go_sem];refine aP 13 kr ?_
 simp -dsimp only[go_sem,aa,aL];refine⟨_,(gU dc dc).pure',_,(og n (m+1) A a om).pure',_,(og n (m+1) A a om).pure',_,(jr d d om).pure',_,(jr p (d.mul d) om).pure',_,(sv (o.mul s1) ((p.mul (d.mul d)).mono om) om).pure',?_⟩
 simp -dsimp only[go_sem,KL];exact VR.mf rfl
theorem EW:decide (a.sign<=0)=decide (a<=0):=by
 rcases fF a 0 with h|h|h
 ·rw[Int.sign_eq_neg_one_of_neg h];simp;omega
 ·subst h;simp
 ·rw[dR h];simp;omega
theorem Df(n:Nat)(A:aB)(h:Nat)(r:1<=n)(m:n<=16)(o:∀i j,i<n->j<n->nb (A i j) h)(l:h<=10000000)(s:∀a b,a<n->b<n->A a b=A b a)(β:Bool)(hβ:β=true↔∀k,k<=n->0<det k A):PF 117 [aV n n A] (.bool β):=by
 refine PF.of_spec (ak func117 rfl 29 ntmps117 kr sm (by simp[results117]) ?_)
 rw[aF,results117];simp -dsimp only[go_sem,aa];refine(rI n A h r m o l).call ?_;simp -dsimp only[go_sem,aa,bA];refine(se n A h m o l s).call ?_;simp -dsimp only[go_sem];refine aI (fun O S=>∃i:Nat,i<=n/\O 19=bA n (fun k=>det (k+1) A)/\O 20=.int .i64 n/\O 21=.int .i64 i/\∀k,k<=i->0<det k A) (fun O S=>n-bT (O 21)) ?_ ?_
 ·simp -dsimp only[go_sem,bA];exact⟨0,om,rfl,fun k l=>by rw[(om:k=0)];simp[det]⟩
 ·rintro O S ⟨i,u,c,d,f,p⟩;by_cases g:i<n
  ·have t:=mY (k:=i+1) m o om;simp -dsimp only[go_sem,bA,c,d,f,g];refine au.intro fun v w=>?_;simp -dsimp only[go_sem,aa,aL];refine(lQ t om).call ?_;by_cases q:det (i+1) A<=0
   ·simp -dsimp only[go_sem,bA,c,d,f,EW,q];have:β=false:=by
     cases β with
     | false=>rfl
     | true=>have:=hβ.1 rfl (i+1) om;omega
    rw[this];exact VR.mf rfl
   ·simp -dsimp only[go_sem,bA,c,d,f,EW,q,aM (om:i<1000000),bT]
    refine⟨⟨i+1,om,rfl,fun k l=>?_⟩,om⟩
    by_cases e:k=i+1
    ·rw[e];omega
    ·exact p k om
  ·obtain rfl:i=n:=om
   simp -dsimp only[go_sem,bA,c,d,f,g];have:β=true:=hβ.2 p;rw[this];exact VR.mf rfl
theorem nk(n:Nat)(A:aB)(c:Nat)(d:1<=n)(h:n<=8)(e:∀i j,i<n->j<n->nb (A i j) c)(f:c<=10000000)(g:∀a b,a<n->b<n->A a b=A b a)(β:Bool)(hβ:β=true↔∀k,k<=n->0<det k A):PF 56 [aV n n A] (.int .i64 (if β then 0 else 5)):=by
 refine PF.of_spec (ak func56 rfl 25 ntmps56 kr sm (by simp[results56]) ?_)
 rw[aF,results56];simp -dsimp only[go_sem,aa];refine(zu n A d om).call ?_;simp -dsimp only[go_sem,aa,(om:¬((8:Int)<n))]
 refine(se n A c om e f g).call ?_;simp -dsimp only[go_sem,aa];refine(Df n A c d om e f g β hβ).call ?_
 cases β
 ·simp -dsimp only[go_sem];exact VR.mf rfl
 ·simp -dsimp only[go_sem];exact VR.mf rfl

inductive Ev where
 | size (i j:Nat)
 | swap (i:Nat)
 | done
def BN(A:aB)(n:Nat):Ev->Prop
 | .size i j=>j<i/\i<n/\jy A i/\(∀j',j<j'->j'<i->fM A i j')/\¬fM A i j
 | .swap i=>0<i/\i<n/\jy A i/\(∀j',j'<i->fM A i j')/\¬gZ A i
 | .done=>jy A n
def jA(n:Nat):Ev->Nat
 | .size i _=>i
 | .swap i=>i
 | .done=>n
def Mx(A:aB)(i j:Nat):Int:=- ((2*eB A i j+det (j+1) A)/(2*det (j+1) A))
def GZ(A:aB):Ev->aB
 | .size i j=>dK ma j i (Mx A i j)
 | .swap i=>fun a b=>ma (cV (i-1) i a) b
 | .done=>ma
def evV(n:Nat)(A:aB)(ev:Ev):AV:=match ev with
 | .done=>.tup [.nil,.bool false]
 | e=>.tup [aV n n (GZ A e),.bool true]
theorem BN.ok{A:aB}{ev:Ev}(h:BN A n ev):jy A (jA n ev)/\jA n ev<=n:=by
 cases ev with
 | size i j=>exact⟨h.2.2.1,cX h.2.1⟩
 | swap i=>exact⟨h.2.2.1,cX h.2.1⟩
 | done=>exact⟨h,af _⟩
theorem Kn(A:aB)(n:Nat):∃ev,BN A n ev:=by
 have key:∀i,i<=n->jy A i∨∃ev,BN A n ev:=by
  intro i
  induction i with
  | zero=>intro _;exact bn ⟨fun r d=>om,fun r _ d=>om⟩
  | succ i ih =>
   intro m;rcases ih om with h|h
   ·have row:∀t,t<=i->(∀j',i-t<=j'->j'<i->fM A i j')∨∃ev,BN A n ev:=by
     intro t
     induction t with
     | zero=>intro _;exact bn (fun j' a b=>om)
     | succ t iht =>
      intro o;rcases iht om with a|a
      ·rcases eP (fM A i (i-(t+1)))with b|b
       ·refine bn (fun j' f g=>?_);by_cases e:j'=i-(t+1)
        ·rw[e];exact b
        ·exact a j' om g
       ·exact aK ⟨.size i (i-(t+1)),om,om,h,fun j' f g=>a j' om g,b⟩
      ·exact aK a
    rcases row i (af _)with a|a
    ·have k:∀j',j'<i->fM A i j':=fun j' c=>a j' om c;rcases bC i with l|l
     ·refine bn ⟨fun r d j c=>?_,fun r b d=>om⟩
      omega
     ·rcases eP (gZ A i)with b|b
      ·refine bn ⟨fun r d j c=>?_,fun r f d=>?_⟩
       ·by_cases e:r=i
        ·rw[e]at c ⊢;exact k j c
        ·exact h.1 r om j c
       ·by_cases e:r=i
        ·rw[e];exact b
        ·exact h.2 r f om
      ·exact aK ⟨.swap i,l,om,h,k,b⟩
    ·exact aK a
   ·exact aK h
 rcases key n (af _)with h|h
 ·exact⟨.done,h⟩
 ·exact h
theorem dd.swap'{b:Nat}(h:dd S b g n m A){p k:Nat}(d:p<n)(e:k<n)(a:p≠k){c:Nat->AV}(f:S b=some ⟨59,1,n,c⟩) :
  dd ((S.upd b ⟨59,1,n,aL c p (.sl 2 (g k) 0 m)⟩).upd b ⟨59,1,n,aL (aL c p (.sl 2 (g k) 0 m)) k (.sl 2 (g p) 0 m)⟩) b (fun i=>g (cV k p i)) n m (fun i j=>A (cV k p i) j):=by
 rw[kE];exact h.swap d e a f
theorem At(n:Nat)(A:aB)(v:Nat)(h1:1<=n)(h2:n<=8)(M:∀i j,i<n->j<n->nb (A i j) v)(hk:v<=500000)(P:∀k,k<=n->0<det k A)(ev:Ev)(w:BN A n ev):PF 112 [aV n n A] (evV n A ev):=by
 refine PF.of_spec (ak func112 rfl 83 ntmps112 kr sm (by simp[results112]) ?_)
 rw[aF,results112];obtain⟨G,hrn⟩:=w.ok;simp -dsimp only[go_sem,aa];refine(rI n A v h1 om M om).call ?_;simp -dsimp only[go_sem,aa,aV];refine(uZ n h1 om _ _ (cD _ _)).mono ?_;rintro r S1 ⟨b,g,rfl,Q⟩;simp -dsimp only[go_sem];refine aI (fun O S=>∃i:Nat,i<=jA n ev/\O 0=aV n n A/\O 4=bA n (fun k=>det (k+1) A)/\O 6=.sl 1 b 0 n/\O 22=.int .i64 n/\O 23=.int .i64 i/\S=S1) (fun O S=>n-bT (O 23)) ?_ ?_
 ·simp -dsimp only[go_sem,aV,bA];exact⟨0,om,rfl⟩
 ·rintro O S ⟨i,hi,x,y,B,f,l,rfl⟩;by_cases o:i<n
  ·have hw:IntKind.i64.wrap ((i:Int)-1)=(i:Int)-1:=i64_in om om;simp -dsimp only[go_sem,f,l,o,hw];refine aI (fun O S'=>∃jj:Nat,jj<=i/\(∀j',jj<=j'->j'<i->fM A i j')/\(∀j,ev=.size i j->j<jj)/\O 0=aV n n A/\O 4=bA n (fun k=>det (k+1) A)/\O 6=.sl 1 b 0 n/\O 8=.int .i64 i/\O 9=.int .i64 ((jj:Int)-1)/\O 22=.int .i64 n/\O 23=.int .i64 i/\S'=S) (fun O S=>match O 9 with|.int _ z=>(z+1).toNat|_=>0) ?_ ?_
   ·simp -dsimp only[go_sem,x,y,B,f,l];refine⟨i,om,fun j' h3 N=>om,fun j R=>?_,rfl⟩
    subst R;exact w.1
   ·rintro O S' ⟨jj,hjj,T,H,x,y,B,C,V,f,l,rfl⟩;rcases bC jj with h0|h0
    ·subst h0;have hall:∀j',j'<i->fM A i j':=fun j' R=>T j' om R;have U:∀j,ev≠.size i j:=fun j R=>by have:=H j R;omega
     have W:¬((0:Int)<=((0:Nat):Int)-1):=om
     rcases bC i with D|D
     ·subst D;have hne:(0:Nat)≠jA n ev:=fun e=>by
       cases ev with
       | size a c=>have:=w.1;simp only[jA]at e;omega
       | swap a=>have:=w.1;simp only[jA]at e;omega
       | done=>simp only[jA]at e;omega
      simp -dsimp only[go_sem,aa,x,y,B,C,V,f,l,show((0:Nat):Int)=0 from rfl,Int.lt_irrefl,show IntKind.i64.wrap ((0:Int)+1)=1 from rfl,bT];refine⟨⟨1,om,rfl⟩,?_⟩
      simp;omega
     ·have s:(0:Int)<(i:Int):=om
      simp -dsimp only[go_sem,aa,x,y,C,V,W,s];refine(Ab n i A v D o om M om).call ?_;by_cases X:gZ A i
      ·have I:decide (3*(det i A*det i A)<=4*(det (i-1) A*det (i+1) A+eB A i (i-1)*eB A i (i-1)))=true:=by simpa [gZ]using X
       rw[I];simp -dsimp only[go_sem,x,y,B,C,f,l,s,aM (om:i<1000000),bT]
       have hne:i≠jA n ev:=fun e=>by
        cases ev with
        | size a c=>simp only[jA]at e;subst e;exact U c rfl
        | swap a=>simp only[jA]at e;subst e;exact w.2.2.2.2 X
        | done=>simp only[jA]at e;omega
       exact⟨⟨i+1,om,rfl⟩,om⟩
      ·have I:decide (3*(det i A*det i A)<=4*(det (i-1) A*det (i+1) A+eB A i (i-1)*eB A i (i-1)))=false:=by simpa [gZ]using X
       rw[I];have t:ev=.swap i:=by
        have d:i=jA n ev:=by
         rcases az i (jA n ev)with h|h
         ·exact absurd (G.2 i D h) X
         ·omega
        cases ev with
        | size a c=>simp only[jA]at d;subst d;exact absurd rfl (U c)
        | swap a=>simp only[jA]at d;rw[d]
        | done=>simp only[jA]at d;omega
       subst t;obtain⟨m,rfl⟩:∃m,i=m+1:=⟨i-1,om⟩
       have hw3:IntKind.i64.wrap (((m+1:Nat):Int)-1)=(m:Nat):=dV om om;have J:m<n:=om
       obtain⟨g1,Y,Z⟩:=Q.1.outer;have w1:g1 (m+1)=.sl 2 (g (m+1)) 0 n:=Z (m+1) o;have w2:g1 m=.sl 2 (g m) 0 n:=Z m J;simp -dsimp only[go_sem,x,y,B,C,f,l,s];refine ej 15 [[2,3,4]] kr ?_
       simp -dsimp only[go_sem,aa,B,C,o,hw3,Y,w1,w2,J];have hM2:=Q.1.swap' (p:=m+1) (k:=m) o J om Y;exact VR.tup2 (hM2.vr) (VR.mf rfl)
    ·obtain⟨j,rfl⟩:∃j,jj=j+1:=⟨jj-1,om⟩
     have E:O 9=.int .i64 (j:Int):=by rw[V];congr 1;omega
     clear V;simp -dsimp only[go_sem,aa,x,y,B,C,E,f,l];refine(C9 n i j A v om o om M om).call ?_;by_cases K:fM A i j
     ·have L:decide (2*((eB A i j).natAbs:Int)<=det (j+1) A)=true:=by simpa [fM]using K
      rw[L];have hw2:IntKind.i64.wrap ((j:Int)-1)=(j:Int)-1:=i64_in om om;simp -dsimp only[go_sem,x,y,B,C,E,f,l,hw2];refine⟨⟨j,om,fun j' h3 N=>?_,fun c W=>?_,rfl⟩,om⟩
      ·by_cases e:j'=j
       ·rw[e];exact K
       ·exact T j' om N
      ·have h3:=H c W;have N:c≠j:=fun e=>by
        subst e;subst W;exact w.2.2.2.2 K
       omega
     ·have L:decide (2*((eB A i j).natAbs:Int)<=det (j+1) A)=false:=by simpa [fM]using K
      rw[L];have t:ev=.size i j:=by
       have d:i=jA n ev:=by
        rcases az i (jA n ev)with h|h
        ·exact absurd (G.1 i h j om) K
        ·omega
       cases ev with
       | size a c =>
        simp only[jA]at d;subst d;have h3:=H c rfl;rcases az c j with N|N
        ·exact absurd (w.2.2.2.1 j N om) K
        ·rw[(om:c=j)]
       | swap a=>simp only[jA]at d;subst d;exact absurd (w.2.2.2.1 j om) K
       | done=>simp only[jA]at d;omega
      subst t;have F:j<n:=om
      have q:=DP (n:=n) (i:=i) (j:=j) om M om o;have hd:=mY (k:=j+1) (n:=n) om M om;have u:=P (j+1) om;have hnear:(2*rN (eB A i j) (det (j+1) A)+rD (eB A i j) (det (j+1) A))/(2*rD (eB A i j) (det (j+1) A))=(2*eB A i j+det (j+1) A)/(2*det (j+1) A):=by
       have hp:=oR (a:=eB A i j) u;have hr:=E3 (a:=eB A i j) (b:=det (j+1) A);refine m9 om om ?_
       grind
      have hnq:nb ((2*eB A i j+det (j+1) A)/(2*det (j+1) A)) (17*(v+10)+1+1):=by
       have h5:nb (2*eB A i j) (17*(v+10)+1):=by
        have:2*eB A i j=eB A i j+eB A i j:=om
        rw[this];exact q.add q
       exact nb.of_le (Int.natAbs_ediv_le_natAbs ..) (h5.add (hd.mono om))
      obtain⟨g1,Y,Z⟩:=Q.1.outer;obtain⟨g2,u2,v2⟩:=Q.1.row j F;have w1:=Z j F;simp -dsimp only[go_sem,x,y,B,C,E,f,l];refine aP 17 kr ?_
      simp -dsimp only[go_sem,aa,x,y,B,C,E,o,F,Y,u2,w1,aM (om:j<1000000)]
      refine⟨_,(uq n i j A v om o om M om).pure',_,(og n (j+1) A om om).pure',_,(Da q hd om u).pure',_,(EB (k:=17*(v+10)) (wS u q) (wT u hd) om om (oR u)).pure',_,(E0 (k:=17*(v+10)+1+1) (by rw[hnear];exact hnq) om).pure',?_⟩
      rw[hnear];simp -dsimp only[go_sem];exact VR.tup2 ((Q.1.set F u2).vr) (VR.mf rfl)
  ·obtain rfl:i=n:=om
   simp -dsimp only[go_sem,f,l,o]
   cases ev with
   | size a c=>have:=w.2.1;simp only[jA]at hi;omega
   | swap a=>have:=w.2.1;simp only[jA]at hi;omega
   | done=>exact VR.tup2 (VR.mf rfl) (VR.mf rfl)

end Go.Proofs.YtdobfmlmenaajaaGreatDoor
