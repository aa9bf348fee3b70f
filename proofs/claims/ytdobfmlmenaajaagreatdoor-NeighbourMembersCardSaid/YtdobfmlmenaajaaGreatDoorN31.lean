/-
  Lemmas for NeighbourMembers.
-/
import Derived.Test.YtdobfmlmenaajaaGreatDoorN30
namespace Go.Proofs.YtdobfmlmenaajaaGreatDoor
open Go.RowKit
open _root_.Int renaming ofNat_lt→af,tmod_eq_emod_of_nonneg→aL,tmod→dW,sign_eq_zero_iff_zero→pn
open _root_.List renaming all_eq_true→az,not_mem_nil→aZ,forall_mem_cons→bC
open _root_.Nat renaming reduceEqDiff→aa,add_one_le_iff→ab,reduceLT→ae,le_refl→ah,reduceAdd→aj,sub_self→bP,lt_irrefl→cD,sub_sub→vQ
open _root_.Ne renaming symm→ak
open _root_.Option renaming none→ac
open _root_.Or renaming inl→bH
set_option maxHeartbeats 6400000
set_option maxRecDepth 4096
set_option linter.all false
def F5(b N top:Nat):Nat->AV:=fun j=>if j=0 then .sl 1 b 0 N else .int .i64 top
structure rn(T:St)(b1 b N top:Nat)(L:Nat->Bool)(O:Tm)(S:St):Prop where
 base:O 1=.ptr 1 b1 0
 p0:L 0=true->O 10=.ptr 1 b1 0
 p1:L 1=true->O 11=.sl 1 b 0 N
 p2:L 2=true->O 12=.int .i64 N
 p4:L 4=true->O 14=.ptr 1 b1 1
 p5:L 5=true->O 15=.int .i64 top
 ext:eZ T S
 ex:∃bw b3,(L 3=true->O 13=.sl 1 bw 0 N/\bB S bw 59 1 N (fun _=>.nil)/\T bw=ac)/\(L 6=true->L 3=true/\O 16=.agg [.sl 1 bw 0 N,.int .i64 top])/\(L 7=true->O 3=.ptr 1 b3 0/\T b3=ac/\∃g,S b3=some ⟨218,1,2,g⟩)/\(L 8=true->L 6=true/\L 7=true/\bB S b3 218 1 2 (F5 bw N top))
theorem pt{O:Tm}{d t:Nat}{z:AV}(h:t≠d):(O.put (some d) z) t=O t:=by rw[Tm.put_eq];exact if_neg h
theorem pd{O:Tm}{d:Nat}{z:AV}:(O.put (some d) z) d=z:=by rw[Tm.put_eq];exact if_pos rfl
theorem iq{L:Nat->Bool}{i k:Nat}(h:(if k=i then true else L k)=true)(hk:k≠i):L k=true:=by rwa [if_neg hk]at h
section
variable {T:St} {b1 b N top:Nat} {L:Nat->Bool} {O:Tm} {S:St}
theorem rn.s0(h:rn T b1 b N top L O S):rn T b1 b N top (fun k=>if k=0 then true else L k) (O.put (some 10) (.ptr 1 b1 0)) S :=
 ⟨by rw[pt (by decide)];exact h.base,fun _=>pd,fun hl=>by rw[pt (by decide)];exact h.p1 (iq hl (by decide)),fun hl=>by rw[pt (by decide)];exact h.p2 (iq hl (by decide)),fun hl=>by rw[pt (by decide)];exact h.p4 (iq hl (by decide)),fun hl=>by rw[pt (by decide)];exact h.p5 (iq hl (by decide)),h.ext,by
  obtain⟨bw,b3,m3,m6,m7,m8⟩:=h.ex;refine⟨bw,b3,fun hl=>?_,fun hl=>?_,fun hl=>?_,fun hl=>?_⟩
  ·rw[pt (by decide)];exact m3 (iq hl (by decide))
  ·rw[pt (by decide)];exact⟨by simpa using (m6 (iq hl (by decide))).1,(m6 (iq hl (by decide))).2⟩
  ·rw[pt (by decide)];exact m7 (iq hl (by decide))
  ·have:=m8 (iq hl (by decide));exact⟨by simpa using this.1,by simpa using this.2.1,this.2.2⟩⟩
theorem rn.s1(h:rn T b1 b N top L O S):rn T b1 b N top (fun k=>if k=1 then true else L k) (O.put (some 11) (.sl 1 b 0 N)) S :=
 ⟨by rw[pt (by decide)];exact h.base,fun hl=>by rw[pt (by decide)];exact h.p0 (iq hl (by decide)),fun _=>pd,fun hl=>by rw[pt (by decide)];exact h.p2 (iq hl (by decide)),fun hl=>by rw[pt (by decide)];exact h.p4 (iq hl (by decide)),fun hl=>by rw[pt (by decide)];exact h.p5 (iq hl (by decide)),h.ext,by
  obtain⟨bw,b3,m3,m6,m7,m8⟩:=h.ex;refine⟨bw,b3,fun hl=>?_,fun hl=>?_,fun hl=>?_,fun hl=>?_⟩
  ·rw[pt (by decide)];exact m3 (iq hl (by decide))
  ·rw[pt (by decide)];exact⟨by simpa using (m6 (iq hl (by decide))).1,(m6 (iq hl (by decide))).2⟩
  ·rw[pt (by decide)];exact m7 (iq hl (by decide))
  ·have:=m8 (iq hl (by decide));exact⟨by simpa using this.1,by simpa using this.2.1,this.2.2⟩⟩
theorem rn.s2(h:rn T b1 b N top L O S):rn T b1 b N top (fun k=>if k=2 then true else L k) (O.put (some 12) (.int .i64 N)) S :=
 ⟨by rw[pt (by decide)];exact h.base,fun hl=>by rw[pt (by decide)];exact h.p0 (iq hl (by decide)),fun hl=>by rw[pt (by decide)];exact h.p1 (iq hl (by decide)),fun _=>pd,fun hl=>by rw[pt (by decide)];exact h.p4 (iq hl (by decide)),fun hl=>by rw[pt (by decide)];exact h.p5 (iq hl (by decide)),h.ext,by
  obtain⟨bw,b3,m3,m6,m7,m8⟩:=h.ex;refine⟨bw,b3,fun hl=>?_,fun hl=>?_,fun hl=>?_,fun hl=>?_⟩
  ·rw[pt (by decide)];exact m3 (iq hl (by decide))
  ·rw[pt (by decide)];exact⟨by simpa using (m6 (iq hl (by decide))).1,(m6 (iq hl (by decide))).2⟩
  ·rw[pt (by decide)];exact m7 (iq hl (by decide))
  ·have:=m8 (iq hl (by decide));exact⟨by simpa using this.1,by simpa using this.2.1,this.2.2⟩⟩
theorem rn.s4(h:rn T b1 b N top L O S):rn T b1 b N top (fun k=>if k=4 then true else L k) (O.put (some 14) (.ptr 1 b1 1)) S :=
 ⟨by rw[pt (by decide)];exact h.base,fun hl=>by rw[pt (by decide)];exact h.p0 (iq hl (by decide)),fun hl=>by rw[pt (by decide)];exact h.p1 (iq hl (by decide)),fun hl=>by rw[pt (by decide)];exact h.p2 (iq hl (by decide)),fun _=>pd,fun hl=>by rw[pt (by decide)];exact h.p5 (iq hl (by decide)),h.ext,by
  obtain⟨bw,b3,m3,m6,m7,m8⟩:=h.ex;refine⟨bw,b3,fun hl=>?_,fun hl=>?_,fun hl=>?_,fun hl=>?_⟩
  ·rw[pt (by decide)];exact m3 (iq hl (by decide))
  ·rw[pt (by decide)];exact⟨by simpa using (m6 (iq hl (by decide))).1,(m6 (iq hl (by decide))).2⟩
  ·rw[pt (by decide)];exact m7 (iq hl (by decide))
  ·have:=m8 (iq hl (by decide));exact⟨by simpa using this.1,by simpa using this.2.1,this.2.2⟩⟩
theorem rn.s5(h:rn T b1 b N top L O S):rn T b1 b N top (fun k=>if k=5 then true else L k) (O.put (some 15) (.int .i64 top)) S :=
 ⟨by rw[pt (by decide)];exact h.base,fun hl=>by rw[pt (by decide)];exact h.p0 (iq hl (by decide)),fun hl=>by rw[pt (by decide)];exact h.p1 (iq hl (by decide)),fun hl=>by rw[pt (by decide)];exact h.p2 (iq hl (by decide)),fun hl=>by rw[pt (by decide)];exact h.p4 (iq hl (by decide)),fun _=>pd,h.ext,by
  obtain⟨bw,b3,m3,m6,m7,m8⟩:=h.ex;refine⟨bw,b3,fun hl=>?_,fun hl=>?_,fun hl=>?_,fun hl=>?_⟩
  ·rw[pt (by decide)];exact m3 (iq hl (by decide))
  ·rw[pt (by decide)];exact⟨by simpa using (m6 (iq hl (by decide))).1,(m6 (iq hl (by decide))).2⟩
  ·rw[pt (by decide)];exact m7 (iq hl (by decide))
  ·have:=m8 (iq hl (by decide));exact⟨by simpa using this.1,by simpa using this.2.1,this.2.2⟩⟩
theorem rn.s3(h:rn T b1 b N top L O S)(hL:L 3=false){c:Nat}(hc:S c=ac)(z:Nat->AV)(hz:∀i,i<N->z i=.nil):rn T b1 b N top (fun k=>if k=3 then true else L k) (O.put (some 13) (.sl 1 c 0 N)) (S.upd c ⟨59,1,N,z⟩):=by
 have hT:=h.ext.none hc;refine⟨by rw[pt (by decide)];exact h.base,fun hl=>by rw[pt (by decide)];exact h.p0 (iq hl (by decide)),fun hl=>by rw[pt (by decide)];exact h.p1 (iq hl (by decide)),fun hl=>by rw[pt (by decide)];exact h.p2 (iq hl (by decide)),fun hl=>by rw[pt (by decide)];exact h.p4 (iq hl (by decide)),fun hl=>by rw[pt (by decide)];exact h.p5 (iq hl (by decide)),h.ext.upd hT _,?_⟩
 obtain⟨bw,b3,m3,m6,m7,m8⟩:=h.ex;have h6:L 6=true->False:=fun h6=>by rw[(m6 h6).1]at hL;cases hL
 refine⟨c,b3,fun _=>⟨pd,bB.here hz,hT⟩,fun hl=>(h6 (iq hl (by decide))).elim,fun hl=>?_,fun hl=>(h6 (m8 (iq hl (by decide))).1).elim⟩
 rw[pt (by decide)]
 obtain⟨k1,k2,g,k3⟩:=m7 (iq hl (by decide))
 refine⟨k1,k2,g,?_⟩;rw[aQ];exact k3;rintro rfl;rw[hc]at k3;cases k3
theorem rn.s6(h:rn T b1 b N top L O S)(h3:L 3=true):∃bw,O 13=.sl 1 bw 0 N/\rn T b1 b N top (fun k=>if k=6 then true else L k) (O.put (some 16) (.agg [.sl 1 bw 0 N,.int .i64 top])) S:=by
 obtain⟨bw,b3,m3,m6,m7,m8⟩:=h.ex;refine⟨bw,(m3 h3).1,⟨by rw[pt (by decide)];exact h.base,fun hl=>by rw[pt (by decide)];exact h.p0 (iq hl (by decide)),fun hl=>by rw[pt (by decide)];exact h.p1 (iq hl (by decide)),fun hl=>by rw[pt (by decide)];exact h.p2 (iq hl (by decide)),fun hl=>by rw[pt (by decide)];exact h.p4 (iq hl (by decide)),fun hl=>by rw[pt (by decide)];exact h.p5 (iq hl (by decide)),h.ext,bw,b3,fun hl=>?_,fun _=>⟨by simpa using h3,pd⟩,fun hl=>?_,fun hl=>?_⟩⟩
 ·rw[pt (by decide)];exact m3 h3
 ·rw[pt (by decide)];exact m7 (iq hl (by decide))
 ·have:=m8 (iq hl (by decide));exact⟨by simp,by simpa using this.2.1,this.2.2⟩
theorem rn.s7(h:rn T b1 b N top L O S)(hL:L 7=false){c:Nat}(hc:S c=ac)(z:Nat->AV):rn T b1 b N top (fun k=>if k=7 then true else L k) (O.put (some 3) (.ptr 1 c 0)) (S.upd c ⟨218,1,2,z⟩):=by
 have hT:=h.ext.none hc;refine⟨by rw[pt (by decide)];exact h.base,fun hl=>by rw[pt (by decide)];exact h.p0 (iq hl (by decide)),fun hl=>by rw[pt (by decide)];exact h.p1 (iq hl (by decide)),fun hl=>by rw[pt (by decide)];exact h.p2 (iq hl (by decide)),fun hl=>by rw[pt (by decide)];exact h.p4 (iq hl (by decide)),fun hl=>by rw[pt (by decide)];exact h.p5 (iq hl (by decide)),h.ext.upd hT _,?_⟩
 obtain⟨bw,b3,m3,m6,m7,m8⟩:=h.ex;refine⟨bw,c,fun hl=>?_,fun hl=>?_,fun _=>⟨pd,hT,z,bV⟩,fun hl=>?_⟩
 ·rw[pt (by decide)]
  obtain⟨k1,k2,k3⟩:=m3 (iq hl (by decide))
  exact⟨k1,k2.upd (bB.fresh k2 hc) _,k3⟩
 ·rw[pt (by decide)];exact⟨by simpa using (m6 (iq hl (by decide))).1,(m6 (iq hl (by decide))).2⟩
 ·have:=(m8 (iq hl (by decide))).2.1;rw[this]at hL;cases hL
theorem rn.s8(h:rn T b1 b N top L O S)(h6:L 6=true)(h7:L 7=true):∃bw b3 g,O 16=.agg [.sl 1 bw 0 N,.int .i64 top]/\O 3=.ptr 1 b3 0/\S b3=some ⟨218,1,2,g⟩/\∀z,(∀j,j<2->z j=F5 bw N top j)->rn T b1 b N top (fun k=>if k=8 then true else L k) O (S.upd b3 ⟨218,1,2,z⟩):=by
 obtain⟨bw,b3,m3,m6,m7,m8⟩:=h.ex;obtain⟨k1,k2,g,k3⟩:=m7 h7;refine⟨bw,b3,g,(m6 h6).2,k1,k3,fun z hz=>⟨h.base,fun hl=>h.p0 (iq hl (by decide)),fun hl=>h.p1 (iq hl (by decide)),fun hl=>h.p2 (iq hl (by decide)),fun hl=>h.p4 (iq hl (by decide)),fun hl=>h.p5 (iq hl (by decide)),h.ext.upd k2 _,bw,b3,fun hl=>?_,fun hl=>?_,fun _=>⟨k1,k2,z,bV⟩,fun _=>⟨by simpa using h6,by simpa using h7,bB.here hz⟩⟩⟩
 ·obtain⟨q1,q2,q3⟩:=m3 (iq hl (by decide))
  exact⟨q1,q2.upd (bB.ne q2 (bB.of k3) (by decide)) _,q3⟩
 ·exact⟨by simpa using (m6 (iq hl (by decide))).1,(m6 (iq hl (by decide))).2⟩
end
structure BE(S0 S:St)(b3 b5 bw:Nat)(x:AV)(N R kk top:Nat)(W:aU)(d:Int)(ls:Nat->Nat):Prop where
 cols:∃c,lS S bw c N R W
 pair:bB S b3 218 1 2 (F5 bw N top)
 var:dc S b5 50 2 (.big d)
 list:cJ 3 1 S0 S x kk (fun i=>.int .i64 (ls i))
 nw:S0 bw=ac
 n3:S0 b3=ac
 n5:S0 b5=ac
theorem BE.keep{S0 S S':St}{b3 b5 bw:Nat}{x:AV}{N R kk top:Nat}{W W':aU}{d:Int}{ls:Nat->Nat}(h:BE S0 S b3 b5 bw x N R kk top W d ls)(hK:fU bw S S'){c:Nat->Nat}(hC:lS S' bw c N R W'):BE S0 S' b3 b5 bw x N R kk top W' d ls:=by
 obtain⟨c0,hC0⟩:=h.cols;have hE:eZ S0 S':=fun k X hX=>hK k X (h.list.1 k X hX) (fun e=>by rw[e,h.nw]at hX;cases hX)
 refine⟨⟨c,hC⟩,hK.has h.pair (bB.ne h.pair hC0.outer (by decide)),hK.var h.var ?_,h.list.step hE fun d hd=>?_,h.nw,h.n3,h.n5⟩
 ·obtain⟨y,k1,_⟩:=h.var;obtain⟨y',k2,_⟩:=hC0.outer;rintro rfl;rw[k1]at k2;cases k2
 ·rcases h.list.2 with⟨_,hx⟩|⟨e,_,hx,hh⟩
  ·obtain⟨_,_,_,e⟩:=hd;rw[hx]at e;cases e
  ·rw[hx]at hd;rw[eT.1 hd];obtain⟨y,k1,_⟩:=id hh;rw[k1];exact hK _ _ k1 (bB.ne hh hC0.outer (by decide))
theorem BE.setVar{S0 S:St}{b3 b5 bw:Nat}{x:AV}{N R kk top:Nat}{W:aU}{d z:Int}{ls:Nat->Nat}(h:BE S0 S b3 b5 bw x N R kk top W d ls){g:Nat->AV}(hg:S b5=some ⟨50,2,1,g⟩)(hR:R≠1):BE S0 (S.upd b5 ⟨50,2,1,bK g 0 (.big z)⟩) b3 b5 bw x N R kk top W z ls:=by
 obtain⟨c0,hC0⟩:=h.cols;have hh:bB S b5 50 2 1 g:=bB.of hg;refine⟨⟨c0,hC0.outer.upd (bB.ne hC0.outer hh (by decide)) _,fun a ha=>(hC0.row a ha).upd ?_ _⟩,h.pair.upd (bB.ne h.pair hh (by decide)) _,dc.set,h.list.upd h.n5 (fun d hd e=>h.list.other hg (by decide) (e▸hd)) _,h.nw,h.n3,h.n5⟩
 rintro e;obtain⟨y,k1,_⟩:=hC0.row a ha;rw[e,hg]at k1;cases k1;exact hR rfl
theorem BE.other{S0 S:St}{b3 b5 bw:Nat}{x:AV}{N R kk top:Nat}{W:aU}{d:Int}{ls:Nat->Nat}(h:BE S0 S b3 b5 bw x N R kk top W d ls){e:Nat}(he:S e=ac)(X:dn):BE S0 (S.upd e X) b3 b5 bw x N R kk top W d ls:=by
 obtain⟨c0,hC0⟩:=h.cols;exact⟨⟨c0,hC0.outer.upd (bB.fresh hC0.outer he) _,fun a ha=>(hC0.row a ha).upd (bB.fresh (hC0.row a ha) he) _⟩,h.pair.upd (bB.fresh h.pair he) _,h.var.upd (h.var.fresh he) _,h.list.upd (h.list.1.none he) (h.list.fresh he) _,h.nw,h.n3,h.n5⟩
theorem BE.app{S0 S S':St}{b3 b5 bw:Nat}{x:AV}{N R kk top:Nat}{W:aU}{d:Int}{ls:Nat->Nat}(h:BE S0 S b3 b5 bw x N R kk top W d ls){e k' row:Nat}(hX:cJ 3 1 S0 S' (.sl 1 e 0 k') k' (fun i=>if i=kk then .int .i64 row else .int .i64 (ls i)))(hk:∀d X,S d=some X->¬dH x d->S' d=some X) :
  BE S0 S' b3 b5 bw (.sl 1 e 0 k') N R k' top W d (fun i=>if i=kk then row else ls i):=by
 obtain⟨c0,hC0⟩:=h.cols;have kp:∀{b ty es n:Nat} {g:Nat->AV},bB S b ty es n g->ty≠3->bB S' b ty es n g:=fun hh ht=>by
  obtain⟨y,k1,k2⟩:=hh;exact⟨y,hk _ _ k1 (h.list.other k1 ht),k2⟩
 refine⟨⟨c0,kp hC0.outer (by decide),fun a ha=>kp (hC0.row a ha) (by decide)⟩,kp h.pair (by decide),?_,hX.congr fun i _=>by split<;>rfl,h.nw,h.n3,h.n5⟩
 obtain⟨y,k1,k2⟩:=h.var;exact⟨y,hk _ _ k1 (h.list.other k1 (by decide)),k2⟩
def EV(S0 S:St)(b3 b5 bw:Nat)(x:AV)(N R kk top:Nat)(d:Int)(ls:Nat->Nat)(A:aU)(t:Nat)(σ:Nat->Nat)(row:Nat):Prop:=∃W,BE S0 S b3 b5 bw x N R kk top W d ls/\IE A N R kk t σ W/\W kk row≠0
def IV(S0 S:St)(b3 b5 bw:Nat)(x:AV)(n N R top:Nat)(A:aU)(row:Nat):Prop:=∃kk W d ls,BE S0 S b3 b5 bw x N R kk top W d ls /\
 ((∃σ,kk=min row n/\row<=n+n/\IQ A N R kk σ W/\d=det kk (fun x y=>A x (σ y))/\(∀r,n<=r->r<row->W n r=0)/\∀i,i<kk->ls i=i) ∨
   (kk=N/\∃Rr,n<=Rr/\Rr<=n+n/\det (n+1) (fun a b=>A (qb n Rr a) b)≠0/\∀i,i<N->ls i=qb n Rr i))
theorem rL(S0:St)(b:Nat)(c:Nat->Nat)(n N R top:Nat)(A:aU)(hn:n<=5)(h1:1<=n)(hN:N=n+1)(hR:R=n+n+1)(hO:lS S0 b c N R (fun a r=>A r a))
  (hB:∀σ k,jT A N σ k->∀k' i j,k'+j<N->k'+i<R->nb (cI (fun x y=>A x (σ y)) k' i j) 31) (hdet:det (n+1) (fun a b=>A (qb n (n+n) a) b)≠0) :
  cM 259 [.agg [.sl 1 b 0 N,.int .i64 top]] S0 (fun r S'=>∃e Rr,r=.sl 1 e 0 N/\n<=Rr/\Rr<=n+n/\det (n+1) (fun a b=>A (qb n Rr a) b)≠0/\bB S' e 3 1 N (fun i=>.int .i64 (qb n Rr i))/\eZ S0 S'):=by
 refine aA Tryz.func259 rfl 92 Tryz.ntmps259 (by kernel_rfl) (by simp) (by simp[Tryz.results259]) ?_
 rw[aS,Tryz.results259];simp -dsimp only[go_sem,aj,reduceCtorEq,bC,aZ,false_implies,implies_true]
 repeat refine an ?_
 refine aG.intro fun b1 f1=>?_;refine md (fun T=>bB T b1 218 1 2 (F5 b N top)/\eZ S0 T) ?_ ?_
 ·refine⟨bB.here fun j hj=>?_,(eZ.refl S0).upd f1 _⟩
  match j,hj with
  | 0,_=>rfl
  | 1,_=>rfl
 rintro T ⟨hT1,hET⟩;refine xU (rn T b1 b N top) (by kernel_rfl) ?_ ?_ ?_
 ·exact⟨by simp -dsimp only[go_sem,aa],(fun h=>by cases h),(fun h=>by cases h),(fun h=>by cases h),(fun h=>by cases h),(fun h=>by cases h),eZ.refl T,0,0,(fun h=>by cases h),(fun h=>by cases h),(fun h=>by cases h),(fun h=>by cases h)⟩
 ·refine⟨?_,?_,?_,?_,?_,?_,?_,?_,?_,trivial⟩
  ·intro L O S hP hL ha;have al:∀k,_->L k=true:=az.1 ha;refine c9 rfl ?_;simp -dsimp only[go_sem,hP.base];exact hP.s0
  ·intro L O S hP hL ha;have al:∀k,_->L k=true:=az.1 ha;refine c9 rfl ?_;obtain⟨g1,u1,v1⟩:=id (hP.ext.has hT1);simp -dsimp only[go_sem,ae,↓reduceIte,ab,hP.p0 (al 0 (by decide)),u1,show g1 0=.sl 1 b 0 N from v1 0 om]
   repeat refine an ?_
   exact hP.s1
  ·intro L O S hP hL ha;have al:∀k,_->L k=true:=az.1 ha;refine c9 rfl ?_;simp -dsimp only[go_sem,aj,hP.p1 (al 1 (by decide))]
   exact hP.s2
  ·intro L O S hP hL ha;have al:∀k,_->L k=true:=az.1 ha;refine c9 rfl ?_;simp -dsimp only[go_sem,aj,hP.p2 (al 2 (by decide))]
   repeat refine an ?_
   refine aG.intro fun bw fw=>?_;exact hP.s3 hL fw _ (fun _ _=>rfl)
  ·intro L O S hP hL ha;have al:∀k,_->L k=true:=az.1 ha;refine c9 rfl ?_;simp -dsimp only[go_sem,aj,hP.base];exact hP.s4
  ·intro L O S hP hL ha;have al:∀k,_->L k=true:=az.1 ha;refine c9 rfl ?_;obtain⟨g1,u1,v1⟩:=id (hP.ext.has hT1);simp -dsimp only[go_sem,aj,ae,↓reduceIte,ab,hP.p4 (al 4 (by decide)),u1,show g1 1=.int .i64 top from v1 1 om]
   repeat refine an ?_
   exact hP.s5
  ·intro L O S hP hL ha;have al:∀k,_->L k=true:=az.1 ha;refine c9 rfl ?_;obtain⟨bw,q1,q2⟩:=hP.s6 (al 3 (by decide))
   simp -dsimp only[go_sem,aj,reduceCtorEq,q1,hP.p5 (al 5 (by decide))]
   repeat refine an ?_
   exact q2
  ·intro L O S hP hL ha;have al:∀k,_->L k=true:=az.1 ha;refine c9 rfl ?_;simp -dsimp only[go_sem,aj]
   repeat refine an ?_
   refine aG.intro fun bw fw=>?_;exact hP.s7 hL fw _
  ·intro L O S hP hL ha;have al:∀k,_->L k=true:=az.1 ha;refine c9 rfl ?_;obtain⟨bw,b3,g,q1,q2,q3,q4⟩:=hP.s8 (al 6 (by decide)) (al 7 (by decide))
   simp -dsimp only[go_sem,aj,aa,ae,↓reduceIte,reduceCtorEq,ab,q1,q2,q3,bC,aZ,false_implies,implies_true]
   repeat refine an ?_
   refine q4 _ (fun j hj=>?_)
   match j,hj with
   | 0,_=>simp[gI,F5]
   | 1,_=>simp[gI,F5]
 intro L O S hP hL;obtain⟨bw,b3,m3,m6,m7,m8⟩:=hP.ex;obtain⟨a1,a2,a3⟩:=m3 (hL 3 (by decide))
 obtain⟨c1,c2,_⟩:=m7 (hL 7 (by decide))
 have d3:=(m8 (hL 8 (by decide))).2.2
 have hE:=hET.trans hP.ext;have nw:=hET.none a3;have n3:=hET.none c2;have hOS:=hO.ext hE;have e1:=hP.base;have hS1:=hP.ext.has hT1;clear hP hL m3 m6 m7 m8 a3 c2 hT1 hET a1;obtain⟨g1,u1,v1⟩:=id hS1;obtain⟨g3,u3,v3⟩:=id d3;obtain⟨gw,uw,vw⟩:=id a2;obtain⟨gb,ub,vb⟩:=id hOS.outer;simp -dsimp only[go_sem,aa,ae,↓reduceIte,ab,e1,c1,u1,u3,show g1 0=.sl 1 b 0 N from v1 0 om,show g3 0=.sl 1 bw 0 N from v3 0 om]
 repeat refine an ?_
 refine A9 (e:=59) uw ub rfl rfl om (fun a ha=>by rw[vb a ha];trivial) ?_
 simp -dsimp only[go_sem,aa,ae,↓reduceIte,ab,show g1 0=.sl 1 b 0 N from v1 0 om,show g3 0=.sl 1 bw 0 N from v3 0 om]
 repeat refine an ?_
 refine(ju (by decide) (by decide)).call ?_
 simp -dsimp only[go_sem]
 repeat refine an ?_
 refine aG.intro fun b5 f5=>?_
 try simp -dsimp only[go_sem,aa,↓reduceIte]
 have hb5:bw≠b5:=fun e=>by rw[e]at f5;rw[bV]at f5;cases f5
 have s5:S b5=ac:=by rw[aQ (ak hb5)]at f5;exact f5
 have h3w:b3≠bw:=bB.ne d3 a2 (by decide)
 have h35:b3≠b5:=bB.fresh d3 s5;have n5:=hE.none s5;have hInit:∀X Y,X=(fun j=>if 0<=j/\j<N then gb (j-0)else gw j)->Y 0=AV.big 1->BE S0 ((S.upd bw ⟨59,1,N,X⟩).upd b5 ⟨50,2,1,Y⟩) b3 b5 bw .nil N R 0 top (fun a r=>A r a) 1 (fun i=>i):=by
  intro X Y hX hY;refine⟨⟨c,bB.upd (bB.here fun a ha=>?_) hb5 _,fun a ha=>?_⟩,(d3.upd h3w _).upd h35 _,dc.new hY,cJ.nil ((hE.upd nw _).upd n5 _) _,nw,n3,n5⟩
  ·rw[hX];simp only[Nat.zero_le,true_and,ha,if_true,Nat.sub_zero];exact vb a ha
  ·exact((hOS.row a ha).upd (bB.ne (hOS.row a ha) a2 (by decide)) _).upd (bB.fresh (hOS.row a ha) s5) _
 have hIQ:IQ A N R 0 id (fun a r=>A r a):=IQ.init fun a r ha hr=>by
  have:=hB id 0 (jT.init A N) 0 r a om om
  rwa [io]at this
 refine aI (fun O S=>∃row:Nat,row<=n+n+1/\O 3=.ptr 1 b3 0/\O 5=.ptr 2 b5 0/\O 6=.int .i64 row/\IV S0 S b3 b5 bw (O 4) n N R top A row) (fun O S=>n+n+2-bY (O 6)) ?_ ?_
 ·simp -dsimp only[go_sem,aa,c1];rw[kt];exact⟨0,by omega,rfl,0,_,1,_,hInit _ _ rfl (by simp[bK]),bH ⟨id,by omega,by omega,hIQ,by simp[det],fun r h1 h2=>by omega,fun i h=>by omega⟩⟩
 clear hIQ hInit e1 c1 u1 v1 u3 v3 uw vw ub vb hOS hS1 d3 a2 hE f5 s5 h35 h3w f1;rintro O S ⟨row,hrow,e3,e5,e6,kk,W,d,ls,hS,hV⟩;obtain⟨g3,u3,v3⟩:=id hS.pair;have x3:g3 0=.sl 1 bw 0 N:=v3 0 om;by_cases hkk:kk<N
 ·obtain⟨σ,k1,k2,hQ,hd,hz,hls⟩:=hV.resolve_right (fun h=>by omega)
  apply tt (fun O' S'=>O' 3=.ptr 1 b3 0/\O' 4=O 4/\O' 5=.ptr 2 b5 0/\O' 6=.int .i64 row/\O' 7=.int .i64 kk/\O' 8=.int .i64 kk/\S'=S)
  ·intro key;rcases hS.list.2 with⟨h0,hx⟩|⟨e,_,hx,_⟩
   ·subst h0;have hN0:(0:Int)<(N:Int):=by omega
    simp -dsimp only[go_sem,aa,ae,↓reduceIte,reduceCtorEq,decide_true,ab,e3,e6,hx,u3,x3,hN0]
    repeat refine an ?_
    refine key _ _ ?_;simp -dsimp only[go_sem,aa,e3,e5,e6,hx];exact⟨rfl,rfl⟩
   ·simp -dsimp only[go_sem,aa,ae,↓reduceIte,af,decide_true,ab,e3,e6,hx,u3,x3,hkk]
    repeat refine an ?_
    refine key _ _ ?_;simp -dsimp only[go_sem,aa,e3,e5,e6,hx]
  generalize O 4=x at *;rintro O' S' ⟨e3',e4',e5',e6',e7',e8',rfl⟩;refine aI (fun O S=>∃j:Nat,kk<=j/\j<=N/\O 3=.ptr 1 b3 0/\O 4=x/\O 5=.ptr 2 b5 0/\O 6=.int .i64 row/\O 7=.int .i64 kk/\O 8=.int .i64 j/\BE S0 S b3 b5 bw x N R kk top W d ls/\∀a,kk<=a->a<j->W a row=0) (fun O S=>N-bY (O 8)) ?_ ?_
  ·exact⟨kk,by omega,by omega,e3',e4',e5',e6',e7',e8',hS,fun a h1 h2=>by omega⟩
  clear e3' e4' e5' e6' e7' e8' e3 e5 e6 u3 v3 x3 hS;rintro O S ⟨j,hj1,hj2,e3,e4,e5,e6,e7,e8,hS,hzz⟩;obtain⟨g3,u3,v3⟩:=id hS.pair;have x3:g3 0=.sl 1 bw 0 N:=v3 0 om;obtain⟨c,hC⟩:=hS.cols;obtain⟨gw,uw,vw⟩:=id hC.outer;have hrR:row<R:=by omega
  by_cases hjN:j<N
  ·obtain⟨gc,uc,vc⟩:=id (hC.row j hjN);have xw:gw j=.sl 2 (c j) 0 R:=vw j hjN;have xc:gc row=.big (W j row):=vc row hrR;have nW:=hQ.b j row hjN hrR;simp -dsimp only[go_sem,aa,ae,↓reduceIte,af,decide_true,ab,e3,e6,e8,u3,x3,hjN,uw,xw,uc,xc,hrR]
   repeat refine an ?_
   refine(jh nW om).call ?_;by_cases hw0:W j row=0
   ·simp -dsimp only[go_sem,aa,ae,↓reduceIte,af,decide_true,ab,e3,e4,e5,e6,e7,e8,u3,x3,hjN,xw,xc,hw0,show(Int.sign 0==0)=true from rfl,aW (show j<1000000 by omega),bY]
    repeat refine an ?_
    exact⟨⟨j+1,by omega,by omega,rfl,hS,fun a h1 h2=>by
     by_cases e:a=j
     ·rw[e];exact hw0
     ·exact hzz a h1 om⟩,by omega⟩
   ·have hs:((W j row).sign==0)=false:=by
     rw[beq_eq_false_iff_ne];intro h;exact hw0 (pn.1 h)
    have hjne:((j:Int)==(N:Int))=false:=by rw[beq_eq_false_iff_ne];omega
    simp -dsimp only[go_sem,aa,ae,↓reduceIte,af,decide_true,ab,e3,e4,e5,e6,e7,e8,u3,x3,hjN,xw,xc,hs,hjne]
    repeat refine an ?_
    refine(wB S bw c N R kk j W hkk hjN hC).mono ?_;rintro _ S1 ⟨⟨c',hC'⟩,hK⟩;have hS1:=hS.keep hK hC';have hQ1:=hQ.swap hj1 hjN;have hd1:det kk (fun x y=>A x (σ (dB kk j y)))=d:=by
     rw[hd];exact bS fun a y _ hy=>by rw[show dB kk j y=y by unfold dB;rw[if_neg om,if_neg om]]
    have hpv:W (dB kk j kk) row≠0:=by unfold dB;rw[if_pos rfl];exact hw0
    obtain⟨W1,hW1⟩:∃W1:aU,W1=fun a=>W (dB kk j a):=⟨_,rfl⟩;obtain⟨σ1,hσ1⟩:∃σ1:Nat->Nat,σ1=fun a=>σ (dB kk j a):=⟨_,rfl⟩;rw[<-hW1]at hS1 hQ1;rw[<-hσ1]at hQ1
    replace hd1:det kk (fun x y=>A x (σ1 y))=d:=by rw[hσ1];exact hd1
    replace hpv:W1 kk row≠0:=by rw[hW1];exact hpv
    clear hW1 hσ1;have hIE:=hQ1.start hkk;have hd0:d≠0:=by rw[<-hd1];exact hIE.el.lead kk (ah _)
    have ndd:nb d 31:=by
     rw[<-hd1];by_cases e:kk=0
     ·rw[e];simp only[det];exact nb.one om
     ·have:=hB σ1 kk hIE.el (kk-1) 0 0 om om;rw[cP,show kk-1+1=kk by omega]at this
      exact this
    clear u3 v3 x3 uw vw xw uc vc xc hS hC hK hC';obtain⟨g3,u3,v3⟩:=id hS1.pair;have x3:g3 0=.sl 1 bw 0 N:=v3 0 om;simp -dsimp only[go_sem,aa,↓reduceIte,e7,e8,aW (show kk<1000000 by omega)]
    repeat refine an ?_
    refine aI (fun O S=>∃t:Nat,kk+1<=t/\t<=N/\O 3=.ptr 1 b3 0/\O 4=x/\O 5=.ptr 2 b5 0/\O 6=.int .i64 row/\O 7=.int .i64 kk/\O 9=.int .i64 t/\EV S0 S b3 b5 bw x N R kk top d ls A t σ1 row) (fun O S=>N-bY (O 9)) ?_ ?_
    ·simp -dsimp only[go_sem,aa,e3,e4,e5,e6,e7];exact⟨kk+1,by omega,by omega,rfl,W1,hS1,hIE,hpv⟩
    clear e3 e4 e5 e6 e7 e8 hS1 hIE hQ1 u3 v3 x3 hpv hzz hw0 hs hjne nW hQ hd;rintro O S ⟨t,ht1,ht2,e3,e4,e5,e6,e7,e9,W2,hS2,hIE,hpv⟩;obtain⟨g3,u3,v3⟩:=id hS2.pair;have x3:g3 0=.sl 1 bw 0 N:=v3 0 om;obtain⟨g5,u5,x5⟩:=id hS2.var;by_cases htt:t<N
    ·have hrk:row=kk:=by omega
     obtain⟨c2,hC2⟩:=hS2.cols;simp -dsimp only[go_sem,aa,ae,↓reduceIte,reduceCtorEq,af,decide_true,ab,e3,e4,e5,e6,e7,e9,u3,x3,u5,x5,htt]
     repeat refine an ?_
     refine(qF S bw c2 N R kk t row W2 d hkk htt hrR om hd0 ndd hIE.b hC2).mono ?_;rintro _ S3 ⟨⟨c3,hC3⟩,hK3⟩;have hst:=hIE.step om htt om (fun i c h1 h2=>hB σ1 kk hIE.el (kk+1) i c h1 h2);rw[hd1]at hst;rw[hrk]at hC3;simp -dsimp only[go_sem,aa,↓reduceIte,e3,e4,e5,e6,e7,e9,aW (show t<1000000 by omega),bY]
     repeat refine an ?_
     exact⟨⟨t+1,by omega,by omega,rfl,_,hS2.keep hK3 hC3,hst,by rw[if_neg om];exact hpv⟩,by omega⟩
    have htN:N=t:=by omega
    obtain⟨c2,hC2⟩:=hS2.cols;obtain⟨gw,uw,vw⟩:=id hC2.outer;obtain⟨gc,uc,vc⟩:=id (hC2.row kk hkk);have xw:gw kk=.sl 2 (c2 kk) 0 R:=vw kk hkk;have xc:gc row=.big (W2 kk row):=vc row hrR;simp -dsimp only[go_sem,aa,ae,↓reduceIte,reduceCtorEq,af,decide_false,ab,e3,e4,e5,e6,e7,e9,u3,x3,u5,x5,htt,uw,xw,uc,xc,hkk,hrR]
    repeat refine an ?_
    have hS5:=hS2.setVar (z:=W2 kk row) (g:=g5) u5 om;refine aG.intro fun b9 f9=>?_;have hxb:=hS5.list.fresh f9;have hS6:=hS5.other f9 ⟨3,1,1,fun j=>[AV.int .i64 row].getD j .any⟩
    try simp -dsimp only[go_sem,aa,↓reduceIte,e4,e6]
    refine cJ.app3 (v:=.int .i64 row) hS6.list (show kk<1000000 by omega) (by simp[du]) (Or.inr ⟨_,_,_,rfl,bV,rfl,fun h=>hxb _ h rfl⟩) ?_
    intro e S7 hX' hk1 _;have hS7:=hS6.app hX' hk1;simp -dsimp only[go_sem,aa,e3,e4,e5,e6,aW (show row<1000000 by omega),bY]
    repeat refine an ?_
    refine⟨⟨row+1,by omega,rfl,kk+1,W2,W2 kk row,_,hS7,?_⟩,by omega⟩
    subst htN;by_cases hkn:kk<n
    ·have hrk:row=kk:=by omega
     have hp:=hIE.p kk (ah _) om;rw[bP]at hp;rw[hrk]at hpv ⊢;refine bH ⟨σ1,by omega,by omega,hIE.done (by rw[<-hp];exact hpv),by rw[hp,cP],fun r h1 h2=>by omega,fun i hi=>?_⟩
     by_cases e:i=kk
     ·rw[if_pos e];exact e.symm
     ·rw[if_neg e];exact hls i om
    ·have hkn':kk=n:=by omega
     have hp:=hIE.p row om hrR;subst hkn';have hl:=hIE.el;rw[hN]at hl;have:=hl.last (R:=row) om;refine Or.inr ⟨by omega,row,by omega,by omega,fun h0=>?_,fun i hi=>?_⟩
     ·rw[h0,<-hp]at this;exact hpv om
     ·unfold qb;by_cases e:i=kk
      ·rw[if_pos e,if_neg om]
      ·rw[if_neg e,if_pos om];exact hls i om
  ·have hjN':N=j:=by omega
   have hjeq:((j:Int)==(N:Int))=true:=by rw[beq_iff_eq];omega
   simp -dsimp only[go_sem,aa,ae,↓reduceIte,af,decide_false,ab,e3,e4,e5,e6,e7,e8,u3,x3,hjN,hjeq,aW (show row<1000000 by omega),bY]
   repeat refine an ?_
   have hl:=hQ.el;rw[hN]at hl;have hkn:kk=n:=by
    refine Nat.le_antisymm om (Nat.le_of_not_lt fun hlt=>?_);refine hl.found (R:=n+n) hlt hdet fun a ha=>?_;have hrk:row=kk:=by omega
    have:=hQ.q (kk+a) kk om om (ah _) om;rw[bP,show kk+a-kk=a by omega]at this
    rw[<-this,<-hrk];exact hzz _ om om
   have hw:=hzz n om om;have hq:=hQ.q n row om om om hrR;have hlast:=hl.last (R:=row) om;subst hkn;rw[bP]at hq;refine⟨⟨row+1,by omega,rfl,kk,W,d,ls,hS,bH ⟨σ,by omega,?_,hQ,hd,fun r h1 h2=>?_,hls⟩⟩,by omega⟩
   ·refine Nat.lt_of_le_of_ne k2 fun e=>hdet ?_;rw[<-e];rw[<-hq,hw]at hlast;simp only[Int.natAbs_zero]at hlast;omega
   ·by_cases e:r=row
    ·rw[e];exact hw
    ·exact hz r h1 om
 obtain⟨hkN,Rr,r1,r2,r3,r4⟩:=hV.resolve_left (fun⟨σ,h,_⟩=>by omega)
 subst hkN;rcases hS.list.2 with⟨h0,hx⟩|⟨e,he,hx,hh⟩
 ·omega
 simp -dsimp only[go_sem,aa,ae,↓reduceIte,af,decide_false,ab,e3,e6,hx,u3,x3,cD]
 repeat refine an ?_
 exact⟨e,rfl,Rr,r1,r2,r3,hh.congr fun i hi=>by rw[r4 i hi],hS.list.1⟩
theorem GL{S:St}{b t e ty es N:Nat}{g0 g1:Nat->AV}{K:AV->St->Prop}(hb:S b=some ⟨ty,es,N,g0⟩)(ht:cX t=some e)(he:es=bI e)(hN:0<N)(hs:∀j,j<N->du es (g1 j))
  (hK:K (.int .i64 N) (S.upd b ⟨ty,es,N,fun j=>if 0<=j/\j<0+N then g1 (j-0)else g0 j⟩)):vI t (.sl es b 0 N) (.lst es N g1) S K:=by
 unfold vI pE;rw[ht];simp only[hb,vZ];exact⟨he,trivial,trivial,by omega,trivial,hN,hs,hK⟩
theorem eh.setRow{o e es:Nat}{S1 S:St}{b:Nat}{g:Nat->Nat}{n m k:Nat}{E:Nat->Nat->AV}(h:eh o e es S1 S b g n m k E)(hoe:o≠e){i:Nat}(hi:i<k){z z':Nat->AV}(hz:∀j,j<m->z j=z' j):eh o e es S1 (S.upd (g i) ⟨e,es,m,z⟩) b g n m k (fun a c=>if a=i then z' c else E a c):=by
 refine⟨h.ext.upd (h.rnew i hi) _,h.new,h.outer.upd (h.ne hoe hi) _,fun a ha=>?_,h.rnew,h.inj⟩;by_cases e:a=i
 ·subst e;simp only[if_true];exact bB.here hz
 ·simp only[e,if_false];exact(h.row a ha).upd (fun e2=>e (h.inj a i ha hi e2)) _
def DJ(A:aU)(n b b2 b8 b11:Nat)(S:St)(k:Nat)(neg:Bool)(i j:Nat):Prop:=∃(g σ:Nat->Nat) (B:aU),mz A n σ neg k/\cS S b g n n B/\(∀i,i<n->g i≠b2/\g i≠b8/\g i≠b11)/\dc S b2 50 2 (.big 0)/\dc S b8 50 2 (.big (det k (fun a c=>A (σ a) c)))/\dc S b11 50 2 (.big (cI (fun a c=>A (σ a) c) k 0 0))/\b8≠b2/\b11≠b2/\b11≠b8/\CO A n k i j σ B
theorem DJ.of{A:aU}{n b b2 b8 b11:Nat}{S:St}{k p:Nat}{neg:Bool}{g σ:Nat->Nat}{B:aU}{X:dn}{z:Nat->AV}(hE:mz A n σ neg k)(hkp:k<p)(hlt:k<n)(hp:p<n)(hD:cS (S.upd b X) b (fun i=>g (dB k p i)) n n (fun i j=>B (dB k p i) j))(hG:∀i,i<n->g i≠b2/\g i≠b8)
  (V2:dc S b2 50 2 (.big 0)) (V5:dc S b8 50 2 (.big (det k (fun a c=>A (σ a) c)))) (hb2:b≠b2) (hb8:b≠b8) (h28:b2≠b8) (f11:S b11=ac) (hM:cS S b g n n B) (hQ:G6 A n k σ B) (hBpk:B p k=cI (fun a c=>A (σ a) c) k (p-k) 0) (h0:B p k≠0) (hz:z 0=.big (B p k):=by rfl) :
  DJ A n b b2 b8 b11 ((S.upd b X).upd b11 ⟨50,2,1,z⟩) k (!neg) (k+1) (k+1):=by
 have hs:∀i,i<n->dB k p i<n:=fun i hi=>by unfold dB;split<;>(try split)<;>omega
 have n1:b≠b11:=bB.fresh hM.outer f11;have n2:b2≠b11:=V2.fresh f11;have n8:b8≠b11:=V5.fresh f11;have ng:∀i,i<n->g i≠b11:=fun i hi=>bB.fresh (hM.row i hi) f11;have e0:=tb (k:=k) (p:=p) (fun a c=>A (σ a) c) om 0 0;rw[show dB 0 (p-k) 0=p-k by simp[dB],<-hBpk]at e0
 refine⟨_,fun a=>σ (dB k p a),_,hE.swap hkp hp,hD.upd n1 (fun i hi=>ng _ (hs i hi)) _,fun i hi=>⟨(hG _ (hs i hi)).1,(hG _ (hs i hi)).2,ng _ (hs i hi)⟩,(V2.upd (ak hb2) _).upd n2 _,?_,?_,ak h28,ak n2,ak n8,?_,fun a c ha1 ha2 hc1 hc2=>?_⟩
 ·have e:=t5 (n:=k) (fun a c=>A (σ a) c) (i:=k) (k:=p) om om;rw[e];exact(V5.upd (ak hb8) _).upd n8 _
 ·rw[e0];exact dc.new hz
 ·rw[e0];exact h0
 ·rw[if_neg om];have e:=tb (k:=k) (p:=p) (fun a c=>A (σ a) c) om (a-k) (c-k);show B (dB k p a) c=_;rw[e,hQ (dB k p a) c (by unfold dB;split<;>(try split)<;>omega) (hs a ha2) hc1 hc2]
  congr 1;unfold dB;split<;>(try split)<;>(try split)<;>(try split)<;>omega
theorem DJ.of0{A:aU}{n b b2 b8 b11:Nat}{S:St}{k:Nat}{neg:Bool}{g σ:Nat->Nat}{B:aU}{z:Nat->AV}(hE:mz A n σ neg k)(hlt:k<n)(hM:cS S b g n n B)(hG:∀i,i<n->g i≠b2/\g i≠b8)
  (V2:dc S b2 50 2 (.big 0)) (V5:dc S b8 50 2 (.big (det k (fun a c=>A (σ a) c)))) (h28:b2≠b8) (f11:S b11=ac) (hQ:G6 A n k σ B) (h0:B k k≠0) (hz:z 0=.big (B k k):=by rfl) :
  DJ A n b b2 b8 b11 (S.upd b11 ⟨50,2,1,z⟩) k neg (k+1) (k+1):=by
 have n1:b≠b11:=bB.fresh hM.outer f11;have n2:b2≠b11:=V2.fresh f11;have n8:b8≠b11:=V5.fresh f11;have ng:∀i,i<n->g i≠b11:=fun i hi=>bB.fresh (hM.row i hi) f11;have e0:=hQ k k (ah _) hlt (ah _) hlt;rw[bP]at e0;refine⟨g,σ,B,hE,hM.upd n1 ng _,fun i hi=>⟨(hG i hi).1,(hG i hi).2,ng i hi⟩,V2.upd n2 _,V5.upd n8 _,?_,ak h28,ak n2,ak n8,?_,fun a c ha1 ha2 hc1 hc2=>?_⟩
 ·rw[<-e0];exact dc.new hz
 ·rw[<-e0];exact h0
 ·rw[if_neg om];exact hQ a c ha1 ha2 hc1 hc2
theorem uY(n:Nat)(A:aU)(h1:1<=n)(h2:n<=16)(hd:det n A≠0)(hB:∀σ neg k,mz A n σ neg k->∀k' i j,k'+i<n->k'+j<n->nb (cI (fun a b=>A (σ a) b) k' i j) 31):PF 130 [aV n n A] (.big (det n A)):=by
 refine PF.of_spec (aA Tryz.func130 rfl 149 Tryz.ntmps130 (by kernel_rfl) (by simp) (by simp[Tryz.results130]) ?_)
 rw[aS,Tryz.results130];simp -dsimp only[go_sem,aV,bn]
 repeat refine an ?_
 refine aG.intro fun b2 f2=>?_;simp -dsimp only[go_sem,reduceCtorEq]
 repeat refine an ?_
 refine aG.intro fun bb fb=>?_;have nb_2:=(ai fb).1;simp -dsimp only[go_sem]
 repeat refine an ?_
 have hn2:bb≠b2:=nb_2;refine aI (fun O S=>∃i:Nat,i<=n/\O 2=.ptr 2 b2 0/\O 3=.int .i64 n/\O 4=.sl 1 bb 0 n/\O 19=aV n n A/\O 20=.int .i64 n/\O 21=.int .i64 i/\∃g',eh 59 50 2 (St.none.upd b2 ⟨50,2,1,fun _=>.big 0⟩) S bb g' n n i (fun a c=>.big (A a c))) (fun O S=>n-bY (O 21)) ?_ ?_
 ·simp -dsimp only[go_sem,aa,aV,bn];exact⟨0,by omega,rfl,fun _=>0,eh.init fb (fun _ _=>rfl) _ _⟩
 rintro O S ⟨i,hi,e2,e3,e4,e19,e20,e21,g',hR⟩;by_cases hlt:i<n
 ·obtain⟨g4,u4,v4⟩:=id hR.outer;simp -dsimp only[go_sem,aa,ae,↓reduceIte,af,decide_true,ab,e3,e4,e19,e20,e21,hlt,aV,bn]
  repeat refine an ?_
  refine aG.intro fun bd fd=>?_
  repeat refine an ?_
  have hdc:bb≠bd:=bB.fresh hR.outer fd;simp -dsimp only[go_sem,hlt,u4,hdc,d7]
  repeat refine an ?_
  have hR1:=hR.push (by decide) fd u4 (fun _=>.big 0)
  generalize hgg:(fun a=>if a=i then bd else g' a)=gg at hR1
  have hgi:gg i=bd:=by rw[<-hgg];simp
  refine GL (e:=50) (by rw[aQ (ak hdc)];exact bV) rfl rfl om (fun j _=>trivial) ?_
  simp -dsimp only[go_sem,aa,↓reduceIte,e2,e3,e4,e19,e20,e21,aV,bn,aW (show i<1000000 by omega),bY]
  repeat refine an ?_
  have hR2:=fun(z:Nat->AV) hz=>hR1.setRow (by decide) (show i<i+1 by omega) (z:=z) (z':=fun j=>.big (A i j)) hz
  simp only[hgi]at hR2;refine⟨⟨i+1,by omega,rfl,gg,(hR2 _ ?_).congr fun a c _ _=>?_⟩,by omega⟩
  ·intro j hj;simp[hj]
  ·by_cases e:a=i
   ·simp[e]
   ·simp[e]
 have hni:n=i:=by omega
 subst hni;have hM:=hR.mat (A:=A) (fun _ _ _ _=>rfl);simp -dsimp only[go_sem,aa,ae,↓reduceIte,af,decide_false,ab,e3,e4,e19,e20,e21,cD]
 repeat refine an ?_
 refine(ju (by decide) (by decide)).call ?_
 simp -dsimp only[go_sem]
 repeat refine an ?_
 refine aG.intro fun b8 f8=>?_
 try simp -dsimp only[go_sem,aa,↓reduceIte,e3]
 have hb2:bb≠b2:=nb_2;have hg2:∀i,i<n->g' i≠b2:=fun i hi e=>by have:=hM.2.2.2 i hi;rw[e,bV]at this;cases this
 have h28:b2≠b8:=fun e=>by have:=hM.2.1 b2 _ bV;rw[e,f8]at this;cases this
 have hb8:bb≠b8:=bB.fresh hM.1.outer f8;have hg8:∀i,i<n->g' i≠b8:=fun i hi=>bB.fresh (hM.1.row i hi) f8;refine aI (fun O S=>∃(k:Nat) (neg:Bool),k<=n/\O 2=.ptr 2 b2 0/\O 3=.int .i64 n/\O 4=.sl 1 bb 0 n/\O 7=.bool neg/\O 8=.ptr 2 b8 0/\O 39=.int .i64 n/\O 40=.int .i64 k/\wN A n bb b2 b8 S k neg (G6 A n k)) (fun O S=>n-bY (O 40)) ?_ ?_
 ·simp -dsimp only[go_sem,aa,e2,e3,e4];refine⟨0,by omega,false,rfl,rfl,g',id,A,mz.init A n,(hM.1.upd hb8 hg8 _).upd hb8 hg8 _,fun i hi=>⟨hg2 i hi,hg8 i hi⟩,?_,dc.set,fun i j _ _ _ _=>by rw[io];rfl⟩
  exact(dc.upd ⟨_,hM.2.1 b2 _ bV,rfl⟩ h28 _).upd h28 _
 clear hM hR e2 e3 e4 e19 e20 e21 f8 hg2 hg8;rintro O S ⟨k,neg,hkn,e2,e3,e4,e7,e8,e39,e40,hD⟩;by_cases hlt:k<n
 ·simp -dsimp only[go_sem,aa,ae,↓reduceIte,af,decide_true,ab,e7,e8,e39,e40,hlt]
  repeat refine an ?_
  refine aI (fun O S=>∃p:Nat,k<=p/\p<=n/\O 2=.ptr 2 b2 0/\O 3=.int .i64 n/\O 4=.sl 1 bb 0 n/\O 7=.bool neg/\O 8=.ptr 2 b8 0/\O 9=.int .i64 k/\O 10=.int .i64 p/\O 39=.int .i64 n/\O 40=.int .i64 k/\wN A n bb b2 b8 S k neg (StgP A n k p)) (fun O S=>n-bY (O 10)) ?_ ?_
  ·simp -dsimp only[go_sem,aa,e2,e3,e4,e7,e8,e39,e40]
   repeat refine an ?_
   obtain⟨g,σ,B,hE,hM,hG,V2,V5,hBq⟩:=hD;exact⟨k,by omega,by omega,rfl,g,σ,B,hE,hM,hG,V2,V5,hBq,fun i h1 h2=>by omega⟩
  clear hD e2 e3 e4 e7 e8 e39 e40;rintro O S ⟨p,hkp,hpn,e2,e3,e4,e7,e8,e9,e10,e39,e40,g,σ,B,hE,hM,hG,V2,V5,hQ,hZ⟩;have hp:p<n:=by
   refine Nat.lt_of_le_of_ne hpn fun e=>hd (hE.zero hlt fun i hi=>?_);have:=hQ (k+i) k om om (ah _) hlt;rw[bP,show k+i-k=i by omega]at this
   rw[<-this];exact hZ _ om om
  obtain⟨g1,u1,v1⟩:=hM.outer;obtain⟨g2,u2,v2⟩:=hM.row p hp;have v1':g1 p=.sl 2 (g p) 0 n:=v1 p hp;have v2':g2 k=.big (B p k):=v2 k hlt;have hbp:=hB σ neg k hE k (p-k) 0 om om;have hBpk:=hQ p k hkp hp (ah _) hlt;rw[bP]at hBpk;rw[<-hBpk]at hbp;simp -dsimp only[go_sem,aa,ae,↓reduceIte,af,decide_true,ab,e3,e4,e9,e10,hp,hlt,u1,u2,v1',v2']
  repeat refine an ?_
  refine(jh hbp om).call ?_;by_cases h0:B p k=0
  ·simp -dsimp only[go_sem,aa,↓reduceIte,af,decide_true,ab,e2,e3,e4,e7,e8,e9,e10,e39,e40,hp,hlt,h0,Int.sign_zero,aW (show p<1000000 by omega),bY]
   repeat refine an ?_
   refine⟨⟨p+1,by omega,by omega,rfl,g,σ,B,hE,hM,hG,V2,V5,hQ,fun i h1 h2=>?_⟩,by omega⟩
   by_cases e:i=p
   ·rw[e];exact h0
   ·exact hZ i h1 om
  have hs0:((B p k).sign==0)=false:=by
   simp only[beq_eq_false_iff_ne,ne_eq];rw[pn];exact h0
  have hpn':((p:Int)==n)=false:=by simp;omega
  apply tt (fun O S=>∃(neg:Bool) (b11:Nat),O 2=.ptr 2 b2 0/\O 3=.int .i64 n/\O 4=.sl 1 bb 0 n/\O 7=.bool neg/\O 8=.ptr 2 b8 0/\O 9=.int .i64 k/\O 11=.ptr 2 b11 0/\O 12=.int .i64 ((k+1:Nat):Int)/\O 39=.int .i64 n/\O 40=.int .i64 k/\DJ A n bb b2 b8 b11 S k neg (k+1) (k+1))
  ·intro key;by_cases hkp':k<p
   ·have v3':g1 k=.sl 2 (g k) 0 n:=v1 k hlt;have hne:((p:Int) != (k:Int))=true:=by simp;omega
    simp -dsimp only[go_sem,aa,↓reduceIte,af,decide_true,ab,e2,e3,e4,e7,e8,e9,e10,e39,e40,hp,hlt,hs0,hpn',hne]
    repeat refine an ?_
    refine gR 13 (by kernel_rfl) ?_
    have y1:bK (bK g1 k (.sl 2 (g p) 0 n)) p (.sl 2 (g k) 0 n) k=.sl 2 (g p) 0 n:=by simp[bK,show ¬k=p by omega]
    have hgp:g p≠bb:=ak (hM.outer_ne hp);simp -dsimp only[go_sem,aa,↓reduceIte,af,ab,e4,e7,e9,e10,hp,hlt,u1,v1',v3',y1,hgp,u2,v2']
    repeat refine an ?_
    refine aG.intro fun b11 f11=>?_;simp -dsimp only[go_sem,aa,ae,↓reduceIte,ab,e4,e7,e9,v2']
    repeat refine an ?_
    refine key _ _ ?_;simp -dsimp only[go_sem,aa,e2,e3,e4,e8,e9,e39,e40,aW (show k<1000000 by omega)]
    refine⟨!neg,rfl,b11,rfl,?_⟩;rw[kt,kt];have f11':S b11=ac:=by rw[kt]at f11;exact(ai f11).2
    have hs:∀i,i<n->dB k p i<n:=fun i hi=>by unfold dB;split<;>(try split)<;>omega
    have hsw:∀i,dB p k i=dB k p i:=fun i=>by unfold dB;split<;>(try split)<;>(try split)<;>omega
    have hD:=hM.swap hlt hp om u1;simp only[hsw]at hD;exact DJ.of hE hkp' hlt hp hD hG V2 V5 hb2 hb8 h28 f11' hM hQ hBpk h0
   have hpk:p=k:=by omega
   subst hpk;have hne:((p:Int) != (p:Int))=false:=by simp
   simp -dsimp only[go_sem,aa,↓reduceIte,af,decide_true,ab,e2,e3,e4,e7,e8,e9,e10,e39,e40,hp,hs0,hpn',hne,u1,v1',u2,v2',aW (show p<1000000 by omega)]
   repeat refine an ?_
   refine aG.intro fun b11 f11=>?_;simp -dsimp only[go_sem,aa,ae,↓reduceIte,ab,e4,e9,v2']
   repeat refine an ?_
   refine key _ _ ?_;simp -dsimp only[go_sem,aa,e2,e3,e4,e7,e8,e9,e39,e40,aW (show p<1000000 by omega)]
   refine⟨neg,rfl,b11,rfl,?_⟩;rw[kt];exact DJ.of0 hE hlt hM hG V2 V5 h28 f11 hQ h0
  clear e2 e3 e4 e7 e8 e9 e10 e39 e40 hZ hQ V2 V5 hG hM u1 v1 u2 v2 v1' v2' hbp hBpk h0 hs0 hpn' hE;rintro O S ⟨neg,b11,e2,e3,e4,e7,e8,e9,e11,e12,e39,e40,hD⟩;refine aI (fun O S=>∃i:Nat,k+1<=i/\i<=n/\O 2=.ptr 2 b2 0/\O 3=.int .i64 n/\O 4=.sl 1 bb 0 n/\O 7=.bool neg/\O 8=.ptr 2 b8 0/\O 9=.int .i64 k/\O 11=.ptr 2 b11 0/\O 12=.int .i64 i/\O 39=.int .i64 n/\O 40=.int .i64 k/\DJ A n bb b2 b8 b11 S k neg i (k+1)) (fun O S=>n-bY (O 12)) ?_ ?_
  ·exact⟨k+1,by omega,by omega,e2,e3,e4,e7,e8,e9,e11,e12,e39,e40,hD⟩
  clear e2 e3 e4 e7 e8 e9 e11 e12 e39 e40 hD;rintro O S ⟨i,hki,hin,e2,e3,e4,e7,e8,e9,e11,e12,e39,e40,hD⟩;by_cases hi:i<n
  ·simp -dsimp only[go_sem,aa,↓reduceIte,af,decide_true,ab,e2,e3,e4,e7,e8,e9,e11,e12,e39,e40,hi,aW (show k<1000000 by omega)]
   repeat refine an ?_
   refine aI (fun O S=>∃j:Nat,k+1<=j/\j<=n/\O 2=.ptr 2 b2 0/\O 3=.int .i64 n/\O 4=.sl 1 bb 0 n/\O 7=.bool neg/\O 8=.ptr 2 b8 0/\O 9=.int .i64 k/\O 11=.ptr 2 b11 0/\O 12=.int .i64 i/\O 13=.int .i64 j/\O 39=.int .i64 n/\O 40=.int .i64 k/\DJ A n bb b2 b8 b11 S k neg i j) (fun O S=>n-bY (O 13)) ?_ ?_
   ·simp -dsimp only[go_sem,aa,e2,e3,e4,e7,e8,e9,e11,e12,e39,e40];exact⟨k+1,by omega,by omega,rfl,hD⟩
   clear e2 e3 e4 e7 e8 e9 e11 e12 e39 e40 hD;rintro O S ⟨j,hkj,hjn,e2,e3,e4,e7,e8,e9,e11,e12,e13,e39,e40,hD⟩;by_cases hj:j<n
   ·obtain⟨g,σ,B,hE,hM,hG,V2,V5,V11,n1,n2,n3,h00,hBe⟩:=hD;obtain⟨g1,u1,v1⟩:=hM.outer;obtain⟨g2,u2,v2⟩:=hM.row i hi;obtain⟨g3,u3,v3⟩:=hM.row k hlt;obtain⟨gp,up',vp⟩:=id V11;have w1:g1 i=.sl 2 (g i) 0 n:=v1 i hi;have w2:g1 k=.sl 2 (g k) 0 n:=v1 k hlt;have w3:g2 j=.big (B i j):=v2 j hj;have w4:g2 k=.big (B i k):=v2 k hlt;have w5:g3 j=.big (B k j):=v3 j hj;have c1:=hBe i j om hi om hj;have c2:=hBe i k om hi (ah _) hlt;have c3:=hBe k j (ah _) hlt om hj;rw[if_neg om]at c1 c2 c3;rw[bP]at c2 c3;have m1:=hB σ neg k hE k (i-k) (j-k) om om;have m2:=hB σ neg k hE k (i-k) 0 om om;have m3:=hB σ neg k hE k 0 (j-k) om om;have m4:=hB σ neg k hE k 0 0 om om;rw[<-c1]at m1;rw[<-c2]at m2;rw[<-c3]at m3;have m5:nb (det k (fun a c=>A (σ a) c)) 31:=by
     by_cases e:k=0
     ·rw[e];simp only[det];exact nb.one om
     ·have:=hB σ neg k hE (k-1) 0 0 om om;rw[cP,show k-1+1=k by omega]at this
      exact this
    have hst:=iX hE.lead (i-k-1) (j-k-1);rw[show i-k-1+1=i-k by omega,show j-k-1+1=j-k by omega,<-c1,<-c2,<-c3]at hst
    have hd0:=hE.lead k (ah _);generalize hpv:cI (fun a c=>A (σ a) c) k 0 0=pv at *;have hq:(pv*B i j-B i k*B k j)/det k (fun a c=>A (σ a) c)=cI (fun a c=>A (σ a) c) (k+1) (i-k-1) (j-k-1):=by
     rw[hst,Int.mul_ediv_cancel_left _ hd0]
    simp -dsimp only[go_sem,aa,↓reduceIte,af,decide_true,ab,e2,e3,e4,e7,e8,e9,e11,e12,e13,e39,e40,hj]
    repeat refine an ?_
    refine bG 26 (by kernel_rfl) ?_
    simp -dsimp only[go_sem,aa,ae,↓reduceIte,af,ab,e4,e9,e11,e12,e13,hi,hj,hlt,u1,w1,w2,u2,u3,w3,w4,w5,up',vp]
    repeat refine an ?_
    refine⟨_,(np m4 m1 om).pure',_,(np m2 m3 om).pure',_,(yr (m4.mul m1) (m2.mul m3) om).pure',?_⟩;refine aG.intro fun b14 f14=>?_
    try simp -dsimp only[go_sem,aa,ae,↓reduceIte]
    have q1:bb≠b14:=bB.fresh hM.outer f14;have q2:∀a,a<n->g a≠b14:=fun a ha=>bB.fresh (hM.row a ha) f14;have q3:b2≠b14:=V2.fresh f14;have q4:b8≠b14:=V5.fresh f14;have q5:b11≠b14:=V11.fresh f14;refine md (fun T=>cS T bb g n n B/\dc T b2 50 2 (.big 0)/\dc T b8 50 2 (.big (det k (fun a c=>A (σ a) c)))/\dc T b11 50 2 (.big pv)/\dc T b14 50 2 (.big (pv*B i j-B i k*B k j))) ?_ ?_
    ·refine⟨(hM.upd q1 q2 _).upd q1 q2 _,(V2.upd q3 _).upd q3 _,(V5.upd q4 _).upd q4 _,(V11.upd q5 _).upd q5 _,?_⟩;simp only[dc.at_hit,bK,if_true]
    clear hM V2 V5 V11 u1 v1 u2 v2 u3 v3 up' vp w1 w2 w3 w4 w5;rintro T ⟨hM,V2,V5,V11,V14⟩;obtain⟨g1,u1,v1⟩:=hM.outer;obtain⟨g2,u2,v2⟩:=hM.row i hi;obtain⟨g8,u8,x8⟩:=id V5;obtain⟨g14,u14,x14⟩:=id V14;have w1:g1 i=.sl 2 (g i) 0 n:=v1 i hi;refine ee 13 [[10,11]] (by kernel_rfl) ?_
    simp -dsimp only[go_sem,aa,ae,↓reduceIte,reduceCtorEq,af,ab,e2,e3,e4,e7,e8,e9,e11,e12,e13,e39,e40,hi,hj,u1,w1,u2,u8,x8,u14,x14]
    repeat refine an ?_
    refine⟨_,(nv (k:=63) ((m4.mul m1).sub (m2.mul m3)) (m5.mono om) om hd0).pure',?_⟩;rw[hq];simp -dsimp only[go_sem,aW (show j<1000000 by omega),bY]
    repeat refine an ?_
    refine⟨⟨j+1,by omega,by omega,rfl,g,σ,_,hE,hM.set hi u2,hG,dc.upd V2 (ak (hG i hi).1) _,dc.upd V5 (ak (hG i hi).2.1) _,by rw[hpv];exact dc.upd V11 (ak (hG i hi).2.2) _,n1,n2,n3,by rw[hpv];exact h00,fun a c ha1 ha2 hc1 hc2=>?_⟩,by omega⟩
    have h3:=hBe a c ha1 ha2 hc1 hc2;simp only[d6];by_cases e1:a=i/\c=j
    ·obtain⟨rfl,rfl⟩:=e1;rw[if_pos ⟨rfl,rfl⟩,if_pos om,vQ,vQ]
    ·rw[if_neg e1,h3];by_cases e2:k<a/\k<c/\(a<i∨a=i/\c<j)
     ·rw[if_pos e2,if_pos om]
     ·rw[if_neg e2,if_neg om]
   have hnj:n=j:=by omega
   obtain⟨g,σ,B,hE,hM,hG,V2,V5,V11,n1,n2,n3,h00,hBe⟩:=hD;simp -dsimp only[go_sem,aa,↓reduceIte,af,decide_false,ab,e2,e3,e4,e7,e8,e9,e11,e12,e13,e39,e40,hj,aW (show i<1000000 by omega),bY]
   repeat refine an ?_
   refine⟨⟨i+1,by omega,by omega,rfl,g,σ,B,hE,hM,hG,V2,V5,V11,n1,n2,n3,h00,fun a c ha1 ha2 hc1 hc2=>?_⟩,by omega⟩
   rw[hBe a c ha1 ha2 hc1 hc2];by_cases e2:k<a/\k<c/\(a<i∨a=i/\c<j)
   ·rw[if_pos e2,if_pos om]
   ·rw[if_neg e2,if_neg om]
  have hni:n=i:=by omega
  obtain⟨g,σ,B,hE,hM,hG,V2,V5,V11,n1,n2,n3,h00,hBe⟩:=hD;obtain⟨g8,u8,x8⟩:=id V5;obtain⟨gp,up',vp⟩:=id V11;simp -dsimp only[go_sem,aa,ae,↓reduceIte,af,decide_false,ab,e2,e3,e4,e7,e8,e9,e11,e12,e39,e40,hi,u8,up',vp,aW (show k<1000000 by omega),bY]
  repeat refine an ?_
  refine⟨⟨k+1,by omega,neg,rfl,rfl,g,σ,B,hE.step h00,hM.upd hb8 (fun a ha=>(hG a ha).2.1) _,fun a ha=>⟨(hG a ha).1,(hG a ha).2.1⟩,V2.upd (ak n1) _,by rw[<-cP];exact dc.set,fun a c ha1 ha2 hc1 hc2=>?_⟩,by omega⟩
  rw[hBe a c om ha2 om hc2,if_pos om]
 have hnk:n=k:=by omega
 subst hnk;obtain⟨g,σ,B,hE,hM,hG,V2,V5,hQ⟩:=hD;obtain⟨g2,u2,x2⟩:=id V2;obtain⟨g8,u8,x8⟩:=id V5;have m5:nb (det n (fun a c=>A (σ a) c)) 31:=by
  have:=hB σ neg n hE (n-1) 0 0 om om;rw[cP,show n-1+1=n by omega]at this
  exact this
 have hdet:=hE.sign
 cases neg with
 | true =>
  simp -dsimp only[go_sem,aa,ae,↓reduceIte,af,decide_false,ab,e7,e8,e39,e40,cD,u8,x8]
  repeat refine an ?_
  refine(pS m5 om).call ?_;simp -dsimp only[go_sem,aa,ae,↓reduceIte,ab,e2,u2,x8]
  repeat refine an ?_
  have e:-det n (fun a c=>A (σ a) c)=det n A:=by rw[hdet];simp
  simp only[bK,if_true];rw[e];exact VR.mf rfl
 | false =>
  simp -dsimp only[go_sem,aa,ae,↓reduceIte,af,decide_false,ab,e7,e8,e39,e40,cD,u8,x8]
  repeat refine an ?_
  refine(qr m5 om).call ?_;simp -dsimp only[go_sem,aa,ae,↓reduceIte,ab,e2,u2,x8]
  repeat refine an ?_
  have e:det n (fun a c=>A (σ a) c)=det n A:=by rw[hdet];simp
  simp only[bK,if_true];rw[e];exact VR.mf rfl
theorem Hh(n:Nat)(A:aU)(h1:1<=n)(h2:n<=16)(hd:det n A≠0)(hB:∀σ neg k,mz A n σ neg k->∀k' i j,k'+i<n->k'+j<n->nb (cI (fun a b=>A (σ a) b) k' i j) 31):PF 79 [aV n n A] (.tup [.big (det n A),.bool true]):=by
 refine PF.of_spec (aA Tryz.func79 rfl 23 Tryz.ntmps79 (by kernel_rfl) (by simp) (by simp[Tryz.results79]) ?_)
 rw[aS,Tryz.results79];simp -dsimp only[go_sem,aV,bn]
 repeat refine an ?_
 refine aG.intro fun b2 f2=>?_
 try simp -dsimp only[go_sem,aa,Nat.reduceLeDiff,ae,reduceCtorEq]
 refine(jX n n A h1 h2 h1 h2).call ?_;simp -dsimp only[go_sem,aa,ae,↓reduceIte,reduceCtorEq,ab,show((n:Int) != n)=false by simp]
 repeat refine an ?_
 refine(uY n A h1 h2 hd hB).call ?_;simp -dsimp only[go_sem,aa,ae,↓reduceIte,reduceCtorEq,ab,bK]
 repeat refine an ?_
 exact VR.tup (l:=[.big (det n A),.bool true]) (by simp[nY])
def gC(k0:Nat):Nat->Nat
 | 0=>k0
 | k+1=>gC k0 k+gC k0 k+60
theorem mR(k0:Nat):∀k,k0<=gC k0 k
 | 0=>ah _
 | k+1=>by have:=mR k0 k;simp only[gC];omega
theorem tq(k0:Nat)(hk:k0<=100):∀k,k<=8->gC k0 k<=50000:=by
 intro k hk2
 match k,hk2 with
 | 0,_=>simp only[gC];omega
 | 1,_=>simp only[gC];omega
 | 2,_=>simp only[gC];omega
 | 3,_=>simp only[gC];omega
 | 4,_=>simp only[gC];omega
 | 5,_=>simp only[gC];omega
 | 6,_=>simp only[gC];omega
 | 7,_=>simp only[gC];omega
 | 8,_=>simp only[gC];omega
theorem Dz{n k:Nat}{A B:aU}(hn:n<=8)(hA:∀i j,i<n->j<n->nb (A i j) k)(hB:∀i j,i<n->j<n->nb (B i j) k){i j:Nat}(hi:i<n)(hj:j<n):nb (mm n A B i j) (k+k+8):=by
 have:=qu (f:=fun a=>A i a*B a j) (k:=k+k) n (fun a ha=>(hA i a hi ha).mul (hB a j ha hj));exact this.mono om
theorem FL{n k:Nat}{A:aU}(hn:n<=8)(hA:∀i j,i<n->j<n->nb (A i j) k):∀t,t<=n->nb (aD t (fun a=>A a a)) (k+8):=fun t ht =>
 (qu (f:=fun a=>A a a) (k:=k) t (fun a ha=>hA a a om om)).mono om
theorem yU{a b:Int}{k:Nat}(ha:nb a k):nb (a/b) (k+1):=by
 have h:(a/b).natAbs<=a.natAbs:=Int.natAbs_ediv_le_natAbs a b;exact(nb.of_le h ha).mono om
theorem uR{n k0:Nat}{M:aU}(hn:n<=8)(h1:1<=k0)(hM:∀i j,i<n->j<n->nb (M i j) k0):∀k i j,i<n->j<n->nb (oF n M k i j) (gC k0 k)
 | 0,i,j,_,_=>by
  simp only[oF,gC];split
  ·exact nb.one h1
  ·exact nb.zero _
 | k+1,i,j,hi,hj=>by
  have ih:=uR hn h1 hM k;have hb:=mR k0 k;have hX:∀i j,i<n->j<n->nb (mm n M (oF n M k) i j) (gC k0 k+gC k0 k+8):=fun i j hi hj=>Dz hn (fun i j hi hj=>(hM i j hi hj).mono hb) ih hi hj;simp only[oF,gC];have h3:nb (if i=j then tr n (mm n M (oF n M k))/(-((k+1:Nat):Int))else 0) (gC k0 k+gC k0 k+17):=by
   split
   ·exact yU (FL hn hX n (ah _))
   ·exact nb.zero _
  exact(((hX i j hi hj).mono om).add h3).mono om
theorem Bg(n k0:Nat)(M:aU)(h1:1<=n)(hn:n<=8)(hk1:1<=k0)(hk:k0<=100)(hM:∀i j,i<n->j<n->nb (M i j) k0):MF 129 [aV n n M] n n (lj n M):=by
 refine MF.of ?_;refine aA Tryz.func129 rfl 78 Tryz.ntmps129 (by kernel_rfl) (by simp) (by simp[Tryz.results129]) ?_
 rw[aS,Tryz.results129];simp -dsimp only[go_sem,aa,ae,reduceCtorEq,ab,aV,bn]
 repeat refine an ?_
 refine(ju (by decide) (by decide)).call ?_
 simp -dsimp only[go_sem,aa,ae,ab]
 repeat refine an ?_
 refine(Eg n 1 1 om (nb.one om) om _ _ (cw _ _)).mono ?_;rintro _ S1 ⟨b,g,rfl,hO,_⟩;simp -dsimp only[go_sem]
 repeat refine an ?_
 refine aI (fun O S=>∃k:Nat,1<=k/\k<=n/\O 0=aV n n M/\O 3=.int .i64 n/\O 5=.int .i64 k/\∃b,O 4=.sl 1 b 0 n/\∃g,cS S b g n n (oF n M (k-1))) (fun O S=>n-bY (O 5)) ?_ ?_
 ·simp -dsimp only[go_sem,aa,reduceCtorEq,aV,bn];exact⟨1,by omega,h1,rfl,b,rfl,g,hO⟩
 clear hO;rintro O S ⟨k,hk2,hkn,e0,e3,e5,b,e4,g,hO⟩;by_cases hlt:k<n
 ·have hbl:=tq k0 hk (k-1) om;have hbm:=mR k0 (k-1);have hF:=uR hn hk1 hM (k-1);have hM2:∀i j,i<n->j<n->nb (M i j) (gC k0 (k-1)):=fun i j hi hj=>(hM i j hi hj).mono hbm;have hX:∀i j,i<n->j<n->nb (mm n M (oF n M (k-1)) i j) (gC k0 (k-1)+gC k0 (k-1)+8):=fun i j hi hj=>Dz hn hM2 hF hi hj;simp -dsimp only[go_sem,aa,ae,↓reduceIte,reduceCtorEq,af,decide_true,ab,e0,e3,e4,e5,hlt,aV,bn]
  repeat refine an ?_
  refine(Bt n n n (gC k0 (k-1)) M (oF n M (k-1)) h1 om h1 om h1 om hM2 hF om _ _ (dY.two (VA.refl _ _) hO.vr.va)).mono ?_;rintro _ S2 ⟨bc,g',rfl,hO2,_⟩;generalize hXe:mm n M (oF n M (k-1))=X at *;simp -dsimp only[go_sem,aa,reduceCtorEq,e0,e4]
  repeat refine an ?_
  refine aG.intro fun b6 f6=>?_
  try simp -dsimp only[go_sem,aa,↓reduceIte,e3]
  have q1:bc≠b6:=bB.fresh hO2.outer f6;have q2:∀a,a<n->g' a≠b6:=fun a ha=>bB.fresh (hO2.row a ha) f6;refine aI (fun O S=>∃i:Nat,i<=n/\O 0=aV n n M/\O 3=.int .i64 n/\O 4=.sl 1 bc 0 n/\O 5=.int .i64 k/\O 6=.ptr 2 b6 0/\O 29=.int .i64 n/\O 30=.int .i64 i/\cS S bc g' n n X/\dc S b6 50 2 (.big (aD i fun a=>X a a))) (fun O S=>n-bY (O 30)) ?_ ?_
  ·simp -dsimp only[go_sem,aa,reduceCtorEq,e0,e3,e5];exact⟨0,by omega,rfl,(hO2.upd q1 q2 _).upd q1 q2 _,dc.set⟩
  clear hO2 e0 e3 e4 e5 f6 hO;rintro O S ⟨i,hi,e0,e3,e4,e5,e6,e29,e30,hO,V6⟩;obtain⟨g6,u6,x6⟩:=id V6;by_cases hit:i<n
  ·obtain⟨g1,u1,v1⟩:=hO.outer;obtain⟨g2,u2,v2⟩:=hO.row i hit;have x1:g1 i=.sl 2 (g' i) 0 n:=v1 i hit;have x2:g2 i=.big (X i i):=v2 i hit;simp -dsimp only[go_sem,aa,↓reduceIte,af,decide_true,e29,e30,hit]
   repeat refine an ?_
   refine bG 9 (by kernel_rfl) ?_
   simp -dsimp only[go_sem,aa,ae,↓reduceIte,reduceCtorEq,af,ab,e0,e3,e4,e5,e6,e29,e30,hit,u1,x1,u2,x2,u6,x6,aW (show i<1000000 by omega),bY]
   repeat refine an ?_
   exact⟨_,(rW (FL hn hX i om) ((hX i i hit hit).mono om) om).pure',trivial,⟨i+1,by omega,rfl,hO.upd q1 q2 _,dc.set⟩,by omega⟩
  have hni:n=i:=by omega
  simp -dsimp only[go_sem,aa,↓reduceIte,af,decide_false,e29,e30,hit]
  repeat refine an ?_
  have wk:IntKind.i64.wrap (0-(k:Int))=-(k:Int):=by rw[Int.zero_sub];exact i64_in om om
  refine mT 11 [[7,8],[8],[]] (by kernel_rfl) ?_
  simp -dsimp only[go_sem,aa,ae,↓reduceIte,ab,e5,e6,u6,x6,wk]
  repeat refine an ?_
  have nt:=FL hn hX n (ah _);subst hni;refine⟨_,(ju om om).pure',_,(nv nt (b:=-(k:Int)) (by unfold nb;omega) om om).pure',?_⟩
  simp -dsimp only[go_sem]
  repeat refine an ?_
  refine aG.intro fun b8 f8=>?_
  try simp -dsimp only[go_sem]
  refine aG.intro fun b9 f9=>?_;have n9_8:=(ai f9).1;simp -dsimp only[go_sem,aa,ae,↓reduceIte,e3,nn n9_8]
  repeat refine an ?_
  have r1:bc≠b8:=bB.fresh hO.outer f8;have r2:∀a,a<n->g' a≠b8:=fun a ha=>bB.fresh (hO.row a ha) f8;have r3:bc≠b9:=bB.fresh hO.outer (ai f9).2;have r4:∀a,a<n->g' a≠b9:=fun a ha=>bB.fresh (hO.row a ha) (ai f9).2;generalize hq:(aD n fun a=>X a a) / -(k:Int)=q at *;have nq:nb q (gC k0 (k-1)+gC k0 (k-1)+17):=by rw[<-hq];exact yU nt
  refine aI (fun O S=>∃i:Nat,i<=n/\O 0=aV n n M/\O 3=.int .i64 n/\O 4=.sl 1 bc 0 n/\O 5=.int .i64 k/\O 8=.ptr 2 b8 0/\O 52=.int .i64 n/\O 53=.int .i64 i/\cS S bc g' n n (fun a c=>X a c+if a=c/\a<i then q else 0)/\dc S b8 50 2 (.big q)) (fun O S=>n-bY (O 53)) ?_ ?_
  ·simp -dsimp only[go_sem,aa,↓reduceIte,reduceCtorEq,e0,e3,e4,e5];refine⟨0,by omega,rfl,rfl,cS.congr (A:=X) ?_ (fun a c _ _=>by simp),?_⟩
   ·repeat' first|exact hO|refine cS.upd ?_ (by assumption) (by assumption) _
   ·simp only[dc.at_hit,dc.at_miss,ne_eq,not_false_eq_true,bK,if_true,ak n9_8]
  clear hO e0 e3 e4 e5 e6 e29 e30 f8 f9 hit V6 u6 x6;rintro O S ⟨i,hi,e0,e3,e4,e5,e8,e52,e53,hO,V8⟩;obtain⟨g8,u8,x8⟩:=id V8;by_cases hit:i<n
  ·obtain⟨g1,u1,v1⟩:=hO.outer;obtain⟨g2,u2,v2⟩:=hO.row i hit;have x1:g1 i=.sl 2 (g' i) 0 n:=v1 i hit;have x2:g2 i=.big (X i i):=(v2 i hit).trans (by simp)
   simp -dsimp only[go_sem,aa,↓reduceIte,reduceCtorEq,af,decide_true,e0,e3,e4,e5,e52,e53,hit]
   repeat refine an ?_
   refine bG 15 (by kernel_rfl) ?_
   simp -dsimp only[go_sem,aa,ae,↓reduceIte,reduceCtorEq,af,ab,e0,e3,e4,e5,e8,e52,e53,hit,u1,x1,u2,x2,u8,x8,aW (show i<1000000 by omega),bY]
   repeat refine an ?_
   refine⟨_,(rW ((hX i i hit hit).mono om) nq om).pure',trivial,⟨i+1,by omega,rfl,(hO.set hit u2).congr fun a c _ _=>?_,V8.upd (ak (r2 i hit)) _⟩,by omega⟩
   simp only[d6];by_cases e:a=i/\c=i
   ·obtain⟨rfl,rfl⟩:=e;simp
   ·rw[if_neg e];by_cases e2:a=c/\a<i
    ·rw[if_pos e2,if_pos ⟨e2.1,by omega⟩]
    ·rw[if_neg e2,if_neg om]
  have hni:n=i:=by omega
  subst hni;simp -dsimp only[go_sem,aa,↓reduceIte,reduceCtorEq,af,decide_false,e0,e3,e4,e5,e52,e53,cD,aW (show k<1000000 by omega),bY]
  repeat refine an ?_
  refine⟨⟨k+1,by omega,by omega,rfl,rfl,bc,rfl,g',hO.congr fun a c ha _=>?_⟩,by omega⟩
  rw[show k+1-1=(k-1)+1 by omega]
  simp only[oF,hXe];congr 1;by_cases e:a=c
  ·rw[if_pos ⟨e,ha⟩,if_pos e,<-hq,show((k-1+1:Nat):Int)=(k:Int) by omega];rfl
  ·rw[if_neg (fun h=>e h.1),if_neg e]
 have hkn':n=k:=by omega
 subst hkn';have hF:=uR hn hk1 hM (n-1);have hbl:=tq k0 hk (n-1) om;by_cases hev:n%2=0
 ·have hmod:(dW (n:Int) 2==0)=true:=by rw[aL om,beq_iff_eq];omega
  simp -dsimp only[go_sem,aa,ae,↓reduceIte,reduceCtorEq,af,decide_false,ab,e0,e3,e4,e5,cD,hmod,show ¬((2:Int)=0) by decide]
  repeat refine an ?_
  refine(Cb n n _ (oF n M (n-1)) h1 om om hF om _ _ (dY.one hO.vr.va)).mono ?_;rintro _ S2 ⟨c,g',rfl,hO2,_⟩;simp -dsimp only[go_sem,aa]
  repeat refine an ?_
  exact⟨c,rfl,g',hO2.congr fun a c _ _=>by simp[lj,hev]⟩
 ·have hmod:(dW (n:Int) 2==0)=false:=by rw[aL om,beq_eq_false_iff_ne];omega
  simp -dsimp only[go_sem,aa,ae,↓reduceIte,reduceCtorEq,af,decide_false,ab,e0,e3,e4,e5,cD,hmod,show ¬((2:Int)=0) by decide]
  repeat refine an ?_
  exact⟨b,rfl,g,hO.congr fun a c _ _=>by simp[lj,hev]⟩
theorem zS(n k0:Nat)(M:aU)(h1:1<=n)(hn:n<=8)(hk1:1<=k0)(hk:k0<=100)(hM:∀i j,i<n->j<n->nb (M i j) k0):zz 78 [aV n n M] n n (lj n M):=by
 refine zz.of ?_;refine aA Tryz.func78 rfl 22 Tryz.ntmps78 (by kernel_rfl) (by simp) (by simp[Tryz.results78]) ?_
 rw[aS,Tryz.results78];simp -dsimp only[go_sem,aa,ae,reduceCtorEq,ab,aV,bn]
 repeat refine an ?_
 refine(jX n n M h1 om h1 om).call ?_;simp -dsimp only[go_sem,aa,ae,reduceCtorEq,ab,show((n:Int) != n)=false by simp]
 repeat refine an ?_
 refine(Bg n k0 M h1 hn hk1 hk hM _ _ (cw _ _)).mono ?_;rintro _ S1 ⟨b,g,rfl,hO,_⟩;simp -dsimp only[go_sem,aa,reduceCtorEq]
 repeat refine an ?_
 exact⟨b,rfl,g,hO⟩
end Go.Proofs.YtdobfmlmenaajaaGreatDoor
