/-
  Lemmas for NeighbourIndex.
-/
import Derived.Test.YtdobfmlmenaajaaGreatDoorJ15
namespace Go.Proofs.YtdobfmlmenaajaaGreatDoor
open Go.RowKit Tryz
open _root_.Bool renaming and_eq_true→aA,or_eq_true→dj
open _root_.Int renaming ofNat_lt→af,zero_le_ofNat→az,tmod_eq_emod_of_nonneg→aU,emod_lt_of_pos→aV,emod_nonneg→aY,natCast_mul→ck,dvd_of_emod_eq_zero→cE,sign_eq_one_of_pos→cU,mul_ediv_cancel_left→cV,mul_le_mul→cY,emod_eq_of_lt→dq,mul_nonneg→du,one_mul→eg,tmod→eA,emod_eq_zero_of_dvd→eI,mul_emod→eZ,toNat_natCast→fE,emod_emod_of_dvd→kl,sign_zero→nh,sign_eq_zero_iff_zero→p9
open _root_.List renaming all_eq_true→aB,not_mem_nil→aT,forall_mem_cons→bG,getElem?_cons_succ→bT,range→cn,getElem?_cons_zero→cN,mem_cons→cT,mem_range→eQ
open _root_.Nat renaming reduceEqDiff→aa,add_one_le_iff→ab,reduceLT→ae,le_refl→ah,reduceAdd→ak,reduceLeDiff→au,zero_add→aF,lt_or_ge→aI,mul_le_mul→bN,le_trans→bV,sub_self→bW,lt_irrefl→cA,lt_trichotomy→db,sub_zero→eG,lt_of_le_of_lt→gj,le_of_eq→sX,sub_sub→wO
open _root_.Ne renaming symm→ao
open _root_.Option renaming none→ac,map_some→dp,some→ef,map_none→jE
open _root_.Or renaming inr→bH,inl→bQ
set_option maxHeartbeats 6400000
set_option maxRecDepth 4096
set_option linter.all false
def GU(b N top:Nat):Nat->AV:=fun j=>if j=0 then .sl 1 b 0 N else .int .i64 top
structure sj(T:St)(b1 b N top:Nat)(L:Nat->Bool)(O:Tm)(S:St):Prop where
 base:O 1=.ptr 1 b1 0
 p0:L 0=true->O 10=.ptr 1 b1 0
 p1:L 1=true->O 11=.sl 1 b 0 N
 p2:L 2=true->O 12=.int .i64 N
 p4:L 4=true->O 14=.ptr 1 b1 1
 p5:L 5=true->O 15=.int .i64 top
 ext:eJ T S
 ex:∃bw b3,(L 3=true->O 13=.sl 1 bw 0 N/\bE S bw 59 1 N (fun _=>.nil)/\T bw=ac)/\(L 6=true->L 3=true/\O 16=.agg [.sl 1 bw 0 N,.int .i64 top])/\(L 7=true->O 3=.ptr 1 b3 0/\T b3=ac/\∃g,S b3=some ⟨218,1,2,g⟩)/\(L 8=true->L 6=true/\L 7=true/\bE S b3 218 1 2 (GU bw N top))
theorem pt{O:Tm}{d t:Nat}{z:AV}(h:t≠d):(O.put (some d) z) t=O t:=by rw[Tm.put_eq];exact if_neg h
theorem pd{O:Tm}{d:Nat}{z:AV}:(O.put (some d) z) d=z:=by rw[Tm.put_eq];exact if_pos rfl
theorem iM{L:Nat->Bool}{i k:Nat}(h:(if k=i then true else L k)=true)(hk:k≠i):L k=true:=by rwa [if_neg hk]at h
section
variable {T:St} {b1 b N top:Nat} {L:Nat->Bool} {O:Tm} {S:St}
theorem sj.s0(h:sj T b1 b N top L O S):sj T b1 b N top (fun k=>if k=0 then true else L k) (O.put (some 10) (.ptr 1 b1 0)) S :=
 ⟨by rw[pt dc];exact h.base,fun _=>pd,fun hl=>by rw[pt dc];exact h.p1 (iM hl dc),fun hl=>by rw[pt dc];exact h.p2 (iM hl dc),fun hl=>by rw[pt dc];exact h.p4 (iM hl dc),fun hl=>by rw[pt dc];exact h.p5 (iM hl dc),h.ext,by
  obtain⟨bw,b3,m3,m6,m7,m8⟩:=h.ex;refine⟨bw,b3,fun hl=>?_,fun hl=>?_,fun hl=>?_,fun hl=>?_⟩
  ·rw[pt dc];exact m3 (iM hl dc)
  ·rw[pt dc];exact⟨by simpa using (m6 (iM hl dc)).1,(m6 (iM hl dc)).2⟩
  ·rw[pt dc];exact m7 (iM hl dc)
  ·have:=m8 (iM hl dc);exact⟨by simpa using this.1,by simpa using this.2.1,this.2.2⟩⟩
theorem sj.s1(h:sj T b1 b N top L O S):sj T b1 b N top (fun k=>if k=1 then true else L k) (O.put (some 11) (.sl 1 b 0 N)) S :=
 ⟨by rw[pt dc];exact h.base,fun hl=>by rw[pt dc];exact h.p0 (iM hl dc),fun _=>pd,fun hl=>by rw[pt dc];exact h.p2 (iM hl dc),fun hl=>by rw[pt dc];exact h.p4 (iM hl dc),fun hl=>by rw[pt dc];exact h.p5 (iM hl dc),h.ext,by
  obtain⟨bw,b3,m3,m6,m7,m8⟩:=h.ex;refine⟨bw,b3,fun hl=>?_,fun hl=>?_,fun hl=>?_,fun hl=>?_⟩
  ·rw[pt dc];exact m3 (iM hl dc)
  ·rw[pt dc];exact⟨by simpa using (m6 (iM hl dc)).1,(m6 (iM hl dc)).2⟩
  ·rw[pt dc];exact m7 (iM hl dc)
  ·have:=m8 (iM hl dc);exact⟨by simpa using this.1,by simpa using this.2.1,this.2.2⟩⟩
theorem sj.s2(h:sj T b1 b N top L O S):sj T b1 b N top (fun k=>if k=2 then true else L k) (O.put (some 12) (.int .i64 N)) S :=
 ⟨by rw[pt dc];exact h.base,fun hl=>by rw[pt dc];exact h.p0 (iM hl dc),fun hl=>by rw[pt dc];exact h.p1 (iM hl dc),fun _=>pd,fun hl=>by rw[pt dc];exact h.p4 (iM hl dc),fun hl=>by rw[pt dc];exact h.p5 (iM hl dc),h.ext,by
  obtain⟨bw,b3,m3,m6,m7,m8⟩:=h.ex;refine⟨bw,b3,fun hl=>?_,fun hl=>?_,fun hl=>?_,fun hl=>?_⟩
  ·rw[pt dc];exact m3 (iM hl dc)
  ·rw[pt dc];exact⟨by simpa using (m6 (iM hl dc)).1,(m6 (iM hl dc)).2⟩
  ·rw[pt dc];exact m7 (iM hl dc)
  ·have:=m8 (iM hl dc);exact⟨by simpa using this.1,by simpa using this.2.1,this.2.2⟩⟩
theorem sj.s4(h:sj T b1 b N top L O S):sj T b1 b N top (fun k=>if k=4 then true else L k) (O.put (some 14) (.ptr 1 b1 1)) S :=
 ⟨by rw[pt dc];exact h.base,fun hl=>by rw[pt dc];exact h.p0 (iM hl dc),fun hl=>by rw[pt dc];exact h.p1 (iM hl dc),fun hl=>by rw[pt dc];exact h.p2 (iM hl dc),fun _=>pd,fun hl=>by rw[pt dc];exact h.p5 (iM hl dc),h.ext,by
  obtain⟨bw,b3,m3,m6,m7,m8⟩:=h.ex;refine⟨bw,b3,fun hl=>?_,fun hl=>?_,fun hl=>?_,fun hl=>?_⟩
  ·rw[pt dc];exact m3 (iM hl dc)
  ·rw[pt dc];exact⟨by simpa using (m6 (iM hl dc)).1,(m6 (iM hl dc)).2⟩
  ·rw[pt dc];exact m7 (iM hl dc)
  ·have:=m8 (iM hl dc);exact⟨by simpa using this.1,by simpa using this.2.1,this.2.2⟩⟩
theorem sj.s5(h:sj T b1 b N top L O S):sj T b1 b N top (fun k=>if k=5 then true else L k) (O.put (some 15) (.int .i64 top)) S :=
 ⟨by rw[pt dc];exact h.base,fun hl=>by rw[pt dc];exact h.p0 (iM hl dc),fun hl=>by rw[pt dc];exact h.p1 (iM hl dc),fun hl=>by rw[pt dc];exact h.p2 (iM hl dc),fun hl=>by rw[pt dc];exact h.p4 (iM hl dc),fun _=>pd,h.ext,by
  obtain⟨bw,b3,m3,m6,m7,m8⟩:=h.ex;refine⟨bw,b3,fun hl=>?_,fun hl=>?_,fun hl=>?_,fun hl=>?_⟩
  ·rw[pt dc];exact m3 (iM hl dc)
  ·rw[pt dc];exact⟨by simpa using (m6 (iM hl dc)).1,(m6 (iM hl dc)).2⟩
  ·rw[pt dc];exact m7 (iM hl dc)
  ·have:=m8 (iM hl dc);exact⟨by simpa using this.1,by simpa using this.2.1,this.2.2⟩⟩
theorem sj.s3(h:sj T b1 b N top L O S)(hL:L 3=false){c:Nat}(hc:S c=ac)(z:Nat->AV)(hz:∀i,i<N->z i=.nil):sj T b1 b N top (fun k=>if k=3 then true else L k) (O.put (some 13) (.sl 1 c 0 N)) (S.upd c ⟨59,1,N,z⟩):=by
 have hT:=h.ext.none hc;refine⟨by rw[pt dc];exact h.base,fun hl=>by rw[pt dc];exact h.p0 (iM hl dc),fun hl=>by rw[pt dc];exact h.p1 (iM hl dc),fun hl=>by rw[pt dc];exact h.p2 (iM hl dc),fun hl=>by rw[pt dc];exact h.p4 (iM hl dc),fun hl=>by rw[pt dc];exact h.p5 (iM hl dc),h.ext.upd hT _,?_⟩
 obtain⟨bw,b3,m3,m6,m7,m8⟩:=h.ex;have h6:L 6=true->False:=fun h6=>by rw[(m6 h6).1]at hL;cases hL
 refine⟨c,b3,fun _=>⟨pd,bE.here hz,hT⟩,fun hl=>(h6 (iM hl dc)).elim,fun hl=>?_,fun hl=>(h6 (m8 (iM hl dc)).1).elim⟩
 rw[pt dc]
 obtain⟨k1,k2,g,k3⟩:=m7 (iM hl dc)
 refine⟨k1,k2,g,?_⟩;rw[aP];exact k3;rintro rfl;rw[hc]at k3;cases k3
theorem sj.s6(h:sj T b1 b N top L O S)(h3:L 3=true):∃bw,O 13=.sl 1 bw 0 N/\sj T b1 b N top (fun k=>if k=6 then true else L k) (O.put (some 16) (.agg [.sl 1 bw 0 N,.int .i64 top])) S:=by
 obtain⟨bw,b3,m3,m6,m7,m8⟩:=h.ex;refine⟨bw,(m3 h3).1,⟨by rw[pt dc];exact h.base,fun hl=>by rw[pt dc];exact h.p0 (iM hl dc),fun hl=>by rw[pt dc];exact h.p1 (iM hl dc),fun hl=>by rw[pt dc];exact h.p2 (iM hl dc),fun hl=>by rw[pt dc];exact h.p4 (iM hl dc),fun hl=>by rw[pt dc];exact h.p5 (iM hl dc),h.ext,bw,b3,fun hl=>?_,fun _=>⟨by simpa using h3,pd⟩,fun hl=>?_,fun hl=>?_⟩⟩
 ·rw[pt dc];exact m3 h3
 ·rw[pt dc];exact m7 (iM hl dc)
 ·have:=m8 (iM hl dc);exact⟨sm,by simpa using this.2.1,this.2.2⟩
theorem sj.s7(h:sj T b1 b N top L O S)(hL:L 7=false){c:Nat}(hc:S c=ac)(z:Nat->AV):sj T b1 b N top (fun k=>if k=7 then true else L k) (O.put (some 3) (.ptr 1 c 0)) (S.upd c ⟨218,1,2,z⟩):=by
 have hT:=h.ext.none hc;refine⟨by rw[pt dc];exact h.base,fun hl=>by rw[pt dc];exact h.p0 (iM hl dc),fun hl=>by rw[pt dc];exact h.p1 (iM hl dc),fun hl=>by rw[pt dc];exact h.p2 (iM hl dc),fun hl=>by rw[pt dc];exact h.p4 (iM hl dc),fun hl=>by rw[pt dc];exact h.p5 (iM hl dc),h.ext.upd hT _,?_⟩
 obtain⟨bw,b3,m3,m6,m7,m8⟩:=h.ex;refine⟨bw,c,fun hl=>?_,fun hl=>?_,fun _=>⟨pd,hT,z,bZ⟩,fun hl=>?_⟩
 ·rw[pt dc]
  obtain⟨k1,k2,k3⟩:=m3 (iM hl dc)
  exact⟨k1,k2.upd (bE.fresh k2 hc) _,k3⟩
 ·rw[pt dc];exact⟨by simpa using (m6 (iM hl dc)).1,(m6 (iM hl dc)).2⟩
 ·have:=(m8 (iM hl dc)).2.1;rw[this]at hL;cases hL
theorem sj.s8(h:sj T b1 b N top L O S)(h6:L 6=true)(h7:L 7=true):∃bw b3 g,O 16=.agg [.sl 1 bw 0 N,.int .i64 top]/\O 3=.ptr 1 b3 0/\S b3=some ⟨218,1,2,g⟩/\∀z,(∀j,j<2->z j=GU bw N top j)->sj T b1 b N top (fun k=>if k=8 then true else L k) O (S.upd b3 ⟨218,1,2,z⟩):=by
 obtain⟨bw,b3,m3,m6,m7,m8⟩:=h.ex;obtain⟨k1,k2,g,k3⟩:=m7 h7;refine⟨bw,b3,g,(m6 h6).2,k1,k3,fun z hz=>⟨h.base,fun hl=>h.p0 (iM hl dc),fun hl=>h.p1 (iM hl dc),fun hl=>h.p2 (iM hl dc),fun hl=>h.p4 (iM hl dc),fun hl=>h.p5 (iM hl dc),h.ext.upd k2 _,bw,b3,fun hl=>?_,fun hl=>?_,fun _=>⟨k1,k2,z,bZ⟩,fun _=>⟨by simpa using h6,by simpa using h7,bE.here hz⟩⟩⟩
 ·obtain⟨q1,q2,q3⟩:=m3 (iM hl dc)
  exact⟨q1,q2.upd (bE.ne q2 (bE.of k3) dc) _,q3⟩
 ·exact⟨by simpa using (m6 (iM hl dc)).1,(m6 (iM hl dc)).2⟩
end
structure Cv(S0 S:St)(b3 b5 bw:Nat)(x:AV)(N R kk top:Nat)(W:aW)(d:Int)(ls:Nat->Nat):Prop where
 cols:∃c,mq S bw c N R W
 pair:bE S b3 218 1 2 (GU bw N top)
 var:dl S b5 50 2 (.big d)
 list:cG 3 1 S0 S x kk (fun i=>.int .i64 (ls i))
 nw:S0 bw=ac
 n3:S0 b3=ac
 n5:S0 b5=ac
theorem Cv.keep{S0 S S':St}{b3 b5 bw:Nat}{x:AV}{N R kk top:Nat}{W W':aW}{d:Int}{ls:Nat->Nat}(h:Cv S0 S b3 b5 bw x N R kk top W d ls)(hK:gI bw S S'){c:Nat->Nat}(hC:mq S' bw c N R W'):Cv S0 S' b3 b5 bw x N R kk top W' d ls:=by
 obtain⟨c0,hC0⟩:=h.cols;have hE:eJ S0 S':=fun k X hX=>hK k X (h.list.1 k X hX) (fun e=>by rw[e,h.nw]at hX;cases hX)
 refine⟨⟨c,hC⟩,hK.has h.pair (bE.ne h.pair hC0.outer dc),hK.var h.var ?_,h.list.step hE fun d hd=>?_,h.nw,h.n3,h.n5⟩
 ·obtain⟨y,k1,_⟩:=h.var;obtain⟨y',k2,_⟩:=hC0.outer;rintro rfl;rw[k1]at k2;cases k2
 ·rcases h.list.2 with⟨_,hx⟩|⟨e,_,hx,hh⟩
  ·obtain⟨_,_,_,e⟩:=hd;rw[hx]at e;cases e
  ·rw[hx]at hd;rw[ez.1 hd];obtain⟨y,k1,_⟩:=id hh;rw[k1];exact hK _ _ k1 (bE.ne hh hC0.outer dc)
theorem Cv.setVar{S0 S:St}{b3 b5 bw:Nat}{x:AV}{N R kk top:Nat}{W:aW}{d z:Int}{ls:Nat->Nat}(h:Cv S0 S b3 b5 bw x N R kk top W d ls){g:Nat->AV}(hg:S b5=some ⟨50,2,1,g⟩)(hR:R≠1):Cv S0 (S.upd b5 ⟨50,2,1,bJ g 0 (.big z)⟩) b3 b5 bw x N R kk top W z ls:=by
 obtain⟨c0,hC0⟩:=h.cols;have hh:bE S b5 50 2 1 g:=bE.of hg;refine⟨⟨c0,hC0.outer.upd (bE.ne hC0.outer hh dc) _,fun a ha=>(hC0.row a ha).upd ?_ _⟩,h.pair.upd (bE.ne h.pair hh dc) _,dl.set,h.list.upd h.n5 (fun d hd e=>h.list.other hg dc (e▸hd)) _,h.nw,h.n3,h.n5⟩
 rintro e;obtain⟨y,k1,_⟩:=hC0.row a ha;rw[e,hg]at k1;cases k1;exact hR rfl
theorem Cv.other{S0 S:St}{b3 b5 bw:Nat}{x:AV}{N R kk top:Nat}{W:aW}{d:Int}{ls:Nat->Nat}(h:Cv S0 S b3 b5 bw x N R kk top W d ls){e:Nat}(he:S e=ac)(X:dH):Cv S0 (S.upd e X) b3 b5 bw x N R kk top W d ls:=by
 obtain⟨c0,hC0⟩:=h.cols;exact⟨⟨c0,hC0.outer.upd (bE.fresh hC0.outer he) _,fun a ha=>(hC0.row a ha).upd (bE.fresh (hC0.row a ha) he) _⟩,h.pair.upd (bE.fresh h.pair he) _,h.var.upd (h.var.fresh he) _,h.list.upd (h.list.1.none he) (h.list.fresh he) _,h.nw,h.n3,h.n5⟩
theorem Cv.app{S0 S S':St}{b3 b5 bw:Nat}{x:AV}{N R kk top:Nat}{W:aW}{d:Int}{ls:Nat->Nat}(h:Cv S0 S b3 b5 bw x N R kk top W d ls){e k' row:Nat}(hX:cG 3 1 S0 S' (.sl 1 e 0 k') k' (fun i=>if i=kk then .int .i64 row else .int .i64 (ls i)))(hk:∀d X,S d=some X->¬dB x d->S' d=some X) :
  Cv S0 S' b3 b5 bw (.sl 1 e 0 k') N R k' top W d (fun i=>if i=kk then row else ls i):=by
 obtain⟨c0,hC0⟩:=h.cols;have kp:∀{b ty es n:Nat} {g:Nat->AV},bE S b ty es n g->ty≠3->bE S' b ty es n g:=fun hh ht=>by
  obtain⟨y,k1,k2⟩:=hh;exact⟨y,hk _ _ k1 (h.list.other k1 ht),k2⟩
 refine⟨⟨c0,kp hC0.outer dc,fun a ha=>kp (hC0.row a ha) dc⟩,kp h.pair dc,?_,hX.congr fun i _=>by split<;>rfl,h.nw,h.n3,h.n5⟩
 obtain⟨y,k1,k2⟩:=h.var;exact⟨y,hk _ _ k1 (h.list.other k1 dc),k2⟩
def EV(S0 S:St)(b3 b5 bw:Nat)(x:AV)(N R kk top:Nat)(d:Int)(ls:Nat->Nat)(A:aW)(t:Nat)(σ:Nat->Nat)(row:Nat):Prop:=∃W,Cv S0 S b3 b5 bw x N R kk top W d ls/\IE A N R kk t σ W/\W kk row≠0
def IV(S0 S:St)(b3 b5 bw:Nat)(x:AV)(n N R top:Nat)(A:aW)(row:Nat):Prop:=∃kk W d ls,Cv S0 S b3 b5 bw x N R kk top W d ls /\
 ((∃σ,kk=min row n/\row<=n+n/\IQ A N R kk σ W/\d=det kk (fun x y=>A x (σ y))/\(∀r,n<=r->r<row->W n r=0)/\∀i,i<kk->ls i=i) ∨
   (kk=N/\∃Rr,n<=Rr/\Rr<=n+n/\det (n+1) (fun a b=>A (qN n Rr a) b)≠0/\∀i,i<N->ls i=qN n Rr i))
theorem sH(S0:St)(b:Nat)(c:Nat->Nat)(n N R top:Nat)(A:aW)(hn:n<=5)(h1:1<=n)(hN:N=n+1)(hR:R=n+n+1)(hO:mq S0 b c N R (fun a r=>A r a))
  (hB:∀σ k,kF A N σ k->∀k' i j,k'+j<N->k'+i<R->nb (cP (fun x y=>A x (σ y)) k' i j) 31) (hdet:det (n+1) (fun a b=>A (qN n (n+n) a) b)≠0) :
  cS 259 [.agg [.sl 1 b 0 N,.int .i64 top]] S0 (fun r S'=>∃e Rr,r=.sl 1 e 0 N/\n<=Rr/\Rr<=n+n/\det (n+1) (fun a b=>A (qN n Rr a) b)≠0/\bE S' e 3 1 N (fun i=>.int .i64 (qN n Rr i))/\eJ S0 S'):=by
 refine aD func259 rfl 92 ntmps259 kr sm (by simp[results259]) ?_
 rw[aQ,results259];simp -dsimp only[go_sem,ak,reduceCtorEq,bG,aT,false_implies,implies_true];refine aH.intro fun b1 f1=>?_;refine mK (fun T=>bE T b1 218 1 2 (GU b N top)/\eJ S0 T) ?_ ?_
 ·refine⟨bE.here fun j hj=>?_,(eJ.refl S0).upd f1 _⟩
  match j,hj with
  | 0,_=>rfl
  | 1,_=>rfl
 rintro T ⟨hT1,hET⟩;refine yL (sj T b1 b N top) kr ?_ ?_ ?_
 ·exact⟨by simp -dsimp only[go_sem,aa],(fun h=>by cases h),(fun h=>by cases h),(fun h=>by cases h),(fun h=>by cases h),(fun h=>by cases h),eJ.refl T,0,0,(fun h=>by cases h),(fun h=>by cases h),(fun h=>by cases h),(fun h=>by cases h)⟩
 ·refine⟨?_,?_,?_,?_,?_,?_,?_,?_,?_,trivial⟩
  ·intro L O S hP hL ha;have al:∀k,_->L k=true:=aB.1 ha;refine dn rfl ?_;simp -dsimp only[go_sem,hP.base];exact hP.s0
  ·intro L O S hP hL ha;have al:∀k,_->L k=true:=aB.1 ha;refine dn rfl ?_;obtain⟨g1,u1,v1⟩:=id (hP.ext.has hT1);simp -dsimp only[go_sem,ae,↓reduceIte,ab,hP.p0 (al 0 dc),u1,show g1 0=.sl 1 b 0 N from v1 0 om]
   exact hP.s1
  ·intro L O S hP hL ha;have al:∀k,_->L k=true:=aB.1 ha;refine dn rfl ?_;simp -dsimp only[go_sem,ak,hP.p1 (al 1 dc)]
   exact hP.s2
  ·intro L O S hP hL ha;have al:∀k,_->L k=true:=aB.1 ha;refine dn rfl ?_;simp -dsimp only[go_sem,ak,hP.p2 (al 2 dc)]
   repeat refine an ?_
   refine aH.intro fun bw fw=>?_;exact hP.s3 hL fw _ (fun _ _=>rfl)
  ·intro L O S hP hL ha;have al:∀k,_->L k=true:=aB.1 ha;refine dn rfl ?_;simp -dsimp only[go_sem,ak,hP.base];exact hP.s4
  ·intro L O S hP hL ha;have al:∀k,_->L k=true:=aB.1 ha;refine dn rfl ?_;obtain⟨g1,u1,v1⟩:=id (hP.ext.has hT1);simp -dsimp only[go_sem,ak,ae,↓reduceIte,ab,hP.p4 (al 4 dc),u1,show g1 1=.int .i64 top from v1 1 om]
   exact hP.s5
  ·intro L O S hP hL ha;have al:∀k,_->L k=true:=aB.1 ha;refine dn rfl ?_;obtain⟨bw,q1,q2⟩:=hP.s6 (al 3 dc)
   simp -dsimp only[go_sem,ak,reduceCtorEq,q1,hP.p5 (al 5 dc)]
   exact q2
  ·intro L O S hP hL ha;have al:∀k,_->L k=true:=aB.1 ha;refine dn rfl ?_;simp -dsimp only[go_sem,ak];refine aH.intro fun bw fw=>?_;exact hP.s7 hL fw _
  ·intro L O S hP hL ha;have al:∀k,_->L k=true:=aB.1 ha;refine dn rfl ?_;obtain⟨bw,b3,g,q1,q2,q3,q4⟩:=hP.s8 (al 6 dc) (al 7 dc)
   simp -dsimp only[go_sem,ak,aa,ae,↓reduceIte,reduceCtorEq,ab,q1,q2,q3,bG,aT,false_implies,implies_true];refine q4 _ (fun j hj=>?_)
   match j,hj with
   | 0,_=>simp[ib,GU]
   | 1,_=>simp[ib,GU]
 intro L O S hP hL;obtain⟨bw,b3,m3,m6,m7,m8⟩:=hP.ex;obtain⟨a1,a2,a3⟩:=m3 (hL 3 dc)
 obtain⟨c1,c2,_⟩:=m7 (hL 7 dc)
 have d3:=(m8 (hL 8 dc)).2.2
 have hE:=hET.trans hP.ext;have nw:=hET.none a3;have n3:=hET.none c2;have hOS:=hO.ext hE;have e1:=hP.base;have hS1:=hP.ext.has hT1;clear hP hL m3 m6 m7 m8 a3 c2 hT1 hET a1;obtain⟨g1,u1,v1⟩:=id hS1;obtain⟨g3,u3,v3⟩:=id d3;obtain⟨gw,uw,vw⟩:=id a2;obtain⟨gb,ub,vb⟩:=id hOS.outer;simp -dsimp only[go_sem,aa,ae,↓reduceIte,ab,e1,c1,u1,u3,show g1 0=.sl 1 b 0 N from v1 0 om,show g3 0=.sl 1 bw 0 N from v3 0 om];refine B1 (e:=59) uw ub rfl rfl om (fun a ha=>by rw[vb a ha];trivial) ?_
 simp -dsimp only[go_sem,aa,ae,↓reduceIte,ab,show g1 0=.sl 1 b 0 N from v1 0 om,show g3 0=.sl 1 bw 0 N from v3 0 om];refine(jw dc dc).call ?_
 simp -dsimp only[go_sem];refine aH.intro fun b5 f5=>?_
 try simp -dsimp only[go_sem,aa,↓reduceIte]
 have hb5:bw≠b5:=fun e=>by rw[e]at f5;rw[bZ]at f5;cases f5
 have s5:S b5=ac:=by rw[aP (ao hb5)]at f5;exact f5
 have h3w:b3≠bw:=bE.ne d3 a2 dc
 have h35:b3≠b5:=bE.fresh d3 s5;have n5:=hE.none s5;have hInit:∀X Y,X=(fun j=>if 0<=j/\j<N then gb (j-0)else gw j)->Y 0=AV.big 1->Cv S0 ((S.upd bw ⟨59,1,N,X⟩).upd b5 ⟨50,2,1,Y⟩) b3 b5 bw .nil N R 0 top (fun a r=>A r a) 1 (fun i=>i):=by
  intro X Y hX hY;refine⟨⟨c,bE.upd (bE.here fun a ha=>?_) hb5 _,fun a ha=>?_⟩,(d3.upd h3w _).upd h35 _,dl.new hY,cG.nil ((hE.upd nw _).upd n5 _) _,nw,n3,n5⟩
  ·rw[hX];simp only[Nat.zero_le,true_and,ha,if_true,eG];exact vb a ha
  ·exact((hOS.row a ha).upd (bE.ne (hOS.row a ha) a2 dc) _).upd (bE.fresh (hOS.row a ha) s5) _
 have hIQ:IQ A N R 0 id (fun a r=>A r a):=IQ.init fun a r ha hr=>by
  have:=hB id 0 (kF.init A N) 0 r a om om
  rwa [iK]at this
 refine aM (fun O S=>∃row:Nat,row<=n+n+1/\O 3=.ptr 1 b3 0/\O 5=.ptr 2 b5 0/\O 6=.int .i64 row/\IV S0 S b3 b5 bw (O 4) n N R top A row) (fun O S=>n+n+2-ca (O 6)) ?_ ?_
 ·simp -dsimp only[go_sem,aa,c1];rw[kZ];exact⟨0,om,rfl,0,_,1,_,hInit _ _ rfl (by simp[bJ]),bQ ⟨id,om,om,hIQ,by simp[det],fun r h1 h2=>om,fun i h=>om⟩⟩
 clear hIQ hInit e1 c1 u1 v1 u3 v3 uw vw ub vb hOS hS1 d3 a2 hE f5 s5 h35 h3w f1;rintro O S ⟨row,hrow,e3,e5,e6,kk,W,d,ls,hS,hV⟩;obtain⟨g3,u3,v3⟩:=id hS.pair;have x3:g3 0=.sl 1 bw 0 N:=v3 0 om;by_cases hkk:kk<N
 ·obtain⟨σ,k1,k2,hQ,hd,hz,hls⟩:=hV.resolve_right (fun h=>om)
  apply t9 (fun O' S'=>O' 3=.ptr 1 b3 0/\O' 4=O 4/\O' 5=.ptr 2 b5 0/\O' 6=.int .i64 row/\O' 7=.int .i64 kk/\O' 8=.int .i64 kk/\S'=S)
  ·intro key;rcases hS.list.2 with⟨h0,hx⟩|⟨e,_,hx,_⟩
   ·subst h0;have hN0:(0:Int)<(N:Int):=om
    simp -dsimp only[go_sem,aa,ae,↓reduceIte,reduceCtorEq,decide_true,ab,e3,e6,hx,u3,x3,hN0];refine key _ _ ?_;simp -dsimp only[go_sem,aa,e3,e5,e6,hx];exact⟨rfl,rfl⟩
   ·simp -dsimp only[go_sem,aa,ae,↓reduceIte,af,decide_true,ab,e3,e6,hx,u3,x3,hkk];refine key _ _ ?_;simp -dsimp only[go_sem,aa,e3,e5,e6,hx]
  generalize O 4=x at *;rintro O' S' ⟨e3',e4',e5',e6',e7',e8',rfl⟩;refine aM (fun O S=>∃j:Nat,kk<=j/\j<=N/\O 3=.ptr 1 b3 0/\O 4=x/\O 5=.ptr 2 b5 0/\O 6=.int .i64 row/\O 7=.int .i64 kk/\O 8=.int .i64 j/\Cv S0 S b3 b5 bw x N R kk top W d ls/\∀a,kk<=a->a<j->W a row=0) (fun O S=>N-ca (O 8)) ?_ ?_
  ·exact⟨kk,om,om,e3',e4',e5',e6',e7',e8',hS,fun a h1 h2=>om⟩
  clear e3' e4' e5' e6' e7' e8' e3 e5 e6 u3 v3 x3 hS;rintro O S ⟨j,hj1,hj2,e3,e4,e5,e6,e7,e8,hS,hzz⟩;obtain⟨g3,u3,v3⟩:=id hS.pair;have x3:g3 0=.sl 1 bw 0 N:=v3 0 om;obtain⟨c,hC⟩:=hS.cols;obtain⟨gw,uw,vw⟩:=id hC.outer;have hrR:row<R:=om
  by_cases hjN:j<N
  ·obtain⟨gc,uc,vc⟩:=id (hC.row j hjN);have xw:gw j=.sl 2 (c j) 0 R:=vw j hjN;have xc:gc row=.big (W j row):=vc row hrR;have nW:=hQ.b j row hjN hrR;simp -dsimp only[go_sem,aa,ae,↓reduceIte,af,decide_true,ab,e3,e6,e8,u3,x3,hjN,uw,xw,uc,xc,hrR];refine(jJ nW om).call ?_;by_cases hw0:W j row=0
   ·simp -dsimp only[go_sem,aa,ae,↓reduceIte,af,decide_true,ab,e3,e4,e5,e6,e7,e8,u3,x3,hjN,xw,xc,hw0,show(Int.sign 0==0)=true from rfl,a6 (om:j<1000000),ca]
    exact⟨⟨j+1,om,om,rfl,hS,fun a h1 h2=>by
     by_cases e:a=j
     ·rw[e];exact hw0
     ·exact hzz a h1 om⟩,om⟩
   ·have hs:((W j row).sign==0)=false:=by
     rw[beq_eq_false_iff_ne];intro h;exact hw0 (p9.1 h)
    have hjne:((j:Int)==(N:Int))=false:=by rw[beq_eq_false_iff_ne];omega
    simp -dsimp only[go_sem,aa,ae,↓reduceIte,af,decide_true,ab,e3,e4,e5,e6,e7,e8,u3,x3,hjN,xw,xc,hs,hjne];refine(xD S bw c N R kk j W hkk hjN hC).mono ?_;rintro _ S1 ⟨⟨c',hC'⟩,hK⟩;have hS1:=hS.keep hK hC';have hQ1:=hQ.swap hj1 hjN;have hd1:det kk (fun x y=>A x (σ (dU kk j y)))=d:=by
     rw[hd];exact bF fun a y _ hy=>by rw[show dU kk j y=y by unfold dU;rw[if_neg om,if_neg om]]
    have hpv:W (dU kk j kk) row≠0:=by unfold dU;rw[if_pos rfl];exact hw0
    obtain⟨W1,hW1⟩:∃W1:aW,W1=fun a=>W (dU kk j a):=⟨_,rfl⟩;obtain⟨σ1,hσ1⟩:∃σ1:Nat->Nat,σ1=fun a=>σ (dU kk j a):=⟨_,rfl⟩;rw[<-hW1]at hS1 hQ1;rw[<-hσ1]at hQ1
    replace hd1:det kk (fun x y=>A x (σ1 y))=d:=by rw[hσ1];exact hd1
    replace hpv:W1 kk row≠0:=by rw[hW1];exact hpv
    clear hW1 hσ1;have hIE:=hQ1.start hkk;have hd0:d≠0:=by rw[<-hd1];exact hIE.el.lead kk (ah _)
    have ndd:nb d 31:=by
     rw[<-hd1];by_cases e:kk=0
     ·rw[e];simp only[det];exact nb.one om
     ·have:=hB σ1 kk hIE.el (kk-1) 0 0 om om;rw[c8,(om:kk-1+1=kk)]at this
      exact this
    clear u3 v3 x3 uw vw xw uc vc xc hS hC hK hC';obtain⟨g3,u3,v3⟩:=id hS1.pair;have x3:g3 0=.sl 1 bw 0 N:=v3 0 om;simp -dsimp only[go_sem,aa,↓reduceIte,e7,e8,a6 (om:kk<1000000)]
    refine aM (fun O S=>∃t:Nat,kk+1<=t/\t<=N/\O 3=.ptr 1 b3 0/\O 4=x/\O 5=.ptr 2 b5 0/\O 6=.int .i64 row/\O 7=.int .i64 kk/\O 9=.int .i64 t/\EV S0 S b3 b5 bw x N R kk top d ls A t σ1 row) (fun O S=>N-ca (O 9)) ?_ ?_
    ·simp -dsimp only[go_sem,aa,e3,e4,e5,e6,e7];exact⟨kk+1,om,om,rfl,W1,hS1,hIE,hpv⟩
    clear e3 e4 e5 e6 e7 e8 hS1 hIE hQ1 u3 v3 x3 hpv hzz hw0 hs hjne nW hQ hd;rintro O S ⟨t,ht1,ht2,e3,e4,e5,e6,e7,e9,W2,hS2,hIE,hpv⟩;obtain⟨g3,u3,v3⟩:=id hS2.pair;have x3:g3 0=.sl 1 bw 0 N:=v3 0 om;obtain⟨g5,u5,x5⟩:=id hS2.var;by_cases htt:t<N
    ·have hrk:row=kk:=om
     obtain⟨c2,hC2⟩:=hS2.cols;simp -dsimp only[go_sem,aa,ae,↓reduceIte,reduceCtorEq,af,decide_true,ab,e3,e4,e5,e6,e7,e9,u3,x3,u5,x5,htt];refine(rl S bw c2 N R kk t row W2 d hkk htt hrR om hd0 ndd hIE.b hC2).mono ?_;rintro _ S3 ⟨⟨c3,hC3⟩,hK3⟩;have hst:=hIE.step om htt om (fun i c h1 h2=>hB σ1 kk hIE.el (kk+1) i c h1 h2);rw[hd1]at hst;rw[hrk]at hC3;simp -dsimp only[go_sem,aa,↓reduceIte,e3,e4,e5,e6,e7,e9,a6 (om:t<1000000),ca]
     exact⟨⟨t+1,om,om,rfl,_,hS2.keep hK3 hC3,hst,by rw[if_neg om];exact hpv⟩,om⟩
    have htN:N=t:=om
    obtain⟨c2,hC2⟩:=hS2.cols;obtain⟨gw,uw,vw⟩:=id hC2.outer;obtain⟨gc,uc,vc⟩:=id (hC2.row kk hkk);have xw:gw kk=.sl 2 (c2 kk) 0 R:=vw kk hkk;have xc:gc row=.big (W2 kk row):=vc row hrR;simp -dsimp only[go_sem,aa,ae,↓reduceIte,reduceCtorEq,af,decide_false,ab,e3,e4,e5,e6,e7,e9,u3,x3,u5,x5,htt,uw,xw,uc,xc,hkk,hrR];have hS5:=hS2.setVar (z:=W2 kk row) (g:=g5) u5 om;refine aH.intro fun b9 f9=>?_;have hxb:=hS5.list.fresh f9;have hS6:=hS5.other f9 ⟨3,1,1,fun j=>[AV.int .i64 row].getD j .any⟩
    try simp -dsimp only[go_sem,aa,↓reduceIte,e4,e6]
    refine cG.app3 (v:=.int .i64 row) hS6.list (om:kk<1000000) (by simp[dI]) (bH ⟨_,_,_,rfl,bZ,rfl,fun h=>hxb _ h rfl⟩) ?_
    intro e S7 hX' hk1 _;have hS7:=hS6.app hX' hk1;simp -dsimp only[go_sem,aa,e3,e4,e5,e6,a6 (om:row<1000000),ca]
    refine⟨⟨row+1,om,rfl,kk+1,W2,W2 kk row,_,hS7,?_⟩,om⟩
    subst htN;by_cases hkn:kk<n
    ·have hrk:row=kk:=om
     have hp:=hIE.p kk (ah _) om;rw[bW]at hp;rw[hrk]at hpv ⊢;refine bQ ⟨σ1,om,om,hIE.done (by rw[<-hp];exact hpv),by rw[hp,c8],fun r h1 h2=>om,fun i hi=>?_⟩
     by_cases e:i=kk
     ·rw[if_pos e];exact e.symm
     ·rw[if_neg e];exact hls i om
    ·have hkn':kk=n:=om
     have hp:=hIE.p row om hrR;subst hkn';have hl:=hIE.el;rw[hN]at hl;have:=hl.last (R:=row) om;refine bH ⟨om,row,om,om,fun h0=>?_,fun i hi=>?_⟩
     ·rw[h0,<-hp]at this;exact hpv om
     ·unfold qN;by_cases e:i=kk
      ·rw[if_pos e,if_neg om]
      ·rw[if_neg e,if_pos om];exact hls i om
  ·have hjN':N=j:=om
   have hjeq:((j:Int)==(N:Int))=true:=by rw[beq_iff_eq];omega
   simp -dsimp only[go_sem,aa,ae,↓reduceIte,af,decide_false,ab,e3,e4,e5,e6,e7,e8,u3,x3,hjN,hjeq,a6 (om:row<1000000),ca]
   have hl:=hQ.el;rw[hN]at hl;have hkn:kk=n:=by
    refine Nat.le_antisymm om (Nat.le_of_not_lt fun hlt=>?_);refine hl.found (R:=n+n) hlt hdet fun a ha=>?_;have hrk:row=kk:=om
    have:=hQ.q (kk+a) kk om om (ah _) om;rw[bW,(om:kk+a-kk=a)]at this
    rw[<-this,<-hrk];exact hzz _ om om
   have hw:=hzz n om om;have hq:=hQ.q n row om om om hrR;have hlast:=hl.last (R:=row) om;subst hkn;rw[bW]at hq;refine⟨⟨row+1,om,rfl,kk,W,d,ls,hS,bQ ⟨σ,om,?_,hQ,hd,fun r h1 h2=>?_,hls⟩⟩,om⟩
   ·refine Nat.lt_of_le_of_ne k2 fun e=>hdet ?_;rw[<-e];rw[<-hq,hw]at hlast;simp only[Int.natAbs_zero]at hlast;omega
   ·by_cases e:r=row
    ·rw[e];exact hw
    ·exact hz r h1 om
 obtain⟨hkN,Rr,r1,r2,r3,r4⟩:=hV.resolve_left (fun⟨σ,h,_⟩=>om)
 subst hkN;rcases hS.list.2 with⟨h0,hx⟩|⟨e,he,hx,hh⟩
 ·omega
 simp -dsimp only[go_sem,aa,ae,↓reduceIte,af,decide_false,ab,e3,e6,hx,u3,x3,cA];exact⟨e,rfl,Rr,r1,r2,r3,hh.congr fun i hi=>by rw[r4 i hi],hS.list.1⟩
theorem H1{S:St}{b t e ty es N:Nat}{g0 g1:Nat->AV}{K:AV->St->Prop}(hb:S b=some ⟨ty,es,N,g0⟩)(ht:c9 t=some e)(he:es=bP e)(hN:0<N)(hs:∀j,j<N->dI es (g1 j))
  (hK:K (.int .i64 N) (S.upd b ⟨ty,es,N,fun j=>if 0<=j/\j<0+N then g1 (j-0)else g0 j⟩)):wD t (.sl es b 0 N) (.lst es N g1) S K:=by
 unfold wD qm;rw[ht];simp only[hb,wZ];exact⟨he,trivial,trivial,om,trivial,hN,hs,hK⟩
theorem eO.setRow{o e es:Nat}{S1 S:St}{b:Nat}{g:Nat->Nat}{n m k:Nat}{E:Nat->Nat->AV}(h:eO o e es S1 S b g n m k E)(hoe:o≠e){i:Nat}(hi:i<k){z z':Nat->AV}(hz:∀j,j<m->z j=z' j):eO o e es S1 (S.upd (g i) ⟨e,es,m,z⟩) b g n m k (fun a c=>if a=i then z' c else E a c):=by
 refine⟨h.ext.upd (h.rnew i hi) _,h.new,h.outer.upd (h.ne hoe hi) _,fun a ha=>?_,h.rnew,h.inj⟩;by_cases e:a=i
 ·subst e;simp only[if_true];exact bE.here hz
 ·simp only[e,if_false];exact(h.row a ha).upd (fun e2=>e (h.inj a i ha hi e2)) _
def DJ(A:aW)(n b b2 b8 b11:Nat)(S:St)(k:Nat)(neg:Bool)(i j:Nat):Prop:=∃(g σ:Nat->Nat) (B:aW),mZ A n σ neg k/\cZ S b g n n B/\(∀i,i<n->g i≠b2/\g i≠b8/\g i≠b11)/\dl S b2 50 2 (.big 0)/\dl S b8 50 2 (.big (det k (fun a c=>A (σ a) c)))/\dl S b11 50 2 (.big (cP (fun a c=>A (σ a) c) k 0 0))/\b8≠b2/\b11≠b2/\b11≠b8/\DC A n k i j σ B
theorem DJ.of{A:aW}{n b b2 b8 b11:Nat}{S:St}{k p:Nat}{neg:Bool}{g σ:Nat->Nat}{B:aW}{X:dH}{z:Nat->AV}(hE:mZ A n σ neg k)(hkp:k<p)(hlt:k<n)(hp:p<n)(hD:cZ (S.upd b X) b (fun i=>g (dU k p i)) n n (fun i j=>B (dU k p i) j))(hG:∀i,i<n->g i≠b2/\g i≠b8)
  (V2:dl S b2 50 2 (.big 0)) (V5:dl S b8 50 2 (.big (det k (fun a c=>A (σ a) c)))) (hb2:b≠b2) (hb8:b≠b8) (h28:b2≠b8) (f11:S b11=ac) (hM:cZ S b g n n B) (hQ:Im A n k σ B) (hBpk:B p k=cP (fun a c=>A (σ a) c) k (p-k) 0) (h0:B p k≠0) (hz:z 0=.big (B p k):=by rfl) :
  DJ A n b b2 b8 b11 ((S.upd b X).upd b11 ⟨50,2,1,z⟩) k (!neg) (k+1) (k+1):=by
 have hs:∀i,i<n->dU k p i<n:=fun i hi=>by unfold dU;split<;>(try split)<;>omega
 have n1:b≠b11:=bE.fresh hM.outer f11;have n2:b2≠b11:=V2.fresh f11;have n8:b8≠b11:=V5.fresh f11;have ng:∀i,i<n->g i≠b11:=fun i hi=>bE.fresh (hM.row i hi) f11;have e0:=tW (k:=k) (p:=p) (fun a c=>A (σ a) c) om 0 0;rw[show dU 0 (p-k) 0=p-k by simp[dU],<-hBpk]at e0
 refine⟨_,fun a=>σ (dU k p a),_,hE.swap hkp hp,hD.upd n1 (fun i hi=>ng _ (hs i hi)) _,fun i hi=>⟨(hG _ (hs i hi)).1,(hG _ (hs i hi)).2,ng _ (hs i hi)⟩,(V2.upd (ao hb2) _).upd n2 _,?_,?_,ao h28,ao n2,ao n8,?_,fun a c ha1 ha2 hc1 hc2=>?_⟩
 ·have e:=uV (n:=k) (fun a c=>A (σ a) c) (i:=k) (k:=p) om om;rw[e];exact(V5.upd (ao hb8) _).upd n8 _
 ·rw[e0];exact dl.new hz
 ·rw[e0];exact h0
 ·rw[if_neg om];have e:=tW (k:=k) (p:=p) (fun a c=>A (σ a) c) om (a-k) (c-k);show B (dU k p a) c=_;rw[e,hQ (dU k p a) c (by unfold dU;split<;>(try split)<;>omega) (hs a ha2) hc1 hc2]
  congr 1;unfold dU;split<;>(try split)<;>(try split)<;>(try split)<;>omega
theorem DJ.of0{A:aW}{n b b2 b8 b11:Nat}{S:St}{k:Nat}{neg:Bool}{g σ:Nat->Nat}{B:aW}{z:Nat->AV}(hE:mZ A n σ neg k)(hlt:k<n)(hM:cZ S b g n n B)(hG:∀i,i<n->g i≠b2/\g i≠b8)
  (V2:dl S b2 50 2 (.big 0)) (V5:dl S b8 50 2 (.big (det k (fun a c=>A (σ a) c)))) (h28:b2≠b8) (f11:S b11=ac) (hQ:Im A n k σ B) (h0:B k k≠0) (hz:z 0=.big (B k k):=by rfl) :
  DJ A n b b2 b8 b11 (S.upd b11 ⟨50,2,1,z⟩) k neg (k+1) (k+1):=by
 have n1:b≠b11:=bE.fresh hM.outer f11;have n2:b2≠b11:=V2.fresh f11;have n8:b8≠b11:=V5.fresh f11;have ng:∀i,i<n->g i≠b11:=fun i hi=>bE.fresh (hM.row i hi) f11;have e0:=hQ k k (ah _) hlt (ah _) hlt;rw[bW]at e0;refine⟨g,σ,B,hE,hM.upd n1 ng _,fun i hi=>⟨(hG i hi).1,(hG i hi).2,ng i hi⟩,V2.upd n2 _,V5.upd n8 _,?_,ao h28,ao n2,ao n8,?_,fun a c ha1 ha2 hc1 hc2=>?_⟩
 ·rw[<-e0];exact dl.new hz
 ·rw[<-e0];exact h0
 ·rw[if_neg om];exact hQ a c ha1 ha2 hc1 hc2
theorem wc(n:Nat)(A:aW)(h1:1<=n)(h2:n<=16)(hd:det n A≠0)(hB:∀σ neg k,mZ A n σ neg k->∀k' i j,k'+i<n->k'+j<n->nb (cP (fun a b=>A (σ a) b) k' i j) 31):PF 130 [aZ n n A] (.big (det n A)):=by
 refine PF.of_spec (aD func130 rfl 149 ntmps130 kr sm (by simp[results130]) ?_)
 rw[aQ,results130];simp -dsimp only[go_sem,aZ,bn];refine aH.intro fun b2 f2=>?_;simp -dsimp only[go_sem,reduceCtorEq]
 repeat refine an ?_
 refine aH.intro fun bb fb=>?_;have nb_2:=(ai fb).1;simp -dsimp only[go_sem];have hn2:bb≠b2:=nb_2;refine aM (fun O S=>∃i:Nat,i<=n/\O 2=.ptr 2 b2 0/\O 3=.int .i64 n/\O 4=.sl 1 bb 0 n/\O 19=aZ n n A/\O 20=.int .i64 n/\O 21=.int .i64 i/\∃g',eO 59 50 2 (St.none.upd b2 ⟨50,2,1,fun _=>.big 0⟩) S bb g' n n i (fun a c=>.big (A a c))) (fun O S=>n-ca (O 21)) ?_ ?_
 ·simp -dsimp only[go_sem,aa,aZ,bn];exact⟨0,om,rfl,fun _=>0,eO.init fb (fun _ _=>rfl) _ _⟩
 rintro O S ⟨i,hi,e2,e3,e4,e19,e20,e21,g',hR⟩;by_cases hlt:i<n
 ·obtain⟨g4,u4,v4⟩:=id hR.outer;simp -dsimp only[go_sem,aa,ae,↓reduceIte,af,decide_true,ab,e3,e4,e19,e20,e21,hlt,aZ,bn]
  repeat refine an ?_
  refine aH.intro fun bd fd=>?_;have hdc:bb≠bd:=bE.fresh hR.outer fd;simp -dsimp only[go_sem,hlt,u4,hdc,ed];have hR1:=hR.push dc fd u4 (fun _=>.big 0)
  generalize hgg:(fun a=>if a=i then bd else g' a)=gg at hR1
  have hgi:gg i=bd:=by rw[<-hgg];simp
  refine H1 (e:=50) (by rw[aP (ao hdc)];exact bZ) rfl rfl om (fun j _=>trivial) ?_
  simp -dsimp only[go_sem,aa,↓reduceIte,e2,e3,e4,e19,e20,e21,aZ,bn,a6 (om:i<1000000),ca]
  have hR2:=fun(z:Nat->AV) hz=>hR1.setRow dc (om:i<i+1) (z:=z) (z':=fun j=>.big (A i j)) hz
  simp only[hgi]at hR2;refine⟨⟨i+1,om,rfl,gg,(hR2 _ ?_).congr fun a c _ _=>?_⟩,om⟩
  ·intro j hj;simp[hj]
  ·by_cases e:a=i
   ·simp[e]
   ·simp[e]
 have hni:n=i:=om
 subst hni;have hM:=hR.mat (A:=A) (fun _ _ _ _=>rfl);simp -dsimp only[go_sem,aa,ae,↓reduceIte,af,decide_false,ab,e3,e4,e19,e20,e21,cA];refine(jw dc dc).call ?_
 simp -dsimp only[go_sem];refine aH.intro fun b8 f8=>?_
 try simp -dsimp only[go_sem,aa,↓reduceIte,e3]
 have hb2:bb≠b2:=nb_2;have hg2:∀i,i<n->g' i≠b2:=fun i hi e=>by have:=hM.2.2.2 i hi;rw[e,bZ]at this;cases this
 have h28:b2≠b8:=fun e=>by have:=hM.2.1 b2 _ bZ;rw[e,f8]at this;cases this
 have hb8:bb≠b8:=bE.fresh hM.1.outer f8;have hg8:∀i,i<n->g' i≠b8:=fun i hi=>bE.fresh (hM.1.row i hi) f8;refine aM (fun O S=>∃(k:Nat) (neg:Bool),k<=n/\O 2=.ptr 2 b2 0/\O 3=.int .i64 n/\O 4=.sl 1 bb 0 n/\O 7=.bool neg/\O 8=.ptr 2 b8 0/\O 39=.int .i64 n/\O 40=.int .i64 k/\xP A n bb b2 b8 S k neg (Im A n k)) (fun O S=>n-ca (O 40)) ?_ ?_
 ·simp -dsimp only[go_sem,aa,e2,e3,e4];refine⟨0,om,false,rfl,rfl,g',id,A,mZ.init A n,(hM.1.upd hb8 hg8 _).upd hb8 hg8 _,fun i hi=>⟨hg2 i hi,hg8 i hi⟩,?_,dl.set,fun i j _ _ _ _=>by rw[iK];rfl⟩
  exact(dl.upd ⟨_,hM.2.1 b2 _ bZ,rfl⟩ h28 _).upd h28 _
 clear hM hR e2 e3 e4 e19 e20 e21 f8 hg2 hg8;rintro O S ⟨k,neg,hkn,e2,e3,e4,e7,e8,e39,e40,hD⟩;by_cases hlt:k<n
 ·simp -dsimp only[go_sem,aa,ae,↓reduceIte,af,decide_true,ab,e7,e8,e39,e40,hlt];refine aM (fun O S=>∃p:Nat,k<=p/\p<=n/\O 2=.ptr 2 b2 0/\O 3=.int .i64 n/\O 4=.sl 1 bb 0 n/\O 7=.bool neg/\O 8=.ptr 2 b8 0/\O 9=.int .i64 k/\O 10=.int .i64 p/\O 39=.int .i64 n/\O 40=.int .i64 k/\xP A n bb b2 b8 S k neg (StgP A n k p)) (fun O S=>n-ca (O 10)) ?_ ?_
  ·simp -dsimp only[go_sem,aa,e2,e3,e4,e7,e8,e39,e40];obtain⟨g,σ,B,hE,hM,hG,V2,V5,hBq⟩:=hD;exact⟨k,om,om,rfl,g,σ,B,hE,hM,hG,V2,V5,hBq,fun i h1 h2=>om⟩
  clear hD e2 e3 e4 e7 e8 e39 e40;rintro O S ⟨p,hkp,hpn,e2,e3,e4,e7,e8,e9,e10,e39,e40,g,σ,B,hE,hM,hG,V2,V5,hQ,hZ⟩;have hp:p<n:=by
   refine Nat.lt_of_le_of_ne hpn fun e=>hd (hE.zero hlt fun i hi=>?_);have:=hQ (k+i) k om om (ah _) hlt;rw[bW,(om:k+i-k=i)]at this
   rw[<-this];exact hZ _ om om
  obtain⟨g1,u1,v1⟩:=hM.outer;obtain⟨g2,u2,v2⟩:=hM.row p hp;have v1':g1 p=.sl 2 (g p) 0 n:=v1 p hp;have v2':g2 k=.big (B p k):=v2 k hlt;have hbp:=hB σ neg k hE k (p-k) 0 om om;have hBpk:=hQ p k hkp hp (ah _) hlt;rw[bW]at hBpk;rw[<-hBpk]at hbp;simp -dsimp only[go_sem,aa,ae,↓reduceIte,af,decide_true,ab,e3,e4,e9,e10,hp,hlt,u1,u2,v1',v2'];refine(jJ hbp om).call ?_;by_cases h0:B p k=0
  ·simp -dsimp only[go_sem,aa,↓reduceIte,af,decide_true,ab,e2,e3,e4,e7,e8,e9,e10,e39,e40,hp,hlt,h0,nh,a6 (om:p<1000000),ca]
   refine⟨⟨p+1,om,om,rfl,g,σ,B,hE,hM,hG,V2,V5,hQ,fun i h1 h2=>?_⟩,om⟩
   by_cases e:i=p
   ·rw[e];exact h0
   ·exact hZ i h1 om
  have hs0:((B p k).sign==0)=false:=by
   simp only[beq_eq_false_iff_ne,ne_eq];rw[p9];exact h0
  have hpn':((p:Int)==n)=false:=by simp;omega
  apply t9 (fun O S=>∃(neg:Bool) (b11:Nat),O 2=.ptr 2 b2 0/\O 3=.int .i64 n/\O 4=.sl 1 bb 0 n/\O 7=.bool neg/\O 8=.ptr 2 b8 0/\O 9=.int .i64 k/\O 11=.ptr 2 b11 0/\O 12=.int .i64 ((k+1:Nat):Int)/\O 39=.int .i64 n/\O 40=.int .i64 k/\DJ A n bb b2 b8 b11 S k neg (k+1) (k+1))
  ·intro key;by_cases hkp':k<p
   ·have v3':g1 k=.sl 2 (g k) 0 n:=v1 k hlt;have hne:((p:Int) != (k:Int))=true:=by simp;omega
    simp -dsimp only[go_sem,aa,↓reduceIte,af,decide_true,ab,e2,e3,e4,e7,e8,e9,e10,e39,e40,hp,hlt,hs0,hpn',hne];refine io 13 kr ?_
    have y1:bJ (bJ g1 k (.sl 2 (g p) 0 n)) p (.sl 2 (g k) 0 n) k=.sl 2 (g p) 0 n:=by simp[bJ,(om:¬k=p)]
    have hgp:g p≠bb:=ao (hM.outer_ne hp);simp -dsimp only[go_sem,aa,↓reduceIte,af,ab,e4,e7,e9,e10,hp,hlt,u1,v1',v3',y1,hgp,u2,v2'];refine aH.intro fun b11 f11=>?_;simp -dsimp only[go_sem,aa,ae,↓reduceIte,ab,e4,e7,e9,v2'];refine key _ _ ?_;simp -dsimp only[go_sem,aa,e2,e3,e4,e8,e9,e39,e40,a6 (om:k<1000000)]
    refine⟨!neg,rfl,b11,rfl,?_⟩;rw[kZ,kZ];have f11':S b11=ac:=by rw[kZ]at f11;exact(ai f11).2
    have hs:∀i,i<n->dU k p i<n:=fun i hi=>by unfold dU;split<;>(try split)<;>omega
    have hsw:∀i,dU p k i=dU k p i:=fun i=>by unfold dU;split<;>(try split)<;>(try split)<;>omega
    have hD:=hM.swap hlt hp om u1;simp only[hsw]at hD;exact DJ.of hE hkp' hlt hp hD hG V2 V5 hb2 hb8 h28 f11' hM hQ hBpk h0
   have hpk:p=k:=om
   subst hpk;have hne:((p:Int) != (p:Int))=false:=by simp
   simp -dsimp only[go_sem,aa,↓reduceIte,af,decide_true,ab,e2,e3,e4,e7,e8,e9,e10,e39,e40,hp,hs0,hpn',hne,u1,v1',u2,v2',a6 (om:p<1000000)]
   refine aH.intro fun b11 f11=>?_;simp -dsimp only[go_sem,aa,ae,↓reduceIte,ab,e4,e9,v2'];refine key _ _ ?_;simp -dsimp only[go_sem,aa,e2,e3,e4,e7,e8,e9,e39,e40,a6 (om:p<1000000)]
   refine⟨neg,rfl,b11,rfl,?_⟩;rw[kZ];exact DJ.of0 hE hlt hM hG V2 V5 h28 f11 hQ h0
  clear e2 e3 e4 e7 e8 e9 e10 e39 e40 hZ hQ V2 V5 hG hM u1 v1 u2 v2 v1' v2' hbp hBpk h0 hs0 hpn' hE;rintro O S ⟨neg,b11,e2,e3,e4,e7,e8,e9,e11,e12,e39,e40,hD⟩;refine aM (fun O S=>∃i:Nat,k+1<=i/\i<=n/\O 2=.ptr 2 b2 0/\O 3=.int .i64 n/\O 4=.sl 1 bb 0 n/\O 7=.bool neg/\O 8=.ptr 2 b8 0/\O 9=.int .i64 k/\O 11=.ptr 2 b11 0/\O 12=.int .i64 i/\O 39=.int .i64 n/\O 40=.int .i64 k/\DJ A n bb b2 b8 b11 S k neg i (k+1)) (fun O S=>n-ca (O 12)) ?_ ?_
  ·exact⟨k+1,om,om,e2,e3,e4,e7,e8,e9,e11,e12,e39,e40,hD⟩
  clear e2 e3 e4 e7 e8 e9 e11 e12 e39 e40 hD;rintro O S ⟨i,hki,hin,e2,e3,e4,e7,e8,e9,e11,e12,e39,e40,hD⟩;by_cases hi:i<n
  ·simp -dsimp only[go_sem,aa,↓reduceIte,af,decide_true,ab,e2,e3,e4,e7,e8,e9,e11,e12,e39,e40,hi,a6 (om:k<1000000)]
   refine aM (fun O S=>∃j:Nat,k+1<=j/\j<=n/\O 2=.ptr 2 b2 0/\O 3=.int .i64 n/\O 4=.sl 1 bb 0 n/\O 7=.bool neg/\O 8=.ptr 2 b8 0/\O 9=.int .i64 k/\O 11=.ptr 2 b11 0/\O 12=.int .i64 i/\O 13=.int .i64 j/\O 39=.int .i64 n/\O 40=.int .i64 k/\DJ A n bb b2 b8 b11 S k neg i j) (fun O S=>n-ca (O 13)) ?_ ?_
   ·simp -dsimp only[go_sem,aa,e2,e3,e4,e7,e8,e9,e11,e12,e39,e40];exact⟨k+1,om,om,rfl,hD⟩
   clear e2 e3 e4 e7 e8 e9 e11 e12 e39 e40 hD;rintro O S ⟨j,hkj,hjn,e2,e3,e4,e7,e8,e9,e11,e12,e13,e39,e40,hD⟩;by_cases hj:j<n
   ·obtain⟨g,σ,B,hE,hM,hG,V2,V5,V11,n1,n2,n3,h00,hBe⟩:=hD;obtain⟨g1,u1,v1⟩:=hM.outer;obtain⟨g2,u2,v2⟩:=hM.row i hi;obtain⟨g3,u3,v3⟩:=hM.row k hlt;obtain⟨gp,up',vp⟩:=id V11;have w1:g1 i=.sl 2 (g i) 0 n:=v1 i hi;have w2:g1 k=.sl 2 (g k) 0 n:=v1 k hlt;have w3:g2 j=.big (B i j):=v2 j hj;have w4:g2 k=.big (B i k):=v2 k hlt;have w5:g3 j=.big (B k j):=v3 j hj;have c1:=hBe i j om hi om hj;have c2:=hBe i k om hi (ah _) hlt;have c3:=hBe k j (ah _) hlt om hj;rw[if_neg om]at c1 c2 c3;rw[bW]at c2 c3;have m1:=hB σ neg k hE k (i-k) (j-k) om om;have m2:=hB σ neg k hE k (i-k) 0 om om;have m3:=hB σ neg k hE k 0 (j-k) om om;have m4:=hB σ neg k hE k 0 0 om om;rw[<-c1]at m1;rw[<-c2]at m2;rw[<-c3]at m3;have m5:nb (det k (fun a c=>A (σ a) c)) 31:=by
     by_cases e:k=0
     ·rw[e];simp only[det];exact nb.one om
     ·have:=hB σ neg k hE (k-1) 0 0 om om;rw[c8,(om:k-1+1=k)]at this
      exact this
    have hst:=ju hE.lead (i-k-1) (j-k-1);rw[(om:i-k-1+1=i-k),(om:j-k-1+1=j-k),<-c1,<-c2,<-c3]at hst
    have hd0:=hE.lead k (ah _);generalize hpv:cP (fun a c=>A (σ a) c) k 0 0=pv at *;have hq:(pv*B i j-B i k*B k j)/det k (fun a c=>A (σ a) c)=cP (fun a c=>A (σ a) c) (k+1) (i-k-1) (j-k-1):=by
     rw[hst,cV _ hd0]
    simp -dsimp only[go_sem,aa,↓reduceIte,af,decide_true,ab,e2,e3,e4,e7,e8,e9,e11,e12,e13,e39,e40,hj];refine bM 26 kr ?_
    simp -dsimp only[go_sem,aa,ae,↓reduceIte,af,ab,e4,e9,e11,e12,e13,hi,hj,hlt,u1,w1,w2,u2,u3,w3,w4,w5,up',vp];refine⟨_,(n9 m4 m1 om).pure',_,(n9 m2 m3 om).pure',_,(zq (m4.mul m1) (m2.mul m3) om).pure',?_⟩;refine aH.intro fun b14 f14=>?_
    try simp -dsimp only[go_sem,aa,ae,↓reduceIte]
    have q1:bb≠b14:=bE.fresh hM.outer f14;have q2:∀a,a<n->g a≠b14:=fun a ha=>bE.fresh (hM.row a ha) f14;have q3:b2≠b14:=V2.fresh f14;have q4:b8≠b14:=V5.fresh f14;have q5:b11≠b14:=V11.fresh f14;refine mK (fun T=>cZ T bb g n n B/\dl T b2 50 2 (.big 0)/\dl T b8 50 2 (.big (det k (fun a c=>A (σ a) c)))/\dl T b11 50 2 (.big pv)/\dl T b14 50 2 (.big (pv*B i j-B i k*B k j))) ?_ ?_
    ·refine⟨(hM.upd q1 q2 _).upd q1 q2 _,(V2.upd q3 _).upd q3 _,(V5.upd q4 _).upd q4 _,(V11.upd q5 _).upd q5 _,?_⟩;simp only[dl.at_hit,bJ,if_true]
    clear hM V2 V5 V11 u1 v1 u2 v2 u3 v3 up' vp w1 w2 w3 w4 w5;rintro T ⟨hM,V2,V5,V11,V14⟩;obtain⟨g1,u1,v1⟩:=hM.outer;obtain⟨g2,u2,v2⟩:=hM.row i hi;obtain⟨g8,u8,x8⟩:=id V5;obtain⟨g14,u14,x14⟩:=id V14;have w1:g1 i=.sl 2 (g i) 0 n:=v1 i hi;refine eL 13 [[10,11]] kr ?_
    simp -dsimp only[go_sem,aa,ae,↓reduceIte,reduceCtorEq,af,ab,e2,e3,e4,e7,e8,e9,e11,e12,e13,e39,e40,hi,hj,u1,w1,u2,u8,x8,u14,x14];refine⟨_,(mb (k:=63) ((m4.mul m1).sub (m2.mul m3)) (m5.mono om) om hd0).pure',?_⟩;rw[hq];simp -dsimp only[go_sem,a6 (om:j<1000000),ca]
    refine⟨⟨j+1,om,om,rfl,g,σ,_,hE,hM.set hi u2,hG,dl.upd V2 (ao (hG i hi).1) _,dl.upd V5 (ao (hG i hi).2.1) _,by rw[hpv];exact dl.upd V11 (ao (hG i hi).2.2) _,n1,n2,n3,by rw[hpv];exact h00,fun a c ha1 ha2 hc1 hc2=>?_⟩,om⟩
    have h3:=hBe a c ha1 ha2 hc1 hc2;simp only[eE];by_cases e1:a=i/\c=j
    ·obtain⟨rfl,rfl⟩:=e1;rw[if_pos ⟨rfl,rfl⟩,if_pos om,wO,wO]
    ·rw[if_neg e1,h3];by_cases e2:k<a/\k<c/\(a<i∨a=i/\c<j)
     ·rw[if_pos e2,if_pos om]
     ·rw[if_neg e2,if_neg om]
   have hnj:n=j:=om
   obtain⟨g,σ,B,hE,hM,hG,V2,V5,V11,n1,n2,n3,h00,hBe⟩:=hD;simp -dsimp only[go_sem,aa,↓reduceIte,af,decide_false,ab,e2,e3,e4,e7,e8,e9,e11,e12,e13,e39,e40,hj,a6 (om:i<1000000),ca]
   refine⟨⟨i+1,om,om,rfl,g,σ,B,hE,hM,hG,V2,V5,V11,n1,n2,n3,h00,fun a c ha1 ha2 hc1 hc2=>?_⟩,om⟩
   rw[hBe a c ha1 ha2 hc1 hc2];by_cases e2:k<a/\k<c/\(a<i∨a=i/\c<j)
   ·rw[if_pos e2,if_pos om]
   ·rw[if_neg e2,if_neg om]
  have hni:n=i:=om
  obtain⟨g,σ,B,hE,hM,hG,V2,V5,V11,n1,n2,n3,h00,hBe⟩:=hD;obtain⟨g8,u8,x8⟩:=id V5;obtain⟨gp,up',vp⟩:=id V11;simp -dsimp only[go_sem,aa,ae,↓reduceIte,af,decide_false,ab,e2,e3,e4,e7,e8,e9,e11,e12,e39,e40,hi,u8,up',vp,a6 (om:k<1000000),ca]
  refine⟨⟨k+1,om,neg,rfl,rfl,g,σ,B,hE.step h00,hM.upd hb8 (fun a ha=>(hG a ha).2.1) _,fun a ha=>⟨(hG a ha).1,(hG a ha).2.1⟩,V2.upd (ao n1) _,by rw[<-c8];exact dl.set,fun a c ha1 ha2 hc1 hc2=>?_⟩,om⟩
  rw[hBe a c om ha2 om hc2,if_pos om]
 have hnk:n=k:=om
 subst hnk;obtain⟨g,σ,B,hE,hM,hG,V2,V5,hQ⟩:=hD;obtain⟨g2,u2,x2⟩:=id V2;obtain⟨g8,u8,x8⟩:=id V5;have m5:nb (det n (fun a c=>A (σ a) c)) 31:=by
  have:=hB σ neg n hE (n-1) 0 0 om om;rw[c8,(om:n-1+1=n)]at this
  exact this
 have hdet:=hE.sign
 cases neg with
 | true =>
  simp -dsimp only[go_sem,aa,ae,↓reduceIte,af,decide_false,ab,e7,e8,e39,e40,cA,u8,x8];refine(qD m5 om).call ?_;simp -dsimp only[go_sem,aa,ae,↓reduceIte,ab,e2,u2,x8];have e:-det n (fun a c=>A (σ a) c)=det n A:=by rw[hdet];simp
  simp only[bJ,if_true];rw[e];exact VR.mf rfl
 | false =>
  simp -dsimp only[go_sem,aa,ae,↓reduceIte,af,decide_false,ab,e7,e8,e39,e40,cA,u8,x8];refine(pQ m5 om).call ?_;simp -dsimp only[go_sem,aa,ae,↓reduceIte,ab,e2,u2,x8];have e:det n (fun a c=>A (σ a) c)=det n A:=by rw[hdet];simp
  simp only[bJ,if_true];rw[e];exact VR.mf rfl
theorem Iw(n:Nat)(A:aW)(h1:1<=n)(h2:n<=16)(hd:det n A≠0)(hB:∀σ neg k,mZ A n σ neg k->∀k' i j,k'+i<n->k'+j<n->nb (cP (fun a b=>A (σ a) b) k' i j) 31):PF 79 [aZ n n A] (.tup [.big (det n A),.bool true]):=by
 refine PF.of_spec (aD func79 rfl 23 ntmps79 kr sm (by simp[results79]) ?_)
 rw[aQ,results79];simp -dsimp only[go_sem,aZ,bn];refine aH.intro fun b2 f2=>?_
 try simp -dsimp only[go_sem,aa,au,ae,reduceCtorEq]
 refine(jP n n A h1 h2 h1 h2).call ?_;simp -dsimp only[go_sem,aa,ae,↓reduceIte,reduceCtorEq,ab,show((n:Int) != n)=false by simp]
 refine(wc n A h1 h2 hd hB).call ?_;simp -dsimp only[go_sem,aa,ae,↓reduceIte,reduceCtorEq,ab,bJ];exact VR.tup (l:=[.big (det n A),.bool true]) (by simp[oG])
def gW(k0:Nat):Nat->Nat
 | 0=>k0
 | k+1=>gW k0 k+gW k0 k+60
theorem nH(k0:Nat):∀k,k0<=gW k0 k
 | 0=>ah _
 | k+1=>by have:=nH k0 k;simp only[gW];omega
theorem t8(k0:Nat)(hk:k0<=100):∀k,k<=8->gW k0 k<=50000:=by
 intro k hk2
 match k,hk2 with
 | 0,_=>simp only[gW];omega
 | 1,_=>simp only[gW];omega
 | 2,_=>simp only[gW];omega
 | 3,_=>simp only[gW];omega
 | 4,_=>simp only[gW];omega
 | 5,_=>simp only[gW];omega
 | 6,_=>simp only[gW];omega
 | 7,_=>simp only[gW];omega
 | 8,_=>simp only[gW];omega
theorem Et{n k:Nat}{A B:aW}(hn:n<=8)(hA:∀i j,i<n->j<n->nb (A i j) k)(hB:∀i j,i<n->j<n->nb (B i j) k){i j:Nat}(hi:i<n)(hj:j<n):nb (mm n A B i j) (k+k+8):=by
 have:=pR (f:=fun a=>A i a*B a j) (k:=k+k) n (fun a ha=>(hA i a hi ha).mul (hB a j ha hj));exact this.mono om
theorem GA{n k:Nat}{A:aW}(hn:n<=8)(hA:∀i j,i<n->j<n->nb (A i j) k):∀t,t<=n->nb (aE t (fun a=>A a a)) (k+8):=fun t ht =>
 (pR (f:=fun a=>A a a) (k:=k) t (fun a ha=>hA a a om om)).mono om
theorem z0{a b:Int}{k:Nat}(ha:nb a k):nb (a/b) (k+1):=by
 have h:(a/b).natAbs<=a.natAbs:=Int.natAbs_ediv_le_natAbs a b;exact(nb.of_le h ha).mono om
theorem vU{n k0:Nat}{M:aW}(hn:n<=8)(h1:1<=k0)(hM:∀i j,i<n->j<n->nb (M i j) k0):∀k i j,i<n->j<n->nb (pg n M k i j) (gW k0 k)
 | 0,i,j,_,_=>by
  simp only[pg,gW];split
  ·exact nb.one h1
  ·exact nb.zero _
 | k+1,i,j,hi,hj=>by
  have ih:=vU hn h1 hM k;have hb:=nH k0 k;have hX:∀i j,i<n->j<n->nb (mm n M (pg n M k) i j) (gW k0 k+gW k0 k+8):=fun i j hi hj=>Et hn (fun i j hi hj=>(hM i j hi hj).mono hb) ih hi hj;simp only[pg,gW];have h3:nb (if i=j then tr n (mm n M (pg n M k))/(-((k+1:Nat):Int))else 0) (gW k0 k+gW k0 k+17):=by
   split
   ·exact z0 (GA hn hX n (ah _))
   ·exact nb.zero _
  exact(((hX i j hi hj).mono om).add h3).mono om
theorem B7(n k0:Nat)(M:aW)(h1:1<=n)(hn:n<=8)(hk1:1<=k0)(hk:k0<=100)(hM:∀i j,i<n->j<n->nb (M i j) k0):MF 129 [aZ n n M] n n (lQ n M):=by
 refine MF.of ?_;refine aD func129 rfl 78 ntmps129 kr sm (by simp[results129]) ?_
 rw[aQ,results129];simp -dsimp only[go_sem,aa,ae,reduceCtorEq,ab,aZ,bn];refine(jw dc dc).call ?_
 simp -dsimp only[go_sem,aa,ae,ab];refine(Fb n 1 1 om (nb.one om) om _ _ (cH _ _)).mono ?_;rintro _ S1 ⟨b,g,rfl,hO,_⟩;simp -dsimp only[go_sem];refine aM (fun O S=>∃k:Nat,1<=k/\k<=n/\O 0=aZ n n M/\O 3=.int .i64 n/\O 5=.int .i64 k/\∃b,O 4=.sl 1 b 0 n/\∃g,cZ S b g n n (pg n M (k-1))) (fun O S=>n-ca (O 5)) ?_ ?_
 ·simp -dsimp only[go_sem,aa,reduceCtorEq,aZ,bn];exact⟨1,om,h1,rfl,b,rfl,g,hO⟩
 clear hO;rintro O S ⟨k,hk2,hkn,e0,e3,e5,b,e4,g,hO⟩;by_cases hlt:k<n
 ·have hbl:=t8 k0 hk (k-1) om;have hbm:=nH k0 (k-1);have hF:=vU hn hk1 hM (k-1);have hM2:∀i j,i<n->j<n->nb (M i j) (gW k0 (k-1)):=fun i j hi hj=>(hM i j hi hj).mono hbm;have hX:∀i j,i<n->j<n->nb (mm n M (pg n M (k-1)) i j) (gW k0 (k-1)+gW k0 (k-1)+8):=fun i j hi hj=>Et hn hM2 hF hi hj;simp -dsimp only[go_sem,aa,ae,↓reduceIte,reduceCtorEq,af,decide_true,ab,e0,e3,e4,e5,hlt,aZ,bn];refine(rX n n n (gW k0 (k-1)) M (pg n M (k-1)) h1 om h1 om h1 om hM2 hF om _ _ (dO.two (VA.refl _ _) hO.vr.va)).mono ?_;rintro _ S2 ⟨bc,g',rfl,hO2,_⟩;generalize hXe:mm n M (pg n M (k-1))=X at *;simp -dsimp only[go_sem,aa,reduceCtorEq,e0,e4];refine aH.intro fun b6 f6=>?_
  try simp -dsimp only[go_sem,aa,↓reduceIte,e3]
  have q1:bc≠b6:=bE.fresh hO2.outer f6;have q2:∀a,a<n->g' a≠b6:=fun a ha=>bE.fresh (hO2.row a ha) f6;refine aM (fun O S=>∃i:Nat,i<=n/\O 0=aZ n n M/\O 3=.int .i64 n/\O 4=.sl 1 bc 0 n/\O 5=.int .i64 k/\O 6=.ptr 2 b6 0/\O 29=.int .i64 n/\O 30=.int .i64 i/\cZ S bc g' n n X/\dl S b6 50 2 (.big (aE i fun a=>X a a))) (fun O S=>n-ca (O 30)) ?_ ?_
  ·simp -dsimp only[go_sem,aa,reduceCtorEq,e0,e3,e5];exact⟨0,om,rfl,(hO2.upd q1 q2 _).upd q1 q2 _,dl.set⟩
  clear hO2 e0 e3 e4 e5 f6 hO;rintro O S ⟨i,hi,e0,e3,e4,e5,e6,e29,e30,hO,V6⟩;obtain⟨g6,u6,x6⟩:=id V6;by_cases hit:i<n
  ·obtain⟨g1,u1,v1⟩:=hO.outer;obtain⟨g2,u2,v2⟩:=hO.row i hit;have x1:g1 i=.sl 2 (g' i) 0 n:=v1 i hit;have x2:g2 i=.big (X i i):=v2 i hit;simp -dsimp only[go_sem,aa,↓reduceIte,af,decide_true,e29,e30,hit];refine bM 9 kr ?_
   simp -dsimp only[go_sem,aa,ae,↓reduceIte,reduceCtorEq,af,ab,e0,e3,e4,e5,e6,e29,e30,hit,u1,x1,u2,x2,u6,x6,a6 (om:i<1000000),ca]
   exact⟨_,(sT (GA hn hX i om) ((hX i i hit hit).mono om) om).pure',trivial,⟨i+1,om,rfl,hO.upd q1 q2 _,dl.set⟩,om⟩
  have hni:n=i:=om
  simp -dsimp only[go_sem,aa,↓reduceIte,af,decide_false,e29,e30,hit];have wk:IntKind.i64.wrap (0-(k:Int))=-(k:Int):=by rw[Int.zero_sub];exact i64_in om om
  refine nJ 11 [[7,8],[8],[]] kr ?_
  simp -dsimp only[go_sem,aa,ae,↓reduceIte,ab,e5,e6,u6,x6,wk];have nt:=GA hn hX n (ah _);subst hni;refine⟨_,(jw om om).pure',_,(mb nt (b:=-(k:Int)) (by unfold nb;omega) om om).pure',?_⟩
  simp -dsimp only[go_sem];refine aH.intro fun b8 f8=>?_
  try simp -dsimp only[go_sem]
  refine aH.intro fun b9 f9=>?_;have n9_8:=(ai f9).1;simp -dsimp only[go_sem,aa,ae,↓reduceIte,e3,nn n9_8];have r1:bc≠b8:=bE.fresh hO.outer f8;have r2:∀a,a<n->g' a≠b8:=fun a ha=>bE.fresh (hO.row a ha) f8;have r3:bc≠b9:=bE.fresh hO.outer (ai f9).2;have r4:∀a,a<n->g' a≠b9:=fun a ha=>bE.fresh (hO.row a ha) (ai f9).2;generalize hq:(aE n fun a=>X a a) / -(k:Int)=q at *;have nq:nb q (gW k0 (k-1)+gW k0 (k-1)+17):=by rw[<-hq];exact z0 nt
  refine aM (fun O S=>∃i:Nat,i<=n/\O 0=aZ n n M/\O 3=.int .i64 n/\O 4=.sl 1 bc 0 n/\O 5=.int .i64 k/\O 8=.ptr 2 b8 0/\O 52=.int .i64 n/\O 53=.int .i64 i/\cZ S bc g' n n (fun a c=>X a c+if a=c/\a<i then q else 0)/\dl S b8 50 2 (.big q)) (fun O S=>n-ca (O 53)) ?_ ?_
  ·simp -dsimp only[go_sem,aa,↓reduceIte,reduceCtorEq,e0,e3,e4,e5];refine⟨0,om,rfl,rfl,cZ.congr (A:=X) ?_ (fun a c _ _=>by simp),?_⟩
   ·repeat' first|exact hO|refine cZ.upd ?_ (by assumption) (by assumption) _
   ·simp only[dl.at_hit,dl.at_miss,ne_eq,not_false_eq_true,bJ,if_true,ao n9_8]
  clear hO e0 e3 e4 e5 e6 e29 e30 f8 f9 hit V6 u6 x6;rintro O S ⟨i,hi,e0,e3,e4,e5,e8,e52,e53,hO,V8⟩;obtain⟨g8,u8,x8⟩:=id V8;by_cases hit:i<n
  ·obtain⟨g1,u1,v1⟩:=hO.outer;obtain⟨g2,u2,v2⟩:=hO.row i hit;have x1:g1 i=.sl 2 (g' i) 0 n:=v1 i hit;have x2:g2 i=.big (X i i):=(v2 i hit).trans sm
   simp -dsimp only[go_sem,aa,↓reduceIte,reduceCtorEq,af,decide_true,e0,e3,e4,e5,e52,e53,hit];refine bM 15 kr ?_
   simp -dsimp only[go_sem,aa,ae,↓reduceIte,reduceCtorEq,af,ab,e0,e3,e4,e5,e8,e52,e53,hit,u1,x1,u2,x2,u8,x8,a6 (om:i<1000000),ca]
   refine⟨_,(sT ((hX i i hit hit).mono om) nq om).pure',trivial,⟨i+1,om,rfl,(hO.set hit u2).congr fun a c _ _=>?_,V8.upd (ao (r2 i hit)) _⟩,om⟩
   simp only[eE];by_cases e:a=i/\c=i
   ·obtain⟨rfl,rfl⟩:=e;simp
   ·rw[if_neg e];by_cases e2:a=c/\a<i
    ·rw[if_pos e2,if_pos ⟨e2.1,om⟩]
    ·rw[if_neg e2,if_neg om]
  have hni:n=i:=om
  subst hni;simp -dsimp only[go_sem,aa,↓reduceIte,reduceCtorEq,af,decide_false,e0,e3,e4,e5,e52,e53,cA,a6 (om:k<1000000),ca]
  refine⟨⟨k+1,om,om,rfl,rfl,bc,rfl,g',hO.congr fun a c ha _=>?_⟩,om⟩
  rw[(om:k+1-1=(k-1)+1)]
  simp only[pg,hXe];congr 1;by_cases e:a=c
  ·rw[if_pos ⟨e,ha⟩,if_pos e,<-hq,show((k-1+1:Nat):Int)=(k:Int) by omega];rfl
  ·rw[if_neg (fun h=>e h.1),if_neg e]
 have hkn':n=k:=om
 subst hkn';have hF:=vU hn hk1 hM (n-1);have hbl:=t8 k0 hk (n-1) om;by_cases hev:n%2=0
 ·have hmod:(eA (n:Int) 2==0)=true:=by rw[aU om,beq_iff_eq];omega
  simp -dsimp only[go_sem,aa,ae,↓reduceIte,reduceCtorEq,af,decide_false,ab,e0,e3,e4,e5,cA,hmod,show ¬((2:Int)=0) by decide]
  refine(C1 n n _ (pg n M (n-1)) h1 om om hF om _ _ (dO.one hO.vr.va)).mono ?_;rintro _ S2 ⟨c,g',rfl,hO2,_⟩;simp -dsimp only[go_sem,aa];exact⟨c,rfl,g',hO2.congr fun a c _ _=>by simp[lQ,hev]⟩
 ·have hmod:(eA (n:Int) 2==0)=false:=by rw[aU om,beq_eq_false_iff_ne];omega
  simp -dsimp only[go_sem,aa,ae,↓reduceIte,reduceCtorEq,af,decide_false,ab,e0,e3,e4,e5,cA,hmod,show ¬((2:Int)=0) by decide]
  exact⟨b,rfl,g,hO.congr fun a c _ _=>by simp[lQ,hev]⟩
theorem AL(n k0:Nat)(M:aW)(h1:1<=n)(hn:n<=8)(hk1:1<=k0)(hk:k0<=100)(hM:∀i j,i<n->j<n->nb (M i j) k0):xN 78 [aZ n n M] n n (lQ n M):=by
 refine xN.of ?_;refine aD func78 rfl 22 ntmps78 kr sm (by simp[results78]) ?_
 rw[aQ,results78];simp -dsimp only[go_sem,aa,ae,reduceCtorEq,ab,aZ,bn];refine(jP n n M h1 om h1 om).call ?_;simp -dsimp only[go_sem,aa,ae,reduceCtorEq,ab,show((n:Int) != n)=false by simp]
 refine(B7 n k0 M h1 hn hk1 hk hM _ _ (cH _ _)).mono ?_;rintro _ S1 ⟨b,g,rfl,hO,_⟩;simp -dsimp only[go_sem,aa,reduceCtorEq];exact⟨b,rfl,g,hO⟩
def wM(A:aW)(n R:Nat):aW:=fun a b=>A (qN n R a) b
structure kV(n:Nat)(A:aW):Prop where
 h1:1<=n
 hn:n<=5
 hB:∀σ k,kF A (n+1) σ k->∀k' i j,k'+j<n+1->k'+i<n+n+1->nb (cP (fun x y=>A x (σ y)) k' i j) 31
 hdet:det (n+1) (wM A n (n+n))≠0
 hrow:∀R,n<=R->R<=n+n->det (n+1) (wM A n R)≠0->∀σ neg k,mZ (wM A n R) (n+1) σ neg k->∀k' i j,k'+i<n+1->k'+j<n+1->nb (cP (fun a b=>wM A n R (σ a) b) k' i j) 31
 hent:∀r j,r<n+n+1->j<n+1->nb (A r j) 31
structure FU(n:Nat)(A:aW)(R:Nat)(H U:aW):Prop where
 r1:n<=R
 r2:R<=n+n
 dt:det (n+1) (wM A n R)≠0
 tl:∃d M,TL (n+1) (gK (n+1) (n+1) (wM A n R)) d M/\M 0=((det (n+1) (wM A n R)).natAbs:Int)/\HI (n+1) (gK (n+1) (n+1) (wM A n R)) d M (n+1) (fun j r=>H r j)
 mu:∀i j,i<n+1->j<n+1->mm (n+1) (wM A n R) U i j=H i j
theorem kV.dlt{n:Nat}{A:aW}(h:kV n A){R:Nat}(h1:n<=R)(h2:R<=n+n)(hd:det (n+1) (wM A n R)≠0):(det (n+1) (wM A n R)).natAbs<2147483648:=by
 have:=h.hrow R h1 h2 hd id false 0 (mZ.init _ _) n 0 0 om om;rw[c8]at this;exact this
structure TF(S0 S:St)(b b1 b3 bu:Nat)(g gu:Nat->Nat)(n top:Nat)(A X:aW)(D:Int):Prop where
 cols:cZ S b g (n+1) (n+n+1) (fun j r=>A r j)
 pair:bE S b1 218 1 2 (GU b (n+1) top)
 var:dl S b3 50 2 (.big D)
 mat:cZ S bu gu (n+1) (n+1) X
 ext:eJ S0 S
 new:∀a,a<n+1->S0 (gu a)=ac
theorem TF.congr{S0 S:St}{b b1 b3 bu:Nat}{g gu:Nat->Nat}{n top:Nat}{A X Y:aW}{D:Int}(h:TF S0 S b b1 b3 bu g gu n top A X D)(he:∀a c,a<n+1->c<n+1->X a c=Y a c):TF S0 S b b1 b3 bu g gu n top A Y D:=⟨h.cols,h.pair,h.var,h.mat.congr he,h.ext,h.new⟩
theorem TF.other{S0 S:St}{b b1 b3 bu:Nat}{g gu:Nat->Nat}{n top:Nat}{A X:aW}{D:Int}(h:TF S0 S b b1 b3 bu g gu n top A X D){e:Nat}(he:S e=ac)(Z:dH):TF S0 (S.upd e Z) b b1 b3 bu g gu n top A X D :=
 ⟨h.cols.upd (bE.fresh h.cols.outer he) (fun a ha=>bE.fresh (h.cols.row a ha) he) _,h.pair.upd (bE.fresh h.pair he) _,h.var.upd (h.var.fresh he) _,h.mat.upd (bE.fresh h.mat.outer he) (fun a ha=>bE.fresh (h.mat.row a ha) he) _,h.ext.upd (h.ext.none he) _,h.new⟩
theorem TF.set{S0 S:St}{b b1 b3 bu:Nat}{g gu:Nat->Nat}{n top:Nat}{A X:aW}{D:Int}(h:TF S0 S b b1 b3 bu g gu n top A X D){i j:Nat}{z:Int}{g':Nat->AV}(hi:i<n+1)(hS:S (gu i)=some ⟨50,2,n+1,g'⟩)(hn:1<=n):TF S0 (S.upd (gu i) ⟨50,2,n+1,bJ g' j (.big z)⟩) b b1 b3 bu g gu n top A (eE X i j z) D:=by
 have hr:=h.mat.row i hi;refine⟨h.cols.upd (bE.ne h.cols.outer hr dc) (fun a ha e=>?_) _,h.pair.upd (bE.ne h.pair hr dc) _,h.var.upd (fun e=>?_) _,h.mat.set hi hS,h.ext.upd (h.new i hi) _,h.new⟩
 ·obtain⟨y,k,_⟩:=h.cols.row a ha;rw[e,hS]at k;have k':=congrArg (Option.map dH.n) k;simp only[dp,ef.injEq]at k';omega
 ·obtain⟨y,k,_⟩:=h.var;rw[e,hS]at k;cases k;omega
theorem uT(S0:St)(b n top:Nat)(g:Nat->Nat)(A:aW)(hP:kV n A)(hO:cZ S0 b g (n+1) (n+n+1) (fun j r=>A r j)) :
  cS 233 [.agg [.sl 1 b 0 (n+1),.int .i64 top]] S0 (fun _ S'=>(∃R H U,FU n A R H U/\∃g',cZ S' b g' (n+1) (n+n+1) (jN (n+1) (fun k r=>A r k) U))/\gI b S0 S'):=by
 refine g9 func233 rfl 65 ntmps233 kr sm ?_
 rw[aQ,results233];have h1:=hP.h1;have hn:=hP.hn;simp -dsimp only[go_sem,ak,reduceCtorEq,bG,aT,false_implies,implies_true];refine aH.intro fun b1 f1=>?_;refine mK (fun T=>bE T b1 218 1 2 (GU b (n+1) top)/\eJ S0 T) ?_ ?_
 ·refine⟨bE.here fun j hj=>?_,(eJ.refl S0).upd f1 _⟩
  match j,hj with
  | 0,_=>rfl
  | 1,_=>rfl
 rintro T ⟨hT1,hET⟩;have hOT:=hO.ext hET;obtain⟨g1,u1,v1⟩:=id hT1;have x0:g1 0=.sl 1 b 0 (n+1):=v1 0 om;have x1:g1 1=.int .i64 top:=v1 1 om;refine eL 3 [[0,1],[],[]] kr ?_
 simp -dsimp only[go_sem,aa,ae,↓reduceIte,ab,u1,x0,x1,dF];refine(sH T b g n (n+1) (n+n+1) top A hn h1 rfl rfl hOT.cols hP.hB hP.hdet).mono ?_;rintro _ S1 ⟨e,R,rfl,r1,r2,r3,hL,hE1⟩;obtain⟨g2,u2,v2⟩:=id (hE1.has hT1);have y0:g2 0=.sl 1 b 0 (n+1):=v2 0 om;simp -dsimp only[go_sem,aa,ae,↓reduceIte,ab,u2,y0];have hO1:=hOT.ext hE1;refine(tX (n+1) (n+n+1) (n+1) 31 (fun j r=>A r j) (qN n R) om om (fun i hi=>by unfold qN;split<;>omega) (fun c r hc hr=>hP.hent r c hr hc) om _ _ (dO.two hO1.vr.va (VR.sl hL om (fun a ha=>by rw[aF];exact VR.mf rfl)).va)).mono ?_
 rintro _ S2 ⟨bw,gw,rfl,hw,hE2,_,_⟩
 replace r3:det (n+1) (wM A n R)≠0:=r3
 replace hw:cZ S2 bw gw (n+1) (n+1) (wM A n R):=hw
 have hrow:=hP.hrow R r1 r2 r3;have hdl:=hP.dlt r1 r2 r3;have hwe:∀i j,i<n+1->j<n+1->nb (wM A n R i j) 31:=fun i j hi hj=>hP.hent _ _ (by unfold qN;split<;>omega) hj
 have hE02:eJ S0 S2:=(hET.trans hE1).trans hE2;have hp2:=(hE1.trans hE2).has hT1;simp -dsimp only[go_sem,aa,ae,ab];refine(Iw (n+1) (wM A n R) om om r3 hrow).spec (dO.one hw.vr.va) ?_;simp -dsimp only[go_sem,aa];refine aH.intro fun b3 f3=>?_
 try simp -dsimp only[go_sem,aa,au,ae,↓reduceIte]
 have s3:=hE02.none f3;have hNR:n+1≠1:=om
 refine Cg (fun T=>cZ T bw gw (n+1) (n+1) (wM A n R)/\dl T b3 50 2 (.big (det (n+1) (wM A n R)))/\eJ S0 T/\bE T b1 218 1 2 (GU b (n+1) top)) ?_ ?_
 ·have q1:bw≠b3:=bE.fresh hw.outer f3;have q2:∀a,a<n+1->gw a≠b3:=fun a ha=>bE.fresh (hw.row a ha) f3;have q3:b1≠b3:=bE.fresh hp2 f3;exact⟨(hw.upd q1 q2 _).upd q1 q2 _,dl.set,(hE02.upd s3 _).upd s3 _,(hp2.upd q3 _).upd q3 _⟩
 clear hw hE02 hp2 hE1 hE2 hL hO1 u2 v2 y0 u1 v1 x0 x1 hOT hT1 hET f3;rintro T3 ⟨hw,V3,hE03,hp3⟩;refine(AL (n+1) 31 (wM A n R) om om om om hwe _ _ (dO.one hw.vr.va)).mono ?_;rintro _ S4 ⟨ba,ga,rfl,hA4,hE4,_⟩;obtain⟨g3,u3,x3⟩:=id (V3.ext hE4);simp -dsimp only[go_sem,aa,ae,↓reduceIte,ab,u3,x3];have hw4:=hw.ext hE4;refine(uS (n+1) (wM A n R) om om (fun i j hi hj=>(hwe i j hi hj).mono om) r3 hdl _ _ (dO.two hw4.vr.va (VA.refl _ _))).mono ?_;rintro _ S5 ⟨bh,gh,H,rfl,⟨d,M,hTL,hM0,hHI⟩,hH5,hE5,_⟩;have hHr:∀i j,i<n+1->j<n+1->nb (H i j) 31:=fun i j hi hj=>by
  have:=hHI.rng hTL (ah _) (fun c r _ h1 h2=>om) hj hi
  unfold nb;omega
 have hAb:∀i j,i<n+1->j<n+1->nb (lQ (n+1) (wM A n R) i j) (gW 31 n):=fun i j hi hj=>by
  have:=vU om om hwe n i j hi hj;unfold lQ;split
  ·exact this.neg
  ·exact this
 have hbm:=nH 31 n;have hbl:=t8 31 om n om;obtain⟨U,hU1,hU2⟩:=Fr (N:=n+1) (w:=wM A n R) (H:=H) om (fun j hj=>hHI.mem j hj);simp -dsimp only[go_sem,aa,ae,↓reduceIte,ab];refine(rX (n+1) (n+1) (n+1) (gW 31 n) (lQ (n+1) (wM A n R)) H om om om om om om hAb (fun i j hi hj=>(hHr i j hi hj).mono hbm) om _ _ (dO.two (hA4.ext hE5).vr.va hH5.vr.va)).mono ?_;rintro _ S6 ⟨bu,gu,rfl,hU6,hE6,nu,nug⟩;have hE46:=(hE4.trans hE5).trans hE6;have hXb:∀i j,i<n+1->j<n+1->nb (mm (n+1) (lQ (n+1) (wM A n R)) H i j) (gW 31 n+gW 31 n+8):=fun i j hi hj=>Et om hAb (fun i j hi hj=>(hHr i j hi hj).mono hbm) hi hj;have hTF:TF S0 S6 b b1 b3 bu g gu n top A (fun a c=>det (n+1) (wM A n R)*U a c) (det (n+1) (wM A n R)):=⟨hO.ext (hE03.trans hE46),hE46.has hp3,V3.ext hE46,hU6.congr hU2,hE03.trans hE46,fun a ha=>((hE03.trans hE4).trans hE5).none (nug a ha)⟩;have hDb:∀a c,a<n+1->c<n+1->nb (det (n+1) (wM A n R)*U a c) (gW 31 n+gW 31 n+8):=fun a c ha hc=>by rw[<-hU2 a c ha hc];exact hXb a c ha hc
 have hTr:FU n A R H U:=⟨r1,r2,r3,⟨d,M,hTL,hM0,hHI⟩,hU1⟩;have hUb:∀a c,a<n+1->c<n+1->nb (U a c) (gW 31 n+gW 31 n+9):=fun a c ha hc=>by
  have:=z0 (b:=det (n+1) (wM A n R)) (hDb a c ha hc)
  rwa [cV _ r3]at this
 generalize hDe:det (n+1) (wM A n R)=D at *;clear hHI hTL hM0 hH5 hU6 hA4 hw4 hw V3 u3 x3 hE46 hE6 hE5 hE4 hE03 hp3 nu nug hU1 hU2 hXb hAb hHr hrow hwe;simp -dsimp only[go_sem,aa,↓reduceIte];refine aM (fun O S=>∃i:Nat,i<=n+1/\O 1=.ptr 1 b1 0/\O 3=.ptr 2 b3 0/\O 7=.sl 1 bu 0 (n+1)/\O 36=.sl 1 bu 0 (n+1)/\O 37=.int .i64 ((n+1:Nat):Int)/\O 38=.int .i64 i/\TF S0 S b b1 b3 bu g gu n top A (fun a c=>if a<i then U a c else D*U a c) D) (fun O S=>n+1-ca (O 38)) ?_ ?_
 ·simp -dsimp only[go_sem,aa];exact⟨0,om,rfl,hTF.congr fun a c _ _=>by simp⟩
 clear hTF;rintro O S ⟨i,hi,e1,e3,e7,e36,e37,e38,hS⟩;by_cases hit:i<n+1
 ·obtain⟨g1,u1,v1⟩:=hS.mat.outer;have x1:g1 i=.sl 2 (gu i) 0 (n+1):=v1 i hit;simp -dsimp only[go_sem,aa,ae,↓reduceIte,af,decide_true,ab,e1,e7,e36,e37,e38,hit,u1,x1];refine aM (fun O S=>∃j:Nat,j<=n+1/\O 1=.ptr 1 b1 0/\O 3=.ptr 2 b3 0/\O 7=.sl 1 bu 0 (n+1)/\O 10=.sl 2 (gu i) 0 (n+1)/\O 36=.sl 1 bu 0 (n+1)/\O 37=.int .i64 ((n+1:Nat):Int)/\O 38=.int .i64 i/\O 42=.sl 2 (gu i) 0 (n+1)/\O 43=.int .i64 ((n+1:Nat):Int)/\O 44=.int .i64 j/\TF S0 S b b1 b3 bu g gu n top A (fun a c=>if a<i∨(a=i/\c<j)then U a c else D*U a c) D) (fun O S=>n+1-ca (O 44)) ?_ ?_
  ·simp -dsimp only[go_sem,aa,e1,e3,e7,e36,e37,e38];exact⟨0,om,rfl,hS.congr fun a c _ _=>by simp⟩
  clear hS e1 e3 e7 e36 e37 e38 u1 v1 x1;rintro O S ⟨j,hj,e1,e3,e7,e10,e36,e37,e38,e42,e43,e44,hS⟩;by_cases hjt:j<n+1
  ·obtain⟨g2,u2,v2⟩:=hS.mat.row i hit;have x2:g2 j=.big (D*U i j):=(v2 j hjt).trans sm
   obtain⟨g3,u3,x3⟩:=id hS.var;simp -dsimp only[go_sem,aa,↓reduceIte,af,decide_true,ab,e1,e3,e7,e36,e37,e38,e42,e43,e44,hjt,u2];refine aH.intro fun b12 f12=>?_;have q1:b3≠b12:=hS.var.fresh f12;have q2:gu i≠b12:=bE.fresh (hS.mat.row i hit) f12;simp -dsimp only[go_sem,aa,ae,↓reduceIte,ab,e3,e10,e44,x2,u3,x3,q1,ed];refine(mb (hDb i j hit hjt) (by unfold nb;omega) om r3).call ?_
   rw[cV _ r3];simp -dsimp only[go_sem,aa,↓reduceIte,af,ab,e1,e3,e7,e10,e36,e37,e38,e42,e43,e44,hjt,u2,x3,q2,a6 (om:j<1000000),ca]
   refine⟨⟨j+1,om,rfl,?_⟩,om⟩
   rw[kZ];refine((hS.other f12 _).set hit (by rw[aP q2];exact u2) om).congr fun a c _ _=>?_
   simp only[eE];by_cases e:a=i/\c=j
   ·obtain⟨rfl,rfl⟩:=e;simp
   ·rw[if_neg e];by_cases e2:a<i∨(a=i/\c<j)
    ·rw[if_pos e2,if_pos om]
    ·rw[if_neg e2,if_neg om]
  have hnj:n+1=j:=om
  simp -dsimp only[go_sem,aa,↓reduceIte,af,decide_false,ab,e1,e3,e7,e36,e37,e38,e42,e43,e44,hjt,a6 (om:i<1000000),ca]
  refine⟨⟨i+1,om,rfl,hS.congr fun a c _ hc=>?_⟩,om⟩
  by_cases e2:a<i∨(a=i/\c<j)
  ·rw[if_pos e2,if_pos om]
  ·rw[if_neg e2,if_neg om]
 obtain⟨g1,u1,v1⟩:=id hS.pair;have x1:g1 0=.sl 1 b 0 (n+1):=v1 0 om;simp -dsimp only[go_sem,aa,ae,↓reduceIte,af,decide_false,ab,e1,e7,e36,e37,e38,hit,u1,x1];refine(CK S b bu g gu (n+1) (n+n+1) (gW 31 n+gW 31 n+40) (fun j r=>A r j) _ om om om (fun a r ha hr=>(hP.hent r a hr ha).mono om) (fun a r ha hr=>?_) om hS.cols hS.mat).mono ?_
 ·rw[if_pos om];exact(hUb a r ha hr).mono om
 rintro _ S7 ⟨⟨g',hO7⟩,hK7⟩;simp -dsimp only[go_sem];refine⟨⟨R,H,U,hTr,g',hO7.congr fun a r ha hr=>?_⟩,(gI.ext hS.ext).trans hK7⟩;unfold jN;exact aK fun k hk=>by dsimp only;rw[if_pos om]
theorem tI(n m:Nat)(A:aW)(h1:1<=n)(h2:n<=16)(h3:1<=m)(h4:m<=16):PF 210 [aZ n m A] (.tup [.int .i64 n,.int .i64 m,.bool true]):=by
 refine PF.of_spec (aD func210 rfl 10 ntmps210 kr sm (by simp[results210]) ?_)
 rw[aQ,results210];simp -dsimp only[go_sem,aa,ae,reduceCtorEq,ab,aZ,bn];refine(jP n m A h1 h2 h3 h4).call ?_;simp -dsimp only[go_sem,aa,reduceCtorEq];exact VR.tup (by simp[oG])
structure FS(S:St)(b b8:Nat)(g:Nat->Nat)(n i:Nat)(C:aW)(x y:AV):Prop where
 cols:cZ S b g (n+1) (n+n+1) C
 pair:bE S b8 218 1 2 (GU b (n+1) n)
 hx:cG 3 1 St.none S x (min i n) (fun a=>.int .i64 ((a:Nat):Int))
 hy:cG 3 1 St.none S y (i-n) (fun a=>.int .i64 ((n+a:Nat):Int))
 xy:∀d,dB x d->¬dB y d
theorem FS.other{S:St}{b b8:Nat}{g:Nat->Nat}{n i:Nat}{C:aW}{x y:AV}(h:FS S b b8 g n i C x y){e:Nat}(he:S e=ac)(Z:dH):FS (S.upd e Z) b b8 g n i C x y :=
 ⟨h.cols.upd (bE.fresh h.cols.outer he) (fun a ha=>bE.fresh (h.cols.row a ha) he) _,h.pair.upd (bE.fresh h.pair he) _,h.hx.upd rfl (h.hx.fresh he) _,h.hy.upd rfl (h.hy.fresh he) _,h.xy⟩
theorem FS.appx{S S':St}{b b8:Nat}{g:Nat->Nat}{n i:Nat}{C:aW}{x y:AV}(h:FS S b b8 g n i C x y)(hi:i<n){c:Nat}(hX:cG 3 1 St.none S' (.sl 1 c 0 (min i n+1)) (min i n+1) (fun a=>if a=min i n then .int .i64 (i:Int)else .int .i64 ((a:Nat):Int)))(hk:∀d X,S d=some X->¬dB x d->S' d=some X)(hc:dB x c∨S c=ac) :
  FS S' b b8 g n (i+1) C (.sl 1 c 0 (min i n+1)) y:=by
 have kp:∀{b ty es n:Nat} {g:Nat->AV},bE S b ty es n g->ty≠3->bE S' b ty es n g:=fun hh ht=>by
  obtain⟨z,k1,k2⟩:=hh;exact⟨z,hk _ _ k1 (h.hx.other k1 ht),k2⟩
 have hm:min i n=i:=om
 refine⟨⟨kp h.cols.outer dc,fun a ha=>kp (h.cols.row a ha) dc,h.cols.inj⟩,kp h.pair dc,?_,?_,fun d hd hd2=>?_⟩
 ·rw[hm]at hX ⊢;rw[(om:min (i+1) n=i+1)]
  exact hX.congr fun a _=>by
   by_cases e:a=i
   ·rw[if_pos e,e]
   ·rw[if_neg e]
 ·have:=h.hy.keep (eJ.noneS _) hk (fun d hd hd2=>h.xy d hd2 hd);rw[(om:i+1-n=i-n)]
  exact this
 ·rw[ez]at hd;subst hd;rcases hc with e|e
  ·exact h.xy _ e hd2
  ·obtain⟨X,hX'⟩:=h.hy.blk hd2;rw[hX']at e;cases e
theorem FS.appy{S S':St}{b b8:Nat}{g:Nat->Nat}{n i:Nat}{C:aW}{x y:AV}(h:FS S b b8 g n i C x y)(hi:n<=i){c:Nat}(hX:cG 3 1 St.none S' (.sl 1 c 0 (i-n+1)) (i-n+1) (fun a=>if a=i-n then .int .i64 (i:Int)else .int .i64 ((n+a:Nat):Int)))(hk:∀d X,S d=some X->¬dB y d->S' d=some X)(hc:dB y c∨S c=ac) :
  FS S' b b8 g n (i+1) C x (.sl 1 c 0 (i-n+1)):=by
 have kp:∀{b ty es n:Nat} {g:Nat->AV},bE S b ty es n g->ty≠3->bE S' b ty es n g:=fun hh ht=>by
  obtain⟨z,k1,k2⟩:=hh;exact⟨z,hk _ _ k1 (h.hy.other k1 ht),k2⟩
 refine⟨⟨kp h.cols.outer dc,fun a ha=>kp (h.cols.row a ha) dc,h.cols.inj⟩,kp h.pair dc,?_,?_,fun d hd hd2=>?_⟩
 ·have:=h.hx.keep (eJ.noneS _) hk (fun d hd hd2=>h.xy d hd hd2);rw[(om:min (i+1) n=min i n)]
  exact this
 ·rw[(om:i+1-n=i-n+1)]
  exact hX.congr fun a _=>by
   by_cases e:a=i-n
   ·rw[if_pos e,e];congr 1;omega
   ·rw[if_neg e]
 ·rw[ez]at hd2;subst hd2;rcases hc with e|e
  ·exact h.xy _ hd e
  ·obtain⟨X,hX'⟩:=h.hx.blk hd;rw[hX']at e;cases e
theorem AC(n k:Nat)(M:aW)(hP:kV n (dJ n M))(hk:k<=1000000)(hU:∀R H U,FU n (dJ n M) R H U->∀a r,a<n+1->r<n+n+1->nb (jN (n+1) (fun k r=>dJ n M r k) U a r) k) :
  cS 184 [aZ n (n+1) M] St.none (fun r _=>∃R H U,FU n (dJ n M) R H U/\∃V,r=.tup [aZ n (n+1) (fun i j=>jN (n+1) (fun k r=>dJ n M r k) U j i),V,.bool true]):=by
 refine aD func184 rfl 51 ntmps184 kr sm (by simp[results184]) ?_
 rw[aQ,results184];have h1:=hP.h1;have hn:=hP.hn;simp -dsimp only[go_sem,aa,ae,reduceCtorEq,ab,aZ,bn];refine(tI n (n+1) M h1 om om om).call ?_;simp -dsimp only[go_sem,aa,ae,reduceCtorEq,ab];refine(zM _ n (n+1) M h1 om om om).mono ?_;rintro _ S1 ⟨b,g,rfl,hO,_⟩;simp -dsimp only[go_sem,ak,aa,ae,↓reduceIte,reduceCtorEq,ab];refine aH.intro fun b8 f8=>?_;simp -dsimp only[go_sem,ak,au,ae,↓reduceIte,reduceCtorEq,ib,dF,bG,aT,false_implies,implies_true,List.getD_cons_zero,List.getD_cons_succ,eG,bW];have h8:∀{c ty es k:Nat} {z:Nat->AV},bE S1 c ty es k z->c≠b8:=fun h=>bE.fresh h f8;rw[<-Nat.add_assoc]at hO;have hO8:=(hO.upd (h8 hO.outer) (fun a ha=>h8 (hO.row a ha)) ⟨218,1,2,fun j=>if j=0 then AV.nil else AV.int IntKind.i64 0⟩).upd (h8 hO.outer) (fun a ha=>h8 (hO.row a ha)) ⟨218,1,2,ib (fun j=>if j=0 then AV.nil else AV.int IntKind.i64 0) 0 [AV.sl 1 b 0 (n+1),AV.int IntKind.i64 n]⟩
 have hp8:bE ((S1.upd b8 ⟨218,1,2,fun j=>if j=0 then AV.nil else AV.int IntKind.i64 0⟩).upd b8 ⟨218,1,2,ib (fun j=>if j=0 then AV.nil else AV.int IntKind.i64 0) 0 [AV.sl 1 b 0 (n+1),AV.int IntKind.i64 n]⟩) b8 218 1 2 (GU b (n+1) n):=bE.here fun j hj=>by
  match j,hj with
  | 0,_=>rfl
  | 1,_=>rfl
 refine(uT _ b n n g (dJ n M) hP hO8).mono ?_;rintro _ S2 ⟨⟨R,H,U,hT,g',hO2⟩,hK⟩;have hb8:b8≠b:=fun e=>h8 hO.outer e.symm;have hp2:=hK.has hp8 hb8;have hUb:=hU R H U hT;generalize hC:jN (n+1) (fun k r=>dJ n M r k) U=C at hO2 hUb;simp -dsimp only[go_sem,aa,↓reduceIte];refine aM (fun O S=>∃(i:Nat) (x y:AV),i<=n+n+1/\O 8=.ptr 1 b8 0/\O 9=x/\O 10=y/\O 26=.int .i64 ((n+n+1:Nat):Int)/\O 27=.int .i64 i/\FS S b b8 g' n i C x y) (fun O S=>n+n+1-ca (O 27)) ?_ ?_
 ·simp -dsimp only[go_sem,aa];refine⟨0,om,by rw[dK (n:=n+n+1) om om],rfl,hO2,hp2,?_,?_,fun d hd=>?_⟩
  ·rw[Nat.zero_min];exact cG.nil (eJ.noneS _) _
  ·rw[Nat.zero_sub];exact cG.nil (eJ.noneS _) _
  ·obtain⟨_,_,_,e⟩:=hd;cases e
 clear hO2 hp2 hK hO8 hp8 hO f8 h8;rintro O S ⟨i,x,y,hi,e8,e9,e10,e26,e27,hS⟩;by_cases hit:i<n+n+1
 ·obtain⟨gp,up,vp⟩:=id hS.pair;have x1:gp 1=.int .i64 n:=vp 1 om;by_cases hin:i<n
  ·simp -dsimp only[go_sem,ak,aa,ae,↓reduceIte,reduceCtorEq,af,decide_true,ab,e8,e9,e10,e26,e27,hit,hin,up,x1];refine aH.intro fun b36 f36=>?_;have hxb:=hS.hx.fresh f36;have hS2:=hS.other f36 ⟨3,1,1,fun j=>[AV.int .i64 i].getD j .any⟩
   try simp -dsimp only[go_sem,aa,↓reduceIte,e9]
   refine cG.app3 (v:=.int .i64 i) hS2.hx om (by simp[dI]) (bH ⟨_,_,_,rfl,bZ,rfl,fun h=>hxb _ h rfl⟩) ?_
   intro c S3 hX hk1 hc;have hS3:=hS2.appx hin hX hk1 hc;simp -dsimp only[go_sem,aa,e8,e9,e10,e26,e27,a6 (om:i<1000000),ca]
   exact⟨⟨i+1,om,rfl,hS3⟩,om⟩
  ·simp -dsimp only[go_sem,ak,aa,ae,↓reduceIte,reduceCtorEq,af,decide_true,decide_false,ab,e8,e9,e10,e26,e27,hit,hin,up,x1];refine aH.intro fun b40 f40=>?_;have hxb:=hS.hy.fresh f40;have hS2:=hS.other f40 ⟨3,1,1,fun j=>[AV.int .i64 i].getD j .any⟩
   try simp -dsimp only[go_sem,aa,↓reduceIte,e10]
   refine cG.app3 (v:=.int .i64 i) hS2.hy om (by simp[dI]) (bH ⟨_,_,_,rfl,bZ,rfl,fun h=>hxb _ h rfl⟩) ?_
   intro c S3 hX hk1 hc;have hS3:=hS2.appy om hX hk1 hc;simp -dsimp only[go_sem,aa,e8,e9,e10,e26,e27,a6 (om:i<1000000),ca]
   exact⟨⟨i+1,om,rfl,hS3⟩,om⟩
 obtain rfl:i=n+n+1:=om
 obtain⟨gp,up,vp⟩:=id hS.pair;have x0:gp 0=.sl 1 b 0 (n+1):=vp 0 om;obtain⟨c1,rfl,hL1⟩:∃c1,x=.sl 1 c1 0 n/\bE S c1 3 1 n (fun a=>.int .i64 ((a:Nat):Int)):=by
  rcases hS.hx.2 with⟨h,_⟩|⟨c,_,e,h⟩
  ·omega
  ·rw[(om:min (n+n+1) n=n)]at e h;exact⟨c,e,h⟩
 obtain⟨c2,rfl,hL2⟩:∃c2,y=.sl 1 c2 0 (n+1)/\bE S c2 3 1 (n+1) (fun a=>.int .i64 ((n+a:Nat):Int)):=by
  rcases hS.hy.2 with⟨h,_⟩|⟨c,_,e,h⟩
  ·omega
  ·rw[(om:n+n+1-n=n+1)]at e h;exact⟨c,e,h⟩
 simp -dsimp only[go_sem,ak,aa,↓reduceIte,reduceCtorEq,af,decide_false,ab,e8,e9,e10,e26,e27,hit];refine bM 11 kr ?_
 simp -dsimp only[go_sem,aa,ae,↓reduceIte,ab,e8,e9,e10,up,x0];have p1:=tX (n+1) (n+n+1) n k C (fun a=>a) om om (fun i hi=>om) (fun c r hc hr=>hUb c r hc hr) hk
 have p2:=tX (n+1) (n+n+1) (n+1) k C (fun a=>n+a) om om (fun i hi=>om) (fun c r hc hr=>hUb c r hc hr) hk
 refine⟨_,p1.pf.pureS (dO.two hS.cols.vr.va (VR.sl hL1 om (fun a ha=>by rw[aF];exact VR.mf rfl)).va),?_⟩
 try simp -dsimp only[go_sem,ak,aa,au,ae,↓reduceIte,reduceCtorEq,af,decide_true,decide_false,az,e8,e9,e10,e26,e27,up,x0]
 refine⟨_,p2.pf.pureS (dO.two hS.cols.vr.va (VR.sl hL2 om (fun a ha=>by rw[aF];exact VR.mf rfl)).va),?_⟩
 try simp -dsimp only[go_sem,ak,aa,au,ae,↓reduceIte,reduceCtorEq,af,decide_true,decide_false,az,e8,e9,e10,e26,e27,up,x0]
 subst hC;exact⟨R,H,U,hT,_,rfl⟩
def lp:List Oper->List Nat
 | []=>[]
 | o::l=>(match o.dst with
  | some d=>[d]
  | ac=>[])++lp l
def j8(l:List Oper)(k:Nat):Option Nat:=(l[k]?).bind (·.dst)
def L2(l:List Oper):Bool:=decide (lp l).Nodup
def stP(ops:Array Oper)(O0:Tm)(S:St)(z:List AV):List Oper->Nat->Prop
 | [],_=>True
 | o::r,i=>(∀O:Tm,(∀t,¬t∈lp ops.toList->O t=O0 t)->(∀k d,(aft o).contains k=true->j8 ops.toList k=some d->O d=z.getD k .any)->∀K:Tm->St->Prop,K (O.put o.dst (z.getD i .any)) S->xe ops o O S K)/\stP ops O0 S z r (i+1)
theorem D0{ops:Array Oper}{O0:Tm}{S:St}{z:List AV}:∀(l:List Oper) (i j:Nat) (o:Oper),stP ops O0 S z l i->l[j]? = some o ->
  ∀O:Tm,(∀t,¬t∈lp ops.toList->O t=O0 t)->(∀k d,(aft o).contains k=true->j8 ops.toList k=some d->O d=z.getD k .any)->∀K:Tm->St->Prop,K (O.put o.dst (z.getD (i+j) .any)) S->xe ops o O S K
 | [],i,j,o,_,h=>by simp at h
 | p::r,i,0,o,h,ho=>by
  simp only[cN,ef.injEq]at ho;subst ho;exact h.1
 | p::r,i,j+1,o,h,ho=>by
  rw[bT]at ho;have:=D0 r (i+1) j o h.2 ho;rw[(om:i+1+j=i+(j+1))]at this
  exact this
theorem sK:∀{l:List Oper} {j:Nat} {o:Oper} {d:Nat},l[j]? = some o->o.dst=some d->d∈lp l
 | [],_,_,_,h,_=>by simp at h
 | p::l,0,o,d,h,hd=>by
  simp only[cN,ef.injEq]at h;subst h;simp[lp,hd]
 | p::l,j+1,o,d,h,hd=>by
  rw[bT]at h;simp[lp,sK h hd]
theorem yG:∀{l:List Oper} {i j:Nat} {d:Nat},(lp l).Nodup->j8 l i=some d->j8 l j=some d->i=j
 | [],i,_,_,_,h,_=>by simp[j8]at h
 | p::l,i,j,d,hn,hi,hj=>by
  have memj:∀k,j8 l k=some d->d∈lp l:=fun k hk=>by
   unfold j8 at hk
   cases e:l[k]? with
   | none=>rw[e]at hk;simp at hk
   | some o=>rw[e]at hk;exact sK e hk
  have hn2:(lp l).Nodup:=by
   unfold lp at hn;exact(List.nodup_append.1 hn).2.1
  have hno:p.dst=some d->¬d∈lp l:=fun hp hm=>by
   unfold lp at hn;rw[hp]at hn;simp only[List.singleton_append,List.nodup_cons]at hn;exact hn.1 hm
  match i,j with
  | 0,0=>rfl
  | 0,j+1=>exact(hno (by simpa [j8]using hi) (memj j (by simpa [j8]using hj))).elim
  | i+1,0=>exact(hno (by simpa [j8]using hj) (memj i (by simpa [j8]using hi))).elim
  | i+1,j+1 =>
   have:=yG hn2 (i:=i) (j:=j) (d:=d) (by simpa [j8]using hi) (by simpa [j8]using hj)
   omega
theorem FF{ops:Array Oper}{O0:Tm}{S:St}{K:Tm->St->Prop}(z:List AV)(hok:(yO ops&&L2 ops.toList)=true)(hs:stP ops O0 S z ops.toList 0)
  (he:∀O:Tm,(∀t,¬t∈lp ops.toList->O t=O0 t)->(∀k d,j8 ops.toList k=some d->O d=z.getD k .any)->K O S):Ga ops O0 S K:=by
 rw[qM];simp only[aA]at hok;have hnd:(lp ops.toList).Nodup:=of_decide_eq_true hok.2;refine bH (bH (bH (bH ⟨fun L O S'=>S'=S/\(∀t,¬t∈lp ops.toList->O t=O0 t)/\∀k d,L k=true->j8 ops.toList k=some d->O d=z.getD k .any,hok.1,⟨rfl,fun _ _=>rfl,fun _ _ h=>by cases h⟩,?_,?_⟩)))
 ·rintro i o ho L O S' ⟨rfl,h1,h2⟩ hL ha;have ho':ops.toList[i]? = some o:=by simpa using ho
  have:=D0 ops.toList 0 i o hs ho' O h1 (fun k d hk hd=>h2 k d (ha k (by simpa using hk)) hd) (fun O' S''=>S''=S'/\(∀t,¬t∈lp ops.toList->O' t=O0 t)/\∀k d,(if k=i then true else L k)=true->j8 ops.toList k=some d->O' d=z.getD k .any)
  rw[aF]at this;have h3:=this ?_
  ·unfold xe at h3;rw[td]at h3;exact h3
  ·refine⟨rfl,fun t ht=>?_,fun k d hk hd=>?_⟩
   ·rw[Tm.put_eq]
    cases e:o.dst with
    | none=>exact h1 t ht
    | some d =>
     simp only;rw[if_neg (fun e2=>ht (by subst e2;exact sK ho' e))];exact h1 t ht
   ·rw[Tm.put_eq];by_cases e2:k=i
    ·subst e2;have:o.dst=some d:=by simpa [j8,ho]using hd
     simp only[this,if_pos]
    ·rw[if_neg e2]at hk
     cases e:o.dst with
     | none=>exact h2 k d hk hd
     | some d' =>
      simp only;rw[if_neg (fun e3=>by
       subst e3;exact e2 (yG hnd hd (by simp[j8,ho,e])))]
      exact h2 k d hk hd
 ·rintro L O S' ⟨rfl,h1,h2⟩ hL;refine he O h1 fun k d hd=>h2 k d (hL k ?_) hd;rcases aI k ops.size with h|h
  ·exact h
  ·simp[j8,Array.getElem?_eq_none h]at hd
theorem Kc{ops:Array Oper}{l:List Oper}{O:Tm}{S:St}{K:Tm->St->Prop}(h:∀K',K'=K->AK ops l O S K'):AK ops l O S K:=h K rfl
theorem eF{c:Code}{Q:AX->Tm->St->Prop}{O:Tm}{S:St}(I:Tm->St->Prop)(μ:Tm->St->Nat)(h0:I O S)(hr:∀Q',Q'=Q->∀O S,I O S->Aw c (AX.seq (fun O' S'=>I O' S'/\μ O' S' < μ O S) Q') O S):Aw (.loop c) Q O S:=aM I μ h0 (hr Q rfl)
theorem qz{n j:Nat}{g:Nat->AV}{K:AV->Prop}(hj:j<=n)(h:K (.lst 2 j g)):jR 59 (.lst 2 n g) ac (some (.int .i64 (j:Int))) ac K :=
 ⟨rfl,0,j,rfl,rfl,trivial,om,hj,by simpa using h⟩
structure yX(n k:Nat)(H:aW):Prop where
 up:∀r c,r<c->r<n->c<n+1->H r c=0
 pos:∀c,c<n->0<H c c
 rng:∀c j,c<n->j<c->0<=H c j/\H c j<H c c
 nb:∀r c,r<n->c<n+1->nb (H r c) k
theorem Ff(n k:Nat)(H:aW)(h1:1<=n)(h2:n<=15)(hk:k<=1000000)(hH:yX n k H):PF 185 [aZ n (n+1) H] (.tup [.lst 1 n (fun a=>.int .i64 ((a:Nat):Int)),.bool true]):=by
 refine PF.of_spec (aD func185 rfl 104 ntmps185 kr sm (by simp[results185]) ?_)
 rw[aQ,results185];simp -dsimp only[go_sem,aa,ae,reduceCtorEq,ab,aZ,bn];refine(tI n (n+1) H h1 om om om).call ?_;simp -dsimp only[go_sem,aa,reduceCtorEq];refine aM (fun O S=>∃(c:Nat) (x:AV),c<=n+1/\O 0=.lst 1 n (fun i=>.lst 2 (n+1) (fun j=>.big (H i j)))/\O 4=.int .i64 n/\O 7=x/\O 20=.int .i64 ((n+1:Nat):Int)/\O 21=.int .i64 c/\cG 3 1 St.none S x (min c n) (fun a=>.int .i64 ((a:Nat):Int))) (fun O S=>n+1-ca (O 21)) ?_ ?_
 ·simp -dsimp only[go_sem,aa,reduceCtorEq];exact⟨0,om,rfl,by rw[Nat.zero_min];exact cG.nil (eJ.noneS _) _⟩
 rintro O S ⟨c,x,hc,e0,e4,e7,e20,e21,hX⟩;by_cases hct:c<n+1
 ·simp -dsimp only[go_sem,aa,↓reduceIte,af,decide_true,e7,e20,e21,hct];refine eF (fun O S'=>∃p:Nat,p<=c/\S'=S/\O 0=.lst 1 n (fun i=>.lst 2 (n+1) (fun j=>.big (H i j)))/\O 4=.int .i64 n/\O 7=x/\O 8=.int .i64 c/\O 9=.int .i64 p/\O 20=.int .i64 ((n+1:Nat):Int)/\O 21=.int .i64 c) (fun O S=>c-ca (O 9)) ?_ ?_
  ·simp -dsimp only[go_sem,aa,reduceCtorEq,e0,e4,e7,e20,e21];exact⟨0,om,rfl⟩
  clear e0 e4 e7 e20 e21;rintro Q' hQ' O T ⟨p,hp,hTS,e0,e4,e7,e8,e9,e20,e21⟩;subst hTS;by_cases hpn:p<n
  ·simp -dsimp only[go_sem,aa,ae,reduceCtorEq,af,decide_true,ab,e0,e4,e8,e9,hpn,hct];refine(jJ (hH.nb p c hpn hct) om).call ?_;by_cases hpc:p<c
   ·simp -dsimp only[go_sem,aa,reduceCtorEq,af,decide_true,e0,e4,e7,e8,e9,e20,e21,hpn,hH.up p c hpc hpn hct,nh,beq_self_eq_true,a6 (om:p<1000000),ca]
    exact⟨⟨p+1,om,rfl⟩,om⟩
   obtain rfl:p=c:=om
   have hs:(H p p).sign=1:=cU (hH.pos p hpn);have hb1:((H p p).sign==0)=false:=by rw[hs]<;>rfl
   have hb2:((p:Int)==(n:Int))=false:=by simp;omega
   have hb3:decide ((H p p).sign<0)=false:=by rw[hs]<;>rfl
   rw[(om:min p n=p)]at hX
   apply t9 (fun O S'=>O 0=.lst 1 n (fun i=>.lst 2 (n+1) (fun j=>.big (H i j)))/\O 4=.int .i64 n/\O 7=x/\O 8=.int .i64 p/\O 9=.int .i64 p/\O 20=.int .i64 ((n+1:Nat):Int)/\O 21=.int .i64 p/\O 76=.lst 2 p (fun j=>.big (H p j))/\O 77=.int .i64 p/\O 78=.int .i64 0/\S'=T)
   ·intro key;simp -dsimp only[go_sem,aa,reduceCtorEq,af,decide_true,e0,e4,e7,e8,e9,e20,e21,hpn,hb1];rw[hQ'];rcases id hX.2 with⟨hp0,hx⟩|⟨c0,_,hx,hL⟩
    ·have hb4:((0:Int) != (p:Int))=false:=by rw[hp0];simp
     have hb5:decide ((0:Int)<(p:Int))=false:=by rw[hp0];simp
     simp -dsimp only[go_sem,aa,ae,↓reduceIte,reduceCtorEq,af,ab,e0,e4,e7,e8,e9,e20,e21,hpn,hct,hb2,hb4,hb5,hx];refine(jJ (hH.nb p p hpn hct) om).call ?_;simp -dsimp only[go_sem,aa,reduceCtorEq,af,e0,e7,e8,e9,hpn,hb4,hb5,hb3,dp,jE];refine qz om ?_;simp -dsimp only[go_sem];show Aw (.loop _) _ _ _;refine key _ _ ?_;simp -dsimp only[go_sem,aa,reduceCtorEq,e0,e4,e7,e8,e9,e20,e21,hx]
    ·obtain⟨gl,ul,vl⟩:=hL;rcases Nat.eq_zero_or_pos p with h0|h0
     ·have hb4:((0:Int) != (p:Int))=false:=by rw[h0];simp
      have hb5:decide ((0:Int)<(p:Int))=false:=by rw[h0];simp
      simp -dsimp only[go_sem,aa,ae,↓reduceIte,reduceCtorEq,af,ab,e0,e4,e7,e8,e9,e20,e21,hpn,hct,hb2,hb5,hx,bne_self_eq_false];refine(jJ (hH.nb p p hpn hct) om).call ?_;simp -dsimp only[go_sem,aa,reduceCtorEq,af,e0,e7,e8,e9,hpn,hb5,hb3,dp,jE];refine qz om ?_;simp -dsimp only[go_sem];show Aw (.loop _) _ _ _;refine key _ _ ?_;simp -dsimp only[go_sem,aa,reduceCtorEq,e0,e4,e7,e8,e9,e20,e21,hx]
     obtain⟨q,hq⟩:∃q,p=q+1:=⟨p-1,om⟩
     have hb5:decide ((0:Int)<(p:Int))=true:=by simp;omega
     have hw:IntKind.i64.wrap ((p:Int)-1)=(q:Int):=dK om om;have hqp:q<p:=om
     have hg:gl q=.int .i64 (q:Int):=vl q hqp;have hb6:decide ((p:Int)<=(q:Int))=false:=by simp;omega
     simp -dsimp only[go_sem,aa,ae,↓reduceIte,reduceCtorEq,af,ab,e0,e4,e7,e8,e9,e20,e21,hpn,hct,hb2,hb5,hb6,hw,hqp,hg,ul,hx,bne_self_eq_false];refine(jJ (hH.nb p p hpn hct) om).call ?_;simp -dsimp only[go_sem,aa,↓reduceIte,reduceCtorEq,af,e0,e7,e8,e9,hpn,hb5,hb6,hw,hg,hb3,dp,jE];refine qz om ?_;simp -dsimp only[go_sem];show Aw (.loop _) _ _ _;refine key _ _ ?_;simp -dsimp only[go_sem,aa,reduceCtorEq,e0,e4,e7,e8,e9,e20,e21,hx]
   clear e0 e4 e7 e8 e9 e20 e21 hb1 hb2 hb3 hs hpc;rintro O _ ⟨e0,e4,e7,e8,e9,e20,e21,e76,e77,e78,rfl⟩;refine eF (fun O S=>∃j:Nat,j<=p/\O 0=.lst 1 n (fun i=>.lst 2 (n+1) (fun j=>.big (H i j)))/\O 4=.int .i64 n/\O 7=x/\O 8=.int .i64 p/\O 9=.int .i64 p/\O 20=.int .i64 ((n+1:Nat):Int)/\O 21=.int .i64 p/\O 76=.lst 2 p (fun j=>.big (H p j))/\O 77=.int .i64 p/\O 78=.int .i64 j/\cG 3 1 St.none S x p (fun a=>.int .i64 ((a:Nat):Int))) (fun O S=>p-ca (O 78)) ?_ ?_
   ·simp -dsimp only[go_sem,e0,e4,e7,e8,e9,e20,e21,e76,e77,e78];exact⟨0,om,rfl,hX⟩
   clear e0 e4 e7 e8 e9 e20 e21 e76 e77 e78 hX;rintro Q' hQ' O S ⟨j,hj,e0,e4,e7,e8,e9,e20,e21,e76,e77,e78,hX⟩;by_cases hjp:j<p
   ·obtain⟨q1,q2⟩:=hH.rng p j hpn hjp;have hs1:decide ((H p j).sign<0)=false:=by
     rcases Int.lt_or_eq_of_le q1 with h|h
     ·rw[cU h];rfl
     ·rw[<-h];rfl
    have hcm:md (H p j) (H p p)=-1:=by simp[md,q2]
    simp -dsimp only[go_sem,aa,af,decide_true,e76,e77,e78,hjp];refine aH.intro fun b11 f11=>?_
    try simp -dsimp only[go_sem,aa,↓reduceIte]
    have hXX:=((hX.upd (by rfl) (hX.fresh f11) ⟨50,2,1,fun _=>AV.big 0⟩).upd (by rfl) (hX.fresh f11) ⟨50,2,1,bJ (fun _=>AV.big 0) 0 (.big (H p j))⟩)
    obtain⟨S5,hS5,hV5⟩:∃S5,S5=(S.upd b11 ⟨50,2,1,fun _=>AV.big 0⟩).upd b11 ⟨50,2,1,bJ (fun _=>AV.big 0) 0 (.big (H p j))⟩/\S5 b11=some ⟨50,2,1,bJ (fun _=>AV.big 0) 0 (.big (H p j))⟩:=⟨_,rfl,bZ⟩;rw[<-hS5]at hXX ⊢;have r0:PF 191 [.big (H p j)] (.int .i64 (H p j).sign):=jJ (hH.nb p j hpn om) om;have r1:PF 159 [.big (H p j),.big (H p p)] (.int .i64 (-1)):=hcm▸H4 (hH.nb p j hpn om) (hH.nb p p hpn om) om;refine FF [.big (H p j),.int .i64 (H p j).sign,.bool false,.bool false,.big (H p j),.lst 1 n (fun i=>.lst 2 (n+1) (fun j=>.big (H i j))),.int .i64 p,.pat 1 (.lst 2 (n+1) (fun j=>.big (H p j))),.lst 2 (n+1) (fun j=>.big (H p j)),.int .i64 p,.pat 2 (.big (H p p)),.big (H p p),.int .i64 (-1),.bool false,.bool false] kr ?_ ?_
    ·refine⟨?_,?_,?_,?_,?_,?_,?_,?_,?_,?_,?_,?_,?_,?_,?_,trivial⟩
     ·intro O1 hb ha K hK;have x11:O1 11=.ptr 2 b11 0:=(hb 11 dc).trans (by simp -dsimp only[go_sem])
      unfold xe;simp -dsimp only[go_sem,ae,↓reduceIte,ab,x11,hV5,ed];exact hK
     ·intro O1 hb ha K hK;have x82:O1 82=.big (H p j):=ha 0 82 kr rfl
      unfold xe;simp -dsimp only[go_sem,aa,ae,ab,x82];refine r0.call ?_;exact hK
     ·intro O1 hb ha K hK;have x83:O1 83=.int .i64 (H p j).sign:=ha 1 83 kr rfl
      unfold xe;simp -dsimp only[go_sem,x83,hs1];exact hK
     ·intro O1 hb ha K hK;have x84:O1 84=.bool false:=ha 2 84 kr rfl
      unfold xe;simp -dsimp only[go_sem,x84];exact hK
     ·intro O1 hb ha K hK;have x11:O1 11=.ptr 2 b11 0:=(hb 11 dc).trans (by simp -dsimp only[go_sem])
      have x85:O1 85=.bool false:=ha 3 85 kr rfl
      unfold xe;simp -dsimp only[go_sem,ae,↓reduceIte,ab,x11,x85,hV5,ed];exact hK
     ·intro O1 hb ha K hK;have x0:O1 0=.lst 1 n (fun i=>.lst 2 (n+1) (fun j=>.big (H i j))):=(hb 0 dc).trans (by simp -dsimp only[go_sem,reduceCtorEq,e0])
      have x85:O1 85=.bool false:=ha 3 85 kr rfl
      unfold xe;simp -dsimp only[go_sem,x0,x85];exact hK
     ·intro O1 hb ha K hK;have x9:O1 9=.int .i64 p:=(hb 9 dc).trans (by simp -dsimp only[go_sem,aa,e9])
      have x85:O1 85=.bool false:=ha 3 85 kr rfl
      unfold xe;simp -dsimp only[go_sem,x9,x85];exact hK
     ·intro O1 hb ha K hK;have x85:O1 85=.bool false:=ha 3 85 kr rfl
      have x87:O1 87=.lst 1 n (fun i=>.lst 2 (n+1) (fun j=>.big (H i j))):=ha 5 87 kr rfl
      have x88:O1 88=.int .i64 p:=ha 6 88 kr rfl
      unfold xe;simp -dsimp only[go_sem,af,x85,x87,x88,hpn];exact hK
     ·intro O1 hb ha K hK;have x85:O1 85=.bool false:=ha 3 85 kr rfl
      have x89:O1 89=.pat 1 (.lst 2 (n+1) (fun j=>.big (H p j))):=ha 7 89 kr rfl
      unfold xe;simp -dsimp only[go_sem,x85,x89];exact hK
     ·intro O1 hb ha K hK;have x8:O1 8=.int .i64 p:=(hb 8 dc).trans (by simp -dsimp only[go_sem,aa,e8])
      have x85:O1 85=.bool false:=ha 3 85 kr rfl
      unfold xe;simp -dsimp only[go_sem,x8,x85];exact hK
     ·intro O1 hb ha K hK;have x85:O1 85=.bool false:=ha 3 85 kr rfl
      have x90:O1 90=.lst 2 (n+1) (fun j=>.big (H p j)):=ha 8 90 kr rfl
      have x91:O1 91=.int .i64 p:=ha 9 91 kr rfl
      unfold xe;simp -dsimp only[go_sem,af,x85,x90,x91,(om:p<n+1)]
      exact hK
     ·intro O1 hb ha K hK;have x85:O1 85=.bool false:=ha 3 85 kr rfl
      have x92:O1 92=.pat 2 (.big (H p p)):=ha 10 92 kr rfl
      unfold xe;simp -dsimp only[go_sem,x85,x92];exact hK
     ·intro O1 hb ha K hK;have x85:O1 85=.bool false:=ha 3 85 kr rfl
      have x86:O1 86=.big (H p j):=ha 4 86 kr rfl
      have x93:O1 93=.big (H p p):=ha 11 93 kr rfl
      unfold xe;simp -dsimp only[go_sem,aa,ae,ab,x85,x86,x93];refine r1.call ?_;exact hK
     ·intro O1 hb ha K hK;have x85:O1 85=.bool false:=ha 3 85 kr rfl
      have x94:O1 94=.int .i64 (-1):=ha 12 94 kr rfl
      unfold xe;simp -dsimp only[go_sem,x85,x94,show decide ((0:Int)<=-1)=false by rfl]
      exact hK
     ·intro O1 hb ha K hK;have x85:O1 85=.bool false:=ha 3 85 kr rfl
      have x95:O1 95=.bool false:=ha 13 95 kr rfl
      unfold xe;simp -dsimp only[go_sem,x85,x95];exact hK
    ·intro O1 hb ha;have x96:O1 96=.bool false:=ha 14 96 rfl;have y0:O1 0=.lst 1 n (fun i=>.lst 2 (n+1) (fun j=>.big (H i j))):=(hb 0 dc).trans (by simp -dsimp only[go_sem,reduceCtorEq,e0])
     have y4:O1 4=.int .i64 n:=(hb 4 dc).trans (by simp -dsimp only[go_sem,aa,e4])
     have y7:O1 7=x:=(hb 7 dc).trans (by simp -dsimp only[go_sem,aa,e7])
     have y8:O1 8=.int .i64 p:=(hb 8 dc).trans (by simp -dsimp only[go_sem,aa,e8])
     have y9:O1 9=.int .i64 p:=(hb 9 dc).trans (by simp -dsimp only[go_sem,aa,e9])
     have y20:O1 20=.int .i64 ((n+1:Nat):Int):=(hb 20 dc).trans (by simp -dsimp only[go_sem,aa,e20])
     have y21:O1 21=.int .i64 p:=(hb 21 dc).trans (by simp -dsimp only[go_sem,aa,e21])
     have y76:O1 76=.lst 2 p (fun j=>.big (H p j)):=(hb 76 dc).trans (by simp -dsimp only[go_sem,aa,e76])
     have y77:O1 77=.int .i64 p:=(hb 77 dc).trans (by simp -dsimp only[go_sem,aa,e77])
     have y78:O1 78=.int .i64 j:=(hb 78 dc).trans (by simp -dsimp only[go_sem,aa,e78])
     simp -dsimp only[go_sem,aa,reduceCtorEq,x96,y0,y4,y7,y8,y9,y20,y21,y76,y77,y78,a6 (om:j<1000000),ca]
     exact⟨⟨j+1,om,rfl,hXX⟩,om⟩
   ·obtain rfl:j=p:=om
    simp -dsimp only[go_sem,aa,af,decide_false,e76,e77,e78,hjp];rw[hQ'];simp -dsimp only[go_sem,aa,↓reduceIte,reduceCtorEq,e7,e9];refine aH.intro fun b100 f100=>?_;have hxb:=hX.fresh f100;have hX2:=hX.upd (by rfl) hxb ⟨3,1,1,fun a=>[AV.int .i64 j].getD a .any⟩
    try simp -dsimp only[go_sem,aa,↓reduceIte,e7,e9]
    refine cG.app3 (v:=.int .i64 j) hX2 om (by simp[dI]) (bH ⟨_,_,_,rfl,bZ,rfl,fun h=>hxb _ h rfl⟩) ?_
    intro c S6 hX' _ _;simp -dsimp only[go_sem,aa,reduceCtorEq,e0,e4,e7,e9,e20,e21,a6 (om:j<1000000),ca]
    refine⟨⟨j+1,om,rfl,?_⟩,om⟩
    rw[(om:min (j+1) n=j+1)]
    exact hX'.congr fun a _=>by
     by_cases e:a=j
     ·rw[if_pos e,e]
     ·rw[if_neg e]
  ·obtain rfl:p=n:=om
   obtain rfl:c=p:=om
   simp -dsimp only[go_sem,aa,reduceCtorEq,af,decide_false,e0,e4,e7,e8,e9,e20,e21,hpn];rw[hQ'];rw[Ia,if_pos rfl,u9,Id,Id,Me];refine Kc fun K' hK'=>?_;simp -dsimp only[go_sem,aa,e4,e9];rw[hK',u9,Dt,show ev _ (.tmp 42)=AV.bool true by simp -dsimp only[go_sem,beq_self_eq_true],cd_t]
   simp -dsimp only[go_sem,aa,↓reduceIte,reduceCtorEq,e0,e4,e7,e20,e21,a6 (om:c<1000000),ca]
   refine⟨⟨c+1,om,rfl,?_⟩,om⟩
   rw[(om:min (c+1) c=min c c)]
   exact hX
 obtain rfl:c=n+1:=om
 simp -dsimp only[go_sem,aa,↓reduceIte,af,decide_false,e7,e20,e21,hct];rcases hX.2 with⟨h,_⟩|⟨c0,_,rfl,hL⟩
 ·omega
 rw[(om:min (n+1) n=n)]at hL ⊢
 exact VR.tup2 (VR.sl hL om (fun a ha=>by rw[aF];exact VR.mf rfl)) (VR.mf rfl)
theorem CM{n j:Nat}{g:Nat->AV}{K:AV->Prop}(hj:j<=n)(h:K (.lst 2 j g)):jR 59 (.lst 2 n g) (some (.int .i64 0)) (some (.int .i64 (j:Int))) ac K :=
 ⟨rfl,0,j,rfl,rfl,trivial,om,hj,by simpa using h⟩
theorem Jm(n m M:Nat)(A:Nat->Nat->Int)(k:Nat)(h1:n<=100)(h2:m<=M)(h2':M<=100)(h3:1<=m)(hA:∀i j,i<n->j<m->nb (A i j) k)(hk:k<=1000000):MF 186 [aZ n M A,.int .i64 0,.int .i64 m] n m A:=by
 refine MF.of ?_;refine aD func186 rfl 48 ntmps186 kr sm (by simp[results186]) ?_
 rw[aQ,results186];have hz:((0:Int)==(m:Int))=false:=by simp;omega
 simp -dsimp only[go_sem,ak,aa,reduceCtorEq,aZ,bn,hz]
 repeat refine an ?_
 refine aH.intro fun b7 f7=>?_;simp -dsimp only[go_sem];refine aM (fun O S=>∃(i:Nat) (g:Nat->Nat),i<=n/\O 1=.int .i64 0/\O 2=.int .i64 m/\O 7=.sl 1 b7 0 n/\O 18=aZ n M A/\O 19=.int .i64 n/\O 20=.int .i64 i /\
  bE S b7 59 1 n (fun a=>if a<i then .sl 2 (g a) 0 m else .nil)/\(∀a,a<i->gJ S (g a) m (A a))/\∀a c,a<i->c<i->g a=g c->a=c) (fun O S=>n-ca (O 20)) ?_ ?_
 ·simp -dsimp only[go_sem,aa,reduceCtorEq,aZ,bn];exact⟨0,om,rfl,fun _=>0,bE.here fun _ _=>by simp,fun a ha=>om,fun a c ha=>om⟩
 ·rintro O S ⟨i,g,hi,e1,e2,e7,e18,e19,e20,hO,hR,hI⟩;by_cases hlt:i<n
  ·simp -dsimp only[go_sem,aa,↓reduceIte,af,decide_true,aZ,bn,e1,e2,e7,e18,e19,e20,hlt,dp,jE];refine CM h2 ?_;simp -dsimp only[go_sem];refine aM (fun O S'=>∃(j:Nat) (x:AV),j<=m/\O 1=.int .i64 0/\O 2=.int .i64 m/\O 7=.sl 1 b7 0 n/\O 8=.int .i64 i/\O 18=aZ n M A/\O 19=.int .i64 n/\O 20=.int .i64 i/\O 28=bn m (A i)/\O 29=.int .i64 m/\O 30=.int .i64 j /\
    bE S' b7 59 1 n (fun a=>if a<i then .sl 2 (g a) 0 m else if a=i then x else .nil)/\(∀a,a<i->gJ S' (g a) m (A a)/\¬dB x (g a))/\cG 50 2 St.none S' x j (fun c=>.big (A i c))) (fun O S=>m-ca (O 30)) ?_ ?_
   ·simp -dsimp only[go_sem,aa,aZ,bn,e1,e2,e7,e18,e19,e20];exact⟨0,om,rfl,.nil,hO.congr fun a _=>by grind,fun a ha=>⟨hR a ha,by rintro⟨_,_,_,e⟩;cases e⟩,cG.nil (fun k X h=>by cases h) _⟩
   ·rintro O S' ⟨j,x,hj,e1,e2,e7,e8,e18,e19,e20,e28,e29,e30,hO,hR,hX⟩;by_cases hjm:j<m
    ·simp -dsimp only[go_sem,aa,↓reduceIte,af,decide_true,aZ,bn,e1,e2,e7,e18,e19,e20,e28,e29,e30,hjm];refine aH.intro fun b11 f11=>?_;obtain⟨g1,u1,v1⟩:=hO;have v1':g1 i=x:=by rw[v1 i hlt];simp
     have h76:b7≠b11:=bE.fresh (bE.of u1) f11;simp -dsimp only[go_sem,aa,↓reduceIte];refine io 9 kr ?_
     simp -dsimp only[go_sem,aa,au,ae,↓reduceIte,af,e7,e8,hlt,h76,u1,v1',bJ]
     repeat refine an ?_
     refine⟨_,(pQ (hA i j hlt hjm) om).pure',?_⟩;simp -dsimp only[go_sem];have hxb:∀d,dB x d->d≠b11:=hX.fresh f11;have hx7:=hX.other u1 om;refine cG.app50 ((hX.upd (by rfl) hxb _).upd (by rfl) hxb _) om (show dI 2 (.big (A i j))from trivial) (bQ ⟨_,rfl,rfl⟩) ?_
     intro c S2 hX' hk1 hk3;have u1':=hk1 b7 _ (by rw[aP h76,aP h76];exact u1) hx7
     simp -dsimp only[go_sem,aa,↓reduceIte,af,aZ,bn,e1,e2,e7,e8,e18,e19,e20,e28,e29,e30,hlt,u1',a6 (om:j<1000000),ca]
     repeat refine an ?_
     refine⟨⟨j+1,om,rfl,.sl 2 c 0 (j+1),bE.here fun a ha=>?_,fun a ha=>?_,?_⟩,om⟩
     ·have:=v1 a ha;grind [bJ]
     ·obtain⟨r1,r2⟩:=hR a ha;have hg11:g a≠b11:=bE.fresh r1 f11;have hg7:g a≠b7:=bE.ne r1 (bE.of u1) om;refine⟨(r1.via fun X hX=>hk1 _ _ (by rw[aP hg11,aP hg11];exact hX) r2).upd hg7 _,fun hb=>?_⟩
      rw[ez]at hb;rw[<-hb]at hk3;rcases hk3 with h|h
      ·exact r2 h
      ·rw[aP hg11,aP hg11]at h;exact bE.fresh r1 h rfl
     ·refine(hX'.upd (by rfl) (fun d hd e=>?_) _).congr (fun a ha=>by grind)
      rw[e]at hd;exact hX'.other u1' om hd
    ·simp -dsimp only[go_sem,aa,↓reduceIte,af,decide_false,aZ,bn,e1,e2,e7,e18,e19,e20,e28,e29,e30,hjm,a6 (om:i<1000000),ca]
     obtain rfl:j=m:=om
     rcases hX.2 with⟨h0,_⟩|⟨c,_,rfl,hC⟩
     ·omega
     refine⟨⟨i+1,om,rfl,fun a=>if a=i then c else g a,hO.congr fun a ha=>by grind,fun a ha=>?_,fun a d ha hd e=>?_⟩,om⟩
     ·by_cases e:a=i
      ·subst e;simp only[if_true];exact hC
      ·simp only[e,if_false];exact(hR a om).1
     ·have k1:=fun a ha=>(hR a ha).2;simp only[ez]at k1
      grind
  ·simp -dsimp only[go_sem,aa,↓reduceIte,af,decide_false,aZ,bn,e1,e2,e7,e18,e19,e20,hlt];obtain rfl:i=n:=om
   exact⟨b7,rfl,g,hO.congr fun a ha=>by simp[ha],hR,hI⟩
structure pC(n k:Nat)(A:aW)(B:aW):Prop where
 ex:∃R H U,FU n A R H U/\yX n k (fun i j=>jN (n+1) (fun k r=>A r k) U j i)/\B=fun i j=>jN (n+1) (fun k r=>A r k) U j i
theorem xR(n k:Nat)(M:aW)(hP:kV n (dJ n M))(hk:k<=1000000)(hU:∀R H U,FU n (dJ n M) R H U->(∀a r,a<n+1->r<n+n+1->nb (jN (n+1) (fun k r=>dJ n M r k) U a r) k)/\yX n k (fun i j=>jN (n+1) (fun k r=>dJ n M r k) U j i)) :
  cS 123 [aZ n (n+1) M] St.none (fun r S'=>∃b g B,r=.tup [.sl 1 b 0 n,.bool true]/\pC n k (dJ n M) B/\cZ S' b g n n B):=by
 have h1:=hP.h1;have hn:=hP.hn;refine aD func123 rfl 26 ntmps123 kr sm (by simp[results123]) ?_
 rw[aQ,results123];simp -dsimp only[go_sem,aa,ae,reduceCtorEq,ab];refine(AC n k M hP hk fun R H U h=>(hU R H U h).1).mono ?_;rintro _ S1 ⟨R,H,U,hT,V,rfl⟩;have hH:=(hU R H U hT).2;have hB:pC n k (dJ n M) (fun i j=>jN (n+1) (fun k r=>dJ n M r k) U j i):=⟨R,H,U,hT,hH,rfl⟩;generalize (fun i j=>jN (n+1) (fun k r=>dJ n M r k) U j i)=B at hH hB;simp -dsimp only[go_sem,aa,ae,reduceCtorEq,ab];refine(Ff n k B h1 om hk hH).call ?_;simp -dsimp only[go_sem,aa,ae,ab];refine(Jm n n (n+1) B k om om om h1 (fun i j hi hj=>hH.nb i j hi om) hk _ _ (cH _ _)).mono ?_;rintro _ S2 ⟨b,g,rfl,hM⟩;simp -dsimp only[go_sem,aa];exact⟨b,rfl,g,B,hB,hM.1⟩
theorem zm(n m:Nat)(A:aW)(i j:Nat)(S:St)(b1 b6:Nat)(hi:i<n)(hj:j<m)(hA:jQ (A i j))(h1:dl S b1 52 1 (aZ n m A))(h6:dl S b6 4 1 (.bool true)) :
  cS 99 [.int .i64 i,.int .i64 j,.ptr 1 b1 0,.ptr 1 b6 0] S (fun r S'=>r=.int .i64 (A i j)/\Cr b6 S S'/\dl S' b6 4 1 (.bool true)):=by
 refine aD func99 rfl 25 ntmps99 kr sm (by simp[results99]) ?_
 rw[aQ,results99];obtain⟨g1,u1,v1⟩:=id h1;obtain⟨g6,u6,v6⟩:=id h6;simp -dsimp only[go_sem,ak,aa,ae,↓reduceIte,reduceCtorEq,af,ab,u1,v1,aZ,bn,hi,hj];refine(vR hA).call ?_;simp -dsimp only[go_sem,aa,ae,↓reduceIte,reduceCtorEq,ab,v1,u6,v6,aZ,bn];exact⟨(Cr.refl b6 S).upd _,dl.set⟩
structure TIs(T S:St)(b1 b6 n m:Nat)(A:aW):Prop where
 box:dl S b1 52 1 (aZ n m A)
 ok:dl S b6 4 1 (.bool true)
theorem Af(n m:Nat)(A:aW)(S0:St)(b1 b6:Nat)(hn:n<=16)(hm:m<=16)(hA:∀i j:Nat,i<n->j<m->jQ (A i j))(h1:dl S0 b1 52 1 (aZ n m A))(h6:dl S0 b6 4 1 (.bool true)) :
  cS 98 [.int .i64 n,.int .i64 m,.fn 99 [.ptr 1 b1 0,.ptr 1 b6 0]] S0 (fun r S'=>∃b g,r=.sl 1 b 0 n/\dR S' b g n m A/\dl S' b6 4 1 (.bool true)):=by
 refine aD func98 rfl 43 ntmps98 kr sm (by simp[results98]) ?_
 rw[aQ,results98];simp -dsimp only[go_sem,ak,aa,reduceCtorEq]
 repeat refine an ?_
 refine aH.intro fun bc fc=>?_;simp -dsimp only[go_sem];have n1c:b1≠bc:=h1.fresh fc;have n6c:b6≠bc:=h6.fresh fc;refine aM (fun O S'=>∃i:Nat,i<=n/\O 1=.int .i64 m/\O 2=.fn 99 [.ptr 1 b1 0,.ptr 1 b6 0]/\O 7=.sl 1 bc 0 n/\O 13=.int .i64 n/\O 14=.int .i64 i/\dl S' b1 52 1 (aZ n m A)/\dl S' b6 4 1 (.bool true)/\∃g',eO 29 2 1 St.none S' bc g' n m i (fun a j=>.int .i64 (A a j))) (fun O S=>n-ca (O 14)) ?_ ?_
 ·simp -dsimp only[go_sem,aa,reduceCtorEq];refine⟨0,om,rfl,h1.upd n1c _,h6.upd n6c _,fun _=>0,(eO.init (S1:=St.none) (b:=bc) (z:=fun _=>.nil) rfl (fun _ _=>rfl) _ _).other fun k X hX=>?_⟩
  simp only[St.upd]at hX ⊢;split at hX
  ·rename_i e;rw[if_pos e];exact hX
  ·cases hX
 ·clear h1 h6 n1c n6c;rintro O S' ⟨i,hi,e1,e2,e7,e13,e14,h1,h6,g',hR⟩;by_cases hit:i<n
  ·obtain⟨g4,u4,v4⟩:=id hR.outer;simp -dsimp only[go_sem,aa,↓reduceIte,af,decide_true,ab,e1,e7,e13,e14,hit]
   repeat refine an ?_
   refine aH.intro fun bd fd=>?_;have hdc:bc≠bd:=bE.fresh hR.outer fd;have hset:bJ g4 i (.sl 1 bd 0 m) i=.sl 1 bd 0 m:=by simp[bJ]
   simp -dsimp only[go_sem,hit,u4,hdc,hset];have hR1:=hR.push dc fd u4 (fun _=>.int .i64 0)
   have k1:b1≠bc:=by obtain⟨x,k,_⟩:=h1;rintro rfl;rw[u4]at k;cases k
   have k6:b6≠bc:=by obtain⟨x,k,_⟩:=h6;rintro rfl;rw[u4]at k;cases k
   have h1':=(h1.upd (h1.fresh fd) ⟨2,1,m,fun _=>.int .i64 0⟩).upd k1 ⟨29,1,n,bJ g4 i (.sl 1 bd 0 m)⟩;have h6':=(h6.upd (h6.fresh fd) ⟨2,1,m,fun _=>.int .i64 0⟩).upd k6 ⟨29,1,n,bJ g4 i (.sl 1 bd 0 m)⟩;generalize hgg:(fun a=>if a=i then bd else g' a)=gg at hR1
   refine aM (fun O S'=>∃j:Nat,j<=m/\O 1=.int .i64 m/\O 2=.fn 99 [.ptr 1 b1 0,.ptr 1 b6 0]/\O 7=.sl 1 bc 0 n/\O 8=.int .i64 i/\O 13=.int .i64 n/\O 14=.int .i64 i/\O 26=.int .i64 m/\O 27=.int .i64 j/\dl S' b1 52 1 (aZ n m A)/\dl S' b6 4 1 (.bool true)/\eO 29 2 1 St.none S' bc gg n m (i+1) (fun a c=>.int .i64 (if a=i/\j<=c then 0 else A a c))) (fun O S=>m-ca (O 27)) ?_ ?_
   ·simp -dsimp only[go_sem,aa,e1,e2,e7,e13,e14];refine⟨0,om,rfl,h1',h6',hR1.congr fun a c _ _=>?_⟩
    by_cases e:a=i
    ·simp[e]
    ·simp[e]
   ·clear e1 e2 e7 e13 e14 hR hR1 u4 v4 hgg h1' h6' h1 h6 k1 k6;rintro O S' ⟨j,hj,e1,e2,e7,e8,e13,e14,e26,e27,h1,h6,hR⟩;by_cases hjt:j<m
    ·obtain⟨g4,u4,v4⟩:=id hR.outer;obtain⟨g5,u5,v5⟩:=id (hR.row i om);have x4:g4 i=.sl 1 (gg i) 0 m:=(v4 i hit).trans (if_pos om);have k6:bc≠b6:=by obtain⟨x,k,_⟩:=h6;rintro rfl;rw[u4]at k;cases k
     have k6g:∀a,a<i+1->gg a≠b6:=fun a ha=>by
      obtain⟨x,k,_⟩:=h6;obtain⟨y,l,_⟩:=hR.row a ha;intro e;rw[e,k]at l;cases l
     have k1:b1≠b6:=by obtain⟨x,k,_⟩:=h6;obtain⟨y,l,_⟩:=h1;rintro rfl;rw[k]at l;cases l
     simp -dsimp only[go_sem,aa,↓reduceIte,af,decide_true,e1,e2,e7,e13,e14,e26,e27,hjt];refine eL 8 [[0,1,2,3,4],[],[]] kr ?_
     simp -dsimp only[go_sem,aa,ae,↓reduceIte,af,ab,e2,e7,e8,hit,u4,x4];refine(zm n m A i j S' b1 b6 hit hjt (hA i j hit hjt) h1 h6).mono ?_;rintro _ S2 ⟨rfl,hC,h6'⟩;have u4':=(hC bc k6).trans u4;have u5':=(hC (gg i) (k6g i om)).trans u5;have hR':eO 29 2 1 St.none S2 bc gg n m (i+1) (fun a c=>.int .i64 (if a=i/\j<=c then 0 else A a c)):=⟨eJ.noneS _,hR.new,hC.has k6 hR.outer,fun a ha=>hC.has (k6g a ha) (hR.row a ha),hR.rnew,hR.inj⟩
     have h1':=hC.var k1 h1;have kb1:b1≠gg i:=by obtain⟨x,k,_⟩:=h1';rintro rfl;rw[u5']at k;cases k
     have kb6:b6≠gg i:=fun e=>k6g i om e.symm;simp -dsimp only[go_sem,aa,↓reduceIte,reduceCtorEq,af,ab,e1,e2,e7,e8,e13,e14,e26,e27,hit,hjt,u4',x4,u5',a6 (om:j<1000000),ca]
     refine⟨⟨j+1,om,rfl,h1'.upd kb1 _,h6'.upd kb6 _,(hR'.put dc (om:i<i+1) u5' j (.int .i64 (A i j))).congr fun a c _ _=>?_⟩,om⟩
     by_cases e:a=i/\c=j
     ·obtain⟨rfl,rfl⟩:=e;rw[if_pos ⟨rfl,rfl⟩,if_neg om]
     ·rw[if_neg e];congr 1;by_cases e2:a=i/\j<=c
      ·rw[if_pos e2,if_pos om]
      ·rw[if_neg e2,if_neg om]
    ·simp -dsimp only[go_sem,aa,↓reduceIte,af,decide_false,e1,e2,e7,e13,e14,e26,e27,hjt,a6 (om:i<1000000),ca]
     exact⟨⟨i+1,om,rfl,h1,h6,gg,hR.congr fun a c _ hc=>by rw[if_neg om]⟩,om⟩
  ·obtain rfl:i=n:=om
   have hN:=hR.imat (A:=A) (fun _ _ _ _=>rfl);simp -dsimp only[go_sem,aa,↓reduceIte,af,decide_false,ab,e1,e7,e13,e14,hit];exact⟨bc,rfl,g',hN.1,h6⟩
theorem rR(n m:Nat)(A:aW)(h1:1<=n)(h2:n<=16)(h3:1<=m)(h4:m<=16)(hA:∀i j:Nat,i<n->j<m->jQ (A i j)):wU 43 [aZ n m A] n m A:=by
 refine wU.of ?_;refine aD func43 rfl 23 ntmps43 kr sm (by simp[results43]) ?_
 rw[aQ,results43];simp -dsimp only[go_sem,aa,ae,↓reduceIte,ab,aZ,bn];refine aH.intro fun b1 f1=>?_
 try simp -dsimp only[go_sem,ae]
 refine(jP n m A h1 h2 h3 h4).call ?_;simp -dsimp only[go_sem,aa,↓reduceIte];refine aH.intro fun b6 f6=>?_;have n6_1:=(ai f6).1;have q1:b1≠b6:=n6_1.symm;simp -dsimp only[go_sem,aa,ae,↓reduceIte,ab,ed];refine(Af n m A _ b1 b6 h2 h4 hA ?_ ?_).mono ?_
 ·refine dl.upd (dl.upd (dl.new ?_) q1 _) q1 _;rfl
 ·exact dl.set
 rintro _ S2 ⟨b,g,rfl,hM,h6⟩;obtain⟨g6,u6,v6⟩:=id h6;simp -dsimp only[go_sem,aa,ae,↓reduceIte,ab,u6,v6];exact⟨b,rfl,g,hM⟩
theorem so(b:Nat)(m:Int)(S:St):cS 227 [.sl 1 b 0 1,.int .i64 m] S (fun r S'=>r=.int .i64 1/\eJ S S'):=by
 refine aD func227 rfl 75 ntmps227 kr sm (by simp[results227]) ?_
 rw[aQ,results227];simp -dsimp only[go_sem,ak,aa,ae,reduceCtorEq,ab];refine(lC m S).mono ?_;rintro _ S1 ⟨bm,hbm,rfl,hE,hV⟩;simp -dsimp only[go_sem,aa,reduceCtorEq];refine eF (fun O S'=>∃c:Nat,c<=1/\S'=S1/\O 0=.sl 1 b 0 1/\O 6=.int .i64 1/\O 12=.int .i64 ((1:Nat):Int)/\O 13=.int .i64 c) (fun O S=>1-ca (O 13)) ?_ ?_
 ·simp -dsimp only[go_sem,aa,reduceCtorEq];exact⟨0,om,rfl⟩
 rintro Q' hQ' O S' ⟨c,hc,rfl,e0,e6,e12,e13⟩;by_cases hct:c<1
 ·obtain rfl:c=0:=om
  simp -dsimp only[go_sem,aa,af,decide_true,e12,e13,hct];refine eF (fun O S=>S=S'/\O 0=.sl 1 b 0 1/\O 6=.int .i64 1/\O 8=.int .i64 1/\O 12=.int .i64 ((1:Nat):Int)/\O 13=.int .i64 ((0:Nat):Int)) (fun O S=>0) ?_ ?_
  ·simp -dsimp only[go_sem,aa,reduceCtorEq,e0,e6,e12,e13];rw[a6 (k:=0) om];rfl
  clear e0 e6 e12 e13;rintro Q'' hQ'' O S ⟨rfl,e0,e6,e8,e12,e13⟩;simp -dsimp only[go_sem,aa,ae,reduceCtorEq,e0,e8,show decide ((1:Int)<((1:Nat):Int))=false by rfl]
  rw[hQ''];simp -dsimp only[go_sem,aa,↓reduceIte,reduceCtorEq,e0,e6,e12,e13,ca];rw[a6 (k:=0) om];exact⟨⟨1,om,rfl⟩,sm⟩
 ·simp -dsimp only[go_sem,aa,af,decide_false,e12,e13,hct];rw[hQ'];simp -dsimp only[go_sem,aa,↓reduceIte,e6];exact hE
theorem appZ1{S:St}{b:Nat}{g:Nat->AV}{K:AV->St->Prop}(hb:S b=some ⟨2,1,1,g⟩)(hK:∀b',(b'=b∨S b'=ac)->K (.sl 1 b' 0 2) ((S.del b).upd b' ⟨2,1,2,lP g 1 1 (fun _=>.int .i64 0)⟩)):mi 29 (.sl 1 b 0 1) (.int .i64 1) S K:=by
 show(match c9 29,S b with
  | some e,some X=>(match fD e with
   | some (es',z,_)=>es'=1/\1=bP e/\0=0/\X.ty=e/\X.es=1/\X.n=1/\1<=1/\1+1<=1048576 /\
    ∀b',(b'=b∨S b'=ac)->K (.sl 1 b' 0 (1+1)) ((S.del b).upd b' ⟨e,1,1+1,lP X.g 1 1 (fun _=>z)⟩)
   | ac=>False)
  | _,_=>False)
 rw[hb];exact⟨rfl,rfl,rfl,rfl,rfl,rfl,om,om,hK⟩
theorem Ie{S:St}{b n off len:Nat}{g:Nat->AV}{v:Nat->Int}{K:AV->St->Prop}(hb:S b=some ⟨2,1,n,g⟩)(hg:∀j,j<len->g (off+j)=.int .i64 (v j))(h1:0<len)(h2:off+len<=n)(h3:len<=1000)
  (hK:∀b' h,S b'=ac->(∀j,j<len->h j=.int .i64 (v j))->K (.sl 1 b' 0 len) (S.upd b' ⟨2,1,len,h⟩)):eV 29 29 .nil (.sl 1 b off len) S K:=by
 have e1:wZ S (.sl 1 b off len)=some (1,len,fun j=>g (off+j),some b):=by simp[wZ,hb,h2]
 unfold eV;rw[show c9 29=some 2 from rfl,e1];refine⟨rfl,rfl,rfl,h1,fun j hj=>?_,om,fun b' hb'=>hK b' _ hb' fun k hk=>hg k hk⟩
 show dI 1 (g (off+j));rw[hg j hj];simp[dI]
theorem Bo{b:Nat}{K:AV->Prop}(h:K (.sl 1 b 1 1)):jR 29 (.sl 1 b 0 2) (some (.int .i64 1)) ac ac K :=
 ⟨rfl,1,2,rfl,rfl,trivial,om,om,h⟩
theorem Iz{ops:Array Oper}{l:List Oper}{O:Tm}{S:St}{K:Tm->St->Prop}(P:St->Prop)(hP:P S)(h:∀T,P T->AK ops l O T K):AK ops l O S K:=h S hP
theorem L8:((1:Nat):Int)=1:=om
theorem c0i:((0:Nat):Int)=0:=om
def Gc(a p:Int):Nat->Int:=fun j=>if j=0 then a%p else 1
theorem r8(F:Nat)(a p:Int)(hp:2<=p)(hp2:p<=1000000)(he:ph F p (a%p) 0 1=true):xO 179 [aN 1 1 (fun _ _=>a),.int .i64 p] 1 1 (fun _ _=>zZ F p (a%p) 0 1%p):=by
 refine xO.of ?_;refine aD func179 rfl 123 ntmps179 kr sm (by simp[results179]) ?_
 rw[aQ,results179];have hr0:0<=a%p/\a%p<p:=⟨aY _ om,aV _ om⟩;generalize hf:zZ F p (a%p) 0 1%p=f;have hf0:0<=f/\f<p:=by rw[<-hf];exact⟨aY _ om,aV _ om⟩
 simp -dsimp only[go_sem,ak,aa,ae,reduceCtorEq,ab,aN,bO];refine(tn 1 (fun _ _=>a) om om).call ?_;simp -dsimp only[go_sem,aa,ae,reduceCtorEq,ab];refine(jM p hp om).call ?_;simp -dsimp only[go_sem,aa,ae,reduceCtorEq,ab];refine(lm 1 1 (fun _ _=>a) p om om om om _ _ (cH _ _)).mono ?_;rintro _ S1 ⟨b,g,rfl,hM,_⟩;have hO1:=hM.outer;have hR1:=hM.row 0 om;simp -dsimp only[go_sem,aa,reduceCtorEq];refine eF (fun O S=>∃i:Nat,i<=1/\O 1=.int .i64 p/\O 7=.int .i64 ((1:Nat):Int)/\O 8=.sl 1 b 0 1/\O 30=.int .i64 ((1:Nat):Int)/\O 31=.int .i64 i/\∃c,bE S b 29 1 1 (fun _=>.sl 1 c 0 (1+i))/\bE S c 2 1 (1+i) (fun j=>.int .i64 (Gc a p j))) (fun O S=>1-ca (O 31)) ?_ ?_
 ·simp -dsimp only[go_sem,aa,reduceCtorEq];refine⟨0,om,rfl,g 0,hO1.congr fun j hj=>?_,hR1.congr fun j hj=>?_⟩
  ·obtain rfl:j=0:=om
   rfl
  ·obtain rfl:j=0:=om
   simp[Gc,kq]
 clear hM hO1 hR1;rintro Q' hQ' O S ⟨i,hi,e1,e7,e8,e30,e31,c,hB,hC⟩;by_cases hit:i<1
 ·obtain rfl:i=0:=om
  have hbc:b≠c:=bE.ne hB hC dc
  obtain⟨gb,ub,vb⟩:=id hB;obtain⟨gc,uc,vc⟩:=id hC;have xb:gb 0=.sl 1 c 0 1:=vb 0 om;have xc:gc 0=.int .i64 (a%p):=(vc 0 om).trans (by simp[Gc])
  simp -dsimp only[go_sem,aa,↓reduceIte,az,ab,e7,e8,e30,e31,hit,ub,xb,L8,c0i]
  repeat refine an ?_
  refine appZ1 uc ?_;intro b' hb';have hbb:b≠b':=by
   rcases hb' with rfl|h
   ·exact hbc
   ·exact bE.fresh hB h
  refine Iz (fun T=>bE T b 29 1 1 (fun _=>.sl 1 c 0 1)/\bE T b' 2 1 2 (fun j=>.int .i64 (if j=0 then a%p else 0))) ?_ ?_
  ·refine⟨⟨gb,?_,vb⟩,bE.here fun j hj=>?_⟩
   ·rw[aP hbb];unfold St.del;rw[if_neg hbc];exact ub
   ·match j,hj with
    | 0,_=>simp[lP,bJ,xc]
    | 1,_=>simp[lP,bJ]
  clear hB hC ub uc vb vc xb xc hbc hb';rintro T ⟨hB,hC⟩;obtain⟨gb,ub,vb⟩:=id hB;obtain⟨gc,uc,vc⟩:=id hC;have hbb':b'≠b:=hbb.symm;have w1:IntKind.i64.wrap (1+0)=1:=dK (n:=1) om om;have w01:IntKind.i64.wrap (0+1)=1:=dK (n:=1) om om;simp -dsimp only[go_sem,aa,↓reduceIte,reduceCtorEq,az,ab,e1,e7,e8,e30,e31,hit,ub,uc,L8,c0i,hbb',ed,w1,w01,ca]
  repeat refine an ?_
  refine⟨⟨1,om,rfl,b',?_,?_⟩,om⟩
  ·refine bE.upd (bE.here fun j hj=>?_) hbb _;obtain rfl:j=0:=om
   simp[bJ]
  ·refine bE.here fun j hj=>?_
   match j,hj with
   | 0,_=>simp[bJ,vc 0 om,Gc]
   | 1,_=>simp[bJ,Gc]
 obtain rfl:i=1:=om
 simp -dsimp only[go_sem,ak,aa,↓reduceIte,af,decide_false,ab,e7,e8,e30,e31,hit];rw[hQ'];simp -dsimp only[go_sem,aa,ae,↓reduceIte,ab,e1,e8];refine(so b p S).mono ?_;rintro _ S2 ⟨rfl,hE2⟩
 replace hB:=hE2.has hB
 replace hC:=hE2.has hC
 simp -dsimp only[go_sem,aa,ae,ab,e1,e8];refine(lC p S2).mono ?_;rintro _ S3 ⟨bm,_,rfl,hE3,_⟩
 replace hB:=hE3.has hB
 replace hC:=hE3.has hC
 have w0:IntKind.i64.wrap (1-1)=0:=dK (n:=0) om om;simp -dsimp only[go_sem,aa,e1,e7,L8,w0];clear hE2 hE3 hQ' hit;refine eF (fun O S=>∃k:Nat,k<=1/\O 1=.int .i64 p/\O 7=.int .i64 1/\O 8=.sl 1 b 0 1/\O 11=.int .i64 ((k:Int)-1)/\bE S b 29 1 1 (fun _=>.sl 1 c 0 2)/\bE S c 2 1 2 (fun j=>.int .i64 (if k=0 then Gc a p j*f%p else Gc a p j))) (fun O S=>Fx (O 11)) ?_ ?_
 ·simp -dsimp only[go_sem,aa,e1,e7,e8,L8];exact⟨1,om,rfl,hB,hC.congr fun j _=>by simp⟩
 clear hB hC e1 e7 e8 e30 e31;rintro Q' hQ' O S ⟨k,hk,e1,e7,e8,e11,hB,hC⟩;have hbc:b≠c:=bE.ne hB hC dc
 by_cases hk0:k=0
 ·subst hk0;have d1:decide ((0:Int)<=((0:Nat):Int)-1)=false:=by simp
  simp -dsimp only[go_sem,aa,ae,↓reduceIte,ab,e1,e8,e11,d1];rw[hQ'];simp -dsimp only[go_sem,aa,↓reduceIte,e8];refine eF (fun O S=>∃i:Nat,i<=1/\O 7=.int .i64 1/\O 8=.sl 1 b 0 1/\O 107=.int .i64 ((1:Nat):Int)/\O 108=.int .i64 i/\∃c,bE S b 29 1 1 (fun _=>.sl 1 c 0 (2-i))/\bE S c 2 1 (2-i) (fun j=>.int .i64 (if i=0 then Gc a p j*f%p else f))) (fun O S=>1-ca (O 108)) ?_ ?_
  ·simp -dsimp only[go_sem,aa,e7,e8];exact⟨0,om,rfl,c,hB,hC⟩
  clear hB hC e1 e7 e8 e11 hbc;rintro Q'' hQ'' O S ⟨i,hi,e7,e8,e107,e108,c,hB,hC⟩;have hbc:b≠c:=bE.ne hB hC dc
  by_cases hit:i<1
  ·obtain rfl:i=0:=om
   obtain⟨gb,ub,vb⟩:=id hB;obtain⟨gc,uc,vc⟩:=id hC;have xb:gb 0=.sl 1 c 0 2:=vb 0 om;simp -dsimp only[go_sem,aa,↓reduceIte,az,ab,e7,e8,e107,e108,hit,ub,xb,L8,c0i,dp,jE]
   repeat refine an ?_
   refine Bo ?_
   try simp -dsimp only[go_sem,ak,aa,au,ae,↓reduceIte,reduceCtorEq,af,decide_true,decide_false,az,e7,e8,e107,e108,hit,ub,xb,L8,c0i]
   refine Ie (v:=fun _=>f) uc (fun j hj=>?_) om om om ?_
   ·obtain rfl:j=0:=om
    rw[vc 1 om];simp only[Gc];rw[if_pos trivial,if_neg om,eg,dq hf0.1 hf0.2]
   intro b' h hb' hh;have hbb:b≠b':=bE.fresh hB hb';have w1:IntKind.i64.wrap (0+1)=1:=dK (n:=1) om om;simp -dsimp only[go_sem,aa,↓reduceIte,az,ab,e7,e8,e107,e108,hit,ub,L8,c0i,hbb,w1,ca]
   repeat refine an ?_
   refine⟨⟨1,om,rfl,b',?_,?_⟩,om⟩
   ·refine bE.here fun j hj=>?_;obtain rfl:j=0:=om
    simp[bJ]
   ·refine bE.upd (bE.here fun j hj=>?_) hbb.symm _;rw[hh j hj];simp
  obtain rfl:i=1:=om
  simp -dsimp only[go_sem,ak,aa,↓reduceIte,af,decide_false,ab,e7,e8,e107,e108,hit];rw[hQ''];simp -dsimp only[go_sem,aa,↓reduceIte,e8];refine⟨b,rfl,fun _=>c,hB,fun i _=>hC.congr fun j _=>by simp,fun i j h1 h2 _=>om⟩
 obtain rfl:k=1:=om
 obtain⟨gb,ub,vb⟩:=id hB;obtain⟨gc,uc,vc⟩:=id hC;have xb:gb 0=.sl 1 c 0 2:=vb 0 om;have xc:gc 0=.int .i64 (a%p):=(vc 0 om).trans (by simp[Gc])
 have d1:decide ((0:Int)<=((1:Nat):Int)-1)=true:=by simp
 have w2:((1:Nat):Int)-1=((0:Nat):Int):=om
 rw[w2]at e11 d1;simp -dsimp only[go_sem,aa,ae,↓reduceIte,af,decide_true,ab,e1,e8,e11,ub,uc,xb,xc];refine(xr F (a%p) p om om he).call ?_;rw[hf];simp -dsimp only[go_sem,aa,ae,↓reduceIte,af,ab,e1,e8,e11,ub,xb,xc];refine(CP 2 c (Gc a p) f p S om om hp2 hf0 (fun j hj=>?_) (hC.congr fun j _=>by simp)).mono ?_
 ·unfold Gc;split<;>omega
 rintro _ S4 ⟨hCh,hC4⟩;have hB4:=hCh.has hbc hB;simp -dsimp only[go_sem,aa,↓reduceIte,e1,e8,e11];refine eF (fun O S=>S=S4/\O 1=.int .i64 p/\O 7=.int .i64 1/\O 8=.sl 1 b 0 1/\O 11=.int .i64 ((0:Nat):Int)/\O 84=.int .i64 ((0:Nat):Int)/\O 85=.int .i64 0) (fun O S=>0) ?_ ?_
 ·simp -dsimp only[go_sem,aa,e1,e7,e8,e11]
 clear e1 e7 e8 e11;rintro Q'' hQ'' O S ⟨rfl,e1,e7,e8,e11,e84,e85⟩;simp -dsimp only[go_sem,aa,ae,e84,e85,show decide ((0:Int)<((0:Nat):Int))=false by simp]
 rw[hQ''];have w3:IntKind.i64.wrap (((0:Nat):Int)-1)=((0:Nat):Int)-1:=i64_in om om;simp -dsimp only[go_sem,aa,↓reduceIte,e1,e7,e8,e11,w3,Fx];refine⟨⟨0,om,rfl,hB4,hC4.congr fun j _=>by simp⟩,sm⟩
theorem sB(F:Nat)(a p:Int)(hp:2<=p)(hp2:p<=1000000)(he:ph F p (a%p) 0 1=true):PF 142 [.int .i64 a,.int .i64 p] (.int .i64 (zZ F p (a%p) 0 1%p)):=by
 refine PF.of_spec (aD func142 rfl 22 ntmps142 kr sm (by simp[results142]) ?_)
 rw[aQ,results142];simp -dsimp only[go_sem,ak,reduceCtorEq];refine aH.intro fun b9 f9=>?_;simp -dsimp only[go_sem,reduceCtorEq];refine aH.intro fun b10 f10=>?_;have n10_9:=(ai f10).1
 try simp -dsimp only[go_sem,aa,au,ae,reduceCtorEq]
 have hIM:dR ((St.none.upd b9 ⟨2,1,1,fun j=>[AV.int .i64 a].getD j .any⟩).upd b10 ⟨29,1,1,fun j=>[AV.sl 1 b9 0 1].getD j .any⟩) b10 (fun _=>b9) 1 1 (fun _ _=>a):=by
  refine⟨bE.here fun j hj=>?_,fun j _=>bE.upd (bE.here fun k hk=>?_) n10_9.symm _,fun i j h1 h2 _=>om⟩
  ·obtain rfl:j=0:=om
   rfl
  ·obtain rfl:k=0:=om
   rfl
 refine(r8 F a p hp hp2 he _ _ (dO.two hIM.vr.va (VA.refl _ _))).mono ?_;rintro _ S1 ⟨b,g,rfl,hM,_⟩;obtain⟨gb,ub,vb⟩:=id hM.outer;obtain⟨gc,uc,vc⟩:=id (hM.row 0 om);have xb:gb 0=.sl 1 (g 0) 0 1:=vb 0 om;have xc:gc 0=.int .i64 (zZ F p (a%p) 0 1%p):=vc 0 om;simp -dsimp only[go_sem,aa,ae,↓reduceIte,reduceCtorEq,az,ab,ub,uc,xb,xc]
 repeat refine an ?_
 exact VR.mf rfl
def fA(n:Nat)(H:aW)(p:Int)(v:Nat->Int):Nat->Int:=fun i=>jz (kq H p) (kq (fun i _=>v i) p) n p i 0
theorem qQ{n:Nat}{H:aW}{p:Int}{v:Nat->Int}(hp:2<=p)(i:Nat):0<=fA n H p v i/\fA n H p v i<p:=⟨aY _ om,aV _ om⟩
theorem xi(F n piv:Nat)(H:aW)(p:Int)(v:Nat->Int)(inv:Int)(h1:1<=n)(hn:n<=8)(hp:2<=p)(hp2:p<=1000)(hpiv:piv<n)(hw0:fA n H p v piv≠0)(hwz:∀i,i<piv->fA n H p v i=0)(he:ph F p (fA n H p v piv%p) 0 1=true)(hinv:inv=zZ F p (fA n H p v piv%p) 0 1%p) :
  F5 122 [aN n n H,.int .i64 p,bO n v] n n (fun j i=>fT p piv (fun j=>fA n H p v j*inv%p) i j):=by
 refine F5.of ?_;refine aD func122 rfl 103 ntmps122 kr sm (by simp[results122]) ?_
 rw[aQ,results122];have hi0:0<=inv/\inv<p:=by rw[hinv];exact⟨aY _ om,aV _ om⟩
 simp -dsimp only[go_sem,ak,aa,reduceCtorEq,bO]
 repeat refine an ?_
 refine aH.intro fun b7 f7=>?_;simp -dsimp only[go_sem];refine aM (fun O S=>∃i:Nat,i<=n/\O 0=aN n n H/\O 1=.int .i64 p/\O 2=bO n v/\O 7=.sl 1 b7 0 n/\O 19=bO n v/\O 20=.int .i64 n/\O 21=.int .i64 i/\∃g',eO 29 2 1 St.none S b7 g' n 1 i (fun a _=>.int .i64 (v a))) (fun O S=>n-ca (O 21)) ?_ ?_
 ·simp -dsimp only[go_sem,aa,reduceCtorEq,bO];exact⟨0,om,rfl,fun _=>0,eO.init f7 (fun _ _=>rfl) _ _⟩
 rintro O S ⟨i,hi,e0,e1,e2,e7,e19,e20,e21,g',hR⟩;by_cases hit:i<n
 ·obtain⟨g4,u4,v4⟩:=id hR.outer;simp -dsimp only[go_sem,aa,ae,↓reduceIte,reduceCtorEq,af,decide_true,ab,bO,e0,e1,e7,e19,e20,e21,hit];refine aH.intro fun b29 f29=>?_;have hne:b7≠b29:=bE.fresh hR.outer f29;simp -dsimp only[go_sem,aa,↓reduceIte,reduceCtorEq,af,ab,bO,e0,e1,e2,e7,e19,e20,e21,hit,u4,hne,a6 (om:i<1000000),ca]
  refine⟨⟨i+1,om,rfl,_,(hR.push dc f29 u4 (fun j=>[AV.int .i64 (v i)].getD j .any)).congr fun a c ha hc=>?_⟩,om⟩
  obtain rfl:c=0:=om
  by_cases e:a=i
  ·subst e;simp
  ·rw[if_neg e]
 have hin:i=n:=om
 subst hin;have hN:=hR.imat (A:=fun i _=>v i) (fun _ _ _ _=>rfl);simp -dsimp only[go_sem,aa,ae,↓reduceIte,reduceCtorEq,af,decide_false,ab,bO,e0,e1,e7,e19,e20,e21,hit];refine(F1 i i 1 H (fun i _=>v i) p h1 om h1 om om om hp om S _ (dO.three (VA.refl _ _) hN.1.vr.va (VA.refl _ _))).mono ?_;rintro _ S1 ⟨bw,gw,rfl,hW,_,_,_⟩;simp -dsimp only[go_sem,aa,ae,reduceCtorEq,ab,e0,e1,e7];have hWv:∀k,jz (kq H p) (kq (fun i _=>v i) p) i p k 0=fA i H p v k:=fun _=>rfl;refine(Ax i 1 piv _ om om hpiv (by rw[hWv];exact hw0) (fun k hk=>by rw[hWv];exact hwz k hk)).spec (dO.two hW.vr.va (VA.refl _ _)) ?_
 obtain⟨go,uo,vo⟩:=id hW.outer;obtain⟨gp,up,vp⟩:=id (hW.row piv hpiv);have xo:go piv=.sl 1 (gw piv) 0 1:=vo piv hpiv;have xp:gp 0=.int .i64 (fA i H p v piv):=vp 0 om;simp -dsimp only[go_sem,aa,ae,↓reduceIte,af,az,ab,e1,hpiv,uo,up,xo,xp]
 repeat refine an ?_
 refine(sB F (fA i H p v piv) p hp om he).call ?_;rw[<-hinv];simp -dsimp only[go_sem,aa,↓reduceIte,bO,e1,e2]
 repeat refine an ?_
 refine aH.intro fun b14 f14=>?_;simp -dsimp only[go_sem];have hq:∀k,0<=fA i H p v k*inv%p/\fA i H p v k*inv%p<p:=fun k=>⟨aY _ om,aV _ om⟩;have hpp:p*p<=1000000:=by have:=cY hp2 hp2 om om;omega
 have hpp0:0<=p*p:=du om om;have hmul:∀a b:Int,0<=a->a<p->0<=b->b<p->0<=a*b/\a*b<=1000000:=fun a b a0 a1 b0 b1=>by
  have h1:=cY (om:a<=p) (om:b<=p) b0 om
  exact⟨du a0 b0,om⟩
 clear uo up vo vp xo xp;refine eF (fun O S=>∃j:Nat,j<=i/\O 1=.int .i64 p/\O 2=bO i v/\O 10=.sl 1 bw 0 i/\O 12=.int .i64 piv/\O 13=.int .i64 inv/\O 14=.sl 1 b14 0 i/\O 53=.int .i64 i/\O 54=.int .i64 j/\∃g',eO 29 2 1 S1 S b14 g' i i j (fun a c=>.int .i64 (fT p piv (fun j=>fA i H p v j*inv%p) c a))) (fun O S=>i-ca (O 54)) ?_ ?_
 ·simp -dsimp only[go_sem,aa,e1,e2,bO];exact⟨0,om,rfl,fun _=>0,eO.init f14 (fun _ _=>rfl) _ _⟩
 clear e0 e1 e2 e7 e19 e20 e21;rintro Q' hQ' O S ⟨j,hj,e1,e2,e10,e12,e13,e14,e53,e54,g',hR⟩;by_cases hjt:j<i
 ·obtain⟨g4,u4,v4⟩:=id hR.outer;by_cases hjp:j=piv
  ·subst hjp;simp -dsimp only[go_sem,aa,↓reduceIte,af,decide_true,ab,bO,e1,e2,e10,e12,e13,e14,e53,e54,hjt,beq_self_eq_true]
   repeat refine an ?_
   refine aH.intro fun b61 f61=>?_;have hdc:b14≠b61:=bE.fresh hR.outer f61;have hcd:b61≠b14:=hdc.symm;have hR1:=hR.push dc f61 u4 (fun _=>.int .i64 0)
   have wpp:IntKind.i64.wrap (p*p)=p*p:=i64_in om om;simp -dsimp only[go_sem,reduceCtorEq,af,hjt,u4,hdc,hcd,ed,wpp,a6 (om:j<1000000),ca]
   have hR2:=hR1.put dc (om:j<j+1) (g':=fun _=>.int .i64 0) (by rw[if_pos rfl,aP hcd,bZ]) j (.int .i64 (p*p))
   rw[show(if j=j then b61 else g' j)=b61 from if_pos rfl]at hR2
   refine⟨⟨j+1,om,rfl,_,hR2.congr fun a c ha hc=>?_⟩,om⟩
   by_cases ea:a=j
   ·subst ea;simp only[true_and,if_true,fT];by_cases ec:c=a
    ·rw[if_pos ec,if_pos ec]
    ·rw[if_neg ec,if_neg ec]
   ·rw[if_neg (fun h=>ea h.1),if_neg ea]
  ·have hjb:((j:Int)==(piv:Int))=false:=by simp;omega
   simp -dsimp only[go_sem,aa,↓reduceIte,af,decide_true,ab,bO,e1,e2,e10,e12,e13,e14,e53,e54,hjt,hjb]
   repeat refine an ?_
   refine aH.intro fun b61 f61=>?_;have hdc:b14≠b61:=bE.fresh hR.outer f61;have hcd:b61≠b14:=hdc.symm;have hR1:=hR.push dc f61 u4 (fun _=>.int .i64 0)
   simp -dsimp only[go_sem,reduceCtorEq,af,hjt,u4,hdc,hcd,ed];have hR2:=hR1.put dc (om:j<j+1) (g':=fun _=>.int .i64 0) (by rw[if_pos rfl,aP hcd,bZ]) j (.int .i64 p)
   rw[show(if j=j then b61 else g' j)=b61 from if_pos rfl]at hR2
   refine mK (fun T=>∃gg,eO 29 2 1 S1 T b14 gg i i (j+1) (fun a c=>if a=j then .int .i64 (if c=j then p else 0)else .int .i64 (fT p piv (fun j=>fA i H p v j*inv%p) c a))) ⟨_,hR2.congr fun a c ha hc=>?_⟩ ?_
   ·by_cases ea:a=j
    ·subst ea;simp only[true_and,if_true];by_cases ec:c=a
     ·rw[if_pos ec,if_pos ec]
     ·rw[if_neg ec,if_neg ec]
    ·rw[if_neg (fun h=>ea h.1),if_neg ea,if_neg ea]
   clear hR hR1 hR2 u4 v4 hdc hcd;rintro T ⟨gg,hT⟩;obtain⟨go,uo,vo⟩:=id hT.outer;obtain⟨gr,ur,vr⟩:=id (hT.row j om);have hWT:=hW.ext hT.ext;obtain⟨gx,ux,vx⟩:=id hWT.outer;obtain⟨gy,uy,vy⟩:=id (hWT.row j hjt);have xo:go j=.sl 1 (gg j) 0 i:=(vo j hjt).trans (if_pos om);have xx:gx j=.sl 1 (gw j) 0 1:=vx j hjt;have xy:gy 0=.int .i64 (fA i H p v j):=vy 0 om;obtain⟨w0,w1⟩:=qQ (n:=i) (H:=H) (v:=v) hp j;obtain⟨m0,m1⟩:=hmul _ _ w0 w1 hi0.1 hi0.2;obtain⟨q0,q1⟩:=hq j;obtain⟨r0,r1⟩:=hmul (p-1) _ om om q0 q1;have k1:IntKind.i64.wrap (0-p)=-p:=by rw[Int.zero_sub];exact i64_in om om
   have k2:IntKind.i64.wrap (fA i H p v j*inv)=fA i H p v j*inv:=i64_in om om;have k3:(fA i H p v j*inv).tmod p=fA i H p v j*inv%p:=aU m0;have k4:IntKind.i64.wrap (-p*(fA i H p v j*inv%p))=-p*(fA i H p v j*inv%p):=by
    rw[Int.sub_mul,eg]at r0 r1;rw[Int.neg_mul];exact i64_in om om
   have hp0:¬p=0:=om
   refine bM 19 kr ?_
   simp -dsimp only[go_sem,aa,ae,↓reduceIte,reduceCtorEq,af,az,ab,bO,e1,e2,e10,e12,e13,e14,e53,e54,hjt,uo,ur,ux,uy,xo,xx,xy,hpiv,k1,k2,k3,k4,hp0,a6 (om:j<1000000),ca]
   repeat refine an ?_
   refine⟨⟨j+1,om,rfl,gg,(hT.put dc (om:j<j+1) ur piv (.int .i64 (-p*(fA i H p v j*inv%p)))).congr fun a c ha hc=>?_⟩,om⟩
   by_cases ea:a=j
   ·subst ea;simp only[true_and,if_true,fT];rw[if_neg hjp];by_cases ec:c=piv
    ·rw[if_pos ec,if_neg om,if_pos ec,Int.neg_mul]
    ·rw[if_neg ec];by_cases ec2:c=a
     ·rw[if_pos ec2,if_pos ec2]
     ·rw[if_neg ec2,if_neg ec2,if_neg ec]
   ·rw[if_neg (fun h=>ea h.1),if_neg ea]
 have hji:j=i:=om
 rw[hji]at hR;have hN2:=hR.imat (A:=fun j i'=>fT p piv (fun j=>fA i H p v j*inv%p) i' j) (fun _ _ _ _=>rfl);simp -dsimp only[go_sem,aa,↓reduceIte,af,decide_false,az,ab,e1,e2,e10,e12,e13,e14,e53,e54,hjt];rw[hQ'];simp -dsimp only[go_sem,aa,↓reduceIte,e14];exact⟨b14,rfl,g',hN2.1⟩
def Fi:List AV:=[.int .i64 7,.int .i64 11,.int .i64 13,.int .i64 17,.int .i64 19,.int .i64 23,.int .i64 29,.int .i64 31]
def kD(S:St):Prop:=∃ty,bE S 0 ty 1 8 (fun j=>Fi.getD j .any)
theorem kD.ext{S S':St}(h:kD S)(hE:eJ S S'):kD S':=by
 obtain⟨ty,h⟩:=h;exact⟨ty,hE.has h⟩
def MY:List Int:=[2,3,5]
def dvA:List AV:=[.int .i64 2,.int .i64 3,.int .i64 5]
theorem Hw{i:Nat}(hi:i<3):dvA.getD i .any=.int .i64 (MY.getD i 0)/\MY.getD i 0≠0:=by
 rcases (om:i=0∨i=1∨i=2)with rfl|rfl|rfl<;>exact⟨rfl,by decide⟩
theorem He{i:Nat}(hi:i<3)(K:AV->Prop):An 238 (.agg [.int .i64 2,.int .i64 3,.int .i64 5]) (.int .i64 i) K=K (.int .i64 (MY.getD i 0)):=by
 rw[<-(Hw hi).1];unfold An;apply propext;constructor
 ·rintro (⟨h,_⟩|⟨_,_,_,h⟩)
  ·exact absurd h dc
  ·rwa [fE]at h
 ·intro h;exact bH ⟨bQ ⟨rfl,rfl⟩,by simp[dI],⟨om,by simp;omega⟩,by rwa [fE]⟩
theorem LV(K:AV->Prop):An 239 (.agg Fi) (.int .i64 0) K=K (.int .i64 7):=by
 unfold An;apply propext;constructor
 ·rintro (⟨h,_⟩|⟨_,_,_,h⟩)
  ·exact absurd h dc
  ·exact h
 ·intro h;exact bH ⟨bH ⟨rfl,rfl⟩,by simp[dI,Fi],⟨om,by simp[Fi]⟩,h⟩
theorem G5{S:St}(hG:kD S):∃ty g,S 0=some ⟨ty,1,8,g⟩/\dF g 0 8=Fi:=by
 obtain⟨ty,g,u,v⟩:=hG;refine⟨ty,g,u,?_⟩;simp only[dF,v 0 om,v 1 om,v 2 om,v 3 om,v 4 om,v 5 om,v 6 om,v 7 om];rfl
theorem kN(S:St)(p:Int)(k:Nat)(hk:k<=3)(h1:∀i,i<k->(p.tmod (MY.getD i 0)==0)=false)(h2:k<3->(p.tmod (MY.getD k 0)==0)=true/\MY.getD k 0=p)(h3:p<49)(hG:kD S) :
  cS 256 [.int .i64 p] S (fun r S'=>r=.int .i64 p/\S'=S):=by
 refine aD func256 rfl 42 ntmps256 kr sm (by simp[results256]) ?_
 rw[aQ,results256];simp -dsimp only[go_sem,reduceCtorEq];refine eF (fun O S'=>∃i:Nat,i<=k/\S'=S/\O 0=.int .i64 p/\O 10=.agg [.int .i64 2,.int .i64 3,.int .i64 5]/\O 11=.int .i64 i) (fun O S=>3-ca (O 11)) ?_ ?_
 ·simp -dsimp only[go_sem,aa,reduceCtorEq];exact⟨0,om,rfl⟩
 rintro Q' hQ' O S' ⟨i,hi,rfl,e0,e10,e11⟩;by_cases hit:i<3
 ·obtain⟨_,hd0⟩:=Hw hit;have d3:decide ((i:Int)<3)=true:=by simp;omega
  by_cases hik:i<k
  ·simp -dsimp only[go_sem,aa,reduceCtorEq,e0,e10,e11,d3,He hit,hd0,h1 i hik,a6 (om:i<1000000),ca]
   exact⟨⟨i+1,om,rfl⟩,om⟩
  ·obtain rfl:i=k:=om
   obtain⟨a,b⟩:=h2 hit;simp -dsimp only[go_sem,aa,reduceCtorEq,e0,e10,e11,d3,He hit,hd0,a];rw[hQ'];simp -dsimp only[go_sem,b]
 have d3:decide ((i:Int)<3)=false:=by simp;omega
 simp -dsimp only[go_sem,aa,reduceCtorEq,e0,e10,e11,d3];rw[hQ'];simp -dsimp only[go_sem,↓reduceIte,reduceCtorEq,e0];refine eF (fun O S1=>S1=S'/\O 0=.int .i64 p/\O 5=.int .i64 p/\O 6=.int .i64 0) (fun O S=>0) ?_ ?_
 ·simp -dsimp only[go_sem,aa,reduceCtorEq,e0]
 clear hQ';rintro Q' hQ' O S1 ⟨rfl,e0,e5,e6⟩;obtain⟨ty,g,uG,vG⟩:=G5 hG;simp -dsimp only[go_sem,ae,↓reduceIte,ab,uG,vG,show d9 239=some (1,8)from rfl,(om:¬(8:Nat)=1)]
 refine eF (fun O S2=>S2=S1/\O 0=.int .i64 p/\O 5=.int .i64 p/\O 6=.int .i64 0/\O 23=.agg Fi/\O 24=.int .i64 0) (fun O S=>0) ?_ ?_
 ·simp -dsimp only[go_sem,aa,reduceCtorEq,e0,e5,e6]
 rintro Q2 hQ2 O S2 ⟨rfl,e0,e5,e6,e23,e24⟩;have d8:decide ((0:Int)<8)=true:=by decide
 have d49:decide (p<49)=true:=by simp;omega
 have w7:IntKind.i64.wrap (0+7)=7:=by rw[i64_in om om];omega
 have w49:IntKind.i64.wrap (7*7)=49:=by rw[i64_in om om];omega
 simp -dsimp only[go_sem,aa,ae,↓reduceIte,reduceCtorEq,e0,e5,e6,e23,e24,d8,LV,w7,w49,d49];rw[hQ2];simp -dsimp only[go_sem,aa,↓reduceIte];rw[hQ'];simp -dsimp only[go_sem,aa,↓reduceIte,e5]
def cQ:List Nat:=[3,5,7,11,13,17]
theorem kA.six{D:Int}{p:Nat}(h:kA D p)(hp:p<=17):p∈cQ:=by
 obtain⟨h1,h2,⟨_,h3⟩,_⟩:=h;have h9:p≠9:=fun e=>by subst e;exact h3 3 om om om
 have h15:p≠15:=fun e=>by subst e;exact h3 3 om om om
 simp only[cQ,cT,aT,or_false];omega
def G2:Bool:=cQ.all fun p=>(cn p).all fun x=>(cn p).all fun y=>x==0||y==0||(x*y)%p != 0
theorem BC:G2=true:=by decide +kernel
theorem l8{p:Nat}(hp:p∈cQ)(a b:Int)(h:(p:Int)∣a*b):(p:Int)∣a∨(p:Int)∣b:=by
 have hp0:0<p:=by
  simp only[cQ,cT,aT,or_false]at hp;omega
 have ha0:=aY a (show(p:Int)≠0 by omega)
 have hb0:=aY b (show(p:Int)≠0 by omega)
 have ha1:=aV a (show(0:Int)<p by omega)
 have hb1:=aV b (show(0:Int)<p by omega)
 obtain⟨x,hx⟩:=Int.eq_ofNat_of_zero_le ha0;obtain⟨y,hy⟩:=Int.eq_ofNat_of_zero_le hb0;have hm:=BC;unfold G2 at hm;have h2:=aB.1 (aB.1 (aB.1 hm p hp) x (eQ.2 om)) y (eQ.2 om);have h3:=eI h;rw[eZ,hx,hy,<-ck,<-Int.natCast_emod]at h3;simp only[dj,beq_iff_eq,bne_iff_ne,ne_eq]at h2;rcases h2 with (h2|h2)|h2
 ·exact bQ (cE (by rw[hx,h2];rfl))
 ·exact bH (cE (by rw[hy,h2];rfl))
 ·exact absurd om h2
theorem Jw(S:St)(p:Nat)(hp:p∈cQ)(hG:kD S):cS 256 [.int .i64 p] S (fun r S'=>r=.int .i64 p/\S'=S):=by
 simp only[cQ,cT,aT,or_false]at hp;rcases hp with rfl|rfl|rfl|rfl|rfl|rfl
 ·exact kN S 3 1 om dc (fun _=>by decide) dc hG
 ·exact kN S 5 2 om dc (fun _=>by decide) dc hG
 ·exact kN S 7 3 om dc (fun h=>om) dc hG
 ·exact kN S 11 3 om dc (fun h=>om) dc hG
 ·exact kN S 13 3 om dc (fun h=>om) dc hG
 ·exact kN S 17 3 om dc (fun h=>om) dc hG
theorem DH(S:St)(p:Nat)(hp:p∈cQ)(hG:kD S):cS 221 [.int .i64 p] S (fun r S'=>r=.bool true/\S'=S):=by
 refine aD func221 rfl 15 ntmps221 kr sm (by simp[results221]) ?_
 rw[aQ,results221];have h17:3<=p/\p<=17:=by
  have hp':=hp;simp only[cQ,cT,aT,or_false]at hp';omega
 have d1:decide ((2:Int)<=(p:Int))=true:=by simp;omega
 have d2:decide ((p:Int)<=2147483647)=true:=by simp;omega
 simp -dsimp only[go_sem,aa,ae,reduceCtorEq,ab,d1,d2];refine(Jw S p hp hG).mono ?_;rintro _ S' ⟨rfl,rfl⟩;simp -dsimp only[go_sem,aa,reduceCtorEq,d1,d2,beq_self_eq_true]
theorem Dp(S:St)(n p:Nat)(H:aW)(hF:iZ n H)(hg:kA (det n H) p)(hp:p∈cQ)(hG:kD S):cS 174 [aN n n H,.int .i64 p] S (fun r S'=>r=.int .i64 0/\eJ S S'):=by
 refine aD func174 rfl 33 ntmps174 kr sm (by simp[results174]) ?_
 rw[aQ,results174];have h17:3<=p/\p<=17:=by
  have hp':=hp;simp only[cQ,cT,aT,or_false]at hp';omega
 have d1:((p:Int)==2)=false:=by simp;omega
 have d2:decide ((9973:Int)<(p:Int))=false:=by simp;omega
 simp -dsimp only[go_sem,ak,aa,ae,reduceCtorEq,ab];refine(Au n H hF).call ?_;simp -dsimp only[go_sem,aa,ae,reduceCtorEq,ab,d1,d2];refine(DH S p hp hG).mono ?_;rintro _ S' ⟨rfl,rfl⟩;simp -dsimp only[go_sem,aa,ae,reduceCtorEq,ab,d1,d2];have hD:=((Cp n H p hF.one (by have:=hF.five;omega) om om (l8 hp) (fun h=>hg.2.2.2 (eI h))).less (post':=fun r S'=>(∃d:Int,d≠0/\r=.tup [.int .i64 d,.int .i64 0])/\S'=St.none) fun r S' h=>⟨St.none,(fun b X hb=>by simp[St.none]at hb),h,rfl⟩).frame (cH S' _) (by rintro r S1 ⟨⟨d,_,rfl⟩,rfl⟩;exact⟨rfl,fun b X hb=>by simp[St.none]at hb⟩)
 refine hD.mono ?_;rintro _ S2 ⟨S1,⟨⟨d,hd,rfl⟩,rfl⟩,_,rfl⟩;have d3:(d==0)=false:=by simpa using hd
 simp -dsimp only[go_sem,aa,reduceCtorEq,d3,bne_self_eq_false];exact re _ _
theorem FL{S:St}{b c n:Nat}{v:Nat->Int}{g0:Nat->AV}{K:AV->St->Prop}(hb:S b=some ⟨2,1,0,g0⟩)(hc:bE S c 2 1 n (fun j=>.int .i64 (v j)))(h1:0<n)(h2:n<=1000)
  (hK:∀b' h,(b'=b∨S b'=ac)->(∀j,j<n->h j=.int .i64 (v j))->K (.sl 1 b' 0 n) ((S.del b).upd b' ⟨2,1,n,h⟩)):eV 29 29 (.sl 1 b 0 0) (.sl 1 c 0 n) S K:=by
 obtain⟨g,u,w⟩:=hc;have hbc:c≠b:=by rintro rfl;rw[u]at hb;cases hb;omega
 have e1:wZ S (.sl 1 c 0 n)=some (1,n,fun j=>g (0+j),some c):=by simp[wZ,u]
 unfold eV;rw[show c9 29=some 2 from rfl,e1];refine⟨rfl,rfl,rfl,h1,fun j hj=>?_,?_⟩
 ·show dI 1 (g (0+j));rw[aF,w j hj];simp[dI]
 ·simp only[hb];refine⟨trivial,trivial,trivial,trivial,trivial,om,fun e=>hbc (ef.inj e),fun b' hb'=>?_⟩
  rw[aF];refine hK b' _ hb' fun j hj=>?_;unfold lP;split
  ·have:j=0:=om
   subst this;simp only[bJ,if_true,aF];exact w 0 om
  ·simp only[Nat.not_lt_zero,if_false,eG,aF];exact w j hj
theorem L9{S:St}{K:AV->St->Prop}:cW 29 0 [] S K=aH S (fun b=>K (.sl 1 b 0 0) (S.upd b ⟨2,1,0,fun j=>([]:List AV).getD j .any⟩)):=by
 simp only[cW,c9,bP];simp[dY,fD,aH]
theorem xQ(S:St)(d n:Nat)(v:Nat->Int)(h1:0<n)(h2:n<=1000)(hd:bE S d 2 1 n (fun j=>.int .i64 (v j))) :
  cS 177 [.sl 1 d 0 n] S (fun r S'=>∃b,r=.sl 1 b 0 n/\bE S' b 2 1 n (fun j=>.int .i64 (v j))/\eJ S S'/\S b=ac):=by
 refine aD func177 rfl 8 ntmps177 kr sm (by simp[results177]) ?_
 rw[aQ,results177];simp -dsimp only[go_sem,reduceCtorEq,L9];refine aH.intro fun b5 f5=>?_;have hd5:=hd.upd (hd.fresh f5) ⟨2,1,0,fun j=>([]:List AV).getD j .any⟩
 try simp -dsimp only[go_sem,aa,↓reduceIte,reduceCtorEq]
 refine FL bZ hd5 h1 h2 ?_;intro b' h hb' hh;have hS:S b'=ac:=by
  rcases hb' with rfl|h
  ·exact f5
  ·by_cases e:b'=b5
   ·rw[e];exact f5
   ·rw[aP e]at h;exact h
 simp -dsimp only[go_sem,reduceCtorEq];refine⟨b',rfl,bE.here hh,fun k X hX=>?_,hS⟩;have k1:k≠b':=fun e=>by rw[e,hS]at hX;cases hX
 have k2:k≠b5:=fun e=>by rw[e,f5]at hX;cases hX
 rw[aP k1];unfold St.del;rw[if_neg k2,aP k2];exact hX
theorem vC(n:Nat)(H:aW)(v:Nat->Int)(m:Int):fB n (kq H m) v n%m=fB n H v n%m:=by
 unfold fB;refine lU n _ _ m fun i _=>?_;rw[eZ,lU n (fun j=>kq H m i j*v j) (fun j=>H i j*v j) m fun j _=>?_,<-eZ];show(H i j%m*v j)%m=_;rw[eZ,kl _ (Int.dvd_refl m),<-eZ]
theorem Fo(n p:Nat)(H:aW)(v:Nat->Nat)(h1:1<=n)(hn:n<=8)(hp:2<=p)(hp2:p<=100)(hL:lK n p H v):PF 175 [aN n n H,.int .i64 p,bO n (fun k=>v k)] (.bool true):=by
 refine PF.of_spec (aD func175 rfl 49 ntmps175 kr sm (by simp[results175]) ?_)
 rw[aQ,results175];simp -dsimp only[go_sem,ak,aa,reduceCtorEq,aN,bO,bne_self_eq_false];refine eF (fun O S=>∃i:Nat,i<=n/\O 0=aN n n H/\O 1=.int .i64 p/\O 2=bO n (fun k=>v k)/\O 7=.int .i64 (ic (fun k=>v k) i)/\O 17=bO n (fun k=>v k)/\O 18=.int .i64 n/\O 19=.int .i64 i) (fun O S=>n-ca (O 19)) ?_ ?_
 ·simp -dsimp only[go_sem,aa,reduceCtorEq,aN,bO];exact⟨0,om,rfl,rfl⟩
 rintro Q' hQ' O S ⟨i,hi,e0,e1,e2,e7,e17,e18,e19⟩;by_cases hit:i<n
 ·have hv:=hL.lt i hit;have d1:decide (((v i:Nat):Int)<0)=false:=by simp<;>omega
  have d2:decide ((p:Int)<=((v i:Nat):Int))=false:=by simp<;>omega
  by_cases hl:ic (fun k=>((v k:Nat):Int)) i=0
  ·simp -dsimp only[go_sem,aa,reduceCtorEq,af,decide_true,aN,bO,e0,e1,e2,e7,e17,e18,e19,hit,d1,d2,hl,beq_self_eq_true,a6 (om:i<1000000),ca]
   refine⟨⟨i+1,om,?_,rfl⟩,om⟩
   simp only[ic,hl,if_true]
  ·have d3:(ic (fun k=>((v k:Nat):Int)) i==0)=false:=by simpa using hl
   simp -dsimp only[go_sem,aa,reduceCtorEq,af,decide_true,aN,bO,e0,e1,e2,e7,e17,e18,e19,hit,d1,d2,d3,a6 (om:i<1000000),ca]
   refine⟨⟨i+1,om,?_,rfl⟩,om⟩
   simp only[ic,hl,if_false]
 have hin:i=n:=om
 rw[hin]at e7;simp -dsimp only[go_sem,aa,↓reduceIte,reduceCtorEq,af,decide_false,ab,e0,e1,e2,e7,e17,e18,e19,hit];rw[hQ'];simp -dsimp only[go_sem,aa,ae,↓reduceIte,reduceCtorEq,ab,e0,e1];refine(tJ n n H p h1 om h1 om om om S _ (cH _ _)).mono ?_;rintro _ S1 ⟨b,g,rfl,hM,_⟩;have hld:(ic (fun k=>((v k:Nat):Int)) n==1)=true:=by rw[hL.lead]<;>rfl
 simp -dsimp only[go_sem,aa,ae,reduceCtorEq,ab,e0,e1,e2,e7,hld];have hr:=oY (A:=H) (m:=(p:Int)) om;refine(vD n p (kq H p) (fun k=>v k) hn om om (fun i j _ _=>by have:=hr i j;omega) (fun i hi=>by have:=hL.lt i hi;omega)).spec (dO.three hM.vr.va (VA.refl _ _) (VA.refl _ _)) ?_
 rw[vC,hL.norm];simp -dsimp only[go_sem,aa,e1,e2,e7,hld,beq_self_eq_true];exact VR.mf rfl
def oL(n:Nat)(H:aW)(p:Int)(v:Nat->Int):Nat->Int:=fun i=>(aE n fun j=>H i j*v j)%p
theorem GL(n:Nat)(H:aW)(p:Int)(v:Nat->Int)(i:Nat):(aE n fun j=>kq H (p*p) i j*v j)%p=oL n H p v i:=by
 refine lU n _ _ p fun j _=>?_;show(H i j%(p*p)*v j)%p=_;rw[eZ,kl _ (Int.dvd_mul_right p p),<-eZ]
theorem zi(n:Nat)(H:aW)(p:Int)(v:Nat->Int)(i:Nat):fA n H p v i=oL n H p v i:=by
 refine lU n _ _ p fun j _=>?_;show(H i j%p*(v j%p))%p=_;rw[<-eZ]
theorem og:∀(l1 l2:List Oper) (O:Tm) (S:St) (pend:List (Nat×dH)) (K:Tm->List (Nat×dH)->Prop),Ah (l1++l2) O S pend K=Ah l1 O S pend (fun O' p'=>Ah l2 O' S p' K)
 | [],_,_,_,_,_=>rfl
 | o::l1,l2,O,S,pend,K=>by
  simp only[List.cons_append,Ah];split
  ·split
   ·exact og l1 l2 _ _ _ _
   ·rfl
  ·simp only[og l1 l2]
theorem Ag{l:List Oper}{O:Tm}{S:St}{pend:List (Nat×dH)}{K:Tm->List (Nat×dH)->Prop}(r:Nat)(h:∀K',K'=(fun O' p'=>Cs (l.drop r) O' S p' K)->Cs (l.take r) O S pend K'):Cs l O S pend K:=by
 have h:=h _ rfl;rw[oD]at h ⊢;rw[<-og,List.take_append_drop]at h;exact h
theorem KE{O:Tm}{S:St}{pend:List (Nat×dH)}{K:Tm->List (Nat×dH)->Prop}:Cs [] O S pend K=K O pend:=by rw[oD]<;>rfl
theorem KD{ops:Array Oper}{O:Tm}{S:St}{K:Tm->St->Prop}:AK ops [] O S K=K O S:=by rw[tc]<;>rfl
theorem Kb{c:Code}{Q:AX->Tm->St->Prop}{O:Tm}{S:St}(h:∀Q',Q'=Q->Aw c Q' O S):Aw c Q O S:=h _ rfl
theorem Kd{ops:Array Oper}{O:Tm}{S:St}{K:Tm->St->Prop}(r q:Nat)(hok:vZ ops q=true)
  (h:∀K',K'=(fun O' pend=>Cs ((ops.toList.take q).drop r) O' S pend (fun O' pend=>if pend.isEmpty then AK ops (ops.toList.drop q) O' S K else si pend (rm (lf (ops.toList.take q)) O') S (fun O S=>AK ops (ops.toList.drop q) O S K)))->Cs ((ops.toList.take q).take r) O S [] K'):Ga ops O S K:=by
 refine bM q hok ?_;have h:=h _ rfl;rw[oD]at h ⊢;rw[<-og,List.take_append_drop]at h;exact h
def Hv:Bool:=cQ.all fun p=>(cn p).all fun x=>x==0||(ph 20 p x 0 1&&((x:Int)*(zZ 20 p x 0 1%p))%p==1)
theorem BO:Hv=true:=by decide +kernel
theorem vX{p:Nat}(hp:p∈cQ){x:Int}(h0:0<x)(h1:x<p):ph 20 p x 0 1=true/\(x*(zZ 20 p x 0 1%p))%p=1:=by
 have h:=BO;unfold Hv at h;obtain⟨k,rfl⟩:=Int.eq_ofNat_of_zero_le (om:0<=x)
 have h2:=aB.1 (aB.1 h p hp) k (eQ.2 om);simp only[dj,aA,beq_iff_eq]at h2;rcases h2 with h2|h2
 ·omega
 ·exact h2
theorem F3(S:St)(d n p piv:Nat)(H:aW)(v:Nat->Nat)(hF:iZ n H)(hg:kA (det n H) p)(hp:p∈cQ)(hL:lK n p H v)(hd:bE S d 2 1 n (fun k=>.int .i64 ((v k:Nat):Int)))(hG:kD S)
  (hpiv:piv<n) (hs0:oL n H p (fun k=>v k) piv≠0) (hsz:∀i,i<piv->oL n H p (fun k=>v k) i=0) :
  cS 121 [aN n n H,.int .i64 p,.sl 1 d 0 n] S (fun r S'=>∃b t,0<=t/\t<(p:Int)/\(p:Int)*p∣oQ n H (fun k=>if k=piv then((v k:Nat):Int)+p*t else v k) (fun k=>if k=piv then((v k:Nat):Int)+p*t else v k)/\r=.tup [.sl 1 b 0 n,.int .i64 0]/\bE S' b 2 1 n (fun k=>.int .i64 (if k=piv then((v k:Nat):Int)+p*t else v k))/\eJ S S'):=by
 have h1:=hF.one;have hn:=hF.five;have hp17:3<=p/\p<=17:=by
  simp only[cQ,cT,aT,or_false]at hp;omega
 refine aD func121 rfl 90 ntmps121 kr sm (by simp[results121]) ?_
 rw[aQ,results121];simp -dsimp only[go_sem,ak,aa,ae,reduceCtorEq,ab];refine(Dp S n p H hF hg hp hG).mono ?_;rintro _ S1 ⟨rfl,hE1⟩;have hd1:=hE1.has hd;simp -dsimp only[go_sem,aa,ae,reduceCtorEq,ab];refine(Fo n p H v h1 om om om hL).spec (dO.three (VA.refl _ _) (VA.refl _ _) (lG.vr (show lG S1 d n (fun k=>v k)from hd1)).va) ?_;have hpp:(p:Int)*p<=289/\9<=(p:Int)*p:=by
  rw[<-ck];have a:=bN hp17.2 hp17.2;have b:=bN hp17.1 hp17.1;omega
 have wpp:IntKind.i64.wrap ((p:Int)*p)=(p:Int)*p:=i64_in om om;simp -dsimp only[go_sem,aa,ae,reduceCtorEq,ab,wpp];refine(tJ n n H (p*p) h1 om h1 om om om S1 _ (cH _ _)).mono ?_;rintro _ S2 ⟨br,gr,rfl,hR,hE2,_,_⟩;have hd2:=hE2.has hd1;simp -dsimp only[go_sem,aa,ae,reduceCtorEq,ab];refine(xQ S2 d n (fun k=>v k) om om hd2).mono ?_;rintro _ S3 ⟨bx,rfl,hx3,hE3,hbx⟩;have hd3:=hE3.has hd2;have hR3:=hR.ext hE3;simp -dsimp only[go_sem,aa,reduceCtorEq];have hr:=oY (A:=H) (m:=(p:Int)*p) om;have hvr:∀i,i<n->(0:Int)<=(v i:Nat)/\((v i:Nat):Int)<=16:=fun i hi=>by have:=hL.lt i hi;omega
 have hE13:eJ S S3:=(hE1.trans hE2).trans hE3;refine eF (fun O S=>∃i:Nat,i<=piv/\S3=S/\O 1=.int .i64 p/\O 2=.sl 1 d 0 n/\O 9=.sl 1 br 0 n/\O 11=.sl 1 bx 0 n/\O 39=.sl 1 br 0 n/\O 40=.int .i64 n/\O 41=.int .i64 i) (fun O S=>n-ca (O 41)) ?_ ?_
 ·simp -dsimp only[go_sem,aa,reduceCtorEq];exact⟨0,om,rfl⟩
 rintro Q' hQ' O _ ⟨i,hi,rfl,e1,e2,e9,e11,e39,e40,e41⟩;have hin:i<n:=om
 obtain⟨g1,u1,v1⟩:=id hR3.outer;have x1:g1 i=.sl 1 (gr i) 0 n:=v1 i hin;simp -dsimp only[go_sem,aa,ae,↓reduceIte,af,decide_true,ab,e1,e2,e39,e40,e41,hin,u1,x1];refine(BH n p (kq H (p*p) i) (fun k=>v k) om om (fun j hj=>by have:=hr i j;omega) (fun j hj=>by have:=hvr j hj;omega)).spec (dO.three (lG.vr (hR3.row i hin)).va (lG.vr (show lG S3 d n (fun k=>v k)from hd3)).va (VA.refl _ _)) ?_
 rw[GL];by_cases hip:i<piv
 ·simp -dsimp only[go_sem,aa,↓reduceIte,reduceCtorEq,e1,e2,e9,e11,e39,e40,e41,hsz i hip,beq_self_eq_true,a6 (om:i<1000000),ca]
  exact⟨⟨i+1,om,rfl⟩,om⟩
 obtain rfl:i=piv:=om
 have hsb:(oL n H p (fun k=>v k) i==0)=false:=by simpa using hs0
 have hsr:0<=oL n H p (fun k=>v k) i/\oL n H p (fun k=>v k) i<p:=⟨aY _ om,aV _ om⟩;generalize hsl:oL n H p (fun k=>v k) i=sl at *;have w2:IntKind.i64.wrap (2*sl)=2*sl:=i64_in om om;simp -dsimp only[go_sem,aa,↓reduceIte,reduceCtorEq,e1,e2,e9,e11,e39,e40,e41,hsb,w2];refine aH.intro fun b55 f55=>?_
 try simp -dsimp only[go_sem,aa]
 refine aH.intro fun b56 f56=>?_;have n56_55:=(ai f56).1
 try simp -dsimp only[go_sem,aa,au,ae,e1]
 have hIM:dR ((S3.upd b55 ⟨2,1,1,fun j=>[AV.int .i64 (2*sl)].getD j .any⟩).upd b56 ⟨29,1,1,fun j=>[AV.sl 1 b55 0 1].getD j .any⟩) b56 (fun _=>b55) 1 1 (fun _ _=>2*sl):=by
  refine⟨bE.here fun j hj=>?_,fun j _=>bE.upd (bE.here fun k hk=>?_) n56_55.symm _,fun i j h1 h2 _=>om⟩
  ·obtain rfl:j=0:=om
   rfl
  ·obtain rfl:k=0:=om
   rfl
 have f56':S3 b56=ac:=by rwa [aP n56_55]at f56
 have up2:∀{b ty es m:Nat} {g:Nat->AV},bE S3 b ty es m g->bE ((S3.upd b55 ⟨2,1,1,fun j=>[AV.int .i64 (2*sl)].getD j .any⟩).upd b56 ⟨29,1,1,fun j=>[AV.sl 1 b55 0 1].getD j .any⟩) b ty es m g:=fun h=>(h.upd (h.fresh f55) _).upd (h.fresh f56') _;have hE35:eJ S3 ((S3.upd b55 ⟨2,1,1,fun j=>[AV.int .i64 (2*sl)].getD j .any⟩).upd b56 ⟨29,1,1,fun j=>[AV.sl 1 b55 0 1].getD j .any⟩):=((eJ.refl S3).upd f55 _).upd f56' _;have h2s:0<2*sl%p/\2*sl%p<p:=by
  have a:=aY (2*sl) (show(p:Int)≠0 by omega)
  have b:=aV (2*sl) (show(0:Int)<p by omega)
  have c:2*sl%p≠0:=fun h=>by
   rcases l8 hp 2 sl (cE h)with h|h
   ·have:=Int.le_of_dvd om h;omega
   ·exact hs0 (by have:=eI h;rwa [dq hsr.1 hsr.2]at this)
  omega
 obtain⟨heo,hei⟩:=vX hp h2s.1 h2s.2;refine(r8 20 (2*sl) p om om heo _ _ (dO.two hIM.vr.va (VA.refl _ _))).mono ?_;rintro _ S4 ⟨bi,gi,rfl,hI4,hE4,_,_⟩;have hiv:0<=zZ 20 p (2*sl%p) 0 1%p/\zZ 20 p (2*sl%p) 0 1%p<p:=⟨aY _ om,aV _ om⟩;generalize zZ 20 p (2*sl%p) 0 1%p=iv at *;have hE34:eJ S3 S4:=hE35.trans hE4;have hx4:=hE34.has hx3;have hd4:=hE34.has hd3;have hR4:=hR3.ext hE34;obtain⟨gb,ub,vb⟩:=id hI4.outer;obtain⟨gc,uc,vc⟩:=id (hI4.row 0 om);obtain⟨gx,ux,vx⟩:=id hx4;have xb:gb 0=.sl 1 (gi 0) 0 1:=vb 0 om;have xc:gc 0=.int .i64 iv:=vc 0 om;have xx:gx i=.int .i64 (v i:Nat):=vx i hin;have hN:fB n (kq H (p*p)) (fun k=>v k) n%(p*p)=fB n H (fun k=>v k) n%(p*p):=vC n H _ _;have hN0:=aY (fB n H (fun k=>v k) n) (show(p:Int)*p≠0 by omega)
 have hN1:=aV (fB n H (fun k=>v k) n) (show(0:Int)<p*p by omega)
 generalize hNN:fB n H (fun k=>v k) n%((p:Int)*p)=N at *;have hk0:0<=N/p/\N/p<p:=by
  refine⟨Int.ediv_nonneg hN0 om,?_⟩;exact Int.ediv_lt_of_lt_mul om hN1
 have k1:IntKind.i64.wrap (N.tdiv p)=N/p:=by rw[Int.tdiv_eq_ediv_of_nonneg hN0];exact i64_in om om
 have k2:IntKind.i64.wrap (p-N/p)=p-N/p:=i64_in om om;have hm0:0<=(p-N/p)*iv/\(p-N/p)*iv<=289:=by
  have:=cY (show(p:Int)-N/p<=17 by omega) (om:iv<=17) hiv.1 om
  exact⟨du om hiv.1,om⟩
 have k3:IntKind.i64.wrap ((p-N/p)*iv)=(p-N/p)*iv:=i64_in om om;have k4:((p-N/p)*iv).tmod p=(p-N/p)*iv%p:=aU hm0.1;have ht0:=aY ((p-N/p)*iv) (show(p:Int)≠0 by omega)
 have ht1:=aV ((p-N/p)*iv) (show(0:Int)<p by omega)
 generalize hT:(p-N/p)*iv%(p:Int)=t at *;have hnm:=yz hF.red.pd.sym hin (show(0:Int)<p by omega) hsl hei hNN hL.norm hT
 have hpt:0<=(p:Int)*t/\(p:Int)*t<=289:=by
  have:=cY (show(p:Int)<=17 by omega) (om:t<=17) ht0 om
  exact⟨du om ht0,om⟩
 have k5:IntKind.i64.wrap (p*t)=p*t:=i64_in om om;have hvi:=hvr i hin;have k6:IntKind.i64.wrap (((v i:Nat):Int)+p*t)=((v i:Nat):Int)+p*t:=i64_in om om;have hp0:¬(p:Int)=0:=om
 simp -dsimp only[go_sem,aa,e1];refine Kd 7 19 kr fun K' hK'=>?_
 simp -dsimp only[go_sem,aa,ae,reduceCtorEq,ab,e1,e2,e9,wpp];refine⟨_,(vD n (p*p) (kq H (p*p)) (fun k=>v k) om om om (fun i j _ _=>by have:=hr i j;omega) (fun j hj=>by have:=hvr j hj;omega)).pureS (dO.three hR4.vr.va (lG.vr (show lG S4 d n (fun k=>v k)from hd4)).va (VA.refl _ _)),?_⟩
 rw[ck,hN,hK'];refine Ag 7 fun K'' hK''=>?_;simp -dsimp only[go_sem,aa,ae,↓reduceIte,reduceCtorEq,az,ab,e1,ub,xb,hp0,k1,k2]
 repeat refine an ?_
 rw[hK''];refine Ag 3 fun K3 hK3=>?_;simp -dsimp only[go_sem,aa,ae,↓reduceIte,reduceCtorEq,ab,e1,uc,xc,k3]
 suffices key:∀O':Tm,O' 1=.int .i64 p->O' 11=.sl 1 bx 0 n->O' 12=.int .i64 i->O' 76=.int .i64 ((p-N/p)*iv)->O' 77=.int .i64 p->K3 O' [] by
  refine key _ ?_ ?_ ?_ ?_ ?_<;>simp -dsimp only[go_sem,aa,e1,e11]
 clear e1 e2 e9 e11 e39 e40 e41 hK' hK'';intro O' e1 e11 e12 e76 e77;rw[hK3];refine Ag 2 fun K4 hK4=>?_;simp -dsimp only[go_sem,e76,e77,hp0,k4];rw[hK4];clear hK4 hK3;rw[show(List.drop 2 (List.drop 3 (List.drop 7 (List.drop 7 (List.take 19 (Array.toList _))))))=([]:List Oper)from rfl];dsimp only;rw[KE];rw[show List.isEmpty ([]:List (Nat×dH))=true from rfl,if_pos rfl];rw[show(List.drop 19 (Array.toList _))=([]:List Oper)from rfl];rw[KD];refine Kb fun Q3 hQ3=>?_;simp -dsimp only[go_sem,aa,↓reduceIte,reduceCtorEq,af,ab,e1,e11,e12,hin,ux,xx,k5,k6];rw[hQ3];simp -dsimp only[go_sem,↓reduceIte,reduceCtorEq];rw[hQ'];simp -dsimp only[go_sem,aa,↓reduceIte];refine⟨bx,t,ht0,ht1,hnm,by rw[e11],bE.here fun j hj=>?_,fun k Y hY=>?_⟩
 ·show bJ gx i _ j=_;unfold bJ;by_cases hji:j=i
  ·rw[if_pos hji,hji,if_pos rfl]
  ·rw[if_neg hji,if_neg hji];exact vx j hj
 ·have hk:k≠bx:=fun e=>by
   subst e;have:=hE2 k Y (hE1 k Y hY);rw[hbx]at this;cases this
  rw[aP hk];exact(hE13.trans hE34) k Y hY
theorem GM(n piv r:Nat):1<=xq n piv r:=by unfold xq;split<;>(try split)<;>omega
theorem Ak{n:Nat}(f:Nat->Int){j:Nat}(hj:j<n):(f j).natAbs<=cR n f:=by
 have:=iF f hj;omega
theorem Fg{n:Nat}{p:Int}{piv:Nat}{q x:Nat->Int}(h1:1<=n)(hn:n<=5)(hp:0<p)(hp2:p<=17)(hpiv:piv<n)(hq:∀j,j<n->0<=q j/\q j<=16)(hx:∀i,i<n->i≠piv->(x i).natAbs<=16)(hxp:(x piv).natAbs<=288) :
  kV n (dJ n (xt n p piv q x)):=by
 have hrow:=LN hn hp hp2 hpiv hq hx hxp;refine⟨h1,hn,fun σ k hE k' i j hj hi=>?_,BB om hpiv q x,fun R hR1 hR2 _ σ neg k hE k' i j hi hj=>?_,fun r j hr hj=>?_⟩
 ·have h:=uY hrow (k:=k') (i:=i) (j:=j) hj hE.sum;have h2:=D7 (n:=n) (piv:=piv) (k:=k') (r:=k'+i) om om om om om;unfold nb;exact gj (bV h h2) dc
 ·have h:=xj (B:=wM (dJ n (xt n p piv q x)) n R) (N:=n+1) (f:=fun t=>xq n piv (qN n R t)) (fun r _=>hrow _) (fun r _=>GM _ _ _) (k:=k') (i:=i) (j:=j) hi hj hE.row;have h2:=D7 (n:=n) (piv:=piv) (k:=n) (r:=R) om om om om om;unfold nb;refine gj (bV h (bV (sX (ln fun a _=>?_)) h2)) dc
  rfl
 ·have h:=Ak (dJ n (xt n p piv q x) r) hj;have h2:=hrow r;have h3:xq n piv r<=1665:=by unfold xq;split<;>(try split)<;>omega
  unfold nb;omega
def B5(n:Nat):Nat:=gW 31 n+gW 31 n+8+31
theorem FU.up{n:Nat}{A:aW}{R:Nat}{H U:aW}(hT:FU n A R H U){i j:Nat}(hi:i<n)(hj:j<n+1):jN (n+1) (fun k r=>A r k) U j i=H i j:=by
 rw[<-hT.mu i j om hj];unfold jN mm;refine aK fun k hk=>?_;show A i k*U k j=wM A n R i k*U k j;unfold wM qN;rw[if_pos hi]
theorem FU.ubits{n:Nat}{A:aW}(hP:kV n A){R:Nat}{H U:aW}(hT:FU n A R H U)(hH:∀i j,i<n+1->j<n+1->nb (H i j) 31){a c:Nat}(ha:a<n+1)(hc:c<n+1):nb (U a c) (gW 31 n+gW 31 n+8):=by
 have hwe:∀i j,i<n+1->j<n+1->nb (wM A n R i j) 31:=fun i j hi hj=>hP.hent _ _ (by have:=hT.r2;unfold qN;split<;>omega) hj
 have hAb:∀i j,i<n+1->j<n+1->nb (lQ (n+1) (wM A n R) i j) (gW 31 n):=fun i j hi hj=>by
  have h:=vU (by have:=hP.hn;omega) om hwe n i j hi hj
  unfold lQ;split
  ·exact h.neg
  ·exact h
 have e:mm (n+1) (lQ (n+1) (wM A n R)) H a c=det (n+1) (wM A n R)*U a c:=by
  have e1:mm (n+1) (lQ (n+1) (wM A n R)) H a c=mm (n+1) (lQ (n+1) (wM A n R)) (mm (n+1) (wM A n R) U) a c:=vK (fun _ _=>rfl) fun k hk=>(hT.mu k c hk hc).symm;rw[e1,<-o9];unfold mm;rw[aK (g:=fun k=>(if a=k then det (n+1) (wM A n R)else 0)*U k c) fun k hk=>by
   show mm (n+1) (lQ (n+1) (wM A n R)) (wM A n R) a k*U k c=_;rw[pU om _ ha hk]]
  rw[aK (g:=fun k=>(if a=k then 1 else 0)*(det (n+1) (wM A n R)*U k c)) fun k _=>by split<;>simp]
  rw[lV ha]
 have hb:nb (det (n+1) (wM A n R)*U a c) (gW 31 n+gW 31 n+8):=by
  rw[<-e];exact Et (by have:=hP.hn;omega) hAb (fun i j hi hj=>(hH i j hi hj).mono (nH 31 n)) ha hc
 unfold nb at hb ⊢;rw[Int.natAbs_mul]at hb;have:1<=(det (n+1) (wM A n R)).natAbs:=by have:=hT.dt;omega
 exact gj (bV (sX (Nat.one_mul _).symm) (Nat.mul_le_mul_right _ this)) hb
theorem FU.herm{n:Nat}{A:aW}(hP:kV n A){R:Nat}{H U:aW}(hT:FU n A R H U)(hpr:∀r c,n<=r->r<n+n+1->c<n+1->A r c=if r=n+c then 1 else 0) :
  (∀a r,a<n+1->r<n+n+1->nb (jN (n+1) (fun k r=>A r k) U a r) (B5 n))/\yX n (B5 n) (fun i j=>jN (n+1) (fun k r=>A r k) U j i)/\(∀x,gK (n+1) (n+1) H x↔gK (n+1) (n+1) (wM A n R) x)/\∀i,i<n->H i n=0:=by
 obtain⟨d,M,hTL,hM0,hHI⟩:=hT.tl;have hdl:=hP.dlt hT.r1 hT.r2 hT.dt;have hd:∀i,i<n+1->0<d i/\d i<2147483648:=fun i hi=>by
  have h1:=hTL.pos i hi;have h2:=hTL.d_le hi;omega
 have hup:∀r c,r<c->c<n+1->H r c=0:=fun r c h1 h2=>(hHI.done c h2).1 r h1;have hdg:∀c,c<n+1->H c c=d c:=fun c hc=>(hHI.done c hc).2.1;have hrg:∀c j,c<n+1->j<c->0<=H c j/\H c j<d c:=fun c j hc hj=>(hHI.done j om).2.2 c hj hc;have hH:∀i j,i<n+1->j<n+1->nb (H i j) 31:=fun i j hi hj=>by
  unfold nb;rcases db i j with h|h|h
  ·rw[hup i j h hj];decide
  ·subst h;rw[hdg i hi];have:=hd i hi;omega
  ·have h1:=hrg i j hi h;have h2:=hd i hi;omega
 have hH2:∀i j,i<n->j<n+1->nb (jN (n+1) (fun k r=>A r k) U j i) (B5 n):=fun i j hi hj=>by
  rw[hT.up hi hj];exact(hH i j om hj).mono (by unfold B5;omega)
 refine⟨fun a r ha hr=>?_,⟨fun r c h1 h2 h3=>?_,fun c hc=>?_,fun c j hc hj=>?_,hH2⟩,fun x=>?_,fun i hi=>hup i n hi om⟩
 ·rcases aI r n with h|h
  ·exact hH2 r a h ha
  ·have e:jN (n+1) (fun k r=>A r k) U a r=U (r-n) a:=by
    unfold jN;rw[aK (g:=fun k=>(if r-n=k then 1 else 0)*U k a) fun k hk=>by
     show A r k*U k a=_;rw[hpr r k h hr hk];by_cases e:r=n+k
     ·rw[if_pos e,if_pos om]
     ·rw[if_neg e,if_neg om]]
    exact lV om _
   rw[e];exact(hT.ubits hP hH om ha).mono (by unfold B5;omega)
 ·show jN (n+1) (fun k r=>A r k) U c r=0;rw[hT.up h2 h3];exact hup r c h1 h3
 ·show 0<jN (n+1) (fun k r=>A r k) U c c;rw[hT.up hc om,hdg c om];exact(hd c om).1
 ·show 0<=jN (n+1) (fun k r=>A r k) U j c/\jN (n+1) (fun k r=>A r k) U j c<jN (n+1) (fun k r=>A r k) U c c;rw[hT.up hc om,hT.up hc om,hdg c om];exact hrg c j om hj
 ·exact hHI.span hTL x
theorem pC.members{n k:Nat}{M B:aW}(hP:kV n (dJ n M))(h:pC n k (dJ n M) B):∀y,gK n n B y↔gK n (n+1) M y:=by
 obtain⟨R,H,U,hT,hH,rfl⟩:=h.ex;intro y;obtain⟨_,_,hL,hz⟩:=hT.herm hP (fun r c h1 _ h3=>by unfold dJ;rw[if_neg om])
 have h1:gK n n H y↔gK n (n+1) M y:=Hf (w:=wM (dJ n M) n R) (fun i j hi hj=>by
  unfold wM qN dJ;rw[if_pos hi,if_pos hi]) hL hz y
 rw[<-h1];have key:∀i,i<n->∀c:iG,aE n (fun j=>jN (n+1) (fun k r=>dJ n M r k) U j i*c j)=aE n (fun j=>H i j*c j):=fun i hi c=>aK fun j hj=>by rw[hT.up hi om]
 constructor
 ·rintro⟨c,hc⟩;exact⟨c,fun i hi=>by rw[hc i hi,key i hi c]⟩
 ·rintro⟨c,hc⟩;exact⟨c,fun i hi=>by rw[hc i hi,<-key i hi c]⟩
theorem pC.ent{n k:Nat}{M B:aW}(hP:kV n (dJ n M))(h:pC n k (dJ n M) B):∀i j,i<n->j<n->nb (B i j) 31:=by
 obtain⟨R,H,U,hT,hH,rfl⟩:=h.ex;intro i j hi hj;show nb (jN (n+1) (fun k r=>dJ n M r k) U j i) 31;rw[hT.up hi om];obtain⟨d,M',hTL,hM0,hHI⟩:=hT.tl;have hdl:=hP.dlt hT.r1 hT.r2 hT.dt;have hd:∀i,i<n+1->0<d i/\d i<2147483648:=fun i hi=>by
  have h1:=hTL.pos i hi;have h2:=hTL.d_le hi;omega
 unfold nb;rcases db i j with h|h|h
 ·rw[(hHI.done j om).1 i h];decide
 ·subst h;rw[(hHI.done i om).2.1];have:=hd i om;omega
 ·have h1:=(hHI.done j om).2.2 i h om;have h2:=hd i om;omega
theorem pC.herm{n k:Nat}{M B:aW}(h:pC n k (dJ n M) B):yX n k B:=by
 obtain⟨R,H,U,hT,hH,rfl⟩:=h.ex;exact hH
end Go.Proofs.YtdobfmlmenaajaaGreatDoor
