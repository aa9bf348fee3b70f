/-
  Lemmas for NeighbourKeeps.
-/
import Derived.Test.YtdobfmlmenaajaaGreatDoorL27
namespace Go.Proofs.YtdobfmlmenaajaaGreatDoor
open Go.RowKit Tryz
open _root_.Int renaming tmod_eq_emod_of_nonneg→aN,mul_ediv_cancel_left→cc,tmod→eF,sign_eq_zero_iff_zero→iZ
open _root_.List renaming all_eq_true→ap,not_mem_nil→aG,forall_mem_cons→aO
open _root_.Nat renaming add_one_le_iff→aa,le_refl→af,zero_add→aJ,sub_self→bH,lt_irrefl→co,sub_zero→c9,sub_sub→oI
open _root_.Ne renaming symm→ai
open _root_.Option renaming none→ae
open _root_.Or renaming inr→aK,inl→bn
set_option maxHeartbeats 6400000
set_option maxRecDepth 4096
set_option linter.all false
attribute [local go_sem] Nat.reduceAdd Nat.reduceEqDiff Nat.reduceLeDiff Nat.reduceLT reduceCtorEq Int.ofNat_lt decide_true decide_false Int.zero_le_ofNat
attribute [local go_sem ↓] reduceIte
variable{x y:AV}{K:AV->St->Prop}{neg:Bool}{D d:Int}{N R b b1 b11 b2 b3 b5 b8 bu bw e es i k kk n t top:Nat}{g0 g1 z:Nat->AV}{L:Nat->Bool}{g gu ls σ:Nat->Nat}{E:Nat->Nat->AV}{S S' S0:St}{O:Tm}{A B C W X:aB}
def Hz(b N top:Nat):Nat->AV:=fun j=>if j=0 then .sl 1 b 0 N else .int .i64 top
structure tG(T:St)(b1 b N top:Nat)(L:Nat->Bool)(O:Tm)(S:St):Prop where
 base:O 1=.ptr 1 b1 0
 p0:L 0=true->O 10=.ptr 1 b1 0
 p1:L 1=true->O 11=.sl 1 b 0 N
 p2:L 2=true->O 12=.int .i64 N
 p4:L 4=true->O 14=.ptr 1 b1 1
 p5:L 5=true->O 15=.int .i64 top
 ext:cY T S
 ex:∃bw b3,(L 3=true->O 13=.sl 1 bw 0 N/\aR S bw 59 1 N (fun _=>.nil)/\T bw=ae)/\(L 6=true->L 3=true/\O 16=.agg [.sl 1 bw 0 N,.int .i64 top])/\(L 7=true->O 3=.ptr 1 b3 0/\T b3=ae/\∃g,S b3=some ⟨218,1,2,g⟩)/\(L 8=true->L 6=true/\L 7=true/\aR S b3 218 1 2 (Hz bw N top))
theorem pt{d:Nat}{z:AV}(h:t≠d):(O.put (some d) z) t=O t:=by rw[Tm.put_eq];exact if_neg h
theorem pd{d:Nat}{z:AV}:(O.put (some d) z) d=z:=by rw[Tm.put_eq];exact if_pos rfl
theorem fY(h:(if k=i then true else L k)=true)(a:k≠i):L k=true:=by rwa [if_neg a]at h
section
variable {T:St} {b1 b N top:Nat} {L:Nat->Bool} {O:Tm} {S:St}
theorem tG.s0(h:tG T b1 b N top L O S):tG T b1 b N top (fun k=>if k=0 then true else L k) (O.put (some 10) (.ptr 1 b1 0)) S :=
 ⟨by rw[pt dc];exact h.base,fun _=>pd,fun a=>by rw[pt dc];exact h.p1 (fY a dc),fun a=>by rw[pt dc];exact h.p2 (fY a dc),fun a=>by rw[pt dc];exact h.p4 (fY a dc),fun a=>by rw[pt dc];exact h.p5 (fY a dc),h.ext,by
  obtain⟨bw,d,e,c,f,g⟩:=h.ex;refine⟨bw,d,fun a=>?_,fun a=>?_,fun a=>?_,fun a=>?_⟩
  ·rw[pt dc];exact e (fY a dc)
  ·rw[pt dc];exact⟨by simpa using (c (fY a dc)).1,(c (fY a dc)).2⟩
  ·rw[pt dc];exact f (fY a dc)
  ·have:=g (fY a dc);exact⟨by simpa using this.1,by simpa using this.2.1,this.2.2⟩⟩
theorem tG.s1(h:tG T b1 b N top L O S):tG T b1 b N top (fun k=>if k=1 then true else L k) (O.put (some 11) (.sl 1 b 0 N)) S :=
 ⟨by rw[pt dc];exact h.base,fun a=>by rw[pt dc];exact h.p0 (fY a dc),fun _=>pd,fun a=>by rw[pt dc];exact h.p2 (fY a dc),fun a=>by rw[pt dc];exact h.p4 (fY a dc),fun a=>by rw[pt dc];exact h.p5 (fY a dc),h.ext,by
  obtain⟨bw,d,e,c,f,g⟩:=h.ex;refine⟨bw,d,fun a=>?_,fun a=>?_,fun a=>?_,fun a=>?_⟩
  ·rw[pt dc];exact e (fY a dc)
  ·rw[pt dc];exact⟨by simpa using (c (fY a dc)).1,(c (fY a dc)).2⟩
  ·rw[pt dc];exact f (fY a dc)
  ·have:=g (fY a dc);exact⟨by simpa using this.1,by simpa using this.2.1,this.2.2⟩⟩
theorem tG.s2(h:tG T b1 b N top L O S):tG T b1 b N top (fun k=>if k=2 then true else L k) (O.put (some 12) (.int .i64 N)) S :=
 ⟨by rw[pt dc];exact h.base,fun a=>by rw[pt dc];exact h.p0 (fY a dc),fun a=>by rw[pt dc];exact h.p1 (fY a dc),fun _=>pd,fun a=>by rw[pt dc];exact h.p4 (fY a dc),fun a=>by rw[pt dc];exact h.p5 (fY a dc),h.ext,by
  obtain⟨bw,d,e,c,f,g⟩:=h.ex;refine⟨bw,d,fun a=>?_,fun a=>?_,fun a=>?_,fun a=>?_⟩
  ·rw[pt dc];exact e (fY a dc)
  ·rw[pt dc];exact⟨by simpa using (c (fY a dc)).1,(c (fY a dc)).2⟩
  ·rw[pt dc];exact f (fY a dc)
  ·have:=g (fY a dc);exact⟨by simpa using this.1,by simpa using this.2.1,this.2.2⟩⟩
theorem tG.s4(h:tG T b1 b N top L O S):tG T b1 b N top (fun k=>if k=4 then true else L k) (O.put (some 14) (.ptr 1 b1 1)) S :=
 ⟨by rw[pt dc];exact h.base,fun a=>by rw[pt dc];exact h.p0 (fY a dc),fun a=>by rw[pt dc];exact h.p1 (fY a dc),fun a=>by rw[pt dc];exact h.p2 (fY a dc),fun _=>pd,fun a=>by rw[pt dc];exact h.p5 (fY a dc),h.ext,by
  obtain⟨bw,d,e,c,f,g⟩:=h.ex;refine⟨bw,d,fun a=>?_,fun a=>?_,fun a=>?_,fun a=>?_⟩
  ·rw[pt dc];exact e (fY a dc)
  ·rw[pt dc];exact⟨by simpa using (c (fY a dc)).1,(c (fY a dc)).2⟩
  ·rw[pt dc];exact f (fY a dc)
  ·have:=g (fY a dc);exact⟨by simpa using this.1,by simpa using this.2.1,this.2.2⟩⟩
theorem tG.s5(h:tG T b1 b N top L O S):tG T b1 b N top (fun k=>if k=5 then true else L k) (O.put (some 15) (.int .i64 top)) S :=
 ⟨by rw[pt dc];exact h.base,fun a=>by rw[pt dc];exact h.p0 (fY a dc),fun a=>by rw[pt dc];exact h.p1 (fY a dc),fun a=>by rw[pt dc];exact h.p2 (fY a dc),fun a=>by rw[pt dc];exact h.p4 (fY a dc),fun _=>pd,h.ext,by
  obtain⟨bw,d,e,c,f,g⟩:=h.ex;refine⟨bw,d,fun a=>?_,fun a=>?_,fun a=>?_,fun a=>?_⟩
  ·rw[pt dc];exact e (fY a dc)
  ·rw[pt dc];exact⟨by simpa using (c (fY a dc)).1,(c (fY a dc)).2⟩
  ·rw[pt dc];exact f (fY a dc)
  ·have:=g (fY a dc);exact⟨by simpa using this.1,by simpa using this.2.1,this.2.2⟩⟩
theorem tG.s3(h:tG T b1 b N top L O S)(f:L 3=false){c:Nat}(j:S c=ae)(z:Nat->AV)(m:∀i,i<N->z i=.nil):tG T b1 b N top (fun k=>if k=3 then true else L k) (O.put (some 13) (.sl 1 c 0 N)) (S.upd c ⟨59,1,N,z⟩):=by
 have l:=h.ext.none j;refine⟨by rw[pt dc];exact h.base,fun a=>by rw[pt dc];exact h.p0 (fY a dc),fun a=>by rw[pt dc];exact h.p1 (fY a dc),fun a=>by rw[pt dc];exact h.p2 (fY a dc),fun a=>by rw[pt dc];exact h.p4 (fY a dc),fun a=>by rw[pt dc];exact h.p5 (fY a dc),h.ext.upd l _,?_⟩
 obtain⟨bw,n,t,o,p,q⟩:=h.ex;have d:L 6=true->False:=fun d=>by rw[(o d).1]at f;cases f
 refine⟨c,n,fun _=>⟨pd,aR.here m,l⟩,fun a=>(d (fY a dc)).elim,fun a=>?_,fun a=>(d (q (fY a dc)).1).elim⟩
 rw[pt dc]
 obtain⟨r,s,g,e⟩:=p (fY a dc)
 refine⟨r,s,g,?_⟩;rw[aH];exact e;rintro rfl;rw[j]at e;cases e
theorem tG.s6(h:tG T b1 b N top L O S)(c:L 3=true):∃bw,O 13=.sl 1 bw 0 N/\tG T b1 b N top (fun k=>if k=6 then true else L k) (O.put (some 16) (.agg [.sl 1 bw 0 N,.int .i64 top])) S:=by
 obtain⟨bw,e,d,i,f,g⟩:=h.ex;refine⟨bw,(d c).1,⟨by rw[pt dc];exact h.base,fun a=>by rw[pt dc];exact h.p0 (fY a dc),fun a=>by rw[pt dc];exact h.p1 (fY a dc),fun a=>by rw[pt dc];exact h.p2 (fY a dc),fun a=>by rw[pt dc];exact h.p4 (fY a dc),fun a=>by rw[pt dc];exact h.p5 (fY a dc),h.ext,bw,e,fun a=>?_,fun _=>⟨by simpa using c,pd⟩,fun a=>?_,fun a=>?_⟩⟩
 ·rw[pt dc];exact d c
 ·rw[pt dc];exact f (fY a dc)
 ·have:=g (fY a dc);exact⟨sm,by simpa using this.2.1,this.2.2⟩
theorem tG.s7(h:tG T b1 b N top L O S)(d:L 7=false){c:Nat}(e:S c=ae)(z:Nat->AV):tG T b1 b N top (fun k=>if k=7 then true else L k) (O.put (some 3) (.ptr 1 c 0)) (S.upd c ⟨218,1,2,z⟩):=by
 have f:=h.ext.none e;refine⟨by rw[pt dc];exact h.base,fun a=>by rw[pt dc];exact h.p0 (fY a dc),fun a=>by rw[pt dc];exact h.p1 (fY a dc),fun a=>by rw[pt dc];exact h.p2 (fY a dc),fun a=>by rw[pt dc];exact h.p4 (fY a dc),fun a=>by rw[pt dc];exact h.p5 (fY a dc),h.ext.upd f _,?_⟩
 obtain⟨bw,o,j,g,p,l⟩:=h.ex;refine⟨bw,c,fun a=>?_,fun a=>?_,fun _=>⟨pd,f,z,bR⟩,fun a=>?_⟩
 ·rw[pt dc]
  obtain⟨m,i,n⟩:=j (fY a dc)
  exact⟨m,i.upd (aR.fresh i e) _,n⟩
 ·rw[pt dc];exact⟨by simpa using (g (fY a dc)).1,(g (fY a dc)).2⟩
 ·have:=(l (fY a dc)).2.1;rw[this]at d;cases d
theorem tG.s8(h:tG T b1 b N top L O S)(e:L 6=true)(f:L 7=true):∃bw c g,O 16=.agg [.sl 1 bw 0 N,.int .i64 top]/\O 3=.ptr 1 c 0/\S c=some ⟨218,1,2,g⟩/\∀z,(∀j,j<2->z j=Hz bw N top j)->tG T b1 b N top (fun k=>if k=8 then true else L k) O (S.upd c ⟨218,1,2,z⟩):=by
 obtain⟨bw,c,o,d,p,t⟩:=h.ex;obtain⟨i,l,g,m⟩:=p f;refine⟨bw,c,g,(d e).2,i,m,fun z q=>⟨h.base,fun a=>h.p0 (fY a dc),fun a=>h.p1 (fY a dc),fun a=>h.p2 (fY a dc),fun a=>h.p4 (fY a dc),fun a=>h.p5 (fY a dc),h.ext.upd l _,bw,c,fun a=>?_,fun a=>?_,fun _=>⟨i,l,z,bR⟩,fun _=>⟨by simpa using e,by simpa using f,aR.here q⟩⟩⟩
 ·obtain⟨r,n,s⟩:=o (fY a dc)
  exact⟨r,n.upd (aR.ne n (aR.of m) dc) _,s⟩
 ·exact⟨by simpa using (d (fY a dc)).1,(d (fY a dc)).2⟩
end
structure Dl(S0 S:St)(b3 b5 bw:Nat)(x:AV)(N R kk top:Nat)(W:aB)(d:Int)(ls:Nat->Nat):Prop where
 cols:∃c,qz S bw c N R W
 pair:aR S b3 218 1 2 (Hz bw N top)
 var:cE S b5 50 2 (.big d)
 list:cC 3 1 S0 S x kk (fun i=>.int .i64 (ls i))
 nw:S0 bw=ae
 n3:S0 b3=ae
 n5:S0 b5=ae
theorem Dl.keep{W':aB}(h:Dl S0 S b3 b5 bw x N R kk top W d ls)(b:ib bw S S'){c:Nat->Nat}(n:qz S' bw c N R W'):Dl S0 S' b3 b5 bw x N R kk top W' d ls:=by
 obtain⟨p,a⟩:=h.cols;have o:cY S0 S':=fun k X g=>b k X (h.list.1 k X g) (fun e=>by rw[e,h.nw]at g;cases g)
 refine⟨⟨c,n⟩,b.has h.pair (aR.ne h.pair a.outer dc),b.var h.var ?_,h.list.step o fun d i=>?_,h.nw,h.n3,h.n5⟩
 ·obtain⟨y,f,_⟩:=h.var;obtain⟨y',l,_⟩:=a.outer;rintro rfl;rw[f]at l;cases l
 ·rcases h.list.2 with⟨_,j⟩|⟨e,_,j,m⟩
  ·obtain⟨_,_,_,e⟩:=i;rw[j]at e;cases e
  ·rw[j]at i;rw[dk.1 i];obtain⟨y,f,_⟩:=id m;rw[f];exact b _ _ f (aR.ne m a.outer dc)
theorem Dl.setVar{z:Int}(h:Dl S0 S b3 b5 bw x N R kk top W d ls){g:Nat->AV}(c:S b5=some ⟨50,2,1,g⟩)(k:R≠1):Dl S0 (S.upd b5 ⟨50,2,1,aL g 0 (.big z)⟩) b3 b5 bw x N R kk top W z ls:=by
 obtain⟨l,b⟩:=h.cols;have f:aR S b5 50 2 1 g:=aR.of c;refine⟨⟨l,b.outer.upd (aR.ne b.outer f dc) _,fun a i=>(b.row a i).upd ?_ _⟩,h.pair.upd (aR.ne h.pair f dc) _,cE.set,h.list.upd h.n5 (fun d m e=>h.list.other c dc (e▸m)) _,h.nw,h.n3,h.n5⟩
 rintro e;obtain⟨y,j,_⟩:=b.row a i;rw[e,c]at j;cases j;exact k rfl
theorem Dl.other(h:Dl S0 S b3 b5 bw x N R kk top W d ls){e:Nat}(c:S e=ae)(X:dH):Dl S0 (S.upd e X) b3 b5 bw x N R kk top W d ls:=by
 obtain⟨g,b⟩:=h.cols;exact⟨⟨g,b.outer.upd (aR.fresh b.outer c) _,fun a f=>(b.row a f).upd (aR.fresh (b.row a f) c) _⟩,h.pair.upd (aR.fresh h.pair c) _,h.var.upd (h.var.fresh c) _,h.list.upd (h.list.1.none c) (h.list.fresh c) _,h.nw,h.n3,h.n5⟩
theorem Dl.app(h:Dl S0 S b3 b5 bw x N R kk top W d ls){e k' row:Nat}(l:cC 3 1 S0 S' (.sl 1 e 0 k') k' (fun i=>if i=kk then .int .i64 row else .int .i64 (ls i)))(k:∀d X,S d=some X->¬dl x d->S' d=some X) :
  Dl S0 S' b3 b5 bw (.sl 1 e 0 k') N R k' top W d (fun i=>if i=kk then row else ls i):=by
 obtain⟨m,c⟩:=h.cols;have kp:∀{b ty es n:Nat} {g:Nat->AV},aR S b ty es n g->ty≠3->aR S' b ty es n g:=fun o p=>by
  obtain⟨y,f,j⟩:=o;exact⟨y,k _ _ f (h.list.other f p),j⟩
 refine⟨⟨m,kp c.outer dc,fun a q=>kp (c.row a q) dc⟩,kp h.pair dc,?_,l.congr fun i _=>by split<;>rfl,h.nw,h.n3,h.n5⟩
 obtain⟨y,f,j⟩:=h.var;exact⟨y,k _ _ f (h.list.other f dc),j⟩
def EV(S0 S:St)(b3 b5 bw:Nat)(x:AV)(N R kk top:Nat)(d:Int)(ls:Nat->Nat)(A:aB)(t:Nat)(σ:Nat->Nat)(row:Nat):Prop:=∃W,Dl S0 S b3 b5 bw x N R kk top W d ls/\IE A N R kk t σ W/\W kk row≠0
def IV(S0 S:St)(b3 b5 bw:Nat)(x:AV)(n N R top:Nat)(A:aB)(row:Nat):Prop:=∃kk W d ls,Dl S0 S b3 b5 bw x N R kk top W d ls /\
 ((∃σ,kk=min row n/\row<=n+n/\IQ A N R kk σ W/\d=det kk (fun x y=>A x (σ y))/\(∀r,n<=r->r<row->W n r=0)/\∀i,i<kk->ls i=i) ∨
   (kk=N/\∃Rr,n<=Rr/\Rr<=n+n/\det (n+1) (fun a b=>A (rZ n Rr a) b)≠0/\∀i,i<N->ls i=rZ n Rr i))
theorem tS(S0:St)(b:Nat)(c:Nat->Nat)(n N R top:Nat)(A:aB)(hn:n<=5)(h1:1<=n)(hN:N=n+1)(hR:R=n+n+1)(hO:qz S0 b c N R (fun a r=>A r a))
  (hB:∀σ k,ln A N σ k->∀k' i j,k'+j<N->k'+i<R->nb (ca (fun x y=>A x (σ y)) k' i j) 31) (hdet:det (n+1) (fun a b=>A (rZ n (n+n) a) b)≠0) :
  cL 259 [.agg [.sl 1 b 0 N,.int .i64 top]] S0 (fun r S'=>∃e Rr,r=.sl 1 e 0 N/\n<=Rr/\Rr<=n+n/\det (n+1) (fun a b=>A (rZ n Rr a) b)≠0/\aR S' e 3 1 N (fun i=>.int .i64 (rZ n Rr i))/\cY S0 S'):=by
 refine ak func259 rfl 92 ntmps259 kr sm (by simp[results259]) ?_
 rw[aF,results259];simp -dsimp only[go_sem,aO,aG,false_implies,implies_true];refine au.intro fun b1 f1=>?_;refine lM (fun T=>aR T b1 218 1 2 (Hz b N top)/\cY S0 T) ?_ ?_
 ·refine⟨aR.here fun j hj=>?_,(cY.refl S0).upd f1 _⟩
  match j,hj with
  | 0,_=>rfl
  | 1,_=>rfl
 rintro T ⟨hT1,hET⟩;refine t7 (tG T b1 b N top) kr ?_ ?_ ?_
 ·exact⟨by simp -dsimp only[go_sem],(fun h=>by cases h),(fun h=>by cases h),(fun h=>by cases h),(fun h=>by cases h),(fun h=>by cases h),cY.refl T,0,0,(fun h=>by cases h),(fun h=>by cases h),(fun h=>by cases h),(fun h=>by cases h)⟩
 ·refine⟨?_,?_,?_,?_,?_,?_,?_,?_,?_,trivial⟩
  ·intro L O S f D l;have al:∀k,_->L k=true:=ap.1 l;refine cN rfl ?_;simp -dsimp only[go_sem,f.base];exact f.s0
  ·intro L O S f D l;have al:∀k,_->L k=true:=ap.1 l;refine cN rfl ?_;obtain⟨g1,u1,v1⟩:=id (f.ext.has hT1);simp -dsimp only[go_sem,aa,f.p0 (al 0 dc),u1,show g1 0=.sl 1 b 0 N from v1 0 om]
   exact f.s1
  ·intro L O S f D l;have al:∀k,_->L k=true:=ap.1 l;refine cN rfl ?_;simp -dsimp only[go_sem,f.p1 (al 1 dc)]
   exact f.s2
  ·intro L O S f D l;have al:∀k,_->L k=true:=ap.1 l;refine cN rfl ?_;simp -dsimp only[go_sem,f.p2 (al 2 dc)]
   repeat refine an ?_
   refine au.intro fun bw fw=>?_;exact f.s3 D fw _ (fun _ _=>rfl)
  ·intro L O S f D l;have al:∀k,_->L k=true:=ap.1 l;refine cN rfl ?_;simp -dsimp only[go_sem,f.base];exact f.s4
  ·intro L O S f D l;have al:∀k,_->L k=true:=ap.1 l;refine cN rfl ?_;obtain⟨g1,u1,v1⟩:=id (f.ext.has hT1);simp -dsimp only[go_sem,aa,f.p4 (al 4 dc),u1,show g1 1=.int .i64 top from v1 1 om]
   exact f.s5
  ·intro L O S f D l;have al:∀k,_->L k=true:=ap.1 l;refine cN rfl ?_;obtain⟨bw,q1,q2⟩:=f.s6 (al 3 dc)
   simp -dsimp only[go_sem,q1,f.p5 (al 5 dc)]
   exact q2
  ·intro L O S f D l;have al:∀k,_->L k=true:=ap.1 l;refine cN rfl ?_;simp -dsimp only[go_sem];refine au.intro fun bw fw=>?_;exact f.s7 D fw _
  ·intro L O S f D l;have al:∀k,_->L k=true:=ap.1 l;refine cN rfl ?_;obtain⟨bw,P,g,q1,q2,q3,q4⟩:=f.s8 (al 6 dc) (al 7 dc)
   simp -dsimp only[go_sem,aa,q1,q2,q3,aO,aG,false_implies,implies_true];refine q4 _ (fun j hj=>?_)
   match j,hj with
   | 0,_=>simp[eJ,Hz]
   | 1,_=>simp[eJ,Hz]
 intro L O S f D;obtain⟨bw,P,m3,m6,m7,m8⟩:=f.ex;obtain⟨a1,a2,a3⟩:=m3 (D 3 dc)
 obtain⟨c1,c2,_⟩:=m7 (D 7 dc)
 have d3:=(m8 (D 8 dc)).2.2
 have hE:=hET.trans f.ext;have nw:=hET.none a3;have n3:=hET.none c2;have Q:=hO.ext hE;have e1:=f.base;have E:=f.ext.has hT1;clear f D m3 m6 m7 m8 a3 c2 hT1 hET a1;obtain⟨g1,u1,v1⟩:=id E;obtain⟨g3,w,H⟩:=id d3;obtain⟨gw,uw,vw⟩:=id a2;obtain⟨gb,ub,vb⟩:=id Q.outer;simp -dsimp only[go_sem,aa,e1,c1,u1,w,show g1 0=.sl 1 b 0 N from v1 0 om,show g3 0=.sl 1 bw 0 N from H 0 om];refine CQ (e:=59) uw ub rfl rfl om (fun a l=>by rw[vb a l];trivial) ?_
 simp -dsimp only[go_sem,aa,show g1 0=.sl 1 b 0 N from v1 0 om,show g3 0=.sl 1 bw 0 N from H 0 om];refine(fQ dc dc).call ?_
 simp -dsimp only[go_sem];refine au.intro fun M f5=>?_
 try simp -dsimp only[go_sem]
 have hb5:bw≠M:=fun e=>by rw[e]at f5;rw[bR]at f5;cases f5
 have s5:S M=ae:=by rw[aH (ai hb5)]at f5;exact f5
 have h3w:P≠bw:=aR.ne d3 a2 dc
 have h35:P≠M:=aR.fresh d3 s5;have n5:=hE.none s5;have hInit:∀X Y,X=(fun j=>if 0<=j/\j<N then gb (j-0)else gw j)->Y 0=AV.big 1->Dl S0 ((S.upd bw ⟨59,1,N,X⟩).upd M ⟨50,2,1,Y⟩) P M bw .nil N R 0 top (fun a r=>A r a) 1 (fun i=>i):=by
  intro X Y hX hY;refine⟨⟨c,aR.upd (aR.here fun a l=>?_) hb5 _,fun a l=>?_⟩,(d3.upd h3w _).upd h35 _,cE.new hY,cC.nil ((hE.upd nw _).upd n5 _) _,nw,n3,n5⟩
  ·rw[hX];simp only[Nat.zero_le,true_and,l,if_true,c9];exact vb a l
  ·exact((Q.row a l).upd (aR.ne (Q.row a l) a2 dc) _).upd (aR.fresh (Q.row a l) s5) _
 have hIQ:IQ A N R 0 id (fun a r=>A r a):=IQ.init fun a r l hr=>by
  have:=hB id 0 (ln.init A N) 0 r a om om
  rwa [eS]at this
 refine aI (fun O S=>∃row:Nat,row<=n+n+1/\O 3=.ptr 1 P 0/\O 5=.ptr 2 M 0/\O 6=.int .i64 row/\IV S0 S P M bw (O 4) n N R top A row) (fun O S=>n+n+2-bT (O 6)) ?_ ?_
 ·simp -dsimp only[go_sem,c1];rw[kE];exact⟨0,om,rfl,0,_,1,_,hInit _ _ rfl (by simp[aL]),bn ⟨id,om,om,hIQ,by simp[det],fun r h1 h2=>om,fun i h=>om⟩⟩
 clear hIQ hInit e1 c1 u1 v1 w H uw vw ub vb Q E d3 a2 hE f5 s5 h35 h3w f1;rintro O S ⟨row,hrow,B,I,o,kk,W,d,ls,J,hV⟩;obtain⟨g3,w,H⟩:=id J.pair;have F:g3 0=.sl 1 bw 0 N:=H 0 om;by_cases G:kk<N
 ·obtain⟨σ,k1,k2,hQ,hd,hz,hls⟩:=hV.resolve_right (fun h=>om)
  apply qT (fun O' S'=>O' 3=.ptr 1 P 0/\O' 4=O 4/\O' 5=.ptr 2 M 0/\O' 6=.int .i64 row/\O' 7=.int .i64 kk/\O' 8=.int .i64 kk/\S'=S)
  ·intro key;rcases J.list.2 with⟨h0,hx⟩|⟨e,_,hx,_⟩
   ·subst h0;have hN0:(0:Int)<(N:Int):=om
    simp -dsimp only[go_sem,aa,B,o,hx,w,F,hN0];refine key _ _ ?_;simp -dsimp only[go_sem,B,I,o,hx];exact⟨rfl,rfl⟩
   ·simp -dsimp only[go_sem,aa,B,o,hx,w,F,G];refine key _ _ ?_;simp -dsimp only[go_sem,B,I,o,hx]
  generalize O 4=x at *;rintro O' S' ⟨e3',e4',e5',e6',e7',e8',rfl⟩;refine aI (fun O S=>∃j:Nat,kk<=j/\j<=N/\O 3=.ptr 1 P 0/\O 4=x/\O 5=.ptr 2 M 0/\O 6=.int .i64 row/\O 7=.int .i64 kk/\O 8=.int .i64 j/\Dl S0 S P M bw x N R kk top W d ls/\∀a,kk<=a->a<j->W a row=0) (fun O S=>N-bT (O 8)) ?_ ?_
  ·exact⟨kk,om,om,e3',e4',e5',e6',e7',e8',J,fun a h1 h2=>om⟩
  clear e3' e4' e5' e6' e7' e8' B I o w H F J;rintro O S ⟨j,hj1,hj2,B,U,I,o,e7,e8,J,hzz⟩;obtain⟨g3,w,H⟩:=id J.pair;have F:g3 0=.sl 1 bw 0 N:=H 0 om;obtain⟨c,hC⟩:=J.cols;obtain⟨gw,uw,vw⟩:=id hC.outer;have C:row<R:=om
  by_cases s:j<N
  ·obtain⟨gc,uc,vc⟩:=id (hC.row j s);have xw:gw j=.sl 2 (c j) 0 R:=vw j s;have xc:gc row=.big (W j row):=vc row C;have nW:=hQ.b j row s C;simp -dsimp only[go_sem,aa,B,o,e8,w,F,s,uw,xw,uc,xc,C];refine(jp nW om).call ?_;by_cases V:W j row=0
   ·simp -dsimp only[go_sem,aa,B,U,I,o,e7,e8,w,F,s,xw,xc,V,show(Int.sign 0==0)=true from rfl,aM (om:j<1000000),bT]
    exact⟨⟨j+1,om,om,rfl,J,fun a h1 h2=>by
     by_cases e:a=j
     ·rw[e];exact V
     ·exact hzz a h1 om⟩,om⟩
   ·have hs:((W j row).sign==0)=false:=by
     rw[beq_eq_false_iff_ne];intro h;exact V (iZ.1 h)
    have hjne:((j:Int)==(N:Int))=false:=by rw[beq_eq_false_iff_ne];omega
    simp -dsimp only[go_sem,aa,B,U,I,o,e7,e8,w,F,s,xw,xc,hs,hjne];refine(yO S bw c N R kk j W G s hC).mono ?_;rintro _ S1 ⟨⟨c',hC'⟩,hK⟩;have E:=J.keep hK hC';have hQ1:=hQ.swap hj1 s;have Z:det kk (fun x y=>A x (σ (cV kk j y)))=d:=by
     rw[hd];exact aT fun a y _ hy=>by rw[show cV kk j y=y by unfold cV;rw[if_neg om,if_neg om]]
    have u:W (cV kk j kk) row≠0:=by unfold cV;rw[if_pos rfl];exact V
    obtain⟨W1,hW1⟩:∃W1:aB,W1=fun a=>W (cV kk j a):=⟨_,rfl⟩;obtain⟨σ1,hσ1⟩:∃σ1:Nat->Nat,σ1=fun a=>σ (cV kk j a):=⟨_,rfl⟩;rw[<-hW1]at E hQ1;rw[<-hσ1]at hQ1
    replace Z:det kk (fun x y=>A x (σ1 y))=d:=by rw[hσ1];exact Z
    replace u:W1 kk row≠0:=by rw[hW1];exact u
    clear hW1 hσ1;have m:=hQ1.start G;have hd0:d≠0:=by rw[<-Z];exact m.el.lead kk (af _)
    have ndd:nb d 31:=by
     rw[<-Z];by_cases e:kk=0
     ·rw[e];simp only[det];exact nb.one om
     ·have:=hB σ1 kk m.el (kk-1) 0 0 om om;rw[cA,(om:kk-1+1=kk)]at this
      exact this
    clear w H F uw vw xw uc vc xc J hC hK hC';obtain⟨g3,w,H⟩:=id E.pair;have F:g3 0=.sl 1 bw 0 N:=H 0 om;simp -dsimp only[go_sem,e7,e8,aM (om:kk<1000000)]
    refine aI (fun O S=>∃t:Nat,kk+1<=t/\t<=N/\O 3=.ptr 1 P 0/\O 4=x/\O 5=.ptr 2 M 0/\O 6=.int .i64 row/\O 7=.int .i64 kk/\O 9=.int .i64 t/\EV S0 S P M bw x N R kk top d ls A t σ1 row) (fun O S=>N-bT (O 9)) ?_ ?_
    ·simp -dsimp only[go_sem,B,U,I,o,e7];exact⟨kk+1,om,om,rfl,W1,E,m,u⟩
    clear B U I o e7 e8 E m hQ1 w H F u hzz V hs hjne nW hQ hd;rintro O S ⟨t,ht1,ht2,B,U,I,o,e7,e9,W2,K,m,u⟩;obtain⟨g3,w,H⟩:=id K.pair;have F:g3 0=.sl 1 bw 0 N:=H 0 om;obtain⟨g5,u5,x5⟩:=id K.var;by_cases htt:t<N
    ·have hrk:row=kk:=om
     obtain⟨c2,hC2⟩:=K.cols;simp -dsimp only[go_sem,aa,B,U,I,o,e7,e9,w,F,u5,x5,htt];refine(sL S bw c2 N R kk t row W2 d G htt C om hd0 ndd m.b hC2).mono ?_;rintro _ S3 ⟨⟨c3,hC3⟩,hK3⟩;have hst:=m.step om htt om (fun i c h1 h2=>hB σ1 kk m.el (kk+1) i c h1 h2);rw[Z]at hst;rw[hrk]at hC3;simp -dsimp only[go_sem,B,U,I,o,e7,e9,aM (om:t<1000000),bT]
     exact⟨⟨t+1,om,om,rfl,_,K.keep hK3 hC3,hst,by rw[if_neg om];exact u⟩,om⟩
    have htN:N=t:=om
    obtain⟨c2,hC2⟩:=K.cols;obtain⟨gw,uw,vw⟩:=id hC2.outer;obtain⟨gc,uc,vc⟩:=id (hC2.row kk G);have xw:gw kk=.sl 2 (c2 kk) 0 R:=vw kk G;have xc:gc row=.big (W2 kk row):=vc row C;simp -dsimp only[go_sem,aa,B,U,I,o,e7,e9,w,F,u5,x5,htt,uw,xw,uc,xc,G,C];have hS5:=K.setVar (z:=W2 kk row) (g:=g5) u5 om;refine au.intro fun b9 f9=>?_;have hxb:=hS5.list.fresh f9;have hS6:=hS5.other f9 ⟨3,1,1,fun j=>[AV.int .i64 row].getD j .any⟩
    try simp -dsimp only[go_sem,U,o]
    refine cC.app3 (v:=.int .i64 row) hS6.list (om:kk<1000000) (by simp[dN]) (aK ⟨_,_,_,rfl,bR,rfl,fun h=>hxb _ h rfl⟩) ?_
    intro e S7 hX' hk1 _;have hS7:=hS6.app hX' hk1;simp -dsimp only[go_sem,B,U,I,o,aM (om:row<1000000),bT]
    refine⟨⟨row+1,om,rfl,kk+1,W2,W2 kk row,_,hS7,?_⟩,om⟩
    subst htN;by_cases hkn:kk<n
    ·have hrk:row=kk:=om
     have hp:=m.p kk (af _) om;rw[bH]at hp;rw[hrk]at u ⊢;refine bn ⟨σ1,om,om,m.done (by rw[<-hp];exact u),by rw[hp,cA],fun r h1 h2=>om,fun i hi=>?_⟩
     by_cases e:i=kk
     ·rw[if_pos e];exact e.symm
     ·rw[if_neg e];exact hls i om
    ·have hkn':kk=n:=om
     have hp:=m.p row om C;subst hkn';have hl:=m.el;rw[hN]at hl;have:=hl.last (R:=row) om;refine aK ⟨om,row,om,om,fun h0=>?_,fun i hi=>?_⟩
     ·rw[h0,<-hp]at this;exact u om
     ·unfold rZ;by_cases e:i=kk
      ·rw[if_pos e,if_neg om]
      ·rw[if_neg e,if_pos om];exact hls i om
  ·have hjN':N=j:=om
   have hjeq:((j:Int)==(N:Int))=true:=by rw[beq_iff_eq];omega
   simp -dsimp only[go_sem,aa,B,U,I,o,e7,e8,w,F,s,hjeq,aM (om:row<1000000),bT]
   have hl:=hQ.el;rw[hN]at hl;have hkn:kk=n:=by
    refine Nat.le_antisymm om (Nat.le_of_not_lt fun hlt=>?_);refine hl.found (R:=n+n) hlt hdet fun a l=>?_;have hrk:row=kk:=om
    have:=hQ.q (kk+a) kk om om (af _) om;rw[bH,(om:kk+a-kk=a)]at this
    rw[<-this,<-hrk];exact hzz _ om om
   have hw:=hzz n om om;have hq:=hQ.q n row om om om C;have hlast:=hl.last (R:=row) om;subst hkn;rw[bH]at hq;refine⟨⟨row+1,om,rfl,kk,W,d,ls,J,bn ⟨σ,om,?_,hQ,hd,fun r h1 h2=>?_,hls⟩⟩,om⟩
   ·refine Nat.lt_of_le_of_ne k2 fun e=>hdet ?_;rw[<-e];rw[<-hq,hw]at hlast;simp only[Int.natAbs_zero]at hlast;omega
   ·by_cases e:r=row
    ·rw[e];exact hw
    ·exact hz r h1 om
 obtain⟨hkN,Rr,r1,r2,r3,r4⟩:=hV.resolve_left (fun⟨σ,h,_⟩=>om)
 subst hkN;rcases J.list.2 with⟨h0,hx⟩|⟨e,he,hx,hh⟩
 ·omega
 simp -dsimp only[go_sem,aa,B,o,hx,w,F,co];exact⟨e,rfl,Rr,r1,r2,r3,hh.congr fun i hi=>by rw[r4 i hi],J.list.1⟩

theorem IK{ty:Nat}(a:S b=some ⟨ty,es,N,g0⟩)(c:dw t=some e)(d:es=bS e)(f:0<N)(g:∀j,j<N->dN es (g1 j))
  (h:K (.int .i64 N) (S.upd b ⟨ty,es,N,fun j=>if 0<=j/\j<0+N then g1 (j-0)else g0 j⟩)):yb t (.sl es b 0 N) (.lst es N g1) S K:=by
 unfold yb uR;rw[c];simp only[a,zN];exact⟨d,trivial,trivial,om,trivial,f,g,h⟩
theorem eQ.setRow{o:Nat}{S1:St}{m:Nat}(h:eQ o e es S1 S b g n m k E)(d:o≠e){i:Nat}(f:i<k){z z':Nat->AV}(p:∀j,j<m->z j=z' j):eQ o e es S1 (S.upd (g i) ⟨e,es,m,z⟩) b g n m k (fun a c=>if a=i then z' c else E a c):=by
 refine⟨h.ext.upd (h.rnew i f) _,h.new,h.outer.upd (h.ne d f) _,fun a l=>?_,h.rnew,h.inj⟩;by_cases e:a=i
 ·subst e;simp only[if_true];exact aR.here p
 ·simp only[e,if_false];exact(h.row a l).upd (fun q=>e (h.inj a i l f q)) _
def DJ(A:aB)(n b b2 b8 b11:Nat)(S:St)(k:Nat)(neg:Bool)(i j:Nat):Prop:=∃(g σ:Nat->Nat) (B:aB),l9 A n σ neg k/\dd S b g n n B/\(∀i,i<n->g i≠b2/\g i≠b8/\g i≠b11)/\cE S b2 50 2 (.big 0)/\cE S b8 50 2 (.big (det k (fun a c=>A (σ a) c)))/\cE S b11 50 2 (.big (ca (fun a c=>A (σ a) c) k 0 0))/\b8≠b2/\b11≠b2/\b11≠b8/\Ey A n k i j σ B
theorem DJ.of{p:Nat}{X:dH}(D:l9 A n σ neg k)(m:k<p)(E:k<n)(F:p<n)(G:dd (S.upd b X) b (fun i=>g (cV k p i)) n n (fun i j=>B (cV k p i) j))(w:∀i,i<n->g i≠b2/\g i≠b8)
  (V2:cE S b2 50 2 (.big 0)) (V5:cE S b8 50 2 (.big (det k (fun a c=>A (σ a) c)))) (o:b≠b2) (q:b≠b8) (r:b2≠b8) (d:S b11=ae) (x:dd S b g n n B) (H:I8 A n k σ B) (h:B p k=ca (fun a c=>A (σ a) c) k (p-k) 0) (I:B p k≠0) (J:z 0=.big (B p k):=by rfl) :
  DJ A n b b2 b8 b11 ((S.upd b X).upd b11 ⟨50,2,1,z⟩) k (!neg) (k+1) (k+1):=by
 have l:∀i,i<n->cV k p i<n:=fun i f=>by unfold cV;split<;>(try split)<;>omega
 have K:b≠b11:=aR.fresh x.outer d;have y:b2≠b11:=V2.fresh d;have C:b8≠b11:=V5.fresh d;have ng:∀i,i<n->g i≠b11:=fun i f=>aR.fresh (x.row i f) d;have s:=sf (k:=k) (p:=p) (fun a c=>A (σ a) c) om 0 0;rw[show cV 0 (p-k) 0=p-k by simp[cV],<-h]at s
 refine⟨_,fun a=>σ (cV k p a),_,D.swap m F,G.upd K (fun i f=>ng _ (l i f)) _,fun i f=>⟨(w _ (l i f)).1,(w _ (l i f)).2,ng _ (l i f)⟩,(V2.upd (ai o) _).upd y _,?_,?_,ai r,ai y,ai C,?_,fun a c L t u v=>?_⟩
 ·have e:=sh (n:=k) (fun a c=>A (σ a) c) (i:=k) (k:=p) om om;rw[e];exact(V5.upd (ai q) _).upd C _
 ·rw[s];exact cE.new J
 ·rw[s];exact I
 ·rw[if_neg om];have e:=sf (k:=k) (p:=p) (fun a c=>A (σ a) c) om (a-k) (c-k);show B (cV k p a) c=_;rw[e,H (cV k p a) c (by unfold cV;split<;>(try split)<;>omega) (l a t) u v]
  congr 1;unfold cV;split<;>(try split)<;>(try split)<;>(try split)<;>omega
theorem DJ.of0(v:l9 A n σ neg k)(e:k<n)(h:dd S b g n n B)(r:∀i,i<n->g i≠b2/\g i≠b8)
  (V2:cE S b2 50 2 (.big 0)) (V5:cE S b8 50 2 (.big (det k (fun a c=>A (σ a) c)))) (j:b2≠b8) (d:S b11=ae) (s:I8 A n k σ B) (w:B k k≠0) (x:z 0=.big (B k k):=by rfl) :
  DJ A n b b2 b8 b11 (S.upd b11 ⟨50,2,1,z⟩) k neg (k+1) (k+1):=by
 have y:b≠b11:=aR.fresh h.outer d;have t:b2≠b11:=V2.fresh d;have u:b8≠b11:=V5.fresh d;have ng:∀i,i<n->g i≠b11:=fun i f=>aR.fresh (h.row i f) d;have l:=s k k (af _) e (af _) e;rw[bH]at l;refine⟨g,σ,B,v,h.upd y ng _,fun i f=>⟨(r i f).1,(r i f).2,ng i f⟩,V2.upd t _,V5.upd u _,?_,ai j,ai t,ai u,?_,fun a c m o p q=>?_⟩
 ·rw[<-l];exact cE.new x
 ·rw[<-l];exact w
 ·rw[if_neg om];exact s a c m o p q
theorem xL(n K:Nat)(A:aB)(h1:1<=n)(h2:n<=16)(hK1:1<=K)(hK:K<=1000000)(hd:det n A≠0)(hB:∀σ neg k,l9 A n σ neg k->∀k' i j,k'+i<n->k'+j<n->nb (ca (fun a b=>A (σ a) b) k' i j) K):PF 130 [aV n n A] (.big (det n A)):=by
 refine PF.of_spec (ak func130 rfl 149 ntmps130 kr sm (by simp[results130]) ?_)
 rw[aF,results130];simp -dsimp only[go_sem,aV,bA];refine au.intro fun C f2=>?_;simp -dsimp only[go_sem]
 repeat refine an ?_
 refine au.intro fun bb fb=>?_;have nb_2:=(ag fb).1;simp -dsimp only[go_sem];have hn2:bb≠C:=nb_2;refine aI (fun O S=>∃i:Nat,i<=n/\O 2=.ptr 2 C 0/\O 3=.int .i64 n/\O 4=.sl 1 bb 0 n/\O 19=aV n n A/\O 20=.int .i64 n/\O 21=.int .i64 i/\∃g',eQ 59 50 2 (St.none.upd C ⟨50,2,1,fun _=>.big 0⟩) S bb g' n n i (fun a c=>.big (A a c))) (fun O S=>n-bT (O 21)) ?_ ?_
 ·simp -dsimp only[go_sem,aV,bA];exact⟨0,om,rfl,fun _=>0,eQ.init fb (fun _ _=>rfl) _ _⟩
 rintro O S ⟨i,v,m,q,o,Y,Z,e21,g',hR⟩;by_cases h:i<n
 ·obtain⟨g4,u4,v4⟩:=id hR.outer;simp -dsimp only[go_sem,aa,q,o,Y,Z,e21,h,aV,bA]
  repeat refine an ?_
  refine au.intro fun bd fd=>?_;have hdc:bb≠bd:=aR.fresh hR.outer fd;simp -dsimp only[go_sem,h,u4,hdc,dr];have hR1:=hR.push dc fd u4 (fun _=>.big 0)
  generalize hgg:(fun a=>if a=i then bd else g' a)=gg at hR1
  have hgi:gg i=bd:=by rw[<-hgg];simp
  refine IK (e:=50) (by rw[aH (ai hdc)];exact bR) rfl rfl om (fun j _=>trivial) ?_
  simp -dsimp only[go_sem,m,q,o,Y,Z,e21,aV,bA,aM (om:i<1000000),bT]
  have hR2:=fun(z:Nat->AV) hz=>hR1.setRow dc (om:i<i+1) (z:=z) (z':=fun j=>.big (A i j)) hz
  simp only[hgi]at hR2;refine⟨⟨i+1,om,rfl,gg,(hR2 _ ?_).congr fun a c _ _=>?_⟩,om⟩
  ·intro j W;simp[W]
  ·by_cases e:a=i
   ·simp[e]
   ·simp[e]
 have hni:n=i:=om
 subst hni;have l:=hR.mat (A:=A) (fun _ _ _ _=>rfl);simp -dsimp only[go_sem,aa,q,o,Y,Z,e21,co];refine(fQ dc dc).call ?_
 simp -dsimp only[go_sem];refine au.intro fun G f8=>?_
 try simp -dsimp only[go_sem,q]
 have hb2:bb≠C:=nb_2;have hg2:∀i,i<n->g' i≠C:=fun i v e=>by have:=l.2.2.2 i v;rw[e,bR]at this;cases this
 have h28:C≠G:=fun e=>by have:=l.2.1 C _ bR;rw[e,f8]at this;cases this
 have hb8:bb≠G:=aR.fresh l.1.outer f8;have hg8:∀i,i<n->g' i≠G:=fun i v=>aR.fresh (l.1.row i v) f8;refine aI (fun O S=>∃(k:Nat) (neg:Bool),k<=n/\O 2=.ptr 2 C 0/\O 3=.int .i64 n/\O 4=.sl 1 bb 0 n/\O 7=.bool neg/\O 8=.ptr 2 G 0/\O 39=.int .i64 n/\O 40=.int .i64 k/\ze A n bb C G S k neg (I8 A n k)) (fun O S=>n-bT (O 40)) ?_ ?_
 ·simp -dsimp only[go_sem,m,q,o];refine⟨0,om,false,rfl,rfl,g',id,A,l9.init A n,(l.1.upd hb8 hg8 _).upd hb8 hg8 _,fun i v=>⟨hg2 i v,hg8 i v⟩,?_,cE.set,fun i j _ _ _ _=>by rw[eS];rfl⟩
  exact(cE.upd ⟨_,l.2.1 C _ bR,rfl⟩ h28 _).upd h28 _
 clear l hR m q o Y Z e21 f8 hg2 hg8;rintro O S ⟨k,neg,hkn,m,q,o,s,w,d,f,F⟩;by_cases h:k<n
 ·simp -dsimp only[go_sem,aa,s,w,d,f,h];refine aI (fun O S=>∃p:Nat,k<=p/\p<=n/\O 2=.ptr 2 C 0/\O 3=.int .i64 n/\O 4=.sl 1 bb 0 n/\O 7=.bool neg/\O 8=.ptr 2 G 0/\O 9=.int .i64 k/\O 10=.int .i64 p/\O 39=.int .i64 n/\O 40=.int .i64 k/\ze A n bb C G S k neg (StgP A n k p)) (fun O S=>n-bT (O 10)) ?_ ?_
  ·simp -dsimp only[go_sem,m,q,o,s,w,d,f];obtain⟨g,σ,B,x,l,D,V2,V5,hBq⟩:=F;exact⟨k,om,om,rfl,g,σ,B,x,l,D,V2,V5,hBq,fun i h1 h2=>om⟩
  clear F m q o s w d f;rintro O S ⟨p,hkp,hpn,m,q,o,s,w,y,I,d,f,g,σ,B,x,l,D,V2,V5,hQ,hZ⟩;have N:p<n:=by
   refine Nat.lt_of_le_of_ne hpn fun e=>hd (x.zero h fun i v=>?_);have:=hQ (k+i) k om om (af _) h;rw[bH,(om:k+i-k=i)]at this
   rw[<-this];exact hZ _ om om
  obtain⟨g1,X,v1⟩:=l.outer;obtain⟨g2,J,v2⟩:=l.row p N;have v1':g1 p=.sl 2 (g p) 0 n:=v1 p N;have L:g2 k=.big (B p k):=v2 k h;have hbp:=hB σ neg k x k (p-k) 0 om om;have H:=hQ p k hkp N (af _) h;rw[bH]at H;rw[<-H]at hbp;simp -dsimp only[go_sem,aa,q,o,y,I,N,h,X,J,v1',L];refine(jp hbp om).call ?_;by_cases h0:B p k=0
  ·simp -dsimp only[go_sem,aa,m,q,o,s,w,y,I,d,f,N,h,h0,Int.sign_zero,aM (om:p<1000000),bT]
   refine⟨⟨p+1,om,om,rfl,g,σ,B,x,l,D,V2,V5,hQ,fun i h1 h2=>?_⟩,om⟩
   by_cases e:i=p
   ·rw[e];exact h0
   ·exact hZ i h1 om
  have hs0:((B p k).sign==0)=false:=by
   simp only[beq_eq_false_iff_ne,ne_eq];rw[iZ];exact h0
  have P:((p:Int)==n)=false:=by simp;omega
  apply qT (fun O S=>∃(neg:Bool) (r:Nat),O 2=.ptr 2 C 0/\O 3=.int .i64 n/\O 4=.sl 1 bb 0 n/\O 7=.bool neg/\O 8=.ptr 2 G 0/\O 9=.int .i64 k/\O 11=.ptr 2 r 0/\O 12=.int .i64 ((k+1:Nat):Int)/\O 39=.int .i64 n/\O 40=.int .i64 k/\DJ A n bb C G r S k neg (k+1) (k+1))
  ·intro key;by_cases hkp':k<p
   ·have v3':g1 k=.sl 2 (g k) 0 n:=v1 k h;have hne:((p:Int) != (k:Int))=true:=by simp;omega
    simp -dsimp only[go_sem,aa,m,q,o,s,w,y,I,d,f,N,h,hs0,P,hne];refine eR 13 kr ?_
    have y1:aL (aL g1 k (.sl 2 (g p) 0 n)) p (.sl 2 (g k) 0 n) k=.sl 2 (g p) 0 n:=by simp[aL,(om:¬k=p)]
    have hgp:g p≠bb:=ai (l.outer_ne N);simp -dsimp only[go_sem,aa,o,s,y,I,N,h,X,v1',v3',y1,hgp,J,L];refine au.intro fun r f11=>?_;simp -dsimp only[go_sem,aa,o,s,y,L];refine key _ _ ?_;simp -dsimp only[go_sem,m,q,o,w,y,d,f,aM (om:k<1000000)]
    refine⟨!neg,rfl,r,rfl,?_⟩;rw[kE,kE];have f11':S r=ae:=by rw[kE]at f11;exact(ag f11).2
    have hs:∀i,i<n->cV k p i<n:=fun i v=>by unfold cV;split<;>(try split)<;>omega
    have hsw:∀i,cV p k i=cV k p i:=fun i=>by unfold cV;split<;>(try split)<;>(try split)<;>omega
    have F:=l.swap h N om X;simp only[hsw]at F;exact DJ.of x hkp' h N F D V2 V5 hb2 hb8 h28 f11' l hQ H h0
   have hpk:p=k:=om
   subst hpk;have hne:((p:Int) != (p:Int))=false:=by simp
   simp -dsimp only[go_sem,aa,m,q,o,s,w,y,I,d,f,N,hs0,P,hne,X,v1',J,L,aM (om:p<1000000)]
   refine au.intro fun r f11=>?_;simp -dsimp only[go_sem,aa,o,y,L];refine key _ _ ?_;simp -dsimp only[go_sem,m,q,o,s,w,y,d,f,aM (om:p<1000000)]
   refine⟨neg,rfl,r,rfl,?_⟩;rw[kE];exact DJ.of0 x h l D V2 V5 h28 f11 hQ h0
  clear m q o s w y I d f hZ hQ V2 V5 D l X v1 J v2 v1' L hbp H h0 hs0 P x;rintro O S ⟨neg,r,m,q,o,s,w,y,t,u,d,f,F⟩;refine aI (fun O S=>∃i:Nat,k+1<=i/\i<=n/\O 2=.ptr 2 C 0/\O 3=.int .i64 n/\O 4=.sl 1 bb 0 n/\O 7=.bool neg/\O 8=.ptr 2 G 0/\O 9=.int .i64 k/\O 11=.ptr 2 r 0/\O 12=.int .i64 i/\O 39=.int .i64 n/\O 40=.int .i64 k/\DJ A n bb C G r S k neg i (k+1)) (fun O S=>n-bT (O 12)) ?_ ?_
  ·exact⟨k+1,om,om,m,q,o,s,w,y,t,u,d,f,F⟩
  clear m q o s w y t u d f F;rintro O S ⟨i,hki,hin,m,q,o,s,w,y,t,u,d,f,F⟩;by_cases v:i<n
  ·simp -dsimp only[go_sem,aa,m,q,o,s,w,y,t,u,d,f,v,aM (om:k<1000000)]
   refine aI (fun O S=>∃j:Nat,k+1<=j/\j<=n/\O 2=.ptr 2 C 0/\O 3=.int .i64 n/\O 4=.sl 1 bb 0 n/\O 7=.bool neg/\O 8=.ptr 2 G 0/\O 9=.int .i64 k/\O 11=.ptr 2 r 0/\O 12=.int .i64 i/\O 13=.int .i64 j/\O 39=.int .i64 n/\O 40=.int .i64 k/\DJ A n bb C G r S k neg i j) (fun O S=>n-bT (O 13)) ?_ ?_
   ·simp -dsimp only[go_sem,m,q,o,s,w,y,t,u,d,f];exact⟨k+1,om,om,rfl,F⟩
   clear m q o s w y t u d f F;rintro O S ⟨j,hkj,hjn,m,q,o,s,w,y,t,u,e13,d,f,F⟩;by_cases W:j<n
   ·obtain⟨g,σ,B,x,l,D,V2,V5,V11,n1,n2,n3,Q,E⟩:=F;obtain⟨g1,X,v1⟩:=l.outer;obtain⟨g2,J,v2⟩:=l.row i v;obtain⟨g3,u3,v3⟩:=l.row k h;obtain⟨gp,up',vp⟩:=id V11;have w1:g1 i=.sl 2 (g i) 0 n:=v1 i v;have w2:g1 k=.sl 2 (g k) 0 n:=v1 k h;have w3:g2 j=.big (B i j):=v2 j W;have w4:g2 k=.big (B i k):=v2 k h;have w5:g3 j=.big (B k j):=v3 j W;have c1:=E i j om v om W;have c2:=E i k om v (af _) h;have c3:=E k j (af _) h om W;rw[if_neg om]at c1 c2 c3;rw[bH]at c2 c3;have m1:=hB σ neg k x k (i-k) (j-k) om om;have m2:=hB σ neg k x k (i-k) 0 om om;have m3:=hB σ neg k x k 0 (j-k) om om;have m4:=hB σ neg k x k 0 0 om om;rw[<-c1]at m1;rw[<-c2]at m2;rw[<-c3]at m3;have m5:nb (det k (fun a c=>A (σ a) c)) K:=by
     by_cases e:k=0
     ·rw[e];simp only[det];exact nb.one om
     ·have:=hB σ neg k x (k-1) 0 0 om om;rw[cA,(om:k-1+1=k)]at this
      exact this
    have hst:=ix x.lead (i-k-1) (j-k-1);rw[(om:i-k-1+1=i-k),(om:j-k-1+1=j-k),<-c1,<-c2,<-c3]at hst
    have hd0:=x.lead k (af _);generalize hpv:ca (fun a c=>A (σ a) c) k 0 0=pv at *;have hq:(pv*B i j-B i k*B k j)/det k (fun a c=>A (σ a) c)=ca (fun a c=>A (σ a) c) (k+1) (i-k-1) (j-k-1):=by
     rw[hst,cc _ hd0]
    simp -dsimp only[go_sem,aa,m,q,o,s,w,y,t,u,e13,d,f,W];refine aP 26 kr ?_
    simp -dsimp only[go_sem,aa,o,y,t,u,e13,v,W,h,X,w1,w2,J,u3,w3,w4,w5,up',vp];refine⟨_,(fV m4 m1 om).pure',_,(fV m2 m3 om).pure',_,(me (m4.mul m1) (m2.mul m3) om).pure',?_⟩;refine au.intro fun M R=>?_
    try simp -dsimp only[go_sem]
    have q1:bb≠M:=aR.fresh l.outer R;have q2:∀a,a<n->g a≠M:=fun a ha=>aR.fresh (l.row a ha) R;have q3:C≠M:=V2.fresh R;have q4:G≠M:=V5.fresh R;have q5:r≠M:=V11.fresh R;refine lM (fun T=>dd T bb g n n B/\cE T C 50 2 (.big 0)/\cE T G 50 2 (.big (det k (fun a c=>A (σ a) c)))/\cE T r 50 2 (.big pv)/\cE T M 50 2 (.big (pv*B i j-B i k*B k j))) ?_ ?_
    ·refine⟨(l.upd q1 q2 _).upd q1 q2 _,(V2.upd q3 _).upd q3 _,(V5.upd q4 _).upd q4 _,(V11.upd q5 _).upd q5 _,?_⟩;simp only[cE.at_hit,aL,if_true]
    clear l V2 V5 V11 X v1 J v2 u3 v3 up' vp w1 w2 w3 w4 w5;rintro T ⟨l,V2,V5,V11,V14⟩;obtain⟨g1,X,v1⟩:=l.outer;obtain⟨g2,J,v2⟩:=l.row i v;obtain⟨g8,u8,x8⟩:=id V5;obtain⟨g14,u14,x14⟩:=id V14;have w1:g1 i=.sl 2 (g i) 0 n:=v1 i v;refine ej 13 [[10,11]] kr ?_
    simp -dsimp only[go_sem,aa,m,q,o,s,w,y,t,u,e13,d,f,v,W,X,w1,J,u8,x8,u14,x14];refine⟨_,(lw (k:=K+K+1) ((m4.mul m1).sub (m2.mul m3)) (m5.mono om) om hd0).pure',?_⟩;rw[hq];simp -dsimp only[go_sem,aM (om:j<1000000),bT]
    refine⟨⟨j+1,om,om,rfl,g,σ,_,x,l.set v J,D,cE.upd V2 (ai (D i v).1) _,cE.upd V5 (ai (D i v).2.1) _,by rw[hpv];exact cE.upd V11 (ai (D i v).2.2) _,n1,n2,n3,by rw[hpv];exact Q,fun a c ha1 U hc1 V=>?_⟩,om⟩
    have h3:=E a c ha1 U hc1 V;simp only[dK];by_cases e1:a=i/\c=j
    ·obtain⟨rfl,rfl⟩:=e1;rw[if_pos ⟨rfl,rfl⟩,if_pos om,oI,oI]
    ·rw[if_neg e1,h3];by_cases m:k<a/\k<c/\(a<i∨a=i/\c<j)
     ·rw[if_pos m,if_pos om]
     ·rw[if_neg m,if_neg om]
   have hnj:n=j:=om
   obtain⟨g,σ,B,x,l,D,V2,V5,V11,n1,n2,n3,Q,E⟩:=F;simp -dsimp only[go_sem,aa,m,q,o,s,w,y,t,u,e13,d,f,W,aM (om:i<1000000),bT]
   refine⟨⟨i+1,om,om,rfl,g,σ,B,x,l,D,V2,V5,V11,n1,n2,n3,Q,fun a c ha1 U hc1 V=>?_⟩,om⟩
   rw[E a c ha1 U hc1 V];by_cases m:k<a/\k<c/\(a<i∨a=i/\c<j)
   ·rw[if_pos m,if_pos om]
   ·rw[if_neg m,if_neg om]
  have hni:n=i:=om
  obtain⟨g,σ,B,x,l,D,V2,V5,V11,n1,n2,n3,Q,E⟩:=F;obtain⟨g8,u8,x8⟩:=id V5;obtain⟨gp,up',vp⟩:=id V11;simp -dsimp only[go_sem,aa,m,q,o,s,w,y,t,u,d,f,v,u8,up',vp,aM (om:k<1000000),bT]
  refine⟨⟨k+1,om,neg,rfl,rfl,g,σ,B,x.step Q,l.upd hb8 (fun a ha=>(D a ha).2.1) _,fun a ha=>⟨(D a ha).1,(D a ha).2.1⟩,V2.upd (ai n1) _,by rw[<-cA];exact cE.set,fun a c ha1 U hc1 V=>?_⟩,om⟩
  rw[E a c om U om V,if_pos om]
 have hnk:n=k:=om
 subst hnk;obtain⟨g,σ,B,x,l,D,V2,V5,hQ⟩:=F;obtain⟨g2,J,x2⟩:=id V2;obtain⟨g8,u8,x8⟩:=id V5;have m5:nb (det n (fun a c=>A (σ a) c)) K:=by
  have:=hB σ neg n x (n-1) 0 0 om om;rw[cA,(om:n-1+1=n)]at this
  exact this
 have hdet:=x.sign
 cases neg with
 | true =>
  simp -dsimp only[go_sem,aa,s,w,d,f,co,u8,x8];refine(rG m5 om).call ?_;simp -dsimp only[go_sem,aa,m,J,x8];have e:-det n (fun a c=>A (σ a) c)=det n A:=by rw[hdet];simp
  simp only[aL,if_true];rw[e];exact VR.mf rfl
 | false =>
  simp -dsimp only[go_sem,aa,s,w,d,f,co,u8,x8];refine(qK m5 om).call ?_;simp -dsimp only[go_sem,aa,m,J,x8];have e:det n (fun a c=>A (σ a) c)=det n A:=by rw[hdet];simp
  simp only[aL,if_true];rw[e];exact VR.mf rfl
theorem tB(n K:Nat)(A:aB)(c:1<=n)(d:n<=16)(e:1<=K)(f:K<=1000000)(g:det n A≠0)(h:∀σ neg k,l9 A n σ neg k->∀k' i j,k'+i<n->k'+j<n->nb (ca (fun a b=>A (σ a) b) k' i j) K):PF 79 [aV n n A] (.tup [.big (det n A),.bool true]):=by
 refine PF.of_spec (ak func79 rfl 23 ntmps79 kr sm (by simp[results79]) ?_)
 rw[aF,results79];simp -dsimp only[go_sem,aV,bA];refine au.intro fun m o=>?_
 try simp -dsimp only[go_sem]
 refine(ks n n A c d c d).call ?_;simp -dsimp only[go_sem,aa,show((n:Int) != n)=false by simp]
 refine(xL n K A c d e f g h).call ?_;simp -dsimp only[go_sem,aa,aL];exact VR.tup (l:=[.big (det n A),.bool true]) (by simp[qN])

def iA(k0:Nat):Nat->Nat
 | 0=>k0
 | k+1=>iA k0 k+iA k0 k+60
theorem ou(a:Nat):∀k,a<=iA a k
 | 0=>af _
 | k+1=>by have:=ou a k;simp only[iA];omega
theorem vW(b:Nat)(c:b<=100):∀k,k<=8->iA b k<=50000:=by
 intro k a
 match k,a with
 | 0,_=>simp only[iA];omega
 | 1,_=>simp only[iA];omega
 | 2,_=>simp only[iA];omega
 | 3,_=>simp only[iA];omega
 | 4,_=>simp only[iA];omega
 | 5,_=>simp only[iA];omega
 | 6,_=>simp only[iA];omega
 | 7,_=>simp only[iA];omega
 | 8,_=>simp only[iA];omega
theorem Fm(h:n<=8)(c:∀i j,i<n->j<n->nb (A i j) k)(d:∀i j,i<n->j<n->nb (B i j) k){i j:Nat}(e:i<n)(g:j<n):nb (mm n A B i j) (k+k+8):=by
 have:=qL (f:=fun a=>A i a*B a j) (k:=k+k) n (fun a b=>(c i a e b).mul (d a j b g));exact this.mono om
theorem Ha(c:n<=8)(b:∀i j,i<n->j<n->nb (A i j) k):∀t,t<=n->nb (aq t (fun a=>A a a)) (k+8):=fun t d =>
 (qL (f:=fun a=>A a a) (k:=k) t (fun a e=>b a a om om)).mono om
theorem Bd{a b:Int}(c:nb a k):nb (a/b) (k+1):=by
 have h:(a/b).natAbs<=a.natAbs:=Int.natAbs_ediv_le_natAbs a b;exact(nb.of_le h c).mono om
theorem xC{n k0:Nat}{M:aB}(c:n<=8)(d:1<=k0)(e:∀i j,i<n->j<n->nb (M i j) k0):∀k i j,i<n->j<n->nb (pT n M k i j) (iA k0 k)
 | 0,i,j,_,_=>by
  simp only[pT,iA];split
  ·exact nb.one d
  ·exact nb.zero _
 | k+1,i,j,a,b=>by
  have ih:=xC c d e k;have g:=ou k0 k;have f:∀i j,i<n->j<n->nb (mm n M (pT n M k) i j) (iA k0 k+iA k0 k+8):=fun i j a b=>Fm c (fun i j a b=>(e i j a b).mono g) ih a b;simp only[pT,iA];have h:nb (if i=j then tr n (mm n M (pT n M k))/(-((k+1:Nat):Int))else 0) (iA k0 k+iA k0 k+17):=by
   split
   ·exact Bd (Ha c f n (af _))
   ·exact nb.zero _
  exact(((f i j a b).mono om).add h).mono om
theorem qj(n s:Nat)(M:aB)(B:1<=n)(C:n<=8)(D:1<=s)(hk:s<=100)(Q:∀i j,i<n->j<n->nb (M i j) s):MF 129 [aV n n M] n n (jF n M):=by
 refine MF.of ?_;refine ak func129 rfl 78 ntmps129 kr sm (by simp[results129]) ?_
 rw[aF,results129];simp -dsimp only[go_sem,aa,aV,bA];refine(fQ dc dc).call ?_
 simp -dsimp only[go_sem,aa];refine(zA n 1 1 om (nb.one om) om _ _ (cD _ _)).mono ?_;rintro _ S1 ⟨b,g,rfl,f,_⟩;simp -dsimp only[go_sem];refine aI (fun O S=>∃k:Nat,1<=k/\k<=n/\O 0=aV n n M/\O 3=.int .i64 n/\O 5=.int .i64 k/\∃b,O 4=.sl 1 b 0 n/\∃g,dd S b g n n (pT n M (k-1))) (fun O S=>n-bT (O 5)) ?_ ?_
 ·simp -dsimp only[go_sem,aV,bA];exact⟨1,om,B,rfl,b,rfl,g,f⟩
 clear f;rintro O S ⟨k,hk2,hkn,m,l,o,b,p,g,f⟩;by_cases R:k<n
 ·have T:=vW s hk (k-1) om;have U:=ou s (k-1);have I:=xC C D Q (k-1);have E:∀i j,i<n->j<n->nb (M i j) (iA s (k-1)):=fun i j F V=>(Q i j F V).mono U;have J:∀i j,i<n->j<n->nb (mm n M (pT n M (k-1)) i j) (iA s (k-1)+iA s (k-1)+8):=fun i j F V=>Fm C E I F V;simp -dsimp only[go_sem,aa,m,l,p,o,R,aV,bA];refine(oK n n n (iA s (k-1)) M (pT n M (k-1)) B om B om B om E I om _ _ (dT.two (VA.refl _ _) f.vr.va)).mono ?_;rintro _ S2 ⟨bc,g',rfl,r,_⟩;generalize W:mm n M (pT n M (k-1))=X at *;simp -dsimp only[go_sem,m,p];refine au.intro fun K Y=>?_
  try simp -dsimp only[go_sem,l]
  have Z:bc≠K:=aR.fresh r.outer Y;have q2:∀a,a<n->g' a≠K:=fun a w=>aR.fresh (r.row a w) Y;refine aI (fun O S=>∃i:Nat,i<=n/\O 0=aV n n M/\O 3=.int .i64 n/\O 4=.sl 1 bc 0 n/\O 5=.int .i64 k/\O 6=.ptr 2 K 0/\O 29=.int .i64 n/\O 30=.int .i64 i/\dd S bc g' n n X/\cE S K 50 2 (.big (aq i fun a=>X a a))) (fun O S=>n-bT (O 30)) ?_ ?_
  ·simp -dsimp only[go_sem,m,l,o];exact⟨0,om,rfl,(r.upd Z q2 _).upd Z q2 _,cE.set⟩
  clear r m l p o Y f;rintro O S ⟨i,F,m,l,p,o,e6,u,v,f,V6⟩;obtain⟨g6,u6,x6⟩:=id V6;by_cases d:i<n
  ·obtain⟨g1,u1,v1⟩:=f.outer;obtain⟨g2,L,v2⟩:=f.row i d;have x1:g1 i=.sl 2 (g' i) 0 n:=v1 i d;have x2:g2 i=.big (X i i):=v2 i d;simp -dsimp only[go_sem,u,v,d];refine aP 9 kr ?_
   simp -dsimp only[go_sem,aa,m,l,p,o,e6,u,v,d,u1,x1,L,x2,u6,x6,aM (om:i<1000000),bT]
   exact⟨_,(lC (Ha C J i om) ((J i i d d).mono om) om).pure',trivial,⟨i+1,om,rfl,f.upd Z q2 _,cE.set⟩,om⟩
  have x:n=i:=om
  simp -dsimp only[go_sem,u,v,d];have wk:IntKind.i64.wrap (0-(k:Int))=-(k:Int):=by rw[Int.zero_sub];exact i64_in om om
  refine iw 11 [[7,8],[8],[]] kr ?_
  simp -dsimp only[go_sem,aa,o,e6,u6,x6,wk];have nt:=Ha C J n (af _);subst x;refine⟨_,(fQ om om).pure',_,(o0 nt (b:=-(k:Int)) (by unfold nb;omega) om om).pure',?_⟩
  simp -dsimp only[go_sem];refine au.intro fun N f8=>?_
  try simp -dsimp only[go_sem]
  refine au.intro fun b9 P=>?_;have n9_8:=(ag P).1;simp -dsimp only[go_sem,l,nn n9_8];have r1:bc≠N:=aR.fresh f.outer f8;have r2:∀a,a<n->g' a≠N:=fun a w=>aR.fresh (f.row a w) f8;have r3:bc≠b9:=aR.fresh f.outer (ag P).2;have r4:∀a,a<n->g' a≠b9:=fun a w=>aR.fresh (f.row a w) (ag P).2;generalize hq:(aq n fun a=>X a a) / -(k:Int)=q at *;have nq:nb q (iA s (k-1)+iA s (k-1)+17):=by rw[<-hq];exact Bd nt
  refine aI (fun O S=>∃i:Nat,i<=n/\O 0=aV n n M/\O 3=.int .i64 n/\O 4=.sl 1 bc 0 n/\O 5=.int .i64 k/\O 8=.ptr 2 N 0/\O 52=.int .i64 n/\O 53=.int .i64 i/\dd S bc g' n n (fun a c=>X a c+if a=c/\a<i then q else 0)/\cE S N 50 2 (.big q)) (fun O S=>n-bT (O 53)) ?_ ?_
  ·simp -dsimp only[go_sem,m,l,p,o];refine⟨0,om,rfl,rfl,dd.congr (A:=X) ?_ (fun a c _ _=>by simp),?_⟩
   ·repeat' first|exact f|refine dd.upd ?_ (by assumption) (by assumption) _
   ·simp only[cE.at_hit,cE.at_miss,ne_eq,not_false_eq_true,aL,if_true,ai n9_8]
  clear f m l p o e6 u v f8 P d V6 u6 x6;rintro O S ⟨i,F,m,l,p,o,e8,y,z,f,V8⟩;obtain⟨g8,u8,x8⟩:=id V8;by_cases d:i<n
  ·obtain⟨g1,u1,v1⟩:=f.outer;obtain⟨g2,L,v2⟩:=f.row i d;have x1:g1 i=.sl 2 (g' i) 0 n:=v1 i d;have x2:g2 i=.big (X i i):=(v2 i d).trans sm
   simp -dsimp only[go_sem,m,l,p,o,y,z,d];refine aP 15 kr ?_
   simp -dsimp only[go_sem,aa,m,l,p,o,e8,y,z,d,u1,x1,L,x2,u8,x8,aM (om:i<1000000),bT]
   refine⟨_,(lC ((J i i d d).mono om) nq om).pure',trivial,⟨i+1,om,rfl,(f.set d L).congr fun a c _ _=>?_,V8.upd (ai (r2 i d)) _⟩,om⟩
   simp only[dK];by_cases e:a=i/\c=i
   ·obtain⟨rfl,rfl⟩:=e;simp
   ·rw[if_neg e];by_cases e2:a=c/\a<i
    ·rw[if_pos e2,if_pos ⟨e2.1,om⟩]
    ·rw[if_neg e2,if_neg om]
  have x:n=i:=om
  subst x;simp -dsimp only[go_sem,m,l,p,o,y,z,co,aM (om:k<1000000),bT]
  refine⟨⟨k+1,om,om,rfl,rfl,bc,rfl,g',f.congr fun a c w _=>?_⟩,om⟩
  rw[(om:k+1-1=(k-1)+1)]
  simp only[pT,W];congr 1;by_cases e:a=c
  ·rw[if_pos ⟨e,w⟩,if_pos e,<-hq,show((k-1+1:Nat):Int)=(k:Int) by omega];rfl
  ·rw[if_neg (fun h=>e h.1),if_neg e]
 have G:n=k:=om
 subst G;have I:=xC C D Q (n-1);have T:=vW s hk (n-1) om;by_cases H:n%2=0
 ·have t:(eF (n:Int) 2==0)=true:=by rw[aN om,beq_iff_eq];omega
  simp -dsimp only[go_sem,aa,m,l,p,o,co,t,show ¬((2:Int)=0) by decide]
  refine(xf n n _ (pT n M (n-1)) B om om I om _ _ (dT.one f.vr.va)).mono ?_;rintro _ S2 ⟨c,g',rfl,r,_⟩;simp -dsimp only[go_sem];exact⟨c,rfl,g',r.congr fun a c _ _=>by simp[jF,H]⟩
 ·have t:(eF (n:Int) 2==0)=false:=by rw[aN om,beq_eq_false_iff_ne];omega
  simp -dsimp only[go_sem,aa,m,l,p,o,co,t,show ¬((2:Int)=0) by decide]
  exact⟨b,rfl,g,f.congr fun a c _ _=>by simp[jF,H]⟩
theorem BR(n a:Nat)(M:aB)(c:1<=n)(e:n<=8)(d:1<=a)(f:a<=100)(h:∀i j,i<n->j<n->nb (M i j) a):Aa 78 [aV n n M] n n (jF n M):=by
 refine Aa.of ?_;refine ak func78 rfl 22 ntmps78 kr sm (by simp[results78]) ?_
 rw[aF,results78];simp -dsimp only[go_sem,aa,aV,bA];refine(ks n n M c om c om).call ?_;simp -dsimp only[go_sem,aa,show((n:Int) != n)=false by simp]
 refine(qj n a M c e d f h _ _ (cD _ _)).mono ?_;rintro _ S1 ⟨b,g,rfl,k,_⟩;simp -dsimp only[go_sem];exact⟨b,rfl,g,k⟩

def wM(A:aB)(n R:Nat):aB:=fun a b=>A (rZ n R a) b
structure mj(n:Nat)(A:aB):Prop where
 h1:1<=n
 hn:n<=5
 hB:∀σ k,ln A (n+1) σ k->∀k' i j,k'+j<n+1->k'+i<n+n+1->nb (ca (fun x y=>A x (σ y)) k' i j) 31
 hdet:det (n+1) (wM A n (n+n))≠0
 hrow:∀R,n<=R->R<=n+n->det (n+1) (wM A n R)≠0->∀σ neg k,l9 (wM A n R) (n+1) σ neg k->∀k' i j,k'+i<n+1->k'+j<n+1->nb (ca (fun a b=>wM A n R (σ a) b) k' i j) 31
 hent:∀r j,r<n+n+1->j<n+1->nb (A r j) 31
structure GG(n:Nat)(A:aB)(R:Nat)(H U:aB):Prop where
 r1:n<=R
 r2:R<=n+n
 dt:det (n+1) (wM A n R)≠0
 tl:∃d M,TL (n+1) (gO (n+1) (n+1) (wM A n R)) d M/\M 0=((det (n+1) (wM A n R)).natAbs:Int)/\HI (n+1) (gO (n+1) (n+1) (wM A n R)) d M (n+1) (fun j r=>H r j)
 mu:∀i j,i<n+1->j<n+1->mm (n+1) (wM A n R) U i j=H i j
theorem mj.dlt(h:mj n A){R:Nat}(a:n<=R)(b:R<=n+n)(c:det (n+1) (wM A n R)≠0):(det (n+1) (wM A n R)).natAbs<2147483648:=by
 have:=h.hrow R a b c id false 0 (l9.init _ _) n 0 0 om om;rw[cA]at this;exact this
structure TF(S0 S:St)(b b1 b3 bu:Nat)(g gu:Nat->Nat)(n top:Nat)(A X:aB)(D:Int):Prop where
 cols:dd S b g (n+1) (n+n+1) (fun j r=>A r j)
 pair:aR S b1 218 1 2 (Hz b (n+1) top)
 var:cE S b3 50 2 (.big D)
 mat:dd S bu gu (n+1) (n+1) X
 ext:cY S0 S
 new:∀a,a<n+1->S0 (gu a)=ae
theorem TF.congr{Y:aB}(h:TF S0 S b b1 b3 bu g gu n top A X D)(d:∀a c,a<n+1->c<n+1->X a c=Y a c):TF S0 S b b1 b3 bu g gu n top A Y D:=⟨h.cols,h.pair,h.var,h.mat.congr d,h.ext,h.new⟩
theorem TF.other(h:TF S0 S b b1 b3 bu g gu n top A X D){e:Nat}(c:S e=ae)(Z:dH):TF S0 (S.upd e Z) b b1 b3 bu g gu n top A X D :=
 ⟨h.cols.upd (aR.fresh h.cols.outer c) (fun a d=>aR.fresh (h.cols.row a d) c) _,h.pair.upd (aR.fresh h.pair c) _,h.var.upd (h.var.fresh c) _,h.mat.upd (aR.fresh h.mat.outer c) (fun a d=>aR.fresh (h.mat.row a d) c) _,h.ext.upd (h.ext.none c) _,h.new⟩
theorem TF.set(h:TF S0 S b b1 b3 bu g gu n top A X D){i j:Nat}{z:Int}{g':Nat->AV}(c:i<n+1)(d:S (gu i)=some ⟨50,2,n+1,g'⟩)(m:1<=n):TF S0 (S.upd (gu i) ⟨50,2,n+1,aL g' j (.big z)⟩) b b1 b3 bu g gu n top A (dK X i j z) D:=by
 have f:=h.mat.row i c;refine⟨h.cols.upd (aR.ne h.cols.outer f dc) (fun a l e=>?_) _,h.pair.upd (aR.ne h.pair f dc) _,h.var.upd (fun e=>?_) _,h.mat.set c d,h.ext.upd (h.new i c) _,h.new⟩
 ·obtain⟨y,k,_⟩:=h.cols.row a l;rw[e,d]at k;have k':=congrArg (Option.map dH.n) k;simp only[Option.map_some,Option.some.injEq]at k';omega
 ·obtain⟨y,k,_⟩:=h.var;rw[e,d]at k;cases k;omega
theorem wE(S0:St)(b n top:Nat)(g:Nat->Nat)(A:aB)(F:mj n A)(hO:dd S0 b g (n+1) (n+n+1) (fun j r=>A r j)) :
  cL 233 [.agg [.sl 1 b 0 (n+1),.int .i64 top]] S0 (fun _ S'=>(∃R H U,GG n A R H U/\∃g',dd S' b g' (n+1) (n+n+1) (kC (n+1) (fun k r=>A r k) U))/\ib b S0 S'):=by
 refine gL func233 rfl 65 ntmps233 kr sm ?_
 rw[aF,results233];have h1:=F.h1;have hn:=F.hn;simp -dsimp only[go_sem,aO,aG,false_implies,implies_true];refine au.intro fun P f1=>?_;refine lM (fun T=>aR T P 218 1 2 (Hz b (n+1) top)/\cY S0 T) ?_ ?_
 ·refine⟨aR.here fun j f=>?_,(cY.refl S0).upd f1 _⟩
  match j,f with
  | 0,_=>rfl
  | 1,_=>rfl
 rintro T ⟨G,Y⟩;have Z:=hO.ext Y;obtain⟨g1,u1,Q⟩:=id G;have x0:g1 0=.sl 1 b 0 (n+1):=Q 0 om;have x1:g1 1=.int .i64 top:=Q 1 om;refine ej 3 [[0,1],[],[]] kr ?_
 simp -dsimp only[go_sem,aa,u1,x0,x1,dD];refine(tS T b g n (n+1) (n+n+1) top A hn h1 rfl rfl Z.cols F.hB F.hdet).mono ?_;rintro _ S1 ⟨e,R,rfl,r1,r2,C,hL,v⟩;obtain⟨g2,u2,v2⟩:=id (v.has G);have y0:g2 0=.sl 1 b 0 (n+1):=v2 0 om;simp -dsimp only[go_sem,aa,u2,y0];have hO1:=Z.ext v;refine(vN (n+1) (n+n+1) (n+1) 31 (fun j r=>A r j) (rZ n R) om om (fun i q=>by unfold rZ;split<;>omega) (fun c r hc hr=>F.hent r c hr hc) om _ _ (dT.two hO1.vr.va (VR.sl hL om (fun a s=>by rw[aJ];exact VR.mf rfl)).va)).mono ?_
 rintro _ S2 ⟨bw,gw,rfl,x,hE2,_,_⟩
 replace C:det (n+1) (wM A n R)≠0:=C
 replace x:dd S2 bw gw (n+1) (n+1) (wM A n R):=x
 have V:=F.hrow R r1 r2 C;have hdl:=F.dlt r1 r2 C;have I:∀i j,i<n+1->j<n+1->nb (wM A n R i j) 31:=fun i j q f=>F.hent _ _ (by unfold rZ;split<;>omega) f
 have y:cY S0 S2:=(Y.trans v).trans hE2;have hp2:=(v.trans hE2).has G;simp -dsimp only[go_sem,aa];refine(tB (n+1) 31 (wM A n R) om om om om C V).spec (dT.one x.vr.va) ?_;simp -dsimp only[go_sem];refine au.intro fun E f3=>?_
 try simp -dsimp only[go_sem]
 have s3:=y.none f3;have hNR:n+1≠1:=om
 refine C7 (fun T=>dd T bw gw (n+1) (n+1) (wM A n R)/\cE T E 50 2 (.big (det (n+1) (wM A n R)))/\cY S0 T/\aR T P 218 1 2 (Hz b (n+1) top)) ?_ ?_
 ·have q1:bw≠E:=aR.fresh x.outer f3;have q2:∀a,a<n+1->gw a≠E:=fun a s=>aR.fresh (x.row a s) f3;have q3:P≠E:=aR.fresh hp2 f3;exact⟨(x.upd q1 q2 _).upd q1 q2 _,cE.set,(y.upd s3 _).upd s3 _,(hp2.upd q3 _).upd q3 _⟩
 clear x y hp2 v hE2 hL hO1 u2 v2 y0 u1 Q x0 x1 Z G Y f3;rintro T3 ⟨x,V3,t,hp3⟩;refine(BR (n+1) 31 (wM A n R) om om om om I _ _ (dT.one x.vr.va)).mono ?_;rintro _ S4 ⟨ba,ga,rfl,hA4,z,_⟩;obtain⟨g3,u3,x3⟩:=id (V3.ext z);simp -dsimp only[go_sem,aa,u3,x3];have hw4:=x.ext z;refine(wD (n+1) (wM A n R) om om (fun i j q f=>(I i j q f).mono om) C hdl _ _ (dT.two hw4.vr.va (VA.refl _ _))).mono ?_;rintro _ S5 ⟨bh,gh,H,rfl,⟨d,M,hTL,hM0,J⟩,hH5,K,_⟩;have hHr:∀i j,i<n+1->j<n+1->nb (H i j) 31:=fun i j q f=>by
  have:=J.rng hTL (af _) (fun c r _ h1 h2=>om) f q
  unfold nb;omega
 have hAb:∀i j,i<n+1->j<n+1->nb (jF (n+1) (wM A n R) i j) (iA 31 n):=fun i j q f=>by
  have:=xC om om I n i j q f;unfold jF;split
  ·exact this.neg
  ·exact this
 have hbm:=ou 31 n;have hbl:=vW 31 om n om;obtain⟨U,hU1,hU2⟩:=Ge (N:=n+1) (w:=wM A n R) (H:=H) om (fun j f=>J.mem j f);simp -dsimp only[go_sem,aa];refine(oK (n+1) (n+1) (n+1) (iA 31 n) (jF (n+1) (wM A n R)) H om om om om om om hAb (fun i j q f=>(hHr i j q f).mono hbm) om _ _ (dT.two (hA4.ext K).vr.va hH5.vr.va)).mono ?_;rintro _ S6 ⟨bu,gu,rfl,hU6,hE6,nu,nug⟩;have h:=(z.trans K).trans hE6;have hXb:∀i j,i<n+1->j<n+1->nb (mm (n+1) (jF (n+1) (wM A n R)) H i j) (iA 31 n+iA 31 n+8):=fun i j q f=>Fm om hAb (fun i j q f=>(hHr i j q f).mono hbm) q f;have hTF:TF S0 S6 b P E bu g gu n top A (fun a c=>det (n+1) (wM A n R)*U a c) (det (n+1) (wM A n R)):=⟨hO.ext (t.trans h),h.has hp3,V3.ext h,hU6.congr hU2,t.trans h,fun a s=>((t.trans z).trans K).none (nug a s)⟩;have hDb:∀a c,a<n+1->c<n+1->nb (det (n+1) (wM A n R)*U a c) (iA 31 n+iA 31 n+8):=fun a c s hc=>by rw[<-hU2 a c s hc];exact hXb a c s hc
 have hTr:GG n A R H U:=⟨r1,r2,C,⟨d,M,hTL,hM0,J⟩,hU1⟩;have hUb:∀a c,a<n+1->c<n+1->nb (U a c) (iA 31 n+iA 31 n+9):=fun a c s hc=>by
  have:=Bd (b:=det (n+1) (wM A n R)) (hDb a c s hc)
  rwa [cc _ C]at this
 generalize hDe:det (n+1) (wM A n R)=D at *;clear J hTL hM0 hH5 hU6 hA4 hw4 x V3 u3 x3 h hE6 K z t hp3 nu nug hU1 hU2 hXb hAb hHr V I;simp -dsimp only[go_sem];refine aI (fun O S=>∃i:Nat,i<=n+1/\O 1=.ptr 1 P 0/\O 3=.ptr 2 E 0/\O 7=.sl 1 bu 0 (n+1)/\O 36=.sl 1 bu 0 (n+1)/\O 37=.int .i64 ((n+1:Nat):Int)/\O 38=.int .i64 i/\TF S0 S b P E bu g gu n top A (fun a c=>if a<i then U a c else D*U a c) D) (fun O S=>n+1-bT (O 38)) ?_ ?_
 ·simp -dsimp only[go_sem];exact⟨0,om,rfl,hTF.congr fun a c _ _=>by simp⟩
 clear hTF;rintro O S ⟨i,q,W,e3,X,l,m,o,u⟩;by_cases p:i<n+1
 ·obtain⟨g1,u1,Q⟩:=u.mat.outer;have x1:g1 i=.sl 2 (gu i) 0 (n+1):=Q i p;simp -dsimp only[go_sem,aa,W,X,l,m,o,p,u1,x1];refine aI (fun O S=>∃j:Nat,j<=n+1/\O 1=.ptr 1 P 0/\O 3=.ptr 2 E 0/\O 7=.sl 1 bu 0 (n+1)/\O 10=.sl 2 (gu i) 0 (n+1)/\O 36=.sl 1 bu 0 (n+1)/\O 37=.int .i64 ((n+1:Nat):Int)/\O 38=.int .i64 i/\O 42=.sl 2 (gu i) 0 (n+1)/\O 43=.int .i64 ((n+1:Nat):Int)/\O 44=.int .i64 j/\TF S0 S b P E bu g gu n top A (fun a c=>if a<i∨(a=i/\c<j)then U a c else D*U a c) D) (fun O S=>n+1-bT (O 44)) ?_ ?_
  ·simp -dsimp only[go_sem,W,e3,X,l,m,o];exact⟨0,om,rfl,u.congr fun a c _ _=>by simp⟩
  clear u W e3 X l m o u1 Q x1;rintro O S ⟨j,f,W,e3,X,e10,l,m,o,e42,e43,L,u⟩;by_cases B:j<n+1
  ·obtain⟨g2,u2,v2⟩:=u.mat.row i p;have x2:g2 j=.big (D*U i j):=(v2 j B).trans sm
   obtain⟨g3,u3,x3⟩:=id u.var;simp -dsimp only[go_sem,aa,W,e3,X,l,m,o,e42,e43,L,B,u2];refine au.intro fun b12 f12=>?_;have q1:E≠b12:=u.var.fresh f12;have q2:gu i≠b12:=aR.fresh (u.mat.row i p) f12;simp -dsimp only[go_sem,aa,e3,e10,L,x2,u3,x3,q1,dr];refine(o0 (hDb i j p B) (by unfold nb;omega) om C).call ?_
   rw[cc _ C];simp -dsimp only[go_sem,aa,W,e3,X,e10,l,m,o,e42,e43,L,B,u2,x3,q2,aM (om:j<1000000),bT]
   refine⟨⟨j+1,om,rfl,?_⟩,om⟩
   rw[kE];refine((u.other f12 _).set p (by rw[aH q2];exact u2) om).congr fun a c _ _=>?_
   simp only[dK];by_cases e:a=i/\c=j
   ·obtain⟨rfl,rfl⟩:=e;simp
   ·rw[if_neg e];by_cases e2:a<i∨(a=i/\c<j)
    ·rw[if_pos e2,if_pos om]
    ·rw[if_neg e2,if_neg om]
  have hnj:n+1=j:=om
  simp -dsimp only[go_sem,aa,W,e3,X,l,m,o,e42,e43,L,B,aM (om:i<1000000),bT]
  refine⟨⟨i+1,om,rfl,u.congr fun a c _ hc=>?_⟩,om⟩
  by_cases e2:a<i∨(a=i/\c<j)
  ·rw[if_pos e2,if_pos om]
  ·rw[if_neg e2,if_neg om]
 obtain⟨g1,u1,Q⟩:=id u.pair;have x1:g1 0=.sl 1 b 0 (n+1):=Q 0 om;simp -dsimp only[go_sem,aa,W,X,l,m,o,p,u1,x1];refine(Dq S b bu g gu (n+1) (n+n+1) (iA 31 n+iA 31 n+40) (fun j r=>A r j) _ om om om (fun a r s hr=>(F.hent r a hr s).mono om) (fun a r s hr=>?_) om u.cols u.mat).mono ?_
 ·rw[if_pos om];exact(hUb a r s hr).mono om
 rintro _ S7 ⟨⟨g',hO7⟩,hK7⟩;simp -dsimp only[go_sem];refine⟨⟨R,H,U,hTr,g',hO7.congr fun a r s hr=>?_⟩,(ib.ext u.ext).trans hK7⟩;unfold kC;exact aA fun k hk=>by dsimp only;rw[if_pos om]

theorem kA(n m:Nat)(A:aB)(a:1<=n)(b:n<=16)(c:1<=m)(d:m<=16):PF 210 [aV n m A] (.tup [.int .i64 n,.int .i64 m,.bool true]):=by
 refine PF.of_spec (ak func210 rfl 10 ntmps210 kr sm (by simp[results210]) ?_)
 rw[aF,results210];simp -dsimp only[go_sem,aa,aV,bA];refine(ks n m A a b c d).call ?_;simp -dsimp only[go_sem];exact VR.tup (by simp[qN])
structure FS(S:St)(b b8:Nat)(g:Nat->Nat)(n i:Nat)(C:aB)(x y:AV):Prop where
 cols:dd S b g (n+1) (n+n+1) C
 pair:aR S b8 218 1 2 (Hz b (n+1) n)
 hx:cC 3 1 St.none S x (min i n) (fun a=>.int .i64 ((a:Nat):Int))
 hy:cC 3 1 St.none S y (i-n) (fun a=>.int .i64 ((n+a:Nat):Int))
 xy:∀d,dl x d->¬dl y d
theorem FS.other(h:FS S b b8 g n i C x y){e:Nat}(c:S e=ae)(Z:dH):FS (S.upd e Z) b b8 g n i C x y :=
 ⟨h.cols.upd (aR.fresh h.cols.outer c) (fun a d=>aR.fresh (h.cols.row a d) c) _,h.pair.upd (aR.fresh h.pair c) _,h.hx.upd rfl (h.hx.fresh c) _,h.hy.upd rfl (h.hy.fresh c) _,h.xy⟩
theorem FS.appx(h:FS S b b8 g n i C x y)(v:i<n){c:Nat}(l:cC 3 1 St.none S' (.sl 1 c 0 (min i n+1)) (min i n+1) (fun a=>if a=min i n then .int .i64 (i:Int)else .int .i64 ((a:Nat):Int)))(m:∀d X,S d=some X->¬dl x d->S' d=some X)(p:dl x c∨S c=ae) :
  FS S' b b8 g n (i+1) C (.sl 1 c 0 (min i n+1)) y:=by
 have kp:∀{b ty es n:Nat} {g:Nat->AV},aR S b ty es n g->ty≠3->aR S' b ty es n g:=fun q r=>by
  obtain⟨z,o,s⟩:=q;exact⟨z,m _ _ o (h.hx.other o r),s⟩
 have t:min i n=i:=om
 refine⟨⟨kp h.cols.outer dc,fun a u=>kp (h.cols.row a u) dc,h.cols.inj⟩,kp h.pair dc,?_,?_,fun d j f=>?_⟩
 ·rw[t]at l ⊢;rw[(om:min (i+1) n=i+1)]
  exact l.congr fun a _=>by
   by_cases e:a=i
   ·rw[if_pos e,e]
   ·rw[if_neg e]
 ·have:=h.hy.keep (cY.noneS _) m (fun d j f=>h.xy d f j);rw[(om:i+1-n=i-n)]
  exact this
 ·rw[dk]at j;subst j;rcases p with e|e
  ·exact h.xy _ e f
  ·obtain⟨X,k⟩:=h.hy.blk f;rw[k]at e;cases e
theorem FS.appy(h:FS S b b8 g n i C x y)(u:n<=i){c:Nat}(o:cC 3 1 St.none S' (.sl 1 c 0 (i-n+1)) (i-n+1) (fun a=>if a=i-n then .int .i64 (i:Int)else .int .i64 ((n+a:Nat):Int)))(l:∀d X,S d=some X->¬dl y d->S' d=some X)(p:dl y c∨S c=ae) :
  FS S' b b8 g n (i+1) C x (.sl 1 c 0 (i-n+1)):=by
 have kp:∀{b ty es n:Nat} {g:Nat->AV},aR S b ty es n g->ty≠3->aR S' b ty es n g:=fun q r=>by
  obtain⟨z,m,s⟩:=q;exact⟨z,l _ _ m (h.hy.other m r),s⟩
 refine⟨⟨kp h.cols.outer dc,fun a t=>kp (h.cols.row a t) dc,h.cols.inj⟩,kp h.pair dc,?_,?_,fun d j f=>?_⟩
 ·have:=h.hx.keep (cY.noneS _) l (fun d j f=>h.xy d j f);rw[(om:min (i+1) n=min i n)]
  exact this
 ·rw[(om:i+1-n=i-n+1)]
  exact o.congr fun a _=>by
   by_cases e:a=i-n
   ·rw[if_pos e,e];congr 1;omega
   ·rw[if_neg e]
 ·rw[dk]at f;subst f;rcases p with e|e
  ·exact h.xy _ j e
  ·obtain⟨X,k⟩:=h.hx.blk j;rw[k]at e;cases e
theorem BM(n k:Nat)(M:aB)(W:mj n (eg n M))(hk:k<=1000000)(hU:∀R H U,GG n (eg n M) R H U->∀a r,a<n+1->r<n+n+1->nb (kC (n+1) (fun k r=>eg n M r k) U a r) k) :
  cL 184 [aV n (n+1) M] St.none (fun r _=>∃R H U,GG n (eg n M) R H U/\∃V,r=.tup [aV n (n+1) (fun i j=>kC (n+1) (fun k r=>eg n M r k) U j i),V,.bool true]):=by
 refine ak func184 rfl 51 ntmps184 kr sm (by simp[results184]) ?_
 rw[aF,results184];have h1:=W.h1;have hn:=W.hn;simp -dsimp only[go_sem,aa,aV,bA];refine(kA n (n+1) M h1 om om om).call ?_;simp -dsimp only[go_sem,aa];refine(AJ _ n (n+1) M h1 om om om).mono ?_;rintro _ S1 ⟨b,g,rfl,s,_⟩;simp -dsimp only[go_sem,aa];refine au.intro fun u f8=>?_;simp -dsimp only[go_sem,eJ,dD,aO,aG,false_implies,implies_true,List.getD_cons_zero,List.getD_cons_succ,c9,bH];have J:∀{c ty es k:Nat} {z:Nat->AV},aR S1 c ty es k z->c≠u:=fun h=>aR.fresh h f8;rw[<-Nat.add_assoc]at s;have K:=(s.upd (J s.outer) (fun a L=>J (s.row a L)) ⟨218,1,2,fun j=>if j=0 then AV.nil else AV.int IntKind.i64 0⟩).upd (J s.outer) (fun a L=>J (s.row a L)) ⟨218,1,2,eJ (fun j=>if j=0 then AV.nil else AV.int IntKind.i64 0) 0 [AV.sl 1 b 0 (n+1),AV.int IntKind.i64 n]⟩
 have N:aR ((S1.upd u ⟨218,1,2,fun j=>if j=0 then AV.nil else AV.int IntKind.i64 0⟩).upd u ⟨218,1,2,eJ (fun j=>if j=0 then AV.nil else AV.int IntKind.i64 0) 0 [AV.sl 1 b 0 (n+1),AV.int IntKind.i64 n]⟩) u 218 1 2 (Hz b (n+1) n):=aR.here fun j hj=>by
  match j,hj with
  | 0,_=>rfl
  | 1,_=>rfl
 refine(wE _ b n n g (eg n M) W K).mono ?_;rintro _ S2 ⟨⟨R,H,U,hT,g',w⟩,hK⟩;have X:u≠b:=fun e=>J s.outer e.symm;have P:=hK.has N X;have A:=hU R H U hT;generalize hC:kC (n+1) (fun k r=>eg n M r k) U=C at w A;simp -dsimp only[go_sem];refine aI (fun O S=>∃(i:Nat) (x y:AV),i<=n+n+1/\O 8=.ptr 1 u 0/\O 9=x/\O 10=y/\O 26=.int .i64 ((n+n+1:Nat):Int)/\O 27=.int .i64 i/\FS S b u g' n i C x y) (fun O S=>n+n+1-bT (O 27)) ?_ ?_
 ·simp -dsimp only[go_sem];refine⟨0,om,by rw[dV (n:=n+n+1) om om],rfl,w,P,?_,?_,fun d hd=>?_⟩
  ·rw[Nat.zero_min];exact cC.nil (cY.noneS _) _
  ·rw[Nat.zero_sub];exact cC.nil (cY.noneS _) _
  ·obtain⟨_,_,_,e⟩:=hd;cases e
 clear w P hK K N s f8 J;rintro O S ⟨i,x,y,hi,t,q,f,l,m,p⟩;by_cases B:i<n+n+1
 ·obtain⟨gp,up,vp⟩:=id p.pair;have x1:gp 1=.int .i64 n:=vp 1 om;by_cases D:i<n
  ·simp -dsimp only[go_sem,aa,t,q,f,l,m,B,D,up,x1];refine au.intro fun b36 Q=>?_;have E:=p.hx.fresh Q;have o:=p.other Q ⟨3,1,1,fun j=>[AV.int .i64 i].getD j .any⟩
   try simp -dsimp only[go_sem,q]
   refine cC.app3 (v:=.int .i64 i) o.hx om (by simp[dN]) (aK ⟨_,_,_,rfl,bR,rfl,fun h=>E _ h rfl⟩) ?_
   intro c S3 Y F G;have I:=o.appx D Y F G;simp -dsimp only[go_sem,t,q,f,l,m,aM (om:i<1000000),bT]
   exact⟨⟨i+1,om,rfl,I⟩,om⟩
  ·simp -dsimp only[go_sem,aa,t,q,f,l,m,B,D,up,x1];refine au.intro fun b40 T=>?_;have E:=p.hy.fresh T;have o:=p.other T ⟨3,1,1,fun j=>[AV.int .i64 i].getD j .any⟩
   try simp -dsimp only[go_sem,f]
   refine cC.app3 (v:=.int .i64 i) o.hy om (by simp[dN]) (aK ⟨_,_,_,rfl,bR,rfl,fun h=>E _ h rfl⟩) ?_
   intro c S3 Y F G;have I:=o.appy om Y F G;simp -dsimp only[go_sem,t,q,f,l,m,aM (om:i<1000000),bT]
   exact⟨⟨i+1,om,rfl,I⟩,om⟩
 obtain rfl:i=n+n+1:=om
 obtain⟨gp,up,vp⟩:=id p.pair;have Z:gp 0=.sl 1 b 0 (n+1):=vp 0 om;obtain⟨c1,rfl,hL1⟩:∃c1,x=.sl 1 c1 0 n/\aR S c1 3 1 n (fun a=>.int .i64 ((a:Nat):Int)):=by
  rcases p.hx.2 with⟨h,_⟩|⟨c,_,e,h⟩
  ·omega
  ·rw[(om:min (n+n+1) n=n)]at e h;exact⟨c,e,h⟩
 obtain⟨c2,rfl,hL2⟩:∃c2,y=.sl 1 c2 0 (n+1)/\aR S c2 3 1 (n+1) (fun a=>.int .i64 ((n+a:Nat):Int)):=by
  rcases p.hy.2 with⟨h,_⟩|⟨c,_,e,h⟩
  ·omega
  ·rw[(om:n+n+1-n=n+1)]at e h;exact⟨c,e,h⟩
 simp -dsimp only[go_sem,aa,t,q,f,l,m,B];refine aP 11 kr ?_
 simp -dsimp only[go_sem,aa,t,q,f,up,Z];have p1:=vN (n+1) (n+n+1) n k C (fun a=>a) om om (fun i hi=>om) (fun c r G hr=>A c r G hr) hk
 have p2:=vN (n+1) (n+n+1) (n+1) k C (fun a=>n+a) om om (fun i hi=>om) (fun c r G hr=>A c r G hr) hk
 refine⟨_,p1.pf.pureS (dT.two p.cols.vr.va (VR.sl hL1 om (fun a L=>by rw[aJ];exact VR.mf rfl)).va),?_⟩
 try simp -dsimp only[go_sem,t,q,f,l,m,up,Z]
 refine⟨_,p2.pf.pureS (dT.two p.cols.vr.va (VR.sl hL2 om (fun a L=>by rw[aJ];exact VR.mf rfl)).va),?_⟩
 try simp -dsimp only[go_sem,t,q,f,l,m,up,Z]
 subst hC;exact⟨R,H,U,hT,_,rfl⟩

end Go.Proofs.YtdobfmlmenaajaaGreatDoor
