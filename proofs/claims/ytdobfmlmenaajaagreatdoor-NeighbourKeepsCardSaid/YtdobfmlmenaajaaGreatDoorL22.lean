/-
  Lemmas for NeighbourKeeps.
-/
import Derived.Test.YtdobfmlmenaajaaGreatDoorL21
import Derived.Test.YtdobfmlmenaajaaGreatDoorL17
namespace Go.Proofs.YtdobfmlmenaajaaGreatDoor
open Go.RowKit Tryz
open _root_.Int renaming le_of_lt→aS,natCast_mul→bO,toNat_of_nonneg→eM,toNat_natCast→eN,ediv_le_self→tu,ediv_nonneg→uY
open _root_.List renaming all_eq_true→ap,not_mem_nil→aG,forall_mem_cons→aO
open _root_.Nat renaming add_one_le_iff→aa,mul_comm→av,mul_le_mul_right→ay,zero_add→aJ,succ_mul→ck,mod_lt→dp,lt_of_le_of_lt→eE
open _root_.Ne renaming symm→ai
open _root_.Option renaming none→ae
open _root_.Or renaming inr→aK,inl→bn
set_option maxHeartbeats 6400000
set_option maxRecDepth 4096
set_option linter.all false
attribute [local go_sem] Nat.reduceAdd Nat.reduceEqDiff Nat.reduceLeDiff Nat.reduceLT reduceCtorEq Int.ofNat_lt decide_true decide_false Int.zero_le_ofNat
attribute [local go_sem ↓] reduceIte
variable{ops:Array Oper}{d z:Int}{BL:List (Nat×AV)}{args l:List AV}{N b b9 bd e es f i j k m n t ty:Nat}{L:Nat->Bool}{v v1 v2:Nat->Int}{c g g':Nat->Nat}{o:Oper}{S S' S0 T:St}{O:Tm}{K:Tm->St->Prop}{A:aB}{X:dH}
theorem Fk{B:Nat}(h:z.natAbs<=B)(a:B<2^k):nb z k:=eE h a
theorem xh{z:Nat}(h:z<2^k):nb (z:Int) k:=by unfold nb;simpa using h
theorem cE.at_hit{g:Nat->AV}{z:AV}:cE (S.upd b ⟨ty,es,1,g⟩) b ty es z=(g 0=z) :=
 propext ⟨fun⟨g',a,c⟩=>by rw[bR]at a;cases a;exact c,fun h=>⟨g,bR,h⟩⟩
theorem cE.at_miss{c:Nat}{z:AV}(h:b≠c):cE (S.upd c X) b ty es z=cE S b ty es z:=by
 unfold cE;rw[aH h]
theorem D7(x y:Nat):(x:Int)/(y:Int)=((x/y:Nat):Int)/\(x:Int)%(y:Int)=((x%y:Nat):Int):=⟨sm,sm⟩
def ML:St->AV->Nat
 | S,.ptr _ b _=>(match S b with
  | some X=>(match X.g 0 with
   | .big z=>z.toNat
   | _=>0)
  | _=>0)
 | _,_=>0
theorem CZ(h:cE S b 50 2 (.big z)):ML S (.ptr 2 b 0)=z.toNat:=by
 obtain⟨g,a,c⟩:=h;simp only[ML,a,c]
def BzS(S:St)(b2 b3 b4 b5 b6 b7 b8:Nat)(x y a b na nb':Int):Prop :=
 cE S b2 50 2 (.big x)/\cE S b3 50 2 (.big y)/\cE S b4 50 2 (.big 0)/\cE S b5 50 2 (.big a)/\cE S b6 50 2 (.big b)/\cE S b7 50 2 (.big na)/\cE S b8 50 2 (.big nb')
theorem Gr(d e:Nat)(hx:d<2^32)(hy:e<2^32)(K:0<d∨0<e) :
  PF 268 [.big d,.big e] (.tup [.big (bz d e).1,.big (bz d e).2.1,.big (bz d e).2.2]):=by
 refine PF.of_spec (ak func268 rfl 43 ntmps268 kr sm (by simp[results268]) ?_)
 rw[aF,results268];have one_pf:PF 81 [.int .i64 1] (.big 1):=fQ dc dc
 simp -dsimp only[go_sem];refine au.intro fun bc fc=>?_
 try simp -dsimp only[go_sem]
 refine au.intro fun bd fd=>?_;have nd_c:=(ag fd).1
 try simp -dsimp only[go_sem]
 refine au.intro fun be fe=>?_;have ne_d:=(ag fe).1;have ne_c:=(ag (ag fe).2).1
 try simp -dsimp only[go_sem]
 refine au.intro fun bf ff=>?_;have nf_e:=(ag ff).1;have nf_d:=(ag (ag ff).2).1;have nf_c:=(ag (ag (ag ff).2).2).1
 try simp -dsimp only[go_sem]
 refine au.intro fun bg fg=>?_;have ng_f:=(ag fg).1;have ng_e:=(ag (ag fg).2).1;have ng_d:=(ag (ag (ag fg).2).2).1;have ng_c:=(ag (ag (ag (ag fg).2).2).2).1
 try simp -dsimp only[go_sem]
 refine one_pf.call ?_;simp -dsimp only[go_sem,aa,nn ng_f];refine one_pf.call ?_;simp -dsimp only[go_sem];refine au.intro fun bh fh=>?_;have nh_g:=(ag fh).1;have nh_f:=(ag (ag fh).2).1;have nh_g:=(ag (ag (ag fh).2).2).1;have nh_f:=(ag (ag (ag (ag fh).2).2).2).1;have nh_e:=(ag (ag (ag (ag (ag fh).2).2).2).2).1;have nh_d:=(ag (ag (ag (ag (ag (ag fh).2).2).2).2).2).1;have nh_c:=(ag (ag (ag (ag (ag (ag (ag fh).2).2).2).2).2).2).1;simp -dsimp only[go_sem];refine au.intro fun bi fi=>?_;have ni_h:=(ag fi).1;have ni_g:=(ag (ag fi).2).1;have ni_f:=(ag (ag (ag fi).2).2).1;have ni_g:=(ag (ag (ag (ag fi).2).2).2).1;have ni_f:=(ag (ag (ag (ag (ag fi).2).2).2).2).1;have ni_e:=(ag (ag (ag (ag (ag (ag fi).2).2).2).2).2).1;have ni_d:=(ag (ag (ag (ag (ag (ag (ag fi).2).2).2).2).2).2).1;have ni_c:=(ag (ag (ag (ag (ag (ag (ag (ag fi).2).2).2).2).2).2).2).1;simp -dsimp only[go_sem,aa,nn ni_h];refine aI (fun O S'=>∃(x y:Nat) (a b na nb':Int),Lo d e x y a b na nb'/\O 2=.ptr 2 bc 0/\O 3=.ptr 2 bd 0/\O 4=.ptr 2 be 0/\O 5=.ptr 2 bf 0/\O 6=.ptr 2 bg 0/\O 7=.ptr 2 bh 0/\O 8=.ptr 2 bi 0/\BzS S' bc bd be bf bg bh bi x y a b na nb') (fun O S=>ML S (O 3)) ?_ ?_
 ·simp -dsimp only[go_sem];refine⟨d,e,1,0,0,1,Lo.init K,?_⟩;simp only[BzS,cE.at_hit,cE.at_miss,ne_eq,not_false_eq_true,aL,if_true,and_self,ai nd_c,ai ne_c,ai ne_d,ai nf_c,ai nf_d,ai nf_e,ai ng_c,ai ng_d,ai ng_e,ai ng_f,ai nh_c,ai nh_d,ai nh_e,ai nh_f,ai nh_g,ai ni_c,ai ni_d,ai ni_e,ai ni_f,ai ni_g,ai ni_h]
 ·rintro O S' ⟨x,y,a,b,na,nbb,f,k,i,z,r,A,B,L,c⟩;obtain⟨⟨g2,q,m⟩,⟨g3,n,j⟩,⟨g4,M,v4⟩,⟨g5,C,D⟩,⟨g6,E,F⟩,⟨g7,N,P⟩,⟨g8,u8,Q⟩⟩:=id c;by_cases g:y=0
  ·subst g;simp -dsimp only[go_sem,aa,i,n,j];refine(jp (nb.zero 1) om).call ?_;simp -dsimp only[go_sem,aa,k,i,q,m,n,j,show(Int.sign 0 != 0)=false from rfl];refine ej 3 [[1,2]] kr ?_
   simp -dsimp only[go_sem,aa,k,z,r,A,q,m,M,C,D,E,F,nn nf_e,nn ng_e,nn ng_f];simp only[aL,if_true];rw[f.fin];exact⟨trivial,trivial,trivial,VR.tup (l:=[.big x,.big a,.big b]) (by simp[qN])⟩
  ·have R:((y:Int).sign != 0)=true:=by simp;omega
   have lx:x<2^32/\y<2^32:=by
    have h1:=f.lx;have h2:=f.ly;omega
   have s:nb a 32:=Fk f.la om;have o:nb na 32:=Fk f.lna om;have t:nb b 32:=Fk f.lb om;have p:nb nbb 32:=Fk f.lnb om;have nq:nb ((x/y:Nat):Int) 32:=xh (eE (Nat.div_le_self x y) lx.1);have G:=D7 x y;simp -dsimp only[go_sem,aa,i,n,j];refine(jp (xh lx.2) om).call ?_;simp -dsimp only[go_sem,aa,k,i,q,m,n,j,R];refine(mF (xh lx.1) (xh lx.2) om om (aK ((xh lx.1).mono om))).call ?_;rw[G.1,G.2];simp -dsimp only[go_sem,m,j];refine au.intro fun bj fj=>?_;have U:bc≠bj/\bd≠bj/\be≠bj/\bf≠bj/\bg≠bj/\bh≠bj/\bi≠bj:=⟨cE.fresh c.1 fj,cE.fresh c.2.1 fj,cE.fresh c.2.2.1 fj,cE.fresh c.2.2.2.1 fj,cE.fresh c.2.2.2.2.1 fj,cE.fresh c.2.2.2.2.2.1 fj,cE.fresh c.2.2.2.2.2.2 fj⟩;obtain⟨u,v,V,H,W,I,X⟩:=U;simp -dsimp only[go_sem];refine au.intro fun bk fk=>?_;have nk_j:=(ag fk).1;have h:=(ag fk).2;have w:bc≠bk/\bd≠bk/\be≠bk/\bf≠bk/\bg≠bk/\bh≠bk/\bi≠bk:=⟨cE.fresh c.1 h,cE.fresh c.2.1 h,cE.fresh c.2.2.1 h,cE.fresh c.2.2.2.1 h,cE.fresh c.2.2.2.2.1 h,cE.fresh c.2.2.2.2.2.1 h,cE.fresh c.2.2.2.2.2.2 h⟩;obtain⟨Y,Z,k3,k4,k5,k6,k7⟩:=w;simp -dsimp only[go_sem,aa,nn nk_j];refine ej 2 [[1]] kr ?_
   simp -dsimp only[go_sem,aa,k,i,q,m,n,j,nd_c,u,v,nn Y,nn Z,dr];refine aP 6 kr ?_
   simp -dsimp only[go_sem,aa,r,B,C,D,N,P,nf_c,nf_d,nh_c,nh_d,nh_f,H,I,k4,k6,ai nk_j,dr,ai u,ai v];refine⟨_,(fV nq o om).pure',_,(me (s.mono (om:32<=64)) (nq.mul o) om).pure',trivial,?_⟩
   refine aP 6 kr ?_
   simp -dsimp only[go_sem,aa,k,i,z,r,A,B,L,E,F,u8,Q,ng_c,ng_d,ng_f,ni_c,ni_d,ni_f,ni_g,ni_h,ai nh_g,W,X,k5,k7,ai nk_j,dr,ai u,ai v,ai H,ai I];refine⟨_,(fV nq p om).pure',_,(me (t.mono (om:32<=64)) (nq.mul p) om).pure',trivial,?_⟩
   generalize hT:(((((((((S'.upd bj _).upd bk _).upd bj _).upd bk _).upd bc _).upd bd _).upd bf _).upd bh _).upd bg _).upd bi _=T;have J:BzS T bc bd be bf bg bh bi (y:Int) ((x%y:Nat):Int) na nbb (a-((x/y:Nat):Int)*na) (b-((x/y:Nat):Int)*nbb):=by
    rw[<-hT];simp only[BzS,cE.at_hit,cE.at_miss,ne_eq,not_false_eq_true,aL,if_true,and_self,true_and,and_true,ne_c,ne_d,nh_g,ai nd_c,ai nf_c,ai nf_d,ai nf_e,ai ng_c,ai ng_d,ai ng_e,ai ng_f,ai nh_c,ai nh_d,ai nh_e,ai nh_f,ai ni_c,ai ni_d,ai ni_e,ai ni_f,ai ni_g,ai ni_h,V,k3];exact c.2.2.1
   refine⟨⟨y,x%y,na,nbb,_,_,f.step g,J⟩,?_⟩;rw[CZ J.2.1,CZ c.2.1];have:=dp x (Nat.pos_of_ne_zero g);simp only[eN];exact this

theorem dd.repl(h:dd S b g n m A){j c:Nat}{v:Nat->Int}(p:ic S c m v)(f:∀i,i<n->g i≠c){q:Nat->AV}(u:S b=some ⟨59,1,n,q⟩) :
  dd (S.upd b ⟨59,1,n,aL q j (.sl 2 c 0 m)⟩) b (fun i=>if i=j then c else g i) n m (fun i r=>if i=j then v r else A i r):=by
 have o:b≠c:=aR.ne h.outer p dc
 refine⟨aR.here fun i a=>?_,fun i a=>?_,fun i k a s d=>?_⟩
 ·obtain⟨x,t,w⟩:=h.outer;rw[u]at t;cases t;simp only[aL];by_cases e:i=j
  ·simp[e]
  ·simp only[e,if_false];exact w i a
 ·by_cases e:i=j
  ·simp only[e,if_true];exact p.upd (ai o) _
  ·simp only[e,if_false];exact(h.row i a).upd (ai (h.outer_ne a)) _
 ·by_cases e:i=j
  ·by_cases l:k=j
   ·omega
   ·simp only[e,l,if_true,if_false]at d;exact absurd d.symm (f k s)
  ·by_cases l:k=j
   ·simp only[e,l,if_true,if_false]at d;exact absurd d (f i a)
   ·simp only[e,l,if_false]at d;exact h.inj i k a s d
structure mw(S S':St)(b:Nat)(g g':Nat->Nat)(n:Nat):Prop where
 keep:∀k X,S k=some X->k≠b->(∀i,i<n->g i≠k)->S' k=some X
 new:∀i,i<n->(∃j,j<n/\g' i=g j)∨S (g' i)=ae
theorem mw.refl(S:St)(b:Nat)(g:Nat->Nat)(n:Nat):mw S S b g g n:=⟨fun _ _ h _ _=>h,fun i a=>bn ⟨i,a,rfl⟩⟩
theorem mw.upd(h:mw S S' b g g' n){c:Nat}(j:c=b∨(∃i,i<n/\g i=c)∨S c=ae)(X:dH):mw S (S'.upd c X) b g g' n:=by
 refine⟨fun k Y a d f=>?_,h.new⟩;have l:k≠c:=by
  rintro rfl;rcases j with e|⟨i,m,e⟩|e
  ·exact d e
  ·exact f i m e
  ·rw[e]at a;cases a
 rw[aH l];exact h.keep k Y a d f
theorem mw.trans{S1 S2:St}{g1 g2:Nat->Nat}(h:mw S S1 b g g1 n)(k:mw S1 S2 b g1 g2 n)(r:S1 b≠ae):mw S S2 b g g2 n:=by
 refine⟨fun c X m o p=>k.keep c X (h.keep c X m o p) o (fun i f e=>?_),fun i f=>?_⟩
 ·rcases h.new i f with⟨j,d,a⟩|a
  ·exact p j d (a.symm.trans e)
  ·rw[e,m]at a;cases a
 ·rcases k.new i f with⟨j,d,e⟩|e
  ·rw[e];exact h.new j d
  ·by_cases q:∃j,j<n/\g2 i=g j
   ·exact bn q
   ·refine aK ?_
    cases a:S (g2 i)with
    | none=>rfl
    | some X =>
     have s:g2 i≠b:=fun l=>r (l▸e);have:=h.keep (g2 i) X a s (fun j d l=>q ⟨j,d,l.symm⟩);rw[e]at this;cases this
theorem mw.var(h:mw S S' b g g' n){c ty es:Nat}{z:AV}(a:cE S c ty es z)(d:c≠b)(e:∀i,i<n->g i≠c):cE S' c ty es z:=by
 obtain⟨x,f,j⟩:=a;exact⟨x,h.keep c _ f d e,j⟩
theorem mw.ne(h:mw S S' b g g' n){c:Nat}{X:dH}(d:S c=some X)(f:∀i,i<n->g i≠c):∀i,i<n->g' i≠c:=by
 intro i k e;rcases h.new i k with⟨j,l,a⟩|a
 ·exact f j l (a.symm.trans e)
 ·rw[e,d]at a;cases a
theorem dd.some(h:dd S b g n m A):S b≠ae:=by
 obtain⟨x,a,_⟩:=h.outer;rw[a];simp
structure qz(S:St)(b:Nat)(c:Nat->Nat)(n m:Nat)(A:aB):Prop where
 outer:aR S b 59 1 n (fun i=>.sl 2 (c i) 0 m)
 row:∀i,i<n->ic S (c i) m (A i)
theorem dd.cols(h:dd S b g n m A):qz S b g n m A:=⟨h.outer,h.row⟩
theorem qz.ne(h:qz S b c n m A){i:Nat}(a:i<n):b≠c i:=aR.ne h.outer (h.row i a) dc
theorem qz.vr(h:qz S b c n m A):VR S (.sl 1 b 0 n) (aV n m A):=VR.sl h.outer om (fun j a=>by rw[aJ];exact(h.row j a).vr)
theorem qz.ext(h:qz S b c n m A)(a:cY S S'):qz S' b c n m A:=⟨a.has h.outer,fun i d=>a.has (h.row i d)⟩
def ib(b:Nat)(S S':St):Prop:=∀k X,S k=some X->k≠b->S' k=some X
theorem ib.refl(b:Nat)(S:St):ib b S S:=fun _ _ h _=>h
theorem ib.trans{S'':St}(h:ib b S S')(k:ib b S' S''):ib b S S'':=fun c X d a=>k c X (h c X d a) a
theorem ib.ext(h:cY S S'):ib b S S':=fun c X a _=>h c X a
theorem ib.upd(h:ib b S S'){c:Nat}(f:c=b∨S c=ae)(X:dH):ib b S (S'.upd c X):=fun k Y a d=>by
 have:k≠c:=by
  rintro rfl;rcases f with e|e
  ·exact d e
  ·rw[e]at a;cases a
 rw[aH this];exact h k Y a d
theorem ib.has(h:ib b S S'){c ty es k:Nat}{z:Nat->AV}(a:aR S c ty es k z)(d:c≠b):aR S' c ty es k z:=by
 obtain⟨x,e,f⟩:=a;exact⟨x,h c _ e d,f⟩
theorem ib.var(h:ib b S S'){c ty es:Nat}{z:AV}(a:cE S c ty es z)(d:c≠b):cE S' c ty es z:=by
 obtain⟨x,e,f⟩:=a;exact⟨x,h c _ e d,f⟩
theorem yO(S:St)(b:Nat)(c:Nat->Nat)(n m p q:Nat)(A:aB)(h:p<n)(j:q<n)(d:qz S b c n m A) :
  cL 264 [.sl 1 b 0 n,.int .i64 p,.int .i64 q] S (fun _ S'=>(∃c',qz S' b c' n m (fun i=>A (cV p q i)))/\ib b S S'):=by
 refine gL func264 rfl 20 ntmps264 kr sm ?_
 rw[aF,results264];obtain⟨k,o,f⟩:=id d.outer;have r:k p=.sl 2 (c p) 0 m:=f p h;have s:k q=.sl 2 (c q) 0 m:=f q j;simp -dsimp only[go_sem];refine eR 13 kr ?_
 simp -dsimp only[go_sem,aa,o,r,s,h,j];refine⟨⟨fun i=>c (cV p q i),aR.here fun i l=>?_,fun i l=>?_⟩,((ib.refl b S).upd (bn rfl) _).upd (bn rfl) _⟩
 ·simp only[aL,cV];by_cases e:i=q
  ·subst e;by_cases a:i=p
   ·subst a;simp
   ·simp[a]
  ·by_cases a:i=p
   ·subst a;simp[e]
   ·simp[e,a,f i l]
 ·have g:cV p q i<n:=by unfold cV;split<;>(try split)<;>omega
  exact((d.row _ g).upd (ai (d.ne g)) _).upd (ai (d.ne g)) _
theorem dT.first{x x':AV}(h:VA S x x'):dT S (x::l) (x'::l):=⟨h,cD _ _⟩
structure M8(S0 S:St)(b bd b9:Nat)(c:Nat->Nat)(n m j t:Nat)(A:aB)(v:Nat->Int)(d:Int):Prop where
 outer:aR S b 59 1 n (fun a=>.sl 2 (if a=j then bd else c a) 0 m)
 new:ic S bd m (fun r=>if r<t then v r/d else v r)
 row:∀a,a<n->a≠j->ic S (c a) m (A a)
 var:cE S b9 50 2 (.big d)
 keep:ib b S0 S
 h1:S0 bd=ae
 h2:S0 b9=ae
 ne:b9≠bd
 nc:∀a,a<n->c a≠bd
theorem M8.other(h:M8 S0 S b bd b9 c n m j t A v d){e:Nat}(f:S e=ae)(X:dH):M8 S0 (S.upd e X) b bd b9 c n m j t A v d :=
 ⟨h.outer.upd (aR.fresh h.outer f) _,h.new.upd (aR.fresh h.new f) _,fun a g i=>(h.row a g i).upd (aR.fresh (h.row a g i) f) _,h.var.upd (h.var.fresh f) _,fun k Y l o=>by
  have:k≠e:=by rintro rfl;rw[h.keep k Y l o]at f;cases f
  rw[aH this];exact h.keep k Y l o,h.h1,h.h2,h.ne,h.nc⟩
theorem M8.put(h:M8 S0 S b bd b9 c n m j t A v d){g:Nat->AV}(l:S bd=some ⟨50,2,m,g⟩):M8 S0 (S.upd bd ⟨50,2,m,aL g t (.big (v t/d))⟩) b bd b9 c n m j (t+1) A v d:=by
 refine⟨h.outer.upd (aR.ne h.outer h.new dc) _,aR.here fun r o=>?_,fun a f p=>(h.row a f p).upd (h.nc a f) _,h.var.upd h.ne _,h.keep.upd (aK h.h1) _,h.h1,h.h2,h.ne,h.nc⟩
 obtain⟨g',i,q⟩:=h.new;rw[l]at i;cases i;simp only[aL];by_cases e:r=t
 ·subst e;simp
 ·rw[if_neg e,q r o];by_cases k:r<t
  ·simp[k,(om:r<t+1)]
  ·simp[k,(om:¬r<t+1)]
theorem sL(S0:St)(b:Nat)(c:Nat->Nat)(n m i j row:Nat)(A:aB)(d:Int)(y:i<n)(o:j<n)(k:row<m)(hm:m<=100)(hd:d≠0)(J:nb d 31)(z:∀a r,a<n->r<m->nb (A a r) 31)(R:qz S0 b c n m A) :
  cL 265 [.sl 1 b 0 n,.int .i64 j,.int .i64 i,.int .i64 row,.big d] S0 (fun _ S'=>(∃c',qz S' b c' n m (fun a r=>if a=j then(A i row*A j r-A j row*A i r)/d else A a r))/\ib b S0 S'):=by
 refine gL func265 rfl 58 ntmps265 kr sm ?_
 rw[aF,results265];simp -dsimp only[go_sem];refine au.intro fun B G=>?_
 try simp -dsimp only[go_sem]
 have f:qz (S0.upd B ⟨50,2,1,fun _=>.big d⟩) b c n m A:=R.ext ((cY.refl S0).upd G _);obtain⟨K,H,C⟩:=id f.outer;obtain⟨g2,T,U⟩:=id (f.row i y);obtain⟨g3,V,W⟩:=id (f.row j o);have X:K i=.sl 2 (c i) 0 m:=C i y;have Y:K j=.sl 2 (c j) 0 m:=C j o;have Z:=U row k;have x4:=W row k;refine ej 20 [[0,1],[],[]] kr ?_
 simp -dsimp only[go_sem,aa,H,X,Y,y,o,k,T,Z,V,x4];have n1:=z i row y k;have n2:=(z j row o k).neg;refine⟨_,(rG (z j row o k) om).pure',?_⟩;refine(mP n m 31 j i A (A i row) (-(A j row)) o y hm z n1 n2 om _ _ (dT.first f.vr.va)).mono ?_
 rintro _ S1 ⟨bd,rfl,L,M,D⟩;obtain⟨nd_9,fd⟩:=ag D;clear H C T U V W X Y Z x4;have p:=f.ext M;obtain⟨K,H,C⟩:=id p.outer;obtain⟨g5,u5,v5⟩:=id L;have N:b≠bd:=aR.ne p.outer L dc
 simp -dsimp only[go_sem,aa,H,o,dr];generalize hv:(fun r=>A i row*A j r+-A j row*A i r)=v at *;have E:∀r,r<m->nb (v r) 63:=fun r k=>by rw[<-hv];exact(n1.mul (z j r o k)).add (n2.mul (z i r y k))
 refine aI (fun O S'=>∃t:Nat,t<=m/\O 0=.sl 1 b 0 n/\O 1=.int .i64 j/\O 9=.ptr 2 B 0/\O 37=.sl 2 bd 0 m/\O 38=.int .i64 m/\O 39=.int .i64 t/\M8 S0 S' b bd B c n m j t A v d) (fun O S=>m-bT (O 39)) ?_ ?_
 ·simp -dsimp only[go_sem];refine⟨0,om,rfl,aR.here fun a s=>?_,(L.congr fun r _=>by simp).upd (ai N) _,fun a s _=>(p.row a s).upd (ai (p.ne s)) _,?_,?_,fd,G,ai nd_9,fun a s=>aR.fresh (f.row a s) D⟩
  ·simp only[aL];by_cases e:a=j
   ·simp[e]
   ·simp only[e,if_false];exact C a s
  ·have h9:cE S1 B 50 2 (.big d):=by
    obtain⟨x,I,k2⟩:=cE.new (S:=S0) (b:=B) (ty:=50) (es:=2) (g:=fun _=>AV.big d) rfl;exact⟨x,M _ _ I,k2⟩
   exact h9.upd (fun e=>by obtain⟨x,I,_⟩:=R.outer;rw[<-e,G]at I;cases I) _
  ·exact(ib.ext (((cY.refl S0).upd G _).trans M)).upd (bn rfl) _
 ·rintro O S' ⟨t,ht,e0,e1,e9,u,w,q,l⟩;by_cases h:t<m
  ·obtain⟨g6,P,v6⟩:=id l.new;have x6:g6 t=.big (v t):=(v6 t h).trans sm
   obtain⟨g7,u7,v7⟩:=id l.outer;obtain⟨g8,u8,x8⟩:=id l.var;have x7:g7 j=.sl 2 bd 0 m:=(v7 j o).trans sm
   simp -dsimp only[go_sem,aa,u,w,q,h,P];refine au.intro fun be fe=>?_;have Q:b≠be:=aR.fresh l.outer fe;have h9e:B≠be:=l.var.fresh fe;have F:bd≠be:=aR.fresh l.new fe;simp -dsimp only[go_sem,aa,q,x6];refine ej 13 [[10,11]] kr ?_
   simp -dsimp only[go_sem,aa,e0,e1,e9,u,w,q,h,P,u7,x7,u8,x8,o,Q,h9e,F,dr];refine⟨_,(mF (E t h) (J.mono om) om hd (aK ((E t h).mono om))).pure',?_⟩;simp -dsimp only[go_sem,aM (om:t<1000000),bT]
   refine⟨⟨t+1,om,rfl,?_⟩,om⟩
   rw[kE];exact(l.other fe _).put (by rw[aH F];exact P)
  ·obtain rfl:t=m:=om
   simp -dsimp only[go_sem,u,w,q,h];refine⟨⟨fun a=>if a=j then bd else c a,l.outer,fun a s=>?_⟩,l.keep⟩
   by_cases e:a=j
   ·simp only[e,if_true];refine l.new.congr fun r k=>?_;simp only[k,if_true,<-hv];rw[show A i row*A j r-A j row*A i r=A i row*A j r+-A j row*A i r by rw[Int.neg_mul];omega]
   ·simp only[e,if_false];exact l.row a s e
theorem mX(S0:St)(b:Nat)(g:Nat->Nat)(n m j f:Nat)(A:aB)(M:Int)(h:j<n)(U:m<=100)(D:f<=m)(V:0<M)(o:nb M 32)(k:Nat)(E:k<=1000000)(F:∀r,r<m->nb (A j r) k)(p:dd S0 b g n m A) :
  cL 266 [.sl 1 b 0 n,.int .i64 j,.int .i64 f,.big M] S0 (fun _ S'=>dd S' b g n m (fun i r=>if i=j/\f<=r then A i r%M else A i r)/\mw S0 S' b g g n):=by
 refine gL func266 rfl 38 ntmps266 kr sm ?_
 rw[aF,results266];simp -dsimp only[go_sem];refine au.intro fun bc fc=>?_
 try simp -dsimp only[go_sem]
 have q:b≠bc:=aR.fresh p.outer fc;have l:∀i,i<n->g i≠bc:=fun i G=>aR.fresh (p.row i G) fc;refine aI (fun O S'=>∃r:Nat,f<=r/\r<=m/\O 0=.sl 1 b 0 n/\O 1=.int .i64 j/\O 7=.ptr 2 bc 0/\O 8=.int .i64 r/\dd S' b g n m (fun i c=>if i=j/\f<=c/\c<r then A i c%M else A i c)/\cE S' bc 50 2 (.big M)/\mw S0 S' b g g n) (fun O S=>m-bT (O 8)) ?_ ?_
 ·simp -dsimp only[go_sem];exact⟨f,om,D,rfl,(p.upd q l _).congr fun i c _ _=>by rw[if_neg om],cE.new rfl,(mw.refl S0 b g n).upd (aK (aK fc)) _⟩
 ·rintro O S' ⟨r,H,I,s,t,J,u,d,x,y⟩;obtain⟨K,v,L⟩:=id d.outer;obtain⟨N,B,P⟩:=id (d.row j h);obtain⟨W,Q,R⟩:=id x;have w:K j=.sl 2 (g j) 0 m:=L j h;by_cases a:r<m
  ·have T:N r=.big (A j r):=(P r a).trans (by dsimp only;rw[if_neg om])
   simp -dsimp only[go_sem,aa,s,t,u,v,w,h,a];refine ej 19 [[17]] kr ?_
   simp -dsimp only[go_sem,aa,s,t,J,u,v,w,h,a,B,T,Q,R,aM (om:r<1000000),bT]
   refine⟨_,(o0 (F r a) o E om).pure',?_⟩;simp -dsimp only[go_sem];refine⟨⟨r+1,om,om,rfl,(d.set (j:=r) (z:=A j r%M) h B).congr fun i c _ _=>?_,x.upd (ai (l j h)) _,y.upd (aK (bn ⟨j,h,rfl⟩)) _⟩,om⟩
   unfold dK;dsimp only;by_cases e:i=j/\c=r
   ·obtain⟨rfl,rfl⟩:=e;rw[if_pos ⟨rfl,rfl⟩,if_pos om]
   ·rw[if_neg e];by_cases C:i=j/\f<=c/\c<r
    ·rw[if_pos C,if_pos om]
    ·rw[if_neg C,if_neg om]
  ·obtain rfl:r=m:=om
   simp -dsimp only[go_sem,s,t,u,v,w,h,a];refine And.intro om ?_;exact⟨d.congr fun i c _ X=>by
    by_cases e:i=j/\f<=c
    ·rw[if_pos e,if_pos om]
    ·rw[if_neg e,if_neg om],y⟩

def nO(A:aB)(i j:Nat)(a b x y:Int):aB:=fun c r=>if c=i then a*A i r+b*A j r else if c=j then x*A j r+-y*A i r else A c r
def DB(A:aB)(j f:Nat)(M:Int):aB:=fun c r=>if c=j/\f<=r then A c r%M else A c r
def yS(A:aB)(i j:Nat)(M:Int):aB:=if A j i=0 then A else
 DB (DB (nO A i j (bz (A i i).toNat (A j i).toNat).2.1 (bz (A i i).toNat (A j i).toNat).2.2 (A i i/(bz (A i i).toNat (A j i).toNat).1) (A j i/(bz (A i i).toNat (A j i).toNat).1)) i i M) j i M
theorem jz(h:0<=z/\z<2147483648):nb z 31:=by unfold nb;omega
theorem xT{x y:Int}(a:0<=x/\x<4294967296)(b:0<=y/\y<4294967296)(c:x≠0∨y≠0):PF 268 [.big x,.big y] (.tup [.big (bz x.toNat y.toNat).1,.big (bz x.toNat y.toNat).2.1,.big (bz x.toNat y.toNat).2.2]):=by
 have:=Gr x.toNat y.toNat om om om;rw[eM a.1,eM b.1]at this;exact this
structure ut(T:St)(b:Nat)(g:Nat->Nat)(N m i j:Nat)(v1 v2:Nat->Int)(PL:List (Nat×Nat×AV))(BL:List (Nat×AV))(L:Nat->Bool)(O:Tm)(S:St):Prop where
 base:∀e∈BL,O e.1=e.2
 pure:∀e∈PL,L e.1=true->O e.2.1=e.2.2
 mem:∃c1 c2,(L 9=true->O 60=.sl 2 c1 0 m/\ic S c1 m v1/\T c1=ae)/\(L 16=true->O 67=.sl 2 c2 0 m/\ic S c2 m v2/\T c2=ae/\c1≠c2)/\aR S b 59 1 N (fun k=>.sl 2 (if L 18=true/\k=i then c1 else if L 20=true/\k=j then c2 else g k) 0 m)
 keep:ib b T S
 ord:(L 15=true->L 9=true)/\(L 16=true->L 15=true)/\(L 18=true->L 16=true)/\(L 20=true->L 18=true)
theorem ut.put{PL:List (Nat×Nat×AV)}(h:ut T b g N m i j v1 v2 PL BL L O S){k d:Nat}{z:AV}
  (s:∀e∈PL,e.1=k->e.2.2=z) (u:∀e∈PL,e.1≠k->e.2.1≠d) (p:∀e∈PL,e.1=k->e.2.1=d) (v:∀e∈BL,e.1≠d) (q:d≠60/\d≠67) (a:k≠9/\k≠16/\k≠18/\k≠20) (w:k=15->L 9=true) :
  ut T b g N m i j v1 v2 PL BL (fun c=>if c=k then true else L c) (O.put (some d) z) S:=by
 have l:∀t,t≠d->(O.put (some d) z) t=O t:=fun t x=>by rw[Tm.put_eq];exact if_neg x
 have y:(O.put (some d) z) d=z:=by rw[Tm.put_eq];exact if_pos rfl
 refine⟨fun e f=>by rw[l _ (v e f)];exact h.base e f,fun e f r=>?_,?_,h.keep,?_⟩
 ·by_cases n:e.1=k
  ·rw[p e f n,y,s e f n]
  ·rw[l _ (u e f n)];simp only[n,if_false]at r;exact h.pure e f r
 ·obtain⟨A,B,C,D,E⟩:=h.mem;refine⟨A,B,?_,?_,?_⟩
  ·rw[if_neg (ai a.1),l _ (ai q.1)];exact C
  ·rw[if_neg (ai a.2.1),l _ (ai q.2)];exact D
  ·rw[if_neg (ai a.2.2.1),if_neg (ai a.2.2.2)];exact E
 ·obtain⟨F,G,H,I⟩:=h.ord;rw[if_neg (ai a.1),if_neg (ai a.2.1),if_neg (ai a.2.2.1),if_neg (ai a.2.2.2)];refine⟨fun o=>?_,fun o=>?_,H,I⟩
  ·by_cases e:15=k
   ·exact w e.symm
   ·rw[if_neg e]at o;exact F o
  ·by_cases e:15=k
   ·rw[if_pos e]
   ·rw[if_neg e];exact G o
structure Jj(S0 S:St)(b b7 b8 b9 b11 b12:Nat)(g:Nat->Nat)(N m:Nat)(A:aB)(M x y a b':Int):Prop where
 mat:dd S b g N m A
 cols:mw S0 S b g g N
 v7:cE S b7 50 2 (.big M)
 v8:cE S b8 50 2 (.big x)
 v9:cE S b9 50 2 (.big y)
 v11:cE S b11 50 2 (.big a)
 v12:cE S b12 50 2 (.big b')
 n7:S0 b7=ae
section
variable {S0 T:St} {b b7 b8 b9 b11 b12:Nat} {g:Nat->Nat} {N m i j:Nat} {A:aB} {M x y a b':Int} {v1 v2:Nat->Int} {PL:List (Nat×Nat×AV)} {BL:List (Nat×AV)} {L:Nat->Bool} {O:Tm} {S:St}
theorem ib.fresh(h:ib b T S)(d:S b≠ae){c:Nat}(a:S c=ae):T c=ae:=by
 cases e:T c with
 | none=>rfl
 | some X =>
  have:c≠b:=fun f=>d (f▸a);rw[h c X e this]at a;cases a
theorem ut.off(h:ut T b g N m i j v1 v2 PL BL L O S)(c:L 16=false):L 18=false/\L 20=false:=by
 obtain⟨k,l,d,f⟩:=h.ord;have a:L 18=false:=by cases e:L 18 with
  | false=>rfl
  | true=>rw[d e]at c;cases c
 refine⟨a,?_⟩
 cases e:L 20 with
 | false=>rfl
 | true=>rw[f e]at a;cases a
theorem ut.colS(d:Jj S0 T b b7 b8 b9 b11 b12 g N m A M x y a b')(h:ut T b g N m i j v1 v2 PL BL L O S)(c:L 16=false):qz S b g N m A:=by
 obtain⟨o,p,q,r,f⟩:=h.mem;obtain⟨l,n⟩:=h.off c;exact⟨f.congr fun k _=>by simp[l,n],fun k e=>h.keep.has (d.mat.row k e) (ai (d.mat.outer_ne e))⟩
theorem ut.call9(D:Jj S0 T b b7 b8 b9 b11 b12 g N m A M x y a b')(h:ut T b g N m i j (fun r=>a*A i r+b'*A j r) v2 PL BL L O S)(q:L 9=false)(E:i<j)(F:j<N)(G:m<=100)(H:∀c r,c<N->r<m->0<=A c r/\A c r<2147483648)(na:nb a 31)(nb':nb b' 31)
  (s:∀e∈PL,e.1≠9/\e.2.1≠60) (I:∀e∈BL,e.1≠60) :
  cL 269 [.sl 1 b 0 N,.int .i64 i,.big a,.int .i64 j,.big b'] S (fun z S'=>ut T b g N m i j (fun r=>a*A i r+b'*A j r) v2 PL BL (fun k=>if k=9 then true else L k) (O.put (some 60) z) S'):=by
 obtain⟨J,K,Y,Z⟩:=h.ord;have l:L 15=false:=by cases e:L 15 with
  | false=>rfl
  | true=>rw[J e]at q;cases q
 have f:L 16=false:=by cases e:L 16 with
  | false=>rfl
  | true=>rw[K e]at l;cases l
 obtain⟨u,v⟩:=h.off f;have d:=ut.colS D h f;refine(mP N m 31 i j A a b' om F G (fun c r P Q=>jz (H c r P Q)) na nb' om _ _ (dT.first d.vr.va)).mono ?_
 rintro _ S1 ⟨o,rfl,R,w,U⟩;have B:∀t,t≠60->(O.put (some 60) (.sl 2 o 0 m)) t=O t:=fun t V=>by rw[Tm.put_eq];exact if_neg V
 have W:(O.put (some 60) (.sl 2 o 0 m)) 60=.sl 2 o 0 m:=by rw[Tm.put_eq];exact if_pos rfl
 have p:S b≠ae:=by obtain⟨z,k,_⟩:=d.outer;rw[k];simp
 refine⟨fun e n=>by rw[B _ (I e n)];exact h.base e n,fun e n C=>?_,⟨o,0,fun _=>⟨W,R,h.keep.fresh p U⟩,fun X=>?_,?_⟩,h.keep.trans (ib.ext w),?_⟩
 ·rw[B _ (s e n).2];simp only[(s e n).1,if_false]at C;exact h.pure e n C
 ·simp[f]at X
 ·refine(w.has d.outer).congr fun k _=>?_;simp[u,v]
 ·simp[l,f,u,v]
theorem ut.call16(F:Jj S0 T b b7 b8 b9 b11 b12 g N m A M x y a b')(h:ut T b g N m i j v1 (fun r=>x*A j r+-y*A i r) PL BL L O S)(s:L 16=false)(f:L 15=true)(G:i<j)(H:j<N)(I:m<=100)(J:∀c r,c<N->r<m->0<=A c r/\A c r<2147483648)(na:nb x 31)(nb':nb y 31)
  (u:∀e∈PL,e.1≠16/\e.2.1≠67) (K:∀e∈BL,e.1≠67) :
  cL 269 [.sl 1 b 0 N,.int .i64 j,.big x,.int .i64 i,.big (-y)] S (fun z S'=>ut T b g N m i j v1 (fun r=>x*A j r+-y*A i r) PL BL (fun k=>if k=16 then true else L k) (O.put (some 67) z) S'):=by
 obtain⟨v,o2,o3,o4⟩:=h.ord;obtain⟨w,B⟩:=h.off s;have d:=ut.colS F h s;refine(mP N m 31 j i A x (-y) H om I (fun c r P Q=>jz (J c r P Q)) na nb'.neg om _ _ (dT.first d.vr.va)).mono ?_
 rintro _ S1 ⟨n,rfl,R,o,C⟩;have p:∀t,t≠67->(O.put (some 67) (.sl 2 n 0 m)) t=O t:=fun t U=>by rw[Tm.put_eq];exact if_neg U
 have V:(O.put (some 67) (.sl 2 n 0 m)) 67=.sl 2 n 0 m:=by rw[Tm.put_eq];exact if_pos rfl
 have q:S b≠ae:=by obtain⟨z,k,_⟩:=d.outer;rw[k];simp
 obtain⟨W,_,X,_,_⟩:=h.mem;obtain⟨Y,D,Z⟩:=X (v f);refine⟨fun e l=>by rw[p _ (K e l)];exact h.base e l,fun e l E=>?_,⟨W,n,fun _=>⟨by rw[p _ dc];exact Y,o.has D,Z⟩,fun _=>⟨V,R,h.keep.fresh q C,aR.fresh D C⟩,?_⟩,h.keep.trans (ib.ext o),?_⟩
 ·rw[p _ (u e l).2];simp only[(u e l).1,if_false]at E;exact h.pure e l E
 ·refine(o.has d.outer).congr fun k _=>?_;simp[w,B]
 ·simp[f,v f,w,B]
theorem ut.st18(h:ut T b g N m i j v1 v2 PL BL L O S)(n:L 9=true)(a:L 16=true)(o:L 18=false)(v:i<j)(K:j<N)(w:∀e∈PL,e.1≠18) :
  ∃c f,O 60=.sl 2 c 0 m/\S b=some ⟨59,1,N,f⟩/\ut T b g N m i j v1 v2 PL BL (fun k=>if k=18 then true else L k) O (S.upd b ⟨59,1,N,aL f i (.sl 2 c 0 m)⟩):=by
 obtain⟨M,x,P,y⟩:=h.ord;have d:L 20=false:=by cases e:L 20 with
  | false=>rfl
  | true=>rw[y e]at o;cases o
 obtain⟨c,p,z,A,l⟩:=h.mem;obtain⟨q,r,B⟩:=z n;obtain⟨C,s,D,E⟩:=A a;obtain⟨f,F,G⟩:=id l;have H:c≠b:=ai (aR.ne l r dc)
 have I:p≠b:=ai (aR.ne l s dc)
 refine⟨c,f,q,F,h.base,fun e t u=>?_,⟨c,p,fun _=>⟨q,r.upd H _,B⟩,fun _=>⟨C,s.upd I _,D,E⟩,aR.here fun k J=>?_⟩,h.keep.upd (bn rfl) _,?_⟩
 ·simp only[w e t,if_false]at u;exact h.pure e t u
 ·have:=G k J;simp only[aL];by_cases e:k=i
  ·simp[e]
  ·rw[if_neg e,this];simp[e,d]
 ·simp[n,a,d,x a]
theorem ut.st20(h:ut T b g N m i j v1 v2 PL BL L O S)(a:L 16=true)(c:L 18=true)(I:L 20=false)(v:i<j)(J:j<N)(w:∀e∈PL,e.1≠20) :
  ∃d f,O 67=.sl 2 d 0 m/\S b=some ⟨59,1,N,f⟩/\ut T b g N m i j v1 v2 PL BL (fun k=>if k=20 then true else L k) O (S.upd b ⟨59,1,N,aL f j (.sl 2 d 0 m)⟩):=by
 obtain⟨o,l,K,M⟩:=h.ord;obtain⟨p,d,x,y,n⟩:=h.mem;obtain⟨z,q,A⟩:=x (o (l a));obtain⟨r,s,B,C⟩:=y a;obtain⟨f,D,E⟩:=id n;have F:p≠b:=ai (aR.ne n q dc)
 have G:d≠b:=ai (aR.ne n s dc)
 refine⟨d,f,r,D,h.base,fun e t u=>?_,⟨p,d,fun _=>⟨z,q.upd F _,A⟩,fun _=>⟨r,s.upd G _,B,C⟩,aR.here fun k H=>?_⟩,h.keep.upd (bn rfl) _,?_⟩
 ·simp only[w e t,if_false]at u;exact h.pure e t u
 ·have:=E k H;simp only[aL];by_cases e:k=j
  ·have:¬j=i:=om
   simp[e,c,this]
  ·rw[if_neg e,this];simp[e,c]
 ·simp[a,c,l a,o (l a)]
theorem ut.fin(s:Jj S0 T b b7 b8 b9 b11 b12 g N m A M x y a b')(h:ut T b g N m i j (fun r=>a*A i r+b'*A j r) (fun r=>x*A j r+-y*A i r) PL BL L O S)(t:∀k,k<21->L k=true)(H:i<j):∃g',dd S b g' N m (nO A i j a b' x y)/\mw T S b g g' N:=by
 obtain⟨B,C,I,J,K⟩:=h.mem;obtain⟨U,P,D⟩:=I (t 9 om);obtain⟨V,Q,E,F⟩:=J (t 16 om);have G:∀k,k<N->T (g k)≠ae:=fun k c=>by obtain⟨z,e,_⟩:=s.mat.row k c;rw[e];simp
 refine⟨fun k=>if k=i then B else if k=j then C else g k,⟨K.congr fun k _=>by simp[t 18 om,t 20 om],fun k c=>?_,fun k l c u e=>?_⟩,fun k X R c _=>h.keep k X R c,fun k c=>?_⟩
 ·by_cases v:k=i
  ·simp only[v,if_true];exact P.congr fun r _=>by simp[nO]
  ·by_cases w:k=j
   ·simp only[w,if_true,(om:¬j=i),if_false]
    exact Q.congr fun r _=>by simp[nO,(om:¬j=i)]
   ·simp only[v,w,if_false];exact(h.keep.has (s.mat.row k c) (ai (s.mat.outer_ne c))).congr fun r _=>by simp[nO,v,w]
 ·have p:∀k,k<N->g k≠B:=fun k c e=>G k c (e▸D);have q:∀k,k<N->g k≠C:=fun k c e=>G k c (e▸E);by_cases d:k=i
  ·by_cases f:l=i
   ·omega
   ·by_cases o:l=j
    ·rw[if_pos d,if_neg f,if_pos o]at e;exact absurd e F
    ·rw[if_pos d,if_neg f,if_neg o]at e;exact absurd e.symm (p l u)
  ·by_cases n:k=j
   ·by_cases f:l=i
    ·rw[if_neg d,if_pos n,if_pos f]at e;exact absurd e.symm F
    ·by_cases o:l=j
     ·omega
     ·rw[if_neg d,if_pos n,if_neg f,if_neg o]at e;exact absurd e.symm (q l u)
   ·by_cases f:l=i
    ·rw[if_neg d,if_neg n,if_pos f]at e;exact absurd e (p k c)
    ·by_cases o:l=j
     ·rw[if_neg d,if_neg n,if_neg f,if_pos o]at e;exact absurd e (q k c)
     ·rw[if_neg d,if_neg n,if_neg f,if_neg o]at e;exact s.mat.inj k l c u e
 ·by_cases d:k=i
  ·simp only[d,if_true];exact aK D
  ·by_cases n:k=j
   ·simp only[n,if_true,(om:¬j=i),if_false];exact aK E
   ·simp only[d,n,if_false];exact bn ⟨k,c,rfl⟩
end
theorem lM(P:St->Prop)(a:P S)(h:∀T,P T->EJ ops O T K):EJ ops O S K:=h S a
theorem cN(h:o.guard=ae)(k:Jm o O S (fun z S'=>K (O.put o.dst z) S')):ny ops o O S K:=by unfold ny;rw[h];exact k
theorem Eg(S0:St)(b:Nat)(g:Nat->Nat)(N m i j:Nat)(A:aB)(M:Int)(v:i<j)(q:j<N)(K:i<m)(hm:m<=100)(hM:0<M)(R:nb M 31)(B:∀c r,c<N->r<m->0<=A c r/\A c r<2147483648)(s:dd S0 b g N m A) :
  cL 267 [.sl 1 b 0 N,.int .i64 i,.int .i64 j,.big M] S0 (fun _ S'=>∃g',dd S' b g' N m (yS A i j M)/\mw S0 S' b g g' N):=by
 refine gL func267 rfl 80 ntmps267 kr sm ?_
 rw[aF,results267];have n:i<N:=om
 simp -dsimp only[go_sem];refine au.intro fun b7 f7=>?_;have C:=s.ext ((cY.refl S0).upd f7 ⟨50,2,1,fun _=>.big M⟩);obtain⟨g1,u1,v1⟩:=id C.outer;obtain⟨g2,u2,v2⟩:=id (C.row i n);obtain⟨g3,u3,v3⟩:=id (C.row j q);have x1:g1 i=.sl 2 (g i) 0 m:=v1 i n;have x2:g1 j=.sl 2 (g j) 0 m:=v1 j q;have x3:g2 i=.big (A i i):=v2 i K;have x4:g3 i=.big (A j i):=v3 i K;refine iw 16 [[7,8,9,10,11,12,13],[]] kr ?_
 simp -dsimp only[go_sem,aa,u1,x1,x2,u2,x3,u3,x4,n,q,K];refine au.intro fun b8 f8=>?_;have n8_7:=(ag f8).1
 try simp -dsimp only[go_sem]
 refine au.intro fun b9 f9=>?_;have n9_8:=(ag f9).1;have n9_7:=(ag (ag f9).2).1;have s8:S0 b8=ae:=(ag f8).2;have s9:S0 b9=ae:=(ag (ag f9).2).2;have w7:b≠b7:=aR.fresh s.outer f7;have w8:b≠b8:=aR.fresh s.outer s8;have w9:b≠b9:=aR.fresh s.outer s9;have y7:∀a,a<N->g a≠b7:=fun a f=>aR.fresh (s.row a f) f7;have y8:∀a,a<N->g a≠b8:=fun a f=>aR.fresh (s.row a f) s8;have y9:∀a,a<N->g a≠b9:=fun a f=>aR.fresh (s.row a f) s9;have w8i:=y8 i n;have w8j:=y8 j q;have w9i:=y9 i n;have w9j:=y9 j q;simp -dsimp only[go_sem,u1,x2,u3,x4,q,K,aL,w8,w8j,w9,w9j,nn n9_8];have ki:=B i i n K;have kj:=B j i q K;refine(jp (jz kj) om).call ?_;by_cases hz:A j i=0
 ·simp -dsimp only[go_sem,hz,show(Int.sign 0==0)=true from rfl];refine⟨g,?_,?_⟩
  ·rw[yS,if_pos hz]
   repeat' first|exact s|refine dd.upd ?_ (by assumption) (by assumption) _
  ·repeat' first|exact mw.refl S0 b g N|refine mw.upd ?_ (aK (aK (by assumption))) _
 ·have hs:((A j i).sign==0)=false:=by
   have:(A j i).sign=1:=Int.sign_eq_one_of_pos om;rw[this];rfl
  simp -dsimp only[go_sem,aa,hs,ai n9_8,dr];refine(xT om om (aK hz)).call ?_;generalize E:bz (A i i).toNat (A j i).toNat=D at *;simp -dsimp only[go_sem,dr];refine au.intro fun F t=>?_;have n10_9:=(ag t).1;have n10_8:=(ag (ag t).2).1;have n10_9:=(ag (ag (ag t).2).2).1;have n10_8:=(ag (ag (ag (ag t).2).2).2).1;have n10_7:=(ag (ag (ag (ag (ag t).2).2).2).2).1;simp -dsimp only[go_sem];refine au.intro fun b11 p=>?_;have n11_10:=(ag p).1;have n11_9:=(ag (ag p).2).1;have n11_8:=(ag (ag (ag p).2).2).1;have n11_9:=(ag (ag (ag (ag p).2).2).2).1;have n11_8:=(ag (ag (ag (ag (ag p).2).2).2).2).1;have n11_7:=(ag (ag (ag (ag (ag (ag p).2).2).2).2).2).1;simp -dsimp only[go_sem];refine au.intro fun b12 o=>?_;have n12_11:=(ag o).1;have n12_10:=(ag (ag o).2).1;have n12_9:=(ag (ag (ag o).2).2).1;have n12_8:=(ag (ag (ag (ag o).2).2).2).1;have n12_9:=(ag (ag (ag (ag (ag o).2).2).2).2).1;have n12_8:=(ag (ag (ag (ag (ag (ag o).2).2).2).2).2).1;have n12_7:=(ag (ag (ag (ag (ag (ag (ag o).2).2).2).2).2).2).1;simp -dsimp only[go_sem,aa,nn n11_10,nn n12_10,nn n12_11,ai n9_8,ai n10_8,ai n11_8,ai n12_8,dr];have U:S0 F=ae:=(ag (ag (ag (ag (ag t).2).2).2).2).2;have V:S0 b11=ae:=(ag (ag (ag (ag (ag (ag p).2).2).2).2).2).2;have W:S0 b12=ae:=(ag (ag (ag (ag (ag (ag (ag o).2).2).2).2).2).2).2;have w10:b≠F:=aR.fresh s.outer U;have w11:b≠b11:=aR.fresh s.outer V;have w12:b≠b12:=aR.fresh s.outer W;have y10:∀a,a<N->g a≠F:=fun a f=>aR.fresh (s.row a f) U;have y11:∀a,a<N->g a≠b11:=fun a f=>aR.fresh (s.row a f) V;have y12:∀a,a<N->g a≠b12:=fun a f=>aR.fresh (s.row a f) W;have G:=Ei (A j i).toNat (A i i).toNat (A j i).toNat om (aK om);have hD2:=IT (A j i).toNat (A i i).toNat (A j i).toNat om om;rw[E]at G hD2;have nD1:nb D.1 31:=by unfold nb;omega
  have nD2:nb D.2.1 31:=by unfold nb;omega
  have nD3:nb D.2.2 31:=by unfold nb;omega
  refine(mF (jz ki) nD1 om om (aK ((jz ki).mono om))).call ?_;simp -dsimp only[go_sem,aa,nn n9_8,nn n10_8,ai n10_9,ai n11_8,ai n11_9,ai n11_10,ai n12_8,ai n12_9,ai n12_10,dr];refine(mF (jz kj) nD1 om om (aK ((jz kj).mono om))).call ?_;simp -dsimp only[go_sem,aa,n9_8,ai n10_9,ai n11_9,ai n12_9,dr];have X:nb (A i i/D.1) 31:=by
   have:=tu D.1 ki.1;have:=uY ki.1 (aS G.1);unfold nb;omega
  have H:nb (A j i/D.1) 31:=by
   have:=tu D.1 kj.1;have:=uY kj.1 (aS G.1);unfold nb;omega
  refine lM (fun T=>Jj S0 T b b7 b8 b9 b11 b12 g N m A M (A i i/D.1) (A j i/D.1) D.2.1 D.2.2) ?_ ?_
  ·constructor
   ·repeat' first|exact s|refine dd.upd ?_ (by assumption) (by assumption) _
   ·repeat' first|exact mw.refl S0 b g N|refine mw.upd ?_ (aK (aK (by assumption))) _
   all_goals first|exact f7|simp only[cE.at_hit,cE.at_miss,ne_eq,not_false_eq_true,aL,if_true,n11_8,n11_9,n12_8,n12_9,ai n8_7,ai n9_7,ai n9_8,ai n10_7,ai n11_7,ai n12_7,ai n12_11]
  intro T u;generalize hxx:A i i/D.1=x' at *;generalize hyy:A j i/D.1=y' at *;refine t7 (ut T b g N m i j (fun r=>D.2.1*A i r+D.2.2*A j r) (fun r=>x'*A j r+-y'*A i r) [(0,51,.sl 1 b 0 N),(1,52,.int .i64 i),(2,53,.sl 1 b 0 N),(3,54,.int .i64 j),(4,55,.sl 1 b 0 N),(5,56,.int .i64 i),(6,57,.big D.2.1),(7,58,.int .i64 j),(8,59,.big D.2.2),(10,61,.sl 1 b 0 N),(11,62,.int .i64 j),(12,63,.big x'),(13,64,.int .i64 i),(14,65,.big y'),(15,66,.big (-y')),(17,68,.ptr 1 b i),(19,69,.ptr 1 b j)] [(0,.sl 1 b 0 N),(1,.int .i64 i),(2,.int .i64 j),(7,.ptr 2 b7 0),(8,.ptr 2 b8 0),(9,.ptr 2 b9 0),(11,.ptr 2 b11 0),(12,.ptr 2 b12 0)]) kr ?_ ?_ ?_
  ·refine⟨?_,(fun e _ h=>by cases h),⟨0,0,(fun h=>by cases h),(fun h=>by cases h),u.mat.outer.congr fun k _=>by simp⟩,ib.refl _ _,sm⟩
   simp only[aO,aG,false_implies,implies_true,and_true];simp -dsimp only[go_sem]
  ·clear f8 f9 t p o E;refine⟨?_,?_,?_,?_,?_,?_,?_,?_,?_,?_,?_,?_,?_,?_,?_,?_,?_,?_,?_,?_,?_,trivial⟩
   ·intro L O S d l f;have al:∀k,_->L k=true:=ap.1 f;refine cN rfl ?_;have w:O 0=.sl 1 b 0 N:=d.base (0,.sl 1 b 0 N) sm
    simp -dsimp only[go_sem,w];exact d.put sm sm sm sm dc dc (by intro h;cases h)
   ·intro L O S d l f;have al:∀k,_->L k=true:=ap.1 f;refine cN rfl ?_;have x:O 1=.int .i64 i:=d.base (1,.int .i64 i) sm
    simp -dsimp only[go_sem,x];exact d.put sm sm sm sm dc dc (by intro h;cases h)
   ·intro L O S d l f;have al:∀k,_->L k=true:=ap.1 f;refine cN rfl ?_;have w:O 0=.sl 1 b 0 N:=d.base (0,.sl 1 b 0 N) sm
    simp -dsimp only[go_sem,w];exact d.put sm sm sm sm dc dc (by intro h;cases h)
   ·intro L O S d l f;have al:∀k,_->L k=true:=ap.1 f;refine cN rfl ?_;have I:O 2=.int .i64 j:=d.base (2,.int .i64 j) sm
    simp -dsimp only[go_sem,I];exact d.put sm sm sm sm dc dc (by intro h;cases h)
   ·intro L O S d l f;have al:∀k,_->L k=true:=ap.1 f;refine cN rfl ?_;have w:O 0=.sl 1 b 0 N:=d.base (0,.sl 1 b 0 N) sm
    simp -dsimp only[go_sem,w];exact d.put sm sm sm sm dc dc (by intro h;cases h)
   ·intro L O S d l f;have al:∀k,_->L k=true:=ap.1 f;refine cN rfl ?_;have x:O 1=.int .i64 i:=d.base (1,.int .i64 i) sm
    simp -dsimp only[go_sem,x];exact d.put sm sm sm sm dc dc (by intro h;cases h)
   ·intro L O S d l f;have al:∀k,_->L k=true:=ap.1 f;refine cN rfl ?_;have e11:O 11=.ptr 2 b11 0:=d.base (11,.ptr 2 b11 0) sm
    obtain⟨gg,uu,xx⟩:=d.keep.var u.v11 (ai w11);simp -dsimp only[go_sem,e11,uu,xx];exact d.put sm sm sm sm dc dc (by intro h;cases h)
   ·intro L O S d l f;have al:∀k,_->L k=true:=ap.1 f;refine cN rfl ?_;have I:O 2=.int .i64 j:=d.base (2,.int .i64 j) sm
    simp -dsimp only[go_sem,I];exact d.put sm sm sm sm dc dc (by intro h;cases h)
   ·intro L O S d l f;have al:∀k,_->L k=true:=ap.1 f;refine cN rfl ?_;have e12:O 12=.ptr 2 b12 0:=d.base (12,.ptr 2 b12 0) sm
    obtain⟨gg,uu,xx⟩:=d.keep.var u.v12 (ai w12);simp -dsimp only[go_sem,e12,uu,xx];exact d.put sm sm sm sm dc dc (by intro h;cases h)
   ·intro L O S d l f;have al:∀k,_->L k=true:=ap.1 f;refine cN rfl ?_;have p4:O 55=.sl 1 b 0 N:=d.pure (4,55,.sl 1 b 0 N) sm (al 4 dc)
    have p5:O 56=.int .i64 i:=d.pure (5,56,.int .i64 i) sm (al 5 dc)
    have p6:O 57=.big D.2.1:=d.pure (6,57,.big D.2.1) sm (al 6 dc)
    have p7:O 58=.int .i64 j:=d.pure (7,58,.int .i64 j) sm (al 7 dc)
    have p8:O 59=.big D.2.2:=d.pure (8,59,.big D.2.2) sm (al 8 dc)
    simp -dsimp only[go_sem,p4,p5,p6,p7,p8];exact ut.call9 u d l v q hm B nD2 nD3 sm sm
   ·intro L O S d l f;have al:∀k,_->L k=true:=ap.1 f;refine cN rfl ?_;have w:O 0=.sl 1 b 0 N:=d.base (0,.sl 1 b 0 N) sm
    simp -dsimp only[go_sem,w];exact d.put sm sm sm sm dc dc (by intro h;cases h)
   ·intro L O S d l f;have al:∀k,_->L k=true:=ap.1 f;refine cN rfl ?_;have I:O 2=.int .i64 j:=d.base (2,.int .i64 j) sm
    simp -dsimp only[go_sem,I];exact d.put sm sm sm sm dc dc (by intro h;cases h)
   ·intro L O S d l f;have al:∀k,_->L k=true:=ap.1 f;refine cN rfl ?_;have e8:O 8=.ptr 2 b8 0:=d.base (8,.ptr 2 b8 0) sm
    obtain⟨gg,uu,xx⟩:=d.keep.var u.v8 (ai w8);simp -dsimp only[go_sem,e8,uu,xx];exact d.put sm sm sm sm dc dc (by intro h;cases h)
   ·intro L O S d l f;have al:∀k,_->L k=true:=ap.1 f;refine cN rfl ?_;have x:O 1=.int .i64 i:=d.base (1,.int .i64 i) sm
    simp -dsimp only[go_sem,x];exact d.put sm sm sm sm dc dc (by intro h;cases h)
   ·intro L O S d l f;have al:∀k,_->L k=true:=ap.1 f;refine cN rfl ?_;have e9:O 9=.ptr 2 b9 0:=d.base (9,.ptr 2 b9 0) sm
    obtain⟨gg,uu,xx⟩:=d.keep.var u.v9 (ai w9);simp -dsimp only[go_sem,e9,uu,xx];exact d.put sm sm sm sm dc dc (by intro h;cases h)
   ·intro L O S d l f;have al:∀k,_->L k=true:=ap.1 f;refine cN rfl ?_;have p14:O 65=.big y':=d.pure (14,65,.big y') sm (al 14 dc)
    simp -dsimp only[go_sem,p14];refine(rG H om).call ?_;simp -dsimp only[go_sem];exact d.put sm sm sm sm dc dc (fun _=>al 9 dc)
   ·intro L O S d l f;have al:∀k,_->L k=true:=ap.1 f;refine cN rfl ?_;have p10:O 61=.sl 1 b 0 N:=d.pure (10,61,.sl 1 b 0 N) sm (al 10 dc)
    have p11:O 62=.int .i64 j:=d.pure (11,62,.int .i64 j) sm (al 11 dc)
    have p12:O 63=.big x':=d.pure (12,63,.big x') sm (al 12 dc)
    have p13:O 64=.int .i64 i:=d.pure (13,64,.int .i64 i) sm (al 13 dc)
    have p15:O 66=.big (-y'):=d.pure (15,66,.big (-y')) sm (al 15 dc)
    simp -dsimp only[go_sem,p10,p11,p12,p13,p15];exact ut.call16 u d l (al 15 dc) v q hm B X H sm sm
   ·intro L O S d l f;have al:∀k,_->L k=true:=ap.1 f;refine cN rfl ?_;have p0:O 51=.sl 1 b 0 N:=d.pure (0,51,.sl 1 b 0 N) sm (al 0 dc)
    have p1:O 52=.int .i64 i:=d.pure (1,52,.int .i64 i) sm (al 1 dc)
    simp -dsimp only[go_sem,p0,p1,n];exact d.put sm sm sm sm dc dc (by intro h;cases h)
   ·intro L O S d l f;have al:∀k,_->L k=true:=ap.1 f;refine cN rfl ?_;have p17:O 68=.ptr 1 b i:=d.pure (17,68,.ptr 1 b i) sm (al 17 dc)
    obtain⟨c1,g1,P,Q,q3⟩:=d.st18 (al 9 dc) (al 16 dc) l v q sm
    simp -dsimp only[go_sem,aa,p17,P,Q,n];exact q3
   ·intro L O S d l f;have al:∀k,_->L k=true:=ap.1 f;refine cN rfl ?_;have p2:O 53=.sl 1 b 0 N:=d.pure (2,53,.sl 1 b 0 N) sm (al 2 dc)
    have p3:O 54=.int .i64 j:=d.pure (3,54,.int .i64 j) sm (al 3 dc)
    simp -dsimp only[go_sem,p2,p3,q];exact d.put sm sm sm sm dc dc (by intro h;cases h)
   ·intro L O S d l f;have al:∀k,_->L k=true:=ap.1 f;refine cN rfl ?_;have p19:O 69=.ptr 1 b j:=d.pure (19,69,.ptr 1 b j) sm (al 19 dc)
    obtain⟨c2,g1,P,Q,q3⟩:=d.st20 (al 16 dc) (al 18 dc) l v q sm
    simp -dsimp only[go_sem,aa,p19,P,Q,q];exact q3
  ·intro L O S d l;obtain⟨g',Y,Z⟩:=ut.fin u d l v;have w:O 0=.sl 1 b 0 N:=d.base (0,.sl 1 b 0 N) sm
   have x:O 1=.int .i64 i:=d.base (1,.int .i64 i) sm
   have I:O 2=.int .i64 j:=d.base (2,.int .i64 j) sm
   have e7:O 7=.ptr 2 b7 0:=d.base (7,.ptr 2 b7 0) sm
   obtain⟨gg,uu,xx⟩:=d.keep.var u.v7 (ai w7);simp -dsimp only[go_sem,aa,w,x,e7,uu,xx];have nC:∀c r,c<N->r<m->nb (nO A i j D.2.1 D.2.2 x' y' c r) 63:=fun c r hc J=>by
    have P:=jz (B i r n J);have Q:=jz (B j r q J);unfold nO;split
    ·exact(nD2.mul P).add (nD3.mul Q)
    ·split
     ·exact(X.mul Q).add (H.neg.mul P)
     ·exact(jz (B c r hc J)).mono om
   obtain⟨z7,k7,_⟩:=id u.v7;have g7:∀a,a<N->g' a≠b7:=Z.ne k7 y7;refine(mX S b g' N m i i _ M n hm om hM (R.mono om) 63 om (fun r J=>nC i r n J) Y).mono ?_;rintro _ S1 ⟨y,z⟩;obtain⟨g3,u3,x3⟩:=z.var ⟨gg,uu,xx⟩ (ai w7) g7;simp -dsimp only[go_sem,aa,w,x,I,e7,u3,x3];refine(mX S1 b g' N m j i _ M q hm om hM (R.mono om) 63 om (fun r J=>?_) y).mono ?_
   ·rw[if_neg om];exact nC j r q J
   rintro _ S2 ⟨hO2',hC2'⟩;simp -dsimp only[go_sem];refine⟨g',?_,(u.cols.trans (Z.trans (z.trans hC2' y.some) Y.some) u.mat.some)⟩;have e:yS A i j M=DB (DB (nO A i j D.2.1 D.2.2 x' y') i i M) j i M:=by
    rw[yS,if_neg hz,E,hxx,hyy]
   rw[e];exact hO2'

theorem vN(N m K k:Nat)(A:aB)(ρ:Nat->Nat)(H:N<=100)(I:K<=100)(hρ:∀i,i<K->ρ i<m)(C:∀c r,c<N->r<m->nb (A c r) k)(J:k<=1000000):MF 234 [aV N m A,aX K (fun i=>ρ i)] K N (fun i j=>A j (ρ i)):=by
 refine MF.of ?_;refine ak func234 rfl 47 ntmps234 kr sm (by simp[results234]) ?_
 rw[aF,results234];simp -dsimp only[go_sem,aV,bA,aX]
 repeat refine an ?_
 refine au.intro fun bc fc=>?_;simp -dsimp only[go_sem];refine aI (fun O S'=>∃j:Nat,j<=K/\O 0=aV N m A/\O 5=.sl 1 bc 0 K/\O 12=aX K (fun i=>ρ i)/\O 13=.int .i64 K/\O 14=.int .i64 j/\∃g',eQ 59 50 2 St.none S' bc g' K N j (fun a i=>.big (A i (ρ a)))) (fun O S=>K-bT (O 14)) ?_ ?_
 ·simp -dsimp only[go_sem,aV,bA,aX];exact⟨0,om,rfl,fun _=>0,eQ.init fc (fun _ _=>rfl) _ _⟩
 ·rintro O S' ⟨j,L,n,o,b,d,f,g',h⟩;by_cases g:j<K
  ·obtain⟨x,t,u⟩:=id h.outer;simp -dsimp only[go_sem,aa,n,o,b,d,f,g,aV,bA,aX]
   repeat refine an ?_
   refine au.intro fun bd fd=>?_;have v:bc≠bd:=aR.fresh h.outer fd;simp -dsimp only[go_sem,g,t,v];have p:=h.push dc fd t (fun _=>.big 0)
   generalize w:(fun a=>if a=j then bd else g' a)=gg at p
   refine aI (fun O S'=>∃i:Nat,i<=N/\O 0=aV N m A/\O 5=.sl 1 bc 0 K/\O 6=.int .i64 j/\O 7=.int .i64 (ρ j)/\O 12=aX K (fun i=>ρ i)/\O 13=.int .i64 K/\O 14=.int .i64 j/\O 26=.int .i64 N/\O 27=.int .i64 i/\eQ 59 50 2 St.none S' bc gg K N (j+1) (fun a c=>.big (if a=j/\i<=c then 0 else A c (ρ a)))) (fun O S=>N-bT (O 27)) ?_ ?_
   ·simp -dsimp only[go_sem,n,o,b,d,f,aV,bA,aX];refine⟨0,om,rfl,p.congr fun a c _ _=>?_⟩
    by_cases e:a=j
    ·simp[e]
    ·simp[e]
   ·clear n o b d f h p t u w;rintro O S' ⟨i,M,n,o,D,E,b,d,f,q,s,h⟩;by_cases l:i<N
    ·obtain⟨x,t,u⟩:=id h.outer;obtain⟨P,y,Q⟩:=id (h.row j om);have F:x j=.sl 2 (gg j) 0 N:=(u j g).trans (if_pos om);have z:=hρ j g;simp -dsimp only[go_sem,n,o,b,d,f,q,s,l,aV,bA,aX];refine aP 14 kr ?_
     simp -dsimp only[go_sem,aa,n,o,D,E,b,d,f,q,s,g,l,t,F,y,aV,bA,z,aX,aM (om:i<1000000),bT]
     refine⟨_,(qK (C i (ρ j) l z) om).pure',trivial,⟨i+1,om,rfl,(h.put dc (om:j<j+1) y i (.big (A i (ρ j)))).congr fun a c _ _=>?_⟩,om⟩
     by_cases e:a=j/\c=i
     ·obtain⟨rfl,rfl⟩:=e;rw[if_pos ⟨rfl,rfl⟩,if_neg om]
     ·rw[if_neg e];congr 1;by_cases B:a=j/\i<=c
      ·rw[if_pos B,if_pos om]
      ·rw[if_neg B,if_neg om]
    ·simp -dsimp only[go_sem,n,o,b,d,f,q,s,l,aM (om:j<1000000),bT]
     exact⟨⟨j+1,om,rfl,rfl,rfl,gg,h.congr fun a c _ R=>by rw[if_neg om]⟩,om⟩
  ·obtain rfl:j=K:=om
   have G:=h.mat (A:=fun i j=>A j (ρ i)) (fun _ _ _ _=>rfl);simp -dsimp only[go_sem,aa,n,o,b,d,f,g];exact⟨bc,rfl,g',G.1⟩

theorem lw{a b:Int}(d:nb a k)(f:nb b k)(n:k<=8000000000)(g:b≠0):PF 82 [.big a,.big b] (.tup [.big (a/b),.big (a%b),.bool true]):=by
 intro w vs c
 match vs,c with
 | [va,vb],c =>
  simp only[a6,bB]at c;refine(EI va vb a b w.heap.size w (Nat.le_refl _) c.1 c.2.1 (d.nl om) (f.nl om) g).mono ?_;rintro e w' ⟨h,i,rfl,j,l,m⟩;exact⟨_,rfl,by simp only[bB];exact⟨[h,i,.bool true],rfl,by simp only[a6,bB];exact⟨j,l,trivial,trivial⟩⟩,cG.below m⟩
 | [],c=>simp[a6]at c
 | [_],c=>simp[a6]at c
 | _::_::_::_,c=>simp[a6]at c

theorem rH(a b:Int)(k:Nat)(c:nb a k)(d:nb b k)(l:k<=10000000)(m:b≠0):PF 247 [.big a,.big b] (.big ((a+a+b)/(b+b))):=by
 refine PF.of_spec (ak func247 rfl 22 ntmps247 kr sm (by simp[results247]) ?_)
 rw[aF,results247];simp -dsimp only[go_sem];refine au.intro fun n o=>?_
 try simp -dsimp only[go_sem]
 refine au.intro fun p h=>?_;have n3_2:=(ag h).1
 try simp -dsimp only[go_sem]
 refine au.intro fun q g=>?_;have n4_3:=(ag g).1;have n4_2:=(ag (ag g).2).1;simp -dsimp only[go_sem];refine iw 15 [[11,12],[12],[]] kr ?_
 simp -dsimp only[go_sem,aa,ai n3_2,ai n4_2,ai n4_3];have i:nb (a+a+b) (k+2):=(c.add c).add (d.mono om);have j:nb (b+b) (k+2):=(d.add d).mono om;refine⟨_,(lC c c om).pure',_,(lC (c.add c) (d.mono (k:=k) om) om).pure',_,(lC d d om).pure',_,(lw i j om om).pure',?_⟩;simp -dsimp only[go_sem];refine au.intro fun r f=>?_;have n5_4:=(ag f).1;have n5_3:=(ag (ag f).2).1;have n5_2:=(ag (ag (ag f).2).2).1
 try simp -dsimp only[go_sem]
 refine au.intro fun s e=>?_;have n6_5:=(ag e).1;have n6_4:=(ag (ag e).2).1;have n6_3:=(ag (ag (ag e).2).2).1;have n6_2:=(ag (ag (ag (ag e).2).2).2).1;simp -dsimp only[go_sem,nn n6_5,ai n5_4,ai n6_4,aL];exact VR.mf rfl
theorem CP(a b c d v:Int)(k:Nat)(i:nb a k)(j:nb b k)(l:nb c k)(m:nb d k)(p:nb v k)(t:k<=10000000)(q:v≠0):PF 246 [.big a,.big b,.big c,.big d,.big v] (.big ((a*d-b*c)/v)):=by
 refine PF.of_spec (ak func246 rfl 28 ntmps246 kr sm (by simp[results246]) ?_)
 rw[aF,results246];simp -dsimp only[go_sem];refine au.intro fun u w=>?_
 try simp -dsimp only[go_sem]
 refine au.intro fun x r=>?_;have n3_2:=(ag r).1
 try simp -dsimp only[go_sem]
 refine au.intro fun y o=>?_;have n4_3:=(ag o).1;have n4_2:=(ag (ag o).2).1
 try simp -dsimp only[go_sem]
 refine au.intro fun z n=>?_;have n5_4:=(ag n).1;have n5_3:=(ag (ag n).2).1;have n5_2:=(ag (ag (ag n).2).2).1
 try simp -dsimp only[go_sem]
 refine au.intro fun A h=>?_;have n6_5:=(ag h).1;have n6_4:=(ag (ag h).2).1;have n6_3:=(ag (ag (ag h).2).2).1;have n6_2:=(ag (ag (ag (ag h).2).2).2).1
 try simp -dsimp only[go_sem]
 refine au.intro fun B g=>?_;have n7_6:=(ag g).1;have n7_5:=(ag (ag g).2).1;have n7_4:=(ag (ag (ag g).2).2).1;have n7_3:=(ag (ag (ag (ag g).2).2).2).1;have n7_2:=(ag (ag (ag (ag (ag g).2).2).2).2).1;simp -dsimp only[go_sem];refine iw 15 [[11,12],[12],[]] kr ?_
 simp -dsimp only[go_sem,aa,ai n3_2,ai n4_2,ai n4_3,ai n5_2,ai n5_3,ai n5_4,ai n6_2,ai n6_3,ai n6_4,ai n6_5,ai n7_2,ai n7_3,ai n7_4,ai n7_5,ai n7_6];have s:nb (a*d-b*c) (k+k+1):=(i.mul m).sub (j.mul l);refine⟨_,(fV i m om).pure',_,(fV j l om).pure',_,(me (i.mul m) (j.mul l) om).pure',_,(lw s (p.mono om) om q).pure',?_⟩;simp -dsimp only[go_sem];refine au.intro fun C f=>?_;have n8_7:=(ag f).1;have n8_6:=(ag (ag f).2).1;have n8_5:=(ag (ag (ag f).2).2).1;have n8_4:=(ag (ag (ag (ag f).2).2).2).1;have n8_3:=(ag (ag (ag (ag (ag f).2).2).2).2).1;have n8_2:=(ag (ag (ag (ag (ag (ag f).2).2).2).2).2).1
 try simp -dsimp only[go_sem]
 refine au.intro fun D e=>?_;have n9_8:=(ag e).1;have n9_7:=(ag (ag e).2).1;have n9_6:=(ag (ag (ag e).2).2).1;have n9_5:=(ag (ag (ag (ag e).2).2).2).1;have n9_4:=(ag (ag (ag (ag (ag e).2).2).2).2).1;have n9_3:=(ag (ag (ag (ag (ag (ag e).2).2).2).2).2).1;have n9_2:=(ag (ag (ag (ag (ag (ag (ag e).2).2).2).2).2).2).1;simp -dsimp only[go_sem,nn n9_8,ai n8_7,ai n9_7,aL];exact VR.mf rfl
theorem xF:dw 195=ae:=by unfold dw;simp
theorem lz(f g x y:Int)(k:Nat)(b:nb f k)(c:nb g k)(d:nb x k)(e:nb y k)(j:k<=10000000):PF 249 [.agg [.big f,.big g],.big x,.big y] (.big (f*x+g*y)):=by
 refine PF.of_spec (ak func249 rfl 16 ntmps249 kr sm (by simp[results249]) ?_)
 rw[aF,results249];simp -dsimp only[go_sem,aO,aG,false_implies,implies_true];refine au.intro fun l m=>?_
 try simp -dsimp only[go_sem]
 refine au.intro fun n i=>?_;have n4_3:=(ag i).1
 try simp -dsimp only[go_sem]
 refine au.intro fun o h=>?_;have n5_4:=(ag h).1;have n5_3:=(ag (ag h).2).1
 try simp -dsimp only[go_sem]
 refine au.intro fun p a=>?_;have n6_5:=(ag a).1;have n6_4:=(ag (ag a).2).1;have n6_3:=(ag (ag (ag a).2).2).1;simp -dsimp only[go_sem];refine aP 9 kr ?_
 simp -dsimp only[go_sem,aa,ai n4_3,ai n5_3,ai n5_4,ai n6_3,ai n6_4,ai n6_5,xF,Int.toNat_zero,Int.toNat_one,aL,List.getD_cons_zero,List.getD_cons_succ]
 repeat refine an ?_
 refine⟨_,(fV b d om).pure',om,_,(fV c e om).pure',_,(lC (b.mul d) (c.mul e) om).pure',?_⟩
 simp -dsimp only[go_sem];exact VR.mf rfl
theorem M1(n:Nat)(A:aB)(i j k:Nat)(a:i<n)(b:j<n)(c:nb (A i j) k)(d:k<=1000000):PF 244 [.int .i64 i,.int .i64 j,.pat 1 (aV n n A)] (.big (A i j)):=by
 refine PF.of_spec (ak func244 rfl 14 ntmps244 kr sm (by simp[results244]) ?_)
 rw[aF,results244];simp -dsimp only[go_sem];refine au.intro fun bc fc=>?_
 try simp -dsimp only[go_sem,aV,bA,a,b]
 refine(qK c om).call ?_;simp -dsimp only[go_sem,aa];exact VR.mf rfl
theorem M0(n:Nat)(A:aB)(v:Int)(i j k:Nat)(e:i+1<n)(f:j+1<n)(o:n<=16)(d:∀a b,a<n->b<n->nb (A a b) k)(g:nb v k)(p:k<=1000000)(h:v≠0):PF 245 [.int .i64 i,.int .i64 j,.pat 1 (aV n n A),.pat 2 (.big v)] (.big ((A 0 0*A (i+1) (j+1)-A (i+1) 0*A 0 (j+1))/v)):=by
 refine PF.of_spec (ak func245 rfl 37 ntmps245 kr sm (by simp[results245]) ?_)
 rw[aF,results245];have c:0<n:=om
 have l:=aM (om:i<1000000)
 have m:=aM (om:j<1000000)
 simp -dsimp only[go_sem];refine au.intro fun bc fc=>?_
 try simp -dsimp only[go_sem,aV,bA]
 refine aP 30 kr ?_
 simp -dsimp only[go_sem,aa,e,f,l,m]
 repeat refine an ?_
 refine⟨_,(CP (A 0 0) (A (i+1) 0) (A 0 (j+1)) (A (i+1) (j+1)) v k (d _ _ c c) (d _ _ e c) (d _ _ c f) (d _ _ e f) g om h).pure',?_⟩;simp -dsimp only[go_sem];exact VR.mf rfl
theorem Kj(a:i<n)(b:j<m):i*m+j<n*m:=by
 have:=ay m (show i+1<=n from a);rw[ck]at this;omega
theorem sJ(a:j<m):(i*m+j)/m=i/\(i*m+j)%m=j:=by
 rw[av];exact⟨by rw[Nat.mul_add_div om,Nat.div_eq_of_lt a];rfl,by rw[Nat.mul_add_mod,Nat.mod_eq_of_lt a]⟩
theorem Ds{x y:Nat}{K:AV->Prop}(a:y=x+m)(d:1<=m)(c:y<=N)(h:K (.sl 2 b x m)):kQ 59 (.sl 2 b 0 N) (some (.int .i64 (x:Int))) (some (.int .i64 (y:Int))) (some (.int .i64 (y:Int))) K:=by
 subst a;refine⟨rfl,x,x+m,rfl,rfl,⟨om,om,rfl⟩,om,c,?_⟩
 show K (if x=0∨x<x+m then AV.sl 2 b (0+x) (x+m-x)else AV.lst 2 0 fun _=>AV.any)
 rw[if_pos om,aJ,Nat.add_sub_cancel_left];exact h
structure ko(S:St)(b e n m:Nat)(A:aB):Prop where
 outer:aR S b 59 1 n (fun a=>.sl 2 e (a*m) m)
 inner:∃g,S e=some ⟨50,2,n*m,g⟩/\∀a c,a<n->c<m->g (a*m+c)=.big (A a c)
theorem ko.row(h:ko S b e n m A){a:Nat}(c:a<n):a*m+m<=n*m:=by
 have:=ay m (show a+1<=n from c)
 rwa [ck]at this
theorem ko.vr(h:ko S b e n m A):VR S (.sl 1 b 0 n) (aV n m A):=by
 obtain⟨g,f,i⟩:=h.inner;exact VR.sl h.outer om fun a d=>by
  rw[aJ];exact VR.sl (aR.of f) (h.row d) fun c j=>by rw[i a c d j];exact VR.mf rfl
theorem ko.ext(h:ko S b e n m A)(a:cY S S'):ko S' b e n m A:=by
 obtain⟨g,c,d⟩:=h.inner;exact⟨a.has h.outer,g,a _ _ c,d⟩
theorem ko.via(h:ko S b e n m A)(a:∀X,S b=some X->S' b=some X)(c:∀X,S e=some X->S' e=some X):ko S' b e n m A:=by
 obtain⟨g,d,f⟩:=h.inner;obtain⟨g',i,j⟩:=h.outer;exact⟨⟨g',a _ i,j⟩,g,c _ d,f⟩
def FMF(f:Nat)(args:List AV)(n m:Nat)(A:aB):Prop:=∀S args',dT S args' args->cL f args' S (fun r S'=>∃b e,r=.sl 1 b 0 n/\ko S' b e n m A/\cY S S'/\S b=ae/\S e=ae)
theorem ko.only(h:ko S b e n m A)(l:∀g,S e=some ⟨50,2,n*m,g⟩->∀j,j<n*m->qd (g j)=true):ko (cZ S b (fun _=>e) 1) b e n m A/\yz (cZ S b (fun _=>e) 1):=by
 obtain⟨g,d,o⟩:=h.inner;obtain⟨g',f,i⟩:=h.outer;have p:cZ S b (fun _=>e) 1 b=S b:=by unfold cZ;rw[if_pos rfl]
 have q:cZ S b (fun _=>e) 1 e=S e:=by
  unfold cZ;split
  ·rfl
  ·rw[if_pos ⟨0,om,rfl⟩]
 refine⟨⟨⟨g',by rw[p];exact f,i⟩,g,by rw[q];exact d,o⟩,fun c X a j k=>?_⟩
 unfold cZ at a;split at a
 ·rename_i ec;subst ec;rw[a]at f;cases f;show qd (g' j)=true;rw[i j k];rfl
 ·split at a
  ·rename_i ec;obtain⟨_,_,rfl⟩:=ec;rw[a]at d;cases d;exact l g a j k
  ·cases a
theorem FMF.of(h:cL f args St.none (fun r S'=>∃b e,r=.sl 1 b 0 n/\ko S' b e n m A/\∀g,S' e=some ⟨50,2,n*m,g⟩->∀j,j<n*m->qd (g j)=true)):FMF f args n m A:=fun S args' k=>by
 have c:cL f args St.none (fun r S'=>∃b e,r=.sl 1 b 0 n/\ko S' b e n m A/\yz S'):=h.less fun r S' ⟨b,e,er,a,i⟩=>⟨cZ S' b (fun _=>e) 1,fU S' b _ 1,b,e,er,(a.only i).1,(a.only i).2⟩;refine(c.frame k ?_).mono ?_
 ·rintro r S1 ⟨b,e,rfl,_,l⟩;exact⟨rfl,l⟩
 ·rintro r S' ⟨S1,⟨b,e,rfl,a,_⟩,d,rfl⟩;obtain⟨g,c,o⟩:=a.inner;exact⟨b,e,rfl,⟨(a.outer.join d).1,g,(oY d c).1,o⟩,lU S S1,(a.outer.join d).2,(oY d c).2⟩
theorem wG(n m F:Nat)(l:List AV)(A:aB)(hF:11<=F/\F<252)(N:1<=n)(V:n<=16)(W:1<=m)(X:m<=16)(Y:∀i j:Nat,i<n->j<m->PF F ([.int .i64 i,.int .i64 j]++l) (.big (A i j))):FMF 243 [.int .i64 n,.int .i64 m,.fn F l] n m A:=by
 have Z:n*m<=256:=Nat.mul_le_mul V X;have wnm:IntKind.i64.wrap ((n:Int)*m)=((n*m:Nat):Int):=by rw[bO];exact i64_in (by rw[<-bO];omega) (by rw[<-bO];omega)
 refine FMF.of (ak func243 rfl 59 ntmps243 kr sm (by simp[results243]) ?_)
 rw[aF,results243];simp -dsimp only[go_sem,wnm]
 repeat refine an ?_
 refine au.intro fun be fe=>?_
 repeat refine an ?_
 refine au.intro fun bc fc=>?_;have nc_e:=(ag fc).1;simp -dsimp only[go_sem,eN];have w:bc≠be:=nc_e;refine aI (fun O S'=>∃(i:Nat) (z B:Nat->AV),i<=n/\O 1=.int .i64 m/\O 2=.fn F l/\O 7=.sl 2 be 0 (n*m)/\O 8=.sl 1 bc 0 n/\O 18=.int .i64 n/\O 19=.int .i64 i/\S' bc=some ⟨59,1,n,z⟩/\(∀a,a<i->z a=.sl 2 be (a*m) m)/\S' be=some ⟨50,2,n*m,B⟩/\(∀a b,a<i->b<m->B (a*m+b)=.big (A a b))) (fun O S=>n-bT (O 19)) ?_ ?_
 ·simp -dsimp only[go_sem,ai nc_e];exact⟨0,om,rfl,_,rfl,fun a x=>om,_,rfl,fun a b x=>om⟩
 ·rintro O S' ⟨i,z,B,hi,o,u,p,q,c,d,H,I,C,D⟩;by_cases f:i<n
  ·have J:i*m+m<=n*m:=by
    have:=ay m (show i+1<=n from f)
    rwa [ck]at this
   have w1:IntKind.i64.wrap ((i:Int)*m)=((i*m:Nat):Int):=by rw[bO];exact i64_in (by rw[<-bO];omega) (by rw[<-bO];omega)
   have P:=aM (om:i<1000000)
   have Q:IntKind.i64.wrap (((i+1:Nat):Int)*m)=((i*m+m:Nat):Int):=by
    rw[<-bO,ck];exact i64_in om om
   simp -dsimp only[go_sem,aa,o,p,q,c,d,f,H,w1,P,Q,Option.map_some];refine Ds rfl W J ?_;simp -dsimp only[go_sem,dr];refine aI (fun O S'=>∃(j:Nat) (K E:Nat->AV),j<=m/\O 1=.int .i64 m/\O 2=.fn F l/\O 7=.sl 2 be 0 (n*m)/\O 8=.sl 1 bc 0 n/\O 9=.int .i64 i/\O 18=.int .i64 n/\O 19=.int .i64 i/\O 42=.int .i64 m/\O 43=.int .i64 j/\S' bc=some ⟨59,1,n,K⟩/\(∀a,a<i+1->K a=.sl 2 be (a*m) m)/\S' be=some ⟨50,2,n*m,E⟩/\(∀a b,a<i->b<m->E (a*m+b)=.big (A a b))/\(∀b,b<j->E (i*m+b)=.big (A i b))) (fun O S=>m-bT (O 43)) ?_ ?_
   ·simp -dsimp only[go_sem,o,u,p,q,c,d,C,ai w];refine⟨0,om,rfl,_,rfl,fun a x=>?_,_,rfl,D,fun b v=>om⟩
    by_cases e:a=i
    ·subst e;simp[aL]
    ·simp only[aL,e,if_false];exact I a om
   ·clear o u p q c d H I C D P Q;rintro O S' ⟨j,K,E,hj,o,u,p,q,e9,c,d,r,s,G,L,M,R,T⟩;by_cases k:j<m
    ·have x6:=L i om;simp -dsimp only[go_sem,o,u,p,q,c,d,r,s,k,G,M];refine aP 10 kr ?_
     simp -dsimp only[go_sem,aa,o,u,p,q,e9,c,d,r,s,f,k,G,x6,M,aM (om:j<1000000),bT]
     repeat refine an ?_
     refine⟨_,(Y i j f k).pure',Kj f k,trivial,⟨j+1,om,rfl,_,(aH w).trans G,L,_,rfl,fun a b x v=>?_,fun b v=>?_⟩,om⟩
     ·have:a*m+b≠i*m+j:=fun h=>by
       have N:=(sJ (i:=a) v).1;rw[h,(sJ (i:=i) k).1]at N;omega
      simp only[aL,this,if_false];exact R a b x v
     ·by_cases e:b=j
      ·subst e;simp[aL]
      ·have:i*m+b≠i*m+j:=om
       simp only[aL,this,if_false];exact T b om
    ·simp -dsimp only[go_sem,o,u,p,q,c,d,r,s,k,aM (om:i<1000000),bT]
     refine⟨⟨i+1,om,rfl,_,G,L,_,M,fun a b x v=>?_⟩,om⟩
     by_cases e:a=i
     ·subst e;exact T b om
     ·exact R a b om v
  ·obtain rfl:i=n:=om
   simp -dsimp only[go_sem,aa,o,p,q,c,d,f];refine⟨bc,rfl,be,⟨⟨z,H,I⟩,B,C,D⟩,fun g U t ht=>?_⟩;rw[C]at U;cases U;have y:0<m:=om
   have e:=D (t/m) (t%m) (by rw[Nat.div_lt_iff_lt_mul y];exact ht) (dp _ y)
   rw[av (t/m) m,Nat.div_add_mod]at e;rw[e];rfl

theorem pI{m:Int}(a:1<=m)(i j:Nat):0<=kW A m i j/\kW A m i j<m:=⟨Int.emod_nonneg _ om,Int.emod_lt_of_pos _ om⟩
theorem GO(n K l:Nat)(A B:aB)(m:Int)(o:1<=n)(d:n<=16)(e:1<=K)(b:K<=16)(p:1<=l)(f:l<=16)(q:2<=m)(a:m<=2147483647):Db 181 [ax n K A,ax K l B,.int .i64 m] n l (jZ (kW A m) (kW B m) K m):=by
 refine Db.of ?_;refine ak func181 rfl 39 ntmps181 kr sm (by simp[results181]) ?_
 rw[aF,results181];have r:0<n:=om
 have g:(0:Int)<(n:Int):=om
 simp -dsimp only[go_sem,aa];refine(r8 n K A o d e b).call ?_;simp -dsimp only[go_sem,aa];refine(r8 K l B e b p f).call ?_;simp -dsimp only[go_sem,aa,ax,aX,g,show((K:Int) != K)=false by simp]
 refine(kq m q a).call ?_;simp -dsimp only[go_sem,aa];refine(lR n K A m d b om a _ _ (cD _ _)).mono ?_;rintro _ S1 ⟨u,v,rfl,h⟩;simp -dsimp only[go_sem,aa];refine(lR K l B m b f om a _ _ (cD _ _)).mono ?_;rintro _ S2 ⟨w,x,rfl,c⟩;simp -dsimp only[go_sem,aa];refine(DD n K l (kW A m) (kW B m) m d e b f om a (fun i j _ _=>pI om i j) (fun i j _ _=>pI om i j) _ _ (dT.imat (h.1.ext c.2.1) (dT.imat c.1 (cD _ _)))).mono ?_;rintro _ S3 ⟨s,t,rfl,k⟩;simp -dsimp only[go_sem];exact⟨s,rfl,t,k.1⟩
theorem JK(n:Nat)(v:Nat->Int)(c:1<=n):PF 183 [aX n v] (.bool (v 0 != 0)):=by
 refine PF.of_spec (ak func183 rfl 7 ntmps183 kr sm (by simp[results183]) ?_)
 rw[aF,results183];have b:0<n:=om
 have a:(0:Int)<(n:Int):=om
 simp -dsimp only[go_sem,aX,a];exact VR.mf rfl
theorem BH(n m piv:Nat)(A:aB)(k:n<=16)(g:1<=m)(l:piv<n)(h:A piv 0≠0)(j:∀i,i<piv->A i 0=0):PF 182 [ax n m A,.fn 183 []] (.int .i64 piv):=by
 refine PF.of_spec (ak func182 rfl 19 ntmps182 kr sm (by simp[results182]) ?_)
 rw[aF,results182];simp -dsimp only[go_sem,ax,aX];refine aI (fun O S=>∃i:Nat,i<=piv/\O 0=ax n m A/\O 1=.fn 183 []/\O 7=.int .i64 n/\O 8=.int .i64 i) (fun O S=>n-bT (O 8)) ?_ ?_
 ·simp -dsimp only[go_sem,ax,aX];exact⟨0,om,rfl⟩
 ·rintro O S ⟨i,o,a,b,c,d⟩;have f:i<n:=om
  simp -dsimp only[go_sem,aa,ax,aX,a,b,c,d,f];refine(JK m (A i) g).call ?_;by_cases e:i=piv
  ·subst e;simp -dsimp only[go_sem,ax,aX,a,b,c,d,show(A i 0 != 0)=true by simp[h]]
   exact VR.mf rfl
  ·simp -dsimp only[go_sem,ax,aX,a,b,c,d,show(A i 0 != 0)=false by simp[j i om],aM (om:i<1000000),bT]
   exact⟨⟨i+1,om,rfl⟩,om⟩

end Go.Proofs.YtdobfmlmenaajaaGreatDoor
