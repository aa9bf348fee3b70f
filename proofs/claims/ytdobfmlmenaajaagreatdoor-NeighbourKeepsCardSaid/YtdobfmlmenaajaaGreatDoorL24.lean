/-
  Lemmas for NeighbourKeeps.
-/
import Derived.Test.YtdobfmlmenaajaaGreatDoorL22
import Derived.Test.YtdobfmlmenaajaaGreatDoorL15
namespace Go.Proofs.YtdobfmlmenaajaaGreatDoor
open Go.RowKit Tryz
open _root_.Int renaming emod_lt_of_pos→aU,emod_nonneg→a9,mul_ediv_cancel_left→cc,le_trans→dq,toNat_of_nonneg→eM,mul_neg→oL
open _root_.Nat renaming le_refl→af,lt_or_ge→az,le_trans→bI
open _root_.Or renaming inr→aK
set_option maxHeartbeats 6400000
set_option maxRecDepth 4096
set_option linter.all false
variable{N e n:Nat}{M d:Nat->Int}{Q w:aB}{L:ik->Prop}
theorem TL.M_le(h:TL N L d M):∀i,i<=N->M i<=M 0
 | 0,_=>Int.le_refl _
 | i+1,a=>by
  have b:=h.M_le i om;have c:=h.step i om;have e:=h.pos i om;have f:=h.M_pos N (i+1) om a;have g:1*M (i+1)<=d i*M (i+1):=Int.mul_le_mul_of_nonneg_right om om;omega
theorem TL.d_le(h:TL N L d M){i:Nat}(a:i<N):d i<=M 0:=by
 have b:=h.M_le i om;have c:=h.step i a;have e:=h.pos i a;have f:=h.M_pos N (i+1) om om;have g:d i*1<=d i*M (i+1):=Int.mul_le_mul_of_nonneg_left om om;omega
theorem HI.rng(a:TL N L d M){i:Nat}{C:Nat->ik}(h:HI N L d M i C)(k:i<=N)(l:∀c r,c<N->i<=r->r<N->0<=C c r/\C c r<M i){c r:Nat}(j:c<N)(f:r<N):0<=C c r/\C c r<=M 0:=by
 have p:=a.M_le i k;rcases az r i with e|e
 ·rcases az c i with g|g
  ·obtain⟨m,n,o⟩:=h.done c g;rcases Nat.lt_trichotomy r c with b|b|b
   ·rw[m r b];have:=a.M_pos N 0 om om;omega
   ·rw[b,n];have:=a.pos c om;have:=a.d_le (i:=c) om;omega
   ·have:=o r b e;have:=a.d_le (i:=r) om;omega
  ·rw[h.zero c g j r e];have:=a.M_pos N 0 om om;omega
 ·have:=l c r j e f;omega
theorem sK(x M:Int):x%M=x+M*(-(x/M)):=by
 have:=Int.mul_ediv_add_emod x M;rw[oL];omega
theorem MC(m:TL N L d M){i j:Nat}{C:aB}(h:HI N L d M i C)(n:i<j)(u:j<N)(l:∀c r,c<N->i<=r->r<N->0<=C c r/\C c r<M i) :
  HI N L d M i (yS C i j (M i))/\(∀c r,c<N->i<=r->r<N->0<=yS C i j (M i) c r/\yS C i j (M i) c r<M i)/\yS C i j (M i) j i=0/\∀c r,c≠i->c≠j->yS C i j (M i) c r=C c r:=by
 have f:i<N:=om
 have o:=m.M_pos N i om om;unfold yS;by_cases v:C j i=0
 ·simp only[v,if_true];exact⟨h,l,trivial,fun _ _ _ _=>trivial⟩
 ·have ki:=l i i f (af _) f;have kj:=l j i u (af _) f;have w:=IR (C j i).toNat (C i i).toNat (C j i).toNat (af _);have p:=IS (C j i).toNat (C i i).toNat (C j i).toNat (af _);have F:=Ei (C j i).toNat (C i i).toNat (C j i).toNat (af _) (aK om);rw[if_neg v];generalize bz (C i i).toNat (C j i).toNat=D at *;rw[eM ki.1,eM kj.1]at w p;obtain⟨x,q⟩:=p.1;obtain⟨y,s⟩:=p.2;have ex:C i i/D.1=x:=by rw[q];exact cc _ om
  have ey:C j i/D.1=y:=by rw[s];exact cc _ om
  rw[ex,ey];have B:D.2.1*x+D.2.2*y=1:=by
   rw[q,s]at w;refine Int.eq_of_mul_eq_mul_left (om:D.1≠0) ?_
   grind
  have E:HI N L d M i (nO C i j D.2.1 D.2.2 x y):=h.comb m n u B (fun r _=>by simp[nO]) (fun r _=>by simp only[nO,(om:¬j=i),if_false,if_true];grind) (fun c r _ _ a b=>by simp[nO,a,b])
  have t:nO C i j D.2.1 D.2.2 x y j i=0:=by
   simp only[nO,(om:¬j=i),if_false,if_true];rw[q,s];grind
  have red:∀c r,DB (DB (nO C i j D.2.1 D.2.2 x y) i i (M i)) j i (M i) c r=if (c=i∨c=j)/\i<=r then nO C i j D.2.1 D.2.2 x y c r%M i else nO C i j D.2.1 D.2.2 x y c r:=by
   intro c r;unfold DB;by_cases a:c=i
   ·have:¬c=j:=om
    by_cases b:i<=r
    ·simp[a,b,(om:¬i=j)]
    ·simp[b]
   ·by_cases z:c=j
    ·by_cases b:i<=r
     ·simp[z,b,(om:¬j=i)]
     ·simp[b]
    ·simp[a,z]
  refine⟨E.red m om (fun c r=>if c=i∨c=j then -(nO C i j D.2.1 D.2.2 x y c r/M i)else 0) (fun c r A g=>?_),fun c r A k g=>?_,?_,fun c r a b=>?_⟩
  ·rw[red];by_cases a:c=i∨c=j
   ·by_cases b:i<=r
    ·rw[if_pos ⟨a,b⟩,if_pos b];simp only[a,if_true];exact sK _ _
    ·rw[if_neg (fun e=>b e.2),if_neg b];omega
   ·rw[if_neg (fun e=>a e.1)];simp[a]
  ·rw[red];by_cases a:c=i∨c=j
   ·rw[if_pos ⟨a,k⟩];exact⟨a9 _ om,aU _ o⟩
   ·rw[if_neg (fun e=>a e.1)];have:nO C i j D.2.1 D.2.2 x y c r=C c r:=by
     simp only[nO];rw[if_neg (fun e=>a (Or.inl e)),if_neg (fun e=>a (aK e))]
    rw[this];exact l c r A k g
  ·rw[red,if_pos ⟨aK rfl,af _⟩,t];simp
  ·rw[red,if_neg (fun e=>by rcases e.1 with e|e<;>contradiction)]
   simp[nO,a,b]
theorem HI.first(a:TL N (gO N N w) d M):HI N (gO N N w) d M 0 (fun c r=>w r c%M 0) :=
 HI.init.red a om (fun c r=>-(w r c/M 0)) (fun c r _ _=>by simp only[Nat.zero_le,if_true];exact sK _ _)
def oc(C:aB)(i t:Nat)(p a:Int):aB:=fun c r=>if c=i then(if r=i then p else a*C i r)else if c<t then C c r-C c i/p*(if r=i then p else a*C i r)else C c r
theorem Mc(g:TL N L d M){i:Nat}{C:aB}(h:HI N L d M i C)(k:i<N)(n:∀j,i<j->j<N->C j i=0){p a b:Int}(l:0<p)(o:p=a*C i i+b*M i)(q:p∣C i i)(s:p∣M i) :
  HI N L d M (i+1) (oc C i i p a)/\M i/p=M (i+1):=by
 have m:=h.pivot_eq g k n l o q s;refine⟨h.pivot g k n l o q s (fun c=>C c i/p) (fun r _=>by simp[oc]) (fun c r f _=>?_) (fun c r t _ _=>?_) (fun c f=>?_),?_⟩
 ·simp only[oc,(om:¬c=i),f,if_false,if_true]
 ·simp only[oc,(om:¬c=i),(om:¬c<i),if_false]
 ·simp only[oc,(om:¬c=i),f,if_false,if_true]
  have:=sK (C c i) p;have e:C c i-C c i/p*p=C c i%p:=by rw[this,oL,Int.mul_comm];omega
  rw[e];exact⟨a9 _ om,aU _ l⟩
 ·rw[g.step i k,<-m];exact cc _ om
theorem L7(a:TL N L d M){i:Nat}{C:aB}(h:HI N L d M i C)(b:i<=N):HI N L d M i (fun c r=>if i<=r then C c r%M i else C c r) :=
 h.red a b (fun c r=>-(C c r/M i)) (fun c r _ _=>by
  by_cases e:i<=r
  ·rw[if_pos e,if_pos e];exact sK _ _
  ·rw[if_neg e,if_neg e];omega)

theorem Cx(a:Nat):ma a=dC a:=by
 funext b;simp only[ma,dC];split<;>split<;>first|rfl|omega
theorem xA{a b:Nat}(d:a<n)(e:b<n):gT Q n ma a b=Q a b:=by
 unfold gT;rw[Cx,Cx,xS d,cp b e (fun i _ c=>by simp[dC,c])]
 simp[dC]
theorem Fw:∀n,det n (vf ma)=1
 | 0=>rfl
 | n+1=>by
  rw[qP _ (fun i _=>by simp[vf,ma])]
  have e:(fun i j=>vf ma (i+1) (j+1))=vf ma:=by
   funext i j;simp only[vf,ma];split<;>split<;>first|rfl|omega
  rw[e,Fw n];simp[vf,ma]
theorem oZ{k:Nat}(c:k<=n):det k (gT Q n ma)=det k Q:=aT fun a b d e=>xA om om
theorem vD.init{d:Nat}(f:Pd Q n)(m:1<=n)(o:∀i,i<n->Q i i<=2^e)(p:e*n<=d):vD Q n d 1 ma:=by
 have q:Pd (gT Q n ma) n:=⟨fun a b g h=>by rw[xA g h,xA h g];exact f.sym a b g h,fun k c=>by rw[oZ c];exact f.pos k c⟩
 have s:e<=d:=bI (Nat.le_mul_of_pos_right e m) p;refine⟨af _,m,⟨q,fun k c=>?_,by rw[Fw];rfl,fun i l=>?_⟩,⟨fun r t j w=>om,fun r x t=>om⟩,oZ (af n)⟩
 ·rw[oZ c];have u:=f.det_le o k c;have v:((2:Int)^e)^k<=2^d:=by
   rw[<-Int.pow_mul];exact dU (bI (Nat.mul_le_mul_left e c) p)
  exact dq u v
 ·rw[xA l l];exact dq (o i l) (dU om)
def lT(Q:aB)(n:Nat):aB:=Cs Q n (Jn Q n 1 ma) 1 ma
theorem Ic{d:Nat}(a:Pd Q n)(b:1<=n)(c:n<=8)(f:∀i,i<n->Q i i<=2^e)(g:e*n<=d):vD Q n d n (lT Q n) :=
 Fo a.sym c _ _ _ (vD.init a b f g) (af _)

end Go.Proofs.YtdobfmlmenaajaaGreatDoor
