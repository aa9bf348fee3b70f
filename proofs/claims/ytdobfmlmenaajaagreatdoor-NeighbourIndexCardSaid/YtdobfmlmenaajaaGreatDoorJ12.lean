/-
  Lemmas for NeighbourIndex.
-/
import Derived.Test.YtdobfmlmenaajaaGreatDoorJ11
namespace Go.Proofs.YtdobfmlmenaajaaGreatDoor
open Go.RowKit Tryz
open _root_.Int renaming emod_lt_of_pos→aV,emod_nonneg→aY,mul_ediv_cancel_left→cV,toNat_of_nonneg→gX,mul_neg→qq
open _root_.Nat renaming le_refl→ah,lt_or_ge→aI
open _root_.Or renaming inr→bH
set_option maxHeartbeats 6400000
set_option maxRecDepth 4096
set_option linter.all false
theorem TL.M_le{N:Nat}{L:iG->Prop}{d M:Nat->Int}(h:TL N L d M):∀i,i<=N->M i<=M 0
 | 0,_=>Int.le_refl _
 | i+1,hi=>by
  have h1:=h.M_le i om;have h2:=h.step i om;have h3:=h.pos i om;have h4:=h.M_pos N (i+1) om hi;have h5:1*M (i+1)<=d i*M (i+1):=Int.mul_le_mul_of_nonneg_right om om;omega
theorem TL.d_le{N:Nat}{L:iG->Prop}{d M:Nat->Int}(h:TL N L d M){i:Nat}(hi:i<N):d i<=M 0:=by
 have h1:=h.M_le i om;have h2:=h.step i hi;have h3:=h.pos i hi;have h4:=h.M_pos N (i+1) om om;have h5:d i*1<=d i*M (i+1):=Int.mul_le_mul_of_nonneg_left om om;omega
theorem HI.rng{N:Nat}{L:iG->Prop}{d M:Nat->Int}(hL:TL N L d M){i:Nat}{C:Nat->iG}(h:HI N L d M i C)(hi:i<=N)(hr:∀c r,c<N->i<=r->r<N->0<=C c r/\C c r<M i){c r:Nat}(hc:c<N)(hrN:r<N):0<=C c r/\C c r<=M 0:=by
 have hM:=hL.M_le i hi;rcases aI r i with h1|h1
 ·rcases aI c i with h2|h2
  ·obtain⟨k1,k2,k3⟩:=h.done c h2;rcases Nat.lt_trichotomy r c with h3|h3|h3
   ·rw[k1 r h3];have:=hL.M_pos N 0 om om;omega
   ·rw[h3,k2];have:=hL.pos c om;have:=hL.d_le (i:=c) om;omega
   ·have:=k3 r h3 h1;have:=hL.d_le (i:=r) om;omega
  ·rw[h.zero c h2 hc r h1];have:=hL.M_pos N 0 om om;omega
 ·have:=hr c r hc h1 hrN;omega
theorem rk(x M:Int):x%M=x+M*(-(x/M)):=by
 have:=Int.mul_ediv_add_emod x M;rw[qq];omega
theorem L7{N:Nat}{L:iG->Prop}{d M:Nat->Int}(hL:TL N L d M){i j:Nat}{C:aW}(h:HI N L d M i C)(hij:i<j)(hj:j<N)(hr:∀c r,c<N->i<=r->r<N->0<=C c r/\C c r<M i) :
  HI N L d M i (xI C i j (M i))/\(∀c r,c<N->i<=r->r<N->0<=xI C i j (M i) c r/\xI C i j (M i) c r<M i)/\xI C i j (M i) j i=0/\∀c r,c≠i->c≠j->xI C i j (M i) c r=C c r:=by
 have hiN:i<N:=om
 have hMp:=hL.M_pos N i om om;unfold xI;by_cases hz:C j i=0
 ·simp only[hz,if_true];exact⟨h,hr,trivial,fun _ _ _ _=>trivial⟩
 ·have ki:=hr i i hiN (ah _) hiN;have kj:=hr j i hj (ah _) hiN;have b1:=H7 (C j i).toNat (C i i).toNat (C j i).toNat (ah _);have b2:=H8 (C j i).toNat (C i i).toNat (C j i).toNat (ah _);have b3:=Dq (C j i).toNat (C i i).toNat (C j i).toNat (ah _) (bH om);rw[if_neg hz];generalize bz (C i i).toNat (C j i).toNat=D at *;rw[gX ki.1,gX kj.1]at b1 b2;obtain⟨x,hx⟩:=b2.1;obtain⟨y,hy⟩:=b2.2;have ex:C i i/D.1=x:=by rw[hx];exact cV _ om
  have ey:C j i/D.1=y:=by rw[hy];exact cV _ om
  rw[ex,ey];have hu:D.2.1*x+D.2.2*y=1:=by
   rw[hx,hy]at b1;refine Int.eq_of_mul_eq_mul_left (om:D.1≠0) ?_
   grind
  have h1:HI N L d M i (mX C i j D.2.1 D.2.2 x y):=h.comb hL hij hj hu (fun r _=>by simp[mX]) (fun r _=>by simp only[mX,(om:¬j=i),if_false,if_true];grind) (fun c r _ _ e1 e2=>by simp[mX,e1,e2])
  have hji:mX C i j D.2.1 D.2.2 x y j i=0:=by
   simp only[mX,(om:¬j=i),if_false,if_true];rw[hx,hy];grind
  have red:∀c r,CT (CT (mX C i j D.2.1 D.2.2 x y) i i (M i)) j i (M i) c r=if (c=i∨c=j)/\i<=r then mX C i j D.2.1 D.2.2 x y c r%M i else mX C i j D.2.1 D.2.2 x y c r:=by
   intro c r;unfold CT;by_cases e1:c=i
   ·have:¬c=j:=om
    by_cases e2:i<=r
    ·simp[e1,e2,(om:¬i=j)]
    ·simp[e2]
   ·by_cases e3:c=j
    ·by_cases e2:i<=r
     ·simp[e3,e2,(om:¬j=i)]
     ·simp[e2]
    ·simp[e1,e3]
  refine⟨h1.red hL om (fun c r=>if c=i∨c=j then -(mX C i j D.2.1 D.2.2 x y c r/M i)else 0) (fun c r hc hrN=>?_),fun c r hc hir hrN=>?_,?_,fun c r e1 e2=>?_⟩
  ·rw[red];by_cases e1:c=i∨c=j
   ·by_cases e2:i<=r
    ·rw[if_pos ⟨e1,e2⟩,if_pos e2];simp only[e1,if_true];exact rk _ _
    ·rw[if_neg (fun e=>e2 e.2),if_neg e2];omega
   ·rw[if_neg (fun e=>e1 e.1)];simp[e1]
  ·rw[red];by_cases e1:c=i∨c=j
   ·rw[if_pos ⟨e1,hir⟩];exact⟨aY _ om,aV _ hMp⟩
   ·rw[if_neg (fun e=>e1 e.1)];have:mX C i j D.2.1 D.2.2 x y c r=C c r:=by
     simp only[mX];rw[if_neg (fun e=>e1 (Or.inl e)),if_neg (fun e=>e1 (bH e))]
    rw[this];exact hr c r hc hir hrN
  ·rw[red,if_pos ⟨bH rfl,ah _⟩,hji];simp
  ·rw[red,if_neg (fun e=>by rcases e.1 with e|e<;>contradiction)]
   simp[mX,e1,e2]
theorem HI.first{N:Nat}{w:aW}{d M:Nat->Int}(hL:TL N (gK N N w) d M):HI N (gK N N w) d M 0 (fun c r=>w r c%M 0) :=
 HI.init.red hL om (fun c r=>-(w r c/M 0)) (fun c r _ _=>by simp only[Nat.zero_le,if_true];exact rk _ _)
def ny(C:aW)(i t:Nat)(p a:Int):aW:=fun c r=>if c=i then(if r=i then p else a*C i r)else if c<t then C c r-C c i/p*(if r=i then p else a*C i r)else C c r
theorem LH{N:Nat}{L:iG->Prop}{d M:Nat->Int}(hL:TL N L d M){i:Nat}{C:aW}(h:HI N L d M i C)(hi:i<N)(hc:∀j,i<j->j<N->C j i=0){p a b:Int}(hp:0<p)(h1:p=a*C i i+b*M i)(h2:p∣C i i)(h3:p∣M i) :
  HI N L d M (i+1) (ny C i i p a)/\M i/p=M (i+1):=by
 have hpd:=h.pivot_eq hL hi hc hp h1 h2 h3;refine⟨h.pivot hL hi hc hp h1 h2 h3 (fun c=>C c i/p) (fun r _=>by simp[ny]) (fun c r hci _=>?_) (fun c r hic _ _=>?_) (fun c hci=>?_),?_⟩
 ·simp only[ny,(om:¬c=i),hci,if_false,if_true]
 ·simp only[ny,(om:¬c=i),(om:¬c<i),if_false]
 ·simp only[ny,(om:¬c=i),hci,if_false,if_true]
  have:=rk (C c i) p;have e:C c i-C c i/p*p=C c i%p:=by rw[this,qq,Int.mul_comm];omega
  rw[e];exact⟨aY _ om,aV _ hp⟩
 ·rw[hL.step i hi,<-hpd];exact cV _ om
theorem LD{N:Nat}{L:iG->Prop}{d M:Nat->Int}(hL:TL N L d M){i:Nat}{C:aW}(h:HI N L d M i C)(hi:i<=N):HI N L d M i (fun c r=>if i<=r then C c r%M i else C c r) :=
 h.red hL hi (fun c r=>-(C c r/M i)) (fun c r _ _=>by
  by_cases e:i<=r
  ·rw[if_pos e,if_pos e];exact rk _ _
  ·rw[if_neg e,if_neg e];omega)
end Go.Proofs.YtdobfmlmenaajaaGreatDoor
