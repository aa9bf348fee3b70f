/-
  Lemmas for NeighbourKeeps.
-/
import Derived.Test.YtdobfmlmenaajaaGreatDoorL06
namespace Go.Proofs.YtdobfmlmenaajaaGreatDoor
open Go.RowKit Tryz
open Lib renaming hid→ab
open _root_.Nat renaming le_refl→af,lt_or_ge→az,le_of_lt→cX
open Tryz renaming prog→ah
set_option maxHeartbeats 6400000
set_option maxRecDepth 4096
set_option linter.all false
theorem D8(A B:Option Addr)(n m c d L:Nat)(xs ys:List Nat)(w:World)(hn:n<=16777216)(hm:m<=16777216)(hL:L<=w.heap.size)(hx:cj w L A n xs)(hy:cj w L B m ys)(ty:nS ys)
  (h0:0<aY ys) (hb1:n<=2) (hb2:2<m):Calls ah 189 #[.slice A n c,.slice B m d] w (mt w (aY xs/aY ys) (aY xs%aY ys)):=by
 have HX:=ab hx;clear hx;have HY:=ab hy;clear hy;have HTY:=ab ty;clear ty;have H0:=ab h0;clear h0;have hmk:=AP n om;have hbi:(n:Int)<=2:=om
 have hbj:¬(m:Int)<=2:=om
 have hwr:IntKind.i64.wrap (32*(n:Int))=32*(n:Int):=vT om om
 go_enter func189,ntmps189
 go_wp2
 go_loopw [5,8] (fun rv iv wr=>∃(i Q R:Nat) (ps rs:List Nat) (A2:Option Addr) (k2 c2:Nat),i<=32*n/\iv=.int .i64 ((i:Int)-1)/\rv=.slice A2 k2 c2/\k2<=c2/\k2<=m/\Hid (gQ w wr ps)/\Hid (mp ps/\ps.length=n/\aY ps=Q*2^i)/\Hid (cj wr wr.heap.size A2 k2 rs/\nS rs/\aY rs=R)/\Hid (tA (aY xs) (aY ys) Q R i)) (fun _ iv _=>(intOf iv+1).toNat)
 case atStart =>
  refine⟨32*n,0,0,List.replicate n 0,[],none,0,0,om,?_,rfl,om,om,ab (gQ.start w n),ab ⟨?_,sm,?_⟩,ab ⟨Mj _ _ _,xe,rfl⟩,ab ⟨?_,H0.out⟩⟩
  ·go_num
  ·intro x hx;rw[List.eq_of_mem_replicate hx];omega
  ·rw[wl];omega
  ·rw[Nat.div_eq_of_lt]
   ·omega
   ·have h:=iL HX.out.2.1;rw[HX.out.1,wV]at h;exact h
 case round =>
  obtain⟨i,Q,R,ps,rs,A2,k2,c2,hi,rfl,rfl,hk2,hkm,HF,HP,HR,HD⟩:=hrel
  cases i with
  | zero =>
   have e0:((0:Nat):Int)-1=-1:=om
   rw[e0]
   go_wp2_with fail
   have hU:=cj.ofBlk HF.out.2 HP.out.1 HF.out.2.lt rfl;rw[HP.out.2.1]at hU;refine(fH _ _ _ _ _ _ (af _) om (af _) hU).mono ?_;rintro e w2 ⟨A3,k3,c3,zs,rfl,hk3,hU3,hT3,hv3,hb3⟩;have HU3:=ab hU3;clear hU3;have HT3:=ab hT3;clear hT3;have HV3:=ab hv3;clear hv3;have HB3:=ab hb3;clear hb3;clear hU;go_wp2;go_ret2;obtain⟨r1,r2,r3⟩:=HR.out;obtain⟨d1,d2⟩:=HD.out.done;exact⟨A3,k3,c3,zs,A2,k2,c2,rs,rfl,hk3,hk2,HU3.out,(r1.below HB3.out (af _)).more HB3.out.size,HT3.out,r2,by rw[HV3.out,HP.out.2.2,d1];simp,by rw[r3,d2],HF.out.1.trans (HB3.out.mono HF.out.1.size)⟩
  | succ i =>
   have e0:((i+1:Nat):Int)-1=(i:Int):=om
   rw[e0];obtain⟨ad,x,rfl,hab,hxx,hx4,hcx⟩:=(HX.out.below HF.out.1 hL).at_ (k:=i/32) om;have HXX:=ab hxx;clear hxx;have hi0:(0:Int)<=i:=om
   have hi32:(i:Int)/32<n:=om
   have hi33:(0:Int)<=(i:Int)/32:=om
   have hi34:((i:Int)/32).toNat=i/32:=om
   have hbit:bits .and .u32 ((x:Int)/2^(i%32)) 1=((aY xs/2^i%2:Nat):Int):=by
    have h:=u32_and_nat (x/2^(i%32)) 1 (Nat.lt_of_le_of_lt (Nat.div_le_self _ _) hx4) om;rw[Nat.and_one_is_mod,<-HXX.out,FA HX.out.2.1 i (by rw[HX.out.1];omega)]at h
    rw[<-h,<-HXX.out];simp
   have hb1:aY xs/2^i%2<=1:=om
   generalize hbb:aY xs/2^i%2=b at hbit hb1;have HBB:=ab hbb;clear hbb;have HBIT:=ab hbit;clear hbit
   go_wp2_with fail
   rw[HBIT.out];refine(xI A2 k2 c2 wr.heap.size b rs wr om (af _) HR.out.1 hb1).mono ?_;rintro e w1 ⟨A3,k3,c3,zs3,rfl,hc3,hk3,hU3,hv3,hb3⟩;have HU3:=ab hU3;clear hU3;have HV3:=ab hv3;clear hv3;have HB3:=ab (HF.out.1.trans (hb3.mono HF.out.1.size));have HF3:Hid (gQ w w1 ps):=ab ⟨HB3.out,HF.out.2.below hb3 HF.out.2.lt⟩;clear hb3
   go_wp2_with fail
   refine(fH A3 k3 c3 _ zs3 w1 hc3 om (af _) HU3.out).mono ?_;rintro e w2 ⟨A4,k4,c4,zs4,rfl,hc4,hU4,hT4,hv4,hb4⟩;have HF4:Hid (gQ w w2 ps):=ab ⟨HB3.out.trans (hb4.mono HB3.out.size),HF3.out.2.below hb4 HF3.out.2.lt⟩;have hk4:k4<=k2+1:=by
    rw[aE hU4 hT4,hv4];exact Nat.le_trans (jt.2 (by have:=iL HU3.out.2.1;rw[HU3.out.1]at this;exact this)) hk3
   have HU4:=ab hU4;clear hU4;have HT4:=ab hT4;clear hT4;have HV4:Hid (aY zs4=2*R+b):=ab (by rw[hv4,HV3.out,HR.out.2.2]);clear hv4 hb4 HU3 HV3 HB3 HF3 HBIT
   have hY2:cj w2 w2.heap.size B m ys:=(HY.out.below HF4.out.1 hL).more (by have:=HF4.out.1.size;omega)
   have HY2:=ab hY2;clear hY2;rcases az (2*R+b) (aY ys)with hlt|hge
   ·have hcm:kt (aY zs4) (aY ys)=-1:=by rw[HV4.out];exact kL hlt
    have HCM:=ab hcm;clear hcm;have HD2:=ab (HD.out.less (by rw[HBB.out];exact hlt))
    have hk5:k4<=m:=by
     rw[aE HU4.out HT4.out,aE HY.out HTY.out,HV4.out];exact fo (cX hlt)
    clear hlt
    go_wp2_with fail
    refine(lA A4 B k4 m c4 d w2.heap.size zs4 ys w2 om om HU4.out HY2.out HT4.out HTY.out).mono ?_;rintro e w5 ⟨rfl,hst⟩;rw[HCM.out];obtain⟨q,rfl⟩:=hst;go_wp2
    go_roundw
    case rel=>exact⟨i,2*Q,2*R+b,ps,zs4,A4,k4,c4,om,by go_num,rfl,hc4,hk5,ab ⟨HF4.out.1.trans ((dJ.refl w2).more q |>.below _),HF4.out.2⟩,ab ⟨HP.out.1,HP.out.2.1,by rw[HP.out.2.2,Nat.pow_succ];grind⟩,ab ⟨HU4.out,HT4.out,HV4.out⟩,ab (by have:=HD2.out;rw[HBB.out]at this;exact this)⟩
    case measure=>simp[intOf]
   ·have hcm:0<=kt (aY zs4) (aY ys):=by
     rw[HV4.out];rcases az (aY ys) (2*R+b)with h|h
     ·rw[jO h];omega
     ·rw[kM om];omega
    have hmk4:m<=k4:=by
     rw[aE HU4.out HT4.out,aE HY.out HTY.out,HV4.out];exact fo hge
    have HD2:Hid (tA (aY xs) (aY ys) (2*Q+1) (2*R+b-aY ys) i):=ab (by have:=HD.out.more (by rw[HBB.out];exact hge);rw[HBB.out]at this;exact this)
    have HGE:=ab hge;clear hge;generalize hcg:kt (aY zs4) (aY ys)=cm at hcm;have HCM:=ab hcg;clear hcg
    go_wp2_with fail
    refine(lA A4 B k4 m c4 d w2.heap.size zs4 ys w2 om om HU4.out HY2.out HT4.out HTY.out).mono ?_;rintro e w5 ⟨rfl,hst⟩;rw[HCM.out];obtain⟨q,rfl⟩:=hst;have HUq:Hid (cj (w2.drewN q) (w2.drewN q).heap.size A4 k4 zs4):=ab HU4.out;have HYq:Hid (cj (w2.drewN q) (w2.drewN q).heap.size B m ys):=ab HY2.out;have HFq:Hid (gQ w (w2.drewN q) ps):=ab ⟨HF4.out.1.trans ((dJ.refl w2).more q |>.below _),HF4.out.2⟩
    clear HF4 HY2 HF HR;generalize w2.drewN q=wq at HUq HYq HFq ⊢
    go_wp2_with fail
    refine(kJ A4 B k4 m c4 d wq.heap.size zs4 ys wq hmk4 om (af _) HUq.out HYq.out (by rw[HV4.out];exact HGE.out)).mono ?_
    rintro e w6 ⟨A6,k6,c6,zs6,rfl,hc6,hk6,hU6,hv6,hb6⟩;have HF6:Hid (gQ w w6 ps):=ab ⟨HFq.out.1.trans (hb6.mono HFq.out.1.size),HFq.out.2.below hb6 HFq.out.2.lt⟩;have HU6:=ab hU6;clear hU6;have HV6:=ab hv6;clear hv6 hb6 HFq HYq HUq
    go_wp2_with fail
    refine(wC A6 k6 c6 _ zs6 w6 hc6 om (af _) HU6.out).mono ?_;rintro e w7 ⟨A7,k7,c7,zs7,rfl,hc7,hU7,hT7,hv7,hb7,hN7⟩;have HN7:Hid (∀ad,A7=some ad->ad.block≠w.heap.size):=ab (fun ad h=>by have h1:=hN7 ad h;have h2:=HF6.out.2.lt;omega)
    clear hN7;have HF7:Hid (gQ w w7 ps):=ab ⟨HF6.out.1.trans (hb7.mono HF6.out.1.size),HF6.out.2.below hb7 HF6.out.2.lt⟩;have HV7:Hid (aY zs7=2*R+b-aY ys):=ab (by rw[hv7,HV6.out,HV4.out])
    have hk7:k7<=m:=by
     rw[aE hU7 hT7,aE HY.out HTY.out,HV7.out];exact fo (cX HD2.out.lt)
    have HU7:=ab hU7;clear hU7;have HT7:=ab hT7;clear hT7 hv7 hb7 HF6 HU6 HV6;obtain⟨s1,s2,s3⟩:=EX HP.out.1 (Q:=Q) (i:=i) (by rw[HP.out.2.1];omega) HP.out.2.2
    obtain⟨hcp,hfp⟩:=HF7.out.at_ (i/32) (by rw[HP.out.2.1];omega)
    have hp4:=HP.out.1.getD (i/32);generalize hpp:ps.getD (i/32) 0=p at hcp s1 s2 s3 hp4;clear hpp;have hor:bits .or .u32 (p:Int) (IntKind.u32.wrap (2^((i:Int)%32).toNat))=((p+2^(i%32):Nat):Int):=by
     have h1:((i:Int)%32).toNat=i%32:=om
     have h2:2^(i%32)<4294967296:=by
      have:2^(i%32)<2^32:=Nat.pow_lt_pow_right om om;simpa using this
     have h3:((2:Int)^(i%32))=((2^(i%32):Nat):Int):=by simp
     have h4:IntKind.u32.wrap ((2^(i%32):Nat):Int)=((2^(i%32):Nat):Int):=by rw[IntKind.wrap_u32];exact wg h2
     rw[h1,h3,h4,u32_or_nat _ _ hp4 h2,s1]
    have HOR:=ab hor;clear hor;have HS3:=ab s3;clear s3 s1;have HS2:=ab s2;clear s2;have hU7d:cj w7.drew w7.drew.heap.size A7 k7 zs7:=HU7.out;have HU7d:=ab hU7d;clear hU7d;have HF7d:Hid (gQ w w7.drew ps):=ab ⟨HF7.out.1.drew,HF7.out.2⟩;go_wp2;have ht1:(i:Int).tdiv 32=(i:Int)/32:=Int.tdiv_eq_ediv_of_nonneg hi0;have ht2:(i:Int).tmod 32=(i:Int)%32:=Int.tmod_eq_emod_of_nonneg hi0;have ht3:IntKind.i64.wrap ((i:Int)/32)=(i:Int)/32:=vT om om;have ht4:(0:Int)<=(i:Int)%32:=om
    go_still_tail 9,kr
    rw[HOR.out];change wpList _ _ _ _ _ w7.drew;clear ht1 ht2 ht3 ht4 HOR HU7 HF7;have hcp':w7.drew.cell? ⟨w.heap.size,i/32,none⟩=some (.int .u32 p):=hcp;have hfp':w7.drew.frozen? ⟨w.heap.size,i/32,none⟩=false:=hfp;clear hcp hfp;generalize w7.drew=w8 at hcp' hfp' HU7d HF7d ⊢;go_wp2
    go_roundw
    case rel =>
     have hF:=HF7d.out.put (i/32) (p+2^(i%32));refine⟨i,2*Q+1,2*R+b-aY ys,ps.set (i/32) (p+2^(i%32)),zs7,A7,k7,c7,om,by go_num,rfl,hc7,hk7,ab hF,ab ⟨HP.out.1.set _ HS2.out,by rw[List.length_set];exact HP.out.2.1,HS3.out⟩,ab ⟨?_,HT7.out,HV7.out⟩,HD2⟩
     exact wx HU7d.out HN7.out
    case measure=>simp[intOf]
theorem Ea(A B:Option Addr)(n m c d L:Nat)(xs ys:List Nat)(w:World)(f:n<=16777216)(g:m<=16777216)(h:L<=w.heap.size)(a:cj w L A n xs)(b:cj w L B m ys)(ty:nS ys)
  (e:0<aY ys):Calls ah 189 #[.slice A n c,.slice B m d] w (mt w (aY xs/aY ys) (aY xs%aY ys)):=by
 by_cases i:n<=2
 ·by_cases j:m<=2
  ·exact Be A B n m c d L xs ys w i j a b e
  ·exact D8 A B n m c d L xs ys w f g h a b ty e i om
 ·exact D9 A B n m c d L xs ys w f g h a b ty e om

end Go.Proofs.YtdobfmlmenaajaaGreatDoor
