/-
  Lemmas for NeighbourMembers.
-/
import Derived.Test.YtdobfmlmenaajaaGreatDoorN06
namespace Go.Proofs.YtdobfmlmenaajaaGreatDoor
open Go.RowKit
open _root_.Int renaming tmod_eq_emod_of_nonneg→aL,natCast_nonneg→dV,emod_eq_of_lt→d9,tdiv_eq_ediv_of_nonneg→gW
open Lib renaming hid→ag
open _root_.List renaming replicate→bL,eq_of_mem_replicate→fM
open _root_.Nat renaming le_refl→ah,lt_or_ge→aE,le_trans→bW,pow_le_pow_right→ca,pow_succ→cn,le_of_lt→dd,lt_of_le_of_lt→fH,div_le_self→je,div_eq_of_lt→jN
set_option maxHeartbeats 6400000
set_option maxRecDepth 4096
set_option linter.all false
theorem tj{a:Int}(h1:-9223372036854775808<=a)(h2:a<=9223372036854775807):IntKind.i64.wrap a=a:=IntWalk.i64_in a ⟨h1,h2⟩
theorem tQ:∀n,a9 (bL n 0)=0
 | 0=>rfl
 | n+1=>by simp[List.replicate_succ,a9,tQ n]
theorem tV{w:World}{A:Option Addr}{n g i:Nat}{xs:List Nat}{u:Value}(h:bX w w.heap.size A n xs)(hn:∀ad,A=some ad->ad.block≠g):bX (w.setCell ⟨g,i,none⟩ u) (w.setCell ⟨g,i,none⟩ u).heap.size A n xs:=by
 refine⟨h.1,h.2.1,fun h0=>?_⟩;obtain⟨ad,e,hl,hc⟩:=h.2.2 h0;refine⟨ad,e,by simpa using hl,fun j hj=>?_⟩
 rw[<-hc j hj];exact World.cell?_of_block (w:=w) (by rw[lv];exact Below.heap_setCell w ⟨g,i,none⟩ u ad.block (hn ad e))
theorem tM{z:Nat}(h:z<4294967296):(z:Int)%4294967296=(z:Int):=d9 om om
theorem I8(s:Bool)(A:Option Addr)(k c:Nat)(w:World):Sem.run Tryz.prog (Instr.field 50 (.agg #[.bool s,.slice A k c]) 1) w=.ok (.slice A k c) w:=by
 kernel_rfl
theorem yV(A B:Option Addr)(n m c d L:Nat)(xs ys:List Nat)(w:World)(hn:n<=2)(hm:m<=2)(hx:bX w L A n xs)(hy:bX w L B m ys)
  (h0:0<a9 ys):Calls Tryz.prog 189 #[.slice A n c,.slice B m d] w (pk w (a9 xs/a9 ys) (a9 xs%a9 ys)):=by
 have hx4:a9 xs<18446744073709551616:=by
  have h:=ib hx.2.1;rw[hx.1]at h;have h2:(4294967296:Nat)^n<=4294967296^2:=ca om hn;omega
 have hy4:a9 ys<18446744073709551616:=by
  have h:=ib hy.2.1;rw[hy.1]at h;have h2:(4294967296:Nat)^m<=4294967296^2:=ca om hm;omega
 have HX:=ag hx;clear hx;have HY:=ag hy;clear hy;generalize hvx:a9 xs=x at hx4 h0 ⊢;generalize hvy:a9 ys=y at hy4 h0 ⊢;have HVX:=ag hvx;clear hvx;have HVY:=ag hvy;clear hvy;have hn2i:(n:Int)<=2:=by omega
 have hm2i:(m:Int)<=2:=by omega
 have hy0:(y:Int)≠0:=by omega
 have hyn:y≠0:=by omega
 have hqle:x/y<=x:=je x y;have hrlt:x%y<y:=Nat.mod_lt x h0;have Hq:Hid (IntKind.u64.wrap ((x:Int)/(y:Int))=((x/y:Nat):Int)):=ag (by rw[IntKind.wrap_u64,<-Int.natCast_ediv];exact d9 (dV _) om)
 have Hr:Hid ((x:Int)%(y:Int)=((x%y:Nat):Int)):=ag (by simp)
 have Hr2:Hid ((x:Int).tmod (y:Int)=((x%y:Nat):Int)):=ag (by rw[aL (dV _)];simp)
 generalize x/y=q at hqle Hq ⊢;generalize x%y=r at hrlt Hr Hr2 ⊢;have hfld:=I8
 go_enter Tryz.func189,Tryz.ntmps189
 go_wp2_with fail
 refine(ti A n c L xs _ om HX.out).mono ?_;rintro e w' ⟨rfl,rfl⟩;rw[HVX.out]
 go_wp2_with fail
 refine(ti B m d L ys _ om HY.out).mono ?_;rintro e w' ⟨rfl,rfl⟩;rw[HVY.out];go_wp2;have HQ:=ag (Below.refl w.heap.size w).drew
 go_region_held3 (fun w'=>Below w.heap.size w w')
  (first|assumption|exact HQ.out)
  (first
   | (go_at_call 69;rw[Hq.out];refine(m9 false q w.drew om).mono ?_;rintro e w2 ⟨v,rfl,hI,hb1⟩;obtain⟨s1,A1,k1,c1,qs,rfl,hk1,hU1,hT1,hv1⟩:=hI;have HU1:=ag hU1;clear hU1;have HT1:=ag hT1;clear hT1;have HV1:=ag hv1;clear hv1;have hB2:Below w.heap.size w w2:=HQ.out.trans (hb1.mono HQ.out.size);clear hb1)
   | (go_at_call 69;(first|rw[Hr.out]|rw[Hr2.out]);refine(m9 false r w2 om).mono ?_;rintro e w3 ⟨v,rfl,hI,hb2⟩;obtain⟨s2,A2,k2,c2,rs,rfl,hk2,hU2,hT2,hv2⟩:=hI;have HU2:=ag hU2;clear hU2;have HT2:=ag hT2;clear hT2;have HV2:=ag hv2;clear hv2;have hB3:Below w.heap.size w w3:=hB2.trans (hb2.mono hB2.size);have HB3:=ag hb2;clear hb2))
 all_goals (try go_wp2)
 all_goals go_ret2
 all_goals exact⟨A1,k1,c1,qs,A2,k2,c2,rs,rfl,hk1,hk2,(HU1.out.below HB3.out (ah _)).more HB3.out.size,HU2.out,HT1.out,HT2.out,by have:=congrArg Int.natAbs HV1.out;rw[eC,eC]at this;omega,by have:=congrArg Int.natAbs HV2.out;rw[eC,eC]at this;omega,hB3⟩
theorem Ct(A B:Option Addr)(n m c d L:Nat)(xs ys:List Nat)(w:World)(hn:n<=16777216)(hm:m<=16777216)(hL:L<=w.heap.size)(hx:bX w L A n xs)(hy:bX w L B m ys)(ty:ob ys)
  (h0:0<a9 ys) (hbig:2<n):Calls Tryz.prog 189 #[.slice A n c,.slice B m d] w (pk w (a9 xs/a9 ys) (a9 xs%a9 ys)):=by
 have HX:=ag hx;clear hx;have HY:=ag hy;clear hy;have HTY:=ag ty;clear ty;have H0:=ag h0;clear h0;have hmk:=Ch n om;have hbi:¬(n:Int)<=2:=by omega
 have hwr:IntKind.i64.wrap (32*(n:Int))=32*(n:Int):=tj om om
 go_enter Tryz.func189,Tryz.ntmps189
 go_wp2
 go_loopw [5,8] (fun rv iv wr=>∃(i Q R:Nat) (ps rs:List Nat) (A2:Option Addr) (k2 c2:Nat),i<=32*n/\iv=.int .i64 ((i:Int)-1)/\rv=.slice A2 k2 c2/\k2<=c2/\k2<=m/\Hid (fK w wr ps)/\Hid (lQ ps/\ps.length=n/\a9 ps=Q*2^i)/\Hid (bX wr wr.heap.size A2 k2 rs/\ob rs/\a9 rs=R)/\Hid (rj (a9 xs) (a9 ys) Q R i)) (fun _ iv _=>(intOf iv+1).toNat)
 case atStart =>
  refine⟨32*n,0,0,bL n 0,[],none,0,0,by omega,?_,rfl,by omega,by omega,ag (fK.start w n),ag ⟨?_,by simp,?_⟩,ag ⟨KL _ _ _,uB,rfl⟩,ag ⟨?_,H0.out⟩⟩
  ·go_num
  ·intro x hx;rw[fM hx];omega
  ·rw[tQ];omega
  ·rw[jN]
   ·omega
   ·have h:=ib HX.out.2.1;rw[HX.out.1,uj]at h;exact h
 case round =>
  obtain⟨i,Q,R,ps,rs,A2,k2,c2,hi,rfl,rfl,hk2,hkm,HF,HP,HR,HD⟩:=hrel
  cases i with
  | zero =>
   have e0:((0:Nat):Int)-1=-1:=by omega
   rw[e0]
   go_wp2_with fail
   have hU:=bX.ofBlk HF.out.2 HP.out.1 HF.out.2.lt rfl;rw[HP.out.2.1]at hU;refine(eR _ _ _ _ _ _ (ah _) om (ah _) hU).mono ?_;rintro e w2 ⟨A3,k3,c3,zs,rfl,hk3,hU3,hT3,hv3,hb3⟩;have HU3:=ag hU3;clear hU3;have HT3:=ag hT3;clear hT3;have HV3:=ag hv3;clear hv3;have HB3:=ag hb3;clear hb3;clear hU;go_wp2;go_ret2;obtain⟨r1,r2,r3⟩:=HR.out;obtain⟨d1,d2⟩:=HD.out.done;exact⟨A3,k3,c3,zs,A2,k2,c2,rs,rfl,hk3,hk2,HU3.out,(r1.below HB3.out (ah _)).more HB3.out.size,HT3.out,r2,by rw[HV3.out,HP.out.2.2,d1];simp,by rw[r3,d2],HF.out.1.trans (HB3.out.mono HF.out.1.size)⟩
  | succ i =>
   have e0:((i+1:Nat):Int)-1=(i:Int):=by omega
   rw[e0];obtain⟨ad,x,rfl,hab,hxx,hx4,hcx⟩:=(HX.out.below HF.out.1 hL).at_ (k:=i/32) om;have HXX:=ag hxx;clear hxx;have hi0:(0:Int)<=i:=by omega
   have hi32:(i:Int)/32<n:=by omega
   have hi33:(0:Int)<=(i:Int)/32:=by omega
   have hi34:((i:Int)/32).toNat=i/32:=by omega
   have hbit:bits .and .u32 ((x:Int)/2^(i%32)) 1=((a9 xs/2^i%2:Nat):Int):=by
    have h:=u32_and_nat (x/2^(i%32)) 1 (fH (je _ _) hx4) om;rw[Nat.and_one_is_mod,<-HXX.out,DN HX.out.2.1 i (by rw[HX.out.1];omega)]at h
    rw[<-h,<-HXX.out];simp
   have hb1:a9 xs/2^i%2<=1:=by omega
   generalize hbb:a9 xs/2^i%2=b at hbit hb1;have HBB:=ag hbb;clear hbb;have HBIT:=ag hbit;clear hbit
   go_wp2_with fail
   rw[HBIT.out];refine(uX A2 k2 c2 wr.heap.size b rs wr om (ah _) HR.out.1 hb1).mono ?_;rintro e w1 ⟨A3,k3,c3,zs3,rfl,hc3,hk3,hU3,hv3,hb3⟩;have HU3:=ag hU3;clear hU3;have HV3:=ag hv3;clear hv3;have HB3:=ag (HF.out.1.trans (hb3.mono HF.out.1.size));have HF3:Hid (fK w w1 ps):=ag ⟨HB3.out,HF.out.2.below hb3 HF.out.2.lt⟩;clear hb3
   go_wp2_with fail
   refine(eR A3 k3 c3 _ zs3 w1 hc3 om (ah _) HU3.out).mono ?_;rintro e w2 ⟨A4,k4,c4,zs4,rfl,hc4,hU4,hT4,hv4,hb4⟩;have HF4:Hid (fK w w2 ps):=ag ⟨HB3.out.trans (hb4.mono HB3.out.size),HF3.out.2.below hb4 HF3.out.2.lt⟩;have hk4:k4<=k2+1:=by
    rw[aH hU4 hT4,hv4];exact bW (iA.2 (by have:=ib HU3.out.2.1;rw[HU3.out.1]at this;exact this)) hk3
   have HU4:=ag hU4;clear hU4;have HT4:=ag hT4;clear hT4;have HV4:Hid (a9 zs4=2*R+b):=ag (by rw[hv4,HV3.out,HR.out.2.2]);clear hv4 hb4 HU3 HV3 HB3 HF3 HBIT
   have hY2:bX w2 w2.heap.size B m ys:=(HY.out.below HF4.out.1 hL).more (by have:=HF4.out.1.size;omega)
   have HY2:=ag hY2;clear hY2;rcases aE (2*R+b) (a9 ys)with hlt|hge
   ·have hcm:jC (a9 zs4) (a9 ys)=-1:=by rw[HV4.out];exact jB hlt
    have HCM:=ag hcm;clear hcm;have HD2:=ag (HD.out.less (by rw[HBB.out];exact hlt))
    have hk5:k4<=m:=by
     rw[aH HU4.out HT4.out,aH HY.out HTY.out,HV4.out];exact eJ (dd hlt)
    clear hlt
    go_wp2_with fail
    refine(kd A4 B k4 m c4 d w2.heap.size zs4 ys w2 om om HU4.out HY2.out HT4.out HTY.out).mono ?_;rintro e w5 ⟨rfl,hst⟩;rw[HCM.out];obtain⟨q,rfl⟩:=hst;go_wp2
    go_roundw
    case rel=>exact⟨i,2*Q,2*R+b,ps,zs4,A4,k4,c4,by omega,by go_num,rfl,hc4,hk5,ag ⟨HF4.out.1.trans ((eH.refl w2).more q |>.below _),HF4.out.2⟩,ag ⟨HP.out.1,HP.out.2.1,by rw[HP.out.2.2,cn];grind⟩,ag ⟨HU4.out,HT4.out,HV4.out⟩,ag (by have:=HD2.out;rw[HBB.out]at this;exact this)⟩
    case measure=>simp[intOf]
   ·have hcm:0<=jC (a9 zs4) (a9 ys):=by
     rw[HV4.out];rcases aE (a9 ys) (2*R+b)with h|h
     ·rw[jk h];omega
     ·rw[kz om];omega
    have hmk4:m<=k4:=by
     rw[aH HU4.out HT4.out,aH HY.out HTY.out,HV4.out];exact eJ hge
    have HD2:Hid (rj (a9 xs) (a9 ys) (2*Q+1) (2*R+b-a9 ys) i):=ag (by have:=HD.out.more (by rw[HBB.out];exact hge);rw[HBB.out]at this;exact this)
    have HGE:=ag hge;clear hge;generalize hcg:jC (a9 zs4) (a9 ys)=cm at hcm;have HCM:=ag hcg;clear hcg
    go_wp2_with fail
    refine(kd A4 B k4 m c4 d w2.heap.size zs4 ys w2 om om HU4.out HY2.out HT4.out HTY.out).mono ?_;rintro e w5 ⟨rfl,hst⟩;rw[HCM.out];obtain⟨q,rfl⟩:=hst;have HUq:Hid (bX (w2.drewN q) (w2.drewN q).heap.size A4 k4 zs4):=ag HU4.out;have HYq:Hid (bX (w2.drewN q) (w2.drewN q).heap.size B m ys):=ag HY2.out;have HFq:Hid (fK w (w2.drewN q) ps):=ag ⟨HF4.out.1.trans ((eH.refl w2).more q |>.below _),HF4.out.2⟩
    clear HF4 HY2 HF HR;generalize w2.drewN q=wq at HUq HYq HFq ⊢
    go_wp2_with fail
    refine(jA A4 B k4 m c4 d wq.heap.size zs4 ys wq hmk4 om (ah _) HUq.out HYq.out (by rw[HV4.out];exact HGE.out)).mono ?_
    rintro e w6 ⟨A6,k6,c6,zs6,rfl,hc6,hk6,hU6,hv6,hb6⟩;have HF6:Hid (fK w w6 ps):=ag ⟨HFq.out.1.trans (hb6.mono HFq.out.1.size),HFq.out.2.below hb6 HFq.out.2.lt⟩;have HU6:=ag hU6;clear hU6;have HV6:=ag hv6;clear hv6 hb6 HFq HYq HUq
    go_wp2_with fail
    refine(tY A6 k6 c6 _ zs6 w6 hc6 om (ah _) HU6.out).mono ?_;rintro e w7 ⟨A7,k7,c7,zs7,rfl,hc7,hU7,hT7,hv7,hb7,hN7⟩;have HN7:Hid (∀ad,A7=some ad->ad.block≠w.heap.size):=ag (fun ad h=>by have h1:=hN7 ad h;have h2:=HF6.out.2.lt;omega)
    clear hN7;have HF7:Hid (fK w w7 ps):=ag ⟨HF6.out.1.trans (hb7.mono HF6.out.1.size),HF6.out.2.below hb7 HF6.out.2.lt⟩;have HV7:Hid (a9 zs7=2*R+b-a9 ys):=ag (by rw[hv7,HV6.out,HV4.out])
    have hk7:k7<=m:=by
     rw[aH hU7 hT7,aH HY.out HTY.out,HV7.out];exact eJ (dd HD2.out.lt)
    have HU7:=ag hU7;clear hU7;have HT7:=ag hT7;clear hT7 hv7 hb7 HF6 HU6 HV6;obtain⟨s1,s2,s3⟩:=De HP.out.1 (Q:=Q) (i:=i) (by rw[HP.out.2.1];omega) HP.out.2.2
    obtain⟨hcp,hfp⟩:=HF7.out.at_ (i/32) (by rw[HP.out.2.1];omega)
    have hp4:=HP.out.1.getD (i/32);generalize hpp:ps.getD (i/32) 0=p at hcp s1 s2 s3 hp4;clear hpp;have hor:bits .or .u32 (p:Int) (IntKind.u32.wrap (2^((i:Int)%32).toNat))=((p+2^(i%32):Nat):Int):=by
     have h1:((i:Int)%32).toNat=i%32:=by omega
     have h2:2^(i%32)<4294967296:=by
      have:2^(i%32)<2^32:=Nat.pow_lt_pow_right om om;simpa using this
     have h3:((2:Int)^(i%32))=((2^(i%32):Nat):Int):=by simp
     have h4:IntKind.u32.wrap ((2^(i%32):Nat):Int)=((2^(i%32):Nat):Int):=by rw[IntKind.wrap_u32];exact tM h2
     rw[h1,h3,h4,u32_or_nat _ _ hp4 h2,s1]
    have HOR:=ag hor;clear hor;have HS3:=ag s3;clear s3 s1;have HS2:=ag s2;clear s2;have hU7d:bX w7.drew w7.drew.heap.size A7 k7 zs7:=HU7.out;have HU7d:=ag hU7d;clear hU7d;have HF7d:Hid (fK w w7.drew ps):=ag ⟨HF7.out.1.drew,HF7.out.2⟩;go_wp2;have ht1:(i:Int).tdiv 32=(i:Int)/32:=gW hi0;have ht2:(i:Int).tmod 32=(i:Int)%32:=aL hi0;have ht3:IntKind.i64.wrap ((i:Int)/32)=(i:Int)/32:=tj om om;have ht4:(0:Int)<=(i:Int)%32:=by omega
    go_still_tail 9,(by kernel_rfl)
    rw[HOR.out];change wpList _ _ _ _ _ w7.drew;clear ht1 ht2 ht3 ht4 HOR HU7 HF7;have hcp':w7.drew.cell? ⟨w.heap.size,i/32,none⟩=some (.int .u32 p):=hcp;have hfp':w7.drew.frozen? ⟨w.heap.size,i/32,none⟩=false:=hfp;clear hcp hfp;generalize w7.drew=w8 at hcp' hfp' HU7d HF7d ⊢;go_wp2
    go_roundw
    case rel =>
     have hF:=HF7d.out.put (i/32) (p+2^(i%32));refine⟨i,2*Q+1,2*R+b-a9 ys,ps.set (i/32) (p+2^(i%32)),zs7,A7,k7,c7,by omega,by go_num,rfl,hc7,hk7,ag hF,ag ⟨HP.out.1.set _ HS2.out,by rw[List.length_set];exact HP.out.2.1,HS3.out⟩,ag ⟨?_,HT7.out,HV7.out⟩,HD2⟩
     exact tV HU7d.out HN7.out
    case measure=>simp[intOf]
theorem Cs(A B:Option Addr)(n m c d L:Nat)(xs ys:List Nat)(w:World)(hn:n<=16777216)(hm:m<=16777216)(hL:L<=w.heap.size)(hx:bX w L A n xs)(hy:bX w L B m ys)(ty:ob ys)
  (h0:0<a9 ys) (hb1:n<=2) (hb2:2<m):Calls Tryz.prog 189 #[.slice A n c,.slice B m d] w (pk w (a9 xs/a9 ys) (a9 xs%a9 ys)):=by
 have HX:=ag hx;clear hx;have HY:=ag hy;clear hy;have HTY:=ag ty;clear ty;have H0:=ag h0;clear h0;have hmk:=Ch n om;have hbi:(n:Int)<=2:=by omega
 have hbj:¬(m:Int)<=2:=by omega
 have hwr:IntKind.i64.wrap (32*(n:Int))=32*(n:Int):=tj om om
 go_enter Tryz.func189,Tryz.ntmps189
 go_wp2
 go_loopw [5,8] (fun rv iv wr=>∃(i Q R:Nat) (ps rs:List Nat) (A2:Option Addr) (k2 c2:Nat),i<=32*n/\iv=.int .i64 ((i:Int)-1)/\rv=.slice A2 k2 c2/\k2<=c2/\k2<=m/\Hid (fK w wr ps)/\Hid (lQ ps/\ps.length=n/\a9 ps=Q*2^i)/\Hid (bX wr wr.heap.size A2 k2 rs/\ob rs/\a9 rs=R)/\Hid (rj (a9 xs) (a9 ys) Q R i)) (fun _ iv _=>(intOf iv+1).toNat)
 case atStart =>
  refine⟨32*n,0,0,bL n 0,[],none,0,0,by omega,?_,rfl,by omega,by omega,ag (fK.start w n),ag ⟨?_,by simp,?_⟩,ag ⟨KL _ _ _,uB,rfl⟩,ag ⟨?_,H0.out⟩⟩
  ·go_num
  ·intro x hx;rw[fM hx];omega
  ·rw[tQ];omega
  ·rw[jN]
   ·omega
   ·have h:=ib HX.out.2.1;rw[HX.out.1,uj]at h;exact h
 case round =>
  obtain⟨i,Q,R,ps,rs,A2,k2,c2,hi,rfl,rfl,hk2,hkm,HF,HP,HR,HD⟩:=hrel
  cases i with
  | zero =>
   have e0:((0:Nat):Int)-1=-1:=by omega
   rw[e0]
   go_wp2_with fail
   have hU:=bX.ofBlk HF.out.2 HP.out.1 HF.out.2.lt rfl;rw[HP.out.2.1]at hU;refine(eR _ _ _ _ _ _ (ah _) om (ah _) hU).mono ?_;rintro e w2 ⟨A3,k3,c3,zs,rfl,hk3,hU3,hT3,hv3,hb3⟩;have HU3:=ag hU3;clear hU3;have HT3:=ag hT3;clear hT3;have HV3:=ag hv3;clear hv3;have HB3:=ag hb3;clear hb3;clear hU;go_wp2;go_ret2;obtain⟨r1,r2,r3⟩:=HR.out;obtain⟨d1,d2⟩:=HD.out.done;exact⟨A3,k3,c3,zs,A2,k2,c2,rs,rfl,hk3,hk2,HU3.out,(r1.below HB3.out (ah _)).more HB3.out.size,HT3.out,r2,by rw[HV3.out,HP.out.2.2,d1];simp,by rw[r3,d2],HF.out.1.trans (HB3.out.mono HF.out.1.size)⟩
  | succ i =>
   have e0:((i+1:Nat):Int)-1=(i:Int):=by omega
   rw[e0];obtain⟨ad,x,rfl,hab,hxx,hx4,hcx⟩:=(HX.out.below HF.out.1 hL).at_ (k:=i/32) om;have HXX:=ag hxx;clear hxx;have hi0:(0:Int)<=i:=by omega
   have hi32:(i:Int)/32<n:=by omega
   have hi33:(0:Int)<=(i:Int)/32:=by omega
   have hi34:((i:Int)/32).toNat=i/32:=by omega
   have hbit:bits .and .u32 ((x:Int)/2^(i%32)) 1=((a9 xs/2^i%2:Nat):Int):=by
    have h:=u32_and_nat (x/2^(i%32)) 1 (fH (je _ _) hx4) om;rw[Nat.and_one_is_mod,<-HXX.out,DN HX.out.2.1 i (by rw[HX.out.1];omega)]at h
    rw[<-h,<-HXX.out];simp
   have hb1:a9 xs/2^i%2<=1:=by omega
   generalize hbb:a9 xs/2^i%2=b at hbit hb1;have HBB:=ag hbb;clear hbb;have HBIT:=ag hbit;clear hbit
   go_wp2_with fail
   rw[HBIT.out];refine(uX A2 k2 c2 wr.heap.size b rs wr om (ah _) HR.out.1 hb1).mono ?_;rintro e w1 ⟨A3,k3,c3,zs3,rfl,hc3,hk3,hU3,hv3,hb3⟩;have HU3:=ag hU3;clear hU3;have HV3:=ag hv3;clear hv3;have HB3:=ag (HF.out.1.trans (hb3.mono HF.out.1.size));have HF3:Hid (fK w w1 ps):=ag ⟨HB3.out,HF.out.2.below hb3 HF.out.2.lt⟩;clear hb3
   go_wp2_with fail
   refine(eR A3 k3 c3 _ zs3 w1 hc3 om (ah _) HU3.out).mono ?_;rintro e w2 ⟨A4,k4,c4,zs4,rfl,hc4,hU4,hT4,hv4,hb4⟩;have HF4:Hid (fK w w2 ps):=ag ⟨HB3.out.trans (hb4.mono HB3.out.size),HF3.out.2.below hb4 HF3.out.2.lt⟩;have hk4:k4<=k2+1:=by
    rw[aH hU4 hT4,hv4];exact bW (iA.2 (by have:=ib HU3.out.2.1;rw[HU3.out.1]at this;exact this)) hk3
   have HU4:=ag hU4;clear hU4;have HT4:=ag hT4;clear hT4;have HV4:Hid (a9 zs4=2*R+b):=ag (by rw[hv4,HV3.out,HR.out.2.2]);clear hv4 hb4 HU3 HV3 HB3 HF3 HBIT
   have hY2:bX w2 w2.heap.size B m ys:=(HY.out.below HF4.out.1 hL).more (by have:=HF4.out.1.size;omega)
   have HY2:=ag hY2;clear hY2;rcases aE (2*R+b) (a9 ys)with hlt|hge
   ·have hcm:jC (a9 zs4) (a9 ys)=-1:=by rw[HV4.out];exact jB hlt
    have HCM:=ag hcm;clear hcm;have HD2:=ag (HD.out.less (by rw[HBB.out];exact hlt))
    have hk5:k4<=m:=by
     rw[aH HU4.out HT4.out,aH HY.out HTY.out,HV4.out];exact eJ (dd hlt)
    clear hlt
    go_wp2_with fail
    refine(kd A4 B k4 m c4 d w2.heap.size zs4 ys w2 om om HU4.out HY2.out HT4.out HTY.out).mono ?_;rintro e w5 ⟨rfl,hst⟩;rw[HCM.out];obtain⟨q,rfl⟩:=hst;go_wp2
    go_roundw
    case rel=>exact⟨i,2*Q,2*R+b,ps,zs4,A4,k4,c4,by omega,by go_num,rfl,hc4,hk5,ag ⟨HF4.out.1.trans ((eH.refl w2).more q |>.below _),HF4.out.2⟩,ag ⟨HP.out.1,HP.out.2.1,by rw[HP.out.2.2,cn];grind⟩,ag ⟨HU4.out,HT4.out,HV4.out⟩,ag (by have:=HD2.out;rw[HBB.out]at this;exact this)⟩
    case measure=>simp[intOf]
   ·have hcm:0<=jC (a9 zs4) (a9 ys):=by
     rw[HV4.out];rcases aE (a9 ys) (2*R+b)with h|h
     ·rw[jk h];omega
     ·rw[kz om];omega
    have hmk4:m<=k4:=by
     rw[aH HU4.out HT4.out,aH HY.out HTY.out,HV4.out];exact eJ hge
    have HD2:Hid (rj (a9 xs) (a9 ys) (2*Q+1) (2*R+b-a9 ys) i):=ag (by have:=HD.out.more (by rw[HBB.out];exact hge);rw[HBB.out]at this;exact this)
    have HGE:=ag hge;clear hge;generalize hcg:jC (a9 zs4) (a9 ys)=cm at hcm;have HCM:=ag hcg;clear hcg
    go_wp2_with fail
    refine(kd A4 B k4 m c4 d w2.heap.size zs4 ys w2 om om HU4.out HY2.out HT4.out HTY.out).mono ?_;rintro e w5 ⟨rfl,hst⟩;rw[HCM.out];obtain⟨q,rfl⟩:=hst;have HUq:Hid (bX (w2.drewN q) (w2.drewN q).heap.size A4 k4 zs4):=ag HU4.out;have HYq:Hid (bX (w2.drewN q) (w2.drewN q).heap.size B m ys):=ag HY2.out;have HFq:Hid (fK w (w2.drewN q) ps):=ag ⟨HF4.out.1.trans ((eH.refl w2).more q |>.below _),HF4.out.2⟩
    clear HF4 HY2 HF HR;generalize w2.drewN q=wq at HUq HYq HFq ⊢
    go_wp2_with fail
    refine(jA A4 B k4 m c4 d wq.heap.size zs4 ys wq hmk4 om (ah _) HUq.out HYq.out (by rw[HV4.out];exact HGE.out)).mono ?_
    rintro e w6 ⟨A6,k6,c6,zs6,rfl,hc6,hk6,hU6,hv6,hb6⟩;have HF6:Hid (fK w w6 ps):=ag ⟨HFq.out.1.trans (hb6.mono HFq.out.1.size),HFq.out.2.below hb6 HFq.out.2.lt⟩;have HU6:=ag hU6;clear hU6;have HV6:=ag hv6;clear hv6 hb6 HFq HYq HUq
    go_wp2_with fail
    refine(tY A6 k6 c6 _ zs6 w6 hc6 om (ah _) HU6.out).mono ?_;rintro e w7 ⟨A7,k7,c7,zs7,rfl,hc7,hU7,hT7,hv7,hb7,hN7⟩;have HN7:Hid (∀ad,A7=some ad->ad.block≠w.heap.size):=ag (fun ad h=>by have h1:=hN7 ad h;have h2:=HF6.out.2.lt;omega)
    clear hN7;have HF7:Hid (fK w w7 ps):=ag ⟨HF6.out.1.trans (hb7.mono HF6.out.1.size),HF6.out.2.below hb7 HF6.out.2.lt⟩;have HV7:Hid (a9 zs7=2*R+b-a9 ys):=ag (by rw[hv7,HV6.out,HV4.out])
    have hk7:k7<=m:=by
     rw[aH hU7 hT7,aH HY.out HTY.out,HV7.out];exact eJ (dd HD2.out.lt)
    have HU7:=ag hU7;clear hU7;have HT7:=ag hT7;clear hT7 hv7 hb7 HF6 HU6 HV6;obtain⟨s1,s2,s3⟩:=De HP.out.1 (Q:=Q) (i:=i) (by rw[HP.out.2.1];omega) HP.out.2.2
    obtain⟨hcp,hfp⟩:=HF7.out.at_ (i/32) (by rw[HP.out.2.1];omega)
    have hp4:=HP.out.1.getD (i/32);generalize hpp:ps.getD (i/32) 0=p at hcp s1 s2 s3 hp4;clear hpp;have hor:bits .or .u32 (p:Int) (IntKind.u32.wrap (2^((i:Int)%32).toNat))=((p+2^(i%32):Nat):Int):=by
     have h1:((i:Int)%32).toNat=i%32:=by omega
     have h2:2^(i%32)<4294967296:=by
      have:2^(i%32)<2^32:=Nat.pow_lt_pow_right om om;simpa using this
     have h3:((2:Int)^(i%32))=((2^(i%32):Nat):Int):=by simp
     have h4:IntKind.u32.wrap ((2^(i%32):Nat):Int)=((2^(i%32):Nat):Int):=by rw[IntKind.wrap_u32];exact tM h2
     rw[h1,h3,h4,u32_or_nat _ _ hp4 h2,s1]
    have HOR:=ag hor;clear hor;have HS3:=ag s3;clear s3 s1;have HS2:=ag s2;clear s2;have hU7d:bX w7.drew w7.drew.heap.size A7 k7 zs7:=HU7.out;have HU7d:=ag hU7d;clear hU7d;have HF7d:Hid (fK w w7.drew ps):=ag ⟨HF7.out.1.drew,HF7.out.2⟩;go_wp2;have ht1:(i:Int).tdiv 32=(i:Int)/32:=gW hi0;have ht2:(i:Int).tmod 32=(i:Int)%32:=aL hi0;have ht3:IntKind.i64.wrap ((i:Int)/32)=(i:Int)/32:=tj om om;have ht4:(0:Int)<=(i:Int)%32:=by omega
    go_still_tail 9,(by kernel_rfl)
    rw[HOR.out];change wpList _ _ _ _ _ w7.drew;clear ht1 ht2 ht3 ht4 HOR HU7 HF7;have hcp':w7.drew.cell? ⟨w.heap.size,i/32,none⟩=some (.int .u32 p):=hcp;have hfp':w7.drew.frozen? ⟨w.heap.size,i/32,none⟩=false:=hfp;clear hcp hfp;generalize w7.drew=w8 at hcp' hfp' HU7d HF7d ⊢;go_wp2
    go_roundw
    case rel =>
     have hF:=HF7d.out.put (i/32) (p+2^(i%32));refine⟨i,2*Q+1,2*R+b-a9 ys,ps.set (i/32) (p+2^(i%32)),zs7,A7,k7,c7,by omega,by go_num,rfl,hc7,hk7,ag hF,ag ⟨HP.out.1.set _ HS2.out,by rw[List.length_set];exact HP.out.2.1,HS3.out⟩,ag ⟨?_,HT7.out,HV7.out⟩,HD2⟩
     exact tV HU7d.out HN7.out
    case measure=>simp[intOf]
theorem Cu(A B:Option Addr)(n m c d L:Nat)(xs ys:List Nat)(w:World)(hn:n<=16777216)(hm:m<=16777216)(hL:L<=w.heap.size)(hx:bX w L A n xs)(hy:bX w L B m ys)(ty:ob ys)
  (h0:0<a9 ys):Calls Tryz.prog 189 #[.slice A n c,.slice B m d] w (pk w (a9 xs/a9 ys) (a9 xs%a9 ys)):=by
 by_cases h1:n<=2
 ·by_cases h2:m<=2
  ·exact yV A B n m c d L xs ys w h1 h2 hx hy h0
  ·exact Cs A B n m c d L xs ys w hn hm hL hx hy ty h0 h1 om
 ·exact Ct A B n m c d L xs ys w hn hm hL hx hy ty h0 om
end Go.Proofs.YtdobfmlmenaajaaGreatDoor
