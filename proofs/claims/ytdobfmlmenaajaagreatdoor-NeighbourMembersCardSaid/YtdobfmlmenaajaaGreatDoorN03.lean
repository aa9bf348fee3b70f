/-
  Lemmas for NeighbourMembers.
-/
import Derived.Test.YtdobfmlmenaajaaGreatDoorN02
namespace Go.Proofs.YtdobfmlmenaajaaGreatDoor
open Go.RowKit
open Below renaming refl→aX
open _root_.Bool renaming false_eq_true→aN,not_false→oY,not_true→yd
open _root_.Int renaming tmod_eq_emod_of_nonneg→aL,natCast_mul→di,natCast_nonneg→dV,mul_neg→pG
open Lib renaming hid→ag
open _root_.List renaming getElem?_eq_getElem→bA,getD→cB,getElem?_append_right→dC,getElem?_append_left→dR,getElem?_take_of_lt→eV
open _root_.Nat renaming le_refl→ah,lt_or_ge→aE,eq_zero_or_pos→bO,pow_le_pow_right→ca,mod_lt→en,min_eq_left→gf,div_add_mod→gj,div_le_self→je,mod_eq_of_lt→jM,div_eq_of_lt→jN
set_option maxHeartbeats 6400000
set_option maxRecDepth 4096
set_option linter.all false
def LA(B:Nat)(w wr:World)(g n:Nat)(ps:List Nat):Prop :=
 Below B w wr/\B<=g/\ps.length=n/\lQ ps/\∃cs:Array Value,eF wr g 136 cs/\∀j,j<n->cs[j]? = some (.int .u32 (ps.getD j 0))
theorem LA.put{B:Nat}{w wr:World}{g n:Nat}{ps:List Nat}(h:LA B w wr g n ps){k x:Nat}(hk:k<n)(hx:x<4294967296):LA B w (wr.setCell ⟨g,k,none⟩ (.int .u32 x)) g n (ps.set k x):=by
 obtain⟨h1,h2,h3,h4,cs,h5,h6⟩:=h;refine⟨h1.setCell h2 _,h2,by simpa using h3,h4.set k hx,_,h5.set_ k _,fun j hj=>?_⟩
 by_cases e:j=k
 ·subst e;have hs:j<cs.size:=by
   rcases aE j cs.size with h|h
   ·exact h
   ·have:=h6 j hj;rw[Array.getElem?_eq_none h]at this;cases this
  rw[Array.getElem?_setIfInBounds_self_of_lt hs];simp[cB,h3,hj]
 ·rw[Array.getElem?_setIfInBounds_ne (Ne.symm e),h6 j hj,oE (Ne.symm e)]
theorem LA.at_{B:Nat}{w wr:World}{g n:Nat}{ps:List Nat}(h:LA B w wr g n ps){k:Nat}(hk:k<n):wr.cell? ⟨g,k,none⟩=some (.int .u32 (ps.getD k 0))/\wr.frozen? ⟨g,k,none⟩=false:=by
 obtain⟨h1,h2,h3,h4,cs,h5,h6⟩:=h;exact⟨(h5.cell k).trans (h6 k hk),h5.frozen k⟩
theorem LA.u32{B:Nat}{w wr:World}{g n:Nat}{ps:List Nat}(h:LA B w wr g n ps):bX wr wr.heap.size (some ⟨g,0,none⟩) n ps:=by
 obtain⟨h1,h2,h3,h4,cs,h5,h6⟩:=h;refine⟨h3,h4,fun _=>⟨_,rfl,h5.lt,fun j hj=>?_⟩⟩;have e:(⟨g,0,none⟩:Addr).add j=⟨g,j,none⟩:=by unfold Addr.add;split<;>simp_all
 rw[e];exact(h5.cell j).trans (h6 j hj)
theorem EF(ad:Addr)(n c B:Nat)(xs:List Nat)(w:World)(hn:0<n)(hm:n<=1073741824)(hB:B<=w.heap.size)(h:bX w B (some ad) n xs) :
  Calls Tryz.prog 196 #[.slice (some ad) n c] w fun e w'=>∃g c',e=.returned (.slice (some ⟨g,0,none⟩) n c')/\n<=c'/\LA w.heap.size w w' g n xs:=by
 have HX:=ag h;clear h;have q48:∀(w:World) (a:Option Addr) (n c n' c':Nat),(binOp .eql 48 (.slice a n c) (.slice none n' c')).run Tryz.prog w=.ok (.bool a.isNone) w:=fun w a n c n' c'=>Lib.run_eql_slice_nil w _ _ a n c n' c' Tryz.underlying48
 go_enter Tryz.func196,Tryz.ntmps196
 go_wp2_with (at_builtin;refine wpList_append_own_at _ rfl _ _ 48 rfl w.heap.size 136 Tryz.t136 (.int .u32 0) 1 4 Tryz.underlying48 Cl BF B2 CC rfl om _ 0 [] rfl (World.ownsRow_lit (e:=136) (size:=1) w #[] 0 (ah _) (by simp[maxLen]) rfl) ad n c (xs.map (fun x:Nat=>Value.int .u32 x)) rfl (by simp[HX.out.1]) (bX.cells (HX.out.below ((aX _ _).alloc hB _) (ah _))) (by intro u hu;simp only[List.mem_map]at hu;obtain⟨x,_,rfl⟩:=hu;rfl) (by simp[maxLen];omega) om (by simp) ?_)
 intro v' w1 hown hgrow hnil hat;obtain⟨h1,h2⟩:=hown;have h1':xs.length=n:=by simpa using h1
 rcases h2 with⟨h,_⟩|⟨g,cap,cur,rfl,hbase,hg,hnc,_,hcs,htake⟩
 ·exact absurd h hnil
 have HB:=(((aX w.heap.size w).alloc (ah _) (Obj.cells #[] 136)).trans (iJ hgrow (B:=w.heap.size) (by simp) (by intro g h;cases h;exact ah _)))
 have hla:LA w.heap.size w w1 g n xs:=by
  refine⟨HB,hbase,h1',HX.out.2.1,cur,hg,fun j hj=>?_⟩;have h7:(cur.toList.take (n*1))[j]? = (xs.map (fun x:Nat=>Value.int .u32 x))[j]?:=by rw[htake]
  rw[eV om,List.getElem?_map,bA (l:=xs) om]at h7;rw[<-Array.getElem?_toList,h7];simp[cB,bA (show j<xs.length by omega)]
 have HL:=ag hla;clear hla HB hg htake hgrow hnil hat h1 hbase;go_wp2;go_ret;exact⟨g,cap,rfl,by omega,HL.out⟩
theorem Er{xs zs:List Nat}{k rest b x:Nat}(hb:rest<b)(hx:xs.getD k 0=x)(hx4:x<4294967296)(hk:k<xs.length)(h:a9 zs*b+rest=a9 (xs.drop (k+1))) :
  (rest*4294967296+x)/b<4294967296/\(rest*4294967296+x)%b<b/\a9 ((rest*4294967296+x)/b::zs)*b+(rest*4294967296+x)%b=a9 (xs.drop k):=by
 have h0:0<b:=by omega
 refine⟨?_,en _ h0,?_⟩
 ·rw[Nat.div_lt_iff_lt_mul h0];have:(rest+1)*4294967296<=b*4294967296:=Nat.mul_le_mul_right _ hb;omega
 ·have e:=gj (rest*4294967296+x) b;rw[List.drop_eq_getElem_cons hk];have ex:xs[k]=x:=by simpa [cB,bA hk]using hx
  rw[ex];simp only[a9];rw[<-h];generalize (rest*4294967296+x)/b=q at *;generalize (rest*4294967296+x)%b=r at *
  grind
structure DL(xs ps zs:List Nat)(k n rest b:Nat):Prop where
 len:xs.length=n
 kn:k<=n
 eq:ps=xs.take k++zs
 zl:zs.length=n-k
 lt:rest<b
 sum:a9 zs*b+rest=a9 (xs.drop k)
theorem DL.init{xs:List Nat}{n b:Nat}(hl:xs.length=n)(hb:0<b):DL xs xs [] n n 0 b :=
 ⟨hl,ah _,by simp[<-hl],by simp,hb,by simp[<-hl,a9]⟩
theorem DL.next{xs ps zs:List Nat}{k n rest b x:Nat}(h:DL xs ps zs (k+1) n rest b)(hl:lQ xs)(hx:ps.getD k 0=x) :
  DL xs (ps.set k ((rest*4294967296+x)/b)) ((rest*4294967296+x)/b::zs) k n ((rest*4294967296+x)%b) b/\(rest*4294967296+x)/b<4294967296/\x<4294967296:=by
 have hkn:=h.kn;have hkl:k<xs.length:=by have:=h.len;omega
 have hx':xs.getD k 0=x:=by
  rw[<-hx,h.eq];simp only[cB];rw[dR (by simp;omega),eV om]
 have hx4:x<4294967296:=by rw[<-hx'];exact hl.getD k
 obtain⟨s1,s2,s3⟩:=Er h.lt hx' hx4 hkl h.sum;refine⟨⟨h.len,by omega,?_,by simp[h.zl];omega,s2,s3⟩,s1,hx4⟩
 rw[h.eq];generalize (rest*4294967296+x)/b=q;apply List.ext_getElem?;intro j;rw[List.getElem?_set];have hl2:(xs.take (k+1)++zs).length=n:=by simp[h.zl,h.len];omega
 by_cases e:k=j
 ·subst e;rw[if_pos rfl,if_pos om,dC (by simp;omega)]
  simp[h.len];rw[gf om];simp
 ·rw[if_neg e];by_cases e2:j<k
  ·rw[dR (by simp[h.len];omega),dR (by simp[h.len];omega),eV om,eV om]
  ·rw[dC (by simp[h.len];omega),dC (by simp[h.len];omega)]
   simp only[List.length_take,h.len];rw[gf om,gf om];obtain⟨m,rfl⟩:∃m,j=k+1+m:=⟨j-(k+1),by omega⟩
   rw[show k+1+m-(k+1)=m by omega,show k+1+m-k=m+1 by omega,List.getElem?_cons_succ]
theorem Ai{a x:Nat}(ha:a<4294967296)(hx:x<4294967296):bits .or .u64 ((a:Int)*4294967296) (x:Int)=((a*4294967296+x:Nat):Int):=by
 have h:=u64_or_nat (a*4294967296) x om om;rw[Nat.or_comm,F6 hx,Nat.add_comm]at h;rw[<-h];rfl
theorem rR(B:Nat)(w0 w:World)(g n c b:Nat)(xs:List Nat)(hn:n<=1073741824)(hb:0<b)(hb4:b<4294967296)(h:LA B w0 w g n xs) :
  Calls Tryz.prog 197 #[.slice (some ⟨g,0,none⟩) n c,.int .u32 b] w fun e w'=>∃ps,e=.returned (.int .u32 ((a9 xs%b:Nat):Int))/\LA B w0 w' g n ps/\a9 ps=a9 xs/b:=by
 have HL:=ag h.2.2.2.1;have hxl:=h.2.2.1;have HI:=ag (DL.init hxl hb);have HA:=ag h;clear h
 go_enter Tryz.func197,Tryz.ntmps197
 go_wp2
 go_loopw [5,6] (fun rv iv wr=>∃(k rest:Nat) (ps zs:List Nat),k<=n/\iv=.int .i64 ((k:Int)-1)/\rv=.int .u64 rest/\rest<b/\Hid (LA B w0 wr g n ps)/\Hid (DL xs ps zs k n rest b)) (fun _ iv _=>(intOf iv+1).toNat)
 case atStart=>exact⟨n,0,xs,[],by omega,rfl,rfl,hb,HA,HI⟩
 case round =>
  clear HA HI;obtain⟨k,rest,ps,zs,hk,rfl,rfl,hrb,HA,HI⟩:=hrel;rcases bO k with h0|h0
  ·subst h0;have hs:=HI.out.sum;have he:=HI.out.eq;simp only[List.take_zero,List.nil_append,List.drop_zero]at hs he;subst he;have hq:a9 ps=a9 xs/b/\rest=a9 xs%b:=by
    have h1:a9 xs=b*a9 ps+rest:=by rw[Nat.mul_comm];exact hs.symm
    rw[h1];exact⟨by rw[Nat.mul_add_div hb,jN hrb];rfl,by rw[Nat.mul_add_mod,jM hrb]⟩
   obtain⟨hq1,hr1⟩:=hq;have HR:=ag hr1;clear hr1;go_wp2;go_ret;exact⟨ps,by rw[<-HR.out];go_num,HA.out,hq1⟩
  ·obtain⟨m,rfl⟩:∃m,k=m+1:=⟨k-1,by omega⟩
   obtain⟨hc,hf⟩:=HA.out.at_ (k:=m) om;generalize hpx:ps.getD m 0=x at hc;obtain⟨hD,hq4,hx4⟩:=HI.out.next HL.out hpx;have HD:=ag hD;clear hD hpx;have HO:=ag (Ai (show rest<4294967296 by omega) hx4)
   have HP:=HA.out.put (k:=m) om hq4;have e1:((m+1:Nat):Int)-1=m:=by omega
   rw[e1];have hm0:(m:Int)≥0:=by omega
   have hmn:(m:Int)<n:=by omega
   have hq64:(rest*4294967296+x)/b<18446744073709551616:=by omega
   have E1:(bits .or .u64 ((rest:Int)*4294967296) (x:Int)).tmod b=(((rest*4294967296+x)%b:Nat):Int):=by
    rw[HO.out,aL (dV _),Int.natCast_emod]
   have E2:IntKind.u64.wrap ((bits .or .u64 ((rest:Int)*4294967296) (x:Int)).tdiv b)%4294967296=(((rest*4294967296+x)/b:Nat):Int):=by
    rw[HO.out,Int.tdiv_eq_ediv_of_nonneg (dV _),<-Int.natCast_ediv,IntKind.wrap_u64];generalize (rest*4294967296+x)/b=q at *;omega
   have HE1:=ag E1;clear E1;have HE2:=ag E2;clear E2;have hrb2:=HD.out.lt;clear hq4 hq64;have HP2:=ag HP;clear HP;go_wp2;refine⟨⟨m,_,_,_,by omega,rfl,?_,hrb2,ag (by rw[HE2.out];exact HP2.out),HD⟩,?_⟩
   ·rw[HE1.out]
   ·simp[intOf]
def pk(w:World)(u v:Nat)(e:Ending)(w':World):Prop :=
 ∃(A:Option Addr) (n c:Nat) (xs:List Nat) (D:Option Addr) (m d:Nat) (ys:List Nat),e=.returned (.tuple #[.slice A n c,.slice D m d])/\n<=c/\m<=d /\
  bX w' w'.heap.size A n xs/\bX w' w'.heap.size D m ys/\ob xs/\ob ys/\a9 xs=u/\a9 ys=v/\Below w.heap.size w w'
theorem KL(w:World)(B:Nat)(A:Option Addr):bX w B A 0 []:=⟨rfl,by simp[lQ],fun h=>absurd h om⟩
theorem uB:ob []:=by intro x hx;simp at hx
theorem AU(A B:Option Addr)(n c d L:Nat)(xs ys:List Nat)(w:World)(hn:n<=536870912)(h2:2<n)(hL:L<=w.heap.size)(hx:bX w L A n xs)(hy:bX w L B 1 ys)(tx:ob xs)(ty:ob ys)
  (h0:0<a9 ys) (hge:¬a9 xs<a9 ys) :
  Calls Tryz.prog 137 #[.slice A n c,.slice B 1 d] w (pk w (a9 xs/a9 ys) (a9 xs%a9 ys)):=by
 have hc:0<=jC (a9 xs) (a9 ys):=by
  rcases aE (a9 ys) (a9 xs)with h|h
  ·rw[jk h];omega
  ·rw[kz om];omega
 obtain⟨ad,rfl,hadb,_⟩:=hx.2.2 om;obtain⟨bd,rfl,hbdb,hcb⟩:=hy.2.2 om;have hv1:a9 ys=ys.getD 0 0:=by
  have:=hy.1
  match ys,this with
  | [y],_=>simp[a9]
 have hy4:=hy.2.1.getD 0;have hcb0:=hcb 0 om;rw[<-hv1]at hy4 hcb0;have HX:=ag hx;clear hx;have HY:=ag hy;clear hy;have HTX:=ag tx;clear tx;have HTY:=ag ty;clear ty;have HV1:=ag hv1;clear hv1;have HCB:=ag hcb0;clear hcb0;clear hcb hge;generalize hcm:jC (a9 xs) (a9 ys)=cm at hc;have Hcm:=ag hcm;clear hcm;generalize hvy:a9 ys=y at h0 hy4 HCB ⊢;have HVY:=ag hvy;clear hvy;have hcn:¬cm<0:=by omega
 have hn2:¬(n:Int)<=2:=by omega
 have hn2':decide ((n:Int)<=2)=false:=by simpa using hn2
 go_enter Tryz.func137,Tryz.ntmps137
 go_wp2_with fail
 refine(fS (some ad) (some bd) n 1 c d L xs ys w om om HX.out HY.out HTX.out HTY.out).mono ?_;rintro e w1 ⟨rfl,hst⟩;rw[Hcm.out];have HB1:=ag (hst.below w.heap.size);have hcell:w1.cell? (bd.add 0)=some (.int .u32 y):=(hst.cell _).trans HCB.out;clear hst;have HCC:=ag hcell;clear hcell;have HY1:=ag (HY.out.below HB1.out hL)
 go_wp2_with fail
 refine(EF ad n c L xs w1 om om (by have:=HB1.out.size;omega) (HX.out.below HB1.out hL)).mono ?_
 rintro e w2 ⟨g,c',rfl,hc',hla⟩;have hcell2:w2.cell? (bd.add 0)=some (.int .u32 y):=by
  obtain⟨ad',e1,_,h5⟩:=(HY1.out.below (hla.1) (by have:=HB1.out.size;omega)).2.2 om
  cases e1
  have:=h5 0 om;rw[this];congr 2;have h6:=HY1.out.2.2 om;obtain⟨ad'',e2,_,h7⟩:=h6
  cases e2
  have h8:=h7 0 om;rw[HCC.out]at h8;cases h8;rfl
 have HLA:=ag hla;clear hla;have hb0:bd.add 0=bd:=by unfold Addr.add;simp
 rw[hb0]at hcell2
 go_wp2_with fail
 refine(rR w1.heap.size w1 w2 g n c' y xs om h0 hy4 HLA.out).mono ?_;rintro e w3 ⟨ps,rfl,hla3,hvp⟩;have HLA3:=ag hla3;clear hla3;have HVP:=ag hvp;clear hvp;have hr4:a9 xs%y<4294967296:=Nat.lt_trans (en _ h0) hy4;generalize hrr:a9 xs%y=r at hr4 ⊢;have HRR:=ag hrr;clear hrr
 go_wp2_with fail
 refine(kF _ _ _ _ _ _ hc' om HLA3.out.u32).mono ?_;rintro e w' ⟨⟨k,hk,rfl,hU2,hT,hv2⟩,rfl⟩;have HU2:=ag hU2;clear hU2;have HT:=ag hT;clear hT;have HV2:=ag hv2;clear hv2
 go_wp2_with fail
 refine(iP r w3 om).mono ?_;rintro e w4 ⟨A2,k2,c2,rs,rfl,hk2,hU3,hT3,hv3,hb3⟩;have HU3:=ag hU3;clear hU3;have HT3:=ag hT3;clear hT3;have HV3:=ag hv3;clear hv3;have HB3:=ag hb3;clear hb3;go_wp2;go_ret2;exact⟨_,k,c',_,A2,k2,c2,rs,rfl,by omega,hk2,(HU2.out.below HB3.out (ah _)).more HB3.out.size,HU3.out,HT.out,HT3.out,HV2.out.trans HVP.out,HV3.out.trans HRR.out.symm,(HB1.out.trans (HLA3.out.1.mono HB1.out.size)).trans (HB3.out.mono (Nat.le_trans HB1.out.size HLA3.out.1.size))⟩
theorem Cv(A B:Option Addr)(n m c d L:Nat)(xs ys:List Nat)(w:World)(hn:n<=536870912)(hm:m<=536870912)(hL:L<=w.heap.size)(hx:bX w L A n xs)(hy:bX w L B m ys)(tx:ob xs)(ty:ob ys)
  (h0:0<a9 ys) (hs:a9 xs<a9 ys∨n<=2∨m<=1) :
  Calls Tryz.prog 137 #[.slice A n c,.slice B m d] w (pk w (a9 xs/a9 ys) (a9 xs%a9 ys)):=by
 by_cases hlt:a9 xs<a9 ys
 ·have hq:=jN hlt;have hr:=jM hlt;rw[hq,hr];have HX:=ag hx;clear hx;have HY:=ag hy;clear hy;have HTX:=ag tx;clear tx;have HTY:=ag ty;clear ty;have Hc:=ag (jB hlt);clear hq hr hlt h0 hs
  go_enter Tryz.func137,Tryz.ntmps137
  go_wp2_with fail
  refine(fS A B n m c d L xs ys w om om HX.out HY.out HTX.out HTY.out).mono ?_;rintro e w1 ⟨rfl,hst⟩;rw[Hc.out];have HB1:=ag (hst.below w.heap.size);clear hst
  go_wp2_with fail
  refine(rU A n c L xs w1 om (by have:=HB1.out.size;omega) (HX.out.below HB1.out hL)).mono ?_
  rintro e w2 ⟨A',c',rfl,hc',hU,hb⟩;have HU:=ag hU;clear hU;have HB:=ag (HB1.out.trans (hb.mono HB1.out.size));clear hb;go_wp2;go_ret2;exact⟨none,0,0,[],A',n,c',xs,rfl,ah _,hc',KL _ _ _,HU.out,uB,HTX.out,rfl,rfl,HB.out⟩
 ·by_cases hn2:n<=2
  rotate_left
  ·obtain rfl:m=1:=by
    have:m≠0:=by
     rintro rfl;have h1:=aH hy ty;have:=iA.1 (show nl (a9 ys)<=0 by omega)
     simp at this;omega
    omega
   exact AU A B n c d L xs ys w hn om hL hx hy tx ty h0 hlt
  have hm2:m<=2:=by
   have h1:=eJ (show a9 ys<=a9 xs by omega)
   rw[<-aH hx tx,<-aH hy ty]at h1;omega
  have hc:0<=jC (a9 xs) (a9 ys):=by
   rcases aE (a9 ys) (a9 xs)with h|h
   ·rw[jk h];omega
   ·rw[kz om];omega
  have hc2:=(ny (a9 xs) (a9 ys)).2;have hx4:a9 xs<18446744073709551616:=by
   have h:=ib hx.2.1;rw[hx.1]at h;have h2:(4294967296:Nat)^n<=4294967296^2:=ca om hn2;omega
  have hy4:a9 ys<18446744073709551616:=by
   have h:=ib hy.2.1;rw[hy.1]at h;have h2:(4294967296:Nat)^m<=4294967296^2:=ca om hm2;omega
  have HX:=ag hx;clear hx;have HY:=ag hy;clear hy;have HTX:=ag tx;clear tx;have HTY:=ag ty;clear ty;generalize hcm:jC (a9 xs) (a9 ys)=cm at hc hc2;generalize hvx:a9 xs=x at hlt hx4 h0 ⊢;generalize hvy:a9 ys=y at hlt hy4 h0 ⊢;have HVX:=ag hvx;clear hvx;have HVY:=ag hvy;clear hvy;have Hcm:=ag hcm;clear hcm;clear hs hlt;have hn2i:(n:Int)<=2:=by omega
  have hcn:¬cm<0:=by omega
  have hy0:(y:Int)≠0:=by omega
  have hyn:y≠0:=by omega
  have hqle:x/y<=x:=je x y;have hrlt:x%y<y:=en x h0;have Hq:Hid (IntKind.u64.wrap ((x:Int)/(y:Int))=((x/y:Nat):Int)):=ag (by rw[IntKind.wrap_u64,<-Int.natCast_ediv];exact Int.emod_eq_of_lt (dV _) om)
  have Hr:Hid ((x:Int)%(y:Int)=((x%y:Nat):Int)):=ag (by simp)
  have Hr2:Hid ((x:Int).tmod (y:Int)=((x%y:Nat):Int)):=ag (by rw[aL (dV _)];simp)
  generalize x/y=q at hqle Hq ⊢;generalize x%y=r at hrlt Hr Hr2 ⊢
  go_enter Tryz.func137,Tryz.ntmps137
  go_wp2_with fail
  refine(fS A B n m c d L xs ys w om om HX.out HY.out HTX.out HTY.out).mono ?_;rintro e w1 ⟨rfl,hst⟩;rw[Hcm.out];have HB1:=ag (hst.below w.heap.size);clear hst
  go_wp2_with fail
  refine(mE A n c L xs _ om (HX.out.below HB1.out hL)).mono ?_;rintro e w' ⟨rfl,rfl⟩;rw[HVX.out]
  go_wp2_with fail
  refine(mE B m d L ys _ om (HY.out.below HB1.out hL)).mono ?_;rintro e w' ⟨rfl,rfl⟩;rw[HVY.out];go_wp2;have HQ:=ag HB1.out.drew
  go_region_held3 (fun w'=>Below w.heap.size w w')
   (first|assumption|exact HQ.out)
   (first
    | (go_at_call 135;rw[Hq.out];refine(iP q w1.drew om).mono ?_;rintro e w2 ⟨A1,k1,c1,qs,rfl,hk1,hU1,hT1,hv1,hb1⟩;have HU1:=ag hU1;clear hU1;have HT1:=ag hT1;clear hT1;have HV1:=ag hv1;clear hv1;have hB2:Below w.heap.size w w2:=HQ.out.trans (hb1.mono HQ.out.size);clear hb1)
    | (go_at_call 135;(first|rw[Hr.out]|rw[Hr2.out]);refine(iP r w2 om).mono ?_;rintro e w3 ⟨A2,k2,c2,rs,rfl,hk2,hU2,hT2,hv2,hb2⟩;have HU2:=ag hU2;clear hU2;have HT2:=ag hT2;clear hT2;have HV2:=ag hv2;clear hv2;have hB3:Below w.heap.size w w3:=hB2.trans (hb2.mono hB2.size);have HB3:=ag hb2;clear hb2))
  all_goals (try go_wp2)
  all_goals go_ret2
  all_goals exact⟨A1,k1,c1,qs,A2,k2,c2,rs,rfl,hk1,hk2,(HU1.out.below HB3.out (ah _)).more HB3.out.size,HU2.out,HT1.out,HT2.out,HV1.out,HV2.out,hB3⟩
theorem eF.other{w:World}{g g' i:Nat}{t:TypeId}{cs:Array Value}{u:Value}(h:eF w g t cs)(hne:g≠g'):eF (w.setCell ⟨g',i,none⟩ u) g t cs :=
 (Below.heap_setCell w ⟨g',i,none⟩ u g hne).trans h
theorem Ld(w:World)(a b c d:Array Value) :
  Below w.heap.size w ((((w.alloc (.cells a 50)).alloc (.cells b 50)).alloc (.cells c 50)).alloc (.cells d 50))/\eF ((((w.alloc (.cells a 50)).alloc (.cells b 50)).alloc (.cells c 50)).alloc (.cells d 50)) w.heap.size 50 a /\
  eF ((((w.alloc (.cells a 50)).alloc (.cells b 50)).alloc (.cells c 50)).alloc (.cells d 50)) (w.heap.size+1) 50 b/\eF ((((w.alloc (.cells a 50)).alloc (.cells b 50)).alloc (.cells c 50)).alloc (.cells d 50)) (w.heap.size+2) 50 c /\
  eF ((((w.alloc (.cells a 50)).alloc (.cells b 50)).alloc (.cells c 50)).alloc (.cells d 50)) (w.heap.size+3) 50 d:=by
 obtain⟨h1,h2,h3,h4⟩:=vk w a b c;refine⟨h1.alloc (by first|(simp;done)|(simp;omega)) _,h2.below ((aX _ _).alloc (ah _) _) (by first|(simp;done)|(simp;omega)),h3.below ((aX _ _).alloc (ah _) _) (by first|(simp;done)|(simp;omega)),h4.below ((aX _ _).alloc (ah _) _) (by simp),?_⟩
 have h:=eF.new (((w.alloc (.cells a 50)).alloc (.cells b 50)).alloc (.cells c 50)) 50 d;simpa using h
def xZ(w:World)(q r:Int)(e:Ending)(w':World):Prop:=∃v1 v2,e=.returned (.tuple #[v1,v2,.bool true])/\dL w' w'.heap.size v1 q/\dL w' w'.heap.size v2 r/\Below w.heap.size w w'
theorem xZ.cells{w w2:World}{g1 g2:Nat}{n1 n2 a b:Bool}{A1 A2 D1 D2:Option Addr}{k1 c1 k2 c2 m1 d1 m2 d2:Nat}{q r q' r':Int}
  (hI1:dL w2 w2.heap.size (.agg #[.bool n1,.slice A1 k1 c1]) q) (hI2:dL w2 w2.heap.size (.agg #[.bool n2,.slice A2 k2 c2]) r)
  (h1:eF w2 g1 50 #[.bool a,.slice D1 m1 d1]) (h2:eF w2 g2 50 #[.bool b,.slice D2 m2 d2]) (hne:g1≠g2) (hb:Below w.heap.size w w2) (hg1:w.heap.size<=g1) (hg2:w.heap.size<=g2) (hq:q=q') (hr:r=r') :
  xZ w q' r' (.returned (.tuple #[.agg #[.bool n1,.slice A1 k1 c1],.agg #[.bool n2,.slice A2 k2 c2],.bool true]))
   ((((w2.setCell ⟨g1,0,none⟩ (.bool n1)).setCell ⟨g1,1,none⟩ (.slice A1 k1 c1)).setCell ⟨g2,0,none⟩ (.bool n2)).setCell ⟨g2,1,none⟩ (.slice A2 k2 c2)):=by
 subst hq hr;have e1:eF (w2.setCell ⟨g1,0,none⟩ (.bool n1)) g1 50 #[.bool n1,.slice D1 m1 d1]:=by simpa using h1.set_ 0 (.bool n1)
 have h3:=(h2.other (i:=0) (u:=.bool n1) hne.symm).other (g':=g1) (i:=1) (u:=.slice A1 k1 c1) hne.symm;have e2:eF (((w2.setCell ⟨g1,0,none⟩ (.bool n1)).setCell ⟨g1,1,none⟩ (.slice A1 k1 c1)).setCell ⟨g2,0,none⟩ (.bool n2)) g2 50 #[.bool n2,.slice D2 m2 d2]:=by simpa using h3.set_ 0 (.bool n2)
 have t1:=(((hI1.put (i:=0) (u:=.bool n1) h1 (ku _ _ _ _)).put (i:=1) (u:=.slice A1 k1 c1) e1 (ku _ _ _ _)).put (i:=0) (u:=.bool n2) h3 (ku _ _ _ _)).put (i:=1) (u:=.slice A2 k2 c2) e2 (ku _ _ _ _);have t2:=(((hI2.put (i:=0) (u:=.bool n1) h1 (ku _ _ _ _)).put (i:=1) (u:=.slice A1 k1 c1) e1 (ku _ _ _ _)).put (i:=0) (u:=.bool n2) h3 (ku _ _ _ _)).put (i:=1) (u:=.slice A2 k2 c2) e2 (ku _ _ _ _);exact⟨_,_,rfl,by simpa using t1,by simpa using t2,(((hb.setCell (by exact hg1) _).setCell (by exact hg1) _).setCell (by exact hg2) _).setCell (by exact hg2) _⟩
theorem K6(s2:Bool)(x y:Nat):sg s2 (x/y)=(sg false x)/(sg s2 y)/\((x%y:Nat):Int)=(sg false x)%(sg s2 y):=by
 cases s2<;>simp[sg,Int.ediv_neg]
theorem AS(s2:Bool)(x y:Nat)(hy:0<y)(h:0<x%y):sg (!s2) (x/y+1)=(sg true x)/(sg s2 y)/\((y-x%y:Nat):Int)=(sg true x)%(sg s2 y):=by
 have h1:=gj x y;have h2:=en x hy;have e:(-(x:Int))=(y:Int)*(-((x/y:Nat):Int)-1)+((y-x%y:Nat):Int):=by
  have:((y-x%y:Nat):Int)=(y:Int)-((x%y:Nat):Int):=by omega
  rw[this];have h3:(x:Int)=(y:Int)*((x/y:Nat):Int)+((x%y:Nat):Int):=by rw[<-di,<-Int.natCast_add,h1]
  rw[Int.mul_sub,pG];omega
 have hq:(-(x:Int))/(y:Int)=-((x/y:Nat):Int)-1/\(-(x:Int))%(y:Int)=((y-x%y:Nat):Int):=by
  have:=(Int.ediv_emod_unique (a:=-(x:Int)) (b:=(y:Int)) (r:=((y-x%y:Nat):Int)) (q:=-((x/y:Nat):Int)-1) om).2 ⟨by rw[Int.add_comm];exact e.symm,by omega,by omega⟩
  exact this
 cases s2
 ·simp only[sg,oY,if_true,aN,if_false];rw[hq.1,hq.2];exact⟨by omega,rfl⟩
 ·simp only[sg,yd,if_true,aN,if_false];rw[Int.ediv_neg,Int.emod_neg,hq.1,hq.2];exact⟨by omega,rfl⟩
theorem AT(s2:Bool)(x y:Nat)(hy:0<y)(h:x%y=0):sg (!s2) (x/y)=(sg true x)/(sg s2 y)/\((0:Nat):Int)=(sg true x)%(sg s2 y):=by
 have h1:=gj x y;have h3:(x:Int)=(y:Int)*((x/y:Nat):Int):=by rw[<-di];omega
 have hq:(-(x:Int))/(y:Int)=-((x/y:Nat):Int)/\(-(x:Int))%(y:Int)=0:=by
  have:=(Int.ediv_emod_unique (a:=-(x:Int)) (b:=(y:Int)) (r:=0) (q:=-((x/y:Nat):Int)) om).2 ⟨by rw[pG];omega,by omega,by omega⟩
  exact this
 cases s2
 ·simp only[sg,oY,if_true,aN,if_false];rw[hq.1,hq.2];exact⟨rfl,rfl⟩
 ·simp only[sg,yd,if_true,aN,if_false];rw[Int.ediv_neg,Int.emod_neg,hq.1,hq.2];exact⟨by omega,rfl⟩
theorem vX(va vb:Value)(za zb:Int)(B:Nat)(w:World)(hB:B<=w.heap.size)(ha:dL w B va za)(hb:dL w B vb zb)(sa:nl za.natAbs<=268435456)(sb:nl zb.natAbs<=268435456)(h0:zb≠0)(hs:za.natAbs<zb.natAbs∨nl za.natAbs<=2∨nl zb.natAbs<=1) :
  Calls Tryz.prog 82 #[va,vb] w (xZ w (za/zb) (za%zb)):=by
 obtain⟨s1,A,n,c,xs,rfl,hnc,hx,tx,rfl⟩:=ha;obtain⟨s2,D,m,d,ys,rfl,hmd,hy,ty,rfl⟩:=hb;rw[eC,eC]at hs;rw[eC]at sa sb;rw[<-aH hx tx]at sa;rw[<-aH hy ty]at sb;rw[<-aH hx tx,<-aH hy ty]at hs;have hy0:0<a9 ys:=by
  rcases bO (a9 ys)with h|h
  ·rw[h,qk]at h0;exact absurd rfl h0
  ·exact h
 have hm0:m≠0:=by
  intro h;have h1:=aH hy ty;rw[h]at h1;have:=iA.1 (show nl (a9 ys)<=0 by omega)
  simp at this;omega
 have hm0':((m:Int)==0)=false:=by simp;omega
 have HX:=ag hx;clear hx;have HY:=ag hy;clear hy;have HTX:=ag tx;clear tx;have HTY:=ag ty;clear ty;have HY0:=ag hy0;clear hy0;have HSS:=ag hs;clear hs;clear h0;have HN:=ag (aH HX.out HTX.out);have HM:=ag (aH HY.out HTY.out)
 go_enter Tryz.func82,Tryz.ntmps82
 go_wp2_with fail
 obtain⟨hb0,k1,k2,k3,k4⟩:=Ld w #[Value.bool s1,Value.slice A n c] #[Value.bool s2,Value.slice D m d] #[Value.bool false,Value.slice none 0 0] #[Value.bool false,Value.slice none 0 0];generalize ((((w.alloc (Obj.cells #[Value.bool s1,Value.slice A n c] 50)).alloc (Obj.cells #[Value.bool s2,Value.slice D m d] 50)).alloc (Obj.cells #[Value.bool false,Value.slice none 0 0] 50)).alloc (Obj.cells #[Value.bool false,Value.slice none 0 0] 50))=W at hb0 k1 k2 k3 k4 ⊢;obtain⟨a0,a1⟩:=dN k1;obtain⟨b0,b1⟩:=dN k2;have HK3:=ag k3;have HK4:=ag k4;have HB0:=ag hb0;have hg2:w.heap.size+4<=W.heap.size:=k4.lt;clear k1 k2 k3 k4 hb0;have HS:=ag (show ∀w1,Below (w.heap.size+2) W w1->(w1.cell? ⟨w.heap.size,0,none⟩=some (.bool s1)/\w1.cell? ⟨w.heap.size,1,none⟩=some (.slice A n c)/\w1.cell? ⟨w.heap.size+1,0,none⟩=some (.bool s2)/\w1.cell? ⟨w.heap.size+1,1,none⟩=some (.slice D m d))from
  fun w1 h=>⟨(h.cell (by show w.heap.size<_;omega)).trans a0,(h.cell (by show w.heap.size<_;omega)).trans a1,(h.cell (by show w.heap.size+1<_;omega)).trans b0,(h.cell (by show w.heap.size+1<_;omega)).trans b1⟩)
 have HUX:Hid (bX W B A n xs):=ag (HX.out.below HB0.out hB);have HUY:Hid (bX W B D m ys):=ag (HY.out.below HB0.out hB);refine(fx D m d B ys W hmd om HUY.out HTY.out).mono ?_;rintro e w' ⟨rfl,rfl⟩
 go_wp2_with fail
 refine(fx A n c B xs W hnc om HUX.out HTX.out).mono ?_;rintro e w' ⟨rfl,rfl⟩
 go_wp2_with fail
 refine(Cv A D n m c d B xs ys W om om om HUX.out HUY.out HTX.out HTY.out HY0.out HSS.out).mono ?_;rintro e w1 ⟨A1,j1,c1,qs,A2,j2,c2,rs,rfl,hj1,hj2,hU1,hU2,hT1,hT2,hv1,hv2,hbn⟩;have hjq:j1<=n:=by
  have h1:=eJ (je (a9 xs) (a9 ys));rw[<-hv1,<-aH hU1 hT1,<-aH HX.out HTX.out]at h1;exact h1
 have hjr:j2<=n:=by
  have h1:=eJ (Nat.mod_le (a9 xs) (a9 ys));rw[<-hv2,<-aH hU2 hT2,<-aH HX.out HTX.out]at h1;exact h1
 have HU1:=ag hU1;clear hU1;have HU2:=ag hU2;clear hU2;have HT1:=ag hT1;clear hT1;have HT2:=ag hT2;clear hT2;have HV1:=ag hv1;clear hv1;have HV2:=ag hv2;clear hv2;have HB1:=ag hbn;have hsz1:=hbn.size;obtain⟨c00,c01,c10,c11⟩:=HS.out w1 (hbn.mono om);clear hbn a0 a1 b0 b1
 cases s1
 ·have HZ:=ag (K6 s2 (a9 xs) (a9 ys))
  go_wp2_with fail
  refine(fu s2 A1 j1 c1 w1.heap.size qs w1 hj1 om (ah _) HU1.out HT1.out).mono ?_;rintro e y2 ⟨v,rfl,hI,hbn⟩;obtain⟨neg,A3,n3,c3,zs3,rfl,hI3⟩:=hI;have HI:=ag hI3;clear hI3;have HB2:=ag hbn;clear hbn
  go_wp2_with fail
  refine(fu false A2 j2 c2 w1.heap.size rs y2 hj2 om HB2.out.size (HU2.out.below HB2.out (ah _)) HT2.out).mono ?_;rintro e y3 ⟨v,rfl,hI,hbn⟩;obtain⟨neg',A4,n4,c4,zs4,rfl,hI4⟩:=hI;have HJ:=ag hI4;clear hI4;have HB3:=ag hbn;clear hbn;have hsz2:=HB2.out.size;have HBW:Hid (Below W.heap.size W y3):=ag ((HB1.out.trans (HB2.out.mono om)).trans (HB3.out.mono om));have hk3:=HK3.out.below HBW.out om;have hk4:=HK4.out.below HBW.out om;obtain⟨e0,e1⟩:=dN hk3;have f0:=hk3.frozen 0;have f1:=hk3.frozen 1;obtain⟨g0,g1⟩:=dN hk4;have i0:=hk4.frozen 0;have i1:=hk4.frozen 1;have HK5:=ag hk3;clear hk3;have HK6:=ag hk4;clear hk4;go_wp2;exact bodyPost_ret (v:=.tuple #[.agg #[.bool neg,.slice A3 n3 c3],.agg #[.bool neg',.slice A4 n4 c4],.bool true]) (by simp[results,Tryz.results82,go_sem,e0,e1,g0,g1]) rfl
   (xZ.cells (dL.more (dL.below ⟨neg,A3,n3,c3,zs3,rfl,HI.out⟩ HB3.out (ah _)) HB3.out.size) ⟨neg',A4,n4,c4,zs4,rfl,HJ.out⟩ HK5.out HK6.out om (HB0.out.trans (HBW.out.mono om)) om om (by rw[HV1.out];exact HZ.out.1) (by rw[HV2.out];exact HZ.out.2))
 ·by_cases hr0:j2=0
  ·subst hr0;have hrs:rs=[]:=List.length_eq_zero_iff.1 HU2.out.1;have h00:a9 xs%a9 ys=0:=by rw[<-HV2.out,hrs];rfl
   have HZ:=ag (AT s2 (a9 xs) (a9 ys) HY0.out h00);have HRS:=ag hrs;clear hrs;clear h00
   go_wp2_with fail
   refine(fu (!s2) A1 j1 c1 w1.heap.size qs w1 hj1 om (ah _) HU1.out HT1.out).mono ?_;rintro e y2 ⟨v,rfl,hI,hbn⟩;obtain⟨neg,A3,n3,c3,zs3,rfl,hI3⟩:=hI;have HI:=ag hI3;clear hI3;have HB2:=ag hbn;clear hbn
   go_wp2_with fail
   refine(fu false A2 0 c2 w1.heap.size rs y2 hj2 om HB2.out.size (HU2.out.below HB2.out (ah _)) HT2.out).mono ?_;rintro e y3 ⟨v,rfl,hI,hbn⟩;obtain⟨neg',A4,n4,c4,zs4,rfl,hI4⟩:=hI;have HJ:=ag hI4;clear hI4;have HB3:=ag hbn;clear hbn;have hsz2:=HB2.out.size;have HBW:Hid (Below W.heap.size W y3):=ag ((HB1.out.trans (HB2.out.mono om)).trans (HB3.out.mono om));have hk3:=HK3.out.below HBW.out om;have hk4:=HK4.out.below HBW.out om;obtain⟨e0,e1⟩:=dN hk3;have f0:=hk3.frozen 0;have f1:=hk3.frozen 1;obtain⟨g0,g1⟩:=dN hk4;have i0:=hk4.frozen 0;have i1:=hk4.frozen 1;have HK5:=ag hk3;clear hk3;have HK6:=ag hk4;clear hk4;go_wp2;exact bodyPost_ret (v:=.tuple #[.agg #[.bool neg,.slice A3 n3 c3],.agg #[.bool neg',.slice A4 n4 c4],.bool true]) (by simp[results,Tryz.results82,go_sem,e0,e1,g0,g1]) rfl
    (xZ.cells (dL.more (dL.below ⟨neg,A3,n3,c3,zs3,rfl,HI.out⟩ HB3.out (ah _)) HB3.out.size) ⟨neg',A4,n4,c4,zs4,rfl,HJ.out⟩ HK5.out HK6.out om (HB0.out.trans (HBW.out.mono om)) om om (by rw[HV1.out];exact HZ.out.1) (by rw[HRS.out];exact HZ.out.2))
  ·have hpos:0<a9 xs%a9 ys:=by
    rcases bO (a9 xs%a9 ys)with h|h
    ·have h1:=aH HU2.out HT2.out;rw[HV2.out,h]at h1;have:nl 0=0:=by have:=iA.2 (show 0<4294967296^0 by omega);omega
     omega
    ·exact h
   have HZ:=ag (AS s2 (a9 xs) (a9 ys) HY0.out hpos);have hlt:=en (a9 xs) HY0.out;have hj2m:j2<=m:=by
    have h1:=eJ (Nat.le_of_lt hlt);rw[<-HV2.out,<-aH HU2.out HT2.out,<-aH HY.out HTY.out]at h1;exact h1
   have HLE:Hid (a9 rs<=a9 ys):=ag (by rw[HV2.out];omega)
   clear hlt hpos;have hj20:(0:Int)<j2:=by omega
   go_wp2_with fail
   have hbo:=(aX w1.heap.size w1).alloc (ah _) (Obj.cells #[Value.int IntKind.u32 1] 136);have hblk:eF (w1.alloc (Obj.cells #[Value.int IntKind.u32 1] 136)) w1.heap.size 136 (db [1] 0):=by
    have:=eF.new w1 136 #[Value.int IntKind.u32 1];simpa [db]using this
   have hU1:=bX.ofBlk (B:=w1.heap.size+1) hblk (by intro x hx;simp at hx;omega) om rfl
   refine(vC A1 (some ⟨w1.heap.size,0,none⟩) j1 1 c1 1 (w1.heap.size+1) qs [1] _ om om (by simp) ((HU1.out.below hbo (ah _)).more om) hU1).mono ?_
   rintro e w2 ⟨A5,k5,c5,zs5,rfl,hk5,hU5,hT5,hv5,hb5⟩;have HB5:=ag (hbo.trans (hb5.mono (by simp)))
   have hk5n:k5<=n+1:=by
    have h1:=F9 (a9 qs) (a9 [1]);have h2:=aH hU5 hT5;have h3:=aH HU1.out HT1.out;have h4:nl (a9 [1])<=1:=iA.2 (by simp[a9])
    rw[hv5]at h2;omega
   have HU5:=ag hU5;clear hU5;have HT5:=ag hT5;clear hT5;have HV5:=ag hv5;clear hv5;clear hb5 hbo hblk hU1;have hsz5:=HB5.out.size;obtain⟨d00,d01,d10,d11⟩:=HS.out w2 ((HB1.out.mono om).trans (HB5.out.mono om))
   go_wp2_with fail
   refine(nh D A2 m j2 d c2 w1.heap.size ys rs w2 hj2m om hsz5 ((HUY.out.below (HB1.out.trans (HB5.out.mono om)) om).more om) (HU2.out.below HB5.out (ah _)) HLE.out).mono ?_;rintro e w3 ⟨A6,k6,c6,zs6,rfl,hk6,hU6,hT6,hv6,hb6⟩;have hk6m:k6<=m:=by
    have h1:=eJ (Nat.sub_le (a9 ys) (a9 rs));rw[<-hv6,<-aH hU6 hT6,<-aH HY.out HTY.out]at h1;exact h1
   have HB6:=ag hb6;clear hb6;have HU6:=ag hU6;clear hU6;have HT6:=ag hT6;clear hT6;have HV6:=ag hv6;clear hv6;have hsz6:=HB6.out.size
   go_wp2_with fail
   refine(fu (!s2) A5 k5 c5 w3.heap.size zs5 w3 hk5 om (ah _) ((HU5.out.below HB6.out (ah _)).more HB6.out.size) HT5.out).mono ?_;rintro e y2 ⟨v,rfl,hI,hbn⟩;obtain⟨neg,A3,n3,c3,zs3,rfl,hI3⟩:=hI;have HI:=ag hI3;clear hI3;have HB2:=ag hbn;clear hbn
   go_wp2_with fail
   refine(fu false A6 k6 c6 w3.heap.size zs6 y2 hk6 om HB2.out.size (HU6.out.below HB2.out (ah _)) HT6.out).mono ?_;rintro e y3 ⟨v,rfl,hI,hbn⟩;obtain⟨neg',A4,n4,c4,zs4,rfl,hI4⟩:=hI;have HJ:=ag hI4;clear hI4;have HB3:=ag hbn;clear hbn;have hsz2:=HB2.out.size;have HBW:Hid (Below W.heap.size W y3):=ag ((((HB1.out.trans (HB5.out.mono om)).trans (HB6.out.mono om)).trans (HB2.out.mono om)).trans (HB3.out.mono om));have hk3:=HK3.out.below HBW.out om;have hk4:=HK4.out.below HBW.out om;obtain⟨e0,e1⟩:=dN hk3;have f0:=hk3.frozen 0;have f1:=hk3.frozen 1;obtain⟨g0,g1⟩:=dN hk4;have i0:=hk4.frozen 0;have i1:=hk4.frozen 1;have HK5:=ag hk3;clear hk3;have HK6:=ag hk4;clear hk4;go_wp2;exact bodyPost_ret (v:=.tuple #[.agg #[.bool neg,.slice A3 n3 c3],.agg #[.bool neg',.slice A4 n4 c4],.bool true]) (by simp[results,Tryz.results82,go_sem,e0,e1,g0,g1]) rfl
    (xZ.cells (dL.more (dL.below ⟨neg,A3,n3,c3,zs3,rfl,HI.out⟩ HB3.out (ah _)) HB3.out.size) ⟨neg',A4,n4,c4,zs4,rfl,HJ.out⟩ HK5.out HK6.out om (HB0.out.trans (HBW.out.mono om)) om om (by rw[HV5.out,HV1.out];simp only[a9,Nat.mul_zero,Nat.add_zero];exact HZ.out.1) (by rw[HV6.out,HV2.out];exact HZ.out.2))
end Go.Proofs.YtdobfmlmenaajaaGreatDoor
