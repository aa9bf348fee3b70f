/-
  Lemmas for NeighbourMembers.
-/
import Derived.Test.YtdobfmlmenaajaaGreatDoorProg
import Derived.WalkKit
import Derived.WalkLawsBesides
import Derived.WalkSpells
import Derived.Below
import Derived.Lib.Hide
import Derived.Laws.MakeOwn
import Derived.Laws.OwnMore
import Derived.Laws.NewBlocks
import Derived.Laws.Rows
import Derived.Deep.Draws
import Derived.Deep.QuietTactic
import Derived.BigQuiet
import Derived.Outline
import Derived.KernelRfl
import Derived.Laws.BitsAllLaws
import Derived.Laws.BitsAll
import Derived.StillTailTactics
import Derived.Deep.RegionHeld3
namespace Go.Proofs.YtdobfmlmenaajaaGreatDoor
open Go.RowKit
open Below renaming refl→aX
open _root_.Int renaming toNat_natCast→eN
open Lib renaming hid→ag
open _root_.List renaming getElem?_eq_getElem→bA,take_of_length_le→bF,replicate→bL,getElem?_cons_succ→bN,getElem?_eq_none→cg,length_cons→cr,getD→cB,getElem?_cons_zero→cE,length_take→dX,getElem?_toArray→eP,drop_of_length_le→fy
open _root_.Nat renaming le_refl→ah,lt_or_ge→aE,mul_comm→aO,mul_le_mul_left→aY,eq_zero_or_pos→bO,pow_succ→cn,mul_add→ct,le_of_lt→dd,mul_assoc→fL,min_eq_left→gf,add_assoc→mB,le_of_eq→r7,add_comm→r8
open _root_.Option renaming getD_some→fG
set_option maxHeartbeats 6400000
set_option maxRecDepth 4096
set_option linter.all false
theorem an{a b:Prop}(h:b)(k:a:=by omega):a∧b:=⟨k,h⟩
theorem om{p:Prop}(h:p:=by omega):p:=h
theorem nn{a b:Nat}(h:a≠b):a≠b∧b≠a:=⟨h,Ne.symm h⟩
def a9:List Nat->Nat
 | []=>0
 | x::l=>x+4294967296*a9 l
def lQ(l:List Nat):Prop:=∀x∈l,x<4294967296
def ob(l:List Nat):Prop:=∀x,l.getLast? = some x->x≠0
theorem tS(a b:List Nat):a9 (a++b)=a9 a+4294967296^a.length*a9 b:=by
 induction a with
 | nil=>simp[a9]
 | cons x a ih=>simp only[List.cons_append,a9,ih,cr,cn];rw[ct,mB,<-fL,aO (4294967296^a.length) 4294967296]
theorem fF(a:List Nat)(x:Nat):a9 (a++[x])=a9 a+4294967296^a.length*x:=by
 rw[tS];simp[a9]
theorem de(l:List Nat)(k:Nat)(h:k<l.length):a9 (l.take (k+1))=a9 (l.take k)+4294967296^k*l.getD k 0:=by
 rw[List.take_succ_eq_append_getElem h,fF,dX,gf (dd h)];simp[cB,bA h]
theorem lQ.getD{l:List Nat}(h:lQ l)(k:Nat):l.getD k 0<4294967296:=by
 rcases aE k l.length with hk|hk
 ·simp only[cB,bA hk,fG];exact h _ (List.getElem_mem hk)
 ·simp[cB,cg hk]
theorem lQ.snoc{l:List Nat}(h:lQ l){x:Nat}(hx:x<4294967296):lQ (l++[x]):=by
 intro y hy;rcases List.mem_append.1 hy with h1|h1
 ·exact h y h1
 ·rw[List.mem_singleton.1 h1];exact hx
theorem lQ.take{l:List Nat}(h:lQ l)(k:Nat):lQ (l.take k):=fun x hx=>h x (List.mem_of_mem_take hx)
theorem ib{l:List Nat}(h:lQ l):a9 l<4294967296^l.length:=by
 induction l with
 | nil=>simp[a9]
 | cons x l ih =>
  have h1:=ih (fun y hy=>h y (List.mem_cons_of_mem _ hy));have h2:=h x (List.mem_cons_self ..);simp only[a9,cr,cn];generalize 4294967296^l.length=p at *;omega
theorem lm(k:Nat)(l:List Nat)(h:∀j,k<=j->l.getD j 0=0):a9 l=a9 (l.take k):=by
 induction l generalizing k with
 | nil=>simp
 | cons x l ih =>
  cases k with
  | zero =>
   have h0:x=0:=by simpa [cB]using h 0 (ah _)
   have h1:=ih 0 (fun j _=>by have:=h (j+1) om;simpa [cB]using this)
   simp only[List.take_zero,a9]at h1 ⊢;omega
  | succ k =>
   have h1:=ih k (fun j hj=>by have:=h (j+1) om;simpa [cB]using this)
   simp only[List.take_succ_cons,a9];omega
theorem oL{p vz vx vy car x y:Nat}(h:vz+car*p=vx+vy) :
  vz+p*((car+(x+y))%4294967296)+(car+(x+y))/4294967296*(p*4294967296)=(vx+p*x)+(vy+p*y):=by
 have hd:=Nat.div_add_mod (car+(x+y)) 4294967296;have:p*((car+(x+y))%4294967296)+(car+(x+y))/4294967296*(p*4294967296)=p*(car+(x+y)):=by
  calc
   p*((car+(x+y))%4294967296)+(car+(x+y))/4294967296*(p*4294967296)
   =p*(4294967296*((car+(x+y))/4294967296)+(car+(x+y))%4294967296):=by
     rw[ct];rw[r8];congr 1;rw[aO,fL]
   _=p*(car+(x+y)):=by rw[hd]
 rw[mB,this,ct,ct,aO p car];omega
theorem ro(l:List Nat)(i:Nat)(h:i<l.length):a9 l=a9 (l.take i)+4294967296^i*(l.getD i 0+4294967296*a9 (l.drop (i+1))):=by
 have h1:l=l.take i++l[i]::l.drop (i+1):=by rw[List.getElem_cons_drop,List.take_append_drop]
 have h2:a9 l=a9 (l.take i++l[i]::l.drop (i+1)):=by rw[<-h1]
 rw[h2,tS,dX,gf (dd h)];simp[a9,cB,bA h]
theorem o5{a b:List Nat}{i:Nat}(ha:lQ a)(hai:i<a.length)(hl:a.length=b.length)(hd:a.drop (i+1)=b.drop (i+1))(h:a.getD i 0<b.getD i 0):a9 a<a9 b:=by
 rw[ro a i hai,ro b i om,hd];have h1:=ib (ha.take i);rw[dX,gf (dd hai)]at h1;generalize 4294967296^i=p at *;generalize a9 (b.drop (i+1))=v at *;have h2:p*(a.getD i 0+4294967296*v)+p<=p*(b.getD i 0+4294967296*v):=by
  rw[<-Nat.mul_succ];exact aY _ om
 omega
theorem tR{l:List Nat}(h:ob l)(h0:l≠[]):4294967296^(l.length-1)<=a9 l:=by
 have h1:=List.dropLast_concat_getLast h0;have h2:a9 l=a9 (l.dropLast++[l.getLast h0]):=by rw[h1]
 rw[h2,fF,List.length_dropLast];have h3:l.getLast h0≠0:=h _ (by rw[List.getLast?_eq_some_getLast h0])
 have h4:1<=l.getLast h0:=by omega
 calc
  4294967296^(l.length-1)=4294967296^(l.length-1)*1:=by omega
  _<=4294967296^(l.length-1)*l.getLast h0:=aY _ h4
  _<=_:=Nat.le_add_left _ _
theorem nd{a b:List Nat}(ha:lQ a)(hb:ob b)(h:a.length<b.length):a9 a<a9 b:=by
 have h1:=ib ha;have h2:=tR hb (by intro e;subst e;simp at h)
 have h3:(4294967296:Nat)^a.length<=4294967296^(b.length-1):=Nat.pow_le_pow_right om om;omega
def jC(a b:Nat):Int:=if a<b then -1 else if b<a then 1 else 0
theorem jB{a b:Nat}(h:a<b):jC a b=-1:=by simp[jC,h]
theorem jk{a b:Nat}(h:b<a):jC a b=1:=by
 have h1:¬a<b:=by omega
 simp[jC,h,h1]
theorem kz{a b:Nat}(h:a=b):jC a b=0:=by simp[jC,h]
theorem Ao{p vz vx vy bo x y:Nat}(h:vz+vy=vx+bo*p)(hb:bo<=1)(hx:x<4294967296)(hy:y<4294967296) :
  ∃z b,z=(x+18446744073709551616-bo-y)%4294967296/\b=(x+18446744073709551616-bo-y)%18446744073709551616/9223372036854775808/\z<4294967296/\b<=1 /\
   (vz+p*z)+(vy+p*y)=(vx+p*x)+b*(p*4294967296):=by
 refine⟨_,_,rfl,rfl,by omega,by omega,?_⟩
 rcases aE x (bo+y)with hlt|hge
 ·have h1:(x+18446744073709551616-bo-y)%4294967296=x+4294967296-bo-y:=by omega
  have h2:(x+18446744073709551616-bo-y)%18446744073709551616/9223372036854775808=1:=by omega
  rw[h1,h2];have h3:p*(x+4294967296-bo-y)+p*y+p*bo=p*x+p*4294967296:=by
   rw[<-ct,<-ct,<-ct];congr 1;omega
  rw[aO bo p]at h;omega
 ·have h1:(x+18446744073709551616-bo-y)%4294967296=x-bo-y:=by omega
  have h2:(x+18446744073709551616-bo-y)%18446744073709551616/9223372036854775808=0:=by omega
  rw[h1,h2];have h3:p*(x-bo-y)+p*y+p*bo=p*x:=by
   rw[<-ct,<-ct];congr 1;omega
  rw[aO bo p]at h;omega
def nl(v:Nat):Nat:=if v=0 then 0 else v.log2/32+1
theorem uj(k:Nat):(4294967296:Nat)^k=2^(32*k):=by
 rw[show(4294967296:Nat)=2^32 from rfl,<-Nat.pow_mul]
theorem iA{v k:Nat}:nl v<=k↔v<4294967296^k:=by
 unfold nl;split
 ·subst_vars
  simp[Nat.pow_pos]
 ·rename_i h0;rw[uj,<-Nat.log2_lt h0];omega
theorem eJ{a b:Nat}(h:a<=b):nl a<=nl b:=iA.2 (Nat.lt_of_le_of_lt h (iA.1 (ah _)))
theorem F9(a b:Nat):nl (a+b)<=max (nl a) (nl b)+1:=by
 rw[iA,cn];have h1:a<4294967296^(max (nl a) (nl b)):=iA.1 om;have h2:b<4294967296^(max (nl a) (nl b)):=iA.1 om;generalize 4294967296^(max (nl a) (nl b))=p at *;omega
theorem KK(a b:Nat):nl (a*b)<=nl a+nl b:=by
 rw[iA,Nat.pow_add];exact Nat.mul_lt_mul'' (iA.1 (ah _)) (iA.1 (ah _))
theorem yQ{xs:List Nat}(hl:lQ xs)(ht:ob xs):xs.length=nl (a9 xs):=by
 apply Nat.le_antisymm
 ·rcases bO xs.length with h|h
  ·omega
  ·have h1:=tR ht (by intro e;subst e;simp at h)
   rcases aE (nl (a9 xs)) xs.length with h2|h2
   ·have h3:nl (a9 xs)<=xs.length-1:=by omega
    have h4:=iA.1 h3;omega
   ·exact h2
 ·exact iA.2 (ib hl)
def sg(neg:Bool)(v:Nat):Int:=if neg then -(v:Int)else v
theorem eC(neg:Bool)(v:Nat):(sg neg v).natAbs=v:=by cases neg<;>simp[sg]
theorem BX(neg:Bool)(v:Nat):sg (!neg) v=-sg neg v:=by cases neg<;>simp[sg]
theorem qk(neg:Bool):sg neg 0=0:=by cases neg<;>simp[sg]
theorem lv(a:Addr)(n:Nat):(a.add n).block=a.block:=by unfold Addr.add;split<;>rfl
def eF(w:World)(g:Nat)(t:TypeId)(cs:Array Value):Prop:=w.heap[g]? = some (.cells cs t (0,0))
section
variable {w w':World} {g:Nat} {t:TypeId} {cs:Array Value}
theorem eF.lt(h:eF w g t cs):g<w.heap.size:=by
 rcases aE g w.heap.size with hlt|hge
 ·exact hlt
 ·unfold eF at h;rw[Array.getElem?_eq_none hge]at h;cases h
theorem eF.cell(h:eF w g t cs)(i:Nat):w.cell? ⟨g,i,none⟩=cs[i]?:=cell_of_row w g i cs t (0,0) h
theorem eF.frozen(h:eF w g t cs)(i:Nat):w.frozen? ⟨g,i,none⟩=false:=by
 unfold eF at h;simp[World.frozen?,h]
theorem eF.new(w:World)(t:TypeId)(cs:Array Value):eF (w.alloc (.cells cs t)) w.heap.size t cs:=heap_alloc_new w _
theorem eF.set_(h:eF w g t cs)(i:Nat)(u:Value):eF (w.setCell ⟨g,i,none⟩ u) g t (cs.setIfInBounds i u):=by
 unfold eF at h ⊢;simp[World.setCell,Array.getElem?_modify,h]
theorem eF.below{B:Nat}(h:eF w g t cs)(hb:Below B w w')(hg:g<B):eF w' g t cs:=(hb.block g hg).trans h
end
def eH(w w':World):Prop:=∃n,w'=w.drewN n
theorem eH.refl(w:World):eH w w:=⟨0,rfl⟩
theorem eH.more{w w':World}(h:eH w w')(n:Nat):eH w (w'.drewN n):=by
 obtain⟨k,rfl⟩:=h;exact⟨k+n,by rw[World.drewN_drewN]⟩
theorem eH.trans{a b c:World}(h:eH a b)(k:eH b c):eH a c:=by
 obtain⟨n,rfl⟩:=k;exact h.more n
theorem eH.below{w w':World}(h:eH w w')(B:Nat):Below B w w':=by
 obtain⟨k,rfl⟩:=h;exact⟨rfl,rfl,rfl,ah _,fun _ _=>rfl⟩
theorem eH.heap{w w':World}(h:eH w w'):w'.heap=w.heap:=by obtain⟨k,rfl⟩:=h;rfl
theorem eH.cell{w w':World}(h:eH w w')(a:Addr):w'.cell? a=w.cell? a:=by obtain⟨k,rfl⟩:=h;rfl
def bX(w:World)(B:Nat)(A:Option Addr)(n:Nat)(xs:List Nat):Prop :=
 xs.length=n/\lQ xs/\(0<n->∃ad:Addr,A=some ad/\ad.block<B/\∀j,j<n->w.cell? (ad.add j)=some (.int .u32 (xs.getD j 0)))
theorem bX.below{w w':World}{B B':Nat}{A:Option Addr}{n:Nat}{xs:List Nat}(h:bX w B A n xs)(hb:Below B' w w')(hB:B<=B'):bX w' B A n xs :=
 ⟨h.1,h.2.1,fun hn=>by
  obtain⟨ad,e,hl,hc⟩:=h.2.2 hn;exact⟨ad,e,hl,fun j hj=>(hb.cell (by rw[lv];omega)).trans (hc j hj)⟩⟩
theorem bX.still{w w':World}{B:Nat}{A:Option Addr}{n:Nat}{xs:List Nat}(h:bX w B A n xs)(hs:eH w w'):bX w' B A n xs :=
 h.below (hs.below B) (ah _)
theorem bX.more{w:World}{B B':Nat}{A:Option Addr}{n:Nat}{xs:List Nat}(h:bX w B A n xs)(hB:B<=B'):bX w B' A n xs :=
 ⟨h.1,h.2.1,fun hn=>by
  obtain⟨ad,e,hl,hc⟩:=h.2.2 hn;exact⟨ad,e,by omega,hc⟩⟩
theorem bX.at_{w:World}{B:Nat}{A:Option Addr}{n:Nat}{xs:List Nat}(h:bX w B A n xs){k:Nat}(hk:k<n) :
  ∃(ad:Addr) (x:Nat),A=some ad/\ad.block<B/\xs.getD k 0=x/\x<4294967296/\w.cell? (ad.add k)=some (.int .u32 x):=by
 obtain⟨ad,e,hl,hc⟩:=h.2.2 om;exact⟨ad,_,e,hl,rfl,h.2.1.getD k,hc k hk⟩
theorem bX.take{w:World}{B:Nat}{A:Option Addr}{n:Nat}{xs:List Nat}(h:bX w B A n xs){k:Nat}(hk:k<=n):bX w B A k (xs.take k) :=
 ⟨by rw[dX,h.1];omega,h.2.1.take k,fun h0=>by
  obtain⟨ad,e,hl,hc⟩:=h.2.2 om;exact⟨ad,e,hl,fun j hj=>by rw[hc j om];simp[cB,hj]⟩⟩
def db(zs:List Nat)(r:Nat):Array Value:=((zs++bL r 0).map (fun x:Nat=>Value.int .u32 x)).toArray
theorem ml(zs:List Nat)(r k:Nat)(h:k<zs.length+r):(db zs r)[k]? = some (.int .u32 ((zs++bL r 0).getD k 0)):=by
 have hl:k<(zs++bL r 0).length:=by simpa using h
 simp only[db,eP,List.getElem?_map,bA hl,Option.map_some,cB,fG]
theorem wx(zs:List Nat)(r x:Nat):(db zs (r+1)).setIfInBounds zs.length (.int .u32 x)=db (zs++[x]) r:=by
 simp[db,List.replicate_succ]
theorem wA(r:Nat):db [] r=Array.replicate r (.int .u32 0):=by simp[db]
theorem bX.ofBlk{w:World}{g r:Nat}{zs:List Nat}(h:eF w g 136 (db zs r))(hz:lQ zs){B:Nat}(hB:g<B)(hr:r=0):bX w B (some ⟨g,0,none⟩) zs.length zs :=
 ⟨rfl,hz,fun _=>⟨_,rfl,hB,fun j hj=>by
  subst hr;have h1:(⟨g,0,none⟩:Addr).add j=⟨g,j,none⟩:=by unfold Addr.add;split<;>simp_all
  rw[h1,h.cell,ml _ _ _ om];simp⟩⟩
theorem Ch(n:Nat)(hn:n<=1073741824)(w:World) :
  (Instr.makeSlice 48 (.int .i64 n) (.int .i64 n)).run Tryz.prog w=.ok (.slice (some ⟨w.heap.size,0,none⟩) n n) (w.alloc (.cells (db [] n) 136)):=by
 have h:=run_make (P:=Tryz.prog) w 48 136 Tryz.t136 (.int .u32 0) Tryz.underlying48 (by kernel_rfl) (by kernel_rfl) .i64 .i64 (n:Int) (n:Int) om om (by show(4:Int)*(n:Int)<=_;omega) om
 have hs:Tryz.t136.size=1:=by kernel_rfl
 have e:madeCells (Value.int .u32 0).cells ((n:Int).toNat*Tryz.t136.size)=db [] n:=by
  rw[hs,Nat.mul_one,eN,wA];apply Array.ext
  ·simp[madeCells]
  ·intro i h1 h2;simp[madeCells,Value.cells,Nat.mod_one]
 rw[e,eN]at h;exact h
def nG(w:World)(v:Nat)(e:Ending)(w':World):Prop :=
 ∃(A:Option Addr) (n c:Nat) (zs:List Nat),e=.returned (.slice A n c)/\n<=c/\bX w' w'.heap.size A n zs/\ob zs/\a9 zs=v/\Below w.heap.size w w'
theorem qg{xs:List Nat}{k:Nat}(h:0<k->xs.getD (k-1) 0≠0)(hk:k<=xs.length):ob (xs.take k):=by
 intro x hx;rcases bO k with h0|h0
 ·subst h0;simp at hx
 ·have h1:=h h0;rw[List.getLast?_eq_getElem?,dX,gf hk,List.getElem?_take_of_lt om]at hx;simp only[cB,hx,fG]at h1;exact h1
theorem kF(A:Option Addr)(n c B:Nat)(xs:List Nat)(w:World)(hn:n<=c)(hm:n<=9223372036854775807)(h:bX w B A n xs) :
  Calls Tryz.prog 136 #[.slice A n c] w fun e w'=>(∃k,k<=n/\e=.returned (.slice A k c)/\bX w B A k (xs.take k)/\ob (xs.take k)/\a9 (xs.take k)=a9 xs)/\w=w':=by
 have HH:=ag h;clear h
 go_enter Tryz.func136,Tryz.ntmps136
 go_wp2
 go_loop [0] (fun s=>∃k:Nat,k<=n/\s=.slice A k c/\Hid (∀j,k<=j->xs.getD j 0=0)) (fun s=>match s with|.slice _ k _=>k|_=>0)
 case atStart=>exact⟨n,ah _,rfl,ag (fun j hj=>by simp[cB,cg (show xs.length<=j by rw[HH.out.1];exact hj)])⟩
 case round =>
  obtain⟨k,hk,rfl,hz⟩:=hrel;by_cases h0:k=0
  ·subst h0;go_wp2;go_ret;exact⟨⟨0,by omega,rfl,HH.out.take om,qg (fun h=>absurd h om) om,(lm 0 xs hz.out).symm⟩,rfl⟩
  ·obtain⟨m,rfl⟩:∃m,k=m+1:=⟨k-1,by omega⟩
   obtain⟨ad,x,rfl,_,hx',_,hx⟩:=HH.out.at_ (k:=m) om;have HX:=ag hx';clear hx';by_cases hx0:x=0
   ·subst hx0;go_wp2;refine⟨⟨m,by omega,rfl,ag fun j hj=>?_⟩,by simp⟩
    rcases aE m j with h|h
    ·exact hz.out j h
    ·obtain rfl:j=m:=by omega
     exact HX.out
   ·have hb1:((x:Int)==0)=false:=by simp;omega
    go_wp2;go_ret;exact⟨⟨m+1,hk,rfl,HH.out.take hk,qg (fun _=>by rw[Nat.add_sub_cancel,HX.out];exact hx0) (by rw[HH.out.1];exact hk),(lm (m+1) xs hz.out).symm⟩,rfl⟩
def fW(w wr:World)(zs:List Nat)(r:Nat):Prop:=Below w.heap.size w wr/\eF wr w.heap.size 136 (db zs r)
theorem fW.start(w:World)(r:Nat):fW w (w.alloc (.cells (db [] r) 136)) [] r:=⟨(aX _ _).alloc (ah _) _,eF.new _ _ _⟩
theorem fW.drewN{w wr:World}{zs:List Nat}{r:Nat}(h:fW w wr zs r)(q:Nat):fW w (wr.drewN q) zs r:=⟨⟨h.1.os,h.1.tape,h.1.output,h.1.size,h.1.block⟩,h.2⟩
theorem fW.put{w wr:World}{zs:List Nat}{r:Nat}(h:fW w wr zs (r+1))(k x:Nat)(hk:k=zs.length):fW w (wr.setCell ⟨w.heap.size,k,none⟩ (.int .u32 x)) (zs++[x]) r:=by
 subst hk;refine⟨h.1.setCell (ah _) _,?_⟩;have:=h.2.set_ zs.length (.int .u32 x)
 rwa [wx]at this
theorem fW.old{w wr:World}{zs:List Nat}{r k:Nat}(h:fW w wr zs r)(hk:k<zs.length+r):∃u,wr.cell? ⟨w.heap.size,k,none⟩=some u/\wr.frozen? ⟨w.heap.size,k,none⟩=false :=
 ⟨_,(h.2.cell k).trans (ml zs r k hk),h.2.frozen k⟩
def Jz(xs ys zs:List Nat)(k car:Nat):Prop:=zs.length=k/\lQ zs/\a9 zs+car*4294967296^k=a9 (xs.take k)+a9 (ys.take k)
theorem EZ(A B:Option Addr)(n m c d L:Nat)(xs ys:List Nat)(w:World)(hmn:m<=n)(hn:n<=536870912)(hL:L<=w.heap.size)(hx:bX w L A n xs)(hy:bX w L B m ys) :
  Calls Tryz.prog 138 #[.slice A n c,.slice B m d] w (nG w (a9 xs+a9 ys)):=by
 have hmk:=Ch (n+1) om;rw[show((n+1:Nat):Int)=(n:Int)+1 from by omega]at hmk
 have hlt:¬(n<m):=by omega
 have HX:=ag hx;clear hx;have HY:=ag hy;clear hy
 go_enter Tryz.func138,Tryz.ntmps138
 go_wp2;clear hmk
 go_loopw [6,22] (fun cv iv wr=>∃(k car:Nat) (zs:List Nat),k<=m/\iv=.int .i64 k/\cv=.int .u64 car/\car<=1/\Hid (fW w wr zs (n+1-k))/\Hid (Jz xs ys zs k car)) (fun _ iv _=>m-(intOf iv).toNat)
 case atStart=>exact⟨0,0,[],by omega,rfl,rfl,by omega,ag (fW.start w (n+1)),ag ⟨rfl,by simp[lQ],by simp[a9]⟩⟩
 case round =>
  obtain⟨k,car,zs,hk,rfl,rfl,hcar,HF,HS⟩:=hrel;by_cases hkm:k<m
  ·obtain⟨ad,x,rfl,hab,hxx,hx4,h1⟩:=(HX.out.below HF.out.1 hL).at_ (k:=k) om;obtain⟨bd,y,rfl,hbb,hyy,hy4,h2⟩:=(HY.out.below HF.out.1 hL).at_ (k:=k) om;obtain⟨u,hu,hf⟩:=HF.out.old (k:=k) (by have:=HS.out.1;omega)
   have HXX:=ag hxx;clear hxx;have HYY:=ag hyy;clear hyy;have hkn:(k:Int)<n:=by omega
   have hkm':(k:Int)<m:=by omega
   have hk0:(0:Int)<=k:=by omega
   go_wp2
   go_quiet (fail)
   go_wp2
   go_roundw
   case rel =>
    exact⟨k+1,(car+(x+y))/4294967296,zs++[(car+(x+y))%4294967296],by omega,by go_num,by go_num,by omega,
     ag (by
      have h3:n+1-k=(n+1-(k+1))+1:=by omega
      have h4:=HF.out;rw[h3]at h4;have h5:=(h4.drewN nq).put k ((car+(x+y))%4294967296) HS.out.1.symm;exact h5),
     ag (by
      obtain⟨s1,s2,s3⟩:=HS.out;refine⟨by simp[s1],s2.snoc om,?_⟩
      rw[fF,s1,de _ _ (by rw[HX.out.1];omega),de _ _ (by rw[HY.out.1];omega),HXX.out,HYY.out,cn]
      exact oL s3)⟩
   case measure=>simp[intOf];omega
  ·obtain rfl:k=m:=by omega
   go_wp2
   go_loopw [6,51] (fun cv iv wr=>∃(i car:Nat) (zs:List Nat),i<=n-k/\iv=.int .i64 i/\cv=.int .u64 car/\car<=1/\Hid (fW w wr zs (n+1-(k+i)))/\Hid (Jz xs ys zs (k+i) car)) (fun _ iv _=>n-k-(intOf iv).toNat)
   case atStart=>exact⟨0,car,zs,by omega,rfl,rfl,hcar,HF,HS⟩
   case round =>
    clear HF HS hcar;obtain⟨i,car,zs,hi,rfl,rfl,hcar,HF,HS⟩:=hrel;by_cases hin:i<n-k
    ·obtain⟨ad,x,rfl,hab,hxx,hx4,h1⟩:=(HX.out.below HF.out.1 hL).at_ (k:=k+i) om;obtain⟨u,hu,hf⟩:=HF.out.old (k:=k+i) (by have:=HS.out.1;omega)
     have HXX:=ag hxx;clear hxx;have hkn:(k:Int)+i<n:=by omega
     have hkn1:(k:Int)+i<n+1:=by omega
     have hk0:(0:Int)<=(k:Int)+i:=by omega
     have hti:((k:Int)+i).toNat=k+i:=by omega
     have hlt2:(i:Int)<(n:Int)-k:=by omega
     go_wp2
     go_roundw
     case rel =>
      exact⟨i+1,(car+x)/4294967296,zs++[(car+x)%4294967296],by omega,by go_num,by go_num,by omega,
       ag (by
        have h3:n+1-(k+i)=(n+1-(k+(i+1)))+1:=by omega
        have h4:=HF.out;rw[h3]at h4;have h5:=h4.put (k+i) ((car+x)%4294967296) HS.out.1.symm;exact h5),
       ag (by
        obtain⟨s1,s2,s3⟩:=HS.out;refine⟨by simp[s1];omega,s2.snoc om,?_⟩
        have hyt:∀r,k<=r->ys.take r=ys:=fun r hr=>bF (by rw[HY.out.1];exact hr)
        rw[hyt _ om]at s3 ⊢;rw[fF,s1,show k+(i+1)=k+i+1 from by omega,de _ _ (by rw[HX.out.1];omega),HXX.out,cn]
        have:=oL (p:=4294967296^(k+i)) (x:=x) (y:=0) s3;simpa using this)⟩
     case measure=>simp[intOf];omega
    ·obtain rfl:i=n-k:=by omega
     have hkn:k+(n-k)=n:=by omega
     obtain⟨u,hu,hf⟩:=HF.out.old (k:=n) (by have:=HS.out.1;omega)
     have hge:¬(((n-k:Nat):Int)<(n:Int)-k):=by omega
     go_wp2_with fail
     have h4:=HF.out;rw[show n+1-(k+(n-k))=0+1 from by omega]at h4
     have hl:zs.length=n:=by rw[HS.out.1,hkn]
     have h5:=h4.put n car hl.symm;have hlim:lQ (zs++[car]):=HS.out.2.1.snoc om;have hU:=bX.ofBlk h5.2 hlim h5.2.lt rfl;rw[show(zs++[car]).length=n+1 from by simp[hl]]at hU
     have hB5:=h5.1;have hv:a9 (zs++[car])=a9 xs+a9 ys:=by
      obtain⟨s1,s2,s3⟩:=HS.out;rw[fF,hl,aO];rw[hkn,bF (by rw[HX.out.1];exact ah _),bF (by rw[HY.out.1];exact hmn)]at s3
      exact s3
     clear h4 h5 HF HS hu hf;have HU:=ag hU;clear hU;have HV:=ag hv;clear hv;have HB:=ag hB5;clear hB5;refine(kF _ _ _ _ _ _ (ah _) om HU.out).mono ?_;rintro e w' ⟨⟨r,hr,rfl,hU2,hT,hv2⟩,rfl⟩;have HU2:=ag hU2;clear hU2;have HV2:=ag hv2;clear hv2;go_wp2;go_ret;exact⟨_,_,_,_,rfl,hr,HU2.out,hT,HV2.out.trans HV.out,HB.out⟩
theorem EY(A B:Option Addr)(n m c d L:Nat)(xs ys:List Nat)(w:World)(hmn:m<n)(hn:n<=536870912)(hL:L<=w.heap.size)(hx:bX w L A n xs)(hy:bX w L B m ys) :
  Calls Tryz.prog 138 #[.slice B m d,.slice A n c] w (nG w (a9 ys+a9 xs)):=by
 have hmk:=Ch (n+1) om;rw[show((n+1:Nat):Int)=(n:Int)+1 from by omega]at hmk
 have hlt:m<n:=hmn;have HX:=ag hx;clear hx;have HY:=ag hy;clear hy
 go_enter Tryz.func138,Tryz.ntmps138
 go_wp2;clear hmk
 go_loopw [6,22] (fun cv iv wr=>∃(k car:Nat) (zs:List Nat),k<=m/\iv=.int .i64 k/\cv=.int .u64 car/\car<=1/\Hid (fW w wr zs (n+1-k))/\Hid (Jz xs ys zs k car)) (fun _ iv _=>m-(intOf iv).toNat)
 case atStart=>exact⟨0,0,[],by omega,rfl,rfl,by omega,ag (fW.start w (n+1)),ag ⟨rfl,by simp[lQ],by simp[a9]⟩⟩
 case round =>
  obtain⟨k,car,zs,hk,rfl,rfl,hcar,HF,HS⟩:=hrel;by_cases hkm:k<m
  ·obtain⟨ad,x,rfl,hab,hxx,hx4,h1⟩:=(HX.out.below HF.out.1 hL).at_ (k:=k) om;obtain⟨bd,y,rfl,hbb,hyy,hy4,h2⟩:=(HY.out.below HF.out.1 hL).at_ (k:=k) om;obtain⟨u,hu,hf⟩:=HF.out.old (k:=k) (by have:=HS.out.1;omega)
   have HXX:=ag hxx;clear hxx;have HYY:=ag hyy;clear hyy;have hkn:(k:Int)<n:=by omega
   have hkm':(k:Int)<m:=by omega
   have hk0:(0:Int)<=k:=by omega
   go_wp2
   go_quiet (fail)
   go_wp2
   go_roundw
   case rel =>
    exact⟨k+1,(car+(x+y))/4294967296,zs++[(car+(x+y))%4294967296],by omega,by go_num,by go_num,by omega,
     ag (by
      have h3:n+1-k=(n+1-(k+1))+1:=by omega
      have h4:=HF.out;rw[h3]at h4;have h5:=(h4.drewN nq).put k ((car+(x+y))%4294967296) HS.out.1.symm;exact h5),
     ag (by
      obtain⟨s1,s2,s3⟩:=HS.out;refine⟨by simp[s1],s2.snoc om,?_⟩
      rw[fF,s1,de _ _ (by rw[HX.out.1];omega),de _ _ (by rw[HY.out.1];omega),HXX.out,HYY.out,cn]
      exact oL s3)⟩
   case measure=>simp[intOf];omega
  ·obtain rfl:k=m:=by omega
   go_wp2
   go_loopw [6,51] (fun cv iv wr=>∃(i car:Nat) (zs:List Nat),i<=n-k/\iv=.int .i64 i/\cv=.int .u64 car/\car<=1/\Hid (fW w wr zs (n+1-(k+i)))/\Hid (Jz xs ys zs (k+i) car)) (fun _ iv _=>n-k-(intOf iv).toNat)
   case atStart=>exact⟨0,car,zs,by omega,rfl,rfl,hcar,HF,HS⟩
   case round =>
    clear HF HS hcar;obtain⟨i,car,zs,hi,rfl,rfl,hcar,HF,HS⟩:=hrel;by_cases hin:i<n-k
    ·obtain⟨ad,x,rfl,hab,hxx,hx4,h1⟩:=(HX.out.below HF.out.1 hL).at_ (k:=k+i) om;obtain⟨u,hu,hf⟩:=HF.out.old (k:=k+i) (by have:=HS.out.1;omega)
     have HXX:=ag hxx;clear hxx;have hkn:(k:Int)+i<n:=by omega
     have hkn1:(k:Int)+i<n+1:=by omega
     have hk0:(0:Int)<=(k:Int)+i:=by omega
     have hti:((k:Int)+i).toNat=k+i:=by omega
     have hlt2:(i:Int)<(n:Int)-k:=by omega
     go_wp2
     go_roundw
     case rel =>
      exact⟨i+1,(car+x)/4294967296,zs++[(car+x)%4294967296],by omega,by go_num,by go_num,by omega,
       ag (by
        have h3:n+1-(k+i)=(n+1-(k+(i+1)))+1:=by omega
        have h4:=HF.out;rw[h3]at h4;have h5:=h4.put (k+i) ((car+x)%4294967296) HS.out.1.symm;exact h5),
       ag (by
        obtain⟨s1,s2,s3⟩:=HS.out;refine⟨by simp[s1];omega,s2.snoc om,?_⟩
        have hyt:∀r,k<=r->ys.take r=ys:=fun r hr=>bF (by rw[HY.out.1];exact hr)
        rw[hyt _ om]at s3 ⊢;rw[fF,s1,show k+(i+1)=k+i+1 from by omega,de _ _ (by rw[HX.out.1];omega),HXX.out,cn]
        have:=oL (p:=4294967296^(k+i)) (x:=x) (y:=0) s3;simpa using this)⟩
     case measure=>simp[intOf];omega
    ·obtain rfl:i=n-k:=by omega
     have hkn:k+(n-k)=n:=by omega
     obtain⟨u,hu,hf⟩:=HF.out.old (k:=n) (by have:=HS.out.1;omega)
     have hge:¬(((n-k:Nat):Int)<(n:Int)-k):=by omega
     go_wp2_with fail
     have h4:=HF.out;rw[show n+1-(k+(n-k))=0+1 from by omega]at h4
     have hl:zs.length=n:=by rw[HS.out.1,hkn]
     have h5:=h4.put n car hl.symm;have hlim:lQ (zs++[car]):=HS.out.2.1.snoc om;have hU:=bX.ofBlk h5.2 hlim h5.2.lt rfl;rw[show(zs++[car]).length=n+1 from by simp[hl]]at hU
     have hB5:=h5.1;have hv:a9 (zs++[car])=a9 xs+a9 ys:=by
      obtain⟨s1,s2,s3⟩:=HS.out;rw[fF,hl,aO];rw[hkn,bF (by rw[HX.out.1];exact ah _),bF (by rw[HY.out.1];exact dd hmn)]at s3
      exact s3
     clear h4 h5 HF HS hu hf;have HU:=ag hU;clear hU;have HV:=ag hv;clear hv;have HB:=ag hB5;clear hB5;refine(kF _ _ _ _ _ _ (ah _) om HU.out).mono ?_;rintro e w' ⟨⟨r,hr,rfl,hU2,hT,hv2⟩,rfl⟩;have HU2:=ag hU2;clear hU2;have HV2:=ag hv2;clear hv2;go_wp2;go_ret;exact⟨_,_,_,_,rfl,hr,HU2.out,hT,(HV2.out.trans HV.out).trans (r8 _ _),HB.out⟩
theorem vC(A B:Option Addr)(n m c d L:Nat)(xs ys:List Nat)(w:World)(hn:n<=536870912)(hm:m<=536870912)(hL:L<=w.heap.size)(hx:bX w L A n xs)(hy:bX w L B m ys) :
  Calls Tryz.prog 138 #[.slice A n c,.slice B m d] w (nG w (a9 xs+a9 ys)):=by
 rcases aE n m with h|h
 ·exact EY B A m n d c L ys xs w h hm hL hy hx
 ·exact EZ A B n m c d L xs ys w h hn hL hx hy
theorem ph{xs:List Nat}{i:Nat}(h:i<xs.length):xs.drop i=xs.getD i 0::xs.drop (i+1):=by
 rw[List.drop_eq_getElem_cons h];simp[cB,bA h]
theorem fS(A B:Option Addr)(n m c d L:Nat)(xs ys:List Nat)(w:World)(hn:n<=9223372036854775807)(hm:m<=9223372036854775807)(hx:bX w L A n xs)(hy:bX w L B m ys)(tx:ob xs)(ty:ob ys) :
  Calls Tryz.prog 195 #[.slice A n c,.slice B m d] w fun e w'=>e=.returned (.int .i64 (jC (a9 xs) (a9 ys)))/\eH w w':=by
 have HX:=ag hx;clear hx;have HY:=ag hy;clear hy;have TX:=ag tx;clear tx;have TY:=ag ty;clear ty;by_cases h1:n<m
 ·have hr:=ag (jB (nd HX.out.2.1 TY.out (by rw[HX.out.1,HY.out.1];exact h1)))
  go_enter Tryz.func195,Tryz.ntmps195
  go_wp2;go_ret;exact⟨by rw[hr.out];rfl,eH.refl _⟩
 by_cases h2:m<n
 ·have hr:=ag (jk (nd HY.out.2.1 TX.out (by rw[HX.out.1,HY.out.1];exact h2)))
  go_enter Tryz.func195,Tryz.ntmps195
  go_wp2;go_ret;exact⟨by rw[hr.out];rfl,eH.refl _⟩
 obtain rfl:n=m:=by omega
 go_enter Tryz.func195,Tryz.ntmps195
 go_wp2
 go_loopw [5] (fun iv wr=>∃(k:Nat),k<=n/\iv=.int .i64 ((k:Int)-1)/\Hid (eH w wr)/\Hid (xs.drop k=ys.drop k)) (fun iv _=>(intOf iv+1).toNat)
 case atStart=>exact⟨n,by omega,rfl,ag (eH.refl w),ag (by rw[fy (by rw[HX.out.1];omega),fy (by rw[HY.out.1];omega)])⟩
 case round =>
  obtain⟨k,hk,rfl,HQ,HD⟩:=hrel;by_cases h0:k=0
  ·subst h0;have hr:=ag (kz (show a9 xs=a9 ys by have:=HD.out;simp only[List.drop_zero]at this;rw[this]))
   go_wp2;go_ret;exact⟨by rw[hr.out];rfl,HQ.out⟩
  ·obtain⟨i,rfl⟩:∃i,k=i+1:=⟨k-1,by omega⟩
   obtain⟨ad,x,rfl,_,hxx,hx4,h3⟩:=(HX.out.still HQ.out).at_ (k:=i) om;obtain⟨bd,y,rfl,_,hyy,hy4,h4⟩:=(HY.out.still HQ.out).at_ (k:=i) om;have HXX:=ag hxx;clear hxx;have HYY:=ag hyy;clear hyy;have e1:((i+1:Nat):Int)-1=(i:Int):=by omega
   rw[e1];clear e1;have hi0:(0:Int)<=i:=by omega
   have hin:(i:Int)<n:=by omega
   rcases Nat.lt_trichotomy x y with hlt|heq|hgt
   ·have hr:=ag (jB (o5 HX.out.2.1 (i:=i) (by rw[HX.out.1];omega) (by rw[HX.out.1,HY.out.1]) HD.out (by rw[HXX.out,HYY.out];exact hlt)))
    go_wp2
    go_quiet (fail)
    go_wp2;go_ret;exact⟨by rw[hr.out];rfl,by repeat' (first|exact HQ.out|apply eH.more)⟩
   ·subst heq;go_wp2
    go_quiet (fail)
    go_wp2
    go_quiet (fail)
    go_wp2
    go_roundw
    case rel=>exact⟨i,by omega,rfl,ag (by repeat' (first|exact HQ.out|apply eH.more)),ag (by rw[ph (by rw[HX.out.1];omega),ph (xs:=ys) (by rw[HY.out.1];omega),HXX.out,HYY.out,HD.out])⟩
    case measure=>simp[intOf]
   ·have hr:=ag (jk (o5 HY.out.2.1 (i:=i) (by rw[HY.out.1];omega) (by rw[HX.out.1,HY.out.1]) HD.out.symm (by rw[HXX.out,HYY.out];exact hgt)))
    go_wp2
    go_quiet (fail)
    go_wp2
    go_quiet (fail)
    go_wp2;go_ret;exact⟨by rw[hr.out];rfl,by repeat' (first|exact HQ.out|apply eH.more)⟩
theorem F6{a x:Nat}(ha:a<4294967296):a ||| x*4294967296=a+x*4294967296:=by
 have h:=Nat.shiftLeft_add_eq_or_of_lt (i:=32) (b:=a) (by simpa using ha) x
 rw[Nat.shiftLeft_eq]at h;rw[Nat.or_comm,<-h,r8]
theorem tU{a x:Nat}(ha:a<4294967296)(hx:x<4294967296):bits .or .u64 (a:Int) ((x:Int)*4294967296)=((a+x*4294967296:Nat):Int):=by
 have h:=u64_or_nat a (x*4294967296) om om;rw[F6 ha]at h;rw[<-h];rfl
theorem mE(A:Option Addr)(n c L:Nat)(xs:List Nat)(w:World)(hn:n<=2)(hx:bX w L A n xs) :
  Calls Tryz.prog 141 #[.slice A n c] w fun e w'=>e=.returned (.int .u64 (a9 xs))/\w=w':=by
 have HX:=ag hx;clear hx
 go_enter Tryz.func141,Tryz.ntmps141
 go_wp2
 go_loop [3,8] (fun v i=>∃k:Nat,k<=n/\i=.int .i64 k/\v=.int .u64 (a9 (xs.take k))) (fun _ i=>n-(intOf i).toNat)
 case atStart=>exact⟨0,Nat.zero_le _,rfl,by simp[a9]⟩
 case round =>
  obtain⟨k,hk,rfl,rfl⟩:=hrel;by_cases hkn:k<n
  ·obtain⟨ad,x,rfl,_,hxx,hx4,h1⟩:=HX.out.at_ hkn;have HXX:=ag hxx;clear hxx;have hv:=ib (HX.out.2.1.take k);have hk2:k=0∨k=1:=by omega
   rcases hk2 with rfl|rfl
   ·simp only[Addr.add,if_pos]at h1;go_wp2;refine⟨⟨1,by omega,rfl,?_⟩,by simp[intOf];omega⟩
    have hx1:xs.take 1=[x]:=by
     rw[List.take_succ_eq_append_getElem (by rw[HX.out.1];omega)]
     have:=HXX.out;simp only[cB,bA (show 0<xs.length by rw[HX.out.1];omega),fG]at this
     simp[this]
    rw[hx1];have h5:=u64_or_nat 0 x om om;simp only[Nat.zero_or]at h5;simpa [a9]using h5
   ·simp only[Addr.add,Nat.one_ne_zero,if_false]at h1;go_wp2;refine⟨⟨2,by omega,rfl,?_⟩,by simp[intOf];omega⟩
    rw[de xs 1 (by rw[HX.out.1];omega),HXX.out]
    simp only[dX]at hv;rw[tU (Nat.lt_of_lt_of_le hv (by
     rw[HX.out.1,gf om];omega)) hx4,Nat.pow_one,aO x]
  ·obtain rfl:k=n:=by omega
   go_wp2;go_ret;exact⟨by rw[bF (by rw[HX.out.1];exact ah _)];rfl,rfl⟩
theorem iP(v:Nat)(w:World)(hv:v<18446744073709551616) :
  Calls Tryz.prog 135 #[.int .u64 v] w (nG w v):=by
 go_enter Tryz.func135,Tryz.ntmps135
 go_wp2_with fail
 have hl:lQ [v%4294967296,v/4294967296]:=by
  intro x hx;simp only[List.mem_cons,List.not_mem_nil,or_false]at hx;rcases hx with rfl|rfl<;>omega
 have hb:eF (w.alloc (Obj.cells #[Value.int IntKind.u32 ((v:Int)%4294967296),Value.int IntKind.u32 ((v:Int)/4294967296)] 136)) w.heap.size 136 (db [v%4294967296,v/4294967296] 0):=by
  have:=eF.new w 136 #[Value.int IntKind.u32 ((v:Int)%4294967296),Value.int IntKind.u32 ((v:Int)/4294967296)];simpa [db]using this
 have hU:=bX.ofBlk hb hl hb.lt rfl;have HB:=ag ((aX w.heap.size w).alloc (ah _) (Obj.cells #[Value.int IntKind.u32 ((v:Int)%4294967296),Value.int IntKind.u32 ((v:Int)/4294967296)] 136));clear hb;have HU:=ag hU;clear hU;refine(kF _ _ _ _ _ _ (ah _) (by simp) HU.out).mono ?_
 rintro e w' ⟨⟨r,hr,rfl,hU2,hT,hv2⟩,rfl⟩;have HU2:=ag hU2;clear hU2;have HV2:=ag hv2;clear hv2;go_wp2;go_ret;exact⟨_,_,_,_,rfl,hr,HU2.out,hT,HV2.out.trans (by simp[a9];omega),HB.out⟩
def Diff1(xs ys zs:List Nat)(k bo:Nat):Prop:=zs.length=k/\lQ zs/\a9 zs+a9 (ys.take k)=a9 (xs.take k)+bo*4294967296^k
theorem wY(x bo y:Nat)(hx:x<4294967296)(hb:bo<=1)(hy:y<4294967296) :
  IntKind.u64.wrap (IntKind.u64.wrap ((x:Int)-bo)-y)=((x+18446744073709551616-bo-y)%18446744073709551616:Nat):=by
 rw[IntKind.wrap_u64,IntKind.wrap_u64];omega
theorem wZ(x bo:Nat)(hx:x<4294967296)(hb:bo<=1) :
  IntKind.u64.wrap ((x:Int)-bo)=((x+18446744073709551616-bo-0)%18446744073709551616:Nat):=by
 rw[IntKind.wrap_u64];omega
theorem Gd{t:Nat}:((t%18446744073709551616:Nat):Int)%4294967296=((t%4294967296:Nat):Int):=by omega
theorem DD{t:Nat}:((t%18446744073709551616:Nat):Int)/9223372036854775808=((t%18446744073709551616/9223372036854775808:Nat):Int):=by omega
theorem nh(A B:Option Addr)(n m c d L:Nat)(xs ys:List Nat)(w:World)(hmn:m<=n)(hn:n<=536870912)(hL:L<=w.heap.size)(hx:bX w L A n xs)(hy:bX w L B m ys)(hle:a9 ys<=a9 xs) :
  Calls Tryz.prog 139 #[.slice A n c,.slice B m d] w (nG w (a9 xs-a9 ys)):=by
 have hmk:=Ch n om;have HLE:=ag hle;clear hle;have HX:=ag hx;clear hx;have HY:=ag hy;clear hy
 go_enter Tryz.func139,Tryz.ntmps139
 go_wp2;clear hmk
 go_loopw [6,14] (fun cv iv wr=>∃(k bo:Nat) (zs:List Nat),k<=n/\iv=.int .i64 k/\cv=.int .u64 bo/\bo<=1/\Hid (fW w wr zs (n-k))/\Hid (Diff1 xs ys zs k bo)) (fun _ iv _=>n-(intOf iv).toNat)
 case atStart=>exact⟨0,0,[],by omega,rfl,rfl,by omega,ag (fW.start w n),ag ⟨rfl,by simp[lQ],by simp[a9]⟩⟩
 case round =>
  obtain⟨k,bo,zs,hk,rfl,rfl,hbo,HF,HS⟩:=hrel;by_cases hkn:k<n
  ·obtain⟨ad,x,rfl,hab,hxx,hx4,h1⟩:=(HX.out.below HF.out.1 hL).at_ (k:=k) om;obtain⟨u,hu,hf⟩:=HF.out.old (k:=k) (by have:=HS.out.1;omega)
   have HXX:=ag hxx;clear hxx;have hkn':(k:Int)<n:=by omega
   have hk0:(0:Int)<=k:=by omega
   by_cases hkm:k<m
   ·obtain⟨bd,y,rfl,hbb,hyy,hy4,h2⟩:=(HY.out.below HF.out.1 hL).at_ (k:=k) om;have HYY:=ag hyy;clear hyy;have hkm':(k:Int)<m:=by omega
    go_wp2
    go_roundw
    case rel =>
     obtain⟨s1,s2,s3⟩:=HS.out;obtain⟨z,b,hz,hb,z4,b1,hs⟩:=Ao s3 hbo hx4 hy4;refine⟨k+1,b,zs++[z],by omega,by go_num,?_,b1,ag ?_,ag ⟨by simp[s1],s2.snoc z4,?_⟩⟩
     ·rw[wY x bo y hx4 hbo hy4,DD,hb]
     ·have h3:n-k=(n-(k+1))+1:=by omega
      have h4:=HF.out;rw[h3]at h4;rw[wY x bo y hx4 hbo hy4,Gd,<-hz];exact h4.put k z s1.symm
     ·rw[fF,s1,de xs _ (by rw[HX.out.1];omega),de ys _ (by rw[HY.out.1];omega),HXX.out,HYY.out,cn]
      exact hs
    case measure=>simp[intOf];omega
   ·go_wp2
    go_roundw
    case rel =>
     obtain⟨s1,s2,s3⟩:=HS.out;obtain⟨z,b,hz,hb,z4,b1,hs⟩:=Ao (y:=0) s3 hbo hx4 om;refine⟨k+1,b,zs++[z],by omega,by go_num,?_,b1,ag ?_,ag ⟨by simp[s1],s2.snoc z4,?_⟩⟩
     ·rw[wZ x bo hx4 hbo,DD,hb]
     ·have h3:n-k=(n-(k+1))+1:=by omega
      have h4:=HF.out;rw[h3]at h4;rw[wZ x bo hx4 hbo,Gd,<-hz];exact h4.put k z s1.symm
     ·have hyt:∀r,m<=r->ys.take r=ys:=fun r hr=>bF (by rw[HY.out.1];exact hr)
      rw[hyt _ om]at hs ⊢;rw[fF,s1,de _ _ (by rw[HX.out.1];omega),HXX.out,cn]
      simpa using hs
    case measure=>simp[intOf];omega
  ·obtain rfl:k=n:=by omega
   go_wp2_with fail
   obtain⟨s1,s2,s3⟩:=HS.out;have h5:=HF.out;rw[Nat.sub_self]at h5;have hU:=bX.ofBlk h5.2 s2 h5.2.lt rfl;rw[s1]at hU;have hv:a9 zs=a9 xs-a9 ys:=by
    rw[bF (l:=xs) (by rw[HX.out.1];exact ah _),bF (l:=ys) (by rw[HY.out.1];exact hmn)]at s3
    have h6:=HLE.out;have h7:=ib s2;rw[s1]at h7;rcases bO bo with h0|h0
    ·subst h0;omega
    ·obtain rfl:bo=1:=by omega
     omega
   have HB:=ag h5.1;clear h5 HF HS s1 s2 s3;have HU:=ag hU;clear hU;have HV:=ag hv;clear hv;refine(kF _ _ _ _ _ _ (ah _) om HU.out).mono ?_;rintro e w' ⟨⟨r,hr,rfl,hU2,hT,hv2⟩,rfl⟩;have HU2:=ag hU2;clear hU2;have HV2:=ag hv2;clear hv2;go_wp2;go_ret;exact⟨_,_,_,_,rfl,hr,HU2.out,hT,HV2.out.trans HV.out,HB.out⟩
def dL(w:World)(B:Nat)(v:Value)(z:Int):Prop :=
 ∃(neg:Bool) (A:Option Addr) (n c:Nat) (xs:List Nat),v=.agg #[.bool neg,.slice A n c]/\n<=c/\bX w B A n xs/\ob xs/\z=sg neg (a9 xs)
theorem dL.below{w w':World}{B B':Nat}{v:Value}{z:Int}(h:dL w B v z)(hb:Below B' w w')(hB:B<=B'):dL w' B v z:=by
 obtain⟨neg,A,n,c,xs,h1,h2,h3,h4,h5⟩:=h;exact⟨neg,A,n,c,xs,h1,h2,h3.below hb hB,h4,h5⟩
theorem dL.more{w:World}{B B':Nat}{v:Value}{z:Int}(h:dL w B v z)(hB:B<=B'):dL w B' v z:=by
 obtain⟨neg,A,n,c,xs,h1,h2,h3,h4,h5⟩:=h;exact⟨neg,A,n,c,xs,h1,h2,h3.more hB,h4,h5⟩
def Ca:Value->Prop
 | .int _ _=>False
 | _=>True
theorem bX.put{w:World}{B g i:Nat}{t:TypeId}{cs:Array Value}{A:Option Addr}{n:Nat}{xs:List Nat}{u:Value}(h:bX w B A n xs)(hb:eF w g t cs)(hc:∀(j:Nat) (x:Value),cs[j]? = some x->Ca x) :
  bX (w.setCell ⟨g,i,none⟩ u) B A n xs :=
 ⟨h.1,h.2.1,fun hn=>by
  obtain⟨ad,e,hl,hx⟩:=h.2.2 hn;refine⟨ad,e,hl,fun j hj=>?_⟩;have h1:=hx j hj;have hne:ad.block≠g:=by
   intro he;have h2:w.cell? (ad.add j)=(if (ad.add j).spot.isSome then none else cs[(ad.add j).off]?):=by
    unfold World.cell?;rw[lv,he,show w.heap[g]? = _ from hb]
   rw[h2]at h1;split at h1
   ·cases h1
   ·exact hc _ _ h1
  rw[<-h1];exact World.cell?_of_block (Below.heap_setCell w _ u _ (by rw[lv];exact hne))⟩
theorem dL.put{w:World}{B g i:Nat}{t:TypeId}{cs:Array Value}{v:Value}{z:Int}{u:Value}(h:dL w B v z)(hb:eF w g t cs)(hc:∀(j:Nat) (x:Value),cs[j]? = some x->Ca x) :
  dL (w.setCell ⟨g,i,none⟩ u) B v z:=by
 obtain⟨neg,A,n,c,xs,h1,h2,h3,h4,h5⟩:=h;exact⟨neg,A,n,c,xs,h1,h2,h3.put hb hc,h4,h5⟩
theorem ku(a:Bool)(A:Option Addr)(n c:Nat):∀(j:Nat) (x:Value),(#[Value.bool a,Value.slice A n c]:Array Value)[j]? = some x->Ca x:=by
 intro j x h
 match j with
 | 0=>simp at h;subst h;trivial
 | 1=>simp at h;subst h;trivial
 | j+2=>simp at h
theorem dL.result{w:World}{B g:Nat}{neg a:Bool}{A D:Option Addr}{n c k d:Nat}{z:Int}(h:dL w B (.agg #[.bool neg,.slice A n c]) z)(hb:eF w g 50 #[.bool a,.slice D k d]) :
  dL ((w.setCell ⟨g,0,none⟩ (.bool neg)).setCell ⟨g,1,none⟩ (.slice A n c)) B (.agg #[.bool neg,.slice A n c]) z :=
 (h.put hb (ku a D k d)).put (hb.set_ 0 (.bool neg)) (by simpa using ku neg D k d)
def cU(w:World)(z:Int)(e:Ending)(w':World):Prop:=∃v,e=.returned v/\dL w' w'.heap.size v z/\Below w.heap.size w w'
theorem cU.cell{w w2:World}{g:Nat}{neg a:Bool}{A D:Option Addr}{n c k d:Nat}{z z':Int}(hI:dL w2 w2.heap.size (.agg #[.bool neg,.slice A n c]) z)(hblk:eF w2 g 50 #[.bool a,.slice D k d])
  (hb:Below w.heap.size w w2) (hg:w.heap.size<=g) (hz:z=z') :
  cU w z' (.returned (.agg #[.bool neg,.slice A n c])) ((w2.setCell ⟨g,0,none⟩ (.bool neg)).setCell ⟨g,1,none⟩ (.slice A n c)) :=
 ⟨_,rfl,by subst hz;simpa using dL.result hI hblk,(hb.setCell (by exact hg) _).setCell (by exact hg) _⟩
theorem sA(s:Bool)(a b:Nat):sg s (a+b)=sg s a+sg s b:=by cases s<;>simp[sg];omega
theorem rC{s1 s2:Bool}(h:s1≠s2){a b:Nat}(hab:b<=a):sg s1 (a-b)=sg s1 a+sg s2 b:=by
 cases s1<;>cases s2<;>simp[sg]at*<;> omega
theorem xt{s1 s2:Bool}(h:s1≠s2){a b:Nat}(hab:a<=b):sg s2 (b-a)=sg s1 a+sg s2 b:=by
 cases s1<;>cases s2<;>simp[sg]at*<;> omega
theorem aH{w:World}{B:Nat}{A:Option Addr}{n:Nat}{xs:List Nat}(h:bX w B A n xs)(ht:ob xs):n=nl (a9 xs):=by rw[<-h.1];exact yQ h.2.1 ht
theorem fu(neg:Bool)(A:Option Addr)(n c B:Nat)(xs:List Nat)(w:World)(hn:n<=c)(hm:n<=9223372036854775807)(hB:B<=w.heap.size)(h:bX w B A n xs)(ht:ob xs) :
  Calls Tryz.prog 134 #[.bool neg,.slice A n c] w (cU w (sg neg (a9 xs))):=by
 have HX:=ag h;clear h;have HT:=ag ht;clear ht;by_cases h0:n=0
 ·subst h0
  go_enter Tryz.func134,Tryz.ntmps134
  go_wp2;have hx0:xs=[]:=List.length_eq_zero_iff.1 HX.out.1;exact bodyPost_ret (v:=.agg #[.bool false,.slice none 0 0]) (by simp[results,Tryz.results134,go_sem]) rfl
   ⟨_,rfl,⟨false,none,0,0,[],rfl,ah _,⟨rfl,by simp[lQ],fun h=>absurd h om⟩,by intro x hx;simp at hx,by rw[hx0];simp[a9,sg]⟩,(aX _ _).alloc (ah _) _⟩
 ·have h1:((n:Int)==0)=false:=by simp;omega
  go_enter Tryz.func134,Tryz.ntmps134
  go_wp2;have hb:=(aX w.heap.size w).alloc (ah _) (Obj.cells #[Value.bool neg,Value.slice A n c] 50);exact bodyPost_ret (v:=.agg #[.bool neg,.slice A n c]) (by simp[results,Tryz.results134,go_sem]) rfl
   ⟨_,rfl,⟨neg,A,n,c,xs,rfl,hn,(HX.out.below hb hB).more (by have:=hb.size;omega),HT.out,rfl⟩,hb⟩
theorem pD(s1 s2:Bool)(A B:Option Addr)(n m c d L:Nat)(xs ys:List Nat)(w:World)(hn:n<=536870912)(hm:m<=536870912)(hL:L<=w.heap.size)
  (hx:bX w L A n xs) (hy:bX w L B m ys) (tx:ob xs) (ty:ob ys) :
  Calls Tryz.prog 194 #[.bool s1,.slice A n c,.bool s2,.slice B m d] w (cU w (sg s1 (a9 xs)+sg s2 (a9 ys))):=by
 have HX:=ag hx;clear hx;have HY:=ag hy;clear hy;have HTX:=ag tx;clear tx;have HTY:=ag ty;clear ty;by_cases hs:s1=s2
 ·subst hs;have hb:(s1==s1)=true:=by simp
  go_enter Tryz.func194,Tryz.ntmps194
  go_wp2_with fail
  have hb0:=(aX w.heap.size w).alloc (ah _) (Obj.cells #[Value.bool false,Value.slice none 0 0] 50);refine(vC A B n m c d L xs ys _ hn hm (by simp;omega) (HX.out.below hb0 hL) (HY.out.below hb0 hL)).mono ?_
  rintro e w1 ⟨A1,k,c1,zs,rfl,hk,hU,hT,hv,hb1⟩;have hk2:k<=536870913:=by
   rw[<-hU.1,yQ hU.2.1 hT,hv];have h1:=F9 (a9 xs) (a9 ys);rw[<-yQ HX.out.2.1 HTX.out,<-yQ HY.out.2.1 HTY.out,HX.out.1,HY.out.1]at h1;omega
  have HU:=ag hU;clear hU;have HV:=ag hv;clear hv;have HT:=ag hT;clear hT;have HB1:=ag hb1;clear hb1;have HB0:=ag hb0;clear hb0
  go_wp2_with fail
  refine(fu s1 A1 k c1 w1.heap.size zs w1 hk om (ah _) HU.out HT.out).mono ?_;rintro e w2 ⟨v,rfl,hI,hb2⟩;obtain⟨neg,A2,n2,c2,zs2,rfl,hI2⟩:=hI;have hsz:w.heap.size+1<=w1.heap.size:=by have:=HB1.out.size;simpa using this
  have hblk:eF w2 w.heap.size 50 #[.bool false,.slice none 0 0]:=((eF.new w 50 _).below HB1.out (by simp)).below hb2 om
  have hc0:=hblk.cell 0;have hc1:=hblk.cell 1;have hf0:=hblk.frozen 0;have hf1:=hblk.frozen 1;simp only[eP,cE,bN]at hc0 hc1;have HK:=ag hblk;clear hblk;have HI:=ag hI2;clear hI2;have HB2:=ag hb2;clear hb2;go_wp2;exact bodyPost_ret (v:=.agg #[.bool neg,.slice A2 n2 c2]) (by simp[results,Tryz.results194,go_sem,hc0,hc1]) rfl
   (cU.cell ⟨neg,A2,n2,c2,zs2,rfl,HI.out⟩ HK.out ((HB0.out.trans (HB1.out.mono (by simp))).trans (HB2.out.mono om)) (ah _) (by rw[HV.out,sA]))
 ·have hb:(s1==s2)=false:=by simpa using hs
  rcases aE (a9 xs) (a9 ys)with hlt|hge
  ·have hcm:=jB hlt
   go_enter Tryz.func194,Tryz.ntmps194
   go_wp2_with fail
   have hb0:=(aX w.heap.size w).alloc (ah _) (Obj.cells #[Value.bool false,Value.slice none 0 0] 50);have hcall:=fS A B n m c d L xs ys (w.alloc (Obj.cells #[Value.bool false,Value.slice none 0 0] 50)) om om (HX.out.below hb0 hL) (HY.out.below hb0 hL) HTX.out HTY.out;rw[hcm]at hcall;refine hcall.mono ?_;clear hcall hcm;rintro e w1 ⟨rfl,q,rfl⟩;have HB0:=ag (hb0.trans ((eH.refl _).more q |>.below _));clear hb0
   go_wp2_with fail
   refine(nh B A m n d c L ys xs _ (by have h1:=aH HX.out HTX.out;have h2:=aH HY.out HTY.out;have h3:=eJ (dd hlt);omega) om (by simp;omega) (HY.out.below HB0.out hL) (HX.out.below HB0.out hL) (dd hlt)).mono ?_
   rintro e w1 ⟨A1,k,c1,zs,rfl,hk,hU,hT,hv,hb1⟩;have hk2:k<=536870913:=by
    rw[aH hU hT,hv];have h1:=aH HX.out HTX.out;have h2:=aH HY.out HTY.out;have h3:nl (a9 xs-a9 ys)<=nl (a9 xs):=eJ om;have h4:nl (a9 ys-a9 xs)<=nl (a9 ys):=eJ om;omega
   have HU:=ag hU;clear hU;have HV:=ag hv;clear hv;have HT:=ag hT;clear hT;have HB1:=ag hb1;clear hb1
   go_wp2_with fail
   refine(fu s2 A1 k c1 w1.heap.size zs w1 hk om (ah _) HU.out HT.out).mono ?_;rintro e w2 ⟨v,rfl,hI,hb2⟩;obtain⟨neg,A2,n2,c2,zs2,rfl,hI2⟩:=hI;have hsz:w.heap.size+1<=w1.heap.size:=by have:=HB1.out.size;simpa using this
   have hblk:eF w2 w.heap.size 50 #[.bool false,.slice none 0 0]:=(eF.below (w:=(w.alloc (Obj.cells #[Value.bool false,Value.slice none 0 0] 50)).drewN q) (eF.new w 50 _) HB1.out (by simp)).below hb2 om
   have hc0:=hblk.cell 0;have hc1:=hblk.cell 1;have hf0:=hblk.frozen 0;have hf1:=hblk.frozen 1;simp only[eP,cE,bN]at hc0 hc1;have HK:=ag hblk;clear hblk;have HI:=ag hI2;clear hI2;have HB2:=ag hb2;clear hb2;go_wp2;exact bodyPost_ret (v:=.agg #[.bool neg,.slice A2 n2 c2]) (by simp[results,Tryz.results194,go_sem,hc0,hc1]) rfl
    (cU.cell ⟨neg,A2,n2,c2,zs2,rfl,HI.out⟩ HK.out ((HB0.out.trans (HB1.out.mono (by simp))).trans (HB2.out.mono om)) (ah _) (by rw[HV.out,xt hs (dd hlt)]))
  ·rcases aE (a9 ys) (a9 xs)with hgt|hle
   ·have hcm:=jk hgt
    go_enter Tryz.func194,Tryz.ntmps194
    go_wp2_with fail
    have hb0:=(aX w.heap.size w).alloc (ah _) (Obj.cells #[Value.bool false,Value.slice none 0 0] 50);have hcall:=fS A B n m c d L xs ys (w.alloc (Obj.cells #[Value.bool false,Value.slice none 0 0] 50)) om om (HX.out.below hb0 hL) (HY.out.below hb0 hL) HTX.out HTY.out;rw[hcm]at hcall;refine hcall.mono ?_;clear hcall hcm;rintro e w1 ⟨rfl,q,rfl⟩;have HB0:=ag (hb0.trans ((eH.refl _).more q |>.below _));clear hb0
    go_wp2_with fail
    refine(nh A B n m c d L xs ys _ (by have h1:=aH HX.out HTX.out;have h2:=aH HY.out HTY.out;have h3:=eJ (dd hgt);omega) om (by simp;omega) (HX.out.below HB0.out hL) (HY.out.below HB0.out hL) (dd hgt)).mono ?_
    rintro e w1 ⟨A1,k,c1,zs,rfl,hk,hU,hT,hv,hb1⟩;have hk2:k<=536870913:=by
     rw[aH hU hT,hv];have h1:=aH HX.out HTX.out;have h2:=aH HY.out HTY.out;have h3:nl (a9 xs-a9 ys)<=nl (a9 xs):=eJ om;have h4:nl (a9 ys-a9 xs)<=nl (a9 ys):=eJ om;omega
    have HU:=ag hU;clear hU;have HV:=ag hv;clear hv;have HT:=ag hT;clear hT;have HB1:=ag hb1;clear hb1
    go_wp2_with fail
    refine(fu s1 A1 k c1 w1.heap.size zs w1 hk om (ah _) HU.out HT.out).mono ?_;rintro e w2 ⟨v,rfl,hI,hb2⟩;obtain⟨neg,A2,n2,c2,zs2,rfl,hI2⟩:=hI;have hsz:w.heap.size+1<=w1.heap.size:=by have:=HB1.out.size;simpa using this
    have hblk:eF w2 w.heap.size 50 #[.bool false,.slice none 0 0]:=(eF.below (w:=(w.alloc (Obj.cells #[Value.bool false,Value.slice none 0 0] 50)).drewN q) (eF.new w 50 _) HB1.out (by simp)).below hb2 om
    have hc0:=hblk.cell 0;have hc1:=hblk.cell 1;have hf0:=hblk.frozen 0;have hf1:=hblk.frozen 1;simp only[eP,cE,bN]at hc0 hc1;have HK:=ag hblk;clear hblk;have HI:=ag hI2;clear hI2;have HB2:=ag hb2;clear hb2;go_wp2;exact bodyPost_ret (v:=.agg #[.bool neg,.slice A2 n2 c2]) (by simp[results,Tryz.results194,go_sem,hc0,hc1]) rfl
     (cU.cell ⟨neg,A2,n2,c2,zs2,rfl,HI.out⟩ HK.out ((HB0.out.trans (HB1.out.mono (by simp))).trans (HB2.out.mono om)) (ah _) (by rw[HV.out,rC hs (dd hgt)]))
   ·have heq:a9 xs=a9 ys:=Nat.le_antisymm hle hge;have hcm:=kz heq
    go_enter Tryz.func194,Tryz.ntmps194
    go_wp2_with fail
    have hb0:=(aX w.heap.size w).alloc (ah _) (Obj.cells #[Value.bool false,Value.slice none 0 0] 50);have hcall:=fS A B n m c d L xs ys (w.alloc (Obj.cells #[Value.bool false,Value.slice none 0 0] 50)) om om (HX.out.below hb0 hL) (HY.out.below hb0 hL) HTX.out HTY.out;rw[hcm]at hcall;refine hcall.mono ?_;clear hcall hcm;rintro e w1 ⟨rfl,q,rfl⟩;have HB0:=ag (hb0.trans ((eH.refl _).more q |>.below _));clear hb0
    go_wp2_with fail
    refine(nh A B n m c d L xs ys _ (by have h1:=aH HX.out HTX.out;have h2:=aH HY.out HTY.out;have h3:=eJ (r7 heq.symm);omega) om (by simp;omega) (HX.out.below HB0.out hL) (HY.out.below HB0.out hL) (r7 heq.symm)).mono ?_
    rintro e w1 ⟨A1,k,c1,zs,rfl,hk,hU,hT,hv,hb1⟩;have hk2:k<=536870913:=by
     rw[aH hU hT,hv];have h1:=aH HX.out HTX.out;have h2:=aH HY.out HTY.out;have h3:nl (a9 xs-a9 ys)<=nl (a9 xs):=eJ om;have h4:nl (a9 ys-a9 xs)<=nl (a9 ys):=eJ om;omega
    have HU:=ag hU;clear hU;have HV:=ag hv;clear hv;have HT:=ag hT;clear hT;have HB1:=ag hb1;clear hb1
    go_wp2_with fail
    refine(fu s1 A1 k c1 w1.heap.size zs w1 hk om (ah _) HU.out HT.out).mono ?_;rintro e w2 ⟨v,rfl,hI,hb2⟩;obtain⟨neg,A2,n2,c2,zs2,rfl,hI2⟩:=hI;have hsz:w.heap.size+1<=w1.heap.size:=by have:=HB1.out.size;simpa using this
    have hblk:eF w2 w.heap.size 50 #[.bool false,.slice none 0 0]:=(eF.below (w:=(w.alloc (Obj.cells #[Value.bool false,Value.slice none 0 0] 50)).drewN q) (eF.new w 50 _) HB1.out (by simp)).below hb2 om
    have hc0:=hblk.cell 0;have hc1:=hblk.cell 1;have hf0:=hblk.frozen 0;have hf1:=hblk.frozen 1;simp only[eP,cE,bN]at hc0 hc1;have HK:=ag hblk;clear hblk;have HI:=ag hI2;clear hI2;have HB2:=ag hb2;clear hb2;go_wp2;exact bodyPost_ret (v:=.agg #[.bool neg,.slice A2 n2 c2]) (by simp[results,Tryz.results194,go_sem,hc0,hc1]) rfl
     (cU.cell ⟨neg,A2,n2,c2,zs2,rfl,HI.out⟩ HK.out ((HB0.out.trans (HB1.out.mono (by simp))).trans (HB2.out.mono om)) (ah _) (by rw[HV.out,rC hs (r7 heq.symm)]))
end Go.Proofs.YtdobfmlmenaajaaGreatDoor
