/-
  Lemmas for NeighbourIndex.
-/
import Derived.Test.YtdobfmlmenaajaaGreatDoorProg
import Derived.WalkKit
import Derived.WalkLawsBesides
import Derived.WalkSpells
import Derived.Below
import Derived.Lib.Hide
import Derived.Laws.MakeOwn
import Derived.Laws.OwnMore
import Derived.Laws.NewBlocks
import Derived.Laws.Rows
import Derived.Deep.Draws
import Derived.Deep.QuietTactic
import Derived.BigQuiet
import Derived.Outline
import Derived.KernelRfl
import Derived.Laws.BitsAllLaws
import Derived.Laws.BitsAll
import Derived.StillTailTactics
import Derived.Deep.RegionHeld3
import Derived.Deep.AppendLies
import Derived.Maps.AppendAt
import Derived.Lib.SliceRun
namespace Go.Proofs.YtdobfmlmenaajaaGreatDoor
open Go.RowKit Tryz
open _root_.Array renaming getElem?_eq_none→fm
open Below renaming refl→a8,setCell→dL
open _root_.Bool renaming false_eq_true→aR,not_false→pD,not_true→yY
open _root_.Int renaming tmod_eq_emod_of_nonneg→aU,natCast_mul→ck,sign_eq_one_of_pos→cU,natCast_nonneg→et,toNat_natCast→fE,sign_eq_neg_one_of_neg→iw,lt_trichotomy→iP,natCast_add→jH,mul_neg→qq
open Lib renaming hid→ag
open _root_.List renaming getElem?_eq_getElem→bD,take_of_length_le→bL,replicate→bR,getElem?_cons_succ→bT,getElem?_eq_none→co,length_cons→cD,getD→cL,getElem?_cons_zero→cN,getElem?_append_right→dV,getElem?_append_left→eh,length_take→eC,getElem?_toArray→fG,getElem?_take_of_lt→fI,mem_map→fM,drop_of_length_le→fU,drop_eq_getElem_cons→iH,replicate_succ→kW,getElem?_map→mn,length_eq_zero_iff→rZ
open _root_.Nat renaming le_refl→ah,lt_or_ge→aI,mul_comm→aS,mul_le_mul_left→a9,eq_zero_or_pos→bU,pow_le_pow_right→cg,pow_succ→ct,mul_add→cI,lt_trichotomy→db,le_of_lt→dw,mod_lt→eP,mul_assoc→gA,min_eq_left→gR,div_add_mod→gS,div_le_self→jF,zero_le→ke,pow_add→kf,mod_eq_of_lt→ku,div_eq_of_lt→kv,add_assoc→nf,le_of_eq→sX,add_comm→sY
open _root_.Option renaming map_some→dp,getD_some→ge
open Tryz renaming prog→aj
open Value renaming slice→aq,bool→aC,int→dD
set_option maxHeartbeats 6400000
set_option maxRecDepth 4096
set_option linter.all false
theorem an{a b:Prop}(h:b)(k:a:=by omega):a∧b:=⟨k,h⟩
theorem om{p:Prop}(h:p:=by omega):p:=h
theorem nn{a b:Nat}(h:a≠b):a≠b∧b≠a:=⟨h,Ne.symm h⟩
theorem kr{p:Prop}(h:p:=by kernel_rfl):p:=h
theorem sm{p:Prop}(h:p:=by simp):p:=h
theorem dc{p:Prop}(h:p:=by decide):p:=h
def bv:List Nat->Nat
 | []=>0
 | x::l=>x+4294967296*bv l
def mo(l:List Nat):Prop:=∀x∈l,x<4294967296
def oR(l:List Nat):Prop:=∀x,l.getLast? = some x->x≠0
theorem uL(a b:List Nat):bv (a++b)=bv a+4294967296^a.length*bv b:=by
 induction a with
 | nil=>simp[bv]
 | cons x a ih=>simp only[List.cons_append,bv,ih,cD,ct];rw[cI,nf,<-gA,aS (4294967296^a.length) 4294967296]
theorem fZ(a:List Nat)(x:Nat):bv (a++[x])=bv a+4294967296^a.length*x:=by
 rw[uL];simp[bv]
theorem dz(l:List Nat)(k:Nat)(h:k<l.length):bv (l.take (k+1))=bv (l.take k)+4294967296^k*l.getD k 0:=by
 rw[List.take_succ_eq_append_getElem h,fZ,eC,gR (dw h)];simp[cL,bD h]
theorem mo.getD{l:List Nat}(h:mo l)(k:Nat):l.getD k 0<4294967296:=by
 rcases aI k l.length with hk|hk
 ·simp only[cL,bD hk,ge];exact h _ (List.getElem_mem hk)
 ·simp[cL,co hk]
theorem mo.snoc{l:List Nat}(h:mo l){x:Nat}(hx:x<4294967296):mo (l++[x]):=by
 intro y hy;rcases List.mem_append.1 hy with h1|h1
 ·exact h y h1
 ·rw[List.mem_singleton.1 h1];exact hx
theorem mo.take{l:List Nat}(h:mo l)(k:Nat):mo (l.take k):=fun x hx=>h x (List.mem_of_mem_take hx)
theorem iC{l:List Nat}(h:mo l):bv l<4294967296^l.length:=by
 induction l with
 | nil=>simp[bv]
 | cons x l ih =>
  have h1:=ih (fun y hy=>h y (List.mem_cons_of_mem _ hy));have h2:=h x (List.mem_cons_self ..);simp only[bv,cD,ct];generalize 4294967296^l.length=p at *;omega
theorem lT(k:Nat)(l:List Nat)(h:∀j,k<=j->l.getD j 0=0):bv l=bv (l.take k):=by
 induction l generalizing k with
 | nil=>simp
 | cons x l ih =>
  cases k with
  | zero =>
   have h0:x=0:=by simpa [cL]using h 0 (ah _)
   have h1:=ih 0 (fun j _=>by have:=h (j+1) om;simpa [cL]using this)
   simp only[List.take_zero,bv]at h1 ⊢;omega
  | succ k =>
   have h1:=ih k (fun j hj=>by have:=h (j+1) om;simpa [cL]using this)
   simp only[List.take_succ_cons,bv];omega
theorem po{p vz vx vy car x y:Nat}(h:vz+car*p=vx+vy) :
  vz+p*((car+(x+y))%4294967296)+(car+(x+y))/4294967296*(p*4294967296)=(vx+p*x)+(vy+p*y):=by
 have hd:=gS (car+(x+y)) 4294967296;have:p*((car+(x+y))%4294967296)+(car+(x+y))/4294967296*(p*4294967296)=p*(car+(x+y)):=by
  calc
   p*((car+(x+y))%4294967296)+(car+(x+y))/4294967296*(p*4294967296)
   =p*(4294967296*((car+(x+y))/4294967296)+(car+(x+y))%4294967296):=by
     rw[cI];rw[sY];congr 1;rw[aS,gA]
   _=p*(car+(x+y)):=by rw[hd]
 rw[nf,this,cI,cI,aS p car];omega
theorem sk(l:List Nat)(i:Nat)(h:i<l.length):bv l=bv (l.take i)+4294967296^i*(l.getD i 0+4294967296*bv (l.drop (i+1))):=by
 have h1:l=l.take i++l[i]::l.drop (i+1):=by rw[List.getElem_cons_drop,List.take_append_drop]
 have h2:bv l=bv (l.take i++l[i]::l.drop (i+1)):=by rw[<-h1]
 rw[h2,uL,eC,gR (dw h)];simp[bv,cL,bD h]
theorem pG{a b:List Nat}{i:Nat}(ha:mo a)(hai:i<a.length)(hl:a.length=b.length)(hd:a.drop (i+1)=b.drop (i+1))(h:a.getD i 0<b.getD i 0):bv a<bv b:=by
 rw[sk a i hai,sk b i om,hd];have h1:=iC (ha.take i);rw[eC,gR (dw hai)]at h1;generalize 4294967296^i=p at *;generalize bv (b.drop (i+1))=v at *;have h2:p*(a.getD i 0+4294967296*v)+p<=p*(b.getD i 0+4294967296*v):=by
  rw[<-Nat.mul_succ];exact a9 _ om
 omega
theorem uK{l:List Nat}(h:oR l)(h0:l≠[]):4294967296^(l.length-1)<=bv l:=by
 have h1:=List.dropLast_concat_getLast h0;have h2:bv l=bv (l.dropLast++[l.getLast h0]):=by rw[h1]
 rw[h2,fZ,List.length_dropLast];have h3:l.getLast h0≠0:=h _ (by rw[List.getLast?_eq_some_getLast h0])
 have h4:1<=l.getLast h0:=om
 calc
  4294967296^(l.length-1)=4294967296^(l.length-1)*1:=om
  _<=4294967296^(l.length-1)*l.getLast h0:=a9 _ h4
  _<=_:=Nat.le_add_left _ _
theorem nS{a b:List Nat}(ha:mo a)(hb:oR b)(h:a.length<b.length):bv a<bv b:=by
 have h1:=iC ha;have h2:=uK hb (by intro e;subst e;simp at h)
 have h3:(4294967296:Nat)^a.length<=4294967296^(b.length-1):=cg om om;omega
def kc(a b:Nat):Int:=if a<b then -1 else if b<a then 1 else 0
theorem kb{a b:Nat}(h:a<b):kc a b=-1:=by simp[kc,h]
theorem jL{a b:Nat}(h:b<a):kc a b=1:=by
 have h1:¬a<b:=om
 simp[kc,h,h1]
theorem lg{a b:Nat}(h:a=b):kc a b=0:=by simp[kc,h]
theorem Bk{p vz vx vy bo x y:Nat}(h:vz+vy=vx+bo*p)(hb:bo<=1)(hx:x<4294967296)(hy:y<4294967296) :
  ∃z b,z=(x+18446744073709551616-bo-y)%4294967296/\b=(x+18446744073709551616-bo-y)%18446744073709551616/9223372036854775808/\z<4294967296/\b<=1 /\
   (vz+p*z)+(vy+p*y)=(vx+p*x)+b*(p*4294967296):=by
 refine⟨_,_,rfl,rfl,om,om,?_⟩
 rcases aI x (bo+y)with hlt|hge
 ·have h1:(x+18446744073709551616-bo-y)%4294967296=x+4294967296-bo-y:=om
  have h2:(x+18446744073709551616-bo-y)%18446744073709551616/9223372036854775808=1:=om
  rw[h1,h2];have h3:p*(x+4294967296-bo-y)+p*y+p*bo=p*x+p*4294967296:=by
   rw[<-cI,<-cI,<-cI];congr 1;omega
  rw[aS bo p]at h;omega
 ·have h1:(x+18446744073709551616-bo-y)%4294967296=x-bo-y:=om
  have h2:(x+18446744073709551616-bo-y)%18446744073709551616/9223372036854775808=0:=om
  rw[h1,h2];have h3:p*(x-bo-y)+p*y+p*bo=p*x:=by
   rw[<-cI,<-cI];congr 1;omega
  rw[aS bo p]at h;omega
def nl(v:Nat):Nat:=if v=0 then 0 else v.log2/32+1
theorem vk(k:Nat):(4294967296:Nat)^k=2^(32*k):=by
 rw[show(4294967296:Nat)=2^32 from rfl,<-Nat.pow_mul]
theorem iX{v k:Nat}:nl v<=k↔v<4294967296^k:=by
 unfold nl;split
 ·subst_vars
  simp[Nat.pow_pos]
 ·rename_i h0;rw[vk,<-Nat.log2_lt h0];omega
theorem fy{a b:Nat}(h:a<=b):nl a<=nl b:=iX.2 (Nat.lt_of_le_of_lt h (iX.1 (ah _)))
theorem GZ(a b:Nat):nl (a+b)<=max (nl a) (nl b)+1:=by
 rw[iX,ct];have h1:a<4294967296^(max (nl a) (nl b)):=iX.1 om;have h2:b<4294967296^(max (nl a) (nl b)):=iX.1 om;generalize 4294967296^(max (nl a) (nl b))=p at *;omega
theorem LL(a b:Nat):nl (a*b)<=nl a+nl b:=by
 rw[iX,kf];exact Nat.mul_lt_mul'' (iX.1 (ah _)) (iX.1 (ah _))
theorem zV{xs:List Nat}(hl:mo xs)(ht:oR xs):xs.length=nl (bv xs):=by
 apply Nat.le_antisymm
 ·rcases bU xs.length with h|h
  ·omega
  ·have h1:=uK ht (by intro e;subst e;simp at h)
   rcases aI (nl (bv xs)) xs.length with h2|h2
   ·have h3:nl (bv xs)<=xs.length-1:=om
    have h4:=iX.1 h3;omega
   ·exact h2
 ·exact iX.2 (iC hl)
def sg(neg:Bool)(v:Nat):Int:=if neg then -(v:Int)else v
theorem eX(neg:Bool)(v:Nat):(sg neg v).natAbs=v:=by cases neg<;>simp[sg]
theorem CO(neg:Bool)(v:Nat):sg (!neg) v=-sg neg v:=by cases neg<;>simp[sg]
theorem qX(neg:Bool):sg neg 0=0:=by cases neg<;>simp[sg]
theorem lX(a:Addr)(n:Nat):(a.add n).block=a.block:=by unfold Addr.add;split<;>rfl
def fo(w:World)(g:Nat)(t:TypeId)(cs:Array Value):Prop:=w.heap[g]? = some (.cells cs t (0,0))
section
variable {w w':World} {g:Nat} {t:TypeId} {cs:Array Value}
theorem fo.lt(h:fo w g t cs):g<w.heap.size:=by
 rcases aI g w.heap.size with hlt|hge
 ·exact hlt
 ·unfold fo at h;rw[fm hge]at h;cases h
theorem fo.cell(h:fo w g t cs)(i:Nat):w.cell? ⟨g,i,none⟩=cs[i]?:=cell_of_row w g i cs t (0,0) h
theorem fo.frozen(h:fo w g t cs)(i:Nat):w.frozen? ⟨g,i,none⟩=false:=by
 unfold fo at h;simp[World.frozen?,h]
theorem fo.new(w:World)(t:TypeId)(cs:Array Value):fo (w.alloc (.cells cs t)) w.heap.size t cs:=heap_alloc_new w _
theorem fo.set_(h:fo w g t cs)(i:Nat)(u:Value):fo (w.setCell ⟨g,i,none⟩ u) g t (cs.setIfInBounds i u):=by
 unfold fo at h ⊢;simp[World.setCell,Array.getElem?_modify,h]
theorem fo.below{B:Nat}(h:fo w g t cs)(hb:Below B w w')(hg:g<B):fo w' g t cs:=(hb.block g hg).trans h
end
def fv(w w':World):Prop:=∃n,w'=w.drewN n
theorem fv.refl(w:World):fv w w:=⟨0,rfl⟩
theorem fv.more{w w':World}(h:fv w w')(n:Nat):fv w (w'.drewN n):=by
 obtain⟨k,rfl⟩:=h;exact⟨k+n,by rw[World.drewN_drewN]⟩
theorem fv.trans{a b c:World}(h:fv a b)(k:fv b c):fv a c:=by
 obtain⟨n,rfl⟩:=k;exact h.more n
theorem fv.below{w w':World}(h:fv w w')(B:Nat):Below B w w':=by
 obtain⟨k,rfl⟩:=h;exact⟨rfl,rfl,rfl,ah _,fun _ _=>rfl⟩
theorem fv.heap{w w':World}(h:fv w w'):w'.heap=w.heap:=by obtain⟨k,rfl⟩:=h;rfl
theorem fv.cell{w w':World}(h:fv w w')(a:Addr):w'.cell? a=w.cell? a:=by obtain⟨k,rfl⟩:=h;rfl
def cc(w:World)(B:Nat)(A:Option Addr)(n:Nat)(xs:List Nat):Prop :=
 xs.length=n/\mo xs/\(0<n->∃ad:Addr,A=some ad/\ad.block<B/\∀j,j<n->w.cell? (ad.add j)=some (.int .u32 (xs.getD j 0)))
theorem cc.below{w w':World}{B B':Nat}{A:Option Addr}{n:Nat}{xs:List Nat}(h:cc w B A n xs)(hb:Below B' w w')(hB:B<=B'):cc w' B A n xs :=
 ⟨h.1,h.2.1,fun hn=>by
  obtain⟨ad,e,hl,hc⟩:=h.2.2 hn;exact⟨ad,e,hl,fun j hj=>(hb.cell (by rw[lX];omega)).trans (hc j hj)⟩⟩
theorem cc.still{w w':World}{B:Nat}{A:Option Addr}{n:Nat}{xs:List Nat}(h:cc w B A n xs)(hs:fv w w'):cc w' B A n xs :=
 h.below (hs.below B) (ah _)
theorem cc.more{w:World}{B B':Nat}{A:Option Addr}{n:Nat}{xs:List Nat}(h:cc w B A n xs)(hB:B<=B'):cc w B' A n xs :=
 ⟨h.1,h.2.1,fun hn=>by
  obtain⟨ad,e,hl,hc⟩:=h.2.2 hn;exact⟨ad,e,om,hc⟩⟩
theorem cc.at_{w:World}{B:Nat}{A:Option Addr}{n:Nat}{xs:List Nat}(h:cc w B A n xs){k:Nat}(hk:k<n) :
  ∃(ad:Addr) (x:Nat),A=some ad/\ad.block<B/\xs.getD k 0=x/\x<4294967296/\w.cell? (ad.add k)=some (.int .u32 x):=by
 obtain⟨ad,e,hl,hc⟩:=h.2.2 om;exact⟨ad,_,e,hl,rfl,h.2.1.getD k,hc k hk⟩
theorem cc.take{w:World}{B:Nat}{A:Option Addr}{n:Nat}{xs:List Nat}(h:cc w B A n xs){k:Nat}(hk:k<=n):cc w B A k (xs.take k) :=
 ⟨by rw[eC,h.1];omega,h.2.1.take k,fun h0=>by
  obtain⟨ad,e,hl,hc⟩:=h.2.2 om;exact⟨ad,e,hl,fun j hj=>by rw[hc j om];simp[cL,hj]⟩⟩
def dr(zs:List Nat)(r:Nat):Array Value:=((zs++bR r 0).map (fun x:Nat=>dD .u32 x)).toArray
theorem mR(zs:List Nat)(r k:Nat)(h:k<zs.length+r):(dr zs r)[k]? = some (.int .u32 ((zs++bR r 0).getD k 0)):=by
 have hl:k<(zs++bR r 0).length:=by simpa using h
 simp only[dr,fG,mn,bD hl,dp,cL,ge]
theorem xA(zs:List Nat)(r x:Nat):(dr zs (r+1)).setIfInBounds zs.length (.int .u32 x)=dr (zs++[x]) r:=by
 simp[dr,kW]
theorem xC(r:Nat):dr [] r=Array.replicate r (.int .u32 0):=by simp[dr]
theorem cc.ofBlk{w:World}{g r:Nat}{zs:List Nat}(h:fo w g 136 (dr zs r))(hz:mo zs){B:Nat}(hB:g<B)(hr:r=0):cc w B (some ⟨g,0,none⟩) zs.length zs :=
 ⟨rfl,hz,fun _=>⟨_,rfl,hB,fun j hj=>by
  subst hr;have h1:(⟨g,0,none⟩:Addr).add j=⟨g,j,none⟩:=by unfold Addr.add;split<;>simp_all
  rw[h1,h.cell,mR _ _ _ om];simp⟩⟩
theorem C6(n:Nat)(hn:n<=1073741824)(w:World) :
  (Instr.makeSlice 48 (.int .i64 n) (.int .i64 n)).run aj w=.ok (.slice (some ⟨w.heap.size,0,none⟩) n n) (w.alloc (.cells (dr [] n) 136)):=by
 have h:=run_make (P:=aj) w 48 136 Tryz.t136 (.int .u32 0) underlying48 kr kr .i64 .i64 (n:Int) (n:Int) om om (by show(4:Int)*(n:Int)<=_;omega) om
 have hs:Tryz.t136.size=1:=by kernel_rfl
 have e:madeCells (dD .u32 0).cells ((n:Int).toNat*Tryz.t136.size)=dr [] n:=by
  rw[hs,Nat.mul_one,fE,xC];apply Array.ext
  ·simp[madeCells]
  ·intro i h1 h2;simp[madeCells,Value.cells,Nat.mod_one]
 rw[e,fE]at h;exact h
def oq(w:World)(v:Nat)(e:Ending)(w':World):Prop :=
 ∃(A:Option Addr) (n c:Nat) (zs:List Nat),e=.returned (.slice A n c)/\n<=c/\cc w' w'.heap.size A n zs/\oR zs/\bv zs=v/\Below w.heap.size w w'
theorem qT{xs:List Nat}{k:Nat}(h:0<k->xs.getD (k-1) 0≠0)(hk:k<=xs.length):oR (xs.take k):=by
 intro x hx;rcases bU k with h0|h0
 ·subst h0;simp at hx
 ·have h1:=h h0;rw[List.getLast?_eq_getElem?,eC,gR hk,fI om]at hx;simp only[cL,hx,ge]at h1;exact h1
theorem ll(A:Option Addr)(n c B:Nat)(xs:List Nat)(w:World)(hn:n<=c)(hm:n<=9223372036854775807)(h:cc w B A n xs) :
  Calls aj 136 #[.slice A n c] w fun e w'=>(∃k,k<=n/\e=.returned (.slice A k c)/\cc w B A k (xs.take k)/\oR (xs.take k)/\bv (xs.take k)=bv xs)/\w=w':=by
 have HH:=ag h;clear h
 go_enter func136,ntmps136
 go_wp2
 go_loop [0] (fun s=>∃k:Nat,k<=n/\s=.slice A k c/\Hid (∀j,k<=j->xs.getD j 0=0)) (fun s=>match s with|.slice _ k _=>k|_=>0)
 case atStart=>exact⟨n,ah _,rfl,ag (fun j hj=>by simp[cL,co (show xs.length<=j by rw[HH.out.1];exact hj)])⟩
 case round =>
  obtain⟨k,hk,rfl,hz⟩:=hrel;by_cases h0:k=0
  ·subst h0;go_wp2;go_ret;exact⟨⟨0,om,rfl,HH.out.take om,qT (fun h=>absurd h om) om,(lT 0 xs hz.out).symm⟩,rfl⟩
  ·obtain⟨m,rfl⟩:∃m,k=m+1:=⟨k-1,om⟩
   obtain⟨ad,x,rfl,_,hx',_,hx⟩:=HH.out.at_ (k:=m) om;have HX:=ag hx';clear hx';by_cases hx0:x=0
   ·subst hx0;go_wp2;refine⟨⟨m,om,rfl,ag fun j hj=>?_⟩,sm⟩
    rcases aI m j with h|h
    ·exact hz.out j h
    ·obtain rfl:j=m:=om
     exact HX.out
   ·have hb1:((x:Int)==0)=false:=by simp;omega
    go_wp2;go_ret;exact⟨⟨m+1,hk,rfl,HH.out.take hk,qT (fun _=>by rw[Nat.add_sub_cancel,HX.out];exact hx0) (by rw[HH.out.1];exact hk),(lT (m+1) xs hz.out).symm⟩,rfl⟩
def gN(w wr:World)(zs:List Nat)(r:Nat):Prop:=Below w.heap.size w wr/\fo wr w.heap.size 136 (dr zs r)
theorem gN.start(w:World)(r:Nat):gN w (w.alloc (.cells (dr [] r) 136)) [] r:=⟨(a8 _ _).alloc (ah _) _,fo.new _ _ _⟩
theorem gN.drewN{w wr:World}{zs:List Nat}{r:Nat}(h:gN w wr zs r)(q:Nat):gN w (wr.drewN q) zs r:=⟨⟨h.1.os,h.1.tape,h.1.output,h.1.size,h.1.block⟩,h.2⟩
theorem gN.put{w wr:World}{zs:List Nat}{r:Nat}(h:gN w wr zs (r+1))(k x:Nat)(hk:k=zs.length):gN w (wr.setCell ⟨w.heap.size,k,none⟩ (.int .u32 x)) (zs++[x]) r:=by
 subst hk;refine⟨h.1.setCell (ah _) _,?_⟩;have:=h.2.set_ zs.length (.int .u32 x)
 rwa [xA]at this
theorem gN.old{w wr:World}{zs:List Nat}{r k:Nat}(h:gN w wr zs r)(hk:k<zs.length+r):∃u,wr.cell? ⟨w.heap.size,k,none⟩=some u/\wr.frozen? ⟨w.heap.size,k,none⟩=false :=
 ⟨_,(h.2.cell k).trans (mR zs r k hk),h.2.frozen k⟩
def Kr(xs ys zs:List Nat)(k car:Nat):Prop:=zs.length=k/\mo zs/\bv zs+car*4294967296^k=bv (xs.take k)+bv (ys.take k)
theorem FP(A B:Option Addr)(n m c d L:Nat)(xs ys:List Nat)(w:World)(hmn:m<=n)(hn:n<=536870912)(hL:L<=w.heap.size)(hx:cc w L A n xs)(hy:cc w L B m ys) :
  Calls aj 138 #[.slice A n c,.slice B m d] w (oq w (bv xs+bv ys)):=by
 have hmk:=C6 (n+1) om;rw[show((n+1:Nat):Int)=(n:Int)+1 from by omega]at hmk
 have hlt:¬(n<m):=om
 have HX:=ag hx;clear hx;have HY:=ag hy;clear hy
 go_enter func138,ntmps138
 go_wp2;clear hmk
 go_loopw [6,22] (fun cv iv wr=>∃(k car:Nat) (zs:List Nat),k<=m/\iv=.int .i64 k/\cv=.int .u64 car/\car<=1/\Hid (gN w wr zs (n+1-k))/\Hid (Kr xs ys zs k car)) (fun _ iv _=>m-(intOf iv).toNat)
 case atStart=>exact⟨0,0,[],om,rfl,rfl,om,ag (gN.start w (n+1)),ag ⟨rfl,by simp[mo],by simp[bv]⟩⟩
 case round =>
  obtain⟨k,car,zs,hk,rfl,rfl,hcar,HF,HS⟩:=hrel;by_cases hkm:k<m
  ·obtain⟨ad,x,rfl,hab,hxx,hx4,h1⟩:=(HX.out.below HF.out.1 hL).at_ (k:=k) om;obtain⟨bd,y,rfl,hbb,hyy,hy4,h2⟩:=(HY.out.below HF.out.1 hL).at_ (k:=k) om;obtain⟨u,hu,hf⟩:=HF.out.old (k:=k) (by have:=HS.out.1;omega)
   have HXX:=ag hxx;clear hxx;have HYY:=ag hyy;clear hyy;have hkn:(k:Int)<n:=om
   have hkm':(k:Int)<m:=om
   have hk0:(0:Int)<=k:=om
   go_wp2
   go_quiet (fail)
   go_wp2
   go_roundw
   case rel =>
    exact⟨k+1,(car+(x+y))/4294967296,zs++[(car+(x+y))%4294967296],om,by go_num,by go_num,om,
     ag (by
      have h3:n+1-k=(n+1-(k+1))+1:=om
      have h4:=HF.out;rw[h3]at h4;have h5:=(h4.drewN nq).put k ((car+(x+y))%4294967296) HS.out.1.symm;exact h5),
     ag (by
      obtain⟨s1,s2,s3⟩:=HS.out;refine⟨by simp[s1],s2.snoc om,?_⟩
      rw[fZ,s1,dz _ _ (by rw[HX.out.1];omega),dz _ _ (by rw[HY.out.1];omega),HXX.out,HYY.out,ct]
      exact po s3)⟩
   case measure=>simp[intOf];omega
  ·obtain rfl:k=m:=om
   go_wp2
   go_loopw [6,51] (fun cv iv wr=>∃(i car:Nat) (zs:List Nat),i<=n-k/\iv=.int .i64 i/\cv=.int .u64 car/\car<=1/\Hid (gN w wr zs (n+1-(k+i)))/\Hid (Kr xs ys zs (k+i) car)) (fun _ iv _=>n-k-(intOf iv).toNat)
   case atStart=>exact⟨0,car,zs,om,rfl,rfl,hcar,HF,HS⟩
   case round =>
    clear HF HS hcar;obtain⟨i,car,zs,hi,rfl,rfl,hcar,HF,HS⟩:=hrel;by_cases hin:i<n-k
    ·obtain⟨ad,x,rfl,hab,hxx,hx4,h1⟩:=(HX.out.below HF.out.1 hL).at_ (k:=k+i) om;obtain⟨u,hu,hf⟩:=HF.out.old (k:=k+i) (by have:=HS.out.1;omega)
     have HXX:=ag hxx;clear hxx;have hkn:(k:Int)+i<n:=om
     have hkn1:(k:Int)+i<n+1:=om
     have hk0:(0:Int)<=(k:Int)+i:=om
     have hti:((k:Int)+i).toNat=k+i:=om
     have hlt2:(i:Int)<(n:Int)-k:=om
     go_wp2
     go_roundw
     case rel =>
      exact⟨i+1,(car+x)/4294967296,zs++[(car+x)%4294967296],om,by go_num,by go_num,om,
       ag (by
        have h3:n+1-(k+i)=(n+1-(k+(i+1)))+1:=om
        have h4:=HF.out;rw[h3]at h4;have h5:=h4.put (k+i) ((car+x)%4294967296) HS.out.1.symm;exact h5),
       ag (by
        obtain⟨s1,s2,s3⟩:=HS.out;refine⟨by simp[s1];omega,s2.snoc om,?_⟩
        have hyt:∀r,k<=r->ys.take r=ys:=fun r hr=>bL (by rw[HY.out.1];exact hr)
        rw[hyt _ om]at s3 ⊢;rw[fZ,s1,show k+(i+1)=k+i+1 from by omega,dz _ _ (by rw[HX.out.1];omega),HXX.out,ct]
        have:=po (p:=4294967296^(k+i)) (x:=x) (y:=0) s3;simpa using this)⟩
     case measure=>simp[intOf];omega
    ·obtain rfl:i=n-k:=om
     have hkn:k+(n-k)=n:=om
     obtain⟨u,hu,hf⟩:=HF.out.old (k:=n) (by have:=HS.out.1;omega)
     have hge:¬(((n-k:Nat):Int)<(n:Int)-k):=om
     go_wp2_with fail
     have h4:=HF.out;rw[show n+1-(k+(n-k))=0+1 from by omega]at h4
     have hl:zs.length=n:=by rw[HS.out.1,hkn]
     have h5:=h4.put n car hl.symm;have hlim:mo (zs++[car]):=HS.out.2.1.snoc om;have hU:=cc.ofBlk h5.2 hlim h5.2.lt rfl;rw[show(zs++[car]).length=n+1 from by simp[hl]]at hU
     have hB5:=h5.1;have hv:bv (zs++[car])=bv xs+bv ys:=by
      obtain⟨s1,s2,s3⟩:=HS.out;rw[fZ,hl,aS];rw[hkn,bL (by rw[HX.out.1];exact ah _),bL (by rw[HY.out.1];exact hmn)]at s3
      exact s3
     clear h4 h5 HF HS hu hf;have HU:=ag hU;clear hU;have HV:=ag hv;clear hv;have HB:=ag hB5;clear hB5;refine(ll _ _ _ _ _ _ (ah _) om HU.out).mono ?_;rintro e w' ⟨⟨r,hr,rfl,hU2,hT,hv2⟩,rfl⟩;have HU2:=ag hU2;clear hU2;have HV2:=ag hv2;clear hv2;go_wp2;go_ret;exact⟨_,_,_,_,rfl,hr,HU2.out,hT,HV2.out.trans HV.out,HB.out⟩
theorem FO(A B:Option Addr)(n m c d L:Nat)(xs ys:List Nat)(w:World)(hmn:m<n)(hn:n<=536870912)(hL:L<=w.heap.size)(hx:cc w L A n xs)(hy:cc w L B m ys) :
  Calls aj 138 #[.slice B m d,.slice A n c] w (oq w (bv ys+bv xs)):=by
 have hmk:=C6 (n+1) om;rw[show((n+1:Nat):Int)=(n:Int)+1 from by omega]at hmk
 have hlt:m<n:=hmn;have HX:=ag hx;clear hx;have HY:=ag hy;clear hy
 go_enter func138,ntmps138
 go_wp2;clear hmk
 go_loopw [6,22] (fun cv iv wr=>∃(k car:Nat) (zs:List Nat),k<=m/\iv=.int .i64 k/\cv=.int .u64 car/\car<=1/\Hid (gN w wr zs (n+1-k))/\Hid (Kr xs ys zs k car)) (fun _ iv _=>m-(intOf iv).toNat)
 case atStart=>exact⟨0,0,[],om,rfl,rfl,om,ag (gN.start w (n+1)),ag ⟨rfl,by simp[mo],by simp[bv]⟩⟩
 case round =>
  obtain⟨k,car,zs,hk,rfl,rfl,hcar,HF,HS⟩:=hrel;by_cases hkm:k<m
  ·obtain⟨ad,x,rfl,hab,hxx,hx4,h1⟩:=(HX.out.below HF.out.1 hL).at_ (k:=k) om;obtain⟨bd,y,rfl,hbb,hyy,hy4,h2⟩:=(HY.out.below HF.out.1 hL).at_ (k:=k) om;obtain⟨u,hu,hf⟩:=HF.out.old (k:=k) (by have:=HS.out.1;omega)
   have HXX:=ag hxx;clear hxx;have HYY:=ag hyy;clear hyy;have hkn:(k:Int)<n:=om
   have hkm':(k:Int)<m:=om
   have hk0:(0:Int)<=k:=om
   go_wp2
   go_quiet (fail)
   go_wp2
   go_roundw
   case rel =>
    exact⟨k+1,(car+(x+y))/4294967296,zs++[(car+(x+y))%4294967296],om,by go_num,by go_num,om,
     ag (by
      have h3:n+1-k=(n+1-(k+1))+1:=om
      have h4:=HF.out;rw[h3]at h4;have h5:=(h4.drewN nq).put k ((car+(x+y))%4294967296) HS.out.1.symm;exact h5),
     ag (by
      obtain⟨s1,s2,s3⟩:=HS.out;refine⟨by simp[s1],s2.snoc om,?_⟩
      rw[fZ,s1,dz _ _ (by rw[HX.out.1];omega),dz _ _ (by rw[HY.out.1];omega),HXX.out,HYY.out,ct]
      exact po s3)⟩
   case measure=>simp[intOf];omega
  ·obtain rfl:k=m:=om
   go_wp2
   go_loopw [6,51] (fun cv iv wr=>∃(i car:Nat) (zs:List Nat),i<=n-k/\iv=.int .i64 i/\cv=.int .u64 car/\car<=1/\Hid (gN w wr zs (n+1-(k+i)))/\Hid (Kr xs ys zs (k+i) car)) (fun _ iv _=>n-k-(intOf iv).toNat)
   case atStart=>exact⟨0,car,zs,om,rfl,rfl,hcar,HF,HS⟩
   case round =>
    clear HF HS hcar;obtain⟨i,car,zs,hi,rfl,rfl,hcar,HF,HS⟩:=hrel;by_cases hin:i<n-k
    ·obtain⟨ad,x,rfl,hab,hxx,hx4,h1⟩:=(HX.out.below HF.out.1 hL).at_ (k:=k+i) om;obtain⟨u,hu,hf⟩:=HF.out.old (k:=k+i) (by have:=HS.out.1;omega)
     have HXX:=ag hxx;clear hxx;have hkn:(k:Int)+i<n:=om
     have hkn1:(k:Int)+i<n+1:=om
     have hk0:(0:Int)<=(k:Int)+i:=om
     have hti:((k:Int)+i).toNat=k+i:=om
     have hlt2:(i:Int)<(n:Int)-k:=om
     go_wp2
     go_roundw
     case rel =>
      exact⟨i+1,(car+x)/4294967296,zs++[(car+x)%4294967296],om,by go_num,by go_num,om,
       ag (by
        have h3:n+1-(k+i)=(n+1-(k+(i+1)))+1:=om
        have h4:=HF.out;rw[h3]at h4;have h5:=h4.put (k+i) ((car+x)%4294967296) HS.out.1.symm;exact h5),
       ag (by
        obtain⟨s1,s2,s3⟩:=HS.out;refine⟨by simp[s1];omega,s2.snoc om,?_⟩
        have hyt:∀r,k<=r->ys.take r=ys:=fun r hr=>bL (by rw[HY.out.1];exact hr)
        rw[hyt _ om]at s3 ⊢;rw[fZ,s1,show k+(i+1)=k+i+1 from by omega,dz _ _ (by rw[HX.out.1];omega),HXX.out,ct]
        have:=po (p:=4294967296^(k+i)) (x:=x) (y:=0) s3;simpa using this)⟩
     case measure=>simp[intOf];omega
    ·obtain rfl:i=n-k:=om
     have hkn:k+(n-k)=n:=om
     obtain⟨u,hu,hf⟩:=HF.out.old (k:=n) (by have:=HS.out.1;omega)
     have hge:¬(((n-k:Nat):Int)<(n:Int)-k):=om
     go_wp2_with fail
     have h4:=HF.out;rw[show n+1-(k+(n-k))=0+1 from by omega]at h4
     have hl:zs.length=n:=by rw[HS.out.1,hkn]
     have h5:=h4.put n car hl.symm;have hlim:mo (zs++[car]):=HS.out.2.1.snoc om;have hU:=cc.ofBlk h5.2 hlim h5.2.lt rfl;rw[show(zs++[car]).length=n+1 from by simp[hl]]at hU
     have hB5:=h5.1;have hv:bv (zs++[car])=bv xs+bv ys:=by
      obtain⟨s1,s2,s3⟩:=HS.out;rw[fZ,hl,aS];rw[hkn,bL (by rw[HX.out.1];exact ah _),bL (by rw[HY.out.1];exact dw hmn)]at s3
      exact s3
     clear h4 h5 HF HS hu hf;have HU:=ag hU;clear hU;have HV:=ag hv;clear hv;have HB:=ag hB5;clear hB5;refine(ll _ _ _ _ _ _ (ah _) om HU.out).mono ?_;rintro e w' ⟨⟨r,hr,rfl,hU2,hT,hv2⟩,rfl⟩;have HU2:=ag hU2;clear hU2;have HV2:=ag hv2;clear hv2;go_wp2;go_ret;exact⟨_,_,_,_,rfl,hr,HU2.out,hT,(HV2.out.trans HV.out).trans (sY _ _),HB.out⟩
theorem wx(A B:Option Addr)(n m c d L:Nat)(xs ys:List Nat)(w:World)(hn:n<=536870912)(hm:m<=536870912)(hL:L<=w.heap.size)(hx:cc w L A n xs)(hy:cc w L B m ys) :
  Calls aj 138 #[.slice A n c,.slice B m d] w (oq w (bv xs+bv ys)):=by
 rcases aI n m with h|h
 ·exact FO B A m n d c L ys xs w h hm hL hy hx
 ·exact FP A B n m c d L xs ys w h hn hL hx hy
theorem pS{xs:List Nat}{i:Nat}(h:i<xs.length):xs.drop i=xs.getD i 0::xs.drop (i+1):=by
 rw[iH h];simp[cL,bD h]
theorem gG(A B:Option Addr)(n m c d L:Nat)(xs ys:List Nat)(w:World)(hn:n<=9223372036854775807)(hm:m<=9223372036854775807)(hx:cc w L A n xs)(hy:cc w L B m ys)(tx:oR xs)(ty:oR ys) :
  Calls aj 195 #[.slice A n c,.slice B m d] w fun e w'=>e=.returned (.int .i64 (kc (bv xs) (bv ys)))/\fv w w':=by
 have HX:=ag hx;clear hx;have HY:=ag hy;clear hy;have TX:=ag tx;clear tx;have TY:=ag ty;clear ty;by_cases h1:n<m
 ·have hr:=ag (kb (nS HX.out.2.1 TY.out (by rw[HX.out.1,HY.out.1];exact h1)))
  go_enter func195,ntmps195
  go_wp2;go_ret;exact⟨by rw[hr.out];rfl,fv.refl _⟩
 by_cases h2:m<n
 ·have hr:=ag (jL (nS HY.out.2.1 TX.out (by rw[HX.out.1,HY.out.1];exact h2)))
  go_enter func195,ntmps195
  go_wp2;go_ret;exact⟨by rw[hr.out];rfl,fv.refl _⟩
 obtain rfl:n=m:=om
 go_enter func195,ntmps195
 go_wp2
 go_loopw [5] (fun iv wr=>∃(k:Nat),k<=n/\iv=.int .i64 ((k:Int)-1)/\Hid (fv w wr)/\Hid (xs.drop k=ys.drop k)) (fun iv _=>(intOf iv+1).toNat)
 case atStart=>exact⟨n,om,rfl,ag (fv.refl w),ag (by rw[fU (by rw[HX.out.1];omega),fU (by rw[HY.out.1];omega)])⟩
 case round =>
  obtain⟨k,hk,rfl,HQ,HD⟩:=hrel;by_cases h0:k=0
  ·subst h0;have hr:=ag (lg (show bv xs=bv ys by have:=HD.out;simp only[List.drop_zero]at this;rw[this]))
   go_wp2;go_ret;exact⟨by rw[hr.out];rfl,HQ.out⟩
  ·obtain⟨i,rfl⟩:∃i,k=i+1:=⟨k-1,om⟩
   obtain⟨ad,x,rfl,_,hxx,hx4,h3⟩:=(HX.out.still HQ.out).at_ (k:=i) om;obtain⟨bd,y,rfl,_,hyy,hy4,h4⟩:=(HY.out.still HQ.out).at_ (k:=i) om;have HXX:=ag hxx;clear hxx;have HYY:=ag hyy;clear hyy;have e1:((i+1:Nat):Int)-1=(i:Int):=om
   rw[e1];clear e1;have hi0:(0:Int)<=i:=om
   have hin:(i:Int)<n:=om
   rcases db x y with hlt|heq|hgt
   ·have hr:=ag (kb (pG HX.out.2.1 (i:=i) (by rw[HX.out.1];omega) (by rw[HX.out.1,HY.out.1]) HD.out (by rw[HXX.out,HYY.out];exact hlt)))
    go_wp2
    go_quiet (fail)
    go_wp2;go_ret;exact⟨by rw[hr.out];rfl,by repeat' (first|exact HQ.out|apply fv.more)⟩
   ·subst heq;go_wp2
    go_quiet (fail)
    go_wp2
    go_quiet (fail)
    go_wp2
    go_roundw
    case rel=>exact⟨i,om,rfl,ag (by repeat' (first|exact HQ.out|apply fv.more)),ag (by rw[pS (by rw[HX.out.1];omega),pS (xs:=ys) (by rw[HY.out.1];omega),HXX.out,HYY.out,HD.out])⟩
    case measure=>simp[intOf]
   ·have hr:=ag (jL (pG HY.out.2.1 (i:=i) (by rw[HY.out.1];omega) (by rw[HX.out.1,HY.out.1]) HD.out.symm (by rw[HXX.out,HYY.out];exact hgt)))
    go_wp2
    go_quiet (fail)
    go_wp2
    go_quiet (fail)
    go_wp2;go_ret;exact⟨by rw[hr.out];rfl,by repeat' (first|exact HQ.out|apply fv.more)⟩
theorem GW{a x:Nat}(ha:a<4294967296):a ||| x*4294967296=a+x*4294967296:=by
 have h:=Nat.shiftLeft_add_eq_or_of_lt (i:=32) (b:=a) (by simpa using ha) x
 rw[Nat.shiftLeft_eq]at h;rw[Nat.or_comm,<-h,sY]
theorem uN{a x:Nat}(ha:a<4294967296)(hx:x<4294967296):bits .or .u64 (a:Int) ((x:Int)*4294967296)=((a+x*4294967296:Nat):Int):=by
 have h:=u64_or_nat a (x*4294967296) om om;rw[GW ha]at h;rw[<-h];rfl
theorem nj(A:Option Addr)(n c L:Nat)(xs:List Nat)(w:World)(hn:n<=2)(hx:cc w L A n xs) :
  Calls aj 141 #[.slice A n c] w fun e w'=>e=.returned (.int .u64 (bv xs))/\w=w':=by
 have HX:=ag hx;clear hx
 go_enter func141,ntmps141
 go_wp2
 go_loop [3,8] (fun v i=>∃k:Nat,k<=n/\i=.int .i64 k/\v=.int .u64 (bv (xs.take k))) (fun _ i=>n-(intOf i).toNat)
 case atStart=>exact⟨0,ke _,rfl,by simp[bv]⟩
 case round =>
  obtain⟨k,hk,rfl,rfl⟩:=hrel;by_cases hkn:k<n
  ·obtain⟨ad,x,rfl,_,hxx,hx4,h1⟩:=HX.out.at_ hkn;have HXX:=ag hxx;clear hxx;have hv:=iC (HX.out.2.1.take k);have hk2:k=0∨k=1:=om
   rcases hk2 with rfl|rfl
   ·simp only[Addr.add,if_pos]at h1;go_wp2;refine⟨⟨1,om,rfl,?_⟩,by simp[intOf];omega⟩
    have hx1:xs.take 1=[x]:=by
     rw[List.take_succ_eq_append_getElem (by rw[HX.out.1];omega)]
     have:=HXX.out;simp only[cL,bD (show 0<xs.length by rw[HX.out.1];omega),ge]at this
     simp[this]
    rw[hx1];have h5:=u64_or_nat 0 x om om;simp only[Nat.zero_or]at h5;simpa [bv]using h5
   ·simp only[Addr.add,Nat.one_ne_zero,if_false]at h1;go_wp2;refine⟨⟨2,om,rfl,?_⟩,by simp[intOf];omega⟩
    rw[dz xs 1 (by rw[HX.out.1];omega),HXX.out]
    simp only[eC]at hv;rw[uN (Nat.lt_of_lt_of_le hv (by
     rw[HX.out.1,gR om];omega)) hx4,Nat.pow_one,aS x]
  ·obtain rfl:k=n:=om
   go_wp2;go_ret;exact⟨by rw[bL (by rw[HX.out.1];exact ah _)];rfl,rfl⟩
theorem jl(v:Nat)(w:World)(hv:v<18446744073709551616) :
  Calls aj 135 #[.int .u64 v] w (oq w v):=by
 go_enter func135,ntmps135
 go_wp2_with fail
 have hl:mo [v%4294967296,v/4294967296]:=by
  intro x hx;simp only[List.mem_cons,List.not_mem_nil,or_false]at hx;rcases hx with rfl|rfl<;>omega
 have hb:fo (w.alloc (Obj.cells #[dD IntKind.u32 ((v:Int)%4294967296),dD IntKind.u32 ((v:Int)/4294967296)] 136)) w.heap.size 136 (dr [v%4294967296,v/4294967296] 0):=by
  have:=fo.new w 136 #[dD IntKind.u32 ((v:Int)%4294967296),dD IntKind.u32 ((v:Int)/4294967296)];simpa [dr]using this
 have hU:=cc.ofBlk hb hl hb.lt rfl;have HB:=ag ((a8 w.heap.size w).alloc (ah _) (Obj.cells #[dD IntKind.u32 ((v:Int)%4294967296),dD IntKind.u32 ((v:Int)/4294967296)] 136));clear hb;have HU:=ag hU;clear hU;refine(ll _ _ _ _ _ _ (ah _) sm HU.out).mono ?_
 rintro e w' ⟨⟨r,hr,rfl,hU2,hT,hv2⟩,rfl⟩;have HU2:=ag hU2;clear hU2;have HV2:=ag hv2;clear hv2;go_wp2;go_ret;exact⟨_,_,_,_,rfl,hr,HU2.out,hT,HV2.out.trans (by simp[bv];omega),HB.out⟩
def Diff1(xs ys zs:List Nat)(k bo:Nat):Prop:=zs.length=k/\mo zs/\bv zs+bv (ys.take k)=bv (xs.take k)+bo*4294967296^k
theorem xY(x bo y:Nat)(hx:x<4294967296)(hb:bo<=1)(hy:y<4294967296) :
  IntKind.u64.wrap (IntKind.u64.wrap ((x:Int)-bo)-y)=((x+18446744073709551616-bo-y)%18446744073709551616:Nat):=by
 rw[IntKind.wrap_u64,IntKind.wrap_u64];omega
theorem xZ(x bo:Nat)(hx:x<4294967296)(hb:bo<=1) :
  IntKind.u64.wrap ((x:Int)-bo)=((x+18446744073709551616-bo-0)%18446744073709551616:Nat):=by
 rw[IntKind.wrap_u64];omega
theorem G4{t:Nat}:((t%18446744073709551616:Nat):Int)%4294967296=((t%4294967296:Nat):Int):=om
theorem Ey{t:Nat}:((t%18446744073709551616:Nat):Int)/9223372036854775808=((t%18446744073709551616/9223372036854775808:Nat):Int):=om
theorem nU(A B:Option Addr)(n m c d L:Nat)(xs ys:List Nat)(w:World)(hmn:m<=n)(hn:n<=536870912)(hL:L<=w.heap.size)(hx:cc w L A n xs)(hy:cc w L B m ys)(hle:bv ys<=bv xs) :
  Calls aj 139 #[.slice A n c,.slice B m d] w (oq w (bv xs-bv ys)):=by
 have hmk:=C6 n om;have HLE:=ag hle;clear hle;have HX:=ag hx;clear hx;have HY:=ag hy;clear hy
 go_enter func139,ntmps139
 go_wp2;clear hmk
 go_loopw [6,14] (fun cv iv wr=>∃(k bo:Nat) (zs:List Nat),k<=n/\iv=.int .i64 k/\cv=.int .u64 bo/\bo<=1/\Hid (gN w wr zs (n-k))/\Hid (Diff1 xs ys zs k bo)) (fun _ iv _=>n-(intOf iv).toNat)
 case atStart=>exact⟨0,0,[],om,rfl,rfl,om,ag (gN.start w n),ag ⟨rfl,by simp[mo],by simp[bv]⟩⟩
 case round =>
  obtain⟨k,bo,zs,hk,rfl,rfl,hbo,HF,HS⟩:=hrel;by_cases hkn:k<n
  ·obtain⟨ad,x,rfl,hab,hxx,hx4,h1⟩:=(HX.out.below HF.out.1 hL).at_ (k:=k) om;obtain⟨u,hu,hf⟩:=HF.out.old (k:=k) (by have:=HS.out.1;omega)
   have HXX:=ag hxx;clear hxx;have hkn':(k:Int)<n:=om
   have hk0:(0:Int)<=k:=om
   by_cases hkm:k<m
   ·obtain⟨bd,y,rfl,hbb,hyy,hy4,h2⟩:=(HY.out.below HF.out.1 hL).at_ (k:=k) om;have HYY:=ag hyy;clear hyy;have hkm':(k:Int)<m:=om
    go_wp2
    go_roundw
    case rel =>
     obtain⟨s1,s2,s3⟩:=HS.out;obtain⟨z,b,hz,hb,z4,b1,hs⟩:=Bk s3 hbo hx4 hy4;refine⟨k+1,b,zs++[z],om,by go_num,?_,b1,ag ?_,ag ⟨by simp[s1],s2.snoc z4,?_⟩⟩
     ·rw[xY x bo y hx4 hbo hy4,Ey,hb]
     ·have h3:n-k=(n-(k+1))+1:=om
      have h4:=HF.out;rw[h3]at h4;rw[xY x bo y hx4 hbo hy4,G4,<-hz];exact h4.put k z s1.symm
     ·rw[fZ,s1,dz xs _ (by rw[HX.out.1];omega),dz ys _ (by rw[HY.out.1];omega),HXX.out,HYY.out,ct]
      exact hs
    case measure=>simp[intOf];omega
   ·go_wp2
    go_roundw
    case rel =>
     obtain⟨s1,s2,s3⟩:=HS.out;obtain⟨z,b,hz,hb,z4,b1,hs⟩:=Bk (y:=0) s3 hbo hx4 om;refine⟨k+1,b,zs++[z],om,by go_num,?_,b1,ag ?_,ag ⟨by simp[s1],s2.snoc z4,?_⟩⟩
     ·rw[xZ x bo hx4 hbo,Ey,hb]
     ·have h3:n-k=(n-(k+1))+1:=om
      have h4:=HF.out;rw[h3]at h4;rw[xZ x bo hx4 hbo,G4,<-hz];exact h4.put k z s1.symm
     ·have hyt:∀r,m<=r->ys.take r=ys:=fun r hr=>bL (by rw[HY.out.1];exact hr)
      rw[hyt _ om]at hs ⊢;rw[fZ,s1,dz _ _ (by rw[HX.out.1];omega),HXX.out,ct]
      simpa using hs
    case measure=>simp[intOf];omega
  ·obtain rfl:k=n:=om
   go_wp2_with fail
   obtain⟨s1,s2,s3⟩:=HS.out;have h5:=HF.out;rw[Nat.sub_self]at h5;have hU:=cc.ofBlk h5.2 s2 h5.2.lt rfl;rw[s1]at hU;have hv:bv zs=bv xs-bv ys:=by
    rw[bL (l:=xs) (by rw[HX.out.1];exact ah _),bL (l:=ys) (by rw[HY.out.1];exact hmn)]at s3
    have h6:=HLE.out;have h7:=iC s2;rw[s1]at h7;rcases bU bo with h0|h0
    ·subst h0;omega
    ·obtain rfl:bo=1:=om
     omega
   have HB:=ag h5.1;clear h5 HF HS s1 s2 s3;have HU:=ag hU;clear hU;have HV:=ag hv;clear hv;refine(ll _ _ _ _ _ _ (ah _) om HU.out).mono ?_;rintro e w' ⟨⟨r,hr,rfl,hU2,hT,hv2⟩,rfl⟩;have HU2:=ag hU2;clear hU2;have HV2:=ag hv2;clear hv2;go_wp2;go_ret;exact⟨_,_,_,_,rfl,hr,HU2.out,hT,HV2.out.trans HV.out,HB.out⟩
def d7(w:World)(B:Nat)(v:Value)(z:Int):Prop :=
 ∃(neg:Bool) (A:Option Addr) (n c:Nat) (xs:List Nat),v=.agg #[.bool neg,.slice A n c]/\n<=c/\cc w B A n xs/\oR xs/\z=sg neg (bv xs)
theorem d7.below{w w':World}{B B':Nat}{v:Value}{z:Int}(h:d7 w B v z)(hb:Below B' w w')(hB:B<=B'):d7 w' B v z:=by
 obtain⟨neg,A,n,c,xs,h1,h2,h3,h4,h5⟩:=h;exact⟨neg,A,n,c,xs,h1,h2,h3.below hb hB,h4,h5⟩
theorem d7.more{w:World}{B B':Nat}{v:Value}{z:Int}(h:d7 w B v z)(hB:B<=B'):d7 w B' v z:=by
 obtain⟨neg,A,n,c,xs,h1,h2,h3,h4,h5⟩:=h;exact⟨neg,A,n,c,xs,h1,h2,h3.more hB,h4,h5⟩
def C0:Value->Prop
 | .int _ _=>False
 | _=>True
theorem cc.put{w:World}{B g i:Nat}{t:TypeId}{cs:Array Value}{A:Option Addr}{n:Nat}{xs:List Nat}{u:Value}(h:cc w B A n xs)(hb:fo w g t cs)(hc:∀(j:Nat) (x:Value),cs[j]? = some x->C0 x) :
  cc (w.setCell ⟨g,i,none⟩ u) B A n xs :=
 ⟨h.1,h.2.1,fun hn=>by
  obtain⟨ad,e,hl,hx⟩:=h.2.2 hn;refine⟨ad,e,hl,fun j hj=>?_⟩;have h1:=hx j hj;have hne:ad.block≠g:=by
   intro he;have h2:w.cell? (ad.add j)=(if (ad.add j).spot.isSome then none else cs[(ad.add j).off]?):=by
    unfold World.cell?;rw[lX,he,show w.heap[g]? = _ from hb]
   rw[h2]at h1;split at h1
   ·cases h1
   ·exact hc _ _ h1
  rw[<-h1];exact World.cell?_of_block (Below.heap_setCell w _ u _ (by rw[lX];exact hne))⟩
theorem d7.put{w:World}{B g i:Nat}{t:TypeId}{cs:Array Value}{v:Value}{z:Int}{u:Value}(h:d7 w B v z)(hb:fo w g t cs)(hc:∀(j:Nat) (x:Value),cs[j]? = some x->C0 x) :
  d7 (w.setCell ⟨g,i,none⟩ u) B v z:=by
 obtain⟨neg,A,n,c,xs,h1,h2,h3,h4,h5⟩:=h;exact⟨neg,A,n,c,xs,h1,h2,h3.put hb hc,h4,h5⟩
theorem k9(a:Bool)(A:Option Addr)(n c:Nat):∀(j:Nat) (x:Value),(#[aC a,aq A n c]:Array Value)[j]? = some x->C0 x:=by
 intro j x h
 match j with
 | 0=>simp at h;subst h;trivial
 | 1=>simp at h;subst h;trivial
 | j+2=>simp at h
theorem d7.result{w:World}{B g:Nat}{neg a:Bool}{A D:Option Addr}{n c k d:Nat}{z:Int}(h:d7 w B (.agg #[.bool neg,.slice A n c]) z)(hb:fo w g 50 #[.bool a,.slice D k d]) :
  d7 ((w.setCell ⟨g,0,none⟩ (.bool neg)).setCell ⟨g,1,none⟩ (.slice A n c)) B (.agg #[.bool neg,.slice A n c]) z :=
 (h.put hb (k9 a D k d)).put (hb.set_ 0 (.bool neg)) (by simpa using k9 neg D k d)
def dh(w:World)(z:Int)(e:Ending)(w':World):Prop:=∃v,e=.returned v/\d7 w' w'.heap.size v z/\Below w.heap.size w w'
theorem dh.cell{w w2:World}{g:Nat}{neg a:Bool}{A D:Option Addr}{n c k d:Nat}{z z':Int}(hI:d7 w2 w2.heap.size (.agg #[.bool neg,.slice A n c]) z)(hblk:fo w2 g 50 #[.bool a,.slice D k d])
  (hb:Below w.heap.size w w2) (hg:w.heap.size<=g) (hz:z=z') :
  dh w z' (.returned (.agg #[.bool neg,.slice A n c])) ((w2.setCell ⟨g,0,none⟩ (.bool neg)).setCell ⟨g,1,none⟩ (.slice A n c)) :=
 ⟨_,rfl,by subst hz;simpa using d7.result hI hblk,(hb.setCell (by exact hg) _).setCell (by exact hg) _⟩
theorem tt(s:Bool)(a b:Nat):sg s (a+b)=sg s a+sg s b:=by cases s<;>simp[sg];omega
theorem sv{s1 s2:Bool}(h:s1≠s2){a b:Nat}(hab:b<=a):sg s1 (a-b)=sg s1 a+sg s2 b:=by
 cases s1<;>cases s2<;>simp[sg]at*<;> omega
theorem yl{s1 s2:Bool}(h:s1≠s2){a b:Nat}(hab:a<=b):sg s2 (b-a)=sg s1 a+sg s2 b:=by
 cases s1<;>cases s2<;>simp[sg]at*<;> omega
theorem aL{w:World}{B:Nat}{A:Option Addr}{n:Nat}{xs:List Nat}(h:cc w B A n xs)(ht:oR xs):n=nl (bv xs):=by rw[<-h.1];exact zV h.2.1 ht
theorem fQ(neg:Bool)(A:Option Addr)(n c B:Nat)(xs:List Nat)(w:World)(hn:n<=c)(hm:n<=9223372036854775807)(hB:B<=w.heap.size)(h:cc w B A n xs)(ht:oR xs) :
  Calls aj 134 #[.bool neg,.slice A n c] w (dh w (sg neg (bv xs))):=by
 have HX:=ag h;clear h;have HT:=ag ht;clear ht;by_cases h0:n=0
 ·subst h0
  go_enter func134,ntmps134
  go_wp2;have hx0:xs=[]:=rZ.1 HX.out.1;exact bodyPost_ret (v:=.agg #[.bool false,.slice none 0 0]) (by simp[results,results134,go_sem]) rfl
   ⟨_,rfl,⟨false,none,0,0,[],rfl,ah _,⟨rfl,by simp[mo],fun h=>absurd h om⟩,by intro x hx;simp at hx,by rw[hx0];simp[bv,sg]⟩,(a8 _ _).alloc (ah _) _⟩
 ·have h1:((n:Int)==0)=false:=by simp;omega
  go_enter func134,ntmps134
  go_wp2;have hb:=(a8 w.heap.size w).alloc (ah _) (Obj.cells #[aC neg,aq A n c] 50);exact bodyPost_ret (v:=.agg #[.bool neg,.slice A n c]) (by simp[results,results134,go_sem]) rfl
   ⟨_,rfl,⟨neg,A,n,c,xs,rfl,hn,(HX.out.below hb hB).more (by have:=hb.size;omega),HT.out,rfl⟩,hb⟩
theorem ql(s1 s2:Bool)(A B:Option Addr)(n m c d L:Nat)(xs ys:List Nat)(w:World)(hn:n<=536870912)(hm:m<=536870912)(hL:L<=w.heap.size)
  (hx:cc w L A n xs) (hy:cc w L B m ys) (tx:oR xs) (ty:oR ys) :
  Calls aj 194 #[.bool s1,.slice A n c,.bool s2,.slice B m d] w (dh w (sg s1 (bv xs)+sg s2 (bv ys))):=by
 have HX:=ag hx;clear hx;have HY:=ag hy;clear hy;have HTX:=ag tx;clear tx;have HTY:=ag ty;clear ty;by_cases hs:s1=s2
 ·subst hs;have hb:(s1==s1)=true:=by simp
  go_enter func194,ntmps194
  go_wp2_with fail
  have hb0:=(a8 w.heap.size w).alloc (ah _) (Obj.cells #[aC false,aq none 0 0] 50);refine(wx A B n m c d L xs ys _ hn hm (by simp;omega) (HX.out.below hb0 hL) (HY.out.below hb0 hL)).mono ?_
  rintro e w1 ⟨A1,k,c1,zs,rfl,hk,hU,hT,hv,hb1⟩;have hk2:k<=536870913:=by
   rw[<-hU.1,zV hU.2.1 hT,hv];have h1:=GZ (bv xs) (bv ys);rw[<-zV HX.out.2.1 HTX.out,<-zV HY.out.2.1 HTY.out,HX.out.1,HY.out.1]at h1;omega
  have HU:=ag hU;clear hU;have HV:=ag hv;clear hv;have HT:=ag hT;clear hT;have HB1:=ag hb1;clear hb1;have HB0:=ag hb0;clear hb0
  go_wp2_with fail
  refine(fQ s1 A1 k c1 w1.heap.size zs w1 hk om (ah _) HU.out HT.out).mono ?_;rintro e w2 ⟨v,rfl,hI,hb2⟩;obtain⟨neg,A2,n2,c2,zs2,rfl,hI2⟩:=hI;have hsz:w.heap.size+1<=w1.heap.size:=by have:=HB1.out.size;simpa using this
  have hblk:fo w2 w.heap.size 50 #[.bool false,.slice none 0 0]:=((fo.new w 50 _).below HB1.out sm).below hb2 om
  have hc0:=hblk.cell 0;have hc1:=hblk.cell 1;have hf0:=hblk.frozen 0;have hf1:=hblk.frozen 1;simp only[fG,cN,bT]at hc0 hc1;have HK:=ag hblk;clear hblk;have HI:=ag hI2;clear hI2;have HB2:=ag hb2;clear hb2;go_wp2;exact bodyPost_ret (v:=.agg #[.bool neg,.slice A2 n2 c2]) (by simp[results,results194,go_sem,hc0,hc1]) rfl
   (dh.cell ⟨neg,A2,n2,c2,zs2,rfl,HI.out⟩ HK.out ((HB0.out.trans (HB1.out.mono sm)).trans (HB2.out.mono om)) (ah _) (by rw[HV.out,tt]))
 ·have hb:(s1==s2)=false:=by simpa using hs
  rcases aI (bv xs) (bv ys)with hlt|hge
  ·have hcm:=kb hlt
   go_enter func194,ntmps194
   go_wp2_with fail
   have hb0:=(a8 w.heap.size w).alloc (ah _) (Obj.cells #[aC false,aq none 0 0] 50);have hcall:=gG A B n m c d L xs ys (w.alloc (Obj.cells #[aC false,aq none 0 0] 50)) om om (HX.out.below hb0 hL) (HY.out.below hb0 hL) HTX.out HTY.out;rw[hcm]at hcall;refine hcall.mono ?_;clear hcall hcm;rintro e w1 ⟨rfl,q,rfl⟩;have HB0:=ag (hb0.trans ((fv.refl _).more q |>.below _));clear hb0
   go_wp2_with fail
   refine(nU B A m n d c L ys xs _ (by have h1:=aL HX.out HTX.out;have h2:=aL HY.out HTY.out;have h3:=fy (dw hlt);omega) om (by simp;omega) (HY.out.below HB0.out hL) (HX.out.below HB0.out hL) (dw hlt)).mono ?_
   rintro e w1 ⟨A1,k,c1,zs,rfl,hk,hU,hT,hv,hb1⟩;have hk2:k<=536870913:=by
    rw[aL hU hT,hv];have h1:=aL HX.out HTX.out;have h2:=aL HY.out HTY.out;have h3:nl (bv xs-bv ys)<=nl (bv xs):=fy om;have h4:nl (bv ys-bv xs)<=nl (bv ys):=fy om;omega
   have HU:=ag hU;clear hU;have HV:=ag hv;clear hv;have HT:=ag hT;clear hT;have HB1:=ag hb1;clear hb1
   go_wp2_with fail
   refine(fQ s2 A1 k c1 w1.heap.size zs w1 hk om (ah _) HU.out HT.out).mono ?_;rintro e w2 ⟨v,rfl,hI,hb2⟩;obtain⟨neg,A2,n2,c2,zs2,rfl,hI2⟩:=hI;have hsz:w.heap.size+1<=w1.heap.size:=by have:=HB1.out.size;simpa using this
   have hblk:fo w2 w.heap.size 50 #[.bool false,.slice none 0 0]:=(fo.below (w:=(w.alloc (Obj.cells #[aC false,aq none 0 0] 50)).drewN q) (fo.new w 50 _) HB1.out sm).below hb2 om
   have hc0:=hblk.cell 0;have hc1:=hblk.cell 1;have hf0:=hblk.frozen 0;have hf1:=hblk.frozen 1;simp only[fG,cN,bT]at hc0 hc1;have HK:=ag hblk;clear hblk;have HI:=ag hI2;clear hI2;have HB2:=ag hb2;clear hb2;go_wp2;exact bodyPost_ret (v:=.agg #[.bool neg,.slice A2 n2 c2]) (by simp[results,results194,go_sem,hc0,hc1]) rfl
    (dh.cell ⟨neg,A2,n2,c2,zs2,rfl,HI.out⟩ HK.out ((HB0.out.trans (HB1.out.mono sm)).trans (HB2.out.mono om)) (ah _) (by rw[HV.out,yl hs (dw hlt)]))
  ·rcases aI (bv ys) (bv xs)with hgt|hle
   ·have hcm:=jL hgt
    go_enter func194,ntmps194
    go_wp2_with fail
    have hb0:=(a8 w.heap.size w).alloc (ah _) (Obj.cells #[aC false,aq none 0 0] 50);have hcall:=gG A B n m c d L xs ys (w.alloc (Obj.cells #[aC false,aq none 0 0] 50)) om om (HX.out.below hb0 hL) (HY.out.below hb0 hL) HTX.out HTY.out;rw[hcm]at hcall;refine hcall.mono ?_;clear hcall hcm;rintro e w1 ⟨rfl,q,rfl⟩;have HB0:=ag (hb0.trans ((fv.refl _).more q |>.below _));clear hb0
    go_wp2_with fail
    refine(nU A B n m c d L xs ys _ (by have h1:=aL HX.out HTX.out;have h2:=aL HY.out HTY.out;have h3:=fy (dw hgt);omega) om (by simp;omega) (HX.out.below HB0.out hL) (HY.out.below HB0.out hL) (dw hgt)).mono ?_
    rintro e w1 ⟨A1,k,c1,zs,rfl,hk,hU,hT,hv,hb1⟩;have hk2:k<=536870913:=by
     rw[aL hU hT,hv];have h1:=aL HX.out HTX.out;have h2:=aL HY.out HTY.out;have h3:nl (bv xs-bv ys)<=nl (bv xs):=fy om;have h4:nl (bv ys-bv xs)<=nl (bv ys):=fy om;omega
    have HU:=ag hU;clear hU;have HV:=ag hv;clear hv;have HT:=ag hT;clear hT;have HB1:=ag hb1;clear hb1
    go_wp2_with fail
    refine(fQ s1 A1 k c1 w1.heap.size zs w1 hk om (ah _) HU.out HT.out).mono ?_;rintro e w2 ⟨v,rfl,hI,hb2⟩;obtain⟨neg,A2,n2,c2,zs2,rfl,hI2⟩:=hI;have hsz:w.heap.size+1<=w1.heap.size:=by have:=HB1.out.size;simpa using this
    have hblk:fo w2 w.heap.size 50 #[.bool false,.slice none 0 0]:=(fo.below (w:=(w.alloc (Obj.cells #[aC false,aq none 0 0] 50)).drewN q) (fo.new w 50 _) HB1.out sm).below hb2 om
    have hc0:=hblk.cell 0;have hc1:=hblk.cell 1;have hf0:=hblk.frozen 0;have hf1:=hblk.frozen 1;simp only[fG,cN,bT]at hc0 hc1;have HK:=ag hblk;clear hblk;have HI:=ag hI2;clear hI2;have HB2:=ag hb2;clear hb2;go_wp2;exact bodyPost_ret (v:=.agg #[.bool neg,.slice A2 n2 c2]) (by simp[results,results194,go_sem,hc0,hc1]) rfl
     (dh.cell ⟨neg,A2,n2,c2,zs2,rfl,HI.out⟩ HK.out ((HB0.out.trans (HB1.out.mono sm)).trans (HB2.out.mono om)) (ah _) (by rw[HV.out,sv hs (dw hgt)]))
   ·have heq:bv xs=bv ys:=Nat.le_antisymm hle hge;have hcm:=lg heq
    go_enter func194,ntmps194
    go_wp2_with fail
    have hb0:=(a8 w.heap.size w).alloc (ah _) (Obj.cells #[aC false,aq none 0 0] 50);have hcall:=gG A B n m c d L xs ys (w.alloc (Obj.cells #[aC false,aq none 0 0] 50)) om om (HX.out.below hb0 hL) (HY.out.below hb0 hL) HTX.out HTY.out;rw[hcm]at hcall;refine hcall.mono ?_;clear hcall hcm;rintro e w1 ⟨rfl,q,rfl⟩;have HB0:=ag (hb0.trans ((fv.refl _).more q |>.below _));clear hb0
    go_wp2_with fail
    refine(nU A B n m c d L xs ys _ (by have h1:=aL HX.out HTX.out;have h2:=aL HY.out HTY.out;have h3:=fy (sX heq.symm);omega) om (by simp;omega) (HX.out.below HB0.out hL) (HY.out.below HB0.out hL) (sX heq.symm)).mono ?_
    rintro e w1 ⟨A1,k,c1,zs,rfl,hk,hU,hT,hv,hb1⟩;have hk2:k<=536870913:=by
     rw[aL hU hT,hv];have h1:=aL HX.out HTX.out;have h2:=aL HY.out HTY.out;have h3:nl (bv xs-bv ys)<=nl (bv xs):=fy om;have h4:nl (bv ys-bv xs)<=nl (bv ys):=fy om;omega
    have HU:=ag hU;clear hU;have HV:=ag hv;clear hv;have HT:=ag hT;clear hT;have HB1:=ag hb1;clear hb1
    go_wp2_with fail
    refine(fQ s1 A1 k c1 w1.heap.size zs w1 hk om (ah _) HU.out HT.out).mono ?_;rintro e w2 ⟨v,rfl,hI,hb2⟩;obtain⟨neg,A2,n2,c2,zs2,rfl,hI2⟩:=hI;have hsz:w.heap.size+1<=w1.heap.size:=by have:=HB1.out.size;simpa using this
    have hblk:fo w2 w.heap.size 50 #[.bool false,.slice none 0 0]:=(fo.below (w:=(w.alloc (Obj.cells #[aC false,aq none 0 0] 50)).drewN q) (fo.new w 50 _) HB1.out sm).below hb2 om
    have hc0:=hblk.cell 0;have hc1:=hblk.cell 1;have hf0:=hblk.frozen 0;have hf1:=hblk.frozen 1;simp only[fG,cN,bT]at hc0 hc1;have HK:=ag hblk;clear hblk;have HI:=ag hI2;clear hI2;have HB2:=ag hb2;clear hb2;go_wp2;exact bodyPost_ret (v:=.agg #[.bool neg,.slice A2 n2 c2]) (by simp[results,results194,go_sem,hc0,hc1]) rfl
     (dh.cell ⟨neg,A2,n2,c2,zs2,rfl,HI.out⟩ HK.out ((HB0.out.trans (HB1.out.mono sm)).trans (HB2.out.mono om)) (ah _) (by rw[HV.out,sv hs (sX heq.symm)]))
theorem fS(A:Option Addr)(n c B:Nat)(xs:List Nat)(w:World)(hn:n<=c)(hm:n<=9223372036854775807)(h:cc w B A n xs)(ht:oR xs) :
  Calls aj 136 #[.slice A n c] w fun e w'=>e=.returned (.slice A n c)/\w=w' :=
 (ll A n c B xs w hn hm h).mono fun e w' ⟨⟨k,hk,he,hU,hT,hv⟩,hw⟩=>by
  have h1:=aL hU hT;have h2:=aL h ht;rw[hv,<-h2]at h1;subst h1;exact⟨he,hw⟩
theorem ee{w:World}{g:Nat}{a b:Value}(h:fo w g 50 #[a,b]):w.cell? ⟨g,0,none⟩=some a/\w.cell? ⟨g,1,none⟩=some b:=by
 have h0:=h.cell 0;have h1:=h.cell 1;simpa using⟨h0,h1⟩
theorem KF(va vb:Value)(za zb:Int)(B:Nat)(w:World)(hB:B<=w.heap.size)(ha:d7 w B va za)(hb:d7 w B vb zb)(sa:nl za.natAbs<=536870912)(sb:nl zb.natAbs<=536870912) :
  Calls aj 133 #[va,vb] w (dh w (za+zb)):=by
 obtain⟨s1,A,n,c,xs,rfl,hnc,hx,tx,rfl⟩:=ha;obtain⟨s2,D,m,d,ys,rfl,hmd,hy,ty,rfl⟩:=hb;rw[eX,<-aL hx tx]at sa;rw[eX,<-aL hy ty]at sb;have HX:=ag hx;clear hx;have HY:=ag hy;clear hy;have HTX:=ag tx;clear tx;have HTY:=ag ty;clear ty
 go_enter func133,ntmps133
 go_wp2;have hb0:=((((a8 w.heap.size w).alloc (ah _) (Obj.cells #[aC s1,aq A n c] 50)).alloc sm (Obj.cells #[aC s2,aq D m d] 50)).alloc (by simp;omega) (Obj.cells #[aC false,aq none 0 0] 50))
 have k1:fo (((w.alloc (Obj.cells #[aC s1,aq A n c] 50)).alloc (Obj.cells #[aC s2,aq D m d] 50)).alloc (Obj.cells #[aC false,aq none 0 0] 50)) w.heap.size 50 #[aC s1,aq A n c] :=
  ((fo.new w 50 _).below ((a8 _ _).alloc (ah _) _) sm).below ((a8 _ _).alloc (ah _) _) (by simp;omega)
 have k2:fo (((w.alloc (Obj.cells #[aC s1,aq A n c] 50)).alloc (Obj.cells #[aC s2,aq D m d] 50)).alloc (Obj.cells #[aC false,aq none 0 0] 50)) (w.heap.size+1) 50 #[aC s2,aq D m d]:=by
  have h:=(fo.new (w.alloc (Obj.cells #[aC s1,aq A n c] 50)) 50 #[aC s2,aq D m d]).below ((a8 _ _).alloc (ah _) (Obj.cells #[aC false,aq none 0 0] 50)) sm
  simpa using h
 have k3:fo (((w.alloc (Obj.cells #[aC s1,aq A n c] 50)).alloc (Obj.cells #[aC s2,aq D m d] 50)).alloc (Obj.cells #[aC false,aq none 0 0] 50)) (w.heap.size+2) 50 #[aC false,aq none 0 0]:=by
  have h:=fo.new ((w.alloc (Obj.cells #[aC s1,aq A n c] 50)).alloc (Obj.cells #[aC s2,aq D m d] 50)) 50 #[aC false,aq none 0 0];simpa using h
 generalize (((w.alloc (Obj.cells #[aC s1,aq A n c] 50)).alloc (Obj.cells #[aC s2,aq D m d] 50)).alloc (Obj.cells #[aC false,aq none 0 0] 50))=W at hb0 k1 k2 k3 ⊢;obtain⟨a0,a1⟩:=ee k1;obtain⟨b0,b1⟩:=ee k2;have HK1:=ag k1;clear k1;have HK2:=ag k2;clear k2;have HK3:=ag k3;clear k3;have HB0:=ag hb0;clear hb0;have hg2:w.heap.size+2<W.heap.size:=HK3.out.lt;have HS:=ag (show ∀w1,Below (w.heap.size+2) W w1->(w1.cell? ⟨w.heap.size,0,none⟩=some (.bool s1)/\w1.cell? ⟨w.heap.size,1,none⟩=some (.slice A n c)/\w1.cell? ⟨w.heap.size+1,0,none⟩=some (.bool s2)/\w1.cell? ⟨w.heap.size+1,1,none⟩=some (.slice D m d)/\Below (w.heap.size+2) W w1)from
  fun w1 h=>⟨(h.cell (by show w.heap.size<_;omega)).trans a0,(h.cell (by show w.heap.size<_;omega)).trans a1,(h.cell (by show w.heap.size+1<_;omega)).trans b0,(h.cell (by show w.heap.size+1<_;omega)).trans b1,h⟩)
 have HUX:Hid (cc W.drew B A n xs):=ag (HX.out.below HB0.out.drew hB);have HUY:Hid (cc W.drew B D m ys):=ag (HY.out.below HB0.out.drew hB)
 go_region_held3 (fun w'=>w'.cell? ⟨w.heap.size,0,none⟩=some (.bool s1)/\w'.cell? ⟨w.heap.size,1,none⟩=some (.slice A n c)/\w'.cell? ⟨w.heap.size+1,0,none⟩=some (.bool s2)/\w'.cell? ⟨w.heap.size+1,1,none⟩=some (.slice D m d)/\Below (w.heap.size+2) W w')
  (first|exact HS.out _ (a8 _ _).drew|assumption|exact HS.out _ (by assumption)|exact HS.out _ (dL (dL (by assumption) sm _) sm _))
  (first
   | (go_at_call_of 136 (aq A n c);refine(fS A n c B xs W.drew hnc om HUX.out HTX.out).mono ?_;rintro e w' ⟨rfl,rfl⟩)
   | (go_at_call_of 136 (aq D m d);refine(fS D m d B ys W.drew hmd om HUY.out HTY.out).mono ?_;rintro e w' ⟨rfl,rfl⟩)
   | (go_at_call 194;refine(ql s1 s2 A D n m c d B xs ys W.drew sa sb (by show B<=W.heap.size;omega) HUX.out HUY.out HTX.out HTY.out).mono ?_;rintro e w1 ⟨v,rfl,hI,hbn⟩;obtain⟨neg,A2,n2,c2,zs2,rfl,hI2⟩:=hI;have hB1:Below (w.heap.size+2) W w1:=(a8 _ W).drew.trans (hbn.mono (by show _<=W.heap.size;omega));have HI:=ag hI2;clear hI2;have hk3:=fo.below (w:=W.drew) HK3.out hbn hg2;obtain⟨e0,e1⟩:=ee hk3;have f0:=hk3.frozen 0;have f1:=hk3.frozen 1;have HK4:=ag hk3;clear hk3 hbn))
 go_wp2;exact bodyPost_ret (v:=.agg #[.bool neg,.slice A2 n2 c2]) (by simp[results,results133,go_sem,e0,e1]) rfl
   (dh.cell ⟨neg,A2,n2,c2,zs2,rfl,HI.out⟩ HK4.out (HB0.out.trans (hB1.mono om)) om rfl)
theorem Ks(va vb:Value)(za zb:Int)(B:Nat)(w:World)(hB:B<=w.heap.size)(ha:d7 w B va za)(hb:d7 w B vb zb)(sa:nl za.natAbs<=536870912)(sb:nl zb.natAbs<=536870912) :
  Calls aj 192 #[va,vb] w (dh w (za-zb)):=by
 obtain⟨s1,A,n,c,xs,rfl,hnc,hx,tx,rfl⟩:=ha;obtain⟨s2,D,m,d,ys,rfl,hmd,hy,ty,rfl⟩:=hb;rw[eX,<-aL hx tx]at sa;rw[eX,<-aL hy ty]at sb;have HX:=ag hx;clear hx;have HY:=ag hy;clear hy;have HTX:=ag tx;clear tx;have HTY:=ag ty;clear ty
 go_enter func192,ntmps192
 go_wp2;have hb0:=((((a8 w.heap.size w).alloc (ah _) (Obj.cells #[aC s1,aq A n c] 50)).alloc sm (Obj.cells #[aC s2,aq D m d] 50)).alloc (by simp;omega) (Obj.cells #[aC false,aq none 0 0] 50))
 have k1:fo (((w.alloc (Obj.cells #[aC s1,aq A n c] 50)).alloc (Obj.cells #[aC s2,aq D m d] 50)).alloc (Obj.cells #[aC false,aq none 0 0] 50)) w.heap.size 50 #[aC s1,aq A n c] :=
  ((fo.new w 50 _).below ((a8 _ _).alloc (ah _) _) sm).below ((a8 _ _).alloc (ah _) _) (by simp;omega)
 have k2:fo (((w.alloc (Obj.cells #[aC s1,aq A n c] 50)).alloc (Obj.cells #[aC s2,aq D m d] 50)).alloc (Obj.cells #[aC false,aq none 0 0] 50)) (w.heap.size+1) 50 #[aC s2,aq D m d]:=by
  have h:=(fo.new (w.alloc (Obj.cells #[aC s1,aq A n c] 50)) 50 #[aC s2,aq D m d]).below ((a8 _ _).alloc (ah _) (Obj.cells #[aC false,aq none 0 0] 50)) sm
  simpa using h
 have k3:fo (((w.alloc (Obj.cells #[aC s1,aq A n c] 50)).alloc (Obj.cells #[aC s2,aq D m d] 50)).alloc (Obj.cells #[aC false,aq none 0 0] 50)) (w.heap.size+2) 50 #[aC false,aq none 0 0]:=by
  have h:=fo.new ((w.alloc (Obj.cells #[aC s1,aq A n c] 50)).alloc (Obj.cells #[aC s2,aq D m d] 50)) 50 #[aC false,aq none 0 0];simpa using h
 generalize (((w.alloc (Obj.cells #[aC s1,aq A n c] 50)).alloc (Obj.cells #[aC s2,aq D m d] 50)).alloc (Obj.cells #[aC false,aq none 0 0] 50))=W at hb0 k1 k2 k3 ⊢;obtain⟨a0,a1⟩:=ee k1;obtain⟨b0,b1⟩:=ee k2;have HK1:=ag k1;clear k1;have HK2:=ag k2;clear k2;have HK3:=ag k3;clear k3;have HB0:=ag hb0;clear hb0;have hg2:w.heap.size+2<W.heap.size:=HK3.out.lt;have HS:=ag (show ∀w1,Below (w.heap.size+2) W w1->(w1.cell? ⟨w.heap.size,0,none⟩=some (.bool s1)/\w1.cell? ⟨w.heap.size,1,none⟩=some (.slice A n c)/\w1.cell? ⟨w.heap.size+1,0,none⟩=some (.bool s2)/\w1.cell? ⟨w.heap.size+1,1,none⟩=some (.slice D m d)/\Below (w.heap.size+2) W w1)from
  fun w1 h=>⟨(h.cell (by show w.heap.size<_;omega)).trans a0,(h.cell (by show w.heap.size<_;omega)).trans a1,(h.cell (by show w.heap.size+1<_;omega)).trans b0,(h.cell (by show w.heap.size+1<_;omega)).trans b1,h⟩)
 have HUX:Hid (cc W.drew B A n xs):=ag (HX.out.below HB0.out.drew hB);have HUY:Hid (cc W.drew B D m ys):=ag (HY.out.below HB0.out.drew hB)
 go_region_held3 (fun w'=>w'.cell? ⟨w.heap.size,0,none⟩=some (.bool s1)/\w'.cell? ⟨w.heap.size,1,none⟩=some (.slice A n c)/\w'.cell? ⟨w.heap.size+1,0,none⟩=some (.bool s2)/\w'.cell? ⟨w.heap.size+1,1,none⟩=some (.slice D m d)/\Below (w.heap.size+2) W w')
  (first|exact HS.out _ (a8 _ _).drew|assumption|exact HS.out _ (by assumption)|exact HS.out _ (dL (dL (by assumption) sm _) sm _))
  (first
   | (go_at_call_of 136 (aq A n c);refine(fS A n c B xs W.drew hnc om HUX.out HTX.out).mono ?_;rintro e w' ⟨rfl,rfl⟩)
   | (go_at_call_of 136 (aq D m d);refine(fS D m d B ys W.drew hmd om HUY.out HTY.out).mono ?_;rintro e w' ⟨rfl,rfl⟩)
   | (go_at_call 194;refine(ql s1 (!s2) A D n m c d B xs ys W.drew sa sb (by show B<=W.heap.size;omega) HUX.out HUY.out HTX.out HTY.out).mono ?_;rintro e w1 ⟨v,rfl,hI,hbn⟩;obtain⟨neg,A2,n2,c2,zs2,rfl,hI2⟩:=hI;have hB1:Below (w.heap.size+2) W w1:=(a8 _ W).drew.trans (hbn.mono (by show _<=W.heap.size;omega));have HI:=ag hI2;clear hI2;have hk3:=fo.below (w:=W.drew) HK3.out hbn hg2;obtain⟨e0,e1⟩:=ee hk3;have f0:=hk3.frozen 0;have f1:=hk3.frozen 1;have HK4:=ag hk3;clear hk3 hbn))
 go_wp2;exact bodyPost_ret (v:=.agg #[.bool neg,.slice A2 n2 c2]) (by simp[results,results192,go_sem,e0,e1]) rfl
   (dh.cell ⟨neg,A2,n2,c2,zs2,rfl,HI.out⟩ HK4.out (HB0.out.trans (hB1.mono om)) om (by rw[CO];omega))
theorem wI(va:Value)(za:Int)(B:Nat)(w:World)(hB:B<=w.heap.size)(ha:d7 w B va za)(sa:nl za.natAbs<=536870912) :
  Calls aj 191 #[va] w fun e w'=>e=.returned (.int .i64 za.sign)/\Below w.heap.size w w':=by
 obtain⟨s1,A,n,c,xs,rfl,hnc,hx,tx,rfl⟩:=ha;rw[eX,<-aL hx tx]at sa;have hb0:=(a8 w.heap.size w).alloc (ah _) (Obj.cells #[aC s1,aq A n c] 50);have HU:=ag (hx.below hb0 hB);have HL:=ag (aL hx tx);have HT:=ag tx;clear tx;have HX:=ag hx;clear hx;have HB:=ag hb0;clear hb0;by_cases h0:n=0
 ·subst h0;have hv:bv xs=0:=by rw[rZ.1 HX.out.1];rfl
  have hr:(sg s1 (bv xs)).sign=0:=by rw[hv,qX];rfl
  have HR:=ag hr;clear hr hv
  go_enter func191,ntmps191
  go_wp2_with fail
  refine(fS A 0 c B xs _ hnc om HU.out HT.out).mono ?_;rintro e w' ⟨rfl,rfl⟩;go_wp2;go_ret;exact⟨by rw[HR.out];rfl,HB.out⟩
 ·have hv:0<bv xs:=by
   rcases bU (bv xs)with h|h
   ·have:=HL.out;rw[h]at this;simp[nl]at this;omega
   ·exact h
  have h1:((n:Int)==0)=false:=by simp;omega
  cases s1
  ·have hr:(sg false (bv xs)).sign=1:=by simp[sg];omega
   have HR:=ag hr;clear hr hv
   go_enter func191,ntmps191
   go_wp2_with fail
   refine(fS A n c B xs _ hnc om HU.out HT.out).mono ?_;rintro e w' ⟨rfl,rfl⟩;go_wp2;go_ret;exact⟨by rw[HR.out];rfl,HB.out⟩
  ·have hr:(sg true (bv xs)).sign=-1:=by simp[sg];omega
   have HR:=ag hr;clear hr hv
   go_enter func191,ntmps191
   go_wp2_with fail
   refine(fS A n c B xs _ hnc om HU.out HT.out).mono ?_;rintro e w' ⟨rfl,rfl⟩;go_wp2;go_ret;exact⟨by rw[HR.out];rfl,HB.out⟩
theorem FX(z:Int)(w:World)(h1:-9223372036854775808<=z)(h2:z<=9223372036854775807):Calls aj 81 #[.int .i64 z] w (dh w z):=by
 have hb0:=(a8 w.heap.size w).alloc (ah _) (Obj.cells #[aC false,aq none 0 0] 50);have HB0:=ag hb0;clear hb0;by_cases hz:z<0
 ·go_enter func81,ntmps81
  go_wp2_with fail
  rw[show IntKind.u64.wrap (-IntKind.u64.wrap z)=((z.natAbs:Nat):Int)from by rw[IntKind.wrap_u64,IntKind.wrap_u64];omega]
  refine(jl z.natAbs _ om).mono ?_;rintro e w1 ⟨A1,k,c1,zs,rfl,hk,hU,hT,hv,hb1⟩;have hk2:k<=2:=by rw[aL hU hT,hv];exact iX.2 om
  have HU:=ag hU;clear hU;have HV:=ag hv;clear hv;have HT:=ag hT;clear hT;have HB1:=ag hb1;clear hb1
  go_wp2_with fail
  refine(fQ true A1 k c1 w1.heap.size zs w1 hk om (ah _) HU.out HT.out).mono ?_;rintro e w2 ⟨v,rfl,hI,hb2⟩;obtain⟨neg,A2,n2,c2,zs2,rfl,hI2⟩:=hI;have hsz:w.heap.size+1<=w1.heap.size:=by have:=HB1.out.size;simpa using this
  have hblk:fo w2 w.heap.size 50 #[.bool false,.slice none 0 0]:=(fo.below (w:=w.alloc (Obj.cells #[aC false,aq none 0 0] 50)) (fo.new w 50 _) HB1.out sm).below hb2 om
  obtain⟨hc0,hc1⟩:=ee hblk;have hf0:=hblk.frozen 0;have hf1:=hblk.frozen 1;have HK:=ag hblk;clear hblk;have HI:=ag hI2;clear hI2;have HB2:=ag hb2;clear hb2;go_wp2;exact bodyPost_ret (v:=.agg #[.bool neg,.slice A2 n2 c2]) (by simp[results,results81,go_sem,hc0,hc1]) rfl
   (dh.cell ⟨neg,A2,n2,c2,zs2,rfl,HI.out⟩ HK.out ((HB0.out.trans (HB1.out.mono sm)).trans (HB2.out.mono om)) (ah _) (by rw[HV.out];simp[sg];omega))
 ·go_enter func81,ntmps81
  go_wp2_with fail
  obtain⟨v0,rfl⟩:∃v0:Nat,z=(v0:Int):=⟨z.toNat,om⟩
  refine(jl v0 _ om).mono ?_;rintro e w1 ⟨A1,k,c1,zs,rfl,hk,hU,hT,hv,hb1⟩;have hk2:k<=2:=by rw[aL hU hT,hv];exact iX.2 om
  have HU:=ag hU;clear hU;have HV:=ag hv;clear hv;have HT:=ag hT;clear hT;have HB1:=ag hb1;clear hb1
  go_wp2_with fail
  refine(fQ false A1 k c1 w1.heap.size zs w1 hk om (ah _) HU.out HT.out).mono ?_;rintro e w2 ⟨v,rfl,hI,hb2⟩;obtain⟨neg,A2,n2,c2,zs2,rfl,hI2⟩:=hI;have hsz:w.heap.size+1<=w1.heap.size:=by have:=HB1.out.size;simpa using this
  have hblk:fo w2 w.heap.size 50 #[.bool false,.slice none 0 0]:=(fo.below (w:=w.alloc (Obj.cells #[aC false,aq none 0 0] 50)) (fo.new w 50 _) HB1.out sm).below hb2 om
  obtain⟨hc0,hc1⟩:=ee hblk;have hf0:=hblk.frozen 0;have hf1:=hblk.frozen 1;have HK:=ag hblk;clear hblk;have HI:=ag hI2;clear hI2;have HB2:=ag hb2;clear hb2;go_wp2;exact bodyPost_ret (v:=.agg #[.bool neg,.slice A2 n2 c2]) (by simp[results,results81,go_sem,hc0,hc1]) rfl
   (dh.cell ⟨neg,A2,n2,c2,zs2,rfl,HI.out⟩ HK.out ((HB0.out.trans (HB1.out.mono sm)).trans (HB2.out.mono om)) (ah _) (by rw[HV.out];simp[sg]))
theorem Da:aj.info? 136=some Tryz.t136:=by kernel_rfl
theorem Cw:Tryz.t136.zero=some (.int .u32 0):=by kernel_rfl
theorem CS:Tryz.t136.size=1:=by kernel_rfl
theorem Dr:Tryz.t136.bytes=4:=by kernel_rfl
theorem jf{w w':World}{B:Nat}{row:Option Nat}(h:w.grownBy w' row)(hB:B<=w.heap.size)(hr:∀g,row=some g->B<=g):Below B w w' :=
 ⟨h.os,h.tape,h.output,h.size,fun k hk=>h.block k om (fun e=>by have:=hr _ e.symm;omega)⟩
theorem cc.cells{w:World}{B:Nat}{ad:Addr}{n:Nat}{xs:List Nat}(h:cc w B (some ad) n xs):∀(j:Nat) (u:Value),(xs.map (fun x:Nat=>dD .u32 x))[j]? = some u->w.cell? (ad.add j)=some u:=by
 intro j u hj;rw[mn]at hj;have hjl:j<xs.length:=by
  rcases aI j xs.length with hlt|hge
  ·exact hlt
  ·rw[co hge]at hj;cases hj
 rw[bD hjl]at hj;simp only[dp,Option.some.injEq]at hj;obtain⟨ad',e,_,hc⟩:=h.2.2 (by rw[<-h.1];omega)
 cases e
 rw[hc j (by rw[<-h.1];exact hjl),<-hj]
 simp[cL,bD hjl]
theorem cc.ofOwn{w:World}{base c n:Nat}{A:Option Addr}{xs:List Nat}(h:w.ownsRow base 136 1 (.slice A n c) n (xs.map (fun x:Nat=>dD .u32 x)))(hl:mo xs):cc w w.heap.size A n xs/\n<=c:=by
 have h1:xs.length=n:=by simpa using h.1
 rcases h.2 with⟨hv,hn⟩|⟨g,cap,cur,hv,_,hg,hnc,_,_,htake⟩
 ·injection hv with e1 e2 e3
  subst hn;exact⟨⟨h1,hl,fun h=>absurd h om⟩,ke _⟩
 ·injection hv with e1 e2 e3
  subst e3;refine⟨⟨h1,hl,fun hn=>⟨_,e1,fo.lt (show fo w g 136 cur from hg),fun j hj=>?_⟩⟩,hnc⟩;subst e1;exact h.cells (g:=g) rfl j _ (by rw[mn,bD om];simp[cL,bD (om:j<xs.length)])
theorem sQ(A:Option Addr)(n c B:Nat)(xs:List Nat)(w:World)(hm:n<=1073741824)(hB:B<=w.heap.size)(h:cc w B A n xs) :
  Calls aj 196 #[.slice A n c] w fun e w'=>∃A' c',e=.returned (.slice A' n c')/\n<=c'/\cc w' w'.heap.size A' n xs/\Below w.heap.size w w':=by
 have HX:=ag h;clear h;have q48:∀(w:World) (a:Option Addr) (n c n' c':Nat),(binOp .eql 48 (.slice a n c) (.slice none n' c')).run aj w=.ok (.bool a.isNone) w:=fun w a n c n' c'=>Lib.run_eql_slice_nil w _ _ a n c n' c' underlying48
 cases A with
 | none =>
  have h0:n=0:=by
   rcases bU n with h|h
   ·exact h
   ·obtain⟨ad,e,_⟩:=HX.out.2.2 h;cases e
  subst h0
  go_enter func196,ntmps196
  go_wp2;go_ret;exact⟨none,0,rfl,ah _,⟨HX.out.1,HX.out.2.1,fun h=>absurd h om⟩,a8 _ _⟩
 | some ad =>
  go_enter func196,ntmps196
  go_wp2_with (at_builtin;refine wpList_append_own_at _ rfl _ _ 48 rfl w.heap.size 136 Tryz.t136 (.int .u32 0) 1 4 underlying48 Da Cw CS Dr rfl om _ 0 [] rfl (World.ownsRow_lit (e:=136) (size:=1) w #[] 0 (ah _) (by simp[maxLen]) rfl) ad n c (xs.map (fun x:Nat=>dD .u32 x)) rfl (by simp[HX.out.1]) (cc.cells (HX.out.below ((a8 _ _).alloc hB _) (ah _))) (by intro u hu;simp only[fM]at hu;obtain⟨x,_,rfl⟩:=hu;rfl) (by simp[maxLen];omega) om sm ?_)
  intro v' w1 hown hgrow hnil hat;obtain⟨g,cap,rfl⟩:∃g cap,v'=.slice (some ⟨g,0,none⟩) n cap:=by
   rcases hown.2 with⟨h,_⟩|⟨g,cap,_,h,_⟩
   ·exact absurd h hnil
   ·exact⟨g,cap,h⟩
  obtain⟨hU,hc⟩:=cc.ofOwn hown HX.out.2.1;have HU:=ag hU;have HB:=ag (((a8 w.heap.size w).alloc (ah _) (Obj.cells #[] 136)).trans (jf hgrow (B:=w.heap.size) sm (by intro g h;cases h;exact ah _)))
  clear hU hown hgrow hnil hat;go_wp2;go_ret;exact⟨_,_,rfl,hc,HU.out,HB.out⟩
theorem pm(w:World)(a b:Array Value) :
  Below w.heap.size w ((w.alloc (.cells a 50)).alloc (.cells b 50))/\fo ((w.alloc (.cells a 50)).alloc (.cells b 50)) w.heap.size 50 a/\fo ((w.alloc (.cells a 50)).alloc (.cells b 50)) (w.heap.size+1) 50 b:=by
 refine⟨((a8 w.heap.size w).alloc (ah _) _).alloc sm _,(fo.new w 50 _).below ((a8 _ _).alloc (ah _) _) sm,?_⟩
 have h:=fo.new (w.alloc (.cells a 50)) 50 b;simpa using h
theorem wt(w:World)(a b c:Array Value) :
  Below w.heap.size w (((w.alloc (.cells a 50)).alloc (.cells b 50)).alloc (.cells c 50))/\fo (((w.alloc (.cells a 50)).alloc (.cells b 50)).alloc (.cells c 50)) w.heap.size 50 a/\fo (((w.alloc (.cells a 50)).alloc (.cells b 50)).alloc (.cells c 50)) (w.heap.size+1) 50 b/\fo (((w.alloc (.cells a 50)).alloc (.cells b 50)).alloc (.cells c 50)) (w.heap.size+2) 50 c:=by
 obtain⟨h1,h2,h3⟩:=pm w a b;refine⟨h1.alloc (by simp;omega) _,h2.below ((a8 _ _).alloc (ah _) _) (by simp;omega),h3.below ((a8 _ _).alloc (ah _) _) sm,?_⟩
 have h:=fo.new ((w.alloc (.cells a 50)).alloc (.cells b 50)) 50 c;simpa using h
theorem Kw(va:Value)(za:Int)(B:Nat)(w:World)(hB:B<=w.heap.size)(ha:d7 w B va za)(sa:nl za.natAbs<=536870912) :
  Calls aj 193 #[va] w (dh w (-za)):=by
 obtain⟨s1,A,n,c,xs,rfl,hnc,hx,tx,rfl⟩:=ha;rw[eX,<-aL hx tx]at sa;have HX:=ag hx;clear hx;have HTX:=ag tx;clear tx
 go_enter func193,ntmps193
 go_wp2;obtain⟨hb0,k1,k3⟩:=pm w #[aC s1,aq A n c] #[aC false,aq none 0 0];generalize ((w.alloc (Obj.cells #[aC s1,aq A n c] 50)).alloc (Obj.cells #[aC false,aq none 0 0] 50))=W at hb0 k1 k3 ⊢;obtain⟨a0,a1⟩:=ee k1;have HK1:=ag k1;clear k1;have HK3:=ag k3;clear k3;have HB0:=ag hb0;clear hb0;have hg2:w.heap.size+1<W.heap.size:=HK3.out.lt;have HS:=ag (show ∀w1,Below (w.heap.size+1) W w1->(w1.cell? ⟨w.heap.size,0,none⟩=some (.bool s1)/\w1.cell? ⟨w.heap.size,1,none⟩=some (.slice A n c)/\Below (w.heap.size+1) W w1)from
  fun w1 h=>⟨(h.cell (by show w.heap.size<_;omega)).trans a0,(h.cell (by show w.heap.size<_;omega)).trans a1,h⟩)
 have HUX:Hid (cc W.drew B A n xs):=ag (HX.out.below HB0.out.drew hB)
 go_region_held3 (fun w'=>w'.cell? ⟨w.heap.size,0,none⟩=some (.bool s1)/\w'.cell? ⟨w.heap.size,1,none⟩=some (.slice A n c)/\Below (w.heap.size+1) W w')
  (first|exact HS.out _ (a8 _ _).drew|assumption|exact HS.out _ (by assumption)|exact HS.out _ (dL (dL (by assumption) sm _) sm _))
  (first
   | (go_at_call_of 136 (aq A n c);refine(fS A n c B xs W.drew hnc om HUX.out HTX.out).mono ?_;rintro e w' ⟨rfl,rfl⟩)
   | (go_at_call 196;refine(sQ A n c B xs W.drew om (by show B<=W.heap.size;omega) HUX.out).mono ?_;rintro e w1 ⟨A1,c1,rfl,hc1,hU1,hbn1⟩;have HU1:=ag hU1;clear hU1;have hB1:Below (w.heap.size+1) W w1:=(a8 _ W).drew.trans (hbn1.mono (by show _<=W.heap.size;omega));have HK2:=ag (fo.below (w:=W.drew) HK3.out hbn1 hg2);clear hbn1;have hsz:=HK2.out.lt)
   | (go_at_call 134;refine(fQ (!s1) A1 n c1 w1.heap.size xs w1 hc1 om (ah _) HU1.out HTX.out).mono ?_;rintro e w2 ⟨v,rfl,hI,hbn⟩;obtain⟨neg,A2,n2,c2,zs2,rfl,hI2⟩:=hI;have hB2:Below (w.heap.size+1) W w2:=hB1.trans (hbn.mono om);have HI:=ag hI2;clear hI2;have hk3:=HK2.out.below hbn hsz;obtain⟨e0,e1⟩:=ee hk3;have f0:=hk3.frozen 0;have f1:=hk3.frozen 1;have HK4:=ag hk3;clear hk3 hbn))
 go_wp2;exact bodyPost_ret (v:=.agg #[.bool neg,.slice A2 n2 c2]) (by simp[results,results193,go_sem,e0,e1]) rfl
   (dh.cell ⟨neg,A2,n2,c2,zs2,rfl,HI.out⟩ HK4.out (HB0.out.trans (hB2.mono om)) om (by rw[CO]))
theorem xM(va:Value)(za:Int)(B:Nat)(w:World)(hB:B<=w.heap.size)(ha:d7 w B va za)(sa:nl za.natAbs<=536870912) :
  Calls aj 157 #[va] w (dh w (za)):=by
 obtain⟨s1,A,n,c,xs,rfl,hnc,hx,tx,rfl⟩:=ha;rw[eX,<-aL hx tx]at sa;have HX:=ag hx;clear hx;have HTX:=ag tx;clear tx
 go_enter func157,ntmps157
 go_wp2;obtain⟨hb0,k1,k3⟩:=pm w #[aC s1,aq A n c] #[aC false,aq none 0 0];generalize ((w.alloc (Obj.cells #[aC s1,aq A n c] 50)).alloc (Obj.cells #[aC false,aq none 0 0] 50))=W at hb0 k1 k3 ⊢;obtain⟨a0,a1⟩:=ee k1;have HK1:=ag k1;clear k1;have HK3:=ag k3;clear k3;have HB0:=ag hb0;clear hb0;have hg2:w.heap.size+1<W.heap.size:=HK3.out.lt;have HS:=ag (show ∀w1,Below (w.heap.size+1) W w1->(w1.cell? ⟨w.heap.size,0,none⟩=some (.bool s1)/\w1.cell? ⟨w.heap.size,1,none⟩=some (.slice A n c)/\Below (w.heap.size+1) W w1)from
  fun w1 h=>⟨(h.cell (by show w.heap.size<_;omega)).trans a0,(h.cell (by show w.heap.size<_;omega)).trans a1,h⟩)
 have HUX:Hid (cc W.drew B A n xs):=ag (HX.out.below HB0.out.drew hB)
 go_region_held3 (fun w'=>w'.cell? ⟨w.heap.size,0,none⟩=some (.bool s1)/\w'.cell? ⟨w.heap.size,1,none⟩=some (.slice A n c)/\Below (w.heap.size+1) W w')
  (first|exact HS.out _ (a8 _ _).drew|assumption|exact HS.out _ (by assumption)|exact HS.out _ (dL (dL (by assumption) sm _) sm _))
  (first
   | (go_at_call_of 136 (aq A n c);refine(fS A n c B xs W.drew hnc om HUX.out HTX.out).mono ?_;rintro e w' ⟨rfl,rfl⟩)
   | (go_at_call 196;refine(sQ A n c B xs W.drew om (by show B<=W.heap.size;omega) HUX.out).mono ?_;rintro e w1 ⟨A1,c1,rfl,hc1,hU1,hbn1⟩;have HU1:=ag hU1;clear hU1;have hB1:Below (w.heap.size+1) W w1:=(a8 _ W).drew.trans (hbn1.mono (by show _<=W.heap.size;omega));have HK2:=ag (fo.below (w:=W.drew) HK3.out hbn1 hg2);clear hbn1;have hsz:=HK2.out.lt)
   | (go_at_call 134;refine(fQ s1 A1 n c1 w1.heap.size xs w1 hc1 om (ah _) HU1.out HTX.out).mono ?_;rintro e w2 ⟨v,rfl,hI,hbn⟩;obtain⟨neg,A2,n2,c2,zs2,rfl,hI2⟩:=hI;have hB2:Below (w.heap.size+1) W w2:=hB1.trans (hbn.mono om);have HI:=ag hI2;clear hI2;have hk3:=HK2.out.below hbn hsz;obtain⟨e0,e1⟩:=ee hk3;have f0:=hk3.frozen 0;have f1:=hk3.frozen 1;have HK4:=ag hk3;clear hk3 hbn))
 go_wp2;exact bodyPost_ret (v:=.agg #[.bool neg,.slice A2 n2 c2]) (by simp[results,results157,go_sem,e0,e1]) rfl
   (dh.cell ⟨neg,A2,n2,c2,zs2,rfl,HI.out⟩ HK4.out (HB0.out.trans (hB2.mono om)) om (rfl))
def md(a b:Int):Int:=if a<b then -1 else if b<a then 1 else 0
theorem l6(s:Bool)(v:Nat):(sg s v).sign=0/\v=0∨(sg s v).sign=1/\s=false/\0<v∨(sg s v).sign=-1/\s=true/\0<v:=by
 rcases bU v with rfl|h
 ·left;cases s<;>simp[sg]
 ·cases s
  ·right;left;simp[sg];omega
  ·right;right;simp[sg];omega
theorem we{a b:Int}:(a.sign<b.sign->md a b=-1)/\(b.sign<a.sign->md a b=1):=by
 have ha:a<0/\a.sign=-1∨a=0/\a.sign=0∨0<a/\a.sign=1:=by
  rcases iP a 0 with h|h|h
  ·exact .inl ⟨h,iw h⟩
  ·exact .inr (.inl ⟨h,by rw[h];rfl⟩)
  ·exact .inr (.inr ⟨h,cU h⟩)
 have hb:b<0/\b.sign=-1∨b=0/\b.sign=0∨0<b/\b.sign=1:=by
  rcases iP b 0 with h|h|h
  ·exact .inl ⟨h,iw h⟩
  ·exact .inr (.inl ⟨h,by rw[h];rfl⟩)
  ·exact .inr (.inr ⟨h,cU h⟩)
 unfold md;constructor<;>intro h<;>(repeat' split)<;>omega
theorem yI{s1 s2:Bool}{a b:Nat}(h:(sg s1 a).sign=(sg s2 b).sign):(sg s1 a).sign*kc a b=md (sg s1 a) (sg s2 b):=by
 have hc:a<b/\kc a b=-1∨a=b/\kc a b=0∨b<a/\kc a b=1:=by
  rcases db a b with h|h|h
  ·exact .inl ⟨h,kb h⟩
  ·exact .inr (.inl ⟨h,lg h⟩)
  ·exact .inr (.inr ⟨h,jL h⟩)
 rcases l6 s1 a with⟨h1,rfl⟩|⟨h1,rfl,h3⟩|⟨h1,rfl,h3⟩<;>rcases l6 s2 b with⟨h4,rfl⟩|⟨h4,rfl,h5⟩|⟨h4,rfl,h5⟩<;>rw[h1,h4]at h<;>try omega
 ·rw[h1];simp[qX,md]
 ·rw[h1];unfold md sg;simp;rcases hc with⟨h,e⟩|⟨h,e⟩|⟨h,e⟩<;>rw[e]<;>(repeat' split)<;>omega
 ·rw[h1];unfold md sg;simp;rcases hc with⟨h,e⟩|⟨h,e⟩|⟨h,e⟩<;>rw[e]<;>(repeat' split)<;>omega
theorem zW{x:Int}(h1:-9223372036854775808<=x)(h2:x<=9223372036854775807):IntKind.i64.wrap x=x:=by rw[IntKind.wrap_i64];omega
theorem oe(a b:Nat):-1<=kc a b/\kc a b<=1:=by
 rcases db a b with h|h|h
 ·rw[kb h];omega
 ·rw[lg h];omega
 ·rw[jL h];omega
theorem KB(va vb:Value)(za zb:Int)(B:Nat)(w:World)(hB:B<=w.heap.size)(ha:d7 w B va za)(hb:d7 w B vb zb)(sa:nl za.natAbs<=536870912)(sb:nl zb.natAbs<=536870912) :
  Calls aj 159 #[va,vb] w fun e w'=>e=.returned (.int .i64 (md za zb))/\Below w.heap.size w w':=by
 have hA:=ha;have hBb:=hb;have HS0:=ag sa;have HS1:=ag sb;obtain⟨s1,A,n,c,xs,rfl,hnc,hx,tx,rfl⟩:=ha;obtain⟨s2,D,m,d,ys,rfl,hmd,hy,ty,rfl⟩:=hb;rw[eX,<-aL hx tx]at sa;rw[eX,<-aL hy ty]at sb;have HA:=ag hA;clear hA;have HBb:=ag hBb;clear hBb;have HX:=ag hx;clear hx;have HY:=ag hy;clear hy;have HTX:=ag tx;clear tx;have HTY:=ag ty;clear ty;have HZ:=ag (@we (sg s1 (bv xs)) (sg s2 (bv ys)));have HZ2:=ag (@yI s1 s2 (bv xs) (bv ys));have HP:Hid (-1<=(sg s1 (bv xs)).sign/\(sg s1 (bv xs)).sign<=1):=ag (by rcases l6 s1 (bv xs)with h|h|h<;>omega)
 generalize hp:(sg s1 (bv xs)).sign=p at HZ HZ2 HP;generalize hq:(sg s2 (bv ys)).sign=q at HZ HZ2;generalize hcz:md (sg s1 (bv xs)) (sg s2 (bv ys))=r at HZ HZ2 ⊢;have hcr:=oe (bv xs) (bv ys);generalize hcm:kc (bv xs) (bv ys)=cm at HZ2 hcr;have Hp:=ag hp;clear hp;have Hq:=ag hq;clear hq;have Hcm:=ag hcm;clear hcm;clear hcz
 go_enter func159,ntmps159
 go_wp2;obtain⟨hb0,k1,k2⟩:=pm w #[aC s1,aq A n c] #[aC s2,aq D m d];generalize ((w.alloc (Obj.cells #[aC s1,aq A n c] 50)).alloc (Obj.cells #[aC s2,aq D m d] 50))=W at hb0 k1 k2 ⊢;obtain⟨a0,a1⟩:=ee k1;obtain⟨b0,b1⟩:=ee k2;have HB0:=ag hb0;clear hb0;have hg2:w.heap.size+1<W.heap.size:=k2.lt;have hg1:w.heap.size+2<=W.heap.size:=hg2;clear k1 k2;have HS:=ag (show ∀w1,Below (w.heap.size+2) W w1->(w1.cell? ⟨w.heap.size,0,none⟩=some (.bool s1)/\w1.cell? ⟨w.heap.size,1,none⟩=some (.slice A n c)/\w1.cell? ⟨w.heap.size+1,0,none⟩=some (.bool s2)/\w1.cell? ⟨w.heap.size+1,1,none⟩=some (.slice D m d)/\Below (w.heap.size+2) W w1)from
  fun w1 h=>⟨(h.cell (by show w.heap.size<_;omega)).trans a0,(h.cell (by show w.heap.size<_;omega)).trans a1,(h.cell (by show w.heap.size+1<_;omega)).trans b0,(h.cell (by show w.heap.size+1<_;omega)).trans b1,h⟩)
 go_region_held3 (fun w'=>w'.cell? ⟨w.heap.size,0,none⟩=some (.bool s1)/\w'.cell? ⟨w.heap.size,1,none⟩=some (.slice A n c)/\w'.cell? ⟨w.heap.size+1,0,none⟩=some (.bool s2)/\w'.cell? ⟨w.heap.size+1,1,none⟩=some (.slice D m d)/\Below (w.heap.size+2) W w')
  (first|exact HS.out _ (a8 _ _).drew|assumption|exact HS.out _ (by assumption))
  (first
   | (go_at_call_of 191 (Value.agg #[aC s1,aq A n c]);refine(wI _ _ B W.drew (by show B<=W.heap.size;omega) (HA.out.below HB0.out.drew hB) HS0.out).mono ?_;rintro e w1 ⟨rfl,hbn⟩;rw[Hp.out];have hB1:Below (w.heap.size+2) W w1:=(a8 _ W).drew.trans (hbn.mono hg1);clear hbn)
   | (go_at_call_of 191 (Value.agg #[aC s2,aq D m d]);refine(wI _ _ B w1 (by have:=hB1.size;omega) (HBb.out.below (HB0.out.trans (hB1.mono om)) hB) HS1.out).mono ?_;rintro e w2 ⟨rfl,hbn⟩;rw[Hq.out];have hB2:Below (w.heap.size+2) W w2:=hB1.trans (hbn.mono (by have:=hB1.size;omega));clear hbn hB1))
 have HB2:=ag hB2;obtain⟨c0,c1,c2,c3,_⟩:=HS.out _ hB2;clear hB2 a0 a1 b0 b1;rcases iP p q with hlt|heq|hgt
 ·have HR:=ag (HZ.out.1 hlt);go_wp2;go_ret;exact⟨by rw[HR.out];rfl,HB0.out.trans (HB2.out.mono om)⟩
 ·subst heq;have HR:=ag (HZ2.out rfl);have HUX:Hid (cc w2.drew B A n xs):=ag (HX.out.below (HB0.out.trans (HB2.out.mono om)).drew hB);have HUY:Hid (cc w2.drew B D m ys):=ag (HY.out.below (HB0.out.trans (HB2.out.mono om)).drew hB);have HC:=ag (show ∀w1,Below (w.heap.size+2) W w1->w1.cell? ⟨w.heap.size,1,none⟩=some (.slice A n c)/\w1.cell? ⟨w.heap.size+1,1,none⟩=some (.slice D m d)/\Below (w.heap.size+2) W w1 from fun w1 h=>⟨(HS.out w1 h).2.1,(HS.out w1 h).2.2.2.1,h⟩);have hp3:p=-1∨p=0∨p=1:=by have:=HP.out;omega
  clear HZ HZ2;rcases hp3 with rfl|rfl|rfl
  all_goals
   go_wp2
   go_region_held3 (fun w'=>w'.cell? ⟨w.heap.size,1,none⟩=some (.slice A n c)/\w'.cell? ⟨w.heap.size+1,1,none⟩=some (.slice D m d)/\Below (w.heap.size+2) W w')
    (first|assumption|exact HC.out _ HB2.out.drew|exact HC.out _ (by assumption))
    (first
     | (go_at_call_of 136 (aq A n c);refine(fS A n c B xs w2.drew hnc om HUX.out HTX.out).mono ?_;rintro e w' ⟨rfl,rfl⟩)
     | (go_at_call_of 136 (aq D m d);refine(fS D m d B ys w2.drew hmd om HUY.out HTY.out).mono ?_;rintro e w' ⟨rfl,rfl⟩)
     | (go_at_call 195;refine(gG A D n m c d B xs ys w2.drew om om HUX.out HUY.out HTX.out HTY.out).mono ?_;rintro e w3 ⟨rfl,hst⟩;rw[Hcm.out];have hB3:Below (w.heap.size+2) W w3:=HB2.out.drew.trans (hst.below _);clear hst))
   go_wp2;go_ret;exact⟨by rw[<-HR.out];first|rfl|(simp;first|done|exact zW om om),HB0.out.trans (hB3.mono om)⟩
 ·have HR:=ag (HZ.out.2 hgt);have hn:¬p<q:=om
  go_wp2;go_ret;exact⟨by rw[HR.out];rfl,HB0.out.trans (HB2.out.mono om)⟩
def jQ(z:Int):Prop:=-9223372036854775808<=z/\z<=9223372036854775807
theorem F4(va:Value)(za:Int)(B:Nat)(w:World)(hB:B<=w.heap.size)(ha:d7 w B va za)(hz:jQ za) :
  Calls aj 84 #[va] w fun e w'=>e=.returned (.tuple #[.int .i64 za,.bool true])/\Below w.heap.size w w':=by
 obtain⟨s1,A,n,c,xs,rfl,hnc,hx,tx,rfl⟩:=ha;obtain⟨hz1,hz2⟩:=hz;have hn:n<=2:=by
  rw[aL hx tx];refine iX.2 ?_;have:(sg s1 (bv xs)).natAbs=bv xs:=eX s1 (bv xs);omega
 have hb0:=(a8 w.heap.size w).alloc (ah _) (Obj.cells #[aC s1,aq A n c] 50);have HU:=ag (hx.below hb0 hB);have HX:=ag hx;clear hx;have HTX:=ag tx;clear tx;have HB:=ag hb0;clear hb0
 cases s1
 ·have hv:(sg false (bv xs))=(bv xs:Int):=by simp[sg]
  rw[hv]at hz1 hz2 ⊢;clear hv;generalize hvv:bv xs=v at hz1 hz2 ⊢;have HV:=ag hvv;clear hvv
  go_enter func84,ntmps84
  go_wp2_with fail
  refine(fS A n c B xs _ hnc om HU.out HTX.out).mono ?_;rintro e w' ⟨rfl,rfl⟩
  go_wp2_with fail
  refine(nj A n c B xs _ hn HU.out).mono ?_;rintro e w' ⟨rfl,rfl⟩;rw[HV.out];have hw:IntKind.i64.wrap (v:Int)=v:=zW om om;have hl:(v:Int)<9223372036854775808:=om
  have Hz1:=ag hz1;clear hz1;have Hz2:=ag hz2;clear hz2;go_wp2;go_ret2;exact⟨rfl,HB.out⟩
 ·have hv:(sg true (bv xs))=-(bv xs:Int):=by simp[sg]
  rw[hv]at hz1 hz2 ⊢;clear hv;generalize hvv:bv xs=v at hz1 hz2 ⊢;have HV:=ag hvv;clear hvv
  go_enter func84,ntmps84
  go_wp2_with fail
  refine(fS A n c B xs _ hnc om HU.out HTX.out).mono ?_;rintro e w' ⟨rfl,rfl⟩
  go_wp2_with fail
  refine(nj A n c B xs _ hn HU.out).mono ?_;rintro e w' ⟨rfl,rfl⟩;rw[HV.out];have hw:IntKind.i64.wrap (IntKind.u64.wrap (-(v:Int)))=-(v:Int):=by rw[IntKind.wrap_u64,IntKind.wrap_i64];omega
  have hl:(v:Int)<=9223372036854775808:=om
  have Hz1:=ag hz1;clear hz1;have Hz2:=ag hz2;clear hz2;go_wp2;go_ret2;exact⟨rfl,HB.out⟩
theorem zj(ps:List Nat)(k v:Nat)(h:k<ps.length):bv (ps.set k v)+ps.getD k 0*4294967296^k=bv ps+v*4294967296^k:=by
 induction ps generalizing k with
 | nil=>simp at h
 | cons a l ih =>
  cases k with
  | zero=>simp[bv];omega
  | succ k =>
   have h1:=ih k (by simpa using h)
   simp only[List.set_cons_succ,bv,List.getD_cons_succ,ct]
   grind
theorem mo.set{l:List Nat}(h:mo l)(k:Nat){x:Nat}(hx:x<4294967296):mo (l.set k x):=by
 intro y hy;rcases List.mem_or_eq_of_mem_set hy with h1|h1
 ·exact h y h1
 ·rw[h1];exact hx
structure qn(P0 ps ys:List Nat)(x i j car:Nat):Prop where
 len:ps.length=P0.length
 lim:mo ps
 rest:∀k,i+j<=k->ps.getD k 0=P0.getD k 0
 eq:bv ps+car*4294967296^(i+j)=bv P0+x*bv (ys.take j)*4294967296^i
 car:car<4294967296
theorem pe{l:List Nat}{k j v:Nat}(h:k≠j):(l.set k v).getD j 0=l.getD j 0:=by
 simp[cL,List.getElem?_set_ne h]
theorem o8{x y:Nat}(hx:x<4294967296)(hy:y<4294967296):x*y<=18446744065119617025:=Nat.mul_le_mul (om:x<=4294967295) (om:y<=4294967295)
theorem qn.step{P0 ps ys:List Nat}{x i j car y p:Nat}(h:qn P0 ps ys x i j car)(hj:j<ys.length)(hij:i+j<ps.length)(hy:ys.getD j 0=y)(hp:ps.getD (i+j) 0=p)(x4:x<4294967296)(y4:y<4294967296)(p4:p<4294967296) :
  qn P0 (ps.set (i+j) ((car+(x*y+p))%4294967296)) ys x i (j+1) ((car+(x*y+p))/4294967296):=by
 have hxy:=o8 x4 y4;have hc:=h.car;refine⟨by simp[h.len],h.lim.set _ (eP _ om),fun k hk=>?_,?_,?_⟩
 ·rw[pe om];exact h.rest k om
 ·have h1:=zj ps (i+j) ((car+(x*y+p))%4294967296) hij;rw[dz ys j hj,hy,show i+(j+1)=(i+j)+1 from by omega,ct]
  rw[hp]at h1;have h2:=h.eq;have h3:=gS (car+(x*y+p)) 4294967296;rw[kf]at h1 h2 ⊢;generalize (car+(x*y+p))%4294967296=lo at *;generalize (car+(x*y+p))/4294967296=hi at *;generalize (4294967296:Nat)^i=bi at *;generalize (4294967296:Nat)^j=bj at *;generalize bv (ps.set (i+j) lo)=vs' at *;generalize bv ps=vs at *;generalize bv P0=v0 at *;generalize bv (ys.take j)=vt at *
  grind
 ·omega
theorem qn.last{P0 ps ys:List Nat}{x i car m:Nat}(h:qn P0 ps ys x i m car)(hm:ys.length=m)(hij:i+m<ps.length)(h0:P0.getD (i+m) 0=0) :
  bv (ps.set (i+m) car)=bv P0+x*bv ys*4294967296^i:=by
 have h1:=zj ps (i+m) car hij;rw[h.rest _ (ah _),h0]at h1;have h2:=h.eq;rw[bL om]at h2;omega
structure jr(ps xs ys:List Nat)(i:Nat):Prop where
 len:ps.length=xs.length+ys.length
 lim:mo ps
 rest:∀k,i+ys.length<=k->ps.getD k 0=0
 eq:bv ps=bv (xs.take i)*bv ys
theorem jr.zero{ps xs ys:List Nat}{i:Nat}(h:jr ps xs ys i)(hi:i<xs.length)(h0:xs.getD i 0=0):jr ps xs ys (i+1) :=
 ⟨h.len,h.lim,fun k hk=>h.rest k om,by rw[dz xs i hi,h0,h.eq];simp⟩
theorem jr.start{ps xs ys:List Nat}{i x:Nat}(h:jr ps xs ys i):qn ps ps ys x i 0 0 :=
 ⟨rfl,h.lim,fun _ _=>rfl,by simp[bv],om⟩
theorem jr.next{P0 ps xs ys:List Nat}{i x car m:Nat}(h:jr P0 xs ys i)(k:qn P0 ps ys x i m car)(hm:ys.length=m)(hi:i<xs.length)(hx:xs.getD i 0=x):jr (ps.set (i+m) car) xs ys (i+1):=by
 have hl:ps.length=xs.length+m:=by rw[k.len,h.len,hm]
 have h1:=k.last hm om (h.rest _ om);refine⟨by simp[hl,hm],k.lim.set _ k.car,fun j hj=>?_,?_⟩
 ·rw[pe om,k.rest j om];exact h.rest j om
 ·rw[h1,h.eq,dz xs i hi,hx];grind
theorem jr.init(xs ys:List Nat)(n:Nat)(h:n=xs.length+ys.length):jr (bR n 0) xs ys 0 :=
 ⟨by simp[h],by intro x hx;rw[(List.mem_replicate.1 hx).2];omega,fun k _=>by simp[cL,List.getElem?_replicate];split<;>rfl,by
  have:bv (bR n 0)=0:=by
   clear h
   induction n with
   | zero=>rfl
   | succ n ih=>simp[kW,bv,ih]
  rw[this];simp[bv]⟩
def gz(w wr:World)(ps:List Nat):Prop:=Below w.heap.size w wr/\fo wr w.heap.size 136 (dr ps 0)
theorem xB(zs:List Nat)(k x:Nat):(dr zs 0).setIfInBounds k (.int .u32 x)=dr (zs.set k x) 0:=by
 simp[dr,List.map_set]
theorem gz.put{w wr:World}{ps:List Nat}(h:gz w wr ps)(k x:Nat):gz w (wr.setCell ⟨w.heap.size,k,none⟩ (.int .u32 x)) (ps.set k x):=by
 refine⟨h.1.setCell (ah _) _,?_⟩;have:=h.2.set_ k (.int .u32 x)
 rwa [xB]at this
theorem gz.at_{w wr:World}{ps:List Nat}(h:gz w wr ps)(k:Nat)(hk:k<ps.length):wr.cell? ⟨w.heap.size,k,none⟩=some (.int .u32 (ps.getD k 0))/\wr.frozen? ⟨w.heap.size,k,none⟩=false :=
 ⟨(h.2.cell k).trans (by rw[mR ps 0 k om];simp),h.2.frozen k⟩
theorem gz.start(w:World)(n:Nat):gz w (w.alloc (.cells (dr [] n) 136)) (bR n 0) :=
 ⟨(a8 _ _).alloc (ah _) _,by simpa [dr]using fo.new w 136 (dr [] n)⟩
theorem C3(A B:Option Addr)(n m c d L:Nat)(xs ys:List Nat)(w:World)(hn:n<=268435456)(hm:m<=268435456)(hnm:¬(n<=1/\m<=1))(hL:L<=w.heap.size)(hx:cc w L A n xs)(hy:cc w L B m ys) :
  Calls aj 140 #[.slice A n c,.slice B m d] w (oq w (bv xs*bv ys)):=by
 have hmk:=C6 (n+m) om;rw[jH]at hmk;have HX:=ag hx;clear hx;have HY:=ag hy;clear hy;have h12:1<n∨n<=1/\1<m:=om
 clear hnm;rcases h12 with h1|⟨h1,h2⟩
 ·have h1i:¬(n:Int)<=1:=om
  have h1j:decide ((n:Int)<=1)=false:=by simpa using h1i
  go_enter func140,ntmps140
  go_wp2;clear hmk
  go_loopw [34] (fun iv wr=>∃(i:Nat) (ps:List Nat),i<=n/\iv=.int .i64 i/\Hid (gz w wr ps)/\Hid (jr ps xs ys i)) (fun iv _=>n-(intOf iv).toNat)
  case atStart=>exact⟨0,_,om,rfl,ag (gz.start w (n+m)),ag (jr.init xs ys (n+m) (by rw[HX.out.1,HY.out.1]))⟩
  case round =>
   obtain⟨i,ps,hi,rfl,HF,HS⟩:=hrel;by_cases hin:i<n
   ·obtain⟨ad,x,rfl,hab,hxx,hx4,hcx⟩:=(HX.out.below HF.out.1 hL).at_ (k:=i) om;have HXX:=ag hxx;clear hxx;have hin':(i:Int)<n:=om
    have hi0:(0:Int)<=i:=om
    by_cases hx0:x=0
    ·subst hx0;go_wp2
     go_roundw
     case rel=>exact⟨i+1,ps,om,by go_num,HF,ag (HS.out.zero (by rw[HX.out.1];exact hin) HXX.out)⟩
     case measure=>simp[intOf];omega
    ·have hx0':((x:Int)==0)=false:=by simp;omega
     go_wp2;rw[show i+m+1-i=m+1 from by omega]
     go_loopw [9,51] (fun cv jv wr'=>∃(j car:Nat) (qs:List Nat),j<=m/\jv=.int .i64 j/\cv=.int .u64 car/\car<4294967296/\Hid (gz w wr' qs)/\Hid (qn ps qs ys x i j car)) (fun _ jv _=>m-(intOf jv).toNat)
     case atStart=>exact⟨0,0,ps,om,rfl,rfl,om,HF,ag HS.out.start⟩
     case round =>
      clear HF hcx;obtain⟨j,car,qs,hj,rfl,rfl,hcar,HG,HI⟩:=hrel;have hql:qs.length=n+m:=by rw[HI.out.len,HS.out.len,HX.out.1,HY.out.1]
      by_cases hjm:j<m
      ·obtain⟨bd,y,rfl,hbb,hyy,hy4,hcy⟩:=(HY.out.below HG.out.1 hL).at_ (k:=j) om;have HYY:=ag hyy;clear hyy;obtain⟨hcp,hfp⟩:=HG.out.at_ (i+j) om;have hp4:=HI.out.lim.getD (i+j);generalize hpp:qs.getD (i+j) 0=p at hcp hp4;have HPP:=ag hpp;clear hpp;obtain⟨z,hz,hz4⟩:∃z:Nat,x*y=z/\z<=18446744065119617025:=⟨_,rfl,o8 hx4 hy4⟩;have hzi:(x:Int)*(y:Int)=(z:Int):=by rw[<-hz];simp
       have HZ:=ag hz;clear hz;have hjm':(j:Int)<m:=om
       have hjm2:(j:Int)<m+1:=om
       have hj0:(0:Int)<=j:=om
       go_wp2
       go_roundw
       case rel =>
        have h5:=HI.out.step (by rw[HY.out.1];exact hjm) om HYY.out HPP.out hx4 hy4 hp4
        have h6:=HG.out.put (i+j) ((car+(x*y+p))%4294967296);rw[HZ.out]at h5 h6;exact⟨j+1,(car+(z+p))/4294967296,_,om,by go_num,by go_num,om,ag (by simpa using h6),ag h5⟩
       case measure=>simp[intOf];omega
      ·obtain rfl:j=m:=om
       obtain⟨hcp,hfp⟩:=HG.out.at_ (i+j) om;have HN:=ag (HS.out.next HI.out HY.out.1 (by rw[HX.out.1];exact hin) HXX.out)
       have HP:=ag (HG.out.put (i+j) car);have hjm2:(j:Int)<j+1:=om
       have hj0:(0:Int)<=j:=om
       go_wp2
       go_roundw
       case rel=>exact⟨i+1,_,om,by go_num,ag (by simpa using HP.out),HN⟩
       case measure=>simp[intOf];omega
   ·obtain rfl:i=n:=om
    go_wp2_with fail
    have hl:=HS.out.len;rw[HX.out.1,HY.out.1]at hl;have hU:=cc.ofBlk HF.out.2 HS.out.lim HF.out.2.lt rfl;rw[hl]at hU;have hv:=HS.out.eq;rw[bL (by rw[HX.out.1];exact ah _)]at hv
    have HB:=ag HF.out.1;have HU:=ag hU;clear hU;have HV:=ag hv;clear hv;refine(ll _ _ _ _ _ _ (ah _) om HU.out).mono ?_;rintro e w' ⟨⟨r,hr,rfl,hU2,hT,hv2⟩,rfl⟩;have HU2:=ag hU2;clear hU2;have HV2:=ag hv2;clear hv2;go_wp2;go_ret;exact⟨_,_,_,_,rfl,hr,HU2.out,hT,HV2.out.trans HV.out,HB.out⟩
 ·have h1i:(n:Int)<=1:=om
  have h1j:decide ((n:Int)<=1)=true:=by simpa using h1i
  have h2i:¬(m:Int)<=1:=om
  have h2j:decide ((m:Int)<=1)=false:=by simpa using h2i
  go_enter func140,ntmps140
  go_wp2;clear hmk
  go_loopw [34] (fun iv wr=>∃(i:Nat) (ps:List Nat),i<=n/\iv=.int .i64 i/\Hid (gz w wr ps)/\Hid (jr ps xs ys i)) (fun iv _=>n-(intOf iv).toNat)
  case atStart=>exact⟨0,_,om,rfl,ag (gz.start w (n+m)),ag (jr.init xs ys (n+m) (by rw[HX.out.1,HY.out.1]))⟩
  case round =>
   obtain⟨i,ps,hi,rfl,HF,HS⟩:=hrel;by_cases hin:i<n
   ·obtain⟨ad,x,rfl,hab,hxx,hx4,hcx⟩:=(HX.out.below HF.out.1 hL).at_ (k:=i) om;have HXX:=ag hxx;clear hxx;have hin':(i:Int)<n:=om
    have hi0:(0:Int)<=i:=om
    by_cases hx0:x=0
    ·subst hx0;go_wp2
     go_roundw
     case rel=>exact⟨i+1,ps,om,by go_num,HF,ag (HS.out.zero (by rw[HX.out.1];exact hin) HXX.out)⟩
     case measure=>simp[intOf];omega
    ·have hx0':((x:Int)==0)=false:=by simp;omega
     go_wp2;rw[show i+m+1-i=m+1 from by omega]
     go_loopw [9,51] (fun cv jv wr'=>∃(j car:Nat) (qs:List Nat),j<=m/\jv=.int .i64 j/\cv=.int .u64 car/\car<4294967296/\Hid (gz w wr' qs)/\Hid (qn ps qs ys x i j car)) (fun _ jv _=>m-(intOf jv).toNat)
     case atStart=>exact⟨0,0,ps,om,rfl,rfl,om,HF,ag HS.out.start⟩
     case round =>
      clear HF hcx;obtain⟨j,car,qs,hj,rfl,rfl,hcar,HG,HI⟩:=hrel;have hql:qs.length=n+m:=by rw[HI.out.len,HS.out.len,HX.out.1,HY.out.1]
      by_cases hjm:j<m
      ·obtain⟨bd,y,rfl,hbb,hyy,hy4,hcy⟩:=(HY.out.below HG.out.1 hL).at_ (k:=j) om;have HYY:=ag hyy;clear hyy;obtain⟨hcp,hfp⟩:=HG.out.at_ (i+j) om;have hp4:=HI.out.lim.getD (i+j);generalize hpp:qs.getD (i+j) 0=p at hcp hp4;have HPP:=ag hpp;clear hpp;obtain⟨z,hz,hz4⟩:∃z:Nat,x*y=z/\z<=18446744065119617025:=⟨_,rfl,o8 hx4 hy4⟩;have hzi:(x:Int)*(y:Int)=(z:Int):=by rw[<-hz];simp
       have HZ:=ag hz;clear hz;have hjm':(j:Int)<m:=om
       have hjm2:(j:Int)<m+1:=om
       have hj0:(0:Int)<=j:=om
       go_wp2
       go_roundw
       case rel =>
        have h5:=HI.out.step (by rw[HY.out.1];exact hjm) om HYY.out HPP.out hx4 hy4 hp4
        have h6:=HG.out.put (i+j) ((car+(x*y+p))%4294967296);rw[HZ.out]at h5 h6;exact⟨j+1,(car+(z+p))/4294967296,_,om,by go_num,by go_num,om,ag (by simpa using h6),ag h5⟩
       case measure=>simp[intOf];omega
      ·obtain rfl:j=m:=om
       obtain⟨hcp,hfp⟩:=HG.out.at_ (i+j) om;have HN:=ag (HS.out.next HI.out HY.out.1 (by rw[HX.out.1];exact hin) HXX.out)
       have HP:=ag (HG.out.put (i+j) car);have hjm2:(j:Int)<j+1:=om
       have hj0:(0:Int)<=j:=om
       go_wp2
       go_roundw
       case rel=>exact⟨i+1,_,om,by go_num,ag (by simpa using HP.out),HN⟩
       case measure=>simp[intOf];omega
   ·obtain rfl:i=n:=om
    go_wp2_with fail
    have hl:=HS.out.len;rw[HX.out.1,HY.out.1]at hl;have hU:=cc.ofBlk HF.out.2 HS.out.lim HF.out.2.lt rfl;rw[hl]at hU;have hv:=HS.out.eq;rw[bL (by rw[HX.out.1];exact ah _)]at hv
    have HB:=ag HF.out.1;have HU:=ag hU;clear hU;have HV:=ag hv;clear hv;refine(ll _ _ _ _ _ _ (ah _) om HU.out).mono ?_;rintro e w' ⟨⟨r,hr,rfl,hU2,hT,hv2⟩,rfl⟩;have HU2:=ag hU2;clear hU2;have HV2:=ag hv2;clear hv2;go_wp2;go_ret;exact⟨_,_,_,_,rfl,hr,HU2.out,hT,HV2.out.trans HV.out,HB.out⟩
theorem zQ(A B:Option Addr)(n m c d L:Nat)(xs ys:List Nat)(w:World)(hn:n<=1)(hm:m<=1)(hx:cc w L A n xs)(hy:cc w L B m ys) :
  Calls aj 140 #[.slice A n c,.slice B m d] w (oq w (bv xs*bv ys)):=by
 have hx4:bv xs<4294967296:=by
  have h:=iC hx.2.1;rw[hx.1]at h;have h2:(4294967296:Nat)^n<=4294967296^1:=cg om hn;omega
 have hy4:bv ys<4294967296:=by
  have h:=iC hy.2.1;rw[hy.1]at h;have h2:(4294967296:Nat)^m<=4294967296^1:=cg om hm;omega
 have HX:=ag hx;clear hx;have HY:=ag hy;clear hy;have h1i:(n:Int)<=1:=om
 have h2i:(m:Int)<=1:=om
 obtain⟨z,hz,hz4⟩:∃z:Nat,bv xs*bv ys=z/\z<=18446744065119617025:=⟨_,rfl,o8 hx4 hy4⟩;generalize hvx:bv xs=x at hz hx4;generalize hvy:bv ys=y at hz hy4;have hzi:(x:Int)*(y:Int)=(z:Int):=by rw[<-hz];simp
 have HVX:=ag hvx;clear hvx;have HVY:=ag hvy;clear hvy;rw[hz];have HZ:=ag hz;clear hz
 go_enter func140,ntmps140
 go_wp2_with fail
 refine(nj A n c L xs _ om HX.out).mono ?_;rintro e w' ⟨rfl,rfl⟩;rw[HVX.out]
 go_wp2_with fail
 refine(nj B m d L ys _ om HY.out).mono ?_;rintro e w' ⟨rfl,rfl⟩;rw[HVY.out]
 go_wp2_with fail
 refine(jl z _ om).mono ?_;rintro e w1 ⟨A1,k,c1,zs,rfl,hk,hU,hT,hv,hb1⟩;have HU:=ag hU;clear hU;have HV:=ag hv;clear hv;have HB:=ag hb1;clear hb1;go_wp2;go_ret;exact⟨_,_,_,_,rfl,hk,HU.out,hT,HV.out,HB.out⟩
theorem C4(A B:Option Addr)(n m c d L:Nat)(xs ys:List Nat)(w:World)(hn:n<=268435456)(hm:m<=268435456)(hL:L<=w.heap.size)(hx:cc w L A n xs)(hy:cc w L B m ys) :
  Calls aj 140 #[.slice A n c,.slice B m d] w (oq w (bv xs*bv ys)):=by
 by_cases h:n<=1/\m<=1
 ·exact zQ A B n m c d L xs ys w h.1 h.2 hx hy
 ·exact C3 A B n m c d L xs ys w hn hm h hL hx hy
theorem GK(s1 s2:Bool)(a b:Nat):sg (s1 != s2) (a*b)=sg s1 a*sg s2 b:=by
 cases s1<;>cases s2<;>simp[sg]<;>grind
theorem Kx(va vb:Value)(za zb:Int)(B:Nat)(w:World)(hB:B<=w.heap.size)(ha:d7 w B va za)(hb:d7 w B vb zb)(sa:nl za.natAbs<=268435456)(sb:nl zb.natAbs<=268435456) :
  Calls aj 83 #[va,vb] w (dh w (za*zb)):=by
 obtain⟨s1,A,n,c,xs,rfl,hnc,hx,tx,rfl⟩:=ha;obtain⟨s2,D,m,d,ys,rfl,hmd,hy,ty,rfl⟩:=hb;rw[eX,<-aL hx tx]at sa;rw[eX,<-aL hy ty]at sb;have HX:=ag hx;clear hx;have HY:=ag hy;clear hy;have HTX:=ag tx;clear tx;have HTY:=ag ty;clear ty
 go_enter func83,ntmps83
 go_wp2;obtain⟨hb0,k1,k2,k3⟩:=wt w #[aC s1,aq A n c] #[aC s2,aq D m d] #[aC false,aq none 0 0];generalize (((w.alloc (Obj.cells #[aC s1,aq A n c] 50)).alloc (Obj.cells #[aC s2,aq D m d] 50)).alloc (Obj.cells #[aC false,aq none 0 0] 50))=W at hb0 k1 k2 k3 ⊢;obtain⟨a0,a1⟩:=ee k1;obtain⟨b0,b1⟩:=ee k2;have HK3:=ag k3;clear k3 k1 k2;have HB0:=ag hb0;clear hb0;have hg2:w.heap.size+2<W.heap.size:=HK3.out.lt;have HS:=ag (show ∀w1,Below (w.heap.size+2) W w1->(w1.cell? ⟨w.heap.size,0,none⟩=some (.bool s1)/\w1.cell? ⟨w.heap.size,1,none⟩=some (.slice A n c)/\w1.cell? ⟨w.heap.size+1,0,none⟩=some (.bool s2)/\w1.cell? ⟨w.heap.size+1,1,none⟩=some (.slice D m d)/\Below (w.heap.size+2) W w1)from
  fun w1 h=>⟨(h.cell (by show w.heap.size<_;omega)).trans a0,(h.cell (by show w.heap.size<_;omega)).trans a1,(h.cell (by show w.heap.size+1<_;omega)).trans b0,(h.cell (by show w.heap.size+1<_;omega)).trans b1,h⟩)
 have HUX:Hid (cc W.drew B A n xs):=ag (HX.out.below HB0.out.drew hB);have HUY:Hid (cc W.drew B D m ys):=ag (HY.out.below HB0.out.drew hB);have hkl:∀(k:Nat) (zs:List Nat) (w':World) (Bb:Nat) (A':Option Addr),cc w' Bb A' k zs->oR zs->bv zs=bv xs*bv ys->k<=536870912:=by
  intro k zs w' Bb A' hu ht hv;have h1:=aL hu ht;have h2:=LL (bv xs) (bv ys);rw[<-aL HX.out HTX.out,<-aL HY.out HTY.out]at h2;rw[hv]at h1;omega
 have HKL:=ag hkl;clear hkl
 go_region_held3 (fun w'=>w'.cell? ⟨w.heap.size,0,none⟩=some (.bool s1)/\w'.cell? ⟨w.heap.size,1,none⟩=some (.slice A n c)/\w'.cell? ⟨w.heap.size+1,0,none⟩=some (.bool s2)/\w'.cell? ⟨w.heap.size+1,1,none⟩=some (.slice D m d)/\Below (w.heap.size+2) W w')
  (first|exact HS.out _ (a8 _ _).drew|assumption|exact HS.out _ (by assumption)|exact HS.out _ (dL (dL (by assumption) sm _) sm _))
  (first
   | (go_at_call_of 136 (aq A n c);refine(fS A n c B xs W.drew hnc om HUX.out HTX.out).mono ?_;rintro e w' ⟨rfl,rfl⟩)
   | (go_at_call_of 136 (aq D m d);refine(fS D m d B ys W.drew hmd om HUY.out HTY.out).mono ?_;rintro e w' ⟨rfl,rfl⟩)
   | (go_at_call 140;refine(C4 A D n m c d B xs ys W.drew sa sb (by show B<=W.heap.size;omega) HUX.out HUY.out).mono ?_;rintro e w1 ⟨A1,k,c1,zs,rfl,hk1,hU1,hT1,hv1,hbn1⟩;have hk2:=HKL.out _ _ _ _ _ hU1 hT1 hv1;have HU1:=ag hU1;clear hU1;have HT1:=ag hT1;clear hT1;have HV1:=ag hv1;clear hv1;have hB1:Below (w.heap.size+2) W w1:=(a8 _ W).drew.trans (hbn1.mono (by show _<=W.heap.size;omega));have HK2:=ag (fo.below (w:=W.drew) HK3.out hbn1 hg2);clear hbn1;have hsz:=HK2.out.lt)
   | (go_at_call 134;refine(fQ (s1 != s2) A1 k c1 w1.heap.size zs w1 hk1 om (ah _) HU1.out HT1.out).mono ?_;rintro e w2 ⟨v,rfl,hI,hbn⟩;obtain⟨neg,A2,n2,c2,zs2,rfl,hI2⟩:=hI;have hB2:Below (w.heap.size+2) W w2:=hB1.trans (hbn.mono om);have HI:=ag hI2;clear hI2;have hk3:=HK2.out.below hbn hsz;obtain⟨e0,e1⟩:=ee hk3;have f0:=hk3.frozen 0;have f1:=hk3.frozen 1;have HK4:=ag hk3;clear hk3 hbn))
 go_wp2;exact bodyPost_ret (v:=.agg #[.bool neg,.slice A2 n2 c2]) (by simp[results,results83,go_sem,e0,e1]) rfl
   (dh.cell ⟨neg,A2,n2,c2,zs2,rfl,HI.out⟩ HK4.out (HB0.out.trans (hB2.mono om)) om (by rw[HV1.out,GK]))
def LA(B:Nat)(w wr:World)(g n:Nat)(ps:List Nat):Prop :=
 Below B w wr/\B<=g/\ps.length=n/\mo ps/\∃cs:Array Value,fo wr g 136 cs/\∀j,j<n->cs[j]? = some (.int .u32 (ps.getD j 0))
theorem LA.put{B:Nat}{w wr:World}{g n:Nat}{ps:List Nat}(h:LA B w wr g n ps){k x:Nat}(hk:k<n)(hx:x<4294967296):LA B w (wr.setCell ⟨g,k,none⟩ (.int .u32 x)) g n (ps.set k x):=by
 obtain⟨h1,h2,h3,h4,cs,h5,h6⟩:=h;refine⟨h1.setCell h2 _,h2,by simpa using h3,h4.set k hx,_,h5.set_ k _,fun j hj=>?_⟩
 by_cases e:j=k
 ·subst e;have hs:j<cs.size:=by
   rcases aI j cs.size with h|h
   ·exact h
   ·have:=h6 j hj;rw[fm h]at this;cases this
  rw[Array.getElem?_setIfInBounds_self_of_lt hs];simp[cL,h3,hj]
 ·rw[Array.getElem?_setIfInBounds_ne (Ne.symm e),h6 j hj,pe (Ne.symm e)]
theorem LA.at_{B:Nat}{w wr:World}{g n:Nat}{ps:List Nat}(h:LA B w wr g n ps){k:Nat}(hk:k<n):wr.cell? ⟨g,k,none⟩=some (.int .u32 (ps.getD k 0))/\wr.frozen? ⟨g,k,none⟩=false:=by
 obtain⟨h1,h2,h3,h4,cs,h5,h6⟩:=h;exact⟨(h5.cell k).trans (h6 k hk),h5.frozen k⟩
theorem LA.u32{B:Nat}{w wr:World}{g n:Nat}{ps:List Nat}(h:LA B w wr g n ps):cc wr wr.heap.size (some ⟨g,0,none⟩) n ps:=by
 obtain⟨h1,h2,h3,h4,cs,h5,h6⟩:=h;refine⟨h3,h4,fun _=>⟨_,rfl,h5.lt,fun j hj=>?_⟩⟩;have e:(⟨g,0,none⟩:Addr).add j=⟨g,j,none⟩:=by unfold Addr.add;split<;>simp_all
 rw[e];exact(h5.cell j).trans (h6 j hj)
theorem Fy(ad:Addr)(n c B:Nat)(xs:List Nat)(w:World)(hn:0<n)(hm:n<=1073741824)(hB:B<=w.heap.size)(h:cc w B (some ad) n xs) :
  Calls aj 196 #[.slice (some ad) n c] w fun e w'=>∃g c',e=.returned (.slice (some ⟨g,0,none⟩) n c')/\n<=c'/\LA w.heap.size w w' g n xs:=by
 have HX:=ag h;clear h;have q48:∀(w:World) (a:Option Addr) (n c n' c':Nat),(binOp .eql 48 (.slice a n c) (.slice none n' c')).run aj w=.ok (.bool a.isNone) w:=fun w a n c n' c'=>Lib.run_eql_slice_nil w _ _ a n c n' c' underlying48
 go_enter func196,ntmps196
 go_wp2_with (at_builtin;refine wpList_append_own_at _ rfl _ _ 48 rfl w.heap.size 136 Tryz.t136 (.int .u32 0) 1 4 underlying48 Da Cw CS Dr rfl om _ 0 [] rfl (World.ownsRow_lit (e:=136) (size:=1) w #[] 0 (ah _) (by simp[maxLen]) rfl) ad n c (xs.map (fun x:Nat=>dD .u32 x)) rfl (by simp[HX.out.1]) (cc.cells (HX.out.below ((a8 _ _).alloc hB _) (ah _))) (by intro u hu;simp only[fM]at hu;obtain⟨x,_,rfl⟩:=hu;rfl) (by simp[maxLen];omega) om sm ?_)
 intro v' w1 hown hgrow hnil hat;obtain⟨h1,h2⟩:=hown;have h1':xs.length=n:=by simpa using h1
 rcases h2 with⟨h,_⟩|⟨g,cap,cur,rfl,hbase,hg,hnc,_,hcs,htake⟩
 ·exact absurd h hnil
 have HB:=(((a8 w.heap.size w).alloc (ah _) (Obj.cells #[] 136)).trans (jf hgrow (B:=w.heap.size) sm (by intro g h;cases h;exact ah _)))
 have hla:LA w.heap.size w w1 g n xs:=by
  refine⟨HB,hbase,h1',HX.out.2.1,cur,hg,fun j hj=>?_⟩;have h7:(cur.toList.take (n*1))[j]? = (xs.map (fun x:Nat=>dD .u32 x))[j]?:=by rw[htake]
  rw[fI om,mn,bD (l:=xs) om]at h7;rw[<-Array.getElem?_toList,h7];simp[cL,bD (om:j<xs.length)]
 have HL:=ag hla;clear hla HB hg htake hgrow hnil hat h1 hbase;go_wp2;go_ret;exact⟨g,cap,rfl,om,HL.out⟩
theorem Fl{xs zs:List Nat}{k rest b x:Nat}(hb:rest<b)(hx:xs.getD k 0=x)(hx4:x<4294967296)(hk:k<xs.length)(h:bv zs*b+rest=bv (xs.drop (k+1))) :
  (rest*4294967296+x)/b<4294967296/\(rest*4294967296+x)%b<b/\bv ((rest*4294967296+x)/b::zs)*b+(rest*4294967296+x)%b=bv (xs.drop k):=by
 have h0:0<b:=om
 refine⟨?_,eP _ h0,?_⟩
 ·rw[Nat.div_lt_iff_lt_mul h0];have:(rest+1)*4294967296<=b*4294967296:=Nat.mul_le_mul_right _ hb;omega
 ·have e:=gS (rest*4294967296+x) b;rw[iH hk];have ex:xs[k]=x:=by simpa [cL,bD hk]using hx
  rw[ex];simp only[bv];rw[<-h];generalize (rest*4294967296+x)/b=q at *;generalize (rest*4294967296+x)%b=r at *
  grind
structure DL(xs ps zs:List Nat)(k n rest b:Nat):Prop where
 len:xs.length=n
 kn:k<=n
 eq:ps=xs.take k++zs
 zl:zs.length=n-k
 lt:rest<b
 sum:bv zs*b+rest=bv (xs.drop k)
theorem DL.init{xs:List Nat}{n b:Nat}(hl:xs.length=n)(hb:0<b):DL xs xs [] n n 0 b :=
 ⟨hl,ah _,by simp[<-hl],sm,hb,by simp[<-hl,bv]⟩
theorem DL.next{xs ps zs:List Nat}{k n rest b x:Nat}(h:DL xs ps zs (k+1) n rest b)(hl:mo xs)(hx:ps.getD k 0=x) :
  DL xs (ps.set k ((rest*4294967296+x)/b)) ((rest*4294967296+x)/b::zs) k n ((rest*4294967296+x)%b) b/\(rest*4294967296+x)/b<4294967296/\x<4294967296:=by
 have hkn:=h.kn;have hkl:k<xs.length:=by have:=h.len;omega
 have hx':xs.getD k 0=x:=by
  rw[<-hx,h.eq];simp only[cL];rw[eh (by simp;omega),fI om]
 have hx4:x<4294967296:=by rw[<-hx'];exact hl.getD k
 obtain⟨s1,s2,s3⟩:=Fl h.lt hx' hx4 hkl h.sum;refine⟨⟨h.len,om,?_,by simp[h.zl];omega,s2,s3⟩,s1,hx4⟩
 rw[h.eq];generalize (rest*4294967296+x)/b=q;apply List.ext_getElem?;intro j;rw[List.getElem?_set];have hl2:(xs.take (k+1)++zs).length=n:=by simp[h.zl,h.len];omega
 by_cases e:k=j
 ·subst e;rw[if_pos rfl,if_pos om,dV (by simp;omega)]
  simp[h.len];rw[gR om];simp
 ·rw[if_neg e];by_cases e2:j<k
  ·rw[eh (by simp[h.len];omega),eh (by simp[h.len];omega),fI om,fI om]
  ·rw[dV (by simp[h.len];omega),dV (by simp[h.len];omega)]
   simp only[eC,h.len];rw[gR om,gR om];obtain⟨m,rfl⟩:∃m,j=k+1+m:=⟨j-(k+1),om⟩
   rw[(om:k+1+m-(k+1)=m),(om:k+1+m-k=m+1),bT]
theorem Be{a x:Nat}(ha:a<4294967296)(hx:x<4294967296):bits .or .u64 ((a:Int)*4294967296) (x:Int)=((a*4294967296+x:Nat):Int):=by
 have h:=u64_or_nat (a*4294967296) x om om;rw[Nat.or_comm,GW hx,sY]at h;rw[<-h];rfl
theorem sM(B:Nat)(w0 w:World)(g n c b:Nat)(xs:List Nat)(hn:n<=1073741824)(hb:0<b)(hb4:b<4294967296)(h:LA B w0 w g n xs) :
  Calls aj 197 #[.slice (some ⟨g,0,none⟩) n c,.int .u32 b] w fun e w'=>∃ps,e=.returned (.int .u32 ((bv xs%b:Nat):Int))/\LA B w0 w' g n ps/\bv ps=bv xs/b:=by
 have HL:=ag h.2.2.2.1;have hxl:=h.2.2.1;have HI:=ag (DL.init hxl hb);have HA:=ag h;clear h
 go_enter func197,ntmps197
 go_wp2
 go_loopw [5,6] (fun rv iv wr=>∃(k rest:Nat) (ps zs:List Nat),k<=n/\iv=.int .i64 ((k:Int)-1)/\rv=.int .u64 rest/\rest<b/\Hid (LA B w0 wr g n ps)/\Hid (DL xs ps zs k n rest b)) (fun _ iv _=>(intOf iv+1).toNat)
 case atStart=>exact⟨n,0,xs,[],om,rfl,rfl,hb,HA,HI⟩
 case round =>
  clear HA HI;obtain⟨k,rest,ps,zs,hk,rfl,rfl,hrb,HA,HI⟩:=hrel;rcases bU k with h0|h0
  ·subst h0;have hs:=HI.out.sum;have he:=HI.out.eq;simp only[List.take_zero,List.nil_append,List.drop_zero]at hs he;subst he;have hq:bv ps=bv xs/b/\rest=bv xs%b:=by
    have h1:bv xs=b*bv ps+rest:=by rw[aS];exact hs.symm
    rw[h1];exact⟨by rw[Nat.mul_add_div hb,kv hrb];rfl,by rw[Nat.mul_add_mod,ku hrb]⟩
   obtain⟨hq1,hr1⟩:=hq;have HR:=ag hr1;clear hr1;go_wp2;go_ret;exact⟨ps,by rw[<-HR.out];go_num,HA.out,hq1⟩
  ·obtain⟨m,rfl⟩:∃m,k=m+1:=⟨k-1,om⟩
   obtain⟨hc,hf⟩:=HA.out.at_ (k:=m) om;generalize hpx:ps.getD m 0=x at hc;obtain⟨hD,hq4,hx4⟩:=HI.out.next HL.out hpx;have HD:=ag hD;clear hD hpx;have HO:=ag (Be (om:rest<4294967296) hx4)
   have HP:=HA.out.put (k:=m) om hq4;have e1:((m+1:Nat):Int)-1=m:=om
   rw[e1];have hm0:(m:Int)≥0:=om
   have hmn:(m:Int)<n:=om
   have hq64:(rest*4294967296+x)/b<18446744073709551616:=om
   have E1:(bits .or .u64 ((rest:Int)*4294967296) (x:Int)).tmod b=(((rest*4294967296+x)%b:Nat):Int):=by
    rw[HO.out,aU (et _),Int.natCast_emod]
   have E2:IntKind.u64.wrap ((bits .or .u64 ((rest:Int)*4294967296) (x:Int)).tdiv b)%4294967296=(((rest*4294967296+x)/b:Nat):Int):=by
    rw[HO.out,Int.tdiv_eq_ediv_of_nonneg (et _),<-Int.natCast_ediv,IntKind.wrap_u64];generalize (rest*4294967296+x)/b=q at *;omega
   have HE1:=ag E1;clear E1;have HE2:=ag E2;clear E2;have hrb2:=HD.out.lt;clear hq4 hq64;have HP2:=ag HP;clear HP;go_wp2;refine⟨⟨m,_,_,_,om,rfl,?_,hrb2,ag (by rw[HE2.out];exact HP2.out),HD⟩,?_⟩
   ·rw[HE1.out]
   ·simp[intOf]
def pW(w:World)(u v:Nat)(e:Ending)(w':World):Prop :=
 ∃(A:Option Addr) (n c:Nat) (xs:List Nat) (D:Option Addr) (m d:Nat) (ys:List Nat),e=.returned (.tuple #[.slice A n c,.slice D m d])/\n<=c/\m<=d /\
  cc w' w'.heap.size A n xs/\cc w' w'.heap.size D m ys/\oR xs/\oR ys/\bv xs=u/\bv ys=v/\Below w.heap.size w w'
theorem LM(w:World)(B:Nat)(A:Option Addr):cc w B A 0 []:=⟨rfl,by simp[mo],fun h=>absurd h om⟩
theorem vE:oR []:=by intro x hx;simp at hx
theorem BU(A B:Option Addr)(n c d L:Nat)(xs ys:List Nat)(w:World)(hn:n<=536870912)(h2:2<n)(hL:L<=w.heap.size)(hx:cc w L A n xs)(hy:cc w L B 1 ys)(tx:oR xs)(ty:oR ys)
  (h0:0<bv ys) (hge:¬bv xs<bv ys) :
  Calls aj 137 #[.slice A n c,.slice B 1 d] w (pW w (bv xs/bv ys) (bv xs%bv ys)):=by
 have hc:0<=kc (bv xs) (bv ys):=by
  rcases aI (bv ys) (bv xs)with h|h
  ·rw[jL h];omega
  ·rw[lg om];omega
 obtain⟨ad,rfl,hadb,_⟩:=hx.2.2 om;obtain⟨bd,rfl,hbdb,hcb⟩:=hy.2.2 om;have hv1:bv ys=ys.getD 0 0:=by
  have:=hy.1
  match ys,this with
  | [y],_=>simp[bv]
 have hy4:=hy.2.1.getD 0;have hcb0:=hcb 0 om;rw[<-hv1]at hy4 hcb0;have HX:=ag hx;clear hx;have HY:=ag hy;clear hy;have HTX:=ag tx;clear tx;have HTY:=ag ty;clear ty;have HV1:=ag hv1;clear hv1;have HCB:=ag hcb0;clear hcb0;clear hcb hge;generalize hcm:kc (bv xs) (bv ys)=cm at hc;have Hcm:=ag hcm;clear hcm;generalize hvy:bv ys=y at h0 hy4 HCB ⊢;have HVY:=ag hvy;clear hvy;have hcn:¬cm<0:=om
 have hn2:¬(n:Int)<=2:=om
 have hn2':decide ((n:Int)<=2)=false:=by simpa using hn2
 go_enter func137,ntmps137
 go_wp2_with fail
 refine(gG (some ad) (some bd) n 1 c d L xs ys w om om HX.out HY.out HTX.out HTY.out).mono ?_;rintro e w1 ⟨rfl,hst⟩;rw[Hcm.out];have HB1:=ag (hst.below w.heap.size);have hcell:w1.cell? (bd.add 0)=some (.int .u32 y):=(hst.cell _).trans HCB.out;clear hst;have HCC:=ag hcell;clear hcell;have HY1:=ag (HY.out.below HB1.out hL)
 go_wp2_with fail
 refine(Fy ad n c L xs w1 om om (by have:=HB1.out.size;omega) (HX.out.below HB1.out hL)).mono ?_
 rintro e w2 ⟨g,c',rfl,hc',hla⟩;have hcell2:w2.cell? (bd.add 0)=some (.int .u32 y):=by
  obtain⟨ad',e1,_,h5⟩:=(HY1.out.below (hla.1) (by have:=HB1.out.size;omega)).2.2 om
  cases e1
  have:=h5 0 om;rw[this];congr 2;have h6:=HY1.out.2.2 om;obtain⟨ad'',e2,_,h7⟩:=h6
  cases e2
  have h8:=h7 0 om;rw[HCC.out]at h8;cases h8;rfl
 have HLA:=ag hla;clear hla;have hb0:bd.add 0=bd:=by unfold Addr.add;simp
 rw[hb0]at hcell2
 go_wp2_with fail
 refine(sM w1.heap.size w1 w2 g n c' y xs om h0 hy4 HLA.out).mono ?_;rintro e w3 ⟨ps,rfl,hla3,hvp⟩;have HLA3:=ag hla3;clear hla3;have HVP:=ag hvp;clear hvp;have hr4:bv xs%y<4294967296:=Nat.lt_trans (eP _ h0) hy4;generalize hrr:bv xs%y=r at hr4 ⊢;have HRR:=ag hrr;clear hrr
 go_wp2_with fail
 refine(ll _ _ _ _ _ _ hc' om HLA3.out.u32).mono ?_;rintro e w' ⟨⟨k,hk,rfl,hU2,hT,hv2⟩,rfl⟩;have HU2:=ag hU2;clear hU2;have HT:=ag hT;clear hT;have HV2:=ag hv2;clear hv2
 go_wp2_with fail
 refine(jl r w3 om).mono ?_;rintro e w4 ⟨A2,k2,c2,rs,rfl,hk2,hU3,hT3,hv3,hb3⟩;have HU3:=ag hU3;clear hU3;have HT3:=ag hT3;clear hT3;have HV3:=ag hv3;clear hv3;have HB3:=ag hb3;clear hb3;go_wp2;go_ret2;exact⟨_,k,c',_,A2,k2,c2,rs,rfl,om,hk2,(HU2.out.below HB3.out (ah _)).more HB3.out.size,HU3.out,HT.out,HT3.out,HV2.out.trans HVP.out,HV3.out.trans HRR.out.symm,(HB1.out.trans (HLA3.out.1.mono HB1.out.size)).trans (HB3.out.mono (Nat.le_trans HB1.out.size HLA3.out.1.size))⟩
theorem Dj(A B:Option Addr)(n m c d L:Nat)(xs ys:List Nat)(w:World)(hn:n<=536870912)(hm:m<=536870912)(hL:L<=w.heap.size)(hx:cc w L A n xs)(hy:cc w L B m ys)(tx:oR xs)(ty:oR ys)
  (h0:0<bv ys) (hs:bv xs<bv ys∨n<=2∨m<=1) :
  Calls aj 137 #[.slice A n c,.slice B m d] w (pW w (bv xs/bv ys) (bv xs%bv ys)):=by
 by_cases hlt:bv xs<bv ys
 ·have hq:=kv hlt;have hr:=ku hlt;rw[hq,hr];have HX:=ag hx;clear hx;have HY:=ag hy;clear hy;have HTX:=ag tx;clear tx;have HTY:=ag ty;clear ty;have Hc:=ag (kb hlt);clear hq hr hlt h0 hs
  go_enter func137,ntmps137
  go_wp2_with fail
  refine(gG A B n m c d L xs ys w om om HX.out HY.out HTX.out HTY.out).mono ?_;rintro e w1 ⟨rfl,hst⟩;rw[Hc.out];have HB1:=ag (hst.below w.heap.size);clear hst
  go_wp2_with fail
  refine(sQ A n c L xs w1 om (by have:=HB1.out.size;omega) (HX.out.below HB1.out hL)).mono ?_
  rintro e w2 ⟨A',c',rfl,hc',hU,hb⟩;have HU:=ag hU;clear hU;have HB:=ag (HB1.out.trans (hb.mono HB1.out.size));clear hb;go_wp2;go_ret2;exact⟨none,0,0,[],A',n,c',xs,rfl,ah _,hc',LM _ _ _,HU.out,vE,HTX.out,rfl,rfl,HB.out⟩
 ·by_cases hn2:n<=2
  rotate_left
  ·obtain rfl:m=1:=by
    have:m≠0:=by
     rintro rfl;have h1:=aL hy ty;have:=iX.1 (om:nl (bv ys)<=0)
     simp at this;omega
    omega
   exact BU A B n c d L xs ys w hn om hL hx hy tx ty h0 hlt
  have hm2:m<=2:=by
   have h1:=fy (om:bv ys<=bv xs)
   rw[<-aL hx tx,<-aL hy ty]at h1;omega
  have hc:0<=kc (bv xs) (bv ys):=by
   rcases aI (bv ys) (bv xs)with h|h
   ·rw[jL h];omega
   ·rw[lg om];omega
  have hc2:=(oe (bv xs) (bv ys)).2;have hx4:bv xs<18446744073709551616:=by
   have h:=iC hx.2.1;rw[hx.1]at h;have h2:(4294967296:Nat)^n<=4294967296^2:=cg om hn2;omega
  have hy4:bv ys<18446744073709551616:=by
   have h:=iC hy.2.1;rw[hy.1]at h;have h2:(4294967296:Nat)^m<=4294967296^2:=cg om hm2;omega
  have HX:=ag hx;clear hx;have HY:=ag hy;clear hy;have HTX:=ag tx;clear tx;have HTY:=ag ty;clear ty;generalize hcm:kc (bv xs) (bv ys)=cm at hc hc2;generalize hvx:bv xs=x at hlt hx4 h0 ⊢;generalize hvy:bv ys=y at hlt hy4 h0 ⊢;have HVX:=ag hvx;clear hvx;have HVY:=ag hvy;clear hvy;have Hcm:=ag hcm;clear hcm;clear hs hlt;have hn2i:(n:Int)<=2:=om
  have hcn:¬cm<0:=om
  have hy0:(y:Int)≠0:=om
  have hyn:y≠0:=om
  have hqle:x/y<=x:=jF x y;have hrlt:x%y<y:=eP x h0;have Hq:Hid (IntKind.u64.wrap ((x:Int)/(y:Int))=((x/y:Nat):Int)):=ag (by rw[IntKind.wrap_u64,<-Int.natCast_ediv];exact Int.emod_eq_of_lt (et _) om)
  have Hr:Hid ((x:Int)%(y:Int)=((x%y:Nat):Int)):=ag sm
  have Hr2:Hid ((x:Int).tmod (y:Int)=((x%y:Nat):Int)):=ag (by rw[aU (et _)];simp)
  generalize x/y=q at hqle Hq ⊢;generalize x%y=r at hrlt Hr Hr2 ⊢
  go_enter func137,ntmps137
  go_wp2_with fail
  refine(gG A B n m c d L xs ys w om om HX.out HY.out HTX.out HTY.out).mono ?_;rintro e w1 ⟨rfl,hst⟩;rw[Hcm.out];have HB1:=ag (hst.below w.heap.size);clear hst
  go_wp2_with fail
  refine(nj A n c L xs _ om (HX.out.below HB1.out hL)).mono ?_;rintro e w' ⟨rfl,rfl⟩;rw[HVX.out]
  go_wp2_with fail
  refine(nj B m d L ys _ om (HY.out.below HB1.out hL)).mono ?_;rintro e w' ⟨rfl,rfl⟩;rw[HVY.out];go_wp2;have HQ:=ag HB1.out.drew
  go_region_held3 (fun w'=>Below w.heap.size w w')
   (first|assumption|exact HQ.out)
   (first
    | (go_at_call 135;rw[Hq.out];refine(jl q w1.drew om).mono ?_;rintro e w2 ⟨A1,k1,c1,qs,rfl,hk1,hU1,hT1,hv1,hb1⟩;have HU1:=ag hU1;clear hU1;have HT1:=ag hT1;clear hT1;have HV1:=ag hv1;clear hv1;have hB2:Below w.heap.size w w2:=HQ.out.trans (hb1.mono HQ.out.size);clear hb1)
    | (go_at_call 135;(first|rw[Hr.out]|rw[Hr2.out]);refine(jl r w2 om).mono ?_;rintro e w3 ⟨A2,k2,c2,rs,rfl,hk2,hU2,hT2,hv2,hb2⟩;have HU2:=ag hU2;clear hU2;have HT2:=ag hT2;clear hT2;have HV2:=ag hv2;clear hv2;have hB3:Below w.heap.size w w3:=hB2.trans (hb2.mono hB2.size);have HB3:=ag hb2;clear hb2))
  all_goals (try go_wp2)
  all_goals go_ret2
  all_goals exact⟨A1,k1,c1,qs,A2,k2,c2,rs,rfl,hk1,hk2,(HU1.out.below HB3.out (ah _)).more HB3.out.size,HU2.out,HT1.out,HT2.out,HV1.out,HV2.out,hB3⟩
theorem fo.other{w:World}{g g' i:Nat}{t:TypeId}{cs:Array Value}{u:Value}(h:fo w g t cs)(hne:g≠g'):fo (w.setCell ⟨g',i,none⟩ u) g t cs :=
 (Below.heap_setCell w ⟨g',i,none⟩ u g hne).trans h
theorem Ma(w:World)(a b c d:Array Value) :
  Below w.heap.size w ((((w.alloc (.cells a 50)).alloc (.cells b 50)).alloc (.cells c 50)).alloc (.cells d 50))/\fo ((((w.alloc (.cells a 50)).alloc (.cells b 50)).alloc (.cells c 50)).alloc (.cells d 50)) w.heap.size 50 a /\
  fo ((((w.alloc (.cells a 50)).alloc (.cells b 50)).alloc (.cells c 50)).alloc (.cells d 50)) (w.heap.size+1) 50 b/\fo ((((w.alloc (.cells a 50)).alloc (.cells b 50)).alloc (.cells c 50)).alloc (.cells d 50)) (w.heap.size+2) 50 c /\
  fo ((((w.alloc (.cells a 50)).alloc (.cells b 50)).alloc (.cells c 50)).alloc (.cells d 50)) (w.heap.size+3) 50 d:=by
 obtain⟨h1,h2,h3,h4⟩:=wt w a b c;refine⟨h1.alloc (by first|(simp;done)|(simp;omega)) _,h2.below ((a8 _ _).alloc (ah _) _) (by first|(simp;done)|(simp;omega)),h3.below ((a8 _ _).alloc (ah _) _) (by first|(simp;done)|(simp;omega)),h4.below ((a8 _ _).alloc (ah _) _) sm,?_⟩
 have h:=fo.new (((w.alloc (.cells a 50)).alloc (.cells b 50)).alloc (.cells c 50)) 50 d;simpa using h
def yS(w:World)(q r:Int)(e:Ending)(w':World):Prop:=∃v1 v2,e=.returned (.tuple #[v1,v2,.bool true])/\d7 w' w'.heap.size v1 q/\d7 w' w'.heap.size v2 r/\Below w.heap.size w w'
theorem yS.cells{w w2:World}{g1 g2:Nat}{n1 n2 a b:Bool}{A1 A2 D1 D2:Option Addr}{k1 c1 k2 c2 m1 d1 m2 d2:Nat}{q r q' r':Int}
  (hI1:d7 w2 w2.heap.size (.agg #[.bool n1,.slice A1 k1 c1]) q) (hI2:d7 w2 w2.heap.size (.agg #[.bool n2,.slice A2 k2 c2]) r)
  (h1:fo w2 g1 50 #[.bool a,.slice D1 m1 d1]) (h2:fo w2 g2 50 #[.bool b,.slice D2 m2 d2]) (hne:g1≠g2) (hb:Below w.heap.size w w2) (hg1:w.heap.size<=g1) (hg2:w.heap.size<=g2) (hq:q=q') (hr:r=r') :
  yS w q' r' (.returned (.tuple #[.agg #[.bool n1,.slice A1 k1 c1],.agg #[.bool n2,.slice A2 k2 c2],.bool true]))
   ((((w2.setCell ⟨g1,0,none⟩ (.bool n1)).setCell ⟨g1,1,none⟩ (.slice A1 k1 c1)).setCell ⟨g2,0,none⟩ (.bool n2)).setCell ⟨g2,1,none⟩ (.slice A2 k2 c2)):=by
 subst hq hr;have e1:fo (w2.setCell ⟨g1,0,none⟩ (.bool n1)) g1 50 #[.bool n1,.slice D1 m1 d1]:=by simpa using h1.set_ 0 (.bool n1)
 have h3:=(h2.other (i:=0) (u:=.bool n1) hne.symm).other (g':=g1) (i:=1) (u:=.slice A1 k1 c1) hne.symm;have e2:fo (((w2.setCell ⟨g1,0,none⟩ (.bool n1)).setCell ⟨g1,1,none⟩ (.slice A1 k1 c1)).setCell ⟨g2,0,none⟩ (.bool n2)) g2 50 #[.bool n2,.slice D2 m2 d2]:=by simpa using h3.set_ 0 (.bool n2)
 have t1:=(((hI1.put (i:=0) (u:=.bool n1) h1 (k9 _ _ _ _)).put (i:=1) (u:=.slice A1 k1 c1) e1 (k9 _ _ _ _)).put (i:=0) (u:=.bool n2) h3 (k9 _ _ _ _)).put (i:=1) (u:=.slice A2 k2 c2) e2 (k9 _ _ _ _);have t2:=(((hI2.put (i:=0) (u:=.bool n1) h1 (k9 _ _ _ _)).put (i:=1) (u:=.slice A1 k1 c1) e1 (k9 _ _ _ _)).put (i:=0) (u:=.bool n2) h3 (k9 _ _ _ _)).put (i:=1) (u:=.slice A2 k2 c2) e2 (k9 _ _ _ _);exact⟨_,_,rfl,by simpa using t1,by simpa using t2,(((hb.setCell (by exact hg1) _).setCell (by exact hg1) _).setCell (by exact hg2) _).setCell (by exact hg2) _⟩
theorem L4(s2:Bool)(x y:Nat):sg s2 (x/y)=(sg false x)/(sg s2 y)/\((x%y:Nat):Int)=(sg false x)%(sg s2 y):=by
 cases s2<;>simp[sg,Int.ediv_neg]
theorem BS(s2:Bool)(x y:Nat)(hy:0<y)(h:0<x%y):sg (!s2) (x/y+1)=(sg true x)/(sg s2 y)/\((y-x%y:Nat):Int)=(sg true x)%(sg s2 y):=by
 have h1:=gS x y;have h2:=eP x hy;have e:(-(x:Int))=(y:Int)*(-((x/y:Nat):Int)-1)+((y-x%y:Nat):Int):=by
  have:((y-x%y:Nat):Int)=(y:Int)-((x%y:Nat):Int):=om
  rw[this];have h3:(x:Int)=(y:Int)*((x/y:Nat):Int)+((x%y:Nat):Int):=by rw[<-ck,<-jH,h1]
  rw[Int.mul_sub,qq];omega
 have hq:(-(x:Int))/(y:Int)=-((x/y:Nat):Int)-1/\(-(x:Int))%(y:Int)=((y-x%y:Nat):Int):=by
  have:=(Int.ediv_emod_unique (a:=-(x:Int)) (b:=(y:Int)) (r:=((y-x%y:Nat):Int)) (q:=-((x/y:Nat):Int)-1) om).2 ⟨by rw[Int.add_comm];exact e.symm,om,om⟩
  exact this
 cases s2
 ·simp only[sg,pD,if_true,aR,if_false];rw[hq.1,hq.2];exact⟨om,rfl⟩
 ·simp only[sg,yY,if_true,aR,if_false];rw[Int.ediv_neg,Int.emod_neg,hq.1,hq.2];exact⟨om,rfl⟩
theorem BT(s2:Bool)(x y:Nat)(hy:0<y)(h:x%y=0):sg (!s2) (x/y)=(sg true x)/(sg s2 y)/\((0:Nat):Int)=(sg true x)%(sg s2 y):=by
 have h1:=gS x y;have h3:(x:Int)=(y:Int)*((x/y:Nat):Int):=by rw[<-ck];omega
 have hq:(-(x:Int))/(y:Int)=-((x/y:Nat):Int)/\(-(x:Int))%(y:Int)=0:=by
  have:=(Int.ediv_emod_unique (a:=-(x:Int)) (b:=(y:Int)) (r:=0) (q:=-((x/y:Nat):Int)) om).2 ⟨by rw[qq];omega,om,om⟩
  exact this
 cases s2
 ·simp only[sg,pD,if_true,aR,if_false];rw[hq.1,hq.2];exact⟨rfl,rfl⟩
 ·simp only[sg,yY,if_true,aR,if_false];rw[Int.ediv_neg,Int.emod_neg,hq.1,hq.2];exact⟨om,rfl⟩
theorem wX(va vb:Value)(za zb:Int)(B:Nat)(w:World)(hB:B<=w.heap.size)(ha:d7 w B va za)(hb:d7 w B vb zb)(sa:nl za.natAbs<=268435456)(sb:nl zb.natAbs<=268435456)(h0:zb≠0)(hs:za.natAbs<zb.natAbs∨nl za.natAbs<=2∨nl zb.natAbs<=1) :
  Calls aj 82 #[va,vb] w (yS w (za/zb) (za%zb)):=by
 obtain⟨s1,A,n,c,xs,rfl,hnc,hx,tx,rfl⟩:=ha;obtain⟨s2,D,m,d,ys,rfl,hmd,hy,ty,rfl⟩:=hb;rw[eX,eX]at hs;rw[eX]at sa sb;rw[<-aL hx tx]at sa;rw[<-aL hy ty]at sb;rw[<-aL hx tx,<-aL hy ty]at hs;have hy0:0<bv ys:=by
  rcases bU (bv ys)with h|h
  ·rw[h,qX]at h0;exact absurd rfl h0
  ·exact h
 have hm0:m≠0:=by
  intro h;have h1:=aL hy ty;rw[h]at h1;have:=iX.1 (om:nl (bv ys)<=0)
  simp at this;omega
 have hm0':((m:Int)==0)=false:=by simp;omega
 have HX:=ag hx;clear hx;have HY:=ag hy;clear hy;have HTX:=ag tx;clear tx;have HTY:=ag ty;clear ty;have HY0:=ag hy0;clear hy0;have HSS:=ag hs;clear hs;clear h0;have HN:=ag (aL HX.out HTX.out);have HM:=ag (aL HY.out HTY.out)
 go_enter func82,ntmps82
 go_wp2_with fail
 obtain⟨hb0,k1,k2,k3,k4⟩:=Ma w #[aC s1,aq A n c] #[aC s2,aq D m d] #[aC false,aq none 0 0] #[aC false,aq none 0 0];generalize ((((w.alloc (Obj.cells #[aC s1,aq A n c] 50)).alloc (Obj.cells #[aC s2,aq D m d] 50)).alloc (Obj.cells #[aC false,aq none 0 0] 50)).alloc (Obj.cells #[aC false,aq none 0 0] 50))=W at hb0 k1 k2 k3 k4 ⊢;obtain⟨a0,a1⟩:=ee k1;obtain⟨b0,b1⟩:=ee k2;have HK3:=ag k3;have HK4:=ag k4;have HB0:=ag hb0;have hg2:w.heap.size+4<=W.heap.size:=k4.lt;clear k1 k2 k3 k4 hb0;have HS:=ag (show ∀w1,Below (w.heap.size+2) W w1->(w1.cell? ⟨w.heap.size,0,none⟩=some (.bool s1)/\w1.cell? ⟨w.heap.size,1,none⟩=some (.slice A n c)/\w1.cell? ⟨w.heap.size+1,0,none⟩=some (.bool s2)/\w1.cell? ⟨w.heap.size+1,1,none⟩=some (.slice D m d))from
  fun w1 h=>⟨(h.cell (by show w.heap.size<_;omega)).trans a0,(h.cell (by show w.heap.size<_;omega)).trans a1,(h.cell (by show w.heap.size+1<_;omega)).trans b0,(h.cell (by show w.heap.size+1<_;omega)).trans b1⟩)
 have HUX:Hid (cc W B A n xs):=ag (HX.out.below HB0.out hB);have HUY:Hid (cc W B D m ys):=ag (HY.out.below HB0.out hB);refine(fS D m d B ys W hmd om HUY.out HTY.out).mono ?_;rintro e w' ⟨rfl,rfl⟩
 go_wp2_with fail
 refine(fS A n c B xs W hnc om HUX.out HTX.out).mono ?_;rintro e w' ⟨rfl,rfl⟩
 go_wp2_with fail
 refine(Dj A D n m c d B xs ys W om om om HUX.out HUY.out HTX.out HTY.out HY0.out HSS.out).mono ?_;rintro e w1 ⟨A1,j1,c1,qs,A2,j2,c2,rs,rfl,hj1,hj2,hU1,hU2,hT1,hT2,hv1,hv2,hbn⟩;have hjq:j1<=n:=by
  have h1:=fy (jF (bv xs) (bv ys));rw[<-hv1,<-aL hU1 hT1,<-aL HX.out HTX.out]at h1;exact h1
 have hjr:j2<=n:=by
  have h1:=fy (Nat.mod_le (bv xs) (bv ys));rw[<-hv2,<-aL hU2 hT2,<-aL HX.out HTX.out]at h1;exact h1
 have HU1:=ag hU1;clear hU1;have HU2:=ag hU2;clear hU2;have HT1:=ag hT1;clear hT1;have HT2:=ag hT2;clear hT2;have HV1:=ag hv1;clear hv1;have HV2:=ag hv2;clear hv2;have HB1:=ag hbn;have hsz1:=hbn.size;obtain⟨c00,c01,c10,c11⟩:=HS.out w1 (hbn.mono om);clear hbn a0 a1 b0 b1
 cases s1
 ·have HZ:=ag (L4 s2 (bv xs) (bv ys))
  go_wp2_with fail
  refine(fQ s2 A1 j1 c1 w1.heap.size qs w1 hj1 om (ah _) HU1.out HT1.out).mono ?_;rintro e y2 ⟨v,rfl,hI,hbn⟩;obtain⟨neg,A3,n3,c3,zs3,rfl,hI3⟩:=hI;have HI:=ag hI3;clear hI3;have HB2:=ag hbn;clear hbn
  go_wp2_with fail
  refine(fQ false A2 j2 c2 w1.heap.size rs y2 hj2 om HB2.out.size (HU2.out.below HB2.out (ah _)) HT2.out).mono ?_;rintro e y3 ⟨v,rfl,hI,hbn⟩;obtain⟨neg',A4,n4,c4,zs4,rfl,hI4⟩:=hI;have HJ:=ag hI4;clear hI4;have HB3:=ag hbn;clear hbn;have hsz2:=HB2.out.size;have HBW:Hid (Below W.heap.size W y3):=ag ((HB1.out.trans (HB2.out.mono om)).trans (HB3.out.mono om));have hk3:=HK3.out.below HBW.out om;have hk4:=HK4.out.below HBW.out om;obtain⟨e0,e1⟩:=ee hk3;have f0:=hk3.frozen 0;have f1:=hk3.frozen 1;obtain⟨g0,g1⟩:=ee hk4;have i0:=hk4.frozen 0;have i1:=hk4.frozen 1;have HK5:=ag hk3;clear hk3;have HK6:=ag hk4;clear hk4;go_wp2;exact bodyPost_ret (v:=.tuple #[.agg #[.bool neg,.slice A3 n3 c3],.agg #[.bool neg',.slice A4 n4 c4],.bool true]) (by simp[results,results82,go_sem,e0,e1,g0,g1]) rfl
   (yS.cells (d7.more (d7.below ⟨neg,A3,n3,c3,zs3,rfl,HI.out⟩ HB3.out (ah _)) HB3.out.size) ⟨neg',A4,n4,c4,zs4,rfl,HJ.out⟩ HK5.out HK6.out om (HB0.out.trans (HBW.out.mono om)) om om (by rw[HV1.out];exact HZ.out.1) (by rw[HV2.out];exact HZ.out.2))
 ·by_cases hr0:j2=0
  ·subst hr0;have hrs:rs=[]:=rZ.1 HU2.out.1;have h00:bv xs%bv ys=0:=by rw[<-HV2.out,hrs];rfl
   have HZ:=ag (BT s2 (bv xs) (bv ys) HY0.out h00);have HRS:=ag hrs;clear hrs;clear h00
   go_wp2_with fail
   refine(fQ (!s2) A1 j1 c1 w1.heap.size qs w1 hj1 om (ah _) HU1.out HT1.out).mono ?_;rintro e y2 ⟨v,rfl,hI,hbn⟩;obtain⟨neg,A3,n3,c3,zs3,rfl,hI3⟩:=hI;have HI:=ag hI3;clear hI3;have HB2:=ag hbn;clear hbn
   go_wp2_with fail
   refine(fQ false A2 0 c2 w1.heap.size rs y2 hj2 om HB2.out.size (HU2.out.below HB2.out (ah _)) HT2.out).mono ?_;rintro e y3 ⟨v,rfl,hI,hbn⟩;obtain⟨neg',A4,n4,c4,zs4,rfl,hI4⟩:=hI;have HJ:=ag hI4;clear hI4;have HB3:=ag hbn;clear hbn;have hsz2:=HB2.out.size;have HBW:Hid (Below W.heap.size W y3):=ag ((HB1.out.trans (HB2.out.mono om)).trans (HB3.out.mono om));have hk3:=HK3.out.below HBW.out om;have hk4:=HK4.out.below HBW.out om;obtain⟨e0,e1⟩:=ee hk3;have f0:=hk3.frozen 0;have f1:=hk3.frozen 1;obtain⟨g0,g1⟩:=ee hk4;have i0:=hk4.frozen 0;have i1:=hk4.frozen 1;have HK5:=ag hk3;clear hk3;have HK6:=ag hk4;clear hk4;go_wp2;exact bodyPost_ret (v:=.tuple #[.agg #[.bool neg,.slice A3 n3 c3],.agg #[.bool neg',.slice A4 n4 c4],.bool true]) (by simp[results,results82,go_sem,e0,e1,g0,g1]) rfl
    (yS.cells (d7.more (d7.below ⟨neg,A3,n3,c3,zs3,rfl,HI.out⟩ HB3.out (ah _)) HB3.out.size) ⟨neg',A4,n4,c4,zs4,rfl,HJ.out⟩ HK5.out HK6.out om (HB0.out.trans (HBW.out.mono om)) om om (by rw[HV1.out];exact HZ.out.1) (by rw[HRS.out];exact HZ.out.2))
  ·have hpos:0<bv xs%bv ys:=by
    rcases bU (bv xs%bv ys)with h|h
    ·have h1:=aL HU2.out HT2.out;rw[HV2.out,h]at h1;have:nl 0=0:=by have:=iX.2 (om:0<4294967296^0);omega
     omega
    ·exact h
   have HZ:=ag (BS s2 (bv xs) (bv ys) HY0.out hpos);have hlt:=eP (bv xs) HY0.out;have hj2m:j2<=m:=by
    have h1:=fy (dw hlt);rw[<-HV2.out,<-aL HU2.out HT2.out,<-aL HY.out HTY.out]at h1;exact h1
   have HLE:Hid (bv rs<=bv ys):=ag (by rw[HV2.out];omega)
   clear hlt hpos;have hj20:(0:Int)<j2:=om
   go_wp2_with fail
   have hbo:=(a8 w1.heap.size w1).alloc (ah _) (Obj.cells #[dD IntKind.u32 1] 136);have hblk:fo (w1.alloc (Obj.cells #[dD IntKind.u32 1] 136)) w1.heap.size 136 (dr [1] 0):=by
    have:=fo.new w1 136 #[dD IntKind.u32 1];simpa [dr]using this
   have hU1:=cc.ofBlk (B:=w1.heap.size+1) hblk (by intro x hx;simp at hx;omega) om rfl
   refine(wx A1 (some ⟨w1.heap.size,0,none⟩) j1 1 c1 1 (w1.heap.size+1) qs [1] _ om om sm ((HU1.out.below hbo (ah _)).more om) hU1).mono ?_
   rintro e w2 ⟨A5,k5,c5,zs5,rfl,hk5,hU5,hT5,hv5,hb5⟩;have HB5:=ag (hbo.trans (hb5.mono sm))
   have hk5n:k5<=n+1:=by
    have h1:=GZ (bv qs) (bv [1]);have h2:=aL hU5 hT5;have h3:=aL HU1.out HT1.out;have h4:nl (bv [1])<=1:=iX.2 (by simp[bv])
    rw[hv5]at h2;omega
   have HU5:=ag hU5;clear hU5;have HT5:=ag hT5;clear hT5;have HV5:=ag hv5;clear hv5;clear hb5 hbo hblk hU1;have hsz5:=HB5.out.size;obtain⟨d00,d01,d10,d11⟩:=HS.out w2 ((HB1.out.mono om).trans (HB5.out.mono om))
   go_wp2_with fail
   refine(nU D A2 m j2 d c2 w1.heap.size ys rs w2 hj2m om hsz5 ((HUY.out.below (HB1.out.trans (HB5.out.mono om)) om).more om) (HU2.out.below HB5.out (ah _)) HLE.out).mono ?_;rintro e w3 ⟨A6,k6,c6,zs6,rfl,hk6,hU6,hT6,hv6,hb6⟩;have hk6m:k6<=m:=by
    have h1:=fy (Nat.sub_le (bv ys) (bv rs));rw[<-hv6,<-aL hU6 hT6,<-aL HY.out HTY.out]at h1;exact h1
   have HB6:=ag hb6;clear hb6;have HU6:=ag hU6;clear hU6;have HT6:=ag hT6;clear hT6;have HV6:=ag hv6;clear hv6;have hsz6:=HB6.out.size
   go_wp2_with fail
   refine(fQ (!s2) A5 k5 c5 w3.heap.size zs5 w3 hk5 om (ah _) ((HU5.out.below HB6.out (ah _)).more HB6.out.size) HT5.out).mono ?_;rintro e y2 ⟨v,rfl,hI,hbn⟩;obtain⟨neg,A3,n3,c3,zs3,rfl,hI3⟩:=hI;have HI:=ag hI3;clear hI3;have HB2:=ag hbn;clear hbn
   go_wp2_with fail
   refine(fQ false A6 k6 c6 w3.heap.size zs6 y2 hk6 om HB2.out.size (HU6.out.below HB2.out (ah _)) HT6.out).mono ?_;rintro e y3 ⟨v,rfl,hI,hbn⟩;obtain⟨neg',A4,n4,c4,zs4,rfl,hI4⟩:=hI;have HJ:=ag hI4;clear hI4;have HB3:=ag hbn;clear hbn;have hsz2:=HB2.out.size;have HBW:Hid (Below W.heap.size W y3):=ag ((((HB1.out.trans (HB5.out.mono om)).trans (HB6.out.mono om)).trans (HB2.out.mono om)).trans (HB3.out.mono om));have hk3:=HK3.out.below HBW.out om;have hk4:=HK4.out.below HBW.out om;obtain⟨e0,e1⟩:=ee hk3;have f0:=hk3.frozen 0;have f1:=hk3.frozen 1;obtain⟨g0,g1⟩:=ee hk4;have i0:=hk4.frozen 0;have i1:=hk4.frozen 1;have HK5:=ag hk3;clear hk3;have HK6:=ag hk4;clear hk4;go_wp2;exact bodyPost_ret (v:=.tuple #[.agg #[.bool neg,.slice A3 n3 c3],.agg #[.bool neg',.slice A4 n4 c4],.bool true]) (by simp[results,results82,go_sem,e0,e1,g0,g1]) rfl
    (yS.cells (d7.more (d7.below ⟨neg,A3,n3,c3,zs3,rfl,HI.out⟩ HB3.out (ah _)) HB3.out.size) ⟨neg',A4,n4,c4,zs4,rfl,HJ.out⟩ HK5.out HK6.out om (HB0.out.trans (HBW.out.mono om)) om om (by rw[HV5.out,HV1.out];simp only[bv,Nat.mul_zero,Nat.add_zero];exact HZ.out.1) (by rw[HV6.out,HV2.out];exact HZ.out.2))
end Go.Proofs.YtdobfmlmenaajaaGreatDoor
