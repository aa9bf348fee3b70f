/-
  Lemmas for NeighbourKeeps.
-/
import Derived.Test.YtdobfmlmenaajaaGreatDoorProg
import Derived.WalkKit
import Derived.WalkLawsBesides
import Derived.WalkSpells
import Derived.Below
import Derived.Lib.Hide
import Derived.Laws.MakeOwn
import Derived.Laws.OwnMore
import Derived.Laws.NewBlocks
import Derived.Laws.Rows
import Derived.Deep.Draws
import Derived.Deep.QuietTactic
import Derived.BigQuiet
import Derived.Outline
import Derived.KernelRfl
import Derived.Laws.BitsAllLaws
import Derived.Laws.BitsAll
import Derived.StillTailTactics
import Derived.Deep.RegionHeld3
namespace Go.Proofs.YtdobfmlmenaajaaGreatDoor
open Go.RowKit Tryz
open Below renaming refl→bq,setCell→dZ
open _root_.Int renaming toNat_natCast→eN
open Lib renaming hid→ab
open _root_.List renaming getElem?_eq_getElem→bD,take_of_length_le→bJ,replicate→bV,length_cons→cw,getD→cK,getElem?_cons_succ→cS,getElem?_cons_zero→dE,getElem?_eq_none→ee,length_take→eI,getElem?_toArray→fG,drop_of_length_le→gF,length_eq_zero_iff→tj
open _root_.Nat renaming le_refl→af,mul_comm→av,lt_or_ge→az,mul_le_mul_left→aQ,mul_assoc→aZ,eq_zero_or_pos→bC,pow_succ→bM,mul_add→bU,le_of_lt→cX,min_eq_left→it,add_comm→k9,add_assoc→l6,le_of_eq→un
open _root_.Option renaming getD_some→iJ
open Tryz renaming prog→ah
open Value renaming slice→aj,bool→ao,int→c8
set_option maxHeartbeats 6400000
set_option maxRecDepth 4096
set_option linter.all false
theorem an{a b:Prop}(h:b)(k:a:=by omega):a∧b:=⟨k,h⟩
theorem om{p:Prop}(h:p:=by omega):p:=h
theorem nn{a b:Nat}(h:a≠b):a≠b∧b≠a:=⟨h,Ne.symm h⟩
theorem kr{p:Prop}(h:p:=by kernel_rfl):p:=h
theorem sm{p:Prop}(h:p:=by simp):p:=h
theorem dc{p:Prop}(h:p:=by decide):p:=h
variable{cs:Array Value}{neg s1 s2:Bool}{z:Int}{l xs zs:List Nat}{B B' a b c d g i k n p r vx vy vz x y:Nat}{A D:Option Addr}{t:TypeId}{u v:Value}{w w' wr:World}
def aY:List Nat->Nat
 | []=>0
 | x::l=>x+4294967296*aY l
def mp(l:List Nat):Prop:=∀x∈l,x<4294967296
def nS(l:List Nat):Prop:=∀x,l.getLast? = some x->x≠0
theorem wt(a b:List Nat):aY (a++b)=aY a+4294967296^a.length*aY b:=by
 induction a with
 | nil=>simp[aY]
 | cons x a ih=>simp only[List.cons_append,aY,ih,cw,bM];rw[bU,l6,<-aZ,av (4294967296^a.length) 4294967296]
theorem gP(a:List Nat)(x:Nat):aY (a++[x])=aY a+4294967296^a.length*x:=by
 rw[wt];simp[aY]
theorem dF(l:List Nat)(k:Nat)(h:k<l.length):aY (l.take (k+1))=aY (l.take k)+4294967296^k*l.getD k 0:=by
 rw[List.take_succ_eq_append_getElem h,gP,eI,it (cX h)];simp[cK,bD h]
theorem mp.getD(h:mp l)(k:Nat):l.getD k 0<4294967296:=by
 rcases az k l.length with a|a
 ·simp only[cK,bD a,iJ];exact h _ (List.getElem_mem a)
 ·simp[cK,ee a]
theorem mp.snoc(h:mp l){x:Nat}(b:x<4294967296):mp (l++[x]):=by
 intro y c;rcases List.mem_append.1 c with a|a
 ·exact h y a
 ·rw[List.mem_singleton.1 a];exact b
theorem mp.take(h:mp l)(k:Nat):mp (l.take k):=fun x a=>h x (List.mem_of_mem_take a)
theorem iL(h:mp l):aY l<4294967296^l.length:=by
 induction l with
 | nil=>simp[aY]
 | cons x l ih =>
  have b:=ih (fun y a=>h y (List.mem_cons_of_mem _ a));have c:=h x (List.mem_cons_self ..);simp only[aY,cw,bM];generalize 4294967296^l.length=p at *;omega
theorem mz(k:Nat)(l:List Nat)(h:∀j,k<=j->l.getD j 0=0):aY l=aY (l.take k):=by
 induction l generalizing k with
 | nil=>simp
 | cons x l ih =>
  cases k with
  | zero =>
   have b:x=0:=by simpa [cK]using h 0 (af _)
   have a:=ih 0 (fun j _=>by have:=h (j+1) om;simpa [cK]using this)
   simp only[List.take_zero,aY]at a ⊢;omega
  | succ k =>
   have a:=ih k (fun j c=>by have:=h (j+1) om;simpa [cK]using this)
   simp only[List.take_succ_cons,aY];omega
theorem qk{car:Nat}(h:vz+car*p=vx+vy) :
  vz+p*((car+(x+y))%4294967296)+(car+(x+y))/4294967296*(p*4294967296)=(vx+p*x)+(vy+p*y):=by
 have a:=Nat.div_add_mod (car+(x+y)) 4294967296;have:p*((car+(x+y))%4294967296)+(car+(x+y))/4294967296*(p*4294967296)=p*(car+(x+y)):=by
  calc
   p*((car+(x+y))%4294967296)+(car+(x+y))/4294967296*(p*4294967296)
   =p*(4294967296*((car+(x+y))/4294967296)+(car+(x+y))%4294967296):=by
     rw[bU];rw[k9];congr 1;rw[av,aZ]
   _=p*(car+(x+y)):=by rw[a]
 rw[l6,this,bU,bU,av p car];omega
theorem tH(l:List Nat)(i:Nat)(h:i<l.length):aY l=aY (l.take i)+4294967296^i*(l.getD i 0+4294967296*aY (l.drop (i+1))):=by
 have a:l=l.take i++l[i]::l.drop (i+1):=by rw[List.getElem_cons_drop,List.take_append_drop]
 have b:aY l=aY (l.take i++l[i]::l.drop (i+1)):=by rw[<-a]
 rw[b,wt,eI,it (cX h)];simp[aY,cK,bD h]
theorem qC{a b:List Nat}(d:mp a)(c:i<a.length)(g:a.length=b.length)(e:a.drop (i+1)=b.drop (i+1))(h:a.getD i 0<b.getD i 0):aY a<aY b:=by
 rw[tH a i c,tH b i om,e];have f:=iL (d.take i);rw[eI,it (cX c)]at f;generalize 4294967296^i=p at *;generalize aY (b.drop (i+1))=v at *;have j:p*(a.getD i 0+4294967296*v)+p<=p*(b.getD i 0+4294967296*v):=by
  rw[<-Nat.mul_succ];exact aQ _ om
 omega
theorem ro(h:nS l)(a:l≠[]):4294967296^(l.length-1)<=aY l:=by
 have b:=List.dropLast_concat_getLast a;have c:aY l=aY (l.dropLast++[l.getLast a]):=by rw[b]
 rw[c,gP,List.length_dropLast];have e:l.getLast a≠0:=h _ (by rw[List.getLast?_eq_some_getLast a])
 have d:1<=l.getLast a:=om
 calc
  4294967296^(l.length-1)=4294967296^(l.length-1)*1:=om
  _<=4294967296^(l.length-1)*l.getLast a:=aQ _ d
  _<=_:=Nat.le_add_left _ _
theorem oO{a b:List Nat}(c:mp a)(d:nS b)(h:a.length<b.length):aY a<aY b:=by
 have f:=iL c;have g:=ro d (by intro e;subst e;simp at h)
 have i:(4294967296:Nat)^a.length<=4294967296^(b.length-1):=Nat.pow_le_pow_right om om;omega
def kt(a b:Nat):Int:=if a<b then -1 else if b<a then 1 else 0
theorem kL(h:a<b):kt a b=-1:=by simp[kt,h]
theorem jO(h:b<a):kt a b=1:=by
 have c:¬a<b:=om
 simp[kt,h,c]
theorem kM(h:a=b):kt a b=0:=by simp[kt,h]
theorem B5{bo:Nat}(h:vz+vy=vx+bo*p)(g:bo<=1)(i:x<4294967296)(j:y<4294967296) :
  ∃z b,z=(x+18446744073709551616-bo-y)%4294967296/\b=(x+18446744073709551616-bo-y)%18446744073709551616/9223372036854775808/\z<4294967296/\b<=1 /\
   (vz+p*z)+(vy+p*y)=(vx+p*x)+b*(p*4294967296):=by
 refine⟨_,_,rfl,rfl,om,om,?_⟩
 rcases az x (bo+y)with d|e
 ·have a:(x+18446744073709551616-bo-y)%4294967296=x+4294967296-bo-y:=om
  have c:(x+18446744073709551616-bo-y)%18446744073709551616/9223372036854775808=1:=om
  rw[a,c];have f:p*(x+4294967296-bo-y)+p*y+p*bo=p*x+p*4294967296:=by
   rw[<-bU,<-bU,<-bU];congr 1;omega
  rw[av bo p]at h;omega
 ·have a:(x+18446744073709551616-bo-y)%4294967296=x-bo-y:=om
  have c:(x+18446744073709551616-bo-y)%18446744073709551616/9223372036854775808=0:=om
  rw[a,c];have f:p*(x-bo-y)+p*y+p*bo=p*x:=by
   rw[<-bU,<-bU];congr 1;omega
  rw[av bo p]at h;omega
def nl(v:Nat):Nat:=if v=0 then 0 else v.log2/32+1
theorem wV(k:Nat):(4294967296:Nat)^k=2^(32*k):=by
 rw[show(4294967296:Nat)=2^32 from rfl,<-Nat.pow_mul]
theorem jt{v:Nat}:nl v<=k↔v<4294967296^k:=by
 unfold nl;split
 ·subst_vars
  simp[Nat.pow_pos]
 ·rename_i a;rw[wV,<-Nat.log2_lt a];omega
theorem fo(h:a<=b):nl a<=nl b:=jt.2 (Nat.lt_of_le_of_lt h (jt.1 (af _)))
theorem H6(a b:Nat):nl (a+b)<=max (nl a) (nl b)+1:=by
 rw[jt,bM];have c:a<4294967296^(max (nl a) (nl b)):=jt.1 om;have d:b<4294967296^(max (nl a) (nl b)):=jt.1 om;generalize 4294967296^(max (nl a) (nl b))=p at *;omega
theorem Mi(a b:Nat):nl (a*b)<=nl a+nl b:=by
 rw[jt,Nat.pow_add];exact Nat.mul_lt_mul'' (jt.1 (af _)) (jt.1 (af _))
theorem AT(b:mp xs)(c:nS xs):xs.length=nl (aY xs):=by
 apply Nat.le_antisymm
 ·rcases bC xs.length with h|h
  ·omega
  ·have f:=ro c (by intro e;subst e;simp at h)
   rcases az (nl (aY xs)) xs.length with a|a
   ·have d:nl (aY xs)<=xs.length-1:=om
    have g:=jt.1 d;omega
   ·exact a
 ·exact jt.2 (iL b)
def sg(neg:Bool)(v:Nat):Int:=if neg then -(v:Int)else v
theorem fq(neg:Bool)(v:Nat):(sg neg v).natAbs=v:=by cases neg<;>simp[sg]
theorem Dw(neg:Bool)(v:Nat):sg (!neg) v=-sg neg v:=by cases neg<;>simp[sg]
theorem sn(neg:Bool):sg neg 0=0:=by cases neg<;>simp[sg]

theorem mG(a:Addr)(n:Nat):(a.add n).block=a.block:=by unfold Addr.add;split<;>rfl
def fB(w:World)(g:Nat)(t:TypeId)(cs:Array Value):Prop:=w.heap[g]? = some (.cells cs t (0,0))
section
variable {w w':World} {g:Nat} {t:TypeId} {cs:Array Value}
theorem fB.lt(h:fB w g t cs):g<w.heap.size:=by
 rcases az g w.heap.size with a|b
 ·exact a
 ·unfold fB at h;rw[Array.getElem?_eq_none b]at h;cases h
theorem fB.cell(h:fB w g t cs)(i:Nat):w.cell? ⟨g,i,none⟩=cs[i]?:=cell_of_row w g i cs t (0,0) h
theorem fB.frozen(h:fB w g t cs)(i:Nat):w.frozen? ⟨g,i,none⟩=false:=by
 unfold fB at h;simp[World.frozen?,h]
theorem fB.new(w:World)(t:TypeId)(cs:Array Value):fB (w.alloc (.cells cs t)) w.heap.size t cs:=heap_alloc_new w _
theorem fB.set_(h:fB w g t cs)(i:Nat)(u:Value):fB (w.setCell ⟨g,i,none⟩ u) g t (cs.setIfInBounds i u):=by
 unfold fB at h ⊢;simp[World.setCell,Array.getElem?_modify,h]
theorem fB.below(h:fB w g t cs)(a:Below B w w')(b:g<B):fB w' g t cs:=(a.block g b).trans h
end
def dJ(w w':World):Prop:=∃n,w'=w.drewN n
theorem dJ.refl(w:World):dJ w w:=⟨0,rfl⟩
theorem dJ.more(h:dJ w w')(n:Nat):dJ w (w'.drewN n):=by
 obtain⟨k,rfl⟩:=h;exact⟨k+n,by rw[World.drewN_drewN]⟩
theorem dJ.below(h:dJ w w')(B:Nat):Below B w w':=by
 obtain⟨k,rfl⟩:=h;exact⟨rfl,rfl,rfl,af _,fun _ _=>rfl⟩
theorem dJ.heap(h:dJ w w'):w'.heap=w.heap:=by obtain⟨k,rfl⟩:=h;rfl
theorem dJ.cell(h:dJ w w')(a:Addr):w'.cell? a=w.cell? a:=by obtain⟨k,rfl⟩:=h;rfl
def cj(w:World)(B:Nat)(A:Option Addr)(n:Nat)(xs:List Nat):Prop :=
 xs.length=n/\mp xs/\(0<n->∃ad:Addr,A=some ad/\ad.block<B/\∀j,j<n->w.cell? (ad.add j)=some (.int .u32 (xs.getD j 0)))
theorem cj.below(h:cj w B A n xs)(a:Below B' w w')(g:B<=B'):cj w' B A n xs :=
 ⟨h.1,h.2.1,fun b=>by
  obtain⟨ad,e,c,d⟩:=h.2.2 b;exact⟨ad,e,c,fun j f=>(a.cell (by rw[mG];omega)).trans (d j f)⟩⟩
theorem cj.still(h:cj w B A n xs)(a:dJ w w'):cj w' B A n xs :=
 h.below (a.below B) (af _)
theorem cj.more(h:cj w B A n xs)(c:B<=B'):cj w B' A n xs :=
 ⟨h.1,h.2.1,fun a=>by
  obtain⟨ad,e,d,b⟩:=h.2.2 a;exact⟨ad,e,om,b⟩⟩
theorem cj.at_(h:cj w B A n xs){k:Nat}(a:k<n) :
  ∃(ad:Addr) (x:Nat),A=some ad/\ad.block<B/\xs.getD k 0=x/\x<4294967296/\w.cell? (ad.add k)=some (.int .u32 x):=by
 obtain⟨ad,e,b,c⟩:=h.2.2 om;exact⟨ad,_,e,b,rfl,h.2.1.getD k,c k a⟩
theorem cj.take(h:cj w B A n xs){k:Nat}(d:k<=n):cj w B A k (xs.take k) :=
 ⟨by rw[eI,h.1];omega,h.2.1.take k,fun f=>by
  obtain⟨ad,e,a,b⟩:=h.2.2 om;exact⟨ad,e,a,fun j c=>by rw[b j om];simp[cK,c]⟩⟩
def df(zs:List Nat)(r:Nat):Array Value:=((zs++bV r 0).map (fun x:Nat=>c8 .u32 x)).toArray
theorem lK(zs:List Nat)(r k:Nat)(h:k<zs.length+r):(df zs r)[k]? = some (.int .u32 ((zs++bV r 0).getD k 0)):=by
 have a:k<(zs++bV r 0).length:=by simpa using h
 simp only[df,fG,List.getElem?_map,bD a,Option.map_some,cK,iJ]
theorem yK(zs:List Nat)(r x:Nat):(df zs (r+1)).setIfInBounds zs.length (.int .u32 x)=df (zs++[x]) r:=by
 simp[df,List.replicate_succ]
theorem yM(r:Nat):df [] r=Array.replicate r (.int .u32 0):=by simp[df]
theorem cj.ofBlk(h:fB w g 136 (df zs r))(a:mp zs){B:Nat}(b:g<B)(c:r=0):cj w B (some ⟨g,0,none⟩) zs.length zs :=
 ⟨rfl,a,fun _=>⟨_,rfl,b,fun j e=>by
  subst c;have d:(⟨g,0,none⟩:Addr).add j=⟨g,j,none⟩:=by unfold Addr.add;split<;>simp_all
  rw[d,h.cell,lK _ _ _ om];simp⟩⟩
theorem AP(n:Nat)(b:n<=1073741824)(w:World) :
  (Instr.makeSlice 48 (.int .i64 n) (.int .i64 n)).run ah w=.ok (.slice (some ⟨w.heap.size,0,none⟩) n n) (w.alloc (.cells (df [] n) 136)):=by
 have h:=run_make (P:=ah) w 48 136 Tryz.t136 (.int .u32 0) underlying48 kr kr .i64 .i64 (n:Int) (n:Int) om om (by show(4:Int)*(n:Int)<=_;omega) om
 have a:Tryz.t136.size=1:=by kernel_rfl
 have e:madeCells (c8 .u32 0).cells ((n:Int).toNat*Tryz.t136.size)=df [] n:=by
  rw[a,Nat.mul_one,eN,yM];apply Array.ext
  ·simp[madeCells]
  ·intro i c d;simp[madeCells,Value.cells,Nat.mod_one]
 rw[e,eN]at h;exact h

def pe(w:World)(v:Nat)(e:Ending)(w':World):Prop :=
 ∃(A:Option Addr) (n c:Nat) (zs:List Nat),e=.returned (.slice A n c)/\n<=c/\cj w' w'.heap.size A n zs/\nS zs/\aY zs=v/\Below w.heap.size w w'
theorem sc(h:0<k->xs.getD (k-1) 0≠0)(d:k<=xs.length):nS (xs.take k):=by
 intro x a;rcases bC k with b|b
 ·subst b;simp at a
 ·have c:=h b;rw[List.getLast?_eq_getElem?,eI,it d,List.getElem?_take_of_lt om]at a;simp only[cK,a,iJ]at c;exact c
theorem jW(A:Option Addr)(n c B:Nat)(xs:List Nat)(w:World)(hn:n<=c)(hm:n<=9223372036854775807)(h:cj w B A n xs) :
  Calls ah 136 #[.slice A n c] w fun e w'=>(∃k,k<=n/\e=.returned (.slice A k c)/\cj w B A k (xs.take k)/\nS (xs.take k)/\aY (xs.take k)=aY xs)/\w=w':=by
 have HH:=ab h;clear h
 go_enter func136,ntmps136
 go_wp2
 go_loop [0] (fun s=>∃k:Nat,k<=n/\s=.slice A k c/\Hid (∀j,k<=j->xs.getD j 0=0)) (fun s=>match s with|.slice _ k _=>k|_=>0)
 case atStart=>exact⟨n,af _,rfl,ab (fun j hj=>by simp[cK,ee (show xs.length<=j by rw[HH.out.1];exact hj)])⟩
 case round =>
  obtain⟨k,hk,rfl,hz⟩:=hrel;by_cases h0:k=0
  ·subst h0;go_wp2;go_ret;exact⟨⟨0,om,rfl,HH.out.take om,sc (fun h=>absurd h om) om,(mz 0 xs hz.out).symm⟩,rfl⟩
  ·obtain⟨m,rfl⟩:∃m,k=m+1:=⟨k-1,om⟩
   obtain⟨ad,x,rfl,_,hx',_,hx⟩:=HH.out.at_ (k:=m) om;have HX:=ab hx';clear hx';by_cases hx0:x=0
   ·subst hx0;go_wp2;refine⟨⟨m,om,rfl,ab fun j hj=>?_⟩,sm⟩
    rcases az m j with h|h
    ·exact hz.out j h
    ·obtain rfl:j=m:=om
     exact HX.out
   ·have hb1:((x:Int)==0)=false:=by simp;omega
    go_wp2;go_ret;exact⟨⟨m+1,hk,rfl,HH.out.take hk,sc (fun _=>by rw[Nat.add_sub_cancel,HX.out];exact hx0) (by rw[HH.out.1];exact hk),(mz (m+1) xs hz.out).symm⟩,rfl⟩
def ij(w wr:World)(zs:List Nat)(r:Nat):Prop:=Below w.heap.size w wr/\fB wr w.heap.size 136 (df zs r)
theorem ij.start(w:World)(r:Nat):ij w (w.alloc (.cells (df [] r) 136)) [] r:=⟨(bq _ _).alloc (af _) _,fB.new _ _ _⟩
theorem ij.drewN(h:ij w wr zs r)(q:Nat):ij w (wr.drewN q) zs r:=⟨⟨h.1.os,h.1.tape,h.1.output,h.1.size,h.1.block⟩,h.2⟩
theorem ij.put(h:ij w wr zs (r+1))(k x:Nat)(a:k=zs.length):ij w (wr.setCell ⟨w.heap.size,k,none⟩ (.int .u32 x)) (zs++[x]) r:=by
 subst a;refine⟨h.1.setCell (af _) _,?_⟩;have:=h.2.set_ zs.length (.int .u32 x)
 rwa [yK]at this
theorem ij.old(h:ij w wr zs r)(a:k<zs.length+r):∃u,wr.cell? ⟨w.heap.size,k,none⟩=some u/\wr.frozen? ⟨w.heap.size,k,none⟩=false :=
 ⟨_,(h.2.cell k).trans (lK zs r k a),h.2.frozen k⟩
def La(xs ys zs:List Nat)(k car:Nat):Prop:=zs.length=k/\mp zs/\aY zs+car*4294967296^k=aY (xs.take k)+aY (ys.take k)
theorem GC(A B:Option Addr)(n m c d L:Nat)(xs ys:List Nat)(w:World)(hmn:m<=n)(hn:n<=536870912)(hL:L<=w.heap.size)(hx:cj w L A n xs)(hy:cj w L B m ys) :
  Calls ah 138 #[.slice A n c,.slice B m d] w (pe w (aY xs+aY ys)):=by
 have hmk:=AP (n+1) om;rw[show((n+1:Nat):Int)=(n:Int)+1 from by omega]at hmk
 have hlt:¬(n<m):=om
 have HX:=ab hx;clear hx;have HY:=ab hy;clear hy
 go_enter func138,ntmps138
 go_wp2;clear hmk
 go_loopw [6,22] (fun cv iv wr=>∃(k car:Nat) (zs:List Nat),k<=m/\iv=.int .i64 k/\cv=.int .u64 car/\car<=1/\Hid (ij w wr zs (n+1-k))/\Hid (La xs ys zs k car)) (fun _ iv _=>m-(intOf iv).toNat)
 case atStart=>exact⟨0,0,[],om,rfl,rfl,om,ab (ij.start w (n+1)),ab ⟨rfl,by simp[mp],by simp[aY]⟩⟩
 case round =>
  obtain⟨k,car,zs,hk,rfl,rfl,hcar,HF,HS⟩:=hrel;by_cases hkm:k<m
  ·obtain⟨ad,x,rfl,hab,hxx,hx4,h1⟩:=(HX.out.below HF.out.1 hL).at_ (k:=k) om;obtain⟨bd,y,rfl,hbb,hyy,hy4,h2⟩:=(HY.out.below HF.out.1 hL).at_ (k:=k) om;obtain⟨u,hu,hf⟩:=HF.out.old (k:=k) (by have:=HS.out.1;omega)
   have HXX:=ab hxx;clear hxx;have HYY:=ab hyy;clear hyy;have hkn:(k:Int)<n:=om
   have hkm':(k:Int)<m:=om
   have hk0:(0:Int)<=k:=om
   go_wp2
   go_quiet (fail)
   go_wp2
   go_roundw
   case rel =>
    exact⟨k+1,(car+(x+y))/4294967296,zs++[(car+(x+y))%4294967296],om,by go_num,by go_num,om,
     ab (by
      have h3:n+1-k=(n+1-(k+1))+1:=om
      have h4:=HF.out;rw[h3]at h4;have h5:=(h4.drewN nq).put k ((car+(x+y))%4294967296) HS.out.1.symm;exact h5),
     ab (by
      obtain⟨s1,s2,s3⟩:=HS.out;refine⟨by simp[s1],s2.snoc om,?_⟩
      rw[gP,s1,dF _ _ (by rw[HX.out.1];omega),dF _ _ (by rw[HY.out.1];omega),HXX.out,HYY.out,bM]
      exact qk s3)⟩
   case measure=>simp[intOf];omega
  ·obtain rfl:k=m:=om
   go_wp2
   go_loopw [6,51] (fun cv iv wr=>∃(i car:Nat) (zs:List Nat),i<=n-k/\iv=.int .i64 i/\cv=.int .u64 car/\car<=1/\Hid (ij w wr zs (n+1-(k+i)))/\Hid (La xs ys zs (k+i) car)) (fun _ iv _=>n-k-(intOf iv).toNat)
   case atStart=>exact⟨0,car,zs,om,rfl,rfl,hcar,HF,HS⟩
   case round =>
    clear HF HS hcar;obtain⟨i,car,zs,hi,rfl,rfl,hcar,HF,HS⟩:=hrel;by_cases hin:i<n-k
    ·obtain⟨ad,x,rfl,hab,hxx,hx4,h1⟩:=(HX.out.below HF.out.1 hL).at_ (k:=k+i) om;obtain⟨u,hu,hf⟩:=HF.out.old (k:=k+i) (by have:=HS.out.1;omega)
     have HXX:=ab hxx;clear hxx;have hkn:(k:Int)+i<n:=om
     have hkn1:(k:Int)+i<n+1:=om
     have hk0:(0:Int)<=(k:Int)+i:=om
     have hti:((k:Int)+i).toNat=k+i:=om
     have hlt2:(i:Int)<(n:Int)-k:=om
     go_wp2
     go_roundw
     case rel =>
      exact⟨i+1,(car+x)/4294967296,zs++[(car+x)%4294967296],om,by go_num,by go_num,om,
       ab (by
        have h3:n+1-(k+i)=(n+1-(k+(i+1)))+1:=om
        have h4:=HF.out;rw[h3]at h4;have h5:=h4.put (k+i) ((car+x)%4294967296) HS.out.1.symm;exact h5),
       ab (by
        obtain⟨s1,s2,s3⟩:=HS.out;refine⟨by simp[s1];omega,s2.snoc om,?_⟩
        have hyt:∀r,k<=r->ys.take r=ys:=fun r hr=>bJ (by rw[HY.out.1];exact hr)
        rw[hyt _ om]at s3 ⊢;rw[gP,s1,show k+(i+1)=k+i+1 from by omega,dF _ _ (by rw[HX.out.1];omega),HXX.out,bM]
        have:=qk (p:=4294967296^(k+i)) (x:=x) (y:=0) s3;simpa using this)⟩
     case measure=>simp[intOf];omega
    ·obtain rfl:i=n-k:=om
     have hkn:k+(n-k)=n:=om
     obtain⟨u,hu,hf⟩:=HF.out.old (k:=n) (by have:=HS.out.1;omega)
     have hge:¬(((n-k:Nat):Int)<(n:Int)-k):=om
     go_wp2_with fail
     have h4:=HF.out;rw[show n+1-(k+(n-k))=0+1 from by omega]at h4
     have hl:zs.length=n:=by rw[HS.out.1,hkn]
     have h5:=h4.put n car hl.symm;have hlim:mp (zs++[car]):=HS.out.2.1.snoc om;have hU:=cj.ofBlk h5.2 hlim h5.2.lt rfl;rw[show(zs++[car]).length=n+1 from by simp[hl]]at hU
     have hB5:=h5.1;have hv:aY (zs++[car])=aY xs+aY ys:=by
      obtain⟨s1,s2,s3⟩:=HS.out;rw[gP,hl,av];rw[hkn,bJ (by rw[HX.out.1];exact af _),bJ (by rw[HY.out.1];exact hmn)]at s3
      exact s3
     clear h4 h5 HF HS hu hf;have HU:=ab hU;clear hU;have HV:=ab hv;clear hv;have HB:=ab hB5;clear hB5;refine(jW _ _ _ _ _ _ (af _) om HU.out).mono ?_;rintro e w' ⟨⟨r,hr,rfl,hU2,hT,hv2⟩,rfl⟩;have HU2:=ab hU2;clear hU2;have HV2:=ab hv2;clear hv2;go_wp2;go_ret;exact⟨_,_,_,_,rfl,hr,HU2.out,hT,HV2.out.trans HV.out,HB.out⟩
theorem GB(A B:Option Addr)(n m c d L:Nat)(xs ys:List Nat)(w:World)(hmn:m<n)(hn:n<=536870912)(hL:L<=w.heap.size)(hx:cj w L A n xs)(hy:cj w L B m ys) :
  Calls ah 138 #[.slice B m d,.slice A n c] w (pe w (aY ys+aY xs)):=by
 have hmk:=AP (n+1) om;rw[show((n+1:Nat):Int)=(n:Int)+1 from by omega]at hmk
 have hlt:m<n:=hmn;have HX:=ab hx;clear hx;have HY:=ab hy;clear hy
 go_enter func138,ntmps138
 go_wp2;clear hmk
 go_loopw [6,22] (fun cv iv wr=>∃(k car:Nat) (zs:List Nat),k<=m/\iv=.int .i64 k/\cv=.int .u64 car/\car<=1/\Hid (ij w wr zs (n+1-k))/\Hid (La xs ys zs k car)) (fun _ iv _=>m-(intOf iv).toNat)
 case atStart=>exact⟨0,0,[],om,rfl,rfl,om,ab (ij.start w (n+1)),ab ⟨rfl,by simp[mp],by simp[aY]⟩⟩
 case round =>
  obtain⟨k,car,zs,hk,rfl,rfl,hcar,HF,HS⟩:=hrel;by_cases hkm:k<m
  ·obtain⟨ad,x,rfl,hab,hxx,hx4,h1⟩:=(HX.out.below HF.out.1 hL).at_ (k:=k) om;obtain⟨bd,y,rfl,hbb,hyy,hy4,h2⟩:=(HY.out.below HF.out.1 hL).at_ (k:=k) om;obtain⟨u,hu,hf⟩:=HF.out.old (k:=k) (by have:=HS.out.1;omega)
   have HXX:=ab hxx;clear hxx;have HYY:=ab hyy;clear hyy;have hkn:(k:Int)<n:=om
   have hkm':(k:Int)<m:=om
   have hk0:(0:Int)<=k:=om
   go_wp2
   go_quiet (fail)
   go_wp2
   go_roundw
   case rel =>
    exact⟨k+1,(car+(x+y))/4294967296,zs++[(car+(x+y))%4294967296],om,by go_num,by go_num,om,
     ab (by
      have h3:n+1-k=(n+1-(k+1))+1:=om
      have h4:=HF.out;rw[h3]at h4;have h5:=(h4.drewN nq).put k ((car+(x+y))%4294967296) HS.out.1.symm;exact h5),
     ab (by
      obtain⟨s1,s2,s3⟩:=HS.out;refine⟨by simp[s1],s2.snoc om,?_⟩
      rw[gP,s1,dF _ _ (by rw[HX.out.1];omega),dF _ _ (by rw[HY.out.1];omega),HXX.out,HYY.out,bM]
      exact qk s3)⟩
   case measure=>simp[intOf];omega
  ·obtain rfl:k=m:=om
   go_wp2
   go_loopw [6,51] (fun cv iv wr=>∃(i car:Nat) (zs:List Nat),i<=n-k/\iv=.int .i64 i/\cv=.int .u64 car/\car<=1/\Hid (ij w wr zs (n+1-(k+i)))/\Hid (La xs ys zs (k+i) car)) (fun _ iv _=>n-k-(intOf iv).toNat)
   case atStart=>exact⟨0,car,zs,om,rfl,rfl,hcar,HF,HS⟩
   case round =>
    clear HF HS hcar;obtain⟨i,car,zs,hi,rfl,rfl,hcar,HF,HS⟩:=hrel;by_cases hin:i<n-k
    ·obtain⟨ad,x,rfl,hab,hxx,hx4,h1⟩:=(HX.out.below HF.out.1 hL).at_ (k:=k+i) om;obtain⟨u,hu,hf⟩:=HF.out.old (k:=k+i) (by have:=HS.out.1;omega)
     have HXX:=ab hxx;clear hxx;have hkn:(k:Int)+i<n:=om
     have hkn1:(k:Int)+i<n+1:=om
     have hk0:(0:Int)<=(k:Int)+i:=om
     have hti:((k:Int)+i).toNat=k+i:=om
     have hlt2:(i:Int)<(n:Int)-k:=om
     go_wp2
     go_roundw
     case rel =>
      exact⟨i+1,(car+x)/4294967296,zs++[(car+x)%4294967296],om,by go_num,by go_num,om,
       ab (by
        have h3:n+1-(k+i)=(n+1-(k+(i+1)))+1:=om
        have h4:=HF.out;rw[h3]at h4;have h5:=h4.put (k+i) ((car+x)%4294967296) HS.out.1.symm;exact h5),
       ab (by
        obtain⟨s1,s2,s3⟩:=HS.out;refine⟨by simp[s1];omega,s2.snoc om,?_⟩
        have hyt:∀r,k<=r->ys.take r=ys:=fun r hr=>bJ (by rw[HY.out.1];exact hr)
        rw[hyt _ om]at s3 ⊢;rw[gP,s1,show k+(i+1)=k+i+1 from by omega,dF _ _ (by rw[HX.out.1];omega),HXX.out,bM]
        have:=qk (p:=4294967296^(k+i)) (x:=x) (y:=0) s3;simpa using this)⟩
     case measure=>simp[intOf];omega
    ·obtain rfl:i=n-k:=om
     have hkn:k+(n-k)=n:=om
     obtain⟨u,hu,hf⟩:=HF.out.old (k:=n) (by have:=HS.out.1;omega)
     have hge:¬(((n-k:Nat):Int)<(n:Int)-k):=om
     go_wp2_with fail
     have h4:=HF.out;rw[show n+1-(k+(n-k))=0+1 from by omega]at h4
     have hl:zs.length=n:=by rw[HS.out.1,hkn]
     have h5:=h4.put n car hl.symm;have hlim:mp (zs++[car]):=HS.out.2.1.snoc om;have hU:=cj.ofBlk h5.2 hlim h5.2.lt rfl;rw[show(zs++[car]).length=n+1 from by simp[hl]]at hU
     have hB5:=h5.1;have hv:aY (zs++[car])=aY xs+aY ys:=by
      obtain⟨s1,s2,s3⟩:=HS.out;rw[gP,hl,av];rw[hkn,bJ (by rw[HX.out.1];exact af _),bJ (by rw[HY.out.1];exact cX hmn)]at s3
      exact s3
     clear h4 h5 HF HS hu hf;have HU:=ab hU;clear hU;have HV:=ab hv;clear hv;have HB:=ab hB5;clear hB5;refine(jW _ _ _ _ _ _ (af _) om HU.out).mono ?_;rintro e w' ⟨⟨r,hr,rfl,hU2,hT,hv2⟩,rfl⟩;have HU2:=ab hU2;clear hU2;have HV2:=ab hv2;clear hv2;go_wp2;go_ret;exact⟨_,_,_,_,rfl,hr,HU2.out,hT,(HV2.out.trans HV.out).trans (k9 _ _),HB.out⟩
theorem xW(A B:Option Addr)(n m c d L:Nat)(xs ys:List Nat)(w:World)(f:n<=536870912)(g:m<=536870912)(a:L<=w.heap.size)(b:cj w L A n xs)(e:cj w L B m ys) :
  Calls ah 138 #[.slice A n c,.slice B m d] w (pe w (aY xs+aY ys)):=by
 rcases az n m with h|h
 ·exact GB B A m n d c L ys xs w h g a e b
 ·exact GC A B n m c d L xs ys w h f a b e

theorem qO(h:i<xs.length):xs.drop i=xs.getD i 0::xs.drop (i+1):=by
 rw[List.drop_eq_getElem_cons h];simp[cK,bD h]
theorem gD(A B:Option Addr)(n m c d L:Nat)(xs ys:List Nat)(w:World)(hn:n<=9223372036854775807)(hm:m<=9223372036854775807)(hx:cj w L A n xs)(hy:cj w L B m ys)(tx:nS xs)(ty:nS ys) :
  Calls ah 195 #[.slice A n c,.slice B m d] w fun e w'=>e=.returned (.int .i64 (kt (aY xs) (aY ys)))/\dJ w w':=by
 have HX:=ab hx;clear hx;have HY:=ab hy;clear hy;have TX:=ab tx;clear tx;have TY:=ab ty;clear ty;by_cases h1:n<m
 ·have hr:=ab (kL (oO HX.out.2.1 TY.out (by rw[HX.out.1,HY.out.1];exact h1)))
  go_enter func195,ntmps195
  go_wp2;go_ret;exact⟨by rw[hr.out];rfl,dJ.refl _⟩
 by_cases h2:m<n
 ·have hr:=ab (jO (oO HY.out.2.1 TX.out (by rw[HX.out.1,HY.out.1];exact h2)))
  go_enter func195,ntmps195
  go_wp2;go_ret;exact⟨by rw[hr.out];rfl,dJ.refl _⟩
 obtain rfl:n=m:=om
 go_enter func195,ntmps195
 go_wp2
 go_loopw [5] (fun iv wr=>∃(k:Nat),k<=n/\iv=.int .i64 ((k:Int)-1)/\Hid (dJ w wr)/\Hid (xs.drop k=ys.drop k)) (fun iv _=>(intOf iv+1).toNat)
 case atStart=>exact⟨n,om,rfl,ab (dJ.refl w),ab (by rw[gF (by rw[HX.out.1];omega),gF (by rw[HY.out.1];omega)])⟩
 case round =>
  obtain⟨k,hk,rfl,HQ,HD⟩:=hrel;by_cases h0:k=0
  ·subst h0;have hr:=ab (kM (show aY xs=aY ys by have:=HD.out;simp only[List.drop_zero]at this;rw[this]))
   go_wp2;go_ret;exact⟨by rw[hr.out];rfl,HQ.out⟩
  ·obtain⟨i,rfl⟩:∃i,k=i+1:=⟨k-1,om⟩
   obtain⟨ad,x,rfl,_,hxx,hx4,h3⟩:=(HX.out.still HQ.out).at_ (k:=i) om;obtain⟨bd,y,rfl,_,hyy,hy4,h4⟩:=(HY.out.still HQ.out).at_ (k:=i) om;have HXX:=ab hxx;clear hxx;have HYY:=ab hyy;clear hyy;have e1:((i+1:Nat):Int)-1=(i:Int):=om
   rw[e1];clear e1;have hi0:(0:Int)<=i:=om
   have hin:(i:Int)<n:=om
   rcases Nat.lt_trichotomy x y with hlt|heq|hgt
   ·have hr:=ab (kL (qC HX.out.2.1 (i:=i) (by rw[HX.out.1];omega) (by rw[HX.out.1,HY.out.1]) HD.out (by rw[HXX.out,HYY.out];exact hlt)))
    go_wp2
    go_quiet (fail)
    go_wp2;go_ret;exact⟨by rw[hr.out];rfl,by repeat' (first|exact HQ.out|apply dJ.more)⟩
   ·subst heq;go_wp2
    go_quiet (fail)
    go_wp2
    go_quiet (fail)
    go_wp2
    go_roundw
    case rel=>exact⟨i,om,rfl,ab (by repeat' (first|exact HQ.out|apply dJ.more)),ab (by rw[qO (by rw[HX.out.1];omega),qO (xs:=ys) (by rw[HY.out.1];omega),HXX.out,HYY.out,HD.out])⟩
    case measure=>simp[intOf]
   ·have hr:=ab (jO (qC HY.out.2.1 (i:=i) (by rw[HY.out.1];omega) (by rw[HX.out.1,HY.out.1]) HD.out.symm (by rw[HXX.out,HYY.out];exact hgt)))
    go_wp2
    go_quiet (fail)
    go_wp2
    go_quiet (fail)
    go_wp2;go_ret;exact⟨by rw[hr.out];rfl,by repeat' (first|exact HQ.out|apply dJ.more)⟩

theorem DI(c:a<4294967296):a ||| x*4294967296=a+x*4294967296:=by
 have h:=Nat.shiftLeft_add_eq_or_of_lt (i:=32) (b:=a) (by simpa using c) x
 rw[Nat.shiftLeft_eq]at h;rw[Nat.or_comm,<-h,k9]
theorem ww(b:a<4294967296)(c:x<4294967296):bits .or .u64 (a:Int) ((x:Int)*4294967296)=((a+x*4294967296:Nat):Int):=by
 have h:=u64_or_nat a (x*4294967296) om om;rw[DI b]at h;rw[<-h];rfl
theorem nY(A:Option Addr)(n c L:Nat)(xs:List Nat)(w:World)(hn:n<=2)(hx:cj w L A n xs) :
  Calls ah 141 #[.slice A n c] w fun e w'=>e=.returned (.int .u64 (aY xs))/\w=w':=by
 have HX:=ab hx;clear hx
 go_enter func141,ntmps141
 go_wp2
 go_loop [3,8] (fun v i=>∃k:Nat,k<=n/\i=.int .i64 k/\v=.int .u64 (aY (xs.take k))) (fun _ i=>n-(intOf i).toNat)
 case atStart=>exact⟨0,Nat.zero_le _,rfl,by simp[aY]⟩
 case round =>
  obtain⟨k,hk,rfl,rfl⟩:=hrel;by_cases hkn:k<n
  ·obtain⟨ad,x,rfl,_,hxx,hx4,h1⟩:=HX.out.at_ hkn;have HXX:=ab hxx;clear hxx;have hv:=iL (HX.out.2.1.take k);have hk2:k=0∨k=1:=om
   rcases hk2 with rfl|rfl
   ·simp only[Addr.add,if_pos]at h1;go_wp2;refine⟨⟨1,om,rfl,?_⟩,by simp[intOf];omega⟩
    have hx1:xs.take 1=[x]:=by
     rw[List.take_succ_eq_append_getElem (by rw[HX.out.1];omega)]
     have:=HXX.out;simp only[cK,bD (show 0<xs.length by rw[HX.out.1];omega),iJ]at this
     simp[this]
    rw[hx1];have h5:=u64_or_nat 0 x om om;simp only[Nat.zero_or]at h5;simpa [aY]using h5
   ·simp only[Addr.add,Nat.one_ne_zero,if_false]at h1;go_wp2;refine⟨⟨2,om,rfl,?_⟩,by simp[intOf];omega⟩
    rw[dF xs 1 (by rw[HX.out.1];omega),HXX.out]
    simp only[eI]at hv;rw[ww (Nat.lt_of_lt_of_le hv (by
     rw[HX.out.1,it om];omega)) hx4,Nat.pow_one,av x]
  ·obtain rfl:k=n:=om
   go_wp2;go_ret;exact⟨by rw[bJ (by rw[HX.out.1];exact af _)];rfl,rfl⟩
theorem jM(v:Nat)(w:World)(hv:v<18446744073709551616) :
  Calls ah 135 #[.int .u64 v] w (pe w v):=by
 go_enter func135,ntmps135
 go_wp2_with fail
 have hl:mp [v%4294967296,v/4294967296]:=by
  intro x hx;simp only[List.mem_cons,List.not_mem_nil,or_false]at hx;rcases hx with rfl|rfl<;>omega
 have hb:fB (w.alloc (Obj.cells #[c8 IntKind.u32 ((v:Int)%4294967296),c8 IntKind.u32 ((v:Int)/4294967296)] 136)) w.heap.size 136 (df [v%4294967296,v/4294967296] 0):=by
  have:=fB.new w 136 #[c8 IntKind.u32 ((v:Int)%4294967296),c8 IntKind.u32 ((v:Int)/4294967296)];simpa [df]using this
 have hU:=cj.ofBlk hb hl hb.lt rfl;have HB:=ab ((bq w.heap.size w).alloc (af _) (Obj.cells #[c8 IntKind.u32 ((v:Int)%4294967296),c8 IntKind.u32 ((v:Int)/4294967296)] 136));clear hb;have HU:=ab hU;clear hU;refine(jW _ _ _ _ _ _ (af _) sm HU.out).mono ?_
 rintro e w' ⟨⟨r,hr,rfl,hU2,hT,hv2⟩,rfl⟩;have HU2:=ab hU2;clear hU2;have HV2:=ab hv2;clear hv2;go_wp2;go_ret;exact⟨_,_,_,_,rfl,hr,HU2.out,hT,HV2.out.trans (by simp[aY];omega),HB.out⟩

def Diff1(xs ys zs:List Nat)(k bo:Nat):Prop:=zs.length=k/\mp zs/\aY zs+aY (ys.take k)=aY (xs.take k)+bo*4294967296^k
theorem zj(x bo y:Nat)(a:x<4294967296)(b:bo<=1)(c:y<4294967296) :
  IntKind.u64.wrap (IntKind.u64.wrap ((x:Int)-bo)-y)=((x+18446744073709551616-bo-y)%18446744073709551616:Nat):=by
 rw[IntKind.wrap_u64,IntKind.wrap_u64];omega
theorem zk(x bo:Nat)(a:x<4294967296)(b:bo<=1) :
  IntKind.u64.wrap ((x:Int)-bo)=((x+18446744073709551616-bo-0)%18446744073709551616:Nat):=by
 rw[IntKind.wrap_u64];omega
theorem DT{t:Nat}:((t%18446744073709551616:Nat):Int)%4294967296=((t%4294967296:Nat):Int):=om
theorem AY{t:Nat}:((t%18446744073709551616:Nat):Int)/9223372036854775808=((t%18446744073709551616/9223372036854775808:Nat):Int):=om
theorem oQ(A B:Option Addr)(n m c d L:Nat)(xs ys:List Nat)(w:World)(hmn:m<=n)(hn:n<=536870912)(hL:L<=w.heap.size)(hx:cj w L A n xs)(hy:cj w L B m ys)(hle:aY ys<=aY xs) :
  Calls ah 139 #[.slice A n c,.slice B m d] w (pe w (aY xs-aY ys)):=by
 have hmk:=AP n om;have HLE:=ab hle;clear hle;have HX:=ab hx;clear hx;have HY:=ab hy;clear hy
 go_enter func139,ntmps139
 go_wp2;clear hmk
 go_loopw [6,14] (fun cv iv wr=>∃(k bo:Nat) (zs:List Nat),k<=n/\iv=.int .i64 k/\cv=.int .u64 bo/\bo<=1/\Hid (ij w wr zs (n-k))/\Hid (Diff1 xs ys zs k bo)) (fun _ iv _=>n-(intOf iv).toNat)
 case atStart=>exact⟨0,0,[],om,rfl,rfl,om,ab (ij.start w n),ab ⟨rfl,by simp[mp],by simp[aY]⟩⟩
 case round =>
  obtain⟨k,bo,zs,hk,rfl,rfl,hbo,HF,HS⟩:=hrel;by_cases hkn:k<n
  ·obtain⟨ad,x,rfl,hab,hxx,hx4,h1⟩:=(HX.out.below HF.out.1 hL).at_ (k:=k) om;obtain⟨u,hu,hf⟩:=HF.out.old (k:=k) (by have:=HS.out.1;omega)
   have HXX:=ab hxx;clear hxx;have hkn':(k:Int)<n:=om
   have hk0:(0:Int)<=k:=om
   by_cases hkm:k<m
   ·obtain⟨bd,y,rfl,hbb,hyy,hy4,h2⟩:=(HY.out.below HF.out.1 hL).at_ (k:=k) om;have HYY:=ab hyy;clear hyy;have hkm':(k:Int)<m:=om
    go_wp2
    go_roundw
    case rel =>
     obtain⟨s1,s2,s3⟩:=HS.out;obtain⟨z,b,hz,hb,z4,b1,hs⟩:=B5 s3 hbo hx4 hy4;refine⟨k+1,b,zs++[z],om,by go_num,?_,b1,ab ?_,ab ⟨by simp[s1],s2.snoc z4,?_⟩⟩
     ·rw[zj x bo y hx4 hbo hy4,AY,hb]
     ·have h3:n-k=(n-(k+1))+1:=om
      have h4:=HF.out;rw[h3]at h4;rw[zj x bo y hx4 hbo hy4,DT,<-hz];exact h4.put k z s1.symm
     ·rw[gP,s1,dF xs _ (by rw[HX.out.1];omega),dF ys _ (by rw[HY.out.1];omega),HXX.out,HYY.out,bM]
      exact hs
    case measure=>simp[intOf];omega
   ·go_wp2
    go_roundw
    case rel =>
     obtain⟨s1,s2,s3⟩:=HS.out;obtain⟨z,b,hz,hb,z4,b1,hs⟩:=B5 (y:=0) s3 hbo hx4 om;refine⟨k+1,b,zs++[z],om,by go_num,?_,b1,ab ?_,ab ⟨by simp[s1],s2.snoc z4,?_⟩⟩
     ·rw[zk x bo hx4 hbo,AY,hb]
     ·have h3:n-k=(n-(k+1))+1:=om
      have h4:=HF.out;rw[h3]at h4;rw[zk x bo hx4 hbo,DT,<-hz];exact h4.put k z s1.symm
     ·have hyt:∀r,m<=r->ys.take r=ys:=fun r hr=>bJ (by rw[HY.out.1];exact hr)
      rw[hyt _ om]at hs ⊢;rw[gP,s1,dF _ _ (by rw[HX.out.1];omega),HXX.out,bM]
      simpa using hs
    case measure=>simp[intOf];omega
  ·obtain rfl:k=n:=om
   go_wp2_with fail
   obtain⟨s1,s2,s3⟩:=HS.out;have h5:=HF.out;rw[Nat.sub_self]at h5;have hU:=cj.ofBlk h5.2 s2 h5.2.lt rfl;rw[s1]at hU;have hv:aY zs=aY xs-aY ys:=by
    rw[bJ (l:=xs) (by rw[HX.out.1];exact af _),bJ (l:=ys) (by rw[HY.out.1];exact hmn)]at s3
    have h6:=HLE.out;have h7:=iL s2;rw[s1]at h7;rcases bC bo with h0|h0
    ·subst h0;omega
    ·obtain rfl:bo=1:=om
     omega
   have HB:=ab h5.1;clear h5 HF HS s1 s2 s3;have HU:=ab hU;clear hU;have HV:=ab hv;clear hv;refine(jW _ _ _ _ _ _ (af _) om HU.out).mono ?_;rintro e w' ⟨⟨r,hr,rfl,hU2,hT,hv2⟩,rfl⟩;have HU2:=ab hU2;clear hU2;have HV2:=ab hv2;clear hv2;go_wp2;go_ret;exact⟨_,_,_,_,rfl,hr,HU2.out,hT,HV2.out.trans HV.out,HB.out⟩

def ed(w:World)(B:Nat)(v:Value)(z:Int):Prop :=
 ∃(neg:Bool) (A:Option Addr) (n c:Nat) (xs:List Nat),v=.agg #[.bool neg,.slice A n c]/\n<=c/\cj w B A n xs/\nS xs/\z=sg neg (aY xs)
theorem ed.below(h:ed w B v z)(a:Below B' w w')(b:B<=B'):ed w' B v z:=by
 obtain⟨neg,A,n,c,xs,d,e,f,g,i⟩:=h;exact⟨neg,A,n,c,xs,d,e,f.below a b,g,i⟩
theorem ed.more(h:ed w B v z)(a:B<=B'):ed w B' v z:=by
 obtain⟨neg,A,n,c,xs,b,d,e,f,g⟩:=h;exact⟨neg,A,n,c,xs,b,d,e.more a,f,g⟩
def DM:Value->Prop
 | .int _ _=>False
 | _=>True
theorem cj.put(h:cj w B A n xs)(c:fB w g t cs)(d:∀(j:Nat) (x:Value),cs[j]? = some x->DM x) :
  cj (w.setCell ⟨g,i,none⟩ u) B A n xs :=
 ⟨h.1,h.2.1,fun f=>by
  obtain⟨ad,e,k,l⟩:=h.2.2 f;refine⟨ad,e,k,fun j m=>?_⟩;have a:=l j m;have b:ad.block≠g:=by
   intro o;have p:w.cell? (ad.add j)=(if (ad.add j).spot.isSome then none else cs[(ad.add j).off]?):=by
    unfold World.cell?;rw[mG,o,show w.heap[g]? = _ from c]
   rw[p]at a;split at a
   ·cases a
   ·exact d _ _ a
  rw[<-a];exact World.cell?_of_block (Below.heap_setCell w _ u _ (by rw[mG];exact b))⟩
theorem ed.put(h:ed w B v z)(a:fB w g t cs)(b:∀(j:Nat) (x:Value),cs[j]? = some x->DM x) :
  ed (w.setCell ⟨g,i,none⟩ u) B v z:=by
 obtain⟨neg,A,n,c,xs,d,e,f,k,l⟩:=h;exact⟨neg,A,n,c,xs,d,e,f.put a b,k,l⟩
theorem lI(a:Bool)(A:Option Addr)(n c:Nat):∀(j:Nat) (x:Value),(#[ao a,aj A n c]:Array Value)[j]? = some x->DM x:=by
 intro j x h
 match j with
 | 0=>simp at h;subst h;trivial
 | 1=>simp at h;subst h;trivial
 | j+2=>simp at h
theorem ed.result{a:Bool}(h:ed w B (.agg #[.bool neg,.slice A n c]) z)(b:fB w g 50 #[.bool a,.slice D k d]) :
  ed ((w.setCell ⟨g,0,none⟩ (.bool neg)).setCell ⟨g,1,none⟩ (.slice A n c)) B (.agg #[.bool neg,.slice A n c]) z :=
 (h.put b (lI a D k d)).put (b.set_ 0 (.bool neg)) (by simpa using lI neg D k d)
def dh(w:World)(z:Int)(e:Ending)(w':World):Prop:=∃v,e=.returned v/\ed w' w'.heap.size v z/\Below w.heap.size w w'
theorem dh.cell{w2:World}{a:Bool}{z':Int}(f:ed w2 w2.heap.size (.agg #[.bool neg,.slice A n c]) z)(b:fB w2 g 50 #[.bool a,.slice D k d])
  (h:Below w.heap.size w w2) (e:w.heap.size<=g) (i:z=z') :
  dh w z' (.returned (.agg #[.bool neg,.slice A n c])) ((w2.setCell ⟨g,0,none⟩ (.bool neg)).setCell ⟨g,1,none⟩ (.slice A n c)) :=
 ⟨_,rfl,by subst i;simpa using ed.result f b,(h.setCell (by exact e) _).setCell (by exact e) _⟩
theorem uF(s:Bool)(a b:Nat):sg s (a+b)=sg s a+sg s b:=by cases s<;>simp[sg];omega
theorem tM(h:s1≠s2){a b:Nat}(c:b<=a):sg s1 (a-b)=sg s1 a+sg s2 b:=by
 cases s1<;>cases s2<;>simp[sg]at*<;> omega
theorem zz(h:s1≠s2){a b:Nat}(c:a<=b):sg s2 (b-a)=sg s1 a+sg s2 b:=by
 cases s1<;>cases s2<;>simp[sg]at*<;> omega
theorem aE(h:cj w B A n xs)(a:nS xs):n=nl (aY xs):=by rw[<-h.1];exact AT h.2.1 a
theorem fW(neg:Bool)(A:Option Addr)(n c B:Nat)(xs:List Nat)(w:World)(hn:n<=c)(hm:n<=9223372036854775807)(hB:B<=w.heap.size)(h:cj w B A n xs)(ht:nS xs) :
  Calls ah 134 #[.bool neg,.slice A n c] w (dh w (sg neg (aY xs))):=by
 have HX:=ab h;clear h;have HT:=ab ht;clear ht;by_cases h0:n=0
 ·subst h0
  go_enter func134,ntmps134
  go_wp2;have hx0:xs=[]:=tj.1 HX.out.1;exact bodyPost_ret (v:=.agg #[.bool false,.slice none 0 0]) (by simp[results,results134,go_sem]) rfl
   ⟨_,rfl,⟨false,none,0,0,[],rfl,af _,⟨rfl,by simp[mp],fun h=>absurd h om⟩,by intro x hx;simp at hx,by rw[hx0];simp[aY,sg]⟩,(bq _ _).alloc (af _) _⟩
 ·have h1:((n:Int)==0)=false:=by simp;omega
  go_enter func134,ntmps134
  go_wp2;have hb:=(bq w.heap.size w).alloc (af _) (Obj.cells #[ao neg,aj A n c] 50);exact bodyPost_ret (v:=.agg #[.bool neg,.slice A n c]) (by simp[results,results134,go_sem]) rfl
   ⟨_,rfl,⟨neg,A,n,c,xs,rfl,hn,(HX.out.below hb hB).more (by have:=hb.size;omega),HT.out,rfl⟩,hb⟩
theorem rk(s1 s2:Bool)(A B:Option Addr)(n m c d L:Nat)(xs ys:List Nat)(w:World)(hn:n<=536870912)(hm:m<=536870912)(hL:L<=w.heap.size)
  (hx:cj w L A n xs) (hy:cj w L B m ys) (tx:nS xs) (ty:nS ys) :
  Calls ah 194 #[.bool s1,.slice A n c,.bool s2,.slice B m d] w (dh w (sg s1 (aY xs)+sg s2 (aY ys))):=by
 have HX:=ab hx;clear hx;have HY:=ab hy;clear hy;have HTX:=ab tx;clear tx;have HTY:=ab ty;clear ty;by_cases hs:s1=s2
 ·subst hs;have hb:(s1==s1)=true:=by simp
  go_enter func194,ntmps194
  go_wp2_with fail
  have hb0:=(bq w.heap.size w).alloc (af _) (Obj.cells #[ao false,aj none 0 0] 50);refine(xW A B n m c d L xs ys _ hn hm (by simp;omega) (HX.out.below hb0 hL) (HY.out.below hb0 hL)).mono ?_
  rintro e w1 ⟨A1,k,c1,zs,rfl,hk,hU,hT,hv,hb1⟩;have hk2:k<=536870913:=by
   rw[<-hU.1,AT hU.2.1 hT,hv];have h1:=H6 (aY xs) (aY ys);rw[<-AT HX.out.2.1 HTX.out,<-AT HY.out.2.1 HTY.out,HX.out.1,HY.out.1]at h1;omega
  have HU:=ab hU;clear hU;have HV:=ab hv;clear hv;have HT:=ab hT;clear hT;have HB1:=ab hb1;clear hb1;have HB0:=ab hb0;clear hb0
  go_wp2_with fail
  refine(fW s1 A1 k c1 w1.heap.size zs w1 hk om (af _) HU.out HT.out).mono ?_;rintro e w2 ⟨v,rfl,hI,hb2⟩;obtain⟨neg,A2,n2,c2,zs2,rfl,hI2⟩:=hI;have hsz:w.heap.size+1<=w1.heap.size:=by have:=HB1.out.size;simpa using this
  have hblk:fB w2 w.heap.size 50 #[.bool false,.slice none 0 0]:=((fB.new w 50 _).below HB1.out sm).below hb2 om
  have hc0:=hblk.cell 0;have hc1:=hblk.cell 1;have hf0:=hblk.frozen 0;have hf1:=hblk.frozen 1;simp only[fG,dE,cS]at hc0 hc1;have HK:=ab hblk;clear hblk;have HI:=ab hI2;clear hI2;have HB2:=ab hb2;clear hb2;go_wp2;exact bodyPost_ret (v:=.agg #[.bool neg,.slice A2 n2 c2]) (by simp[results,results194,go_sem,hc0,hc1]) rfl
   (dh.cell ⟨neg,A2,n2,c2,zs2,rfl,HI.out⟩ HK.out ((HB0.out.trans (HB1.out.mono sm)).trans (HB2.out.mono om)) (af _) (by rw[HV.out,uF]))
 ·have hb:(s1==s2)=false:=by simpa using hs
  rcases az (aY xs) (aY ys)with hlt|hge
  ·have hcm:=kL hlt
   go_enter func194,ntmps194
   go_wp2_with fail
   have hb0:=(bq w.heap.size w).alloc (af _) (Obj.cells #[ao false,aj none 0 0] 50);have hcall:=gD A B n m c d L xs ys (w.alloc (Obj.cells #[ao false,aj none 0 0] 50)) om om (HX.out.below hb0 hL) (HY.out.below hb0 hL) HTX.out HTY.out;rw[hcm]at hcall;refine hcall.mono ?_;clear hcall hcm;rintro e w1 ⟨rfl,q,rfl⟩;have HB0:=ab (hb0.trans ((dJ.refl _).more q |>.below _));clear hb0
   go_wp2_with fail
   refine(oQ B A m n d c L ys xs _ (by have h1:=aE HX.out HTX.out;have h2:=aE HY.out HTY.out;have h3:=fo (cX hlt);omega) om (by simp;omega) (HY.out.below HB0.out hL) (HX.out.below HB0.out hL) (cX hlt)).mono ?_
   rintro e w1 ⟨A1,k,c1,zs,rfl,hk,hU,hT,hv,hb1⟩;have hk2:k<=536870913:=by
    rw[aE hU hT,hv];have h1:=aE HX.out HTX.out;have h2:=aE HY.out HTY.out;have h3:nl (aY xs-aY ys)<=nl (aY xs):=fo om;have h4:nl (aY ys-aY xs)<=nl (aY ys):=fo om;omega
   have HU:=ab hU;clear hU;have HV:=ab hv;clear hv;have HT:=ab hT;clear hT;have HB1:=ab hb1;clear hb1
   go_wp2_with fail
   refine(fW s2 A1 k c1 w1.heap.size zs w1 hk om (af _) HU.out HT.out).mono ?_;rintro e w2 ⟨v,rfl,hI,hb2⟩;obtain⟨neg,A2,n2,c2,zs2,rfl,hI2⟩:=hI;have hsz:w.heap.size+1<=w1.heap.size:=by have:=HB1.out.size;simpa using this
   have hblk:fB w2 w.heap.size 50 #[.bool false,.slice none 0 0]:=(fB.below (w:=(w.alloc (Obj.cells #[ao false,aj none 0 0] 50)).drewN q) (fB.new w 50 _) HB1.out sm).below hb2 om
   have hc0:=hblk.cell 0;have hc1:=hblk.cell 1;have hf0:=hblk.frozen 0;have hf1:=hblk.frozen 1;simp only[fG,dE,cS]at hc0 hc1;have HK:=ab hblk;clear hblk;have HI:=ab hI2;clear hI2;have HB2:=ab hb2;clear hb2;go_wp2;exact bodyPost_ret (v:=.agg #[.bool neg,.slice A2 n2 c2]) (by simp[results,results194,go_sem,hc0,hc1]) rfl
    (dh.cell ⟨neg,A2,n2,c2,zs2,rfl,HI.out⟩ HK.out ((HB0.out.trans (HB1.out.mono sm)).trans (HB2.out.mono om)) (af _) (by rw[HV.out,zz hs (cX hlt)]))
  ·rcases az (aY ys) (aY xs)with hgt|hle
   ·have hcm:=jO hgt
    go_enter func194,ntmps194
    go_wp2_with fail
    have hb0:=(bq w.heap.size w).alloc (af _) (Obj.cells #[ao false,aj none 0 0] 50);have hcall:=gD A B n m c d L xs ys (w.alloc (Obj.cells #[ao false,aj none 0 0] 50)) om om (HX.out.below hb0 hL) (HY.out.below hb0 hL) HTX.out HTY.out;rw[hcm]at hcall;refine hcall.mono ?_;clear hcall hcm;rintro e w1 ⟨rfl,q,rfl⟩;have HB0:=ab (hb0.trans ((dJ.refl _).more q |>.below _));clear hb0
    go_wp2_with fail
    refine(oQ A B n m c d L xs ys _ (by have h1:=aE HX.out HTX.out;have h2:=aE HY.out HTY.out;have h3:=fo (cX hgt);omega) om (by simp;omega) (HX.out.below HB0.out hL) (HY.out.below HB0.out hL) (cX hgt)).mono ?_
    rintro e w1 ⟨A1,k,c1,zs,rfl,hk,hU,hT,hv,hb1⟩;have hk2:k<=536870913:=by
     rw[aE hU hT,hv];have h1:=aE HX.out HTX.out;have h2:=aE HY.out HTY.out;have h3:nl (aY xs-aY ys)<=nl (aY xs):=fo om;have h4:nl (aY ys-aY xs)<=nl (aY ys):=fo om;omega
    have HU:=ab hU;clear hU;have HV:=ab hv;clear hv;have HT:=ab hT;clear hT;have HB1:=ab hb1;clear hb1
    go_wp2_with fail
    refine(fW s1 A1 k c1 w1.heap.size zs w1 hk om (af _) HU.out HT.out).mono ?_;rintro e w2 ⟨v,rfl,hI,hb2⟩;obtain⟨neg,A2,n2,c2,zs2,rfl,hI2⟩:=hI;have hsz:w.heap.size+1<=w1.heap.size:=by have:=HB1.out.size;simpa using this
    have hblk:fB w2 w.heap.size 50 #[.bool false,.slice none 0 0]:=(fB.below (w:=(w.alloc (Obj.cells #[ao false,aj none 0 0] 50)).drewN q) (fB.new w 50 _) HB1.out sm).below hb2 om
    have hc0:=hblk.cell 0;have hc1:=hblk.cell 1;have hf0:=hblk.frozen 0;have hf1:=hblk.frozen 1;simp only[fG,dE,cS]at hc0 hc1;have HK:=ab hblk;clear hblk;have HI:=ab hI2;clear hI2;have HB2:=ab hb2;clear hb2;go_wp2;exact bodyPost_ret (v:=.agg #[.bool neg,.slice A2 n2 c2]) (by simp[results,results194,go_sem,hc0,hc1]) rfl
     (dh.cell ⟨neg,A2,n2,c2,zs2,rfl,HI.out⟩ HK.out ((HB0.out.trans (HB1.out.mono sm)).trans (HB2.out.mono om)) (af _) (by rw[HV.out,tM hs (cX hgt)]))
   ·have heq:aY xs=aY ys:=Nat.le_antisymm hle hge;have hcm:=kM heq
    go_enter func194,ntmps194
    go_wp2_with fail
    have hb0:=(bq w.heap.size w).alloc (af _) (Obj.cells #[ao false,aj none 0 0] 50);have hcall:=gD A B n m c d L xs ys (w.alloc (Obj.cells #[ao false,aj none 0 0] 50)) om om (HX.out.below hb0 hL) (HY.out.below hb0 hL) HTX.out HTY.out;rw[hcm]at hcall;refine hcall.mono ?_;clear hcall hcm;rintro e w1 ⟨rfl,q,rfl⟩;have HB0:=ab (hb0.trans ((dJ.refl _).more q |>.below _));clear hb0
    go_wp2_with fail
    refine(oQ A B n m c d L xs ys _ (by have h1:=aE HX.out HTX.out;have h2:=aE HY.out HTY.out;have h3:=fo (un heq.symm);omega) om (by simp;omega) (HX.out.below HB0.out hL) (HY.out.below HB0.out hL) (un heq.symm)).mono ?_
    rintro e w1 ⟨A1,k,c1,zs,rfl,hk,hU,hT,hv,hb1⟩;have hk2:k<=536870913:=by
     rw[aE hU hT,hv];have h1:=aE HX.out HTX.out;have h2:=aE HY.out HTY.out;have h3:nl (aY xs-aY ys)<=nl (aY xs):=fo om;have h4:nl (aY ys-aY xs)<=nl (aY ys):=fo om;omega
    have HU:=ab hU;clear hU;have HV:=ab hv;clear hv;have HT:=ab hT;clear hT;have HB1:=ab hb1;clear hb1
    go_wp2_with fail
    refine(fW s1 A1 k c1 w1.heap.size zs w1 hk om (af _) HU.out HT.out).mono ?_;rintro e w2 ⟨v,rfl,hI,hb2⟩;obtain⟨neg,A2,n2,c2,zs2,rfl,hI2⟩:=hI;have hsz:w.heap.size+1<=w1.heap.size:=by have:=HB1.out.size;simpa using this
    have hblk:fB w2 w.heap.size 50 #[.bool false,.slice none 0 0]:=(fB.below (w:=(w.alloc (Obj.cells #[ao false,aj none 0 0] 50)).drewN q) (fB.new w 50 _) HB1.out sm).below hb2 om
    have hc0:=hblk.cell 0;have hc1:=hblk.cell 1;have hf0:=hblk.frozen 0;have hf1:=hblk.frozen 1;simp only[fG,dE,cS]at hc0 hc1;have HK:=ab hblk;clear hblk;have HI:=ab hI2;clear hI2;have HB2:=ab hb2;clear hb2;go_wp2;exact bodyPost_ret (v:=.agg #[.bool neg,.slice A2 n2 c2]) (by simp[results,results194,go_sem,hc0,hc1]) rfl
     (dh.cell ⟨neg,A2,n2,c2,zs2,rfl,HI.out⟩ HK.out ((HB0.out.trans (HB1.out.mono sm)).trans (HB2.out.mono om)) (af _) (by rw[HV.out,tM hs (un heq.symm)]))

theorem ge(A:Option Addr)(n c B:Nat)(xs:List Nat)(w:World)(b:n<=c)(d:n<=9223372036854775807)(h:cj w B A n xs)(f:nS xs) :
  Calls ah 136 #[.slice A n c] w fun e w'=>e=.returned (.slice A n c)/\w=w' :=
 (jW A n c B xs w b d h).mono fun e w' ⟨⟨k,p,g,i,j,l⟩,m⟩=>by
  have a:=aE i j;have o:=aE h f;rw[l,<-o]at a;subst a;exact⟨g,m⟩
theorem ez{a b:Value}(h:fB w g 50 #[a,b]):w.cell? ⟨g,0,none⟩=some a/\w.cell? ⟨g,1,none⟩=some b:=by
 have c:=h.cell 0;have d:=h.cell 1;simpa using⟨c,d⟩
theorem Lr(va vb:Value)(za zb:Int)(B:Nat)(w:World)(hB:B<=w.heap.size)(ha:ed w B va za)(hb:ed w B vb zb)(sa:nl za.natAbs<=536870912)(sb:nl zb.natAbs<=536870912) :
  Calls ah 133 #[va,vb] w (dh w (za+zb)):=by
 obtain⟨s1,A,n,c,xs,rfl,hnc,hx,tx,rfl⟩:=ha;obtain⟨s2,D,m,d,ys,rfl,hmd,hy,ty,rfl⟩:=hb;rw[fq,<-aE hx tx]at sa;rw[fq,<-aE hy ty]at sb;have HX:=ab hx;clear hx;have HY:=ab hy;clear hy;have HTX:=ab tx;clear tx;have HTY:=ab ty;clear ty
 go_enter func133,ntmps133
 go_wp2;have hb0:=((((bq w.heap.size w).alloc (af _) (Obj.cells #[ao s1,aj A n c] 50)).alloc sm (Obj.cells #[ao s2,aj D m d] 50)).alloc (by simp;omega) (Obj.cells #[ao false,aj none 0 0] 50))
 have k1:fB (((w.alloc (Obj.cells #[ao s1,aj A n c] 50)).alloc (Obj.cells #[ao s2,aj D m d] 50)).alloc (Obj.cells #[ao false,aj none 0 0] 50)) w.heap.size 50 #[ao s1,aj A n c] :=
  ((fB.new w 50 _).below ((bq _ _).alloc (af _) _) sm).below ((bq _ _).alloc (af _) _) (by simp;omega)
 have k2:fB (((w.alloc (Obj.cells #[ao s1,aj A n c] 50)).alloc (Obj.cells #[ao s2,aj D m d] 50)).alloc (Obj.cells #[ao false,aj none 0 0] 50)) (w.heap.size+1) 50 #[ao s2,aj D m d]:=by
  have h:=(fB.new (w.alloc (Obj.cells #[ao s1,aj A n c] 50)) 50 #[ao s2,aj D m d]).below ((bq _ _).alloc (af _) (Obj.cells #[ao false,aj none 0 0] 50)) sm
  simpa using h
 have k3:fB (((w.alloc (Obj.cells #[ao s1,aj A n c] 50)).alloc (Obj.cells #[ao s2,aj D m d] 50)).alloc (Obj.cells #[ao false,aj none 0 0] 50)) (w.heap.size+2) 50 #[ao false,aj none 0 0]:=by
  have h:=fB.new ((w.alloc (Obj.cells #[ao s1,aj A n c] 50)).alloc (Obj.cells #[ao s2,aj D m d] 50)) 50 #[ao false,aj none 0 0];simpa using h
 generalize (((w.alloc (Obj.cells #[ao s1,aj A n c] 50)).alloc (Obj.cells #[ao s2,aj D m d] 50)).alloc (Obj.cells #[ao false,aj none 0 0] 50))=W at hb0 k1 k2 k3 ⊢;obtain⟨a0,a1⟩:=ez k1;obtain⟨b0,b1⟩:=ez k2;have HK1:=ab k1;clear k1;have HK2:=ab k2;clear k2;have HK3:=ab k3;clear k3;have HB0:=ab hb0;clear hb0;have hg2:w.heap.size+2<W.heap.size:=HK3.out.lt;have HS:=ab (show ∀w1,Below (w.heap.size+2) W w1->(w1.cell? ⟨w.heap.size,0,none⟩=some (.bool s1)/\w1.cell? ⟨w.heap.size,1,none⟩=some (.slice A n c)/\w1.cell? ⟨w.heap.size+1,0,none⟩=some (.bool s2)/\w1.cell? ⟨w.heap.size+1,1,none⟩=some (.slice D m d)/\Below (w.heap.size+2) W w1)from
  fun w1 h=>⟨(h.cell (by show w.heap.size<_;omega)).trans a0,(h.cell (by show w.heap.size<_;omega)).trans a1,(h.cell (by show w.heap.size+1<_;omega)).trans b0,(h.cell (by show w.heap.size+1<_;omega)).trans b1,h⟩)
 have HUX:Hid (cj W.drew B A n xs):=ab (HX.out.below HB0.out.drew hB);have HUY:Hid (cj W.drew B D m ys):=ab (HY.out.below HB0.out.drew hB)
 go_region_held3 (fun w'=>w'.cell? ⟨w.heap.size,0,none⟩=some (.bool s1)/\w'.cell? ⟨w.heap.size,1,none⟩=some (.slice A n c)/\w'.cell? ⟨w.heap.size+1,0,none⟩=some (.bool s2)/\w'.cell? ⟨w.heap.size+1,1,none⟩=some (.slice D m d)/\Below (w.heap.size+2) W w')
  (first|exact HS.out _ (bq _ _).drew|assumption|exact HS.out _ (by assumption)|exact HS.out _ (dZ (dZ (by assumption) sm _) sm _))
  (first
   | (go_at_call_of 136 (aj A n c);refine(ge A n c B xs W.drew hnc om HUX.out HTX.out).mono ?_;rintro e w' ⟨rfl,rfl⟩)
   | (go_at_call_of 136 (aj D m d);refine(ge D m d B ys W.drew hmd om HUY.out HTY.out).mono ?_;rintro e w' ⟨rfl,rfl⟩)
   | (go_at_call 194;refine(rk s1 s2 A D n m c d B xs ys W.drew sa sb (by show B<=W.heap.size;omega) HUX.out HUY.out HTX.out HTY.out).mono ?_;rintro e w1 ⟨v,rfl,hI,hbn⟩;obtain⟨neg,A2,n2,c2,zs2,rfl,hI2⟩:=hI;have hB1:Below (w.heap.size+2) W w1:=(bq _ W).drew.trans (hbn.mono (by show _<=W.heap.size;omega));have HI:=ab hI2;clear hI2;have hk3:=fB.below (w:=W.drew) HK3.out hbn hg2;obtain⟨e0,e1⟩:=ez hk3;have f0:=hk3.frozen 0;have f1:=hk3.frozen 1;have HK4:=ab hk3;clear hk3 hbn))
 go_wp2;exact bodyPost_ret (v:=.agg #[.bool neg,.slice A2 n2 c2]) (by simp[results,results133,go_sem,e0,e1]) rfl
   (dh.cell ⟨neg,A2,n2,c2,zs2,rfl,HI.out⟩ HK4.out (HB0.out.trans (hB1.mono om)) om rfl)
theorem Lc(va vb:Value)(za zb:Int)(B:Nat)(w:World)(hB:B<=w.heap.size)(ha:ed w B va za)(hb:ed w B vb zb)(sa:nl za.natAbs<=536870912)(sb:nl zb.natAbs<=536870912) :
  Calls ah 192 #[va,vb] w (dh w (za-zb)):=by
 obtain⟨s1,A,n,c,xs,rfl,hnc,hx,tx,rfl⟩:=ha;obtain⟨s2,D,m,d,ys,rfl,hmd,hy,ty,rfl⟩:=hb;rw[fq,<-aE hx tx]at sa;rw[fq,<-aE hy ty]at sb;have HX:=ab hx;clear hx;have HY:=ab hy;clear hy;have HTX:=ab tx;clear tx;have HTY:=ab ty;clear ty
 go_enter func192,ntmps192
 go_wp2;have hb0:=((((bq w.heap.size w).alloc (af _) (Obj.cells #[ao s1,aj A n c] 50)).alloc sm (Obj.cells #[ao s2,aj D m d] 50)).alloc (by simp;omega) (Obj.cells #[ao false,aj none 0 0] 50))
 have k1:fB (((w.alloc (Obj.cells #[ao s1,aj A n c] 50)).alloc (Obj.cells #[ao s2,aj D m d] 50)).alloc (Obj.cells #[ao false,aj none 0 0] 50)) w.heap.size 50 #[ao s1,aj A n c] :=
  ((fB.new w 50 _).below ((bq _ _).alloc (af _) _) sm).below ((bq _ _).alloc (af _) _) (by simp;omega)
 have k2:fB (((w.alloc (Obj.cells #[ao s1,aj A n c] 50)).alloc (Obj.cells #[ao s2,aj D m d] 50)).alloc (Obj.cells #[ao false,aj none 0 0] 50)) (w.heap.size+1) 50 #[ao s2,aj D m d]:=by
  have h:=(fB.new (w.alloc (Obj.cells #[ao s1,aj A n c] 50)) 50 #[ao s2,aj D m d]).below ((bq _ _).alloc (af _) (Obj.cells #[ao false,aj none 0 0] 50)) sm
  simpa using h
 have k3:fB (((w.alloc (Obj.cells #[ao s1,aj A n c] 50)).alloc (Obj.cells #[ao s2,aj D m d] 50)).alloc (Obj.cells #[ao false,aj none 0 0] 50)) (w.heap.size+2) 50 #[ao false,aj none 0 0]:=by
  have h:=fB.new ((w.alloc (Obj.cells #[ao s1,aj A n c] 50)).alloc (Obj.cells #[ao s2,aj D m d] 50)) 50 #[ao false,aj none 0 0];simpa using h
 generalize (((w.alloc (Obj.cells #[ao s1,aj A n c] 50)).alloc (Obj.cells #[ao s2,aj D m d] 50)).alloc (Obj.cells #[ao false,aj none 0 0] 50))=W at hb0 k1 k2 k3 ⊢;obtain⟨a0,a1⟩:=ez k1;obtain⟨b0,b1⟩:=ez k2;have HK1:=ab k1;clear k1;have HK2:=ab k2;clear k2;have HK3:=ab k3;clear k3;have HB0:=ab hb0;clear hb0;have hg2:w.heap.size+2<W.heap.size:=HK3.out.lt;have HS:=ab (show ∀w1,Below (w.heap.size+2) W w1->(w1.cell? ⟨w.heap.size,0,none⟩=some (.bool s1)/\w1.cell? ⟨w.heap.size,1,none⟩=some (.slice A n c)/\w1.cell? ⟨w.heap.size+1,0,none⟩=some (.bool s2)/\w1.cell? ⟨w.heap.size+1,1,none⟩=some (.slice D m d)/\Below (w.heap.size+2) W w1)from
  fun w1 h=>⟨(h.cell (by show w.heap.size<_;omega)).trans a0,(h.cell (by show w.heap.size<_;omega)).trans a1,(h.cell (by show w.heap.size+1<_;omega)).trans b0,(h.cell (by show w.heap.size+1<_;omega)).trans b1,h⟩)
 have HUX:Hid (cj W.drew B A n xs):=ab (HX.out.below HB0.out.drew hB);have HUY:Hid (cj W.drew B D m ys):=ab (HY.out.below HB0.out.drew hB)
 go_region_held3 (fun w'=>w'.cell? ⟨w.heap.size,0,none⟩=some (.bool s1)/\w'.cell? ⟨w.heap.size,1,none⟩=some (.slice A n c)/\w'.cell? ⟨w.heap.size+1,0,none⟩=some (.bool s2)/\w'.cell? ⟨w.heap.size+1,1,none⟩=some (.slice D m d)/\Below (w.heap.size+2) W w')
  (first|exact HS.out _ (bq _ _).drew|assumption|exact HS.out _ (by assumption)|exact HS.out _ (dZ (dZ (by assumption) sm _) sm _))
  (first
   | (go_at_call_of 136 (aj A n c);refine(ge A n c B xs W.drew hnc om HUX.out HTX.out).mono ?_;rintro e w' ⟨rfl,rfl⟩)
   | (go_at_call_of 136 (aj D m d);refine(ge D m d B ys W.drew hmd om HUY.out HTY.out).mono ?_;rintro e w' ⟨rfl,rfl⟩)
   | (go_at_call 194;refine(rk s1 (!s2) A D n m c d B xs ys W.drew sa sb (by show B<=W.heap.size;omega) HUX.out HUY.out HTX.out HTY.out).mono ?_;rintro e w1 ⟨v,rfl,hI,hbn⟩;obtain⟨neg,A2,n2,c2,zs2,rfl,hI2⟩:=hI;have hB1:Below (w.heap.size+2) W w1:=(bq _ W).drew.trans (hbn.mono (by show _<=W.heap.size;omega));have HI:=ab hI2;clear hI2;have hk3:=fB.below (w:=W.drew) HK3.out hbn hg2;obtain⟨e0,e1⟩:=ez hk3;have f0:=hk3.frozen 0;have f1:=hk3.frozen 1;have HK4:=ab hk3;clear hk3 hbn))
 go_wp2;exact bodyPost_ret (v:=.agg #[.bool neg,.slice A2 n2 c2]) (by simp[results,results192,go_sem,e0,e1]) rfl
   (dh.cell ⟨neg,A2,n2,c2,zs2,rfl,HI.out⟩ HK4.out (HB0.out.trans (hB1.mono om)) om (by rw[Dw];omega))
theorem yh(va:Value)(za:Int)(B:Nat)(w:World)(hB:B<=w.heap.size)(ha:ed w B va za)(sa:nl za.natAbs<=536870912) :
  Calls ah 191 #[va] w fun e w'=>e=.returned (.int .i64 za.sign)/\Below w.heap.size w w':=by
 obtain⟨s1,A,n,c,xs,rfl,hnc,hx,tx,rfl⟩:=ha;rw[fq,<-aE hx tx]at sa;have hb0:=(bq w.heap.size w).alloc (af _) (Obj.cells #[ao s1,aj A n c] 50);have HU:=ab (hx.below hb0 hB);have HL:=ab (aE hx tx);have HT:=ab tx;clear tx;have HX:=ab hx;clear hx;have HB:=ab hb0;clear hb0;by_cases h0:n=0
 ·subst h0;have hv:aY xs=0:=by rw[tj.1 HX.out.1]<;>rfl
  have hr:(sg s1 (aY xs)).sign=0:=by rw[hv,sn]<;>rfl
  have HR:=ab hr;clear hr hv
  go_enter func191,ntmps191
  go_wp2_with fail
  refine(ge A 0 c B xs _ hnc om HU.out HT.out).mono ?_;rintro e w' ⟨rfl,rfl⟩;go_wp2;go_ret;exact⟨by rw[HR.out];rfl,HB.out⟩
 ·have hv:0<aY xs:=by
   rcases bC (aY xs)with h|h
   ·have:=HL.out;rw[h]at this;simp[nl]at this;omega
   ·exact h
  have h1:((n:Int)==0)=false:=by simp;omega
  cases s1
  ·have hr:(sg false (aY xs)).sign=1:=by simp[sg];omega
   have HR:=ab hr;clear hr hv
   go_enter func191,ntmps191
   go_wp2_with fail
   refine(ge A n c B xs _ hnc om HU.out HT.out).mono ?_;rintro e w' ⟨rfl,rfl⟩;go_wp2;go_ret;exact⟨by rw[HR.out];rfl,HB.out⟩
  ·have hr:(sg true (aY xs)).sign=-1:=by simp[sg];omega
   have HR:=ab hr;clear hr hv
   go_enter func191,ntmps191
   go_wp2_with fail
   refine(ge A n c B xs _ hnc om HU.out HT.out).mono ?_;rintro e w' ⟨rfl,rfl⟩;go_wp2;go_ret;exact⟨by rw[HR.out];rfl,HB.out⟩
theorem GK(z:Int)(w:World)(h1:-9223372036854775808<=z)(h2:z<=9223372036854775807):Calls ah 81 #[.int .i64 z] w (dh w z):=by
 have hb0:=(bq w.heap.size w).alloc (af _) (Obj.cells #[ao false,aj none 0 0] 50);have HB0:=ab hb0;clear hb0;by_cases hz:z<0
 ·go_enter func81,ntmps81
  go_wp2_with fail
  rw[show IntKind.u64.wrap (-IntKind.u64.wrap z)=((z.natAbs:Nat):Int)from by rw[IntKind.wrap_u64,IntKind.wrap_u64];omega]
  refine(jM z.natAbs _ om).mono ?_;rintro e w1 ⟨A1,k,c1,zs,rfl,hk,hU,hT,hv,hb1⟩;have hk2:k<=2:=by rw[aE hU hT,hv];exact jt.2 om
  have HU:=ab hU;clear hU;have HV:=ab hv;clear hv;have HT:=ab hT;clear hT;have HB1:=ab hb1;clear hb1
  go_wp2_with fail
  refine(fW true A1 k c1 w1.heap.size zs w1 hk om (af _) HU.out HT.out).mono ?_;rintro e w2 ⟨v,rfl,hI,hb2⟩;obtain⟨neg,A2,n2,c2,zs2,rfl,hI2⟩:=hI;have hsz:w.heap.size+1<=w1.heap.size:=by have:=HB1.out.size;simpa using this
  have hblk:fB w2 w.heap.size 50 #[.bool false,.slice none 0 0]:=(fB.below (w:=w.alloc (Obj.cells #[ao false,aj none 0 0] 50)) (fB.new w 50 _) HB1.out sm).below hb2 om
  obtain⟨hc0,hc1⟩:=ez hblk;have hf0:=hblk.frozen 0;have hf1:=hblk.frozen 1;have HK:=ab hblk;clear hblk;have HI:=ab hI2;clear hI2;have HB2:=ab hb2;clear hb2;go_wp2;exact bodyPost_ret (v:=.agg #[.bool neg,.slice A2 n2 c2]) (by simp[results,results81,go_sem,hc0,hc1]) rfl
   (dh.cell ⟨neg,A2,n2,c2,zs2,rfl,HI.out⟩ HK.out ((HB0.out.trans (HB1.out.mono sm)).trans (HB2.out.mono om)) (af _) (by rw[HV.out];simp[sg];omega))
 ·go_enter func81,ntmps81
  go_wp2_with fail
  obtain⟨v0,rfl⟩:∃v0:Nat,z=(v0:Int):=⟨z.toNat,om⟩
  refine(jM v0 _ om).mono ?_;rintro e w1 ⟨A1,k,c1,zs,rfl,hk,hU,hT,hv,hb1⟩;have hk2:k<=2:=by rw[aE hU hT,hv];exact jt.2 om
  have HU:=ab hU;clear hU;have HV:=ab hv;clear hv;have HT:=ab hT;clear hT;have HB1:=ab hb1;clear hb1
  go_wp2_with fail
  refine(fW false A1 k c1 w1.heap.size zs w1 hk om (af _) HU.out HT.out).mono ?_;rintro e w2 ⟨v,rfl,hI,hb2⟩;obtain⟨neg,A2,n2,c2,zs2,rfl,hI2⟩:=hI;have hsz:w.heap.size+1<=w1.heap.size:=by have:=HB1.out.size;simpa using this
  have hblk:fB w2 w.heap.size 50 #[.bool false,.slice none 0 0]:=(fB.below (w:=w.alloc (Obj.cells #[ao false,aj none 0 0] 50)) (fB.new w 50 _) HB1.out sm).below hb2 om
  obtain⟨hc0,hc1⟩:=ez hblk;have hf0:=hblk.frozen 0;have hf1:=hblk.frozen 1;have HK:=ab hblk;clear hblk;have HI:=ab hI2;clear hI2;have HB2:=ab hb2;clear hb2;go_wp2;exact bodyPost_ret (v:=.agg #[.bool neg,.slice A2 n2 c2]) (by simp[results,results81,go_sem,hc0,hc1]) rfl
   (dh.cell ⟨neg,A2,n2,c2,zs2,rfl,HI.out⟩ HK.out ((HB0.out.trans (HB1.out.mono sm)).trans (HB2.out.mono om)) (af _) (by rw[HV.out];simp[sg]))

end Go.Proofs.YtdobfmlmenaajaaGreatDoor
