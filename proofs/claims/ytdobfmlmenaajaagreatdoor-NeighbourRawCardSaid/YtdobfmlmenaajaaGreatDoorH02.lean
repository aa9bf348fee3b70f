/-
  Lemmas for NeighbourRaw.
-/
import Derived.Test.YtdobfmlmenaajaaGreatDoorH01
import Derived.Deep.AppendLies
import Derived.Maps.AppendAt
import Derived.Lib.SliceRun
namespace Go.Proofs.YtdobfmlmenaajaaGreatDoor
open Go.RowKit Tryz
open _root_.List renaming replicate→bU,getD→cT
open Tryz renaming prog→ah
open Value renaming slice→ao,bool→aq,int→dA
set_option maxHeartbeats 6400000
set_option maxRecDepth 4096
set_option linter.all false
variable{ad:Addr}{P0 l ps xs ys zs:List Nat}{B b car g i j k m n rest x y:Nat}{A:Option Addr}{w wr:World}
def Ig:ah.info? 136=some Tryz.t136:=by kernel_rfl
def GR:Tryz.t136.zero=some (.int .u32 0):=by kernel_rfl
def Hh:Tryz.t136.size=1:=by kernel_rfl
def Iy:Tryz.t136.bytes=4:=by kernel_rfl
def ko{w':World}{row:Option Nat}(h:w.grownBy w' row)(b:B<=w.heap.size)(a:∀g,row=some g->B<=g):Below B w w' :=
 ⟨h.os,h.tape,h.output,h.size,fun k c=>h.block k om (fun e=>by have:=a _ e.symm;omega)⟩
def cG.cells(h:cG w B (some ad) n xs):∀(j:Nat) (u:Value),(xs.map (fun x:Nat=>dA .u32 x))[j]? = some u->w.cell? (ad.add j)=some u:=by
 intro j u b;rw[lk]at b;have a:j<xs.length:=by
  rcases aC j xs.length with c|d
  .exact c
  .rw[cH d]at b;cases b
 rw[a8 a]at b;simp only[du,eU]at b;obtain⟨ad',e,_,f⟩:=h.2.2 (by rw[<-h.1];omega)
 cases e
 rw[f j (by rw[<-h.1];exact a),<-b]
 simp[cT,a8 a]
def cG.ofOwn{base c:Nat}(h:w.ownsRow base 136 1 (.slice A n c) n (xs.map (fun x:Nat=>dA .u32 x)))(e:nh xs):cG w w.heap.size A n xs/\n<=c:=by
 have f:xs.length=n:=by simpa using h.1
 rcases h.2 with⟨a,i⟩|⟨g,cap,cur,a,_,l,b,_,_,htake⟩
 .injection a with d m k
  subst i;exact⟨⟨f,e,fun h=>absurd h om⟩,jM _⟩
 .injection a with d m k
  subst k;refine⟨⟨f,e,fun i=>⟨_,d,gC.lt (show gC w g 136 cur from l),fun j o=>?_⟩⟩,b⟩;subst d;exact h.cells (g:=g) rfl j _ (by rw[lk,a8 om];simp[cT,a8 (om:j<xs.length)])
def wy(A:Option Addr)(n c B:Nat)(xs:List Nat)(w:World)(hm:n<=1073741824)(hB:B<=w.heap.size)(h:cG w B A n xs) :
  Calls ah 196 #[.slice A n c] w fun e w'=>∃A' c',e=.returned (.slice A' n c')/\n<=c'/\cG w' w'.heap.size A' n xs/\Below w.heap.size w w':=by
 have HX:=ac h;clear h;have q48:∀(w:World) (a:Option Addr) (n c n' c':Nat),(binOp .eql 48 (.slice a n c) (.slice none n' c')).run ah w=.ok (.bool a.isNone) w:=fun w a n c n' c'=>AY w _ _ a n c n' c' fV
 cases A with
 | none =>
  have h0:n=0:=by
   rcases a6 n with h|h
   .exact h
   .obtain⟨ad,e,_⟩:=HX.out.2.2 h;cases e
  subst h0
  go_enter func196,Vg
  go_wp2;go_ret;exact⟨none,0,rfl,ae _,⟨HX.out.1,HX.out.2.1,fun h=>absurd h om⟩,aX _ _⟩
 | some ad =>
  go_enter func196,Vg
  go_wp2_with (at_builtin;refine pM _ rfl _ _ 48 rfl w.heap.size 136 Tryz.t136 (.int .u32 0) 1 4 fV Ig GR Hh Iy rfl om _ 0 [] rfl (Vf (e:=136) (size:=1) w #[] 0 (ae _) (by simp[maxLen]) rfl) ad n c (xs.map (fun x:Nat=>dA .u32 x)) rfl (by simp[HX.out.1]) (cG.cells (HX.out.below ((aX _ _).alloc hB _) (ae _))) (by intro u hu;simp only[ie]at hu;obtain⟨x,_,rfl⟩:=hu;rfl) (by simp[maxLen];omega) om sm ?_)
  intro v' w1 hown hgrow hnil hat;obtain⟨g,cap,rfl⟩:∃g cap,v'=.slice (some ⟨g,0,none⟩) n cap:=by
   rcases hown.2 with⟨h,_⟩|⟨g,cap,_,h,_⟩
   .exact absurd h hnil
   .exact⟨g,cap,h⟩
  obtain⟨hU,hc⟩:=cG.ofOwn hown HX.out.2.1;have HU:=ac hU;have HB:=ac (((aX w.heap.size w).alloc (ae _) (Obj.cells #[] 136)).trans (ko hgrow (B:=w.heap.size) sm (by intro g h;cases h;exact ae _)))
  clear hU hown hgrow hnil hat;go_wp2;go_ret;exact⟨_,_,rfl,hc,HU.out,HB.out⟩
def ru(w:World)(a b:Array Value) :
  Below w.heap.size w ((w.alloc (.cells a 50)).alloc (.cells b 50))/\gC ((w.alloc (.cells a 50)).alloc (.cells b 50)) w.heap.size 50 a/\gC ((w.alloc (.cells a 50)).alloc (.cells b 50)) (w.heap.size+1) 50 b:=by
 refine⟨((aX w.heap.size w).alloc (ae _) _).alloc sm _,(gC.new w 50 _).below ((aX _ _).alloc (ae _) _) sm,?_⟩
 have h:=gC.new (w.alloc (.cells a 50)) 50 b;simpa using h
def AB(w:World)(a b c:Array Value) :
  Below w.heap.size w (((w.alloc (.cells a 50)).alloc (.cells b 50)).alloc (.cells c 50))/\gC (((w.alloc (.cells a 50)).alloc (.cells b 50)).alloc (.cells c 50)) w.heap.size 50 a/\gC (((w.alloc (.cells a 50)).alloc (.cells b 50)).alloc (.cells c 50)) (w.heap.size+1) 50 b/\gC (((w.alloc (.cells a 50)).alloc (.cells b 50)).alloc (.cells c 50)) (w.heap.size+2) 50 c:=by
 obtain⟨d,e,f⟩:=ru w a b;refine⟨d.alloc (by simp;omega) _,e.below ((aX _ _).alloc (ae _) _) (by simp;omega),f.below ((aX _ _).alloc (ae _) _) sm,?_⟩
 have h:=gC.new ((w.alloc (.cells a 50)).alloc (.cells b 50)) 50 c;simpa using h
def Q9(va:Value)(za:Int)(B:Nat)(w:World)(hB:B<=w.heap.size)(ha:eJ w B va za)(sa:nl za.natAbs<=536870912) :
  Calls ah 193 #[va] w (dL w (-za)):=by
 obtain⟨s1,A,n,c,xs,rfl,hnc,hx,tx,rfl⟩:=ha;rw[fP,<-aJ hx tx]at sa;have HX:=ac hx;clear hx;have HTX:=ac tx;clear tx
 go_enter func193,ntmps193
 go_wp2;obtain⟨hb0,k1,k3⟩:=ru w #[aq s1,ao A n c] #[aq false,ao none 0 0];generalize ((w.alloc (Obj.cells #[aq s1,ao A n c] 50)).alloc (Obj.cells #[aq false,ao none 0 0] 50))=W at hb0 k1 k3 ⊢;obtain⟨a0,a1⟩:=fm k1;have HK1:=ac k1;clear k1;have HK3:=ac k3;clear k3;have HB0:=ac hb0;clear hb0;have hg2:w.heap.size+1<W.heap.size:=HK3.out.lt;have HS:=ac (show ∀w1,Below (w.heap.size+1) W w1->(w1.cell? ⟨w.heap.size,0,none⟩=some (.bool s1)/\w1.cell? ⟨w.heap.size,1,none⟩=some (.slice A n c)/\Below (w.heap.size+1) W w1)from
  fun w1 h=>⟨(h.cell (by show w.heap.size<_;omega)).trans a0,(h.cell (by show w.heap.size<_;omega)).trans a1,h⟩)
 have HUX:Hid (cG W.drew B A n xs):=ac (HX.out.below HB0.out.drew hB)
 go_region_held3 (fun w'=>w'.cell? ⟨w.heap.size,0,none⟩=some (.bool s1)/\w'.cell? ⟨w.heap.size,1,none⟩=some (.slice A n c)/\Below (w.heap.size+1) W w')
  (first|exact HS.out _ (aX _ _).drew|assumption|exact HS.out _ (by assumption)|exact HS.out _ (eG (eG (by assumption) sm _) sm _))
  (first
   | (go_at_call_of 136 (ao A n c);refine(fY A n c B xs W.drew hnc om HUX.out HTX.out).mono ?_;rintro e w' ⟨rfl,rfl⟩)
   | (go_at_call 196;refine(wy A n c B xs W.drew om (by show B<=W.heap.size;omega) HUX.out).mono ?_;rintro e w1 ⟨A1,c1,rfl,hc1,hU1,hbn1⟩;have HU1:=ac hU1;clear hU1;have hB1:Below (w.heap.size+1) W w1:=(aX _ W).drew.trans (hbn1.mono (by show _<=W.heap.size;omega));have HK2:=ac (gC.below (w:=W.drew) HK3.out hbn1 hg2);clear hbn1;have hsz:=HK2.out.lt)
   | (go_at_call 134;refine(gZ (!s1) A1 n c1 w1.heap.size xs w1 hc1 om (ae _) HU1.out HTX.out).mono ?_;rintro e w2 ⟨v,rfl,hI,hbn⟩;obtain⟨neg,A2,n2,c2,zs2,rfl,hI2⟩:=hI;have hB2:Below (w.heap.size+1) W w2:=hB1.trans (hbn.mono om);have HI:=ac hI2;clear hI2;have hk3:=HK2.out.below hbn hsz;obtain⟨e0,e1⟩:=fm hk3;have f0:=hk3.frozen 0;have f1:=hk3.frozen 1;have HK4:=ac hk3;clear hk3 hbn))
 go_wp2;exact cI (v:=.agg #[.bool neg,.slice A2 n2 c2]) (by simp[results,results193,go_sem,e0,e1]) rfl
   (dL.cell ⟨neg,A2,n2,c2,zs2,rfl,HI.out⟩ HK4.out (HB0.out.trans (hB2.mono om)) om (by rw[Hd]))
def BI(va:Value)(za:Int)(B:Nat)(w:World)(hB:B<=w.heap.size)(ha:eJ w B va za)(sa:nl za.natAbs<=536870912) :
  Calls ah 157 #[va] w (dL w (za)):=by
 obtain⟨s1,A,n,c,xs,rfl,hnc,hx,tx,rfl⟩:=ha;rw[fP,<-aJ hx tx]at sa;have HX:=ac hx;clear hx;have HTX:=ac tx;clear tx
 go_enter func157,ntmps157
 go_wp2;obtain⟨hb0,k1,k3⟩:=ru w #[aq s1,ao A n c] #[aq false,ao none 0 0];generalize ((w.alloc (Obj.cells #[aq s1,ao A n c] 50)).alloc (Obj.cells #[aq false,ao none 0 0] 50))=W at hb0 k1 k3 ⊢;obtain⟨a0,a1⟩:=fm k1;have HK1:=ac k1;clear k1;have HK3:=ac k3;clear k3;have HB0:=ac hb0;clear hb0;have hg2:w.heap.size+1<W.heap.size:=HK3.out.lt;have HS:=ac (show ∀w1,Below (w.heap.size+1) W w1->(w1.cell? ⟨w.heap.size,0,none⟩=some (.bool s1)/\w1.cell? ⟨w.heap.size,1,none⟩=some (.slice A n c)/\Below (w.heap.size+1) W w1)from
  fun w1 h=>⟨(h.cell (by show w.heap.size<_;omega)).trans a0,(h.cell (by show w.heap.size<_;omega)).trans a1,h⟩)
 have HUX:Hid (cG W.drew B A n xs):=ac (HX.out.below HB0.out.drew hB)
 go_region_held3 (fun w'=>w'.cell? ⟨w.heap.size,0,none⟩=some (.bool s1)/\w'.cell? ⟨w.heap.size,1,none⟩=some (.slice A n c)/\Below (w.heap.size+1) W w')
  (first|exact HS.out _ (aX _ _).drew|assumption|exact HS.out _ (by assumption)|exact HS.out _ (eG (eG (by assumption) sm _) sm _))
  (first
   | (go_at_call_of 136 (ao A n c);refine(fY A n c B xs W.drew hnc om HUX.out HTX.out).mono ?_;rintro e w' ⟨rfl,rfl⟩)
   | (go_at_call 196;refine(wy A n c B xs W.drew om (by show B<=W.heap.size;omega) HUX.out).mono ?_;rintro e w1 ⟨A1,c1,rfl,hc1,hU1,hbn1⟩;have HU1:=ac hU1;clear hU1;have hB1:Below (w.heap.size+1) W w1:=(aX _ W).drew.trans (hbn1.mono (by show _<=W.heap.size;omega));have HK2:=ac (gC.below (w:=W.drew) HK3.out hbn1 hg2);clear hbn1;have hsz:=HK2.out.lt)
   | (go_at_call 134;refine(gZ s1 A1 n c1 w1.heap.size xs w1 hc1 om (ae _) HU1.out HTX.out).mono ?_;rintro e w2 ⟨v,rfl,hI,hbn⟩;obtain⟨neg,A2,n2,c2,zs2,rfl,hI2⟩:=hI;have hB2:Below (w.heap.size+1) W w2:=hB1.trans (hbn.mono om);have HI:=ac hI2;clear hI2;have hk3:=HK2.out.below hbn hsz;obtain⟨e0,e1⟩:=fm hk3;have f0:=hk3.frozen 0;have f1:=hk3.frozen 1;have HK4:=ac hk3;clear hk3 hbn))
 go_wp2;exact cI (v:=.agg #[.bool neg,.slice A2 n2 c2]) (by simp[results,results157,go_sem,e0,e1]) rfl
   (dL.cell ⟨neg,A2,n2,c2,zs2,rfl,HI.out⟩ HK4.out (HB0.out.trans (hB2.mono om)) om (rfl))

def lG(a b:Int):Int:=if a<b then -1 else if b<a then 1 else 0
def nO(s:Bool)(v:Nat):(sg s v).sign=0/\v=0∨(sg s v).sign=1/\s=false/\0<v∨(sg s v).sign=-1/\s=true/\0<v:=by
 rcases a6 v with rfl|h
 .left;cases s<;>simp[sg]
 .cases s
  .right;left;simp[sg];omega
  .right;right;simp[sg];omega
def At{a b:Int}:(a.sign<b.sign->lG a b=-1)/\(b.sign<a.sign->lG a b=1):=by
 have c:a<0/\a.sign=-1∨a=0/\a.sign=0∨0<a/\a.sign=1:=by
  rcases fF a 0 with h|h|h
  .exact .inl ⟨h,eP h⟩
  .exact .inr (.inl ⟨h,by rw[h];rfl⟩)
  .exact .inr (.inr ⟨h,dl h⟩)
 have d:b<0/\b.sign=-1∨b=0/\b.sign=0∨0<b/\b.sign=1:=by
  rcases fF b 0 with h|h|h
  .exact .inl ⟨h,eP h⟩
  .exact .inr (.inl ⟨h,by rw[h];rfl⟩)
  .exact .inr (.inr ⟨h,dl h⟩)
 unfold lG;constructor<;>intro h<;>(repeat' split)<;>omega
def CC{s1 s2:Bool}{a b:Nat}(h:(sg s1 a).sign=(sg s2 b).sign):(sg s1 a).sign*li a b=lG (sg s1 a) (sg s2 b):=by
 have f:a<b/\li a b=-1∨a=b/\li a b=0∨b<a/\li a b=1:=by
  rcases dY a b with h|h|h
  .exact .inl ⟨h,lH h⟩
  .exact .inr (.inl ⟨h,lI h⟩)
  .exact .inr (.inr ⟨h,kA h⟩)
 rcases nO s1 a with⟨c,rfl⟩|⟨c,rfl,g⟩|⟨c,rfl,g⟩<;>rcases nO s2 b with⟨d,rfl⟩|⟨d,rfl,i⟩|⟨d,rfl,i⟩<;>rw[c,d]at h<;>try omega
 .rw[c];simp[tK,lG]
 .rw[c];unfold lG sg;simp;rcases f with⟨h,e⟩|⟨h,e⟩|⟨h,e⟩<;>rw[e]<;>(repeat' split)<;>omega
 .rw[c];unfold lG sg;simp;rcases f with⟨h,e⟩|⟨h,e⟩|⟨h,e⟩<;>rw[e]<;>(repeat' split)<;>omega
def DK{x:Int}(a:-9223372036854775808<=x)(b:x<=9223372036854775807):IntKind.i64.wrap x=x:=by rw[me];omega
def qe(a b:Nat):-1<=li a b/\li a b<=1:=by
 rcases dY a b with h|h|h
 .rw[lH h];omega
 .rw[lI h];omega
 .rw[kA h];omega
def Ri(va vb:Value)(za zb:Int)(B:Nat)(w:World)(hB:B<=w.heap.size)(ha:eJ w B va za)(hb:eJ w B vb zb)(sa:nl za.natAbs<=536870912)(sb:nl zb.natAbs<=536870912) :
  Calls ah 159 #[va,vb] w fun e w'=>e=.returned (.int .i64 (lG za zb))/\Below w.heap.size w w':=by
 have hA:=ha;have hBb:=hb;have HS0:=ac sa;have HS1:=ac sb;obtain⟨s1,A,n,c,xs,rfl,hnc,hx,tx,rfl⟩:=ha;obtain⟨s2,D,m,d,ys,rfl,hmd,hy,ty,rfl⟩:=hb;rw[fP,<-aJ hx tx]at sa;rw[fP,<-aJ hy ty]at sb;have HA:=ac hA;clear hA;have HBb:=ac hBb;clear hBb;have HX:=ac hx;clear hx;have HY:=ac hy;clear hy;have HTX:=ac tx;clear tx;have HTY:=ac ty;clear ty;have HZ:=ac (@At (sg s1 (aZ xs)) (sg s2 (aZ ys)));have HZ2:=ac (@CC s1 s2 (aZ xs) (aZ ys));have HP:Hid (-1<=(sg s1 (aZ xs)).sign/\(sg s1 (aZ xs)).sign<=1):=ac (by rcases nO s1 (aZ xs)with h|h|h<;>omega)
 generalize hp:(sg s1 (aZ xs)).sign=p at HZ HZ2 HP;generalize hq:(sg s2 (aZ ys)).sign=q at HZ HZ2;generalize hcz:lG (sg s1 (aZ xs)) (sg s2 (aZ ys))=r at HZ HZ2 ⊢;have hcr:=qe (aZ xs) (aZ ys);generalize hcm:li (aZ xs) (aZ ys)=cm at HZ2 hcr;have Hp:=ac hp;clear hp;have Hq:=ac hq;clear hq;have Hcm:=ac hcm;clear hcm;clear hcz
 go_enter func159,ntmps159
 go_wp2;obtain⟨hb0,k1,k2⟩:=ru w #[aq s1,ao A n c] #[aq s2,ao D m d];generalize ((w.alloc (Obj.cells #[aq s1,ao A n c] 50)).alloc (Obj.cells #[aq s2,ao D m d] 50))=W at hb0 k1 k2 ⊢;obtain⟨a0,a1⟩:=fm k1;obtain⟨b0,b1⟩:=fm k2;have HB0:=ac hb0;clear hb0;have hg2:w.heap.size+1<W.heap.size:=k2.lt;have hg1:w.heap.size+2<=W.heap.size:=hg2;clear k1 k2;have HS:=ac (show ∀w1,Below (w.heap.size+2) W w1->(w1.cell? ⟨w.heap.size,0,none⟩=some (.bool s1)/\w1.cell? ⟨w.heap.size,1,none⟩=some (.slice A n c)/\w1.cell? ⟨w.heap.size+1,0,none⟩=some (.bool s2)/\w1.cell? ⟨w.heap.size+1,1,none⟩=some (.slice D m d)/\Below (w.heap.size+2) W w1)from
  fun w1 h=>⟨(h.cell (by show w.heap.size<_;omega)).trans a0,(h.cell (by show w.heap.size<_;omega)).trans a1,(h.cell (by show w.heap.size+1<_;omega)).trans b0,(h.cell (by show w.heap.size+1<_;omega)).trans b1,h⟩)
 go_region_held3 (fun w'=>w'.cell? ⟨w.heap.size,0,none⟩=some (.bool s1)/\w'.cell? ⟨w.heap.size,1,none⟩=some (.slice A n c)/\w'.cell? ⟨w.heap.size+1,0,none⟩=some (.bool s2)/\w'.cell? ⟨w.heap.size+1,1,none⟩=some (.slice D m d)/\Below (w.heap.size+2) W w')
  (first|exact HS.out _ (aX _ _).drew|assumption|exact HS.out _ (by assumption))
  (first
   | (go_at_call_of 191 (Value.agg #[aq s1,ao A n c]);refine(AS _ _ B W.drew (by show B<=W.heap.size;omega) (HA.out.below HB0.out.drew hB) HS0.out).mono ?_;rintro e w1 ⟨rfl,hbn⟩;rw[Hp.out];have hB1:Below (w.heap.size+2) W w1:=(aX _ W).drew.trans (hbn.mono hg1);clear hbn)
   | (go_at_call_of 191 (Value.agg #[aq s2,ao D m d]);refine(AS _ _ B w1 (by have:=hB1.size;omega) (HBb.out.below (HB0.out.trans (hB1.mono om)) hB) HS1.out).mono ?_;rintro e w2 ⟨rfl,hbn⟩;rw[Hq.out];have hB2:Below (w.heap.size+2) W w2:=hB1.trans (hbn.mono (by have:=hB1.size;omega));clear hbn hB1))
 have HB2:=ac hB2;obtain⟨c0,c1,c2,c3,_⟩:=HS.out _ hB2;clear hB2 a0 a1 b0 b1;rcases fF p q with hlt|heq|hgt
 .have HR:=ac (HZ.out.1 hlt);go_wp2;go_ret;exact⟨by rw[HR.out];rfl,HB0.out.trans (HB2.out.mono om)⟩
 .subst heq;have HR:=ac (HZ2.out rfl);have HUX:Hid (cG w2.drew B A n xs):=ac (HX.out.below (HB0.out.trans (HB2.out.mono om)).drew hB);have HUY:Hid (cG w2.drew B D m ys):=ac (HY.out.below (HB0.out.trans (HB2.out.mono om)).drew hB);have HC:=ac (show ∀w1,Below (w.heap.size+2) W w1->w1.cell? ⟨w.heap.size,1,none⟩=some (.slice A n c)/\w1.cell? ⟨w.heap.size+1,1,none⟩=some (.slice D m d)/\Below (w.heap.size+2) W w1 from fun w1 h=>⟨(HS.out w1 h).2.1,(HS.out w1 h).2.2.2.1,h⟩);have hp3:p=-1∨p=0∨p=1:=by have:=HP.out;omega
  clear HZ HZ2;rcases hp3 with rfl|rfl|rfl
  all_goals
   go_wp2
   go_region_held3 (fun w'=>w'.cell? ⟨w.heap.size,1,none⟩=some (.slice A n c)/\w'.cell? ⟨w.heap.size+1,1,none⟩=some (.slice D m d)/\Below (w.heap.size+2) W w')
    (first|assumption|exact HC.out _ HB2.out.drew|exact HC.out _ (by assumption))
    (first
     | (go_at_call_of 136 (ao A n c);refine(fY A n c B xs w2.drew hnc om HUX.out HTX.out).mono ?_;rintro e w' ⟨rfl,rfl⟩)
     | (go_at_call_of 136 (ao D m d);refine(fY D m d B ys w2.drew hmd om HUY.out HTY.out).mono ?_;rintro e w' ⟨rfl,rfl⟩)
     | (go_at_call 195;refine(ik A D n m c d B xs ys w2.drew om om HUX.out HUY.out HTX.out HTY.out).mono ?_;rintro e w3 ⟨rfl,hst⟩;rw[Hcm.out];have hB3:Below (w.heap.size+2) W w3:=HB2.out.drew.trans (hst.below _);clear hst))
   go_wp2;go_ret;exact⟨by rw[<-HR.out];first|rfl|(simp;first|done|exact DK om om),HB0.out.trans (hB3.mono om)⟩
 .have HR:=ac (HZ.out.2 hgt);have hn:¬p<q:=om
  go_wp2;go_ret;exact⟨by rw[HR.out];rfl,HB0.out.trans (HB2.out.mono om)⟩
def jk(z:Int):Prop:=-9223372036854775808<=z/\z<=9223372036854775807
def LW(va:Value)(za:Int)(B:Nat)(w:World)(hB:B<=w.heap.size)(ha:eJ w B va za)(hz:jk za) :
  Calls ah 84 #[va] w fun e w'=>e=.returned (.tuple #[.int .i64 za,.bool true])/\Below w.heap.size w w':=by
 obtain⟨s1,A,n,c,xs,rfl,hnc,hx,tx,rfl⟩:=ha;obtain⟨hz1,hz2⟩:=hz;have hn:n<=2:=by
  rw[aJ hx tx];refine jS.2 ?_;have:(sg s1 (aZ xs)).natAbs=aZ xs:=fP s1 (aZ xs);omega
 have hb0:=(aX w.heap.size w).alloc (ae _) (Obj.cells #[aq s1,ao A n c] 50);have HU:=ac (hx.below hb0 hB);have HX:=ac hx;clear hx;have HTX:=ac tx;clear tx;have HB:=ac hb0;clear hb0
 cases s1
 .have hv:(sg false (aZ xs))=(aZ xs:Int):=by simp[sg]
  rw[hv]at hz1 hz2 ⊢;clear hv;generalize hvv:aZ xs=v at hz1 hz2 ⊢;have HV:=ac hvv;clear hvv
  go_enter J7,EI
  go_wp2_with fail
  refine(fY A n c B xs _ hnc om HU.out HTX.out).mono ?_;rintro e w' ⟨rfl,rfl⟩
  go_wp2_with fail
  refine(mC A n c B xs _ hn HU.out).mono ?_;rintro e w' ⟨rfl,rfl⟩;rw[HV.out];have hw:IntKind.i64.wrap (v:Int)=v:=DK om om;have hl:(v:Int)<9223372036854775808:=om
  have Hz1:=ac hz1;clear hz1;have Hz2:=ac hz2;clear hz2;go_wp2;go_ret2;exact⟨rfl,HB.out⟩
 .have hv:(sg true (aZ xs))=-(aZ xs:Int):=by simp[sg]
  rw[hv]at hz1 hz2 ⊢;clear hv;generalize hvv:aZ xs=v at hz1 hz2 ⊢;have HV:=ac hvv;clear hvv
  go_enter J7,EI
  go_wp2_with fail
  refine(fY A n c B xs _ hnc om HU.out HTX.out).mono ?_;rintro e w' ⟨rfl,rfl⟩
  go_wp2_with fail
  refine(mC A n c B xs _ hn HU.out).mono ?_;rintro e w' ⟨rfl,rfl⟩;rw[HV.out];have hw:IntKind.i64.wrap (IntKind.u64.wrap (-(v:Int)))=-(v:Int):=by rw[cf,me];omega
  have hl:(v:Int)<=9223372036854775808:=om
  have Hz1:=ac hz1;clear hz1;have Hz2:=ac hz2;clear hz2;go_wp2;go_ret2;exact⟨rfl,HB.out⟩

def C7(ps:List Nat)(k v:Nat)(h:k<ps.length):aZ (ps.set k v)+ps.getD k 0*4294967296^k=aZ ps+v*4294967296^k:=by
 induction ps generalizing k with
 | nil=>simp at h
 | cons a l ih =>
  cases k with
  | zero=>simp[aZ];omega
  | succ k =>
   have b:=ih k (by simpa using h)
   simp only[List.set_cons_succ,aZ,bG,cb]
   grind
def nh.set(h:nh l)(k:Nat){x:Nat}(b:x<4294967296):nh (l.set k x):=by
 intro y c;rcases List.mem_or_eq_of_mem_set c with a|a
 .exact h y a
 .rw[a];exact b
structure sI(P0 ps ys:List Nat)(x i j car:Nat):Prop where
 len:ps.length=P0.length
 lim:nh ps
 rest:∀k,i+j<=k->ps.getD k 0=P0.getD k 0
 eq:aZ ps+car*4294967296^(i+j)=aZ P0+x*aZ (ys.take j)*4294967296^i
 car:car<4294967296
def gj{v:Nat}(h:k≠j):(l.set k v).getD j 0=l.getD j 0:=by
 simp[cT,yQ h]
def nT(a:x<4294967296)(b:y<4294967296):x*y<=18446744065119617025:=a9 (om:x<=4294967295) (om:y<=4294967295)
def sI.step{p:Nat}(h:sI P0 ps ys x i j car)(c:j<ys.length)(a:i+j<ps.length)(d:ys.getD j 0=y)(e:ps.getD (i+j) 0=p)(f:x<4294967296)(g:y<4294967296)(n:p<4294967296) :
  sI P0 (ps.set (i+j) ((car+(x*y+p))%4294967296)) ys x i (j+1) ((car+(x*y+p))/4294967296):=by
 have l:=nT f g;have o:=h.car;refine⟨by simp[h.len],h.lim.set _ (dj _ om),fun k q=>?_,?_,?_⟩
 .rw[gj om];exact h.rest k om
 .have b:=C7 ps (i+j) ((car+(x*y+p))%4294967296) a;rw[en ys j c,d,show i+(j+1)=(i+j)+1 from by omega,cb]
  rw[e]at b;have m:=h.eq;have r:=dd (car+(x*y+p)) 4294967296;rw[fJ]at b m ⊢;generalize (car+(x*y+p))%4294967296=lo at *;generalize (car+(x*y+p))/4294967296=hi at *;generalize (4294967296:Nat)^i=bi at *;generalize (4294967296:Nat)^j=bj at *;generalize aZ (ps.set (i+j) lo)=vs' at *;generalize aZ ps=vs at *;generalize aZ P0=v0 at *;generalize aZ (ys.take j)=vt at *
  grind
 .omega
def sI.last(h:sI P0 ps ys x i m car)(e:ys.length=m)(a:i+m<ps.length)(b:P0.getD (i+m) 0=0) :
  aZ (ps.set (i+m) car)=aZ P0+x*aZ ys*4294967296^i:=by
 have c:=C7 ps (i+m) car a;rw[h.rest _ (ae _),b]at c;have d:=h.eq;rw[bR om]at d;omega
structure kM(ps xs ys:List Nat)(i:Nat):Prop where
 len:ps.length=xs.length+ys.length
 lim:nh ps
 rest:∀k,i+ys.length<=k->ps.getD k 0=0
 eq:aZ ps=aZ (xs.take i)*aZ ys
def kM.zero(h:kM ps xs ys i)(a:i<xs.length)(b:xs.getD i 0=0):kM ps xs ys (i+1) :=
 ⟨h.len,h.lim,fun k c=>h.rest k om,by rw[en xs i a,b,h.eq];simp⟩
def kM.start(h:kM ps xs ys i):sI ps ps ys x i 0 0 :=
 ⟨rfl,h.lim,fun _ _=>rfl,by simp[aZ],om⟩
def kM.next(h:kM P0 xs ys i)(k:sI P0 ps ys x i m car)(a:ys.length=m)(b:i<xs.length)(c:xs.getD i 0=x):kM (ps.set (i+m) car) xs ys (i+1):=by
 have d:ps.length=xs.length+m:=by rw[k.len,h.len,a]
 have e:=k.last a om (h.rest _ om);refine⟨by simp[d,a],k.lim.set _ k.car,fun j f=>?_,?_⟩
 .rw[gj om,k.rest j om];exact h.rest j om
 .rw[e,h.eq,en xs i b,c];grind
def kM.init(xs ys:List Nat)(n:Nat)(h:n=xs.length+ys.length):kM (bU n 0) xs ys 0 :=
 ⟨by simp[h],by intro x a;rw[(UN.1 a).2];omega,fun k _=>by simp[cT,tw];split<;>rfl,by
  have:aZ (bU n 0)=0:=by
   clear h
   induction n with
   | zero=>rfl
   | succ n ih=>simp[kb,aZ,ih]
  rw[this];simp[aZ]⟩
def iA(w wr:World)(ps:List Nat):Prop:=Below w.heap.size w wr/\gC wr w.heap.size 136 (dK ps 0)
def Bu(zs:List Nat)(k x:Nat):(dK zs 0).setIfInBounds k (.int .u32 x)=dK (zs.set k x) 0:=by
 simp[dK,List.map_set]
def iA.put(h:iA w wr ps)(k x:Nat):iA w (wr.setCell ⟨w.heap.size,k,none⟩ (.int .u32 x)) (ps.set k x):=by
 refine⟨h.1.setCell (ae _) _,?_⟩;have:=h.2.set_ k (.int .u32 x)
 rwa [Bu]at this
def iA.at_(h:iA w wr ps)(k:Nat)(a:k<ps.length):wr.cell? ⟨w.heap.size,k,none⟩=some (.int .u32 (ps.getD k 0))/\wr.frozen? ⟨w.heap.size,k,none⟩=false :=
 ⟨(h.2.cell k).trans (by rw[mp ps 0 k om];simp),h.2.frozen k⟩
def iA.start(w:World)(n:Nat):iA w (w.alloc (.cells (dK [] n) 136)) (bU n 0) :=
 ⟨(aX _ _).alloc (ae _) _,by simpa [dK]using gC.new w 136 (dK [] n)⟩
def H4(A B:Option Addr)(n m c d L:Nat)(xs ys:List Nat)(w:World)(hn:n<=268435456)(hm:m<=268435456)(hnm:¬(n<=1/\m<=1))(hL:L<=w.heap.size)(hx:cG w L A n xs)(hy:cG w L B m ys) :
  Calls ah 140 #[.slice A n c,.slice B m d] w (qk w (aZ xs*aZ ys)):=by
 have hmk:=DD (n+m) om;rw[eB]at hmk;have HX:=ac hx;clear hx;have HY:=ac hy;clear hy;have h12:1<n∨n<=1/\1<m:=om
 clear hnm;rcases h12 with h1|⟨h1,h2⟩
 .have h1i:¬(n:Int)<=1:=om
  have h1j:decide ((n:Int)<=1)=false:=by simpa using h1i
  go_enter func140,Vk
  go_wp2;clear hmk
  go_loopw [34] (fun iv wr=>∃(i:Nat) (ps:List Nat),i<=n/\iv=.int .i64 i/\Hid (iA w wr ps)/\Hid (kM ps xs ys i)) (fun iv _=>n-(intOf iv).toNat)
  case atStart=>exact⟨0,_,om,rfl,ac (iA.start w (n+m)),ac (kM.init xs ys (n+m) (by rw[HX.out.1,HY.out.1]))⟩
  case round =>
   obtain⟨i,ps,hi,rfl,HF,HS⟩:=hrel;by_cases hin:i<n
   .obtain⟨ad,x,rfl,hab,hxx,hx4,hcx⟩:=(HX.out.below HF.out.1 hL).at_ (k:=i) om;have HXX:=ac hxx;clear hxx;have hin':(i:Int)<n:=om
    have hi0:(0:Int)<=i:=om
    by_cases hx0:x=0
    .subst hx0;go_wp2
     go_roundw
     case rel=>exact⟨i+1,ps,om,by go_num,HF,ac (HS.out.zero (by rw[HX.out.1];exact hin) HXX.out)⟩
     case measure=>simp[intOf];omega
    .have hx0':((x:Int)==0)=false:=by simp;omega
     go_wp2;rw[show i+m+1-i=m+1 from by omega]
     go_loopw [9,51] (fun cv jv wr'=>∃(j car:Nat) (qs:List Nat),j<=m/\jv=.int .i64 j/\cv=.int .u64 car/\car<4294967296/\Hid (iA w wr' qs)/\Hid (sI ps qs ys x i j car)) (fun _ jv _=>m-(intOf jv).toNat)
     case atStart=>exact⟨0,0,ps,om,rfl,rfl,om,HF,ac HS.out.start⟩
     case round =>
      clear HF hcx;obtain⟨j,car,qs,hj,rfl,rfl,hcar,HG,HI⟩:=hrel;have hql:qs.length=n+m:=by rw[HI.out.len,HS.out.len,HX.out.1,HY.out.1]
      by_cases hjm:j<m
      .obtain⟨bd,y,rfl,hbb,hyy,hy4,hcy⟩:=(HY.out.below HG.out.1 hL).at_ (k:=j) om;have HYY:=ac hyy;clear hyy;obtain⟨hcp,hfp⟩:=HG.out.at_ (i+j) om;have hp4:=HI.out.lim.getD (i+j);generalize hpp:qs.getD (i+j) 0=p at hcp hp4;have HPP:=ac hpp;clear hpp;obtain⟨z,hz,hz4⟩:∃z:Nat,x*y=z/\z<=18446744065119617025:=⟨_,rfl,nT hx4 hy4⟩;have hzi:(x:Int)*(y:Int)=(z:Int):=by rw[<-hz];simp
       have HZ:=ac hz;clear hz;have hjm':(j:Int)<m:=om
       have hjm2:(j:Int)<m+1:=om
       have hj0:(0:Int)<=j:=om
       go_wp2
       go_roundw
       case rel =>
        have h5:=HI.out.step (by rw[HY.out.1];exact hjm) om HYY.out HPP.out hx4 hy4 hp4
        have h6:=HG.out.put (i+j) ((car+(x*y+p))%4294967296);rw[HZ.out]at h5 h6;exact⟨j+1,(car+(z+p))/4294967296,_,om,by go_num,by go_num,om,ac (by simpa using h6),ac h5⟩
       case measure=>simp[intOf];omega
      .obtain rfl:j=m:=om
       obtain⟨hcp,hfp⟩:=HG.out.at_ (i+j) om;have HN:=ac (HS.out.next HI.out HY.out.1 (by rw[HX.out.1];exact hin) HXX.out)
       have HP:=ac (HG.out.put (i+j) car);have hjm2:(j:Int)<j+1:=om
       have hj0:(0:Int)<=j:=om
       go_wp2
       go_roundw
       case rel=>exact⟨i+1,_,om,by go_num,ac (by simpa using HP.out),HN⟩
       case measure=>simp[intOf];omega
   .obtain rfl:i=n:=om
    go_wp2_with fail
    have hl:=HS.out.len;rw[HX.out.1,HY.out.1]at hl;have hU:=cG.ofBlk HF.out.2 HS.out.lim HF.out.2.lt rfl;rw[hl]at hU;have hv:=HS.out.eq;rw[bR (by rw[HX.out.1];exact ae _)]at hv
    have HB:=ac HF.out.1;have HU:=ac hU;clear hU;have HV:=ac hv;clear hv;refine(kP _ _ _ _ _ _ (ae _) om HU.out).mono ?_;rintro e w' ⟨⟨r,hr,rfl,hU2,hT,hv2⟩,rfl⟩;have HU2:=ac hU2;clear hU2;have HV2:=ac hv2;clear hv2;go_wp2;go_ret;exact⟨_,_,_,_,rfl,hr,HU2.out,hT,HV2.out.trans HV.out,HB.out⟩
 .have h1i:(n:Int)<=1:=om
  have h1j:decide ((n:Int)<=1)=true:=by simpa using h1i
  have h2i:¬(m:Int)<=1:=om
  have h2j:decide ((m:Int)<=1)=false:=by simpa using h2i
  go_enter func140,Vk
  go_wp2;clear hmk
  go_loopw [34] (fun iv wr=>∃(i:Nat) (ps:List Nat),i<=n/\iv=.int .i64 i/\Hid (iA w wr ps)/\Hid (kM ps xs ys i)) (fun iv _=>n-(intOf iv).toNat)
  case atStart=>exact⟨0,_,om,rfl,ac (iA.start w (n+m)),ac (kM.init xs ys (n+m) (by rw[HX.out.1,HY.out.1]))⟩
  case round =>
   obtain⟨i,ps,hi,rfl,HF,HS⟩:=hrel;by_cases hin:i<n
   .obtain⟨ad,x,rfl,hab,hxx,hx4,hcx⟩:=(HX.out.below HF.out.1 hL).at_ (k:=i) om;have HXX:=ac hxx;clear hxx;have hin':(i:Int)<n:=om
    have hi0:(0:Int)<=i:=om
    by_cases hx0:x=0
    .subst hx0;go_wp2
     go_roundw
     case rel=>exact⟨i+1,ps,om,by go_num,HF,ac (HS.out.zero (by rw[HX.out.1];exact hin) HXX.out)⟩
     case measure=>simp[intOf];omega
    .have hx0':((x:Int)==0)=false:=by simp;omega
     go_wp2;rw[show i+m+1-i=m+1 from by omega]
     go_loopw [9,51] (fun cv jv wr'=>∃(j car:Nat) (qs:List Nat),j<=m/\jv=.int .i64 j/\cv=.int .u64 car/\car<4294967296/\Hid (iA w wr' qs)/\Hid (sI ps qs ys x i j car)) (fun _ jv _=>m-(intOf jv).toNat)
     case atStart=>exact⟨0,0,ps,om,rfl,rfl,om,HF,ac HS.out.start⟩
     case round =>
      clear HF hcx;obtain⟨j,car,qs,hj,rfl,rfl,hcar,HG,HI⟩:=hrel;have hql:qs.length=n+m:=by rw[HI.out.len,HS.out.len,HX.out.1,HY.out.1]
      by_cases hjm:j<m
      .obtain⟨bd,y,rfl,hbb,hyy,hy4,hcy⟩:=(HY.out.below HG.out.1 hL).at_ (k:=j) om;have HYY:=ac hyy;clear hyy;obtain⟨hcp,hfp⟩:=HG.out.at_ (i+j) om;have hp4:=HI.out.lim.getD (i+j);generalize hpp:qs.getD (i+j) 0=p at hcp hp4;have HPP:=ac hpp;clear hpp;obtain⟨z,hz,hz4⟩:∃z:Nat,x*y=z/\z<=18446744065119617025:=⟨_,rfl,nT hx4 hy4⟩;have hzi:(x:Int)*(y:Int)=(z:Int):=by rw[<-hz];simp
       have HZ:=ac hz;clear hz;have hjm':(j:Int)<m:=om
       have hjm2:(j:Int)<m+1:=om
       have hj0:(0:Int)<=j:=om
       go_wp2
       go_roundw
       case rel =>
        have h5:=HI.out.step (by rw[HY.out.1];exact hjm) om HYY.out HPP.out hx4 hy4 hp4
        have h6:=HG.out.put (i+j) ((car+(x*y+p))%4294967296);rw[HZ.out]at h5 h6;exact⟨j+1,(car+(z+p))/4294967296,_,om,by go_num,by go_num,om,ac (by simpa using h6),ac h5⟩
       case measure=>simp[intOf];omega
      .obtain rfl:j=m:=om
       obtain⟨hcp,hfp⟩:=HG.out.at_ (i+j) om;have HN:=ac (HS.out.next HI.out HY.out.1 (by rw[HX.out.1];exact hin) HXX.out)
       have HP:=ac (HG.out.put (i+j) car);have hjm2:(j:Int)<j+1:=om
       have hj0:(0:Int)<=j:=om
       go_wp2
       go_roundw
       case rel=>exact⟨i+1,_,om,by go_num,ac (by simpa using HP.out),HN⟩
       case measure=>simp[intOf];omega
   .obtain rfl:i=n:=om
    go_wp2_with fail
    have hl:=HS.out.len;rw[HX.out.1,HY.out.1]at hl;have hU:=cG.ofBlk HF.out.2 HS.out.lim HF.out.2.lt rfl;rw[hl]at hU;have hv:=HS.out.eq;rw[bR (by rw[HX.out.1];exact ae _)]at hv
    have HB:=ac HF.out.1;have HU:=ac hU;clear hU;have HV:=ac hv;clear hv;refine(kP _ _ _ _ _ _ (ae _) om HU.out).mono ?_;rintro e w' ⟨⟨r,hr,rfl,hU2,hT,hv2⟩,rfl⟩;have HU2:=ac hU2;clear hU2;have HV2:=ac hv2;clear hv2;go_wp2;go_ret;exact⟨_,_,_,_,rfl,hr,HU2.out,hT,HV2.out.trans HV.out,HB.out⟩
def DC(A B:Option Addr)(n m c d L:Nat)(xs ys:List Nat)(w:World)(hn:n<=1)(hm:m<=1)(hx:cG w L A n xs)(hy:cG w L B m ys) :
  Calls ah 140 #[.slice A n c,.slice B m d] w (qk w (aZ xs*aZ ys)):=by
 have hx4:aZ xs<4294967296:=by
  have h:=jr hx.2.1;rw[hx.1]at h;have h2:(4294967296:Nat)^n<=4294967296^1:=cp om hn;omega
 have hy4:aZ ys<4294967296:=by
  have h:=jr hy.2.1;rw[hy.1]at h;have h2:(4294967296:Nat)^m<=4294967296^1:=cp om hm;omega
 have HX:=ac hx;clear hx;have HY:=ac hy;clear hy;have h1i:(n:Int)<=1:=om
 have h2i:(m:Int)<=1:=om
 obtain⟨z,hz,hz4⟩:∃z:Nat,aZ xs*aZ ys=z/\z<=18446744065119617025:=⟨_,rfl,nT hx4 hy4⟩;generalize hvx:aZ xs=x at hz hx4;generalize hvy:aZ ys=y at hz hy4;have hzi:(x:Int)*(y:Int)=(z:Int):=by rw[<-hz];simp
 have HVX:=ac hvx;clear hvx;have HVY:=ac hvy;clear hvy;rw[hz];have HZ:=ac hz;clear hz
 go_enter func140,Vk
 go_wp2_with fail
 refine(mC A n c L xs _ om HX.out).mono ?_;rintro e w' ⟨rfl,rfl⟩;rw[HVX.out]
 go_wp2_with fail
 refine(mC B m d L ys _ om HY.out).mono ?_;rintro e w' ⟨rfl,rfl⟩;rw[HVY.out]
 go_wp2_with fail
 refine(kz z _ om).mono ?_;rintro e w1 ⟨A1,k,c1,zs,rfl,hk,hU,hT,hv,hb1⟩;have HU:=ac hU;clear hU;have HV:=ac hv;clear hv;have HB:=ac hb1;clear hb1;go_wp2;go_ret;exact⟨_,_,_,_,rfl,hk,HU.out,hT,HV.out,HB.out⟩
def H5(A B:Option Addr)(n m c d L:Nat)(xs ys:List Nat)(w:World)(e:n<=268435456)(f:m<=268435456)(g:L<=w.heap.size)(a:cG w L A n xs)(b:cG w L B m ys) :
  Calls ah 140 #[.slice A n c,.slice B m d] w (qk w (aZ xs*aZ ys)):=by
 by_cases h:n<=1/\m<=1
 .exact DC A B n m c d L xs ys w h.1 h.2 a b
 .exact H4 A B n m c d L xs ys w e f h g a b
def ML(c d:Bool)(a b:Nat):sg (c != d) (a*b)=sg c a*sg d b:=by
 cases c<;>cases d<;>simp[sg]<;>grind
def Ra(va vb:Value)(za zb:Int)(B:Nat)(w:World)(hB:B<=w.heap.size)(ha:eJ w B va za)(hb:eJ w B vb zb)(sa:nl za.natAbs<=268435456)(sb:nl zb.natAbs<=268435456) :
  Calls ah 83 #[va,vb] w (dL w (za*zb)):=by
 obtain⟨s1,A,n,c,xs,rfl,hnc,hx,tx,rfl⟩:=ha;obtain⟨s2,D,m,d,ys,rfl,hmd,hy,ty,rfl⟩:=hb;rw[fP,<-aJ hx tx]at sa;rw[fP,<-aJ hy ty]at sb;have HX:=ac hx;clear hx;have HY:=ac hy;clear hy;have HTX:=ac tx;clear tx;have HTY:=ac ty;clear ty
 go_enter func83,ntmps83
 go_wp2;obtain⟨hb0,k1,k2,k3⟩:=AB w #[aq s1,ao A n c] #[aq s2,ao D m d] #[aq false,ao none 0 0];generalize (((w.alloc (Obj.cells #[aq s1,ao A n c] 50)).alloc (Obj.cells #[aq s2,ao D m d] 50)).alloc (Obj.cells #[aq false,ao none 0 0] 50))=W at hb0 k1 k2 k3 ⊢;obtain⟨a0,a1⟩:=fm k1;obtain⟨b0,b1⟩:=fm k2;have HK3:=ac k3;clear k3 k1 k2;have HB0:=ac hb0;clear hb0;have hg2:w.heap.size+2<W.heap.size:=HK3.out.lt;have HS:=ac (show ∀w1,Below (w.heap.size+2) W w1->(w1.cell? ⟨w.heap.size,0,none⟩=some (.bool s1)/\w1.cell? ⟨w.heap.size,1,none⟩=some (.slice A n c)/\w1.cell? ⟨w.heap.size+1,0,none⟩=some (.bool s2)/\w1.cell? ⟨w.heap.size+1,1,none⟩=some (.slice D m d)/\Below (w.heap.size+2) W w1)from
  fun w1 h=>⟨(h.cell (by show w.heap.size<_;omega)).trans a0,(h.cell (by show w.heap.size<_;omega)).trans a1,(h.cell (by show w.heap.size+1<_;omega)).trans b0,(h.cell (by show w.heap.size+1<_;omega)).trans b1,h⟩)
 have HUX:Hid (cG W.drew B A n xs):=ac (HX.out.below HB0.out.drew hB);have HUY:Hid (cG W.drew B D m ys):=ac (HY.out.below HB0.out.drew hB);have hkl:∀(k:Nat) (zs:List Nat) (w':World) (Bb:Nat) (A':Option Addr),cG w' Bb A' k zs->oW zs->aZ zs=aZ xs*aZ ys->k<=536870912:=by
  intro k zs w' Bb A' hu ht hv;have h1:=aJ hu ht;have h2:=SI (aZ xs) (aZ ys);rw[<-aJ HX.out HTX.out,<-aJ HY.out HTY.out]at h2;rw[hv]at h1;omega
 have HKL:=ac hkl;clear hkl
 go_region_held3 (fun w'=>w'.cell? ⟨w.heap.size,0,none⟩=some (.bool s1)/\w'.cell? ⟨w.heap.size,1,none⟩=some (.slice A n c)/\w'.cell? ⟨w.heap.size+1,0,none⟩=some (.bool s2)/\w'.cell? ⟨w.heap.size+1,1,none⟩=some (.slice D m d)/\Below (w.heap.size+2) W w')
  (first|exact HS.out _ (aX _ _).drew|assumption|exact HS.out _ (by assumption)|exact HS.out _ (eG (eG (by assumption) sm _) sm _))
  (first
   | (go_at_call_of 136 (ao A n c);refine(fY A n c B xs W.drew hnc om HUX.out HTX.out).mono ?_;rintro e w' ⟨rfl,rfl⟩)
   | (go_at_call_of 136 (ao D m d);refine(fY D m d B ys W.drew hmd om HUY.out HTY.out).mono ?_;rintro e w' ⟨rfl,rfl⟩)
   | (go_at_call 140;refine(H5 A D n m c d B xs ys W.drew sa sb (by show B<=W.heap.size;omega) HUX.out HUY.out).mono ?_;rintro e w1 ⟨A1,k,c1,zs,rfl,hk1,hU1,hT1,hv1,hbn1⟩;have hk2:=HKL.out _ _ _ _ _ hU1 hT1 hv1;have HU1:=ac hU1;clear hU1;have HT1:=ac hT1;clear hT1;have HV1:=ac hv1;clear hv1;have hB1:Below (w.heap.size+2) W w1:=(aX _ W).drew.trans (hbn1.mono (by show _<=W.heap.size;omega));have HK2:=ac (gC.below (w:=W.drew) HK3.out hbn1 hg2);clear hbn1;have hsz:=HK2.out.lt)
   | (go_at_call 134;refine(gZ (s1 != s2) A1 k c1 w1.heap.size zs w1 hk1 om (ae _) HU1.out HT1.out).mono ?_;rintro e w2 ⟨v,rfl,hI,hbn⟩;obtain⟨neg,A2,n2,c2,zs2,rfl,hI2⟩:=hI;have hB2:Below (w.heap.size+2) W w2:=hB1.trans (hbn.mono om);have HI:=ac hI2;clear hI2;have hk3:=HK2.out.below hbn hsz;obtain⟨e0,e1⟩:=fm hk3;have f0:=hk3.frozen 0;have f1:=hk3.frozen 1;have HK4:=ac hk3;clear hk3 hbn))
 go_wp2;exact cI (v:=.agg #[.bool neg,.slice A2 n2 c2]) (by simp[results,results83,go_sem,e0,e1]) rfl
   (dL.cell ⟨neg,A2,n2,c2,zs2,rfl,HI.out⟩ HK4.out (HB0.out.trans (hB2.mono om)) om (by rw[HV1.out,ML]))

def LA(B:Nat)(w wr:World)(g n:Nat)(ps:List Nat):Prop :=
 Below B w wr/\B<=g/\ps.length=n/\nh ps/\∃cs:Array Value,gC wr g 136 cs/\∀j,j<n->cs[j]? = some (.int .u32 (ps.getD j 0))
def LA.put(h:LA B w wr g n ps){k x:Nat}(p:k<n)(f:x<4294967296):LA B w (wr.setCell ⟨g,k,none⟩ (.int .u32 x)) g n (ps.set k x):=by
 obtain⟨i,b,c,l,cs,m,d⟩:=h;refine⟨i.setCell b _,b,by simpa using c,l.set k f,_,m.set_ k _,fun j a=>?_⟩
 by_cases e:j=k
 .subst e;have o:j<cs.size:=by
   rcases aC j cs.size with h|h
   .exact h
   .have:=d j a;rw[eC h]at this;cases this
  rw[iD o];simp[cT,c,a]
 .rw[dR (aj e),d j a,gj (aj e)]
def LA.at_(h:LA B w wr g n ps){k:Nat}(b:k<n):wr.cell? ⟨g,k,none⟩=some (.int .u32 (ps.getD k 0))/\wr.frozen? ⟨g,k,none⟩=false:=by
 obtain⟨d,e,f,i,cs,a,c⟩:=h;exact⟨(a.cell k).trans (c k b),a.frozen k⟩
def LA.u32(h:LA B w wr g n ps):cG wr wr.heap.size (some ⟨g,0,none⟩) n ps:=by
 obtain⟨i,k,b,c,cs,a,d⟩:=h;refine⟨b,c,fun _=>⟨_,rfl,a.lt,fun j f=>?_⟩⟩;have e:(⟨g,0,none⟩:Addr).add j=⟨g,j,none⟩:=by unfold Addr.add;split<;>simp_all
 rw[e];exact(a.cell j).trans (d j f)
def Ll(ad:Addr)(n c B:Nat)(xs:List Nat)(w:World)(hn:0<n)(hm:n<=1073741824)(hB:B<=w.heap.size)(h:cG w B (some ad) n xs) :
  Calls ah 196 #[.slice (some ad) n c] w fun e w'=>∃g c',e=.returned (.slice (some ⟨g,0,none⟩) n c')/\n<=c'/\LA w.heap.size w w' g n xs:=by
 have HX:=ac h;clear h;have q48:∀(w:World) (a:Option Addr) (n c n' c':Nat),(binOp .eql 48 (.slice a n c) (.slice none n' c')).run ah w=.ok (.bool a.isNone) w:=fun w a n c n' c'=>AY w _ _ a n c n' c' fV
 go_enter func196,Vg
 go_wp2_with (at_builtin;refine pM _ rfl _ _ 48 rfl w.heap.size 136 Tryz.t136 (.int .u32 0) 1 4 fV Ig GR Hh Iy rfl om _ 0 [] rfl (Vf (e:=136) (size:=1) w #[] 0 (ae _) (by simp[maxLen]) rfl) ad n c (xs.map (fun x:Nat=>dA .u32 x)) rfl (by simp[HX.out.1]) (cG.cells (HX.out.below ((aX _ _).alloc hB _) (ae _))) (by intro u hu;simp only[ie]at hu;obtain⟨x,_,rfl⟩:=hu;rfl) (by simp[maxLen];omega) om sm ?_)
 intro v' w1 hown hgrow hnil hat;obtain⟨h1,h2⟩:=hown;have h1':xs.length=n:=by simpa using h1
 rcases h2 with⟨h,_⟩|⟨g,cap,cur,rfl,hbase,hg,hnc,_,hcs,htake⟩
 .exact absurd h hnil
 have HB:=(((aX w.heap.size w).alloc (ae _) (Obj.cells #[] 136)).trans (ko hgrow (B:=w.heap.size) sm (by intro g h;cases h;exact ae _)))
 have hla:LA w.heap.size w w1 g n xs:=by
  refine⟨HB,hbase,h1',HX.out.2.1,cur,hg,fun j hj=>?_⟩;have h7:(cur.toList.take (n*1))[j]? = (xs.map (fun x:Nat=>dA .u32 x))[j]?:=by rw[htake]
  rw[fv om,lk,a8 (l:=xs) om]at h7;rw[<-Array.getElem?_toList,h7];simp[cT,a8 (om:j<xs.length)]
 have HL:=ac hla;clear hla HB hg htake hgrow hnil hat h1 hbase;go_wp2;go_ret;exact⟨g,cap,rfl,om,HL.out⟩
def KW(d:rest<b)(f:xs.getD k 0=x)(g:x<4294967296)(a:k<xs.length)(h:aZ zs*b+rest=aZ (xs.drop (k+1))) :
  (rest*4294967296+x)/b<4294967296/\(rest*4294967296+x)%b<b/\aZ ((rest*4294967296+x)/b::zs)*b+(rest*4294967296+x)%b=aZ (xs.drop k):=by
 have c:0<b:=om
 refine⟨?_,dj _ c,?_⟩
 .rw[xS c];have:(rest+1)*4294967296<=b*4294967296:=aB _ d;omega
 .have e:=dd (rest*4294967296+x) b;rw[rY a];have ex:xs[k]=x:=by simpa [cT,a8 a]using f
  rw[ex];simp only[aZ];rw[<-h];generalize (rest*4294967296+x)/b=q at *;generalize (rest*4294967296+x)%b=r at *
  grind
structure DL(xs ps zs:List Nat)(k n rest b:Nat):Prop where
 len:xs.length=n
 kn:k<=n
 eq:ps=xs.take k++zs
 zl:zs.length=n-k
 lt:rest<b
 sum:aZ zs*b+rest=aZ (xs.drop k)
def DL.init(a:xs.length=n)(c:0<b):DL xs xs [] n n 0 b :=
 ⟨a,ae _,by simp[<-a],sm,c,by simp[<-a,aZ]⟩
def DL.next(h:DL xs ps zs (k+1) n rest b)(f:nh xs)(g:ps.getD k 0=x) :
  DL xs (ps.set k ((rest*4294967296+x)/b)) ((rest*4294967296+x)/b::zs) k n ((rest*4294967296+x)%b) b/\(rest*4294967296+x)/b<4294967296/\x<4294967296:=by
 have i:=h.kn;have d:k<xs.length:=by have:=h.len;omega
 have a:xs.getD k 0=x:=by
  rw[<-g,h.eq];simp only[cT];rw[et (by simp;omega),fv om]
 have c:x<4294967296:=by rw[<-a];exact f.getD k
 obtain⟨l,o,p⟩:=KW h.lt a c d h.sum;refine⟨⟨h.len,om,?_,by simp[h.zl];omega,o,p⟩,l,c⟩
 rw[h.eq];generalize (rest*4294967296+x)/b=q;apply List.ext_getElem?;intro j;rw[List.getElem?_set];have r:(xs.take (k+1)++zs).length=n:=by simp[h.zl,h.len];omega
 by_cases e:k=j
 .subst e;rw[ai rfl,ai om,ef (by simp;omega)]
  simp[h.len];rw[ir om];simp
 .rw[af e];by_cases s:j<k
  .rw[et (by simp[h.len];omega),et (by simp[h.len];omega),fv om,fv om]
  .rw[ef (by simp[h.len];omega),ef (by simp[h.len];omega)]
   simp only[gS,h.len];rw[ir om,ir om];obtain⟨m,rfl⟩:∃m,j=k+1+m:=⟨j-(k+1),om⟩
   rw[(om:k+1+m-(k+1)=m),(om:k+1+m-k=m+1),ci]
def qY{a:Nat}(c:a<4294967296)(b:x<4294967296):bits .or .u64 ((a:Int)*4294967296) (x:Int)=((a*4294967296+x:Nat):Int):=by
 have h:=yc (a*4294967296) x om om;rw[Uz,Hs b,kF]at h;rw[<-h];rfl
def ww(B:Nat)(w0 w:World)(g n c b:Nat)(xs:List Nat)(hn:n<=1073741824)(hb:0<b)(hb4:b<4294967296)(h:LA B w0 w g n xs) :
  Calls ah 197 #[.slice (some ⟨g,0,none⟩) n c,.int .u32 b] w fun e w'=>∃ps,e=.returned (.int .u32 ((aZ xs%b:Nat):Int))/\LA B w0 w' g n ps/\aZ ps=aZ xs/b:=by
 have HL:=ac h.2.2.2.1;have hxl:=h.2.2.1;have HI:=ac (DL.init hxl hb);have HA:=ac h;clear h
 go_enter func197,ntmps197
 go_wp2
 go_loopw [5,6] (fun rv iv wr=>∃(k rest:Nat) (ps zs:List Nat),k<=n/\iv=.int .i64 ((k:Int)-1)/\rv=.int .u64 rest/\rest<b/\Hid (LA B w0 wr g n ps)/\Hid (DL xs ps zs k n rest b)) (fun _ iv _=>(intOf iv+1).toNat)
 case atStart=>exact⟨n,0,xs,[],om,rfl,rfl,hb,HA,HI⟩
 case round =>
  clear HA HI;obtain⟨k,rest,ps,zs,hk,rfl,rfl,hrb,HA,HI⟩:=hrel;rcases a6 k with h0|h0
  .subst h0;have hs:=HI.out.sum;have he:=HI.out.eq;simp only[Mb,wK,yR]at hs he;subst he;have hq:aZ ps=aZ xs/b/\rest=aZ xs%b:=by
    have h1:aZ xs=b*aZ ps+rest:=by rw[aA];exact hs.symm
    rw[h1];exact⟨by rw[kO hb,eO hrb];rfl,by rw[mK,dX hrb]⟩
   obtain⟨hq1,hr1⟩:=hq;have HR:=ac hr1;clear hr1;go_wp2;go_ret;exact⟨ps,by rw[<-HR.out];go_num,HA.out,hq1⟩
  .obtain⟨m,rfl⟩:∃m,k=m+1:=⟨k-1,om⟩
   obtain⟨hc,hf⟩:=HA.out.at_ (k:=m) om;generalize hpx:ps.getD m 0=x at hc;obtain⟨hD,hq4,hx4⟩:=HI.out.next HL.out hpx;have HD:=ac hD;clear hD hpx;have HO:=ac (qY (om:rest<4294967296) hx4)
   have HP:=HA.out.put (k:=m) om hq4;have e1:((m+1:Nat):Int)-1=m:=om
   rw[e1];have hm0:(m:Int)≥0:=om
   have hmn:(m:Int)<n:=om
   have hq64:(rest*4294967296+x)/b<18446744073709551616:=om
   have E1:(bits .or .u64 ((rest:Int)*4294967296) (x:Int)).tmod b=(((rest*4294967296+x)%b:Nat):Int):=by
    rw[HO.out,aL (cA _),lP]
   have E2:IntKind.u64.wrap ((bits .or .u64 ((rest:Int)*4294967296) (x:Int)).tdiv b)%4294967296=(((rest*4294967296+x)/b:Nat):Int):=by
    rw[HO.out,fM (cA _),<-lQ,cf];generalize (rest*4294967296+x)/b=q at *;omega
   have HE1:=ac E1;clear E1;have HE2:=ac E2;clear E2;have hrb2:=HD.out.lt;clear hq4 hq64;have HP2:=ac HP;clear HP;go_wp2;refine⟨⟨m,_,_,_,om,rfl,?_,hrb2,ac (by rw[HE2.out];exact HP2.out),HD⟩,?_⟩
   .rw[HE1.out]
   .simp[intOf]

end Go.Proofs.YtdobfmlmenaajaaGreatDoor
