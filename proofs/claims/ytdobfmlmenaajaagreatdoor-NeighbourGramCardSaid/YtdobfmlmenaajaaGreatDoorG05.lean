/-
  Lemmas for NeighbourGram.
-/
import Derived.Test.YtdobfmlmenaajaaGreatDoorG04
namespace Go.Proofs.YtdobfmlmenaajaaGreatDoor
open Go.RowKit Tryz
open _root_.Classical renaming choose→c9
open _root_.List renaming replicate→bN
open _root_.Option renaming none→ab
open Tryz renaming prog→ah
open Value renaming int→dh
set_option maxHeartbeats 6400000
set_option maxRecDepth 4096
set_option linter.all false
variable{a:Act}{ad:Addr}{cs':Array Value}{op:BinOp}{N b es f k:Nat}{M M' M'':Nat->Prop}{fr:Nat×Nat}{o:Obj}{d:TypeDesc}{t ty:TypeId}{i:TypeInfo}{u v z:Value}{w w':World}
def GM(A B:Option Addr)(n m c d L:Nat)(xs ys:List Nat)(w:World)(hn:n<=16777216)(hm:m<=16777216)(hL:L<=w.heap.size)(hx:cp w L A n xs)(hy:cp w L B m ys)(ty:oo ys)
  (h0:0<aZ ys) (hb1:n<=2) (hb2:2<m):Calls ah 189 #[.slice A n c,.slice B m d] w (mK w (aZ xs/aZ ys) (aZ xs%aZ ys)):=by
 have HX:=ac hx;clear hx;have HY:=ac hy;clear hy;have HTY:=ac ty;clear ty;have H0:=ac h0;clear h0;have hmk:=CN n om;have hbi:(n:Int)<=2:=om
 have hbj:¬(m:Int)<=2:=om
 have hwr:IntKind.i64.wrap (32*(n:Int))=32*(n:Int):=xI om om
 go_enter func189,TH
 go_wp2
 go_loopw [5,8] (fun rv iv wr=>∃(i Q R:Nat) (ps rs:List Nat) (A2:Option Addr) (k2 c2:Nat),i<=32*n/\iv=.int .i64 ((i:Int)-1)/\rv=.slice A2 k2 c2/\k2<=c2/\k2<=m/\Hid (ig w wr ps)/\Hid (mF ps/\ps.length=n/\aZ ps=Q*2^i)/\Hid (cp wr wr.heap.size A2 k2 rs/\oo rs/\aZ rs=R)/\Hid (tX (aZ xs) (aZ ys) Q R i)) (fun _ iv _=>(intOf iv+1).toNat)
 case atStart =>
  refine⟨32*n,0,0,bN n 0,[],none,0,0,om,?_,rfl,om,om,ac (ig.start w n),ac ⟨?_,sm,?_⟩,ac ⟨Ri _ _ _,yT,rfl⟩,ac ⟨?_,H0.out⟩⟩
  .go_num
  .intro x hx;rw[fV hx];omega
  .rw[yl];omega
  .rw[eA]
   .omega
   .have h:=iZ HX.out.2.1;rw[HX.out.1,yL]at h;exact h
 case round =>
  obtain⟨i,Q,R,ps,rs,A2,k2,c2,hi,rfl,rfl,hk2,hkm,HF,HP,HR,HD⟩:=hrel
  cases i with
  | zero =>
   have e0:((0:Nat):Int)-1=-1:=om
   rw[e0]
   go_wp2_with fail
   have hU:=cp.ofBlk HF.out.2 HP.out.1 HF.out.2.lt rfl;rw[HP.out.2.1]at hU;refine(fW _ _ _ _ _ _ (ae _) om (ae _) hU).mono ?_;rintro e w2 ⟨A3,k3,c3,zs,rfl,hk3,hU3,hT3,hv3,hb3⟩;have HU3:=ac hU3;clear hU3;have HT3:=ac hT3;clear hT3;have HV3:=ac hv3;clear hv3;have HB3:=ac hb3;clear hb3;clear hU;go_wp2;go_ret2;obtain⟨r1,r2,r3⟩:=HR.out;obtain⟨d1,d2⟩:=HD.out.done;exact⟨A3,k3,c3,zs,A2,k2,c2,rs,rfl,hk3,hk2,HU3.out,(r1.below HB3.out (ae _)).more HB3.out.size,HT3.out,r2,by rw[HV3.out,HP.out.2.2,d1];simp,by rw[r3,d2],HF.out.1.trans (HB3.out.mono HF.out.1.size)⟩
  | succ i =>
   have e0:((i+1:Nat):Int)-1=(i:Int):=om
   rw[e0];obtain⟨ad,x,rfl,hab,hxx,hx4,hcx⟩:=(HX.out.below HF.out.1 hL).at_ (k:=i/32) om;have HXX:=ac hxx;clear hxx;have hi0:(0:Int)<=i:=om
   have hi32:(i:Int)/32<n:=om
   have hi33:(0:Int)<=(i:Int)/32:=om
   have hi34:((i:Int)/32).toNat=i/32:=om
   have hbit:bits .and .u32 ((x:Int)/2^(i%32)) 1=((aZ xs/2^i%2:Nat):Int):=by
    have h:=u32_and_nat (x/2^(i%32)) 1 (dR (fX _ _) hx4) om;rw[Ta,<-HXX.out,IW HX.out.2.1 i (by rw[HX.out.1];omega)]at h
    rw[<-h,<-HXX.out];simp
   have hb1:aZ xs/2^i%2<=1:=om
   generalize hbb:aZ xs/2^i%2=b at hbit hb1;have HBB:=ac hbb;clear hbb;have HBIT:=ac hbit;clear hbit
   go_wp2_with fail
   rw[HBIT.out];refine(zr A2 k2 c2 wr.heap.size b rs wr om (ae _) HR.out.1 hb1).mono ?_;rintro e w1 ⟨A3,k3,c3,zs3,rfl,hc3,hk3,hU3,hv3,hb3⟩;have HU3:=ac hU3;clear hU3;have HV3:=ac hv3;clear hv3;have HB3:=ac (HF.out.1.trans (hb3.mono HF.out.1.size));have HF3:Hid (ig w w1 ps):=ac ⟨HB3.out,HF.out.2.below hb3 HF.out.2.lt⟩;clear hb3
   go_wp2_with fail
   refine(fW A3 k3 c3 _ zs3 w1 hc3 om (ae _) HU3.out).mono ?_;rintro e w2 ⟨A4,k4,c4,zs4,rfl,hc4,hU4,hT4,hv4,hb4⟩;have HF4:Hid (ig w w2 ps):=ac ⟨HB3.out.trans (hb4.mono HB3.out.size),HF3.out.2.below hb4 HF3.out.2.lt⟩;have hk4:k4<=k2+1:=by
    rw[aI hU4 hT4,hv4];exact bU (jL.2 (by have:=iZ HU3.out.2.1;rw[HU3.out.1]at this;exact this)) hk3
   have HU4:=ac hU4;clear hU4;have HT4:=ac hT4;clear hT4;have HV4:Hid (aZ zs4=2*R+b):=ac (by rw[hv4,HV3.out,HR.out.2.2]);clear hv4 hb4 HU3 HV3 HB3 HF3 HBIT
   have hY2:cp w2 w2.heap.size B m ys:=(HY.out.below HF4.out.1 hL).more (by have:=HF4.out.1.size;omega)
   have HY2:=ac hY2;clear hY2;rcases aA (2*R+b) (aZ ys)with hlt|hge
   .have hcm:kO (aZ zs4) (aZ ys)=-1:=by rw[HV4.out];exact ln hlt
    have HCM:=ac hcm;clear hcm;have HD2:=ac (HD.out.less (by rw[HBB.out];exact hlt))
    have hk5:k4<=m:=by
     rw[aI HU4.out HT4.out,aI HY.out HTY.out,HV4.out];exact fF (dw hlt)
    clear hlt
    go_wp2_with fail
    refine(lP A4 B k4 m c4 d w2.heap.size zs4 ys w2 om om HU4.out HY2.out HT4.out HTY.out).mono ?_;rintro e w5 ⟨rfl,hst⟩;rw[HCM.out];obtain⟨q,rfl⟩:=hst;go_wp2
    go_roundw
    case rel=>exact⟨i,2*Q,2*R+b,ps,zs4,A4,k4,c4,om,by go_num,rfl,hc4,hk5,ac ⟨HF4.out.1.trans ((dO.refl w2).more q |>.below _),HF4.out.2⟩,ac ⟨HP.out.1,HP.out.2.1,by rw[HP.out.2.2,bQ];grind⟩,ac ⟨HU4.out,HT4.out,HV4.out⟩,ac (by have:=HD2.out;rw[HBB.out]at this;exact this)⟩
    case measure=>simp[intOf]
   .have hcm:0<=kO (aZ zs4) (aZ ys):=by
     rw[HV4.out];rcases aA (aZ ys) (2*R+b)with h|h
     .rw[ka h];omega
     .rw[lp om];omega
    have hmk4:m<=k4:=by
     rw[aI HU4.out HT4.out,aI HY.out HTY.out,HV4.out];exact fF hge
    have HD2:Hid (tX (aZ xs) (aZ ys) (2*Q+1) (2*R+b-aZ ys) i):=ac (by have:=HD.out.more (by rw[HBB.out];exact hge);rw[HBB.out]at this;exact this)
    have HGE:=ac hge;clear hge;generalize hcg:kO (aZ zs4) (aZ ys)=cm at hcm;have HCM:=ac hcg;clear hcg
    go_wp2_with fail
    refine(lP A4 B k4 m c4 d w2.heap.size zs4 ys w2 om om HU4.out HY2.out HT4.out HTY.out).mono ?_;rintro e w5 ⟨rfl,hst⟩;rw[HCM.out];obtain⟨q,rfl⟩:=hst;have HUq:Hid (cp (w2.drewN q) (w2.drewN q).heap.size A4 k4 zs4):=ac HU4.out;have HYq:Hid (cp (w2.drewN q) (w2.drewN q).heap.size B m ys):=ac HY2.out;have HFq:Hid (ig w (w2.drewN q) ps):=ac ⟨HF4.out.1.trans ((dO.refl w2).more q |>.below _),HF4.out.2⟩
    clear HF4 HY2 HF HR;generalize w2.drewN q=wq at HUq HYq HFq ⊢
    go_wp2_with fail
    refine(lm A4 B k4 m c4 d wq.heap.size zs4 ys wq hmk4 om (ae _) HUq.out HYq.out (by rw[HV4.out];exact HGE.out)).mono ?_
    rintro e w6 ⟨A6,k6,c6,zs6,rfl,hc6,hk6,hU6,hv6,hb6⟩;have HF6:Hid (ig w w6 ps):=ac ⟨HFq.out.1.trans (hb6.mono HFq.out.1.size),HFq.out.2.below hb6 HFq.out.2.lt⟩;have HU6:=ac hU6;clear hU6;have HV6:=ac hv6;clear hv6 hb6 HFq HYq HUq
    go_wp2_with fail
    refine(yv A6 k6 c6 _ zs6 w6 hc6 om (ae _) HU6.out).mono ?_;rintro e w7 ⟨A7,k7,c7,zs7,rfl,hc7,hU7,hT7,hv7,hb7,hN7⟩;have HN7:Hid (∀ad,A7=some ad->ad.block≠w.heap.size):=ac (fun ad h=>by have h1:=hN7 ad h;have h2:=HF6.out.2.lt;omega)
    clear hN7;have HF7:Hid (ig w w7 ps):=ac ⟨HF6.out.1.trans (hb7.mono HF6.out.1.size),HF6.out.2.below hb7 HF6.out.2.lt⟩;have HV7:Hid (aZ zs7=2*R+b-aZ ys):=ac (by rw[hv7,HV6.out,HV4.out])
    have hk7:k7<=m:=by
     rw[aI hU7 hT7,aI HY.out HTY.out,HV7.out];exact fF (dw HD2.out.lt)
    have HU7:=ac hU7;clear hU7;have HT7:=ac hT7;clear hT7 hv7 hb7 HF6 HU6 HV6;obtain⟨s1,s2,s3⟩:=If HP.out.1 (Q:=Q) (i:=i) (by rw[HP.out.2.1];omega) HP.out.2.2
    obtain⟨hcp,hfp⟩:=HF7.out.at_ (i/32) (by rw[HP.out.2.1];omega)
    have hp4:=HP.out.1.getD (i/32);generalize hpp:ps.getD (i/32) 0=p at hcp s1 s2 s3 hp4;clear hpp;have hor:bits .or .u32 (p:Int) (IntKind.u32.wrap (2^((i:Int)%32).toNat))=((p+2^(i%32):Nat):Int):=by
     have h1:((i:Int)%32).toNat=i%32:=om
     have h2:2^(i%32)<4294967296:=by
      have:2^(i%32)<2^32:=jy om om;simpa using this
     have h3:((2:Int)^(i%32))=((2^(i%32):Nat):Int):=by simp
     have h4:IntKind.u32.wrap ((2^(i%32):Nat):Int)=((2^(i%32):Nat):Int):=by rw[KA];exact yi h2
     rw[h1,h3,h4,Tv _ _ hp4 h2,s1]
    have HOR:=ac hor;clear hor;have HS3:=ac s3;clear s3 s1;have HS2:=ac s2;clear s2;have hU7d:cp w7.drew w7.drew.heap.size A7 k7 zs7:=HU7.out;have HU7d:=ac hU7d;clear hU7d;have HF7d:Hid (ig w w7.drew ps):=ac ⟨HF7.out.1.drew,HF7.out.2⟩;go_wp2;have ht1:(i:Int).tdiv 32=(i:Int)/32:=fz hi0;have ht2:(i:Int).tmod 32=(i:Int)%32:=aK hi0;have ht3:IntKind.i64.wrap ((i:Int)/32)=(i:Int)/32:=xI om om;have ht4:(0:Int)<=(i:Int)%32:=om
    go_still_tail 9,kr
    rw[HOR.out];change wpList _ _ _ _ _ w7.drew;clear ht1 ht2 ht3 ht4 HOR HU7 HF7;have hcp':w7.drew.cell? ⟨w.heap.size,i/32,none⟩=some (.int .u32 p):=hcp;have hfp':w7.drew.frozen? ⟨w.heap.size,i/32,none⟩=false:=hfp;clear hcp hfp;generalize w7.drew=w8 at hcp' hfp' HU7d HF7d ⊢;go_wp2
    go_roundw
    case rel =>
     have hF:=HF7d.out.put (i/32) (p+2^(i%32));refine⟨i,2*Q+1,2*R+b-aZ ys,ps.set (i/32) (p+2^(i%32)),zs7,A7,k7,c7,om,by go_num,rfl,hc7,hk7,ac hF,ac ⟨HP.out.1.set _ HS2.out,by rw[Ty];exact HP.out.2.1,HS3.out⟩,ac ⟨?_,HT7.out,HV7.out⟩,HD2⟩
     exact yq HU7d.out HN7.out
    case measure=>simp[intOf]
def GO(A B:Option Addr)(n m c d L:Nat)(xs ys:List Nat)(w:World)(f:n<=16777216)(g:m<=16777216)(h:L<=w.heap.size)(a:cp w L A n xs)(b:cp w L B m ys)(ty:oo ys)
  (e:0<aZ ys):Calls ah 189 #[.slice A n c,.slice B m d] w (mK w (aZ xs/aZ ys) (aZ xs%aZ ys)):=by
 by_cases i:n<=2
 .by_cases j:m<=2
  .exact C0 A B n m c d L xs ys w i j a b e
  .exact GM A B n m c d L xs ys w f g h a b ty e i om
 .exact GN A B n m c d L xs ys w f g h a b ty e om

inductive AV where
 | int (k:IntKind) (n:Int)
 | bool (b:Bool)
 | big (z:Int)
 | nil
 | sl (es b off len:Nat)
 | ptr (es b i:Nat)
 | lst (es n:Nat) (g:Nat->AV)
 | pat (es:Nat) (x:AV)
 | tup (l:List AV)
 | agg (l:List AV)
 | fn (f:Nat) (l:List AV)
 | mag (n:Nat)
 | fp (b i f:Nat)
 | bset (p:Bool->Prop)
 | any
 | nfn
 | mfn (f:Nat) (l:List AV)
variable{x y:AV}{K:AV->Prop}{args:List AV}
structure eE where
 ty:TypeId
 es:Nat
 n:Nat
 g:Nat->AV
variable{X:eE}
abbrev St:=Nat->Option eE
variable{post post':AV->St->Prop}{S:St}
def St.dom(S:St)(b:Nat):Prop:=S b≠none
def St.none:St:=fun _=>ab
def St.upd(S:St)(b:Nat)(x:eE):St:=fun k=>if k=b then some x else S k
def one:Value->Prop
 | .agg _=>False
 | .tuple _=>False
 | _=>True
def lD:Value->Prop
 | .int .u32 _=>False
 | _=>True
def reads(cs:Array Value)(off:Nat):Nat->Value->Prop
 | 1,u=>cs[off]? = some u/\one u
 | 2,u=>∃x y,u=.agg #[x,y]/\one x/\one y/\cs[off]? = some x/\cs[off+1]? = some y
 | _,_=>False
def uK(w:World)(b off es:Nat)(u:Value):Prop:=∃cs ty fr,w.heap[b]? = some (.cells cs ty fr)/\reads cs off es u
mutual
def bn(w:World)(M:Nat->Prop):AV->Value->Prop
 | .int k n,v=>v=.int k n
 | .bool b,v=>v=.bool b
 | .big z,v=>er w w.heap.size v z
 | .nil,v=>v=.slice none 0 0
 | .sl es b off len,v=>∃cap cs ty fr,v=.slice (some ⟨b,es*off,none⟩) len cap/\len<=cap/\w.heap[b]? = some (.cells cs ty fr)/\es*(off+cap)<=cs.size
 | .ptr es b i,v=>v=.pointer (some ⟨b,es*i,none⟩)
 | .lst es n g,v=>∃A c,v=.slice A n c/\n<=c/\(0<n->∃b off,A=some ⟨b,off,none⟩/\b<w.heap.size/\¬M b/\∀j,j<n->∃u,uK w b (off+es*j) es u/\bn w M (g j) u)
 | .pat es x,v=>∃b off u,v=.pointer (some ⟨b,off,none⟩)/\b<w.heap.size/\¬M b/\uK w b off es u/\bn w M x u
 | .tup l,v=>∃vs:List Value,v=.tuple vs.toArray/\aW w M l vs
 | .agg l,v=>∃vs:List Value,v=.agg (vs.flatMap (fun u=>u.cells.toList)).toArray/\aW w M l vs
 | .fn f l,v=>∃vs:List Value,v=.func (.func f) #[] vs.toArray/\aW w M l vs
 | .mag n,v=>er w w.heap.size (.agg #[.bool false,v]) (n:Int)
 | .fp b i f,v=>v=.pointer (some ⟨b,2*i+f,none⟩)
 | .bset p,v=>∃s,v=.bool s/\p s
 | .any,_=>True
 | .nfn,v=>v=.nilFunc
 | .mfn f l,v=>∃vs:List Value,v=.func (.func f) vs.toArray #[]/\aW w M l vs
def aW(w:World)(M:Nat->Prop):List AV->List Value->Prop
 | [],[]=>True
 | a::l,v::vs=>bn w M a v/\aW w M l vs
 | [],_::_=>False
 | _::_,[]=>False
end
def BlkS(w:World)(S:St):Prop:=∀b x,S b=some x->∃cs,w.heap[b]? = some (.cells cs x.ty (0,0))/\x.es*x.n<=cs.size /\
 (∀j,j<x.n->∃u,reads cs (x.es*j) x.es u/\bn w S.dom (x.g j) u)/\∀(k:Nat) (y:Value),cs[k]? = some y->lD y
def uP:List Int:=[7,11,13,17,19,23,29,31]
def tV(w:World):Prop:=∃cs ty,w.heap[0]? = some (.cells cs ty (0,0))/\∀r,r<8->cs[r]? = some (.int .i64 (uP.getD r 0))
structure ep(w:World)(S:St):Prop where
 z:S 0=none
 gl:tV w
 blk:BlkS w S
instance (w:World) (S:St):CoeFun (ep w S) (fun _=>BlkS w S):=⟨ep.blk⟩
def NoU(M:Nat->Prop)(w:World):Prop:=∀b,M b->∀cs ty fr,w.heap[b]? = some (.cells cs ty fr)->∀(k:Nat) (y:Value),cs[k]? = some y->lD y
def ep.noU(h:ep w S):NoU S.dom w:=by
 intro b a cs ty fr c k y d;unfold St.dom at a
 cases e:S b with
 | none=>exact absurd e a
 | some x =>
  obtain⟨cs',f,_,_,g⟩:=h b x e;rw[f]at c
  cases c
  exact g k y d
structure dl(M M':Nat->Prop)(w w':World):Prop where
 os:w'.os=w.os
 tape:w'.tape=w.tape
 output:w'.output=w.output
 size:w.heap.size<=w'.heap.size
 keep:∀k,k<w.heap.size->¬M k->w'.heap[k]? = w.heap[k]?
 shape:∀(k:Nat) (cs:Array Value) (ty:TypeId) (fr:Nat×Nat),w.heap[k]? = some (Obj.cells cs ty fr)->∃cs':Array Value,w'.heap[k]? = some (Obj.cells cs' ty fr)/\cs'.size=cs.size
 own:∀k,k<w.heap.size->M' k->M k
def dl.refl(M:Nat->Prop)(w:World):dl M M w w:=⟨rfl,rfl,rfl,ae _,fun _ _ _=>rfl,fun _ cs _ _ h=>⟨cs,h,rfl⟩,fun _ _ h=>h⟩
def dl.trans{a b c:World}(h:dl M M' a b)(k:dl M' M'' b c):dl M M'' a c :=
 ⟨k.os.trans h.os,k.tape.trans h.tape,k.output.trans h.output,bU h.size k.size,
   fun i d e=>(k.keep i (dr d h.size) (fun f=>e (h.own i d f))).trans (h.keep i d e),
   fun i cs ty fr l=>by
    obtain⟨g,m,n⟩:=h.shape i cs ty fr l;obtain⟨j,o,p⟩:=k.shape i g ty fr m;exact⟨j,o,p.trans n⟩,
   fun i d e=>h.own i d (k.own i (dr d h.size) e)⟩
def dl.weaken{a b:World}(h:dl M M' a b)(c:∀k,M'' k->M' k):dl M M'' a b :=
 ⟨h.os,h.tape,h.output,h.size,h.keep,h.shape,fun k d e=>h.own k d (c k e)⟩
def tV.grow(h:tV w)(d:dl M M' w w')(e:¬M 0):tV w':=by
 obtain⟨cs,ty,b,f⟩:=h;have a:0<w.heap.size:=by
  rcases aA 0 w.heap.size with a|c
  .exact a
  .rw[d7 c]at b;cases b
 exact⟨cs,ty,(d.keep 0 a e).trans b,f⟩
def ep.n0(h:ep w S):¬S.dom 0:=fun k=>k h.z
def ep.grow(h:ep w S)(a:dl S.dom M' w w'):tV w':=h.gl.grow a h.n0
def tV.pos(h:tV w):0<w.heap.size:=by
 obtain⟨cs,ty,c,d⟩:=h;rcases aA 0 w.heap.size with a|b
 .exact a
 .rw[d7 b]at c;cases c
def St.upd0(h:S 0=ab)(a:b≠0):S.upd b X 0=ab:=by
 unfold St.upd;rw[af (fun e=>a e.symm)];exact h
def fP(h:w.heap[b]? = some o):b<w.heap.size:=by
 rcases aA b w.heap.size with a|c
 .exact a
 .rw[d7 c]at h;cases h
def zF(h:w.cell? ad=some v):∃cs ty fr,w.heap[ad.block]? = some (.cells cs ty fr)/\∃k:Nat,cs[k]? = some v:=by
 unfold World.cell? at h;split at h
 .rename_i cs ty fr a;split at h
  .cases h
  .exact⟨cs,ty,fr,a,_,h⟩
 .cases h
def er.grow(l:NoU M w)(f:dl M M' w w'){v:Value}{z:Int}(h:er w w.heap.size v z):er w' w'.heap.size v z:=by
 obtain⟨neg,A,n,c,xs,m,o,b,p,q⟩:=h;refine⟨neg,A,n,c,xs,m,o,⟨b.1,b.2.1,fun r=>?_⟩,p,q⟩;obtain⟨ad,e,g,s⟩:=b.2.2 r;refine⟨ad,e,dr g f.size,fun j t=>?_⟩;have a:=s j t;have d:¬M ad.block:=by
  intro d;obtain⟨cs,ty,fr,i,k,u⟩:=zF a;rw[mS]at i;exact l _ d cs ty fr i k _ u
 rw[<-a];exact AD (w:=w) (by rw[mS];exact f.keep _ g d)
def uK.grow(a:dl M M' w w'){b off es:Nat}{u:Value}(c:b<w.heap.size)(d:¬M b)(h:uK w b off es u):uK w' b off es u:=by
 obtain⟨cs,ty,fr,e,f⟩:=h;exact⟨cs,ty,fr,(a.keep b c d).trans e,f⟩
mutual
theorem bn.grow{M M':Nat->Prop}{w w':World}(q:NoU M w)(d:dl M M' w w'):∀(a:AV) (v:Value),bn w M a v->bn w' M' a v
 | .int k n,v,h=>by simpa [bn]using h
 | .bool b,v,h=>by simpa [bn]using h
 | .big z,v,h=>by simp only[bn]at h ⊢;exact h.grow q d
 | .nil,v,h=>by simpa [bn]using h
 | .sl es b off len,v,h=>by
  simp only[bn]at h ⊢;obtain⟨cap,cs,ty,fr,m,o,y,E⟩:=h;obtain⟨cs',F,G⟩:=d.shape b cs ty fr y;exact⟨cap,cs',ty,fr,m,o,F,by rw[G];exact E⟩
 | .ptr es b i,v,h=>by simpa [bn]using h
 | .lst es n g,v,h=>by
  simp only[bn]at h ⊢;obtain⟨A,c,m,o,y⟩:=h;refine⟨A,c,m,o,fun H=>?_⟩;obtain⟨b,off,e,r,t,I⟩:=y H;refine⟨b,off,e,dr r d.size,fun s=>t (d.own b r s),fun j B=>?_⟩;obtain⟨u,C,D⟩:=I j B;exact⟨u,C.grow d r t,bn.grow q d (g j) u D⟩
 | .pat es x,v,h=>by
  simp only[bn]at h ⊢;obtain⟨b,off,u,m,r,t,C,J⟩:=h;exact⟨b,off,u,m,dr r d.size,fun s=>t (d.own b r s),C.grow d r t,bn.grow q d x u J⟩
 | .tup l,v,h=>by
  simp only[bn]at h ⊢;obtain⟨vs,m,o⟩:=h;exact⟨vs,m,aW.grow q d l vs o⟩
 | .agg l,v,h=>by
  simp only[bn]at h ⊢;obtain⟨vs,m,o⟩:=h;exact⟨vs,m,aW.grow q d l vs o⟩
 | .fn f l,v,h=>by
  simp only[bn]at h ⊢;obtain⟨vs,m,o⟩:=h;exact⟨vs,m,aW.grow q d l vs o⟩
 | .mag n,v,h=>by simp only[bn]at h ⊢;exact h.grow q d
 | .fp b i f,v,h=>by simpa [bn]using h
 | .bset p,v,h=>by simpa [bn]using h
 | .any,v,h=>by simp[bn]
 | .nfn,v,h=>by simpa [bn]using h
 | .mfn f l,v,h=>by
  simp only[bn]at h ⊢;obtain⟨vs,m,o⟩:=h;exact⟨vs,m,aW.grow q d l vs o⟩
theorem aW.grow{M M':Nat->Prop}{w w':World}(b:NoU M w)(c:dl M M' w w'):∀(l:List AV) (vs:List Value),aW w M l vs->aW w' M' l vs
 | [],[],_=>by simp[aW]
 | a::l,v::vs,h=>by
  simp only[aW]at h ⊢;exact⟨bn.grow b c a v h.1,aW.grow b c l vs h.2⟩
 | [],_::_,h=>by simp[aW]at h
 | _::_,[],h=>by simp[aW]at h
end
def cE(f:Nat)(args:List AV)(S:St)(post:AV->St->Prop):Prop :=
 ∀(w:World) (vs:List Value),ep w S->aW w S.dom args vs->Calls ah f vs.toArray w (fun e w' =>
  ∃v r S',e=.returned v/\post r S'/\bn w' S'.dom r v/\ep w' S'/\dl S.dom S'.dom w w')
def cE.mono(h:cE f args S post)(a:∀r S',post r S'->post' r S'):cE f args S post' :=
 fun w vs b c=>(h w vs b c).mono fun _ _ ⟨v,r,S',d,e,g⟩=>⟨v,r,S',d,a r S' e,g⟩

abbrev Tm:=Nat->AV
variable{O:Tm}
def Tm.put_ex:∃p:Tm->Option Nat->AV->Tm,∀O d x,p O d x=(match d with
 | some d=>fun t=>if t=d then x else O t
 | ab=>O):=⟨_,fun _ _ _=>rfl⟩
noncomputable def Tm.put:Tm->Option Nat->AV->Tm:=c9 Tm.put_ex
def Tm.put_eq(O:Tm)(d:Option Nat)(x:AV):O.put d x=(match d with
 | some d=>fun t=>if t=d then x else O t
 | ab=>O):=cS Tm.put_ex O d x
def P6:Value->AV
 | .int k n=>.int k n
 | .bool b=>.bool b
 | .slice ab 0 0=>.nil
 | _=>.any
def ev(O:Tm):Operand->AV
 | .tmp t=>O t
 | .const v=>P6 v
 | .global g=>.ptr 1 g 0
 | .func f=>.fn f []
def Om(w:World)(M:Nat->Prop)(v:Value):bn w M (P6 v) v:=by
 unfold P6;split<;>simp[bn]
structure RT(O:Tm)(S:St)(N:Nat)(a:Act)(w:World):Prop where
 defers:a.defers=[]
 size:a.tmps.size=N
 tm:∀t,bn w S.dom (O t) (a.tmps.getD t undef)
 st:ep w S
def RT.ev(h:RT O S N a w)(x:Operand):bn w S.dom (ev O x) (a.eval x):=by
 cases x with
 | tmp t=>exact h.tm t
 | const v=>exact Om _ _ v
 | global g=>simp only[Go.Proofs.YtdobfmlmenaajaaGreatDoor.ev,bn,dI];rfl
 | func f=>simp only[Go.Proofs.YtdobfmlmenaajaaGreatDoor.ev,bn];exact⟨[],rfl,by simp[aW]⟩
def RT.put{S':St}(h:RT O S N a w)(g:dl S.dom S'.dom w w')(f:ep w' S'){d:Option Nat}(i:∀k,d=some k->k<N){x:AV}{v:Value}(j:bn w' S'.dom x v) :
  RT (O.put d x) S' N (a.put d v) w':=by
 have b:∀t,bn w' S'.dom (O t) (a.tmps.getD t undef):=fun t=>bn.grow h.st.noU g _ _ (h.tm t)
 cases d with
 | none=>rw[Tm.put_eq];exact⟨h.defers,h.size,b,f⟩
 | some d =>
  refine⟨h.defers,by simp[Act.put,h.size],fun t=>?_,f⟩
  have c:=i d rfl;simp only[Tm.put_eq,Act.put];by_cases e:t=d
  .subst e;have:(a.tmps.setIfInBounds t v).getD t undef=v:=by
    simp[Array.getD,h.size,c]
   rw[ai rfl,this];exact j
  .have:(a.tmps.setIfInBounds d v).getD t undef=a.tmps.getD t undef:=by
    simp only[cD];rw[dH (aj e)]
   rw[af e,this];exact b t
def Fp(op:BinOp)(t:TypeId)(x y:AV)(K:AV->Prop):Prop:=match x,y with
 | .int k a,.int k' b=>k=k'/\(match op with
  | .add=>K (.int k (k.wrap (a+b)))
  | .sub=>K (.int k (k.wrap (a-b)))
  | .mul=>K (.int k (k.wrap (a*b)))
  | .quo=>b≠0/\K (.int k (k.wrap (a.tdiv b)))
  | .rem=>b≠0/\K (.int k (a.tmod b))
  | .eql=>K (.bool (a==b))
  | .neq=>K (.bool (a != b))
  | .lss=>K (.bool (decide (a<b)))
  | .leq=>K (.bool (decide (a<=b)))
  | .gtr=>K (.bool (decide (b<a)))
  | .geq=>K (.bool (decide (b<=a)))
  | _=>False)
 | .bool a,.bool b=>t=4/\(match op with
  | .eql=>K (.bool (a==b))
  | .neq=>K (.bool (a != b))
  | _=>False)
 | .bset p,.bset q=>t=4/\op=.neq/\K (.bset (fun s=>∃a b,p a/\q b/\s=(a != b)))
 | .sl _ _ _ _,.nil=>(t=29/\op=.eql)/\K (.bool false)
 | .lst _ n _,.nil=>(t=29/\op=.eql/\0<n)/\K (.bool false)
 | .nil,.nil=>(t=29/\op=.eql)/\K (.bool true)
 | _,_=>False
def zR(h:Fp op ty x y K){w:World}{M:Nat->Prop}{vx vy:Value}(d:bn w M x vx)(e:bn w M y vy)(ox oy:Operand) :
  ∃z v,K z/\bn w M z v/\(do eqGuard op ty ox oy vx vy;binOp op ty vx vy:Sem Value).run ah w=.ok v w:=by
 have f:∀(w:World) (a:Option Addr) (n c n' c':Nat),(binOp .eql 29 (.slice a n c) (.slice none n' c')).run ah w=.ok (.bool a.isNone) w:=fun w a n c n' c'=>z5 w _ _ a n c n' c' underlying29;unfold Fp at h;split at h
 .rename_i k a k' b;obtain⟨rfl,h⟩:=h;simp only[bn]at d e;subst d e;split at h
  .exact⟨_,.int k (k.wrap (a+b)),h,by simp[bn],by simp[eqGuard,binOp,Op.intArith]⟩
  .exact⟨_,.int k (k.wrap (a-b)),h,by simp[bn],by simp[eqGuard,binOp,Op.intArith]⟩
  .exact⟨_,.int k (k.wrap (a*b)),h,by simp[bn],by simp[eqGuard,binOp,Op.intArith]⟩
  .exact⟨_,.int k (k.wrap (a.tdiv b)),h.2,by simp[bn],by simp[eqGuard,binOp,Op.intDiv,h.1]⟩
  .exact⟨_,.int k (a.tmod b),h.2,by simp[bn],by simp[eqGuard,binOp,Op.intDiv,h.1]⟩
  .exact⟨_,.bool (a==b),h,by simp[bn],by simp[eqGuard,binOp,Op.intCmp]⟩
  .exact⟨_,.bool (a != b),h,by simp[bn],by simp[eqGuard,binOp,Op.intCmp]⟩
  .exact⟨_,.bool (decide (a<b)),h,by simp[bn],by simp[eqGuard,binOp,Op.intCmp]⟩
  .exact⟨_,.bool (decide (a<=b)),h,by simp[bn],by simp[eqGuard,binOp,Op.intCmp]⟩
  .exact⟨_,.bool (decide (b<a)),h,by simp[bn],by simp[eqGuard,binOp,Op.intCmp]⟩
  .exact⟨_,.bool (decide (b<=a)),h,by simp[bn],by simp[eqGuard,binOp,Op.intCmp]⟩
  .exact h.elim
 .rename_i a b;obtain⟨rfl,h⟩:=h;simp only[bn]at d e;subst d e;have i:(underlying 4).run ah w=.ok .bool w:=by
   simp[underlying,BV]
  have g:(Op.equal 4 (.bool a) (.bool b)).run ah w=.ok (a==b) w:=by
   unfold Op.equal Op.maxDepth;rw[Op.equalIn];simp[i]
  split at h
  .exact⟨_,.bool (a==b),h,by simp[bn],by simp[eqGuard,binOp,g]⟩
  .exact⟨_,.bool (a != b),h,by simp[bn],by simp[eqGuard,binOp,g];cases a<;>cases b<;>rfl⟩
  .exact h.elim
 .rename_i p q;obtain⟨rfl,rfl,h⟩:=h;simp only[bn]at d e;obtain⟨a,rfl,l⟩:=d;obtain⟨b,rfl,j⟩:=e;have i:(underlying 4).run ah w=.ok .bool w:=by
   simp[underlying,BV]
  have g:(Op.equal 4 (.bool a) (.bool b)).run ah w=.ok (a==b) w:=by
   unfold Op.equal Op.maxDepth;rw[Op.equalIn];simp[i]
  exact⟨_,.bool (a != b),h,by simp only[bn];exact⟨_,rfl,a,b,l,j,rfl⟩,by simp[eqGuard,binOp,g];cases a<;>cases b<;>rfl⟩
 .obtain⟨⟨rfl,rfl⟩,h⟩:=h;simp only[bn]at d e;obtain⟨cap,cs,ty,fr,rfl,_⟩:=d;subst e;exact⟨_,.bool false,h,by simp[bn],by simp[eqGuard,f]⟩
 .obtain⟨⟨rfl,rfl,m⟩,h⟩:=h;simp only[bn]at d e;obtain⟨A,c,rfl,_,j⟩:=d;obtain⟨b,off,rfl,_⟩:=j m;subst e;exact⟨_,.bool false,h,by simp[bn],by simp[eqGuard,f]⟩
 .obtain⟨⟨rfl,rfl⟩,h⟩:=h;simp only[bn]at d e;subst d e;exact⟨_,.bool true,h,by simp[bn],by simp[eqGuard,f]⟩
 .exact h.elim

def eK:TypeId->Option (Nat×Nat)
 | 2=>some (1,1)|3=>some (1,1)|4=>some (1,1)|5=>some (1,1)|22=>some (1,1)|25=>some (1,1)|28=>some (1,1)|29=>some (1,1)
 | 34=>some (1,1)|41=>some (1,1)|48=>some (1,1)|52=>some (1,1)|59=>some (1,1)|97=>some (1,1)|146=>some (1,1)|158=>some (1,1)|192=>some (1,1)|216=>some (1,1)
 | 50=>some (2,1)|167=>some (2,2)|195=>some (2,2)|197=>some (2,7)
 | 24=>some (1,4)|27=>some (1,6)|107=>some (1,2)|160=>some (1,4)|183=>some (1,2)|202=>some (1,2)|238=>some (1,3)|239=>some (1,8)|218=>some (1,2)
 | _=>ab
def Ki:TypeDesc->Bool
 | .struct _=>true
 | .array _ _=>true
 | _=>false
def Li(P:Program)(t es k:Nat):Bool:=match P.info? t,P.underlying t with
 | some i,some d=>i.size==es*k&&(if Ki d then es*k != 1 else es==1&&k==1)
 | _,_=>false
def qR{t:Nat}(h:eK t=some (es,k)):Li ah t es k=true/\(es=1∨es=2)/\0<k:=by
 unfold eK at h;split at h<;>first
  | (cases h;refine⟨by kernel_rfl,om,om⟩)
  | cases h
def yr{t:Nat}(h:Li ah t es k=true):∃i d,ah.info? t=some i/\i.size=es*k/\ah.underlying t=some d/\((Ki d=true/\es*k≠1)∨(Ki d=false/\es=1/\k=1)):=by
 unfold Li at h;split at h
 .rename_i i d c e;simp only[au,ue]at h;refine⟨i,d,c,h.1,e,?_⟩;have a:=h.2;split at a
  .rename_i b;exact bM ⟨b,by simpa using a⟩
  .rename_i b;simp at a;exact bO ⟨by simpa using b,a.1,a.2⟩
 .cases h
def ee(g:Nat->AV)(i:Nat):Nat->List AV
 | 0=>[]
 | k+1=>g i::ee g (i+1) k
def qU(h:one u):u.cells=#[u]:=by cases u<;>first|rfl|exact h.elim
def nL{off:Nat}{cs:Array Value}(h:w.heap[b]? = some (.cells cs ty fr)):w.cell? ⟨b,off,ab⟩=cs[off]?:=by
 simp[World.cell?,h]
def iy(b off k:Nat):(⟨b,off,ab⟩:Addr).add k=⟨b,off+k,ab⟩:=by
 unfold Addr.add;split<;>simp_all
theorem rm{w:World}{b:Nat}{cs:Array Value}{ty:TypeId}{fr:Nat×Nat}(h:w.heap[b]? = some (.cells cs ty fr))(off:Nat)(P:Program) :
  ∀(l:List Value) (i:Nat) (acc:Array Value),(∀j,j<l.length->cs[off+i+j]? = l[j]?)->(loadCellsFrom ⟨b,off,ab⟩ i l.length acc).run P w=.ok (acc++l.toArray) w
 | [],i,acc,_=>by simp[loadCellsFrom]
 | v::l,i,acc,a=>by
  have c:=a 0 sm
  simp only[cu,cO]at c;have ih:=rm h off P l (i+1) (acc.push v) (fun j d=>by
   have:=a (j+1) (by simp;omega)
   rw[bV]at this;rw[<-this];congr 1;omega)
  simp only[cA,loadCellsFrom];simp only[load,iy];simp[Sem.run,bind,Sem.bind,nL h,c];simpa using ih
def Bp(a:ah.underlying t=some d)(w:World):(isAgg t).run ah w=.ok (Ki d) w:=by
 simp only[isAgg,jJ,bG a,gW]
 cases d<;>rfl
def cP(a:ah.info? t=some i)(w:World):(sizeOf t).run ah w=.ok i.size w:=by
 simp[sizeOf,typeInfo,a]
def qk{off t:Nat}{cs:Array Value}(h:w.heap[b]? = some (.cells cs ty fr))(e:eK t=some (es,k))(f:es*k≠1)
  (l:List Value) (g:l.length=es*k) (m:∀j,j<l.length->cs[off+j]? = l[j]?) :
  (Instr.loadAt t (.pointer (some ⟨b,off,ab⟩))).run ah w=.ok (.agg l.toArray) w:=by
 obtain⟨c,u,_⟩:=qR e;obtain⟨i,d,n,o,p,a⟩:=yr c;have q:Ki d=true:=a.elim (fun a=>a.1) (fun a=>by rw[a.2.1,a.2.2]at f;omega)
 have r:=rm h off ah l 0 #[] (fun j s=>by rw[cu];exact m j s)
 simp only[Instr.loadAt,Instr.sureAddr,pure_bind,loadVar,jJ,Bp p,q,gW,aO,cP n,loadCells];rw[o,<-g,r];simp
def qS{off t:Nat}{cs:Array Value}(h:w.heap[b]? = some (.cells cs ty fr))(e:eK t=some (es,1))(c:reads cs off es u) :
  (Instr.loadAt t (.pointer (some ⟨b,off,ab⟩))).run ah w=.ok u w:=by
 obtain⟨f,g,_⟩:=qR e;rcases g with rfl|rfl
 .obtain⟨i,d,r,s,k,a⟩:=yr f;have l:Ki d=false:=a.elim (fun a=>absurd rfl a.2) (fun a=>a.1);simp only[reads]at c;simp only[Instr.loadAt,Instr.sureAddr,pure_bind,loadVar,jJ,Bp k,l,gW];simp[nL h,c.1]
 .simp only[reads]at c;obtain⟨x,y,rfl,m,n,o,p⟩:=c;exact qk h e om [x,y] rfl (fun j q=>by
   match j with
   | 0=>simpa using o
   | 1=>simpa using p
   | j+2=>simp at q;omega)
theorem mZ{w:World}{M:Nat->Prop}{cs:Array Value}{es n:Nat}{g:Nat->AV}(b:∀j,j<n->∃u,reads cs (es*j) es u/\bn w M (g j) u) :
  ∀(k i:Nat),i+k<=n->∃vs:List Value,aW w M (ee g i k) vs/\(vs.flatMap (fun u=>u.cells.toList)).length=es*k/\∀j,j<es*k->cs[es*i+j]? = (vs.flatMap (fun u=>u.cells.toList))[j]?
 | 0,i,_=>⟨[],by simp[ee,aW],sm,fun j b=>by simp at b⟩
 | k+1,i,o=>by
  obtain⟨u,c,f⟩:=b i om;obtain⟨vs,e,h,l⟩:=mZ b k (i+1) om;have a:u.cells.toList.length=es/\∀j,j<es->cs[es*i+j]? = u.cells.toList[j]?:=by
   match es,c with
   | 1,c =>
    simp only[reads]at c;rw[qU c.2];exact⟨rfl,fun j b=>by
     obtain rfl:j=0:=om
     simpa using c.1⟩
   | 2,c =>
    simp only[reads]at c;obtain⟨x,y,rfl,_,_,m,e⟩:=c;refine⟨rfl,fun j b=>?_⟩
    match j with
    | 0=>simpa [Value.cells]using m
    | 1=>simpa [Value.cells]using e
    | j+2=>omega
  refine⟨u::vs,by simp only[ee,aW];exact⟨f,e⟩,by simp only[dj,B5,a.1,h];rw[et];omega,fun j b=>?_⟩
  simp only[dj];by_cases d:j<es
  .rw[dY (by rw[a.1];exact d)];exact a.2 j d
  .rw[dS (by rw[a.1];omega),a.1,<-l (j-es) (by rw[et]at b;omega)]
   congr 1;rw[et];omega
def oV(t:TypeId)(x:AV)(S:St)(K:AV->Prop):Prop:=match x with
 | .pat es y=>eK t=some (es,1)/\K y
 | .ptr es b i=>(match S b with
  | some X=>(match eK t with
   | some (es',k)=>es'=es/\X.es=es/\i+k<=X.n/\K (if k=1 then X.g i else .agg (ee X.g i k))
   | ab=>False)
  | ab=>t=239/\es=1/\b=0/\i=0/\K (.agg (uP.map fun z=>.int .i64 z)))
 | .fp b i f=>(match S b with
  | some X=>X.es=2/\i<X.n/\(match X.g i with
   | .big z=>if t=48/\f=1 then K (.mag z.natAbs)else if t=4/\f=0 then K (.bset (fun s=>sg s z.natAbs=z))else False
   | _=>False)
  | ab=>False)
 | _=>False
def qH(h:oV t x S K){w:World}(D:ep w S){vx:Value}(d:bn w S.dom x vx) :
  ∃z v,K z/\bn w S.dom z v/\(Instr.loadAt t vx).run ah w=.ok v w:=by
 cases x with
 | pat es y =>
  simp only[oV]at h;simp only[bn]at d;obtain⟨b,off,u,rfl,_,_,⟨cs,ty,fr,m,l⟩,o⟩:=d;exact⟨_,u,h.2,o,qS m h.1 l⟩
 | ptr es b i =>
  simp only[oV]at h
  cases q:S b with
  | none =>
   rw[q]at h;obtain⟨rfl,rfl,rfl,rfl,r⟩:=h;obtain⟨cs,ty,E,C⟩:=D.gl;simp only[bn]at d;subst d;refine⟨_,.agg (uP.map fun z=>dh .i64 z).toArray,r,?_,qk E (show eK 239=some (1,8) by decide) dc (uP.map fun z=>dh .i64 z) rfl fun j a=>?_⟩
   .simp only[bn];exact⟨uP.map fun z=>dh .i64 z,rfl,by simp[uP,aW,bn]⟩
   .rw[dI,aB,C j a];rcases (show j=0∨j=1∨j=2∨j=3∨j=4∨j=5∨j=6∨j=7 by simp[uP]at a;omega)with rfl|rfl|rfl|rfl|rfl|rfl|rfl|rfl<;>rfl
  | some X =>
   rw[q]at h
   cases s:eK t with
   | none=>rw[s]at h;exact h.elim
   | some p =>
    obtain⟨es',k⟩:=p;rw[s]at h;obtain⟨rfl,rfl,O,r⟩:=h;simp only[bn]at d;subst d;obtain⟨cs,m,F,a,G⟩:=D b X q;by_cases B:k=1
    .subst B;obtain⟨u,l,o⟩:=a i om;rw[ai rfl]at r;exact⟨_,u,r,o,qS m s l⟩
    .obtain⟨vs,E,C,P⟩:=mZ a k i O;rw[af B]at r;have l:bn w S.dom (.agg (ee X.g i k)) (.agg (vs.flatMap (fun u=>u.cells.toList)).toArray):=by
      simp only[bn];exact⟨vs,rfl,E⟩
     refine⟨_,_,r,l,qk m s ?_ _ C (fun j a=>P j (by rw[<-C];exact a))⟩
     obtain⟨_,H,Q⟩:=qR s;intro e;rcases H with M|M<;>rw[M]at e<;>omega
 | fp b i f =>
  simp only[oV]at h
  cases q:S b with
  | none=>rw[q]at h;exact h.elim
  | some X =>
   rw[q]at h;obtain⟨I,J,h⟩:=h;simp only[bn]at d;subst d;obtain⟨cs,m,F,a,G⟩:=D b X q;obtain⟨u,l,o⟩:=a i J;rw[I]at l
   cases R:X.g i<;>rw[R]at h o<;>try exact h.elim
   rename_i z;simp only[bn]at o;obtain⟨neg,A,n,c,xs,rfl,L,T,U,rfl⟩:=o;obtain⟨x,y,H,ox,oy,V,W⟩:=l
   cases H
   have N:(sg neg (aZ xs)).natAbs=aZ xs:=by cases neg<;>simp[sg]
   simp only at h;split at h
   .rename_i e;obtain⟨rfl,rfl⟩:=e;refine⟨_,.slice A n c,h,?_,qS m (rfl:eK 48=some (1,1)) ⟨W,oy⟩⟩;simp only[bn];exact⟨false,A,n,c,xs,rfl,L,T,U,by rw[N];simp[sg]⟩
   .split at h
    .rename_i e;obtain⟨rfl,rfl⟩:=e;exact⟨_,.bool neg,h,by simp only[bn];exact⟨neg,rfl,by rw[N]⟩,qS m (rfl:eK 4=some (1,1)) ⟨V,ox⟩⟩
    .exact h.elim
 | _=>exact h.elim

def fE(w:World)(b:Nat)(cs:Array Value)(ty:TypeId):World:={ w with heap:=w.heap.setIfInBounds b (.cells cs ty (0,0)) }
def jl(a:b<w.heap.size)(cs:Array Value)(ty:TypeId)(k:Nat):(fE w b cs ty).heap[k]? = if k=b then some (.cells cs ty (0,0))else w.heap[k]?:=by
 simp only[fE];by_cases e:k=b
 .subst e;simp[a]
 .rw[af e,dH (aj e)]
def Cg(w:World)(b:Nat)(cs:Array Value)(ty:TypeId):(fE w b cs ty).heap.size=w.heap.size:=by simp[fE]
def Ch{cs:Array Value}(h:w.heap[b]? = some (.cells cs ty (0,0))):fE w b cs ty=w:=by
 unfold fE;have:w.heap.setIfInBounds b (.cells cs ty (0,0))=w.heap:=by
  apply qe;intro i;by_cases e:i=b
  .subst e;rw[ik (fP h),h]
  .rw[dH (aj e)]
 rw[this]
def wS(w:World)(b:Nat)(c a:Array Value)(ty:TypeId):fE (fE w b c ty) b a ty=fE w b a ty:=by
 simp[fE]
def wV{off:Nat}{cs:Array Value}(h:w.heap[b]? = some (.cells cs ty (0,0)))(u:Value):w.setCell ⟨b,off,ab⟩ u=fE w b (cs.setIfInBounds off u) ty:=by
 unfold World.setCell fE;congr 1;apply qe;intro i;rw[Se];by_cases e:b=i
 .subst e;rw[ai rfl,h,ik (fP h)];rfl
 .rw[af e,dH e]
def eI(cs:Array Value)(o:Nat):List Value->Array Value
 | []=>cs
 | v::l=>eI (cs.setIfInBounds o v) (o+1) l
theorem il:∀(l:List Value) (cs:Array Value) (o:Nat),(eI cs o l).size=cs.size
 | [],_,_=>rfl
 | v::l,cs,o=>by simp[eI,il l]
theorem iw:∀(l:List Value) (cs:Array Value) (o j:Nat),o+l.length<=cs.size->(eI cs o l)[j]? = if o<=j/\j<o+l.length then l[j-o]? else cs[j]?
 | [],cs,o,j,_=>by rw[af (by simp only[jn];omega)];rfl
 | v::l,cs,o,j,h=>by
  simp only[cA]at h;rw[eI,iw l _ (o+1) j (by simp;omega)]
  by_cases e:j=o
  .subst e;rw[af om,ai sm,ik om];simp
  .rw[dH (aj e)];by_cases a:o+1<=j/\j<o+1+l.length
   .rw[ai a,ai (by simp;omega),(om:j-o=(j-(o+1))+1),bV]
   .rw[af a,af (by simp;omega)]
theorem jR(P:Program){b off:Nat}{ty:TypeId}:∀(l:List Value) (w:World) (cs:Array Value) (i:Nat),w.heap[b]? = some (.cells cs ty (0,0))->off+i+l.length<=cs.size->(∀u∈l,one u) ->
  (storeCells ⟨b,off,ab⟩ l i).run P w=.ok () (fE w b (eI cs (off+i) l) ty)
 | [],w,cs,i,h,_,_=>by simp[storeCells,eI,Ch h]
 | v::l,w,cs,i,h,f,e=>by
  simp only[cA]at f;have g:=e v (ef ..);have hcell:w.cell? ⟨b,off+i,ab⟩=cs[off+i]?:=nL h;have a:cs[off+i]? = some cs[off+i]:=cg om;have c:w.frozen? ⟨b,off+i,ab⟩=false:=by simp[World.frozen?,h]
  have d:(store ⟨b,off+i,ab⟩ v).run P w=.ok () (fE w b (cs.setIfInBounds (off+i) v) ty):=by
   cases v<;>first|exact g.elim|simp[store,Sem.run,hcell,a,c,wV h]
  have ih:=jR P (b:=b) (off:=off) (ty:=ty) l (fE w b (cs.setIfInBounds (off+i) v) ty) (cs.setIfInBounds (off+i) v) (i+1)
   (by rw[jl (fP h),ai rfl]) (by simp;omega) (fun u j=>e u (dJ _ j))
  simp only[storeCells,iy,jJ,d,gW,ih,wS,eI];rfl
def eg:Nat->AV->Prop
 | 1,.int k _=>k≠.u32
 | 1,.bool _=>True
 | 1,.nil=>True
 | 1,.sl ..=>True
 | 1,.ptr ..=>True
 | 1,.lst ..=>True
 | 1,.pat ..=>True
 | 1,.fn ..=>True
 | 1,.nfn=>True
 | 1,.mfn ..=>True
 | 2,.big _=>True
 | _,_=>False
def Cv(h:eg es y)(a:bn w M y v) :
  (es=1/\one v/\lD v)∨(es=2/\∃p q,v=.agg #[p,q]/\one p/\one q/\lD p/\lD q):=by
 match es,y,h,a with
 | 1,.int k n,h,a =>
  simp only[bn]at a;subst a;refine bM ⟨rfl,trivial,?_⟩
  cases k<;>first|trivial|exact absurd rfl h
 | 1,.bool _,h,a=>simp only[bn]at a;subst a;exact bM ⟨rfl,trivial,trivial⟩
 | 1,.nil,h,a=>simp only[bn]at a;subst a;exact bM ⟨rfl,trivial,trivial⟩
 | 1,.sl ..,h,a=>simp only[bn]at a;obtain⟨_,_,_,_,rfl,_⟩:=a;exact bM ⟨rfl,trivial,trivial⟩
 | 1,.ptr ..,h,a=>simp only[bn]at a;subst a;exact bM ⟨rfl,trivial,trivial⟩
 | 1,.lst ..,h,a=>simp only[bn]at a;obtain⟨_,_,rfl,_⟩:=a;exact bM ⟨rfl,trivial,trivial⟩
 | 1,.pat ..,h,a=>simp only[bn]at a;obtain⟨_,_,_,rfl,_⟩:=a;exact bM ⟨rfl,trivial,trivial⟩
 | 1,.fn ..,h,a=>simp only[bn]at a;obtain⟨_,rfl,_⟩:=a;exact bM ⟨rfl,trivial,trivial⟩
 | 1,.nfn,h,a=>simp only[bn]at a;subst a;exact bM ⟨rfl,trivial,trivial⟩
 | 1,.mfn ..,h,a=>simp only[bn]at a;obtain⟨_,rfl,_⟩:=a;exact bM ⟨rfl,trivial,trivial⟩
 | 2,.big z,h,a =>
  simp only[bn]at a;obtain⟨neg,A,n,c,xs,rfl,_⟩:=a;exact bO ⟨rfl,_,_,rfl,trivial,trivial,trivial,trivial⟩
def qP(h:eg es y)(e:bn w M y v) :
  v.cells.size=es/\(∀u∈v.cells.toList,one u/\lD u)/\∀(cs:Array Value) (o:Nat),(∀j,j<es->cs[o+j]? = v.cells[j]?)->reads cs o es v:=by
 rcases Cv h e with⟨rfl,a,c⟩|⟨rfl,p,q,rfl,a,c,f,g⟩
 .rw[qU a];refine⟨rfl,fun u b=>by simp at b;subst b;exact⟨a,c⟩,fun cs o d=>?_⟩
  have:=d 0 om;simp only[reads];exact⟨by simpa using this,a⟩
 .refine⟨rfl,fun u b=>?_,fun cs o d=>?_⟩
  .simp[Value.cells]at b;rcases b with rfl|rfl
   .exact⟨a,f⟩
   .exact⟨c,g⟩
  .simp only[reads];exact⟨p,q,rfl,a,c,by simpa [Value.cells]using d 0 om,by simpa [Value.cells]using d 1 om⟩
def NR(h:S b≠ab):(S.upd b X).dom=S.dom:=by
 funext k;simp only[St.dom,St.upd];by_cases e:k=b
 .subst e;simp[h]
 .simp[e]
def ep.write(f:ep w S){b:Nat}{X X':eE}(l:S b=some X){cs cs':Array Value}(s:w.heap[b]? = some (.cells cs X.ty (0,0)))(o:cs'.size=cs.size)
  (t:X'.ty=X.ty) (v:X'.es*X'.n<=cs'.size) (x:∀j,j<X'.n->∃u,reads cs' (X'.es*j) X'.es u/\bn w S.dom (X'.g j) u) (A:∀(k:Nat) (y:Value),cs'[k]? = some y->lD y) :
  ep (fE w b cs' X.ty) (S.upd b X')/\dl S.dom (S.upd b X').dom w (fE w b cs' X.ty):=by
 have a:=fP s;have B:(S.upd b X').dom=S.dom:=NR (by rw[l];simp)
 have m:dl S.dom (S.upd b X').dom w (fE w b cs' X.ty):=by
  rw[B];refine⟨rfl,rfl,rfl,by rw[Cg];exact ae _,fun k H C=>?_,fun k c ty fr p=>?_,fun _ _ h=>h⟩
  .rw[jl a,af];intro e;subst e;exact C (by simp[St.dom,l])
  .rw[jl a];by_cases e:k=b
   .subst e;rw[s]at p;cases p;exact⟨cs',by rw[ai rfl],o⟩
   .exact⟨c,by rw[af e];exact p,rfl⟩
 refine⟨⟨St.upd0 f.z (fun e=>by subst e;rw[f.z]at l;cases l),f.grow m,fun k Y i=>?_⟩,m⟩
 simp only[St.upd]at i;by_cases e:k=b
 .subst e;rw[ai rfl]at i
  cases i
  refine⟨cs',by rw[jl a,ai rfl,t],v,fun j d=>?_,A⟩
  obtain⟨u,q,r⟩:=x j d;exact⟨u,q,bn.grow f.noU m _ _ r⟩
 .rw[af e]at i;obtain⟨c,q,r,D,E⟩:=f k Y i;refine⟨c,by rw[jl a,af e];exact q,r,fun j d=>?_,E⟩
  obtain⟨u,F,G⟩:=D j d;exact⟨u,F,bn.grow f.noU m _ _ G⟩
def ep.new(a:ep w S){X:eE}{cs:Array Value}(p:X.es*X.n<=cs.size)
  (q:∀j,j<X.n->∃u,reads cs (X.es*j) X.es u/\bn w S.dom (X.g j) u) (r:∀(k:Nat) (y:Value),cs[k]? = some y->lD y) :
  S w.heap.size=ab/\ep (w.alloc (.cells cs X.ty)) (S.upd w.heap.size X)/\dl S.dom (S.upd w.heap.size X).dom w (w.alloc (.cells cs X.ty)):=by
 have hnone:S w.heap.size=ab:=by
  cases e:S w.heap.size with
  | none=>rfl
  | some Y =>
   obtain⟨c,d,_⟩:=a _ Y e;exact absurd (fP d) (cN _)
 have h:∀k,(w.alloc (.cells cs X.ty)).heap[k]? = if k=w.heap.size then some (.cells cs X.ty (0,0))else w.heap[k]?:=by
  intro k;show(w.heap.push _)[k]? = _;rw[Array.getElem?_push]
 have i:dl S.dom (S.upd w.heap.size X).dom w (w.alloc (.cells cs X.ty)):=by
  refine⟨rfl,rfl,rfl,sm,fun k s _=>?_,fun k c ty fr o=>⟨c,?_,rfl⟩,fun k s l=>?_⟩
  .rw[h,af om]
  .rw[h,af (by have:=fP o;omega)];exact o
  .simp only[St.dom,St.upd]at l;rw[af om]at l;exact l
 refine⟨hnone,⟨St.upd0 a.z (by have:=a.gl.pos;omega),a.grow i,fun k Y f=>?_⟩,i⟩
 simp only[St.upd]at f;by_cases e:k=w.heap.size
 .rw[ai e]at f
  cases f
  refine⟨cs,by rw[h,ai e],p,fun j b=>?_,r⟩
  obtain⟨u,d,m⟩:=q j b;exact⟨u,d,bn.grow a.noU i _ _ m⟩
 .rw[af e]at f;obtain⟨c,d,m,t,v⟩:=a k Y f;refine⟨c,by rw[h,af e];exact d,m,fun j b=>?_,v⟩
  obtain⟨u,x,A⟩:=t j b;exact⟨u,x,bn.grow a.noU i _ _ A⟩

def Dt(s:Sem Value)(w:World)(S:St)(K:AV->St->Prop):Prop :=
 ∃z v w' S',K z S'/\bn w' S'.dom z v/\ep w' S'/\dl S.dom S'.dom w w'/\s.run ah w=.ok v w'
def bR(g:Nat->AV)(i:Nat)(y:AV):Nat->AV:=fun j=>if j=i then y else g j
def iU(g:Nat->AV)(i:Nat)(l:List AV):Nat->AV:=fun j=>if i<=j/\j<i+l.length then l.getD (j-i) .any else g j
def pB(t:TypeId)(x y:AV)(S:St)(K:St->Prop):Prop:=match x with
 | .ptr es b i=>(match S b with
  | some X=>(match eK t with
   | some (es',k)=>es'=es/\X.es=es/\i+k<=X.n/\(if k=1 then eg es y/\K (S.upd b { X with g:=bR X.g i y })else(match y with
    | .agg l=>l.length=k/\(∀z∈l,eg es z)/\K (S.upd b { X with g:=iU X.g i l })
    | _=>False))
   | ab=>False)
  | ab=>False)
 | _=>False
theorem it{w:World}{M:Nat->Prop}{es:Nat}:∀(l:List AV) (vs:List Value),aW w M l vs->(∀z∈l,eg es z) ->
  vs.length=l.length/\(vs.flatMap (fun u=>u.cells.toList)).length=es*l.length/\(∀u∈vs.flatMap (fun u=>u.cells.toList),one u/\lD u) /\
  ∀j,j<l.length->∃u,bn w M (l.getD j .any) u/\∀(cs:Array Value) (o:Nat),(∀q,q<es*l.length->cs[o+q]? = (vs.flatMap (fun u=>u.cells.toList))[q]?)->reads cs (o+es*j) es u
 | [],[],_,_=>⟨rfl,sm,sm,fun j e=>by simp at e⟩
 | a::l,v::vs,d,k=>by
  simp only[aW]at d;have n:=k a (ef ..);obtain⟨p,r,s⟩:=qP n d.1;obtain⟨t,x,y,A⟩:=it l vs d.2 (fun z B=>k z (dJ _ B));have c:v.cells.toList.length=es:=by simpa using p
  refine⟨by simp[t],by simp only[dj,B5,c,x,cA];rw[et];omega,fun u b=>?_,fun j e=>?_⟩
  .simp only[dj,I2]at b;rcases b with b|b
   .exact r u b
   .exact y u b
  .simp only[cA]at e
   cases j with
   | zero =>
    refine⟨v,by simpa using d.1,fun cs o f=>?_⟩
    rw[dI,cu];refine s cs o (fun q C=>?_);rw[f q (by rw[cA,et];omega),dj,dY om]
    simp
   | succ j =>
    obtain⟨u,g,i⟩:=A j om;refine⟨u,by simpa using g,fun cs o f=>?_⟩
    have:=i cs (o+es) (fun q C=>by
     have m:=f (es+q) (by rw[cA,et];omega)
     rw[dj,dS om,c,(om:es+q-es=q)]at m
     rw[<-m];congr 1;omega)
    rw[et,(om:o+(es*j+es)=o+es+es*j)]
    exact this
 | [],_::_,h,_=>by simp[aW]at h
 | _::_,[],h,_=>by simp[aW]at h
def kz{cs:Array Value}{o:Nat}(h:reads cs o es u)(hsame:∀q,q<es->cs'[o+q]? = cs[o+q]?):reads cs' o es u:=by
 match es,h with
 | 1,h=>simp only[reads]at h ⊢;have:=hsame 0 om;simp only[cu]at this;exact⟨by rw[this];exact h.1,h.2⟩
 | 2,h =>
  simp only[reads]at h ⊢;obtain⟨x,y,e,b,c,d,f⟩:=h;have a:=hsame 0 om;have g:=hsame 1 om;simp only[cu]at a;exact⟨x,y,e,b,c,by rw[a];exact d,by rw[g];exact f⟩
def qg(t:ep w S){b:Nat}{X:eE}(v:S b=some X)(l:List AV)(vs:List Value)(B:aW w S.dom l vs)(C:∀z∈l,eg X.es z)(i:Nat)(D:i+l.length<=X.n) :
  ∃cs,w.heap[b]? = some (.cells cs X.ty (0,0))/\X.es*i+(vs.flatMap (fun u=>u.cells.toList)).length<=cs.size/\(∀u∈vs.flatMap (fun u=>u.cells.toList),one u) /\
   ep (fE w b (eI cs (X.es*i) (vs.flatMap (fun u=>u.cells.toList))) X.ty) (S.upd b { X with g:=iU X.g i l }) /\
   dl S.dom (S.upd b { X with g:=iU X.g i l }).dom w (fE w b (eI cs (X.es*i) (vs.flatMap (fun u=>u.cells.toList))) X.ty):=by
 obtain⟨cs,x,c,E,f⟩:=t b X v;obtain⟨H,m,A,F⟩:=it l vs B C;have a:X.es*i+(vs.flatMap (fun u=>u.cells.toList)).length<=cs.size:=by
  rw[m,<-bS];exact bU (aL _ D) c
 refine⟨cs,x,a,fun u f=>(A u f).1,?_⟩;refine ep.write t v x (il _ _ _) rfl (by rw[il];exact c) (fun j o=>?_) (fun k y e=>?_)
 .show ∃u,reads _ (X.es*j) X.es u/\bn w S.dom (iU X.g i l j) u;unfold iU;by_cases d:i<=j/\j<i+l.length
  .rw[ai d];obtain⟨u,p,r⟩:=F (j-i) om;refine⟨u,?_,p⟩;have:=r (eI cs (X.es*i) (vs.flatMap (fun u=>u.cells.toList))) (X.es*i) (fun q G=>by
    rw[iw _ _ _ _ a,ai (by rw[m];omega)];congr 1;omega)
   rw[<-bS,(om:i+(j-i)=j)]at this
   exact this
  .rw[af d];obtain⟨u,p,r⟩:=E j o;refine⟨u,kz p (fun q G=>?_),r⟩;rw[iw _ _ _ _ a,af];rw[m];intro I;have s:j<i∨i+l.length<=j:=om
   rcases s with h|h
   .have:X.es*(j+1)<=X.es*i:=aL _ h;rw[et]at this;omega
   .have:X.es*(i+l.length)<=X.es*j:=aL _ h;rw[bS]at this;omega
 .rw[iw _ _ _ _ a]at e;split at e
  .exact(A y (fy e)).2
  .exact f k y e
def Jt(g:Nat->AV)(i:Nat)(y:AV):iU g i [y]=bR g i y:=by
 funext j;simp only[iU,bR,cA,jn];by_cases e:j=i
 .subst e;rw[ai om,ai rfl];simp
 .rw[af om,af e]
def wa{off t:Nat}{cs:Array Value}(h:w.heap[b]? = some (.cells cs ty (0,0)))(g:eK t=some (es,k))(v:Value)(j:v.cells.size=es*k)
  (a:off+v.cells.size<=cs.size) (l:∀u∈v.cells.toList,one u) :
  (Instr.storeAt t (.pointer (some ⟨b,off,ab⟩)) v).run ah w=.ok () (fE w b (eI cs off v.cells.toList) ty):=by
 obtain⟨c,_,_⟩:=qR g;obtain⟨i,d,m,n,o,p⟩:=yr c;have f:=jR ah (b:=b) (off:=off) (ty:=ty) v.cells.toList w cs 0 h (by simpa using a) l
 rw[cu]at f;have e:¬(v.cells.size≠i.size):=by rw[n,j];simp
 simp only[Instr.storeAt,Instr.sureAddr,pure_bind,storeVar,jJ,cP m,gW];rw[af e];simp[f]
def Df{K:St->Prop}(h:pB t x y S K){w:World}(r:ep w S){vx vy:Value}(s:bn w S.dom x vx)(m:bn w S.dom y vy) :
  ∃w' S',K S'/\ep w' S'/\dl S.dom S'.dom w w'/\(Instr.storeAt t vx vy).run ah w=.ok () w':=by
 cases x with
 | ptr es b i =>
  simp only[pB]at h
  cases n:S b with
  | none=>rw[n]at h;exact h.elim
  | some X =>
   rw[n]at h
   cases o:eK t with
   | none=>rw[o]at h;exact h.elim
   | some p =>
    obtain⟨es',k⟩:=p;rw[o]at h;obtain⟨rfl,rfl,v,c⟩:=h;simp only[bn]at s;subst s;by_cases d:k=1
    .subst d;rw[ai rfl]at c;obtain⟨cs,q,a,e,f,g⟩:=qg r n [y] [vy] (by simp only[aW];exact⟨m,trivial⟩) (fun z A=>by simp at A;subst A;exact c.1) i (by simpa using v)
     simp only[dj,FN,vE]at a e f g;rw[Jt]at f g;refine⟨_,_,c.2,f,g,?_⟩;obtain⟨E,_,_⟩:=qP c.1 m;exact wa q o vy (by rw[E,rc]) (by simpa using a) e
    .rw[af d]at c
     cases y with
     | agg l =>
      simp only at c;obtain⟨B,j,c⟩:=c;simp only[bn]at m;obtain⟨vs,rfl,C⟩:=m;obtain⟨cs,q,a,e,f,g⟩:=qg r n l vs C j i (by rw[B];exact v)
      refine⟨_,_,c,f,g,?_⟩;obtain⟨_,D,_,_⟩:=it l vs C j;generalize vs.flatMap (fun u=>u.cells.toList)=fl at a e D ⊢;exact wa (off:=X.es*i) q o (.agg fl.toArray) (by show fl.toArray.size=_;rw[bY,D,B]) (by show _+fl.toArray.size<=_;rw[bY];exact a) e
     | _=>exact c.elim
 | _=>exact h.elim

def er.zero(w:World):er w w.heap.size (.agg #[.bool false,.slice ab 0 0]) 0 :=
 ⟨false,ab,0,0,[],rfl,ae _,⟨rfl,by simp[mF],fun h=>absurd h om⟩,by intro x a;simp at a,by simp[aZ,sg]⟩
def fU:TypeId->Option (Nat×AV×Value)
 | 2=>some (1,.int .i64 0,.int .i64 0)
 | 3=>some (1,.int .i64 0,.int .i64 0)
 | 4=>some (1,.bool false,.bool false)
 | 28=>some (1,.nil,.slice ab 0 0)
 | 29=>some (1,.nil,.slice ab 0 0)
 | 52=>some (1,.nil,.slice ab 0 0)
 | 59=>some (1,.nil,.slice ab 0 0)
 | 50=>some (2,.big 0,.agg #[.bool false,.slice ab 0 0])
 | _=>ab
def l8(P:Program)(t:TypeId):Option (Value×Nat×Nat):=(P.info? t).bind fun i=>i.zero.map fun z=>(z,i.size,i.bytes)
def oB{t:Nat}(h:fU t=some (es,x,z)):∃i,ah.info? t=some i/\i.zero=some z/\i.size=es/\i.bytes<=32/\0<es/\z.cells.size=es/\eg es x/\∀w M,bn w M x z:=by
 have key:∀(z':Value) (s b:Nat),l8 ah t=some (z',s,b)->b<=32->∃i,ah.info? t=some i/\i.zero=some z'/\i.size=s/\i.bytes<=32:=by
  intro z' s b f j;unfold l8 at f
  cases g:ah.info? t with
  | none=>rw[g]at f;simp at f
  | some i =>
   rw[g]at f;simp only[dp,cH,gM]at f;obtain⟨z2,a,c,d,e⟩:=f;exact⟨i,rfl,by rw[a,c],d,om⟩
 unfold fU at h;split at h
 .cases h;obtain⟨i,a,c,d,e⟩:=key (.int .i64 0) 1 8 kr om;exact⟨i,a,c,d,e,om,rfl,by simp[eg],fun w M=>by simp[bn]⟩
 .cases h;obtain⟨i,a,c,d,e⟩:=key (.int .i64 0) 1 8 kr om;exact⟨i,a,c,d,e,om,rfl,by simp[eg],fun w M=>by simp[bn]⟩
 .cases h;obtain⟨i,a,c,d,e⟩:=key (.bool false) 1 1 kr om;exact⟨i,a,c,d,e,om,rfl,by simp[eg],fun w M=>by simp[bn]⟩
 .cases h;obtain⟨i,a,c,d,e⟩:=key (.slice ab 0 0) 1 24 kr om;exact⟨i,a,c,d,e,om,rfl,by simp[eg],fun w M=>by simp[bn]⟩
 .cases h;obtain⟨i,a,c,d,e⟩:=key (.slice ab 0 0) 1 24 kr om;exact⟨i,a,c,d,e,om,rfl,by simp[eg],fun w M=>by simp[bn]⟩
 .cases h;obtain⟨i,a,c,d,e⟩:=key (.slice ab 0 0) 1 24 kr om;exact⟨i,a,c,d,e,om,rfl,by simp[eg],fun w M=>by simp[bn]⟩
 .cases h;obtain⟨i,a,c,d,e⟩:=key (.slice ab 0 0) 1 24 kr om;exact⟨i,a,c,d,e,om,rfl,by simp[eg],fun w M=>by simp[bn]⟩
 .cases h;obtain⟨i,a,c,d,e⟩:=key (.agg #[.bool false,.slice ab 0 0]) 2 32 kr om;exact⟨i,a,c,d,e,om,rfl,by simp[eg],fun w M=>by simp only[bn];exact er.zero w⟩
 .cases h
def lM(c:ep w S){es:Nat}(t:TypeId)(l:List AV)(vs:List Value)(d:aW w S.dom l vs)(e:∀z∈l,eg es z) :
  S w.heap.size=ab/\ep (w.alloc (.cells (vs.flatMap (fun u=>u.cells.toList)).toArray t)) (S.upd w.heap.size ⟨t,es,l.length,fun j=>l.getD j .any⟩) /\
   dl S.dom (S.upd w.heap.size ⟨t,es,l.length,fun j=>l.getD j .any⟩).dom w (w.alloc (.cells (vs.flatMap (fun u=>u.cells.toList)).toArray t))/\(vs.flatMap (fun u=>u.cells.toList)).length=es*l.length:=by
 obtain⟨n,a,f,g⟩:=it l vs d e;have:=ep.new c (X:=⟨t,es,l.length,fun j=>l.getD j .any⟩) (cs:=(vs.flatMap (fun u=>u.cells.toList)).toArray) (by simp only[bY];rw[a];exact ae _) (fun j h=>by
   obtain⟨u,i,m⟩:=g j h;refine⟨u,?_,i⟩;have:=m (vs.flatMap (fun u=>u.cells.toList)).toArray 0 (fun q _=>by simp)
   simpa using this) (fun k y b=>by
   rw[eY]at b;exact(f y (fy b)).2)
 exact⟨this.1,this.2.1,this.2.2,a⟩
theorem jX{w:World}{M:Nat->Prop}{x:AV}{v:Value}(h:bn w M x v):∀n,aW w M (bN n x) (bN n v)
 | 0=>by simp[aW]
 | n+1=>by simp only[jN,aW];exact⟨h,jX h n⟩
def ep.reg{Y:eE}(h:ep w (S.upd b X))(m:Y.ty=X.ty)(f:Y.es=X.es)(i:Y.n=X.n)(o:∀j,j<X.n->Y.g j=X.g j):ep w (S.upd b Y)/\(S.upd b Y).dom=(S.upd b X).dom:=by
 have l:(S.upd b Y).dom=(S.upd b X).dom:=by
  funext k;simp only[St.dom,St.upd];by_cases e:k=b<;>simp[e]
 refine⟨⟨?_,h.gl,fun k Z a=>?_⟩,l⟩
 .have c:=h.z;simp only[St.upd]at c ⊢;by_cases e:0=b
  .rw[ai e]at c;cases c
  .rw[af e]at c ⊢;exact c
 rw[l];simp only[St.upd]at a;by_cases e:k=b
 .rw[ai e]at a
  cases a
  obtain⟨cs,p,q,r,s⟩:=h k X (by simp[St.upd,e])
  refine⟨cs,by rw[m];exact p,by rw[f,i];exact q,fun j d=>?_,s⟩
  rw[i]at d;obtain⟨u,t,v⟩:=r j d;rw[f,o j d];exact⟨u,t,v⟩
 .rw[af e]at a;exact h k Z (by simp[St.upd,e,a])
def zi{n j:Nat}(h:j<n)(x d:AV):(bN n x).getD j d=x:=by simp[List.getD,h]
def mw(t:TypeId)(S:St)(K:AV->St->Prop):Prop:=match fU t with
 | some (es,x,_)=>∀b,S b=ab->K (.ptr es b 0) (S.upd b ⟨t,es,1,fun _=>x⟩)
 | ab=>(match t with
  | 167=>∀b,S b=ab->K (.ptr 2 b 0) (S.upd b ⟨167,2,2,fun _=>.big 0⟩)
  | 197=>∀b,S b=ab->K (.ptr 2 b 0) (S.upd b ⟨197,2,7,fun _=>.big 0⟩)
  | 218=>∀b,S b=ab->K (.ptr 1 b 0) (S.upd b ⟨218,1,2,fun j=>if j=0 then .nil else .int .i64 0⟩)
  | 202=>∀b,S b=ab->K (.ptr 1 b 0) (S.upd b ⟨202,1,2,fun _=>.int .u64 0⟩)
  | _=>False)
def Bq(a:ah.info? t=some i)(b:i.zero=some z)(w:World) :
  (Instr.alloc t true (.tuple #[])).run ah w=.ok (.pointer (some ⟨w.heap.size,0,ab⟩)) (w.alloc (.cells z.cells t)):=by
 simp[Instr.alloc,zeroValue,typeInfo,a,b,newVar,newRow]
def np(a:ep w S){t es:Nat}(l:List AV)(vs:List Value){i:TypeInfo}{z:Value}(c:ah.info? t=some i)(d:i.zero=some z)(e:z.cells=(vs.flatMap (fun u=>u.cells.toList)).toArray)
  (f:aW w S.dom l vs) (h:∀y∈l,eg es y) (Y:eE) (k:Y.ty=t) (m:Y.es=es) (o:Y.n=l.length) (p:∀j,j<l.length->Y.g j=l.getD j .any) {K:AV->St->Prop} (q:∀b,S b=ab->K (.ptr es b 0) (S.upd b Y)) :
  Dt (Instr.alloc t true (.tuple #[])) w S K:=by
 obtain⟨r,s,v,_⟩:=lM a t l vs f h;obtain⟨x,A⟩:=ep.reg s (Y:=Y) k m o p;refine⟨_,.pointer (some ⟨w.heap.size,0,ab⟩),_,_,q _ r,by simp[bn],x,by rw[A];exact v,?_⟩
 rw[Bq c d,e]
def Dl{K:AV->St->Prop}(h:mw t S K){w:World}(g:ep w S):Dt (Instr.alloc t true (.tuple #[])) w S K:=by
 have key:∀(z':Value) (s b:Nat),l8 ah t=some (z',s,b)->∃i,ah.info? t=some i/\i.zero=some z':=by
  intro z' s b f;unfold l8 at f
  cases l:ah.info? t with
  | none=>rw[l]at f;simp at f
  | some i =>
   rw[l]at f;simp only[dp,cH,gM]at f;obtain⟨z2,d,e,m,n⟩:=f;exact⟨i,rfl,by rw[d,e]⟩
 unfold mw at h
 cases k:fU t with
 | some p =>
  obtain⟨es,x,z⟩:=p;rw[k]at h;obtain⟨i,d,e,m,n,r,u,o,q⟩:=oB k;exact np g [x] [z] d e sm (by simp only[aW];exact⟨q _ _,trivial⟩) (fun y a=>by simp at a;subst a;exact o) ⟨t,es,1,fun _=>x⟩ rfl rfl rfl (fun j c=>by simp at c;subst c;rfl) h
 | none =>
  rw[k]at h;have zb:∀M,bn w M (.big 0) (.agg #[.bool false,.slice ab 0 0]):=fun M=>by simp only[bn];exact er.zero w
  simp only at h;split at h
  .obtain⟨i,d,e⟩:=key (.agg #[.bool false,.slice ab 0 0,.bool false,.slice ab 0 0]) 4 64 kr
   exact np g (bN 2 (.big 0)) (bN 2 (.agg #[.bool false,.slice ab 0 0])) d e rfl (jX (zb _) 2) (fun y a=>by rw[fV a];simp[eg]) ⟨167,2,2,fun _=>.big 0⟩ rfl rfl rfl
    (fun j c=>(zi (by rw[kL]at c;exact c) _ _).symm) h
  .obtain⟨i,d,e⟩:=key (.agg (bN 7 [.bool false,.slice ab 0 0]).flatten.toArray) 14 224 kr
   exact np g (bN 7 (.big 0)) (bN 7 (.agg #[.bool false,.slice ab 0 0])) d e rfl (jX (zb _) 7) (fun y a=>by rw[fV a];simp[eg]) ⟨197,2,7,fun _=>.big 0⟩ rfl rfl rfl
    (fun j c=>(zi (by rw[kL]at c;exact c) _ _).symm) h
  .obtain⟨i,d,e⟩:=key (.agg #[.slice ab 0 0,.int .i64 0]) 2 32 kr
   exact np g [.nil,.int .i64 0] [.slice ab 0 0,.int .i64 0] d e rfl (by simp[aW,bn]) (fun y a=>by simp at a;rcases a with rfl|rfl<;>simp[eg]) ⟨218,1,2,fun j=>if j=0 then .nil else .int .i64 0⟩ rfl rfl rfl
    (fun j c=>by match j with
     | 0=>rfl
     | 1=>rfl
     | j+2=>exact absurd c (by simp only[cA,jn];omega)) h
  .obtain⟨i,d,e⟩:=key (.agg #[.int .u64 0,.int .u64 0]) 2 16 kr
   exact np g [.int .u64 0,.int .u64 0] [.int .u64 0,.int .u64 0] d e rfl (by simp[aW,bn]) (fun y a=>by simp at a;subst a;simp[eg]) ⟨202,1,2,fun _=>.int .u64 0⟩ rfl rfl rfl
    (fun j c=>by match j with
     | 0=>rfl
     | 1=>rfl
     | j+2=>exact absurd c (by simp only[cA,jn];omega)) h
  .exact h.elim

end Go.Proofs.YtdobfmlmenaajaaGreatDoor
