/-
  Lemmas for NeighbourRaw.
-/
import Derived.Test.YtdobfmlmenaajaaGreatDoorH13
namespace Go.Proofs.YtdobfmlmenaajaaGreatDoor
open Go.RowKit Tryz
open _root_.List renaming replicate→bU
open _root_.Nat renaming beq→ap,blt→aN,ble→jB
open _root_.Option renaming none→ab
set_option maxHeartbeats 6400000
set_option maxRecDepth 4096
set_option linter.all false
variable{ops:Array Oper}{X:EB}{l l':EL}{B a b:List Nat}{A:List XV}{nx t:Nat}{o:Oper}{y:Option (Option EB)}{x:Option Operand}{φ ψ:Ph}{te te':TE}{v:XV}{r:XV×Nat×EL}
noncomputable section
def Km:XV->Option Nat
 | .int _ (.ofNat n)=>some n
 | _=>ab
def yo{φ:Ph}{x:XV}{a:AV}{n:Nat}(h:Km x=some n)(b:ER φ x a):∃k,a=.int k (n:Int):=by
 unfold Km at h;split at h
 .cases h;simp only[ER]at b;exact⟨_,b⟩
 .cases h
def GX(t:Nat)(x i:XV):Option XV:=match Km i with
 | ab=>ab
 | some n=>match dJ t,x with
  | some e,.sl es b off len=>match ap es (bZ e)&&aN n len with
   | true=>some (.ptr es b (off+n))
   | false=>ab
  | some e,.lst es L=>match ap es (bZ e),L[n]? with
   | true,some y=>some (.pat es y)
   | _,_=>ab
  | ab,.ptr es b k=>match ap es 2&&ap t 195&&aN n 2 with
   | true=>some (.ptr 2 b (k+n))
   | false=>ab
  | _,_=>ab
def Kp{φ:Ph}{t:Nat}{x i v:XV}{a c:AV}{K:AV->Prop}(h:GX t x i=some v)(f:ER φ x a)(p:ER φ i c)(l:∀z,ER φ v z->K z):qi t a c K:=by
 unfold GX at h;split at h
 .cases h
 .rename_i n q;obtain⟨k,rfl⟩:=yo q p;unfold qi;split at h
  .rename_i e es b off len j;simp only[ER]at f;obtain⟨b',m,rfl⟩:=f;split at h
   .rename_i d;simp only[au]at d
    cases h
    have o:n<len:=by simpa using d.2
    simp only[j];exact⟨ak d.1,⟨om,om⟩,l _ (by simp only[ER,cC];exact⟨b',m,rfl⟩)⟩
   .cases h
  .rename_i e es L j;simp only[ER]at f;obtain⟨g,rfl,r⟩:=f;split at h
   .rename_i y s d
    cases h
    have o:n<L.length:=by
     rcases aC n L.length with h|h
     .exact h
     .rw[cH h]at d;cases d
    simp only[j];refine⟨ak s,⟨om,om⟩,l _ ?_⟩
    simp only[ER,cC];have:=r.get d;rw[aD]at this;exact⟨_,rfl,this⟩
   .cases h
  .rename_i es b k j;simp only[ER]at f;obtain⟨b',m,rfl⟩:=f;split at h
   .rename_i d;simp only[au]at d
    cases h
    have o:n<2:=by simpa using d.2
    simp only[j];exact⟨⟨ak d.1.1,ak d.1.2⟩,⟨om,om⟩,l _ (by simp only[ER,cC];exact⟨b',m,rfl⟩)⟩
   .cases h
  .cases h
def GY(t:Nat)(x:XV)(f:Nat):Option XV:=match gD t f,x with
 | some (es',k),.ptr es b i=>match ap es' es with
  | true=>some (.ptr es b (i+k))
  | false=>ab
 | _,_=>ab
def Kq{φ:Ph}{t f:Nat}{x v:XV}{a:AV}{K:AV->Prop}(h:GY t x f=some v)(c:ER φ x a)(d:∀z,ER φ v z->K z):qj t a f K:=by
 unfold GY at h;split at h
 .rename_i es' k es b i e;simp only[ER]at c;obtain⟨b',g,rfl⟩:=c;split at h
  .rename_i j
   cases h
   unfold qj;simp only[e];exact⟨ak j,d _ (by simp only[ER];exact⟨b',g,rfl⟩)⟩
  .cases h
 .cases h
def EW(t:Nat)(x y:XV)(nx:Nat)(l:EL):XR:=match dJ t,x,y with
 | some e,.int .i64 (.ofNat n),.int .i64 (.ofNat m)=>match zE e with
  | some (es,z)=>match ap n m&&ap es (bZ e)&&jB n 4096 with
   | true=>tU nx l ⟨e,es,bU n z⟩ (.sl es nx 0 n)
   | false=>ab
  | ab=>ab
 | _,_,_=>ab
def Mh{φ:Ph}{t nx:Nat}{x y:XV}{a c:AV}{l:EL}{S:St}{r:XV×Nat×EL}{K:AV->St->Prop}(h:EW t x y nx l=some r)(d:ER φ x a)(g:ER φ y c)(i:MR φ l S)(k:XK φ r.1 r.2.2 K):lr t a c S K:=by
 unfold EW at h;split at h
 .rename_i e n m o;simp only[ER]at d g;subst d g;split at h
  .rename_i es z p;split at h
   .rename_i f;simp only[au]at f;have q:=ak f.1.1;have s:=ak f.1.2;have B:=cu f.2;subst q;obtain⟨z',v,u,w⟩:=EQ p;unfold lr;simp only[o,u];refine⟨trivial,s,⟨cA n,by have:Int.ofNat n=(n:Int):=rfl;omega⟩,fun b A=>?_⟩
    refine pV h i (lM.of fun j x d=>?_) sm k A (.inr ⟨sm,sm⟩)
    have:=gH (fL d);subst this;exact w φ
   .cases h
  .cases h
 .cases h
def xlo:Option XV->Option Nat
 | ab=>some 0
 | some x=>Km x
def xhi(len:Nat):Option XV->Option Nat
 | ab=>some len
 | some x=>Km x
def xmx(len h:Nat)(hi:Option XV):Option XV->Bool
 | ab=>true
 | some x=>match Km x with
  | some a=>jB h a&&jB a len&&hi.isSome
  | ab=>false
def tB(len:Nat)(lo hi mx:Option XV):Option (Nat×Nat):=match xlo lo,xhi len hi with
 | some a,some h=>match xmx len h hi mx&&jB a h&&jB h len with
  | true=>some (a,h)
  | false=>ab
 | _,_=>ab
def TW(φ:Ph):Option XV->Option AV->Prop
 | ab,ab=>True
 | some x,some a=>ER φ x a
 | _,_=>False
def sL{φ:Ph}{len:Nat}{lo hi mx:Option XV}{lo' hi' mx':Option AV}{p:Nat×Nat}{K:Nat->Nat->Prop}(h:tB len lo hi mx=some p)(j:TW φ lo lo')(e:TW φ hi hi')(l:TW φ mx mx')(q:p.1<=p.2->p.2<=len->K p.1 p.2):uL len lo' hi' mx' K:=by
 unfold tB at h;split at h
 .rename_i a b f g;split at h
  .rename_i i
   cases h
   simp only[au]at i;have n:=cu i.1.2;have o:=cu i.2;refine⟨a,b,?_,?_,?_,n,o,q n o⟩
   .match lo,lo',j with
    | ab,ab,_=>simp only[xlo]at f;cases f;rfl
    | some x,some a',j =>
     simp only[xlo]at f;obtain⟨k,rfl⟩:=yo f j;rfl
   .match hi,hi',e with
    | ab,ab,_=>simp only[xhi]at g;cases g;rfl
    | some x,some a',e =>
     simp only[xhi]at g;obtain⟨k,rfl⟩:=yo g e;rfl
   .match mx,mx',l with
    | ab,ab,_=>trivial
    | some x,some a',l =>
     have d:=i.1.1;simp only[xmx]at d;split at d
     .rename_i c m;simp only[au]at d;obtain⟨k,rfl⟩:=yo m l;have r:=cu d.1.1;have s:=cu d.1.2;refine⟨om,om,?_⟩
      match hi,hi',e,d.2 with
      | some _,some _,_,_=>rfl
     .cases d
  .cases h
 .cases h
def GT(t:Nat)(x:XV)(lo hi mx:Option XV):Option XV:=match dJ t,x with
 | some e,.sl es b off len=>match ap es (bZ e),tB len lo hi mx with
  | true,some (a,h)=>match ap a 0||aN a h with
   | true=>some (.sl es b (off+a) (h-a))
   | false=>some (.lst es [])
  | _,_=>ab
 | some e,.lst es L=>match ap es (bZ e),tB L.length lo hi mx with
  | true,some (a,h)=>some (.lst es ((L.drop a).take (h-a)))
  | _,_=>ab
 | some _,.nil=>match tB 0 lo hi mx with
  | some _=>some .nil
  | ab=>ab
 | _,_=>ab
def Kk{φ:Ph}{t:Nat}{x v:XV}{a:AV}{lo hi mx:Option XV}{lo' hi' mx':Option AV}{K:AV->Prop}(h:GT t x lo hi mx=some v)(c:ER φ x a)(m:TW φ lo lo')(n:TW φ hi hi')(o:TW φ mx mx')(l:∀z,ER φ v z->K z):lj t a lo' hi' mx' K:=by
 unfold GT at h;unfold lj;split at h
 .rename_i e es b off len i;simp only[ER]at c;obtain⟨b',w,rfl⟩:=c;simp only[i];split at h
  .rename_i a d r k;refine⟨ak r,sL k m n o fun s u=>?_⟩;simp only
   cases f:(ap a 0||aN a d)with
   | true =>
    rw[f]at h
    cases h
    have:a=0∨a<d:=by
     simp only[gM]at f;rcases f with q|q
     .exact .inl (ak q)
     .exact .inr (by simpa using q)
    rw[ai this];exact l _ (by simp only[ER];exact⟨b',w,rfl⟩)
   | false =>
    rw[f]at h
    cases h
    have:¬(a=0∨a<d):=by
     rintro (q|q)
     .subst q;simp at f
     .have y:aN a d=true:=by simpa using q
      rw[y]at f;simp at f
    rw[af this];exact l _ (by simp only[ER];exact⟨_,rfl,by simp[lM]⟩)
  .cases h
 .rename_i e es L i;simp only[ER]at c;obtain⟨g,rfl,A⟩:=c;simp only[i];split at h
  .rename_i a d r k
   cases h
   refine⟨ak r,sL k m n o fun s u=>?_⟩;simp only at s u ⊢;refine l _ ?_;simp only[ER];have el:((L.drop a).take (d-a)).length=d-a:=by simp;omega
   refine⟨_,by rw[el],lM.of fun j x c=>?_⟩
   have B:j<d-a:=by
    rcases aC j (d-a)with q|q
    .exact q
    .rw[cH om]at c;cases c
   rw[fv B,qP]at c;have:=A.get c;rw[aD]at this ⊢;exact this
  .cases h
 .rename_i e i;simp only[ER]at c;subst c;simp only[i];split at h
  .rename_i p k
   cases h
   exact sL k m n o fun _ _=>l _ (by simp[ER])
  .cases h
 .cases h
def Sm(t:Nat)(x:XV):Option XV:=match dJ t,x with
 | some _,.sl _ _ _ len=>some (.int .i64 len)
 | some _,.lst _ L=>some (.int .i64 L.length)
 | some _,.nil=>some (.int .i64 0)
 | _,_=>ab
def OV{φ:Ph}{t:Nat}{x v:XV}{a:AV}{K:AV->Prop}(h:Sm t x=some v)(c:ER φ x a)(f:∀z,ER φ v z->K z):Ed t a K:=by
 unfold Sm at h;unfold Ed;split at h
 .rename_i e es b off len d;simp only[ER]at c;obtain⟨b',i,rfl⟩:=c
  cases h;simp only[d];exact f _ (by simp[ER])
 .rename_i e es L d;simp only[ER]at c;obtain⟨g,rfl,j⟩:=c
  cases h;simp only[d];exact f _ (by simp[ER])
 .rename_i e d;simp only[ER]at c;subst c
  cases h;simp only[d];exact f _ (by simp[ER])
 .cases h
def OY(l:EL):XV->Option (Nat×List XV×Option Nat)
 | .sl es i off len=>match eL l i with
  | some (some X)=>match ap X.es es&&jB (off+len) X.l.length with
   | true=>some (es,(X.l.drop off).take len,some i)
   | false=>ab
  | _=>ab
 | .lst es L=>some (es,L,ab)
 | _=>ab
def Jb{φ:Ph}{l:EL}{S:St}{x:XV}{a:AV}{es:Nat}{L:List XV}{o:Option Nat}(h:OY l x=some (es,L,o))(c:ER φ x a)(m:MR φ l S):∃g o',Bx S a=some (es,L.length,g,o')/\lM φ L g 0/\∀b,o'=some b->∃i X,o=some i/\φ i=some b/\eL l i=some (some X):=by
 unfold OY at h;split at h
 .rename_i es' i off len;simp only[ER]at c;obtain⟨b,e,rfl⟩:=c;split at h
  .rename_i X f;obtain⟨b',g,k,n,p⟩:=m.live i X f;rw[e]at k;cases k;split at h
   .rename_i d;simp only[au]at d;have r:=ak d.1;have s:=cu d.2
    cases h
    have el:((X.l.drop off).take len).length=len:=by simp;omega
    refine⟨_,_,by simp only[Bx,n,dE];rw[ai ⟨r,s⟩,el],lM.of fun j x c=>?_,fun v d=>by cases d;exact⟨i,X,rfl,e,f⟩⟩
    have t:j<len:=by
     rcases aC j len with q|q
     .exact q
     .rw[cH om]at c;cases c
    rw[fv t,qP]at c;have:=p.get c;rw[aD]at this ⊢;exact this
   .cases h
  .cases h
 .rename_i es' L';simp only[ER]at c;obtain⟨g,rfl,u⟩:=c
  cases h
  exact⟨g,ab,rfl,u,fun b h=>by cases h⟩
 .cases h
def C2(t t':Nat)(s x:XV)(nx:Nat)(l:EL):XR:=match dJ t,OY l x with
 | some e,some (es,L,o)=>match ap t t'&&(zE e).isSome&&ap es (bZ e)&&aN 0 L.length&&nV es L&&jB L.length 1000 with
  | true=>match s with
   | .nil=>tU nx l ⟨e,es,L⟩ (.sl es nx 0 L.length)
   | .sl es' i off len=>match eL l i,eL l nx with
    | some (some X),ab=>match ap es' es&&ap off 0&&ap X.ty e&&ap X.es es&&ap X.l.length len&&jB len 1000&&(match o with
      | some j=>!ap j i
      | ab=>true)with
     | true=>some (.sl es nx 0 (len+L.length),nx+1,sC (sC l i ab) nx (some ⟨e,es,X.l++L⟩))
     | false=>ab
    | _,_=>ab
   | _=>ab
  | false=>ab
 | _,_=>ab
def G1{φ:Ph}{t t' nx:Nat}{s x:XV}{a c:AV}{l:EL}{S:St}{r:XV×Nat×EL}{K:AV->St->Prop}(h:C2 t t' s x nx l=some r)(n:ER φ s a)(d:ER φ x c)(f:MR φ l S)(M:XK φ r.1 r.2.2 K):fU t t' a c S K:=by
 unfold C2 at h;split at h
 .rename_i e es L o T k;obtain⟨g,o',U,z,V⟩:=Jb k d f;split at h
  .rename_i N;simp only[au]at N;obtain⟨⟨⟨⟨⟨A,O⟩,B⟩,C⟩,W⟩,p6⟩:=N;have A:=ak A;have B:=ak B;have C:0<L.length:=by simpa using C
   have p6:=cu p6;have p:(gG e).isSome=true:=by
    cases p:zE e with
    | none=>rw[p]at O;cases O
    | some y =>
     obtain⟨a,v,Z,_⟩:=EQ (t:=e) (es:=y.1) (x:=y.2) p;rw[Z];rfl
   unfold fU;simp only[T,U];refine⟨A,p,B,C,fun j u=>by have:=wt W z j u;rwa [aD]at this,?_⟩
   split at h
   .simp only[ER]at n;subst n;exact⟨om,fun b m=>pV h f z rfl M m (.inr ⟨rfl,rfl⟩)⟩
   .rename_i es' i off len;simp only[ER]at n;obtain⟨b,m,rfl⟩:=n;split at h
    .rename_i X D E;obtain⟨b',g',P,e2,e3⟩:=f.live i X D;rw[m]at P;cases P;split at h
     .rename_i Q
      cases h
      simp only[au]at Q;obtain⟨⟨⟨⟨⟨⟨F,G⟩,H⟩,I⟩,w⟩,R⟩,s7⟩:=Q;have F:=ak F;have G:=ak G;have H:=ak H;have I:=ak I;have w:=ak w;have R:=cu R;simp only[e2];refine⟨F,G,H,I,w,om,fun eo=>?_,fun b2 J=>?_⟩
      .obtain⟨j,Y,j1,j2,j3⟩:=V _ eo;subst j1;have:=f.inj j i Y X b j3 D j2 m;subst this;simp at s7
      .have hl:len+L.length=(X.l++L).length:=by simp;omega
       have hG:lM φ (X.l++L) (nm g' len L.length g) 0:=lM.of fun j x d=>by
        rw[aD];unfold nm;by_cases u:j<len
        .rw[et om]at d;have:=e3.get d;rw[aD]at this;split
         .simp only[bW];rw[af om];exact this
         .simp only[ai u];exact this
        .rw[ef om,w]at d;have:=z.get d;rw[aD]at this;split
         .rename_i h1;have hj2:j-len<L.length:=by
           rcases aC (j-len) L.length with q|q
           .exact q
           .rw[cH q]at d;cases d
          simp only[bW];rw[ai om]
          rwa [(om:j-len=0)]at this
         .simp only[af u];exact this
       obtain⟨h5,h6⟩:=f.move D m E J (ty:=e) (es:=es) hG hl;refine M _ _ _ h5 ?_ h6;simp only[ER];exact⟨b2,by unfold Ph.set;rw[ai rfl],rfl⟩
     .cases h
    .cases h
   .cases h
  .cases h
 .cases h
def lM.app{φ:Ph}{A L:List XV}{g' g:Nat->AV}{len:Nat}(c:lM φ A g' 0)(d:A.length=len)(e:lM φ L g 0):lM φ (A++L) (nm g' len L.length g) 0:=lM.of fun j x a=>by
 rw[aD];unfold nm;by_cases b:j<len
 .rw[et om]at a;have:=c.get a;rw[aD]at this;split
  .simp only[bW];rw[af om];exact this
  .simp only[ai b];exact this
 .rw[ef om,d]at a;have:=e.get a;rw[aD]at this;split
  .rename_i h;have f:j-len<L.length:=by
    rcases aC (j-len) L.length with q|q
    .exact q
    .rw[cH q]at a;cases a
   simp only[bW];rw[ai om]
   rwa [(om:j-len=0)]at this
  .simp only[af b];exact this
def zg(t:Nat)(s x:XV)(nx:Nat)(l:EL):XR:=match s,x with
 | .sl es i off len,.int _ (.ofNat m)=>(match dJ t,eL l i,eL l nx with
  | some e,some (some X),ab=>(match zE e with
   | some (es',z)=>(match ap es' es&&ap es (bZ e)&&ap off 0&&ap X.ty e&&ap X.es es&&ap X.l.length len&&jB 1 m&&jB (len+m) 1048576 with
    | true=>some (.sl es nx 0 (len+m),nx+1,sC (sC l i ab) nx (some ⟨e,es,X.l++bU m z⟩))
    | false=>ab)
   | ab=>ab)
  | _,_,_=>ab)
 | _,_=>ab
def E6{φ:Ph}{t nx:Nat}{s x:XV}{a c:AV}{l:EL}{S:St}{r:XV×Nat×EL}{K:AV->St->Prop}(h:zg t s x nx l=some r)(p:ER φ s a)(q:ER φ x c)(u:MR φ l S)(E:XK φ r.1 r.2.2 K):ob t a c S K:=by
 unfold zg at h;split at h
 .rename_i es i off len k m;simp only[ER]at p q;obtain⟨b,w,rfl⟩:=p;subst q;split at h
  .rename_i e X F A f;obtain⟨b',g',B,G,H⟩:=u.live i X A;rw[w]at B;cases B;split at h
   .rename_i es' z I;obtain⟨av,v,J,z2⟩:=EQ I;split at h
    .rename_i C
     cases h
     simp only[au]at C;obtain⟨⟨⟨⟨⟨⟨⟨L,M⟩,N⟩,O⟩,g⟩,n⟩,P⟩,Q⟩:=C;unfold ob;simp only[F,G,J];have g:=ak g;refine⟨ak L,ak M,ak N,ak O,g,ak n,cu P,cu Q,fun R o=>?_⟩;have T:len+m=(X.l++bU m z).length:=by
      have:=ak n;simp;omega
     have U:lM φ (bU m z) (fun _=>av) 0:=lM.of fun j y d=>by
      rw[tw]at d;split at d
      .cases d;exact z2 φ
      .cases d
     have D:=lM.app H (ak n) U;rw[lc]at D;obtain⟨V,W⟩:=u.move A w f o (ty:=e) (es:=es) D T;refine E _ _ _ V ?_ W;simp only[ER];exact⟨R,by unfold Ph.set;rw[ai rfl],rfl⟩
    .cases h
   .cases h
  .cases h
 .cases h
def Mn(t:Nat)(d s:XV)(l:EL):Option (XV×EL):=match dJ t,d with
 | some e,.sl es i off len=>match eL l i,OY l s with
  | some (some X),some (es',L,_)=>match ap es (bZ e)&&ap es' es&&ap X.es es&&jB (off+len) X.l.length&&ap L.length len&&aN 0 L.length&&nV es L with
   | true=>some (.int .i64 len,sC l i (some ⟨X.ty,X.es,xt X.l off L⟩))
   | false=>ab
  | _,_=>ab
 | _,_=>ab
def Mm{φ:Ph}{t:Nat}{d s v:XV}{a c:AV}{l l':EL}{S:St}{K:AV->St->Prop}(h:Mn t d s l=some (v,l'))(w:ER φ d a)(D:ER φ s c)(m:MR φ l S)(E:XK φ v l' K):sG t a c S K:=by
 unfold Mn at h;split at h
 .rename_i e es i off len F;simp only[ER]at w;obtain⟨b,y,rfl⟩:=w;split at h
  .rename_i X es' L o z f;obtain⟨g,o',G,A,N⟩:=Jb f D m;obtain⟨b',g',B,H,I⟩:=m.live i X z;rw[y]at B;cases B;split at h
   .rename_i C
    cases h
    simp only[au]at C;obtain⟨⟨⟨⟨⟨⟨n,p⟩,q⟩,r⟩,u⟩,p6⟩,J⟩:=C;have n:=ak n;have p:=ak p;have q:=ak q;have r:=cu r;have u:=ak u;have p6:0<L.length:=by simpa using p6
    unfold sG;simp only[F,H,G];refine⟨n,p,q,r,u,p6,fun j M=>by have:=wt J A j M;rwa [aD]at this,?_⟩
    refine E _ _ _ (Ph.le_refl _) (by simp[ER]) (m.put z y (lM.of fun j x k=>?_) (by simp[vP]))
    rw[vQ _ _ _ _ om]at k;simp only[aD];by_cases e:off<=j/\j<off+L.length
    .rw[ai e]at k;rw[ai om];have:=A.get k
     rwa [aD]at this
    .rw[af e]at k;rw[af om];have:=I.get k
     rwa [aD]at this
   .cases h
  .cases h
 .cases h
def xint(k:IntKind)(op:BinOp)(a b:Int):Option XV:=match op with
 | .add=>some (.int k (k.wrap (a+b)))
 | .sub=>some (.int k (k.wrap (a-b)))
 | .mul=>some (.int k (k.wrap (a*b)))
 | .quo=>if b=0 then ab else some (.int k (k.wrap (a.tdiv b)))
 | .rem=>if b=0 then ab else some (.int k (a.tmod b))
 | .eql=>some (.bool (a==b))
 | .neq=>some (.bool (a != b))
 | .lss=>some (.bool (decide (a<b)))
 | .leq=>some (.bool (decide (a<=b)))
 | .gtr=>some (.bool (decide (b<a)))
 | .geq=>some (.bool (decide (b<=a)))
 | _=>ab
def Ss(op:BinOp)(t:Nat)(x y:XV):Option XV:=match x,y with
 | .int k a,.int k' b=>if k=k' then xint k op a b else ab
 | .bool a,.bool b=>match ap t 4 with
  | true=>(match op with
   | .eql=>some (.bool (a==b))
   | .neq=>some (.bool (a != b))
   | _=>ab)
  | false=>ab
 | .sl _ _ _ _,.nil=>match op,ap t 29 with
  | .eql,true=>some (.bool false)
  | _,_=>ab
 | .lst _ L,.nil=>match op,ap t 29&&aN 0 L.length with
  | .eql,true=>some (.bool false)
  | _,_=>ab
 | .nil,.nil=>match op,ap t 29 with
  | .eql,true=>some (.bool true)
  | _,_=>ab
 | _,_=>ab
def O0{φ:Ph}{op:BinOp}{t:Nat}{x y v:XV}{a c:AV}{K:AV->Prop}(h:Ss op t x y=some v)(d:ER φ x a)(e:ER φ y c)(i:∀z,ER φ v z->K z):Gk op t a c K:=by
 unfold Ss at h;split at h
 .simp only[ER]at d e;subst d e;split at h
  .rename_i j;subst j;refine⟨rfl,?_⟩;unfold xint at h;split at h<;>first
    | cases h;done
    | (cases h;exact i _ (by simp[ER]))
    | (split at h
       .cases h
       .rename_i k;cases h;exact⟨k,i _ (by simp[ER])⟩)
  .cases h
 .simp only[ER]at d e;subst d e;split at h
  .rename_i f;refine⟨ak f,?_⟩;split at h<;>first
    | cases h;done
    | (cases h;exact i _ (by simp[ER]))
  .cases h
 .simp only[ER]at d e;obtain⟨b,_,rfl⟩:=d;subst e;split at h
  .rename_i f
   cases h
   exact⟨⟨ak f,rfl⟩,i _ (by simp[ER])⟩
  .cases h
 .simp only[ER]at d e;obtain⟨g,rfl,_⟩:=d;subst e;split at h
  .rename_i f
   cases h
   simp only[au]at f;exact⟨⟨ak f.1,rfl,by simpa using f.2⟩,i _ (by simp[ER])⟩
  .cases h
 .simp only[ER]at d e;subst d e;split at h
  .rename_i f
   cases h
   exact⟨⟨ak f,rfl⟩,i _ (by simp[ER])⟩
  .cases h
 .cases h
end

noncomputable section
def xun(op:UnOp)(x:XV):Option XV:=match op,x with
 | .neg,.int k n=>some (.int k (k.wrap (0-n)))
 | .not,.bool b=>some (.bool (!b))
 | _,_=>ab
def Sl{φ:Ph}{op:UnOp}{x v:XV}{a:AV}{K:AV->Prop}(h:xun op x=some v)(b:ER φ x a)(c:∀z,ER φ v z->K z):RI op a K:=by
 unfold xun at h;split at h
 .simp only[ER]at b;subst b;cases h;exact c _ (by simp[ER])
 .simp only[ER]at b;subst b;cases h;exact c _ (by simp[ER])
 .cases h
def Mp(s d:Nat)(x:XV):Option XV:=match tZ d,x with
 | some k,.int _ n=>match Bo s with
  | true=>some (.int k (k.wrap n))
  | false=>ab
 | _,_=>ab
def Mo{φ:Ph}{s d:Nat}{x v:XV}{a:AV}{K:AV->Prop}(h:Mp s d x=some v)(c:ER φ x a)(e:∀z,ER φ v z->K z):uH s d a K:=by
 unfold Mp at h;split at h
 .rename_i k k' n b;simp only[ER]at c;subst c;split at h
  .rename_i f
   cases h
   unfold uH;simp only[b];exact⟨f,e _ (by simp[ER])⟩
  .cases h
 .cases h
def GZ(t:Nat)(ps:List (Nat×XV)):Option XV:=match t,ps with
 | 50,[]=>some (.big 0)
 | 167,[(0,x),(1,y)]=>if nY 2 x&&nY 2 y then some (.agg [x,y])else ab
 | 195,[(0,x),(1,y)]=>if nY 2 x&&nY 2 y then some (.agg [x,y])else ab
 | 183,[(0,x),(1,y)]=>if nY 1 x&&nY 1 y then some (.agg [x,y])else ab
 | 218,[(0,x),(1,y)]=>if nY 1 x&&nY 1 y then some (.agg [x,y])else ab
 | 202,[(0,x),(1,y)]=>if nY 1 x&&nY 1 y then some (.agg [x,y])else ab
 | 160,[(0,x),(1,y)]=>if nY 1 x&&nY 1 y then some (.agg [x,y,.nil,.nfn])else ab
 | 238,[(0,x),(1,y),(2,z)]=>if nY 1 x&&nY 1 y&&nY 1 z then some (.agg [x,y,z])else ab
 | 197,[(0,x),(1,y),(2,z),(3,.agg [p,q]),(4,.agg [r,s])]=>if nV 2 [x,y,z,p,q,r,s]then some (.agg [x,y,z,p,q,r,s])else ab
 | _,_=>ab
def Ox(φ:Ph):List (Nat×XV)->List (Nat×AV)->Prop
 | [],[]=>True
 | p::l,q::r=>p.1=q.1/\ER φ p.2 q.2/\Ox φ l r
 | _,_=>False
def Kr{φ:Ph}{t:Nat}{ps:List (Nat×XV)}{qs:List (Nat×AV)}{v:XV}{K:AV->Prop}(h:GZ t ps=some v)(f:Ox φ ps qs)(u:∀z,ER φ v z->K z):rF t qs K:=by
 have two:∀{x y:XV} {qs:List (Nat×AV)},Ox φ [(0,x),(1,y)] qs->∃a b,qs=[(0,a),(1,b)]/\ER φ x a/\ER φ y b:=by
  intro x y qs f
  match qs,f with
  | [(i,a),(j,b)],f =>
   simp only[Ox]at f;obtain⟨rfl,m,rfl,n,_⟩:=f;exact⟨a,b,rfl,m,n⟩
  | [],f=>exact f.elim
  | [_],f=>exact f.2.2.elim
  | _::_::_::_,f=>exact f.2.2.2.2.elim
 unfold GZ at h;split at h
 .match qs,f with
  | [],_=>cases h;exact u _ (by simp[ER])
 all_goals first
  | (rename_i x y
     obtain⟨a,b,rfl,m,n⟩:=two f;split at h
     .rename_i l;simp only[au]at l
      cases h
      refine⟨lD l.1 m,lD l.2 n,u _ ?_⟩;simp only[ER];refine⟨_,rfl,?_⟩;simp only[fD,ER];simp[m,n]
     .cases h)
  | (rename_i x y z
     split at h
     .rename_i l;simp only[au]at l
      cases h
      match qs,f with
      | [(D,a),(E,b),(F,c)],f =>
       simp only[Ox]at f;obtain⟨rfl,m,rfl,n,rfl,w,_⟩:=f;refine⟨lD l.1.1 m,lD l.1.2 n,lD l.2 w,u _ ?_⟩;simp only[ER];refine⟨_,rfl,?_⟩;simp only[fD];exact⟨m,n,w,trivial⟩
      | [],f=>exact f.elim
      | [_],f=>exact f.2.2.elim
      | [_,_],f=>exact f.2.2.2.2.elim
      | _::_::_::_::_,f=>exact f.2.2.2.2.2.2.elim
     .cases h)
  | (rename_i x y z p q r s
     split at h
     .rename_i l
      cases h
      match qs,f with
      | [(D,a),(E,b),(F,c),(G,d),(H,e)],f =>
       simp only[Ox]at f;obtain⟨rfl,m,rfl,n,rfl,w,rfl,A,rfl,B,_⟩:=f;simp only[ER]at A B;obtain⟨R,rfl,g⟩:=A;obtain⟨R',rfl,k⟩:=B
       match R,R',g,k with
       | [p',q'],[r',s'],g,k =>
        simp only[fD]at g k;have C:fD φ [x,y,z,p,q,r,s] [a,b,c,p',q',r',s']:=by
         simp only[fD];exact⟨m,n,w,g.1,g.2.1,k.1,k.2.1,trivial⟩
        have o:=pw l C;refine⟨o _ sm,o _ sm,o _ sm,o _ sm,o _ sm,o _ sm,o _ sm,u _ ?_⟩
        simp only[ER];exact⟨_,rfl,C⟩
       | [],_,g,_=>simp[fD]at g
       | [_],_,g,_=>simp[fD]at g
       | _::_::_::_,_,g,_=>simp[fD]at g
       | [_,_],[],_,g=>simp[fD]at g
       | [_,_],[_],_,g=>simp[fD]at g
       | [_,_],_::_::_::_,_,g=>simp[fD]at g
      | [],f=>exact f.elim
      | [_],f=>exact f.2.2.elim
      | [_,_],f=>exact f.2.2.2.2.elim
      | [_,_,_],f=>exact f.2.2.2.2.2.2.elim
      | [_,_,_,_],f=>exact f.2.2.2.2.2.2.2.2.elim
      | _::_::_::_::_::_::_,f=>exact f.2.2.2.2.2.2.2.2.2.2.elim
     .cases h)
  | cases h
def ri:Nat->List (Nat×XV)->Bool
 | _,[]=>true
 | k,p::l=>ap p.1 k&&ri (k+1) l
theorem xC{φ:Ph}:∀{ps:List (Nat×XV)} {qs:List (Nat×AV)} {k:Nat},ri k ps=true->Ox φ ps qs->qs=eT k (qs.map (·.2))/\fD φ (ps.map (·.2)) (qs.map (·.2))/\qs.length=ps.length
 | [],[],k,_,_=>⟨rfl,by simp[fD],rfl⟩
 | p::l,q::r,k,h,b=>by
  simp only[ri,au]at h;simp only[Ox]at b;obtain⟨c,d,f⟩:=xC h.2 b.2.2;have e:=ak h.1;refine⟨?_,by simp only[cU,fD];exact⟨b.2.1,d⟩,by simp[f]⟩
  simp only[cU,eT,jH];refine⟨?_,c⟩;obtain⟨i,a⟩:=q;simp only at b ⊢;rw[<-b.1,e]
 | [],_::_,_,_,b=>b.elim
 | _::_,[],_,_,b=>b.elim
def mB(t n:Nat)(ps:List (Nat×XV))(nx:Nat)(l:EL):XR:=match dJ t with
 | some e=>match ri 0 ps&&ap ps.length n&&jB n 16&&(zE e).isSome&&nV (bZ e) (ps.map (·.2))with
  | true=>tU nx l ⟨e,bZ e,ps.map (·.2)⟩ (.sl (bZ e) nx 0 n)
  | false=>ab
 | ab=>ab
def zf{φ:Ph}{t n nx:Nat}{ps:List (Nat×XV)}{qs:List (Nat×AV)}{l:EL}{S:St}{r:XV×Nat×EL}{K:AV->St->Prop}(h:mB t n ps nx l=some r)(d:Ox φ ps qs)(k:MR φ l S)(m:XK φ r.1 r.2.2 K):dG t n qs S K:=by
 unfold mB at h;split at h
 .rename_i e o;split at h
  .rename_i f;simp only[au]at f;obtain⟨⟨⟨⟨q,g⟩,s⟩,i⟩,u⟩:=f;obtain⟨w,j,B⟩:=xC q d;have g:=ak g;have c:(gG e).isSome=true:=by
    cases c:zE e with
    | none=>rw[c]at i;cases i
    | some y =>
     obtain⟨a,v,z,_⟩:=EQ (t:=e) (es:=y.1) (x:=y.2) c;rw[z];rfl
   unfold dG;simp only[o];refine⟨w,om,cu s,c,fun p d=>pw u j p.2 (List.mem_map_of_mem d),fun b A=>?_⟩
   exact pV h k j.toG (by simp;omega) m A (.inr ⟨rfl,rfl⟩)
  .cases h
 .cases h
def Sn(t:Nat)(x i:XV):Option XV:=match x,i with
 | .agg [p,q],.int _ n=>if t=195/\(n=0∨n=1)then(if nY 2 p&&nY 2 q then some (if n=0 then p else q)else ab)else ab
 | .agg [p,q,r],.int _ (.ofNat n)=>(match ap t 238&&aN n 3&&nV 1 [p,q,r]with
  | true=>[p,q,r][n]?
  | false=>ab)
 | _,_=>ab
def OW{φ:Ph}{t:Nat}{x i v:XV}{a c:AV}{K:AV->Prop}(h:Sn t x i=some v)(e:ER φ x a)(f:ER φ i c)(j:∀z,ER φ v z->K z):Ee t a c K:=by
 unfold Sn at h;split at h
 .rename_i p q k n;simp only[ER]at e f;subst f;obtain⟨R,rfl,b⟩:=e;split at h
  .rename_i l;split at h
   .rename_i d;simp only[au]at d
    cases h
    match R,b with
    | [p',q'],b =>
     simp only[fD]at b;refine bF ⟨l.1,p',q',rfl,lD d.1 b.1,lD d.2 b.2.1,l.2,j _ ?_⟩;split
     .exact b.1
     .exact b.2.1
    | [],b=>simp[fD]at b
    | [_],b=>simp[fD]at b
    | _::_::_::_,b=>simp[fD]at b
   .cases h
  .cases h
 .rename_i p q r k n;simp only[ER]at e f;subst f;obtain⟨R,rfl,b⟩:=e;split at h
  .rename_i d;simp only[au,oI]at d;obtain⟨⟨g,o⟩,s⟩:=d;have g:=ak g;obtain⟨a,u,w⟩:=b.get h;have m:=b.length;refine bH ⟨bF ⟨g,m⟩,pw s b,⟨cA n,by rw[m];exact Sc.2 o⟩,?_⟩
   have:R.getD (Int.toNat (Int.ofNat n)) .any=a:=by
    rw[ig];show(R[n]?).getD .any=a;rw[u];rfl
   rw[this];exact j a w
  .cases h
 .cases h
def GP(φ:Ph):Prop:=φ 0=some 0
def GP.mono{φ ψ:Ph}(h:GP φ)(a:φ.le ψ):GP ψ:=a _ _ h
def nd(call:eE):Prop:=∀f args nx l r,call f args nx l=some r->∀φ as' S K,GP φ->fD φ args as'->MR φ l S->XK φ r.1 r.2.2 K ->
 ((11<=f/\f<270)/\f≠252/\f≠253)/\cP f as' S K
def nL(b:Builtin)(args:List XV)(ts:List Nat)(nx:Nat)(l:EL):XR:=match b,args,ts with
 | .len,[x],[t]=>(Sm t x).map fun v=>(v,nx,l)
 | .max,[.int k a,.int k' c],_=>if k=k' then some (.int k (if c > a then c else a),nx,l)else ab
 | .append,[s,x],[t,t']=>(match ap t' 3 with
  | true=>zg t s x nx l
  | false=>C2 t t' s x nx l)
 | .copy,[s,x],[t,_]=>(Mn t s x l).map fun p=>(p.1,nx,p.2)
 | _,_,_=>ab
def BU(call:eE)(o:Oper)(te:TE)(nx:Nat)(l:EL):XR:=match o.op with
 | .move x=>some (k8 te x,nx,l)
 | .assign x=>some (k8 te x,nx,l)
 | .pick c x y=>match k8 te c with
  | .bool t=>some (if t then k8 te x else k8 te y,nx,l)
  | _=>ab
 | .alloc t=>zh t nx l
 | .box t x=>Mr t (k8 te x) nx l
 | .build t ps=>(GZ t (ps.toList.map fun p=>(p.1,k8 te p.2))).map fun v=>(v,nx,l)
 | .buildSlice t n ps=>mB t n (ps.toList.map fun p=>(p.1,k8 te p.2)) nx l
 | .load t x=>(wZ t (k8 te x) l).map fun v=>(v,nx,l)
 | .store t x y=>(GS t (k8 te x) (k8 te y) l).map fun l'=>(.any,nx,l')
 | .nilCheck x=>match k8 te x with
  | .ptr es b i=>some (.ptr es b i,nx,l)
  | .pat es y=>some (.pat es y,nx,l)
  | _=>ab
 | .binOp op t x y _=>(Ss op t (k8 te x) (k8 te y)).map fun v=>(v,nx,l)
 | .unOp op _ x=>(xun op (k8 te x)).map fun v=>(v,nx,l)
 | .convert s d x=>(Mp s d (k8 te x)).map fun v=>(v,nx,l)
 | .makeFunc (.func f) fi cs=>match fi.toList,cs.toList with
  | [],L=>some (.fn f (L.map (k8 te)),nx,l)
  | x::L,[]=>some (.mfn f ((x::L).map (k8 te)),nx,l)
  | _,_=>ab
 | .makeSlice t x y=>EW t (k8 te x) (k8 te y) nx l
 | .slice t x lo hi mx=>(GT t (k8 te x) (lo.map (k8 te)) (hi.map (k8 te)) (mx.map (k8 te))).map fun v=>(v,nx,l)
 | .fieldAddr t x f=>(GY t (k8 te x) f).map fun v=>(v,nx,l)
 | .indexAddr t x i=>(GX t (k8 te x) (k8 te i)).map fun v=>(v,nx,l)
 | .index t x i=>(Sn t (k8 te x) (k8 te i)).map fun v=>(v,nx,l)
 | .extract x i=>match k8 te x with
  | .tup L=>(L[i]?).map fun v=>(v,nx,l)
  | _=>ab
 | .call c=>match c.callee with
  | .value f=>match k8 te f with
   | .fn g cs=>call g (c.args.toList.map (k8 te)++cs) nx l
   | .mfn g cs=>call g (cs++c.args.toList.map (k8 te)) nx l
   | _=>ab
  | .builtin b=>nL b (c.args.toList.map (k8 te)) c.argTypes.toList nx l
  | _=>ab
 | _=>ab
def TR.evP{φ:Ph}{te:TE}{O:Tm}(h:TR φ te O):∀ps:List (Nat×Operand),Ox φ (ps.map fun p=>(p.1,k8 te p.2)) (ps.map fun p=>(p.1,Go.Proofs.YtdobfmlmenaajaaGreatDoor.ev O p.2))
 | []=>trivial
 | p::ps=>by simp only[cU,Ox];exact⟨trivial,h.ev p.2,h.evP ps⟩
def TR.evO{φ:Ph}{te:TE}{O:Tm}(h:TR φ te O)(x:Option Operand):TW φ (x.map (k8 te)) (x.map (Go.Proofs.YtdobfmlmenaajaaGreatDoor.ev O)):=by
 cases x with
 | none=>trivial
 | some x=>exact h.ev x
def C1{call:eE}(U:nd call){o:Oper}{te:TE}{nx:Nat}{l:EL}{r:XV×Nat×EL}(h:BU call o te nx l=some r){φ:Ph}(V:GP φ){O:Tm}{S:St}(m:TR φ te O)(A:MR φ l S){K:AV->St->Prop}(B:XK φ r.1 r.2.2 K):AI o O S K:=by
 have pure_:∀(p:Option XV),p.map (fun v=>(v,nx,l))=some r->∃v,p=some v/\∀z,ER φ v z->K z S:=by
  intro p W;obtain⟨v,rfl,X⟩:=cV.1 W;subst X;exact⟨v,rfl,fun z Y=>B φ z S (Ph.le_refl _) Y A⟩
 unfold BU at h;unfold AI;split at h
 .rename_i x q;simp only[q];cases h;exact B _ _ _ (Ph.le_refl _) (m.ev x) A
 .rename_i x q;simp only[q];cases h;exact B _ _ _ (Ph.le_refl _) (m.ev x) A
 .rename_i c x y q;simp only[q];split at h
  .rename_i t I
   cases h
   have:=m.ev c;rw[I]at this;simp only[ER]at this;simp only[this];refine B _ _ _ (Ph.le_refl _) ?_ A
   cases t
   .exact m.ev y
   .exact m.ev x
  .cases h
 .rename_i t q;simp only[q];exact Ks h A B
 .rename_i t x q;simp only[q];exact OZ h (m.ev x) A B
 .rename_i t ps q;simp only[q];obtain⟨v,u,w⟩:=pure_ _ h;exact Kr u (m.evP ps.toList) w
 .rename_i t n ps q;simp only[q];exact zf h (m.evP ps.toList) A B
 .rename_i t x q;simp only[q];obtain⟨v,u,w⟩:=pure_ _ h;exact EZ u (m.ev x) A w
 .rename_i t x y q;simp only[q];obtain⟨l',u,w⟩:=cV.1 h;subst w;exact Ki u (m.ev x) (m.ev y) A fun S' Z=>B _ _ _ (Ph.le_refl _) (by simp[ER]) Z
 .rename_i x q;simp only[q];have j:=m.ev x;split at h
  .rename_i es b i D
   cases h
   rw[D]at j;simp only[ER]at j;obtain⟨b',J,e⟩:=j;simp only[e];exact B _ _ _ (Ph.le_refl _) (by simp only[ER];exact⟨b',J,rfl⟩) A
  .rename_i es y D
   cases h
   rw[D]at j;simp only[ER]at j;obtain⟨y',e,hy⟩:=j;simp only[e];exact B _ _ _ (Ph.le_refl _) (by simp only[ER];exact⟨y',rfl,hy⟩) A
  .cases h
 .rename_i op t x y _ q;simp only[q];obtain⟨v,u,w⟩:=pure_ _ h;exact O0 u (m.ev x) (m.ev y) w
 .rename_i op t x q;simp only[q];obtain⟨v,u,w⟩:=pure_ _ h;exact Sl u (m.ev x) w
 .rename_i s d x q;simp only[q];obtain⟨v,u,w⟩:=pure_ _ h;exact Mo u (m.ev x) w
 .rename_i f fi cs q;simp only[q];split at h
  .rename_i F
   cases h
   simp only[F,lN,tf];exact B _ _ _ (Ph.le_refl _) (by simp only[ER];exact⟨_,rfl,m.evL cs.toList⟩) A
  .rename_i x L F M
   cases h
   simp only[F,M,lN,cU,tf];exact⟨trivial,B _ _ _ (Ph.le_refl _) (by simp only[ER];exact⟨_,rfl,m.evL (x::L)⟩) A⟩
  .cases h
 .rename_i t x y q;simp only[q];exact Mh h (m.ev x) (m.ev y) A B
 .rename_i t x lo hi mx q;simp only[q];obtain⟨v,u,w⟩:=pure_ _ h;exact Kk u (m.ev x) (m.evO lo) (m.evO hi) (m.evO mx) w
 .rename_i t x f q;simp only[q];obtain⟨v,u,w⟩:=pure_ _ h;exact Kq u (m.ev x) w
 .rename_i t x i q;simp only[q];obtain⟨v,u,w⟩:=pure_ _ h;exact Kp u (m.ev x) (m.ev i) w
 .rename_i t x i q;simp only[q];obtain⟨v,u,w⟩:=pure_ _ h;exact OW u (m.ev x) (m.ev i) w
 .rename_i x i q;simp only[q];have j:=m.ev x;split at h
  .rename_i L D;obtain⟨v,u,w⟩:=pure_ _ h;rw[D]at j;simp only[ER]at j;obtain⟨R,e,H⟩:=j;obtain⟨a,h3,h4⟩:=H.get u;simp only[e,h3];exact w a h4
  .cases h
 .rename_i c q;simp only[q];unfold uI;split at h
  .rename_i f hf;simp only[hf];have j:=m.ev f;split at h
   .rename_i g cs G;rw[G]at j;simp only[ER]at j;obtain⟨R,e,H⟩:=j;simp only[e];exact U _ _ _ _ _ h φ _ S K V ((m.evL _).append H) A B
   .rename_i g cs G;rw[G]at j;simp only[ER]at j;obtain⟨R,e,H⟩:=j;simp only[e];exact U _ _ _ _ _ h φ _ S K V (H.append (m.evL _)) A B
   .cases h
  .rename_i b J;simp only[J];unfold nL at h;have hL:=m.evL c.args.toList;split at h
   .rename_i x t j E;rw[j]at hL;obtain⟨v,u,w⟩:=pure_ _ h
    cases C:c.args.toList with
    | nil=>rw[C]at j;simp at j
    | cons y r =>
     cases r with
     | cons _ _=>rw[C]at j;simp at j
     | nil =>
      rw[C]at j;simp only[cU,lN,jH,yN]at j;rw[<-j]at u;simp only[E];exact OV u (m.ev y) w
   .rename_i k a k' d j;split at h
    .rename_i N;subst N
     cases h
     cases C:c.args.toList with
     | nil=>rw[C]at j;simp at j
     | cons y r =>
      cases r with
      | nil=>rw[C]at j;simp at j
      | cons y' r =>
       cases r with
       | cons _ _=>rw[C]at j;simp at j
       | nil =>
        rw[C]at j;simp only[cU,lN,jH,yN]at j;have P:=m.ev y;have Q:=m.ev y';rw[j.1]at P;rw[j.2]at Q;simp only[ER]at P Q;simp only[P,Q,Ob];exact⟨trivial,B _ _ _ (Ph.le_refl _) (by simp[ER]) A⟩
    .cases h
   .rename_i s x t t' j E
    cases C:c.args.toList with
    | nil=>rw[C]at j;simp at j
    | cons y r =>
     cases r with
     | nil=>rw[C]at j;simp at j
     | cons y' r =>
      cases r with
      | cons _ _=>rw[C]at j;simp at j
      | nil =>
       rw[C]at j;simp only[cU,lN,jH,yN]at j;rw[<-j.1,<-j.2]at h;simp only[E];split at h
       .rename_i T;rw[ai (ak T)];exact E6 h (m.ev y) (m.ev y') A B
       .rename_i T;rw[af (fun e=>by subst e;simp at T)]
        exact G1 h (m.ev y) (m.ev y') A B
   .rename_i s x t t' j E;obtain⟨p,u,w⟩:=cV.1 h;subst w
    cases C:c.args.toList with
    | nil=>rw[C]at j;simp at j
    | cons y r =>
     cases r with
     | nil=>rw[C]at j;simp at j
     | cons y' r =>
      cases r with
      | cons _ _=>rw[C]at j;simp at j
      | nil =>
       rw[C]at j;simp only[cU,lN,jH,yN]at j;rw[<-j.1,<-j.2]at u;simp only[E];exact Mm u (m.ev y) (m.ev y') A B
   .cases h
  .cases h
 .cases h
end

noncomputable section
def l6:Operand->List Nat
 | .tmp t=>[t]
 | _=>[]
def rh(l:List Operand):List Nat:=l.flatMap l6
def Fw(x:Option Operand):List Nat:=rh x.toList
def Dr(o:Op):List Nat:=match o with
 | .move x=>l6 x
 | .assign x=>l6 x
 | .pick c x y=>l6 c++(l6 x++l6 y)
 | .box _ x=>l6 x
 | .build _ ps=>rh (ps.toList.map (·.2))
 | .buildSlice _ _ ps=>rh (ps.toList.map (·.2))
 | .load _ x=>l6 x
 | .store _ x y=>l6 x++l6 y
 | .nilCheck x=>l6 x
 | .binOp _ _ x y _=>l6 x++l6 y
 | .unOp _ _ x=>l6 x
 | .convert _ _ x=>l6 x
 | .makeFunc _ fi cs=>rh fi.toList++rh cs.toList
 | .makeSlice _ x y=>l6 x++l6 y
 | .slice _ x lo hi mx=>l6 x++(Fw lo++(Fw hi++Fw mx))
 | .fieldAddr _ x _=>l6 x
 | .indexAddr _ x i=>l6 x++l6 i
 | .index _ x i=>l6 x++l6 i
 | .extract x _=>l6 x
 | .call c=>(match c.callee with
  | .value f=>l6 f
  | _=>[])++rh c.args.toList
 | _=>[]
def GG(te te':TE)(l:List Nat):Prop:=∀t∈l,jW te t=jW te' t
def GG.left(h:GG te te' (a++b)):GG te te' a:=fun t c=>h t (List.mem_append_left _ c)
def GG.right(h:GG te te' (a++b)):GG te te' b:=fun t c=>h t (List.mem_append_right _ c)
def GG.ev{x:Operand}(h:GG te te' (l6 x)):k8 te x=k8 te' x:=by
 cases x with
 | tmp t=>exact h t (by simp[l6])
 | const v=>rfl
 | global g=>rfl
 | func f=>rfl
def GG.evL:∀{l:List Operand},GG te te' (rh l)->l.map (k8 te)=l.map (k8 te')
 | [],_=>rfl
 | x::l,h=>by
  unfold rh at h;rw[dD]at h;rw[cU,cU,h.left.ev,evL (l:=l) h.right]
def GG.evP:∀{l:List (Nat×Operand)},GG te te' (rh (l.map (·.2)))->(l.map fun p=>(p.1,k8 te p.2))=l.map fun p=>(p.1,k8 te' p.2)
 | [],_=>rfl
 | x::l,h=>by
  unfold rh at h;rw[cU,dD]at h;rw[cU,cU,h.left.ev,evP (l:=l) h.right]
def GG.evO(h:GG te te' (Fw x)):x.map (k8 te)=x.map (k8 te'):=by
 cases x with
 | none=>rfl
 | some x =>
  unfold Fw rh at h;simp only[UJ,dD,GO,wN]at h;rw[du,du,h.ev]
def Kl{call:eE}(h:GG te te' (Dr o.op)):BU call o te nx l=BU call o te' nx l:=by
 unfold BU
 cases e:o.op<;>rw[e]at h<;>simp only[Dr]at h<;>try rfl
 case move x=>dsimp only;rw[h.ev]
 case assign x=>dsimp only;rw[h.ev]
 case pick c x y=>dsimp only;rw[h.left.ev,h.right.left.ev,h.right.right.ev]
 case box t x=>dsimp only;rw[h.ev]
 case build t ps=>dsimp only;rw[h.evP]
 case buildSlice t n ps=>dsimp only;rw[h.evP]
 case load t x=>dsimp only;rw[h.ev]
 case store t x y=>dsimp only;rw[h.left.ev,h.right.ev]
 case nilCheck x=>dsimp only;rw[h.ev]
 case binOp op t x y _=>dsimp only;rw[h.left.ev,h.right.ev]
 case unOp op t x=>dsimp only;rw[h.ev]
 case convert s d x=>dsimp only;rw[h.ev]
 case makeFunc f fi cs =>
  cases f<;>try rfl
  have a:=h.left.evL;have b:=h.right.evL;dsimp only;generalize fi.toList=F at a ⊢;generalize cs.toList=C at b ⊢
  cases F with
  | nil=>dsimp only;rw[b]
  | cons x F=>cases C with
   | nil=>dsimp only;rw[a]
   | cons _ _=>rfl
 case makeSlice t x y=>dsimp only;rw[h.left.ev,h.right.ev]
 case slice t x lo j mx=>dsimp only;rw[h.left.ev,h.right.left.evO,h.right.right.left.evO,h.right.right.right.evO]
 case fieldAddr t x f=>dsimp only;rw[h.ev]
 case indexAddr t x i=>dsimp only;rw[h.left.ev,h.right.ev]
 case index t x i=>dsimp only;rw[h.left.ev,h.right.ev]
 case extract x i=>dsimp only;rw[h.ev]
 case call c =>
  dsimp only;rw[h.right.evL]
  cases g:c.callee with
  | value f =>
   have a:=h.left;rw[g]at a;simp only[a.ev]
  | _=>rfl
def pureM:Nat:=2^81 ||| 2^82 ||| 2^83 ||| 2^84 ||| 2^133 ||| 2^157 ||| 2^159 ||| 2^191 ||| 2^192 ||| 2^193 ||| 2^215 ||| 2^216 ||| 2^247 ||| 2^249 ||| 2^251 ||| 2^268
def Cl(f:Nat):Bool:=Nat.testBit pureM f
def fZ(o:Op):Nat:=match o with
 | .move _=>0
 | .assign _=>0
 | .pick _ _ _=>0
 | .build _ _=>0
 | .nilCheck _=>0
 | .binOp _ _ _ _ _=>0
 | .unOp _ _ _=>0
 | .convert _ _ _=>0
 | .makeFunc _ _ _=>0
 | .slice _ _ _ _ _=>0
 | .fieldAddr _ _ _=>0
 | .indexAddr _ _ _=>0
 | .index _ _ _=>0
 | .extract _ _=>0
 | .load _ _=>1
 | .alloc _=>2
 | .box _ _=>2
 | .buildSlice _ _ _=>2
 | .makeSlice _ _ _=>2
 | .call c=>(match c.callee with
  | .builtin .len=>0
  | .builtin .max=>0
  | .value (.func f)=>if Cl f then 0 else 4
  | .value (.tmp _)=>3
  | _=>4)
 | _=>4
def uR(call:eE):Prop:=∀f args nx l r,Cl f=true->call f args nx l=some r->r.2=(nx,l)/\∀nx' l',call f args nx' l'=some (r.1,nx',l')
def mo(p:Option XV)(h:p.map (fun v=>(v,nx,l))=some r):r.2=(nx,l)/\∀(nx':Nat) (l':EL),p.map (fun v=>(v,nx',l'))=some (r.1,nx',l'):=by
 obtain⟨v,rfl,rfl⟩:=cV.1 h;exact⟨rfl,fun _ _=>rfl⟩
def nN(h:some (v,nx,l)=some r):r.2=(nx,l)/\∀(nx':Nat) (l':EL),some (v,nx',l')=some (r.1,nx',l'):=by
 cases h
 exact⟨rfl,fun _ _=>rfl⟩
def Mi(h:nL .len A B nx l=some r):r.2=(nx,l)/\∀nx' l',nL .len A B nx' l'=some (r.1,nx',l'):=by
 rcases A with _|⟨x,_|⟨y,A⟩⟩
 .cases h
 .rcases B with _|⟨t,_|⟨u,B⟩⟩
  .cases h
  .exact mo _ h
  .cases h
 .cases h
def Mg(h:nL .max A B nx l=some r):r.2=(nx,l)/\∀nx' l',nL .max A B nx' l'=some (r.1,nx',l'):=by
 rcases A with _|⟨x,_|⟨y,_|⟨z,A⟩⟩⟩
 .cases h
 .cases x<;>cases h
 .cases x<;>try cases h
  cases y<;>try cases h
  rename_i k a k' c;unfold nL at h ⊢;dsimp only at h ⊢;by_cases e:k=k'
  .rw[ai e]at h;refine⟨(nN h).1,fun nx' l'=>?_⟩;rw[ai e];exact(nN h).2 nx' l'
  .rw[af e]at h;cases h
 .cases x<;>try cases h
  cases y<;>cases h
def ET{call:eE}(k:uR call){o:Oper}{te:TE}{nx:Nat}{l:EL}{r:XV×Nat×EL}(a:fZ o.op=0)(h:BU call o te nx l=some r):r.2=(nx,l)/\∀nx' l',BU call o te nx' l'=some (r.1,nx',l'):=by
 unfold BU at h ⊢
 cases m:o.op<;>rw[m]at h a<;>(try (simp[fZ]at a;done))
 case move x=>exact nN h
 case assign x=>exact nN h
 case pick c x y =>
  dsimp only at h ⊢
  cases e:k8 te c<;>rw[e]at h<;>try cases h
  exact⟨rfl,fun _ _=>rfl⟩
 case build t ps=>exact mo _ h
 case nilCheck x =>
  dsimp only at h ⊢
  cases e:k8 te x<;>rw[e]at h<;>first|exact nN h|cases h
 case binOp op t x y _=>exact mo _ h
 case unOp op t x=>exact mo _ h
 case convert s d x=>exact mo _ h
 case makeFunc f fi cs =>
  cases f<;>dsimp only at h ⊢<;>try cases h
  generalize fi.toList=F at h ⊢;generalize cs.toList=C at h ⊢
  cases F with
  | nil=>exact nN h
  | cons x F=>cases C with
   | nil=>exact nN h
   | cons _ _=>cases h
 case slice t x lo n mx=>exact mo _ h
 case fieldAddr t x f=>exact mo _ h
 case indexAddr t x i=>exact mo _ h
 case index t x i=>exact mo _ h
 case extract x i =>
  dsimp only at h ⊢
  cases e:k8 te x<;>rw[e]at h<;>first|exact mo _ h|cases h
 case call c =>
  dsimp only at h ⊢;simp only[fZ]at a
  cases e:c.callee with
  | value f =>
   rw[e]at h a;dsimp only at h ⊢
   cases f with
   | func g =>
    dsimp only[k8]at h ⊢;by_cases j:Cl g=true
    .exact k _ _ _ _ _ j h
    .simp only[j]at a;cases a
   | tmp t=>cases a
   | const v=>cases a
   | global g=>cases a
  | builtin b =>
   rw[e]at h a;dsimp only at h ⊢
   cases b<;>first|(cases a;done)|exact Mi h|exact Mg h
  | _=>rw[e]at a;cases a
def GU{x:XV}(h:wZ t x l=some v)(a:∀i X,eL l i=some (some X)->eL l' i=some (some X)):wZ t x l'=some v:=by
 unfold wZ at h ⊢;split at h
 .exact h
 .rename_i es i c;split at h
  .rename_i X b;rw[a i X b];exact h
  .cases h
 .cases h
def sV(c:Go.Call):fZ (.call c)=0∨fZ (.call c)=3∨fZ (.call c)=4:=by
 simp only[fZ]
 cases d:c.callee with
 | value f =>
  cases f with
  | func g=>dsimp only;by_cases a:Cl g=true<;>simp[a]
  | tmp t=>simp
  | const v=>simp
  | global g=>simp
 | builtin b=>cases b<;>simp
 | _=>simp
def EU{call:eE}(a:fZ o.op=1)(h:BU call o te nx l=some r):r.2=(nx,l)/\∀nx' l',(∀i X,eL l i=some (some X)->eL l' i=some (some X))->BU call o te nx' l'=some (r.1,nx',l'):=by
 unfold BU at h ⊢
 cases b:o.op<;>rw[b]at h a<;>(try (simp[fZ]at a;done))
 case load t x =>
  dsimp only at h ⊢;obtain⟨v,d,rfl⟩:=cV.1 h;exact⟨rfl,fun nx' l' e=>by rw[GU d e];rfl⟩
 case call c=>have:=sV c;omega
def Na(h:tU nx l X v=some r):eL l nx=ab/\r=(v,nx+1,sC l nx (some X))/\∀l',eL l' nx=ab->tU nx l' X v=some (v,nx+1,sC l' nx (some X)):=by
 unfold tU at h;split at h
 .rename_i b
  cases h
  exact⟨b,rfl,fun l' a=>by unfold tU;rw[a]⟩
 .cases h
def Mf{call:eE}(q:fZ o.op=2)(h:BU call o te nx l=some r):∃X,eL l nx=ab/\r=(r.1,nx+1,sC l nx (some X))/\∀l',eL l' nx=ab->BU call o te nx l'=some (r.1,nx+1,sC l' nx (some X)):=by
 have key:∀(f:EL->XR),f l=some r->(∃X v,∀l',f l'=tU nx l' X v)->∃X,eL l nx=ab/\r=(r.1,nx+1,sC l nx (some X))/\∀l',eL l' nx=ab->f l'=some (r.1,nx+1,sC l' nx (some X)):=by
  rintro f s ⟨X,v,u⟩;rw[u]at s;obtain⟨d,rfl,i⟩:=Na s;exact⟨X,d,rfl,fun l' j=>by rw[u];exact i l' j⟩
 unfold BU at h ⊢
 cases A:o.op<;>rw[A]at h q<;>(try (simp[fZ]at q;done))
 case alloc t =>
  refine key (fun l=>zh t nx l) h ?_;dsimp only at h;unfold zh at h ⊢
  cases d:zE t with
  | some p=>exact⟨_,_,fun _=>rfl⟩
  | none =>
   rw[d]at h
   cases g:zA t with
   | some p=>exact⟨_,_,fun _=>rfl⟩
   | none=>rw[g]at h;cases h
 case box t x =>
  refine key (fun l=>Mr t (k8 te x) nx l) h ?_;dsimp only at h;unfold Mr at h ⊢
  cases d:eY t with
  | none=>rw[d]at h;cases h
  | some p =>
   obtain⟨es,k⟩:=p;rw[d]at h;dsimp only at h ⊢
   cases g:ap k 1 with
   | true =>
    rw[g]at h;dsimp only at h ⊢
    cases i:nY es (k8 te x)with
    | true=>exact⟨_,_,fun _=>rfl⟩
    | false=>rw[i]at h;cases h
   | false =>
    rw[g]at h;dsimp only at h ⊢
    cases i:k8 te x<;>rw[i]at h<;>dsimp only at h<;>try cases h
    rename_i L
    cases w:(ap L.length k&&nV es L)with
    | true=>exact⟨_,_,fun _=>by dsimp only;rw[w]⟩
    | false=>rw[w]at h;cases h
 case buildSlice t n ps =>
  refine key (fun l=>mB t n (ps.toList.map fun p=>(p.1,k8 te p.2)) nx l) h ?_;dsimp only at h;generalize (ps.toList.map fun p=>(p.1,k8 te p.2))=qs at *;unfold mB at h ⊢
  cases d:dJ t with
  | none=>rw[d]at h;cases h
  | some e =>
   rw[d]at h;dsimp only at h ⊢
   cases g:(ri 0 qs&&ap qs.length n&&jB n 16&&(zE e).isSome&&nV (bZ e) (qs.map (·.2)))with
   | true=>exact⟨_,_,fun _=>rfl⟩
   | false=>rw[g]at h;cases h
 case makeSlice t x y =>
  refine key (fun l=>EW t (k8 te x) (k8 te y) nx l) h ?_;dsimp only at h;generalize k8 te x=a at *;generalize k8 te y=b at *;unfold EW at h ⊢;split at h
  .rename_i e n m B;split at h
   .rename_i es z C;split at h
    .rename_i g;exact⟨⟨e,es,bU n z⟩,.sl es nx 0 n,fun l'=>by simp only[]⟩
    .cases h
   .cases h
  .cases h
 case call c=>have:=sV c;omega
end

noncomputable section
mutual
def o9:XV->Bool
 | .sl ..=>false
 | .ptr ..=>false
 | .lst _ l=>l5 l
 | .pat _ x=>o9 x
 | .tup l=>l5 l
 | .agg l=>l5 l
 | .fn _ l=>l5 l
 | .int ..=>true
 | .bool _=>true
 | .big _=>true
 | .nil=>true
 | .any=>true
 | .nfn=>true
 | .mfn _ l=>l5 l
def l5:List XV->Bool
 | []=>true
 | x::l=>o9 x&&l5 l
end
mutual
theorem tD{φ ψ:Ph}:∀(x:XV) (a:AV),o9 x=true->ER φ x a->ER ψ x a
 | .int ..,_,_,e=>by simpa [ER]using e
 | .bool _,_,_,e=>by simpa [ER]using e
 | .big _,_,_,e=>by simpa [ER]using e
 | .nil,_,_,e=>by simpa [ER]using e
 | .sl ..,_,h,_=>by simp[o9]at h
 | .ptr ..,_,h,_=>by simp[o9]at h
 | .lst _ l,_,h,e=>by
  simp only[ER,o9]at e h ⊢;obtain⟨g,b,c⟩:=e;exact⟨g,b,B5 l g 0 h c⟩
 | .pat _ x,_,h,e=>by
  simp only[ER,o9]at e h ⊢;obtain⟨y,b,c⟩:=e;exact⟨y,b,tD x y h c⟩
 | .tup l,_,h,e=>by
  simp only[ER,o9]at e h ⊢;obtain⟨r,b,c⟩:=e;exact⟨r,b,nA l r h c⟩
 | .agg l,_,h,e=>by
  simp only[ER,o9]at e h ⊢;obtain⟨r,b,c⟩:=e;exact⟨r,b,nA l r h c⟩
 | .fn _ l,_,h,e=>by
  simp only[ER,o9]at e h ⊢;obtain⟨r,b,c⟩:=e;exact⟨r,b,nA l r h c⟩
 | .any,_,_,_=>by simp[ER]
 | .nfn,_,_,e=>by simpa [ER]using e
 | .mfn _ l,_,h,e=>by
  simp only[o9]at h;simp only[ER]at e ⊢;obtain⟨r,b,c⟩:=e;exact⟨r,b,nA l r h c⟩
theorem nA{φ ψ:Ph}:∀(l:List XV) (r:List AV),l5 l=true->fD φ l r->fD ψ l r
 | [],[],_,_=>by simp[fD]
 | x::l,a::r,h,e=>by
  simp only[fD,l5,au]at e h ⊢;exact⟨tD x a h.1 e.1,nA l r h.2 e.2⟩
 | [],_::_,_,e=>by simp[fD]at e
 | _::_,[],_,e=>by simp[fD]at e
theorem B5{φ ψ:Ph}:∀(l:List XV) (g:Nat->AV) (k:Nat),l5 l=true->lM φ l g k->lM ψ l g k
 | [],_,_,_,_=>by simp[lM]
 | x::l,g,k,h,e=>by
  simp only[lM,l5,au]at e h ⊢;exact⟨tD x _ h.1 e.1,B5 l g (k+1) h.2 e.2⟩
end
def Ph.on(φ ψ:Ph):Ph:=fun i=>match φ i with
 | some _=>ψ i
 | ab=>ab
def Ph.on_le(h:φ.le ψ):φ.le (φ.on ψ):=fun i b e=>by
 unfold Ph.on;rw[e];exact h i b e
mutual
theorem Ow{φ ψ:Ph}:∀(x:XV) (m a:AV),ER φ x m->ER ψ x a->ER (φ.on ψ) x a
 | .int ..,_,_,_,e=>by simpa [ER]using e
 | .bool _,_,_,_,e=>by simpa [ER]using e
 | .big _,_,_,_,e=>by simpa [ER]using e
 | .nil,_,_,_,e=>by simpa [ER]using e
 | .sl ..,_,_,h,e=>by
  simp only[ER]at e h ⊢;obtain⟨n,c,_⟩:=h;obtain⟨b,j,k⟩:=e;exact⟨b,by unfold Ph.on;rw[c];exact j,k⟩
 | .ptr ..,_,_,h,e=>by
  simp only[ER]at e h ⊢;obtain⟨n,c,_⟩:=h;obtain⟨b,j,k⟩:=e;exact⟨b,by unfold Ph.on;rw[c];exact j,k⟩
 | .lst _ l,_,_,h,e=>by
  simp only[ER]at e h ⊢;obtain⟨o,_,f⟩:=h;obtain⟨g,c,d⟩:=e;exact⟨g,c,I3 l o g 0 f d⟩
 | .pat _ x,_,_,h,e=>by
  simp only[ER]at e h ⊢;obtain⟨p,_,f⟩:=h;obtain⟨y,c,d⟩:=e;exact⟨y,c,Ow x p y f d⟩
 | .tup l,_,_,h,e=>by
  simp only[ER]at e h ⊢;obtain⟨i,_,f⟩:=h;obtain⟨r,c,d⟩:=e;exact⟨r,c,A9 l i r f d⟩
 | .agg l,_,_,h,e=>by
  simp only[ER]at e h ⊢;obtain⟨i,_,f⟩:=h;obtain⟨r,c,d⟩:=e;exact⟨r,c,A9 l i r f d⟩
 | .fn _ l,_,_,h,e=>by
  simp only[ER]at e h ⊢;obtain⟨i,_,f⟩:=h;obtain⟨r,c,d⟩:=e;exact⟨r,c,A9 l i r f d⟩
 | .any,_,_,_,_=>by simp[ER]
 | .nfn,_,_,_,e=>by simpa [ER]using e
 | .mfn _ l,_,_,h,e=>by
  simp only[ER]at h e ⊢;obtain⟨i,c,d⟩:=h;obtain⟨r,j,k⟩:=e;exact⟨r,j,A9 l i r d k⟩
theorem A9{φ ψ:Ph}:∀(l:List XV) (b r:List AV),fD φ l b->fD ψ l r->fD (φ.on ψ) l r
 | [],_,[],_,_=>by simp[fD]
 | x::l,c::b,a::r,h,e=>by
  simp only[fD]at e h ⊢;exact⟨Ow x c a h.1 e.1,A9 l b r h.2 e.2⟩
 | _::_,[],_,h,_=>by simp[fD]at h
 | [],_,_::_,_,e=>by simp[fD]at e
 | _::_,_,[],_,e=>by simp[fD]at e
theorem I3{φ ψ:Ph}:∀(l:List XV) (a g:Nat->AV) (k:Nat),lM φ l a k->lM ψ l g k->lM (φ.on ψ) l g k
 | [],_,_,_,_,_=>by simp[lM]
 | x::l,a,g,k,h,e=>by
  simp only[lM]at e h ⊢;exact⟨Ow x _ _ h.1 e.1,I3 l a g (k+1) h.2 e.2⟩
end
def MR.back{S S':St}(h:MR φ l S)(d:φ.le ψ)(h':MR ψ l' S')(f:∀i X,eL l i=some (some X)->eL l' i=some (some X)):φ.le (φ.on ψ)/\MR (φ.on ψ) l S':=by
 have sub:∀i b,φ.on ψ i=some b->ψ i=some b:=fun i b e=>by
  unfold Ph.on at e
  cases m:φ i with
  | none=>rw[m]at e;cases e
  | some c=>rw[m]at e;exact e
 refine⟨Ph.on_le d,fun i a=>?_,fun i X a=>?_,fun i j X Y b a n ei ej=>?_⟩
 .unfold Ph.on;rw[h.dom i a]
 .obtain⟨t,u,o,_,p⟩:=h.live i X a;have k:eL l' i=some (some X):=f _ _ a;obtain⟨b,g,q,r,s⟩:=h'.live i X k;exact⟨b,g,by unfold Ph.on;rw[o];exact q,r,I3 _ _ _ _ p s⟩
 .exact h'.inj i j X Y b (f _ _ a) (f _ _ n) (sub i b ei) (sub j b ej)
def OT{call:eE}(d:nd call){o:Oper}{te:TE}{nx:Nat}{l:EL}{v:XV}{nx':Nat}{l':EL}(h:BU call o te nx l=some (v,nx',l'))(e:o9 v=true)(f:∀i X,eL l i=some (some X)->eL l' i=some (some X)){φ:Ph}(g:GP φ){O:Tm}{S:St}(j:TR φ te O)(c:MR φ l S){K:AV->St->Prop}(k:XK φ v l K):AI o O S K:=by
 refine C1 d h g j c fun ψ z S' a m b=>?_;obtain⟨n,p⟩:=c.back a b f;exact k _ z S' n (tD v z e m) p
end

noncomputable section
mutual
def lV:XV->XV->Bool
 | .int k n,.int k' n'=>decide (k=k')&&decide (n=n')
 | .bool b,.bool c=>decide (b=c)
 | .big z,.big z'=>decide (z=z')
 | .nil,.nil=>true
 | .any,.any=>true
 | .nfn,.nfn=>true
 | .mfn a l,.mfn a' l'=>ap a a'&&n9 l l'
 | .sl a b c d,.sl a' b' c' d'=>ap a a'&&ap b b'&&ap c c'&&ap d d'
 | .ptr a b c,.ptr a' b' c'=>ap a a'&&ap b b'&&ap c c'
 | .lst a l,.lst a' l'=>ap a a'&&n9 l l'
 | .pat a x,.pat a' x'=>ap a a'&&lV x x'
 | .tup l,.tup l'=>n9 l l'
 | .agg l,.agg l'=>n9 l l'
 | .fn a l,.fn a' l'=>ap a a'&&n9 l l'
 | _,_=>false
def n9:List XV->List XV->Bool
 | [],[]=>true
 | x::l,y::r=>lV x y&&n9 l r
 | _,_=>false
end
mutual
theorem AD:∀(x y:XV),lV x y=true->x=y
 | .int ..,y,h=>by
  cases y<;>simp only[lV,au,gE,bJ]at h
  rw[h.1,h.2]
 | .bool _,y,h=>by
  cases y<;>simp only[lV,gE,bJ]at h
  rw[h]
 | .big _,y,h=>by
  cases y<;>simp only[lV,gE,bJ]at h
  rw[h]
 | .nil,y,h=>by cases y<;>simp only[lV,bJ]at h;rfl
 | .any,y,h=>by cases y<;>simp only[lV,bJ]at h;rfl
 | .nfn,y,h=>by cases y<;>simp only[lV,bJ]at h;rfl
 | .sl ..,y,h=>by
  cases y<;>simp only[lV,au,bJ]at h
  rw[ak h.1.1.1,ak h.1.1.2,ak h.1.2,ak h.2]
 | .ptr ..,y,h=>by
  cases y<;>simp only[lV,au,bJ]at h
  rw[ak h.1.1,ak h.1.2,ak h.2]
 | .lst _ l,y,h=>by
  cases y<;>simp only[lV,au,bJ]at h
  rw[ak h.1,mb l _ h.2]
 | .pat _ x,y,h=>by
  cases y<;>simp only[lV,au,bJ]at h
  rw[ak h.1,AD x _ h.2]
 | .tup l,y,h=>by
  cases y<;>simp only[lV,bJ]at h
  rw[mb l _ h]
 | .agg l,y,h=>by
  cases y<;>simp only[lV,bJ]at h
  rw[mb l _ h]
 | .mfn _ l,y,h=>by
  cases y<;>simp only[lV,au,bJ]at h
  rw[ak h.1,mb l _ h.2]
 | .fn _ l,y,h=>by
  cases y<;>simp only[lV,au,bJ]at h
  rw[ak h.1,mb l _ h.2]
theorem mb:∀(l r:List XV),n9 l r=true->l=r
 | [],[],_=>rfl
 | x::l,y::r,h=>by
  simp only[n9,au]at h;rw[AD x y h.1,mb l r h.2]
 | [],_::_,h=>by simp[n9]at h
 | _::_,[],h=>by simp[n9]at h
end
def KA:Option (Option EB)->Option (Option EB)->Bool
 | some (some X),some (some Y)=>ap X.ty Y.ty&&ap X.es Y.es&&n9 X.l Y.l
 | some (some _),_=>false
 | _,_=>true
def Pb(s:EL):EL->Bool:=EL.rec (motive:=fun _=>EL->Bool) (fun _=>true) (fun _=>true) (fun x _ _ a b s'=>match s' with
 | .n y l r=>KA x y&&(a l&&b r)
 | _=>false) s
def Pa{x:Option (Option EB)}(h:KA x y=true){X:EB}(d:x=some (some X)):y=some (some X):=by
 subst d
 match y,h with
 | some (some Y),h =>
  simp only[KA,au]at h;obtain⟨ty,es,l⟩:=X;obtain⟨ty',es',l'⟩:=Y;obtain⟨⟨a,b⟩,c⟩:=h;dsimp only at a b c;rw[ak a,ak b,mb _ _ c]
 | some ab,h=>simp[KA]at h
 | ab,h=>simp[KA]at h
theorem Dh:∀(s s':EL),Pb s s'=true->∀i X,eL s i=some (some X)->eL s' i=some (some X)
 | .e,_,_,i,X,h=>by rw[z6]at h;cases h
 | .d,_,_,i,X,h=>by rw[Ia]at h;cases h
 | .n x l r,.n y l' r',a,i,X,h=>by
  change (KA x y&&(Pb l l'&&Pb r r'))=true at a;simp only[au]at a;rw[jY]at h ⊢;split
  .rename_i b;rw[ai b]at h;exact Pa a.1 h
  .rename_i b;rw[af b]at h;split
   .rename_i c;rw[ai c]at h;exact Dh l l' a.2.1 _ X h
   .rename_i c;rw[af c]at h;exact Dh r r' a.2.2 _ X h
 | .n _ _ _,.e,a,_,_,_=>by cases a
 | .n _ _ _,.d,a,_,_,_=>by cases a
def xk(call:eE)(o:Oper)(te:TE)(nx:Nat)(l:EL):XR:=match ap (fZ o.op) 3 with
 | true=>match BU call o te nx l with
  | some (v,_,l')=>match o9 v&&Pb l l' with
   | true=>some (v,nx,l)
   | false=>ab
  | ab=>ab
 | false=>BU call o te nx l
def Rn{call:eE}(b:nd call){o:Oper}{te:TE}{nx:Nat}{l:EL}{r:XV×Nat×EL}(h:xk call o te nx l=some r){φ:Ph}(c:GP φ){O:Tm}{S:St}(d:TR φ te O)(e:MR φ l S){K:AV->St->Prop}(f:XK φ r.1 r.2.2 K):AI o O S K:=by
 unfold xk at h;split at h
 .split at h
  .rename_i v nx' l' g;split at h
   .rename_i a
    cases h
    simp only[au]at a;exact OT b g a.1 (Dh _ _ a.2) c d e f
   .cases h
  .cases h
 .exact C1 b h c d e f
def E3{call:eE}(h:GG te te' (Dr o.op)):xk call o te nx l=xk call o te' nx l:=by
 unfold xk;rw[Kl h]
def wo(ops:Array Oper)(te:TE)(j:Nat):XV:=match (ops[j]?).bind (·.dst)with
 | some d=>jW te d
 | ab=>.any
def xg(call:eE)(ops:Array Oper)(o:Oper)(te:TE)(nx:Nat)(l:EL):XR:=match o.guard with
 | ab=>xk call o te nx l
 | some (j,want)=>match wo ops te j with
  | .bool b=>if b=want then xk call o te nx l else some (.any,nx,l)
  | _=>ab
def rc(ops:Array Oper)(o:Oper):List Nat:=(match o.guard with
 | ab=>[]
 | some (j,_)=>(match (ops[j]?).bind (·.dst)with
  | some d=>[d]
  | ab=>[]))++Dr o.op
def xg_ok{call:eE}(n:nd call){ops:Array Oper}{o:Oper}{te:TE}{nx:Nat}{l:EL}{r:XV×Nat×EL}(h:xg call ops o te nx l=some r){φ:Ph}(q:GP φ){O:Tm}{S:St}(a:TR φ te O)(c:MR φ l S){K:Tm->St->Prop}
  (f:∀ψ z S',φ.le ψ->ER ψ r.1 z->MR ψ r.2.2 S'->K (O.put o.dst z) S'):Ef ops o O S K:=by
 unfold xg at h;unfold Ef
 cases s:o.guard with
 | none =>
  rw[s]at h;exact Rn n h q a c fun ψ z S' g i k=>f ψ z S' g i k
 | some p =>
  obtain⟨j,want⟩:=p;rw[s]at h;dsimp only at h ⊢;have m:ER φ (wo ops te j) (EE ops O j):=by
   unfold wo EE
   cases (ops[j]?).bind (·.dst)with
   | none=>simp[ER]
   | some d=>exact a d
  cases t:wo ops te j<;>rw[t]at h<;>try cases h
  rename_i b;rw[t]at m;simp only[ER]at m;rw[m];dsimp only at h ⊢;refine⟨fun e=>?_,fun e=>?_⟩
  .rw[ai e]at h;exact Rn n h q a c fun ψ z S' g i k=>f ψ z S' g i k
  .rw[af (by rw[e];cases want<;>simp)]at h
   cases h
   exact f φ .any S (Ph.le_refl _) (by simp[ER]) c
def Ml{call:eE}(h:GG te te' (rc ops o)):xg call ops o te nx l=xg call ops o te' nx l:=by
 unfold xg;unfold rc at h
 cases b:o.guard with
 | none=>exact E3 h.right
 | some p =>
  obtain⟨j,want⟩:=p;rw[b]at h;dsimp only;have e:wo ops te j=wo ops te' j:=by
   unfold wo;have a:=h.left;dsimp only at a
   cases c:(ops[j]?).bind (·.dst)with
   | none=>rfl
   | some d=>rw[c]at a;exact a d (UM.2 rfl)
  rw[e,E3 h.right]
end

end Go.Proofs.YtdobfmlmenaajaaGreatDoor
