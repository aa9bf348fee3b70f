/-
  Lemmas for NeighbourGram.
-/
import Derived.Test.YtdobfmlmenaajaaGreatDoorG13
namespace Go.Proofs.YtdobfmlmenaajaaGreatDoor
open Go.RowKit Tryz
open _root_.List renaming replicate→bN
open _root_.Nat renaming beq→ap,blt→aM,ble→je
open _root_.Option renaming none→ab
set_option maxHeartbeats 6400000
set_option maxRecDepth 4096
set_option linter.all false
variable{ops:Array Oper}{X:EB}{l l':EL}{B a b:List Nat}{A:List XV}{nx t:Nat}{o:Oper}{y:Option (Option EB)}{x:Option Operand}{φ ψ:Ph}{te te':TE}{v:XV}{r:XV×Nat×EL}
noncomputable section
def Jc:XV->Option Nat
 | .int _ (.ofNat n)=>some n
 | _=>ab
def xq{φ:Ph}{x:XV}{a:AV}{n:Nat}(h:Jc x=some n)(b:ER φ x a):∃k,a=.int k (n:Int):=by
 unfold Jc at h;split at h
 .cases h;simp only[ER]at b;exact⟨_,b⟩
 .cases h
def FW(t:Nat)(x i:XV):Option XV:=match Jc i with
 | ab=>ab
 | some n=>match dB t,x with
  | some e,.sl es b off len=>match ap es (bP e)&&aM n len with
   | true=>some (.ptr es b (off+n))
   | false=>ab
  | some e,.lst es L=>match ap es (bP e),L[n]? with
   | true,some y=>some (.pat es y)
   | _,_=>ab
  | ab,.ptr es b k=>match ap es 2&&ap t 195&&aM n 2 with
   | true=>some (.ptr 2 b (k+n))
   | false=>ab
  | _,_=>ab
def Je{φ:Ph}{t:Nat}{x i v:XV}{a c:AV}{K:AV->Prop}(h:FW t x i=some v)(f:ER φ x a)(p:ER φ i c)(l:∀z,ER φ v z->K z):pC t a c K:=by
 unfold FW at h;split at h
 .cases h
 .rename_i n q;obtain⟨k,rfl⟩:=xq q p;unfold pC;split at h
  .rename_i e es b off len j;simp only[ER]at f;obtain⟨b',m,rfl⟩:=f;split at h
   .rename_i d;simp only[au]at d
    cases h
    have o:n<len:=by simpa using d.2
    simp only[j];exact⟨ak d.1,⟨om,om⟩,l _ (by simp only[ER,cj];exact⟨b',m,rfl⟩)⟩
   .cases h
  .rename_i e es L j;simp only[ER]at f;obtain⟨g,rfl,r⟩:=f;split at h
   .rename_i y s d
    cases h
    have o:n<L.length:=by
     rcases aA n L.length with h|h
     .exact h
     .rw[ct h]at d;cases d
    simp only[j];refine⟨ak s,⟨om,om⟩,l _ ?_⟩
    simp only[ER,cj];have:=r.get d;rw[aB]at this;exact⟨_,rfl,this⟩
   .cases h
  .rename_i es b k j;simp only[ER]at f;obtain⟨b',m,rfl⟩:=f;split at h
   .rename_i d;simp only[au]at d
    cases h
    have o:n<2:=by simpa using d.2
    simp only[j];exact⟨⟨ak d.1.1,ak d.1.2⟩,⟨om,om⟩,l _ (by simp only[ER,cj];exact⟨b',m,rfl⟩)⟩
   .cases h
  .cases h
def FX(t:Nat)(x:XV)(f:Nat):Option XV:=match fR t f,x with
 | some (es',k),.ptr es b i=>match ap es' es with
  | true=>some (.ptr es b (i+k))
  | false=>ab
 | _,_=>ab
def Jf{φ:Ph}{t f:Nat}{x v:XV}{a:AV}{K:AV->Prop}(h:FX t x f=some v)(c:ER φ x a)(d:∀z,ER φ v z->K z):pD t a f K:=by
 unfold FX at h;split at h
 .rename_i es' k es b i e;simp only[ER]at c;obtain⟨b',g,rfl⟩:=c;split at h
  .rename_i j
   cases h
   unfold pD;simp only[e];exact⟨ak j,d _ (by simp only[ER];exact⟨b',g,rfl⟩)⟩
  .cases h
 .cases h
def DU(t:Nat)(x y:XV)(nx:Nat)(l:EL):XR:=match dB t,x,y with
 | some e,.int .i64 (.ofNat n),.int .i64 (.ofNat m)=>match zE e with
  | some (es,z)=>match ap n m&&ap es (bP e)&&je n 4096 with
   | true=>sW nx l ⟨e,es,bN n z⟩ (.sl es nx 0 n)
   | false=>ab
  | ab=>ab
 | _,_,_=>ab
def K0{φ:Ph}{t nx:Nat}{x y:XV}{a c:AV}{l:EL}{S:St}{r:XV×Nat×EL}{K:AV->St->Prop}(h:DU t x y nx l=some r)(d:ER φ x a)(g:ER φ y c)(i:MR φ l S)(k:XK φ r.1 r.2.2 K):kZ t a c S K:=by
 unfold DU at h;split at h
 .rename_i e n m o;simp only[ER]at d g;subst d g;split at h
  .rename_i es z p;split at h
   .rename_i f;simp only[au]at f;have q:=ak f.1.1;have s:=ak f.1.2;have B:=cf f.2;subst q;obtain⟨z',v,u,w⟩:=DQ p;unfold kZ;simp only[o,u];refine⟨trivial,s,⟨cJ n,by have:Int.ofNat n=(n:Int):=rfl;omega⟩,fun b A=>?_⟩
    refine pk h i (lu.of fun j x d=>?_) sm k A (.inr ⟨sm,sm⟩)
    have:=fV (fy d);subst this;exact w φ
   .cases h
  .cases h
 .cases h
def xlo:Option XV->Option Nat
 | ab=>some 0
 | some x=>Jc x
def xhi(len:Nat):Option XV->Option Nat
 | ab=>some len
 | some x=>Jc x
def xmx(len h:Nat)(hi:Option XV):Option XV->Bool
 | ab=>true
 | some x=>match Jc x with
  | some a=>je h a&&je a len&&hi.isSome
  | ab=>false
def sF(len:Nat)(lo hi mx:Option XV):Option (Nat×Nat):=match xlo lo,xhi len hi with
 | some a,some h=>match xmx len h hi mx&&je a h&&je h len with
  | true=>some (a,h)
  | false=>ab
 | _,_=>ab
def Sc(φ:Ph):Option XV->Option AV->Prop
 | ab,ab=>True
 | some x,some a=>ER φ x a
 | _,_=>False
def rM{φ:Ph}{len:Nat}{lo hi mx:Option XV}{lo' hi' mx':Option AV}{p:Nat×Nat}{K:Nat->Nat->Prop}(h:sF len lo hi mx=some p)(j:Sc φ lo lo')(e:Sc φ hi hi')(l:Sc φ mx mx')(q:p.1<=p.2->p.2<=len->K p.1 p.2):tI len lo' hi' mx' K:=by
 unfold sF at h;split at h
 .rename_i a b f g;split at h
  .rename_i i
   cases h
   simp only[au]at i;have n:=cf i.1.2;have o:=cf i.2;refine⟨a,b,?_,?_,?_,n,o,q n o⟩
   .match lo,lo',j with
    | ab,ab,_=>simp only[xlo]at f;cases f;rfl
    | some x,some a',j =>
     simp only[xlo]at f;obtain⟨k,rfl⟩:=xq f j;rfl
   .match hi,hi',e with
    | ab,ab,_=>simp only[xhi]at g;cases g;rfl
    | some x,some a',e =>
     simp only[xhi]at g;obtain⟨k,rfl⟩:=xq g e;rfl
   .match mx,mx',l with
    | ab,ab,_=>trivial
    | some x,some a',l =>
     have d:=i.1.1;simp only[xmx]at d;split at d
     .rename_i c m;simp only[au]at d;obtain⟨k,rfl⟩:=xq m l;have r:=cf d.1.1;have s:=cf d.1.2;refine⟨om,om,?_⟩
      match hi,hi',e,d.2 with
      | some _,some _,_,_=>rfl
     .cases d
  .cases h
 .cases h
def FR(t:Nat)(x:XV)(lo hi mx:Option XV):Option XV:=match dB t,x with
 | some e,.sl es b off len=>match ap es (bP e),sF len lo hi mx with
  | true,some (a,h)=>match ap a 0||aM a h with
   | true=>some (.sl es b (off+a) (h-a))
   | false=>some (.lst es [])
  | _,_=>ab
 | some e,.lst es L=>match ap es (bP e),sF L.length lo hi mx with
  | true,some (a,h)=>some (.lst es ((L.drop a).take (h-a)))
  | _,_=>ab
 | some _,.nil=>match sF 0 lo hi mx with
  | some _=>some .nil
  | ab=>ab
 | _,_=>ab
def Ja{φ:Ph}{t:Nat}{x v:XV}{a:AV}{lo hi mx:Option XV}{lo' hi' mx':Option AV}{K:AV->Prop}(h:FR t x lo hi mx=some v)(c:ER φ x a)(m:Sc φ lo lo')(n:Sc φ hi hi')(o:Sc φ mx mx')(l:∀z,ER φ v z->K z):kP t a lo' hi' mx' K:=by
 unfold FR at h;unfold kP;split at h
 .rename_i e es b off len i;simp only[ER]at c;obtain⟨b',w,rfl⟩:=c;simp only[i];split at h
  .rename_i a d r k;refine⟨ak r,rM k m n o fun s u=>?_⟩;simp only
   cases f:(ap a 0||aM a d)with
   | true =>
    rw[f]at h
    cases h
    have:a=0∨a<d:=by
     simp only[gj]at f;rcases f with q|q
     .exact .inl (ak q)
     .exact .inr (by simpa using q)
    rw[ai this];exact l _ (by simp only[ER];exact⟨b',w,rfl⟩)
   | false =>
    rw[f]at h
    cases h
    have:¬(a=0∨a<d):=by
     rintro (q|q)
     .subst q;simp at f
     .have y:aM a d=true:=by simpa using q
      rw[y]at f;simp at f
    rw[af this];exact l _ (by simp only[ER];exact⟨_,rfl,by simp[lu]⟩)
  .cases h
 .rename_i e es L i;simp only[ER]at c;obtain⟨g,rfl,A⟩:=c;simp only[i];split at h
  .rename_i a d r k
   cases h
   refine⟨ak r,rM k m n o fun s u=>?_⟩;simp only at s u ⊢;refine l _ ?_;simp only[ER];have el:((L.drop a).take (d-a)).length=d-a:=by simp;omega
   refine⟨_,by rw[el],lu.of fun j x c=>?_⟩
   have B:j<d-a:=by
    rcases aA j (d-a)with q|q
    .exact q
    .rw[ct om]at c;cases c
   rw[eT B,qa]at c;have:=A.get c;rw[aB]at this ⊢;exact this
  .cases h
 .rename_i e i;simp only[ER]at c;subst c;simp only[i];split at h
  .rename_i p k
   cases h
   exact rM k m n o fun _ _=>l _ (by simp[ER])
  .cases h
 .cases h
def QU(t:Nat)(x:XV):Option XV:=match dB t,x with
 | some _,.sl _ _ _ len=>some (.int .i64 len)
 | some _,.lst _ L=>some (.int .i64 L.length)
 | some _,.nil=>some (.int .i64 0)
 | _,_=>ab
def NJ{φ:Ph}{t:Nat}{x v:XV}{a:AV}{K:AV->Prop}(h:QU t x=some v)(c:ER φ x a)(f:∀z,ER φ v z->K z):Dg t a K:=by
 unfold QU at h;unfold Dg;split at h
 .rename_i e es b off len d;simp only[ER]at c;obtain⟨b',i,rfl⟩:=c
  cases h;simp only[d];exact f _ (by simp[ER])
 .rename_i e es L d;simp only[ER]at c;obtain⟨g,rfl,j⟩:=c
  cases h;simp only[d];exact f _ (by simp[ER])
 .rename_i e d;simp only[ER]at c;subst c
  cases h;simp only[d];exact f _ (by simp[ER])
 .cases h
def NM(l:EL):XV->Option (Nat×List XV×Option Nat)
 | .sl es i off len=>match en l i with
  | some (some X)=>match ap X.es es&&je (off+len) X.l.length with
   | true=>some (es,(X.l.drop off).take len,some i)
   | false=>ab
  | _=>ab
 | .lst es L=>some (es,L,ab)
 | _=>ab
def Hy{φ:Ph}{l:EL}{S:St}{x:XV}{a:AV}{es:Nat}{L:List XV}{o:Option Nat}(h:NM l x=some (es,L,o))(c:ER φ x a)(m:MR φ l S):∃g o',Av S a=some (es,L.length,g,o')/\lu φ L g 0/\∀b,o'=some b->∃i X,o=some i/\φ i=some b/\en l i=some (some X):=by
 unfold NM at h;split at h
 .rename_i es' i off len;simp only[ER]at c;obtain⟨b,e,rfl⟩:=c;split at h
  .rename_i X f;obtain⟨b',g,k,n,p⟩:=m.live i X f;rw[e]at k;cases k;split at h
   .rename_i d;simp only[au]at d;have r:=ak d.1;have s:=cf d.2
    cases h
    have el:((X.l.drop off).take len).length=len:=by simp;omega
    refine⟨_,_,by simp only[Av,n,dp];rw[ai ⟨r,s⟩,el],lu.of fun j x c=>?_,fun v d=>by cases d;exact⟨i,X,rfl,e,f⟩⟩
    have t:j<len:=by
     rcases aA j len with q|q
     .exact q
     .rw[ct om]at c;cases c
    rw[eT t,qa]at c;have:=p.get c;rw[aB]at this ⊢;exact this
   .cases h
  .cases h
 .rename_i es' L';simp only[ER]at c;obtain⟨g,rfl,u⟩:=c
  cases h
  exact⟨g,ab,rfl,u,fun b h=>by cases h⟩
 .cases h
def Ce(t t':Nat)(s x:XV)(nx:Nat)(l:EL):XR:=match dB t,NM l x with
 | some e,some (es,L,o)=>match ap t t'&&(zE e).isSome&&ap es (bP e)&&aM 0 L.length&&ni es L&&je L.length 1000 with
  | true=>match s with
   | .nil=>sW nx l ⟨e,es,L⟩ (.sl es nx 0 L.length)
   | .sl es' i off len=>match en l i,en l nx with
    | some (some X),ab=>match ap es' es&&ap off 0&&ap X.ty e&&ap X.es es&&ap X.l.length len&&je len 1000&&(match o with
      | some j=>!ap j i
      | ab=>true)with
     | true=>some (.sl es nx 0 (len+L.length),nx+1,rE (rE l i ab) nx (some ⟨e,es,X.l++L⟩))
     | false=>ab
    | _,_=>ab
   | _=>ab
  | false=>ab
 | _,_=>ab
def F0{φ:Ph}{t t' nx:Nat}{s x:XV}{a c:AV}{l:EL}{S:St}{r:XV×Nat×EL}{K:AV->St->Prop}(h:Ce t t' s x nx l=some r)(n:ER φ s a)(d:ER φ x c)(f:MR φ l S)(M:XK φ r.1 r.2.2 K):fG t t' a c S K:=by
 unfold Ce at h;split at h
 .rename_i e es L o T k;obtain⟨g,o',U,z,V⟩:=Hy k d f;split at h
  .rename_i N;simp only[au]at N;obtain⟨⟨⟨⟨⟨A,O⟩,B⟩,C⟩,W⟩,p6⟩:=N;have A:=ak A;have B:=ak B;have C:0<L.length:=by simpa using C
   have p6:=cf p6;have p:(fU e).isSome=true:=by
    cases p:zE e with
    | none=>rw[p]at O;cases O
    | some y =>
     obtain⟨a,v,Z,_⟩:=DQ (t:=e) (es:=y.1) (x:=y.2) p;rw[Z];rfl
   unfold fG;simp only[T,U];refine⟨A,p,B,C,fun j u=>by have:=uX W z j u;rwa [aB]at this,?_⟩
   split at h
   .simp only[ER]at n;subst n;exact⟨om,fun b m=>pk h f z rfl M m (.inr ⟨rfl,rfl⟩)⟩
   .rename_i es' i off len;simp only[ER]at n;obtain⟨b,m,rfl⟩:=n;split at h
    .rename_i X D E;obtain⟨b',g',P,e2,e3⟩:=f.live i X D;rw[m]at P;cases P;split at h
     .rename_i Q
      cases h
      simp only[au]at Q;obtain⟨⟨⟨⟨⟨⟨F,G⟩,H⟩,I⟩,w⟩,R⟩,s7⟩:=Q;have F:=ak F;have G:=ak G;have H:=ak H;have I:=ak I;have w:=ak w;have R:=cf R;simp only[e2];refine⟨F,G,H,I,w,om,fun eo=>?_,fun b2 J=>?_⟩
      .obtain⟨j,Y,j1,j2,j3⟩:=V _ eo;subst j1;have:=f.inj j i Y X b j3 D j2 m;subst this;simp at s7
      .have hl:len+L.length=(X.l++L).length:=by simp;omega
       have hG:lu φ (X.l++L) (mI g' len L.length g) 0:=lu.of fun j x d=>by
        rw[aB];unfold mI;by_cases u:j<len
        .rw[dY om]at d;have:=e3.get d;rw[aB]at this;split
         .simp only[bR];rw[af om];exact this
         .simp only[ai u];exact this
        .rw[dS om,w]at d;have:=z.get d;rw[aB]at this;split
         .rename_i h1;have hj2:j-len<L.length:=by
           rcases aA (j-len) L.length with q|q
           .exact q
           .rw[ct q]at d;cases d
          simp only[bR];rw[ai om]
          rwa [(om:j-len=0)]at this
         .simp only[af u];exact this
       obtain⟨h5,h6⟩:=f.move D m E J (ty:=e) (es:=es) hG hl;refine M _ _ _ h5 ?_ h6;simp only[ER];exact⟨b2,by unfold Ph.set;rw[ai rfl],rfl⟩
     .cases h
    .cases h
   .cases h
  .cases h
 .cases h
def lu.app{φ:Ph}{A L:List XV}{g' g:Nat->AV}{len:Nat}(c:lu φ A g' 0)(d:A.length=len)(e:lu φ L g 0):lu φ (A++L) (mI g' len L.length g) 0:=lu.of fun j x a=>by
 rw[aB];unfold mI;by_cases b:j<len
 .rw[dY om]at a;have:=c.get a;rw[aB]at this;split
  .simp only[bR];rw[af om];exact this
  .simp only[ai b];exact this
 .rw[dS om,d]at a;have:=e.get a;rw[aB]at this;split
  .rename_i h;have f:j-len<L.length:=by
    rcases aA (j-len) L.length with q|q
    .exact q
    .rw[ct q]at a;cases a
   simp only[bR];rw[ai om]
   rwa [(om:j-len=0)]at this
  .simp only[af b];exact this
def yg(t:Nat)(s x:XV)(nx:Nat)(l:EL):XR:=match s,x with
 | .sl es i off len,.int _ (.ofNat m)=>(match dB t,en l i,en l nx with
  | some e,some (some X),ab=>(match zE e with
   | some (es',z)=>(match ap es' es&&ap es (bP e)&&ap off 0&&ap X.ty e&&ap X.es es&&ap X.l.length len&&je 1 m&&je (len+m) 1048576 with
    | true=>some (.sl es nx 0 (len+m),nx+1,rE (rE l i ab) nx (some ⟨e,es,X.l++bN m z⟩))
    | false=>ab)
   | ab=>ab)
  | _,_,_=>ab)
 | _,_=>ab
def D4{φ:Ph}{t nx:Nat}{s x:XV}{a c:AV}{l:EL}{S:St}{r:XV×Nat×EL}{K:AV->St->Prop}(h:yg t s x nx l=some r)(p:ER φ s a)(q:ER φ x c)(u:MR φ l S)(E:XK φ r.1 r.2.2 K):nr t a c S K:=by
 unfold yg at h;split at h
 .rename_i es i off len k m;simp only[ER]at p q;obtain⟨b,w,rfl⟩:=p;subst q;split at h
  .rename_i e X F A f;obtain⟨b',g',B,G,H⟩:=u.live i X A;rw[w]at B;cases B;split at h
   .rename_i es' z I;obtain⟨av,v,J,z2⟩:=DQ I;split at h
    .rename_i C
     cases h
     simp only[au]at C;obtain⟨⟨⟨⟨⟨⟨⟨L,M⟩,N⟩,O⟩,g⟩,n⟩,P⟩,Q⟩:=C;unfold nr;simp only[F,G,J];have g:=ak g;refine⟨ak L,ak M,ak N,ak O,g,ak n,cf P,cf Q,fun R o=>?_⟩;have T:len+m=(X.l++bN m z).length:=by
      have:=ak n;simp;omega
     have U:lu φ (bN m z) (fun _=>av) 0:=lu.of fun j y d=>by
      rw[sD]at d;split at d
      .cases d;exact z2 φ
      .cases d
     have D:=lu.app H (ak n) U;rw[kL]at D;obtain⟨V,W⟩:=u.move A w f o (ty:=e) (es:=es) D T;refine E _ _ _ V ?_ W;simp only[ER];exact⟨R,by unfold Ph.set;rw[ai rfl],rfl⟩
    .cases h
   .cases h
  .cases h
 .cases h
def La(t:Nat)(d s:XV)(l:EL):Option (XV×EL):=match dB t,d with
 | some e,.sl es i off len=>match en l i,NM l s with
  | some (some X),some (es',L,_)=>match ap es (bP e)&&ap es' es&&ap X.es es&&je (off+len) X.l.length&&ap L.length len&&aM 0 L.length&&ni es L with
   | true=>some (.int .i64 len,rE l i (some ⟨X.ty,X.es,vZ X.l off L⟩))
   | false=>ab
  | _,_=>ab
 | _,_=>ab
def K9{φ:Ph}{t:Nat}{d s v:XV}{a c:AV}{l l':EL}{S:St}{K:AV->St->Prop}(h:La t d s l=some (v,l'))(w:ER φ d a)(D:ER φ s c)(m:MR φ l S)(E:XK φ v l' K):rH t a c S K:=by
 unfold La at h;split at h
 .rename_i e es i off len F;simp only[ER]at w;obtain⟨b,y,rfl⟩:=w;split at h
  .rename_i X es' L o z f;obtain⟨g,o',G,A,N⟩:=Hy f D m;obtain⟨b',g',B,H,I⟩:=m.live i X z;rw[y]at B;cases B;split at h
   .rename_i C
    cases h
    simp only[au]at C;obtain⟨⟨⟨⟨⟨⟨n,p⟩,q⟩,r⟩,u⟩,p6⟩,J⟩:=C;have n:=ak n;have p:=ak p;have q:=ak q;have r:=cf r;have u:=ak u;have p6:0<L.length:=by simpa using p6
    unfold rH;simp only[F,H,G];refine⟨n,p,q,r,u,p6,fun j M=>by have:=uX J A j M;rwa [aB]at this,?_⟩
    refine E _ _ _ (Ph.le_refl _) (by simp[ER]) (m.put z y (lu.of fun j x k=>?_) (by simp[uG]))
    rw[uH _ _ _ _ om]at k;simp only[aB];by_cases e:off<=j/\j<off+L.length
    .rw[ai e]at k;rw[ai om];have:=A.get k
     rwa [aB]at this
    .rw[af e]at k;rw[af om];have:=I.get k
     rwa [aB]at this
   .cases h
  .cases h
 .cases h
def xint(k:IntKind)(op:BinOp)(a b:Int):Option XV:=match op with
 | .add=>some (.int k (k.wrap (a+b)))
 | .sub=>some (.int k (k.wrap (a-b)))
 | .mul=>some (.int k (k.wrap (a*b)))
 | .quo=>if b=0 then ab else some (.int k (k.wrap (a.tdiv b)))
 | .rem=>if b=0 then ab else some (.int k (a.tmod b))
 | .eql=>some (.bool (a==b))
 | .neq=>some (.bool (a != b))
 | .lss=>some (.bool (decide (a<b)))
 | .leq=>some (.bool (decide (a<=b)))
 | .gtr=>some (.bool (decide (b<a)))
 | .geq=>some (.bool (decide (b<=a)))
 | _=>ab
def QZ(op:BinOp)(t:Nat)(x y:XV):Option XV:=match x,y with
 | .int k a,.int k' b=>if k=k' then xint k op a b else ab
 | .bool a,.bool b=>match ap t 4 with
  | true=>(match op with
   | .eql=>some (.bool (a==b))
   | .neq=>some (.bool (a != b))
   | _=>ab)
  | false=>ab
 | .sl _ _ _ _,.nil=>match op,ap t 29 with
  | .eql,true=>some (.bool false)
  | _,_=>ab
 | .lst _ L,.nil=>match op,ap t 29&&aM 0 L.length with
  | .eql,true=>some (.bool false)
  | _,_=>ab
 | .nil,.nil=>match op,ap t 29 with
  | .eql,true=>some (.bool true)
  | _,_=>ab
 | _,_=>ab
def NO{φ:Ph}{op:BinOp}{t:Nat}{x y v:XV}{a c:AV}{K:AV->Prop}(h:QZ op t x y=some v)(d:ER φ x a)(e:ER φ y c)(i:∀z,ER φ v z->K z):Fp op t a c K:=by
 unfold QZ at h;split at h
 .simp only[ER]at d e;subst d e;split at h
  .rename_i j;subst j;refine⟨rfl,?_⟩;unfold xint at h;split at h<;>first
    | cases h;done
    | (cases h;exact i _ (by simp[ER]))
    | (split at h
       .cases h
       .rename_i k;cases h;exact⟨k,i _ (by simp[ER])⟩)
  .cases h
 .simp only[ER]at d e;subst d e;split at h
  .rename_i f;refine⟨ak f,?_⟩;split at h<;>first
    | cases h;done
    | (cases h;exact i _ (by simp[ER]))
  .cases h
 .simp only[ER]at d e;obtain⟨b,_,rfl⟩:=d;subst e;split at h
  .rename_i f
   cases h
   exact⟨⟨ak f,rfl⟩,i _ (by simp[ER])⟩
  .cases h
 .simp only[ER]at d e;obtain⟨g,rfl,_⟩:=d;subst e;split at h
  .rename_i f
   cases h
   simp only[au]at f;exact⟨⟨ak f.1,rfl,by simpa using f.2⟩,i _ (by simp[ER])⟩
  .cases h
 .simp only[ER]at d e;subst d e;split at h
  .rename_i f
   cases h
   exact⟨⟨ak f,rfl⟩,i _ (by simp[ER])⟩
  .cases h
 .cases h
end

noncomputable section
def xun(op:UnOp)(x:XV):Option XV:=match op,x with
 | .neg,.int k n=>some (.int k (k.wrap (0-n)))
 | .not,.bool b=>some (.bool (!b))
 | _,_=>ab
def QT{φ:Ph}{op:UnOp}{x v:XV}{a:AV}{K:AV->Prop}(h:xun op x=some v)(b:ER φ x a)(c:∀z,ER φ v z->K z):Ql op a K:=by
 unfold xun at h;split at h
 .simp only[ER]at b;subst b;cases h;exact c _ (by simp[ER])
 .simp only[ER]at b;subst b;cases h;exact c _ (by simp[ER])
 .cases h
def Ld(s d:Nat)(x:XV):Option XV:=match tc d,x with
 | some k,.int _ n=>match Am s with
  | true=>some (.int k (k.wrap n))
  | false=>ab
 | _,_=>ab
def Lc{φ:Ph}{s d:Nat}{x v:XV}{a:AV}{K:AV->Prop}(h:Ld s d x=some v)(c:ER φ x a)(e:∀z,ER φ v z->K z):tE s d a K:=by
 unfold Ld at h;split at h
 .rename_i k k' n b;simp only[ER]at c;subst c;split at h
  .rename_i f
   cases h
   unfold tE;simp only[b];exact⟨f,e _ (by simp[ER])⟩
  .cases h
 .cases h
def FY(t:Nat)(ps:List (Nat×XV)):Option XV:=match t,ps with
 | 50,[]=>some (.big 0)
 | 167,[(0,x),(1,y)]=>if nj 2 x&&nj 2 y then some (.agg [x,y])else ab
 | 195,[(0,x),(1,y)]=>if nj 2 x&&nj 2 y then some (.agg [x,y])else ab
 | 183,[(0,x),(1,y)]=>if nj 1 x&&nj 1 y then some (.agg [x,y])else ab
 | 218,[(0,x),(1,y)]=>if nj 1 x&&nj 1 y then some (.agg [x,y])else ab
 | 202,[(0,x),(1,y)]=>if nj 1 x&&nj 1 y then some (.agg [x,y])else ab
 | 160,[(0,x),(1,y)]=>if nj 1 x&&nj 1 y then some (.agg [x,y,.nil,.nfn])else ab
 | 238,[(0,x),(1,y),(2,z)]=>if nj 1 x&&nj 1 y&&nj 1 z then some (.agg [x,y,z])else ab
 | 197,[(0,x),(1,y),(2,z),(3,.agg [p,q]),(4,.agg [r,s])]=>if ni 2 [x,y,z,p,q,r,s]then some (.agg [x,y,z,p,q,r,s])else ab
 | _,_=>ab
def Nh(φ:Ph):List (Nat×XV)->List (Nat×AV)->Prop
 | [],[]=>True
 | p::l,q::r=>p.1=q.1/\ER φ p.2 q.2/\Nh φ l r
 | _,_=>False
def Jg{φ:Ph}{t:Nat}{ps:List (Nat×XV)}{qs:List (Nat×AV)}{v:XV}{K:AV->Prop}(h:FY t ps=some v)(f:Nh φ ps qs)(u:∀z,ER φ v z->K z):qI t qs K:=by
 have two:∀{x y:XV} {qs:List (Nat×AV)},Nh φ [(0,x),(1,y)] qs->∃a b,qs=[(0,a),(1,b)]/\ER φ x a/\ER φ y b:=by
  intro x y qs f
  match qs,f with
  | [(i,a),(j,b)],f =>
   simp only[Nh]at f;obtain⟨rfl,m,rfl,n,_⟩:=f;exact⟨a,b,rfl,m,n⟩
  | [],f=>exact f.elim
  | [_],f=>exact f.2.2.elim
  | _::_::_::_,f=>exact f.2.2.2.2.elim
 unfold FY at h;split at h
 .match qs,f with
  | [],_=>cases h;exact u _ (by simp[ER])
 all_goals first
  | (rename_i x y
     obtain⟨a,b,rfl,m,n⟩:=two f;split at h
     .rename_i l;simp only[au]at l
      cases h
      refine⟨lk l.1 m,lk l.2 n,u _ ?_⟩;simp only[ER];refine⟨_,rfl,?_⟩;simp only[eZ,ER];simp[m,n]
     .cases h)
  | (rename_i x y z
     split at h
     .rename_i l;simp only[au]at l
      cases h
      match qs,f with
      | [(D,a),(E,b),(F,c)],f =>
       simp only[Nh]at f;obtain⟨rfl,m,rfl,n,rfl,w,_⟩:=f;refine⟨lk l.1.1 m,lk l.1.2 n,lk l.2 w,u _ ?_⟩;simp only[ER];refine⟨_,rfl,?_⟩;simp only[eZ];exact⟨m,n,w,trivial⟩
      | [],f=>exact f.elim
      | [_],f=>exact f.2.2.elim
      | [_,_],f=>exact f.2.2.2.2.elim
      | _::_::_::_::_,f=>exact f.2.2.2.2.2.2.elim
     .cases h)
  | (rename_i x y z p q r s
     split at h
     .rename_i l
      cases h
      match qs,f with
      | [(D,a),(E,b),(F,c),(G,d),(H,e)],f =>
       simp only[Nh]at f;obtain⟨rfl,m,rfl,n,rfl,w,rfl,A,rfl,B,_⟩:=f;simp only[ER]at A B;obtain⟨R,rfl,g⟩:=A;obtain⟨R',rfl,k⟩:=B
       match R,R',g,k with
       | [p',q'],[r',s'],g,k =>
        simp only[eZ]at g k;have C:eZ φ [x,y,z,p,q,r,s] [a,b,c,p',q',r',s']:=by
         simp only[eZ];exact⟨m,n,w,g.1,g.2.1,k.1,k.2.1,trivial⟩
        have o:=oP l C;refine⟨o _ sm,o _ sm,o _ sm,o _ sm,o _ sm,o _ sm,o _ sm,u _ ?_⟩
        simp only[ER];exact⟨_,rfl,C⟩
       | [],_,g,_=>simp[eZ]at g
       | [_],_,g,_=>simp[eZ]at g
       | _::_::_::_,_,g,_=>simp[eZ]at g
       | [_,_],[],_,g=>simp[eZ]at g
       | [_,_],[_],_,g=>simp[eZ]at g
       | [_,_],_::_::_::_,_,g=>simp[eZ]at g
      | [],f=>exact f.elim
      | [_],f=>exact f.2.2.elim
      | [_,_],f=>exact f.2.2.2.2.elim
      | [_,_,_],f=>exact f.2.2.2.2.2.2.elim
      | [_,_,_,_],f=>exact f.2.2.2.2.2.2.2.2.elim
      | _::_::_::_::_::_::_,f=>exact f.2.2.2.2.2.2.2.2.2.2.elim
     .cases h)
  | cases h
def qu:Nat->List (Nat×XV)->Bool
 | _,[]=>true
 | k,p::l=>ap p.1 k&&qu (k+1) l
theorem wg{φ:Ph}:∀{ps:List (Nat×XV)} {qs:List (Nat×AV)} {k:Nat},qu k ps=true->Nh φ ps qs->qs=eF k (qs.map (·.2))/\eZ φ (ps.map (·.2)) (qs.map (·.2))/\qs.length=ps.length
 | [],[],k,_,_=>⟨rfl,by simp[eZ],rfl⟩
 | p::l,q::r,k,h,b=>by
  simp only[qu,au]at h;simp only[Nh]at b;obtain⟨c,d,f⟩:=wg h.2 b.2.2;have e:=ak h.1;refine⟨?_,by simp only[cG,eZ];exact⟨b.2.1,d⟩,by simp[f]⟩
  simp only[cG,eF,jo];refine⟨?_,c⟩;obtain⟨i,a⟩:=q;simp only at b ⊢;rw[<-b.1,e]
 | [],_::_,_,_,b=>b.elim
 | _::_,[],_,_,b=>b.elim
def ma(t n:Nat)(ps:List (Nat×XV))(nx:Nat)(l:EL):XR:=match dB t with
 | some e=>match qu 0 ps&&ap ps.length n&&je n 16&&(zE e).isSome&&ni (bP e) (ps.map (·.2))with
  | true=>sW nx l ⟨e,bP e,ps.map (·.2)⟩ (.sl (bP e) nx 0 n)
  | false=>ab
 | ab=>ab
def yf{φ:Ph}{t n nx:Nat}{ps:List (Nat×XV)}{qs:List (Nat×AV)}{l:EL}{S:St}{r:XV×Nat×EL}{K:AV->St->Prop}(h:ma t n ps nx l=some r)(d:Nh φ ps qs)(k:MR φ l S)(m:XK φ r.1 r.2.2 K):dz t n qs S K:=by
 unfold ma at h;split at h
 .rename_i e o;split at h
  .rename_i f;simp only[au]at f;obtain⟨⟨⟨⟨q,g⟩,s⟩,i⟩,u⟩:=f;obtain⟨w,j,B⟩:=wg q d;have g:=ak g;have c:(fU e).isSome=true:=by
    cases c:zE e with
    | none=>rw[c]at i;cases i
    | some y =>
     obtain⟨a,v,z,_⟩:=DQ (t:=e) (es:=y.1) (x:=y.2) c;rw[z];rfl
   unfold dz;simp only[o];refine⟨w,om,cf s,c,fun p d=>oP u j p.2 (List.mem_map_of_mem d),fun b A=>?_⟩
   exact pk h k j.toG (by simp;omega) m A (.inr ⟨rfl,rfl⟩)
  .cases h
 .cases h
def QV(t:Nat)(x i:XV):Option XV:=match x,i with
 | .agg [p,q],.int _ n=>if t=195/\(n=0∨n=1)then(if nj 2 p&&nj 2 q then some (if n=0 then p else q)else ab)else ab
 | .agg [p,q,r],.int _ (.ofNat n)=>(match ap t 238&&aM n 3&&ni 1 [p,q,r]with
  | true=>[p,q,r][n]?
  | false=>ab)
 | _,_=>ab
def NK{φ:Ph}{t:Nat}{x i v:XV}{a c:AV}{K:AV->Prop}(h:QV t x i=some v)(e:ER φ x a)(f:ER φ i c)(j:∀z,ER φ v z->K z):Dh t a c K:=by
 unfold QV at h;split at h
 .rename_i p q k n;simp only[ER]at e f;subst f;obtain⟨R,rfl,b⟩:=e;split at h
  .rename_i l;split at h
   .rename_i d;simp only[au]at d
    cases h
    match R,b with
    | [p',q'],b =>
     simp only[eZ]at b;refine bM ⟨l.1,p',q',rfl,lk d.1 b.1,lk d.2 b.2.1,l.2,j _ ?_⟩;split
     .exact b.1
     .exact b.2.1
    | [],b=>simp[eZ]at b
    | [_],b=>simp[eZ]at b
    | _::_::_::_,b=>simp[eZ]at b
   .cases h
  .cases h
 .rename_i p q r k n;simp only[ER]at e f;subst f;obtain⟨R,rfl,b⟩:=e;split at h
  .rename_i d;simp only[au,nT]at d;obtain⟨⟨g,o⟩,s⟩:=d;have g:=ak g;obtain⟨a,u,w⟩:=b.get h;have m:=b.length;refine bO ⟨bM ⟨g,m⟩,oP s b,⟨cJ n,by rw[m];exact QK.2 o⟩,?_⟩
   have:R.getD (Int.toNat (Int.ofNat n)) .any=a:=by
    rw[gO];show(R[n]?).getD .any=a;rw[u];rfl
   rw[this];exact j a w
  .cases h
 .cases h
def GP(φ:Ph):Prop:=φ 0=some 0
def GP.mono{φ ψ:Ph}(h:GP φ)(a:φ.le ψ):GP ψ:=a _ _ h
def mD(call:d9):Prop:=∀f args nx l r,call f args nx l=some r->∀φ as' S K,GP φ->eZ φ args as'->MR φ l S->XK φ r.1 r.2.2 K ->
 ((11<=f/\f<270)/\f≠252/\f≠253)/\cE f as' S K
def mW(b:Builtin)(args:List XV)(ts:List Nat)(nx:Nat)(l:EL):XR:=match b,args,ts with
 | .len,[x],[t]=>(QU t x).map fun v=>(v,nx,l)
 | .max,[.int k a,.int k' c],_=>if k=k' then some (.int k (if c > a then c else a),nx,l)else ab
 | .append,[s,x],[t,t']=>(match ap t' 3 with
  | true=>yg t s x nx l
  | false=>Ce t t' s x nx l)
 | .copy,[s,x],[t,_]=>(La t s x l).map fun p=>(p.1,nx,p.2)
 | _,_,_=>ab
def AR(call:d9)(o:Oper)(te:TE)(nx:Nat)(l:EL):XR:=match o.op with
 | .move x=>some (kI te x,nx,l)
 | .assign x=>some (kI te x,nx,l)
 | .pick c x y=>match kI te c with
  | .bool t=>some (if t then kI te x else kI te y,nx,l)
  | _=>ab
 | .alloc t=>yh t nx l
 | .box t x=>Lf t (kI te x) nx l
 | .build t ps=>(FY t (ps.toList.map fun p=>(p.1,kI te p.2))).map fun v=>(v,nx,l)
 | .buildSlice t n ps=>ma t n (ps.toList.map fun p=>(p.1,kI te p.2)) nx l
 | .load t x=>(vQ t (kI te x) l).map fun v=>(v,nx,l)
 | .store t x y=>(FQ t (kI te x) (kI te y) l).map fun l'=>(.any,nx,l')
 | .nilCheck x=>match kI te x with
  | .ptr es b i=>some (.ptr es b i,nx,l)
  | .pat es y=>some (.pat es y,nx,l)
  | _=>ab
 | .binOp op t x y _=>(QZ op t (kI te x) (kI te y)).map fun v=>(v,nx,l)
 | .unOp op _ x=>(xun op (kI te x)).map fun v=>(v,nx,l)
 | .convert s d x=>(Ld s d (kI te x)).map fun v=>(v,nx,l)
 | .makeFunc (.func f) fi cs=>match fi.toList,cs.toList with
  | [],L=>some (.fn f (L.map (kI te)),nx,l)
  | x::L,[]=>some (.mfn f ((x::L).map (kI te)),nx,l)
  | _,_=>ab
 | .makeSlice t x y=>DU t (kI te x) (kI te y) nx l
 | .slice t x lo hi mx=>(FR t (kI te x) (lo.map (kI te)) (hi.map (kI te)) (mx.map (kI te))).map fun v=>(v,nx,l)
 | .fieldAddr t x f=>(FX t (kI te x) f).map fun v=>(v,nx,l)
 | .indexAddr t x i=>(FW t (kI te x) (kI te i)).map fun v=>(v,nx,l)
 | .index t x i=>(QV t (kI te x) (kI te i)).map fun v=>(v,nx,l)
 | .extract x i=>match kI te x with
  | .tup L=>(L[i]?).map fun v=>(v,nx,l)
  | _=>ab
 | .call c=>match c.callee with
  | .value f=>match kI te f with
   | .fn g cs=>call g (c.args.toList.map (kI te)++cs) nx l
   | .mfn g cs=>call g (cs++c.args.toList.map (kI te)) nx l
   | _=>ab
  | .builtin b=>mW b (c.args.toList.map (kI te)) c.argTypes.toList nx l
  | _=>ab
 | _=>ab
def TR.evP{φ:Ph}{te:TE}{O:Tm}(h:TR φ te O):∀ps:List (Nat×Operand),Nh φ (ps.map fun p=>(p.1,kI te p.2)) (ps.map fun p=>(p.1,Go.Proofs.YtdobfmlmenaajaaGreatDoor.ev O p.2))
 | []=>trivial
 | p::ps=>by simp only[cG,Nh];exact⟨trivial,h.ev p.2,h.evP ps⟩
def TR.evO{φ:Ph}{te:TE}{O:Tm}(h:TR φ te O)(x:Option Operand):Sc φ (x.map (kI te)) (x.map (Go.Proofs.YtdobfmlmenaajaaGreatDoor.ev O)):=by
 cases x with
 | none=>trivial
 | some x=>exact h.ev x
def Cd{call:d9}(U:mD call){o:Oper}{te:TE}{nx:Nat}{l:EL}{r:XV×Nat×EL}(h:AR call o te nx l=some r){φ:Ph}(V:GP φ){O:Tm}{S:St}(m:TR φ te O)(A:MR φ l S){K:AV->St->Prop}(B:XK φ r.1 r.2.2 K):zO o O S K:=by
 have pure_:∀(p:Option XV),p.map (fun v=>(v,nx,l))=some r->∃v,p=some v/\∀z,ER φ v z->K z S:=by
  intro p W;obtain⟨v,rfl,X⟩:=cH.1 W;subst X;exact⟨v,rfl,fun z Y=>B φ z S (Ph.le_refl _) Y A⟩
 unfold AR at h;unfold zO;split at h
 .rename_i x q;simp only[q];cases h;exact B _ _ _ (Ph.le_refl _) (m.ev x) A
 .rename_i x q;simp only[q];cases h;exact B _ _ _ (Ph.le_refl _) (m.ev x) A
 .rename_i c x y q;simp only[q];split at h
  .rename_i t I
   cases h
   have:=m.ev c;rw[I]at this;simp only[ER]at this;simp only[this];refine B _ _ _ (Ph.le_refl _) ?_ A
   cases t
   .exact m.ev y
   .exact m.ev x
  .cases h
 .rename_i t q;simp only[q];exact Jh h A B
 .rename_i t x q;simp only[q];exact NN h (m.ev x) A B
 .rename_i t ps q;simp only[q];obtain⟨v,u,w⟩:=pure_ _ h;exact Jg u (m.evP ps.toList) w
 .rename_i t n ps q;simp only[q];exact yf h (m.evP ps.toList) A B
 .rename_i t x q;simp only[q];obtain⟨v,u,w⟩:=pure_ _ h;exact DX u (m.ev x) A w
 .rename_i t x y q;simp only[q];obtain⟨l',u,w⟩:=cH.1 h;subst w;exact I9 u (m.ev x) (m.ev y) A fun S' Z=>B _ _ _ (Ph.le_refl _) (by simp[ER]) Z
 .rename_i x q;simp only[q];have j:=m.ev x;split at h
  .rename_i es b i D
   cases h
   rw[D]at j;simp only[ER]at j;obtain⟨b',J,e⟩:=j;simp only[e];exact B _ _ _ (Ph.le_refl _) (by simp only[ER];exact⟨b',J,rfl⟩) A
  .rename_i es y D
   cases h
   rw[D]at j;simp only[ER]at j;obtain⟨y',e,hy⟩:=j;simp only[e];exact B _ _ _ (Ph.le_refl _) (by simp only[ER];exact⟨y',rfl,hy⟩) A
  .cases h
 .rename_i op t x y _ q;simp only[q];obtain⟨v,u,w⟩:=pure_ _ h;exact NO u (m.ev x) (m.ev y) w
 .rename_i op t x q;simp only[q];obtain⟨v,u,w⟩:=pure_ _ h;exact QT u (m.ev x) w
 .rename_i s d x q;simp only[q];obtain⟨v,u,w⟩:=pure_ _ h;exact Lc u (m.ev x) w
 .rename_i f fi cs q;simp only[q];split at h
  .rename_i F
   cases h
   simp only[F,lv,si];exact B _ _ _ (Ph.le_refl _) (by simp only[ER];exact⟨_,rfl,m.evL cs.toList⟩) A
  .rename_i x L F M
   cases h
   simp only[F,M,lv,cG,si];exact⟨trivial,B _ _ _ (Ph.le_refl _) (by simp only[ER];exact⟨_,rfl,m.evL (x::L)⟩) A⟩
  .cases h
 .rename_i t x y q;simp only[q];exact K0 h (m.ev x) (m.ev y) A B
 .rename_i t x lo hi mx q;simp only[q];obtain⟨v,u,w⟩:=pure_ _ h;exact Ja u (m.ev x) (m.evO lo) (m.evO hi) (m.evO mx) w
 .rename_i t x f q;simp only[q];obtain⟨v,u,w⟩:=pure_ _ h;exact Jf u (m.ev x) w
 .rename_i t x i q;simp only[q];obtain⟨v,u,w⟩:=pure_ _ h;exact Je u (m.ev x) (m.ev i) w
 .rename_i t x i q;simp only[q];obtain⟨v,u,w⟩:=pure_ _ h;exact NK u (m.ev x) (m.ev i) w
 .rename_i x i q;simp only[q];have j:=m.ev x;split at h
  .rename_i L D;obtain⟨v,u,w⟩:=pure_ _ h;rw[D]at j;simp only[ER]at j;obtain⟨R,e,H⟩:=j;obtain⟨a,h3,h4⟩:=H.get u;simp only[e,h3];exact w a h4
  .cases h
 .rename_i c q;simp only[q];unfold tF;split at h
  .rename_i f hf;simp only[hf];have j:=m.ev f;split at h
   .rename_i g cs G;rw[G]at j;simp only[ER]at j;obtain⟨R,e,H⟩:=j;simp only[e];exact U _ _ _ _ _ h φ _ S K V ((m.evL _).append H) A B
   .rename_i g cs G;rw[G]at j;simp only[ER]at j;obtain⟨R,e,H⟩:=j;simp only[e];exact U _ _ _ _ _ h φ _ S K V (H.append (m.evL _)) A B
   .cases h
  .rename_i b J;simp only[J];unfold mW at h;have hL:=m.evL c.args.toList;split at h
   .rename_i x t j E;rw[j]at hL;obtain⟨v,u,w⟩:=pure_ _ h
    cases C:c.args.toList with
    | nil=>rw[C]at j;simp at j
    | cons y r =>
     cases r with
     | cons _ _=>rw[C]at j;simp at j
     | nil =>
      rw[C]at j;simp only[cG,lv,jo,xP]at j;rw[<-j]at u;simp only[E];exact NJ u (m.ev y) w
   .rename_i k a k' d j;split at h
    .rename_i N;subst N
     cases h
     cases C:c.args.toList with
     | nil=>rw[C]at j;simp at j
     | cons y r =>
      cases r with
      | nil=>rw[C]at j;simp at j
      | cons y' r =>
       cases r with
       | cons _ _=>rw[C]at j;simp at j
       | nil =>
        rw[C]at j;simp only[cG,lv,jo,xP]at j;have P:=m.ev y;have Q:=m.ev y';rw[j.1]at P;rw[j.2]at Q;simp only[ER]at P Q;simp only[P,Q,MZ];exact⟨trivial,B _ _ _ (Ph.le_refl _) (by simp[ER]) A⟩
    .cases h
   .rename_i s x t t' j E
    cases C:c.args.toList with
    | nil=>rw[C]at j;simp at j
    | cons y r =>
     cases r with
     | nil=>rw[C]at j;simp at j
     | cons y' r =>
      cases r with
      | cons _ _=>rw[C]at j;simp at j
      | nil =>
       rw[C]at j;simp only[cG,lv,jo,xP]at j;rw[<-j.1,<-j.2]at h;simp only[E];split at h
       .rename_i T;rw[ai (ak T)];exact D4 h (m.ev y) (m.ev y') A B
       .rename_i T;rw[af (fun e=>by subst e;simp at T)]
        exact F0 h (m.ev y) (m.ev y') A B
   .rename_i s x t t' j E;obtain⟨p,u,w⟩:=cH.1 h;subst w
    cases C:c.args.toList with
    | nil=>rw[C]at j;simp at j
    | cons y r =>
     cases r with
     | nil=>rw[C]at j;simp at j
     | cons y' r =>
      cases r with
      | cons _ _=>rw[C]at j;simp at j
      | nil =>
       rw[C]at j;simp only[cG,lv,jo,xP]at j;rw[<-j.1,<-j.2]at u;simp only[E];exact K9 u (m.ev y) (m.ev y') A B
   .cases h
  .cases h
 .cases h
end

noncomputable section
def lL:Operand->List Nat
 | .tmp t=>[t]
 | _=>[]
def qt(l:List Operand):List Nat:=l.flatMap lL
def Ew(x:Option Operand):List Nat:=qt x.toList
def CC(o:Op):List Nat:=match o with
 | .move x=>lL x
 | .assign x=>lL x
 | .pick c x y=>lL c++(lL x++lL y)
 | .box _ x=>lL x
 | .build _ ps=>qt (ps.toList.map (·.2))
 | .buildSlice _ _ ps=>qt (ps.toList.map (·.2))
 | .load _ x=>lL x
 | .store _ x y=>lL x++lL y
 | .nilCheck x=>lL x
 | .binOp _ _ x y _=>lL x++lL y
 | .unOp _ _ x=>lL x
 | .convert _ _ x=>lL x
 | .makeFunc _ fi cs=>qt fi.toList++qt cs.toList
 | .makeSlice _ x y=>lL x++lL y
 | .slice _ x lo hi mx=>lL x++(Ew lo++(Ew hi++Ew mx))
 | .fieldAddr _ x _=>lL x
 | .indexAddr _ x i=>lL x++lL i
 | .index _ x i=>lL x++lL i
 | .extract x _=>lL x
 | .call c=>(match c.callee with
  | .value f=>lL f
  | _=>[])++qt c.args.toList
 | _=>[]
def FG(te te':TE)(l:List Nat):Prop:=∀t∈l,jF te t=jF te' t
def FG.left(h:FG te te' (a++b)):FG te te' a:=fun t c=>h t (List.mem_append_left _ c)
def FG.right(h:FG te te' (a++b)):FG te te' b:=fun t c=>h t (List.mem_append_right _ c)
def FG.ev{x:Operand}(h:FG te te' (lL x)):kI te x=kI te' x:=by
 cases x with
 | tmp t=>exact h t (by simp[lL])
 | const v=>rfl
 | global g=>rfl
 | func f=>rfl
def FG.evL:∀{l:List Operand},FG te te' (qt l)->l.map (kI te)=l.map (kI te')
 | [],_=>rfl
 | x::l,h=>by
  unfold qt at h;rw[dj]at h;rw[cG,cG,h.left.ev,evL (l:=l) h.right]
def FG.evP:∀{l:List (Nat×Operand)},FG te te' (qt (l.map (·.2)))->(l.map fun p=>(p.1,kI te p.2))=l.map fun p=>(p.1,kI te' p.2)
 | [],_=>rfl
 | x::l,h=>by
  unfold qt at h;rw[cG,dj]at h;rw[cG,cG,h.left.ev,evP (l:=l) h.right]
def FG.evO(h:FG te te' (Ew x)):x.map (kI te)=x.map (kI te'):=by
 cases x with
 | none=>rfl
 | some x =>
  unfold Ew qt at h;simp only[SZ,dj,FN,vE]at h;rw[dd,dd,h.ev]
def Jb{call:d9}(h:FG te te' (CC o.op)):AR call o te nx l=AR call o te' nx l:=by
 unfold AR
 cases e:o.op<;>rw[e]at h<;>simp only[CC]at h<;>try rfl
 case move x=>dsimp only;rw[h.ev]
 case assign x=>dsimp only;rw[h.ev]
 case pick c x y=>dsimp only;rw[h.left.ev,h.right.left.ev,h.right.right.ev]
 case box t x=>dsimp only;rw[h.ev]
 case build t ps=>dsimp only;rw[h.evP]
 case buildSlice t n ps=>dsimp only;rw[h.evP]
 case load t x=>dsimp only;rw[h.ev]
 case store t x y=>dsimp only;rw[h.left.ev,h.right.ev]
 case nilCheck x=>dsimp only;rw[h.ev]
 case binOp op t x y _=>dsimp only;rw[h.left.ev,h.right.ev]
 case unOp op t x=>dsimp only;rw[h.ev]
 case convert s d x=>dsimp only;rw[h.ev]
 case makeFunc f fi cs =>
  cases f<;>try rfl
  have a:=h.left.evL;have b:=h.right.evL;dsimp only;generalize fi.toList=F at a ⊢;generalize cs.toList=C at b ⊢
  cases F with
  | nil=>dsimp only;rw[b]
  | cons x F=>cases C with
   | nil=>dsimp only;rw[a]
   | cons _ _=>rfl
 case makeSlice t x y=>dsimp only;rw[h.left.ev,h.right.ev]
 case slice t x lo j mx=>dsimp only;rw[h.left.ev,h.right.left.evO,h.right.right.left.evO,h.right.right.right.evO]
 case fieldAddr t x f=>dsimp only;rw[h.ev]
 case indexAddr t x i=>dsimp only;rw[h.left.ev,h.right.ev]
 case index t x i=>dsimp only;rw[h.left.ev,h.right.ev]
 case extract x i=>dsimp only;rw[h.ev]
 case call c =>
  dsimp only;rw[h.right.evL]
  cases g:c.callee with
  | value f =>
   have a:=h.left;rw[g]at a;simp only[a.ev]
  | _=>rfl
def pureM:Nat:=2^81 ||| 2^82 ||| 2^83 ||| 2^84 ||| 2^133 ||| 2^157 ||| 2^159 ||| 2^191 ||| 2^192 ||| 2^193 ||| 2^215 ||| 2^216 ||| 2^247 ||| 2^249 ||| 2^251 ||| 2^268
def Bt(f:Nat):Bool:=Nat.testBit pureM f
def fL(o:Op):Nat:=match o with
 | .move _=>0
 | .assign _=>0
 | .pick _ _ _=>0
 | .build _ _=>0
 | .nilCheck _=>0
 | .binOp _ _ _ _ _=>0
 | .unOp _ _ _=>0
 | .convert _ _ _=>0
 | .makeFunc _ _ _=>0
 | .slice _ _ _ _ _=>0
 | .fieldAddr _ _ _=>0
 | .indexAddr _ _ _=>0
 | .index _ _ _=>0
 | .extract _ _=>0
 | .load _ _=>1
 | .alloc _=>2
 | .box _ _=>2
 | .buildSlice _ _ _=>2
 | .makeSlice _ _ _=>2
 | .call c=>(match c.callee with
  | .builtin .len=>0
  | .builtin .max=>0
  | .value (.func f)=>if Bt f then 0 else 4
  | .value (.tmp _)=>3
  | _=>4)
 | _=>4
def tN(call:d9):Prop:=∀f args nx l r,Bt f=true->call f args nx l=some r->r.2=(nx,l)/\∀nx' l',call f args nx' l'=some (r.1,nx',l')
def lZ(p:Option XV)(h:p.map (fun v=>(v,nx,l))=some r):r.2=(nx,l)/\∀(nx':Nat) (l':EL),p.map (fun v=>(v,nx',l'))=some (r.1,nx',l'):=by
 obtain⟨v,rfl,rfl⟩:=cH.1 h;exact⟨rfl,fun _ _=>rfl⟩
def mX(h:some (v,nx,l)=some r):r.2=(nx,l)/\∀(nx':Nat) (l':EL),some (v,nx',l')=some (r.1,nx',l'):=by
 cases h
 exact⟨rfl,fun _ _=>rfl⟩
def K5(h:mW .len A B nx l=some r):r.2=(nx,l)/\∀nx' l',mW .len A B nx' l'=some (r.1,nx',l'):=by
 rcases A with _|⟨x,_|⟨y,A⟩⟩
 .cases h
 .rcases B with _|⟨t,_|⟨u,B⟩⟩
  .cases h
  .exact lZ _ h
  .cases h
 .cases h
def KZ(h:mW .max A B nx l=some r):r.2=(nx,l)/\∀nx' l',mW .max A B nx' l'=some (r.1,nx',l'):=by
 rcases A with _|⟨x,_|⟨y,_|⟨z,A⟩⟩⟩
 .cases h
 .cases x<;>cases h
 .cases x<;>try cases h
  cases y<;>try cases h
  rename_i k a k' c;unfold mW at h ⊢;dsimp only at h ⊢;by_cases e:k=k'
  .rw[ai e]at h;refine⟨(mX h).1,fun nx' l'=>?_⟩;rw[ai e];exact(mX h).2 nx' l'
  .rw[af e]at h;cases h
 .cases x<;>try cases h
  cases y<;>cases h
def DS{call:d9}(k:tN call){o:Oper}{te:TE}{nx:Nat}{l:EL}{r:XV×Nat×EL}(a:fL o.op=0)(h:AR call o te nx l=some r):r.2=(nx,l)/\∀nx' l',AR call o te nx' l'=some (r.1,nx',l'):=by
 unfold AR at h ⊢
 cases m:o.op<;>rw[m]at h a<;>(try (simp[fL]at a;done))
 case move x=>exact mX h
 case assign x=>exact mX h
 case pick c x y =>
  dsimp only at h ⊢
  cases e:kI te c<;>rw[e]at h<;>try cases h
  exact⟨rfl,fun _ _=>rfl⟩
 case build t ps=>exact lZ _ h
 case nilCheck x =>
  dsimp only at h ⊢
  cases e:kI te x<;>rw[e]at h<;>first|exact mX h|cases h
 case binOp op t x y _=>exact lZ _ h
 case unOp op t x=>exact lZ _ h
 case convert s d x=>exact lZ _ h
 case makeFunc f fi cs =>
  cases f<;>dsimp only at h ⊢<;>try cases h
  generalize fi.toList=F at h ⊢;generalize cs.toList=C at h ⊢
  cases F with
  | nil=>exact mX h
  | cons x F=>cases C with
   | nil=>exact mX h
   | cons _ _=>cases h
 case slice t x lo n mx=>exact lZ _ h
 case fieldAddr t x f=>exact lZ _ h
 case indexAddr t x i=>exact lZ _ h
 case index t x i=>exact lZ _ h
 case extract x i =>
  dsimp only at h ⊢
  cases e:kI te x<;>rw[e]at h<;>first|exact lZ _ h|cases h
 case call c =>
  dsimp only at h ⊢;simp only[fL]at a
  cases e:c.callee with
  | value f =>
   rw[e]at h a;dsimp only at h ⊢
   cases f with
   | func g =>
    dsimp only[kI]at h ⊢;by_cases j:Bt g=true
    .exact k _ _ _ _ _ j h
    .simp only[j]at a;cases a
   | tmp t=>cases a
   | const v=>cases a
   | global g=>cases a
  | builtin b =>
   rw[e]at h a;dsimp only at h ⊢
   cases b<;>first|(cases a;done)|exact K5 h|exact KZ h
  | _=>rw[e]at a;cases a
def FT{x:XV}(h:vQ t x l=some v)(a:∀i X,en l i=some (some X)->en l' i=some (some X)):vQ t x l'=some v:=by
 unfold vQ at h ⊢;split at h
 .exact h
 .rename_i es i c;split at h
  .rename_i X b;rw[a i X b];exact h
  .cases h
 .cases h
def rX(c:Go.Call):fL (.call c)=0∨fL (.call c)=3∨fL (.call c)=4:=by
 simp only[fL]
 cases d:c.callee with
 | value f =>
  cases f with
  | func g=>dsimp only;by_cases a:Bt g=true<;>simp[a]
  | tmp t=>simp
  | const v=>simp
  | global g=>simp
 | builtin b=>cases b<;>simp
 | _=>simp
def DT{call:d9}(a:fL o.op=1)(h:AR call o te nx l=some r):r.2=(nx,l)/\∀nx' l',(∀i X,en l i=some (some X)->en l' i=some (some X))->AR call o te nx' l'=some (r.1,nx',l'):=by
 unfold AR at h ⊢
 cases b:o.op<;>rw[b]at h a<;>(try (simp[fL]at a;done))
 case load t x =>
  dsimp only at h ⊢;obtain⟨v,d,rfl⟩:=cH.1 h;exact⟨rfl,fun nx' l' e=>by rw[FT d e];rfl⟩
 case call c=>have:=rX c;omega
def LY(h:sW nx l X v=some r):en l nx=ab/\r=(v,nx+1,rE l nx (some X))/\∀l',en l' nx=ab->sW nx l' X v=some (v,nx+1,rE l' nx (some X)):=by
 unfold sW at h;split at h
 .rename_i b
  cases h
  exact⟨b,rfl,fun l' a=>by unfold sW;rw[a]⟩
 .cases h
def KY{call:d9}(q:fL o.op=2)(h:AR call o te nx l=some r):∃X,en l nx=ab/\r=(r.1,nx+1,rE l nx (some X))/\∀l',en l' nx=ab->AR call o te nx l'=some (r.1,nx+1,rE l' nx (some X)):=by
 have key:∀(f:EL->XR),f l=some r->(∃X v,∀l',f l'=sW nx l' X v)->∃X,en l nx=ab/\r=(r.1,nx+1,rE l nx (some X))/\∀l',en l' nx=ab->f l'=some (r.1,nx+1,rE l' nx (some X)):=by
  rintro f s ⟨X,v,u⟩;rw[u]at s;obtain⟨d,rfl,i⟩:=LY s;exact⟨X,d,rfl,fun l' j=>by rw[u];exact i l' j⟩
 unfold AR at h ⊢
 cases A:o.op<;>rw[A]at h q<;>(try (simp[fL]at q;done))
 case alloc t =>
  refine key (fun l=>yh t nx l) h ?_;dsimp only at h;unfold yh at h ⊢
  cases d:zE t with
  | some p=>exact⟨_,_,fun _=>rfl⟩
  | none =>
   rw[d]at h
   cases g:zA t with
   | some p=>exact⟨_,_,fun _=>rfl⟩
   | none=>rw[g]at h;cases h
 case box t x =>
  refine key (fun l=>Lf t (kI te x) nx l) h ?_;dsimp only at h;unfold Lf at h ⊢
  cases d:eK t with
  | none=>rw[d]at h;cases h
  | some p =>
   obtain⟨es,k⟩:=p;rw[d]at h;dsimp only at h ⊢
   cases g:ap k 1 with
   | true =>
    rw[g]at h;dsimp only at h ⊢
    cases i:nj es (kI te x)with
    | true=>exact⟨_,_,fun _=>rfl⟩
    | false=>rw[i]at h;cases h
   | false =>
    rw[g]at h;dsimp only at h ⊢
    cases i:kI te x<;>rw[i]at h<;>dsimp only at h<;>try cases h
    rename_i L
    cases w:(ap L.length k&&ni es L)with
    | true=>exact⟨_,_,fun _=>by dsimp only;rw[w]⟩
    | false=>rw[w]at h;cases h
 case buildSlice t n ps =>
  refine key (fun l=>ma t n (ps.toList.map fun p=>(p.1,kI te p.2)) nx l) h ?_;dsimp only at h;generalize (ps.toList.map fun p=>(p.1,kI te p.2))=qs at *;unfold ma at h ⊢
  cases d:dB t with
  | none=>rw[d]at h;cases h
  | some e =>
   rw[d]at h;dsimp only at h ⊢
   cases g:(qu 0 qs&&ap qs.length n&&je n 16&&(zE e).isSome&&ni (bP e) (qs.map (·.2)))with
   | true=>exact⟨_,_,fun _=>rfl⟩
   | false=>rw[g]at h;cases h
 case makeSlice t x y =>
  refine key (fun l=>DU t (kI te x) (kI te y) nx l) h ?_;dsimp only at h;generalize kI te x=a at *;generalize kI te y=b at *;unfold DU at h ⊢;split at h
  .rename_i e n m B;split at h
   .rename_i es z C;split at h
    .rename_i g;exact⟨⟨e,es,bN n z⟩,.sl es nx 0 n,fun l'=>by simp only[]⟩
    .cases h
   .cases h
  .cases h
 case call c=>have:=rX c;omega
end

noncomputable section
mutual
def oD:XV->Bool
 | .sl ..=>false
 | .ptr ..=>false
 | .lst _ l=>lK l
 | .pat _ x=>oD x
 | .tup l=>lK l
 | .agg l=>lK l
 | .fn _ l=>lK l
 | .int ..=>true
 | .bool _=>true
 | .big _=>true
 | .nil=>true
 | .any=>true
 | .nfn=>true
 | .mfn _ l=>lK l
def lK:List XV->Bool
 | []=>true
 | x::l=>oD x&&lK l
end
mutual
theorem sH{φ ψ:Ph}:∀(x:XV) (a:AV),oD x=true->ER φ x a->ER ψ x a
 | .int ..,_,_,e=>by simpa [ER]using e
 | .bool _,_,_,e=>by simpa [ER]using e
 | .big _,_,_,e=>by simpa [ER]using e
 | .nil,_,_,e=>by simpa [ER]using e
 | .sl ..,_,h,_=>by simp[oD]at h
 | .ptr ..,_,h,_=>by simp[oD]at h
 | .lst _ l,_,h,e=>by
  simp only[ER,oD]at e h ⊢;obtain⟨g,b,c⟩:=e;exact⟨g,b,A9 l g 0 h c⟩
 | .pat _ x,_,h,e=>by
  simp only[ER,oD]at e h ⊢;obtain⟨y,b,c⟩:=e;exact⟨y,b,sH x y h c⟩
 | .tup l,_,h,e=>by
  simp only[ER,oD]at e h ⊢;obtain⟨r,b,c⟩:=e;exact⟨r,b,mN l r h c⟩
 | .agg l,_,h,e=>by
  simp only[ER,oD]at e h ⊢;obtain⟨r,b,c⟩:=e;exact⟨r,b,mN l r h c⟩
 | .fn _ l,_,h,e=>by
  simp only[ER,oD]at e h ⊢;obtain⟨r,b,c⟩:=e;exact⟨r,b,mN l r h c⟩
 | .any,_,_,_=>by simp[ER]
 | .nfn,_,_,e=>by simpa [ER]using e
 | .mfn _ l,_,h,e=>by
  simp only[oD]at h;simp only[ER]at e ⊢;obtain⟨r,b,c⟩:=e;exact⟨r,b,mN l r h c⟩
theorem mN{φ ψ:Ph}:∀(l:List XV) (r:List AV),lK l=true->eZ φ l r->eZ ψ l r
 | [],[],_,_=>by simp[eZ]
 | x::l,a::r,h,e=>by
  simp only[eZ,lK,au]at e h ⊢;exact⟨sH x a h.1 e.1,mN l r h.2 e.2⟩
 | [],_::_,_,e=>by simp[eZ]at e
 | _::_,[],_,e=>by simp[eZ]at e
theorem A9{φ ψ:Ph}:∀(l:List XV) (g:Nat->AV) (k:Nat),lK l=true->lu φ l g k->lu ψ l g k
 | [],_,_,_,_=>by simp[lu]
 | x::l,g,k,h,e=>by
  simp only[lu,lK,au]at e h ⊢;exact⟨sH x _ h.1 e.1,A9 l g (k+1) h.2 e.2⟩
end
def Ph.on(φ ψ:Ph):Ph:=fun i=>match φ i with
 | some _=>ψ i
 | ab=>ab
def Ph.on_le(h:φ.le ψ):φ.le (φ.on ψ):=fun i b e=>by
 unfold Ph.on;rw[e];exact h i b e
mutual
theorem Ng{φ ψ:Ph}:∀(x:XV) (m a:AV),ER φ x m->ER ψ x a->ER (φ.on ψ) x a
 | .int ..,_,_,_,e=>by simpa [ER]using e
 | .bool _,_,_,_,e=>by simpa [ER]using e
 | .big _,_,_,_,e=>by simpa [ER]using e
 | .nil,_,_,_,e=>by simpa [ER]using e
 | .sl ..,_,_,h,e=>by
  simp only[ER]at e h ⊢;obtain⟨n,c,_⟩:=h;obtain⟨b,j,k⟩:=e;exact⟨b,by unfold Ph.on;rw[c];exact j,k⟩
 | .ptr ..,_,_,h,e=>by
  simp only[ER]at e h ⊢;obtain⟨n,c,_⟩:=h;obtain⟨b,j,k⟩:=e;exact⟨b,by unfold Ph.on;rw[c];exact j,k⟩
 | .lst _ l,_,_,h,e=>by
  simp only[ER]at e h ⊢;obtain⟨o,_,f⟩:=h;obtain⟨g,c,d⟩:=e;exact⟨g,c,Ho l o g 0 f d⟩
 | .pat _ x,_,_,h,e=>by
  simp only[ER]at e h ⊢;obtain⟨p,_,f⟩:=h;obtain⟨y,c,d⟩:=e;exact⟨y,c,Ng x p y f d⟩
 | .tup l,_,_,h,e=>by
  simp only[ER]at e h ⊢;obtain⟨i,_,f⟩:=h;obtain⟨r,c,d⟩:=e;exact⟨r,c,z8 l i r f d⟩
 | .agg l,_,_,h,e=>by
  simp only[ER]at e h ⊢;obtain⟨i,_,f⟩:=h;obtain⟨r,c,d⟩:=e;exact⟨r,c,z8 l i r f d⟩
 | .fn _ l,_,_,h,e=>by
  simp only[ER]at e h ⊢;obtain⟨i,_,f⟩:=h;obtain⟨r,c,d⟩:=e;exact⟨r,c,z8 l i r f d⟩
 | .any,_,_,_,_=>by simp[ER]
 | .nfn,_,_,_,e=>by simpa [ER]using e
 | .mfn _ l,_,_,h,e=>by
  simp only[ER]at h e ⊢;obtain⟨i,c,d⟩:=h;obtain⟨r,j,k⟩:=e;exact⟨r,j,z8 l i r d k⟩
theorem z8{φ ψ:Ph}:∀(l:List XV) (b r:List AV),eZ φ l b->eZ ψ l r->eZ (φ.on ψ) l r
 | [],_,[],_,_=>by simp[eZ]
 | x::l,c::b,a::r,h,e=>by
  simp only[eZ]at e h ⊢;exact⟨Ng x c a h.1 e.1,z8 l b r h.2 e.2⟩
 | _::_,[],_,h,_=>by simp[eZ]at h
 | [],_,_::_,_,e=>by simp[eZ]at e
 | _::_,_,[],_,e=>by simp[eZ]at e
theorem Ho{φ ψ:Ph}:∀(l:List XV) (a g:Nat->AV) (k:Nat),lu φ l a k->lu ψ l g k->lu (φ.on ψ) l g k
 | [],_,_,_,_,_=>by simp[lu]
 | x::l,a,g,k,h,e=>by
  simp only[lu]at e h ⊢;exact⟨Ng x _ _ h.1 e.1,Ho l a g (k+1) h.2 e.2⟩
end
def MR.back{S S':St}(h:MR φ l S)(d:φ.le ψ)(h':MR ψ l' S')(f:∀i X,en l i=some (some X)->en l' i=some (some X)):φ.le (φ.on ψ)/\MR (φ.on ψ) l S':=by
 have sub:∀i b,φ.on ψ i=some b->ψ i=some b:=fun i b e=>by
  unfold Ph.on at e
  cases m:φ i with
  | none=>rw[m]at e;cases e
  | some c=>rw[m]at e;exact e
 refine⟨Ph.on_le d,fun i a=>?_,fun i X a=>?_,fun i j X Y b a n ei ej=>?_⟩
 .unfold Ph.on;rw[h.dom i a]
 .obtain⟨t,u,o,_,p⟩:=h.live i X a;have k:en l' i=some (some X):=f _ _ a;obtain⟨b,g,q,r,s⟩:=h'.live i X k;exact⟨b,g,by unfold Ph.on;rw[o];exact q,r,Ho _ _ _ _ p s⟩
 .exact h'.inj i j X Y b (f _ _ a) (f _ _ n) (sub i b ei) (sub j b ej)
def NH{call:d9}(d:mD call){o:Oper}{te:TE}{nx:Nat}{l:EL}{v:XV}{nx':Nat}{l':EL}(h:AR call o te nx l=some (v,nx',l'))(e:oD v=true)(f:∀i X,en l i=some (some X)->en l' i=some (some X)){φ:Ph}(g:GP φ){O:Tm}{S:St}(j:TR φ te O)(c:MR φ l S){K:AV->St->Prop}(k:XK φ v l K):zO o O S K:=by
 refine Cd d h g j c fun ψ z S' a m b=>?_;obtain⟨n,p⟩:=c.back a b f;exact k _ z S' n (sH v z e m) p
end

noncomputable section
mutual
def lE:XV->XV->Bool
 | .int k n,.int k' n'=>decide (k=k')&&decide (n=n')
 | .bool b,.bool c=>decide (b=c)
 | .big z,.big z'=>decide (z=z')
 | .nil,.nil=>true
 | .any,.any=>true
 | .nfn,.nfn=>true
 | .mfn a l,.mfn a' l'=>ap a a'&&nm l l'
 | .sl a b c d,.sl a' b' c' d'=>ap a a'&&ap b b'&&ap c c'&&ap d d'
 | .ptr a b c,.ptr a' b' c'=>ap a a'&&ap b b'&&ap c c'
 | .lst a l,.lst a' l'=>ap a a'&&nm l l'
 | .pat a x,.pat a' x'=>ap a a'&&lE x x'
 | .tup l,.tup l'=>nm l l'
 | .agg l,.agg l'=>nm l l'
 | .fn a l,.fn a' l'=>ap a a'&&nm l l'
 | _,_=>false
def nm:List XV->List XV->Bool
 | [],[]=>true
 | x::l,y::r=>lE x y&&nm l r
 | _,_=>false
end
mutual
theorem zJ:∀(x y:XV),lE x y=true->x=y
 | .int ..,y,h=>by
  cases y<;>simp only[lE,au,fS,bD]at h
  rw[h.1,h.2]
 | .bool _,y,h=>by
  cases y<;>simp only[lE,fS,bD]at h
  rw[h]
 | .big _,y,h=>by
  cases y<;>simp only[lE,fS,bD]at h
  rw[h]
 | .nil,y,h=>by cases y<;>simp only[lE,bD]at h;rfl
 | .any,y,h=>by cases y<;>simp only[lE,bD]at h;rfl
 | .nfn,y,h=>by cases y<;>simp only[lE,bD]at h;rfl
 | .sl ..,y,h=>by
  cases y<;>simp only[lE,au,bD]at h
  rw[ak h.1.1.1,ak h.1.1.2,ak h.1.2,ak h.2]
 | .ptr ..,y,h=>by
  cases y<;>simp only[lE,au,bD]at h
  rw[ak h.1.1,ak h.1.2,ak h.2]
 | .lst _ l,y,h=>by
  cases y<;>simp only[lE,au,bD]at h
  rw[ak h.1,lQ l _ h.2]
 | .pat _ x,y,h=>by
  cases y<;>simp only[lE,au,bD]at h
  rw[ak h.1,zJ x _ h.2]
 | .tup l,y,h=>by
  cases y<;>simp only[lE,bD]at h
  rw[lQ l _ h]
 | .agg l,y,h=>by
  cases y<;>simp only[lE,bD]at h
  rw[lQ l _ h]
 | .mfn _ l,y,h=>by
  cases y<;>simp only[lE,au,bD]at h
  rw[ak h.1,lQ l _ h.2]
 | .fn _ l,y,h=>by
  cases y<;>simp only[lE,au,bD]at h
  rw[ak h.1,lQ l _ h.2]
theorem lQ:∀(l r:List XV),nm l r=true->l=r
 | [],[],_=>rfl
 | x::l,y::r,h=>by
  simp only[nm,au]at h;rw[zJ x y h.1,lQ l r h.2]
 | [],_::_,h=>by simp[nm]at h
 | _::_,[],h=>by simp[nm]at h
end
def Jp:Option (Option EB)->Option (Option EB)->Bool
 | some (some X),some (some Y)=>ap X.ty Y.ty&&ap X.es Y.es&&nm X.l Y.l
 | some (some _),_=>false
 | _,_=>true
def NZ(s:EL):EL->Bool:=EL.rec (motive:=fun _=>EL->Bool) (fun _=>true) (fun _=>true) (fun x _ _ a b s'=>match s' with
 | .n y l r=>Jp x y&&(a l&&b r)
 | _=>false) s
def NY{x:Option (Option EB)}(h:Jp x y=true){X:EB}(d:x=some (some X)):y=some (some X):=by
 subst d
 match y,h with
 | some (some Y),h =>
  simp only[Jp,au]at h;obtain⟨ty,es,l⟩:=X;obtain⟨ty',es',l'⟩:=Y;obtain⟨⟨a,b⟩,c⟩:=h;dsimp only at a b c;rw[ak a,ak b,lQ _ _ c]
 | some ab,h=>simp[Jp]at h
 | ab,h=>simp[Jp]at h
theorem Cs:∀(s s':EL),NZ s s'=true->∀i X,en s i=some (some X)->en s' i=some (some X)
 | .e,_,_,i,X,h=>by rw[yX]at h;cases h
 | .d,_,_,i,X,h=>by rw[Gx]at h;cases h
 | .n x l r,.n y l' r',a,i,X,h=>by
  change (Jp x y&&(NZ l l'&&NZ r r'))=true at a;simp only[au]at a;rw[jI]at h ⊢;split
  .rename_i b;rw[ai b]at h;exact NY a.1 h
  .rename_i b;rw[af b]at h;split
   .rename_i c;rw[ai c]at h;exact Cs l l' a.2.1 _ X h
   .rename_i c;rw[af c]at h;exact Cs r r' a.2.2 _ X h
 | .n _ _ _,.e,a,_,_,_=>by cases a
 | .n _ _ _,.d,a,_,_,_=>by cases a
def xk(call:d9)(o:Oper)(te:TE)(nx:Nat)(l:EL):XR:=match ap (fL o.op) 3 with
 | true=>match AR call o te nx l with
  | some (v,_,l')=>match oD v&&NZ l l' with
   | true=>some (v,nx,l)
   | false=>ab
  | ab=>ab
 | false=>AR call o te nx l
def P2{call:d9}(b:mD call){o:Oper}{te:TE}{nx:Nat}{l:EL}{r:XV×Nat×EL}(h:xk call o te nx l=some r){φ:Ph}(c:GP φ){O:Tm}{S:St}(d:TR φ te O)(e:MR φ l S){K:AV->St->Prop}(f:XK φ r.1 r.2.2 K):zO o O S K:=by
 unfold xk at h;split at h
 .split at h
  .rename_i v nx' l' g;split at h
   .rename_i a
    cases h
    simp only[au]at a;exact NH b g a.1 (Cs _ _ a.2) c d e f
   .cases h
  .cases h
 .exact Cd b h c d e f
def DZ{call:d9}(h:FG te te' (CC o.op)):xk call o te nx l=xk call o te' nx l:=by
 unfold xk;rw[Jb h]
def uW(ops:Array Oper)(te:TE)(j:Nat):XV:=match (ops[j]?).bind (·.dst)with
 | some d=>jF te d
 | ab=>.any
def xg(call:d9)(ops:Array Oper)(o:Oper)(te:TE)(nx:Nat)(l:EL):XR:=match o.guard with
 | ab=>xk call o te nx l
 | some (j,want)=>match uW ops te j with
  | .bool b=>if b=want then xk call o te nx l else some (.any,nx,l)
  | _=>ab
def qo(ops:Array Oper)(o:Oper):List Nat:=(match o.guard with
 | ab=>[]
 | some (j,_)=>(match (ops[j]?).bind (·.dst)with
  | some d=>[d]
  | ab=>[]))++CC o.op
def xg_ok{call:d9}(n:mD call){ops:Array Oper}{o:Oper}{te:TE}{nx:Nat}{l:EL}{r:XV×Nat×EL}(h:xg call ops o te nx l=some r){φ:Ph}(q:GP φ){O:Tm}{S:St}(a:TR φ te O)(c:MR φ l S){K:Tm->St->Prop}
  (f:∀ψ z S',φ.le ψ->ER ψ r.1 z->MR ψ r.2.2 S'->K (O.put o.dst z) S'):Di ops o O S K:=by
 unfold xg at h;unfold Di
 cases s:o.guard with
 | none =>
  rw[s]at h;exact P2 n h q a c fun ψ z S' g i k=>f ψ z S' g i k
 | some p =>
  obtain⟨j,want⟩:=p;rw[s]at h;dsimp only at h ⊢;have m:ER φ (uW ops te j) (DD ops O j):=by
   unfold uW DD
   cases (ops[j]?).bind (·.dst)with
   | none=>simp[ER]
   | some d=>exact a d
  cases t:uW ops te j<;>rw[t]at h<;>try cases h
  rename_i b;rw[t]at m;simp only[ER]at m;rw[m];dsimp only at h ⊢;refine⟨fun e=>?_,fun e=>?_⟩
  .rw[ai e]at h;exact P2 n h q a c fun ψ z S' g i k=>f ψ z S' g i k
  .rw[af (by rw[e];cases want<;>simp)]at h
   cases h
   exact f φ .any S (Ph.le_refl _) (by simp[ER]) c
def K8{call:d9}(h:FG te te' (qo ops o)):xg call ops o te nx l=xg call ops o te' nx l:=by
 unfold xg;unfold qo at h
 cases b:o.guard with
 | none=>exact DZ h.right
 | some p =>
  obtain⟨j,want⟩:=p;rw[b]at h;dsimp only;have e:uW ops te j=uW ops te' j:=by
   unfold uW;have a:=h.left;dsimp only at a
   cases c:(ops[j]?).bind (·.dst)with
   | none=>rfl
   | some d=>rw[c]at a;exact a d (Tb.2 rfl)
  rw[e,DZ h.right]
end

end Go.Proofs.YtdobfmlmenaajaaGreatDoor
