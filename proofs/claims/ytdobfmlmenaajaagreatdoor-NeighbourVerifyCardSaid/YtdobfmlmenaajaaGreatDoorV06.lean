/-
  Lemmas for NeighbourVerify.
-/
import Derived.Test.YtdobfmlmenaajaaGreatDoorV05
import Derived.Lib.AppendZerosOnto
namespace Go.Proofs.YtdobfmlmenaajaaGreatDoor
open Go.RowKit Tryz
open _root_.List renaming replicate→bZ
open _root_.Option renaming none→ab
open Tryz renaming prog→ai
set_option maxHeartbeats 6400000
set_option maxRecDepth 4096
set_option linter.all false
variable{s x y:AV}{K:AV->Prop}{a:Act}{fi:Array Operand}{Q:Exit->Act->World->Prop}{k:IntKind}{ps:List (Nat×AV)}{vs:List Value}{N f len n:Nat}{g h:Nat->AV}{M:Nat->Prop}{o:Oper}{S:St}{O:Tm}{d t t' ty:TypeId}{op:UnOp}{v z:Value}{w w':World}
def yZ{e:TypeId}(h:(gM e).isSome=true):∃x z,gM e=some (cg e,x,z):=by
 unfold gM at h ⊢;split at h<;>first|exact⟨_,_,rfl⟩|cases h
def Jg(S:St)(b:Nat)(X:ft):(S.del b).upd b X=S.upd b X:=by
 funext k;simp only[St.del,St.upd];split<;>rfl
def ob(z:Array Value)(n:Nat):(Builtin.zeroCells z n).size=n*z.size:=by simp[Builtin.zeroCells]
def lY{es m:Nat}{cs:Array Value}
  (a:∀j,j<len->∃u,reads cs (es*j) es u/\bM w M (g j) u) (i:a6 w M (eG h 0 m) vs) (d:∀j,j<m->eO es (h j))
  (b:∀q,q<es*m->cs[es*len+q]? = (vs.flatMap (fun u=>u.cells.toList))[q]?) :
  ∀j,j<len+m->∃u,reads cs (es*j) es u/\bM w M (nL g len m h j) u:=by
 intro j l;by_cases c:j<len
 .rw[D7 c];exact a j c
 .rw[yP om l];obtain⟨_,_,_,n⟩:=iQ (es:=es) (eG h 0 m) vs i (fun z o=>by
   obtain⟨k,p,rfl⟩:=pJ h m 0 z o;rw[az];exact d k p)
  obtain⟨u,e,r⟩:=n (j-len) (by rw[kL];omega)
  rw[tq _ _ _ _ om,az]at e;refine⟨u,?_,e⟩;have:=r cs (es*len) (fun q f=>b q (by rw[kL]at f;exact f))
  rw[<-cj,(om:len+(j-len)=j)]at this
  exact this
def BG{K:AV->St->Prop}(h:gP t t' s x S K){w:World}(J:fI w S){vs vx:Value}(E:bM w S.dom s vs)(hx:bM w S.dom x vx) :
  Eu (Builtin.append_ #[t,t'] ty #[vs,vx]) w S K:=by
 unfold gP at h
 cases he:dY t with
 | none=>rw[he]at h;exact h.elim
 | some e =>
  rw[he]at h;obtain⟨rfl,hze,h⟩:=h;obtain⟨zx,zv,hz⟩:=yZ hze;obtain⟨Z,i,hi,l⟩:=jE he;obtain⟨i',g1,g2,g3,g4,g5,g6,g7,g8⟩:=py hz;rw[hi]at g1;cases g1
  cases O:Bj S x with
  | none=>rw[O]at h;exact h.elim
  | some p =>
   obtain⟨es,m,f,o⟩:=p;rw[O]at h;obtain⟨rfl,hm,F,h⟩:=h;obtain⟨xb,xo,xc,us,rfl,u1,L,u3⟩:=Cz J hx O hm;obtain⟨_,_,l3,_⟩:=iQ (es:=cg e) (eG f 0 m) us u1 (fun z hz=>by
    obtain⟨k,hk,rfl⟩:=pJ f m 0 z hz;rw[az];exact F k hk)
   generalize Q:us.flatMap (fun u=>u.cells.toList)=fl at *;have r:fl.length=m*i.size:=by rw[L,l,aA]
   have hnews:∀j v,fl[j]? = some v->w.cell? ((⟨xb,xo,ab⟩:Addr).add j)=some v:=fun j v A=>by
    rw[iU,u3 j (by rw[<-L];exact(eJ.1 A).1)];exact A
   have R:∀(k:Nat) (y:Value),fl[k]? = some y->mc y:=fun k y d=>(l3 y (fT d)).2;have hmb:m*i.bytes<=32*m:=by rw[aA];exact aD _ g4
   cases s with
   | nil =>
    simp only at h;obtain⟨hm2,hK⟩:=h;simp only[bM]at E;subst E;have a:=run_append_nil (P:=ai) w t ty e i zv Z hi g2 ⟨xb,xo,ab⟩ m xc fl r hnews hm om om;have c:=Vj w m 0 e;generalize grownCap w m 0 e=cap at a c;have hsize:(fl.toArray++Builtin.zeroCells zv.cells (cap-m)).size=cg e*cap:=by
     rw[ip,ob,ct,L,g6,aA (cap-m),<-cj,(om:m+(cap-m)=cap)]
    have B:=lY (w:=w.drew) (M:=S.dom) (es:=cg e) (len:=0) (m:=m) (g:=f) (h:=f) (cs:=fl.toArray++Builtin.zeroCells zv.cells (cap-m)) (vs:=us) (fun j A=>om) (a6.grow J.noU (dI.drew _ w) _ _ u1) F (fun q G=>by
     rw[d7,az,Q,fo (by rw[ct,L];exact G)];simp)
    obtain⟨n1,n2,n3⟩:=fI.new (w:=w.drew) J.drew (X:=⟨e,cg e,m,f⟩) (cs:=fl.toArray++Builtin.zeroCells zv.cells (cap-m)) (by rw[hsize];exact aL _ c)
     (fun j A=>by have:=B j (by simpa using A);rw[yP om (by simpa using A)]at this;simpa using this) (fun k y d=>by
      rw[lw]at d;split at d
      .exact R k y (by simpa using d)
      .exact o6 g7 (g8 w S.dom) _ _ _ d)
    refine⟨_,_,_,_,hK _ n1,?_,n2,(dI.drew S.dom w).trans n3,a⟩;simp only[bM];exact⟨cap,_,e,(0,0),by rw[d7];rfl,c,jJ w.drew _,by rw[hsize,az];exact ae _⟩
   | sl es' b off len =>
    simp only at h
    cases hX:S b with
    | none=>rw[hX]at h;exact h.elim
    | some X =>
     rw[hX]at h;obtain⟨rfl,rfl,H,hes,hn,hmax,hob,hK⟩:=h;simp only[bM,d7,az]at E;obtain⟨cap,cs',ty',fr',rfl,hlc,T,C⟩:=E;obtain⟨cs,W,hcsz,A,hcu⟩:=J b X hX;rw[W]at T;simp only[fv,Obj.cells.injEq]at T;obtain⟨rfl,rfl,rfl⟩:=T;rw[hes,hn]at A hcsz;rw[H]at W;by_cases hroom:len+m<=cap
     .have hf:=Dp (P:=ai) w i.size m ⟨xb,xo,ab⟩ m xc fl r hnews;have n:cg e*len+fl.length<=cs.size:=by
       rw[L,<-cj];exact a9 (aL _ hroom) C
      have N:=kz ai (b:=b) (off:=len*i.size) (ty:=e) fl w cs 0 W (by rw[l,cN,aA];exact n) (fun u Z=>(l3 u Z).1)
      rw[cN]at N;have a:(Builtin.append_ #[t,t] ty #[.slice (some ⟨b,0,ab⟩) len cap,.slice (some ⟨xb,xo,ab⟩) m xc]).run ai w=.ok (.slice (some ⟨b,0,ab⟩) (len+m) cap) (gj w b (fA cs (len*i.size) fl) e):=by
       simp[Builtin.append_,bO Z,sizeOf,typeInfo,hi,Builtin.lenOf,hroom,hf,iU,N]
      have hcsn:∀q,q<cg e*m->(fA cs (len*i.size) fl)[cg e*len+q]? = fl[q]?:=fun q G=>by
       rw[iS _ _ _ _ (by rw[l,aA];exact n),ah (by rw[l,L,aA len];omega)]
       rw[show cg e*len+q-len*i.size=q by rw[l,aA len];omega]
      have B:=lY (w:=w) (M:=S.dom) (es:=cg e) (len:=len) (m:=m) (g:=X.g) (h:=f) (cs:=fA cs (len*i.size) fl) (vs:=us) (fun j D=>by
       obtain⟨u,h5,h6⟩:=A j D;refine⟨u,lg h5 (fun q G=>?_),h6⟩;rw[iS _ _ _ _ (by rw[l,aA];exact n),af]
       rw[l,aA len];have:cg e*(j+1)<=cg e*len:=aL _ D;rw[eA]at this;omega) u1 F (fun q G=>by rw[Q];exact hcsn q G)
      have U:=fI.write J hX (X':=⟨e,cg e,len+m,nL X.g len m f⟩) (cs:=cs) (cs':=fA cs (len*i.size) fl) (by rw[H];exact W) (iJ _ _ _) H.symm (by
        rw[iJ];exact a9 (aL _ hroom) C) B (fun k y d=>by
        rw[iS _ _ _ _ (by rw[l,aA];exact n)]at d
        split at d
        .exact R _ y d
        .exact hcu k y d)
      rw[H]at U;have hK':=hK b (bW rfl);rw[Jg]at hK';refine⟨_,_,_,_,hK',?_,U.1,U.2,a⟩;simp only[bM,d7,az];exact⟨cap,fA cs (len*i.size) fl,e,(0,0),rfl,hroom,by rw[jP (gJ W),ah rfl],by rw[iJ];exact C⟩
     .obtain⟨os,o1,I,o3⟩:=oh A len 0 om;generalize hol:os.flatMap (fun u=>u.cells.toList)=ol at *;have hob2:(len+m)*i.bytes<=32*(len+m):=by rw[aA];exact aD _ g4
      have a:=run_append_grow (P:=ai) w t ty e i zv Z hi g2 ⟨b,0,ab⟩ len cap ol (by rw[I,l,aA]) (fun j v hjv=>by
        rw[iU,oT W];have:=o3 j (by rw[<-I];exact(eJ.1 hjv).1)
        rw[d7]at this;rw[this];exact hjv) ⟨xb,xo,ab⟩ m xc fl r hnews om om (growslice_fits om om)
      have c:=Vj w (len+m) cap e;generalize grownCap w (len+m) cap e=cap2 at a c;have hsize:(ol.toArray++fl.toArray++Builtin.zeroCells zv.cells (cap2-(len+m))).size=cg e*cap2:=by
       rw[ip,ip,ob,ct,ct,L,I,g6,aA (cap2-(len+m)),<-cj,<-cj,(om:len+m+(cap2-(len+m))=cap2)]
      have V:∀q,q<cg e*len->(ol.toArray++fl.toArray++Builtin.zeroCells zv.cells (cap2-(len+m)))[q]? = ol[q]?:=fun q G=>by
       rw[fo (by rw[ip,ct,I];omega),fo (by rw[ct,I];exact G)];simp
      have B:=lY (w:=w.drew) (M:=S.dom) (es:=cg e) (len:=len) (m:=m) (g:=X.g) (h:=f) (cs:=ol.toArray++fl.toArray++Builtin.zeroCells zv.cells (cap2-(len+m))) (vs:=us) (fun j D=>by
        obtain⟨u,h5,h6⟩:=A j D;refine⟨u,lg h5 (fun q G=>?_),bM.grow J.noU (dI.drew _ w) _ _ h6⟩;have hql:cg e*j+q<cg e*len:=by
         have:cg e*(j+1)<=cg e*len:=aL _ D;rw[eA]at this;omega
        rw[V _ hql,<-o3 _ hql,d7,az]) (a6.grow J.noU (dI.drew _ w) _ _ u1) F (fun q G=>by
        rw[Q,fo (by rw[ip,ct,ct,I,L];omega),Mc (by rw[ct,I];omega),ct,I,(om:cg e*len+q-cg e*len=q)];simp)
      have holu:∀(k:Nat) (y:Value),ol[k]? = some y->mc y:=fun k y d=>by
       have hk:k<ol.length:=(eJ.1 d).1;have:=o3 k (by rw[<-I];exact hk)
       rw[d]at this;exact hcu _ y this
      obtain⟨n1,n2,n3⟩:=fI.new (w:=w.drew) J.drew (X:=⟨e,cg e,len+m,nL X.g len m f⟩) (cs:=ol.toArray++fl.toArray++Builtin.zeroCells zv.cells (cap2-(len+m))) (by rw[hsize];exact aL _ c) B (fun k y d=>by
        rw[lw]at d;split at d
        .rw[lw]at d;split at d
         .exact holu k y (by simpa using d)
         .exact R _ y (by simpa using d)
        .exact o6 g7 (g8 w S.dom) _ _ _ d)
      have hless:=fI.less n2 (S':=(S.del b).upd w.drew.heap.size ⟨e,cg e,len+m,nL X.g len m f⟩) (fun k Y hY=>by
       simp only[St.upd]at hY ⊢;split at hY
       .rename_i e1;rw[ah e1];exact hY
       .rename_i e1;rw[af e1];exact F0 S b k Y hY)
      refine⟨_,_,_,_,hK _ (bQ n1),?_,hless.1,((dI.drew S.dom w).trans n3).weaken hless.2,a⟩;simp only[bM,d7,az];exact⟨cap2,_,e,(0,0),rfl,c,jJ w.drew _,by rw[hsize];exact ae _⟩
   | _=>exact h.elim

def y5(z:Value)(n:Nat):Builtin.zeroCells z.cells n=((bZ n z).flatMap (fun u=>u.cells.toList)).toArray:=nG z n
theorem sO{w:World}{M:Nat->Prop}{x:AV}{z:Value}(h:bM w M x z):∀n k,a6 w M (eG (fun _=>x) k n) (bZ n z)
 | 0,_=>by simp[eG,a6]
 | n+1,k=>by simp only[eG,kt,a6];exact⟨h,sO h n (k+1)⟩
def oE(t:TypeId)(s x:AV)(S:St)(K:AV->St->Prop):Prop:=match s,x with
 | .sl es b off len,.int _ (.ofNat m)=>(match dY t,S b with
  | some e,some X=>(match gM e with
   | some (es',z,_)=>es'=es/\es=cg e/\off=0/\X.ty=e/\X.es=es/\X.n=len/\1<=m/\len+m<=1048576 /\
    ∀b',(b'=b∨S b'=ab)->K (.sl es b' 0 (len+m)) ((S.del b).upd b' ⟨e,es,len+m,nL X.g len m (fun _=>z)⟩)
   | ab=>False)
  | _,_=>False)
 | _,_=>False
def AT{K:AV->St->Prop}(h:oE t s x S K){w:World}(N:fI w S){vs vx:Value}(O:bM w S.dom s vs)(hx:bM w S.dom x vx) :
  Eu (Builtin.append_ #[t,3] ty #[vs,vx]) w S K:=by
 unfold oE at h;split at h
 .rename_i es0 b off len k m
  cases he:dY t with
  | none=>rw[he]at h;exact h.elim
  | some e =>
  cases hX:S b with
  | none=>rw[he,hX]at h;exact h.elim
  | some X =>
   rw[he,hX]at h;simp only at h
   cases Q:gM e with
   | none=>rw[Q]at h;exact h.elim
   | some p =>
   obtain⟨es',zx,zv⟩:=p;rw[Q]at h;obtain⟨rfl,rfl,rfl,A,hes,hn,hm,hmax,hK⟩:=h;obtain⟨hu,i,hi,a⟩:=jE he;obtain⟨i',g1,g2,g3,g4,g5,g6,g7,g8⟩:=py Q;rw[hi]at g1;cases g1;have h3u:=underlying3;simp only[bM]at hx;subst hx;have hx3:Int.ofNat m=(m:Int):=rfl;rw[hx3];have R:m≠0:=om
   have u1:=sO (g8 w S.dom) m 0;generalize hff:(fun _:Nat=>zx)=f at *;have D:∀j,j<m->eO (cg e) (f j):=fun j T=>by rw[<-hff];exact g7
   obtain⟨_,U,l3,_⟩:=iQ (es:=cg e) (eG f 0 m) (bZ m zv) u1 (fun z Q=>by
    obtain⟨k,hk,rfl⟩:=pJ f m 0 z Q;rw[az];exact D k hk)
   have V:=y5 zv m;generalize hus:bZ m zv=us at *;generalize W:us.flatMap (fun u=>u.cells.toList)=fl at *;rw[kL]at U;have Z:∀(k:Nat) (y:Value),fl[k]? = some y->mc y:=fun k y c=>(l3 y (fT c)).2;have hwm:IntKind.i64.wrap (m:Int)=m:=by rw[mC];omega
   have hmb:m*i.bytes<=32*m:=by rw[aA];exact aD _ g4
   have hib:¬(281474976710656<(m:Int)*(i.bytes:Int)):=by rw[<-bF];omega
   have hm0:¬((m:Int)<0):=om
   have hi1:i.size≠0:=by rw[a];unfold cg;split<;>omega
   simp only[bM,d7,az]at O;obtain⟨cap,cs',ty',fr',rfl,hlc,E,n⟩:=O;obtain⟨cs,L,hcsz,T,hcu⟩:=N b X hX;rw[L]at E;simp only[fv,Obj.cells.injEq]at E;obtain⟨rfl,rfl,rfl⟩:=E;rw[hes,hn]at T hcsz;rw[A]at L;by_cases hroom:len+m<=cap
   .have R:m≠0:=om
    have l:cg e*len+fl.length<=cs.size:=by
     rw[U,<-cj];exact a9 (aL _ hroom) n
    have C:=kz ai (b:=b) (off:=len*i.size) (ty:=e) fl w cs 0 L (by rw[a,cN,aA];exact l) (fun u hu=>(l3 u hu).1)
    rw[cN]at C;have F:(storeCells ⟨b,len*i.size,ab⟩ fl).run ai w=.ok () (gj w b (fA cs (len*i.size) fl) e):=C;have d:(Builtin.append_ #[t,3] ty #[.slice (some ⟨b,0,ab⟩) len cap,.int k (m:Int)]).run ai w=.ok (.slice (some ⟨b,0,ab⟩) (len+m) cap) (gj w b (fA cs (len*i.size) fl) e):=by
     simp[Builtin.append_,bO hu,bO h3u,sizeOf,typeInfo,hi,asInt,asIntOf,hwm,hm0,hib,zeroValue,g2,V,hroom,iU,F];intro h0;exact absurd h0 (Nat.mul_ne_zero R hi1)
    have hcsn:∀q,q<cg e*m->(fA cs (len*i.size) fl)[cg e*len+q]? = fl[q]?:=fun q G=>by
     rw[iS _ _ _ _ (by rw[a,aA];exact l),ah (by rw[a,U,aA len];omega)]
     rw[show cg e*len+q-len*i.size=q by rw[a,aA len];omega]
    have H:=lY (w:=w) (M:=S.dom) (es:=cg e) (len:=len) (m:=m) (g:=X.g) (h:=f) (cs:=fA cs (len*i.size) fl) (vs:=us) (fun j o=>by
     obtain⟨u,h5,h6⟩:=T j o;refine⟨u,lg h5 (fun q G=>?_),h6⟩;rw[iS _ _ _ _ (by rw[a,aA];exact l),af]
     rw[a,aA len];have:cg e*(j+1)<=cg e*len:=aL _ o;rw[eA]at this;omega) u1 D (fun q G=>by rw[W];exact hcsn q G)
    have I:=fI.write N hX (X':=⟨e,cg e,len+m,nL X.g len m f⟩) (cs:=cs) (cs':=fA cs (len*i.size) fl) (by rw[A];exact L) (iJ _ _ _) A.symm (by
      rw[iJ];exact a9 (aL _ hroom) n) H (fun k y c=>by
      rw[iS _ _ _ _ (by rw[a,aA];exact l)]at c
      split at c
      .exact Z _ y c
      .exact hcu k y c)
    rw[A]at I;have hK':=hK b (bW rfl);rw[Jg]at hK';refine⟨_,_,_,_,hK',?_,I.1,I.2,d⟩;simp only[bM,d7,az];exact⟨cap,fA cs (len*i.size) fl,e,(0,0),rfl,hroom,by rw[jP (gJ L),ah rfl],by rw[iJ];exact n⟩
   .obtain⟨os,o1,B,o3⟩:=oh T len 0 om;generalize hol:os.flatMap (fun u=>u.cells.toList)=ol at *;have hob2:(len+m)*i.bytes<=32*(len+m):=by rw[aA];exact aD _ g4
    have d:=Lib.run_append_grow_zeros (P:=ai) w t 3 ty e i zv k .i64 hu h3u hi g2 (some ⟨b,0,ab⟩) len cap ol (Dp (P:=ai) w.drew i.size len ⟨b,0,ab⟩ len cap ol (by rw[B,a,aA]) (fun j v hjv=>by
      rw[iU];have hbd:w.drew.heap[b]? = some (.cells cs e (0,0)):=L;rw[oT hbd];have:=o3 j (by rw[<-B];exact(eJ.1 hjv).1)
      rw[d7]at this;rw[this];exact hjv)) m om (by rw[a];unfold cg;split<;>omega) om om om (growslice_fits om om)
    rw[V]at d;have r:=Vj w (len+m) cap e;generalize grownCap w (len+m) cap e=cap2 at d r;have hsize:(ol.toArray++fl.toArray++Builtin.zeroCells zv.cells (cap2-(len+m))).size=cg e*cap2:=by
     rw[ip,ip,ob,ct,ct,U,B,g6,aA (cap2-(len+m)),<-cj,<-cj,(om:len+m+(cap2-(len+m))=cap2)]
    have J:∀q,q<cg e*len->(ol.toArray++fl.toArray++Builtin.zeroCells zv.cells (cap2-(len+m)))[q]? = ol[q]?:=fun q G=>by
     rw[fo (by rw[ip,ct,B];omega),fo (by rw[ct,B];exact G)];simp
    have H:=lY (w:=w.drew) (M:=S.dom) (es:=cg e) (len:=len) (m:=m) (g:=X.g) (h:=f) (cs:=ol.toArray++fl.toArray++Builtin.zeroCells zv.cells (cap2-(len+m))) (vs:=us) (fun j o=>by
      obtain⟨u,h5,h6⟩:=T j o;refine⟨u,lg h5 (fun q G=>?_),bM.grow N.noU (dI.drew _ w) _ _ h6⟩;have hql:cg e*j+q<cg e*len:=by
       have:cg e*(j+1)<=cg e*len:=aL _ o;rw[eA]at this;omega
      rw[J _ hql,<-o3 _ hql,d7,az]) (a6.grow N.noU (dI.drew _ w) _ _ u1) D (fun q G=>by
      rw[W,fo (by rw[ip,ct,ct,B,U];omega),Mc (by rw[ct,B];omega),ct,B,(om:cg e*len+q-cg e*len=q)];simp)
    have holu:∀(k:Nat) (y:Value),ol[k]? = some y->mc y:=fun k y c=>by
     have hk:k<ol.length:=(eJ.1 c).1;have:=o3 k (by rw[<-B];exact hk)
     rw[c]at this;exact hcu _ y this
    obtain⟨n1,n2,n3⟩:=fI.new (w:=w.drew) N.drew (X:=⟨e,cg e,len+m,nL X.g len m f⟩) (cs:=ol.toArray++fl.toArray++Builtin.zeroCells zv.cells (cap2-(len+m))) (by rw[hsize];exact aL _ r) H (fun k y c=>by
      rw[lw]at c;split at c
      .rw[lw]at c;split at c
       .exact holu k y (by simpa using c)
       .exact Z _ y (by simpa using c)
      .exact o6 g7 (g8 w S.dom) _ _ _ c)
    have hless:=fI.less n2 (S':=(S.del b).upd w.drew.heap.size ⟨e,cg e,len+m,nL X.g len m f⟩) (fun k Y hY=>by
     simp only[St.upd]at hY ⊢;split at hY
     .rename_i e1;rw[ah e1];exact hY
     .rename_i e1;rw[af e1];exact F0 S b k Y hY)
    refine⟨_,_,_,_,hK _ (bQ n1),?_,hless.1,((dI.drew S.dom w).trans n3).weaken hless.2,d⟩;simp only[bM,d7,az];exact⟨cap2,_,e,(0,0),rfl,r,jJ w.drew _,by rw[hsize];exact ae _⟩
 .exact h.elim

def vj(len:Nat)(lo hi mx:Option AV)(K:Nat->Nat->Prop):Prop :=
 ∃l h:Nat,(match lo with|ab=>l=0|some (.int _ a)=>a=(l:Int)|_=>False)/\(match hi with|ab=>h=len|some (.int _ a)=>a=(h:Int)|_=>False) /\
  (match mx with|ab=>True|some (.int _ a)=>(h:Int)<=a/\a<=(len:Int)/\hi.isSome=true|_=>False)/\l<=h/\h<=len/\K l h
def kG(t:TypeId)(x:AV)(lo hi mx:Option AV)(K:AV->Prop):Prop:=match dY t,x with
 | some e,.sl es b off len=>es=cg e/\vj len lo hi mx (fun l h=>K (if l=0∨l<h then .sl es b (off+l) (h-l)else .lst es 0 (fun _=>.any)))
 | some e,.lst es n g=>es=cg e/\vj n lo hi mx (fun l h=>K (.lst es (h-l) (fun j=>g (l+j))))
 | some _,.nil=>vj 0 lo hi mx (fun _ _=>K .nil)
 | _,_=>False
def tK(w:World)(M:Nat->Prop):Option AV->Option Value->Prop
 | ab,ab=>True
 | some x,some v=>bM w M x v
 | _,_=>False
def tu{cap:Nat}(B:len<=cap){lo j mx:Option AV}{K:Nat->Nat->Prop}(h:vj len lo j mx K){vl vh vm:Option Value}(b:tK w M lo vl)(f:tK w M j vh)(o:tK w M mx vm) :
  ∃l h m:Nat,K l h/\l<=h/\h<=len/\h<=m/\m<=cap/\(Instr.sliceBounds true len cap vl vh vm).run ai w=.ok (l,h,m) w:=by
 obtain⟨l,h,d,e,p,g,q,r⟩:=h;have bnd:∀(a:Int) (k:IntKind) (n:Nat) (y:Nat) (c:BoundsCode),a=(n:Int)->n<=y->(Instr.sliceBound (.int k a) y c).run ai w=.ok n w:=by
  intro a k n y c s t;subst s;have:(0:Int)<=n/\(n:Int)<=(y:Int):=om
  simp[Instr.sliceBound,asIntOf,t]
 cases mx with
 | none =>
  cases vm with
  | some _=>exact o.elim
  | none =>
   refine⟨l,h,cap,r,g,q,om,ae _,?_⟩
   cases j with
   | none =>
    cases vh with
    | some _=>exact f.elim
    | none =>
     simp only at e;subst e
     cases lo with
     | none =>
      cases vl with
      | some _=>exact b.elim
      | none=>simp only at d;subst d;simp[Instr.sliceBounds]
     | some x =>
      cases vl with
      | none=>exact b.elim
      | some v =>
       cases x<;>simp only at d
       simp only[tK,bM]at b;subst b;simp[Instr.sliceBounds,bnd _ _ l h _ d g]
   | some y =>
    cases vh with
    | none=>exact f.elim
    | some u =>
     cases y<;>simp only at e
     simp only[tK,bM]at f;subst f
     cases lo with
     | none =>
      cases vl with
      | some _=>exact b.elim
      | none=>simp only at d;subst d;simp[Instr.sliceBounds,bnd _ _ h cap _ e om]
     | some x =>
      cases vl with
      | none=>exact b.elim
      | some v =>
       cases x<;>simp only at d
       simp only[tK,bM]at b;subst b;simp[Instr.sliceBounds,bnd _ _ h cap _ e om,bnd _ _ l h _ d g]
 | some z =>
  cases vm with
  | none=>exact o.elim
  | some C =>
   cases z<;>simp only at p
   rename_i km am;simp only[tK,bM]at o;subst o;obtain⟨D,E,A⟩:=p
   cases j with
   | none=>simp at A
   | some y =>
    cases vh with
    | none=>exact f.elim
    | some u =>
     cases y<;>simp only at e
     simp only[tK,bM]at f;subst f;refine⟨l,h,am.toNat,r,g,q,om,om,?_⟩
     have i:=bnd am km am.toNat cap .slice3Acap om om
     cases lo with
     | none =>
      cases vl with
      | some _=>exact b.elim
      | none=>simp only at d;subst d;simp[Instr.sliceBounds,i,bnd _ _ h am.toNat _ e om]
     | some x =>
      cases vl with
      | none=>exact b.elim
      | some v =>
       cases x<;>simp only at d
       simp only[tK,bM]at b;subst b;simp[Instr.sliceBounds,i,bnd _ _ h am.toNat _ e om,bnd _ _ l h _ d g]
def uW{lo hi mx:Option AV}(h:kG t x lo hi mx K){w:World}{M:Nat->Prop}{v:Value}{vl vh vm:Option Value}(k:bM w M x v)(y:tK w M lo vl)(B:tK w M hi vh)(C:tK w M mx vm) :
  ∃z u,K z/\bM w M z u/\(Instr.sliceAt t v vl vh vm).run ai w=.ok u w:=by
 unfold kG at h;split at h
 .rename_i e es b off len o;obtain⟨rfl,D⟩:=h;obtain⟨p,i,c,s⟩:=jE o;simp only[bM]at k;obtain⟨cap,cs,ty,fr,rfl,E,hheap,F⟩:=k;obtain⟨l,h,m,q,J,L,N,O,a⟩:=tu E D y B C;have d:(Instr.sliceAt t (.slice (some ⟨b,cg e*off,ab⟩) len cap) vl vh vm).run ai w=.ok (.slice (if m=l then some ⟨b,cg e*off,ab⟩else some ⟨b,cg e*off+l*cg e,ab⟩) (h-l) (m-l)) w:=by
   simp[Instr.sliceAt,bO p,Instr.slice,a,de c,s,iU]
  refine⟨_,_,q,?_,d⟩;by_cases f:l=0∨l<h
  .rw[ah f];simp only[bM];refine⟨m-l,cs,ty,fr,?_,om,hheap,a9 (aL _ om) F⟩
   rcases f with rfl|f
   .simp
   .rw[af om,cj,aA l]
  .rw[af f];simp only[bM];exact⟨_,m-l,by rw[(om:h-l=0)],om,fun P=>absurd P om⟩
 .rename_i e es n g o;obtain⟨rfl,D⟩:=h;obtain⟨p,i,c,s⟩:=jE o;simp only[bM]at k;obtain⟨A,cap,rfl,E,G⟩:=k;obtain⟨l,h,m,q,J,L,N,O,a⟩:=tu E D y B C;have d:(Instr.sliceAt t (.slice A n cap) vl vh vm).run ai w=.ok (.slice (if m=l then A else A.map (·.add (l*cg e))) (h-l) (m-l)) w:=by
   simp[Instr.sliceAt,bO p,Instr.slice,a,de c,s]
  refine⟨_,_,q,?_,d⟩;simp only[bM];refine⟨_,m-l,rfl,om,fun P=>?_⟩
  obtain⟨b,off,rfl,H,Q,R⟩:=G om;rw[af om];refine⟨b,off+l*cg e,by simp[iU],H,Q,fun j S=>?_⟩
  obtain⟨u,r,I⟩:=R (l+j) om;refine⟨u,?_,I⟩;rw[cj,aA (cg e) l,<-lk]at r;exact r
 .rename_i e o;obtain⟨p,i,c,s⟩:=jE o;simp only[bM]at k;subst k;obtain⟨l,h',m,q,J,L,N,O,a⟩:=tu (ae 0) h y B C;obtain rfl:l=0:=om
  obtain rfl:h'=0:=om
  obtain rfl:m=0:=om
  exact⟨_,.slice ab 0 0,q,by simp[bM],by simp[Instr.sliceAt,bO p,Instr.slice,a,de c]⟩
 .exact h.elim
def Eb(t:TypeId)(x:AV)(K:AV->Prop):Prop:=match dY t,x with
 | some _,.sl _ _ _ len=>K (.int .i64 len)
 | some _,.lst _ n _=>K (.int .i64 n)
 | some _,.nil=>K (.int .i64 0)
 | ab,.mag n=>t=48/\K (.int .i64 (nl n))
 | _,_=>False
def AQ(h:Eb t x K){w:World}{M:Nat->Prop}{v:Value}(a:bM w M x v) :
  ∃z u,K z/\bM w M z u/\(Builtin.len_ #[t] ty #[v]).run ai w=.ok u w:=by
 unfold Eb at h;split at h
 .rename_i e es b off len d;obtain⟨f,_⟩:=jE d;simp only[bM]at a;obtain⟨cap,cs,ty,fr,rfl,_⟩:=a;exact⟨_,.int .i64 len,h,by simp[bM],by simp[Builtin.len_,bO f,goInt]⟩
 .rename_i e es n g d;obtain⟨f,_⟩:=jE d;simp only[bM]at a;obtain⟨A,c,rfl,_⟩:=a;exact⟨_,.int .i64 n,h,by simp[bM],by simp[Builtin.len_,bO f,goInt]⟩
 .rename_i e d;obtain⟨f,_⟩:=jE d;simp only[bM]at a;subst a;exact⟨_,.int .i64 0,h,by simp[bM],by simp[Builtin.len_,bO f,goInt]⟩
 .rename_i n d;obtain⟨rfl,h⟩:=h;simp only[bM]at a;obtain⟨neg,A,k,c,xs,e,i,j,l,m⟩:=a
  cases e
  have o:k=nl n:=by
   rw[aJ j l];congr 1;simp[sg]at m;omega
  rw[<-o]at h;exact⟨_,.int .i64 k,h,by simp[bM],by simp[Builtin.len_,bO gn,goInt]⟩
 .exact h.elim
def sX(t:TypeId)(d s:AV)(S:St)(K:AV->St->Prop):Prop:=match dY t,d with
 | some e,.sl es b off len=>(match S b,Bj S s with
  | some X,some (es',m,h,_)=>es=cg e/\es'=es/\X.es=es/\off+len<=X.n/\m=len/\0<m/\(∀j,j<m->eO es (h j)) /\
   K (.int .i64 len) (S.upd b { X with g:=fun j=>if off<=j/\j<off+len then h (j-off)else X.g j })
  | _,_=>False)
 | _,_=>False
def Gj{d:AV}{K:AV->St->Prop}(h:sX t d s S K){w:World}(D:fI w S){vd vs:Value}(E:bM w S.dom d vd)(r:bM w S.dom s vs) :
  Eu (Builtin.copy_ #[t,t'] ty #[vd,vs]) w S K:=by
 unfold sX at h;split at h
 .rename_i e es b off len I;obtain⟨J,i,L,x⟩:=jE I;split at h
  .rename_i X es' m f o M y;obtain⟨rfl,rfl,l,N,rfl,O,A,F⟩:=h;obtain⟨xb,xo,xc,us,rfl,Q,G,R⟩:=Cz D r y O;simp only[bM]at E;obtain⟨cap,cs',ty',fr',rfl,_,_,_⟩:=E;have n:∀z∈eG f 0 m,eO X.es z:=fun z T=>by
    obtain⟨k,U,rfl⟩:=pJ f m 0 z T;rw[az,l];exact A k U
   obtain⟨cs,V,a,W,B,C⟩:=rd D M (eG f 0 m) us Q n off (by rw[kL];exact N)
   rw[l]at a B C;generalize hfl:us.flatMap (fun u=>u.cells.toList)=fl at *;have p:fl.length=m*i.size:=by rw[G,x,aA]
   have Y:=Dp (P:=ai) w i.size m ⟨xb,xo,ab⟩ m xc fl p (fun j v H=>by
    rw[iU,R j (by rw[<-G];exact(eJ.1 H).1)];exact H)
   have c:=kz ai (b:=b) (off:=cg e*off) (ty:=X.ty) fl w cs 0 V (by rw[cN];exact a) W
   rw[cN]at c;have q:(Builtin.copy_ #[t,t'] ty #[.slice (some ⟨b,cg e*off,ab⟩) m cap,.slice (some ⟨xb,xo,ab⟩) m xc]).run ai w=.ok (.int .i64 m) (gj w b (fA cs (cg e*off) fl) X.ty):=by
    simp[Builtin.copy_,bO J,Builtin.lenOf,de L,Y,c,goInt]
   have Z:ja X.g off (eG f 0 m)=fun j=>if off<=j/\j<off+m then f (j-off)else X.g j:=by
    funext j;simp only[ja,kL];split
    .rw[tq _ _ _ _ om,az]
    .rfl
   rw[Z]at B C;rw[l]at F;exact⟨_,.int .i64 m,_,_,F,by simp[bM],B,C,q⟩
  .exact h.elim
 .exact h.elim

theorem uN(off:Nat):∀(l:List Value) (k:Nat) (cs:Array Value),(l.zipIdx k).foldl (fun(cs:Array Value) (p:Value×Nat)=>cs.setIfInBounds (off+p.2) p.1) cs=fA cs (off+k) l
 | [],_,_=>rfl
 | v::l,k,cs=>by
  simp only[List.zipIdx_cons,List.foldl_cons,fA];rw[uN off l (k+1)];rfl
def fu(k:Nat):List AV->List (Nat×AV)
 | []=>[]
 | x::l=>(k,x)::fu (k+1) l
def mi(k:Nat):List Value->List (Nat×Value)
 | []=>[]
 | x::l=>(k,x)::mi (k+1) l
theorem sL:∀(a b:List Value) (cs:Array Value) (o:Nat),fA cs o (a++b)=fA (fA cs o a) (o+a.length) b
 | [],b,cs,o=>by simp[fA]
 | x::a,b,cs,o=>by simp only[l6,fA,cA];rw[sL a b];congr 1;omega
theorem Fo{w:World}{M:Nat->Prop}{es:Nat}:∀(l:List AV) (vs:List Value) (k:Nat) (cs:Array Value),a6 w M l vs->(∀z∈l,eO es z)->es*(k+l.length)<=cs.size ->
  Instr.fill (fun i=>some (i*es,es)) cs (mi k vs)=some (fA cs (es*k) (vs.flatMap (fun u=>u.cells.toList)))
 | [],[],k,cs,_,_,_=>by simp[mi,Instr.fill,fA]
 | a::l,v::vs,k,cs,b,f,d=>by
  simp only[a6]at b;obtain⟨g,_,_⟩:=rY (f a (eU ..)) b.1;simp only[cA]at d;have n:es*(k+1)<=cs.size:=a9 (aL _ om) d;have m:¬(cs.size<k*es+es):=by rw[eA,aA]at n;omega
  have ih:=Fo l vs (k+1) (fA cs (k*es) v.cells.toList) b.2 (fun z o=>f z (d9 _ o)) (by rw[iJ];rw[(om:k+1+l.length=k+(l.length+1))];exact d)
  have q:v.cells.zipIdx.foldl (fun(cs:Array Value) (p:Value×Nat)=>cs.setIfInBounds (k*es+p.2) p.1) cs=fA cs (k*es) v.cells.toList:=by
   rw[<-Array.foldl_toList,Array.toList_zipIdx,uN];rfl
  simp only[mi,Instr.fill];rw[af (by simp[g];omega)]
  have e:(v.cells.zipIdx.foldl (fun(cs:Array Value) x=>match x with|(c,j)=>cs.setIfInBounds (k*es+j) c) cs)=fA cs (k*es) v.cells.toList:=q
  rw[e,ih,dF,sL,aA k es];congr 2;rw[U7,g,eA]
 | [],_::_,_,_,h,_,_=>by simp[a6]at h
 | _::_,[],_,_,h,_,_=>by simp[a6]at h
def Dn(cs:Array Value)(l:List Value)(h:cs.size=l.length):fA cs 0 l=l.toArray:=by
 apply nj;intro i;rw[iS _ _ _ _ om];split
 .simp
 .rename_i a;rw[eN om,eN (by simp;omega)]
def dR(t:TypeId)(n:Nat)(ps:List (Nat×AV))(S:St)(K:AV->St->Prop):Prop:=match dY t with
 | some e=>ps=fu 0 (ps.map (·.2))/\ps.length=n/\n<=16/\(gM e).isSome=true/\(∀p∈ps,eO (cg e) p.2)/\∀b,S b=ab->K (.sl (cg e) b 0 n) (S.upd b ⟨e,cg e,n,fun j=>(ps.map (·.2)).getD j .any⟩)
 | ab=>False
def qJ(w:World)(M:Nat->Prop):List (Nat×AV)->List (Nat×Value)->Prop
 | [],[]=>True
 | p::l,q::r=>p.1=q.1/\bM w M p.2 q.2/\qJ w M l r
 | _,_=>False
theorem qI{w:World}{M:Nat->Prop}:∀(ps:List (Nat×AV)) (qs:List (Nat×Value)),qJ w M ps qs->a6 w M (ps.map (·.2)) (qs.map (·.2))/\∀k,ps=fu k (ps.map (·.2))->qs=mi k (qs.map (·.2))
 | [],[],_=>⟨by simp[a6],fun _ _=>rfl⟩
 | p::l,q::r,h=>by
  simp only[qJ]at h;obtain⟨b,c⟩:=qI l r h.2.2;refine⟨by simp only[cU,a6];exact⟨h.2.1,b⟩,fun k a=>?_⟩
  simp only[cU,fu,jT]at a;simp only[cU,mi,jT];refine⟨?_,c (k+1) a.2⟩;have:=a.1;obtain⟨d,e⟩:=p;obtain⟨f,g⟩:=q;simp at this h;simp[<-h.1,this]
 | [],_::_,h=>h.elim
 | _::_,[],h=>h.elim
def rK{e:TypeId}(C:dY t=some e)(l:ps=fu 0 (ps.map (·.2)))(c:ps.length=n)(D:n<=16)(m:(gM e).isSome=true)(o:∀p∈ps,eO (cg e) p.2){w:World}(E:fI w S){qs:List (Nat×Value)}(F:qJ w S.dom ps qs) :
  (Instr.buildSlice t n qs.toArray).run ai w=.ok (.slice (some ⟨w.heap.size,0,ab⟩) n n) (w.alloc (.cells ((qs.map (·.2)).flatMap (fun u=>u.cells.toList)).toArray e)):=by
 obtain⟨v,i,h,a⟩:=jE C;obtain⟨zx,zv,k⟩:=yZ m;obtain⟨i',x,G,L,M,N,O,P,Q⟩:=py k;rw[h]at x;cases x;obtain⟨y,H⟩:=qI ps qs F;have q:=H 0 l;have d:(ps.map (·.2)).length=n:=by simp[c]
 generalize hxs:ps.map (·.2)=xs at *
 generalize hvs:qs.map (·.2)=vs at *
 have b:∀z∈xs,eO (cg e) z:=fun z k=>by
  rw[<-hxs]at k;obtain⟨p,r,rfl⟩:=im.1 k;exact o p r
 obtain⟨R,I,J,A⟩:=mp E e xs vs y b;rw[d]at I J A;have f:cg e<=2:=by unfold cg;split<;>omega
 have B:n*cg e<=32:=a9 (aV D f) om;have hsmall:¬(16777216<n*i.size):=by rw[a];omega
 have hfill:∀cs:Array Value,cs.size=n*i.size->Instr.fill (fun j=>some (j*i.size,i.size)) cs qs=some (vs.flatMap (fun u=>u.cells.toList)).toArray:=by
  intro cs g;rw[q,a,Fo xs vs 0 cs y b (by rw[g,a,az,d,aA];exact ae _),d7,Dn _ _ (by rw[g,a,A,aA])]
 by_cases s:n*i.size=0
 .have hfill0:=hfill (Array.map (fun _=>default) (Array.range 0)) (by simp[s])
  simp[Instr.buildSlice,bO v,de h,s,newRow,hfill0]
 .have hfill1:=hfill ((Array.range (n*i.size)).map (zv.cells[· % zv.cells.size]!)) sm
  simp[Instr.buildSlice,bO v,de h,hsmall,newRow,zeroValue,typeInfo,h,G,hfill1];intro K;exact absurd K s
def vg{K:AV->St->Prop}(h:dR t n ps S K){w:World}(l:fI w S){qs:List (Nat×Value)}(m:qJ w S.dom ps qs) :
  Eu (Instr.buildSlice t n qs.toArray) w S K:=by
 unfold dR at h
 cases f:dY t with
 | none=>rw[f]at h;exact h.elim
 | some e =>
  rw[f]at h;obtain⟨g,a,s,i,b,u⟩:=h;have c:=rK f g a s i b l m;obtain⟨v,_⟩:=qI ps qs m;have j:(ps.map (·.2)).length=n:=by simp[a]
  have d:∀z∈ps.map (·.2),eO (cg e) z:=fun z x=>by
   obtain⟨p,k,rfl⟩:=im.1 x;exact b p k
  obtain⟨y,o,q,r⟩:=mp l e _ _ v d;rw[j]at o q r;refine⟨_,_,_,_,u _ y,?_,o,q,c⟩;simp only[bM,d7,az];exact⟨n,_,e,(0,0),rfl,ae _,jJ w _,by rw[ct,r];exact ae _⟩
def fz(t:TypeId)(n:Nat)(ps:List (Nat×AV))(z:AV):Prop:=match dY t with
 | some e=>ps=fu 0 (ps.map (·.2))/\ps.length=n/\n<=16/\(gM e).isSome=true/\(∀p∈ps,eO (cg e) p.2)/\z=.lst (cg e) n (fun j=>(ps.map (·.2)).getD j .any)
 | ab=>False
def uK{z:AV}(h:fz t n ps z){w:World}(i:fI w S){qs:List (Nat×Value)}(s:qJ w S.dom ps qs) :
  ∃v w',(Instr.buildSlice t n qs.toArray).run ai w=.ok v w'/\bM w' S.dom z v/\dI (fun _=>False) (fun _=>False) w w':=by
 unfold fz at h
 cases l:dY t with
 | none=>rw[l]at h;exact h.elim
 | some e =>
  rw[l]at h;obtain⟨m,a,B,o,d,rfl⟩:=h;have f:=rK l m a B o d i s;obtain⟨x,_⟩:=qI ps qs s;have C:(ps.map (·.2)).length=n:=by simp[a]
  have b:∀z∈ps.map (·.2),eO (cg e) z:=fun z E=>by
   obtain⟨p,r,rfl⟩:=im.1 E;exact d p r
  obtain⟨F,L,M,N⟩:=mp i e _ _ x b;obtain⟨O,P,Q,G⟩:=iQ (ps.map (·.2)) (qs.map (·.2)) x b
  generalize hcs:((qs.map (·.2)).flatMap (fun u=>u.cells.toList))=cs at *
  have H:(w.alloc (.cells cs.toArray e)).heap.size=w.heap.size+1:=by simp
  have hkeep:∀k,k<w.heap.size->(w.alloc (.cells cs.toArray e)).heap[k]? = w.heap[k]?:=fun k g=>by
   show(w.heap.push _)[k]? = _;rw[Array.getElem?_push_lt g,cF g]
  have y:∀D:Nat->Prop,dI D D w (w.alloc (.cells cs.toArray e)):=fun D=>⟨rfl,rfl,rfl,om,fun k g _=>hkeep k g,fun k c ty fr A=>⟨c,by rw[hkeep k (gJ A)];exact A,rfl⟩,fun _ _ h=>h⟩
  refine⟨_,_,f,?_,y _⟩;simp only[bM];refine⟨_,n,rfl,ae _,fun _=>⟨w.heap.size,0,rfl,om,fun I=>I F,fun j R=>?_⟩⟩
  obtain⟨u,J,K⟩:=G j om;refine⟨u,⟨cs.toArray,e,(0,0),jJ w _,K cs.toArray 0 (fun q T=>by simp)⟩,bM.grow i.noU (y _) _ _ J⟩
def Sc(op:UnOp)(x:AV)(K:AV->Prop):Prop:=match op,x with
 | .neg,.int k n=>K (.int k (k.wrap (0-n)))
 | .not,.bool b=>K (.bool (!b))
 | _,_=>False
def CM(h:Sc op x K){w:World}{M:Nat->Prop}{v:Value}(a:bM w M x v):∃z u,K z/\bM w M z u/\(Op.unary op v).run ai w=.ok u w:=by
 unfold Sc at h;split at h
 .rename_i k n;simp only[bM]at a;subst a;exact⟨_,.int k (k.wrap (0-n)),h,by simp[bM],by simp[Op.unary,Op.intArith]⟩
 .rename_i b;simp only[bM]at a;subst a;exact⟨_,.bool (!b),h,by simp[bM],by simp[Op.unary]⟩
 .exact h.elim
def uH:TypeId->Option IntKind
 | 2=>some .i64
 | 3=>some .i64
 | 5=>some .u8
 | 34=>some .i64
 | 97=>some .u64
 | _=>ab
def kChk(P:Program)(s t:TypeId):Option IntKind:=match P.underlying s,P.underlying t with
 | some _,some (.int k)=>some k
 | _,_=>ab
def Br(s:TypeId):Bool:=s==2||s==3||s==5||s==25||s==41||s==97
def u9(s d:TypeId)(x:AV)(K:AV->Prop):Prop:=match uH d,x with
 | some k,.int _ n=>Br s=true/\K (.int k (k.wrap n))
 | _,_=>False
def Qg{s:TypeId}(e:Br s=true)(c:uH d=some k):∃u,ai.underlying s=some u/\ai.underlying d=some (.int k):=by
 have f:∀u,(ai.underlying s).isSome=true->ai.underlying d=some u->∃x,ai.underlying s=some x/\ai.underlying d=some u:=fun u a b=>⟨_,Option.eq_some_of_isSome a,b⟩;refine f _ ?_ ?_
 .unfold Br at e;simp only[eX,oU]at e;rcases e with ((((rfl|rfl)|rfl)|rfl)|rfl)|rfl<;>kernel_rfl
 .unfold uH at c;split at c<;>first|(cases c;kernel_rfl)|cases c
def xX{s:TypeId}(h:u9 s d x K){w:World}{M:Nat->Prop}{v:Value}(a:bM w M x v):∃z u,K z/\bM w M z u/\(convert s d v).run ai w=.ok u w:=by
 unfold u9 at h;split at h
 .rename_i k k' n b;obtain⟨c,e⟩:=h;obtain⟨u,f,g⟩:=Qg c b;simp only[bM]at a;subst a;refine⟨_,.int k (k.wrap n),e,by simp[bM],?_⟩
  simp only[convert,ko,bO f,bO g,ix];simp[Conv.intToInt]
 .exact h.elim

def RX(P:Program)(f:Nat):Bool:=match P.funcs[f]? with
 | some fn => fn.body.isSome && fn.name != "runtime.NumGoroutine"
 | ab=>false
def Tx:(List.range 259).all (fun i=>i==241||(i==242||RX ai (i+11)))=true:=by kernel_rfl
def NX(h:(11<=f/\f<270)/\f≠252/\f≠253)(args:Array Value)(w:World):(callFunc f args).run ai w=.ok (.enter f args) w:=by
 have a:=aE.1 Tx (f-11) (by simp;omega)
 rw[(om:f-11+11=f)]at a
 have c:(f-11==241)=false:=by simp;omega
 have d:(f-11==242)=false:=by simp;omega
 rw[c,d,Bool.false_or,Bool.false_or]at a;unfold RX at a
 cases b:ai.funcs[f]? with
 | none=>rw[b]at a;cases a
 | some fn =>
  rw[b]at a;simp only[ay,U8,Bu]at a;simp[callFunc,b,a.2];intro e;simp[e]at a
def OB(x y:AV)(K:AV->Prop):Prop:=match x,y with
 | .int k a,.int k' b=>k=k'/\K (.int k (if b > a then b else a))
 | _,_=>False
def ID(h:OB x y K){w:World}{M:Nat->Prop}{vx vy:Value}(c:bM w M x vx)(d:bM w M y vy)(ts:Array TypeId)(t:TypeId) :
  ∃z v,K z/\bM w M z v/\(Builtin.max_ ts t #[vx,vy]).run ai w=.ok v w:=by
 unfold OB at h;split at h
 .rename_i k a k' b;obtain⟨rfl,e⟩:=h;simp only[bM]at c d;subst c d;exact⟨_,.int k (if b > a then b else a),e,by simp[bM],by simp[Builtin.max_,Builtin.max2]⟩
 .exact h.elim
def tI(f:Nat)(l r:List AV)(K:AV->Prop):Prop:=match l with
 | []=>K (.fn f r)
 | x::l=>r=[]/\K (.mfn f (x::l))
def ve(O:Tm)(c:Call)(S:St)(K:AV->St->Prop):Prop:=match c.callee with
 | .value f=>(match ev O f with
  | .fn f l=>((11<=f/\f<270)/\f≠252/\f≠253)/\cZ f (c.args.toList.map (ev O)++l) S K
  | .mfn f l=>((11<=f/\f<270)/\f≠252/\f≠253)/\cZ f (l++c.args.toList.map (ev O)) S K
  | _=>False)
 | .builtin .len=>(match c.args.toList,c.argTypes.toList with
  | [x],[t]=>Eb t (ev O x) (fun z=>K z S)
  | _,_=>False)
 | .builtin .max=>(match c.args.toList with
  | [x,y]=>OB (ev O x) (ev O y) (fun z=>K z S)
  | _=>False)
 | .builtin .append=>(match c.args.toList,c.argTypes.toList with
  | [s,x],[t,t']=>if t'=3 then oE t (ev O s) (ev O x) S K else gP t t' (ev O s) (ev O x) S K
  | _,_=>False)
 | .builtin .copy=>(match c.args.toList,c.argTypes.toList with
  | [s,x],[t,_]=>sX t (ev O s) (ev O x) S K
  | _,_=>False)
 | _=>False
def rR(t:TypeId)(ps:List (Nat×AV))(K:AV->Prop):Prop:=match t,ps with
 | 50,[]=>K (.big 0)
 | 167,[(0,x),(1,y)]=>eO 2 x/\eO 2 y/\K (.agg [x,y])
 | 183,[(0,x),(1,y)]=>eO 1 x/\eO 1 y/\K (.agg [x,y])
 | 218,[(0,x),(1,y)]=>eO 1 x/\eO 1 y/\K (.agg [x,y])
 | 107,[(0,x)]=>eO 1 x/\K (.agg [x,.int .i64 0])
 | 195,[(0,x),(1,y)]=>eO 2 x/\eO 2 y/\K (.agg [x,y])
 | 238,[(0,x),(1,y),(2,z)]=>eO 1 x/\eO 1 y/\eO 1 z/\K (.agg [x,y,z])
 | 160,[(0,x),(1,y)]=>eO 1 x/\eO 1 y/\K (.agg [x,y,.nil,.nfn])
 | 202,[(0,x),(1,y)]=>eO 1 x/\eO 1 y/\K (.agg [x,y])
 | 197,[(0,x),(1,y),(2,z),(3,.agg [p,q]),(4,.agg [r,s])]=>eO 2 x/\eO 2 y/\eO 2 z/\eO 2 p/\eO 2 q/\eO 2 r/\eO 2 s/\K (.agg [x,y,z,p,q,r,s])
 | _,_=>False
def gI{s b:Nat}(a:mM ai t=some (z,s,b)):∃i,ai.info? t=some i/\i.zero=some z/\i.size=s:=by
 unfold mM at a
 cases c:ai.info? t with
 | none=>rw[c]at a;simp at a
 | some i =>
  rw[c]at a;simp only[dJ,cW,il]at a;obtain⟨z2,d,e,f,g⟩:=a;exact⟨i,rfl,by rw[d,e],f⟩
def z107:mM ai 107=some (.agg #[.slice ab 0 0,.int .i64 0],2,32):=by kernel_rfl
def z183:mM ai 183=some (.agg #[.slice ab 0 0,.slice ab 0 0],2,48):=by kernel_rfl
def z218:mM ai 218=some (.agg #[.slice ab 0 0,.int .i64 0],2,32):=by kernel_rfl
def z167:mM ai 167=some (.agg #[.bool false,.slice ab 0 0,.bool false,.slice ab 0 0],4,64):=by kernel_rfl
def z50:mM ai 50=some (.agg #[.bool false,.slice ab 0 0],2,32):=by kernel_rfl
def z52:mM ai 52=some (.slice ab 0 0,1,24):=by kernel_rfl
def z216:mM ai 216=some (.slice ab 0 0,1,24):=by kernel_rfl
def z22:mM ai 22=some (.slice ab 0 0,1,24):=by kernel_rfl
def z195:mM ai 195=some (.agg #[.bool false,.slice ab 0 0,.bool false,.slice ab 0 0],4,64):=by kernel_rfl
def z197:mM ai 197=some (.agg (bZ 7 [.bool false,.slice ab 0 0]).flatten.toArray,14,224):=by kernel_rfl
def z160:mM ai 160=some (.agg #[.slice ab 0 0,.slice ab 0 0,.slice ab 0 0,.nilFunc],4,80):=by kernel_rfl
def z202:mM ai 202=some (.agg #[.int .u64 0,.int .u64 0],2,16):=by kernel_rfl
def z97:mM ai 97=some (.int .u64 0,1,8):=by kernel_rfl
def z59:mM ai 59=some (.slice ab 0 0,1,24):=by kernel_rfl
def z2:mM ai 2=some (.int .i64 0,1,8):=by kernel_rfl
def z238:mM ai 238=some (.agg #[.int .i64 0,.int .i64 0,.int .i64 0],3,24):=by kernel_rfl
def z3:mM ai 3=some (.int .i64 0,1,8):=by kernel_rfl
def ia(h:eO 1 x)(a:bM w M x v):v.cells=#[v]:=by
 rcases Dj h a with⟨_,b,_⟩|⟨e,_⟩
 .exact r9 b
 .omega
def g9(h:eO 2 x)(a:bM w M x v):∃p q,v=.agg #[p,q]:=by
 rcases Dj h a with⟨e,_⟩|⟨_,p,q,e,_⟩
 .omega
 .exact⟨p,q,e⟩
def vf(h:rR t ps K){w:World}{M:Nat->Prop}{qs:List (Nat×Value)}(f:qJ w M ps qs) :
  ∃z u,K z/\bM w M z u/\(Instr.build t qs.toArray).run ai w=.ok u w:=by
 unfold rR at h;split at h
 .cases qs with
  | cons _ _=>exact f.elim
  | nil =>
   refine⟨_,.agg #[.bool false,.slice ab 0 0],h,by simp only[bM];exact eV.zero w,?_⟩
   obtain⟨i,Y,Z,_⟩:=py (t:=50) (es:=2) (x:=.big 0) (z:=.agg #[.bool false,.slice ab 0 0]) rfl;have hu:=Sm;simp[Instr.build,zeroValue,typeInfo,Y,Z,Instr.fill,Value.cells]
 .rename_i x y;obtain⟨sx,sy,g⟩:=h
  match qs,f with
  | [(a,vx),(b,vy)],f =>
   simp only[qJ]at f;obtain⟨rfl,rx,rfl,ry,_⟩:=f;obtain⟨D,E,rfl⟩:=g9 sx rx;obtain⟨F,G,rfl⟩:=g9 sy ry;obtain⟨i,l,m,v⟩:=gI z167;obtain⟨j,n,A,o⟩:=gI z50;refine⟨_,.agg #[D,E,F,G],g,by simp only[bM];exact⟨[.agg #[D,E],.agg #[F,G]],by simp[Value.cells],by simp only[a6];exact⟨rx,ry,trivial⟩⟩,?_⟩
   simp[Instr.build,zeroValue,typeInfo,l,m,bO underlying167,de n,o,Instr.fill,Value.cells]
  | [],f=>exact f.elim
  | [_],f=>exact f.2.2.elim
  | _::_::_::_,f=>exact f.2.2.2.2.elim
 .rename_i x y;obtain⟨sx,sy,g⟩:=h
  match qs,f with
  | [(a,vx),(b,vy)],f =>
   simp only[qJ]at f;obtain⟨rfl,rx,rfl,ry,_⟩:=f;have cx:=ia sx rx;have cy:=ia sy ry;obtain⟨i,l,m,v⟩:=gI z183;obtain⟨j,n,A,o⟩:=gI z52;refine⟨_,.agg #[vx,vy],g,by simp only[bM];exact⟨[vx,vy],by simp[cx,cy],by simp only[a6];exact⟨rx,ry,trivial⟩⟩,?_⟩
   simp[Instr.build,zeroValue,typeInfo,l,m,bO underlying183,de n,o,Instr.fill,cx,cy];simp[Value.cells]
  | [],f=>exact f.elim
  | [_],f=>exact f.2.2.elim
  | _::_::_::_,f=>exact f.2.2.2.2.elim
 .rename_i x y;obtain⟨sx,sy,g⟩:=h
  match qs,f with
  | [(a,vx),(b,vy)],f =>
   simp only[qJ]at f;obtain⟨rfl,rx,rfl,ry,_⟩:=f;have cx:=ia sx rx;have cy:=ia sy ry;obtain⟨i,l,m,v⟩:=gI z218;obtain⟨j,n,A,o⟩:=gI z216;obtain⟨k,B,H,C⟩:=gI z3;refine⟨_,.agg #[vx,vy],g,by simp only[bM];exact⟨[vx,vy],by simp[cx,cy],by simp only[a6];exact⟨rx,ry,trivial⟩⟩,?_⟩
   simp[Instr.build,zeroValue,typeInfo,l,m,bO underlying218,de n,o,de B,C,Instr.fill,cx,cy];simp[Value.cells]
  | [],f=>exact f.elim
  | [_],f=>exact f.2.2.elim
  | _::_::_::_,f=>exact f.2.2.2.2.elim
 .rename_i x;obtain⟨sx,g⟩:=h
  match qs,f with
  | [(a,vx)],f =>
   simp only[qJ]at f;obtain⟨rfl,rx,_⟩:=f;have cx:=ia sx rx;obtain⟨i,l,m,v⟩:=gI z107;obtain⟨j,n,A,o⟩:=gI z22;obtain⟨k,B,H,C⟩:=gI z3;refine⟨_,.agg #[vx,.int .i64 0],g,by simp only[bM];exact⟨[vx,.int .i64 0],by simp[cx];rfl,by simp only[a6,bM];exact⟨rx,trivial,trivial⟩⟩,?_⟩
   simp[Instr.build,zeroValue,typeInfo,l,m,bO underlying107,de n,o,de B,C,Instr.fill,cx];simp[Value.cells]
  | [],f=>exact f.elim
  | _::_::_,f=>exact f.2.2.elim
 .rename_i x y;obtain⟨sx,sy,g⟩:=h
  match qs,f with
  | [(a,vx),(b,vy)],f =>
   simp only[qJ]at f;obtain⟨rfl,rx,rfl,ry,_⟩:=f;obtain⟨D,E,rfl⟩:=g9 sx rx;obtain⟨F,G,rfl⟩:=g9 sy ry;obtain⟨i,l,m,v⟩:=gI z195;obtain⟨j,n,A,o⟩:=gI z50;refine⟨_,.agg #[D,E,F,G],g,by simp only[bM];exact⟨[.agg #[D,E],.agg #[F,G]],by simp[Value.cells],by simp only[a6];exact⟨rx,ry,trivial⟩⟩,?_⟩
   simp[Instr.build,zeroValue,typeInfo,l,m,bO xY,de n,o,Instr.fill,Value.cells]
  | [],f=>exact f.elim
  | [_],f=>exact f.2.2.elim
  | _::_::_::_,f=>exact f.2.2.2.2.elim
 .rename_i x y z;obtain⟨sx,sy,sz,g⟩:=h
  match qs,f with
  | [(a,vx),(b,vy),(c,vz)],f =>
   simp only[qJ]at f;obtain⟨rfl,rx,rfl,ry,rfl,rz,_⟩:=f;have cx:=ia sx rx;have cy:=ia sy ry;have cz:=ia sz rz;obtain⟨i,l,m,v⟩:=gI z238;obtain⟨j,n,A,o⟩:=gI z2;refine⟨_,.agg #[vx,vy,vz],g,by simp only[bM];exact⟨[vx,vy,vz],by simp[cx,cy,cz],by simp only[a6];exact⟨rx,ry,rz,trivial⟩⟩,?_⟩
   simp[Instr.build,zeroValue,typeInfo,l,m,bO underlying238,de n,o,Instr.fill,cx,cy,cz];simp[Value.cells]
  | [],f=>exact f.elim
  | [_],f=>exact f.2.2.elim
  | [_,_],f=>exact f.2.2.2.2.elim
  | _::_::_::_::_,f=>exact f.2.2.2.2.2.2.elim
 .rename_i x y;obtain⟨sx,sy,g⟩:=h
  match qs,f with
  | [(a,vx),(b,vy)],f =>
   simp only[qJ]at f;obtain⟨rfl,rx,rfl,ry,_⟩:=f;have cx:=ia sx rx;have cy:=ia sy ry;obtain⟨i,l,m,v⟩:=gI z160;obtain⟨j,n,A,o⟩:=gI z59;obtain⟨k,B,H,C⟩:=gI z52;refine⟨_,.agg #[vx,vy,.slice ab 0 0,.nilFunc],g,by simp only[bM];exact⟨[vx,vy,.slice ab 0 0,.nilFunc],by simp[cx,cy];rfl,by simp only[a6,bM];exact⟨rx,ry,trivial,trivial,trivial⟩⟩,?_⟩
   simp[Instr.build,zeroValue,typeInfo,l,m,bO underlying160,de n,o,de B,C,Instr.fill,cx,cy];simp[Value.cells]
  | [],f=>exact f.elim
  | [_],f=>exact f.2.2.elim
  | _::_::_::_,f=>exact f.2.2.2.2.elim
 .rename_i x y;obtain⟨sx,sy,g⟩:=h
  match qs,f with
  | [(a,vx),(b,vy)],f =>
   simp only[qJ]at f;obtain⟨rfl,rx,rfl,ry,_⟩:=f;have cx:=ia sx rx;have cy:=ia sy ry;obtain⟨i,l,m,v⟩:=gI z202;obtain⟨j,n,A,o⟩:=gI z97;refine⟨_,.agg #[vx,vy],g,by simp only[bM];exact⟨[vx,vy],by simp[cx,cy],by simp only[a6];exact⟨rx,ry,trivial⟩⟩,?_⟩
   simp[Instr.build,zeroValue,typeInfo,l,m,bO underlying202,de n,o,Instr.fill,cx,cy];simp[Value.cells]
  | [],f=>exact f.elim
  | [_],f=>exact f.2.2.elim
  | _::_::_::_,f=>exact f.2.2.2.2.elim
 .rename_i x y z p q r s;obtain⟨sx,sy,sz,sp,sq,sr,ss,g⟩:=h
  match qs,f with
  | [(a,vx),(b,vy),(c,vz),(d,vp),(e,vr)],f =>
   simp only[qJ]at f;obtain⟨rfl,rx,rfl,ry,rfl,rz,rfl,rp,rfl,rr,_⟩:=f;simp only[bM]at rp rr;obtain⟨ps,rfl,rp⟩:=rp;obtain⟨rs,rfl,rr⟩:=rr
   match ps,rs,rp,rr with
   | [vp,vq],[vr,vs],rp,rr =>
    simp only[a6]at rp rr;obtain⟨rp,rq,_⟩:=rp;obtain⟨rr,rs,_⟩:=rr;obtain⟨I,J,rfl⟩:=g9 sx rx;obtain⟨L,N,rfl⟩:=g9 sy ry;obtain⟨O,P,rfl⟩:=g9 sz rz;obtain⟨Q,R,rfl⟩:=g9 sp rp;obtain⟨S,T,rfl⟩:=g9 sq rq;obtain⟨U,V,rfl⟩:=g9 sr rr;obtain⟨W,X,rfl⟩:=g9 ss rs;obtain⟨i,l,m,v⟩:=gI z197;obtain⟨j,n,A,o⟩:=gI z50;obtain⟨k,B,H,C⟩:=gI z195;refine⟨_,.agg #[I,J,L,N,O,P,Q,R,S,T,U,V,W,X],g,by
     simp only[bM];exact⟨[.agg #[I,J],.agg #[L,N],.agg #[O,P],.agg #[Q,R],.agg #[S,T],.agg #[U,V],.agg #[W,X]],by simp[Value.cells],by simp only[a6];exact⟨rx,ry,rz,rp,rq,rr,rs,trivial⟩⟩,?_⟩
    simp[Instr.build,zeroValue,typeInfo,l,m,bO underlying197,de n,o,de B,C,Instr.fill,Value.cells]
   | [],_,rp,_=>simp[a6]at rp
   | [_],_,rp,_=>simp[a6]at rp
   | _::_::_::_,_,rp,_=>simp[a6]at rp
   | [_,_],[],_,rr=>simp[a6]at rr
   | [_,_],[_],_,rr=>simp[a6]at rr
   | [_,_],_::_::_::_,_,rr=>simp[a6]at rr
  | [],f=>exact f.elim
  | [_],f=>exact f.2.2.elim
  | [_,_],f=>exact f.2.2.2.2.elim
  | [_,_,_],f=>exact f.2.2.2.2.2.2.elim
  | [_,_,_,_],f=>exact f.2.2.2.2.2.2.2.2.elim
  | _::_::_::_::_::_::_,f=>exact f.2.2.2.2.2.2.2.2.2.2.elim
 .exact h.elim
theorem CN{w:World}{M:Nat->Prop}:∀(l:List AV) (vs:List Value),a6 w M l vs->∀(i:Nat) (z:AV),l[i]? = some z->∃v,vs[i]? = some v/\bM w M z v
 | [],_,_,i,z,h=>by simp at h
 | x::l,v::vs,a,0,z,h=>by simp only[a6]at a;simp at h;subst h;exact⟨v,sm,a.1⟩
 | x::l,v::vs,a,i+1,z,h=>by simp only[a6]at a;simp at h;obtain⟨u,b,c⟩:=CN l vs a.2 i z h;exact⟨u,by simpa using b,c⟩
 | _::_,[],a,_,_,_=>by simp[a6]at a
def Ec(t:TypeId)(x i:AV)(K:AV->Prop):Prop:=match x,i with
 | .agg l,.int _ n=>(t=195/\∃p q,l=[p,q]/\eO 2 p/\eO 2 q/\(n=0∨n=1)/\K (if n=0 then p else q)) ∨
  ((t=238/\l.length=3∨t=239/\l.length=8)/\(∀z∈l,eO 1 z)/\(0<=n/\n<(l.length:Int))/\K (l.getD n.toNat .any))
 | _,_=>False
theorem Oj{w:World}{M:Nat->Prop}:∀(l:List AV) (vs:List Value),(∀z∈l,eO 1 z)->a6 w M l vs->vs.flatMap (fun u=>u.cells.toList)=vs
 | [],[],_,_=>rfl
 | x::l,v::vs,b,a=>by
  simp only[a6]at a;simp only[dF,Oj l vs (fun z c=>b z (d9 _ c)) a.2,ia (b x (eU ..)) a.1];rfl
 | [],_::_,_,a=>by simp[a6]at a
 | _::_,[],_,a=>by simp[a6]at a
def IF(h:Ec t x y K){w:World}{M:Nat->Prop}{vx vy:Value}(g:bM w M x vx)(i:bM w M y vy) :
  ∃z v,K z/\bM w M z v/\(Instr.index t vx vy).run ai w=.ok v w:=by
 unfold Ec at h;split at h
 .rename_i l k n;simp only[bM]at g i;subst i;obtain⟨vs,rfl,a⟩:=g;rcases h with⟨rfl,p,q,rfl,sp,sq,r,d⟩|⟨s,u,⟨m,H⟩,d⟩
  .match vs,a with
   | [vp,vq],a =>
    simp only[a6]at a;obtain⟨rp,rq,_⟩:=a;obtain⟨A,B,rfl⟩:=g9 sp rp;obtain⟨C,D,rfl⟩:=g9 sq rq;obtain⟨j,b,E,c⟩:=gI z50;rcases r with rfl|rfl
    .refine⟨_,.agg #[A,B],d,by simpa using rp,?_⟩
     simp[Instr.index,asIntOf,bO xY,de b,c,part,isAgg,bO Sm,Value.cells]
    .refine⟨_,.agg #[C,D],d,by simpa using rq,?_⟩
     simp[Instr.index,asIntOf,bO xY,de b,c,part,isAgg,bO Sm,Value.cells]
   | [],a=>simp[a6]at a
   | [_],a=>simp[a6]at a
   | _::_::_::_,a=>simp[a6]at a
  .rw[Oj l vs u a];have e:n.toNat<l.length:=om
   obtain⟨v,o,F⟩:=CN l vs a n.toNat (l.getD n.toNat .any) (by simp[List.getD,bE e])
   obtain⟨j,b,E,c⟩:=gI z2;refine⟨_,v,d,F,?_⟩;rcases s with⟨rfl,G⟩|⟨rfl,G⟩
   .have f:n<3:=om
    simp[Instr.index,asIntOf,bO underlying238,de b,c,part,isAgg,bO US,m,f,o]
   .have f:n<8:=om
    simp[Instr.index,asIntOf,bO underlying239,de b,c,part,isAgg,bO US,m,f,o]
 .exact h.elim
def AP(o:Oper)(O:Tm)(S:St)(K:AV->St->Prop):Prop:=match o.op with
 | .move x=>K (ev O x) S
 | .assign x=>K (ev O x) S
 | .pick c x y=>(match ev O c with
  | .bool t=>K (if t then ev O x else ev O y) S
  | _=>False)
 | .alloc t=>ns t S K
 | .box t x=>kH t (ev O x) S K
 | .build t ps=>rR t (ps.toList.map fun p=>(p.1,ev O p.2)) (fun z=>K z S)
 | .buildSlice t n ps=>dR t n (ps.toList.map fun p=>(p.1,ev O p.2)) S K
 | .load t x=>pU t (ev O x) S (fun z=>K z S)
 | .store t x y=>qE t (ev O x) (ev O y) S (fun S'=>K .any S')
 | .nilCheck x=>(match ev O x with
  | .ptr es b i=>K (.ptr es b i) S
  | .pat es y=>K (.pat es y) S
  | _=>False)
 | .binOp op t x y _=>Gk op t (ev O x) (ev O y) (fun z=>K z S)
 | .unOp op _ x=>Sc op (ev O x) (fun z=>K z S)
 | .convert s d x=>u9 s d (ev O x) (fun z=>K z S)
 | .makeFunc (.func f) fi cs=>tI f (fi.toList.map (ev O)) (cs.toList.map (ev O)) (fun z=>K z S)
 | .makeSlice t x y=>lJ t (ev O x) (ev O y) S K
 | .slice t x lo hi mx=>kG t (ev O x) (lo.map (ev O)) (hi.map (ev O)) (mx.map (ev O)) (fun z=>K z S)
 | .fieldAddr t x f=>qG t (ev O x) f (fun z=>K z S)
 | .indexAddr t x i=>qF t (ev O x) (ev O i) (fun z=>K z S)
 | .index t x i=>Ec t (ev O x) (ev O i) (fun z=>K z S)
 | .extract x i=>(match ev O x with
  | .tup l=>(match l[i]? with
   | some z=>K z S
   | ab=>False)
  | _=>False)
 | .call c=>ve O c S K
 | _=>False
def iA{next:Act->World->Prop}(b:(execOp a.eval o).run ai w=.ok (.value v) w')(c:next (a.put o.dst v) w'):o.wp ai a w next Q:=by
 unfold Oper.wp;rw[b];exact c
def G1{next:Act->World->Prop}(b:(execOp a.eval o).run ai w=.ok .skip w')(c:next (a.put o.dst undef) w'):o.wp ai a w next Q:=by
 unfold Oper.wp;rw[b];exact c
theorem rT{O:Tm}{S:St}{N:Nat}{a:Act}{w:World}(h:RT O S N a w):∀ps:List (Nat×Operand),qJ w S.dom (ps.map fun p=>(p.1,ev O p.2)) (ps.map fun p=>(p.1,a.eval p.2))
 | []=>by simp[qJ]
 | p::ps=>by simp only[cU,qJ];exact⟨trivial,h.ev p.2,rT h ps⟩
theorem pW{O:Tm}{S:St}{N:Nat}{a:Act}{w:World}(h:RT O S N a w):∀ps:List Operand,a6 w S.dom (ps.map (ev O)) (ps.map a.eval)
 | []=>by simp[a6]
 | p::ps=>by simp only[cU,a6];exact⟨h.ev p,pW h ps⟩
theorem oY{w:World}{M:Nat->Prop}:∀(l l':List AV) (vs vs':List Value),a6 w M l vs->a6 w M l' vs'->a6 w M (l++l') (vs++vs')
 | [],_,[],_,_,h=>by simpa using h
 | x::l,l',v::vs,vs',h,h'=>by simp only[l6,a6]at h ⊢;exact⟨h.1,oY l l' vs vs' h.2 h'⟩
 | [],_,_::_,_,h,_=>by simp[a6]at h
 | _::_,_,[],_,h,_=>by simp[a6]at h
theorem vu{w:World}{M:Nat->Prop}:∀(l:List AV) (vs:List Value),a6 w M l vs->∀(i:Nat) (z:AV),l[i]? = some z->∃v,vs[i]? = some v/\bM w M z v
 | [],_,_,i,z,h=>by simp at h
 | x::l,v::vs,a,0,z,h=>by simp only[a6]at a;simp at h;subst h;exact⟨v,sm,a.1⟩
 | x::l,v::vs,a,i+1,z,h=>by simp only[a6]at a;simp at h;obtain⟨u,b,c⟩:=vu l vs a.2 i z h;exact⟨u,by simpa using b,c⟩
 | _::_,[],a,_,_,_=>by simp[a6]at a
def pV(h:RT O S N a w)(x:Option Operand):tK w S.dom (x.map (ev O)) (x.map a.eval):=by
 cases x with
 | none=>simp[tK]
 | some x=>simp only[cV,tK];exact h.ev x
def Cs(a:Act)(ps:Array (Nat×Operand)):(ps.map fun(x:Nat×Operand)=>(x.1,a.eval x.2))=(ps.toList.map fun p=>(p.1,a.eval p.2)).toArray:=by apply gS;simp
def An{ps:Array (Nat×Operand)}(b:o.op=.build t ps){w:World}:(execOp a.eval o).run ai w=((Instr.build t (ps.toList.map fun p=>(p.1,a.eval p.2)).toArray).run ai w).andThen fun v w'=>.ok (.value v) w':=by
 rw[<-Cs];unfold execOp;rw[b];simp
def qP{ps:Array (Nat×Operand)}(b:o.op=.buildSlice t n ps){w:World}:(execOp a.eval o).run ai w=((Instr.buildSlice t n (ps.toList.map fun p=>(p.1,a.eval p.2)).toArray).run ai w).andThen fun v w'=>.ok (.value v) w':=by
 rw[<-Cs];unfold execOp;rw[b];simp
def Next_(K:AV->St->Prop)(S:St)(a:Act)(d:Option Nat)(w:World)(next:Act->World->Prop):Prop:=∀z v w' S',K z S'->bM w' S'.dom z v->fI w' S'->dI S.dom S'.dom w w'->next (a.put d v) w'
def uX{cs:Array Operand}(h:tI f (fi.toList.map (ev O)) (cs.toList.map (ev O)) K){N:Nat}{a:Act}{w:World}(d:RT O S N a w):∃z,K z/\bM w S.dom z (.func (.func f) (fi.map a.eval) (cs.map a.eval)):=by
 unfold tI at h;split at h
 .rename_i b;have b:fi=#[]:=by apply gS;simpa using b
  refine⟨_,h,?_⟩;simp only[bM];exact⟨cs.toList.map a.eval,by rw[b];congr 1<;>apply gS<;>simp,pW d _⟩
 .rename_i x l b;have c:cs=#[]:=by apply gS;simpa using h.1
  refine⟨_,h.2,?_⟩;simp only[bM];exact⟨fi.toList.map a.eval,by rw[c];congr 1<;>apply gS<;>simp,by rw[<-b];exact pW d _⟩
def pT{K:AV->St->Prop}(h:AP o O S K){N:Nat}{a:Act}{w:World}(j:RT O S N a w){next:Act->World->Prop}{Q:Exit->Act->World->Prop}
  (C:Next_ K S a o.dst w next):o.wp ai a w next Q:=by
 have pure_:∀(s:Sem Value),(execOp a.eval o=do let x <-s;pure (.value x))->(∃z u,K z S/\bM w S.dom z u/\s.run ai w=.ok u w)->o.wp ai a w next Q:=by
  intro s T ⟨z,u,q,A,B⟩;exact iA (by rw[T];simp[B]) (C z u w S q A j.st (dI.refl _ _))
 have goes_:∀(s:Sem Value),(execOp a.eval o=do let x <-s;pure (.value x))->Eu s w S K->o.wp ai a w next Q:=by
  intro s T ⟨z,u,w',S',q,A,B,J,U⟩;exact iA (by rw[T];simp[U]) (C z u w' S' q A B J)
 unfold AP at h;split at h
 .rename_i x k;exact iA (v:=a.eval x) (by simp[execOp,k]) (C _ _ w S h (j.ev x) j.st (dI.refl _ _))
 .rename_i x k;exact iA (v:=a.eval x) (by simp[execOp,k]) (C _ _ w S h (j.ev x) j.st (dI.refl _ _))
 .rename_i c x y k;have E:=j.ev c
  cases V:ev O c<;>rw[V]at h E<;>try exact h.elim
  rename_i t;simp only[bM]at E;refine iA (v:=if t then a.eval x else a.eval y) (by simp[execOp,k,E,asBool]) (C _ _ w S h ?_ j.st (dI.refl _ _))
  cases t
  .exact j.ev y
  .exact j.ev x
 .rename_i t k;exact goes_ (Instr.alloc t true (.tuple #[])) (by simp[execOp,k]) (Eg h j.st)
 .rename_i t x k;exact goes_ (Instr.box t (a.eval x)) (by simp[execOp,k]) (IH h j.st (j.ev x))
 .rename_i t ps k;obtain⟨z,u,q,A,B⟩:=vf h (rT j ps.toList);refine iA (v:=u) ?_ (C z u w S q A j.st (dI.refl _ _));rw[An k,B];rfl
 .rename_i t n ps k;obtain⟨z,u,w',S',q,A,B,J,U⟩:=vg h j.st (rT j ps.toList);refine iA (v:=u) ?_ (C z u w' S' q A B J);rw[qP k,U];rfl
 .rename_i t x k;exact pure_ (Instr.loadAt t (a.eval x)) (by simp[execOp,k]) (rQ h j.st (j.ev x))
 .rename_i t x y k;obtain⟨w',S',q,A,B,J⟩:=Ea h j.st (j.ev x) (j.ev y);exact G1 (by simp[execOp,k,J]) (C _ _ w' S' q (by simp[bM]) A B)
 .rename_i x k;have m:=j.ev x
  cases F:ev O x<;>rw[F]at h m<;>try exact h.elim
  .have L:=m;simp only[bM]at m;exact iA (v:=a.eval x) (by simp[execOp,k,m]) (C _ _ w S h L j.st (dI.refl _ _))
  .have L:=m;simp only[bM]at m;obtain⟨b,off,u,m,_⟩:=m;exact iA (v:=a.eval x) (by simp[execOp,k,m]) (C _ _ w S h L j.st (dI.refl _ _))
 .rename_i op t x y _ k;have:=AS (ty:=t) h (j.ev x) (j.ev y) x y;exact pure_ (do eqGuard op t x y (a.eval x) (a.eval y);binOp op t (a.eval x) (a.eval y)) (by simp[execOp,k]) this
 .rename_i op t x k;exact pure_ (Op.unary op (a.eval x)) (by simp[execOp,k]) (CM h (j.ev x))
 .rename_i s d x k;exact pure_ (convert s d (a.eval x)) (by simp[execOp,k]) (xX h (j.ev x))
 .rename_i f fi cs k;obtain⟨z,q,A⟩:=uX h j;exact iA (v:=.func (.func f) (fi.map a.eval) (cs.map a.eval)) (by simp[execOp,k,Instr.makeFunc]) (C _ _ w S q A j.st (dI.refl _ _))
 .rename_i t x y k;exact goes_ (Instr.makeSlice t (a.eval x) (a.eval y)) (by simp[execOp,k]) (Gi h j.st (j.ev x) (j.ev y))
 .rename_i t x lo Y mx k;exact pure_ (Instr.sliceAt t (a.eval x) (lo.map a.eval) (Y.map a.eval) (mx.map a.eval)) (by simp[execOp,k]) (uW h (j.ev x) (pV j lo) (pV j Y) (pV j mx))
 .rename_i t x f k;exact pure_ (Instr.fieldAt t (a.eval x) f) (by simp[execOp,k]) (uZ h (j.ev x))
 .rename_i t x i k;exact pure_ (Instr.indexAt t (a.eval x) (a.eval i)) (by simp[execOp,k]) (uY h (j.ev x) (j.ev i))
 .rename_i t x i k;exact pure_ (Instr.index t (a.eval x) (a.eval i)) (by simp[execOp,k]) (IF h (j.ev x) (j.ev i))
 .rename_i x i k;have m:=j.ev x
  cases F:ev O x<;>rw[F]at h m<;>try exact h.elim
  rename_i l;simp only at h
  cases W:l[i]? with
  | none=>rw[W]at h;exact h.elim
  | some z =>
   rw[W]at h;simp only[bM]at m;obtain⟨vs,m,G⟩:=m;obtain⟨v,hv,hz⟩:=vu l vs G i z W;exact iA (v:=v) (by simp[execOp,k,Instr.extract,m,hv]) (C _ _ w S h hz j.st (dI.refl _ _))
 .rename_i c k;unfold ve at h;split at h
  .rename_i f Z;have H:=j.ev f
   cases F:ev O f<;>rw[F]at h H<;>try exact h.elim
   .rename_i g l;simp only[bM]at H;obtain⟨vs,M,G⟩:=H;obtain⟨X,P⟩:=h;have I:(execOp a.eval o).run ai w=.ok (.enter g (c.args.map a.eval++vs.toArray)) w:=by
     simp[execOp,k,resolve,Z,Deferred.ofValue,M,invoke,NX X]
    unfold Oper.wp;rw[I];have hargs:(c.args.map a.eval++vs.toArray)=(c.args.toList.map a.eval++vs).toArray:=by apply gS;simp
    rw[hargs];refine(P w _ j.st (oY _ _ _ _ (pW j _) G)).mono ?_;rintro e w' ⟨v,r,S',rfl,q,A,B,J⟩;exact C r v w' S' q A B J
   .rename_i g l;simp only[bM]at H;obtain⟨vs,M,G⟩:=H;obtain⟨X,P⟩:=h;have I:(execOp a.eval o).run ai w=.ok (.enter g (vs.toArray++c.args.map a.eval)) w:=by
     simp[execOp,k,resolve,Z,Deferred.ofValue,M,invoke,NX X]
    unfold Oper.wp;rw[I];have hargs:(vs.toArray++c.args.map a.eval)=(vs++c.args.toList.map a.eval).toArray:=by apply gS;simp
    rw[hargs];refine(P w _ j.st (oY _ _ _ _ G (pW j _))).mono ?_;rintro e w' ⟨v,r,S',rfl,q,A,B,J⟩;exact C r v w' S' q A B J
  .rename_i E;split at h
   .rename_i x t m R;have p:c.args=#[x]:=by apply gS;simpa using m
    have D:c.argTypes=#[t]:=by apply gS;simpa using R
    exact pure_ (Builtin.len_ #[t] o.type #[a.eval x]) (by simp[execOp,k,resolve,E,invoke,builtin,p,D]) (AQ h (j.ev x))
   .exact h.elim
  .rename_i E;split at h
   .rename_i x y m;have p:c.args=#[x,y]:=by apply gS;simpa using m
    exact pure_ (Builtin.max_ c.argTypes o.type #[a.eval x,a.eval y]) (by simp[execOp,k,resolve,E,invoke,builtin,p]) (ID h (j.ev x) (j.ev y) _ _)
   .exact h.elim
  .rename_i E;split at h
   .rename_i s x t t' m R;have p:c.args=#[s,x]:=by apply gS;simpa using m
    have D:c.argTypes=#[t,t']:=by apply gS;simpa using R
    split at h
    .rename_i B;subst B;exact goes_ (Builtin.append_ #[t,3] o.type #[a.eval s,a.eval x]) (by simp[execOp,k,resolve,E,invoke,builtin,p,D]) (AT h j.st (j.ev s) (j.ev x))
    .exact goes_ (Builtin.append_ #[t,t'] o.type #[a.eval s,a.eval x]) (by simp[execOp,k,resolve,E,invoke,builtin,p,D]) (BG h j.st (j.ev s) (j.ev x))
   .exact h.elim
  .rename_i E;split at h
   .rename_i s x t t' m R;have p:c.args=#[s,x]:=by apply gS;simpa using m
    have D:c.argTypes=#[t,t']:=by apply gS;simpa using R
    exact goes_ (Builtin.copy_ #[t,t'] o.type #[a.eval s,a.eval x]) (by simp[execOp,k,resolve,E,invoke,builtin,p,D]) (Gj h j.st (j.ev s) (j.ev x))
   .exact h.elim
  .exact h.elim
 .exact h.elim

end Go.Proofs.YtdobfmlmenaajaaGreatDoor
