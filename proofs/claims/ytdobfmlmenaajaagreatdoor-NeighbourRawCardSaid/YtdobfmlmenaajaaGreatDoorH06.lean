/-
  Lemmas for NeighbourRaw.
-/
import Derived.Test.YtdobfmlmenaajaaGreatDoorH05
import Derived.Lib.AppendZerosOnto
namespace Go.Proofs.YtdobfmlmenaajaaGreatDoor
open Go.RowKit Tryz
open _root_.List renaming replicate→bU
open _root_.Option renaming none→ab
open Tryz renaming prog→ah
set_option maxHeartbeats 6400000
set_option maxRecDepth 4096
set_option linter.all false
variable{s x:AV}{K:AV->St->Prop}{k:IntKind}{ps:List (Nat×AV)}{vs:List Value}{es j len m n:Nat}{g h:Nat->AV}{M:Nat->Prop}{S:St}{d t t' ty:TypeId}{op:UnOp}{z:Value}{w:World}
def Bx(S:St):AV->Option (Nat×Nat×(Nat->AV)×Option Nat)
 | .sl es b off len=>(S b).bind fun X=>if X.es=es/\off+len<=X.n then some (es,len,fun j=>X.g (off+j),some b)else ab
 | .lst es n g=>some (es,n,g,ab)
 | _=>ab
theorem xm(g:Nat->AV)(o:Nat):∀k i,eA (fun j=>g (o+j)) i k=eA g (o+i) k
 | 0,_=>rfl
 | k+1,i=>by simp only[eA];rw[xm g o k (i+1)];rfl
theorem ky(g:Nat->AV):∀k i,(eA g i k).length=k
 | 0,_=>rfl
 | k+1,i=>by simp[eA,ky g k]
theorem sQ(g:Nat->AV):∀k i j,j<k->(eA g i k).getD j .any=g (i+j)
 | 0,_,_,h=>om
 | k+1,i,0,_=>by simp[eA]
 | k+1,i,j+1,h=>by
  have:=sQ g k (i+1) j om;simp only[eA,bG];rw[this];congr 1;omega
theorem pk(g:Nat->AV):∀k i z,z∈eA g i k->∃j,j<k/\z=g (i+j)
 | 0,_,_,h=>by simp[eA]at h
 | k+1,i,z,h=>by
  simp only[eA,sJ]at h;rcases h with rfl|h
  .exact⟨0,om,rfl⟩
  .obtain⟨j,b,a⟩:=pk g k (i+1) z h;exact⟨j+1,om,by rw[a];congr 1;omega⟩
theorem xA{w:World}{M:Nat->Prop}{b off es:Nat}{g:Nat->AV}{n:Nat}(c:∀j,j<n->∃u,vU w b (off+es*j) es u/\bs w M (g j) u) :
  ∀(k i:Nat),i+k<=n->∃vs:List Value,aT w M (eA g i k) vs/\(vs.flatMap (fun u=>u.cells.toList)).length=es*k/\∀j,j<es*k->w.cell? ⟨b,off+es*i+j,ab⟩=(vs.flatMap (fun u=>u.cells.toList))[j]?
 | 0,i,_=>⟨[],by simp[eA,aT],sm,fun j c=>by simp at c⟩
 | k+1,i,q=>by
  obtain⟨u,⟨cs,ty,fr,h,d⟩,l⟩:=c i om;obtain⟨vs,f,m,o⟩:=xA c k (i+1) om;have a:u.cells.toList.length=es/\∀j,j<es->w.cell? ⟨b,off+es*i+j,ab⟩=u.cells.toList[j]?:=by
   match es,d with
   | 1,d =>
    simp only[reads]at d;rw[rR d.2];exact⟨rfl,fun j c=>by
     obtain rfl:j=0:=om
     rw[oD h];simpa using d.1⟩
   | 2,d =>
    simp only[reads]at d;obtain⟨x,y,rfl,_,_,p,f⟩:=d;refine⟨rfl,fun j c=>?_⟩;rw[oD h]
    match j with
    | 0=>simpa [Value.cells]using p
    | 1=>simpa [Value.cells]using f
    | j+2=>omega
  refine⟨u::vs,by simp only[eA,aT];exact⟨l,f⟩,by simp only[dD,CS,a.1,m];rw[eN];omega,fun j c=>?_⟩
  simp only[dD];by_cases e:j<es
  .rw[et (by rw[a.1];exact e)];exact a.2 j e
  .rw[ef (by rw[a.1];omega),a.1,<-o (j-es) (by rw[eN]at c;omega)]
   congr 2;rw[eN];omega
def Cy(r:eM w S){x:AV}{v:Value}(e:bs w S.dom x v){es m:Nat}{h:Nat->AV}{o:Option Nat}(a:Bx S x=some (es,m,h,o))(s:0<m) :
  ∃b off c vs,v=.slice (some ⟨b,off,ab⟩) m c/\aT w S.dom (eA h 0 m) vs/\(vs.flatMap (fun u=>u.cells.toList)).length=es*m/\∀j,j<es*m->w.cell? ⟨b,off+j,ab⟩=(vs.flatMap (fun u=>u.cells.toList))[j]?:=by
 cases x with
 | sl es' b off len =>
  simp only[Bx]at a
  cases k:S b with
  | none=>rw[k]at a;simp at a
  | some X =>
   rw[k]at a;simp only[dE]at a;split at a
   .rename_i l;simp only[eU,ib]at a;obtain⟨rfl,rfl,rfl,_⟩:=a;simp only[bs]at e;obtain⟨cap,cs',ty',fr',rfl,_,_,_⟩:=e;obtain⟨cs,p,t,d,_⟩:=r b X k;obtain⟨vs,q,f,i⟩:=nQ d len off l.2;rw[l.1]at f i;refine⟨b,es'*off,cap,vs,rfl,by rw[xm,cF];exact q,f,fun j d=>?_⟩
    rw[oD p];exact i j d
   .cases a
 | lst es' n g =>
  simp only[Bx,eU,ib]at a;obtain⟨rfl,rfl,rfl,_⟩:=a;simp only[bs]at e;obtain⟨A,c,rfl,l,p⟩:=e;obtain⟨b,off,rfl,_,_,d⟩:=p s;obtain⟨vs,q,f,i⟩:=xA d n 0 om;exact⟨b,off,c,vs,rfl,q,f,fun j d=>by have:=i j d;simpa using this⟩
 | _=>simp[Bx]at a
def nm(g:Nat->AV)(len m:Nat)(h:Nat->AV):Nat->AV:=if m=1 then bW g len (h 0)else fun j=>if j<len then g j else h (j-len)
def D9(a:j<len):nm g len m h j=g j:=by
 unfold nm;split
 .simp only[bW];rw[af om]
 .simp only;rw[ai a]
def yM(a:len<=j)(b:j<len+m):nm g len m h j=h (j-len):=by
 unfold nm;split
 .simp only[bW];rw[ai om];congr 1;omega
 .simp only;rw[af om]
def St.del(S:St)(b:Nat):St:=fun k=>if k=b then ab else S k
def fU(t t':TypeId)(s x:AV)(S:St)(K:AV->St->Prop):Prop:=match dJ t with
 | some e=>t=t'/\(gG e).isSome=true/\(match Bx S x with
  | some (es,m,h,o)=>es=bZ e/\0<m/\(∀j,j<m->eF es (h j))/\(match s with
   | .nil=>m<=1048576/\∀b,S b=ab->K (.sl es b 0 m) (S.upd b ⟨e,es,m,h⟩)
   | .sl es' b off len=>(match S b with
    | some X=>es'=es/\off=0/\X.ty=e/\X.es=es/\X.n=len/\len+m<=1048576/\o≠some b /\
     ∀b',(b'=b∨S b'=ab)->K (.sl es b' 0 (len+m)) ((S.del b).upd b' ⟨e,es,len+m,nm X.g len m h⟩)
    | ab=>False)
   | _=>False)
  | ab=>False)
 | ab=>False
def oL(h:eF es x)(d:bs w M x z)(n k:Nat)(y:Value)(b:(Builtin.zeroCells z.cells n)[k]? = some y):lU y:=by
 obtain⟨g,e,_⟩:=rM h d;simp only[Builtin.zeroCells,UR,cV]at b;obtain⟨i,c,rfl⟩:=b;by_cases f:z.cells.size=0
 .rw[f]at c;simp at c
 .have a:i%z.cells.size<z.cells.size:=dj _ om;rw[getElem!_pos z.cells _ a];exact(e _ sm).2
def dz.drew(M:Nat->Prop)(w:World):dz M M w w.drew:=⟨rfl,rfl,rfl,ae _,fun _ _ _=>rfl,fun _ cs _ _ h=>⟨cs,h,rfl⟩,fun _ _ h=>h⟩
def eM.drew(h:eM w S):eM w.drew S:=⟨h.z,h.grow (dz.drew _ w),fun b X a=>by
 obtain⟨cs,c,d,e,f⟩:=h b X a;exact⟨cs,c,d,fun j g=>by obtain⟨u,i,k⟩:=e j g;exact⟨u,i,bs.grow h.noU (dz.drew _ w) _ _ k⟩,f⟩⟩
def eM.less{S':St}(h:eM w S)(a:∀b X,S' b=some X->S b=some X):eM w S'/\∀k,S'.dom k->S.dom k:=by
 have c:∀k,S'.dom k->S.dom k:=fun k d=>by
  simp only[St.dom]at d ⊢
  cases e:S' k with
  | none=>exact absurd e d
  | some X=>rw[a k X e];simp
 have f:dz S.dom S'.dom w w:=(dz.refl S.dom w).weaken c;refine⟨⟨?_,h.gl,fun b X g=>?_⟩,c⟩
 .cases e:S' 0 with
  | none=>rfl
  | some X=>have:=a 0 X e;rw[h.z]at this;cases this
 obtain⟨cs,i,l,m,n⟩:=h b X (a b X g);exact⟨cs,i,l,fun j o=>by obtain⟨u,p,q⟩:=m j o;exact⟨u,p,bs.grow h.noU f _ _ q⟩,n⟩
def F0(S:St)(b:Nat):∀k X,S.del b k=some X->S k=some X:=by
 intro k X h;simp only[St.del]at h;split at h
 .cases h
 .exact h

def yU{e:TypeId}(h:(gG e).isSome=true):∃x z,gG e=some (bZ e,x,z):=by
 unfold gG at h ⊢;split at h<;>first|exact⟨_,_,rfl⟩|cases h
def Jf(S:St)(b:Nat)(X:eS):(S.del b).upd b X=S.upd b X:=by
 funext k;simp only[St.del,St.upd];split<;>rfl
def nK(z:Array Value)(n:Nat):(Builtin.zeroCells z n).size=n*z.size:=by simp[Builtin.zeroCells]
def lJ{cs:Array Value}
  (a:∀j,j<len->∃u,reads cs (es*j) es u/\bs w M (g j) u) (i:aT w M (eA h 0 m) vs) (d:∀j,j<m->eF es (h j))
  (b:∀q,q<es*m->cs[es*len+q]? = (vs.flatMap (fun u=>u.cells.toList))[q]?) :
  ∀j,j<len+m->∃u,reads cs (es*j) es u/\bs w M (nm g len m h j) u:=by
 intro j l;by_cases c:j<len
 .rw[D9 c];exact a j c
 .rw[yM om l];obtain⟨_,_,_,n⟩:=iM (es:=es) (eA h 0 m) vs i (fun z o=>by
   obtain⟨k,p,rfl⟩:=pk h m 0 z o;rw[aD];exact d k p)
  obtain⟨u,e,r⟩:=n (j-len) (by rw[ky];omega)
  rw[sQ _ _ _ _ om,aD]at e;refine⟨u,?_,e⟩;have:=r cs (es*len) (fun q f=>b q (by rw[ky]at f;exact f))
  rw[<-cg,(om:len+(j-len)=j)]at this
  exact this
def BD(h:fU t t' s x S K){w:World}(J:eM w S){vs vx:Value}(E:bs w S.dom s vs)(hx:bs w S.dom x vx) :
  Er (Builtin.append_ #[t,t'] ty #[vs,vx]) w S K:=by
 unfold fU at h
 cases he:dJ t with
 | none=>rw[he]at h;exact h.elim
 | some e =>
  rw[he]at h;obtain⟨rfl,hze,h⟩:=h;obtain⟨zx,zv,hz⟩:=yU hze;obtain⟨Z,i,hi,l⟩:=jw he;obtain⟨i',g1,g2,g3,g4,g5,g6,g7,g8⟩:=o7 hz;rw[hi]at g1;cases g1
  cases O:Bx S x with
  | none=>rw[O]at h;exact h.elim
  | some p =>
   obtain⟨es,m,f,o⟩:=p;rw[O]at h;obtain⟨rfl,hm,F,h⟩:=h;obtain⟨xb,xo,xc,us,rfl,u1,L,u3⟩:=Cy J hx O hm;obtain⟨_,_,l3,_⟩:=iM (es:=bZ e) (eA f 0 m) us u1 (fun z hz=>by
    obtain⟨k,hk,rfl⟩:=pk f m 0 z hz;rw[aD];exact F k hk)
   generalize Q:us.flatMap (fun u=>u.cells.toList)=fl at *;have r:fl.length=m*i.size:=by rw[L,l,aA]
   have hnews:∀j v,fl[j]? = some v->w.cell? ((⟨xb,xo,ab⟩:Addr).add j)=some v:=fun j v A=>by
    rw[iP,u3 j (by rw[<-L];exact(er.1 A).1)];exact A
   have R:∀(k:Nat) (y:Value),fl[k]? = some y->lU y:=fun k y d=>(l3 y (fL d)).2;have hmb:m*i.bytes<=32*m:=by rw[aA];exact aB _ g4
   cases s with
   | nil =>
    simp only at h;obtain⟨hm2,hK⟩:=h;simp only[bs]at E;subst E;have a:=run_append_nil (P:=ah) w t ty e i zv Z hi g2 ⟨xb,xo,ab⟩ m xc fl r hnews hm om om;have c:=US w m 0 e;generalize grownCap w m 0 e=cap at a c;have hsize:(fl.toArray++Builtin.zeroCells zv.cells (cap-m)).size=bZ e*cap:=by
     rw[ij,nK,co,L,g6,aA (cap-m),<-cg,(om:m+(cap-m)=cap)]
    have B:=lJ (w:=w.drew) (M:=S.dom) (es:=bZ e) (len:=0) (m:=m) (g:=f) (h:=f) (cs:=fl.toArray++Builtin.zeroCells zv.cells (cap-m)) (vs:=us) (fun j A=>om) (aT.grow J.noU (dz.drew _ w) _ _ u1) F (fun q G=>by
     rw[dS,aD,Q,eR (by rw[co,L];exact G)];simp)
    obtain⟨n1,n2,n3⟩:=eM.new (w:=w.drew) J.drew (X:=⟨e,bZ e,m,f⟩) (cs:=fl.toArray++Builtin.zeroCells zv.cells (cap-m)) (by rw[hsize];exact aM _ c)
     (fun j A=>by have:=B j (by simpa using A);rw[yM om (by simpa using A)]at this;simpa using this) (fun k y d=>by
      rw[ld]at d;split at d
      .exact R k y (by simpa using d)
      .exact oL g7 (g8 w S.dom) _ _ _ d)
    refine⟨_,_,_,_,hK _ n1,?_,n2,(dz.drew S.dom w).trans n3,a⟩;simp only[bs];exact⟨cap,_,e,(0,0),by rw[dS];rfl,c,jC w.drew _,by rw[hsize,aD];exact ae _⟩
   | sl es' b off len =>
    simp only at h
    cases hX:S b with
    | none=>rw[hX]at h;exact h.elim
    | some X =>
     rw[hX]at h;obtain⟨rfl,rfl,H,hes,hn,hmax,hob,hK⟩:=h;simp only[bs,dS,aD]at E;obtain⟨cap,cs',ty',fr',rfl,hlc,T,C⟩:=E;obtain⟨cs,W,hcsz,A,hcu⟩:=J b X hX;rw[W]at T;simp only[eU,Obj.cells.injEq]at T;obtain⟨rfl,rfl,rfl⟩:=T;rw[hes,hn]at A hcsz;rw[H]at W;by_cases hroom:len+m<=cap
     .have hf:=Dp (P:=ah) w i.size m ⟨xb,xo,ab⟩ m xc fl r hnews;have n:bZ e*len+fl.length<=cs.size:=by
       rw[L,<-cg];exact bQ (aM _ hroom) C
      have N:=kf ah (b:=b) (off:=len*i.size) (ty:=e) fl w cs 0 W (by rw[l,cF,aA];exact n) (fun u Z=>(l3 u Z).1)
      rw[cF]at N;have a:(Builtin.append_ #[t,t] ty #[.slice (some ⟨b,0,ab⟩) len cap,.slice (some ⟨xb,xo,ab⟩) m xc]).run ah w=.ok (.slice (some ⟨b,0,ab⟩) (len+m) cap) (fS w b (eW cs (len*i.size) fl) e):=by
       simp[Builtin.append_,bL Z,sizeOf,typeInfo,hi,Builtin.lenOf,hroom,hf,iP,N]
      have hcsn:∀q,q<bZ e*m->(eW cs (len*i.size) fl)[bZ e*len+q]? = fl[q]?:=fun q G=>by
       rw[iN _ _ _ _ (by rw[l,aA];exact n),ai (by rw[l,L,aA len];omega)]
       rw[show bZ e*len+q-len*i.size=q by rw[l,aA len];omega]
      have B:=lJ (w:=w) (M:=S.dom) (es:=bZ e) (len:=len) (m:=m) (g:=X.g) (h:=f) (cs:=eW cs (len*i.size) fl) (vs:=us) (fun j D=>by
       obtain⟨u,h5,h6⟩:=A j D;refine⟨u,kR h5 (fun q G=>?_),h6⟩;rw[iN _ _ _ _ (by rw[l,aA];exact n),af]
       rw[l,aA len];have:bZ e*(j+1)<=bZ e*len:=aM _ D;rw[eN]at this;omega) u1 F (fun q G=>by rw[Q];exact hcsn q G)
      have U:=eM.write J hX (X':=⟨e,bZ e,len+m,nm X.g len m f⟩) (cs:=cs) (cs':=eW cs (len*i.size) fl) (by rw[H];exact W) (iG _ _ _) H.symm (by
        rw[iG];exact bQ (aM _ hroom) C) B (fun k y d=>by
        rw[iN _ _ _ _ (by rw[l,aA];exact n)]at d
        split at d
        .exact R _ y d
        .exact hcu k y d)
      rw[H]at U;have hK':=hK b (bF rfl);rw[Jf]at hK';refine⟨_,_,_,_,hK',?_,U.1,U.2,a⟩;simp only[bs,dS,aD];exact⟨cap,eW cs (len*i.size) fl,e,(0,0),rfl,hroom,by rw[jG (gA W),ai rfl],by rw[iG];exact C⟩
     .obtain⟨os,o1,I,o3⟩:=nQ A len 0 om;generalize hol:os.flatMap (fun u=>u.cells.toList)=ol at *;have hob2:(len+m)*i.bytes<=32*(len+m):=by rw[aA];exact aB _ g4
      have a:=run_append_grow (P:=ah) w t ty e i zv Z hi g2 ⟨b,0,ab⟩ len cap ol (by rw[I,l,aA]) (fun j v hjv=>by
        rw[iP,oD W];have:=o3 j (by rw[<-I];exact(er.1 hjv).1)
        rw[dS]at this;rw[this];exact hjv) ⟨xb,xo,ab⟩ m xc fl r hnews om om (growslice_fits om om)
      have c:=US w (len+m) cap e;generalize grownCap w (len+m) cap e=cap2 at a c;have hsize:(ol.toArray++fl.toArray++Builtin.zeroCells zv.cells (cap2-(len+m))).size=bZ e*cap2:=by
       rw[ij,ij,nK,co,co,L,I,g6,aA (cap2-(len+m)),<-cg,<-cg,(om:len+m+(cap2-(len+m))=cap2)]
      have V:∀q,q<bZ e*len->(ol.toArray++fl.toArray++Builtin.zeroCells zv.cells (cap2-(len+m)))[q]? = ol[q]?:=fun q G=>by
       rw[eR (by rw[ij,co,I];omega),eR (by rw[co,I];exact G)];simp
      have B:=lJ (w:=w.drew) (M:=S.dom) (es:=bZ e) (len:=len) (m:=m) (g:=X.g) (h:=f) (cs:=ol.toArray++fl.toArray++Builtin.zeroCells zv.cells (cap2-(len+m))) (vs:=us) (fun j D=>by
        obtain⟨u,h5,h6⟩:=A j D;refine⟨u,kR h5 (fun q G=>?_),bs.grow J.noU (dz.drew _ w) _ _ h6⟩;have hql:bZ e*j+q<bZ e*len:=by
         have:bZ e*(j+1)<=bZ e*len:=aM _ D;rw[eN]at this;omega
        rw[V _ hql,<-o3 _ hql,dS,aD]) (aT.grow J.noU (dz.drew _ w) _ _ u1) F (fun q G=>by
        rw[Q,eR (by rw[ij,co,co,I,L];omega),L4 (by rw[co,I];omega),co,I,(om:bZ e*len+q-bZ e*len=q)];simp)
      have holu:∀(k:Nat) (y:Value),ol[k]? = some y->lU y:=fun k y d=>by
       have hk:k<ol.length:=(er.1 d).1;have:=o3 k (by rw[<-I];exact hk)
       rw[d]at this;exact hcu _ y this
      obtain⟨n1,n2,n3⟩:=eM.new (w:=w.drew) J.drew (X:=⟨e,bZ e,len+m,nm X.g len m f⟩) (cs:=ol.toArray++fl.toArray++Builtin.zeroCells zv.cells (cap2-(len+m))) (by rw[hsize];exact aM _ c) B (fun k y d=>by
        rw[ld]at d;split at d
        .rw[ld]at d;split at d
         .exact holu k y (by simpa using d)
         .exact R _ y (by simpa using d)
        .exact oL g7 (g8 w S.dom) _ _ _ d)
      have hless:=eM.less n2 (S':=(S.del b).upd w.drew.heap.size ⟨e,bZ e,len+m,nm X.g len m f⟩) (fun k Y hY=>by
       simp only[St.upd]at hY ⊢;split at hY
       .rename_i e1;rw[ai e1];exact hY
       .rename_i e1;rw[af e1];exact F0 S b k Y hY)
      refine⟨_,_,_,_,hK _ (bH n1),?_,hless.1,((dz.drew S.dom w).trans n3).weaken hless.2,a⟩;simp only[bs,dS,aD];exact⟨cap2,_,e,(0,0),rfl,c,jC w.drew _,by rw[hsize];exact ae _⟩
   | _=>exact h.elim

def yV(z:Value)(n:Nat):Builtin.zeroCells z.cells n=((bU n z).flatMap (fun u=>u.cells.toList)).toArray:=nf z n
theorem so{w:World}{M:Nat->Prop}{x:AV}{z:Value}(h:bs w M x z):∀n k,aT w M (eA (fun _=>x) k n) (bU n z)
 | 0,_=>by simp[eA,aT]
 | n+1,k=>by simp only[eA,kb,aT];exact⟨h,so h n (k+1)⟩
def ob(t:TypeId)(s x:AV)(S:St)(K:AV->St->Prop):Prop:=match s,x with
 | .sl es b off len,.int _ (.ofNat m)=>(match dJ t,S b with
  | some e,some X=>(match gG e with
   | some (es',z,_)=>es'=es/\es=bZ e/\off=0/\X.ty=e/\X.es=es/\X.n=len/\1<=m/\len+m<=1048576 /\
    ∀b',(b'=b∨S b'=ab)->K (.sl es b' 0 (len+m)) ((S.del b).upd b' ⟨e,es,len+m,nm X.g len m (fun _=>z)⟩)
   | ab=>False)
  | _,_=>False)
 | _,_=>False
def AM(h:ob t s x S K){w:World}(N:eM w S){vs vx:Value}(O:bs w S.dom s vs)(hx:bs w S.dom x vx) :
  Er (Builtin.append_ #[t,3] ty #[vs,vx]) w S K:=by
 unfold ob at h;split at h
 .rename_i es0 b off len k m
  cases he:dJ t with
  | none=>rw[he]at h;exact h.elim
  | some e =>
  cases hX:S b with
  | none=>rw[he,hX]at h;exact h.elim
  | some X =>
   rw[he,hX]at h;simp only at h
   cases Q:gG e with
   | none=>rw[Q]at h;exact h.elim
   | some p =>
   obtain⟨es',zx,zv⟩:=p;rw[Q]at h;obtain⟨rfl,rfl,rfl,A,hes,hn,hm,hmax,hK⟩:=h;obtain⟨hu,i,hi,a⟩:=jw he;obtain⟨i',g1,g2,g3,g4,g5,g6,g7,g8⟩:=o7 Q;rw[hi]at g1;cases g1;have h3u:=underlying3;simp only[bs]at hx;subst hx;have hx3:Int.ofNat m=(m:Int):=rfl;rw[hx3];have R:m≠0:=om
   have u1:=so (g8 w S.dom) m 0;generalize hff:(fun _:Nat=>zx)=f at *;have D:∀j,j<m->eF (bZ e) (f j):=fun j T=>by rw[<-hff];exact g7
   obtain⟨_,U,l3,_⟩:=iM (es:=bZ e) (eA f 0 m) (bU m zv) u1 (fun z Q=>by
    obtain⟨k,hk,rfl⟩:=pk f m 0 z Q;rw[aD];exact D k hk)
   have V:=yV zv m;generalize hus:bU m zv=us at *;generalize W:us.flatMap (fun u=>u.cells.toList)=fl at *;rw[ky]at U;have Z:∀(k:Nat) (y:Value),fl[k]? = some y->lU y:=fun k y c=>(l3 y (fL c)).2;have hwm:IntKind.i64.wrap (m:Int)=m:=by rw[me];omega
   have hmb:m*i.bytes<=32*m:=by rw[aA];exact aB _ g4
   have hib:¬(281474976710656<(m:Int)*(i.bytes:Int)):=by rw[<-bD];omega
   have hm0:¬((m:Int)<0):=om
   have hi1:i.size≠0:=by rw[a];unfold bZ;split<;>omega
   simp only[bs,dS,aD]at O;obtain⟨cap,cs',ty',fr',rfl,hlc,E,n⟩:=O;obtain⟨cs,L,hcsz,T,hcu⟩:=N b X hX;rw[L]at E;simp only[eU,Obj.cells.injEq]at E;obtain⟨rfl,rfl,rfl⟩:=E;rw[hes,hn]at T hcsz;rw[A]at L;by_cases hroom:len+m<=cap
   .have R:m≠0:=om
    have l:bZ e*len+fl.length<=cs.size:=by
     rw[U,<-cg];exact bQ (aM _ hroom) n
    have C:=kf ah (b:=b) (off:=len*i.size) (ty:=e) fl w cs 0 L (by rw[a,cF,aA];exact l) (fun u hu=>(l3 u hu).1)
    rw[cF]at C;have F:(storeCells ⟨b,len*i.size,ab⟩ fl).run ah w=.ok () (fS w b (eW cs (len*i.size) fl) e):=C;have d:(Builtin.append_ #[t,3] ty #[.slice (some ⟨b,0,ab⟩) len cap,.int k (m:Int)]).run ah w=.ok (.slice (some ⟨b,0,ab⟩) (len+m) cap) (fS w b (eW cs (len*i.size) fl) e):=by
     simp[Builtin.append_,bL hu,bL h3u,sizeOf,typeInfo,hi,asInt,asIntOf,hwm,hm0,hib,zeroValue,g2,V,hroom,iP,F];intro h0;exact absurd h0 (Nat.mul_ne_zero R hi1)
    have hcsn:∀q,q<bZ e*m->(eW cs (len*i.size) fl)[bZ e*len+q]? = fl[q]?:=fun q G=>by
     rw[iN _ _ _ _ (by rw[a,aA];exact l),ai (by rw[a,U,aA len];omega)]
     rw[show bZ e*len+q-len*i.size=q by rw[a,aA len];omega]
    have H:=lJ (w:=w) (M:=S.dom) (es:=bZ e) (len:=len) (m:=m) (g:=X.g) (h:=f) (cs:=eW cs (len*i.size) fl) (vs:=us) (fun j o=>by
     obtain⟨u,h5,h6⟩:=T j o;refine⟨u,kR h5 (fun q G=>?_),h6⟩;rw[iN _ _ _ _ (by rw[a,aA];exact l),af]
     rw[a,aA len];have:bZ e*(j+1)<=bZ e*len:=aM _ o;rw[eN]at this;omega) u1 D (fun q G=>by rw[W];exact hcsn q G)
    have I:=eM.write N hX (X':=⟨e,bZ e,len+m,nm X.g len m f⟩) (cs:=cs) (cs':=eW cs (len*i.size) fl) (by rw[A];exact L) (iG _ _ _) A.symm (by
      rw[iG];exact bQ (aM _ hroom) n) H (fun k y c=>by
      rw[iN _ _ _ _ (by rw[a,aA];exact l)]at c
      split at c
      .exact Z _ y c
      .exact hcu k y c)
    rw[A]at I;have hK':=hK b (bF rfl);rw[Jf]at hK';refine⟨_,_,_,_,hK',?_,I.1,I.2,d⟩;simp only[bs,dS,aD];exact⟨cap,eW cs (len*i.size) fl,e,(0,0),rfl,hroom,by rw[jG (gA L),ai rfl],by rw[iG];exact n⟩
   .obtain⟨os,o1,B,o3⟩:=nQ T len 0 om;generalize hol:os.flatMap (fun u=>u.cells.toList)=ol at *;have hob2:(len+m)*i.bytes<=32*(len+m):=by rw[aA];exact aB _ g4
    have d:=Lib.run_append_grow_zeros (P:=ah) w t 3 ty e i zv k .i64 hu h3u hi g2 (some ⟨b,0,ab⟩) len cap ol (Dp (P:=ah) w.drew i.size len ⟨b,0,ab⟩ len cap ol (by rw[B,a,aA]) (fun j v hjv=>by
      rw[iP];have hbd:w.drew.heap[b]? = some (.cells cs e (0,0)):=L;rw[oD hbd];have:=o3 j (by rw[<-B];exact(er.1 hjv).1)
      rw[dS]at this;rw[this];exact hjv)) m om (by rw[a];unfold bZ;split<;>omega) om om om (growslice_fits om om)
    rw[V]at d;have r:=US w (len+m) cap e;generalize grownCap w (len+m) cap e=cap2 at d r;have hsize:(ol.toArray++fl.toArray++Builtin.zeroCells zv.cells (cap2-(len+m))).size=bZ e*cap2:=by
     rw[ij,ij,nK,co,co,U,B,g6,aA (cap2-(len+m)),<-cg,<-cg,(om:len+m+(cap2-(len+m))=cap2)]
    have J:∀q,q<bZ e*len->(ol.toArray++fl.toArray++Builtin.zeroCells zv.cells (cap2-(len+m)))[q]? = ol[q]?:=fun q G=>by
     rw[eR (by rw[ij,co,B];omega),eR (by rw[co,B];exact G)];simp
    have H:=lJ (w:=w.drew) (M:=S.dom) (es:=bZ e) (len:=len) (m:=m) (g:=X.g) (h:=f) (cs:=ol.toArray++fl.toArray++Builtin.zeroCells zv.cells (cap2-(len+m))) (vs:=us) (fun j o=>by
      obtain⟨u,h5,h6⟩:=T j o;refine⟨u,kR h5 (fun q G=>?_),bs.grow N.noU (dz.drew _ w) _ _ h6⟩;have hql:bZ e*j+q<bZ e*len:=by
       have:bZ e*(j+1)<=bZ e*len:=aM _ o;rw[eN]at this;omega
      rw[J _ hql,<-o3 _ hql,dS,aD]) (aT.grow N.noU (dz.drew _ w) _ _ u1) D (fun q G=>by
      rw[W,eR (by rw[ij,co,co,B,U];omega),L4 (by rw[co,B];omega),co,B,(om:bZ e*len+q-bZ e*len=q)];simp)
    have holu:∀(k:Nat) (y:Value),ol[k]? = some y->lU y:=fun k y c=>by
     have hk:k<ol.length:=(er.1 c).1;have:=o3 k (by rw[<-B];exact hk)
     rw[c]at this;exact hcu _ y this
    obtain⟨n1,n2,n3⟩:=eM.new (w:=w.drew) N.drew (X:=⟨e,bZ e,len+m,nm X.g len m f⟩) (cs:=ol.toArray++fl.toArray++Builtin.zeroCells zv.cells (cap2-(len+m))) (by rw[hsize];exact aM _ r) H (fun k y c=>by
      rw[ld]at c;split at c
      .rw[ld]at c;split at c
       .exact holu k y (by simpa using c)
       .exact Z _ y (by simpa using c)
      .exact oL g7 (g8 w S.dom) _ _ _ c)
    have hless:=eM.less n2 (S':=(S.del b).upd w.drew.heap.size ⟨e,bZ e,len+m,nm X.g len m f⟩) (fun k Y hY=>by
     simp only[St.upd]at hY ⊢;split at hY
     .rename_i e1;rw[ai e1];exact hY
     .rename_i e1;rw[af e1];exact F0 S b k Y hY)
    refine⟨_,_,_,_,hK _ (bH n1),?_,hless.1,((dz.drew S.dom w).trans n3).weaken hless.2,d⟩;simp only[bs,dS,aD];exact⟨cap2,_,e,(0,0),rfl,r,jC w.drew _,by rw[hsize];exact ae _⟩
 .exact h.elim

def uL(len:Nat)(lo hi mx:Option AV)(K:Nat->Nat->Prop):Prop :=
 ∃l h:Nat,(match lo with|ab=>l=0|some (.int _ a)=>a=(l:Int)|_=>False)/\(match hi with|ab=>h=len|some (.int _ a)=>a=(h:Int)|_=>False) /\
  (match mx with|ab=>True|some (.int _ a)=>(h:Int)<=a/\a<=(len:Int)/\hi.isSome=true|_=>False)/\l<=h/\h<=len/\K l h
def lj(t:TypeId)(x:AV)(lo hi mx:Option AV)(K:AV->Prop):Prop:=match dJ t,x with
 | some e,.sl es b off len=>es=bZ e/\uL len lo hi mx (fun l h=>K (if l=0∨l<h then .sl es b (off+l) (h-l)else .lst es 0 (fun _=>.any)))
 | some e,.lst es n g=>es=bZ e/\uL n lo hi mx (fun l h=>K (.lst es (h-l) (fun j=>g (l+j))))
 | some _,.nil=>uL 0 lo hi mx (fun _ _=>K .nil)
 | _,_=>False
def th(w:World)(M:Nat->Prop):Option AV->Option Value->Prop
 | ab,ab=>True
 | some x,some v=>bs w M x v
 | _,_=>False
def sS{cap:Nat}(B:len<=cap){lo j mx:Option AV}{K:Nat->Nat->Prop}(h:uL len lo j mx K){vl vh vm:Option Value}(b:th w M lo vl)(f:th w M j vh)(o:th w M mx vm) :
  ∃l h m:Nat,K l h/\l<=h/\h<=len/\h<=m/\m<=cap/\(Instr.sliceBounds true len cap vl vh vm).run ah w=.ok (l,h,m) w:=by
 obtain⟨l,h,d,e,p,g,q,r⟩:=h;have bnd:∀(a:Int) (k:IntKind) (n:Nat) (y:Nat) (c:BoundsCode),a=(n:Int)->n<=y->(Instr.sliceBound (.int k a) y c).run ah w=.ok n w:=by
  intro a k n y c s t;subst s;have:(0:Int)<=n/\(n:Int)<=(y:Int):=om
  simp[Instr.sliceBound,asIntOf,t]
 cases mx with
 | none =>
  cases vm with
  | some _=>exact o.elim
  | none =>
   refine⟨l,h,cap,r,g,q,om,ae _,?_⟩
   cases j with
   | none =>
    cases vh with
    | some _=>exact f.elim
    | none =>
     simp only at e;subst e
     cases lo with
     | none =>
      cases vl with
      | some _=>exact b.elim
      | none=>simp only at d;subst d;simp[Instr.sliceBounds]
     | some x =>
      cases vl with
      | none=>exact b.elim
      | some v =>
       cases x<;>simp only at d
       simp only[th,bs]at b;subst b;simp[Instr.sliceBounds,bnd _ _ l h _ d g]
   | some y =>
    cases vh with
    | none=>exact f.elim
    | some u =>
     cases y<;>simp only at e
     simp only[th,bs]at f;subst f
     cases lo with
     | none =>
      cases vl with
      | some _=>exact b.elim
      | none=>simp only at d;subst d;simp[Instr.sliceBounds,bnd _ _ h cap _ e om]
     | some x =>
      cases vl with
      | none=>exact b.elim
      | some v =>
       cases x<;>simp only at d
       simp only[th,bs]at b;subst b;simp[Instr.sliceBounds,bnd _ _ h cap _ e om,bnd _ _ l h _ d g]
 | some z =>
  cases vm with
  | none=>exact o.elim
  | some C =>
   cases z<;>simp only at p
   rename_i km am;simp only[th,bs]at o;subst o;obtain⟨D,E,A⟩:=p
   cases j with
   | none=>simp at A
   | some y =>
    cases vh with
    | none=>exact f.elim
    | some u =>
     cases y<;>simp only at e
     simp only[th,bs]at f;subst f;refine⟨l,h,am.toNat,r,g,q,om,om,?_⟩
     have i:=bnd am km am.toNat cap .slice3Acap om om
     cases lo with
     | none =>
      cases vl with
      | some _=>exact b.elim
      | none=>simp only at d;subst d;simp[Instr.sliceBounds,i,bnd _ _ h am.toNat _ e om]
     | some x =>
      cases vl with
      | none=>exact b.elim
      | some v =>
       cases x<;>simp only at d
       simp only[th,bs]at b;subst b;simp[Instr.sliceBounds,i,bnd _ _ h am.toNat _ e om,bnd _ _ l h _ d g]
def uD{lo hi mx:Option AV}{K:AV->Prop}(h:lj t x lo hi mx K){w:World}{M:Nat->Prop}{v:Value}{vl vh vm:Option Value}(k:bs w M x v)(y:th w M lo vl)(B:th w M hi vh)(C:th w M mx vm) :
  ∃z u,K z/\bs w M z u/\(Instr.sliceAt t v vl vh vm).run ah w=.ok u w:=by
 unfold lj at h;split at h
 .rename_i e es b off len o;obtain⟨rfl,D⟩:=h;obtain⟨p,i,c,s⟩:=jw o;simp only[bs]at k;obtain⟨cap,cs,ty,fr,rfl,E,hheap,F⟩:=k;obtain⟨l,h,m,q,J,L,N,O,a⟩:=sS E D y B C;have d:(Instr.sliceAt t (.slice (some ⟨b,bZ e*off,ab⟩) len cap) vl vh vm).run ah w=.ok (.slice (if m=l then some ⟨b,bZ e*off,ab⟩else some ⟨b,bZ e*off+l*bZ e,ab⟩) (h-l) (m-l)) w:=by
   simp[Instr.sliceAt,bL p,Instr.slice,a,c9 c,s,iP]
  refine⟨_,_,q,?_,d⟩;by_cases f:l=0∨l<h
  .rw[ai f];simp only[bs];refine⟨m-l,cs,ty,fr,?_,om,hheap,bQ (aM _ om) F⟩
   rcases f with rfl|f
   .simp
   .rw[af om,cg,aA l]
  .rw[af f];simp only[bs];exact⟨_,m-l,by rw[(om:h-l=0)],om,fun P=>absurd P om⟩
 .rename_i e es n g o;obtain⟨rfl,D⟩:=h;obtain⟨p,i,c,s⟩:=jw o;simp only[bs]at k;obtain⟨A,cap,rfl,E,G⟩:=k;obtain⟨l,h,m,q,J,L,N,O,a⟩:=sS E D y B C;have d:(Instr.sliceAt t (.slice A n cap) vl vh vm).run ah w=.ok (.slice (if m=l then A else A.map (·.add (l*bZ e))) (h-l) (m-l)) w:=by
   simp[Instr.sliceAt,bL p,Instr.slice,a,c9 c,s]
  refine⟨_,_,q,?_,d⟩;simp only[bs];refine⟨_,m-l,rfl,om,fun P=>?_⟩
  obtain⟨b,off,rfl,H,Q,R⟩:=G om;rw[af om];refine⟨b,off+l*bZ e,by simp[iP],H,Q,fun j S=>?_⟩
  obtain⟨u,r,I⟩:=R (l+j) om;refine⟨u,?_,I⟩;rw[cg,aA (bZ e) l,<-kW]at r;exact r
 .rename_i e o;obtain⟨p,i,c,s⟩:=jw o;simp only[bs]at k;subst k;obtain⟨l,h',m,q,J,L,N,O,a⟩:=sS (ae 0) h y B C;obtain rfl:l=0:=om
  obtain rfl:h'=0:=om
  obtain rfl:m=0:=om
  exact⟨_,.slice ab 0 0,q,by simp[bs],by simp[Instr.sliceAt,bL p,Instr.slice,a,c9 c]⟩
 .exact h.elim
def Ed(t:TypeId)(x:AV)(K:AV->Prop):Prop:=match dJ t,x with
 | some _,.sl _ _ _ len=>K (.int .i64 len)
 | some _,.lst _ n _=>K (.int .i64 n)
 | some _,.nil=>K (.int .i64 0)
 | ab,.mag n=>t=48/\K (.int .i64 (nl n))
 | _,_=>False
def AJ{K:AV->Prop}(h:Ed t x K){w:World}{M:Nat->Prop}{v:Value}(a:bs w M x v) :
  ∃z u,K z/\bs w M z u/\(Builtin.len_ #[t] ty #[v]).run ah w=.ok u w:=by
 unfold Ed at h;split at h
 .rename_i e es b off len d;obtain⟨f,_⟩:=jw d;simp only[bs]at a;obtain⟨cap,cs,ty,fr,rfl,_⟩:=a;exact⟨_,.int .i64 len,h,by simp[bs],by simp[Builtin.len_,bL f,goInt]⟩
 .rename_i e es n g d;obtain⟨f,_⟩:=jw d;simp only[bs]at a;obtain⟨A,c,rfl,_⟩:=a;exact⟨_,.int .i64 n,h,by simp[bs],by simp[Builtin.len_,bL f,goInt]⟩
 .rename_i e d;obtain⟨f,_⟩:=jw d;simp only[bs]at a;subst a;exact⟨_,.int .i64 0,h,by simp[bs],by simp[Builtin.len_,bL f,goInt]⟩
 .rename_i n d;obtain⟨rfl,h⟩:=h;simp only[bs]at a;obtain⟨neg,A,k,c,xs,e,i,j,l,m⟩:=a
  cases e
  have o:k=nl n:=by
   rw[aJ j l];congr 1;simp[sg]at m;omega
  rw[<-o]at h;exact⟨_,.int .i64 k,h,by simp[bs],by simp[Builtin.len_,bL fV,goInt]⟩
 .exact h.elim
def sG(t:TypeId)(d s:AV)(S:St)(K:AV->St->Prop):Prop:=match dJ t,d with
 | some e,.sl es b off len=>(match S b,Bx S s with
  | some X,some (es',m,h,_)=>es=bZ e/\es'=es/\X.es=es/\off+len<=X.n/\m=len/\0<m/\(∀j,j<m->eF es (h j)) /\
   K (.int .i64 len) (S.upd b { X with g:=fun j=>if off<=j/\j<off+len then h (j-off)else X.g j })
  | _,_=>False)
 | _,_=>False
def Gj{d:AV}(h:sG t d s S K){w:World}(D:eM w S){vd vs:Value}(E:bs w S.dom d vd)(r:bs w S.dom s vs) :
  Er (Builtin.copy_ #[t,t'] ty #[vd,vs]) w S K:=by
 unfold sG at h;split at h
 .rename_i e es b off len I;obtain⟨J,i,L,x⟩:=jw I;split at h
  .rename_i X es' m f o M y;obtain⟨rfl,rfl,l,N,rfl,O,A,F⟩:=h;obtain⟨xb,xo,xc,us,rfl,Q,G,R⟩:=Cy D r y O;simp only[bs]at E;obtain⟨cap,cs',ty',fr',rfl,_,_,_⟩:=E;have n:∀z∈eA f 0 m,eF X.es z:=fun z T=>by
    obtain⟨k,U,rfl⟩:=pk f m 0 z T;rw[aD,l];exact A k U
   obtain⟨cs,V,a,W,B,C⟩:=qV D M (eA f 0 m) us Q n off (by rw[ky];exact N)
   rw[l]at a B C;generalize hfl:us.flatMap (fun u=>u.cells.toList)=fl at *;have p:fl.length=m*i.size:=by rw[G,x,aA]
   have Y:=Dp (P:=ah) w i.size m ⟨xb,xo,ab⟩ m xc fl p (fun j v H=>by
    rw[iP,R j (by rw[<-G];exact(er.1 H).1)];exact H)
   have c:=kf ah (b:=b) (off:=bZ e*off) (ty:=X.ty) fl w cs 0 V (by rw[cF];exact a) W
   rw[cF]at c;have q:(Builtin.copy_ #[t,t'] ty #[.slice (some ⟨b,bZ e*off,ab⟩) m cap,.slice (some ⟨xb,xo,ab⟩) m xc]).run ah w=.ok (.int .i64 m) (fS w b (eW cs (bZ e*off) fl) X.ty):=by
    simp[Builtin.copy_,bL J,Builtin.lenOf,c9 L,Y,c,goInt]
   have Z:iW X.g off (eA f 0 m)=fun j=>if off<=j/\j<off+m then f (j-off)else X.g j:=by
    funext j;simp only[iW,ky];split
    .rw[sQ _ _ _ _ om,aD]
    .rfl
   rw[Z]at B C;rw[l]at F;exact⟨_,.int .i64 m,_,_,F,by simp[bs],B,C,q⟩
  .exact h.elim
 .exact h.elim

theorem uf(off:Nat):∀(l:List Value) (k:Nat) (cs:Array Value),(l.zipIdx k).foldl (fun(cs:Array Value) (p:Value×Nat)=>cs.setIfInBounds (off+p.2) p.1) cs=eW cs (off+k) l
 | [],_,_=>rfl
 | v::l,k,cs=>by
  simp only[List.zipIdx_cons,List.foldl_cons,eW];rw[uf off l (k+1)];rfl
def eT(k:Nat):List AV->List (Nat×AV)
 | []=>[]
 | x::l=>(k,x)::eT (k+1) l
def l0(k:Nat):List Value->List (Nat×Value)
 | []=>[]
 | x::l=>(k,x)::l0 (k+1) l
theorem sj:∀(a b:List Value) (cs:Array Value) (o:Nat),eW cs o (a++b)=eW (eW cs o a) (o+a.length) b
 | [],b,cs,o=>by simp[eW]
 | x::a,b,cs,o=>by simp only[lO,eW,cq];rw[sj a b];congr 1;omega
theorem Fn{w:World}{M:Nat->Prop}{es:Nat}:∀(l:List AV) (vs:List Value) (k:Nat) (cs:Array Value),aT w M l vs->(∀z∈l,eF es z)->es*(k+l.length)<=cs.size ->
  Instr.fill (fun i=>some (i*es,es)) cs (l0 k vs)=some (eW cs (es*k) (vs.flatMap (fun u=>u.cells.toList)))
 | [],[],k,cs,_,_,_=>by simp[l0,Instr.fill,eW]
 | a::l,v::vs,k,cs,b,f,d=>by
  simp only[aT]at b;obtain⟨g,_,_⟩:=rM (f a (eH ..)) b.1;simp only[cq]at d;have n:es*(k+1)<=cs.size:=bQ (aM _ om) d;have m:¬(cs.size<k*es+es):=by rw[eN,aA]at n;omega
  have ih:=Fn l vs (k+1) (eW cs (k*es) v.cells.toList) b.2 (fun z o=>f z (dT _ o)) (by rw[iG];rw[(om:k+1+l.length=k+(l.length+1))];exact d)
  have q:v.cells.zipIdx.foldl (fun(cs:Array Value) (p:Value×Nat)=>cs.setIfInBounds (k*es+p.2) p.1) cs=eW cs (k*es) v.cells.toList:=by
   rw[<-Array.foldl_toList,Array.toList_zipIdx,uf];rfl
  simp only[l0,Instr.fill];rw[af (by simp[g];omega)]
  have e:(v.cells.zipIdx.foldl (fun(cs:Array Value) x=>match x with|(c,j)=>cs.setIfInBounds (k*es+j) c) cs)=eW cs (k*es) v.cells.toList:=q
  rw[e,ih,dD,sj,aA k es];congr 2;rw[UH,g,eN]
 | [],_::_,_,_,h,_,_=>by simp[aT]at h
 | _::_,[],_,_,h,_,_=>by simp[aT]at h
def Dn(cs:Array Value)(l:List Value)(h:cs.size=l.length):eW cs 0 l=l.toArray:=by
 apply qT;intro i;rw[iN _ _ _ _ om];split
 .simp
 .rename_i a;rw[eC om,eC (by simp;omega)]
def dG(t:TypeId)(n:Nat)(ps:List (Nat×AV))(S:St)(K:AV->St->Prop):Prop:=match dJ t with
 | some e=>ps=eT 0 (ps.map (·.2))/\ps.length=n/\n<=16/\(gG e).isSome=true/\(∀p∈ps,eF (bZ e) p.2)/\∀b,S b=ab->K (.sl (bZ e) b 0 n) (S.upd b ⟨e,bZ e,n,fun j=>(ps.map (·.2)).getD j .any⟩)
 | ab=>False
def qm(w:World)(M:Nat->Prop):List (Nat×AV)->List (Nat×Value)->Prop
 | [],[]=>True
 | p::l,q::r=>p.1=q.1/\bs w M p.2 q.2/\qm w M l r
 | _,_=>False
theorem ql{w:World}{M:Nat->Prop}:∀(ps:List (Nat×AV)) (qs:List (Nat×Value)),qm w M ps qs->aT w M (ps.map (·.2)) (qs.map (·.2))/\∀k,ps=eT k (ps.map (·.2))->qs=l0 k (qs.map (·.2))
 | [],[],_=>⟨by simp[aT],fun _ _=>rfl⟩
 | p::l,q::r,h=>by
  simp only[qm]at h;obtain⟨b,c⟩:=ql l r h.2.2;refine⟨by simp only[cU,aT];exact⟨h.2.1,b⟩,fun k a=>?_⟩
  simp only[cU,eT,jH]at a;simp only[cU,l0,jH];refine⟨?_,c (k+1) a.2⟩;have:=a.1;obtain⟨d,e⟩:=p;obtain⟨f,g⟩:=q;simp at this h;simp[<-h.1,this]
 | [],_::_,h=>h.elim
 | _::_,[],h=>h.elim
def rt{e:TypeId}(C:dJ t=some e)(l:ps=eT 0 (ps.map (·.2)))(c:ps.length=n)(D:n<=16)(m:(gG e).isSome=true)(o:∀p∈ps,eF (bZ e) p.2){w:World}(E:eM w S){qs:List (Nat×Value)}(F:qm w S.dom ps qs) :
  (Instr.buildSlice t n qs.toArray).run ah w=.ok (.slice (some ⟨w.heap.size,0,ab⟩) n n) (w.alloc (.cells ((qs.map (·.2)).flatMap (fun u=>u.cells.toList)).toArray e)):=by
 obtain⟨v,i,h,a⟩:=jw C;obtain⟨zx,zv,k⟩:=yU m;obtain⟨i',x,G,L,M,N,O,P,Q⟩:=o7 k;rw[h]at x;cases x;obtain⟨y,H⟩:=ql ps qs F;have q:=H 0 l;have d:(ps.map (·.2)).length=n:=by simp[c]
 generalize hxs:ps.map (·.2)=xs at *
 generalize hvs:qs.map (·.2)=vs at *
 have b:∀z∈xs,eF (bZ e) z:=fun z k=>by
  rw[<-hxs]at k;obtain⟨p,r,rfl⟩:=ie.1 k;exact o p r
 obtain⟨R,I,J,A⟩:=l7 E e xs vs y b;rw[d]at I J A;have f:bZ e<=2:=by unfold bZ;split<;>omega
 have B:n*bZ e<=32:=bQ (a9 D f) om;have hsmall:¬(16777216<n*i.size):=by rw[a];omega
 have hfill:∀cs:Array Value,cs.size=n*i.size->Instr.fill (fun j=>some (j*i.size,i.size)) cs qs=some (vs.flatMap (fun u=>u.cells.toList)).toArray:=by
  intro cs g;rw[q,a,Fn xs vs 0 cs y b (by rw[g,a,aD,d,aA];exact ae _),dS,Dn _ _ (by rw[g,a,A,aA])]
 by_cases s:n*i.size=0
 .have hfill0:=hfill (Array.map (fun _=>default) (Array.range 0)) (by simp[s])
  simp[Instr.buildSlice,bL v,c9 h,s,newRow,hfill0]
 .have hfill1:=hfill ((Array.range (n*i.size)).map (zv.cells[· % zv.cells.size]!)) sm
  simp[Instr.buildSlice,bL v,c9 h,hsmall,newRow,zeroValue,typeInfo,h,G,hfill1];intro K;exact absurd K s
def uK(h:dG t n ps S K){w:World}(l:eM w S){qs:List (Nat×Value)}(m:qm w S.dom ps qs) :
  Er (Instr.buildSlice t n qs.toArray) w S K:=by
 unfold dG at h
 cases f:dJ t with
 | none=>rw[f]at h;exact h.elim
 | some e =>
  rw[f]at h;obtain⟨g,a,s,i,b,u⟩:=h;have c:=rt f g a s i b l m;obtain⟨v,_⟩:=ql ps qs m;have j:(ps.map (·.2)).length=n:=by simp[a]
  have d:∀z∈ps.map (·.2),eF (bZ e) z:=fun z x=>by
   obtain⟨p,k,rfl⟩:=ie.1 x;exact b p k
  obtain⟨y,o,q,r⟩:=l7 l e _ _ v d;rw[j]at o q r;refine⟨_,_,_,_,u _ y,?_,o,q,c⟩;simp only[bs,dS,aD];exact⟨n,_,e,(0,0),rfl,ae _,jC w _,by rw[co,r];exact ae _⟩
def eV(t:TypeId)(n:Nat)(ps:List (Nat×AV))(z:AV):Prop:=match dJ t with
 | some e=>ps=eT 0 (ps.map (·.2))/\ps.length=n/\n<=16/\(gG e).isSome=true/\(∀p∈ps,eF (bZ e) p.2)/\z=.lst (bZ e) n (fun j=>(ps.map (·.2)).getD j .any)
 | ab=>False
def t9{z:AV}(h:eV t n ps z){w:World}(i:eM w S){qs:List (Nat×Value)}(s:qm w S.dom ps qs) :
  ∃v w',(Instr.buildSlice t n qs.toArray).run ah w=.ok v w'/\bs w' S.dom z v/\dz (fun _=>False) (fun _=>False) w w':=by
 unfold eV at h
 cases l:dJ t with
 | none=>rw[l]at h;exact h.elim
 | some e =>
  rw[l]at h;obtain⟨m,a,B,o,d,rfl⟩:=h;have f:=rt l m a B o d i s;obtain⟨x,_⟩:=ql ps qs s;have C:(ps.map (·.2)).length=n:=by simp[a]
  have b:∀z∈ps.map (·.2),eF (bZ e) z:=fun z E=>by
   obtain⟨p,r,rfl⟩:=ie.1 E;exact d p r
  obtain⟨F,L,M,N⟩:=l7 i e _ _ x b;obtain⟨O,P,Q,G⟩:=iM (ps.map (·.2)) (qs.map (·.2)) x b
  generalize hcs:((qs.map (·.2)).flatMap (fun u=>u.cells.toList))=cs at *
  have H:(w.alloc (.cells cs.toArray e)).heap.size=w.heap.size+1:=by simp
  have hkeep:∀k,k<w.heap.size->(w.alloc (.cells cs.toArray e)).heap[k]? = w.heap[k]?:=fun k g=>by
   show(w.heap.push _)[k]? = _;rw[Array.getElem?_push_lt g,cw g]
  have y:∀D:Nat->Prop,dz D D w (w.alloc (.cells cs.toArray e)):=fun D=>⟨rfl,rfl,rfl,om,fun k g _=>hkeep k g,fun k c ty fr A=>⟨c,by rw[hkeep k (gA A)];exact A,rfl⟩,fun _ _ h=>h⟩
  refine⟨_,_,f,?_,y _⟩;simp only[bs];refine⟨_,n,rfl,ae _,fun _=>⟨w.heap.size,0,rfl,om,fun I=>I F,fun j R=>?_⟩⟩
  obtain⟨u,J,K⟩:=G j om;refine⟨u,⟨cs.toArray,e,(0,0),jC w _,K cs.toArray 0 (fun q T=>by simp)⟩,bs.grow i.noU (y _) _ _ J⟩
def RI(op:UnOp)(x:AV)(K:AV->Prop):Prop:=match op,x with
 | .neg,.int k n=>K (.int k (k.wrap (0-n)))
 | .not,.bool b=>K (.bool (!b))
 | _,_=>False
def CL{K:AV->Prop}(h:RI op x K){w:World}{M:Nat->Prop}{v:Value}(a:bs w M x v):∃z u,K z/\bs w M z u/\(Op.unary op v).run ah w=.ok u w:=by
 unfold RI at h;split at h
 .rename_i k n;simp only[bs]at a;subst a;exact⟨_,.int k (k.wrap (0-n)),h,by simp[bs],by simp[Op.unary,Op.intArith]⟩
 .rename_i b;simp only[bs]at a;subst a;exact⟨_,.bool (!b),h,by simp[bs],by simp[Op.unary]⟩
 .exact h.elim
def tZ:TypeId->Option IntKind
 | 2=>some .i64
 | 3=>some .i64
 | 5=>some .u8
 | 34=>some .i64
 | 97=>some .u64
 | _=>ab
def kChk(P:Program)(s t:TypeId):Option IntKind:=match P.underlying s,P.underlying t with
 | some _,some (.int k)=>some k
 | _,_=>ab
def Bo(s:TypeId):Bool:=s==2||s==3||s==5||s==25||s==41||s==97
def uH(s d:TypeId)(x:AV)(K:AV->Prop):Prop:=match tZ d,x with
 | some k,.int _ n=>Bo s=true/\K (.int k (k.wrap n))
 | _,_=>False
def PW{s:TypeId}(e:Bo s=true)(c:tZ d=some k):∃u,ah.underlying s=some u/\ah.underlying d=some (.int k):=by
 have f:∀u,(ah.underlying s).isSome=true->ah.underlying d=some u->∃x,ah.underlying s=some x/\ah.underlying d=some u:=fun u a b=>⟨_,Option.eq_some_of_isSome a,b⟩;refine f _ ?_ ?_
 .unfold Bo at e;simp only[gM,vu]at e;rcases e with ((((rfl|rfl)|rfl)|rfl)|rfl)|rfl<;>kernel_rfl
 .unfold tZ at c;split at c<;>first|(cases c;kernel_rfl)|cases c
def xM{s:TypeId}{K:AV->Prop}(h:uH s d x K){w:World}{M:Nat->Prop}{v:Value}(a:bs w M x v):∃z u,K z/\bs w M z u/\(convert s d v).run ah w=.ok u w:=by
 unfold uH at h;split at h
 .rename_i k k' n b;obtain⟨c,e⟩:=h;obtain⟨u,f,g⟩:=PW c b;simp only[bs]at a;subst a;refine⟨_,.int k (k.wrap n),e,by simp[bs],?_⟩
  simp only[convert,jZ,bL f,bL g,ip];simp[Conv.intToInt]
 .exact h.elim

end Go.Proofs.YtdobfmlmenaajaaGreatDoor
