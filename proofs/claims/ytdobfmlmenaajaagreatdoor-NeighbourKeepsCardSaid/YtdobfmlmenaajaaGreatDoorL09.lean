/-
  Lemmas for NeighbourKeeps.
-/
import Derived.Test.YtdobfmlmenaajaaGreatDoorL08
import Derived.Lib.AppendZerosOnto
namespace Go.Proofs.YtdobfmlmenaajaaGreatDoor
open Go.RowKit Tryz
open _root_.Array renaming getElem?_append_left→eX,getElem?_eq_none→fu,ext'→gI,size_append→ip,getElem?_append→nA
open _root_.List renaming replicate→bV,size_toArray→cb,length_cons→cw,mem_of_getElem?→cR,getElem?_eq_some_iff→dj,flatMap_cons→eu,mem_cons_of_mem→eA,mem_map→fK,mem_cons_self→fP,map_cons→gV,cons_append→tn
open _root_.Nat renaming le_refl→af,mul_comm→av,mul_le_mul_right→ay,zero_add→aJ,mul_le_mul_left→aQ,le_trans→bI,mul_add→bU,add_zero→cn,mul_zero→dB,mul_succ→eD
open _root_.Option renaming none→ae,some→eL
open Tryz renaming prog→ah
set_option maxHeartbeats 6400000
set_option maxRecDepth 4096
set_option linter.all false
variable{s x y:AV}{K:AV->Prop}{a:Act}{next:Act->World->Prop}{fi:Array Operand}{cs:Array Value}{Q:Exit->Act->World->Prop}{k:IntKind}{ps:List (Nat×AV)}{vs:List Value}{N f len n:Nat}{g h:Nat->AV}{M:Nat->Prop}{o:Oper}{S:St}{O:Tm}{d e t t' ty:TypeId}{op:UnOp}{v z:Value}{w w':World}
theorem wb(h:(fD e).isSome=true):∃x z,fD e=some (bS e,x,z):=by
 unfold fD at h ⊢;split at h<;>first|exact⟨_,_,rfl⟩|cases h
theorem EM(S:St)(b:Nat)(X:dH):(S.del b).upd b X=S.upd b X:=by
 funext k;simp only[St.del,St.upd];split<;>rfl
theorem mK(z:Array Value)(n:Nat):(Builtin.zeroCells z n).size=n*z.size:=by simp[Builtin.zeroCells]
theorem kP{es m:Nat}
  (a:∀j,j<len->∃u,reads cs (es*j) es u/\bB w M (g j) u) (i:a6 w M (dD h 0 m) vs) (d:∀j,j<m->dN es (h j))
  (b:∀q,q<es*m->cs[es*len+q]? = (vs.flatMap (fun u=>u.cells.toList))[q]?) :
  ∀j,j<len+m->∃u,reads cs (es*j) es u/\bB w M (oB g len m h j) u:=by
 intro j l;by_cases c:j<len
 ·rw[Bs c];exact a j c
 ·rw[vX om l];obtain⟨_,_,_,n⟩:=gX (es:=es) (dD h 0 m) vs i (fun z o=>by
   obtain⟨k,p,rfl⟩:=nZ h m 0 z o;rw[aJ];exact d k p)
  obtain⟨u,e,r⟩:=n (j-len) (by rw[jL];omega)
  rw[ru _ _ _ _ om,aJ]at e;refine⟨u,?_,e⟩;have:=r cs (es*len) (fun q f=>b q (by rw[jL]at f;exact f))
  rw[<-bU,(om:len+(j-len)=j)]at this
  exact this
theorem yV{K:AV->St->Prop}(h:fZ t t' s x S K){w:World}(J:dX w S){vs vx:Value}(E:bB w S.dom s vs)(hx:bB w S.dom x vx) :
  BI (Builtin.append_ #[t,t'] ty #[vs,vx]) w S K:=by
 unfold fZ at h
 cases he:dw t with
 | none=>rw[he]at h;exact h.elim
 | some e =>
  rw[he]at h;obtain⟨rfl,hze,h⟩:=h;obtain⟨zx,zv,hz⟩:=wb hze;obtain⟨Z,i,hi,l⟩:=iN he;obtain⟨i',g1,g2,g3,g4,g5,g6,g7,g8⟩:=nV hz;rw[hi]at g1;cases g1
  cases O:zN S x with
  | none=>rw[O]at h;exact h.elim
  | some p =>
   obtain⟨es,m,f,o⟩:=p;rw[O]at h;obtain⟨rfl,hm,F,h⟩:=h;obtain⟨xb,xo,xc,us,rfl,u1,L,u3⟩:=zM J hx O hm;obtain⟨_,_,l3,_⟩:=gX (es:=bS e) (dD f 0 m) us u1 (fun z hz=>by
    obtain⟨k,hk,rfl⟩:=nZ f m 0 z hz;rw[aJ];exact F k hk)
   generalize Q:us.flatMap (fun u=>u.cells.toList)=fl at *;have r:fl.length=m*i.size:=by rw[L,l,av]
   have hnews:∀j v,fl[j]? = some v->w.cell? ((⟨xb,xo,ae⟩:Addr).add j)=some v:=fun j v A=>by
    rw[ia,u3 j (by rw[<-L];exact(dj.1 A).1)];exact A
   have R:∀(k:Nat) (y:Value),fl[k]? = some y->li y:=fun k y d=>(l3 y (cR d)).2;have hmb:m*i.bytes<=32*m:=by rw[av];exact ay _ g4
   cases s with
   | nil =>
    simp only at h;obtain⟨hm2,hK⟩:=h;simp only[bB]at E;subst E;have a:=run_append_nil (P:=ah) w t ty e i zv Z hi g2 ⟨xb,xo,ae⟩ m xc fl r hnews hm om om;have c:=grownCap_ge w m 0 e;generalize grownCap w m 0 e=cap at a c;have hsize:(fl.toArray++Builtin.zeroCells zv.cells (cap-m)).size=bS e*cap:=by
     rw[ip,mK,cb,L,g6,av (cap-m),<-bU,(om:m+(cap-m)=cap)]
    have B:=kP (w:=w.drew) (M:=S.dom) (es:=bS e) (len:=0) (m:=m) (g:=f) (h:=f) (cs:=fl.toArray++Builtin.zeroCells zv.cells (cap-m)) (vs:=us) (fun j A=>om) (a6.grow J.noU (cG.drew _ w) _ _ u1) F (fun q G=>by
     rw[dB,aJ,Q,eX (by rw[cb,L];exact G)];simp)
    obtain⟨n1,n2,n3⟩:=dX.new (w:=w.drew) J.drew (X:=⟨e,bS e,m,f⟩) (cs:=fl.toArray++Builtin.zeroCells zv.cells (cap-m)) (by rw[hsize];exact aQ _ c)
     (fun j A=>by have:=B j (by simpa using A);rw[vX om (by simpa using A)]at this;simpa using this) (fun k y d=>by
      rw[nA]at d;split at d
      ·exact R k y (by simpa using d)
      ·exact nB g7 (g8 w S.dom) _ _ _ d)
    refine⟨_,_,_,_,hK _ n1,?_,n2,(cG.drew S.dom w).trans n3,a⟩;simp only[bB];exact⟨cap,_,e,(0,0),by rw[dB];rfl,c,heap_alloc_new w.drew _,by rw[hsize,aJ];exact af _⟩
   | sl es' b off len =>
    simp only at h
    cases hX:S b with
    | none=>rw[hX]at h;exact h.elim
    | some X =>
     rw[hX]at h;obtain⟨rfl,rfl,H,hes,hn,hmax,hob,hK⟩:=h;simp only[bB,dB,aJ]at E;obtain⟨cap,cs',ty',fr',rfl,hlc,T,C⟩:=E;obtain⟨cs,W,hcsz,A,hcu⟩:=J b X hX;rw[W]at T;simp only[eL.injEq,Obj.cells.injEq]at T;obtain⟨rfl,rfl,rfl⟩:=T;rw[hes,hn]at A hcsz;rw[H]at W;by_cases hroom:len+m<=cap
     ·have hf:=run_firstCells_some (P:=ah) w i.size m ⟨xb,xo,ae⟩ m xc fl r hnews;have n:bS e*len+fl.length<=cs.size:=by
       rw[L,<-bU];exact bI (aQ _ hroom) C
      have N:=jx ah (b:=b) (off:=len*i.size) (ty:=e) fl w cs 0 W (by rw[l,cn,av];exact n) (fun u Z=>(l3 u Z).1)
      rw[cn]at N;have a:(Builtin.append_ #[t,t] ty #[.slice (some ⟨b,0,ae⟩) len cap,.slice (some ⟨xb,xo,ae⟩) m xc]).run ah w=.ok (.slice (some ⟨b,0,ae⟩) (len+m) cap) (eZ w b (ew cs (len*i.size) fl) e):=by
       simp[Builtin.append_,run_underlying Z,sizeOf,typeInfo,hi,Builtin.lenOf,hroom,hf,ia,N]
      have hcsn:∀q,q<bS e*m->(ew cs (len*i.size) fl)[bS e*len+q]? = fl[q]?:=fun q G=>by
       rw[gY _ _ _ _ (by rw[l,av];exact n),if_pos (by rw[l,L,av len];omega)]
       rw[show bS e*len+q-len*i.size=q by rw[l,av len];omega]
      have B:=kP (w:=w) (M:=S.dom) (es:=bS e) (len:=len) (m:=m) (g:=X.g) (h:=f) (cs:=ew cs (len*i.size) fl) (vs:=us) (fun j D=>by
       obtain⟨u,h5,h6⟩:=A j D;refine⟨u,jX h5 (fun q G=>?_),h6⟩;rw[gY _ _ _ _ (by rw[l,av];exact n),if_neg]
       rw[l,av len];have:bS e*(j+1)<=bS e*len:=aQ _ D;rw[eD]at this;omega) u1 F (fun q G=>by rw[Q];exact hcsn q G)
      have U:=dX.write J hX (X':=⟨e,bS e,len+m,oB X.g len m f⟩) (cs:=cs) (cs':=ew cs (len*i.size) fl) (by rw[H];exact W) (gS _ _ _) H.symm (by
        rw[gS];exact bI (aQ _ hroom) C) B (fun k y d=>by
        rw[gY _ _ _ _ (by rw[l,av];exact n)]at d
        split at d
        ·exact R _ y d
        ·exact hcu k y d)
      rw[H]at U;have hK':=hK b (Or.inl rfl);rw[EM]at hK';refine⟨_,_,_,_,hK',?_,U.1,U.2,a⟩;simp only[bB,dB,aJ];exact⟨cap,ew cs (len*i.size) fl,e,(0,0),rfl,hroom,by rw[iV (dW W),if_pos rfl],by rw[gS];exact C⟩
     ·obtain⟨os,o1,I,o3⟩:=mN A len 0 om;generalize hol:os.flatMap (fun u=>u.cells.toList)=ol at *;have hob2:(len+m)*i.bytes<=32*(len+m):=by rw[av];exact ay _ g4
      have a:=run_append_grow (P:=ah) w t ty e i zv Z hi g2 ⟨b,0,ae⟩ len cap ol (by rw[I,l,av]) (fun j v hjv=>by
        rw[ia,nh W];have:=o3 j (by rw[<-I];exact(dj.1 hjv).1)
        rw[dB]at this;rw[this];exact hjv) ⟨xb,xo,ae⟩ m xc fl r hnews om om (growslice_fits om om)
      have c:=grownCap_ge w (len+m) cap e;generalize grownCap w (len+m) cap e=cap2 at a c;have hsize:(ol.toArray++fl.toArray++Builtin.zeroCells zv.cells (cap2-(len+m))).size=bS e*cap2:=by
       rw[ip,ip,mK,cb,cb,L,I,g6,av (cap2-(len+m)),<-bU,<-bU,(om:len+m+(cap2-(len+m))=cap2)]
      have V:∀q,q<bS e*len->(ol.toArray++fl.toArray++Builtin.zeroCells zv.cells (cap2-(len+m)))[q]? = ol[q]?:=fun q G=>by
       rw[eX (by rw[ip,cb,I];omega),eX (by rw[cb,I];exact G)];simp
      have B:=kP (w:=w.drew) (M:=S.dom) (es:=bS e) (len:=len) (m:=m) (g:=X.g) (h:=f) (cs:=ol.toArray++fl.toArray++Builtin.zeroCells zv.cells (cap2-(len+m))) (vs:=us) (fun j D=>by
        obtain⟨u,h5,h6⟩:=A j D;refine⟨u,jX h5 (fun q G=>?_),bB.grow J.noU (cG.drew _ w) _ _ h6⟩;have hql:bS e*j+q<bS e*len:=by
         have:bS e*(j+1)<=bS e*len:=aQ _ D;rw[eD]at this;omega
        rw[V _ hql,<-o3 _ hql,dB,aJ]) (a6.grow J.noU (cG.drew _ w) _ _ u1) F (fun q G=>by
        rw[Q,eX (by rw[ip,cb,cb,I,L];omega),Array.getElem?_append_right (by rw[cb,I];omega),cb,I,(om:bS e*len+q-bS e*len=q)];simp)
      have holu:∀(k:Nat) (y:Value),ol[k]? = some y->li y:=fun k y d=>by
       have hk:k<ol.length:=(dj.1 d).1;have:=o3 k (by rw[<-I];exact hk)
       rw[d]at this;exact hcu _ y this
      obtain⟨n1,n2,n3⟩:=dX.new (w:=w.drew) J.drew (X:=⟨e,bS e,len+m,oB X.g len m f⟩) (cs:=ol.toArray++fl.toArray++Builtin.zeroCells zv.cells (cap2-(len+m))) (by rw[hsize];exact aQ _ c) B (fun k y d=>by
        rw[nA]at d;split at d
        ·rw[nA]at d;split at d
         ·exact holu k y (by simpa using d)
         ·exact R _ y (by simpa using d)
        ·exact nB g7 (g8 w S.dom) _ _ _ d)
      have hless:=dX.less n2 (S':=(S.del b).upd w.drew.heap.size ⟨e,bS e,len+m,oB X.g len m f⟩) (fun k Y hY=>by
       simp only[St.upd]at hY ⊢;split at hY
       ·rename_i e1;rw[if_pos e1];exact hY
       ·rename_i e1;rw[if_neg e1];exact CN S b k Y hY)
      refine⟨_,_,_,_,hK _ (Or.inr n1),?_,hless.1,((cG.drew S.dom w).trans n3).weaken hless.2,a⟩;simp only[bB,dB,aJ];exact⟨cap2,_,e,(0,0),rfl,c,heap_alloc_new w.drew _,by rw[hsize];exact af _⟩
   | _=>exact h.elim

theorem wd(z:Value)(n:Nat):Builtin.zeroCells z.cells n=((bV n z).flatMap (fun u=>u.cells.toList)).toArray:=mn z n
theorem re{w:World}{M:Nat->Prop}{x:AV}{z:Value}(h:bB w M x z):∀n k,a6 w M (dD (fun _=>x) k n) (bV n z)
 | 0,_=>by simp[dD,a6]
 | n+1,k=>by simp only[dD,List.replicate_succ,a6];exact⟨h,re h n (k+1)⟩
def qo(t:TypeId)(s x:AV)(S:St)(K:AV->St->Prop):Prop:=match s,x with
 | .sl es b off len,.int _ (.ofNat m)=>(match dw t,S b with
  | some e,some X=>(match fD e with
   | some (es',z,_)=>es'=es/\es=bS e/\off=0/\X.ty=e/\X.es=es/\X.n=len/\1<=m/\len+m<=1048576 /\
    ∀b',(b'=b∨S b'=ae)->K (.sl es b' 0 (len+m)) ((S.del b).upd b' ⟨e,es,len+m,oB X.g len m (fun _=>z)⟩)
   | ae=>False)
  | _,_=>False)
 | _,_=>False
theorem ye{K:AV->St->Prop}(h:qo t s x S K){w:World}(N:dX w S){vs vx:Value}(O:bB w S.dom s vs)(hx:bB w S.dom x vx) :
  BI (Builtin.append_ #[t,3] ty #[vs,vx]) w S K:=by
 unfold qo at h;split at h
 ·rename_i es0 b off len k m
  cases he:dw t with
  | none=>rw[he]at h;exact h.elim
  | some e =>
  cases hX:S b with
  | none=>rw[he,hX]at h;exact h.elim
  | some X =>
   rw[he,hX]at h;simp only at h
   cases Q:fD e with
   | none=>rw[Q]at h;exact h.elim
   | some p =>
   obtain⟨es',zx,zv⟩:=p;rw[Q]at h;obtain⟨rfl,rfl,rfl,A,hes,hn,hm,hmax,hK⟩:=h;obtain⟨hu,i,hi,a⟩:=iN he;obtain⟨i',g1,g2,g3,g4,g5,g6,g7,g8⟩:=nV Q;rw[hi]at g1;cases g1;have h3u:=underlying3;simp only[bB]at hx;subst hx;have hx3:Int.ofNat m=(m:Int):=rfl;rw[hx3];have R:m≠0:=om
   have u1:=re (g8 w S.dom) m 0;generalize hff:(fun _:Nat=>zx)=f at *;have D:∀j,j<m->dN (bS e) (f j):=fun j T=>by rw[<-hff];exact g7
   obtain⟨_,U,l3,_⟩:=gX (es:=bS e) (dD f 0 m) (bV m zv) u1 (fun z Q=>by
    obtain⟨k,hk,rfl⟩:=nZ f m 0 z Q;rw[aJ];exact D k hk)
   have V:=wd zv m;generalize hus:bV m zv=us at *;generalize W:us.flatMap (fun u=>u.cells.toList)=fl at *;rw[jL]at U;have Z:∀(k:Nat) (y:Value),fl[k]? = some y->li y:=fun k y c=>(l3 y (cR c)).2;have hwm:IntKind.i64.wrap (m:Int)=m:=by rw[IntKind.wrap_i64];omega
   have hmb:m*i.bytes<=32*m:=by rw[av];exact ay _ g4
   have hib:¬(281474976710656<(m:Int)*(i.bytes:Int)):=by rw[<-Int.natCast_mul];omega
   have hm0:¬((m:Int)<0):=om
   have hi1:i.size≠0:=by rw[a];unfold bS;split<;>omega
   simp only[bB,dB,aJ]at O;obtain⟨cap,cs',ty',fr',rfl,hlc,E,n⟩:=O;obtain⟨cs,L,hcsz,T,hcu⟩:=N b X hX;rw[L]at E;simp only[eL.injEq,Obj.cells.injEq]at E;obtain⟨rfl,rfl,rfl⟩:=E;rw[hes,hn]at T hcsz;rw[A]at L;by_cases hroom:len+m<=cap
   ·have R:m≠0:=om
    have l:bS e*len+fl.length<=cs.size:=by
     rw[U,<-bU];exact bI (aQ _ hroom) n
    have C:=jx ah (b:=b) (off:=len*i.size) (ty:=e) fl w cs 0 L (by rw[a,cn,av];exact l) (fun u hu=>(l3 u hu).1)
    rw[cn]at C;have F:(storeCells ⟨b,len*i.size,ae⟩ fl).run ah w=.ok () (eZ w b (ew cs (len*i.size) fl) e):=C;have d:(Builtin.append_ #[t,3] ty #[.slice (some ⟨b,0,ae⟩) len cap,.int k (m:Int)]).run ah w=.ok (.slice (some ⟨b,0,ae⟩) (len+m) cap) (eZ w b (ew cs (len*i.size) fl) e):=by
     simp[Builtin.append_,run_underlying hu,run_underlying h3u,sizeOf,typeInfo,hi,asInt,asIntOf,hwm,hm0,hib,zeroValue,g2,V,hroom,ia,F];intro h0;exact absurd h0 (Nat.mul_ne_zero R hi1)
    have hcsn:∀q,q<bS e*m->(ew cs (len*i.size) fl)[bS e*len+q]? = fl[q]?:=fun q G=>by
     rw[gY _ _ _ _ (by rw[a,av];exact l),if_pos (by rw[a,U,av len];omega)]
     rw[show bS e*len+q-len*i.size=q by rw[a,av len];omega]
    have H:=kP (w:=w) (M:=S.dom) (es:=bS e) (len:=len) (m:=m) (g:=X.g) (h:=f) (cs:=ew cs (len*i.size) fl) (vs:=us) (fun j o=>by
     obtain⟨u,h5,h6⟩:=T j o;refine⟨u,jX h5 (fun q G=>?_),h6⟩;rw[gY _ _ _ _ (by rw[a,av];exact l),if_neg]
     rw[a,av len];have:bS e*(j+1)<=bS e*len:=aQ _ o;rw[eD]at this;omega) u1 D (fun q G=>by rw[W];exact hcsn q G)
    have I:=dX.write N hX (X':=⟨e,bS e,len+m,oB X.g len m f⟩) (cs:=cs) (cs':=ew cs (len*i.size) fl) (by rw[A];exact L) (gS _ _ _) A.symm (by
      rw[gS];exact bI (aQ _ hroom) n) H (fun k y c=>by
      rw[gY _ _ _ _ (by rw[a,av];exact l)]at c
      split at c
      ·exact Z _ y c
      ·exact hcu k y c)
    rw[A]at I;have hK':=hK b (Or.inl rfl);rw[EM]at hK';refine⟨_,_,_,_,hK',?_,I.1,I.2,d⟩;simp only[bB,dB,aJ];exact⟨cap,ew cs (len*i.size) fl,e,(0,0),rfl,hroom,by rw[iV (dW L),if_pos rfl],by rw[gS];exact n⟩
   ·obtain⟨os,o1,B,o3⟩:=mN T len 0 om;generalize hol:os.flatMap (fun u=>u.cells.toList)=ol at *;have hob2:(len+m)*i.bytes<=32*(len+m):=by rw[av];exact ay _ g4
    have d:=Lib.run_append_grow_zeros (P:=ah) w t 3 ty e i zv k .i64 hu h3u hi g2 (some ⟨b,0,ae⟩) len cap ol (run_firstCells_some (P:=ah) w.drew i.size len ⟨b,0,ae⟩ len cap ol (by rw[B,a,av]) (fun j v hjv=>by
      rw[ia];have hbd:w.drew.heap[b]? = some (.cells cs e (0,0)):=L;rw[nh hbd];have:=o3 j (by rw[<-B];exact(dj.1 hjv).1)
      rw[dB]at this;rw[this];exact hjv)) m om (by rw[a];unfold bS;split<;>omega) om om om (growslice_fits om om)
    rw[V]at d;have r:=grownCap_ge w (len+m) cap e;generalize grownCap w (len+m) cap e=cap2 at d r;have hsize:(ol.toArray++fl.toArray++Builtin.zeroCells zv.cells (cap2-(len+m))).size=bS e*cap2:=by
     rw[ip,ip,mK,cb,cb,U,B,g6,av (cap2-(len+m)),<-bU,<-bU,(om:len+m+(cap2-(len+m))=cap2)]
    have J:∀q,q<bS e*len->(ol.toArray++fl.toArray++Builtin.zeroCells zv.cells (cap2-(len+m)))[q]? = ol[q]?:=fun q G=>by
     rw[eX (by rw[ip,cb,B];omega),eX (by rw[cb,B];exact G)];simp
    have H:=kP (w:=w.drew) (M:=S.dom) (es:=bS e) (len:=len) (m:=m) (g:=X.g) (h:=f) (cs:=ol.toArray++fl.toArray++Builtin.zeroCells zv.cells (cap2-(len+m))) (vs:=us) (fun j o=>by
      obtain⟨u,h5,h6⟩:=T j o;refine⟨u,jX h5 (fun q G=>?_),bB.grow N.noU (cG.drew _ w) _ _ h6⟩;have hql:bS e*j+q<bS e*len:=by
       have:bS e*(j+1)<=bS e*len:=aQ _ o;rw[eD]at this;omega
      rw[J _ hql,<-o3 _ hql,dB,aJ]) (a6.grow N.noU (cG.drew _ w) _ _ u1) D (fun q G=>by
      rw[W,eX (by rw[ip,cb,cb,B,U];omega),Array.getElem?_append_right (by rw[cb,B];omega),cb,B,(om:bS e*len+q-bS e*len=q)];simp)
    have holu:∀(k:Nat) (y:Value),ol[k]? = some y->li y:=fun k y c=>by
     have hk:k<ol.length:=(dj.1 c).1;have:=o3 k (by rw[<-B];exact hk)
     rw[c]at this;exact hcu _ y this
    obtain⟨n1,n2,n3⟩:=dX.new (w:=w.drew) N.drew (X:=⟨e,bS e,len+m,oB X.g len m f⟩) (cs:=ol.toArray++fl.toArray++Builtin.zeroCells zv.cells (cap2-(len+m))) (by rw[hsize];exact aQ _ r) H (fun k y c=>by
      rw[nA]at c;split at c
      ·rw[nA]at c;split at c
       ·exact holu k y (by simpa using c)
       ·exact Z _ y (by simpa using c)
      ·exact nB g7 (g8 w S.dom) _ _ _ c)
    have hless:=dX.less n2 (S':=(S.del b).upd w.drew.heap.size ⟨e,bS e,len+m,oB X.g len m f⟩) (fun k Y hY=>by
     simp only[St.upd]at hY ⊢;split at hY
     ·rename_i e1;rw[if_pos e1];exact hY
     ·rename_i e1;rw[if_neg e1];exact CN S b k Y hY)
    refine⟨_,_,_,_,hK _ (Or.inr n1),?_,hless.1,((cG.drew S.dom w).trans n3).weaken hless.2,d⟩;simp only[bB,dB,aJ];exact⟨cap2,_,e,(0,0),rfl,r,heap_alloc_new w.drew _,by rw[hsize];exact af _⟩
 ·exact h.elim

def vY(len:Nat)(lo hi mx:Option AV)(K:Nat->Nat->Prop):Prop :=
 ∃l h:Nat,(match lo with|ae=>l=0|some (.int _ a)=>a=(l:Int)|_=>False)/\(match hi with|ae=>h=len|some (.int _ a)=>a=(h:Int)|_=>False) /\
  (match mx with|ae=>True|some (.int _ a)=>(h:Int)<=a/\a<=(len:Int)/\hi.isSome=true|_=>False)/\l<=h/\h<=len/\K l h
def kQ(t:TypeId)(x:AV)(lo hi mx:Option AV)(K:AV->Prop):Prop:=match dw t,x with
 | some e,.sl es b off len=>es=bS e/\vY len lo hi mx (fun l h=>K (if l=0∨l<h then .sl es b (off+l) (h-l)else .lst es 0 (fun _=>.any)))
 | some e,.lst es n g=>es=bS e/\vY n lo hi mx (fun l h=>K (.lst es (h-l) (fun j=>g (l+j))))
 | some _,.nil=>vY 0 lo hi mx (fun _ _=>K .nil)
 | _,_=>False
def rV(w:World)(M:Nat->Prop):Option AV->Option Value->Prop
 | ae,ae=>True
 | some x,some v=>bB w M x v
 | _,_=>False
theorem rB{cap:Nat}(B:len<=cap){lo j mx:Option AV}{K:Nat->Nat->Prop}(h:vY len lo j mx K){vl vh vm:Option Value}(b:rV w M lo vl)(f:rV w M j vh)(o:rV w M mx vm) :
  ∃l h m:Nat,K l h/\l<=h/\h<=len/\h<=m/\m<=cap/\(Instr.sliceBounds true len cap vl vh vm).run ah w=.ok (l,h,m) w:=by
 obtain⟨l,h,d,e,p,g,q,r⟩:=h;have bnd:∀(a:Int) (k:IntKind) (n:Nat) (y:Nat) (c:BoundsCode),a=(n:Int)->n<=y->(Instr.sliceBound (.int k a) y c).run ah w=.ok n w:=by
  intro a k n y c s t;subst s;have:(0:Int)<=n/\(n:Int)<=(y:Int):=om
  simp[Instr.sliceBound,asIntOf,t]
 cases mx with
 | none =>
  cases vm with
  | some _=>exact o.elim
  | none =>
   refine⟨l,h,cap,r,g,q,om,af _,?_⟩
   cases j with
   | none =>
    cases vh with
    | some _=>exact f.elim
    | none =>
     simp only at e;subst e
     cases lo with
     | none =>
      cases vl with
      | some _=>exact b.elim
      | none=>simp only at d;subst d;simp[Instr.sliceBounds]
     | some x =>
      cases vl with
      | none=>exact b.elim
      | some v =>
       cases x<;>simp only at d
       simp only[rV,bB]at b;subst b;simp[Instr.sliceBounds,bnd _ _ l h _ d g]
   | some y =>
    cases vh with
    | none=>exact f.elim
    | some u =>
     cases y<;>simp only at e
     simp only[rV,bB]at f;subst f
     cases lo with
     | none =>
      cases vl with
      | some _=>exact b.elim
      | none=>simp only at d;subst d;simp[Instr.sliceBounds,bnd _ _ h cap _ e om]
     | some x =>
      cases vl with
      | none=>exact b.elim
      | some v =>
       cases x<;>simp only at d
       simp only[rV,bB]at b;subst b;simp[Instr.sliceBounds,bnd _ _ h cap _ e om,bnd _ _ l h _ d g]
 | some z =>
  cases vm with
  | none=>exact o.elim
  | some C =>
   cases z<;>simp only at p
   rename_i km am;simp only[rV,bB]at o;subst o;obtain⟨D,E,A⟩:=p
   cases j with
   | none=>simp at A
   | some y =>
    cases vh with
    | none=>exact f.elim
    | some u =>
     cases y<;>simp only at e
     simp only[rV,bB]at f;subst f;refine⟨l,h,am.toNat,r,g,q,om,om,?_⟩
     have i:=bnd am km am.toNat cap .slice3Acap om om
     cases lo with
     | none =>
      cases vl with
      | some _=>exact b.elim
      | none=>simp only at d;subst d;simp[Instr.sliceBounds,i,bnd _ _ h am.toNat _ e om]
     | some x =>
      cases vl with
      | none=>exact b.elim
      | some v =>
       cases x<;>simp only at d
       simp only[rV,bB]at b;subst b;simp[Instr.sliceBounds,i,bnd _ _ h am.toNat _ e om,bnd _ _ l h _ d g]
theorem sX{lo hi mx:Option AV}(h:kQ t x lo hi mx K){w:World}{M:Nat->Prop}{v:Value}{vl vh vm:Option Value}(k:bB w M x v)(y:rV w M lo vl)(B:rV w M hi vh)(C:rV w M mx vm) :
  ∃z u,K z/\bB w M z u/\(Instr.sliceAt t v vl vh vm).run ah w=.ok u w:=by
 unfold kQ at h;split at h
 ·rename_i e es b off len o;obtain⟨rfl,D⟩:=h;obtain⟨p,i,c,s⟩:=iN o;simp only[bB]at k;obtain⟨cap,cs,ty,fr,rfl,E,hheap,F⟩:=k;obtain⟨l,h,m,q,J,L,N,O,a⟩:=rB E D y B C;have d:(Instr.sliceAt t (.slice (some ⟨b,bS e*off,ae⟩) len cap) vl vh vm).run ah w=.ok (.slice (if m=l then some ⟨b,bS e*off,ae⟩else some ⟨b,bS e*off+l*bS e,ae⟩) (h-l) (m-l)) w:=by
   simp[Instr.sliceAt,run_underlying p,Instr.slice,a,cJ c,s,ia]
  refine⟨_,_,q,?_,d⟩;by_cases f:l=0∨l<h
  ·rw[if_pos f];simp only[bB];refine⟨m-l,cs,ty,fr,?_,om,hheap,bI (aQ _ om) F⟩
   rcases f with rfl|f
   ·simp
   ·rw[if_neg om,bU,av l]
  ·rw[if_neg f];simp only[bB];exact⟨_,m-l,by rw[(om:h-l=0)],om,fun P=>absurd P om⟩
 ·rename_i e es n g o;obtain⟨rfl,D⟩:=h;obtain⟨p,i,c,s⟩:=iN o;simp only[bB]at k;obtain⟨A,cap,rfl,E,G⟩:=k;obtain⟨l,h,m,q,J,L,N,O,a⟩:=rB E D y B C;have d:(Instr.sliceAt t (.slice A n cap) vl vh vm).run ah w=.ok (.slice (if m=l then A else A.map (·.add (l*bS e))) (h-l) (m-l)) w:=by
   simp[Instr.sliceAt,run_underlying p,Instr.slice,a,cJ c,s]
  refine⟨_,_,q,?_,d⟩;simp only[bB];refine⟨_,m-l,rfl,om,fun P=>?_⟩
  obtain⟨b,off,rfl,H,Q,R⟩:=G om;rw[if_neg om];refine⟨b,off+l*bS e,by simp[ia],H,Q,fun j S=>?_⟩
  obtain⟨u,r,I⟩:=R (l+j) om;refine⟨u,?_,I⟩;rw[bU,av (bS e) l,<-Nat.add_assoc]at r;exact r
 ·rename_i e o;obtain⟨p,i,c,s⟩:=iN o;simp only[bB]at k;subst k;obtain⟨l,h',m,q,J,L,N,O,a⟩:=rB (af 0) h y B C;obtain rfl:l=0:=om
  obtain rfl:h'=0:=om
  obtain rfl:m=0:=om
  exact⟨_,.slice ae 0 0,q,by simp[bB],by simp[Instr.sliceAt,run_underlying p,Instr.slice,a,cJ c]⟩
 ·exact h.elim
def Er(t:TypeId)(x:AV)(K:AV->Prop):Prop:=match dw t,x with
 | some _,.sl _ _ _ len=>K (.int .i64 len)
 | some _,.lst _ n _=>K (.int .i64 n)
 | some _,.nil=>K (.int .i64 0)
 | ae,.mag n=>t=48/\K (.int .i64 (nl n))
 | _,_=>False
theorem ya(h:Er t x K){w:World}{M:Nat->Prop}{v:Value}(a:bB w M x v) :
  ∃z u,K z/\bB w M z u/\(Builtin.len_ #[t] ty #[v]).run ah w=.ok u w:=by
 unfold Er at h;split at h
 ·rename_i e es b off len d;obtain⟨f,_⟩:=iN d;simp only[bB]at a;obtain⟨cap,cs,ty,fr,rfl,_⟩:=a;exact⟨_,.int .i64 len,h,by simp[bB],by simp[Builtin.len_,run_underlying f,goInt]⟩
 ·rename_i e es n g d;obtain⟨f,_⟩:=iN d;simp only[bB]at a;obtain⟨A,c,rfl,_⟩:=a;exact⟨_,.int .i64 n,h,by simp[bB],by simp[Builtin.len_,run_underlying f,goInt]⟩
 ·rename_i e d;obtain⟨f,_⟩:=iN d;simp only[bB]at a;subst a;exact⟨_,.int .i64 0,h,by simp[bB],by simp[Builtin.len_,run_underlying f,goInt]⟩
 ·rename_i n d;obtain⟨rfl,h⟩:=h;simp only[bB]at a;obtain⟨neg,A,k,c,xs,e,i,j,l,m⟩:=a
  cases e
  have o:k=nl n:=by
   rw[aE j l];congr 1;simp[sg]at m;omega
  rw[<-o]at h;exact⟨_,.int .i64 k,h,by simp[bB],by simp[Builtin.len_,run_underlying underlying48,goInt]⟩
 ·exact h.elim
def uR(t:TypeId)(d s:AV)(S:St)(K:AV->St->Prop):Prop:=match dw t,d with
 | some e,.sl es b off len=>(match S b,zN S s with
  | some X,some (es',m,h,_)=>es=bS e/\es'=es/\X.es=es/\off+len<=X.n/\m=len/\0<m/\(∀j,j<m->dN es (h j)) /\
   K (.int .i64 len) (S.upd b { X with g:=fun j=>if off<=j/\j<off+len then h (j-off)else X.g j })
  | _,_=>False)
 | _,_=>False
theorem C4{d:AV}{K:AV->St->Prop}(h:uR t d s S K){w:World}(D:dX w S){vd vs:Value}(E:bB w S.dom d vd)(r:bB w S.dom s vs) :
  BI (Builtin.copy_ #[t,t'] ty #[vd,vs]) w S K:=by
 unfold uR at h;split at h
 ·rename_i e es b off len I;obtain⟨J,i,L,x⟩:=iN I;split at h
  ·rename_i X es' m f o M y;obtain⟨rfl,rfl,l,N,rfl,O,A,F⟩:=h;obtain⟨xb,xo,xc,us,rfl,Q,G,R⟩:=zM D r y O;simp only[bB]at E;obtain⟨cap,cs',ty',fr',rfl,_,_,_⟩:=E;have n:∀z∈dD f 0 m,dN X.es z:=fun z T=>by
    obtain⟨k,U,rfl⟩:=nZ f m 0 z T;rw[aJ,l];exact A k U
   obtain⟨cs,V,a,W,B,C⟩:=pD D M (dD f 0 m) us Q n off (by rw[jL];exact N)
   rw[l]at a B C;generalize hfl:us.flatMap (fun u=>u.cells.toList)=fl at *;have p:fl.length=m*i.size:=by rw[G,x,av]
   have Y:=run_firstCells_some (P:=ah) w i.size m ⟨xb,xo,ae⟩ m xc fl p (fun j v H=>by
    rw[ia,R j (by rw[<-G];exact(dj.1 H).1)];exact H)
   have c:=jx ah (b:=b) (off:=bS e*off) (ty:=X.ty) fl w cs 0 V (by rw[cn];exact a) W
   rw[cn]at c;have q:(Builtin.copy_ #[t,t'] ty #[.slice (some ⟨b,bS e*off,ae⟩) m cap,.slice (some ⟨xb,xo,ae⟩) m xc]).run ah w=.ok (.int .i64 m) (eZ w b (ew cs (bS e*off) fl) X.ty):=by
    simp[Builtin.copy_,run_underlying J,Builtin.lenOf,cJ L,Y,c,goInt]
   have Z:eJ X.g off (dD f 0 m)=fun j=>if off<=j/\j<off+m then f (j-off)else X.g j:=by
    funext j;simp only[eJ,jL];split
    ·rw[ru _ _ _ _ om,aJ]
    ·rfl
   rw[Z]at B C;rw[l]at F;exact⟨_,.int .i64 m,_,_,F,by simp[bB],B,C,q⟩
  ·exact h.elim
 ·exact h.elim

theorem sI(off:Nat):∀(l:List Value) (k:Nat) (cs:Array Value),(l.zipIdx k).foldl (fun(cs:Array Value) (p:Value×Nat)=>cs.setIfInBounds (off+p.2) p.1) cs=ew cs (off+k) l
 | [],_,_=>rfl
 | v::l,k,cs=>by
  simp only[List.zipIdx_cons,List.foldl_cons,ew];rw[sI off l (k+1)];rfl
def d9(k:Nat):List AV->List (Nat×AV)
 | []=>[]
 | x::l=>(k,x)::d9 (k+1) l
def lp(k:Nat):List Value->List (Nat×Value)
 | []=>[]
 | x::l=>(k,x)::lp (k+1) l
theorem rc:∀(a b:List Value) (cs:Array Value) (o:Nat),ew cs o (a++b)=ew (ew cs o a) (o+a.length) b
 | [],b,cs,o=>by simp[ew]
 | x::a,b,cs,o=>by simp only[tn,ew,cw];rw[rc a b];congr 1;omega
theorem Cf{w:World}{M:Nat->Prop}{es:Nat}:∀(l:List AV) (vs:List Value) (k:Nat) (cs:Array Value),a6 w M l vs->(∀z∈l,dN es z)->es*(k+l.length)<=cs.size ->
  Instr.fill (fun i=>some (i*es,es)) cs (lp k vs)=some (ew cs (es*k) (vs.flatMap (fun u=>u.cells.toList)))
 | [],[],k,cs,_,_,_=>by simp[lp,Instr.fill,ew]
 | a::l,v::vs,k,cs,b,f,d=>by
  simp only[a6]at b;obtain⟨g,_,_⟩:=qE (f a (fP ..)) b.1;simp only[cw]at d;have n:es*(k+1)<=cs.size:=bI (aQ _ om) d;have m:¬(cs.size<k*es+es):=by rw[eD,av]at n;omega
  have ih:=Cf l vs (k+1) (ew cs (k*es) v.cells.toList) b.2 (fun z o=>f z (eA _ o)) (by rw[gS];rw[(om:k+1+l.length=k+(l.length+1))];exact d)
  have q:v.cells.zipIdx.foldl (fun(cs:Array Value) (p:Value×Nat)=>cs.setIfInBounds (k*es+p.2) p.1) cs=ew cs (k*es) v.cells.toList:=by
   rw[<-Array.foldl_toList,Array.toList_zipIdx,sI];rfl
  simp only[lp,Instr.fill];rw[if_neg (by simp[g];omega)]
  have e:(v.cells.zipIdx.foldl (fun(cs:Array Value) x=>match x with|(c,j)=>cs.setIfInBounds (k*es+j) c) cs)=ew cs (k*es) v.cells.toList:=q
  rw[e,ih,eu,rc,av k es];congr 2;rw[Array.length_toList,g,eD]
 | [],_::_,_,_,h,_,_=>by simp[a6]at h
 | _::_,[],_,_,h,_,_=>by simp[a6]at h
theorem Az(cs:Array Value)(l:List Value)(h:cs.size=l.length):ew cs 0 l=l.toArray:=by
 apply Array.ext_getElem?;intro i;rw[gY _ _ _ _ om];split
 ·simp
 ·rename_i a;rw[fu om,fu (by simp;omega)]
def cI(t:TypeId)(n:Nat)(ps:List (Nat×AV))(S:St)(K:AV->St->Prop):Prop:=match dw t with
 | some e=>ps=d9 0 (ps.map (·.2))/\ps.length=n/\n<=16/\(fD e).isSome=true/\(∀p∈ps,dN (bS e) p.2)/\∀b,S b=ae->K (.sl (bS e) b 0 n) (S.upd b ⟨e,bS e,n,fun j=>(ps.map (·.2)).getD j .any⟩)
 | ae=>False
def ph(w:World)(M:Nat->Prop):List (Nat×AV)->List (Nat×Value)->Prop
 | [],[]=>True
 | p::l,q::r=>p.1=q.1/\bB w M p.2 q.2/\ph w M l r
 | _,_=>False
theorem pg{w:World}{M:Nat->Prop}:∀(ps:List (Nat×AV)) (qs:List (Nat×Value)),ph w M ps qs->a6 w M (ps.map (·.2)) (qs.map (·.2))/\∀k,ps=d9 k (ps.map (·.2))->qs=lp k (qs.map (·.2))
 | [],[],_=>⟨by simp[a6],fun _ _=>rfl⟩
 | p::l,q::r,h=>by
  simp only[ph]at h;obtain⟨b,c⟩:=pg l r h.2.2;refine⟨by simp only[gV,a6];exact⟨h.2.1,b⟩,fun k a=>?_⟩
  simp only[gV,d9,List.cons.injEq]at a;simp only[gV,lp,List.cons.injEq];refine⟨?_,c (k+1) a.2⟩;have:=a.1;obtain⟨d,e⟩:=p;obtain⟨f,g⟩:=q;simp at this h;simp[<-h.1,this]
 | [],_::_,h=>h.elim
 | _::_,[],h=>h.elim
theorem qg(C:dw t=some e)(l:ps=d9 0 (ps.map (·.2)))(c:ps.length=n)(D:n<=16)(m:(fD e).isSome=true)(o:∀p∈ps,dN (bS e) p.2){w:World}(E:dX w S){qs:List (Nat×Value)}(F:ph w S.dom ps qs) :
  (Instr.buildSlice t n qs.toArray).run ah w=.ok (.slice (some ⟨w.heap.size,0,ae⟩) n n) (w.alloc (.cells ((qs.map (·.2)).flatMap (fun u=>u.cells.toList)).toArray e)):=by
 obtain⟨v,i,h,a⟩:=iN C;obtain⟨zx,zv,k⟩:=wb m;obtain⟨i',x,G,L,M,N,O,P,Q⟩:=nV k;rw[h]at x;cases x;obtain⟨y,H⟩:=pg ps qs F;have q:=H 0 l;have d:(ps.map (·.2)).length=n:=by simp[c]
 generalize hxs:ps.map (·.2)=xs at *
 generalize hvs:qs.map (·.2)=vs at *
 have b:∀z∈xs,dN (bS e) z:=fun z k=>by
  rw[<-hxs]at k;obtain⟨p,r,rfl⟩:=fK.1 k;exact o p r
 obtain⟨R,I,J,A⟩:=lr E e xs vs y b;rw[d]at I J A;have f:bS e<=2:=by unfold bS;split<;>omega
 have B:n*bS e<=32:=bI (Nat.mul_le_mul D f) om;have hsmall:¬(16777216<n*i.size):=by rw[a];omega
 have hfill:∀cs:Array Value,cs.size=n*i.size->Instr.fill (fun j=>some (j*i.size,i.size)) cs qs=some (vs.flatMap (fun u=>u.cells.toList)).toArray:=by
  intro cs g;rw[q,a,Cf xs vs 0 cs y b (by rw[g,a,aJ,d,av];exact af _),dB,Az _ _ (by rw[g,a,A,av])]
 by_cases s:n*i.size=0
 ·have hfill0:=hfill (Array.map (fun _=>default) (Array.range 0)) (by simp[s])
  simp[Instr.buildSlice,run_underlying v,cJ h,s,newRow,hfill0]
 ·have hfill1:=hfill ((Array.range (n*i.size)).map (zv.cells[· % zv.cells.size]!)) sm
  simp[Instr.buildSlice,run_underlying v,cJ h,hsmall,newRow,zeroValue,typeInfo,h,G,hfill1];intro K;exact absurd K s
theorem tc{K:AV->St->Prop}(h:cI t n ps S K){w:World}(l:dX w S){qs:List (Nat×Value)}(m:ph w S.dom ps qs) :
  BI (Instr.buildSlice t n qs.toArray) w S K:=by
 unfold cI at h
 cases f:dw t with
 | none=>rw[f]at h;exact h.elim
 | some e =>
  rw[f]at h;obtain⟨g,a,s,i,b,u⟩:=h;have c:=qg f g a s i b l m;obtain⟨v,_⟩:=pg ps qs m;have j:(ps.map (·.2)).length=n:=by simp[a]
  have d:∀z∈ps.map (·.2),dN (bS e) z:=fun z x=>by
   obtain⟨p,k,rfl⟩:=fK.1 x;exact b p k
  obtain⟨y,o,q,r⟩:=lr l e _ _ v d;rw[j]at o q r;refine⟨_,_,_,_,u _ y,?_,o,q,c⟩;simp only[bB,dB,aJ];exact⟨n,_,e,(0,0),rfl,af _,heap_alloc_new w _,by rw[cb,r];exact af _⟩
def et(t:TypeId)(n:Nat)(ps:List (Nat×AV))(z:AV):Prop:=match dw t with
 | some e=>ps=d9 0 (ps.map (·.2))/\ps.length=n/\n<=16/\(fD e).isSome=true/\(∀p∈ps,dN (bS e) p.2)/\z=.lst (bS e) n (fun j=>(ps.map (·.2)).getD j .any)
 | ae=>False
theorem sF{z:AV}(h:et t n ps z){w:World}(i:dX w S){qs:List (Nat×Value)}(s:ph w S.dom ps qs) :
  ∃v w',(Instr.buildSlice t n qs.toArray).run ah w=.ok v w'/\bB w' S.dom z v/\cG (fun _=>False) (fun _=>False) w w':=by
 unfold et at h
 cases l:dw t with
 | none=>rw[l]at h;exact h.elim
 | some e =>
  rw[l]at h;obtain⟨m,a,B,o,d,rfl⟩:=h;have f:=qg l m a B o d i s;obtain⟨x,_⟩:=pg ps qs s;have C:(ps.map (·.2)).length=n:=by simp[a]
  have b:∀z∈ps.map (·.2),dN (bS e) z:=fun z E=>by
   obtain⟨p,r,rfl⟩:=fK.1 E;exact d p r
  obtain⟨F,L,M,N⟩:=lr i e _ _ x b;obtain⟨O,P,Q,G⟩:=gX (ps.map (·.2)) (qs.map (·.2)) x b
  generalize hcs:((qs.map (·.2)).flatMap (fun u=>u.cells.toList))=cs at *
  have H:(w.alloc (.cells cs.toArray e)).heap.size=w.heap.size+1:=by simp
  have hkeep:∀k,k<w.heap.size->(w.alloc (.cells cs.toArray e)).heap[k]? = w.heap[k]?:=fun k g=>by
   show(w.heap.push _)[k]? = _;rw[Array.getElem?_push_lt g,Array.getElem?_eq_getElem g]
  have y:∀D:Nat->Prop,cG D D w (w.alloc (.cells cs.toArray e)):=fun D=>⟨rfl,rfl,rfl,om,fun k g _=>hkeep k g,fun k c ty fr A=>⟨c,by rw[hkeep k (dW A)];exact A,rfl⟩,fun _ _ h=>h⟩
  refine⟨_,_,f,?_,y _⟩;simp only[bB];refine⟨_,n,rfl,af _,fun _=>⟨w.heap.size,0,rfl,om,fun I=>I F,fun j R=>?_⟩⟩
  obtain⟨u,J,K⟩:=G j om;refine⟨u,⟨cs.toArray,e,(0,0),heap_alloc_new w _,K cs.toArray 0 (fun q T=>by simp)⟩,bB.grow i.noU (y _) _ _ J⟩
def MU(op:UnOp)(x:AV)(K:AV->Prop):Prop:=match op,x with
 | .neg,.int k n=>K (.int k (k.wrap (0-n)))
 | .not,.bool b=>K (.bool (!b))
 | _,_=>False
theorem zW(h:MU op x K){w:World}{M:Nat->Prop}{v:Value}(a:bB w M x v):∃z u,K z/\bB w M z u/\(Op.unary op v).run ah w=.ok u w:=by
 unfold MU at h;split at h
 ·rename_i k n;simp only[bB]at a;subst a;exact⟨_,.int k (k.wrap (0-n)),h,by simp[bB],by simp[Op.unary,Op.intArith]⟩
 ·rename_i b;simp only[bB]at a;subst a;exact⟨_,.bool (!b),h,by simp[bB],by simp[Op.unary]⟩
 ·exact h.elim
def uM:TypeId->Option IntKind
 | 2=>some .i64
 | 3=>some .i64
 | 5=>some .u8
 | 34=>some .i64
 | 97=>some .u64
 | _=>ae
def kChk(P:Program)(s t:TypeId):Option IntKind:=match P.underlying s,P.underlying t with
 | some _,some (.int k)=>some k
 | _,_=>ae
def Av(s:TypeId):Bool:=s==2||s==3||s==5||s==25||s==41||s==97
def yc(s d:TypeId)(x:AV)(K:AV->Prop):Prop:=match uM d,x with
 | some k,.int _ n=>Av s=true/\K (.int k (k.wrap n))
 | _,_=>False
theorem Kc{s:TypeId}(e:Av s=true)(c:uM d=some k):∃u,ah.underlying s=some u/\ah.underlying d=some (.int k):=by
 have f:∀u,(ah.underlying s).isSome=true->ah.underlying d=some u->∃x,ah.underlying s=some x/\ah.underlying d=some u:=fun u a b=>⟨_,Option.eq_some_of_isSome a,b⟩;refine f _ ?_ ?_
 ·unfold Av at e;simp only[Bool.or_eq_true,beq_iff_eq]at e;rcases e with ((((rfl|rfl)|rfl)|rfl)|rfl)|rfl<;>kernel_rfl
 ·unfold uM at c;split at c<;>first|(cases c;kernel_rfl)|cases c
theorem uS{s:TypeId}(h:yc s d x K){w:World}{M:Nat->Prop}{v:Value}(a:bB w M x v):∃z u,K z/\bB w M z u/\(convert s d v).run ah w=.ok u w:=by
 unfold yc at h;split at h
 ·rename_i k k' n b;obtain⟨c,e⟩:=h;obtain⟨u,f,g⟩:=Kc c b;simp only[bB]at a;subst a;refine⟨_,.int k (k.wrap n),e,by simp[bB],?_⟩
  simp only[convert,Sem.run_bind,run_underlying f,run_underlying g,Result.andThen_ok];simp[Conv.intToInt]
 ·exact h.elim

def Ly(P:Program)(f:Nat):Bool:=match P.funcs[f]? with
 | some fn => fn.body.isSome && fn.name != "runtime.NumGoroutine"
 | ae=>false
theorem Mv:(List.range 259).all (fun i=>i==241||(i==242||Ly ah (i+11)))=true:=by kernel_rfl
theorem Ix(h:(11<=f/\f<270)/\f≠252/\f≠253)(args:Array Value)(w:World):(callFunc f args).run ah w=.ok (.enter f args) w:=by
 have a:=List.all_eq_true.1 Mv (f-11) (by simp;omega)
 rw[(om:f-11+11=f)]at a
 have c:(f-11==241)=false:=by simp;omega
 have d:(f-11==242)=false:=by simp;omega
 rw[c,d,Bool.false_or,Bool.false_or]at a;unfold Ly at a
 cases b:ah.funcs[f]? with
 | none=>rw[b]at a;cases a
 | some fn =>
  rw[b]at a;simp only[Bool.and_eq_true,bne_iff_ne,ne_eq]at a;simp[callFunc,b,a.2];intro e;simp[e]at a
def KX(x y:AV)(K:AV->Prop):Prop:=match x,y with
 | .int k a,.int k' b=>k=k'/\K (.int k (if b > a then b else a))
 | _,_=>False
theorem Ep(h:KX x y K){w:World}{M:Nat->Prop}{vx vy:Value}(c:bB w M x vx)(d:bB w M y vy)(ts:Array TypeId)(t:TypeId) :
  ∃z v,K z/\bB w M z v/\(Builtin.max_ ts t #[vx,vy]).run ah w=.ok v w:=by
 unfold KX at h;split at h
 ·rename_i k a k' b;obtain⟨rfl,e⟩:=h;simp only[bB]at c d;subst c d;exact⟨_,.int k (if b > a then b else a),e,by simp[bB],by simp[Builtin.max_,Builtin.max2]⟩
 ·exact h.elim
def xZ(f:Nat)(l r:List AV)(K:AV->Prop):Prop:=match l with
 | []=>K (.fn f r)
 | x::l=>r=[]/\K (.mfn f (x::l))
def uT(O:Tm)(c:Call)(S:St)(K:AV->St->Prop):Prop:=match c.callee with
 | .value f=>(match ev O f with
  | .fn f l=>((11<=f/\f<270)/\f≠252/\f≠253)/\cL f (c.args.toList.map (ev O)++l) S K
  | .mfn f l=>((11<=f/\f<270)/\f≠252/\f≠253)/\cL f (l++c.args.toList.map (ev O)) S K
  | _=>False)
 | .builtin .len=>(match c.args.toList,c.argTypes.toList with
  | [x],[t]=>Er t (ev O x) (fun z=>K z S)
  | _,_=>False)
 | .builtin .max=>(match c.args.toList with
  | [x,y]=>KX (ev O x) (ev O y) (fun z=>K z S)
  | _=>False)
 | .builtin .append=>(match c.args.toList,c.argTypes.toList with
  | [s,x],[t,t']=>if t'=3 then qo t (ev O s) (ev O x) S K else fZ t t' (ev O s) (ev O x) S K
  | _,_=>False)
 | .builtin .copy=>(match c.args.toList,c.argTypes.toList with
  | [s,x],[t,_]=>uR t (ev O s) (ev O x) S K
  | _,_=>False)
 | _=>False
def rT(t:TypeId)(ps:List (Nat×AV))(K:AV->Prop):Prop:=match t,ps with
 | 50,[]=>K (.big 0)
 | 167,[(0,x),(1,y)]=>dN 2 x/\dN 2 y/\K (.agg [x,y])
 | 183,[(0,x),(1,y)]=>dN 1 x/\dN 1 y/\K (.agg [x,y])
 | 218,[(0,x),(1,y)]=>dN 1 x/\dN 1 y/\K (.agg [x,y])
 | 107,[(0,x)]=>dN 1 x/\K (.agg [x,.int .i64 0])
 | 195,[(0,x),(1,y)]=>dN 2 x/\dN 2 y/\K (.agg [x,y])
 | 238,[(0,x),(1,y),(2,z)]=>dN 1 x/\dN 1 y/\dN 1 z/\K (.agg [x,y,z])
 | 160,[(0,x),(1,y)]=>dN 1 x/\dN 1 y/\K (.agg [x,y,.nil,.nfn])
 | 202,[(0,x),(1,y)]=>dN 1 x/\dN 1 y/\K (.agg [x,y])
 | 197,[(0,x),(1,y),(2,z),(3,.agg [p,q]),(4,.agg [r,s])]=>dN 2 x/\dN 2 y/\dN 2 z/\dN 2 p/\dN 2 q/\dN 2 r/\dN 2 s/\K (.agg [x,y,z,p,q,r,s])
 | _,_=>False
theorem fz{s b:Nat}(a:lN ah t=some (z,s,b)):∃i,ah.info? t=some i/\i.zero=some z/\i.size=s:=by
 unfold lN at a
 cases c:ah.info? t with
 | none=>rw[c]at a;simp at a
 | some i =>
  rw[c]at a;simp only[Option.bind_some,Option.map_eq_some_iff,Prod.mk.injEq]at a;obtain⟨z2,d,e,f,g⟩:=a;exact⟨i,rfl,by rw[d,e],f⟩
theorem z107:lN ah 107=some (.agg #[.slice ae 0 0,.int .i64 0],2,32):=by kernel_rfl
theorem z183:lN ah 183=some (.agg #[.slice ae 0 0,.slice ae 0 0],2,48):=by kernel_rfl
theorem z218:lN ah 218=some (.agg #[.slice ae 0 0,.int .i64 0],2,32):=by kernel_rfl
theorem z167:lN ah 167=some (.agg #[.bool false,.slice ae 0 0,.bool false,.slice ae 0 0],4,64):=by kernel_rfl
theorem z50:lN ah 50=some (.agg #[.bool false,.slice ae 0 0],2,32):=by kernel_rfl
theorem z52:lN ah 52=some (.slice ae 0 0,1,24):=by kernel_rfl
theorem z216:lN ah 216=some (.slice ae 0 0,1,24):=by kernel_rfl
theorem z22:lN ah 22=some (.slice ae 0 0,1,24):=by kernel_rfl
theorem z195:lN ah 195=some (.agg #[.bool false,.slice ae 0 0,.bool false,.slice ae 0 0],4,64):=by kernel_rfl
theorem z197:lN ah 197=some (.agg (bV 7 [.bool false,.slice ae 0 0]).flatten.toArray,14,224):=by kernel_rfl
theorem z160:lN ah 160=some (.agg #[.slice ae 0 0,.slice ae 0 0,.slice ae 0 0,.nilFunc],4,80):=by kernel_rfl
theorem z202:lN ah 202=some (.agg #[.int .u64 0,.int .u64 0],2,16):=by kernel_rfl
theorem z97:lN ah 97=some (.int .u64 0,1,8):=by kernel_rfl
theorem z59:lN ah 59=some (.slice ae 0 0,1,24):=by kernel_rfl
theorem z2:lN ah 2=some (.int .i64 0,1,8):=by kernel_rfl
theorem z238:lN ah 238=some (.agg #[.int .i64 0,.int .i64 0,.int .i64 0],3,24):=by kernel_rfl
theorem z3:lN ah 3=some (.int .i64 0,1,8):=by kernel_rfl
theorem fS(h:dN 1 x)(a:bB w M x v):v.cells=#[v]:=by
 rcases Au h a with⟨_,b,_⟩|⟨e,_⟩
 ·exact qJ b
 ·omega
theorem fR(h:dN 2 x)(a:bB w M x v):∃p q,v=.agg #[p,q]:=by
 rcases Au h a with⟨e,_⟩|⟨_,p,q,e,_⟩
 ·omega
 ·exact⟨p,q,e⟩
theorem tb(h:rT t ps K){w:World}{M:Nat->Prop}{qs:List (Nat×Value)}(f:ph w M ps qs) :
  ∃z u,K z/\bB w M z u/\(Instr.build t qs.toArray).run ah w=.ok u w:=by
 unfold rT at h;split at h
 ·cases qs with
  | cons _ _=>exact f.elim
  | nil =>
   refine⟨_,.agg #[.bool false,.slice ae 0 0],h,by simp only[bB];exact ed.zero w,?_⟩
   obtain⟨i,X,Y,_⟩:=nV (t:=50) (es:=2) (x:=.big 0) (z:=.agg #[.bool false,.slice ae 0 0]) rfl;have Z:=underlying50;simp[Instr.build,zeroValue,typeInfo,X,Y,Instr.fill,Value.cells]
 ·rename_i x y;obtain⟨sx,sy,g⟩:=h
  match qs,f with
  | [(a,vx),(b,vy)],f =>
   simp only[ph]at f;obtain⟨rfl,rx,rfl,ry,_⟩:=f;obtain⟨D,E,rfl⟩:=fR sx rx;obtain⟨F,G,rfl⟩:=fR sy ry;obtain⟨i,l,m,v⟩:=fz z167;obtain⟨j,n,A,o⟩:=fz z50;refine⟨_,.agg #[D,E,F,G],g,by simp only[bB];exact⟨[.agg #[D,E],.agg #[F,G]],by simp[Value.cells],by simp only[a6];exact⟨rx,ry,trivial⟩⟩,?_⟩
   simp[Instr.build,zeroValue,typeInfo,l,m,run_underlying underlying167,cJ n,o,Instr.fill,Value.cells]
  | [],f=>exact f.elim
  | [_],f=>exact f.2.2.elim
  | _::_::_::_,f=>exact f.2.2.2.2.elim
 ·rename_i x y;obtain⟨sx,sy,g⟩:=h
  match qs,f with
  | [(a,vx),(b,vy)],f =>
   simp only[ph]at f;obtain⟨rfl,rx,rfl,ry,_⟩:=f;have cx:=fS sx rx;have cy:=fS sy ry;obtain⟨i,l,m,v⟩:=fz z183;obtain⟨j,n,A,o⟩:=fz z52;refine⟨_,.agg #[vx,vy],g,by simp only[bB];exact⟨[vx,vy],by simp[cx,cy],by simp only[a6];exact⟨rx,ry,trivial⟩⟩,?_⟩
   simp[Instr.build,zeroValue,typeInfo,l,m,run_underlying underlying183,cJ n,o,Instr.fill,cx,cy];simp[Value.cells]
  | [],f=>exact f.elim
  | [_],f=>exact f.2.2.elim
  | _::_::_::_,f=>exact f.2.2.2.2.elim
 ·rename_i x y;obtain⟨sx,sy,g⟩:=h
  match qs,f with
  | [(a,vx),(b,vy)],f =>
   simp only[ph]at f;obtain⟨rfl,rx,rfl,ry,_⟩:=f;have cx:=fS sx rx;have cy:=fS sy ry;obtain⟨i,l,m,v⟩:=fz z218;obtain⟨j,n,A,o⟩:=fz z216;obtain⟨k,B,H,C⟩:=fz z3;refine⟨_,.agg #[vx,vy],g,by simp only[bB];exact⟨[vx,vy],by simp[cx,cy],by simp only[a6];exact⟨rx,ry,trivial⟩⟩,?_⟩
   simp[Instr.build,zeroValue,typeInfo,l,m,run_underlying underlying218,cJ n,o,cJ B,C,Instr.fill,cx,cy];simp[Value.cells]
  | [],f=>exact f.elim
  | [_],f=>exact f.2.2.elim
  | _::_::_::_,f=>exact f.2.2.2.2.elim
 ·rename_i x;obtain⟨sx,g⟩:=h
  match qs,f with
  | [(a,vx)],f =>
   simp only[ph]at f;obtain⟨rfl,rx,_⟩:=f;have cx:=fS sx rx;obtain⟨i,l,m,v⟩:=fz z107;obtain⟨j,n,A,o⟩:=fz z22;obtain⟨k,B,H,C⟩:=fz z3;refine⟨_,.agg #[vx,.int .i64 0],g,by simp only[bB];exact⟨[vx,.int .i64 0],by simp[cx];rfl,by simp only[a6,bB];exact⟨rx,trivial,trivial⟩⟩,?_⟩
   simp[Instr.build,zeroValue,typeInfo,l,m,run_underlying underlying107,cJ n,o,cJ B,C,Instr.fill,cx];simp[Value.cells]
  | [],f=>exact f.elim
  | _::_::_,f=>exact f.2.2.elim
 ·rename_i x y;obtain⟨sx,sy,g⟩:=h
  match qs,f with
  | [(a,vx),(b,vy)],f =>
   simp only[ph]at f;obtain⟨rfl,rx,rfl,ry,_⟩:=f;obtain⟨D,E,rfl⟩:=fR sx rx;obtain⟨F,G,rfl⟩:=fR sy ry;obtain⟨i,l,m,v⟩:=fz z195;obtain⟨j,n,A,o⟩:=fz z50;refine⟨_,.agg #[D,E,F,G],g,by simp only[bB];exact⟨[.agg #[D,E],.agg #[F,G]],by simp[Value.cells],by simp only[a6];exact⟨rx,ry,trivial⟩⟩,?_⟩
   simp[Instr.build,zeroValue,typeInfo,l,m,run_underlying underlying195,cJ n,o,Instr.fill,Value.cells]
  | [],f=>exact f.elim
  | [_],f=>exact f.2.2.elim
  | _::_::_::_,f=>exact f.2.2.2.2.elim
 ·rename_i x y z;obtain⟨sx,sy,sz,g⟩:=h
  match qs,f with
  | [(a,vx),(b,vy),(c,vz)],f =>
   simp only[ph]at f;obtain⟨rfl,rx,rfl,ry,rfl,rz,_⟩:=f;have cx:=fS sx rx;have cy:=fS sy ry;have cz:=fS sz rz;obtain⟨i,l,m,v⟩:=fz z238;obtain⟨j,n,A,o⟩:=fz z2;refine⟨_,.agg #[vx,vy,vz],g,by simp only[bB];exact⟨[vx,vy,vz],by simp[cx,cy,cz],by simp only[a6];exact⟨rx,ry,rz,trivial⟩⟩,?_⟩
   simp[Instr.build,zeroValue,typeInfo,l,m,run_underlying underlying238,cJ n,o,Instr.fill,cx,cy,cz];simp[Value.cells]
  | [],f=>exact f.elim
  | [_],f=>exact f.2.2.elim
  | [_,_],f=>exact f.2.2.2.2.elim
  | _::_::_::_::_,f=>exact f.2.2.2.2.2.2.elim
 ·rename_i x y;obtain⟨sx,sy,g⟩:=h
  match qs,f with
  | [(a,vx),(b,vy)],f =>
   simp only[ph]at f;obtain⟨rfl,rx,rfl,ry,_⟩:=f;have cx:=fS sx rx;have cy:=fS sy ry;obtain⟨i,l,m,v⟩:=fz z160;obtain⟨j,n,A,o⟩:=fz z59;obtain⟨k,B,H,C⟩:=fz z52;refine⟨_,.agg #[vx,vy,.slice ae 0 0,.nilFunc],g,by simp only[bB];exact⟨[vx,vy,.slice ae 0 0,.nilFunc],by simp[cx,cy];rfl,by simp only[a6,bB];exact⟨rx,ry,trivial,trivial,trivial⟩⟩,?_⟩
   simp[Instr.build,zeroValue,typeInfo,l,m,run_underlying underlying160,cJ n,o,cJ B,C,Instr.fill,cx,cy];simp[Value.cells]
  | [],f=>exact f.elim
  | [_],f=>exact f.2.2.elim
  | _::_::_::_,f=>exact f.2.2.2.2.elim
 ·rename_i x y;obtain⟨sx,sy,g⟩:=h
  match qs,f with
  | [(a,vx),(b,vy)],f =>
   simp only[ph]at f;obtain⟨rfl,rx,rfl,ry,_⟩:=f;have cx:=fS sx rx;have cy:=fS sy ry;obtain⟨i,l,m,v⟩:=fz z202;obtain⟨j,n,A,o⟩:=fz z97;refine⟨_,.agg #[vx,vy],g,by simp only[bB];exact⟨[vx,vy],by simp[cx,cy],by simp only[a6];exact⟨rx,ry,trivial⟩⟩,?_⟩
   simp[Instr.build,zeroValue,typeInfo,l,m,run_underlying underlying202,cJ n,o,Instr.fill,cx,cy];simp[Value.cells]
  | [],f=>exact f.elim
  | [_],f=>exact f.2.2.elim
  | _::_::_::_,f=>exact f.2.2.2.2.elim
 ·rename_i x y z p q r s;obtain⟨sx,sy,sz,sp,sq,sr,ss,g⟩:=h
  match qs,f with
  | [(a,vx),(b,vy),(c,vz),(d,vp),(e,vr)],f =>
   simp only[ph]at f;obtain⟨rfl,rx,rfl,ry,rfl,rz,rfl,rp,rfl,rr,_⟩:=f;simp only[bB]at rp rr;obtain⟨ps,rfl,rp⟩:=rp;obtain⟨rs,rfl,rr⟩:=rr
   match ps,rs,rp,rr with
   | [vp,vq],[vr,vs],rp,rr =>
    simp only[a6]at rp rr;obtain⟨rp,rq,_⟩:=rp;obtain⟨rr,rs,_⟩:=rr;obtain⟨I,J,rfl⟩:=fR sx rx;obtain⟨L,N,rfl⟩:=fR sy ry;obtain⟨O,P,rfl⟩:=fR sz rz;obtain⟨Q,R,rfl⟩:=fR sp rp;obtain⟨S,T,rfl⟩:=fR sq rq;obtain⟨f1,U,rfl⟩:=fR sr rr;obtain⟨V,W,rfl⟩:=fR ss rs;obtain⟨i,l,m,v⟩:=fz z197;obtain⟨j,n,A,o⟩:=fz z50;obtain⟨k,B,H,C⟩:=fz z195;refine⟨_,.agg #[I,J,L,N,O,P,Q,R,S,T,f1,U,V,W],g,by
     simp only[bB];exact⟨[.agg #[I,J],.agg #[L,N],.agg #[O,P],.agg #[Q,R],.agg #[S,T],.agg #[f1,U],.agg #[V,W]],by simp[Value.cells],by simp only[a6];exact⟨rx,ry,rz,rp,rq,rr,rs,trivial⟩⟩,?_⟩
    simp[Instr.build,zeroValue,typeInfo,l,m,run_underlying underlying197,cJ n,o,cJ B,C,Instr.fill,Value.cells]
   | [],_,rp,_=>simp[a6]at rp
   | [_],_,rp,_=>simp[a6]at rp
   | _::_::_::_,_,rp,_=>simp[a6]at rp
   | [_,_],[],_,rr=>simp[a6]at rr
   | [_,_],[_],_,rr=>simp[a6]at rr
   | [_,_],_::_::_::_,_,rr=>simp[a6]at rr
  | [],f=>exact f.elim
  | [_],f=>exact f.2.2.elim
  | [_,_],f=>exact f.2.2.2.2.elim
  | [_,_,_],f=>exact f.2.2.2.2.2.2.elim
  | [_,_,_,_],f=>exact f.2.2.2.2.2.2.2.2.elim
  | _::_::_::_::_::_::_,f=>exact f.2.2.2.2.2.2.2.2.2.2.elim
 ·exact h.elim
theorem zZ{w:World}{M:Nat->Prop}:∀(l:List AV) (vs:List Value),a6 w M l vs->∀(i:Nat) (z:AV),l[i]? = some z->∃v,vs[i]? = some v/\bB w M z v
 | [],_,_,i,z,h=>by simp at h
 | x::l,v::vs,a,0,z,h=>by simp only[a6]at a;simp at h;subst h;exact⟨v,sm,a.1⟩
 | x::l,v::vs,a,i+1,z,h=>by simp only[a6]at a;simp at h;obtain⟨u,b,c⟩:=zZ l vs a.2 i z h;exact⟨u,by simpa using b,c⟩
 | _::_,[],a,_,_,_=>by simp[a6]at a
def yU(t:TypeId)(x i:AV)(K:AV->Prop):Prop:=match x,i with
 | .agg l,.int _ n=>(t=195/\∃p q,l=[p,q]/\dN 2 p/\dN 2 q/\(n=0∨n=1)/\K (if n=0 then p else q)) ∨
  ((t=238/\l.length=3∨t=239/\l.length=8)/\(∀z∈l,dN 1 z)/\(0<=n/\n<(l.length:Int))/\K (l.getD n.toNat .any))
 | _,_=>False
theorem IP{w:World}{M:Nat->Prop}:∀(l:List AV) (vs:List Value),(∀z∈l,dN 1 z)->a6 w M l vs->vs.flatMap (fun u=>u.cells.toList)=vs
 | [],[],_,_=>rfl
 | x::l,v::vs,b,a=>by
  simp only[a6]at a;simp only[eu,IP l vs (fun z c=>b z (eA _ c)) a.2,fS (b x (fP ..)) a.1];rfl
 | [],_::_,_,a=>by simp[a6]at a
 | _::_,[],_,a=>by simp[a6]at a
theorem Es(h:yU t x y K){w:World}{M:Nat->Prop}{vx vy:Value}(g:bB w M x vx)(i:bB w M y vy) :
  ∃z v,K z/\bB w M z v/\(Instr.index t vx vy).run ah w=.ok v w:=by
 unfold yU at h;split at h
 ·rename_i l k n;simp only[bB]at g i;subst i;obtain⟨vs,rfl,a⟩:=g;rcases h with⟨rfl,p,q,rfl,sp,sq,r,d⟩|⟨s,u,⟨m,H⟩,d⟩
  ·match vs,a with
   | [vp,vq],a =>
    simp only[a6]at a;obtain⟨rp,rq,_⟩:=a;obtain⟨A,B,rfl⟩:=fR sp rp;obtain⟨C,D,rfl⟩:=fR sq rq;obtain⟨j,b,E,c⟩:=fz z50;rcases r with rfl|rfl
    ·refine⟨_,.agg #[A,B],d,by simpa using rp,?_⟩
     simp[Instr.index,asIntOf,run_underlying underlying195,cJ b,c,part,isAgg,run_underlying underlying50,Value.cells]
    ·refine⟨_,.agg #[C,D],d,by simpa using rq,?_⟩
     simp[Instr.index,asIntOf,run_underlying underlying195,cJ b,c,part,isAgg,run_underlying underlying50,Value.cells]
   | [],a=>simp[a6]at a
   | [_],a=>simp[a6]at a
   | _::_::_::_,a=>simp[a6]at a
  ·rw[IP l vs u a];have e:n.toNat<l.length:=om
   obtain⟨v,o,F⟩:=zZ l vs a n.toNat (l.getD n.toNat .any) (by simp[List.getD,List.getElem?_eq_getElem e])
   obtain⟨j,b,E,c⟩:=fz z2;refine⟨_,v,d,F,?_⟩;rcases s with⟨rfl,G⟩|⟨rfl,G⟩
   ·have f:n<3:=om
    simp[Instr.index,asIntOf,run_underlying underlying238,cJ b,c,part,isAgg,run_underlying underlying2,m,f,o]
   ·have f:n<8:=om
    simp[Instr.index,asIntOf,run_underlying underlying239,cJ b,c,part,isAgg,run_underlying underlying2,m,f,o]
 ·exact h.elim
def Bw(o:Oper)(O:Tm)(S:St)(K:AV->St->Prop):Prop:=match o.op with
 | .move x=>K (ev O x) S
 | .assign x=>K (ev O x) S
 | .pick c x y=>(match ev O c with
  | .bool t=>K (if t then ev O x else ev O y) S
  | _=>False)
 | .alloc t=>nQ t S K
 | .box t x=>jT t (ev O x) S K
 | .build t ps=>rT t (ps.toList.map fun p=>(p.1,ev O p.2)) (fun z=>K z S)
 | .buildSlice t n ps=>cI t n (ps.toList.map fun p=>(p.1,ev O p.2)) S K
 | .load t x=>qn t (ev O x) S (fun z=>K z S)
 | .store t x y=>rQ t (ev O x) (ev O y) S (fun S'=>K .any S')
 | .nilCheck x=>(match ev O x with
  | .ptr es b i=>K (.ptr es b i) S
  | .pat es y=>K (.pat es y) S
  | _=>False)
 | .binOp op t x y _=>Ex op t (ev O x) (ev O y) (fun z=>K z S)
 | .unOp op _ x=>MU op (ev O x) (fun z=>K z S)
 | .convert s d x=>yc s d (ev O x) (fun z=>K z S)
 | .makeFunc (.func f) fi cs=>xZ f (fi.toList.map (ev O)) (cs.toList.map (ev O)) (fun z=>K z S)
 | .makeSlice t x y=>lj t (ev O x) (ev O y) S K
 | .slice t x lo hi mx=>kQ t (ev O x) (lo.map (ev O)) (hi.map (ev O)) (mx.map (ev O)) (fun z=>K z S)
 | .fieldAddr t x f=>rS t (ev O x) f (fun z=>K z S)
 | .indexAddr t x i=>rR t (ev O x) (ev O i) (fun z=>K z S)
 | .index t x i=>yU t (ev O x) (ev O i) (fun z=>K z S)
 | .extract x i=>(match ev O x with
  | .tup l=>(match l[i]? with
   | some z=>K z S
   | ae=>False)
  | _=>False)
 | .call c=>uT O c S K
 | _=>False
theorem fJ(b:(execOp a.eval o).run ah w=.ok (.value v) w')(c:next (a.put o.dst v) w'):o.wp ah a w next Q:=by
 unfold Oper.wp;rw[b];exact c
theorem Dn(b:(execOp a.eval o).run ah w=.ok .skip w')(c:next (a.put o.dst undef) w'):o.wp ah a w next Q:=by
 unfold Oper.wp;rw[b];exact c
theorem qt{O:Tm}{S:St}{N:Nat}{a:Act}{w:World}(h:RT O S N a w):∀ps:List (Nat×Operand),ph w S.dom (ps.map fun p=>(p.1,ev O p.2)) (ps.map fun p=>(p.1,a.eval p.2))
 | []=>by simp[ph]
 | p::ps=>by simp only[gV,ph];exact⟨trivial,h.ev p.2,qt h ps⟩
theorem oF{O:Tm}{S:St}{N:Nat}{a:Act}{w:World}(h:RT O S N a w):∀ps:List Operand,a6 w S.dom (ps.map (ev O)) (ps.map a.eval)
 | []=>by simp[a6]
 | p::ps=>by simp only[gV,a6];exact⟨h.ev p,oF h ps⟩
theorem np{w:World}{M:Nat->Prop}:∀(l l':List AV) (vs vs':List Value),a6 w M l vs->a6 w M l' vs'->a6 w M (l++l') (vs++vs')
 | [],_,[],_,_,h=>by simpa using h
 | x::l,l',v::vs,vs',h,h'=>by simp only[tn,a6]at h ⊢;exact⟨h.1,np l l' vs vs' h.2 h'⟩
 | [],_,_::_,_,h,_=>by simp[a6]at h
 | _::_,_,[],_,h,_=>by simp[a6]at h
theorem tf{w:World}{M:Nat->Prop}:∀(l:List AV) (vs:List Value),a6 w M l vs->∀(i:Nat) (z:AV),l[i]? = some z->∃v,vs[i]? = some v/\bB w M z v
 | [],_,_,i,z,h=>by simp at h
 | x::l,v::vs,a,0,z,h=>by simp only[a6]at a;simp at h;subst h;exact⟨v,sm,a.1⟩
 | x::l,v::vs,a,i+1,z,h=>by simp only[a6]at a;simp at h;obtain⟨u,b,c⟩:=tf l vs a.2 i z h;exact⟨u,by simpa using b,c⟩
 | _::_,[],a,_,_,_=>by simp[a6]at a
theorem oE(h:RT O S N a w)(x:Option Operand):rV w S.dom (x.map (ev O)) (x.map a.eval):=by
 cases x with
 | none=>simp[rV]
 | some x=>simp only[Option.map_some,rV];exact h.ev x
theorem zH(a:Act)(ps:Array (Nat×Operand)):(ps.map fun(x:Nat×Operand)=>(x.1,a.eval x.2))=(ps.toList.map fun p=>(p.1,a.eval p.2)).toArray:=by apply gI;simp
theorem xD{ps:Array (Nat×Operand)}(b:o.op=.build t ps){w:World}:(execOp a.eval o).run ah w=((Instr.build t (ps.toList.map fun p=>(p.1,a.eval p.2)).toArray).run ah w).andThen fun v w'=>.ok (.value v) w':=by
 rw[<-zH];unfold execOp;rw[b];simp
theorem pr{ps:Array (Nat×Operand)}(b:o.op=.buildSlice t n ps){w:World}:(execOp a.eval o).run ah w=((Instr.buildSlice t n (ps.toList.map fun p=>(p.1,a.eval p.2)).toArray).run ah w).andThen fun v w'=>.ok (.value v) w':=by
 rw[<-zH];unfold execOp;rw[b];simp
def Next_(K:AV->St->Prop)(S:St)(a:Act)(d:Option Nat)(w:World)(next:Act->World->Prop):Prop:=∀z v w' S',K z S'->bB w' S'.dom z v->dX w' S'->cG S.dom S'.dom w w'->next (a.put d v) w'
theorem sY{cs:Array Operand}(h:xZ f (fi.toList.map (ev O)) (cs.toList.map (ev O)) K){N:Nat}{a:Act}{w:World}(d:RT O S N a w):∃z,K z/\bB w S.dom z (.func (.func f) (fi.map a.eval) (cs.map a.eval)):=by
 unfold xZ at h;split at h
 ·rename_i b;have b:fi=#[]:=by apply gI;simpa using b
  refine⟨_,h,?_⟩;simp only[bB];exact⟨cs.toList.map a.eval,by rw[b];congr 1<;>apply gI<;>simp,oF d _⟩
 ·rename_i x l b;have c:cs=#[]:=by apply gI;simpa using h.1
  refine⟨_,h.2,?_⟩;simp only[bB];exact⟨fi.toList.map a.eval,by rw[c];congr 1<;>apply gI<;>simp,by rw[<-b];exact oF d _⟩
theorem lD{K:AV->St->Prop}(h:Bw o O S K){N:Nat}{a:Act}{w:World}(j:RT O S N a w){next:Act->World->Prop}{Q:Exit->Act->World->Prop}
  (C:Next_ K S a o.dst w next):o.wp ah a w next Q:=by
 have pure_:∀(s:Sem Value),(execOp a.eval o=do let x <-s;pure (.value x))->(∃z u,K z S/\bB w S.dom z u/\s.run ah w=.ok u w)->o.wp ah a w next Q:=by
  intro s T ⟨z,u,q,A,B⟩;exact fJ (by rw[T];simp[B]) (C z u w S q A j.st (cG.refl _ _))
 have goes_:∀(s:Sem Value),(execOp a.eval o=do let x <-s;pure (.value x))->BI s w S K->o.wp ah a w next Q:=by
  intro s T ⟨z,u,w',S',q,A,B,J,U⟩;exact fJ (by rw[T];simp[U]) (C z u w' S' q A B J)
 unfold Bw at h;split at h
 ·rename_i x k;exact fJ (v:=a.eval x) (by simp[execOp,k]) (C _ _ w S h (j.ev x) j.st (cG.refl _ _))
 ·rename_i x k;exact fJ (v:=a.eval x) (by simp[execOp,k]) (C _ _ w S h (j.ev x) j.st (cG.refl _ _))
 ·rename_i c x y k;have E:=j.ev c
  cases V:ev O c<;>rw[V]at h E<;>try exact h.elim
  rename_i t;simp only[bB]at E;refine fJ (v:=if t then a.eval x else a.eval y) (by simp[execOp,k,E,asBool]) (C _ _ w S h ?_ j.st (cG.refl _ _))
  cases t
  ·exact j.ev y
  ·exact j.ev x
 ·rename_i t k;exact goes_ (Instr.alloc t true (.tuple #[])) (by simp[execOp,k]) (By h j.st)
 ·rename_i t x k;exact goes_ (Instr.box t (a.eval x)) (by simp[execOp,k]) (Ew h j.st (j.ev x))
 ·rename_i t ps k;obtain⟨z,u,q,A,B⟩:=tb h (qt j ps.toList);refine fJ (v:=u) ?_ (C z u w S q A j.st (cG.refl _ _));rw[xD k,B];rfl
 ·rename_i t n ps k;obtain⟨z,u,w',S',q,A,B,J,U⟩:=tc h j.st (qt j ps.toList);refine fJ (v:=u) ?_ (C z u w' S' q A B J);rw[pr k,U];rfl
 ·rename_i t x k;exact pure_ (Instr.loadAt t (a.eval x)) (by simp[execOp,k]) (qm h j.st (j.ev x))
 ·rename_i t x y k;obtain⟨w',S',q,A,B,J⟩:=Bv h j.st (j.ev x) (j.ev y);exact Dn (by simp[execOp,k,J]) (C _ _ w' S' q (by simp[bB]) A B)
 ·rename_i x k;have m:=j.ev x
  cases F:ev O x<;>rw[F]at h m<;>try exact h.elim
  ·have L:=m;simp only[bB]at m;exact fJ (v:=a.eval x) (by simp[execOp,k,m]) (C _ _ w S h L j.st (cG.refl _ _))
  ·have L:=m;simp only[bB]at m;obtain⟨b,off,u,m,_⟩:=m;exact fJ (v:=a.eval x) (by simp[execOp,k,m]) (C _ _ w S h L j.st (cG.refl _ _))
 ·rename_i op t x y _ k;have:=yd (ty:=t) h (j.ev x) (j.ev y) x y;exact pure_ (do eqGuard op t x y (a.eval x) (a.eval y);binOp op t (a.eval x) (a.eval y)) (by simp[execOp,k]) this
 ·rename_i op t x k;exact pure_ (Op.unary op (a.eval x)) (by simp[execOp,k]) (zW h (j.ev x))
 ·rename_i s d x k;exact pure_ (convert s d (a.eval x)) (by simp[execOp,k]) (uS h (j.ev x))
 ·rename_i f fi cs k;obtain⟨z,q,A⟩:=sY h j;exact fJ (v:=.func (.func f) (fi.map a.eval) (cs.map a.eval)) (by simp[execOp,k,Instr.makeFunc]) (C _ _ w S q A j.st (cG.refl _ _))
 ·rename_i t x y k;exact goes_ (Instr.makeSlice t (a.eval x) (a.eval y)) (by simp[execOp,k]) (C3 h j.st (j.ev x) (j.ev y))
 ·rename_i t x lo Y mx k;exact pure_ (Instr.sliceAt t (a.eval x) (lo.map a.eval) (Y.map a.eval) (mx.map a.eval)) (by simp[execOp,k]) (sX h (j.ev x) (oE j lo) (oE j Y) (oE j mx))
 ·rename_i t x f k;exact pure_ (Instr.fieldAt t (a.eval x) f) (by simp[execOp,k]) (ta h (j.ev x))
 ·rename_i t x i k;exact pure_ (Instr.indexAt t (a.eval x) (a.eval i)) (by simp[execOp,k]) (sZ h (j.ev x) (j.ev i))
 ·rename_i t x i k;exact pure_ (Instr.index t (a.eval x) (a.eval i)) (by simp[execOp,k]) (Es h (j.ev x) (j.ev i))
 ·rename_i x i k;have m:=j.ev x
  cases F:ev O x<;>rw[F]at h m<;>try exact h.elim
  rename_i l;simp only at h
  cases W:l[i]? with
  | none=>rw[W]at h;exact h.elim
  | some z =>
   rw[W]at h;simp only[bB]at m;obtain⟨vs,m,G⟩:=m;obtain⟨v,hv,hz⟩:=tf l vs G i z W;exact fJ (v:=v) (by simp[execOp,k,Instr.extract,m,hv]) (C _ _ w S h hz j.st (cG.refl _ _))
 ·rename_i c k;unfold uT at h;split at h
  ·rename_i f Z;have H:=j.ev f
   cases F:ev O f<;>rw[F]at h H<;>try exact h.elim
   ·rename_i g l;simp only[bB]at H;obtain⟨vs,M,G⟩:=H;obtain⟨X,P⟩:=h;have I:(execOp a.eval o).run ah w=.ok (.enter g (c.args.map a.eval++vs.toArray)) w:=by
     simp[execOp,k,resolve,Z,Deferred.ofValue,M,invoke,Ix X]
    unfold Oper.wp;rw[I];have hargs:(c.args.map a.eval++vs.toArray)=(c.args.toList.map a.eval++vs).toArray:=by apply gI;simp
    rw[hargs];refine(P w _ j.st (np _ _ _ _ (oF j _) G)).mono ?_;rintro e w' ⟨v,r,S',rfl,q,A,B,J⟩;exact C r v w' S' q A B J
   ·rename_i g l;simp only[bB]at H;obtain⟨vs,M,G⟩:=H;obtain⟨X,P⟩:=h;have I:(execOp a.eval o).run ah w=.ok (.enter g (vs.toArray++c.args.map a.eval)) w:=by
     simp[execOp,k,resolve,Z,Deferred.ofValue,M,invoke,Ix X]
    unfold Oper.wp;rw[I];have hargs:(vs.toArray++c.args.map a.eval)=(vs++c.args.toList.map a.eval).toArray:=by apply gI;simp
    rw[hargs];refine(P w _ j.st (np _ _ _ _ G (oF j _))).mono ?_;rintro e w' ⟨v,r,S',rfl,q,A,B,J⟩;exact C r v w' S' q A B J
  ·rename_i E;split at h
   ·rename_i x t m R;have p:c.args=#[x]:=by apply gI;simpa using m
    have D:c.argTypes=#[t]:=by apply gI;simpa using R
    exact pure_ (Builtin.len_ #[t] o.type #[a.eval x]) (by simp[execOp,k,resolve,E,invoke,builtin,p,D]) (ya h (j.ev x))
   ·exact h.elim
  ·rename_i E;split at h
   ·rename_i x y m;have p:c.args=#[x,y]:=by apply gI;simpa using m
    exact pure_ (Builtin.max_ c.argTypes o.type #[a.eval x,a.eval y]) (by simp[execOp,k,resolve,E,invoke,builtin,p]) (Ep h (j.ev x) (j.ev y) _ _)
   ·exact h.elim
  ·rename_i E;split at h
   ·rename_i s x t t' m R;have p:c.args=#[s,x]:=by apply gI;simpa using m
    have D:c.argTypes=#[t,t']:=by apply gI;simpa using R
    split at h
    ·rename_i B;subst B;exact goes_ (Builtin.append_ #[t,3] o.type #[a.eval s,a.eval x]) (by simp[execOp,k,resolve,E,invoke,builtin,p,D]) (ye h j.st (j.ev s) (j.ev x))
    ·exact goes_ (Builtin.append_ #[t,t'] o.type #[a.eval s,a.eval x]) (by simp[execOp,k,resolve,E,invoke,builtin,p,D]) (yV h j.st (j.ev s) (j.ev x))
   ·exact h.elim
  ·rename_i E;split at h
   ·rename_i s x t t' m R;have p:c.args=#[s,x]:=by apply gI;simpa using m
    have D:c.argTypes=#[t,t']:=by apply gI;simpa using R
    exact goes_ (Builtin.copy_ #[t,t'] o.type #[a.eval s,a.eval x]) (by simp[execOp,k,resolve,E,invoke,builtin,p,D]) (C4 h j.st (j.ev s) (j.ev x))
   ·exact h.elim
  ·exact h.elim
 ·exact h.elim

end Go.Proofs.YtdobfmlmenaajaaGreatDoor
