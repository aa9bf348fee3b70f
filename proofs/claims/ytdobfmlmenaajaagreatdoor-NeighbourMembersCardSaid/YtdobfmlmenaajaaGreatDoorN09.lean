/-
  Lemmas for NeighbourMembers.
-/
import Derived.Test.YtdobfmlmenaajaaGreatDoorN08
import Derived.Lib.AppendZerosOnto
namespace Go.Proofs.YtdobfmlmenaajaaGreatDoor
open Go.RowKit
open _root_.Array renaming getElem?_append_left→ez,getElem?_eq_none→eE,size_append→fY,getElem?_append→me
open _root_.List renaming replicate→bL,size_toArray→bQ,map_cons→cj,mem_of_getElem?→cq,length_cons→cr,getElem?_eq_some_iff→cG,flatMap_cons→cT,mem_map→eY,cons→oc
open _root_.Nat renaming le_refl→ah,zero_add→aC,mul_comm→aO,mul_le_mul_left→aY,mul_le_mul_right→bT,le_trans→bW,mul_add→ct,add_zero→cR,mul_zero→dA,mul_succ→dT
open _root_.Option renaming none→ac,some→dO
set_option maxHeartbeats 6400000
set_option maxRecDepth 4096
set_option linter.all false
def vZ(S:St):AV->Option (Nat×Nat×(Nat->AV)×Option Nat)
 | .sl es b off len=>(S b).bind fun X=>if X.es=es/\off+len<=X.n then some (es,len,fun j=>X.g (off+j),some b)else ac
 | .lst es n g=>some (es,n,g,ac)
 | _=>ac
theorem sv(g:Nat->AV)(o:Nat):∀k i,dj (fun j=>g (o+j)) i k=dj g (o+i) k
 | 0,_=>rfl
 | k+1,i=>by simp only[dj];rw[sv g o k (i+1)];rfl
theorem iO(g:Nat->AV):∀k i,(dj g i k).length=k
 | 0,_=>rfl
 | k+1,i=>by simp[dj,iO g k]
theorem pM(g:Nat->AV):∀k i j,j<k->(dj g i k).getD j .any=g (i+j)
 | 0,_,_,h=>by omega
 | k+1,i,0,_=>by simp[dj]
 | k+1,i,j+1,h=>by
  have:=pM g k (i+1) j om;simp only[dj,List.getD_cons_succ];rw[this];congr 1;omega
theorem mI(g:Nat->AV):∀k i z,z∈dj g i k->∃j,j<k/\z=g (i+j)
 | 0,_,_,h=>by simp[dj]at h
 | k+1,i,z,h=>by
  simp only[dj,List.mem_cons]at h;rcases h with rfl|h
  ·exact⟨0,by omega,rfl⟩
  ·obtain⟨j,h1,h2⟩:=mI g k (i+1) z h;exact⟨j+1,by omega,by rw[h2];congr 1;omega⟩
theorem sF{w:World}{M:Nat->Prop}{b off es:Nat}{g:Nat->AV}{n:Nat}(hj:∀j,j<n->∃u,rH w b (off+es*j) es u/\a8 w M (g j) u) :
  ∀(k i:Nat),i+k<=n->∃vs:List Value,a6 w M (dj g i k) vs/\(vs.flatMap (fun u=>u.cells.toList)).length=es*k/\∀j,j<es*k->w.cell? ⟨b,off+es*i+j,ac⟩=(vs.flatMap (fun u=>u.cells.toList))[j]?
 | 0,i,_=>⟨[],by simp[dj,a6],by simp,fun j hj=>by simp at hj⟩
 | k+1,i,hk=>by
  obtain⟨u,⟨cs,ty,fr,hb,hr⟩,hu⟩:=hj i om;obtain⟨vs,h1,h2,h3⟩:=sF hj k (i+1) om;have hsz:u.cells.toList.length=es/\∀j,j<es->w.cell? ⟨b,off+es*i+j,ac⟩=u.cells.toList[j]?:=by
   match es,hr with
   | 1,hr =>
    simp only[reads]at hr;rw[pg hr.2];exact⟨rfl,fun j hj=>by
     obtain rfl:j=0:=by omega
     rw[l8 hb];simpa using hr.1⟩
   | 2,hr =>
    simp only[reads]at hr;obtain⟨x,y,rfl,_,_,h0,h1⟩:=hr;refine⟨rfl,fun j hj=>?_⟩;rw[l8 hb]
    match j with
    | 0=>simpa [Value.cells]using h0
    | 1=>simpa [Value.cells]using h1
    | j+2=>omega
  refine⟨u::vs,by simp only[dj,a6];exact⟨hu,h1⟩,by simp only[cT,List.length_append,hsz.1,h2];rw[dT];omega,fun j hj=>?_⟩
  simp only[cT];by_cases hlt:j<es
  ·rw[List.getElem?_append_left (by rw[hsz.1];exact hlt)];exact hsz.2 j hlt
  ·rw[List.getElem?_append_right (by rw[hsz.1];omega),hsz.1,<-h3 (j-es) (by rw[dT]at hj;omega)]
   congr 2;rw[dT];omega
theorem xN{w:World}{S:St}(hs:dz w S){x:AV}{v:Value}(hx:a8 w S.dom x v){es m:Nat}{h:Nat->AV}{o:Option Nat}(he:vZ S x=some (es,m,h,o))(hm:0<m) :
  ∃b off c vs,v=.slice (some ⟨b,off,ac⟩) m c/\a6 w S.dom (dj h 0 m) vs/\(vs.flatMap (fun u=>u.cells.toList)).length=es*m/\∀j,j<es*m->w.cell? ⟨b,off+j,ac⟩=(vs.flatMap (fun u=>u.cells.toList))[j]?:=by
 cases x with
 | sl es' b off len =>
  simp only[vZ]at he
  cases hX:S b with
  | none=>rw[hX]at he;simp at he
  | some X =>
   rw[hX]at he;simp only[Option.bind_some]at he;split at he
   ·rename_i hc;simp only[dO.injEq,Prod.mk.injEq]at he;obtain⟨rfl,rfl,rfl,_⟩:=he;simp only[a8]at hx;obtain⟨cap,cs',ty',fr',rfl,_,_,_⟩:=hx;obtain⟨cs,hb,hsz,hj,_⟩:=hs b X hX;obtain⟨vs,h1,h2,h3⟩:=lE hj len off hc.2;rw[hc.1]at h2 h3;refine⟨b,es'*off,cap,vs,rfl,by rw[sv,cR];exact h1,h2,fun j hj=>?_⟩
    rw[l8 hb];exact h3 j hj
   ·cases he
 | lst es' n g =>
  simp only[vZ,dO.injEq,Prod.mk.injEq]at he;obtain⟨rfl,rfl,rfl,_⟩:=he;simp only[a8]at hx;obtain⟨A,c,rfl,hc,hb⟩:=hx;obtain⟨b,off,rfl,_,_,hj⟩:=hb hm;obtain⟨vs,h1,h2,h3⟩:=sF hj n 0 om;exact⟨b,off,c,vs,rfl,h1,h2,fun j hj=>by have:=h3 j hj;simpa using this⟩
 | _=>simp[vZ]at he
def li(g:Nat->AV)(len m:Nat)(h:Nat->AV):Nat->AV:=if m=1 then bK g len (h 0)else fun j=>if j<len then g j else h (j-len)
theorem zi{g:Nat->AV}{len m:Nat}{h:Nat->AV}{j:Nat}(hj:j<len):li g len m h j=g j:=by
 unfold li;split
 ·simp only[bK];rw[if_neg om]
 ·simp only;rw[if_pos hj]
theorem tu{g:Nat->AV}{len m:Nat}{h:Nat->AV}{j:Nat}(h1:len<=j)(h2:j<len+m):li g len m h j=h (j-len):=by
 unfold li;split
 ·simp only[bK];rw[if_pos om];congr 1;omega
 ·simp only;rw[if_neg om]
def St.del(S:St)(b:Nat):St:=fun k=>if k=b then ac else S k
def eL(t t':TypeId)(s x:AV)(S:St)(K:AV->St->Prop):Prop:=match cX t with
 | some e=>t=t'/\(eQ e).isSome=true/\(match vZ S x with
  | some (es,m,h,o)=>es=bI e/\0<m/\(∀j,j<m->du es (h j))/\(match s with
   | .nil=>m<=1048576/\∀b,S b=ac->K (.sl es b 0 m) (S.upd b ⟨e,es,m,h⟩)
   | .sl es' b off len=>(match S b with
    | some X=>es'=es/\off=0/\X.ty=e/\X.es=es/\X.n=len/\len+m<=1048576/\o≠some b /\
     ∀b',(b'=b∨S b'=ac)->K (.sl es b' 0 (len+m)) ((S.del b).upd b' ⟨e,es,len+m,li X.g len m h⟩)
    | ac=>False)
   | _=>False)
  | ac=>False)
 | ac=>False
theorem mg{es:Nat}{x:AV}{z:Value}{w:World}{M:Nat->Prop}(h:du es x)(hr:a8 w M x z)(n k:Nat)(y:Value)(hy:(Builtin.zeroCells z.cells n)[k]? = some y):jQ y:=by
 obtain⟨h1,h2,_⟩:=o7 h hr;simp only[Builtin.zeroCells,Array.getElem?_map,Option.map_eq_some_iff]at hy;obtain⟨i,hi,rfl⟩:=hy;by_cases hz:z.cells.size=0
 ·rw[hz]at hi;simp at hi
 ·have hlt:i%z.cells.size<z.cells.size:=Nat.mod_lt _ om;rw[getElem!_pos z.cells _ hlt];exact(h2 _ (by simp)).2
theorem co.drew(M:Nat->Prop)(w:World):co M M w w.drew:=⟨rfl,rfl,rfl,ah _,fun _ _ _=>rfl,fun _ cs _ _ h=>⟨cs,h,rfl⟩,fun _ _ h=>h⟩
theorem dz.drew{w:World}{S:St}(h:dz w S):dz w.drew S:=fun b X hX=>by
 obtain⟨cs,h1,h2,h3,h4⟩:=h b X hX;exact⟨cs,h1,h2,fun j hj=>by obtain⟨u,h5,h6⟩:=h3 j hj;exact⟨u,h5,a8.grow h.noU (co.drew _ w) _ _ h6⟩,h4⟩
theorem dz.less{w:World}{S S':St}(h:dz w S)(hs:∀b X,S' b=some X->S b=some X):dz w S'/\∀k,S'.dom k->S.dom k:=by
 have hd:∀k,S'.dom k->S.dom k:=fun k hk=>by
  simp only[St.dom]at hk ⊢
  cases e:S' k with
  | none=>exact absurd e hk
  | some X=>rw[hs k X e];simp
 have hg:co S.dom S'.dom w w:=(co.refl S.dom w).weaken hd;refine⟨fun b X hX=>?_,hd⟩;obtain⟨cs,h1,h2,h3,h4⟩:=h b X (hs b X hX);exact⟨cs,h1,h2,fun j hj=>by obtain⟨u,h5,h6⟩:=h3 j hj;exact⟨u,h5,a8.grow h.noU hg _ _ h6⟩,h4⟩
theorem A0(S:St)(b:Nat):∀k X,S.del b k=some X->S k=some X:=by
 intro k X h;simp only[St.del]at h;split at h
 ·cases h
 ·exact h
theorem tw{e:TypeId}(h:(eQ e).isSome=true):∃x z,eQ e=some (bI e,x,z):=by
 unfold eQ at h ⊢;split at h<;>first|exact⟨_,_,rfl⟩|cases h
theorem C4(S:St)(b:Nat)(X:dn):(S.del b).upd b X=S.upd b X:=by
 funext k;simp only[St.del,St.upd];split<;>rfl
theorem lz(z:Array Value)(n:Nat):(Builtin.zeroCells z n).size=n*z.size:=by simp[Builtin.zeroCells]
theorem jD{w:World}{M:Nat->Prop}{es len m:Nat}{g h:Nat->AV}{cs:Array Value}{vs:List Value}
  (hold:∀j,j<len->∃u,reads cs (es*j) es u/\a8 w M (g j) u) (hr:a6 w M (dj h 0 m) vs) (hst:∀j,j<m->du es (h j))
  (hnew:∀q,q<es*m->cs[es*len+q]? = (vs.flatMap (fun u=>u.cells.toList))[q]?) :
  ∀j,j<len+m->∃u,reads cs (es*j) es u/\a8 w M (li g len m h j) u:=by
 intro j hj;by_cases hlt:j<len
 ·rw[zi hlt];exact hold j hlt
 ·rw[tu om hj];obtain⟨_,_,_,l4⟩:=fQ (es:=es) (dj h 0 m) vs hr (fun z hz=>by
   obtain⟨k,hk,rfl⟩:=mI h m 0 z hz;rw[aC];exact hst k hk)
  obtain⟨u,h1,h2⟩:=l4 (j-len) (by rw[iO];omega)
  rw[pM _ _ _ _ om,aC]at h1;refine⟨u,?_,h1⟩;have:=h2 cs (es*len) (fun q hq=>hnew q (by rw[iO]at hq;exact hq))
  rw[<-ct,show len+(j-len)=j by omega]at this
  exact this
theorem wI{t t' ty:TypeId}{s x:AV}{S:St}{K:AV->St->Prop}(h:eL t t' s x S K){w:World}(hs:dz w S){vs vx:Value}(hsv:a8 w S.dom s vs)(hx:a8 w S.dom x vx) :
  zF (Builtin.append_ #[t,t'] ty #[vs,vx]) w S K:=by
 unfold eL at h
 cases he:cX t with
 | none=>rw[he]at h;exact h.elim
 | some e =>
  rw[he]at h;obtain⟨rfl,hze,h⟩:=h;obtain⟨zx,zv,hz⟩:=tw hze;obtain⟨hu,i,hi,hsz⟩:=gQ he;obtain⟨i',g1,g2,g3,g4,g5,g6,g7,g8⟩:=mD hz;rw[hi]at g1;cases g1
  cases hel:vZ S x with
  | none=>rw[hel]at h;exact h.elim
  | some p =>
   obtain⟨es,m,f,o⟩:=p;rw[hel]at h;obtain⟨rfl,hm,hst,h⟩:=h;obtain⟨xb,xo,xc,us,rfl,u1,u2,u3⟩:=xN hs hx hel hm;obtain⟨_,_,l3,_⟩:=fQ (es:=bI e) (dj f 0 m) us u1 (fun z hz=>by
    obtain⟨k,hk,rfl⟩:=mI f m 0 z hz;rw[aC];exact hst k hk)
   generalize hfl:us.flatMap (fun u=>u.cells.toList)=fl at *;have hfl2:fl.length=m*i.size:=by rw[u2,hsz,aO]
   have hnews:∀j v,fl[j]? = some v->w.cell? ((⟨xb,xo,ac⟩:Addr).add j)=some v:=fun j v hj=>by
    rw[fT,u3 j (by rw[<-u2];exact(cG.1 hj).1)];exact hj
   have hnu:∀(k:Nat) (y:Value),fl[k]? = some y->jQ y:=fun k y hy=>(l3 y (cq hy)).2;have hmb:m*i.bytes<=32*m:=by rw[aO];exact bT _ g4
   cases s with
   | nil =>
    simp only at h;obtain⟨hm2,hK⟩:=h;simp only[a8]at hsv;subst hsv;have hrun:=run_append_nil (P:=Tryz.prog) w t ty e i zv hu hi g2 ⟨xb,xo,ac⟩ m xc fl hfl2 hnews hm om om;have hcap:=grownCap_ge w m 0 e;generalize grownCap w m 0 e=cap at hrun hcap;have hsize:(fl.toArray++Builtin.zeroCells zv.cells (cap-m)).size=bI e*cap:=by
     rw[fY,lz,bQ,u2,g6,aO (cap-m),<-ct,show m+(cap-m)=cap by omega]
    have hrd:=jD (w:=w.drew) (M:=S.dom) (es:=bI e) (len:=0) (m:=m) (g:=f) (h:=f) (cs:=fl.toArray++Builtin.zeroCells zv.cells (cap-m)) (vs:=us) (fun j hj=>by omega) (a6.grow hs.noU (co.drew _ w) _ _ u1) hst (fun q hq=>by
     rw[dA,aC,hfl,ez (by rw[bQ,u2];exact hq)];simp)
    obtain⟨n1,n2,n3⟩:=dz.new (w:=w.drew) hs.drew (X:=⟨e,bI e,m,f⟩) (cs:=fl.toArray++Builtin.zeroCells zv.cells (cap-m)) (by rw[hsize];exact aY _ hcap)
     (fun j hj=>by have:=hrd j (by simpa using hj);rw[tu om (by simpa using hj)]at this;simpa using this) (fun k y hy=>by
      rw[me]at hy;split at hy
      ·exact hnu k y (by simpa using hy)
      ·exact mg g7 (g8 w S.dom) _ _ _ hy)
    refine⟨_,_,_,_,hK _ n1,?_,n2,(co.drew S.dom w).trans n3,hrun⟩;simp only[a8];exact⟨cap,_,e,(0,0),by rw[dA];rfl,hcap,heap_alloc_new w.drew _,by rw[hsize,aC];exact ah _⟩
   | sl es' b off len =>
    simp only at h
    cases hX:S b with
    | none=>rw[hX]at h;exact h.elim
    | some X =>
     rw[hX]at h;obtain⟨rfl,rfl,hty,hes,hn,hmax,hob,hK⟩:=h;simp only[a8,dA,aC]at hsv;obtain⟨cap,cs',ty',fr',rfl,hlc,hb',hcs'⟩:=hsv;obtain⟨cs,hb,hcsz,hj,hcu⟩:=hs b X hX;rw[hb]at hb';simp only[dO.injEq,Obj.cells.injEq]at hb';obtain⟨rfl,rfl,rfl⟩:=hb';rw[hes,hn]at hj hcsz;rw[hty]at hb;by_cases hroom:len+m<=cap
     ·have hf:=run_firstCells_some (P:=Tryz.prog) w i.size m ⟨xb,xo,ac⟩ m xc fl hfl2 hnews;have hfit:bI e*len+fl.length<=cs.size:=by
       rw[u2,<-ct];exact bW (aY _ hroom) hcs'
      have hst2:=iE Tryz.prog (b:=b) (off:=len*i.size) (ty:=e) fl w cs 0 hb (by rw[hsz,cR,aO];exact hfit) (fun u hu=>(l3 u hu).1)
      rw[cR]at hst2;have hrun:(Builtin.append_ #[t,t] ty #[.slice (some ⟨b,0,ac⟩) len cap,.slice (some ⟨xb,xo,ac⟩) m xc]).run Tryz.prog w=.ok (.slice (some ⟨b,0,ac⟩) (len+m) cap) (eA w b (dK cs (len*i.size) fl) e):=by
       simp[Builtin.append_,run_underlying hu,sizeOf,typeInfo,hi,Builtin.lenOf,hroom,hf,fT,hst2]
      have hcsn:∀q,q<bI e*m->(dK cs (len*i.size) fl)[bI e*len+q]? = fl[q]?:=fun q hq=>by
       rw[fR _ _ _ _ (by rw[hsz,aO];exact hfit),if_pos (by rw[hsz,u2,aO len];omega)]
       rw[show bI e*len+q-len*i.size=q by rw[hsz,aO len];omega]
      have hrd:=jD (w:=w) (M:=S.dom) (es:=bI e) (len:=len) (m:=m) (g:=X.g) (h:=f) (cs:=dK cs (len*i.size) fl) (vs:=us) (fun j hjl=>by
       obtain⟨u,h5,h6⟩:=hj j hjl;refine⟨u,iY h5 (fun q hq=>?_),h6⟩;rw[fR _ _ _ _ (by rw[hsz,aO];exact hfit),if_neg]
       rw[hsz,aO len];have:bI e*(j+1)<=bI e*len:=aY _ hjl;rw[dT]at this;omega) u1 hst (fun q hq=>by rw[hfl];exact hcsn q hq)
      have hwr:=dz.write hs hX (X':=⟨e,bI e,len+m,li X.g len m f⟩) (cs:=cs) (cs':=dK cs (len*i.size) fl) (by rw[hty];exact hb) (fI _ _ _) hty.symm (by
        rw[fI];exact bW (aY _ hroom) hcs') hrd (fun k y hy=>by
        rw[fR _ _ _ _ (by rw[hsz,aO];exact hfit)]at hy
        split at hy
        ·exact hnu _ y hy
        ·exact hcu k y hy)
      rw[hty]at hwr;have hK':=hK b (Or.inl rfl);rw[C4]at hK';refine⟨_,_,_,_,hK',?_,hwr.1,hwr.2,hrun⟩;simp only[a8,dA,aC];exact⟨cap,dK cs (len*i.size) fl,e,(0,0),rfl,hroom,by rw[ia (dE hb),if_pos rfl],by rw[fI];exact hcs'⟩
     ·obtain⟨os,o1,o2,o3⟩:=lE hj len 0 om;generalize hol:os.flatMap (fun u=>u.cells.toList)=ol at *;have hob2:(len+m)*i.bytes<=32*(len+m):=by rw[aO];exact bT _ g4
      have hrun:=run_append_grow (P:=Tryz.prog) w t ty e i zv hu hi g2 ⟨b,0,ac⟩ len cap ol (by rw[o2,hsz,aO]) (fun j v hjv=>by
        rw[fT,l8 hb];have:=o3 j (by rw[<-o2];exact(cG.1 hjv).1)
        rw[dA]at this;rw[this];exact hjv) ⟨xb,xo,ac⟩ m xc fl hfl2 hnews om om (growslice_fits om om)
      have hcap:=grownCap_ge w (len+m) cap e;generalize grownCap w (len+m) cap e=cap2 at hrun hcap;have hsize:(ol.toArray++fl.toArray++Builtin.zeroCells zv.cells (cap2-(len+m))).size=bI e*cap2:=by
       rw[fY,fY,lz,bQ,bQ,u2,o2,g6,aO (cap2-(len+m)),<-ct,<-ct,show len+m+(cap2-(len+m))=cap2 by omega]
      have hget1:∀q,q<bI e*len->(ol.toArray++fl.toArray++Builtin.zeroCells zv.cells (cap2-(len+m)))[q]? = ol[q]?:=fun q hq=>by
       rw[ez (by rw[fY,bQ,o2];omega),ez (by rw[bQ,o2];exact hq)];simp
      have hrd:=jD (w:=w.drew) (M:=S.dom) (es:=bI e) (len:=len) (m:=m) (g:=X.g) (h:=f) (cs:=ol.toArray++fl.toArray++Builtin.zeroCells zv.cells (cap2-(len+m))) (vs:=us) (fun j hjl=>by
        obtain⟨u,h5,h6⟩:=hj j hjl;refine⟨u,iY h5 (fun q hq=>?_),a8.grow hs.noU (co.drew _ w) _ _ h6⟩;have hql:bI e*j+q<bI e*len:=by
         have:bI e*(j+1)<=bI e*len:=aY _ hjl;rw[dT]at this;omega
        rw[hget1 _ hql,<-o3 _ hql,dA,aC]) (a6.grow hs.noU (co.drew _ w) _ _ u1) hst (fun q hq=>by
        rw[hfl,ez (by rw[fY,bQ,bQ,o2,u2];omega),Array.getElem?_append_right (by rw[bQ,o2];omega),bQ,o2,show bI e*len+q-bI e*len=q by omega];simp)
      have holu:∀(k:Nat) (y:Value),ol[k]? = some y->jQ y:=fun k y hy=>by
       have hk:k<ol.length:=(cG.1 hy).1;have:=o3 k (by rw[<-o2];exact hk)
       rw[hy]at this;exact hcu _ y this
      obtain⟨n1,n2,n3⟩:=dz.new (w:=w.drew) hs.drew (X:=⟨e,bI e,len+m,li X.g len m f⟩) (cs:=ol.toArray++fl.toArray++Builtin.zeroCells zv.cells (cap2-(len+m))) (by rw[hsize];exact aY _ hcap) hrd (fun k y hy=>by
        rw[me]at hy;split at hy
        ·rw[me]at hy;split at hy
         ·exact holu k y (by simpa using hy)
         ·exact hnu _ y (by simpa using hy)
        ·exact mg g7 (g8 w S.dom) _ _ _ hy)
      have hless:=dz.less n2 (S':=(S.del b).upd w.drew.heap.size ⟨e,bI e,len+m,li X.g len m f⟩) (fun k Y hY=>by
       simp only[St.upd]at hY ⊢;split at hY
       ·rename_i e1;rw[if_pos e1];exact hY
       ·rename_i e1;rw[if_neg e1];exact A0 S b k Y hY)
      refine⟨_,_,_,_,hK _ (Or.inr n1),?_,hless.1,((co.drew S.dom w).trans n3).weaken hless.2,hrun⟩;simp only[a8,dA,aC];exact⟨cap2,_,e,(0,0),rfl,hcap,heap_alloc_new w.drew _,by rw[hsize];exact ah _⟩
   | _=>exact h.elim
theorem tz(z:Value)(n:Nat):Builtin.zeroCells z.cells n=((bL n z).flatMap (fun u=>u.cells.toList)).toArray:=kW z n
theorem pu{w:World}{M:Nat->Prop}{x:AV}{z:Value}(h:a8 w M x z):∀n k,a6 w M (dj (fun _=>x) k n) (bL n z)
 | 0,_=>by simp[dj,a6]
 | n+1,k=>by simp only[dj,List.replicate_succ,a6];exact⟨h,pu h n (k+1)⟩
def lN(t:TypeId)(s x:AV)(S:St)(K:AV->St->Prop):Prop:=match s,x with
 | .sl es b off len,.int _ (.ofNat m)=>(match cX t,S b with
  | some e,some X=>(match eQ e with
   | some (es',z,_)=>es'=es/\es=bI e/\off=0/\X.ty=e/\X.es=es/\X.n=len/\1<=m/\len+m<=1048576 /\
    ∀b',(b'=b∨S b'=ac)->K (.sl es b' 0 (len+m)) ((S.del b).upd b' ⟨e,es,len+m,li X.g len m (fun _=>z)⟩)
   | ac=>False)
  | _,_=>False)
 | _,_=>False
theorem vK{t ty:TypeId}{s x:AV}{S:St}{K:AV->St->Prop}(h:lN t s x S K){w:World}(hs:dz w S){vs vx:Value}(hsv:a8 w S.dom s vs)(hx:a8 w S.dom x vx) :
  zF (Builtin.append_ #[t,3] ty #[vs,vx]) w S K:=by
 unfold lN at h;split at h
 ·rename_i es0 b off len k m
  cases he:cX t with
  | none=>rw[he]at h;exact h.elim
  | some e =>
  cases hX:S b with
  | none=>rw[he,hX]at h;exact h.elim
  | some X =>
   rw[he,hX]at h;simp only at h
   cases hz:eQ e with
   | none=>rw[hz]at h;exact h.elim
   | some p =>
   obtain⟨es',zx,zv⟩:=p;rw[hz]at h;obtain⟨rfl,rfl,rfl,hty,hes,hn,hm,hmax,hK⟩:=h;obtain⟨hu,i,hi,hsz⟩:=gQ he;obtain⟨i',g1,g2,g3,g4,g5,g6,g7,g8⟩:=mD hz;rw[hi]at g1;cases g1;have h3u:=Tryz.underlying3;simp only[a8]at hx;subst hx;have hx3:Int.ofNat m=(m:Int):=rfl;rw[hx3];have hmm:m≠0:=by omega
   have u1:=pu (g8 w S.dom) m 0;generalize hff:(fun _:Nat=>zx)=f at *;have hst:∀j,j<m->du (bI e) (f j):=fun j hj=>by rw[<-hff];exact g7
   obtain⟨_,u2,l3,_⟩:=fQ (es:=bI e) (dj f 0 m) (bL m zv) u1 (fun z hz=>by
    obtain⟨k,hk,rfl⟩:=mI f m 0 z hz;rw[aC];exact hst k hk)
   have hzc:=tz zv m;generalize hus:bL m zv=us at *;generalize hfl:us.flatMap (fun u=>u.cells.toList)=fl at *;rw[iO]at u2;have hnu:∀(k:Nat) (y:Value),fl[k]? = some y->jQ y:=fun k y hy=>(l3 y (cq hy)).2;have hwm:IntKind.i64.wrap (m:Int)=m:=by rw[IntKind.wrap_i64];omega
   have hmb:m*i.bytes<=32*m:=by rw[aO];exact bT _ g4
   have hib:¬(281474976710656<(m:Int)*(i.bytes:Int)):=by rw[<-Int.natCast_mul];omega
   have hm0:¬((m:Int)<0):=by omega
   have hi1:i.size≠0:=by rw[hsz];unfold bI;split<;>omega
   simp only[a8,dA,aC]at hsv;obtain⟨cap,cs',ty',fr',rfl,hlc,hb',hcs'⟩:=hsv;obtain⟨cs,hb,hcsz,hj,hcu⟩:=hs b X hX;rw[hb]at hb';simp only[dO.injEq,Obj.cells.injEq]at hb';obtain⟨rfl,rfl,rfl⟩:=hb';rw[hes,hn]at hj hcsz;rw[hty]at hb;by_cases hroom:len+m<=cap
   ·have hmm:m≠0:=by omega
    have hfit:bI e*len+fl.length<=cs.size:=by
     rw[u2,<-ct];exact bW (aY _ hroom) hcs'
    have hst2:=iE Tryz.prog (b:=b) (off:=len*i.size) (ty:=e) fl w cs 0 hb (by rw[hsz,cR,aO];exact hfit) (fun u hu=>(l3 u hu).1)
    rw[cR]at hst2;have hst2':(storeCells ⟨b,len*i.size,ac⟩ fl).run Tryz.prog w=.ok () (eA w b (dK cs (len*i.size) fl) e):=hst2;have hrun:(Builtin.append_ #[t,3] ty #[.slice (some ⟨b,0,ac⟩) len cap,.int k (m:Int)]).run Tryz.prog w=.ok (.slice (some ⟨b,0,ac⟩) (len+m) cap) (eA w b (dK cs (len*i.size) fl) e):=by
     simp[Builtin.append_,run_underlying hu,run_underlying h3u,sizeOf,typeInfo,hi,asInt,asIntOf,hwm,hm0,hib,zeroValue,g2,hzc,hroom,fT,hst2'];intro h0;exact absurd h0 (Nat.mul_ne_zero hmm hi1)
    have hcsn:∀q,q<bI e*m->(dK cs (len*i.size) fl)[bI e*len+q]? = fl[q]?:=fun q hq=>by
     rw[fR _ _ _ _ (by rw[hsz,aO];exact hfit),if_pos (by rw[hsz,u2,aO len];omega)]
     rw[show bI e*len+q-len*i.size=q by rw[hsz,aO len];omega]
    have hrd:=jD (w:=w) (M:=S.dom) (es:=bI e) (len:=len) (m:=m) (g:=X.g) (h:=f) (cs:=dK cs (len*i.size) fl) (vs:=us) (fun j hjl=>by
     obtain⟨u,h5,h6⟩:=hj j hjl;refine⟨u,iY h5 (fun q hq=>?_),h6⟩;rw[fR _ _ _ _ (by rw[hsz,aO];exact hfit),if_neg]
     rw[hsz,aO len];have:bI e*(j+1)<=bI e*len:=aY _ hjl;rw[dT]at this;omega) u1 hst (fun q hq=>by rw[hfl];exact hcsn q hq)
    have hwr:=dz.write hs hX (X':=⟨e,bI e,len+m,li X.g len m f⟩) (cs:=cs) (cs':=dK cs (len*i.size) fl) (by rw[hty];exact hb) (fI _ _ _) hty.symm (by
      rw[fI];exact bW (aY _ hroom) hcs') hrd (fun k y hy=>by
      rw[fR _ _ _ _ (by rw[hsz,aO];exact hfit)]at hy
      split at hy
      ·exact hnu _ y hy
      ·exact hcu k y hy)
    rw[hty]at hwr;have hK':=hK b (Or.inl rfl);rw[C4]at hK';refine⟨_,_,_,_,hK',?_,hwr.1,hwr.2,hrun⟩;simp only[a8,dA,aC];exact⟨cap,dK cs (len*i.size) fl,e,(0,0),rfl,hroom,by rw[ia (dE hb),if_pos rfl],by rw[fI];exact hcs'⟩
   ·obtain⟨os,o1,o2,o3⟩:=lE hj len 0 om;generalize hol:os.flatMap (fun u=>u.cells.toList)=ol at *;have hob2:(len+m)*i.bytes<=32*(len+m):=by rw[aO];exact bT _ g4
    have hrun:=Lib.run_append_grow_zeros (P:=Tryz.prog) w t 3 ty e i zv k .i64 hu h3u hi g2 (some ⟨b,0,ac⟩) len cap ol (run_firstCells_some (P:=Tryz.prog) w.drew i.size len ⟨b,0,ac⟩ len cap ol (by rw[o2,hsz,aO]) (fun j v hjv=>by
      rw[fT];have hbd:w.drew.heap[b]? = some (.cells cs e (0,0)):=hb;rw[l8 hbd];have:=o3 j (by rw[<-o2];exact(cG.1 hjv).1)
      rw[dA]at this;rw[this];exact hjv)) m om (by rw[hsz];unfold bI;split<;>omega) om om om (growslice_fits om om)
    rw[hzc]at hrun;have hcap:=grownCap_ge w (len+m) cap e;generalize grownCap w (len+m) cap e=cap2 at hrun hcap;have hsize:(ol.toArray++fl.toArray++Builtin.zeroCells zv.cells (cap2-(len+m))).size=bI e*cap2:=by
     rw[fY,fY,lz,bQ,bQ,u2,o2,g6,aO (cap2-(len+m)),<-ct,<-ct,show len+m+(cap2-(len+m))=cap2 by omega]
    have hget1:∀q,q<bI e*len->(ol.toArray++fl.toArray++Builtin.zeroCells zv.cells (cap2-(len+m)))[q]? = ol[q]?:=fun q hq=>by
     rw[ez (by rw[fY,bQ,o2];omega),ez (by rw[bQ,o2];exact hq)];simp
    have hrd:=jD (w:=w.drew) (M:=S.dom) (es:=bI e) (len:=len) (m:=m) (g:=X.g) (h:=f) (cs:=ol.toArray++fl.toArray++Builtin.zeroCells zv.cells (cap2-(len+m))) (vs:=us) (fun j hjl=>by
      obtain⟨u,h5,h6⟩:=hj j hjl;refine⟨u,iY h5 (fun q hq=>?_),a8.grow hs.noU (co.drew _ w) _ _ h6⟩;have hql:bI e*j+q<bI e*len:=by
       have:bI e*(j+1)<=bI e*len:=aY _ hjl;rw[dT]at this;omega
      rw[hget1 _ hql,<-o3 _ hql,dA,aC]) (a6.grow hs.noU (co.drew _ w) _ _ u1) hst (fun q hq=>by
      rw[hfl,ez (by rw[fY,bQ,bQ,o2,u2];omega),Array.getElem?_append_right (by rw[bQ,o2];omega),bQ,o2,show bI e*len+q-bI e*len=q by omega];simp)
    have holu:∀(k:Nat) (y:Value),ol[k]? = some y->jQ y:=fun k y hy=>by
     have hk:k<ol.length:=(cG.1 hy).1;have:=o3 k (by rw[<-o2];exact hk)
     rw[hy]at this;exact hcu _ y this
    obtain⟨n1,n2,n3⟩:=dz.new (w:=w.drew) hs.drew (X:=⟨e,bI e,len+m,li X.g len m f⟩) (cs:=ol.toArray++fl.toArray++Builtin.zeroCells zv.cells (cap2-(len+m))) (by rw[hsize];exact aY _ hcap) hrd (fun k y hy=>by
      rw[me]at hy;split at hy
      ·rw[me]at hy;split at hy
       ·exact holu k y (by simpa using hy)
       ·exact hnu _ y (by simpa using hy)
      ·exact mg g7 (g8 w S.dom) _ _ _ hy)
    have hless:=dz.less n2 (S':=(S.del b).upd w.drew.heap.size ⟨e,bI e,len+m,li X.g len m f⟩) (fun k Y hY=>by
     simp only[St.upd]at hY ⊢;split at hY
     ·rename_i e1;rw[if_pos e1];exact hY
     ·rename_i e1;rw[if_neg e1];exact A0 S b k Y hY)
    refine⟨_,_,_,_,hK _ (Or.inr n1),?_,hless.1,((co.drew S.dom w).trans n3).weaken hless.2,hrun⟩;simp only[a8,dA,aC];exact⟨cap2,_,e,(0,0),rfl,hcap,heap_alloc_new w.drew _,by rw[hsize];exact ah _⟩
 ·exact h.elim
def qZ(len:Nat)(lo hi mx:Option AV)(K:Nat->Nat->Prop):Prop :=
 ∃l h:Nat,(match lo with|ac=>l=0|some (.int _ a)=>a=(l:Int)|_=>False)/\(match hi with|ac=>h=len|some (.int _ a)=>a=(h:Int)|_=>False) /\
  (match mx with|ac=>True|some (.int _ a)=>(h:Int)<=a/\a<=(len:Int)/\hi.isSome=true|_=>False)/\l<=h/\h<=len/\K l h
def jo(t:TypeId)(x:AV)(lo hi mx:Option AV)(K:AV->Prop):Prop:=match cX t,x with
 | some e,.sl es b off len=>es=bI e/\qZ len lo hi mx (fun l h=>K (if l=0∨l<h then .sl es b (off+l) (h-l)else .lst es 0 (fun _=>.any)))
 | some e,.lst es n g=>es=bI e/\qZ n lo hi mx (fun l h=>K (.lst es (h-l) (fun j=>g (l+j))))
 | some _,.nil=>qZ 0 lo hi mx (fun _ _=>K .nil)
 | _,_=>False
def pZ(w:World)(M:Nat->Prop):Option AV->Option Value->Prop
 | ac,ac=>True
 | some x,some v=>a8 w M x v
 | _,_=>False
theorem pO{w:World}{M:Nat->Prop}{len cap:Nat}(hc:len<=cap){lo hi mx:Option AV}{K:Nat->Nat->Prop}(h:qZ len lo hi mx K){vl vh vm:Option Value}(hl:pZ w M lo vl)(hh:pZ w M hi vh)(hm:pZ w M mx vm) :
  ∃l h m:Nat,K l h/\l<=h/\h<=len/\h<=m/\m<=cap/\(Instr.sliceBounds true len cap vl vh vm).run Tryz.prog w=.ok (l,h,m) w:=by
 obtain⟨l,h,h1,h2,h3,h4,h5,hK⟩:=h;have bnd:∀(a:Int) (k:IntKind) (n:Nat) (y:Nat) (c:BoundsCode),a=(n:Int)->n<=y->(Instr.sliceBound (.int k a) y c).run Tryz.prog w=.ok n w:=by
  intro a k n y c ha hn;subst ha;have:(0:Int)<=n/\(n:Int)<=(y:Int):=by omega
  simp[Instr.sliceBound,asIntOf,hn]
 cases mx with
 | none =>
  cases vm with
  | some _=>exact hm.elim
  | none =>
   refine⟨l,h,cap,hK,h4,h5,by omega,ah _,?_⟩
   cases hi with
   | none =>
    cases vh with
    | some _=>exact hh.elim
    | none =>
     simp only at h2;subst h2
     cases lo with
     | none =>
      cases vl with
      | some _=>exact hl.elim
      | none=>simp only at h1;subst h1;simp[Instr.sliceBounds]
     | some x =>
      cases vl with
      | none=>exact hl.elim
      | some v =>
       cases x<;>simp only at h1
       simp only[pZ,a8]at hl;subst hl;simp[Instr.sliceBounds,bnd _ _ l h _ h1 h4]
   | some y =>
    cases vh with
    | none=>exact hh.elim
    | some v2 =>
     cases y<;>simp only at h2
     simp only[pZ,a8]at hh;subst hh
     cases lo with
     | none =>
      cases vl with
      | some _=>exact hl.elim
      | none=>simp only at h1;subst h1;simp[Instr.sliceBounds,bnd _ _ h cap _ h2 om]
     | some x =>
      cases vl with
      | none=>exact hl.elim
      | some v =>
       cases x<;>simp only at h1
       simp only[pZ,a8]at hl;subst hl;simp[Instr.sliceBounds,bnd _ _ h cap _ h2 om,bnd _ _ l h _ h1 h4]
 | some z =>
  cases vm with
  | none=>exact hm.elim
  | some v3 =>
   cases z<;>simp only at h3
   rename_i km am;simp only[pZ,a8]at hm;subst hm;obtain⟨m1,m2,m3⟩:=h3
   cases hi with
   | none=>simp at m3
   | some y =>
    cases vh with
    | none=>exact hh.elim
    | some v2 =>
     cases y<;>simp only at h2
     simp only[pZ,a8]at hh;subst hh;refine⟨l,h,am.toNat,hK,h4,h5,by omega,by omega,?_⟩
     have hbm:=bnd am km am.toNat cap .slice3Acap om om
     cases lo with
     | none =>
      cases vl with
      | some _=>exact hl.elim
      | none=>simp only at h1;subst h1;simp[Instr.sliceBounds,hbm,bnd _ _ h am.toNat _ h2 om]
     | some x =>
      cases vl with
      | none=>exact hl.elim
      | some v =>
       cases x<;>simp only at h1
       simp only[pZ,a8]at hl;subst hl;simp[Instr.sliceBounds,hbm,bnd _ _ h am.toNat _ h2 om,bnd _ _ l h _ h1 h4]
theorem qR{t:TypeId}{x:AV}{lo hi mx:Option AV}{K:AV->Prop}(h:jo t x lo hi mx K){w:World}{M:Nat->Prop}{v:Value}{vl vh vm:Option Value}(hx:a8 w M x v)(hl:pZ w M lo vl)(hh:pZ w M hi vh)(hm:pZ w M mx vm) :
  ∃z u,K z/\a8 w M z u/\(Instr.sliceAt t v vl vh vm).run Tryz.prog w=.ok u w:=by
 unfold jo at h;split at h
 ·rename_i e es b off len he;obtain⟨rfl,hb⟩:=h;obtain⟨hu,i,hi',hs⟩:=gQ he;simp only[a8]at hx;obtain⟨cap,cs,ty,fr,rfl,hc,hheap,hcs⟩:=hx;obtain⟨l,h,m,hK,h1,h2,h3,h4,hrun⟩:=pO hc hb hl hh hm;have hall:(Instr.sliceAt t (.slice (some ⟨b,bI e*off,ac⟩) len cap) vl vh vm).run Tryz.prog w=.ok (.slice (if m=l then some ⟨b,bI e*off,ac⟩else some ⟨b,bI e*off+l*bI e,ac⟩) (h-l) (m-l)) w:=by
   simp[Instr.sliceAt,run_underlying hu,Instr.slice,hrun,cp hi',hs,fT]
  refine⟨_,_,hK,?_,hall⟩;by_cases hc0:l=0∨l<h
  ·rw[if_pos hc0];simp only[a8];refine⟨m-l,cs,ty,fr,?_,by omega,hheap,bW (aY _ om) hcs⟩
   rcases hc0 with rfl|hc0
   ·simp
   ·rw[if_neg om,ct,aO l]
  ·rw[if_neg hc0];simp only[a8];exact⟨_,m-l,by rw[show h-l=0 by omega],by omega,fun h0=>absurd h0 om⟩
 ·rename_i e es n g he;obtain⟨rfl,hb⟩:=h;obtain⟨hu,i,hi',hs⟩:=gQ he;simp only[a8]at hx;obtain⟨A,cap,rfl,hc,hbl⟩:=hx;obtain⟨l,h,m,hK,h1,h2,h3,h4,hrun⟩:=pO hc hb hl hh hm;have hall:(Instr.sliceAt t (.slice A n cap) vl vh vm).run Tryz.prog w=.ok (.slice (if m=l then A else A.map (·.add (l*bI e))) (h-l) (m-l)) w:=by
   simp[Instr.sliceAt,run_underlying hu,Instr.slice,hrun,cp hi',hs]
  refine⟨_,_,hK,?_,hall⟩;simp only[a8];refine⟨_,m-l,rfl,by omega,fun h0=>?_⟩
  obtain⟨b,off,rfl,hlt,hM,hj⟩:=hbl om;rw[if_neg om];refine⟨b,off+l*bI e,by simp[fT],hlt,hM,fun j hjn=>?_⟩
  obtain⟨u,hu1,hu2⟩:=hj (l+j) om;refine⟨u,?_,hu2⟩;rw[ct,aO (bI e) l,<-Nat.add_assoc]at hu1;exact hu1
 ·rename_i e he;obtain⟨hu,i,hi',hs⟩:=gQ he;simp only[a8]at hx;subst hx;obtain⟨l,h',m,hK,h1,h2,h3,h4,hrun⟩:=pO (ah 0) h hl hh hm;obtain rfl:l=0:=by omega
  obtain rfl:h'=0:=by omega
  obtain rfl:m=0:=by omega
  exact⟨_,.slice ac 0 0,hK,by simp[a8],by simp[Instr.sliceAt,run_underlying hu,Instr.slice,hrun,cp hi']⟩
 ·exact h.elim
def zn(t:TypeId)(x:AV)(K:AV->Prop):Prop:=match cX t,x with
 | some _,.sl _ _ _ len=>K (.int .i64 len)
 | some _,.lst _ n _=>K (.int .i64 n)
 | some _,.nil=>K (.int .i64 0)
 | ac,.mag n=>t=48/\K (.int .i64 (nl n))
 | _,_=>False
theorem vH{t ty:TypeId}{x:AV}{K:AV->Prop}(h:zn t x K){w:World}{M:Nat->Prop}{v:Value}(hx:a8 w M x v) :
  ∃z u,K z/\a8 w M z u/\(Builtin.len_ #[t] ty #[v]).run Tryz.prog w=.ok u w:=by
 unfold zn at h;split at h
 ·rename_i e es b off len he;obtain⟨hu,_⟩:=gQ he;simp only[a8]at hx;obtain⟨cap,cs,ty,fr,rfl,_⟩:=hx;exact⟨_,.int .i64 len,h,by simp[a8],by simp[Builtin.len_,run_underlying hu,goInt]⟩
 ·rename_i e es n g he;obtain⟨hu,_⟩:=gQ he;simp only[a8]at hx;obtain⟨A,c,rfl,_⟩:=hx;exact⟨_,.int .i64 n,h,by simp[a8],by simp[Builtin.len_,run_underlying hu,goInt]⟩
 ·rename_i e he;obtain⟨hu,_⟩:=gQ he;simp only[a8]at hx;subst hx;exact⟨_,.int .i64 0,h,by simp[a8],by simp[Builtin.len_,run_underlying hu,goInt]⟩
 ·rename_i n he;obtain⟨rfl,h⟩:=h;simp only[a8]at hx;obtain⟨neg,A,k,c,xs,e,hnc,hU,hT,hv⟩:=hx
  cases e
  have hk:k=nl n:=by
   rw[aH hU hT];congr 1;simp[sg]at hv;omega
  rw[<-hk]at h;exact⟨_,.int .i64 k,h,by simp[a8],by simp[Builtin.len_,run_underlying Tryz.underlying48,goInt]⟩
 ·exact h.elim
def pE(t:TypeId)(d s:AV)(S:St)(K:AV->St->Prop):Prop:=match cX t,d with
 | some e,.sl es b off len=>(match S b,vZ S s with
  | some X,some (es',m,h,_)=>es=bI e/\es'=es/\X.es=es/\off+len<=X.n/\m=len/\0<m/\(∀j,j<m->du es (h j)) /\
   K (.int .i64 len) (S.upd b { X with g:=fun j=>if off<=j/\j<off+len then h (j-off)else X.g j })
  | _,_=>False)
 | _,_=>False
theorem Bm{t t' ty:TypeId}{d s:AV}{S:St}{K:AV->St->Prop}(h:pE t d s S K){w:World}(hs:dz w S){vd vs:Value}(hd:a8 w S.dom d vd)(hsv:a8 w S.dom s vs) :
  zF (Builtin.copy_ #[t,t'] ty #[vd,vs]) w S K:=by
 unfold pE at h;split at h
 ·rename_i e es b off len he;obtain⟨hu,i,hi,hsz⟩:=gQ he;split at h
  ·rename_i X es' m f o hX hel;obtain⟨rfl,rfl,hes,hn,rfl,hm,hst,hK⟩:=h;obtain⟨xb,xo,xc,us,rfl,u1,u2,u3⟩:=xN hs hsv hel hm;simp only[a8]at hd;obtain⟨cap,cs',ty',fr',rfl,_,_,_⟩:=hd;have hstl:∀z∈dj f 0 m,du X.es z:=fun z hz=>by
    obtain⟨k,hk,rfl⟩:=mI f m 0 z hz;rw[aC,hes];exact hst k hk
   obtain⟨cs,hb,hfit,ho,hS,hG⟩:=oe hs hX (dj f 0 m) us u1 hstl off (by rw[iO];exact hn)
   rw[hes]at hfit hS hG;generalize hfl:us.flatMap (fun u=>u.cells.toList)=fl at *;have hfl2:fl.length=m*i.size:=by rw[u2,hsz,aO]
   have hf:=run_firstCells_some (P:=Tryz.prog) w i.size m ⟨xb,xo,ac⟩ m xc fl hfl2 (fun j v hj=>by
    rw[fT,u3 j (by rw[<-u2];exact(cG.1 hj).1)];exact hj)
   have hst2:=iE Tryz.prog (b:=b) (off:=bI e*off) (ty:=X.ty) fl w cs 0 hb (by rw[cR];exact hfit) ho
   rw[cR]at hst2;have hrun:(Builtin.copy_ #[t,t'] ty #[.slice (some ⟨b,bI e*off,ac⟩) m cap,.slice (some ⟨xb,xo,ac⟩) m xc]).run Tryz.prog w=.ok (.int .i64 m) (eA w b (dK cs (bI e*off) fl) X.ty):=by
    simp[Builtin.copy_,run_underlying hu,Builtin.lenOf,cp hi,hf,hst2,goInt]
   have hg:gI X.g off (dj f 0 m)=fun j=>if off<=j/\j<off+m then f (j-off)else X.g j:=by
    funext j;simp only[gI,iO];split
    ·rw[pM _ _ _ _ om,aC]
    ·rfl
   rw[hg]at hS hG;rw[hes]at hK;exact⟨_,.int .i64 m,_,_,hK,by simp[a8],hS,hG,hrun⟩
  ·exact h.elim
 ·exact h.elim
theorem qD(off:Nat):∀(l:List Value) (k:Nat) (cs:Array Value),(l.zipIdx k).foldl (fun(cs:Array Value) (p:Value×Nat)=>cs.setIfInBounds (off+p.2) p.1) cs=dK cs (off+k) l
 | [],_,_=>rfl
 | v::l,k,cs=>by
  simp only[List.zipIdx_cons,List.foldl_cons,dK];rw[qD off l (k+1)];rfl
def dG(k:Nat):List AV->List (Nat×AV)
 | []=>[]
 | x::l=>(k,x)::dG (k+1) l
def jU(k:Nat):List Value->List (Nat×Value)
 | []=>[]
 | x::l=>(k,x)::jU (k+1) l
theorem pq:∀(a b:List Value) (cs:Array Value) (o:Nat),dK cs o (a++b)=dK (dK cs o a) (o+a.length) b
 | [],b,cs,o=>by simp[dK]
 | x::a,b,cs,o=>by simp only[List.cons_append,dK,cr];rw[pq a b];congr 1;omega
theorem Au{w:World}{M:Nat->Prop}{es:Nat}:∀(l:List AV) (vs:List Value) (k:Nat) (cs:Array Value),a6 w M l vs->(∀z∈l,du es z)->es*(k+l.length)<=cs.size ->
  Instr.fill (fun i=>some (i*es,es)) cs (jU k vs)=some (dK cs (es*k) (vs.flatMap (fun u=>u.cells.toList)))
 | [],[],k,cs,_,_,_=>by simp[jU,Instr.fill,dK]
 | a::l,v::vs,k,cs,hr,hs,hn=>by
  simp only[a6]at hr;obtain⟨h1,_,_⟩:=o7 (hs a (List.mem_cons_self ..)) hr.1;simp only[cr]at hn;have hk:es*(k+1)<=cs.size:=bW (aY _ om) hn;have hfit:¬(cs.size<k*es+es):=by rw[dT,aO]at hk;omega
  have ih:=Au l vs (k+1) (dK cs (k*es) v.cells.toList) hr.2 (fun z hz=>hs z (List.mem_cons_of_mem _ hz)) (by rw[fI];rw[show k+1+l.length=k+(l.length+1) by omega];exact hn)
  have hf:v.cells.zipIdx.foldl (fun(cs:Array Value) (p:Value×Nat)=>cs.setIfInBounds (k*es+p.2) p.1) cs=dK cs (k*es) v.cells.toList:=by
   rw[<-Array.foldl_toList,Array.toList_zipIdx,qD];rfl
  simp only[jU,Instr.fill];rw[if_neg (by simp[h1];omega)]
  have hf2:(v.cells.zipIdx.foldl (fun(cs:Array Value) x=>match x with|(c,j)=>cs.setIfInBounds (k*es+j) c) cs)=dK cs (k*es) v.cells.toList:=hf
  rw[hf2,ih,cT,pq,aO k es];congr 2;rw[Array.length_toList,h1,dT]
 | [],_::_,_,_,h,_,_=>by simp[a6]at h
 | _::_,[],_,_,h,_,_=>by simp[a6]at h
theorem yB(cs:Array Value)(l:List Value)(h:cs.size=l.length):dK cs 0 l=l.toArray:=by
 apply Array.ext_getElem?;intro i;rw[fR _ _ _ _ om];split
 ·simp
 ·rename_i hc;rw[eE om,eE (by simp;omega)]
def cL(t:TypeId)(n:Nat)(ps:List (Nat×AV))(S:St)(K:AV->St->Prop):Prop:=match cX t with
 | some e=>ps=dG 0 (ps.map (·.2))/\ps.length=n/\n<=16/\(eQ e).isSome=true/\(∀p∈ps,du (bI e) p.2)/\∀b,S b=ac->K (.sl (bI e) b 0 n) (S.upd b ⟨e,bI e,n,fun j=>(ps.map (·.2)).getD j .any⟩)
 | ac=>False
def nI(w:World)(M:Nat->Prop):List (Nat×AV)->List (Nat×Value)->Prop
 | [],[]=>True
 | p::l,q::r=>p.1=q.1/\a8 w M p.2 q.2/\nI w M l r
 | _,_=>False
theorem nH{w:World}{M:Nat->Prop}:∀(ps:List (Nat×AV)) (qs:List (Nat×Value)),nI w M ps qs->a6 w M (ps.map (·.2)) (qs.map (·.2))/\∀k,ps=dG k (ps.map (·.2))->qs=jU k (qs.map (·.2))
 | [],[],_=>⟨by simp[a6],fun _ _=>rfl⟩
 | p::l,q::r,h=>by
  simp only[nI]at h;obtain⟨h1,h2⟩:=nH l r h.2.2;refine⟨by simp only[cj,a6];exact⟨h.2.1,h1⟩,fun k hk=>?_⟩
  simp only[cj,dG,oc.injEq]at hk;simp only[cj,jU,oc.injEq];refine⟨?_,h2 (k+1) hk.2⟩;have:=hk.1;obtain⟨p1,p2⟩:=p;obtain⟨q1,q2⟩:=q;simp at this h;simp[<-h.1,this]
 | [],_::_,h=>h.elim
 | _::_,[],h=>h.elim
theorem oI{t e:TypeId}{n:Nat}{ps:List (Nat×AV)}{S:St}(he:cX t=some e)(hps:ps=dG 0 (ps.map (·.2)))(hlen:ps.length=n)(hn:n<=16)(hze:(eQ e).isSome=true)(hst:∀p∈ps,du (bI e) p.2){w:World}(hs:dz w S){qs:List (Nat×Value)}(hp:nI w S.dom ps qs) :
  (Instr.buildSlice t n qs.toArray).run Tryz.prog w=.ok (.slice (some ⟨w.heap.size,0,ac⟩) n n) (w.alloc (.cells ((qs.map (·.2)).flatMap (fun u=>u.cells.toList)).toArray e)):=by
 obtain⟨hu,i,hi,hsz⟩:=gQ he;obtain⟨zx,zv,hz⟩:=tw hze;obtain⟨i',g1,g2,g3,g4,g5,g6,g7,g8⟩:=mD hz;rw[hi]at g1;cases g1;obtain⟨hr,hq⟩:=nH ps qs hp;have hq0:=hq 0 hps;have hl2:(ps.map (·.2)).length=n:=by simp[hlen]
 generalize hxs:ps.map (·.2)=xs at *
 generalize hvs:qs.map (·.2)=vs at *
 have hstx:∀z∈xs,du (bI e) z:=fun z hz=>by
  rw[<-hxs]at hz;obtain⟨p,hp1,rfl⟩:=eY.1 hz;exact hst p hp1
 obtain⟨n1,n2,n3,n4⟩:=jZ hs e xs vs hr hstx;rw[hl2]at n2 n3 n4;have hes2:bI e<=2:=by unfold bI;split<;>omega
 have hmul:n*bI e<=32:=bW (Nat.mul_le_mul hn hes2) om;have hsmall:¬(16777216<n*i.size):=by rw[hsz];omega
 have hfill:∀cs:Array Value,cs.size=n*i.size->Instr.fill (fun j=>some (j*i.size,i.size)) cs qs=some (vs.flatMap (fun u=>u.cells.toList)).toArray:=by
  intro cs hcs;rw[hq0,hsz,Au xs vs 0 cs hr hstx (by rw[hcs,hsz,aC,hl2,aO];exact ah _),dA,yB _ _ (by rw[hcs,hsz,n4,aO])]
 by_cases h0:n*i.size=0
 ·have hfill0:=hfill (Array.map (fun _=>default) (Array.range 0)) (by simp[h0])
  simp[Instr.buildSlice,run_underlying hu,cp hi,h0,newRow,hfill0]
 ·have hfill1:=hfill ((Array.range (n*i.size)).map (zv.cells[· % zv.cells.size]!)) (by simp)
  simp[Instr.buildSlice,run_underlying hu,cp hi,hsmall,newRow,zeroValue,typeInfo,hi,g2,hfill1];intro hc;exact absurd hc h0
theorem qY{t:TypeId}{n:Nat}{ps:List (Nat×AV)}{S:St}{K:AV->St->Prop}(h:cL t n ps S K){w:World}(hs:dz w S){qs:List (Nat×Value)}(hp:nI w S.dom ps qs) :
  zF (Instr.buildSlice t n qs.toArray) w S K:=by
 unfold cL at h
 cases he:cX t with
 | none=>rw[he]at h;exact h.elim
 | some e =>
  rw[he]at h;obtain⟨hps,hlen,hn,hze,hst,hK⟩:=h;have hrun:=oI he hps hlen hn hze hst hs hp;obtain⟨hr,_⟩:=nH ps qs hp;have hl2:(ps.map (·.2)).length=n:=by simp[hlen]
  have hstx:∀z∈ps.map (·.2),du (bI e) z:=fun z hz=>by
   obtain⟨p,hp1,rfl⟩:=eY.1 hz;exact hst p hp1
  obtain⟨n1,n2,n3,n4⟩:=jZ hs e _ _ hr hstx;rw[hl2]at n2 n3 n4;refine⟨_,_,_,_,hK _ n1,?_,n2,n3,hrun⟩;simp only[a8,dA,aC];exact⟨n,_,e,(0,0),rfl,ah _,heap_alloc_new w _,by rw[bQ,n4];exact ah _⟩
def dI(t:TypeId)(n:Nat)(ps:List (Nat×AV))(z:AV):Prop:=match cX t with
 | some e=>ps=dG 0 (ps.map (·.2))/\ps.length=n/\n<=16/\(eQ e).isSome=true/\(∀p∈ps,du (bI e) p.2)/\z=.lst (bI e) n (fun j=>(ps.map (·.2)).getD j .any)
 | ac=>False
theorem qA{t:TypeId}{n:Nat}{ps:List (Nat×AV)}{S:St}{z:AV}(h:dI t n ps z){w:World}(hs:dz w S){qs:List (Nat×Value)}(hp:nI w S.dom ps qs) :
  ∃v w',(Instr.buildSlice t n qs.toArray).run Tryz.prog w=.ok v w'/\a8 w' S.dom z v/\co (fun _=>False) (fun _=>False) w w':=by
 unfold dI at h
 cases he:cX t with
 | none=>rw[he]at h;exact h.elim
 | some e =>
  rw[he]at h;obtain⟨hps,hlen,hn,hze,hst,rfl⟩:=h;have hrun:=oI he hps hlen hn hze hst hs hp;obtain⟨hr,_⟩:=nH ps qs hp;have hl2:(ps.map (·.2)).length=n:=by simp[hlen]
  have hstx:∀z∈ps.map (·.2),du (bI e) z:=fun z hz=>by
   obtain⟨p,hp1,rfl⟩:=eY.1 hz;exact hst p hp1
  obtain⟨n1,n2,n3,n4⟩:=jZ hs e _ _ hr hstx;obtain⟨l1,l2,l3,l4⟩:=fQ (ps.map (·.2)) (qs.map (·.2)) hr hstx
  generalize hcs:((qs.map (·.2)).flatMap (fun u=>u.cells.toList))=cs at *
  have hsz:(w.alloc (.cells cs.toArray e)).heap.size=w.heap.size+1:=by simp
  have hkeep:∀k,k<w.heap.size->(w.alloc (.cells cs.toArray e)).heap[k]? = w.heap[k]?:=fun k hk=>by
   show(w.heap.push _)[k]? = _;rw[Array.getElem?_push_lt hk,Array.getElem?_eq_getElem hk]
  have hg:∀D:Nat->Prop,co D D w (w.alloc (.cells cs.toArray e)):=fun D=>⟨rfl,rfl,rfl,by omega,fun k hk _=>hkeep k hk,fun k c ty fr hc=>⟨c,by rw[hkeep k (dE hc)];exact hc,rfl⟩,fun _ _ h=>h⟩
  refine⟨_,_,hrun,?_,hg _⟩;simp only[a8];refine⟨_,n,rfl,ah _,fun _=>⟨w.heap.size,0,rfl,by omega,fun hd=>hd n1,fun j hj=>?_⟩⟩
  obtain⟨u,u1,u2⟩:=l4 j om;refine⟨u,⟨cs.toArray,e,(0,0),heap_alloc_new w _,u2 cs.toArray 0 (fun q hq=>by simp)⟩,a8.grow hs.noU (hg _) _ _ u1⟩
def J7(op:UnOp)(x:AV)(K:AV->Prop):Prop:=match op,x with
 | .neg,.int k n=>K (.int k (k.wrap (0-n)))
 | .not,.bool b=>K (.bool (!b))
 | _,_=>False
theorem xX{op:UnOp}{x:AV}{K:AV->Prop}(h:J7 op x K){w:World}{M:Nat->Prop}{v:Value}(hx:a8 w M x v):∃z u,K z/\a8 w M z u/\(Op.unary op v).run Tryz.prog w=.ok u w:=by
 unfold J7 at h;split at h
 ·rename_i k n;simp only[a8]at hx;subst hx;exact⟨_,.int k (k.wrap (0-n)),h,by simp[a8],by simp[Op.unary,Op.intArith]⟩
 ·rename_i b;simp only[a8]at hx;subst hx;exact⟨_,.bool (!b),h,by simp[a8],by simp[Op.unary]⟩
 ·exact h.elim
def qx:TypeId->Option IntKind
 | 2=>some .i64
 | 3=>some .i64
 | 5=>some .u8
 | 34=>some .i64
 | 97=>some .u64
 | _=>ac
def kChk(P:Program)(s t:TypeId):Option IntKind:=match P.underlying s,P.underlying t with
 | some _,some (.int k)=>some k
 | _,_=>ac
def wh(s:TypeId):Bool:=s==2||s==3||s==5||s==25||s==41||s==97
def qV(s d:TypeId)(x:AV)(K:AV->Prop):Prop:=match qx d,x with
 | some k,.int _ n=>wh s=true/\K (.int k (k.wrap n))
 | _,_=>False
theorem II{s d:TypeId}{k:IntKind}(hs:wh s=true)(hd:qx d=some k):∃u,Tryz.prog.underlying s=some u/\Tryz.prog.underlying d=some (.int k):=by
 have h1:∀u,(Tryz.prog.underlying s).isSome=true->Tryz.prog.underlying d=some u->∃x,Tryz.prog.underlying s=some x/\Tryz.prog.underlying d=some u:=fun u a b=>⟨_,Option.eq_some_of_isSome a,b⟩;refine h1 _ ?_ ?_
 ·unfold wh at hs;simp only[Bool.or_eq_true,beq_iff_eq]at hs;rcases hs with ((((rfl|rfl)|rfl)|rfl)|rfl)|rfl<;>kernel_rfl
 ·unfold qx at hd;split at hd<;>first|(cases hd;kernel_rfl)|cases hd
theorem sL{s d:TypeId}{x:AV}{K:AV->Prop}(h:qV s d x K){w:World}{M:Nat->Prop}{v:Value}(hx:a8 w M x v):∃z u,K z/\a8 w M z u/\(convert s d v).run Tryz.prog w=.ok u w:=by
 unfold qV at h;split at h
 ·rename_i k k' n hk;obtain⟨hs,hK⟩:=h;obtain⟨u,h1,h2⟩:=II hs hk;simp only[a8]at hx;subst hx;refine⟨_,.int k (k.wrap n),hK,by simp[a8],?_⟩
  simp only[convert,Sem.run_bind,run_underlying h1,run_underlying h2,Result.andThen_ok];simp[Conv.intToInt]
 ·exact h.elim
end Go.Proofs.YtdobfmlmenaajaaGreatDoor
