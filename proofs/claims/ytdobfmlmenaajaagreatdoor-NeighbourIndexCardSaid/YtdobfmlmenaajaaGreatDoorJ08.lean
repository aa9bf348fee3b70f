/-
  Lemmas for NeighbourIndex.
-/
import Derived.Test.YtdobfmlmenaajaaGreatDoorJ06
namespace Go.Proofs.YtdobfmlmenaajaaGreatDoor
open Go.RowKit Tryz
open _root_.Array renaming getElem?_eq_getElem→aG,getElem?_eq_some_iff→bS
open _root_.Bool renaming and_eq_true→aA,false_eq_true→aR,or_eq_true→dj,not_eq_true'→fF,or_eq_true_iff→gY,false_ne_true→pE
open _root_.Classical renaming choose→df,choose_spec→dS
open _root_.Int renaming natCast_nonneg→et,toNat_natCast→fE
open _root_.List renaming all_eq_true→aB,getD_cons_succ→bC,replicate→bR,getElem?_cons_succ→bT,range→cn,getElem?_eq_none→co,map_cons→cq,length_cons→cD,getD→cL,getElem?_cons_zero→cN,flatMap_cons→de,getElem?_append_right→dV,getElem?_append_left→eh,mem_cons_self→er,mem_range→eQ,getElem?_take_of_lt→fI,getD_eq_getElem?_getD→ir,length_nil→jG,getElem?_drop→lF,map_nil→ml,cons→r7
open _root_.Nat renaming le_refl→ah,eq_of_beq_eq_true→ap,beq→ay,zero_add→aF,lt_or_ge→aI,blt→aO,sub_self→bW,le_of_ble_eq_true→cb,add_zero→dd,testBit→ig,ble→ix,zero_le→ke,strongRecOn→oB,div→oM,blt_eq→pA
open _root_.Option renaming none→ac,map_eq_some_iff→cr,bind_some→da,map_some→dp,some→ef,getD_some→ge
open _root_.Or renaming inr→bH,inl→bQ
set_option maxHeartbeats 6400000
set_option maxRecDepth 4096
set_option linter.all false
noncomputable section
inductive XV where
 | int (k:IntKind) (n:Int)
 | bool (b:Bool)
 | big (z:Int)
 | nil
 | sl (es i off len:Nat)
 | ptr (es i k:Nat)
 | lst (es:Nat) (l:List XV)
 | pat (es:Nat) (x:XV)
 | tup (l:List XV)
 | agg (l:List XV)
 | fn (f:Nat) (l:List XV)
 | any
 | nfn
 | mfn (f:Nat) (l:List XV)
abbrev Ph:=Nat->Option Nat
def Ph.le(φ ψ:Ph):Prop:=∀i b,φ i=some b->ψ i=some b
def Ph.set(φ:Ph)(i b:Nat):Ph:=fun k=>if k=i then some b else φ k
theorem Ph.le_refl(φ:Ph):φ.le φ:=fun _ _ h=>h
theorem Ph.le_trans{φ ψ χ:Ph}(h:φ.le ψ)(k:ψ.le χ):φ.le χ:=fun i b e=>k i b (h i b e)
theorem Ph.le_set{φ:Ph}{i b:Nat}(h:φ i=ac):φ.le (φ.set i b):=fun k c e=>by
 unfold Ph.set;by_cases ek:k=i
 ·subst ek;rw[h]at e;cases e
 ·rw[if_neg ek];exact e
mutual
def ER(φ:Ph):XV->AV->Prop
 | .int k n,a=>a=.int k n
 | .bool b,a=>a=.bool b
 | .big z,a=>a=.big z
 | .nil,a=>a=.nil
 | .sl es i off len,a=>∃b,φ i=some b/\a=.sl es b off len
 | .ptr es i k,a=>∃b,φ i=some b/\a=.ptr es b k
 | .lst es l,a=>∃g,a=.lst es l.length g/\ko φ l g 0
 | .pat es x,a=>∃y,a=.pat es y/\ER φ x y
 | .tup l,a=>∃r,a=.tup r/\eD φ l r
 | .agg l,a=>∃r,a=.agg r/\eD φ l r
 | .fn f l,a=>∃r,a=.fn f r/\eD φ l r
 | .any,_=>True
 | .nfn,a=>a=.nfn
 | .mfn f l,a=>∃r,a=.mfn f r/\eD φ l r
def eD(φ:Ph):List XV->List AV->Prop
 | [],[]=>True
 | x::l,a::r=>ER φ x a/\eD φ l r
 | [],_::_=>False
 | _::_,[]=>False
def ko(φ:Ph):List XV->(Nat->AV)->Nat->Prop
 | [],_,_=>True
 | x::l,g,k=>ER φ x (g k)/\ko φ l g (k+1)
end
mutual
theorem ER.mono{φ ψ:Ph}(h:φ.le ψ):∀(x:XV) (a:AV),ER φ x a->ER ψ x a
 | .int ..,_,e=>by simpa [ER]using e
 | .bool _,_,e=>by simpa [ER]using e
 | .big _,_,e=>by simpa [ER]using e
 | .nil,_,e=>by simpa [ER]using e
 | .sl ..,_,e=>by
  simp only[ER]at e ⊢;obtain⟨b,h1,h2⟩:=e;exact⟨b,h _ _ h1,h2⟩
 | .ptr ..,_,e=>by
  simp only[ER]at e ⊢;obtain⟨b,h1,h2⟩:=e;exact⟨b,h _ _ h1,h2⟩
 | .lst _ l,_,e=>by
  simp only[ER]at e ⊢;obtain⟨g,h1,h2⟩:=e;exact⟨g,h1,ko.mono h l g 0 h2⟩
 | .pat _ x,_,e=>by
  simp only[ER]at e ⊢;obtain⟨y,h1,h2⟩:=e;exact⟨y,h1,ER.mono h x y h2⟩
 | .tup l,_,e=>by
  simp only[ER]at e ⊢;obtain⟨r,h1,h2⟩:=e;exact⟨r,h1,eD.mono h l r h2⟩
 | .agg l,_,e=>by
  simp only[ER]at e ⊢;obtain⟨r,h1,h2⟩:=e;exact⟨r,h1,eD.mono h l r h2⟩
 | .fn _ l,_,e=>by
  simp only[ER]at e ⊢;obtain⟨r,h1,h2⟩:=e;exact⟨r,h1,eD.mono h l r h2⟩
 | .any,_,_=>by simp[ER]
 | .nfn,_,e=>by simpa [ER]using e
 | .mfn _ l,_,e=>by
  simp only[ER]at e ⊢;obtain⟨r,h1,h2⟩:=e;exact⟨r,h1,eD.mono h l r h2⟩
theorem eD.mono{φ ψ:Ph}(h:φ.le ψ):∀(l:List XV) (r:List AV),eD φ l r->eD ψ l r
 | [],[],_=>by simp[eD]
 | x::l,a::r,e=>by simp only[eD]at e ⊢;exact⟨ER.mono h x a e.1,eD.mono h l r e.2⟩
 | [],_::_,e=>by simp[eD]at e
 | _::_,[],e=>by simp[eD]at e
theorem ko.mono{φ ψ:Ph}(h:φ.le ψ):∀(l:List XV) (g:Nat->AV) (k:Nat),ko φ l g k->ko ψ l g k
 | [],_,_,_=>by simp[ko]
 | x::l,g,k,e=>by simp only[ko]at e ⊢;exact⟨ER.mono h x _ e.1,ko.mono h l g (k+1) e.2⟩
end
theorem eD.length{φ:Ph}:∀{l:List XV} {r:List AV},eD φ l r->r.length=l.length
 | [],[],_=>rfl
 | _::_,_::_,e=>by simp only[eD]at e;simp[eD.length e.2]
 | [],_::_,e=>by simp[eD]at e
 | _::_,[],e=>by simp[eD]at e
theorem eD.get{φ:Ph}:∀{l:List XV} {r:List AV} {j:Nat} {x:XV},eD φ l r->l[j]? = some x->∃a,r[j]? = some a/\ER φ x a
 | x::l,a::r,0,y,e,h=>by
  simp only[eD]at e;simp only[cN,ef.injEq]at h;subst h;exact⟨a,rfl,e.1⟩
 | x::l,a::r,j+1,y,e,h=>by
  simp only[eD]at e;rw[bT]at h ⊢;exact eD.get e.2 h
 | [],_,_,_,_,h=>by simp at h
 | _::_,[],_,_,e,_=>by simp[eD]at e
theorem ko.get{φ:Ph}:∀{l:List XV} {g:Nat->AV} {k j:Nat} {x:XV},ko φ l g k->l[j]? = some x->ER φ x (g (k+j))
 | x::l,g,k,0,y,e,h=>by
  simp only[ko]at e;simp only[cN,ef.injEq]at h;subst h;exact e.1
 | x::l,g,k,j+1,y,e,h=>by
  simp only[ko]at e;rw[bT]at h;have:=ko.get e.2 h
  rwa [(om:k+1+j=k+(j+1))]at this
 | [],_,_,_,_,_,h=>by simp at h
theorem ko.of{φ:Ph}:∀{l:List XV} {g:Nat->AV} {k:Nat},(∀j x,l[j]? = some x->ER φ x (g (k+j)))->ko φ l g k
 | [],_,_,_=>by simp[ko]
 | x::l,g,k,h=>by
  simp only[ko];refine⟨h 0 x rfl,ko.of fun j y hy=>?_⟩;have:=h (j+1) y (by rw[bT];exact hy)
  rwa [(om:k+(j+1)=k+1+j)]at this
theorem eD.of{φ:Ph}:∀{l:List XV} {r:List AV},r.length=l.length->(∀(j:Nat) (x:XV) (a:AV),l[j]? = some x->r[j]? = some a->ER φ x a)->eD φ l r
 | [],[],_,_=>by simp[eD]
 | x::l,a::r,e,h=>by
  simp only[eD];exact⟨h 0 x a rfl rfl,eD.of (by simpa using e) fun j y b h1 h2=>h (j+1) y b (by simpa using h1) (by simpa using h2)⟩
 | [],_::_,e,_=>by simp at e
 | _::_,[],e,_=>by simp at e
theorem eD.append{φ:Ph}:∀{l m:List XV} {r s:List AV},eD φ l r->eD φ m s->eD φ (l++m) (r++s)
 | [],_,[],_,_,h=>h
 | _::_,_,_::_,_,e,h=>by simp only[eD,List.cons_append]at e ⊢;exact⟨e.1,eD.append e.2 h⟩
 | [],_,_::_,_,e,_=>by simp[eD]at e
 | _::_,_,[],_,e,_=>by simp[eD]at e
structure EB where
 ty:Nat
 es:Nat
 l:List XV
inductive EL where
 | e
 | d
 | n (x:Option (Option EB)) (l r:EL)
def dM(s:EL):Nat->Option (Option EB):=EL.rec (motive:=fun _=>Nat->Option (Option EB)) (fun _=>ac) (fun _=>some ac) (fun x _ _ a b t=>Bool.rec (Bool.rec (b (Nat.sub (oM t 2) 1)) (a (oM t 2)) (ay (Nat.mod t 2) 1)) x (ay t 0)) s
def qi(b:EL)(o:Option (Option EB))(x:Option EB)(fuel:Nat):Nat->EL:=Nat.rec (motive:=fun _=>Nat->EL) (fun _=>b) (fun _ ih t=>Bool.rec (Bool.rec (.n o b (ih (Nat.sub (oM t 2) 1))) (.n o (ih (oM t 2)) b) (ay (Nat.mod t 2) 1)) (.n (some x) b b) (ay t 0)) fuel
def qj(s:EL)(i:Nat)(x:Option EB):EL:=EL.rec (motive:=fun _=>Nat->EL) (fun t=>qi .e ac x (Nat.succ t) t) (fun t=>qi .d (some ac) x (Nat.succ t) t) (fun y l r a b t=>Bool.rec (Bool.rec (.n y l (b (Nat.sub (oM t 2) 1))) (.n y (a (oM t 2)) r) (ay (Nat.mod t 2) 1)) (.n (some x) l r) (ay t 0)) s i
theorem tQ{α:Type}(a b:α)(p q:Nat):Bool.rec (motive:=fun _=>α) a b (ay p q)=if p=q then b else a:=by
 by_cases h:p=q
 ·subst h;rw[if_pos rfl,Nat.beq_refl]
 ·rw[if_neg h]
  cases e:ay p q with
  | true=>exact absurd (ap e) h
  | false=>rfl
theorem vM(i:Nat):dM .e i=ac:=rfl
theorem C7(i:Nat):dM .d i=some ac:=rfl
theorem iU(x:Option (Option EB))(l r:EL)(t:Nat):dM (.n x l r) t=if t=0 then x else if t%2=1 then dM l (t/2)else dM r (t/2-1):=by
 show Bool.rec (motive:=fun _=>Option (Option EB)) (Bool.rec (motive:=fun _=>Option (Option EB)) (dM r (t/2-1)) (dM l (t/2)) (ay (t%2) 1)) x (ay t 0)=_;rw[tQ,tQ]
theorem Ju(b:EL)(o:Option (Option EB))(x:Option EB)(f t:Nat):qi b o x (f+1) t=if t=0 then .n (some x) b b else if t%2=1 then .n o (qi b o x f (t/2)) b else .n o b (qi b o x f (t/2-1)):=by
 show Bool.rec (motive:=fun _=>EL) (Bool.rec (motive:=fun _=>EL) (.n o b (qi b o x f (t/2-1))) (.n o (qi b o x f (t/2)) b) (ay (t%2) 1)) (.n (some x) b b) (ay t 0)=_;rw[tQ,tQ]
theorem ins_e(i:Nat)(x:Option EB):qj .e i x=qi .e ac x (i+1) i:=rfl
theorem ins_d(i:Nat)(x:Option EB):qj .d i x=qi .d (some ac) x (i+1) i:=rfl
theorem ins_n(y:Option (Option EB))(l r:EL)(t:Nat)(x:Option EB):qj (.n y l r) t x=if t=0 then .n (some x) l r else if t%2=1 then .n y (qj l (t/2) x) r else .n y l (qj r (t/2-1) x):=by
 show Bool.rec (motive:=fun _=>EL) (Bool.rec (motive:=fun _=>EL) (.n y l (qj r (t/2-1) x)) (.n y (qj l (t/2) x) r) (ay (t%2) 1)) (.n (some x) l r) (ay t 0)=_;rw[tQ,tQ]
theorem Md{i j:Nat}(h:i≠j):ay i j=false:=by
 cases e:ay i j with
 | true=>exact absurd (ap e) h
 | false=>rfl
theorem t6{t j:Nat}(ht:t≠0)(hj:j≠0)(h:j≠t):(t%2=1->j%2=1->j/2≠t/2)/\(t%2≠1->j%2≠1->j/2-1≠t/2-1):=by
 constructor<;>intro h1 h2<;>omega
theorem kM{b:EL}{o:Option (Option EB)}(hb:∀j,dM b j=o){x:Option EB}:∀(f t:Nat),t<f->∀j,dM (qi b o x f t) j=if j=t then some x else o
 | 0,t,h,_=>om
 | f+1,t,h,j=>by
  rw[Ju];by_cases ht:t=0
  ·subst ht;rw[if_pos rfl,iU,hb,hb];by_cases e:j=0
   ·rw[if_pos e,if_pos e]
   ·rw[if_neg e,if_neg e];split<;>rfl
  ·rw[if_neg ht];by_cases hj:j=0
   ·subst hj;rw[if_neg (show ¬(0=t)from fun e=>ht e.symm)];split<;>rw[iU,if_pos rfl]
   ·by_cases e:j=t
    ·subst e;rw[if_pos rfl];split
     ·rename_i h1;rw[iU,if_neg ht,if_pos h1,kM hb f _ om,if_pos rfl]
     ·rename_i h1;rw[iU,if_neg ht,if_neg h1,kM hb f _ om,if_pos rfl]
    ·obtain⟨h1,h2⟩:=t6 ht hj e;rw[if_neg e];split
     ·rename_i h3;rw[iU,if_neg hj,hb];split
      ·rename_i h4;rw[kM hb f _ om,if_neg (h1 h3 h4)]
      ·rfl
     ·rename_i h3;rw[iU,if_neg hj,hb];split
      ·rfl
      ·rename_i h4;rw[kM hb f _ om,if_neg (h2 h3 h4)]
theorem eM:∀(l:EL) (i:Nat) (x:Option EB) (j:Nat),dM (qj l i x) j=if j=i then some x else dM l j
 | .e,i,x,j=>by rw[ins_e,kM vM _ _ om,vM]
 | .d,i,x,j=>by rw[ins_d,kM C7 _ _ om,C7]
 | .n y l r,t,x,j=>by
  rw[ins_n];by_cases ht:t=0
  ·subst ht;rw[if_pos rfl,iU,iU];by_cases e:j=0
   ·rw[if_pos e,if_pos e]
   ·rw[if_neg e,if_neg e,if_neg e]
  ·rw[if_neg ht];by_cases hj:j=0
   ·subst hj;rw[if_neg (show ¬(0=t)from fun e=>ht e.symm),iU,if_pos rfl];split<;>rw[iU,if_pos rfl]
   ·by_cases e:j=t
    ·subst e;rw[if_pos rfl];split
     ·rename_i h1;rw[iU,if_neg ht,if_pos h1,eM,if_pos rfl]
     ·rename_i h1;rw[iU,if_neg ht,if_neg h1,eM,if_pos rfl]
    ·obtain⟨h1,h2⟩:=t6 ht hj e;rw[if_neg e];split
     ·rename_i h3;rw[iU,iU,if_neg hj,if_neg hj];split
      ·rename_i h4;rw[eM,if_neg (h1 h3 h4)]
      ·rfl
     ·rename_i h3;rw[iU,iU,if_neg hj,if_neg hj];split
      ·rfl
      ·rename_i h4;rw[eM,if_neg (h2 h3 h4)]
structure MR(φ:Ph)(l:EL)(S:St):Prop where
 dom:∀i,dM l i=ac->φ i=ac
 live:∀i X,dM l i=some (some X)->∃b g,φ i=some b/\S b=some ⟨X.ty,X.es,X.l.length,g⟩/\ko φ X.l g 0
 inj:∀i j X Y b,dM l i=some (some X)->dM l j=some (some Y)->φ i=some b->φ j=some b->i=j
theorem MR.new{φ:Ph}{l:EL}{S:St}(h:MR φ l S){nx b:Nat}(hn:dM l nx=ac)(hb:S b=ac){ty es:Nat}{L:List XV}{g:Nat->AV}(hg:ko φ L g 0){n:Nat}(hl:n=L.length) :
  φ.le (φ.set nx b)/\MR (φ.set nx b) (qj l nx (some ⟨ty,es,L⟩)) (S.upd b ⟨ty,es,n,g⟩):=by
 subst hl;have hle:φ.le (φ.set nx b):=Ph.le_set (h.dom nx hn);refine⟨hle,fun i hi=>?_,fun i X hi=>?_,fun i j X Y c hi hj ei ej=>?_⟩
 ·rw[eM]at hi;by_cases e:i=nx
  ·rw[if_pos e]at hi;cases hi
  ·rw[if_neg e]at hi;unfold Ph.set;rw[if_neg e];exact h.dom i hi
 ·rw[eM]at hi;by_cases e:i=nx
  ·rw[if_pos e]at hi;cases hi;exact⟨b,g,by unfold Ph.set;rw[if_pos e],bZ,hg.mono hle⟩
  ·rw[if_neg e]at hi;obtain⟨c,g',h1,h2,h3⟩:=h.live i X hi;refine⟨c,g',hle _ _ h1,?_,h3.mono hle⟩;rw[aP (fun e2=>by subst e2;rw[hb]at h2;cases h2)];exact h2
 ·rw[eM]at hi hj;have key:∀i X,i≠nx->dM l i=some (some X)->φ.set nx b i=some b->False:=fun i X e hi ei=>by
   unfold Ph.set at ei;rw[if_neg e]at ei;obtain⟨c,g',h1,h2,h3⟩:=h.live i X hi;rw[ei]at h1;cases h1;rw[hb]at h2;cases h2
  by_cases e:i=nx
  ·by_cases e2:j=nx
   ·omega
   ·rw[if_neg e2]at hj;have:c=b:=by unfold Ph.set at ei;rw[if_pos e]at ei;cases ei;rfl
    subst this;exact(key j Y e2 hj ej).elim
  ·rw[if_neg e]at hi;by_cases e2:j=nx
   ·have:c=b:=by unfold Ph.set at ej;rw[if_pos e2]at ej;cases ej;rfl
    subst this;exact(key i X e hi ei).elim
   ·rw[if_neg e2]at hj;unfold Ph.set at ei ej;rw[if_neg e]at ei;rw[if_neg e2]at ej;exact h.inj i j X Y c hi hj ei ej
theorem MR.put{φ:Ph}{l:EL}{S:St}(h:MR φ l S){i b:Nat}{X:EB}(hi:dM l i=some (some X))(hb:φ i=some b){L:List XV}{g:Nat->AV}(hg:ko φ L g 0){n:Nat}(hn:n=L.length) :
  MR φ (qj l i (some ⟨X.ty,X.es,L⟩)) (S.upd b ⟨X.ty,X.es,n,g⟩):=by
 subst hn;refine⟨fun j hj=>?_,fun j Y hj=>?_,fun j k Y Z c hj hk ej ek=>?_⟩
 ·rw[eM]at hj;by_cases e:j=i
  ·rw[if_pos e]at hj;cases hj
  ·rw[if_neg e]at hj;exact h.dom j hj
 ·rw[eM]at hj;by_cases e:j=i
  ·rw[if_pos e]at hj;cases hj;subst e;exact⟨b,g,hb,bZ,hg⟩
  ·rw[if_neg e]at hj;obtain⟨c,g',h1,h2,h3⟩:=h.live j Y hj;refine⟨c,g',h1,?_,h3⟩;rw[aP (fun e2=>by subst e2;exact e (h.inj j i Y X _ hj hi h1 hb))];exact h2
 ·rw[eM]at hj hk;have ej':∃Y',dM l j=some (some Y'):=by
   by_cases e:j=i
   ·subst e;exact⟨X,hi⟩
   ·rw[if_neg e]at hj;exact⟨Y,hj⟩
  have ek':∃Y',dM l k=some (some Y'):=by
   by_cases e:k=i
   ·subst e;exact⟨X,hi⟩
   ·rw[if_neg e]at hk;exact⟨Z,hk⟩
  obtain⟨Y',h1⟩:=ej';obtain⟨Z',h2⟩:=ek';exact h.inj j k Y' Z' c h1 h2 ej ek
theorem MR.move{φ:Ph}{l:EL}{S:St}(h:MR φ l S){i b nx b':Nat}{X:EB}(hi:dM l i=some (some X))(hb:φ i=some b)(hn:dM l nx=ac)(hb':b'=b∨S b'=ac){ty es:Nat}{L:List XV}{g:Nat->AV}(hg:ko φ L g 0){n:Nat}(hl:n=L.length) :
  φ.le (φ.set nx b')/\MR (φ.set nx b') (qj (qj l i ac) nx (some ⟨ty,es,L⟩)) ((S.del b).upd b' ⟨ty,es,n,g⟩):=by
 subst hl;have hle:φ.le (φ.set nx b'):=Ph.le_set (h.dom nx hn);have hin:i≠nx:=fun e=>by subst e;rw[hi]at hn;cases hn
 have key:∀j Y,dM (qj l i ac) j=some (some Y)->j≠i/\dM l j=some (some Y):=fun j Y hj=>by
  rw[eM]at hj;by_cases e:j=i
  ·rw[if_pos e]at hj;cases hj
  ·rw[if_neg e]at hj;exact⟨e,hj⟩
 have keyb:∀j Y,j≠i->dM l j=some (some Y)->φ j≠some b':=fun j Y e hj ej=>by
  rcases hb' with rfl|hb'
  ·exact e (h.inj j i Y X _ hj hi ej hb)
  ·obtain⟨c,g',h1,h2,_⟩:=h.live j Y hj;rw[ej]at h1;cases h1;rw[hb']at h2;cases h2
 refine⟨hle,fun j hj=>?_,fun j Y hj=>?_,fun j k Y Z c hj hk ej ek=>?_⟩
 ·rw[eM]at hj;by_cases e:j=nx
  ·rw[if_pos e]at hj;cases hj
  ·rw[if_neg e,eM]at hj;by_cases e2:j=i
   ·rw[if_pos e2]at hj;cases hj
   ·rw[if_neg e2]at hj;unfold Ph.set;rw[if_neg e];exact h.dom j hj
 ·rw[eM]at hj;by_cases e:j=nx
  ·rw[if_pos e]at hj;cases hj;exact⟨b',g,by unfold Ph.set;rw[if_pos e],bZ,hg.mono hle⟩
  ·rw[if_neg e]at hj;obtain⟨e2,hj⟩:=key j Y hj;obtain⟨c,g',h1,h2,h3⟩:=h.live j Y hj;have hcb:c≠b:=fun e3=>by subst e3;exact e2 (h.inj j i Y X _ hj hi h1 hb)
   have hcb':c≠b':=fun e3=>by subst e3;exact keyb j Y e2 hj h1
   refine⟨c,g',hle _ _ h1,?_,h3.mono hle⟩;rw[aP hcb'];unfold St.del;rw[if_neg hcb];exact h2
 ·rw[eM]at hj hk;by_cases e:j=nx
  ·by_cases e2:k=nx
   ·omega
   ·rw[if_neg e2]at hk;obtain⟨e3,hk⟩:=key k Z hk;have:c=b':=by unfold Ph.set at ej;rw[if_pos e]at ej;cases ej;rfl
    subst this;unfold Ph.set at ek;rw[if_neg e2]at ek;exact(keyb k Z e3 hk ek).elim
  ·rw[if_neg e]at hj;obtain⟨e3,hj⟩:=key j Y hj;unfold Ph.set at ej;rw[if_neg e]at ej;by_cases e2:k=nx
   ·have:c=b':=by unfold Ph.set at ek;rw[if_pos e2]at ek;cases ek;rfl
    subst this;exact(keyb j Y e3 hj ej).elim
   ·rw[if_neg e2]at hk;obtain⟨e4,hk⟩:=key k Z hk;unfold Ph.set at ek;rw[if_neg e2]at ek;exact h.inj j k Y Z c hj hk ej ek
end
noncomputable section
inductive TE where
 | e
 | n (x:XV) (l r:TE)
def iT(s:TE):Nat->XV:=TE.rec (motive:=fun _=>Nat->XV) (fun _=>.any) (fun x _ _ a b t=>Bool.rec (Bool.rec (b (Nat.sub (oM t 2) 1)) (a (oM t 2)) (ay (Nat.mod t 2) 1)) x (ay t 0)) s
def th(v:XV)(fuel:Nat):Nat->TE:=Nat.rec (motive:=fun _=>Nat->TE) (fun _=>.e) (fun _ ih t=>Bool.rec (Bool.rec (.n .any .e (ih (Nat.sub (oM t 2) 1))) (.n .any (ih (oM t 2)) .e) (ay (Nat.mod t 2) 1)) (.n v .e .e) (ay t 0)) fuel
def uQ(s:TE)(i:Nat)(v:XV):TE:=TE.rec (motive:=fun _=>Nat->TE) (fun t=>th v (Nat.succ t) t) (fun y l r a b t=>Bool.rec (Bool.rec (.n y l (b (Nat.sub (oM t 2) 1))) (.n y (a (oM t 2)) r) (ay (Nat.mod t 2) 1)) (.n v l r) (ay t 0)) s i
theorem qv(t:Nat):iT .e t=.any:=rfl
theorem jo(x:XV)(l r:TE)(t:Nat):iT (.n x l r) t=if t=0 then x else if t%2=1 then iT l (t/2)else iT r (t/2-1):=by
 show Bool.rec (motive:=fun _=>XV) (Bool.rec (motive:=fun _=>XV) (iT r (t/2-1)) (iT l (t/2)) (ay (t%2) 1)) x (ay t 0)=_;rw[tQ,tQ]
theorem IZ(v:XV)(f t:Nat):th v (f+1) t=if t=0 then .n v .e .e else if t%2=1 then .n .any (th v f (t/2)) .e else .n .any .e (th v f (t/2-1)):=by
 show Bool.rec (motive:=fun _=>TE) (Bool.rec (motive:=fun _=>TE) (.n .any .e (th v f (t/2-1))) (.n .any (th v f (t/2)) .e) (ay (t%2) 1)) (.n v .e .e) (ay t 0)=_;rw[tQ,tQ]
theorem Lu(i:Nat)(v:XV):uQ .e i v=th v (i+1) i:=rfl
theorem Lt(y:XV)(l r:TE)(t:Nat)(v:XV):uQ (.n y l r) t v=if t=0 then .n v l r else if t%2=1 then .n y (uQ l (t/2) v) r else .n y l (uQ r (t/2-1) v):=by
 show Bool.rec (motive:=fun _=>TE) (Bool.rec (motive:=fun _=>TE) (.n y l (uQ r (t/2-1) v)) (.n y (uQ l (t/2) v) r) (ay (t%2) 1)) (.n v l r) (ay t 0)=_;rw[tQ,tQ]
theorem np{v:XV}:∀(f t:Nat),t<f->∀j,iT (th v f t) j=if j=t then v else .any
 | 0,t,h,_=>om
 | f+1,t,h,j=>by
  rw[IZ];by_cases ht:t=0
  ·subst ht;rw[if_pos rfl,jo,qv,qv];by_cases e:j=0
   ·rw[if_pos e,if_pos e]
   ·rw[if_neg e,if_neg e];split<;>rfl
  ·rw[if_neg ht];by_cases hj:j=0
   ·subst hj;rw[if_neg (show ¬(0=t)from fun e=>ht e.symm)];split<;>rw[jo,if_pos rfl]
   ·by_cases e:j=t
    ·subst e;rw[if_pos rfl];split
     ·rename_i h1;rw[jo,if_neg ht,if_pos h1,np f _ om,if_pos rfl]
     ·rename_i h1;rw[jo,if_neg ht,if_neg h1,np f _ om,if_pos rfl]
    ·obtain⟨h1,h2⟩:=t6 ht hj e;rw[if_neg e];split
     ·rename_i h3;rw[jo,if_neg hj,qv];split
      ·rename_i h4;rw[np f _ om,if_neg (h1 h3 h4)]
      ·rfl
     ·rename_i h3;rw[jo,if_neg hj,qv];split
      ·rfl
      ·rename_i h4;rw[np f _ om,if_neg (h2 h3 h4)]
theorem lk:∀(s:TE) (d:Nat) (v:XV) (t:Nat),iT (uQ s d v) t=if t=d then v else iT s t
 | .e,i,v,j=>by rw[Lu,np _ _ om,qv]
 | .n y l r,t,x,j=>by
  rw[Lt];by_cases ht:t=0
  ·subst ht;rw[if_pos rfl,jo,jo];by_cases e:j=0
   ·rw[if_pos e,if_pos e]
   ·rw[if_neg e,if_neg e,if_neg e]
  ·rw[if_neg ht];by_cases hj:j=0
   ·subst hj;rw[if_neg (show ¬(0=t)from fun e=>ht e.symm),jo,if_pos rfl];split<;>rw[jo,if_pos rfl]
   ·by_cases e:j=t
    ·subst e;rw[if_pos rfl];split
     ·rename_i h1;rw[jo,if_neg ht,if_pos h1,lk,if_pos rfl]
     ·rename_i h1;rw[jo,if_neg ht,if_neg h1,lk,if_pos rfl]
    ·obtain⟨h1,h2⟩:=t6 ht hj e;rw[if_neg e];split
     ·rename_i h3;rw[jo,jo,if_neg hj,if_neg hj];split
      ·rename_i h4;rw[lk,if_neg (h1 h3 h4)]
      ·rfl
     ·rename_i h3;rw[jo,jo,if_neg hj,if_neg hj];split
      ·rfl
      ·rename_i h4;rw[lk,if_neg (h2 h3 h4)]
def ofL:List XV->Nat->TE->TE
 | [],_,s=>s
 | x::l,k,s=>ofL l (k+1) (uQ s k x)
theorem Ep:∀(l:List XV) (k:Nat) (s:TE) (t:Nat),iT (ofL l k s) t=if k<=t/\t<k+l.length then l.getD (t-k) .any else iT s t
 | [],k,s,t=>by simp only[ofL,jG];rw[if_neg om]
 | x::l,k,s,t=>by
  simp only[ofL,cD];rw[Ep l (k+1),lk];by_cases e:t=k
  ·subst e;rw[if_neg om,if_pos rfl,if_pos om,bW];rfl
  ·rw[if_neg e];by_cases h:k+1<=t/\t<k+1+l.length
   ·rw[if_pos h,if_pos om,(om:t-k=(t-(k+1))+1)];rfl
   ·rw[if_neg h,if_neg om]
def vB(l:List XV):TE:=ofL l 0 .e
theorem CZ(l:List XV)(t:Nat):iT (vB l) t=l.getD t .any:=by
 unfold vB;rw[Ep,qv,aF,Nat.sub_zero];by_cases h:t<l.length
 ·rw[if_pos ⟨ke _,h⟩]
 ·rw[if_neg (fun e=>h e.2),ir,co om];rfl
def TR(φ:Ph)(te:TE)(O:Tm):Prop:=∀t,ER φ (iT te t) (O t)
theorem TR.mono{φ ψ:Ph}{te:TE}{O:Tm}(h:TR φ te O)(hle:φ.le ψ):TR ψ te O:=fun t=>(h t).mono hle
theorem TR.put{φ:Ph}{te:TE}{O:Tm}(h:TR φ te O){d:Nat}{v:XV}{z:AV}(hz:ER φ v z):TR φ (uQ te d v) (O.put (some d) z):=fun t=>by
 rw[lk,Tm.put_eq];by_cases e:t=d
 ·simp only[e,if_pos];exact hz
 ·simp only[e,if_false];exact h t
def L0:Value->XV
 | .int k n=>.int k n
 | .bool b=>.bool b
 | .slice ac 0 0=>.nil
 | _=>.any
theorem J1(φ:Ph)(v:Value):ER φ (L0 v) (KN v):=by
 unfold L0;split
 ·simp[ER,KN]
 ·simp[ER,KN]
 ·simp[ER,KN]
 ·simp[ER]
def jK(te:TE):Operand->XV
 | .tmp t=>iT te t
 | .const v=>L0 v
 | .global _=>.any
 | .func f=>.fn f []
theorem TR.ev{φ:Ph}{te:TE}{O:Tm}(h:TR φ te O)(x:Operand):ER φ (jK te x) (ev O x):=by
 cases x with
 | tmp t=>exact h t
 | const v=>exact J1 φ v
 | global g=>simp[jK,ER]
 | func f=>simp only[jK,Go.Proofs.YtdobfmlmenaajaaGreatDoor.ev,ER];exact⟨[],rfl,by simp[eD]⟩
theorem TR.evL{φ:Ph}{te:TE}{O:Tm}(h:TR φ te O):∀l:List Operand,eD φ (l.map (jK te)) (l.map (Go.Proofs.YtdobfmlmenaajaaGreatDoor.ev O))
 | []=>by simp[eD]
 | x::l=>by simp only[cq,eD];exact⟨h.ev x,h.evL l⟩
def ma:Nat->XV->Bool
 | 1,.int .u32 _=>false
 | 1,.int _ _=>true
 | 1,.bool _=>true
 | 1,.nil=>true
 | 1,.sl ..=>true
 | 1,.ptr ..=>true
 | 1,.lst ..=>true
 | 1,.pat ..=>true
 | 1,.fn ..=>true
 | 1,.nfn=>true
 | 1,.mfn ..=>true
 | 2,.big _=>true
 | _,_=>false
theorem jZ{φ:Ph}{es:Nat}{x:XV}{a:AV}(h:ma es x=true)(hr:ER φ x a):dI es a:=by
 unfold ma at h;split at h
 ·cases h
 ·rename_i k n hne;simp only[ER]at hr;subst hr;simp only[dI];intro e;subst e;exact hne rfl
 all_goals first
  | (simp only[ER]at hr;subst hr;trivial)
  | (simp only[ER]at hr;obtain⟨b,_,rfl⟩:=hr;trivial)
  | (simp only[ER]at hr;obtain⟨b,rfl,_⟩:=hr;trivial)
  | exact absurd h dc
def l9(es:Nat):List XV->Bool
 | []=>true
 | x::l=>ma es x&&l9 es l
theorem nE{φ:Ph}{es:Nat}:∀{l:List XV} {r:List AV},l9 es l=true->eD φ l r->∀z∈r,dI es z
 | [],[],_,_,z,hz=>by cases hz
 | x::l,a::r,h,hr,z,hz=>by
  simp only[l9,aA]at h;simp only[eD]at hr;rcases List.mem_cons.1 hz with rfl|hz
  ·exact jZ h.1 hr.1
  ·exact nE h.2 hr.2 z hz
 | [],_::_,_,hr,_,_=>by simp[eD]at hr
 | _::_,[],_,hr,_,_=>by simp[eD]at hr
theorem sJ{φ:Ph}{es:Nat}:∀{l:List XV} {g:Nat->AV} {k:Nat},l9 es l=true->ko φ l g k->∀j,j<l.length->dI es (g (k+j))
 | [],_,_,_,_,j,hj=>absurd hj sm
 | x::l,g,k,h,hr,0,_=>by
  simp only[l9,aA]at h;simp only[ko]at hr;exact jZ h.1 hr.1
 | x::l,g,k,h,hr,j+1,hj=>by
  simp only[l9,aA]at h;simp only[ko]at hr;have:=sJ h.2 hr.2 j (by simpa using hj)
  rwa [(om:k+1+j=k+(j+1))]at this
theorem eD.toG{φ:Ph}{l:List XV}{r:List AV}(h:eD φ l r):ko φ l (fun j=>r.getD j .any) 0:=ko.of fun j x hx=>by
 obtain⟨a,h1,h2⟩:=h.get hx;simp only[aF,cL,h1,ge];exact h2
abbrev XR:=Option (XV×Nat×EL)
abbrev dC:=Nat->List XV->Nat->EL->XR
def ra(nx:Nat)(l:EL)(X:EB)(v:XV):XR:=match dM l nx with
 | ac=>some (v,nx+1,qj l nx (some X))
 | some _=>ac
def XK(φ:Ph)(v:XV)(l:EL)(K:AV->St->Prop):Prop:=∀ψ z S,φ.le ψ->ER ψ v z->MR ψ l S->K z S
theorem n0{φ:Ph}{nx:Nat}{l:EL}{S:St}{ty es n:Nat}{L:List XV}{v:XV}{r:XV×Nat×EL}{g:Nat->AV}{K:AV->St->Prop}(h:ra nx l ⟨ty,es,L⟩ v=some r)(hm:MR φ l S)(hg:ko φ L g 0)(hn:n=L.length)(hk:XK φ r.1 r.2.2 K)
  {b:Nat} (hb:S b=ac) {z:AV} (hz:v=.ptr es nx 0/\z=.ptr es b 0∨v=.sl es nx 0 n/\z=.sl es b 0 n):K z (S.upd b ⟨ty,es,n,g⟩):=by
 unfold ra at h;split at h
 ·rename_i hl
  cases h
  obtain⟨h1,h2⟩:=hm.new hl hb (ty:=ty) (es:=es) hg hn;refine hk _ _ _ h1 ?_ h2;rcases hz with⟨rfl,rfl⟩|⟨rfl,rfl⟩
  ·simp only[ER];exact⟨b,by unfold Ph.set;rw[if_pos rfl],rfl⟩
  ·simp only[ER];exact⟨b,by unfold Ph.set;rw[if_pos rfl],rfl⟩
 ·cases h
def zE:Nat->Option (Nat×XV)
 | 2=>some (1,.int .i64 0)
 | 3=>some (1,.int .i64 0)
 | 4=>some (1,.bool false)
 | 28=>some (1,.nil)
 | 29=>some (1,.nil)
 | 52=>some (1,.nil)
 | 59=>some (1,.nil)
 | 50=>some (2,.big 0)
 | _=>ac
theorem AN{t es:Nat}{x:XV}(h:zE t=some (es,x)):∃a v,fD t=some (es,a,v)/\∀φ,ER φ x a:=by
 unfold zE at h;split at h<;>first|(cases h;exact⟨_,_,rfl,fun φ=>by simp[ER]⟩)|cases h
def zA:Nat->Option (Nat×List XV)
 | 167=>some (2,[.big 0,.big 0])
 | 197=>some (2,[.big 0,.big 0,.big 0,.big 0,.big 0,.big 0,.big 0])
 | 218=>some (1,[.nil,.int .i64 0])
 | 202=>some (1,[.int .u64 0,.int .u64 0])
 | _=>ac
def uE(t nx:Nat)(l:EL):XR:=match zE t with
 | some (es,x)=>ra nx l ⟨t,es,[x]⟩ (.ptr es nx 0)
 | ac=>match zA t with
  | some (es,L)=>ra nx l ⟨t,es,L⟩ (.ptr es nx 0)
  | ac=>ac
theorem EX{φ:Ph}{t nx:Nat}{l:EL}{S:St}{r:XV×Nat×EL}{K:AV->St->Prop}(h:uE t nx l=some r)(hm:MR φ l S)(hk:XK φ r.1 r.2.2 K):lD t S K:=by
 unfold uE at h
 cases hz:zE t with
 | some p =>
  obtain⟨es,x⟩:=p;rw[hz]at h;obtain⟨a,v,h1,h2⟩:=AN hz;unfold lD;rw[h1];exact fun b hb=>n0 h hm (by simp only[ko];exact⟨h2 φ,trivial⟩) rfl hk hb (.inl ⟨rfl,rfl⟩)
 | none =>
  rw[hz]at h;simp only at h;unfold zA at h;split at h
  ·rename_i es L hL;split at hL<;>first
    | (cases hL;exact fun b hb=>n0 h hm (by simp[ko,ER]) rfl hk hb (.inl ⟨rfl,rfl⟩))
    | cases hL
  ·cases h
def Gv(t:Nat)(x:XV)(nx:Nat)(l:EL):XR:=match d9 t with
 | some (es,k)=>match ay k 1 with
  | true=>match ma es x with
   | true=>ra nx l ⟨t,es,[x]⟩ (.ptr es nx 0)
   | false=>ac
  | false=>match x with
   | .agg L=>match ay L.length k&&l9 es L with
    | true=>ra nx l ⟨t,es,L⟩ (.ptr es nx 0)
    | false=>ac
   | _=>ac
 | ac=>ac
theorem IS{φ:Ph}{t nx:Nat}{x:XV}{a:AV}{l:EL}{S:St}{r:XV×Nat×EL}{K:AV->St->Prop}(h:Gv t x nx l=some r)(hx:ER φ x a)(hm:MR φ l S)(hk:XK φ r.1 r.2.2 K):jg t a S K:=by
 unfold Gv at h;unfold jg
 cases hs:d9 t with
 | none=>rw[hs]at h;cases h
 | some p =>
  obtain⟨es,k⟩:=p;rw[hs]at h;simp only at h ⊢
  cases h1:ay k 1 with
  | true =>
   rw[h1]at h;rw[if_pos (ap h1)];simp only at h;split at h
   ·rename_i h2;exact⟨jZ h2 hx,fun b hb=>n0 h hm (by simp only[ko];exact⟨hx,trivial⟩) rfl hk hb (.inl ⟨rfl,rfl⟩)⟩
   ·cases h
  | false =>
   rw[h1]at h;rw[if_neg (fun e=>by subst e;simp at h1)]
   simp only at h;split at h
   ·rename_i L;simp only[ER]at hx;obtain⟨R,rfl,hL⟩:=hx;split at h
    ·rename_i h2;simp only[aA]at h2;have e:=ap h2.1;refine⟨by rw[hL.length];exact e,nE h2.2 hL,fun b hb=>?_⟩
     exact n0 h hm hL.toG e.symm hk hb (.inl ⟨rfl,rfl⟩)
    ·cases h
   ·cases h
def tf(t:Nat)(x:XV)(l:EL):Option XV:=match x with
 | .pat es y=>match d9 t with
  | some (es',k)=>match ay es es'&&ay k 1 with
   | true=>some y
   | false=>ac
  | ac=>ac
 | .ptr es i k0=>match dM l i with
  | some (some X)=>match d9 t with
   | some (es',k)=>match ay es' es&&ay X.es es&&ix (k0+k) X.l.length with
    | true=>match ay k 1 with
     | true=>X.l[k0]?
     | false=>some (.agg ((X.l.drop k0).take k))
    | false=>ac
   | ac=>ac
  | _=>ac
 | _=>ac
theorem yj{g:Nat->AV}:∀(k i j:Nat),(dF g i k)[j]? = if j<k then some (g (i+j))else ac
 | 0,i,j=>by simp[dF]
 | k+1,i,0=>by simp[dF]
 | k+1,i,j+1=>by
  simp only[dF,bT,yj k (i+1) j,Nat.add_lt_add_iff_right];rw[(om:i+1+j=i+(j+1))]
theorem yi{g:Nat->AV}:∀(k i:Nat),(dF g i k).length=k
 | 0,_=>rfl
 | k+1,i=>by simp[dF,yi k]
theorem AU{φ:Ph}{t:Nat}{x v:XV}{a:AV}{l:EL}{S:St}{K:AV->Prop}(h:tf t x l=some v)(hx:ER φ x a)(hm:MR φ l S)(hk:∀z,ER φ v z->K z):nK t a S K:=by
 unfold tf at h;split at h
 ·rename_i es y;simp only[ER]at hx;obtain⟨y',rfl,hy⟩:=hx;split at h
  ·rename_i es' k hs;split at h
   ·rename_i h2;simp only[aA]at h2
    cases h
    have e1:=ap h2.1;have e2:=ap h2.2;subst e1 e2;exact⟨hs,hk _ hy⟩
   ·cases h
  ·cases h
 ·rename_i es i k0;simp only[ER]at hx;obtain⟨b,hb,rfl⟩:=hx;split at h
  ·rename_i X hX;obtain⟨b',g,e1,e2,e3⟩:=hm.live i X hX;rw[hb]at e1;cases e1;split at h
   ·rename_i es' k hs;split at h
    ·rename_i h2;simp only[aA]at h2;have q1:=ap h2.1.1;have q2:=ap h2.1.2;have q3:=cb h2.2;unfold nK;simp only[e2,hs];refine⟨q1,q2,q3,?_⟩
     cases h3:ay k 1 with
     | true =>
      rw[h3]at h;have:=ap h3;subst this;simp only at h;rw[if_pos rfl];have:=e3.get h;rw[aF]at this;exact hk _ this
     | false =>
      rw[h3]at h;rw[if_neg (fun e=>by subst e;simp at h3)]
      cases h
      refine hk _ ?_;simp only[ER];refine⟨_,rfl,eD.of (by simp[yi];omega) fun j x a hx ha=>?_⟩
      rw[yj]at ha;by_cases hj:j<k
      ·rw[if_pos hj]at ha;cases ha;rw[fI hj,lF]at hx;have:=e3.get hx
       rwa [aF]at this
      ·rw[if_neg hj]at ha;cases ha
    ·cases h
   ·cases h
  ·cases h
 ·cases h
def tu:List XV->Nat->List XV->List XV
 | l,_,[]=>l
 | l,i,x::r=>tu (l.set i x) (i+1) r
theorem sw:∀(r l:List XV) (i:Nat),(tu l i r).length=l.length
 | [],_,_=>rfl
 | x::r,l,i=>by simp[tu,sw r]
theorem sA:∀(r l:List XV) (i j:Nat),i+r.length<=l.length->(tu l i r)[j]? = if i<=j/\j<i+r.length then r[j-i]? else l[j]?
 | [],l,i,j,_=>by
  simp only[tu,jG,dd];rw[if_neg om]
 | x::r,l,i,j,h=>by
  simp only[cD]at h;simp only[tu,sA r (l.set i x) (i+1) j (by simp;omega),cD]
  by_cases e:j=i
  ·subst e;rw[if_neg om,if_pos om,List.getElem?_set_self om,bW];rfl
  ·by_cases e2:i+1<=j/\j<i+1+r.length
   ·rw[if_pos e2,if_pos om,(om:j-i=j-(i+1)+1),bT]
   ·rw[if_neg e2,if_neg om,List.getElem?_set_ne om]
def Cx(t:Nat)(x y:XV)(l:EL):Option EL:=match x with
 | .ptr es i k0=>match dM l i with
  | some (some X)=>match d9 t with
   | some (es',k)=>match ay es' es&&ay X.es es&&ix (k0+k) X.l.length with
    | true=>match ay k 1 with
     | true=>match ma es y with
      | true=>some (qj l i (some ⟨X.ty,X.es,X.l.set k0 y⟩))
      | false=>ac
     | false=>match y with
      | .agg L=>match ay L.length k&&l9 es L with
       | true=>some (qj l i (some ⟨X.ty,X.es,tu X.l k0 L⟩))
       | false=>ac
      | _=>ac
    | false=>ac
   | ac=>ac
  | _=>ac
 | _=>ac
theorem EO{φ:Ph}{t:Nat}{x y:XV}{a c:AV}{l l':EL}{S:St}{K:St->Prop}(h:Cx t x y l=some l')(hx:ER φ x a)(hy:ER φ y c)(hm:MR φ l S)(hk:∀S',MR φ l' S'->K S'):oh t a c S K:=by
 unfold Cx at h;split at h
 ·rename_i es i k0;simp only[ER]at hx;obtain⟨b,hb,rfl⟩:=hx;split at h
  ·rename_i X hX;obtain⟨b',g,e1,e2,e3⟩:=hm.live i X hX;rw[hb]at e1;cases e1;split at h
   ·rename_i es' k hs;split at h
    ·rename_i h2;simp only[aA]at h2;have q1:=ap h2.1.1;have q2:=ap h2.1.2;have q3:=cb h2.2;unfold oh;simp only[e2,hs];refine⟨q1,q2,q3,?_⟩
     cases h3:ay k 1 with
     | true =>
      rw[h3]at h;have:=ap h3;subst this;simp only at h;rw[if_pos rfl];split at h
      ·rename_i h4
       cases h
       refine⟨jZ h4 hy,hk _ (hm.put hX hb (ko.of fun j x hx=>?_) sm)⟩
       simp only[bJ,aF];by_cases e:j=k0
       ·subst e;rw[List.getElem?_set_self om]at hx;cases hx;rw[if_pos rfl];exact hy
       ·rw[List.getElem?_set_ne om]at hx;rw[if_neg e];have:=e3.get hx
        rwa [aF]at this
      ·cases h
     | false =>
      rw[h3]at h;rw[if_neg (fun e=>by subst e;simp at h3)]
      simp only at h;split at h
      ·rename_i L;simp only[ER]at hy;obtain⟨R,rfl,hL⟩:=hy;split at h
       ·rename_i h4;simp only[aA]at h4;have q4:=ap h4.1
        cases h
        refine⟨by rw[hL.length];exact q4,nE h4.2 hL,hk _ (hm.put hX hb (ko.of fun j x hx=>?_) (by simp[sw]))⟩
        rw[sA _ _ _ _ om]at hx;simp only[ib,aF,hL.length];by_cases e:k0<=j/\j<k0+L.length
        ·rw[if_pos e]at hx;rw[if_pos e];obtain⟨a,h5,h6⟩:=hL.get hx;simp only[cL,h5,ge];exact h6
        ·rw[if_neg e]at hx;rw[if_neg e];have:=e3.get hx
         rwa [aF]at this
       ·cases h
      ·cases h
    ·cases h
   ·cases h
  ·cases h
 ·cases h
end
noncomputable section
def ES:XV->Option Nat
 | .int _ (.ofNat n)=>some n
 | _=>ac
theorem tU{φ:Ph}{x:XV}{a:AV}{n:Nat}(h:ES x=some n)(hx:ER φ x a):∃k,a=.int k (n:Int):=by
 unfold ES at h;split at h
 ·cases h;simp only[ER]at hx;exact⟨_,hx⟩
 ·cases h
def CB(t:Nat)(x i:XV):Option XV:=match ES i with
 | ac=>ac
 | some n=>match c9 t,x with
  | some e,.sl es b off len=>match ay es (bP e)&&aO n len with
   | true=>some (.ptr es b (off+n))
   | false=>ac
  | some e,.lst es L=>match ay es (bP e),L[n]? with
   | true,some y=>some (.pat es y)
   | _,_=>ac
  | ac,.ptr es b k=>match ay es 2&&ay t 195&&aO n 2 with
   | true=>some (.ptr 2 b (k+n))
   | false=>ac
  | _,_=>ac
theorem ET{φ:Ph}{t:Nat}{x i v:XV}{a c:AV}{K:AV->Prop}(h:CB t x i=some v)(hx:ER φ x a)(hi:ER φ i c)(hk:∀z,ER φ v z->K z):oi t a c K:=by
 unfold CB at h;split at h
 ·cases h
 ·rename_i n hn;obtain⟨k,rfl⟩:=tU hn hi;unfold oi;split at h
  ·rename_i e es b off len he;simp only[ER]at hx;obtain⟨b',hb,rfl⟩:=hx;split at h
   ·rename_i h2;simp only[aA]at h2
    cases h
    have h3:n<len:=by simpa using h2.2
    simp only[he];exact⟨ap h2.1,⟨om,om⟩,hk _ (by simp only[ER,fE];exact⟨b',hb,rfl⟩)⟩
   ·cases h
  ·rename_i e es L he;simp only[ER]at hx;obtain⟨g,rfl,hg⟩:=hx;split at h
   ·rename_i y h1 h2
    cases h
    have h3:n<L.length:=by
     rcases aI n L.length with h|h
     ·exact h
     ·rw[co h]at h2;cases h2
    simp only[he];refine⟨ap h1,⟨om,om⟩,hk _ ?_⟩
    simp only[ER,fE];have:=hg.get h2;rw[aF]at this;exact⟨_,rfl,this⟩
   ·cases h
  ·rename_i es b k he;simp only[ER]at hx;obtain⟨b',hb,rfl⟩:=hx;split at h
   ·rename_i h2;simp only[aA]at h2
    cases h
    have h3:n<2:=by simpa using h2.2
    simp only[he];exact⟨⟨ap h2.1.1,ap h2.1.2⟩,⟨om,om⟩,hk _ (by simp only[ER,fE];exact⟨b',hb,rfl⟩)⟩
   ·cases h
  ·cases h
def CC(t:Nat)(x:XV)(f:Nat):Option XV:=match fC t f,x with
 | some (es',k),.ptr es b i=>match ay es' es with
  | true=>some (.ptr es b (i+k))
  | false=>ac
 | _,_=>ac
theorem EU{φ:Ph}{t f:Nat}{x v:XV}{a:AV}{K:AV->Prop}(h:CC t x f=some v)(hx:ER φ x a)(hk:∀z,ER φ v z->K z):oo t a f K:=by
 unfold CC at h;split at h
 ·rename_i es' k es b i hf;simp only[ER]at hx;obtain⟨b',hb,rfl⟩:=hx;split at h
  ·rename_i h2
   cases h
   unfold oo;simp only[hf];exact⟨ap h2,hk _ (by simp only[ER];exact⟨b',hb,rfl⟩)⟩
  ·cases h
 ·cases h
def AR(t:Nat)(x y:XV)(nx:Nat)(l:EL):XR:=match c9 t,x,y with
 | some e,.int .i64 (.ofNat n),.int .i64 (.ofNat m)=>match zE e with
  | some (es,z)=>match ay n m&&ay es (bP e)&&ix n 4096 with
   | true=>ra nx l ⟨e,es,bR n z⟩ (.sl es nx 0 n)
   | false=>ac
  | ac=>ac
 | _,_,_=>ac
theorem Gj{φ:Ph}{t nx:Nat}{x y:XV}{a c:AV}{l:EL}{S:St}{r:XV×Nat×EL}{K:AV->St->Prop}(h:AR t x y nx l=some r)(hx:ER φ x a)(hy:ER φ y c)(hm:MR φ l S)(hk:XK φ r.1 r.2.2 K):jU t a c S K:=by
 unfold AR at h;split at h
 ·rename_i e n m he;simp only[ER]at hx hy;subst hx hy;split at h
  ·rename_i es z hz;split at h
   ·rename_i h2;simp only[aA]at h2;have q1:=ap h2.1.1;have q2:=ap h2.1.2;have q3:=cb h2.2;subst q1;obtain⟨z',v,h3,h4⟩:=AN hz;unfold jU;simp only[he,h3];refine⟨trivial,q2,⟨et n,by have:Int.ofNat n=(n:Int):=rfl;omega⟩,fun b hb=>?_⟩
    refine n0 h hm (ko.of fun j x hx=>?_) sm hk hb (.inr ⟨sm,sm⟩)
    have:=List.eq_of_mem_replicate (List.mem_of_getElem? hx);subst this;exact h4 φ
   ·cases h
  ·cases h
 ·cases h
def xlo:Option XV->Option Nat
 | ac=>some 0
 | some x=>ES x
def xhi(len:Nat):Option XV->Option Nat
 | ac=>some len
 | some x=>ES x
def xmx(len h:Nat)(hi:Option XV):Option XV->Bool
 | ac=>true
 | some x=>match ES x with
  | some a=>ix h a&&ix a len&&hi.isSome
  | ac=>false
def qP(len:Nat)(lo hi mx:Option XV):Option (Nat×Nat):=match xlo lo,xhi len hi with
 | some a,some h=>match xmx len h hi mx&&ix a h&&ix h len with
  | true=>some (a,h)
  | false=>ac
 | _,_=>ac
def Mz(φ:Ph):Option XV->Option AV->Prop
 | ac,ac=>True
 | some x,some a=>ER φ x a
 | _,_=>False
theorem qt{φ:Ph}{len:Nat}{lo hi mx:Option XV}{lo' hi' mx':Option AV}{p:Nat×Nat}{K:Nat->Nat->Prop}(h:qP len lo hi mx=some p)(h1:Mz φ lo lo')(h2:Mz φ hi hi')(h3:Mz φ mx mx')(hk:p.1<=p.2->p.2<=len->K p.1 p.2):rP len lo' hi' mx' K:=by
 unfold qP at h;split at h
 ·rename_i a b ha hb;split at h
  ·rename_i hc
   cases h
   simp only[aA]at hc;have q1:=cb hc.1.2;have q2:=cb hc.2;refine⟨a,b,?_,?_,?_,q1,q2,hk q1 q2⟩
   ·match lo,lo',h1 with
    | ac,ac,_=>simp only[xlo]at ha;cases ha;rfl
    | some x,some a',h1 =>
     simp only[xlo]at ha;obtain⟨k,rfl⟩:=tU ha h1;rfl
   ·match hi,hi',h2 with
    | ac,ac,_=>simp only[xhi]at hb;cases hb;rfl
    | some x,some a',h2 =>
     simp only[xhi]at hb;obtain⟨k,rfl⟩:=tU hb h2;rfl
   ·match mx,mx',h3 with
    | ac,ac,_=>trivial
    | some x,some a',h3 =>
     have hx:=hc.1.1;simp only[xmx]at hx;split at hx
     ·rename_i c hcx;simp only[aA]at hx;obtain⟨k,rfl⟩:=tU hcx h3;have q3:=cb hx.1.1;have q4:=cb hx.1.2;refine⟨om,om,?_⟩
      match hi,hi',h2,hx.2 with
      | some _,some _,_,_=>rfl
     ·cases hx
  ·cases h
 ·cases h
def Cy(t:Nat)(x:XV)(lo hi mx:Option XV):Option XV:=match c9 t,x with
 | some e,.sl es b off len=>match ay es (bP e),qP len lo hi mx with
  | true,some (a,h)=>match ay a 0||aO a h with
   | true=>some (.sl es b (off+a) (h-a))
   | false=>some (.lst es [])
  | _,_=>ac
 | some e,.lst es L=>match ay es (bP e),qP L.length lo hi mx with
  | true,some (a,h)=>some (.lst es ((L.drop a).take (h-a)))
  | _,_=>ac
 | some _,.nil=>match qP 0 lo hi mx with
  | some _=>some .nil
  | ac=>ac
 | _,_=>ac
theorem EP{φ:Ph}{t:Nat}{x v:XV}{a:AV}{lo hi mx:Option XV}{lo' hi' mx':Option AV}{K:AV->Prop}(h:Cy t x lo hi mx=some v)(hx:ER φ x a)(h1:Mz φ lo lo')(h2:Mz φ hi hi')(h3:Mz φ mx mx')(hk:∀z,ER φ v z->K z):jR t a lo' hi' mx' K:=by
 unfold Cy at h;unfold jR;split at h
 ·rename_i e es b off len he;simp only[ER]at hx;obtain⟨b',hb,rfl⟩:=hx;simp only[he];split at h
  ·rename_i a hh q1 q2;refine⟨ap q1,qt q2 h1 h2 h3 fun p1 p2=>?_⟩;simp only
   cases q3:(ay a 0||aO a hh)with
   | true =>
    rw[q3]at h
    cases h
    have:a=0∨a<hh:=by
     simp only[dj]at q3;rcases q3 with q|q
     ·exact .inl (ap q)
     ·exact .inr (by simpa using q)
    rw[if_pos this];exact hk _ (by simp only[ER];exact⟨b',hb,rfl⟩)
   | false =>
    rw[q3]at h
    cases h
    have:¬(a=0∨a<hh):=by
     rintro (q|q)
     ·subst q;simp at q3
     ·have q4:aO a hh=true:=by simpa using q
      rw[q4]at q3;simp at q3
    rw[if_neg this];exact hk _ (by simp only[ER];exact⟨_,rfl,by simp[ko]⟩)
  ·cases h
 ·rename_i e es L he;simp only[ER]at hx;obtain⟨g,rfl,hg⟩:=hx;simp only[he];split at h
  ·rename_i a hh q1 q2
   cases h
   refine⟨ap q1,qt q2 h1 h2 h3 fun p1 p2=>?_⟩;simp only at p1 p2 ⊢;refine hk _ ?_;simp only[ER];have el:((L.drop a).take (hh-a)).length=hh-a:=by simp;omega
   refine⟨_,by rw[el],ko.of fun j x hx=>?_⟩
   have hj:j<hh-a:=by
    rcases aI j (hh-a)with q|q
    ·exact q
    ·rw[co om]at hx;cases hx
   rw[fI hj,lF]at hx;have:=hg.get hx;rw[aF]at this ⊢;exact this
  ·cases h
 ·rename_i e he;simp only[ER]at hx;subst hx;simp only[he];split at h
  ·rename_i p q2
   cases h
   exact qt q2 h1 h2 h3 fun _ _=>hk _ (by simp[ER])
  ·cases h
 ·cases h
def Ln(t:Nat)(x:XV):Option XV:=match c9 t,x with
 | some _,.sl _ _ _ len=>some (.int .i64 len)
 | some _,.lst _ L=>some (.int .i64 L.length)
 | some _,.nil=>some (.int .i64 0)
 | _,_=>ac
theorem IN{φ:Ph}{t:Nat}{x v:XV}{a:AV}{K:AV->Prop}(h:Ln t x=some v)(hx:ER φ x a)(hk:∀z,ER φ v z->K z):Am t a K:=by
 unfold Ln at h;unfold Am;split at h
 ·rename_i e es b off len he;simp only[ER]at hx;obtain⟨b',hb,rfl⟩:=hx
  cases h;simp only[he];exact hk _ (by simp[ER])
 ·rename_i e es L he;simp only[ER]at hx;obtain⟨g,rfl,hg⟩:=hx
  cases h;simp only[he];exact hk _ (by simp[ER])
 ·rename_i e he;simp only[ER]at hx;subst hx
  cases h;simp only[he];exact hk _ (by simp[ER])
 ·cases h
def IR(l:EL):XV->Option (Nat×List XV×Option Nat)
 | .sl es i off len=>match dM l i with
  | some (some X)=>match ay X.es es&&ix (off+len) X.l.length with
   | true=>some (es,(X.l.drop off).take len,some i)
   | false=>ac
  | _=>ac
 | .lst es L=>some (es,L,ac)
 | _=>ac
theorem DR{φ:Ph}{l:EL}{S:St}{x:XV}{a:AV}{es:Nat}{L:List XV}{o:Option Nat}(h:IR l x=some (es,L,o))(hx:ER φ x a)(hm:MR φ l S):∃g o',wZ S a=some (es,L.length,g,o')/\ko φ L g 0/\∀b,o'=some b->∃i X,o=some i/\φ i=some b/\dM l i=some (some X):=by
 unfold IR at h;split at h
 ·rename_i es' i off len;simp only[ER]at hx;obtain⟨b,hb,rfl⟩:=hx;split at h
  ·rename_i X hX;obtain⟨b',g,e1,e2,e3⟩:=hm.live i X hX;rw[hb]at e1;cases e1;split at h
   ·rename_i h2;simp only[aA]at h2;have q1:=ap h2.1;have q2:=cb h2.2
    cases h
    have el:((X.l.drop off).take len).length=len:=by simp;omega
    refine⟨_,_,by simp only[wZ,e2,da];rw[if_pos ⟨q1,q2⟩,el],ko.of fun j x hx=>?_,fun b2 h2=>by cases h2;exact⟨i,X,rfl,hb,hX⟩⟩
    have hj:j<len:=by
     rcases aI j len with q|q
     ·exact q
     ·rw[co om]at hx;cases hx
    rw[fI hj,lF]at hx;have:=e3.get hx;rw[aF]at this ⊢;exact this
   ·cases h
  ·cases h
 ·rename_i es' L';simp only[ER]at hx;obtain⟨g,rfl,hg⟩:=hx
  cases h
  exact⟨g,ac,rfl,hg,fun b h=>by cases h⟩
 ·cases h
def ze(t t':Nat)(s x:XV)(nx:Nat)(l:EL):XR:=match c9 t,IR l x with
 | some e,some (es,L,o)=>match ay t t'&&(zE e).isSome&&ay es (bP e)&&aO 0 L.length&&l9 es L&&ix L.length 1000 with
  | true=>match s with
   | .nil=>ra nx l ⟨e,es,L⟩ (.sl es nx 0 L.length)
   | .sl es' i off len=>match dM l i,dM l nx with
    | some (some X),ac=>match ay es' es&&ay off 0&&ay X.ty e&&ay X.es es&&ay X.l.length len&&ix len 1000&&(match o with
      | some j=>!ay j i
      | ac=>true)with
     | true=>some (.sl es nx 0 (len+L.length),nx+1,qj (qj l i ac) nx (some ⟨e,es,X.l++L⟩))
     | false=>ac
    | _,_=>ac
   | _=>ac
  | false=>ac
 | _,_=>ac
theorem CF{φ:Ph}{t t' nx:Nat}{s x:XV}{a c:AV}{l:EL}{S:St}{r:XV×Nat×EL}{K:AV->St->Prop}(h:ze t t' s x nx l=some r)(hs:ER φ s a)(hx:ER φ x c)(hm:MR φ l S)(hk:XK φ r.1 r.2.2 K):eV t t' a c S K:=by
 unfold ze at h;split at h
 ·rename_i e es L o he hels;obtain⟨g,o',q1,q2,q3⟩:=DR hels hx hm;split at h
  ·rename_i h2;simp only[aA]at h2;obtain⟨⟨⟨⟨⟨p1,p2⟩,p3⟩,p4⟩,p5⟩,p6⟩:=h2;have p1:=ap p1;have p3:=ap p3;have p4:0<L.length:=by simpa using p4
   have p6:=cb p6;have hz:(fD e).isSome=true:=by
    cases hz:zE e with
    | none=>rw[hz]at p2;cases p2
    | some y =>
     obtain⟨a,v,h3,_⟩:=AN (t:=e) (es:=y.1) (x:=y.2) hz;rw[h3];rfl
   unfold eV;simp only[he,q1];refine⟨p1,hz,p3,p4,fun j hj=>by have:=sJ p5 q2 j hj;rwa [aF]at this,?_⟩
   split at h
   ·simp only[ER]at hs;subst hs;exact⟨om,fun b hb=>n0 h hm q2 rfl hk hb (.inr ⟨rfl,rfl⟩)⟩
   ·rename_i es' i off len;simp only[ER]at hs;obtain⟨b,hb,rfl⟩:=hs;split at h
    ·rename_i X hX hnx;obtain⟨b',g',e1,e2,e3⟩:=hm.live i X hX;rw[hb]at e1;cases e1;split at h
     ·rename_i h4
      cases h
      simp only[aA]at h4;obtain⟨⟨⟨⟨⟨⟨s1,s2⟩,s3⟩,s4⟩,s5⟩,s6⟩,s7⟩:=h4;have s1:=ap s1;have s2:=ap s2;have s3:=ap s3;have s4:=ap s4;have s5:=ap s5;have s6:=cb s6;simp only[e2];refine⟨s1,s2,s3,s4,s5,om,fun eo=>?_,fun b2 hb2=>?_⟩
      ·obtain⟨j,Y,j1,j2,j3⟩:=q3 _ eo;subst j1;have:=hm.inj j i Y X b j3 hX j2 hb;subst this;simp at s7
      ·have hl:len+L.length=(X.l++L).length:=by simp;omega
       have hG:ko φ (X.l++L) (lP g' len L.length g) 0:=ko.of fun j x hx=>by
        rw[aF];unfold lP;by_cases hj:j<len
        ·rw[eh om]at hx;have:=e3.get hx;rw[aF]at this;split
         ·simp only[bJ];rw[if_neg om];exact this
         ·simp only[if_pos hj];exact this
        ·rw[dV om,s5]at hx;have:=q2.get hx;rw[aF]at this;split
         ·rename_i h1;have hj2:j-len<L.length:=by
           rcases aI (j-len) L.length with q|q
           ·exact q
           ·rw[co q]at hx;cases hx
          simp only[bJ];rw[if_pos om]
          rwa [(om:j-len=0)]at this
         ·simp only[if_neg hj];exact this
       obtain⟨h5,h6⟩:=hm.move hX hb hnx hb2 (ty:=e) (es:=es) hG hl;refine hk _ _ _ h5 ?_ h6;simp only[ER];exact⟨b2,by unfold Ph.set;rw[if_pos rfl],rfl⟩
     ·cases h
    ·cases h
   ·cases h
  ·cases h
 ·cases h
theorem ko.app{φ:Ph}{A L:List XV}{g' g:Nat->AV}{len:Nat}(e3:ko φ A g' 0)(s5:A.length=len)(q2:ko φ L g 0):ko φ (A++L) (lP g' len L.length g) 0:=ko.of fun j x hx=>by
 rw[aF];unfold lP;by_cases hj:j<len
 ·rw[eh om]at hx;have:=e3.get hx;rw[aF]at this;split
  ·simp only[bJ];rw[if_neg om];exact this
  ·simp only[if_pos hj];exact this
 ·rw[dV om,s5]at hx;have:=q2.get hx;rw[aF]at this;split
  ·rename_i h1;have hj2:j-len<L.length:=by
    rcases aI (j-len) L.length with q|q
    ·exact q
    ·rw[co q]at hx;cases hx
   simp only[bJ];rw[if_pos om]
   rwa [(om:j-len=0)]at this
  ·simp only[if_neg hj];exact this
def uD(t:Nat)(s x:XV)(nx:Nat)(l:EL):XR:=match s,x with
 | .sl es i off len,.int _ (.ofNat m)=>(match c9 t,dM l i,dM l nx with
  | some e,some (some X),ac=>(match zE e with
   | some (es',z)=>(match ay es' es&&ay es (bP e)&&ay off 0&&ay X.ty e&&ay X.es es&&ay X.l.length len&&ix 1 m&&ix (len+m) 1048576 with
    | true=>some (.sl es nx 0 (len+m),nx+1,qj (qj l i ac) nx (some ⟨e,es,X.l++bR m z⟩))
    | false=>ac)
   | ac=>ac)
  | _,_,_=>ac)
 | _,_=>ac
theorem A8{φ:Ph}{t nx:Nat}{s x:XV}{a c:AV}{l:EL}{S:St}{r:XV×Nat×EL}{K:AV->St->Prop}(h:uD t s x nx l=some r)(hs:ER φ s a)(hx:ER φ x c)(hm:MR φ l S)(hk:XK φ r.1 r.2.2 K):mi t a c S K:=by
 unfold uD at h;split at h
 ·rename_i es i off len k m;simp only[ER]at hs hx;obtain⟨b,hb,rfl⟩:=hs;subst hx;split at h
  ·rename_i e X he hX hnx;obtain⟨b',g',e1,e2,e3⟩:=hm.live i X hX;rw[hb]at e1;cases e1;split at h
   ·rename_i es' z hz;obtain⟨av,v,z1,z2⟩:=AN hz;split at h
    ·rename_i h4
     cases h
     simp only[aA]at h4;obtain⟨⟨⟨⟨⟨⟨⟨s1,s2⟩,s3⟩,s4⟩,s5⟩,s6⟩,s7⟩,s8⟩:=h4;unfold mi;simp only[he,e2,z1];have s5:=ap s5;refine⟨ap s1,ap s2,ap s3,ap s4,s5,ap s6,cb s7,cb s8,fun b2 hb2=>?_⟩;have hl:len+m=(X.l++bR m z).length:=by
      have:=ap s6;simp;omega
     have hR:ko φ (bR m z) (fun _=>av) 0:=ko.of fun j y hy=>by
      rw[List.getElem?_replicate]at hy;split at hy
      ·cases hy;exact z2 φ
      ·cases hy
     have hG:=ko.app e3 (ap s6) hR;rw[List.length_replicate]at hG;obtain⟨h5,h6⟩:=hm.move hX hb hnx hb2 (ty:=e) (es:=es) hG hl;refine hk _ _ _ h5 ?_ h6;simp only[ER];exact⟨b2,by unfold Ph.set;rw[if_pos rfl],rfl⟩
    ·cases h
   ·cases h
  ·cases h
 ·cases h
def Gr(t:Nat)(d s:XV)(l:EL):Option (XV×EL):=match c9 t,d with
 | some e,.sl es i off len=>match dM l i,IR l s with
  | some (some X),some (es',L,_)=>match ay es (bP e)&&ay es' es&&ay X.es es&&ix (off+len) X.l.length&&ay L.length len&&aO 0 L.length&&l9 es L with
   | true=>some (.int .i64 len,qj l i (some ⟨X.ty,X.es,tu X.l off L⟩))
   | false=>ac
  | _,_=>ac
 | _,_=>ac
theorem Gq{φ:Ph}{t:Nat}{d s v:XV}{a c:AV}{l l':EL}{S:St}{K:AV->St->Prop}(h:Gr t d s l=some (v,l'))(hd:ER φ d a)(hs:ER φ s c)(hm:MR φ l S)(hk:XK φ v l' K):qm t a c S K:=by
 unfold Gr at h;split at h
 ·rename_i e es i off len he;simp only[ER]at hd;obtain⟨b,hb,rfl⟩:=hd;split at h
  ·rename_i X es' L o hX hels;obtain⟨g,o',q1,q2,q3⟩:=DR hels hs hm;obtain⟨b',g',e1,e2,e3⟩:=hm.live i X hX;rw[hb]at e1;cases e1;split at h
   ·rename_i h2
    cases h
    simp only[aA]at h2;obtain⟨⟨⟨⟨⟨⟨p1,p2⟩,p3⟩,p4⟩,p5⟩,p6⟩,p7⟩:=h2;have p1:=ap p1;have p2:=ap p2;have p3:=ap p3;have p4:=cb p4;have p5:=ap p5;have p6:0<L.length:=by simpa using p6
    unfold qm;simp only[he,e2,q1];refine⟨p1,p2,p3,p4,p5,p6,fun j hj=>by have:=sJ p7 q2 j hj;rwa [aF]at this,?_⟩
    refine hk _ _ _ (Ph.le_refl _) (by simp[ER]) (hm.put hX hb (ko.of fun j x hx=>?_) (by simp[sw]))
    rw[sA _ _ _ _ om]at hx;simp only[aF];by_cases e:off<=j/\j<off+L.length
    ·rw[if_pos e]at hx;rw[if_pos om];have:=q2.get hx
     rwa [aF]at this
    ·rw[if_neg e]at hx;rw[if_neg om];have:=e3.get hx
     rwa [aF]at this
   ·cases h
  ·cases h
 ·cases h
def xint(k:IntKind)(op:BinOp)(a b:Int):Option XV:=match op with
 | .add=>some (.int k (k.wrap (a+b)))
 | .sub=>some (.int k (k.wrap (a-b)))
 | .mul=>some (.int k (k.wrap (a*b)))
 | .quo=>if b=0 then ac else some (.int k (k.wrap (a.tdiv b)))
 | .rem=>if b=0 then ac else some (.int k (a.tmod b))
 | .eql=>some (.bool (a==b))
 | .neq=>some (.bool (a != b))
 | .lss=>some (.bool (decide (a<b)))
 | .leq=>some (.bool (decide (a<=b)))
 | .gtr=>some (.bool (decide (b<a)))
 | .geq=>some (.bool (decide (b<=a)))
 | _=>ac
def Ls(op:BinOp)(t:Nat)(x y:XV):Option XV:=match x,y with
 | .int k a,.int k' b=>if k=k' then xint k op a b else ac
 | .bool a,.bool b=>match ay t 4 with
  | true=>(match op with
   | .eql=>some (.bool (a==b))
   | .neq=>some (.bool (a != b))
   | _=>ac)
  | false=>ac
 | .sl _ _ _ _,.nil=>match op,ay t 29 with
  | .eql,true=>some (.bool false)
  | _,_=>ac
 | .lst _ L,.nil=>match op,ay t 29&&aO 0 L.length with
  | .eql,true=>some (.bool false)
  | _,_=>ac
 | .nil,.nil=>match op,ay t 29 with
  | .eql,true=>some (.bool true)
  | _,_=>ac
 | _,_=>ac
theorem IT{φ:Ph}{op:BinOp}{t:Nat}{x y v:XV}{a c:AV}{K:AV->Prop}(h:Ls op t x y=some v)(hx:ER φ x a)(hy:ER φ y c)(hk:∀z,ER φ v z->K z):Ce op t a c K:=by
 unfold Ls at h;split at h
 ·simp only[ER]at hx hy;subst hx hy;split at h
  ·rename_i hkk;subst hkk;refine⟨rfl,?_⟩;unfold xint at h;split at h<;>first
    | cases h;done
    | (cases h;exact hk _ (by simp[ER]))
    | (split at h
       ·cases h
       ·rename_i h0;cases h;exact⟨h0,hk _ (by simp[ER])⟩)
  ·cases h
 ·simp only[ER]at hx hy;subst hx hy;split at h
  ·rename_i ht;refine⟨ap ht,?_⟩;split at h<;>first
    | cases h;done
    | (cases h;exact hk _ (by simp[ER]))
  ·cases h
 ·simp only[ER]at hx hy;obtain⟨b,_,rfl⟩:=hx;subst hy;split at h
  ·rename_i ht
   cases h
   exact⟨⟨ap ht,rfl⟩,hk _ (by simp[ER])⟩
  ·cases h
 ·simp only[ER]at hx hy;obtain⟨g,rfl,_⟩:=hx;subst hy;split at h
  ·rename_i ht
   cases h
   simp only[aA]at ht;exact⟨⟨ap ht.1,rfl,by simpa using ht.2⟩,hk _ (by simp[ER])⟩
  ·cases h
 ·simp only[ER]at hx hy;subst hx hy;split at h
  ·rename_i ht
   cases h
   exact⟨⟨ap ht,rfl⟩,hk _ (by simp[ER])⟩
  ·cases h
 ·cases h
end
noncomputable section
def xun(op:UnOp)(x:XV):Option XV:=match op,x with
 | .neg,.int k n=>some (.int k (k.wrap (0-n)))
 | .not,.bool b=>some (.bool (!b))
 | _,_=>ac
theorem Lm{φ:Ph}{op:UnOp}{x v:XV}{a:AV}{K:AV->Prop}(h:xun op x=some v)(hx:ER φ x a)(hk:∀z,ER φ v z->K z):K5 op a K:=by
 unfold xun at h;split at h
 ·simp only[ER]at hx;subst hx;cases h;exact hk _ (by simp[ER])
 ·simp only[ER]at hx;subst hx;cases h;exact hk _ (by simp[ER])
 ·cases h
def Gt(s d:Nat)(x:XV):Option XV:=match rc d,x with
 | some k,.int _ n=>match xm s with
  | true=>some (.int k (k.wrap n))
  | false=>ac
 | _,_=>ac
theorem Gs{φ:Ph}{s d:Nat}{x v:XV}{a:AV}{K:AV->Prop}(h:Gt s d x=some v)(hx:ER φ x a)(hk:∀z,ER φ v z->K z):rK s d a K:=by
 unfold Gt at h;split at h
 ·rename_i k k' n hkd;simp only[ER]at hx;subst hx;split at h
  ·rename_i hs
   cases h
   unfold rK;simp only[hkd];exact⟨hs,hk _ (by simp[ER])⟩
  ·cases h
 ·cases h
def CD(t:Nat)(ps:List (Nat×XV)):Option XV:=match t,ps with
 | 50,[]=>some (.big 0)
 | 167,[(0,x),(1,y)]=>if ma 2 x&&ma 2 y then some (.agg [x,y])else ac
 | 195,[(0,x),(1,y)]=>if ma 2 x&&ma 2 y then some (.agg [x,y])else ac
 | 183,[(0,x),(1,y)]=>if ma 1 x&&ma 1 y then some (.agg [x,y])else ac
 | 218,[(0,x),(1,y)]=>if ma 1 x&&ma 1 y then some (.agg [x,y])else ac
 | 202,[(0,x),(1,y)]=>if ma 1 x&&ma 1 y then some (.agg [x,y])else ac
 | 160,[(0,x),(1,y)]=>if ma 1 x&&ma 1 y then some (.agg [x,y,.nil,.nfn])else ac
 | 238,[(0,x),(1,y),(2,z)]=>if ma 1 x&&ma 1 y&&ma 1 z then some (.agg [x,y,z])else ac
 | 197,[(0,x),(1,y),(2,z),(3,.agg [p,q]),(4,.agg [r,s])]=>if l9 2 [x,y,z,p,q,r,s]then some (.agg [x,y,z,p,q,r,s])else ac
 | _,_=>ac
def Iv(φ:Ph):List (Nat×XV)->List (Nat×AV)->Prop
 | [],[]=>True
 | p::l,q::r=>p.1=q.1/\ER φ p.2 q.2/\Iv φ l r
 | _,_=>False
theorem EW{φ:Ph}{t:Nat}{ps:List (Nat×XV)}{qs:List (Nat×AV)}{v:XV}{K:AV->Prop}(h:CD t ps=some v)(hp:Iv φ ps qs)(hk:∀z,ER φ v z->K z):pr t qs K:=by
 have two:∀{x y:XV} {qs:List (Nat×AV)},Iv φ [(0,x),(1,y)] qs->∃a b,qs=[(0,a),(1,b)]/\ER φ x a/\ER φ y b:=by
  intro x y qs hp
  match qs,hp with
  | [(i,a),(j,b)],hp =>
   simp only[Iv]at hp;obtain⟨rfl,ha,rfl,hb,_⟩:=hp;exact⟨a,b,rfl,ha,hb⟩
  | [],hp=>exact hp.elim
  | [_],hp=>exact hp.2.2.elim
  | _::_::_::_,hp=>exact hp.2.2.2.2.elim
 unfold CD at h;split at h
 ·match qs,hp with
  | [],_=>cases h;exact hk _ (by simp[ER])
 all_goals first
  | (rename_i x y
     obtain⟨a,b,rfl,ha,hb⟩:=two hp;split at h
     ·rename_i h2;simp only[aA]at h2
      cases h
      refine⟨jZ h2.1 ha,jZ h2.2 hb,hk _ ?_⟩;simp only[ER];refine⟨_,rfl,?_⟩;simp only[eD,ER];simp[ha,hb]
     ·cases h)
  | (rename_i x y z
     split at h
     ·rename_i h2;simp only[aA]at h2
      cases h
      match qs,hp with
      | [(i1,a),(i2,b),(i3,c)],hp =>
       simp only[Iv]at hp;obtain⟨rfl,ha,rfl,hb,rfl,hc,_⟩:=hp;refine⟨jZ h2.1.1 ha,jZ h2.1.2 hb,jZ h2.2 hc,hk _ ?_⟩;simp only[ER];refine⟨_,rfl,?_⟩;simp only[eD];exact⟨ha,hb,hc,trivial⟩
      | [],hp=>exact hp.elim
      | [_],hp=>exact hp.2.2.elim
      | [_,_],hp=>exact hp.2.2.2.2.elim
      | _::_::_::_::_,hp=>exact hp.2.2.2.2.2.2.elim
     ·cases h)
  | (rename_i x y z p q r s
     split at h
     ·rename_i h2
      cases h
      match qs,hp with
      | [(i1,a),(i2,b),(i3,c),(i4,d),(i5,e)],hp =>
       simp only[Iv]at hp;obtain⟨rfl,ha,rfl,hb,rfl,hc,rfl,hd,rfl,he,_⟩:=hp;simp only[ER]at hd he;obtain⟨R,rfl,hR⟩:=hd;obtain⟨R',rfl,hR'⟩:=he
       match R,R',hR,hR' with
       | [p',q'],[r',s'],hR,hR' =>
        simp only[eD]at hR hR';have hL:eD φ [x,y,z,p,q,r,s] [a,b,c,p',q',r',s']:=by
         simp only[eD];exact⟨ha,hb,hc,hR.1,hR.2.1,hR'.1,hR'.2.1,trivial⟩
        have hS:=nE h2 hL;refine⟨hS _ sm,hS _ sm,hS _ sm,hS _ sm,hS _ sm,hS _ sm,hS _ sm,hk _ ?_⟩
        simp only[ER];exact⟨_,rfl,hL⟩
       | [],_,hR,_=>simp[eD]at hR
       | [_],_,hR,_=>simp[eD]at hR
       | _::_::_::_,_,hR,_=>simp[eD]at hR
       | [_,_],[],_,hR=>simp[eD]at hR
       | [_,_],[_],_,hR=>simp[eD]at hR
       | [_,_],_::_::_::_,_,hR=>simp[eD]at hR
      | [],hp=>exact hp.elim
      | [_],hp=>exact hp.2.2.elim
      | [_,_],hp=>exact hp.2.2.2.2.elim
      | [_,_,_],hp=>exact hp.2.2.2.2.2.2.elim
      | [_,_,_,_],hp=>exact hp.2.2.2.2.2.2.2.2.elim
      | _::_::_::_::_::_::_,hp=>exact hp.2.2.2.2.2.2.2.2.2.2.elim
     ·cases h)
  | cases h
def o7:Nat->List (Nat×XV)->Bool
 | _,[]=>true
 | k,p::l=>ay p.1 k&&o7 (k+1) l
theorem tB{φ:Ph}:∀{ps:List (Nat×XV)} {qs:List (Nat×AV)} {k:Nat},o7 k ps=true->Iv φ ps qs->qs=dY k (qs.map (·.2))/\eD φ (ps.map (·.2)) (qs.map (·.2))/\qs.length=ps.length
 | [],[],k,_,_=>⟨rfl,by simp[eD],rfl⟩
 | p::l,q::r,k,h,hp=>by
  simp only[o7,aA]at h;simp only[Iv]at hp;obtain⟨h1,h2,h3⟩:=tB h.2 hp.2.2;have e:=ap h.1;refine⟨?_,by simp only[cq,eD];exact⟨hp.2.1,h2⟩,by simp[h3]⟩
  simp only[cq,dY,r7.injEq];refine⟨?_,h1⟩;obtain⟨i,a⟩:=q;simp only at hp ⊢;rw[<-hp.1,e]
 | [],_::_,_,_,hp=>hp.elim
 | _::_,[],_,_,hp=>hp.elim
def lj(t n:Nat)(ps:List (Nat×XV))(nx:Nat)(l:EL):XR:=match c9 t with
 | some e=>match o7 0 ps&&ay ps.length n&&ix n 16&&(zE e).isSome&&l9 (bP e) (ps.map (·.2))with
  | true=>ra nx l ⟨e,bP e,ps.map (·.2)⟩ (.sl (bP e) nx 0 n)
  | false=>ac
 | ac=>ac
theorem uC{φ:Ph}{t n nx:Nat}{ps:List (Nat×XV)}{qs:List (Nat×AV)}{l:EL}{S:St}{r:XV×Nat×EL}{K:AV->St->Prop}(h:lj t n ps nx l=some r)(hp:Iv φ ps qs)(hm:MR φ l S)(hk:XK φ r.1 r.2.2 K):cW t n qs S K:=by
 unfold lj at h;split at h
 ·rename_i e he;split at h
  ·rename_i h2;simp only[aA]at h2;obtain⟨⟨⟨⟨p1,p2⟩,p3⟩,p4⟩,p5⟩:=h2;obtain⟨q1,q2,q3⟩:=tB p1 hp;have p2:=ap p2;have hz:(fD e).isSome=true:=by
    cases hz:zE e with
    | none=>rw[hz]at p4;cases p4
    | some y =>
     obtain⟨a,v,h3,_⟩:=AN (t:=e) (es:=y.1) (x:=y.2) hz;rw[h3];rfl
   unfold cW;simp only[he];refine⟨q1,om,cb p3,hz,fun p hp=>nE p5 q2 p.2 (List.mem_map_of_mem hp),fun b hb=>?_⟩
   exact n0 h hm q2.toG (by simp;omega) hk hb (.inr ⟨rfl,rfl⟩)
  ·cases h
 ·cases h
def Lo(t:Nat)(x i:XV):Option XV:=match x,i with
 | .agg [p,q],.int _ n=>if t=195/\(n=0∨n=1)then(if ma 2 p&&ma 2 q then some (if n=0 then p else q)else ac)else ac
 | .agg [p,q,r],.int _ (.ofNat n)=>(match ay t 238&&aO n 3&&l9 1 [p,q,r]with
  | true=>[p,q,r][n]?
  | false=>ac)
 | _,_=>ac
theorem zq9{φ:Ph}{t:Nat}{x i v:XV}{a c:AV}{K:AV->Prop}(h:Lo t x i=some v)(hx:ER φ x a)(hi:ER φ i c)(hk:∀z,ER φ v z->K z):An t a c K:=by
 unfold Lo at h;split at h
 ·rename_i p q k n;simp only[ER]at hx hi;subst hi;obtain⟨R,rfl,hR⟩:=hx;split at h
  ·rename_i h1;split at h
   ·rename_i h2;simp only[aA]at h2
    cases h
    match R,hR with
    | [p',q'],hR =>
     simp only[eD]at hR;refine bQ ⟨h1.1,p',q',rfl,jZ h2.1 hR.1,jZ h2.2 hR.2.1,h1.2,hk _ ?_⟩;split
     ·exact hR.1
     ·exact hR.2.1
    | [],hR=>simp[eD]at hR
    | [_],hR=>simp[eD]at hR
    | _::_::_::_,hR=>simp[eD]at hR
   ·cases h
  ·cases h
 ·rename_i p q r k n;simp only[ER]at hx hi;subst hi;obtain⟨R,rfl,hR⟩:=hx;split at h
  ·rename_i h2;simp only[aA,pA]at h2;obtain⟨⟨h3,h4⟩,h5⟩:=h2;have h3:=ap h3;obtain⟨a,h6,h7⟩:=hR.get h;have hl:=hR.length;refine bH ⟨bQ ⟨h3,hl⟩,nE h5 hR,⟨et n,by rw[hl];exact Int.ofNat_lt.2 h4⟩,?_⟩
   have:R.getD (Int.toNat (Int.ofNat n)) .any=a:=by
    rw[ir];show(R[n]?).getD .any=a;rw[h6];rfl
   rw[this];exact hk a h7
  ·cases h
 ·cases h
def GP(φ:Ph):Prop:=φ 0=some 0
theorem GP.mono{φ ψ:Ph}(h:GP φ)(hle:φ.le ψ):GP ψ:=hle _ _ h
def kY(call:dC):Prop:=∀f args nx l r,call f args nx l=some r->∀φ as' S K,GP φ->eD φ args as'->MR φ l S->XK φ r.1 r.2.2 K ->
 ((11<=f/\f<270)/\f≠252/\f≠253)/\cS f as' S K
def l0(b:Builtin)(args:List XV)(ts:List Nat)(nx:Nat)(l:EL):XR:=match b,args,ts with
 | .len,[x],[t]=>(Ln t x).map fun v=>(v,nx,l)
 | .max,[.int k a,.int k' c],_=>if k=k' then some (.int k (if c > a then c else a),nx,l)else ac
 | .append,[s,x],[t,t']=>(match ay t' 3 with
  | true=>uD t s x nx l
  | false=>ze t t' s x nx l)
 | .copy,[s,x],[t,_]=>(Gr t s x l).map fun p=>(p.1,nx,p.2)
 | _,_,_=>ac
def xT(call:dC)(o:Oper)(te:TE)(nx:Nat)(l:EL):XR:=match o.op with
 | .move x=>some (jK te x,nx,l)
 | .assign x=>some (jK te x,nx,l)
 | .pick c x y=>match jK te c with
  | .bool t=>some (if t then jK te x else jK te y,nx,l)
  | _=>ac
 | .alloc t=>uE t nx l
 | .box t x=>Gv t (jK te x) nx l
 | .build t ps=>(CD t (ps.toList.map fun p=>(p.1,jK te p.2))).map fun v=>(v,nx,l)
 | .buildSlice t n ps=>lj t n (ps.toList.map fun p=>(p.1,jK te p.2)) nx l
 | .load t x=>(tf t (jK te x) l).map fun v=>(v,nx,l)
 | .store t x y=>(Cx t (jK te x) (jK te y) l).map fun l'=>(.any,nx,l')
 | .nilCheck x=>match jK te x with
  | .ptr es b i=>some (.ptr es b i,nx,l)
  | .pat es y=>some (.pat es y,nx,l)
  | _=>ac
 | .binOp op t x y _=>(Ls op t (jK te x) (jK te y)).map fun v=>(v,nx,l)
 | .unOp op _ x=>(xun op (jK te x)).map fun v=>(v,nx,l)
 | .convert s d x=>(Gt s d (jK te x)).map fun v=>(v,nx,l)
 | .makeFunc (.func f) fi cs=>match fi.toList,cs.toList with
  | [],L=>some (.fn f (L.map (jK te)),nx,l)
  | x::L,[]=>some (.mfn f ((x::L).map (jK te)),nx,l)
  | _,_=>ac
 | .makeSlice t x y=>AR t (jK te x) (jK te y) nx l
 | .slice t x lo hi mx=>(Cy t (jK te x) (lo.map (jK te)) (hi.map (jK te)) (mx.map (jK te))).map fun v=>(v,nx,l)
 | .fieldAddr t x f=>(CC t (jK te x) f).map fun v=>(v,nx,l)
 | .indexAddr t x i=>(CB t (jK te x) (jK te i)).map fun v=>(v,nx,l)
 | .index t x i=>(Lo t (jK te x) (jK te i)).map fun v=>(v,nx,l)
 | .extract x i=>match jK te x with
  | .tup L=>(L[i]?).map fun v=>(v,nx,l)
  | _=>ac
 | .call c=>match c.callee with
  | .value f=>match jK te f with
   | .fn g cs=>call g (c.args.toList.map (jK te)++cs) nx l
   | .mfn g cs=>call g (cs++c.args.toList.map (jK te)) nx l
   | _=>ac
  | .builtin b=>l0 b (c.args.toList.map (jK te)) c.argTypes.toList nx l
  | _=>ac
 | _=>ac
theorem TR.evP{φ:Ph}{te:TE}{O:Tm}(h:TR φ te O):∀ps:List (Nat×Operand),Iv φ (ps.map fun p=>(p.1,jK te p.2)) (ps.map fun p=>(p.1,Go.Proofs.YtdobfmlmenaajaaGreatDoor.ev O p.2))
 | []=>trivial
 | p::ps=>by simp only[cq,Iv];exact⟨trivial,h.ev p.2,h.evP ps⟩
theorem TR.evO{φ:Ph}{te:TE}{O:Tm}(h:TR φ te O)(x:Option Operand):Mz φ (x.map (jK te)) (x.map (Go.Proofs.YtdobfmlmenaajaaGreatDoor.ev O)):=by
 cases x with
 | none=>trivial
 | some x=>exact h.ev x
theorem zd{call:dC}(hc:kY call){o:Oper}{te:TE}{nx:Nat}{l:EL}{r:XV×Nat×EL}(h:xT call o te nx l=some r){φ:Ph}(hG:GP φ){O:Tm}{S:St}(ht:TR φ te O)(hm:MR φ l S){K:AV->St->Prop}(hk:XK φ r.1 r.2.2 K):wB o O S K:=by
 have pure_:∀(p:Option XV),p.map (fun v=>(v,nx,l))=some r->∃v,p=some v/\∀z,ER φ v z->K z S:=by
  intro p hp;obtain⟨v,rfl,hv⟩:=cr.1 hp;subst hv;exact⟨v,rfl,fun z hz=>hk φ z S (Ph.le_refl _) hz hm⟩
 unfold xT at h;unfold wB;split at h
 ·rename_i x ho;simp only[ho];cases h;exact hk _ _ _ (Ph.le_refl _) (ht.ev x) hm
 ·rename_i x ho;simp only[ho];cases h;exact hk _ _ _ (Ph.le_refl _) (ht.ev x) hm
 ·rename_i c x y ho;simp only[ho];split at h
  ·rename_i t hct
   cases h
   have:=ht.ev c;rw[hct]at this;simp only[ER]at this;simp only[this];refine hk _ _ _ (Ph.le_refl _) ?_ hm
   cases t
   ·exact ht.ev y
   ·exact ht.ev x
  ·cases h
 ·rename_i t ho;simp only[ho];exact EX h hm hk
 ·rename_i t x ho;simp only[ho];exact IS h (ht.ev x) hm hk
 ·rename_i t ps ho;simp only[ho];obtain⟨v,h1,h2⟩:=pure_ _ h;exact EW h1 (ht.evP ps.toList) h2
 ·rename_i t n ps ho;simp only[ho];exact uC h (ht.evP ps.toList) hm hk
 ·rename_i t x ho;simp only[ho];obtain⟨v,h1,h2⟩:=pure_ _ h;exact AU h1 (ht.ev x) hm h2
 ·rename_i t x y ho;simp only[ho];obtain⟨l',h1,h2⟩:=cr.1 h;subst h2;exact EO h1 (ht.ev x) (ht.ev y) hm fun S' hS=>hk _ _ _ (Ph.le_refl _) (by simp[ER]) hS
 ·rename_i x ho;simp only[ho];have hx:=ht.ev x;split at h
  ·rename_i es b i hxe
   cases h
   rw[hxe]at hx;simp only[ER]at hx;obtain⟨b',hb,e⟩:=hx;simp only[e];exact hk _ _ _ (Ph.le_refl _) (by simp only[ER];exact⟨b',hb,rfl⟩) hm
  ·rename_i es y hxe
   cases h
   rw[hxe]at hx;simp only[ER]at hx;obtain⟨y',e,hy⟩:=hx;simp only[e];exact hk _ _ _ (Ph.le_refl _) (by simp only[ER];exact⟨y',rfl,hy⟩) hm
  ·cases h
 ·rename_i op t x y _ ho;simp only[ho];obtain⟨v,h1,h2⟩:=pure_ _ h;exact IT h1 (ht.ev x) (ht.ev y) h2
 ·rename_i op t x ho;simp only[ho];obtain⟨v,h1,h2⟩:=pure_ _ h;exact Lm h1 (ht.ev x) h2
 ·rename_i s d x ho;simp only[ho];obtain⟨v,h1,h2⟩:=pure_ _ h;exact Gs h1 (ht.ev x) h2
 ·rename_i f fi cs ho;simp only[ho];split at h
  ·rename_i hfi
   cases h
   simp only[hfi,ml,qI];exact hk _ _ _ (Ph.le_refl _) (by simp only[ER];exact⟨_,rfl,ht.evL cs.toList⟩) hm
  ·rename_i x L hfi hcs
   cases h
   simp only[hfi,hcs,ml,cq,qI];exact⟨trivial,hk _ _ _ (Ph.le_refl _) (by simp only[ER];exact⟨_,rfl,ht.evL (x::L)⟩) hm⟩
  ·cases h
 ·rename_i t x y ho;simp only[ho];exact Gj h (ht.ev x) (ht.ev y) hm hk
 ·rename_i t x lo hi mx ho;simp only[ho];obtain⟨v,h1,h2⟩:=pure_ _ h;exact EP h1 (ht.ev x) (ht.evO lo) (ht.evO hi) (ht.evO mx) h2
 ·rename_i t x f ho;simp only[ho];obtain⟨v,h1,h2⟩:=pure_ _ h;exact EU h1 (ht.ev x) h2
 ·rename_i t x i ho;simp only[ho];obtain⟨v,h1,h2⟩:=pure_ _ h;exact ET h1 (ht.ev x) (ht.ev i) h2
 ·rename_i t x i ho;simp only[ho];obtain⟨v,h1,h2⟩:=pure_ _ h;exact zq9 h1 (ht.ev x) (ht.ev i) h2
 ·rename_i x i ho;simp only[ho];have hx:=ht.ev x;split at h
  ·rename_i L hxe;obtain⟨v,h1,h2⟩:=pure_ _ h;rw[hxe]at hx;simp only[ER]at hx;obtain⟨R,e,hR⟩:=hx;obtain⟨a,h3,h4⟩:=hR.get h1;simp only[e,h3];exact h2 a h4
  ·cases h
 ·rename_i c ho;simp only[ho];unfold rL;split at h
  ·rename_i f hf;simp only[hf];have hx:=ht.ev f;split at h
   ·rename_i g cs hge;rw[hge]at hx;simp only[ER]at hx;obtain⟨R,e,hR⟩:=hx;simp only[e];exact hc _ _ _ _ _ h φ _ S K hG ((ht.evL _).append hR) hm hk
   ·rename_i g cs hge;rw[hge]at hx;simp only[ER]at hx;obtain⟨R,e,hR⟩:=hx;simp only[e];exact hc _ _ _ _ _ h φ _ S K hG (hR.append (ht.evL _)) hm hk
   ·cases h
  ·rename_i b hb;simp only[hb];unfold l0 at h;have hL:=ht.evL c.args.toList;split at h
   ·rename_i x t hx hts;rw[hx]at hL;obtain⟨v,h1,h2⟩:=pure_ _ h
    cases ha:c.args.toList with
    | nil=>rw[ha]at hx;simp at hx
    | cons y r =>
     cases r with
     | cons _ _=>rw[ha]at hx;simp at hx
     | nil =>
      rw[ha]at hx;simp only[cq,ml,r7.injEq,and_true]at hx;rw[<-hx]at h1;simp only[hts];exact IN h1 (ht.ev y) h2
   ·rename_i k a k' d hx;split at h
    ·rename_i hkk;subst hkk
     cases h
     cases ha:c.args.toList with
     | nil=>rw[ha]at hx;simp at hx
     | cons y r =>
      cases r with
      | nil=>rw[ha]at hx;simp at hx
      | cons y' r =>
       cases r with
       | cons _ _=>rw[ha]at hx;simp at hx
       | nil =>
        rw[ha]at hx;simp only[cq,ml,r7.injEq,and_true]at hx;have e1:=ht.ev y;have e2:=ht.ev y';rw[hx.1]at e1;rw[hx.2]at e2;simp only[ER]at e1 e2;simp only[e1,e2,Ik];exact⟨trivial,hk _ _ _ (Ph.le_refl _) (by simp[ER]) hm⟩
    ·cases h
   ·rename_i s x t t' hx hts
    cases ha:c.args.toList with
    | nil=>rw[ha]at hx;simp at hx
    | cons y r =>
     cases r with
     | nil=>rw[ha]at hx;simp at hx
     | cons y' r =>
      cases r with
      | cons _ _=>rw[ha]at hx;simp at hx
      | nil =>
       rw[ha]at hx;simp only[cq,ml,r7.injEq,and_true]at hx;rw[<-hx.1,<-hx.2]at h;simp only[hts];split at h
       ·rename_i e3;rw[if_pos (ap e3)];exact A8 h (ht.ev y) (ht.ev y') hm hk
       ·rename_i e3;rw[if_neg (fun e=>by subst e;simp at e3)]
        exact CF h (ht.ev y) (ht.ev y') hm hk
   ·rename_i s x t t' hx hts;obtain⟨p,h1,h2⟩:=cr.1 h;subst h2
    cases ha:c.args.toList with
    | nil=>rw[ha]at hx;simp at hx
    | cons y r =>
     cases r with
     | nil=>rw[ha]at hx;simp at hx
     | cons y' r =>
      cases r with
      | cons _ _=>rw[ha]at hx;simp at hx
      | nil =>
       rw[ha]at hx;simp only[cq,ml,r7.injEq,and_true]at hx;rw[<-hx.1,<-hx.2]at h1;simp only[hts];exact Gq h1 (ht.ev y) (ht.ev y') hm hk
   ·cases h
  ·cases h
 ·cases h
end
noncomputable section
def kK:Operand->List Nat
 | .tmp t=>[t]
 | _=>[]
def o6(l:List Operand):List Nat:=l.flatMap kK
def By(x:Option Operand):List Nat:=o6 x.toList
def zJ(o:Op):List Nat:=match o with
 | .move x=>kK x
 | .assign x=>kK x
 | .pick c x y=>kK c++(kK x++kK y)
 | .box _ x=>kK x
 | .build _ ps=>o6 (ps.toList.map (·.2))
 | .buildSlice _ _ ps=>o6 (ps.toList.map (·.2))
 | .load _ x=>kK x
 | .store _ x y=>kK x++kK y
 | .nilCheck x=>kK x
 | .binOp _ _ x y _=>kK x++kK y
 | .unOp _ _ x=>kK x
 | .convert _ _ x=>kK x
 | .makeFunc _ fi cs=>o6 fi.toList++o6 cs.toList
 | .makeSlice _ x y=>kK x++kK y
 | .slice _ x lo hi mx=>kK x++(By lo++(By hi++By mx))
 | .fieldAddr _ x _=>kK x
 | .indexAddr _ x i=>kK x++kK i
 | .index _ x i=>kK x++kK i
 | .extract x _=>kK x
 | .call c=>(match c.callee with
  | .value f=>kK f
  | _=>[])++o6 c.args.toList
 | _=>[]
def Cu(te te':TE)(l:List Nat):Prop:=∀t∈l,iT te t=iT te' t
theorem Cu.left{te te':TE}{a b:List Nat}(h:Cu te te' (a++b)):Cu te te' a:=fun t ht=>h t (List.mem_append_left _ ht)
theorem Cu.right{te te':TE}{a b:List Nat}(h:Cu te te' (a++b)):Cu te te' b:=fun t ht=>h t (List.mem_append_right _ ht)
theorem Cu.ev{te te':TE}{x:Operand}(h:Cu te te' (kK x)):jK te x=jK te' x:=by
 cases x with
 | tmp t=>exact h t (by simp[kK])
 | const v=>rfl
 | global g=>rfl
 | func f=>rfl
theorem Cu.evL{te te':TE}:∀{l:List Operand},Cu te te' (o6 l)->l.map (jK te)=l.map (jK te')
 | [],_=>rfl
 | x::l,h=>by
  unfold o6 at h;rw[de]at h;rw[cq,cq,h.left.ev,evL (l:=l) h.right]
theorem Cu.evP{te te':TE}:∀{l:List (Nat×Operand)},Cu te te' (o6 (l.map (·.2)))->(l.map fun p=>(p.1,jK te p.2))=l.map fun p=>(p.1,jK te' p.2)
 | [],_=>rfl
 | x::l,h=>by
  unfold o6 at h;rw[cq,de]at h;rw[cq,cq,h.left.ev,evP (l:=l) h.right]
theorem Cu.evO{te te':TE}{x:Option Operand}(h:Cu te te' (By x)):x.map (jK te)=x.map (jK te'):=by
 cases x with
 | none=>rfl
 | some x =>
  unfold By o6 at h;simp only[Option.toList_some,de,List.flatMap_nil,List.append_nil]at h;rw[dp,dp,h.ev]
theorem EQ{call:dC}{o:Oper}{te te':TE}{nx:Nat}{l:EL}(h:Cu te te' (zJ o.op)):xT call o te nx l=xT call o te' nx l:=by
 unfold xT
 cases ho:o.op<;>rw[ho]at h<;>simp only[zJ]at h<;>try rfl
 case move x=>dsimp only;rw[h.ev]
 case assign x=>dsimp only;rw[h.ev]
 case pick c x y=>dsimp only;rw[h.left.ev,h.right.left.ev,h.right.right.ev]
 case box t x=>dsimp only;rw[h.ev]
 case build t ps=>dsimp only;rw[h.evP]
 case buildSlice t n ps=>dsimp only;rw[h.evP]
 case load t x=>dsimp only;rw[h.ev]
 case store t x y=>dsimp only;rw[h.left.ev,h.right.ev]
 case nilCheck x=>dsimp only;rw[h.ev]
 case binOp op t x y _=>dsimp only;rw[h.left.ev,h.right.ev]
 case unOp op t x=>dsimp only;rw[h.ev]
 case convert s d x=>dsimp only;rw[h.ev]
 case makeFunc f fi cs =>
  cases f<;>try rfl
  have h1:=h.left.evL;have h2:=h.right.evL;dsimp only;generalize fi.toList=F at h1 ⊢;generalize cs.toList=C at h2 ⊢
  cases F with
  | nil=>dsimp only;rw[h2]
  | cons x F=>cases C with
   | nil=>dsimp only;rw[h1]
   | cons _ _=>rfl
 case makeSlice t x y=>dsimp only;rw[h.left.ev,h.right.ev]
 case slice t x lo hi mx=>dsimp only;rw[h.left.ev,h.right.left.evO,h.right.right.left.evO,h.right.right.right.evO]
 case fieldAddr t x f=>dsimp only;rw[h.ev]
 case indexAddr t x i=>dsimp only;rw[h.left.ev,h.right.ev]
 case index t x i=>dsimp only;rw[h.left.ev,h.right.ev]
 case extract x i=>dsimp only;rw[h.ev]
 case call c =>
  dsimp only;rw[h.right.evL]
  cases hc:c.callee with
  | value f =>
   have h1:=h.left;rw[hc]at h1;simp only[h1.ev]
  | _=>rfl
def pureM:Nat:=2^81 ||| 2^82 ||| 2^83 ||| 2^84 ||| 2^133 ||| 2^157 ||| 2^159 ||| 2^191 ||| 2^192 ||| 2^193 ||| 2^215 ||| 2^216 ||| 2^247 ||| 2^249 ||| 2^251 ||| 2^268
def yq(f:Nat):Bool:=ig pureM f
def ft(o:Op):Nat:=match o with
 | .move _=>0
 | .assign _=>0
 | .pick _ _ _=>0
 | .build _ _=>0
 | .nilCheck _=>0
 | .binOp _ _ _ _ _=>0
 | .unOp _ _ _=>0
 | .convert _ _ _=>0
 | .makeFunc _ _ _=>0
 | .slice _ _ _ _ _=>0
 | .fieldAddr _ _ _=>0
 | .indexAddr _ _ _=>0
 | .index _ _ _=>0
 | .extract _ _=>0
 | .load _ _=>1
 | .alloc _=>2
 | .box _ _=>2
 | .buildSlice _ _ _=>2
 | .makeSlice _ _ _=>2
 | .call c=>(match c.callee with
  | .builtin .len=>0
  | .builtin .max=>0
  | .value (.func f)=>if yq f then 0 else 4
  | .value (.tmp _)=>3
  | _=>4)
 | _=>4
def rV(call:dC):Prop:=∀f args nx l r,yq f=true->call f args nx l=some r->r.2=(nx,l)/\∀nx' l',call f args nx' l'=some (r.1,nx',l')
theorem ld{nx:Nat}{l:EL}{r:XV×Nat×EL}(p:Option XV)(h:p.map (fun v=>(v,nx,l))=some r):r.2=(nx,l)/\∀(nx':Nat) (l':EL),p.map (fun v=>(v,nx',l'))=some (r.1,nx',l'):=by
 obtain⟨v,rfl,rfl⟩:=cr.1 h;exact⟨rfl,fun _ _=>rfl⟩
theorem l5{nx:Nat}{l:EL}{r:XV×Nat×EL}{v:XV}(h:some (v,nx,l)=some r):r.2=(nx,l)/\∀(nx':Nat) (l':EL),some (v,nx',l')=some (r.1,nx',l'):=by
 cases h
 exact⟨rfl,fun _ _=>rfl⟩
theorem Gl{A:List XV}{B:List Nat}{nx:Nat}{l:EL}{r:XV×Nat×EL}(h:l0 .len A B nx l=some r):r.2=(nx,l)/\∀nx' l',l0 .len A B nx' l'=some (r.1,nx',l'):=by
 rcases A with _|⟨x,_|⟨y,A⟩⟩
 ·cases h
 ·rcases B with _|⟨t,_|⟨u,B⟩⟩
  ·cases h
  ·exact ld _ h
  ·cases h
 ·cases h
theorem Gi{A:List XV}{B:List Nat}{nx:Nat}{l:EL}{r:XV×Nat×EL}(h:l0 .max A B nx l=some r):r.2=(nx,l)/\∀nx' l',l0 .max A B nx' l'=some (r.1,nx',l'):=by
 rcases A with _|⟨x,_|⟨y,_|⟨z,A⟩⟩⟩
 ·cases h
 ·cases x<;>cases h
 ·cases x<;>try cases h
  cases y<;>try cases h
  rename_i k a k' c;unfold l0 at h ⊢;dsimp only at h ⊢;by_cases e:k=k'
  ·rw[if_pos e]at h;refine⟨(l5 h).1,fun nx' l'=>?_⟩;rw[if_pos e];exact(l5 h).2 nx' l'
  ·rw[if_neg e]at h;cases h
 ·cases x<;>try cases h
  cases y<;>cases h
theorem AP{call:dC}(hp:rV call){o:Oper}{te:TE}{nx:Nat}{l:EL}{r:XV×Nat×EL}(hk:ft o.op=0)(h:xT call o te nx l=some r):r.2=(nx,l)/\∀nx' l',xT call o te nx' l'=some (r.1,nx',l'):=by
 unfold xT at h ⊢
 cases ho:o.op<;>rw[ho]at h hk<;>(try (simp[ft]at hk;done))
 case move x=>exact l5 h
 case assign x=>exact l5 h
 case pick c x y =>
  dsimp only at h ⊢
  cases hc:jK te c<;>rw[hc]at h<;>try cases h
  exact⟨rfl,fun _ _=>rfl⟩
 case build t ps=>exact ld _ h
 case nilCheck x =>
  dsimp only at h ⊢
  cases hc:jK te x<;>rw[hc]at h<;>first|exact l5 h|cases h
 case binOp op t x y _=>exact ld _ h
 case unOp op t x=>exact ld _ h
 case convert s d x=>exact ld _ h
 case makeFunc f fi cs =>
  cases f<;>dsimp only at h ⊢<;>try cases h
  generalize fi.toList=F at h ⊢;generalize cs.toList=C at h ⊢
  cases F with
  | nil=>exact l5 h
  | cons x F=>cases C with
   | nil=>exact l5 h
   | cons _ _=>cases h
 case slice t x lo hi mx=>exact ld _ h
 case fieldAddr t x f=>exact ld _ h
 case indexAddr t x i=>exact ld _ h
 case index t x i=>exact ld _ h
 case extract x i =>
  dsimp only at h ⊢
  cases hc:jK te x<;>rw[hc]at h<;>first|exact ld _ h|cases h
 case call c =>
  dsimp only at h ⊢;simp only[ft]at hk
  cases hc:c.callee with
  | value f =>
   rw[hc]at h hk;dsimp only at h ⊢
   cases f with
   | func g =>
    dsimp only[jK]at h ⊢;by_cases hg:yq g=true
    ·exact hp _ _ _ _ _ hg h
    ·simp only[hg]at hk;cases hk
   | tmp t=>cases hk
   | const v=>cases hk
   | global g=>cases hk
  | builtin b =>
   rw[hc]at h hk;dsimp only at h ⊢
   cases b<;>first|(cases hk;done)|exact Gl h|exact Gi h
  | _=>rw[hc]at hk;cases hk
theorem Cz{t:Nat}{x v:XV}{l l':EL}(h:tf t x l=some v)(hl:∀i X,dM l i=some (some X)->dM l' i=some (some X)):tf t x l'=some v:=by
 unfold tf at h ⊢;split at h
 ·exact h
 ·rename_i es i k0;split at h
  ·rename_i X hX;rw[hl i X hX];exact h
  ·cases h
 ·cases h
theorem qC(c:Go.Call):ft (.call c)=0∨ft (.call c)=3∨ft (.call c)=4:=by
 simp only[ft]
 cases hc:c.callee with
 | value f =>
  cases f with
  | func g=>dsimp only;by_cases hg:yq g=true<;>simp[hg]
  | tmp t=>simp
  | const v=>simp
  | global g=>simp
 | builtin b=>cases b<;>simp
 | _=>simp
theorem AQ{call:dC}{o:Oper}{te:TE}{nx:Nat}{l:EL}{r:XV×Nat×EL}(hk:ft o.op=1)(h:xT call o te nx l=some r):r.2=(nx,l)/\∀nx' l',(∀i X,dM l i=some (some X)->dM l' i=some (some X))->xT call o te nx' l'=some (r.1,nx',l'):=by
 unfold xT at h ⊢
 cases ho:o.op<;>rw[ho]at h hk<;>(try (simp[ft]at hk;done))
 case load t x =>
  dsimp only at h ⊢;obtain⟨v,h1,rfl⟩:=cr.1 h;exact⟨rfl,fun nx' l' hl=>by rw[Cz h1 hl];rfl⟩
 case call c=>have:=qC c;omega
theorem G0{nx:Nat}{l:EL}{X:EB}{v:XV}{r:XV×Nat×EL}(h:ra nx l X v=some r):dM l nx=ac/\r=(v,nx+1,qj l nx (some X))/\∀l',dM l' nx=ac->ra nx l' X v=some (v,nx+1,qj l' nx (some X)):=by
 unfold ra at h;split at h
 ·rename_i hl
  cases h
  exact⟨hl,rfl,fun l' hl'=>by unfold ra;rw[hl']⟩
 ·cases h
theorem Gh{call:dC}{o:Oper}{te:TE}{nx:Nat}{l:EL}{r:XV×Nat×EL}(hk:ft o.op=2)(h:xT call o te nx l=some r):∃X,dM l nx=ac/\r=(r.1,nx+1,qj l nx (some X))/\∀l',dM l' nx=ac->xT call o te nx l'=some (r.1,nx+1,qj l' nx (some X)):=by
 have key:∀(f:EL->XR),f l=some r->(∃X v,∀l',f l'=ra nx l' X v)->∃X,dM l nx=ac/\r=(r.1,nx+1,qj l nx (some X))/\∀l',dM l' nx=ac->f l'=some (r.1,nx+1,qj l' nx (some X)):=by
  rintro f hf ⟨X,v,hX⟩;rw[hX]at hf;obtain⟨h1,rfl,h3⟩:=G0 hf;exact⟨X,h1,rfl,fun l' hl'=>by rw[hX];exact h3 l' hl'⟩
 unfold xT at h ⊢
 cases ho:o.op<;>rw[ho]at h hk<;>(try (simp[ft]at hk;done))
 case alloc t =>
  refine key (fun l=>uE t nx l) h ?_;dsimp only at h;unfold uE at h ⊢
  cases h1:zE t with
  | some p=>exact⟨_,_,fun _=>rfl⟩
  | none =>
   rw[h1]at h
   cases h2:zA t with
   | some p=>exact⟨_,_,fun _=>rfl⟩
   | none=>rw[h2]at h;cases h
 case box t x =>
  refine key (fun l=>Gv t (jK te x) nx l) h ?_;dsimp only at h;unfold Gv at h ⊢
  cases h1:d9 t with
  | none=>rw[h1]at h;cases h
  | some p =>
   obtain⟨es,k⟩:=p;rw[h1]at h;dsimp only at h ⊢
   cases h2:ay k 1 with
   | true =>
    rw[h2]at h;dsimp only at h ⊢
    cases h3:ma es (jK te x)with
    | true=>exact⟨_,_,fun _=>rfl⟩
    | false=>rw[h3]at h;cases h
   | false =>
    rw[h2]at h;dsimp only at h ⊢
    cases h3:jK te x<;>rw[h3]at h<;>dsimp only at h<;>try cases h
    rename_i L
    cases h4:(ay L.length k&&l9 es L)with
    | true=>exact⟨_,_,fun _=>by dsimp only;rw[h4]⟩
    | false=>rw[h4]at h;cases h
 case buildSlice t n ps =>
  refine key (fun l=>lj t n (ps.toList.map fun p=>(p.1,jK te p.2)) nx l) h ?_;dsimp only at h;generalize (ps.toList.map fun p=>(p.1,jK te p.2))=qs at *;unfold lj at h ⊢
  cases h1:c9 t with
  | none=>rw[h1]at h;cases h
  | some e =>
   rw[h1]at h;dsimp only at h ⊢
   cases h2:(o7 0 qs&&ay qs.length n&&ix n 16&&(zE e).isSome&&l9 (bP e) (qs.map (·.2)))with
   | true=>exact⟨_,_,fun _=>rfl⟩
   | false=>rw[h2]at h;cases h
 case makeSlice t x y =>
  refine key (fun l=>AR t (jK te x) (jK te y) nx l) h ?_;dsimp only at h;generalize jK te x=a at *;generalize jK te y=b at *;unfold AR at h ⊢;split at h
  ·rename_i e n m he;split at h
   ·rename_i es z hz;split at h
    ·rename_i h2;exact⟨⟨e,es,bR n z⟩,.sl es nx 0 n,fun l'=>by simp only[]⟩
    ·cases h
   ·cases h
  ·cases h
 case call c=>have:=qC c;omega
end
noncomputable section
mutual
def nk:XV->Bool
 | .sl ..=>false
 | .ptr ..=>false
 | .lst _ l=>kH l
 | .pat _ x=>nk x
 | .tup l=>kH l
 | .agg l=>kH l
 | .fn _ l=>kH l
 | .int ..=>true
 | .bool _=>true
 | .big _=>true
 | .nil=>true
 | .any=>true
 | .nfn=>true
 | .mfn _ l=>kH l
def kH:List XV->Bool
 | []=>true
 | x::l=>nk x&&kH l
end
mutual
theorem qR{φ ψ:Ph}:∀(x:XV) (a:AV),nk x=true->ER φ x a->ER ψ x a
 | .int ..,_,_,e=>by simpa [ER]using e
 | .bool _,_,_,e=>by simpa [ER]using e
 | .big _,_,_,e=>by simpa [ER]using e
 | .nil,_,_,e=>by simpa [ER]using e
 | .sl ..,_,h,_=>by simp[nk]at h
 | .ptr ..,_,h,_=>by simp[nk]at h
 | .lst _ l,_,h,e=>by
  simp only[ER,nk]at e h ⊢;obtain⟨g,h1,h2⟩:=e;exact⟨g,h1,ya l g 0 h h2⟩
 | .pat _ x,_,h,e=>by
  simp only[ER,nk]at e h ⊢;obtain⟨y,h1,h2⟩:=e;exact⟨y,h1,qR x y h h2⟩
 | .tup l,_,h,e=>by
  simp only[ER,nk]at e h ⊢;obtain⟨r,h1,h2⟩:=e;exact⟨r,h1,lS l r h h2⟩
 | .agg l,_,h,e=>by
  simp only[ER,nk]at e h ⊢;obtain⟨r,h1,h2⟩:=e;exact⟨r,h1,lS l r h h2⟩
 | .fn _ l,_,h,e=>by
  simp only[ER,nk]at e h ⊢;obtain⟨r,h1,h2⟩:=e;exact⟨r,h1,lS l r h h2⟩
 | .any,_,_,_=>by simp[ER]
 | .nfn,_,_,e=>by simpa [ER]using e
 | .mfn _ l,_,h,e=>by
  simp only[nk]at h;simp only[ER]at e ⊢;obtain⟨r,h1,h2⟩:=e;exact⟨r,h1,lS l r h h2⟩
theorem lS{φ ψ:Ph}:∀(l:List XV) (r:List AV),kH l=true->eD φ l r->eD ψ l r
 | [],[],_,_=>by simp[eD]
 | x::l,a::r,h,e=>by
  simp only[eD,kH,aA]at e h ⊢;exact⟨qR x a h.1 e.1,lS l r h.2 e.2⟩
 | [],_::_,_,e=>by simp[eD]at e
 | _::_,[],_,e=>by simp[eD]at e
theorem ya{φ ψ:Ph}:∀(l:List XV) (g:Nat->AV) (k:Nat),kH l=true->ko φ l g k->ko ψ l g k
 | [],_,_,_,_=>by simp[ko]
 | x::l,g,k,h,e=>by
  simp only[ko,kH,aA]at e h ⊢;exact⟨qR x _ h.1 e.1,ya l g (k+1) h.2 e.2⟩
end
def Ph.on(φ ψ:Ph):Ph:=fun i=>match φ i with
 | some _=>ψ i
 | ac=>ac
theorem Ph.on_le{φ ψ:Ph}(h:φ.le ψ):φ.le (φ.on ψ):=fun i b e=>by
 unfold Ph.on;rw[e];exact h i b e
mutual
theorem Iu{φ ψ:Ph}:∀(x:XV) (a0 a:AV),ER φ x a0->ER ψ x a->ER (φ.on ψ) x a
 | .int ..,_,_,_,e=>by simpa [ER]using e
 | .bool _,_,_,_,e=>by simpa [ER]using e
 | .big _,_,_,_,e=>by simpa [ER]using e
 | .nil,_,_,_,e=>by simpa [ER]using e
 | .sl ..,_,_,h,e=>by
  simp only[ER]at e h ⊢;obtain⟨b0,h1,_⟩:=h;obtain⟨b,h3,h4⟩:=e;exact⟨b,by unfold Ph.on;rw[h1];exact h3,h4⟩
 | .ptr ..,_,_,h,e=>by
  simp only[ER]at e h ⊢;obtain⟨b0,h1,_⟩:=h;obtain⟨b,h3,h4⟩:=e;exact⟨b,by unfold Ph.on;rw[h1];exact h3,h4⟩
 | .lst _ l,_,_,h,e=>by
  simp only[ER]at e h ⊢;obtain⟨g0,_,h0⟩:=h;obtain⟨g,h1,h2⟩:=e;exact⟨g,h1,DN l g0 g 0 h0 h2⟩
 | .pat _ x,_,_,h,e=>by
  simp only[ER]at e h ⊢;obtain⟨y0,_,h0⟩:=h;obtain⟨y,h1,h2⟩:=e;exact⟨y,h1,Iu x y0 y h0 h2⟩
 | .tup l,_,_,h,e=>by
  simp only[ER]at e h ⊢;obtain⟨r0,_,h0⟩:=h;obtain⟨r,h1,h2⟩:=e;exact⟨r,h1,wW l r0 r h0 h2⟩
 | .agg l,_,_,h,e=>by
  simp only[ER]at e h ⊢;obtain⟨r0,_,h0⟩:=h;obtain⟨r,h1,h2⟩:=e;exact⟨r,h1,wW l r0 r h0 h2⟩
 | .fn _ l,_,_,h,e=>by
  simp only[ER]at e h ⊢;obtain⟨r0,_,h0⟩:=h;obtain⟨r,h1,h2⟩:=e;exact⟨r,h1,wW l r0 r h0 h2⟩
 | .any,_,_,_,_=>by simp[ER]
 | .nfn,_,_,_,e=>by simpa [ER]using e
 | .mfn _ l,_,_,h,e=>by
  simp only[ER]at h e ⊢;obtain⟨r0,h1,h2⟩:=h;obtain⟨r,h3,h4⟩:=e;exact⟨r,h3,wW l r0 r h2 h4⟩
theorem wW{φ ψ:Ph}:∀(l:List XV) (r0 r:List AV),eD φ l r0->eD ψ l r->eD (φ.on ψ) l r
 | [],_,[],_,_=>by simp[eD]
 | x::l,a0::r0,a::r,h,e=>by
  simp only[eD]at e h ⊢;exact⟨Iu x a0 a h.1 e.1,wW l r0 r h.2 e.2⟩
 | _::_,[],_,h,_=>by simp[eD]at h
 | [],_,_::_,_,e=>by simp[eD]at e
 | _::_,_,[],_,e=>by simp[eD]at e
theorem DN{φ ψ:Ph}:∀(l:List XV) (g0 g:Nat->AV) (k:Nat),ko φ l g0 k->ko ψ l g k->ko (φ.on ψ) l g k
 | [],_,_,_,_,_=>by simp[ko]
 | x::l,g0,g,k,h,e=>by
  simp only[ko]at e h ⊢;exact⟨Iu x _ _ h.1 e.1,DN l g0 g (k+1) h.2 e.2⟩
end
theorem MR.back{φ ψ:Ph}{l l':EL}{S S':St}(h:MR φ l S)(hle:φ.le ψ)(h':MR ψ l' S')(hf:∀i X,dM l i=some (some X)->dM l' i=some (some X)):φ.le (φ.on ψ)/\MR (φ.on ψ) l S':=by
 have sub:∀i b,φ.on ψ i=some b->ψ i=some b:=fun i b e=>by
  unfold Ph.on at e
  cases hp:φ i with
  | none=>rw[hp]at e;cases e
  | some c=>rw[hp]at e;exact e
 refine⟨Ph.on_le hle,fun i hi=>?_,fun i X hi=>?_,fun i j X Y b hi hj ei ej=>?_⟩
 ·unfold Ph.on;rw[h.dom i hi]
 ·obtain⟨b0,g0,k1,_,k3⟩:=h.live i X hi;have hi':dM l' i=some (some X):=hf _ _ hi;obtain⟨b,g,e1,e2,e3⟩:=h'.live i X hi';exact⟨b,g,by unfold Ph.on;rw[k1];exact e1,e2,DN _ _ _ _ k3 e3⟩
 ·exact h'.inj i j X Y b (hf _ _ hi) (hf _ _ hj) (sub i b ei) (sub j b ej)
theorem IL{call:dC}(hc:kY call){o:Oper}{te:TE}{nx:Nat}{l:EL}{v:XV}{nx':Nat}{l':EL}(h:xT call o te nx l=some (v,nx',l'))(hv:nk v=true)(hf:∀i X,dM l i=some (some X)->dM l' i=some (some X)){φ:Ph}(hG:GP φ){O:Tm}{S:St}(ht:TR φ te O)(hm:MR φ l S){K:AV->St->Prop}(hk:XK φ v l K):wB o O S K:=by
 refine zd hc h hG ht hm fun ψ z S' hle hz hm'=>?_;obtain⟨h1,h2⟩:=hm.back hle hm' hf;exact hk _ z S' h1 (qR v z hv hz) h2
end
noncomputable section
mutual
def kB:XV->XV->Bool
 | .int k n,.int k' n'=>decide (k=k')&&decide (n=n')
 | .bool b,.bool c=>decide (b=c)
 | .big z,.big z'=>decide (z=z')
 | .nil,.nil=>true
 | .any,.any=>true
 | .nfn,.nfn=>true
 | .mfn a l,.mfn a' l'=>ay a a'&&me l l'
 | .sl a b c d,.sl a' b' c' d'=>ay a a'&&ay b b'&&ay c c'&&ay d d'
 | .ptr a b c,.ptr a' b' c'=>ay a a'&&ay b b'&&ay c c'
 | .lst a l,.lst a' l'=>ay a a'&&me l l'
 | .pat a x,.pat a' x'=>ay a a'&&kB x x'
 | .tup l,.tup l'=>me l l'
 | .agg l,.agg l'=>me l l'
 | .fn a l,.fn a' l'=>ay a a'&&me l l'
 | _,_=>false
def me:List XV->List XV->Bool
 | [],[]=>true
 | x::l,y::r=>kB x y&&me l r
 | _,_=>false
end
mutual
theorem wv:∀(x y:XV),kB x y=true->x=y
 | .int ..,y,h=>by
  cases y<;>simp only[kB,aA,decide_eq_true_eq,aR]at h
  rw[h.1,h.2]
 | .bool _,y,h=>by
  cases y<;>simp only[kB,decide_eq_true_eq,aR]at h
  rw[h]
 | .big _,y,h=>by
  cases y<;>simp only[kB,decide_eq_true_eq,aR]at h
  rw[h]
 | .nil,y,h=>by cases y<;>simp only[kB,aR]at h;rfl
 | .any,y,h=>by cases y<;>simp only[kB,aR]at h;rfl
 | .nfn,y,h=>by cases y<;>simp only[kB,aR]at h;rfl
 | .sl ..,y,h=>by
  cases y<;>simp only[kB,aA,aR]at h
  rw[ap h.1.1.1,ap h.1.1.2,ap h.1.2,ap h.2]
 | .ptr ..,y,h=>by
  cases y<;>simp only[kB,aA,aR]at h
  rw[ap h.1.1,ap h.1.2,ap h.2]
 | .lst _ l,y,h=>by
  cases y<;>simp only[kB,aA,aR]at h
  rw[ap h.1,kR l _ h.2]
 | .pat _ x,y,h=>by
  cases y<;>simp only[kB,aA,aR]at h
  rw[ap h.1,wv x _ h.2]
 | .tup l,y,h=>by
  cases y<;>simp only[kB,aR]at h
  rw[kR l _ h]
 | .agg l,y,h=>by
  cases y<;>simp only[kB,aR]at h
  rw[kR l _ h]
 | .mfn _ l,y,h=>by
  cases y<;>simp only[kB,aA,aR]at h
  rw[ap h.1,kR l _ h.2]
 | .fn _ l,y,h=>by
  cases y<;>simp only[kB,aA,aR]at h
  rw[ap h.1,kR l _ h.2]
theorem kR:∀(l r:List XV),me l r=true->l=r
 | [],[],_=>rfl
 | x::l,y::r,h=>by
  simp only[me,aA]at h;rw[wv x y h.1,kR l r h.2]
 | [],_::_,h=>by simp[me]at h
 | _::_,[],h=>by simp[me]at h
end
def E8:Option (Option EB)->Option (Option EB)->Bool
 | some (some X),some (some Y)=>ay X.ty Y.ty&&ay X.es Y.es&&me X.l Y.l
 | some (some _),_=>false
 | _,_=>true
def I7(s:EL):EL->Bool:=EL.rec (motive:=fun _=>EL->Bool) (fun _=>true) (fun _=>true) (fun x _ _ a b s'=>match s' with
 | .n y l r=>E8 x y&&(a l&&b r)
 | _=>false) s
theorem I6{x y:Option (Option EB)}(h:E8 x y=true){X:EB}(hx:x=some (some X)):y=some (some X):=by
 subst hx
 match y,h with
 | some (some Y),h =>
  simp only[E8,aA]at h;obtain⟨ty,es,l⟩:=X;obtain⟨ty',es',l'⟩:=Y;obtain⟨⟨h1,h2⟩,h3⟩:=h;dsimp only at h1 h2 h3;rw[ap h1,ap h2,kR _ _ h3]
 | some ac,h=>simp[E8]at h
 | ac,h=>simp[E8]at h
theorem zu:∀(s s':EL),I7 s s'=true->∀i X,dM s i=some (some X)->dM s' i=some (some X)
 | .e,_,_,i,X,h=>by rw[vM]at h;cases h
 | .d,_,_,i,X,h=>by rw[C7]at h;cases h
 | .n x l r,.n y l' r',hs,i,X,h=>by
  change (E8 x y&&(I7 l l'&&I7 r r'))=true at hs;simp only[aA]at hs;rw[iU]at h ⊢;split
  ·rename_i h0;rw[if_pos h0]at h;exact I6 hs.1 h
  ·rename_i h0;rw[if_neg h0]at h;split
   ·rename_i h1;rw[if_pos h1]at h;exact zu l l' hs.2.1 _ X h
   ·rename_i h1;rw[if_neg h1]at h;exact zu r r' hs.2.2 _ X h
 | .n _ _ _,.e,hs,_,_,_=>by cases hs
 | .n _ _ _,.d,hs,_,_,_=>by cases hs
def xk(call:dC)(o:Oper)(te:TE)(nx:Nat)(l:EL):XR:=match ay (ft o.op) 3 with
 | true=>match xT call o te nx l with
  | some (v,_,l')=>match nk v&&I7 l l' with
   | true=>some (v,nx,l)
   | false=>ac
  | ac=>ac
 | false=>xT call o te nx l
theorem KH{call:dC}(hc:kY call){o:Oper}{te:TE}{nx:Nat}{l:EL}{r:XV×Nat×EL}(h:xk call o te nx l=some r){φ:Ph}(hG:GP φ){O:Tm}{S:St}(ht:TR φ te O)(hm:MR φ l S){K:AV->St->Prop}(hk:XK φ r.1 r.2.2 K):wB o O S K:=by
 unfold xk at h;split at h
 ·split at h
  ·rename_i v nx' l' he;split at h
   ·rename_i hb
    cases h
    simp only[aA]at hb;exact IL hc he hb.1 (zu _ _ hb.2) hG ht hm hk
   ·cases h
  ·cases h
 ·exact zd hc h hG ht hm hk
theorem AY{call:dC}{o:Oper}{te te':TE}{nx:Nat}{l:EL}(h:Cu te te' (zJ o.op)):xk call o te nx l=xk call o te' nx l:=by
 unfold xk;rw[EQ h]
def sI(ops:Array Oper)(te:TE)(j:Nat):XV:=match (ops[j]?).bind (·.dst)with
 | some d=>iT te d
 | ac=>.any
def xg(call:dC)(ops:Array Oper)(o:Oper)(te:TE)(nx:Nat)(l:EL):XR:=match o.guard with
 | ac=>xk call o te nx l
 | some (j,want)=>match sI ops te j with
  | .bool b=>if b=want then xk call o te nx l else some (.any,nx,l)
  | _=>ac
def o0(ops:Array Oper)(o:Oper):List Nat:=(match o.guard with
 | ac=>[]
 | some (j,_)=>(match (ops[j]?).bind (·.dst)with
  | some d=>[d]
  | ac=>[]))++zJ o.op
theorem KI{call:dC}(hc:kY call){ops:Array Oper}{o:Oper}{te:TE}{nx:Nat}{l:EL}{r:XV×Nat×EL}(h:xg call ops o te nx l=some r){φ:Ph}(hG:GP φ){O:Tm}{S:St}(ht:TR φ te O)(hm:MR φ l S){K:Tm->St->Prop}
  (hk:∀ψ z S',φ.le ψ->ER ψ r.1 z->MR ψ r.2.2 S'->K (O.put o.dst z) S'):xJ ops o O S K:=by
 unfold xg at h;unfold xJ
 cases hg:o.guard with
 | none =>
  rw[hg]at h;exact KH hc h hG ht hm fun ψ z S' h1 h2 h3=>hk ψ z S' h1 h2 h3
 | some p =>
  obtain⟨j,want⟩:=p;rw[hg]at h;dsimp only at h ⊢;have hy:ER φ (sI ops te j) (AM ops O j):=by
   unfold sI AM
   cases (ops[j]?).bind (·.dst)with
   | none=>simp[ER]
   | some d=>exact ht d
  cases he:sI ops te j<;>rw[he]at h<;>try cases h
  rename_i b;rw[he]at hy;simp only[ER]at hy;rw[hy];dsimp only at h ⊢;refine⟨fun e=>?_,fun e=>?_⟩
  ·rw[if_pos e]at h;exact KH hc h hG ht hm fun ψ z S' h1 h2 h3=>hk ψ z S' h1 h2 h3
  ·rw[if_neg (by rw[e];cases want<;>simp)]at h
   cases h
   exact hk φ .any S (Ph.le_refl _) (by simp[ER]) hm
theorem Gp{call:dC}{ops:Array Oper}{o:Oper}{te te':TE}{nx:Nat}{l:EL}(h:Cu te te' (o0 ops o)):xg call ops o te nx l=xg call ops o te' nx l:=by
 unfold xg;unfold o0 at h
 cases hg:o.guard with
 | none=>exact AY h.right
 | some p =>
  obtain⟨j,want⟩:=p;rw[hg]at h;dsimp only;have e:sI ops te j=sI ops te' j:=by
   unfold sI;have h1:=h.left;dsimp only at h1
   cases hd:(ops[j]?).bind (·.dst)with
   | none=>rfl
   | some d=>rw[hd]at h1;exact h1 d (List.mem_singleton.2 rfl)
  rw[e,AY h.right]
end
noncomputable section
theorem Ew(te:TE):∀R:List Nat,∃te',∀t,iT te' t=if t∈R then iT te t else .any
 | []=>⟨.e,fun t=>by simp[qv]⟩
 | s::R=>by
  obtain⟨te',h⟩:=Ew te R;refine⟨uQ te' s (iT te s),fun t=>?_⟩;rw[lk,h];by_cases e:t=s
  ·subst e;simp
  ·rw[if_neg e];simp[e]
theorem uq{call:dC}(hc:kY call){ops:Array Oper}{o:Oper}{te:TE}{nx:Nat}{l:EL}{r:XV×Nat×EL}(h:xg call ops o te nx l=some r){φ:Ph}(hG:GP φ){O:Tm}{S:St}(ht:∀t∈o0 ops o,ER φ (iT te t) (O t))(hm:MR φ l S){K:Tm->St->Prop}
  (hk:∀ψ z S',φ.le ψ->ER ψ r.1 z->MR ψ r.2.2 S'->K (O.put o.dst z) S'):xJ ops o O S K:=by
 obtain⟨te',h'⟩:=Ew te (o0 ops o);rw[Gp (te':=te') (fun t ht=>by rw[h',if_pos ht])]at h
 refine KI hc h hG (fun t=>?_) hm hk;rw[h'];by_cases e:t∈o0 ops o
 ·rw[if_pos e];exact ht t e
 ·rw[if_neg e];simp[ER]
def bit(m k:Nat):Bool:=ig m k
def jC(cls:List Nat)(i k:Nat):Bool:=bit (cls.getD i 0) k
def mt(ops:Array Oper)(i:Nat):Nat:=match ops[i]? with
 | some o=>ft o.op
 | ac=>0
def xH(ops:Array Oper)(i:Nat):Option Nat:=(ops[i]?).bind (·.dst)
def comp(cls:List Nat)(i j:Nat):Bool:=jC cls i j||jC cls j i
structure oA(ops:Array Oper)(cls:List Nat)(alts:Nat->List Nat):Prop where
 aft:yO ops=true
 cl:∀i o k,ops[i]? = some o->jC cls i k=true->∃j∈Go.Proofs.YtdobfmlmenaajaaGreatDoor.aft o,j=k∨jC cls j k=true
 dst:∀i j d,xH ops i=some d->xH ops j=some d->i=j
 reads:∀i o t k,ops[i]? = some o->t∈o0 ops o->k≠i->xH ops k=some t->comp cls i k=true
 four:∀i j,i≠j->mt ops i=4->2<=mt ops j->comp cls i j=true
 three:∀i j,mt ops i=3->mt ops j=2->comp cls i j=true
 guard:∀(i:Nat) (o:Oper),ops[i]? = some o->ft o.op=2->o.guard=ac
 altW:∀i w,mt ops i=1->mt ops w=4->comp cls i w=false->w+1∈alts i
 altA:∀i,mt ops i=1->∃a∈alts i,a<=i/\(∀w,mt ops w=4->jC cls i w=true->w<a)/\∀k,k<a->2<=mt ops k->mt ops k≠3->jC cls i k=true
structure pu(call:dC)(ops:Array Oper)(T:Nat->TE)(N:Nat->Nat)(M:Nat->EL)(V:Nat->XV):Prop where
 step:∀i o,ops[i]? = some o->xg call ops o (T i) (N i) (M i)=some (V i,N (i+1),M (i+1))
 put:∀i o t,ops[i]? = some o->iT (T (i+1)) t=if o.dst=some t then V i else iT (T i) t
theorem pu.get{call:dC}{ops:Array Oper}{T:Nat->TE}{N:Nat->Nat}{M:Nat->EL}{V:Nat->XV}(h:pu call ops T N M V){cls:List Nat}{alts:Nat->List Nat}(hs:oA ops cls alts) :
  ∀i,i<=ops.size->∀t,(∀k,k<i->xH ops k=some t->iT (T i) t=V k)/\((∀k,k<i->xH ops k≠some t)->iT (T i) t=iT (T 0) t):=by
 intro i
 induction i with
 | zero=>intro _ t;exact⟨fun k hk=>om,fun _=>rfl⟩
 | succ i ih =>
  intro hi t;obtain⟨o,ho⟩:∃o,ops[i]? = some o:=⟨ops[i],aG om⟩;have hp:=h.put i o t ho;have hd:xH ops i=o.dst:=by unfold xH;rw[ho];rfl
  obtain⟨h1,h2⟩:=ih om t;refine⟨fun k hk hkt=>?_,fun hn=>?_⟩
  ·by_cases e:k=i
   ·subst e;rw[hp,if_pos (by rw[<-hd];exact hkt)]
   ·rw[hp,if_neg (fun e2=>e (hs.dst k i t hkt (by rw[hd];exact e2)))]
    exact h1 k om hkt
  ·rw[hp,if_neg (by rw[<-hd];exact hn i om)]
   exact h2 fun k hk=>hn k om
theorem qb{call:dC}{o:Oper}{te:TE}{nx:Nat}{l:EL}(hk:ft o.op≠3):xk call o te nx l=xT call o te nx l:=by
 unfold xk;rw[Md hk]
theorem DQ{call:dC}(hp:rV call){ops:Array Oper}{o:Oper}{te:TE}{nx:Nat}{l:EL}{r:XV×Nat×EL}(hk:ft o.op=0)(h:xg call ops o te nx l=some r):r.2=(nx,l)/\∀nx' l',xg call ops o te nx' l'=some (r.1,nx',l'):=by
 unfold xg at h ⊢
 cases hg:o.guard with
 | none =>
  rw[hg]at h;dsimp only at h ⊢;rw[qb om]at h;obtain⟨h1,h2⟩:=AP hp hk h;exact⟨h1,fun nx' l'=>by rw[qb om];exact h2 nx' l'⟩
 | some p =>
  obtain⟨j,want⟩:=p;rw[hg]at h;dsimp only at h ⊢
  cases he:sI ops te j<;>rw[he]at h<;>try cases h
  rename_i b;dsimp only at h ⊢;by_cases e:b=want
  ·rw[if_pos e,qb om]at h;obtain⟨h1,h2⟩:=AP hp hk h;exact⟨h1,fun nx' l'=>by rw[if_pos e,qb om];exact h2 nx' l'⟩
  ·rw[if_neg e]at h
   cases h
   exact⟨rfl,fun nx' l'=>by rw[if_neg e]⟩
theorem qO{call:dC}{ops:Array Oper}{o:Oper}{te:TE}{nx:Nat}{l:EL}{r:XV×Nat×EL}(hk:ft o.op=1)(h:xg call ops o te nx l=some r):r.2=(nx,l)/\∀nx' l',(∀i X,dM l i=some (some X)->dM l' i=some (some X))->xg call ops o te nx' l'=some (r.1,nx',l'):=by
 unfold xg at h ⊢
 cases hg:o.guard with
 | none =>
  rw[hg]at h;dsimp only at h ⊢;rw[qb om]at h;obtain⟨h1,h2⟩:=AQ hk h;exact⟨h1,fun nx' l' hl=>by rw[qb om];exact h2 nx' l' hl⟩
 | some p =>
  obtain⟨j,want⟩:=p;rw[hg]at h;dsimp only at h ⊢
  cases he:sI ops te j<;>rw[he]at h<;>try cases h
  rename_i b;dsimp only at h ⊢;by_cases e:b=want
  ·rw[if_pos e,qb om]at h;obtain⟨h1,h2⟩:=AQ hk h;exact⟨h1,fun nx' l' hl=>by rw[if_pos e,qb om];exact h2 nx' l' hl⟩
  ·rw[if_neg e]at h
   cases h
   exact⟨rfl,fun nx' l' _=>by rw[if_neg e]⟩
theorem Lp{call:dC}{ops:Array Oper}{o:Oper}{te:TE}{nx:Nat}{l:EL}{r:XV×Nat×EL}(hk:ft o.op=3)(h:xg call ops o te nx l=some r):r.2=(nx,l):=by
 have key:∀{r},xk call o te nx l=some r->r.2=(nx,l):=fun {r} h=>by
  unfold xk at h;split at h
  ·split at h
   ·split at h
    ·cases h;rfl
    ·cases h
   ·cases h
  ·rename_i e;rw[hk]at e;cases e
 unfold xg at h;split at h
 ·exact key h
 ·split at h
  ·split at h
   ·exact key h
   ·cases h;rfl
  ·cases h
theorem IP{call:dC}{ops:Array Oper}{o:Oper}{te:TE}{nx:Nat}{l:EL}{r:XV×Nat×EL}(hg:o.guard=ac)(hk:ft o.op=2)(h:xg call ops o te nx l=some r):∃X,dM l nx=ac/\r=(r.1,nx+1,qj l nx (some X))/\∀l',dM l' nx=ac->xg call ops o te nx l'=some (r.1,nx+1,qj l' nx (some X)):=by
 unfold xg at h ⊢;rw[hg]at h ⊢;dsimp only at h ⊢;rw[qb om]at h;obtain⟨X,h1,h2,h3⟩:=Gh hk h;exact⟨X,h1,h2,fun l' hl'=>by rw[qb om];exact h3 l' hl'⟩
end
noncomputable section
theorem MR.ext{φ:Ph}{l l':EL}{S:St}(h:MR φ l S)(e:∀j,dM l j=dM l' j):MR φ l' S :=
 ⟨fun i hi=>h.dom i (by rw[e];exact hi),fun i X hi=>h.live i X (by rw[e];exact hi),fun i j X Y b hi hj=>h.inj i j X Y b (by rw[e];exact hi) (by rw[e];exact hj)⟩
def AG(ops:Array Oper)(L:Nat->Bool):Prop:=∀i o,ops[i]? = some o->L i=true->∀k∈aft o,L k=true
structure Lj(ops:Array Oper)(T:Nat->TE)(N:Nat->Nat)(M:Nat->EL)(V:Nat->XV)(φ0:Ph)(L:Nat->Bool)(O:Tm)(S:St)(φ:Ph)(s:Nat)(m:EL):Prop where
 le:φ0.le φ
 s1:s<=ops.size
 s2:∀w,mt ops w=4->L w=true->w<s
 s3:s=0∨∃w,s=w+1/\mt ops w=4/\L w=true
 t1:∀t k,L k=true->xH ops k=some t->ER φ (V k) (O t)
 t2:∀t,(∀k,L k=true->xH ops k≠some t)->ER φ (iT (T 0) t) (O t)
 mr:MR φ m S
 m1:∀k,s<=k->mt ops k=2->L k=true->dM m (N k)=dM (M (k+1)) (N k)
 m2:∀j,(∀k,s<=k->mt ops k=2->L k=true->N k≠j)->dM m j=dM (M s) j
theorem rd{ops:Array Oper}{i:Nat}{o:Oper}(h:ops[i]? = some o):mt ops i=ft o.op:=by unfold mt;rw[h]
theorem G8{ops:Array Oper}{i:Nat}(h:mt ops i≠0):∃o,ops[i]? = some o/\i<ops.size:=by
 unfold mt at h
 cases ho:ops[i]? with
 | none=>rw[ho]at h;exact absurd rfl h
 | some o=>exact⟨o,rfl,(bS.1 ho).1⟩
theorem Bz(o:Op):ft o<=4:=by
 cases o<;>try (simp[ft];done)
 case call c=>have:=qC c;omega
theorem pu.still{call:dC}(hp:rV call){ops:Array Oper}{T:Nat->TE}{N:Nat->Nat}{M:Nat->EL}{V:Nat->XV}(h:pu call ops T N M V){i:Nat}{o:Oper}(ho:ops[i]? = some o)(h2:mt ops i≠2)(h4:mt ops i≠4):N (i+1)=N i/\M (i+1)=M i:=by
 have hst:=h.step i o ho;rw[rd ho]at h2 h4;have hle:=Bz o.op;have:((N (i+1),M (i+1)):Nat×EL)=(N i,M i):=by
  rcases (om:ft o.op=0∨ft o.op=1∨ft o.op=3)with e|e|e
  ·exact(DQ hp e hst).1
  ·exact(qO e hst).1
  ·exact Lp e hst
 exact⟨congrArg Prod.fst this,congrArg Prod.snd this⟩
theorem pu.make{call:dC}{ops:Array Oper}{cls:List Nat}{alts:Nat->List Nat}(hs:oA ops cls alts){T:Nat->TE}{N:Nat->Nat}{M:Nat->EL}{V:Nat->XV}(h:pu call ops T N M V){i:Nat}{o:Oper}(ho:ops[i]? = some o)(h2:mt ops i=2) :
  dM (M i) (N i)=ac/\N (i+1)=N i+1/\∃X,M (i+1)=qj (M i) (N i) (some X)/\∀l',dM l' (N i)=ac->xg call ops o (T i) (N i) l'=some (V i,N i+1,qj l' (N i) (some X)):=by
 have hst:=h.step i o ho;rw[rd ho]at h2;obtain⟨X,k1,k2,k3⟩:=IP (hs.guard i o ho h2) h2 hst;have e:=congrArg Prod.snd k2;exact⟨k1,congrArg Prod.fst e,X,congrArg Prod.snd e,k3⟩
theorem pu.seg{call:dC}(hp:rV call){ops:Array Oper}{cls:List Nat}{alts:Nat->List Nat}(hs:oA ops cls alts){T:Nat->TE}{N:Nat->Nat}{M:Nat->EL}{V:Nat->XV}(h:pu call ops T N M V){s:Nat}:∀i,s<=i->i<=ops.size->(∀w,s<=w->w<i->mt ops w≠4) ->
  N s<=N i/\(∀k,s<=k->k<i->mt ops k=2->N k<N i/\dM (M i) (N k)=dM (M (k+1)) (N k)/\dM (M s) (N k)=ac)/\∀j,(∀k,s<=k->k<i->mt ops k=2->N k≠j)->dM (M i) j=dM (M s) j:=by
 intro i
 induction i with
 | zero =>
  intro h1 _ _;obtain rfl:s=0:=om
  exact⟨ah _,fun k _ hk=>om,fun j _=>rfl⟩
 | succ i ih =>
  intro h1 h2 hw;by_cases e:s=i+1
  ·subst e;exact⟨ah _,fun k a b=>om,fun j _=>rfl⟩
  obtain⟨q1,q2,q3⟩:=ih om om (fun w a b=>hw w a om);obtain⟨o,ho⟩:∃o,ops[i]? = some o:=⟨ops[i],aG om⟩;by_cases hk:mt ops i=2
  ·obtain⟨r1,r2,X,r3,_⟩:=h.make hs ho hk;refine⟨om,fun k a b c=>?_,fun j hj=>?_⟩
   ·by_cases ek:k=i
    ·subst ek;refine⟨om,rfl,?_⟩
     rw[<-q3 (N k) (fun k' a' b' c'=>by have:=(q2 k' a' b' c').1;omega)];exact r1
    ·obtain⟨u1,u2,u3⟩:=q2 k a om c;refine⟨om,?_,u3⟩
     rw[r3,eM,if_neg om];exact u2
   ·rw[r3,eM,if_neg (fun e2=>hj i om om hk e2.symm)];exact q3 j fun k a b c=>hj k a om c
  ·obtain⟨r1,r2⟩:=h.still hp ho hk (hw i om om);rw[r1,r2];refine⟨q1,fun k a b c=>?_,fun j hj=>q3 j fun k a b c=>hj k a om c⟩;have ek:k≠i:=fun e2=>by subst e2;exact hk c
   exact q2 k a om c
theorem If{ops:Array Oper}(h:yO ops=true){i:Nat}{o:Oper}(ho:ops[i]? = some o){k:Nat}(hk:k∈aft o):k<i:=by
 have h1:=aB.1 h (o,i) (gn (by simpa using ho))
 have h2:=aB.1 h1 k hk;simpa using h2
theorem tF{ops:Array Oper}{cls:List Nat}{alts:Nat->List Nat}(hs:oA ops cls alts):∀(i:Nat),i<ops.size->∀k,jC cls i k=true->k<i:=by
 intro i
 induction i using oB with
 | ind i ih =>
  intro hi k hk;have ho:ops[i]? = some ops[i]:=aG hi;obtain⟨j,hj,e⟩:=hs.cl i _ k ho hk;have hji:=If hs.aft ho hj;rcases e with rfl|e
  ·exact hji
  ·have:=ih j hji om k e;omega
theorem J8{ops:Array Oper}{cls:List Nat}{alts:Nat->List Nat}(hs:oA ops cls alts){L:Nat->Bool}(hb:∀i,L i=true->i<ops.size)(hc:AG ops L):∀(x:Nat),L x=true->∀k,jC cls x k=true->L k=true:=by
 intro x
 induction x using oB with
 | ind x ih =>
  intro hx k hk;obtain⟨o,ho⟩:∃o,ops[x]? = some o:=⟨ops[x]'(hb x hx),aG (hb x hx)⟩;obtain⟨j,hj,e⟩:=hs.cl x _ k ho hk;have hL:=hc x _ ho hx j hj;rcases e with rfl|e
  ·exact hL
  ·exact ih j (If hs.aft ho hj) hL k e
theorem qw{ops:Array Oper}{cls:List Nat}{alts:Nat->List Nat}(hs:oA ops cls alts){te:TE}{V:Nat->XV}{L:Nat->Bool}{O:Tm}{φ ψ:Ph}(hle:φ.le ψ){i:Nat}{o:Oper}(ho:ops[i]? = some o){z:AV}(hz:ER ψ (V i) z)
  (t1:∀t k,L k=true->xH ops k=some t->ER φ (V k) (O t)) (t2:∀t,(∀k,L k=true->xH ops k≠some t)->ER φ (iT te t) (O t)) :
  (∀t k,(if k=i then true else L k)=true->xH ops k=some t->ER ψ (V k) (O.put o.dst z t))/\∀t,(∀k,(if k=i then true else L k)=true->xH ops k≠some t)->ER ψ (iT te t) (O.put o.dst z t):=by
 have hd:xH ops i=o.dst:=by unfold xH;rw[ho];rfl
 have hput:∀t,O.put o.dst z t=if o.dst=some t then z else O t:=fun t=>by
  cases ho':o.dst with
  | none=>rw[GR];simp
  | some d =>
   by_cases e:t=d
   ·subst e;rw[Jj];simp
   ·rw[GS e,if_neg (fun e2=>e (ef.inj e2).symm)]
 refine⟨fun t k hk hkt=>?_,fun t hn=>?_⟩
 ·rw[hput];by_cases e:k=i
  ·subst e;rw[if_pos (by rw[<-hd];exact hkt)];exact hz
  ·rw[if_neg (fun e2=>e (hs.dst k i t hkt (by rw[hd];exact e2)))]
   rw[if_neg e]at hk;exact(t1 t k hk hkt).mono hle
 ·rw[hput,if_neg (by rw[<-hd];exact hn i sm)]
  exact(t2 t fun k hk=>hn k (by by_cases e:k=i<;>simp[e,hk])).mono hle
theorem GO{call:dC}{ops:Array Oper}{cls:List Nat}{alts:Nat->List Nat}(hs:oA ops cls alts){T:Nat->TE}{N:Nat->Nat}{M:Nat->EL}{V:Nat->XV}(h:pu call ops T N M V){L:Nat->Bool}{O:Tm}{φ:Ph}{i:Nat}{o:Oper}(ho:ops[i]? = some o)(hi:i<ops.size)(hb:∀i,L i=true->i<ops.size)
  (cin:∀k,jC cls i k=true->L k=true) (nin:∀k,L k=true->jC cls k i=true->False)
  (t1:∀t k,L k=true->xH ops k=some t->ER φ (V k) (O t)) (t2:∀t,(∀k,L k=true->xH ops k≠some t)->ER φ (iT (T 0) t) (O t)) (hiL:L i=false) :
  ∀t∈o0 ops o,ER φ (iT (T i) t) (O t):=by
 intro t ht;by_cases hk:∃k,L k=true/\xH ops k=some t
 ·obtain⟨k,h1,h2⟩:=hk;have hki:k≠i:=fun e=>by subst e;rw[h1]at hiL;cases hiL
  have hc:=hs.reads i o t k ho ht hki h2;unfold comp at hc;rcases gY.1 hc with e|e
  ·rw[(h.get hs i om t).1 k (tF hs i hi k e) h2];exact t1 t k h1 h2
  ·exact(nin k h1 e).elim
 ·rw[(h.get hs i om t).2 fun k hki hkt=>?_]
  ·exact t2 t fun k h1 h2=>hk ⟨k,h1,h2⟩
  ·have hc:=hs.reads i o t k ho ht om hkt;unfold comp at hc;rcases gY.1 hc with e|e
   ·exact hk ⟨k,cin k e,hkt⟩
   ·have:=tF hs k om i e;omega
theorem Jn{call:dC}(hc:kY call)(hp:rV call){ops:Array Oper}{cls:List Nat}{alts:Nat->List Nat}(hs:oA ops cls alts){T:Nat->TE}{N:Nat->Nat}{M:Nat->EL}{V:Nat->XV}(h:pu call ops T N M V)
  (hl:∀(i:Nat) (o:Oper) a,ops[i]? = some o->ft o.op=1->a∈alts i->∃nx,xg call ops o (T i) nx (M a)=some (V i,nx,M a))
  {φ0:Ph} (hG:GP φ0) {O:Tm} {S:St} (ht:TR φ0 (T 0) O) (hm:MR φ0 (M 0) S) {K:Tm->St->Prop} (hK:∀ψ O' S',φ0.le ψ->TR ψ (T ops.size) O'->MR ψ (M ops.size) S'->K O' S'):awI ops O S K:=by
 refine⟨fun L O S=>(∀i,L i=true->i<ops.size)/\AG ops L/\∃φ s m,Lj ops T N M V φ0 L O S φ s m,hs.aft,?_,?_,?_⟩
 ·exact⟨fun i hi=>(pE hi).elim,fun i o _ hi=>(pE hi).elim,φ0,0,M 0,Ph.le_refl _,ke _,fun w _ hw=>(pE hw).elim,bQ rfl,fun t k hk=>(pE hk).elim,fun t _=>ht t,hm,fun k _ _ hk=>(pE hk).elim,fun j _=>rfl⟩
 ·intro i o ho L O S hP hi ha;obtain⟨hb,hcl,φ,s,m,P⟩:=hP;have hisz:i<ops.size:=(bS.1 ho).1;have hda:=J8 hs hb hcl;have cin:∀k,jC cls i k=true->L k=true:=fun k hk=>by
   obtain⟨j,hj,e⟩:=hs.cl i o k ho hk;rcases e with rfl|e
   ·exact ha _ hj
   ·exact hda j (ha j hj) k e
  have nin:∀k,L k=true->jC cls k i=true->False:=fun k h1 h2=>by rw[hda k h1 i h2]at hi;cases hi
  have hr:=GO hs h ho hisz hb cin nin P.t1 P.t2 hi;have hGφ:=hG.mono P.le;have hst:=h.step i o ho;have kk:=rd ho;have hb':∀k,(if k=i then true else L k)=true->k<ops.size:=fun k hk=>by
   by_cases e:k=i
   ·omega
   ·rw[if_neg e]at hk;exact hb k hk
  have hcl':AG ops (fun k=>if k=i then true else L k):=fun x ox hox hx k hk=>by
   show(if k=i then true else L k)=true
   by_cases e:k=i
   ·rw[if_pos e]
   ·rw[if_neg e];by_cases ex:x=i
    ·subst ex;rw[ho]at hox;cases hox;exact ha k hk
    ·have hx':(if x=i then true else L x)=true:=hx
     rw[if_neg ex]at hx';exact hcl x ox hox hx' k hk
  have same:∀ψ z S',φ.le ψ->ER ψ (V i) z->MR ψ m S'->mt ops i≠2->mt ops i≠4->Lj ops T N M V φ0 (fun k=>if k=i then true else L k) (O.put o.dst z) S' ψ s m:=fun ψ z S' hle hz hm' n2 n4=>by
   obtain⟨t1,t2⟩:=qw hs hle ho hz P.t1 P.t2;refine⟨Ph.le_trans P.le hle,P.s1,fun w hw hLw=>?_,P.s3.imp id fun⟨w,e1,e2,e3⟩=>⟨w,e1,e2,by show(if w=i then true else L w)=true;rw[e3];simp⟩,t1,t2,hm',fun k h1 h2 h3=>?_,fun j hj=>P.m2 j fun k h1 h2 h3=>hj k h1 h2 (by show(if k=i then true else L k)=true;rw[h3];simp)⟩
   ·have hLw':(if w=i then true else L w)=true:=hLw
    have e:w≠i:=fun e=>by subst e;exact n4 hw
    rw[if_neg e]at hLw';exact P.s2 w hw hLw'
   ·have h3':(if k=i then true else L k)=true:=h3
    have e:k≠i:=fun e=>by subst e;exact n2 h2
    rw[if_neg e]at h3';exact P.m1 k h1 h2 h3'
  have hle4:=Bz o.op;have segL:∀k,s<=k->mt ops k=2->L k=true->∀w,s<=w->w<k+1->mt ops w≠4:=fun k h1 h2 h3 w h4 h5 h6=>by
   have hwk:w≠k:=fun e=>by subst e;omega
   rcases gY.1 (hs.four w k hwk h6 om)with e|e
   ·obtain⟨_,_,hw⟩:=G8 (ops:=ops) (i:=w) om;have:=tF hs w hw k e;omega
   ·have:=P.s2 w h6 (hda k h3 w e);omega
  have sLe:2<=mt ops i->s<=i:=fun h2=>by
   rcases P.s3 with e0|⟨w,e1,e2,e3⟩
   ·omega
   ·have hwi:w≠i:=fun e=>by subst e;rw[e3]at hi;cases hi
    rcases gY.1 (hs.four w i hwi e2 h2)with e|e
    ·exact(nin w e3 e).elim
    ·have:=tF hs i hisz w e;omega
  have noW:2<=mt ops i->∀w,s<=w->w<i->mt ops w≠4:=fun h2 w h3 h4 h5=>by
   rcases gY.1 (hs.four w i om h5 h2)with e|e
   ·have:=tF hs w om i e;omega
   ·have:=P.s2 w h5 (cin w e);omega
  have eqMi:2<=mt ops i->(∀k,mt ops k=2->comp cls i k=true)->∀j,dM m j=dM (M i) j:=fun h2 hcm j=>by
   have hsi:=sLe h2;have sg:=h.seg (s:=s) hp hs i hsi om (noW h2);have kIn:∀k,mt ops k=2->k<i->L k=true:=fun k hk hlt=>by
    rcases gY.1 (hcm k hk)with e|e
    ·exact cin k e
    ·have:=tF hs k om i e;omega
   by_cases hk:∃k,s<=k/\k<i/\mt ops k=2/\N k=j
   ·obtain⟨k,h1,h3,h4,rfl⟩:=hk;rw[P.m1 k h1 h4 (kIn k h4 h3),(sg.2.1 k h1 h3 h4).2.1]
   ·rw[P.m2 j fun k h1 h3 h4 h5=>?_,sg.2.2 j fun k h1 h3 h4 h5=>hk ⟨k,h1,h3,h4,h5⟩];rcases gY.1 (hcm k h3)with e|e
    ·exact hk ⟨k,h1,tF hs i hisz k e,h3,h5⟩
    ·exact nin k h4 e
  rcases (om:ft o.op=0∨ft o.op=1∨ft o.op=2∨ft o.op=3∨ft o.op=4)with e|e|e|e|e
  ·obtain⟨_,e2⟩:=DQ hp e hst;exact uq hc (e2 (N i) m) hGφ hr P.mr fun ψ z S' hle hz hm'=>⟨hb',hcl',ψ,s,m,same ψ z S' hle hz hm' om om⟩
  ·have base:∀j X,dM (M s) j=some (some X)->dM m j=some (some X):=fun j X hj=>by
    rw[P.m2 j fun k h1 h2 h3 e3=>by
     subst e3;have:=((h.seg hp hs (k+1) om (by have:=hb k h3;omega) (segL k h1 h2 h3)).2.1 k h1 om h2).2.2
     rw[this]at hj;cases hj]
    exact hj
   have hsub:∃a∈alts i,∀j X,dM (M a) j=some (some X)->dM m j=some (some X):=by
    have caseA:(∀w,s=w+1->mt ops w=4->L w=true->jC cls i w=true)->∃a∈alts i,∀j X,dM (M a) j=some (some X)->dM m j=some (some X):=fun hA=>by
     obtain⟨a,ha1,ha2,ha3,ha4⟩:=hs.altA i om;have hsa:s<=a:=by
      rcases P.s3 with e0|⟨w,e1,e2,e3⟩
      ·omega
      ·have:=ha3 w e2 (hA w e1 e2 e3);omega
     have sg:=h.seg hp hs a hsa om fun w h1 h2 h3=>by
      have:=P.s2 w h3 (cin w (ha4 w h2 om om));omega
     refine⟨a,ha1,fun j X hj=>?_⟩;by_cases hk:∃k,s<=k/\k<a/\mt ops k=2/\N k=j
     ·obtain⟨k,h1,h2,h3,rfl⟩:=hk;rw[P.m1 k h1 h3 (cin k (ha4 k h2 om om)),<-(sg.2.1 k h1 h2 h3).2.1];exact hj
     ·refine base j X ?_;rw[<-sg.2.2 j fun k h1 h2 h3 h4=>hk ⟨k,h1,h2,h3,h4⟩];exact hj
    rcases P.s3 with e0|⟨w,e1,e2,e3⟩
    ·exact caseA fun w h1=>om
    ·cases hbw:jC cls i w with
     | true =>
      exact caseA fun w' h1 _ _=>by
       obtain rfl:w'=w:=om
       exact hbw
     | false =>
      have hcw:comp cls i w=false:=by
       unfold comp;rw[hbw]
       cases hwi:jC cls w i with
       | true=>exact(nin w e3 hwi).elim
       | false=>rfl
      exact⟨w+1,hs.altW i w om e2 hcw,e1▸base⟩
   obtain⟨a,ha1,ha2⟩:=hsub;obtain⟨nx,hx⟩:=hl i o a ho e ha1;have hx2:=(qO e hx).2 (N i) m ha2;exact uq hc hx2 hGφ hr P.mr fun ψ z S' hle hz hm'=>⟨hb',hcl',ψ,s,m,same ψ z S' hle hz hm' om om⟩
  ·obtain⟨r1,r2,X,r3,r4⟩:=h.make hs ho om;have hsi:=sLe om;have hnw:=noW om;have sg:=h.seg (s:=s) hp hs (i+1) om om fun w h1 h2 h3=>by
    by_cases ew:w=i
    ·subst ew;omega
    ·exact hnw w h1 om h3
   have hne:∀k,s<=k->mt ops k=2->L k=true->N k≠N i:=fun k h1 h2 h3=>by
    have hki:k≠i:=fun e=>by subst e;rw[h3]at hi;cases hi
    by_cases hlt:k<i
    ·have:=(h.seg hp hs i hsi om hnw).2.1 k h1 hlt h2;omega
    ·have:=(h.seg hp hs k om (by have:=hb k h3;omega) (fun w a b=>segL k h1 h2 h3 w a om)).2.1 i hsi om om
     omega
   have hnone:dM m (N i)=ac:=by
    rw[P.m2 (N i) hne];exact(sg.2.1 i hsi om om).2.2
   refine uq hc (r4 m hnone) hGφ hr P.mr fun ψ z S' hle hz hm'=>⟨hb',hcl',ψ,s,qj m (N i) (some X),?_⟩;obtain⟨t1,t2⟩:=qw hs hle ho hz P.t1 P.t2;refine⟨Ph.le_trans P.le hle,P.s1,fun w hw hLw=>?_,P.s3.imp id fun⟨w,e1,e2,e3⟩=>⟨w,e1,e2,by show(if w=i then true else L w)=true;rw[e3];simp⟩,t1,t2,hm',fun k h1 h2 h3=>?_,fun j hj=>?_⟩
   ·have hLw':(if w=i then true else L w)=true:=hLw
    have e:w≠i:=fun e=>by subst e;omega
    rw[if_neg e]at hLw';exact P.s2 w hw hLw'
   ·have h3':(if k=i then true else L k)=true:=h3
    by_cases ek:k=i
    ·subst ek;rw[r3,eM,eM,if_pos rfl,if_pos rfl]
    ·rw[if_neg ek]at h3';rw[eM,if_neg (hne k h1 h2 h3')];exact P.m1 k h1 h2 h3'
   ·rw[eM,if_neg (fun e2=>hj i hsi om sm e2.symm)]
    refine P.m2 j fun k h1 h2 h3=>hj k h1 h2 (by show(if k=i then true else L k)=true;rw[h3];simp)
  ·have eqM:=eqMi om fun k hk=>hs.three i k om hk;refine uq hc hst hGφ hr (P.mr.ext eqM) fun ψ z S' hle hz hm'=>⟨hb',hcl',ψ,s,m,same ψ z S' hle hz (MR.ext ?_ fun j=>(eqM j).symm) om om⟩;have:=(h.still hp ho om om).2;rw[this]at hm';exact hm'
  ·have hki:mt ops i=4:=om
   have cmpC:∀k,mt ops k=2->comp cls i k=true:=fun k hk=>hs.four i k (fun e=>by subst e;omega) hki om
   have eqM:=eqMi om cmpC;have hsi:=sLe om;refine uq hc hst hGφ hr (P.mr.ext eqM) fun ψ z S' hle hz hm'=>⟨hb',hcl',ψ,i+1,M (i+1),?_⟩;obtain⟨t1,t2⟩:=qw hs hle ho hz P.t1 P.t2;refine⟨Ph.le_trans P.le hle,om,fun w hw hLw=>?_,bH ⟨i,rfl,hki,sm⟩,t1,t2,hm',fun k h1 h2 h3=>?_,fun j _=>rfl⟩
   ·have hLw':(if w=i then true else L w)=true:=hLw
    by_cases ew:w=i
    ·omega
    ·rw[if_neg ew]at hLw';have:=P.s2 w hw hLw';omega
   ·have h3':(if k=i then true else L k)=true:=h3
    rw[if_neg om]at h3';rcases gY.1 (cmpC k h2)with e|e
    ·have:=tF hs i hisz k e;omega
    ·exact(nin k h3' e).elim
 ·intro L O S hP hall;obtain⟨hb,hcl,φ,s,m,P⟩:=hP;have sg:=h.seg (s:=s) hp hs ops.size P.s1 (ah _) fun w h1 h2 h3=>by
   have:=P.s2 w h3 (hall w h2);omega
  refine hK φ O S P.le (fun t=>?_) (P.mr.ext fun j=>?_)
  ·by_cases hk:∃k,k<ops.size/\xH ops k=some t
   ·obtain⟨k,h1,h2⟩:=hk;rw[(h.get hs _ (ah _) t).1 k h1 h2];exact P.t1 t k (hall k h1) h2
   ·rw[(h.get hs _ (ah _) t).2 fun k h1 h2=>hk ⟨k,h1,h2⟩];exact P.t2 t fun k h1 h2=>hk ⟨k,hb k h1,h2⟩
  ·by_cases hk:∃k,s<=k/\k<ops.size/\mt ops k=2/\N k=j
   ·obtain⟨k,h1,h2,h3,rfl⟩:=hk;rw[P.m1 k h1 h3 (hall k h2),(sg.2.1 k h1 h2 h3).2.1]
   ·rw[P.m2 j fun k h1 h2 h3 h4=>hk ⟨k,h1,hb k h3,h2,h4⟩,sg.2.2 j fun k h1 h2 h3 h4=>hk ⟨k,h1,h2,h3,h4⟩]
end
noncomputable section
def yv(cls:List Nat):List Nat->Nat
 | []=>0
 | j::r=>2^j ||| (cls.getD j 0 ||| yv cls r)
theorem yu{cls:List Nat}{k:Nat}:∀{l:List Nat},ig (yv cls l) k=true->∃j∈l,j=k∨jC cls j k=true
 | [],h=>by simp[yv]at h
 | j::r,h=>by
  simp only[yv,Nat.testBit_or,dj]at h;rcases h with h|h|h
  ·rw[Nat.testBit_two_pow]at h;exact⟨j,er ..,bQ (by simpa using h)⟩
  ·exact⟨j,er ..,bH h⟩
  ·obtain⟨i,hi,e⟩:=yu h;exact⟨i,List.mem_cons_of_mem _ hi,e⟩
def yJ:List Oper->List Nat->List Nat
 | [],c=>c
 | o::r,c=>yJ r (c++[yv c (aft o)])
def Dw(p:Nat->Oper->Bool):Nat->List Oper->Bool
 | _,[]=>true
 | i,o::r=>p i o&&Dw p (i+1) r
theorem rE{p:Nat->Oper->Bool}:∀{l:List Oper} {k:Nat},Dw p k l=true->∀(i:Nat) (o:Oper),l[i]? = some o->p (k+i) o=true
 | [],_,_,i,o,h=>by simp at h
 | x::r,k,h,i,o,hi=>by
  simp only[Dw,aA]at h
  cases i with
  | zero=>simp at hi;subst hi;exact h.1
  | succ i =>
   rw[bT]at hi;have:=rE h.2 i o hi
   rwa [(om:k+1+i=k+(i+1))]at this
def vY:List Oper->Nat->Bool
 | [],_=>true
 | o::r,m=>match o.dst with
  | ac=>vY r m
  | some d=>!ig m d&&vY r (m ||| 2^d)
theorem sL:∀{l:List Oper} {m:Nat},vY l m=true->(∀(i:Nat) (d:Nat),(l[i]?).bind (·.dst)=some d->ig m d=false)/\∀(i j d:Nat),(l[i]?).bind (·.dst)=some d->(l[j]?).bind (·.dst)=some d->i=j
 | [],_,_=>⟨fun i d h=>by simp at h,fun i j d h=>by simp at h⟩
 | o::r,m,h=>by
  simp only[vY]at h
  cases ho:o.dst with
  | none =>
   rw[ho]at h;obtain⟨h1,h2⟩:=sL h;refine⟨fun i d hi=>?_,fun i j d hi hj=>?_⟩
   ·cases i with
    | zero=>simp[ho]at hi
    | succ i=>exact h1 i d (by simpa using hi)
   ·cases i with
    | zero=>simp[ho]at hi
    | succ i =>
     cases j with
     | zero=>simp[ho]at hj
     | succ j=>rw[h2 i j d (by simpa using hi) (by simpa using hj)]
  | some d0 =>
   rw[ho]at h;simp only[aA,fF]at h;obtain⟨h1,h2⟩:=sL h.2;have h1':∀(i d:Nat),(r[i]?).bind (·.dst)=some d->ig m d=false/\d≠d0:=fun i d hi=>by
    have:=h1 i d hi;rw[Nat.testBit_or,Bool.or_eq_false_iff,Nat.testBit_two_pow]at this;exact⟨this.1,fun e=>by simp[e]at this⟩
   refine⟨fun i d hi=>?_,fun i j d hi hj=>?_⟩
   ·cases i with
    | zero=>simp[ho]at hi;subst hi;exact h.1
    | succ i=>exact(h1' i d (by simpa using hi)).1
   ·cases i with
    | zero =>
     simp[ho]at hi
     cases j with
     | zero=>rfl
     | succ j=>exact((h1' j d (by simpa using hj)).2 hi.symm).elim
    | succ i =>
     cases j with
     | zero=>simp[ho]at hj;exact((h1' i d (by simpa using hi)).2 hj.symm).elim
     | succ j=>rw[h2 i j d (by simpa using hi) (by simpa using hj)]
def BR:List Oper->Nat
 | []=>0
 | o::r=>match o.dst with
  | ac=>BR r
  | some d=>2^d ||| BR r
theorem BQ:∀{l:List Oper} {i d:Nat},(l[i]?).bind (·.dst)=some d->ig (BR l) d=true
 | [],i,d,h=>by simp at h
 | o::r,i,d,h=>by
  simp only[BR]
  cases i with
  | zero =>
   simp at h;rw[h];simp[Nat.testBit_or]
  | succ i =>
   have:=BQ (l:=r) (i:=i) (d:=d) (by simpa using h)
   cases ho:o.dst with
   | none=>exact this
   | some d0=>simp[Nat.testBit_or,this]
def Aj(ops:List Oper)(cls:List Nat)(ks:List Nat)(i:Nat):List Nat :=
 match ay (ks.getD i 0) 1 with
 | true =>
  let n:=ops.length
  let a1:=((cn n).filter fun w=>ay (ks.getD w 0) 4&&jC cls i w).foldl (fun a w=>Nat.max a (w+1)) 0
  let a0:=(((cn i).filter fun k=>ix a1 k&&(ay (ks.getD k 0) 2||ay (ks.getD k 0) 4)&&!jC cls i k).head?).getD i
  a0::((cn n).filter fun w=>ay (ks.getD w 0) 4&&!comp cls i w).map (·+1)
 | false=>[]
def zL(l:List Oper)(cls ks:List Nat)(alts:Nat->List Nat):Bool :=
 let D:=BR l
 let n:=l.length
 yO l.toArray&&vY l 0 &&
 Dw (fun i o=>ay (cls.getD i 0) (yv cls (aft o))&&ay (ks.getD i 0) (ft o.op)) 0 l &&
 Dw (fun i o=>(o0 l.toArray o).all fun t=>!ig D t||Dw (fun k p=>match p.dst with
  | some d=>!ay d t||ay k i||comp cls i k
  | ac=>true) 0 l) 0 l &&
 Dw (fun i o=>match ay (ks.getD i 0) 2 with
  | true=>o.guard.isNone
  | false=>match ay (ks.getD i 0) 4 with
   | true=>(cn n).all fun j=>ay i j||aO (ks.getD j 0) 2||comp cls i j
   | false=>match ay (ks.getD i 0) 3 with
    | true=>(cn n).all fun j=>!ay (ks.getD j 0) 2||comp cls i j
    | false=>match ay (ks.getD i 0) 1 with
     | true=>((cn n).all fun w=>!ay (ks.getD w 0) 4||comp cls i w||(alts i).contains (w+1)) &&
      (alts i).any fun a=>ix a i&&((cn n).all fun w=>!ay (ks.getD w 0) 4||!jC cls i w||aO w a) &&
       (cn a).all fun k=>aO (ks.getD k 0) 2||ay (ks.getD k 0) 3||jC cls i k
     | false=>true) 0 l
theorem bor{a b:Bool}(h:(!a||b)=true)(ha:a=true):b=true:=by subst ha;simpa using h
theorem CY{l:List Oper}{cls ks:List Nat}{alts:Nat->List Nat}(h:zL l cls ks alts=true):oA l.toArray cls alts:=by
 simp only[zL,aA]at h;obtain⟨⟨⟨⟨h1,h2⟩,h3⟩,h4⟩,h5⟩:=h;have a3:=rE h3;have a4:=rE h4;have a5:=rE h5;have get:∀(i:Nat) (o:Oper),l.toArray[i]? = some o->l[i]? = some o:=fun i o ho=>by simpa using ho
 have dAtE:∀i,xH l.toArray i=(l[i]?).bind (·.dst):=fun i=>by unfold xH;simp
 have lt:∀(i:Nat) (o:Oper),l[i]? = some o->i<l.length:=fun i o ho=>(List.getElem?_eq_some_iff.1 ho).1;have ksE:∀(i:Nat) (o:Oper),l[i]? = some o->ks.getD i 0=ft o.op:=fun i o ho=>by
  have:=a3 i o ho;simp only[aA,aF]at this;exact ap this.2
 have kE:∀(i:Nat) (o:Oper),l[i]? = some o->mt l.toArray i=ks.getD i 0:=fun i o ho=>by rw[ksE i o ho];exact rd (by simpa using ho)
 have kS:∀i,mt l.toArray i≠0->∃o,l[i]? = some o/\i<l.length/\mt l.toArray i=ks.getD i 0:=fun i hi=>by
  obtain⟨o,ho,hl⟩:=G8 hi;exact⟨o,get i o ho,by simpa using hl,kE i o (get i o ho)⟩
 refine⟨h1,fun i o k ho hk=>?_,fun i j d hi hj=>?_,fun i o t k ho ht hki hkt=>?_,fun i j hij hi hj=>?_,fun i j hi hj=>?_,fun i o ho hk=>?_,fun i w hi hw hc=>?_,fun i hi=>?_⟩
 ·have:=a3 i o (get i o ho);simp only[aA,aF]at this;have e:=ap this.1;unfold jC bit at hk;rw[e]at hk;exact yu hk
 ·rw[dAtE]at hi hj;exact(sL h2).2 i j d hi hj
 ·have:=a4 i o (get i o ho);simp only[aF,aB]at this;have:=this t ht;rw[dAtE]at hkt;have:=bor this (BQ hkt)
  cases hlk:l[k]? with
  | none=>rw[hlk]at hkt;simp at hkt
  | some p =>
   rw[hlk]at hkt;simp only[da]at hkt;have:=rE this k p hlk;simp only[aF]at this;rw[hkt]at this;simp only[dj,fF]at this;rcases this with (e|e)|e
   ·simp at e
   ·exact(hki (ap e)).elim
   ·exact e
 ·obtain⟨o,ho,hil,hk⟩:=kS i om;obtain⟨p,hp,hjl,hkj⟩:=kS j om;have:=a5 i o ho;simp only[aF]at this;rw[(om:ks.getD i 0=4)]at this
  simp only[aB]at this;have:=this j (eQ.2 hjl);simp only[dj]at this;rcases this with (e|e)|e
  ·exact(hij (ap e)).elim
  ·have:ks.getD j 0<2:=by simpa [pA]using e
   omega
  ·exact e
 ·obtain⟨o,ho,hil,hk⟩:=kS i om;obtain⟨p,hp,hjl,hkj⟩:=kS j om;have:=a5 i o ho;simp only[aF]at this;rw[(om:ks.getD i 0=3)]at this
  simp only[aB]at this;have:=this j (eQ.2 hjl);exact bor this (by rw[(om:ks.getD j 0=2)];rfl)
 ·have:=a5 i o (get i o ho);simp only[aF]at this;rw[ksE i o (get i o ho),hk]at this;simpa using this
 ·obtain⟨o,ho,hil,hk⟩:=kS i om;obtain⟨p,hp,hwl,hkw⟩:=kS w om;have:=a5 i o ho;simp only[aF]at this;rw[(om:ks.getD i 0=1)]at this
  simp only[aA]at this;have:=aB.1 this.1 w (eQ.2 hwl);rw[(om:ks.getD w 0=4),hc]at this
  simpa using this
 ·obtain⟨o,ho,hil,hk⟩:=kS i om;have:=a5 i o ho;simp only[aF]at this;rw[(om:ks.getD i 0=1)]at this
  simp only[aA]at this;obtain⟨a,ha,e⟩:=List.any_eq_true.1 this.2;simp only[aA,aB]at e;obtain⟨⟨e1,e2⟩,e3⟩:=e;refine⟨a,ha,cb e1,fun w hw hb=>?_,fun k hka hk2 hk3=>?_⟩
  ·obtain⟨p,hp,hwl,hkw⟩:=kS w om;have:=e2 w (eQ.2 hwl);rw[(om:ks.getD w 0=4),hb]at this
   simpa [pA]using this
  ·obtain⟨p,hp,hwl,hkw⟩:=kS k om;have:=e3 k (eQ.2 hka);simp only[dj]at this;rcases this with (e|e)|e
   ·have:ks.getD k 0<2:=by simpa [pA]using e
    omega
   ·have:=ap e;omega
   ·exact e
end
noncomputable section
def tput(te:TE)(d:Option Nat)(v:XV):TE:=match d with
 | some d=>uQ te d v
 | ac=>te
theorem GB(te:TE)(d:Option Nat)(v:XV)(t:Nat):iT (tput te d v) t=if d=some t then v else iT te t:=by
 cases d with
 | none=>simp[tput]
 | some d =>
  simp only[tput,lk];by_cases e:t=d
  ·subst e;simp
  ·rw[if_neg e,if_neg (fun e2=>e (ef.inj e2).symm)]
theorem TR.tput{φ:Ph}{te:TE}{O:Tm}(h:TR φ te O){d:Option Nat}{v:XV}{z:AV}(hz:ER φ v z):TR φ (tput te d v) (O.put d z):=by
 cases d with
 | none=>rw[GR];exact h
 | some d=>exact h.put hz
def Lr(call:dC)(ops:Array Oper)(o:Oper)(te:TE)(nx:Nat)(l:EL):XR:=match o.guard with
 | ac=>xT call o te nx l
 | some (j,want)=>match sI ops te j with
  | .bool b=>if b=want then xT call o te nx l else some (.any,nx,l)
  | _=>ac
theorem Lq{call:dC}(hc:kY call){ops:Array Oper}{o:Oper}{te:TE}{nx:Nat}{l:EL}{r:XV×Nat×EL}(h:Lr call ops o te nx l=some r){φ:Ph}(hG:GP φ){O:Tm}{S:St}(ht:TR φ te O)(hm:MR φ l S){K:Tm->St->Prop}
  (hk:∀ψ z S',φ.le ψ->ER ψ r.1 z->MR ψ r.2.2 S'->K (O.put o.dst z) S'):xJ ops o O S K:=by
 unfold Lr at h;unfold xJ
 cases hg:o.guard with
 | none =>
  rw[hg]at h;exact zd hc h hG ht hm fun ψ z S' h1 h2 h3=>hk ψ z S' h1 h2 h3
 | some p =>
  obtain⟨j,want⟩:=p;rw[hg]at h;dsimp only at h ⊢;have hy:ER φ (sI ops te j) (AM ops O j):=by
   unfold sI AM
   cases (ops[j]?).bind (·.dst)with
   | none=>simp[ER]
   | some d=>exact ht d
  cases he:sI ops te j<;>rw[he]at h<;>try cases h
  rename_i b;rw[he]at hy;simp only[ER]at hy;rw[hy];dsimp only at h ⊢;refine⟨fun e=>?_,fun e=>?_⟩
  ·rw[if_pos e]at h;exact zd hc h hG ht hm fun ψ z S' h1 h2 h3=>hk ψ z S' h1 h2 h3
  ·rw[if_neg (by rw[e];cases want<;>simp)]at h
   cases h
   exact hk φ .any S (Ph.le_refl _) (by simp[ER]) hm
def oS(call:dC)(ops:Array Oper)(L:List Oper):TE->Nat->EL->Option (TE×Nat×EL):=List.rec (motive:=fun _=>TE->Nat->EL->Option (TE×Nat×EL)) (fun te nx l=>some (te,nx,l))
 (fun o _ ih te nx l=>Option.rec ac (fun p=>Prod.rec (fun v q=>Prod.rec (fun nx' l'=>ih (tput te o.dst v) nx' l') q) p) (Lr call ops o te nx l)) L
theorem CA(call:dC)(ops:Array Oper)(te:TE)(nx:Nat)(l:EL):oS call ops [] te nx l=some (te,nx,l):=rfl
theorem AW(call:dC)(ops:Array Oper)(o:Oper)(r:List Oper)(te:TE)(nx:Nat)(l:EL):oS call ops (o::r) te nx l=match Lr call ops o te nx l with
  | some (v,nx',l')=>oS call ops r (tput te o.dst v) nx' l'
  | ac=>ac:=by
 show Option.rec (motive:=fun _=>Option (TE×Nat×EL)) ac (fun p=>Prod.rec (motive:=fun _=>Option (TE×Nat×EL)) (fun v q=>Prod.rec (motive:=fun _=>Option (TE×Nat×EL)) (fun nx' l'=>oS call ops r (tput te o.dst v) nx' l') q) p) (Lr call ops o te nx l)=_
 cases Lr call ops o te nx l<;>rfl
theorem xW{call:dC}(hc:kY call){ops:Array Oper}:∀{L:List Oper} {te:TE} {nx:Nat} {l:EL} {r:TE×Nat×EL},oS call ops L te nx l=some r->∀{φ:Ph},GP φ->∀{O:Tm} {S:St},TR φ te O->MR φ l S->∀{K:Tm->St->Prop},
  (∀ψ O' S',φ.le ψ->TR ψ r.1 O'->MR ψ r.2.2 S'->K O' S')->tR ops L O S K
 | [],te,nx,l,r,h,φ,hG,O,S,ht,hm,K,hK=>by
  rw[CA]at h;cases h;exact hK φ O S (Ph.le_refl _) ht hm
 | o::L,te,nx,l,r,h,φ,hG,O,S,ht,hm,K,hK=>by
  rw[AW]at h
  cases hx:Lr call ops o te nx l with
  | none=>rw[hx]at h;cases h
  | some p =>
   obtain⟨v,nx',l'⟩:=p;rw[hx]at h;have:=Lq hc hx hG ht hm (K:=fun O S=>tR ops L O S K) fun ψ z S' h1 h2 h3=>xW hc h (hG.mono h1) ((ht.mono h1).tput h2) h3 fun χ O' S'' k1 k2 k3=>hK χ O' S'' (Ph.le_trans h1 k1) k2 k3;unfold tR;unfold xJ at this;exact this
def un(call:dC)(ops:Array Oper)(L:List Oper):TE->Nat->EL->Option (TE×Nat×EL):=List.rec (motive:=fun _=>TE->Nat->EL->Option (TE×Nat×EL)) (fun te nx l=>some (te,nx,l))
 (fun o _ ih te nx l=>Option.rec ac (fun p=>Prod.rec (fun v q=>Prod.rec (fun nx' l'=>ih (tput te o.dst v) nx' l') q) p) (xg call ops o te nx l)) L
theorem xV(call:dC)(ops:Array Oper)(te:TE)(nx:Nat)(l:EL):un call ops [] te nx l=some (te,nx,l):=rfl
theorem uk(call:dC)(ops:Array Oper)(o:Oper)(r:List Oper)(te:TE)(nx:Nat)(l:EL):un call ops (o::r) te nx l=match xg call ops o te nx l with
  | some (v,nx',l')=>un call ops r (tput te o.dst v) nx' l'
  | ac=>ac:=by
 show Option.rec (motive:=fun _=>Option (TE×Nat×EL)) ac (fun p=>Prod.rec (motive:=fun _=>Option (TE×Nat×EL)) (fun v q=>Prod.rec (motive:=fun _=>Option (TE×Nat×EL)) (fun nx' l'=>un call ops r (tput te o.dst v) nx' l') q) p) (xg call ops o te nx l)=_
 cases xg call ops o te nx l<;>rfl
theorem Gk{call:dC}(hc:kY call){ops:Array Oper}:∀{L:List Oper} {te:TE} {nx:Nat} {l:EL} {r:TE×Nat×EL},un call ops L te nx l=some r->∀{φ:Ph},GP φ->∀{O:Tm} {S:St},TR φ te O->MR φ l S->∀{K:Tm->St->Prop},
  (∀ψ O' S',φ.le ψ->TR ψ r.1 O'->MR ψ r.2.2 S'->K O' S')->tR ops L O S K
 | [],te,nx,l,r,h,φ,hG,O,S,ht,hm,K,hK=>by
  rw[xV]at h;cases h;exact hK φ O S (Ph.le_refl _) ht hm
 | o::L,te,nx,l,r,h,φ,hG,O,S,ht,hm,K,hK=>by
  rw[uk]at h
  cases hx:xg call ops o te nx l with
  | none=>rw[hx]at h;cases h
  | some p =>
   obtain⟨v,nx',l'⟩:=p;rw[hx]at h;have:=KI hc hx hG ht hm (K:=fun O S=>tR ops L O S K) fun ψ z S' h1 h2 h3=>Gk hc h (hG.mono h1) ((ht.mono h1).tput h2) h3 fun χ O' S'' k1 k2 k3=>hK χ O' S'' (Ph.le_trans h1 k1) k2 k3;unfold tR;unfold xJ at this;exact this
structure M5 where
 te:TE
 nx:Nat
 l:EL
 v:XV
def Gf(call:dC)(ops:Array Oper):List Oper->TE->Nat->EL->Option (List M5)
 | [],te,nx,l=>some [⟨te,nx,l,.any⟩]
 | o::r,te,nx,l=>match xg call ops o te nx l with
  | some (v,nx',l')=>(match Gf call ops r (tput te o.dst v) nx' l' with
   | some L=>some (⟨te,nx,l,v⟩::L)
   | ac=>ac)
  | ac=>ac
def iz:M5:=⟨.e,0,.e,.any⟩
theorem uj{call:dC}{ops:Array Oper}:∀{L:List Oper} {te:TE} {nx:Nat} {l:EL} {R:List M5},Gf call ops L te nx l=some R->R.length=L.length+1/\(R.getD 0 iz).te=te/\(R.getD 0 iz).nx=nx/\(R.getD 0 iz).l=l /\
  ∀(i:Nat) (o:Oper),L[i]? = some o->xg call ops o (R.getD i iz).te (R.getD i iz).nx (R.getD i iz).l=some ((R.getD i iz).v,(R.getD (i+1) iz).nx,(R.getD (i+1) iz).l)/\(R.getD (i+1) iz).te=tput (R.getD i iz).te o.dst (R.getD i iz).v
 | [],te,nx,l,R,h=>by
  simp only[Gf]at h;cases h;exact⟨rfl,rfl,rfl,rfl,fun i o hi=>by simp at hi⟩
 | o::L,te,nx,l,R,h=>by
  simp only[Gf]at h
  cases hx:xg call ops o te nx l with
  | none=>rw[hx]at h;cases h
  | some p =>
   obtain⟨v,nx',l'⟩:=p;rw[hx]at h;dsimp only at h
   cases hr:Gf call ops L (tput te o.dst v) nx' l' with
   | none=>rw[hr]at h;cases h
   | some R' =>
    rw[hr]at h
    cases h
    obtain⟨k1,k2,k3,k4,k5⟩:=uj hr;refine⟨by simp[k1],rfl,rfl,rfl,fun i o' hi=>?_⟩
    cases i with
    | zero =>
     simp at hi;subst hi;simp only[List.getD_cons_zero,aF,bC,k2,k3,k4];exact⟨hx,trivial⟩
    | succ i =>
     simp only[bC];exact k5 i o' (by simpa using hi)
theorem xU{call:dC}{ops:Array Oper}:∀{L:List Oper} {te:TE} {nx:Nat} {l:EL} {r:TE×Nat×EL},un call ops L te nx l=some r->∃R,Gf call ops L te nx l=some R/\(R.getD L.length iz).te=r.1/\(R.getD L.length iz).nx=r.2.1/\(R.getD L.length iz).l=r.2.2
 | [],te,nx,l,r,h=>by
  rw[xV]at h;cases h;exact⟨_,rfl,rfl,rfl,rfl⟩
 | o::L,te,nx,l,r,h=>by
  rw[uk]at h
  cases hx:xg call ops o te nx l with
  | none=>rw[hx]at h;cases h
  | some p =>
   obtain⟨v,nx',l'⟩:=p;rw[hx]at h;obtain⟨R,h1,h2⟩:=xU h;refine⟨⟨te,nx,l,v⟩::R,by simp only[Gf,hx,h1],?_⟩
   simpa using h2
theorem EN{call:dC}{ops:Array Oper}{te:TE}{nx:Nat}{l:EL}{R:List M5}(h:Gf call ops ops.toList te nx l=some R):pu call ops (fun i=>(R.getD i iz).te) (fun i=>(R.getD i iz).nx) (fun i=>(R.getD i iz).l) (fun i=>(R.getD i iz).v):=by
 obtain⟨_,_,_,_,k⟩:=uj h;refine⟨fun i o ho=>(k i o (by simpa using ho)).1,fun i o t ho=>?_⟩
 show iT (R.getD (i+1) iz).te t=_;rw[(k i o (by simpa using ho)).2,GB]
def AT(call:dC)(ops:Array Oper)(R:List M5)(alts:Nat->List Nat):Nat->List Oper->Bool
 | _,[]=>true
 | i,o::r=>(match ay (ft o.op) 1 with
  | true=>(alts i).all fun a=>ay a i||(match xg call ops o (R.getD i iz).te 0 (R.getD a iz).l with
   | some (v,_,_)=>kB v (R.getD i iz).v
   | ac=>false)
  | false=>true)&&AT call ops R alts (i+1) r
theorem AS{call:dC}{ops:Array Oper}{R:List M5}{alts:Nat->List Nat}:∀{L:List Oper} {k:Nat},AT call ops R alts k L=true->∀(i:Nat) (o:Oper) (a:Nat),L[i]? = some o->ft o.op=1->a∈alts (k+i)->a=k+i∨∃r,xg call ops o (R.getD (k+i) iz).te 0 (R.getD a iz).l=some r/\r.1=(R.getD (k+i) iz).v
 | [],_,_,i,o,a,hi,_,_=>by simp at hi
 | x::L,k,h,i,o,a,hi,hk,ha=>by
  simp only[AT,aA]at h
  cases i with
  | zero =>
   simp at hi;subst hi;have h1:=h.1;rw[hk]at h1;simp only[aB]at h1;have:=h1 a ha;simp only[dj]at this;rcases this with e|e
   ·exact bQ (ap e)
   ·right;simp only[dd]at e ⊢
    cases hx:xg call ops x (R.getD k iz).te 0 (R.getD a iz).l with
    | none=>rw[hx]at e;cases e
    | some r =>
     rw[hx]at e;exact⟨r,rfl,wv _ _ e⟩
  | succ i =>
   have:=AS h.2 i o a (by simpa using hi) hk (by rwa [(om:k+1+i=k+(i+1))])
   rwa [(om:k+1+i=k+(i+1))]at this
structure Reg where
 cls:List Nat
 alts:Nat->List Nat
 easy:Bool
def qY(l:List Oper):Reg :=
 let c:=yJ l []
 let ks:=l.map fun o=>ft o.op
 let al:=(cn l.length).map (Aj l c ks)
 ⟨c,fun i=>al.getD i [],al.zipIdx.all fun p=>p.1.all fun a=>ay a p.2⟩
def GN(l:List Oper):Bool:=zL l (yJ l []) (l.map fun o=>ft o.op) (qY l).alts
def AO(call:dC)(hard:Bool)(ops:Array Oper)(te:TE)(nx:Nat)(l:EL):Option (TE×Nat×EL):=match hard with
 | false=>un call ops ops.toList te nx l
 | true=>match Gf call ops ops.toList te nx l with
  | some R=>(match AT call ops R (qY ops.toList).alts 0 ops.toList with
   | true=>some ((R.getD ops.toList.length iz).te,(R.getD ops.toList.length iz).nx,(R.getD ops.toList.length iz).l)
   | false=>ac)
  | ac=>ac
theorem J2{l:List Oper}(h:(qY l).easy=true):∀i a,a∈(qY l).alts i->a=i:=by
 intro i a ha;have h1:(((cn l.length).map (Aj l (yJ l []) (l.map fun o=>ft o.op))).zipIdx.all fun p=>p.1.all fun a=>ay a p.2)=true:=h;have ha':a∈((cn l.length).map (Aj l (yJ l []) (l.map fun o=>ft o.op))).getD i []:=ha;generalize (cn l.length).map (Aj l (yJ l []) (l.map fun o=>ft o.op))=al at h1 ha';rw[ir]at ha'
 cases hg:al[i]? with
 | none=>rw[hg]at ha';simp at ha'
 | some x =>
  rw[hg]at ha';have:=aB.1 h1 (x,i) (List.mk_mem_zipIdx_iff_getElem?.2 hg);have:=aB.1 this a ha';exact ap this
theorem Gg{call:dC}(hc:kY call)(hp:rV call){hard:Bool}{ops:Array Oper}(hchk:GN ops.toList=true)(hh:(hard||(qY ops.toList).easy)=true){te:TE}{nx:Nat}{l:EL}{r:TE×Nat×EL}(h:AO call hard ops te nx l=some r){φ:Ph}(hG:GP φ){O:Tm}{S:St}(ht:TR φ te O)(hm:MR φ l S){K:Tm->St->Prop}
  (hK:∀ψ O' S',φ.le ψ->TR ψ r.1 O'->MR ψ r.2.2 S'->K O' S'):awI ops O S K:=by
 have hs:=CY hchk;have main:∀R,Gf call ops ops.toList te nx l=some R->(R.getD ops.toList.length iz).te=r.1->(R.getD ops.toList.length iz).l=r.2.2->(∀(i:Nat) (o:Oper) a,ops[i]? = some o->ft o.op=1->a∈(qY ops.toList).alts i->∃nx,xg call ops o (R.getD i iz).te nx (R.getD a iz).l=some ((R.getD i iz).v,nx,(R.getD a iz).l))->awI ops O S K:=by
  intro R hR e1 e2 hal;obtain⟨k1,k2,k3,k4,k5⟩:=uj hR;refine Jn hc hp hs (EN hR) hal hG (by show TR φ (R.getD 0 iz).te O;rw[k2];exact ht) (by show MR φ (R.getD 0 iz).l S;rw[k4];exact hm) fun ψ O' S' h1 h2 h3=>hK ψ O' S' h1 ?_ ?_
  ·rw[<-e1];exact h2
  ·rw[<-e2];exact h3
 unfold AO at h
 cases hard with
 | false =>
  have he:(qY ops.toList).easy=true:=hh;obtain⟨R,h1,h2,h3,h4⟩:=xU h;refine main R h1 h2 h4 fun i o a ho hk ha=>?_;obtain rfl:=J2 he i a ha;have:=((uj h1).2.2.2.2 a o (by simpa using ho)).1
  have e:=(qO hk this).1;simp only[Prod.mk.injEq]at e;rw[e.1,e.2]at this;exact⟨_,this⟩
 | true =>
  dsimp only at h
  cases hx:Gf call ops ops.toList te nx l with
  | none=>rw[hx]at h;cases h
  | some R =>
   rw[hx]at h;dsimp only at h
   cases hl:AT call ops R (qY ops.toList).alts 0 ops.toList with
   | false=>rw[hl]at h;cases h
   | true =>
    rw[hl]at h
    cases h
    refine main R hx rfl rfl fun i o a ho hk ha=>?_;have ho':ops.toList[i]? = some o:=by simpa using ho
    have:=AS hl i o a ho' hk (by rwa [aF])
    rw[aF]at this;rcases this with rfl|⟨p,h1,h2⟩
    ·have:=((uj hx).2.2.2.2 a o ho').1;have e:=(qO hk this).1;simp only[Prod.mk.injEq]at e;rw[e.1,e.2]at this;exact⟨_,this⟩
    ·have e:=(qO hk h1).1;refine⟨0,?_⟩;rw[h1];obtain⟨p1,p2,p3⟩:=p;simp only[Prod.mk.injEq]at e;rw[e.1,e.2,<-h2]
inductive XE where
 | normal
 | ret
 | exit (id:Nat)
def XE.ax:XE->AX
 | .normal=>.normal
 | .ret=>.ret
 | .exit i=>.exit i
abbrev XC:=Option (XE×TE×Nat×EL)
def xn:Option (TE×Nat×EL)->XC
 | some r=>some (.normal,r)
 | ac=>ac
abbrev Mo:=Code->TE->Nat->EL->XC
def DP(r:XC)(k:TE->Nat->EL->XC):XC:=match r with
 | some (e,q)=>(match e with
  | .normal=>k q.1 q.2.1 q.2.2
  | .ret=>some (.ret,q)
  | .exit i=>some (.exit i,q))
 | ac=>ac
def CE(id:Nat)(r:XC):XC:=match r with
 | some (e,q)=>(match e with
  | .normal=>some (.normal,q)
  | .ret=>some (.ret,q)
  | .exit i=>(match ay i id with
   | true=>some (.normal,q)
   | false=>some (.exit i,q)))
 | ac=>ac
def KJ(b:XV)(x y:XC):XC:=match b with
 | .bool t=>(match t with
  | true=>x
  | false=>y)
 | _=>ac
def KG(call:dC)(hm:Nat)(ih:Mo)(c:Code):TE->Nat->EL->XC:=match c with
 | .skip=>fun te nx l=>some (.normal,te,nx,l)
 | .region id ops b=>(match b with
  | false=>fun te nx l=>xn (oS call ops ops.toList te nx l)
  | true=>fun te nx l=>xn (AO call (ig hm id) ops te nx l))
 | .seq x y=>fun te nx l=>DP (ih x te nx l) (ih y)
 | .cond b x y=>fun te nx l=>KJ (jK te b) (ih x te nx l) (ih y te nx l)
 | .block id c=>fun te nx l=>CE id (ih c te nx l)
 | .loop c=>fun te nx l=>DP (ih c te nx l) (ih (.loop c))
 | .exit id=>fun te nx l=>some (.exit id,te,nx,l)
 | .ret=>fun te nx l=>some (.ret,te,nx,l)
 | .scope c=>ih c
 | .label _=>fun te nx l=>some (.normal,te,nx,l)
 | _=>fun _ _ _=>ac
def li(call:dC)(hm:Nat)(n:Nat):Mo:=Nat.rec (motive:=fun _=>Mo) (fun _ _ _ _=>ac) (fun _ ih=>KG call hm ih) n
theorem ut(call:dC)(hm:Nat)(c:Code)(te:TE)(nx:Nat)(l:EL):li call hm 0 c te nx l=ac:=rfl
theorem fX(call:dC)(hm n:Nat)(c:Code)(te:TE)(nx:Nat)(l:EL):li call hm (n+1) c te nx l=KG call hm (li call hm n) c te nx l:=rfl
def jp(hm:Nat):Code->Bool
 | .region id ops true=>GN ops.toList&&(ig hm id||(qY ops.toList).easy)
 | .seq x y=>jp hm x&&jp hm y
 | .cond _ x y=>jp hm x&&jp hm y
 | .block _ c=>jp hm c
 | .loop c=>jp hm c
 | .scope c=>jp hm c
 | _=>true
theorem mP{P:Nat->Prop}(h:∃n,P n):∃n,P n/\∀m,m<n->¬P m:=by
 obtain⟨n,hn⟩:=h
 induction n using oB with
 | ind n ih =>
  by_cases h:∃m,m<n/\P m
  ·obtain⟨m,h1,h2⟩:=h;exact ih m h1 h2
  ·exact⟨n,hn,fun m h1 h2=>h ⟨m,h1,h2⟩⟩
theorem FE{c:Code}{Q:AX->Tm->St->Prop}(J:Nat->Tm->St->Prop)(h:∀n O S,J n O S->∀k:Tm->St->Prop,(∀m O' S',m<n->J m O' S'->k O' S')->aw c (AX.seq k Q) O S){n:Nat}{O:Tm}{S:St}(h0:J n O S):aw (.loop c) Q O S:=by
 classical
 refine⟨fun O S=>∃n,J n O S,fun O S=>if h:∃n,J n O S then df (mP h)else 0,⟨n,h0⟩,fun O S hI=>?_⟩
 have hm:=dS (mP hI);have e:(if h:∃n,J n O S then df (mP h)else 0)=df (mP hI):=by rw[dif_pos hI]
 refine h _ O S hm.1 _ fun m O' S' h1 h2=>⟨⟨m,h2⟩,?_⟩;have hI':∃n,J n O' S':=⟨m,h2⟩;have e':(if h:∃n,J n O' S' then df (mP h)else 0)=df (mP hI'):=by rw[dif_pos hI']
 show(if h:∃n,J n O' S' then df (mP h)else 0)<(if h:∃n,J n O S then df (mP h)else 0)
 rw[e,e'];have:=(dS (mP hI')).2;rcases aI m (df (mP hI'))with h3|h3
 ·exact(this m h3 h2).elim
 ·omega
theorem Gu{call:dC}(hc:kY call)(hp:rV call)(hm0:Nat):∀(n:Nat) (c:Code) (te:TE) (nx:Nat) (l:EL) (r:XE×TE×Nat×EL),jp hm0 c=true->li call hm0 n c te nx l=some r->∀{φ:Ph},GP φ->∀{O:Tm} {S:St},TR φ te O->MR φ l S->∀{Q:AX->Tm->St->Prop},
  (∀ψ O' S',φ.le ψ->TR ψ r.2.1 O'->MR ψ r.2.2.2 S'->Q r.1.ax O' S')->aw c Q O S:=by
 intro n
 induction n using oB with
 | ind n ih0 =>
 cases n with
 | zero=>intro c te nx l r _ h;rw[ut]at h;cases h
 | succ n =>
  have ih:=ih0 n om;intro c te nx l r hok h φ hG O S ht hm Q hQ
  cases c with
  | skip=>rw[fX]at h;cases h;exact hQ φ O S (Ph.le_refl _) ht hm
  | region id ops b =>
   cases b with
   | false =>
    rw[fX]at h;change xn (oS call ops ops.toList te nx l)=some r at h
    cases hx:oS call ops ops.toList te nx l with
    | none=>rw[hx]at h;cases h
    | some p =>
     rw[hx]at h;cases h;exact xW hc hx hG ht hm hQ
   | true =>
    rw[fX]at h;change xn (AO call (ig hm0 id) ops te nx l)=some r at h;simp only[jp,aA]at hok
    cases hx:AO call (ig hm0 id) ops te nx l with
    | none=>rw[hx]at h;cases h
    | some p =>
     rw[hx]at h;cases h;exact bH (bH (bH (bH (Gg hc hp hok.1 hok.2 hx hG ht hm hQ))))
  | seq x y =>
   rw[fX]at h;change DP (li call hm0 n x te nx l) (li call hm0 n y)=some r at h;simp only[jp,aA]at hok;simp only[aw]
   cases hx:li call hm0 n x te nx l with
   | none=>rw[hx]at h;cases h
   | some p =>
    obtain⟨e,te',nx',l'⟩:=p;rw[hx]at h;refine ih x te nx l _ hok.1 hx hG ht hm fun ψ O' S' h1 h2 h3=>?_
    cases e with
    | normal=>exact ih y te' nx' l' r hok.2 h (hG.mono h1) h2 h3 fun χ O'' S'' k1 k2 k3=>hQ χ O'' S'' (Ph.le_trans h1 k1) k2 k3
    | ret=>cases h;exact hQ ψ O' S' h1 h2 h3
    | exit i=>cases h;exact hQ ψ O' S' h1 h2 h3
  | cond b x y =>
   rw[fX]at h;change KJ (jK te b) (li call hm0 n x te nx l) (li call hm0 n y te nx l)=some r at h;simp only[jp,aA]at hok;simp only[aw];have hv:=ht.ev b
   cases hb:jK te b with
   | bool t =>
    rw[hb]at h hv;simp only[ER]at hv;rw[hv]
    cases t with
    | true=>exact⟨fun _=>ih x te nx l r hok.1 h hG ht hm hQ,fun e=>by cases e⟩
    | false=>exact⟨fun e=>(by cases e),fun _=>ih y te nx l r hok.2 h hG ht hm hQ⟩
   | _=>rw[hb]at h;cases h
  | block id c =>
   rw[fX]at h;change CE id (li call hm0 n c te nx l)=some r at h;simp only[jp]at hok;simp only[aw]
   cases hx:li call hm0 n c te nx l with
   | none=>rw[hx]at h;cases h
   | some p =>
    obtain⟨e,p⟩:=p;rw[hx]at h;refine ih c te nx l _ hok hx hG ht hm fun ψ O' S' h1 h2 h3=>?_
    cases e with
    | normal=>cases h;exact hQ ψ O' S' h1 h2 h3
    | ret=>cases h;exact hQ ψ O' S' h1 h2 h3
    | exit i =>
     simp only[CE]at h;show(if i=id then Q .normal else Q (.exit i)) O' S'
     cases hb:ay i id with
     | true =>
      rw[hb]at h;cases h;rw[if_pos (ap hb)];exact hQ ψ O' S' h1 h2 h3
     | false =>
      rw[hb]at h;cases h;rw[if_neg (fun e=>by subst e;simp at hb)]
      exact hQ ψ O' S' h1 h2 h3
  | loop c =>
   simp only[jp]at hok;refine FE (fun m O S=>m<=n+1/\∃ψ te nx l,φ.le ψ/\TR ψ te O/\MR ψ l S/\li call hm0 m (.loop c) te nx l=some r) ?_ (n:=n+1) ⟨ah _,φ,te,nx,l,Ph.le_refl _,ht,hm,h⟩;rintro m O S ⟨hmn,ψ,te,nx,l,h1,h2,h3,h4⟩ k hk
   cases m with
   | zero=>rw[ut]at h4;cases h4
   | succ m =>
    rw[fX]at h4;change DP (li call hm0 m c te nx l) (li call hm0 m (.loop c))=some r at h4
    cases hx:li call hm0 m c te nx l with
    | none=>rw[hx]at h4;cases h4
    | some p =>
     obtain⟨e,te',nx',l'⟩:=p;rw[hx]at h4;have body:∀{Q:AX->Tm->St->Prop},(∀χ O' S',ψ.le χ->TR χ te' O'->MR χ l' S'->Q e.ax O' S')->aw c Q O S:=by
      intro Q hQ;exact ih0 m om c te nx l _ hok hx (hG.mono h1) h2 h3 hQ
     refine body fun χ O' S' k1 k2 k3=>?_
     cases e with
     | normal=>exact hk m O' S' om ⟨om,χ,te',nx',l',Ph.le_trans h1 k1,k2,k3,h4⟩
     | ret=>cases h4;exact hQ χ O' S' (Ph.le_trans h1 k1) k2 k3
     | exit i=>cases h4;exact hQ χ O' S' (Ph.le_trans h1 k1) k2 k3
  | exit id=>rw[fX]at h;cases h;exact hQ φ O S (Ph.le_refl _) ht hm
  | ret=>rw[fX]at h;cases h;exact hQ φ O S (Ph.le_refl _) ht hm
  | scope c =>
   rw[fX]at h;change li call hm0 n c te nx l=some r at h;simp only[jp]at hok;simp only[aw];exact ih c te nx l r hok h hG ht hm hQ
  | label _=>rw[fX]at h;cases h;exact hQ φ O S (Ph.le_refl _) ht hm
  | _=>rw[fX]at h;cases h
end
end Go.Proofs.YtdobfmlmenaajaaGreatDoor
