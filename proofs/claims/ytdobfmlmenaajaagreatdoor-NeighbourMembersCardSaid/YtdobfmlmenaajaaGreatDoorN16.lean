/-
  Lemmas for NeighbourMembers.
-/
import Derived.Test.YtdobfmlmenaajaaGreatDoorN13
namespace Go.Proofs.YtdobfmlmenaajaaGreatDoor
open Go.RowKit
open _root_.Bool renaming and_eq_true→au
open _root_.Int renaming toNat_natCast→eN
open _root_.List renaming replicate→bL,getElem?_cons_succ→bN,getElem?_eq_none→cg,length_cons→cr,getD→cB,getElem?_cons_zero→cE,getElem?_append_right→dC,getElem?_append_left→dR,getElem?_take_of_lt→eV,length_nil→jf,getElem?_drop→kV
open _root_.Nat renaming eq_of_beq_eq_true→ao,beq→ap,zero_add→aC,lt_or_ge→aE,blt→aJ,sub_self→bP,le_of_ble_eq_true→bU,ble→gZ,div→nZ
open _root_.Option renaming none→ac,some→dO,getD_some→fG
set_option maxHeartbeats 6400000
set_option maxRecDepth 4096
set_option linter.all false
noncomputable section
inductive XV where
 | int (k:IntKind) (n:Int)
 | bool (b:Bool)
 | big (z:Int)
 | nil
 | sl (es i off len:Nat)
 | ptr (es i k:Nat)
 | lst (es:Nat) (l:List XV)
 | pat (es:Nat) (x:XV)
 | tup (l:List XV)
 | agg (l:List XV)
 | fn (f:Nat) (l:List XV)
 | any
 | nfn
 | mfn (f:Nat) (l:List XV)
abbrev Ph:=Nat->Option Nat
def Ph.le(φ ψ:Ph):Prop:=∀i b,φ i=some b->ψ i=some b
def Ph.set(φ:Ph)(i b:Nat):Ph:=fun k=>if k=i then some b else φ k
theorem Ph.le_refl(φ:Ph):φ.le φ:=fun _ _ h=>h
theorem Ph.le_trans{φ ψ χ:Ph}(h:φ.le ψ)(k:ψ.le χ):φ.le χ:=fun i b e=>k i b (h i b e)
theorem Ph.le_set{φ:Ph}{i b:Nat}(h:φ i=ac):φ.le (φ.set i b):=fun k c e=>by
 unfold Ph.set;by_cases ek:k=i
 ·subst ek;rw[h]at e;cases e
 ·rw[if_neg ek];exact e
mutual
def ER(φ:Ph):XV->AV->Prop
 | .int k n,a=>a=.int k n
 | .bool b,a=>a=.bool b
 | .big z,a=>a=.big z
 | .nil,a=>a=.nil
 | .sl es i off len,a=>∃b,φ i=some b/\a=.sl es b off len
 | .ptr es i k,a=>∃b,φ i=some b/\a=.ptr es b k
 | .lst es l,a=>∃g,a=.lst es l.length g/\jI φ l g 0
 | .pat es x,a=>∃y,a=.pat es y/\ER φ x y
 | .tup l,a=>∃r,a=.tup r/\dZ φ l r
 | .agg l,a=>∃r,a=.agg r/\dZ φ l r
 | .fn f l,a=>∃r,a=.fn f r/\dZ φ l r
 | .any,_=>True
 | .nfn,a=>a=.nfn
 | .mfn f l,a=>∃r,a=.mfn f r/\dZ φ l r
def dZ(φ:Ph):List XV->List AV->Prop
 | [],[]=>True
 | x::l,a::r=>ER φ x a/\dZ φ l r
 | [],_::_=>False
 | _::_,[]=>False
def jI(φ:Ph):List XV->(Nat->AV)->Nat->Prop
 | [],_,_=>True
 | x::l,g,k=>ER φ x (g k)/\jI φ l g (k+1)
end
mutual
theorem ER.mono{φ ψ:Ph}(h:φ.le ψ):∀(x:XV) (a:AV),ER φ x a->ER ψ x a
 | .int ..,_,e=>by simpa [ER]using e
 | .bool _,_,e=>by simpa [ER]using e
 | .big _,_,e=>by simpa [ER]using e
 | .nil,_,e=>by simpa [ER]using e
 | .sl ..,_,e=>by
  simp only[ER]at e ⊢;obtain⟨b,h1,h2⟩:=e;exact⟨b,h _ _ h1,h2⟩
 | .ptr ..,_,e=>by
  simp only[ER]at e ⊢;obtain⟨b,h1,h2⟩:=e;exact⟨b,h _ _ h1,h2⟩
 | .lst _ l,_,e=>by
  simp only[ER]at e ⊢;obtain⟨g,h1,h2⟩:=e;exact⟨g,h1,jI.mono h l g 0 h2⟩
 | .pat _ x,_,e=>by
  simp only[ER]at e ⊢;obtain⟨y,h1,h2⟩:=e;exact⟨y,h1,ER.mono h x y h2⟩
 | .tup l,_,e=>by
  simp only[ER]at e ⊢;obtain⟨r,h1,h2⟩:=e;exact⟨r,h1,dZ.mono h l r h2⟩
 | .agg l,_,e=>by
  simp only[ER]at e ⊢;obtain⟨r,h1,h2⟩:=e;exact⟨r,h1,dZ.mono h l r h2⟩
 | .fn _ l,_,e=>by
  simp only[ER]at e ⊢;obtain⟨r,h1,h2⟩:=e;exact⟨r,h1,dZ.mono h l r h2⟩
 | .any,_,_=>by simp[ER]
 | .nfn,_,e=>by simpa [ER]using e
 | .mfn _ l,_,e=>by
  simp only[ER]at e ⊢;obtain⟨r,h1,h2⟩:=e;exact⟨r,h1,dZ.mono h l r h2⟩
theorem dZ.mono{φ ψ:Ph}(h:φ.le ψ):∀(l:List XV) (r:List AV),dZ φ l r->dZ ψ l r
 | [],[],_=>by simp[dZ]
 | x::l,a::r,e=>by simp only[dZ]at e ⊢;exact⟨ER.mono h x a e.1,dZ.mono h l r e.2⟩
 | [],_::_,e=>by simp[dZ]at e
 | _::_,[],e=>by simp[dZ]at e
theorem jI.mono{φ ψ:Ph}(h:φ.le ψ):∀(l:List XV) (g:Nat->AV) (k:Nat),jI φ l g k->jI ψ l g k
 | [],_,_,_=>by simp[jI]
 | x::l,g,k,e=>by simp only[jI]at e ⊢;exact⟨ER.mono h x _ e.1,jI.mono h l g (k+1) e.2⟩
end
theorem dZ.length{φ:Ph}:∀{l:List XV} {r:List AV},dZ φ l r->r.length=l.length
 | [],[],_=>rfl
 | _::_,_::_,e=>by simp only[dZ]at e;simp[dZ.length e.2]
 | [],_::_,e=>by simp[dZ]at e
 | _::_,[],e=>by simp[dZ]at e
theorem dZ.get{φ:Ph}:∀{l:List XV} {r:List AV} {j:Nat} {x:XV},dZ φ l r->l[j]? = some x->∃a,r[j]? = some a/\ER φ x a
 | x::l,a::r,0,y,e,h=>by
  simp only[dZ]at e;simp only[cE,dO.injEq]at h;subst h;exact⟨a,rfl,e.1⟩
 | x::l,a::r,j+1,y,e,h=>by
  simp only[dZ]at e;rw[bN]at h ⊢;exact dZ.get e.2 h
 | [],_,_,_,_,h=>by simp at h
 | _::_,[],_,_,e,_=>by simp[dZ]at e
theorem jI.get{φ:Ph}:∀{l:List XV} {g:Nat->AV} {k j:Nat} {x:XV},jI φ l g k->l[j]? = some x->ER φ x (g (k+j))
 | x::l,g,k,0,y,e,h=>by
  simp only[jI]at e;simp only[cE,dO.injEq]at h;subst h;exact e.1
 | x::l,g,k,j+1,y,e,h=>by
  simp only[jI]at e;rw[bN]at h;have:=jI.get e.2 h
  rwa [show k+1+j=k+(j+1) by omega]at this
 | [],_,_,_,_,_,h=>by simp at h
theorem jI.of{φ:Ph}:∀{l:List XV} {g:Nat->AV} {k:Nat},(∀j x,l[j]? = some x->ER φ x (g (k+j)))->jI φ l g k
 | [],_,_,_=>by simp[jI]
 | x::l,g,k,h=>by
  simp only[jI];refine⟨h 0 x rfl,jI.of fun j y hy=>?_⟩;have:=h (j+1) y (by rw[bN];exact hy)
  rwa [show k+(j+1)=k+1+j by omega]at this
theorem dZ.of{φ:Ph}:∀{l:List XV} {r:List AV},r.length=l.length->(∀(j:Nat) (x:XV) (a:AV),l[j]? = some x->r[j]? = some a->ER φ x a)->dZ φ l r
 | [],[],_,_=>by simp[dZ]
 | x::l,a::r,e,h=>by
  simp only[dZ];exact⟨h 0 x a rfl rfl,dZ.of (by simpa using e) fun j y b h1 h2=>h (j+1) y b (by simpa using h1) (by simpa using h2)⟩
 | [],_::_,e,_=>by simp at e
 | _::_,[],e,_=>by simp at e
theorem dZ.append{φ:Ph}:∀{l m:List XV} {r s:List AV},dZ φ l r->dZ φ m s->dZ φ (l++m) (r++s)
 | [],_,[],_,_,h=>h
 | _::_,_,_::_,_,e,h=>by simp only[dZ,List.cons_append]at e ⊢;exact⟨e.1,dZ.append e.2 h⟩
 | [],_,_::_,_,e,_=>by simp[dZ]at e
 | _::_,_,[],_,e,_=>by simp[dZ]at e
structure EB where
 ty:Nat
 es:Nat
 l:List XV
inductive EL where
 | e
 | d
 | n (x:Option (Option EB)) (l r:EL)
def dw(s:EL):Nat->Option (Option EB):=EL.rec (motive:=fun _=>Nat->Option (Option EB)) (fun _=>ac) (fun _=>some ac) (fun x _ _ a b t=>Bool.rec (Bool.rec (b (Nat.sub (nZ t 2) 1)) (a (nZ t 2)) (ap (Nat.mod t 2) 1)) x (ap t 0)) s
def py(b:EL)(o:Option (Option EB))(x:Option EB)(fuel:Nat):Nat->EL:=Nat.rec (motive:=fun _=>Nat->EL) (fun _=>b) (fun _ ih t=>Bool.rec (Bool.rec (.n o b (ih (Nat.sub (nZ t 2) 1))) (.n o (ih (nZ t 2)) b) (ap (Nat.mod t 2) 1)) (.n (some x) b b) (ap t 0)) fuel
def pA(s:EL)(i:Nat)(x:Option EB):EL:=EL.rec (motive:=fun _=>Nat->EL) (fun t=>py .e ac x (Nat.succ t) t) (fun t=>py .d (some ac) x (Nat.succ t) t) (fun y l r a b t=>Bool.rec (Bool.rec (.n y l (b (Nat.sub (nZ t 2) 1))) (.n y (a (nZ t 2)) r) (ap (Nat.mod t 2) 1)) (.n (some x) l r) (ap t 0)) s i
theorem sV{α:Type}(a b:α)(p q:Nat):Bool.rec (motive:=fun _=>α) a b (ap p q)=if p=q then b else a:=by
 by_cases h:p=q
 ·subst h;rw[if_pos rfl,Nat.beq_refl]
 ·rw[if_neg h]
  cases e:ap p q with
  | true=>exact absurd (ao e) h
  | false=>rfl
theorem uJ(i:Nat):dw .e i=ac:=rfl
theorem Ci(i:Nat):dw .d i=some ac:=rfl
theorem iy(x:Option (Option EB))(l r:EL)(t:Nat):dw (.n x l r) t=if t=0 then x else if t%2=1 then dw l (t/2)else dw r (t/2-1):=by
 show Bool.rec (motive:=fun _=>Option (Option EB)) (Bool.rec (motive:=fun _=>Option (Option EB)) (dw r (t/2-1)) (dw l (t/2)) (ap (t%2) 1)) x (ap t 0)=_;rw[sV,sV]
theorem IF(b:EL)(o:Option (Option EB))(x:Option EB)(f t:Nat):py b o x (f+1) t=if t=0 then .n (some x) b b else if t%2=1 then .n o (py b o x f (t/2)) b else .n o b (py b o x f (t/2-1)):=by
 show Bool.rec (motive:=fun _=>EL) (Bool.rec (motive:=fun _=>EL) (.n o b (py b o x f (t/2-1))) (.n o (py b o x f (t/2)) b) (ap (t%2) 1)) (.n (some x) b b) (ap t 0)=_;rw[sV,sV]
theorem ins_e(i:Nat)(x:Option EB):pA .e i x=py .e ac x (i+1) i:=rfl
theorem ins_d(i:Nat)(x:Option EB):pA .d i x=py .d (some ac) x (i+1) i:=rfl
theorem ins_n(y:Option (Option EB))(l r:EL)(t:Nat)(x:Option EB):pA (.n y l r) t x=if t=0 then .n (some x) l r else if t%2=1 then .n y (pA l (t/2) x) r else .n y l (pA r (t/2-1) x):=by
 show Bool.rec (motive:=fun _=>EL) (Bool.rec (motive:=fun _=>EL) (.n y l (pA r (t/2-1) x)) (.n y (pA l (t/2) x) r) (ap (t%2) 1)) (.n (some x) l r) (ap t 0)=_;rw[sV,sV]
theorem Lg{i j:Nat}(h:i≠j):ap i j=false:=by
 cases e:ap i j with
 | true=>exact absurd (ao e) h
 | false=>rfl
theorem tn{t j:Nat}(ht:t≠0)(hj:j≠0)(h:j≠t):(t%2=1->j%2=1->j/2≠t/2)/\(t%2≠1->j%2≠1->j/2-1≠t/2-1):=by
 constructor<;>intro h1 h2<;>omega
theorem j8{b:EL}{o:Option (Option EB)}(hb:∀j,dw b j=o){x:Option EB}:∀(f t:Nat),t<f->∀j,dw (py b o x f t) j=if j=t then some x else o
 | 0,t,h,_=>by omega
 | f+1,t,h,j=>by
  rw[IF];by_cases ht:t=0
  ·subst ht;rw[if_pos rfl,iy,hb,hb];by_cases e:j=0
   ·rw[if_pos e,if_pos e]
   ·rw[if_neg e,if_neg e];split<;>rfl
  ·rw[if_neg ht];by_cases hj:j=0
   ·subst hj;rw[if_neg (show ¬(0=t)from fun e=>ht e.symm)];split<;>rw[iy,if_pos rfl]
   ·by_cases e:j=t
    ·subst e;rw[if_pos rfl];split
     ·rename_i h1;rw[iy,if_neg ht,if_pos h1,j8 hb f _ om,if_pos rfl]
     ·rename_i h1;rw[iy,if_neg ht,if_neg h1,j8 hb f _ om,if_pos rfl]
    ·obtain⟨h1,h2⟩:=tn ht hj e;rw[if_neg e];split
     ·rename_i h3;rw[iy,if_neg hj,hb];split
      ·rename_i h4;rw[j8 hb f _ om,if_neg (h1 h3 h4)]
      ·rfl
     ·rename_i h3;rw[iy,if_neg hj,hb];split
      ·rfl
      ·rename_i h4;rw[j8 hb f _ om,if_neg (h2 h3 h4)]
theorem ef:∀(l:EL) (i:Nat) (x:Option EB) (j:Nat),dw (pA l i x) j=if j=i then some x else dw l j
 | .e,i,x,j=>by rw[ins_e,j8 uJ _ _ om,uJ]
 | .d,i,x,j=>by rw[ins_d,j8 Ci _ _ om,Ci]
 | .n y l r,t,x,j=>by
  rw[ins_n];by_cases ht:t=0
  ·subst ht;rw[if_pos rfl,iy,iy];by_cases e:j=0
   ·rw[if_pos e,if_pos e]
   ·rw[if_neg e,if_neg e,if_neg e]
  ·rw[if_neg ht];by_cases hj:j=0
   ·subst hj;rw[if_neg (show ¬(0=t)from fun e=>ht e.symm),iy,if_pos rfl];split<;>rw[iy,if_pos rfl]
   ·by_cases e:j=t
    ·subst e;rw[if_pos rfl];split
     ·rename_i h1;rw[iy,if_neg ht,if_pos h1,ef,if_pos rfl]
     ·rename_i h1;rw[iy,if_neg ht,if_neg h1,ef,if_pos rfl]
    ·obtain⟨h1,h2⟩:=tn ht hj e;rw[if_neg e];split
     ·rename_i h3;rw[iy,iy,if_neg hj,if_neg hj];split
      ·rename_i h4;rw[ef,if_neg (h1 h3 h4)]
      ·rfl
     ·rename_i h3;rw[iy,iy,if_neg hj,if_neg hj];split
      ·rfl
      ·rename_i h4;rw[ef,if_neg (h2 h3 h4)]
structure MR(φ:Ph)(l:EL)(S:St):Prop where
 dom:∀i,dw l i=ac->φ i=ac
 live:∀i X,dw l i=some (some X)->∃b g,φ i=some b/\S b=some ⟨X.ty,X.es,X.l.length,g⟩/\jI φ X.l g 0
 inj:∀i j X Y b,dw l i=some (some X)->dw l j=some (some Y)->φ i=some b->φ j=some b->i=j
theorem MR.new{φ:Ph}{l:EL}{S:St}(h:MR φ l S){nx b:Nat}(hn:dw l nx=ac)(hb:S b=ac){ty es:Nat}{L:List XV}{g:Nat->AV}(hg:jI φ L g 0){n:Nat}(hl:n=L.length) :
  φ.le (φ.set nx b)/\MR (φ.set nx b) (pA l nx (some ⟨ty,es,L⟩)) (S.upd b ⟨ty,es,n,g⟩):=by
 subst hl;have hle:φ.le (φ.set nx b):=Ph.le_set (h.dom nx hn);refine⟨hle,fun i hi=>?_,fun i X hi=>?_,fun i j X Y c hi hj ei ej=>?_⟩
 ·rw[ef]at hi;by_cases e:i=nx
  ·rw[if_pos e]at hi;cases hi
  ·rw[if_neg e]at hi;unfold Ph.set;rw[if_neg e];exact h.dom i hi
 ·rw[ef]at hi;by_cases e:i=nx
  ·rw[if_pos e]at hi;cases hi;exact⟨b,g,by unfold Ph.set;rw[if_pos e],bV,hg.mono hle⟩
  ·rw[if_neg e]at hi;obtain⟨c,g',h1,h2,h3⟩:=h.live i X hi;refine⟨c,g',hle _ _ h1,?_,h3.mono hle⟩;rw[aQ (fun e2=>by subst e2;rw[hb]at h2;cases h2)];exact h2
 ·rw[ef]at hi hj;have key:∀i X,i≠nx->dw l i=some (some X)->φ.set nx b i=some b->False:=fun i X e hi ei=>by
   unfold Ph.set at ei;rw[if_neg e]at ei;obtain⟨c,g',h1,h2,h3⟩:=h.live i X hi;rw[ei]at h1;cases h1;rw[hb]at h2;cases h2
  by_cases e:i=nx
  ·by_cases e2:j=nx
   ·omega
   ·rw[if_neg e2]at hj;have:c=b:=by unfold Ph.set at ei;rw[if_pos e]at ei;cases ei;rfl
    subst this;exact(key j Y e2 hj ej).elim
  ·rw[if_neg e]at hi;by_cases e2:j=nx
   ·have:c=b:=by unfold Ph.set at ej;rw[if_pos e2]at ej;cases ej;rfl
    subst this;exact(key i X e hi ei).elim
   ·rw[if_neg e2]at hj;unfold Ph.set at ei ej;rw[if_neg e]at ei;rw[if_neg e2]at ej;exact h.inj i j X Y c hi hj ei ej
theorem MR.put{φ:Ph}{l:EL}{S:St}(h:MR φ l S){i b:Nat}{X:EB}(hi:dw l i=some (some X))(hb:φ i=some b){L:List XV}{g:Nat->AV}(hg:jI φ L g 0){n:Nat}(hn:n=L.length) :
  MR φ (pA l i (some ⟨X.ty,X.es,L⟩)) (S.upd b ⟨X.ty,X.es,n,g⟩):=by
 subst hn;refine⟨fun j hj=>?_,fun j Y hj=>?_,fun j k Y Z c hj hk ej ek=>?_⟩
 ·rw[ef]at hj;by_cases e:j=i
  ·rw[if_pos e]at hj;cases hj
  ·rw[if_neg e]at hj;exact h.dom j hj
 ·rw[ef]at hj;by_cases e:j=i
  ·rw[if_pos e]at hj;cases hj;subst e;exact⟨b,g,hb,bV,hg⟩
  ·rw[if_neg e]at hj;obtain⟨c,g',h1,h2,h3⟩:=h.live j Y hj;refine⟨c,g',h1,?_,h3⟩;rw[aQ (fun e2=>by subst e2;exact e (h.inj j i Y X _ hj hi h1 hb))];exact h2
 ·rw[ef]at hj hk;have ej':∃Y',dw l j=some (some Y'):=by
   by_cases e:j=i
   ·subst e;exact⟨X,hi⟩
   ·rw[if_neg e]at hj;exact⟨Y,hj⟩
  have ek':∃Y',dw l k=some (some Y'):=by
   by_cases e:k=i
   ·subst e;exact⟨X,hi⟩
   ·rw[if_neg e]at hk;exact⟨Z,hk⟩
  obtain⟨Y',h1⟩:=ej';obtain⟨Z',h2⟩:=ek';exact h.inj j k Y' Z' c h1 h2 ej ek
theorem MR.move{φ:Ph}{l:EL}{S:St}(h:MR φ l S){i b nx b':Nat}{X:EB}(hi:dw l i=some (some X))(hb:φ i=some b)(hn:dw l nx=ac)(hb':b'=b∨S b'=ac){ty es:Nat}{L:List XV}{g:Nat->AV}(hg:jI φ L g 0){n:Nat}(hl:n=L.length) :
  φ.le (φ.set nx b')/\MR (φ.set nx b') (pA (pA l i ac) nx (some ⟨ty,es,L⟩)) ((S.del b).upd b' ⟨ty,es,n,g⟩):=by
 subst hl;have hle:φ.le (φ.set nx b'):=Ph.le_set (h.dom nx hn);have hin:i≠nx:=fun e=>by subst e;rw[hi]at hn;cases hn
 have key:∀j Y,dw (pA l i ac) j=some (some Y)->j≠i/\dw l j=some (some Y):=fun j Y hj=>by
  rw[ef]at hj;by_cases e:j=i
  ·rw[if_pos e]at hj;cases hj
  ·rw[if_neg e]at hj;exact⟨e,hj⟩
 have keyb:∀j Y,j≠i->dw l j=some (some Y)->φ j≠some b':=fun j Y e hj ej=>by
  rcases hb' with rfl|hb'
  ·exact e (h.inj j i Y X _ hj hi ej hb)
  ·obtain⟨c,g',h1,h2,_⟩:=h.live j Y hj;rw[ej]at h1;cases h1;rw[hb']at h2;cases h2
 refine⟨hle,fun j hj=>?_,fun j Y hj=>?_,fun j k Y Z c hj hk ej ek=>?_⟩
 ·rw[ef]at hj;by_cases e:j=nx
  ·rw[if_pos e]at hj;cases hj
  ·rw[if_neg e,ef]at hj;by_cases e2:j=i
   ·rw[if_pos e2]at hj;cases hj
   ·rw[if_neg e2]at hj;unfold Ph.set;rw[if_neg e];exact h.dom j hj
 ·rw[ef]at hj;by_cases e:j=nx
  ·rw[if_pos e]at hj;cases hj;exact⟨b',g,by unfold Ph.set;rw[if_pos e],bV,hg.mono hle⟩
  ·rw[if_neg e]at hj;obtain⟨e2,hj⟩:=key j Y hj;obtain⟨c,g',h1,h2,h3⟩:=h.live j Y hj;have hcb:c≠b:=fun e3=>by subst e3;exact e2 (h.inj j i Y X _ hj hi h1 hb)
   have hcb':c≠b':=fun e3=>by subst e3;exact keyb j Y e2 hj h1
   refine⟨c,g',hle _ _ h1,?_,h3.mono hle⟩;rw[aQ hcb'];unfold St.del;rw[if_neg hcb];exact h2
 ·rw[ef]at hj hk;by_cases e:j=nx
  ·by_cases e2:k=nx
   ·omega
   ·rw[if_neg e2]at hk;obtain⟨e3,hk⟩:=key k Z hk;have:c=b':=by unfold Ph.set at ej;rw[if_pos e]at ej;cases ej;rfl
    subst this;unfold Ph.set at ek;rw[if_neg e2]at ek;exact(keyb k Z e3 hk ek).elim
  ·rw[if_neg e]at hj;obtain⟨e3,hj⟩:=key j Y hj;unfold Ph.set at ej;rw[if_neg e]at ej;by_cases e2:k=nx
   ·have:c=b':=by unfold Ph.set at ek;rw[if_pos e2]at ek;cases ek;rfl
    subst this;exact(keyb j Y e3 hj ej).elim
   ·rw[if_neg e2]at hk;obtain⟨e4,hk⟩:=key k Z hk;unfold Ph.set at ek;rw[if_neg e2]at ek;exact h.inj j k Y Z c hj hk ej ek
end
noncomputable section
inductive TE where
 | e
 | n (x:XV) (l r:TE)
def ix(s:TE):Nat->XV:=TE.rec (motive:=fun _=>Nat->XV) (fun _=>.any) (fun x _ _ a b t=>Bool.rec (Bool.rec (b (Nat.sub (nZ t 2) 1)) (a (nZ t 2)) (ap (Nat.mod t 2) 1)) x (ap t 0)) s
def sk(v:XV)(fuel:Nat):Nat->TE:=Nat.rec (motive:=fun _=>Nat->TE) (fun _=>.e) (fun _ ih t=>Bool.rec (Bool.rec (.n .any .e (ih (Nat.sub (nZ t 2) 1))) (.n .any (ih (nZ t 2)) .e) (ap (Nat.mod t 2) 1)) (.n v .e .e) (ap t 0)) fuel
def tX(s:TE)(i:Nat)(v:XV):TE:=TE.rec (motive:=fun _=>Nat->TE) (fun t=>sk v (Nat.succ t) t) (fun y l r a b t=>Bool.rec (Bool.rec (.n y l (b (Nat.sub (nZ t 2) 1))) (.n y (a (nZ t 2)) r) (ap (Nat.mod t 2) 1)) (.n v l r) (ap t 0)) s i
theorem pK(t:Nat):ix .e t=.any:=rfl
theorem iS(x:XV)(l r:TE)(t:Nat):ix (.n x l r) t=if t=0 then x else if t%2=1 then ix l (t/2)else ix r (t/2-1):=by
 show Bool.rec (motive:=fun _=>XV) (Bool.rec (motive:=fun _=>XV) (ix r (t/2-1)) (ix l (t/2)) (ap (t%2) 1)) x (ap t 0)=_;rw[sV,sV]
theorem Ib(v:XV)(f t:Nat):sk v (f+1) t=if t=0 then .n v .e .e else if t%2=1 then .n .any (sk v f (t/2)) .e else .n .any .e (sk v f (t/2-1)):=by
 show Bool.rec (motive:=fun _=>TE) (Bool.rec (motive:=fun _=>TE) (.n .any .e (sk v f (t/2-1))) (.n .any (sk v f (t/2)) .e) (ap (t%2) 1)) (.n v .e .e) (ap t 0)=_;rw[sV,sV]
theorem Kv(i:Nat)(v:XV):tX .e i v=sk v (i+1) i:=rfl
theorem Ku(y:XV)(l r:TE)(t:Nat)(v:XV):tX (.n y l r) t v=if t=0 then .n v l r else if t%2=1 then .n y (tX l (t/2) v) r else .n y l (tX r (t/2-1) v):=by
 show Bool.rec (motive:=fun _=>TE) (Bool.rec (motive:=fun _=>TE) (.n y l (tX r (t/2-1) v)) (.n y (tX l (t/2) v) r) (ap (t%2) 1)) (.n v l r) (ap t 0)=_;rw[sV,sV]
theorem mH{v:XV}:∀(f t:Nat),t<f->∀j,ix (sk v f t) j=if j=t then v else .any
 | 0,t,h,_=>by omega
 | f+1,t,h,j=>by
  rw[Ib];by_cases ht:t=0
  ·subst ht;rw[if_pos rfl,iS,pK,pK];by_cases e:j=0
   ·rw[if_pos e,if_pos e]
   ·rw[if_neg e,if_neg e];split<;>rfl
  ·rw[if_neg ht];by_cases hj:j=0
   ·subst hj;rw[if_neg (show ¬(0=t)from fun e=>ht e.symm)];split<;>rw[iS,if_pos rfl]
   ·by_cases e:j=t
    ·subst e;rw[if_pos rfl];split
     ·rename_i h1;rw[iS,if_neg ht,if_pos h1,mH f _ om,if_pos rfl]
     ·rename_i h1;rw[iS,if_neg ht,if_neg h1,mH f _ om,if_pos rfl]
    ·obtain⟨h1,h2⟩:=tn ht hj e;rw[if_neg e];split
     ·rename_i h3;rw[iS,if_neg hj,pK];split
      ·rename_i h4;rw[mH f _ om,if_neg (h1 h3 h4)]
      ·rfl
     ·rename_i h3;rw[iS,if_neg hj,pK];split
      ·rfl
      ·rename_i h4;rw[mH f _ om,if_neg (h2 h3 h4)]
theorem kD:∀(s:TE) (d:Nat) (v:XV) (t:Nat),ix (tX s d v) t=if t=d then v else ix s t
 | .e,i,v,j=>by rw[Kv,mH _ _ om,pK]
 | .n y l r,t,x,j=>by
  rw[Ku];by_cases ht:t=0
  ·subst ht;rw[if_pos rfl,iS,iS];by_cases e:j=0
   ·rw[if_pos e,if_pos e]
   ·rw[if_neg e,if_neg e,if_neg e]
  ·rw[if_neg ht];by_cases hj:j=0
   ·subst hj;rw[if_neg (show ¬(0=t)from fun e=>ht e.symm),iS,if_pos rfl];split<;>rw[iS,if_pos rfl]
   ·by_cases e:j=t
    ·subst e;rw[if_pos rfl];split
     ·rename_i h1;rw[iS,if_neg ht,if_pos h1,kD,if_pos rfl]
     ·rename_i h1;rw[iS,if_neg ht,if_neg h1,kD,if_pos rfl]
    ·obtain⟨h1,h2⟩:=tn ht hj e;rw[if_neg e];split
     ·rename_i h3;rw[iS,iS,if_neg hj,if_neg hj];split
      ·rename_i h4;rw[kD,if_neg (h1 h3 h4)]
      ·rfl
     ·rename_i h3;rw[iS,iS,if_neg hj,if_neg hj];split
      ·rfl
      ·rename_i h4;rw[kD,if_neg (h2 h3 h4)]
def ofL:List XV->Nat->TE->TE
 | [],_,s=>s
 | x::l,k,s=>ofL l (k+1) (tX s k x)
theorem Dx:∀(l:List XV) (k:Nat) (s:TE) (t:Nat),ix (ofL l k s) t=if k<=t/\t<k+l.length then l.getD (t-k) .any else ix s t
 | [],k,s,t=>by simp only[ofL,jf];rw[if_neg om]
 | x::l,k,s,t=>by
  simp only[ofL,cr];rw[Dx l (k+1),kD];by_cases e:t=k
  ·subst e;rw[if_neg om,if_pos rfl,if_pos om,bP];rfl
  ·rw[if_neg e];by_cases h:k+1<=t/\t<k+1+l.length
   ·rw[if_pos h,if_pos om,show t-k=(t-(k+1))+1 by omega];rfl
   ·rw[if_neg h,if_neg om]
def ut(l:List XV):TE:=ofL l 0 .e
theorem B9(l:List XV)(t:Nat):ix (ut l) t=l.getD t .any:=by
 unfold ut;rw[Dx,pK,aC,Nat.sub_zero];by_cases h:t<l.length
 ·rw[if_pos ⟨Nat.zero_le _,h⟩]
 ·rw[if_neg (fun e=>h e.2),List.getD_eq_getElem?_getD,cg om];rfl
def TR(φ:Ph)(te:TE)(O:Tm):Prop:=∀t,ER φ (ix te t) (O t)
theorem TR.mono{φ ψ:Ph}{te:TE}{O:Tm}(h:TR φ te O)(hle:φ.le ψ):TR ψ te O:=fun t=>(h t).mono hle
theorem TR.put{φ:Ph}{te:TE}{O:Tm}(h:TR φ te O){d:Nat}{v:XV}{z:AV}(hz:ER φ v z):TR φ (tX te d v) (O.put (some d) z):=fun t=>by
 rw[kD,Tm.put_eq];by_cases e:t=d
 ·simp only[e,if_pos];exact hz
 ·simp only[e,if_false];exact h t
def KZ:Value->XV
 | .int k n=>.int k n
 | .bool b=>.bool b
 | .slice ac 0 0=>.nil
 | _=>.any
theorem Jb(φ:Ph)(v:Value):ER φ (KZ v) (JU v):=by
 unfold KZ;split
 ·simp[ER,JU]
 ·simp[ER,JU]
 ·simp[ER,JU]
 ·simp[ER]
def ji(te:TE):Operand->XV
 | .tmp t=>ix te t
 | .const v=>KZ v
 | .global _=>.any
 | .func f=>.fn f []
theorem TR.ev{φ:Ph}{te:TE}{O:Tm}(h:TR φ te O)(x:Operand):ER φ (ji te x) (ev O x):=by
 cases x with
 | tmp t=>exact h t
 | const v=>exact Jb φ v
 | global g=>simp[ji,ER]
 | func f=>simp only[ji,Go.Proofs.YtdobfmlmenaajaaGreatDoor.ev,ER];exact⟨[],rfl,by simp[dZ]⟩
theorem TR.evL{φ:Ph}{te:TE}{O:Tm}(h:TR φ te O):∀l:List Operand,dZ φ (l.map (ji te)) (l.map (Go.Proofs.YtdobfmlmenaajaaGreatDoor.ev O))
 | []=>by simp[dZ]
 | x::l=>by simp only[List.map_cons,dZ];exact⟨h.ev x,h.evL l⟩
def lH:Nat->XV->Bool
 | 1,.int .u32 _=>false
 | 1,.int _ _=>true
 | 1,.bool _=>true
 | 1,.nil=>true
 | 1,.sl ..=>true
 | 1,.ptr ..=>true
 | 1,.lst ..=>true
 | 1,.pat ..=>true
 | 1,.fn ..=>true
 | 1,.nfn=>true
 | 1,.mfn ..=>true
 | 2,.big _=>true
 | _,_=>false
theorem jy{φ:Ph}{es:Nat}{x:XV}{a:AV}(h:lH es x=true)(hr:ER φ x a):du es a:=by
 unfold lH at h;split at h
 ·cases h
 ·rename_i k n hne;simp only[ER]at hr;subst hr;simp only[du];intro e;subst e;exact hne rfl
 all_goals first
  | (simp only[ER]at hr;subst hr;trivial)
  | (simp only[ER]at hr;obtain⟨b,_,rfl⟩:=hr;trivial)
  | (simp only[ER]at hr;obtain⟨b,rfl,_⟩:=hr;trivial)
  | exact absurd h (by decide)
def lG(es:Nat):List XV->Bool
 | []=>true
 | x::l=>lH es x&&lG es l
theorem mN{φ:Ph}{es:Nat}:∀{l:List XV} {r:List AV},lG es l=true->dZ φ l r->∀z∈r,du es z
 | [],[],_,_,z,hz=>by cases hz
 | x::l,a::r,h,hr,z,hz=>by
  simp only[lG,au]at h;simp only[dZ]at hr;rcases List.mem_cons.1 hz with rfl|hz
  ·exact jy h.1 hr.1
  ·exact mN h.2 hr.2 z hz
 | [],_::_,_,hr,_,_=>by simp[dZ]at hr
 | _::_,[],_,hr,_,_=>by simp[dZ]at hr
theorem rO{φ:Ph}{es:Nat}:∀{l:List XV} {g:Nat->AV} {k:Nat},lG es l=true->jI φ l g k->∀j,j<l.length->du es (g (k+j))
 | [],_,_,_,_,j,hj=>absurd hj (by simp)
 | x::l,g,k,h,hr,0,_=>by
  simp only[lG,au]at h;simp only[jI]at hr;exact jy h.1 hr.1
 | x::l,g,k,h,hr,j+1,hj=>by
  simp only[lG,au]at h;simp only[jI]at hr;have:=rO h.2 hr.2 j (by simpa using hj)
  rwa [show k+1+j=k+(j+1) by omega]at this
theorem dZ.toG{φ:Ph}{l:List XV}{r:List AV}(h:dZ φ l r):jI φ l (fun j=>r.getD j .any) 0:=jI.of fun j x hx=>by
 obtain⟨a,h1,h2⟩:=h.get hx;simp only[aC,cB,h1,fG];exact h2
abbrev XR:=Option (XV×Nat×EL)
abbrev dh:=Nat->List XV->Nat->EL->XR
def qt(nx:Nat)(l:EL)(X:EB)(v:XV):XR:=match dw l nx with
 | ac=>some (v,nx+1,pA l nx (some X))
 | some _=>ac
def XK(φ:Ph)(v:XV)(l:EL)(K:AV->St->Prop):Prop:=∀ψ z S,φ.le ψ->ER ψ v z->MR ψ l S->K z S
theorem nm{φ:Ph}{nx:Nat}{l:EL}{S:St}{ty es n:Nat}{L:List XV}{v:XV}{r:XV×Nat×EL}{g:Nat->AV}{K:AV->St->Prop}(h:qt nx l ⟨ty,es,L⟩ v=some r)(hm:MR φ l S)(hg:jI φ L g 0)(hn:n=L.length)(hk:XK φ r.1 r.2.2 K)
  {b:Nat} (hb:S b=ac) {z:AV} (hz:v=.ptr es nx 0/\z=.ptr es b 0∨v=.sl es nx 0 n/\z=.sl es b 0 n):K z (S.upd b ⟨ty,es,n,g⟩):=by
 unfold qt at h;split at h
 ·rename_i hl
  cases h
  obtain⟨h1,h2⟩:=hm.new hl hb (ty:=ty) (es:=es) hg hn;refine hk _ _ _ h1 ?_ h2;rcases hz with⟨rfl,rfl⟩|⟨rfl,rfl⟩
  ·simp only[ER];exact⟨b,by unfold Ph.set;rw[if_pos rfl],rfl⟩
  ·simp only[ER];exact⟨b,by unfold Ph.set;rw[if_pos rfl],rfl⟩
 ·cases h
def zE:Nat->Option (Nat×XV)
 | 2=>some (1,.int .i64 0)
 | 3=>some (1,.int .i64 0)
 | 4=>some (1,.bool false)
 | 28=>some (1,.nil)
 | 29=>some (1,.nil)
 | 52=>some (1,.nil)
 | 59=>some (1,.nil)
 | 50=>some (2,.big 0)
 | _=>ac
theorem zW{t es:Nat}{x:XV}(h:zE t=some (es,x)):∃a v,eQ t=some (es,a,v)/\∀φ,ER φ x a:=by
 unfold zE at h;split at h<;>first|(cases h;exact⟨_,_,rfl,fun φ=>by simp[ER]⟩)|cases h
def zA:Nat->Option (Nat×List XV)
 | 167=>some (2,[.big 0,.big 0])
 | 197=>some (2,[.big 0,.big 0,.big 0,.big 0,.big 0,.big 0,.big 0])
 | 218=>some (1,[.nil,.int .i64 0])
 | 202=>some (1,[.int .u64 0,.int .u64 0])
 | _=>ac
def tL(t nx:Nat)(l:EL):XR:=match zE t with
 | some (es,x)=>qt nx l ⟨t,es,[x]⟩ (.ptr es nx 0)
 | ac=>match zA t with
  | some (es,L)=>qt nx l ⟨t,es,L⟩ (.ptr es nx 0)
  | ac=>ac
theorem D3{φ:Ph}{t nx:Nat}{l:EL}{S:St}{r:XV×Nat×EL}{K:AV->St->Prop}(h:tL t nx l=some r)(hm:MR φ l S)(hk:XK φ r.1 r.2.2 K):kT t S K:=by
 unfold tL at h
 cases hz:zE t with
 | some p =>
  obtain⟨es,x⟩:=p;rw[hz]at h;obtain⟨a,v,h1,h2⟩:=zW hz;unfold kT;rw[h1];exact fun b hb=>nm h hm (by simp only[jI];exact⟨h2 φ,trivial⟩) rfl hk hb (.inl ⟨rfl,rfl⟩)
 | none =>
  rw[hz]at h;simp only at h;unfold zA at h;split at h
  ·rename_i es L hL;split at hL<;>first
    | (cases hL;exact fun b hb=>nm h hm (by simp[jI,ER]) rfl hk hb (.inl ⟨rfl,rfl⟩))
    | cases hL
  ·cases h
def FH(t:Nat)(x:XV)(nx:Nat)(l:EL):XR:=match dM t with
 | some (es,k)=>match ap k 1 with
  | true=>match lH es x with
   | true=>qt nx l ⟨t,es,[x]⟩ (.ptr es nx 0)
   | false=>ac
  | false=>match x with
   | .agg L=>match ap L.length k&&lG es L with
    | true=>qt nx l ⟨t,es,L⟩ (.ptr es nx 0)
    | false=>ac
   | _=>ac
 | ac=>ac
theorem H5{φ:Ph}{t nx:Nat}{x:XV}{a:AV}{l:EL}{S:St}{r:XV×Nat×EL}{K:AV->St->Prop}(h:FH t x nx l=some r)(hx:ER φ x a)(hm:MR φ l S)(hk:XK φ r.1 r.2.2 K):iK t a S K:=by
 unfold FH at h;unfold iK
 cases hs:dM t with
 | none=>rw[hs]at h;cases h
 | some p =>
  obtain⟨es,k⟩:=p;rw[hs]at h;simp only at h ⊢
  cases h1:ap k 1 with
  | true =>
   rw[h1]at h;rw[if_pos (ao h1)];simp only at h;split at h
   ·rename_i h2;exact⟨jy h2 hx,fun b hb=>nm h hm (by simp only[jI];exact⟨hx,trivial⟩) rfl hk hb (.inl ⟨rfl,rfl⟩)⟩
   ·cases h
  | false =>
   rw[h1]at h;rw[if_neg (fun e=>by subst e;simp at h1)]
   simp only at h;split at h
   ·rename_i L;simp only[ER]at hx;obtain⟨R,rfl,hL⟩:=hx;split at h
    ·rename_i h2;simp only[au]at h2;have e:=ao h2.1;refine⟨by rw[hL.length];exact e,mN h2.2 hL,fun b hb=>?_⟩
     exact nm h hm hL.toG e.symm hk hb (.inl ⟨rfl,rfl⟩)
    ·cases h
   ·cases h
def si(t:Nat)(x:XV)(l:EL):Option XV:=match x with
 | .pat es y=>match dM t with
  | some (es',k)=>match ap es es'&&ap k 1 with
   | true=>some y
   | false=>ac
  | ac=>ac
 | .ptr es i k0=>match dw l i with
  | some (some X)=>match dM t with
   | some (es',k)=>match ap es' es&&ap X.es es&&gZ (k0+k) X.l.length with
    | true=>match ap k 1 with
     | true=>X.l[k0]?
     | false=>some (.agg ((X.l.drop k0).take k))
    | false=>ac
   | ac=>ac
  | _=>ac
 | _=>ac
theorem xq{g:Nat->AV}:∀(k i j:Nat),(dj g i k)[j]? = if j<k then some (g (i+j))else ac
 | 0,i,j=>by simp[dj]
 | k+1,i,0=>by simp[dj]
 | k+1,i,j+1=>by
  simp only[dj,bN,xq k (i+1) j,Nat.add_lt_add_iff_right];rw[show i+1+j=i+(j+1) by omega]
theorem xm{g:Nat->AV}:∀(k i:Nat),(dj g i k).length=k
 | 0,_=>rfl
 | k+1,i=>by simp[dj,xm k]
theorem z8{φ:Ph}{t:Nat}{x v:XV}{a:AV}{l:EL}{S:St}{K:AV->Prop}(h:si t x l=some v)(hx:ER φ x a)(hm:MR φ l S)(hk:∀z,ER φ v z->K z):mU t a S K:=by
 unfold si at h;split at h
 ·rename_i es y;simp only[ER]at hx;obtain⟨y',rfl,hy⟩:=hx;split at h
  ·rename_i es' k hs;split at h
   ·rename_i h2;simp only[au]at h2
    cases h
    have e1:=ao h2.1;have e2:=ao h2.2;subst e1 e2;exact⟨hs,hk _ hy⟩
   ·cases h
  ·cases h
 ·rename_i es i k0;simp only[ER]at hx;obtain⟨b,hb,rfl⟩:=hx;split at h
  ·rename_i X hX;obtain⟨b',g,e1,e2,e3⟩:=hm.live i X hX;rw[hb]at e1;cases e1;split at h
   ·rename_i es' k hs;split at h
    ·rename_i h2;simp only[au]at h2;have q1:=ao h2.1.1;have q2:=ao h2.1.2;have q3:=bU h2.2;unfold mU;simp only[e2,hs];refine⟨q1,q2,q3,?_⟩
     cases h3:ap k 1 with
     | true =>
      rw[h3]at h;have:=ao h3;subst this;simp only at h;rw[if_pos rfl];have:=e3.get h;rw[aC]at this;exact hk _ this
     | false =>
      rw[h3]at h;rw[if_neg (fun e=>by subst e;simp at h3)]
      cases h
      refine hk _ ?_;simp only[ER];refine⟨_,rfl,dZ.of (by simp[xm];omega) fun j x a hx ha=>?_⟩
      rw[xq]at ha;by_cases hj:j<k
      ·rw[if_pos hj]at ha;cases ha;rw[eV hj,kV]at hx;have:=e3.get hx
       rwa [aC]at this
      ·rw[if_neg hj]at ha;cases ha
    ·cases h
   ·cases h
  ·cases h
 ·cases h
def sB:List XV->Nat->List XV->List XV
 | l,_,[]=>l
 | l,i,x::r=>sB (l.set i x) (i+1) r
theorem rE:∀(r l:List XV) (i:Nat),(sB l i r).length=l.length
 | [],_,_=>rfl
 | x::r,l,i=>by simp[sB,rE r]
theorem rF:∀(r l:List XV) (i j:Nat),i+r.length<=l.length->(sB l i r)[j]? = if i<=j/\j<i+r.length then r[j-i]? else l[j]?
 | [],l,i,j,_=>by
  simp only[sB,jf,Nat.add_zero];rw[if_neg om]
 | x::r,l,i,j,h=>by
  simp only[cr]at h;simp only[sB,rF r (l.set i x) (i+1) j (by simp;omega),cr]
  by_cases e:j=i
  ·subst e;rw[if_neg om,if_pos om,List.getElem?_set_self om,bP];rfl
  ·by_cases e2:i+1<=j/\j<i+1+r.length
   ·rw[if_pos e2,if_pos om,show j-i=j-(i+1)+1 by omega,bN]
   ·rw[if_neg e2,if_neg om,List.getElem?_set_ne om]
def BG(t:Nat)(x y:XV)(l:EL):Option EL:=match x with
 | .ptr es i k0=>match dw l i with
  | some (some X)=>match dM t with
   | some (es',k)=>match ap es' es&&ap X.es es&&gZ (k0+k) X.l.length with
    | true=>match ap k 1 with
     | true=>match lH es y with
      | true=>some (pA l i (some ⟨X.ty,X.es,X.l.set k0 y⟩))
      | false=>ac
     | false=>match y with
      | .agg L=>match ap L.length k&&lG es L with
       | true=>some (pA l i (some ⟨X.ty,X.es,sB X.l k0 L⟩))
       | false=>ac
      | _=>ac
    | false=>ac
   | ac=>ac
  | _=>ac
 | _=>ac
theorem DU{φ:Ph}{t:Nat}{x y:XV}{a c:AV}{l l':EL}{S:St}{K:St->Prop}(h:BG t x y l=some l')(hx:ER φ x a)(hy:ER φ y c)(hm:MR φ l S)(hk:∀S',MR φ l' S'->K S'):nB t a c S K:=by
 unfold BG at h;split at h
 ·rename_i es i k0;simp only[ER]at hx;obtain⟨b,hb,rfl⟩:=hx;split at h
  ·rename_i X hX;obtain⟨b',g,e1,e2,e3⟩:=hm.live i X hX;rw[hb]at e1;cases e1;split at h
   ·rename_i es' k hs;split at h
    ·rename_i h2;simp only[au]at h2;have q1:=ao h2.1.1;have q2:=ao h2.1.2;have q3:=bU h2.2;unfold nB;simp only[e2,hs];refine⟨q1,q2,q3,?_⟩
     cases h3:ap k 1 with
     | true =>
      rw[h3]at h;have:=ao h3;subst this;simp only at h;rw[if_pos rfl];split at h
      ·rename_i h4
       cases h
       refine⟨jy h4 hy,hk _ (hm.put hX hb (jI.of fun j x hx=>?_) (by simp))⟩
       simp only[bK,aC];by_cases e:j=k0
       ·subst e;rw[List.getElem?_set_self om]at hx;cases hx;rw[if_pos rfl];exact hy
       ·rw[List.getElem?_set_ne om]at hx;rw[if_neg e];have:=e3.get hx
        rwa [aC]at this
      ·cases h
     | false =>
      rw[h3]at h;rw[if_neg (fun e=>by subst e;simp at h3)]
      simp only at h;split at h
      ·rename_i L;simp only[ER]at hy;obtain⟨R,rfl,hL⟩:=hy;split at h
       ·rename_i h4;simp only[au]at h4;have q4:=ao h4.1
        cases h
        refine⟨by rw[hL.length];exact q4,mN h4.2 hL,hk _ (hm.put hX hb (jI.of fun j x hx=>?_) (by simp[rE]))⟩
        rw[rF _ _ _ _ om]at hx;simp only[gI,aC,hL.length];by_cases e:k0<=j/\j<k0+L.length
        ·rw[if_pos e]at hx;rw[if_pos e];obtain⟨a,h5,h6⟩:=hL.get hx;simp only[cB,h5,fG];exact h6
        ·rw[if_neg e]at hx;rw[if_neg e];have:=e3.get hx
         rwa [aC]at this
       ·cases h
      ·cases h
    ·cases h
   ·cases h
  ·cases h
 ·cases h
end
noncomputable section
def DX:XV->Option Nat
 | .int _ (.ofNat n)=>some n
 | _=>ac
theorem sZ{φ:Ph}{x:XV}{a:AV}{n:Nat}(h:DX x=some n)(hx:ER φ x a):∃k,a=.int k (n:Int):=by
 unfold DX at h;split at h
 ·cases h;simp only[ER]at hx;exact⟨_,hx⟩
 ·cases h
def BK(t:Nat)(x i:XV):Option XV:=match DX i with
 | ac=>ac
 | some n=>match cX t,x with
  | some e,.sl es b off len=>match ap es (bI e)&&aJ n len with
   | true=>some (.ptr es b (off+n))
   | false=>ac
  | some e,.lst es L=>match ap es (bI e),L[n]? with
   | true,some y=>some (.pat es y)
   | _,_=>ac
  | ac,.ptr es b k=>match ap es 2&&ap t 195&&aJ n 2 with
   | true=>some (.ptr 2 b (k+n))
   | false=>ac
  | _,_=>ac
theorem DY{φ:Ph}{t:Nat}{x i v:XV}{a c:AV}{K:AV->Prop}(h:BK t x i=some v)(hx:ER φ x a)(hi:ER φ i c)(hk:∀z,ER φ v z->K z):nE t a c K:=by
 unfold BK at h;split at h
 ·cases h
 ·rename_i n hn;obtain⟨k,rfl⟩:=sZ hn hi;unfold nE;split at h
  ·rename_i e es b off len he;simp only[ER]at hx;obtain⟨b',hb,rfl⟩:=hx;split at h
   ·rename_i h2;simp only[au]at h2
    cases h
    have h3:n<len:=by simpa using h2.2
    simp only[he];exact⟨ao h2.1,⟨by omega,by omega⟩,hk _ (by simp only[ER,eN];exact⟨b',hb,rfl⟩)⟩
   ·cases h
  ·rename_i e es L he;simp only[ER]at hx;obtain⟨g,rfl,hg⟩:=hx;split at h
   ·rename_i y h1 h2
    cases h
    have h3:n<L.length:=by
     rcases aE n L.length with h|h
     ·exact h
     ·rw[cg h]at h2;cases h2
    simp only[he];refine⟨ao h1,⟨by omega,by omega⟩,hk _ ?_⟩
    simp only[ER,eN];have:=hg.get h2;rw[aC]at this;exact⟨_,rfl,this⟩
   ·cases h
  ·rename_i es b k he;simp only[ER]at hx;obtain⟨b',hb,rfl⟩:=hx;split at h
   ·rename_i h2;simp only[au]at h2
    cases h
    have h3:n<2:=by simpa using h2.2
    simp only[he];exact⟨⟨ao h2.1.1,ao h2.1.2⟩,⟨by omega,by omega⟩,hk _ (by simp only[ER,eN];exact⟨b',hb,rfl⟩)⟩
   ·cases h
  ·cases h
def BM(t:Nat)(x:XV)(f:Nat):Option XV:=match eM t f,x with
 | some (es',k),.ptr es b i=>match ap es' es with
  | true=>some (.ptr es b (i+k))
  | false=>ac
 | _,_=>ac
theorem DZ{φ:Ph}{t f:Nat}{x v:XV}{a:AV}{K:AV->Prop}(h:BM t x f=some v)(hx:ER φ x a)(hk:∀z,ER φ v z->K z):nF t a f K:=by
 unfold BM at h;split at h
 ·rename_i es' k es b i hf;simp only[ER]at hx;obtain⟨b',hb,rfl⟩:=hx;split at h
  ·rename_i h2
   cases h
   unfold nF;simp only[hf];exact⟨ao h2,hk _ (by simp only[ER];exact⟨b',hb,rfl⟩)⟩
  ·cases h
 ·cases h
def z0(t:Nat)(x y:XV)(nx:Nat)(l:EL):XR:=match cX t,x,y with
 | some e,.int .i64 (.ofNat n),.int .i64 (.ofNat m)=>match zE e with
  | some (es,z)=>match ap n m&&ap es (bI e)&&gZ n 4096 with
   | true=>qt nx l ⟨e,es,bL n z⟩ (.sl es nx 0 n)
   | false=>ac
  | ac=>ac
 | _,_,_=>ac
theorem Fw{φ:Ph}{t nx:Nat}{x y:XV}{a c:AV}{l:EL}{S:St}{r:XV×Nat×EL}{K:AV->St->Prop}(h:z0 t x y nx l=some r)(hx:ER φ x a)(hy:ER φ y c)(hm:MR φ l S)(hk:XK φ r.1 r.2.2 K):jr t a c S K:=by
 unfold z0 at h;split at h
 ·rename_i e n m he;simp only[ER]at hx hy;subst hx hy;split at h
  ·rename_i es z hz;split at h
   ·rename_i h2;simp only[au]at h2;have q1:=ao h2.1.1;have q2:=ao h2.1.2;have q3:=bU h2.2;subst q1;obtain⟨z',v,h3,h4⟩:=zW hz;unfold jr;simp only[he,h3];refine⟨trivial,q2,⟨Int.natCast_nonneg n,by have:Int.ofNat n=(n:Int):=rfl;omega⟩,fun b hb=>?_⟩
    refine nm h hm (jI.of fun j x hx=>?_) (by simp) hk hb (.inr ⟨by simp,by simp⟩)
    have:=List.eq_of_mem_replicate (List.mem_of_getElem? hx);subst this;exact h4 φ
   ·cases h
  ·cases h
 ·cases h
def xlo:Option XV->Option Nat
 | ac=>some 0
 | some x=>DX x
def xhi(len:Nat):Option XV->Option Nat
 | ac=>some len
 | some x=>DX x
def xmx(len h:Nat)(hi:Option XV):Option XV->Bool
 | ac=>true
 | some x=>match DX x with
  | some a=>gZ h a&&gZ a len&&hi.isSome
  | ac=>false
def qd(len:Nat)(lo hi mx:Option XV):Option (Nat×Nat):=match xlo lo,xhi len hi with
 | some a,some h=>match xmx len h hi mx&&gZ a h&&gZ h len with
  | true=>some (a,h)
  | false=>ac
 | _,_=>ac
def LC(φ:Ph):Option XV->Option AV->Prop
 | ac,ac=>True
 | some x,some a=>ER φ x a
 | _,_=>False
theorem pI{φ:Ph}{len:Nat}{lo hi mx:Option XV}{lo' hi' mx':Option AV}{p:Nat×Nat}{K:Nat->Nat->Prop}(h:qd len lo hi mx=some p)(h1:LC φ lo lo')(h2:LC φ hi hi')(h3:LC φ mx mx')(hk:p.1<=p.2->p.2<=len->K p.1 p.2):qZ len lo' hi' mx' K:=by
 unfold qd at h;split at h
 ·rename_i a b ha hb;split at h
  ·rename_i hc
   cases h
   simp only[au]at hc;have q1:=bU hc.1.2;have q2:=bU hc.2;refine⟨a,b,?_,?_,?_,q1,q2,hk q1 q2⟩
   ·match lo,lo',h1 with
    | ac,ac,_=>simp only[xlo]at ha;cases ha;rfl
    | some x,some a',h1 =>
     simp only[xlo]at ha;obtain⟨k,rfl⟩:=sZ ha h1;rfl
   ·match hi,hi',h2 with
    | ac,ac,_=>simp only[xhi]at hb;cases hb;rfl
    | some x,some a',h2 =>
     simp only[xhi]at hb;obtain⟨k,rfl⟩:=sZ hb h2;rfl
   ·match mx,mx',h3 with
    | ac,ac,_=>trivial
    | some x,some a',h3 =>
     have hx:=hc.1.1;simp only[xmx]at hx;split at hx
     ·rename_i c hcx;simp only[au]at hx;obtain⟨k,rfl⟩:=sZ hcx h3;have q3:=bU hx.1.1;have q4:=bU hx.1.2;refine⟨by omega,by omega,?_⟩
      match hi,hi',h2,hx.2 with
      | some _,some _,_,_=>rfl
     ·cases hx
  ·cases h
 ·cases h
def BH(t:Nat)(x:XV)(lo hi mx:Option XV):Option XV:=match cX t,x with
 | some e,.sl es b off len=>match ap es (bI e),qd len lo hi mx with
  | true,some (a,h)=>match ap a 0||aJ a h with
   | true=>some (.sl es b (off+a) (h-a))
   | false=>some (.lst es [])
  | _,_=>ac
 | some e,.lst es L=>match ap es (bI e),qd L.length lo hi mx with
  | true,some (a,h)=>some (.lst es ((L.drop a).take (h-a)))
  | _,_=>ac
 | some _,.nil=>match qd 0 lo hi mx with
  | some _=>some .nil
  | ac=>ac
 | _,_=>ac
theorem DV{φ:Ph}{t:Nat}{x v:XV}{a:AV}{lo hi mx:Option XV}{lo' hi' mx':Option AV}{K:AV->Prop}(h:BH t x lo hi mx=some v)(hx:ER φ x a)(h1:LC φ lo lo')(h2:LC φ hi hi')(h3:LC φ mx mx')(hk:∀z,ER φ v z->K z):jo t a lo' hi' mx' K:=by
 unfold BH at h;unfold jo;split at h
 ·rename_i e es b off len he;simp only[ER]at hx;obtain⟨b',hb,rfl⟩:=hx;simp only[he];split at h
  ·rename_i a hh q1 q2;refine⟨ao q1,pI q2 h1 h2 h3 fun p1 p2=>?_⟩;simp only
   cases q3:(ap a 0||aJ a hh)with
   | true =>
    rw[q3]at h
    cases h
    have:a=0∨a<hh:=by
     simp only[Bool.or_eq_true]at q3;rcases q3 with q|q
     ·exact .inl (ao q)
     ·exact .inr (by simpa using q)
    rw[if_pos this];exact hk _ (by simp only[ER];exact⟨b',hb,rfl⟩)
   | false =>
    rw[q3]at h
    cases h
    have:¬(a=0∨a<hh):=by
     rintro (q|q)
     ·subst q;simp at q3
     ·have q4:aJ a hh=true:=by simpa using q
      rw[q4]at q3;simp at q3
    rw[if_neg this];exact hk _ (by simp only[ER];exact⟨_,rfl,by simp[jI]⟩)
  ·cases h
 ·rename_i e es L he;simp only[ER]at hx;obtain⟨g,rfl,hg⟩:=hx;simp only[he];split at h
  ·rename_i a hh q1 q2
   cases h
   refine⟨ao q1,pI q2 h1 h2 h3 fun p1 p2=>?_⟩;simp only at p1 p2 ⊢;refine hk _ ?_;simp only[ER];have el:((L.drop a).take (hh-a)).length=hh-a:=by simp;omega
   refine⟨_,by rw[el],jI.of fun j x hx=>?_⟩
   have hj:j<hh-a:=by
    rcases aE j (hh-a)with q|q
    ·exact q
    ·rw[cg om]at hx;cases hx
   rw[eV hj,kV]at hx;have:=hg.get hx;rw[aC]at this ⊢;exact this
  ·cases h
 ·rename_i e he;simp only[ER]at hx;subst hx;simp only[he];split at h
  ·rename_i p q2
   cases h
   exact pI q2 h1 h2 h3 fun _ _=>hk _ (by simp[ER])
  ·cases h
 ·cases h
def Ko(t:Nat)(x:XV):Option XV:=match cX t,x with
 | some _,.sl _ _ _ len=>some (.int .i64 len)
 | some _,.lst _ L=>some (.int .i64 L.length)
 | some _,.nil=>some (.int .i64 0)
 | _,_=>ac
theorem H1{φ:Ph}{t:Nat}{x v:XV}{a:AV}{K:AV->Prop}(h:Ko t x=some v)(hx:ER φ x a)(hk:∀z,ER φ v z->K z):zn t a K:=by
 unfold Ko at h;unfold zn;split at h
 ·rename_i e es b off len he;simp only[ER]at hx;obtain⟨b',hb,rfl⟩:=hx
  cases h;simp only[he];exact hk _ (by simp[ER])
 ·rename_i e es L he;simp only[ER]at hx;obtain⟨g,rfl,hg⟩:=hx
  cases h;simp only[he];exact hk _ (by simp[ER])
 ·rename_i e he;simp only[ER]at hx;subst hx
  cases h;simp only[he];exact hk _ (by simp[ER])
 ·cases h
def H4(l:EL):XV->Option (Nat×List XV×Option Nat)
 | .sl es i off len=>match dw l i with
  | some (some X)=>match ap X.es es&&gZ (off+len) X.l.length with
   | true=>some (es,(X.l.drop off).take len,some i)
   | false=>ac
  | _=>ac
 | .lst es L=>some (es,L,ac)
 | _=>ac
theorem C0{φ:Ph}{l:EL}{S:St}{x:XV}{a:AV}{es:Nat}{L:List XV}{o:Option Nat}(h:H4 l x=some (es,L,o))(hx:ER φ x a)(hm:MR φ l S):∃g o',vZ S a=some (es,L.length,g,o')/\jI φ L g 0/\∀b,o'=some b->∃i X,o=some i/\φ i=some b/\dw l i=some (some X):=by
 unfold H4 at h;split at h
 ·rename_i es' i off len;simp only[ER]at hx;obtain⟨b,hb,rfl⟩:=hx;split at h
  ·rename_i X hX;obtain⟨b',g,e1,e2,e3⟩:=hm.live i X hX;rw[hb]at e1;cases e1;split at h
   ·rename_i h2;simp only[au]at h2;have q1:=ao h2.1;have q2:=bU h2.2
    cases h
    have el:((X.l.drop off).take len).length=len:=by simp;omega
    refine⟨_,_,by simp only[vZ,e2,Option.bind_some];rw[if_pos ⟨q1,q2⟩,el],jI.of fun j x hx=>?_,fun b2 h2=>by cases h2;exact⟨i,X,rfl,hb,hX⟩⟩
    have hj:j<len:=by
     rcases aE j len with q|q
     ·exact q
     ·rw[cg om]at hx;cases hx
    rw[eV hj,kV]at hx;have:=e3.get hx;rw[aC]at this ⊢;exact this
   ·cases h
  ·cases h
 ·rename_i es' L';simp only[ER]at hx;obtain⟨g,rfl,hg⟩:=hx
  cases h
  exact⟨g,ac,rfl,hg,fun b h=>by cases h⟩
 ·cases h
def yh(t t':Nat)(s x:XV)(nx:Nat)(l:EL):XR:=match cX t,H4 l x with
 | some e,some (es,L,o)=>match ap t t'&&(zE e).isSome&&ap es (bI e)&&aJ 0 L.length&&lG es L&&gZ L.length 1000 with
  | true=>match s with
   | .nil=>qt nx l ⟨e,es,L⟩ (.sl es nx 0 L.length)
   | .sl es' i off len=>match dw l i,dw l nx with
    | some (some X),ac=>match ap es' es&&ap off 0&&ap X.ty e&&ap X.es es&&ap X.l.length len&&gZ len 1000&&(match o with
      | some j=>!ap j i
      | ac=>true)with
     | true=>some (.sl es nx 0 (len+L.length),nx+1,pA (pA l i ac) nx (some ⟨e,es,X.l++L⟩))
     | false=>ac
    | _,_=>ac
   | _=>ac
  | false=>ac
 | _,_=>ac
theorem BP{φ:Ph}{t t' nx:Nat}{s x:XV}{a c:AV}{l:EL}{S:St}{r:XV×Nat×EL}{K:AV->St->Prop}(h:yh t t' s x nx l=some r)(hs:ER φ s a)(hx:ER φ x c)(hm:MR φ l S)(hk:XK φ r.1 r.2.2 K):eL t t' a c S K:=by
 unfold yh at h;split at h
 ·rename_i e es L o he hels;obtain⟨g,o',q1,q2,q3⟩:=C0 hels hx hm;split at h
  ·rename_i h2;simp only[au]at h2;obtain⟨⟨⟨⟨⟨p1,p2⟩,p3⟩,p4⟩,p5⟩,p6⟩:=h2;have p1:=ao p1;have p3:=ao p3;have p4:0<L.length:=by simpa using p4
   have p6:=bU p6;have hz:(eQ e).isSome=true:=by
    cases hz:zE e with
    | none=>rw[hz]at p2;cases p2
    | some y =>
     obtain⟨a,v,h3,_⟩:=zW (t:=e) (es:=y.1) (x:=y.2) hz;rw[h3];rfl
   unfold eL;simp only[he,q1];refine⟨p1,hz,p3,p4,fun j hj=>by have:=rO p5 q2 j hj;rwa [aC]at this,?_⟩
   split at h
   ·simp only[ER]at hs;subst hs;exact⟨by omega,fun b hb=>nm h hm q2 rfl hk hb (.inr ⟨rfl,rfl⟩)⟩
   ·rename_i es' i off len;simp only[ER]at hs;obtain⟨b,hb,rfl⟩:=hs;split at h
    ·rename_i X hX hnx;obtain⟨b',g',e1,e2,e3⟩:=hm.live i X hX;rw[hb]at e1;cases e1;split at h
     ·rename_i h4
      cases h
      simp only[au]at h4;obtain⟨⟨⟨⟨⟨⟨s1,s2⟩,s3⟩,s4⟩,s5⟩,s6⟩,s7⟩:=h4;have s1:=ao s1;have s2:=ao s2;have s3:=ao s3;have s4:=ao s4;have s5:=ao s5;have s6:=bU s6;simp only[e2];refine⟨s1,s2,s3,s4,s5,by omega,fun eo=>?_,fun b2 hb2=>?_⟩
      ·obtain⟨j,Y,j1,j2,j3⟩:=q3 _ eo;subst j1;have:=hm.inj j i Y X b j3 hX j2 hb;subst this;simp at s7
      ·have hl:len+L.length=(X.l++L).length:=by simp;omega
       have hG:jI φ (X.l++L) (li g' len L.length g) 0:=jI.of fun j x hx=>by
        rw[aC];unfold li;by_cases hj:j<len
        ·rw[dR om]at hx;have:=e3.get hx;rw[aC]at this;split
         ·simp only[bK];rw[if_neg om];exact this
         ·simp only[if_pos hj];exact this
        ·rw[dC om,s5]at hx;have:=q2.get hx;rw[aC]at this;split
         ·rename_i h1;have hj2:j-len<L.length:=by
           rcases aE (j-len) L.length with q|q
           ·exact q
           ·rw[cg q]at hx;cases hx
          simp only[bK];rw[if_pos om]
          rwa [show j-len=0 by omega]at this
         ·simp only[if_neg hj];exact this
       obtain⟨h5,h6⟩:=hm.move hX hb hnx hb2 (ty:=e) (es:=es) hG hl;refine hk _ _ _ h5 ?_ h6;simp only[ER];exact⟨b2,by unfold Ph.set;rw[if_pos rfl],rfl⟩
     ·cases h
    ·cases h
   ·cases h
  ·cases h
 ·cases h
theorem jI.app{φ:Ph}{A L:List XV}{g' g:Nat->AV}{len:Nat}(e3:jI φ A g' 0)(s5:A.length=len)(q2:jI φ L g 0):jI φ (A++L) (li g' len L.length g) 0:=jI.of fun j x hx=>by
 rw[aC];unfold li;by_cases hj:j<len
 ·rw[dR om]at hx;have:=e3.get hx;rw[aC]at this;split
  ·simp only[bK];rw[if_neg om];exact this
  ·simp only[if_pos hj];exact this
 ·rw[dC om,s5]at hx;have:=q2.get hx;rw[aC]at this;split
  ·rename_i h1;have hj2:j-len<L.length:=by
    rcases aE (j-len) L.length with q|q
    ·exact q
    ·rw[cg q]at hx;cases hx
   simp only[bK];rw[if_pos om]
   rwa [show j-len=0 by omega]at this
  ·simp only[if_neg hj];exact this
def tK(t:Nat)(s x:XV)(nx:Nat)(l:EL):XR:=match s,x with
 | .sl es i off len,.int _ (.ofNat m)=>(match cX t,dw l i,dw l nx with
  | some e,some (some X),ac=>(match zE e with
   | some (es',z)=>(match ap es' es&&ap es (bI e)&&ap off 0&&ap X.ty e&&ap X.es es&&ap X.l.length len&&gZ 1 m&&gZ (len+m) 1048576 with
    | true=>some (.sl es nx 0 (len+m),nx+1,pA (pA l i ac) nx (some ⟨e,es,X.l++bL m z⟩))
    | false=>ac)
   | ac=>ac)
  | _,_,_=>ac)
 | _,_=>ac
theorem Ad{φ:Ph}{t nx:Nat}{s x:XV}{a c:AV}{l:EL}{S:St}{r:XV×Nat×EL}{K:AV->St->Prop}(h:tK t s x nx l=some r)(hs:ER φ s a)(hx:ER φ x c)(hm:MR φ l S)(hk:XK φ r.1 r.2.2 K):lN t a c S K:=by
 unfold tK at h;split at h
 ·rename_i es i off len k m;simp only[ER]at hs hx;obtain⟨b,hb,rfl⟩:=hs;subst hx;split at h
  ·rename_i e X he hX hnx;obtain⟨b',g',e1,e2,e3⟩:=hm.live i X hX;rw[hb]at e1;cases e1;split at h
   ·rename_i es' z hz;obtain⟨av,v,z1,z2⟩:=zW hz;split at h
    ·rename_i h4
     cases h
     simp only[au]at h4;obtain⟨⟨⟨⟨⟨⟨⟨s1,s2⟩,s3⟩,s4⟩,s5⟩,s6⟩,s7⟩,s8⟩:=h4;unfold lN;simp only[he,e2,z1];have s5:=ao s5;refine⟨ao s1,ao s2,ao s3,ao s4,s5,ao s6,bU s7,bU s8,fun b2 hb2=>?_⟩;have hl:len+m=(X.l++bL m z).length:=by
      have:=ao s6;simp;omega
     have hR:jI φ (bL m z) (fun _=>av) 0:=jI.of fun j y hy=>by
      rw[List.getElem?_replicate]at hy;split at hy
      ·cases hy;exact z2 φ
      ·cases hy
     have hG:=jI.app e3 (ao s6) hR;rw[List.length_replicate]at hG;obtain⟨h5,h6⟩:=hm.move hX hb hnx hb2 (ty:=e) (es:=es) hG hl;refine hk _ _ _ h5 ?_ h6;simp only[ER];exact⟨b2,by unfold Ph.set;rw[if_pos rfl],rfl⟩
    ·cases h
   ·cases h
  ·cases h
 ·cases h
def FD(t:Nat)(d s:XV)(l:EL):Option (XV×EL):=match cX t,d with
 | some e,.sl es i off len=>match dw l i,H4 l s with
  | some (some X),some (es',L,_)=>match ap es (bI e)&&ap es' es&&ap X.es es&&gZ (off+len) X.l.length&&ap L.length len&&aJ 0 L.length&&lG es L with
   | true=>some (.int .i64 len,pA l i (some ⟨X.ty,X.es,sB X.l off L⟩))
   | false=>ac
  | _,_=>ac
 | _,_=>ac
theorem FC{φ:Ph}{t:Nat}{d s v:XV}{a c:AV}{l l':EL}{S:St}{K:AV->St->Prop}(h:FD t d s l=some (v,l'))(hd:ER φ d a)(hs:ER φ s c)(hm:MR φ l S)(hk:XK φ v l' K):pE t a c S K:=by
 unfold FD at h;split at h
 ·rename_i e es i off len he;simp only[ER]at hd;obtain⟨b,hb,rfl⟩:=hd;split at h
  ·rename_i X es' L o hX hels;obtain⟨g,o',q1,q2,q3⟩:=C0 hels hs hm;obtain⟨b',g',e1,e2,e3⟩:=hm.live i X hX;rw[hb]at e1;cases e1;split at h
   ·rename_i h2
    cases h
    simp only[au]at h2;obtain⟨⟨⟨⟨⟨⟨p1,p2⟩,p3⟩,p4⟩,p5⟩,p6⟩,p7⟩:=h2;have p1:=ao p1;have p2:=ao p2;have p3:=ao p3;have p4:=bU p4;have p5:=ao p5;have p6:0<L.length:=by simpa using p6
    unfold pE;simp only[he,e2,q1];refine⟨p1,p2,p3,p4,p5,p6,fun j hj=>by have:=rO p7 q2 j hj;rwa [aC]at this,?_⟩
    refine hk _ _ _ (Ph.le_refl _) (by simp[ER]) (hm.put hX hb (jI.of fun j x hx=>?_) (by simp[rE]))
    rw[rF _ _ _ _ om]at hx;simp only[aC];by_cases e:off<=j/\j<off+L.length
    ·rw[if_pos e]at hx;rw[if_pos om];have:=q2.get hx
     rwa [aC]at this
    ·rw[if_neg e]at hx;rw[if_neg om];have:=e3.get hx
     rwa [aC]at this
   ·cases h
  ·cases h
 ·cases h
def xint(k:IntKind)(op:BinOp)(a b:Int):Option XV:=match op with
 | .add=>some (.int k (k.wrap (a+b)))
 | .sub=>some (.int k (k.wrap (a-b)))
 | .mul=>some (.int k (k.wrap (a*b)))
 | .quo=>if b=0 then ac else some (.int k (k.wrap (a.tdiv b)))
 | .rem=>if b=0 then ac else some (.int k (a.tmod b))
 | .eql=>some (.bool (a==b))
 | .neq=>some (.bool (a != b))
 | .lss=>some (.bool (decide (a<b)))
 | .leq=>some (.bool (decide (a<=b)))
 | .gtr=>some (.bool (decide (b<a)))
 | .geq=>some (.bool (decide (b<=a)))
 | _=>ac
def Kt(op:BinOp)(t:Nat)(x y:XV):Option XV:=match x,y with
 | .int k a,.int k' b=>if k=k' then xint k op a b else ac
 | .bool a,.bool b=>match ap t 4 with
  | true=>(match op with
   | .eql=>some (.bool (a==b))
   | .neq=>some (.bool (a != b))
   | _=>ac)
  | false=>ac
 | .sl _ _ _ _,.nil=>match op,ap t 29 with
  | .eql,true=>some (.bool false)
  | _,_=>ac
 | .lst _ L,.nil=>match op,ap t 29&&aJ 0 L.length with
  | .eql,true=>some (.bool false)
  | _,_=>ac
 | .nil,.nil=>match op,ap t 29 with
  | .eql,true=>some (.bool true)
  | _,_=>ac
 | _,_=>ac
theorem H6{φ:Ph}{op:BinOp}{t:Nat}{x y v:XV}{a c:AV}{K:AV->Prop}(h:Kt op t x y=some v)(hx:ER φ x a)(hy:ER φ y c)(hk:∀z,ER φ v z->K z):Bn op t a c K:=by
 unfold Kt at h;split at h
 ·simp only[ER]at hx hy;subst hx hy;split at h
  ·rename_i hkk;subst hkk;refine⟨rfl,?_⟩;unfold xint at h;split at h<;>first
    | cases h;done
    | (cases h;exact hk _ (by simp[ER]))
    | (split at h
       ·cases h
       ·rename_i h0;cases h;exact⟨h0,hk _ (by simp[ER])⟩)
  ·cases h
 ·simp only[ER]at hx hy;subst hx hy;split at h
  ·rename_i ht;refine⟨ao ht,?_⟩;split at h<;>first
    | cases h;done
    | (cases h;exact hk _ (by simp[ER]))
  ·cases h
 ·simp only[ER]at hx hy;obtain⟨b,_,rfl⟩:=hx;subst hy;split at h
  ·rename_i ht
   cases h
   exact⟨⟨ao ht,rfl⟩,hk _ (by simp[ER])⟩
  ·cases h
 ·simp only[ER]at hx hy;obtain⟨g,rfl,_⟩:=hx;subst hy;split at h
  ·rename_i ht
   cases h
   simp only[au]at ht;exact⟨⟨ao ht.1,rfl,by simpa using ht.2⟩,hk _ (by simp[ER])⟩
  ·cases h
 ·simp only[ER]at hx hy;subst hx hy;split at h
  ·rename_i ht
   cases h
   exact⟨⟨ao ht,rfl⟩,hk _ (by simp[ER])⟩
  ·cases h
 ·cases h
end
end Go.Proofs.YtdobfmlmenaajaaGreatDoor
