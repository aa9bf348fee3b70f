/-
  Lemmas for NeighbourIndex.
-/
import Derived.Test.YtdobfmlmenaajaaGreatDoorJ02
import Derived.OwnWalk
namespace Go.Proofs.YtdobfmlmenaajaaGreatDoor
open Go.RowKit Tryz
open _root_.List renaming take_of_length_le→bL
open Tryz renaming prog→aj
set_option maxHeartbeats 6400000
set_option maxRecDepth 4096
set_option linter.all false
def Li(w wr:World)(e:TypeId)(size:Nat)(v:Value)(n:Nat)(cs:List Value):Prop:=wr.ownsRow w.heap.size e size v n cs/\Below w.heap.size w wr
theorem Li.start(w:World)(e:TypeId)(size:Nat):Li w w e size (.slice none 0 0) 0 []:=⟨World.ownsRow_nil w _ e size,Below.refl _ _⟩
theorem A9{P:Program}{ops:Array Oper}{rest:List Oper}{o:Oper}{a:Act}{Q:Exit->Act->World->Prop}(hgd:o.guard=none)(s x:Operand)(t:TypeId)
  (ho:o.op=.call { callee:=.builtin .append,args:=#[s,x],argTypes:=#[t,t] })
  (e:TypeId) (i:TypeInfo) (z:Value) (size bytes:Nat) (ht:P.underlying t=some (.slice e)) (hi:P.info? e=some i) (hz:i.zero=some z)
  (hsize:i.size=size) (hby:i.bytes=bytes) (hzs:z.cells.size=size) (hsz:0<size)
  (w wr:World) (v:Value) (n:Nat) (cs:List Value) (hs:a.eval s=v) (hown:Li w wr e size v n cs)
  (new:Array Value) (c:Nat) (hx:a.eval x=.slice (some ⟨wr.heap.size,0,none⟩) 1 c) (hl:new.size=size) (h1:∀u∈new.toList,u.oneCell'=true)
  (h63:n+1<=maxLen) (hbytes:(n+1)*bytes<=140737488355328)
  (h:∀v' w',Li w w' e size v' (n+1) (cs++new.toList)->wpList P ops Q rest (a.put o.dst v') w') :
  wpList P ops Q (o::rest) a (wr.alloc (.cells new e)):=by
 have hb:=hown.2.alloc hown.2.size (Obj.cells new e);refine wpList_append_own_at _ hgd s x t ho w.heap.size e i z size bytes ht hi hz hsize hby hzs hsz v n cs hs (hown.1.alloc _) ⟨wr.heap.size,0,none⟩ 1 c new.toList hx (by simpa using hl) (World.news_of_block (heap_alloc_new wr _)) h1 h63 hbytes hb.size ?_
 intro v' w' h2 h3 _ _;refine h v' w' ⟨h2,hb.trans (jf h3 hb.size ?_)⟩;intro g hg;exact(hown.1.lt g hg).1
theorem gZ(l:List Nat)(k:Nat):bv (l.take (k+1))=bv (l.take k)+4294967296^k*l.getD k 0:=by
 rcases Nat.lt_or_ge k l.length with h|h
 ·exact dz l k h
 ·rw[bL h,bL om];simp[List.getD,List.getElem?_eq_none h]
def DE(w:World)(v len:Nat)(e:Ending)(w':World):Prop :=
 ∃(A:Option Addr) (n c:Nat) (zs:List Nat),e=.returned (.slice A n c)/\n<=c/\n<=len/\cc w' w'.heap.size A n zs/\bv zs=v/\Below w.heap.size w w'
theorem xz(zs:List Nat)(x:Nat):iN zs++(#[Value.int .u32 x]:Array Value).toList=iN (zs++[x]):=by simp[iN]
theorem Li.slice{w wr:World}{e:TypeId}{size n:Nat}{v:Value}{cs:List Value}(h:Li w wr e size v n cs):∃A c,v=.slice A n c:=by
 rcases h.1.2 with⟨h,h0⟩|⟨g,cap,_,h,_⟩
 ·exact⟨none,0,by rw[h,h0]⟩
 ·exact⟨_,_,h⟩
def wL(w wr:World)(v:Value)(zs:List Nat):Prop:=Li w wr 136 1 v zs.length (iN zs)
theorem wL.start(w:World):wL w w (.slice none 0 0) []:=Li.start w 136 1
theorem fR{ops:Array Oper}{rest:List Oper}{o:Oper}{a:Act}{Q:Exit->Act->World->Prop}(hgd:o.guard=none)(s x:Operand)
  (ho:o.op=.call { callee:=.builtin .append,args:=#[s,x],argTypes:=#[48,48] })
  (w wr:World) (v:Value) (zs:List Nat) (hs:a.eval s=v) (hown:wL w wr v zs) (y:Nat)
  (c:Nat) (hx:a.eval x=.slice (some ⟨wr.heap.size,0,none⟩) 1 c) (hl:zs.length<=4294967296)
  (h:∀v' w',wL w w' v' (zs++[y])->wpList aj ops Q rest (a.put o.dst v') w') :
  wpList aj ops Q (o::rest) a (wr.alloc (.cells #[.int .u32 (y:Int)] 136)):=by
 refine A9 hgd s x 48 ho 136 Tryz.t136 (.int .u32 0) 1 4 underlying48 Da Cw CS Dr rfl om w wr v zs.length (iN zs) hs hown #[.int .u32 y] c hx rfl (by simp[Value.oneCell']) (by simp[maxLen];omega) om ?_
 intro v' w' h2;rw[xz]at h2;exact h v' w' (by simpa [wL]using h2)
end Go.Proofs.YtdobfmlmenaajaaGreatDoor
