/-
  Lemmas for NeighbourKeeps.
-/
import Derived.Test.YtdobfmlmenaajaaGreatDoorL04
import Derived.OwnWalk
namespace Go.Proofs.YtdobfmlmenaajaaGreatDoor
open Go.RowKit Tryz
open _root_.List renaming take_of_length_le→bJ
open Tryz renaming prog→ah
set_option maxHeartbeats 6400000
set_option maxRecDepth 4096
set_option linter.all false
variable{a:Act}{ops:Array Oper}{Q:Exit->Act->World->Prop}{rest:List Oper}{cs:List Value}{o:Oper}{P:Program}{e:TypeId}{v:Value}
def LW(w wr:World)(e:TypeId)(size:Nat)(v:Value)(n:Nat)(cs:List Value):Prop:=wr.ownsRow w.heap.size e size v n cs/\Below w.heap.size w wr
theorem LW.start(w:World)(e:TypeId)(size:Nat):LW w w e size (.slice none 0 0) 0 []:=⟨World.ownsRow_nil w _ e size,Below.refl _ _⟩
theorem BS(d:o.guard=none)(s x:Operand)(t:TypeId)
  (p:o.op=.call { callee:=.builtin .append,args:=#[s,x],argTypes:=#[t,t] })
  (e:TypeId) (i:TypeInfo) (z:Value) (size bytes:Nat) (q:P.underlying t=some (.slice e)) (r:P.info? e=some i) (y:i.zero=some z)
  (hsize:i.size=size) (f:i.bytes=bytes) (j:z.cells.size=size) (k:0<size)
  (w wr:World) (v:Value) (n:Nat) (cs:List Value) (A:a.eval s=v) (b:LW w wr e size v n cs)
  (new:Array Value) (c:Nat) (B:a.eval x=.slice (some ⟨wr.heap.size,0,none⟩) 1 c) (C:new.size=size) (D:∀u∈new.toList,u.oneCell'=true)
  (l:n+1<=maxLen) (hbytes:(n+1)*bytes<=140737488355328)
  (h:∀v' w',LW w w' e size v' (n+1) (cs++new.toList)->wpList P ops Q rest (a.put o.dst v') w') :
  wpList P ops Q (o::rest) a (wr.alloc (.cells new e)):=by
 have m:=b.2.alloc b.2.size (Obj.cells new e);refine wpList_append_own_at _ d s x t p w.heap.size e i z size bytes q r y hsize f j k v n cs A (b.1.alloc _) ⟨wr.heap.size,0,none⟩ 1 c new.toList B (by simpa using C) (World.news_of_block (heap_alloc_new wr _)) D l hbytes m.size ?_
 intro v' w' E F _ _;refine h v' w' ⟨E,m.trans (jE F m.size ?_)⟩;intro g G;exact(b.1.lt g G).1
theorem iB(l:List Nat)(k:Nat):aY (l.take (k+1))=aY (l.take k)+4294967296^k*l.getD k 0:=by
 rcases Nat.lt_or_ge k l.length with h|h
 ·exact dF l k h
 ·rw[bJ h,bJ om];simp[List.getD,List.getElem?_eq_none h]
def EA(w:World)(v len:Nat)(e:Ending)(w':World):Prop :=
 ∃(A:Option Addr) (n c:Nat) (zs:List Nat),e=.returned (.slice A n c)/\n<=c/\n<=len/\cj w' w'.heap.size A n zs/\aY zs=v/\Below w.heap.size w w'
theorem yJ(zs:List Nat)(x:Nat):jh zs++(#[Value.int .u32 x]:Array Value).toList=jh (zs++[x]):=by simp[jh]
theorem LW.slice{w wr:World}{size n:Nat}(h:LW w wr e size v n cs):∃A c,v=.slice A n c:=by
 rcases h.1.2 with⟨h,a⟩|⟨g,cap,_,h,_⟩
 ·exact⟨none,0,by rw[h,a]⟩
 ·exact⟨_,_,h⟩
def yl(w wr:World)(v:Value)(zs:List Nat):Prop:=LW w wr 136 1 v zs.length (jh zs)
theorem yl.start(w:World):yl w w (.slice none 0 0) []:=LW.start w 136 1
theorem fX(d:o.guard=none)(s x:Operand)
  (f:o.op=.call { callee:=.builtin .append,args:=#[s,x],argTypes:=#[48,48] })
  (w wr:World) (v:Value) (zs:List Nat) (g:a.eval s=v) (b:yl w wr v zs) (y:Nat)
  (c:Nat) (i:a.eval x=.slice (some ⟨wr.heap.size,0,none⟩) 1 c) (j:zs.length<=4294967296)
  (h:∀v' w',yl w w' v' (zs++[y])->wpList ah ops Q rest (a.put o.dst v') w') :
  wpList ah ops Q (o::rest) a (wr.alloc (.cells #[.int .u32 (y:Int)] 136)):=by
 refine BS d s x 48 f 136 Tryz.t136 (.int .u32 0) 1 4 underlying48 DZ Dm DA Ek rfl om w wr v zs.length (jh zs) g b #[.int .u32 y] c i rfl (by simp[Value.oneCell']) (by simp[maxLen];omega) om ?_
 intro v' w' e;rw[yJ]at e;exact h v' w' (by simpa [yl]using e)

end Go.Proofs.YtdobfmlmenaajaaGreatDoor
