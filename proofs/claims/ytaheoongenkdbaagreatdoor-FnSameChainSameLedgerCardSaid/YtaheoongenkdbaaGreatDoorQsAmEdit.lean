/- No condition. -/
import Derived.Test.YtaheoongenkdbaaGreatDoorQsAmUse
import Derived.Shelf.Spec.SlicesInsert
import Derived.Lib.AppendZerosOnto
import Derived.Laws.NewBlocks
set_option linter.all false
namespace Go.Am
open Go.Proofs Go.RowKit Go.Lib
variable {P:Program}
def dL (w:World)(dT m B f:TypeId)(k:Nat)(g o d n:Nat)(a:Addr)(b h:Nat)(c:Array Value)(t:TypeId)(cs:List Value)
  (p:P.underlying dT=some (.slice f)) (j:(P.info? f).map (·.size)=some k)
  (q:w.heap[g]?=some (.cells c t (0,0))) (r:cs.length=Nat.min b d*k)
  (s:∀l v,cs[l]?=some v->w.cell? (a.add l)=some v) (u:o+cs.length<=c.size) (x:∀v∈cs,v.oneCell'=true) :
  (Builtin.copy_ #[dT,m] B #[.slice (some ⟨g,o,none⟩) d n,.slice (some a) b h]).run P w =
   .ok (goInt (Nat.min b d)) (w.setRow g (c.toList.take o++cs++c.toList.drop (o+cs.length)).toArray):=by
 have y:=run_firstCells_some (P:=P) w k (Nat.min b d) a b h cs (by rw[r]) s;have z:=run_storeCells_at P g o t cs 0 c w q (by simpa using u) x;cases e:P.info? f with
 |none=>simp[e]at j
 |some i =>
  have A:i.size=k:=by simpa [e]using j
  simp[Builtin.copy_,run_underlying p,Builtin.lenOf,sizeOf,typeInfo,e,A,y,z]
def awq {U:Type}{L ds:List U}{a b d:Nat}(g:a<=b)(h:b+d<=L.length)(c:ds.length=d) :
  (((L.take (a+d)++(L.take b).drop a++L.drop (a+d+(b-a))).take a++ds++(L.take (a+d)++(L.take b).drop a++L.drop (a+d+(b-a))).drop (a+d)).take (b+d))=L.take a++ds++(L.take b).drop a:=by
 have e:(L.take (a+d)++(L.take b).drop a++L.drop (a+d+(b-a))).take a=L.take a:=by rw[ik,List.take_append_of_le_length (by rw[bz];omega),List.take_take,YJ (by omega)]
 have f:(L.take (a+d)++(L.take b).drop a++L.drop (a+d+(b-a))).drop (a+d)=(L.take b).drop a++L.drop (a+d+(b-a)):=by rw[ik,List.drop_left' (by rw[bz];omega)]
 rw[e,f,show b+d=(L.take a++ds).length+(b-a) by rw[aL,bz,c];omega,List.take_length_add_append,aqF (by rw[a1,bz];omega)]
def arx {U:Type}{L ds Z Z':List U}{a b d:Nat}(h:a<=b)(i:b<=L.length)(e:ds.length=d)(j:Z.length=b+d-a) :
  ((((L.take a++Z++Z').take a++ds++(L.take a++Z++Z').drop (a+d)).take (a+d)++(L.take b).drop a++((L.take a++Z++Z').take a++ds++(L.take a++Z++Z').drop (a+d)).drop (a+d+(b-a))).take (b+d))=L.take a++ds++(L.take b).drop a:=by
 have c:(L.take a).length=a:=by rw[bz];omega
 have f:(L.take a++Z++Z').take a=L.take a:=by rw[ik,aqF c]
 rw[f];have g:(L.take a++ds++(L.take a++Z++Z').drop (a+d)).take (a+d)=L.take a++ds:=by rw[aqF (by rw[aL,c,e])]
 rw[g,show b+d=(L.take a++ds).length+(b-a) by rw[aL,c,e];omega,ik (L.take a++ds),List.take_length_add_append,aqF (by rw[a1,bz];omega)]
def uH {W a:World}{o:Obj}{r1 r2:Array Value}(b:a.heap=(((W.alloc o).setRow W.heap.size r1).setRow W.heap.size r2).heap)(c:a.os=W.os)(d:a.tape=W.tape)(e:a.output=W.output)(g:Option Nat):W.grownBy a g:=by refine⟨c,d,e,by rw[b,setRow_size,setRow_size];simp,fun k f _=>?_⟩;rw[b,setRow_other _ _ k _ (by omega),setRow_other _ _ k _ (by omega)];exact Below.heap_alloc _ _ _ f
end Go.Am
