/- No condition. -/
import Derived.Test.YtaheoongenkdbaaGreatDoorQeAmUse
import Derived.Shelf.Spec.SlicesInsert
import Derived.Lib.AppendZerosOnto
import Derived.Laws.NewBlocks
set_option linter.all false
namespace Go.Am
open Go.Proofs Go.RowKit Go.Lib
variable {P:Program}
def dO (w:World)(dT l A f:TypeId)(k:Nat)(g o d m:Nat)(a:Addr)(b h:Nat)(c:Array Value)(t:TypeId)(cs:List Value)
  (n:P.underlying dT=some (.slice f)) (hs:(P.info? f).map (·.size)=some k)
  (p:w.heap[g]?=some (.cells c t (0,0))) (q:cs.length=Nat.min b d*k)
  (r:∀j v,cs[j]?=some v->w.cell? (a.add j)=some v) (s:o+cs.length<=c.size) (u:∀v∈cs,v.oneCell'=true) :
  (Builtin.copy_ #[dT,l] A #[.slice (some ⟨g,o,none⟩) d m,.slice (some a) b h]).run P w =
   .ok (goInt (Nat.min b d)) (w.setRow g (c.toList.take o++cs++c.toList.drop (o+cs.length)).toArray):=by
 have x:=run_firstCells_some (P:=P) w k (Nat.min b d) a b h cs (by rw[q]) r;have y:=run_storeCells_at P g o t cs 0 c w p (by simpa using s) u;cases e:P.info? f with
 |none=>simp[e]at hs
 |some i =>
  have z:i.size=k:=by simpa [e]using hs
  simp[Builtin.copy_,run_underlying n,Builtin.lenOf,sizeOf,typeInfo,e,z,x,y]
def azc {U:Type}{L ds:List U}{a b d:Nat}(g:a<=b)(h:b+d<=L.length)(c:ds.length=d) :
  (((L.take (a+d)++(L.take b).drop a++L.drop (a+d+(b-a))).take a++ds++(L.take (a+d)++(L.take b).drop a++L.drop (a+d+(b-a))).drop (a+d)).take (b+d))=L.take a++ds++(L.take b).drop a:=by
 have e:(L.take (a+d)++(L.take b).drop a++L.drop (a+d+(b-a))).take a=L.take a:=by rw[gI,aAz (by rw[bC];omega),List.take_take,ahi (by omega)]
 have f:(L.take (a+d)++(L.take b).drop a++L.drop (a+d+(b-a))).drop (a+d)=(L.take b).drop a++L.drop (a+d+(b-a)):=by rw[gI,List.drop_left' (by rw[bC];omega)]
 rw[e,f,show b+d=(L.take a++ds).length+(b-a) by rw[aG,bC,c];omega,List.take_length_add_append,ali (by rw[bc,bC];omega)]
def atQ {U:Type}{L ds Z Z':List U}{a b d:Nat}(h:a<=b)(i:b<=L.length)(e:ds.length=d)(j:Z.length=b+d-a) :
  ((((L.take a++Z++Z').take a++ds++(L.take a++Z++Z').drop (a+d)).take (a+d)++(L.take b).drop a++((L.take a++Z++Z').take a++ds++(L.take a++Z++Z').drop (a+d)).drop (a+d+(b-a))).take (b+d))=L.take a++ds++(L.take b).drop a:=by
 have c:(L.take a).length=a:=by rw[bC];omega
 have f:(L.take a++Z++Z').take a=L.take a:=by rw[gI,ali c]
 rw[f];have g:(L.take a++ds++(L.take a++Z++Z').drop (a+d)).take (a+d)=L.take a++ds:=by rw[ali (by rw[aG,c,e])]
 rw[g,show b+d=(L.take a++ds).length+(b-a) by rw[aG,c,e];omega,gI (L.take a++ds),List.take_length_add_append,ali (by rw[bc,bC];omega)]
def vz {W a:World}{o:Obj}{r1 r2:Array Value}(b:a.heap=(((W.alloc o).setRow W.heap.size r1).setRow W.heap.size r2).heap)(c:a.os=W.os)(d:a.tape=W.tape)(e:a.output=W.output)(g:Option Nat):W.grownBy a g:=by refine⟨c,d,e,by rw[b,setRow_size,setRow_size];simp,fun k f _=>?_⟩;rw[b,setRow_other _ _ k _ (by omega),setRow_other _ _ k _ (by omega)];exact Below.heap_alloc _ _ _ f
end Go.Am
