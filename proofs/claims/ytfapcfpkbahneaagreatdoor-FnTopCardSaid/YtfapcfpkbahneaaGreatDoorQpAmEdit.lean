/- No condition. -/
import Derived.Test.YtfapcfpkbahneaaGreatDoorQpAmUse
import Derived.Shelf.Spec.SlicesInsert
import Derived.Lib.AppendZerosOnto
import Derived.Laws.NewBlocks
set_option linter.all false
namespace Go.Am
open Go.Proofs Go.RowKit Go.Lib
variable {P:Program}
def eV (w:World)(dT sT ty elem:TypeId)(k:Nat)(g o aKa aQE:Nat)(a:Addr)(aHP aOy:Nat)(cur:Array Value)(t:TypeId)(cs:List Value)
  (hu:P.underlying dT=some (.slice elem)) (hs:(P.info? elem).map (·.size)=some k)
  (hg:w.heap[g]?=some (.cells cur t (0,0))) (hn:cs.length=Nat.min aHP aKa*k)
  (hsrc:∀j v,cs[j]?=some v->w.cell? (a.add j)=some v) (aBi:o+cs.length<=cur.size) (h1:∀v∈cs,v.oneCell'=true) :
  (Builtin.copy_ #[dT,sT] ty #[.slice (some ⟨g,o,none⟩) aKa aQE,.slice (some a) aHP aOy]).run P w =
   .ok (goInt (Nat.min aHP aKa)) (w.setRow g (cur.toList.take o++cs++cur.toList.drop (o+cs.length)).toArray):=by
 have hf:=run_firstCells_some (P:=P) w k (Nat.min aHP aKa) a aHP aOy cs (by rw[hn]) hsrc;have hst:=run_storeCells_at P g o t cs 0 cur w hg (by simpa using aBi) h1;cases hq:P.info? elem with
 |none=>simp[hq]at hs
 |some i =>
  have hi:i.size=k:=by simpa [hq]using hs
  simp[Builtin.copy_,run_underlying hu,Builtin.lenOf,sizeOf,typeInfo,hq,hi,hf,hst]
def aBG {U:Type}{L ds:List U}{a b d:Nat}(hab:a<=b)(hbd:b+d<=L.length)(hd:ds.length=d) :
  (((L.take (a+d)++(L.take b).drop a++L.drop (a+d+(b-a))).take a++ds++(L.take (a+d)++(L.take b).drop a++L.drop (a+d+(b-a))).drop (a+d)).take (b+d))=L.take a++ds++(L.take b).drop a:=by
 have h1:(L.take (a+d)++(L.take b).drop a++L.drop (a+d+(b-a))).take a=L.take a:=by rw[iT,aC6 (by rw[bV];omega),List.take_take,aiv (by omega)]
 have h2:(L.take (a+d)++(L.take b).drop a++L.drop (a+d+(b-a))).drop (a+d)=(L.take b).drop a++L.drop (a+d+(b-a)):=by rw[iT,List.drop_left' (by rw[bV];omega)]
 rw[h1,h2,show b+d=(L.take a++ds).length+(b-a) by rw[aL,bV,hd];omega,List.take_length_add_append,amM (by rw[bB,bV];omega)]
def avQ {U:Type}{L ds Z Z':List U}{a b d:Nat}(hab:a<=b)(hb:b<=L.length)(hd:ds.length=d)(hz:Z.length=b+d-a) :
  ((((L.take a++Z++Z').take a++ds++(L.take a++Z++Z').drop (a+d)).take (a+d)++(L.take b).drop a++((L.take a++Z++Z').take a++ds++(L.take a++Z++Z').drop (a+d)).drop (a+d+(b-a))).take (b+d))=L.take a++ds++(L.take b).drop a:=by
 have hla:(L.take a).length=a:=by rw[bV];omega
 have h1:(L.take a++Z++Z').take a=L.take a:=by rw[iT,amM hla]
 rw[h1];have h2:(L.take a++ds++(L.take a++Z++Z').drop (a+d)).take (a+d)=L.take a++ds:=by rw[amM (by rw[aL,hla,hd])]
 rw[h2,show b+d=(L.take a++ds).length+(b-a) by rw[aL,hla,hd];omega,iT (L.take a++ds),List.take_length_add_append,amM (by rw[bB,bV];omega)]
def xa {W W':World}{o:Obj}{r1 r2:Array Value}(hh:W'.heap=(((W.alloc o).setRow W.heap.size r1).setRow W.heap.size r2).heap)(h1:W'.os=W.os)(h2:W'.tape=W.tape)(h3:W'.output=W.output)(row:Option Nat):W.grownBy W' row:=by refine⟨h1,h2,h3,by rw[hh,setRow_size,setRow_size];simp,fun k hk _=>?_⟩;rw[hh,setRow_other _ _ k _ (by omega),setRow_other _ _ k _ (by omega)];exact Below.heap_alloc _ _ _ hk
end Go.Am
