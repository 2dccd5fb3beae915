/- No condition. -/
import Derived.Test.YtfapcfpkbahneaaGreatDoorQpAmEdit
import Derived.Lib.SliceRun
import Derived.Laws.IdiomCopy
set_option linter.all false
namespace Go.Am
open Go.Proofs Go.RowKit Go.Lib
variable {P:Program}
def avR (P:Program)(w:World)(g o:Nat)(cur:Array Value)(t:TypeId)(vs:List Value)(hg:w.heap[g]?=some (.cells cur t (0,0)))(aBi:o+vs.length<=cur.size)(h1:∀v∈vs,v.oneCell'=true) :
  w.setCells g o vs=w.setRow g (cur.toList.take o++vs++cur.toList.drop (o+vs.length)).toArray:=by
 have a:=run_storeCells_at P g o t vs 0 cur w hg (by simpa using aBi) h1;have b:=run_storeCells_cells (P:=P) g o vs 0 w (fun j hj=>by rw[cell_of_row w g _ cur t (0,0) hg,aAS (by omega)];rfl) (fun j hj=>by simp[World.frozen?,hg]) h1;rw[b]at a;injection a
def arR {z:Array Value}{n:Nat}{v:Value}(hz:0<z.size)(h:v∈(Builtin.zeroCells z n).toList):v∈z.toList:=by simp only[Builtin.zeroCells,acM,Jr]at h;obtain⟨i,_,rfl⟩:=h;have hlt:i%z.size<z.size:=aa0 _ hz;rw[getElem!_pos z _ hlt];exact Array.getElem_mem_toList hlt
def anD (w:World)(t e ty:TypeId)(z:Value)(k:Nat)(ht:P.underlying t=some (.slice e))(hv:∀w,(zeroValue e).run P w=.ok z w)(hk:z.cells.size=k)(hk0:0<k)(h1:∀v∈z.cells.toList,v.oneCell'=true)
  (g o n c:Nat) (hn:0<n) (cur:Array Value) (t':TypeId) (hg:w.heap[g]?=some (.cells cur t' (0,0))) (aBi:o+n*k<=cur.size) :
  (Builtin.clear_ #[t] ty #[.slice (some ⟨g,o,none⟩) n c]).run P w=.ok (.tuple #[]) (w.setRow g (cur.toList.take o++(Builtin.zeroCells z.cells n).toList++cur.toList.drop (o+n*k)).toArray):=by
 have hs:(Builtin.zeroCells z.cells n).toList.length=n*k:=by rw[Array.length_toList,size_zeroCells,hk]
 have hst:=run_storeCells_at P g o t' (Builtin.zeroCells z.cells n).toList 0 cur w hg (by rw[hs];simpa using aBi) (fun v hv=>h1 v (arR (by omega) hv));rw[hs]at hst;obtain⟨m,rfl⟩:∃m,n=m+1:=⟨n-1,by omega⟩;simp[Builtin.clear_,run_underlying ht,hv,hst]
end Go.Am
