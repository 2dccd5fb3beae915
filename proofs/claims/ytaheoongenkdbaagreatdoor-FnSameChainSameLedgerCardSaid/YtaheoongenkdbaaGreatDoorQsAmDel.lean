/- No condition. -/
import Derived.Test.YtaheoongenkdbaaGreatDoorQsAmEdit
import Derived.Lib.SliceRun
import Derived.Laws.IdiomCopy
set_option linter.all false
namespace Go.Am
open Go.Proofs Go.RowKit Go.Lib
variable {P:Program}
def ary (P:Program)(w:World)(g o:Nat)(c:Array Value)(t:TypeId)(vs:List Value)(d:w.heap[g]?=some (.cells c t (0,0)))(f:o+vs.length<=c.size)(e:∀v∈vs,v.oneCell'=true) :
  w.setCells g o vs=w.setRow g (c.toList.take o++vs++c.toList.drop (o+vs.length)).toArray:=by
 have a:=run_storeCells_at P g o t vs 0 c w d (by simpa using f) e;have b:=run_storeCells_cells (P:=P) g o vs 0 w (fun h i=>by rw[cell_of_row w g _ c t (0,0) d,axM (by omega)];rfl) (fun h i=>by simp[World.frozen?,d]) e;rw[b]at a;injection a
def anV {z:Array Value}{n:Nat}{v:Value}(a:0<z.size)(h:v∈(Builtin.zeroCells z n).toList):v∈z.toList:=by simp only[Builtin.zeroCells,aak,HY]at h;obtain⟨i,_,rfl⟩:=h;have hlt:i%z.size<z.size:=YN _ a;rw[getElem!_pos z _ hlt];exact Array.getElem_mem_toList hlt
def akh (w:World)(t e r:TypeId)(z:Value)(k:Nat)(i:P.underlying t=some (.slice e))(b:∀w,(zeroValue e).run P w=.ok z w)(j:z.cells.size=k)(s:0<k)(l:∀v∈z.cells.toList,v.oneCell'=true)
  (g o n c:Nat) (u:0<n) (a:Array Value) (d:TypeId) (p:w.heap[g]?=some (.cells a d (0,0))) (q:o+n*k<=a.size) :
  (Builtin.clear_ #[t] r #[.slice (some ⟨g,o,none⟩) n c]).run P w=.ok (.tuple #[]) (w.setRow g (a.toList.take o++(Builtin.zeroCells z.cells n).toList++a.toList.drop (o+n*k)).toArray):=by
 have f:(Builtin.zeroCells z.cells n).toList.length=n*k:=by rw[Array.length_toList,size_zeroCells,j]
 have h:=run_storeCells_at P g o d (Builtin.zeroCells z.cells n).toList 0 a w p (by rw[f];simpa using q) (fun v b=>l v (anV (by omega) b));rw[f]at h;obtain⟨m,rfl⟩:∃m,n=m+1:=⟨n-1,by omega⟩;simp[Builtin.clear_,run_underlying i,b,h]
end Go.Am
