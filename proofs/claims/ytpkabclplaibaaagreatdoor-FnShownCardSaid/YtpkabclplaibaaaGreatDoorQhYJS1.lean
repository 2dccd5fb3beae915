/- No condition. -/
import Derived.Test.YtpkabclplaibaaaGreatDoorQhYTryzShelf
import Derived.Test.YtpkabclplaibaaaGreatDoorQhAmUse
import Derived.Lib.SmallJoins
import Derived.Lib.SplitLaws
set_option linter.all false
namespace Go.Am.Tryz
open Go.Am Go.Proofs Go.RowKit Go.Sort
theorem aa8 {w : World} (h : Lib.TabIs Tryz.prog w "internal/strconv.uint64pow10" .u64 Lib.pow10Tab) : 1 < w.heap.size := by
 unfold Lib.TabIs World.var? at h
 rw [show Tryz.prog.globalNamed "internal/strconv.uint64pow10" = some 1 by kernel_rfl] at h
 rcases Nat.lt_or_ge 1 w.heap.size with h'|h'
 .exact h'
 .simp[Array.getElem?_eq_none h']at h
def TB:ZI where
 p w := Lib.TabIs Tryz.prog w "internal/strconv.uint64pow10" .u64 Lib.pow10Tab ∧ ∃ m, w.cell? ⟨0, 0, none⟩ = some (.int .i64 m)
 bl b:=b=1\/b=0
 lt w h b hb:=by
  rcases hb with rfl|rfl
  .exact aa8 h.1
  .exact Nat.lt_of_le_of_lt (Nat.zero_le _) (aa8 h.1)
 mono w w' h hb:=by
  refine⟨?_,?_⟩
  .have h:=h.1;unfold Lib.TabIs World.var? at h ⊢
   rw [show Tryz.prog.globalNamed "internal/strconv.uint64pow10" = some 1 by kernel_rfl] at h ⊢
   simp only[Option.bind_some]at h ⊢;rw[hb 1 (.inl rfl)];exact h
  .obtain⟨m,hm⟩:=h.2;exact⟨m,by rw[cell_of_heap (hb 0 (.inr rfl))];exact hm⟩
def strconv_Itoa (F:kk)(n:Int):Option (Args [(.str,false)]) :=
 ck (decide (-9223372036854775808<=n)&&decide (n<=9223372036854775807)) (some (⟨(Lib.itoa n).toArray⟩,()))
def Fm:Any:=.one ⟨[(.int .i64,false)],[(.str,false)],1,fun x=>strconv_Itoa F0 x.1⟩
theorem Uj:wi Tryz.prog TB 137 Fm:=by
 refine⟨⟨_,Tryz.func137,by kernel_rfl,by kernel_rfl⟩,fun x r hg w hBw hT ok vs hargs=>?_⟩;obtain⟨hc,hr⟩:=aG hg;rw[Bool.and_eq_true]at hc;cases hr;obtain⟨v,vs',rfl,⟨cs,h1,h2⟩,h3⟩:=(show cT w ok [(.int .i64,false)] x vs from hargs);have hv:v=.int .i64 x.1:=by rw[h2,show cs=_ from h1];rfl
 rw[show vs'=[] from h3,hv]
 refine Calls.mono (Go.Proofs.Tryz.strconv_Itoa x.1 (of_decide_eq_true hc.1) (of_decide_eq_true hc.2) w (show Lib.TabIs Tryz.prog w "internal/strconv.uint64pow10" .u64 Lib.pow10Tab from hT.1)) fun e w' he => ?_
 obtain⟨rfl,k,os,rfl⟩:=he;refine⟨[.string ⟨(Lib.itoa x.1).toArray⟩],rfl,⟨_,[],rfl,⟨_,rfl,rfl⟩,rfl⟩,?_⟩;exact⟨rfl,rfl,rfl,by simp[grow,World.drewN],fun i hi=>by show(w.heap++os)[i]?=w.heap[i]?;rw[Array.getElem?_append_left hi]⟩
def WY (xs:List ByteArray)(sep:ByteArray):ByteArray:=⟨(Lib.join (xs.map (·.data.toList)) sep.data.toList).toArray⟩
def strings_Join (F:kk)(xs:List ByteArray)(sep:ByteArray):Option (Args [(.str,false)]) :=
 ck (decide ((xs.length:Int)<=F.mem)&&decide (((Lib.join (xs.map (·.data.toList)) sep.data.toList).length:Int)<=F.mem)) (some (WY xs sep,()))
def JE:Con:=⟨[(.sl 9 .str,false),(.str,false)],[(.str,false)],1,fun x=>strings_Join F0 x.1 x.2.1⟩
def ud:Any:=.one JE
theorem HC:wi Tryz.prog TB 69 ud:=by
 refine⟨⟨_,Tryz.func69,by kernel_rfl,by kernel_rfl⟩,fun x r hg w hBw hT ok vs hargs=>?_⟩;obtain⟨hc,hr⟩:=aG hg;rw[Bool.and_eq_true]at hc;cases hr;obtain⟨v,vs',rfl,⟨cs,⟨A,cap,h1,hcap,h63,hcell⟩,h2⟩,v2,vs2,rfl,⟨cs2,h3,h4⟩,h5⟩:=(show cT w ok [(.sl 9 .str,false),(.str,false)] x vs from hargs);have hv:v=.slice A x.1.length cap:=by rw[h2,h1];rfl
 have hv2:v2=.string x.2.1:=by rw[h4,show cs2=_ from h3];rfl
 rw[show vs2=[] from h5,hv,hv2];have hm:F0.mem=140737488355328:=rfl;have hc1:=of_decide_eq_true hc.1;have hc2:=of_decide_eq_true hc.2;rw[hm]at hc1 hc2;have post:∀w',Below w.heap.size w w'->∃us,Ending.returned (.string (WY x.1 x.2.1))=.returned (dj us)/\Jq ok w w' JE (WY x.1 x.2.1,()) us/\Below w.heap.size w w':=fun w' hB =>
  ⟨[.string (WY x.1 x.2.1)],rfl,⟨_,[],rfl,⟨_,rfl,rfl⟩,rfl⟩,hB⟩
 rcases Nat.eq_zero_or_pos x.1.length with h0|h0
 .have hx:x.1=[]:=List.eq_nil_of_length_eq_zero h0;rw[h0];refine Calls.mono (Go.Proofs.Tryz.strings_Join_none A cap x.2.1 w) fun e w' he=>?_
  obtain⟨rfl,rfl⟩:=he;have:=post w' (Below.refl _ _);have hj:WY x.1 x.2.1=⟨#[]⟩:=by unfold WY;rw[hx];rfl
  rw[hj]at this ⊢;exact this
 .obtain⟨b,o,rfl,hlt,_,_,hel⟩:=hcell (.inl (by omega));refine Calls.mono (Go.Proofs.Tryz.strings_Join b o cap x.1 x.2.1 w (fun j y hj=>?_) hlt (by omega) hcap (by omega)) fun e w' he=>?_
  .obtain⟨c,hr,hcc⟩:=hel j y hj;have:=hcc 0 (.string y) (by rw[show c=_ from hr];rfl);simpa [Ty.n]using this
  .obtain⟨rfl,hB⟩:=he;exact post w' hB
def strings_Cut (F:kk)(s sep:ByteArray):Option (Args [(.str,false),(.str,false),(.bool,false)]) :=
 ck (Nat.blt s.size 4294967281) (some (⟨(Lib.cut s.data.toList sep.data.toList).1.toArray⟩,⟨(Lib.cut s.data.toList sep.data.toList).2.1.toArray⟩,(Lib.cut s.data.toList sep.data.toList).2.2,()))
def x7:Any:=.one ⟨[(.str,false),(.str,false)],[(.str,false),(.str,false),(.bool,false)],1,fun x=>strings_Cut F0 x.1 x.2.1⟩
theorem JF:wi Tryz.prog TB 212 x7:=by
 refine⟨⟨_,Tryz.func212,by kernel_rfl,by kernel_rfl⟩,fun x r hg w hBw hT ok vs hargs=>?_⟩;obtain⟨hc,hr⟩:=aG hg;cases hr;obtain⟨v,vs',rfl,⟨cs,h1,h2⟩,v2,vs2,rfl,⟨cs2,h3,h4⟩,h5⟩:=(show cT w ok [(.str,false),(.str,false)] x vs from hargs);have hv:v=.string x.1:=by rw[h2,show cs=_ from h1];rfl
 have hv2:v2=.string x.2.1:=by rw[h4,show cs2=_ from h3];rfl
 rw[show vs2=[] from h5,hv,hv2];obtain⟨m,hm⟩:=hT.2;refine Calls.mono (Go.Proofs.Tryz.strings_Cut x.1 x.2.1 m w (ef hc) hm) fun e w' he=>?_
 obtain⟨rfl,n,rfl⟩:=he;exact⟨[_,_,_],rfl,⟨_,_,rfl,⟨_,rfl,rfl⟩,_,_,rfl,⟨_,rfl,rfl⟩,_,_,rfl,⟨_,rfl,rfl⟩,rfl⟩,⟨rfl,rfl,rfl,Nat.le_refl _,fun _ _=>rfl⟩⟩
def strings_Split (F:kk)(s sep:ByteArray):Option (Args [(.sl 9 .str,false)]) :=
 ck (Nat.blt s.size 4294967281&&Nat.ble 1 sep.size) (some (Lib.splitB sep 0 (Lib.countB s sep) s,()))
def C8:Any:=.one ⟨[(.str,false),(.str,false)],[(.sl 9 .str,false)],1,fun x=>strings_Split F0 x.1 x.2.1⟩
theorem RN:wi Tryz.prog TB 276 C8:=by
 refine⟨⟨_,Tryz.func276,by kernel_rfl,by kernel_rfl⟩,fun x r hg w hBw hT ok vs hargs=>?_⟩;obtain⟨hc,hr⟩:=aG hg;rw[Bool.and_eq_true]at hc;cases hr;obtain⟨v,vs',rfl,⟨cs,h1,h2⟩,v2,vs2,rfl,⟨cs2,h3,h4⟩,h5⟩:=(show cT w ok [(.str,false),(.str,false)] x vs from hargs);have hv:v=.string x.1:=by rw[h2,show cs=_ from h1];rfl
 have hv2:v2=.string x.2.1:=by rw[h4,show cs2=_ from h3];rfl
 rw[show vs2=[] from h5,hv,hv2];obtain⟨m,hm⟩:=hT.2;have hs:=ef hc.1;have h1':=tU hc.2;refine Calls.mono (Go.Proofs.Tryz.strings_Split x.1 x.2.1 m w hs hm h1') fun e w' he=>?_
 obtain⟨rfl,rfl⟩:=he;have hlen:=Lib.splitB_all x.2.1 h1' 0 (Lib.countB x.1 x.2.1) x.1 rfl;have hcb:=Lib.countB_le x.2.1 h1' x.1.size x.1 (Nat.le_refl _);generalize hxs:Lib.splitB x.2.1 0 (Lib.countB x.1 x.2.1) x.1=xs at hlen;rw[<-hlen];refine⟨[_],rfl,⟨_,[],rfl,⟨[_],⟨_,_,rfl,Nat.le_refl _,(show xs.length<=9223372036854775807 by omega),fun _=>⟨w.heap.size,0,rfl,by simp,Nat.le_refl _,fun _=>⟨hBw,_,_,heap_alloc_new w _,fun hb=>by simp[big,Ty.n]at hb⟩,fun j y hj=>⟨[.string y],rfl,fun i u hu=>?_⟩⟩⟩,rfl⟩,rfl⟩,⟨rfl,rfl,rfl,by simp,fun k hk=>Below.heap_alloc _ _ _ hk⟩⟩;rw[cell_of_row _ w.heap.size _ _ 9 (0,0) (heap_alloc_new w _)];cases i with
 |zero =>
  cases hu;have:xs[j]?=some y:=hj;simp[Ty.n,this]
 |succ i=>simp at hu
end Go.Am.Tryz
