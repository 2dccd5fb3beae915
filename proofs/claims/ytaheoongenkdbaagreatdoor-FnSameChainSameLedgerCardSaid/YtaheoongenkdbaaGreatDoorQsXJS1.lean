/- No condition. -/
import Derived.Test.YtaheoongenkdbaaGreatDoorQsXTryzShelf
import Derived.Lib.SmallJoins
import Derived.Lib.SplitLaws
import Derived.Test.YtaheoongenkdbaaGreatDoorProg
import Derived.Maps.AppendAt
import Derived.Shelf.Spec.SlicesInsert
import Derived.Lib.AppendZerosOnto
import Derived.Laws.NewBlocks
import Derived.Deep.LoopGhost
import Derived.Deep.Draws
import Derived.Test.YtaheoongenkdbaaGreatDoorQsAmDel
import Derived.Deep.RegionLaw
import Derived.Lib.SliceRun
set_option linter.all false
namespace Go.Am.Tryz
open Go.Am Go.Proofs Go.RowKit Go.Sort
theorem apF {w : World} (h : Lib.TabIs Tryz.prog w "internal/strconv.uint64pow10" .u64 Lib.pow10Tab) : 3 < w.heap.size := by
 unfold Lib.TabIs World.var? at h
 rw [show Tryz.prog.globalNamed "internal/strconv.uint64pow10" = some 3 by kernel_rfl] at h
 rcases Nat.lt_or_ge 3 w.heap.size with h'|h'
 .exact h'
 .simp[Array.getElem?_eq_none h']at h
def TB:Tab where
 p w := Lib.TabIs Tryz.prog w "internal/strconv.uint64pow10" .u64 Lib.pow10Tab ∧ ∃ m, w.cell? ⟨0, 0, none⟩ = some (.int .i64 m)
 bl b:=b=3\/b=0
 lt w h b hb:=by
  rcases hb with rfl|rfl
  .exact apF h.1
  .exact Nat.lt_of_le_of_lt (Nat.zero_le _) (apF h.1)
 mono w w' h hb:=by
  refine⟨?_,?_⟩
  .have h:=h.1;unfold Lib.TabIs World.var? at h ⊢
   rw [show Tryz.prog.globalNamed "internal/strconv.uint64pow10" = some 3 by kernel_rfl] at h ⊢
   simp only[Option.bind_some]at h ⊢;rw[hb 3 (.inl rfl)];exact h
  .obtain⟨m,hm⟩:=h.2;exact⟨m,by rw[cell_of_heap (hb 0 (.inr rfl))];exact hm⟩
def strconv_Itoa (F:nT)(n:Int):Option (Args [(.str,false)]) :=
 ck (decide (-9223372036854775808<=n)&&decide (n<=9223372036854775807)) (some (⟨(Lib.itoa n).toArray⟩,()))
def Nr:Any:=.one ⟨[(.int .i64,false)],[(.str,false)],1,fun x=>strconv_Itoa F0 x.1⟩
theorem ahc:rO Tryz.prog TB 259 Nr:=by
 refine⟨⟨_,Tryz.func259,by kernel_rfl,by kernel_rfl⟩,fun x r hg w hT ok vs hargs=>?_⟩;obtain⟨hc,hr⟩:=aR hg;rw[Bool.and_eq_true]at hc;cases hr;obtain⟨v,vs',rfl,⟨cs,h1,h2⟩,h3⟩:=(show dP w ok [(.int .i64,false)] x vs from hargs);have hv:v=.int .i64 x.1:=by rw[h2,show cs=_ from h1];rfl
 rw[show vs'=[] from h3,hv]
 refine Calls.mono (Go.Proofs.Tryz.strconv_Itoa x.1 (of_decide_eq_true hc.1) (of_decide_eq_true hc.2) w (show Lib.TabIs Tryz.prog w "internal/strconv.uint64pow10" .u64 Lib.pow10Tab from hT.1)) fun e w' he => ?_
 obtain⟨rfl,k,os,rfl⟩:=he;refine⟨[.string ⟨(Lib.itoa x.1).toArray⟩],rfl,⟨_,[],rfl,⟨_,rfl,rfl⟩,rfl⟩,?_⟩;exact⟨rfl,rfl,rfl,by simp[grow,World.drewN],fun i hi=>by show(w.heap++os)[i]?=w.heap[i]?;rw[Array.getElem?_append_left hi]⟩
def aki (xs:List ByteArray)(sep:ByteArray):ByteArray:=⟨(Lib.join (xs.map (·.data.toList)) sep.data.toList).toArray⟩
def strings_Join (F:nT)(xs:List ByteArray)(sep:ByteArray):Option (Args [(.str,false)]) :=
 ck (decide ((xs.length:Int)<=F.mem)&&decide (((Lib.join (xs.map (·.data.toList)) sep.data.toList).length:Int)<=F.mem)) (some (aki xs sep,()))
def Tm:Con:=⟨[(.sl 9 .str,false),(.str,false)],[(.str,false)],1,fun x=>strings_Join F0 x.1 x.2.1⟩
def Ns:Any:=.one Tm
theorem ahd:rO Tryz.prog TB 334 Ns:=by
 refine⟨⟨_,Tryz.func334,by kernel_rfl,by kernel_rfl⟩,fun x r hg w hT ok vs hargs=>?_⟩;obtain⟨hc,hr⟩:=aR hg;rw[Bool.and_eq_true]at hc;cases hr;obtain⟨v,vs',rfl,⟨cs,⟨A,cap,h1,hcap,h63,hcell⟩,h2⟩,v2,vs2,rfl,⟨cs2,h3,h4⟩,h5⟩:=(show dP w ok [(.sl 9 .str,false),(.str,false)] x vs from hargs);have hv:v=.slice A x.1.length cap:=by rw[h2,h1];rfl
 have hv2:v2=.string x.2.1:=by rw[h4,show cs2=_ from h3];rfl
 rw[show vs2=[] from h5,hv,hv2];have hm:F0.mem=140737488355328:=rfl;have hc1:=of_decide_eq_true hc.1;have hc2:=of_decide_eq_true hc.2;rw[hm]at hc1 hc2;have post:∀w',Below w.heap.size w w'->∃us,Ending.returned (.string (aki x.1 x.2.1))=.returned (eQ us)/\WZ ok w w' Tm (aki x.1 x.2.1,()) us/\Below w.heap.size w w':=fun w' hB =>
  ⟨[.string (aki x.1 x.2.1)],rfl,⟨_,[],rfl,⟨_,rfl,rfl⟩,rfl⟩,hB⟩
 rcases Nat.eq_zero_or_pos x.1.length with h0|h0
 .have hx:x.1=[]:=List.eq_nil_of_length_eq_zero h0;rw[h0];refine Calls.mono (Go.Proofs.Tryz.strings_Join_none A cap x.2.1 w) fun e w' he=>?_
  obtain⟨rfl,rfl⟩:=he;have:=post w' (Below.refl _ _);have hj:aki x.1 x.2.1=⟨#[]⟩:=by unfold aki;rw[hx];rfl
  rw[hj]at this ⊢;exact this
 .obtain⟨b,o,rfl,hlt,_,hel⟩:=hcell h0;refine Calls.mono (Go.Proofs.Tryz.strings_Join b o cap x.1 x.2.1 w (fun j y hj=>?_) hlt (by omega) hcap (by omega)) fun e w' he=>?_
  .obtain⟨c,hr,hcc⟩:=hel j y hj;have:=hcc 0 (.string y) (by rw[show c=_ from hr];rfl);simpa [Ty.n]using this
  .obtain⟨rfl,hB⟩:=he;exact post w' hB
def strings_Cut (F:nT)(s sep:ByteArray):Option (Args [(.str,false),(.str,false),(.bool,false)]) :=
 ck (Nat.blt s.size 4294967281) (some (⟨(Lib.cut s.data.toList sep.data.toList).1.toArray⟩,⟨(Lib.cut s.data.toList sep.data.toList).2.1.toArray⟩,(Lib.cut s.data.toList sep.data.toList).2.2,()))
def Eu:Any:=.one ⟨[(.str,false),(.str,false)],[(.str,false),(.str,false),(.bool,false)],1,fun x=>strings_Cut F0 x.1 x.2.1⟩
theorem Tn:rO Tryz.prog TB 148 Eu:=by
 refine⟨⟨_,Tryz.func148,by kernel_rfl,by kernel_rfl⟩,fun x r hg w hT ok vs hargs=>?_⟩;obtain⟨hc,hr⟩:=aR hg;cases hr;obtain⟨v,vs',rfl,⟨cs,h1,h2⟩,v2,vs2,rfl,⟨cs2,h3,h4⟩,h5⟩:=(show dP w ok [(.str,false),(.str,false)] x vs from hargs);have hv:v=.string x.1:=by rw[h2,show cs=_ from h1];rfl
 have hv2:v2=.string x.2.1:=by rw[h4,show cs2=_ from h3];rfl
 rw[show vs2=[] from h5,hv,hv2];obtain⟨m,hm⟩:=hT.2;refine Calls.mono (Go.Proofs.Tryz.strings_Cut x.1 x.2.1 m w (fV hc) hm) fun e w' he=>?_
 obtain⟨rfl,n,rfl⟩:=he;exact⟨[_,_,_],rfl,⟨_,_,rfl,⟨_,rfl,rfl⟩,_,_,rfl,⟨_,rfl,rfl⟩,_,_,rfl,⟨_,rfl,rfl⟩,rfl⟩,⟨rfl,rfl,rfl,Nat.le_refl _,fun _ _=>rfl⟩⟩
def strings_Split (F:nT)(s sep:ByteArray):Option (Args [(.sl 9 .str,false)]) :=
 ck (Nat.blt s.size 4294967281&&Nat.ble 1 sep.size) (some (Lib.splitB sep 0 (Lib.countB s sep) s,()))
def Ke:Any:=.one ⟨[(.str,false),(.str,false)],[(.sl 9 .str,false)],1,fun x=>strings_Split F0 x.1 x.2.1⟩
theorem adw:rO Tryz.prog TB 213 Ke:=by
 refine⟨⟨_,Tryz.func213,by kernel_rfl,by kernel_rfl⟩,fun x r hg w hT ok vs hargs=>?_⟩;obtain⟨hc,hr⟩:=aR hg;rw[Bool.and_eq_true]at hc;cases hr;obtain⟨v,vs',rfl,⟨cs,h1,h2⟩,v2,vs2,rfl,⟨cs2,h3,h4⟩,h5⟩:=(show dP w ok [(.str,false),(.str,false)] x vs from hargs);have hv:v=.string x.1:=by rw[h2,show cs=_ from h1];rfl
 have hv2:v2=.string x.2.1:=by rw[h4,show cs2=_ from h3];rfl
 rw[show vs2=[] from h5,hv,hv2];obtain⟨m,hm⟩:=hT.2;have hs:=fV hc.1;have h1':=Ep hc.2;refine Calls.mono (Go.Proofs.Tryz.strings_Split x.1 x.2.1 m w hs hm h1') fun e w' he=>?_
 obtain⟨rfl,rfl⟩:=he;have hlen:=Lib.splitB_all x.2.1 h1' 0 (Lib.countB x.1 x.2.1) x.1 rfl;have hcb:=Lib.countB_le x.2.1 h1' x.1.size x.1 (Nat.le_refl _);generalize hxs:Lib.splitB x.2.1 0 (Lib.countB x.1 x.2.1) x.1=xs at hlen;rw[<-hlen];refine⟨[_],rfl,⟨_,[],rfl,⟨[_],⟨_,_,rfl,Nat.le_refl _,(show xs.length<=9223372036854775807 by omega),fun _=>⟨w.heap.size,0,rfl,by simp,Nat.le_refl _,fun j y hj=>⟨[.string y],rfl,fun i u hu=>?_⟩⟩⟩,rfl⟩,rfl⟩,⟨rfl,rfl,rfl,by simp,fun k hk=>Below.heap_alloc _ _ _ hk⟩⟩;rw[cell_of_row _ w.heap.size _ _ 9 (0,0) (heap_alloc_new w _)];cases i with
 |zero =>
  cases hu;have:xs[j]?=some y:=hj;simp[Ty.n,this]
 |succ i=>simp at hu
end Go.Am.Tryz
namespace Go.Am.Tryz
open Go.Am Go.Proofs Go.RowKit Go.Lib
def geP (x y:Int):Bool:=decide (x>=y)
def MN:Idx:=⟨336,(.int .i64,false),.int .i64,geP⟩
def sa:Any:=.idx MN
theorem awr (W:World)(x y:Int)(B:Nat)(cs:Array Value)(e:TypeId)(hB:W.heap[B]?=some (.cells cs e (0,0)))(hy:cs.toList=[.int .i64 y]) :
  Calls Tryz.prog 336 #[.int .i64 x,.pointer (some ⟨B,0,none⟩)] W fun e w'=>e=.returned (.bool (geP x y))/\w'=W:=by
 have hc:W.cell? ⟨B,0,none⟩=some (.int .i64 y):=by rw[cell_of_row W B 0 cs e (0,0) hB,<-Array.getElem?_toList,hy];rfl
 go_enter Tryz.func336,Tryz.ntmps336
 go_wp2
 go_ret
 exact⟨rfl,rfl⟩
theorem apG {U:Type}(p:U->Bool)(xs:List U)(k:Nat)(h:k<xs.length):oK p (xs.drop k) (k:Int)=if p xs[k]=true then (k:Int) else oK p (xs.drop (k+1)) ((k+1:Nat):Int):=by
 rw[List.drop_eq_getElem_cons h,oK];cases p xs[k]with
 |true=>rfl
 |false=>rw[show(k:Int)+1=((k+1:Nat):Int) by omega];rfl
set_option maxHeartbeats 2000000 in
theorem Nt (W:World)(xs:List Int)(y:Int)(s:Value)(B:Nat)(cs:Array Value)(e e':TypeId)(hs:Rd W (fun _=>True) (.sl e' (.int .i64)) xs [s])(hB:W.heap[B]?=some (.cells cs e (0,0)))(hy':cs.toList=[.int .i64 y]) :
  Calls Tryz.prog 335 #[s,.func (.func 336) #[] #[.pointer (some ⟨B,0,none⟩)]] W fun e' w'=>e'=.returned (.int .i64 (oK (fun x=>geP x y) xs 0))/\Below W.heap.size W w':=by
 obtain⟨A,cap,h1,hcap,h63,hcell⟩:=hs;have hs':s=.slice A xs.length cap:=(List.cons.inj h1).1;subst hs';have eg:∀args w,(callFunc 336 args).run Tryz.prog w=.ok (.enter 336 args) w:=enters_of Tryz.func336 (by kernel_rfl) rfl;have hcall:∀x,Calls Tryz.prog 336 (#[.int .i64 x]++#[.pointer (some ⟨B,0,none⟩)]) W fun e w'=>e=.returned (.bool (geP x y))/\w'=W:=fun x=>awr W x y B cs e hB hy'
 clear hB hy' h1;have hel:∀j (h:j<xs.length),∃b o,A=some ⟨b,o,none⟩/\W.cell? ⟨b,o+j,none⟩=some (.int .i64 xs[j]):=by intro j h;obtain⟨b,o,hA,_,_,hh⟩:=hcell (by omega);obtain⟨c,hc1,hc2⟩:=hh j xs[j] (List.getElem?_eq_getElem h);have hc1:c=[.int .i64 xs[j]]:=hc1;refine⟨b,o,hA,?_⟩;have:=hc2 0 (.int .i64 xs[j]) (by rw[hc1];rfl);rw[show j*(Ty.int .i64).n+0=j by simp[Ty.n]]at this;exact this
 clear hcell;have hst:=apG (fun x=>geP x y) xs;obtain⟨R,hR⟩:∃R,R=oK (fun x=>geP x y) xs 0:=⟨_,rfl⟩;have hR0:Aside (R=oK (fun x=>geP x y) (xs.drop 0) ((0:Nat):Int)):=hR;rw[<-hR];clear hR;obtain⟨n,hn⟩:∃n,n=xs.length:=⟨_,rfl⟩;have hnA:Aside (n=xs.length):=hn;rw[<-hn];clear hn
 go_enter Tryz.func335,Tryz.ntmps335
 go_wp2
 go_loopg [5,8] n (fun gg _ s8 wr=>∃kk:Nat,kk<=n/\n-kk<=gg/\s8=.int .i64 kk/\wr=W/\Aside (R=oK (fun x=>geP x y) (xs.drop kk) (kk:Int)))
 case atStart=>exact⟨0,Nat.zero_le _,by omega,rfl,rfl,hR0⟩
 case round =>
  obtain⟨kk,hkn,hg,rfl,rfl,A1⟩:=hrel;by_cases hlt:kk<n
  .have hltz:(kk:Int)<(n:Int):=by omega
   have hk':kk<xs.length:=by rw[<-hnA.out];exact hlt
   obtain⟨b,o,hA,hcl⟩:=hel kk hk';subst hA;have hst':=hst kk hk';clear hel hst;generalize hy:xs[kk]=z at hcl hst';have hc:=hcall z;cases hq:geP z y with
   |true =>
    rw[hq]at hc;have B1:Aside (R=(kk:Int)):=by show R=_;rw[A1.out,hst'];rw[hq];rfl
    clear hst'
    go_wp2_with (go_at_fn 336;refine hc.mono ?_;rintro e w' ⟨rfl,rfl⟩)
    go_ret
    exact⟨by rw[B1.out];rfl,Below.refl _ _⟩
   |false =>
    rw[hq]at hc;have B1:Aside (R=oK (fun x=>geP x y) (xs.drop (kk+1)) ((kk+1:Nat):Int)):=by show R=_;rw[A1.out,hst'];rw[hq];rfl
    clear hst'
    go_wp2_with (go_at_fn 336;refine hc.mono ?_;rintro e w' ⟨rfl,rfl⟩)
    go_roundg (n-(kk+1))
    case measure=>omega
    case rel=>exact⟨kk+1,by omega,by omega,by go_num,rfl,B1⟩
  .have hltz:¬(kk:Int)<(n:Int):=by omega
   have:kk=n:=by omega
   subst this;clear hel hst hcall;have B1:Aside (R=-1):=by show R=_;rw[A1.out,hnA.out,List.drop_length];rfl
   go_wp2
   go_ret
   exact⟨by rw[B1.out];rfl,Below.refl _ _⟩
theorem Nu:rO Tryz.prog TB 335 sa:=⟨⟨_,Tryz.func335,by kernel_rfl,by kernel_rfl⟩,fun W _ xs y s B cs e e' hs hB hy=>Nt W xs y s B cs e e' hs hB hy⟩
end Go.Am.Tryz
namespace Go.Am.Tryz
open Go.Am Go.Proofs Go.RowKit Go.Lib
theorem aBj:∃i0,Tryz.prog.info? 3=some i0/\i0.zero=some (Value.int .i64 0)/\i0.size=1/\i0.bytes=8:=info_parts (by kernel_rfl)
set_option maxHeartbeats 4000000 in
set_option maxRecDepth 100000 in
theorem aC3 (W:World)(s:Value)(n m c vb:Nat)(cs ds:List Value)(hs:W.ownsRow 0 3 1 s n cs)(hdl:ds.length=m)(hds:∀j u,ds[j]?=some u->W.cell? ((⟨vb,0,none⟩:Addr).add j)=some u)(h1:∀u∈ds,u.oneCell'=true)(hm:1<=m)(hnm:n+m<=1073741824) :
  Calls Tryz.prog 337 #[s,.int .i64 n,.slice (some ⟨vb,0,none⟩) m c] W fun e' w'=>∃v',e'=.returned v'/\w'.ownsRow 0 3 1 v' (n+m) (cs++ds)/\W.grownBy w' s.ownBlock/\(v'.ownBlock=s.ownBlock\/v'.ownBlock=some W.heap.size):=by
 obtain⟨i0,hi0,hz0,hzs,hzb⟩:=aBj;have hu:Tryz.prog.underlying 26=some (.slice 3):=Tryz.underlying26;have hmax:maxLen=9223372036854775807:=rfl;obtain⟨v',w',hrun,hown',hg,_,hat⟩:=run_append_own_at (P:=Tryz.prog) W 0 26 26 3 i0 (.int .i64 0) 1 8 hu hi0 hz0 hzs hzb rfl (by omega) s n cs hs ⟨vb,0,none⟩ m c ds (by omega) hds h1 (by omega) (by omega) (Nat.zero_le _);have hz1:¬((m:Int)=0):=by omega
 have hn0:=hs.2;rcases hn0 with ⟨rfl,rfl⟩|⟨g,cap,cur,rfl,_,_,hnc,_⟩
 .go_enter Tryz.func337,Tryz.ntmps337
  go_wp2_with (at_builtin;refine Lib.wpList_append_run _ rfl _ _ _ _ rfl _ _ rfl rfl _ _ hrun ?_)
  go_ret
  exact⟨v',rfl,by simpa using hown',hg,hat⟩
 .have hc63:cap<=9223372036854775807:=by omega
  go_enter Tryz.func337,Tryz.ntmps337
  go_wp2_with (at_builtin;refine Lib.wpList_append_run _ rfl _ _ _ _ rfl _ _ rfl rfl _ _ hrun ?_)
  all_goals (go_ret;exact⟨v',rfl,hown',hg,hat⟩)
set_option maxHeartbeats 4000000 in
set_option maxRecDepth 100000 in
theorem aBk (W:World)(g n c i vb m vc:Nat)(cur:Array Value)(ds:List Value)(hg:W.heap[g]?=some (.cells cur 3 (0,0)))(hc:cur.size=c*1)(hcm:c<=9223372036854775807)(h1c:∀v∈cur.toList.take (n*1),v.oneCell'=true)
  (hi:i<n) (hdl:ds.length=m*1) (hds:∀j u,ds[j]?=some u->W.cell? ((⟨vb,0,none⟩:Addr).add j)=some u) (h1:∀u∈ds,u.oneCell'=true) (hm:1<=m) (hroom:n+m<=c) (hvb:vb≠g)
  (tA:TypeId) (kA:Nat) (hsa:W.shape? vb=some (tA,kA)) (hfa:W.frozen? ⟨vb,0,none⟩=false) (hfe:W.frozen? ⟨vb,kA,none⟩=false) :
  Calls Tryz.prog 337 #[.slice (some ⟨g,0,none⟩) n c,.int .i64 i,.slice (some ⟨vb,0,none⟩) m vc] W fun e' w'=>e'=.returned (.slice (some ⟨g,0,none⟩) (n+m) c) /\
   ∃cur',w'.heap[g]?=some (.cells cur' 3 (0,0))/\cur'.size=c*1/\cur'.toList.take ((n+m)*1)=cur.toList.take (i*1)++ds++(cur.toList.take (n*1)).drop (i*1)/\W.grownBy w' (some g):=by
 obtain⟨i0,hi0,hz0,hzs,hzb⟩:=aBj;have hu:Tryz.prog.underlying 26=some (.slice 3):=Tryz.underlying26;have hsz:(Tryz.prog.info? 3).map (·.size)=some 1:=by rw[hi0];simp[hzs]
 have hz1:¬((m:Int)=0):=by omega
 have hz2:¬((i:Int)=(n:Int)):=by omega
 have hw1:IntKind.i64.wrap ((i:Int)+(m:Int))=(i:Int)+(m:Int):=by rw[IntKind.wrap_i64];omega
 have hb1:(0:Int)<=(i:Int)+(m:Int):=by omega
 have hin:i<=n:=by omega
 have htn:((i:Int)+(m:Int)).toNat=i+m:=by omega
 have hb2:¬(c=i+m):=by omega
 have hb3:(i:Int)<=(n:Int)+(m:Int):=by omega
 have hb4:¬(c=i):=by omega
 have hov:∀(w:World) lb cb,w.heap=W.heap->(callFunc 354 #[.slice (some ⟨vb,0,none⟩) m vc,.slice (some ⟨g,i+m,none⟩) lb cb]).run Tryz.prog w=.ok (.value (.bool false)) w:=fun w lb cb hw=>by
  rw[run_callFunc_extern Tryz.func354 (by kernel_rfl) (by kernel_rfl) (by kernel_rfl) (e:=Extern.SlicesOverlaps.overlaps #[26,26] #[4]) (by kernel_rfl),
   Lib.run_overlaps_apart w 26 4 3 hu 1 (fun w=>by simp[sizeOf,typeInfo,hi0,hzs]) ⟨vb,0,none⟩ ⟨g,i+m,none⟩ m vc lb cb hvb tA 3 kA cur.size (by rw[World.shape?,hw];exact hsa) (by simp[World.shape?,hw,hg]) (by omega) (by rw[World.frozen?,hw];exact hfa) (by rw[World.frozen?,hw];exact hfe)]
  rfl
 obtain⟨tail,htail⟩:∃tail,tail=(cur.toList.take (n*1)).drop (i*1):=⟨_,rfl⟩;have htl:tail.length=(n-i)*1:=by rw[htail,List.length_drop,List.length_take,Array.length_toList,hc];omega
 have hcur:∀(w:World),w.heap=W.heap->∀j v,tail[j]?=some v->w.cell? ((⟨g,i*1,none⟩:Addr).add j)=some v:=fun w hw j v hj=>by
  rw[htail,List.getElem?_drop,List.getElem?_take]at hj;split at hj
  .rw[Addr.add_lit,cell_of_row w g _ cur 3 (0,0) (by rw[hw];exact hg)];simpa using hj
  .cases hj
 have hcp1:∀ty dc sc,(Builtin.copy_ #[26,26] ty #[.slice (some ⟨g,(i+m)*1,none⟩) (n+m-(i+m)) dc,.slice (some ⟨g,i*1,none⟩) (n+m-i) sc]).run Tryz.prog W.drew=_:=fun ty dc sc =>
  dL W.drew 26 26 ty 3 1 g ((i+m)*1) (n+m-(i+m)) dc ⟨g,i*1,none⟩ (n+m-i) sc cur 3 tail hu hsz hg (by rw[htl];simp only[Nat.min_def];split<;>omega) (hcur _ rfl) (by rw[htl,hc];omega) (fun v hv=>h1c v (List.mem_of_mem_drop (htail▸hv)))
 obtain⟨c1,hc1⟩:∃c1,c1=(cur.toList.take ((i+m)*1)++tail++cur.toList.drop ((i+m)*1+tail.length)).toArray:=⟨_,rfl⟩;rw[<-hc1]at hcp1;have hc1s:c1.size=c*1:=by rw[hc1];simp[htl,hc];omega
 have hW1:(W.drew.setRow g c1).heap[g]?=some (.cells c1 3 (0,0)):=setRow_heap W.drew g cur c1 3 (0,0) hg;have hds1:∀j u,ds[j]?=some u->(W.drew.setRow g c1).cell? ((⟨vb,0,none⟩:Addr).add j)=some u:=fun j u hj=>by have h2:=hds j u hj;rw[Addr.add_lit]at h2 ⊢;rw[World.cell?_of_block (w:=W) (a:=⟨vb,0+j,none⟩) (by exact setRow_other W.drew g vb c1 hvb)];exact h2
 have hcp2:∀ty dc,(Builtin.copy_ #[26,26] ty #[.slice (some ⟨g,i*1,none⟩) (n+m-i) dc,.slice (some ⟨vb,0,none⟩) m vc]).run Tryz.prog (W.drew.setRow g c1)=_:=fun ty dc =>
  dL (W.drew.setRow g c1) 26 26 ty 3 1 g (i*1) (n+m-i) dc ⟨vb,0,none⟩ m vc c1 3 ds hu hsz hW1 (by rw[hdl];simp only[Nat.min_def];split<;>omega) hds1 (by rw[hdl,hc1s];omega) h1
 obtain⟨c2,hc2⟩:∃c2,c2=(c1.toList.take (i*1)++ds++c1.toList.drop (i*1+ds.length)).toArray:=⟨_,rfl⟩;rw[<-hc2]at hcp2;have fin:∃cur',((W.drew.setRow g c1).setRow g c2).heap[g]?=some (.cells cur' 3 (0,0))/\cur'.size=c*1/\cur'.toList.take ((n+m)*1)=cur.toList.take (i*1)++ds++(cur.toList.take (n*1)).drop (i*1)/\W.grownBy ((W.drew.setRow g c1).setRow g c2) (some g):=by
  refine⟨c2,setRow_heap _ g c1 c2 3 (0,0) hW1,by rw[hc2,List.size_toArray,List.length_append,List.length_append,List.length_take,List.length_drop,Array.length_toList,hc1s,hdl];omega,?_,⟨rfl,rfl,rfl,by rw[setRow_size,setRow_size];exact Nat.le_refl W.heap.size,fun k hk hne=>?_⟩⟩
  .have:=awq (L:=cur.toList) (ds:=ds) (a:=i*1) (b:=n*1) (d:=m*1) (by omega) (by rw[Array.length_toList,hc];omega) hdl;rw[<-htail]at this ⊢;rw[hc2,hc1,htl,hdl,show(i+m)*1=i*1+m*1 by omega,show(n+m)*1=n*1+m*1 by omega,show(n-i)*1=n*1-i*1 by omega];exact this
  .have hne':k≠g:=fun e=>hne (by rw[e])
   rw[setRow_other _ g k c2 hne',setRow_other _ g k c1 hne'];rfl
 simp only[Nat.mul_one]at hcp1 hcp2 hcur fin ⊢;clear hcur hds1 hds hW1 htail htl hc1 hc2 hc1s h1c h1 hdl
 go_enter Tryz.func337,Tryz.ntmps337
 have hov':∀lb cb,(callFunc 354 #[.slice (some ⟨vb,0,none⟩) m vc,.slice (some ⟨g,i+m,none⟩) lb cb]).run Tryz.prog W=.ok (.value (.bool false)) W:=fun lb cb=>hov W lb cb rfl
 clear hov;have mixed:Tryz.prog.follows .mixedOrders=true:=by kernel_rfl
 go_wp2_with (simp only[hov'])
 go_region_law_o (refine step_copy_runI rfl _ _ 26 26 rfl _ _ (by simp[Act.eval,Act.put]) (by simp[Act.eval,Act.put]) (hcp1 _ _ _) ?_)
 go_wp2_with (at_builtin;refine wpList_copy_runI _ rfl _ _ 26 26 rfl _ _ rfl rfl (hcp2 _ _) ?_)
 go_ret
 exact⟨rfl,fin⟩
set_option maxHeartbeats 4000000 in
set_option maxRecDepth 100000 in
theorem aBl (W:World)(g n c i vb m vc:Nat)(cur:Array Value)(ds:List Value)(hg:W.heap[g]?=some (.cells cur 3 (0,0)))(hc:cur.size=c*1)(hnc:n<=c)(h1c:∀v∈cur.toList.take (n*1),v.oneCell'=true)
  (hi:i<n) (hdl:ds.length=m*1) (hds:∀j u,ds[j]?=some u->W.cell? ((⟨vb,0,none⟩:Addr).add j)=some u) (hvw:vb<W.heap.size) (h1:∀u∈ds,u.oneCell'=true) (hm:1<=m) (hroom:c<n+m) (hnm:n+m<=1073741824) :
  Calls Tryz.prog 337 #[.slice (some ⟨g,0,none⟩) n c,.int .i64 i,.slice (some ⟨vb,0,none⟩) m vc] W fun e' w'=>∃G,e'=.returned (.slice (some ⟨W.heap.size,0,none⟩) (n+m) G)/\n+m<=G/\G<=9223372036854775807 /\
   ∃cur',w'.heap[W.heap.size]?=some (.cells cur' 3 (0,0))/\cur'.size=G*1/\cur'.toList.take ((n+m)*1)=cur.toList.take (i*1)++ds++(cur.toList.take (n*1)).drop (i*1)/\W.grownBy w' none:=by
 obtain⟨i0,hi0,hz0,hzs,hzb⟩:=aBj;have hu:Tryz.prog.underlying 26=some (.slice 3):=Tryz.underlying26;have hu3:Tryz.prog.underlying 3=some (.int .i64):=Tryz.underlying3;have mixed:Tryz.prog.follows .mixedOrders=true:=by kernel_rfl
 have hsz:(Tryz.prog.info? 3).map (·.size)=some 1:=by rw[hi0];simp[hzs]
 have hz1:¬((m:Int)=0):=by omega
 have hz2:¬((i:Int)=(n:Int)):=by omega
 have hz3:(c:Int)<(n:Int)+(m:Int):=by omega
 have hbw:g<W.heap.size:=(Array.getElem?_eq_some_iff.1 hg).1;have hkk:(n:Int)+(m:Int)-(i:Int)=((n+m-i:Nat):Int):=by omega
 have hik:i+(n+m-i)=n+m:=by omega
 obtain⟨L,hL⟩:∃L,L=cur.toList:=⟨_,rfl⟩;have hLl:L.length=c*1:=by rw[hL,Array.length_toList,hc]
 have hcell:∀(w:World),w.heap[g]?=W.heap[g]?->∀(o j:Nat) v,(L.drop o)[j]?=some v->w.cell? ((⟨g,o,none⟩:Addr).add j)=some v:=fun w hw o j v hj=>by rw[List.getElem?_drop,hL]at hj;rw[Addr.add_lit,cell_of_row w g _ cur 3 (0,0) (by rw[hw];exact hg)];simpa using hj
 have hold:(Builtin.firstCells i0.size i (.slice (some ⟨g,0,none⟩) i c)).run Tryz.prog W.drew=.ok (L.take (i*1)).toArray W.drew:=by
  rw[hzs];exact run_firstCells_some W.drew 1 i ⟨g,0,none⟩ i c (L.take (i*1)) (by rw[List.length_take,hLl,Nat.min_eq_left (by omega)]) (fun j v hj=>by
   rw[List.getElem?_take]at hj;split at hj
   .exact hcell W.drew rfl 0 j v (by rw[List.drop_zero];exact hj)
   .cases hj)
 obtain⟨G,hG⟩:∃G,G=grownCap W (n+m) c 3:=⟨_,rfl⟩;obtain⟨ROW,hROW⟩:∃ROW:Array Value,ROW=(L.take (i*1)).toArray++Builtin.zeroCells (Value.int .i64 0).cells (n+m-i)++Builtin.zeroCells (Value.int .i64 0).cells (G-(n+m)):=⟨_,rfl⟩;have hrz:∀ty,(Builtin.append_ #[26,3] ty #[.slice (some ⟨g,0,none⟩) i c,.int .i64 ((n:Int)+(m:Int)-(i:Int))]).run Tryz.prog W=.ok (.slice (some ⟨W.heap.size,0,none⟩) (n+m) G) (W.drew.alloc (.cells ROW 3)):=fun ty=>by have h:=Lib.run_append_grow_zeros W 26 3 ty 3 i0 _ .i64 .i64 hu hu3 hi0 hz0 (some ⟨g,0,none⟩) i c (L.take (i*1)).toArray.toList (by rw[Array.toArray_toList];exact hold) (n+m-i) (by omega) (by omega) (by omega) (by omega) (by rw[hzb];omega) (by rw[hzb,hik];exact growslice_fits hroom (by omega));rw[hik,Array.toArray_toList]at h;rw[hkk,hROW,hG];exact h
 have hGn:n+m<=G:=by rw[hG];exact grownCap_ge W _ _ _
 have hG63:G<=9223372036854775807:=by have:=grownCap_le_maxLen W (n+m) c 3 (by unfold maxLen;omega);rw[<-hG]at this;unfold maxLen at this;omega
 have hRs:ROW.size=G*1:=by rw[hROW,Array.size_append,Array.size_append,size_zeroCells,size_zeroCells,List.size_toArray,List.length_take,hLl,show(Value.int .i64 0).cells.size=1 from rfl];omega
 obtain⟨r1,hr1⟩:∃r1,r1=(ROW.toList.take (i*1)++ds++ROW.toList.drop (i*1+ds.length)).toArray:=⟨_,rfl⟩;obtain⟨tail,htail⟩:∃tail,tail=(L.take (n*1)).drop (i*1):=⟨_,rfl⟩;have htl:tail.length=(n-i)*1:=by rw[htail,List.length_drop,List.length_take,hLl];omega
 obtain⟨r2,hr2⟩:∃r2,r2=(r1.toList.take ((i+m)*1)++tail++r1.toList.drop ((i+m)*1+tail.length)).toArray:=⟨_,rfl⟩;have hr1s:r1.size=G*1:=by rw[hr1,List.size_toArray,List.length_append,List.length_append,List.length_take,List.length_drop,Array.length_toList,hRs,hdl];omega
 have hr2s:r2.size=G*1:=by rw[hr2,List.size_toArray,List.length_append,List.length_append,List.length_take,List.length_drop,Array.length_toList,hr1s,htl];omega
 have hN:∀(w:World),w.heap=(W.drew.alloc (.cells ROW 3)).heap->w.heap[W.heap.size]?=some (.cells ROW 3 (0,0)):=fun w hw=>by rw[hw];exact heap_alloc_new W.drew _
 have hold':∀(w:World),w.heap=(W.drew.alloc (.cells ROW 3)).heap->∀k,k<W.heap.size->w.heap[k]?=W.heap[k]?:=fun w hw k hk=>by rw[hw];exact Below.heap_alloc _ _ _ hk
 have hcpA:∀(w:World),w.heap=(W.drew.alloc (.cells ROW 3)).heap->∀ty dc,(Builtin.copy_ #[26,26] ty #[.slice (some ⟨W.heap.size,i*1,none⟩) (n+m-i) dc,.slice (some ⟨vb,0,none⟩) m vc]).run Tryz.prog w=.ok (goInt (Nat.min m (n+m-i))) (w.setRow W.heap.size r1):=fun w hw ty dc=>by rw[hr1];refine dL w 26 26 ty 3 1 W.heap.size (i*1) (n+m-i) dc ⟨vb,0,none⟩ m vc ROW 3 ds hu hsz (hN w hw) (by rw[hdl];simp only[Nat.min_def];split<;>omega) (fun j u hj=>?_) (by rw[hdl,hRs];omega) h1;have h2:=hds j u hj;rw[Addr.add_lit]at h2 ⊢;rw[World.cell?_of_block (w:=W) (a:=⟨vb,0+j,none⟩) (hold' w hw vb hvw)];exact h2
 have hcpB:∀(w:World),w.heap=((W.drew.alloc (.cells ROW 3)).setRow W.heap.size r1).heap->∀ty dc sc,(Builtin.copy_ #[26,26] ty #[.slice (some ⟨W.heap.size,(i+m)*1,none⟩) (n+m-(i+m)) dc,.slice (some ⟨g,i*1,none⟩) (n-i) sc]).run Tryz.prog w=.ok (goInt (Nat.min (n-i) (n+m-(i+m)))) (w.setRow W.heap.size r2):=fun w hw ty dc sc=>by
  rw[hr2];refine dL w 26 26 ty 3 1 W.heap.size ((i+m)*1) (n+m-(i+m)) dc ⟨g,i*1,none⟩ (n-i) sc r1 3 tail hu hsz (by rw[hw];exact setRow_heap _ _ ROW r1 3 (0,0) (hN _ rfl)) (by rw[htl];simp only[Nat.min_def];split<;>omega) (fun j u hj=>?_) (by rw[htl,hr1s];omega) (fun v hv=>h1c v (by rw[htail,hL]at hv;exact List.mem_of_mem_drop hv));rw[htail,List.drop_take,List.getElem?_take]at hj;split at hj
  .exact hcell w (by rw[hw,setRow_other _ _ g _ (by omega)];exact hold' _ rfl g hbw) (i*1) j u hj
  .cases hj
 have fin:∀(w:World),w.heap=(((W.drew.alloc (.cells ROW 3)).setRow W.heap.size r1).setRow W.heap.size r2).heap->w.os=W.os->w.tape=W.tape->w.output=W.output ->
   ∃cur',w.heap[W.heap.size]?=some (.cells cur' 3 (0,0))/\cur'.size=G*1/\cur'.toList.take ((n+m)*1)=cur.toList.take (i*1)++ds++(cur.toList.take (n*1)).drop (i*1)/\W.grownBy w none:=by
  intro w hw h1 h2 h3;refine⟨r2,by rw[hw];exact setRow_heap _ _ r1 r2 3 (0,0) (setRow_heap _ _ ROW r1 3 (0,0) (hN _ rfl)),hr2s,?_,uH (W:=W) (o:=.cells ROW 3) (r1:=r1) (r2:=r2) hw h1 h2 h3 none⟩;have:=arx (L:=L) (ds:=ds) (Z:=(Builtin.zeroCells (Value.int .i64 0).cells (n+m-i)).toList) (Z':=(Builtin.zeroCells (Value.int .i64 0).cells (G-(n+m))).toList) (a:=i*1) (b:=n*1) (d:=m*1) (by omega) (by rw[hLl];omega) hdl
   (by rw[Array.length_toList,size_zeroCells,show(Value.int .i64 0).cells.size=1 from rfl];omega)
  rw[<-htail]at this;rw[<-hL,<-htail,hr2,hr1,hROW,htl,hdl,show(i+m)*1=i*1+m*1 by omega,show(n+m)*1=n*1+m*1 by omega,show(n-i)*1=n*1-i*1 by omega];simpa only[Array.toList_append]using this
 have hGi:¬(G=i):=by omega
 have hGim:¬(G=i+m):=by omega
 have hci:¬(c=i):=by omega
 have hw1:IntKind.i64.wrap ((i:Int)+(m:Int))=(i:Int)+(m:Int):=by rw[IntKind.wrap_i64];omega
 have hb1:(0:Int)<=(i:Int)+(m:Int):=by omega
 have hin:i<=n:=by omega
 have htn:((i:Int)+(m:Int)).toNat=i+m:=by omega
 have hb3:(i:Int)<=(n:Int):=by omega
 simp only[Nat.mul_one]at hcpA hcpB fin ⊢;clear hkk hik hold hROW hG hRs hr1 hr2 hr1s hr2s htail htl hcell hN hold' hL hLl h1 h1c hds hdl;have hE:((W.alloc (.cells ROW 3)).drew).heap=(W.drew.alloc (.cells ROW 3)).heap:=rfl;have hF:(((W.alloc (.cells ROW 3)).drew.setRow W.heap.size r1).drew).heap=((W.drew.alloc (.cells ROW 3)).setRow W.heap.size r1).heap:=rfl
 go_enter Tryz.func337,Tryz.ntmps337
 go_wp2_with (first
  |(at_builtin;refine Lib.wpList_append_run _ rfl _ _ _ _ rfl _ _ rfl rfl _ _ (hrz _) ?_)
  |(at_builtin;refine wpList_copy_runI _ rfl _ _ 26 26 rfl _ _ rfl rfl (hcpA _ hE _ _) ?_))
 go_region_law_o (refine step_copy_runI rfl _ _ 26 26 rfl (.slice (some ⟨W.heap.size,i+m,none⟩) (n+m-(i+m)) (G-(i+m))) (.slice (some ⟨g,i,none⟩) (n-i) (c-i)) (by simp[Act.eval,Act.put]) (by simp[Act.eval,Act.put]) (hcpB _ hF 3 (G-(i+m)) (c-i)) ?_)
 go_wp2
 go_ret
 exact⟨G,rfl,hGn,hG63,fin _ rfl rfl rfl rfl⟩
theorem To (W:World):apn Tryz.prog 337 3 (.int .i64) W:=by
 intro s v n m i cs ds hs hv hap hm hi hnm h1c h1d;have hk:(Ty.int .i64).n=1:=rfl;rw[hk]at hs hv ⊢;have hds:=fun g hg=>hv.cells (g:=g) hg
 obtain⟨hdl,⟨rfl,rfl⟩|⟨vb,vc,vcur,rfl,_,hvh,hvn,hvm,hvs,hvt⟩⟩:=hv
 .omega
 have hds:=hds vb rfl;have hvb:=hap;have hvw:vb<W.heap.size:=(Array.getElem?_eq_some_iff.1 hvh).1;by_cases hin:i=n
 .subst hin;refine(aC3 W s i m vc vb cs ds hs (by omega) hds h1d hm hnm).mono fun e' w' h=>?_
  obtain⟨v',rfl,h1,h2,h3⟩:=h;refine⟨v',rfl,?_,h2,h3.imp_right fun h g hg=>?_⟩
  .rw[<-hs.1,List.take_length,List.drop_length,List.append_nil];exact h1
  .rw[h]at hg;cases hg;exact Nat.le_refl _
 .obtain⟨hcl,⟨rfl,rfl⟩|⟨g,c,cur,rfl,_,hgh,hnc,hcm,hcs,hct⟩⟩:=hs
  .omega
  have hmax:maxLen=9223372036854775807:=rfl;have hne:vb≠g:=fun e=>hap g rfl (by rw[e];rfl)
  have h1c':∀u∈cur.toList.take (n*1),u.oneCell'=true:=by rw[hct];exact h1c
  have h5:cur.toList.take (i*1)=cs.take (i*1):=by rw[<-hct,List.take_take,Nat.min_eq_left (by omega)]
  by_cases hroom:n+m<=c
  .refine(aBk W g n c i vb m vc cur ds hgh hcs (by omega) h1c' (by omega) hdl hds h1d hm hroom hne 3 vcur.size (by simp[World.shape?,hvh]) (by simp[World.frozen?,hvh]) (by simp[World.frozen?,hvh])).mono fun e' w' h=>?_
   obtain⟨rfl,cur',h1,h2,h3,h4⟩:=h;rw[hct,h5]at h3;refine⟨_,rfl,⟨?_,.inr ⟨g,c,cur',rfl,Nat.zero_le _,h1,hroom,hcm,h2,h3⟩⟩,h4,.inl rfl⟩;rw[<-h3,List.length_take,Array.length_toList,h2];omega
  .refine(aBl W g n c i vb m vc cur ds hgh hcs hnc h1c' (by omega) hdl hds hvw h1d hm (by omega) hnm).mono fun e' w' h=>?_
   obtain⟨G,rfl,hG1,hG2,cur',h1,h2,h3,h4⟩:=h;rw[hct,h5]at h3;refine⟨_,rfl,⟨?_,.inr ⟨W.heap.size,G,cur',rfl,Nat.zero_le _,h1,hG1,by omega,h2,h3⟩⟩,⟨h4.os,h4.tape,h4.output,h4.size,fun k hk _=>h4.block k hk (by simp)⟩,.inr fun g' hg'=>?_⟩
   .rw[<-h3,List.length_take,Array.length_toList,h2];omega
   .cases hg';exact Nat.le_refl _
def Ao:Any:=.ins 3 (.int .i64)
theorem Tp:rO Tryz.prog TB 337 Ao:=⟨⟨_,Tryz.func337,by kernel_rfl,by kernel_rfl⟩,fun W _=>To W⟩
end Go.Am.Tryz
namespace Go.Am.Tryz
open Go.Am Go.Proofs Go.RowKit Go.Lib
theorem atP:∃i0,Tryz.prog.info? 102=some i0/\i0.zero=some (Value.agg #[.int .i64 0,.slice none 0 0])/\i0.size=2/\i0.bytes=32:=info_parts (by kernel_rfl)
set_option maxHeartbeats 4000000 in
set_option maxRecDepth 100000 in
theorem anW (W:World)(s:Value)(n i:Nat)(hi:i<=n)(hs:s=.slice none 0 0/\n=0\/∃g c,s=.slice (some ⟨g,0,none⟩) n c/\n<=c/\c<=9223372036854775807) :
  Calls Tryz.prog 87 #[s,.int .i64 i,.int .i64 i] W fun e' w'=>e'=.returned s/\w'=W:=by
 rcases hs with ⟨rfl,rfl⟩|⟨g,c,rfl,hnc,hc⟩
 .have:i=0:=by omega
  subst this
  go_enter Tryz.func87,Tryz.ntmps87
  go_wp2
  all_goals (go_ret;exact⟨rfl,rfl⟩)
 .go_enter Tryz.func87,Tryz.ntmps87
  go_wp2
  all_goals (go_ret;exact⟨rfl,rfl⟩)
set_option maxHeartbeats 4000000 in
set_option maxRecDepth 100000 in
theorem arz (W:World)(g n c i j:Nat)(cur:Array Value)(hg:W.heap[g]?=some (.cells cur 102 (0,0)))(hc:cur.size=c*2)(hcm:c<=9223372036854775807)(h1c:∀v∈cur.toList.take (n*2),v.oneCell'=true)(hij:i<j)(hjn:j<=n)(hnc:n<=c) :
  Calls Tryz.prog 87 #[.slice (some ⟨g,0,none⟩) n c,.int .i64 i,.int .i64 j] W fun e' w'=>e'=.returned (.slice (some ⟨g,0,none⟩) (i+(n-j)) c) /\
   ∃cur',w'.heap[g]?=some (.cells cur' 102 (0,0))/\cur'.size=c*2/\cur'.toList.take ((i+(n-j))*2)=(cur.toList.take (n*2)).take (i*2)++(cur.toList.take (n*2)).drop (j*2)/\W.grownBy w' (some g):=by
 obtain⟨i0,hi0,hz0,hzs,hzb⟩:=atP;have mixed:Tryz.prog.follows .mixedOrders=true:=by kernel_rfl
 have hu:Tryz.prog.underlying 28=some (.slice 102):=Tryz.underlying28;obtain⟨news,hnews⟩:∃news,news=(cur.toList.take (n*2)).drop (j*2):=⟨_,rfl⟩;have hlen:news.length=(n-j)*2:=by rw[hnews,List.length_drop,List.length_take,Array.length_toList,hc];omega
 obtain⟨A,hA,hsrc⟩:∃A:Addr,(if c=j then some (⟨g,0,none⟩:Addr) else some ⟨g,j*2,none⟩)=some A/\Hid (∀t u,news[t]?=some u->W.drew.cell? (A.add t)=some u):=by
  by_cases h:c=j
  .refine⟨⟨g,0,none⟩,by simp[h],fun t u hu=>?_⟩;have h0:news.length=0:=by rw[hlen];omega
   rw[List.length_eq_zero_iff.1 h0]at hu;simp at hu
  .refine⟨⟨g,j*2,none⟩,by simp[h],fun t u hu=>?_⟩;rw[hnews,List.getElem?_drop,List.getElem?_take]at hu;split at hu
   .rw[Addr.add_lit,cell_of_row W.drew g _ cur 102 (0,0) hg];simpa using hu
   .cases hu
 have s2:Hid (∀u∈news,u.oneCell'=true):=fun u hu=>h1c u (by rw[hnews]at hu;exact List.mem_of_mem_drop hu)
 have s3:Hid (∀t,t<news.length->(W.drew.cell? ⟨g,0+i*2+t,none⟩).isSome=true/\W.drew.frozen? ⟨g,0+i*2+t,none⟩=false):=by intro t ht;rw[hlen]at ht;refine⟨?_,by show W.frozen? _=false;simp only[World.frozen?,hg];simp⟩;rw[cell_of_row W.drew g _ cur 102 (0,0) hg,Array.getElem?_eq_getElem (by omega)];rfl
 obtain⟨r1,hr1⟩:∃r1,r1=(cur.toList.take (i*2)++news++cur.toList.drop (i*2+news.length)).toArray:=⟨_,rfl⟩;have hr1s:r1.size=c*2:=by rw[hr1,List.size_toArray,List.length_append,List.length_append,List.length_take,List.length_drop,Array.length_toList,hc,hlen];omega
 obtain⟨W1,hW1⟩:∃W1,W1=W.drew.setCells g (0+i*2) news:=⟨_,rfl⟩;have hW1':W1=W.drew.setRow g r1:=by rw[hW1,hr1,Nat.zero_add];exact ary Tryz.prog W.drew g (i*2) cur 102 news hg (by rw[hlen,hc];omega) s2
 have hg1:W1.heap[g]?=some (.cells r1 102 (0,0)):=by rw[hW1'];exact setRow_heap W.drew g cur r1 102 (0,0) hg
 obtain⟨r2,hr2⟩:∃r2,r2=(r1.toList.take ((i+(n-j))*2)++(Builtin.zeroCells (Value.agg #[.int .i64 0,.slice none 0 0]:Value).cells (n-(i+(n-j)))).toList++r1.toList.drop ((i+(n-j))*2+(n-(i+(n-j)))*2)).toArray:=⟨_,rfl⟩;have hzl:(Builtin.zeroCells (Value.agg #[.int .i64 0,.slice none 0 0]:Value).cells (n-(i+(n-j)))).toList.length=(n-(i+(n-j)))*2:=by rw[Array.length_toList,size_zeroCells];rfl
 have hr2s:r2.size=c*2:=by rw[hr2,List.size_toArray,List.length_append,List.length_append,List.length_take,List.length_drop,Array.length_toList,hr1s,hzl];omega
 have hcl:∀ty,(Builtin.clear_ #[28] ty #[.slice (some ⟨g,(i+(n-j))*2,none⟩) (n-(i+(n-j))) (c-(i+(n-j)))]).run Tryz.prog W1=.ok (.tuple #[]) (W1.setRow g r2):=fun ty=>by rw[hr2];exact akh W1 28 102 ty (Value.agg #[.int .i64 0,.slice none 0 0]) 2 hu Tryz.zeroValue102 rfl (by omega) (by decide) g ((i+(n-j))*2) _ _ (by omega) r1 102 hg1 (by rw[hr1s];omega)
 have fin:∃cur',(W1.setRow g r2).heap[g]?=some (.cells cur' 102 (0,0))/\cur'.size=c*2/\cur'.toList.take ((i+(n-j))*2)=(cur.toList.take (n*2)).take (i*2)++(cur.toList.take (n*2)).drop (j*2)/\W.grownBy (W1.setRow g r2) (some g):=by
  refine⟨r2,setRow_heap W1 g r1 r2 102 (0,0) hg1,hr2s,?_,⟨by rw[hW1'];rfl,by rw[hW1'];rfl,by rw[hW1'];rfl,by rw[hW1',setRow_size,setRow_size];exact Nat.le_refl W.heap.size,fun k hk hne=>?_⟩⟩
  .rw[hr2,<-hnews];have e1:(r1.toList.take ((i+(n-j))*2))=cur.toList.take (i*2)++news:=by rw[hr1];exact List.take_left' (by rw[List.length_append,List.length_take,hlen,Array.length_toList,hc];omega)
   rw[e1,List.append_assoc,List.take_left' (by rw[List.length_append,List.length_take,hlen,Array.length_toList,hc];omega),List.take_take,Nat.min_eq_left (by omega)]
  .have hne':k≠g:=fun e=>hne (by rw[e])
   rw[setRow_other _ g k r2 hne',hW1',setRow_other _ g k r1 hne'];rfl
 have hW:Hid (W1=W.drew.setCells g (0+i*2) news):=hW1;have s1:Hid (news.length=(n-j)*2):=hlen;have hic:i<=c:=by omega
 have hjc:j<=c:=by omega
 have hne:¬(i:Int)=(j:Int):=by omega
 clear hW1 hW1' hg1 hr1 hr2 hr1s hr2s hzl hnews hlen hg hc h1c
 go_enter Tryz.func87,Tryz.ntmps87
 go_wp2_with fail
 go_region_law_o (refine step_append_room rfl (.tmp 22) (.tmp 25) 28 rfl 102 i0 2 hu hi0 hzs g 0 i c (by simp[Act.eval,Act.put]) A (n-j) (c-j) news (by simp[Act.eval,Act.put]) s1.out hsrc.out s2.out (by omega) s3.out ?_;rw[<-hW.out])
 go_wp2
 go_ret
 exact⟨rfl,fin⟩
theorem Sy (W:World):ax4 Tryz.prog 87 102 (Ty.pair (.int .i64) (.sl 5 (.int .u8))) W:=by
 intro s n i j cs hs hij hjn h1c;have hk:(Ty.pair (.int .i64) (.sl 5 (.int .u8)):Ty).n=2:=rfl;rw[hk]at hs ⊢;by_cases he:i=j
 .subst he;have hsame:s=.slice none 0 0/\n=0\/∃g c,s=.slice (some ⟨g,0,none⟩) n c/\n<=c/\c<=9223372036854775807:=by
   rcases hs.2 with ⟨rfl,rfl⟩|⟨g,c,cur,rfl,_,_,hnc,hcm,_⟩
   .exact .inl ⟨rfl,rfl⟩
   .exact .inr ⟨g,c,rfl,hnc,hcm⟩
  refine(anW W s n i hjn hsame).mono fun e' w' h=>?_
  obtain⟨rfl,rfl⟩:=h;refine⟨s,rfl,?_,⟨rfl,rfl,rfl,Nat.le_refl _,fun k _ _=>rfl⟩,.inl rfl⟩;rw[List.take_append_drop,show i+(n-i)=n by omega];exact hs
 .obtain⟨hcl,⟨rfl,rfl⟩|⟨g,c,cur,rfl,_,hgh,hnc,hcm,hcs,hct⟩⟩:=hs
  .omega
  refine(arz W g n c i j cur hgh hcs hcm (by rw[hct];exact h1c) (by omega) hjn hnc).mono fun e' w' h=>?_
  obtain⟨rfl,cur',h1,h2,h3,h4⟩:=h;rw[hct]at h3;refine⟨_,rfl,⟨?_,.inr ⟨g,c,cur',rfl,Nat.zero_le _,h1,by omega,hcm,h2,h3⟩⟩,h4,.inl rfl⟩;rw[<-h3,List.length_take,Array.length_toList,h2];omega
def wc:Any:=.del 102 (Ty.pair (.int .i64) (.sl 5 (.int .u8)))
theorem Sz:rO Tryz.prog TB 87 wc:=⟨⟨_,Tryz.func87,by kernel_rfl,by kernel_rfl⟩,fun W _=>Sy W⟩
end Go.Am.Tryz
namespace Go.Am.Tryz
open Go.Am Go.Proofs Go.RowKit Go.Lib
abbrev KTx:Ty:=.pair (.int .i64) (.pair (.int .i64) (.pair (.int .i64) (.int .i64)))
def aGf (a b:KTx.D):Bool:=decide (a.1<b.1) || (a.1==b.1&&decide (a.2.2.2<b.2.2.2))
def PQ (x y:KTx.D):Bool:=aGf y x
def Nv:Idx:=⟨267,(KTx,true),KTx,PQ⟩
def vn:Any:=.idx Nv
def txV (x:KTx.D):List Value:=[.int .i64 x.1,.int .i64 x.2.1,.int .i64 x.2.2.1,.int .i64 x.2.2.2]
theorem aDY {w:World}{ok:Nat->Prop}{x:KTx.D}{c:List Value}(h:Rd w ok KTx x c):c=txV x:=by obtain⟨c1,c2,rfl,h1,h2⟩:=h;obtain⟨c3,c4,rfl,h3,h4⟩:=h2;obtain⟨c5,c6,rfl,h5,h6⟩:=h4;rw[show c1=_ from h1,show c3=_ from h3,show c5=_ from h5,show c6=_ from h6];rfl
theorem azH {W:World}(o1 o2:Obj):Below W.heap.size W ((W.alloc o1).alloc o2) :=
 ((Below.refl W.heap.size W).alloc (Nat.le_refl _) o1).alloc (by simp) o2
theorem atQ (W:World)(a b c d a' b' c' d':Int):Calls Tryz.prog 140 #[.agg #[.int .i64 a,.int .i64 b,.int .i64 c,.int .i64 d],.agg #[.int .i64 a',.int .i64 b',.int .i64 c',.int .i64 d']] W fun e w'=>e=.returned (.bool (decide (a<a') || (a==a'&&decide (d<d'))))/\Below W.heap.size W w':=by
 go_enter Tryz.func140,Tryz.ntmps140
 go_wp2
 all_goals (go_ret;refine⟨?_,azH _ _⟩)
 all_goals (simp_all<;>omega)
theorem atS (W:World)(x y:KTx.D)(B:Nat)(cs:Array Value)(e:TypeId)(hB:W.heap[B]?=some (.cells cs e (0,0)))(hy:cs.toList=txV y) :
  Calls Tryz.prog 267 #[.agg #[.int .i64 x.1,.int .i64 x.2.1,.int .i64 x.2.2.1,.int .i64 x.2.2.2],.pointer (some ⟨B,0,none⟩)] W fun e w'=>e=.returned (.bool (PQ x y))/\Below W.heap.size W w':=by
 obtain⟨a',b',c',d'⟩:=x;obtain⟨a,b,c,d⟩:=y;show Calls Tryz.prog 267 #[.agg #[.int .i64 a',.int .i64 b',.int .i64 c',.int .i64 d'],.pointer (some ⟨B,0,none⟩)] W fun e w'=>e=.returned (.bool (decide (a<a') || (a==a'&&decide (d<d'))))/\Below W.heap.size W w'
 have hcell:∀j,W.cell? ⟨B,j,none⟩=[Value.int .i64 a,.int .i64 b,.int .i64 c,.int .i64 d][j]?:=fun j=>by rw[cell_of_row W B j cs e (0,0) hB,<-Array.getElem?_toList,hy];rfl
 have hlt:B<W.heap.size:=(Array.getElem?_eq_some_iff.1 hB).1;have h0:=hcell 0;have h1:=hcell 1;have h2:=hcell 2;have h3:=hcell 3;simp only[List.getElem?_cons_zero,List.getElem?_cons_succ]at h0 h1 h2 h3;clear hcell hB hy;have hcall:=atQ (W.alloc (Obj.cells #[.int .i64 a',.int .i64 b',.int .i64 c',.int .i64 d'] 63)) a b c d a' b' c' d'
 go_enter Tryz.func267,Tryz.ntmps267
 go_wp2_with (go_at_fn 140)
 refine hcall.mono ?_;rintro e' w' ⟨rfl,hb⟩;clear h0 h1 h2 h3 hcall;have hw:Below W.heap.size W w':=((Below.refl W.heap.size W).alloc (Nat.le_refl _) _).trans (hb.mono (by simp));clear hb
 go_wp2
 go_ret
 exact⟨rfl,hw⟩
set_option maxHeartbeats 4000000 in
theorem PR (W:World)(xs:List KTx.D)(y:KTx.D)(s:Value)(B:Nat)(cs:Array Value)(e e':TypeId)(hs:Rd W (fun _=>True) (.sl e' KTx) xs [s])(hB:W.heap[B]?=some (.cells cs e (0,0)))(hy':cs.toList=txV y) :
  Calls Tryz.prog 266 #[s,.func (.func 267) #[] #[.pointer (some ⟨B,0,none⟩)]] W fun e' w'=>e'=.returned (.int .i64 (oK (fun x=>PQ x y) xs 0))/\Below W.heap.size W w':=by
 obtain⟨A,cap,h1,hcap,h63,hcell⟩:=hs;have hs':s=.slice A xs.length cap:=(List.cons.inj h1).1;subst hs';have hBl:B<W.heap.size:=(Array.getElem?_eq_some_iff.1 hB).1;have hcall:∀(x:KTx.D) (wr:World),Below W.heap.size W wr->Calls Tryz.prog 267 (#[.agg #[.int .i64 x.1,.int .i64 x.2.1,.int .i64 x.2.2.1,.int .i64 x.2.2.2]]++#[.pointer (some ⟨B,0,none⟩)]) wr fun e w'=>e=.returned (.bool (PQ x y))/\Below W.heap.size W w':=fun x wr hw =>
  (atS wr x y B cs e (by rw[hw.block B hBl];exact hB) hy').mono fun e w' h=>⟨h.1,hw.trans (h.2.mono hw.size)⟩
 clear hB hy' h1;have hel:∀j (h:j<xs.length),∃b o,A=some ⟨b,o,none⟩/\∀wr,Below W.heap.size W wr->wr.cell? ⟨b,o+j*4,none⟩=some (.int .i64 xs[j].1)/\wr.cell? ⟨b,o+j*4+1,none⟩=some (.int .i64 xs[j].2.1)/\wr.cell? ⟨b,o+j*4+2,none⟩=some (.int .i64 xs[j].2.2.1)/\wr.cell? ⟨b,o+j*4+3,none⟩=some (.int .i64 xs[j].2.2.2):=by
  intro j h;obtain⟨b,o,hA,hbl,_,hh⟩:=hcell (by omega);obtain⟨c,hc1,hc2⟩:=hh j xs[j] (List.getElem?_eq_getElem h);have hc1:c=txV xs[j]:=aDY hc1;have hn:KTx.n=4:=rfl;have g:∀k v,c[k]?=some v->W.cell? ⟨b,o+j*4+k,none⟩=some v:=fun k v hk=>by have:=hc2 k v hk;rw[hn]at this;rw[Nat.add_assoc];exact this
  refine⟨b,o,hA,fun wr hw=>?_⟩;exact⟨(hw.cell (p:=⟨b,o+j*4,none⟩) hbl).trans (g 0 _ (by rw[hc1];rfl)),(hw.cell (p:=⟨b,o+j*4+1,none⟩) hbl).trans (g 1 _ (by rw[hc1];rfl)),(hw.cell (p:=⟨b,o+j*4+2,none⟩) hbl).trans (g 2 _ (by rw[hc1];rfl)),(hw.cell (p:=⟨b,o+j*4+3,none⟩) hbl).trans (g 3 _ (by rw[hc1];rfl))⟩
 clear hcell;have hst:=apG (fun x=>PQ x y) xs;obtain⟨R,hR⟩:∃R,R=oK (fun x=>PQ x y) xs 0:=⟨_,rfl⟩;have hR0:Aside (R=oK (fun x=>PQ x y) (xs.drop 0) ((0:Nat):Int)):=hR;rw[<-hR];clear hR;obtain⟨n,hn⟩:∃n,n=xs.length:=⟨_,rfl⟩;have hnA:Aside (n=xs.length):=hn;rw[<-hn];clear hn
 go_enter Tryz.func266,Tryz.ntmps266
 go_wp2
 go_loopg [5,8] n (fun gg _ s8 wr=>∃kk:Nat,kk<=n/\n-kk<=gg/\s8=.int .i64 kk/\Below W.heap.size W wr/\Aside (R=oK (fun x=>PQ x y) (xs.drop kk) (kk:Int)))
 case atStart=>exact⟨0,Nat.zero_le _,by omega,rfl,Below.refl _ _,hR0⟩
 case round =>
  obtain⟨kk,hkn,hg,rfl,hw,A1⟩:=hrel;by_cases hlt:kk<n
  .have hltz:(kk:Int)<(n:Int):=by omega
   have hk':kk<xs.length:=by rw[<-hnA.out];exact hlt
   obtain⟨b,o,hA,hcl⟩:=hel kk hk';subst hA;have hst':=hst kk hk';clear hel hst;obtain⟨c0,c1,c2,c3⟩:=hcl wr hw;clear hcl;generalize hy:xs[kk]=z at c0 c1 c2 c3 hst';have hc:=hcall z wr hw;clear hcall;cases hq:PQ z y with
   |true =>
    rw[hq]at hc;have B1:Aside (R=(kk:Int)):=by show R=_;rw[A1.out,hst'];rw[hq];rfl
    clear hst'
    go_wp2_with (go_at_fn 267)
    refine hc.mono ?_;rintro e2 w' ⟨rfl,hw'⟩;clear hc hw c0 c1 c2 c3
    go_wp2
    go_ret
    exact⟨by rw[B1.out];rfl,hw'⟩
   |false =>
    rw[hq]at hc;have B1:Aside (R=oK (fun x=>PQ x y) (xs.drop (kk+1)) ((kk+1:Nat):Int)):=by show R=_;rw[A1.out,hst'];rw[hq];rfl
    clear hst'
    go_wp2_with (go_at_fn 267)
    refine hc.mono ?_;rintro e2 w' ⟨rfl,hw'⟩;clear hc hw c0 c1 c2 c3
    go_wp2
    go_roundg (n-(kk+1))
    case measure=>omega
    case rel=>exact⟨kk+1,by omega,by omega,by go_num,hw',B1⟩
  .have hltz:¬(kk:Int)<(n:Int):=by omega
   have:kk=n:=by omega
   subst this;clear hel hst hcall;have B1:Aside (R=-1):=by show R=_;rw[A1.out,hnA.out,List.drop_length];rfl
   go_wp2
   go_ret
   exact⟨by rw[B1.out];rfl,hw⟩
theorem PS:rO Tryz.prog TB 266 vn:=⟨⟨_,Tryz.func266,by kernel_rfl,by kernel_rfl⟩,fun W _ xs y s B cs e e' hs hB hy=>PR W xs y s B cs e e' hs hB (aDY hy)⟩
end Go.Am.Tryz
namespace Go.Am.Tryz
open Go.Am Go.Proofs Go.RowKit Go.Lib
theorem akj:∃i0,Tryz.prog.info? 61=some i0/\i0.zero=some (Value.agg #[.int .i64 0,.string (ByteArray.mk #[]),.slice none 0 0])/\i0.size=3/\i0.bytes=48:=info_parts (by kernel_rfl)
set_option maxHeartbeats 4000000 in
set_option maxRecDepth 100000 in
theorem arA (W:World)(s:Value)(n m c vb:Nat)(cs ds:List Value)(hs:W.ownsRow 0 61 3 s n cs)(hdl:ds.length=m*3)(hds:∀j u,ds[j]?=some u->W.cell? ((⟨vb,0,none⟩:Addr).add j)=some u)(h1:∀u∈ds,u.oneCell'=true)(hm:1<=m)(hnm:n+m<=1073741824) :
  Calls Tryz.prog 232 #[s,.int .i64 n,.slice (some ⟨vb,0,none⟩) m c] W fun e' w'=>∃v',e'=.returned v'/\w'.ownsRow 0 61 3 v' (n+m) (cs++ds)/\W.grownBy w' s.ownBlock/\(v'.ownBlock=s.ownBlock\/v'.ownBlock=some W.heap.size):=by
 obtain⟨i0,hi0,hz0,hzs,hzb⟩:=akj;have hu:Tryz.prog.underlying 45=some (.slice 61):=Tryz.underlying45;have hmax:maxLen=9223372036854775807:=rfl;obtain⟨v',w',hrun,hown',hg,_,hat⟩:=run_append_own_at (P:=Tryz.prog) W 0 45 45 61 i0 (Value.agg #[.int .i64 0,.string (ByteArray.mk #[]),.slice none 0 0]) 3 48 hu hi0 hz0 hzs hzb rfl (by omega) s n cs hs ⟨vb,0,none⟩ m c ds (by omega) hds h1 (by omega) (by omega) (Nat.zero_le _);have hz1:¬((m:Int)=0):=by omega
 have hn0:=hs.2;rcases hn0 with ⟨rfl,rfl⟩|⟨g,cap,cur,rfl,_,_,hnc,_⟩
 .go_enter Tryz.func232,Tryz.ntmps232
  go_wp2_with (at_builtin;refine Lib.wpList_append_run _ rfl _ _ _ _ rfl _ _ rfl rfl _ _ hrun ?_)
  go_ret
  exact⟨v',rfl,by simpa using hown',hg,hat⟩
 .have hc63:cap<=9223372036854775807:=by omega
  go_enter Tryz.func232,Tryz.ntmps232
  go_wp2_with (at_builtin;refine Lib.wpList_append_run _ rfl _ _ _ _ rfl _ _ rfl rfl _ _ hrun ?_)
  all_goals (go_ret;exact⟨v',rfl,hown',hg,hat⟩)
set_option maxHeartbeats 4000000 in
set_option maxRecDepth 100000 in
theorem anX (W:World)(g n c i vb m vc:Nat)(cur:Array Value)(ds:List Value)(hg:W.heap[g]?=some (.cells cur 61 (0,0)))(hc:cur.size=c*3)(hcm:c<=9223372036854775807)(h1c:∀v∈cur.toList.take (n*3),v.oneCell'=true)
  (hi:i<n) (hdl:ds.length=m*3) (hds:∀j u,ds[j]?=some u->W.cell? ((⟨vb,0,none⟩:Addr).add j)=some u) (h1:∀u∈ds,u.oneCell'=true) (hm:1<=m) (hroom:n+m<=c) (hvb:vb≠g)
  (tA:TypeId) (kA:Nat) (hsa:W.shape? vb=some (tA,kA)) (hfa:W.frozen? ⟨vb,0,none⟩=false) (hfe:W.frozen? ⟨vb,kA,none⟩=false) :
  Calls Tryz.prog 232 #[.slice (some ⟨g,0,none⟩) n c,.int .i64 i,.slice (some ⟨vb,0,none⟩) m vc] W fun e' w'=>e'=.returned (.slice (some ⟨g,0,none⟩) (n+m) c) /\
   ∃cur',w'.heap[g]?=some (.cells cur' 61 (0,0))/\cur'.size=c*3/\cur'.toList.take ((n+m)*3)=cur.toList.take (i*3)++ds++(cur.toList.take (n*3)).drop (i*3)/\W.grownBy w' (some g):=by
 obtain⟨i0,hi0,hz0,hzs,hzb⟩:=akj;have hu:Tryz.prog.underlying 45=some (.slice 61):=Tryz.underlying45;have hsz:(Tryz.prog.info? 61).map (·.size)=some 3:=by rw[hi0];simp[hzs]
 have hz1:¬((m:Int)=0):=by omega
 have hz2:¬((i:Int)=(n:Int)):=by omega
 have hw1:IntKind.i64.wrap ((i:Int)+(m:Int))=(i:Int)+(m:Int):=by rw[IntKind.wrap_i64];omega
 have hb1:(0:Int)<=(i:Int)+(m:Int):=by omega
 have hin:i<=n:=by omega
 have htn:((i:Int)+(m:Int)).toNat=i+m:=by omega
 have hb2:¬(c=i+m):=by omega
 have hb3:(i:Int)<=(n:Int)+(m:Int):=by omega
 have hb4:¬(c=i):=by omega
 have hov:∀(w:World) lb cb,w.heap=W.heap->(callFunc 274 #[.slice (some ⟨vb,0,none⟩) m vc,.slice (some ⟨g,(i+m)*3,none⟩) lb cb]).run Tryz.prog w=.ok (.value (.bool false)) w:=fun w lb cb hw=>by
  rw[run_callFunc_extern Tryz.func274 (by kernel_rfl) (by kernel_rfl) (by kernel_rfl) (e:=Extern.SlicesOverlaps.overlaps #[45,45] #[4]) (by kernel_rfl),
   Lib.run_overlaps_apart w 45 4 61 hu 3 (fun w=>by simp[sizeOf,typeInfo,hi0,hzs]) ⟨vb,0,none⟩ ⟨g,(i+m)*3,none⟩ m vc lb cb hvb tA 61 kA cur.size (by rw[World.shape?,hw];exact hsa) (by simp[World.shape?,hw,hg]) (by omega) (by rw[World.frozen?,hw];exact hfa) (by rw[World.frozen?,hw];exact hfe)]
  rfl
 obtain⟨tail,htail⟩:∃tail,tail=(cur.toList.take (n*3)).drop (i*3):=⟨_,rfl⟩;have htl:tail.length=(n-i)*3:=by rw[htail,List.length_drop,List.length_take,Array.length_toList,hc];omega
 have hcur:∀(w:World),w.heap=W.heap->∀j v,tail[j]?=some v->w.cell? ((⟨g,i*3,none⟩:Addr).add j)=some v:=fun w hw j v hj=>by
  rw[htail,List.getElem?_drop,List.getElem?_take]at hj;split at hj
  .rw[Addr.add_lit,cell_of_row w g _ cur 61 (0,0) (by rw[hw];exact hg)];simpa using hj
  .cases hj
 have hcp1:∀ty dc sc,(Builtin.copy_ #[45,45] ty #[.slice (some ⟨g,(i+m)*3,none⟩) (n+m-(i+m)) dc,.slice (some ⟨g,i*3,none⟩) (n+m-i) sc]).run Tryz.prog W.drew=_:=fun ty dc sc =>
  dL W.drew 45 45 ty 61 3 g ((i+m)*3) (n+m-(i+m)) dc ⟨g,i*3,none⟩ (n+m-i) sc cur 61 tail hu hsz hg (by rw[htl];simp only[Nat.min_def];split<;>omega) (hcur _ rfl) (by rw[htl,hc];omega) (fun v hv=>h1c v (List.mem_of_mem_drop (htail▸hv)))
 obtain⟨c1,hc1⟩:∃c1,c1=(cur.toList.take ((i+m)*3)++tail++cur.toList.drop ((i+m)*3+tail.length)).toArray:=⟨_,rfl⟩;rw[<-hc1]at hcp1;have hc1s:c1.size=c*3:=by rw[hc1];simp[htl,hc];omega
 have hW1:(W.drew.setRow g c1).heap[g]?=some (.cells c1 61 (0,0)):=setRow_heap W.drew g cur c1 61 (0,0) hg;have hds1:∀j u,ds[j]?=some u->(W.drew.setRow g c1).cell? ((⟨vb,0,none⟩:Addr).add j)=some u:=fun j u hj=>by have h2:=hds j u hj;rw[Addr.add_lit]at h2 ⊢;rw[World.cell?_of_block (w:=W) (a:=⟨vb,0+j,none⟩) (by exact setRow_other W.drew g vb c1 hvb)];exact h2
 have hcp2:∀ty dc,(Builtin.copy_ #[45,45] ty #[.slice (some ⟨g,i*3,none⟩) (n+m-i) dc,.slice (some ⟨vb,0,none⟩) m vc]).run Tryz.prog (W.drew.setRow g c1)=_:=fun ty dc =>
  dL (W.drew.setRow g c1) 45 45 ty 61 3 g (i*3) (n+m-i) dc ⟨vb,0,none⟩ m vc c1 61 ds hu hsz hW1 (by rw[hdl];simp only[Nat.min_def];split<;>omega) hds1 (by rw[hdl,hc1s];omega) h1
 obtain⟨c2,hc2⟩:∃c2,c2=(c1.toList.take (i*3)++ds++c1.toList.drop (i*3+ds.length)).toArray:=⟨_,rfl⟩;rw[<-hc2]at hcp2;have fin:∃cur',((W.drew.setRow g c1).setRow g c2).heap[g]?=some (.cells cur' 61 (0,0))/\cur'.size=c*3/\cur'.toList.take ((n+m)*3)=cur.toList.take (i*3)++ds++(cur.toList.take (n*3)).drop (i*3)/\W.grownBy ((W.drew.setRow g c1).setRow g c2) (some g):=by
  refine⟨c2,setRow_heap _ g c1 c2 61 (0,0) hW1,by rw[hc2,List.size_toArray,List.length_append,List.length_append,List.length_take,List.length_drop,Array.length_toList,hc1s,hdl];omega,?_,⟨rfl,rfl,rfl,by rw[setRow_size,setRow_size];exact Nat.le_refl W.heap.size,fun k hk hne=>?_⟩⟩
  .have:=awq (L:=cur.toList) (ds:=ds) (a:=i*3) (b:=n*3) (d:=m*3) (by omega) (by rw[Array.length_toList,hc];omega) hdl;rw[<-htail]at this ⊢;rw[hc2,hc1,htl,hdl,show(i+m)*3=i*3+m*3 by omega,show(n+m)*3=n*3+m*3 by omega,show(n-i)*3=n*3-i*3 by omega];exact this
  .have hne':k≠g:=fun e=>hne (by rw[e])
   rw[setRow_other _ g k c2 hne',setRow_other _ g k c1 hne'];rfl
 clear hcur hds1 hds hW1 htail htl hc1 hc2 hc1s h1c h1 hdl
 go_enter Tryz.func232,Tryz.ntmps232
 have hov':∀lb cb,(callFunc 274 #[.slice (some ⟨vb,0,none⟩) m vc,.slice (some ⟨g,(i+m)*3,none⟩) lb cb]).run Tryz.prog W=.ok (.value (.bool false)) W:=fun lb cb=>hov W lb cb rfl
 clear hov;have mixed:Tryz.prog.follows .mixedOrders=true:=by kernel_rfl
 go_wp2_with (simp only[hov'])
 go_region_law_o (refine step_copy_runI rfl _ _ 45 45 rfl _ _ (by simp[Act.eval,Act.put]) (by simp[Act.eval,Act.put]) (hcp1 _ _ _) ?_)
 go_wp2_with (at_builtin;refine wpList_copy_runI _ rfl _ _ 45 45 rfl _ _ rfl rfl (hcp2 _ _) ?_)
 go_ret
 exact⟨rfl,fin⟩
set_option maxHeartbeats 4000000 in
set_option maxRecDepth 100000 in
theorem anY (W:World)(g n c i vb m vc:Nat)(cur:Array Value)(ds:List Value)(hg:W.heap[g]?=some (.cells cur 61 (0,0)))(hc:cur.size=c*3)(hnc:n<=c)(h1c:∀v∈cur.toList.take (n*3),v.oneCell'=true)
  (hi:i<n) (hdl:ds.length=m*3) (hds:∀j u,ds[j]?=some u->W.cell? ((⟨vb,0,none⟩:Addr).add j)=some u) (hvw:vb<W.heap.size) (h1:∀u∈ds,u.oneCell'=true) (hm:1<=m) (hroom:c<n+m) (hnm:n+m<=1073741824) :
  Calls Tryz.prog 232 #[.slice (some ⟨g,0,none⟩) n c,.int .i64 i,.slice (some ⟨vb,0,none⟩) m vc] W fun e' w'=>∃G,e'=.returned (.slice (some ⟨W.heap.size,0,none⟩) (n+m) G)/\n+m<=G/\G<=9223372036854775807 /\
   ∃cur',w'.heap[W.heap.size]?=some (.cells cur' 61 (0,0))/\cur'.size=G*3/\cur'.toList.take ((n+m)*3)=cur.toList.take (i*3)++ds++(cur.toList.take (n*3)).drop (i*3)/\W.grownBy w' none:=by
 obtain⟨i0,hi0,hz0,hzs,hzb⟩:=akj;have hu:Tryz.prog.underlying 45=some (.slice 61):=Tryz.underlying45;have hu3:Tryz.prog.underlying 3=some (.int .i64):=Tryz.underlying3;have mixed:Tryz.prog.follows .mixedOrders=true:=by kernel_rfl
 have hsz:(Tryz.prog.info? 61).map (·.size)=some 3:=by rw[hi0];simp[hzs]
 have hz1:¬((m:Int)=0):=by omega
 have hz2:¬((i:Int)=(n:Int)):=by omega
 have hz3:(c:Int)<(n:Int)+(m:Int):=by omega
 have hbw:g<W.heap.size:=(Array.getElem?_eq_some_iff.1 hg).1;have hkk:(n:Int)+(m:Int)-(i:Int)=((n+m-i:Nat):Int):=by omega
 have hik:i+(n+m-i)=n+m:=by omega
 obtain⟨L,hL⟩:∃L,L=cur.toList:=⟨_,rfl⟩;have hLl:L.length=c*3:=by rw[hL,Array.length_toList,hc]
 have hcell:∀(w:World),w.heap[g]?=W.heap[g]?->∀(o j:Nat) v,(L.drop o)[j]?=some v->w.cell? ((⟨g,o,none⟩:Addr).add j)=some v:=fun w hw o j v hj=>by rw[List.getElem?_drop,hL]at hj;rw[Addr.add_lit,cell_of_row w g _ cur 61 (0,0) (by rw[hw];exact hg)];simpa using hj
 have hold:(Builtin.firstCells i0.size i (.slice (some ⟨g,0,none⟩) i c)).run Tryz.prog W.drew=.ok (L.take (i*3)).toArray W.drew:=by
  rw[hzs];exact run_firstCells_some W.drew 3 i ⟨g,0,none⟩ i c (L.take (i*3)) (by rw[List.length_take,hLl,Nat.min_eq_left (by omega)]) (fun j v hj=>by
   rw[List.getElem?_take]at hj;split at hj
   .exact hcell W.drew rfl 0 j v (by rw[List.drop_zero];exact hj)
   .cases hj)
 obtain⟨G,hG⟩:∃G,G=grownCap W (n+m) c 61:=⟨_,rfl⟩;obtain⟨ROW,hROW⟩:∃ROW:Array Value,ROW=(L.take (i*3)).toArray++Builtin.zeroCells (Value.agg #[.int .i64 0,.string (ByteArray.mk #[]),.slice none 0 0]).cells (n+m-i)++Builtin.zeroCells (Value.agg #[.int .i64 0,.string (ByteArray.mk #[]),.slice none 0 0]).cells (G-(n+m)):=⟨_,rfl⟩;have hrz:∀ty,(Builtin.append_ #[45,3] ty #[.slice (some ⟨g,0,none⟩) i c,.int .i64 ((n:Int)+(m:Int)-(i:Int))]).run Tryz.prog W=.ok (.slice (some ⟨W.heap.size,0,none⟩) (n+m) G) (W.drew.alloc (.cells ROW 61)):=fun ty=>by have h:=Lib.run_append_grow_zeros W 45 3 ty 61 i0 _ .i64 .i64 hu hu3 hi0 hz0 (some ⟨g,0,none⟩) i c (L.take (i*3)).toArray.toList (by rw[Array.toArray_toList];exact hold) (n+m-i) (by omega) (by omega) (by omega) (by omega) (by rw[hzb];omega) (by rw[hzb,hik];exact growslice_fits hroom (by omega));rw[hik,Array.toArray_toList]at h;rw[hkk,hROW,hG];exact h
 have hGn:n+m<=G:=by rw[hG];exact grownCap_ge W _ _ _
 have hG63:G<=9223372036854775807:=by have:=grownCap_le_maxLen W (n+m) c 61 (by unfold maxLen;omega);rw[<-hG]at this;unfold maxLen at this;omega
 have hRs:ROW.size=G*3:=by rw[hROW,Array.size_append,Array.size_append,size_zeroCells,size_zeroCells,List.size_toArray,List.length_take,hLl,show(Value.agg #[.int .i64 0,.string (ByteArray.mk #[]),.slice none 0 0]).cells.size=3 from rfl];omega
 obtain⟨r1,hr1⟩:∃r1,r1=(ROW.toList.take (i*3)++ds++ROW.toList.drop (i*3+ds.length)).toArray:=⟨_,rfl⟩;obtain⟨tail,htail⟩:∃tail,tail=(L.take (n*3)).drop (i*3):=⟨_,rfl⟩;have htl:tail.length=(n-i)*3:=by rw[htail,List.length_drop,List.length_take,hLl];omega
 obtain⟨r2,hr2⟩:∃r2,r2=(r1.toList.take ((i+m)*3)++tail++r1.toList.drop ((i+m)*3+tail.length)).toArray:=⟨_,rfl⟩;have hr1s:r1.size=G*3:=by rw[hr1,List.size_toArray,List.length_append,List.length_append,List.length_take,List.length_drop,Array.length_toList,hRs,hdl];omega
 have hr2s:r2.size=G*3:=by rw[hr2,List.size_toArray,List.length_append,List.length_append,List.length_take,List.length_drop,Array.length_toList,hr1s,htl];omega
 have hN:∀(w:World),w.heap=(W.drew.alloc (.cells ROW 61)).heap->w.heap[W.heap.size]?=some (.cells ROW 61 (0,0)):=fun w hw=>by rw[hw];exact heap_alloc_new W.drew _
 have hold':∀(w:World),w.heap=(W.drew.alloc (.cells ROW 61)).heap->∀k,k<W.heap.size->w.heap[k]?=W.heap[k]?:=fun w hw k hk=>by rw[hw];exact Below.heap_alloc _ _ _ hk
 have hcpA:∀(w:World),w.heap=(W.drew.alloc (.cells ROW 61)).heap->∀ty dc,(Builtin.copy_ #[45,45] ty #[.slice (some ⟨W.heap.size,i*3,none⟩) (n+m-i) dc,.slice (some ⟨vb,0,none⟩) m vc]).run Tryz.prog w=.ok (goInt (Nat.min m (n+m-i))) (w.setRow W.heap.size r1):=fun w hw ty dc=>by rw[hr1];refine dL w 45 45 ty 61 3 W.heap.size (i*3) (n+m-i) dc ⟨vb,0,none⟩ m vc ROW 61 ds hu hsz (hN w hw) (by rw[hdl];simp only[Nat.min_def];split<;>omega) (fun j u hj=>?_) (by rw[hdl,hRs];omega) h1;have h2:=hds j u hj;rw[Addr.add_lit]at h2 ⊢;rw[World.cell?_of_block (w:=W) (a:=⟨vb,0+j,none⟩) (hold' w hw vb hvw)];exact h2
 have hcpB:∀(w:World),w.heap=((W.drew.alloc (.cells ROW 61)).setRow W.heap.size r1).heap->∀ty dc sc,(Builtin.copy_ #[45,45] ty #[.slice (some ⟨W.heap.size,(i+m)*3,none⟩) (n+m-(i+m)) dc,.slice (some ⟨g,i*3,none⟩) (n-i) sc]).run Tryz.prog w=.ok (goInt (Nat.min (n-i) (n+m-(i+m)))) (w.setRow W.heap.size r2):=fun w hw ty dc sc=>by
  rw[hr2];refine dL w 45 45 ty 61 3 W.heap.size ((i+m)*3) (n+m-(i+m)) dc ⟨g,i*3,none⟩ (n-i) sc r1 61 tail hu hsz (by rw[hw];exact setRow_heap _ _ ROW r1 61 (0,0) (hN _ rfl)) (by rw[htl];simp only[Nat.min_def];split<;>omega) (fun j u hj=>?_) (by rw[htl,hr1s];omega) (fun v hv=>h1c v (by rw[htail,hL]at hv;exact List.mem_of_mem_drop hv));rw[htail,List.drop_take,List.getElem?_take]at hj;split at hj
  .exact hcell w (by rw[hw,setRow_other _ _ g _ (by omega)];exact hold' _ rfl g hbw) (i*3) j u hj
  .cases hj
 have fin:∀(w:World),w.heap=(((W.drew.alloc (.cells ROW 61)).setRow W.heap.size r1).setRow W.heap.size r2).heap->w.os=W.os->w.tape=W.tape->w.output=W.output ->
   ∃cur',w.heap[W.heap.size]?=some (.cells cur' 61 (0,0))/\cur'.size=G*3/\cur'.toList.take ((n+m)*3)=cur.toList.take (i*3)++ds++(cur.toList.take (n*3)).drop (i*3)/\W.grownBy w none:=by
  intro w hw h1 h2 h3;refine⟨r2,by rw[hw];exact setRow_heap _ _ r1 r2 61 (0,0) (setRow_heap _ _ ROW r1 61 (0,0) (hN _ rfl)),hr2s,?_,uH (W:=W) (o:=.cells ROW 61) (r1:=r1) (r2:=r2) hw h1 h2 h3 none⟩;have:=arx (L:=L) (ds:=ds) (Z:=(Builtin.zeroCells (Value.agg #[.int .i64 0,.string (ByteArray.mk #[]),.slice none 0 0]).cells (n+m-i)).toList) (Z':=(Builtin.zeroCells (Value.agg #[.int .i64 0,.string (ByteArray.mk #[]),.slice none 0 0]).cells (G-(n+m))).toList) (a:=i*3) (b:=n*3) (d:=m*3) (by omega) (by rw[hLl];omega) hdl
   (by rw[Array.length_toList,size_zeroCells,show(Value.agg #[.int .i64 0,.string (ByteArray.mk #[]),.slice none 0 0]).cells.size=3 from rfl];omega)
  rw[<-htail]at this;rw[<-hL,<-htail,hr2,hr1,hROW,htl,hdl,show(i+m)*3=i*3+m*3 by omega,show(n+m)*3=n*3+m*3 by omega,show(n-i)*3=n*3-i*3 by omega];simpa only[Array.toList_append]using this
 have hGi:¬(G=i):=by omega
 have hGim:¬(G=i+m):=by omega
 have hci:¬(c=i):=by omega
 have hw1:IntKind.i64.wrap ((i:Int)+(m:Int))=(i:Int)+(m:Int):=by rw[IntKind.wrap_i64];omega
 have hb1:(0:Int)<=(i:Int)+(m:Int):=by omega
 have hin:i<=n:=by omega
 have htn:((i:Int)+(m:Int)).toNat=i+m:=by omega
 have hb3:(i:Int)<=(n:Int):=by omega
 clear hkk hik hold hROW hG hRs hr1 hr2 hr1s hr2s htail htl hcell hN hold' hL hLl h1 h1c hds hdl;have hE:((W.alloc (.cells ROW 61)).drew).heap=(W.drew.alloc (.cells ROW 61)).heap:=rfl;have hF:(((W.alloc (.cells ROW 61)).drew.setRow W.heap.size r1).drew).heap=((W.drew.alloc (.cells ROW 61)).setRow W.heap.size r1).heap:=rfl
 go_enter Tryz.func232,Tryz.ntmps232
 go_wp2_with (first
  |(at_builtin;refine Lib.wpList_append_run _ rfl _ _ _ _ rfl _ _ rfl rfl _ _ (hrz _) ?_)
  |(at_builtin;refine wpList_copy_runI _ rfl _ _ 45 45 rfl _ _ rfl rfl (hcpA _ hE _ _) ?_))
 go_region_law_o (refine step_copy_runI rfl _ _ 45 45 rfl (.slice (some ⟨W.heap.size,(i+m)*3,none⟩) (n+m-(i+m)) (G-(i+m))) (.slice (some ⟨g,i*3,none⟩) (n-i) (c-i)) (by simp[Act.eval,Act.put]) (by simp[Act.eval,Act.put]) (hcpB _ hF 3 (G-(i+m)) (c-i)) ?_)
 go_wp2
 go_ret
 exact⟨G,rfl,hGn,hG63,fin _ rfl rfl rfl rfl⟩
theorem SA (W:World):apn Tryz.prog 232 61 (Ty.pair (.int .i64) (.pair .str (.sl 3 (.int .i64)))) W:=by
 intro s v n m i cs ds hs hv hap hm hi hnm h1c h1d;have hk:(Ty.pair (.int .i64) (.pair .str (.sl 3 (.int .i64))):Ty).n=3:=rfl;rw[hk]at hs hv ⊢;have hds:=fun g hg=>hv.cells (g:=g) hg
 obtain⟨hdl,⟨rfl,rfl⟩|⟨vb,vc,vcur,rfl,_,hvh,hvn,hvm,hvs,hvt⟩⟩:=hv
 .omega
 have hds:=hds vb rfl;have hvb:=hap;have hvw:vb<W.heap.size:=(Array.getElem?_eq_some_iff.1 hvh).1;by_cases hin:i=n
 .subst hin;refine(arA W s i m vc vb cs ds hs (by omega) hds h1d hm hnm).mono fun e' w' h=>?_
  obtain⟨v',rfl,h1,h2,h3⟩:=h;refine⟨v',rfl,?_,h2,h3.imp_right fun h g hg=>?_⟩
  .rw[<-hs.1,List.take_length,List.drop_length,List.append_nil];exact h1
  .rw[h]at hg;cases hg;exact Nat.le_refl _
 .obtain⟨hcl,⟨rfl,rfl⟩|⟨g,c,cur,rfl,_,hgh,hnc,hcm,hcs,hct⟩⟩:=hs
  .omega
  have hmax:maxLen=9223372036854775807:=rfl;have hne:vb≠g:=fun e=>hap g rfl (by rw[e];rfl)
  have h1c':∀u∈cur.toList.take (n*3),u.oneCell'=true:=by rw[hct];exact h1c
  have h5:cur.toList.take (i*3)=cs.take (i*3):=by rw[<-hct,List.take_take,Nat.min_eq_left (by omega)]
  by_cases hroom:n+m<=c
  .refine(anX W g n c i vb m vc cur ds hgh hcs (by omega) h1c' (by omega) hdl hds h1d hm hroom hne 61 vcur.size (by simp[World.shape?,hvh]) (by simp[World.frozen?,hvh]) (by simp[World.frozen?,hvh])).mono fun e' w' h=>?_
   obtain⟨rfl,cur',h1,h2,h3,h4⟩:=h;rw[hct,h5]at h3;refine⟨_,rfl,⟨?_,.inr ⟨g,c,cur',rfl,Nat.zero_le _,h1,hroom,hcm,h2,h3⟩⟩,h4,.inl rfl⟩;rw[<-h3,List.length_take,Array.length_toList,h2];omega
  .refine(anY W g n c i vb m vc cur ds hgh hcs hnc h1c' (by omega) hdl hds hvw h1d hm (by omega) hnm).mono fun e' w' h=>?_
   obtain⟨G,rfl,hG1,hG2,cur',h1,h2,h3,h4⟩:=h;rw[hct,h5]at h3;refine⟨_,rfl,⟨?_,.inr ⟨W.heap.size,G,cur',rfl,Nat.zero_le _,h1,hG1,by omega,h2,h3⟩⟩,⟨h4.os,h4.tape,h4.output,h4.size,fun k hk _=>h4.block k hk (by simp)⟩,.inr fun g' hg'=>?_⟩
   .rw[<-h3,List.length_take,Array.length_toList,h2];omega
   .cases hg';exact Nat.le_refl _
def we:Any:=.ins 61 (Ty.pair (.int .i64) (.pair .str (.sl 3 (.int .i64))))
theorem SB:rO Tryz.prog TB 232 we:=⟨⟨_,Tryz.func232,by kernel_rfl,by kernel_rfl⟩,fun W _=>SA W⟩
end Go.Am.Tryz
namespace Go.Am.Tryz
open Go.Am Go.Proofs Go.RowKit Go.Lib
theorem aws:∃i0,Tryz.prog.info? 63=some i0/\i0.zero=some (Value.agg #[.int .i64 0,.int .i64 0,.int .i64 0,.int .i64 0])/\i0.size=4/\i0.bytes=32:=info_parts (by kernel_rfl)
set_option maxHeartbeats 4000000 in
set_option maxRecDepth 100000 in
theorem awt (W:World)(s:Value)(n m c vb:Nat)(cs ds:List Value)(hs:W.ownsRow 0 63 4 s n cs)(hdl:ds.length=m*4)(hds:∀j u,ds[j]?=some u->W.cell? ((⟨vb,0,none⟩:Addr).add j)=some u)(h1:∀u∈ds,u.oneCell'=true)(hm:1<=m)(hnm:n+m<=1073741824) :
  Calls Tryz.prog 268 #[s,.int .i64 n,.slice (some ⟨vb,0,none⟩) m c] W fun e' w'=>∃v',e'=.returned v'/\w'.ownsRow 0 63 4 v' (n+m) (cs++ds)/\W.grownBy w' s.ownBlock/\(v'.ownBlock=s.ownBlock\/v'.ownBlock=some W.heap.size):=by
 obtain⟨i0,hi0,hz0,hzs,hzb⟩:=aws;have hu:Tryz.prog.underlying 44=some (.slice 63):=Tryz.underlying44;have hmax:maxLen=9223372036854775807:=rfl;obtain⟨v',w',hrun,hown',hg,_,hat⟩:=run_append_own_at (P:=Tryz.prog) W 0 44 44 63 i0 (Value.agg #[.int .i64 0,.int .i64 0,.int .i64 0,.int .i64 0]) 4 32 hu hi0 hz0 hzs hzb rfl (by omega) s n cs hs ⟨vb,0,none⟩ m c ds (by omega) hds h1 (by omega) (by omega) (Nat.zero_le _);have hz1:¬((m:Int)=0):=by omega
 have hn0:=hs.2;rcases hn0 with ⟨rfl,rfl⟩|⟨g,cap,cur,rfl,_,_,hnc,_⟩
 .go_enter Tryz.func268,Tryz.ntmps268
  go_wp2_with (at_builtin;refine Lib.wpList_append_run _ rfl _ _ _ _ rfl _ _ rfl rfl _ _ hrun ?_)
  go_ret
  exact⟨v',rfl,by simpa using hown',hg,hat⟩
 .have hc63:cap<=9223372036854775807:=by omega
  go_enter Tryz.func268,Tryz.ntmps268
  go_wp2_with (at_builtin;refine Lib.wpList_append_run _ rfl _ _ _ _ rfl _ _ rfl rfl _ _ hrun ?_)
  all_goals (go_ret;exact⟨v',rfl,hown',hg,hat⟩)
set_option maxHeartbeats 4000000 in
set_option maxRecDepth 100000 in
theorem atT (W:World)(g n c i vb m vc:Nat)(cur:Array Value)(ds:List Value)(hg:W.heap[g]?=some (.cells cur 63 (0,0)))(hc:cur.size=c*4)(hcm:c<=9223372036854775807)(h1c:∀v∈cur.toList.take (n*4),v.oneCell'=true)
  (hi:i<n) (hdl:ds.length=m*4) (hds:∀j u,ds[j]?=some u->W.cell? ((⟨vb,0,none⟩:Addr).add j)=some u) (h1:∀u∈ds,u.oneCell'=true) (hm:1<=m) (hroom:n+m<=c) (hvb:vb≠g)
  (tA:TypeId) (kA:Nat) (hsa:W.shape? vb=some (tA,kA)) (hfa:W.frozen? ⟨vb,0,none⟩=false) (hfe:W.frozen? ⟨vb,kA,none⟩=false) :
  Calls Tryz.prog 268 #[.slice (some ⟨g,0,none⟩) n c,.int .i64 i,.slice (some ⟨vb,0,none⟩) m vc] W fun e' w'=>e'=.returned (.slice (some ⟨g,0,none⟩) (n+m) c) /\
   ∃cur',w'.heap[g]?=some (.cells cur' 63 (0,0))/\cur'.size=c*4/\cur'.toList.take ((n+m)*4)=cur.toList.take (i*4)++ds++(cur.toList.take (n*4)).drop (i*4)/\W.grownBy w' (some g):=by
 obtain⟨i0,hi0,hz0,hzs,hzb⟩:=aws;have hu:Tryz.prog.underlying 44=some (.slice 63):=Tryz.underlying44;have hsz:(Tryz.prog.info? 63).map (·.size)=some 4:=by rw[hi0];simp[hzs]
 have hz1:¬((m:Int)=0):=by omega
 have hz2:¬((i:Int)=(n:Int)):=by omega
 have hw1:IntKind.i64.wrap ((i:Int)+(m:Int))=(i:Int)+(m:Int):=by rw[IntKind.wrap_i64];omega
 have hb1:(0:Int)<=(i:Int)+(m:Int):=by omega
 have hin:i<=n:=by omega
 have htn:((i:Int)+(m:Int)).toNat=i+m:=by omega
 have hb2:¬(c=i+m):=by omega
 have hb3:(i:Int)<=(n:Int)+(m:Int):=by omega
 have hb4:¬(c=i):=by omega
 have hov:∀(w:World) lb cb,w.heap=W.heap->(callFunc 309 #[.slice (some ⟨vb,0,none⟩) m vc,.slice (some ⟨g,(i+m)*4,none⟩) lb cb]).run Tryz.prog w=.ok (.value (.bool false)) w:=fun w lb cb hw=>by
  rw[run_callFunc_extern Tryz.func309 (by kernel_rfl) (by kernel_rfl) (by kernel_rfl) (e:=Extern.SlicesOverlaps.overlaps #[44,44] #[4]) (by kernel_rfl),
   Lib.run_overlaps_apart w 44 4 63 hu 4 (fun w=>by simp[sizeOf,typeInfo,hi0,hzs]) ⟨vb,0,none⟩ ⟨g,(i+m)*4,none⟩ m vc lb cb hvb tA 63 kA cur.size (by rw[World.shape?,hw];exact hsa) (by simp[World.shape?,hw,hg]) (by omega) (by rw[World.frozen?,hw];exact hfa) (by rw[World.frozen?,hw];exact hfe)]
  rfl
 obtain⟨tail,htail⟩:∃tail,tail=(cur.toList.take (n*4)).drop (i*4):=⟨_,rfl⟩;have htl:tail.length=(n-i)*4:=by rw[htail,List.length_drop,List.length_take,Array.length_toList,hc];omega
 have hcur:∀(w:World),w.heap=W.heap->∀j v,tail[j]?=some v->w.cell? ((⟨g,i*4,none⟩:Addr).add j)=some v:=fun w hw j v hj=>by
  rw[htail,List.getElem?_drop,List.getElem?_take]at hj;split at hj
  .rw[Addr.add_lit,cell_of_row w g _ cur 63 (0,0) (by rw[hw];exact hg)];simpa using hj
  .cases hj
 have hcp1:∀ty dc sc,(Builtin.copy_ #[44,44] ty #[.slice (some ⟨g,(i+m)*4,none⟩) (n+m-(i+m)) dc,.slice (some ⟨g,i*4,none⟩) (n+m-i) sc]).run Tryz.prog W.drew=_:=fun ty dc sc =>
  dL W.drew 44 44 ty 63 4 g ((i+m)*4) (n+m-(i+m)) dc ⟨g,i*4,none⟩ (n+m-i) sc cur 63 tail hu hsz hg (by rw[htl];simp only[Nat.min_def];split<;>omega) (hcur _ rfl) (by rw[htl,hc];omega) (fun v hv=>h1c v (List.mem_of_mem_drop (htail▸hv)))
 obtain⟨c1,hc1⟩:∃c1,c1=(cur.toList.take ((i+m)*4)++tail++cur.toList.drop ((i+m)*4+tail.length)).toArray:=⟨_,rfl⟩;rw[<-hc1]at hcp1;have hc1s:c1.size=c*4:=by rw[hc1];simp[htl,hc];omega
 have hW1:(W.drew.setRow g c1).heap[g]?=some (.cells c1 63 (0,0)):=setRow_heap W.drew g cur c1 63 (0,0) hg;have hds1:∀j u,ds[j]?=some u->(W.drew.setRow g c1).cell? ((⟨vb,0,none⟩:Addr).add j)=some u:=fun j u hj=>by have h2:=hds j u hj;rw[Addr.add_lit]at h2 ⊢;rw[World.cell?_of_block (w:=W) (a:=⟨vb,0+j,none⟩) (by exact setRow_other W.drew g vb c1 hvb)];exact h2
 have hcp2:∀ty dc,(Builtin.copy_ #[44,44] ty #[.slice (some ⟨g,i*4,none⟩) (n+m-i) dc,.slice (some ⟨vb,0,none⟩) m vc]).run Tryz.prog (W.drew.setRow g c1)=_:=fun ty dc =>
  dL (W.drew.setRow g c1) 44 44 ty 63 4 g (i*4) (n+m-i) dc ⟨vb,0,none⟩ m vc c1 63 ds hu hsz hW1 (by rw[hdl];simp only[Nat.min_def];split<;>omega) hds1 (by rw[hdl,hc1s];omega) h1
 obtain⟨c2,hc2⟩:∃c2,c2=(c1.toList.take (i*4)++ds++c1.toList.drop (i*4+ds.length)).toArray:=⟨_,rfl⟩;rw[<-hc2]at hcp2;have fin:∃cur',((W.drew.setRow g c1).setRow g c2).heap[g]?=some (.cells cur' 63 (0,0))/\cur'.size=c*4/\cur'.toList.take ((n+m)*4)=cur.toList.take (i*4)++ds++(cur.toList.take (n*4)).drop (i*4)/\W.grownBy ((W.drew.setRow g c1).setRow g c2) (some g):=by
  refine⟨c2,setRow_heap _ g c1 c2 63 (0,0) hW1,by rw[hc2,List.size_toArray,List.length_append,List.length_append,List.length_take,List.length_drop,Array.length_toList,hc1s,hdl];omega,?_,⟨rfl,rfl,rfl,by rw[setRow_size,setRow_size];exact Nat.le_refl W.heap.size,fun k hk hne=>?_⟩⟩
  .have:=awq (L:=cur.toList) (ds:=ds) (a:=i*4) (b:=n*4) (d:=m*4) (by omega) (by rw[Array.length_toList,hc];omega) hdl;rw[<-htail]at this ⊢;rw[hc2,hc1,htl,hdl,show(i+m)*4=i*4+m*4 by omega,show(n+m)*4=n*4+m*4 by omega,show(n-i)*4=n*4-i*4 by omega];exact this
  .have hne':k≠g:=fun e=>hne (by rw[e])
   rw[setRow_other _ g k c2 hne',setRow_other _ g k c1 hne'];rfl
 clear hcur hds1 hds hW1 htail htl hc1 hc2 hc1s h1c h1 hdl
 go_enter Tryz.func268,Tryz.ntmps268
 have hov':∀lb cb,(callFunc 309 #[.slice (some ⟨vb,0,none⟩) m vc,.slice (some ⟨g,(i+m)*4,none⟩) lb cb]).run Tryz.prog W=.ok (.value (.bool false)) W:=fun lb cb=>hov W lb cb rfl
 clear hov;have mixed:Tryz.prog.follows .mixedOrders=true:=by kernel_rfl
 go_wp2_with (simp only[hov'])
 go_region_law_o (refine step_copy_runI rfl _ _ 44 44 rfl _ _ (by simp[Act.eval,Act.put]) (by simp[Act.eval,Act.put]) (hcp1 _ _ _) ?_)
 go_wp2_with (at_builtin;refine wpList_copy_runI _ rfl _ _ 44 44 rfl _ _ rfl rfl (hcp2 _ _) ?_)
 go_ret
 exact⟨rfl,fin⟩
set_option maxHeartbeats 4000000 in
set_option maxRecDepth 100000 in
theorem atU (W:World)(g n c i vb m vc:Nat)(cur:Array Value)(ds:List Value)(hg:W.heap[g]?=some (.cells cur 63 (0,0)))(hc:cur.size=c*4)(hnc:n<=c)(h1c:∀v∈cur.toList.take (n*4),v.oneCell'=true)
  (hi:i<n) (hdl:ds.length=m*4) (hds:∀j u,ds[j]?=some u->W.cell? ((⟨vb,0,none⟩:Addr).add j)=some u) (hvw:vb<W.heap.size) (h1:∀u∈ds,u.oneCell'=true) (hm:1<=m) (hroom:c<n+m) (hnm:n+m<=1073741824) :
  Calls Tryz.prog 268 #[.slice (some ⟨g,0,none⟩) n c,.int .i64 i,.slice (some ⟨vb,0,none⟩) m vc] W fun e' w'=>∃G,e'=.returned (.slice (some ⟨W.heap.size,0,none⟩) (n+m) G)/\n+m<=G/\G<=9223372036854775807 /\
   ∃cur',w'.heap[W.heap.size]?=some (.cells cur' 63 (0,0))/\cur'.size=G*4/\cur'.toList.take ((n+m)*4)=cur.toList.take (i*4)++ds++(cur.toList.take (n*4)).drop (i*4)/\W.grownBy w' none:=by
 obtain⟨i0,hi0,hz0,hzs,hzb⟩:=aws;have hu:Tryz.prog.underlying 44=some (.slice 63):=Tryz.underlying44;have hu3:Tryz.prog.underlying 3=some (.int .i64):=Tryz.underlying3;have mixed:Tryz.prog.follows .mixedOrders=true:=by kernel_rfl
 have hsz:(Tryz.prog.info? 63).map (·.size)=some 4:=by rw[hi0];simp[hzs]
 have hz1:¬((m:Int)=0):=by omega
 have hz2:¬((i:Int)=(n:Int)):=by omega
 have hz3:(c:Int)<(n:Int)+(m:Int):=by omega
 have hbw:g<W.heap.size:=(Array.getElem?_eq_some_iff.1 hg).1;have hkk:(n:Int)+(m:Int)-(i:Int)=((n+m-i:Nat):Int):=by omega
 have hik:i+(n+m-i)=n+m:=by omega
 obtain⟨L,hL⟩:∃L,L=cur.toList:=⟨_,rfl⟩;have hLl:L.length=c*4:=by rw[hL,Array.length_toList,hc]
 have hcell:∀(w:World),w.heap[g]?=W.heap[g]?->∀(o j:Nat) v,(L.drop o)[j]?=some v->w.cell? ((⟨g,o,none⟩:Addr).add j)=some v:=fun w hw o j v hj=>by rw[List.getElem?_drop,hL]at hj;rw[Addr.add_lit,cell_of_row w g _ cur 63 (0,0) (by rw[hw];exact hg)];simpa using hj
 have hold:(Builtin.firstCells i0.size i (.slice (some ⟨g,0,none⟩) i c)).run Tryz.prog W.drew=.ok (L.take (i*4)).toArray W.drew:=by
  rw[hzs];exact run_firstCells_some W.drew 4 i ⟨g,0,none⟩ i c (L.take (i*4)) (by rw[List.length_take,hLl,Nat.min_eq_left (by omega)]) (fun j v hj=>by
   rw[List.getElem?_take]at hj;split at hj
   .exact hcell W.drew rfl 0 j v (by rw[List.drop_zero];exact hj)
   .cases hj)
 obtain⟨G,hG⟩:∃G,G=grownCap W (n+m) c 63:=⟨_,rfl⟩;obtain⟨ROW,hROW⟩:∃ROW:Array Value,ROW=(L.take (i*4)).toArray++Builtin.zeroCells (Value.agg #[.int .i64 0,.int .i64 0,.int .i64 0,.int .i64 0]).cells (n+m-i)++Builtin.zeroCells (Value.agg #[.int .i64 0,.int .i64 0,.int .i64 0,.int .i64 0]).cells (G-(n+m)):=⟨_,rfl⟩;have hrz:∀ty,(Builtin.append_ #[44,3] ty #[.slice (some ⟨g,0,none⟩) i c,.int .i64 ((n:Int)+(m:Int)-(i:Int))]).run Tryz.prog W=.ok (.slice (some ⟨W.heap.size,0,none⟩) (n+m) G) (W.drew.alloc (.cells ROW 63)):=fun ty=>by have h:=Lib.run_append_grow_zeros W 44 3 ty 63 i0 _ .i64 .i64 hu hu3 hi0 hz0 (some ⟨g,0,none⟩) i c (L.take (i*4)).toArray.toList (by rw[Array.toArray_toList];exact hold) (n+m-i) (by omega) (by omega) (by omega) (by omega) (by rw[hzb];omega) (by rw[hzb,hik];exact growslice_fits hroom (by omega));rw[hik,Array.toArray_toList]at h;rw[hkk,hROW,hG];exact h
 have hGn:n+m<=G:=by rw[hG];exact grownCap_ge W _ _ _
 have hG63:G<=9223372036854775807:=by have:=grownCap_le_maxLen W (n+m) c 63 (by unfold maxLen;omega);rw[<-hG]at this;unfold maxLen at this;omega
 have hRs:ROW.size=G*4:=by rw[hROW,Array.size_append,Array.size_append,size_zeroCells,size_zeroCells,List.size_toArray,List.length_take,hLl,show(Value.agg #[.int .i64 0,.int .i64 0,.int .i64 0,.int .i64 0]).cells.size=4 from rfl];omega
 obtain⟨r1,hr1⟩:∃r1,r1=(ROW.toList.take (i*4)++ds++ROW.toList.drop (i*4+ds.length)).toArray:=⟨_,rfl⟩;obtain⟨tail,htail⟩:∃tail,tail=(L.take (n*4)).drop (i*4):=⟨_,rfl⟩;have htl:tail.length=(n-i)*4:=by rw[htail,List.length_drop,List.length_take,hLl];omega
 obtain⟨r2,hr2⟩:∃r2,r2=(r1.toList.take ((i+m)*4)++tail++r1.toList.drop ((i+m)*4+tail.length)).toArray:=⟨_,rfl⟩;have hr1s:r1.size=G*4:=by rw[hr1,List.size_toArray,List.length_append,List.length_append,List.length_take,List.length_drop,Array.length_toList,hRs,hdl];omega
 have hr2s:r2.size=G*4:=by rw[hr2,List.size_toArray,List.length_append,List.length_append,List.length_take,List.length_drop,Array.length_toList,hr1s,htl];omega
 have hN:∀(w:World),w.heap=(W.drew.alloc (.cells ROW 63)).heap->w.heap[W.heap.size]?=some (.cells ROW 63 (0,0)):=fun w hw=>by rw[hw];exact heap_alloc_new W.drew _
 have hold':∀(w:World),w.heap=(W.drew.alloc (.cells ROW 63)).heap->∀k,k<W.heap.size->w.heap[k]?=W.heap[k]?:=fun w hw k hk=>by rw[hw];exact Below.heap_alloc _ _ _ hk
 have hcpA:∀(w:World),w.heap=(W.drew.alloc (.cells ROW 63)).heap->∀ty dc,(Builtin.copy_ #[44,44] ty #[.slice (some ⟨W.heap.size,i*4,none⟩) (n+m-i) dc,.slice (some ⟨vb,0,none⟩) m vc]).run Tryz.prog w=.ok (goInt (Nat.min m (n+m-i))) (w.setRow W.heap.size r1):=fun w hw ty dc=>by rw[hr1];refine dL w 44 44 ty 63 4 W.heap.size (i*4) (n+m-i) dc ⟨vb,0,none⟩ m vc ROW 63 ds hu hsz (hN w hw) (by rw[hdl];simp only[Nat.min_def];split<;>omega) (fun j u hj=>?_) (by rw[hdl,hRs];omega) h1;have h2:=hds j u hj;rw[Addr.add_lit]at h2 ⊢;rw[World.cell?_of_block (w:=W) (a:=⟨vb,0+j,none⟩) (hold' w hw vb hvw)];exact h2
 have hcpB:∀(w:World),w.heap=((W.drew.alloc (.cells ROW 63)).setRow W.heap.size r1).heap->∀ty dc sc,(Builtin.copy_ #[44,44] ty #[.slice (some ⟨W.heap.size,(i+m)*4,none⟩) (n+m-(i+m)) dc,.slice (some ⟨g,i*4,none⟩) (n-i) sc]).run Tryz.prog w=.ok (goInt (Nat.min (n-i) (n+m-(i+m)))) (w.setRow W.heap.size r2):=fun w hw ty dc sc=>by
  rw[hr2];refine dL w 44 44 ty 63 4 W.heap.size ((i+m)*4) (n+m-(i+m)) dc ⟨g,i*4,none⟩ (n-i) sc r1 63 tail hu hsz (by rw[hw];exact setRow_heap _ _ ROW r1 63 (0,0) (hN _ rfl)) (by rw[htl];simp only[Nat.min_def];split<;>omega) (fun j u hj=>?_) (by rw[htl,hr1s];omega) (fun v hv=>h1c v (by rw[htail,hL]at hv;exact List.mem_of_mem_drop hv));rw[htail,List.drop_take,List.getElem?_take]at hj;split at hj
  .exact hcell w (by rw[hw,setRow_other _ _ g _ (by omega)];exact hold' _ rfl g hbw) (i*4) j u hj
  .cases hj
 have fin:∀(w:World),w.heap=(((W.drew.alloc (.cells ROW 63)).setRow W.heap.size r1).setRow W.heap.size r2).heap->w.os=W.os->w.tape=W.tape->w.output=W.output ->
   ∃cur',w.heap[W.heap.size]?=some (.cells cur' 63 (0,0))/\cur'.size=G*4/\cur'.toList.take ((n+m)*4)=cur.toList.take (i*4)++ds++(cur.toList.take (n*4)).drop (i*4)/\W.grownBy w none:=by
  intro w hw h1 h2 h3;refine⟨r2,by rw[hw];exact setRow_heap _ _ r1 r2 63 (0,0) (setRow_heap _ _ ROW r1 63 (0,0) (hN _ rfl)),hr2s,?_,uH (W:=W) (o:=.cells ROW 63) (r1:=r1) (r2:=r2) hw h1 h2 h3 none⟩;have:=arx (L:=L) (ds:=ds) (Z:=(Builtin.zeroCells (Value.agg #[.int .i64 0,.int .i64 0,.int .i64 0,.int .i64 0]).cells (n+m-i)).toList) (Z':=(Builtin.zeroCells (Value.agg #[.int .i64 0,.int .i64 0,.int .i64 0,.int .i64 0]).cells (G-(n+m))).toList) (a:=i*4) (b:=n*4) (d:=m*4) (by omega) (by rw[hLl];omega) hdl
   (by rw[Array.length_toList,size_zeroCells,show(Value.agg #[.int .i64 0,.int .i64 0,.int .i64 0,.int .i64 0]).cells.size=4 from rfl];omega)
  rw[<-htail]at this;rw[<-hL,<-htail,hr2,hr1,hROW,htl,hdl,show(i+m)*4=i*4+m*4 by omega,show(n+m)*4=n*4+m*4 by omega,show(n-i)*4=n*4-i*4 by omega];simpa only[Array.toList_append]using this
 have hGi:¬(G=i):=by omega
 have hGim:¬(G=i+m):=by omega
 have hci:¬(c=i):=by omega
 have hw1:IntKind.i64.wrap ((i:Int)+(m:Int))=(i:Int)+(m:Int):=by rw[IntKind.wrap_i64];omega
 have hb1:(0:Int)<=(i:Int)+(m:Int):=by omega
 have hin:i<=n:=by omega
 have htn:((i:Int)+(m:Int)).toNat=i+m:=by omega
 have hb3:(i:Int)<=(n:Int):=by omega
 clear hkk hik hold hROW hG hRs hr1 hr2 hr1s hr2s htail htl hcell hN hold' hL hLl h1 h1c hds hdl;have hE:((W.alloc (.cells ROW 63)).drew).heap=(W.drew.alloc (.cells ROW 63)).heap:=rfl;have hF:(((W.alloc (.cells ROW 63)).drew.setRow W.heap.size r1).drew).heap=((W.drew.alloc (.cells ROW 63)).setRow W.heap.size r1).heap:=rfl
 go_enter Tryz.func268,Tryz.ntmps268
 go_wp2_with (first
  |(at_builtin;refine Lib.wpList_append_run _ rfl _ _ _ _ rfl _ _ rfl rfl _ _ (hrz _) ?_)
  |(at_builtin;refine wpList_copy_runI _ rfl _ _ 44 44 rfl _ _ rfl rfl (hcpA _ hE _ _) ?_))
 go_region_law_o (refine step_copy_runI rfl _ _ 44 44 rfl (.slice (some ⟨W.heap.size,(i+m)*4,none⟩) (n+m-(i+m)) (G-(i+m))) (.slice (some ⟨g,i*4,none⟩) (n-i) (c-i)) (by simp[Act.eval,Act.put]) (by simp[Act.eval,Act.put]) (hcpB _ hF 3 (G-(i+m)) (c-i)) ?_)
 go_wp2
 go_ret
 exact⟨G,rfl,hGn,hG63,fin _ rfl rfl rfl rfl⟩
theorem Wq (W:World):apn Tryz.prog 268 63 (Ty.pair (.int .i64) (.pair (.int .i64) (.pair (.int .i64) (.int .i64)))) W:=by
 intro s v n m i cs ds hs hv hap hm hi hnm h1c h1d;have hk:(Ty.pair (.int .i64) (.pair (.int .i64) (.pair (.int .i64) (.int .i64))):Ty).n=4:=rfl;rw[hk]at hs hv ⊢;have hds:=fun g hg=>hv.cells (g:=g) hg
 obtain⟨hdl,⟨rfl,rfl⟩|⟨vb,vc,vcur,rfl,_,hvh,hvn,hvm,hvs,hvt⟩⟩:=hv
 .omega
 have hds:=hds vb rfl;have hvb:=hap;have hvw:vb<W.heap.size:=(Array.getElem?_eq_some_iff.1 hvh).1;by_cases hin:i=n
 .subst hin;refine(awt W s i m vc vb cs ds hs (by omega) hds h1d hm hnm).mono fun e' w' h=>?_
  obtain⟨v',rfl,h1,h2,h3⟩:=h;refine⟨v',rfl,?_,h2,h3.imp_right fun h g hg=>?_⟩
  .rw[<-hs.1,List.take_length,List.drop_length,List.append_nil];exact h1
  .rw[h]at hg;cases hg;exact Nat.le_refl _
 .obtain⟨hcl,⟨rfl,rfl⟩|⟨g,c,cur,rfl,_,hgh,hnc,hcm,hcs,hct⟩⟩:=hs
  .omega
  have hmax:maxLen=9223372036854775807:=rfl;have hne:vb≠g:=fun e=>hap g rfl (by rw[e];rfl)
  have h1c':∀u∈cur.toList.take (n*4),u.oneCell'=true:=by rw[hct];exact h1c
  have h5:cur.toList.take (i*4)=cs.take (i*4):=by rw[<-hct,List.take_take,Nat.min_eq_left (by omega)]
  by_cases hroom:n+m<=c
  .refine(atT W g n c i vb m vc cur ds hgh hcs (by omega) h1c' (by omega) hdl hds h1d hm hroom hne 63 vcur.size (by simp[World.shape?,hvh]) (by simp[World.frozen?,hvh]) (by simp[World.frozen?,hvh])).mono fun e' w' h=>?_
   obtain⟨rfl,cur',h1,h2,h3,h4⟩:=h;rw[hct,h5]at h3;refine⟨_,rfl,⟨?_,.inr ⟨g,c,cur',rfl,Nat.zero_le _,h1,hroom,hcm,h2,h3⟩⟩,h4,.inl rfl⟩;rw[<-h3,List.length_take,Array.length_toList,h2];omega
  .refine(atU W g n c i vb m vc cur ds hgh hcs hnc h1c' (by omega) hdl hds hvw h1d hm (by omega) hnm).mono fun e' w' h=>?_
   obtain⟨G,rfl,hG1,hG2,cur',h1,h2,h3,h4⟩:=h;rw[hct,h5]at h3;refine⟨_,rfl,⟨?_,.inr ⟨W.heap.size,G,cur',rfl,Nat.zero_le _,h1,hG1,by omega,h2,h3⟩⟩,⟨h4.os,h4.tape,h4.output,h4.size,fun k hk _=>h4.block k hk (by simp)⟩,.inr fun g' hg'=>?_⟩
   .rw[<-h3,List.length_take,Array.length_toList,h2];omega
   .cases hg';exact Nat.le_refl _
def Dn:Any:=.ins 63 (Ty.pair (.int .i64) (.pair (.int .i64) (.pair (.int .i64) (.int .i64))))
theorem Wr:rO Tryz.prog TB 268 Dn:=⟨⟨_,Tryz.func268,by kernel_rfl,by kernel_rfl⟩,fun W _=>Wq W⟩
end Go.Am.Tryz
