/- No condition. -/
import Derived.Test.YtfapcfpkbahneaaGreatDoorQpAmFrz
import Derived.Deep.LoopGhost
import Derived.Tactics
set_option linter.all false
namespace Go.Am
open Go.RowKit
def aFm (k:IntKind):aAZ k k=true:=by cases k<;>rfl
def Ty.beq_refl:∀(t:Ty),t.beq t=true
 |.int k=>aFm k|.bool|.str|.unit=>rfl|.pair a b=>by show(a.beq a&&b.beq b)=true;rw[Ty.beq_refl a,Ty.beq_refl b];rfl
 |.sl e t=>by show(Nat.beq e e&&t.beq t)=true;rw[Ty.beq_refl t,Bool.and_true];simp
section
variable {P:Program} {w0:fR} {w:World} {G:Gh} {st:St} {a:Act}
def Inv.aHA (h:Inv w0 G st a w)(t:Tmp){v:AV}(hv:kf G w st.bx st.bl v (a.tmps.getD t undef)):Inv w0 G (st.put t v) a w:=by
 refine {h with tm:=fun s x hs=>?_};simp only[St.put,aw]at hs;by_cases ht:t=s
 .subst ht;simp only[iA]at hs;cases hs;exact hv
 .simp only[ht,hZ]at hs;exact h.tm s x hs
def Inv.aHB (h:Inv w0 G st a w)(id:Nat)(hid:look st.bl id=none)(e:TypeId)(u:Ty)(hu:0<u.n) :
  ∃G',Inv w0 G' {st with bl:=(id,some ⟨e,u,[],true,true⟩)::st.bl} a w/\X1 G w G' w/\la G st.bx st.bl G' st.bx ((id,some ⟨e,u,[],true,true⟩)::st.bl)/\G'.hv id=.slice none 0 0:=by
 have hg:w.grownBy w none:=⟨rfl,rfl,rfl,bZ _,fun _ _ _=>rfl⟩;have hhv:(G.grow none [(id,some ⟨e,u,[],true,true⟩)] (fun _=>.slice none 0 0) (fun _=>none)).hv id=.slice none 0 0:=by simp[Gh.grow,aw]
 obtain⟨h1,h2,h3⟩:=h.grow none hg (fun g hg=>by cases hg) [(id,some ⟨e,u,[],true,true⟩)] (fun _=>.slice none 0 0) (fun _=>none)
  (fun i hi=>by
   rw[aw]at hi;by_cases hii:id=i
   .rw[<-hii];exact hid
   .simp[hii,look]at hi)
  (fun g i hn=>by cases hn)
  (fun i b hb=>by
   rw[aw]at hb;by_cases hii:id=i
   .subst hii;simp only[iA]at hb;cases hb;refine⟨fun _=>⟨[],?_,fun g hgo=>?_,fun j x hj=>by simp at hj⟩,(fun hw=>by simp at hw),hu⟩
    .rw[hhv];exact⟨by simp,.inl ⟨rfl,rfl⟩⟩
    .rw[hhv]at hgo;simp[Value.ownBlock]at hgo
   .simp[hii,look]at hb)
 exact⟨_,h1,h2,h3,hhv⟩
def avD (h:Inv w0 G st a w)(t:Tmp)(e:TypeId)(u:Ty):∃G',Inv w0 G' (au6 st t e u) a w:=by
 unfold au6;split
 .rename_i hv hid hu;obtain⟨G1,h1,_,_,hhv⟩:=h.aHB _ hid e u (by cases hn:u.n with|zero=>rw[hn]at hu;cases hu|succ n=>omega);have ada:a.tmps.getD t undef=.slice none 0 0:=by have:=h.ev (.tmp t);rw[show st.ev (.tmp t)=st.get t from rfl,hv]at this;exact this
  refine⟨G1,h1.aHA t ?_⟩;rw[ada];exact⟨by simp[aw],⟨none,0,0,hhv⟩,hhv.symm⟩
 .exact⟨G,h⟩
def arP (h:Inv w0 G st a w)(b j:Nat)(e:TypeId)(u:Ty):∃G',Inv w0 G' (amc st b j e u) a w:=by
 unfold amc;split
 .rename_i l hl hid hu;split
  .rename_i hj;obtain⟨G1,h1,hx1,hs1,hhv⟩:=h.aHB _ hid e u (by cases hn:u.n with|zero=>rw[hn]at hu;cases hu|succ n=>omega);have hs:=la.aBb G1 st.bx ((3000000+100*b+j,some ⟨e,u,[],true,true⟩)::st.bl) b (Od l j (.own (3000000+100*b+j) none));have hx:X1 G1 w G1 w:=⟨rfl,rfl,bZ _,fun _ _ ho=>⟨ho,rfl⟩,fun _ _ ho=>⟨ho,rfl⟩⟩;refine⟨G1,h1.nw,h1.rok,h1.below,h1.defers,h1.size,h1.sp.mono hx hs,h1.Fy hx,fun t v hv=>(h1.tm t v hv).mono hx hs,?_,fun id bk hb=>h1.bl id bk hb,?_⟩
   .intro d m hm;simp only[aw]at hm;by_cases hd:b=d
    .subst hd;simp only[iA]at hm;cases hm;obtain⟨cs,e',h2,h3,h4⟩:=h1.bx b l hl;refine⟨cs,e',h2,h3,?_⟩;have h5:=h4.imp fun _ _=>bS.mono hx hs
     obtain⟨y,hy,hr⟩:=h4.nth hj;have avE:cs.toList=cs.toList.set j y:=by obtain⟨hlt,he⟩:=xJ.1 hy;rw[<-he];exact(aAY hlt).symm
     rw[avE];refine h5.set j ?_;rw[show y=.slice none 0 0 from hr];exact⟨by simp[aw],⟨none,0,0,hhv⟩,hhv.symm⟩
    .simp only[hd,hZ]at hm;obtain⟨cs2,e2,h4,h5,h6⟩:=h1.bx d m hm;exact⟨cs2,e2,h4,h5,h6.imp fun _ _=>bS.mono hx hs⟩
   .intro g k hk;obtain⟨h2,h3,h4⟩:=h1.own g k hk;refine⟨h2,h3,?_⟩;cases k with
    |hid=>trivial|bx d=>exact⟨(hs.bx d h4.1).1,h4.2⟩|bl id=>exact h4
  .exact⟨G,h⟩
 .exact⟨G,h⟩
def ayn (h:Inv w0 G st a w)(t:Tmp):∃G',Inv w0 G' (aDc st t) a w:=by
 unfold aDc;split
 .rename_i id len hv;split
  .rename_i b hb;obtain⟨G1,h1,hx1,hs1⟩:=h.eF (.own id len);refine⟨G1,h1.aHA t ?_⟩;have hrel:=h.ev (.tmp t);rw[show st.ev (.tmp t)=st.get t from rfl,hv]at hrel;have ax8:bS G1 w (st.eF (.own id len)).bx (st.eF (.own id len)).bl (.own id len) (a.tmps.getD t undef):=bS.mono hx1 hs1 (c:=.own id len) hrel;have hlk:look (st.eF (.own id len)).bl id=some (some {b with w:=false}):=by rw[om hb];simp[aw]
   have hd:dm (st.eF (.own id len)) b.t (.own id len)=some (Js b.xs len):=by simp only[dm,St.rZ,hlk];rw[dif_pos (Ty.beq_refl b.t)];rfl
   refine kL h1 ax8 hd (fun id' aQs b' hc hl=>?_) (fun f e u ys hc=>by cases hc) b.e;cases hc;rw[hlk]at hl;have:=fJ (fJ hl);subst this;exact⟨fun g hg=>hg,fun hw=>by cases hw⟩
  .exact⟨G,h⟩
 .exact⟨G,h⟩
def Inv.aHC (h:Inv w0 G st a w){b j:Nat}{l:List AC}{c c':AC}(hl:look st.bx b=some l)(hj:og l j=some c)(hc:∀v,bS G w st.bx st.bl c v->bS G w st.bx st.bl c' v) :
  Inv w0 G {st with bx:=(b,Od l j c')::st.bx} a w:=by
 have hs:=la.aBb G st.bx st.bl b (Od l j c');have hx:X1 G w G w:=⟨rfl,rfl,bZ _,fun _ _ ho=>⟨ho,rfl⟩,fun _ _ ho=>⟨ho,rfl⟩⟩;refine⟨h.nw,h.rok,h.below,h.defers,h.size,h.sp.mono hx hs,h.Fy hx,fun t v hv=>(h.tm t v hv).mono hx hs,?_,fun id bk hb=>h.bl id bk hb,?_⟩
 .intro d m hm;simp only[aw]at hm;by_cases hd:b=d
  .subst hd;simp only[iA]at hm;cases hm;obtain⟨cs,e',h2,h3,h4⟩:=h.bx b l hl;refine⟨cs,e',h2,h3,?_⟩;have h5:=h4.imp fun _ _=>bS.mono hx hs
   obtain⟨y,hy,hr⟩:=h4.nth hj;have avE:cs.toList=cs.toList.set j y:=by obtain⟨hlt,he⟩:=xJ.1 hy;rw[<-he];exact(aAY hlt).symm
   rw[avE];exact h5.set j (bS.mono hx hs (hc y hr))
  .simp only[hd,hZ]at hm;obtain⟨cs2,e2,h4,h5,h6⟩:=h.bx d m hm;exact⟨cs2,e2,h4,h5,h6.imp fun _ _=>bS.mono hx hs⟩
 .intro g k hk;obtain⟨h2,h3,h4⟩:=h.own g k hk;refine⟨h2,h3,?_⟩;cases k with
  |hid=>trivial|bx d=>exact⟨(hs.bx d h4.1).1,h4.2⟩|bl id=>exact h4
def avF (h:Inv w0 G st a w)(b j:Nat):∃G',Inv w0 G' (au7 st b j) a w:=by
 unfold au7;split
 .rename_i l hl;split
  .rename_i id len hj;split
   .rename_i bk hb;obtain⟨G1,h1,hx1,hs1⟩:=h.eF (.own id len);have hl1:look (st.eF (.own id len)).bx b=some l:=by rw[om hb];exact hl
    refine⟨G1,h1.aHC hl1 hj fun v ax8=>?_⟩;have hlk:look (st.eF (.own id len)).bl id=some (some {bk with w:=false}):=by rw[om hb];simp[aw]
    have hd:dm (st.eF (.own id len)) bk.t (.own id len)=some (Js bk.xs len):=by simp only[dm,St.rZ,hlk];rw[dif_pos (Ty.beq_refl bk.t)];rfl
    refine jE (ok:=RO G1 bk.f) (fun g hg=>hg.Ez fun h=>by cases h) (kL h1 ax8 hd (fun id' aQs b' hc hl=>?_) (fun f e u ys hc=>by cases hc) bk.e);cases hc;rw[hlk]at hl;have:=fJ (fJ hl);subst this;exact⟨fun g hg=>hg,fun hw=>by cases hw⟩
   .exact⟨G,h⟩
  .rename_i f e t xs hj;exact⟨G,h.aHC hl hj fun v hrel=>jE (fun g hg=>hg.Ez fun h=>by cases h) hrel⟩
  .exact⟨G,h⟩
 .exact⟨G,h⟩
def avG (h:Inv w0 G st a w)(t:Tmp):∃G',Inv w0 G' (au8 st t) a w:=by
 unfold au8;split
 .rename_i f e u xs hv;have hrel:=h.ev (.tmp t);rw[show st.ev (.tmp t)=st.get t from rfl,hv]at hrel;exact⟨G,h.aHA t (show Rd w (RO G false) (.sl e u) xs [_] from jE (fun g hg=>hg.Ez fun h=>by cases h) hrel)⟩
 .rename_i id len hv;split
  .rename_i b hb;have hl:=fw hb;have hs:la G st.bx st.bl G st.bx ((id,some {b with f:=false})::st.bl):=la.avc id _ rfl rfl fun x hx=>by cases hx;exact⟨b,hl,rfl⟩
   have hx:X1 G w G w:=⟨rfl,rfl,bZ _,fun _ _ ho=>⟨ho,rfl⟩,fun _ _ ho=>⟨ho,rfl⟩⟩;refine⟨G,h.nw,h.rok,h.below,h.defers,h.size,h.sp.mono hx hs,h.Fy hx,fun t v hv=>(h.tm t v hv).mono hx hs,?_,?_,?_⟩
   .intro d m hm;obtain⟨cs2,e2,h4,h5,h6⟩:=h.bx d m hm;exact⟨cs2,e2,h4,h5,h6.imp fun _ _=>bS.mono hx hs⟩
   .intro i bk hbk;simp only[aw]at hbk;by_cases hi:id=i
    .subst hi;simp only[iA]at hbk;cases hbk;have hbo:=h.bl id b hl;refine⟨fun hw=>?_,fun hw=>?_,hbo.pos⟩
     .obtain⟨cs,h1,h2,h3⟩:=hbo.wr hw;exact⟨cs,h1,h2,mE (fun g hg=>hg.Ez fun h=>by cases h) h3⟩
     .exact jE (fun g hg=>hg.Ez fun h=>by cases h) (hbo.rd hw)
    .simp only[hi,hZ]at hbk;exact h.bl i bk hbk
   .intro g k hk;obtain⟨h4,h5,h6⟩:=h.own g k hk;refine⟨h4,h5,?_⟩;cases k with
    |hid=>trivial|bx x=>exact h6|bl i=>exact⟨(hs.bl i h6.1).1,h6.2⟩
  .exact⟨G,h⟩
 .exact⟨G,h⟩
def BK {V:Type}{f:St->V->St}(hf:∀{G:Gh} {st:St} (h:Inv w0 G st a w) (x:V),∃G',Inv w0 G' (f st x) a w):∀(l:List V) {G:Gh} {st:St},Inv w0 G st a w->∃G',Inv w0 G' (l.foldl f st) a w
 |[],G,st,h=>⟨G,h⟩|x::l,G,st,h=>by obtain⟨G1,h1⟩:=hf h x;exact BK hf l h1
def avH (h:Inv w0 G st a w)(b:Bool):Inv w0 G (aGJ st b) a w:=by
 cases b with
 |false=>exact h|true=>exact⟨h.nw,h.rok,h.below,h.defers,h.size,trivial,h.hd,h.tm,h.bx,h.bl,h.own⟩
def ayo (hn:Hint)(h:Inv w0 G st a w):∃G',Inv w0 G' (aGK hn st) a w:=by unfold aGK;obtain⟨G1,h1⟩:=BK (f:=fun st (x:Tmp×TypeId×Ty)=>au6 st x.1 x.2.1 x.2.2) (fun h x=>avD h _ _ _) hn.mat (avH h hn.aLP);obtain⟨G2,h2⟩:=BK (f:=fun st (x:Nat×Nat×TypeId×Ty)=>amc st x.1 x.2.1 x.2.2.1 x.2.2.2) (fun h x=>arP h _ _ _ _) hn.yz h1;obtain⟨G2,h2⟩:=BK (f:=fun st (x:Nat×Nat)=>au7 st x.1 x.2) (fun h x=>avF h _ _) hn.roB h2;obtain⟨G3,h3⟩:=BK (f:=aDc) (fun h x=>ayn h x) hn.roT h2;obtain⟨G4,h4⟩:=BK (f:=au8) (fun h x=>avG h x) hn.wk h3;exact abi h4 hn.live
def adj (hn:Option Hint)(h:Inv w0 G st a w):∃G',Inv w0 G' (au9 hn st) a w:=by
 cases hn with
 |none=>exact⟨G,h⟩|some hn=>exact ayo hn h
def adk (hn:Option Hint)(e:Ex)(h:Inv w0 G st a w):∃G',Inv w0 G' (amZ hn e st) a w:=by
 cases hn with
 |none=>exact⟨G,h⟩
 |some hn =>
  cases e with
  |norm=>exact⟨G,h⟩|exit j=>exact abi h _|ret=>exact abi h _
end
section
variable {N:Nat} {P:Program} {C:FuncId->Option Any} {w0:fR} {U:Type} {r:U}
def RB (hC:∀f con,C f=some con->SG P w0 f con){Q:Exit->Act->World->Prop}(ops:Array Oper){k:St->Option U}(hK:sg w0 k r (Q .normal)) :
  ∀(l:List Oper) {w:World} {G:Gh} {st:St} {a:Act},Inv w0 G st a w->yx P C (sd.Rm N) ops.toList l st k=some r->wpList P ops Q l a w
 |[],w,G,st,a,h,hr=>hK G st a w h hr|o::l,w,G,st,a,h,hr=>by
  have aBC:∀{st:St} {G:Gh},Inv w0 G st a w->Region.wanted o (yielded ops a.tmps)=true->jP P C (sd.Rm N) o st (fun st=>yx P C (sd.Rm N) ops.toList l st k)=some r->wpList P ops Q (o::l) a w:=by intro st G h hw hr;show(if Region.wanted o (yielded ops a.tmps) then _ else _);rw[hw];exact .inl (EE hC h hr fun G' dV a' w' h' l4=>RB hC ops hK l h' l4)
  have Vu:∀{st:St} {G:Gh},Inv w0 G st a w->Region.wanted o (yielded ops a.tmps)=false->St.pk st o.dst (.UO []) (fun st=>yx P C (sd.Rm N) ops.toList l st k)=some r->wpList P ops Q (o::l) a w:=by intro st G h hw hr;show(if Region.wanted o (yielded ops a.tmps) then _ else _);rw[hw];simp only[afN,hZ];exact CM h (v:=.UO []) (u:=undef) ⟨#[],rfl,trivial⟩ hr fun G' dV a' w' h' l4=>RB hC ops hK l h' l4
  simp only[yx]at hr;split at hr
  .rename_i hg;exact aBC h (by simp[Region.wanted,hg]) hr
  .rename_i j U4 hg;split at hr
   .rename_i oj hoj;split at hr
    .rename_i dj hdj;have hy:=Rz (tmps:=a.tmps) hoj hdj;have Rr:=h.ev (.tmp dj);rw[show st.ev (.tmp dj)=st.get dj from rfl]at Rr;split at hr
     .rename_i b hb;rw[hb]at Rr;have hv:a.tmps.getD dj undef=.bool b:=Rr;rw[hv]at hy;have adh:∀b',b=b'->Inv w0 G (st.put dj (.v (.c (.bool b')))) a w:=by intro b' CL;subst CL;exact h.lit (.tmp dj) b hv
      rcases acV hr with ⟨hb1,hr⟩|⟨hb1,hr⟩
      .subst hb1;cases U4 with
       |true=>exact aBC (adh true rfl) (by simp[Region.wanted,hg,hy]) hr
       |false=>exact Vu (adh true rfl) (by simp[Region.wanted,hg,hy]) hr
      .subst hb1;cases U4 with
       |true=>exact Vu (adh false rfl) (by simp[Region.wanted,hg,hy]) hr
       |false=>exact aBC (adh false rfl) (by simp[Region.wanted,hg,hy]) hr
     .rename_i hb;rw[hb]at Rr;obtain⟨vs,hv,hvs⟩:=Rr;have hv:a.tmps.getD dj undef=.tuple vs:=hv;rw[hv]at hy;exact Vu h (by simp[Region.wanted,hg,hy]) hr
     .cases hr
    .cases hr
   .cases hr
def abl (hC:∀f con,C f=some con->SG P w0 f con){Q:Exit->Act->World->Prop}(ops:Array Oper){k:St->Option U}(hK:sg w0 k r (Q .normal)){w:World} :
  ∀(l:List Oper) {G:Gh} {st:St} {a:Act},(l.all fun o=>k9 P C o)=true->Inv w0 G st a w->yx P C (sd.Rm N) ops.toList l st k=some r ->
   wpQuiet P ops (fun w'=>Below w.heap.size w w') (fun a'=>∀w',Below w.heap.size w w'->Q .normal a' w') l a
 |[],G,st,a,_,h,hr=>fun w' hB=>hK G st a w' (h.more hB) hr
 |o::l,G,st,a,hq,h,hr=>by
  rw[List.all_cons,aI]at hq;have aBC:∀{st:St} {G:Gh},Inv w0 G st a w->Region.wanted o (yielded ops a.tmps)=true->jP P C (sd.Rm N) o st (fun st=>yx P C (sd.Rm N) ops.toList l st k)=some r->wpQuiet P ops (fun w'=>Below w.heap.size w w') (fun a'=>∀w',Below w.heap.size w w'->Q .normal a' w') (o::l) a:=by intro st G h hw hr;show(if Region.wanted o (yielded ops a.tmps) then _ else _);rw[hw];obtain⟨v,G',dV,h1,h2,h3⟩:=ayg hC hq.1 h hr;exact⟨v,h1,abl hC ops hK l hq.2 h2 h3⟩
  have Vu:∀{st:St} {G:Gh},Inv w0 G st a w->Region.wanted o (yielded ops a.tmps)=false->St.pk st o.dst (.UO []) (fun st=>yx P C (sd.Rm N) ops.toList l st k)=some r->wpQuiet P ops (fun w'=>Below w.heap.size w w') (fun a'=>∀w',Below w.heap.size w w'->Q .normal a' w') (o::l) a:=by
   intro st G h hw hr;show(if Region.wanted o (yielded ops a.tmps) then _ else _);rw[hw];simp only[afN,hZ];obtain⟨G',dV,h1,h2⟩:=CM (K:=fun a' w'=>∃G' dV,Inv w0 G' dV a' w'/\yx P C (sd.Rm N) ops.toList l dV k=some r) h (v:=.UO []) (u:=undef) ⟨#[],rfl,trivial⟩ hr fun G' dV a' w' h' l4=>⟨G',dV,h',l4⟩
   exact abl hC ops hK l hq.2 h1 h2
  simp only[yx]at hr;split at hr
  .rename_i hg;exact aBC h (by simp[Region.wanted,hg]) hr
  .rename_i j U4 hg;split at hr
   .rename_i oj hoj;split at hr
    .rename_i dj hdj;have hy:=Rz (tmps:=a.tmps) hoj hdj;have Rr:=h.ev (.tmp dj);rw[show st.ev (.tmp dj)=st.get dj from rfl]at Rr;split at hr
     .rename_i b hb;rw[hb]at Rr;have hv:a.tmps.getD dj undef=.bool b:=Rr;rw[hv]at hy;have adh:∀b',b=b'->Inv w0 G (st.put dj (.v (.c (.bool b')))) a w:=by intro b' CL;subst CL;exact h.lit (.tmp dj) b hv
      rcases acV hr with ⟨hb1,hr⟩|⟨hb1,hr⟩
      .subst hb1;cases U4 with
       |true=>exact aBC (adh true rfl) (by simp[Region.wanted,hg,hy]) hr
       |false=>exact Vu (adh true rfl) (by simp[Region.wanted,hg,hy]) hr
      .subst hb1;cases U4 with
       |true=>exact Vu (adh false rfl) (by simp[Region.wanted,hg,hy]) hr
       |false=>exact aBC (adh false rfl) (by simp[Region.wanted,hg,hy]) hr
     .rename_i hb;rw[hb]at Rr;obtain⟨vs,hv,hvs⟩:=Rr;have hv:a.tmps.getD dj undef=.tuple vs:=hv;rw[hv]at hy;exact Vu h (by simp[Region.wanted,hg,hy]) hr
     .cases hr
    .cases hr
   .cases hr
def aQt:Ex->Exit
 |.norm=>.normal|.exit id=>.exit id|.ret=>.ret
def aOn (w0:fR)(k:Ex->St->Option U)(r:U)(Q:Exit->Act->World->Prop):Prop:=∀e G' dV a' w',Inv w0 G' dV a' w'->k e dV=some r->Q (aQt e) a' w'
def sj (hC:∀f con,C f=some con->SG P w0 f con)(H:Nat->Option Hint):∀(c:Code) {st:St} {k:Ex->St->Option U} {G:Gh} {a:Act} {w:World} {Q:Exit->Act->World->Prop},
  Inv w0 G st a w->run P C (sd.Rm N) H c st k=some r->aOn w0 k r Q->c.wp P Q a w
 |.skip,st,k,G,a,w,Q,h,hr,hK=>wp_skip (hK .norm _ _ _ _ h hr)|.region id ops aJG,st,k,G,a,w,Q,h,hr,hK=>by
  simp only[run]at hr;split at hr
  .rename_i hd;cases aJG with
   |false=>exact wp_region_list (RB hC ops (fun G' dV a' w' h' l4=>hK .norm _ _ _ _ h' l4) ops.toList h hr)
   |true =>
    have hd:aA8 P C ops=true:=by simpa using hd
    simp only[aA8,aI]at hd;obtain⟨⟨hm,hB⟩,hq⟩:=hd;have hBd:Below w.heap.size w {w with drawn:=w.drawn+1}:=⟨rfl,rfl,rfl,bZ _,fun _ _=>rfl⟩;exact wp_region_quiet (C:=fun w'=>Below w.heap.size w w') hm hB hBd (abl hC ops (fun G' dV a' w' h' l4=>hK .norm _ _ _ _ h' l4) ops.toList hq h hr)
  .rename_i hd;cases aJG with
   |false=>simp at hd
   |true =>
    split at hr
    .rename_i hm;simp only[aI]at hm;have hBd:Below w.heap.size w {w with drawn:=w.drawn+1}:=⟨rfl,rfl,rfl,bZ _,fun _ _=>rfl⟩;obtain⟨G2,st2,h2,hn2,hr2⟩:=aym h hr;exact wp_region_noPanic (wp_region_any hm.1.1 (arO hC (Q:=NoPanic Q) (fun c a a' w h=>h) hm.1.2 (by rw[hn2];exact hm.2) (fun G' dV a' w' h' l4=>hK .norm _ _ _ _ h' l4) (h2.more hBd) hr2))
    .cases hr
 |.seq x y,st,k,G,a,w,Q,h,hr,hK=>by
  simp only[run]at hr;refine wp_seq (sj hC H x h hr fun e G' dV a' w' h' l4=>?_);cases e with
  |norm=>exact sj hC H y h' l4 hK|exit j=>exact hK (.exit j) _ _ _ _ h' l4|ret=>exact hK .ret _ _ _ _ h' l4
 |.cond c x y,st,k,G,a,w,Q,h,hr,hK=>by
  simp only[run]at hr;split at hr
  .rename_i b hb;have hv:=avd (h.ac c) hb;refine wp_cond hv ?_;rcases acV hr with ⟨hb1,hr⟩|⟨hb1,hr⟩
   .subst hb1;exact sj hC H x (h.lit c true hv) hr hK
   .subst hb1;exact sj hC H y (h.lit c false hv) hr hK
  .cases hr
 |.block id x,st,k,G,a,w,Q,h,hr,hK=>by
  simp only[run]at hr;refine wp_block (sj hC H x h hr fun e G' dV a' w' h' l4=>?_);cases e with
  |norm=>exact hK .norm _ _ _ _ h' l4
  |exit j =>
   dsimp only at l4;show(if j=id then Q .normal a' w' else Q (.exit j) a' w');split at l4
   .rename_i hj;rw[ai (aP hj)];exact hK .norm _ _ _ _ h' l4
   .rename_i hj;rw[ah (by rintro rfl;simp at hj)];exact hK (.exit j) _ _ _ _ h' l4
  |ret=>exact hK .ret _ _ _ _ h' l4
 |.loop b,st,k,G,a,w,Q,h,hr,hK=>by
  simp only[run]at hr;obtain⟨G0,h0⟩:=adj (H (sf b)) h;refine wp_loop_ghost (fun n a w=>∃G st,Inv w0 G st a w/\aJE (fun st k=>run P C (sd.Rm N) H b st k) (H (sf b)) k n st=some r) N ⟨G0,_,h0,hr⟩ fun n a1 w1 hI=>?_
  obtain⟨G1,uB,h1,hr1⟩:=hI;cases n with
  |zero=>cases hr1
  |succ n =>
   refine sj hC H b h1 hr1 fun e G' dV a' w' h' l4=>?_
   cases e with
   |norm =>
    obtain⟨G2,h2⟩:=adj (H (sf b)) h';exact⟨n,Nat.lt_succ_self n,G2,_,h2,l4⟩
   |exit j =>
    obtain⟨G2,h2⟩:=adk (H (sf b)) (.exit j) h';exact hK (.exit j) _ _ _ _ h2 l4
   |ret =>
    obtain⟨G2,h2⟩:=adk (H (sf b)) .ret h';exact hK .ret _ _ _ _ h2 l4
 |.exit id,st,k,G,a,w,Q,h,hr,hK=>wp_exit (hK (.exit id) _ _ _ _ h hr)|.ret,st,k,G,a,w,Q,h,hr,hK=>wp_ret (hK .ret _ _ _ _ h hr)|.label _,_,_,_,_,_,_,_,hr,_=>by cases hr
 |.goto _,_,_,_,_,_,_,_,hr,_=>by cases hr
 |.refuse _,_,_,_,_,_,_,_,hr,_=>by cases hr
 |.rangeFunc _ _ _ _,_,_,_,_,_,_,_,hr,_=>by cases hr
 |.scope _,_,_,_,_,_,_,_,hr,_=>by cases hr
end
end Go.Am
