/- No condition. -/
import Derived.Test.YtfapcfpkbahneaaGreatDoorQpAmT
import Derived.Below
import Derived.Maps.AppendAt
import Derived.Laws.Rows
import Derived.Laws.CopyRow
set_option linter.all false
namespace Go.Am
open Go.RowKit
def cT {U V:Type}(R:U->V->Prop):List U->List V->Prop
 |[],[]=>True|a::l,b::m=>R a b/\cT R l m|_,_=>False
def cT.len {U V:Type}{R:U->V->Prop}:∀{l:List U} {m:List V},cT R l m->l.length=m.length
 |[],[],_=>rfl|a::l,b::m,h=>by simp[cT.len h.2]
 |[],_::_,h=>h.elim|_::_,[],h=>h.elim
def cT.imp {U V:Type}{R S:U->V->Prop}(hi:∀a b,R a b->S a b):∀{l:List U} {m:List V},cT R l m->cT S l m
 |[],[],_=>trivial|a::l,b::m,h=>⟨hi _ _ h.1,cT.imp hi h.2⟩|[],_::_,h=>h.elim|_::_,[],h=>h.elim
def cT.app {U V:Type}{R:U->V->Prop}:∀{l l':List U} {m m':List V},cT R l m->cT R l' m'->cT R (l++l') (m++m')
 |[],_,[],_,_,h=>h|a::l,_,b::m,_,h,h'=>⟨h.1,cT.app h.2 h'⟩|[],_,_::_,_,h,_=>h.elim|_::_,_,[],_,h,_=>h.elim
def cT.nth {U V:Type}{R:U->V->Prop}:∀{l:List U} {m:List V},cT R l m->∀{i:Nat} {x:U},og l i=some x->∃y,m[i]?=some y/\R x y
 |a::l,b::m,h,0,x,hx=>⟨b,rfl,by cases hx;exact h.1⟩
 |a::l,b::m,h,i+1,x,hx=>by obtain⟨y,hy,hr⟩:=cT.nth h.2 (i:=i) (x:=x) hx;exact⟨y,by simpa using hy,hr⟩
 |[],[],_,_,_,hx=>by simp[og]at hx
 |[],_::_,h,_,_,_=>h.elim|_::_,[],h,_,_,_=>h.elim
def cT.take {U V:Type}{R:U->V->Prop}:∀(n:Nat) {l:List U} {m:List V},cT R l m->cT R (yu n l) (m.take n)
 |0,l,m,h=>by simp[yu,cT]
 |n+1,[],[],_=>by simp[yu,cT]
 |n+1,a::l,b::m,h=>⟨h.1,cT.take n h.2⟩|_+1,[],_::_,h=>h.elim|_+1,_::_,[],h=>h.elim
def cT.drop {U V:Type}{R:U->V->Prop}:∀(n:Nat) {l:List U} {m:List V},cT R l m->cT R (yv n l) (m.drop n)
 |0,l,m,h=>by simpa [yv]using h
 |n+1,[],[],_=>by simp[yv,cT]
 |n+1,a::l,b::m,h=>cT.drop n h.2|_+1,[],_::_,h=>h.elim|_+1,_::_,[],h=>h.elim
def cT.set {U V:Type}{R:U->V->Prop}:∀{l:List U} {m:List V},cT R l m->∀(i:Nat) {x:U} {y:V},R x y->cT R (Od l i x) (m.set i y)
 |a::l,b::m,h,0,x,y,hr=>⟨hr,h.2⟩|a::l,b::m,h,i+1,x,y,hr=>⟨h.1,cT.set h.2 i hr⟩|[],[],_,_,_,_,_=>by simp[Od,cT]
 |[],_::_,h,_,_,_,_=>h.elim|_::_,[],h,_,_,_,_=>h.elim
def Jv {U:Type}:List U->Nat->List U->List U
 |l,_,[]=>l|l,n,v::vs=>Jv (l.set n v) (n+1) vs
def cT.Hs {U V:Type}{R:U->V->Prop}:∀{vs:List U} {us:List V} {l:List U} {m:List V} (i:Nat),cT R l m->cT R vs us->cT R (Am.Hs l i vs) (Jv m i us)
 |[],[],_,_,_,h,_=>h|v::vs,u::us,_,_,i,h,hv=>cT.Hs (i+1) (h.set i hv.1) hv.2|[],_::_,_,_,_,_,h=>h.elim|_::_,[],_,_,_,_,h=>h.elim
def Rd (w:World)(ok:Nat->Prop):(t:Ty)->t.D->List Value->Prop
 |.int k,x,cs=>cs=[.int k x]|.bool,x,cs=>cs=[.bool x]|.str,x,cs=>cs=[.string x]|.unit,_,cs=>cs=[]|.pair a b,x,cs=>∃c1 c2,cs=c1++c2/\Rd w ok a x.1 c1/\Rd w ok b x.2 c2|.sl _ t,xs,cs=>∃A cap,cs=[.slice A xs.length cap]/\xs.length<=cap/\xs.length<=9223372036854775807 /\
   (0<xs.length->∃b o,A=some ⟨b,o,none⟩/\b<w.heap.size/\ok b /\
    ∀j x,xs[j]?=some x->∃c,Rd w ok t x c/\∀i u,c[i]?=some u->w.cell? ⟨b,o+(j*t.n+i),none⟩=some u)
def Rd.len {w:World}{ok:Nat->Prop}:∀{t:Ty} {x:t.D} {cs:List Value},Rd w ok t x cs->cs.length=t.n
 |.int _,_,_,h=>by rw[show _=_ from h];rfl
 |.bool,_,_,h=>by rw[show _=_ from h];rfl
 |.str,_,_,h=>by rw[show _=_ from h];rfl
 |.unit,_,_,h=>by rw[show _=_ from h];rfl
 |.pair a b,_,_,h=>by obtain⟨c1,c2,rfl,h1,h2⟩:=h;simp[Ty.n,h1.len,h2.len]
 |.sl e t,xs,cs,h=>by obtain⟨A,cap,rfl,_⟩:=h;rfl
def Rd.one {w:World}{ok:Nat->Prop}:∀{t:Ty} {x:t.D} {cs:List Value},Rd w ok t x cs->∀u∈cs,u.oneCell'=true
 |.int _,_,_,h,u,hu=>by rw[show _=_ from h]at hu;simp at hu;subst hu;rfl
 |.bool,_,_,h,u,hu=>by rw[show _=_ from h]at hu;simp at hu;subst hu;rfl
 |.str,_,_,h,u,hu=>by rw[show _=_ from h]at hu;simp at hu;subst hu;rfl
 |.unit,_,_,h,u,hu=>by rw[show _=_ from h]at hu;simp at hu
 |.pair a b,_,_,h,u,hu=>by
  obtain⟨c1,c2,rfl,h1,h2⟩:=h;rcases jx.1 hu with hu|hu
  .exact h1.one u hu
  .exact h2.one u hu
 |.sl e t,xs,cs,h,u,hu=>by obtain⟨A,cap,rfl,_⟩:=h;simp at hu;subst hu;rfl
def cell_of_heap {w w':World}{b:Nat}(h:w'.heap[b]?=w.heap[b]?)(o:Nat):w'.cell? ⟨b,o,none⟩=w.cell? ⟨b,o,none⟩:=World.cell?_of_block (w:=w) (w':=w') (a:=⟨b,o,none⟩) h
def Rd.mono {w w':World}{ok ok':Nat->Prop}(hs:w.heap.size<=w'.heap.size)(hm:∀b,b<w.heap.size->ok b->ok' b/\w'.heap[b]?=w.heap[b]?) :
  ∀{t:Ty} {x:t.D} {cs:List Value},Rd w ok t x cs->Rd w' ok' t x cs
 |.int _,_,_,h=>h|.bool,_,_,h=>h|.str,_,_,h=>h|.unit,_,_,h=>h|.pair a b,_,_,h=>by obtain⟨c1,c2,rfl,h1,h2⟩:=h;exact⟨c1,c2,rfl,h1.mono hs hm,h2.mono hs hm⟩
 |.sl e t,xs,cs,h=>by obtain⟨A,cap,rfl,hc,h63,h⟩:=h;refine⟨A,cap,rfl,hc,h63,fun hp=>?_⟩;obtain⟨b,o,rfl,hb,dZ,hr⟩:=h hp;obtain⟨aGO,hh⟩:=hm b hb dZ;refine⟨b,o,rfl,by omega,aGO,fun j x hj=>?_⟩;obtain⟨c,hrc,hcell⟩:=hr j x hj;exact⟨c,hrc.mono hs hm,fun i u hu=>by rw[cell_of_heap hh];exact hcell i u hu⟩
inductive Key where
 |bx (d:Nat)
 |bl (id:Nat)
 |hid
structure Gh where
 nw:Nat->Prop
 own:Nat->Option Key
 hb:Nat->Nat
 hv:Nat->Value
 ok:Nat->Prop
def RO (G:Gh)(f:Bool)(b:Nat):Prop:=G.own b=none/\(G.nw b\/(f=false/\G.ok b))
def RO.Ez {G:Gh}{f f':Bool}(h:f'=true->f=true){g:Nat}(hg:RO G f g):RO G f' g :=
 ⟨hg.1,hg.2.imp_right fun h2=>⟨by cases f' with|false=>rfl|true=>rw[h rfl]at h2;exact absurd h2.1 (by simp),h2.2⟩⟩
def bS (G:Gh)(w:World)(bx:List (Nat×List AC))(bl:List (Nat×Option gB)):AC->Value->Prop
 |.none,_=>True|.int k n,v=>v=.int k n|.bool b,v=>v=.bool b|.str s,v=>v=.string s|.nil,v=>v=.slice none 0 0|.ro f e t xs,v=>Rd w (RO G f) (.sl e t) xs [v]|.own id none,v=>(look bl id).isSome=true/\(∃A n cap,G.hv id=.slice A n cap)/\v=G.hv id|.own id (some l),v=>(look bl id).isSome=true/\0<=l/\∃A n cap,G.hv id=.slice A n cap/\l<=n/\v=.slice A l.toNat cap|.ptr b off,v=>(look bx b).isSome=true/\v=.pointer (some ⟨G.hb b,off,none⟩)|.any,v=>v.oneCell'=true|.fnp g b,v=>(look bx b).isSome=true/\v=.func (.func g) #[] #[.pointer (some ⟨G.hb b,0,none⟩)]|.LI id i off,v=>(look bl id).isSome=true/\v.oneCell'=true/\0<=i/\∃g o n cap,G.hv id=.slice (some ⟨g,o,none⟩) n cap/\i<n /\
   ∀b,look bl id=some (some b)->v=.pointer (some ⟨g,o+(i.toNat*b.t.n+off),none⟩)
 |.UA f t x off,v=>∃b o c,v=.pointer (some ⟨b,o+off,none⟩)/\b<w.heap.size/\RO G f b/\Rd w (RO G f) t x c/\∀i u,c[i]?=some u->w.cell? ⟨b,o+i,none⟩=some u
def fv (G:Gh)(w:World)(bx:List (Nat×List AC))(bl:List (Nat×Option gB)):CV->Value->Prop
 |.c x,v=>bS G w bx bl x v|.agg l,v=>∃cs,v=.agg cs/\cT (bS G w bx bl) l cs.toList
def kf (G:Gh)(w:World)(bx:List (Nat×List AC))(bl:List (Nat×Option gB)):AV->Value->Prop
 |.v x,v=>fv G w bx bl x v|.UO l,v=>∃vs,v=.tuple vs/\cT (fv G w bx bl) l vs.toList
def fU (w:World)(ok:Nat->Prop)(t:Ty)(cs:List Value)(xs:List t.D):Prop :=
 ∀j x,xs[j]?=some x->∃c,Rd w ok t x c/\∀i u,c[i]?=some u->cs[j*t.n+i]?=some u
structure EA (G:Gh) (w:World) (id:Nat) (b:gB):Prop where
 wr:b.w=true->∃cs,w.ownsRow 0 b.e b.t.n (G.hv id) b.xs.length cs/\(∀g,(G.hv id).ownBlock=some g->G.own g=some (.bl id))/\fU w (RO G b.f) b.t cs b.xs
 rd:b.w=false->Rd w (RO G b.f) (.sl b.e b.t) b.xs [G.hv id]
 pos:0<b.t.n
structure fK (fr:Nat->Prop) (w w':World):Prop where
 os:w'.os=w.os
 tape:w'.tape=w.tape
 output:w'.output=w.output
 size:w.heap.size<=w'.heap.size
 block:∀k,k<w.heap.size->¬fr k->w'.heap[k]?=w.heap[k]?
def fK.refl (fr:Nat->Prop)(w:World):fK fr w w:=⟨rfl,rfl,rfl,bZ _,fun _ _ _=>rfl⟩
def fK.step {fr:Nat->Prop}{a w w':World}(h:fK fr a w)(ho:w'.os=w.os)(ht:w'.tape=w.tape)(hu:w'.output=w.output)(hs:w.heap.size<=w'.heap.size)
  (hb:∀k,k<a.heap.size->¬fr k->w'.heap[k]?=w.heap[k]?):fK fr a w' :=
 ⟨ho.trans h.os,ht.trans h.tape,hu.trans h.output,cR h.size hs,fun i hi hf=>(hb i hi hf).trans (h.block i hi hf)⟩
def fK.below {fr:Nat->Prop}{w w':World}(h:fK fr w w')(hf:∀b,¬fr b):Below w.heap.size w w':=⟨h.os,h.tape,h.output,h.size,fun k hk=>h.block k hk (hf k)⟩
structure fR where
 w:World
 ok:Nat->Prop
 nw:Nat->Prop
 fr:Nat->Prop
 hnw:∀b,w.heap.size<=b->nw b
 hfr:∀b,fr b->nw b
 pv:Value:=.slice none 0 0
 hd:Nat->Option (Bool×Obj):=fun _=>none
def aDf:Bool->Option Key
 |true=>some .hid|false=>none
structure Inv (w0:fR) (G:Gh) (st:St) (a:Act) (w:World):Prop where
 nw:G.nw=w0.nw
 rok:G.ok=w0.ok
 below:fK w0.fr w0.w w
 defers:a.defers=[]
 size:a.tmps.size=st.nt
 sp:kf G w st.bx st.bl st.sp w0.pv
 hd:∀g b o,w0.hd g=some (b,o)->G.own g=aDf b/\g<w.heap.size/\w.heap[g]?=some o
 tm:∀t v,look st.tm t=some v->kf G w st.bx st.bl v (a.tmps.getD t undef)
 bx:∀d l,look st.bx d=some l->∃cs e,w.heap[G.hb d]?=some (.cells cs e (0,0))/\G.own (G.hb d)=some (.bx d)/\cT (bS G w st.bx st.bl) l cs.toList
 bl:∀id b,look st.bl id=some (some b)->EA G w id b
 own:∀g k,G.own g=some k->(w0.w.heap.size<=g\/w0.fr g)/\g<w.heap.size/\match k with
  |.bx d=>(look st.bx d).isSome=true/\g=G.hb d|.bl id=>(look st.bl id).isSome=true/\(G.hv id).ownBlock=some g|.hid=>True
def Inv.aBa {w0:fR}{G:Gh}{st:St}{a:Act}{w:World}(h:Inv w0 G st a w)(l:List Nat):Inv w0 G {st with rob:=l} a w:=⟨h.nw,h.rok,h.below,h.defers,h.size,h.sp,h.hd,h.tm,h.bx,h.bl,h.own⟩
def Inv.U9 {w0:fR}{G:Gh}{st:St}{a:Act}{w:World}(h:Inv w0 G st a w){g:Nat}{k:Key}(hg:G.own g=some k):G.nw g:=by
 rw[h.nw];rcases(h.own g k hg).1 with h1|h1
 .exact w0.hnw g h1
 .exact w0.hfr g h1
def Inv.axV {w0:fR}{G:Gh}{st:St}{a:Act}{w:World}(h:Inv w0 G st a w){g:Nat}(hg:w.heap.size<=g):G.nw g:=by rw[h.nw];exact w0.hnw g (cR h.below.size hg)
structure X1 (G:Gh) (w:World) (G':Gh) (w':World):Prop where
 nw:G'.nw=G.nw
 ok:G'.ok=G.ok
 size:w.heap.size<=w'.heap.size
 ro:∀b,b<w.heap.size->G.own b=none->G'.own b=none/\w'.heap[b]?=w.heap[b]?
 hid:∀b,b<w.heap.size->G.own b=some .hid->G'.own b=some .hid/\w'.heap[b]?=w.heap[b]?
def Inv.Fy {w0:fR}{G G':Gh}{st:St}{a:Act}{w w':World}(h:Inv w0 G st a w)(hx:X1 G w G' w'):∀g b o,w0.hd g=some (b,o)->G'.own g=aDf b/\g<w'.heap.size/\w'.heap[g]?=some o:=by
 intro g b o hm;obtain⟨h1,h2,h3⟩:=h.hd g b o hm;cases b with
 |true =>
  obtain⟨h4,h5⟩:=hx.hid g h2 h1;exact⟨h4,Ev h2 hx.size,h5.trans h3⟩
 |false =>
  obtain⟨h4,h5⟩:=hx.ro g h2 h1;exact⟨h4,Ev h2 hx.size,h5.trans h3⟩
structure am1 (G:Gh) (w:World) (G':Gh) (w':World):Prop where
 nw:G'.nw=G.nw
 ok:G'.ok=G.ok
 size:w.heap.size<=w'.heap.size
 ro:∀b,b<w.heap.size->G.own b=none->G'.own b=none/\w'.heap[b]?=w.heap[b]?
def X1.e0 {G G':Gh}{w w':World}(h:X1 G w G' w'):am1 G w G' w':=⟨h.nw,h.ok,h.size,h.ro⟩
def am1.rd {G G':Gh}{w w':World}(h:am1 G w G' w'){f:Bool}{t:Ty}{x:t.D}{cs:List Value}(hr:Rd w (RO G f) t x cs):Rd w' (RO G' f) t x cs :=
 hr.mono h.size fun b hb dZ=>⟨⟨(h.ro b hb dZ.1).1,by rw[h.nw,h.ok];exact dZ.2⟩,(h.ro b hb dZ.1).2⟩
structure la (G:Gh) (bx:List (Nat×List AC)) (bl:List (Nat×Option gB)) (G':Gh) (bx':List (Nat×List AC)) (bl':List (Nat×Option gB)):Prop where
 bx:∀d,(look bx d).isSome=true->(look bx' d).isSome=true/\G'.hb d=G.hb d
 bl:∀id,(look bl id).isSome=true->(look bl' id).isSome=true/\G'.hv id=G.hv id/\∀b',look bl' id=some (some b')->∃b,look bl id=some (some b)/\b.t=b'.t
def bS.mC {G G':Gh}{w w':World}{bx bx':List (Nat×List AC)}{bl bl':List (Nat×Option gB)}(hx:am1 G w G' w')(hs:la G bx bl G' bx' bl') :
  ∀{c:AC} {v:Value},bS G w bx bl c v->bS G' w' bx' bl' c v
 |.none,_,_=>trivial|.int _ _,_,h=>h|.bool _,_,h=>h|.str _,_,h=>h|.nil,_,h=>h|.any,_,h=>h|.ro f e t xs,_,h=>hx.rd (t:=.sl e t) h|.own id none,v,h=>⟨(hs.bl id h.1).1,by rw[(hs.bl id h.1).2.1];exact h.2.1,by rw[(hs.bl id h.1).2.1];exact h.2.2⟩
 |.own id (some l),v,h=>by obtain⟨h1,h0,A,n,cap,hv,hl,rfl⟩:=h;exact⟨(hs.bl id h1).1,h0,A,n,cap,by rw[(hs.bl id h1).2.1];exact hv,hl,rfl⟩
 |.ptr b off,v,h=>⟨(hs.bx b h.1).1,by rw[(hs.bx b h.1).2];exact h.2⟩
 |.fnp g b,v,h=>⟨(hs.bx b h.1).1,by rw[(hs.bx b h.1).2];exact h.2⟩
 |.LI id i off,v,h=>by obtain⟨h1,aa5,h0,g,o,n,cap,hv,hi,h⟩:=h;refine⟨(hs.bl id h1).1,aa5,h0,g,o,n,cap,by rw[(hs.bl id h1).2.1];exact hv,hi,fun b' CL=>?_⟩;obtain⟨b,hb,ht⟩:=(hs.bl id h1).2.2 b' CL;rw[<-ht];exact h b hb
 |.UA f t x off,v,h=>by obtain⟨b,o,c,hv,hb,dZ,hr,hc⟩:=h;obtain⟨ho',hh⟩:=hx.ro b hb dZ.1;exact⟨b,o,c,hv,Ev hb hx.size,⟨ho',by rw[hx.nw,hx.ok];exact dZ.2⟩,hx.rd hr,fun i u hu=>by rw[cell_of_heap hh];exact hc i u hu⟩
def fv.mC {G G':Gh}{w w':World}{bx bx':List (Nat×List AC)}{bl bl':List (Nat×Option gB)}(hx:am1 G w G' w')(hs:la G bx bl G' bx' bl')
  {c:CV} {v:Value} (h:fv G w bx bl c v):fv G' w' bx' bl' c v:=by
 cases c with
 |c x=>exact bS.mC hx hs (c:=x) h
 |agg l =>
  obtain⟨cs,rfl,h⟩:=h;exact⟨cs,rfl,h.imp fun _ _=>bS.mC hx hs⟩
def kf.mC {G G':Gh}{w w':World}{bx bx':List (Nat×List AC)}{bl bl':List (Nat×Option gB)}(hx:am1 G w G' w')(hs:la G bx bl G' bx' bl')
  {c:AV} {v:Value} (h:kf G w bx bl c v):kf G' w' bx' bl' c v:=by
 cases c with
 |v x=>exact fv.mC hx hs (c:=x) h
 |UO l =>
  obtain⟨cs,rfl,h⟩:=h;exact⟨cs,rfl,h.imp fun _ _=>fv.mC hx hs⟩
def fU.mC {G G':Gh}{w w':World}(hx:am1 G w G' w'){f:Bool}{t:Ty}{cs:List Value}{xs:List t.D}(h:fU w (RO G f) t cs xs):fU w' (RO G' f) t cs xs:=by intro j x hj;obtain⟨c,hr,hc⟩:=h j x hj;exact⟨c,hx.rd hr,hc⟩
def avb {w w':World}{LJ:Nat}{e:TypeId}{size n:Nat}{v:Value}{cs:List Value}(h:w.ownsRow LJ e size v n cs)(hb:∀g,v.ownBlock=some g->w'.heap[g]?=w.heap[g]?):w'.ownsRow LJ e size v n cs:=by
 obtain⟨h1,h2⟩:=h;refine⟨h1,?_⟩;rcases h2 with h2|⟨g,cap,cur,rfl,hg,hh,r⟩
 .exact .inl h2
 .exact .inr ⟨g,cap,cur,rfl,hg,by rw[hb g rfl];exact hh,r⟩
def EA.mC {G G':Gh}{w w':World}(hx:am1 G w G' w'){id:Nat}{b:gB}(hv:G'.hv id=G.hv id)
  (ho:b.w=true->∀g,(G.hv id).ownBlock=some g->G.own g=some (.bl id)->G'.own g=some (.bl id)/\w'.heap[g]?=w.heap[g]?) (h:EA G w id b):EA G' w' id b where
 wr hw:=by
  obtain⟨cs,h1,h2,h3⟩:=h.wr hw;refine⟨cs,?_,?_,h3.mC hx⟩
  .rw[hv];exact avb h1 fun g hg=>(ho hw g hg (h2 g hg)).2
  .rw[hv];exact fun g hg=>(ho hw g hg (h2 g hg)).1
 rd hw:=by rw[hv];exact hx.rd (h.rd hw)
 pos:=h.pos
def X1.rd {G G':Gh}{w w':World}(h:X1 G w G' w'){f:Bool}{t:Ty}{x:t.D}{cs:List Value}(hr:Rd w (RO G f) t x cs):Rd w' (RO G' f) t x cs:=h.e0.rd hr
def bS.mono {G G':Gh}{w w':World}{bx bx':List (Nat×List AC)}{bl bl':List (Nat×Option gB)}(hx:X1 G w G' w')(hs:la G bx bl G' bx' bl'){c:AC}{v:Value}(h:bS G w bx bl c v):bS G' w' bx' bl' c v:=bS.mC hx.e0 hs h
def kf.mono {G G':Gh}{w w':World}{bx bx':List (Nat×List AC)}{bl bl':List (Nat×Option gB)}(hx:X1 G w G' w')(hs:la G bx bl G' bx' bl'){c:AV}{v:Value}(h:kf G w bx bl c v):kf G' w' bx' bl' c v:=kf.mC hx.e0 hs h
def fU.mono {G G':Gh}{w w':World}(hx:X1 G w G' w'){f:Bool}{t:Ty}{cs:List Value}{xs:List t.D}(h:fU w (RO G f) t cs xs):fU w' (RO G' f) t cs xs:=h.mC hx.e0
def EA.mono {G G':Gh}{w w':World}(hx:X1 G w G' w'){id:Nat}{b:gB}(hv:G'.hv id=G.hv id)
  (ho:b.w=true->∀g,(G.hv id).ownBlock=some g->G.own g=some (.bl id)->G'.own g=some (.bl id)/\w'.heap[g]?=w.heap[g]?) (h:EA G w id b):EA G' w' id b:=EA.mC hx.e0 hv ho h
def aw {U:Type}(k n:Nat)(v:U)(l:List (Nat×U)):look ((k,v)::l) n=if k=n then some v else look l n:=by
 show(match Nat.beq k n with|true=>some v|false=>look l n)=_;by_cases h:k=n
 .subst h;simp
 .have:Nat.beq k n=false:=by rw[<-Bool.not_eq_true,Nat.beq_eq];exact h
  rw[this,ah h]
def eo {U:Type}(n:Nat):∀(q l:List (Nat×U)),look (q++l) n=match look q n with|some v=>some v|none=>look l n
 |[],l=>rfl|(k,v)::q,l=>by rw[Gt,aw,aw,eo n q l];split<;>rfl
def Inv.put {w0:fR}{w:World}{G:Gh}{st:St}{a:Act}(h:Inv w0 G st a w)(d:Tmp)(hd:d<st.nt){v:AV}{u:Value}(hv:kf G w st.bx st.bl v u):Inv w0 G (st.put d v) (a.put (some d) u) w where
 nw:=h.nw
 rok:=h.rok
 below:=h.below
 defers:=h.defers
 size:=by simp[Act.put,St.put,h.size]
 sp:=h.sp
 hd:=h.hd
 tm t x hx:=by
  simp only[St.put,aw]at hx;by_cases ht:d=t
  .subst ht;simp only[iA]at hx;cases hx;have:(a.put (some d) u).tmps.getD d undef=u:=by
    have:d<a.tmps.size:=by rw[h.size];exact hd
    simp[Act.put,OP,this]
   rw[this];exact hv
  .simp only[ht,hZ]at hx;have:=h.tm t x hx;have he:(a.put (some d) u).tmps.getD t undef=a.tmps.getD t undef:=by simp[Act.put,OP,aC7,ht]
   rw[he];exact this
 bx:=h.bx
 bl:=h.bl
 own:=h.own
def Gh.grow (G:Gh)(row:Option Nat)(q:List (Nat×Option gB))(hv':Nat->Value)(nw:Nat->Option Nat):Gh :=
 {nw:=G.nw,ok:=G.ok,hb:=G.hb,
  own:=fun g=>match nw g with|some id=>some (.bl id)|none=>if row=some g then none else G.own g,
  hv:=fun id=>if (look q id).isSome then hv' id else G.hv id}
def Inv.grow {w0:fR}{w w':World}{G:Gh}{st:St}{a:Act}(h:Inv w0 G st a w)(row:Option Nat)(hg:w.grownBy w' row)
  (gO:∀g,row=some g->∃id,G.own g=some (.bl id)/\look st.bl id=some none)
  (q:List (Nat×Option gB)) (hv':Nat->Value) (nw:Nat->Option Nat)
  (hq:∀id,(look q id).isSome=true->look st.bl id=none)
  (hn:∀g id,nw g=some id->(look q id).isSome=true/\(hv' id).ownBlock=some g/\g<w'.heap.size/\(w.heap.size<=g\/row=some g))
  (hb:∀id b,look q id=some (some b)->EA (G.grow row q hv' nw) w' id b) :
  Inv w0 (G.grow row q hv' nw) {st with bl:=q++st.bl} a w'/\X1 G w (G.grow row q hv' nw) w'/\la G st.bx st.bl (G.grow row q hv' nw) st.bx (q++st.bl):=by
 have EB:w0.w.heap.size<=w.heap.size:=h.below.size;have hold:∀g,g<w.heap.size->row≠some g->(G.grow row q hv' nw).own g=G.own g/\w'.heap[g]?=w.heap[g]?:=by
  intro g hlt hne;refine⟨?_,hg.block g hlt (fun e=>hne e.symm)⟩;unfold Gh.grow;dsimp only;cases hnw:nw g with
  |none=>simp[hne]
  |some id =>
   obtain⟨_,_,_,h4⟩:=hn g id hnw;rcases h4 with h4|h4
   .omega
   .exact absurd h4 hne
 have hx:X1 G w (G.grow row q hv' nw) w':=by
  have key:∀b x,b<w.heap.size->G.own b=x->(∀id,x≠some (.bl id))->(G.grow row q hv' nw).own b=x/\w'.heap[b]?=w.heap[b]?:=by
   intro b x hb ho hx;have hne:row≠some b:=by intro e;obtain⟨id,h1,_⟩:=gO b e;exact hx id (ho.symm.trans h1)
   obtain⟨h1,h2⟩:=hold b hb hne;exact⟨h1.trans ho,h2⟩
  exact⟨rfl,rfl,hg.size,fun b hb ho=>key b _ hb ho (by simp),fun b hb ho=>key b _ hb ho (by simp)⟩
 have axX:∀id,(look st.bl id).isSome=true->look (q++st.bl) id=look st.bl id/\(look q id).isSome=false:=by
  intro id hs;have hqn:(look q id).isSome=false:=by
   cases hqs:(look q id).isSome with
   |false=>rfl|true=>rw[hq id hqs]at hs;cases hs
  refine⟨?_,hqn⟩;rw[eo];cases hql:look q id with
  |none=>rfl|some x=>rw[hql]at hqn;cases hqn
 have hs:la G st.bx st.bl (G.grow row q hv' nw) st.bx (q++st.bl):=by refine⟨fun d hd=>⟨hd,rfl⟩,fun id hd=>?_⟩;obtain⟨h1,h2⟩:=axX id hd;rw[h1];refine⟨hd,?_,fun b' CL=>⟨b',CL,rfl⟩⟩;simp[Gh.grow,h2]
 refine⟨⟨h.nw,h.rok,?_,h.defers,h.size,h.sp.mono hx hs,h.Fy hx,?_,?_,?_,?_⟩,hx,hs⟩
 .refine h.below.step hg.os hg.tape hg.output hg.size fun k hk hf=>hg.block k (Ev hk EB) fun e=>?_
  obtain⟨id,h1,_⟩:=gO k e.symm;rcases(h.own k _ h1).1 with h2|h2
  .omega
  .exact hf h2
 .exact fun t v hv=>(h.tm t v hv).mono hx hs
 .intro d l hd;obtain⟨cs,e,h1,h2,h3⟩:=h.bx d l hd;have hlt:=(h.own _ _ h2).2.1;have hne:row≠some (G.hb d):=by intro e;obtain⟨id,h4,_⟩:=gO _ e;rw[h2]at h4;cases h4
  obtain⟨h4,h5⟩:=hold _ hlt hne;exact⟨cs,e,h5.trans h1,h4.trans h2,h3.imp fun _ _=>bS.mono hx hs⟩
 .intro id b hl;rw[eo]at hl;cases hql:look q id with
  |some x =>
   rw[hql]at hl;cases hl;exact hb id b hql
  |none =>
   rw[hql]at hl;dsimp only at hl;refine(h.bl id b hl).mono hx (by simp[Gh.grow,hql]) fun hw g hgo bK=>?_
   have hlt:=(h.own _ _ bK).2.1;have hne:row≠some g:=by intro e;obtain⟨id',h4,h5⟩:=gO _ e;rw[bK]at h4;cases h4;rw[hl]at h5;cases h5
   obtain⟨h4,h5⟩:=hold _ hlt hne;exact⟨h4.trans bK,h5⟩
 .intro g k hk;have hk0:=hk;unfold Gh.grow at hk;dsimp only at hk;cases hnw:nw g with
  |some id =>
   rw[hnw]at hk;cases hk;obtain⟨h1,h2,h3,h4⟩:=hn g id hnw;refine⟨?_,h3,?_,?_⟩
   .rcases h4 with h4|h4
    .exact .inl (by omega)
    .obtain⟨id',h5,_⟩:=gO g h4;exact(h.own _ _ h5).1
   .show(look (q++st.bl) id).isSome=true;rw[eo];cases hql:look q id with
    |none=>rw[hql]at h1;cases h1|some x=>rfl
   .show((G.grow row q hv' nw).hv id).ownBlock=some g;simp[Gh.grow,h1,h2]
  |none =>
   rw[hnw]at hk;dsimp only at hk;by_cases hr:row=some g
   .simp[hr]at hk
   .simp only[hr,hZ]at hk;obtain⟨h1,h2,h3⟩:=h.own g k hk;refine⟨h1,Ev h2 hg.size,?_⟩;cases k with
    |hid=>trivial|bx d=>exact h3
    |bl id =>
     obtain⟨h4,h5⟩:=axX id h3.1;refine⟨?_,?_⟩
     .show(look (q++st.bl) id).isSome=true;rw[h4];exact h3.1
     .show((G.grow row q hv' nw).hv id).ownBlock=some g;simp only[Gh.grow,h5,afN,hZ];exact h3.2
def Gh.box (G:Gh)(d g0:Nat):Gh :=
 {nw:=G.nw,ok:=G.ok,hv:=G.hv,hb:=fun x=>if x=d then g0 else G.hb x,own:=fun g=>if g=g0 then some (.bx d) else G.own g}
def Inv.box {w0:fR}{w:World}{G:Gh}{st:St}{a:Act}(h:Inv w0 G st a w)(d:Nat)(hd:look st.bx d=none)(cs:Array Value)(e:TypeId)(l:List AC)
  (hl:cT (bS G w st.bx st.bl) l cs.toList) :
  Inv w0 (G.box d w.heap.size) {st with bx:=(d,l)::st.bx} a (w.alloc (.cells cs e))/\X1 G w (G.box d w.heap.size) (w.alloc (.cells cs e)) /\
   la G st.bx st.bl (G.box d w.heap.size) ((d,l)::st.bx) st.bl:=by
 have hx:X1 G w (G.box d w.heap.size) (w.alloc (.cells cs e)):=by
  refine⟨rfl,rfl,by simp,fun b hb ho=>⟨?_,Below.heap_alloc _ _ _ hb⟩,fun b hb ho=>⟨?_,Below.heap_alloc _ _ _ hb⟩⟩ <;>
  .have:b≠w.heap.size:=by omega
   simp[Gh.box,this,ho]
 have hne:∀x,(look st.bx x).isSome=true->x≠d:=by rintro x hs rfl;rw[hd]at hs;cases hs
 have hs:la G st.bx st.bl (G.box d w.heap.size) ((d,l)::st.bx) st.bl:=by
  refine⟨fun x hs=>⟨?_,?_⟩,fun id hd=>⟨hd,rfl,fun b' CL=>⟨b',CL,rfl⟩⟩⟩
  .rw[aw];split
   .rfl
   .exact hs
  .simp[Gh.box,hne x hs]
 refine⟨⟨h.nw,h.rok,h.below.step rfl rfl rfl (by simp) (fun k hk _=>Below.heap_alloc _ _ _ (Ev hk h.below.size)),h.defers,h.size,h.sp.mono hx hs,h.Fy hx,?_,?_,?_,?_⟩,hx,hs⟩
 .exact fun t v hv=>(h.tm t v hv).mono hx hs
 .intro x m hm;show ∃aRZ e_1,_;simp only[aw]at hm;by_cases hxd:d=x
  .subst hxd;simp only[iA]at hm;cases hm;refine⟨cs,e,?_,?_,hl.imp fun _ _=>bS.mono hx hs⟩
   .show(w.alloc _).heap[(G.box d w.heap.size).hb d]?=_;simp only[Gh.box,iA];exact heap_alloc_new w _
   .simp[Gh.box]
  .simp only[hxd,hZ]at hm;obtain⟨cs',e',h1,h2,h3⟩:=h.bx x m hm;have hlt:=(h.own _ _ h2).2.1;have aGR:x≠d:=fun e=>hxd e.symm
   refine⟨cs',e',?_,?_,h3.imp fun _ _=>bS.mono hx hs⟩
   .show(w.alloc _).heap[(G.box d w.heap.size).hb x]?=_;simp only[Gh.box,aGR,hZ];rw[Below.heap_alloc _ _ _ hlt];exact h1
   .have:G.hb x≠w.heap.size:=by omega
    simp[Gh.box,aGR,this,h2]
 .intro id b hb;refine(h.bl id b hb).mono hx rfl fun hw g hgo bK=>?_
  have hlt:=(h.own _ _ bK).2.1;refine⟨?_,Below.heap_alloc _ _ _ hlt⟩;have:g≠w.heap.size:=by omega
  simp[Gh.box,this,bK]
 .intro g k hk;by_cases hg:g=w.heap.size
  .subst hg;simp only[Gh.box,iA]at hk;cases hk;refine⟨.inl h.below.size,by simp,?_,by simp[Gh.box]⟩
   .simp[aw]
  .simp only[Gh.box,hg,hZ]at hk;obtain⟨h1,h2,h3⟩:=h.own g k hk;refine⟨h1,by simp;omega,?_⟩;cases k with
   |hid=>trivial
   |bx x =>
    obtain⟨h4,h5⟩:=hs.bx x h3.1;exact⟨h4,by rw[h5];exact h3.2⟩
   |bl id=>exact h3
def xN {w:World}{g k:Nat}{cs:Array Value}(h:k≠g):(w.setRow g cs).heap[k]?=w.heap[k]?:=setRow_other w g k cs h
def aa6 {G:Gh}{w:World}{g:Nat}{cs:Array Value}{k:Key}(hk:G.own g=some k)(hn:k≠.hid):X1 G w G (w.setRow g cs):=by
 refine⟨rfl,rfl,by simp,fun b hb ho=>⟨ho,xN ?_⟩,fun b hb ho=>⟨ho,xN ?_⟩⟩
 .rintro rfl;rw[hk]at ho;cases ho
 .rintro rfl;rw[hk]at ho;cases ho;exact hn rfl
def xO {U:Type}{n k:Nat}{l:List (Nat×U)}(v:U)(_:True:=trivial)(h:(look l n).isSome=true):(look ((k,v)::l) n).isSome=true:=by
 rw[aw];split
 .rfl
 .exact h
def la.refl (G:Gh)(bx:List (Nat×List AC))(bl:List (Nat×Option gB)):la G bx bl G bx bl :=
 ⟨fun _ h=>⟨h,rfl⟩,fun _ h=>⟨h,rfl,fun b' CL=>⟨b',CL,rfl⟩⟩⟩
def la.aBb (G:Gh)(bx:List (Nat×List AC))(bl:List (Nat×Option gB))(b:Nat)(l:List AC):la G bx bl G ((b,l)::bx) bl :=
 ⟨fun d h=>⟨xO _ trivial h,rfl⟩,fun _ h=>⟨h,rfl,fun b' CL=>⟨b',CL,rfl⟩⟩⟩
def la.avc {G:Gh}{bx:List (Nat×List AC)}{bl:List (Nat×Option gB)}{G':Gh}(id:Nat)(x:Option gB)(hb:G'.hb=G.hb)(hv:G'.hv=G.hv)
  (hx:∀b',x=some b'->∃b,look bl id=some (some b)/\b.t=b'.t):la G bx bl G' bx ((id,x)::bl) :=
 ⟨fun d h=>⟨h,by rw[hb]⟩,fun i h=>by
  refine⟨xO _ trivial h,by rw[hv],fun b' CL=>?_⟩;rw[aw]at CL;by_cases hi:id=i
  .subst hi;simp only[iA]at CL;cases CL;exact hx b' rfl
  .simp only[hi,hZ]at CL;exact⟨b',CL,rfl⟩⟩
def Inv.aLV {w0:fR}{w:World}{G:Gh}{st:St}{a:Act}(h:Inv w0 G st a w)(b:Nat)(l:List AC)(hl:look st.bx b=some l)(cs':Array Value)(l':List AC)
  (hr:cT (bS G w st.bx st.bl) l' cs'.toList):Inv w0 G {st with bx:=(b,l')::st.bx} a (w.setRow (G.hb b) cs'):=by
 obtain⟨cs,e,hh,bK,_⟩:=h.bx b l hl;have hx:=aa6 (w:=w) (cs:=cs') bK (by simp);have hs:=la.aBb G st.bx st.bl b l';have EB:=(h.own _ _ bK).1;refine⟨h.nw,h.rok,?_,h.defers,h.size,h.sp.mono hx hs,h.Fy hx,?_,?_,?_,?_⟩
 .refine h.below.step rfl rfl rfl (by simp) fun k hk hf=>xN ?_
  rintro rfl;rcases EB with hb|hb
  .omega
  .exact hf hb
 .exact fun t v hv=>(h.tm t v hv).mono hx hs
 .intro d m hm;simp only[aw]at hm;by_cases hd:b=d
  .subst hd;simp only[iA]at hm;cases hm;exact⟨cs',e,setRow_heap w _ cs _ e _ hh,bK,hr.imp fun _ _=>bS.mono hx hs⟩
  .simp only[hd,hZ]at hm;obtain⟨cs2,e2,h1,h2,h3⟩:=h.bx d m hm;refine⟨cs2,e2,?_,h2,h3.imp fun _ _=>bS.mono hx hs⟩;rw[xN]
   .exact h1
   .intro e3;rw[e3,bK]at h2;cases h2;exact hd rfl
 .intro id bk hb;refine(h.bl id bk hb).mono hx rfl fun hw g hg ho=>⟨ho,xN ?_⟩
  rintro rfl;rw[bK]at ho;cases ho
 .intro g k hk;obtain⟨h1,h2,h3⟩:=h.own g k hk;refine⟨h1,by simpa using h2,?_⟩;cases k with
  |hid=>trivial|bx x=>exact⟨(hs.bx x h3.1).1,h3.2⟩|bl id=>exact h3
def Inv.aJH {w0:fR}{w:World}{G:Gh}{st:St}{a:Act}(h:Inv w0 G st a w)(id:Nat)(b:gB)(hl:look st.bl id=some (some b))(hw:b.w=true)
  (g:Nat) (hg:(G.hv id).ownBlock=some g) (cur':Array Value) (b':gB) (ht:b'.t=b.t)
  (hb:EA G (w.setRow g cur') id b'):Inv w0 G {st with bl:=(id,some b')::st.bl} a (w.setRow g cur'):=by
 obtain⟨cs,h1,h2,h3⟩:=(h.bl id b hl).wr hw;have bK:=h2 g hg;have hx:=aa6 (w:=w) (cs:=cur') bK (by simp);have hs:la G st.bx st.bl G st.bx ((id,some b')::st.bl):=la.avc id (some b') rfl rfl fun x hx=>by cases hx;exact⟨b,hl,ht.symm⟩
 have EB:=(h.own _ _ bK).1;refine⟨h.nw,h.rok,?_,h.defers,h.size,h.sp.mono hx hs,h.Fy hx,?_,?_,?_,?_⟩
 .refine h.below.step rfl rfl rfl (by simp) fun k hk hf=>xN ?_
  rintro rfl;rcases EB with hb|hb
  .omega
  .exact hf hb
 .exact fun t v hv=>(h.tm t v hv).mono hx hs
 .intro d m hm;obtain⟨cs2,e2,h4,h5,h6⟩:=h.bx d m hm;refine⟨cs2,e2,?_,h5,h6.imp fun _ _=>bS.mono hx hs⟩;rw[xN]
  .exact h4
  .intro e3;rw[e3,bK]at h5;cases h5
 .intro i bk hbk;simp only[aw]at hbk;by_cases hi:id=i
  .subst hi;simp only[iA]at hbk;cases hbk;exact hb
  .simp only[hi,hZ]at hbk;refine(h.bl i bk hbk).mono hx rfl fun hw g' hg' ho=>⟨ho,xN ?_⟩
   rintro rfl;rw[bK]at ho;cases ho;exact hi rfl
 .intro g' k hk;obtain⟨h4,h5,h6⟩:=h.own g' k hk;refine⟨h4,by simpa using h5,?_⟩;cases k with
  |hid=>trivial|bx x=>exact h6|bl i=>exact⟨(hs.bl i h6.1).1,h6.2⟩
def ate {w:World}{ok:Nat->Prop}{LJ:Nat}{e:TypeId}{t:Ty}{v:Value}{cs:List Value}{xs:List t.D}(ho:w.ownsRow LJ e t.n v xs.length cs)(he:fU w ok t cs xs)
  (dZ:∀g,v.ownBlock=some g->ok g) (hp:0<t.n):Rd w ok (.sl e t) xs [v]:=by
 rcases ho.2 with ⟨rfl,hn⟩|⟨g,cap,cur,rfl,hb,hh,hc,hm,hs,htk⟩
 .refine⟨none,0,by rw[hn],by omega,by omega,fun h0=>by omega⟩
 .refine⟨some ⟨g,0,none⟩,cap,rfl,hc,?_,fun h0=>⟨g,0,rfl,(Bj.1 hh).1,dZ g rfl,fun j x hj=>?_⟩⟩
  .have:maxLen=9223372036854775807:=rfl;omega
  .obtain⟨c,hr,hcell⟩:=he j x hj;refine⟨c,hr,fun i u hu=>?_⟩;have:=hcell i u hu;rw[<-htk]at this;rw[xK];have h2:w.cell? ⟨g,j*t.n+i,none⟩=cur[j*t.n+i]?:=cell_of_row w g _ cur e (0,0) hh;rw[h2];rw[OQ]at this;split at this
   .simpa using this
   .cases this
def Gh.drop (G:Gh)(id:Nat):Gh :=
 {nw:=G.nw,ok:=G.ok,hb:=G.hb,hv:=G.hv,own:=fun g=>match G.own g with|some (.bl i)=>if i=id then none else some (.bl i)|k=>k}
def Gh.aEU {G:Gh}{id g:Nat}(h:G.own g=none):(G.drop id).own g=none:=by simp[Gh.drop,h]
def Gh.aJJ {G:Gh}{id g d:Nat}(h:G.own g=some (.bx d)):(G.drop id).own g=some (.bx d):=by simp[Gh.drop,h]
def Gh.aJK {G:Gh}{id g i:Nat}(h:G.own g=some (.bl i))(hi:i≠id):(G.drop id).own g=some (.bl i):=by simp[Gh.drop,h,hi]
def Gh.aEV {G:Gh}{id g:Nat}(h:G.own g=some (.bl id)):(G.drop id).own g=none:=by simp[Gh.drop,h]
def Inv.drop {w0:fR}{w:World}{G:Gh}{st:St}{a:Act}(h:Inv w0 G st a w)(id:Nat)(b:gB)(hl:look st.bl id=some (some b)) :
  Inv w0 (G.drop id) {st with bl:=(id,some {b with w:=false})::st.bl} a w/\X1 G w (G.drop id) w/\la G st.bx st.bl (G.drop id) st.bx ((id,some {b with w:=false})::st.bl):=by
 have hx:X1 G w (G.drop id) w:=⟨rfl,rfl,bZ _,fun g _ ho=>⟨Gh.aEU ho,rfl⟩,fun g _ ho=>⟨by simp[Gh.drop,ho],rfl⟩⟩;have hs:la G st.bx st.bl (G.drop id) st.bx ((id,some {b with w:=false})::st.bl):=la.avc id _ rfl rfl fun x hx=>by cases hx;exact⟨b,hl,rfl⟩
 refine⟨⟨h.nw,h.rok,h.below,h.defers,h.size,h.sp.mono hx hs,h.Fy hx,?_,?_,?_,?_⟩,hx,hs⟩
 .exact fun t v hv=>(h.tm t v hv).mono hx hs
 .intro d m hm;obtain⟨cs2,e2,h4,h5,h6⟩:=h.bx d m hm;exact⟨cs2,e2,h4,Gh.aJJ h5,h6.imp fun _ _=>bS.mono hx hs⟩
 .intro i bk hbk;simp only[aw]at hbk;by_cases hi:id=i
  .subst hi;simp only[iA]at hbk;cases hbk;have hb:=h.bl id b hl;refine⟨fun hw=>by simp at hw,fun _=>?_,hb.pos⟩;cases hw:b.w with
   |false=>exact hx.rd (hb.rd hw)
   |true =>
    obtain⟨cs,h1,h2,h3⟩:=hb.wr hw;refine ate h1 (h3.mono hx) (fun g hg=>⟨Gh.aEV (h2 g hg),.inl ?_⟩) hb.pos;exact h.U9 (h2 g hg)
  .simp only[hi,hZ]at hbk;exact(h.bl i bk hbk).mono hx rfl fun hw g' hg' ho=>⟨Gh.aJK ho (fun e=>hi e.symm),rfl⟩
 .intro g k hk;unfold Gh.drop at hk;dsimp only at hk;cases ho:G.own g with
  |none=>rw[ho]at hk;cases hk
  |some k0 =>
   rw[ho]at hk;obtain⟨h4,h5,h6⟩:=h.own g k0 ho;cases k0 with
   |hid=>cases hk;exact⟨h4,h5,trivial⟩
   |bx d =>
    cases hk;exact⟨h4,h5,h6⟩
   |bl i =>
    dsimp only at hk;by_cases hi:i=id
    .simp[hi]at hk
    .simp only[hi,hZ]at hk;cases hk;exact⟨h4,h5,(hs.bl i h6.1).1,h6.2⟩
def Inv.kill {w0:fR}{w:World}{G:Gh}{st:St}{a:Act}(h:Inv w0 G st a w)(id:Nat)(hl:(look st.bl id).isSome=true) :
  Inv w0 G {st with bl:=(id,none)::st.bl} a w/\la G st.bx st.bl G st.bx ((id,none)::st.bl):=by
 have hx:X1 G w G w:=⟨rfl,rfl,bZ _,fun g _ ho=>⟨ho,rfl⟩,fun g _ ho=>⟨ho,rfl⟩⟩;have hs:la G st.bx st.bl G st.bx ((id,none)::st.bl):=la.avc id none rfl rfl fun x hx=>by cases hx
 refine⟨⟨h.nw,h.rok,h.below,h.defers,h.size,h.sp.mono hx hs,h.Fy hx,?_,?_,?_,?_⟩,hs⟩
 .exact fun t v hv=>(h.tm t v hv).mono hx hs
 .intro d m hm;obtain⟨cs2,e2,h4,h5,h6⟩:=h.bx d m hm;exact⟨cs2,e2,h4,h5,h6.imp fun _ _=>bS.mono hx hs⟩
 .intro i bk hbk;simp only[aw]at hbk;by_cases hi:id=i
  .simp[hi]at hbk
  .simp only[hi,hZ]at hbk;exact h.bl i bk hbk
 .intro g k hk;obtain⟨h4,h5,h6⟩:=h.own g k hk;refine⟨h4,h5,?_⟩;cases k with
  |hid=>trivial|bx x=>exact h6|bl i=>exact⟨(hs.bl i h6.1).1,h6.2⟩
end Go.Am
