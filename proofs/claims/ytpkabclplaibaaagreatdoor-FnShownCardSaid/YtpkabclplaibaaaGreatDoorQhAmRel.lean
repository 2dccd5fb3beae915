/- No condition. -/
import Derived.Test.YtpkabclplaibaaaGreatDoorQhAmT
import Derived.Below
import Derived.Maps.AppendAt
import Derived.Laws.Rows
import Derived.Laws.CopyRow
set_option linter.all false
namespace Go.Am
open Go.RowKit
def bD {U V:Type}(R:U->V->Prop):List U->List V->Prop
 |[],[]=>True|a::l,b::m=>R a b/\bD R l m|_,_=>False
def bD.len {U V:Type}{R:U->V->Prop}:∀{l:List U} {m:List V},bD R l m->l.length=m.length
 |[],[],_=>rfl|a::l,b::m,h=>by simp[bD.len h.2]
 |[],_::_,h=>h.elim|_::_,[],h=>h.elim
def bD.imp {U V:Type}{R S:U->V->Prop}(c:∀a b,R a b->S a b):∀{l:List U} {m:List V},bD R l m->bD S l m
 |[],[],_=>trivial|a::l,b::m,h=>⟨c _ _ h.1,bD.imp c h.2⟩|[],_::_,h=>h.elim|_::_,[],h=>h.elim
def bD.app {U V:Type}{R:U->V->Prop}:∀{l c:List U} {m d:List V},bD R l m->bD R c d->bD R (l++c) (m++d)
 |[],_,[],_,_,h=>h|a::l,_,b::m,_,h,e=>⟨h.1,bD.app h.2 e⟩|[],_,_::_,_,h,_=>h.elim|_::_,_,[],_,h,_=>h.elim
def bD.nth {U V:Type}{R:U->V->Prop}:∀{l:List U} {m:List V},bD R l m->∀{i:Nat} {x:U},gU l i=some x->∃y,m[i]?=some y/\R x y
 |a::l,b::m,h,0,x,c=>⟨b,rfl,by cases c;exact h.1⟩
 |a::l,b::m,h,i+1,x,c=>by obtain⟨y,d,e⟩:=bD.nth h.2 (i:=i) (x:=x) c;exact⟨y,by simpa using d,e⟩
 |[],[],_,_,_,c=>by simp[gU]at c
 |[],_::_,h,_,_,_=>h.elim|_::_,[],h,_,_,_=>h.elim
def bD.take {U V:Type}{R:U->V->Prop}:∀(n:Nat) {l:List U} {m:List V},bD R l m->bD R (nk n l) (m.take n)
 |0,l,m,h=>by simp[nk,bD]
 |n+1,[],[],_=>by simp[nk,bD]
 |n+1,a::l,b::m,h=>⟨h.1,bD.take n h.2⟩|_+1,[],_::_,h=>h.elim|_+1,_::_,[],h=>h.elim
def bD.drop {U V:Type}{R:U->V->Prop}:∀(n:Nat) {l:List U} {m:List V},bD R l m->bD R (nm n l) (m.drop n)
 |0,l,m,h=>by simpa [nm]using h
 |n+1,[],[],_=>by simp[nm,bD]
 |n+1,a::l,b::m,h=>bD.drop n h.2|_+1,[],_::_,h=>h.elim|_+1,_::_,[],h=>h.elim
def bD.set {U V:Type}{R:U->V->Prop}:∀{l:List U} {m:List V},bD R l m->∀(i:Nat) {x:U} {y:V},R x y->bD R (x1 l i x) (m.set i y)
 |a::l,b::m,h,0,x,y,c=>⟨c,h.2⟩|a::l,b::m,h,i+1,x,y,c=>⟨h.1,bD.set h.2 i c⟩|[],[],_,_,_,_,_=>by simp[x1,bD]
 |[],_::_,h,_,_,_,_=>h.elim|_::_,[],h,_,_,_,_=>h.elim
def BC {U:Type}:List U->Nat->List U->List U
 |l,_,[]=>l|l,n,v::a=>BC (l.set n v) (n+1) a
def bD.Ae {U V:Type}{R:U->V->Prop}:∀{vs:List U} {us:List V} {l:List U} {m:List V} (i:Nat),bD R l m->bD R vs us->bD R (Am.Ae l i vs) (BC m i us)
 |[],[],_,_,_,h,_=>h|v::vs,u::us,_,_,i,h,a=>bD.Ae (i+1) (h.set i a.1) a.2|[],_::_,_,_,_,_,h=>h.elim|_::_,[],_,_,_,_,h=>h.elim
structure ao1 where
 n:Nat
abbrev ds:Type:=Inhabited ao1
def ds.n [ds]:Nat:=(default:ao1).n
abbrev ds.of (n:Nat):ds:=⟨⟨n⟩⟩
variable [ds]
def KD (w:World)(e:TypeId)(t:Ty)(b o c:Nat):Prop :=
 (ds.n<=b\/big t=true)->ds.n<=b/\∃cur a,w.heap[b]?=some (.cells cur e a)/\(big t=true->o=0/\a=(0,0)/\cur.size=c*t.n/\c<=maxLen)
def KD.mono {w w':World}{e:TypeId}{t:Ty}{b o c:Nat}(h:w'.heap[b]?=w.heap[b]?)(a:KD w e t b o c):KD w' e t b o c:=by unfold KD at a ⊢;rw[h];exact a
def KD.part {w:World}{e:TypeId}{t:Ty}{b o c l d:Nat}(f:big t=false)(g:KD w e t b o l):KD w e t b c d:=by intro h;obtain⟨i,cur,j,k,_⟩:=g h;exact⟨i,cur,j,k,fun a=>by rw[f]at a;cases a⟩
def Lv (t:Ty)(n:Nat)(A:Option Addr)(a:Nat):Prop:=0<n\/(big t=true/\(0<a\/A≠none))
def Lv.nil {t:Ty}{p:Prop}(h:Lv t 0 none 0):p:=by
 rcases h with h|⟨_,h|h⟩
 .exact absurd h (Ti _)
 .exact absurd h (Ti _)
 .exact absurd rfl h
def Rd (w:World)(ok:Nat->Prop):(t:Ty)->t.D->List Value->Prop
 |.int k,x,cs=>cs=[.int k x]|.bool,x,cs=>cs=[.bool x]|.str,x,cs=>cs=[.string x]|.unit,_,cs=>cs=[]|.pair a b,x,cs=>∃f g,cs=f++g/\Rd w ok a x.1 f/\Rd w ok b x.2 g|.sl e t,xs,cs=>∃A cap,cs=[.slice A xs.length cap]/\xs.length<=cap/\xs.length<=9223372036854775807 /\
   (Lv t xs.length A cap->∃b d,A=some ⟨b,d,none⟩/\b<w.heap.size/\ok b/\KD w e t b d cap /\
    ∀h x,xs[h]?=some x->∃c,Rd w ok t x c/\∀i u,c[i]?=some u->w.cell? ⟨b,d+(h*t.n+i),none⟩=some u)
def Rd.len {w:World}{ok:Nat->Prop}:∀{t:Ty} {x:t.D} {cs:List Value},Rd w ok t x cs->cs.length=t.n
 |.int _,_,_,h=>by rw[show _=_ from h];rfl
 |.bool,_,_,h=>by rw[show _=_ from h];rfl
 |.str,_,_,h=>by rw[show _=_ from h];rfl
 |.unit,_,_,h=>by rw[show _=_ from h];rfl
 |.pair a b,_,_,h=>by obtain⟨f,g,rfl,c,d⟩:=h;simp[Ty.n,c.len,d.len]
 |.sl e t,xs,cs,h=>by obtain⟨A,cap,rfl,_⟩:=h;rfl
def Rd.one {w:World}{ok:Nat->Prop}:∀{t:Ty} {x:t.D} {cs:List Value},Rd w ok t x cs->∀u∈cs,u.oneCell'=true
 |.int _,_,_,h,u,c=>by rw[show _=_ from h]at c;simp at c;subst c;rfl
 |.bool,_,_,h,u,c=>by rw[show _=_ from h]at c;simp at c;subst c;rfl
 |.str,_,_,h,u,c=>by rw[show _=_ from h]at c;simp at c;subst c;rfl
 |.unit,_,_,h,u,c=>by rw[show _=_ from h]at c;simp at c
 |.pair a b,_,_,h,u,c=>by
  obtain⟨g,i,rfl,d,f⟩:=h;rcases en.1 c with c|c
  .exact d.one u c
  .exact f.one u c
 |.sl e t,xs,cs,h,u,c=>by obtain⟨A,cap,rfl,_⟩:=h;simp at c;subst c;rfl
def cell_of_heap {w w':World}{b:Nat}(h:w'.heap[b]?=w.heap[b]?)(o:Nat):w'.cell? ⟨b,o,none⟩=w.cell? ⟨b,o,none⟩:=World.cell?_of_block (w:=w) (w':=w') (a:=⟨b,o,none⟩) h
def Rd.mono {w w':World}{ok g:Nat->Prop}(f:w.heap.size<=w'.heap.size)(d:∀b,b<w.heap.size->ok b->g b/\w'.heap[b]?=w.heap[b]?) :
  ∀{t:Ty} {x:t.D} {cs:List Value},Rd w ok t x cs->Rd w' g t x cs
 |.int _,_,_,h=>h|.bool,_,_,h=>h|.str,_,_,h=>h|.unit,_,_,h=>h|.pair a b,_,_,h=>by obtain⟨k,l,rfl,m,n⟩:=h;exact⟨k,l,rfl,m.mono f d,n.mono f d⟩
 |.sl e t,xs,cs,h=>by obtain⟨A,cap,rfl,o,p,h⟩:=h;refine⟨A,cap,rfl,o,p,fun q=>?_⟩;obtain⟨b,r,rfl,s,cR,v,y⟩:=h q;obtain⟨z,j⟩:=d b s cR;refine⟨b,r,rfl,by omega,z,v.mono j,fun B x C=>?_⟩;obtain⟨c,D,E⟩:=y B x C;exact⟨c,D.mono f d,fun i u F=>by rw[cell_of_heap j];exact E i u F⟩
inductive Key where
 |bx (d:Nat)
 |bl (id:Nat)
 |hid
structure Gh where
 nw:Nat->Prop
 own:Nat->Option Key
 hb:Nat->Nat
 hv:Nat->Value
 ok:Nat->Prop
def RO (G:Gh)(f:Bool)(b:Nat):Prop:=G.own b=none/\(G.nw b\/(f=false/\G.ok b))
def RO.BD {G:Gh}{f a:Bool}(h:a=true->f=true){g:Nat}(c:RO G f g):RO G a g :=
 ⟨c.1,c.2.imp_right fun b=>⟨by cases a with|false=>rfl|true=>rw[h rfl]at b;exact absurd b.1 (by simp),b.2⟩⟩
def a7 (G:Gh)(w:World)(bx:List (Nat×List AC))(bl:List (Nat×Option dD)):AC->Value->Prop
 |.none,_=>True|.int k n,v=>v=.int k n|.bool b,v=>v=.bool b|.str s,v=>v=.string s|.nil,v=>v=.slice none 0 0|.ro f e t xs,v=>Rd w (RO G f) (.sl e t) xs [v]|.own id none,v=>(look bl id).isSome=true/\(∃A n cap,G.hv id=.slice A n cap)/\v=G.hv id|.own id (some l),v=>(look bl id).isSome=true/\0<=l/\∃A n cap,G.hv id=.slice A n cap/\l<=n/\v=.slice A l.toNat cap|.ptr b off,v=>(look bx b).isSome=true/\v=.pointer (some ⟨G.hb b,off,none⟩)|.any,v=>v.oneCell'=true|.fnp g b,v=>(look bx b).isSome=true/\v=.func (.func g) #[] #[.pointer (some ⟨G.hb b,0,none⟩)]|.qV id i off,v=>(look bl id).isSome=true/\v.oneCell'=true/\0<=i/\∃g a n cap,G.hv id=.slice (some ⟨g,a,none⟩) n cap/\i<n /\
   ∀b,look bl id=some (some b)->v=.pointer (some ⟨g,a+(i.toNat*b.t.n+off),none⟩)
 |.IS f t x off,v=>∃b a c,v=.pointer (some ⟨b,a+off,none⟩)/\b<w.heap.size/\RO G f b/\Rd w (RO G f) t x c/\∀i u,c[i]?=some u->w.cell? ⟨b,a+i,none⟩=some u
def da (G:Gh)(w:World)(bx:List (Nat×List AC))(bl:List (Nat×Option dD)):CV->Value->Prop
 |.c x,v=>a7 G w bx bl x v|.agg l,v=>∃cs,v=.agg cs/\bD (a7 G w bx bl) l cs.toList
def eK (G:Gh)(w:World)(bx:List (Nat×List AC))(bl:List (Nat×Option dD)):AV->Value->Prop
 |.v x,v=>da G w bx bl x v|.GF l,v=>∃a,v=.tuple a/\bD (da G w bx bl) l a.toList
def dx (w:World)(ok:Nat->Prop)(t:Ty)(cs:List Value)(xs:List t.D):Prop :=
 ∀a x,xs[a]?=some x->∃c,Rd w ok t x c/\∀i u,c[i]?=some u->cs[a*t.n+i]?=some u
structure wh (G:Gh) (w:World) (id:Nat) (b:dD):Prop where
 wr:b.w=true->∃cs,w.ownsRow 0 b.e b.t.n (G.hv id) b.xs.length cs/\(∀g,(G.hv id).ownBlock=some g->G.own g=some (.bl id))/\dx w (RO G b.f) b.t cs b.xs
 rd:b.w=false->Rd w (RO G b.f) (.sl b.e b.t) b.xs [G.hv id]
 pos:0<b.t.n
structure dh (fr:Nat->Prop) (w w':World):Prop where
 os:w'.os=w.os
 tape:w'.tape=w.tape
 output:w'.output=w.output
 size:w.heap.size<=w'.heap.size
 block:∀k,k<w.heap.size->¬fr k->w'.heap[k]?=w.heap[k]?
def dh.refl (a:Nat->Prop)(w:World):dh a w w:=⟨rfl,rfl,rfl,bq _,fun _ _ _=>rfl⟩
def dh.step {b:Nat->Prop}{a w w':World}(h:dh b a w)(e:w'.os=w.os)(f:w'.tape=w.tape)(g:w'.output=w.output)(j:w.heap.size<=w'.heap.size)
  (l:∀k,k<a.heap.size->¬b k->w'.heap[k]?=w.heap[k]?):dh b a w' :=
 ⟨e.trans h.os,f.trans h.tape,g.trans h.output,aL h.size j,fun i c d=>(l i c d).trans (h.block i c d)⟩
def dh.below {a:Nat->Prop}{w w':World}(h:dh a w w')(c:∀b,¬a b):Below w.heap.size w w':=⟨h.os,h.tape,h.output,h.size,fun k d=>h.block k d (c k)⟩
structure di where
 w:World
 ok:Nat->Prop
 nw:Nat->Prop
 fr:Nat->Prop
 Rz:∀b,w.heap.size<=b->nw b
 Ud:∀b,fr b->nw b
 hB:ds.n<=w.heap.size
 hBf:∀b,fr b->ds.n<=b
 pv:Value:=.slice none 0 0
 hd:Nat->Option (Bool×Obj):=fun _=>none
def aiS:Bool->Option Key
 |true=>some .hid|false=>none
structure Inv (w0:di) (G:Gh) (st:St) (a:Act) (w:World):Prop where
 nw:G.nw=w0.nw
 Pt:G.ok=w0.ok
 below:dh w0.fr w0.w w
 defers:a.defers=[]
 size:a.tmps.size=st.nt
 sp:eK G w st.bx st.bl st.sp w0.pv
 hd:∀g b o,w0.hd g=some (b,o)->G.own g=aiS b/\g<w.heap.size/\w.heap[g]?=some o
 tm:∀t v,look st.tm t=some v->eK G w st.bx st.bl v (a.tmps.getD t undef)
 bx:∀d l,look st.bx d=some l->∃cs e,w.heap[G.hb d]?=some (.cells cs e (0,0))/\G.own (G.hb d)=some (.bx d)/\bD (a7 G w st.bx st.bl) l cs.toList
 bl:∀id b,look st.bl id=some (some b)->wh G w id b
 own:∀g k,G.own g=some k->(w0.w.heap.size<=g\/w0.fr g)/\g<w.heap.size/\match k with
  |.bx d=>(look st.bx d).isSome=true/\g=G.hb d|.bl id=>(look st.bl id).isSome=true/\(G.hv id).ownBlock=some g|.hid=>True
def Inv.agW {w0:di}{G:Gh}{st:St}{a:Act}{w:World}(h:Inv w0 G st a w)(l:List Nat):Inv w0 G {st with rob:=l} a w:=⟨h.nw,h.Pt,h.below,h.defers,h.size,h.sp,h.hd,h.tm,h.bx,h.bl,h.own⟩
def Inv.Jk {w0:di}{G:Gh}{st:St}{a:Act}{w:World}(h:Inv w0 G st a w){g:Nat}{k:Key}(c:G.own g=some k):G.nw g:=by
 rw[h.nw];rcases(h.own g k c).1 with b|b
 .exact w0.Rz g b
 .exact w0.Ud g b
def Inv.anR {w0:di}{G:Gh}{st:St}{a:Act}{w:World}(h:Inv w0 G st a w){g:Nat}{k:Key}(c:G.own g=some k):ds.n<=g:=by
 rcases(h.own g k c).1 with b|b
 .exact aL w0.hB b
 .exact w0.hBf g b
def Inv.arA {w0:di}{G:Gh}{st:St}{a:Act}{w:World}(h:Inv w0 G st a w):ds.n<=w.heap.size:=aL w0.hB h.below.size
def Inv.aei {w0:di}{G:Gh}{st:St}{a:Act}{w:World}(h:Inv w0 G st a w){g:Nat}(b:w.heap.size<=g):G.nw g:=by rw[h.nw];exact w0.Rz g (aL h.below.size b)
structure LB (G:Gh) (w:World) (G':Gh) (w':World):Prop where
 nw:G'.nw=G.nw
 ok:G'.ok=G.ok
 size:w.heap.size<=w'.heap.size
 ro:∀b,b<w.heap.size->G.own b=none->G'.own b=none/\w'.heap[b]?=w.heap[b]?
 hid:∀b,b<w.heap.size->G.own b=some .hid->G'.own b=some .hid/\w'.heap[b]?=w.heap[b]?
def Inv.x3 {w0:di}{G j:Gh}{st:St}{a:Act}{w w':World}(h:Inv w0 G st a w)(c:LB G w j w'):∀g b d,w0.hd g=some (b,d)->j.own g=aiS b/\g<w'.heap.size/\w'.heap[g]?=some d:=by
 intro g b d m;obtain⟨k,e,l⟩:=h.hd g b d m;cases b with
 |true =>
  obtain⟨f,i⟩:=c.hid g e k;exact⟨f,wa e c.size,i.trans l⟩
 |false =>
  obtain⟨f,i⟩:=c.ro g e k;exact⟨f,wa e c.size,i.trans l⟩
structure Wl (G:Gh) (w:World) (G':Gh) (w':World):Prop where
 nw:G'.nw=G.nw
 ok:G'.ok=G.ok
 size:w.heap.size<=w'.heap.size
 ro:∀b,b<w.heap.size->G.own b=none->G'.own b=none/\w'.heap[b]?=w.heap[b]?
def LB.e0 {G a:Gh}{w w':World}(h:LB G w a w'):Wl G w a w':=⟨h.nw,h.ok,h.size,h.ro⟩
def Wl.rd {G a:Gh}{w w':World}(h:Wl G w a w'){f:Bool}{t:Ty}{x:t.D}{cs:List Value}(d:Rd w (RO G f) t x cs):Rd w' (RO a f) t x cs :=
 d.mono h.size fun b c cR=>⟨⟨(h.ro b c cR.1).1,by rw[h.nw,h.ok];exact cR.2⟩,(h.ro b c cR.1).2⟩
structure gw (G:Gh) (bx:List (Nat×List AC)) (bl:List (Nat×Option dD)) (G':Gh) (bx':List (Nat×List AC)) (bl':List (Nat×Option dD)):Prop where
 bx:∀d,(look bx d).isSome=true->(look bx' d).isSome=true/\G'.hb d=G.hb d
 bl:∀id,(look bl id).isSome=true->(look bl' id).isSome=true/\G'.hv id=G.hv id/\∀b',look bl' id=some (some b')->∃b,look bl id=some (some b)/\b.t=b'.t
def a7.ib {G o:Gh}{w w':World}{bx bx':List (Nat×List AC)}{bl bl':List (Nat×Option dD)}(d:Wl G w o w')(a:gw G bx bl o bx' bl') :
  ∀{c:AC} {v:Value},a7 G w bx bl c v->a7 o w' bx' bl' c v
 |.none,_,_=>trivial|.int _ _,_,h=>h|.bool _,_,h=>h|.str _,_,h=>h|.nil,_,h=>h|.any,_,h=>h|.ro f e t xs,_,h=>d.rd (t:=.sl e t) h|.own id none,v,h=>⟨(a.bl id h.1).1,by rw[(a.bl id h.1).2.1];exact h.2.1,by rw[(a.bl id h.1).2.1];exact h.2.2⟩
 |.own id (some l),v,h=>by obtain⟨j,p,A,n,cap,k,r,rfl⟩:=h;exact⟨(a.bl id j).1,p,A,n,cap,by rw[(a.bl id j).2.1];exact k,r,rfl⟩
 |.ptr b off,v,h=>⟨(a.bx b h.1).1,by rw[(a.bx b h.1).2];exact h.2⟩
 |.fnp g b,v,h=>⟨(a.bx b h.1).1,by rw[(a.bx b h.1).2];exact h.2⟩
 |.qV id i off,v,h=>by obtain⟨j,s,p,g,q,n,cap,k,y,h⟩:=h;refine⟨(a.bl id j).1,s,p,g,q,n,cap,by rw[(a.bl id j).2.1];exact k,y,fun z B=>?_⟩;obtain⟨b,m,C⟩:=(a.bl id j).2.2 z B;rw[<-C];exact h b m
 |.IS f t x off,v,h=>by obtain⟨b,q,c,k,m,cR,D,E⟩:=h;obtain⟨F,H⟩:=d.ro b m cR.1;exact⟨b,q,c,k,wa m d.size,⟨F,by rw[d.nw,d.ok];exact cR.2⟩,d.rd D,fun i u I=>by rw[cell_of_heap H];exact E i u I⟩
def da.ib {G a:Gh}{w w':World}{bx bx':List (Nat×List AC)}{bl bl':List (Nat×Option dD)}(b:Wl G w a w')(d:gw G bx bl a bx' bl')
  {c:CV} {v:Value} (h:da G w bx bl c v):da a w' bx' bl' c v:=by
 cases c with
 |c x=>exact a7.ib b d (c:=x) h
 |agg l =>
  obtain⟨cs,rfl,h⟩:=h;exact⟨cs,rfl,h.imp fun _ _=>a7.ib b d⟩
def eK.ib {G a:Gh}{w w':World}{bx bx':List (Nat×List AC)}{bl bl':List (Nat×Option dD)}(b:Wl G w a w')(d:gw G bx bl a bx' bl')
  {c:AV} {v:Value} (h:eK G w bx bl c v):eK a w' bx' bl' c v:=by
 cases c with
 |v x=>exact da.ib b d (c:=x) h
 |GF l =>
  obtain⟨cs,rfl,h⟩:=h;exact⟨cs,rfl,h.imp fun _ _=>da.ib b d⟩
def dx.ib {G a:Gh}{w w':World}(b:Wl G w a w'){f:Bool}{t:Ty}{cs:List Value}{xs:List t.D}(h:dx w (RO G f) t cs xs):dx w' (RO a f) t cs xs:=by intro d x e;obtain⟨c,g,i⟩:=h d x e;exact⟨c,b.rd g,i⟩
def ace {w w':World}{b:Nat}{e:TypeId}{c n:Nat}{v:Value}{cs:List Value}(h:w.ownsRow b e c v n cs)(d:∀g,v.ownBlock=some g->w'.heap[g]?=w.heap[g]?):w'.ownsRow b e c v n cs:=by
 obtain⟨f,a⟩:=h;refine⟨f,?_⟩;rcases a with a|⟨g,cap,cur,rfl,i,j,r⟩
 .exact .inl a
 .exact .inr ⟨g,cap,cur,rfl,i,by rw[d g rfl];exact j,r⟩
def wh.ib {G d:Gh}{w w':World}(f:Wl G w d w'){id:Nat}{b:dD}(e:d.hv id=G.hv id)
  (i:b.w=true->∀g,(G.hv id).ownBlock=some g->G.own g=some (.bl id)->d.own g=some (.bl id)/\w'.heap[g]?=w.heap[g]?) (h:wh G w id b):wh d w' id b where
 wr a:=by
  obtain⟨cs,k,j,l⟩:=h.wr a;refine⟨cs,?_,?_,l.ib f⟩
  .rw[e];exact ace k fun g c=>(i a g c (j g c)).2
  .rw[e];exact fun g c=>(i a g c (j g c)).1
 rd a:=by rw[e];exact f.rd (h.rd a)
 pos:=h.pos
def LB.rd {G a:Gh}{w w':World}(h:LB G w a w'){f:Bool}{t:Ty}{x:t.D}{cs:List Value}(b:Rd w (RO G f) t x cs):Rd w' (RO a f) t x cs:=h.e0.rd b
def a7.mono {G a:Gh}{w w':World}{bx bx':List (Nat×List AC)}{bl bl':List (Nat×Option dD)}(b:LB G w a w')(d:gw G bx bl a bx' bl'){c:AC}{v:Value}(h:a7 G w bx bl c v):a7 a w' bx' bl' c v:=a7.ib b.e0 d h
def eK.mono {G a:Gh}{w w':World}{bx bx':List (Nat×List AC)}{bl bl':List (Nat×Option dD)}(b:LB G w a w')(d:gw G bx bl a bx' bl'){c:AV}{v:Value}(h:eK G w bx bl c v):eK a w' bx' bl' c v:=eK.ib b.e0 d h
def dx.mono {G a:Gh}{w w':World}(b:LB G w a w'){f:Bool}{t:Ty}{cs:List Value}{xs:List t.D}(h:dx w (RO G f) t cs xs):dx w' (RO a f) t cs xs:=h.ib b.e0
def wh.mono {G a:Gh}{w w':World}(c:LB G w a w'){id:Nat}{b:dD}(d:a.hv id=G.hv id)
  (e:b.w=true->∀g,(G.hv id).ownBlock=some g->G.own g=some (.bl id)->a.own g=some (.bl id)/\w'.heap[g]?=w.heap[g]?) (h:wh G w id b):wh a w' id b:=wh.ib c.e0 d e h
def ai {U:Type}(k n:Nat)(v:U)(l:List (Nat×U)):look ((k,v)::l) n=if k=n then some v else look l n:=by
 show(match Nat.beq k n with|true=>some v|false=>look l n)=_;by_cases h:k=n
 .subst h;simp
 .have:Nat.beq k n=false:=by rw[<-Bool.not_eq_true,Nat.beq_eq];exact h
  rw[this,ag h]
def cK {U:Type}(n:Nat):∀(q l:List (Nat×U)),look (q++l) n=match look q n with|some v=>some v|none=>look l n
 |[],l=>rfl|(k,v)::q,l=>by rw[pE,ai,ai,cK n q l];split<;>rfl
def Inv.put {w0:di}{w:World}{G:Gh}{st:St}{a:Act}(h:Inv w0 G st a w)(d:Tmp)(hd:d<st.nt){v:AV}{u:Value}(e:eK G w st.bx st.bl v u):Inv w0 G (st.put d v) (a.put (some d) u) w where
 nw:=h.nw
 Pt:=h.Pt
 below:=h.below
 defers:=h.defers
 size:=by simp[Act.put,St.put,h.size]
 sp:=h.sp
 hd:=h.hd
 tm t x b:=by
  simp only[St.put,ai]at b;by_cases c:d=t
  .subst c;simp only[eJ]at b;cases b;have:(a.put (some d) u).tmps.getD d undef=u:=by
    have:d<a.tmps.size:=by rw[h.size];exact hd
    simp[Act.put,E8,this]
   rw[this];exact e
  .simp only[c,eo]at b;have:=h.tm t x b;have f:(a.put (some d) u).tmps.getD t undef=a.tmps.getD t undef:=by simp[Act.put,E8,aiD,c]
   rw[f];exact this
 bx:=h.bx
 bl:=h.bl
 own:=h.own
def Gh.grow (G:Gh)(b:Option Nat)(q:List (Nat×Option dD))(a:Nat->Value)(nw:Nat->Option Nat):Gh :=
 {nw:=G.nw,ok:=G.ok,hb:=G.hb,
  own:=fun g=>match nw g with|some id=>some (.bl id)|none=>if b=some g then none else G.own g,
  hv:=fun id=>if (look q id).isSome then a id else G.hv id}
def Inv.grow {w0:di}{w w':World}{G:Gh}{st:St}{a:Act}(h:Inv w0 G st a w)(c:Option Nat)(p:w.grownBy w' c)
  (D:∀g,c=some g->∃id,G.own g=some (.bl id)/\look st.bl id=some none)
  (q:List (Nat×Option dD)) (m:Nat->Value) (nw:Nat->Option Nat)
  (K:∀id,(look q id).isSome=true->look st.bl id=none)
  (F:∀g id,nw g=some id->(look q id).isSome=true/\(m id).ownBlock=some g/\g<w'.heap.size/\(w.heap.size<=g\/c=some g))
  (y:∀id b,look q id=some (some b)->wh (G.grow c q m nw) w' id b) :
  Inv w0 (G.grow c q m nw) {st with bl:=q++st.bl} a w'/\LB G w (G.grow c q m nw) w'/\gw G st.bx st.bl (G.grow c q m nw) st.bx (q++st.bl):=by
 have L:w0.w.heap.size<=w.heap.size:=h.below.size;have GJ:∀g,g<w.heap.size->c≠some g->(G.grow c q m nw).own g=G.own g/\w'.heap[g]?=w.heap[g]?:=by
  intro g hlt o;refine⟨?_,p.block g hlt (fun e=>o e.symm)⟩;unfold Gh.grow;dsimp only;cases Rz:nw g with
  |none=>simp[o]
  |some id =>
   obtain⟨_,_,_,h4⟩:=F g id Rz;rcases h4 with h4|h4
   .omega
   .exact absurd h4 o
 have r:LB G w (G.grow c q m nw) w':=by
  have key:∀b x,b<w.heap.size->G.own b=x->(∀id,x≠some (.bl id))->(G.grow c q m nw).own b=x/\w'.heap[b]?=w.heap[b]?:=by
   intro b x y B r;have o:c≠some b:=by intro e;obtain⟨id,f,_⟩:=D b e;exact r id (B.symm.trans f)
   obtain⟨f,i⟩:=GJ b y o;exact⟨f.trans B,i⟩
  exact⟨rfl,rfl,p.size,fun b y B=>key b _ y B (by simp),fun b y B=>key b _ y B (by simp)⟩
 have H:∀id,(look st.bl id).isSome=true->look (q++st.bl) id=look st.bl id/\(look q id).isSome=false:=by
  intro id z;have E:(look q id).isSome=false:=by
   cases M:(look q id).isSome with
   |false=>rfl|true=>rw[K id M]at z;cases z
  refine⟨?_,E⟩;rw[cK];cases s:look q id with
  |none=>rfl|some x=>rw[s]at E;cases E
 have z:gw G st.bx st.bl (G.grow c q m nw) st.bx (q++st.bl):=by refine⟨fun d C=>⟨C,rfl⟩,fun id C=>?_⟩;obtain⟨f,i⟩:=H id C;rw[f];refine⟨C,?_,fun N O=>⟨N,O,rfl⟩⟩;simp[Gh.grow,i]
 refine⟨⟨h.nw,h.Pt,?_,h.defers,h.size,h.sp.mono r z,h.x3 r,?_,?_,?_,?_⟩,r,z⟩
 .refine h.below.step p.os p.tape p.output p.size fun k j P=>p.block k (wa j L) fun e=>?_
  obtain⟨id,f,_⟩:=D k e.symm;rcases(h.own k _ f).1 with i|i
  .omega
  .exact P i
 .exact fun t v Q=>(h.tm t v Q).mono r z
 .intro d l C;obtain⟨cs,e,f,i,u⟩:=h.bx d l C;have hlt:=(h.own _ _ i).2.1;have o:c≠some (G.hb d):=by intro e;obtain⟨id,h4,_⟩:=D _ e;rw[i]at h4;cases h4
  obtain⟨h4,n⟩:=GJ _ hlt o;exact⟨cs,e,n.trans f,h4.trans i,u.imp fun _ _=>a7.mono r z⟩
 .intro id b A;rw[cK]at A;cases s:look q id with
  |some x =>
   rw[s]at A;cases A;exact y id b s
  |none =>
   rw[s]at A;dsimp only at A;refine(h.bl id b A).mono r (by simp[Gh.grow,s]) fun S g T aS=>?_
   have hlt:=(h.own _ _ aS).2.1;have o:c≠some g:=by intro e;obtain⟨R,h4,n⟩:=D _ e;rw[aS]at h4;cases h4;rw[A]at n;cases n
   obtain⟨h4,n⟩:=GJ _ hlt o;exact⟨h4.trans aS,n⟩
 .intro g k j;have W:=j;unfold Gh.grow at j;dsimp only at j;cases Rz:nw g with
  |some id =>
   rw[Rz]at j;cases j;obtain⟨f,i,u,h4⟩:=F g id Rz;refine⟨?_,u,?_,?_⟩
   .rcases h4 with h4|h4
    .exact .inl (by omega)
    .obtain⟨R,n,_⟩:=D g h4;exact(h.own _ _ n).1
   .show(look (q++st.bl) id).isSome=true;rw[cK];cases s:look q id with
    |none=>rw[s]at f;cases f|some x=>rfl
   .show((G.grow c q m nw).hv id).ownBlock=some g;simp[Gh.grow,f,i]
  |none =>
   rw[Rz]at j;dsimp only at j;by_cases I:c=some g
   .simp[I]at j
   .simp only[I,eo]at j;obtain⟨f,i,u⟩:=h.own g k j;refine⟨f,wa i p.size,?_⟩;cases k with
    |hid=>trivial|bx d=>exact u
    |bl id =>
     obtain⟨h4,n⟩:=H id u.1;refine⟨?_,?_⟩
     .show(look (q++st.bl) id).isSome=true;rw[h4];exact u.1
     .show((G.grow c q m nw).hv id).ownBlock=some g;simp only[Gh.grow,n,aaJ,eo];exact u.2
def Gh.box (G:Gh)(d g0:Nat):Gh :=
 {nw:=G.nw,ok:=G.ok,hv:=G.hv,hb:=fun x=>if x=d then g0 else G.hb x,own:=fun g=>if g=g0 then some (.bx d) else G.own g}
def Inv.box {w0:di}{w:World}{G:Gh}{st:St}{a:Act}(h:Inv w0 G st a w)(d:Nat)(p:look st.bx d=none)(cs:Array Value)(e:TypeId)(l:List AC)
  (A:bD (a7 G w st.bx st.bl) l cs.toList) :
  Inv w0 (G.box d w.heap.size) {st with bx:=(d,l)::st.bx} a (w.alloc (.cells cs e))/\LB G w (G.box d w.heap.size) (w.alloc (.cells cs e)) /\
   gw G st.bx st.bl (G.box d w.heap.size) ((d,l)::st.bx) st.bl:=by
 have f:LB G w (G.box d w.heap.size) (w.alloc (.cells cs e)):=by
  refine⟨rfl,rfl,by simp,fun b j u=>⟨?_,Below.heap_alloc _ _ _ j⟩,fun b j u=>⟨?_,Below.heap_alloc _ _ _ j⟩⟩ <;>
  .have:b≠w.heap.size:=by omega
   simp[Gh.box,this,u]
 have B:∀x,(look st.bx x).isSome=true->x≠d:=by rintro x c rfl;rw[p]at c;cases c
 have c:gw G st.bx st.bl (G.box d w.heap.size) ((d,l)::st.bx) st.bl:=by
  refine⟨fun x c=>⟨?_,?_⟩,fun id p=>⟨p,rfl,fun C D=>⟨C,D,rfl⟩⟩⟩
  .rw[ai];split
   .rfl
   .exact c
  .simp[Gh.box,B x c]
 refine⟨⟨h.nw,h.Pt,h.below.step rfl rfl rfl (by simp) (fun k i _=>Below.heap_alloc _ _ _ (wa i h.below.size)),h.defers,h.size,h.sp.mono f c,h.x3 f,?_,?_,?_,?_⟩,f,c⟩
 .exact fun t v E=>(h.tm t v E).mono f c
 .intro x m n;show ∃L M,_;simp only[ai]at n;by_cases q:d=x
  .subst q;simp only[eJ]at n;cases n;refine⟨cs,e,?_,?_,A.imp fun _ _=>a7.mono f c⟩
   .show(w.alloc _).heap[(G.box d w.heap.size).hb d]?=_;simp only[Gh.box,eJ];exact heap_alloc_new w _
   .simp[Gh.box]
  .simp only[q,eo]at n;obtain⟨F,H,r,s,o⟩:=h.bx x m n;have hlt:=(h.own _ _ s).2.1;have y:x≠d:=fun e=>q e.symm
   refine⟨F,H,?_,?_,o.imp fun _ _=>a7.mono f c⟩
   .show(w.alloc _).heap[(G.box d w.heap.size).hb x]?=_;simp only[Gh.box,y,eo];rw[Below.heap_alloc _ _ _ hlt];exact r
   .have:G.hb x≠w.heap.size:=by omega
    simp[Gh.box,y,this,s]
 .intro id b j;refine(h.bl id b j).mono f rfl fun N g O aS=>?_
  have hlt:=(h.own _ _ aS).2.1;refine⟨?_,Below.heap_alloc _ _ _ hlt⟩;have:g≠w.heap.size:=by omega
  simp[Gh.box,this,aS]
 .intro g k i;by_cases z:g=w.heap.size
  .subst z;simp only[Gh.box,eJ]at i;cases i;refine⟨.inl h.below.size,by simp,?_,by simp[Gh.box]⟩
   .simp[ai]
  .simp only[Gh.box,z,eo]at i;obtain⟨r,s,o⟩:=h.own g k i;refine⟨r,by simp;omega,?_⟩;cases k with
   |hid=>trivial
   |bx x =>
    obtain⟨I,K⟩:=c.bx x o.1;exact⟨I,by rw[K];exact o.2⟩
   |bl id=>exact o
def pH {w:World}{g k:Nat}{cs:Array Value}(h:k≠g):(w.setRow g cs).heap[k]?=w.heap[k]?:=setRow_other w g k cs h
def NZ {G:Gh}{w:World}{g:Nat}{cs:Array Value}{k:Key}(c:G.own g=some k)(d:k≠.hid):LB G w G (w.setRow g cs):=by
 refine⟨rfl,rfl,by simp,fun b e a=>⟨a,pH ?_⟩,fun b e a=>⟨a,pH ?_⟩⟩
 .rintro rfl;rw[c]at a;cases a
 .rintro rfl;rw[c]at a;cases a;exact d rfl
def iY {U:Type}{n k:Nat}{l:List (Nat×U)}(v:U)(_:True:=trivial)(h:(look l n).isSome=true):(look ((k,v)::l) n).isSome=true:=by
 rw[ai];split
 .rfl
 .exact h
def gw.refl (G:Gh)(bx:List (Nat×List AC))(bl:List (Nat×Option dD)):gw G bx bl G bx bl :=
 ⟨fun _ h=>⟨h,rfl⟩,fun _ h=>⟨h,rfl,fun a b=>⟨a,b,rfl⟩⟩⟩
def gw.agX (G:Gh)(bx:List (Nat×List AC))(bl:List (Nat×Option dD))(b:Nat)(l:List AC):gw G bx bl G ((b,l)::bx) bl :=
 ⟨fun d h=>⟨iY _ trivial h,rfl⟩,fun _ h=>⟨h,rfl,fun a c=>⟨a,c,rfl⟩⟩⟩
def gw.acf {G:Gh}{bx:List (Nat×List AC)}{bl:List (Nat×Option dD)}{e:Gh}(id:Nat)(x:Option dD)(g:e.hb=G.hb)(j:e.hv=G.hv)
  (k:∀a,x=some a->∃b,look bl id=some (some b)/\b.t=a.t):gw G bx bl e bx ((id,x)::bl) :=
 ⟨fun d h=>⟨h,by rw[g]⟩,fun i h=>by
  refine⟨iY _ trivial h,by rw[j],fun a c=>?_⟩;rw[ai]at c;by_cases f:id=i
  .subst f;simp only[eJ]at c;cases c;exact k a rfl
  .simp only[f,eo]at c;exact⟨a,c,rfl⟩⟩
def Inv.apG {w0:di}{w:World}{G:Gh}{st:St}{a:Act}(h:Inv w0 G st a w)(b:Nat)(l:List AC)(y:look st.bx b=some l)(o:Array Value)(p:List AC)
  (z:bD (a7 G w st.bx st.bl) p o.toList):Inv w0 G {st with bx:=(b,p)::st.bx} a (w.setRow (G.hb b) o):=by
 obtain⟨cs,e,A,aS,_⟩:=h.bx b l y;have c:=NZ (w:=w) (cs:=o) aS (by simp);have f:=gw.agX G st.bx st.bl b p;have B:=(h.own _ _ aS).1;refine⟨h.nw,h.Pt,?_,h.defers,h.size,h.sp.mono c f,h.x3 c,?_,?_,?_,?_⟩
 .refine h.below.step rfl rfl rfl (by simp) fun k u C=>pH ?_
  rintro rfl;rcases B with hb|hb
  .omega
  .exact C hb
 .exact fun t v D=>(h.tm t v D).mono c f
 .intro d m i;simp only[ai]at i;by_cases q:b=d
  .subst q;simp only[eJ]at i;cases i;exact⟨o,e,setRow_heap w _ cs _ e _ A,aS,z.imp fun _ _=>a7.mono c f⟩
  .simp only[q,eo]at i;obtain⟨E,F,r,j,n⟩:=h.bx d m i;refine⟨E,F,?_,j,n.imp fun _ _=>a7.mono c f⟩;rw[pH]
   .exact r
   .intro H;rw[H,aS]at j;cases j;exact q rfl
 .intro id I hb;refine(h.bl id I hb).mono c rfl fun K g L s=>⟨s,pH ?_⟩
  rintro rfl;rw[aS]at s;cases s
 .intro g k u;obtain⟨r,j,n⟩:=h.own g k u;refine⟨r,by simpa using j,?_⟩;cases k with
  |hid=>trivial|bx x=>exact⟨(f.bx x n.1).1,n.2⟩|bl id=>exact n
def Inv.anS {w0:di}{w:World}{G:Gh}{st:St}{a:Act}(h:Inv w0 G st a w)(id:Nat)(b:dD)(s:look st.bl id=some (some b))(u:b.w=true)
  (g:Nat) (A:(G.hv id).ownBlock=some g) (o:Array Value) (e:dD) (B:e.t=b.t)
  (hb:wh G (w.setRow g o) id e):Inv w0 G {st with bl:=(id,some e)::st.bl} a (w.setRow g o):=by
 obtain⟨cs,N,C,O⟩:=(h.bl id b s).wr u;have aS:=C g A;have c:=NZ (w:=w) (cs:=o) aS (by simp);have n:gw G st.bx st.bl G st.bx ((id,some e)::st.bl):=gw.acf id (some e) rfl rfl fun x c=>by cases c;exact⟨b,s,B.symm⟩
 have D:=(h.own _ _ aS).1;refine⟨h.nw,h.Pt,?_,h.defers,h.size,h.sp.mono c n,h.x3 c,?_,?_,?_,?_⟩
 .refine h.below.step rfl rfl rfl (by simp) fun k y E=>pH ?_
  rintro rfl;rcases D with hb|hb
  .omega
  .exact E hb
 .exact fun t v F=>(h.tm t v F).mono c n
 .intro d m H;obtain⟨I,K,p,f,j⟩:=h.bx d m H;refine⟨I,K,?_,f,j.imp fun _ _=>a7.mono c n⟩;rw[pH]
  .exact p
  .intro L;rw[L,aS]at f;cases f
 .intro i M l;simp only[ai]at l;by_cases q:id=i
  .subst q;simp only[eJ]at l;cases l;exact hb
  .simp only[q,eo]at l;refine(h.bl i M l).mono c rfl fun u z P r=>⟨r,pH ?_⟩
   rintro rfl;rw[aS]at r;cases r;exact q rfl
 .intro z k y;obtain⟨p,f,j⟩:=h.own z k y;refine⟨p,by simpa using f,?_⟩;cases k with
  |hid=>trivial|bx x=>exact j|bl i=>exact⟨(n.bl i j.1).1,j.2⟩
def aaO {w:World}{ok:Nat->Prop}{z:Nat}{e:TypeId}{t:Ty}{v:Value}{cs:List Value}{xs:List t.D}(h:w.ownsRow z e t.n v xs.length cs)(j:dx w ok t cs xs)
  (cR:∀g,v.ownBlock=some g->ok g) (k:∀g,v.ownBlock=some g->ds.n<=g) (A:0<t.n):Rd w ok (.sl e t) xs [v]:=by
 rcases h.2 with ⟨rfl,f⟩|⟨g,cap,cur,rfl,B,a,l,m,n,o⟩
 .refine⟨none,0,by rw[f],by omega,by omega,fun b=>by rw[f]at b;exact b.nil⟩
 .refine⟨some ⟨g,0,none⟩,cap,rfl,l,?_,fun b=>⟨g,0,rfl,(nj.1 a).1,cR g rfl,fun _=>⟨k g rfl,cur,(0,0),a,fun _=>⟨rfl,rfl,n,m⟩⟩,fun d x p=>?_⟩⟩
  .have:maxLen=9223372036854775807:=rfl;omega
  .obtain⟨c,q,r⟩:=j d x p;refine⟨c,q,fun i u s=>?_⟩;have:=r i u s;rw[<-o]at this;rw[pF];have y:w.cell? ⟨g,d*t.n+i,none⟩=cur[d*t.n+i]?:=cell_of_row w g _ cur e (0,0) a;rw[y];rw[C1]at this;split at this
   .simpa using this
   .cases this
def Gh.drop (G:Gh)(id:Nat):Gh :=
 {nw:=G.nw,ok:=G.ok,hb:=G.hb,hv:=G.hv,own:=fun g=>match G.own g with|some (.bl i)=>if i=id then none else some (.bl i)|k=>k}
def Gh.aj5 {G:Gh}{id g:Nat}(h:G.own g=none):(G.drop id).own g=none:=by simp[Gh.drop,h]
def Gh.anT {G:Gh}{id g d:Nat}(h:G.own g=some (.bx d)):(G.drop id).own g=some (.bx d):=by simp[Gh.drop,h]
def Gh.anU {G:Gh}{id g i:Nat}(h:G.own g=some (.bl i))(a:i≠id):(G.drop id).own g=some (.bl i):=by simp[Gh.drop,h,a]
def Gh.aj6 {G:Gh}{id g:Nat}(h:G.own g=some (.bl id)):(G.drop id).own g=none:=by simp[Gh.drop,h]
def Inv.drop {w0:di}{w:World}{G:Gh}{st:St}{a:Act}(h:Inv w0 G st a w)(id:Nat)(b:dD)(A:look st.bl id=some (some b)) :
  Inv w0 (G.drop id) {st with bl:=(id,some {b with w:=false})::st.bl} a w/\LB G w (G.drop id) w/\gw G st.bx st.bl (G.drop id) st.bx ((id,some {b with w:=false})::st.bl):=by
 have f:LB G w (G.drop id) w:=⟨rfl,rfl,bq _,fun g _ j=>⟨Gh.aj5 j,rfl⟩,fun g _ j=>⟨by simp[Gh.drop,j],rfl⟩⟩;have n:gw G st.bx st.bl (G.drop id) st.bx ((id,some {b with w:=false})::st.bl):=gw.acf id _ rfl rfl fun x f=>by cases f;exact⟨b,A,rfl⟩
 refine⟨⟨h.nw,h.Pt,h.below,h.defers,h.size,h.sp.mono f n,h.x3 f,?_,?_,?_,?_⟩,f,n⟩
 .exact fun t v C=>(h.tm t v C).mono f n
 .intro d m D;obtain⟨E,F,o,p,q⟩:=h.bx d m D;exact⟨E,F,o,Gh.anT p,q.imp fun _ _=>a7.mono f n⟩
 .intro i H r;simp only[ai]at r;by_cases l:id=i
  .subst l;simp only[eJ]at r;cases r;have u:=h.bl id b A;refine⟨fun s=>by simp at s,fun _=>?_,u.pos⟩;cases s:b.w with
   |false=>exact f.rd (u.rd s)
   |true =>
    obtain⟨cs,I,z,K⟩:=u.wr s;refine aaO I (K.mono f) (fun g y=>⟨Gh.aj6 (z g y),.inl ?_⟩) ?_ u.pos
    .exact h.Jk (z g y)
    .exact fun g y=>h.anR (z g y)
  .simp only[l,eo]at r;exact(h.bl i H r).mono f rfl fun s L M j=>⟨Gh.anU j (fun e=>l e.symm),rfl⟩
 .intro g k c;unfold Gh.drop at c;dsimp only at c;cases j:G.own g with
  |none=>rw[j]at c;cases c
  |some B =>
   rw[j]at c;obtain⟨o,p,q⟩:=h.own g B j;cases B with
   |hid=>cases c;exact⟨o,p,trivial⟩
   |bx d =>
    cases c;exact⟨o,p,q⟩
   |bl i =>
    dsimp only at c;by_cases l:i=id
    .simp[l]at c
    .simp only[l,eo]at c;cases c;exact⟨o,p,(n.bl i q.1).1,q.2⟩
def Inv.kill {w0:di}{w:World}{G:Gh}{st:St}{a:Act}(h:Inv w0 G st a w)(id:Nat)(z:(look st.bl id).isSome=true) :
  Inv w0 G {st with bl:=(id,none)::st.bl} a w/\gw G st.bx st.bl G st.bx ((id,none)::st.bl):=by
 have b:LB G w G w:=⟨rfl,rfl,bq _,fun g _ j=>⟨j,rfl⟩,fun g _ j=>⟨j,rfl⟩⟩;have c:gw G st.bx st.bl G st.bx ((id,none)::st.bl):=gw.acf id none rfl rfl fun x b=>by cases b
 refine⟨⟨h.nw,h.Pt,h.below,h.defers,h.size,h.sp.mono b c,h.x3 b,?_,?_,?_,?_⟩,c⟩
 .exact fun t v p=>(h.tm t v p).mono b c
 .intro d m q;obtain⟨r,s,l,n,e⟩:=h.bx d m q;exact⟨r,s,l,n,e.imp fun _ _=>a7.mono b c⟩
 .intro i u f;simp only[ai]at f;by_cases o:id=i
  .simp[o]at f
  .simp only[o,eo]at f;exact h.bl i u f
 .intro g k y;obtain⟨l,n,e⟩:=h.own g k y;refine⟨l,n,?_⟩;cases k with
  |hid=>trivial|bx x=>exact e|bl i=>exact⟨(c.bl i e.1).1,e.2⟩
end Go.Am
