/- No condition. -/
import Derived.Test.YtpkabclplaibaaaGreatDoorQwAmT
import Derived.Below
import Derived.Maps.AppendAt
import Derived.Laws.Rows
import Derived.Laws.CopyRow
set_option linter.all false
namespace Go.Am
open Go.RowKit
def bY {U V:Type}(R:U->V->Prop):List U->List V->Prop
 |[],[]=>True|a::l,b::m=>R a b/\bY R l m|_,_=>False
def bY.len {U V:Type}{R:U->V->Prop}:∀{l:List U} {m:List V},bY R l m->l.length=m.length
 |[],[],_=>rfl|a::l,b::m,h=>by simp[bY.len h.2]
 |[],_::_,h=>h.elim|_::_,[],h=>h.elim
def bY.imp {U V:Type}{R S:U->V->Prop}(hi:∀a b,R a b->S a b):∀{l:List U} {m:List V},bY R l m->bY S l m
 |[],[],_=>trivial|a::l,b::m,h=>⟨hi _ _ h.1,bY.imp hi h.2⟩|[],_::_,h=>h.elim|_::_,[],h=>h.elim
def bY.app {U V:Type}{R:U->V->Prop}:∀{l c:List U} {m d:List V},bY R l m->bY R c d->bY R (l++c) (m++d)
 |[],_,[],_,_,h=>h|a::l,_,b::m,_,h,e=>⟨h.1,bY.app h.2 e⟩|[],_,_::_,_,h,_=>h.elim|_::_,_,[],_,h,_=>h.elim
def bY.nth {U V:Type}{R:U->V->Prop}:∀{l:List U} {m:List V},bY R l m->∀{i:Nat} {x:U},kj l i=some x->∃y,m[i]?=some y/\R x y
 |a::l,b::m,h,0,x,c=>⟨b,rfl,by cases c;exact h.1⟩
 |a::l,b::m,h,i+1,x,c=>by obtain⟨y,d,e⟩:=bY.nth h.2 (i:=i) (x:=x) c;exact⟨y,by simpa using d,e⟩
 |[],[],_,_,_,c=>by simp[kj]at c
 |[],_::_,h,_,_,_=>h.elim|_::_,[],h,_,_,_=>h.elim
def bY.take {U V:Type}{R:U->V->Prop}:∀(n:Nat) {l:List U} {m:List V},bY R l m->bY R (sF n l) (m.take n)
 |0,l,m,h=>by simp[sF,bY]
 |n+1,[],[],_=>by simp[sF,bY]
 |n+1,a::l,b::m,h=>⟨h.1,bY.take n h.2⟩|_+1,[],_::_,h=>h.elim|_+1,_::_,[],h=>h.elim
def bY.drop {U V:Type}{R:U->V->Prop}:∀(n:Nat) {l:List U} {m:List V},bY R l m->bY R (sG n l) (m.drop n)
 |0,l,m,h=>by simpa [sG]using h
 |n+1,[],[],_=>by simp[sG,bY]
 |n+1,a::l,b::m,h=>bY.drop n h.2|_+1,[],_::_,h=>h.elim|_+1,_::_,[],h=>h.elim
def bY.set {U V:Type}{R:U->V->Prop}:∀{l:List U} {m:List V},bY R l m->∀(i:Nat) {x:U} {y:V},R x y->bY R (Fw l i x) (m.set i y)
 |a::l,b::m,h,0,x,y,c=>⟨c,h.2⟩|a::l,b::m,h,i+1,x,y,c=>⟨h.1,bY.set h.2 i c⟩|[],[],_,_,_,_,_=>by simp[Fw,bY]
 |[],_::_,h,_,_,_,_=>h.elim|_::_,[],h,_,_,_,_=>h.elim
def Jh {U:Type}:List U->Nat->List U->List U
 |l,_,[]=>l|l,n,v::a=>Jh (l.set n v) (n+1) a
def bY.Hx {U V:Type}{R:U->V->Prop}:∀{vs:List U} {us:List V} {l:List U} {m:List V} (i:Nat),bY R l m->bY R vs us->bY R (Am.Hx l i vs) (Jh m i us)
 |[],[],_,_,_,h,_=>h|v::vs,u::us,_,_,i,h,a=>bY.Hx (i+1) (h.set i a.1) a.2|[],_::_,_,_,_,_,h=>h.elim|_::_,[],_,_,_,_,h=>h.elim
structure aE8 where
 n:Nat
abbrev ei:Type:=Inhabited aE8
def ei.n [ei]:Nat:=(default:aE8).n
abbrev ei.of (n:Nat):ei:=⟨⟨n⟩⟩
variable [ei]
def KD (w:World)(e:TypeId)(t:Ty)(b o c:Nat):Prop :=
 (ei.n<=b\/big t=true)->ei.n<=b/\∃cur a,w.heap[b]?=some (.cells cur e a)/\(big t=true->o=0/\a=(0,0)/\cur.size=c*t.n/\c<=maxLen)
def KD.mono {w w':World}{e:TypeId}{t:Ty}{b o c:Nat}(h:w'.heap[b]?=w.heap[b]?)(a:KD w e t b o c):KD w' e t b o c:=by unfold KD at a ⊢;rw[h];exact a
def KD.part {w:World}{e:TypeId}{t:Ty}{b o c l d:Nat}(f:big t=false)(g:KD w e t b o l):KD w e t b c d:=by intro h;obtain⟨i,cur,j,k,_⟩:=g h;exact⟨i,cur,j,k,fun a=>by rw[f]at a;cases a⟩
def Lv (t:Ty)(n:Nat)(A:Option Addr)(a:Nat):Prop:=0<n\/(big t=true/\(0<a\/A≠none))
def Lv.nil {t:Ty}{p:Prop}(h:Lv t 0 none 0):p:=by
 rcases h with h|⟨_,h|h⟩
 .exact absurd h (Ts _)
 .exact absurd h (Ts _)
 .exact absurd rfl h
def Rd (w:World)(ok:Nat->Prop):(t:Ty)->t.D->List Value->Prop
 |.int k,x,cs=>cs=[.int k x]|.bool,x,cs=>cs=[.bool x]|.str,x,cs=>cs=[.string x]|.unit,_,cs=>cs=[]|.pair a b,x,cs=>∃f g,cs=f++g/\Rd w ok a x.1 f/\Rd w ok b x.2 g|.sl e t,xs,cs=>∃A cap,cs=[.slice A xs.length cap]/\xs.length<=cap/\xs.length<=9223372036854775807 /\
   (Lv t xs.length A cap->∃b d,A=some ⟨b,d,none⟩/\b<w.heap.size/\ok b/\KD w e t b d cap /\
    ∀h x,xs[h]?=some x->∃c,Rd w ok t x c/\∀i u,c[i]?=some u->w.cell? ⟨b,d+(h*t.n+i),none⟩=some u)
def Rd.len {w:World}{ok:Nat->Prop}:∀{t:Ty} {x:t.D} {cs:List Value},Rd w ok t x cs->cs.length=t.n
 |.int _,_,_,h=>by rw[show _=_ from h];rfl
 |.bool,_,_,h=>by rw[show _=_ from h];rfl
 |.str,_,_,h=>by rw[show _=_ from h];rfl
 |.unit,_,_,h=>by rw[show _=_ from h];rfl
 |.pair a b,_,_,h=>by obtain⟨f,g,rfl,c,d⟩:=h;simp[Ty.n,c.len,d.len]
 |.sl e t,xs,cs,h=>by obtain⟨A,cap,rfl,_⟩:=h;rfl
def Rd.one {w:World}{ok:Nat->Prop}:∀{t:Ty} {x:t.D} {cs:List Value},Rd w ok t x cs->∀u∈cs,u.oneCell'=true
 |.int _,_,_,h,u,c=>by rw[show _=_ from h]at c;simp at c;subst c;rfl
 |.bool,_,_,h,u,c=>by rw[show _=_ from h]at c;simp at c;subst c;rfl
 |.str,_,_,h,u,c=>by rw[show _=_ from h]at c;simp at c;subst c;rfl
 |.unit,_,_,h,u,c=>by rw[show _=_ from h]at c;simp at c
 |.pair a b,_,_,h,u,c=>by
  obtain⟨g,i,rfl,d,f⟩:=h;rcases eK.1 c with c|c
  .exact d.one u c
  .exact f.one u c
 |.sl e t,xs,cs,h,u,c=>by obtain⟨A,cap,rfl,_⟩:=h;simp at c;subst c;rfl
def cell_of_heap {w w':World}{b:Nat}(h:w'.heap[b]?=w.heap[b]?)(o:Nat):w'.cell? ⟨b,o,none⟩=w.cell? ⟨b,o,none⟩:=World.cell?_of_block (w:=w) (w':=w') (a:=⟨b,o,none⟩) h
def Rd.mono {w w':World}{ok g:Nat->Prop}(f:w.heap.size<=w'.heap.size)(d:∀b,b<w.heap.size->ok b->g b/\w'.heap[b]?=w.heap[b]?) :
  ∀{t:Ty} {x:t.D} {cs:List Value},Rd w ok t x cs->Rd w' g t x cs
 |.int _,_,_,h=>h|.bool,_,_,h=>h|.str,_,_,h=>h|.unit,_,_,h=>h|.pair a b,_,_,h=>by obtain⟨k,l,rfl,m,n⟩:=h;exact⟨k,l,rfl,m.mono f d,n.mono f d⟩
 |.sl e t,xs,cs,h=>by obtain⟨A,cap,rfl,o,p,h⟩:=h;refine⟨A,cap,rfl,o,p,fun q=>?_⟩;obtain⟨b,r,rfl,s,cz,v,y⟩:=h q;obtain⟨z,j⟩:=d b s cz;refine⟨b,r,rfl,by omega,z,v.mono j,fun B x C=>?_⟩;obtain⟨c,D,E⟩:=y B x C;exact⟨c,D.mono f d,fun i u F=>by rw[cell_of_heap j];exact E i u F⟩
inductive Key where
 |bx (d:Nat)
 |bl (id:Nat)
 |hid
structure Gh where
 nw:Nat->Prop
 own:Nat->Option Key
 hb:Nat->Nat
 hv:Nat->Value
 ok:Nat->Prop
def RO (G:Gh)(f:Bool)(b:Nat):Prop:=G.own b=none/\(G.nw b\/(f=false/\G.ok b))
def RO.Ji {G:Gh}{f a:Bool}(h:a=true->f=true){g:Nat}(c:RO G f g):RO G a g :=
 ⟨c.1,c.2.imp_right fun b=>⟨by cases a with|false=>rfl|true=>rw[h rfl]at b;exact absurd b.1 (by simp),b.2⟩⟩
def bo (G:Gh)(w:World)(bx:List (Nat×List AC))(bl:List (Nat×Option eF)):AC->Value->Prop
 |.none,_=>True|.int k n,v=>v=.int k n|.bool b,v=>v=.bool b|.str s,v=>v=.string s|.nil,v=>v=.slice none 0 0|.ro f e t xs,v=>Rd w (RO G f) (.sl e t) xs [v]|.own id none,v=>(look bl id).isSome=true/\(∃A n cap,G.hv id=.slice A n cap)/\v=G.hv id|.own id (some l),v=>(look bl id).isSome=true/\0<=l/\∃A n cap,G.hv id=.slice A n cap/\l<=n/\v=.slice A l.toNat cap|.ptr b off,v=>(look bx b).isSome=true/\v=.pointer (some ⟨G.hb b,off,none⟩)|.any,v=>v.oneCell'=true|.fnp g b,v=>(look bx b).isSome=true/\v=.func (.func g) #[] #[.pointer (some ⟨G.hb b,0,none⟩)]|.wS id i off,v=>(look bl id).isSome=true/\v.oneCell'=true/\0<=i/\∃g a n cap,G.hv id=.slice (some ⟨g,a,none⟩) n cap/\i<n /\
   ∀b,look bl id=some (some b)->v=.pointer (some ⟨g,a+(i.toNat*b.t.n+off),none⟩)
 |.Qd f t x off,v=>∃b a c,v=.pointer (some ⟨b,a+off,none⟩)/\b<w.heap.size/\RO G f b/\Rd w (RO G f) t x c/\∀i u,c[i]?=some u->w.cell? ⟨b,a+i,none⟩=some u
def dL (G:Gh)(w:World)(bx:List (Nat×List AC))(bl:List (Nat×Option eF)):CV->Value->Prop
 |.c x,v=>bo G w bx bl x v|.agg l,v=>∃cs,v=.agg cs/\bY (bo G w bx bl) l cs.toList
def gu (G:Gh)(w:World)(bx:List (Nat×List AC))(bl:List (Nat×Option eF)):AV->Value->Prop
 |.v x,v=>dL G w bx bl x v|.Qe l,v=>∃a,v=.tuple a/\bY (dL G w bx bl) l a.toList
def et (w:World)(ok:Nat->Prop)(t:Ty)(cs:List Value)(xs:List t.D):Prop :=
 ∀a x,xs[a]?=some x->∃c,Rd w ok t x c/\∀i u,c[i]?=some u->cs[a*t.n+i]?=some u
structure EB (G:Gh) (w:World) (id:Nat) (b:eF):Prop where
 wr:b.w=true->∃cs,w.ownsRow 0 b.e b.t.n (G.hv id) b.xs.length cs/\(∀g,(G.hv id).ownBlock=some g->G.own g=some (.bl id))/\et w (RO G b.f) b.t cs b.xs
 rd:b.w=false->Rd w (RO G b.f) (.sl b.e b.t) b.xs [G.hv id]
 pos:0<b.t.n
structure dX (fr:Nat->Prop) (w w':World):Prop where
 os:w'.os=w.os
 tape:w'.tape=w.tape
 output:w'.output=w.output
 size:w.heap.size<=w'.heap.size
 block:∀k,k<w.heap.size->¬fr k->w'.heap[k]?=w.heap[k]?
def dX.refl (a:Nat->Prop)(w:World):dX a w w:=⟨rfl,rfl,rfl,bh _,fun _ _ _=>rfl⟩
def dX.step {b:Nat->Prop}{a w w':World}(h:dX b a w)(e:w'.os=w.os)(f:w'.tape=w.tape)(g:w'.output=w.output)(j:w.heap.size<=w'.heap.size)
  (l:∀k,k<a.heap.size->¬b k->w'.heap[k]?=w.heap[k]?):dX b a w' :=
 ⟨e.trans h.os,f.trans h.tape,g.trans h.output,aU h.size j,fun i c d=>(l i c d).trans (h.block i c d)⟩
def dX.below {a:Nat->Prop}{w w':World}(h:dX a w w')(c:∀b,¬a b):Below w.heap.size w w':=⟨h.os,h.tape,h.output,h.size,fun k d=>h.block k d (c k)⟩
structure dY where
 w:World
 ok:Nat->Prop
 nw:Nat->Prop
 fr:Nat->Prop
 hnw:∀b,w.heap.size<=b->nw b
 hfr:∀b,fr b->nw b
 hB:ei.n<=w.heap.size
 hBf:∀b,fr b->ei.n<=b
 pv:Value:=.slice none 0 0
 hd:Nat->Option (Bool×Obj):=fun _=>none
def ayr:Bool->Option Key
 |true=>some .hid|false=>none
structure Inv (w0:dY) (G:Gh) (st:St) (a:Act) (w:World):Prop where
 nw:G.nw=w0.nw
 rok:G.ok=w0.ok
 below:dX w0.fr w0.w w
 defers:a.defers=[]
 size:a.tmps.size=st.nt
 sp:gu G w st.bx st.bl st.sp w0.pv
 hd:∀g b o,w0.hd g=some (b,o)->G.own g=ayr b/\g<w.heap.size/\w.heap[g]?=some o
 tm:∀t v,look st.tm t=some v->gu G w st.bx st.bl v (a.tmps.getD t undef)
 bx:∀d l,look st.bx d=some l->∃cs e,w.heap[G.hb d]?=some (.cells cs e (0,0))/\G.own (G.hb d)=some (.bx d)/\bY (bo G w st.bx st.bl) l cs.toList
 bl:∀id b,look st.bl id=some (some b)->EB G w id b
 own:∀g k,G.own g=some k->(w0.w.heap.size<=g\/w0.fr g)/\g<w.heap.size/\match k with
  |.bx d=>(look st.bx d).isSome=true/\g=G.hb d|.bl id=>(look st.bl id).isSome=true/\(G.hv id).ownBlock=some g|.hid=>True
def Inv.awj {w0:dY}{G:Gh}{st:St}{a:Act}{w:World}(h:Inv w0 G st a w)(l:List Nat):Inv w0 G {st with rob:=l} a w:=⟨h.nw,h.rok,h.below,h.defers,h.size,h.sp,h.hd,h.tm,h.bx,h.bl,h.own⟩
def Inv.TI {w0:dY}{G:Gh}{st:St}{a:Act}{w:World}(h:Inv w0 G st a w){g:Nat}{k:Key}(b:G.own g=some k):G.nw g:=by
 rw[h.nw];rcases(h.own g k b).1 with h1|h1
 .exact w0.hnw g h1
 .exact w0.hfr g h1
def Inv.aDO {w0:dY}{G:Gh}{st:St}{a:Act}{w:World}(h:Inv w0 G st a w){g:Nat}{k:Key}(b:G.own g=some k):ei.n<=g:=by
 rcases(h.own g k b).1 with h1|h1
 .exact aU w0.hB h1
 .exact w0.hBf g h1
def Inv.aHF {w0:dY}{G:Gh}{st:St}{a:Act}{w:World}(h:Inv w0 G st a w):ei.n<=w.heap.size:=aU w0.hB h.below.size
def Inv.atk {w0:dY}{G:Gh}{st:St}{a:Act}{w:World}(h:Inv w0 G st a w){g:Nat}(b:w.heap.size<=g):G.nw g:=by rw[h.nw];exact w0.hnw g (aU h.below.size b)
structure WD (G:Gh) (w:World) (G':Gh) (w':World):Prop where
 nw:G'.nw=G.nw
 ok:G'.ok=G.ok
 size:w.heap.size<=w'.heap.size
 ro:∀b,b<w.heap.size->G.own b=none->G'.own b=none/\w'.heap[b]?=w.heap[b]?
 hid:∀b,b<w.heap.size->G.own b=some .hid->G'.own b=some .hid/\w'.heap[b]?=w.heap[b]?
def Inv.Fy {w0:dY}{G j:Gh}{st:St}{a:Act}{w w':World}(h:Inv w0 G st a w)(c:WD G w j w'):∀g b d,w0.hd g=some (b,d)->j.own g=ayr b/\g<w'.heap.size/\w'.heap[g]?=some d:=by
 intro g b d m;obtain⟨k,e,l⟩:=h.hd g b d m;cases b with
 |true =>
  obtain⟨f,i⟩:=c.hid g e k;exact⟨f,Ew e c.size,i.trans l⟩
 |false =>
  obtain⟨f,i⟩:=c.ro g e k;exact⟨f,Ew e c.size,i.trans l⟩
structure ajP (G:Gh) (w:World) (G':Gh) (w':World):Prop where
 nw:G'.nw=G.nw
 ok:G'.ok=G.ok
 size:w.heap.size<=w'.heap.size
 ro:∀b,b<w.heap.size->G.own b=none->G'.own b=none/\w'.heap[b]?=w.heap[b]?
def WD.e0 {G a:Gh}{w w':World}(h:WD G w a w'):ajP G w a w':=⟨h.nw,h.ok,h.size,h.ro⟩
def ajP.rd {G a:Gh}{w w':World}(h:ajP G w a w'){f:Bool}{t:Ty}{x:t.D}{cs:List Value}(d:Rd w (RO G f) t x cs):Rd w' (RO a f) t x cs :=
 d.mono h.size fun b c cz=>⟨⟨(h.ro b c cz.1).1,by rw[h.nw,h.ok];exact cz.2⟩,(h.ro b c cz.1).2⟩
structure jL (G:Gh) (bx:List (Nat×List AC)) (bl:List (Nat×Option eF)) (G':Gh) (bx':List (Nat×List AC)) (bl':List (Nat×Option eF)):Prop where
 bx:∀d,(look bx d).isSome=true->(look bx' d).isSome=true/\G'.hb d=G.hb d
 bl:∀id,(look bl id).isSome=true->(look bl' id).isSome=true/\G'.hv id=G.hv id/\∀b',look bl' id=some (some b')->∃b,look bl id=some (some b)/\b.t=b'.t
def bo.kX {G o:Gh}{w w':World}{bx bx':List (Nat×List AC)}{bl bl':List (Nat×Option eF)}(d:ajP G w o w')(a:jL G bx bl o bx' bl') :
  ∀{c:AC} {v:Value},bo G w bx bl c v->bo o w' bx' bl' c v
 |.none,_,_=>trivial|.int _ _,_,h=>h|.bool _,_,h=>h|.str _,_,h=>h|.nil,_,h=>h|.any,_,h=>h|.ro f e t xs,_,h=>d.rd (t:=.sl e t) h|.own id none,v,h=>⟨(a.bl id h.1).1,by rw[(a.bl id h.1).2.1];exact h.2.1,by rw[(a.bl id h.1).2.1];exact h.2.2⟩
 |.own id (some l),v,h=>by obtain⟨j,p,A,n,cap,k,r,rfl⟩:=h;exact⟨(a.bl id j).1,p,A,n,cap,by rw[(a.bl id j).2.1];exact k,r,rfl⟩
 |.ptr b off,v,h=>⟨(a.bx b h.1).1,by rw[(a.bx b h.1).2];exact h.2⟩
 |.fnp g b,v,h=>⟨(a.bx b h.1).1,by rw[(a.bx b h.1).2];exact h.2⟩
 |.wS id i off,v,h=>by obtain⟨j,s,p,g,q,n,cap,k,y,h⟩:=h;refine⟨(a.bl id j).1,s,p,g,q,n,cap,by rw[(a.bl id j).2.1];exact k,y,fun z B=>?_⟩;obtain⟨b,m,C⟩:=(a.bl id j).2.2 z B;rw[<-C];exact h b m
 |.Qd f t x off,v,h=>by obtain⟨b,q,c,k,m,cz,D,E⟩:=h;obtain⟨F,H⟩:=d.ro b m cz.1;exact⟨b,q,c,k,Ew m d.size,⟨F,by rw[d.nw,d.ok];exact cz.2⟩,d.rd D,fun i u I=>by rw[cell_of_heap H];exact E i u I⟩
def dL.kX {G a:Gh}{w w':World}{bx bx':List (Nat×List AC)}{bl bl':List (Nat×Option eF)}(b:ajP G w a w')(d:jL G bx bl a bx' bl')
  {c:CV} {v:Value} (h:dL G w bx bl c v):dL a w' bx' bl' c v:=by
 cases c with
 |c x=>exact bo.kX b d (c:=x) h
 |agg l =>
  obtain⟨cs,rfl,h⟩:=h;exact⟨cs,rfl,h.imp fun _ _=>bo.kX b d⟩
def gu.kX {G a:Gh}{w w':World}{bx bx':List (Nat×List AC)}{bl bl':List (Nat×Option eF)}(b:ajP G w a w')(d:jL G bx bl a bx' bl')
  {c:AV} {v:Value} (h:gu G w bx bl c v):gu a w' bx' bl' c v:=by
 cases c with
 |v x=>exact dL.kX b d (c:=x) h
 |Qe l =>
  obtain⟨cs,rfl,h⟩:=h;exact⟨cs,rfl,h.imp fun _ _=>dL.kX b d⟩
def et.kX {G a:Gh}{w w':World}(b:ajP G w a w'){f:Bool}{t:Ty}{cs:List Value}{xs:List t.D}(h:et w (RO G f) t cs xs):et w' (RO a f) t cs xs:=by intro d x e;obtain⟨c,g,i⟩:=h d x e;exact⟨c,b.rd g,i⟩
def aqV {w w':World}{b:Nat}{e:TypeId}{c n:Nat}{v:Value}{cs:List Value}(h:w.ownsRow b e c v n cs)(d:∀g,v.ownBlock=some g->w'.heap[g]?=w.heap[g]?):w'.ownsRow b e c v n cs:=by
 obtain⟨f,a⟩:=h;refine⟨f,?_⟩;rcases a with a|⟨g,cap,cur,rfl,i,j,r⟩
 .exact .inl a
 .exact .inr ⟨g,cap,cur,rfl,i,by rw[d g rfl];exact j,r⟩
def EB.kX {G d:Gh}{w w':World}(f:ajP G w d w'){id:Nat}{b:eF}(e:d.hv id=G.hv id)
  (i:b.w=true->∀g,(G.hv id).ownBlock=some g->G.own g=some (.bl id)->d.own g=some (.bl id)/\w'.heap[g]?=w.heap[g]?) (h:EB G w id b):EB d w' id b where
 wr a:=by
  obtain⟨cs,k,j,l⟩:=h.wr a;refine⟨cs,?_,?_,l.kX f⟩
  .rw[e];exact aqV k fun g c=>(i a g c (j g c)).2
  .rw[e];exact fun g c=>(i a g c (j g c)).1
 rd a:=by rw[e];exact f.rd (h.rd a)
 pos:=h.pos
def WD.rd {G a:Gh}{w w':World}(h:WD G w a w'){f:Bool}{t:Ty}{x:t.D}{cs:List Value}(b:Rd w (RO G f) t x cs):Rd w' (RO a f) t x cs:=h.e0.rd b
def bo.mono {G a:Gh}{w w':World}{bx bx':List (Nat×List AC)}{bl bl':List (Nat×Option eF)}(b:WD G w a w')(d:jL G bx bl a bx' bl'){c:AC}{v:Value}(h:bo G w bx bl c v):bo a w' bx' bl' c v:=bo.kX b.e0 d h
def gu.mono {G a:Gh}{w w':World}{bx bx':List (Nat×List AC)}{bl bl':List (Nat×Option eF)}(b:WD G w a w')(d:jL G bx bl a bx' bl'){c:AV}{v:Value}(h:gu G w bx bl c v):gu a w' bx' bl' c v:=gu.kX b.e0 d h
def et.mono {G a:Gh}{w w':World}(b:WD G w a w'){f:Bool}{t:Ty}{cs:List Value}{xs:List t.D}(h:et w (RO G f) t cs xs):et w' (RO a f) t cs xs:=h.kX b.e0
def EB.mono {G a:Gh}{w w':World}(c:WD G w a w'){id:Nat}{b:eF}(d:a.hv id=G.hv id)
  (e:b.w=true->∀g,(G.hv id).ownBlock=some g->G.own g=some (.bl id)->a.own g=some (.bl id)/\w'.heap[g]?=w.heap[g]?) (h:EB G w id b):EB a w' id b:=EB.kX c.e0 d e h
def ar {U:Type}(k n:Nat)(v:U)(l:List (Nat×U)):look ((k,v)::l) n=if k=n then some v else look l n:=by
 show(match Nat.beq k n with|true=>some v|false=>look l n)=_;by_cases h:k=n
 .subst h;simp
 .have:Nat.beq k n=false:=by rw[<-Bool.not_eq_true,Nat.beq_eq];exact h
  rw[this,ag h]
def c6 {U:Type}(n:Nat):∀(q l:List (Nat×U)),look (q++l) n=match look q n with|some v=>some v|none=>look l n
 |[],l=>rfl|(k,v)::q,l=>by rw[Gp,ar,ar,c6 n q l];split<;>rfl
def Inv.put {w0:dY}{w:World}{G:Gh}{st:St}{a:Act}(h:Inv w0 G st a w)(d:Tmp)(hd:d<st.nt){v:AV}{u:Value}(e:gu G w st.bx st.bl v u):Inv w0 G (st.put d v) (a.put (some d) u) w where
 nw:=h.nw
 rok:=h.rok
 below:=h.below
 defers:=h.defers
 size:=by simp[Act.put,St.put,h.size]
 sp:=h.sp
 hd:=h.hd
 tm t x b:=by
  simp only[St.put,ar]at b;by_cases c:d=t
  .subst c;simp only[gr]at b;cases b;have:(a.put (some d) u).tmps.getD d undef=u:=by
    have:d<a.tmps.size:=by rw[h.size];exact hd
    simp[Act.put,Oc,this]
   rw[this];exact e
  .simp only[c,fG]at b;have:=h.tm t x b;have f:(a.put (some d) u).tmps.getD t undef=a.tmps.getD t undef:=by simp[Act.put,Oc,aye,c]
   rw[f];exact this
 bx:=h.bx
 bl:=h.bl
 own:=h.own
def Gh.grow (G:Gh)(b:Option Nat)(q:List (Nat×Option eF))(a:Nat->Value)(nw:Nat->Option Nat):Gh :=
 {nw:=G.nw,ok:=G.ok,hb:=G.hb,
  own:=fun g=>match nw g with|some id=>some (.bl id)|none=>if b=some g then none else G.own g,
  hv:=fun id=>if (look q id).isSome then a id else G.hv id}
def Inv.grow {w0:dY}{w w':World}{G:Gh}{st:St}{a:Act}(h:Inv w0 G st a w)(f:Option Nat)(r:w.grownBy w' f)
  (E:∀g,f=some g->∃id,G.own g=some (.bl id)/\look st.bl id=some none)
  (q:List (Nat×Option eF)) (n:Nat->Value) (nw:Nat->Option Nat)
  (L:∀id,(look q id).isSome=true->look st.bl id=none)
  (H:∀g id,nw g=some id->(look q id).isSome=true/\(n id).ownBlock=some g/\g<w'.heap.size/\(w.heap.size<=g\/f=some g))
  (z:∀id b,look q id=some (some b)->EB (G.grow f q n nw) w' id b) :
  Inv w0 (G.grow f q n nw) {st with bl:=q++st.bl} a w'/\WD G w (G.grow f q n nw) w'/\jL G st.bx st.bl (G.grow f q n nw) st.bx (q++st.bl):=by
 have M:w0.w.heap.size<=w.heap.size:=h.below.size;have Qi:∀g,g<w.heap.size->f≠some g->(G.grow f q n nw).own g=G.own g/\w'.heap[g]?=w.heap[g]?:=by
  intro g hlt p;refine⟨?_,r.block g hlt (fun e=>p e.symm)⟩;unfold Gh.grow;dsimp only;cases hnw:nw g with
  |none=>simp[p]
  |some id =>
   obtain⟨_,_,_,c⟩:=H g id hnw;rcases c with c|c
   .omega
   .exact absurd c p
 have s:WD G w (G.grow f q n nw) w':=by
  have key:∀b x,b<w.heap.size->G.own b=x->(∀id,x≠some (.bl id))->(G.grow f q n nw).own b=x/\w'.heap[b]?=w.heap[b]?:=by
   intro b x z C s;have p:f≠some b:=by intro e;obtain⟨id,i,_⟩:=E b e;exact s id (C.symm.trans i)
   obtain⟨i,j⟩:=Qi b z p;exact⟨i.trans C,j⟩
  exact⟨rfl,rfl,r.size,fun b z C=>key b _ z C (by simp),fun b z C=>key b _ z C (by simp)⟩
 have I:∀id,(look st.bl id).isSome=true->look (q++st.bl) id=look st.bl id/\(look q id).isSome=false:=by
  intro id A;have F:(look q id).isSome=false:=by
   cases N:(look q id).isSome with
   |false=>rfl|true=>rw[L id N]at A;cases A
  refine⟨?_,F⟩;rw[c6];cases u:look q id with
  |none=>rfl|some x=>rw[u]at F;cases F
 have A:jL G st.bx st.bl (G.grow f q n nw) st.bx (q++st.bl):=by refine⟨fun d D=>⟨D,rfl⟩,fun id D=>?_⟩;obtain⟨i,j⟩:=I id D;rw[i];refine⟨D,?_,fun O P=>⟨O,P,rfl⟩⟩;simp[Gh.grow,j]
 refine⟨⟨h.nw,h.rok,?_,h.defers,h.size,h.sp.mono s A,h.Fy s,?_,?_,?_,?_⟩,s,A⟩
 .refine h.below.step r.os r.tape r.output r.size fun k m Q=>r.block k (Ew m M) fun e=>?_
  obtain⟨id,i,_⟩:=E k e.symm;rcases(h.own k _ i).1 with j|j
  .omega
  .exact Q j
 .exact fun t v R=>(h.tm t v R).mono s A
 .intro d l D;obtain⟨cs,e,i,j,y⟩:=h.bx d l D;have hlt:=(h.own _ _ j).2.1;have p:f≠some (G.hb d):=by intro e;obtain⟨id,c,_⟩:=E _ e;rw[j]at c;cases c
  obtain⟨c,o⟩:=Qi _ hlt p;exact⟨cs,e,o.trans i,c.trans j,y.imp fun _ _=>bo.mono s A⟩
 .intro id b B;rw[c6]at B;cases u:look q id with
  |some x =>
   rw[u]at B;cases B;exact z id b u
  |none =>
   rw[u]at B;dsimp only at B;refine(h.bl id b B).mono s (by simp[Gh.grow,u]) fun T g W bf=>?_
   have hlt:=(h.own _ _ bf).2.1;have p:f≠some g:=by intro e;obtain⟨S,c,o⟩:=E _ e;rw[bf]at c;cases c;rw[B]at o;cases o
   obtain⟨c,o⟩:=Qi _ hlt p;exact⟨c.trans bf,o⟩
 .intro g k m;have X:=m;unfold Gh.grow at m;dsimp only at m;cases hnw:nw g with
  |some id =>
   rw[hnw]at m;cases m;obtain⟨i,j,y,c⟩:=H g id hnw;refine⟨?_,y,?_,?_⟩
   .rcases c with c|c
    .exact .inl (by omega)
    .obtain⟨S,o,_⟩:=E g c;exact(h.own _ _ o).1
   .show(look (q++st.bl) id).isSome=true;rw[c6];cases u:look q id with
    |none=>rw[u]at i;cases i|some x=>rfl
   .show((G.grow f q n nw).hv id).ownBlock=some g;simp[Gh.grow,i,j]
  |none =>
   rw[hnw]at m;dsimp only at m;by_cases K:f=some g
   .simp[K]at m
   .simp only[K,fG]at m;obtain⟨i,j,y⟩:=h.own g k m;refine⟨i,Ew j r.size,?_⟩;cases k with
    |hid=>trivial|bx d=>exact y
    |bl id =>
     obtain⟨c,o⟩:=I id y.1;refine⟨?_,?_⟩
     .show(look (q++st.bl) id).isSome=true;rw[c];exact y.1
     .show((G.grow f q n nw).hv id).ownBlock=some g;simp only[Gh.grow,o,apb,fG];exact y.2
def Gh.box (G:Gh)(d g0:Nat):Gh :=
 {nw:=G.nw,ok:=G.ok,hv:=G.hv,hb:=fun x=>if x=d then g0 else G.hb x,own:=fun g=>if g=g0 then some (.bx d) else G.own g}
def Inv.box {w0:dY}{w:World}{G:Gh}{st:St}{a:Act}(h:Inv w0 G st a w)(d:Nat)(p:look st.bx d=none)(cs:Array Value)(e:TypeId)(l:List AC)
  (A:bY (bo G w st.bx st.bl) l cs.toList) :
  Inv w0 (G.box d w.heap.size) {st with bx:=(d,l)::st.bx} a (w.alloc (.cells cs e))/\WD G w (G.box d w.heap.size) (w.alloc (.cells cs e)) /\
   jL G st.bx st.bl (G.box d w.heap.size) ((d,l)::st.bx) st.bl:=by
 have f:WD G w (G.box d w.heap.size) (w.alloc (.cells cs e)):=by
  refine⟨rfl,rfl,by simp,fun b j u=>⟨?_,Below.heap_alloc _ _ _ j⟩,fun b j u=>⟨?_,Below.heap_alloc _ _ _ j⟩⟩ <;>
  .have:b≠w.heap.size:=by omega
   simp[Gh.box,this,u]
 have B:∀x,(look st.bx x).isSome=true->x≠d:=by rintro x c rfl;rw[p]at c;cases c
 have c:jL G st.bx st.bl (G.box d w.heap.size) ((d,l)::st.bx) st.bl:=by
  refine⟨fun x c=>⟨?_,?_⟩,fun id p=>⟨p,rfl,fun C D=>⟨C,D,rfl⟩⟩⟩
  .rw[ar];split
   .rfl
   .exact c
  .simp[Gh.box,B x c]
 refine⟨⟨h.nw,h.rok,h.below.step rfl rfl rfl (by simp) (fun k i _=>Below.heap_alloc _ _ _ (Ew i h.below.size)),h.defers,h.size,h.sp.mono f c,h.Fy f,?_,?_,?_,?_⟩,f,c⟩
 .exact fun t v E=>(h.tm t v E).mono f c
 .intro x m n;show ∃L M,_;simp only[ar]at n;by_cases q:d=x
  .subst q;simp only[gr]at n;cases n;refine⟨cs,e,?_,?_,A.imp fun _ _=>bo.mono f c⟩
   .show(w.alloc _).heap[(G.box d w.heap.size).hb d]?=_;simp only[Gh.box,gr];exact heap_alloc_new w _
   .simp[Gh.box]
  .simp only[q,fG]at n;obtain⟨F,H,r,s,o⟩:=h.bx x m n;have hlt:=(h.own _ _ s).2.1;have y:x≠d:=fun e=>q e.symm
   refine⟨F,H,?_,?_,o.imp fun _ _=>bo.mono f c⟩
   .show(w.alloc _).heap[(G.box d w.heap.size).hb x]?=_;simp only[Gh.box,y,fG];rw[Below.heap_alloc _ _ _ hlt];exact r
   .have:G.hb x≠w.heap.size:=by omega
    simp[Gh.box,y,this,s]
 .intro id b j;refine(h.bl id b j).mono f rfl fun N g O bf=>?_
  have hlt:=(h.own _ _ bf).2.1;refine⟨?_,Below.heap_alloc _ _ _ hlt⟩;have:g≠w.heap.size:=by omega
  simp[Gh.box,this,bf]
 .intro g k i;by_cases z:g=w.heap.size
  .subst z;simp only[Gh.box,gr]at i;cases i;refine⟨.inl h.below.size,by simp,?_,by simp[Gh.box]⟩
   .simp[ar]
  .simp only[Gh.box,z,fG]at i;obtain⟨r,s,o⟩:=h.own g k i;refine⟨r,by simp;omega,?_⟩;cases k with
   |hid=>trivial
   |bx x =>
    obtain⟨I,K⟩:=c.bx x o.1;exact⟨I,by rw[K];exact o.2⟩
   |bl id=>exact o
def vU {w:World}{g k:Nat}{cs:Array Value}(h:k≠g):(w.setRow g cs).heap[k]?=w.heap[k]?:=setRow_other w g k cs h
def ZA {G:Gh}{w:World}{g:Nat}{cs:Array Value}{k:Key}(c:G.own g=some k)(d:k≠.hid):WD G w G (w.setRow g cs):=by
 refine⟨rfl,rfl,by simp,fun b e a=>⟨a,vU ?_⟩,fun b e a=>⟨a,vU ?_⟩⟩
 .rintro rfl;rw[c]at a;cases a
 .rintro rfl;rw[c]at a;cases a;exact d rfl
def l4 {U:Type}{n k:Nat}{l:List (Nat×U)}(v:U)(_:True:=trivial)(h:(look l n).isSome=true):(look ((k,v)::l) n).isSome=true:=by
 rw[ar];split
 .rfl
 .exact h
def jL.refl (G:Gh)(bx:List (Nat×List AC))(bl:List (Nat×Option eF)):jL G bx bl G bx bl :=
 ⟨fun _ h=>⟨h,rfl⟩,fun _ h=>⟨h,rfl,fun a b=>⟨a,b,rfl⟩⟩⟩
def jL.awk (G:Gh)(bx:List (Nat×List AC))(bl:List (Nat×Option eF))(b:Nat)(l:List AC):jL G bx bl G ((b,l)::bx) bl :=
 ⟨fun d h=>⟨l4 _ trivial h,rfl⟩,fun _ h=>⟨h,rfl,fun a c=>⟨a,c,rfl⟩⟩⟩
def jL.aqW {G:Gh}{bx:List (Nat×List AC)}{bl:List (Nat×Option eF)}{e:Gh}(id:Nat)(x:Option eF)(g:e.hb=G.hb)(j:e.hv=G.hv)
  (k:∀a,x=some a->∃b,look bl id=some (some b)/\b.t=a.t):jL G bx bl e bx ((id,x)::bl) :=
 ⟨fun d h=>⟨h,by rw[g]⟩,fun i h=>by
  refine⟨l4 _ trivial h,by rw[j],fun a c=>?_⟩;rw[ar]at c;by_cases f:id=i
  .subst f;simp only[gr]at c;cases c;exact k a rfl
  .simp only[f,fG]at c;exact⟨a,c,rfl⟩⟩
def Inv.aFJ {w0:dY}{w:World}{G:Gh}{st:St}{a:Act}(h:Inv w0 G st a w)(b:Nat)(l:List AC)(y:look st.bx b=some l)(o:Array Value)(p:List AC)
  (z:bY (bo G w st.bx st.bl) p o.toList):Inv w0 G {st with bx:=(b,p)::st.bx} a (w.setRow (G.hb b) o):=by
 obtain⟨cs,e,A,bf,_⟩:=h.bx b l y;have c:=ZA (w:=w) (cs:=o) bf (by simp);have f:=jL.awk G st.bx st.bl b p;have B:=(h.own _ _ bf).1;refine⟨h.nw,h.rok,?_,h.defers,h.size,h.sp.mono c f,h.Fy c,?_,?_,?_,?_⟩
 .refine h.below.step rfl rfl rfl (by simp) fun k u C=>vU ?_
  rintro rfl;rcases B with hb|hb
  .omega
  .exact C hb
 .exact fun t v D=>(h.tm t v D).mono c f
 .intro d m i;simp only[ar]at i;by_cases q:b=d
  .subst q;simp only[gr]at i;cases i;exact⟨o,e,setRow_heap w _ cs _ e _ A,bf,z.imp fun _ _=>bo.mono c f⟩
  .simp only[q,fG]at i;obtain⟨E,F,r,j,n⟩:=h.bx d m i;refine⟨E,F,?_,j,n.imp fun _ _=>bo.mono c f⟩;rw[vU]
   .exact r
   .intro H;rw[H,bf]at j;cases j;exact q rfl
 .intro id I hb;refine(h.bl id I hb).mono c rfl fun K g L s=>⟨s,vU ?_⟩
  rintro rfl;rw[bf]at s;cases s
 .intro g k u;obtain⟨r,j,n⟩:=h.own g k u;refine⟨r,by simpa using j,?_⟩;cases k with
  |hid=>trivial|bx x=>exact⟨(f.bx x n.1).1,n.2⟩|bl id=>exact n
def Inv.aDP {w0:dY}{w:World}{G:Gh}{st:St}{a:Act}(h:Inv w0 G st a w)(id:Nat)(b:eF)(s:look st.bl id=some (some b))(u:b.w=true)
  (g:Nat) (A:(G.hv id).ownBlock=some g) (o:Array Value) (e:eF) (B:e.t=b.t)
  (hb:EB G (w.setRow g o) id e):Inv w0 G {st with bl:=(id,some e)::st.bl} a (w.setRow g o):=by
 obtain⟨cs,N,C,O⟩:=(h.bl id b s).wr u;have bf:=C g A;have c:=ZA (w:=w) (cs:=o) bf (by simp);have n:jL G st.bx st.bl G st.bx ((id,some e)::st.bl):=jL.aqW id (some e) rfl rfl fun x c=>by cases c;exact⟨b,s,B.symm⟩
 have D:=(h.own _ _ bf).1;refine⟨h.nw,h.rok,?_,h.defers,h.size,h.sp.mono c n,h.Fy c,?_,?_,?_,?_⟩
 .refine h.below.step rfl rfl rfl (by simp) fun k y E=>vU ?_
  rintro rfl;rcases D with hb|hb
  .omega
  .exact E hb
 .exact fun t v F=>(h.tm t v F).mono c n
 .intro d m H;obtain⟨I,K,p,f,j⟩:=h.bx d m H;refine⟨I,K,?_,f,j.imp fun _ _=>bo.mono c n⟩;rw[vU]
  .exact p
  .intro L;rw[L,bf]at f;cases f
 .intro i M l;simp only[ar]at l;by_cases q:id=i
  .subst q;simp only[gr]at l;cases l;exact hb
  .simp only[q,fG]at l;refine(h.bl i M l).mono c rfl fun u z P r=>⟨r,vU ?_⟩
   rintro rfl;rw[bf]at r;cases r;exact q rfl
 .intro z k y;obtain⟨p,f,j⟩:=h.own z k y;refine⟨p,by simpa using f,?_⟩;cases k with
  |hid=>trivial|bx x=>exact j|bl i=>exact⟨(n.bl i j.1).1,j.2⟩
def ape {w:World}{ok:Nat->Prop}{z:Nat}{e:TypeId}{t:Ty}{v:Value}{cs:List Value}{xs:List t.D}(h:w.ownsRow z e t.n v xs.length cs)(j:et w ok t cs xs)
  (cz:∀g,v.ownBlock=some g->ok g) (k:∀g,v.ownBlock=some g->ei.n<=g) (A:0<t.n):Rd w ok (.sl e t) xs [v]:=by
 rcases h.2 with ⟨rfl,f⟩|⟨g,cap,cur,rfl,B,a,l,m,n,o⟩
 .refine⟨none,0,by rw[f],by omega,by omega,fun b=>by rw[f]at b;exact b.nil⟩
 .refine⟨some ⟨g,0,none⟩,cap,rfl,l,?_,fun b=>⟨g,0,rfl,(sC.1 a).1,cz g rfl,fun _=>⟨k g rfl,cur,(0,0),a,fun _=>⟨rfl,rfl,n,m⟩⟩,fun d x p=>?_⟩⟩
  .have:maxLen=9223372036854775807:=rfl;omega
  .obtain⟨c,q,r⟩:=j d x p;refine⟨c,q,fun i u s=>?_⟩;have:=r i u s;rw[<-o]at this;rw[vS];have y:w.cell? ⟨g,d*t.n+i,none⟩=cur[d*t.n+i]?:=cell_of_row w g _ cur e (0,0) a;rw[y];rw[Ls]at this;split at this
   .simpa using this
   .cases this
def Gh.drop (G:Gh)(id:Nat):Gh :=
 {nw:=G.nw,ok:=G.ok,hb:=G.hb,hv:=G.hv,own:=fun g=>match G.own g with|some (.bl i)=>if i=id then none else some (.bl i)|k=>k}
def Gh.azI {G:Gh}{id g:Nat}(h:G.own g=none):(G.drop id).own g=none:=by simp[Gh.drop,h]
def Gh.aDQ {G:Gh}{id g d:Nat}(h:G.own g=some (.bx d)):(G.drop id).own g=some (.bx d):=by simp[Gh.drop,h]
def Gh.aDR {G:Gh}{id g i:Nat}(h:G.own g=some (.bl i))(hi:i≠id):(G.drop id).own g=some (.bl i):=by simp[Gh.drop,h,hi]
def Gh.azJ {G:Gh}{id g:Nat}(h:G.own g=some (.bl id)):(G.drop id).own g=none:=by simp[Gh.drop,h]
def Inv.drop {w0:dY}{w:World}{G:Gh}{st:St}{a:Act}(h:Inv w0 G st a w)(id:Nat)(b:eF)(A:look st.bl id=some (some b)) :
  Inv w0 (G.drop id) {st with bl:=(id,some {b with w:=false})::st.bl} a w/\WD G w (G.drop id) w/\jL G st.bx st.bl (G.drop id) st.bx ((id,some {b with w:=false})::st.bl):=by
 have f:WD G w (G.drop id) w:=⟨rfl,rfl,bh _,fun g _ j=>⟨Gh.azI j,rfl⟩,fun g _ j=>⟨by simp[Gh.drop,j],rfl⟩⟩;have n:jL G st.bx st.bl (G.drop id) st.bx ((id,some {b with w:=false})::st.bl):=jL.aqW id _ rfl rfl fun x f=>by cases f;exact⟨b,A,rfl⟩
 refine⟨⟨h.nw,h.rok,h.below,h.defers,h.size,h.sp.mono f n,h.Fy f,?_,?_,?_,?_⟩,f,n⟩
 .exact fun t v C=>(h.tm t v C).mono f n
 .intro d m D;obtain⟨E,F,o,p,q⟩:=h.bx d m D;exact⟨E,F,o,Gh.aDQ p,q.imp fun _ _=>bo.mono f n⟩
 .intro i H r;simp only[ar]at r;by_cases l:id=i
  .subst l;simp only[gr]at r;cases r;have u:=h.bl id b A;refine⟨fun s=>by simp at s,fun _=>?_,u.pos⟩;cases s:b.w with
   |false=>exact f.rd (u.rd s)
   |true =>
    obtain⟨cs,I,z,K⟩:=u.wr s;refine ape I (K.mono f) (fun g y=>⟨Gh.azJ (z g y),.inl ?_⟩) ?_ u.pos
    .exact h.TI (z g y)
    .exact fun g y=>h.aDO (z g y)
  .simp only[l,fG]at r;exact(h.bl i H r).mono f rfl fun s L M j=>⟨Gh.aDR j (fun e=>l e.symm),rfl⟩
 .intro g k c;unfold Gh.drop at c;dsimp only at c;cases j:G.own g with
  |none=>rw[j]at c;cases c
  |some B =>
   rw[j]at c;obtain⟨o,p,q⟩:=h.own g B j;cases B with
   |hid=>cases c;exact⟨o,p,trivial⟩
   |bx d =>
    cases c;exact⟨o,p,q⟩
   |bl i =>
    dsimp only at c;by_cases l:i=id
    .simp[l]at c
    .simp only[l,fG]at c;cases c;exact⟨o,p,(n.bl i q.1).1,q.2⟩
def Inv.kill {w0:dY}{w:World}{G:Gh}{st:St}{a:Act}(h:Inv w0 G st a w)(id:Nat)(z:(look st.bl id).isSome=true) :
  Inv w0 G {st with bl:=(id,none)::st.bl} a w/\jL G st.bx st.bl G st.bx ((id,none)::st.bl):=by
 have b:WD G w G w:=⟨rfl,rfl,bh _,fun g _ j=>⟨j,rfl⟩,fun g _ j=>⟨j,rfl⟩⟩;have c:jL G st.bx st.bl G st.bx ((id,none)::st.bl):=jL.aqW id none rfl rfl fun x b=>by cases b
 refine⟨⟨h.nw,h.rok,h.below,h.defers,h.size,h.sp.mono b c,h.Fy b,?_,?_,?_,?_⟩,c⟩
 .exact fun t v p=>(h.tm t v p).mono b c
 .intro d m q;obtain⟨r,s,l,n,e⟩:=h.bx d m q;exact⟨r,s,l,n,e.imp fun _ _=>bo.mono b c⟩
 .intro i u f;simp only[ar]at f;by_cases o:id=i
  .simp[o]at f
  .simp only[o,fG]at f;exact h.bl i u f
 .intro g k y;obtain⟨l,n,e⟩:=h.own g k y;refine⟨l,n,?_⟩;cases k with
  |hid=>trivial|bx x=>exact e|bl i=>exact⟨(c.bl i e.1).1,e.2⟩
end Go.Am
