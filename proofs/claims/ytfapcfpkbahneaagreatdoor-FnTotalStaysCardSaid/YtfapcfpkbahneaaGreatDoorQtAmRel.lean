/- Lemmas for the claim. No condition. -/
import Derived.Test.YtfapcfpkbahneaaGreatDoorQtAmT
import Derived.Below
import Derived.Maps.AppendAt
import Derived.Laws.Rows
import Derived.Laws.CopyRow
set_option linter.all false
namespace Go.Am
open Go.RowKit
def cT {α β:Type}(R:α->β->Prop):List α->List β->Prop
 |[],[]=>True
 |a::l,b::m=>R a b/\cT R l m
 |_,_=>False
theorem cT.len {α β:Type}{R:α->β->Prop}:∀{l:List α} {m:List β},cT R l m->l.length=m.length
 |[],[],_=>rfl
 |a::l,b::m,h=>by simp[cT.len h.2]
 |[],_::_,h=>h.elim
 |_::_,[],h=>h.elim
theorem cT.imp {α β:Type}{R S:α->β->Prop}(hi:∀a b,R a b->S a b):∀{l:List α} {m:List β},cT R l m->cT S l m
 |[],[],_=>trivial
 |a::l,b::m,h=>⟨hi _ _ h.1,cT.imp hi h.2⟩
 |[],_::_,h=>h.elim
 |_::_,[],h=>h.elim
theorem cT.app {α β:Type}{R:α->β->Prop}:∀{l l':List α} {m m':List β},cT R l m->cT R l' m'->cT R (l++l') (m++m')
 |[],_,[],_,_,h=>h
 |a::l,_,b::m,_,h,h'=>⟨h.1,cT.app h.2 h'⟩
 |[],_,_::_,_,h,_=>h.elim
 |_::_,_,[],_,h,_=>h.elim
theorem cT.nth {α β:Type}{R:α->β->Prop}:∀{l:List α} {m:List β},cT R l m->∀{i:Nat} {x:α},nX l i=some x->∃y,m[i]?=some y/\R x y
 |a::l,b::m,h,0,x,hx=>⟨b,rfl,by cases hx;exact h.1⟩
 |a::l,b::m,h,i+1,x,hx=>by obtain⟨y,hy,hr⟩:=cT.nth h.2 (i:=i) (x:=x) hx;exact⟨y,by simpa using hy,hr⟩
 |[],[],_,_,_,hx=>by simp[nX]at hx
 |[],_::_,h,_,_,_=>h.elim
 |_::_,[],h,_,_,_=>h.elim
theorem cT.take {α β:Type}{R:α->β->Prop}:∀(n:Nat) {l:List α} {m:List β},cT R l m->cT R (xY n l) (m.take n)
 |0,l,m,h=>by simp[xY,cT]
 |n+1,[],[],_=>by simp[xY,cT]
 |n+1,a::l,b::m,h=>⟨h.1,cT.take n h.2⟩
 |_+1,[],_::_,h=>h.elim
 |_+1,_::_,[],h=>h.elim
theorem cT.drop {α β:Type}{R:α->β->Prop}:∀(n:Nat) {l:List α} {m:List β},cT R l m->cT R (xZ n l) (m.drop n)
 |0,l,m,h=>by simpa [xZ]using h
 |n+1,[],[],_=>by simp[xZ,cT]
 |n+1,a::l,b::m,h=>cT.drop n h.2
 |_+1,[],_::_,h=>h.elim
 |_+1,_::_,[],h=>h.elim
theorem cT.set {α β:Type}{R:α->β->Prop}:∀{l:List α} {m:List β},cT R l m->∀(i:Nat) {x:α} {y:β},R x y->cT R (NV l i x) (m.set i y)
 |a::l,b::m,h,0,x,y,hr=>⟨hr,h.2⟩
 |a::l,b::m,h,i+1,x,y,hr=>⟨h.1,cT.set h.2 i hr⟩
 |[],[],_,_,_,_,_=>by simp[NV,cT]
 |[],_::_,h,_,_,_,_=>h.elim
 |_::_,[],h,_,_,_,_=>h.elim
def Ja {α:Type}:List α->Nat->List α->List α
 |l,_,[]=>l
 |l,n,v::vs=>Ja (l.set n v) (n+1) vs
theorem cT.G8 {α β:Type}{R:α->β->Prop}:∀{vs:List α} {us:List β} {l:List α} {m:List β} (i:Nat),cT R l m->cT R vs us->cT R (Am.G8 l i vs) (Ja m i us)
 |[],[],_,_,_,h,_=>h
 |v::vs,u::us,_,_,i,h,hv=>cT.G8 (i+1) (h.set i hv.1) hv.2
 |[],_::_,_,_,_,_,h=>h.elim
 |_::_,[],_,_,_,_,h=>h.elim
def Rd (w:World)(ok:Nat->Prop):(t:Ty)->t.D->List Value->Prop
 |.int k,x,cs=>cs=[.int k x]
 |.bool,x,cs=>cs=[.bool x]
 |.str,x,cs=>cs=[.string x]
 |.unit,_,cs=>cs=[]
 |.pair a b,x,cs=>∃c1 c2,cs=c1++c2/\Rd w ok a x.1 c1/\Rd w ok b x.2 c2
 |.sl _ t,xs,cs=>∃A cap,cs=[.slice A xs.length cap]/\xs.length<=cap/\xs.length<=9223372036854775807 /\
   (0<xs.length->∃b o,A=some ⟨b,o,none⟩/\b<w.heap.size/\ok b /\
    ∀j x,xs[j]?=some x->∃c,Rd w ok t x c/\∀i u,c[i]?=some u->w.cell? ⟨b,o+(j*t.n+i),none⟩=some u)
theorem Rd.len {w:World}{ok:Nat->Prop}:∀{t:Ty} {x:t.D} {cs:List Value},Rd w ok t x cs->cs.length=t.n
 |.int _,_,_,h=>by rw[show _=_ from h];rfl
 |.bool,_,_,h=>by rw[show _=_ from h];rfl
 |.str,_,_,h=>by rw[show _=_ from h];rfl
 |.unit,_,_,h=>by rw[show _=_ from h];rfl
 |.pair a b,_,_,h=>by obtain⟨c1,c2,rfl,h1,h2⟩:=h;simp[Ty.n,h1.len,h2.len]
 |.sl e t,xs,cs,h=>by obtain⟨A,cap,rfl,_⟩:=h;rfl
theorem Rd.one {w:World}{ok:Nat->Prop}:∀{t:Ty} {x:t.D} {cs:List Value},Rd w ok t x cs->∀u∈cs,u.oneCell'=true
 |.int _,_,_,h,u,hu=>by rw[show _=_ from h]at hu;simp at hu;subst hu;rfl
 |.bool,_,_,h,u,hu=>by rw[show _=_ from h]at hu;simp at hu;subst hu;rfl
 |.str,_,_,h,u,hu=>by rw[show _=_ from h]at hu;simp at hu;subst hu;rfl
 |.unit,_,_,h,u,hu=>by rw[show _=_ from h]at hu;simp at hu
 |.pair a b,_,_,h,u,hu=>by
  obtain⟨c1,c2,rfl,h1,h2⟩:=h;rcases lX.1 hu with hu|hu
  ·exact h1.one u hu
  ·exact h2.one u hu
 |.sl e t,xs,cs,h,u,hu=>by obtain⟨A,cap,rfl,_⟩:=h;simp at hu;subst hu;rfl
theorem cell_of_heap {w w':World}{b:Nat}(h:w'.heap[b]?=w.heap[b]?)(o:Nat):w'.cell? ⟨b,o,none⟩=w.cell? ⟨b,o,none⟩:=World.cell?_of_block (w:=w) (w':=w') (a:=⟨b,o,none⟩) h
theorem Rd.mono {w w':World}{ok ok':Nat->Prop}(hs:w.heap.size<=w'.heap.size)(hm:∀b,b<w.heap.size->ok b->ok' b/\w'.heap[b]?=w.heap[b]?) :
  ∀{t:Ty} {x:t.D} {cs:List Value},Rd w ok t x cs->Rd w' ok' t x cs
 |.int _,_,_,h=>h
 |.bool,_,_,h=>h
 |.str,_,_,h=>h
 |.unit,_,_,h=>h
 |.pair a b,_,_,h=>by obtain⟨c1,c2,rfl,h1,h2⟩:=h;exact⟨c1,c2,rfl,h1.mono hs hm,h2.mono hs hm⟩
 |.sl e t,xs,cs,h=>by obtain⟨A,cap,rfl,hc,h63,h⟩:=h;refine⟨A,cap,rfl,hc,h63,fun hp=>?_⟩;obtain⟨b,o,rfl,hb,dO,hr⟩:=h hp;obtain⟨aFb,hh⟩:=hm b hb dO;refine⟨b,o,rfl,by omega,aFb,fun j x hj=>?_⟩;obtain⟨c,hrc,hcell⟩:=hr j x hj;exact⟨c,hrc.mono hs hm,fun i u hu=>by rw[cell_of_heap hh];exact hcell i u hu⟩
inductive Key where
 |bx (d:Nat)
 |bl (id:Nat)
 |hid
structure Gh where
 nw:Nat->Prop
 own:Nat->Option Key
 hb:Nat->Nat
 hv:Nat->Value
 ok:Nat->Prop
def RO (G:Gh)(f:Bool)(b:Nat):Prop:=G.own b=none/\(G.nw b\/(f=false/\G.ok b))
theorem RO.Ea {G:Gh}{f f':Bool}(h:f'=true->f=true){g:Nat}(hg:RO G f g):RO G f' g :=
 ⟨hg.1,hg.2.imp_right fun h2=>⟨by cases f' with|false=>rfl|true=>rw[h rfl]at h2;exact absurd h2.1 (by simp),h2.2⟩⟩
def bN (G:Gh)(w:World)(bx:List (Nat×List AC))(bl:List (Nat×Option gp)):AC->Value->Prop
 |.none,_=>True
 |.int k n,v=>v=.int k n
 |.bool b,v=>v=.bool b
 |.str s,v=>v=.string s
 |.nil,v=>v=.slice none 0 0
 |.ro f e t xs,v=>Rd w (RO G f) (.sl e t) xs [v]
 |.own id none,v=>(look bl id).isSome=true/\(∃A n cap,G.hv id=.slice A n cap)/\v=G.hv id
 |.own id (some l),v=>(look bl id).isSome=true/\0<=l/\∃A n cap,G.hv id=.slice A n cap/\l<=n/\v=.slice A l.toNat cap
 |.ptr b off,v=>(look bx b).isSome=true/\v=.pointer (some ⟨G.hb b,off,none⟩)
 |.any,v=>v.oneCell'=true
 |.fnp g b,v=>(look bx b).isSome=true/\v=.func (.func g) #[] #[.pointer (some ⟨G.hb b,0,none⟩)]
 |.Ln id i off,v=>(look bl id).isSome=true/\v.oneCell'=true/\0<=i/\∃g o n cap,G.hv id=.slice (some ⟨g,o,none⟩) n cap/\i<n /\
   ∀b,look bl id=some (some b)->v=.pointer (some ⟨g,o+(i.toNat*b.t.n+off),none⟩)
 |.T5 f t x off,v=>∃b o c,v=.pointer (some ⟨b,o+off,none⟩)/\b<w.heap.size/\RO G f b/\Rd w (RO G f) t x c/\∀i u,c[i]?=some u->w.cell? ⟨b,o+i,none⟩=some u
def fh (G:Gh)(w:World)(bx:List (Nat×List AC))(bl:List (Nat×Option gp)):CV->Value->Prop
 |.c x,v=>bN G w bx bl x v
 |.agg l,v=>∃cs,v=.agg cs/\cT (bN G w bx bl) l cs.toList
def j2 (G:Gh)(w:World)(bx:List (Nat×List AC))(bl:List (Nat×Option gp)):AV->Value->Prop
 |.v x,v=>fh G w bx bl x v
 |.Ul l,v=>∃vs,v=.tuple vs/\cT (fh G w bx bl) l vs.toList
def fL (w:World)(ok:Nat->Prop)(t:Ty)(cs:List Value)(xs:List t.D):Prop :=
 ∀j x,xs[j]?=some x->∃c,Rd w ok t x c/\∀i u,c[i]?=some u->cs[j*t.n+i]?=some u
structure Ec (G:Gh) (w:World) (id:Nat) (b:gp):Prop where
 wr:b.w=true->∃cs,w.ownsRow 0 b.e b.t.n (G.hv id) b.xs.length cs/\(∀g,(G.hv id).ownBlock=some g->G.own g=some (.bl id))/\fL w (RO G b.f) b.t cs b.xs
 rd:b.w=false->Rd w (RO G b.f) (.sl b.e b.t) b.xs [G.hv id]
 pos:0<b.t.n
structure fB (fr:Nat->Prop) (w w':World):Prop where
 os:w'.os=w.os
 tape:w'.tape=w.tape
 output:w'.output=w.output
 size:w.heap.size<=w'.heap.size
 block:∀k,k<w.heap.size->¬fr k->w'.heap[k]?=w.heap[k]?
theorem fB.refl (fr:Nat->Prop)(w:World):fB fr w w:=⟨rfl,rfl,rfl,cp _,fun _ _ _=>rfl⟩
theorem fB.step {fr:Nat->Prop}{a w w':World}(h:fB fr a w)(ho:w'.os=w.os)(ht:w'.tape=w.tape)(hu:w'.output=w.output)(hs:w.heap.size<=w'.heap.size)
  (hb:∀k,k<a.heap.size->¬fr k->w'.heap[k]?=w.heap[k]?):fB fr a w' :=
 ⟨ho.trans h.os,ht.trans h.tape,hu.trans h.output,cN h.size hs,fun i hi hf=>(hb i hi hf).trans (h.block i hi hf)⟩
theorem fB.below {fr:Nat->Prop}{w w':World}(h:fB fr w w')(hf:∀b,¬fr b):Below w.heap.size w w':=⟨h.os,h.tape,h.output,h.size,fun k hk=>h.block k hk (hf k)⟩
structure fJ where
 w:World
 ok:Nat->Prop
 nw:Nat->Prop
 fr:Nat->Prop
 hnw:∀b,w.heap.size<=b->nw b
 hfr:∀b,fr b->nw b
 pv:Value:=.slice none 0 0
 hd:Nat->Option (Bool×Obj):=fun _=>none
def aBN:Bool->Option Key
 |true=>some .hid
 |false=>none
structure Inv (w0:fJ) (G:Gh) (st:St) (a:Act) (w:World):Prop where
 nw:G.nw=w0.nw
 rok:G.ok=w0.ok
 below:fB w0.fr w0.w w
 defers:a.defers=[]
 size:a.tmps.size=st.nt
 sp:j2 G w st.bx st.bl st.sp w0.pv
 hd:∀g b o,w0.hd g=some (b,o)->G.own g=aBN b/\g<w.heap.size/\w.heap[g]?=some o
 tm:∀t v,look st.tm t=some v->j2 G w st.bx st.bl v (a.tmps.getD t undef)
 bx:∀d l,look st.bx d=some l->∃cs e,w.heap[G.hb d]?=some (.cells cs e (0,0))/\G.own (G.hb d)=some (.bx d)/\cT (bN G w st.bx st.bl) l cs.toList
 bl:∀id b,look st.bl id=some (some b)->Ec G w id b
 own:∀g k,G.own g=some k->(w0.w.heap.size<=g\/w0.fr g)/\g<w.heap.size/\match k with
  |.bx d=>(look st.bx d).isSome=true/\g=G.hb d
  |.bl id=>(look st.bl id).isSome=true/\(G.hv id).ownBlock=some g
  |.hid=>True
theorem Inv.azH {w0:fJ}{G:Gh}{st:St}{a:Act}{w:World}(h:Inv w0 G st a w)(l:List Nat):Inv w0 G {st with rob:=l} a w:=⟨h.nw,h.rok,h.below,h.defers,h.size,h.sp,h.hd,h.tm,h.bx,h.bl,h.own⟩
theorem Inv.Uz {w0:fJ}{G:Gh}{st:St}{a:Act}{w:World}(h:Inv w0 G st a w){g:Nat}{k:Key}(hg:G.own g=some k):G.nw g:=by
 rw[h.nw];rcases(h.own g k hg).1 with h1|h1
 ·exact w0.hnw g h1
 ·exact w0.hfr g h1
theorem Inv.awE {w0:fJ}{G:Gh}{st:St}{a:Act}{w:World}(h:Inv w0 G st a w){g:Nat}(hg:w.heap.size<=g):G.nw g:=by rw[h.nw];exact w0.hnw g (cN h.below.size hg)
structure Xr (G:Gh) (w:World) (G':Gh) (w':World):Prop where
 nw:G'.nw=G.nw
 ok:G'.ok=G.ok
 size:w.heap.size<=w'.heap.size
 ro:∀b,b<w.heap.size->G.own b=none->G'.own b=none/\w'.heap[b]?=w.heap[b]?
 hid:∀b,b<w.heap.size->G.own b=some .hid->G'.own b=some .hid/\w'.heap[b]?=w.heap[b]?
theorem Inv.Fe {w0:fJ}{G G':Gh}{st:St}{a:Act}{w w':World}(h:Inv w0 G st a w)(hx:Xr G w G' w'):∀g b o,w0.hd g=some (b,o)->G'.own g=aBN b/\g<w'.heap.size/\w'.heap[g]?=some o:=by
 intro g b o hm;obtain⟨h1,h2,h3⟩:=h.hd g b o hm;cases b with
 |true =>
  obtain⟨h4,h5⟩:=hx.hid g h2 h1;exact⟨h4,DZ h2 hx.size,h5.trans h3⟩
 |false =>
  obtain⟨h4,h5⟩:=hx.ro g h2 h1;exact⟨h4,DZ h2 hx.size,h5.trans h3⟩
structure amg (G:Gh) (w:World) (G':Gh) (w':World):Prop where
 nw:G'.nw=G.nw
 ok:G'.ok=G.ok
 size:w.heap.size<=w'.heap.size
 ro:∀b,b<w.heap.size->G.own b=none->G'.own b=none/\w'.heap[b]?=w.heap[b]?
theorem Xr.e0 {G G':Gh}{w w':World}(h:Xr G w G' w'):amg G w G' w':=⟨h.nw,h.ok,h.size,h.ro⟩
theorem amg.rd {G G':Gh}{w w':World}(h:amg G w G' w'){f:Bool}{t:Ty}{x:t.D}{cs:List Value}(hr:Rd w (RO G f) t x cs):Rd w' (RO G' f) t x cs :=
 hr.mono h.size fun b hb dO=>⟨⟨(h.ro b hb dO.1).1,by rw[h.nw,h.ok];exact dO.2⟩,(h.ro b hb dO.1).2⟩
structure kR (G:Gh) (bx:List (Nat×List AC)) (bl:List (Nat×Option gp)) (G':Gh) (bx':List (Nat×List AC)) (bl':List (Nat×Option gp)):Prop where
 bx:∀d,(look bx d).isSome=true->(look bx' d).isSome=true/\G'.hb d=G.hb d
 bl:∀id,(look bl id).isSome=true->(look bl' id).isSome=true/\G'.hv id=G.hv id/\∀b',look bl' id=some (some b')->∃b,look bl id=some (some b)/\b.t=b'.t
theorem bN.mo {G G':Gh}{w w':World}{bx bx':List (Nat×List AC)}{bl bl':List (Nat×Option gp)}(hx:amg G w G' w')(hs:kR G bx bl G' bx' bl') :
  ∀{c:AC} {v:Value},bN G w bx bl c v->bN G' w' bx' bl' c v
 |.none,_,_=>trivial
 |.int _ _,_,h=>h
 |.bool _,_,h=>h
 |.str _,_,h=>h
 |.nil,_,h=>h
 |.any,_,h=>h
 |.ro f e t xs,_,h=>hx.rd (t:=.sl e t) h
 |.own id none,v,h=>⟨(hs.bl id h.1).1,by rw[(hs.bl id h.1).2.1];exact h.2.1,by rw[(hs.bl id h.1).2.1];exact h.2.2⟩
 |.own id (some l),v,h=>by obtain⟨h1,h0,A,n,cap,hv,hl,rfl⟩:=h;exact⟨(hs.bl id h1).1,h0,A,n,cap,by rw[(hs.bl id h1).2.1];exact hv,hl,rfl⟩
 |.ptr b off,v,h=>⟨(hs.bx b h.1).1,by rw[(hs.bx b h.1).2];exact h.2⟩
 |.fnp g b,v,h=>⟨(hs.bx b h.1).1,by rw[(hs.bx b h.1).2];exact h.2⟩
 |.Ln id i off,v,h=>by obtain⟨h1,aaH,h0,g,o,n,cap,hv,hi,h⟩:=h;refine⟨(hs.bl id h1).1,aaH,h0,g,o,n,cap,by rw[(hs.bl id h1).2.1];exact hv,hi,fun b' Cq=>?_⟩;obtain⟨b,hb,ht⟩:=(hs.bl id h1).2.2 b' Cq;rw[<-ht];exact h b hb
 |.T5 f t x off,v,h=>by obtain⟨b,o,c,hv,hb,dO,hr,hc⟩:=h;obtain⟨ho',hh⟩:=hx.ro b hb dO.1;exact⟨b,o,c,hv,DZ hb hx.size,⟨ho',by rw[hx.nw,hx.ok];exact dO.2⟩,hx.rd hr,fun i u hu=>by rw[cell_of_heap hh];exact hc i u hu⟩
theorem fh.mo {G G':Gh}{w w':World}{bx bx':List (Nat×List AC)}{bl bl':List (Nat×Option gp)}(hx:amg G w G' w')(hs:kR G bx bl G' bx' bl')
  {c:CV} {v:Value} (h:fh G w bx bl c v):fh G' w' bx' bl' c v:=by
 cases c with
 |c x=>exact bN.mo hx hs (c:=x) h
 |agg l =>
  obtain⟨cs,rfl,h⟩:=h;exact⟨cs,rfl,h.imp fun _ _=>bN.mo hx hs⟩
theorem j2.mo {G G':Gh}{w w':World}{bx bx':List (Nat×List AC)}{bl bl':List (Nat×Option gp)}(hx:amg G w G' w')(hs:kR G bx bl G' bx' bl')
  {c:AV} {v:Value} (h:j2 G w bx bl c v):j2 G' w' bx' bl' c v:=by
 cases c with
 |v x=>exact fh.mo hx hs (c:=x) h
 |Ul l =>
  obtain⟨cs,rfl,h⟩:=h;exact⟨cs,rfl,h.imp fun _ _=>fh.mo hx hs⟩
theorem fL.mo {G G':Gh}{w w':World}(hx:amg G w G' w'){f:Bool}{t:Ty}{cs:List Value}{xs:List t.D}(h:fL w (RO G f) t cs xs):fL w' (RO G' f) t cs xs:=by intro j x hj;obtain⟨c,hr,hc⟩:=h j x hj;exact⟨c,hx.rd hr,hc⟩
theorem atU {w w':World}{Lo:Nat}{e:TypeId}{size n:Nat}{v:Value}{cs:List Value}(h:w.ownsRow Lo e size v n cs)(hb:∀g,v.ownBlock=some g->w'.heap[g]?=w.heap[g]?):w'.ownsRow Lo e size v n cs:=by
 obtain⟨h1,h2⟩:=h;refine⟨h1,?_⟩;rcases h2 with h2|⟨g,cap,cur,rfl,hg,hh,r⟩
 ·exact .inl h2
 ·exact .inr ⟨g,cap,cur,rfl,hg,by rw[hb g rfl];exact hh,r⟩
theorem Ec.mo {G G':Gh}{w w':World}(hx:amg G w G' w'){id:Nat}{b:gp}(hv:G'.hv id=G.hv id)
  (ho:b.w=true->∀g,(G.hv id).ownBlock=some g->G.own g=some (.bl id)->G'.own g=some (.bl id)/\w'.heap[g]?=w.heap[g]?) (h:Ec G w id b):Ec G' w' id b where
 wr hw:=by
  obtain⟨cs,h1,h2,h3⟩:=h.wr hw;refine⟨cs,?_,?_,h3.mo hx⟩
  ·rw[hv];exact atU h1 fun g hg=>(ho hw g hg (h2 g hg)).2
  ·rw[hv];exact fun g hg=>(ho hw g hg (h2 g hg)).1
 rd hw:=by rw[hv];exact hx.rd (h.rd hw)
 pos:=h.pos
theorem Xr.rd {G G':Gh}{w w':World}(h:Xr G w G' w'){f:Bool}{t:Ty}{x:t.D}{cs:List Value}(hr:Rd w (RO G f) t x cs):Rd w' (RO G' f) t x cs:=h.e0.rd hr
theorem bN.mono {G G':Gh}{w w':World}{bx bx':List (Nat×List AC)}{bl bl':List (Nat×Option gp)}(hx:Xr G w G' w')(hs:kR G bx bl G' bx' bl'){c:AC}{v:Value}(h:bN G w bx bl c v):bN G' w' bx' bl' c v:=bN.mo hx.e0 hs h
theorem j2.mono {G G':Gh}{w w':World}{bx bx':List (Nat×List AC)}{bl bl':List (Nat×Option gp)}(hx:Xr G w G' w')(hs:kR G bx bl G' bx' bl'){c:AV}{v:Value}(h:j2 G w bx bl c v):j2 G' w' bx' bl' c v:=j2.mo hx.e0 hs h
theorem fL.mono {G G':Gh}{w w':World}(hx:Xr G w G' w'){f:Bool}{t:Ty}{cs:List Value}{xs:List t.D}(h:fL w (RO G f) t cs xs):fL w' (RO G' f) t cs xs:=h.mo hx.e0
theorem Ec.mono {G G':Gh}{w w':World}(hx:Xr G w G' w'){id:Nat}{b:gp}(hv:G'.hv id=G.hv id)
  (ho:b.w=true->∀g,(G.hv id).ownBlock=some g->G.own g=some (.bl id)->G'.own g=some (.bl id)/\w'.heap[g]?=w.heap[g]?) (h:Ec G w id b):Ec G' w' id b:=Ec.mo hx.e0 hv ho h
theorem aw {α:Type}(k n:Nat)(v:α)(l:List (Nat×α)):look ((k,v)::l) n=if k=n then some v else look l n:=by
 show(match Nat.beq k n with|true=>some v|false=>look l n)=_;by_cases h:k=n
 ·subst h;simp
 ·have:Nat.beq k n=false:=by rw[<-Bool.not_eq_true,Nat.beq_eq];exact h
  rw[this,ah h]
theorem dX {α:Type}(n:Nat):∀(q l:List (Nat×α)),look (q++l) n=match look q n with|some v=>some v|none=>look l n
 |[],l=>rfl
 |(k,v)::q,l=>by rw[F5,aw,aw,dX n q l];split<;>rfl
theorem Inv.put {w0:fJ}{w:World}{G:Gh}{st:St}{a:Act}(h:Inv w0 G st a w)(d:Tmp)(hd:d<st.nt){v:AV}{u:Value}(hv:j2 G w st.bx st.bl v u):Inv w0 G (st.put d v) (a.put (some d) u) w where
 nw:=h.nw
 rok:=h.rok
 below:=h.below
 defers:=h.defers
 size:=by simp[Act.put,St.put,h.size]
 sp:=h.sp
 hd:=h.hd
 tm t x hx:=by
  simp only[St.put,aw]at hx;by_cases ht:d=t
  ·subst ht;simp only[ig]at hx;cases hx;have:(a.put (some d) u).tmps.getD d undef=u:=by
    have:d<a.tmps.size:=by rw[h.size];exact hd
    simp[Act.put,OB,this]
   rw[this];exact hv
  ·simp only[ht,gT]at hx;have:=h.tm t x hx;have he:(a.put (some d) u).tmps.getD t undef=a.tmps.getD t undef:=by simp[Act.put,OB,aBF,ht]
   rw[he];exact this
 bx:=h.bx
 bl:=h.bl
 own:=h.own
def Gh.grow (G:Gh)(row:Option Nat)(q:List (Nat×Option gp))(hv':Nat->Value)(nw:Nat->Option Nat):Gh :=
 {nw:=G.nw,ok:=G.ok,hb:=G.hb,
  own:=fun g=>match nw g with|some id=>some (.bl id)|none=>if row=some g then none else G.own g,
  hv:=fun id=>if (look q id).isSome then hv' id else G.hv id}
theorem Inv.grow {w0:fJ}{w w':World}{G:Gh}{st:St}{a:Act}(h:Inv w0 G st a w)(row:Option Nat)(hg:w.grownBy w' row)
  (gF:∀g,row=some g->∃id,G.own g=some (.bl id)/\look st.bl id=some none)
  (q:List (Nat×Option gp)) (hv':Nat->Value) (nw:Nat->Option Nat)
  (hq:∀id,(look q id).isSome=true->look st.bl id=none)
  (hn:∀g id,nw g=some id->(look q id).isSome=true/\(hv' id).ownBlock=some g/\g<w'.heap.size/\(w.heap.size<=g\/row=some g))
  (hb:∀id b,look q id=some (some b)->Ec (G.grow row q hv' nw) w' id b) :
  Inv w0 (G.grow row q hv' nw) {st with bl:=q++st.bl} a w'/\Xr G w (G.grow row q hv' nw) w'/\kR G st.bx st.bl (G.grow row q hv' nw) st.bx (q++st.bl):=by
 have Ed:w0.w.heap.size<=w.heap.size:=h.below.size;have hold:∀g,g<w.heap.size->row≠some g->(G.grow row q hv' nw).own g=G.own g/\w'.heap[g]?=w.heap[g]?:=by
  intro g hlt hne;refine⟨?_,hg.block g hlt (fun e=>hne e.symm)⟩;unfold Gh.grow;dsimp only;cases hnw:nw g with
  |none=>simp[hne]
  |some id =>
   obtain⟨_,_,_,h4⟩:=hn g id hnw;rcases h4 with h4|h4
   ·omega
   ·exact absurd h4 hne
 have hx:Xr G w (G.grow row q hv' nw) w':=by
  have key:∀b x,b<w.heap.size->G.own b=x->(∀id,x≠some (.bl id))->(G.grow row q hv' nw).own b=x/\w'.heap[b]?=w.heap[b]?:=by
   intro b x hb ho hx;have hne:row≠some b:=by intro e;obtain⟨id,h1,_⟩:=gF b e;exact hx id (ho.symm.trans h1)
   obtain⟨h1,h2⟩:=hold b hb hne;exact⟨h1.trans ho,h2⟩
  exact⟨rfl,rfl,hg.size,fun b hb ho=>key b _ hb ho (by simp),fun b hb ho=>key b _ hb ho (by simp)⟩
 have awG:∀id,(look st.bl id).isSome=true->look (q++st.bl) id=look st.bl id/\(look q id).isSome=false:=by
  intro id hs;have hqn:(look q id).isSome=false:=by
   cases hqs:(look q id).isSome with
   |false=>rfl
   |true=>rw[hq id hqs]at hs;cases hs
  refine⟨?_,hqn⟩;rw[dX];cases hql:look q id with
  |none=>rfl
  |some x=>rw[hql]at hqn;cases hqn
 have hs:kR G st.bx st.bl (G.grow row q hv' nw) st.bx (q++st.bl):=by refine⟨fun d hd=>⟨hd,rfl⟩,fun id hd=>?_⟩;obtain⟨h1,h2⟩:=awG id hd;rw[h1];refine⟨hd,?_,fun b' Cq=>⟨b',Cq,rfl⟩⟩;simp[Gh.grow,h2]
 refine⟨⟨h.nw,h.rok,?_,h.defers,h.size,h.sp.mono hx hs,h.Fe hx,?_,?_,?_,?_⟩,hx,hs⟩
 ·refine h.below.step hg.os hg.tape hg.output hg.size fun k hk hf=>hg.block k (DZ hk Ed) fun e=>?_
  obtain⟨id,h1,_⟩:=gF k e.symm;rcases(h.own k _ h1).1 with h2|h2
  ·omega
  ·exact hf h2
 ·exact fun t v hv=>(h.tm t v hv).mono hx hs
 ·intro d l hd;obtain⟨cs,e,h1,h2,h3⟩:=h.bx d l hd;have hlt:=(h.own _ _ h2).2.1;have hne:row≠some (G.hb d):=by intro e;obtain⟨id,h4,_⟩:=gF _ e;rw[h2]at h4;cases h4
  obtain⟨h4,h5⟩:=hold _ hlt hne;exact⟨cs,e,h5.trans h1,h4.trans h2,h3.imp fun _ _=>bN.mono hx hs⟩
 ·intro id b hl;rw[dX]at hl;cases hql:look q id with
  |some x =>
   rw[hql]at hl;cases hl;exact hb id b hql
  |none =>
   rw[hql]at hl;dsimp only at hl;refine(h.bl id b hl).mono hx (by simp[Gh.grow,hql]) fun hw g hgo bH=>?_
   have hlt:=(h.own _ _ bH).2.1;have hne:row≠some g:=by intro e;obtain⟨id',h4,h5⟩:=gF _ e;rw[bH]at h4;cases h4;rw[hl]at h5;cases h5
   obtain⟨h4,h5⟩:=hold _ hlt hne;exact⟨h4.trans bH,h5⟩
 ·intro g k hk;have hk0:=hk;unfold Gh.grow at hk;dsimp only at hk;cases hnw:nw g with
  |some id =>
   rw[hnw]at hk;cases hk;obtain⟨h1,h2,h3,h4⟩:=hn g id hnw;refine⟨?_,h3,?_,?_⟩
   ·rcases h4 with h4|h4
    ·exact .inl (by omega)
    ·obtain⟨id',h5,_⟩:=gF g h4;exact(h.own _ _ h5).1
   ·show(look (q++st.bl) id).isSome=true;rw[dX];cases hql:look q id with
    |none=>rw[hql]at h1;cases h1
    |some x=>rfl
   ·show((G.grow row q hv' nw).hv id).ownBlock=some g;simp[Gh.grow,h1,h2]
  |none =>
   rw[hnw]at hk;dsimp only at hk;by_cases hr:row=some g
   ·simp[hr]at hk
   ·simp only[hr,gT]at hk;obtain⟨h1,h2,h3⟩:=h.own g k hk;refine⟨h1,DZ h2 hg.size,?_⟩;cases k with
    |hid=>trivial
    |bx d=>exact h3
    |bl id =>
     obtain⟨h4,h5⟩:=awG id h3.1;refine⟨?_,?_⟩
     ·show(look (q++st.bl) id).isSome=true;rw[h4];exact h3.1
     ·show((G.grow row q hv' nw).hv id).ownBlock=some g;simp only[Gh.grow,h5,ar3,gT];exact h3.2
def Gh.box (G:Gh)(d g0:Nat):Gh :=
 {nw:=G.nw,ok:=G.ok,hv:=G.hv,hb:=fun x=>if x=d then g0 else G.hb x,own:=fun g=>if g=g0 then some (.bx d) else G.own g}
theorem Inv.box {w0:fJ}{w:World}{G:Gh}{st:St}{a:Act}(h:Inv w0 G st a w)(d:Nat)(hd:look st.bx d=none)(cs:Array Value)(e:TypeId)(l:List AC)
  (hl:cT (bN G w st.bx st.bl) l cs.toList) :
  Inv w0 (G.box d w.heap.size) {st with bx:=(d,l)::st.bx} a (w.alloc (.cells cs e))/\Xr G w (G.box d w.heap.size) (w.alloc (.cells cs e)) /\
   kR G st.bx st.bl (G.box d w.heap.size) ((d,l)::st.bx) st.bl:=by
 have hx:Xr G w (G.box d w.heap.size) (w.alloc (.cells cs e)):=by
  refine⟨rfl,rfl,by simp,fun b hb ho=>⟨?_,Below.heap_alloc _ _ _ hb⟩,fun b hb ho=>⟨?_,Below.heap_alloc _ _ _ hb⟩⟩ <;>
  ·have:b≠w.heap.size:=by omega
   simp[Gh.box,this,ho]
 have hne:∀x,(look st.bx x).isSome=true->x≠d:=by rintro x hs rfl;rw[hd]at hs;cases hs
 have hs:kR G st.bx st.bl (G.box d w.heap.size) ((d,l)::st.bx) st.bl:=by
  refine⟨fun x hs=>⟨?_,?_⟩,fun id hd=>⟨hd,rfl,fun b' Cq=>⟨b',Cq,rfl⟩⟩⟩
  ·rw[aw];split
   ·rfl
   ·exact hs
  ·simp[Gh.box,hne x hs]
 refine⟨⟨h.nw,h.rok,h.below.step rfl rfl rfl (by simp) (fun k hk _=>Below.heap_alloc _ _ _ (DZ hk h.below.size)),h.defers,h.size,h.sp.mono hx hs,h.Fe hx,?_,?_,?_,?_⟩,hx,hs⟩
 ·exact fun t v hv=>(h.tm t v hv).mono hx hs
 ·intro x m hm;show ∃aPR e_1,_;simp only[aw]at hm;by_cases hxd:d=x
  ·subst hxd;simp only[ig]at hm;cases hm;refine⟨cs,e,?_,?_,hl.imp fun _ _=>bN.mono hx hs⟩
   ·show(w.alloc _).heap[(G.box d w.heap.size).hb d]?=_;simp only[Gh.box,ig];exact heap_alloc_new w _
   ·simp[Gh.box]
  ·simp only[hxd,gT]at hm;obtain⟨cs',e',h1,h2,h3⟩:=h.bx x m hm;have hlt:=(h.own _ _ h2).2.1;have aFe:x≠d:=fun e=>hxd e.symm
   refine⟨cs',e',?_,?_,h3.imp fun _ _=>bN.mono hx hs⟩
   ·show(w.alloc _).heap[(G.box d w.heap.size).hb x]?=_;simp only[Gh.box,aFe,gT];rw[Below.heap_alloc _ _ _ hlt];exact h1
   ·have:G.hb x≠w.heap.size:=by omega
    simp[Gh.box,aFe,this,h2]
 ·intro id b hb;refine(h.bl id b hb).mono hx rfl fun hw g hgo bH=>?_
  have hlt:=(h.own _ _ bH).2.1;refine⟨?_,Below.heap_alloc _ _ _ hlt⟩;have:g≠w.heap.size:=by omega
  simp[Gh.box,this,bH]
 ·intro g k hk;by_cases hg:g=w.heap.size
  ·subst hg;simp only[Gh.box,ig]at hk;cases hk;refine⟨.inl h.below.size,by simp,?_,by simp[Gh.box]⟩
   ·simp[aw]
  ·simp only[Gh.box,hg,gT]at hk;obtain⟨h1,h2,h3⟩:=h.own g k hk;refine⟨h1,by simp;omega,?_⟩;cases k with
   |hid=>trivial
   |bx x =>
    obtain⟨h4,h5⟩:=hs.bx x h3.1;exact⟨h4,by rw[h5];exact h3.2⟩
   |bl id=>exact h3
theorem xi {w:World}{g k:Nat}{cs:Array Value}(h:k≠g):(w.setRow g cs).heap[k]?=w.heap[k]?:=setRow_other w g k cs h
theorem aaI {G:Gh}{w:World}{g:Nat}{cs:Array Value}{k:Key}(hk:G.own g=some k)(hn:k≠.hid):Xr G w G (w.setRow g cs):=by
 refine⟨rfl,rfl,by simp,fun b hb ho=>⟨ho,xi ?_⟩,fun b hb ho=>⟨ho,xi ?_⟩⟩
 ·rintro rfl;rw[hk]at ho;cases ho
 ·rintro rfl;rw[hk]at ho;cases ho;exact hn rfl
theorem xj {α:Type}{n k:Nat}{l:List (Nat×α)}(v:α)(_:True:=trivial)(h:(look l n).isSome=true):(look ((k,v)::l) n).isSome=true:=by
 rw[aw];split
 ·rfl
 ·exact h
theorem kR.refl (G:Gh)(bx:List (Nat×List AC))(bl:List (Nat×Option gp)):kR G bx bl G bx bl :=
 ⟨fun _ h=>⟨h,rfl⟩,fun _ h=>⟨h,rfl,fun b' Cq=>⟨b',Cq,rfl⟩⟩⟩
theorem kR.azI (G:Gh)(bx:List (Nat×List AC))(bl:List (Nat×Option gp))(b:Nat)(l:List AC):kR G bx bl G ((b,l)::bx) bl :=
 ⟨fun d h=>⟨xj _ trivial h,rfl⟩,fun _ h=>⟨h,rfl,fun b' Cq=>⟨b',Cq,rfl⟩⟩⟩
theorem kR.atV {G:Gh}{bx:List (Nat×List AC)}{bl:List (Nat×Option gp)}{G':Gh}(id:Nat)(x:Option gp)(hb:G'.hb=G.hb)(hv:G'.hv=G.hv)
  (hx:∀b',x=some b'->∃b,look bl id=some (some b)/\b.t=b'.t):kR G bx bl G' bx ((id,x)::bl) :=
 ⟨fun d h=>⟨h,by rw[hb]⟩,fun i h=>by
  refine⟨xj _ trivial h,by rw[hv],fun b' Cq=>?_⟩;rw[aw]at Cq;by_cases hi:id=i
  ·subst hi;simp only[ig]at Cq;cases Cq;exact hx b' rfl
  ·simp only[hi,gT]at Cq;exact⟨b',Cq,rfl⟩⟩
theorem Inv.aJT {w0:fJ}{w:World}{G:Gh}{st:St}{a:Act}(h:Inv w0 G st a w)(b:Nat)(l:List AC)(hl:look st.bx b=some l)(cs':Array Value)(l':List AC)
  (hr:cT (bN G w st.bx st.bl) l' cs'.toList):Inv w0 G {st with bx:=(b,l')::st.bx} a (w.setRow (G.hb b) cs'):=by
 obtain⟨cs,e,hh,bH,_⟩:=h.bx b l hl;have hx:=aaI (w:=w) (cs:=cs') bH (by simp);have hs:=kR.azI G st.bx st.bl b l';have Ed:=(h.own _ _ bH).1;refine⟨h.nw,h.rok,?_,h.defers,h.size,h.sp.mono hx hs,h.Fe hx,?_,?_,?_,?_⟩
 ·refine h.below.step rfl rfl rfl (by simp) fun k hk hf=>xi ?_
  rintro rfl;rcases Ed with hb|hb
  ·omega
  ·exact hf hb
 ·exact fun t v hv=>(h.tm t v hv).mono hx hs
 ·intro d m hm;simp only[aw]at hm;by_cases hd:b=d
  ·subst hd;simp only[ig]at hm;cases hm;exact⟨cs',e,setRow_heap w _ cs _ e _ hh,bH,hr.imp fun _ _=>bN.mono hx hs⟩
  ·simp only[hd,gT]at hm;obtain⟨cs2,e2,h1,h2,h3⟩:=h.bx d m hm;refine⟨cs2,e2,?_,h2,h3.imp fun _ _=>bN.mono hx hs⟩;rw[xi]
   ·exact h1
   ·intro e3;rw[e3,bH]at h2;cases h2;exact hd rfl
 ·intro id bk hb;refine(h.bl id bk hb).mono hx rfl fun hw g hg ho=>⟨ho,xi ?_⟩
  rintro rfl;rw[bH]at ho;cases ho
 ·intro g k hk;obtain⟨h1,h2,h3⟩:=h.own g k hk;refine⟨h1,by simpa using h2,?_⟩;cases k with
  |hid=>trivial
  |bx x=>exact⟨(hs.bx x h3.1).1,h3.2⟩
  |bl id=>exact h3
theorem Inv.aHP {w0:fJ}{w:World}{G:Gh}{st:St}{a:Act}(h:Inv w0 G st a w)(id:Nat)(b:gp)(hl:look st.bl id=some (some b))(hw:b.w=true)
  (g:Nat) (hg:(G.hv id).ownBlock=some g) (cur':Array Value) (b':gp) (ht:b'.t=b.t)
  (hb:Ec G (w.setRow g cur') id b'):Inv w0 G {st with bl:=(id,some b')::st.bl} a (w.setRow g cur'):=by
 obtain⟨cs,h1,h2,h3⟩:=(h.bl id b hl).wr hw;have bH:=h2 g hg;have hx:=aaI (w:=w) (cs:=cur') bH (by simp);have hs:kR G st.bx st.bl G st.bx ((id,some b')::st.bl):=kR.atV id (some b') rfl rfl fun x hx=>by cases hx;exact⟨b,hl,ht.symm⟩
 have Ed:=(h.own _ _ bH).1;refine⟨h.nw,h.rok,?_,h.defers,h.size,h.sp.mono hx hs,h.Fe hx,?_,?_,?_,?_⟩
 ·refine h.below.step rfl rfl rfl (by simp) fun k hk hf=>xi ?_
  rintro rfl;rcases Ed with hb|hb
  ·omega
  ·exact hf hb
 ·exact fun t v hv=>(h.tm t v hv).mono hx hs
 ·intro d m hm;obtain⟨cs2,e2,h4,h5,h6⟩:=h.bx d m hm;refine⟨cs2,e2,?_,h5,h6.imp fun _ _=>bN.mono hx hs⟩;rw[xi]
  ·exact h4
  ·intro e3;rw[e3,bH]at h5;cases h5
 ·intro i bk hbk;simp only[aw]at hbk;by_cases hi:id=i
  ·subst hi;simp only[ig]at hbk;cases hbk;exact hb
  ·simp only[hi,gT]at hbk;refine(h.bl i bk hbk).mono hx rfl fun hw g' hg' ho=>⟨ho,xi ?_⟩
   rintro rfl;rw[bH]at ho;cases ho;exact hi rfl
 ·intro g' k hk;obtain⟨h4,h5,h6⟩:=h.own g' k hk;refine⟨h4,by simpa using h5,?_⟩;cases k with
  |hid=>trivial
  |bx x=>exact h6
  |bl i=>exact⟨(hs.bl i h6.1).1,h6.2⟩
theorem asa {w:World}{ok:Nat->Prop}{Lo:Nat}{e:TypeId}{t:Ty}{v:Value}{cs:List Value}{xs:List t.D}(ho:w.ownsRow Lo e t.n v xs.length cs)(he:fL w ok t cs xs)
  (dO:∀g,v.ownBlock=some g->ok g) (hp:0<t.n):Rd w ok (.sl e t) xs [v]:=by
 rcases ho.2 with ⟨rfl,hn⟩|⟨g,cap,cur,rfl,hb,hh,hc,hm,hs,htk⟩
 ·refine⟨none,0,by rw[hn],by omega,by omega,fun h0=>by omega⟩
 ·refine⟨some ⟨g,0,none⟩,cap,rfl,hc,?_,fun h0=>⟨g,0,rfl,(AS.1 hh).1,dO g rfl,fun j x hj=>?_⟩⟩
  ·have:maxLen=9223372036854775807:=rfl;omega
  ·obtain⟨c,hr,hcell⟩:=he j x hj;refine⟨c,hr,fun i u hu=>?_⟩;have:=hcell i u hu;rw[<-htk]at this;rw[xf];have h2:w.cell? ⟨g,j*t.n+i,none⟩=cur[j*t.n+i]?:=cell_of_row w g _ cur e (0,0) hh;rw[h2];rw[OC]at this;split at this
   ·simpa using this
   ·cases this
def Gh.drop (G:Gh)(id:Nat):Gh :=
 {nw:=G.nw,ok:=G.ok,hb:=G.hb,hv:=G.hv,own:=fun g=>match G.own g with|some (.bl i)=>if i=id then none else some (.bl i)|k=>k}
theorem Gh.aDk {G:Gh}{id g:Nat}(h:G.own g=none):(G.drop id).own g=none:=by simp[Gh.drop,h]
theorem Gh.aHR {G:Gh}{id g d:Nat}(h:G.own g=some (.bx d)):(G.drop id).own g=some (.bx d):=by simp[Gh.drop,h]
theorem Gh.aHS {G:Gh}{id g i:Nat}(h:G.own g=some (.bl i))(hi:i≠id):(G.drop id).own g=some (.bl i):=by simp[Gh.drop,h,hi]
theorem Gh.aDl {G:Gh}{id g:Nat}(h:G.own g=some (.bl id)):(G.drop id).own g=none:=by simp[Gh.drop,h]
theorem Inv.drop {w0:fJ}{w:World}{G:Gh}{st:St}{a:Act}(h:Inv w0 G st a w)(id:Nat)(b:gp)(hl:look st.bl id=some (some b)) :
  Inv w0 (G.drop id) {st with bl:=(id,some {b with w:=false})::st.bl} a w/\Xr G w (G.drop id) w/\kR G st.bx st.bl (G.drop id) st.bx ((id,some {b with w:=false})::st.bl):=by
 have hx:Xr G w (G.drop id) w:=⟨rfl,rfl,cp _,fun g _ ho=>⟨Gh.aDk ho,rfl⟩,fun g _ ho=>⟨by simp[Gh.drop,ho],rfl⟩⟩;have hs:kR G st.bx st.bl (G.drop id) st.bx ((id,some {b with w:=false})::st.bl):=kR.atV id _ rfl rfl fun x hx=>by cases hx;exact⟨b,hl,rfl⟩
 refine⟨⟨h.nw,h.rok,h.below,h.defers,h.size,h.sp.mono hx hs,h.Fe hx,?_,?_,?_,?_⟩,hx,hs⟩
 ·exact fun t v hv=>(h.tm t v hv).mono hx hs
 ·intro d m hm;obtain⟨cs2,e2,h4,h5,h6⟩:=h.bx d m hm;exact⟨cs2,e2,h4,Gh.aHR h5,h6.imp fun _ _=>bN.mono hx hs⟩
 ·intro i bk hbk;simp only[aw]at hbk;by_cases hi:id=i
  ·subst hi;simp only[ig]at hbk;cases hbk;have hb:=h.bl id b hl;refine⟨fun hw=>by simp at hw,fun _=>?_,hb.pos⟩;cases hw:b.w with
   |false=>exact hx.rd (hb.rd hw)
   |true =>
    obtain⟨cs,h1,h2,h3⟩:=hb.wr hw;refine asa h1 (h3.mono hx) (fun g hg=>⟨Gh.aDl (h2 g hg),.inl ?_⟩) hb.pos;exact h.Uz (h2 g hg)
  ·simp only[hi,gT]at hbk;exact(h.bl i bk hbk).mono hx rfl fun hw g' hg' ho=>⟨Gh.aHS ho (fun e=>hi e.symm),rfl⟩
 ·intro g k hk;unfold Gh.drop at hk;dsimp only at hk;cases ho:G.own g with
  |none=>rw[ho]at hk;cases hk
  |some k0 =>
   rw[ho]at hk;obtain⟨h4,h5,h6⟩:=h.own g k0 ho;cases k0 with
   |hid=>cases hk;exact⟨h4,h5,trivial⟩
   |bx d =>
    cases hk;exact⟨h4,h5,h6⟩
   |bl i =>
    dsimp only at hk;by_cases hi:i=id
    ·simp[hi]at hk
    ·simp only[hi,gT]at hk;cases hk;exact⟨h4,h5,(hs.bl i h6.1).1,h6.2⟩
theorem Inv.kill {w0:fJ}{w:World}{G:Gh}{st:St}{a:Act}(h:Inv w0 G st a w)(id:Nat)(hl:(look st.bl id).isSome=true) :
  Inv w0 G {st with bl:=(id,none)::st.bl} a w/\kR G st.bx st.bl G st.bx ((id,none)::st.bl):=by
 have hx:Xr G w G w:=⟨rfl,rfl,cp _,fun g _ ho=>⟨ho,rfl⟩,fun g _ ho=>⟨ho,rfl⟩⟩;have hs:kR G st.bx st.bl G st.bx ((id,none)::st.bl):=kR.atV id none rfl rfl fun x hx=>by cases hx
 refine⟨⟨h.nw,h.rok,h.below,h.defers,h.size,h.sp.mono hx hs,h.Fe hx,?_,?_,?_,?_⟩,hs⟩
 ·exact fun t v hv=>(h.tm t v hv).mono hx hs
 ·intro d m hm;obtain⟨cs2,e2,h4,h5,h6⟩:=h.bx d m hm;exact⟨cs2,e2,h4,h5,h6.imp fun _ _=>bN.mono hx hs⟩
 ·intro i bk hbk;simp only[aw]at hbk;by_cases hi:id=i
  ·simp[hi]at hbk
  ·simp only[hi,gT]at hbk;exact h.bl i bk hbk
 ·intro g k hk;obtain⟨h4,h5,h6⟩:=h.own g k hk;refine⟨h4,h5,?_⟩;cases k with
  |hid=>trivial
  |bx x=>exact h6
  |bl i=>exact⟨(hs.bl i h6.1).1,h6.2⟩
end Go.Am
