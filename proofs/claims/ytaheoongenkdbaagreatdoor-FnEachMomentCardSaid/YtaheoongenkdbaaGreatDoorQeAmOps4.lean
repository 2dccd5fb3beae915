/- No condition. -/
import Derived.Test.YtaheoongenkdbaaGreatDoorQeAmOps3
set_option linter.all false
namespace Go.Am
open Go.RowKit
section
variable {P:Program} {w0:eH} {w:World} {G:Gh} {st:St} {a:Act} {U:Type} {k:St->Option U} {r:U} {K:Act->World->Prop} {Q:Exit->Act->World->Prop} {o:Oper}
def abP {V:Type}:∀(us b c d:List V),c.length=us.length->Jb (b++c++d) b.length us=b++us++d
 |[],b,c,d,h=>by have:c=[]:=Ya (by simpa using h);subst this;rfl
 |u::us,b,[],d,h=>by simp at h
 |u::us,b,x::c,d,h=>by
  have e:(b++x::c++d).set b.length u=(b++[u])++c++d:=by simp
  rw[Jb,e];have:=abP us (b++[u]) c d (by simpa using h);simpa using this
def ahn {V:Type}(us l:List V)(i:Nat)(h:i+us.length<=l.length):Jb l i us=l.take i++us++l.drop (i+us.length):=by
 have c:l=l.take i++(l.drop i).take us.length++l.drop (i+us.length):=by rw[gI,<-alj,Yb,Yb]
 have b:=abP us (l.take i) ((l.drop i).take us.length) (l.drop (i+us.length)) (by simp;omega);rw[<-c]at b;have d:(l.take i).length=i:=by simp;omega
 rwa [d]at b
def abQ {t:TypeId}{g o:Nat}{v:Value}(hs:P.cellsOf t=v.cells.toList.length)(d:(P.info? t).isSome=true){b:Array Value}{e:TypeId}(f:w.heap[g]?=some (.cells b e (0,0)))(h:o+v.cells.toList.length<=b.size)
  (j:∀u∈v.cells.toList,u.oneCell'=true) :
  (storeVar t ⟨g,o,none⟩ v).run P w=.ok () (w.setRow g (b.toList.take o++v.cells.toList++b.toList.drop (o+v.cells.toList.length)).toArray):=by
 have:=run_storeCells_at P g o e v.cells.toList 0 b w f (by simpa using h) j;obtain⟨i,c⟩:=iR.1 d;have l:v.cells.size=i.size:=by rw[Program.cellsOf,c]at hs;simp at hs;omega
 simp only[NG]at this;simp[storeVar,sizeOf,typeInfo,c,l,this]
def akN {bx:List (Nat×List AC)}{bl:List (Nat×Option fo)}:∀{l:List AC} {vs:List Value},cg (bz G w bx bl) l vs->(∀c∈l,c≠.none)->∀u∈vs,u.oneCell'=true
 |[],[],_,_,u,b=>by simp at b
 |c::l,v::vs,h,d,u,b=>by
  rcases cN.1 b with rfl|b
  .exact bz.one h.1 (d c (by simp))
  .exact akN h.2 (fun c e=>d c (by simp[e])) u b
 |[],_::_,h,_,_,_=>h.elim|_::_,[],h,_,_,_=>h.elim
def abR:∀{l:List AC},ahk l=true->∀c∈l,c≠.none
 |[],_,c,b=>by simp at b
 |x::l,h,c,b=>by
  have d:x≠.none:=by rintro rfl;simp[ahk]at h
  have e:ahk l=true:=by cases x<;>first|exact h|exact absurd rfl d
  rcases cN.1 b with rfl|b
  .exact d
  .exact abR e c b
def alH (h:Inv w0 G st a w)(t:TypeId)(x y:Operand)(j:o.op=.store t x y)(m:(st.dR y).kn=true)(n:ahk (st.dR y).cells=true)(hs:P.cellsOf t=(st.dR y).cells.length)(p:(P.info? t).isSome=true)
  {b c:Nat} (q:st.ac x=.ptr b c) {l:List AC} (f:look st.bx b=some l) (F:c+(st.dR y).cells.length<=l.length)
  (s:({st with bx:=(b,Hf l c (st.dR y).cells)::st.bx}:St).pk o.dst (.TV []) k=some r) (z:ra w0 k r K):o.wp P a w K Q:=by
 have g:=h.ac x;rw[q]at g;obtain⟨_,A⟩:=g;obtain⟨cs,e,B,bm,hrel⟩:=h.bx b l f;have d:=(h.dR y).cells m;have hlen:=d.len;have H:=hrel.len;have C:=akN d (abR n);have i:c+(a.eval y).cells.toList.length<=cs.toList.length:=by omega
 have D:=abQ (P:=P) (t:=t) (o:=c) (v:=a.eval y) (by omega) p B (by simpa using i) C;have k7:=cg.Hf c hrel d;rw[ahn _ _ _ i]at k7;have E:=h.aH0 b l f (cs.toList.take c++(a.eval y).cells.toList++cs.toList.drop (c+(a.eval y).cells.toList.length)).toArray _ (by simpa using k7);refine aDR (w':=_) ?_ (w6 E (v:=.TV []) (u:=undef) ⟨#[],rfl,trivial⟩ s z);unfold execOp;rw[j];dsimp only;rw[A];simp only[Instr.storeAt,Instr.sureAddr,Sem.run_bind,Sem.run_pure,Result.andThen_ok,D]
def QN {id:Nat}{len:Option Int}(h:st.oG id=none):st.dx (.own id len)=st:=by show(match st.oG id with|some b=>_|none=>st)=st;rw[h]
def mB {id:Nat}{len:Option Int}{b:fo}(h:st.oG id=some b):st.dx (.own id len)={st with bl:=(id,some {b with w:=false})::st.bl}:=by show(match st.oG id with|some b=>{st with bl:=(id,some {b with w:=false})::st.bl}|none=>st)=_;rw[h]
def Inv.dx (h:Inv w0 G st a w)(c:AC):∃d,Inv w0 d (st.dx c) a w/\W0 G w d w/\j5 G st.bx st.bl d (st.dx c).bx (st.dx c).bl:=by
 have aHC:Inv w0 G st a w/\W0 G w G w/\j5 G st.bx st.bl G st.bx st.bl:=⟨h,⟨rfl,rfl,bf _,fun _ _ e=>⟨e,rfl⟩,fun _ _ e=>⟨e,rfl⟩⟩,j5.refl _ _ _⟩;cases c with
 |own id len =>
  cases f:st.oG id with
  |none=>rw[QN f];exact⟨G,aHC⟩|some b=>rw[mB f];exact⟨_,h.drop id b (dA f)⟩
 |_=>exact⟨G,aHC⟩
def W0.trans {l G2 m:Gh}{w1 n p:World}(h:W0 l w1 G2 n)(c:W0 G2 n m p):W0 l w1 m p :=
 ⟨c.nw.trans h.nw,c.ok.trans h.ok,bZ h.size c.size,fun b d e=>by
  obtain⟨f,g⟩:=h.ro b d e;obtain⟨i,j⟩:=c.ro b (En d h.size) f;exact⟨i,j.trans g⟩,fun b d e=>by
  obtain⟨f,g⟩:=h.hid b d e;obtain⟨i,j⟩:=c.hid b (En d h.size) f;exact⟨i,j.trans g⟩⟩
def j5.trans {f G2 g:Gh}{i bx2 j:List (Nat×List AC)}{l bl2 bl3:List (Nat×Option fo)}(h:j5 f i l G2 bx2 bl2)(e:j5 G2 bx2 bl2 g j bl3):j5 f i l g j bl3 :=
 ⟨fun d c=>⟨(e.bx d (h.bx d c).1).1,(e.bx d (h.bx d c).1).2.trans (h.bx d c).2⟩,fun id c=>by obtain⟨m,n,p⟩:=h.bl id c;obtain⟨q,s,t⟩:=e.bl id m;refine⟨q,s.trans n,fun u v=>?_⟩;obtain⟨b,x,y⟩:=t u v;obtain⟨z,A,B⟩:=p b x;exact⟨z,A,B.trans y⟩⟩
structure gr (st cy:St):Prop where
 nt:cy.nt=st.nt
 tm:cy.tm=st.tm
 bx:cy.bx=st.bx
 bl:∀id,look cy.bl id=look st.bl id\/∃b,look st.bl id=some (some b)/\look cy.bl id=some (some {b with w:=false})
def gr.refl (st:St):gr st st:=⟨rfl,rfl,rfl,fun _=>.inl rfl⟩
def gr.trans {f g i:St}(h:gr f g)(e:gr g i):gr f i:=by
 refine⟨e.nt.trans h.nt,e.tm.trans h.tm,e.bx.trans h.bx,fun id=>?_⟩;rcases h.bl id with d|⟨b,d,j⟩<;>rcases e.bl id with c|⟨m,c,l⟩
 .exact .inl (c.trans d)
 .exact .inr ⟨m,d▸c,l⟩
 .exact .inr ⟨b,d,c.trans j⟩
 .rw[j]at c;cases c;exact .inr ⟨b,d,l⟩
def rb (st:St)(c:AC):gr st (st.dx c):=by
 cases c with
 |own id len =>
  cases d:st.oG id with
  |none=>rw[QN d];exact .refl st
  |some b =>
   rw[mB d];refine⟨rfl,rfl,rfl,fun i=>?_⟩;show look ((id,some {b with w:=false})::st.bl) i=_\/_;by_cases e:id=i
   .subst e;exact .inr ⟨b,dA d,by simp[aq]⟩
   .exact .inl (by simp[aq,e])
 |_=>exact .refl st
def Inv.freeze:∀(l:List AC) {G:Gh} {st:St} (h:Inv w0 G st a w),∃b,Inv w0 b (st.freeze l) a w/\W0 G w b w/\j5 G st.bx st.bl b (st.freeze l).bx (st.freeze l).bl/\gr st (st.freeze l)
 |[],G,st,h=>⟨G,h,⟨rfl,rfl,bf _,fun _ _ d=>⟨d,rfl⟩,fun _ _ d=>⟨d,rfl⟩⟩,j5.refl _ _ _,.refl st⟩
 |c::l,G,st,h=>by obtain⟨q,e,f,g⟩:=h.dx c;obtain⟨i,j,m,n,p⟩:=Inv.freeze l e;exact⟨i,j,f.trans m,g.trans n,(rb st c).trans p⟩
def Jf:∀(l:List AC) (st:St) (id:Nat) (len:Option Int) (b:fo),AC.own id len∈l->look st.bl id=some (some b)->look (st.freeze l).bl id=some (some {b with w:=false})
 |c::l,st,id,len,b,hm,e=>by
  show look ((st.dx c).freeze l).bl id=_;have aJN:∀(l:List AC) (st:St) (b:fo),look st.bl id=some (some {b with w:=false})->look (st.freeze l).bl id=some (some {b with w:=false}):=by
   intro l
   induction l with
   |nil=>exact fun _ _ h=>h
   |cons c l g =>
    intro st b h;show look ((st.dx c).freeze l).bl id=_;rcases(rb st c).bl id with d|⟨i,d,f⟩
    .exact g _ b (d.trans h)
    .rw[h]at d;cases d;exact g _ b f
  rcases cN.1 hm with rfl|hm
  .refine aJN l _ b ?_;have:st.oG id=some b:=by simp[St.oG,e]
   rw[mB this];simp[aq]
  .rcases(rb st c).bl id with d|⟨i,d,f⟩
   .exact Jf l _ id len b hm (d.trans e)
   .rw[e]at d;cases d;have:=Jf l _ id len _ hm f;exact this
def aDU {st cy:St}(h:gr st cy)(id:Nat):cy.oG id=st.oG id\/∃b,st.oG id=some b/\cy.oG id=some {b with w:=false}:=by
 unfold St.oG;rcases h.bl id with c|⟨b,c,d⟩
 .rw[c];exact .inl rfl
 .rw[c,d];exact .inr ⟨b,rfl,rfl⟩
def av2 {st cy:St}(h:gr st cy)(t:Ty)(c:AC):cx cy t c=cx st t c:=by
 cases c with
 |own id len =>
  simp only[cx];rcases aDU h id with d|⟨b,d,e⟩
  .rw[d]
  .rw[d,e]
 |_=>rfl
def tM {st cy:St}(h:gr st cy):∀(t:Ty) (l:List AC),im cy t l=im st t l
 |.int k,l=>by
  cases l with
  |nil=>rfl|cons c l=>cases c<;>rfl
 |.bool,l=>by
  cases l with
  |nil=>rfl|cons c l=>cases c<;>rfl
 |.str,l=>by
  cases l with
  |nil=>rfl|cons c l=>cases c<;>rfl
 |.unit,l=>rfl|.pair t u,l=>by
  simp only[im];rw[tM h t l];cases im st t l with
  |none=>rfl
  |some x =>
   obtain⟨x,r⟩:=x;dsimp only;rw[tM h u r]
 |.sl e t,[]=>rfl|.sl e t,c::r=>by simp only[im];rw[av2 h]
def ic {ok c:Nat->Prop}(h:∀b,ok b->c b){t:Ty}{x:t.D}{cs:List Value}(d:Rd w ok t x cs):Rd w c t x cs:=d.mono (bf _) fun b _ e=>⟨h b e,rfl⟩
def alI {ok:Nat->Prop}{e:TypeId}{t u:Ty}(h:t=u){xs:List t.D}{v:Value}(b:Rd w ok (.sl e t) xs [v]):∀c,Rd w ok (.sl c u) (Yh h xs) [v]:=by subst h;exact fun _=>b
def aGe {ok:Nat->Prop}{e:TypeId}{t:Ty}{xs:List t.D}{A:Option Addr}{n f:Nat}(h:Rd w ok (.sl e t) xs [.slice A n f]){m:Nat}(z:m<=n):Rd w ok (.sl e t) (xs.take m) [.slice A m f]:=by
 obtain⟨B,C,d,D,E,g⟩:=h;have d:=(s6 d).1;injection d with i j l
 subst i j l;have p:(xs.take m).length=m:=by simp;omega
 refine⟨A,f,by rw[p],by omega,by omega,fun F=>?_⟩;obtain⟨b,o,q,s,u,v⟩:=g (by omega);refine⟨b,o,q,s,u,fun y x c=>v y x ?_⟩;rw[Of]at c;split at c
 .exact c
 .cases c
def aH1 {id:Nat}{b:fo}(d:Et G w id b){ok:Nat->Prop}(f:∀g,RO G b.f g->ok g)(h:b.w=true->∀g,(G.hv id).ownBlock=some g->ok g):Rd w ok (.sl b.e b.t) b.xs [G.hv id]:=by
 cases e:b.w with
 |false=>exact ic f (d.rd e)
 |true =>
  obtain⟨cs,i,q,j⟩:=d.wr e;refine arp i (fun l x m=>?_) (h e) d.pos;obtain⟨c,n,p⟩:=j l x m;exact⟨c,ic f n,p⟩
def jO (h:Inv w0 G st a w){t:Ty}{c:AC}{v:Value}{xs:List t.D}(i:bz G w st.bx st.bl c v)(d:cx st t c=some xs){ok:Nat->Prop}
  (bm:∀id len b,c=.own id len->look st.bl id=some (some b)->(∀g,RO G b.f g->ok g)/\(b.w=true->∀g,(G.hv id).ownBlock=some g->ok g))
  (y:∀f e u j,c=.ro f e u j->∀g,RO G f g->ok g):∀e,Rd w ok (.sl e t) xs [v]:=by
 intro e;cases c with
 |nil =>
  simp only[cx]at d;cases d;rw[show v=_ from i];exact⟨none,0,rfl,bf _,by simp,fun s=>absurd s (by simp)⟩
 |ro f z u j =>
  simp only[cx]at d;split at d
  .rename_i m;cases d;exact alI _ (ic (y f z u j rfl) i) e
  .cases d
 |own id len =>
  simp only[cx]at d;cases p:st.oG id with
  |none=>rw[p]at d;cases d
  |some b =>
   rw[p]at d;dsimp only at d;split at d
   .rename_i m;cases d;have x:=dA p;have B:=h.bl id b x;obtain⟨C,D⟩:=bm id len b rfl x;have q:=aH1 B C D;cases len with
    |none =>
     rw[i.2.2];exact alI (Ty.beq_eq m) q e
    |some l =>
     obtain⟨_,s,A,n,cap,E,F,rfl⟩:=i;rw[E]at q;have:=alI (Ty.beq_eq m) q e;exact aGe this (by omega)
   .cases d
 |_=>simp[cx]at d
def Ok {ok:Nat->Prop}{bx:List (Nat×List AC)}{bl:List (Nat×Option fo)}:∀{t:Ty} {l:List AC} {vs:List Value} {x:t.D} {g:List AC},
  (∀t c v xs,c∈l->bz G w bx bl c v->cx st t c=some xs->∀e,Rd w ok (.sl e t) xs [v]) ->
  cg (bz G w bx bl) l vs->im st t l=some (x,g)->∃i j,vs=i++j/\Rd w ok t x i/\cg (bz G w bx bl) g j/\∃m,l=m++g
 |.int k,.int O n::l,v::vs,x,g,h,f,d=>by
  simp only[im]at d;split at d
  .rename_i s;cases d;cases abG s;exact⟨[v],vs,rfl,by rw[show v=_ from f.1];rfl,f.2,[_],rfl⟩
  .cases d
 |.bool,.bool b::l,v::vs,x,g,h,f,d=>by simp only[im]at d;cases d;exact⟨[v],vs,rfl,by rw[show v=_ from f.1];rfl,f.2,[_],rfl⟩
 |.str,.str b::l,v::vs,x,g,h,f,d=>by simp only[im]at d;cases d;exact⟨[v],vs,rfl,by rw[show v=_ from f.1];rfl,f.2,[_],rfl⟩
 |.unit,l,vs,x,g,h,f,d=>by simp only[im]at d;cases d;exact⟨[],vs,rfl,rfl,f,[],rfl⟩
 |.pair t u,l,vs,x,g,h,f,d=>by
  simp only[im]at d;split at d
  .rename_i y R A;split at d
   .rename_i z S B;cases d;obtain⟨i,j,rfl,C,D,m,p⟩:=Ok h f A;obtain⟨q,E,rfl,F,H,I,L⟩:=Ok (fun t c v xs M=>h t c v xs (by rw[p];simp[M])) D B;exact⟨i++q,E,by simp,⟨i,q,rfl,C,F⟩,H,m++I,by rw[p,L];simp⟩
   .cases d
  .cases d
 |.sl e t,c::l,v::vs,x,g,h,f,d=>by
  simp only[im]at d;split at d
  .rename_i xs N;cases d;exact⟨[v],vs,rfl,h t c v _ (by simp) f.1 N e,f.2,[c],rfl⟩
  .cases d
 |_,[],_::_,_,_,_,f,_=>f.elim|_,_::_,[],_,_,_,f,_=>f.elim|.int _,[],[],_,_,_,_,d=>by simp[im]at d
 |.bool,[],[],_,_,_,_,d=>by simp[im]at d
 |.str,[],[],_,_,_,_,d=>by simp[im]at d
 |.sl _ _,[],[],_,_,_,_,d=>by simp[im]at d
 |.int _,.none::_,_::_,_,_,_,_,d=>by simp[im]at d
end
end Go.Am
