/- No condition. -/
import Derived.Test.YtaheoongenkdbaaGreatDoorQsAmOps3
set_option linter.all false
namespace Go.Am
open Go.RowKit
section
variable {P:Program} {w0:eA} {w:World} {G:Gh} {st:St} {a:Act} {U:Type} {k:St->Option U} {r:U} {K:Act->World->Prop} {Q:Exit->Act->World->Prop} {o:Oper}
def aav {V:Type}:∀(us b c d:List V),c.length=us.length->H3 (b++c++d) b.length us=b++us++d
 |[],b,c,d,h=>by have:c=[]:=WS (by simpa using h);subst this;rfl
 |u::us,b,[],d,h=>by simp at h
 |u::us,b,x::c,d,h=>by
  have e:(b++x::c++d).set b.length u=(b++[u])++c++d:=by simp
  rw[H3,e];have:=aav us (b++[u]) c d (by simpa using h);simpa using this
def afK {V:Type}(us l:List V)(i:Nat)(h:i+us.length<=l.length):H3 l i us=l.take i++us++l.drop (i+us.length):=by
 have c:l=l.take i++(l.drop i).take us.length++l.drop (i+us.length):=by rw[ik,<-List.drop_drop,ao8,ao8]
 have b:=aav us (l.take i) ((l.drop i).take us.length) (l.drop (i+us.length)) (by simp;omega);rw[<-c]at b;have d:(l.take i).length=i:=by simp;omega
 rwa [d]at b
def aaw {t:TypeId}{g o:Nat}{v:Value}(c:P.cellsOf t=v.cells.toList.length)(f:(P.info? t).isSome=true){b:Array Value}{e:TypeId}(h:w.heap[g]?=some (.cells b e (0,0)))(j:o+v.cells.toList.length<=b.size)
  (l:∀u∈v.cells.toList,u.oneCell'=true) :
  (storeVar t ⟨g,o,none⟩ v).run P w=.ok () (w.setRow g (b.toList.take o++v.cells.toList++b.toList.drop (o+v.cells.toList.length)).toArray):=by
 have:=run_storeCells_at P g o e v.cells.toList 0 b w h (by simpa using j) l;obtain⟨i,d⟩:=ij.1 f;have m:v.cells.size=i.size:=by rw[Program.cellsOf,d]at c;simp at c;omega
 simp only[WW]at this;simp[storeVar,sizeOf,typeInfo,d,m,this]
def ai7 {bx:List (Nat×List AC)}{bl:List (Nat×Option fa)}:∀{l:List AC} {vs:List Value},b6 (bm G w bx bl) l vs->(∀c∈l,c≠.none)->∀u∈vs,u.oneCell'=true
 |[],[],_,_,u,b=>by simp at b
 |c::l,v::vs,h,d,u,b=>by
  rcases fe.1 b with rfl|b
  .exact bm.one h.1 (d c (by simp))
  .exact ai7 h.2 (fun c e=>d c (by simp[e])) u b
 |[],_::_,h,_,_,_=>h.elim|_::_,[],h,_,_,_=>h.elim
def aax:∀{l:List AC},afG l=true->∀c∈l,c≠.none
 |[],_,c,b=>by simp at b
 |x::l,h,c,b=>by
  have d:x≠.none:=by rintro rfl;simp[afG]at h
  have e:afG l=true:=by cases x<;>first|exact h|exact absurd rfl d
  rcases fe.1 b with rfl|b
  .exact d
  .exact aax e c b
def ajQ (h:Inv w0 G st a w)(t:TypeId)(x y:Operand)(j:o.op=.store t x y)(m:(st.dO y).kn=true)(n:afG (st.dO y).cells=true)(E:P.cellsOf t=(st.dO y).cells.length)(hi:(P.info? t).isSome=true)
  {b c:Nat} (p:st.ac x=.ptr b c) {l:List AC} (f:look st.bx b=some l) (F:c+(st.dO y).cells.length<=l.length)
  (q:({st with bx:=(b,F6 l c (st.dO y).cells)::st.bx}:St).pk o.dst (.SL []) k=some r) (s:pD w0 k r K):o.wp P a w K Q:=by
 have g:=h.ac x;rw[p]at g;obtain⟨_,z⟩:=g;obtain⟨cs,e,A,bd,hrel⟩:=h.bx b l f;have d:=(h.dO y).cells m;have hlen:=d.len;have H:=hrel.len;have B:=ai7 d (aax n);have i:c+(a.eval y).cells.toList.length<=cs.toList.length:=by omega
 have C:=aaw (P:=P) (t:=t) (o:=c) (v:=a.eval y) (by omega) hi A (by simpa using i) B;have kE:=b6.F6 c hrel d;rw[afK _ _ _ i]at kE;have D:=h.aEd b l f (cs.toList.take c++(a.eval y).cells.toList++cs.toList.drop (c+(a.eval y).cells.toList.length)).toArray _ (by simpa using kE);refine aAM (w':=_) ?_ (vX D (v:=.SL []) (u:=undef) ⟨#[],rfl,trivial⟩ q s);unfold execOp;rw[j];dsimp only;rw[z];simp only[Instr.storeAt,Instr.sureAddr,Sem.run_bind,Sem.run_pure,Result.andThen_ok,C]
def PF {id:Nat}{len:Option Int}(h:st.nS id=none):st.du (.own id len)=st:=by show(match st.nS id with|some b=>_|none=>st)=st;rw[h]
def l2 {id:Nat}{len:Option Int}{b:fa}(h:st.nS id=some b):st.du (.own id len)={st with bl:=(id,some {b with w:=false})::st.bl}:=by show(match st.nS id with|some b=>{st with bl:=(id,some {b with w:=false})::st.bl}|none=>st)=_;rw[h]
def Inv.du (h:Inv w0 G st a w)(c:AC):∃d,Inv w0 d (st.du c) a w/\VE G w d w/\jy G st.bx st.bl d (st.du c).bx (st.du c).bl:=by
 have aDP:Inv w0 G st a w/\VE G w G w/\jy G st.bx st.bl G st.bx st.bl:=⟨h,⟨rfl,rfl,bP _,fun _ _ e=>⟨e,rfl⟩,fun _ _ e=>⟨e,rfl⟩⟩,jy.refl _ _ _⟩;cases c with
 |own id len =>
  cases f:st.nS id with
  |none=>rw[PF f];exact⟨G,aDP⟩|some b=>rw[l2 f];exact⟨_,h.drop id b (dx f)⟩
 |_=>exact⟨G,aDP⟩
def VE.trans {l G2 m:Gh}{w1 n p:World}(h:VE l w1 G2 n)(c:VE G2 n m p):VE l w1 m p :=
 ⟨c.nw.trans h.nw,c.ok.trans h.ok,cj h.size c.size,fun b d e=>by
  obtain⟨f,g⟩:=h.ro b d e;obtain⟨i,j⟩:=c.ro b (Dj d h.size) f;exact⟨i,j.trans g⟩,fun b d e=>by
  obtain⟨f,g⟩:=h.hid b d e;obtain⟨i,j⟩:=c.hid b (Dj d h.size) f;exact⟨i,j.trans g⟩⟩
def jy.trans {f G2 g:Gh}{i bx2 j:List (Nat×List AC)}{l bl2 bl3:List (Nat×Option fa)}(h:jy f i l G2 bx2 bl2)(e:jy G2 bx2 bl2 g j bl3):jy f i l g j bl3 :=
 ⟨fun d c=>⟨(e.bx d (h.bx d c).1).1,(e.bx d (h.bx d c).1).2.trans (h.bx d c).2⟩,fun id c=>by obtain⟨m,n,p⟩:=h.bl id c;obtain⟨q,s,t⟩:=e.bl id m;refine⟨q,s.trans n,fun u v=>?_⟩;obtain⟨b,x,y⟩:=t u v;obtain⟨z,A,B⟩:=p b x;exact⟨z,A,B.trans y⟩⟩
structure fW (st cA:St):Prop where
 nt:cA.nt=st.nt
 tm:cA.tm=st.tm
 bx:cA.bx=st.bx
 bl:∀id,look cA.bl id=look st.bl id\/∃b,look st.bl id=some (some b)/\look cA.bl id=some (some {b with w:=false})
def fW.refl (st:St):fW st st:=⟨rfl,rfl,rfl,fun _=>.inl rfl⟩
def fW.trans {f g i:St}(h:fW f g)(e:fW g i):fW f i:=by
 refine⟨e.nt.trans h.nt,e.tm.trans h.tm,e.bx.trans h.bx,fun id=>?_⟩;rcases h.bl id with d|⟨b,d,j⟩<;>rcases e.bl id with c|⟨m,c,l⟩
 .exact .inl (c.trans d)
 .exact .inr ⟨m,d▸c,l⟩
 .exact .inr ⟨b,d,c.trans j⟩
 .rw[j]at c;cases c;exact .inr ⟨b,d,l⟩
def pE (st:St)(c:AC):fW st (st.du c):=by
 cases c with
 |own id len =>
  cases d:st.nS id with
  |none=>rw[PF d];exact .refl st
  |some b =>
   rw[l2 d];refine⟨rfl,rfl,rfl,fun i=>?_⟩;show look ((id,some {b with w:=false})::st.bl) i=_\/_;by_cases e:id=i
   .subst e;exact .inr ⟨b,dx d,by simp[ar]⟩
   .exact .inl (by simp[ar,e])
 |_=>exact .refl st
def Inv.freeze:∀(l:List AC) {G:Gh} {st:St} (h:Inv w0 G st a w),∃b,Inv w0 b (st.freeze l) a w/\VE G w b w/\jy G st.bx st.bl b (st.freeze l).bx (st.freeze l).bl/\fW st (st.freeze l)
 |[],G,st,h=>⟨G,h,⟨rfl,rfl,bP _,fun _ _ d=>⟨d,rfl⟩,fun _ _ d=>⟨d,rfl⟩⟩,jy.refl _ _ _,.refl st⟩
 |c::l,G,st,h=>by obtain⟨q,e,f,g⟩:=h.du c;obtain⟨i,j,m,n,p⟩:=Inv.freeze l e;exact⟨i,j,f.trans m,g.trans n,(pE st c).trans p⟩
def H7:∀(l:List AC) (st:St) (id:Nat) (len:Option Int) (b:fa),AC.own id len∈l->look st.bl id=some (some b)->look (st.freeze l).bl id=some (some {b with w:=false})
 |c::l,st,id,len,b,hm,e=>by
  show look ((st.du c).freeze l).bl id=_;have aFP:∀(l:List AC) (st:St) (b:fa),look st.bl id=some (some {b with w:=false})->look (st.freeze l).bl id=some (some {b with w:=false}):=by
   intro l
   induction l with
   |nil=>exact fun _ _ h=>h
   |cons c l g =>
    intro st b h;show look ((st.du c).freeze l).bl id=_;rcases(pE st c).bl id with d|⟨i,d,f⟩
    .exact g _ b (d.trans h)
    .rw[h]at d;cases d;exact g _ b f
  rcases fe.1 hm with rfl|hm
  .refine aFP l _ b ?_;have:st.nS id=some b:=by simp[St.nS,e]
   rw[l2 this];simp[ar]
  .rcases(pE st c).bl id with d|⟨i,d,f⟩
   .exact H7 l _ id len b hm (d.trans e)
   .rw[e]at d;cases d;have:=H7 l _ id len _ hm f;exact this
def aAP {st cA:St}(h:fW st cA)(id:Nat):cA.nS id=st.nS id\/∃b,st.nS id=some b/\cA.nS id=some {b with w:=false}:=by
 unfold St.nS;rcases h.bl id with c|⟨b,c,d⟩
 .rw[c];exact .inl rfl
 .rw[c,d];exact .inr ⟨b,rfl,rfl⟩
def atq {st cA:St}(h:fW st cA)(t:Ty)(c:AC):cz cA t c=cz st t c:=by
 cases c with
 |own id len =>
  simp only[cz];rcases aAP h id with d|⟨b,d,e⟩
  .rw[d]
  .rw[d,e]
 |_=>rfl
def sL {st cA:St}(h:fW st cA):∀(t:Ty) (l:List AC),im cA t l=im st t l
 |.int k,l=>by
  cases l with
  |nil=>rfl|cons c l=>cases c<;>rfl
 |.bool,l=>by
  cases l with
  |nil=>rfl|cons c l=>cases c<;>rfl
 |.str,l=>by
  cases l with
  |nil=>rfl|cons c l=>cases c<;>rfl
 |.unit,l=>rfl|.pair t u,l=>by
  simp only[im];rw[sL h t l];cases im st t l with
  |none=>rfl
  |some x =>
   obtain⟨x,r⟩:=x;dsimp only;rw[sL h u r]
 |.sl e t,[]=>rfl|.sl e t,c::r=>by simp only[im];rw[atq h]
def gS {ok c:Nat->Prop}(h:∀b,ok b->c b){t:Ty}{x:t.D}{cs:List Value}(d:Rd w ok t x cs):Rd w c t x cs:=d.mono (bP _) fun b _ e=>⟨h b e,rfl⟩
def ajR {ok:Nat->Prop}{e:TypeId}{t u:Ty}(h:t=u){xs:List t.D}{v:Value}(b:Rd w ok (.sl e t) xs [v]):∀c,Rd w ok (.sl c u) (WX h xs) [v]:=by subst h;exact fun _=>b
def aCN {ok:Nat->Prop}{e:TypeId}{t:Ty}{xs:List t.D}{A:Option Addr}{n f:Nat}(h:Rd w ok (.sl e t) xs [.slice A n f]){m:Nat}(z:m<=n):Rd w ok (.sl e t) (xs.take m) [.slice A m f]:=by
 obtain⟨B,C,d,D,E,g⟩:=h;have d:=(vS d).1;injection d with i j l
 subst i j l;have p:(xs.take m).length=m:=by simp;omega
 refine⟨A,f,by rw[p],by omega,by omega,fun F=>?_⟩;obtain⟨b,o,q,s,u,v⟩:=g (by omega);refine⟨b,o,q,s,u,fun y x c=>v y x ?_⟩;rw[Nc]at c;split at c
 .exact c
 .cases c
def aEe {id:Nat}{b:fa}(d:Dm G w id b){ok:Nat->Prop}(f:∀g,RO G b.f g->ok g)(h:b.w=true->∀g,(G.hv id).ownBlock=some g->ok g):Rd w ok (.sl b.e b.t) b.xs [G.hv id]:=by
 cases e:b.w with
 |false=>exact gS f (d.rd e)
 |true =>
  obtain⟨cs,i,q,j⟩:=d.wr e;refine apg i (fun l x m=>?_) (h e) d.pos;obtain⟨c,n,p⟩:=j l x m;exact⟨c,gS f n,p⟩
def iV (h:Inv w0 G st a w){t:Ty}{c:AC}{v:Value}{xs:List t.D}(i:bm G w st.bx st.bl c v)(d:cz st t c=some xs){ok:Nat->Prop}
  (bd:∀id len b,c=.own id len->look st.bl id=some (some b)->(∀g,RO G b.f g->ok g)/\(b.w=true->∀g,(G.hv id).ownBlock=some g->ok g))
  (y:∀f e u j,c=.ro f e u j->∀g,RO G f g->ok g):∀e,Rd w ok (.sl e t) xs [v]:=by
 intro e;cases c with
 |nil =>
  simp only[cz]at d;cases d;rw[show v=_ from i];exact⟨none,0,rfl,bP _,by simp,fun s=>absurd s (by simp)⟩
 |ro f z u j =>
  simp only[cz]at d;split at d
  .rename_i m;cases d;exact ajR _ (gS (y f z u j rfl) i) e
  .cases d
 |own id len =>
  simp only[cz]at d;cases p:st.nS id with
  |none=>rw[p]at d;cases d
  |some b =>
   rw[p]at d;dsimp only at d;split at d
   .rename_i m;cases d;have x:=dx p;have B:=h.bl id b x;obtain⟨C,D⟩:=bd id len b rfl x;have q:=aEe B C D;cases len with
    |none =>
     rw[i.2.2];exact ajR (Ty.beq_eq m) q e
    |some l =>
     obtain⟨_,s,A,n,cap,E,F,rfl⟩:=i;rw[E]at q;have:=ajR (Ty.beq_eq m) q e;exact aCN this (by omega)
   .cases d
 |_=>simp[cz]at d
def Nj {ok:Nat->Prop}{bx:List (Nat×List AC)}{bl:List (Nat×Option fa)}:∀{t:Ty} {l:List AC} {vs:List Value} {x:t.D} {g:List AC},
  (∀t c v xs,c∈l->bm G w bx bl c v->cz st t c=some xs->∀e,Rd w ok (.sl e t) xs [v]) ->
  b6 (bm G w bx bl) l vs->im st t l=some (x,g)->∃i j,vs=i++j/\Rd w ok t x i/\b6 (bm G w bx bl) g j/\∃m,l=m++g
 |.int k,.int O n::l,v::vs,x,g,h,f,d=>by
  simp only[im]at d;split at d
  .rename_i s;cases d;cases aan s;exact⟨[v],vs,rfl,by rw[show v=_ from f.1];rfl,f.2,[_],rfl⟩
  .cases d
 |.bool,.bool b::l,v::vs,x,g,h,f,d=>by simp only[im]at d;cases d;exact⟨[v],vs,rfl,by rw[show v=_ from f.1];rfl,f.2,[_],rfl⟩
 |.str,.str b::l,v::vs,x,g,h,f,d=>by simp only[im]at d;cases d;exact⟨[v],vs,rfl,by rw[show v=_ from f.1];rfl,f.2,[_],rfl⟩
 |.unit,l,vs,x,g,h,f,d=>by simp only[im]at d;cases d;exact⟨[],vs,rfl,rfl,f,[],rfl⟩
 |.pair t u,l,vs,x,g,h,f,d=>by
  simp only[im]at d;split at d
  .rename_i y R A;split at d
   .rename_i z S B;cases d;obtain⟨i,j,rfl,C,D,m,p⟩:=Nj h f A;obtain⟨q,E,rfl,F,H,I,L⟩:=Nj (fun t c v xs M=>h t c v xs (by rw[p];simp[M])) D B;exact⟨i++q,E,by simp,⟨i,q,rfl,C,F⟩,H,m++I,by rw[p,L];simp⟩
   .cases d
  .cases d
 |.sl e t,c::l,v::vs,x,g,h,f,d=>by
  simp only[im]at d;split at d
  .rename_i xs N;cases d;exact⟨[v],vs,rfl,h t c v _ (by simp) f.1 N e,f.2,[c],rfl⟩
  .cases d
 |_,[],_::_,_,_,_,f,_=>f.elim|_,_::_,[],_,_,_,f,_=>f.elim|.int _,[],[],_,_,_,_,d=>by simp[im]at d
 |.bool,[],[],_,_,_,_,d=>by simp[im]at d
 |.str,[],[],_,_,_,_,d=>by simp[im]at d
 |.sl _ _,[],[],_,_,_,_,d=>by simp[im]at d
 |.int _,.none::_,_::_,_,_,_,_,d=>by simp[im]at d
end
end Go.Am
