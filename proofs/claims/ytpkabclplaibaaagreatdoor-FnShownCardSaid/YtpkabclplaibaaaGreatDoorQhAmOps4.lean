/- No condition. -/
import Derived.Test.YtpkabclplaibaaaGreatDoorQhAmOps3
set_option linter.all false
namespace Go.Am
open Go.RowKit
variable [ds]
section
variable {P:Program} {w0:di} {w:World} {G:Gh} {st:St} {a:Act} {U:Type} {k:St->Option U} {r:U} {K:Act->World->Prop} {Q:Exit->Act->World->Prop} {o:Oper}
def Px {V:Type}:∀(us b c d:List V),c.length=us.length->BC (b++c++d) b.length us=b++us++d
 |[],b,c,d,h=>by have:c=[]:=Pn (by simpa using h);subst this;rfl
 |u::us,b,[],d,h=>by simp at h
 |u::us,b,x::c,d,h=>by
  have e:(b++x::c++d).set b.length u=(b++[u])++c++d:=by simp
  rw[BC,e];have:=Px us (b++[u]) c d (by simpa using h);simpa using this
def Tn {V:Type}(us l:List V)(i:Nat)(h:i+us.length<=l.length):BC l i us=l.take i++us++l.drop (i+us.length):=by
 have c:l=l.take i++(l.drop i).take us.length++l.drop (i+us.length):=by rw[ha,<-List.drop_drop,abQ,abQ]
 have b:=Px us (l.take i) ((l.drop i).take us.length) (l.drop (i+us.length)) (by simp;omega);rw[<-c]at b;have d:(l.take i).length=i:=by simp;omega
 rwa [d]at b
def Py {t:TypeId}{g o:Nat}{v:Value}(c:P.cellsOf t=v.cells.toList.length)(f:(P.info? t).isSome=true){b:Array Value}{e:TypeId}(h:w.heap[g]?=some (.cells b e (0,0)))(j:o+v.cells.toList.length<=b.size)
  (l:∀u∈v.cells.toList,u.oneCell'=true) :
  (storeVar t ⟨g,o,none⟩ v).run P w=.ok () (w.setRow g (b.toList.take o++v.cells.toList++b.toList.drop (o+v.cells.toList.length)).toArray):=by
 have:=run_storeCells_at P g o e v.cells.toList 0 b w h (by simpa using j) l;obtain⟨i,d⟩:=ek.1 f;have m:v.cells.size=i.size:=by rw[Program.cellsOf,d]at c;simp at c;omega
 simp only[Mz]at this;simp[storeVar,sizeOf,typeInfo,d,m,this]
def VE {bx:List (Nat×List AC)}{bl:List (Nat×Option dD)}:∀{l:List AC} {vs:List Value},bD (a7 G w bx bl) l vs->(∀c∈l,c≠.none)->∀u∈vs,u.oneCell'=true
 |[],[],_,_,u,b=>by simp at b
 |c::l,v::vs,h,d,u,b=>by
  rcases c7.1 b with rfl|b
  .exact a7.one h.1 (d c (by simp))
  .exact VE h.2 (fun c e=>d c (by simp[e])) u b
 |[],_::_,h,_,_,_=>h.elim|_::_,[],h,_,_,_=>h.elim
def Pz:∀{l:List AC},Tk l=true->∀c∈l,c≠.none
 |[],_,c,b=>by simp at b
 |x::l,h,c,b=>by
  have d:x≠.none:=by rintro rfl;simp[Tk]at h
  have e:Tk l=true:=by cases x<;>first|exact h|exact absurd rfl d
  rcases c7.1 b with rfl|b
  .exact d
  .exact Pz e c b
def Wt (h:Inv w0 G st a w)(t:TypeId)(x y:Operand)(j:o.op=.store t x y)(m:(st.c6 y).kn=true)(n:Tk (st.c6 y).cells=true)(F:P.cellsOf t=(st.c6 y).cells.length)(p:(P.info? t).isSome=true)
  {b c:Nat} (q:st.ac x=.ptr b c) {l:List AC} (f:look st.bx b=some l) (H:c+(st.c6 y).cells.length<=l.length)
  (s:({st with bx:=(b,Ae l c (st.c6 y).cells)::st.bx}:St).pk o.dst (.GF []) k=some r) (z:l4 w0 k r K):o.wp P a w K Q:=by
 have g:=h.ac x;rw[q]at g;obtain⟨_,A⟩:=g;obtain⟨cs,e,B,aS,hrel⟩:=h.bx b l f;have d:=(h.c6 y).cells m;have hlen:=d.len;have I:=hrel.len;have C:=VE d (Pz n);have i:c+(a.eval y).cells.toList.length<=cs.toList.length:=by omega
 have D:=Py (P:=P) (t:=t) (o:=c) (v:=a.eval y) (by omega) p B (by simpa using i) C;have hz:=bD.Ae c hrel d;rw[Tn _ _ _ i]at hz;have E:=h.apG b l f (cs.toList.take c++(a.eval y).cells.toList++cs.toList.drop (c+(a.eval y).cells.toList.length)).toArray _ (by simpa using hz);refine alx (w':=_) ?_ (q4 E (v:=.GF []) (u:=undef) ⟨#[],rfl,trivial⟩ s z);unfold execOp;rw[j];dsimp only;rw[A];simp only[Instr.storeAt,Instr.sureAddr,Sem.run_bind,Sem.run_pure,Result.andThen_ok,D]
def GO {id:Nat}{len:Option Int}(h:st.kA id=none):st.cU (.own id len)=st:=by show(match st.kA id with|some b=>_|none=>st)=st;rw[h]
def jt {id:Nat}{len:Option Int}{b:dD}(h:st.kA id=some b):st.cU (.own id len)={st with bl:=(id,some {b with w:=false})::st.bl}:=by show(match st.kA id with|some b=>{st with bl:=(id,some {b with w:=false})::st.bl}|none=>st)=_;rw[h]
def Inv.cU (h:Inv w0 G st a w)(c:AC):∃d,Inv w0 d (st.cU c) a w/\LB G w d w/\gw G st.bx st.bl d (st.cU c).bx (st.cU c).bl:=by
 have ao2:Inv w0 G st a w/\LB G w G w/\gw G st.bx st.bl G st.bx st.bl:=⟨h,⟨rfl,rfl,bq _,fun _ _ e=>⟨e,rfl⟩,fun _ _ e=>⟨e,rfl⟩⟩,gw.refl _ _ _⟩;cases c with
 |own id len =>
  cases f:st.kA id with
  |none=>rw[GO f];exact⟨G,ao2⟩|some b=>rw[jt f];exact⟨_,h.drop id b (cV f)⟩
 |_=>exact⟨G,ao2⟩
def LB.trans {l G2 m:Gh}{w1 n p:World}(h:LB l w1 G2 n)(c:LB G2 n m p):LB l w1 m p :=
 ⟨c.nw.trans h.nw,c.ok.trans h.ok,aL h.size c.size,fun b d e=>by
  obtain⟨f,g⟩:=h.ro b d e;obtain⟨i,j⟩:=c.ro b (wa d h.size) f;exact⟨i,j.trans g⟩,fun b d e=>by
  obtain⟨f,g⟩:=h.hid b d e;obtain⟨i,j⟩:=c.hid b (wa d h.size) f;exact⟨i,j.trans g⟩⟩
def gw.trans {f G2 g:Gh}{i bx2 j:List (Nat×List AC)}{l bl2 bl3:List (Nat×Option dD)}(h:gw f i l G2 bx2 bl2)(e:gw G2 bx2 bl2 g j bl3):gw f i l g j bl3 :=
 ⟨fun d c=>⟨(e.bx d (h.bx d c).1).1,(e.bx d (h.bx d c).1).2.trans (h.bx d c).2⟩,fun id c=>by obtain⟨m,n,p⟩:=h.bl id c;obtain⟨q,s,t⟩:=e.bl id m;refine⟨q,s.trans n,fun u v=>?_⟩;obtain⟨b,x,y⟩:=t u v;obtain⟨z,A,B⟩:=p b x;exact⟨z,A,B.trans y⟩⟩
structure eC (st bV:St):Prop where
 nt:bV.nt=st.nt
 tm:bV.tm=st.tm
 bx:bV.bx=st.bx
 bl:∀id,look bV.bl id=look st.bl id\/∃b,look st.bl id=some (some b)/\look bV.bl id=some (some {b with w:=false})
def eC.refl (st:St):eC st st:=⟨rfl,rfl,rfl,fun _=>.inl rfl⟩
def eC.trans {f g i:St}(h:eC f g)(e:eC g i):eC f i:=by
 refine⟨e.nt.trans h.nt,e.tm.trans h.tm,e.bx.trans h.bx,fun id=>?_⟩;rcases h.bl id with d|⟨b,d,j⟩<;>rcases e.bl id with c|⟨m,c,l⟩
 .exact .inl (c.trans d)
 .exact .inr ⟨m,d▸c,l⟩
 .exact .inr ⟨b,d,c.trans j⟩
 .rw[j]at c;cases c;exact .inr ⟨b,d,l⟩
def l5 (st:St)(c:AC):eC st (st.cU c):=by
 cases c with
 |own id len =>
  cases d:st.kA id with
  |none=>rw[GO d];exact .refl st
  |some b =>
   rw[jt d];refine⟨rfl,rfl,rfl,fun i=>?_⟩;show look ((id,some {b with w:=false})::st.bl) i=_\/_;by_cases e:id=i
   .subst e;exact .inr ⟨b,cV d,by simp[ai]⟩
   .exact .inl (by simp[ai,e])
 |_=>exact .refl st
def Inv.freeze:∀(l:List AC) {G:Gh} {st:St} (h:Inv w0 G st a w),∃b,Inv w0 b (st.freeze l) a w/\LB G w b w/\gw G st.bx st.bl b (st.freeze l).bx (st.freeze l).bl/\eC st (st.freeze l)
 |[],G,st,h=>⟨G,h,⟨rfl,rfl,bq _,fun _ _ d=>⟨d,rfl⟩,fun _ _ d=>⟨d,rfl⟩⟩,gw.refl _ _ _,.refl st⟩
 |c::l,G,st,h=>by obtain⟨q,e,f,g⟩:=h.cU c;obtain⟨i,j,m,n,p⟩:=Inv.freeze l e;exact⟨i,j,f.trans m,g.trans n,(l5 st c).trans p⟩
def BG:∀(l:List AC) (st:St) (id:Nat) (len:Option Int) (b:dD),AC.own id len∈l->look st.bl id=some (some b)->look (st.freeze l).bl id=some (some {b with w:=false})
 |c::l,st,id,len,b,hm,e=>by
  show look ((st.cU c).freeze l).bl id=_;have arB:∀(l:List AC) (st:St) (b:dD),look st.bl id=some (some {b with w:=false})->look (st.freeze l).bl id=some (some {b with w:=false}):=by
   intro l
   induction l with
   |nil=>exact fun _ _ h=>h
   |cons c l g =>
    intro st b h;show look ((st.cU c).freeze l).bl id=_;rcases(l5 st c).bl id with d|⟨i,d,f⟩
    .exact g _ b (d.trans h)
    .rw[h]at d;cases d;exact g _ b f
  rcases c7.1 hm with rfl|hm
  .refine arB l _ b ?_;have:st.kA id=some b:=by simp[St.kA,e]
   rw[jt this];simp[ai]
  .rcases(l5 st c).bl id with d|⟨i,d,f⟩
   .exact BG l _ id len b hm (d.trans e)
   .rw[e]at d;cases d;have:=BG l _ id len _ hm f;exact this
def alA {st bV:St}(h:eC st bV)(id:Nat):bV.kA id=st.kA id\/∃b,st.kA id=some b/\bV.kA id=some {b with w:=false}:=by
 unfold St.kA;rcases h.bl id with c|⟨b,c,d⟩
 .rw[c];exact .inl rfl
 .rw[c,d];exact .inr ⟨b,rfl,rfl⟩
def aen {st bV:St}(h:eC st bV)(e:TypeId)(t:Ty)(c:AC):bU bV e t c=bU st e t c:=by
 cases c with
 |own id len =>
  simp only[bU];rcases alA h id with d|⟨b,d,f⟩
  .rw[d]
  .rw[d,f]
 |_=>rfl
def nY {st bV:St}(h:eC st bV):∀(t:Ty) (l:List AC),im bV t l=im st t l
 |.int k,l=>by
  cases l with
  |nil=>rfl|cons c l=>cases c<;>rfl
 |.bool,l=>by
  cases l with
  |nil=>rfl|cons c l=>cases c<;>rfl
 |.str,l=>by
  cases l with
  |nil=>rfl|cons c l=>cases c<;>rfl
 |.unit,l=>rfl|.pair t u,l=>by
  simp only[im];rw[nY h t l];cases im st t l with
  |none=>rfl
  |some x =>
   obtain⟨x,r⟩:=x;dsimp only;rw[nY h u r]
 |.sl e t,[]=>rfl|.sl e t,c::r=>by simp only[im];rw[aen h]
def eL {ok c:Nat->Prop}(h:∀b,ok b->c b){t:Ty}{x:t.D}{cs:List Value}(d:Rd w ok t x cs):Rd w c t x cs:=d.mono (bq _) fun b _ e=>⟨h b e,rfl⟩
def Wu {ok:Nat->Prop}{e:TypeId}{t u:Ty}(h:t=u){xs:List t.D}{v:Value}(b:Rd w ok (.sl e t) xs [v]):Rd w ok (.sl e u) (Jc h xs) [v]:=by subst h;exact b
def anW {ok:Nat->Prop}{e:TypeId}{t:Ty}{xs:List t.D}{A:Option Addr}{n g:Nat}(h:Rd w ok (.sl e t) xs [.slice A n g]){m:Nat}(C:m<=n):Rd w ok (.sl e t) (xs.take m) [.slice A m g]:=by
 obtain⟨D,E,d,F,H,j⟩:=h;have d:=(we d).1;injection d with l p q
 subst l p q;have i:(xs.take m).length=m:=by simp;omega
 refine⟨A,g,by rw[i],by omega,by omega,fun f=>?_⟩;obtain⟨b,o,s,u,v,y,z⟩:=j (f.imp_left fun f=>by rw[i]at f;omega);refine⟨b,o,s,u,v,y,fun B x c=>z B x ?_⟩;rw[C1]at c;split at c
 .exact c
 .cases c
def apH {id:Nat}{b:dD}(d:wh G w id b){ok:Nat->Prop}(f:∀g,RO G b.f g->ok g)(h:b.w=true->∀g,(G.hv id).ownBlock=some g->ok g)(i:∀g k,G.own g=some k->ds.n<=g):Rd w ok (.sl b.e b.t) b.xs [G.hv id]:=by
 cases e:b.w with
 |false=>exact eL f (d.rd e)
 |true =>
  obtain⟨cs,j,l,m⟩:=d.wr e;refine aaO j (fun n x p=>?_) (h e) (fun g q=>i g _ (l g q)) d.pos;obtain⟨c,s,t⟩:=m n x p;exact⟨c,eL f s,t⟩
def gi (h:Inv w0 G st a w){e:TypeId}{t:Ty}{c:AC}{v:Value}{xs:List t.D}(i:a7 G w st.bx st.bl c v)(d:bU st e t c=some xs){ok:Nat->Prop}
  (aS:∀id len b,c=.own id len->look st.bl id=some (some b)->(∀g,RO G b.f g->ok g)/\(b.w=true->∀g,(G.hv id).ownBlock=some g->ok g))
  (z:∀f e u j,c=.ro f e u j->∀g,RO G f g->ok g):Rd w ok (.sl e t) xs [v]:=by
 cases c with
 |nil =>
  simp only[bU]at d;cases d;rw[show v=_ from i];exact⟨none,0,rfl,bq _,by simp,fun x=>Lv.nil x⟩
 |ro f H u j =>
  simp only[bU]at d;split at d
  .rename_i m;cases aA m;split at d
   .rename_i p;cases d;exact Wu _ (eL (z f _ u j rfl) i)
   .cases d
  .cases d
 |own id len =>
  simp only[bU]at d;cases q:st.kA id with
  |none=>rw[q]at d;cases d
  |some b =>
   rw[q]at d;dsimp only at d;split at d
   .rename_i m;cases aA m;split at d
    .rename_i p;cases d;have y:=cV q;have B:=h.bl id b y;obtain⟨C,D⟩:=aS id len b rfl y;have s:=apH B C D fun g k E=>h.anR E
     cases len with
     |none =>
      rw[i.2.2];exact Wu (Ty.beq_eq p) s
     |some l =>
      obtain⟨_,x,A,n,cap,F,I,rfl⟩:=i;rw[F]at s;have:=Wu (Ty.beq_eq p) s;exact anW this (by omega)
    .cases d
   .cases d
 |_=>simp[bU]at d
def Fe {ok:Nat->Prop}{bx:List (Nat×List AC)}{bl:List (Nat×Option dD)}:∀{t:Ty} {l:List AC} {vs:List Value} {x:t.D} {g:List AC},
  (∀e t c v xs,c∈l->a7 G w bx bl c v->bU st e t c=some xs->Rd w ok (.sl e t) xs [v]) ->
  bD (a7 G w bx bl) l vs->im st t l=some (x,g)->∃i j,vs=i++j/\Rd w ok t x i/\bD (a7 G w bx bl) g j/\∃m,l=m++g
 |.int k,.int O n::l,v::vs,x,g,h,f,d=>by
  simp only[im]at d;split at d
  .rename_i s;cases d;cases Po s;exact⟨[v],vs,rfl,by rw[show v=_ from f.1];rfl,f.2,[_],rfl⟩
  .cases d
 |.bool,.bool b::l,v::vs,x,g,h,f,d=>by simp only[im]at d;cases d;exact⟨[v],vs,rfl,by rw[show v=_ from f.1];rfl,f.2,[_],rfl⟩
 |.str,.str b::l,v::vs,x,g,h,f,d=>by simp only[im]at d;cases d;exact⟨[v],vs,rfl,by rw[show v=_ from f.1];rfl,f.2,[_],rfl⟩
 |.unit,l,vs,x,g,h,f,d=>by simp only[im]at d;cases d;exact⟨[],vs,rfl,rfl,f,[],rfl⟩
 |.pair t u,l,vs,x,g,h,f,d=>by
  simp only[im]at d;split at d
  .rename_i y R A;split at d
   .rename_i z S B;cases d;obtain⟨i,j,rfl,C,D,m,p⟩:=Fe h f A;obtain⟨q,E,rfl,F,H,I,L⟩:=Fe (fun e t c v xs M=>h e t c v xs (by rw[p];simp[M])) D B;exact⟨i++q,E,by simp,⟨i,q,rfl,C,F⟩,H,m++I,by rw[p,L];simp⟩
   .cases d
  .cases d
 |.sl e t,c::l,v::vs,x,g,h,f,d=>by
  simp only[im]at d;split at d
  .rename_i xs N;cases d;exact⟨[v],vs,rfl,h e t c v _ (by simp) f.1 N,f.2,[c],rfl⟩
  .cases d
 |_,[],_::_,_,_,_,f,_=>f.elim|_,_::_,[],_,_,_,f,_=>f.elim|.int _,[],[],_,_,_,_,d=>by simp[im]at d
 |.bool,[],[],_,_,_,_,d=>by simp[im]at d
 |.str,[],[],_,_,_,_,d=>by simp[im]at d
 |.sl _ _,[],[],_,_,_,_,d=>by simp[im]at d
 |.int _,.none::_,_::_,_,_,_,_,d=>by simp[im]at d
end
end Go.Am
