/- No condition. -/
import Derived.Test.YtfapcfpkbahneaaGreatDoorQpAmOps3
set_option linter.all false
namespace Go.Am
open Go.RowKit
section
variable {P:Program} {w0:fR} {w:World} {G:Gh} {st:St} {a:Act} {U:Type} {k:St->Option U} {r:U} {K:Act->World->Prop} {Q:Exit->Act->World->Prop} {o:Oper}
def acZ {V:Type}:∀(us l1 l2 l3:List V),l2.length=us.length->Jv (l1++l2++l3) l1.length us=l1++us++l3
 |[],l1,l2,l3,h=>by have:l2=[]:=Za (by simpa using h);subst this;rfl
 |u::us,l1,[],l3,h=>by simp at h
 |u::us,l1,x::l2,l3,h=>by
  have hs:(l1++x::l2++l3).set l1.length u=(l1++[u])++l2++l3:=by simp
  rw[Jv,hs];have:=acZ us (l1++[u]) l2 l3 (by simpa using h);simpa using this
def aiC {V:Type}(us l:List V)(i:Nat)(h:i+us.length<=l.length):Jv l i us=l.take i++us++l.drop (i+us.length):=by
 have h1:l=l.take i++(l.drop i).take us.length++l.drop (i+us.length):=by rw[iT,<-amN,acL,acL]
 have h2:=acZ us (l.take i) ((l.drop i).take us.length) (l.drop (i+us.length)) (by simp;omega);rw[<-h1]at h2;have h3:(l.take i).length=i:=by simp;omega
 rwa [h3]at h2
def ac0 {t:TypeId}{g o:Nat}{v:Value}(hs:P.cellsOf t=v.cells.toList.length)(hp:(P.info? t).isSome=true){cur:Array Value}{e:TypeId}(hh:w.heap[g]?=some (.cells cur e (0,0)))(hl:o+v.cells.toList.length<=cur.size)
  (h1:∀u∈v.cells.toList,u.oneCell'=true) :
  (storeVar t ⟨g,o,none⟩ v).run P w=.ok () (w.setRow g (cur.toList.take o++v.cells.toList++cur.toList.drop (o+v.cells.toList.length)).toArray):=by
 have:=run_storeCells_at P g o e v.cells.toList 0 cur w hh (by simpa using hl) h1;obtain⟨i,hi⟩:=mA.1 hp;have hs':v.cells.size=i.size:=by rw[Program.cellsOf,hi]at hs;simp at hs;omega
 simp only[Ri]at this;simp[storeVar,sizeOf,typeInfo,hi,hs',this]
def amd {bx:List (Nat×List AC)}{bl:List (Nat×Option gB)}:∀{l:List AC} {vs:List Value},cT (bS G w bx bl) l vs->(∀c∈l,c≠.none)->∀u∈vs,u.oneCell'=true
 |[],[],_,_,u,hu=>by simp at hu
 |c::l,v::vs,h,hn,u,hu=>by
  rcases dE.1 hu with rfl|hu
  .exact bS.one h.1 (hn c (by simp))
  .exact amd h.2 (fun c hc=>hn c (by simp[hc])) u hu
 |[],_::_,h,_,_,_=>h.elim|_::_,[],h,_,_,_=>h.elim
def ac1:∀{l:List AC},aix l=true->∀c∈l,c≠.none
 |[],_,c,hc=>by simp at hc
 |x::l,h,c,hc=>by
  have hx:x≠.none:=by rintro rfl;simp[aix]at h
  have hl:aix l=true:=by cases x<;>first|exact h|exact absurd rfl hx
  rcases dE.1 hc with rfl|hc
  .exact hx
  .exact ac1 hl c hc
def am9 (h:Inv w0 G st a w)(t:TypeId)(x y:Operand)(ho:o.op=.store t x y)(hk:(st.eZ y).kn=true)(hkn:aix (st.eZ y).cells=true)(hs:P.cellsOf t=(st.eZ y).cells.length)(hi:(P.info? t).isSome=true)
  {b off:Nat} (hx:st.ac x=.ptr b off) {l:List AC} (hl:look st.bx b=some l) (hle:off+(st.eZ y).cells.length<=l.length)
  (hr:({st with bx:=(b,Hs l off (st.eZ y).cells)::st.bx}:St).pk o.dst (.UO []) k=some r) (hK:sg w0 k r K):o.wp P a w K Q:=by
 have hxr:=h.ac x;rw[hx]at hxr;obtain⟨_,hp⟩:=hxr;obtain⟨cs,e,hh,bK,hrel⟩:=h.bx b l hl;have hcell:=(h.eZ y).cells hk;have hlen:=hcell.len;have aG0:=hrel.len;have aa5:=amd hcell (ac1 hkn);have aNE:off+(a.eval y).cells.toList.length<=cs.toList.length:=by omega
 have hrun:=ac0 (P:=P) (t:=t) (o:=off) (v:=a.eval y) (by omega) hi hh (by simpa using aNE) aa5;have mD:=cT.Hs off hrel hcell;rw[aiC _ _ _ aNE]at mD;have h':=h.aLV b l hl (cs.toList.take off++(a.eval y).cells.toList++cs.toList.drop (off+(a.eval y).cells.toList.length)).toArray _ (by simpa using mD);refine aGS (w':=_) ?_ (CM h' (v:=.UO []) (u:=undef) ⟨#[],rfl,trivial⟩ hr hK);unfold execOp;rw[ho];dsimp only;rw[hp];simp only[Instr.storeAt,Instr.sureAddr,Sem.run_bind,Sem.run_pure,Result.andThen_ok,hrun]
def Ru {id:Nat}{len:Option Int}(h:st.rZ id=none):st.eF (.own id len)=st:=by show(match st.rZ id with|some b=>_|none=>st)=st;rw[h]
def om {id:Nat}{len:Option Int}{b:gB}(h:st.rZ id=some b):st.eF (.own id len)={st with bl:=(id,some {b with w:=false})::st.bl}:=by show(match st.rZ id with|some b=>{st with bl:=(id,some {b with w:=false})::st.bl}|none=>st)=_;rw[h]
def Inv.eF (h:Inv w0 G st a w)(c:AC):∃G',Inv w0 G' (st.eF c) a w/\X1 G w G' w/\la G st.bx st.bl G' (st.eF c).bx (st.eF c).bl:=by
 have aK8:Inv w0 G st a w/\X1 G w G w/\la G st.bx st.bl G st.bx st.bl:=⟨h,⟨rfl,rfl,bZ _,fun _ _ ho=>⟨ho,rfl⟩,fun _ _ ho=>⟨ho,rfl⟩⟩,la.refl _ _ _⟩;cases c with
 |own id len =>
  cases hb:st.rZ id with
  |none=>rw[Ru hb];exact⟨G,aK8⟩|some b=>rw[om hb];exact⟨_,h.drop id b (fw hb)⟩
 |_=>exact⟨G,aK8⟩
def X1.trans {G1 G2 G3:Gh}{w1 w2 w3:World}(h:X1 G1 w1 G2 w2)(h':X1 G2 w2 G3 w3):X1 G1 w1 G3 w3 :=
 ⟨h'.nw.trans h.nw,h'.ok.trans h.ok,cR h.size h'.size,fun b hb ho=>by
  obtain⟨h1,h2⟩:=h.ro b hb ho;obtain⟨h3,h4⟩:=h'.ro b (Ev hb h.size) h1;exact⟨h3,h4.trans h2⟩,fun b hb ho=>by
  obtain⟨h1,h2⟩:=h.hid b hb ho;obtain⟨h3,h4⟩:=h'.hid b (Ev hb h.size) h1;exact⟨h3,h4.trans h2⟩⟩
def la.trans {G1 G2 G3:Gh}{bx1 bx2 bx3:List (Nat×List AC)}{bl1 bl2 bl3:List (Nat×Option gB)}(h:la G1 bx1 bl1 G2 bx2 bl2)(h':la G2 bx2 bl2 G3 bx3 bl3):la G1 bx1 bl1 G3 bx3 bl3 :=
 ⟨fun d hd=>⟨(h'.bx d (h.bx d hd).1).1,(h'.bx d (h.bx d hd).1).2.trans (h.bx d hd).2⟩,fun id hd=>by obtain⟨h1,h2,h3⟩:=h.bl id hd;obtain⟨h4,h5,h6⟩:=h'.bl id h1;refine⟨h4,h5.trans h2,fun b' CL=>?_⟩;obtain⟨b,hb,ht⟩:=h6 b' CL;obtain⟨b0,hb0,ht0⟩:=h3 b hb;exact⟨b0,hb0,ht0.trans ht⟩⟩
structure iE (st dV:St):Prop where
 nt:dV.nt=st.nt
 tm:dV.tm=st.tm
 bx:dV.bx=st.bx
 bl:∀id,look dV.bl id=look st.bl id\/∃b,look st.bl id=some (some b)/\look dV.bl id=some (some {b with w:=false})
def iE.refl (st:St):iE st st:=⟨rfl,rfl,rfl,fun _=>.inl rfl⟩
def iE.trans {s1 s2 s3:St}(h:iE s1 s2)(h':iE s2 s3):iE s1 s3:=by
 refine⟨h'.nt.trans h.nt,h'.tm.trans h.tm,h'.bx.trans h.bx,fun id=>?_⟩;rcases h.bl id with h1|⟨b,h1,h2⟩<;>rcases h'.bl id with h3|⟨b',h3,h4⟩
 .exact .inl (h3.trans h1)
 .exact .inr ⟨b',h1▸h3,h4⟩
 .exact .inr ⟨b,h1,h3.trans h2⟩
 .rw[h2]at h3;cases h3;exact .inr ⟨b,h1,h4⟩
def sh (st:St)(c:AC):iE st (st.eF c):=by
 cases c with
 |own id len =>
  cases hb:st.rZ id with
  |none=>rw[Ru hb];exact .refl st
  |some b =>
   rw[om hb];refine⟨rfl,rfl,rfl,fun i=>?_⟩;show look ((id,some {b with w:=false})::st.bl) i=_\/_;by_cases hi:id=i
   .subst hi;exact .inr ⟨b,fw hb,by simp[aw]⟩
   .exact .inl (by simp[aw,hi])
 |_=>exact .refl st
def Inv.freeze:∀(l:List AC) {G:Gh} {st:St} (h:Inv w0 G st a w),∃G',Inv w0 G' (st.freeze l) a w/\X1 G w G' w/\la G st.bx st.bl G' (st.freeze l).bx (st.freeze l).bl/\iE st (st.freeze l)
 |[],G,st,h=>⟨G,h,⟨rfl,rfl,bZ _,fun _ _ ho=>⟨ho,rfl⟩,fun _ _ ho=>⟨ho,rfl⟩⟩,la.refl _ _ _,.refl st⟩
 |c::l,G,st,h=>by obtain⟨G1,h1,h2,h3⟩:=h.eF c;obtain⟨G2,h4,h5,h6,h7⟩:=Inv.freeze l h1;exact⟨G2,h4,h2.trans h5,h3.trans h6,(sh st c).trans h7⟩
def Jy:∀(l:List AC) (st:St) (id:Nat) (len:Option Int) (b:gB),AC.own id len∈l->look st.bl id=some (some b)->look (st.freeze l).bl id=some (some {b with w:=false})
 |c::l,st,id,len,b,hm,hb=>by
  show look ((st.eF c).freeze l).bl id=_;have aPE:∀(l:List AC) (st:St) (b:gB),look st.bl id=some (some {b with w:=false})->look (st.freeze l).bl id=some (some {b with w:=false}):=by
   intro l
   induction l with
   |nil=>exact fun _ _ h=>h
   |cons c l ih =>
    intro st b h;show look ((st.eF c).freeze l).bl id=_;rcases(sh st c).bl id with h1|⟨b',h1,h2⟩
    .exact ih _ b (h1.trans h)
    .rw[h]at h1;cases h1;exact ih _ b h2
  rcases dE.1 hm with rfl|hm
  .refine aPE l _ b ?_;have:st.rZ id=some b:=by simp[St.rZ,hb]
   rw[om this];simp[aw]
  .rcases(sh st c).bl id with h1|⟨b',h1,h2⟩
   .exact Jy l _ id len b hm (h1.trans hb)
   .rw[hb]at h1;cases h1;have:=Jy l _ id len _ hm h2;exact this
def aG1 {st dV:St}(h:iE st dV)(id:Nat):dV.rZ id=st.rZ id\/∃b,st.rZ id=some b/\dV.rZ id=some {b with w:=false}:=by
 unfold St.rZ;rcases h.bl id with h1|⟨b,h1,h2⟩
 .rw[h1];exact .inl rfl
 .rw[h1,h2];exact .inr ⟨b,rfl,rfl⟩
def ax2 {st dV:St}(h:iE st dV)(t:Ty)(c:AC):dm dV t c=dm st t c:=by
 cases c with
 |own id len =>
  simp only[dm];rcases aG1 h id with h1|⟨b,h1,h2⟩
  .rw[h1]
  .rw[h1,h2]
 |_=>rfl
def vd {st dV:St}(h:iE st dV):∀(t:Ty) (l:List AC),im dV t l=im st t l
 |.int k,l=>by
  cases l with
  |nil=>rfl|cons c l=>cases c<;>rfl
 |.bool,l=>by
  cases l with
  |nil=>rfl|cons c l=>cases c<;>rfl
 |.str,l=>by
  cases l with
  |nil=>rfl|cons c l=>cases c<;>rfl
 |.unit,l=>rfl|.pair t u,l=>by
  simp only[im];rw[vd h t l];cases im st t l with
  |none=>rfl
  |some x =>
   obtain⟨x,r⟩:=x;dsimp only;rw[vd h u r]
 |.sl e t,[]=>rfl|.sl e t,c::r=>by simp only[im];rw[ax2 h]
def jE {ok ok':Nat->Prop}(h:∀b,ok b->ok' b){t:Ty}{x:t.D}{cs:List Value}(hr:Rd w ok t x cs):Rd w ok' t x cs:=hr.mono (bZ _) fun b _ hb=>⟨h b hb,rfl⟩
def ana {ok:Nat->Prop}{e:TypeId}{t u:Ty}(h:t=u){xs:List t.D}{v:Value}(hr:Rd w ok (.sl e t) xs [v]):∀e',Rd w ok (.sl e' u) (Ze h xs) [v]:=by subst h;exact fun _=>hr
def aJM {ok:Nat->Prop}{e:TypeId}{t:Ty}{xs:List t.D}{A:Option Addr}{n cap:Nat}(h:Rd w ok (.sl e t) xs [.slice A n cap]){m:Nat}(hm:m<=n):Rd w ok (.sl e t) (xs.take m) [.slice A m cap]:=by
 obtain⟨A',aBc,he,hc,h63,hr⟩:=h;have he:=(uE he).1;injection he with e1 e2 e3
 subst e1 e2 e3;have hl:(xs.take m).length=m:=by simp;omega
 refine⟨A,cap,by rw[hl],by omega,by omega,fun h0=>?_⟩;obtain⟨b,o,hA,h1,h2,h3⟩:=hr (by omega);refine⟨b,o,hA,h1,h2,fun j x hj=>h3 j x ?_⟩;rw[OQ]at hj;split at hj
 .exact hj
 .cases hj
def aL0 {id:Nat}{b:gB}(hb:EA G w id b){ok:Nat->Prop}(hro:∀g,RO G b.f g->ok g)(hw:b.w=true->∀g,(G.hv id).ownBlock=some g->ok g):Rd w ok (.sl b.e b.t) b.xs [G.hv id]:=by
 cases hbw:b.w with
 |false=>exact jE hro (hb.rd hbw)
 |true =>
  obtain⟨cs,h1,h2,h3⟩:=hb.wr hbw;refine ate h1 (fun j x hj=>?_) (hw hbw) hb.pos;obtain⟨c,hc,hcc⟩:=h3 j x hj;exact⟨c,jE hro hc,hcc⟩
def kL (h:Inv w0 G st a w){t:Ty}{c:AC}{v:Value}{xs:List t.D}(hc:bS G w st.bx st.bl c v)(hd:dm st t c=some xs){ok:Nat->Prop}
  (bK:∀id len b,c=.own id len->look st.bl id=some (some b)->(∀g,RO G b.f g->ok g)/\(b.w=true->∀g,(G.hv id).ownBlock=some g->ok g))
  (hro:∀f e u ys,c=.ro f e u ys->∀g,RO G f g->ok g):∀e,Rd w ok (.sl e t) xs [v]:=by
 intro e;cases c with
 |nil =>
  simp only[dm]at hd;cases hd;rw[show v=_ from hc];exact⟨none,0,rfl,bZ _,by simp,fun h0=>absurd h0 (by simp)⟩
 |ro f e' u ys =>
  simp only[dm]at hd;split at hd
  .rename_i hu;cases hd;exact ana _ (jE (hro f e' u ys rfl) hc) e
  .cases hd
 |own id len =>
  simp only[dm]at hd;cases hb:st.rZ id with
  |none=>rw[hb]at hd;cases hd
  |some b =>
   rw[hb]at hd;dsimp only at hd;split at hd
   .rename_i hu;cases hd;have hl:=fw hb;have hbo:=h.bl id b hl;obtain⟨h1,h2⟩:=bK id len b rfl hl;have kz:=aL0 hbo h1 h2;cases len with
    |none =>
     rw[hc.2.2];exact ana (Ty.beq_eq hu) kz e
    |some l =>
     obtain⟨_,h0,A,n,cap,hv,hln,rfl⟩:=hc;rw[hv]at kz;have:=ana (Ty.beq_eq hu) kz e;exact aJM this (by omega)
   .cases hd
 |_=>simp[dm]at hd
def OV {ok:Nat->Prop}{bx:List (Nat×List AC)}{bl:List (Nat×Option gB)}:∀{t:Ty} {l:List AC} {vs:List Value} {x:t.D} {l':List AC},
  (∀t c v xs,c∈l->bS G w bx bl c v->dm st t c=some xs->∀e,Rd w ok (.sl e t) xs [v]) ->
  cT (bS G w bx bl) l vs->im st t l=some (x,l')->∃vs1 vs2,vs=vs1++vs2/\Rd w ok t x vs1/\cT (bS G w bx bl) l' vs2/\∃l1,l=l1++l'
 |.int k,.int j n::l,v::vs,x,l',hc,hr,hi=>by
  simp only[im]at hi;split at hi
  .rename_i hk;cases hi;cases acO hk;exact⟨[v],vs,rfl,by rw[show v=_ from hr.1];rfl,hr.2,[_],rfl⟩
  .cases hi
 |.bool,.bool b::l,v::vs,x,l',hc,hr,hi=>by simp only[im]at hi;cases hi;exact⟨[v],vs,rfl,by rw[show v=_ from hr.1];rfl,hr.2,[_],rfl⟩
 |.str,.str b::l,v::vs,x,l',hc,hr,hi=>by simp only[im]at hi;cases hi;exact⟨[v],vs,rfl,by rw[show v=_ from hr.1];rfl,hr.2,[_],rfl⟩
 |.unit,l,vs,x,l',hc,hr,hi=>by simp only[im]at hi;cases hi;exact⟨[],vs,rfl,rfl,hr,[],rfl⟩
 |.pair t u,l,vs,x,l',hc,hr,hi=>by
  simp only[im]at hi;split at hi
  .rename_i y r1 h1;split at hi
   .rename_i z r2 h2;cases hi;obtain⟨vs1,vs2,rfl,hr1,hr2,l1,hl1⟩:=OV hc hr h1;obtain⟨vs3,vs4,rfl,hr3,hr4,l2,hl2⟩:=OV (fun t c v xs hm=>hc t c v xs (by rw[hl1];simp[hm])) hr2 h2;exact⟨vs1++vs3,vs4,by simp,⟨vs1,vs3,rfl,hr1,hr3⟩,hr4,l1++l2,by rw[hl1,hl2];simp⟩
   .cases hi
  .cases hi
 |.sl e t,c::l,v::vs,x,l',hc,hr,hi=>by
  simp only[im]at hi;split at hi
  .rename_i xs hd;cases hi;exact⟨[v],vs,rfl,hc t c v _ (by simp) hr.1 hd e,hr.2,[c],rfl⟩
  .cases hi
 |_,[],_::_,_,_,_,hr,_=>hr.elim|_,_::_,[],_,_,_,hr,_=>hr.elim|.int _,[],[],_,_,_,_,hi=>by simp[im]at hi
 |.bool,[],[],_,_,_,_,hi=>by simp[im]at hi
 |.str,[],[],_,_,_,_,hi=>by simp[im]at hi
 |.sl _ _,[],[],_,_,_,_,hi=>by simp[im]at hi
 |.int _,.none::_,_::_,_,_,_,_,hi=>by simp[im]at hi
end
end Go.Am
