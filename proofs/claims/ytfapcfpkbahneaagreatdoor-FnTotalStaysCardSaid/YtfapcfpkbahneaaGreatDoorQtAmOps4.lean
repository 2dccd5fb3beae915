/- Lemmas for the claim. No condition. -/
import Derived.Test.YtfapcfpkbahneaaGreatDoorQtAmOps3
set_option linter.all false
namespace Go.Am
open Go.RowKit
section
variable {P:Program} {w0:fJ} {w:World} {G:Gh} {st:St} {a:Act} {α:Type} {k:St->Option α} {r:α} {K:Act->World->Prop} {Q:Exit->Act->World->Prop} {o:Oper}
theorem acA {β:Type}:∀(us l1 l2 l3:List β),l2.length=us.length->Ja (l1++l2++l3) l1.length us=l1++us++l3
 |[],l1,l2,l3,h=>by have:l2=[]:=YK (by simpa using h);subst this;rfl
 |u::us,l1,[],l3,h=>by simp at h
 |u::us,l1,x::l2,l3,h=>by
  have hs:(l1++x::l2++l3).set l1.length u=(l1++[u])++l2++l3:=by simp
  rw[Ja,hs];have:=acA us (l1++[u]) l2 l3 (by simpa using h);simpa using this
theorem ah3 {β:Type}(us l:List β)(i:Nat)(h:i+us.length<=l.length):Ja l i us=l.take i++us++l.drop (i+us.length):=by
 have h1:l=l.take i++(l.drop i).take us.length++l.drop (i+us.length):=by rw[jZ,<-List.drop_drop,awy,awy]
 have h2:=acA us (l.take i) ((l.drop i).take us.length) (l.drop (i+us.length)) (by simp;omega);rw[<-h1]at h2;have h3:(l.take i).length=i:=by simp;omega
 rwa [h3]at h2
theorem acB {t:TypeId}{g o:Nat}{v:Value}(hs:P.cellsOf t=v.cells.toList.length)(hp:(P.info? t).isSome=true){cur:Array Value}{e:TypeId}(hh:w.heap[g]?=some (.cells cur e (0,0)))(hl:o+v.cells.toList.length<=cur.size)
  (h1:∀u∈v.cells.toList,u.oneCell'=true) :
  (storeVar t ⟨g,o,none⟩ v).run P w=.ok () (w.setRow g (cur.toList.take o++v.cells.toList++cur.toList.drop (o+v.cells.toList.length)).toArray):=by
 have:=run_storeCells_at P g o e v.cells.toList 0 cur w hh (by simpa using hl) h1;obtain⟨i,hi⟩:=mj.1 hp;have hs':v.cells.size=i.size:=by rw[Program.cellsOf,hi]at hs;simp at hs;omega
 simp only[acm]at this;simp[storeVar,sizeOf,typeInfo,hi,hs',this]
theorem alE {bx:List (Nat×List AC)}{bl:List (Nat×Option gp)}:∀{l:List AC} {vs:List Value},cT (bN G w bx bl) l vs->(∀c∈l,c≠.none)->∀u∈vs,u.oneCell'=true
 |[],[],_,_,u,hu=>by simp at hu
 |c::l,v::vs,h,hn,u,hu=>by
  rcases gS.1 hu with rfl|hu
  ·exact bN.one h.1 (hn c (by simp))
  ·exact alE h.2 (fun c hc=>hn c (by simp[hc])) u hu
 |[],_::_,h,_,_,_=>h.elim
 |_::_,[],h,_,_,_=>h.elim
theorem acC:∀{l:List AC},ahY l=true->∀c∈l,c≠.none
 |[],_,c,hc=>by simp at hc
 |x::l,h,c,hc=>by
  have hx:x≠.none:=by rintro rfl;simp[ahY]at h
  have hl:ahY l=true:=by cases x<;>first|exact h|exact absurd rfl hx
  rcases gS.1 hc with rfl|hc
  ·exact hx
  ·exact acC hl c hc
theorem amo (h:Inv w0 G st a w)(t:TypeId)(x y:Operand)(ho:o.op=.store t x y)(hk:(st.eP y).kn=true)(hkn:ahY (st.eP y).cells=true)(hs:P.cellsOf t=(st.eP y).cells.length)(hi:(P.info? t).isSome=true)
  {b off:Nat} (hx:st.ac x=.ptr b off) {l:List AC} (hl:look st.bx b=some l) (hle:off+(st.eP y).cells.length<=l.length)
  (hr:({st with bx:=(b,G8 l off (st.eP y).cells)::st.bx}:St).pk o.dst (.Ul []) k=some r) (hK:rW w0 k r K):o.wp P a w K Q:=by
 have hxr:=h.ac x;rw[hx]at hxr;obtain⟨_,hp⟩:=hxr;obtain⟨cs,e,hh,bH,hrel⟩:=h.bx b l hl;have hcell:=(h.eP y).cells hk;have hlen:=hcell.len;have aFm:=hrel.len;have aaH:=alE hcell (acC hkn);have aLy:off+(a.eval y).cells.toList.length<=cs.toList.length:=by omega
 have hrun:=acB (P:=P) (t:=t) (o:=off) (v:=a.eval y) (by omega) hi hh (by simpa using aLy) aaH;have mq:=cT.G8 off hrel hcell;rw[ah3 _ _ _ aLy]at mq;have h':=h.aJT b l hl (cs.toList.take off++(a.eval y).cells.toList++cs.toList.drop (off+(a.eval y).cells.toList.length)).toArray _ (by simpa using mq);refine aFf (w':=_) ?_ (Cr h' (v:=.Ul []) (u:=undef) ⟨#[],rfl,trivial⟩ hr hK);unfold execOp;rw[ho];dsimp only;rw[hp];simp only[Instr.storeAt,Instr.sureAddr,Sem.run_bind,Sem.run_pure,Result.andThen_ok,hrun]
theorem Q5 {id:Nat}{len:Option Int}(h:st.rS id=none):st.eo (.own id len)=st:=by show(match st.rS id with|some b=>_|none=>st)=st;rw[h]
theorem nY {id:Nat}{len:Option Int}{b:gp}(h:st.rS id=some b):st.eo (.own id len)={st with bl:=(id,some {b with w:=false})::st.bl}:=by show(match st.rS id with|some b=>{st with bl:=(id,some {b with w:=false})::st.bl}|none=>st)=_;rw[h]
theorem Inv.eo (h:Inv w0 G st a w)(c:AC):∃G',Inv w0 G' (st.eo c) a w/\Xr G w G' w/\kR G st.bx st.bl G' (st.eo c).bx (st.eo c).bl:=by
 have aI7:Inv w0 G st a w/\Xr G w G w/\kR G st.bx st.bl G st.bx st.bl:=⟨h,⟨rfl,rfl,cp _,fun _ _ ho=>⟨ho,rfl⟩,fun _ _ ho=>⟨ho,rfl⟩⟩,kR.refl _ _ _⟩;cases c with
 |own id len =>
  cases hb:st.rS id with
  |none=>rw[Q5 hb];exact⟨G,aI7⟩
  |some b=>rw[nY hb];exact⟨_,h.drop id b (fi hb)⟩
 |_=>exact⟨G,aI7⟩
theorem Xr.trans {G1 G2 G3:Gh}{w1 w2 w3:World}(h:Xr G1 w1 G2 w2)(h':Xr G2 w2 G3 w3):Xr G1 w1 G3 w3 :=
 ⟨h'.nw.trans h.nw,h'.ok.trans h.ok,cN h.size h'.size,fun b hb ho=>by
  obtain⟨h1,h2⟩:=h.ro b hb ho;obtain⟨h3,h4⟩:=h'.ro b (DZ hb h.size) h1;exact⟨h3,h4.trans h2⟩,fun b hb ho=>by
  obtain⟨h1,h2⟩:=h.hid b hb ho;obtain⟨h3,h4⟩:=h'.hid b (DZ hb h.size) h1;exact⟨h3,h4.trans h2⟩⟩
theorem kR.trans {G1 G2 G3:Gh}{bx1 bx2 bx3:List (Nat×List AC)}{bl1 bl2 bl3:List (Nat×Option gp)}(h:kR G1 bx1 bl1 G2 bx2 bl2)(h':kR G2 bx2 bl2 G3 bx3 bl3):kR G1 bx1 bl1 G3 bx3 bl3 :=
 ⟨fun d hd=>⟨(h'.bx d (h.bx d hd).1).1,(h'.bx d (h.bx d hd).1).2.trans (h.bx d hd).2⟩,fun id hd=>by obtain⟨h1,h2,h3⟩:=h.bl id hd;obtain⟨h4,h5,h6⟩:=h'.bl id h1;refine⟨h4,h5.trans h2,fun b' Cq=>?_⟩;obtain⟨b,hb,ht⟩:=h6 b' Cq;obtain⟨b0,hb0,ht0⟩:=h3 b hb;exact⟨b0,hb0,ht0.trans ht⟩⟩
structure iq (st dK:St):Prop where
 nt:dK.nt=st.nt
 tm:dK.tm=st.tm
 bx:dK.bx=st.bx
 bl:∀id,look dK.bl id=look st.bl id\/∃b,look st.bl id=some (some b)/\look dK.bl id=some (some {b with w:=false})
theorem iq.refl (st:St):iq st st:=⟨rfl,rfl,rfl,fun _=>.inl rfl⟩
theorem iq.trans {s1 s2 s3:St}(h:iq s1 s2)(h':iq s2 s3):iq s1 s3:=by
 refine⟨h'.nt.trans h.nt,h'.tm.trans h.tm,h'.bx.trans h.bx,fun id=>?_⟩;rcases h.bl id with h1|⟨b,h1,h2⟩<;>rcases h'.bl id with h3|⟨b',h3,h4⟩
 ·exact .inl (h3.trans h1)
 ·exact .inr ⟨b',h1▸h3,h4⟩
 ·exact .inr ⟨b,h1,h3.trans h2⟩
 ·rw[h2]at h3;cases h3;exact .inr ⟨b,h1,h4⟩
theorem rX (st:St)(c:AC):iq st (st.eo c):=by
 cases c with
 |own id len =>
  cases hb:st.rS id with
  |none=>rw[Q5 hb];exact .refl st
  |some b =>
   rw[nY hb];refine⟨rfl,rfl,rfl,fun i=>?_⟩;show look ((id,some {b with w:=false})::st.bl) i=_\/_;by_cases hi:id=i
   ·subst hi;exact .inr ⟨b,fi hb,by simp[aw]⟩
   ·exact .inl (by simp[aw,hi])
 |_=>exact .refl st
theorem Inv.freeze:∀(l:List AC) {G:Gh} {st:St} (h:Inv w0 G st a w),∃G',Inv w0 G' (st.freeze l) a w/\Xr G w G' w/\kR G st.bx st.bl G' (st.freeze l).bx (st.freeze l).bl/\iq st (st.freeze l)
 |[],G,st,h=>⟨G,h,⟨rfl,rfl,cp _,fun _ _ ho=>⟨ho,rfl⟩,fun _ _ ho=>⟨ho,rfl⟩⟩,kR.refl _ _ _,.refl st⟩
 |c::l,G,st,h=>by obtain⟨G1,h1,h2,h3⟩:=h.eo c;obtain⟨G2,h4,h5,h6,h7⟩:=Inv.freeze l h1;exact⟨G2,h4,h2.trans h5,h3.trans h6,(rX st c).trans h7⟩
theorem Jd:∀(l:List AC) (st:St) (id:Nat) (len:Option Int) (b:gp),AC.own id len∈l->look st.bl id=some (some b)->look (st.freeze l).bl id=some (some {b with w:=false})
 |c::l,st,id,len,b,hm,hb=>by
  show look ((st.eo c).freeze l).bl id=_;have aNw:∀(l:List AC) (st:St) (b:gp),look st.bl id=some (some {b with w:=false})->look (st.freeze l).bl id=some (some {b with w:=false}):=by
   intro l
   induction l with
   |nil=>exact fun _ _ h=>h
   |cons c l ih =>
    intro st b h;show look ((st.eo c).freeze l).bl id=_;rcases(rX st c).bl id with h1|⟨b',h1,h2⟩
    ·exact ih _ b (h1.trans h)
    ·rw[h]at h1;cases h1;exact ih _ b h2
  rcases gS.1 hm with rfl|hm
  ·refine aNw l _ b ?_;have:st.rS id=some b:=by simp[St.rS,hb]
   rw[nY this];simp[aw]
  ·rcases(rX st c).bl id with h1|⟨b',h1,h2⟩
   ·exact Jd l _ id len b hm (h1.trans hb)
   ·rw[hb]at h1;cases h1;have:=Jd l _ id len _ hm h2;exact this
theorem aFn {st dK:St}(h:iq st dK)(id:Nat):dK.rS id=st.rS id\/∃b,st.rS id=some b/\dK.rS id=some {b with w:=false}:=by
 unfold St.rS;rcases h.bl id with h1|⟨b,h1,h2⟩
 ·rw[h1];exact .inl rfl
 ·rw[h1,h2];exact .inr ⟨b,rfl,rfl⟩
theorem awL {st dK:St}(h:iq st dK)(t:Ty)(c:AC):de dK t c=de st t c:=by
 cases c with
 |own id len =>
  simp only[de];rcases aFn h id with h1|⟨b,h1,h2⟩
  ·rw[h1]
  ·rw[h1,h2]
 |_=>rfl
theorem uS {st dK:St}(h:iq st dK):∀(t:Ty) (l:List AC),im dK t l=im st t l
 |.int k,l=>by
  cases l with
  |nil=>rfl
  |cons c l=>cases c<;>rfl
 |.bool,l=>by
  cases l with
  |nil=>rfl
  |cons c l=>cases c<;>rfl
 |.str,l=>by
  cases l with
  |nil=>rfl
  |cons c l=>cases c<;>rfl
 |.unit,l=>rfl
 |.pair t u,l=>by
  simp only[im];rw[uS h t l];cases im st t l with
  |none=>rfl
  |some x =>
   obtain⟨x,r⟩:=x;dsimp only;rw[uS h u r]
 |.sl e t,[]=>rfl
 |.sl e t,c::r=>by simp only[im];rw[awL h]
theorem jr {ok ok':Nat->Prop}(h:∀b,ok b->ok' b){t:Ty}{x:t.D}{cs:List Value}(hr:Rd w ok t x cs):Rd w ok' t x cs:=hr.mono (cp _) fun b _ hb=>⟨h b hb,rfl⟩
theorem amp {ok:Nat->Prop}{e:TypeId}{t u:Ty}(h:t=u){xs:List t.D}{v:Value}(hr:Rd w ok (.sl e t) xs [v]):∀e',Rd w ok (.sl e' u) (YP h xs) [v]:=by subst h;exact fun _=>hr
theorem aHU {ok:Nat->Prop}{e:TypeId}{t:Ty}{xs:List t.D}{A:Option Addr}{n cap:Nat}(h:Rd w ok (.sl e t) xs [.slice A n cap]){m:Nat}(hm:m<=n):Rd w ok (.sl e t) (xs.take m) [.slice A m cap]:=by
 obtain⟨A',azJ,he,hc,h63,hr⟩:=h;have he:=(xX he).1;injection he with e1 e2 e3
 subst e1 e2 e3;have hl:(xs.take m).length=m:=by simp;omega
 refine⟨A,cap,by rw[hl],by omega,by omega,fun h0=>?_⟩;obtain⟨b,o,hA,h1,h2,h3⟩:=hr (by omega);refine⟨b,o,hA,h1,h2,fun j x hj=>h3 j x ?_⟩;rw[OC]at hj;split at hj
 ·exact hj
 ·cases hj
theorem aJX {id:Nat}{b:gp}(hb:Ec G w id b){ok:Nat->Prop}(hro:∀g,RO G b.f g->ok g)(hw:b.w=true->∀g,(G.hv id).ownBlock=some g->ok g):Rd w ok (.sl b.e b.t) b.xs [G.hv id]:=by
 cases hbw:b.w with
 |false=>exact jr hro (hb.rd hbw)
 |true =>
  obtain⟨cs,h1,h2,h3⟩:=hb.wr hbw;refine asa h1 (fun j x hj=>?_) (hw hbw) hb.pos;obtain⟨c,hc,hcc⟩:=h3 j x hj;exact⟨c,jr hro hc,hcc⟩
theorem kD (h:Inv w0 G st a w){t:Ty}{c:AC}{v:Value}{xs:List t.D}(hc:bN G w st.bx st.bl c v)(hd:de st t c=some xs){ok:Nat->Prop}
  (bH:∀id len b,c=.own id len->look st.bl id=some (some b)->(∀g,RO G b.f g->ok g)/\(b.w=true->∀g,(G.hv id).ownBlock=some g->ok g))
  (hro:∀f e u ys,c=.ro f e u ys->∀g,RO G f g->ok g):∀e,Rd w ok (.sl e t) xs [v]:=by
 intro e;cases c with
 |nil =>
  simp only[de]at hd;cases hd;rw[show v=_ from hc];exact⟨none,0,rfl,cp _,by simp,fun h0=>absurd h0 (by simp)⟩
 |ro f e' u ys =>
  simp only[de]at hd;split at hd
  ·rename_i hu;cases hd;exact amp _ (jr (hro f e' u ys rfl) hc) e
  ·cases hd
 |own id len =>
  simp only[de]at hd;cases hb:st.rS id with
  |none=>rw[hb]at hd;cases hd
  |some b =>
   rw[hb]at hd;dsimp only at hd;split at hd
   ·rename_i hu;cases hd;have hl:=fi hb;have hbo:=h.bl id b hl;obtain⟨h1,h2⟩:=bH id len b rfl hl;have kt:=aJX hbo h1 h2;cases len with
    |none =>
     rw[hc.2.2];exact amp (Ty.beq_eq hu) kt e
    |some l =>
     obtain⟨_,h0,A,n,cap,hv,hln,rfl⟩:=hc;rw[hv]at kt;have:=amp (Ty.beq_eq hu) kt e;exact aHU this (by omega)
   ·cases hd
 |_=>simp[de]at hd
theorem OI {ok:Nat->Prop}{bx:List (Nat×List AC)}{bl:List (Nat×Option gp)}:∀{t:Ty} {l:List AC} {vs:List Value} {x:t.D} {l':List AC},
  (∀t c v xs,c∈l->bN G w bx bl c v->de st t c=some xs->∀e,Rd w ok (.sl e t) xs [v]) ->
  cT (bN G w bx bl) l vs->im st t l=some (x,l')->∃vs1 vs2,vs=vs1++vs2/\Rd w ok t x vs1/\cT (bN G w bx bl) l' vs2/\∃l1,l=l1++l'
 |.int k,.int j n::l,v::vs,x,l',hc,hr,hi=>by
  simp only[im]at hi;split at hi
  ·rename_i hk;cases hi;cases aco hk;exact⟨[v],vs,rfl,by rw[show v=_ from hr.1];rfl,hr.2,[_],rfl⟩
  ·cases hi
 |.bool,.bool b::l,v::vs,x,l',hc,hr,hi=>by simp only[im]at hi;cases hi;exact⟨[v],vs,rfl,by rw[show v=_ from hr.1];rfl,hr.2,[_],rfl⟩
 |.str,.str b::l,v::vs,x,l',hc,hr,hi=>by simp only[im]at hi;cases hi;exact⟨[v],vs,rfl,by rw[show v=_ from hr.1];rfl,hr.2,[_],rfl⟩
 |.unit,l,vs,x,l',hc,hr,hi=>by simp only[im]at hi;cases hi;exact⟨[],vs,rfl,rfl,hr,[],rfl⟩
 |.pair t u,l,vs,x,l',hc,hr,hi=>by
  simp only[im]at hi;split at hi
  ·rename_i y r1 h1;split at hi
   ·rename_i z r2 h2;cases hi;obtain⟨vs1,vs2,rfl,hr1,hr2,l1,hl1⟩:=OI hc hr h1;obtain⟨vs3,vs4,rfl,hr3,hr4,l2,hl2⟩:=OI (fun t c v xs hm=>hc t c v xs (by rw[hl1];simp[hm])) hr2 h2;exact⟨vs1++vs3,vs4,by simp,⟨vs1,vs3,rfl,hr1,hr3⟩,hr4,l1++l2,by rw[hl1,hl2];simp⟩
   ·cases hi
  ·cases hi
 |.sl e t,c::l,v::vs,x,l',hc,hr,hi=>by
  simp only[im]at hi;split at hi
  ·rename_i xs hd;cases hi;exact⟨[v],vs,rfl,hc t c v _ (by simp) hr.1 hd e,hr.2,[c],rfl⟩
  ·cases hi
 |_,[],_::_,_,_,_,hr,_=>hr.elim
 |_,_::_,[],_,_,_,hr,_=>hr.elim
 |.int _,[],[],_,_,_,_,hi=>by simp[im]at hi
 |.bool,[],[],_,_,_,_,hi=>by simp[im]at hi
 |.str,[],[],_,_,_,_,hi=>by simp[im]at hi
 |.sl _ _,[],[],_,_,_,_,hi=>by simp[im]at hi
 |.int _,.none::_,_::_,_,_,_,_,hi=>by simp[im]at hi
end
end Go.Am
