/- Lemmas for the claim. No condition. -/
import Derived.Test.YtfapcfpkbahneaaGreatDoorQlAmOps3
set_option linter.all false
namespace Go.Am
open Go.RowKit
section
variable {P:Program} {w0:fK} {w:World} {G:Gh} {st:St} {a:Act} {α:Type} {k:St→Option α} {r:α} {K:Act→World→Prop} {Q:Exit→Act→World→Prop} {o:Oper}
theorem abY {β:Type}:∀(us l1 l2 l3:List β),l2.length=us.length→IT (l1++l2++l3) l1.length us=l1++us++l3
 |[],l1,l2,l3,h=>by
  have:l2=[]:=X6 (by simpa using h)
  subst this
  rfl
 |u::us,l1,[],l3,h=>by simp at h
 |u::us,l1,x::l2,l3,h=>by
  have hs:(l1++x::l2++l3).set l1.length u=(l1++[u])++l2++l3:=by simp
  rw[IT,hs]
  have:=abY us (l1++[u]) l2 l3 (by simpa using h)
  simpa using this
theorem ahs {β:Type}(us l:List β)(i:Nat)(h:i+us.length≤l.length):IT l i us=l.take i++us++l.drop (i+us.length):=by
 have h1:l=l.take i++(l.drop i).take us.length++l.drop (i+us.length):=by
  rw[iK,←List.drop_drop,as2,as2]
 have h2:=abY us (l.take i) ((l.drop i).take us.length) (l.drop (i+us.length)) (by simp;omega)
 rw[←h1]at h2
 have h3:(l.take i).length=i:=by simp;omega
 rwa [h3]at h2
theorem abZ {t:TypeId}{g o:Nat}{v:Value}(hs:P.cellsOf t=v.cells.toList.length)(hp:(P.info? t).isSome=true){cur:Array Value}{e:TypeId}(hh:w.heap[g]?=some (.cells cur e (0,0)))(hl:o+v.cells.toList.length≤cur.size)
  (h1:∀u∈v.cells.toList,u.oneCell'=true) :
  (storeVar t ⟨g,o,none⟩ v).run P w=.ok () (w.setRow g (cur.toList.take o++v.cells.toList++cur.toList.drop (o+v.cells.toList.length)).toArray):=by
 have:=run_storeCells_at P g o e v.cells.toList 0 cur w hh (by simpa using hl) h1
 obtain⟨i,hi⟩:=mg.1 hp
 have hs':v.cells.size=i.size:=by
  rw[Program.cellsOf,hi]at hs
  simp at hs
  omega
 simp only[abL]at this
 simp[storeVar,sizeOf,typeInfo,hi,hs',this]
theorem ak3 {bx:List (Nat×List AC)}{bl:List (Nat×Option gq)}:∀{l:List AC} {vs:List Value},cR (bN G w bx bl) l vs→(∀c∈l,c≠.none)→∀u∈vs,u.oneCell'=true
 |[],[],_,_,u,hu=>by simp at hu
 |c::l,v::vs,h,hn,u,hu=>by
  rcases gU.1 hu with rfl|hu
  ·exact bN.one h.1 (hn c (by simp))
  ·exact ak3 h.2 (fun c hc=>hn c (by simp[hc])) u hu
 |[],_::_,h,_,_,_=>h.elim
 |_::_,[],h,_,_,_=>h.elim
theorem ab0:∀{l:List AC},ahn l=true→∀c∈l,c≠.none
 |[],_,c,hc=>by simp at hc
 |x::l,h,c,hc=>by
  have hx:x≠.none:=by rintro rfl;simp[ahn]at h
  have hl:ahn l=true:=by cases x<;>first|exact h|exact absurd rfl hx
  rcases gU.1 hc with rfl|hc
  ·exact hx
  ·exact ab0 hl c hc
theorem alQ (h:Inv w0 G st a w)(t:TypeId)(x y:Operand)(ho:o.op=.store t x y)(hk:(st.eT y).kn=true)(hkn:ahn (st.eT y).cells=true)(hs:P.cellsOf t=(st.eT y).cells.length)(hi:(P.info? t).isSome=true)
  {b off:Nat} (hx:st.ac x=.ptr b off) {l:List AC} (hl:look st.bx b=some l) (hle:off+(st.eT y).cells.length≤l.length)
  (hr:({st with bx:=(b,GO l off (st.eT y).cells)::st.bx}:St).pk o.dst (.TO []) k=some r) (hK:rT w0 k r K):o.wp P a w K Q:=by
 have hxr:=h.ac x
 rw[hx]at hxr
 obtain⟨_,hp⟩:=hxr
 obtain⟨cs,e,hh,bG,hrel⟩:=h.bx b l hl
 have hcell:=(h.eT y).cells hk
 have hlen:=hcell.len
 have aE1:=hrel.len
 have Z6:=ak3 hcell (ab0 hkn)
 have aLs:off+(a.eval y).cells.toList.length≤cs.toList.length:=by omega
 have hrun:=abZ (P:=P) (t:=t) (o:=off) (v:=a.eval y) (by omega) hi hh (by simpa using aLs) Z6
 have mj:=cR.GO off hrel hcell
 rw[ahs _ _ _ aLs]at mj
 have h':=h.aJF b l hl (cs.toList.take off++(a.eval y).cells.toList++cs.toList.drop (off+(a.eval y).cells.toList.length)).toArray _ (by simpa using mj)
 refine aEV (w':=_) ?_ (Cg h' (v:=.TO []) (u:=undef) ⟨#[],rfl,trivial⟩ hr hK)
 unfold execOp
 rw[ho]
 dsimp only
 rw[hp]
 simp only[Instr.storeAt,Instr.sureAddr,Sem.run_bind,Sem.run_pure,Result.andThen_ok,hrun]
theorem QD {id:Nat}{len:Option Int}(h:st.rP id=none):st.ey (.own id len)=st:=by
 show(match st.rP id with|some b=>_|none=>st)=st
 rw[h]
theorem nP {id:Nat}{len:Option Int}{b:gq}(h:st.rP id=some b):st.ey (.own id len)={st with bl:=(id,some {b with w:=false})::st.bl}:=by
 show(match st.rP id with|some b=>{st with bl:=(id,some {b with w:=false})::st.bl}|none=>st)=_
 rw[h]
theorem Inv.ey (h:Inv w0 G st a w)(c:AC):∃G',Inv w0 G' (st.ey c) a w∧WS G w G' w∧kM G st.bx st.bl G' (st.ey c).bx (st.ey c).bl:=by
 have aIU:Inv w0 G st a w∧WS G w G w∧kM G st.bx st.bl G st.bx st.bl:=⟨h,⟨rfl,rfl,b9 _,fun _ _ ho=>⟨ho,rfl⟩,fun _ _ ho=>⟨ho,rfl⟩⟩,kM.refl _ _ _⟩
 cases c with
 |own id len =>
  cases hb:st.rP id with
  |none=>rw[QD hb];exact⟨G,aIU⟩
  |some b=>rw[nP hb];exact⟨_,h.drop id b (fm hb)⟩
 |_=>exact⟨G,aIU⟩
theorem WS.trans {G1 G2 G3:Gh}{w1 w2 w3:World}(h:WS G1 w1 G2 w2)(h':WS G2 w2 G3 w3):WS G1 w1 G3 w3 :=
 ⟨h'.nw.trans h.nw,h'.ok.trans h.ok,cT h.size h'.size,fun b hb ho=>by
  obtain⟨h1,h2⟩:=h.ro b hb ho
  obtain⟨h3,h4⟩:=h'.ro b (DM hb h.size) h1
  exact⟨h3,h4.trans h2⟩,fun b hb ho=>by
  obtain⟨h1,h2⟩:=h.hid b hb ho
  obtain⟨h3,h4⟩:=h'.hid b (DM hb h.size) h1
  exact⟨h3,h4.trans h2⟩⟩
theorem kM.trans {G1 G2 G3:Gh}{bx1 bx2 bx3:List (Nat×List AC)}{bl1 bl2 bl3:List (Nat×Option gq)}(h:kM G1 bx1 bl1 G2 bx2 bl2)(h':kM G2 bx2 bl2 G3 bx3 bl3):kM G1 bx1 bl1 G3 bx3 bl3 :=
 ⟨fun d hd=>⟨(h'.bx d (h.bx d hd).1).1,(h'.bx d (h.bx d hd).1).2.trans (h.bx d hd).2⟩,fun id hd=>by
  obtain⟨h1,h2,h3⟩:=h.bl id hd
  obtain⟨h4,h5,h6⟩:=h'.bl id h1
  refine⟨h4,h5.trans h2,fun b' Cf=>?_⟩
  obtain⟨b,hb,ht⟩:=h6 b' Cf
  obtain⟨b0,hb0,ht0⟩:=h3 b hb
  exact⟨b0,hb0,ht0.trans ht⟩⟩
structure iu (st dL:St):Prop where
 nt:dL.nt=st.nt
 tm:dL.tm=st.tm
 bx:dL.bx=st.bx
 bl:∀id,look dL.bl id=look st.bl id∨∃b,look st.bl id=some (some b)∧look dL.bl id=some (some {b with w:=false})
theorem iu.refl (st:St):iu st st:=⟨rfl,rfl,rfl,fun _=>.inl rfl⟩
theorem iu.trans {s1 s2 s3:St}(h:iu s1 s2)(h':iu s2 s3):iu s1 s3:=by
 refine⟨h'.nt.trans h.nt,h'.tm.trans h.tm,h'.bx.trans h.bx,fun id=>?_⟩
 rcases h.bl id with h1|⟨b,h1,h2⟩<;>rcases h'.bl id with h3|⟨b',h3,h4⟩
 ·exact .inl (h3.trans h1)
 ·exact .inr ⟨b',h1▸h3,h4⟩
 ·exact .inr ⟨b,h1,h3.trans h2⟩
 ·rw[h2]at h3
  cases h3
  exact .inr ⟨b,h1,h4⟩
theorem rU (st:St)(c:AC):iu st (st.ey c):=by
 cases c with
 |own id len =>
  cases hb:st.rP id with
  |none=>rw[QD hb];exact .refl st
  |some b =>
   rw[nP hb]
   refine⟨rfl,rfl,rfl,fun i=>?_⟩
   show look ((id,some {b with w:=false})::st.bl) i=_∨_
   by_cases hi:id=i
   ·subst hi
    exact .inr ⟨b,fm hb,by simp[aw]⟩
   ·exact .inl (by simp[aw,hi])
 |_=>exact .refl st
theorem Inv.freeze:∀(l:List AC) {G:Gh} {st:St} (h:Inv w0 G st a w),∃G',Inv w0 G' (st.freeze l) a w∧WS G w G' w∧kM G st.bx st.bl G' (st.freeze l).bx (st.freeze l).bl∧iu st (st.freeze l)
 |[],G,st,h=>⟨G,h,⟨rfl,rfl,b9 _,fun _ _ ho=>⟨ho,rfl⟩,fun _ _ ho=>⟨ho,rfl⟩⟩,kM.refl _ _ _,.refl st⟩
 |c::l,G,st,h=>by
  obtain⟨G1,h1,h2,h3⟩:=h.ey c
  obtain⟨G2,h4,h5,h6,h7⟩:=Inv.freeze l h1
  exact⟨G2,h4,h2.trans h5,h3.trans h6,(rU st c).trans h7⟩
theorem IW:∀(l:List AC) (st:St) (id:Nat) (len:Option Int) (b:gq),AC.own id len∈l→look st.bl id=some (some b)→look (st.freeze l).bl id=some (some {b with w:=false})
 |c::l,st,id,len,b,hm,hb=>by
  show look ((st.ey c).freeze l).bl id=_
  have aNp:∀(l:List AC) (st:St) (b:gq),look st.bl id=some (some {b with w:=false})→look (st.freeze l).bl id=some (some {b with w:=false}):=by
   intro l
   induction l with
   |nil=>exact fun _ _ h=>h
   |cons c l ih =>
    intro st b h
    show look ((st.ey c).freeze l).bl id=_
    rcases(rU st c).bl id with h1|⟨b',h1,h2⟩
    ·exact ih _ b (h1.trans h)
    ·rw[h]at h1
     cases h1
     exact ih _ b h2
  rcases gU.1 hm with rfl|hm
  ·refine aNp l _ b ?_
   have:st.rP id=some b:=by simp[St.rP,hb]
   rw[nP this]
   simp[aw]
  ·rcases(rU st c).bl id with h1|⟨b',h1,h2⟩
   ·exact IW l _ id len b hm (h1.trans hb)
   ·rw[hb]at h1
    cases h1
    have:=IW l _ id len _ hm h2
    exact this
theorem aE2 {st dL:St}(h:iu st dL)(id:Nat):dL.rP id=st.rP id∨∃b,st.rP id=some b∧dL.rP id=some {b with w:=false}:=by
 unfold St.rP
 rcases h.bl id with h1|⟨b,h1,h2⟩
 ·rw[h1];exact .inl rfl
 ·rw[h1,h2];exact .inr ⟨b,rfl,rfl⟩
theorem awf {st dL:St}(h:iu st dL)(t:Ty)(c:AC):df dL t c=df st t c:=by
 cases c with
 |own id len =>
  simp only[df]
  rcases aE2 h id with h1|⟨b,h1,h2⟩
  ·rw[h1]
  ·rw[h1,h2]
 |_=>rfl
theorem uJ {st dL:St}(h:iu st dL):∀(t:Ty) (l:List AC),im dL t l=im st t l
 |.int k,l=>by
  cases l with
  |nil=>rfl
  |cons c l=>cases c<;>rfl
 |.bool,l=>by
  cases l with
  |nil=>rfl
  |cons c l=>cases c<;>rfl
 |.str,l=>by
  cases l with
  |nil=>rfl
  |cons c l=>cases c<;>rfl
 |.unit,l=>rfl
 |.pair t u,l=>by
  simp only[im]
  rw[uJ h t l]
  cases im st t l with
  |none=>rfl
  |some x =>
   obtain⟨x,r⟩:=x
   dsimp only
   rw[uJ h u r]
 |.sl e t,[]=>rfl
 |.sl e t,c::r=>by
  simp only[im]
  rw[awf h]
theorem jo {ok ok':Nat→Prop}(h:∀b,ok b→ok' b){t:Ty}{x:t.D}{cs:List Value}(hr:Rd w ok t x cs):Rd w ok' t x cs:=hr.mono (b9 _) fun b _ hb=>⟨h b hb,rfl⟩
theorem alR {ok:Nat→Prop}{e:TypeId}{t u:Ty}(h:t=u){xs:List t.D}{v:Value}(hr:Rd w ok (.sl e t) xs [v]):∀e',Rd w ok (.sl e' u) (Ya h xs) [v]:=by
 subst h
 exact fun _=>hr
theorem aHz {ok:Nat→Prop}{e:TypeId}{t:Ty}{xs:List t.D}{A:Option Addr}{n cap:Nat}(h:Rd w ok (.sl e t) xs [.slice A n cap]){m:Nat}(hm:m≤n):Rd w ok (.sl e t) (xs.take m) [.slice A m cap]:=by
 obtain⟨A',azb,he,hc,h63,hr⟩:=h
 have he:=(xS he).1
 injection he with e1 e2 e3
 subst e1 e2 e3
 have hl:(xs.take m).length=m:=by simp;omega
 refine⟨A,cap,by rw[hl],by omega,by omega,fun h0=>?_⟩
 obtain⟨b,o,hA,h1,h2,h3⟩:=hr (by omega)
 refine⟨b,o,hA,h1,h2,fun j x hj=>h3 j x ?_⟩
 rw[N3]at hj
 split at hj
 ·exact hj
 ·cases hj
theorem aJJ {id:Nat}{b:gq}(hb:DR G w id b){ok:Nat→Prop}(hro:∀g,RO G b.f g→ok g)(hw:b.w=true→∀g,(G.hv id).ownBlock=some g→ok g):Rd w ok (.sl b.e b.t) b.xs [G.hv id]:=by
 cases hbw:b.w with
 |false=>exact jo hro (hb.rd hbw)
 |true =>
  obtain⟨cs,h1,h2,h3⟩:=hb.wr hbw
  refine arD h1 (fun j x hj=>?_) (hw hbw) hb.pos
  obtain⟨c,hc,hcc⟩:=h3 j x hj
  exact⟨c,jo hro hc,hcc⟩
theorem kt (h:Inv w0 G st a w){t:Ty}{c:AC}{v:Value}{xs:List t.D}(hc:bN G w st.bx st.bl c v)(hd:df st t c=some xs){ok:Nat→Prop}
  (bG:∀id len b,c=.own id len→look st.bl id=some (some b)→(∀g,RO G b.f g→ok g)∧(b.w=true→∀g,(G.hv id).ownBlock=some g→ok g))
  (hro:∀f e u ys,c=.ro f e u ys→∀g,RO G f g→ok g):∀e,Rd w ok (.sl e t) xs [v]:=by
 intro e
 cases c with
 |nil =>
  simp only[df]at hd
  cases hd
  rw[show v=_ from hc]
  exact⟨none,0,rfl,b9 _,by simp,fun h0=>absurd h0 (by simp)⟩
 |ro f e' u ys =>
  simp only[df]at hd
  split at hd
  ·rename_i hu
   cases hd
   exact alR _ (jo (hro f e' u ys rfl) hc) e
  ·cases hd
 |own id len =>
  simp only[df]at hd
  cases hb:st.rP id with
  |none=>rw[hb]at hd;cases hd
  |some b =>
   rw[hb]at hd
   dsimp only at hd
   split at hd
   ·rename_i hu
    cases hd
    have hl:=fm hb
    have hbo:=h.bl id b hl
    obtain⟨h1,h2⟩:=bG id len b rfl hl
    have kc:=aJJ hbo h1 h2
    cases len with
    |none =>
     rw[hc.2.2]
     exact alR (Ty.beq_eq hu) kc e
    |some l =>
     obtain⟨_,h0,A,n,cap,hv,hln,rfl⟩:=hc
     rw[hv]at kc
     have:=alR (Ty.beq_eq hu) kc e
     exact aHz this (by omega)
   ·cases hd
 |_=>simp[df]at hd
theorem N8 {ok:Nat→Prop}{bx:List (Nat×List AC)}{bl:List (Nat×Option gq)}:∀{t:Ty} {l:List AC} {vs:List Value} {x:t.D} {l':List AC},
  (∀t c v xs,c∈l→bN G w bx bl c v→df st t c=some xs→∀e,Rd w ok (.sl e t) xs [v]) →
  cR (bN G w bx bl) l vs→im st t l=some (x,l')→∃vs1 vs2,vs=vs1++vs2∧Rd w ok t x vs1∧cR (bN G w bx bl) l' vs2∧∃l1,l=l1++l'
 |.int k,.int j n::l,v::vs,x,l',hc,hr,hi=>by
  simp only[im]at hi
  split at hi
  ·rename_i hk
   cases hi
   cases abN hk
   exact⟨[v],vs,rfl,by rw[show v=_ from hr.1];rfl,hr.2,[_],rfl⟩
  ·cases hi
 |.bool,.bool b::l,v::vs,x,l',hc,hr,hi=>by
  simp only[im]at hi
  cases hi
  exact⟨[v],vs,rfl,by rw[show v=_ from hr.1];rfl,hr.2,[_],rfl⟩
 |.str,.str b::l,v::vs,x,l',hc,hr,hi=>by
  simp only[im]at hi
  cases hi
  exact⟨[v],vs,rfl,by rw[show v=_ from hr.1];rfl,hr.2,[_],rfl⟩
 |.unit,l,vs,x,l',hc,hr,hi=>by
  simp only[im]at hi
  cases hi
  exact⟨[],vs,rfl,rfl,hr,[],rfl⟩
 |.pair t u,l,vs,x,l',hc,hr,hi=>by
  simp only[im]at hi
  split at hi
  ·rename_i y r1 h1
   split at hi
   ·rename_i z r2 h2
    cases hi
    obtain⟨vs1,vs2,rfl,hr1,hr2,l1,hl1⟩:=N8 hc hr h1
    obtain⟨vs3,vs4,rfl,hr3,hr4,l2,hl2⟩:=N8 (fun t c v xs hm=>hc t c v xs (by rw[hl1];simp[hm])) hr2 h2
    exact⟨vs1++vs3,vs4,by simp,⟨vs1,vs3,rfl,hr1,hr3⟩,hr4,l1++l2,by rw[hl1,hl2];simp⟩
   ·cases hi
  ·cases hi
 |.sl e t,c::l,v::vs,x,l',hc,hr,hi=>by
  simp only[im]at hi
  split at hi
  ·rename_i xs hd
   cases hi
   exact⟨[v],vs,rfl,hc t c v _ (by simp) hr.1 hd e,hr.2,[c],rfl⟩
  ·cases hi
 |_,[],_::_,_,_,_,hr,_=>hr.elim
 |_,_::_,[],_,_,_,hr,_=>hr.elim
 |.int _,[],[],_,_,_,_,hi=>by simp[im]at hi
 |.bool,[],[],_,_,_,_,hi=>by simp[im]at hi
 |.str,[],[],_,_,_,_,hi=>by simp[im]at hi
 |.sl _ _,[],[],_,_,_,_,hi=>by simp[im]at hi
 |.int _,.none::_,_::_,_,_,_,_,hi=>by simp[im]at hi
end
end Go.Am
