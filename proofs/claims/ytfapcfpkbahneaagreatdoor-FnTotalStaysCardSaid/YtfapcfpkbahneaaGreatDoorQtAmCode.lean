/- Lemmas for the claim. No condition. -/
import Derived.Test.YtfapcfpkbahneaaGreatDoorQtAmFrz
import Derived.Deep.LoopGhost
import Derived.Tactics
set_option linter.all false
namespace Go.Am
open Go.RowKit
theorem aDN (k:IntKind):azw k k=true:=by cases k<;>rfl
theorem Ty.beq_refl:∀(t:Ty),t.beq t=true
 |.int k=>aDN k
 |.bool|.str|.unit=>rfl
 |.pair a b=>by show(a.beq a&&b.beq b)=true;rw[Ty.beq_refl a,Ty.beq_refl b];rfl
 |.sl e t=>by show(Nat.beq e e&&t.beq t)=true;rw[Ty.beq_refl t,Bool.and_true];simp
section
variable {P:Program} {w0:fJ} {w:World} {G:Gh} {st:St} {a:Act}
theorem Inv.aFW (h:Inv w0 G st a w)(t:Tmp){v:AV}(hv:j2 G w st.bx st.bl v (a.tmps.getD t undef)):Inv w0 G (st.put t v) a w:=by
 refine {h with tm:=fun s x hs=>?_};simp only[St.put,aw]at hs;by_cases ht:t=s
 ·subst ht;simp only[ig]at hs;cases hs;exact hv
 ·simp only[ht,gT]at hs;exact h.tm s x hs
theorem Inv.aFX (h:Inv w0 G st a w)(id:Nat)(hid:look st.bl id=none)(e:TypeId)(u:Ty)(hu:0<u.n) :
  ∃G',Inv w0 G' {st with bl:=(id,some ⟨e,u,[],true,true⟩)::st.bl} a w/\Xr G w G' w/\kR G st.bx st.bl G' st.bx ((id,some ⟨e,u,[],true,true⟩)::st.bl)/\G'.hv id=.slice none 0 0:=by
 have hg:w.grownBy w none:=⟨rfl,rfl,rfl,cp _,fun _ _ _=>rfl⟩;have hhv:(G.grow none [(id,some ⟨e,u,[],true,true⟩)] (fun _=>.slice none 0 0) (fun _=>none)).hv id=.slice none 0 0:=by simp[Gh.grow,aw]
 obtain⟨h1,h2,h3⟩:=h.grow none hg (fun g hg=>by cases hg) [(id,some ⟨e,u,[],true,true⟩)] (fun _=>.slice none 0 0) (fun _=>none)
  (fun i hi=>by
   rw[aw]at hi;by_cases hii:id=i
   ·rw[<-hii];exact hid
   ·simp[hii,look]at hi)
  (fun g i hn=>by cases hn)
  (fun i b hb=>by
   rw[aw]at hb;by_cases hii:id=i
   ·subst hii;simp only[ig]at hb;cases hb;refine⟨fun _=>⟨[],?_,fun g hgo=>?_,fun j x hj=>by simp at hj⟩,(fun hw=>by simp at hw),hu⟩
    ·rw[hhv];exact⟨by simp,.inl ⟨rfl,rfl⟩⟩
    ·rw[hhv]at hgo;simp[Value.ownBlock]at hgo
   ·simp[hii,look]at hb)
 exact⟨_,h1,h2,h3,hhv⟩
theorem aup (h:Inv w0 G st a w)(t:Tmp)(e:TypeId)(u:Ty):∃G',Inv w0 G' (atO st t e u) a w:=by
 unfold atO;split
 ·rename_i hv hid hu;obtain⟨G1,h1,_,_,hhv⟩:=h.aFX _ hid e u (by cases hn:u.n with|zero=>rw[hn]at hu;cases hu|succ n=>omega);have acL:a.tmps.getD t undef=.slice none 0 0:=by have:=h.ev (.tmp t);rw[show st.ev (.tmp t)=st.get t from rfl,hv]at this;exact this
  refine⟨G1,h1.aFW t ?_⟩;rw[acL];exact⟨by simp[aw],⟨none,0,0,hhv⟩,hhv.symm⟩
 ·exact⟨G,h⟩
theorem aqI (h:Inv w0 G st a w)(b j:Nat)(e:TypeId)(u:Ty):∃G',Inv w0 G' (alD st b j e u) a w:=by
 unfold alD;split
 ·rename_i l hl hid hu;split
  ·rename_i hj;obtain⟨G1,h1,hx1,hs1,hhv⟩:=h.aFX _ hid e u (by cases hn:u.n with|zero=>rw[hn]at hu;cases hu|succ n=>omega);have hs:=kR.azI G1 st.bx ((3000000+100*b+j,some ⟨e,u,[],true,true⟩)::st.bl) b (NV l j (.own (3000000+100*b+j) none));have hx:Xr G1 w G1 w:=⟨rfl,rfl,cp _,fun _ _ ho=>⟨ho,rfl⟩,fun _ _ ho=>⟨ho,rfl⟩⟩;refine⟨G1,h1.nw,h1.rok,h1.below,h1.defers,h1.size,h1.sp.mono hx hs,h1.Fe hx,fun t v hv=>(h1.tm t v hv).mono hx hs,?_,fun id bk hb=>h1.bl id bk hb,?_⟩
   ·intro d m hm;simp only[aw]at hm;by_cases hd:b=d
    ·subst hd;simp only[ig]at hm;cases hm;obtain⟨cs,e',h2,h3,h4⟩:=h1.bx b l hl;refine⟨cs,e',h2,h3,?_⟩;have h5:=h4.imp fun _ _=>bN.mono hx hs
     obtain⟨y,hy,hr⟩:=h4.nth hj;have aDO:cs.toList=cs.toList.set j y:=by obtain⟨hlt,he⟩:=xV.1 hy;rw[<-he];exact(azu hlt).symm
     rw[aDO];refine h5.set j ?_;rw[show y=.slice none 0 0 from hr];exact⟨by simp[aw],⟨none,0,0,hhv⟩,hhv.symm⟩
    ·simp only[hd,gT]at hm;obtain⟨cs2,e2,h4,h5,h6⟩:=h1.bx d m hm;exact⟨cs2,e2,h4,h5,h6.imp fun _ _=>bN.mono hx hs⟩
   ·intro g k hk;obtain⟨h2,h3,h4⟩:=h1.own g k hk;refine⟨h2,h3,?_⟩;cases k with
    |hid=>trivial
    |bx d=>exact⟨(hs.bx d h4.1).1,h4.2⟩
    |bl id=>exact h4
  ·exact⟨G,h⟩
 ·exact⟨G,h⟩
theorem aw7 (h:Inv w0 G st a w)(t:Tmp):∃G',Inv w0 G' (aBK st t) a w:=by
 unfold aBK;split
 ·rename_i id len hv;split
  ·rename_i b hb;obtain⟨G1,h1,hx1,hs1⟩:=h.eo (.own id len);refine⟨G1,h1.aFW t ?_⟩;have hrel:=h.ev (.tmp t);rw[show st.ev (.tmp t)=st.get t from rfl,hv]at hrel;have awR:bN G1 w (st.eo (.own id len)).bx (st.eo (.own id len)).bl (.own id len) (a.tmps.getD t undef):=bN.mono hx1 hs1 (c:=.own id len) hrel;have hlk:look (st.eo (.own id len)).bl id=some (some {b with w:=false}):=by rw[nY hb];simp[aw]
   have hd:de (st.eo (.own id len)) b.t (.own id len)=some (I7 b.xs len):=by simp only[de,St.rS,hlk];rw[dif_pos (Ty.beq_refl b.t)];rfl
   refine kD h1 awR hd (fun id' aOl b' hc hl=>?_) (fun f e u ys hc=>by cases hc) b.e;cases hc;rw[hlk]at hl;have:=fQ (fQ hl);subst this;exact⟨fun g hg=>hg,fun hw=>by cases hw⟩
  ·exact⟨G,h⟩
 ·exact⟨G,h⟩
theorem Inv.aFY (h:Inv w0 G st a w){b j:Nat}{l:List AC}{c c':AC}(hl:look st.bx b=some l)(hj:nX l j=some c)(hc:∀v,bN G w st.bx st.bl c v->bN G w st.bx st.bl c' v) :
  Inv w0 G {st with bx:=(b,NV l j c')::st.bx} a w:=by
 have hs:=kR.azI G st.bx st.bl b (NV l j c');have hx:Xr G w G w:=⟨rfl,rfl,cp _,fun _ _ ho=>⟨ho,rfl⟩,fun _ _ ho=>⟨ho,rfl⟩⟩;refine⟨h.nw,h.rok,h.below,h.defers,h.size,h.sp.mono hx hs,h.Fe hx,fun t v hv=>(h.tm t v hv).mono hx hs,?_,fun id bk hb=>h.bl id bk hb,?_⟩
 ·intro d m hm;simp only[aw]at hm;by_cases hd:b=d
  ·subst hd;simp only[ig]at hm;cases hm;obtain⟨cs,e',h2,h3,h4⟩:=h.bx b l hl;refine⟨cs,e',h2,h3,?_⟩;have h5:=h4.imp fun _ _=>bN.mono hx hs
   obtain⟨y,hy,hr⟩:=h4.nth hj;have aDO:cs.toList=cs.toList.set j y:=by obtain⟨hlt,he⟩:=xV.1 hy;rw[<-he];exact(azu hlt).symm
   rw[aDO];exact h5.set j (bN.mono hx hs (hc y hr))
  ·simp only[hd,gT]at hm;obtain⟨cs2,e2,h4,h5,h6⟩:=h.bx d m hm;exact⟨cs2,e2,h4,h5,h6.imp fun _ _=>bN.mono hx hs⟩
 ·intro g k hk;obtain⟨h2,h3,h4⟩:=h.own g k hk;refine⟨h2,h3,?_⟩;cases k with
  |hid=>trivial
  |bx d=>exact⟨(hs.bx d h4.1).1,h4.2⟩
  |bl id=>exact h4
theorem auq (h:Inv w0 G st a w)(b j:Nat):∃G',Inv w0 G' (atP st b j) a w:=by
 unfold atP;split
 ·rename_i l hl;split
  ·rename_i id len hj;split
   ·rename_i bk hb;obtain⟨G1,h1,hx1,hs1⟩:=h.eo (.own id len);have hl1:look (st.eo (.own id len)).bx b=some l:=by rw[nY hb];exact hl
    refine⟨G1,h1.aFY hl1 hj fun v awR=>?_⟩;have hlk:look (st.eo (.own id len)).bl id=some (some {bk with w:=false}):=by rw[nY hb];simp[aw]
    have hd:de (st.eo (.own id len)) bk.t (.own id len)=some (I7 bk.xs len):=by simp only[de,St.rS,hlk];rw[dif_pos (Ty.beq_refl bk.t)];rfl
    refine jr (ok:=RO G1 bk.f) (fun g hg=>hg.Ea fun h=>by cases h) (kD h1 awR hd (fun id' aOl b' hc hl=>?_) (fun f e u ys hc=>by cases hc) bk.e);cases hc;rw[hlk]at hl;have:=fQ (fQ hl);subst this;exact⟨fun g hg=>hg,fun hw=>by cases hw⟩
   ·exact⟨G,h⟩
  ·rename_i f e t xs hj;exact⟨G,h.aFY hl hj fun v hrel=>jr (fun g hg=>hg.Ea fun h=>by cases h) hrel⟩
  ·exact⟨G,h⟩
 ·exact⟨G,h⟩
theorem aur (h:Inv w0 G st a w)(t:Tmp):∃G',Inv w0 G' (atQ st t) a w:=by
 unfold atQ;split
 ·rename_i f e u xs hv;have hrel:=h.ev (.tmp t);rw[show st.ev (.tmp t)=st.get t from rfl,hv]at hrel;exact⟨G,h.aFW t (show Rd w (RO G false) (.sl e u) xs [_] from jr (fun g hg=>hg.Ea fun h=>by cases h) hrel)⟩
 ·rename_i id len hv;split
  ·rename_i b hb;have hl:=fi hb;have hs:kR G st.bx st.bl G st.bx ((id,some {b with f:=false})::st.bl):=kR.atV id _ rfl rfl fun x hx=>by cases hx;exact⟨b,hl,rfl⟩
   have hx:Xr G w G w:=⟨rfl,rfl,cp _,fun _ _ ho=>⟨ho,rfl⟩,fun _ _ ho=>⟨ho,rfl⟩⟩;refine⟨G,h.nw,h.rok,h.below,h.defers,h.size,h.sp.mono hx hs,h.Fe hx,fun t v hv=>(h.tm t v hv).mono hx hs,?_,?_,?_⟩
   ·intro d m hm;obtain⟨cs2,e2,h4,h5,h6⟩:=h.bx d m hm;exact⟨cs2,e2,h4,h5,h6.imp fun _ _=>bN.mono hx hs⟩
   ·intro i bk hbk;simp only[aw]at hbk;by_cases hi:id=i
    ·subst hi;simp only[ig]at hbk;cases hbk;have hbo:=h.bl id b hl;refine⟨fun hw=>?_,fun hw=>?_,hbo.pos⟩
     ·obtain⟨cs,h1,h2,h3⟩:=hbo.wr hw;exact⟨cs,h1,h2,mr (fun g hg=>hg.Ea fun h=>by cases h) h3⟩
     ·exact jr (fun g hg=>hg.Ea fun h=>by cases h) (hbo.rd hw)
    ·simp only[hi,gT]at hbk;exact h.bl i bk hbk
   ·intro g k hk;obtain⟨h4,h5,h6⟩:=h.own g k hk;refine⟨h4,h5,?_⟩;cases k with
    |hid=>trivial
    |bx x=>exact h6
    |bl i=>exact⟨(hs.bl i h6.1).1,h6.2⟩
  ·exact⟨G,h⟩
 ·exact⟨G,h⟩
theorem Bu {β:Type}{f:St->β->St}(hf:∀{G:Gh} {st:St} (h:Inv w0 G st a w) (x:β),∃G',Inv w0 G' (f st x) a w):∀(l:List β) {G:Gh} {st:St},Inv w0 G st a w->∃G',Inv w0 G' (l.foldl f st) a w
 |[],G,st,h=>⟨G,h⟩
 |x::l,G,st,h=>by obtain⟨G1,h1⟩:=hf h x;exact Bu hf l h1
theorem aus (h:Inv w0 G st a w)(b:Bool):Inv w0 G (aE6 st b) a w:=by
 cases b with
 |false=>exact h
 |true=>exact⟨h.nw,h.rok,h.below,h.defers,h.size,trivial,h.hd,h.tm,h.bx,h.bl,h.own⟩
theorem aw8 (hn:Hint)(h:Inv w0 G st a w):∃G',Inv w0 G' (aE7 hn st) a w:=by unfold aE7;obtain⟨G1,h1⟩:=Bu (f:=fun st (x:Tmp×TypeId×Ty)=>atO st x.1 x.2.1 x.2.2) (fun h x=>aup h _ _ _) hn.mat (aus h hn.aJN);obtain⟨G2,h2⟩:=Bu (f:=fun st (x:Nat×Nat×TypeId×Ty)=>alD st x.1 x.2.1 x.2.2.1 x.2.2.2) (fun h x=>aqI h _ _ _ _) hn.x7 h1;obtain⟨G2,h2⟩:=Bu (f:=fun st (x:Nat×Nat)=>atP st x.1 x.2) (fun h x=>auq h _ _) hn.roB h2;obtain⟨G3,h3⟩:=Bu (f:=aBK) (fun h x=>aw7 h x) hn.roT h2;obtain⟨G4,h4⟩:=Bu (f:=atQ) (fun h x=>aur h x) hn.wk h3;exact aaU h4 hn.live
theorem acS (hn:Option Hint)(h:Inv w0 G st a w):∃G',Inv w0 G' (atS hn st) a w:=by
 cases hn with
 |none=>exact⟨G,h⟩
 |some hn=>exact aw8 hn h
theorem acT (hn:Option Hint)(e:Ex)(h:Inv w0 G st a w):∃G',Inv w0 G' (amf hn e st) a w:=by
 cases hn with
 |none=>exact⟨G,h⟩
 |some hn =>
  cases e with
  |norm=>exact⟨G,h⟩
  |exit j=>exact aaU h _
  |ret=>exact aaU h _
end
section
variable {N:Nat} {P:Program} {C:FuncId->Option Any} {w0:fJ} {α:Type} {r:α}
theorem Rc (hC:∀f con,C f=some con->Se P w0 f con){Q:Exit->Act->World->Prop}(ops:Array Oper){k:St->Option α}(hK:rW w0 k r (Q .normal)) :
  ∀(l:List Oper) {w:World} {G:Gh} {st:St} {a:Act},Inv w0 G st a w->x5 P C (rT.QY N) ops.toList l st k=some r->wpList P ops Q l a w
 |[],w,G,st,a,h,hr=>hK G st a w h hr
 |o::l,w,G,st,a,h,hr=>by
  have az9:∀{st:St} {G:Gh},Inv w0 G st a w->Region.wanted o (yielded ops a.tmps)=true->jD P C (rT.QY N) o st (fun st=>x5 P C (rT.QY N) ops.toList l st k)=some r->wpList P ops Q (o::l) a w:=by intro st G h hw hr;show(if Region.wanted o (yielded ops a.tmps) then _ else _);rw[hw];exact .inl (Eg hC h hr fun G' dK a' w' h' lI=>Rc hC ops hK l h' lI)
  have UU:∀{st:St} {G:Gh},Inv w0 G st a w->Region.wanted o (yielded ops a.tmps)=false->St.pk st o.dst (.Ul []) (fun st=>x5 P C (rT.QY N) ops.toList l st k)=some r->wpList P ops Q (o::l) a w:=by intro st G h hw hr;show(if Region.wanted o (yielded ops a.tmps) then _ else _);rw[hw];simp only[ar3,gT];exact Cr h (v:=.Ul []) (u:=undef) ⟨#[],rfl,trivial⟩ hr fun G' dK a' w' h' lI=>Rc hC ops hK l h' lI
  simp only[x5]at hr;split at hr
  ·rename_i hg;exact az9 h (by simp[Region.wanted,hg]) hr
  ·rename_i j Uu hg;split at hr
   ·rename_i oj hoj;split at hr
    ·rename_i dj hdj;have hy:=Ra (tmps:=a.tmps) hoj hdj;have Q3:=h.ev (.tmp dj);rw[show st.ev (.tmp dj)=st.get dj from rfl]at Q3;split at hr
     ·rename_i b hb;rw[hb]at Q3;have hv:a.tmps.getD dj undef=.bool b:=Q3;rw[hv]at hy;have acQ:∀b',b=b'->Inv w0 G (st.put dj (.v (.c (.bool b')))) a w:=by intro b' Cq;subst Cq;exact h.lit (.tmp dj) b hv
      rcases acw hr with ⟨hb1,hr⟩|⟨hb1,hr⟩
      ·subst hb1;cases Uu with
       |true=>exact az9 (acQ true rfl) (by simp[Region.wanted,hg,hy]) hr
       |false=>exact UU (acQ true rfl) (by simp[Region.wanted,hg,hy]) hr
      ·subst hb1;cases Uu with
       |true=>exact UU (acQ false rfl) (by simp[Region.wanted,hg,hy]) hr
       |false=>exact az9 (acQ false rfl) (by simp[Region.wanted,hg,hy]) hr
     ·rename_i hb;rw[hb]at Q3;obtain⟨vs,hv,hvs⟩:=Q3;have hv:a.tmps.getD dj undef=.tuple vs:=hv;rw[hv]at hy;exact UU h (by simp[Region.wanted,hg,hy]) hr
     ·cases hr
    ·cases hr
   ·cases hr
theorem aaX (hC:∀f con,C f=some con->Se P w0 f con){Q:Exit->Act->World->Prop}(ops:Array Oper){k:St->Option α}(hK:rW w0 k r (Q .normal)){w:World} :
  ∀(l:List Oper) {G:Gh} {st:St} {a:Act},(l.all fun o=>kQ P C o)=true->Inv w0 G st a w->x5 P C (rT.QY N) ops.toList l st k=some r ->
   wpQuiet P ops (fun w'=>Below w.heap.size w w') (fun a'=>∀w',Below w.heap.size w w'->Q .normal a' w') l a
 |[],G,st,a,_,h,hr=>fun w' hB=>hK G st a w' (h.more hB) hr
 |o::l,G,st,a,hq,h,hr=>by
  rw[List.all_cons,aJ]at hq;have az9:∀{st:St} {G:Gh},Inv w0 G st a w->Region.wanted o (yielded ops a.tmps)=true->jD P C (rT.QY N) o st (fun st=>x5 P C (rT.QY N) ops.toList l st k)=some r->wpQuiet P ops (fun w'=>Below w.heap.size w w') (fun a'=>∀w',Below w.heap.size w w'->Q .normal a' w') (o::l) a:=by intro st G h hw hr;show(if Region.wanted o (yielded ops a.tmps) then _ else _);rw[hw];obtain⟨v,G',dK,h1,h2,h3⟩:=awZ hC hq.1 h hr;exact⟨v,h1,aaX hC ops hK l hq.2 h2 h3⟩
  have UU:∀{st:St} {G:Gh},Inv w0 G st a w->Region.wanted o (yielded ops a.tmps)=false->St.pk st o.dst (.Ul []) (fun st=>x5 P C (rT.QY N) ops.toList l st k)=some r->wpQuiet P ops (fun w'=>Below w.heap.size w w') (fun a'=>∀w',Below w.heap.size w w'->Q .normal a' w') (o::l) a:=by
   intro st G h hw hr;show(if Region.wanted o (yielded ops a.tmps) then _ else _);rw[hw];simp only[ar3,gT];obtain⟨G',dK,h1,h2⟩:=Cr (K:=fun a' w'=>∃G' dK,Inv w0 G' dK a' w'/\x5 P C (rT.QY N) ops.toList l dK k=some r) h (v:=.Ul []) (u:=undef) ⟨#[],rfl,trivial⟩ hr fun G' dK a' w' h' lI=>⟨G',dK,h',lI⟩
   exact aaX hC ops hK l hq.2 h1 h2
  simp only[x5]at hr;split at hr
  ·rename_i hg;exact az9 h (by simp[Region.wanted,hg]) hr
  ·rename_i j Uu hg;split at hr
   ·rename_i oj hoj;split at hr
    ·rename_i dj hdj;have hy:=Ra (tmps:=a.tmps) hoj hdj;have Q3:=h.ev (.tmp dj);rw[show st.ev (.tmp dj)=st.get dj from rfl]at Q3;split at hr
     ·rename_i b hb;rw[hb]at Q3;have hv:a.tmps.getD dj undef=.bool b:=Q3;rw[hv]at hy;have acQ:∀b',b=b'->Inv w0 G (st.put dj (.v (.c (.bool b')))) a w:=by intro b' Cq;subst Cq;exact h.lit (.tmp dj) b hv
      rcases acw hr with ⟨hb1,hr⟩|⟨hb1,hr⟩
      ·subst hb1;cases Uu with
       |true=>exact az9 (acQ true rfl) (by simp[Region.wanted,hg,hy]) hr
       |false=>exact UU (acQ true rfl) (by simp[Region.wanted,hg,hy]) hr
      ·subst hb1;cases Uu with
       |true=>exact UU (acQ false rfl) (by simp[Region.wanted,hg,hy]) hr
       |false=>exact az9 (acQ false rfl) (by simp[Region.wanted,hg,hy]) hr
     ·rename_i hb;rw[hb]at Q3;obtain⟨vs,hv,hvs⟩:=Q3;have hv:a.tmps.getD dj undef=.tuple vs:=hv;rw[hv]at hy;exact UU h (by simp[Region.wanted,hg,hy]) hr
     ·cases hr
    ·cases hr
   ·cases hr
def aOm:Ex->Exit
 |.norm=>.normal
 |.exit id=>.exit id
 |.ret=>.ret
def aMh (w0:fJ)(k:Ex->St->Option α)(r:α)(Q:Exit->Act->World->Prop):Prop:=∀e G' dK a' w',Inv w0 G' dK a' w'->k e dK=some r->Q (aOm e) a' w'
theorem rZ (hC:∀f con,C f=some con->Se P w0 f con)(H:Nat->Option Hint):∀(c:Code) {st:St} {k:Ex->St->Option α} {G:Gh} {a:Act} {w:World} {Q:Exit->Act->World->Prop},
  Inv w0 G st a w->run P C (rT.QY N) H c st k=some r->aMh w0 k r Q->c.wp P Q a w
 |.skip,st,k,G,a,w,Q,h,hr,hK=>wp_skip (hK .norm _ _ _ _ h hr)
 |.region id ops aHO,st,k,G,a,w,Q,h,hr,hK=>by
  simp only[run]at hr;split at hr
  ·rename_i hd;cases aHO with
   |false=>exact wp_region_list (Rc hC ops (fun G' dK a' w' h' lI=>hK .norm _ _ _ _ h' lI) ops.toList h hr)
   |true =>
    have hd:azF P C ops=true:=by simpa using hd
    simp only[azF,aJ]at hd;obtain⟨⟨hm,hB⟩,hq⟩:=hd;have hBd:Below w.heap.size w {w with drawn:=w.drawn+1}:=⟨rfl,rfl,rfl,cp _,fun _ _=>rfl⟩;exact wp_region_quiet (C:=fun w'=>Below w.heap.size w w') hm hB hBd (aaX hC ops (fun G' dK a' w' h' lI=>hK .norm _ _ _ _ h' lI) ops.toList hq h hr)
  ·rename_i hd;cases aHO with
   |false=>simp at hd
   |true =>
    split at hr
    ·rename_i hm;simp only[aJ]at hm;have hBd:Below w.heap.size w {w with drawn:=w.drawn+1}:=⟨rfl,rfl,rfl,cp _,fun _ _=>rfl⟩;obtain⟨G2,st2,h2,hn2,hr2⟩:=aw6 h hr;exact wp_region_noPanic (wp_region_any hm.1.1 (aqH hC (Q:=NoPanic Q) (fun c a a' w h=>h) hm.1.2 (by rw[hn2];exact hm.2) (fun G' dK a' w' h' lI=>hK .norm _ _ _ _ h' lI) (h2.more hBd) hr2))
    ·cases hr
 |.seq x y,st,k,G,a,w,Q,h,hr,hK=>by
  simp only[run]at hr;refine wp_seq (rZ hC H x h hr fun e G' dK a' w' h' lI=>?_);cases e with
  |norm=>exact rZ hC H y h' lI hK
  |exit j=>exact hK (.exit j) _ _ _ _ h' lI
  |ret=>exact hK .ret _ _ _ _ h' lI
 |.cond c x y,st,k,G,a,w,Q,h,hr,hK=>by
  simp only[run]at hr;split at hr
  ·rename_i b hb;have hv:=atW (h.ac c) hb;refine wp_cond hv ?_;rcases acw hr with ⟨hb1,hr⟩|⟨hb1,hr⟩
   ·subst hb1;exact rZ hC H x (h.lit c true hv) hr hK
   ·subst hb1;exact rZ hC H y (h.lit c false hv) hr hK
  ·cases hr
 |.block id x,st,k,G,a,w,Q,h,hr,hK=>by
  simp only[run]at hr;refine wp_block (rZ hC H x h hr fun e G' dK a' w' h' lI=>?_);cases e with
  |norm=>exact hK .norm _ _ _ _ h' lI
  |exit j =>
   dsimp only at lI;show(if j=id then Q .normal a' w' else Q (.exit j) a' w');split at lI
   ·rename_i hj;rw[ak (aP hj)];exact hK .norm _ _ _ _ h' lI
   ·rename_i hj;rw[ah (by rintro rfl;simp at hj)];exact hK (.exit j) _ _ _ _ h' lI
  |ret=>exact hK .ret _ _ _ _ h' lI
 |.loop b,st,k,G,a,w,Q,h,hr,hK=>by
  simp only[run]at hr;obtain⟨G0,h0⟩:=acS (H (rV b)) h;refine wp_loop_ghost (fun n a w=>∃G st,Inv w0 G st a w/\aHM (fun st k=>run P C (rT.QY N) H b st k) (H (rV b)) k n st=some r) N ⟨G0,_,h0,hr⟩ fun n a1 w1 hI=>?_
  obtain⟨G1,ub,h1,hr1⟩:=hI;cases n with
  |zero=>cases hr1
  |succ n =>
   refine rZ hC H b h1 hr1 fun e G' dK a' w' h' lI=>?_
   cases e with
   |norm =>
    obtain⟨G2,h2⟩:=acS (H (rV b)) h';exact⟨n,Nat.lt_succ_self n,G2,_,h2,lI⟩
   |exit j =>
    obtain⟨G2,h2⟩:=acT (H (rV b)) (.exit j) h';exact hK (.exit j) _ _ _ _ h2 lI
   |ret =>
    obtain⟨G2,h2⟩:=acT (H (rV b)) .ret h';exact hK .ret _ _ _ _ h2 lI
 |.exit id,st,k,G,a,w,Q,h,hr,hK=>wp_exit (hK (.exit id) _ _ _ _ h hr)
 |.ret,st,k,G,a,w,Q,h,hr,hK=>wp_ret (hK .ret _ _ _ _ h hr)
 |.label _,_,_,_,_,_,_,_,hr,_=>by cases hr
 |.goto _,_,_,_,_,_,_,_,hr,_=>by cases hr
 |.refuse _,_,_,_,_,_,_,_,hr,_=>by cases hr
 |.rangeFunc _ _ _ _,_,_,_,_,_,_,_,hr,_=>by cases hr
 |.scope _,_,_,_,_,_,_,_,hr,_=>by cases hr
end
end Go.Am
