/- Lemmas for the claim. No condition. -/
import Derived.Test.YtfapcfpkbahneaaGreatDoorQlAmFrz
import Derived.Deep.LoopGhost
import Derived.Tactics
set_option linter.all false
namespace Go.Am
open Go.RowKit
theorem aDo (k:IntKind):ayY k k=true:=by cases k<;>rfl
theorem Ty.beq_refl:∀(t:Ty),t.beq t=true
 |.int k=>aDo k
 |.bool|.str|.unit=>rfl
 |.pair a b=>by
  show(a.beq a&&b.beq b)=true
  rw[Ty.beq_refl a,Ty.beq_refl b];rfl
 |.sl e t=>by
  show(Nat.beq e e&&t.beq t)=true
  rw[Ty.beq_refl t,Bool.and_true]
  simp
section
variable {P:Program} {w0:fK} {w:World} {G:Gh} {st:St} {a:Act}
theorem Inv.aFC (h:Inv w0 G st a w)(t:Tmp){v:AV}(hv:jW G w st.bx st.bl v (a.tmps.getD t undef)):Inv w0 G (st.put t v) a w:=by
 refine {h with tm:=fun s x hs=>?_}
 simp only[St.put,aw]at hs
 by_cases ht:t=s
 ·subst ht
  simp only[ik]at hs
  cases hs
  exact hv
 ·simp only[ht,gV]at hs
  exact h.tm s x hs
theorem Inv.aFD (h:Inv w0 G st a w)(id:Nat)(hid:look st.bl id=none)(e:TypeId)(u:Ty)(hu:0<u.n) :
  ∃G',Inv w0 G' {st with bl:=(id,some ⟨e,u,[],true,true⟩)::st.bl} a w∧WS G w G' w∧kM G st.bx st.bl G' st.bx ((id,some ⟨e,u,[],true,true⟩)::st.bl)∧G'.hv id=.slice none 0 0:=by
 have hg:w.grownBy w none:=⟨rfl,rfl,rfl,b9 _,fun _ _ _=>rfl⟩
 have hhv:(G.grow none [(id,some ⟨e,u,[],true,true⟩)] (fun _=>.slice none 0 0) (fun _=>none)).hv id=.slice none 0 0:=by
  simp[Gh.grow,aw]
 obtain⟨h1,h2,h3⟩:=h.grow none hg (fun g hg=>by cases hg) [(id,some ⟨e,u,[],true,true⟩)] (fun _=>.slice none 0 0) (fun _=>none)
  (fun i hi=>by
   rw[aw]at hi
   by_cases hii:id=i
   ·rw[←hii];exact hid
   ·simp[hii,look]at hi)
  (fun g i hn=>by cases hn)
  (fun i b hb=>by
   rw[aw]at hb
   by_cases hii:id=i
   ·subst hii
    simp only[ik]at hb
    cases hb
    refine⟨fun _=>⟨[],?_,fun g hgo=>?_,fun j x hj=>by simp at hj⟩,(fun hw=>by simp at hw),hu⟩
    ·rw[hhv]
     exact⟨by simp,.inl ⟨rfl,rfl⟩⟩
    ·rw[hhv]at hgo
     simp[Value.ownBlock]at hgo
   ·simp[hii,look]at hb)
 exact⟨_,h1,h2,h3,hhv⟩
theorem atP (h:Inv w0 G st a w)(t:Tmp)(e:TypeId)(u:Ty):∃G',Inv w0 G' (ati st t e u) a w:=by
 unfold ati
 split
 ·rename_i hv hid hu
  obtain⟨G1,h1,_,_,hhv⟩:=h.aFD _ hid e u (by cases hn:u.n with|zero=>rw[hn]at hu;cases hu|succ n=>omega)
  have ab9:a.tmps.getD t undef=.slice none 0 0:=by
   have:=h.ev (.tmp t)
   rw[show st.ev (.tmp t)=st.get t from rfl,hv]at this
   exact this
  refine⟨G1,h1.aFC t ?_⟩
  rw[ab9]
  exact⟨by simp[aw],⟨none,0,0,hhv⟩,hhv.symm⟩
 ·exact⟨G,h⟩
theorem aqb (h:Inv w0 G st a w)(b j:Nat)(e:TypeId)(u:Ty):∃G',Inv w0 G' (ak2 st b j e u) a w:=by
 unfold ak2
 split
 ·rename_i l hl hid hu
  split
  ·rename_i hj
   obtain⟨G1,h1,hx1,hs1,hhv⟩:=h.aFD _ hid e u (by cases hn:u.n with|zero=>rw[hn]at hu;cases hu|succ n=>omega)
   have hs:=kM.aza G1 st.bx ((3000000+100*b+j,some ⟨e,u,[],true,true⟩)::st.bl) b (Nq l j (.own (3000000+100*b+j) none))
   have hx:WS G1 w G1 w:=⟨rfl,rfl,b9 _,fun _ _ ho=>⟨ho,rfl⟩,fun _ _ ho=>⟨ho,rfl⟩⟩
   refine⟨G1,h1.nw,h1.rok,h1.below,h1.defers,h1.size,h1.sp.mono hx hs,h1.E0 hx,fun t v hv=>(h1.tm t v hv).mono hx hs,?_,fun id bk hb=>h1.bl id bk hb,?_⟩
   ·intro d m hm
    simp only[aw]at hm
    by_cases hd:b=d
    ·subst hd
     simp only[ik]at hm
     cases hm
     obtain⟨cs,e',h2,h3,h4⟩:=h1.bx b l hl
     refine⟨cs,e',h2,h3,?_⟩
     have h5:=h4.imp fun _ _=>bN.mono hx hs
     obtain⟨y,hy,hr⟩:=h4.nth hj
     have aDp:cs.toList=cs.toList.set j y:=by
      obtain⟨hlt,he⟩:=xQ.1 hy
      rw[←he]
      exact(ayW hlt).symm
     rw[aDp]
     refine h5.set j ?_
     rw[show y=.slice none 0 0 from hr]
     exact⟨by simp[aw],⟨none,0,0,hhv⟩,hhv.symm⟩
    ·simp only[hd,gV]at hm
     obtain⟨cs2,e2,h4,h5,h6⟩:=h1.bx d m hm
     exact⟨cs2,e2,h4,h5,h6.imp fun _ _=>bN.mono hx hs⟩
   ·intro g k hk
    obtain⟨h2,h3,h4⟩:=h1.own g k hk
    refine⟨h2,h3,?_⟩
    cases k with
    |hid=>trivial
    |bx d=>exact⟨(hs.bx d h4.1).1,h4.2⟩
    |bl id=>exact h4
  ·exact⟨G,h⟩
 ·exact⟨G,h⟩
theorem awA (h:Inv w0 G st a w)(t:Tmp):∃G',Inv w0 G' (aBj st t) a w:=by
 unfold aBj
 split
 ·rename_i id len hv
  split
  ·rename_i b hb
   obtain⟨G1,h1,hx1,hs1⟩:=h.ey (.own id len)
   refine⟨G1,h1.aFC t ?_⟩
   have hrel:=h.ev (.tmp t)
   rw[show st.ev (.tmp t)=st.get t from rfl,hv]at hrel
   have awl:bN G1 w (st.ey (.own id len)).bx (st.ey (.own id len)).bl (.own id len) (a.tmps.getD t undef):=bN.mono hx1 hs1 (c:=.own id len) hrel
   have hlk:look (st.ey (.own id len)).bl id=some (some {b with w:=false}):=by
    rw[nP hb]
    simp[aw]
   have hd:df (st.ey (.own id len)) b.t (.own id len)=some (IP b.xs len):=by
    simp only[df,St.rP,hlk]
    rw[dif_pos (Ty.beq_refl b.t)]
    rfl
   refine kt h1 awl hd (fun id' aOe b' hc hl=>?_) (fun f e u ys hc=>by cases hc) b.e
   cases hc
   rw[hlk]at hl
   have:=fR (fR hl)
   subst this
   exact⟨fun g hg=>hg,fun hw=>by cases hw⟩
  ·exact⟨G,h⟩
 ·exact⟨G,h⟩
theorem Inv.aFE (h:Inv w0 G st a w){b j:Nat}{l:List AC}{c c':AC}(hl:look st.bx b=some l)(hj:nN l j=some c)(hc:∀v,bN G w st.bx st.bl c v→bN G w st.bx st.bl c' v) :
  Inv w0 G {st with bx:=(b,Nq l j c')::st.bx} a w:=by
 have hs:=kM.aza G st.bx st.bl b (Nq l j c')
 have hx:WS G w G w:=⟨rfl,rfl,b9 _,fun _ _ ho=>⟨ho,rfl⟩,fun _ _ ho=>⟨ho,rfl⟩⟩
 refine⟨h.nw,h.rok,h.below,h.defers,h.size,h.sp.mono hx hs,h.E0 hx,fun t v hv=>(h.tm t v hv).mono hx hs,?_,fun id bk hb=>h.bl id bk hb,?_⟩
 ·intro d m hm
  simp only[aw]at hm
  by_cases hd:b=d
  ·subst hd
   simp only[ik]at hm
   cases hm
   obtain⟨cs,e',h2,h3,h4⟩:=h.bx b l hl
   refine⟨cs,e',h2,h3,?_⟩
   have h5:=h4.imp fun _ _=>bN.mono hx hs
   obtain⟨y,hy,hr⟩:=h4.nth hj
   have aDp:cs.toList=cs.toList.set j y:=by
    obtain⟨hlt,he⟩:=xQ.1 hy
    rw[←he]
    exact(ayW hlt).symm
   rw[aDp]
   exact h5.set j (bN.mono hx hs (hc y hr))
  ·simp only[hd,gV]at hm
   obtain⟨cs2,e2,h4,h5,h6⟩:=h.bx d m hm
   exact⟨cs2,e2,h4,h5,h6.imp fun _ _=>bN.mono hx hs⟩
 ·intro g k hk
  obtain⟨h2,h3,h4⟩:=h.own g k hk
  refine⟨h2,h3,?_⟩
  cases k with
  |hid=>trivial
  |bx d=>exact⟨(hs.bx d h4.1).1,h4.2⟩
  |bl id=>exact h4
theorem atQ (h:Inv w0 G st a w)(b j:Nat):∃G',Inv w0 G' (atj st b j) a w:=by
 unfold atj
 split
 ·rename_i l hl
  split
  ·rename_i id len hj
   split
   ·rename_i bk hb
    obtain⟨G1,h1,hx1,hs1⟩:=h.ey (.own id len)
    have hl1:look (st.ey (.own id len)).bx b=some l:=by rw[nP hb];exact hl
    refine⟨G1,h1.aFE hl1 hj fun v awl=>?_⟩
    have hlk:look (st.ey (.own id len)).bl id=some (some {bk with w:=false}):=by
     rw[nP hb]
     simp[aw]
    have hd:df (st.ey (.own id len)) bk.t (.own id len)=some (IP bk.xs len):=by
     simp only[df,St.rP,hlk]
     rw[dif_pos (Ty.beq_refl bk.t)]
     rfl
    refine jo (ok:=RO G1 bk.f) (fun g hg=>hg.DQ fun h=>by cases h) (kt h1 awl hd (fun id' aOe b' hc hl=>?_) (fun f e u ys hc=>by cases hc) bk.e)
    cases hc
    rw[hlk]at hl
    have:=fR (fR hl)
    subst this
    exact⟨fun g hg=>hg,fun hw=>by cases hw⟩
   ·exact⟨G,h⟩
  ·rename_i f e t xs hj
   exact⟨G,h.aFE hl hj fun v hrel=>jo (fun g hg=>hg.DQ fun h=>by cases h) hrel⟩
  ·exact⟨G,h⟩
 ·exact⟨G,h⟩
theorem atS (h:Inv w0 G st a w)(t:Tmp):∃G',Inv w0 G' (atk st t) a w:=by
 unfold atk
 split
 ·rename_i f e u xs hv
  have hrel:=h.ev (.tmp t)
  rw[show st.ev (.tmp t)=st.get t from rfl,hv]at hrel
  exact⟨G,h.aFC t (show Rd w (RO G false) (.sl e u) xs [_] from jo (fun g hg=>hg.DQ fun h=>by cases h) hrel)⟩
 ·rename_i id len hv
  split
  ·rename_i b hb
   have hl:=fm hb
   have hs:kM G st.bx st.bl G st.bx ((id,some {b with f:=false})::st.bl):=kM.ato id _ rfl rfl fun x hx=>by cases hx;exact⟨b,hl,rfl⟩
   have hx:WS G w G w:=⟨rfl,rfl,b9 _,fun _ _ ho=>⟨ho,rfl⟩,fun _ _ ho=>⟨ho,rfl⟩⟩
   refine⟨G,h.nw,h.rok,h.below,h.defers,h.size,h.sp.mono hx hs,h.E0 hx,fun t v hv=>(h.tm t v hv).mono hx hs,?_,?_,?_⟩
   ·intro d m hm
    obtain⟨cs2,e2,h4,h5,h6⟩:=h.bx d m hm
    exact⟨cs2,e2,h4,h5,h6.imp fun _ _=>bN.mono hx hs⟩
   ·intro i bk hbk
    simp only[aw]at hbk
    by_cases hi:id=i
    ·subst hi
     simp only[ik]at hbk
     cases hbk
     have hbo:=h.bl id b hl
     refine⟨fun hw=>?_,fun hw=>?_,hbo.pos⟩
     ·obtain⟨cs,h1,h2,h3⟩:=hbo.wr hw
      exact⟨cs,h1,h2,ml (fun g hg=>hg.DQ fun h=>by cases h) h3⟩
     ·exact jo (fun g hg=>hg.DQ fun h=>by cases h) (hbo.rd hw)
    ·simp only[hi,gV]at hbk
     exact h.bl i bk hbk
   ·intro g k hk
    obtain⟨h4,h5,h6⟩:=h.own g k hk
    refine⟨h4,h5,?_⟩
    cases k with
    |hid=>trivial
    |bx x=>exact h6
    |bl i=>exact⟨(hs.bl i h6.1).1,h6.2⟩
  ·exact⟨G,h⟩
 ·exact⟨G,h⟩
theorem Bf {β:Type}{f:St→β→St}(hf:∀{G:Gh} {st:St} (h:Inv w0 G st a w) (x:β),∃G',Inv w0 G' (f st x) a w):∀(l:List β) {G:Gh} {st:St},Inv w0 G st a w→∃G',Inv w0 G' (l.foldl f st) a w
 |[],G,st,h=>⟨G,h⟩
 |x::l,G,st,h=>by
  obtain⟨G1,h1⟩:=hf h x
  exact Bf hf l h1
theorem atT (h:Inv w0 G st a w)(b:Bool):Inv w0 G (aEM st b) a w:=by
 cases b with
 |false=>exact h
 |true=>exact⟨h.nw,h.rok,h.below,h.defers,h.size,trivial,h.hd,h.tm,h.bx,h.bl,h.own⟩
theorem awB (hn:Hint)(h:Inv w0 G st a w):∃G',Inv w0 G' (aEN hn st) a w:=by
 unfold aEN
 obtain⟨G1,h1⟩:=Bf (f:=fun st (x:Tmp×TypeId×Ty)=>ati st x.1 x.2.1 x.2.2) (fun h x=>atP h _ _ _) hn.mat (atT h hn.aJz)
 obtain⟨G2,h2⟩:=Bf (f:=fun st (x:Nat×Nat×TypeId×Ty)=>ak2 st x.1 x.2.1 x.2.2.1 x.2.2.2) (fun h x=>aqb h _ _ _ _) hn.xY h1
 obtain⟨G2,h2⟩:=Bf (f:=fun st (x:Nat×Nat)=>atj st x.1 x.2) (fun h x=>atQ h _ _) hn.roB h2
 obtain⟨G3,h3⟩:=Bf (f:=aBj) (fun h x=>awA h x) hn.roT h2
 obtain⟨G4,h4⟩:=Bf (f:=atk) (fun h x=>atS h x) hn.wk h3
 exact aaj h4 hn.live
theorem ach (hn:Option Hint)(h:Inv w0 G st a w):∃G',Inv w0 G' (atl hn st) a w:=by
 cases hn with
 |none=>exact⟨G,h⟩
 |some hn=>exact awB hn h
theorem aci (hn:Option Hint)(e:Ex)(h:Inv w0 G st a w):∃G',Inv w0 G' (alG hn e st) a w:=by
 cases hn with
 |none=>exact⟨G,h⟩
 |some hn =>
  cases e with
  |norm=>exact⟨G,h⟩
  |exit j=>exact aaj h _
  |ret=>exact aaj h _
end
section
variable {N:Nat} {P:Program} {C:FuncId→Option Any} {w0:fK} {α:Type} {r:α}
theorem QK (hC:∀f con,C f=some con→RJ P w0 f con){Q:Exit→Act→World→Prop}(ops:Array Oper){k:St→Option α}(hK:rT w0 k r (Q .normal)) :
  ∀(l:List Oper) {w:World} {G:Gh} {st:St} {a:Act},Inv w0 G st a w→xW P C (rQ.Qw N) ops.toList l st k=some r→wpList P ops Q l a w
 |[],w,G,st,a,h,hr=>hK G st a w h hr
 |o::l,w,G,st,a,h,hr=>by
  have azB:∀{st:St} {G:Gh},Inv w0 G st a w→Region.wanted o (yielded ops a.tmps)=true→jC P C (rQ.Qw N) o st (fun st=>xW P C (rQ.Qw N) ops.toList l st k)=some r→wpList P ops Q (o::l) a w:=by
   intro st G h hw hr
   show(if Region.wanted o (yielded ops a.tmps) then _ else _)
   rw[hw]
   exact .inl (DV hC h hr fun G' dL a' w' h' lK=>QK hC ops hK l h' lK)
  have Un:∀{st:St} {G:Gh},Inv w0 G st a w→Region.wanted o (yielded ops a.tmps)=false→St.pk st o.dst (.TO []) (fun st=>xW P C (rQ.Qw N) ops.toList l st k)=some r→wpList P ops Q (o::l) a w:=by
   intro st G h hw hr
   show(if Region.wanted o (yielded ops a.tmps) then _ else _)
   rw[hw]
   simp only[arv,gV]
   exact Cg h (v:=.TO []) (u:=undef) ⟨#[],rfl,trivial⟩ hr fun G' dL a' w' h' lK=>QK hC ops hK l h' lK
  simp only[xW]at hr
  split at hr
  ·rename_i hg
   exact azB h (by simp[Region.wanted,hg]) hr
  ·rename_i j TX hg
   split at hr
   ·rename_i oj hoj
    split at hr
    ·rename_i dj hdj
     have hy:=QI (tmps:=a.tmps) hoj hdj
     have QB:=h.ev (.tmp dj)
     rw[show st.ev (.tmp dj)=st.get dj from rfl]at QB
     split at hr
     ·rename_i b hb
      rw[hb]at QB
      have hv:a.tmps.getD dj undef=.bool b:=QB
      rw[hv]at hy
      have acf:∀b',b=b'→Inv w0 G (st.put dj (.v (.c (.bool b')))) a w:=by
       intro b' Cf
       subst Cf
       exact h.lit (.tmp dj) b hv
      rcases abU hr with ⟨hb1,hr⟩|⟨hb1,hr⟩
      ·subst hb1
       cases TX with
       |true=>exact azB (acf true rfl) (by simp[Region.wanted,hg,hy]) hr
       |false=>exact Un (acf true rfl) (by simp[Region.wanted,hg,hy]) hr
      ·subst hb1
       cases TX with
       |true=>exact Un (acf false rfl) (by simp[Region.wanted,hg,hy]) hr
       |false=>exact azB (acf false rfl) (by simp[Region.wanted,hg,hy]) hr
     ·rename_i hb
      rw[hb]at QB
      obtain⟨vs,hv,hvs⟩:=QB
      have hv:a.tmps.getD dj undef=.tuple vs:=hv
      rw[hv]at hy
      exact Un h (by simp[Region.wanted,hg,hy]) hr
     ·cases hr
    ·cases hr
   ·cases hr
theorem aam (hC:∀f con,C f=some con→RJ P w0 f con){Q:Exit→Act→World→Prop}(ops:Array Oper){k:St→Option α}(hK:rT w0 k r (Q .normal)){w:World} :
  ∀(l:List Oper) {G:Gh} {st:St} {a:Act},(l.all fun o=>kL P C o)=true→Inv w0 G st a w→xW P C (rQ.Qw N) ops.toList l st k=some r →
   wpQuiet P ops (fun w'=>Below w.heap.size w w') (fun a'=>∀w',Below w.heap.size w w'→Q .normal a' w') l a
 |[],G,st,a,_,h,hr=>fun w' hB=>hK G st a w' (h.more hB) hr
 |o::l,G,st,a,hq,h,hr=>by
  rw[List.all_cons,aJ]at hq
  have azB:∀{st:St} {G:Gh},Inv w0 G st a w→Region.wanted o (yielded ops a.tmps)=true→jC P C (rQ.Qw N) o st (fun st=>xW P C (rQ.Qw N) ops.toList l st k)=some r→wpQuiet P ops (fun w'=>Below w.heap.size w w') (fun a'=>∀w',Below w.heap.size w w'→Q .normal a' w') (o::l) a:=by
   intro st G h hw hr
   show(if Region.wanted o (yielded ops a.tmps) then _ else _)
   rw[hw]
   obtain⟨v,G',dL,h1,h2,h3⟩:=awt hC hq.1 h hr
   exact⟨v,h1,aam hC ops hK l hq.2 h2 h3⟩
  have Un:∀{st:St} {G:Gh},Inv w0 G st a w→Region.wanted o (yielded ops a.tmps)=false→St.pk st o.dst (.TO []) (fun st=>xW P C (rQ.Qw N) ops.toList l st k)=some r→wpQuiet P ops (fun w'=>Below w.heap.size w w') (fun a'=>∀w',Below w.heap.size w w'→Q .normal a' w') (o::l) a:=by
   intro st G h hw hr
   show(if Region.wanted o (yielded ops a.tmps) then _ else _)
   rw[hw]
   simp only[arv,gV]
   obtain⟨G',dL,h1,h2⟩:=Cg (K:=fun a' w'=>∃G' dL,Inv w0 G' dL a' w'∧xW P C (rQ.Qw N) ops.toList l dL k=some r) h (v:=.TO []) (u:=undef) ⟨#[],rfl,trivial⟩ hr fun G' dL a' w' h' lK=>⟨G',dL,h',lK⟩
   exact aam hC ops hK l hq.2 h1 h2
  simp only[xW]at hr
  split at hr
  ·rename_i hg
   exact azB h (by simp[Region.wanted,hg]) hr
  ·rename_i j TX hg
   split at hr
   ·rename_i oj hoj
    split at hr
    ·rename_i dj hdj
     have hy:=QI (tmps:=a.tmps) hoj hdj
     have QB:=h.ev (.tmp dj)
     rw[show st.ev (.tmp dj)=st.get dj from rfl]at QB
     split at hr
     ·rename_i b hb
      rw[hb]at QB
      have hv:a.tmps.getD dj undef=.bool b:=QB
      rw[hv]at hy
      have acf:∀b',b=b'→Inv w0 G (st.put dj (.v (.c (.bool b')))) a w:=by
       intro b' Cf
       subst Cf
       exact h.lit (.tmp dj) b hv
      rcases abU hr with ⟨hb1,hr⟩|⟨hb1,hr⟩
      ·subst hb1
       cases TX with
       |true=>exact azB (acf true rfl) (by simp[Region.wanted,hg,hy]) hr
       |false=>exact Un (acf true rfl) (by simp[Region.wanted,hg,hy]) hr
      ·subst hb1
       cases TX with
       |true=>exact Un (acf false rfl) (by simp[Region.wanted,hg,hy]) hr
       |false=>exact azB (acf false rfl) (by simp[Region.wanted,hg,hy]) hr
     ·rename_i hb
      rw[hb]at QB
      obtain⟨vs,hv,hvs⟩:=QB
      have hv:a.tmps.getD dj undef=.tuple vs:=hv
      rw[hv]at hy
      exact Un h (by simp[Region.wanted,hg,hy]) hr
     ·cases hr
    ·cases hr
   ·cases hr
def aOf:Ex→Exit
 |.norm=>.normal
 |.exit id=>.exit id
 |.ret=>.ret
def aMb (w0:fK)(k:Ex→St→Option α)(r:α)(Q:Exit→Act→World→Prop):Prop:=∀e G' dL a' w',Inv w0 G' dL a' w'→k e dL=some r→Q (aOf e) a' w'
theorem rW (hC:∀f con,C f=some con→RJ P w0 f con)(H:Nat→Option Hint):∀(c:Code) {st:St} {k:Ex→St→Option α} {G:Gh} {a:Act} {w:World} {Q:Exit→Act→World→Prop},
  Inv w0 G st a w→run P C (rQ.Qw N) H c st k=some r→aMb w0 k r Q→c.wp P Q a w
 |.skip,st,k,G,a,w,Q,h,hr,hK=>wp_skip (hK .norm _ _ _ _ h hr)
 |.region id ops aHt,st,k,G,a,w,Q,h,hr,hK=>by
  simp only[run]at hr
  split at hr
  ·rename_i hd
   cases aHt with
   |false=>exact wp_region_list (QK hC ops (fun G' dL a' w' h' lK=>hK .norm _ _ _ _ h' lK) ops.toList h hr)
   |true =>
    have hd:ay7 P C ops=true:=by simpa using hd
    simp only[ay7,aJ]at hd
    obtain⟨⟨hm,hB⟩,hq⟩:=hd
    have hBd:Below w.heap.size w {w with drawn:=w.drawn+1}:=⟨rfl,rfl,rfl,b9 _,fun _ _=>rfl⟩
    exact wp_region_quiet (C:=fun w'=>Below w.heap.size w w') hm hB hBd (aam hC ops (fun G' dL a' w' h' lK=>hK .norm _ _ _ _ h' lK) ops.toList hq h hr)
  ·rename_i hd
   cases aHt with
   |false=>simp at hd
   |true =>
    split at hr
    ·rename_i hm
     simp only[aJ]at hm
     have hBd:Below w.heap.size w {w with drawn:=w.drawn+1}:=⟨rfl,rfl,rfl,b9 _,fun _ _=>rfl⟩
     obtain⟨G2,st2,h2,hn2,hr2⟩:=awz h hr
     exact wp_region_noPanic (wp_region_any hm.1.1 (aqa hC (Q:=NoPanic Q) (fun c a a' w h=>h) hm.1.2 (by rw[hn2];exact hm.2) (fun G' dL a' w' h' lK=>hK .norm _ _ _ _ h' lK) (h2.more hBd) hr2))
    ·cases hr
 |.seq x y,st,k,G,a,w,Q,h,hr,hK=>by
  simp only[run]at hr
  refine wp_seq (rW hC H x h hr fun e G' dL a' w' h' lK=>?_)
  cases e with
  |norm=>exact rW hC H y h' lK hK
  |exit j=>exact hK (.exit j) _ _ _ _ h' lK
  |ret=>exact hK .ret _ _ _ _ h' lK
 |.cond c x y,st,k,G,a,w,Q,h,hr,hK=>by
  simp only[run]at hr
  split at hr
  ·rename_i b hb
   have hv:=atp (h.ac c) hb
   refine wp_cond hv ?_
   rcases abU hr with ⟨hb1,hr⟩|⟨hb1,hr⟩
   ·subst hb1
    exact rW hC H x (h.lit c true hv) hr hK
   ·subst hb1
    exact rW hC H y (h.lit c false hv) hr hK
  ·cases hr
 |.block id x,st,k,G,a,w,Q,h,hr,hK=>by
  simp only[run]at hr
  refine wp_block (rW hC H x h hr fun e G' dL a' w' h' lK=>?_)
  cases e with
  |norm=>exact hK .norm _ _ _ _ h' lK
  |exit j =>
   dsimp only at lK
   show(if j=id then Q .normal a' w' else Q (.exit j) a' w')
   split at lK
   ·rename_i hj
    rw[ak (aN hj)]
    exact hK .norm _ _ _ _ h' lK
   ·rename_i hj
    rw[ah (by rintro rfl;simp at hj)]
    exact hK (.exit j) _ _ _ _ h' lK
  |ret=>exact hK .ret _ _ _ _ h' lK
 |.loop b,st,k,G,a,w,Q,h,hr,hK=>by
  simp only[run]at hr
  obtain⟨G0,h0⟩:=ach (H (rS b)) h
  refine wp_loop_ghost (fun n a w=>∃G st,Inv w0 G st a w∧aHr (fun st k=>run P C (rQ.Qw N) H b st k) (H (rS b)) k n st=some r) N ⟨G0,_,h0,hr⟩ fun n a1 w1 hI=>?_
  obtain⟨G1,tV,h1,hr1⟩:=hI
  cases n with
  |zero=>cases hr1
  |succ n =>
   refine rW hC H b h1 hr1 fun e G' dL a' w' h' lK=>?_
   cases e with
   |norm =>
    obtain⟨G2,h2⟩:=ach (H (rS b)) h'
    exact⟨n,Nat.lt_succ_self n,G2,_,h2,lK⟩
   |exit j =>
    obtain⟨G2,h2⟩:=aci (H (rS b)) (.exit j) h'
    exact hK (.exit j) _ _ _ _ h2 lK
   |ret =>
    obtain⟨G2,h2⟩:=aci (H (rS b)) .ret h'
    exact hK .ret _ _ _ _ h2 lK
 |.exit id,st,k,G,a,w,Q,h,hr,hK=>wp_exit (hK (.exit id) _ _ _ _ h hr)
 |.ret,st,k,G,a,w,Q,h,hr,hK=>wp_ret (hK .ret _ _ _ _ h hr)
 |.label _,_,_,_,_,_,_,_,hr,_=>by cases hr
 |.goto _,_,_,_,_,_,_,_,hr,_=>by cases hr
 |.refuse _,_,_,_,_,_,_,_,hr,_=>by cases hr
 |.rangeFunc _ _ _ _,_,_,_,_,_,_,_,hr,_=>by cases hr
 |.scope _,_,_,_,_,_,_,_,hr,_=>by cases hr
end
end Go.Am
