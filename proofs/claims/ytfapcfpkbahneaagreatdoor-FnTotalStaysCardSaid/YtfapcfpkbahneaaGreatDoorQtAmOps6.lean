/- Lemmas for the claim. No condition. -/
import Derived.Test.YtfapcfpkbahneaaGreatDoorQtAmOps5
import Derived.Lib.AppendStr
set_option linter.all false
namespace Go.Am
open Go.RowKit
section
variable {N:Nat} {P:Program} {w0:fJ} {w:World} {G:Gh} {st:St} {a:Act} {α:Type} {k:St->Option α} {r:α} {K:Act->World->Prop} {Q:Exit->Act->World->Prop} {o:Oper}
theorem Inv.awM {w':World}(h:Inv w0 G st a w)(row:Option Nat)(hg:w.grownBy w' row)
  (gF:∀g,row=some g->∃id,G.own g=some (.bl id)/\look st.bl id=some none)
  (q:List (Nat×Option gp)) (hv':Nat->Value) (nw:Nat->Option Nat)
  (hn:∀g id,nw g=some id->(w.heap.size<=g\/row=some g)):Xr G w (G.grow row q hv' nw) w':=by
 have key:∀b x,b<w.heap.size->G.own b=x->(∀id,x≠some (.bl id))->(G.grow row q hv' nw).own b=x/\w'.heap[b]?=w.heap[b]?:=by
  intro b x hb ho hx;have hne:row≠some b:=by intro e;obtain⟨id,h1,_⟩:=gF b e;exact hx id (ho.symm.trans h1)
  refine⟨?_,hg.block b hb (fun e=>hne e.symm)⟩;unfold Gh.grow;dsimp only;cases hnw:nw b with
  |none=>simp[hne,ho]
  |some id =>
   rcases hn b id hnw with h4|h4
   ·omega
   ·exact absurd h4 hne
 exact⟨rfl,rfl,hg.size,fun b hb ho=>key b _ hb ho (by simp),fun b hb ho=>key b _ hb ho (by simp)⟩
theorem OL {w':World}(h:Inv w0 G st a w)(row:Option Nat)(hg:w.grownBy w' row)(gF:∀g,row=some g->∃id,G.own g=some (.bl id)/\look st.bl id=some none)
  (d:Tmp) (b:gp) (hw:b.w=true) (hp:0<b.t.n) (sv:Value) (cs:List Value) (ho:w'.ownsRow 0 b.e b.t.n sv b.xs.length cs)
  (mq:∀g,sv.ownBlock=some g->w.heap.size<=g\/row=some g) (he:fL w (RO G b.f) b.t cs b.xs)
  (hr:st.row d b k=some r) (hK:rW w0 k r K):K (a.put (some d) sv) w':=by
 unfold St.row at hr;cases hl:look st.bl (d*64) with
 |some x=>rw[hl]at hr;cases hr
 |none =>
  rw[hl]at hr;obtain⟨hc,hr⟩:=aY hr;have awG:∀id,(look [(d*64,some b)] id).isSome=true->id=d*64:=by
   intro id hs;rw[aw]at hs;by_cases hi:d*64=id
   ·exact hi.symm
   ·simp[hi,look]at hs
  have hx:=h.awM row hg gF [(d*64,some b)] (fun _=>sv) (fun g=>if sv.ownBlock=some g then some (d*64) else none) (by
   intro g id hn;split at hn
   ·exact mq g (by assumption)
   ·cases hn)
  obtain⟨hinv,_,hs⟩:=h.grow row hg gF [(d*64,some b)] (fun _=>sv) (fun g=>if sv.ownBlock=some g then some (d*64) else none)
   (fun id hs=>by rw[awG id hs];exact hl)
   (fun g id hn=>by
    split at hn
    ·rename_i hsv;cases hn;refine⟨by simp[aw],hsv,?_,mq g hsv⟩;rcases ho.2 with ⟨rfl,_⟩|⟨g',cap,cur,rfl,_,hh,_⟩
     ·simp[Value.ownBlock]at hsv
     ·have:g'=g:=by simpa [Value.ownBlock]using hsv
      subst this;exact(AS.1 hh).1
    ·cases hn)
   (fun id b' Cq=>by
    have hi:=awG id (by rw[Cq];rfl);subst hi;simp[aw]at Cq;subst Cq;refine⟨fun _=>⟨cs,?_,?_,he.mono hx⟩,(fun hw'=>by rw[hw]at hw';exact Bool.noConfusion hw'),hp⟩
    ·simpa [Gh.grow,aw]using ho
    ·intro g hgo;have hgo:sv.ownBlock=some g:=by simpa [Gh.grow,aw]using hgo
     simp[Gh.grow,hgo])
  have aFr:∃A n cap,sv=.slice A n cap:=by
   rcases ho.2 with ⟨rfl,_⟩|⟨g',cap,cur,rfl,_⟩
   ·exact⟨_,_,_,rfl⟩
   ·exact⟨_,_,_,rfl⟩
  have h2:=hinv.put d (il hc) (v:=.v (.c (.own (d*64) none))) (u:=sv) (by
   refine⟨by simp[dX,aw],?_,?_⟩
   ·simpa [Gh.grow,aw]using aFr
   ·simp[Gh.grow,aw])
  exact hK _ _ _ _ h2 hr
theorem ah5 {ok:Nat->Prop}{e:TypeId}{t:Ty}(hp:0<t.n){ys:List t.D}{A:Option Addr}{m cap:Nat}(h:Rd w ok (.sl e t) ys [.slice A m cap]) :
  m=ys.length/\m<=9223372036854775807/\∃news:List Value,news.length=m*t.n/\fL w ok t news ys/\(∀u∈news,u.oneCell'=true)/\(0<m->∃b o,A=some ⟨b,o,none⟩/\ep w b o news):=by
 obtain⟨A',azJ,he,hc,h63,hr⟩:=h;have he:=(xX he).1;injection he with e1 e2 e3
 subst e1 e2 e3;refine⟨rfl,h63,?_⟩;rcases ar4 ys.length with h0|h0
 ·refine⟨[],by simp[h0],fun j x hj=>?_,by simp,fun h=>by omega⟩;have:=(xV.1 hj).1;omega
 ·obtain⟨b,o,hA,_,_,hcell⟩:=hr h0;have aJd:∀q,q<ys.length*t.n->∃u,w.cell? ⟨b,o+q,none⟩=some u/\u.oneCell'=true:=by
   intro q hq;have hj:q/t.n<ys.length:=by rw[azt hp];exact hq
   obtain⟨c,kt,hcc⟩:=hcell (q/t.n) _ (Bp hj t.aF);have hi:q%t.n<c.length:=by rw[kt.len];exact aaC _ hp
   have hu:=oY hi;refine⟨_,?_,kt.one _ (di hi)⟩;have:=hcc (q%t.n) _ hu;have e:q/t.n*t.n+q%t.n=q:=Nat.div_add_mod' q t.n
   rwa [e]at this
  refine⟨(List.range (ys.length*t.n)).map fun q=>(w.cell? ⟨b,o+q,none⟩).getD undef,by simp,fun j x hj=>?_,fun u hu=>?_,fun _=>⟨b,o,hA,fun q u hu=>?_⟩⟩
  ·obtain⟨c,kt,hcc⟩:=hcell j x hj;refine⟨c,kt,fun i u hu=>?_⟩;have hjl:=(xV.1 hj).1;have hil:=(xV.1 hu).1;rw[kt.len]at hil;have:j*t.n+i<ys.length*t.n:=by have:(j+1)*t.n<=ys.length*t.n:=F4 _ (by omega);rw[Lu,QX]at this;omega
   simp[this,hcc i u hu]
  ·simp only[Lt,jC]at hu;obtain⟨q,hq,rfl⟩:=hu;obtain⟨u,hu,h1⟩:=aJd q hq;rw[hu];exact h1
  ·have hq:q<ys.length*t.n:=by have:=(xV.1 hu).1;simpa using this
   obtain⟨u',hu',_⟩:=aJd q hq;simp[hq,hu']at hu;rw[hu',<-hu]
theorem mr {ok ok':Nat->Prop}(h:∀g,ok g->ok' g){t:Ty}{cs:List Value}{xs:List t.D}(he:fL w ok t cs xs):fL w ok' t cs xs:=by intro j x hj;obtain⟨c,h1,h2⟩:=he j x hj;exact⟨c,jr h h1,h2⟩
theorem alG {ok ok':Nat->Prop}:∀{t:Ty} {x:t.D} {cs:List Value},flat t=true->Rd w ok t x cs->Rd w ok' t x cs
 |.int _,_,_,_,h=>h
 |.bool,_,_,_,h=>h
 |.str,_,_,_,h=>h
 |.unit,_,_,_,h=>h
 |.pair a b,_,_,hf,h=>by obtain⟨c1,c2,rfl,h1,h2⟩:=h;have hf':(flat a&&flat b)=true:=hf;rw[aJ]at hf';exact⟨c1,c2,rfl,alG hf'.1 h1,alG hf'.2 h2⟩
 |.sl _ _,_,_,hf,_=>by cases hf
theorem amt {ok ok':Nat->Prop}{t:Ty}(hf:flat t=true){cs:List Value}{xs:List t.D}(he:fL w ok t cs xs):fL w ok' t cs xs:=by intro j x hj;obtain⟨c,hr,hc⟩:=he j x hj;exact⟨c,alG hf hr,hc⟩
theorem afx {ok:Nat->Prop}{t u:Ty}(h:t=u){xs:List t.D}{cs:List Value}(he:fL w ok t cs xs):fL w ok u cs (YP h xs):=by subst h;exact he
theorem IN {t u:Ty}(h:t=u){xs:List t.D}:(YP h xs).length=xs.length:=by subst h;rfl
theorem afy {ok ok':Nat->Prop}{t:Ty}(h:flat t=false->∀g,ok g->ok' g){cs:List Value}{xs:List t.D}(he:fL w ok t cs xs):fL w ok' t cs xs:=by
 cases hf:flat t with
 |true =>
  intro j x hj;obtain⟨c,h1,h2⟩:=he j x hj;exact⟨c,alG hf h1,h2⟩
 |false=>exact mr (h hf) he
theorem asf {id:Nat}{b:gp}(hb:Ec G w id b){A:Option Addr}{n cap:Nat}(hv:G.hv id=.slice A n cap) :
  n=b.xs.length/\n<=9223372036854775807/\∃news:List Value,news.length=n*b.t.n/\fL w (RO G b.f) b.t news b.xs/\(∀u∈news,u.oneCell'=true)/\(0<n->∃b o,A=some ⟨b,o,none⟩/\ep w b o news):=by
 cases hw:b.w with
 |false =>
  have:=hb.rd hw;rw[hv]at this;exact ah5 hb.pos this
 |true =>
  obtain⟨cs,ho,_,he⟩:=hb.wr hw;obtain⟨hl,hf⟩:=ho;have aaH:∀u∈cs,u.oneCell'=true:=by
   intro u hu;obtain⟨q,hq,rfl⟩:=atB.1 hu;have hp:=hb.pos;have hj:q/b.t.n<b.xs.length:=by rw[azt hp,<-hl];exact hq
   obtain⟨c,kt,hcc⟩:=he (q/b.t.n) _ (Bp hj b.t.aF);have hi:q%b.t.n<c.length:=by rw[kt.len];exact aaC _ hp
   have:=hcc (q%b.t.n) _ (oY hi);rw[Nat.div_add_mod' q b.t.n,oY hq]at this;rw[fQ this];exact kt.one _ (di hi)
  rcases hf with ⟨hn,h0⟩|⟨g,azJ,cur,hn,_,hh,hc,hm,hs,htk⟩
  ·rw[hv]at hn;injection hn with e1 e2 e3
   subst e2;refine⟨h0.symm,by omega,cs,by rw[hl,h0],he,aaH,fun h=>by omega⟩
  ·rw[hv]at hn;injection hn with e1 e2 e3
   subst e2;have:maxLen=9223372036854775807:=rfl;refine⟨rfl,by omega,cs,hl,he,aaH,fun _=>⟨g,0,e1,fun q u hu=>?_⟩⟩;rw[xf,cell_of_row w g q cur b.e (0,0) hh];rw[<-htk,OC]at hu;split at hu
   ·simpa using hu
   ·cases hu
theorem amu {ok:Nat->Prop}{t:Ty}{cs:List Value}{xs:List t.D}(he:fL w ok t cs xs)(m:Nat):fL w ok t (cs.take (m*t.n)) (xs.take m):=by
 intro j x hj;rw[OC]at hj;split at hj
 ·rename_i hjm;obtain⟨c,hr,hc⟩:=he j x hj;refine⟨c,hr,fun i u hu=>?_⟩;have hil:=(xV.1 hu).1;rw[hr.len]at hil;have:(j+1)*t.n<=m*t.n:=F4 _ hjm;rw[Lu,QX]at this;rw[OC,ak (by omega)];exact hc i u hu
 ·cases hj
theorem acF (h:Inv w0 G st a w){u:Ty}(hp:0<u.n){x:AC}{v:Value}(hx:bN G w st.bx st.bl x v){ys:List u.D}{g:Bool}(hn:Xq st u x=some (ys,g)) :
  ∃A cap,v=.slice A ys.length cap/\ys.length<=9223372036854775807/\∃news:List Value,news.length=ys.length*u.n/\fL w (RO G g) u news ys/\(∀z∈news,z.oneCell'=true)/\(0<ys.length->∃b o,A=some ⟨b,o,none⟩/\ep w b o news):=by
 cases x with
 |nil =>
  simp only[Xq]at hn;cases hn;exact⟨none,0,hx,by simp,[],by simp,fun j x hj=>by simp at hj,by simp,fun h=>by simp at h⟩
 |ro f e t ys' =>
  simp only[Xq]at hn;split at hn
  ·rename_i ys0 hd;cases hn;have kt:=kD (ok:=RO G g) h (c:=.ro g e t ys') hx hd (fun _ _ _ hc=>by cases hc) (fun f' e' u' aP2 hc=>by cases hc;exact fun _ h=>h) 0;obtain⟨A,cap,hv,_⟩:=id kt;have hv:=(xX hv).1;rw[hv]at kt;obtain⟨_,h63,news,h1,h2,h3,h4⟩:=ah5 hp kt;exact⟨A,cap,hv,h63,news,h1,h2,h3,h4⟩
  ·cases hn
 |own id len =>
  simp only[Xq]at hn;split at hn
  ·rename_i ys0 b hd hb;cases hn;simp only[de,hb]at hd;split at hd
   ·rename_i hu;cases hd;have hl:=fi hb;have hbo:=h.bl id b hl;have ht:=Ty.beq_eq hu;cases len with
    |none =>
     obtain⟨_,⟨A,n,cap,hv⟩,hve⟩:=hx;obtain⟨hn,h63,news,h1,h2,h3,h4⟩:=asf hbo hv;refine⟨A,cap,?_,?_,news,?_,afx ht h2,h3,?_⟩
     ·rw[hve,hv];simp[I7,IN,hn]
     ·simp[I7,IN];omega
     ·simp[I7,IN,<-ht,h1,hn]
     ·intro h0;simp[I7,IN]at h0;exact h4 (by omega)
    |some m =>
     obtain⟨_,h0,A,n,cap,hv,hmn,rfl⟩:=hx;obtain⟨hn,h63,news,h1,h2,h3,h4⟩:=asf hbo hv;have hlen:(I7 (YP ht b.xs) (some m)).length=m.toNat:=by simp[I7,IN];omega
     rw[hlen];refine⟨A,cap,rfl,by omega,news.take (m.toNat*u.n),?_,?_,fun z hz=>h3 z (al1 hz),fun hm0=>?_⟩
     ·rw[bQ,h1,<-ht];have:m.toNat*b.t.n<=n*b.t.n:=F4 _ (by omega);omega
     ·exact amu (afx ht h2) m.toNat
     ·obtain⟨b',o',hA,hc⟩:=h4 (by omega);exact⟨b',o',hA,hc.take⟩
   ·cases hd
  ·cases hn
 |_=>simp[Xq]at hn
theorem ajD {Lo:Nat}{t ty e:TypeId}{i:TypeInfo}{size:Nat}(ht:P.underlying t=some (.slice e))(hi:P.info? e=some i){v:Value}{n:Nat}{xs:List Value}(bH:w.ownsRow Lo e size v n xs)(c:Nat) :
  (Builtin.append_ #[t,t] ty #[v,.slice none 0 c]).run P w=.ok v w:=by
 rcases bH.2 with ⟨rfl,rfl⟩|⟨g,cap,cur,rfl,_,hh,hc,_⟩
 ·simp[Builtin.append_,run_underlying ht,sizeOf,typeInfo,hi,Builtin.lenOf,Builtin.firstCells]
 ·simp[Builtin.append_,run_underlying ht,sizeOf,typeInfo,hi,Builtin.lenOf,Builtin.firstCells,hc,storeCells]
theorem Q6 (h:Inv w0 G st a w){e:TypeId}{u:Ty}{s:AC}{v:Value}(hs:bN G w st.bx st.bl s v){xs:List u.D}{f:Bool}{ub:St}(ho:Ut st e u s=some (xs,f,ub))(hp:0<u.n) :
  Inv w0 G ub a w/\ub.nt=st.nt/\ub.bx=st.bx/\(∃cs,w.ownsRow 0 e u.n v xs.length cs/\fL w (RO G f) u cs xs)/\(∀g,v.ownBlock=some g->∃id,G.own g=some (.bl id)/\look ub.bl id=some none):=by
 cases s with
 |nil =>
  simp only[Ut]at ho;cases ho;rw[show v=_ from hs];exact⟨h,rfl,rfl,⟨[],World.ownsRow_nil w _ _ _,fun j x hj=>by simp at hj⟩,fun g hg=>by simp[Value.ownBlock]at hg⟩
 |own id len =>
  cases len with
  |some l=>simp[Ut]at ho
  |none =>
   simp only[Ut]at ho;cases hb:st.rS id with
   |none=>rw[hb]at ho;cases ho
   |some b =>
    rw[hb]at ho;dsimp only at ho;split at ho
    ·rename_i hwe;rw[aJ]at hwe;split at ho
     ·rename_i hu;cases ho;have hl:=fi hb;have hbo:=h.bl id b hl;obtain⟨cs,h1,h2,h3⟩:=hbo.wr hwe.1;obtain⟨hk,_⟩:=h.kill id (by rw[hl];rfl);have ht:=Ty.beq_eq hu;have hbe:=aP hwe.2;refine⟨hk,rfl,rfl,⟨cs,?_,afx ht h3⟩,fun g hg=>⟨id,?_,by simp[aw]⟩⟩
      ·rw[hs.2.2,IN,<-hbe,<-ht];exact h1
      ·rw[hs.2.2]at hg;exact h2 g hg
     ·cases ho
    ·cases ho
 |_=>simp[Ut]at ho
theorem Xt {ok:Nat->Prop}{t:Ty}{cs ds:List Value}{xs ys:List t.D}(hl:cs.length=xs.length*t.n)(h1:fL w ok t cs xs)(h2:fL w ok t ds ys):fL w ok t (cs++ds) (xs++ys):=by
 intro j x hj;rw[atA]at hj;split at hj
 ·rename_i hlt;obtain⟨c,hr,hc⟩:=h1 j x hj;refine⟨c,hr,fun i u hu=>?_⟩;have:=hc i u hu;have hq:=(xV.1 this).1;rw[atA,ak hq];exact this
 ·rename_i hge;obtain⟨c,hr,hc⟩:=h2 _ x hj;refine⟨c,hr,fun i u hu=>?_⟩;have:=hc i u hu;have:xs.length*t.n<=j*t.n:=F4 _ (by omega);rw[atA,ah (by omega),hl];have e:j*t.n+i-xs.length*t.n=(j-xs.length)*t.n+i:=by rw[Nat.sub_mul];omega
  rw[e];exact hc i u hu
theorem amv {e:TypeId}{i:TypeInfo}(h:P.info? e=some i):P.bytesOf e=i.bytes/\P.cellsOf e=i.size:=by simp[Program.bytesOf,Program.cellsOf,h]
theorem bytesOf_length (s:ByteArray):(bytesOf s).length=s.size:=by rw[bytesOf,ug,Array.length_toList];rfl
theorem aDu {ok:Nat->Prop}(s:ByteArray):fL w ok (.int .u8) (Lib.strCells s) (bytesOf s):=by
 intro j x hj;refine⟨[.int .u8 x],rfl,fun i u hu=>?_⟩;cases i with
 |succ i=>simp at hu
 |zero =>
  cases hu;simp only[bytesOf,List.getElem?_map]at hj;cases hb:s.data.toList[j]? with
  |none=>rw[hb]at hj;cases hj
  |some b =>
   rw[hb]at hj;cases hj;simp[Lib.strCells,Ty.n,hb]
theorem aqB {Lo:Nat}{t t2 ty e:TypeId}{i:TypeInfo}(hu:P.underlying t=some (.slice e))(hu2:P.underlying t2=some .string)(hi:P.info? e=some i)(hz:i.zero=some (.int .u8 0))(hs1:i.size=1)(hb1:i.bytes=1)
  {v:Value} {n:Nat} {cs:List Value} (bH:w.ownsRow Lo e 1 v n cs) {s:ByteArray} (hle:n+s.size<=140737488355328) {v':Value} {w':World} (hr:(Builtin.append_ #[t,t2] ty #[v,.string s]).run P w=.ok v' w') :
  v'.ownBlock=v.ownBlock\/v'.ownBlock=some w.heap.size:=by
 rcases bH.2 with ⟨rfl,rfl⟩|⟨g,cap,cur,rfl,_,hh,hc,hm,hs,htk⟩
 ·by_cases hm:s.size=0
  ·have hf:=Lib.run_firstCells_string (P:=P) w 1 s;rw[hm]at hf;have:(Builtin.append_ #[t,t2] ty #[.slice none 0 0,.string s]).run P w=.ok (.slice none 0 0) w:=by simp[Builtin.append_,run_underlying hu,run_underlying hu2,sizeOf,typeInfo,hi,hs1,Builtin.lenOf,hm,hf]
   rw[this]at hr;cases hr;exact .inl rfl
  ·have h2:=run_append_nil_string (P:=P) w t t2 ty e i (.int .u8 0) hu hu2 hi hz s (by omega) (by omega) (by rw[hb1];omega);rw[h2]at hr;cases hr;exact .inr rfl
 ·by_cases hroom:n+s.size<=cap
  ·have hcs:cur.size=cap:=by simpa using hs
   have h2:=Lib.run_append_room_string (P:=P) w t t2 ty e i hu hu2 hi hs1 g n cap cur hh s hroom (by omega);rw[h2]at hr;cases hr;exact .inl rfl
  ·have hx:cs.length=n:=by simpa using bH.1
   have holds:∀j u,cs[j]?=some u->w.cell? ((⟨g,0,none⟩:Addr).add j)=some u:=bH.cells (g:=g) rfl;have h2:=Lib.run_append_grow_string (P:=P) w t t2 ty e i (.int .u8 0) hu hu2 hi hz ⟨g,0,none⟩ n cap cs (by rw[hs1];simpa using hx) holds s (by omega) (by omega) (by rw[hb1];exact growslice_fits (by omega) (by omega));rw[h2]at hr;cases hr;exact .inr rfl
theorem at5 (h:Inv w0 G st a w){args:Array Operand}{ts:Array TypeId}(ho:o.op=.call {callee:=.builtin .append,args:=args,argTypes:=ts}){d:Tmp}(UA:o.dst=some d){s x:Operand}(ha:args.toList=[s,x])
  {t t2:TypeId} (hts:ts.toList=[t,t2]) {e:TypeId} (he:D7 P t=some e) {u:Ty} {z:CV} (hz:tR P e=some z)
  (hr:OF P (rT.QY N) st d (st.ac s) (st.ac x) t t2 e u z k=some r) (hK:rW w0 k r K):o.wp P a w K Q:=by
 have hargs:args=#[s,x]:=by rw[<-xW (xs:=args),ha]
 have aFj:ts=#[t,t2]:=by rw[<-xW (xs:=ts),hts]
 subst hargs aFj;have hu:P.underlying t=some (.slice e):=by
  unfold D7 at he;split at he
  ·rename_i e' hu;cases he;exact hu
  ·cases he
 obtain⟨i,zv,hi,hiz,rfl⟩:=jE hz;obtain⟨hby,hsz⟩:=amv hi;have hsr:=h.ac s;have hxr:=h.ac x;unfold OF at hr;split at hr
 ·rename_i xs f ub hold;have Jf:(execOp a.eval o).run P w=((Builtin.append_ #[t,t2] o.type #[a.eval s,a.eval x]).run P w).andThen fun v w'=>.ok (.value v) w':=by unfold execOp;rw[ho];simp[resolve,invoke,builtin]
  split at hr
  ·
   rename_i str aNC;split at hr
   ·rename_i hbt;have ht:=Ty.beq_eq hbt;subst ht;split at hr
    ·rename_i hu2;obtain⟨hc,hr2⟩:=aY hr;simp only[aJ]at hc;obtain⟨⟨⟨hc1,hc2⟩,hc3⟩,hc4⟩:=hc;have hb1:i.bytes=1:=by rw[<-hby];exact aP hc2
     have hs1:i.size=1:=by rw[<-hsz];exact aP hc1
     have hzv:zv=.int .u8 0:=by
      have h1:fh G w st.bx st.bl (Lv zv) zv:=qQ zv;unfold aBI at hc3;split at hc3
      ·rename_i heq;rw[heq]at h1;exact h1
      ·cases hc3
     subst hzv;obtain⟨h1,hnt,hbx,⟨cs,bH,Fg⟩,gF⟩:=Q6 h hsr hold (by simp[Ty.n]);rw[aNC]at hxr;have hxv:a.eval x=.string str:=hxr;have hlen:=uf hc4;have Ed:0<=w.heap.size:=aX _;obtain⟨v',w',hrun,hown',hg,hat⟩:∃v' w',(Builtin.append_ #[t,t2] o.type #[a.eval s,a.eval x]).run P w=.ok v' w'/\w'.ownsRow 0 e 1 v' (xs.length+str.size) (cs++Lib.strCells str)/\w.grownBy w' (a.eval s).ownBlock/\(v'.ownBlock=(a.eval s).ownBlock\/v'.ownBlock=some w.heap.size):=by rw[hxv];have hmax:maxLen=9223372036854775807:=rfl;obtain⟨v',w',h2,h3,h4,_⟩:=Lib.run_append_own_string (P:=P) w 0 t t2 o.type e i hu hu2 hi hiz hs1 hb1 (a.eval s) xs.length cs (by simpa [Ty.n]using bH) str (by omega) (by omega) Ed;refine⟨v',w',h2,h3,h4,?_⟩;exact aqB hu hu2 hi hiz hs1 hb1 (by simpa [Ty.n]using bH) (by omega) h2
     refine Jb (v:=v') (w':=w') (by rw[Jf,hrun];rfl) ?_;rw[UA];have aLG:YP (Ty.beq_eq hbt) xs=xs:=rfl;rw[aLG]at hr2;refine OL h1 (a.eval s).ownBlock hg gF d ⟨e,.int .u8,xs++bytesOf str,f,true⟩ rfl (by simp[Ty.n]) v' (cs++Lib.strCells str) (by simpa [Ty.n,bytesOf_length]using hown') ?_ (Xt (by simpa [Ty.n]using bH.1) Fg (aDu str)) hr2 hK;intro q hq;rcases hat with hat|hat
     ·exact .inr (hat▸hq)
     ·rw[hat]at hq;cases hq;exact .inl (cp _)
    ·cases hr
   ·cases hr
  ·split at hr
   ·rename_i ys g mq;obtain⟨hc,hr2⟩:=aY hr;simp only[aJ]at hc;obtain⟨⟨⟨⟨⟨⟨hc1,hc2⟩,hc3⟩,hc4⟩,hc5⟩,hc6⟩,hc7⟩:=hc;have htt:=aP hc1;subst htt;have hcu:i.size=u.n:=by rw[<-hsz];exact aP hc2
    have hp:0<u.n:=Uo (bI hc5);have hb0:0<i.bytes:=by rw[<-hby];exact Uo (bI hc6)
    have hlen:=uf hc7;rw[hby]at hlen;have hzc:=((qQ (G:=G) (w:=w) (bx:=st.bx) (bl:=st.bl) zv).cells hc4).len;have hzs:zv.cells.size=u.n:=by have:=aP hc3;simp at hzc;omega
    obtain⟨h1,hnt,hbx,⟨cs,bH,Fg⟩,gF⟩:=Q6 h hsr hold hp;obtain⟨A,cap,hxv,h63,news,Ye,hn2,hn3,hn4⟩:=acF h hp hxr mq;have Ed:0<=w.heap.size:=aX _;have aBY:(xs.length+ys.length)*i.bytes<=140737488355328:=by
     have:(((xs.length+ys.length)*i.bytes:Nat):Int)<=140737488355328:=by rw[Int.natCast_mul];exact hlen
     omega
    have hle:xs.length+ys.length<=140737488355328:=cN (atx _ hb0) aBY;have hmax:maxLen=9223372036854775807:=rfl;obtain⟨v',w',hrun,hown',hg,hat⟩:∃v' w',(Builtin.append_ #[t,t] o.type #[a.eval s,a.eval x]).run P w=.ok v' w'/\w'.ownsRow 0 e u.n v' (xs.length+ys.length) (cs++news)/\w.grownBy w' (a.eval s).ownBlock/\(v'.ownBlock=(a.eval s).ownBlock\/v'.ownBlock=some w.heap.size):=by
     rw[hxv];cases A with
     |none =>
      have hy0:ys.length=0:=by
       rcases ar4 ys.length with h|h
       ·exact h
       ·obtain⟨b,o',hA,_⟩:=hn4 h;cases hA
      have hnews:news=[]:=YK (by rw[Ye,hy0,al8]);subst hnews;rw[hy0];exact⟨_,w,ajD hu hi bH cap,by simpa using bH,⟨rfl,rfl,rfl,cp _,fun _ _ _=>rfl⟩,.inl rfl⟩
     |some ad =>
      obtain⟨v',w',hrun,h2,h3,_,h5⟩:=run_append_own_at (P:=P) w 0 t o.type e i zv u.n i.bytes hu hi hiz hcu rfl hzs hp (a.eval s) xs.length cs bH ad ys.length cap news Ye (fun j uu hj=>by
       have h0:0<ys.length:=by
        rcases ar4 ys.length with h|h
        ·have:=(xV.1 hj).1;rw[Ye,h,al8]at this;omega
        ·exact h
       obtain⟨b,o',hA,hcell⟩:=hn4 h0;cases hA;rw[UE];exact hcell j uu hj) hn3 (by omega) aBY Ed
      exact⟨v',w',hrun,h2,h3,h5⟩
    refine Jb (v:=v') (w':=w') (by rw[Jf,hrun];rfl) ?_;rw[UA];have aFv:∀q,RO G f q->RO G (f&&(g || flat u)) q:=fun q hq=>hq.Ea fun hh=>by rw[aJ]at hh;exact hh.1
    have hnR:fL w (RO G (f&&(g || flat u))) u news ys:=by
     cases UF:flat u with
     |true=>exact amt UF hn2
     |false=>exact mr (fun q hq=>hq.Ea fun hh=>by simp at hh;exact hh.2) hn2
    refine OL h1 (a.eval s).ownBlock hg gF d ⟨e,u,xs++ys,f&&(g || flat u),true⟩ rfl hp v' (cs++news) (by simpa using hown') ?_ (Xt bH.1 (mr aFv Fg) hnR) hr2 hK;intro q hq;rcases hat with hat|hat
    ·exact .inr (hat▸hq)
    ·rw[hat]at hq;cases hq;exact .inl (cp _)
   ·cases hr
 ·cases hr
theorem azR (h:Inv w0 G st a w){args:Array Operand}{ts:Array TypeId}(ho:o.op=.call {callee:=.builtin .append,args:=args,argTypes:=ts}){s x:Operand}(ha:args.toList=[s,x])
  {t:TypeId} (hts:ts.toList=[t,t]) {e:TypeId} (he:D7 P t=some e) {u:Ty} {z:CV} (hz:tR P e=some z) {d:Tmp} {g0:Nat} (hs0:a.eval s=.slice (some ⟨g0,0,none⟩) 0 0)
  (hr:OF P (rT.QY N) st d (st.ac s) (st.ac x) t t e u z k=some r):∃v w',(execOp a.eval o).run P w=.ok (.value v) w'/\Below w.heap.size w w':=by
 have hargs:args=#[s,x]:=by rw[<-xW (xs:=args),ha]
 have aFj:ts=#[t,t]:=by rw[<-xW (xs:=ts),hts]
 subst hargs aFj;have hu:P.underlying t=some (.slice e):=by
  unfold D7 at he;split at he
  ·rename_i e' hu;cases he;exact hu
  ·cases he
 obtain⟨i,zv,hi,hiz,rfl⟩:=jE hz;obtain⟨hby,hsz⟩:=amv hi;have hsr:=h.ac s;have hxr:=h.ac x;unfold OF at hr;split at hr
 ·rename_i xs f ub hold;have Jf:(execOp a.eval o).run P w=((Builtin.append_ #[t,t] o.type #[a.eval s,a.eval x]).run P w).andThen fun v w'=>.ok (.value v) w':=by unfold execOp;rw[ho];simp[resolve,invoke,builtin]
  split at hr
  ·
   split at hr
   ·split at hr
    ·rename_i hu2;rw[hu]at hu2;cases hu2
    ·cases hr
   ·cases hr
  ·split at hr
   ·rename_i ys g mq;obtain⟨hc,_⟩:=aY hr;simp only[aJ]at hc;obtain⟨⟨⟨⟨⟨⟨_,hc2⟩,hc3⟩,hc4⟩,hc5⟩,hc6⟩,hc7⟩:=hc;have hcu:i.size=u.n:=by rw[<-hsz];exact aP hc2
    have hp:0<u.n:=Uo (bI hc5);have hb0:0<i.bytes:=by rw[<-hby];exact Uo (bI hc6)
    have hlen:=uf hc7;rw[hby]at hlen;have aBY:(xs.length+ys.length)*i.bytes<=140737488355328:=by
     have:(((xs.length+ys.length)*i.bytes:Nat):Int)<=140737488355328:=by rw[Int.natCast_mul];exact hlen
     omega
    have hyb:ys.length*i.bytes<=140737488355328:=cN (F4 _ (Nat.le_add_left _ _)) aBY;have hle:ys.length<=140737488355328:=cN (atx _ hb0) hyb;obtain⟨A,cap,hxv,h63,news,Ye,hn2,hn3,hn4⟩:=acF h hp hxr mq;rw[hs0,hxv]at Jf;rcases ar4 ys.length with h0|h0
    ·rw[h0]at Jf;cases A with
     |none =>
      have:(Builtin.append_ #[t,t] o.type #[.slice (some ⟨g0,0,none⟩) 0 0,.slice none 0 cap]).run P w=.ok (.slice (some ⟨g0,0,none⟩) 0 0) w:=by simp[Builtin.append_,run_underlying hu,sizeOf,typeInfo,hi,Builtin.lenOf,Builtin.firstCells,storeCells]
      exact⟨_,w,by rw[Jf,this];rfl,Below.refl _ w⟩
     |some ad =>
      have hf:=run_firstCells_some (P:=P) w i.size 0 ad 0 cap [] (by simp) (fun j v hj=>by simp at hj);have:(Builtin.append_ #[t,t] o.type #[.slice (some ⟨g0,0,none⟩) 0 0,.slice (some ad) 0 cap]).run P w=.ok (.slice (some ⟨g0,0,none⟩) 0 0) w:=by simp[Builtin.append_,run_underlying hu,sizeOf,typeInfo,hi,Builtin.lenOf,hf,storeCells]
      exact⟨_,w,by rw[Jf,this];rfl,Below.refl _ w⟩
    ·obtain⟨b,o',rfl,hcell⟩:=hn4 h0;have hmax:maxLen=9223372036854775807:=rfl;have hrun:=run_append_grow (P:=P) w t o.type e i zv hu hi hiz ⟨g0,0,none⟩ 0 0 [] (by simp) (fun j v hj=>by simp at hj) ⟨b,o',none⟩ ys.length cap news (by rw[hcu];exact Ye) (fun j uu hj=>by rw[UE];exact hcell j uu hj) (by omega) (by omega) (growslice_fits (by omega) (by simpa using hyb))
     rw[hrun]at Jf;exact⟨_,_,Jf,⟨rfl,rfl,rfl,by simp,fun k hk=>heap_alloc_old w.drew _ hk⟩⟩
   ·cases hr
 ·cases hr
end
end Go.Am
