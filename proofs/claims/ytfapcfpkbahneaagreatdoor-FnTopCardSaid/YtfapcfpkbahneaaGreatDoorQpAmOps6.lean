/- No condition. -/
import Derived.Test.YtfapcfpkbahneaaGreatDoorQpAmOps5
import Derived.Lib.AppendStr
set_option linter.all false
namespace Go.Am
open Go.RowKit
section
variable {N:Nat} {P:Program} {w0:fR} {w:World} {G:Gh} {st:St} {a:Act} {U:Type} {k:St->Option U} {r:U} {K:Act->World->Prop} {Q:Exit->Act->World->Prop} {o:Oper}
def Inv.ax3 {w':World}(h:Inv w0 G st a w)(row:Option Nat)(hg:w.grownBy w' row)
  (gO:∀g,row=some g->∃id,G.own g=some (.bl id)/\look st.bl id=some none)
  (q:List (Nat×Option gB)) (hv':Nat->Value) (nw:Nat->Option Nat)
  (hn:∀g id,nw g=some id->(w.heap.size<=g\/row=some g)):X1 G w (G.grow row q hv' nw) w':=by
 have key:∀b x,b<w.heap.size->G.own b=x->(∀id,x≠some (.bl id))->(G.grow row q hv' nw).own b=x/\w'.heap[b]?=w.heap[b]?:=by
  intro b x hb ho hx;have hne:row≠some b:=by intro e;obtain⟨id,h1,_⟩:=gO b e;exact hx id (ho.symm.trans h1)
  refine⟨?_,hg.block b hb (fun e=>hne e.symm)⟩;unfold Gh.grow;dsimp only;cases hnw:nw b with
  |none=>simp[hne,ho]
  |some id =>
   rcases hn b id hnw with h4|h4
   .omega
   .exact absurd h4 hne
 exact⟨rfl,rfl,hg.size,fun b hb ho=>key b _ hb ho (by simp),fun b hb ho=>key b _ hb ho (by simp)⟩
def OY {w':World}(h:Inv w0 G st a w)(row:Option Nat)(hg:w.grownBy w' row)(gO:∀g,row=some g->∃id,G.own g=some (.bl id)/\look st.bl id=some none)
  (d:Tmp) (b:gB) (hw:b.w=true) (hp:0<b.t.n) (sv:Value) (cs:List Value) (ho:w'.ownsRow 0 b.e b.t.n sv b.xs.length cs)
  (mD:∀g,sv.ownBlock=some g->w.heap.size<=g\/row=some g) (he:fU w (RO G b.f) b.t cs b.xs)
  (hr:st.row d b k=some r) (hK:sg w0 k r K):K (a.put (some d) sv) w':=by
 unfold St.row at hr;cases hl:look st.bl (d*64) with
 |some x=>rw[hl]at hr;cases hr
 |none =>
  rw[hl]at hr;obtain⟨hc,hr⟩:=aY hr;have axX:∀id,(look [(d*64,some b)] id).isSome=true->id=d*64:=by
   intro id hs;rw[aw]at hs;by_cases hi:d*64=id
   .exact hi.symm
   .simp[hi,look]at hs
  have hx:=h.ax3 row hg gO [(d*64,some b)] (fun _=>sv) (fun g=>if sv.ownBlock=some g then some (d*64) else none) (by
   intro g id hn;split at hn
   .exact mD g ‹_›
   .cases hn)
  obtain⟨hinv,_,hs⟩:=h.grow row hg gO [(d*64,some b)] (fun _=>sv) (fun g=>if sv.ownBlock=some g then some (d*64) else none)
   (fun id hs=>by rw[axX id hs];exact hl)
   (fun g id hn=>by
    split at hn
    .rename_i hsv;cases hn;refine⟨by simp[aw],hsv,?_,mD g hsv⟩;rcases ho.2 with ⟨rfl,_⟩|⟨g',cap,cur,rfl,_,hh,_⟩
     .simp[Value.ownBlock]at hsv
     .have:g'=g:=by simpa [Value.ownBlock]using hsv
      subst this;exact(Bj.1 hh).1
    .cases hn)
   (fun id b' CL=>by
    have hi:=axX id (by rw[CL];rfl);subst hi;simp[aw]at CL;subst CL;refine⟨fun _=>⟨cs,?_,?_,he.mono hx⟩,(fun hw'=>by rw[hw]at hw';exact Bool.noConfusion hw'),hp⟩
    .simpa [Gh.grow,aw]using ho
    .intro g hgo;have hgo:sv.ownBlock=some g:=by simpa [Gh.grow,aw]using hgo
     simp[Gh.grow,hgo])
  have aG5:∃A n cap,sv=.slice A n cap:=by
   rcases ho.2 with ⟨rfl,_⟩|⟨g',cap,cur,rfl,_⟩
   .exact⟨_,_,_,rfl⟩
   .exact⟨_,_,_,rfl⟩
  have h2:=hinv.put d (iD hc) (v:=.v (.c (.own (d*64) none))) (u:=sv) (by
   refine⟨by simp[eo,aw],?_,?_⟩
   .simpa [Gh.grow,aw]using aG5
   .simp[Gh.grow,aw])
  exact hK _ _ _ _ h2 hr
def aiE {ok:Nat->Prop}{e:TypeId}{t:Ty}(hp:0<t.n){ys:List t.D}{A:Option Addr}{m cap:Nat}(h:Rd w ok (.sl e t) ys [.slice A m cap]) :
  m=ys.length/\m<=9223372036854775807/\∃news:List Value,news.length=m*t.n/\fU w ok t news ys/\(∀u∈news,u.oneCell'=true)/\(0<m->∃b o,A=some ⟨b,o,none⟩/\eG w b o news):=by
 obtain⟨A',aBc,he,hc,h63,hr⟩:=h;have he:=(uE he).1;injection he with e1 e2 e3
 subst e1 e2 e3;refine⟨rfl,h63,?_⟩;rcases amD ys.length with h0|h0
 .refine⟨[],by simp[h0],fun j x hj=>?_,by simp,fun h=>by omega⟩;have:=(xJ.1 hj).1;omega
 .obtain⟨b,o,hA,_,_,hcell⟩:=hr h0;have aLe:∀q,q<ys.length*t.n->∃u,w.cell? ⟨b,o+q,none⟩=some u/\u.oneCell'=true:=by
   intro q hq;have hj:q/t.n<ys.length:=by rw[aAV hp];exact hq
   obtain⟨c,kz,hcc⟩:=hcell (q/t.n) _ (BG hj t.aG);have hi:q%t.n<c.length:=by rw[kz.len];exact aa0 _ hp
   have hu:=pc hi;refine⟨_,?_,kz.one _ (cX hi)⟩;have:=hcc (q%t.n) _ hu;have e:q/t.n*t.n+q%t.n=q:=Nat.div_add_mod' q t.n
   rwa [e]at this
  refine⟨(List.range (ys.length*t.n)).map fun q=>(w.cell? ⟨b,o+q,none⟩).getD undef,by simp,fun j x hj=>?_,fun u hu=>?_,fun _=>⟨b,o,hA,fun q u hu=>?_⟩⟩
  .obtain⟨c,kz,hcc⟩:=hcell j x hj;refine⟨c,kz,fun i u hu=>?_⟩;have hjl:=(xJ.1 hj).1;have hil:=(xJ.1 hu).1;rw[kz.len]at hil;have:j*t.n+i<ys.length*t.n:=by have:(j+1)*t.n<=ys.length*t.n:=Gs _ (by omega);rw[LP,Rl]at this;omega
   simp[this,hcc i u hu]
  .simp only[Jr,kb]at hu;obtain⟨q,hq,rfl⟩:=hu;obtain⟨u,hu,h1⟩:=aLe q hq;rw[hu];exact h1
  .have hq:q<ys.length*t.n:=by have:=(xJ.1 hu).1;simpa using this
   obtain⟨u',hu',_⟩:=aLe q hq;simp[hq,hu']at hu;rw[hu',<-hu]
def mE {ok ok':Nat->Prop}(h:∀g,ok g->ok' g){t:Ty}{cs:List Value}{xs:List t.D}(he:fU w ok t cs xs):fU w ok' t cs xs:=by intro j x hj;obtain⟨c,h1,h2⟩:=he j x hj;exact⟨c,jE h h1,h2⟩
def amf {ok ok':Nat->Prop}:∀{t:Ty} {x:t.D} {cs:List Value},flat t=true->Rd w ok t x cs->Rd w ok' t x cs
 |.int _,_,_,_,h=>h|.bool,_,_,_,h=>h|.str,_,_,_,h=>h|.unit,_,_,_,h=>h|.pair a b,_,_,hf,h=>by obtain⟨c1,c2,rfl,h1,h2⟩:=h;have hf':(flat a&&flat b)=true:=hf;rw[aI]at hf';exact⟨c1,c2,rfl,amf hf'.1 h1,amf hf'.2 h2⟩
 |.sl _ _,_,_,hf,_=>by cases hf
def anf {ok ok':Nat->Prop}{t:Ty}(hf:flat t=true){cs:List Value}{xs:List t.D}(he:fU w ok t cs xs):fU w ok' t cs xs:=by intro j x hj;obtain⟨c,hr,hc⟩:=he j x hj;exact⟨c,amf hf hr,hc⟩
def afZ {ok:Nat->Prop}{t u:Ty}(h:t=u){xs:List t.D}{cs:List Value}(he:fU w ok t cs xs):fU w ok u cs (Ze h xs):=by subst h;exact he
def I7 {t u:Ty}(h:t=u){xs:List t.D}:(Ze h xs).length=xs.length:=by subst h;rfl
def af0 {ok ok':Nat->Prop}{t:Ty}(h:flat t=false->∀g,ok g->ok' g){cs:List Value}{xs:List t.D}(he:fU w ok t cs xs):fU w ok' t cs xs:=by
 cases hf:flat t with
 |true =>
  intro j x hj;obtain⟨c,h1,h2⟩:=he j x hj;exact⟨c,amf hf h1,h2⟩
 |false=>exact mE (h hf) he
def atj {id:Nat}{b:gB}(hb:EA G w id b){A:Option Addr}{n cap:Nat}(hv:G.hv id=.slice A n cap) :
  n=b.xs.length/\n<=9223372036854775807/\∃news:List Value,news.length=n*b.t.n/\fU w (RO G b.f) b.t news b.xs/\(∀u∈news,u.oneCell'=true)/\(0<n->∃b o,A=some ⟨b,o,none⟩/\eG w b o news):=by
 cases hw:b.w with
 |false =>
  have:=hb.rd hw;rw[hv]at this;exact aiE hb.pos this
 |true =>
  obtain⟨cs,ho,_,he⟩:=hb.wr hw;obtain⟨hl,hf⟩:=ho;have aa5:∀u∈cs,u.oneCell'=true:=by
   intro u hu;obtain⟨q,hq,rfl⟩:=auR.1 hu;have hp:=hb.pos;have hj:q/b.t.n<b.xs.length:=by rw[aAV hp,<-hl];exact hq
   obtain⟨c,kz,hcc⟩:=he (q/b.t.n) _ (BG hj b.t.aG);have hi:q%b.t.n<c.length:=by rw[kz.len];exact aa0 _ hp
   have:=hcc (q%b.t.n) _ (pc hi);rw[Nat.div_add_mod' q b.t.n,pc hq]at this;rw[fJ this];exact kz.one _ (cX hi)
  rcases hf with ⟨hn,h0⟩|⟨g,aBc,cur,hn,_,hh,hc,hm,hs,htk⟩
  .rw[hv]at hn;injection hn with e1 e2 e3
   subst e2;refine⟨h0.symm,by omega,cs,by rw[hl,h0],he,aa5,fun h=>by omega⟩
  .rw[hv]at hn;injection hn with e1 e2 e3
   subst e2;have:maxLen=9223372036854775807:=rfl;refine⟨rfl,by omega,cs,hl,he,aa5,fun _=>⟨g,0,e1,fun q u hu=>?_⟩⟩;rw[xK,cell_of_row w g q cur b.e (0,0) hh];rw[<-htk,OQ]at hu;split at hu
   .simpa using hu
   .cases hu
def ang {ok:Nat->Prop}{t:Ty}{cs:List Value}{xs:List t.D}(he:fU w ok t cs xs)(m:Nat):fU w ok t (cs.take (m*t.n)) (xs.take m):=by
 intro j x hj;rw[OQ]at hj;split at hj
 .rename_i hjm;obtain⟨c,hr,hc⟩:=he j x hj;refine⟨c,hr,fun i u hu=>?_⟩;have hil:=(xJ.1 hu).1;rw[hr.len]at hil;have:(j+1)*t.n<=m*t.n:=Gs _ hjm;rw[LP,Rl]at this;rw[OQ,ai (by omega)];exact hc i u hu
 .cases hj
def ac4 (h:Inv w0 G st a w){u:Ty}(hp:0<u.n){x:AC}{v:Value}(hx:bS G w st.bx st.bl x v){ys:List u.D}{g:Bool}(hn:X0 st u x=some (ys,g)) :
  ∃A cap,v=.slice A ys.length cap/\ys.length<=9223372036854775807/\∃news:List Value,news.length=ys.length*u.n/\fU w (RO G g) u news ys/\(∀z∈news,z.oneCell'=true)/\(0<ys.length->∃b o,A=some ⟨b,o,none⟩/\eG w b o news):=by
 cases x with
 |nil =>
  simp only[X0]at hn;cases hn;exact⟨none,0,hx,by simp,[],by simp,fun j x hj=>by simp at hj,by simp,fun h=>by simp at h⟩
 |ro f e t ys' =>
  simp only[X0]at hn;split at hn
  .rename_i ys0 hd;cases hn;have kz:=kL (ok:=RO G g) h (c:=.ro g e t ys') hx hd (fun _ _ _ hc=>by cases hc) (fun f' e' u' aR9 hc=>by cases hc;exact fun _ h=>h) 0;obtain⟨A,cap,hv,_⟩:=id kz;have hv:=(uE hv).1;rw[hv]at kz;obtain⟨_,h63,news,h1,h2,h3,h4⟩:=aiE hp kz;exact⟨A,cap,hv,h63,news,h1,h2,h3,h4⟩
  .cases hn
 |own id len =>
  simp only[X0]at hn;split at hn
  .rename_i ys0 b hd hb;cases hn;simp only[dm,hb]at hd;split at hd
   .rename_i hu;cases hd;have hl:=fw hb;have hbo:=h.bl id b hl;have ht:=Ty.beq_eq hu;cases len with
    |none =>
     obtain⟨_,⟨A,n,cap,hv⟩,hve⟩:=hx;obtain⟨hn,h63,news,h1,h2,h3,h4⟩:=atj hbo hv;refine⟨A,cap,?_,?_,news,?_,afZ ht h2,h3,?_⟩
     .rw[hve,hv];simp[Js,I7,hn]
     .simp[Js,I7];omega
     .simp[Js,I7,<-ht,h1,hn]
     .intro h0;simp[Js,I7]at h0;exact h4 (by omega)
    |some m =>
     obtain⟨_,h0,A,n,cap,hv,hmn,rfl⟩:=hx;obtain⟨hn,h63,news,h1,h2,h3,h4⟩:=atj hbo hv;have hlen:(Js (Ze ht b.xs) (some m)).length=m.toNat:=by simp[Js,I7];omega
     rw[hlen];refine⟨A,cap,rfl,by omega,news.take (m.toNat*u.n),?_,?_,fun z hz=>h3 z (Zb hz),fun hm0=>?_⟩
     .rw[bV,h1,<-ht];have:m.toNat*b.t.n<=n*b.t.n:=Gs _ (by omega);omega
     .exact ang (afZ ht h2) m.toNat
     .obtain⟨b',o',hA,hc⟩:=h4 (by omega);exact⟨b',o',hA,hc.take⟩
   .cases hd
  .cases hn
 |_=>simp[X0]at hn
def akd {LJ:Nat}{t ty e:TypeId}{i:TypeInfo}{size:Nat}(ht:P.underlying t=some (.slice e))(hi:P.info? e=some i){v:Value}{n:Nat}{xs:List Value}(bK:w.ownsRow LJ e size v n xs)(c:Nat) :
  (Builtin.append_ #[t,t] ty #[v,.slice none 0 c]).run P w=.ok v w:=by
 rcases bK.2 with ⟨rfl,rfl⟩|⟨g,cap,cur,rfl,_,hh,hc,_⟩
 .simp[Builtin.append_,run_underlying ht,sizeOf,typeInfo,hi,Builtin.lenOf,Builtin.firstCells]
 .simp[Builtin.append_,run_underlying ht,sizeOf,typeInfo,hi,Builtin.lenOf,Builtin.firstCells,hc,storeCells]
def Rv (h:Inv w0 G st a w){e:TypeId}{u:Ty}{s:AC}{v:Value}(hs:bS G w st.bx st.bl s v){xs:List u.D}{f:Bool}{uB:St}(ho:U3 st e u s=some (xs,f,uB))(hp:0<u.n) :
  Inv w0 G uB a w/\uB.nt=st.nt/\uB.bx=st.bx/\(∃cs,w.ownsRow 0 e u.n v xs.length cs/\fU w (RO G f) u cs xs)/\(∀g,v.ownBlock=some g->∃id,G.own g=some (.bl id)/\look uB.bl id=some none):=by
 cases s with
 |nil =>
  simp only[U3]at ho;cases ho;rw[show v=_ from hs];exact⟨h,rfl,rfl,⟨[],World.ownsRow_nil w _ _ _,fun j x hj=>by simp at hj⟩,fun g hg=>by simp[Value.ownBlock]at hg⟩
 |own id len =>
  cases len with
  |some l=>simp[U3]at ho
  |none =>
   simp only[U3]at ho;cases hb:st.rZ id with
   |none=>rw[hb]at ho;cases ho
   |some b =>
    rw[hb]at ho;dsimp only at ho;split at ho
    .rename_i hwe;rw[aI]at hwe;split at ho
     .rename_i hu;cases ho;have hl:=fw hb;have hbo:=h.bl id b hl;obtain⟨cs,h1,h2,h3⟩:=hbo.wr hwe.1;obtain⟨hk,_⟩:=h.kill id (by rw[hl];rfl);have ht:=Ty.beq_eq hu;have hbe:=aP hwe.2;refine⟨hk,rfl,rfl,⟨cs,?_,afZ ht h3⟩,fun g hg=>⟨id,?_,by simp[aw]⟩⟩
      .rw[hs.2.2,I7,<-hbe,<-ht];exact h1
      .rw[hs.2.2]at hg;exact h2 g hg
     .cases ho
    .cases ho
 |_=>simp[U3]at ho
def X3 {ok:Nat->Prop}{t:Ty}{cs ds:List Value}{xs ys:List t.D}(hl:cs.length=xs.length*t.n)(h1:fU w ok t cs xs)(h2:fU w ok t ds ys):fU w ok t (cs++ds) (xs++ys):=by
 intro j x hj;rw[auQ]at hj;split at hj
 .rename_i hlt;obtain⟨c,hr,hc⟩:=h1 j x hj;refine⟨c,hr,fun i u hu=>?_⟩;have:=hc i u hu;have hq:=(xJ.1 this).1;rw[auQ,ai hq];exact this
 .rename_i hge;obtain⟨c,hr,hc⟩:=h2 _ x hj;refine⟨c,hr,fun i u hu=>?_⟩;have:=hc i u hu;have:xs.length*t.n<=j*t.n:=Gs _ (by omega);rw[auQ,ah (by omega),hl];have e:j*t.n+i-xs.length*t.n=(j-xs.length)*t.n+i:=by rw[Nat.sub_mul];omega
  rw[e];exact hc i u hu
def anh {e:TypeId}{i:TypeInfo}(h:P.info? e=some i):P.bytesOf e=i.bytes/\P.cellsOf e=i.size:=by simp[Program.bytesOf,Program.cellsOf,h]
def bytesOf_length (s:ByteArray):(bytesOf s).length=s.size:=by rw[bytesOf,qV,Array.length_toList];rfl
def aE4 {ok:Nat->Prop}(s:ByteArray):fU w ok (.int .u8) (Lib.strCells s) (bytesOf s):=by
 intro j x hj;refine⟨[.int .u8 x],rfl,fun i u hu=>?_⟩;cases i with
 |succ i=>simp at hu
 |zero =>
  cases hu;simp only[bytesOf,auU]at hj;cases hb:s.data.toList[j]? with
  |none=>rw[hb]at hj;cases hj
  |some b =>
   rw[hb]at hj;cases hj;simp[Lib.strCells,Ty.n,hb]
def arJ {LJ:Nat}{t t2 ty e:TypeId}{i:TypeInfo}(hu:P.underlying t=some (.slice e))(hu2:P.underlying t2=some .string)(hi:P.info? e=some i)(hz:i.zero=some (.int .u8 0))(hs1:i.size=1)(hb1:i.bytes=1)
  {v:Value} {n:Nat} {cs:List Value} (bK:w.ownsRow LJ e 1 v n cs) {s:ByteArray} (hle:n+s.size<=140737488355328) {v':Value} {w':World} (hr:(Builtin.append_ #[t,t2] ty #[v,.string s]).run P w=.ok v' w') :
  v'.ownBlock=v.ownBlock\/v'.ownBlock=some w.heap.size:=by
 rcases bK.2 with ⟨rfl,rfl⟩|⟨g,cap,cur,rfl,_,hh,hc,hm,hs,htk⟩
 .by_cases hm:s.size=0
  .have hf:=Lib.run_firstCells_string (P:=P) w 1 s;rw[hm]at hf;have:(Builtin.append_ #[t,t2] ty #[.slice none 0 0,.string s]).run P w=.ok (.slice none 0 0) w:=by simp[Builtin.append_,run_underlying hu,run_underlying hu2,sizeOf,typeInfo,hi,hs1,Builtin.lenOf,hm,hf]
   rw[this]at hr;cases hr;exact .inl rfl
  .have h2:=run_append_nil_string (P:=P) w t t2 ty e i (.int .u8 0) hu hu2 hi hz s (by omega) (by omega) (by rw[hb1];omega);rw[h2]at hr;cases hr;exact .inr rfl
 .by_cases hroom:n+s.size<=cap
  .have hcs:cur.size=cap:=by simpa using hs
   have h2:=Lib.run_append_room_string (P:=P) w t t2 ty e i hu hu2 hi hs1 g n cap cur hh s hroom (by omega);rw[h2]at hr;cases hr;exact .inl rfl
  .have hx:cs.length=n:=by simpa using bK.1
   have holds:∀j u,cs[j]?=some u->w.cell? ((⟨g,0,none⟩:Addr).add j)=some u:=bK.cells (g:=g) rfl;have h2:=Lib.run_append_grow_string (P:=P) w t t2 ty e i (.int .u8 0) hu hu2 hi hz ⟨g,0,none⟩ n cap cs (by rw[hs1];simpa using hx) holds s (by omega) (by omega) (by rw[hb1];exact growslice_fits (by omega) (by omega));rw[h2]at hr;cases hr;exact .inr rfl
def avl (h:Inv w0 G st a w){args:Array Operand}{ts:Array TypeId}(ho:o.op=.call {callee:=.builtin .append,args:=args,argTypes:=ts}){d:Tmp}(Va:o.dst=some d){s x:Operand}(ha:args.toList=[s,x])
  {t t2:TypeId} (hts:ts.toList=[t,t2]) {e:TypeId} (he:Ey P t=some e) {u:Ty} {z:CV} (hz:uh P e=some z)
  (hr:OS P (sd.Rm N) st d (st.ac s) (st.ac x) t t2 e u z k=some r) (hK:sg w0 k r K):o.wp P a w K Q:=by
 have hargs:args=#[s,x]:=by rw[<-yr (xs:=args),ha]
 have aGW:ts=#[t,t2]:=by rw[<-yr (xs:=ts),hts]
 subst hargs aGW;have hu:P.underlying t=some (.slice e):=by
  unfold Ey at he;split at he
  .rename_i e' hu;cases he;exact hu
  .cases he
 obtain⟨i,zv,hi,hiz,rfl⟩:=jQ hz;obtain⟨hby,hsz⟩:=anh hi;have hsr:=h.ac s;have hxr:=h.ac x;unfold OS at hr;split at hr
 .rename_i xs f uB hold;have JA:(execOp a.eval o).run P w=((Builtin.append_ #[t,t2] o.type #[a.eval s,a.eval x]).run P w).andThen fun v w'=>.ok (.value v) w':=by unfold execOp;rw[ho];simp[resolve,invoke,builtin]
  split at hr
  ·
   rename_i str aPK;split at hr
   .rename_i hbt;have ht:=Ty.beq_eq hbt;subst ht;split at hr
    .rename_i hu2;obtain⟨hc,hr2⟩:=aY hr;simp only[aI]at hc;obtain⟨⟨⟨hc1,hc2⟩,hc3⟩,hc4⟩:=hc;have hb1:i.bytes=1:=by rw[<-hby];exact aP hc2
     have hs1:i.size=1:=by rw[<-hsz];exact aP hc1
     have hzv:zv=.int .u8 0:=by
      have h1:fv G w st.bx st.bl (LQ zv) zv:=qY zv;unfold aDa at hc3;split at hc3
      .rename_i heq;rw[heq]at h1;exact h1
      .cases hc3
     subst hzv;obtain⟨h1,hnt,hbx,⟨cs,bK,FA⟩,gO⟩:=Rv h hsr hold (by simp[Ty.n]);rw[aPK]at hxr;have hxv:a.eval x=.string str:=hxr;have hlen:=nW hc4;have EB:0<=w.heap.size:=aT _;obtain⟨v',w',hrun,hown',hg,hat⟩:∃v' w',(Builtin.append_ #[t,t2] o.type #[a.eval s,a.eval x]).run P w=.ok v' w'/\w'.ownsRow 0 e 1 v' (xs.length+str.size) (cs++Lib.strCells str)/\w.grownBy w' (a.eval s).ownBlock/\(v'.ownBlock=(a.eval s).ownBlock\/v'.ownBlock=some w.heap.size):=by rw[hxv];have hmax:maxLen=9223372036854775807:=rfl;obtain⟨v',w',h2,h3,h4,_⟩:=Lib.run_append_own_string (P:=P) w 0 t t2 o.type e i hu hu2 hi hiz hs1 hb1 (a.eval s) xs.length cs (by simpa [Ty.n]using bK) str (by omega) (by omega) EB;refine⟨v',w',h2,h3,h4,?_⟩;exact arJ hu hu2 hi hiz hs1 hb1 (by simpa [Ty.n]using bK) (by omega) h2
     refine Jw (v:=v') (w':=w') (by rw[JA,hrun];rfl) ?_;rw[Va];have aNM:Ze (Ty.beq_eq hbt) xs=xs:=rfl;rw[aNM]at hr2;refine OY h1 (a.eval s).ownBlock hg gO d ⟨e,.int .u8,xs++bytesOf str,f,true⟩ rfl (by simp[Ty.n]) v' (cs++Lib.strCells str) (by simpa [Ty.n,bytesOf_length]using hown') ?_ (X3 (by simpa [Ty.n]using bK.1) FA (aE4 str)) hr2 hK;intro q hq;rcases hat with hat|hat
     .exact .inr (hat▸hq)
     .rw[hat]at hq;cases hq;exact .inl (bZ _)
    .cases hr
   .cases hr
  .split at hr
   .rename_i ys g mD;obtain⟨hc,hr2⟩:=aY hr;simp only[aI]at hc;obtain⟨⟨⟨⟨⟨⟨hc1,hc2⟩,hc3⟩,hc4⟩,hc5⟩,hc6⟩,hc7⟩:=hc;have htt:=aP hc1;subst htt;have hcu:i.size=u.n:=by rw[<-hsz];exact aP hc2
    have hp:0<u.n:=UU (bO hc5);have hb0:0<i.bytes:=by rw[<-hby];exact UU (bO hc6)
    have hlen:=nW hc7;rw[hby]at hlen;have hzc:=((qY (G:=G) (w:=w) (bx:=st.bx) (bl:=st.bl) zv).cells hc4).len;have hzs:zv.cells.size=u.n:=by have:=aP hc3;simp at hzc;omega
    obtain⟨h1,hnt,hbx,⟨cs,bK,FA⟩,gO⟩:=Rv h hsr hold hp;obtain⟨A,cap,hxv,h63,news,YJ,hn2,hn3,hn4⟩:=ac4 h hp hxr mD;have EB:0<=w.heap.size:=aT _;have aDr:(xs.length+ys.length)*i.bytes<=140737488355328:=by
     have:(((xs.length+ys.length)*i.bytes:Nat):Int)<=140737488355328:=by rw[Int.natCast_mul];exact hlen
     omega
    have hle:xs.length+ys.length<=140737488355328:=cR (auO _ hb0) aDr;have hmax:maxLen=9223372036854775807:=rfl;obtain⟨v',w',hrun,hown',hg,hat⟩:∃v' w',(Builtin.append_ #[t,t] o.type #[a.eval s,a.eval x]).run P w=.ok v' w'/\w'.ownsRow 0 e u.n v' (xs.length+ys.length) (cs++news)/\w.grownBy w' (a.eval s).ownBlock/\(v'.ownBlock=(a.eval s).ownBlock\/v'.ownBlock=some w.heap.size):=by
     rw[hxv];cases A with
     |none =>
      have hy0:ys.length=0:=by
       rcases amD ys.length with h|h
       .exact h
       .obtain⟨b,o',hA,_⟩:=hn4 h;cases hA
      have hnews:news=[]:=Za (by rw[YJ,hy0,amR]);subst hnews;rw[hy0];exact⟨_,w,akd hu hi bK cap,by simpa using bK,⟨rfl,rfl,rfl,bZ _,fun _ _ _=>rfl⟩,.inl rfl⟩
     |some ad =>
      obtain⟨v',w',hrun,h2,h3,_,h5⟩:=run_append_own_at (P:=P) w 0 t o.type e i zv u.n i.bytes hu hi hiz hcu rfl hzs hp (a.eval s) xs.length cs bK ad ys.length cap news YJ (fun j uu hj=>by
       have h0:0<ys.length:=by
        rcases amD ys.length with h|h
        .have:=(xJ.1 hj).1;rw[YJ,h,amR]at this;omega
        .exact h
       obtain⟨b,o',hA,hcell⟩:=hn4 h0;cases hA;rw[Ve];exact hcell j uu hj) hn3 (by omega) aDr EB
      exact⟨v',w',hrun,h2,h3,h5⟩
    refine Jw (v:=v') (w':=w') (by rw[JA,hrun];rfl) ?_;rw[Va];have aG8:∀q,RO G f q->RO G (f&&(g || flat u)) q:=fun q hq=>hq.Ez fun hh=>by rw[aI]at hh;exact hh.1
    have hnR:fU w (RO G (f&&(g || flat u))) u news ys:=by
     cases Vf:flat u with
     |true=>exact anf Vf hn2|false=>exact mE (fun q hq=>hq.Ez fun hh=>by simp at hh;exact hh.2) hn2
    refine OY h1 (a.eval s).ownBlock hg gO d ⟨e,u,xs++ys,f&&(g || flat u),true⟩ rfl hp v' (cs++news) (by simpa using hown') ?_ (X3 bK.1 (mE aG8 FA) hnR) hr2 hK;intro q hq;rcases hat with hat|hat
    .exact .inr (hat▸hq)
    .rw[hat]at hq;cases hq;exact .inl (bZ _)
   .cases hr
 .cases hr
def aBk (h:Inv w0 G st a w){args:Array Operand}{ts:Array TypeId}(ho:o.op=.call {callee:=.builtin .append,args:=args,argTypes:=ts}){s x:Operand}(ha:args.toList=[s,x])
  {t:TypeId} (hts:ts.toList=[t,t]) {e:TypeId} (he:Ey P t=some e) {u:Ty} {z:CV} (hz:uh P e=some z) {d:Tmp} {g0:Nat} (hs0:a.eval s=.slice (some ⟨g0,0,none⟩) 0 0)
  (hr:OS P (sd.Rm N) st d (st.ac s) (st.ac x) t t e u z k=some r):∃v w',(execOp a.eval o).run P w=.ok (.value v) w'/\Below w.heap.size w w':=by
 have hargs:args=#[s,x]:=by rw[<-yr (xs:=args),ha]
 have aGW:ts=#[t,t]:=by rw[<-yr (xs:=ts),hts]
 subst hargs aGW;have hu:P.underlying t=some (.slice e):=by
  unfold Ey at he;split at he
  .rename_i e' hu;cases he;exact hu
  .cases he
 obtain⟨i,zv,hi,hiz,rfl⟩:=jQ hz;obtain⟨hby,hsz⟩:=anh hi;have hsr:=h.ac s;have hxr:=h.ac x;unfold OS at hr;split at hr
 .rename_i xs f uB hold;have JA:(execOp a.eval o).run P w=((Builtin.append_ #[t,t] o.type #[a.eval s,a.eval x]).run P w).andThen fun v w'=>.ok (.value v) w':=by unfold execOp;rw[ho];simp[resolve,invoke,builtin]
  split at hr
  ·
   split at hr
   .split at hr
    .rename_i hu2;rw[hu]at hu2;cases hu2
    .cases hr
   .cases hr
  .split at hr
   .rename_i ys g mD;obtain⟨hc,_⟩:=aY hr;simp only[aI]at hc;obtain⟨⟨⟨⟨⟨⟨_,hc2⟩,hc3⟩,hc4⟩,hc5⟩,hc6⟩,hc7⟩:=hc;have hcu:i.size=u.n:=by rw[<-hsz];exact aP hc2
    have hp:0<u.n:=UU (bO hc5);have hb0:0<i.bytes:=by rw[<-hby];exact UU (bO hc6)
    have hlen:=nW hc7;rw[hby]at hlen;have aDr:(xs.length+ys.length)*i.bytes<=140737488355328:=by
     have:(((xs.length+ys.length)*i.bytes:Nat):Int)<=140737488355328:=by rw[Int.natCast_mul];exact hlen
     omega
    have hyb:ys.length*i.bytes<=140737488355328:=cR (Gs _ (Nat.le_add_left _ _)) aDr;have hle:ys.length<=140737488355328:=cR (auO _ hb0) hyb;obtain⟨A,cap,hxv,h63,news,YJ,hn2,hn3,hn4⟩:=ac4 h hp hxr mD;rw[hs0,hxv]at JA;rcases amD ys.length with h0|h0
    .rw[h0]at JA;cases A with
     |none =>
      have:(Builtin.append_ #[t,t] o.type #[.slice (some ⟨g0,0,none⟩) 0 0,.slice none 0 cap]).run P w=.ok (.slice (some ⟨g0,0,none⟩) 0 0) w:=by simp[Builtin.append_,run_underlying hu,sizeOf,typeInfo,hi,Builtin.lenOf,Builtin.firstCells,storeCells]
      exact⟨_,w,by rw[JA,this];rfl,Below.refl _ w⟩
     |some ad =>
      have hf:=run_firstCells_some (P:=P) w i.size 0 ad 0 cap [] (by simp) (fun j v hj=>by simp at hj);have:(Builtin.append_ #[t,t] o.type #[.slice (some ⟨g0,0,none⟩) 0 0,.slice (some ad) 0 cap]).run P w=.ok (.slice (some ⟨g0,0,none⟩) 0 0) w:=by simp[Builtin.append_,run_underlying hu,sizeOf,typeInfo,hi,Builtin.lenOf,hf,storeCells]
      exact⟨_,w,by rw[JA,this];rfl,Below.refl _ w⟩
    .obtain⟨b,o',rfl,hcell⟩:=hn4 h0;have hmax:maxLen=9223372036854775807:=rfl;have hrun:=run_append_grow (P:=P) w t o.type e i zv hu hi hiz ⟨g0,0,none⟩ 0 0 [] (by simp) (fun j v hj=>by simp at hj) ⟨b,o',none⟩ ys.length cap news (by rw[hcu];exact YJ) (fun j uu hj=>by rw[Ve];exact hcell j uu hj) (by omega) (by omega) (growslice_fits (by omega) (by simpa using hyb))
     rw[hrun]at JA;exact⟨_,_,JA,⟨rfl,rfl,rfl,by simp,fun k hk=>heap_alloc_old w.drew _ hk⟩⟩
   .cases hr
 .cases hr
end
end Go.Am
