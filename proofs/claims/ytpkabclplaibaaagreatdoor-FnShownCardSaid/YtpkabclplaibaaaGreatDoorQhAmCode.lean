/- No condition. -/
import Derived.Test.YtpkabclplaibaaaGreatDoorQhAmFrz
import Derived.Deep.LoopGhost
import Derived.Tactics
set_option linter.all false
namespace Go.Am
open Go.RowKit
variable [ds]
def akr (k:IntKind):agM k k=true:=by cases k<;>rfl
def Ty.beq_refl:∀(t:Ty),t.beq t=true
 |.int k=>akr k|.bool|.str|.unit=>rfl|.pair a b=>by show(a.beq a&&b.beq b)=true;rw[Ty.beq_refl a,Ty.beq_refl b];rfl
 |.sl e t=>by show(Nat.beq e e&&t.beq t)=true;rw[Ty.beq_refl t,Bool.and_true];simp
section
variable {P:Program} {w0:di} {w:World} {G:Gh} {st:St} {a:Act}
def Inv.alV (h:Inv w0 G st a w)(t:Tmp){v:AV}(d:eK G w st.bx st.bl v (a.tmps.getD t undef)):Inv w0 G (st.put t v) a w:=by
 refine {h with tm:=fun s x b=>?_};simp only[St.put,ai]at b;by_cases c:t=s
 .subst c;simp only[eJ]at b;cases b;exact d
 .simp only[c,eo]at b;exact h.tm s x b
def Inv.alW (h:Inv w0 G st a w)(id:Nat)(hid:look st.bl id=none)(e:TypeId)(u:Ty)(n:0<u.n) :
  ∃d,Inv w0 d {st with bl:=(id,some ⟨e,u,[],true,true⟩)::st.bl} a w/\LB G w d w/\gw G st.bx st.bl d st.bx ((id,some ⟨e,u,[],true,true⟩)::st.bl)/\d.hv id=.slice none 0 0:=by
 have j:w.grownBy w none:=⟨rfl,rfl,rfl,bq _,fun _ _ _=>rfl⟩;have k:(G.grow none [(id,some ⟨e,u,[],true,true⟩)] (fun _=>.slice none 0 0) (fun _=>none)).hv id=.slice none 0 0:=by simp[Gh.grow,ai]
 obtain⟨o,p,q⟩:=h.grow none j (fun g j=>by cases j) [(id,some ⟨e,u,[],true,true⟩)] (fun _=>.slice none 0 0) (fun _=>none)
  (fun i l=>by
   rw[ai]at l;by_cases c:id=i
   .rw[<-c];exact hid
   .simp[c,look]at l)
  (fun g i s=>by cases s)
  (fun i b f=>by
   rw[ai]at f;by_cases c:id=i
   .subst c;simp only[eJ]at f;cases f;refine⟨fun _=>⟨[],?_,fun g m=>?_,fun y x t=>by simp at t⟩,(fun v=>by simp at v),n⟩
    .rw[k];exact⟨by simp,.inl ⟨rfl,rfl⟩⟩
    .rw[k]at m;simp[Value.ownBlock]at m
   .simp[c,look]at f)
 exact⟨_,o,p,q,k⟩
def acG (h:Inv w0 G st a w)(t:Tmp)(e:TypeId)(u:Ty):∃d,Inv w0 d (ab7 st t e u) a w:=by
 unfold ab7;split
 .rename_i f hid b;obtain⟨g,i,_,_,c⟩:=h.alW _ hid e u (by cases j:u.n with|zero=>rw[j]at b;cases b|succ n=>omega);have k:a.tmps.getD t undef=.slice none 0 0:=by have:=h.ev (.tmp t);rw[show st.ev (.tmp t)=st.get t from rfl,f]at this;exact this
  refine⟨g,i.alV t ?_⟩;rw[k];exact⟨by simp[ai],⟨none,0,0,c⟩,c.symm⟩
 .exact⟨G,h⟩
def ZW (h:Inv w0 G st a w)(b j:Nat)(e:TypeId)(u:Ty):∃F,Inv w0 F (VD st b j e u) a w:=by
 unfold VD;split
 .rename_i l H hid B;split
  .rename_i I;obtain⟨q,c,qb,qd,D⟩:=h.alW _ hid e u (by cases K:u.n with|zero=>rw[K]at B;cases B|succ n=>omega);have i:=gw.agX q st.bx ((3000000+100*b+j,some ⟨e,u,[],true,true⟩)::st.bl) b (x1 l j (.own (3000000+100*b+j) none));have o:LB q w q w:=⟨rfl,rfl,bq _,fun _ _ s=>⟨s,rfl⟩,fun _ _ s=>⟨s,rfl⟩⟩;refine⟨q,c.nw,c.Pt,c.below,c.defers,c.size,c.sp.mono o i,c.x3 o,fun t v L=>(c.tm t v L).mono o i,?_,fun id M O=>c.bl id M O,?_⟩
   .intro d m p;simp only[ai]at p;by_cases E:b=d
    .subst E;simp only[eJ]at p;cases p;obtain⟨cs,Q,x,z,f⟩:=c.bx b l H;refine⟨cs,Q,x,z,?_⟩;have A:=f.imp fun _ _=>a7.mono o i
     obtain⟨y,R,S⟩:=f.nth I;have T:cs.toList=cs.toList.set j y:=by obtain⟨hlt,W⟩:=lu.1 R;rw[<-W];exact(abR hlt).symm
     rw[T];refine A.set j ?_;rw[show y=.slice none 0 0 from S];exact⟨by simp[ai],⟨none,0,0,D⟩,D.symm⟩
    .simp only[E,eo]at p;obtain⟨X,Y,f,A,Z⟩:=c.bx d m p;exact⟨X,Y,f,A,Z.imp fun _ _=>a7.mono o i⟩
   .intro g k qa;obtain⟨x,z,f⟩:=c.own g k qa;refine⟨x,z,?_⟩;cases k with
    |hid=>trivial|bx d=>exact⟨(i.bx d f.1).1,f.2⟩|bl id=>exact f
  .exact⟨G,h⟩
 .exact⟨G,h⟩
def aeD (h:Inv w0 G st a w)(t:Tmp):∃m,Inv w0 m (aiM st t) a w:=by
 unfold aiM;split
 .rename_i id len n;split
  .rename_i b o;obtain⟨i,j,p,q⟩:=h.cU (.own id len);refine⟨i,j.alV t ?_⟩;have hrel:=h.ev (.tmp t);rw[show st.ev (.tmp t)=st.get t from rfl,n]at hrel;have s:a7 i w (st.cU (.own id len)).bx (st.cU (.own id len)).bl (.own id len) (a.tmps.getD t undef):=a7.mono p q (c:=.own id len) hrel;have k:look (st.cU (.own id len)).bl id=some (some {b with w:=false}):=by rw[jt o];simp[ai]
   have v:bU (st.cU (.own id len)) b.e b.t (.own id len)=some (Bz b.xs len):=by simp only[bU,St.kA,k,Ru];rw[dif_pos (Ty.beq_refl b.t)];rfl
   refine gi j s v (fun z A B d l=>?_) (fun f e u D d=>by cases d);cases d;rw[k]at l;have:=dI (dI l);subst this;exact⟨fun g x=>x,fun y=>by cases y⟩
  .exact⟨G,h⟩
 .exact⟨G,h⟩
def Inv.alX (h:Inv w0 G st a w){b j:Nat}{l:List AC}{c o:AC}(z:look st.bx b=some l)(A:gU l j=some c)(B:∀v,a7 G w st.bx st.bl c v->a7 G w st.bx st.bl o v) :
  Inv w0 G {st with bx:=(b,x1 l j o)::st.bx} a w:=by
 have f:=gw.agX G st.bx st.bl b (x1 l j o);have i:LB G w G w:=⟨rfl,rfl,bq _,fun _ _ p=>⟨p,rfl⟩,fun _ _ p=>⟨p,rfl⟩⟩;refine⟨h.nw,h.Pt,h.below,h.defers,h.size,h.sp.mono i f,h.x3 i,fun t v D=>(h.tm t v D).mono i f,?_,fun id E F=>h.bl id E F,?_⟩
 .intro d m n;simp only[ai]at n;by_cases x:b=d
  .subst x;simp only[eJ]at n;cases n;obtain⟨cs,H,q,s,e⟩:=h.bx b l z;refine⟨cs,H,q,s,?_⟩;have u:=e.imp fun _ _=>a7.mono i f
   obtain⟨y,I,K⟩:=e.nth A;have L:cs.toList=cs.toList.set j y:=by obtain⟨hlt,M⟩:=lu.1 I;rw[<-M];exact(abR hlt).symm
   rw[L];exact u.set j (a7.mono i f (B y K))
  .simp only[x,eo]at n;obtain⟨O,Q,e,u,R⟩:=h.bx d m n;exact⟨O,Q,e,u,R.imp fun _ _=>a7.mono i f⟩
 .intro g k S;obtain⟨q,s,e⟩:=h.own g k S;refine⟨q,s,?_⟩;cases k with
  |hid=>trivial|bx d=>exact⟨(f.bx d e.1).1,e.2⟩|bl id=>exact e
def acH (h:Inv w0 G st a w)(b j:Nat):∃s,Inv w0 s (ab8 st b j) a w:=by
 unfold ab8;split
 .rename_i l d;split
  .rename_i id len k;split
   .rename_i c n;obtain⟨o,p,B,D⟩:=h.cU (.own id len);have x:look (st.cU (.own id len)).bx b=some l:=by rw[jt n];exact d
    refine⟨o,p.alX x k fun v y=>?_⟩;have q:look (st.cU (.own id len)).bl id=some (some {c with w:=false}):=by rw[jt n];simp[ai]
    have z:bU (st.cU (.own id len)) c.e c.t (.own id len)=some (Bz c.xs len):=by simp only[bU,St.kA,q,Ru];rw[dif_pos (Ty.beq_refl c.t)];rfl
    refine eL (ok:=RO o c.f) (fun g i=>i.BD fun h=>by cases h) (gi p y z (fun E F H m d=>?_) (fun f e u I m=>by cases m));cases m;rw[q]at d;have:=dI (dI d);subst this;exact⟨fun g i=>i,fun A=>by cases A⟩
   .exact⟨G,h⟩
  .rename_i f e t xs k;exact⟨G,h.alX d k fun v hrel=>eL (fun g i=>i.BD fun h=>by cases h) hrel⟩
  .exact⟨G,h⟩
 .exact⟨G,h⟩
def acI (h:Inv w0 G st a w)(t:Tmp):∃E,Inv w0 E (ab9 st t) a w:=by
 unfold ab9;split
 .rename_i f e u xs o;have hrel:=h.ev (.tmp t);rw[show st.ev (.tmp t)=st.get t from rfl,o]at hrel;exact⟨G,h.alV t (show Rd w (RO G false) (.sl e u) xs [_] from eL (fun g j=>j.BD fun h=>by cases h) hrel)⟩
 .rename_i id len o;split
  .rename_i b F;have B:=cV F;have p:gw G st.bx st.bl G st.bx ((id,some {b with f:=false})::st.bl):=gw.acf id _ rfl rfl fun x c=>by cases c;exact⟨b,B,rfl⟩
   have c:LB G w G w:=⟨rfl,rfl,bq _,fun _ _ q=>⟨q,rfl⟩,fun _ _ q=>⟨q,rfl⟩⟩;refine⟨G,h.nw,h.Pt,h.below,h.defers,h.size,h.sp.mono c p,h.x3 c,fun t v o=>(h.tm t v o).mono c p,?_,?_,?_⟩
   .intro d m H;obtain⟨I,K,s,y,l⟩:=h.bx d m H;exact⟨I,K,s,y,l.imp fun _ _=>a7.mono c p⟩
   .intro i L n;simp only[ai]at n;by_cases D:id=i
    .subst D;simp only[eJ]at n;cases n;have z:=h.bl id b B;refine⟨fun A=>?_,fun A=>?_,z.pos⟩
     .obtain⟨cs,M,O,Q⟩:=z.wr A;exact⟨cs,M,O,ic (fun g j=>j.BD fun h=>by cases h) Q⟩
     .exact eL (fun g j=>j.BD fun h=>by cases h) (z.rd A)
    .simp only[D,eo]at n;exact h.bl i L n
   .intro g k R;obtain⟨s,y,l⟩:=h.own g k R;refine⟨s,y,?_⟩;cases k with
    |hid=>trivial|bx x=>exact l|bl i=>exact⟨(p.bl i l.1).1,l.2⟩
  .exact⟨G,h⟩
 .exact⟨G,h⟩
def uc {V:Type}{f:St->V->St}(c:∀{G:Gh} {st:St} (h:Inv w0 G st a w) (x:V),∃b,Inv w0 b (f st x) a w):∀(l:List V) {G:Gh} {st:St},Inv w0 G st a w->∃b,Inv w0 b (l.foldl f st) a w
 |[],G,st,h=>⟨G,h⟩|x::l,G,st,h=>by obtain⟨e,d⟩:=c h x;exact uc c l d
def acJ (h:Inv w0 G st a w)(b:Bool):Inv w0 G (alp st b) a w:=by
 cases b with
 |false=>exact h|true=>exact⟨h.nw,h.Pt,h.below,h.defers,h.size,trivial,h.hd,h.tm,h.bx,h.bl,h.own⟩
def aeE (b:Hint)(h:Inv w0 G st a w):∃d,Inv w0 d (alq b st) a w:=by unfold alq;obtain⟨k,e⟩:=uc (f:=fun st (x:Tmp×TypeId×Ty)=>ab7 st x.1 x.2.1 x.2.2) (fun h x=>acG h _ _ _) b.mat (acJ h b.apB);obtain⟨g,c⟩:=uc (f:=fun st (x:Nat×Nat×TypeId×Ty)=>VD st x.1 x.2.1 x.2.2.1 x.2.2.2) (fun h x=>ZW h _ _ _ _) b.CY e;obtain⟨g,c⟩:=uc (f:=fun st (x:Nat×Nat)=>ab8 st x.1 x.2) (fun h x=>acH h _ _) b.roB c;obtain⟨l,i⟩:=uc (f:=aiM) (fun h x=>aeD h x) b.roT c;obtain⟨m,j⟩:=uc (f:=ab9) (fun h x=>acI h x) b.wk i;exact Oc j b.live
def PO (b:Option Hint)(h:Inv w0 G st a w):∃c,Inv w0 c (aca b st) a w:=by
 cases b with
 |none=>exact⟨G,h⟩|some b=>exact aeE b h
def PQ (b:Option Hint)(e:Ex)(h:Inv w0 G st a w):∃c,Inv w0 c (Wi b e st) a w:=by
 cases b with
 |none=>exact⟨G,h⟩
 |some b =>
  cases e with
  |norm=>exact⟨G,h⟩|exit d=>exact Oc h _|ret=>exact Oc h _
end
section
variable {N:Nat} {P:Program} {C:FuncId->Option Any} {w0:di} {U:Type} {r:U}
def GX (n:∀f D,C f=some D->Fi P w0 f D){Q:Exit->Act->World->Prop}(ops:Array Oper){k:St->Option U}(p:l4 w0 k r (Q .normal)) :
  ∀(l:List Oper) {w:World} {G:Gh} {st:St} {a:Act},Inv w0 G st a w->q2 P C (kk.CX N) ops.toList l st k=some r->wpList P ops Q l a w
 |[],w,G,st,a,h,c=>p G st a w h c|o::l,w,G,st,a,h,c=>by
  have q:∀{st:St} {G:Gh},Inv w0 G st a w->Region.wanted o (yielded ops a.tmps)=true->ec P C (kk.CX N) o st (fun st=>q2 P C (kk.CX N) ops.toList l st k)=some r->wpList P ops Q (o::l) a w:=by intro st G h s c;show(if Region.wanted o (yielded ops a.tmps) then _ else _);rw[s];exact .inl (pK n h c fun E bV F H t x=>GX n ops p l t x)
  have y:∀{st:St} {G:Gh},Inv w0 G st a w->Region.wanted o (yielded ops a.tmps)=false->St.pk st o.dst (.GF []) (fun st=>q2 P C (kk.CX N) ops.toList l st k)=some r->wpList P ops Q (o::l) a w:=by intro st G h s c;show(if Region.wanted o (yielded ops a.tmps) then _ else _);rw[s];simp only[aaJ,eo];exact q4 h (v:=.GF []) (u:=undef) ⟨#[],rfl,trivial⟩ c fun E bV F H t x=>GX n ops p l t x
  simp only[q2]at c;split at c
  .rename_i d;exact q h (by simp[Region.wanted,d]) c
  .rename_i O Je d;split at c
   .rename_i R I;split at c
    .rename_i e K;have g:=GU (tmps:=a.tmps) I K;have j:=h.ev (.tmp e);rw[show st.ev (.tmp e)=st.get e from rfl]at j;split at c
     .rename_i b z;rw[z]at j;have i:a.tmps.getD e undef=.bool b:=j;rw[i]at g;have m:∀A,b=A->Inv w0 G (st.put e (.v (.c (.bool A)))) a w:=by intro A L;subst L;exact h.lit (.tmp e) b i
      rcases Pv c with ⟨B,c⟩|⟨B,c⟩
      .subst B;cases Je with
       |true=>exact q (m true rfl) (by simp[Region.wanted,d,g]) c
       |false=>exact y (m true rfl) (by simp[Region.wanted,d,g]) c
      .subst B;cases Je with
       |true=>exact y (m false rfl) (by simp[Region.wanted,d,g]) c
       |false=>exact q (m false rfl) (by simp[Region.wanted,d,g]) c
     .rename_i z;rw[z]at j;obtain⟨M,i,S⟩:=j;have i:a.tmps.getD e undef=.tuple M:=i;rw[i]at g;exact y h (by simp[Region.wanted,d,g]) c
     .cases c
    .cases c
   .cases c
def Og (t:∀f I,C f=some I->Fi P w0 f I){Q:Exit->Act->World->Prop}(ops:Array Oper){k:St->Option U}(x:l4 w0 k r (Q .normal)){w:World} :
  ∀(l:List Oper) {G:Gh} {st:St} {a:Act},(l.all fun o=>gv P C o)=true->Inv w0 G st a w->q2 P C (kk.CX N) ops.toList l st k=some r ->
   wpQuiet P ops (fun d=>Below w.heap.size w d) (fun e=>∀d,Below w.heap.size w d->Q .normal e d) l a
 |[],G,st,a,_,h,c=>fun d L=>x G st a d (h.more L) c
 |o::l,G,st,a,q,h,c=>by
  rw[List.all_cons,az]at q;have y:∀{st:St} {G:Gh},Inv w0 G st a w->Region.wanted o (yielded ops a.tmps)=true->ec P C (kk.CX N) o st (fun st=>q2 P C (kk.CX N) ops.toList l st k)=some r->wpQuiet P ops (fun d=>Below w.heap.size w d) (fun e=>∀d,Below w.heap.size w d->Q .normal e d) (o::l) a:=by intro st G h z c;show(if Region.wanted o (yielded ops a.tmps) then _ else _);rw[z];obtain⟨v,n,bV,A,B,M⟩:=aex t q.1 h c;exact⟨v,A,Og t ops x l q.2 B M⟩
  have D:∀{st:St} {G:Gh},Inv w0 G st a w->Region.wanted o (yielded ops a.tmps)=false->St.pk st o.dst (.GF []) (fun st=>q2 P C (kk.CX N) ops.toList l st k)=some r->wpQuiet P ops (fun d=>Below w.heap.size w d) (fun e=>∀d,Below w.heap.size w d->Q .normal e d) (o::l) a:=by
   intro st G h z c;show(if Region.wanted o (yielded ops a.tmps) then _ else _);rw[z];simp only[aaJ,eo];obtain⟨n,bV,A,B⟩:=q4 (K:=fun e d=>∃n bV,Inv w0 n bV e d/\q2 P C (kk.CX N) ops.toList l bV k=some r) h (v:=.GF []) (u:=undef) ⟨#[],rfl,trivial⟩ c fun n bV e d O R=>⟨n,bV,O,R⟩
   exact Og t ops x l q.2 A B
  simp only[q2]at c;split at c
  .rename_i g;exact y h (by simp[Region.wanted,g]) c
  .rename_i Y Je g;split at c
   .rename_i Z S;split at c
    .rename_i i T;have j:=GU (tmps:=a.tmps) S T;have p:=h.ev (.tmp i);rw[show st.ev (.tmp i)=st.get i from rfl]at p;split at c
     .rename_i b E;rw[E]at p;have m:a.tmps.getD i undef=.bool b:=p;rw[m]at j;have s:∀F,b=F->Inv w0 G (st.put i (.v (.c (.bool F)))) a w:=by intro F W;subst W;exact h.lit (.tmp i) b m
      rcases Pv c with ⟨H,c⟩|⟨H,c⟩
      .subst H;cases Je with
       |true=>exact y (s true rfl) (by simp[Region.wanted,g,j]) c
       |false=>exact D (s true rfl) (by simp[Region.wanted,g,j]) c
      .subst H;cases Je with
       |true=>exact D (s false rfl) (by simp[Region.wanted,g,j]) c
       |false=>exact y (s false rfl) (by simp[Region.wanted,g,j]) c
     .rename_i E;rw[E]at p;obtain⟨X,m,qa⟩:=p;have m:a.tmps.getD i undef=.tuple X:=m;rw[m]at j;exact D h (by simp[Region.wanted,g,j]) c
     .cases c
    .cases c
   .cases c
def arV:Ex->Exit
 |.norm=>.normal|.exit id=>.exit id|.ret=>.ret
def aqX (w0:di)(k:Ex->St->Option U)(r:U)(Q:Exit->Act->World->Prop):Prop:=∀e d bV b c,Inv w0 d bV b c->k e bV=some r->Q (arV e) b c
def l7 (l:∀f F,C f=some F->Fi P w0 f F)(H:Nat->Option Hint)(q:∀e,EM (aj3 H) e=true->ahj w0 e):∀(c:Code) {st:St} {k:Ex->St->Option U} {G:Gh} {a:Act} {w:World} {Q:Exit->Act->World->Prop},
  Inv w0 G st a w->run P C (kk.CX N) H c st k=some r->aqX w0 k r Q->c.wp P Q a w
 |.skip,st,k,G,a,w,Q,h,d,g=>wp_skip (g .norm _ _ _ _ h d)|.region id ops anP,st,k,G,a,w,Q,h,d,g=>by
  simp only[run]at d;split at d
  .rename_i t;cases anP with
   |false=>exact wp_region_list (GX l ops (fun v bV o m j i=>g .norm _ _ _ _ j i) ops.toList h d)
   |true =>
    have t:agV P C ops=true:=by simpa using t
    simp only[agV,az]at t;obtain⟨⟨u,K⟩,L⟩:=t;have A:Below w.heap.size w {w with drawn:=w.drawn+1}:=⟨rfl,rfl,rfl,bq _,fun _ _=>rfl⟩;exact wp_region_quiet (C:=fun m=>Below w.heap.size w m) u K A (Og l ops (fun v bV o m j i=>g .norm _ _ _ _ j i) ops.toList L h d)
  .rename_i t;cases anP with
   |false=>simp at t
   |true =>
    split at d
    .rename_i u;simp only[az]at u;have A:Below w.heap.size w {w with drawn:=w.drawn+1}:=⟨rfl,rfl,rfl,bq _,fun _ _=>rfl⟩;obtain⟨z,Y,s,M,O⟩:=WV q h d;exact wp_region_noPanic (wp_region_any u.1.1 (ZV l (Q:=NoPanic Q) (fun c a o w h=>h) u.1.2 (by rw[M];exact u.2) (fun v bV o m j i=>g .norm _ _ _ _ j i) (s.more A) O))
    .cases d
 |.seq x y,st,k,G,a,w,Q,h,d,g=>by
  simp only[run]at d;refine wp_seq (l7 l H q x h d fun e v bV o m j i=>?_);cases e with
  |norm=>exact l7 l H q y j i g|exit p=>exact g (.exit p) _ _ _ _ j i|ret=>exact g .ret _ _ _ _ j i
 |.cond c x y,st,k,G,a,w,Q,h,d,g=>by
  simp only[run]at d;split at d
  .rename_i b R;have B:=acg (h.ac c) R;refine wp_cond B ?_;rcases Pv d with ⟨D,d⟩|⟨D,d⟩
   .subst D;exact l7 l H q x (h.lit c true B) d g
   .subst D;exact l7 l H q y (h.lit c false B) d g
  .cases d
 |.block id x,st,k,G,a,w,Q,h,d,g=>by
  simp only[run]at d;refine wp_block (l7 l H q x h d fun e v bV o m j i=>?_);cases e with
  |norm=>exact g .norm _ _ _ _ j i
  |exit p =>
   dsimp only at i;show(if p=id then Q .normal o m else Q (.exit p) o m);split at i
   .rename_i E;rw[aj (aA E)];exact g .norm _ _ _ _ j i
   .rename_i E;rw[ag (by rintro rfl;simp at E)];exact g (.exit p) _ _ _ _ j i
  |ret=>exact g .ret _ _ _ _ j i
 |.loop b,st,k,G,a,w,Q,h,d,g=>by
  simp only[run]at d;obtain⟨S,T⟩:=PO (H (l3 b)) h;refine wp_loop_ghost (fun n a w=>∃G st,Inv w0 G st a w/\anO (fun st k=>run P C (kk.CX N) H b st k) (H (l3 b)) k n st=some r) N ⟨S,_,T,d⟩ fun n Z qa W=>?_
  obtain⟨qb,qd,X,I⟩:=W;cases n with
  |zero=>cases I
  |succ n =>
   refine l7 l H q b X I fun e v bV o m j i=>?_
   cases e with
   |norm =>
    obtain⟨z,s⟩:=PO (H (l3 b)) j;exact⟨n,Nat.lt_succ_self n,z,_,s,i⟩
   |exit p =>
    obtain⟨z,s⟩:=PQ (H (l3 b)) (.exit p) j;exact g (.exit p) _ _ _ _ s i
   |ret =>
    obtain⟨z,s⟩:=PQ (H (l3 b)) .ret j;exact g .ret _ _ _ _ s i
 |.exit id,st,k,G,a,w,Q,h,d,g=>wp_exit (g (.exit id) _ _ _ _ h d)|.ret,st,k,G,a,w,Q,h,d,g=>wp_ret (g .ret _ _ _ _ h d)|.label _,_,_,_,_,_,_,_,d,_=>by cases d
 |.goto _,_,_,_,_,_,_,_,d,_=>by cases d
 |.refuse _,_,_,_,_,_,_,_,d,_=>by cases d
 |.rangeFunc _ _ _ _,_,_,_,_,_,_,_,d,_=>by cases d
 |.scope _,_,_,_,_,_,_,_,d,_=>by cases d
end
end Go.Am
