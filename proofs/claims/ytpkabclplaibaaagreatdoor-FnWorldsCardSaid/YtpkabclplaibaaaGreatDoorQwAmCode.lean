/- No condition. -/
import Derived.Test.YtpkabclplaibaaaGreatDoorQwAmFrz
import Derived.Deep.LoopGhost
import Derived.Tactics
set_option linter.all false
namespace Go.Am
open Go.RowKit
variable [ei]
def az4 (k:IntKind):av8 k k=true:=by cases k<;>rfl
def Ty.beq_refl:∀(t:Ty),t.beq t=true
 |.int k=>az4 k|.bool|.str|.unit=>rfl|.pair a b=>by show(a.beq a&&b.beq b)=true;rw[Ty.beq_refl a,Ty.beq_refl b];rfl
 |.sl e t=>by show(Nat.beq e e&&t.beq t)=true;rw[Ty.beq_refl t,Bool.and_true];simp
section
variable {P:Program} {w0:dY} {w:World} {G:Gh} {st:St} {a:Act}
def Inv.aBQ (h:Inv w0 G st a w)(t:Tmp){v:AV}(d:gu G w st.bx st.bl v (a.tmps.getD t undef)):Inv w0 G (st.put t v) a w:=by
 refine {h with tm:=fun s x b=>?_};simp only[St.put,ar]at b;by_cases c:t=s
 .subst c;simp only[gr]at b;cases b;exact d
 .simp only[c,fG]at b;exact h.tm s x b
def Inv.aBR (h:Inv w0 G st a w)(id:Nat)(hid:look st.bl id=none)(e:TypeId)(u:Ty)(n:0<u.n) :
  ∃d,Inv w0 d {st with bl:=(id,some ⟨e,u,[],true,true⟩)::st.bl} a w/\WD G w d w/\jL G st.bx st.bl d st.bx ((id,some ⟨e,u,[],true,true⟩)::st.bl)/\d.hv id=.slice none 0 0:=by
 have j:w.grownBy w none:=⟨rfl,rfl,rfl,bh _,fun _ _ _=>rfl⟩;have k:(G.grow none [(id,some ⟨e,u,[],true,true⟩)] (fun _=>.slice none 0 0) (fun _=>none)).hv id=.slice none 0 0:=by simp[Gh.grow,ar]
 obtain⟨o,p,q⟩:=h.grow none j (fun g j=>by cases j) [(id,some ⟨e,u,[],true,true⟩)] (fun _=>.slice none 0 0) (fun _=>none)
  (fun i l=>by
   rw[ar]at l;by_cases c:id=i
   .rw[<-c];exact hid
   .simp[c,look]at l)
  (fun g i s=>by cases s)
  (fun i b f=>by
   rw[ar]at f;by_cases c:id=i
   .subst c;simp only[gr]at f;cases f;refine⟨fun _=>⟨[],?_,fun g m=>?_,fun y x t=>by simp at t⟩,(fun v=>by simp at v),n⟩
    .rw[k];exact⟨by simp,.inl ⟨rfl,rfl⟩⟩
    .rw[k]at m;simp[Value.ownBlock]at m
   .simp[c,look]at f)
 exact⟨_,o,p,q,k⟩
def arn (h:Inv w0 G st a w)(t:Tmp)(e:TypeId)(u:Ty):∃d,Inv w0 d (aqP st t e u) a w:=by
 unfold aqP;split
 .rename_i f hid b;obtain⟨g,i,_,_,c⟩:=h.aBR _ hid e u (by cases j:u.n with|zero=>rw[j]at b;cases b|succ n=>omega);have k:a.tmps.getD t undef=.slice none 0 0:=by have:=h.ev (.tmp t);rw[show st.ev (.tmp t)=st.get t from rfl,f]at this;exact this
  refine⟨g,i.aBQ t ?_⟩;rw[k];exact⟨by simp[ar],⟨none,0,0,c⟩,c.symm⟩
 .exact⟨G,h⟩
def anW (h:Inv w0 G st a w)(b j:Nat)(e:TypeId)(u:Ty):∃F,Inv w0 F (aja st b j e u) a w:=by
 unfold aja;split
 .rename_i l H hid B;split
  .rename_i I;obtain⟨q,c,qe,qf,D⟩:=h.aBR _ hid e u (by cases K:u.n with|zero=>rw[K]at B;cases B|succ n=>omega);have i:=jL.awk q st.bx ((3000000+100*b+j,some ⟨e,u,[],true,true⟩)::st.bl) b (Fw l j (.own (3000000+100*b+j) none));have o:WD q w q w:=⟨rfl,rfl,bh _,fun _ _ s=>⟨s,rfl⟩,fun _ _ s=>⟨s,rfl⟩⟩;refine⟨q,c.nw,c.rok,c.below,c.defers,c.size,c.sp.mono o i,c.Fy o,fun t v L=>(c.tm t v L).mono o i,?_,fun id M O=>c.bl id M O,?_⟩
   .intro d m p;simp only[ar]at p;by_cases E:b=d
    .subst E;simp only[gr]at p;cases p;obtain⟨cs,Q,x,z,f⟩:=c.bx b l H;refine⟨cs,Q,x,z,?_⟩;have A:=f.imp fun _ _=>bo.mono o i
     obtain⟨y,R,S⟩:=f.nth I;have T:cs.toList=cs.toList.set j y:=by obtain⟨hlt,W⟩:=oC.1 R;rw[<-W];exact(aqA hlt).symm
     rw[T];refine A.set j ?_;rw[show y=.slice none 0 0 from S];exact⟨by simp[ar],⟨none,0,0,D⟩,D.symm⟩
    .simp only[E,fG]at p;obtain⟨X,Y,f,A,Z⟩:=c.bx d m p;exact⟨X,Y,f,A,Z.imp fun _ _=>bo.mono o i⟩
   .intro g k qd;obtain⟨x,z,f⟩:=c.own g k qd;refine⟨x,z,?_⟩;cases k with
    |hid=>trivial|bx d=>exact⟨(i.bx d f.1).1,f.2⟩|bl id=>exact f
  .exact⟨G,h⟩
 .exact⟨G,h⟩
def atF (h:Inv w0 G st a w)(t:Tmp):∃m,Inv w0 m (ayl st t) a w:=by
 unfold ayl;split
 .rename_i id len n;split
  .rename_i b o;obtain⟨i,j,p,q⟩:=h.di (.own id len);refine⟨i,j.aBQ t ?_⟩;have hrel:=h.ev (.tmp t);rw[show st.ev (.tmp t)=st.get t from rfl,n]at hrel;have s:bo i w (st.di (.own id len)).bx (st.di (.own id len)).bl (.own id len) (a.tmps.getD t undef):=bo.mono p q (c:=.own id len) hrel;have k:look (st.di (.own id len)).bl id=some (some {b with w:=false}):=by rw[mh o];simp[ar]
   have v:cn (st.di (.own id len)) b.e b.t (.own id len)=some (Je b.xs len):=by simp only[cn,St.oi,k,adW];rw[dif_pos (Ty.beq_refl b.t)];rfl
   refine jv j s v (fun z A B d l=>?_) (fun f e u D d=>by cases d);cases d;rw[k]at l;have:=eh (eh l);subst this;exact⟨fun g x=>x,fun y=>by cases y⟩
  .exact⟨G,h⟩
 .exact⟨G,h⟩
def Inv.aBS (h:Inv w0 G st a w){b j:Nat}{l:List AC}{c o:AC}(z:look st.bx b=some l)(A:kj l j=some c)(B:∀v,bo G w st.bx st.bl c v->bo G w st.bx st.bl o v) :
  Inv w0 G {st with bx:=(b,Fw l j o)::st.bx} a w:=by
 have f:=jL.awk G st.bx st.bl b (Fw l j o);have i:WD G w G w:=⟨rfl,rfl,bh _,fun _ _ p=>⟨p,rfl⟩,fun _ _ p=>⟨p,rfl⟩⟩;refine⟨h.nw,h.rok,h.below,h.defers,h.size,h.sp.mono i f,h.Fy i,fun t v D=>(h.tm t v D).mono i f,?_,fun id E F=>h.bl id E F,?_⟩
 .intro d m n;simp only[ar]at n;by_cases x:b=d
  .subst x;simp only[gr]at n;cases n;obtain⟨cs,H,q,s,e⟩:=h.bx b l z;refine⟨cs,H,q,s,?_⟩;have u:=e.imp fun _ _=>bo.mono i f
   obtain⟨y,I,K⟩:=e.nth A;have L:cs.toList=cs.toList.set j y:=by obtain⟨hlt,M⟩:=oC.1 I;rw[<-M];exact(aqA hlt).symm
   rw[L];exact u.set j (bo.mono i f (B y K))
  .simp only[x,fG]at n;obtain⟨O,Q,e,u,R⟩:=h.bx d m n;exact⟨O,Q,e,u,R.imp fun _ _=>bo.mono i f⟩
 .intro g k S;obtain⟨q,s,e⟩:=h.own g k S;refine⟨q,s,?_⟩;cases k with
  |hid=>trivial|bx d=>exact⟨(f.bx d e.1).1,e.2⟩|bl id=>exact e
def aro (h:Inv w0 G st a w)(b j:Nat):∃s,Inv w0 s (aqQ st b j) a w:=by
 unfold aqQ;split
 .rename_i l d;split
  .rename_i id len k;split
   .rename_i c n;obtain⟨o,p,B,D⟩:=h.di (.own id len);have x:look (st.di (.own id len)).bx b=some l:=by rw[mh n];exact d
    refine⟨o,p.aBS x k fun v y=>?_⟩;have q:look (st.di (.own id len)).bl id=some (some {c with w:=false}):=by rw[mh n];simp[ar]
    have z:cn (st.di (.own id len)) c.e c.t (.own id len)=some (Je c.xs len):=by simp only[cn,St.oi,q,adW];rw[dif_pos (Ty.beq_refl c.t)];rfl
    refine gv (ok:=RO o c.f) (fun g i=>i.Ji fun h=>by cases h) (jv p y z (fun E F H m d=>?_) (fun f e u I m=>by cases m));cases m;rw[q]at d;have:=eh (eh d);subst this;exact⟨fun g i=>i,fun A=>by cases A⟩
   .exact⟨G,h⟩
  .rename_i f e t xs k;exact⟨G,h.aBS d k fun v hrel=>gv (fun g i=>i.Ji fun h=>by cases h) hrel⟩
  .exact⟨G,h⟩
 .exact⟨G,h⟩
def arp (h:Inv w0 G st a w)(t:Tmp):∃E,Inv w0 E (aqR st t) a w:=by
 unfold aqR;split
 .rename_i f e u xs o;have hrel:=h.ev (.tmp t);rw[show st.ev (.tmp t)=st.get t from rfl,o]at hrel;exact⟨G,h.aBQ t (show Rd w (RO G false) (.sl e u) xs [_] from gv (fun g j=>j.Ji fun h=>by cases h) hrel)⟩
 .rename_i id len o;split
  .rename_i b F;have B:=dm F;have p:jL G st.bx st.bl G st.bx ((id,some {b with f:=false})::st.bl):=jL.aqW id _ rfl rfl fun x c=>by cases c;exact⟨b,B,rfl⟩
   have c:WD G w G w:=⟨rfl,rfl,bh _,fun _ _ q=>⟨q,rfl⟩,fun _ _ q=>⟨q,rfl⟩⟩;refine⟨G,h.nw,h.rok,h.below,h.defers,h.size,h.sp.mono c p,h.Fy c,fun t v o=>(h.tm t v o).mono c p,?_,?_,?_⟩
   .intro d m H;obtain⟨I,K,s,y,l⟩:=h.bx d m H;exact⟨I,K,s,y,l.imp fun _ _=>bo.mono c p⟩
   .intro i L n;simp only[ar]at n;by_cases D:id=i
    .subst D;simp only[gr]at n;cases n;have z:=h.bl id b B;refine⟨fun A=>?_,fun A=>?_,z.pos⟩
     .obtain⟨cs,M,O,Q⟩:=z.wr A;exact⟨cs,M,O,kY (fun g j=>j.Ji fun h=>by cases h) Q⟩
     .exact gv (fun g j=>j.Ji fun h=>by cases h) (z.rd A)
    .simp only[D,fG]at n;exact h.bl i L n
   .intro g k R;obtain⟨s,y,l⟩:=h.own g k R;refine⟨s,y,?_⟩;cases k with
    |hid=>trivial|bx x=>exact l|bl i=>exact⟨(p.bl i l.1).1,l.2⟩
  .exact⟨G,h⟩
 .exact⟨G,h⟩
def BZ {V:Type}{f:St->V->St}(c:∀{G:Gh} {st:St} (h:Inv w0 G st a w) (x:V),∃b,Inv w0 b (f st x) a w):∀(l:List V) {G:Gh} {st:St},Inv w0 G st a w->∃b,Inv w0 b (l.foldl f st) a w
 |[],G,st,h=>⟨G,h⟩|x::l,G,st,h=>by obtain⟨e,d⟩:=c h x;exact BZ c l d
def arq (h:Inv w0 G st a w)(b:Bool):Inv w0 G (aBl st b) a w:=by
 cases b with
 |false=>exact h|true=>exact⟨h.nw,h.rok,h.below,h.defers,h.size,trivial,h.hd,h.tm,h.bx,h.bl,h.own⟩
def atG (b:Hint)(h:Inv w0 G st a w):∃d,Inv w0 d (aBm b st) a w:=by unfold aBm;obtain⟨k,e⟩:=BZ (f:=fun st (x:Tmp×TypeId×Ty)=>aqP st x.1 x.2.1 x.2.2) (fun h x=>arn h _ _ _) b.mat (arq h b.aFE);obtain⟨g,c⟩:=BZ (f:=fun st (x:Nat×Nat×TypeId×Ty)=>aja st x.1 x.2.1 x.2.2.1 x.2.2.2) (fun h x=>anW h _ _ _ _) b.A9 e;obtain⟨g,c⟩:=BZ (f:=fun st (x:Nat×Nat)=>aqQ st x.1 x.2) (fun h x=>aro h _ _) b.roB c;obtain⟨l,i⟩:=BZ (f:=ayl) (fun h x=>atF h x) b.roT c;obtain⟨m,j⟩:=BZ (f:=aqR) (fun h x=>arp h x) b.wk i;exact ZM j b.live
def abF (b:Option Hint)(h:Inv w0 G st a w):∃c,Inv w0 c (aqS b st) a w:=by
 cases b with
 |none=>exact⟨G,h⟩|some b=>exact atG b h
def abG (b:Option Hint)(e:Ex)(h:Inv w0 G st a w):∃c,Inv w0 c (ajN b e st) a w:=by
 cases b with
 |none=>exact⟨G,h⟩
 |some b =>
  cases e with
  |norm=>exact⟨G,h⟩|exit d=>exact ZM h _|ret=>exact ZM h _
end
section
variable {N:Nat} {P:Program} {C:FuncId->Option Any} {w0:dY} {U:Type} {r:U}
def Qv (n:∀f D,C f=some D->Om P w0 f D){Q:Exit->Act->World->Prop}(ops:Array Oper){k:St->Option U}(p:q9 w0 k r (Q .normal)) :
  ∀(l:List Oper) {w:World} {G:Gh} {st:St} {a:Act},Inv w0 G st a w->wU P C (nY.Lm N) ops.toList l st k=some r->wpList P ops Q l a w
 |[],w,G,st,a,h,c=>p G st a w h c|o::l,w,G,st,a,h,c=>by
  have q:∀{st:St} {G:Gh},Inv w0 G st a w->Region.wanted o (yielded ops a.tmps)=true->fk P C (nY.Lm N) o st (fun st=>wU P C (nY.Lm N) ops.toList l st k)=some r->wpList P ops Q (o::l) a w:=by intro st G h s c;show(if Region.wanted o (yielded ops a.tmps) then _ else _);rw[s];exact .inl (vX n h c fun E cp F H t x=>Qv n ops p l t x)
  have y:∀{st:St} {G:Gh},Inv w0 G st a w->Region.wanted o (yielded ops a.tmps)=false->St.pk st o.dst (.Qe []) (fun st=>wU P C (nY.Lm N) ops.toList l st k)=some r->wpList P ops Q (o::l) a w:=by intro st G h s c;show(if Region.wanted o (yielded ops a.tmps) then _ else _);rw[s];simp only[apb,fG];exact wW h (v:=.Qe []) (u:=undef) ⟨#[],rfl,trivial⟩ c fun E cp F H t x=>Qv n ops p l t x
  simp only[wU]at c;split at c
  .rename_i d;exact q h (by simp[Region.wanted,d]) c
  .rename_i O TA d;split at c
   .rename_i R I;split at c
    .rename_i e K;have g:=Qs (tmps:=a.tmps) I K;have j:=h.ev (.tmp e);rw[show st.ev (.tmp e)=st.get e from rfl]at j;split at c
     .rename_i b z;rw[z]at j;have i:a.tmps.getD e undef=.bool b:=j;rw[i]at g;have m:∀A,b=A->Inv w0 G (st.put e (.v (.c (.bool A)))) a w:=by intro A L;subst L;exact h.lit (.tmp e) b i
      rcases abm c with ⟨B,c⟩|⟨B,c⟩
      .subst B;cases TA with
       |true=>exact q (m true rfl) (by simp[Region.wanted,d,g]) c
       |false=>exact y (m true rfl) (by simp[Region.wanted,d,g]) c
      .subst B;cases TA with
       |true=>exact y (m false rfl) (by simp[Region.wanted,d,g]) c
       |false=>exact q (m false rfl) (by simp[Region.wanted,d,g]) c
     .rename_i z;rw[z]at j;obtain⟨M,i,S⟩:=j;have i:a.tmps.getD e undef=.tuple M:=i;rw[i]at g;exact y h (by simp[Region.wanted,d,g]) c
     .cases c
    .cases c
   .cases c
def ZQ (t:∀f I,C f=some I->Om P w0 f I){Q:Exit->Act->World->Prop}(ops:Array Oper){k:St->Option U}(x:q9 w0 k r (Q .normal)){w:World} :
  ∀(l:List Oper) {G:Gh} {st:St} {a:Act},(l.all fun o=>jK P C o)=true->Inv w0 G st a w->wU P C (nY.Lm N) ops.toList l st k=some r ->
   wpQuiet P ops (fun d=>Below w.heap.size w d) (fun e=>∀d,Below w.heap.size w d->Q .normal e d) l a
 |[],G,st,a,_,h,c=>fun d L=>x G st a d (h.more L) c
 |o::l,G,st,a,q,h,c=>by
  rw[List.all_cons,aE]at q;have y:∀{st:St} {G:Gh},Inv w0 G st a w->Region.wanted o (yielded ops a.tmps)=true->fk P C (nY.Lm N) o st (fun st=>wU P C (nY.Lm N) ops.toList l st k)=some r->wpQuiet P ops (fun d=>Below w.heap.size w d) (fun e=>∀d,Below w.heap.size w d->Q .normal e d) (o::l) a:=by intro st G h z c;show(if Region.wanted o (yielded ops a.tmps) then _ else _);rw[z];obtain⟨v,n,cp,A,B,M⟩:=atz t q.1 h c;exact⟨v,A,ZQ t ops x l q.2 B M⟩
  have D:∀{st:St} {G:Gh},Inv w0 G st a w->Region.wanted o (yielded ops a.tmps)=false->St.pk st o.dst (.Qe []) (fun st=>wU P C (nY.Lm N) ops.toList l st k)=some r->wpQuiet P ops (fun d=>Below w.heap.size w d) (fun e=>∀d,Below w.heap.size w d->Q .normal e d) (o::l) a:=by
   intro st G h z c;show(if Region.wanted o (yielded ops a.tmps) then _ else _);rw[z];simp only[apb,fG];obtain⟨n,cp,A,B⟩:=wW (K:=fun e d=>∃n cp,Inv w0 n cp e d/\wU P C (nY.Lm N) ops.toList l cp k=some r) h (v:=.Qe []) (u:=undef) ⟨#[],rfl,trivial⟩ c fun n cp e d O R=>⟨n,cp,O,R⟩
   exact ZQ t ops x l q.2 A B
  simp only[wU]at c;split at c
  .rename_i g;exact y h (by simp[Region.wanted,g]) c
  .rename_i Y TA g;split at c
   .rename_i Z S;split at c
    .rename_i i T;have j:=Qs (tmps:=a.tmps) S T;have p:=h.ev (.tmp i);rw[show st.ev (.tmp i)=st.get i from rfl]at p;split at c
     .rename_i b E;rw[E]at p;have m:a.tmps.getD i undef=.bool b:=p;rw[m]at j;have s:∀F,b=F->Inv w0 G (st.put i (.v (.c (.bool F)))) a w:=by intro F W;subst W;exact h.lit (.tmp i) b m
      rcases abm c with ⟨H,c⟩|⟨H,c⟩
      .subst H;cases TA with
       |true=>exact y (s true rfl) (by simp[Region.wanted,g,j]) c
       |false=>exact D (s true rfl) (by simp[Region.wanted,g,j]) c
      .subst H;cases TA with
       |true=>exact D (s false rfl) (by simp[Region.wanted,g,j]) c
       |false=>exact y (s false rfl) (by simp[Region.wanted,g,j]) c
     .rename_i E;rw[E]at p;obtain⟨X,m,qd⟩:=p;have m:a.tmps.getD i undef=.tuple X:=m;rw[m]at j;exact D h (by simp[Region.wanted,g,j]) c
     .cases c
    .cases c
   .cases c
def aHZ:Ex->Exit
 |.norm=>.normal|.exit id=>.exit id|.ret=>.ret
def aG8 (w0:dY)(k:Ex->St->Option U)(r:U)(Q:Exit->Act->World->Prop):Prop:=∀e d cp b c,Inv w0 d cp b c->k e cp=some r->Q (aHZ e) b c
def re (l:∀f F,C f=some F->Om P w0 f F)(H:Nat->Option Hint)(q:∀e,NK (azH H) e=true->awG w0 e):∀(c:Code) {st:St} {k:Ex->St->Option U} {G:Gh} {a:Act} {w:World} {Q:Exit->Act->World->Prop},
  Inv w0 G st a w->run P C (nY.Lm N) H c st k=some r->aG8 w0 k r Q->c.wp P Q a w
 |.skip,st,k,G,a,w,Q,h,d,g=>wp_skip (g .norm _ _ _ _ h d)|.region id ops aDM,st,k,G,a,w,Q,h,d,g=>by
  simp only[run]at d;split at d
  .rename_i t;cases aDM with
   |false=>exact wp_region_list (Qv l ops (fun v cp o m j i=>g .norm _ _ _ _ j i) ops.toList h d)
   |true =>
    have t:awh P C ops=true:=by simpa using t
    simp only[awh,aE]at t;obtain⟨⟨u,K⟩,L⟩:=t;have A:Below w.heap.size w {w with drawn:=w.drawn+1}:=⟨rfl,rfl,rfl,bh _,fun _ _=>rfl⟩;exact wp_region_quiet (C:=fun m=>Below w.heap.size w m) u K A (ZQ l ops (fun v cp o m j i=>g .norm _ _ _ _ j i) ops.toList L h d)
  .rename_i t;cases aDM with
   |false=>simp at t
   |true =>
    split at d
    .rename_i u;simp only[aE]at u;have A:Below w.heap.size w {w with drawn:=w.drawn+1}:=⟨rfl,rfl,rfl,bh _,fun _ _=>rfl⟩;obtain⟨z,Y,s,M,O⟩:=akn q h d;exact wp_region_noPanic (wp_region_any u.1.1 (anV l (Q:=NoPanic Q) (fun c a o w h=>h) u.1.2 (by rw[M];exact u.2) (fun v cp o m j i=>g .norm _ _ _ _ j i) (s.more A) O))
    .cases d
 |.seq x y,st,k,G,a,w,Q,h,d,g=>by
  simp only[run]at d;refine wp_seq (re l H q x h d fun e v cp o m j i=>?_);cases e with
  |norm=>exact re l H q y j i g|exit p=>exact g (.exit p) _ _ _ _ j i|ret=>exact g .ret _ _ _ _ j i
 |.cond c x y,st,k,G,a,w,Q,h,d,g=>by
  simp only[run]at d;split at d
  .rename_i b R;have B:=aqX (h.ac c) R;refine wp_cond B ?_;rcases abm d with ⟨D,d⟩|⟨D,d⟩
   .subst D;exact re l H q x (h.lit c true B) d g
   .subst D;exact re l H q y (h.lit c false B) d g
  .cases d
 |.block id x,st,k,G,a,w,Q,h,d,g=>by
  simp only[run]at d;refine wp_block (re l H q x h d fun e v cp o m j i=>?_);cases e with
  |norm=>exact g .norm _ _ _ _ j i
  |exit p =>
   dsimp only at i;show(if p=id then Q .normal o m else Q (.exit p) o m);split at i
   .rename_i E;rw[ak (aK E)];exact g .norm _ _ _ _ j i
   .rename_i E;rw[ag (by rintro rfl;simp at E)];exact g (.exit p) _ _ _ _ j i
  |ret=>exact g .ret _ _ _ _ j i
 |.loop b,st,k,G,a,w,Q,h,d,g=>by
  simp only[run]at d;obtain⟨S,T⟩:=abF (H (q7 b)) h;refine wp_loop_ghost (fun n a w=>∃G st,Inv w0 G st a w/\aDL (fun st k=>run P C (nY.Lm N) H b st k) (H (q7 b)) k n st=some r) N ⟨S,_,T,d⟩ fun n Z qd W=>?_
  obtain⟨qe,qf,X,I⟩:=W;cases n with
  |zero=>cases I
  |succ n =>
   refine re l H q b X I fun e v cp o m j i=>?_
   cases e with
   |norm =>
    obtain⟨z,s⟩:=abF (H (q7 b)) j;exact⟨n,Nat.lt_succ_self n,z,_,s,i⟩
   |exit p =>
    obtain⟨z,s⟩:=abG (H (q7 b)) (.exit p) j;exact g (.exit p) _ _ _ _ s i
   |ret =>
    obtain⟨z,s⟩:=abG (H (q7 b)) .ret j;exact g .ret _ _ _ _ s i
 |.exit id,st,k,G,a,w,Q,h,d,g=>wp_exit (g (.exit id) _ _ _ _ h d)|.ret,st,k,G,a,w,Q,h,d,g=>wp_ret (g .ret _ _ _ _ h d)|.label _,_,_,_,_,_,_,_,d,_=>by cases d
 |.goto _,_,_,_,_,_,_,_,d,_=>by cases d
 |.refuse _,_,_,_,_,_,_,_,d,_=>by cases d
 |.rangeFunc _ _ _ _,_,_,_,_,_,_,_,d,_=>by cases d
 |.scope _,_,_,_,_,_,_,_,d,_=>by cases d
end
end Go.Am
