/- No condition. -/
import Derived.Test.YtaheoongenkdbaaGreatDoorQeAmFrz
import Derived.Deep.LoopGhost
import Derived.Tactics
set_option linter.all false
namespace Go.Am
open Go.RowKit
def aCE (k:IntKind):ayE k k=true:=by cases k<;>rfl
def Ty.beq_refl:∀(t:Ty),t.beq t=true
 |.int k=>aCE k|.bool|.str|.unit=>rfl|.pair a b=>by show(a.beq a&&b.beq b)=true;rw[Ty.beq_refl a,Ty.beq_refl b];rfl
 |.sl e t=>by show(Nat.beq e e&&t.beq t)=true;rw[Ty.beq_refl t,Bool.and_true];simp
section
variable {P:Program} {w0:eH} {w:World} {G:Gh} {st:St} {a:Act}
def Inv.aEb (h:Inv w0 G st a w)(t:Tmp){v:AV}(d:iy G w st.bx st.bl v (a.tmps.getD t undef)):Inv w0 G (st.put t v) a w:=by
 refine {h with tm:=fun s x b=>?_};simp only[St.put,aq]at b;by_cases c:t=s
 .subst c;simp only[fX]at b;cases b;exact d
 .simp only[c,fW]at b;exact h.tm s x b
def Inv.aEc (h:Inv w0 G st a w)(id:Nat)(hid:look st.bl id=none)(e:TypeId)(u:Ty)(n:0<u.n) :
  ∃d,Inv w0 d {st with bl:=(id,some ⟨e,u,[],true,true⟩)::st.bl} a w/\W0 G w d w/\j5 G st.bx st.bl d st.bx ((id,some ⟨e,u,[],true,true⟩)::st.bl)/\d.hv id=.slice none 0 0:=by
 have j:w.grownBy w none:=⟨rfl,rfl,rfl,bf _,fun _ _ _=>rfl⟩;have k:(G.grow none [(id,some ⟨e,u,[],true,true⟩)] (fun _=>.slice none 0 0) (fun _=>none)).hv id=.slice none 0 0:=by simp[Gh.grow,aq]
 obtain⟨o,p,q⟩:=h.grow none j (fun g j=>by cases j) [(id,some ⟨e,u,[],true,true⟩)] (fun _=>.slice none 0 0) (fun _=>none)
  (fun i l=>by
   rw[aq]at l;by_cases c:id=i
   .rw[<-c];exact hid
   .simp[c,look]at l)
  (fun g i s=>by cases s)
  (fun i b f=>by
   rw[aq]at f;by_cases c:id=i
   .subst c;simp only[fX]at f;cases f;refine⟨fun _=>⟨[],?_,fun g m=>?_,fun y x t=>by simp at t⟩,(fun v=>by simp at v),n⟩
    .rw[k];exact⟨by simp,.inl ⟨rfl,rfl⟩⟩
    .rw[k]at m;simp[Value.ownBlock]at m
   .simp[c,look]at f)
 exact⟨_,o,p,q,k⟩
def atG (h:Inv w0 G st a w)(t:Tmp)(e:TypeId)(u:Ty):∃d,Inv w0 d (atb st t e u) a w:=by
 unfold atb;split
 .rename_i f hid b;obtain⟨g,i,_,_,c⟩:=h.aEc _ hid e u (by cases j:u.n with|zero=>rw[j]at b;cases b|succ n=>omega);have k:a.tmps.getD t undef=.slice none 0 0:=by have:=h.ev (.tmp t);rw[show st.ev (.tmp t)=st.get t from rfl,f]at this;exact this
  refine⟨g,i.aEb t ?_⟩;rw[k];exact⟨by simp[aq],⟨none,0,0,c⟩,c.symm⟩
 .exact⟨G,h⟩
def ap6 (h:Inv w0 G st a w)(b j:Nat)(e:TypeId)(u:Ty):∃F,Inv w0 F (akM st b j e u) a w:=by
 unfold akM;split
 .rename_i l H hid B;split
  .rename_i I;obtain⟨q,c,qb,qd,D⟩:=h.aEc _ hid e u (by cases K:u.n with|zero=>rw[K]at B;cases B|succ n=>omega);have i:=j5.ayQ q st.bx ((3000000+100*b+j,some ⟨e,u,[],true,true⟩)::st.bl) b (NH l j (.own (3000000+100*b+j) none));have o:W0 q w q w:=⟨rfl,rfl,bf _,fun _ _ s=>⟨s,rfl⟩,fun _ _ s=>⟨s,rfl⟩⟩;refine⟨q,c.nw,c.rok,c.below,c.defers,c.size,c.sp.mono o i,c.Fq o,fun t v L=>(c.tm t v L).mono o i,?_,fun id M O=>c.bl id M O,?_⟩
   .intro d m p;simp only[aq]at p;by_cases E:b=d
    .subst E;simp only[fX]at p;cases p;obtain⟨cs,Q,x,z,f⟩:=c.bx b l H;refine⟨cs,Q,x,z,?_⟩;have A:=f.imp fun _ _=>bz.mono o i
     obtain⟨y,R,S⟩:=f.nth I;have T:cs.toList=cs.toList.set j y:=by obtain⟨hlt,W⟩:=wb.1 R;rw[<-W];exact(ayD hlt).symm
     rw[T];refine A.set j ?_;rw[show y=.slice none 0 0 from S];exact⟨by simp[aq],⟨none,0,0,D⟩,D.symm⟩
    .simp only[E,fW]at p;obtain⟨X,Y,f,A,Z⟩:=c.bx d m p;exact⟨X,Y,f,A,Z.imp fun _ _=>bz.mono o i⟩
   .intro g k qa;obtain⟨x,z,f⟩:=c.own g k qa;refine⟨x,z,?_⟩;cases k with
    |hid=>trivial|bx d=>exact⟨(i.bx d f.1).1,f.2⟩|bl id=>exact f
  .exact⟨G,h⟩
 .exact⟨G,h⟩
def awj (h:Inv w0 G st a w)(t:Tmp):∃m,Inv w0 m (aAG st t) a w:=by
 unfold aAG;split
 .rename_i id len n;split
  .rename_i b o;obtain⟨i,j,p,q⟩:=h.dx (.own id len);refine⟨i,j.aEb t ?_⟩;have hrel:=h.ev (.tmp t);rw[show st.ev (.tmp t)=st.get t from rfl,n]at hrel;have s:bz i w (st.dx (.own id len)).bx (st.dx (.own id len)).bl (.own id len) (a.tmps.getD t undef):=bz.mono p q (c:=.own id len) hrel;have k:look (st.dx (.own id len)).bl id=some (some {b with w:=false}):=by rw[mB o];simp[aq]
   have v:cx (st.dx (.own id len)) b.t (.own id len)=some (I8 b.xs len):=by simp only[cx,St.oG,k];rw[dif_pos (Ty.beq_refl b.t)];rfl
   refine jO j s v (fun z A B d l=>?_) (fun f e u D d=>by cases d) b.e;cases d;rw[k]at l;have:=eE (eE l);subst this;exact⟨fun g x=>x,fun y=>by cases y⟩
  .exact⟨G,h⟩
 .exact⟨G,h⟩
def Inv.aEd (h:Inv w0 G st a w){b j:Nat}{l:List AC}{c o:AC}(z:look st.bx b=some l)(A:mA l j=some c)(B:∀v,bz G w st.bx st.bl c v->bz G w st.bx st.bl o v) :
  Inv w0 G {st with bx:=(b,NH l j o)::st.bx} a w:=by
 have f:=j5.ayQ G st.bx st.bl b (NH l j o);have i:W0 G w G w:=⟨rfl,rfl,bf _,fun _ _ p=>⟨p,rfl⟩,fun _ _ p=>⟨p,rfl⟩⟩;refine⟨h.nw,h.rok,h.below,h.defers,h.size,h.sp.mono i f,h.Fq i,fun t v D=>(h.tm t v D).mono i f,?_,fun id E F=>h.bl id E F,?_⟩
 .intro d m n;simp only[aq]at n;by_cases x:b=d
  .subst x;simp only[fX]at n;cases n;obtain⟨cs,H,q,s,e⟩:=h.bx b l z;refine⟨cs,H,q,s,?_⟩;have u:=e.imp fun _ _=>bz.mono i f
   obtain⟨y,I,K⟩:=e.nth A;have L:cs.toList=cs.toList.set j y:=by obtain⟨hlt,M⟩:=wb.1 I;rw[<-M];exact(ayD hlt).symm
   rw[L];exact u.set j (bz.mono i f (B y K))
  .simp only[x,fW]at n;obtain⟨O,Q,e,u,R⟩:=h.bx d m n;exact⟨O,Q,e,u,R.imp fun _ _=>bz.mono i f⟩
 .intro g k S;obtain⟨q,s,e⟩:=h.own g k S;refine⟨q,s,?_⟩;cases k with
  |hid=>trivial|bx d=>exact⟨(f.bx d e.1).1,e.2⟩|bl id=>exact e
def atH (h:Inv w0 G st a w)(b j:Nat):∃s,Inv w0 s (atc st b j) a w:=by
 unfold atc;split
 .rename_i l d;split
  .rename_i id len k;split
   .rename_i c n;obtain⟨o,p,B,D⟩:=h.dx (.own id len);have x:look (st.dx (.own id len)).bx b=some l:=by rw[mB n];exact d
    refine⟨o,p.aEd x k fun v y=>?_⟩;have q:look (st.dx (.own id len)).bl id=some (some {c with w:=false}):=by rw[mB n];simp[aq]
    have z:cx (st.dx (.own id len)) c.t (.own id len)=some (I8 c.xs len):=by simp only[cx,St.oG,q];rw[dif_pos (Ty.beq_refl c.t)];rfl
    refine ic (ok:=RO o c.f) (fun g i=>i.Jc fun h=>by cases h) (jO p y z (fun E F H m d=>?_) (fun f e u I m=>by cases m) c.e);cases m;rw[q]at d;have:=eE (eE d);subst this;exact⟨fun g i=>i,fun A=>by cases A⟩
   .exact⟨G,h⟩
  .rename_i f e t xs k;exact⟨G,h.aEd d k fun v hrel=>ic (fun g i=>i.Jc fun h=>by cases h) hrel⟩
  .exact⟨G,h⟩
 .exact⟨G,h⟩
def atI (h:Inv w0 G st a w)(t:Tmp):∃E,Inv w0 E (atd st t) a w:=by
 unfold atd;split
 .rename_i f e u xs o;have hrel:=h.ev (.tmp t);rw[show st.ev (.tmp t)=st.get t from rfl,o]at hrel;exact⟨G,h.aEb t (show Rd w (RO G false) (.sl e u) xs [_] from ic (fun g j=>j.Jc fun h=>by cases h) hrel)⟩
 .rename_i id len o;split
  .rename_i b F;have B:=dA F;have p:j5 G st.bx st.bl G st.bx ((id,some {b with f:=false})::st.bl):=j5.ath id _ rfl rfl fun x c=>by cases c;exact⟨b,B,rfl⟩
   have c:W0 G w G w:=⟨rfl,rfl,bf _,fun _ _ q=>⟨q,rfl⟩,fun _ _ q=>⟨q,rfl⟩⟩;refine⟨G,h.nw,h.rok,h.below,h.defers,h.size,h.sp.mono c p,h.Fq c,fun t v o=>(h.tm t v o).mono c p,?_,?_,?_⟩
   .intro d m H;obtain⟨I,K,s,y,l⟩:=h.bx d m H;exact⟨I,K,s,y,l.imp fun _ _=>bz.mono c p⟩
   .intro i L n;simp only[aq]at n;by_cases D:id=i
    .subst D;simp only[fX]at n;cases n;have z:=h.bl id b B;refine⟨fun A=>?_,fun A=>?_,z.pos⟩
     .obtain⟨cs,M,O,Q⟩:=z.wr A;exact⟨cs,M,O,k8 (fun g j=>j.Jc fun h=>by cases h) Q⟩
     .exact ic (fun g j=>j.Jc fun h=>by cases h) (z.rd A)
    .simp only[D,fW]at n;exact h.bl i L n
   .intro g k R;obtain⟨s,y,l⟩:=h.own g k R;refine⟨s,y,?_⟩;cases k with
    |hid=>trivial|bx x=>exact l|bl i=>exact⟨(p.bl i l.1).1,l.2⟩
  .exact⟨G,h⟩
 .exact⟨G,h⟩
def BK {V:Type}{f:St->V->St}(c:∀{G:Gh} {st:St} (h:Inv w0 G st a w) (x:V),∃b,Inv w0 b (f st x) a w):∀(l:List V) {G:Gh} {st:St},Inv w0 G st a w->∃b,Inv w0 b (l.foldl f st) a w
 |[],G,st,h=>⟨G,h⟩|x::l,G,st,h=>by obtain⟨e,d⟩:=c h x;exact BK c l d
def atJ (h:Inv w0 G st a w)(b:Bool):Inv w0 G (aDM st b) a w:=by
 cases b with
 |false=>exact h|true=>exact⟨h.nw,h.rok,h.below,h.defers,h.size,trivial,h.hd,h.tm,h.bx,h.bl,h.own⟩
def awk (b:Hint)(h:Inv w0 G st a w):∃d,Inv w0 d (aDN b st) a w:=by unfold aDN;obtain⟨k,e⟩:=BK (f:=fun st (x:Tmp×TypeId×Ty)=>atb st x.1 x.2.1 x.2.2) (fun h x=>atG h _ _ _) b.mat (atJ h b.aHW);obtain⟨g,c⟩:=BK (f:=fun st (x:Nat×Nat×TypeId×Ty)=>akM st x.1 x.2.1 x.2.2.1 x.2.2.2) (fun h x=>ap6 h _ _ _ _) b.Bg e;obtain⟨g,c⟩:=BK (f:=fun st (x:Nat×Nat)=>atc st x.1 x.2) (fun h x=>atH h _ _) b.roB c;obtain⟨l,i⟩:=BK (f:=aAG) (fun h x=>awj h x) b.roT c;obtain⟨m,j⟩:=BK (f:=atd) (fun h x=>atI h x) b.wk i;exact aai j b.live
def ab5 (b:Option Hint)(h:Inv w0 G st a w):∃c,Inv w0 c (ate b st) a w:=by
 cases b with
 |none=>exact⟨G,h⟩|some b=>exact awk b h
def ab6 (b:Option Hint)(e:Ex)(h:Inv w0 G st a w):∃c,Inv w0 c (aly b e st) a w:=by
 cases b with
 |none=>exact⟨G,h⟩
 |some b =>
  cases e with
  |norm=>exact⟨G,h⟩|exit d=>exact aai h _|ret=>exact aai h _
end
section
variable {N:Nat} {P:Program} {C:FuncId->Option Any} {w0:eH} {U:Type} {r:U}
def QV (n:∀f D,C f=some D->Oo P w0 f D){Q:Exit->Act->World->Prop}(ops:Array Oper){k:St->Option U}(p:ra w0 k r (Q .normal)) :
  ∀(l:List Oper) {w:World} {G:Gh} {st:St} {a:Act},Inv w0 G st a w->w4 P C (oH.Ll N) ops.toList l st k=some r->wpList P ops Q l a w
 |[],w,G,st,a,h,c=>p G st a w h c|o::l,w,G,st,a,h,c=>by
  have q:∀{st:St} {G:Gh},Inv w0 G st a w->Region.wanted o (yielded ops a.tmps)=true->fB P C (oH.Ll N) o st (fun st=>w4 P C (oH.Ll N) ops.toList l st k)=some r->wpList P ops Q (o::l) a w:=by intro st G h s c;show(if Region.wanted o (yielded ops a.tmps) then _ else _);rw[s];exact .inl (wq n h c fun E cy F H t x=>QV n ops p l t x)
  have y:∀{st:St} {G:Gh},Inv w0 G st a w->Region.wanted o (yielded ops a.tmps)=false->St.pk st o.dst (.TV []) (fun st=>w4 P C (oH.Ll N) ops.toList l st k)=some r->wpList P ops Q (o::l) a w:=by intro st G h s c;show(if Region.wanted o (yielded ops a.tmps) then _ else _);rw[s];simp only[aeJ,fW];exact w6 h (v:=.TV []) (u:=undef) ⟨#[],rfl,trivial⟩ c fun E cy F H t x=>QV n ops p l t x
  simp only[w4]at c;split at c
  .rename_i d;exact q h (by simp[Region.wanted,d]) c
  .rename_i O T6 d;split at c
   .rename_i R I;split at c
    .rename_i e K;have g:=QS (tmps:=a.tmps) I K;have j:=h.ev (.tmp e);rw[show st.ev (.tmp e)=st.get e from rfl]at j;split at c
     .rename_i b z;rw[z]at j;have i:a.tmps.getD e undef=.bool b:=j;rw[i]at g;have m:∀A,b=A->Inv w0 G (st.put e (.v (.c (.bool A)))) a w:=by intro A L;subst L;exact h.lit (.tmp e) b i
      rcases abN c with ⟨B,c⟩|⟨B,c⟩
      .subst B;cases T6 with
       |true=>exact q (m true rfl) (by simp[Region.wanted,d,g]) c
       |false=>exact y (m true rfl) (by simp[Region.wanted,d,g]) c
      .subst B;cases T6 with
       |true=>exact y (m false rfl) (by simp[Region.wanted,d,g]) c
       |false=>exact q (m false rfl) (by simp[Region.wanted,d,g]) c
     .rename_i z;rw[z]at j;obtain⟨M,i,S⟩:=j;have i:a.tmps.getD e undef=.tuple M:=i;rw[i]at g;exact y h (by simp[Region.wanted,d,g]) c
     .cases c
    .cases c
   .cases c
def aal (t:∀f I,C f=some I->Oo P w0 f I){Q:Exit->Act->World->Prop}(ops:Array Oper){k:St->Option U}(x:ra w0 k r (Q .normal)){w:World} :
  ∀(l:List Oper) {G:Gh} {st:St} {a:Act},(l.all fun o=>j4 P C o)=true->Inv w0 G st a w->w4 P C (oH.Ll N) ops.toList l st k=some r ->
   wpQuiet P ops (fun d=>Below w.heap.size w d) (fun e=>∀d,Below w.heap.size w d->Q .normal e d) l a
 |[],G,st,a,_,h,c=>fun d L=>x G st a d (h.more L) c
 |o::l,G,st,a,q,h,c=>by
  rw[List.all_cons,aA]at q;have y:∀{st:St} {G:Gh},Inv w0 G st a w->Region.wanted o (yielded ops a.tmps)=true->fB P C (oH.Ll N) o st (fun st=>w4 P C (oH.Ll N) ops.toList l st k)=some r->wpQuiet P ops (fun d=>Below w.heap.size w d) (fun e=>∀d,Below w.heap.size w d->Q .normal e d) (o::l) a:=by intro st G h z c;show(if Region.wanted o (yielded ops a.tmps) then _ else _);rw[z];obtain⟨v,n,cy,A,B,M⟩:=awc t q.1 h c;exact⟨v,A,aal t ops x l q.2 B M⟩
  have D:∀{st:St} {G:Gh},Inv w0 G st a w->Region.wanted o (yielded ops a.tmps)=false->St.pk st o.dst (.TV []) (fun st=>w4 P C (oH.Ll N) ops.toList l st k)=some r->wpQuiet P ops (fun d=>Below w.heap.size w d) (fun e=>∀d,Below w.heap.size w d->Q .normal e d) (o::l) a:=by
   intro st G h z c;show(if Region.wanted o (yielded ops a.tmps) then _ else _);rw[z];simp only[aeJ,fW];obtain⟨n,cy,A,B⟩:=w6 (K:=fun e d=>∃n cy,Inv w0 n cy e d/\w4 P C (oH.Ll N) ops.toList l cy k=some r) h (v:=.TV []) (u:=undef) ⟨#[],rfl,trivial⟩ c fun n cy e d O R=>⟨n,cy,O,R⟩
   exact aal t ops x l q.2 A B
  simp only[w4]at c;split at c
  .rename_i g;exact y h (by simp[Region.wanted,g]) c
  .rename_i Y T6 g;split at c
   .rename_i Z S;split at c
    .rename_i i T;have j:=QS (tmps:=a.tmps) S T;have p:=h.ev (.tmp i);rw[show st.ev (.tmp i)=st.get i from rfl]at p;split at c
     .rename_i b E;rw[E]at p;have m:a.tmps.getD i undef=.bool b:=p;rw[m]at j;have s:∀F,b=F->Inv w0 G (st.put i (.v (.c (.bool F)))) a w:=by intro F W;subst W;exact h.lit (.tmp i) b m
      rcases abN c with ⟨H,c⟩|⟨H,c⟩
      .subst H;cases T6 with
       |true=>exact y (s true rfl) (by simp[Region.wanted,g,j]) c
       |false=>exact D (s true rfl) (by simp[Region.wanted,g,j]) c
      .subst H;cases T6 with
       |true=>exact D (s false rfl) (by simp[Region.wanted,g,j]) c
       |false=>exact y (s false rfl) (by simp[Region.wanted,g,j]) c
     .rename_i E;rw[E]at p;obtain⟨X,m,qa⟩:=p;have m:a.tmps.getD i undef=.tuple X:=m;rw[m]at j;exact D h (by simp[Region.wanted,g,j]) c
     .cases c
    .cases c
   .cases c
def aJ6:Ex->Exit
 |.norm=>.normal|.exit id=>.exit id|.ret=>.ret
def aJi (w0:eH)(k:Ex->St->Option U)(r:U)(Q:Exit->Act->World->Prop):Prop:=∀e d cy b c,Inv w0 d cy b c->k e cy=some r->Q (aJ6 e) b c
def rf (l:∀f E,C f=some E->Oo P w0 f E)(H:Nat->Option Hint):∀(c:Code) {st:St} {k:Ex->St->Option U} {G:Gh} {a:Act} {w:World} {Q:Exit->Act->World->Prop},
  Inv w0 G st a w->run P C (oH.Ll N) H c st k=some r->aJi w0 k r Q->c.wp P Q a w
 |.skip,st,k,G,a,w,Q,h,d,g=>wp_skip (g .norm _ _ _ _ h d)|.region id ops aF9,st,k,G,a,w,Q,h,d,g=>by
  simp only[run]at d;split at d
  .rename_i s;cases aF9 with
   |false=>exact wp_region_list (QV l ops (fun u cy o m j i=>g .norm _ _ _ _ j i) ops.toList h d)
   |true =>
    have s:ayN P C ops=true:=by simpa using s
    simp only[ayN,aA]at s;obtain⟨⟨t,I⟩,K⟩:=s;have z:Below w.heap.size w {w with drawn:=w.drawn+1}:=⟨rfl,rfl,rfl,bf _,fun _ _=>rfl⟩;exact wp_region_quiet (C:=fun m=>Below w.heap.size w m) t I z (aal l ops (fun u cy o m j i=>g .norm _ _ _ _ j i) ops.toList K h d)
  .rename_i s;cases aF9 with
   |false=>simp at s
   |true =>
    split at d
    .rename_i t;simp only[aA]at t;have z:Below w.heap.size w {w with drawn:=w.drawn+1}:=⟨rfl,rfl,rfl,bf _,fun _ _=>rfl⟩;obtain⟨v,X,q,L,M⟩:=awi h d;exact wp_region_noPanic (wp_region_any t.1.1 (ap5 l (Q:=NoPanic Q) (fun c a o w h=>h) t.1.2 (by rw[L];exact t.2) (fun u cy o m j i=>g .norm _ _ _ _ j i) (q.more z) M))
    .cases d
 |.seq x y,st,k,G,a,w,Q,h,d,g=>by
  simp only[run]at d;refine wp_seq (rf l H x h d fun e u cy o m j i=>?_);cases e with
  |norm=>exact rf l H y j i g|exit p=>exact g (.exit p) _ _ _ _ j i|ret=>exact g .ret _ _ _ _ j i
 |.cond c x y,st,k,G,a,w,Q,h,d,g=>by
  simp only[run]at d;split at d
  .rename_i b O;have A:=ati (h.ac c) O;refine wp_cond A ?_;rcases abN d with ⟨B,d⟩|⟨B,d⟩
   .subst B;exact rf l H x (h.lit c true A) d g
   .subst B;exact rf l H y (h.lit c false A) d g
  .cases d
 |.block id x,st,k,G,a,w,Q,h,d,g=>by
  simp only[run]at d;refine wp_block (rf l H x h d fun e u cy o m j i=>?_);cases e with
  |norm=>exact g .norm _ _ _ _ j i
  |exit p =>
   dsimp only at i;show(if p=id then Q .normal o m else Q (.exit p) o m);split at i
   .rename_i D;rw[ag (aJ D)];exact g .norm _ _ _ _ j i
   .rename_i D;rw[af (by rintro rfl;simp at D)];exact g (.exit p) _ _ _ _ j i
  |ret=>exact g .ret _ _ _ _ j i
 |.loop b,st,k,G,a,w,Q,h,d,g=>by
  simp only[run]at d;obtain⟨R,S⟩:=ab5 (H (q9 b)) h;refine wp_loop_ghost (fun n a w=>∃G st,Inv w0 G st a w/\aF7 (fun st k=>run P C (oH.Ll N) H b st k) (H (q9 b)) k n st=some r) N ⟨R,_,S,d⟩ fun n Y Z T=>?_
  obtain⟨qa,qb,W,F⟩:=T;cases n with
  |zero=>cases F
  |succ n =>
   refine rf l H b W F fun e u cy o m j i=>?_
   cases e with
   |norm =>
    obtain⟨v,q⟩:=ab5 (H (q9 b)) j;exact⟨n,Nat.lt_succ_self n,v,_,q,i⟩
   |exit p =>
    obtain⟨v,q⟩:=ab6 (H (q9 b)) (.exit p) j;exact g (.exit p) _ _ _ _ q i
   |ret =>
    obtain⟨v,q⟩:=ab6 (H (q9 b)) .ret j;exact g .ret _ _ _ _ q i
 |.exit id,st,k,G,a,w,Q,h,d,g=>wp_exit (g (.exit id) _ _ _ _ h d)|.ret,st,k,G,a,w,Q,h,d,g=>wp_ret (g .ret _ _ _ _ h d)|.label _,_,_,_,_,_,_,_,d,_=>by cases d
 |.goto _,_,_,_,_,_,_,_,d,_=>by cases d
 |.refuse _,_,_,_,_,_,_,_,d,_=>by cases d
 |.rangeFunc _ _ _ _,_,_,_,_,_,_,_,d,_=>by cases d
 |.scope _,_,_,_,_,_,_,_,d,_=>by cases d
end
end Go.Am
