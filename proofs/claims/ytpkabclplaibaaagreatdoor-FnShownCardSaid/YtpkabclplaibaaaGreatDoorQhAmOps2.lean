/- No condition. -/
import Derived.Test.YtpkabclplaibaaaGreatDoorQhAmOps
set_option linter.all false
namespace Go.Am
open Go.RowKit
variable [ds]
section
variable {N:Nat} {P:Program} {w0:di} {w:World} {G:Gh} {st:St} {a:Act} {U:Type} {k:St->Option U} {r:U} {K:Act->World->Prop} {Q:Exit->Act->World->Prop} {o:Oper}
def EO (h:Inv w0 G st a w)(x:Operand)(e:o.op=.nilCheck x){b d:Nat}(f:st.ac x=.ptr b d)(g:st.pk o.dst (.v (.c (.ptr b d))) k=some r):a8 P w0 w a o k r:=by
 have c:=h.ac x;rw[f]at c;have i:=c.2;refine cJ (u:=a.eval x) h (v:=.v (.c (.ptr b d))) c g fun j l=>?_
 unfold execOp;rw[e];simp[i]
def ZO (h:Inv w0 G st a w)(g:FuncId)(first c:Array Operand)(e:o.op=.makeFunc (.func g) first c)(f:first.toList=[]){x:Operand}(i:c.toList=[x]){b:Nat}(j:st.ac x=.ptr b 0)
  (l:st.pk o.dst (.v (.c (.fnp g b))) k=some r):a8 P w0 w a o k r:=by
 have d:=h.ac x;rw[j]at d;have m:a.eval x=.pointer (some ⟨G.hb b,0,none⟩):=d.2;have n:first=#[]:=by rw[<-qU (xs:=first),f]
 have p:c=#[x]:=by rw[<-qU (xs:=c),i]
 refine cJ (u:=.func (.func g) #[] #[.pointer (some ⟨G.hb b,0,none⟩)]) h (v:=.v (.c (.fnp g b))) ⟨d.1,rfl⟩ l fun q s=>?_
 unfold execOp;rw[e,n,p];simp[Instr.makeFunc,m]
def GK (h:Inv w0 G st a w)(x:Operand)(i:Nat)(c:o.op=.extract x i){l:List CV}(d:st.ev x=.GF l){v:CV}(e:gU l i=some v)(f:st.pk o.dst (.v v) k=some r):a8 P w0 w a o k r:=by
 have b:=h.ev x;rw[d]at b;obtain⟨g,j,hrel⟩:=b;obtain⟨y,m,n⟩:=hrel.nth e;refine cJ (u:=y) h (v:=.v v) n f fun p q=>?_
 unfold execOp;rw[c];dsimp only;rw[j];have:g[i]?=some y:=by simpa using m
 simp[Instr.extract,this]
def ag0 {t:TypeId}{f q:Nat}(h:aef P t f=some q):∃c x i,P.underlying t=some (.struct c)/\c[f]?=some x/\P.info? x.type=some i/\i.size≠0/\x.offset=q:=by
 unfold aef at h;split at h
 .rename_i c e;split at h
  .rename_i x g;split at h
   .cases h
   .rename_i n j;cases h;have b:P.cellsOf x.type≠0:=j;unfold Program.cellsOf at b;cases d:P.info? x.type with
    |none=>rw[d]at b;simp at b|some i=>exact⟨c,x,i,e,g,d,by rw[d]at b;simpa using b,rfl⟩
  .cases h
 .cases h
def Jm (g o n:Nat):(⟨g,o,none⟩:Addr).add n=⟨g,o+n,none⟩:=Addr.add_lit g o n
def aem {t:TypeId}{f q:Nat}(h:aef P t f=some q)(g o:Nat):(Instr.fieldAt t (.pointer (some ⟨g,o,none⟩)) f).run P w=.ok (.pointer (some ⟨g,o+q,none⟩)) w:=by obtain⟨j,x,i,b,c,d,e,rfl⟩:=ag0 h;simp[Instr.fieldAt,run_underlying b,c,Instr.sureAddr,fieldPlace,sizeOf,typeInfo,d,e,Jm]
def aiY (bl:List (Nat×Option dD))(q:Nat):AC->AC->Prop
 |.ptr b off,c=>c=.ptr b (off+q)|.qV id i off,c=>c=.qV id i (off+q)/\∃b,look bl id=some (some b)|.IS f t x off,c=>c=.IS f t x (off+q)|_,_=>False
def a7.shift {bx:List (Nat×List AC)}{bl:List (Nat×Option dD)}{c j:AC}{v:Value}(q:Nat)(h:a7 G w bx bl c v)
  (d:aiY bl q c j) :
  ∃g o,v=.pointer (some ⟨g,o,none⟩)/\a7 G w bx bl j (.pointer (some ⟨g,o+q,none⟩)):=by
 cases c with
 |ptr b off =>
  have d:j=_:=d;subst d;obtain⟨e,rfl⟩:=h;exact⟨_,_,rfl,e,rfl⟩
 |qV id i off =>
  obtain⟨rfl,b,m⟩:=d;obtain⟨e,p,l,g,o,n,cap,u,y,z⟩:=h;have:=z b m;subst this;refine⟨_,_,rfl,e,rfl,l,g,o,n,cap,u,y,fun B s=>?_⟩;rw[m]at s;cases s
  congr 3
  omega
 |IS f t x off =>
  have d:j=_:=d;subst d;obtain⟨b,o,c,rfl,e,p,l,A⟩:=h;exact⟨_,_,rfl,b,o,c,by congr 3;omega,e,p,l,A⟩
 |_=>exact d.elim
def dJ (h:Inv w0 G st a w)(t:TypeId)(x:Operand)(f:Nat)(e:o.op=.fieldAddr t x f){q:Nat}(i:aef P t f=some q){c b:AC}(j:st.ac x=c)
  (l:aiY st.bl q c b)
  (m:st.pk o.dst (.v (.c b)) k=some r):a8 P w0 w a o k r:=by
 have d:=h.ac x;rw[j]at d;obtain⟨g,n,p,hrel⟩:=d.shift q l;refine cJ (u:=.pointer (some ⟨g,n+q,none⟩)) h (v:=.v (.c b)) hrel m fun s y=>?_
 unfold execOp;rw[e];simp only[p,aem i,Sem.run_bind,Result.andThen_ok];rfl
def Wp (h:Inv w0 G st a w)(t:TypeId)(x:Operand)(c:o.op=.unOp .not t x){b:Bool}(d:st.ac x=.bool b)(e:st.pk o.dst (.v (.c (.bool (!b)))) k=some r):a8 P w0 w a o k r:=by
 have f:=acg (h.ac x) d;refine cJ (u:=.bool (!b)) h (v:=.v (.c (.bool (!b)))) rfl e fun g i=>?_
 unfold execOp;rw[c];dsimp only;rw[f];rfl
def Wq (h:Inv w0 G st a w)(t:TypeId)(x:Operand)(c:o.op=.unOp .neg t x){b:IntKind}{n:Int}(d:st.ac x=.int b n)(e:st.pk o.dst (.v (.c (.int b (b.wrap (0-n))))) k=some r):a8 P w0 w a o k r:=by
 have f:a.eval x=.int b n:=by have:=h.ac x;rw[d]at this;exact this
 refine cJ (u:=.int b (b.wrap (0-n))) h (v:=.v (.c (.int b (b.wrap (0-n))))) rfl e fun g i=>?_
 unfold execOp;rw[c];dsimp only;rw[f];rfl
def ZP (b:BinOp)(t:TypeId)(x y:Operand)(u v:Value)(c:u.oneCell'=true)(d:u≠.nilIface):eqGuard b t x y u v=pure ():=by cases u<;>first|(simp[Value.oneCell']at c;done)|exact absurd rfl d|(cases b<;>rfl)
def aj9 {g:BinOp}{d:IntKind}{p q:Int}{h:AC->Option U}(b:aoW g d p q h=some r)(t:TypeId) :
  ∃c v,h c=some r/\(∀w,(binOp g t (.int d p) (.int d q)).run P w=.ok v w)/\∀G i j,a7 G w i j c v:=by
 cases g with
 |add=>exact⟨_,_,b,fun w=>by rw[binOp_add];rfl,fun _ _ _=>rfl⟩
 |sub=>exact⟨_,_,b,fun w=>by rw[binOp_sub];rfl,fun _ _ _=>rfl⟩
 |mul=>exact⟨_,_,b,fun w=>by rw[binOp_mul];rfl,fun _ _ _=>rfl⟩
 |quo =>
  obtain⟨e,b⟩:=aG b;have f:q≠0:=by rintro rfl;simp at e
  exact⟨_,_,b,fun w=>by rw[binOp_quo];simp[Op.intDiv,f],fun _ _ _=>rfl⟩
 |rem =>
  obtain⟨e,b⟩:=aG b;have f:q≠0:=by rintro rfl;simp at e
  exact⟨_,_,b,fun w=>by rw[binOp_rem];simp[Op.intDiv,f],fun _ _ _=>rfl⟩
 |and=>exact⟨_,_,b,fun w=>by rw[binOp_and];rfl,fun _ _ _=>rfl⟩
 |or=>exact⟨_,_,b,fun w=>by rw[binOp_or];rfl,fun _ _ _=>rfl⟩
 |xor=>exact⟨_,_,b,fun w=>by rw[binOp_xor];rfl,fun _ _ _=>rfl⟩
 |eql=>exact⟨_,_,b,fun w=>by rw[binOp_eql];rfl,fun _ _ _=>rfl⟩
 |neq=>exact⟨_,_,b,fun w=>by rw[binOp_neq];rfl,fun _ _ _=>rfl⟩
 |lss=>exact⟨_,_,b,fun w=>by rw[binOp_lss];rfl,fun _ _ _=>rfl⟩
 |leq=>exact⟨_,_,b,fun w=>by rw[binOp_leq];rfl,fun _ _ _=>rfl⟩
 |gtr=>exact⟨_,_,b,fun w=>by rw[binOp_gtr];rfl,fun _ _ _=>rfl⟩
 |geq=>exact⟨_,_,b,fun w=>by rw[binOp_geq];rfl,fun _ _ _=>rfl⟩
 |_=>cases b
def Tm {f:BinOp}{g ke:IntKind}{p q:Int}{h:AC->Option U}(b:aiH f g p q h=some r)(t:TypeId) :
  ∃c v,h c=some r/\(∀w,(binOp f t (.int g p) (.int ke q)).run P w=.ok v w)/\∀G i j,a7 G w i j c v:=by
 cases f with
 |shl =>
  obtain⟨d,b⟩:=aG b;have e:¬q<0:=by have:=wb d;omega
  exact⟨_,_,b,fun w=>by rw[binOp_shl];simp[Op.shift,e],fun _ _ _=>rfl⟩
 |shr =>
  obtain⟨d,b⟩:=aG b;have e:¬q<0:=by have:=wb d;omega
  exact⟨_,_,b,fun w=>by rw[binOp_shr];simp[Op.shift,e],fun _ _ _=>rfl⟩
 |_=>cases b
def aka {d:BinOp}{p q:ByteArray}{e:AC->Option U}(b:aoX (kk.CX N) d p q e=some r)(t:TypeId) :
  ∃c v,e c=some r/\(∀w,(binOp d t (.string p) (.string q)).run P w=.ok v w)/\∀G f g,a7 G w f g c v:=by
 have h:∀d,binOp d t (.string p) (.string q)=Op.stringOp d p q:=fun d=>by cases d<;>rfl
 rw[h];cases d with
 |add =>
  obtain⟨i,b⟩:=aG b;have j:¬((p.size+q.size:Nat):Int)>IntKind.i64.max:=by have:=wb i;dsimp only[kk.CX]at this;rw[IntKind.max_i64];omega
  refine⟨_,.string (p++q),b,fun w=>?_,fun _ _ _=>rfl⟩;unfold Op.stringOp;dsimp only;rw[ag j];rfl
 |eql=>exact⟨_,_,b,fun _=>rfl,fun _ _ _=>rfl⟩
 |neq=>exact⟨_,_,b,fun _=>rfl,fun _ _ _=>rfl⟩
 |lss=>exact⟨_,_,b,fun _=>rfl,fun _ _ _=>rfl⟩
 |leq=>exact⟨_,_,b,fun _=>rfl,fun _ _ _=>rfl⟩
 |gtr=>exact⟨_,_,b,fun _=>rfl,fun _ _ _=>rfl⟩
 |geq=>exact⟨_,_,b,fun _=>rfl,fun _ _ _=>rfl⟩
 |_=>cases b
def aly {l:BinOp}{t:TypeId}{x y:AC}{u v:Value}{bx:List (Nat×List AC)}{bl:List (Nat×Option dD)}{j:AC->Option U}(g:a7 G w bx bl x u)(h:a7 G w bx bl y v)
  (b:anH P (kk.CX N) l t x y j=some r):∃c z,j c=some r/\(∀w,(binOp l t u v).run P w=.ok z w)/\u.oneCell'=true/\u≠.nilIface/\∀G bx bl,a7 G w bx bl c z:=by
 unfold anH at b;split at b
 .rename_i A p ke q;cases g;cases h;split at b
  .obtain⟨c,z,d,e,f⟩:=Tm (P:=P) (w:=w) (ke:=ke) b t;exact⟨c,z,d,e,rfl,by simp,f⟩
  .obtain⟨c,z,d,e,f⟩:=Tm (P:=P) (w:=w) (ke:=ke) b t;exact⟨c,z,d,e,rfl,by simp,f⟩
  .obtain⟨m,n⟩:=aG b;have s:=Po m;subst s;obtain⟨c,z,d,e,f⟩:=aj9 (P:=P) (w:=w) n t;exact⟨c,z,d,e,rfl,by simp,f⟩
 .cases g;cases h;obtain⟨c,z,d,e,f⟩:=aka (P:=P) (w:=w) b t;exact⟨c,z,d,e,rfl,by simp,f⟩
 .cases g;cases h;split at b
  .rename_i i;exact⟨_,_,b,fun w=>run_eql_bool w t _ _ i,rfl,by simp,fun _ _ _=>rfl⟩
  .rename_i i;exact⟨_,_,b,fun w=>run_neq_bool w t _ _ i,rfl,by simp,fun _ _ _=>rfl⟩
  .cases b
 .cases b
def N1 (h:Inv w0 G st a w)(d:BinOp)(t:TypeId)(x y:Operand)(g:TypeId)(i:o.op=.binOp d t x y g){p q:AC}(j:st.c6 x=.c p)(l:st.c6 y=.c q)
  (b:anH P (kk.CX N) d t p q (fun r=>st.pk o.dst (.v (.c r)) k)=some r):a8 P w0 w a o k r:=by
 have e:=h.c6 x;have f:=h.c6 y;rw[j]at e;rw[l]at f;obtain⟨c,z,b,m,n,s,hrel⟩:=aly (P:=P) e f b;refine cJ (u:=z) h (v:=.v (.c c)) (hrel _ _ _) b fun A B=>?_
 unfold execOp;rw[i];simp[ZP d t x y _ _ n s,m]
def Pw {w1:World}{bx:List (Nat×List AC)}{bl:List (Nat×Option dD)}{d:Nat}{xs ys:Array Value}:∀(A:List Field) (i:Nat) (l m:List AC) (c:Bool),eqFields P A i l m=some c ->
  bD (a7 G w bx bl) l (xs.toList.drop i)->bD (a7 G w bx bl) m (ys.toList.drop i)->(Op.eqFields (d+1) xs ys A).run P w1=.ok c w1
 |[],_,[],[],c,h,_,_=>by cases h;rfl
 |[],_,_::_,_,_,h,_,_=>by simp[eqFields]at h
 |[],_,[],_::_,_,h,_,_=>by simp[eqFields]at h
 |_::_,_,[],_,_,h,_,_=>by simp[eqFields]at h
 |_::_,_,_::_,[],_,h,_,_=>by simp[eqFields]at h
 |f::A,i,a::r,b::s,c,h,T,W=>by
  simp only[eqFields]at h;split at h
  .rename_i H;rw[az]at H;have X:=aA H.1
   have Y : f.name ≠ "_" := by have := H.2; simpa using this
   split at h
   .rename_i O Z;have tail:∀{v:Value} {n:Array Value} {l:List AC} {a:AC},bD (a7 G w bx bl) (a::l) (n.toList.drop i)->∃v,n[i]?=some v/\a7 G w bx bl a v/\bD (a7 G w bx bl) l (n.toList.drop (i+1)):=by
     intro _ n l a t;cases D:n.toList.drop i with
     |nil=>rw[D]at t;exact t.elim
     |cons v qa =>
      rw[D]at t;have E:n.toList[i]?=some v:=by have:=Tb (xs:=n.toList) (i:=i) (j:=0);rw[D]at this;simpa using this.symm
      have F:n.toList.drop (i+1)=qa:=by rw[<-List.drop_drop,D];rfl
      exact⟨v,by simpa using E,t.1,by rw[F];exact t.2⟩
    obtain⟨v,qb,I,qd⟩:=tail (v:=undef) T;obtain⟨u,qe,L,qf⟩:=tail (v:=undef) W;have qg:=Pw (w1:=w1) (d:=d) A (i+1) r s O Z qd qf;have R:∀{e:TypeId} {n:Array Value} {z:Value} {q:TypeDesc},P.underlying e=some q->(q=.string\/q=.bool\/∃k,q=.int k)->n[i]?=some z->(part e n i).run P w1=.ok z w1:=by intro e n z q g p t;rcases p with rfl|rfl|⟨k,rfl⟩<;>simp[part,isAgg,run_underlying g,t]
    have M:∀{q:TypeDesc} {e:Bool},P.underlying f.type=some q->(q=.string\/q=.bool\/∃k,q=.int k)->(Op.equalIn (d+1) f.type v u).run P w1=.ok e w1->c=(e&&O)->(Op.eqFields (d+1) xs ys (f::A)).run P w1=.ok c w1:=by
     intro q e g p qh S;have E:=R g p qb;have F:=R g p qe;rw[<-X]at E F;simp only[Op.eqFields,Y,ne_eq,not_false_eq_true,eJ,Sem.run_bind,E,F,qh,Result.andThen_ok];cases e with
     |true=>simpa [S]using qg|false=>simp[S]
    split at h
    .rename_i qi k x l y g;split at h
     .rename_i p;have p:=Po p;subst p;have B:v=.int k x:=I;have C:u=.int k y:=L;exact M g (.inr (.inr ⟨_,rfl⟩)) (by rw[B,C];exact run_equalIn_int w1 d _ k qi x y g) (dI h).symm
     .cases h
    .rename_i x y g;have B:v=.string x:=I;have C:u=.string y:=L;exact M g (.inl rfl) (by rw[B,C];exact run_equalIn_string w1 d _ x y g) (dI h).symm
    .rename_i x y g;have B:v=.bool x:=I;have C:u=.bool y:=L;exact M g (.inr (.inl rfl)) (by rw[B,C];exact run_equalIn_bool' w1 d _ x y g) (dI h).symm
    .cases h
   .cases h
  .cases h
def kl (h:Inv w0 G st a w)(g:BinOp)(t:TypeId)(x y:Operand)(B:TypeId)(C:o.op=.binOp g t x y B){l m:List AC}(D:st.c6 x=.agg l)(E:st.c6 y=.agg m)
  {c b:Bool} (e:Wb P t l m=some c) (F:(g=.eql/\b=c)\/(g=.neq/\b= !c)) (H:st.pk o.dst (.v (.c (.bool b))) k=some r):a8 P w0 w a o k r:=by
 have n:=h.c6 x;have p:=h.c6 y;rw[D]at n;rw[E]at p;obtain⟨xs,I,L⟩:=n;obtain⟨i,M,O⟩:=p;unfold Wb at e;split at e
 .rename_i q s;split at e
  .rename_i j;rw[HA]at j;have z:P.fieldsOf t=q:=by simp[Program.fieldsOf,s]
   refine cJ (u:=.bool b) h (v:=.v (.c (.bool b))) rfl H fun f R=>?_
   have A:(Op.equalIn 10000 t (.agg xs) (.agg i)).run P f=.ok c f:=by rw[show(10000:Nat)=9999+1 from rfl,run_equalIn_struct f 9999 t xs i (by rw[z];exact s) j.1,z];exact Pw (d:=9998) q.toList 0 l m c e L O
   unfold execOp;rw[C];dsimp only;rw[I,M];simp only[Sem.run_bind,run_eqGuard_agg f g t x y xs i j.2,Result.andThen_ok];rcases F with ⟨rfl,rfl⟩|⟨rfl,rfl⟩
   .rw[run_eql_struct,A];rfl
   .rw[run_neq_struct,A];rfl
  .cases e
 .cases e
def GL (h:Inv w0 G st a w)(d e:TypeId)(x:Operand)(f:o.op=.convert d e x){g b c:IntKind}{n:Int}(i:P.underlying d=some (.int g))(j:P.underlying e=some (.int b))
  (l:st.ac x=.int c n) (m:st.pk o.dst (.v (.c (.int b (b.wrap n)))) k=some r):a8 P w0 w a o k r:=by
 have p:a.eval x=.int c n:=by have:=h.ac x;rw[l]at this;exact this
 refine cJ (u:=.int b (b.wrap n)) h (v:=.v (.c (.int b (b.wrap n)))) rfl m fun q s=>?_
 unfold execOp;rw[f];dsimp only;rw[p];simp[convert,run_underlying i,run_underlying j,Conv.intToInt]
def GM (h:Inv w0 G st a w)(b c:TypeId)(x:Operand)(d:o.op=.convert b c x){s:ByteArray}(e:P.underlying b=some .string)(f:P.underlying c=some .string)
  (g:st.ac x=.str s) (i:st.pk o.dst (.v (.c (.str s))) k=some r):a8 P w0 w a o k r:=by
 have j:a.eval x=.string s:=by have:=h.ac x;rw[g]at this;exact this
 refine cJ (u:=.string s) h (v:=.v (.c (.str s))) rfl i fun l m=>?_
 unfold execOp;rw[d];dsimp only;rw[j];simp[convert,run_underlying e,run_underlying f]
def akb (h:Inv w0 G st a w){c:AC}{v:Value}(i:a7 G w st.bx st.bl c v){n:Int}(d:Wc st c=some n) :
  (∃s,c=.str s/\v=.string s/\n=(s.size:Int))\/∃A m cap,v=.slice A m cap/\n=(m:Int)/\∀s,c≠.str s:=by
 cases c with
 |nil=>cases d;exact .inr ⟨_,_,_,i,rfl,by simp⟩
 |ro f e t xs =>
  cases d;obtain⟨A,cap,q,_⟩:=i;have:=(we q).1;exact .inr ⟨A,_,cap,this,rfl,by simp⟩
 |own id len =>
  cases len with
  |none =>
   simp only[Wc]at d;unfold St.kA at d;cases p:look st.bl id with
   |none=>rw[p]at d;cases d
   |some y =>
    rw[p]at d;cases y with
    |none=>cases d
    |some b =>
     cases d;have u:=h.bl id b p;have q:v=G.hv id:=i.2.2;rw[q];cases x:b.w with
     |true =>
      obtain⟨cs,z,_,_⟩:=u.wr x;rcases z.2 with ⟨j,B⟩|⟨g,cap,cur,j,_⟩
      .exact .inr ⟨_,_,_,j,by omega,by simp⟩
      .exact .inr ⟨_,_,_,j,rfl,by simp⟩
     |false =>
      obtain⟨A,cap,j,_⟩:=u.rd x;exact .inr ⟨A,_,cap,(we j).1,rfl,by simp⟩
  |some l =>
   cases d;obtain⟨_,C,A,m,cap,_,p,rfl⟩:=i;exact .inr ⟨A,_,cap,rfl,by omega,by simp⟩
 |str s=>cases d;exact .inl ⟨s,rfl,i,rfl⟩|_=>cases d
def Fc (h:Inv w0 G st a w)(x:Operand)(t:TypeId){args:Array Operand}{ts:Array TypeId}(d:o.op=.call {callee:=.builtin .len,args:=args,argTypes:=ts})(f:args.toList=[x])(g:ts.toList=[t])
  {n:Int} (i:Wc st (st.ac x)=some n) (b:(P.underlying t=some .string/\∃s,st.ac x=.str s)\/((∃e,P.underlying t=some (.slice e))/\∀s,st.ac x≠.str s))
  (j:st.pk o.dst (.v (.c (.int .i64 n))) k=some r):a8 P w0 w a o k r:=by
 have l:args=#[x]:=by rw[<-qU (xs:=args),f]
 have p:ts=#[t]:=by rw[<-qU (xs:=ts),g]
 subst l p;refine cJ (u:=.int .i64 n) h (v:=.v (.c (.int .i64 n))) rfl j fun z B=>?_
 unfold execOp;rw[d];rcases akb h (h.ac x) i with ⟨s,q,c,rfl⟩|⟨A,m,cap,c,rfl,y⟩
 .rcases b with ⟨b,_⟩|⟨_,b⟩
  .simp[resolve,invoke,builtin,c,Builtin.len_,run_underlying b,goInt]
  .exact absurd q (b s)
 .rcases b with ⟨_,s,b⟩|⟨⟨e,b⟩,_⟩
  .exact absurd b (y s)
  .simp[resolve,invoke,builtin,c,Builtin.len_,run_underlying b,goInt]
def N2 (h:Inv w0 G st a w)(t:TypeId)(x i:Operand)(c:o.op=.index t x i)(d:P.underlying t=some .string){s:ByteArray}{b:IntKind}{n:Int}(e:st.ac x=.str s)(f:st.ac i=.int b n)
  (g:0<=n) (z:n<(s.size:Int)) (j:st.pk o.dst (.v (.c (.int .u8 (gf s n)))) k=some r):a8 P w0 w a o k r:=by
 have l:a.eval x=.string s:=by have:=h.ac x;rw[e]at this;exact this
 have m:a.eval i=.int b n:=by have:=h.ac i;rw[f]at this;exact this
 refine cJ (u:=.int .u8 (gf s n)) h (v:=.v (.c (.int .u8 (gf s n)))) rfl j fun A B=>?_
 unfold execOp;rw[c];dsimp only;rw[l,m];have hlt:n.toNat<s.size:=by omega
 have p:s[n.toNat]?=some (s[n.toNat]'hlt):=by simp[getElem?_pos,hlt]
 have q:gf s n=((s[n.toNat]'hlt).toNat:Int):=by
  have y:n.toNat<s.data.toList.length:=by simpa using hlt
  simp only[gf,I6,kK y];rfl
 simp[Instr.index,run_underlying d,asIntOf,g,p,q]
def tX (h:Inv w0 G st a w)(t:TypeId)(x:Operand)(f:Nat)(D:o.op=.field t x f){j:TypeId}{z:Nat}(s:ab0 P t f=some (j,z)){l:List AC}(T:st.c6 x=.agg l)
  (W:Nat.beq (nk (P.cellsOf j) (nm z l)).length (P.cellsOf j)=true)
  {b:Bool} (B:L5 P j=some b)
  {v:CV} (E:match b with|true=>v=.agg (nk (P.cellsOf j) (nm z l))|false=>∃y,nk (P.cellsOf j) (nm z l)=[y]/\v=.c y)
  (F:st.pk o.dst (.v v) k=some r):a8 P w0 w a o k r:=by
 have H:=h.c6 x;rw[T]at H;obtain⟨n,I,hrel⟩:=H;have g:=(hrel.drop z).take (P.cellsOf j);have hlen:=g.len;have X:=aA W;obtain⟨A,e,p,C,rfl,rfl⟩:∃A e,P.underlying t=some (.struct A)/\A[f]?=some e/\e.type=j/\e.offset=z:=by
  unfold ab0 at s;split at s
  .rename_i A p;split at s
   .rename_i e C;cases s;exact⟨A,e,p,C,rfl,rfl⟩
   .cases s
  .cases s
 obtain⟨i,L⟩:=pJ B;have M:∀w,(isAgg e.type).run P w=.ok b w:=by
  intro w;unfold isAgg L5 at *;cases p:P.underlying e.type with
  |none=>rw[p]at B;cases B
  |some d =>
   rw[p]at B;rw[Sem.run_bind,run_underlying p w];cases d<;>simp_all
 have Y:P.cellsOf e.type=i.size:=by simp[Program.cellsOf,L]
 have Z:(n.toList.drop e.offset).take i.size=(n.extract e.offset (e.offset+i.size)).toList:=by simp[Array.toList_extract,List.extract_eq_take_drop]
 cases b with
 |true =>
  subst E;refine cJ (u:=.agg (n.extract e.offset (e.offset+i.size))) h (v:=.v (.agg _)) ⟨_,rfl,by rw[<-Z,<-Y];exact g⟩ F fun qa qb=>?_
  unfold execOp;rw[D];simp[Instr.field,run_underlying p,C,I,asAgg,part,M,sizeOf,typeInfo,L]
 |false =>
  obtain⟨y,O,rfl⟩:=E;rw[O]at g;obtain⟨u,q⟩:∃u,(n.toList.drop e.offset).take (P.cellsOf e.type)=[u]:=by
   cases R:(n.toList.drop e.offset).take (P.cellsOf e.type) with
   |nil=>rw[R]at g;exact g.elim
   |cons u m =>
    rw[R]at g;cases m with
    |nil=>exact⟨u,rfl⟩|cons _ _=>exact g.2.elim
  rw[q]at g;have qd:P.cellsOf e.type=1:=by rw[<-X,O];rfl
  have qe:n[e.offset]?=some u:=by
   rw[qd]at q;have:(n.toList.drop e.offset)[0]?=some u:=by
    cases S:n.toList.drop e.offset with
    |nil=>rw[S]at q;simp at q|cons c m=>rw[S]at q;simp at q;simp[q]
   simpa using this
  refine cJ (u:=u) h (v:=.v (.c y)) g.1 F fun qa qb=>?_
  unfold execOp;rw[D];simp[Instr.field,run_underlying p,C,I,asAgg,part,M,qe]
end
end Go.Am
