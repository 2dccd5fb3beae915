/- No condition. -/
import Derived.Test.YtfapcfpkbahneaaGreatDoorQpAmOps
set_option linter.all false
namespace Go.Am
open Go.RowKit
section
variable {N:Nat} {P:Program} {w0:fR} {w:World} {G:Gh} {st:St} {a:Act} {U:Type} {k:St->Option U} {r:U} {K:Act->World->Prop} {Q:Exit->Act->World->Prop} {o:Oper}
def Of (h:Inv w0 G st a w)(x:Operand)(ho:o.op=.nilCheck x){b off:Nat}(hx:st.ac x=.ptr b off)(hr:st.pk o.dst (.v (.c (.ptr b off))) k=some r):bP P w0 w a o k r:=by
 have hp:=h.ac x;rw[hx]at hp;have hp2:=hp.2;refine en (u:=a.eval x) h (v:=.v (.c (.ptr b off))) hp hr fun w1 hB=>?_
 unfold execOp;rw[ho];simp[hp2]
def arH (h:Inv w0 G st a w)(g:FuncId)(first arD:Array Operand)(ho:o.op=.makeFunc (.func g) first arD)(h1:first.toList=[]){x:Operand}(h2:arD.toList=[x]){b:Nat}(hx:st.ac x=.ptr b 0)
  (hr:st.pk o.dst (.v (.c (.fnp g b))) k=some r):bP P w0 w a o k r:=by
 have hp:=h.ac x;rw[hx]at hp;have hp2:a.eval x=.pointer (some ⟨G.hb b,0,none⟩):=hp.2;have e1:first=#[]:=by rw[<-yr (xs:=first),h1]
 have e2:arD=#[x]:=by rw[<-yr (xs:=arD),h2]
 refine en (u:=.func (.func g) #[] #[.pointer (some ⟨G.hb b,0,none⟩)]) h (v:=.v (.c (.fnp g b))) ⟨hp.1,rfl⟩ hr fun w1 hB=>?_
 unfold execOp;rw[ho,e1,e2];simp[Instr.makeFunc,hp2]
def Ro (h:Inv w0 G st a w)(x:Operand)(i:Nat)(ho:o.op=.extract x i){l:List CV}(hx:st.ev x=.UO l){v:CV}(hv:og l i=some v)(hr:st.pk o.dst (.v v) k=some r):bP P w0 w a o k r:=by
 have hp:=h.ev x;rw[hx]at hp;obtain⟨vs,he,hrel⟩:=hp;obtain⟨y,hy,hry⟩:=hrel.nth hv;refine en (u:=y) h (v:=.v v) hry hr fun w1 hB=>?_
 unfold execOp;rw[ho];dsimp only;rw[he];have:vs[i]?=some y:=by simpa using hy
 simp[Instr.extract,this]
def aBf {t:TypeId}{f q:Nat}(h:axS P t f=some q):∃fs x i,P.underlying t=some (.struct fs)/\fs[f]?=some x/\P.info? x.type=some i/\i.size≠0/\x.offset=q:=by
 unfold axS at h;split at h
 .rename_i fs hu;split at h
  .rename_i x hx;split at h
   .cases h
   .rename_i n hn;cases h;have hn0:P.cellsOf x.type≠0:=hn;unfold Program.cellsOf at hn0;cases hi:P.info? x.type with
    |none=>rw[hi]at hn0;simp at hn0|some i=>exact⟨fs,x,i,hu,hx,hi,by rw[hi]at hn0;simpa using hn0,rfl⟩
  .cases h
 .cases h
def Ve (g o n:Nat):(⟨g,o,none⟩:Addr).add n=⟨g,o+n,none⟩:=Addr.add_lit g o n
def ax0 {t:TypeId}{f q:Nat}(h:axS P t f=some q)(g o:Nat):(Instr.fieldAt t (.pointer (some ⟨g,o,none⟩)) f).run P w=.ok (.pointer (some ⟨g,o+q,none⟩)) w:=by obtain⟨fs,x,i,hu,hx,hi,hs,rfl⟩:=aBf h;simp[Instr.fieldAt,run_underlying hu,hx,Instr.sureAddr,fieldPlace,sizeOf,typeInfo,hi,hs,Ve]
def aDm (bl:List (Nat×Option gB))(q:Nat):AC->AC->Prop
 |.ptr b off,c=>c=.ptr b (off+q)|.LI id i off,c=>c=.LI id i (off+q)/\∃b,look bl id=some (some b)|.UA f t x off,c=>c=.UA f t x (off+q)|_,_=>False
def bS.shift {bx:List (Nat×List AC)}{bl:List (Nat×Option gB)}{c c':AC}{v:Value}(q:Nat)(h:bS G w bx bl c v)
  (hc:aDm bl q c c') :
  ∃g o,v=.pointer (some ⟨g,o,none⟩)/\bS G w bx bl c' (.pointer (some ⟨g,o+q,none⟩)):=by
 cases c with
 |ptr b off =>
  have hc:c'=_:=hc;subst hc;obtain⟨h1,rfl⟩:=h;exact⟨_,_,rfl,h1,rfl⟩
 |LI id i off =>
  obtain⟨rfl,b,hb⟩:=hc;obtain⟨h1,h2,h3,g,o,n,cap,hv,hi,hp⟩:=h;have:=hp b hb;subst this;refine⟨_,_,rfl,h1,rfl,h3,g,o,n,cap,hv,hi,fun b' CL=>?_⟩;rw[hb]at CL;cases CL
  congr 3
  omega
 |UA f t x off =>
  have hc:c'=_:=hc;subst hc;obtain⟨b,o,c,rfl,h1,h2,h3,h4⟩:=h;exact⟨_,_,rfl,b,o,c,by congr 3;omega,h1,h2,h3,h4⟩
 |_=>exact hc.elim
def fZ (h:Inv w0 G st a w)(t:TypeId)(x:Operand)(f:Nat)(ho:o.op=.fieldAddr t x f){q:Nat}(hq:axS P t f=some q){c c':AC}(hc:st.ac x=c)
  (hcc:aDm st.bl q c c')
  (hr:st.pk o.dst (.v (.c c')) k=some r):bP P w0 w a o k r:=by
 have hp:=h.ac x;rw[hc]at hp;obtain⟨g,q',hv,hrel⟩:=hp.shift q hcc;refine en (u:=.pointer (some ⟨g,q'+q,none⟩)) h (v:=.v (.c c')) hrel hr fun w1 hB=>?_
 unfold execOp;rw[ho];simp only[hv,ax0 hq,Sem.run_bind,Result.andThen_ok];rfl
def am5 (h:Inv w0 G st a w)(t:TypeId)(x:Operand)(ho:o.op=.unOp .not t x){b:Bool}(hx:st.ac x=.bool b)(hr:st.pk o.dst (.v (.c (.bool (!b)))) k=some r):bP P w0 w a o k r:=by
 have hb:=avd (h.ac x) hx;refine en (u:=.bool (!b)) h (v:=.v (.c (.bool (!b)))) rfl hr fun w1 hB=>?_
 unfold execOp;rw[ho];dsimp only;rw[hb];rfl
def am6 (h:Inv w0 G st a w)(t:TypeId)(x:Operand)(ho:o.op=.unOp .neg t x){kd:IntKind}{n:Int}(hx:st.ac x=.int kd n)(hr:st.pk o.dst (.v (.c (.int kd (kd.wrap (0-n))))) k=some r):bP P w0 w a o k r:=by
 have hb:a.eval x=.int kd n:=by have:=h.ac x;rw[hx]at this;exact this
 refine en (u:=.int kd (kd.wrap (0-n))) h (v:=.v (.c (.int kd (kd.wrap (0-n))))) rfl hr fun w1 hB=>?_
 unfold execOp;rw[ho];dsimp only;rw[hb];rfl
def arI (op:BinOp)(t:TypeId)(x y:Operand)(u v:Value)(hu:u.oneCell'=true)(hn:u≠.nilIface):eqGuard op t x y u v=pure ():=by cases u<;>first|(simp[Value.oneCell']at hu;done)|exact absurd rfl hn|(cases op<;>rfl)
def aEZ {op:BinOp}{kd:IntKind}{p q:Int}{kk:AC->Option U}(hr:aK4 op kd p q kk=some r)(t:TypeId) :
  ∃c v,kk c=some r/\(∀w,(binOp op t (.int kd p) (.int kd q)).run P w=.ok v w)/\∀G bx bl,bS G w bx bl c v:=by
 cases op with
 |add=>exact⟨_,_,hr,fun w=>by rw[binOp_add];rfl,fun _ _ _=>rfl⟩
 |sub=>exact⟨_,_,hr,fun w=>by rw[binOp_sub];rfl,fun _ _ _=>rfl⟩
 |mul=>exact⟨_,_,hr,fun w=>by rw[binOp_mul];rfl,fun _ _ _=>rfl⟩
 |quo =>
  obtain⟨hc,hr⟩:=aY hr;have hq:q≠0:=by rintro rfl;simp at hc
  exact⟨_,_,hr,fun w=>by rw[binOp_quo];simp[Op.intDiv,hq],fun _ _ _=>rfl⟩
 |rem =>
  obtain⟨hc,hr⟩:=aY hr;have hq:q≠0:=by rintro rfl;simp at hc
  exact⟨_,_,hr,fun w=>by rw[binOp_rem];simp[Op.intDiv,hq],fun _ _ _=>rfl⟩
 |and=>exact⟨_,_,hr,fun w=>by rw[binOp_and];rfl,fun _ _ _=>rfl⟩
 |or=>exact⟨_,_,hr,fun w=>by rw[binOp_or];rfl,fun _ _ _=>rfl⟩
 |xor=>exact⟨_,_,hr,fun w=>by rw[binOp_xor];rfl,fun _ _ _=>rfl⟩
 |eql=>exact⟨_,_,hr,fun w=>by rw[binOp_eql];rfl,fun _ _ _=>rfl⟩
 |neq=>exact⟨_,_,hr,fun w=>by rw[binOp_neq];rfl,fun _ _ _=>rfl⟩
 |lss=>exact⟨_,_,hr,fun w=>by rw[binOp_lss];rfl,fun _ _ _=>rfl⟩
 |leq=>exact⟨_,_,hr,fun w=>by rw[binOp_leq];rfl,fun _ _ _=>rfl⟩
 |gtr=>exact⟨_,_,hr,fun w=>by rw[binOp_gtr];rfl,fun _ _ _=>rfl⟩
 |geq=>exact⟨_,_,hr,fun w=>by rw[binOp_geq];rfl,fun _ _ _=>rfl⟩
 |_=>cases hr
def aiB {op:BinOp}{kd ke:IntKind}{p q:Int}{kk:AC->Option U}(hr:aC8 op kd p q kk=some r)(t:TypeId) :
  ∃c v,kk c=some r/\(∀w,(binOp op t (.int kd p) (.int ke q)).run P w=.ok v w)/\∀G bx bl,bS G w bx bl c v:=by
 cases op with
 |shl =>
  obtain⟨hc,hr⟩:=aY hr;have hq:¬q<0:=by have:=nW hc;omega
  exact⟨_,_,hr,fun w=>by rw[binOp_shl];simp[Op.shift,hq],fun _ _ _=>rfl⟩
 |shr =>
  obtain⟨hc,hr⟩:=aY hr;have hq:¬q<0:=by have:=nW hc;omega
  exact⟨_,_,hr,fun w=>by rw[binOp_shr];simp[Op.shift,hq],fun _ _ _=>rfl⟩
 |_=>cases hr
def aE0 {op:BinOp}{p q:ByteArray}{kk:AC->Option U}(hr:aK5 (sd.Rm N) op p q kk=some r)(t:TypeId) :
  ∃c v,kk c=some r/\(∀w,(binOp op t (.string p) (.string q)).run P w=.ok v w)/\∀G bx bl,bS G w bx bl c v:=by
 have hb:∀op,binOp op t (.string p) (.string q)=Op.stringOp op p q:=fun op=>by cases op<;>rfl
 rw[hb];cases op with
 |add =>
  obtain⟨hc,hr⟩:=aY hr;have hq:¬((p.size+q.size:Nat):Int)>IntKind.i64.max:=by have:=nW hc;dsimp only[sd.Rm]at this;rw[IntKind.max_i64];omega
  refine⟨_,.string (p++q),hr,fun w=>?_,fun _ _ _=>rfl⟩;unfold Op.stringOp;dsimp only;rw[ah hq];rfl
 |eql=>exact⟨_,_,hr,fun _=>rfl,fun _ _ _=>rfl⟩
 |neq=>exact⟨_,_,hr,fun _=>rfl,fun _ _ _=>rfl⟩
 |lss=>exact⟨_,_,hr,fun _=>rfl,fun _ _ _=>rfl⟩
 |leq=>exact⟨_,_,hr,fun _=>rfl,fun _ _ _=>rfl⟩
 |gtr=>exact⟨_,_,hr,fun _=>rfl,fun _ _ _=>rfl⟩
 |geq=>exact⟨_,_,hr,fun _=>rfl,fun _ _ _=>rfl⟩
 |_=>cases hr
def aGU {op:BinOp}{t:TypeId}{x y:AC}{u v:Value}{bx:List (Nat×List AC)}{bl:List (Nat×Option gB)}{kk:AC->Option U}(hx:bS G w bx bl x u)(hy:bS G w bx bl y v)
  (hr:aJz P (sd.Rm N) op t x y kk=some r):∃c z,kk c=some r/\(∀w,(binOp op t u v).run P w=.ok z w)/\u.oneCell'=true/\u≠.nilIface/\∀G bx bl,bS G w bx bl c z:=by
 unfold aJz at hr;split at hr
 .rename_i kd p ke q;cases hx;cases hy;split at hr
  .obtain⟨c,z,h1,h2,h3⟩:=aiB (P:=P) (w:=w) (ke:=ke) hr t;exact⟨c,z,h1,h2,rfl,by simp,h3⟩
  .obtain⟨c,z,h1,h2,h3⟩:=aiB (P:=P) (w:=w) (ke:=ke) hr t;exact⟨c,z,h1,h2,rfl,by simp,h3⟩
  .obtain⟨hc,hr2⟩:=aY hr;have hk:=acO hc;subst hk;obtain⟨c,z,h1,h2,h3⟩:=aEZ (P:=P) (w:=w) hr2 t;exact⟨c,z,h1,h2,rfl,by simp,h3⟩
 .cases hx;cases hy;obtain⟨c,z,h1,h2,h3⟩:=aE0 (P:=P) (w:=w) hr t;exact⟨c,z,h1,h2,rfl,by simp,h3⟩
 .cases hx;cases hy;split at hr
  .rename_i ht;exact⟨_,_,hr,fun w=>run_eql_bool w t _ _ ht,rfl,by simp,fun _ _ _=>rfl⟩
  .rename_i ht;exact⟨_,_,hr,fun w=>run_neq_bool w t _ _ ht,rfl,by simp,fun _ _ _=>rfl⟩
  .cases hr
 .cases hr
def aa7 (h:Inv w0 G st a w)(op:BinOp)(t:TypeId)(x y:Operand)(yt:TypeId)(ho:o.op=.binOp op t x y yt){p q:AC}(hp:st.eZ x=.c p)(hq:st.eZ y=.c q)
  (hr:aJz P (sd.Rm N) op t p q (fun r=>st.pk o.dst (.v (.c r)) k)=some r):bP P w0 w a o k r:=by
 have h1:=h.eZ x;have h2:=h.eZ y;rw[hp]at h1;rw[hq]at h2;obtain⟨c,z,hr,hrun,aa5,aPz,hrel⟩:=aGU (P:=P) h1 h2 hr;refine en (u:=z) h (v:=.v (.c c)) (hrel _ _ _) hr fun w1 hB=>?_
 unfold execOp;rw[ho];simp[arI op t x y _ _ aa5 aPz,hrun]
def acX {w1:World}{bx:List (Nat×List AC)}{bl:List (Nat×Option gB)}{d:Nat}{xs ys:Array Value}:∀(fs:List Field) (i:Nat) (l m:List AC) (c:Bool),eqFields P fs i l m=some c ->
  cT (bS G w bx bl) l (xs.toList.drop i)->cT (bS G w bx bl) m (ys.toList.drop i)->(Op.eqFields (d+1) xs ys fs).run P w1=.ok c w1
 |[],_,[],[],c,h,_,_=>by cases h;rfl
 |[],_,_::_,_,_,h,_,_=>by simp[eqFields]at h
 |[],_,[],_::_,_,h,_,_=>by simp[eqFields]at h
 |_::_,_,[],_,_,h,_,_=>by simp[eqFields]at h
 |_::_,_,_::_,[],_,h,_,_=>by simp[eqFields]at h
 |f::fs,i,a::r,b::s,c,h,hx,hy=>by
  simp only[eqFields]at h;split at h
  .rename_i hck;rw[aI]at hck;have aPA:=aP hck.1
   have aNA : f.name ≠ "_" := by have := hck.2; simpa using this
   split at h
   .rename_i c' hc';have tail:∀{v:Value} {zs:Array Value} {l:List AC} {a:AC},cT (bS G w bx bl) (a::l) (zs.toList.drop i)->∃v,zs[i]?=some v/\bS G w bx bl a v/\cT (bS G w bx bl) l (zs.toList.drop (i+1)):=by
     intro _ zs l a hz;cases hd:zs.toList.drop i with
     |nil=>rw[hd]at hz;exact hz.elim
     |cons v vs =>
      rw[hd]at hz;have h1:zs.toList[i]?=some v:=by have:=air (xs:=zs.toList) (i:=i) (j:=0);rw[hd]at this;simpa using this.symm
      have h2:zs.toList.drop (i+1)=vs:=by rw[<-amN,hd];rfl
      exact⟨v,by simpa using h1,hz.1,by rw[h2];exact hz.2⟩
    obtain⟨v,hv,hra,hrx⟩:=tail (v:=undef) hx;obtain⟨u,hu,hrb,hry⟩:=tail (v:=undef) hy;have ih:=acX (w1:=w1) (d:=d) fs (i+1) r s c' hc' hrx hry;have aK7:∀{e:TypeId} {zs:Array Value} {z:Value} {q:TypeDesc},P.underlying e=some q->(q=.string\/q=.bool\/∃k,q=.int k)->zs[i]?=some z->(part e zs i).run P w1=.ok z w1:=by intro e zs z q hq hk hz;rcases hk with rfl|rfl|⟨k,rfl⟩<;>simp[part,isAgg,run_underlying hq,hz]
    have aLX:∀{q:TypeDesc} {e:Bool},P.underlying f.type=some q->(q=.string\/q=.bool\/∃k,q=.int k)->(Op.equalIn (d+1) f.type v u).run P w1=.ok e w1->c=(e&&c')->(Op.eqFields (d+1) xs ys (f::fs)).run P w1=.ok c w1:=by
     intro q e hq hk he hc;have h1:=aK7 hq hk hv;have h2:=aK7 hq hk hu;rw[<-aPA]at h1 h2;simp only[Op.eqFields,aNA,ne_eq,not_false_eq_true,iA,Sem.run_bind,h1,h2,he,Result.andThen_ok];cases e with
     |true=>simpa [hc]using ih|false=>simp[hc]
    split at h
    .rename_i k' k x l y hq;split at h
     .rename_i hk;have hk:=acO hk;subst hk;have e1:v=.int k x:=hra;have e2:u=.int k y:=hrb;exact aLX hq (.inr (.inr ⟨_,rfl⟩)) (by rw[e1,e2];exact run_equalIn_int w1 d _ k k' x y hq) (fJ h).symm
     .cases h
    .rename_i x y hq;have e1:v=.string x:=hra;have e2:u=.string y:=hrb;exact aLX hq (.inl rfl) (by rw[e1,e2];exact run_equalIn_string w1 d _ x y hq) (fJ h).symm
    .rename_i x y hq;have e1:v=.bool x:=hra;have e2:u=.bool y:=hrb;exact aLX hq (.inr (.inl rfl)) (by rw[e1,e2];exact run_equalIn_bool' w1 d _ x y hq) (fJ h).symm
    .cases h
   .cases h
  .cases h
def pL (h:Inv w0 G st a w)(op:BinOp)(t:TypeId)(x y:Operand)(yt:TypeId)(ho:o.op=.binOp op t x y yt){l m:List AC}(hp:st.eZ x=.agg l)(hq:st.eZ y=.agg m)
  {c b:Bool} (he:amV P t l m=some c) (cC:(op=.eql/\b=c)\/(op=.neq/\b= !c)) (hr:st.pk o.dst (.v (.c (.bool b))) k=some r):bP P w0 w a o k r:=by
 have h1:=h.eZ x;have h2:=h.eZ y;rw[hp]at h1;rw[hq]at h2;obtain⟨xs,hx,hrx⟩:=h1;obtain⟨ys,hy,hry⟩:=h2;unfold amV at he;split at he
 .rename_i fs hfs;split at he
  .rename_i hg;rw[aip]at hg;have hfo:P.fieldsOf t=fs:=by simp[Program.fieldsOf,hfs]
   refine en (u:=.bool b) h (v:=.v (.c (.bool b))) rfl hr fun w1 hB=>?_
   have hrun:(Op.equalIn 10000 t (.agg xs) (.agg ys)).run P w1=.ok c w1:=by rw[show(10000:Nat)=9999+1 from rfl,run_equalIn_struct w1 9999 t xs ys (by rw[hfo];exact hfs) hg.1,hfo];exact acX (d:=9998) fs.toList 0 l m c he hrx hry
   unfold execOp;rw[ho];dsimp only;rw[hx,hy];simp only[Sem.run_bind,run_eqGuard_agg w1 op t x y xs ys hg.2,Result.andThen_ok];rcases cC with ⟨rfl,rfl⟩|⟨rfl,rfl⟩
   .rw[run_eql_struct,hrun];rfl
   .rw[run_neq_struct,hrun];rfl
  .cases he
 .cases he
def Rp (h:Inv w0 G st a w)(src dst:TypeId)(x:Operand)(ho:o.op=.convert src dst x){ks kd ki:IntKind}{n:Int}(hs:P.underlying src=some (.int ks))(hd:P.underlying dst=some (.int kd))
  (hx:st.ac x=.int ki n) (hr:st.pk o.dst (.v (.c (.int kd (kd.wrap n)))) k=some r):bP P w0 w a o k r:=by
 have hb:a.eval x=.int ki n:=by have:=h.ac x;rw[hx]at this;exact this
 refine en (u:=.int kd (kd.wrap n)) h (v:=.v (.c (.int kd (kd.wrap n)))) rfl hr fun w1 hB=>?_
 unfold execOp;rw[ho];dsimp only;rw[hb];simp[convert,run_underlying hs,run_underlying hd,Conv.intToInt]
def Rq (h:Inv w0 G st a w)(src dst:TypeId)(x:Operand)(ho:o.op=.convert src dst x){s:ByteArray}(hs:P.underlying src=some .string)(hd:P.underlying dst=some .string)
  (hx:st.ac x=.str s) (hr:st.pk o.dst (.v (.c (.str s))) k=some r):bP P w0 w a o k r:=by
 have hb:a.eval x=.string s:=by have:=h.ac x;rw[hx]at this;exact this
 refine en (u:=.string s) h (v:=.v (.c (.str s))) rfl hr fun w1 hB=>?_
 unfold execOp;rw[ho];dsimp only;rw[hb];simp[convert,run_underlying hs,run_underlying hd]
def aE1 (h:Inv w0 G st a w){c:AC}{v:Value}(hc:bS G w st.bx st.bl c v){n:Int}(hn:amW st c=some n) :
  (∃s,c=.str s/\v=.string s/\n=(s.size:Int))\/∃A m cap,v=.slice A m cap/\n=(m:Int)/\∀s,c≠.str s:=by
 cases c with
 |nil=>cases hn;exact .inr ⟨_,_,_,hc,rfl,by simp⟩
 |ro f e t xs =>
  cases hn;obtain⟨A,cap,hv,_⟩:=hc;have:=(uE hv).1;exact .inr ⟨A,_,cap,this,rfl,by simp⟩
 |own id len =>
  cases len with
  |none =>
   simp only[amW]at hn;unfold St.rZ at hn;cases hl:look st.bl id with
   |none=>rw[hl]at hn;cases hn
   |some ob =>
    rw[hl]at hn;cases ob with
    |none=>cases hn
    |some b =>
     cases hn;have hb:=h.bl id b hl;have hv:v=G.hv id:=hc.2.2;rw[hv];cases hw:b.w with
     |true =>
      obtain⟨cs,h1,_,_⟩:=hb.wr hw;rcases h1.2 with ⟨he,hz⟩|⟨g,cap,cur,he,_⟩
      .exact .inr ⟨_,_,_,he,by omega,by simp⟩
      .exact .inr ⟨_,_,_,he,rfl,by simp⟩
     |false =>
      obtain⟨A,cap,he,_⟩:=hb.rd hw;exact .inr ⟨A,_,cap,(uE he).1,rfl,by simp⟩
  |some l =>
   cases hn;obtain⟨_,h0,A,m,cap,_,hl,rfl⟩:=hc;exact .inr ⟨A,_,cap,rfl,by omega,by simp⟩
 |str s=>cases hn;exact .inl ⟨s,rfl,hc,rfl⟩|_=>cases hn
def OU (h:Inv w0 G st a w)(x:Operand)(t:TypeId){args:Array Operand}{ts:Array TypeId}(ho:o.op=.call {callee:=.builtin .len,args:=args,argTypes:=ts})(ha:args.toList=[x])(ht:ts.toList=[t])
  {n:Int} (hn:amW st (st.ac x)=some n) (hu:(P.underlying t=some .string/\∃s,st.ac x=.str s)\/((∃e,P.underlying t=some (.slice e))/\∀s,st.ac x≠.str s))
  (hr:st.pk o.dst (.v (.c (.int .i64 n))) k=some r):bP P w0 w a o k r:=by
 have hargs:args=#[x]:=by rw[<-yr (xs:=args),ha]
 have aGW:ts=#[t]:=by rw[<-yr (xs:=ts),ht]
 subst hargs aGW;refine en (u:=.int .i64 n) h (v:=.v (.c (.int .i64 n))) rfl hr fun w1 hB=>?_
 unfold execOp;rw[ho];rcases aE1 h (h.ac x) hn with ⟨s,hs,hv,rfl⟩|⟨A,m,cap,hv,rfl,hns⟩
 .rcases hu with ⟨hu,_⟩|⟨_,hu⟩
  .simp[resolve,invoke,builtin,hv,Builtin.len_,run_underlying hu,goInt]
  .exact absurd hs (hu s)
 .rcases hu with ⟨_,s,hu⟩|⟨⟨e,hu⟩,_⟩
  .exact absurd hu (hns s)
  .simp[resolve,invoke,builtin,hv,Builtin.len_,run_underlying hu,goInt]
def aa8 (h:Inv w0 G st a w)(t:TypeId)(x i:Operand)(ho:o.op=.index t x i)(hu:P.underlying t=some .string){s:ByteArray}{kd:IntKind}{n:Int}(hx:st.ac x=.str s)(hi:st.ac i=.int kd n)
  (h0:0<=n) (h1:n<(s.size:Int)) (hr:st.pk o.dst (.v (.c (.int .u8 (kc s n)))) k=some r):bP P w0 w a o k r:=by
 have hs:a.eval x=.string s:=by have:=h.ac x;rw[hx]at this;exact this
 have hn:a.eval i=.int kd n:=by have:=h.ac i;rw[hi]at this;exact this
 refine en (u:=.int .u8 (kc s n)) h (v:=.v (.c (.int .u8 (kc s n)))) rfl hr fun w1 hB=>?_
 unfold execOp;rw[ho];dsimp only;rw[hs,hn];have hlt:n.toNat<s.size:=by omega
 have hg:s[n.toNat]?=some (s[n.toNat]'hlt):=by simp[getElem?_pos,hlt]
 have hb:kc s n=((s[n.toNat]'hlt).toNat:Int):=by
  have aLY:n.toNat<s.data.toList.length:=by simpa using hlt
  simp only[kc,Gr,pc aLY];rfl
 simp[Instr.index,run_underlying hu,asIntOf,h0,hg,hb]
def BH (h:Inv w0 G st a w)(t:TypeId)(x:Operand)(f:Nat)(ho:o.op=.field t x f){ft:TypeId}{off:Nat}(hf:au0 P t f=some (ft,off)){l:List AC}(hx:st.eZ x=.agg l)
  (hn:Nat.beq (yu (P.cellsOf ft) (yv off l)).length (P.cellsOf ft)=true)
  {b:Bool} (nT:aa1 P ft=some b)
  {v:CV} (hv:match b with|true=>v=.agg (yu (P.cellsOf ft) (yv off l))|false=>∃y,yu (P.cellsOf ft) (yv off l)=[y]/\v=.c y)
  (hr:st.pk o.dst (.v v) k=some r):bP P w0 w a o k r:=by
 have Rr:=h.eZ x;rw[hx]at Rr;obtain⟨vs,hvs,hrel⟩:=Rr;have eB:=(hrel.drop off).take (P.cellsOf ft);have hlen:=eB.len;have hn':=aP hn;obtain⟨fs,fl,hu,Vf,rfl,rfl⟩:∃fs fl,P.underlying t=some (.struct fs)/\fs[f]?=some fl/\fl.type=ft/\fl.offset=off:=by
  unfold au0 at hf;split at hf
  .rename_i fs hu;split at hf
   .rename_i fl Vf;cases hf;exact⟨fs,fl,hu,Vf,rfl,rfl⟩
   .cases hf
  .cases hf
 obtain⟨i,hi⟩:=ED nT;have hia:∀w,(isAgg fl.type).run P w=.ok b w:=by
  intro w;unfold isAgg aa1 at *;cases hu:P.underlying fl.type with
  |none=>rw[hu]at nT;cases nT
  |some d =>
   rw[hu]at nT;rw[Sem.run_bind,run_underlying hu w];cases d<;>simp_all
 have hcs:P.cellsOf fl.type=i.size:=by simp[Program.cellsOf,hi]
 have hvl:(vs.toList.drop fl.offset).take i.size=(vs.extract fl.offset (fl.offset+i.size)).toList:=by simp[Array.toList_extract,List.extract_eq_take_drop]
 cases b with
 |true =>
  subst hv;refine en (u:=.agg (vs.extract fl.offset (fl.offset+i.size))) h (v:=.v (.agg _)) ⟨_,rfl,by rw[<-hvl,<-hcs];exact eB⟩ hr fun w1 hB=>?_
  unfold execOp;rw[ho];simp[Instr.field,run_underlying hu,Vf,hvs,asAgg,part,hia,sizeOf,typeInfo,hi]
 |false =>
  obtain⟨y,hy,rfl⟩:=hv;rw[hy]at eB;obtain⟨u,hu1⟩:∃u,(vs.toList.drop fl.offset).take (P.cellsOf fl.type)=[u]:=by
   cases hm:(vs.toList.drop fl.offset).take (P.cellsOf fl.type) with
   |nil=>rw[hm]at eB;exact eB.elim
   |cons u m =>
    rw[hm]at eB;cases m with
    |nil=>exact⟨u,rfl⟩|cons _ _=>exact eB.2.elim
  rw[hu1]at eB;have h1:P.cellsOf fl.type=1:=by rw[<-hn',hy];rfl
  have ax1:vs[fl.offset]?=some u:=by
   rw[h1]at hu1;have:(vs.toList.drop fl.offset)[0]?=some u:=by
    cases hd:vs.toList.drop fl.offset with
    |nil=>rw[hd]at hu1;simp at hu1|cons c m=>rw[hd]at hu1;simp at hu1;simp[hu1]
   simpa using this
  refine en (u:=u) h (v:=.v (.c y)) eB.1 hr fun w1 hB=>?_
  unfold execOp;rw[ho];simp[Instr.field,run_underlying hu,Vf,hvs,asAgg,part,hia,ax1]
end
end Go.Am
