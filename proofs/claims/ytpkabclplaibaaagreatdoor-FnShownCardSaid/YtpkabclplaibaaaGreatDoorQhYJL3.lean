/- No condition. -/
import Derived.Test.YtpkabclplaibaaaGreatDoorQhYJL2
set_option linter.all false
namespace Go.Am.Tryz
open Go.Am
def ar4 (a b:ct):Bool:=(a.1==b.1)&& !(a.2.1.toList==b.2.1.toList)
def gy (l:List ct)(i k:Nat):Bool:= !ar4 (l.getD i cI) (l.getD k cI)
def ln:bC:=(0,0,cI,ah)
def akL:td ln:=⟨e8,a1 _⟩
def afw {b:List Int}{s:LP}(h:(dv b s).2.2=true):s.2=true:=by
 unfold dv at h;split at h
 .split at h
  .assumption
  .cases h
 .cases h
def Lf (b:List Int):bC×LP :=
 (((l1 b).1,(aV b (l1 b).2).1,(Ba b (aV b (l1 b).2).2).1,(dv b (Ba b (aV b (l1 b).2).2).2).1),(dv b (Ba b (aV b (l1 b).2).2).2).2)
def uW (c:Int×Int)(b:List Int):bC×Bool:=if (Lf b).2.2=true/\((Lf b).2.1:Int)=(b.length:Int)/\cl c (Lf b).1=true then ((Lf b).1,true) else (ln,false)
def afx {b:List Int}(a:ep b)(h:(Lf b).2.2=true):td (Lf b).1:=by have d:(l1 b).2.1<=b.length:=(gT a (s:=(0,true)) (a1 _)).1;have e:=(gT a d).1;have q:=VO a e;have x:=Gz a q.1;have c:(dv b (Ba b (aV b (l1 b).2).2).2).2.2=true->(Ba b (aV b (l1 b).2).2).2.2=true:=afw;unfold Lf at h ⊢;generalize dv b (Ba b (aV b (l1 b).2).2).2=f at h x c ⊢;generalize Ba b (aV b (l1 b).2).2=g at q c ⊢;generalize aV b (l1 b).2=i;generalize l1 b=j;exact⟨q.2 (c h),x.2⟩
def amC {b:List Int}(a:ep b)(c:Int×Int):td (uW c b).1:=by
 unfold uW;split
 .rename_i h;exact afx a h.1
 .exact akL
def aj4 {c:Int×Int}{b:List Int}{m:bC}{s:LP}{f:bC->Option (Bool×Unit)}(h:s.2=true->f m=some (cl c m,())) :
  br (!s.2) (some (ln,false,())) (br ((s.1:Int) != (b.length:Int)) (some (ln,false,())) ((f m).bind fun d=>br (!d.1) (some (ln,false,())) (some (m,true,())))) =
   some ((if s.2=true/\(s.1:Int)=(b.length:Int)/\cl c m=true then ((m,true):bC×Bool) else (ln,false)).1,(if s.2=true/\(s.1:Int)=(b.length:Int)/\cl c m=true then ((m,true):bC×Bool) else (ln,false)).2,()):=by
 cases e:s.2 with
 |false =>
  rw[ag (fun h=>by cases h.1)];rfl
 |true =>
  rw[bc,aa,h e,av];by_cases a:(s.1:Int)=(b.length:Int)
  .rw[show((s.1:Int) != (b.length:Int))=false from aaI.2 a,aa];cases g:cl c m with
   |false =>
    rw[ag (fun h=>by cases h.2.2)];rfl
   |true =>
    rw[aj ⟨rfl,a,rfl⟩];rfl
  .rw[GD.2 a,ae,ag (fun h=>a h.2.1)]
def ahJ {b:List Int}(a:ep b)(c:Int×Int):Ek F0 c b=some ((uW c b).1,(uW c b).2,()):=by have j:b7 F0 (b,0,true)=some (((l1 b).1,()),cell b (l1 b).2,()):=nd a (s:=(0,true)) (a1 _);have e:(l1 b).2.1<=b.length:=(gT a (s:=(0,true)) (a1 _)).1;have g:=(gT a e).1;have q:=VO a g;have d:=afx a;rw[Yd,j,av,nd a e,av,ahA a g,av,Q7 a q.1,av];unfold uW;unfold Lf at d ⊢;generalize dv b (Ba b (aV b (l1 b).2).2).2=i at d ⊢;generalize Ba b (aV b (l1 b).2).2=k at d ⊢;generalize aV b (l1 b).2=l at d ⊢;generalize l1 b=n at d ⊢;exact aj4 (c:=c) (b:=b) (m:=(n.1,l.1,k.1,i.1)) (s:=i.2) (f:=fun m=>ft F0 c m) fun h=>uT (d h) c
def adz (b:List Int)(i j:Nat):List Int:=(b.take j).drop i
def ajI {b:List Int}(a:ep b)(i j:Nat):ep (adz b i j):=by have d:=a.1;refine⟨?_,fun x c=>a.2 x (Bw (abU c))⟩;unfold adz;rw[bT,bQ];omega
def NN (c:Int×Int)(b:List Int)(a:Nat):Option (bC×Nat):=match uV b a with
 |none=>none|some (v,d)=>if v>=(b.length:Int)-d then none else if b.getD (d+v.toNat) 0≠10 then none else if (uW c (adz b d (d+v.toNat))).2=true then some ((uW c (adz b d (d+v.toNat))).1,d+v.toNat+1) else none
def Lg (c:Int×Int)(b:List Int):Nat->bC->Nat->bC×Nat
 |0,s,a=>(s,a)|f+1,s,a=>match NN c b a with
  |none=>(s,a)|some (d,e)=>Lg c b f d e
def lZ (c:Int×Int)(b:List Int):bC×Nat:=Lg c b (b.length+1) ln 0
def O1 {c:Int×Int}{b:List Int}{a:Nat}{v:Int}{a':Nat}(h:uV b a=some (v,a')):NN c b a =
  if v>=(b.length:Int)-a' then none else if b.getD (a'+v.toNat) 0≠10 then none else if (uW c (adz b a' (a'+v.toNat))).2=true then some ((uW c (adz b a' (a'+v.toNat))).1,a'+v.toNat+1) else none:=by
 unfold NN;rw[h]
def O2 {c:Int×Int}{b:List Int}{a:Nat}(h:uV b a=none):NN c b a=none:=by unfold NN;rw[h]
def uX {c:Int×Int}{b:List Int}{f:Nat}{s:bC}{a:Nat}(h:NN c b a=none):Lg c b (f+1) s a=(s,a):=by unfold Lg;rw[h]
def O3 {c:Int×Int}{b:List Int}{f:Nat}{s d:bC}{a a':Nat}(h:NN c b a=some (d,a')):Lg c b (f+1) s a=Lg c b f d a':=by rw[Lg,h]
def amD {c:Int×Int}{b:List Int}(f:ep b){a:Nat}(i:a<=b.length){s:bC}{a':Nat}(h:NN c b a=some (s,a')):a<a'/\a'<=b.length/\td s:=by
 cases e:uV b a with
 |none=>rw[O2 e]at h;cases h
 |some r =>
  obtain⟨v,d⟩:=r;have j:=Q6 f i e;have g:=amC (ajI f d (d+v.toNat)) c;rw[O1 e]at h;generalize uW c (adz b d (d+v.toNat))=r at h g;split at h
  .cases h
  .rename_i k;split at h
   .cases h
   .split at h
    .cases h;exact⟨by omega,by omega,g⟩
    .cases h
def abz (c:Int×Int){b:List Int}(g:ep b)(p q t:Int)(u w:ByteArray)(xs:List Int):∀(f:Nat) (s:bC) (a n:Nat),a<=b.length->b.length+1<=a+f->f<n ->
  o5 F0 (sJ F0) n (k6 b (a:Int) c.1 c.2 p q t u w s.1 s.2.1 s.2.2.1.1 s.2.2.1.2.1 s.2.2.2 xs s.2.2.1.2.2)=some ((Lg c b f s a).1,((Lg c b f s a).2:Int),())
 |0,s,a,n,j,x,y=>by omega
 |f+1,s,a,n,j,x,y=>by
  obtain⟨n,rfl⟩:∃m,n=m+1:=⟨n-1,by omega⟩;have A:=g.1;cases i:uV b a with
  |none =>
   have law:gF F0 b (a:Int)=some (0,0,false,()):=by rw[Q5 g j,i];rfl
   rw[wP,law,av,CA,uX (O2 i)];rfl
  |some r =>
   obtain⟨v,d⟩:=r;have B:=Q6 g j i;have law:gF F0 b (a:Int)=some (v,(d:Int),true,()):=by rw[Q5 g j,i];rfl
   have e:=O1 (c:=c) i;rw[wP,law,av,CA];dsimp only;rw[bc,aa,aD (n:=(b.length:Int)-d) (by omega) (by omega),show ak ((d:Int)+v)=((d+v.toNat:Nat):Int) by rw[aD (by omega) (by omega)];omega];by_cases k:v>=(b.length:Int)-d
   .rw[aj k]at e;rw[aW k,ae,uX e]
   .have z:d+v.toNat<b.length:=by omega
    rw[ag k]at e;rw[a6 k,aa,aE z,ab,jv];by_cases l:b.getD (d+v.toNat) 0=10
    .rw[ag (fun h=>h l)]at e;rw[show(b.getD (d+v.toNat) 0 != 10)=false from aaI.2 l,aa,LO (by omega) (by omega),ab,show((c.1,c.2):Int×Int)=c from rfl,wc,wc,
      show((b.take (d+v.toNat)).drop d)=adz b d (d+v.toNat) from rfl,ahJ (ajI g _ _),av]
     dsimp only;generalize uW c (adz b d (d+v.toNat))=r at e ⊢;cases o:r.2 with
     |false =>
      rw[o,ag (by decide)]at e;rw[h9,ae,uX e]
     |true =>
      rw[o,aj rfl]at e;rw[bc,aa,an (by omega),O3 e];exact abz c g p q t u w xs f r.1 (d+v.toNat+1) n (by omega) (by omega) (by omega)
    .rw[aj l]at e;rw[GD.2 l,ae,uX e]
def adA {b:List Int}(a:ep b)(c:Int×Int):vP F0 c b=some ((lZ c b).1,((lZ c b).2:Int),()):=by have d:=a.1;rw[Sw,Iw,av];exact abz c a 0 0 0 _ _ [] (b.length+1) ln 0 _ (a1 _) (by omega) (by rw[b1];omega)
def CQ (a b:bC):Bool:=(a.1==b.1)&&((a.2.1==b.2.1)&&(uU a.2.2.1 b.2.2.1&&(a.2.2.2.toList==b.2.2.2.toList)))
def adB {a b:bC}(c:td a)(d:td b):vy F0 a b=some (CQ a b,()):=by rw[Sc,SP c.1 d.1,av];unfold CQ;cases (a.1==b.1)<;>cases (a.2.1==b.2.1)<;>cases uU a.2.2.1 b.2.2.1<;>rfl
def afy (b:ByteArray):List dW:=(bZ b.data.toList).1.flatMap (·.2)
def Y4 (b:ByteArray):(afy b).length<=60:=by have a:=YR (OT b.data.toList);have c:=w6 b.data.toList;unfold afy;omega
def afz {b:ByteArray}(h:b.size<=1048576):pw F0 b=some (afy b,()):=akB (abt h)
def adC:YP ae5:=⟨rfl,rfl⟩
def EC (c:Int×Int)(r:au):kJ:=if Gy c r=true then uS ae5 (afy r.2.2.2.1.2.2.2) else ([],[])
def akM {r:au}(h:akG r)(c:Int×Int):Ct F0 c r=some (EC c r,()):=by have a:=Y4 r.2.2.2.1.2.2.2;rw[aag,eU h,av,E4,av,afz h.s.2,av,YQ adC (aL (Y4 _) (by omega)),av];unfold EC;cases Gy c r<;>rfl
def amE (c:Int):Bool:=(c==0) || (c==4)
abbrev cz:=List Int×Int×Int
def fz (c:cz):Prop:=c.1.length<=1048576/\0<=c.2.1/\c.2.1<=1048576
def adD (n:Int):0<=ak ((BitVec.ofInt 64 n &&& BitVec.ofInt 64 255).toNat:Int)/\ak ((BitVec.ofInt 64 n &&& BitVec.ofInt 64 255).toNat:Int)<=255:=by
 have h:(BitVec.ofInt 64 n &&& BitVec.ofInt 64 255).toNat<=255:=by rw[BitVec.toNat_and];exact aL Nat.and_le_right (by decide)
 rw[aD (by omega) (by omega)];omega
def ajJ {c:cz}(h:fz c):∃(v:Int) (a:cz),gz F0 c=some ((v,()),a,())/\0<=v/\v<=255/\fz a:=by
 rw[W1];by_cases hlt:c.2.1<(c.1.length:Int)
 .rw[aW hlt,ae,show b5 c.2.1 (c.1.length:Int)=true by simp[b5];exact⟨h.2.1,hlt⟩,ab];have b:=h.1;have d:=h.2.1;refine⟨_,_,rfl,(adD _).1,(adD _).2,h.1,?_,?_⟩
  .show 0<=ak (c.2.1+1);rw[aD (by omega) (by omega)];omega
  .show ak (c.2.1+1)<=1048576;rw[aD (by omega) (by omega)];omega
 .rw[a6 hlt,aa];exact⟨_,_,rfl,(adD _).1,(adD _).2,h⟩
def adE {a n:Int}(b:0<=a)(c:0<n):0<=Int.tmod a n/\Int.tmod a n<n:=by rw[ad6 b];exact⟨V2 _ (by omega),V0 _ c⟩
def Y5 {c:cz}(h:fz c){n:Int}(b:0<n)(e:n<=256):∃(v:Int) (a:cz),af F0 c n=some ((v,()),a,())/\0<=v/\v<n/\fz a:=by obtain⟨v,a,f,d,i,g⟩:=ajJ h;rw[x9,a6 (show ¬n<=0 by omega),aa,aW e,ae,f,av,show(!(n==0))=true by rw[cC.2 (show n≠0 by omega)];rfl,ab];exact⟨_,_,rfl,(adE d b).1,(adE d b).2,g⟩
def ahK {c:cz}(h:fz c){l:List Int}(j:0<l.length)(k:l.length<=256):∃(v:Int) (a:cz),aH F0 c l=some ((v,()),a,())/\v∈l/\fz a:=by
 obtain⟨v,a,d,f,g,i⟩:=Y5 h (n:=(l.length:Int)) (by omega) (by omega);have b:v.toNat<l.length:=by omega
 rw[PV,d,av,show b5 v (l.length:Int)=true by simp[b5];exact⟨f,g⟩,ab];refine⟨_,_,rfl,?_,i⟩;have e:v=(v.toNat:Int):=by omega
 show bd l v 0∈l;rw[e,cB b];exact dH b
def aon {c:cz}(h:fz c){n:Int}(b:0<n)(d:n<=256):∃(v:Bool) (a:cz),cX F0 c n=some ((v,()),a,())/\fz a:=by obtain⟨v,a,e,g,i,f⟩:=Y5 h b d;rw[W5,e,av];exact⟨_,_,rfl,f⟩
def ap8 {a:List Int}(h:a.length<=1048576):∃c:cz,gW F0 a=some (((c,()),()))/\fz c:=by
 rw[ZY];suffices f:∀(b:Nat) (q:Int) (k n:Nat),k+b=a.length->b<n->∃d:Int,Ak F0 (BN F0) n (rf a q (k:Int) a)=some ((((a,0,d):cz),()),()) by obtain⟨d,e⟩:=f a.length (ak (26583+(a.length:Int))) 0 F0.n (pF _) (by rw[b1];omega);exact⟨_,e,h,I9 _,by show(0:Int)<=1048576;decide⟩
 intro b
 induction b with
 |zero =>
  intro q k n g i;obtain⟨n,rfl⟩:∃m,n=m+1:=⟨n-1,by omega⟩;obtain rfl:k=a.length:=by omega
  rw[Da,aO,aa,Fo];exact⟨q,rfl⟩
 |succ b j =>
  intro q k n g i;obtain⟨n,rfl⟩:∃m,n=m+1:=⟨n-1,by omega⟩;have hlt:k<a.length:=by omega
  rw[Da,bp hlt,ae];cases decide ((k:Int)<4000) with
  |false =>
   rw[aa,Fo];exact⟨q,rfl⟩
  |true =>
   rw[ae,aE hlt,ab,an (by omega)];exact j _ (k+1) n (by omega) (by omega)
def Hm (c x:UInt8)(l:List UInt8):parts c (x::l)=if x=c then []::parts c l else match parts c l with
  |p::a=>(x::p)::a|[]=>[[x]]:=by
 conv=>lhs;unfold parts
 cases parts c l<;>rfl
def SR {c:UInt8}:∀(a b:List UInt8),parts c (a++c::b)=parts c a++parts c b
 |[],b=>by rw[nD,Hm,aj rfl];rfl
 |x::a,b=>by
  rw[pE,Hm c x (a++c::b),Hm c x a];by_cases d:x=c
  .rw[aj d,aj d,SR a b];rfl
  .rw[ag d,ag d,SR a b];have e:=CJ c a;cases f:parts c a with
   |nil=>exact absurd f e|cons p g=>rfl
def afA {σ V:Type}{f:σ->List UInt8->Option (σ×V)}:∀{l m:List (List UInt8)} {s:σ} {r:List V},yF f s (l++m)=some r->∃a c,yF f s l=some a/\r=a++c/\c.length=m.length
 |[],m,s,r,h=>⟨[],r,rfl,rfl,K0 h⟩|p::l,m,s,r,h=>by
  rw[pE]at h;unfold yF at h ⊢;cases e:f s p with
  |none=>rw[e]at h;cases h
  |some x =>
   obtain⟨g,b⟩:=x;rw[e]at h;dsimp only at h ⊢;cases d:yF f g (l++m) with
   |none=>rw[d]at h;cases h
   |some n =>
    rw[d]at h;cases h;obtain⟨a,c,i,j,k⟩:=afA d;rw[i];exact⟨b::a,c,rfl,by rw[j];rfl,k⟩
def ahL {a t:List UInt8}(n:(47:UInt8) ∉ t)(h:bR (a++47::t)=true):bR a=true/\∃x,(bZ (a++47::t)).1=(bZ a).1++[x]:=by
 have o:a++47::t≠[]:=by simp
 unfold bR at h ⊢;unfold bZ at h ⊢;rw[ag o,SR,YK n]at h ⊢;cases f:parts 47 a with
 |nil=>exact absurd f (CJ 47 a)
 |cons g c =>
  rw[f,pE]at h;rw[pE];dsimp only at h ⊢;by_cases d:¬g=[]\/30<(c++[t]).length
  .rw[aj d]at h;cases h
  .rw[ag d]at h ⊢;have p:g=[]:=ad7 fun b=>d (.inl b)
   have q:¬30<(c++[t]).length:=fun b=>d (.inr b)
   rw[aB,b2]at q;cases i:yF CK 0 (c++[t]) with
   |none=>rw[i]at h;cases h
   |some r =>
    obtain⟨s,e,j,k,l⟩:=afA i;obtain⟨x,rfl⟩:∃x,e=[x]:=by
     cases e with
     |nil=>cases l
     |cons x e =>
      cases e with
      |nil=>exact⟨x,rfl⟩|cons _ _=>simp at l
    by_cases m:a=[]
    .subst m;have:c=[]:=by have:=f;unfold parts at this;exact(we this).2.symm
     subst this;cases j;rw[aj rfl];exact⟨rfl,x,k⟩
    .rw[ag m,ag (fun b=>b.elim (fun b=>b p) (fun b=>by omega)),j];exact⟨rfl,x,k⟩
def ng (l:List dW):List UInt8:=Lib.join (l.map YF) [44]
def VQ (l:List dW):List UInt8:=if l.all e4=true then ng l else []
def aoo {l:List dW}(h:l.all e4=true):∀x∈l.map YF,x.length<=90:=by intro x a;obtain⟨y,b,rfl⟩:=Bx.1 a;exact YG (gb.1 h y b)
def O4 {l:List dW}(h:l.all e4=true):(ng l).length<=91*l.length:=by have:=VJ (aoo h) 44;rw[fB]at this;exact this
def afB {l:List dW}{k:Nat}(a:k<l.length):(l.take (k+1)).all e4=((l.take k).all e4&&e4 l[k]):=by rw[yH,kK a,List.all_append];simp
def NO {U V:Type}{l:List U}{f:U->V}{k:Nat}(a:k<l.length):(l.take (k+1)).map f=(l.take k).map f++[f l[k]]:=by rw[yH,kK a,My];rfl
def Rb {l:List dW}{k:Nat}(a:k<l.length)(h:e4 l[k]=false):l.all e4=false:=by rw[V4];exact⟨l[k],dH a,by simp[h]⟩
def akN {x:dW}(h:e4 x=true):OS x=YF x:=aj h
def afC {l:List dW}(h:l.length<=1048576):Al F0 l=some (tx (VQ l),()):=by
 rw[Ul];refine b9 (fun n i (c:ByteArray)=>lA F0 (mg F0) n (ig l c i)) l.length (fun k c=>(l.take k).all e4=true/\c=tx (ng (l.take k))) _ (fun n k c a f=>?_) (fun n c f=>?_) _ 0 _ (a1 _) ⟨rfl,rfl⟩ (by rw[b1];omega)
 .obtain⟨b,rfl⟩:=f;have g:=O4 b;rw[bQ,Rt (by omega)]at g;rw[yK,bp a,ae,aE a,ab,abo a,Gv,av,PY];dsimp only;cases d:e4 l[k]with
  |false =>
   left;rw[h9,ae,VQ,Rb a d];rfl
  |true =>
   right;have o:=YG d;refine⟨tx (ng (l.take (k+1))),?_,by rw[afB a,b,d];rfl,rfl⟩;rw[bc,aa,ab,ab,YH,av,av,akN d,show ByteArray.mk #[44]=tx [44] from rfl,aP];dsimp only;rw[aT (by rw[ao,ao,b2];omega),ab,aT (by rw[ao,ao,aB,b2];omega),ab,aT (by rw[ao,ao];omega),ab,aP,aP,an (by omega)];by_cases j:k=0
   .subst j;rw[show decide (((0:Nat):Int)>0)=false from rfl,aa,show ng (l.take (0+1))=ng (l.take 0)++YF l[0] by rw[ng,NO a];simp[ng,Lib.join_one,Lib.join_nil]]
   .have m:(l.take k).map YF≠[]:=by intro e;have:=C2 List.length e;rw[fB,bQ,bo]at this;omega
    rw[aW (show(k:Int)>0 by omega),ae,show ng (l.take (k+1))=ng (l.take k)++[44]++YF l[k] by rw[ng,NO a,RM m];rfl]
 .obtain⟨b,rfl⟩:=f;rw[gq]at b ⊢;rw[yK,aO,aa,Ok,VQ,aj b]
def LQ (up:List UInt8)(view:Int)(l:List dW):List UInt8:=up++[47]++Lib.itoa view++[124]++ng l
def Hn (up:List UInt8)(view:Int)(l:List dW):List UInt8:=if l.all e4=true/\bR (LQ up view l)=true then LQ up view l else []
def Y6 (up:List UInt8){view:Int}(a:pg view){l:List dW}(b:l.all e4=true):(LQ up view l).length<=up.length+23+91*l.length:=by have:=O4 b;have:=dC a;simp only[LQ,aB,b2];omega
def Ho {up:List UInt8}(f:up.length<=1048576){view:Int}(c:pg view){l:List dW}(h:l.length<=1048576):dX F0 (tx up) view l=some (tx (Hn up view l),()):=by
 have g:=dC c;rw[Xa];refine b9 (fun n i (_:Unit)=>vg F0 (n8 F0) n (n7 (tx up) view l i)) l.length (fun k _=>(l.take k).all e4=true) _ (fun n k out b a=>?_) (fun n out a=>?_) _ 0 () (a1 _) rfl (by rw[b1];omega)
 .rw[BY,bp b,ae,aE b,ab,abo b,Gv,av,RV];dsimp only;cases d:e4 l[k]with
  |false =>
   left;rw[h9,ae,Hn,ag (by rw[Rb b d];simp)];rfl
  |true =>
   right;exact⟨(),by rw[bc,aa,an (by omega)],by rw[afB b,a,d];rfl⟩
 .rw[gq]at a;have j:=O4 a;have e:=Y6 up c a;rw[BY,aO,aa,P1,dc c,av,afC h,av,VQ,aj a,show ByteArray.mk #[47]=tx [47] from rfl,show ByteArray.mk #[124]=tx [124] from rfl];dsimp only;rw[aT (by rw[ao,ao,b2];omega),ab,aP,aT (by rw[ao,ao,aB,b2];omega),ab,aP,aT (by rw[ao,ao,aB,aB,b2,b2];omega),ab,aP,
   aT (by rw[ao,ao,aB,aB,aB,b2,b2];omega),ab,aP,show up++[47]++Lib.itoa view++[124]++ng l=LQ up view l from rfl,He (by omega),av,Hn]
  dsimp only;cases e:bR (LQ up view l) with
  |false=>rw[ag (by simp)];rfl
  |true=>rw[aj ⟨a,rfl⟩];rfl
def Gd {U:Type}(X:Option U)(P:U->Prop):Prop:=∃v,X=some v/\P v
abbrev DrT (U:Type):=(U×Unit)×(cz×Unit)
def Dr {U:Type}(X:Option (DrT U))(Q:U->Prop):Prop:=Gd X fun z=>Q z.1.1/\fz z.2.1
def Gd.bind {U V:Type}{X:Option U}{P:U->Prop}(h:Gd X P){f:U->Option V}{R:V->Prop}(a:∀v,P v->Gd (f v) R):Gd (X.bind f) R:=by obtain⟨v,rfl,b⟩:=h;exact a v b
def Dr.bind {U V:Type}{X:Option (DrT U)}{Q:U->Prop}(h:Dr X Q){f:DrT U->Option V}{R:V->Prop}(a:∀z:DrT U,Q z.1.1->fz z.2.1->Gd (f z) R):Gd (X.bind f) R:=by obtain⟨z,rfl,b,c⟩:=h;exact a z b c
def Gd.let {U V:Type}{X:Option U}{v:U}(h:X=some v){f:U->Option V}{R:V->Prop}(a:Gd (f v) R):Gd (X.bind f) R:=by subst h;exact a
def Gd.ret {U:Type}{v:U}{P:U->Prop}(h:P v):Gd (some v) P:=⟨v,rfl,h⟩
def Gd.br {U:Type}{c:Bool}{x y:Option U}{P:U->Prop}(a:c=true->Gd x P)(b:c=false->Gd y P):Gd (br c x y) P:=by
 cases c with
 |true=>exact a rfl|false=>exact b rfl
def Gd.ck {U:Type}{c:Bool}{x:Option U}{P:U->Prop}(a:c=true)(b:Gd x P):Gd (ck c x) P:=by subst a;exact b
def Gd.mono {U:Type}{X:Option U}{P Q:U->Prop}(h:Gd X P)(a:∀v,P v->Q v):Gd X Q:=by obtain⟨v,e,b⟩:=h;exact⟨v,e,a v b⟩
def Gd.br0 {U:Type}{c:Bool}{x y:Option U}{P:U->Prop}(h:c=false)(a:Gd y P):Gd (Am.br c x y) P:=by subst h;exact a
def Gd.br1 {U:Type}{c:Bool}{x y:Option U}{P:U->Prop}(h:c=true)(a:Gd x P):Gd (Am.br c x y) P:=by subst h;exact a
def eV {ζ V:Type}(X:Nat->Int->ζ->Option V)(L:Nat)(a:Nat->ζ->Prop)(P:V->Prop)
  (d:∀n k z,k<L->a k z->(∀b,a (k+1) b->Gd (X n ((k+1:Nat):Int) b) P)->Gd (X (n+1) (k:Int) z) P) (e:∀n z,a L z->Gd (X (n+1) (L:Int) z) P) :
  ∀n k z,k<=L->a k z->L-k<n->Gd (X n (k:Int) z) P:=by
 intro n
 induction n with
 |zero=>intro k z _ _ h;omega
 |succ n f =>
  intro k z i c j;by_cases h:k=L
  .subst h;exact e n z c
  .exact d n k z (by omega) c fun b g=>f (k+1) b (by omega) g (by omega)
def VR {c:cz}(h:fz c):Dr (U:=Int) (gz F0 c) fun v=>0<=v/\v<=255:=by obtain⟨v,f,e,a,b,d⟩:=ajJ h;exact⟨_,e,⟨a,b⟩,d⟩
def aop {x y z w:Int}(a:0<=x)(b:x<=255)(c:0<=y)(d:y<=255)(e:0<=z)(f:z<=255)(w0:0<=w)(w1:w<=255):0<=ak (ak (ak (ak (x*16777216)+ak (y*65536))+ak (z*256))+w):=by rw[aD (n:=x*16777216) (by omega) (by omega),aD (n:=y*65536) (by omega) (by omega),aD (n:=z*256) (by omega) (by omega),aD (n:=x*16777216+y*65536) (by omega) (by omega),aD (n:=x*16777216+y*65536+z*256) (by omega) (by omega),aD (by omega) (by omega)];omega
def ax {c:cz}(h:fz c){n:Int}(a:0<n)(r:n<=9223372036854775807):Dr (U:=Int) (af F0 c n) fun v=>0<=v/\v<n:=by
 by_cases b:n<=256
 .obtain⟨v,s,e,j,k,l⟩:=Y5 h a b;exact⟨_,e,⟨j,k⟩,l⟩
 .unfold Dr;rw[x9];refine Gd.br0 (a6 (by omega)) (Gd.br0 (a6 b) ?_);refine Dr.bind (VR h) fun x d m=>Dr.bind (VR m) fun y f o=>Dr.bind (VR o) fun z g p=>Dr.bind (VR p) fun w i q=>Gd.ck ?_ (Gd.ret ⟨?_,q⟩)
  .rw[cC.2 (show n≠0 by omega)];rfl
  .exact adE (aop d.1 d.2 f.1 f.2 g.1 g.2 i.1 i.2) a
def tg {c:cz}(h:fz c){n:Int}(a:0<n)(b:n<=256):Dr (U:=Bool) (cX F0 c n) fun _=>True:=by obtain⟨v,f,e,d⟩:=aon h a b;exact⟨_,e,trivial,d⟩
def bO {c:cz}(h:fz c){l:List Int}(a:0<l.length)(b:l.length<=256):Dr (U:=Int) (aH F0 c l) fun v=>v∈l:=by obtain⟨v,g,e,d,f⟩:=ahK h a b;exact⟨_,e,d,f⟩
def aoq {c:cz}(h:fz c){l:List ByteArray}(d:0<l.length)(f:l.length<=256):Dr (U:=ByteArray) (Dh F0 c l) fun v=>v∈l:=by
 unfold Dr;rw[Xc];refine Dr.bind (ax h (n:=(l.length:Int)) (by omega) (by omega)) fun v a b=>Gd.ck ?_ (Gd.ret ⟨?_,b⟩)
 .simp[b5,a.1,a.2]
 .have hlt:v.1.1.toNat<l.length:=by have:=a.1;have:=a.2;omega
  have e:v.1.1=(v.1.1.toNat:Int):=by have:=a.1;omega
  show bd l v.1.1 ByteArray.empty∈l;rw[e,cB hlt];exact dH hlt
def SS {a:List Int}(h:a.length<=1048576):Gd (gW F0 a) fun z=>fz z.1.1:=by obtain⟨c,e,b⟩:=ap8 h;exact⟨_,e,b⟩
def aor {x y:Int}(a:0<=x)(b:x<4)(c:0<=y)(d:y<3):bF (ak (4+x),ak (1+y))=true:=by rw[aD (by omega) (by omega),aD (by omega) (by omega)];simp only[bF,fR,az,bu];omega
def Lh {c:cz}(h:fz c):Dr (U:=Int×Int) (gj F0 c) fun v=>bF v=true:=by
 unfold Dr;rw[Oj];refine Dr.bind (ax h (n:=4) (by omega) (by omega)) fun x a d=>Dr.bind (ax d (n:=3) (by omega) (by omega)) fun y b e=>Gd.ret ⟨?_,e⟩
 exact aor a.1 a.2 b.1 b.2
def aq5 {x y z w:Int}(b:0<=x)(c:x<4)(d:0<=y)(e:y<4)(a:z∈[(0:Int),5,60,100,1000])(w0:0<=w)(w1:w<3):e4 (x,y,z,w)=true:=by simp only[c7,Te,Ja]at a;simp only[e4,inB,az,bu];rcases a with rfl|rfl|rfl|rfl|rfl<;>omega
def p5 {c:cz}(h:fz c):Dr (U:=dW) (cd F0 c) fun v=>e4 v=true:=by
 unfold Dr;rw[Ma];refine Dr.bind (ax h (n:=4) (by omega) (by omega)) fun x a e=>Dr.bind (ax e (n:=4) (by omega) (by omega)) fun y b f=>Dr.bind (bO f (l:=[0,5,60,100,1000]) (by decide) (by decide)) fun z g i=>Dr.bind (ax i (n:=3) (by omega) (by omega)) fun w d j=>Gd.ret ⟨?_,j⟩
 exact aq5 a.1 a.2 b.1 b.2 g d.1 d.2
def TxI (x:dW):Prop:=pg x.1/\pg x.2.1/\pg x.2.2.1/\pg x.2.2.2
def ap9 {x:dW}(h:e4 x=true):TxI x:=by obtain⟨a,b,c,d⟩:=kz h;exact⟨⟨by omega,by omega⟩,⟨by omega,by omega⟩,⟨by omega,by omega⟩,⟨by omega,by omega⟩⟩
def Y7 {c:cz}(h:fz c):Dr (U:=dW) (wT F0 c) TxI:=by
 unfold Dr;rw[Yj];have i2:∀a b:Int,pg a->pg b->∀{v:Int},v∈[a,b]->pg v:=fun a b l m v i=>by simp only[c7,Te,Ja]at i;rcases i with rfl|rfl<;>assumption
 have lt:∀n:Int,-1<=n->n<=1001->pg n:=fun n o p=>⟨by omega,by omega⟩
 refine Dr.bind (p5 h) fun x j k=>?_
 have d:=ap9 j;refine Dr.bind (ax k (n:=12) (by omega) (by omega)) fun y q g=>?_
 refine Gd.br (fun _=>?_) fun _=>?_
 .exact Dr.bind (bO g (by decide) (by decide)) fun z e f=>Gd.ret ⟨⟨i2 _ _ (lt _ (by decide) (by decide)) (lt _ (by decide) (by decide)) e,d.2⟩,f⟩
 refine Gd.br (fun _=>?_) fun _=>?_
 .exact Dr.bind (bO g (by decide) (by decide)) fun z e f=>Gd.ret ⟨⟨d.1,i2 _ _ (lt _ (by decide) (by decide)) (lt _ (by decide) (by decide)) e,d.2.2⟩,f⟩
 refine Gd.br (fun _=>?_) fun _=>?_
 .exact Dr.bind (bO g (by decide) (by decide)) fun z e f=>Gd.ret ⟨⟨d.1,d.2.1,i2 _ _ (lt _ (by decide) (by decide)) (lt _ (by decide) (by decide)) e,d.2.2.2⟩,f⟩
 refine Gd.br (fun _=>?_) fun _=>?_
 .refine Dr.bind (bO g (by decide) (by decide)) fun z e f=>Gd.ret ⟨⟨d.1,d.2.1,d.2.2.1,?_⟩,f⟩
  have:=e;simp only[c7,Te,Ja]at this;show pg z.1.1;rcases this with h|h|h<;>rw[show z.1.1=_ from h]<;>exact lt _ (by decide) (by decide)
 .exact Gd.ret ⟨d,g⟩
def aos (up:List UInt8)(view:Int)(i:Nat){γ:Type}(J:Ex->St->Option γ){P:γ->Prop}(e:∀xs (c:cz),xs.length<=3->(∀x∈xs,e4 x=true)->fz c->Gd (J (.exit 2) (kD (tx up) view (i:Int) c.1 c.2.1 c.2.2 xs)) P){c:cz}(f:fz c) :
  Gd (fH F0 J F0.n (eE (tx up) view (i:Int) 0 c.1 c.2.1 c.2.2 [])) P:=by
 refine eV (fun n k (z:cz×List dW)=>fH F0 J n (eE (tx up) view (i:Int) k z.1.1 z.1.2.1 z.1.2.2 z.2)) 3 (fun k z=>fz z.1/\z.2.length<=k/\∀x∈z.2,e4 x=true) _ (fun n k z m a g=>?_) (fun n z a=>?_) F0.n 0 (c,[]) (a1 _) ⟨f,bq _,fun x b=>by cases b⟩ (by rw[b1];omega)
 .rw[pN];refine Dr.bind (ax a.1 (n:=3) (by omega) (by omega)) fun x b d=>Gd.br (fun _=>?_) fun _=>?_
  .refine Dr.bind (p5 d) fun y j l=>Gd.ck (aC (by omega) (by omega) (by rw[b2];have:=a.2.1;omega)) ?_
   rw[an (by omega)];refine g (y.2.1,z.2++[y.1.1]) ⟨l,by rw[aB,b2];have:=a.2.1;omega,fun x b=>?_⟩;rcases en.1 b with h|h
   .exact a.2.2 x h
   .rw[fA.1 h];exact j
  .exact e z.2 x.2.1 (by have:=a.2.1;omega) a.2.2 d
 .rw[pN];refine Dr.bind (ax a.1 (n:=3) (by omega) (by omega)) fun x b d=>?_
  refine Gd.br0 (a6 (by have:=b.2;show ¬(3:Int)<x.1.1;omega)) ?_;exact e z.2 x.2.1 a.2.1 a.2.2 d
def akO {up:List UInt8}{view:Int}{l:List dW}:bR (Hn up view l)=true:=by
 unfold Hn;split
 .rename_i h;exact h.2
 .exact OX
def LR {up:List UInt8}{view:Int}(a:pg view)(l:List dW):(Hn up view l).length<=up.length+23+91*l.length:=by
 unfold Hn;split
 .rename_i h;exact Y6 up a h.1
 .exact a1 _
def ar6 (b:ByteArray):Prop:=b.size<=10000/\bR b.data.toList=true
def p6 {c:cz}(h:fz c):Dr (U:=ByteArray) (c8 F0 c) ar6:=by
 unfold Dr;rw[Mb];refine eV (fun n i (z:cz×(List UInt8×Int))=>jz F0 (lB F0) n (gA (tx z.2.1) z.2.2 i z.1.1 z.1.2.1 z.1.2.2)) 6 (fun k z=>fz z.1/\z.2.1.length<=300*k/\bR z.2.1=true/\0<=z.2.2/\z.2.2<=2*k) _ (fun n k z u b l=>?_) (fun n z b=>?_) F0.n 0 (c,[],0) (a1 _) ⟨h,a1 _,OX,I9 _,I9 _⟩ (by rw[b1];omega)
 .obtain⟨d,m,e,o,p⟩:=b;rw[pO];refine Dr.bind (ax d (n:=6) (by omega) (by omega)) fun x g a=>Gd.br (fun _=>?_) fun _=>?_
  .refine Dr.bind (ax a (n:=4) (by omega) (by omega)) fun y f q=>?_
   have r:Int.tdiv y.1.1 3=y.1.1/3:=aiE f.1;have v:=f.1;have w:=f.2;rw[r,aD (n:=z.2.2+1) (by omega) (by omega),aD (n:=y.1.1/3) (by omega) (by omega),aD (n:=z.2.2+1+y.1.1/3) (by omega) (by omega)];refine aos z.2.1 (z.2.2+1+y.1.1/3) k _ (fun xs s A B t=>?_) q;rw[GY];have j:pg (z.2.2+1+y.1.1/3):=⟨by omega,by omega⟩;refine Gd.let (Ho (by omega) j (by omega)) ?_;rw[an (by omega)];exact l (s,Hn z.2.1 (z.2.2+1+y.1.1/3) xs,z.2.2+1+y.1.1/3) ⟨t,by have:=LR (up:=z.2.1) j xs;dsimp only;omega,akO,by dsimp only;omega,by dsimp only;omega⟩
  .rw[ry];exact Gd.ret ⟨⟨by rw[show(tx z.2.1).size=_ from ao _];omega,by rw[show(tx z.2.1).data.toList=_ from dB _];exact e⟩,a⟩
 .obtain⟨d,m,e,o,p⟩:=b;rw[pO];refine Dr.bind (ax d (n:=6) (by omega) (by omega)) fun x g a=>?_
  refine Gd.br0 (a6 (by have:=g.2;show ¬(6:Int)<x.1.1;omega)) ?_;rw[ry];exact Gd.ret ⟨⟨by rw[show(tx z.2.1).size=_ from ao _];omega,by rw[show(tx z.2.1).data.toList=_ from dB _];exact e⟩,a⟩
def Y8 (s:ByteArray)(a b:Nat):(s.extract a b).size<=s.size:=by rw[agJ];omega
def Y9 (a b:ByteArray):(a++b).size=a.size+b.size:=ByteArray.size_append
def O5 {l h n:Int}(a:0<=l)(b:l<=h)(c:h<=n):I5 l h n=true:=by simp[I5,a,b,c]
def aot {c:cz}(h:fz c){s:ByteArray}(g:s.size<=20000):Dr (U:=ByteArray) (Di F0 c s) fun v=>v.size<=20100:=by
 unfold Dr;rw[Xe];rw[aD (n:=(s.size:Int)+1) (by omega) (by omega)];refine Dr.bind (ax h (n:=(s.size:Int)+1) (by omega) (by omega)) fun x b d=>Dr.bind (ax d (n:=5) (by omega) (by omega)) fun y i a=>?_
 have j:=b.1;have k:=b.2;refine Gd.br (fun _=>Gd.ck (O5 (by omega) (by omega) (by omega)) (Gd.ret ⟨?_,a⟩)) fun _=>Gd.br (fun _=>?_) fun _=>Gd.ret ⟨by show s.size<=20100;omega,a⟩
 .have:=Y8 s (0:Int).toNat x.1.1.toNat;show(s.extract _ _).size<=20100;omega
 .refine Gd.ck (O5 (by omega) (by omega) (by omega)) (Gd.ck (O5 (by omega) (by omega) (by omega)) (Dr.bind (aoq a (by decide) (by decide)) fun z e f=>?_));have l:=Y8 s (0:Int).toNat x.1.1.toNat;have m:=Y8 s x.1.1.toNat (s.size:Int).toNat;have o:z.1.1.size=1:=by have:=e;simp only[c7,Te,Ja]at this;rcases this with h|h|h|h|h|h|h<;>rw[show z.1.1=_ from h]<;>rfl
  refine Gd.ck (aT (by omega)) (Gd.ck (aT (by rw[Y9];omega)) (Gd.ret ⟨?_,f⟩));show(_++_++_:ByteArray).size<=20100;rw[Y9,Y9];have:(s.extract (0:Int).toNat x.1.1.toNat).size+(s.extract x.1.1.toNat (s.size:Int).toNat).size<=s.size:=by rw[agJ,agJ];omega
  omega
def Za {c:cz}(h:fz c):Dr (U:=ByteArray) (pP F0 c) fun v=>v.size<=20100:=by
 unfold Dr;rw[Xg];refine Dr.bind (tg h (by omega) (by omega)) fun x q f=>Gd.br (fun _=>?_) fun _=>?_
 .refine eV (fun n i (z:cz×List UInt8)=>vj F0 (ye F0) n (oe (tx z.2) i z.1.1 z.1.2.1 z.1.2.2)) 33 (fun k z=>1<=k/\fz z.1/\z.2.length<=30*k) _ (fun n k z r b j=>?_) (fun n z b=>?_) F0.n 1 (x.2.1,[]) (by omega) ⟨bq _,f,a1 _⟩ (by rw[b1];omega)
  .obtain⟨l,d,m⟩:=b;rw[BZ];refine Dr.bind (ax d (n:=2) (by omega) (by omega)) fun y e a=>Gd.br (fun _=>?_) fun _=>?_
   .have g:pg (k:Int):=⟨by omega,by omega⟩;have s:=dC g;refine Gd.ck (aT (by rw[ao];show _+1<=_;omega)) (Gd.let (dc g) ?_);rw[show ByteArray.mk #[47]=tx [47] from rfl,show ByteArray.mk #[124]=tx [124] from rfl,aP];dsimp only;rw[aP,aP,an (by omega)];refine Gd.ck (aT (by rw[ao,ao,aB,b2];omega)) (Gd.ck (aT (by rw[ao,ao,aB,aB,b2,b2];omega)) ?_);exact j (y.2.1,z.2++[47]++Lib.itoa (k:Int)++[124]) ⟨by omega,a,by rw[aB,aB,aB,b2,b2];omega⟩
   .rw[Dj];exact Gd.ret ⟨by show(tx z.2).size<=20100;rw[ao];omega,a⟩
  .obtain⟨l,d,m⟩:=b;rw[BZ];refine Dr.bind (ax d (n:=2) (by omega) (by omega)) fun y e a=>?_
   refine Gd.br0 (a6 ?_) ?_
   .rw[aD (by omega) (by omega)];omega
   .rw[Dj];exact Gd.ret ⟨by show(tx z.2).size<=20100;rw[ao];omega,a⟩
 .refine Dr.bind (p6 f) fun y e a=>Dr.bind (aot a (by have:=e.1;omega)) fun z o p=>Gd.ret ⟨o,p⟩
def Zb (l:List UInt8):∀(k:Nat),k<=l.length->(fS l k=0/\∀a,a<k->l.getD a 0≠47)\/(0<fS l k/\fS l k<=k/\l.getD (fS l k-1) 0=47/\∀a,fS l k<=a->a<k->l.getD a 0≠47)
 |0,_=>.inl ⟨rfl,fun a h=>absurd h (Tg _)⟩
 |k+1,n=>by
  have f:∀b:UInt8,((b.toNat:Int) != 47)=true↔b≠47:=by
   intro b;rw[GD];constructor
   .rintro h rfl;exact h rfl
   .intro h c;refine h (UInt8.toNat_inj.1 ?_);show b.toNat=47;omega
  unfold fS;split
  .rename_i h;rw[f]at h;rcases Zb l k (by omega) with ⟨d,c⟩|⟨d,c,g,i⟩
   .refine .inl ⟨d,fun a o=>?_⟩;by_cases e:a=k
    .rw[e];exact h
    .exact c a (by omega)
   .refine .inr ⟨d,by omega,g,fun a j p=>?_⟩;by_cases e:a=k
    .rw[e];exact h
    .exact i a j (by omega)
  .rename_i h;rw[f]at h;refine .inr ⟨V9 _,bq _,ad7 fun m=>h m,fun a d c=>by omega⟩
def amF {l:List UInt8}(h:bR l=true)(b:l≠[]):∃t,(47:UInt8) ∉ t/\l=upL l++47::t:=by
 have j:0<fS l l.length:=by obtain⟨t,rfl⟩:=ahx h b;exact abu _ (V9 _)
 rcases Zb l l.length (bq _) with ⟨k,_⟩|⟨_,m,a,c⟩
 .omega
 .have hlt:fS l l.length-1<l.length:=by omega
  have d:upL l=l.take (fS l l.length-1):=by unfold upL;rw[aj h]
  refine⟨l.drop (fS l l.length),fun f=>?_,?_⟩
  .obtain⟨g,i,e⟩:=aeb f;rw[List.getElem_drop]at e;rw[bT]at i;refine c (fS l l.length+g) (by omega) (by omega) ?_;rw[I6,kK (by omega)];exact e
  .rw[d]
   conv=>lhs;rw[<-abQ (fS l l.length-1) l]
   congr 1
   rw[VZ hlt];rw[I6,kK hlt]at a;rw[show l[fS l l.length-1]=47 from a,show fS l l.length-1+1=fS l l.length by omega]
def amG {l:List UInt8}(h:bR l=true):bR (upL l)=true:=by
 by_cases a:l=[]
 .subst a;rfl
 .obtain⟨t,b,e⟩:=amF h a;exact(ahL b (e▸h)).1
def SU (c:UInt8):∀l:List UInt8,l.length+1=((parts c l).map fun p=>p.length+1).sum
 |[]=>rfl|x::l=>by
  have a:=SU c l;rw[Hm];split
  .rw[kL,V6,<-a,aR,bo];omega
  .have d:=CJ c l;cases b:parts c l with
   |nil=>exact absurd b d
   |cons p e =>
    rw[b]at a;rw[kL,V6]at a ⊢;rw[aR,aR];omega
def ahM {U:Type}{f:U->Nat}{b:Nat}:∀{l:List U},(∀x∈l,f x<=b)->(l.map f).sum<=b*l.length
 |[],_=>a1 _|x::l,h=>by
  have c:=h x tu;have d:=ahM fun y a=>h y (h8 x a)
  rw[kL,V6,aR,Nat.mul_succ];omega
def SV {σ V:Type}{f:σ->List UInt8->Option (σ×V)}{Q:List UInt8->Prop}(e:∀s p c b,f s p=some (c,b)->Q p):∀{P:List (List UInt8)} {s:σ} {r:List V},yF f s P=some r->∀p∈P,Q p
 |[],_,_,_,p,a=>by cases a
 |q::P,s,r,h,p,a=>by
  unfold yF at h;cases d:f s q with
  |none=>rw[d]at h;cases h
  |some y =>
   obtain⟨c,b⟩:=y;rw[d]at h;dsimp only at h;cases g:yF f c P with
   |none=>rw[g]at h;cases h
   |some i =>
    rcases c7.1 a with rfl|a
    .exact e _ _ _ _ d
    .exact SV e g p a
def aou {l:List UInt8}(h:(Mu l).2=true):l.length<=90:=by
 unfold Mu at h;split at h
 .rename_i a;rw[<-a.2];exact YG a.1
 .cases h
def amH {l:List UInt8}(h:(hn l).2=true):l.length<=91*(hn l).1.length:=by
 unfold hn at h ⊢;split at h
 .rename_i a;rw[aj a,a];exact bq _
 .rename_i a;rw[ag a];cases c:yF txF () (parts 44 l) with
  |none=>rw[c]at h;cases h
  |some r =>
   have g:=K0 c;have i:=SU 44 l;have:=ahM (f:=fun p:List UInt8=>p.length+1) (b:=91) (l:=parts 44 l) (SV (f:=txF) (Q:=fun p=>p.length+1<=91) (fun s p j b d=>by
    unfold txF at d;split at d
    .rename_i e;have:=aou e;omega
    .cases d) c)
   dsimp only;omega
def aov {l:List UInt8}(h:(dO l).2=true):l.length<=6:=by
 unfold dO at h;split at h
 .cases h
 .rename_i a;omega
def aqa (l:List UInt8)(c:UInt8):l.length<=(l.takeWhile (· != c)).length+((l.dropWhile (· != c)).drop 1).length+1:=by have h:=C2 List.length (List.takeWhile_append_dropWhile (p:=(· != c)) (l:=l));rw[aB]at h;rw[bT];omega
def amI {g:Int}{p:List UInt8}{f:Int}{b:NL}(h:CK g p=some (f,b)):p.length<=189:=by
 unfold CK at h;split at h
 .rename_i a;have c:=aov a.2.1;have d:=amH a.2.2.1;have e:=a.2.2.2.2.2;have i:=aqa p 124;unfold dp at c d e;dsimp only at c d e;omega
 .cases h
def aow {l:List UInt8}(h:bR l=true):l.length<=5700:=by
 by_cases d:l=[]
 .rw[d];exact a1 _
 unfold bR bZ at h;rw[ag d]at h;have e:=SU 47 l;cases g:parts 47 l with
 |nil=>rw[g]at h;cases h
 |cons k a =>
  rw[g]at h e;dsimp only at h;split at h
  .cases h
  .rename_i i;have m:k=[]:=ad7 fun c=>i (.inl c)
   have o:¬30<a.length:=fun c=>i (.inr c)
   cases j:yF CK 0 a with
   |none=>rw[j]at h;cases h
   |some r =>
    have:=ahM (f:=fun p:List UInt8=>p.length+1) (b:=190) (l:=a) (SV (f:=CK) (Q:=fun p=>p.length+1<=190) (fun s p q b n=>by have:=amI n;omega) j);rw[kL,V6,m,bo]at e;omega
def Rc:Nat->Int->List Int
 |0,v=>[v]|k+1,v=>if v<128 then [v] else (v%128+128)::Rc k (v/128)
def ay (v:Int):List Int:=if 0<=v/\v<=2147483647 then Rc 4 v else []
def Zc:∀(k:Nat) (v:Int),1<=(Rc k v).length/\(Rc k v).length<=k+1
 |0,v=>⟨bq _,bq _⟩|k+1,v=>by
  unfold Rc;have:=Zc k (v/128);split
  .exact⟨bq _,by rw[b2];omega⟩
  .rw[aR];omega
def Zd:∀(k:Nat) (v:Int),0<=v->v<128 ^ (k+1)->∀x∈Rc k v,0<=x/\x<=255
 |0,v,b,c,x,a=>by rw[fA.1 a];have:(128:Int) ^ (0+1)=128:=rfl;omega
 |k+1,v,b,c,x,a=>by
  unfold Rc at a;split at a
  .rw[fA.1 a];omega
  .rcases c7.1 a with rfl|a
   .omega
   .refine Zd k (v/128) (by omega) ?_ x a;have e:(128:Int) ^ (k+1+1)=128 ^ (k+1)*128:=Rx _ _;omega
def cm (v:Int):(ay v).length<=5:=by
 unfold ay;split
 .exact(Zc 4 v).2
 .exact a1 _
def dw (v:Int):∀x∈ay v,0<=x/\x<=255:=by
 unfold ay;split
 .rename_i h;have b:(128:Int) ^ (4+1)=34359738368:=by decide
  exact Zd 4 v h.1 (by omega)
 .intro x a;cases a
def afD:∀(j k:Nat) (v n:Int) (rest:List Int),j+k=4->0<=v->v<128 ^ (j+1)->(k≠0->v≠0)->0<=n->n+v*128 ^ k<=2147483647->Q4 (j+1) (Rc j v++rest) k n=some (n+v*128 ^ k,k+(Rc j v).length)
 |0,k,v,n,rest,f,g,i,a,l,b=>by have q:(128:Int) ^ (0+1)=128:=rfl;unfold Rc Q4;rw[List.singleton_append];dsimp only;rw[aj (by omega),ag (fun h=>h.elim (fun h=>a h.1 h.2) (fun h=>by omega))];rfl
 |j+1,k,v,n,rest,f,g,i,a,l,b=>by
  unfold Rc;have m:=adu (k:=k) (by omega);have o:(128:Int) ^ (k+1)=128 ^ k*128:=Rx _ _;have r:(128:Int) ^ (j+1+1)=128 ^ (j+1)*128:=Rx _ _;split
  .rename_i c;unfold Q4;rw[List.singleton_append];dsimp only;rw[aj c,ag (fun h=>h.elim (fun h=>a h.1 h.2) (fun h=>by omega))];rfl
  .rename_i c;unfold Q4;rw[pE];dsimp only;have p:0<=v%128/\v%128<128:=⟨V2 _ (by omega),V0 _ (by omega)⟩;rw[ag (by omega),show(v%128+128)%128=v%128 by omega];have e:v*128 ^ k=v%128*128 ^ k+v/128*128 ^ (k+1):=by
    rw[o];have:v=v%128+128*(v/128):=(Int.emod_add_mul_ediv v 128).symm;generalize (128:Int) ^ k=P at *
    calc v*P=(v%128+128*(v/128))*P:=by rw[<-this]
     _=v%128*P+v/128*(P*128):=by rw[Int.add_mul,Int.mul_comm 128,Int.mul_assoc,Int.mul_comm 128]
   have s:=amA (d:=v%128) (P:=128 ^ k) p.1 (by omega) m.1;have:=afD j (k+1) (v/128) (n+v%128*128 ^ k) rest (by omega) (by omega) (by omega) (fun _=>by omega) (by omega) (by rw[Int.add_assoc,<-e];exact b);rw[this,Int.add_assoc,<-e,aR]
   congr 2
   omega
def afE {pre rest:List Int}{v:Int}(a:0<=v)(b:v<=2147483647):uV (pre++(ay v++rest)) pre.length=some (v,pre.length+(ay v).length):=by
 have c:(128:Int) ^ (4+1)=34359738368:=by decide
 unfold uV ay;rw[List.drop_left,aj ⟨a,b⟩,afD 4 0 v 0 rest rfl a (by omega) (fun h=>absurd rfl h) (I9 _) (by have:(128:Int) ^ 0=1:=rfl;omega)];have:(128:Int) ^ 0=1:=rfl;dsimp only;rw[this,Int.mul_one,Int.zero_add,pF]
def ga (s:ByteArray):List Int:=ay (s.size:Int)++bytesOf s
def Li (s:ByteArray):(bytesOf s).length=s.size:=by unfold bytesOf;rw[fB];rfl
def aav (s:ByteArray):∀x∈bytesOf s,0<=x/\x<=255:=by intro x a;obtain⟨b,_,rfl⟩:=Bx.1 a;have:=UInt8.toNat_lt b;omega
def akP (s:ByteArray):strOf (bytesOf s)=s:=by
 unfold strOf bytesOf;rw[List.map_map];have:(s.data.toList.map ((fun n:Int=>UInt8.ofNat n.toNat)∘fun b:UInt8=>(b.toNat:Int)))=s.data.toList:=by
  rw[List.map_congr_left (g:=id)]
  .exact List.map_id _
  .intro b _;show UInt8.ofNat ((b.toNat:Int).toNat)=b;rw[wc];exact UInt8.ofNat_toNat
 rw[this]
def amJ {pre rest:List Int}{s:ByteArray}(h:s.size<=1048576):adv (pre++(ga s++rest)) pre.length=some (s,pre.length+(ga s).length):=by
 have a:=Li s;unfold adv ga;rw[ha,afE (by omega) (by omega)];dsimp only;rw[ag ?_]
 .congr 1
  refine tR ?_ ?_
  .show strOf _=s;have e:((pre++(ay (s.size:Int)++(bytesOf s++rest))).take (pre.length+(ay (s.size:Int)).length+((s.size:Int)).toNat)).drop (pre.length+(ay (s.size:Int)).length)=bytesOf s:=by rw[wc,<-ha,<-ha,<-aB,<-a,<-aB,List.take_left,List.drop_left]
   rw[e,akP]
  .show _=pre.length+(ay _++bytesOf s).length;rw[aB,a,wc,I8]
 .rw[aB,aB,aB,a];omega
def iS {pre rest:List Int}{v:Int}(a:0<=v)(b:v<=2147483647):aV (pre++(ay v++rest)) (pre.length,true)=(v,(pre++ay v).length,true):=by unfold aV;rw[afE a b,aB];rfl
def O6 {pre rest:List Int}{s:ByteArray}(h:s.size<=1048576):dv (pre++(ga s++rest)) (pre.length,true)=(s,(pre++ga s).length,true):=by unfold dv;rw[amJ h,aB];rfl
def ho (l:List Int):List Int:=l.flatMap ay
def T0 (v:Int):Prop:=0<=v/\v<=2147483647
def Ze:∀(l pre rest xs:List Int) (f:Nat) (i n:Int),(∀x∈l,T0 x)->n=i+l.length->l.length<f->lX (pre++(ho l++rest)) n f i (pre.length,true) xs=(xs++l,(pre++ho l).length,true)
 |[],pre,rest,xs,f+1,i,n,_,a,_=>by unfold lX;rw[ag (fun h=>by have:=h.1;simp at a;omega)];simp[ho]
 |x::l,pre,rest,xs,f+1,i,n,b,a,d=>by
  have c:=b x tu;unfold lX;rw[aR]at a d;rw[aj ⟨by omega,rfl⟩];have e:pre++(ho (x::l)++rest)=pre++(ay x++(ho l++rest)):=by simp[ho]
  rw[e,iS c.1 c.2];dsimp only;have g:pre++(ay x++(ho l++rest))=(pre++ay x)++(ho l++rest):=by simp
  rw[g,Ze l (pre++ay x) rest (xs++[x]) f (i+1) n (fun y j=>b y (h8 _ j)) (by omega) (by omega)];simp[ho]
def uY (l:List Int):List Int:=ay (l.length:Int)++ho l
def Zf (k:Nat)(v:Int):1<=(Rc k v).length:=(Zc k v).1
def SW:∀{l:List Int},(∀x∈l,T0 x)->l.length<=(ho l).length/\(ho l).length<=5*l.length
 |[],_=>⟨bq _,bq _⟩|x::l,h=>by
  have a:=h x tu;have c:=SW fun y b=>h y (h8 _ b)
  have d:1<=(ay x).length/\(ay x).length<=5:=by refine⟨?_,cm x⟩;unfold ay;rw[aj (show 0<=x/\x<=2147483647 from a)];exact Zf 4 x
  have e:ho (x::l)=ay x++ho l:=rfl;rw[e,aB,aR];omega
def abB {pre rest l:List Int}(a:∀x∈l,T0 x)(h:l.length<=1048576):CO (pre++(uY l++rest)) (pre.length,true)=(l,(pre++uY l).length,true):=by
 unfold CO uY;rw[ha,iS (by omega) (by omega)];dsimp only;have e:pre++(ay (l.length:Int)++(ho l++rest))=(pre++ay (l.length:Int))++(ho l++rest):=by simp
 have:=SW a;rw[e,Ze l (pre++ay (l.length:Int)) rest [] _ 0 _ a (by omega) (by simp only[aB];omega)];simp
def pD (q:ct):List Int:=ay q.1++(ga q.2.1++uY q.2.2)
structure aox (q:ct):Prop where
 v:T0 q.1
 n:q.2.1.size<=1048576
 w:q.2.2.length<=1048576
 m:∀x∈q.2.2,T0 x
def afF {pre rest:List Int}{q:ct}(h:aox q):Ba (pre++(pD q++rest)) (pre.length,true)=(q,(pre++pD q).length,true):=by
 unfold Ba pD;have a:pre++(ay q.1++(ga q.2.1++uY q.2.2)++rest)=pre++(ay q.1++(ga q.2.1++(uY q.2.2++rest))):=by simp
 have b:pre++(ay q.1++(ga q.2.1++(uY q.2.2++rest)))=(pre++ay q.1)++(ga q.2.1++(uY q.2.2++rest)):=by simp
 have c:pre++(ay q.1++(ga q.2.1++(uY q.2.2++rest)))=(pre++ay q.1++ga q.2.1)++(uY q.2.2++rest):=by simp
 have d:aV (pre++(ay q.1++(ga q.2.1++(uY q.2.2++rest)))) (pre.length,true)=(q.1,(pre++ay q.1).length,true):=iS h.v.1 h.v.2;have e:dv (pre++(ay q.1++(ga q.2.1++(uY q.2.2++rest)))) ((pre++ay q.1).length,true)=(q.2.1,(pre++ay q.1++ga q.2.1).length,true):=by rw[b];exact O6 h.n
 have f:CO (pre++(ay q.1++(ga q.2.1++(uY q.2.2++rest)))) ((pre++ay q.1++ga q.2.1).length,true)=(q.2.2,(pre++ay q.1++ga q.2.1++uY q.2.2).length,true):=by rw[c];exact abB h.m h.w
 rw[a,d];dsimp only;rw[e];dsimp only;rw[f];simp
def ajL {a b:ByteArray}(h:(a.toList==b.toList)=true):a=b:=by have:=QQ a.data.toList b.data.toList;rw[<-MK,<-MK,h]at this;rw[MK a,MK b,wb this.symm]
def SX {a b:ct}(h:uU a b=true):a=b:=by simp only[uU,az,cS,bu]at h;exact tR h.1 (tR (ajL (cS.2 h.2.1)) h.2.2)
def akQ {a b:dW}(h:adt a b=true):a=b:=by simp only[adt,az,cS]at h;exact tR h.1 (tR h.2.1 (tR h.2.2.1 h.2.2.2.1))
def adF {a b:cH}(h:Bt a b=true):a=b:=by simp only[Bt,az]at h;exact tR (ajL h.1) (SX h.2)
def O7 {a b:cq}(h:Hi a b=true):a=b:=by simp only[Hi,az]at h;obtain⟨c,d,e,f,g,i,j⟩:=h;exact tR (cS.1 c) (tR (cS.1 d) (tR (adF e) (tR (SX f) (tR (SX g) (tR (cS.1 i) (akQ j))))))
def LS {n:Int}{s:List Int}(h:nn n s=true):∀x∈s,0<=x/\x<n:=by intro x b;obtain⟨k,a,rfl⟩:=aeb b;have:=gb.1 h k (gd.2 a);rw[I6,kK a]at this;simp only[az,bu]at this;exact⟨this.1,this.2.1⟩
def ahN {n:Int}{s:List Int}(h:nn n s=true){k:Nat}(a:k+1<s.length):s[k]<s[k+1]:=by
 have:=gb.1 h (k+1) (gd.2 a);rw[show k+1-1=k from rfl,I6,I6,kK a,kK (by omega)]at this;simp only[az,hh,bu]at this;rcases this.2.2 with b|b
 .omega
 .exact b
def afG {n:Int}{s:List Int}(h:nn n s=true):∀(k:Nat) (a:k<s.length),(k:Int)<=s[k]
 |0,a=>(LS h _ (dH a)).1|k+1,a=>by have b:=afG h k (by omega);have c:=ahN h a;omega
def LU {n:Int}{s:List Int}(h:nn n s=true):(s.length:Int)<=max n 0:=by
 rcases Tc s.length with a|a
 .omega
 .have b:=afG h (s.length-1) (by omega);have c:=(LS h s[s.length-1] (dH _)).2;omega
def gp {b:ByteArray}(h:bR b.data.toList=true):b.size<=5700:=aow h
def Hp {c:Int×Int}{q:ct}(h:fg c q=true):bF c=true/\bR q.2.1.data.toList=true/\bE q.2.1.data.toList=q.1/\(q.2.1.data.toList=[]->q.2.2=[])/\(q.2.1.data.toList≠[]->nn c.1 q.2.2=true/\(q.2.2.length:Int)>=OV c):=by
 unfold fg adq at h;simp only[az,bu]at h;obtain⟨d,e,f,a⟩:=h;refine⟨d,e,f,fun b=>?_,fun b=>?_⟩
 .rw[aj b]at a;exact wb a
 .rw[ag b]at a;simp only[az,bu]at a;exact a
def NP {v:Int}(a:0<=v)(b:v<=1000000):T0 v:=⟨a,by omega⟩
def th {c:Int×Int}{q:ct}(h:fg c q=true):aox q/\q.2.2.length<=7/\q.2.1.size<=5700:=by
 obtain⟨f,g,k,i,j⟩:=Hp h;have l:=cj f;have d:=gp g;have m:=na q.2.1.data.toList;by_cases e:q.2.1.data.toList=[]
 .have a:=i e;refine⟨⟨NP (by omega) (by omega),by omega,by rw[a];exact a1 _,fun x b=>by rw[a]at b;cases b⟩,by rw[a];exact a1 _,d⟩
 .obtain⟨a,_⟩:=j e;have n:=LU a;refine⟨⟨NP (by omega) (by omega),by omega,by omega,fun x b=>?_⟩,by omega,d⟩;have:=LS a x b;exact NP (by omega) (by omega)
def CR (b:ByteArray):dR b=true↔b.data.toList=[]:=by unfold dR;have:=QQ b.data.toList [];rw[<-MK,show tx []=ah from rfl]at this;rw[this,bu]
def Re {c:Int×Int}{p:ct}(h:j0 c p=true):bF c=true/\1<=p.1/\p.1<=60/\nn c.1 p.2.2=true/\p.2.2≠[]/\bR p.2.1.data.toList=true/\(p.2.1.data.toList≠[]->bE p.2.1.data.toList=p.1):=by
 unfold j0 at h;simp only[az,hh,fR,bu,V1,cS,cC]at h;obtain⟨b,⟨d,f⟩,g,i,a⟩:=h;refine⟨b,d,f,g,fun e=>i (by rw[e];rfl),?_,fun j=>?_⟩
 .rcases a with a|a
  .rw[(CR _).1 a];exact OX
  .exact a.1
 .rcases a with a|a
  .exact absurd ((CR _).1 a) j
  .exact a.2
def LV {c:Int×Int}{q:ct}(h:j0 c q=true):aox q/\q.2.2.length<=7/\q.2.1.size<=5700:=by obtain⟨b,g,i,a,_,d,_⟩:=Re h;have j:=cj b;have e:=gp d;have k:=LU a;refine⟨⟨NP (by omega) (by omega),by omega,by omega,fun x f=>?_⟩,by omega,e⟩;have:=LS a x f;exact NP (by omega) (by omega)
def GA (m:cq):List Int :=
 ay m.1++(if m.1=1 then ga m.2.2.1.1++pD m.2.2.1.2 else if m.1=2 then pD m.2.2.2.1 else if m.1=3 then ay m.2.1++(ay m.2.2.2.2.2.1++pD m.2.2.2.2.1)
  else ay m.2.2.2.2.2.2.1++(ay m.2.2.2.2.2.2.2.1++(ay m.2.2.2.2.2.2.2.2.1++ay m.2.2.2.2.2.2.2.2.2)))
def VS {v:Int}(h:T0 v)(rest:List Int):l1 (ay v++rest)=(v,(ay v).length,true):=by have:=iS (pre:=[]) (rest:=rest) h.1 h.2;exact this
def amK {c:Int×Int}{m:cq}(h:dS c m=true):TX (GA m)=(m,(GA m).length,true):=by
 unfold dS at h;simp only[az]at h;obtain⟨D,E,d⟩:=h;have q:=O7 E;obtain⟨aqb,view,⟨f,i⟩,part,b,c9,tx⟩:=m;dsimp only at d q ⊢;by_cases t:aqb=1
 .subst t;rw[aj (by rfl)]at d;simp only[fZ,az]at d;have k:=(th d.1).1;have Q:=gp d.2.1;have e:GA (1,view,(f,i),part,b,c9,tx)=ay 1++(ga f++(pD i++[])):=by simp[GA]
  have l:ay 1++(ga f++(pD i++[]))=(ay 1++ga f)++(pD i++[]):=by simp
  have n:=VS (v:=1) (NP (by decide) (by decide)) (ga f++(pD i++[]));have o:dv (ay 1++(ga f++(pD i++[]))) ((ay 1).length,true)=(f,(ay 1++ga f).length,true):=O6 (by omega);have p:Ba (ay 1++(ga f++(pD i++[]))) ((ay 1++ga f).length,true)=(i,(ay 1++ga f++pD i).length,true):=by rw[l];exact afF k
  rw[e];unfold TX ap4;rw[n];dsimp only;rw[aj (by rfl),o];dsimp only;rw[p];rw[<-q];simp[named]
 .by_cases u:aqb=2
  .subst u;rw[ag (by decide),aj (by rfl)]at d;simp only[az]at d;have k:=(LV d.1).1;obtain⟨a,g,j⟩:=part;have e:GA (2,view,(f,i),(a,g,j),b,c9,tx)=ay 2++(ay a++(ga g++(uY j++[]))):=by simp[GA,pD]
   have l:ay 2++(ay a++(ga g++(uY j++[])))=(ay 2++ay a)++(ga g++(uY j++[])):=by simp
   have r:ay 2++(ay a++(ga g++(uY j++[])))=(ay 2++ay a++ga g)++(uY j++[]):=by simp
   have n:=VS (v:=2) (NP (by decide) (by decide)) (ay a++(ga g++(uY j++[])));have o:aV (ay 2++(ay a++(ga g++(uY j++[])))) ((ay 2).length,true)=(a,(ay 2++ay a).length,true):=iS k.v.1 k.v.2;have p:dv (ay 2++(ay a++(ga g++(uY j++[])))) ((ay 2++ay a).length,true)=(g,(ay 2++ay a++ga g).length,true):=by rw[l];exact O6 k.n
   have s:CO (ay 2++(ay a++(ga g++(uY j++[])))) ((ay 2++ay a++ga g).length,true)=(j,(ay 2++ay a++ga g++uY j).length,true):=by rw[r];exact abB k.m k.w
   rw[e];unfold TX ap5;rw[n];dsimp only;rw[ag (by decide),aj (by rfl),o];dsimp only;rw[p];dsimp only;rw[s];rw[<-q];simp[named]
  .by_cases w:aqb=3
   .subst w;rw[ag (by decide),ag (by decide),aj (by rfl)]at d;simp only[az,fR,bu]at d;obtain⟨⟨R,S⟩,k,⟨F,G⟩⟩:=d;have x:=cj D;rw[SO x.1 x.2.1]at G;have k:=(th k).1;have y:T0 c9:=NP F (by omega);have e:GA (3,view,(f,i),part,b,c9,tx)=ay 3++(ay view++(ay c9++(pD b++[]))):=by simp[GA]
    have l:ay 3++(ay view++(ay c9++(pD b++[])))=(ay 3++ay view)++(ay c9++(pD b++[])):=by simp
    have r:ay 3++(ay view++(ay c9++(pD b++[])))=(ay 3++ay view++ay c9)++(pD b++[]):=by simp
    have n:=VS (v:=3) (NP (by decide) (by decide)) (ay view++(ay c9++(pD b++[])));have o:aV (ay 3++(ay view++(ay c9++(pD b++[])))) ((ay 3).length,true)=(view,(ay 3++ay view).length,true):=iS (by omega) (by omega);have p:aV (ay 3++(ay view++(ay c9++(pD b++[])))) ((ay 3++ay view).length,true)=(c9,(ay 3++ay view++ay c9).length,true):=by rw[l];exact iS y.1 y.2
    have s:Ba (ay 3++(ay view++(ay c9++(pD b++[])))) ((ay 3++ay view++ay c9).length,true)=(b,(ay 3++ay view++ay c9++pD b).length,true):=by rw[r];exact afF k
    rw[e];unfold TX ap6;rw[n];dsimp only;rw[ag (by decide),ag (by decide),aj (by rfl),o];dsimp only;rw[p];dsimp only;rw[s];rw[<-q];simp[named]
   .rw[ag (by simpa using t),ag (by simpa using u),ag (by simpa using w)]at d;simp only[az,cS]at d;obtain⟨H,I⟩:=d;subst H;obtain⟨t1,t2,t3,t4⟩:=tx;obtain⟨⟨z,K⟩,⟨A,L⟩,⟨B,M⟩,⟨C,N⟩⟩:=kz I;dsimp only at z K A L B M C N;have e:GA (4,view,(f,i),part,b,c9,t1,t2,t3,t4)=ay 4++(ay t1++(ay t2++(ay t3++(ay t4++[])))):=by simp[GA]
    have l:ay 4++(ay t1++(ay t2++(ay t3++(ay t4++[]))))=(ay 4++ay t1)++(ay t2++(ay t3++(ay t4++[]))):=by simp
    have r:ay 4++(ay t1++(ay t2++(ay t3++(ay t4++[]))))=(ay 4++ay t1++ay t2)++(ay t3++(ay t4++[])):=by simp
    have O:ay 4++(ay t1++(ay t2++(ay t3++(ay t4++[]))))=(ay 4++ay t1++ay t2++ay t3)++(ay t4++[]):=by simp
    have n:=VS (v:=4) (NP (by decide) (by decide)) (ay t1++(ay t2++(ay t3++(ay t4++[]))));have o:aV (ay 4++(ay t1++(ay t2++(ay t3++(ay t4++[]))))) ((ay 4).length,true)=(t1,(ay 4++ay t1).length,true):=iS z (by omega);have p:aV (ay 4++(ay t1++(ay t2++(ay t3++(ay t4++[]))))) ((ay 4++ay t1).length,true)=(t2,(ay 4++ay t1++ay t2).length,true):=by rw[l];exact iS A (by omega)
    have s:aV (ay 4++(ay t1++(ay t2++(ay t3++(ay t4++[]))))) ((ay 4++ay t1++ay t2).length,true)=(t3,(ay 4++ay t1++ay t2++ay t3).length,true):=by rw[r];exact iS B (by omega)
    have P:aV (ay 4++(ay t1++(ay t2++(ay t3++(ay t4++[]))))) ((ay 4++ay t1++ay t2++ay t3).length,true)=(t4,(ay 4++ay t1++ay t2++ay t3++ay t4).length,true):=by rw[O];exact iS C (by omega)
    rw[e];unfold TX ap7;rw[n];dsimp only;rw[ag (by decide),ag (by decide),ag (by decide),aj (by rfl),o];dsimp only;rw[p];dsimp only;rw[s];dsimp only;rw[P];rw[<-q];simp[named]
def akR {c:Int×Int}{m:cq}(h:dS c m=true):CP c (GA m)=(m,true):=by unfold CP MB;rw[amK h];dsimp only;rw[aj ⟨rfl,rfl,h⟩]
def dA {a b:List Int}(c:∀x∈a,0<=x/\x<=255)(d:∀x∈b,0<=x/\x<=255):∀x∈a++b,0<=x/\x<=255:=fun x e=>(en.1 e).elim (c x) (d x)
def O8 (s:ByteArray):∀x∈ga s,0<=x/\x<=255:=dA (dw _) (aav s)
def afH (l:List Int):∀x∈ho l,0<=x/\x<=255:=fun x a=>by obtain⟨y,_,h⟩:=List.mem_flatMap.1 a;exact dw y x h
def Hq (q:ct):∀x∈pD q,0<=x/\x<=255:=dA (dw _) (dA (O8 _) (dA (dw _) (afH _)))
def Lj (s:ByteArray):(ga s).length<=s.size+5:=by have:=cm (s.size:Int);unfold ga;rw[aB,Li];omega
def Lk {q:ct}(h:aox q):(pD q).length<=q.2.1.size+5*q.2.2.length+15:=by have a:=cm q.1;have b:=Lj q.2.1;have c:=cm (q.2.2.length:Int);have d:=(SW h.m).2;unfold pD uY;rw[aB,aB,aB];omega
def O9 {c:Int×Int}{m:cq}(h:dS c m=true):(GA m).length<=12000/\(∀x∈GA m,0<=x/\x<=255)/\1<=(GA m).length:=by
 unfold dS at h;simp only[az]at h;obtain⟨l,_,a⟩:=h;have n:=cm m.1;have pos:m.1=1\/m.1=2\/m.1=3\/m.1=4:=by
  by_cases e:m.1=1
  .exact .inl e
  .by_cases f:m.1=2
   .exact .inr (.inl f)
   .by_cases g:m.1=3
    .exact .inr (.inr (.inl g))
    .rw[ag (by simpa using e),ag (by simpa using f),ag (by simpa using g)]at a;simp only[az,cS]at a;exact .inr (.inr (.inr a.1))
 have one:1<=(ay m.1).length:=by unfold ay;rw[aj (by omega)];exact Zf 4 _
 unfold GA;refine⟨?_,dA (dw _) ?_,by rw[aB];omega⟩
 .rw[aB];rcases pos with k|k|k|k
  .rw[aj (by simpa using k)]at a;simp only[fZ,az]at a;have b:=th a.1;have o:=gp a.2.1;have i:=Lj m.2.2.1.1;have d:=Lk b.1;rw[aj k,aB];omega
  .rw[ag (by simp[k]),aj (by simpa using k)]at a;simp only[az]at a;have b:=LV a.1;have d:=Lk b.1;rw[ag (by omega),aj k];omega
  .rw[ag (by simp[k]),ag (by simp[k]),aj (by simpa using k)]at a;simp only[az]at a;have b:=th a.2.1;have i:=cm m.2.1;have j:=cm m.2.2.2.2.2.1;have d:=Lk b.1;rw[ag (by omega),ag (by omega),aj k,aB,aB];omega
  .have i:=cm m.2.2.2.2.2.2.1;have d:=cm m.2.2.2.2.2.2.2.1;have j:=cm m.2.2.2.2.2.2.2.2.1;have p:=cm m.2.2.2.2.2.2.2.2.2;rw[ag (by omega),ag (by omega),ag (by omega),aB,aB,aB];omega
 .split
  .exact dA (O8 _) (Hq _)
  .split
   .exact Hq _
   .split
    .exact dA (dw _) (dA (dw _) (Hq _))
    .exact dA (dw _) (dA (dw _) (dA (dw _) (dw _)))
def Ll (s:bC):List Int:=ay s.1++(ay s.2.1++(pD s.2.2.1++ga s.2.2.2))
def ez {c:Int×Int}{s:bC}(h:cl c s=true):(0<=s.1/\s.1<=60)/\(0<=s.2.1/\s.2.1<=60)/\fg c s.2.2.1=true/\bR s.2.2.2.data.toList=true:=by simp only[cl,fR,az,bu]at h;exact h
def abC {c:Int×Int}{s:bC}(h:cl c s=true):1<=(Ll s).length/\(Ll s).length<=12000:=by
 obtain⟨⟨d,e⟩,_,a,b⟩:=ez h;have a:=th a;have f:=gp b;have g:=cm s.1;have i:=cm s.2.1;have j:=Lk a.1;have k:=Lj s.2.2.2;have one:1<=(ay s.1).length:=by unfold ay;rw[aj (by omega)];exact Zf 4 _
 unfold Ll;rw[aB,aB,aB];omega
def afI (s:bC):∀x∈Ll s,0<=x/\x<=255:=dA (dw _) (dA (dw _) (dA (Hq _) (O8 _)))
def CS (s:bC):List Int:=ay ((Ll s).length:Int)++(Ll s++[10])
def afJ (s:bC):∀x∈CS s,0<=x/\x<=255:=dA (dw _) (dA (afI s) fun x a=>by rw[fA.1 a];omega)
def akS {c:Int×Int}{s:bC}(h:cl c s=true):1<=(CS s).length/\(CS s).length<=12010:=by have a:=abC h;have b:=cm ((Ll s).length:Int);unfold CS;rw[aB,aB,b2];omega
end Go.Am.Tryz
