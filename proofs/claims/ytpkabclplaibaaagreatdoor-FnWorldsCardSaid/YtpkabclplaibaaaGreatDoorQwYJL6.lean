/- No condition. -/
import Derived.Test.YtpkabclplaibaaaGreatDoorQwYJL5
set_option linter.all false
namespace Go.Am.Tryz
open Go.Am
def Lj {n:Int}(a:-10000000000<=n)(b:n<=10000000000):I6 n:=⟨by omega,by omega⟩
def aqq {l:List Int}(a:l.all (fun x=>decide (-10000000000<=x)&&decide (x<=10000000000))=true){v:Int}(h:v∈l):I6 v:=by rw[dh]at a;have:=a v h;rw[aE,bM,bM]at this;exact Lj this.1 this.2
def Lk (c:Int×Int):Prop:=-1<=c.1/\c.1<=8
def anv {c:Int×Int}(h:a8 c=true):Lk c:=by have:=bZ h;exact⟨by omega,by omega⟩
def avF {c:cY}(h:ih c):Dr (U:=Int×Int) (nN F0 c) Lk:=by
 unfold Dr;rw[aah];refine Dr.bind (auK h) fun x f g=>Dr.bind (aD g (n:=12) (by omega) (by omega)) fun y j b=>?_
 have e:=anv f;refine Gd.br (fun _=>?_) fun _=>Gd.br (fun _=>?_) fun _=>Gd.ret ⟨e,b⟩
 .refine Dr.bind (cw b (by decide) (by decide)) fun z a d=>Gd.ret ⟨?_,d⟩
  have a:=a;simp only[cK,agd,or_false]at a;show -1<=z.1.1/\z.1.1<=8;omega
 .exact Dr.bind (cw b (by decide) (by decide)) fun z a d=>Gd.ret ⟨e,d⟩
def aAX {c:cY}(h:ih c){n:Int}(b:n<=9223372036854775807):Dr (U:=Int) (af F0 c n) fun v=>0<=v/\(v<n\/v=0):=by
 by_cases d:0<n
 .refine Gd.mono (aD h d b) fun v a=>⟨⟨a.1.1,.inl a.1.2⟩,a.2⟩
 .unfold Dr;rw[FE];exact Gd.br1 (aS (by omega)) (Gd.ret ⟨⟨Gr _,.inr rfl⟩,h⟩)
def NH {c:cY}(h:ih c){m:Int}(l:0<m)(u:m<=256):Dr (U:=List Int) (il F0 c m) fun v=>v.length<=9/\∀x∈v,I6 x:=by
 unfold Dr;rw[abM];have TH:∀(c:cY) (g:List Int),ih c->g.length<=8->(∀x∈g,I6 x)->Gd (ml F0 (.exit 0) (sR c.1 c.2.1 c.2.2 g)) fun z:DrT (List Int)=>(z.1.1.length<=9/\∀x∈z.1.1,I6 x)/\ih z.2.1:=fun c g o d a=>by
  rw[T4];refine Dr.bind (vk o (n:=12) (by omega) (by omega)) fun y j e=>Gd.br (fun _=>?_) fun _=>Gd.ret ⟨⟨aU d (by omega),a⟩,e⟩
  refine Dr.bind (cw e (by decide) (by decide)) fun z p q=>Gd.ck (au (by omega) (by omega) (by rw[bU];omega)) (Gd.ret ⟨⟨by rw[aN,bU];omega,fun x s=>?_⟩,q⟩)
  rcases eK.1 s with h|h
  .exact a x h
  .rw[fj.1 h];exact aqq (by decide) p
 refine gJ (fun n i (z:cY×List Int)=>rj F0 (ml F0) n (mj m i z.1.1 z.1.2.1 z.1.2.2 z.2)) 8 (fun k z=>ih z.1/\z.2.length<=k/\∀x∈z.2,I6 x) _ (fun n k z A b t=>?_) (fun n z b=>?_) F0.n 0 (c,[]) (a7 _) ⟨h,bh _,fun x a=>by cases a⟩ (by rw[bg];omega)
 .try dsimp only
  have d:=b.2.1;rw[Be];refine Dr.bind (aD b.1 (n:=8) (by omega) (by omega)) fun x a f=>Gd.br (fun _=>?_) fun _=>?_
  .refine Dr.bind (aD f l (by omega)) fun y j e=>Gd.let (KY (by omega) _) ?_
   rw[ah (by omega)];have hs:=V2 z.2 y.1.1;refine t (y.2.1,Tl z.2 y.1.1) ⟨e,by dsimp only;omega,fun x a=>?_⟩;rcases aul.1 a with rfl|h
   .have:=j.1;have:=j.2;exact Lj (by omega) (by omega)
   .exact b.2.2 x h
  .exact TH x.2.1 z.2 f (by omega) b.2.2
 .try dsimp only
  have d:=b.2.1;rw[Be];refine Dr.bind (aD b.1 (n:=8) (by omega) (by omega)) fun x a f=>?_
  refine Gd.br0 (aV (by have:=a.2;show ¬(8:Int)<x.1.1;omega)) ?_;exact TH x.2.1 z.2 f d b.2.2
def QcV (q:b3):Prop:=QcX q/\0<=q.1/\q.1<=60
def as3 {c:cY}(h:ih c){conf:Int×Int}(m:Lk conf){name:ByteArray}(g:name.size<=20200):Dr (U:=b3) (n2 F0 c conf name) QcV:=by
 unfold Dr;rw[aej];have o:=ie name.data.toList;refine Gd.let (gG (aU g (by omega))) (Gd.br (fun _=>Gd.ret ⟨⟨⟨Lj (by dsimp only;omega) (by dsimp only;omega),aU g (by omega),a7 _,fun x a=>by cases a⟩,o⟩,h⟩) fun _=>?_);dsimp only;have C:=m.1;have D:=m.2;have TH:∀(b:List Int),b.length<=8->(∀x∈b,I6 x)->Gd (oG F0 (.exit 0) (vp c.1 c.2.1 c.2.2 0 aj (aH name.data.toList) name [] b)) fun z:DrT b3=>QcV z.1.1/\ih z.2.1:=fun b p a=>by
  rw[Xn];have j:∀f:List Int,f.length<=100->(∀x∈f,I6 x)->QcV (aH name.data.toList,name,f):=fun f u v=>⟨⟨Lj (by dsimp only;omega) (by dsimp only;omega),aU g (by omega),u,v⟩,o⟩
  refine Dr.bind (vk h (n:=2) (by omega) (by omega)) fun y E l=>Gd.br (fun _=>Gd.br (fun q=>?_) fun _=>Gd.ret ⟨j b (by omega) a,l⟩) fun _=>Gd.ret ⟨j b (by omega) a,l⟩
  have q:=s3 q;refine Dr.bind (aD l (n:=(b.length:Int)) (by omega) (by omega)) fun z s A=>?_
  have F:=s.1;have G:=s.2;have e:al (z.1.1+1)=z.1.1+1:=aG (by omega) (by omega);have I:(b.take z.1.1.toNat).length<=8:=by rw[bQ];omega
  have K:((b.take (b.length:Int).toNat).drop (al (z.1.1+1)).toNat).length<=8:=by rw[bA,bQ];omega
  refine Gd.ck (by simp[okT]<;>omega) (Gd.ck (aaU (by rw[e];omega) (by rw[e];omega) (Gr _)) (Gd.ck (au (by omega) (by omega) (by omega)) (Gd.ck (au (by omega) (by omega) (by rw[s4];omega)) (Gd.ret ⟨j _ ?_ fun x t=>?_,A⟩))))
  .rw[aN,s4];omega
  .rw[s4]at t;rcases eK.1 t with h|h
   .exact a x (XQ h)
   .exact a x (XQ (aqD h))
 refine gJ (fun n i (z:List Int)=>tU F0 (oG F0) n (oF i c.1 c.2.1 c.2.2 conf.1 conf.2 0 aj (aH name.data.toList) name [] z)) conf.1.toNat (fun k z=>z.length<=k/\∀x∈z,I6 x) _ (fun n k z L d B=>?_) (fun n z d=>?_) F0.n 0 [] (a7 _) ⟨bh _,fun x a=>by cases a⟩ (by rw[bg];omega)
 .have p:=d.1;rw[EF,aS (show(k:Int)<conf.1 by omega),ae];refine Gd.ck (au (by omega) (by omega) (by rw[bU];omega)) ?_;rw[ah (by omega)];refine B (z++[(k:Int)]) ⟨by rw[aN,bU];omega,fun x a=>?_⟩;rcases eK.1 a with h|h
  .exact d.2 x h
  .rw[fj.1 h];exact Lj (by omega) (by omega)
 .have p:=d.1;rw[EF,aV (show ¬((conf.1.toNat:Nat):Int)<conf.1 by omega),aa];exact TH z (by omega) d.2
def avG {q:Int}(h:I6 q):I6 (al q):=by rw[aG h.1 h.2];exact h
def aDe {c:cY}(h:ih c){conf:Int×Int}(f:Lk conf):Dr (U:=b3) (LM F0 c conf) fun q=>QcX q:=by
 unfold Dr;rw[akH];refine Dr.bind (wN h) fun x g j=>Dr.bind (as3 j f (by have:=g.1;omega)) fun q a k=>Dr.bind (aD k (n:=12) (by omega) (by omega)) fun y l b=>?_
 refine Gd.br (fun _=>Gd.ret ⟨⟨avG (Lj (by have:=a.2.1;omega) (by have:=a.2.2;omega)),a.1.s,a.1.w,a.1.i⟩,b⟩) fun _=>Gd.br (fun _=>?_) fun _=>Gd.br (fun _=>?_) fun _=>Gd.ret ⟨a.1,b⟩
 .exact Dr.bind (NH b (m:=7) (by omega) (by omega)) fun z d e=>Gd.ret ⟨⟨a.1.v,a.1.s,aU d.1 (by omega),d.2⟩,e⟩
 .exact Dr.bind (amT b) fun z d e=>Gd.ret ⟨⟨a.1.v,aU d (by omega),a.1.w,a.1.i⟩,e⟩
def ao1 {c:Int×Int}{q:b3}(a:QcX q){view:Int}(d:I6 view){l:List dK}(g:l.length<=100):hW F0 c q view l=some ((gp c q view l).1,(gp c q view l).2,()):=by
 have j:=a.s;have hs:(Lh q view l).size<=1048576:=by have k:=W5 (up:=q.2.1.data.toList) d l;unfold Lh;rw[bn];have:q.2.1.data.toList.length=q.2.1.size:=rfl;omega
 have e:e2 F0 q.2.1 view l=some (Lh q view l,()):=Ra (up:=q.2.1.data.toList) (by show q.2.1.size<=_;omega) d (by omega);rw[OP,e,an,q3 a.l.2,an,Fk (b:=(Lh q view l,q)) hs a.l,an,gG hs,an];unfold gp;dsimp only;rw[ajn];cases gH c (Lh q view l,q) with
 |false=>rw[ag (fun h=>by cases h.1)];rfl
 |true =>
  by_cases h:aH (Lh q view l).data.toList=view
  .rw[ak ⟨rfl,h⟩,aS h];rfl
  .rw[ag (fun f=>h f.2),aV h];rfl
def aDf:QcX cd:=⟨Lj (by decide) (by decide),a7 _,a7 _,fun x a=>by cases a⟩
def ax6 (b:cN):Prop:=b.1.size<=1048576/\QcX b.2
def ax7 {c:Int×Int}{q:b3}(a:QcX q){view:Int}{l:List dK}:ax6 (gp c q view l).1:=by
 refine⟨aa8.1,?_⟩;unfold gp;split
 .exact a
 .exact aDf
def avH {c:cY}(h:ih c){conf:Int×Int}(g:Lk conf):Dr (U:=cN) (lC F0 c conf) ax6:=by
 unfold Dr;rw[Xv];refine Dr.bind (wN h) fun x d a=>Dr.bind (as3 a g (by have:=d.1;omega)) fun q e o=>?_
 have TH:∀(c:cY) (m:List dK),ih c->m.length<=3->Gd (j0 F0 (.exit 0) (ou c.1 c.2.1 c.2.2 conf.1 conf.2 aj 0 aj q.1.1.1 q.1.1.2.1 m [] q.1.1.2.2)) fun z:DrT cN=>ax6 z.1.1/\ih z.2.1:=fun c m g j=>by
  rw[QH];refine Dr.bind (aD g (n:=4) (by omega) (by omega)) fun y f l=>?_
  have p:Int.tdiv y.1.1 3=y.1.1/3:=ajs f.1;have t:=f.1;have u:=f.2;have v:=e.2.1;have A:=e.2.2;rw[p,aG (n:=q.1.1.1+1) (by omega) (by omega),aG (n:=y.1.1/3) (by omega) (by omega),aG (n:=q.1.1.1+1+y.1.1/3) (by omega) (by omega)];exact Gd.let (ao1 (c:=(conf.1,conf.2)) (q:=q.1.1) e.1 (Lj (by omega) (by omega)) (by omega)) (Gd.ret ⟨ax7 e.1,l⟩)
 refine gJ (fun n i (z:cY×List dK)=>mC F0 (j0 F0) n (jZ i z.1.1 z.1.2.1 z.1.2.2 conf.1 conf.2 aj 0 aj q.1.1.1 q.1.1.2.1 z.2 [] q.1.1.2.2)) 3 (fun k z=>ih z.1/\z.2.length<=k) _ (fun n k z B b s=>?_) (fun n z b=>?_) F0.n 0 (q.2.1,[]) (a7 _) ⟨o,bh _⟩ (by rw[bg];omega)
 .try dsimp only
  have j:=b.2;rw[wx];refine Dr.bind (aD b.1 (n:=3) (by omega) (by omega)) fun x d a=>Gd.br (fun _=>?_) fun _=>?_
  .refine Dr.bind (CP a) fun y f l=>Gd.ck (au (by omega) (by omega) (by rw[bU];omega)) ?_
   rw[ah (by omega)];exact s (y.2.1,z.2++[y.1.1]) ⟨l,by rw[aN,bU];omega⟩
  .exact TH x.2.1 z.2 a (by omega)
 .try dsimp only
  have j:=b.2;rw[wx];refine Dr.bind (aD b.1 (n:=3) (by omega) (by omega)) fun x d a=>?_
  refine Gd.br0 (aV (by have:=d.2;show ¬(3:Int)<x.1.1;omega)) ?_;exact TH x.2.1 z.2 a j
def aEO {a:Int}(b:a<=8):0<tE a 4/\tE a 4<=8:=by unfold tE;split<;>omega
def aba {c:cY}(h:ih c){conf:Int×Int}(q:Lk conf):Dr (U:=b3) (gx F0 c conf) QcX:=by
 unfold Dr;rw[Ub];refine Dr.bind (wN h) fun s t u=>?_
 have A:=t.1;have j:=ie s.1.1.data.toList;have loop:∀(v:Int) (b:ByteArray) (c:cY),I6 v->b.size<=20000->ih c->Gd (c8 F0 (dc F0) F0.n (cE 0 c.1 c.2.1 c.2.2 conf.1 conf.2 0 aj v b [] [])) fun z:DrT b3=>QcX z.1.1/\ih z.2.1:=fun v b c j o B=>by
  have l:=aEO q.2;refine gJ (fun n i (z:cY×List Int)=>c8 F0 (dc F0) n (cE i z.1.1 z.1.2.1 z.1.2.2 conf.1 conf.2 0 aj v b [] z.2)) 8 (fun k z=>ih z.1/\z.2.length<=k/\∀x∈z.2,I6 x) _ (fun n k z F a C=>?_) (fun n z a=>?_) F0.n 0 (c,[]) (a7 _) ⟨B,bh _,fun x d=>by cases d⟩ (by rw[bg];omega)
  .try dsimp only
   have D:=a.2.1;rw[s8];refine Dr.bind (aD a.1 (n:=7) (by omega) (by omega)) fun x d e=>Gd.br (fun _=>?_) fun _=>?_
   .refine ax2 (Dr.bind (aD e (n:=tE conf.1 4) l.1 (by have:=l.2;omega)) fun y m f=>Gd.let (KY (by omega) _) ?_);rw[ah (by omega)];have hs:=V2 z.2 y.1.1;refine C (y.2.1,Tl z.2 y.1.1) ⟨f,by dsimp only;omega,fun x d=>?_⟩;rcases aul.1 d with rfl|h
    .have:=m.1;have:=m.2;have:=l.2;exact Lj (by omega) (by omega)
    .exact a.2.2 x h
   .rw[we];exact Gd.ret ⟨⟨j,aU o (by omega),by show z.2.length<=100;omega,a.2.2⟩,e⟩
  .try dsimp only
   have D:=a.2.1;rw[s8];refine Dr.bind (aD a.1 (n:=7) (by omega) (by omega)) fun x d e=>?_
   refine Gd.br0 (aV (by have:=d.2;have:=d.1;rw[aG (by omega) (by omega)];show ¬(8:Int)<1+x.1.1;omega)) ?_;rw[we];exact Gd.ret ⟨⟨j,aU o (by omega),by show z.2.length<=100;omega,a.2.2⟩,e⟩
 refine Gd.let (gG (aU A (by omega))) (Dr.bind (vk u (n:=4) (by omega) (by omega)) fun y m f=>?_);have aHn:Gd ((af F0 y.2.1 4).bind fun g=>c8 F0 (dc F0) F0.n (cE 0 g.2.1.1 g.2.1.2.1 g.2.1.2.2 conf.1 conf.2 0 aj (al (1+g.1.1)) aj [] [])) fun z:DrT b3=>QcX z.1.1/\ih z.2.1 :=
  Dr.bind (aD f (n:=4) (by omega) (by omega)) fun z p E=>loop _ _ _ (avG (by have:=p.1;have:=p.2;exact Lj (by omega) (by omega))) (a7 _) E
 exact Gd.br (fun _=>aHn) fun _=>Gd.br (fun _=>aHn) fun _=>loop _ _ _ (Lj (by dsimp only;omega) (by dsimp only;omega)) (by omega) f
def aqr {c:cY}(h:ih c){conf:Int×Int}(f:Lk conf):Dr (U:=b3) (x5 F0 c conf) QcX:=by
 unfold Dr;rw[ahy];refine Dr.bind (aba h f) fun q a g=>Dr.bind (aD g (n:=10) (by omega) (by omega)) fun y j e=>?_
 refine Gd.br (fun _=>?_) fun _=>Gd.br (fun _=>?_) fun _=>Gd.br (fun _=>?_) fun _=>Gd.ret ⟨a,e⟩
 .exact Dr.bind (cw e (by decide) (by decide)) fun z b d=>Gd.ret ⟨⟨aqq (by decide) b,a.s,a.w,a.i⟩,d⟩
 .exact Dr.bind (NH e (m:=7) (by omega) (by omega)) fun z b d=>Gd.ret ⟨⟨a.v,a.s,aU b.1 (by omega),b.2⟩,d⟩
 .exact Dr.bind (amT e) fun z b d=>Gd.ret ⟨⟨a.v,aU b (by omega),a.w,a.i⟩,d⟩
def QcX.s2 {q:b3}(h:QcX q):q.2.1.size<=1048576/\q.2.2.length<=1000:=⟨aU h.s (by omega),aU h.w (by omega)⟩
def aDg {c:Int×Int}{l:List b3}(h:aoR l)(p:b3):aoR (cR c l p).1:=by
 unfold cR;split
 .rename_i a;exact Ev a.2
 .exact h
def as4 {c:cY}(h:ih c){conf:Int×Int}(m:Lk conf):Dr (U:=List b3) (o2 F0 c conf) fun l=>l.length<=1001/\∀q∈l,wP q:=by
 unfold Dr;rw[UW];have TH:∀(c:cY) (j:List b3),ih c->aoR j->Gd (iV F0 (.exit 0) (mG c.1 c.2.1 c.2.2 conf.1 conf.2 j)) fun z:DrT (List b3)=>(z.1.1.length<=1001/\∀q∈z.1.1,wP q)/\ih z.2.1:=fun c j p f=>by
  have s:=f.1;rw[Ps];refine Dr.bind (vk p (n:=8) (by omega) (by omega)) fun y o b=>Gd.br (fun _=>?_) fun _=>Gd.ret ⟨⟨aU s (by omega),fun q g=>f.l g⟩,b⟩
  refine Dr.bind (aqr b m) fun z t u=>Gd.ck (au (by omega) (by omega) (by rw[bU];omega)) (Gd.ret ⟨⟨by rw[aN,bU];omega,fun q g=>?_⟩,u⟩)
  rcases eK.1 g with h|h
  .exact f.l h
  .rw[fj.1 h];exact t.l
 refine gJ (fun n i (z:cY×List b3)=>kP F0 (iV F0) n (iU i z.1.1 z.1.2.1 z.1.2.2 conf.1 conf.2 z.2)) 5 (fun k z=>ih z.1/\aoR z.2) _ (fun n k z A a v=>?_) (fun n z a=>?_) F0.n 0 (c,[]) (a7 _) ⟨h,a7 _,fun x d=>by cases d⟩ (by rw[bg];omega)
 .try dsimp only
  rw[tn];refine Dr.bind (aD a.1 (n:=5) (by omega) (by omega)) fun x d e=>Gd.br (fun _=>?_) fun _=>TH x.2.1 z.2 e a.2
  refine Dr.bind (aba e m) fun y o b=>Gd.let (A2 a.2 o.s2 _) ?_
  rw[ah (by omega)];exact v (y.2.1,_) ⟨b,aDg a.2 _⟩
 .try dsimp only
  rw[tn];refine Dr.bind (aD a.1 (n:=5) (by omega) (by omega)) fun x d e=>?_
  refine Gd.br0 (aV (by have:=d.2;show ¬(5:Int)<x.1.1;omega)) ?_;exact TH x.2.1 z.2 e a.2
def aHo {c:Int×Int}{s:bm}(h:Wy s)(q:b3):Wy (see c s q):=by
 by_cases a:bP c s=true/\eI c q=true
 .exact avE (aCJ a.1 q)
 .unfold see;rw[ag a];exact h
def aGi {c:Int×Int}{s:bm}(h:Wy s)(b:cN):Wy (axu c s b).1:=by
 unfold axu;split
 .have:=ie b.1.data.toList;exact⟨Lj (by dsimp only;omega) (by dsimp only;omega),h.k,h.q,h.d⟩
 .exact h
def aAY:Wy hK:=⟨Lj (by decide) (by decide),Lj (by decide) (by decide),aDf,a7 _⟩
def anw {c:cY}(h:ih c){conf:Int×Int}(l:Lk conf):Dr (U:=bm) (j1 F0 c conf) Wy:=by
 unfold Dr;rw[US,Sv,an];refine gJ (fun n i (z:cY×bm)=>gY F0 (ov F0) n (fl i z.1.1 z.1.2.1 z.1.2.2 conf.1 conf.2 0 0 0 aj aj z.2.1 z.2.2.1 z.2.2.2.1.1 z.2.2.2.1.2.1 z.2.2.2.2 [] z.2.2.2.1.2.2)) 5 (fun k z=>ih z.1/\Wy z.2) _ (fun n k z o a f=>?_) (fun n z a=>?_) F0.n 0 (c,hK) (a7 _) ⟨h,aAY⟩ (by rw[bg];omega)
 .try dsimp only
  rw[tl];refine Dr.bind (aD a.1 (n:=5) (by omega) (by omega)) fun x g d=>Gd.br (fun _=>?_) fun _=>?_
  .refine Dr.bind (avH d l) fun b e m=>Gd.let (ajm (s:=z.2) a.2.l e.2.l (conf.1,conf.2)) (Dr.bind (vk m (n:=3) (by omega) (by omega)) fun y p j=>?_)
   have hs:=aHo (c:=(conf.1,conf.2)) a.2 b.1.1.2;rw[ah (by omega)];refine Gd.br (fun _=>Gd.let (auZ hs.l e.1 e.2.l _) ?_) fun _=>?_
   .exact f (y.2.1,(axu (conf.1,conf.2) (see (conf.1,conf.2) z.2 b.1.1.2) b.1.1).1) ⟨j,aGi hs _⟩
   .exact f (y.2.1,see (conf.1,conf.2) z.2 b.1.1.2) ⟨j,hs⟩
  .rw[wy];exact Gd.ret ⟨a.2,d⟩
 .try dsimp only
  rw[tl];refine Dr.bind (aD a.1 (n:=5) (by omega) (by omega)) fun x g d=>?_
  refine Gd.br0 (aV (by have:=g.2;show ¬(5:Int)<x.1.1;omega)) ?_;rw[wy];exact Gd.ret ⟨a.2,d⟩
def aAZ {c:cY}(h:ih c){conf:Int×Int}(e:Lk conf):Dr (U:=bm) (Ih F0 c conf) Wy:=by
 unfold Dr;rw[ain];refine Dr.bind (anw h e) fun s hs cs=>Dr.bind (aD cs (n:=10) (by omega) (by omega)) fun y f d=>?_
 refine Gd.br (fun _=>?_) fun _=>Gd.br (fun _=>?_) fun _=>Gd.br (fun _=>?_) fun _=>Gd.br (fun _=>?_) fun _=>Gd.ret ⟨hs,d⟩
 .exact Dr.bind (cw d (by decide) (by decide)) fun z a b=>Gd.ret ⟨⟨aqq (by decide) a,hs.k,hs.q,hs.d⟩,b⟩
 .exact Dr.bind (cw d (by decide) (by decide)) fun z a b=>Gd.ret ⟨⟨hs.v,aqq (by decide) a,hs.q,hs.d⟩,b⟩
 .exact Dr.bind (amT d) fun z a b=>Gd.ret ⟨⟨hs.v,hs.k,hs.q,aU a (by omega)⟩,b⟩
 .exact Dr.bind (aDe d e) fun z a b=>Gd.ret ⟨⟨hs.v,hs.k,a,hs.d⟩,b⟩
def ax8 {c:cY}(h:ih c){conf:Int×Int}(a:Lk conf):Dr (U:=ch) (o6 F0 c conf) eH:=by
 unfold Dr;rw[UZ];refine Dr.bind (aD h (n:=4) (by omega) (by omega)) fun x t d=>?_
 refine Gd.br (fun _=>?_) fun _=>Gd.br (fun _=>?_) fun _=>Gd.br (fun _=>?_) fun _=>?_
 .exact Dr.bind (avH d a) fun b g k=>Gd.ret ⟨aa0 g.1 g.2.l,k⟩
 .refine Dr.bind (aba d a) fun q e f=>Gd.br (fun _=>?_) fun _=>Gd.ret ⟨Xc e.l,f⟩
  refine af1 (up:=aj) (a7 _) (Lj (by decide) (by decide)) (a7 _) fun b g=>Gd.ret ⟨Xc (p:=(1,b,q.1.1.2.2)) ⟨by show b.size<=_;omega,e.l.2⟩,f⟩
 .refine Dr.bind (aD d (n:=6) (by omega) (by omega)) fun y l j=>Dr.bind (wN j) fun u m o=>Dr.bind (as3 o a (by have:=m.1;omega)) fun q e f=>Dr.bind (aAX f (by have:=a.2;omega)) fun z v s=>Gd.ret ⟨Xb e.1.l _,s⟩
 .exact Dr.bind (CP d) fun y l j=>Gd.ret ⟨⟨a7 _,eg,eg,eg⟩,j⟩
def af4 {c:cY}(h:ih c){conf:Int×Int}(f:Lk conf):Dr (U:=ch) (rX F0 c conf) eH:=by
 unfold Dr;rw[air];refine Dr.bind (ax8 h f) fun m b g=>Dr.bind (aD g (n:=12) (by omega) (by omega)) fun y j d=>?_
 refine Gd.br (fun _=>?_) fun _=>Gd.br (fun _=>?_) fun _=>Gd.br (fun _=>?_) fun _=>Gd.br (fun _=>?_) fun _=>Gd.br (fun _=>?_) fun _=>Gd.ret ⟨b,d⟩
 .exact Dr.bind (aD d (n:=7) (by omega) (by omega)) fun z e a=>Gd.ret ⟨b,a⟩
 .exact Dr.bind (cw d (by decide) (by decide)) fun z e a=>Gd.ret ⟨b,a⟩
 .exact Dr.bind (cw d (by decide) (by decide)) fun z e a=>Gd.ret ⟨b,a⟩
 .exact Dr.bind (aqr d f) fun z e a=>Gd.ret ⟨⟨b.1,b.2.1,e.l,b.2.2.2⟩,a⟩
 .exact Dr.bind (amQ d) fun z e a=>Gd.ret ⟨b,a⟩
def avI {c:cY}(h:ih c){conf:Int×Int}(e:Lk conf):Dr (U:=List fm) (kg F0 c conf) fun l=>l.length<=4/\∀p∈l,eH p.2:=by
 unfold Dr;rw[VG];refine gJ (fun n i (z:cY×List fm)=>kW F0 (oA F0) n (iX i z.1.1 z.1.2.1 z.1.2.2 conf.1 conf.2 z.2)) 4 (fun k z=>ih z.1/\z.2.length<=k/\∀p∈z.2,eH p.2) _ (fun n k z s a f=>?_) (fun n z a=>?_) F0.n 0 (c,[]) (a7 _) ⟨h,bh _,fun x b=>by cases b⟩ (by rw[bg];omega)
 .try dsimp only
  have t:=a.2.1;rw[tA];refine Dr.bind (aD a.1 (n:=4) (by omega) (by omega)) fun x b d=>Gd.br (fun _=>?_) fun _=>?_
  .refine Dr.bind (aD d (n:=6) (by omega) (by omega)) fun y u g=>Dr.bind (af4 g (conf:=(conf.1,conf.2)) e) fun m j o=>Gd.ck (au (by omega) (by omega) (by rw[bU];omega)) ?_
   rw[ah (by omega)];refine f (m.2.1,z.2++[(y.1.1,m.1.1)]) ⟨o,by rw[aN,bU];omega,fun p q=>?_⟩;rcases eK.1 q with h|h
   .exact a.2.2 p h
   .rw[fj.1 h];exact j
  .rw[wI];exact Gd.ret ⟨⟨by show z.2.length<=4;omega,a.2.2⟩,d⟩
 .try dsimp only
  rw[tA];refine Dr.bind (aD a.1 (n:=4) (by omega) (by omega)) fun x b d=>?_
  refine Gd.br0 (aV (by have:=b.2;show ¬(4:Int)<x.1.1;omega)) ?_;rw[wI];exact Gd.ret ⟨a.2,d⟩
def aEP (n:Int):0<=IntKind.wrap .u8 n/\IntKind.wrap .u8 n<=255:=by rw[IntKind.wrap_u8];omega
def avJ {c:cY}(h:ih c):Dr (U:=List Int) (uW F0 c) fun l=>l.length<=100/\∀x∈l,0<=x/\x<=255:=by
 unfold Dr;rw[aaf];have TH:∀(c:cY) (f:List Int),ih c->f.length<=50->(∀x∈f,0<=x/\x<=255)->Gd (kR F0 (.exit 0) (pV c.1 c.2.1 c.2.2 f)) fun z:DrT (List Int)=>(z.1.1.length<=100/\∀x∈z.1.1,0<=x/\x<=255)/\ih z.2.1:=fun c f j g a=>by
  rw[Tc];refine Dr.bind (vk j (n:=3) (by omega) (by omega)) fun y m d=>Gd.br (fun _=>?_) fun _=>Gd.ret ⟨⟨aU g (by omega),a⟩,d⟩
  refine Dr.bind (cw d (by decide) (by decide)) fun z t o=>Dr.bind (aD o (n:=3) (by omega) (by omega)) fun w u p=>Gd.ck (au (by omega) (by omega) (by simp;omega)) (Gd.ret ⟨⟨by rw[aN];simp;omega,fun x q=>?_⟩,p⟩)
  rcases eK.1 q with h|h
  .exact a x h
  .simp only[cK,agd,or_false]at h;rcases h with rfl|rfl<;>exact aEP _
 refine gJ (fun n i (z:cY×List Int)=>o5 F0 (kR F0) n (kQ i z.1.1 z.1.2.1 z.1.2.2 z.2)) 4 (fun k z=>ih z.1/\z.2.length<=10*k/\∀x∈z.2,0<=x/\x<=255) _ (fun n k z v b s=>?_) (fun n z b=>?_) F0.n 0 (c,[]) (a7 _) ⟨h,a7 _,fun x a=>by cases a⟩ (by rw[bg];omega)
 .try dsimp only
  have g:=b.2.1;rw[zb];refine Dr.bind (aD b.1 (n:=4) (by omega) (by omega)) fun x a e=>Gd.br (fun _=>?_) fun _=>TH x.2.1 z.2 e (by omega) b.2.2
  refine Dr.bind (cw e (by decide) (by decide)) fun y m d=>Gd.let (gW _) ?_
  have A:=bV y.1.1;refine Gd.ck (au (by omega) (by omega) (by dsimp only;omega)) ?_;rw[ah (by omega)];refine s (y.2.1,z.2++aw y.1.1) ⟨d,by rw[aN];omega,fun x a=>?_⟩;rcases eK.1 a with h|h
  .exact b.2.2 x h
  .exact er _ x h
 .try dsimp only
  have g:=b.2.1;rw[zb];refine Dr.bind (aD b.1 (n:=4) (by omega) (by omega)) fun x a e=>?_
  refine Gd.br0 (aV (by have:=a.2;show ¬(4:Int)<x.1.1;omega)) ?_;exact TH x.2.1 z.2 e (by omega) b.2.2
def aEQ {c:cY}(h:ih c):Dr (U:=A1) (Ii F0 c) fun d=>cC d.1:=by
 unfold Dr;rw[aip];refine Dr.bind (avJ h) fun x a k=>?_
 have l:=a.1;refine Gd.ck (au (by omega) (by omega) (by omega)) ?_;rw[s4];have g:cC x.1.1:=⟨by omega,a.2⟩;have el:al ((x.1.1.length:Int)+1)=(x.1.1.length:Int)+1:=aG (by omega) (by omega);rw[el];obtain⟨⟨b,u⟩,o,p⟩:=x;dsimp only at l a g k ⊢;refine Gd.bind (aD k (n:=(b.length:Int)+1) (by omega) (by omega)) fun y m=>?_
 refine Gd.bind (aD m.2 (n:=12) (by omega) (by omega)) fun z j=>?_
 refine Gd.br (fun _=>?_) fun _=>Gd.br (fun _=>?_) fun _=>Gd.ret ⟨g,j.2⟩
 .exact Gd.bind (cw j.2 (by decide) (by decide)) fun v f=>Gd.ret ⟨g,f.2⟩
 .refine Gd.bind (aD j.2 (n:=2) (by omega) (by omega)) fun v f=>?_
  have q:=f.1.1;have s:=f.1.2;have e:al (100000+v.1.1)=((100000+v.1.1.toNat:Nat):Int):=by rw[aG (by omega) (by omega)];omega
  rw[e];refine Gd.ck (awJ (by omega) (by omega) (by omega)) (Gd.ret ⟨⟨?_,fun x a=>?_⟩,f.2⟩)
  .show(List.replicate _ (0:Int)).length<=_;rw[List.length_replicate];omega
  .have:=List.eq_of_mem_replicate a;omega
def ahg (l:List dK)(x:dK):(po l x).1.length<=l.length+1:=by
 unfold po;split
 .exact ajF (Ws x l)
 .exact Nat.le_succ _
def aA0 {c:cY}(h:ih c):Dr (U:=List dK) (rW F0 c) fun l=>l.length<=9:=by
 unfold Dr;rw[Xw];refine gJ (fun n i (z:cY×List dK)=>mF F0 (pU F0) n (j2 i z.1.1 z.1.2.1 z.1.2.2 z.2)) 9 (fun k z=>ih z.1/\z.2.length<=k) _ (fun n k z g a e=>?_) (fun n z a=>?_) F0.n 0 (c,[]) (a7 _) ⟨h,bh _⟩ (by rw[bg];omega)
 .try dsimp only
  have j:=a.2;rw[wz];refine Dr.bind (aD a.1 (n:=9) (by omega) (by omega)) fun x d b=>Gd.br (fun _=>?_) fun _=>?_
  .refine Dr.bind (CP b) fun y m f=>Gd.let (Wt (by omega) _) ?_
   rw[ah (by omega)];have o:=ahg z.2 y.1.1;exact e (y.2.1,(po z.2 y.1.1).1) ⟨f,by dsimp only;omega⟩
  .rw[za];exact Gd.ret ⟨by show z.2.length<=9;omega,b⟩
 .try dsimp only
  rw[wz];refine Dr.bind (aD a.1 (n:=9) (by omega) (by omega)) fun x d b=>?_
  refine Gd.br0 (aV (by have:=d.2;show ¬(9:Int)<x.1.1;omega)) ?_;rw[za];exact Gd.ret ⟨a.2,b⟩
def aDh {c:cY}(h:ih c):Dr (U:=List dK) (MC F0 c) fun l=>l.length<=1000:=by
 unfold Dr;rw[alL];refine Dr.bind (aA0 h) fun p d e=>Dr.bind (aD e (n:=8) (by omega) (by omega)) fun y s b=>?_
 refine Gd.br (fun _=>?_) fun _=>Gd.br (fun _=>?_) fun _=>Gd.ret ⟨aU d (by omega),b⟩
 .exact Dr.bind (amQ b) fun z t f=>Gd.ck (au (by omega) (by omega) (by rw[bU];omega)) (Gd.ret ⟨by show(p.1.1++[z.1.1]).length<=1000;rw[aN,bU];omega,f⟩)
 .refine gJ (fun n i (z:List dK)=>DK F0 (uV F0) n (uU i y.2.1.1 y.2.1.2.1 y.2.1.2.2 z)) 4 (fun k z=>z.length<=9+4*k) _ (fun n k z u g j=>?_) (fun n z g=>?_) F0.n 0 p.1.1 (a7 _) (by omega) (by rw[bg];omega)
  .rw[Kh,aS (show(k:Int)<4 by omega),ae];refine gJ (fun m a (x:List dK)=>DJ F0 (F3 F0 (uV F0) n) m (uT (k:Int) a y.2.1.1 y.2.1.2.1 y.2.1.2.2 x)) 4 (fun a x=>x.length<=9+4*k+a) _ (fun m a x v o q=>?_) (fun m x o=>?_) F0.n 0 z (a7 _) (by omega) (by rw[bg];omega)
   .rw[Kg,aS (show(a:Int)<4 by omega),ae];refine Gd.let (Wt (by omega) _) ?_;rw[ah (by omega)];have d:=ahg x ((k:Int),0,0,(a:Int));exact q _ (by dsimp only;omega)
   .rw[Kg,aV (show ¬((4:Nat):Int)<4 by omega),aa,acv,ah (by omega)];exact j x (by omega)
  .rw[Kh,aV (show ¬((4:Nat):Int)<4 by omega),aa,acw];exact Gd.ret ⟨by show z.length<=1000;omega,b⟩
def aER {c:cY}(h:ih c):Dr (U:=List cB) (rZ F0 c) fun l=>l.length<=8/\∀x∈l,x.2.1.size<=100000:=by
 unfold Dr;rw[Xy];refine gJ (fun n i (z:cY×List cB)=>mJ F0 (pW F0) n (j3 i z.1.1 z.1.2.1 z.1.2.2 z.2)) 8 (fun k z=>ih z.1/\z.2.length<=k/\∀x∈z.2,x.2.1.size<=100000) _ (fun n k z o a g=>?_) (fun n z a=>?_) F0.n 0 (c,[]) (a7 _) ⟨h,bh _,fun x b=>by cases b⟩ (by rw[bg];omega)
 .try dsimp only
  have p:=a.2.1;rw[wA];refine Dr.bind (aD a.1 (n:=8) (by omega) (by omega)) fun x b d=>Gd.br (fun _=>?_) fun _=>?_
  .refine Dr.bind (wN d) fun e f j=>Gd.let (gG (aU f.1 (by omega))) (Dr.bind (aD j (n:=4) (by omega) (by omega)) fun y q m=>Gd.ck (au (by omega) (by omega) (by rw[bU];omega)) ?_)
   rw[ah (by omega)];refine g (y.2.1,z.2++[(aH e.1.1.data.toList,e.1.1,y.1.1)]) ⟨m,by rw[aN,bU];omega,fun x b=>?_⟩;rcases eK.1 b with h|h
   .exact a.2.2 x h
   .rw[fj.1 h];exact aU f.1 (by omega)
  .rw[zs];exact Gd.ret ⟨⟨by show z.2.length<=8;omega,a.2.2⟩,d⟩
 .try dsimp only
  rw[wA];refine Dr.bind (aD a.1 (n:=8) (by omega) (by omega)) fun x b d=>?_
  refine Gd.br0 (aV (by have:=b.2;show ¬(8:Int)<x.1.1;omega)) ?_;rw[zs];exact Gd.ret ⟨a.2,d⟩
def avK (c:Int×Int)(m:ch):cC (Wp c m):=by
 unfold Wp;split
 .rename_i h;have:=Re h;exact⟨aU this.1 (by omega),this.2.1⟩
 .exact⟨a7 _,fun x a=>by cases a⟩
def avL {c:cY}(h:ih c):Dr (U:=ai) (jY F0 c) aW:=by
 unfold Dr;rw[UP];refine Dr.bind (aC7 h) fun w e f=>Dr.bind (aD f (n:=45) (by omega) (by omega)) fun m b g=>?_
 have m0:=b.1;have m1:=b.2;refine gJ (fun n i (z:cY×ai)=>kK F0 (oq F0) n (iT m.1.1 i z.1.1 z.1.2.1 z.1.2.2 0 0 z.2.1.1 z.2.1.2 [] [] [] [] z.2.2.1 z.2.2.2.1 z.2.2.2.2.1 z.2.2.2.2.2)) m.1.1.toNat (fun k z=>ih z.1/\aW z.2) _ (fun n k z p a j=>?_) (fun n z a=>?_) F0.n 0 (m.2.1,w.1.1) (a7 _) ⟨g,e.g⟩ (by rw[bg];omega)
 .try dsimp only
  rw[tk,aS (show(k:Int)<m.1.1 by omega),ae];refine Dr.bind (aEN a.1 a.2) fun d l o=>Gd.let (avy a.2 l.1) ?_
  rw[ah (by omega)];exact j (d.2.1,avx z.2 d.1.1) ⟨o,a.2.aIa _⟩
 .try dsimp only
  rw[tk,aV (show ¬((m.1.1.toNat:Nat):Int)<m.1.1 by omega),aa,Po];exact Gd.ret ⟨a.2,a.1⟩
abbrev DrR:=((Int×Int)×aB×Unit)×(cY×Unit)
def aES {c:cY}(h:ih c):Gd (o1 F0 c) fun z:DrR=>(Lk z.1.1/\aAW z.1.2.1/\z.1.2.1.2.2.2.2.2.2.2.length<=30)/\ih z.2.1:=by
 rw[UQ];refine Dr.bind (avL h) fun w b e=>?_
 have g:=b.le7;refine Dr.bind (aD e (n:=(w.1.1.2.2.1.length:Int)) (by omega) (by omega)) fun y a f=>Gd.ck (pn a.1 a.2) ?_
 have d:=b.rep a.1 a.2;refine Gd.ret ⟨⟨anv b.c,?_,?_⟩,f⟩
 .show aAW (aL w.1.1.2.2.1 y.1.1 _);rw[IV a.1 a.2];exact d.1.x
 .show(aL w.1.1.2.2.1 y.1.1 _).2.2.2.2.2.2.2.length<=30;rw[IV a.1 a.2];exact d.1.f.n
def aGj {c:cY}(h:ih c):Gd (Ij F0 c) fun z:DrR=>aAW z.1.2.1/\ih z.2.1:=by
 rw[ais];refine Gd.bind (aES h) fun r k=>?_
 obtain⟨⟨j,⟨⟨b,g⟩,a⟩,t⟩,l⟩:=k;refine Dr.bind (aD l (n:=16) (by omega) (by omega)) fun y u f=>?_
 refine Gd.br (fun _=>?_) fun _=>Gd.br (fun _=>?_) fun _=>Gd.br (fun _=>?_) fun _=>Gd.br (fun _=>?_) fun _=>Gd.br (fun _=>?_) fun _=>Gd.br (fun _=>?_) fun _=>Gd.br (fun _=>?_) fun _=>Gd.br (fun _=>?_) fun _=>Gd.ret ⟨⟨⟨b,g⟩,a⟩,f⟩
 .exact Dr.bind (cw f (by decide) (by decide)) fun z d e=>Gd.ret ⟨⟨⟨⟨b.s,b.p,b.t,b.tq,b.h,b.hm⟩,g⟩,⟨aqq (by decide) d,a.i2,a.i3,a.i4,a.i5,a.d,a.p,a.t,a.h⟩⟩,e⟩
 .exact Dr.bind (cw f (by decide) (by decide)) fun z d e=>Gd.ret ⟨⟨⟨⟨b.s,b.p,b.t,b.tq,b.h,b.hm⟩,g⟩,⟨a.i1,aqq (by decide) d,a.i3,a.i4,a.i5,a.d,a.p,a.t,a.h⟩⟩,e⟩
 .exact Dr.bind (cw f (by decide) (by decide)) fun z d e=>Gd.ret ⟨⟨⟨⟨b.s,b.p,b.t,b.tq,b.h,b.hm⟩,g⟩,⟨a.i1,a.i2,a.i3,a.i4,a.i5,a.d,a.p,a.t,a.h⟩⟩,e⟩
 .exact Dr.bind (aAZ f j) fun z d e=>Gd.ret ⟨⟨⟨⟨d.l,b.p,b.t,b.tq,b.h,b.hm⟩,g⟩,⟨a.i1,a.i2,d.v,d.k,d.q.v,d.l.2,a.p,a.t,a.h⟩⟩,e⟩
 .exact Dr.bind (aDh f) fun z d e=>Gd.ret ⟨⟨⟨⟨b.s,aU d (by omega),b.t,b.tq,b.h,b.hm⟩,g⟩,⟨a.i1,a.i2,a.i3,a.i4,a.i5,a.d,aU d (by omega),a.t,a.h⟩⟩,e⟩
 .exact Dr.bind (as4 f j) fun z d e=>Gd.ret ⟨⟨⟨⟨b.s,b.p,aU d.1 (by omega),d.2,b.h,b.hm⟩,g⟩,⟨a.i1,a.i2,a.i3,a.i4,a.i5,a.d,a.p,aU d.1 (by omega),a.h⟩⟩,e⟩
 .exact Dr.bind (aEQ f) fun z d e=>Gd.ret ⟨⟨⟨⟨b.s,b.p,b.t,b.tq,b.h,b.hm⟩,d⟩,⟨a.i1,a.i2,a.i3,a.i4,a.i5,a.d,a.p,a.t,a.h⟩⟩,e⟩
 .refine Dr.bind (aD f (n:=5) (by omega) (by omega)) fun z d e=>Dr.bind (af4 e j) fun m o q=>Gd.ck (au (by omega) (by omega) (by rw[bU];omega)) (Gd.ret ⟨⟨⟨⟨b.s,b.p,b.t,b.tq,?_,fun p s=>?_⟩,g⟩,⟨a.i1,a.i2,a.i3,a.i4,a.i5,a.d,a.p,a.t,?_⟩⟩,q⟩)
  .show(_++[_]).length<=1048576;rw[aN,bU];omega
  .rcases eK.1 s with h|h
   .exact b.hm p h
   .rw[fj.1 h];exact o
  .show(_++[_]).length<=1048576;rw[aN,bU];omega
def azB {U:Type}{P:U->Prop}{l:List U}{k:Nat}{v:U}(a:∀x∈l,P x)(b:P v):∀x∈l.set k v,P x:=fun x d=>by
 rcases avZ d with h|h
 .exact a x h
 .rw[h];exact b
def anx {c:cY}(h:ih c):Dr (U:=ai) (r0 F0 c) fun w=>l0 w/\Lk w.1:=by
 unfold Dr;rw[aiu];refine Dr.bind (avL h) fun w j q=>Dr.bind (aD q (n:=20) (by omega) (by omega)) fun y A g=>?_
 have B:=j.le7;have a:=j.x;have C:=a.l;have d:=anv j.c;have D:=j.nl;have E:=j.sl;refine Gd.br (fun _=>?_) fun _=>Gd.br (fun _=>?_) fun _=>Gd.br (fun _=>?_) fun _=>Gd.br (fun _=>?_) fun _=>Gd.br (fun _=>?_) fun _=>Gd.br (fun _=>?_) fun _=>Gd.br (fun _=>?_) fun _=>Gd.ret ⟨⟨a,d⟩,g⟩
 .exact Dr.bind (avF g) fun z b f=>Gd.ret ⟨⟨⟨a.l,a.r,a.rx,a.n,a.nb,a.s,a.st⟩,b⟩,f⟩
 .exact Dr.bind (NH g (m:=4) (by omega) (by omega)) fun z b f=>Gd.ret ⟨⟨⟨aU b.1 (by omega),a.r,a.rx,a.n,a.nb,a.s,a.st⟩,d⟩,f⟩
 .refine Gd.bind (aGj g) fun z b=>Gd.ck (pn (by omega) (by omega)) (Gd.ret ⟨⟨⟨a.l,?_,azB a.rx b.1,a.n,a.nb,a.s,a.st⟩,d⟩,b.2⟩)
  show(w.1.1.2.2.1.set _ _).length<=100;rw[Gq];omega
 .refine Dr.bind (aD g (n:=8) (by omega) (by omega)) fun z b f=>Dr.bind (af4 f d) fun m s t=>Gd.let (Rh s _) (Gd.ck (au (by omega) (by omega) (by rw[bU];omega)) (Gd.ret ⟨⟨⟨a.l,a.r,a.rx,?_,fun x k=>?_,a.s,a.st⟩,d⟩,t⟩))
  .show(_++[_]).length<=1000;rw[aN,bU];omega
  .rcases eK.1 k with h|h
   .exact a.nb x h
   .rw[fj.1 h];exact avK _ _
 .refine Dr.bind (aER g) fun z b f=>Gd.ck (au (by omega) (by omega) (by have:=b.1;omega)) (Gd.ret ⟨⟨⟨a.l,a.r,a.rx,a.n,a.nb,?_,fun x k=>?_⟩,d⟩,f⟩)
  .show(w.1.1.2.2.2.2++z.1.1).length<=1000;rw[aN];have:=b.1;omega
  .rcases eK.1 k with h|h
   .exact a.st x h
   .exact b.2 x h
 .refine Dr.bind (anw g d) fun z b f=>Gd.ck (pn (by omega) (by omega)) (Gd.ret ⟨⟨⟨a.l,?_,azB a.rx ?_,a.n,a.nb,a.s,a.st⟩,d⟩,f⟩)
  .show(w.1.1.2.2.1.set _ _).length<=100;rw[Gq];omega
  .have p:1<w.1.1.2.2.1.length:=by omega
   have u:aAW (aL w.1.1.2.2.1 1 Wc):=by rw[show(1:Int)=((1:Nat):Int) from rfl,aY p];exact a.rx _ (bT p)
   obtain⟨⟨l,v⟩,o⟩:=u;exact⟨⟨⟨b.l,l.p,l.t,l.tq,l.h,l.hm⟩,v⟩,⟨o.i1,o.i2,b.v,b.k,b.q.v,b.l.2,o.p,o.t,o.h⟩⟩
 .have e:al ((w.1.1.2.2.1.length:Int)-1)=((w.1.1.2.2.1.length-1:Nat):Int):=by rw[aG (by omega) (by omega)];omega
  rw[e];refine Gd.ck (by simp[okT]<;>omega) (Gd.ret ⟨⟨⟨a.l,?_,fun x k=>a.rx x (XQ k),a.n,a.nb,a.s,a.st⟩,d⟩,g⟩);show(w.1.1.2.2.1.take _).length<=100;rw[bQ];omega
def aDi (c:Int×Int)(r:aB):Prop:=∃l:List bm,(∀x∈l,bP c x=true)/\r.2.2.2.2.2.2.1.1=hL l/\r.2.2.2.1=l.getLastD hK
section
variable {c:Int×Int} {r:aB}
def aDi.ok (h:aDi c r)(f:sN c r=true):ap6 c r=true:=by obtain⟨l,a,b,d⟩:=h;have e:=am2 (c:=c) (t:=[]) (.inl rfl) a;rw[fD]at e;unfold ap6;rw[f,b,e,d];simp[Zo]
end
def ax9 (w:ai):Prop:=∀r∈w.2.2.1,aDi w.1 r
def aGk (c:Int×Int)(aJ:List Int):ax9 (Li c aJ):=fun r a=>by obtain⟨i,_,rfl⟩:=Ey.1 a;exact⟨[],fun _ b=>absurd b agd,rfl,rfl⟩
abbrev Nm:=List UInt8
def Anc (t s:Nm):Prop:=s=t\/∃r,s=t++47::r
def Anc.refl (t:Nm):Anc t t:=.inl rfl
def Anc.trans {a b c:Nm}(h:Anc a b)(d:Anc b c):Anc a c:=by
 rcases d with rfl|⟨r,rfl⟩
 .exact h
 .rcases h with rfl|⟨q,rfl⟩
  .exact .inr ⟨r,rfl⟩
  .exact .inr ⟨q++47::r,by simp⟩
def Wz {s:Nm}(h:bc s=true):Anc (jE s) s:=by
 by_cases a:s=[]
 .subst a;exact .inl rfl
 .obtain⟨t,_,e⟩:=Wh h a;exact .inr ⟨t,e⟩
def aET {t s:Nm}(h:Anc t s):t.length<=s.length:=by
 rcases h with rfl|⟨r,rfl⟩
 .exact bh _
 .rw[aN];omega
def anz {a b s:Nm}(f:Anc a s)(k:Anc b s)(h:a.length<=b.length):Anc a b:=by
 rcases k with rfl|⟨q,rfl⟩
 .exact f
 .rcases f with e|⟨r,e⟩
  .have:=Bd List.length e;rw[aN,a1]at this;omega
  .by_cases l:a.length=b.length
   .have:=List.append_inj_left e l.symm;exact .inl this
   .refine .inr ⟨b.drop (a.length+1),?_⟩;have g:(b++47::q).take a.length=a:=by rw[e];exact ajB
    have d:(b++47::q)[a.length]?=some 47:=by rw[e];simp
    rw[List.take_append_of_le_length h]at g;rw[List.getElem?_append_left (by omega)]at d;obtain⟨m,d⟩:=oC.1 d;have j:=apa a.length b;rw[abb m,d,g]at j;exact j.symm
def aDj {a s:Nm}(hs:bc s=true)(y:bc a=true):Anc a s->a≠s->aH a<aH s:=by
 intro h f;generalize j:s.length=n
 induction n using Nat.strongRecOn generalizing s with
 |_ n l =>
  subst j;have b:s≠[]:=fun e=>by
   subst e;rcases h with h|⟨r,h⟩
   .exact f h.symm
   .simp at h
  have m:=ajk hs b;by_cases g:a=jE s
  .rw[g];exact m
  .have o:a.length<=(jE s).length:=by
    rcases h with h|⟨r,h⟩
    .exact absurd h.symm f
    .rcases Rr (jE s).length a.length with hlt|p
     .exfalso;obtain⟨t,q,e⟩:=Wh hs b;have d:s[a.length]?=some 47:=by rw[h];simp
      rw[e,List.getElem?_append_right (by omega)]at d;have u:(47::t)[a.length-(jE s).length]?=t[a.length-(jE s).length-1]?:=by obtain⟨k,v⟩:∃k,a.length-(jE s).length=k+1:=⟨a.length-(jE s).length-1,by omega⟩;rw[v];simp
      rw[u]at d;exact q (ajw d)
     .exact p
   have x:=anz h (Wz hs) o;have:=l (jE s).length (aCw hs b) (N5 hs) x g rfl;omega
def azC {s t:ByteArray}(hs:bc s.data.toList=true)(b:bc t.data.toList=true)(h:Anc t.data.toList s.data.toList):amF s t=true:=by
 have g:=aET h;have d:s.size=s.data.toList.length:=rfl;have a:t.size=t.data.toList.length:=rfl;unfold amF;rw[hs,b,fF,fF,aS (show(s.size:Int)>=(t.size:Int) by omega),fF];have e:s.extract 0 t.size=t:=by
  have:=Nv s.data.toList 0 t.data.toList.length;rw[abe,Tu]at this;rw[<-Ot]at this;refine this.trans ?_;rcases h with h|⟨r,h⟩
  .rw[h,l3];rfl
  .rw[h,ajB];rfl
 rw[e,oD,fF];rcases h with h|⟨r,h⟩
 .rw[show((s.size:Int)==(t.size:Int))=true from cj.2 (by rw[d,a,h])];rfl
 .have:ij s (t.size:Int)=47:=by
   have f:s.data.toList[t.data.toList.length]?=some 47:=by rw[h];simp
   unfold ij;rw[l2,a,Od,f];rfl
  rw[this];simp
def aqs (A B:Nat->Bool):∀l:List Nat,l.countP A+l.countP B<=l.length+l.countP fun k=>A k&&B k
 |[]=>bh _|x::l=>by have:=aqs A B l;rw[Bc,Bc,Bc,a1];cases A x<;>cases B x<;>simp<;>omega
def aqt (A L:Nat->Bool):∀l:List Nat,l.countP A<=l.countP L+l.countP fun k=>A k&& !L k
 |[]=>bh _|x::l=>by have:=aqt A L l;rw[Bc,Bc,Bc];cases A x<;>cases L x<;>simp<;>omega
def aqu {x:Nat}(p:Nat->Bool)(a:p x=false):∀l:List Nat,x∈l->l.countP p+1<=l.countP fun k=>p k || k==x
 |y::l,h=>by
  rw[Bc,Bc];by_cases e:y=x
  .subst e;have:l.countP p<=l.countP fun k=>p k || k==y:=aju fun k _ b=>by rw[b];rfl
   rw[a];simp;omega
  .have:=aqu p a l (by rcases cK.1 h with h|h;exact absurd h.symm e;exact h);rw[show(y==x)=false by simp[e],ajC];omega
def af5 {n:Nat}:∀{w:List Int},w.Nodup->(∀x∈w,0<=x/\x<n)->w.length<=(List.range n).countP fun k:Nat=>decide ((k:Int)∈w)
 |[],_,_=>a7 _|x::w,b,d=>by
  have j:=af5 (n:=n) (ajA.1 b).2 fun y f=>d y (jG x f)
  have e:=d x vR;have a:x.toNat∈List.range n:=dk.2 (by omega);have g:decide (((x.toNat:Nat):Int)∈w)=false:=aV (by rw[Tm e.1];exact(ajA.1 b).1);have l:=aqu (fun k:Nat=>decide ((k:Int)∈w)) g _ a;have m:((List.range n).countP fun k:Nat=>decide ((k:Int)∈w) || k==x.toNat)<=(List.range n).countP fun k:Nat=>decide ((k:Int)∈x::w):=aju fun k _ a=>by
   rcases(jH _ _).mp a with h|h
   .exact aS (jG x (s3 h))
   .have:=eq_of_beq h;exact aS (by rw[this,Tm e.1];exact vR)
  rw[a1];omega
def count_le {n:Nat}{w:List Int}:((List.range n).countP fun k:Nat=>decide ((k:Int)∈w))<=w.length:=by
  induction w with
  |nil=>simp
  |cons x w a =>
   have:((List.range n).countP fun k:Nat=>decide ((k:Int)∈x::w))<=((List.range n).countP fun k:Nat=>decide ((k:Int)∈w))+(List.range n).countP fun k:Nat=>decide ((k:Int)=x):=by
    generalize List.range n=l
    induction l with
    |nil=>simp
    |cons y l a =>
     rw[Bc,Bc,Bc];by_cases b:(y:Int)=x<;>by_cases d:(y:Int)∈w<;>simp[b,d]at a ⊢<;>omega
   have b:∀m,((List.range m).countP fun k:Nat=>decide ((k:Int)=x))<=1/\(((m:Int)<=x)->((List.range m).countP fun k:Nat=>decide ((k:Int)=x))=0):=by
    intro m
    induction m with
    |zero=>simp
    |succ m a =>
     rw[List.range_succ,List.countP_append,Bc,List.countP_nil];by_cases h:(m:Int)=x
     .have:=a.2 (by omega);rw[this,aS h];exact⟨by simp,fun d=>by omega⟩
     .rw[aV h];refine⟨by simp;exact a.1,fun d=>?_⟩;rw[a.2 (by omega)];simp
   have:=(b n).1;rw[a1];omega
def ahh {n:Int}{s:List Int}(h:hY n s=true):s.Nodup:=by
 have hlt:∀(a i:Nat) (b:a<s.length) (d:i<a),s[i]<s[a]:=by
  intro a
  induction a with
  |zero=>intro i b d;omega
  |succ a f =>
   intro i b d;have g:=am0 h b;rcases Rr i a with e|e
   .have:=f i (by omega) e;omega
   .have:i=a:=by omega
    subst this;exact g
 refine av0.2 fun i a d b j k=>?_
 have:=hlt a i b j;omega
def aDk {c:Int×Int}{aJ w1 a:List Int}(l:a8 c=true)(s:(aJ.length:Int)<=sZ c)(o:hY c.1 w1=true)(p:hY c.1 a=true)(t:(w1.length:Int)>=nm c)(u:(a.length:Int)>=nm c) :
  ∃m,m∈w1/\m∈a/\m ∉ aJ:=by
 obtain⟨v,y,_,_⟩:=bZ l;have e:(c.1.toNat:Int)=c.1:=Tm (by omega);have z:=af5 (n:=c.1.toNat) (ahh o) (fun x j=>by have:=Ja o x j;omega);have A:=af5 (n:=c.1.toNat) (ahh p) (fun x j=>by have:=Ja p x j;omega);have b:=aqs (fun k:Nat=>decide ((k:Int)∈w1)) (fun k:Nat=>decide ((k:Int)∈a)) (List.range c.1.toNat);have d:=aqt (fun k:Nat=>decide ((k:Int)∈w1)&&decide ((k:Int)∈a)) (fun k:Nat=>decide ((k:Int)∈aJ)) (List.range c.1.toNat);have f:=count_le (n:=c.1.toNat) (w:=aJ);rw[Lu]at b;have q:0<(List.range c.1.toNat).countP fun k:Nat=>(decide ((k:Int)∈w1)&&decide ((k:Int)∈a))&& !decide ((k:Int)∈aJ):=by
  unfold nm sZ at *;rw[ak l]at *;have:(Int.tdiv (c.1-1) 3)*3<=c.1-1:=by rw[ajs (by omega)];omega
  omega
 obtain⟨k,B,g⟩:=List.countP_pos_iff.1 q;simp only[aE,abc,bM,ate]at g;exact⟨(k:Int),g.1.1,g.1.2,g.2⟩
abbrev Oa:=List (bm×Option Nm)
def nmQ (q:b3):Nm:=q.2.1.data.toList
def Tag (h:Oa)(n:Nm):Prop:=∃s,(s,some n)∈h
def avN:Oa->bm
 |[]=>hK|x::_=>x.1
def Evd (S:Nm->Int->Prop)(i:Int)(h:Oa)(q:b3):Prop:=nmQ q≠[]->∀m∈q.2.2,S (nmQ q) m\/(m=i/\Tag h (nmQ q))
def Crt (c:Int×Int)(S:Nm->Int->Prop)(i:Int)(h:Oa)(n:Nm):Prop:=∃q,eI c q=true/\nmQ q=n/\Evd S i h q
structure aGl (c:Int×Int) (S:Nm->Int->Prop) (i:Int) (h:Oa) (s:bm) (n:Nm):Prop where
 ok:bc n=true
 ne:n≠[]
 v:s.1=aH n
 up:(avN h).1<aH n
 lk:aH (jE (jE n))<=s.2.1
 lu:s.2.1<=aH (jE n)
 crt:Crt c S i h (jE n)
def avO (n:Nm):Prop:=bc n=true/\n≠[]/\jE n≠[]/\jE (jE n)≠[]/\aH n=aH (jE n)+1/\aH (jE n)=aH (jE (jE n))+1
structure aGm (c:Int×Int) (S:Nm->Int->Prop) (i:Int) (h:Oa) (s:bm) (t:Option Nm):Prop where
 ok:bP c s=true
 v:(avN h).1<=s.1
 l:(avN h).2.1<=s.2.1
 vt:∀n,t=some n->aGl c S i h s n
 hi:Evd S i ((s,t)::h) s.2.2.1
 dn:s.2.2.2.data.toList=[]\/∃n3,avO n3/\Crt c S i ((s,t)::h) n3/\s.2.2.2.data.toList=jE (jE n3)
def Fair (c:Int×Int)(S:Nm->Int->Prop)(i:Int):Oa->Prop
 |[]=>True|x::h=>Fair c S i h/\aGm c S i h x.1 x.2
def Sub (h a:Oa):Prop:=∃p,a=p++h
def Sub.refl (h:Oa):Sub h h:=⟨[],rfl⟩
def Sub.trans {a b d:Oa}(h:Sub a b)(e:Sub b d):Sub a d:=by obtain⟨p,rfl⟩:=h;obtain⟨q,rfl⟩:=e;exact⟨q++p,by simp⟩
def Sub.cons (x:bm×Option Nm)(h:Oa):Sub h (x::h):=⟨[x],rfl⟩
def Tag.mono {h a:Oa}{n:Nm}(t:Tag h n)(s:Sub h a):Tag a n:=by obtain⟨p,rfl⟩:=s;obtain⟨x,b⟩:=t;exact⟨x,List.mem_append_right p b⟩
section
variable {c:Int×Int} {S S':Nm->Int->Prop} {i:Int}
def anA:∀{h:Oa} {n:Nm},Fair c S i h->Tag h n->aH n<=(avN h).1
 |[],_,_,⟨_,a⟩=>by cases a
 |x::h,n,g,⟨s,a⟩=>by
  rcases cK.1 a with e|b
  .subst e;exact Int.le_of_eq (g.2.vt n rfl).v.symm
  .exact Int.le_trans (anA g.1 ⟨s,b⟩) g.2.v
def avP:∀{h:Oa} {n:Nm},Fair c S i h->Tag h n->aH (jE (jE n))<=(avN h).2.1
 |[],_,_,⟨_,a⟩=>by cases a
 |x::h,n,g,⟨s,a⟩=>by
  rcases cK.1 a with e|b
  .subst e;exact(g.2.vt n rfl).lk
  .exact Int.le_trans (avP g.1 ⟨s,b⟩) g.2.l
def anB:∀{h:Oa} {n a:Nm},Fair c S i h->Tag h n->Tag h a->aH n=aH a->n=a
 |[],_,_,_,⟨_,b⟩,_,_=>by cases b
 |x::h,n,a,g,⟨s,b⟩,⟨j,k⟩,e=>by
  rcases cK.1 b with l|m
  .rcases cK.1 k with d|f
   .exact eh (Bd Prod.snd (l.trans d.symm))
   .subst l;have o:=(g.2.vt n rfl).up;have p:=anA g.1 ⟨j,f⟩;omega
  .rcases cK.1 k with d|f
   .subst d;have o:=(g.2.vt a rfl).up;have p:=anA g.1 ⟨s,m⟩;omega
   .exact anB g.1 ⟨s,m⟩ ⟨j,f⟩ e
def as5:∀{h:Oa} {n:Nm},Fair c S i h->Tag h n->bc n=true/\n≠[]/\∃b,Sub b h/\Crt c S i b (jE n)
 |[],_,_,⟨_,f⟩=>by cases f
 |x::h,n,g,⟨s,f⟩=>by
  rcases cK.1 f with e|j
  .subst e;exact⟨(g.2.vt n rfl).ok,(g.2.vt n rfl).ne,h,Sub.cons _ h,(g.2.vt n rfl).crt⟩
  .obtain⟨a,b,d,k,l⟩:=as5 g.1 ⟨s,j⟩;exact⟨a,b,d,k.trans (Sub.cons _ h),l⟩
def aqv:∀{h:Oa} {n a:Nm},Fair c S i h->Tag h n->Tag h a->aH n<aH a->aH (jE (jE n))<=aH (jE a)
 |[],_,_,_,⟨_,b⟩,_,_=>by cases b
 |x::h,n,a,g,⟨s,b⟩,⟨j,o⟩,e=>by
  rcases cK.1 o with k|l
  .rcases cK.1 b with d|f
   .have:=eh (Bd Prod.snd (d.trans k.symm));rw[this]at e;omega
   .subst k;have p:=avP g.1 ⟨s,f⟩;have m:=g.2.l;have q:=(g.2.vt a rfl).lu;dsimp only at m q;omega
  .rcases cK.1 b with d|f
   .subst d;have p:=(g.2.vt n rfl).up;have m:=anA g.1 ⟨j,l⟩;omega
   .exact aqv g.1 ⟨s,f⟩ ⟨j,l⟩ e
end
structure aDl (c:Int×Int) (aJ:List Int) (S:Nm->Int->Prop) (hs:Int->Oa):Prop where
 cf:a8 c=true
 l:(aJ.length:Int)<=sZ c
 s:∀n m,S n m->m∈aJ\/Tag (hs m) n
 g:∀i,Fair c S i (hs i)
section
variable {c:Int×Int} {aJ:List Int} {S:Nm->Int->Prop} {hs:Int->Oa} (H:aDl c aJ S hs)
include H
def azE {i:Int}{h:Oa}(d:Sub h (hs i)){q:b3}(e:Evd S i h q)(f:nmQ q≠[]){m:Int}(g:m∈q.2.2)(j:m ∉ aJ):Tag (hs m) (nmQ q):=by
 rcases e f m g with a|⟨a,k⟩
 .rcases H.s _ _ a with b|b
  .exact absurd b j
  .exact b
 .subst a;exact k.mono d
def as6 {j k:Int}{f g:Oa}(l:Sub f (hs j))(n:Sub g (hs k)){a b:Nm}(o:Crt c S j f a)(p:Crt c S k g b)(d:a≠[])(e:b≠[]) :
  ∃m,Tag (hs m) a/\Tag (hs m) b:=by
 obtain⟨y,q,s,t⟩:=o;obtain⟨z,u,v,x⟩:=p;subst s;subst v;obtain⟨_,_,_,_,f1⟩:=kt q;obtain⟨_,_,_,_,f2⟩:=kt u;obtain⟨m,m1,m2,m3⟩:=aDk H.cf H.l (f1 d).1 (f2 e).1 (f1 d).2 (f2 e).2;exact⟨m,azE H l t d m1 m3,azE H n x e m2 m3⟩
def adS {g j:Int}{d f:Oa}(k:Sub d (hs g))(l:Sub f (hs j)){a b:Nm}(n:Crt c S g d a)(o:Crt c S j f b)(p:a≠[])(q:b≠[])(e:aH a=aH b):a=b:=by obtain⟨m,t1,t2⟩:=as6 H k l n o p q;exact anB (H.g m) t1 t2 e
def aDm {i:Int}{h:Oa}(s:Sub h (hs i)){n:Nm}(d:Crt c S i h n)(z:n≠[]):bc n=true/\∃m b,Sub b (hs m)/\Crt c S m b (jE n):=by obtain⟨m,t1,_⟩:=as6 H s s d d z z;obtain⟨a,_,b,e,f⟩:=as5 (H.g m) t1;exact⟨a,m,b,e,f⟩
def aDn {i:Int}{h:Oa}(s:Sub h (hs i)){a:Nm}(d:Crt c S i h a)(t:avO a):∀(k:Nat) {g:Int} {j:Oa} {n:Nm},Sub j (hs g)->Crt c S g j n->aH n=k->aH (jE (jE a))<=aH n->Anc (jE (jE a)) n:=by
 obtain⟨y,l,p,q,M,N⟩:=t;obtain⟨_,m2,O,u,v⟩:=aDm H s d l;obtain⟨o,m1,P,z,A⟩:=aDm H u v p;intro k
 induction k using Nat.strongRecOn with
 |_ k B =>
  intro g j n f dn Q C;have e:n≠[]:=fun D=>by subst D;have R:=ajk (N5 o) q;have T:=ie (jE (jE (jE a)));rw[QW]at C;omega
  by_cases E:aH n=aH (jE (jE a))
  .rw[adS H f z dn A e q E];exact Anc.refl _
  .by_cases F:aH n=aH (jE a)
   .rw[adS H f u dn v e p F];exact Wz o
   .by_cases G:aH n=aH a
    .rw[adS H f s dn d e l G];exact(Wz o).trans (Wz y)
    .obtain⟨m,t3,x⟩:=as6 H s f d dn l e;have I:=aqv (H.g m) t3 x (by omega);obtain⟨on,_,b,K,L⟩:=as5 (H.g m) x;have W:=ajk on e;have X:=ie (jE n);exact(B (aH (jE n)).toNat (by omega) K L (by omega) I).trans (Wz on)
def aqw {l m:Int}{g j:Oa}(o:Sub g (hs l))(p:Sub j (hs m)){a b:Nm}(q:Crt c S l g a)(s:Crt c S m j b)(n:avO a)(d:avO b)(x:aH (jE (jE a))<=aH (jE (jE b))):Anc (jE (jE a)) (jE (jE b)):=by
 have t:=Wz d.1;have u:=Wz (N5 d.1);have y:=d.2.2.2.2.1;have z:=d.2.2.2.2.2;have h:=aDn H o q n (aH b).toNat p s (by have:=ie b;omega) (by omega);have k:Anc (jE (jE b)) b:=u.trans t;rcases Nat.le_total (jE (jE a)).length (jE (jE b)).length with f|f
 .exact anz h k f
 .have v:=anz k h f;by_cases e:jE (jE b)=jE (jE a)
  .rw[e];exact Anc.refl _
  .have:=aDj (N5 (N5 n.1)) (N5 (N5 d.1)) v e;omega
end
def aFC (m:ch):b3:=if m.1=1 then m.2.2.1.2 else if m.1=2 then m.2.2.2.1 else if m.1=3 then m.2.2.2.2.1 else cd
def aGn (S:Nm->Int->Prop)(i:Int)(h:Oa)(m:ch):Prop:=Evd S i h (aFC m)
structure RI (c:Int×Int) (S:Nm->Int->Prop) (r:aB) (h:Oa):Prop where
 g:Fair c S r.1 h
 s:r.2.2.2.1=avN h
 d:r.2.2.2.2.2.2.1.1=hL (h.map (·.1)).reverse
 t:∀p∈r.2.2.2.2.2.1,Evd S r.1 h p
 m:∀p∈r.2.2.2.2.2.2.2,aGn S r.1 h p.2
section
variable {c:Int×Int} {S:Nm->Int->Prop} {i su:Int} {h:Oa} {r:aB}
def aEU (q:b3)(a:nmQ q=[]):Evd S i h q:=fun b=>absurd a b
def aGo:Evd S i h cd:=aEU _ rfl
def aGp:∀{h:Oa},Fair c S i h->Evd S i h (avN h).2.2.1
 |[],_=>aGo|_::_,g=>g.2.hi
def aGq (c:Int×Int)(S:Nm->Int->Prop)(i:Int)(h:Oa)(d:ByteArray):Prop:=d.data.toList=[]\/∃a,avO a/\Crt c S i h a/\d.data.toList=jE (jE a)
def aDo:∀{h:Oa},Fair c S i h->aGq c S i h (avN h).2.2.2
 |[],_=>.inl rfl|_::_,g=>g.2.dn
end
section
variable {c:Int×Int} {S:Nm->Int->Prop} {i su:Int} {h:Oa} {r:aB}
def aHp (R:RI c S r h):Evd S r.1 h r.2.2.2.1.2.2.1:=by rw[R.s];exact aGp R.g
end
def Sd (w:ai):Nm->Int->Prop:=fun n m=>m∈w.2.1\/∃x∈w.2.2.2.2,x.2.1.data.toList=n/\x.2.2=m
def szG (h:Oa):Nat:=(hL (h.map (·.1)).reverse).length
structure WI (w:ai) (hs:Nat->Oa):Prop where
 r:∀(k:Nat) (hk:k<w.2.2.1.length),RI w.1 (Sd w) w.2.2.1[k] (hs k)
 s:∀x∈w.2.2.2.2,∃(k:Nat) (hk:k<w.2.2.1.length),x.2.2=(k:Int)/\∃h1,Sub h1 (hs k)/\Tag h1 x.2.1.data.toList/\(szG h1:Int)<=(w.2.2.1[k]).2.2.2.2.2.2.1.2
 n:∀x∈w.2.2.2.1,aGn (Sd w) (-1) [] (iZ w.1 x.2).1
section
variable {w:ai} {hs:Nat->Oa}
end
section
variable {w:ai} {hs:Nat->Oa}
end
def aEV (c:Int×Int)(aJ:List Int):WI (Li c aJ) fun _=>[]:=by
 refine⟨fun k d=>?_,fun x a=>(by cases a),fun x a=>(by cases a)⟩;have:(Li c aJ).2.2.1[k]=vQ (k:Int):=by simp[Li]
 rw[this];exact⟨trivial,rfl,rfl,fun p b=>(by cases b),fun p b=>(by cases b)⟩
def NI (w:ai)(hs:Nat->Oa)(i:Int):Oa:=if 0<=i/\i<w.2.2.1.length then hs i.toNat else []
def WI.aDp {w:ai}{hs:Nat->Oa}(G:aW w)(W:WI w hs):aDl w.1 w.2.1 (Sd w) (NI w hs):=by
 refine⟨G.c,G.lf,fun n m h=>?_,fun i=>?_⟩
 .rcases h with h|⟨x,b,d,e⟩
  .exact .inl h
  .obtain⟨k,a,f,l,g,t3,_⟩:=W.s x b;refine .inr ?_;subst d;rw[<-e,f];unfold NI;rw[ak ⟨by omega,by omega⟩];exact t3.mono g
 .unfold NI;split
  .rename_i j;have a:i.toNat<w.2.2.1.length:=by omega
   have:=(W.r i.toNat a).g;rw[G.id i.toNat a,Tm j.1]at this;exact this
  .exact trivial
def WI.at {w:ai}{hs:Nat->Oa}(G:aW w)(W:WI w hs){k:Nat}(a:k<w.2.2.1.length):NI w hs (k:Int)=hs k:=by unfold NI;rw[ak ⟨by omega,by omega⟩];rfl
def WI.meet {w:ai}{hs:Nat->Oa}(G:aW w)(W:WI w hs){j k:Nat}(d:j<w.2.2.1.length)(e:k<w.2.2.1.length) :
  Anc (w.2.2.1[j]).2.2.2.1.2.2.2.data.toList (w.2.2.1[k]).2.2.2.1.2.2.2.data.toList\/Anc (w.2.2.1[k]).2.2.2.1.2.2.2.data.toList (w.2.2.1[j]).2.2.2.1.2.2.2.data.toList:=by
 have H:=W.aDp G;have f:=W.r j d;have g:=W.r k e;have y:=(cZ (f.s▸(G.g _ (bT d)).f.s)).2.2.2;have z:=(cZ (g.s▸(G.g _ (bT e)).f.s)).2.2.2;have root:∀n:Nm,bc n=true->Anc [] n:=fun n m=>by
  generalize A:n.length=l
  induction l using Nat.strongRecOn generalizing n with
  |_ l B =>
   by_cases s:n=[]
   .exact .inl s
   .exact(B _ (by rw[<-A];exact aCw m s) (jE n) (N5 m) rfl).trans (Wz m)
 rw[f.s,g.s];rcases aDo f.g with C|⟨a,t,o,D⟩
 .rw[C];exact .inl (root _ z)
 .rcases aDo g.g with E|⟨b,u,p,F⟩
  .rw[E];exact .inr (root _ y)
  .rw[D,F];have I:=G.id j d;have K:=G.id k e;rw[I]at o;rw[K]at p;have v:Sub (hs j) (NI w hs (j:Int)):=by rw[W.at G d];exact Sub.refl _
   have x:Sub (hs k) (NI w hs (k:Int)):=by rw[W.at G e];exact Sub.refl _
   rcases Int.le_total (aH (jE (jE a))) (aH (jE (jE b))) with q|q
   .exact .inl (aqw H v x o p t u q)
   .exact .inr (aqw H x v p o u t q)
def af6 {l:hJ}:BK l=true↔l.1.length=4/\l.2.length=4/\(∀x∈l.1,0<=x/\x<=400)/\∀x∈l.2,0<=x/\x<=100:=by
 constructor
 .exact aaG
 .rintro⟨a,b,d,e⟩;simp only[BK,inB,aE,bM,dh];exact⟨a,b,d,e⟩
def as7:∀(l:List Int) (i:Nat) (h:i<l.length) (v:Int),(l.set i v).sum=l.sum-l[i]+v
 |x::l,0,_,v=>by simp only[List.set_cons_zero,Tt,av3];omega
 |x::l,i+1,h,v=>by have:=as7 l i (by simpa using h) v;simp only[List.set_cons_succ,Tt,List.getElem_cons_succ];omega
def ZT {l:List Int}{i:Int}(a:0<=i)(h:i.toNat<l.length):aL l i 0=l[i.toNat]:=aR h 0
structure aGr (l:hJ) (x:dK):Prop where
 lo:BK l=true
 xo:fS x=true
 n:x.2.2.2=aL l.2 x.1 0
 r:(eJ l x).1.2=l.2.set x.1.toNat (x.2.2.2+1)
 k:BK (eJ l x).1=true
 s:(eJ l x).1.1.sum=l.1.sum
def Xg {l:hJ}{x:dK}(h:S6 (eJ l x).2=true):aGr l x:=by
 by_cases k:BK l=true/\fS x=true
 .obtain⟨a,b⟩:=k;obtain⟨⟨f0,f1⟩,⟨t0,t1⟩,⟨m0,m1⟩,⟨u,v⟩⟩:=jD b;obtain⟨p,q,s,t⟩:=af6.1 a;have m:x.1.toNat<l.1.length:=by omega
  have y:x.1.toNat<l.2.length:=by omega
  by_cases d:x.2.2.2<aL l.2 x.1 0
  .have e:eJ l x=(l,2):=by unfold eJ;rw[ak ⟨a,b⟩,ak d]
   rw[e]at h;cases h
  .by_cases f:x.2.2.2>aL l.2 x.1 0
   .have e:eJ l x=(l,3):=by unfold eJ;rw[ak ⟨a,b⟩,ag d,ak f]
    rw[e]at h;cases h
   .have n:x.2.2.2=aL l.2 x.1 0:=by omega
    by_cases g:x.2.2.1>aL l.1 x.1 0
    .have e:eJ l x=((l.1,l.2.set x.1.toNat (x.2.2.2+1)),4):=by unfold eJ;rw[ak ⟨a,b⟩,ag d,ag f,ak g]
     refine⟨a,b,n,by rw[e],?_,by rw[e]⟩;rw[e];refine af6.2 ⟨p,by dsimp only;rw[Gq];exact q,s,?_⟩;exact asg (lo:=0) (hi:=100) t (by omega)
    .by_cases j:BK ((l.1.set x.1.toNat (aL l.1 x.1 0-x.2.2.1)).set x.2.1.toNat (aL (l.1.set x.1.toNat (aL l.1 x.1 0-x.2.2.1)) x.2.1 0+x.2.2.1),l.2.set x.1.toNat (x.2.2.2+1))=true
     .have e:eJ l x=(((l.1.set x.1.toNat (aL l.1 x.1 0-x.2.2.1)).set x.2.1.toNat (aL (l.1.set x.1.toNat (aL l.1 x.1 0-x.2.2.1)) x.2.1 0+x.2.2.1),l.2.set x.1.toNat (x.2.2.2+1)),0):=by unfold eJ;rw[ak ⟨a,b⟩,ag d,ag f,ag g,ak j]
      have o:x.2.1.toNat<(l.1.set x.1.toNat (aL l.1 x.1 0-x.2.2.1)).length:=by rw[Gq];omega
      refine⟨a,b,n,by rw[e],by rw[e];exact j,?_⟩;rw[e];dsimp only;rw[as7 _ _ o,ZT t0 o,as7 _ _ m];have z:=ZT f0 m;omega
     .have e:eJ l x=(l,1):=by unfold eJ;rw[ak ⟨a,b⟩,ag d,ag f,ag g,ag j]
      rw[e]at h;cases h
 .have e:eJ l x=(l,1):=by unfold eJ;rw[ag k]
  rw[e]at h;cases h
def anC (l:hJ):Prop:=BK l=true/\l.1.sum=400
def aEW {l:hJ}(h:anC l)(x:dK):anC (eJ l x).1:=by
 cases a:S6 (eJ l x).2 with
 |false=>rw[aqg a];exact h
 |true =>
  have b:=Xg a;exact⟨b.k,by rw[b.s];exact h.2⟩
def azF:∀(xs:List dK) {l:hJ},anC l->anC (eT l xs)
 |[],_,h=>h|x::xs,l,h=>azF xs (aEW h x)
def aIf:anC V0:=⟨by decide,by decide⟩
def ahi:∀{l:List Int} {n:Int},(∀x∈l,0<=x/\x<=400)->0<=n->n+400*l.length<=1000000->S5 l n=n+l.sum
 |[],n,_,_,_=>by simp[S5]
 |x::l,n,h,d,a=>by have e:=h x vR;rw[a1]at a;rw[S5,aG (by omega) (by omega),ahi (fun y b=>h y (jG _ b)) (by omega) (by omega),Tt];omega
def aEX {l:hJ}(h:anC l):S5 l.1 0=400:=by obtain⟨b,d,a,e⟩:=af6.1 h.1;rw[ahi a (Gr _) (by omega),h.2];rfl
def aA1 {l:hJ}{x:dK}(i:Int)(hi:0<=i)(g:l.2.length=4)(j:i<=3):aL l.2 i 0<=aL (eJ l x).1.2 i 0:=by
 cases d:S6 (eJ l x).2 with
 |false=>rw[aqg d];exact Gr _
 |true =>
  have a:=Xg d;obtain⟨⟨f0,f1⟩,_⟩:=jD a.xo;rw[a.r];by_cases e:x.1=i
  .subst e;have b:x.1.toNat<(l.2.set x.1.toNat (x.2.2.2+1)).length:=by rw[Gq];omega
   rw[ZT hi b,List.getElem_set_self,a.n];omega
  .have b:i.toNat<(l.2.set x.1.toNat (x.2.2.2+1)).length:=by rw[Gq];omega
   have f:i.toNat<l.2.length:=by omega
   rw[ZT hi b,ZT hi f,List.getElem_set_ne (by omega)];exact Gr _
def avQ:∀(xs:List dK) {l:hJ} (i:Int),0<=i->i<=3->aaI l->aL l.2 i 0<=aL (eT l xs).2 i 0
 |[],_,_,_,_,_=>Gr _|x::xs,l,i,a,b,d=>Int.le_trans (aA1 i a d.2 b) (avQ xs i a b (aFT d x))
def anD {xs:List dK}{l:hJ}{j:Nat}(h:j<xs.length):(gn l xs).getD j 0=(eJ (eT l (xs.take j)) xs[j]).2:=by rw[Od,adj xs l j h];rfl
def anE:∀(a b:List dK) (l:hJ),eT l (a++b)=eT (eT l a) b
 |[],_,_=>rfl|x::a,b,l=>anE a b _
def aA2 (xs:List dK){i k:Nat}(q:k<i)(hi:i<xs.length):okP xs (gn V0 xs) i k=true:=by
 have a:k<xs.length:=by omega
 unfold okP;rw[anD hi,anD a,aR hi,aR a];cases f:S6 (eJ (eT V0 (xs.take i)) xs[i]).2 with
 |false=>rfl
 |true =>
  cases g:S6 (eJ (eT V0 (xs.take k)) xs[k]).2 with
  |false=>rfl
  |true =>
   have j:=Xg f;have d:=Xg g;by_cases e:xs[i].1=xs[k].1
   .by_cases m:xs[i].2.2.2=xs[k].2.2.2
    .exfalso;obtain⟨⟨f0,f1⟩,_⟩:=jD d.xo;have hs:xs.take i=xs.take (k+1)++(xs.take i).drop (k+1):=by have:=apa (k+1) (xs.take i);rw[List.take_take,Zw (by omega)]at this;exact this.symm
     have n:aaI (eT V0 (xs.take (k+1))):=Nw Q7;have b:=avQ ((xs.take i).drop (k+1)) (l:=eT V0 (xs.take (k+1))) xs[k].1 f0 f1 n;rw[<-anE,<-hs]at b;have o:xs.take (k+1)=xs.take k++[xs[k]]:=ef a;rw[o,Nx,d.r]at b;have p:aaI (eT V0 (xs.take k)):=Nw Q7;have hlen:(xs[k].1).toNat<((eT V0 (xs.take k)).2.set xs[k].1.toNat (xs[k].2.2.2+1)).length:=by rw[Gq];have:=p.2;omega
     rw[ZT f0 hlen,List.getElem_set_self]at b;have:=j.n;rw[e]at this;omega
    .simp[m]
   .simp[e]
def aya (b:ByteArray):auG b=true:=by unfold auG;rw[dh];intro i a;rw[dh];intro k d;exact aA2 (XN b) (dk.1 d) (dk.1 a)
def aA3 {c:Int×Int}{r:aB}(h:ba c r):anC (ki c r):=by unfold ki;rw[ak h.ok];exact azF _ aIf
def aW.rp {w:ai}(h:aW w){i:Nat}(hi:i<(aI w).length):ba w.1 (rp w i):=by obtain⟨b,e,a⟩:=oh hi;rw[ap7 hi e a];exact h.g _ (bT a)
def aW.aIg {w:ai}(h:aW w):aaS w=true:=by unfold aaS;rw[h.ok,fF,dh];intro i a;have a:=dk.1 a;unfold asy;rw[aEX (aA3 (h.rp a)),aya];rfl
def aEY {w:ai}(h:aW w):aaS w=true:=h.aIg
section
variable {w:ai} {hs:Nat->Oa}
def ajq (G:aW w){k:Nat}(a:k<w.2.2.1.length):bc (w.2.2.1[k]).2.2.2.1.2.2.2.data.toList=true:=(cZ (G.g _ (bT a)).f.s).2.2.2
def aGs (G:aW w)(W:WI w hs):ap3 w=true:=by
 unfold ap3;rw[G.ok,fF,dh];intro i d;rw[dh];intro k e;have d:=dk.1 d;have e:=dk.1 e;obtain⟨a,j,f⟩:=oh d;obtain⟨b,l,g⟩:=oh e;rw[azh d j f,azh e l g];unfold ag4;rcases W.meet G f g with h|h
 .rw[azC (ajq G g) (ajq G f) h,Bool.or_true]
 .rw[azC (ajq G f) (ajq G g) h,Tv]
def anF (W:WI w hs){x:cB}(a:x∈w.2.2.2.2){k:Nat}(f:k<w.2.2.1.length)(e:x.2.2=(k:Int)):Tag (hs k) x.2.1.data.toList:=by
 obtain⟨b,g,j,l,d,t1,_⟩:=W.s x a;have:b=k:=by omega
 subst this;exact t1.mono d
def aDq (G:aW w)(W:WI w hs):W2 w=true:=by
 unfold W2;rw[G.ok,fF,dh];intro i a;rw[dh];intro k b;have a:=dk.1 a;have b:=dk.1 b;unfold okV;rw[aR a,aR b];have d:=bT a;have e:=bT b;generalize w.2.2.2.2[i]=x at d;generalize w.2.2.2.2[k]=y at e;obtain⟨g,f,j,_⟩:=W.s x d;unfold aF3;by_cases l:x.2.2=y.2.2
 .by_cases m:x.1=y.1
  .have n:=anF W d f j;have o:=anF W e f (by omega);have s:=(G.sb x d).2.2;have t:=(G.sb y e).2.2;have p:=anB (W.r g f).g n o (by omega);have q:x.2.1=y.2.1:=by rw[Ot x.2.1,Ot y.2.1,p]
   rw[q];simp
  .simp[m]
 .simp[l]
def aqx:∀{c:Int×Int} {l:List gF} {xs:List b3} {q:b3},q∈Es c l xs->q∈xs\/∃x∈l,q∈Q6 c x
 |_,[],_,_,h=>.inl h|c,x::l,xs,q,h=>by
  rcases aqx (c:=c) (l:=l) h with a|⟨y,d,a⟩
  .rcases eK.1 a with b|b
   .exact .inl b
   .exact .inr ⟨x,vR,b⟩
  .exact .inr ⟨y,jG x d,a⟩
def aqy (G:aW w)(W:WI w hs){q:b3}(l:q∈Lc w):eI w.1 q=true/\∃i h,Sub h (NI w hs i)/\Evd (Sd w) i h q:=by
 rcases aqx l with b|⟨x,j,b⟩
 .obtain⟨a,m,rfl⟩:=Ey.1 b;have p:=IU m;have d:a.toNat<w.2.2.1.length:=by omega
  have e:Wd w a=(w.2.2.1[a.toNat]).2.2.2.1.2.2.1:=by unfold Wd;rw[aR d]
  rw[e];have n:=G.g _ (bT d);refine⟨(cZ n.f.s).2.2.1,((a.toNat:Nat):Int),hs a.toNat,by rw[W.at G d];exact Sub.refl _,?_⟩;have:=aHp (W.r a.toNat d);rw[G.id a.toNat d]at this;exact this
 .have f:=W.n x j;have o:=(avt (G.nb x j).2.1).2;unfold Q6 at b;unfold aGn aFC at f;rcases aaX o with ⟨k,g⟩|k|⟨k,g⟩|k
  .rw[k]at b;rw[ak k]at f;have:=fj.1 b;rw[this];exact⟨g,-1,[],⟨_,(fD _).symm⟩,f⟩
  .rw[k]at b;cases b
  .rw[k]at b;rw[ag (by omega),ag (by omega),ak k]at f;have:=fj.1 b;rw[this];exact⟨g,-1,[],⟨_,(fD _).symm⟩,f⟩
  .rw[k]at b;cases b
def aDr (G:aW w)(W:WI w hs):W3 w=true:=by
 unfold W3;rw[G.ok,fF,dh];intro i e;rw[dh];intro k f;have e:=dk.1 e;have f:=dk.1 f;unfold Ru;rw[aR e,aR f];have o:=bT e;have p:=bT f;generalize (Lc w)[i]=a at o;generalize (Lc w)[k]=b at p;obtain⟨j,C,D,q,s⟩:=aqy G W o;obtain⟨l,E,F,t,u⟩:=aqy G W p;obtain⟨_,_,I,K,_⟩:=kt j;obtain⟨_,_,L,M,_⟩:=kt l;unfold aF4;by_cases v:a.1=b.1
 .have x:nmQ a=nmQ b:=by
   have m:aH (nmQ a)=aH (nmQ b):=by show aH a.2.1.data.toList=aH b.2.1.data.toList;omega
   have pos:∀{n:Nm},bc n=true->n≠[]->0<aH n:=fun {n} y z=>by have:=ajk y z;have:=ie (jE n);omega
   by_cases g:nmQ a=[]
   .by_cases d:nmQ b=[]
    .rw[g,d]
    .exfalso;have:=pos (kt l).2.1 d;rw[g,QW]at m;have A:aH (nmQ b)=aH b.2.1.data.toList:=rfl;omega
   .by_cases d:nmQ b=[]
    .exfalso;have:=pos (kt j).2.1 g;rw[d,QW]at m;have A:aH (nmQ a)=aH a.2.1.data.toList:=rfl;omega
    .exact adS (W.aDp G) q t ⟨a,j,rfl,s⟩ ⟨b,l,rfl,u⟩ g d m
  have B:a.2.1=b.2.1:=by rw[Ot a.2.1,Ot b.2.1];exact Bd tx x
  rw[B];simp
 .simp[v]
def aEZ (G:aW w)(W:WI w hs)(K:ax9 w):amJ w=true:=by
 unfold amJ;rw[G.ok,fF,dh];intro i a;have a:=dk.1 a;obtain⟨f,e,b⟩:=oh a;have j:=bT b;unfold asx;rw[ap7 a e b,(K _ j).ok (G.g _ j).ok,fF,dh];intro k d;have d:=dk.1 d;unfold amI;rw[ap7 a e b,aR d,aR a,e];have g:=bT d;generalize w.2.2.2.2[k]=x at g;by_cases l:x.2.2=(f:Int)
 .have m:=anF W g b l;have n:=anA (W.r f b).g m;have o:=(G.sb x g).2.2;rw[<-(W.r f b).s]at n;rw[aV (by omega),Tr];rfl
 .rw[b0.2 l];rfl
def aGt (G:aW w)(W:WI w hs)(K:ax9 w):azj w=true:=by unfold azj;rw[aGs G W,aDq G W,aDr G W,aEY G,aEZ G W K];rfl
end
end Go.Am.Tryz
