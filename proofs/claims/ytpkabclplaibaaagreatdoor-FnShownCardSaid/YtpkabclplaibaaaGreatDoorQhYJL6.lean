/- No condition. -/
import Derived.Test.YtpkabclplaibaaaGreatDoorQhYJL5
set_option linter.all false
namespace Go.Am.Tryz
open Go.Am
def p8 {n:Int}(a:-10000000000<=n)(b:n<=10000000000):pg n:=⟨by omega,by omega⟩
def T8 {l:List Int}(a:l.all (fun x=>decide (-10000000000<=x)&&decide (x<=10000000000))=true){v:Int}(h:v∈l):pg v:=by rw[gb]at a;have:=a v h;rw[az,bu,bu]at this;exact p8 this.1 this.2
def EK (c:Int×Int):Prop:=-1<=c.1/\c.1<=8
def Ly {c:Int×Int}(h:bF c=true):EK c:=by have:=cj h;exact⟨by omega,by omega⟩
def anr {c:cz}(h:fz c):Dr (U:=Int×Int) (pa F0 c) EK:=by
 unfold Dr;rw[OK];refine Dr.bind (Lh h) fun x f g=>Dr.bind (ax g (n:=12) (by omega) (by omega)) fun y i b=>?_
 have e:=Ly f;refine Gd.br (fun _=>?_) fun _=>Gd.br (fun _=>?_) fun _=>Gd.ret ⟨e,b⟩
 .refine Dr.bind (bO b (by decide) (by decide)) fun z a d=>Gd.ret ⟨?_,d⟩
  have a:=a;simp only[c7,Te,Ja]at a;show -1<=z.1.1/\z.1.1<=8;omega
 .exact Dr.bind (bO b (by decide) (by decide)) fun z a d=>Gd.ret ⟨e,d⟩
def ak9 {c:cz}(h:fz c){n:Int}(b:n<=9223372036854775807):Dr (U:=Int) (af F0 c n) fun v=>0<=v/\(v<n\/v=0):=by
 by_cases d:0<n
 .refine Gd.mono (ax h d b) fun v a=>⟨⟨a.1.1,.inl a.1.2⟩,a.2⟩
 .unfold Dr;rw[x9];exact Gd.br1 (aW (by omega)) (Gd.ret ⟨⟨I9 _,.inr rfl⟩,h⟩)
def EL {c:cz}(h:fz c){m:Int}(l:0<m)(t:m<=256):Dr (U:=List Int) (fE F0 c m) fun v=>v.length<=9/\∀x∈v,pg x:=by
 unfold Dr;rw[PW];have MB:∀(c:cz) (g:List Int),fz c->g.length<=8->(∀x∈g,pg x)->Gd (jx F0 (.exit 0) (nu c.1 c.2.1 c.2.2 g)) fun z:DrT (List Int)=>(z.1.1.length<=9/\∀x∈z.1.1,pg x)/\fz z.2.1:=fun c g o d a=>by
  rw[JH];refine Dr.bind (tg o (n:=12) (by omega) (by omega)) fun y j e=>Gd.br (fun _=>?_) fun _=>Gd.ret ⟨⟨aL d (by omega),a⟩,e⟩
  refine Dr.bind (bO e (by decide) (by decide)) fun z p q=>Gd.ck (aC (by omega) (by omega) (by rw[b2];omega)) (Gd.ret ⟨⟨by rw[aB,b2];omega,fun x r=>?_⟩,q⟩)
  rcases en.1 r with h|h
  .exact a x h
  .rw[fA.1 h];exact T8 (by decide) p
 refine eV (fun n i (z:cz×List Int)=>mb F0 (jx F0) n (jw m i z.1.1 z.1.2.1 z.1.2.2 z.2)) 8 (fun k z=>fz z.1/\z.2.length<=k/\∀x∈z.2,pg x) _ (fun n k z u b s=>?_) (fun n z b=>?_) F0.n 0 (c,[]) (a1 _) ⟨h,bq _,fun x a=>by cases a⟩ (by rw[b1];omega)
 .try dsimp only
  have d:=b.2.1;rw[tw];refine Dr.bind (ax b.1 (n:=8) (by omega) (by omega)) fun x a f=>Gd.br (fun _=>?_) fun _=>?_
  .refine Dr.bind (ax f l (by omega)) fun y j e=>Gd.let (CL (by omega) _) ?_
   rw[an (by omega)];have w:=La z.2 y.1.1;refine s (y.2.1,I4 z.2 y.1.1) ⟨e,by dsimp only;omega,fun x a=>?_⟩;rcases afd.1 a with rfl|h
   .have:=j.1;have:=j.2;exact p8 (by omega) (by omega)
   .exact b.2.2 x h
  .exact MB x.2.1 z.2 f (by omega) b.2.2
 .try dsimp only
  have d:=b.2.1;rw[tw];refine Dr.bind (ax b.1 (n:=8) (by omega) (by omega)) fun x a f=>?_
  refine Gd.br0 (a6 (by have:=a.2;show ¬(8:Int)<x.1.1;omega)) ?_;exact MB x.2.1 z.2 f d b.2.2
def QcV (q:ct):Prop:=ZK q/\0<=q.1/\q.1<=60
def ad1 {c:cz}(h:fz c){d:Int×Int}(o:EK d){name:ByteArray}(j:name.size<=20200):Dr (U:=ct) (kq F0 c d name) QcV:=by
 unfold Dr;rw[RW];have p:=na name.data.toList;refine Gd.let (eT (aL j (by omega))) (Gd.br (fun _=>Gd.ret ⟨⟨⟨p8 (by dsimp only;omega) (by dsimp only;omega),aL j (by omega),a1 _,fun x a=>by cases a⟩,p⟩,h⟩) fun _=>?_);dsimp only;have B:=o.1;have C:=o.2;have MB:∀(b:List Int),b.length<=8->(∀x∈b,pg x)->Gd (kO F0 (.exit 0) (pq c.1 c.2.1 c.2.2 0 ah (bE name.data.toList) name [] b)) fun z:DrT ct=>QcV z.1.1/\fz z.2.1:=fun b q a=>by
  rw[Mc];have l:∀g:List Int,g.length<=100->(∀x∈g,pg x)->QcV (bE name.data.toList,name,g):=fun g u v=>⟨⟨p8 (by dsimp only;omega) (by dsimp only;omega),aL j (by omega),u,v⟩,p⟩
  refine Dr.bind (tg h (n:=2) (by omega) (by omega)) fun y D m=>Gd.br (fun _=>Gd.br (fun r=>?_) fun _=>Gd.ret ⟨l b (by omega) a,m⟩) fun _=>Gd.ret ⟨l b (by omega) a,m⟩
  have r:=wb r;refine Dr.bind (ax m (n:=(b.length:Int)) (by omega) (by omega)) fun z s w=>?_
  have E:=s.1;have F:=s.2;have e:ak (z.1.1+1)=z.1.1+1:=aD (by omega) (by omega);have G:(b.take z.1.1.toNat).length<=8:=by rw[bQ];omega
  have H:((b.take (b.length:Int).toNat).drop (ak (z.1.1+1)).toNat).length<=8:=by rw[bT,bQ];omega
  refine Gd.ck (by simp[okT]<;>omega) (Gd.ck (O5 (by rw[e];omega) (by rw[e];omega) (I9 _)) (Gd.ck (aC (by omega) (by omega) (by omega)) (Gd.ck (aC (by omega) (by omega) (by rw[nD];omega)) (Gd.ret ⟨l _ ?_ fun x t=>?_,w⟩))))
  .rw[aB,nD];omega
  .rw[nD]at t;rcases en.1 t with h|h
   .exact a x (Bw h)
   .exact a x (Bw (abU h))
 refine eV (fun n i (z:List Int)=>oc F0 (kO F0) n (kN i c.1 c.2.1 c.2.2 d.1 d.2 0 ah (bE name.data.toList) name [] z)) d.1.toNat (fun k z=>z.length<=k/\∀x∈z,pg x) _ (fun n k z I f A=>?_) (fun n z f=>?_) F0.n 0 [] (a1 _) ⟨bq _,fun x a=>by cases a⟩ (by rw[b1];omega)
 .have q:=f.1;rw[wq,aW (show(k:Int)<d.1 by omega),ae];refine Gd.ck (aC (by omega) (by omega) (by rw[b2];omega)) ?_;rw[an (by omega)];refine A (z++[(k:Int)]) ⟨by rw[aB,b2];omega,fun x a=>?_⟩;rcases en.1 a with h|h
  .exact f.2 x h
  .rw[fA.1 h];exact p8 (by omega) (by omega)
 .have q:=f.1;rw[wq,a6 (show ¬((d.1.toNat:Nat):Int)<d.1 by omega),aa];exact MB z (by omega) f.2
def agu {q:Int}(h:pg q):pg (ak q):=by rw[aD h.1 h.2];exact h
def agv {c:cz}(h:fz c){f:Int×Int}(g:EK f):Dr (U:=ct) (wu F0 c f) fun q=>ZK q:=by
 unfold Dr;rw[Xh];refine Dr.bind (p6 h) fun x i j=>Dr.bind (ad1 j g (by have:=i.1;omega)) fun q a k=>Dr.bind (ax k (n:=12) (by omega) (by omega)) fun y l b=>?_
 refine Gd.br (fun _=>Gd.ret ⟨⟨agu (p8 (by have:=a.2.1;omega) (by have:=a.2.2;omega)),a.1.s,a.1.w,a.1.i⟩,b⟩) fun _=>Gd.br (fun _=>?_) fun _=>Gd.br (fun _=>?_) fun _=>Gd.ret ⟨a.1,b⟩
 .exact Dr.bind (EL b (m:=7) (by omega) (by omega)) fun z d e=>Gd.ret ⟨⟨a.1.v,a.1.s,aL d.1 (by omega),d.2⟩,e⟩
 .exact Dr.bind (Za b) fun z d e=>Gd.ret ⟨⟨a.1.v,aL d (by omega),a.1.w,a.1.i⟩,e⟩
def aaH {c:Int×Int}{q:ct}(a:ZK q){view:Int}(d:pg view){l:List dW}(i:l.length<=100):fw F0 c q view l=some ((eI c q view l).1,(eI c q view l).2,()):=by
 have j:=a.s;have e:(CU q view l).size<=1048576:=by have k:=LR (up:=q.2.1.data.toList) d l;unfold CU;rw[ao];have:q.2.1.data.toList.length=q.2.1.size:=rfl;omega
 have f:dX F0 q.2.1 view l=some (CU q view l,()):=Ho (up:=q.2.1.data.toList) (by show q.2.1.size<=_;omega) d (by omega);rw[FJ,f,av,l0 a.l.2,av,w9 (b:=(CU q view l,q)) e a.l,av,eT e,av];unfold eI;dsimp only;rw[VW];cases fZ c (CU q view l,q) with
 |false=>rw[ag (fun h=>by cases h.1)];rfl
 |true =>
  by_cases h:bE (CU q view l).data.toList=view
  .rw[aj ⟨rfl,h⟩,aW h];rfl
  .rw[ag (fun g=>h g.2),a6 h];rfl
def ans:ZK cI:=⟨p8 (by decide) (by decide),a1 _,a1 _,fun x a=>by cases a⟩
def aiy (b:cH):Prop:=b.1.size<=1048576/\ZK b.2
def aiz {c:Int×Int}{q:ct}(a:ZK q){view:Int}{l:List dW}:aiy (eI c q view l).1:=by
 refine⟨Pk.1,?_⟩;unfold eI;split
 .exact a
 .exact ans
def agw {c:cz}(h:fz c){a:Int×Int}(j:EK a):Dr (U:=cH) (iN F0 c a) aiy:=by
 unfold Dr;rw[Mn];refine Dr.bind (p6 h) fun x e b=>Dr.bind (ad1 b j (by have:=e.1;omega)) fun q f p=>?_
 have MB:∀(c:cz) (o:List dW),fz c->o.length<=3->Gd (gM F0 (.exit 0) (kG c.1 c.2.1 c.2.2 a.1 a.2 ah 0 ah q.1.1.1 q.1.1.2.1 o [] q.1.1.2.2)) fun z:DrT cH=>aiy z.1.1/\fz z.2.1:=fun c o j l=>by
  rw[Hb];refine Dr.bind (ax j (n:=4) (by omega) (by omega)) fun y g m=>?_
  have r:Int.tdiv y.1.1 3=y.1.1/3:=aiE g.1;have t:=g.1;have u:=g.2;have v:=f.2.1;have w:=f.2.2;rw[r,aD (n:=q.1.1.1+1) (by omega) (by omega),aD (n:=y.1.1/3) (by omega) (by omega),aD (n:=q.1.1.1+1+y.1.1/3) (by omega) (by omega)];exact Gd.let (aaH (c:=(a.1,a.2)) (q:=q.1.1) f.1 (p8 (by omega) (by omega)) (by omega)) (Gd.ret ⟨aiz f.1,m⟩)
 refine eV (fun n i (z:cz×List dW)=>jO F0 (gM F0) n (gL i z.1.1 z.1.2.1 z.1.2.2 a.1 a.2 ah 0 ah q.1.1.1 q.1.1.2.1 z.2 [] q.1.1.2.2)) 3 (fun k z=>fz z.1/\z.2.length<=k) _ (fun n k z A d s=>?_) (fun n z d=>?_) F0.n 0 (q.2.1,[]) (a1 _) ⟨p,bq _⟩ (by rw[b1];omega)
 .try dsimp only
  have l:=d.2;rw[p0];refine Dr.bind (ax d.1 (n:=3) (by omega) (by omega)) fun x e b=>Gd.br (fun _=>?_) fun _=>?_
  .refine Dr.bind (p5 b) fun y g m=>Gd.ck (aC (by omega) (by omega) (by rw[b2];omega)) ?_
   rw[an (by omega)];exact s (y.2.1,z.2++[y.1.1]) ⟨m,by rw[aB,b2];omega⟩
  .exact MB x.2.1 z.2 b (by omega)
 .try dsimp only
  have l:=d.2;rw[p0];refine Dr.bind (ax d.1 (n:=3) (by omega) (by omega)) fun x e b=>?_
  refine Gd.br0 (a6 (by have:=e.2;show ¬(3:Int)<x.1.1;omega)) ?_;exact MB x.2.1 z.2 b l
def aoM {a:Int}(b:a<=8):0<nW a 4/\nW a 4<=8:=by unfold nW;split<;>omega
def Pl {c:cz}(h:fz c){a:Int×Int}(r:EK a):Dr (U:=ct) (eM F0 c a) ZK:=by
 unfold Dr;rw[JP];refine Dr.bind (p6 h) fun s t u=>?_
 have w:=t.1;have l:=na s.1.1.data.toList;have loop:∀(v:Int) (b:ByteArray) (c:cz),pg v->b.size<=20000->fz c->Gd (cM F0 (cP F0) F0.n (b6 0 c.1 c.2.1 c.2.2 a.1 a.2 0 ah v b [] [])) fun z:DrT ct=>ZK z.1.1/\fz z.2.1:=fun v b c l p A=>by
  have m:=aoM r.2;refine eV (fun n i (z:cz×List Int)=>cM F0 (cP F0) n (b6 i z.1.1 z.1.2.1 z.1.2.2 a.1 a.2 0 ah v b [] z.2)) 8 (fun k z=>fz z.1/\z.2.length<=k/\∀x∈z.2,pg x) _ (fun n k z E d B=>?_) (fun n z d=>?_) F0.n 0 (c,[]) (a1 _) ⟨A,bq _,fun x e=>by cases e⟩ (by rw[b1];omega)
  .try dsimp only
   have C:=d.2.1;rw[nI];refine Dr.bind (ax d.1 (n:=7) (by omega) (by omega)) fun x e f=>Gd.br (fun _=>?_) fun _=>?_
   .refine aix (Dr.bind (ax f (n:=nW a.1 4) m.1 (by have:=m.2;omega)) fun y o g=>Gd.let (CL (by omega) _) ?_);rw[an (by omega)];have F:=La z.2 y.1.1;refine B (y.2.1,I4 z.2 y.1.1) ⟨g,by dsimp only;omega,fun x e=>?_⟩;rcases afd.1 e with rfl|h
    .have:=o.1;have:=o.2;have:=m.2;exact p8 (by omega) (by omega)
    .exact d.2.2 x h
   .rw[pQ];exact Gd.ret ⟨⟨l,aL p (by omega),by show z.2.length<=100;omega,d.2.2⟩,f⟩
  .try dsimp only
   have C:=d.2.1;rw[nI];refine Dr.bind (ax d.1 (n:=7) (by omega) (by omega)) fun x e f=>?_
   refine Gd.br0 (a6 (by have:=e.2;have:=e.1;rw[aD (by omega) (by omega)];show ¬(8:Int)<1+x.1.1;omega)) ?_;rw[pQ];exact Gd.ret ⟨⟨l,aL p (by omega),by show z.2.length<=100;omega,d.2.2⟩,f⟩
 refine Gd.let (eT (aL w (by omega))) (Dr.bind (tg u (n:=4) (by omega) (by omega)) fun y o g=>?_);have ard:Gd ((af F0 y.2.1 4).bind fun j=>cM F0 (cP F0) F0.n (b6 0 j.2.1.1 j.2.1.2.1 j.2.1.2.2 a.1 a.2 0 ah (ak (1+j.1.1)) ah [] [])) fun z:DrT ct=>ZK z.1.1/\fz z.2.1 :=
  Dr.bind (ax g (n:=4) (by omega) (by omega)) fun z q D=>loop _ _ _ (agu (by have:=q.1;have:=q.2;exact p8 (by omega) (by omega))) (a1 _) D
 exact Gd.br (fun _=>ard) fun _=>Gd.br (fun _=>ard) fun _=>loop _ _ _ (p8 (by dsimp only;omega) (by dsimp only;omega)) (by omega) g
def S9 {c:cz}(h:fz c){f:Int×Int}(g:EK f):Dr (U:=ct) (mi F0 c f) ZK:=by
 unfold Dr;rw[Up];refine Dr.bind (Pl h g) fun q a i=>Dr.bind (ax i (n:=10) (by omega) (by omega)) fun y j e=>?_
 refine Gd.br (fun _=>?_) fun _=>Gd.br (fun _=>?_) fun _=>Gd.br (fun _=>?_) fun _=>Gd.ret ⟨a,e⟩
 .exact Dr.bind (bO e (by decide) (by decide)) fun z b d=>Gd.ret ⟨⟨T8 (by decide) b,a.s,a.w,a.i⟩,d⟩
 .exact Dr.bind (EL e (m:=7) (by omega) (by omega)) fun z b d=>Gd.ret ⟨⟨a.v,a.s,aL b.1 (by omega),b.2⟩,d⟩
 .exact Dr.bind (Za e) fun z b d=>Gd.ret ⟨⟨a.v,aL b (by omega),a.w,a.i⟩,d⟩
def ZK.s2 {q:ct}(h:ZK q):q.2.1.size<=1048576/\q.2.2.length<=1000:=⟨aL h.s (by omega),aL h.w (by omega)⟩
def ant {c:Int×Int}{l:List ct}(h:aaz l)(p:ct):aaz (cr c l p).1:=by
 unfold cr;split
 .rename_i a;exact v8 a.2
 .exact h
def ad2 {c:cz}(h:fz c){b:Int×Int}(o:EK b):Dr (U:=List ct) (k8 F0 c b) fun l=>l.length<=1001/\∀q∈l,Bs q:=by
 unfold Dr;rw[KC];have MB:∀(c:cz) (m:List ct),fz c->aaz m->Gd (fY F0 (.exit 0) (jS c.1 c.2.1 c.2.2 b.1 b.2 m)) fun z:DrT (List ct)=>(z.1.1.length<=1001/\∀q∈z.1.1,Bs q)/\fz z.2.1:=fun c m r g=>by
  have s:=g.1;rw[Gl];refine Dr.bind (tg r (n:=8) (by omega) (by omega)) fun y p d=>Gd.br (fun _=>?_) fun _=>Gd.ret ⟨⟨aL s (by omega),fun q j=>g.l j⟩,d⟩
  refine Dr.bind (S9 d o) fun z t u=>Gd.ck (aC (by omega) (by omega) (by rw[b2];omega)) (Gd.ret ⟨⟨by rw[aB,b2];omega,fun q j=>?_⟩,u⟩)
  rcases en.1 j with h|h
  .exact g.l h
  .rw[fA.1 h];exact t.l
 refine eV (fun n i (z:cz×List ct)=>hU F0 (fY F0) n (fX i z.1.1 z.1.2.1 z.1.2.2 b.1 b.2 z.2)) 5 (fun k z=>fz z.1/\aaz z.2) _ (fun n k z w a v=>?_) (fun n z a=>?_) F0.n 0 (c,[]) (a1 _) ⟨h,a1 _,fun x e=>by cases e⟩ (by rw[b1];omega)
 .try dsimp only
  rw[nU];refine Dr.bind (ax a.1 (n:=5) (by omega) (by omega)) fun x e f=>Gd.br (fun _=>?_) fun _=>MB x.2.1 z.2 f a.2
  refine Dr.bind (Pl f o) fun y p d=>Gd.let (ti a.2 p.s2 _) ?_
  rw[an (by omega)];exact v (y.2.1,_) ⟨d,ant a.2 _⟩
 .try dsimp only
  rw[nU];refine Dr.bind (ax a.1 (n:=5) (by omega) (by omega)) fun x e f=>?_
  refine Gd.br0 (a6 (by have:=e.2;show ¬(5:Int)<x.1.1;omega)) ?_;exact MB x.2.1 z.2 f a.2
def are {c:Int×Int}{s:bC}(h:Lx s)(q:ct):Lx (see c s q):=by
 by_cases a:cl c s=true/\fg c q=true
 .exact agt (amT a.1 q)
 .unfold see;rw[ag a];exact h
def aql {c:Int×Int}{s:bC}(h:Lx s)(b:cH):Lx (ahT c s b).1:=by
 unfold ahT;split
 .have:=na b.1.data.toList;exact⟨p8 (by dsimp only;omega) (by dsimp only;omega),h.k,h.q,h.d⟩
 .exact h
def ala:Lx ln:=⟨p8 (by decide) (by decide),p8 (by decide) (by decide),ans,a1 _⟩
def ZG {c:cz}(h:fz c){a:Int×Int}(o:EK a):Dr (U:=bC) (gN F0 c a) Lx:=by
 unfold Dr;rw[Kz,Iw,av];refine eV (fun n i (z:cz×bC)=>ff F0 (kH F0) n (ed i z.1.1 z.1.2.1 z.1.2.2 a.1 a.2 0 0 0 ah ah z.2.1 z.2.2.1 z.2.2.2.1.1 z.2.2.2.1.2.1 z.2.2.2.2 [] z.2.2.2.1.2.2)) 5 (fun k z=>fz z.1/\Lx z.2) _ (fun n k z q d j=>?_) (fun n z d=>?_) F0.n 0 (c,ln) (a1 _) ⟨h,ala⟩ (by rw[b1];omega)
 .try dsimp only
  rw[nT];refine Dr.bind (ax d.1 (n:=5) (by omega) (by omega)) fun x l e=>Gd.br (fun _=>?_) fun _=>?_
  .refine Dr.bind (agw e o) fun b f p=>Gd.let (VV (s:=z.2) d.2.l f.2.l (a.1,a.2)) (Dr.bind (tg p (n:=3) (by omega) (by omega)) fun y r m=>?_)
   have g:=are (c:=(a.1,a.2)) d.2 b.1.1.2;rw[an (by omega)];refine Gd.br (fun _=>Gd.let (afP g.l f.1 f.2.l _) ?_) fun _=>?_
   .exact j (y.2.1,(ahT (a.1,a.2) (see (a.1,a.2) z.2 b.1.1.2) b.1.1).1) ⟨m,aql g _⟩
   .exact j (y.2.1,see (a.1,a.2) z.2 b.1.1.2) ⟨m,g⟩
  .rw[p1];exact Gd.ret ⟨d.2,e⟩
 .try dsimp only
  rw[nT];refine Dr.bind (ax d.1 (n:=5) (by omega) (by omega)) fun x l e=>?_
  refine Gd.br0 (a6 (by have:=l.2;show ¬(5:Int)<x.1.1;omega)) ?_;rw[p1];exact Gd.ret ⟨d.2,e⟩
def alb {c:cz}(h:fz c){f:Int×Int}(g:EK f):Dr (U:=bC) (A0 F0 c f) Lx:=by
 unfold Dr;rw[Vi];refine Dr.bind (ZG h g) fun s a cs=>Dr.bind (ax cs (n:=10) (by omega) (by omega)) fun y i e=>?_
 refine Gd.br (fun _=>?_) fun _=>Gd.br (fun _=>?_) fun _=>Gd.br (fun _=>?_) fun _=>Gd.br (fun _=>?_) fun _=>Gd.ret ⟨a,e⟩
 .exact Dr.bind (bO e (by decide) (by decide)) fun z b d=>Gd.ret ⟨⟨T8 (by decide) b,a.k,a.q,a.d⟩,d⟩
 .exact Dr.bind (bO e (by decide) (by decide)) fun z b d=>Gd.ret ⟨⟨a.v,T8 (by decide) b,a.q,a.d⟩,d⟩
 .exact Dr.bind (Za e) fun z b d=>Gd.ret ⟨⟨a.v,a.k,a.q,aL b (by omega)⟩,d⟩
 .exact Dr.bind (agv e g) fun z b d=>Gd.ret ⟨⟨a.v,a.k,b,a.d⟩,d⟩
def aiA {c:cz}(h:fz c){j:Int×Int}(a:EK j):Dr (U:=cq) (ld F0 c j) iX:=by
 unfold Dr;rw[KG];refine Dr.bind (ax h (n:=4) (by omega) (by omega)) fun x s d=>?_
 refine Gd.br (fun _=>?_) fun _=>Gd.br (fun _=>?_) fun _=>Gd.br (fun _=>?_) fun _=>?_
 .exact Dr.bind (agw d a) fun b g k=>Gd.ret ⟨Pd g.1 g.2.l,k⟩
 .refine Dr.bind (Pl d a) fun q e f=>Gd.br (fun _=>?_) fun _=>Gd.ret ⟨LZ e.l,f⟩
  refine S6 (up:=ah) (a1 _) (p8 (by decide) (by decide)) (a1 _) fun b g=>Gd.ret ⟨LZ (p:=(1,b,q.1.1.2.2)) ⟨by show b.size<=_;omega,e.l.2⟩,f⟩
 .refine Dr.bind (ax d (n:=6) (by omega) (by omega)) fun y l i=>Dr.bind (p6 i) fun t m o=>Dr.bind (ad1 o a (by have:=m.1;omega)) fun q e f=>Dr.bind (ak9 f (by have:=a.2;omega)) fun z u r=>Gd.ret ⟨LY e.1.l _,r⟩
 .exact Dr.bind (p5 d) fun y l i=>Gd.ret ⟨⟨a1 _,dr,dr,dr⟩,i⟩
def abP {c:cz}(h:fz c){f:Int×Int}(g:EK f):Dr (U:=cq) (sO F0 c f) iX:=by
 unfold Dr;rw[Vm];refine Dr.bind (aiA h g) fun m b i=>Dr.bind (ax i (n:=12) (by omega) (by omega)) fun y j d=>?_
 refine Gd.br (fun _=>?_) fun _=>Gd.br (fun _=>?_) fun _=>Gd.br (fun _=>?_) fun _=>Gd.br (fun _=>?_) fun _=>Gd.br (fun _=>?_) fun _=>Gd.ret ⟨b,d⟩
 .exact Dr.bind (ax d (n:=7) (by omega) (by omega)) fun z e a=>Gd.ret ⟨b,a⟩
 .exact Dr.bind (bO d (by decide) (by decide)) fun z e a=>Gd.ret ⟨b,a⟩
 .exact Dr.bind (bO d (by decide) (by decide)) fun z e a=>Gd.ret ⟨b,a⟩
 .exact Dr.bind (S9 d g) fun z e a=>Gd.ret ⟨⟨b.1,b.2.1,e.l,b.2.2.2⟩,a⟩
 .exact Dr.bind (Y7 d) fun z e a=>Gd.ret ⟨b,a⟩
def aoN (n:Int):0<=IntKind.wrap .u8 n/\IntKind.wrap .u8 n<=255:=by rw[IntKind.wrap_u8];omega
def agx {c:cz}(h:fz c):Dr (U:=List Int) (o9 F0 c) fun l=>l.length<=100/\∀x∈l,0<=x/\x<=255:=by
 unfold Dr;rw[OI];have MB:∀(c:cz) (f:List Int),fz c->f.length<=50->(∀x∈f,0<=x/\x<=255)->Gd (hW F0 (.exit 0) (lR c.1 c.2.1 c.2.2 f)) fun z:DrT (List Int)=>(z.1.1.length<=100/\∀x∈z.1.1,0<=x/\x<=255)/\fz z.2.1:=fun c f j g a=>by
  rw[IX];refine Dr.bind (tg j (n:=3) (by omega) (by omega)) fun y m d=>Gd.br (fun _=>?_) fun _=>Gd.ret ⟨⟨aL g (by omega),a⟩,d⟩
  refine Dr.bind (bO d (by decide) (by decide)) fun z s o=>Dr.bind (ax o (n:=3) (by omega) (by omega)) fun w t p=>Gd.ck (aC (by omega) (by omega) (by simp;omega)) (Gd.ret ⟨⟨by rw[aB];simp;omega,fun x q=>?_⟩,p⟩)
  rcases en.1 q with h|h
  .exact a x h
  .simp only[c7,Te,Ja]at h;rcases h with rfl|rfl<;>exact aoN _
 refine eV (fun n i (z:cz×List Int)=>lb F0 (hW F0) n (hV i z.1.1 z.1.2.1 z.1.2.2 z.2)) 4 (fun k z=>fz z.1/\z.2.length<=10*k/\∀x∈z.2,0<=x/\x<=255) _ (fun n k z u b r=>?_) (fun n z b=>?_) F0.n 0 (c,[]) (a1 _) ⟨h,a1 _,fun x a=>by cases a⟩ (by rw[b1];omega)
 .try dsimp only
  have g:=b.2.1;rw[sN];refine Dr.bind (ax b.1 (n:=4) (by omega) (by omega)) fun x a e=>Gd.br (fun _=>?_) fun _=>MB x.2.1 z.2 e (by omega) b.2.2
  refine Dr.bind (bO e (by decide) (by decide)) fun y m d=>Gd.let (e9 _) ?_
  have v:=cm y.1.1;refine Gd.ck (aC (by omega) (by omega) (by dsimp only;omega)) ?_;rw[an (by omega)];refine r (y.2.1,z.2++ay y.1.1) ⟨d,by rw[aB];omega,fun x a=>?_⟩;rcases en.1 a with h|h
  .exact b.2.2 x h
  .exact dw _ x h
 .try dsimp only
  have g:=b.2.1;rw[sN];refine Dr.bind (ax b.1 (n:=4) (by omega) (by omega)) fun x a e=>?_
  refine Gd.br0 (a6 (by have:=a.2;show ¬(4:Int)<x.1.1;omega)) ?_;exact MB x.2.1 z.2 e (by omega) b.2.2
def aoO {c:cz}(h:fz c):Dr (U:=tQ) (A1 F0 c) fun d=>ep d.1:=by
 unfold Dr;rw[Vk];refine Dr.bind (agx h) fun x a j=>?_
 have k:=a.1;refine Gd.ck (aC (by omega) (by omega) (by omega)) ?_;rw[nD];have g:ep x.1.1:=⟨by omega,a.2⟩;have el:ak ((x.1.1.length:Int)+1)=(x.1.1.length:Int)+1:=aD (by omega) (by omega);rw[el];obtain⟨⟨b,u⟩,m,o⟩:=x;dsimp only at k a g j ⊢;refine Gd.bind (ax j (n:=(b.length:Int)+1) (by omega) (by omega)) fun y l=>?_
 refine Gd.bind (ax l.2 (n:=12) (by omega) (by omega)) fun z i=>?_
 refine Gd.br (fun _=>?_) fun _=>Gd.br (fun _=>?_) fun _=>Gd.ret ⟨g,i.2⟩
 .exact Gd.bind (bO i.2 (by decide) (by decide)) fun v f=>Gd.ret ⟨g,f.2⟩
 .refine Gd.bind (ax i.2 (n:=2) (by omega) (by omega)) fun v f=>?_
  have p:=f.1.1;have q:=f.1.2;have e:ak (100000+v.1.1)=((100000+v.1.1.toNat:Nat):Int):=by rw[aD (by omega) (by omega)];omega
  rw[e];refine Gd.ck (al5 (by omega) (by omega) (by omega)) (Gd.ret ⟨⟨?_,fun x a=>?_⟩,f.2⟩)
  .show(List.replicate _ (0:Int)).length<=_;rw[List.length_replicate];omega
  .have:=List.eq_of_mem_replicate a;omega
def T9 (l:List dW)(x:dW):(lq l x).1.length<=l.length+1:=by
 unfold lq;split
 .exact Rw (Lq x l)
 .exact Nat.le_succ _
def alc {c:cz}(h:fz c):Dr (U:=List dW) (mO F0 c) fun l=>l.length<=9:=by
 unfold Dr;rw[Mo];refine eV (fun n i (z:cz×List dW)=>jR F0 (lQ F0) n (gO i z.1.1 z.1.2.1 z.1.2.2 z.2)) 9 (fun k z=>fz z.1/\z.2.length<=k) _ (fun n k z g a e=>?_) (fun n z a=>?_) F0.n 0 (c,[]) (a1 _) ⟨h,bq _⟩ (by rw[b1];omega)
 .try dsimp only
  have j:=a.2;rw[p2];refine Dr.bind (ax a.1 (n:=9) (by omega) (by omega)) fun x d b=>Gd.br (fun _=>?_) fun _=>?_
  .refine Dr.bind (p5 b) fun y m f=>Gd.let (Lr (by omega) _) ?_
   rw[an (by omega)];have o:=T9 z.2 y.1.1;exact e (y.2.1,(lq z.2 y.1.1).1) ⟨f,by dsimp only;omega⟩
  .rw[sM];exact Gd.ret ⟨by show z.2.length<=9;omega,b⟩
 .try dsimp only
  rw[p2];refine Dr.bind (ax a.1 (n:=9) (by omega) (by omega)) fun x d b=>?_
  refine Gd.br0 (a6 (by have:=d.2;show ¬(9:Int)<x.1.1;omega)) ?_;rw[sM];exact Gd.ret ⟨a.2,b⟩
def anu {c:cz}(h:fz c):Dr (U:=List dW) (Eo F0 c) fun l=>l.length<=1000:=by
 unfold Dr;rw[Yk];refine Dr.bind (alc h) fun p d e=>Dr.bind (ax e (n:=8) (by omega) (by omega)) fun y r b=>?_
 refine Gd.br (fun _=>?_) fun _=>Gd.br (fun _=>?_) fun _=>Gd.ret ⟨aL d (by omega),b⟩
 .exact Dr.bind (Y7 b) fun z s f=>Gd.ck (aC (by omega) (by omega) (by rw[b2];omega)) (Gd.ret ⟨by show(p.1.1++[z.1.1]).length<=1000;rw[aB,b2];omega,f⟩)
 .refine eV (fun n i (z:List dW)=>vR F0 (o8 F0) n (o7 i y.2.1.1 y.2.1.2.1 y.2.1.2.2 z)) 4 (fun k z=>z.length<=9+4*k) _ (fun n k z t g j=>?_) (fun n z g=>?_) F0.n 0 p.1.1 (a1 _) (by omega) (by rw[b1];omega)
  .rw[CC,aW (show(k:Int)<4 by omega),ae];refine eV (fun m a (x:List dW)=>vQ F0 (yy F0 (o8 F0) n) m (o6 (k:Int) a y.2.1.1 y.2.1.2.1 y.2.1.2.2 x)) 4 (fun a x=>x.length<=9+4*k+a) _ (fun m a x u o q=>?_) (fun m x o=>?_) F0.n 0 z (a1 _) (by omega) (by rw[b1];omega)
   .rw[CB,aW (show(a:Int)<4 by omega),ae];refine Gd.let (Lr (by omega) _) ?_;rw[an (by omega)];have d:=T9 x ((k:Int),0,0,(a:Int));exact q _ (by dsimp only;omega)
   .rw[CB,a6 (show ¬((4:Nat):Int)<4 by omega),aa,QC,an (by omega)];exact j x (by omega)
  .rw[CC,a6 (show ¬((4:Nat):Int)<4 by omega),aa,QD];exact Gd.ret ⟨by show z.length<=1000;omega,b⟩
def aoP {c:cz}(h:fz c):Dr (U:=List eb) (mQ F0 c) fun l=>l.length<=8/\∀x∈l,x.2.1.size<=100000:=by
 unfold Dr;rw[Ms];refine eV (fun n i (z:cz×List eb)=>jV F0 (lS F0) n (gP i z.1.1 z.1.2.1 z.1.2.2 z.2)) 8 (fun k z=>fz z.1/\z.2.length<=k/\∀x∈z.2,x.2.1.size<=100000) _ (fun n k z o a g=>?_) (fun n z a=>?_) F0.n 0 (c,[]) (a1 _) ⟨h,bq _,fun x b=>by cases b⟩ (by rw[b1];omega)
 .try dsimp only
  have p:=a.2.1;rw[p3];refine Dr.bind (ax a.1 (n:=8) (by omega) (by omega)) fun x b d=>Gd.br (fun _=>?_) fun _=>?_
  .refine Dr.bind (p6 d) fun e f j=>Gd.let (eT (aL f.1 (by omega))) (Dr.bind (ax j (n:=4) (by omega) (by omega)) fun y q m=>Gd.ck (aC (by omega) (by omega) (by rw[b2];omega)) ?_)
   rw[an (by omega)];refine g (y.2.1,z.2++[(bE e.1.1.data.toList,e.1.1,y.1.1)]) ⟨m,by rw[aB,b2];omega,fun x b=>?_⟩;rcases en.1 b with h|h
   .exact a.2.2 x h
   .rw[fA.1 h];exact aL f.1 (by omega)
  .rw[sQ];exact Gd.ret ⟨⟨by show z.2.length<=8;omega,a.2.2⟩,d⟩
 .try dsimp only
  rw[p3];refine Dr.bind (ax a.1 (n:=8) (by omega) (by omega)) fun x b d=>?_
  refine Gd.br0 (a6 (by have:=b.2;show ¬(8:Int)<x.1.1;omega)) ?_;rw[sQ];exact Gd.ret ⟨a.2,d⟩
def agy (c:Int×Int)(m:cq):ep (Zh c m):=by
 unfold Zh;split
 .rename_i h;have:=O9 h;exact⟨aL this.1 (by omega),this.2.1⟩
 .exact⟨a1 _,fun x a=>by cases a⟩
def agz {c:cz}(h:fz c):Dr (U:=aq) (gK F0 c) aU:=by
 unfold Dr;rw[Kw];refine Dr.bind (anl h) fun w e f=>Dr.bind (ax f (n:=45) (by omega) (by omega)) fun m b g=>?_
 have m0:=b.1;have m1:=b.2;refine eV (fun n i (z:cz×aq)=>hM F0 (kE F0) n (fW m.1.1 i z.1.1 z.1.2.1 z.1.2.2 0 0 z.2.1.1 z.2.1.2 [] [] [] [] z.2.2.1 z.2.2.2.1 z.2.2.2.2.1 z.2.2.2.2.2)) m.1.1.toNat (fun k z=>fz z.1/\aU z.2) _ (fun n k z p a j=>?_) (fun n z a=>?_) F0.n 0 (m.2.1,w.1.1) (a1 _) ⟨g,e.g⟩ (by rw[b1];omega)
 .try dsimp only
  rw[nS,aW (show(k:Int)<m.1.1 by omega),ae];refine Dr.bind (aoL a.1 a.2) fun d l o=>Gd.let (agm a.2 l.1) ?_
  rw[an (by omega)];exact j (d.2.1,agl z.2 d.1.1) ⟨o,a.2.ar8 _⟩
 .try dsimp only
  rw[nS,a6 (show ¬((m.1.1.toNat:Nat):Int)<m.1.1 by omega),aa,Gg];exact Gd.ret ⟨a.2,a.1⟩
abbrev DrR:=((Int×Int)×au×Unit)×(cz×Unit)
def aoQ {c:cz}(h:fz c):Gd (k7 F0 c) fun z:DrR=>(EK z.1.1/\ags z.1.2.1/\z.1.2.1.2.2.2.2.2.2.2.length<=30)/\fz z.2.1:=by
 rw[Kx];refine Dr.bind (agz h) fun w b e=>?_
 have g:=b.le7;refine Dr.bind (ax e (n:=(w.1.1.2.2.1.length:Int)) (by omega) (by omega)) fun y a f=>Gd.ck (gS a.1 a.2) ?_
 have d:=b.rep a.1 a.2;refine Gd.ret ⟨⟨Ly b.c,?_,?_⟩,f⟩
 .show ags (bd w.1.1.2.2.1 y.1.1 _);rw[Bf a.1 a.2];exact d.1.x
 .show(bd w.1.1.2.2.1 y.1.1 _).2.2.2.2.2.2.2.length<=30;rw[Bf a.1 a.2];exact d.1.f.n
def anv {c:cz}(h:fz c):Gd (sP F0 c) fun z:DrR=>ags z.1.2.1/\fz z.2.1:=by
 rw[Vn];refine Gd.bind (aoQ h) fun r j=>?_
 obtain⟨⟨i,⟨⟨b,g⟩,a⟩,s⟩,k⟩:=j;refine Dr.bind (ax k (n:=16) (by omega) (by omega)) fun y t f=>?_
 refine Gd.br (fun _=>?_) fun _=>Gd.br (fun _=>?_) fun _=>Gd.br (fun _=>?_) fun _=>Gd.br (fun _=>?_) fun _=>Gd.br (fun _=>?_) fun _=>Gd.br (fun _=>?_) fun _=>Gd.br (fun _=>?_) fun _=>Gd.br (fun _=>?_) fun _=>Gd.ret ⟨⟨⟨b,g⟩,a⟩,f⟩
 .exact Dr.bind (bO f (by decide) (by decide)) fun z d e=>Gd.ret ⟨⟨⟨⟨b.s,b.p,b.t,b.tq,b.h,b.hm⟩,g⟩,⟨T8 (by decide) d,a.i2,a.i3,a.i4,a.i5,a.d,a.p,a.t,a.h⟩⟩,e⟩
 .exact Dr.bind (bO f (by decide) (by decide)) fun z d e=>Gd.ret ⟨⟨⟨⟨b.s,b.p,b.t,b.tq,b.h,b.hm⟩,g⟩,⟨a.i1,T8 (by decide) d,a.i3,a.i4,a.i5,a.d,a.p,a.t,a.h⟩⟩,e⟩
 .exact Dr.bind (bO f (by decide) (by decide)) fun z d e=>Gd.ret ⟨⟨⟨⟨b.s,b.p,b.t,b.tq,b.h,b.hm⟩,g⟩,⟨a.i1,a.i2,a.i3,a.i4,a.i5,a.d,a.p,a.t,a.h⟩⟩,e⟩
 .exact Dr.bind (alb f i) fun z d e=>Gd.ret ⟨⟨⟨⟨d.l,b.p,b.t,b.tq,b.h,b.hm⟩,g⟩,⟨a.i1,a.i2,d.v,d.k,d.q.v,d.l.2,a.p,a.t,a.h⟩⟩,e⟩
 .exact Dr.bind (anu f) fun z d e=>Gd.ret ⟨⟨⟨⟨b.s,aL d (by omega),b.t,b.tq,b.h,b.hm⟩,g⟩,⟨a.i1,a.i2,a.i3,a.i4,a.i5,a.d,aL d (by omega),a.t,a.h⟩⟩,e⟩
 .exact Dr.bind (ad2 f i) fun z d e=>Gd.ret ⟨⟨⟨⟨b.s,b.p,aL d.1 (by omega),d.2,b.h,b.hm⟩,g⟩,⟨a.i1,a.i2,a.i3,a.i4,a.i5,a.d,a.p,aL d.1 (by omega),a.h⟩⟩,e⟩
 .exact Dr.bind (aoO f) fun z d e=>Gd.ret ⟨⟨⟨⟨b.s,b.p,b.t,b.tq,b.h,b.hm⟩,d⟩,⟨a.i1,a.i2,a.i3,a.i4,a.i5,a.d,a.p,a.t,a.h⟩⟩,e⟩
 .refine Dr.bind (ax f (n:=5) (by omega) (by omega)) fun z d e=>Dr.bind (abP e i) fun m l o=>Gd.ck (aC (by omega) (by omega) (by rw[b2];omega)) (Gd.ret ⟨⟨⟨⟨b.s,b.p,b.t,b.tq,?_,fun p q=>?_⟩,g⟩,⟨a.i1,a.i2,a.i3,a.i4,a.i5,a.d,a.p,a.t,?_⟩⟩,o⟩)
  .show(_++[_]).length<=1048576;rw[aB,b2];omega
  .rcases en.1 q with h|h
   .exact b.hm p h
   .rw[fA.1 h];exact l
  .show(_++[_]).length<=1048576;rw[aB,b2];omega
def ad3 {U:Type}{P:U->Prop}{l:List U}{k:Nat}{v:U}(a:∀x∈l,P x)(b:P v):∀x∈l.set k v,P x:=fun x c=>by
 rcases agG c with h|h
 .exact a x h
 .rw[h];exact b
def anw {c:cz}(h:fz c):Dr (U:=aq) (A2 F0 c) fun w=>S8 w/\EK w.1:=by
 unfold Dr;rw[Vo];refine Dr.bind (agz h) fun w i p=>Dr.bind (ax p (n:=20) (by omega) (by omega)) fun y u g=>?_
 have v:=i.le7;have a:=i.x;have A:=a.l;have d:=Ly i.c;have B:=i.nl;have C:=i.sl;refine Gd.br (fun _=>?_) fun _=>Gd.br (fun _=>?_) fun _=>Gd.br (fun _=>?_) fun _=>Gd.br (fun _=>?_) fun _=>Gd.br (fun _=>?_) fun _=>Gd.br (fun _=>?_) fun _=>Gd.br (fun _=>?_) fun _=>Gd.ret ⟨⟨a,d⟩,g⟩
 .exact Dr.bind (anr g) fun z b f=>Gd.ret ⟨⟨⟨a.l,a.r,a.rx,a.n,a.nb,a.s,a.st⟩,b⟩,f⟩
 .exact Dr.bind (EL g (m:=4) (by omega) (by omega)) fun z b f=>Gd.ret ⟨⟨⟨aL b.1 (by omega),a.r,a.rx,a.n,a.nb,a.s,a.st⟩,d⟩,f⟩
 .refine Gd.bind (anv g) fun z b=>Gd.ck (gS (by omega) (by omega)) (Gd.ret ⟨⟨⟨a.l,?_,ad3 a.rx b.1,a.n,a.nb,a.s,a.st⟩,d⟩,b.2⟩)
  show(w.1.1.2.2.1.set _ _).length<=100;rw[Th];omega
 .refine Dr.bind (ax g (n:=8) (by omega) (by omega)) fun z b f=>Dr.bind (abP f d) fun m q r=>Gd.let (Ri q _) (Gd.ck (aC (by omega) (by omega) (by rw[b2];omega)) (Gd.ret ⟨⟨⟨a.l,a.r,a.rx,?_,fun x j=>?_,a.s,a.st⟩,d⟩,r⟩))
  .show(_++[_]).length<=1000;rw[aB,b2];omega
  .rcases en.1 j with h|h
   .exact a.nb x h
   .rw[fA.1 h];exact agy _ _
 .refine Dr.bind (aoP g) fun z b f=>Gd.ck (aC (by omega) (by omega) (by have:=b.1;omega)) (Gd.ret ⟨⟨⟨a.l,a.r,a.rx,a.n,a.nb,?_,fun x j=>?_⟩,d⟩,f⟩)
  .show(w.1.1.2.2.2.2++z.1.1).length<=1000;rw[aB];have:=b.1;omega
  .rcases en.1 j with h|h
   .exact a.st x h
   .exact b.2 x h
 .refine Dr.bind (ZG g d) fun z b f=>Gd.ck (gS (by omega) (by omega)) (Gd.ret ⟨⟨⟨a.l,?_,ad3 a.rx ?_,a.n,a.nb,a.s,a.st⟩,d⟩,f⟩)
  .show(w.1.1.2.2.1.set _ _).length<=100;rw[Th];omega
  .have o:1<w.1.1.2.2.1.length:=by omega
   have s:ags (bd w.1.1.2.2.1 1 TY):=by rw[show(1:Int)=((1:Nat):Int) from rfl,cB o];exact a.rx _ (dH o)
   obtain⟨⟨k,t⟩,l⟩:=s;exact⟨⟨⟨b.l,k.p,k.t,k.tq,k.h,k.hm⟩,t⟩,⟨l.i1,l.i2,b.v,b.k,b.q.v,b.l.2,l.p,l.t,l.h⟩⟩
 .have e:ak ((w.1.1.2.2.1.length:Int)-1)=((w.1.1.2.2.1.length-1:Nat):Int):=by rw[aD (by omega) (by omega)];omega
  rw[e];refine Gd.ck (by simp[okT]<;>omega) (Gd.ret ⟨⟨⟨a.l,?_,fun x j=>a.rx x (Bw j),a.n,a.nb,a.s,a.st⟩,d⟩,g⟩);show(w.1.1.2.2.1.take _).length<=100;rw[bQ];omega
end Go.Am.Tryz
