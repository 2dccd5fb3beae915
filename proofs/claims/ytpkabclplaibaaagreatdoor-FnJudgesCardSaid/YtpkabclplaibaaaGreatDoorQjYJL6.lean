/- No condition. -/
import Derived.Test.YtpkabclplaibaaaGreatDoorQjYJL5
set_option linter.all false
namespace Go.Am.Tryz
open Go.Am
def JC {n:Int}(a:-10000000000<=n)(b:n<=10000000000):Hx n:=⟨by omega,by omega⟩
def ang {l:List Int}(a:l.all (fun x=>decide (-10000000000<=x)&&decide (x<=10000000000))=true){v:Int}(h:v∈l):Hx v:=by rw[fL]at a;have:=a v h;rw[aD,bJ,bJ]at this;exact JC this.1 this.2
def LX (c:Int×Int):Prop:=-1<=c.1/\c.1<=8
def akD {c:Int×Int}(h:bq c=true):LX c:=by have:=ch h;exact⟨by omega,by omega⟩
def azK {c:cW}(h:iP c):Dr (U:=Int×Int) (tS F0 c) LX:=by
 unfold Dr;rw[X1];refine Dr.bind (arq h) fun x f g=>Dr.bind (aF g (n:=12) (by omega) (by omega)) fun y i b=>?_
 have e:=akD f;refine Gd.br (fun _=>?_) fun _=>Gd.br (fun _=>?_) fun _=>Gd.ret ⟨e,b⟩
 .refine Dr.bind (cn b (by decide) (by decide)) fun z a d=>Gd.ret ⟨?_,d⟩
  have a:=a;simp only[dK,agy,or_false]at a;show -1<=z.1.1/\z.1.1<=8;omega
 .exact Dr.bind (cn b (by decide) (by decide)) fun z a d=>Gd.ret ⟨e,d⟩
def axs {c:cW}(h:iP c){n:Int}(b:n<=9223372036854775807):Dr (U:=Int) (af F0 c n) fun v=>0<=v/\(v<n\/v=0):=by
 by_cases d:0<n
 .refine Gd.mono (aF h d b) fun v a=>⟨⟨a.1.1,.inl a.1.2⟩,a.2⟩
 .unfold Dr;rw[Ej];exact Gd.br1 (aS (by omega)) (Gd.ret ⟨⟨Pt _,.inr rfl⟩,h⟩)
def Uk {c:cW}(h:iP c){m:Int}(l:0<m)(t:m<=256):Dr (U:=List Int) (kT F0 c m) fun v=>v.length<=9/\∀x∈v,Hx x:=by
 unfold Dr;rw[Zv];have Rw:∀(c:cW) (g:List Int),iP c->g.length<=8->(∀x∈g,Hx x)->Gd (l2 F0 (.exit 0) (rU c.1 c.2.1 c.2.2 g)) fun z:DrT (List Int)=>(z.1.1.length<=9/\∀x∈z.1.1,Hx x)/\iP z.2.1:=fun c g o d a=>by
  rw[RW];refine Dr.bind (yX o (n:=12) (by omega) (by omega)) fun y j e=>Gd.br (fun _=>?_) fun _=>Gd.ret ⟨⟨aR d (by omega),a⟩,e⟩
  refine Dr.bind (cn e (by decide) (by decide)) fun z p q=>Gd.ck (aE (by omega) (by omega) (by rw[ej];omega)) (Gd.ret ⟨⟨by rw[aW,ej];omega,fun x r=>?_⟩,q⟩)
  rcases fM.1 r with h|h
  .exact a x h
  .rw[h7.1 h];exact ang (by decide) p
 refine hG (fun n i (z:cW×List Int)=>pS F0 (l2 F0) n (l1 m i z.1.1 z.1.2.1 z.1.2.2 z.2)) 8 (fun k z=>iP z.1/\z.2.length<=k/\∀x∈z.2,Hx x) _ (fun n k z u b s=>?_) (fun n z b=>?_) F0.n 0 (c,[]) (aX _) ⟨h,bu _,fun x a=>by cases a⟩ (by rw[bj];omega)
 .try dsimp only
  have d:=b.2.1;rw[y8];refine Dr.bind (aF b.1 (n:=8) (by omega) (by omega)) fun x a f=>Gd.br (fun _=>?_) fun _=>?_
  .refine Dr.bind (aF f l (by omega)) fun y j e=>Gd.let (Jr (by omega) _) ?_
   rw[ag (by omega)];have w:=TQ z.2 y.1.1;refine s (y.2.1,Rf z.2 y.1.1) ⟨e,by dsimp only;omega,fun x a=>?_⟩;rcases aqU.1 a with rfl|h
   .have:=j.1;have:=j.2;exact JC (by omega) (by omega)
   .exact b.2.2 x h
  .exact Rw x.2.1 z.2 f (by omega) b.2.2
 .try dsimp only
  have d:=b.2.1;rw[y8];refine Dr.bind (aF b.1 (n:=8) (by omega) (by omega)) fun x a f=>?_
  refine Gd.br0 (aT (by have:=a.2;show ¬(8:Int)<x.1.1;omega)) ?_;exact Rw x.2.1 z.2 f d b.2.2
def QcV (q:b0):Prop:=QcX q/\0<=q.1/\q.1<=60
def apI {c:cW}(h:iP c){d:Int×Int}(o:LX d){name:ByteArray}(j:name.size<=20200):Dr (U:=b0) (nD F0 c d name) QcV:=by
 unfold Dr;rw[abO];have p:=rA name.data.toList;refine Gd.let (gv (aR j (by omega))) (Gd.br (fun _=>Gd.ret ⟨⟨⟨JC (by dsimp only;omega) (by dsimp only;omega),aR j (by omega),aX _,fun x a=>by cases a⟩,p⟩,h⟩) fun _=>?_);dsimp only;have B:=o.1;have C:=o.2;have Rw:∀(b:List Int),b.length<=8->(∀x∈b,Hx x)->Gd (n4 F0 (.exit 0) (ux c.1 c.2.1 c.2.2 0 ai (bm name.data.toList) name [] b)) fun z:DrT b0=>QcV z.1.1/\iP z.2.1:=fun b q a=>by
  rw[U2];have l:∀g:List Int,g.length<=100->(∀x∈g,Hx x)->QcV (bm name.data.toList,name,g):=fun g u v=>⟨⟨JC (by dsimp only;omega) (by dsimp only;omega),aR j (by omega),u,v⟩,p⟩
  refine Dr.bind (yX h (n:=2) (by omega) (by omega)) fun y D m=>Gd.br (fun _=>Gd.br (fun r=>?_) fun _=>Gd.ret ⟨l b (by omega) a,m⟩) fun _=>Gd.ret ⟨l b (by omega) a,m⟩
  have r:=C2 r;refine Dr.bind (aF m (n:=(b.length:Int)) (by omega) (by omega)) fun z s w=>?_
  have E:=s.1;have F:=s.2;have e:ak (z.1.1+1)=z.1.1+1:=aB (by omega) (by omega);have G:(b.take z.1.1.toNat).length<=8:=by rw[cp];omega
  have H:((b.take (b.length:Int).toNat).drop (ak (z.1.1+1)).toNat).length<=8:=by rw[b7,cp];omega
  refine Gd.ck (by simp[okT]<;>omega) (Gd.ck (YF (by rw[e];omega) (by rw[e];omega) (Pt _)) (Gd.ck (aE (by omega) (by omega) (by omega)) (Gd.ck (aE (by omega) (by omega) (by rw[vr];omega)) (Gd.ret ⟨l _ ?_ fun x t=>?_,w⟩))))
  .rw[aW,vr];omega
  .rw[vr]at t;rcases fM.1 t with h|h
   .exact a x (VC h)
   .exact a x (VC (anp h))
 refine hG (fun n i (z:List Int)=>sU F0 (n4 F0) n (n3 i c.1 c.2.1 c.2.2 d.1 d.2 0 ai (bm name.data.toList) name [] z)) d.1.toNat (fun k z=>z.length<=k/\∀x∈z,Hx x) _ (fun n k z I f A=>?_) (fun n z f=>?_) F0.n 0 [] (aX _) ⟨bu _,fun x a=>by cases a⟩ (by rw[bj];omega)
 .have q:=f.1;rw[C9,aS (show(k:Int)<d.1 by omega),ae];refine Gd.ck (aE (by omega) (by omega) (by rw[ej];omega)) ?_;rw[ag (by omega)];refine A (z++[(k:Int)]) ⟨by rw[aW,ej];omega,fun x a=>?_⟩;rcases fM.1 a with h|h
  .exact f.2 x h
  .rw[h7.1 h];exact JC (by omega) (by omega)
 .have q:=f.1;rw[C9,aT (show ¬((d.1.toNat:Nat):Int)<d.1 by omega),aa];exact Rw z (by omega) f.2
def ash {q:Int}(h:Hx q):Hx (ak q):=by rw[aB h.1 h.2];exact h
def azL {c:cW}(h:iP c){f:Int×Int}(g:LX f):Dr (U:=b0) (J3 F0 c f) fun q=>QcX q:=by
 unfold Dr;rw[ahN];refine Dr.bind (vn h) fun x i j=>Dr.bind (apI j g (by have:=i.1;omega)) fun q a k=>Dr.bind (aF k (n:=12) (by omega) (by omega)) fun y l b=>?_
 refine Gd.br (fun _=>Gd.ret ⟨⟨ash (JC (by have:=a.2.1;omega) (by have:=a.2.2;omega)),a.1.s,a.1.w,a.1.i⟩,b⟩) fun _=>Gd.br (fun _=>?_) fun _=>Gd.br (fun _=>?_) fun _=>Gd.ret ⟨a.1,b⟩
 .exact Dr.bind (Uk b (m:=7) (by omega) (by omega)) fun z d e=>Gd.ret ⟨⟨a.1.v,a.1.s,aR d.1 (by omega),d.2⟩,e⟩
 .exact Dr.bind (aj7 b) fun z d e=>Gd.ret ⟨⟨a.1.v,aR d (by omega),a.1.w,a.1.i⟩,e⟩
def alY {c:Int×Int}{q:b0}(a:QcX q){view:Int}(d:Hx view){l:List ez}(i:l.length<=100):hQ F0 c q view l=some ((gd c q view l).1,(gd c q view l).2,()):=by
 have j:=a.s;have e:(JB q view l).size<=1048576:=by have k:=UK (up:=q.2.1.data.toList) d l;unfold JB;rw[bc];have:q.2.1.data.toList.length=q.2.1.size:=rfl;omega
 have f:eY F0 q.2.1 view l=some (JB q view l,()):=Pf (up:=q.2.1.data.toList) (by show q.2.1.size<=_;omega) d (by omega);rw[MW,f,ao,pH a.l.2,ao,DX (b:=(JB q view l,q)) e a.l,ao,gv e,ao];unfold gd;dsimp only;rw[agt];cases gw c (JB q view l,q) with
 |false=>rw[ah (fun h=>by cases h.1)];rfl
 |true =>
  by_cases h:bm (JB q view l).data.toList=view
  .rw[an ⟨rfl,h⟩,aS h];rfl
  .rw[ah (fun g=>h g.2),aT h];rfl
def azM:QcX b1:=⟨JC (by decide) (by decide),aX _,aX _,fun x a=>by cases a⟩
def auD (b:cK):Prop:=b.1.size<=1048576/\QcX b.2
def auE {c:Int×Int}{q:b0}(a:QcX q){view:Int}{l:List ez}:auD (gd c q view l).1:=by
 refine⟨YS.1,?_⟩;unfold gd;split
 .exact a
 .exact azM
def asi {c:cW}(h:iP c){a:Int×Int}(j:LX a):Dr (U:=cK) (lr F0 c a) auD:=by
 unfold Dr;rw[Vb];refine Dr.bind (vn h) fun x e b=>Dr.bind (apI b j (by have:=e.1;omega)) fun q f p=>?_
 have Rw:∀(c:cW) (o:List ez),iP c->o.length<=3->Gd (jM F0 (.exit 0) (nV c.1 c.2.1 c.2.2 a.1 a.2 ai 0 ai q.1.1.1 q.1.1.2.1 o [] q.1.1.2.2)) fun z:DrT cK=>auD z.1.1/\iP z.2.1:=fun c o j l=>by
  rw[OJ];refine Dr.bind (aF j (n:=4) (by omega) (by omega)) fun y g m=>?_
  have r:Int.tdiv y.1.1 3=y.1.1/3:=apM g.1;have t:=g.1;have u:=g.2;have v:=f.2.1;have w:=f.2.2;rw[r,aB (n:=q.1.1.1+1) (by omega) (by omega),aB (n:=y.1.1/3) (by omega) (by omega),aB (n:=q.1.1.1+1+y.1.1/3) (by omega) (by omega)];exact Gd.let (alY (c:=(a.1,a.2)) (q:=q.1.1) f.1 (JC (by omega) (by omega)) (by omega)) (Gd.ret ⟨auE f.1,m⟩)
 refine hG (fun n i (z:cW×List ez)=>mh F0 (jM F0) n (jL i z.1.1 z.1.2.1 z.1.2.2 a.1 a.2 ai 0 ai q.1.1.1 q.1.1.2.1 z.2 [] q.1.1.2.2)) 3 (fun k z=>iP z.1/\z.2.length<=k) _ (fun n k z A d s=>?_) (fun n z d=>?_) F0.n 0 (q.2.1,[]) (aX _) ⟨p,bu _⟩ (by rw[bj];omega)
 .try dsimp only
  have l:=d.2;rw[u9];refine Dr.bind (aF d.1 (n:=3) (by omega) (by omega)) fun x e b=>Gd.br (fun _=>?_) fun _=>?_
  .refine Dr.bind (Bx b) fun y g m=>Gd.ck (aE (by omega) (by omega) (by rw[ej];omega)) ?_
   rw[ag (by omega)];exact s (y.2.1,z.2++[y.1.1]) ⟨m,by rw[aW,ej];omega⟩
  .exact Rw x.2.1 z.2 b (by omega)
 .try dsimp only
  have l:=d.2;rw[u9];refine Dr.bind (aF d.1 (n:=3) (by omega) (by omega)) fun x e b=>?_
  refine Gd.br0 (aT (by have:=e.2;show ¬(3:Int)<x.1.1;omega)) ?_;exact Rw x.2.1 z.2 b l
def aBb {a:Int}(b:a<=8):0<sE a 4/\sE a 4<=8:=by unfold sE;split<;>omega
def YT {c:cW}(h:iP c){a:Int×Int}(r:LX a):Dr (U:=b0) (gk F0 c a) QcX:=by
 unfold Dr;rw[R3];refine Dr.bind (vn h) fun s t u=>?_
 have w:=t.1;have l:=rA s.1.1.data.toList;have loop:∀(v:Int) (b:ByteArray) (c:cW),Hx v->b.size<=20000->iP c->Gd (c3 F0 (da F0) F0.n (cw 0 c.1 c.2.1 c.2.2 a.1 a.2 0 ai v b [] [])) fun z:DrT b0=>QcX z.1.1/\iP z.2.1:=fun v b c l p A=>by
  have m:=aBb r.2;refine hG (fun n i (z:cW×List Int)=>c3 F0 (da F0) n (cw i z.1.1 z.1.2.1 z.1.2.2 a.1 a.2 0 ai v b [] z.2)) 8 (fun k z=>iP z.1/\z.2.length<=k/\∀x∈z.2,Hx x) _ (fun n k z E d B=>?_) (fun n z d=>?_) F0.n 0 (c,[]) (aX _) ⟨A,bu _,fun x e=>by cases e⟩ (by rw[bj];omega)
  .try dsimp only
   have C:=d.2.1;rw[sa];refine Dr.bind (aF d.1 (n:=7) (by omega) (by omega)) fun x e f=>Gd.br (fun _=>?_) fun _=>?_
   .refine auC (Dr.bind (aF f (n:=sE a.1 4) m.1 (by have:=m.2;omega)) fun y o g=>Gd.let (Jr (by omega) _) ?_);rw[ag (by omega)];have F:=TQ z.2 y.1.1;refine B (y.2.1,Rf z.2 y.1.1) ⟨g,by dsimp only;omega,fun x e=>?_⟩;rcases aqU.1 e with rfl|h
    .have:=o.1;have:=o.2;have:=m.2;exact JC (by omega) (by omega)
    .exact d.2.2 x h
   .rw[u0];exact Gd.ret ⟨⟨l,aR p (by omega),by show z.2.length<=100;omega,d.2.2⟩,f⟩
  .try dsimp only
   have C:=d.2.1;rw[sa];refine Dr.bind (aF d.1 (n:=7) (by omega) (by omega)) fun x e f=>?_
   refine Gd.br0 (aT (by have:=e.2;have:=e.1;rw[aB (by omega) (by omega)];show ¬(8:Int)<1+x.1.1;omega)) ?_;rw[u0];exact Gd.ret ⟨⟨l,aR p (by omega),by show z.2.length<=100;omega,d.2.2⟩,f⟩
 refine Gd.let (gv (aR w (by omega))) (Dr.bind (yX u (n:=4) (by omega) (by omega)) fun y o g=>?_);have aDu:Gd ((af F0 y.2.1 4).bind fun j=>c3 F0 (da F0) F0.n (cw 0 j.2.1.1 j.2.1.2.1 j.2.1.2.2 a.1 a.2 0 ai (ak (1+j.1.1)) ai [] [])) fun z:DrT b0=>QcX z.1.1/\iP z.2.1 :=
  Dr.bind (aF g (n:=4) (by omega) (by omega)) fun z q D=>loop _ _ _ (ash (by have:=q.1;have:=q.2;exact JC (by omega) (by omega))) (aX _) D
 exact Gd.br (fun _=>aDu) fun _=>Gd.br (fun _=>aDu) fun _=>loop _ _ _ (JC (by dsimp only;omega) (by dsimp only;omega)) (by omega) g
def anh {c:cW}(h:iP c){f:Int×Int}(g:LX f):Dr (U:=b0) (vU F0 c f) QcX:=by
 unfold Dr;rw[aeO];refine Dr.bind (YT h g) fun q a i=>Dr.bind (aF i (n:=10) (by omega) (by omega)) fun y j e=>?_
 refine Gd.br (fun _=>?_) fun _=>Gd.br (fun _=>?_) fun _=>Gd.br (fun _=>?_) fun _=>Gd.ret ⟨a,e⟩
 .exact Dr.bind (cn e (by decide) (by decide)) fun z b d=>Gd.ret ⟨⟨ang (by decide) b,a.s,a.w,a.i⟩,d⟩
 .exact Dr.bind (Uk e (m:=7) (by omega) (by omega)) fun z b d=>Gd.ret ⟨⟨a.v,a.s,aR b.1 (by omega),b.2⟩,d⟩
 .exact Dr.bind (aj7 e) fun z b d=>Gd.ret ⟨⟨a.v,aR b (by omega),a.w,a.i⟩,d⟩
def QcX.s2 {q:b0}(h:QcX q):q.2.1.size<=1048576/\q.2.2.length<=1000:=⟨aR h.s (by omega),aR h.w (by omega)⟩
def azN {c:Int×Int}{l:List b0}(h:alQ l)(p:b0):alQ (cL c l p).1:=by
 unfold cL;split
 .rename_i a;exact C0 a.2
 .exact h
def apJ {c:cW}(h:iP c){b:Int×Int}(o:LX b):Dr (U:=List b0) (ow F0 c b) fun l=>l.length<=1001/\∀q∈l,Bu q:=by
 unfold Dr;rw[SP];have Rw:∀(c:cW) (m:List b0),iP c->alQ m->Gd (iN F0 (.exit 0) (mm c.1 c.2.1 c.2.2 b.1 b.2 m)) fun z:DrT (List b0)=>(z.1.1.length<=1001/\∀q∈z.1.1,Bu q)/\iP z.2.1:=fun c m r g=>by
  have s:=g.1;rw[Ny];refine Dr.bind (yX r (n:=8) (by omega) (by omega)) fun y p d=>Gd.br (fun _=>?_) fun _=>Gd.ret ⟨⟨aR s (by omega),fun q j=>g.l j⟩,d⟩
  refine Dr.bind (anh d o) fun z t u=>Gd.ck (aE (by omega) (by omega) (by rw[ej];omega)) (Gd.ret ⟨⟨by rw[aW,ej];omega,fun q j=>?_⟩,u⟩)
  rcases fM.1 j with h|h
  .exact g.l h
  .rw[h7.1 h];exact t.l
 refine hG (fun n i (z:cW×List b0)=>kH F0 (iN F0) n (iM i z.1.1 z.1.2.1 z.1.2.2 b.1 b.2 z.2)) 5 (fun k z=>iP z.1/\alQ z.2) _ (fun n k z w a v=>?_) (fun n z a=>?_) F0.n 0 (c,[]) (aX _) ⟨h,aX _,fun x e=>by cases e⟩ (by rw[bj];omega)
 .try dsimp only
  rw[su];refine Dr.bind (aF a.1 (n:=5) (by omega) (by omega)) fun x e f=>Gd.br (fun _=>?_) fun _=>Rw x.2.1 z.2 f a.2
  refine Dr.bind (YT f o) fun y p d=>Gd.let (yZ a.2 p.s2 _) ?_
  rw[ag (by omega)];exact v (y.2.1,_) ⟨d,azN a.2 _⟩
 .try dsimp only
  rw[su];refine Dr.bind (aF a.1 (n:=5) (by omega) (by omega)) fun x e f=>?_
  refine Gd.br0 (aT (by have:=e.2;show ¬(5:Int)<x.1.1;omega)) ?_;exact Rw x.2.1 z.2 f a.2
def aDv {c:Int×Int}{s:bK}(h:Ui s)(q:b0):Ui (see c s q):=by
 by_cases a:b2 c s=true/\fe c q=true
 .exact asg (azd a.1 q)
 .unfold see;rw[ah a];exact h
def aCB {c:Int×Int}{s:bK}(h:Ui s)(b:cK):Ui (atW c s b).1:=by
 unfold atW;split
 .have:=rA b.1.data.toList;exact⟨JC (by dsimp only;omega) (by dsimp only;omega),h.k,h.q,h.d⟩
 .exact h
def axt:Ui mL:=⟨JC (by decide) (by decide),JC (by decide) (by decide),azM,aX _⟩
def akE {c:cW}(h:iP c){a:Int×Int}(o:LX a):Dr (U:=bK) (jN F0 c a) Ui:=by
 unfold Dr;rw[SM,Qq,ao];refine hG (fun n i (z:cW×bK)=>gT F0 (nW F0) n (fc i z.1.1 z.1.2.1 z.1.2.2 a.1 a.2 0 0 0 ai ai z.2.1 z.2.2.1 z.2.2.2.1.1 z.2.2.2.1.2.1 z.2.2.2.2 [] z.2.2.2.1.2.2)) 5 (fun k z=>iP z.1/\Ui z.2) _ (fun n k z q d j=>?_) (fun n z d=>?_) F0.n 0 (c,mL) (aX _) ⟨h,axt⟩ (by rw[bj];omega)
 .try dsimp only
  rw[sr];refine Dr.bind (aF d.1 (n:=5) (by omega) (by omega)) fun x l e=>Gd.br (fun _=>?_) fun _=>?_
  .refine Dr.bind (asi e o) fun b f p=>Gd.let (ags (s:=z.2) d.2.l f.2.l (a.1,a.2)) (Dr.bind (yX p (n:=3) (by omega) (by omega)) fun y r m=>?_)
   have g:=aDv (c:=(a.1,a.2)) d.2 b.1.1.2;rw[ag (by omega)];refine Gd.br (fun _=>Gd.let (arE g.l f.1 f.2.l _) ?_) fun _=>?_
   .exact j (y.2.1,(atW (a.1,a.2) (see (a.1,a.2) z.2 b.1.1.2) b.1.1).1) ⟨m,aCB g _⟩
   .exact j (y.2.1,see (a.1,a.2) z.2 b.1.1.2) ⟨m,g⟩
  .rw[va];exact Gd.ret ⟨d.2,e⟩
 .try dsimp only
  rw[sr];refine Dr.bind (aF d.1 (n:=5) (by omega) (by omega)) fun x l e=>?_
  refine Gd.br0 (aT (by have:=l.2;show ¬(5:Int)<x.1.1;omega)) ?_;rw[va];exact Gd.ret ⟨d.2,e⟩
def axu {c:cW}(h:iP c){f:Int×Int}(g:LX f):Dr (U:=bK) (GQ F0 c f) Ui:=by
 unfold Dr;rw[afE];refine Dr.bind (akE h g) fun s a cs=>Dr.bind (aF cs (n:=10) (by omega) (by omega)) fun y i e=>?_
 refine Gd.br (fun _=>?_) fun _=>Gd.br (fun _=>?_) fun _=>Gd.br (fun _=>?_) fun _=>Gd.br (fun _=>?_) fun _=>Gd.ret ⟨a,e⟩
 .exact Dr.bind (cn e (by decide) (by decide)) fun z b d=>Gd.ret ⟨⟨ang (by decide) b,a.k,a.q,a.d⟩,d⟩
 .exact Dr.bind (cn e (by decide) (by decide)) fun z b d=>Gd.ret ⟨⟨a.v,ang (by decide) b,a.q,a.d⟩,d⟩
 .exact Dr.bind (aj7 e) fun z b d=>Gd.ret ⟨⟨a.v,a.k,a.q,aR b (by omega)⟩,d⟩
 .exact Dr.bind (azL e g) fun z b d=>Gd.ret ⟨⟨a.v,a.k,b,a.d⟩,d⟩
def auF {c:cW}(h:iP c){j:Int×Int}(a:LX j):Dr (U:=cq) (oB F0 c j) kk:=by
 unfold Dr;rw[SS];refine Dr.bind (aF h (n:=4) (by omega) (by omega)) fun x s d=>?_
 refine Gd.br (fun _=>?_) fun _=>Gd.br (fun _=>?_) fun _=>Gd.br (fun _=>?_) fun _=>?_
 .exact Dr.bind (asi d a) fun b g k=>Gd.ret ⟨YM g.1 g.2.l,k⟩
 .refine Dr.bind (YT d a) fun q e f=>Gd.br (fun _=>?_) fun _=>Gd.ret ⟨UR e.l,f⟩
  refine adu (up:=ai) (aX _) (JC (by decide) (by decide)) (aX _) fun b g=>Gd.ret ⟨UR (p:=(1,b,q.1.1.2.2)) ⟨by show b.size<=_;omega,e.l.2⟩,f⟩
 .refine Dr.bind (aF d (n:=6) (by omega) (by omega)) fun y l i=>Dr.bind (vn i) fun t m o=>Dr.bind (apI o a (by have:=m.1;omega)) fun q e f=>Dr.bind (axs f (by have:=a.2;omega)) fun z u r=>Gd.ret ⟨UQ e.1.l _,r⟩
 .exact Dr.bind (Bx d) fun y l i=>Gd.ret ⟨⟨aX _,eb,eb,eb⟩,i⟩
def ani {c:cW}(h:iP c){f:Int×Int}(g:LX f):Dr (U:=cq) (ya F0 c f) kk:=by
 unfold Dr;rw[afI];refine Dr.bind (auF h g) fun m b i=>Dr.bind (aF i (n:=12) (by omega) (by omega)) fun y j d=>?_
 refine Gd.br (fun _=>?_) fun _=>Gd.br (fun _=>?_) fun _=>Gd.br (fun _=>?_) fun _=>Gd.br (fun _=>?_) fun _=>Gd.br (fun _=>?_) fun _=>Gd.ret ⟨b,d⟩
 .exact Dr.bind (aF d (n:=7) (by omega) (by omega)) fun z e a=>Gd.ret ⟨b,a⟩
 .exact Dr.bind (cn d (by decide) (by decide)) fun z e a=>Gd.ret ⟨b,a⟩
 .exact Dr.bind (cn d (by decide) (by decide)) fun z e a=>Gd.ret ⟨b,a⟩
 .exact Dr.bind (anh d g) fun z e a=>Gd.ret ⟨⟨b.1,b.2.1,e.l,b.2.2.2⟩,a⟩
 .exact Dr.bind (aj4 d) fun z e a=>Gd.ret ⟨b,a⟩
def aBc (n:Int):0<=IntKind.wrap .u8 n/\IntKind.wrap .u8 n<=255:=by rw[IntKind.wrap_u8];omega
def asj {c:cW}(h:iP c):Dr (U:=List Int) (tR F0 c) fun l=>l.length<=100/\∀x∈l,0<=x/\x<=255:=by
 unfold Dr;rw[XZ];have Rw:∀(c:cW) (f:List Int),iP c->f.length<=50->(∀x∈f,0<=x/\x<=255)->Gd (kJ F0 (.exit 0) (pf c.1 c.2.1 c.2.2 f)) fun z:DrT (List Int)=>(z.1.1.length<=100/\∀x∈z.1.1,0<=x/\x<=255)/\iP z.2.1:=fun c f j g a=>by
  rw[Q1];refine Dr.bind (yX j (n:=3) (by omega) (by omega)) fun y m d=>Gd.br (fun _=>?_) fun _=>Gd.ret ⟨⟨aR g (by omega),a⟩,d⟩
  refine Dr.bind (cn d (by decide) (by decide)) fun z s o=>Dr.bind (aF o (n:=3) (by omega) (by omega)) fun w t p=>Gd.ck (aE (by omega) (by omega) (by simp;omega)) (Gd.ret ⟨⟨by rw[aW];simp;omega,fun x q=>?_⟩,p⟩)
  rcases fM.1 q with h|h
  .exact a x h
  .simp only[dK,agy,or_false]at h;rcases h with rfl|rfl<;>exact aBc _
 refine hG (fun n i (z:cW×List Int)=>oA F0 (kJ F0) n (kI i z.1.1 z.1.2.1 z.1.2.2 z.2)) 4 (fun k z=>iP z.1/\z.2.length<=10*k/\∀x∈z.2,0<=x/\x<=255) _ (fun n k z u b r=>?_) (fun n z b=>?_) F0.n 0 (c,[]) (aX _) ⟨h,aX _,fun x a=>by cases a⟩ (by rw[bj];omega)
 .try dsimp only
  have g:=b.2.1;rw[x9];refine Dr.bind (aF b.1 (n:=4) (by omega) (by omega)) fun x a e=>Gd.br (fun _=>?_) fun _=>Rw x.2.1 z.2 e (by omega) b.2.2
  refine Dr.bind (cn e (by decide) (by decide)) fun y m d=>Gd.let (gM _) ?_
  have v:=cG y.1.1;refine Gd.ck (aE (by omega) (by omega) (by dsimp only;omega)) ?_;rw[ag (by omega)];refine r (y.2.1,z.2++aC y.1.1) ⟨d,by rw[aW];omega,fun x a=>?_⟩;rcases fM.1 a with h|h
  .exact b.2.2 x h
  .exact eh _ x h
 .try dsimp only
  have g:=b.2.1;rw[x9];refine Dr.bind (aF b.1 (n:=4) (by omega) (by omega)) fun x a e=>?_
  refine Gd.br0 (aT (by have:=a.2;show ¬(4:Int)<x.1.1;omega)) ?_;exact Rw x.2.1 z.2 e (by omega) b.2.2
def aBd {c:cW}(h:iP c):Dr (U:=As) (GR F0 c) fun d=>cF d.1:=by
 unfold Dr;rw[afG];refine Dr.bind (asj h) fun x a j=>?_
 have k:=a.1;refine Gd.ck (aE (by omega) (by omega) (by omega)) ?_;rw[vr];have g:cF x.1.1:=⟨by omega,a.2⟩;have el:ak ((x.1.1.length:Int)+1)=(x.1.1.length:Int)+1:=aB (by omega) (by omega);rw[el];obtain⟨⟨b,u⟩,m,o⟩:=x;dsimp only at k a g j ⊢;refine Gd.bind (aF j (n:=(b.length:Int)+1) (by omega) (by omega)) fun y l=>?_
 refine Gd.bind (aF l.2 (n:=12) (by omega) (by omega)) fun z i=>?_
 refine Gd.br (fun _=>?_) fun _=>Gd.br (fun _=>?_) fun _=>Gd.ret ⟨g,i.2⟩
 .exact Gd.bind (cn i.2 (by decide) (by decide)) fun v f=>Gd.ret ⟨g,f.2⟩
 .refine Gd.bind (aF i.2 (n:=2) (by omega) (by omega)) fun v f=>?_
  have p:=f.1.1;have q:=f.1.2;have e:ak (100000+v.1.1)=((100000+v.1.1.toNat:Nat):Int):=by rw[aB (by omega) (by omega)];omega
  rw[e];refine Gd.ck (atb (by omega) (by omega) (by omega)) (Gd.ret ⟨⟨?_,fun x a=>?_⟩,f.2⟩)
  .show(List.replicate _ (0:Int)).length<=_;rw[List.length_replicate];omega
  .have:=List.eq_of_mem_replicate a;omega
def aez (l:List ez)(x:ez):(oO l x).1.length<=l.length+1:=by
 unfold oO;split
 .exact agK (Uc x l)
 .exact Nat.le_succ _
def axv {c:cW}(h:iP c):Dr (U:=List ez) (re F0 c) fun l=>l.length<=9:=by
 unfold Dr;rw[Vc];refine hG (fun n i (z:cW×List ez)=>ml F0 (pe F0) n (jO i z.1.1 z.1.2.1 z.1.2.2 z.2)) 9 (fun k z=>iP z.1/\z.2.length<=k) _ (fun n k z g a e=>?_) (fun n z a=>?_) F0.n 0 (c,[]) (aX _) ⟨h,bu _⟩ (by rw[bj];omega)
 .try dsimp only
  have j:=a.2;rw[vb];refine Dr.bind (aF a.1 (n:=9) (by omega) (by omega)) fun x d b=>Gd.br (fun _=>?_) fun _=>?_
  .refine Dr.bind (Bx b) fun y m f=>Gd.let (Ud (by omega) _) ?_
   rw[ag (by omega)];have o:=aez z.2 y.1.1;exact e (y.2.1,(oO z.2 y.1.1).1) ⟨f,by dsimp only;omega⟩
  .rw[x8];exact Gd.ret ⟨by show z.2.length<=9;omega,b⟩
 .try dsimp only
  rw[vb];refine Dr.bind (aF a.1 (n:=9) (by omega) (by omega)) fun x d b=>?_
  refine Gd.br0 (aT (by have:=d.2;show ¬(9:Int)<x.1.1;omega)) ?_;rw[x8];exact Gd.ret ⟨a.2,b⟩
def azO {c:cW}(h:iP c):Dr (U:=List ez) (KU F0 c) fun l=>l.length<=1000:=by
 unfold Dr;rw[aiQ];refine Dr.bind (axv h) fun p d e=>Dr.bind (aF e (n:=8) (by omega) (by omega)) fun y r b=>?_
 refine Gd.br (fun _=>?_) fun _=>Gd.br (fun _=>?_) fun _=>Gd.ret ⟨aR d (by omega),b⟩
 .exact Dr.bind (aj4 b) fun z s f=>Gd.ck (aE (by omega) (by omega) (by rw[ej];omega)) (Gd.ret ⟨by show(p.1.1++[z.1.1]).length<=1000;rw[aW,ej];omega,f⟩)
 .refine hG (fun n i (z:List ez)=>Cp F0 (tQ F0) n (tP i y.2.1.1 y.2.1.2.1 y.2.1.2.2 z)) 4 (fun k z=>z.length<=9+4*k) _ (fun n k z t g j=>?_) (fun n z g=>?_) F0.n 0 p.1.1 (aX _) (by omega) (by rw[bj];omega)
  .rw[IJ,aS (show(k:Int)<4 by omega),ae];refine hG (fun m a (x:List ez)=>Co F0 (EF F0 (tQ F0) n) m (tO (k:Int) a y.2.1.1 y.2.1.2.1 y.2.1.2.2 x)) 4 (fun a x=>x.length<=9+4*k+a) _ (fun m a x u o q=>?_) (fun m x o=>?_) F0.n 0 z (aX _) (by omega) (by rw[bj];omega)
   .rw[II,aS (show(a:Int)<4 by omega),ae];refine Gd.let (Ud (by omega) _) ?_;rw[ag (by omega)];have d:=aez x ((k:Int),0,0,(a:Int));exact q _ (by dsimp only;omega)
   .rw[II,aT (show ¬((4:Nat):Int)<4 by omega),aa,aab,ag (by omega)];exact j x (by omega)
  .rw[IJ,aT (show ¬((4:Nat):Int)<4 by omega),aa,aac];exact Gd.ret ⟨by show z.length<=1000;omega,b⟩
def aBe {c:cW}(h:iP c):Dr (U:=List eA) (rf F0 c) fun l=>l.length<=8/\∀x∈l,x.2.1.size<=100000:=by
 unfold Dr;rw[Ve];refine hG (fun n i (z:cW×List eA)=>mq F0 (pg F0) n (jP i z.1.1 z.1.2.1 z.1.2.2 z.2)) 8 (fun k z=>iP z.1/\z.2.length<=k/\∀x∈z.2,x.2.1.size<=100000) _ (fun n k z o a g=>?_) (fun n z a=>?_) F0.n 0 (c,[]) (aX _) ⟨h,bu _,fun x b=>by cases b⟩ (by rw[bj];omega)
 .try dsimp only
  have p:=a.2.1;rw[vc];refine Dr.bind (aF a.1 (n:=8) (by omega) (by omega)) fun x b d=>Gd.br (fun _=>?_) fun _=>?_
  .refine Dr.bind (vn d) fun e f j=>Gd.let (gv (aR f.1 (by omega))) (Dr.bind (aF j (n:=4) (by omega) (by omega)) fun y q m=>Gd.ck (aE (by omega) (by omega) (by rw[ej];omega)) ?_)
   rw[ag (by omega)];refine g (y.2.1,z.2++[(bm e.1.1.data.toList,e.1.1,y.1.1)]) ⟨m,by rw[aW,ej];omega,fun x b=>?_⟩;rcases fM.1 b with h|h
   .exact a.2.2 x h
   .rw[h7.1 h];exact aR f.1 (by omega)
  .rw[yb];exact Gd.ret ⟨⟨by show z.2.length<=8;omega,a.2.2⟩,d⟩
 .try dsimp only
  rw[vc];refine Dr.bind (aF a.1 (n:=8) (by omega) (by omega)) fun x b d=>?_
  refine Gd.br0 (aT (by have:=b.2;show ¬(8:Int)<x.1.1;omega)) ?_;rw[yb];exact Gd.ret ⟨a.2,d⟩
def asl (c:Int×Int)(m:cq):cF (ake c m):=by
 unfold ake;split
 .rename_i h;have:=YJ h;exact⟨aR this.1 (by omega),this.2.1⟩
 .exact⟨aX _,fun x a=>by cases a⟩
def asm {c:cW}(h:iP c):Dr (U:=aj) (jK F0 c) a6:=by
 unfold Dr;rw[SJ];refine Dr.bind (azE h) fun w e f=>Dr.bind (aF f (n:=45) (by omega) (by omega)) fun m b g=>?_
 have m0:=b.1;have m1:=b.2;refine hG (fun n i (z:cW×aj)=>kC F0 (nT F0) n (iL m.1.1 i z.1.1 z.1.2.1 z.1.2.2 0 0 z.2.1.1 z.2.1.2 [] [] [] [] z.2.2.1 z.2.2.2.1 z.2.2.2.2.1 z.2.2.2.2.2)) m.1.1.toNat (fun k z=>iP z.1/\a6 z.2) _ (fun n k z p a j=>?_) (fun n z a=>?_) F0.n 0 (m.2.1,w.1.1) (aX _) ⟨g,e.g⟩ (by rw[bj];omega)
 .try dsimp only
  rw[sq,aS (show(k:Int)<m.1.1 by omega),ae];refine Dr.bind (aBa a.1 a.2) fun d l o=>Gd.let (asa a.2 l.1) ?_
  rw[ag (by omega)];exact j (d.2.1,ar9 z.2 d.1.1) ⟨o,a.2.aEj _⟩
 .try dsimp only
  rw[sq,aT (show ¬((m.1.1.toNat:Nat):Int)<m.1.1 by omega),aa,Nu];exact Gd.ret ⟨a.2,a.1⟩
abbrev DrR:=((Int×Int)×ay×Unit)×(cW×Unit)
def aBf {c:cW}(h:iP c):Gd (ov F0 c) fun z:DrR=>(LX z.1.1/\axr z.1.2.1/\z.1.2.1.2.2.2.2.2.2.2.length<=30)/\iP z.2.1:=by
 rw[SK];refine Dr.bind (asm h) fun w b e=>?_
 have g:=b.le7;refine Dr.bind (aF e (n:=(w.1.1.2.2.1.length:Int)) (by omega) (by omega)) fun y a f=>Gd.ck (oL a.1 a.2) ?_
 have d:=b.rep a.1 a.2;refine Gd.ret ⟨⟨akD b.c,?_,?_⟩,f⟩
 .show axr (aJ w.1.1.2.2.1 y.1.1 _);rw[Hm a.1 a.2];exact d.1.x
 .show(aJ w.1.1.2.2.1 y.1.1 _).2.2.2.2.2.2.2.length<=30;rw[Hm a.1 a.2];exact d.1.f.n
def aCC {c:cW}(h:iP c):Gd (GS F0 c) fun z:DrR=>axr z.1.2.1/\iP z.2.1:=by
 rw[afJ];refine Gd.bind (aBf h) fun r j=>?_
 obtain⟨⟨i,⟨⟨b,g⟩,a⟩,s⟩,k⟩:=j;refine Dr.bind (aF k (n:=16) (by omega) (by omega)) fun y t f=>?_
 refine Gd.br (fun _=>?_) fun _=>Gd.br (fun _=>?_) fun _=>Gd.br (fun _=>?_) fun _=>Gd.br (fun _=>?_) fun _=>Gd.br (fun _=>?_) fun _=>Gd.br (fun _=>?_) fun _=>Gd.br (fun _=>?_) fun _=>Gd.br (fun _=>?_) fun _=>Gd.ret ⟨⟨⟨b,g⟩,a⟩,f⟩
 .exact Dr.bind (cn f (by decide) (by decide)) fun z d e=>Gd.ret ⟨⟨⟨⟨b.s,b.p,b.t,b.tq,b.h,b.hm⟩,g⟩,⟨ang (by decide) d,a.i2,a.i3,a.i4,a.i5,a.d,a.p,a.t,a.h⟩⟩,e⟩
 .exact Dr.bind (cn f (by decide) (by decide)) fun z d e=>Gd.ret ⟨⟨⟨⟨b.s,b.p,b.t,b.tq,b.h,b.hm⟩,g⟩,⟨a.i1,ang (by decide) d,a.i3,a.i4,a.i5,a.d,a.p,a.t,a.h⟩⟩,e⟩
 .exact Dr.bind (cn f (by decide) (by decide)) fun z d e=>Gd.ret ⟨⟨⟨⟨b.s,b.p,b.t,b.tq,b.h,b.hm⟩,g⟩,⟨a.i1,a.i2,a.i3,a.i4,a.i5,a.d,a.p,a.t,a.h⟩⟩,e⟩
 .exact Dr.bind (axu f i) fun z d e=>Gd.ret ⟨⟨⟨⟨d.l,b.p,b.t,b.tq,b.h,b.hm⟩,g⟩,⟨a.i1,a.i2,d.v,d.k,d.q.v,d.l.2,a.p,a.t,a.h⟩⟩,e⟩
 .exact Dr.bind (azO f) fun z d e=>Gd.ret ⟨⟨⟨⟨b.s,aR d (by omega),b.t,b.tq,b.h,b.hm⟩,g⟩,⟨a.i1,a.i2,a.i3,a.i4,a.i5,a.d,aR d (by omega),a.t,a.h⟩⟩,e⟩
 .exact Dr.bind (apJ f i) fun z d e=>Gd.ret ⟨⟨⟨⟨b.s,b.p,aR d.1 (by omega),d.2,b.h,b.hm⟩,g⟩,⟨a.i1,a.i2,a.i3,a.i4,a.i5,a.d,a.p,aR d.1 (by omega),a.h⟩⟩,e⟩
 .exact Dr.bind (aBd f) fun z d e=>Gd.ret ⟨⟨⟨⟨b.s,b.p,b.t,b.tq,b.h,b.hm⟩,d⟩,⟨a.i1,a.i2,a.i3,a.i4,a.i5,a.d,a.p,a.t,a.h⟩⟩,e⟩
 .refine Dr.bind (aF f (n:=5) (by omega) (by omega)) fun z d e=>Dr.bind (ani e i) fun m l o=>Gd.ck (aE (by omega) (by omega) (by rw[ej];omega)) (Gd.ret ⟨⟨⟨⟨b.s,b.p,b.t,b.tq,?_,fun p q=>?_⟩,g⟩,⟨a.i1,a.i2,a.i3,a.i4,a.i5,a.d,a.p,a.t,?_⟩⟩,o⟩)
  .show(_++[_]).length<=1048576;rw[aW,ej];omega
  .rcases fM.1 q with h|h
   .exact b.hm p h
   .rw[h7.1 h];exact l
  .show(_++[_]).length<=1048576;rw[aW,ej];omega
def av3 {U:Type}{P:U->Prop}{l:List U}{k:Nat}{v:U}(a:∀x∈l,P x)(b:P v):∀x∈l.set k v,P x:=fun x c=>by
 rcases asu c with h|h
 .exact a x h
 .rw[h];exact b
def azP {c:cW}(h:iP c):Dr (U:=aj) (GU F0 c) fun w=>Uj w/\LX w.1:=by
 unfold Dr;rw[afL];refine Dr.bind (asm h) fun w i p=>Dr.bind (aF p (n:=20) (by omega) (by omega)) fun y u g=>?_
 have v:=i.le7;have a:=i.x;have A:=a.l;have d:=akD i.c;have B:=i.nl;have C:=i.sl;refine Gd.br (fun _=>?_) fun _=>Gd.br (fun _=>?_) fun _=>Gd.br (fun _=>?_) fun _=>Gd.br (fun _=>?_) fun _=>Gd.br (fun _=>?_) fun _=>Gd.br (fun _=>?_) fun _=>Gd.br (fun _=>?_) fun _=>Gd.ret ⟨⟨a,d⟩,g⟩
 .exact Dr.bind (azK g) fun z b f=>Gd.ret ⟨⟨⟨a.l,a.r,a.rx,a.n,a.nb,a.s,a.st⟩,b⟩,f⟩
 .exact Dr.bind (Uk g (m:=4) (by omega) (by omega)) fun z b f=>Gd.ret ⟨⟨⟨aR b.1 (by omega),a.r,a.rx,a.n,a.nb,a.s,a.st⟩,d⟩,f⟩
 .refine Gd.bind (aCC g) fun z b=>Gd.ck (oL (by omega) (by omega)) (Gd.ret ⟨⟨⟨a.l,?_,av3 a.rx b.1,a.n,a.nb,a.s,a.st⟩,d⟩,b.2⟩)
  show(w.1.1.2.2.1.set _ _).length<=100;rw[Rk];omega
 .refine Dr.bind (aF g (n:=8) (by omega) (by omega)) fun z b f=>Dr.bind (ani f d) fun m q r=>Gd.let (abd q _) (Gd.ck (aE (by omega) (by omega) (by rw[ej];omega)) (Gd.ret ⟨⟨⟨a.l,a.r,a.rx,?_,fun x j=>?_,a.s,a.st⟩,d⟩,r⟩))
  .show(_++[_]).length<=1000;rw[aW,ej];omega
  .rcases fM.1 j with h|h
   .exact a.nb x h
   .rw[h7.1 h];exact asl _ _
 .refine Dr.bind (aBe g) fun z b f=>Gd.ck (aE (by omega) (by omega) (by have:=b.1;omega)) (Gd.ret ⟨⟨⟨a.l,a.r,a.rx,a.n,a.nb,?_,fun x j=>?_⟩,d⟩,f⟩)
  .show(w.1.1.2.2.2.2++z.1.1).length<=1000;rw[aW];have:=b.1;omega
  .rcases fM.1 j with h|h
   .exact a.st x h
   .exact b.2 x h
 .refine Dr.bind (akE g d) fun z b f=>Gd.ck (oL (by omega) (by omega)) (Gd.ret ⟨⟨⟨a.l,?_,av3 a.rx ?_,a.n,a.nb,a.s,a.st⟩,d⟩,f⟩)
  .show(w.1.1.2.2.1.set _ _).length<=100;rw[Rk];omega
  .have o:1<w.1.1.2.2.1.length:=by omega
   have s:axr (aJ w.1.1.2.2.1 1 LM):=by rw[show(1:Int)=((1:Nat):Int) from rfl,aM o];exact a.rx _ (cB o)
   obtain⟨⟨k,t⟩,l⟩:=s;exact⟨⟨⟨b.l,k.p,k.t,k.tq,k.h,k.hm⟩,t⟩,⟨l.i1,l.i2,b.v,b.k,b.q.v,b.l.2,l.p,l.t,l.h⟩⟩
 .have e:ak ((w.1.1.2.2.1.length:Int)-1)=((w.1.1.2.2.1.length-1:Nat):Int):=by rw[aB (by omega) (by omega)];omega
  rw[e];refine Gd.ck (by simp[okT]<;>omega) (Gd.ret ⟨⟨⟨a.l,?_,fun x j=>a.rx x (VC j),a.n,a.nb,a.s,a.st⟩,d⟩,g⟩);show(w.1.1.2.2.1.take _).length<=100;rw[cp];omega
end Go.Am.Tryz
