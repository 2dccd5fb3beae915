/- No condition. -/
import Derived.Test.YtpkabclplaibaaaGreatDoorQwYJL4
set_option linter.all false
namespace Go.Am.Tryz
open Go.Am
def Fu (w:ai):(aI w).length<=w.2.2.1.length:=iN _ _
def IT {U ζ γ:Type}(X:Nat->Int->ζ->Option γ)(a:List U)(f:ζ->U->ζ)(I:ζ->Prop)(R:Option γ)(b:ζ)(d:I b)(e:∀z x,x∈a->I z->I (f z x))
  (g:∀n k z (h:k<a.length),I z->X (n+1) (k:Int) z=X n ((k+1:Nat):Int) (f z a[k])) (i:∀n,X (n+1) (a.length:Int) (a.foldl f b)=R) (n:Nat) (j:a.length<n):X n 0 b=R:=by
 refine cx X a.length (fun k z=>z=(a.take k).foldl f b/\I z) R (fun n k z c h=>.inr ⟨_,g n k z c h.2,?_,e _ _ (bT c) h.2⟩) (fun n z h=>?_) n 0 b (a7 _) ⟨rfl,d⟩ (by omega)
 .rw[ef c,List.foldl_append,h.1];rfl
 .rw[h.1,l3];exact i n
def isSaid (view:Int)(name:ByteArray)(dJ:Int)(y:cB):Bool:=(y.1==view)&&((y.2.1.toList==name.toList)&&(y.2.2==dJ))
def A5 (l:List cB)(view:Int)(name:ByteArray)(dJ:Int):Bool:=l.any (isSaid view name dJ)
def avi {U:Type}{p:U->Bool}{l:List U}{k:Nat}(a:k<l.length):(l.drop k).any p=(p l[k] || (l.drop (k+1)).any p):=by rw[abb a,List.any_cons]
def aa2 {l:List cB}(h:l.length<=1048576)(view:Int)(name:ByteArray)(dJ:Int):EU F0 l view name dJ=some (A5 l view name dJ,()):=by
 rw[alo];refine cx (fun n k (z:Unit)=>n9 F0 (uM F0) n (jy l view name dJ k)) l.length (fun k _=>A5 l view name dJ=(l.drop k).any (isSaid view name dJ)) _ (fun n k z b a=>?_) (fun n z a=>?_) F0.n 0 () (a7 _) rfl (by rw[bg];omega)
 .rw[avi b]at a;rw[J9,aO b,ae,ao b,ab,ab,ab,aY b,aeJ,ah (by omega),a];unfold isSaid;cases c:(l[k].1==view) with
  |false=>exact .inr ⟨(),aa _ _,rfl⟩
  |true =>
   cases d:(l[k].2.1.toList==name.toList) with
   |false=>exact .inr ⟨(),by rw[ae,aa],rfl⟩
   |true =>
    cases e:(l[k].2.2==dJ) with
    |false=>exact .inr ⟨(),by rw[ae,ae,aa],rfl⟩
    |true=>exact .inl rfl
 .rw[agc]at a;rw[J9,aA,aa,acp,a];rfl
def aEG {l:List cB}(h:l.length<=1048576)(x:cB):∃r,WV F0 l x=some (r,())/\decide (r>=0)=A5 l x.1 x.2.1 x.2.2:=by
 rw[ar5];have key:∀(a k n:Nat),k+a=l.length->a<n->∃r,Nn F0 (En F0) n (Em l (l.length:Int) (k:Int) x.1 x.2.1 x.2.2)=some (r,())/\decide (r>=0)=(l.drop k).any (isSaid x.1 x.2.1 x.2.2):=by
  intro a
  induction a with
  |zero =>
   intro k n c d;obtain⟨n,rfl⟩:∃m,n=m+1:=⟨n-1,by omega⟩;obtain rfl:k=l.length:=by omega
   rw[PZ,aA,aa,aiY,agc];exact⟨-1,rfl,rfl⟩
  |succ a f =>
   intro k n c d;obtain⟨n,rfl⟩:∃m,n=m+1:=⟨n-1,by omega⟩;have b:k<l.length:=by omega
   have e:((x.1==l[k].1)&&((x.2.1.toList==l[k].2.1.toList)&&((x.2.2==l[k].2.2)&&true)))=isSaid x.1 x.2.1 x.2.2 l[k]:=by unfold isSaid;rw[Bool.and_true,show(x.1==l[k].1)=(l[k].1==x.1) from BM,show(x.2.1.toList==l[k].2.1.toList)=(l[k].2.1.toList==x.2.1.toList) from BM,show(x.2.2==l[k].2.2)=(l[k].2.2==x.2.2) from BM]
   rw[PZ,aO b,ae,ao b,ab,aY b,e,amf,ah (by omega),avi b];cases g:isSaid x.1 x.2.1 x.2.2 l[k]with
   |true=>exact⟨(k:Int),ae _ _,by rw[aS (show(k:Int)>=0 by omega)];rfl⟩
   |false =>
    rw[aa,wR];exact f (k+1) n (by omega) (by omega)
 exact key l.length 0 F0.n (by omega) (by rw[bg];omega)
def afV {l:List cB}(h:l.length<=1048576)(x:cB):fh F0 l x=some (A5 l x.1 x.2.1 x.2.2,()):=by obtain⟨r,a,b⟩:=aEG h x;rw[Gk,a,an,b]
def anh (aJ:List Int)(l:List cB)(view:Int)(name:ByteArray)(i:Int):Bool:=decide (i∈aJ) || A5 l view name i
def signed (aJ:List Int)(l:List cB)(view:Int)(name:ByteArray)(dJ:List Int):Bool:=dJ.all (anh aJ l view name)
def aa3 {aJ:List Int}(c:aJ.length<=1048576){l:List cB}(b:l.length<=1048576)(view:Int)(name:ByteArray){dJ:List Int}(d:dJ.length<=1048576):wu F0 aJ l view name dJ=some (signed aJ l view name dJ,()):=by
 rw[alp,eU (fun m k=>ti F0 (uN F0) m (nM aJ l view name dJ k)) dJ.length (fun k=>anh aJ l view name (dJ.getD k 0)) (some (true,())) (some (false,())) (fun m k a=>?_) (fun m=>?_) _ (by rw[bg];omega),adl,tD]
 .rfl
 .rw[Ka,aO a,ae,ao a,ab,ab,aY a,ep (by omega),an,aa2 b,an,aeK,ah (by omega),aR a];unfold anh;cases decide (dJ[k]∈aJ)<;>cases A5 l view name dJ[k]<;>rfl
 .rw[Ka,aA,aa,acq]
def asZ (aJ:List Int)(l:List cB)(q:b3):Bool:=signed aJ l q.1 q.2.1 q.2.2
def as0 (c:Int×Int)(aJ:List Int)(l:List cB)(m:ch):Bool :=
 dC c m&&(if m.1=1 then decide (eG c (aH m.2.2.1.1.data.toList)∈aJ)&&asZ aJ l m.2.2.1.2 else if m.1=2 then asZ aJ l m.2.2.2.1 else if m.1=3 then decide (m.2.2.2.2.2.1∈aJ)&&asZ aJ l m.2.2.2.2.1 else true)
def axM {c:Int×Int}{aJ:List Int}(f:aJ.length<=1048576){l:List cB}(g:l.length<=1048576){m:ch}(a:eH m):Mm F0 c aJ l m=some (as0 c aJ l m,()):=by
 rw[alr,I9 a,an,gG a.1,an,K0,an,ep (by omega),an,aa3 f g _ _ a.2.1.2,an,aa3 f g _ _ a.2.2.1.2,an,ep (by omega),an,aa3 f g _ _ a.2.2.2.2,an];unfold as0;cases dC c m with
 |false=>rfl
 |true =>
  rw[aX,aa,fF];by_cases b:m.1=1
  .rw[cj.2 b,ae,ak b];dsimp only;cases decide (eG c (aH m.2.2.1.1.data.toList)∈aJ)<;>rfl
  .rw[b0.2 b,aa,ag b];by_cases d:m.1=2
   .rw[cj.2 d,ae,ak d];rfl
   .rw[b0.2 d,aa,ag d];by_cases e:m.1=3
    .rw[cj.2 e,ae,ak e];dsimp only;cases decide (m.2.2.2.2.2.1∈aJ)<;>rfl
    .rw[b0.2 e,aa,ag e]
def S7 (id:Int)(q:b3):List cB:=if ec q.2.1=true then [] else if id∈q.2.2 then [(q.1,q.2.1,id)] else []
def dI (id:Int)(m:ch):List cB:=if m.1=4 then [] else if m.1=2 then S7 id m.2.2.2.1 else if m.1=1 then S7 id m.2.2.1.2 else S7 id m.2.2.2.2.1
def Qb (id:Int)(q:b3):br (q.2.1.toList==aj.toList) (some (([]:List cB),())) (br (!decide (id∈q.2.2)) (some ([],())) (some ([(q.1,q.2.1,id)],())))=some (S7 id q,()):=by
 unfold S7 ec;cases (q.2.1.toList==aj.toList) with
 |true=>rfl
 |false =>
  by_cases h:id∈q.2.2
  .rw[aS h,ag (by decide),ak h];rfl
  .rw[aV h,ag (by decide),ag h];rfl
def ani {m:ch}(d:eH m)(id:Int):Mu F0 id m=some (dI id m,()):=by
 rw[alA,ep (aU d.2.2.1.2 (by omega)),an,ep (aU d.2.1.2 (by omega)),an,ep (aU d.2.2.2.2 (by omega)),an];dsimp only;rw[Qb id m.2.2.2.1,Qb id m.2.2.1.2,Qb id m.2.2.2.2.1];unfold dI;by_cases a:m.1=4
 .rw[ak a,b0.2 (show m.1≠2 by omega),aa,b0.2 (show m.1≠1 by omega),aa,cj.2 a,ae]
 .rw[ag a,b0.2 a,aa,aa,aa];by_cases b:m.1=2
  .rw[ak b,cj.2 b,ae]
  .rw[ag b,b0.2 b,aa];by_cases c:m.1=1
   .rw[ak c,cj.2 c,ae]
   .rw[ag c,b0.2 c,aa]
def avj {m:ch}(d:eH m)(id:Int):Nk F0 id m=some (dI id m,()):=by
 rw[amd,wL (aU d.2.2.1.2 (by omega)),an,wL (aU d.2.1.2 (by omega)),an,wL (aU d.2.2.2.2 (by omega)),an];dsimp only;rw[Qb id m.2.2.2.1,Qb id m.2.2.1.2,Qb id m.2.2.2.2.1];unfold dI;by_cases a:m.1=4
 .rw[ak a,cj.2 a,ae]
 .rw[ag a,b0.2 a,aa];by_cases b:m.1=2
  .rw[ak b,cj.2 b,ae]
  .rw[ag b,b0.2 b,aa];by_cases c:m.1=1
   .rw[ak c,cj.2 c,ae]
   .rw[ag c,b0.2 c,aa]
def aa4 (id:Int)(m:ch):(dI id m).length<=1:=by
 have a:∀q:b3,(S7 id q).length<=1:=fun q=>by
  unfold S7;split
  .exact a7 _
  .split
   .exact bh _
   .exact a7 _
 unfold dI;split
 .exact a7 _
 .split
  .exact a _
  .split
   .exact a _
   .exact a _
def lZ (l:List cB)(x:cB):List cB:=if l.length<300/\A5 l x.1 x.2.1 x.2.2=false then l++[x] else l
def anj (id:Int)(l:List cB)(p:fm):List cB:=(dI id p.2).foldl lZ l
def Ro (id:Int)(list:List fm)(l:List cB):List cB:=list.foldl (anj id) l
def pq (w:ai)(id:Int)(list:List fm):ai:=if id∈aI w then (w.1,w.2.1,w.2.2.1,w.2.2.2.1,Ro id list w.2.2.2.2) else w
def ank {l:List cB}(h:l.length<=300)(x:cB):(lZ l x).length<=300:=by
 unfold lZ;split
 .rename_i a;rw[aN,bU];omega
 .exact h
def anl:∀{xs:List cB} {l:List cB},l.length<=300->(xs.foldl lZ l).length<=300
 |[],_,h=>h|x::xs,l,h=>anl (xs:=xs) (ank h x)
def ahd (id:Int):∀{list:List fm} {l:List cB},l.length<=300->(Ro id list l).length<=300
 |[],_,h=>h|p::list,l,h=>ahd id (list:=list) (anl h)
def aAS {w:ai}(h:N7 w)(j:w.2.2.2.2.length<=300)(id:Int){list:List fm}(o:list.length<=1048576)(l:∀p∈list,eH p.2):vA F0 w id list=some (pq w id list,()):=by
 rw[YI,Wm h,an,Q5 h.l,an,ep (by have:=Fu w;have:=h.l.r;dsimp only;omega),an];unfold pq;by_cases b:id∈aI w
 .rw[aS b,ak b,aX,aa];refine IT (fun n k z=>y3 F0 (lB F0) n (pS id list k 0 0 w.1.1 w.1.2 [] [] [] [] w.2.1 w.2.2.1 w.2.2.2.1 z)) list (anj id) (fun z=>z.length<=300) _ w.2.2.2.2 j (fun z p q d=>anl d) (fun n k z c d=>?_) (fun n=>?_) _ (by rw[bg];omega)
  .rw[oZ,aO c,ae,ao c,ab,aY c,ani (l _ (bT c)),an];have r:=aa4 id list[k].2;refine IT (fun m a (y:List cB)=>mz F0 (y1 F0 (lB F0) n) m (iA id list (k:Int) a 0 0 w.1.1 w.1.2 (dI id list[k].2) [] [] [] [] w.2.1 w.2.2.1 w.2.2.2.1 y)) (dI id list[k].2) lZ (fun y=>y.length<=300) _ z d (fun y x s g=>ank g x) (fun m a y e g=>?_) (fun m=>?_) _ (by rw[bg];omega)
   .rw[oY,aO e,ae,ao e,ab,aY e,aa2 (by omega),an,au (by omega) (by omega) (by first|omega|(simp only[aN,a1,bJ];omega)|(rw[bA,bQ];omega)),ab,ah (by omega)];unfold lZ;by_cases i:y.length<300
    .rw[aS (show(y.length:Int)<300 by omega),ae];cases A5 y (dI id list[k].2)[a].1 (dI id list[k].2)[a].2.1 (dI id list[k].2)[a].2.2 with
     |true=>rw[ag (fun f=>by cases f.2)];rfl
     |false=>rw[ak ⟨i,rfl⟩];rfl
    .rw[aV (show ¬(y.length:Int)<300 by omega),aa,ag (fun f=>i f.1)]
   .rw[oY,aA,aa,Ph,ah (by omega)];rfl
  .rw[oZ,aA,aa,Pj];rfl
 .rw[aV b,ag b];rfl
def Qc (c:Int×Int)(a:List gF)(p:fm):List gF:=if a.length<60/\dC c p.2=true/\fT 0 (al (c.1-1)) p.1=true then a++[(p.1,Lf p.2)] else a
def afW (c:Int×Int)(list:List fm)(a:List gF):List gF:=list.foldl (Qc c) a
def Ww (w:ai)(list:List fm):ai:=(w.1,w.2.1,w.2.2.1,afW w.1 list w.2.2.2.1,w.2.2.2.2)
def aqj {c:Int×Int}{a:List gF}(h:a.length<=60)(p:fm):(Qc c a p).length<=60:=by
 unfold Qc;split
 .rename_i b;rw[aN,bU];omega
 .exact h
def afX (c:Int×Int)(m:ch):decide (((Wp c m).length:Int)>0)=dC c m:=by
 unfold Wp;cases h:dC c m with
 |false=>rfl
 |true =>
  have:=(Re h).2.2;rw[ak rfl];exact aS (by omega)
def ahe {w:ai}(e:w.2.2.2.1.length<=60){list:List fm}(h:list.length<=1048576)(f:∀p∈list,eH p.2):mw F0 w list=some ((Ww w list,()),()):=by
 rw[Sl];refine IT (fun n k z=>gg F0 (rP F0) n (eA list k w.1.1 w.1.2 0 0 w.2.1 w.2.2.1 z w.2.2.2.2 [] [] [] [])) list (Qc w.1) (fun z=>z.length<=60) _ w.2.2.2.1 e (fun z p i c=>aqj c p) (fun n k z b c=>?_) (fun n=>?_) _ (by rw[bg];omega)
 .rw[kH,aO b,ae,ao b,ab,aY b,show((w.1.1,w.1.2):Int×Int)=w.1 from rfl,Rh (f _ (bT b)),an,ab,cy,an,ab,au (by omega) (by omega) (by first|omega|(simp only[aN,a1,bJ];omega)|(rw[bA,bQ];omega)),ab,ah (by omega)];dsimp only;rw[afX];unfold Qc;by_cases d:z.length<60
  .rw[aS (show(z.length:Int)<60 by omega),ae];cases g:dC w.1 list[k].2 with
   |false=>rw[ag (fun a=>by cases a.2.1)];rfl
   |true =>
    cases j:fT 0 (al (w.1.1-1)) list[k].1 with
    |false=>rw[ag (fun a=>by cases a.2.2)];rfl
    |true=>rw[ak ⟨d,rfl,rfl⟩,ae,ae,show Wp w.1 list[k].2=Lf list[k].2 from ak g]
  .rw[aV (show ¬(z.length:Int)<60 by omega),aa,ag (fun a=>d a.1)]
 .rw[kH,aA,aa,Kb];rfl
def ajp {c:Int×Int}{r:aB}{a:Int}{m:ch}:(Gm c r a m).1.1=r.1:=by unfold Gm;split<;>rfl
def aCR {c:Int×Int}{r:aB}{q:b3}:(ND c r q).1.1=r.1:=by
 have h:(written c r q).1.1=r.1:=am8;unfold ND;split
 .split
  .exact h
  .split
   .exact h
   .rw[ajp];exact h
 .rfl
def anm {c:Int×Int}{r:aB}{view:Int}{name:ByteArray}{a:Bool}:(kA c r view name a).1.1=r.1:=by
 unfold kA;split
 .rfl
 .split
  .split
   .exact aCR
   .rfl
  .split
   .rfl
   .exact ajp
def aGe {c:Int×Int}{r:aB}{name:ByteArray}:(own c r name).1.1=r.1:=by
 unfold own;split
 .rw[anm];rfl
 .rfl
def aCS {r:aB}{b:cN}:(Hw r b).1=r.1:=by unfold Hw;split<;>rfl
def adO {c:Int×Int}{r:aB}{b:cN}:(sB c r b).1.1=r.1:=by
 have h:(A3 c (Hw r b) (Rn c r b)).1.1=r.1:=by rw[am8,aCS]
 unfold sB Wu;split
 .split
  .split
   .rw[aGe];exact h
   .rfl
  .exact h
 .rfl
def avk {c:Int×Int}{r:aB}{p:b3}:(Fs c r p).1.1=r.1:=by
 unfold Fs;split
 .rw[anm];rfl
 .rfl
def avl {imp:Bool}{c:Int×Int}{r:aB}{view:Int}{q:b3}{dJ:Int}:(Ft imp c r view q dJ).1.1=r.1:=by
 have h:(written c r q).1.1=r.1:=am8;have b:∀(l:Bool) (a:aB),(Wv l a view q).1=a.1:=fun l a=>by unfold Wv;split<;>rfl
 unfold Ft CS;split
 .split
  .split
   .rw[b];exact h
   .rfl
  .rw[b];exact h
 .rfl
def aCT {imp:Bool}{c:Int×Int}{r:aB}{m:ch}:(Zu imp c r m).1.1=r.1:=by
 unfold Zu;split
 .exact adO
 .split
  .exact avk
  .split
   .exact avl
   .rfl
def azv {imp:Bool}{c:Int×Int}{r:aB}{m:ch}:(aa1 imp c r m).1.1=r.1:=by
 unfold aa1;split
 .exact aCT (imp:=imp)
 .rfl
def aCU {c:Int×Int}{r:aB}:(Zs c r).1.1=r.1:=by
 unfold Zs;split
 .rfl
 .split
  .split
   .rfl
   .rfl
  .split
   .rw[ajp];rfl
   .rfl
def afY {c:Int×Int}{r:aB}{m:ch}:∀(j k:Nat) (o:aB),o.1=r.1->(N8 c r m j k o).1.1=r.1
 |0,_,_,h=>h|j+1,k,o,h=>by
  unfold N8;split
  .exact afY j (k+1) o h
  .split
   .exact afY j (k+1) _ (by rw[ajp];exact h)
   .rfl
def Wx (r:aB):aB:=(r.1,r.2.1,r.2.1,r.2.2.2)
def ba.Wx {c:Int×Int}{r:aB}(h:ba c r):ba c (Wx r):=by have a:=h.view;exact⟨⟨h.f.cf,h.f.i,h.f.v,by show fT 0 60 r.2.1=true;simp only[fT,aE,bM];omega,h.f.s,h.f.p,h.f.t,h.f.d,h.f.n,h.f.h⟩,h.b⟩
def avm (c:Int×Int)(r:aB):aB×Bool:=ajo c (Wx r) (ava (ask c r).1)
def aoY (c:Int×Int)(r:aB):aB×Int :=
 if (ask c r).2=true then (if (avm c r).2=true/\(sB c (avm c r).1 (ask c r).1).2=true then ((sB c (avm c r).1 (ask c r).1).1,0) else (r,4)) else (r,3)
def aCV {c:Int×Int}{r:aB}(h:ba c r):ba c (avm c r).1:=h.Wx.aED _
def ba.aoY {c:Int×Int}{r:aB}(h:ba c r):ba c (aoY c r).1:=by
 unfold Tryz.aoY;split
 .split
  .exact(aCV h).anf _
  .exact h
 .exact h
def aEH {c:Int×Int}{r:aB}:(aoY c r).1.1=r.1:=by
 unfold aoY;split
 .split
  .rw[adO];exact afY _ _ _ rfl
  .rfl
 .rfl
def Rp (c:Int×Int)(r:aB):Nat->aB×Int
 |0=>(r,3)|k+1=>if ec (r.2.2.2.2.2.1.getD k cd).2.1=true then Rp c r k
  else if (kA c r (r.2.2.2.2.2.1.getD k cd).1 (r.2.2.2.2.2.1.getD k cd).2.1 true).2=true then ((kA c r (r.2.2.2.2.2.1.getD k cd).1 (r.2.2.2.2.2.1.getD k cd).2.1 true).1,0) else (r,3)
def azw (c:Int×Int)(r:aB):aB×Int:=Rp c r r.2.2.2.2.2.1.length
def avn {c:Int×Int}{r:aB}(h:ba c r):∀k,ba c (Rp c r k).1
 |0=>h|k+1=>by
  unfold Rp;split
  .exact avn h k
  .split
   .exact h.asS _ _ _
   .exact h
def aqk {c:Int×Int}{r:aB}:∀k,(Rp c r k).1.1=r.1
 |0=>rfl|k+1=>by
  unfold Rp;split
  .exact aqk k
  .split
   .exact anm
   .rfl
def aEI (r:aB)(d:A1):aB:=(r.1,r.2.1,r.2.2.1,r.2.2.2.1,r.2.2.2.2.1,r.2.2.2.2.2.1,d,r.2.2.2.2.2.2.2)
def afZ (r:aB)(nx:Int):aB:=aEI r (Lg r.2.2.2.2.2.2.1 nx)
def avo (c:Int×Int)(r:aB)(nx:Int):aB:=aGa c (afZ r nx)
def ba.afZ {c:Int×Int}{r:aB}(h:ba c r)(nx:Int):ba c (afZ r nx):=by
 have b:=au0 h.f.d nx;have d:=dP.1 h.f.d;have e:Lg r.2.2.2.2.2.2.1 nx=(r.2.2.2.2.2.2.1.1.take (Zr r.2.2.2.2.2.2.1 nx).toNat,Zr r.2.2.2.2.2.2.1 nx):=ak h.f.d;refine⟨⟨h.f.cf,h.f.i,h.f.v,h.f.a,h.f.s,h.f.p,h.f.t,?_,h.f.n,h.f.h⟩,?_⟩
 .show gT (Lg r.2.2.2.2.2.2.1 nx)=true;rw[e];refine dP.2 ⟨?_,?_,?_⟩
  .dsimp only;rw[bQ];omega
  .dsimp only;omega
  .dsimp only;rw[bQ];omega
 .show ∀x∈(Lg r.2.2.2.2.2.2.1 nx).1,_;rw[e];exact fun x a=>h.b x (XQ a)
def aa5 {c:Int×Int}(a:a8 c=true):bP c hK=true:=by unfold bP eI ai4 hK;simp only[a,fT];rfl
def aAT {c:Int×Int}{b:List Int}(a:a8 c=true):bP c (nq c b).1=true:=by
 unfold nq;split
 .rename_i h;exact h.2.2
 .exact aa5 a
def avp {c:Int×Int}{b:List Int}(e:a8 c=true):∀(f:Nat) (s:bm) (a:Nat),bP c s=true->bP c (Fm c b f s a).1=true
 |0,_,_,h=>h|f+1,s,a,h=>by
  cases d:Hv c b a with
  |none=>rw[gV d];exact h
  |some z =>
   obtain⟨j,k⟩:=z;rw[CO d];refine avp e f j k ?_;cases g:q2 b a with
   |none=>rw[CN g]at d;cases d
   |some y =>
    obtain⟨v,l⟩:=y;rw[CM g]at d;split at d
    .cases d
    .split at d
     .cases d
     .split at d
      .have i:=Bd Prod.fst (eh d);dsimp only at i;rw[<-i];exact aAT e
      .cases d
def avq {c:Int×Int}(a:a8 c=true)(b:List Int):bP c (fo c b).1=true:=avp a _ _ _ (aa5 a)
def ba.aHj {c:Int×Int}{r:aB}(h:ba c r):ba c (aGa c r):=by
 have b:=avq h.f.cf r.2.2.2.2.2.2.1.1;have d:=ahc c h.bt.d;have e:=dP.1 h.f.d;obtain⟨f,g,i,j⟩:=cZ b;refine⟨⟨h.f.cf,h.f.i,?_,rfl,b,rfl,rfl,?_,a7 _,fun x a=>by cases a⟩,fun x a=>h.b x (XQ a)⟩
 .show fT 1 60 (am4 (fo c r.2.2.2.2.2.2.1.1).1)=true;simp only[fT,aE,bM];unfold am4 IP tE
  repeat' split
  all_goals omega
 .show gT (r.2.2.2.2.2.2.1.1.take (fo c r.2.2.2.2.2.2.1.1).2,((fo c r.2.2.2.2.2.2.1.1).2:Int))=true;refine dP.2 ⟨?_,?_,?_⟩
  .dsimp only;rw[bQ];omega
  .dsimp only;omega
  .dsimp only;rw[bQ];omega
def ba.avo {c:Int×Int}{r:aB}(h:ba c r)(nx:Int):ba c (avo c r nx):=(h.afZ nx).aHj
abbrev pr:=Int×Int×Int×ch
def aEJ (imp:Bool)(c:Int×Int)(r:aB)(m:ch):aB×Int:=if (aa1 imp c r m).2=true/\m.1=4 then ((aa1 imp c r m).1,0) else (r,3)
def as1 (imp:Bool)(c:Int×Int)(r:aB)(d:pr):aB×Int :=
 if d.1=1 then aoY c r else if d.1=6 then azw c r else if d.1=7 then (if (Zs c r).2=true then ((Zs c r).1,0) else (r,3)) else if d.1=8 then (avo c r d.2.2.1,0) else aEJ imp c r d.2.2.2
def ba.as1 {c:Int×Int}{r:aB}(h:ba c r)(imp:Bool)(d:pr):ba c (as1 imp c r d).1:=by
 unfold Tryz.as1;split
 .exact h.aoY
 .split
  .exact avn h _
  .split
   .split
    .exact h.aHg
    .exact h
   .split
    .exact h.avo _
    .unfold aEJ;split
     .exact h.heard _ _
     .exact h
def aEK {imp:Bool}{c:Int×Int}{r:aB}{d:pr}:(as1 imp c r d).1.1=r.1:=by
 unfold as1;split
 .exact aEH
 .split
  .exact aqk _
  .split
   .split
    .exact aCU
    .rfl
   .split
    .rfl
    .unfold aEJ;split
     .exact azv
     .rfl
def vn:ai:=((0,0),[],[],[],[])
def avr (c:Int×Int)(x:gF):Prop:=cC x.2/\(iZ c x.2).2=true/\fT 0 (al (c.1-1)) x.1=true
def avs (c:Int×Int)(x:cB):Prop:=fT 0 (al (c.1-1)) x.2.2=true/\bc x.2.1.data.toList=true/\aH x.2.1.data.toList=x.1
structure aW (w:ai):Prop where
 c:a8 w.1=true
 l:hY w.1.1 w.2.1=true
 lf:(w.2.1.length:Int)<=sZ w.1
 n:(w.2.2.1.length:Int)=w.1.1
 g:∀r∈w.2.2.1,ba w.1 r
 id:∀(k:Nat) (h:k<w.2.2.1.length),(w.2.2.1[k]).1=(k:Int)
 nl:w.2.2.2.1.length<=60
 nb:∀x∈w.2.2.2.1,avr w.1 x
 sl:w.2.2.2.2.length<=300
 sb:∀x∈w.2.2.2.2,avs w.1 x
def aW.le7 {w:ai}(h:aW w):4<=w.2.2.1.length/\w.2.2.1.length<=7:=by have:=bZ h.c;have:=h.n;omega
def aW.aJ {w:ai}(h:aW w):w.2.1.length<=7:=by have a:=bZ h.c;have:=W6 h.l;omega
def axN {c:Int×Int}{x:cB}(h:avs c x):x.2.1.size<=1048576:=aU (ig h.2.1) (by omega)
def aW.w {w:ai}(h:aW w):N7 w :=
 ⟨⟨by have:=h.aJ;omega,by have:=h.le7;omega,fun x a=>(h.g x a).l,by have:=h.nl;omega,fun x a=>(h.nb x a).1,by have:=h.sl;omega,fun x a=>axN (h.sb x a)⟩,fun r b=>(h.g r b).bt.d⟩
def af0 {U:Type}{l:List U}{k:Nat}(h:k<l.length)(d:U):l.getD k d=l[k]:=aR h d
def aW.ok {w:ai}(h:aW w):b4 w=true:=by
 unfold b4 amE IN sy;simp only[aE,abc,ate,Tn,dh,dk];refine⟨h.c,h.l,by have:=h.lf;omega,h.n,by have:=h.nl;omega,by have:=h.sl;omega,fun k a=>?_,fun k a=>?_,fun k a=>?_⟩
 .unfold amD;rw[af0 a,aE,cj];exact⟨(h.g _ (bT a)).ok,h.id k a⟩
 .unfold aaQ;rw[af0 a,aE];exact(h.nb _ (bT a)).2
 .unfold aaR;rw[af0 a,aE,aE,cj];exact h.sb _ (bT a)
def cv (w:ai)(a:Int):aB:=w.2.2.1.getD a.toNat Wc
def s0 (w:ai)(a:Int)(r:aB):ai:=(w.1,w.2.1,w.2.2.1.set a.toNat r,w.2.2.2)
def axO {w:ai}{a:Int}(b:0<=a)(c:a<w.2.2.1.length):cv w a∈w.2.2.1:=by unfold cv;rw[aR (show a.toNat<w.2.2.1.length by omega)];exact bT _
def aW.rep {w:ai}(h:aW w){a:Int}(b:0<=a)(c:a<w.2.2.1.length):ba w.1 (cv w a)/\(cv w a).1=a:=by refine⟨h.g _ (axO b c),?_⟩;unfold cv;rw[aR (show a.toNat<w.2.2.1.length by omega),h.id _ (show a.toNat<w.2.2.1.length by omega)];omega
def aW.s0 {w:ai}(h:aW w){a:Int}(i:0<=a){r:aB}(d:ba w.1 r)(hi:r.1=a):aW (s0 w a r):=by
 refine⟨h.c,h.l,h.lf,by show((w.2.2.1.set a.toNat r).length:Int)=_;rw[Gq];exact h.n,fun x b=>?_,fun k f=>?_,h.nl,h.nb,h.sl,h.sb⟩
 .rcases avZ b with b|rfl
  .exact h.g x b
  .exact d
 .have c:k<(w.2.2.1.set a.toNat r).length:=f;have g:((w.2.2.1.set a.toNat r)[k]'c).1=(k:Int):=by
   rw[List.getElem_set];split
   .rename_i e;rw[hi];omega
   .exact h.id k (by rw[Gq]at c;exact c)
  exact g
def azx {c:Int×Int}{q:b3}(d:bc q.2.1.data.toList=true)(e:q.2.1.data.toList≠[]->aH q.2.1.data.toList=q.1){id:Int}(hi:fT 0 (al (c.1-1)) id=true):∀x∈S7 id q,avs c x:=by
 intro x a;unfold S7 at a;cases b:ec q.2.1 with
 |true=>rw[b,ak rfl]at a;cases a
 |false =>
  rw[b,ag (by decide)]at a;split at a
  .rw[fj.1 a];refine⟨hi,d,e fun f=>?_⟩;rw[(Le _).2 f]at b;cases b
  .cases a
def aCW {c:Int×Int}{m:ch}(e:dC c m=true){id:Int}(hi:fT 0 (al (c.1-1)) id=true):∀x∈dI id m,avs c x:=by
 have a:=asY e;have b:∀q:b3,eI c q=true->∀x∈S7 id q,avs c x:=fun q f=>by obtain⟨_,g,h,_⟩:=kt f;exact azx g (fun _=>h) hi
 rcases a.k with k|k|k|k
 .have d:=a.b k;simp only[gH,aE]at d;unfold dI;rw[ag (by omega),ag (by omega),ak k];exact b _ d.1
 .obtain⟨_,_,_,_,_,i,j⟩:=adC (a.p k).1;unfold dI;rw[ag (by omega),ak k];exact azx i j hi
 .unfold dI;rw[ag (by omega),ag (by omega),ag (by omega)];exact b _ (a.v k).2.1
 .unfold dI;rw[ak k];exact fun x l=>by cases l
def axP {l:List cB}{y x:cB}(h:x∈lZ l y):x∈l\/x=y:=by
 unfold lZ at h;split at h
 .rcases eK.1 h with h|h
  .exact .inl h
  .exact .inr (fj.1 h)
 .exact .inl h
def ann:∀{ys l:List cB} {x:cB},x∈ys.foldl lZ l->x∈l\/x∈ys
 |[],_,_,h=>.inl h|y::ys,l,x,h=>by
  rcases ann (ys:=ys) h with h|h
  .rcases axP h with h|rfl
   .exact .inl h
   .exact .inr vR
  .exact .inr (jG _ h)
def ahf {id:Int}:∀{ps:List fm} {l:List cB} {x:cB},x∈Ro id ps l->x∈l\/∃p∈ps,x∈dI id p.2
 |[],_,_,h=>.inl h|p::ps,l,x,h=>by
  rcases ahf (ps:=ps) h with h|⟨q,a,h⟩
  .rcases ann h with h|h
   .exact .inl h
   .exact .inr ⟨p,vR,h⟩
  .exact .inr ⟨q,jG _ a,h⟩
def IU {w:ai}{id:Int}(h:id∈aI w):0<=id/\id<w.2.2.1.length:=by have:=afK w.2.1 w.2.2.1.length id h;exact this
def aW.fT {w:ai}(h:aW w){a:Int}(c:0<=a)(d:a<w.2.2.1.length):fT 0 (al (w.1.1-1)) a=true:=by have b:=bZ h.c;have e:=h.n;rw[afG b.1 b.2.1];simp only[Tryz.fT,aE,bM];omega
def aW.aCX {w:ai}(h:aW w){a:Int}(b:Tryz.fT 0 (al (w.1.1-1)) a=true):0<=a/\a<w.2.2.1.length:=by have c:=bZ h.c;have d:=h.n;rw[afG c.1 c.2.1]at b;simp only[Tryz.fT,aE,bM]at b;omega
def aW.pq {w:ai}(h:aW w)(id:Int){list:List fm}(d:∀p∈list,dC w.1 p.2=true):aW (pq w id list):=by
 unfold Tryz.pq;by_cases b:id∈aI w
 .rw[ak b];have c:=IU b;refine⟨h.c,h.l,h.lf,h.n,h.g,h.id,h.nl,h.nb,ahd id h.sl,fun x a=>?_⟩;rcases ahf a with a|⟨p,e,a⟩
  .exact h.sb x a
  .exact aCW (d p e) (h.fT c.1 c.2) x a
 .rw[ag b];exact h
def aAU {c:Int×Int}{m:ch}(h:dC c m=true){a:Int}(b:fT 0 (al (c.1-1)) a=true):avr c (a,Lf m):=by have d:=Re h;exact⟨⟨by dsimp only;omega,d.2.1⟩,by rw[aAB h],b⟩
def ano {c:Int×Int}:∀{ps:List fm} {l:List gF} {x:gF},x∈afW c ps l->x∈l\/avr c x
 |[],_,_,h=>.inl h|p::ps,l,x,h=>by
  rcases ano (ps:=ps) h with h|h
  .unfold Qc at h;split at h
   .rename_i a;rcases eK.1 h with h|h
    .exact .inl h
    .rw[fj.1 h];exact .inr (aAU a.2.1 a.2.2)
   .exact .inl h
  .exact .inr h
def anp {c:Int×Int}:∀{ps:List fm} {l:List gF},l.length<=60->(afW c ps l).length<=60
 |[],_,h=>h|p::ps,l,h=>anp (ps:=ps) (aqj h p)
def aW.send {w:ai}(h:aW w)(list:List fm):aW (Ww w list) :=
 ⟨h.c,h.l,h.lf,h.n,h.g,h.id,anp h.nl,fun x a=>(ano a).elim (h.nb x) (fun h=>h),h.sl,h.sb⟩
def aW.anq {w:ai}(h:aW w){a:List gF}(b:a.length<=60)(c:∀x∈a,avr w.1 x):aW (w.1,w.2.1,w.2.2.1,a,w.2.2.2.2) :=
 ⟨h.c,h.l,h.lf,h.n,h.g,h.id,b,c,h.sl,h.sb⟩
def ba.aCY {c:Int×Int}{r:aB}(h:ba c r):∀p∈r.2.2.2.2.2.2.2,dC c p.2=true:=fun p a=>au7 (h.f.h p a)
def ba.aHk {c:Int×Int}{r:aB}(h:ba c r):∀p∈r.2.2.2.2.2.2.2,eH p.2:=fun p a=>asO (h.aCY p a)
def IV {w:ai}{a:Int}(c:0<=a)(e:a<w.2.2.1.length)(d:aB):aL w.2.2.1 a d=cv w a:=by
 have b:a.toNat<w.2.2.1.length:=by omega
 unfold cv;rw[aR b];exact aR b d
def ns (w:ai)(a:Int):List fm:=(cv w a).2.2.2.2.2.2.2
def aql (w:ai)(a:Int):ai:=s0 (pq w a (ns w a)) a (ana (cv w a))
def axQ (w:ai)(id:Int)(list:List fm):(pq w id list).1=w.1/\(pq w id list).2.2.1=w.2.2.1/\(pq w id list).2.2.2.1=w.2.2.2.1:=by unfold pq;split<;>exact⟨rfl,rfl,rfl⟩
def aW.aql {w:ai}(h:aW w){a:Int}(b:0<=a)(d:a<w.2.2.1.length):aW (aql w a):=by obtain⟨c,f⟩:=h.rep b d;have g:=h.pq a (list:=ns w a) c.aCY;have e:=(axQ w a (ns w a)).1;exact g.s0 b (by rw[e];exact c.ana) f
def aa6 (a:List gF)(k:Nat):List gF:=a.take k++a.drop (k+1)
def A6 (w:ai)(a:Int):gF:=w.2.2.2.1.getD a.toNat aw4
def anq (w:ai)(a:List gF):ai:=(w.1,w.2.1,w.2.2.1,a,w.2.2.2.2)
def aqm (w:ai)(a:Int):ai:=anq w (aa6 w.2.2.2.1 a.toNat)
def axR (imp:Bool)(w:ai)(x:gF):aB:=(aa1 imp w.1 (cv w x.1) (iZ w.1 x.2).1).1
def axS {a:List gF}{k:Nat}{x:gF}(h:x∈aa6 a k):x∈a:=by
 rcases eK.1 h with h|h
 .exact XQ h
 .exact aqD h
def axT (a:List gF)(k:Nat):(aa6 a k).length<=a.length:=by unfold aa6;rw[aN,bQ,bA];omega
def aW.aqm {w:ai}(h:aW w)(a:Int):aW (aqm w a):=h.anq (aU (axT _ _) h.nl) fun x b=>h.nb x (axS b)
def aW.aHl {w:ai}(h:aW w){a:Int}(b:0<=a)(c:a<w.2.2.2.1.length):avr w.1 (A6 w a):=by refine h.nb _ ?_;unfold A6;rw[aR (show a.toNat<w.2.2.2.1.length by omega)];exact bT _
def avt {c:Int×Int}{b:List Int}(h:(iZ c b).2=true):eH (iZ c b).1/\dC c (iZ c b).1=true:=by
 have:dC c (iZ c b).1=true:=by
  unfold iZ TH at h ⊢;split at h
  .rename_i a;rw[ak a];exact a.2.2
  .cases h
 exact⟨asO this,this⟩
def azy (d:pr):Bool:=(d.1==3) || ((d.1==4) || (d.1==5))
def aqn {d:pr}:azy d=true↔d.1=3\/d.1=4\/d.1=5:=by simp[azy]
def aCZ (imp:Bool)(w:ai)(d:pr):ai×Int:=(s0 w d.2.1 (as1 imp w.1 (cv w d.2.1) d).1,(as1 imp w.1 (cv w d.2.1) d).2)
def aqo {w:ai}(h:aW w){a:Int}(b:fT 0 (al ((w.2.2.2.1.length:Int)-1)) a=true):0<=a/\a<w.2.2.2.1.length:=by have c:=h.nl;rw[aG (by omega) (by omega)]at b;simp only[fT,aE,bM]at b;omega
def aW.aCZ {w:ai}(h:aW w)(imp:Bool){d:pr}(a:0<=d.2.1)(b:d.2.1<w.2.2.1.length):aW (aCZ imp w d).1:=by obtain⟨c,e⟩:=h.rep a b;exact h.s0 a (c.as1 imp d) (by rw[aEK];exact e)
def adP (w:ai)(x:ai×Int):ai×Int×ai:=if x.2=0 then (x.1,0,vn) else (vn,x.2,w)
def wO (w x:ai):adP w (x,0)=(x,0,vn):=ak rfl
def Fv (w y:ai){k:Int}(h:k≠0):adP w (y,k)=(vn,k,w):=ag h
def aGf (w:ai)(a:Int):ai×Int:=(s0 w a (aoY w.1 (cv w a)).1,(aoY w.1 (cv w a)).2)
def axU {w:ai}(h:aW w){a:Int}(c:0<=a)(e:a<w.2.2.1.length):Mr F0 w a=some (adP w (aGf w a)):=by
 obtain⟨b,l⟩:=h.rep c e;rw[alx,pn c (by omega),ab,IV c e,azt b,an,ab,dA b.bt,an];unfold aGf aoY;cases g:(ask w.1 (cv w a)).2 with
 |false=>rfl
 |true =>
  obtain⟨_,f,_,_⟩:=aGb g;obtain⟨i,j⟩:=Xa f;have k:yX F0 w.1 ((cv w a).1,(cv w a).2.1,(cv w a).2.1,(cv w a).2.2.2) (1,0,(ask w.1 (cv w a)).1,(0,aj,[]),(0,aj,[]),0,0,0,0,0)=some ((avm w.1 (cv w a)).1,(avm w.1 (cv w a)).2,()):=ave b.Wx (aa0 i j);dsimp only;rw[k,an,Zt (aCV b) f,an,aX,aa,ak rfl];cases (avm w.1 (cv w a)).2 with
  |false=>rw[ag (fun d=>by cases d.1)];rfl
  |true =>
   cases (sB w.1 (avm w.1 (cv w a)).1 (ask w.1 (cv w a)).1).2 with
   |false=>rw[ag (fun d=>by cases d.2)];rfl
   |true =>
    rw[ak ⟨rfl,rfl⟩,aX,aa,aa,ab];rfl
def aC0 (w:ai)(a:Int):ai×Int:=(s0 w a (azw w.1 (cv w a)).1,(azw w.1 (cv w a)).2)
def avu {w:ai}(h:aW w){a:Int}(b:0<=a)(e:a<w.2.2.1.length):Ic F0 w a=some (adP w (aC0 w a)):=by
 obtain⟨c,o⟩:=h.rep b e;have f:=c.f.l.t;rw[aij,pn b (by omega),ab,IV b e,aG (by omega) (by omega)];unfold aC0 azw;generalize p:cv w a=r at c f;have key:∀(k n:Nat),k<=r.2.2.2.2.2.1.length->k<n ->
   y6 F0 (rV F0) n (rU a ((k:Int)-1) w.1.1 w.1.2 w.1.1 w.1.2 0 0 r.1 r.2.1 r.2.2.1 r.2.2.2.1.1 r.2.2.2.1.2.1 r.2.2.2.1.2.2.1.1 r.2.2.2.1.2.2.1.2.1 r.2.2.2.1.2.2.1.2.2 r.2.2.2.1.2.2.2 r.2.2.2.2.1 r.2.2.2.2.2.1 r.2.2.2.2.2.2.1.1 r.2.2.2.2.2.2.1.2 r.2.2.2.2.2.2.2 w.2.1 w.2.2.1 w.2.2.2.1 w.2.2.2.2 [] [] [] [])
    = some (adP w (s0 w a (Rp w.1 r k).1,(Rp w.1 r k).2)):=by
  intro k
  induction k with
  |zero =>
   intro n g i;obtain⟨n,rfl⟩:∃m,n=m+1:=⟨n-1,by omega⟩;rw[GQ,aV (show ¬((0:Nat):Int)-1>=0 by omega),aa,aae];rfl
  |succ k j =>
   intro n g i;obtain⟨n,rfl⟩:∃m,n=m+1:=⟨n-1,by omega⟩;have d:k<r.2.2.2.2.2.1.length:=by omega
   have l:=aAO c (r.2.2.2.2.2.1[k]).1 (c.l.tq _ (bT d)).1 true;rw[GQ,show((k+1:Nat):Int)-1=(k:Int) by omega,aS (show(k:Int)>=0 by omega),ae,ao d,ab,ab,ab,aY d,Mw,pn b (by omega)];unfold Rp;rw[aR d,show((r.2.2.2.2.2.1[k]).2.1.toList==aj.toList)=ec (r.2.2.2.2.2.1[k]).2.1 from rfl];cases q:ec (r.2.2.2.2.2.1[k]).2.1 with
   |true =>
    rw[ak rfl,ae,aG (by omega) (by omega)];exact j n (by omega) (by omega)
   |false =>
    rw[ag (by decide),aa];refine Eq.trans (Bd (fun x=>Option.bind x _) l) ?_;rw[an];cases (kA w.1 r (r.2.2.2.2.2.1[k]).1 (r.2.2.2.2.2.1[k]).2.1 true).2 with
    |false=>rfl
    |true =>
     rw[ak rfl,ak rfl];dsimp only;rw[aX,aa,ab,Mw];rfl
 exact key r.2.2.2.2.2.1.length F0.n (bh _) (by rw[bg];omega)
def aC1 {w:ai}{a:Int}(r:aB)(list:List fm):pq (s0 w a r) a list=s0 (pq w a list) a r:=by
 have e:aI (s0 w a r)=aI w:=by unfold aI s0;dsimp only;rw[Gq]
 unfold pq;rw[e];split<;>rfl
def avv (w:ai)(a:Int):ai×Int:=if w.2.2.2.1.length+(ns w a).length<=60/\w.2.2.2.2.length+(ns w a).length<=300 then (Ww (aql w a) (ns w a),0) else (w,4)
def avw {w:ai}(h:aW w){a:Int}(b:0<=a)(d:a<w.2.2.1.length):Ib F0 w a=some (adP w (avv w a)):=by
 obtain⟨c,k⟩:=h.rep b d;have q:(ns w a).length<=30:=c.f.n;have f:∀p∈ns w a,eH p.2:=c.aHk;have r:=h.nl;have s:=h.sl;have l:=avc c;have g:=h.s0 b c.ana k;have m:vA F0 (w.1,w.2.1,w.2.2.1.set a.toNat (ana (cv w a)),w.2.2.2) a (ns w a)=some (aql w a,()):=by have:=aAS g.w g.sl a (list:=ns w a) (by omega) f;rw[aC1]at this;exact this
 have o:=h.aql b d;rw[aih,pn b (by omega),ab,IV b d,l,an];dsimp only;rw[show(cv w a).2.2.2.2.2.2.2=ns w a from rfl,aG (n:=(w.2.2.2.1.length:Int)+(ns w a).length) (by omega) (by omega),aG (n:=(w.2.2.2.2.length:Int)+(ns w a).length) (by omega) (by omega),ab,m,an,ahe o.nl (by omega) f,an];unfold avv;by_cases i:w.2.2.2.1.length+(ns w a).length<=60
 .rw[aV (show ¬(w.2.2.2.1.length:Int)+(ns w a).length>60 by omega),aa];by_cases j:w.2.2.2.2.length+(ns w a).length<=300
  .rw[aV (show ¬(w.2.2.2.2.length:Int)+(ns w a).length>300 by omega),aa,ak ⟨i,j⟩,wO];rfl
  .rw[aS (show(w.2.2.2.2.length:Int)+(ns w a).length>300 by omega),ae,ag (fun e=>j e.2),Fv _ _ (by decide)];rfl
 .rw[aS (show(w.2.2.2.1.length:Int)+(ns w a).length>60 by omega),ae,ag (fun e=>i e.1),Fv _ _ (by decide)];rfl
def aC2 (w:ai)(d:pr):ai×Int :=
 if fT 0 (al ((w.2.2.2.1.length:Int)-1)) d.2.1=true then
  if d.1=5 then (if w.2.2.2.1.length<60 then (anq w (w.2.2.2.1++[A6 w d.2.1]),0) else (w,4))
  else if d.1=3/\(A6 w d.2.1).1 ∉ w.2.1 then (s0 (aqm w d.2.1) (A6 w d.2.1).1 (axR false w (A6 w d.2.1)),0) else (aqm w d.2.1,0)
 else (w,2)
def aEL {imp:Bool}{c:Int×Int}{r:aB}{m:ch}(h:(aa1 imp c r m).2=false):(aa1 imp c r m).1=r:=by
 unfold aa1 at h ⊢;split
 .rename_i a;rw[ak a]at h;cases h
 .rfl
def aC3 {w:ai}{a:Int}(b:0<=a)(c:a<w.2.2.1.length):w.2.2.1.set a.toNat (cv w a)=w.2.2.1:=by unfold cv;rw[aR (show a.toNat<w.2.2.1.length by omega)];exact aqA _
def aEM {w:ai}{a:Int}(c:0<=a)(e:a<w.2.2.2.1.length)(d:gF):aL w.2.2.2.1 a d=A6 w a:=by
 have b:a.toNat<w.2.2.2.1.length:=by omega
 unfold A6;rw[aR b];exact aR b d
def axV {w:ai}(h:aW w)(d:pr):wq F0 w d=some (adP w (aC2 w d)):=by
 have t:=h.nl;have u:=h.aJ;have v:=h.le7;rw[alm,cy,an];unfold aC2;cases l:fT 0 (al ((w.2.2.2.1.length:Int)-1)) d.2.1 with
 |false=>rw[ag (by decide),Fv _ _ (by decide)];rfl
 |true =>
  obtain⟨i,j⟩:=aqo h l;have b:=h.aHl i j;obtain⟨m,x⟩:=avt b.2.1;obtain⟨t0,t1⟩:=h.aCX b.2.2;obtain⟨n,hid⟩:=h.rep t0 t1;have o:al (d.2.1+1)=d.2.1+1:=aG (by omega) (by omega);have p:(d.2.1+1).toNat=d.2.1.toNat+1:=by omega
  have q:([]++w.2.2.2.1.take d.2.1.toNat)++(w.2.2.2.1.take (w.2.2.2.1.length:Int).toNat).drop (d.2.1+1).toNat=aa6 w.2.2.2.1 d.2.1.toNat:=by rw[l2,l3,p];rfl
  have y:(w.2.2.2.1.take d.2.1.toNat).length<=60:=by rw[bQ];omega
  have z:((w.2.2.2.1.take (w.2.2.2.1.length:Int).toNat).drop (d.2.1+1).toNat).length<=60:=by rw[bA,bQ];omega
  have r:okT d.2.1 (w.2.2.2.1.length:Int)=true:=by simp[okT];omega
  rw[ak rfl,aX,aa,pn i j,ab,aEM i j,au (a:=0) (by omega) (by omega) (by have:=b.1.1;omega),ab,au (by omega) (by omega) (by first|omega|(simp only[aN,a1,bJ];omega)|(rw[bA,bQ];omega)),ab,r,ab,o,aaU (by omega) (by omega) (by omega),ab,au (a:=0) (by omega) (by omega) (by omega),ab,au (by omega) (by omega) (by rw[s4];omega),ab,
   q,ep (by omega),an,ap2 b.1,an,pn t0 t1,ab]
  dsimp only;rw[IV t0 t1,avh n m,an,ab];by_cases c:d.1=5
  .rw[cj.2 c,ae,ak c];by_cases g:w.2.2.2.1.length<60
   .rw[aV (show ¬(w.2.2.2.1.length:Int)>=60 by omega),aa,ak g,wO];rfl
   .rw[aS (show(w.2.2.2.1.length:Int)>=60 by omega),ae,ag g,Fv _ _ (by decide)];rfl
  .rw[b0.2 c,aa,ag c];by_cases e:d.1=3
   .rw[cj.2 e,ae];by_cases f:(A6 w d.2.1).1∈w.2.1
    .rw[aS f,aX,aa,ag (fun k=>k.2 f),wO];rfl
    .rw[aV f,fE,ae,ak ⟨e,f⟩,wO];unfold axR;cases s:(aa1 false w.1 (cv w (A6 w d.2.1).1) (iZ w.1 (A6 w d.2.1).2).1).2 with
     |true=>rfl
     |false =>
      rw[aEL s];have:=aC3 t0 t1;show some (((w.1,w.2.1,w.2.2.1,aa6 w.2.2.2.1 d.2.1.toNat,w.2.2.2.2):ai),(0:Int),_)=some ((w.1,w.2.1,w.2.2.1.set _ _,aa6 w.2.2.2.1 d.2.1.toNat,w.2.2.2.2),0,vn);rw[this];rfl
   .rw[b0.2 e,aa,ag (fun k=>e k.1),wO];rfl
def aC4 (w:ai)(d:pr):ai×Int :=
 if fT 0 (al (w.1.1-1)) d.2.1=true then (if as0 w.1 w.2.1 w.2.2.2.2 d.2.2.2=true then (if w.2.2.2.1.length<60 then (Ww w [(d.2.1,d.2.2.2)],0) else (w,4)) else (w,5)) else (w,2)
def axW {w:ai}(h:aW w){d:pr}(a:eH d.2.2.2):Mp F0 w d=some (adP w (aC4 w d)):=by
 have b:=h.nl;have e:=h.aJ;have f:=h.sl;rw[alu,cy,an,axM (by omega) (by omega) a,an,ahe b (by simp) (fun p c=>by rw[fj.1 c];exact a),an];unfold aC4;cases fT 0 (al (w.1.1-1)) d.2.1 with
 |false=>rfl
 |true =>
  cases as0 w.1 w.2.1 w.2.2.2.2 d.2.2.2 with
  |false=>rfl
  |true =>
   by_cases g:w.2.2.2.1.length<60
   .rw[aV (show ¬(w.2.2.2.1.length:Int)>=60 by omega),ak g];rfl
   .rw[aS (show(w.2.2.2.1.length:Int)>=60 by omega),ag g];rfl
def aC5 (w:ai)(d:pr):ai×Int:=if d.1=2 then avv w d.2.1 else aCZ false w d
def aqp {w:ai}{x:ai×Int}:((some (adP w x):Option (ai×Int×ai)).bind fun r=>br (r.2.1==0) (some (r.1,(0:Int),vn)) (br (r.2.1==0) none (some (vn,r.2.1,w.1,r.2.2.2))))=some (adP w x):=by
 rw[an];unfold adP;by_cases h:x.2=0
 .rw[ak h];rfl
 .rw[ag h];dsimp only;rw[b0.2 h,aa,aa]
def axX {w:ai}(h:aW w){d:pr}(o:eH d.2.2.2)(a:0<=d.2.1)(c:d.2.1<w.2.2.1.length):MA F0 w d=some (adP w (aC5 w d)):=by
 obtain⟨b,t⟩:=h.rep a c;have p:Pm F0 w.1 ((cv w d.2.1).1,(cv w d.2.1).2.1,(cv w d.2.1).2.2.1,(cv w d.2.1).2.2.2.1,(cv w d.2.1).2.2.2.2.1,(cv w d.2.1).2.2.2.2.2.1,Lg (cv w d.2.1).2.2.2.2.2.2.1 d.2.2.1,(cv w d.2.1).2.2.2.2.2.2.2)=some (avo w.1 (cv w d.2.1) d.2.2.1,()):=aCF (b.afZ d.2.2.1).bt (b.afZ d.2.2.1).ok;have e:=fun x:ai×Int=>aqp (w:=w) (x:=x)
 unfold vn at e;rw[alG,pn a (by omega),ab,axU h a c,avw h a c,avu h a c,IV a c,dA b.bt,axw b.bt.d.1,aCN b,avh b o];have q:=e (aGf w d.2.1);have r:=e (avv w d.2.1);have s:=e (aC0 w d.2.1);unfold aC5 aCZ as1;by_cases f:d.1=1
 .rw[cj.2 f,ae,ag (by omega),ak f];exact q
 .rw[b0.2 f,aa,ag f];by_cases g:d.1=2
  .rw[cj.2 g,ae,ak g];exact r
  .rw[b0.2 g,aa,ag g];by_cases i:d.1=6
   .rw[cj.2 i,ae,ak i];exact s
   .rw[b0.2 i,aa,ag i];by_cases j:d.1=8
    .rw[cj.2 j,ae,ag (by omega),ak j,wO];simp only[an,p,ab];rfl
    .rw[b0.2 j,aa];by_cases l:d.1=7
     .rw[cj.2 l,ae,ak l,an];cases (Zs w.1 (cv w d.2.1)).2 with
      |false=>rw[ag (by decide),Fv _ _ (k:=3) (show(3:Int)≠0 by decide)];rfl
      |true=>rw[ak rfl,wO,ab];rfl
     .rw[b0.2 l,aa,ag l,ag j,an];unfold aEJ;cases (aa1 false w.1 (cv w d.2.1) d.2.2.2).2 with
      |false=>rw[ag (fun n=>by cases n.1),Fv _ _ (k:=3) (show(3:Int)≠0 by decide)];rfl
      |true =>
       by_cases m:d.2.2.2.1=4
       .rw[ak ⟨rfl,m⟩,wO,aX,aa,show(d.2.2.2.1 != 4)=false by simp[m],aa,ab];rfl
       .rw[ag (fun n=>m n.2),Fv _ _ (k:=3) (show(3:Int)≠0 by decide),aX,aa,show(d.2.2.2.1 != 4)=true by simp[m],ae];rfl
def axY (w:ai)(d:pr):ai×Int:=if azy d=true then aC2 w d else if d.1=10 then aC4 w d else if d.2.1∈aI w then aC5 w d else (w,2)
def axZ {w:ai}(h:aW w){d:pr}(g:eH d.2.2.2):MB F0 w d=some (adP w (axY w d)):=by
 have hlen:=Fu w;have p:=h.le7;have b:=fun x:ai×Int=>aqp (w:=w) (x:=x)
 unfold vn at b;have f:=b (aC2 w d);have k:=b (aC4 w d);have l:=b (aC5 w d);rw[alI,axV h,axW h g,Q5 h.w.l];unfold axY;by_cases c:azy d=true
 .rw[ak c];by_cases i:d.1=3
  .rw[cj.2 i,ae];exact f
  .rw[b0.2 i,aa];by_cases j:d.1=4
   .rw[cj.2 j,ae];exact f
   .have m:d.1=5:=by have:=aqn.1 c;omega
    rw[b0.2 j,aa,cj.2 m,ae];exact f
 .have q:¬(d.1=3\/d.1=4\/d.1=5):=fun a=>c (aqn.2 a)
  rw[ag c,b0.2 (show d.1≠3 by omega),aa,b0.2 (show d.1≠4 by omega),aa,b0.2 (show d.1≠5 by omega),aa];by_cases e:d.1=10
  .rw[cj.2 e,ae,ak e];exact k
  .rw[b0.2 e,aa,ag e,an,ep (by dsimp only;omega),an];by_cases a:d.2.1∈aI w
   .obtain⟨n,o⟩:=IU a;rw[aS a,aX,aa,ak a,axX h g n o];exact l
   .rw[aV a,fE,ae,ag a,Fv _ _ (by decide)];rfl
def avx (w:ai)(d:pr):ai:=if (axY w d).2=0 then (axY w d).1 else w
def avy {w:ai}(h:aW w){d:pr}(b:eH d.2.2.2):Ig F0 w d=some ((avx w d,()),()):=by
 rw[ail,axZ h b,an];unfold avx adP;by_cases a:(axY w d).2=0
 .rw[ak a,ak a];rfl
 .rw[ag a,ag a];dsimp only;rw[b0.2 a,aa,show((axY w d).2 != 0)=true by simp[a],ae]
def aW.aIa {w:ai}(h:aW w)(d:pr):aW (avx w d):=by
 unfold avx;split
 .rename_i f;clear f;unfold axY;split
  .unfold aC2;split
   .rename_i i;obtain⟨b,c⟩:=aqo h i;have e:=h.aHl b c;split
    .split
     .rename_i g;refine h.anq (by rw[aN,bU];omega) fun x a=>?_
      rcases eK.1 a with a|a
      .exact h.nb x a
      .rw[fj.1 a];exact e
     .exact h
    .split
     .obtain⟨t0,t1⟩:=h.aCX e.2.2;obtain⟨j,hid⟩:=h.rep t0 t1;exact(h.aqm d.2.1).s0 t0 (j.heard false _) (by unfold axR;rw[azv];exact hid)
     .exact h.aqm _
   .exact h
  .split
   .unfold aC4;split
    .split
     .split
      .exact h.send _
      .exact h
     .exact h
    .exact h
   .split
    .rename_i k;obtain⟨b,c⟩:=IU k;unfold aC5;split
     .unfold avv;split
      .exact(h.aql b c).send _
      .exact h
     .exact h.aCZ false b c
    .exact h
 .exact h
def vQ (i:Int):aB:=(i,1,0,hK,[],[],([],0),[])
def Li (c:Int×Int)(aJ:List Int):ai:=(c,aJ,(List.range c.1.toNat).map fun i:Nat=>vQ (i:Int),[],[])
def adQ {c:Int×Int}(a:a8 c=true){i:Int}(e:0<=i)(f:i<c.1):ba c (vQ i):=by have d:=bZ a;refine⟨⟨a,?_,rfl,rfl,aa5 a,rfl,rfl,rfl,a7 _,fun x b=>by cases b⟩,fun x b=>by cases b⟩;show fT 0 (al (c.1-1)) i=true;rw[afG d.1 d.2.1];simp only[fT,aE,bM];omega
def aC6 {c:Int×Int}(a:a8 c=true){aJ:List Int}(d:hY c.1 aJ=true)(e:(aJ.length:Int)<=sZ c):aW (Li c aJ):=by
 have m:=bZ a;refine⟨a,d,e,?_,fun r f=>?_,fun k g=>?_,a7 _,(fun x b=>by cases b),a7 _,(fun x b=>by cases b)⟩
 .show(((List.range c.1.toNat).map fun i:Nat=>vQ (i:Int)).length:Int)=c.1;rw[pw,Lu];omega
 .obtain⟨i,h,rfl⟩:=Ey.1 f;have:=dk.1 h;exact adQ a (by omega) (by omega)
 .have j:k<((List.range c.1.toNat).map fun i:Nat=>vQ (i:Int)).length:=g;have l:(((List.range c.1.toNat).map fun i:Nat=>vQ (i:Int))[k]'j).1=(k:Int):=by rw[List.getElem_map,aqF];rfl
  exact l
def anr {c:Int×Int}(b:a8 c=true){i:Int}(d:0<=i)(e:i<c.1):LY F0 c i=some (vQ i,true,()):=by
 have a:=adQ b d e;have f:dd F0 c (i,1,0,(0,0,(0,aj,[]),aj),[],[],([],0),[])=some (true,()):=by have:=gI a.l c;rw[a.ok]at this;exact this
 rw[akT,f];rfl
def avz {c:Int×Int}(b:a8 c=true){i:Int}(d:0<=i)(e:i<c.1):M8 F0 c i=some (vQ i,true,()):=by
 have a:=adQ b d e;have f:p0 F0 c (i,1,0,(0,0,(0,aj,[]),aj),[],[],([],0),[])=some (true,()):=by have:=Q1 a.l c;rw[a.ok]at this;exact this
 rw[ama,f];rfl
def adR {c:Int×Int}{aJ:List Int}(h:aW (Li c aJ)):ko F0 c aJ=some (Li c aJ,true,()):=by
 have b:=bZ h.c;have d:a8 c=true:=h.c;have f:aJ.length<=7:=h.aJ;have g:(c.1.toNat:Int)=c.1:=Tm (by have:4<=c.1:=b.1;omega);have j:c.1.toNat<=7:=by have:c.1<=7:=b.2.1;omega
 rw[OM,au (a:=0) (by omega) (by omega) (by omega),ab];refine asE (fun n k xs=>nI F0 (oL F0) n (jT k c.1 c.2 0 0 c.1 c.2 [] [] [] [] ([]++aJ) xs [] [])) (List.range c.1.toNat) (fun i:Nat=>vQ (i:Int)) _ (fun n k xs e l=>?_) (fun n=>?_) _ (by rw[bg,Lu];omega)
 .have m:k<c.1.toNat:=by rw[Lu]at e;exact e
  rw[gd,aS (show(k:Int)<c.1 by omega),ae,show((c.1,c.2):Int×Int)=c from rfl,eV,an,d,ae,anr d (by omega) (by omega),an,au (by omega) (by omega) (by first|omega|(simp only[aN,a1,bJ];omega)|(rw[bA,bQ];omega)),ab,ah (by omega),aqF]
 .have cz:hA F0 ((c.1,c.2),[]++aJ,((List.range c.1.toNat).map fun i:Nat=>vQ (i:Int),([],[])))=some (true,()):=by have:=Fl h.w.l;rw[h.ok]at this;exact this
  rw[gd,Lu,aV (show ¬(c.1.toNat:Int)<c.1 by omega),aa,sS,cz];rfl
def New (w:ai):Prop:=∃c aJ,w=Li c aJ/\aW (Li c aJ)
def New.g {w:ai}(h:New w):aW w:=by obtain⟨c,l,rfl,a⟩:=h;exact a
def aIc (n:Int):hY n []=true:=rfl
def aId {n x:Int}(a:0<=x)(b:x<n):hY n [x]=true:=by simp[hY,a,b]
def ax0 {c:Int×Int}(h:a8 c=true):1<=sZ c:=by have a:=bZ h;unfold sZ;rw[ak h];exact(aud a.1 a.2.1).1
def aC7 {c:cY}(h:ih c):Dr (U:=ai) (oM F0 c) New:=by
 unfold Dr;rw[Uo];refine Dr.bind (cw h (l:=[4,4,4,5,7]) (by decide) (by decide)) fun x g i=>Dr.bind (aD i (n:=3) (by omega) (by omega)) fun y d j=>Dr.bind (vk j (n:=3) (by omega) (by omega)) fun z o e=>?_
 have p:x.1.1=4\/x.1.1=5\/x.1.1=7:=by simp only[cK,agd,or_false]at g;omega
 have q:=d.1;have r:=d.2;have b:a8 (x.1.1,al (1+y.1.1))=true:=by rw[aG (by omega) (by omega)];simp only[a8,fT,aE,bM];omega
 have k:=ax0 b;refine Gd.br (fun _=>?_) fun _=>?_
 .refine Dr.bind (aD e (n:=x.1.1) (by omega) (by omega)) fun v f m=>?_
  have a:aW (Li (x.1.1,al (1+y.1.1)) [v.1.1]):=aC6 b (aId f.1 f.2) (by simpa using k);exact Gd.let (adR a) (Gd.ret ⟨⟨_,_,rfl,a⟩,m⟩)
 .have a:aW (Li (x.1.1,al (1+y.1.1)) []):=aC6 b (aIc _) (by simp;omega);exact Gd.let (adR a) (Gd.ret ⟨⟨_,_,rfl,a⟩,e⟩)
def ax1 {a b:Int}{V:Type}{f:Int×Unit->Option V}{P:V->Prop}(h:Gd (f (IP a b,())) P):Gd ((bE F0 a b).bind f) P:=Gd.let (W9 a b) h
def ax2 {a b:Int}{V:Type}{f:Int×Unit->Option V}{P:V->Prop}(h:Gd (f (tE a b,())) P):Gd ((db F0 a b).bind f) P:=Gd.let (CQ a b) h
def af1 {up:ByteArray}(d:up.size<=6000){view:Int}(a:I6 view){l:List dK}(e:l.length<=10){V:Type}{f:ByteArray×Unit->Option V}{P:V->Prop}(h:∀b:ByteArray,b.size<=7000->Gd (f (b,())) P):Gd ((e2 F0 up view l).bind f) P:=by have c:=Ra (up:=up.data.toList) (by show up.size<=_;omega) a (l:=l) (by omega);have g:=W5 (up:=up.data.toList) a l;refine Gd.let c (h _ ?_);rw[bn];have:up.data.toList.length=up.size:=rfl;omega
def aa7 {w:ai}(h:aW w)(view:Int)(name:ByteArray)(d:name.size<=1048576){c:cY}(e:ih c) :
  Gd (cI F0 (dW F0) F0.n (cg view name 0 c.1 c.2.1 c.2.2 w.1.1 w.1.2 w.2.1 w.2.2.1 w.2.2.2.1 w.2.2.2.2 0 0 aj 0 aj 0 aj 0 aj 0 0 0 0 0 ([]++w.2.1) [] [] [])) fun z:DrT ch=>(∃q:b3,z.1.1=IS q/\wP q)/\ih z.2.1:=by
 have g:=h.sl;have j:=h.aJ;refine gJ (fun n i (z:List Int)=>cI F0 (dW F0) n (cg view name i c.1 c.2.1 c.2.2 w.1.1 w.1.2 w.2.1 w.2.2.1 w.2.2.2.1 w.2.2.2.2 0 0 aj 0 aj 0 aj 0 aj 0 0 0 0 0 z [] [] [])) w.2.2.2.2.length (fun k z=>z.length<=7+k) _ (fun n k z b f a=>?_) (fun n z f=>?_) F0.n 0 ([]++w.2.1) (a7 _) (by show w.2.1.length<=_;omega) (by rw[bg];omega)
 .rw[te,aO b,ae,ao b,ab,ab,ab,ah (by omega)];refine Gd.br (fun _=>Gd.br (fun _=>Gd.let (KY (by omega) _) ?_) fun _=>?_) fun _=>?_
  .exact a _ (by have:=V2 z (aL w.2.2.2.2 (k:Int) Q4).2.2;exact aU (V2 _ _) (by omega))
  .exact a _ (by omega)
  .exact a _ (by omega)
 .rw[te,aA,aa,OQ];exact Gd.ret ⟨⟨(view,name,z),rfl,d,by show z.length<=_;omega⟩,e⟩
def aC8 {c:cY}(k:ih c){w:ai}(h:aW w):Dr (U:=ch) (oQ F0 c w) fun m=>∃q:b3,m=IS q/\wP q:=by
 have t:=h.sl;have u:=h.aJ;unfold Dr;rw[Us];refine Dr.bind (aD k (n:=4) (by omega) (by omega)) fun x e f=>?_
 have v:=e.1;have A:=e.2;refine af1 (a7 _) (by rw[aG (by omega) (by omega)];exact⟨by omega,by omega⟩) (a7 _) fun b l=>?_
 refine Gd.ck (au (a:=0) (by omega) (by omega) (by omega)) (Gd.br (fun hlen=>?_) fun _=>aa7 h _ _ (by show b.size<=_;omega) f);have B:0<w.2.2.2.2.length:=by have:=s3 hlen;omega
 refine ax1 ?_;have m0:0<IP (w.2.2.2.2.length:Int) 8:=by unfold IP;split<;>omega
 have m1:IP (w.2.2.2.2.length:Int) 8<=w.2.2.2.2.length:=by unfold IP;split<;>omega
 refine Dr.bind (aD f (n:=IP (w.2.2.2.2.length:Int) 8) m0 (by omega)) fun y g o=>?_
 have C:=g.1;have D:=g.2;have p:al (al ((w.2.2.2.2.length:Int)-1)-y.1.1)=((w.2.2.2.2.length-1-y.1.1.toNat:Nat):Int):=by rw[aG (n:=(w.2.2.2.2.length:Int)-1) (by omega) (by omega),aG (by omega) (by omega)];omega
 have d:w.2.2.2.2.length-1-y.1.1.toNat<w.2.2.2.2.length:=by omega
 have i:=h.sb _ (bT d);have r:=ig i.2.1;have E:=ie (w.2.2.2.2[w.2.2.2.2.length-1-y.1.1.toNat]).2.1.data.toList;have s:=i.2.2;rw[p];refine Gd.ck (ao d) (Dr.bind (vk o (n:=3) (by omega) (by omega)) fun z F j=>?_);rw[aY d];refine Gd.br (fun _=>Gd.let (adp (aU r (by omega))) ?_) fun _=>aa7 h _ _ (by omega) j
 refine af1 (up:=upB (w.2.2.2.2[w.2.2.2.2.length-1-y.1.1.toNat]).2.1) (aU (Wq _) (by omega)) (by rw[<-s];exact⟨by omega,by omega⟩) (by simp) fun b l=>aa7 h _ _ (by show b.size<=_;omega) j
def aa8 {c:Int×Int}{q:b3}{view:Int}{l:List dK}:(gp c q view l).1.1.size<=1048576/\wP (gp c q view l).1.2:=by
 unfold gp;split
 .rename_i a;exact Xa a.1
 .exact⟨a7 _,eg⟩
def aC9 {w:ai}(h:aW w){q:b3}(b:eI w.1 q=true)(dJ:Int){view:Int}(d:0<=view)(e:view<=61){c:cY}(f:ih c) :
  Gd (bF F0 (bk F0) F0.n (bj dJ view 0 c.1 c.2.1 c.2.2 w.1.1 w.1.2 w.2.1 w.2.2.1 w.2.2.2.1 w.2.2.2.2 0 0 aj 0 aj 0 aj 0 aj 0 0 0 0 0 q.1 q.2.1 [] [] [] q.2.2)) fun z:DrT ch=>eH z.1.1/\ih z.2.1:=by
 have out:∀v:Int,0<=v->v<=61->Gd (bk F0 (.exit 1) (gf v c.1 c.2.1 c.2.2 w.1.1 w.1.2 w.2.1 w.2.2.1 w.2.2.2.1 w.2.2.2.2 0 0 aj 0 aj 0 aj 0 aj 0 0 0 0 0 q.1 q.2.1 [] [] [] q.2.2)) fun z:DrT ch=>eH z.1.1/\ih z.2.1:=fun v o p=>by
  rw[S9];refine Dr.bind (CP f) fun x r g=>?_
  have i:=adL (c:=w.1) b (view:=v) ⟨by omega,by omega⟩ (l:=[x.1.1]) (by simp);exact Gd.let i (Gd.ret ⟨aa0 aa8.1 aa8.2,g⟩)
 refine gJ (fun n k (v:Int)=>bF F0 (bk F0) n (bj dJ v k c.1 c.2.1 c.2.2 w.1.1 w.1.2 w.2.1 w.2.2.1 w.2.2.2.1 w.2.2.2.2 0 0 aj 0 aj 0 aj 0 aj 0 0 0 0 0 q.1 q.2.1 [] [] [] q.2.2)) 7 (fun k v=>0<=v/\v<=61) _ (fun n k v s a j=>?_) (fun n v a=>?_) F0.n 0 view (a7 _) ⟨d,e⟩ (by rw[bg];omega)
 .have i0:=a.1;have i1:=a.2;rw[yq,aS (show(k:Int)<7 by omega),ae];refine Gd.br (fun m=>Gd.let (K0 _ _) (Gd.br (fun _=>?_) fun _=>out v i0 i1)) fun _=>out v i0 i1
  have t:=s3 m;rw[aG (n:=v+1) (by omega) (by omega),ah (by omega)];exact j (v+1) ⟨by omega,by omega⟩
 .rw[yq,aV (show ¬((7:Nat):Int)<7 by omega),aa];exact out v a.1 a.2
def avA {w:ai}(h:aW w){q:b3}(b:eI w.1 q=true)(dJ:Int){m:ch}(g:eH m){c:cY}(i:ih c) :
  Gd ((af F0 c 4).bind fun a=>br (a.1.1==0) (some ((m,()),a.2.1,())) (br (a.1.1==1) ((af F0 a.2.1 2).bind fun f=>(bE F0 (al ((al (q.1+1))+f.1.1)) 60).bind fun j=>some (((3,j.1,(aj,0,aj,[]),(0,aj,[]),q,dJ,0,0,0,0),()),f.2.1,())) (bF F0 (bk F0) F0.n (bj dJ (al (q.1+1)) 0 a.2.1.1 a.2.1.2.1 a.2.1.2.2 w.1.1 w.1.2 w.2.1 w.2.2.1 w.2.2.2.1 w.2.2.2.2 0 0 aj 0 aj 0 aj 0 aj 0 0 0 0 0 q.1 q.2.1 [] [] [] q.2.2)))) fun z:DrT ch=>eH z.1.1/\ih z.2.1:=by
 obtain⟨_,_,l,_⟩:=kt b;have o:=ie q.2.1.data.toList;have e:al (q.1+1)=q.1+1:=aG (by omega) (by omega);refine Dr.bind (aD i (n:=4) (by omega) (by omega)) fun x p d=>Gd.br (fun _=>Gd.ret ⟨g,d⟩) fun _=>Gd.br (fun _=>?_) fun _=>?_
 .exact Dr.bind (aD d (n:=2) (by omega) (by omega)) fun y r k=>ax1 (Gd.ret ⟨Xb (aaY b) dJ,k⟩)
 .rw[e];exact aC9 h b dJ (by omega) (by omega) d
def avB {c:Int×Int}(a:a8 c=true):eI c cd=true:=by unfold eI ai4;simp only[a];rfl
def avC:H0 F0=some (cd,()):=by rw[ahO];rfl
def aGg {c:cY}(v:ih c){w:ai}(h:aW w):Dr (U:=ch) (gO F0 c w) eH:=by
 have D:=h.le7;have E:=h.aJ;unfold Dr;rw[Z3];refine Dr.bind (aC8 v h) fun x A f=>?_
 obtain⟨q,e,o⟩:=A;obtain⟨⟨m,u⟩,⟨F,G⟩⟩:=x;dsimp only at e f ⊢;subst e;have p:=Xc o;have dJ:∀(Q:b3),eI w.1 Q=true->∀g:cY,ih g->Gd (br (decide ((w.2.1.length:Int)>0)) ((af F0 g (w.2.1.length:Int)).bind fun i=>ck (bG i.1.1 (w.2.1.length:Int)) ((af F0 i.2.1 4).bind fun a=>br (a.1.1==0) (some ((IS q,()),a.2.1,())) (br (a.1.1==1) ((af F0 a.2.1 2).bind fun d=>(bE F0 (al ((al (Q.1+1))+d.1.1)) 60).bind fun k=>some (((3,k.1,(aj,0,aj,[]),(0,aj,[]),Q,aL w.2.1 i.1.1 0,0,0,0,0),()),d.2.1,())) (bF F0 (bk F0) F0.n (bj (aL w.2.1 i.1.1 0) (al (Q.1+1)) 0 a.2.1.1 a.2.1.2.1 a.2.1.2.2 w.1.1 w.1.2 w.2.1 w.2.2.1 w.2.2.2.1 w.2.2.2.2 0 0 aj 0 aj 0 aj 0 aj 0 0 0 0 0 Q.1 Q.2.1 [] [] [] Q.2.2))))) ((af F0 g 4).bind fun a=>br (a.1.1==0) (some ((IS q,()),a.2.1,())) (br (a.1.1==1) ((af F0 a.2.1 2).bind fun d=>(bE F0 (al ((al (Q.1+1))+d.1.1)) 60).bind fun k=>some (((3,k.1,(aj,0,aj,[]),(0,aj,[]),Q,0,0,0,0,0),()),d.2.1,())) (bF F0 (bk F0) F0.n (bj 0 (al (Q.1+1)) 0 a.2.1.1 a.2.1.2.1 a.2.1.2.2 w.1.1 w.1.2 w.2.1 w.2.2.1 w.2.2.2.1 w.2.2.2.2 0 0 aj 0 aj 0 aj 0 aj 0 0 0 0 0 Q.1 Q.2.1 [] [] [] Q.2.2))))) fun z:DrT ch=>eH z.1.1/\ih z.2.1:=fun Q r g s=>by
  refine Gd.br (fun B=>?_) fun _=>avA h r 0 p s
  have:=s3 B;refine Dr.bind (aD s (n:=(w.2.1.length:Int)) (by omega) (by omega)) fun y l j=>Gd.ck (pn l.1 l.2) (avA h r _ p j)
 refine Gd.let (QZ (q:=q) o w.1) (Gd.br (fun _=>Gd.let avC (Gd.br (fun _=>?_) fun _=>dJ cd (avB h.c) _ f)) fun cz=>dJ q (by simpa using cz) _ f);refine Dr.bind (vk f (n:=2) (by omega) (by omega)) fun y l j=>Gd.br (fun _=>?_) fun _=>dJ cd (avB h.c) _ j
 refine Dr.bind (aD j (n:=(w.2.2.1.length:Int)) (by omega) (by omega)) fun z b C=>Gd.ck (pn b.1 b.2) ?_
 have t:=(h.rep b.1 b.2).1;rw[IV b.1 b.2];exact Gd.let (q3 t.l.s.1.2) (dJ _ (cZ t.f.s).2.2.1 _ C)
def aHm:ch:=(0,0,(aj,cd),cd,cd,0,nW)
def IW:eH aHm:=⟨a7 _,eg,eg,eg⟩
def avD (d:pr):Prop:=eH d.2.2.2/\fT 1 10 d.1=true
def af2 {w:ai}(h:aW w)(a:Int){c:cY}(b:ih c) :
  Gd (br ((w.2.2.2.1.length:Int)==0) (some (((2,a,0,0,0,(aj,0,aj,[]),(0,aj,[]),(0,aj,[]),0,0,0,0,0),()),c,())) ((bE F0 (w.2.2.2.1.length:Int) 4).bind fun e=>(af F0 c e.1).bind fun d=>some (((3,d.1.1,0,0,0,(aj,0,aj,[]),(0,aj,[]),(0,aj,[]),0,0,0,0,0),()),d.2.1,()))) fun z:DrT pr=>avD z.1.1/\ih z.2.1:=by
 refine Gd.br (fun _=>Gd.ret ⟨⟨IW,by simp[fT]⟩,b⟩) fun f=>ax1 ?_
 have i:(w.2.2.2.1.length:Int)≠0:=by simpa using f
 have m0:0<IP (w.2.2.2.1.length:Int) 4:=by unfold IP;split<;>omega
 have m1:IP (w.2.2.2.1.length:Int) 4<=4:=by unfold IP;split<;>omega
 exact Dr.bind (aD b (n:=IP (w.2.2.2.1.length:Int) 4) m0 (by omega)) fun y j g=>Gd.ret ⟨⟨IW,by simp[fT]⟩,g⟩
def aDa {a:Int}{n k:Nat}(b:0<=a)(c:a<n)(d:k<n)(e:n<=7):0<=Int.tmod (al (a+(k:Int))) (n:Int)/\Int.tmod (al (a+(k:Int))) (n:Int)<n:=by rw[aG (by omega) (by omega),ajr (by omega)];exact⟨agf _ (by omega),ajt _ (by omega)⟩
def nz0 {n:Nat}(h:0<n):(!((n:Int)==0))=true:=by simp;omega
def ans {w:ai}(h:aW w){a:Int}(i:0<=a)(j:a<w.2.2.1.length){c:cY}(d:ih c) :
  Gd (dv F0 (dw F0) F0.n (cW (w.2.2.1.length:Int) a 0 c.1 c.2.1 c.2.2 w.1.1 w.1.2 w.2.1 w.2.2.1 w.2.2.2.1 w.2.2.2.2 0 0 0 0 0 aj 0 aj 0 aj 0 aj 0 0 0 0 0 [] [] [])) fun z:DrT pr=>avD z.1.1/\ih z.2.1:=by
 have l:=h.le7;have p:=h.aJ;refine gJ (fun n k (z:Unit)=>dv F0 (dw F0) n (cW (w.2.2.1.length:Int) a k c.1 c.2.1 c.2.2 w.1.1 w.1.2 w.2.1 w.2.2.1 w.2.2.2.1 w.2.2.2.2 0 0 0 0 0 aj 0 aj 0 aj 0 aj 0 0 0 0 0 [] [] [])) w.2.2.1.length (fun _ _=>True) _ (fun n k z e m f=>?_) (fun n z m=>?_) F0.n 0 () (a7 _) trivial (by rw[bg];omega)
 .obtain⟨b,g⟩:=aDa i j e l.2;have o:=(h.rep b g).1;rw[wo,aO e,ae,nz0 (by omega),ab,pn b (by omega),ab,IV b g,ab,ab,Tb,ah (by omega)];refine Gd.let (azt o) (Gd.br (fun _=>?_) fun _=>f () trivial);refine Gd.let (ep (by omega) _) (Gd.br (fun _=>?_) fun _=>f () trivial);exact Gd.ret ⟨⟨IW,by simp[fT]⟩,d⟩
 .rw[wo,aA,aa,QA];exact Gd.ret ⟨⟨IW,by simp[fT]⟩,d⟩
def Xf {w:ai}(h:aW w){a:Int}(e:0<=a)(f:a<w.2.2.1.length){c:cY}(b:ih c) :
  Gd (du F0 (cV F0) F0.n (cU (w.2.2.1.length:Int) a 0 c.1 c.2.1 c.2.2 w.1.1 w.1.2 w.2.1 w.2.2.1 w.2.2.2.1 w.2.2.2.2 0 0 0 0 0 aj 0 aj 0 aj 0 aj 0 0 0 0 0 [] [] [])) fun z:DrT pr=>avD z.1.1/\ih z.2.1:=by
 have g:=h.le7;refine gJ (fun n k (z:Unit)=>du F0 (cV F0) n (cU (w.2.2.1.length:Int) a k c.1 c.2.1 c.2.2 w.1.1 w.1.2 w.2.1 w.2.2.1 w.2.2.2.1 w.2.2.2.2 0 0 0 0 0 aj 0 aj 0 aj 0 aj 0 0 0 0 0 [] [] [])) w.2.2.1.length (fun _ _=>True) _ (fun n k z d i j=>?_) (fun n z i=>?_) F0.n 0 () (a7 _) trivial (by rw[bg];omega)
 .obtain⟨l,m⟩:=aDa e f d g.2;rw[wm,aO d,ae,nz0 (by omega),ab,pn l (by omega),ab,ab,Ta,ah (by omega)];refine Gd.br (fun _=>?_) fun _=>j () trivial
  exact Gd.ret ⟨⟨IW,by simp[fT]⟩,b⟩
 .rw[wm,aA,aa,Qz];exact af2 h a b
def ant {w:ai}(h:aW w)(a:Int){c:cY}(b:ih c) :
  Gd (br (decide ((w.2.1.length:Int)>0)) ((gO F0 c w).bind fun d=>some (((10,a,0,d.1.1),()),d.2.1,())) (br ((w.2.2.2.1.length:Int)==0) (some (((2,a,0,0,0,(aj,0,aj,[]),(0,aj,[]),(0,aj,[]),0,0,0,0,0),()),c,())) ((bE F0 (w.2.2.2.1.length:Int) 4).bind fun f=>(af F0 c f.1).bind fun e=>some (((3,e.1.1,0,0,0,(aj,0,aj,[]),(0,aj,[]),(0,aj,[]),0,0,0,0,0),()),e.2.1,())))) fun z:DrT pr=>avD z.1.1/\ih z.2.1 :=
 Gd.br (fun _=>Dr.bind (aGg b h) fun x g i=>Gd.ret ⟨⟨g,by simp[fT]⟩,i⟩) fun _=>af2 h a b
def aEN {c:cY}(i:ih c){w:ai}(h:aW w):Dr (U:=pr) (rB F0 c w) avD:=by
 have p:=h.le7;have q:=h.nl;unfold Dr;rw[Xq];refine ax2 ?_;have m:tE (w.2.2.1.length:Int) 1=w.2.2.1.length:=by unfold tE;rw[ag (by omega)]
 dsimp only;rw[m];refine Dr.bind (aD i (n:=(w.2.2.1.length:Int)) (by omega) (by omega)) fun x j k=>?_
 obtain⟨b,d⟩:=j;refine Dr.bind (aD k (n:=20) (by omega) (by omega)) fun y r a=>?_
 refine Gd.br (fun _=>ans h b d a) fun _=>Gd.br (fun _=>ans h b d a) fun _=>Gd.br (fun _=>ans h b d a) fun _=>Gd.br (fun _=>Xf h b d a) fun _=>Gd.br (fun _=>Xf h b d a) fun _=>Gd.br (fun _=>Xf h b d a) fun _=>Gd.br (fun _=>Xf h b d a) fun _=>Gd.br (fun _=>Gd.ret ⟨⟨IW,by simp[fT]⟩,a⟩) fun _=>Gd.br (fun _=>Gd.ret ⟨⟨IW,by simp[fT]⟩,a⟩) fun _=>Gd.br (fun _=>?_) fun _=>Gd.br (fun _=>?_) fun _=>Gd.br (fun _=>ant h _ a) fun _=>Gd.br (fun _=>ant h _ a) fun _=>Gd.br (fun _=>ant h _ a) fun _=>af2 h _ a
 .refine Dr.bind (vk a (n:=2) (by omega) (by omega)) fun z s g=>Gd.br (fun _=>?_) fun _=>?_
  .exact Dr.bind (cw g (l:=[0,0,5,40,9999]) (by decide) (by decide)) fun v f e=>Gd.ret ⟨⟨IW,by simp[fT]⟩,e⟩
  .refine Dr.bind (aD g (n:=2) (by omega) (by omega)) fun v f e=>ax2 ?_
   have m0:0<tE (w.2.2.2.1.length:Int) 1:=by unfold tE;split<;>omega
   have m1:tE (w.2.2.2.1.length:Int) 1<=60:=by unfold tE;split<;>omega
   exact Dr.bind (aD e (n:=tE (w.2.2.2.1.length:Int) 1) m0 (by omega)) fun u t o=>Gd.ret ⟨⟨IW,by have A:=f.1;have B:=f.2;simp only[fT];rw[aG (by omega) (by omega)];simp;omega⟩,o⟩
 .exact Dr.bind (CP a) fun v f e=>Gd.ret ⟨⟨⟨a7 _,eg,eg,eg⟩,by simp[fT]⟩,e⟩
def NG {l:List cB}(h:l.length<=1000)(x:cB):(lZ l x).length<=1000:=by
 unfold lZ;split
 .rename_i a;rw[aN,bU];omega
 .exact h
def af3:∀{xs:List cB} {l:List cB},l.length<=1000->(xs.foldl lZ l).length<=1000
 |[],_,h=>h|x::xs,l,h=>af3 (xs:=xs) (NG h x)
def aa9 {c:Int×Int}{a:List gF}(h:a.length<=1000)(p:fm):(Qc c a p).length<=1000:=by
 unfold Qc;split
 .rename_i b;rw[aN,bU];omega
 .exact h
def ax3 {w:ai}(h:N7 w)(j:w.2.2.2.2.length<=1000)(id:Int){list:List fm}(o:list.length<=1048576)(l:∀p∈list,eH p.2):vA F0 w id list=some (pq w id list,()):=by
 rw[YI,Wm h,an,Q5 h.l,an,ep (by have:=Fu w;have:=h.l.r;dsimp only;omega),an];unfold pq;by_cases b:id∈aI w
 .rw[aS b,ak b,aX,aa];refine IT (fun n k z=>y3 F0 (lB F0) n (pS id list k 0 0 w.1.1 w.1.2 [] [] [] [] w.2.1 w.2.2.1 w.2.2.2.1 z)) list (anj id) (fun z=>z.length<=1000) _ w.2.2.2.2 j (fun z p q d=>af3 d) (fun n k z c d=>?_) (fun n=>?_) _ (by rw[bg];omega)
  .rw[oZ,aO c,ae,ao c,ab,aY c,ani (l _ (bT c)),an];have r:=aa4 id list[k].2;refine IT (fun m a (y:List cB)=>mz F0 (y1 F0 (lB F0) n) m (iA id list (k:Int) a 0 0 w.1.1 w.1.2 (dI id list[k].2) [] [] [] [] w.2.1 w.2.2.1 w.2.2.2.1 y)) (dI id list[k].2) lZ (fun y=>y.length<=1000) _ z d (fun y x s g=>NG g x) (fun m a y e g=>?_) (fun m=>?_) _ (by rw[bg];omega)
   .rw[oY,aO e,ae,ao e,ab,aY e,aa2 (by omega),an,au (by omega) (by omega) (by first|omega|(simp only[aN,a1,bJ];omega)|(rw[bA,bQ];omega)),ab,ah (by omega)];unfold lZ;by_cases i:y.length<300
    .rw[aS (show(y.length:Int)<300 by omega),ae];cases A5 y (dI id list[k].2)[a].1 (dI id list[k].2)[a].2.1 (dI id list[k].2)[a].2.2 with
     |true=>rw[ag (fun f=>by cases f.2)];rfl
     |false=>rw[ak ⟨i,rfl⟩];rfl
    .rw[aV (show ¬(y.length:Int)<300 by omega),aa,ag (fun f=>i f.1)]
   .rw[oY,aA,aa,Ph,ah (by omega)];rfl
  .rw[oZ,aA,aa,Pj];rfl
 .rw[aV b,ag b];rfl
def ax4 {w:ai}(h:N7 w)(j:w.2.2.2.2.length<=1000)(id:Int){list:List fm}(o:list.length<=1048576)(l:∀p∈list,eH p.2):QP F0 w id list=some (pq w id list,()):=by
 rw[aoB,Zq h,an,mf h.l,an,wL (by have:=Fu w;have:=h.l.r;dsimp only;omega),an];unfold pq;by_cases b:id∈aI w
 .rw[aS b,ak b,aX,aa];refine IT (fun n k z=>IH F0 (AQ F0) n (AP id list (list.length:Int) k 0 0 w.1.1 w.1.2 [] [] [] [] w.2.1 w.2.2.1 w.2.2.2.1 z)) list (anj id) (fun z=>z.length<=1000) _ w.2.2.2.2 j (fun z p q d=>af3 d) (fun n k z c d=>?_) (fun n=>?_) _ (by rw[bg];omega)
  .rw[Np,aO c,ae,ao c,ab,aY c,avj (l _ (bT c)),an];have r:=aa4 id list[k].2;refine IT (fun m a (y:List cB)=>sk F0 (KT F0 (AQ F0) n) m (lR id list (list.length:Int) (k:Int) ((dI id list[k].2).length:Int) a 0 0 w.1.1 w.1.2 (dI id list[k].2) [] [] [] [] w.2.1 w.2.2.1 w.2.2.2.1 y)) (dI id list[k].2) lZ (fun y=>y.length<=1000) _ z d (fun y x s g=>NG g x) (fun m a y e g=>?_) (fun m=>?_) _ (by rw[bg];omega)
   .rw[No,aO e,ae,ao e,ab,aY e,afV (by omega),an,au (by omega) (by omega) (by first|omega|(simp only[aN,a1,bJ];omega)|(rw[bA,bQ];omega)),ab,ah (by omega)];unfold lZ;by_cases i:y.length<300
    .rw[aS (show(y.length:Int)<300 by omega),ae];cases A5 y (dI id list[k].2)[a].1 (dI id list[k].2)[a].2.1 (dI id list[k].2)[a].2.2 with
     |true=>rw[ag (fun f=>by cases f.2)];rfl
     |false=>rw[ak ⟨i,rfl⟩];rfl
    .rw[aV (show ¬(y.length:Int)<300 by omega),aa,ag (fun f=>i f.1)];cases A5 y (dI id list[k].2)[a].1 (dI id list[k].2)[a].2.1 (dI id list[k].2)[a].2.2<;>rfl
   .rw[No,aA,aa,afo,ah (by omega)];rfl
  .rw[Np,aA,aa,afp];rfl
 .rw[aV b,ag b];rfl
def as2 {w:ai}(e:w.2.2.2.1.length<=1000){list:List fm}(h:list.length<=1048576)(f:∀p∈list,eH p.2):mw F0 w list=some ((Ww w list,()),()):=by
 rw[Sl];refine IT (fun n k z=>gg F0 (rP F0) n (eA list k w.1.1 w.1.2 0 0 w.2.1 w.2.2.1 z w.2.2.2.2 [] [] [] [])) list (Qc w.1) (fun z=>z.length<=1000) _ w.2.2.2.1 e (fun z p i c=>aa9 c p) (fun n k z b c=>?_) (fun n=>?_) _ (by rw[bg];omega)
 .rw[kH,aO b,ae,ao b,ab,aY b,show((w.1.1,w.1.2):Int×Int)=w.1 from rfl,Rh (f _ (bT b)),an,ab,cy,an,ab,au (by omega) (by omega) (by first|omega|(simp only[aN,a1,bJ];omega)|(rw[bA,bQ];omega)),ab,ah (by omega)];dsimp only;rw[afX];unfold Qc;by_cases d:z.length<60
  .rw[aS (show(z.length:Int)<60 by omega),ae];cases g:dC w.1 list[k].2 with
   |false=>rw[ag (fun a=>by cases a.2.1)];rfl
   |true =>
    cases j:fT 0 (al (w.1.1-1)) list[k].1 with
    |false=>rw[ag (fun a=>by cases a.2.2)];rfl
    |true=>rw[ak ⟨d,rfl,rfl⟩,ae,ae,show Wp w.1 list[k].2=Lf list[k].2 from ak g]
  .rw[aV (show ¬(z.length:Int)<60 by omega),aa,ag (fun a=>d a.1)]
 .rw[kH,aA,aa,Kb];rfl
def aAV {w:ai}(h:N7 w)(e:w.2.2.2.1.length<=1000){list:List fm}(i:list.length<=1048576)(f:∀p∈list,eH p.2):WU F0 w list=some (if b4 w=true then Ww w list else w,()):=by
 rw[ar3,Zq h,an,eW h.l,an];cases cz:b4 w with
 |false=>rfl
 |true =>
  rw[aX,aa,ak rfl];refine IT (fun n k z=>qU F0 (N4 F0) n (ks list (list.length:Int) k w.1.1 w.1.2 w.2.1 w.2.2.1 w.2.2.2.1 w.2.2.2.2 0 0 w.1.1 w.1.2 [] [] [] [] w.2.1 w.2.2.1 z w.2.2.2.2)) list (Qc w.1) (fun z=>z.length<=1000) _ w.2.2.2.1 e (fun z p j c=>aa9 c p) (fun n k z b c=>?_) (fun n=>?_) _ (by rw[bg];omega)
  .rw[PX,aO b,ae,ao b,ab,aY b,show((w.1.1,w.1.2):Int×Int)=w.1 from rfl,aoP (f _ (bT b)),an,cG,an,au (by omega) (by omega) (by first|omega|(simp only[aN,a1,bJ];omega)|(rw[bA,bQ];omega)),ab,ah (by omega)];dsimp only;rw[afX];unfold Qc;cases g:dC w.1 list[k].2 with
   |false=>rw[ag (fun a=>by cases a.2.1)];rfl
   |true =>
    cases l:fT 0 (al (w.1.1-1)) list[k].1 with
    |false=>rw[ag (fun a=>by cases a.2.2)];rfl
    |true =>
     by_cases d:z.length<60
     .rw[aS (show(z.length:Int)<60 by omega),ak ⟨d,rfl,rfl⟩,show Wp w.1 list[k].2=Lf list[k].2 from ak g];rfl
     .rw[aV (show ¬(z.length:Int)<60 by omega),ag (fun a=>d a.1)];rfl
  .rw[PX,aA,aa,aiX];rfl
structure QcX (q:b3):Prop where
 v:I6 q.1
 s:q.2.1.size<=100000
 w:q.2.2.length<=100
 i:∀x∈q.2.2,I6 x
def QcX.l {q:b3}(h:QcX q):wP q:=⟨aU h.s (by omega),aU h.w (by omega)⟩
structure Wy (s:bm):Prop where
 v:I6 s.1
 k:I6 s.2.1
 q:QcX s.2.2.1
 d:s.2.2.2.size<=100000
def Wy.l {s:bm}(h:Wy s):nV s:=⟨h.q.l,aU h.d (by omega)⟩
def aAW (r:aB):Prop:=aAF r/\aH7 r
def aDb {lo hi x:Int}(h:fT lo hi x=true):lo<=x/\x<=hi:=by simpa [fT,aE,bM]using h
def aDc {n:Int}{s:List Int}(h:hY n s=true):∀x∈s,0<=x/\x<n:=by intro x b;obtain⟨k,a,rfl⟩:=af8 b;simp only[hY,aE,dh,dk,bM]at h;have:=h k a;rw[aR a]at this;exact⟨this.1,this.2.1⟩
def aGh {c:Int×Int}{q:b3}(h:eI c q=true):QcX q:=by
 obtain⟨f,g,i,d,e⟩:=kt h;have j:=ie q.2.1.data.toList;have k:=ig g;have l:=bZ f;refine⟨⟨by omega,by omega⟩,by omega,?_,?_⟩
 .by_cases a:q.2.1.data.toList=[]
  .rw[d a];exact a7 _
  .have:=W6 (e a).1;omega
 .intro x b;by_cases a:q.2.1.data.toList=[]
  .rw[d a]at b;cases b
  .have:=aDc (e a).1 x b;exact⟨by omega,by omega⟩
def avE {c:Int×Int}{s:bm}(h:bP c s=true):Wy s:=by obtain⟨d,e,a,b⟩:=cZ h;have:=ig b;exact⟨⟨by omega,by omega⟩,⟨by omega,by omega⟩,aGh a,by omega⟩
def ba.x {c:Int×Int}{r:aB}(h:ba c r):aAW r:=by have e:=bZ h.f.cf;have b:=aDb h.f.i;have f:=aDb h.f.v;rw[aG (by omega) (by omega)]at b;have a:=avE h.f.s;have g:=aaZ h.f.p;have d:=Ev h.f.t;have i:=h.f.n;exact⟨h.bt,⟨by omega,by omega⟩,⟨by omega,by omega⟩,a.v,a.k,a.q.v,aU a.d (by omega),by omega,aU d.1 (by omega),by omega⟩
structure l0 (w:ai):Prop where
 l:w.2.1.length<=100
 r:w.2.2.1.length<=100
 rx:∀x∈w.2.2.1,aAW x
 n:w.2.2.2.1.length<=1000
 nb:∀x∈w.2.2.2.1,cC x.2
 s:w.2.2.2.2.length<=1000
 st:∀x∈w.2.2.2.2,x.2.1.size<=100000
def l0.wl {w:ai}(h:l0 w):ff w:=⟨aU h.l (by omega),aU h.r (by omega),fun x a=>(h.rx x a).1.l,aU h.n (by omega),h.nb,aU h.s (by omega),fun x a=>aU (h.st x a) (by omega)⟩
def l0.wb {w:ai}(h:l0 w):axi w:=fun r a=>(h.rx r a).1.d
def l0.ww {w:ai}(h:l0 w):N7 w:=⟨h.wl,h.wb⟩
def aW.x {w:ai}(h:aW w):l0 w:=by have b:=h.le7;have c:=h.aJ;exact⟨by omega,by omega,fun x a=>(h.g x a).x,aU h.nl (by omega),fun x a=>(h.nb x a).1,aU h.sl (by omega),fun x a=>aU (ig (h.sb x a).2.1) (by omega)⟩
def l0.g {w:ai}(h:l0 w)(cz:b4 w=true):aW w:=by
 simp only[b4,aE,abc,ate]at cz;obtain⟨i,j,n,l,o,p,c,d,e⟩:=cz;have m:(w.2.2.1.length:Int)=w.1.1:=by simpa using l
 simp only[amE,dh,dk]at c;simp only[IN,dh,dk]at d;simp only[sy,dh,dk]at e;have f:∀(k:Nat) (a:k<w.2.2.1.length),sN w.1 (w.2.2.1[k])=true/\(w.2.2.1[k]).1=(k:Int):=fun k a=>by have:=c k a;simp only[amD,aR a,aE,cj]at this;exact this
 refine⟨i,j,by omega,m,fun r g=>?_,fun k a=>(f k a).2,by omega,fun x b=>?_,by omega,fun x b=>?_⟩
 .obtain⟨k,a,rfl⟩:=af8 g;exact⟨Jb.1 (f k a).1,(h.rx _ g).1.d.2⟩
 .obtain⟨k,a,rfl⟩:=af8 b;have:=d k a;simp only[aaQ,aR a,aE]at this;exact⟨h.nb _ b,this.1,this.2⟩
 .obtain⟨k,a,rfl⟩:=af8 b;have:=e k a;simp only[aaR,aR a,aE,cj]at this;exact⟨this.1,this.2.1,this.2.2⟩
def aDd:∃m,F0.n=m+1:=⟨18446744073709551615,bg⟩
def aoZ (c:Int×Int)(aJ:List Int):ai×Bool:=if b4 (Li c aJ)=true then (Li c aJ,true) else (vn,false)
def ax5 {c:Int×Int}(b:a8 c=true){aJ:List Int}(d:aJ.length<=100):l0 (Li c aJ):=by
 have g:=bZ b;refine⟨d,?_,fun r e=>?_,a7 _,(fun x a=>by cases a),a7 _,(fun x a=>by cases a)⟩
 .show((List.range c.1.toNat).map fun i:Nat=>vQ (i:Int)).length<=100;rw[pw,Lu];omega
 .obtain⟨i,f,rfl⟩:=Ey.1 e;have:=dk.1 f;exact(adQ b (by omega) (by omega)).x
def azz {c:Int×Int}(a:a8 c=false)(aJ:List Int):aoZ c aJ=(vn,false):=by unfold aoZ;rw[ag];unfold b4;rw[show a8 (Li c aJ).1=a8 c from rfl,a];exact fun h=>by cases h
def azA {c:Int×Int}(b:a8 c=false){aJ:List Int}(d:aJ.length<=100):ff (c,aJ,[],[],[])/\b4 (c,aJ,[],[],[])=false:=by refine⟨⟨aU d (by omega),a7 _,(fun x a=>by cases a),a7 _,(fun x a=>by cases a),a7 _,(fun x a=>by cases a)⟩,?_⟩;unfold b4;rw[show a8 ((c,aJ,[],[],[]):ai).1=a8 c from rfl,b];rfl
def ao0 {c:Int×Int}{aJ:List Int}(d:aJ.length<=100):ko F0 c aJ=some ((aoZ c aJ).1,(aoZ c aJ).2,()):=by
 rw[OM,au (a:=0) (by omega) (by omega) (by omega),ab];cases b:a8 c with
 |false =>
  obtain⟨g,h⟩:=azA b d;have cz:hA F0 ((c.1,c.2),[]++aJ,[],[],[])=some (false,()):=by have:=Fl g;rw[h]at this;exact this
  obtain⟨m,j⟩:=aDd;rw[azz b,j,gd,show((c.1,c.2):Int×Int)=c from rfl,eV,an,b,aa,sS,cz];cases decide ((0:Int)<c.1)<;>rfl
 |true =>
  have e:=bZ b;have l:(c.1.toNat:Int)=c.1:=Tm (by have:4<=c.1:=e.1;omega);have o:c.1.toNat<=7:=by have:c.1<=7:=e.2.1;omega
  refine asE (fun n k xs=>nI F0 (oL F0) n (jT k c.1 c.2 0 0 c.1 c.2 [] [] [] [] ([]++aJ) xs [] [])) (List.range c.1.toNat) (fun i:Nat=>vQ (i:Int)) _ (fun n k xs f p=>?_) (fun n=>?_) _ (by rw[bg,Lu];omega)
  .have q:k<c.1.toNat:=by rw[Lu]at f;exact f
   rw[gd,aS (show(k:Int)<c.1 by omega),ae,show((c.1,c.2):Int×Int)=c from rfl,eV,an,b,ae,anr b (by omega) (by omega),an,au (by omega) (by omega) (by first|omega|(simp only[aN,a1,bJ];omega)|(rw[bA,bQ];omega)),ab,ah (by omega),aqF]
  .have cz:hA F0 ((c.1,c.2),[]++aJ,((List.range c.1.toNat).map fun i:Nat=>vQ (i:Int),([],[])))=some (b4 (Li c aJ),()):=Fl (ax5 b d).wl;rw[gd,Lu,aV (show ¬(c.1.toNat:Int)<c.1 by omega),aa,sS,cz];unfold aoZ;cases b4 (Li c aJ)<;>rfl
def anu {c:Int×Int}{aJ:List Int}(b:aJ.length<=100):Eg F0 c aJ=some ((aoZ c aJ).1,(aoZ c aJ).2,()):=by
 rw[afb,IL (by omega),an];cases a:a8 c with
 |false =>
  obtain⟨f,g⟩:=azA a b;have cz:b2 F0 ((c.1,c.2),aJ,[],[],[])=some (false,()):=by have:=eW f;rw[g]at this;exact this
  obtain⟨m,h⟩:=aDd;rw[azz a,h,qb,show((c.1,c.2):Int×Int)=c from rfl,hX,an,a,aa,Hi,cz];rfl
 |true =>
  have d:=bZ a;have j:(c.1.toNat:Int)=c.1:=Tm (by have:4<=c.1:=d.1;omega);have l:c.1.toNat<=7:=by have:c.1<=7:=d.2.1;omega
  refine asE (fun n k xs=>ve F0 (AE F0) n (pf k c.1 c.2 0 0 c.1 c.2 [] [] [] [] aJ xs [] [])) (List.range c.1.toNat) (fun i:Nat=>vQ (i:Int)) _ (fun n k xs e o=>?_) (fun n=>?_) _ (by rw[bg,Lu];omega)
  .have p:k<c.1.toNat:=by rw[Lu]at e;exact e
   rw[qb,show((c.1,c.2):Int×Int)=c from rfl,hX,an,a,ae,aS (show(k:Int)<c.1 by omega),ae,avz a (by omega) (by omega),an,au (by omega) (by omega) (by first|omega|(simp only[aN,a1,bJ];omega)|(rw[bA,bQ];omega)),ab,ah (by omega),aqF]
  .have cz:b2 F0 ((c.1,c.2),aJ,((List.range c.1.toNat).map fun i:Nat=>vQ (i:Int),([],[])))=some (b4 (Li c aJ),()):=eW (ax5 a b).wl;rw[qb,show((c.1,c.2):Int×Int)=c from rfl,hX,an,a,ae,Lu,aV (show ¬(c.1.toNat:Int)<c.1 by omega),aa,Hi,cz];unfold aoZ;cases b4 (Li c aJ)<;>rfl
end Go.Am.Tryz
