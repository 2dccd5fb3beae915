/- No condition. -/
import Derived.Test.YtnllfndlcahalaaGreatDoorQoWJL3
set_option linter.all false
namespace Go.Am.Tryz
open Go.Am
def sY (a b:Int):Int:=if b>a then b else a
def GP (a b:Int):Int:=if a<b then a else b
def C4 (a b:Int):dJ F0 a b=some (sY a b,()):=by
 rw[aae];unfold sY;by_cases h:a>b
 .rw[aL h,ae,af (by omega)]
 .rw[aQ h,aa];by_cases d:b>a
  .rw[ag d]
  .rw[af d,show a=b by omega]
def YZ (a b:Int):bJ F0 a b=some (GP a b,()):=by
 rw[ase];unfold GP;by_cases h:a<b
 .rw[aL h,ae,ag h]
 .rw[aQ h,aa,af h]
def aG7 {b:ByteArray}(h:b.size<=1048576):pZ F0 b=some ((a7 b.data.toList).1,(a7 b.data.toList).2,()):=YP (UP h)
def aFi {b:ByteArray}(h:b.size<=1048576):qU F0 b=some ((a7 b.data.toList).1,(a7 b.data.toList).2,()):=Su (UP h)
def OC (a b:bZ):bZ:=if a.1>b.1 then a else b
def azy {a b:bZ}(d:uc a)(e:uc b):Iu F0 a b=some (OC a b,()):=by
 rw[alf,wE d.2,ai,wE e.2,ai];unfold OC;by_cases h:a.1>b.1
 .rw[aL h,ae,ag h]
 .rw[aQ h,aa,af h]
def axb {a b:bZ}(d:uc a)(e:uc b):IZ F0 a b=some (OC a b,()):=by
 rw[al8,w8 d.2,ai,w8 e.2,ai];unfold OC;by_cases h:a.1>b.1
 .rw[aL h,ae,ag h]
 .rw[aQ h,aa,af h]
def L8 (ss:List Rn):Bool:=decide (3<=ss.length)&&(((ss.getD (ss.length-1) (0,[])).1==aj ((ss.getD (ss.length-2) (0,[])).1+1))&&((ss.getD (ss.length-2) (0,[])).1==aj ((ss.getD (ss.length-3) (0,[])).1+1)))
def JN (b:ByteArray):Bool:=L8 (a7 b.data.toList).1
def upB (b:ByteArray):ByteArray:=tx (fL b.data.toList)
def aIY (l:List UInt8):(fL l).length<=l.length:=by
 unfold fL;split
 .rw[bB];omega
 .exact aR _
def L9 (b:ByteArray):(upB b).size<=b.size:=by unfold upB;rw[bD];exact aIY _
def aFj {b:ByteArray}(h:b.size<=1048576):du F0 (tx (fL b.data.toList))=some (aC (fL b.data.toList),()):=by have:=oW (b:=upB b) (bY (L9 b) h);rw[show(upB b).data.toList=fL b.data.toList from fl _]at this;exact this
def aBY {b:ByteArray}(h:b.size<=1048576):er F0 (tx (fL b.data.toList))=some (aC (fL b.data.toList),()):=by have:=rq (b:=upB b) (bY (L9 b) h);rw[show(upB b).data.toList=fL b.data.toList from fl _]at this;exact this
def hV (b:ByteArray):ByteArray×Bool:=if JN b=true then (upB (upB b),true) else (ak,false)
def akm {V:Type}{ss:List Rn}(g:ss.length<=30)(x y:Option V) :
  br (decide ((ss.length:Int)<3)) y (ck (bG (aj ((ss.length:Int)-1)) (ss.length:Int)) (ck (bG (aj ((ss.length:Int)-2)) (ss.length:Int)) (br ((aK ss (aj ((ss.length:Int)-1)) (0,[])).1 != (aj ((aK ss (aj ((ss.length:Int)-2)) (0,[])).1+1))) y
   (ck (bG (aj ((ss.length:Int)-2)) (ss.length:Int)) (ck (bG (aj ((ss.length:Int)-3)) (ss.length:Int)) (br ((aK ss (aj ((ss.length:Int)-2)) (0,[])).1 != (aj ((aK ss (aj ((ss.length:Int)-3)) (0,[])).1+1))) y x))))))=if L8 ss=true then x else y:=by
 unfold L8;by_cases h:3<=ss.length
 .rw[aQ (show ¬(ss.length:Int)<3 by omega),aa,aL h,en];have a:aj ((ss.length:Int)-1)=((ss.length-1:Nat):Int):=by rw[aG (by omega) (by omega)];omega
  have b:aj ((ss.length:Int)-2)=((ss.length-2:Nat):Int):=by rw[aG (by omega) (by omega)];omega
  have d:aj ((ss.length:Int)-3)=((ss.length-3:Nat):Int):=by rw[aG (by omega) (by omega)];omega
  rw[a,b,d,an (by omega),ab,an (by omega),ab,an (by omega),ab,ab,ln,ln,ln];cases e:((ss.getD (ss.length-1) (0,[])).1==aj ((ss.getD (ss.length-2) (0,[])).1+1))<;>cases f:((ss.getD (ss.length-2) (0,[])).1==aj ((ss.getD (ss.length-3) (0,[])).1+1))<;>simp only[bne,e,f]<;>rfl
 .rw[aL (show(ss.length:Int)<3 by omega),ae,aQ h];rfl
def azz {b:ByteArray}(h:b.size<=1048576):Iv F0 b=some ((hV b).1,(hV b).2,()):=by
 have d:l0 F0 (tx (fL b.data.toList))=some (upB (upB b),()):=afJ (b:=upB b) (bY (L9 b) h);rw[alh,aG7 h,ai,akm (rn _),afJ h,ai,d,ai];unfold hV JN;cases a:L8 (a7 b.data.toList).1 with
 |true =>
  have:(a7 b.data.toList).2=true:=by
   cases e:(a7 b.data.toList).2 with
   |true=>rfl|false=>rw[XT e]at a;cases a
  rw[this];rfl
 |false=>cases (a7 b.data.toList).2<;>rfl
def axc {b:ByteArray}(h:b.size<=1048576):I0 F0 b=some ((hV b).1,(hV b).2,()):=by have a:sh F0 (tx (fL b.data.toList))=some (upB (upB b),()):=afK (b:=upB b) (bY (L9 b) h);rw[ama,aFi h,ai,akm (rn _),afK h,ai,a,ai];unfold hV JN;cases d:L8 (a7 b.data.toList).1<;>rfl
def SO (c:Int×Int)(s:bd)(q:bZ):bd :=
 if bh c s=true/\eT c q=true then (s.1,sY s.2.1 (aC (fL q.2.1.data.toList)),OC q s.2.2.1,if (hV q.2.1).2=true/\amy (hV q.2.1).1 s.2.2.2=true then (hV q.2.1).1 else s.2.2.2) else s
def af2 (b:ByteArray):(hV b).1.size<=b.size:=by
 unfold hV;split
 .exact bY (L9 _) (L9 _)
 .exact aR _
def axd {s:bd}{q:bZ}(b:kg s)(a:uc q)(c:Int×Int):P7 F0 c s q=some (SO c s q,()):=by have d:=af2 q.2.1;rw[ayA,Oy b,ai,CY b,ai,SA a,ai,azy a b.1,ai,afJ a.1,ai,aFj a.1,ai,C4,ai,azz a.1,ai,azf (bY d a.1) b.2,ai];unfold SO sY;cases bh c s<;>cases eT c q<;>cases (hV q.2.1).2<;>cases amy (hV q.2.1).1 s.2.2.2<;>simp[ae,aa]
def aqJ {s:bd}{q:bZ}(b:kg s)(a:uc q)(c:Int×Int):QS F0 c s q=some (SO c s q,()):=by have d:=af2 q.2.1;rw[ayE,Jq b,ai,FW b,ai,Rq a,ai,axb a b.1,ai,afK a.1,ai,aBY a.1,ai,axc a.1,ai,SE (bY d a.1) b.2,ai];unfold SO sY;cases bh c s<;>cases eT c q<;>cases (hV q.2.1).2<;>cases amy (hV q.2.1).1 s.2.2.2<;>simp[ae,aa]
def hX (c:Int×Int)(s:bd)(b:cq):Bool:=bh c s&&(fB c b&&(decide (aC b.1.data.toList>s.1)&&decide (b.2.1>=s.2.1)))
def akn {s:bd}{b:cq}(d:kg s)(a:b.1.size<=1048576)(e:uc b.2)(c:Int×Int):yT F0 c s b=some (hX c s b,()):=by rw[alm,CY d,ai,Ov a e,ai,oW a,ai];unfold hX;cases bh c s<;>cases fB c b<;>cases decide (aC b.1.data.toList>s.1)<;>rfl
def axe {s:bd}{b:cq}(d:kg s)(a:b.1.size<=1048576)(e:uc b.2)(c:Int×Int):I2 F0 c s b=some (hX c s b,()):=by rw[amd,FW d,ai,Jm a e,ai,rq a,ai];unfold hX;cases bh c s<;>cases fB c b<;>cases decide (aC b.1.data.toList>s.1)<;>rfl
def azA (c:Int×Int)(s:bd)(b:cq):bd×Bool:=if hX c s b=true then ((aC b.1.data.toList,s.2),true) else (s,false)
def aG8 {s:bd}{b:cq}(a:kg s)(d:b.1.size<=1048576)(e:uc b.2)(c:Int×Int):P8 F0 c s b=some ((azA c s b).1,(azA c s b).2,()):=by rw[avX,Oy a,ai,akn a d e,ai,oW d,ai];unfold azA;cases hX c s b<;>rfl
def aFk {s:bd}{b:cq}(a:kg s)(d:b.1.size<=1048576)(e:uc b.2)(c:Int×Int):YI F0 c s b=some ((azA c s b).1,(azA c s b).2,()):=by rw[awk,Jq a,ai,axe a d e,ai,rq d,ai];unfold azA;cases hX c s b<;>rfl
abbrev pQ:=List Int×Int
def OD (d:pQ)(b:List Int):pQ×Bool:=if fA d=true/\d.1.length+b.length<=100000 then ((d.1++b,d.2),true) else (d,false)
def db {d:pQ}:fA d=true↔d.1.length<=100000/\0<=d.2/\d.2<=d.1.length:=by unfold fA gE;simp only[aF,bW];omega
def aBZ {d:pQ}{b:List Int}(e:d.1.length<=1048576)(i:b.length<=1048576):MU F0 d b=some ((OD d b).1,(OD d b).2,()):=by
 rw[aov,Oz e,ai,ar (by omega) (by omega) (by first|omega|(simp only[aJ,aW,bm];omega)|(rw[bc,bB];omega)),ab,LX,ai,LX,ai,ai];unfold OD;cases h:fA d with
 |false=>rfl
 |true =>
  have f:=db.1 h;by_cases a:d.1.length+b.length<=100000
  .have:fA (d.1++b,d.2)=true:=db.2 ⟨by dsimp only;rw[aJ];exact a,f.2.1,by dsimp only;rw[aJ];omega⟩;rw[this,ag ⟨rfl,a⟩];rfl
  .have:fA (d.1++b,d.2)=false:=by
    cases g:fA (d.1++b,d.2) with
    |false=>rfl
    |true =>
     have:=(db.1 g).1;dsimp only at this;rw[aJ]at this;exact absurd this a
   rw[this,af (fun h=>a h.2)];rfl
def azB {d:pQ}{b:List Int}(e:d.1.length<=1048576)(f:b.length<=1048576):NS F0 d b=some ((OD d b).1,(OD d b).2,()):=by
 rw[aps,Jr e,ai,ar (by omega) (by omega) (by first|omega|(simp only[aJ,aW,bm];omega)|(rw[bc,bB];omega)),ab,Ot,ai,aG (by omega) (by omega)];unfold OD;cases h:fA d with
 |false=>rfl
 |true =>
  by_cases a:d.1.length+b.length<=100000
  .rw[aQ (show ¬(d.1.length:Int)+b.length>100000 by omega),ag ⟨rfl,a⟩];rfl
  .rw[aL (show(d.1.length:Int)+b.length>100000 by omega),af (fun h=>a h.2)];rfl
def lj (d:pQ):pQ:=if fA d=true then (d.1,(d.1.length:Int)) else d
def aG9 {d:pQ}(a:d.1.length<=1048576):YD F0 d=some (lj d,()):=by rw[av3,Oz a,ai,LX,ai];unfold lj;cases fA d<;>rfl
def aFl {d:pQ}(a:d.1.length<=1048576):YG F0 d=some (lj d,()):=by rw[awe,Jr a,ai,Ot,ai];unfold lj;cases fA d<;>rfl
def HU (d:pQ)(keep:Int):Int:=d.2+sY 0 (GP keep ((d.1.length:Int)-d.2))
def ha (d:pQ)(keep:Int):pQ:=if fA d=true then (d.1.take (HU d keep).toNat,HU d keep) else d
def af3 {d:pQ}(h:fA d=true)(keep:Int):d.2<=HU d keep/\HU d keep<=d.1.length:=by have:=db.1 h;unfold HU sY GP;split<;>split<;>omega
def aB0 {d:pQ}(e:d.1.length<=1048576)(keep:Int):Nj F0 d keep=some (ha d keep,()):=by
 rw[aoX,Oz e,ai,LX,ai,YZ,ai,C4,ai];unfold ha;cases h:fA d with
 |false=>rfl
 |true =>
  have i:=db.1 h;have b:=af3 h keep;have f:aj ((d.1.length:Int)-d.2)=(d.1.length:Int)-d.2:=aG (by omega) (by omega);have g:aj (d.2+sY 0 (GP keep ((d.1.length:Int)-d.2)))=HU d keep:=aG (by unfold HU at b;omega) (by unfold HU at b;omega);rw[aN,aa,ag rfl];dsimp only;rw[f,g,aqy (by omega) (by omega) b.2,ab,ar (a:=0) (by omega) (by omega) (by first|omega|(simp only[aJ,aW,bm];omega)|(rw[bc,bB];omega)),ab];rfl
def azC {d:pQ}(a:d.1.length<=1048576)(keep:Int):Od F0 d keep=some (ha d keep,()):=by
 rw[apO,Jr a,ai,Ot,ai];unfold ha;cases h:fA d with
 |false=>rfl
 |true =>
  have f:=db.1 h;have g:=af3 h keep;have b:aj ((d.1.length:Int)-d.2)=(d.1.length:Int)-d.2:=aG (by omega) (by omega);have e:aj (d.2+(if (d.1.length:Int)-d.2<(if 0>keep then 0 else keep) then (d.1.length:Int)-d.2 else (if 0>keep then 0 else keep)))=HU d keep:=by
   have:d.2+(if (d.1.length:Int)-d.2<(if 0>keep then 0 else keep) then (d.1.length:Int)-d.2 else (if 0>keep then 0 else keep))=HU d keep:=by unfold HU sY GP;split<;>split<;>split<;>split<;>omega
   rw[this];exact aG (by omega) (by omega)
  rw[ae,ag rfl];dsimp only;rw[b,e,show okT (HU d keep) (d.1.length:Int)=true by simp[okT];omega,ab]
def aqK (s:bd):Int:=GP 60 (sY (sY s.1 (aj (s.2.2.1.1+1))) 1)
def axf (c:Int×Int)(r:aw):aw:=(r.1,aqK (dU c r.2.2.2.2.2.2.1.1).1,0,(dU c r.2.2.2.2.2.2.1.1).1,[],[],(r.2.2.2.2.2.2.1.1.take (dU c r.2.2.2.2.2.2.1.1).2,((dU c r.2.2.2.2.2.2.1.1).2:Int)),[])
def azD (c:Int×Int){b:List Int}(e:dj b):∀(f:Nat) (s:bd) (a:Nat),a<=b.length->(FX c b f s a).2<=b.length
 |0,s,a,d=>d|f+1,s,a,d=>by
  cases h:HT c b a with
  |none=>rw[iv h];exact d
  |some z =>
   obtain⟨g,i⟩:=z;rw[C1 h];exact azD c e f g i (azi e d h).2.1
def Ye (c:Int×Int){b:List Int}(a:dj b):(dU c b).2<=b.length:=azD c a _ _ _ (aR _)
def aHa {r:aw}(h:aFh r){c:Int×Int}(b:mU c r=true):Qu F0 c r=some (axf c r,()):=by have d:=Ye c h.d;have e:=h.d.1;rw[av5,hU h.l,ai,b,aN,aa,aw0 h.d,ai,C4,ai,C4,ai,YZ,ai];dsimp only;rw[aqy (by omega) (by omega) (by omega),ab,ar (a:=0) (by omega) (by omega) (by first|omega|(simp only[aJ,aW,bm];omega)|(rw[bc,bB];omega)),ab];rfl
def aFm {r:aw}(h:aFh r){c:Int×Int}(b:mU c r=true):Rf F0 c r=some (axf c r,()):=by have d:=Ye c h.d;have e:=h.d.1;rw[awv,dR h.l,ai,b,aN,aa,abp h.d,ai];dsimp only;rw[aqy (by omega) (by omega) (by omega),ab,ar (a:=0) (by omega) (by omega) (by first|omega|(simp only[aJ,aW,bm];omega)|(rw[bc,bB];omega)),ab];rfl
def sameAt (a b:bZ):Bool:=(a.1==b.1)&&(a.2.1.toList==b.2.1.toList)
def af4 (a b:bZ):bZ:=(a.1,a.2.1,afD a.2.2 b.2.2)
def axg {a b:bZ}(h:a.2.2.length+b.2.2.length<=1048576):DM F0 a b=some (if sameAt a b=true then af4 a b else b9,sameAt a b,()):=by rw[ahd,ayW h,ai];unfold sameAt af4 bne;cases (a.1==b.1)<;>cases (a.2.1.toList==b.2.1.toList)<;>rfl
def as0 {a b:bZ}(h:a.2.2.length+b.2.2.length<=1048576):Eu F0 a b=some (if sameAt a b=true then af4 a b else b9,sameAt a b,()):=by rw[ahS,awQ h,ai];unfold sameAt af4 bne;cases (a.1==b.1)<;>cases (a.2.1.toList==b.2.1.toList)<;>rfl
def fc (p:bZ):List bZ->List bZ
 |[]=>[p]|x::l=>if fz x p=true then x::fc p l else if sameAt x p=true then af4 x p::l else p::x::l
def bq (c:Int×Int)(l:List bZ)(p:bZ):List bZ×Bool:=if iu c p=true/\eB c (fc p l)=true then (fc p l,true) else (l,false)
def ac5 (p:bZ):∀l:List bZ,(fc p l).length<=l.length+1
 |[]=>bF _|x::l=>by
  have:=ac5 p l;unfold fc;split
  .simp only[aW];omega
  .split<;>simp
def OE (p:bZ):∀(k:Nat) (l:List bZ),(∀x∈l.take k,fz x p=true)->fc p l=l.take k++fc p (l.drop k)
 |0,l,_=>rfl|k+1,[],_=>rfl|k+1,x::l,h=>by rw[fc,ag (h x (by simp)),OE p k l fun y a=>h y (by simp[a])];rfl
def aB1 (l:List bZ):Prop:=l.length<=1000/\∀q∈l,q.2.1.size<=1048576/\q.2.2.length<=1000
def aB1.l {l:List bZ}(h:aB1 l){q:bZ}(a:q∈l):uc q:=⟨(h.2 q a).1,bY (h.2 q a).2 (by omega)⟩
def aIZ {a b:bZ}(d:a.2.1.size<=1048576/\a.2.2.length<=1000)(e:b.2.2.length<=1000):uc (af4 a b):=⟨d.1,by have:=aET a.2.2 b.2.2;show(afD a.2.2 b.2.2).length<=_;omega⟩
def aqL {p:bZ}(b:p.2.1.size<=1048576/\p.2.2.length<=1000):∀{l:List bZ},aB1 l->∀q∈fc p l,uc q
 |[],_,q,a=>by rw[fM.1 a];exact⟨b.1,by omega⟩
 |x::l,h,q,a=>by
  have e:=h.2 x pT;have d:aB1 l:=⟨by have:=h.1;rw[aW]at this;omega,fun y f=>h.2 y (jH _ f)⟩;unfold fc at a;split at a
  .rcases cS.1 a with rfl|a
   .exact h.l pT
   .exact aqL b d q a
  .split at a
   .rcases cS.1 a with rfl|a
    .exact aIZ e b.2
    .exact d.l a
   .rcases cS.1 a with rfl|a
    .exact⟨b.1,by omega⟩
    .exact h.l a
def aB2 {V:Type}(c:Int×Int)(l:List bZ)(p:bZ)(x y:Option V):br (!eB c (fc p l)) y (br (!iu c p) y x)=if iu c p=true/\eB c (fc p l)=true then x else y:=by cases eB c (fc p l)<;>cases iu c p<;>rfl
def Jt {l:List bZ}(h:aB1 l){p:bZ}(m:p.2.1.size<=1048576/\p.2.2.length<=1000)(c:Int×Int):fg F0 c l p=some ((bq c l p).1,(bq c l p).2,()):=by
 have D:=h.1;have A:uc p:=⟨m.1,by omega⟩;have E:=ac5 p l;have dd:nq F0 (c.1,c.2) (fc p l)=some (eB c (fc p l),()):=akd (by omega) (aqL m h) c;rw[ahf];refine cu (fun n k (z:Bool×List bZ)=>ic F0 (y1 F0) n (fo l z.1 k c.1 c.2 p.1 p.2.1 p.2.2 z.2)) l.length
  (fun k z=>(z.1=false/\z.2=l.take k/\∀x∈l.take k,fz x p=true)\/(z.1=true/\z.2++l.drop k=fc p l)) _ (fun n k z b i=>.inr ?_) (fun n z i=>?_) F0.n 0 (false,[]) (aR _) (.inl ⟨rfl,rfl,fun x o=>by simp at o⟩) (by rw[bz];omega)
 .have o:=h.2 _ (bP b);have s:l.drop k=l[k]::l.drop (k+1):=Vi b;rcases i with ⟨d,a,g⟩|⟨d,a⟩
  .have B:z.2.length<=1000:=by rw[a,bB];omega
   have e:=OE p k l g;rw[s,fc]at e;rw[d,kP,aM b,ae,an b,ab,aV b,nh (by omega),ai];dsimp only;rw[show((p.1,p.2.1,p.2.2):bZ)=p from rfl,abo,ai,axg (by omega),ai,nh (q:=p) (by omega),ai];cases t:fz l[k] p with
   |true =>
    refine⟨(false,z.2++[l[k]]),?_,.inl ⟨rfl,?_,?_⟩⟩
    .rw[ek,ae,aN,aa,ar (by omega) (by omega) (by first|omega|(simp only[aJ,aW,bm];omega)|(rw[bc,bB];omega)),ab,al (by omega)]
    .show z.2++[l[k]]=_;rw[ee b,a]
    .intro x u;rw[ee b]at u;rcases gF.1 u with j|j
     .exact g x j
     .rw[fM.1 j];exact t
   |false =>
    rw[t,af (by decide)]at e;cases f:sameAt l[k] p with
    |true =>
     rw[f,ag rfl]at e;refine⟨(true,z.2++[af4 l[k] p]),?_,.inr ⟨rfl,?_⟩⟩
     .rw[ek,ae,ae,ag rfl,ae,ar (by omega) (by omega) (by first|omega|(simp only[aJ,aW,bm];omega)|(rw[bc,bB];omega)),ab,al (by omega)]
     .show(z.2++[af4 l[k] p])++_=_;rw[e,a,hl];rfl
    |false =>
     rw[f,af (by decide)]at e;refine⟨(true,z.2++[p]++[l[k]]),?_,.inr ⟨rfl,?_⟩⟩
     .rw[ek,ae,ae,aa,ar (by omega) (by omega) (by first|omega|(simp only[aJ,aW,bm];omega)|(rw[bc,bB];omega)),ab,ar (by omega) (by omega) (by first|omega|(simp only[aJ,aW,bm];omega)|(rw[bc,bB];omega)),ab,al (by omega)]
     .show(z.2++[p]++[l[k]])++_=_;rw[e,a,hl,hl];rfl
  .have B:z.2.length<=1001:=by have:=n7 List.length a;rw[aJ]at this;omega
   refine⟨(true,z.2++[l[k]]),?_,.inr ⟨rfl,?_⟩⟩
   .rw[d,kP,aM b,ae,an b,ab,aV b,nh (by omega),ai];dsimp only;rw[aN,aa,ar (by omega) (by omega) (by first|omega|(simp only[aJ,aW,bm];omega)|(rw[bc,bB];omega)),ab,al (by omega)]
   .show(z.2++[l[k]])++_=_;rw[hl,<-a,s];rfl
 .have v:kK F0 (c.1,c.2) (p.1,p.2.1,p.2.2)=some (iu c p,()):=SB A c;have w:gz F0 l=some (l,()):=afY (by omega) fun q C=>h.l C
  have y:br (!eB c (fc p l)) (some (l,false,())) (br (!iu c p) (some (l,false,())) (some (fc p l,true,())))=some ((bq c l p).1,(bq c l p).2,()):=by rw[aB2];unfold bq;split<;>rfl
  rcases i with ⟨d,a,g⟩|⟨d,a⟩
  .have f:=OE p l.length l g;rw[Vl,kc]at f;rw[kc]at a;rw[d,kP,aB,aa,Hf,ek,ae,show((p.1,(p.2.1,p.2.2)):bZ)=p from rfl,nh (by omega),ai,a,ar (by omega) (by omega) (by first|omega|(simp only[aJ,aW,bm];omega)|(rw[bc,bB];omega)),ab,
    show l++[p]=fc p l from f.symm,dd,ai,v,ai,w,ai]
   exact y
  .rw[Vl,fi]at a;rw[d,kP,aB,aa,Hf,aN,aa,a,dd,ai,v,ai,w,ai];exact y
def aI0 (a b:bZ):Int:=if fz a b=true then -1 else if sameAt a b=true then 0 else 1
def US (a b:bZ):ft F0 a b=some (aI0 a b,()):=by
 rw[Fx,akc,ai,afH,ai];unfold aI0 fz sameAt aIF aIG;dsimp only;by_cases h:a.1<b.1
 .rw[ag h,aL h];rfl
 .rw[af h,aQ h,JT];by_cases d:a.1>b.1
  .rw[ag d,bU.2 (show a.1≠b.1 by omega)];rfl
  .rw[af d,show a.1=b.1 by omega,Vk,en,en];cases Op.bytesLess a.2.1.toList b.2.1.toList<;>cases (a.2.1.toList==b.2.1.toList)<;>rfl
def amU {γ:Type}(X:Nat->Int->Option γ)(L:Nat)(p:Nat->Bool)(E:Nat->Option γ)(b:∀n k,k<L->X (n+1) (k:Int)=if p k=true then X n ((k+1:Nat):Int) else E k)(d:∀n,X (n+1) (L:Int)=E L) :
  ∀(j k n:Nat),k+j=L->(∀i,i<k->p i=true)->j<n->∃i,i<=L/\(∀j,j<i->p j=true)/\(i<L->p i=false)/\X n (k:Int)=E i
 |0,k,n+1,f,a,g=>⟨L,bF _,fun j s=>a j (by omega),fun h=>absurd h (Vo _),by rw[show k=L by omega];exact d n⟩
 |j+1,k,n+1,f,a,g=>by
  cases h:p k with
  |true =>
   obtain⟨i,l,m,o,q⟩:=amU X L p E b d j (k+1) n (by omega) (fun i t=>by
    by_cases e:i=k
    .rw[e];exact h
    .exact a i (by omega)) (by omega)
   exact⟨i,l,m,o,by rw[b n k (by omega),h,ag rfl];exact q⟩
  |false=>exact⟨k,by omega,a,fun _=>h,by rw[b n k (by omega),h,af (by decide)]⟩
def aFn {p:bZ}{l:List bZ}{i:Nat}(hi:i<=l.length)(b:∀a (h:a<l.length),a<i->fz l[a] p=true)(d:∀h:i<l.length,fz l[i] p=false) :
  fc p l=if h:i<l.length then (if sameAt l[i] p=true then l.set i (af4 l[i] p) else l.take i++[p]++l.drop i) else l.take i++[p]++l.drop i:=by
 rw[OE p i l fun x e=>by obtain⟨a,f,rfl⟩:=ai4 e;rw[bB]at f;rw[List.getElem_take];exact b a (by omega) (by omega)]
 by_cases h:i<l.length
 .rw[dif_pos h,Vi h,fc,d h,af (by decide)];split
  .rw[List.set_eq_take_append_cons_drop,ag h]
  .simp
 .rw[dif_neg h,auO (by omega)];simp[fc]
def ES {l:List bZ}(h:aB1 l){p:bZ}(j:p.2.1.size<=1048576/\p.2.2.length<=1000)(c:Int×Int):eK F0 c l p=some ((bq c l p).1,(bq c l p).2,()):=by
 have C:=h.1;have v:uc p:=⟨j.1,by omega⟩;have D:=ac5 p l;have dd:kV F0 (c.1,c.2) (fc p l)=some (eB c (fc p l),()):=afI (by omega) (aqL j h) c;have m:eJ F0 l=some (l,()):=abt (by omega) fun q w=>h.l w
 have x:fh F0 (p.1,p.2.1,p.2.2)=some (p,()):=Bs (q:=p) (by omega);rw[ahU,Oq v,ai,m,ai,ai];cases o:iu c p with
 |false =>
  unfold bq;rw[o,af (by simp)];rfl
 |true =>
  have e:br (!eB c (fc p l)) (some (l,false,())) (some (fc p l,true,()))=some ((bq c l p).1,(bq c l p).2,()):=by unfold bq;rw[o];cases eB c (fc p l)<;>simp[br]
  rw[aN,aa];obtain⟨i,f,y,s,z⟩:=amU (fun n k=>vx F0 (pK F0) n (pJ l k c.1 c.2 p.1 p.2.1 p.2.2 l)) l.length (fun k=>fz (l.getD k b9) p) (fun k=>pK F0 (.exit 0) (nR l (k:Int) c.1 c.2 p.1 p.2.1 p.2.2 l))
   (fun n k d=>by rw[FE,aM d,ae,an d,ab,aV d,show((p.1,p.2.1,p.2.2):bZ)=p from rfl,US,ai,al (by omega),aI d];unfold aI0;cases fz l[k] p<;>cases sameAt l[k] p<;>rfl)
   (fun n=>by rw[FE,aB,aa]) l.length 0 F0.n (by omega) (fun i a=>absurd a (S0 _)) (by rw[bz];omega)
  have b:=aFn (p:=p) f (fun A t B=>by have:=y A B;rw[aI t]at this;exact this) (fun a=>by have:=s a;rw[aI a]at this;exact this);refine B2 z ?_;rw[Zu,x,ai,m,ai];by_cases a:i<l.length
  .rw[dif_pos a]at b;have t:=h.2 _ (bP a);rw[aM a,ae,an a,ab,aV a,show((p.1,p.2.1,p.2.2):bZ)=p from rfl,US,ai];unfold aI0;have u:=s a;rw[aI a]at u;rw[u,af (by decide)];cases g:sameAt l[i] p with
   |true =>
    rw[g,ag rfl]at b;rw[ag rfl,show((0:Int)==0)=true from rfl,ae,as0 (by omega),ai,g,ag rfl,ab,ab,ho];dsimp only;rw[<-b,dd,ai];exact e
   |false =>
    rw[g,af (by decide)]at b;rw[af (by decide),show((1:Int)==0)=false from rfl,aa,JH f (by simp) (by simp only[aW,bm];omega),ab,ho,<-b,dd,ai];exact e
  .rw[dif_neg a]at b;rw[aQ (show ¬(i:Int)<(l.length:Int) by omega),aa,JH f (by simp) (by simp only[aW,bm];omega),ab,ho,<-b,dd,ai];exact e
def dk (l:List bZ)(view:Int)(name:ByteArray):bZ:=match l.find? fun x=>(x.1==view)&&(x.2.1.toList==name.toList) with
 |some x=>x|none=>(view,name,[])
def aul {U:Type}{p:U->Bool}{l:List U}{k:Nat}(a:k<l.length):(l.drop k).find? p=if p l[k]=true then some l[k] else (l.drop (k+1)).find? p:=by rw[Vi a,List.find?_cons];cases p l[k]<;>rfl
def SP {l:List bZ}(h:l.length<=1048576)(f:∀q∈l,uc q)(view:Int)(name:ByteArray):oM F0 l view name=some (dk l view name,()):=by
 rw[ag1];refine cu (fun n k (z:Unit)=>om F0 (pf F0) n (kN l view name k 0 ak [])) l.length (fun k _=>l.find? (fun x=>(x.1==view)&&(x.2.1.toList==name.toList))=(l.drop k).find? fun x=>(x.1==view)&&(x.2.1.toList==name.toList)) _ (fun n k z b a=>?_) (fun n z a=>?_) F0.n 0 () (aR _) rfl (by rw[bz];omega)
 .rw[aul b]at a;rw[Fe,aM b,ae,an b,ab,ab,ab,aV b,nh (f _ (bP b)).2,ai,ab6,al (by omega)];cases d:(l[k].1==view) with
  |false =>
   rw[d,ZN,af (by decide)]at a;exact .inr ⟨(),aa _ _,a⟩
  |true =>
   cases e:(l[k].2.1.toList==name.toList) with
   |false =>
    rw[d,e,en,af (by decide)]at a;exact .inr ⟨(),by rw[ae,aa],a⟩
   |true =>
    rw[d,e,en,ag rfl]at a;refine .inl ?_;unfold dk;rw[a];rfl
 .rw[Vl]at a;rw[Fe,aB,aa,Zi];unfold dk;rw[a];rfl
def abv {l:List bZ}(h:l.length<=1048576)(f:∀q∈l,uc q)(view:Int)(name:ByteArray):tU F0 l view name=some (dk l view name,()):=by
 rw[ahV];refine cu (fun n k (z:Unit)=>oz F0 (pL F0) n (k5 view name l (l.length:Int) k 0 ak [])) l.length (fun k _=>l.find? (fun x=>(x.1==view)&&(x.2.1.toList==name.toList))=(l.drop k).find? fun x=>(x.1==view)&&(x.2.1.toList==name.toList)) _ (fun n k z b a=>?_) (fun n z a=>?_) F0.n 0 () (aR _) rfl (by rw[bz];omega)
 .rw[aul b]at a;rw[FF,aM b,ae,an b,ab,aV b,Bs (f _ (bP b)).2,ai,acA,al (by omega)];cases d:(l[k].1==view) with
  |false =>
   rw[d,ZN,af (by decide)]at a;exact .inr ⟨(),aa _ _,a⟩
  |true =>
   cases e:(l[k].2.1.toList==name.toList) with
   |false =>
    rw[d,e,en,af (by decide)]at a;exact .inr ⟨(),by rw[ae,aa],a⟩
   |true =>
    rw[d,e,en,ag rfl]at a;refine .inl ?_;unfold dk;rw[a];rfl
 .rw[Vl]at a;rw[FF,aB,aa,Zv];unfold dk;rw[a];rfl
def af5 (l:List bZ)(view:Int):List bZ:=l.filter fun x=>decide (x.1>=view)
def as1 {l:List bZ}(h:l.length<=1048576)(b:∀q∈l,uc q)(view:Int):y8 F0 l view=some (af5 l view,()):=by
 rw[aev];refine amT (fun n k xs=>mn F0 (wc F0) n (jQ l view k xs)) l (fun x=>decide (x.1>=view)) _ (fun n k xs a d=>?_) (fun n=>?_) _ (by rw[bz];omega)
 .rw[BI,aM a,ae,an a,ab,ab,aV a,nh (b _ (bP a)).2,ai,ar (by omega) (by omega) (by first|omega|(simp only[aJ,aW,bm];omega)|(rw[bc,bB];omega)),ab,al (by omega)];cases decide (l[k].1>=view)<;>rfl
 .rw[BI,aB,aa,WJ];rfl
def aqM {l:List bZ}(h:l.length<=1048576)(b:∀q∈l,uc q)(view:Int):gW F0 l view=some (af5 l view,()):=by
 rw[afc];refine amT (fun n k xs=>mN F0 (wz F0) n (jU view l (l.length:Int) k xs)) l (fun x=>decide (x.1>=view)) _ (fun n k xs a d=>?_) (fun n=>?_) _ (by rw[bz];omega)
 .rw[BO,aM a,ae,an a,ab,aV a,Bs (b _ (bP a)).2,ai,ar (by omega) (by omega) (by first|omega|(simp only[aJ,aW,bm];omega)|(rw[bc,bB];omega)),ab,al (by omega)];cases decide (l[k].1>=view)<;>rfl
 .rw[BO,aB,aa,Xx];rfl
def OF {a b c:dG}(d:ff a b=true)(e:ff b c=true):ff a c=true:=by simp only[ff,kB,aF,bW,bf]at *;omega
def aFo (a:dG):ff a a=false:=by simp[ff]
def aiK {U:Type}(d:U)(p:U->Bool)(q:U->U->Bool)(l:List U):XY d p q l=true↔(∀k (h:k<l.length),p l[k]=true)/\∀k (h:k+1<l.length),q l[k] l[k+1]=true:=by
 unfold XY;rw[ea];constructor
 .intro h;refine⟨fun k a=>?_,fun k a=>?_⟩
  .have:=h k (eS.2 a);rw[aI a,aF]at this;exact this.1
  .have:=h (k+1) (eS.2 a);rw[aI a,show k+1-1=k from rfl,aI (show k<l.length by omega),aF,kB]at this;rcases this.2 with b|b
   .exact absurd (lE b) (by omega)
   .exact b
 .intro h k a;have a:=eS.1 a;rw[aI a,aF,kB];refine⟨h.1 k a,?_⟩;cases k with
  |zero=>exact .inl (aL rfl)|succ k=>rw[show k+1-1=k from rfl,aI (show k<l.length by omega)];exact .inr (h.2 k a)
def axh {U:Type}{q:U->U->Bool}(g:∀a b c,q a b=true->q b c=true->q a c=true){l:List U}(h:∀k (h:k+1<l.length),q l[k] l[k+1]=true){i:Nat}:∀(j:Nat) (d:i<j) (f:j<l.length),q (l[i]'(by omega)) l[j]=true
 |0,d,_=>absurd d (S0 _)|j+1,d,f=>by
  by_cases e:i=j
  .subst e;exact h i f
  .exact g _ _ _ (axh g h j (by omega) (by omega)) (h j f)
def ET (x:dG):List dG->List dG
 |[]=>[x]|y::l=>if ff y x=true then y::ET x l else x::y::l
def lR (l:List dG)(x:dG):List dG×Bool:=if eW (ET x l)=true then (ET x l,true) else (l,false)
def ako (x:dG):∀l:List dG,(ET x l).length=l.length+1
 |[]=>rfl|y::l=>by
  unfold ET;split
  .rw[aW,ako x l,aW]
  .rfl
def ac6 {x:dG}:∀{l:List dG} {i:Nat},i<=l.length->(∀a (h:a<l.length),a<i->ff l[a] x=true)->(∀h:i<l.length,ff l[i] x=false)->ET x l=l.take i++[x]++l.drop i
 |[],i,b,_,_=>by rw[show i=0 by simpa using b];rfl
 |y::l,0,_,_,d=>by have:=d (by simp);rw[ET,af (by rw[show ff y x=false from this];decide)];rfl
 |y::l,i+1,b,e,d=>by have f:ff y x=true:=e 0 (by simp) (by omega);rw[ET,ag f,ac6 (l:=l) (i:=i) (by simpa using b) (fun a g j=>e (a+1) (by simpa using g) (by omega)) (fun h=>d (by simpa using h))];rfl
set_option maxRecDepth 20000 in
def azE {l:List dG}(h:l.length<=1000000)(x:dG):IC F0 l x=some ((lR l x).1,(lR l x).2,()):=by
 rw[als];obtain⟨i,e,f,g,j⟩:=amU (γ:=List dG×Bool×Unit) (fun n k=>y7 F0 (r3 F0) n (r0 l k x.1 x.2.1 x.2.2.1 x.2.2.2)) l.length (fun k=>ff (l.getD k mW) x) (fun k=>r3 F0 (.exit 0) (pw l (k:Int) x.1 x.2.1 x.2.2.1 x.2.2.2))
  (fun n k b=>by
   rw[Hg,aM b,ae,an b,ab,aV b,show((x.1,x.2.1,x.2.2.1,x.2.2.2):dG)=x from rfl,afG,ai,al (by omega),aI b];cases v:ff l[k] x with
   |true=>rw[ae,ag rfl]|false=>rw[aa,af (by decide)])
  (fun n=>by rw[Hg,aB,aa]) l.length 0 F0.n (by omega) (fun i d=>absurd d (S0 _)) (by rw[bz];omega)
 have m:=ac6 (x:=x) e (fun o q s=>by have:=f o s;rw[aI q]at this;exact this) (fun d=>by have:=g d;rw[aI d]at this;exact this);have w:=ako x l;refine B2 j ?_;have t:(l.take (i:Int).toNat).drop (0:Int).toNat=l.take i:=by rw[ho];rfl
 have u:(l.take (l.length:Int).toNat).drop (i:Int).toNat=l.drop i:=by rw[ho,ho,kc]
 have y:(l.take i).length<=l.length:=by rw[bB];omega
 have z:(l.drop i).length<=l.length:=by rw[bc];omega
 rw[acf,t,u,BA,aGS e,ab,ar (a:=0) (by omega) (by omega) (by first|omega|(simp only[aJ,aW,bm];omega)|(rw[bc,bB];omega)),ab,ar (by omega) (by omega) (by first|omega|(simp only[aJ,aW,bm];omega)|(rw[bc,bB];omega)),ab,YQ e (bF _),ab,ar (by omega) (by omega) (by first|omega|(simp only[aJ,aW,bm];omega)|(rw[bc,bB];omega)),ab,show((x.1,(x.2.1,(x.2.2.1,x.2.2.2))):dG)=x from rfl,<-m,aqc (by omega),ai,
  ar (a:=0) (by omega) (by omega) (by first|omega|(simp only[aJ,aW,bm];omega)|(rw[bc,bB];omega)),ab]
 unfold lR;cases eW (ET x l)<;>rfl
def aDZ {x:dG}{l:List dG}{i:Nat}(hi:i<=l.length)(h:eW (l.take i++[x]++l.drop i)=true):(∀d (e:d<l.length),d<i->ff l[d] x=true)/\∀d (e:d<l.length),i<=d->ff x l[d]=true:=by
 unfold eW at h;rw[aF,aiK]at h;have k:=h.1.2;have hlen:(l.take i++[x]++l.drop i).length=l.length+1:=by simp;omega
 have n:∀d (e:d<l.length) (f:d<i),(l.take i++[x]++l.drop i)[d]'(by omega)=l[d]:=fun d e f=>by rw[aAw (by simp;omega),aAw (by simp;omega),List.getElem_take]
 have m:(l.take i++[x]++l.drop i)[i]'(by omega)=x:=by rw[aAw (by simp;omega),List.getElem_append_right (by simp;omega)];simp
 have o:∀d (e:d<l.length) (f:i<=d),(l.take i++[x]++l.drop i)[d+1]'(by omega)=l[d]:=fun d e f=>by
  rw[List.getElem_append_right (by simp;omega),List.getElem_drop]
  congr 1
  simp;omega
 refine⟨fun d e f=>?_,fun d e f=>?_⟩
 .have:=axh (q:=ff) (l:=l.take i++[x]++l.drop i) (fun a b c g j=>OF g j) k (i:=d) i f (by omega);rw[n d e f,m]at this;exact this
 .have:=axh (q:=ff) (l:=l.take i++[x]++l.drop i) (fun a b c g j=>OF g j) k (i:=i) (d+1) (by omega) (by omega);rw[m,o d e f]at this;exact this
def aqN {a b:dG}(h:ff a b=true):ff b a=false:=by
 cases d:ff b a with
 |false=>rfl
 |true =>
  have:=OF h d;rw[aFo]at this;cases this
def aHb {x:dG}{l:List dG}{i k:Nat}(hi:i<=l.length)(o:k<=l.length)(j:∀d (h:d<l.length),d<i->ff l[d] x=true)(q:∀h:i<l.length,ff l[i] x=false)
  (s:∀d (h:d<l.length),d<k->ff x l[d]=false) (m:∀h:k<l.length,ff x l[k]=true):eW (l.take k++[x]++l.drop k)=eW (l.take i++[x]++l.drop i)/\(eW (l.take i++[x]++l.drop i)=true->k=i):=by
 by_cases e:k=i
 .subst e;exact⟨rfl,fun _=>rfl⟩
 .have n:eW (l.take i++[x]++l.drop i)=false:=by
   cases h:eW (l.take i++[x]++l.drop i) with
   |false=>rfl
   |true =>
    have g:=(aDZ hi h).2;exfalso;rcases Nat.lt_or_gt_of_ne e with f|f
    .have a:=m (by omega);have b:=j k (by omega) f;rw[aqN a]at b;cases b
    .have a:=g i (by omega) (bF _);have b:=s i (by omega) f;rw[a]at b;cases b
  have t:eW (l.take k++[x]++l.drop k)=false:=by
   cases h:eW (l.take k++[x]++l.drop k) with
   |false=>rfl
   |true =>
    have g:=(aDZ o h).1;exfalso;rcases Nat.lt_or_gt_of_ne e with f|f
    .have a:=m (by omega);have b:=j k (by omega) f;rw[aqN a]at b;cases b
    .have a:=g i (by omega) f;have b:=q (by omega);rw[a]at b;cases b
  exact⟨by rw[n,t],fun h=>by rw[n]at h;cases h⟩
def azF {x:dG}{l:List dG}(h:l.length<=1000000){k:Nat}(d:k<=l.length)(j:∀a (h:a<l.length),a<k->ff x l[a]=false)(m:∀h:k<l.length,ff x l[k]=true) :
  br (!eW (l.take k++[x]++l.drop k)) (some (l,false,())) (some (l.take k++[x]++l.drop k,true,()))=some ((lR l x).1,(lR l x).2,()):=by
 obtain⟨i,e,o,q,_⟩:=amU (fun n (k:Int)=>(some ():Option Unit)) l.length (fun k=>ff (l.getD k mW) x) (fun k=>some ()) (fun n k d=>by cases ff (l.getD k mW) x<;>rfl) (fun n=>rfl) l.length 0 (l.length+1) (by omega) (fun i b=>absurd b (S0 _)) (by omega);have f:∀a (h:a<l.length),a<i->ff l[a] x=true:=fun a s t=>by have:=o a t;rw[aI s]at this;exact this
 have g:∀h:i<l.length,ff l[i] x=false:=fun b=>by have:=q b;rw[aI b]at this;exact this
 have u:=ac6 (x:=x) e f g;obtain⟨v,w⟩:=aHb e d f g j m;unfold lR;rw[u,v];cases y:eW (l.take i++[x]++l.drop i) with
 |false=>rfl|true=>rw[w y];rfl
def axi {l:List dG}(h:l.length<=1000000)(x:dG):I8 F0 l x=some ((lR l x).1,(lR l x).2,()):=by
 rw[amh,Ya (by omega),ai,ai];have o:iP F0 l=some (l,()):=Ya (by omega);rcases ais (fun e=>RY e x) l 0 with ⟨d,f⟩|⟨k,q,d,f,m⟩
 .have d:pU (fun e=>RY e x) l 0=-1:=d;have g:([x]:List dG).length=1:=rfl;rw[d,show decide ((-1:Int)<0)=true from rfl,ae,JH (bF _) (by simp) (by rw[g];omega),ab,ho];dsimp only;rw[XZ (by simp only[aJ,aW,bm,bc,bB];omega),ai];exact azF h (bF _) (fun i j _=>f l[i] (bP j)) (fun h=>absurd h (Vo _))
 .have d:pU (fun e=>RY e x) l 0=((0+k:Nat):Int):=d;rw[wG]at d;have g:([x]:List dG).length=1:=rfl;rw[d,show decide (((k:Nat):Int)<0)=false from aQ (by omega),aa,ai,JH (k:=k) (a:=l.length) (b:=([x]:List dG).length) (by omega) (by simp) (by rw[g];omega),ab,ho];dsimp only;rw[XZ (by simp only[aJ,aW,bm,bc,bB];omega),ai];exact azF h (by omega) (fun i j n=>m i j n) (fun _=>f)
def aiL {l:gX}{x:dG}(h:Rt (ef l x).2=false):(ef l x).1=l:=by
 revert h
 unfold ef;split
 .split
  .intro _;rfl
  .split
   .intro _;rfl
   .split
    .intro h;cases h
    .split
     .intro h;cases h
     .intro _;rfl
 .intro _;rfl
def iF:gX->Nat->List dG->List dG
 |_,_,[]=>[]|_,0,_=>[]|l,n+1,x::p=>if Rt (ef l x).2=true then x::iF (ef l x).1 n p else iF l (n+1) p
def abw (l:gX):∀p:List dG,iF l 0 p=[]
 |[]=>rfl|_::_=>rfl
def abx {l:gX}{n:Nat}{p:List dG}{k:Nat}(a:k<p.length):iF l (n+1) (p.drop k)=if Rt (ef l p[k]).2=true then p[k]::iF (ef l p[k]).1 n (p.drop (k+1)) else iF l (n+1) (p.drop (k+1)):=by rw[Vi a,iF]
def aiM {p:List dG}(d:p.length<=1048576):∀(j k:Nat) (xs:List dG) (l:gX) (n:Nat),k+j=p.length->xs.length<=2->Ve l->j<n ->
  kq F0 (yN F0) n (hI p (k:Int) xs l.1 l.2)=some (xs++iF l (2-xs.length) (p.drop k),())
 |0,k,xs,l,n+1,g,e,a,h=>by
  obtain rfl:k=p.length:=by omega
  rw[Fg,aB,aa,G8,Vl];cases 2-xs.length<;>simp[iF]
 |j+1,k,xs,l,n+1,g,e,a,h=>by
  have b:k<p.length:=by omega
  rw[Fg,aM b,ae,G8];by_cases o:xs.length<2
  .obtain⟨m,f⟩:∃m,2-xs.length=m+1:=⟨1-xs.length,by omega⟩;have i:KA F0 (l.1,l.2) p[k]=some ((ef l p[k]).1,(ef l p[k]).2,()):=awL (l:=l) (by have:=a.1;omega) (by have:=a.2;omega) _;rw[aL (show(xs.length:Int)<2 by omega),ae,an b,ab,aV b,i,ai,ab,ar (by omega) (by omega) (by first|omega|(simp only[aJ,aW,bm];omega)|(rw[bc,bB];omega)),ab,al (by omega),f,abx b];dsimp only;rw[aiM d j (k+1) (xs++[p[k]]) (ef l p[k]).1 n (by omega) (by simp;omega) (aGJ a _) (by omega),aiM d j (k+1) xs l n (by omega) e a (by omega),f,show 2-(xs++[p[k]]).length=m by simp;omega];unfold Rt;cases (ef l p[k]).2==0<;>cases (ef l p[k]).2==4<;>simp[br]
  .rw[aQ (show ¬(xs.length:Int)<2 by omega),aa,show 2-xs.length=0 by omega,abw,fi]
def aiN {p:List dG}(e:p.length<=1048576):∀(j k:Nat) (xs:List dG) (l:gX) (n:Nat),k+j=p.length->xs.length<=2->Ve l->j<n ->
  ky F0 (A4 F0) n (hO p (p.length:Int) (k:Int) l.1 l.2 xs)=some (xs++iF l (2-xs.length) (p.drop k),())
 |0,k,xs,l,n+1,h,f,a,i=>by
  obtain rfl:k=p.length:=by omega
  rw[FI,aB,aa,HH,Vl];cases 2-xs.length<;>simp[iF]
 |j+1,k,xs,l,n+1,h,f,a,i=>by
  have b:k<p.length:=by omega
  rw[FI,aM b,ae,HH,an b,ab];by_cases s:xs.length<2
  .obtain⟨m,g⟩:∃m,2-xs.length=m+1:=⟨1-xs.length,by omega⟩;have o:Lw F0 (l.1,l.2) p[k]=some ((ef l p[k]).1,(ef l p[k]).2,()):=ap5 (l:=l) (by have:=a.1;omega) (by have:=a.2;omega) _;rw[bU.2 (show(xs.length:Int)≠2 by omega),aa,aV b,o,ai,ar (by omega) (by omega) (by first|omega|(simp only[aJ,aW,bm];omega)|(rw[bc,bB];omega)),ab,al (by omega),g,abx b];dsimp only;rw[aiN e j (k+1) (xs++[p[k]]) (ef l p[k]).1 n (by omega) (by simp;omega) (aGJ a _) (by omega),aiN e j (k+1) xs (ef l p[k]).1 n (by omega) f (aGJ a _) (by omega),g,show 2-(xs++[p[k]]).length=m by simp;omega];have d:=aiL (l:=l) (x:=p[k]);unfold Rt at d ⊢;cases q:(ef l p[k]).2==0<;>cases a:(ef l p[k]).2==4<;>simp[br]
   rw[q,a]at d;rw[d rfl]
  .rw[bf.2 (show(xs.length:Int)=2 by omega),ae,show 2-xs.length=0 by omega,abw,fi]
def axj {p:List dG}(b:p.length<=1048576){l:gX}(a:Ve l):oN F0 p l=some (iF l 2 p,()):=by rw[ag5,acO (by have:=a.1;omega) (by have:=a.2;omega),ai];exact aiM b p.length 0 [] l F0.n (by omega) (by simp) a (by rw[bz];omega)
def as2 {p:List dG}(a:p.length<=1048576){l:gX}(b:Ve l):oV F0 p l=some (iF l 2 p,()):=by rw[ah6];exact aiN a p.length 0 [] l F0.n (by omega) (by simp) b (by rw[bz];omega)
def SQ:∀(p:List dG) (l:gX) (n:Nat),(iF l n p).length<=n
 |[],l,n=>by cases n<;>exact aR _
 |x::p,l,0=>bF _|x::p,l,n+1=>by
  unfold iF;split
  .rw[aW];have:=SQ p (ef l x).1 n;omega
  .exact SQ p l (n+1)
def aqO (p:List dG)(l:gX):List dG:=p.filter fun x=>(ef l x).2 != 2
def axk {p:List dG}(e:p.length<=1048576){l:gX}(b:l.1.length<=1048576)(d:l.2.length<=1048576):DT F0 p l=some (aqO p l,()):=by
 rw[ahl];refine amT (fun n k xs=>oo F0 (y9 F0) n (kR p k l.1 l.2 xs)) p (fun x=>(ef l x).2 != 2) _ (fun n k xs a f=>?_) (fun n=>?_) _ (by rw[bz];omega)
 .rw[Fl,aM a,ae,an a,ab,ab,aV a,show((l.1,l.2):gX)=l from rfl,awL b d,ai,ar (by omega) (by omega) (by first|omega|(simp only[aJ,aW,bm];omega)|(rw[bc,bB];omega)),ab,al (by omega)];cases (ef l p[k]).2 != 2<;>rfl
 .rw[Fl,aB,aa,Zn];rfl
def as3 {p:List dG}(e:p.length<=1048576){l:gX}(b:l.1.length<=1048576)(d:l.2.length<=1048576):jv F0 p l=some (aqO p l,()):=by
 rw[ah3];refine amT (fun n k xs=>oB F0 (A3 F0) n (k6 p (p.length:Int) k l.1 l.2 xs)) p (fun x=>(ef l x).2 != 2) _ (fun n k xs a f=>?_) (fun n=>?_) _ (by rw[bz];omega)
 .rw[FH,aM a,ae,an a,ab,aV a,show((l.1,l.2):gX)=l from rfl,ap5 b d,ai,ar (by omega) (by omega) (by first|omega|(simp only[aJ,aW,bm];omega)|(rw[bc,bB];omega)),ab,al (by omega)];cases (ef l p[k]).2 != 2<;>rfl
 .rw[FH,aB,aa,Zx];rfl
def dH (c:Int×Int)(view i:Int):List Int:=if 0<=bL c view i then ((List.range c.1.toNat).filter fun k:Nat=>decide (i∈afE c view (k:Int))).map fun k:Nat=>(k:Int) else []
def akp {c:Int×Int}(a:bw c=true)(view i:Int):(dH c view i).length<=7:=by
 have:=b5 a;unfold dH;split
 .rw[o8];have:=am3 (fun k:Nat=>decide (i∈afE c view (k:Int))) (List.range c.1.toNat);rw[ZM]at this;omega
 .exact aR _
def azG {γ:Type}(X:Nat->Int->List Int->Option γ)(N:Nat)(p:Nat->Bool)(R:Option γ)(a:∀n k xs,k<N->xs.length<=k->X (n+1) (k:Int) xs=X n ((k+1:Nat):Int) (if p k=true then xs++[(k:Int)] else xs))
  (b:∀n,X (n+1) (N:Int) (((List.range N).filter p).map fun k:Nat=>(k:Int))=R) (n:Nat) (f:N<n):X n 0 []=R:=by
 refine cu X N (fun k xs=>xs=((List.range k).filter p).map fun k:Nat=>(k:Int)) R (fun n k xs d h=>.inr ⟨_,a n k xs d (by rw[h,o8];exact bY (am3 _ _) (by rw[ZM];omega)),?_⟩) (fun n xs h=>?_) n 0 [] (aR _) rfl (by omega)
 .rw[List.range_succ,List.filter_append,adr,h];cases e:p k<;>simp[e]
 .rw[h];exact b n
def aFp {c:Int×Int}(b:bw c=true)(view i:Int):R8 F0 c view i=some (dH c view i,()):=by
 have e:=b5 b;have f:(c.1.toNat:Int)=c.1:=by omega
 rw[asf,ir,ai,b,aN,aa];unfold dH;by_cases a:0<=bL c view i
 .rw[ag a];refine azG (fun n k xs=>y3 F0 (KK F0) n (qa view i k c.1 c.2 xs)) c.1.toNat (fun k:Nat=>decide (i∈afE c view (k:Int))) _ (fun n k xs g h=>?_) (fun n=>?_) F0.n (by rw[bz];omega)
  .rw[y4,aL (show(k:Int)<c.1 by omega),ae,show((c.1,c.2):Int×Int)=c from rfl,XX,ai,aL (show bL c view i>=0 from a),ae,aIE,ai,fy (by have:=at1 c view k;dsimp only;omega),ai,ar (by omega) (by omega) (by first|omega|(simp only[aJ,aW,bm];omega)|(rw[bc,bB];omega)),ab,al (by omega)];dsimp only;cases decide (i∈afE c view (k:Int))<;>rfl
  .rw[y4,aQ (show ¬(c.1.toNat:Int)<c.1 by omega),aa,Qe]
 .obtain⟨m,d⟩:∃m,F0.n=m+1:=⟨F0.n-1,by rw[bz]⟩;rw[af a,d,y4,aL (show(0:Int)<c.1 by omega),ae,show((c.1,c.2):Int×Int)=c from rfl,XX,ai,aQ (show ¬bL c view i>=0 from a),aa,Qe]
def aB3 {c:Int×Int}(b:bw c=true)(view i:Int):Sk F0 c view i=some (dH c view i,()):=by
 have e:=b5 b;have f:(c.1.toNat:Int)=c.1:=by omega
 rw[asF];unfold dH;by_cases a:0<=bL c view i
 .rw[ag a];refine azG (fun n k xs=>AW F0 (Lp F0) n (rb view i k c.1 c.2 xs)) c.1.toNat (fun k:Nat=>decide (i∈afE c view (k:Int))) _ (fun n k xs g h=>?_) (fun n=>?_) F0.n (by rw[bz];omega)
  .rw[AX,show((c.1,c.2):Int×Int)=c from rfl,JJ,ai,aL (show bL c view i>=0 from a),ae,aL (show(k:Int)<c.1 by omega),ae,aGP,ai,eA (by have:=at1 c view k;dsimp only;omega),ai,ar (by omega) (by omega) (by first|omega|(simp only[aJ,aW,bm];omega)|(rw[bc,bB];omega)),ab,al (by omega)];dsimp only;cases decide (i∈afE c view (k:Int))<;>rfl
  .rw[AX,show((c.1,c.2):Int×Int)=c from rfl,JJ,ai,aL (show bL c view i>=0 from a),ae,aQ (show ¬(c.1.toNat:Int)<c.1 by omega),aa,QZ]
 .obtain⟨m,d⟩:∃m,F0.n=m+1:=⟨F0.n-1,by rw[bz]⟩;rw[af a,d,AX,show((c.1,c.2):Int×Int)=c from rfl,JJ,ai,aQ (show ¬bL c view i>=0 from a),aa,QZ]
def Ph {c:Int×Int}{q:bZ}(h:eT c q=true):uc q:=⟨(sX h).1.n,(sX h).1.w⟩
def FZ {c:Int×Int}{q:bZ}(h:iu c q=true):q.2.1.size<=1048576/\q.2.2.length<=1000:=⟨(YX h).1.n,bY (YX h).2.1 (by omega)⟩
def azH {c:Int×Int}{s:bd}(h:bh c s=true):kg s:=⟨Ph (cL h).2.2.1,bY (oZ (cL h).2.2.2) (by omega)⟩
def JO {c:Int×Int}{b:cq}(h:fB c b=true):b.1.size<=1048576/\uc b.2:=by simp only[fB,aF]at h;exact⟨bY (oZ h.2.1) (by omega),Ph h.1⟩
def fD:uc b9:=⟨aR _,aR _⟩
def axl {c:Int×Int}{m:b4}(h:c8 c m=true):fU m:=by
 unfold c8 at h;simp only[aF]at h;obtain⟨i,f,a⟩:=h;have g:=ac1 f;rw[<-g];by_cases b:m.1=1
 .rw[ag (by simpa using b)]at a;have:=JO a;simp only[named,b];exact⟨this.1,this.2,fD,fD⟩
 .by_cases d:m.1=2
  .rw[af (by simpa using b),ag (by simpa using d)]at a;simp only[aF]at a;have:=FZ a.1;simp only[named,d];exact⟨aR _,fD,⟨this.1,by show m.2.2.2.1.2.2.length<=_;omega⟩,fD⟩
  .by_cases e:m.1=3
   .rw[af (by simpa using b),af (by simpa using d),ag (by simpa using e)]at a;simp only[aF]at a;simp only[named,e];exact⟨aR _,fD,fD,Ph a.2.1⟩
   .rw[af (by simpa using b),af (by simpa using d),af (by simpa using e)]at a;simp only[aF,bf]at a;simp only[named,a.1];exact⟨aR _,fD,fD,fD⟩
def aum {U:Type}{d:U}{p:U->Bool}{q:U->U->Bool}{l:List U}(h:XY d p q l=true):∀x∈l,p x=true:=fun x a=>by obtain⟨k,b,rfl⟩:=ai4 a;exact((aiK d p q l).1 h).1 k b
def vU {c:Int×Int}{l:List bZ}(h:eB c l=true):aB1 l:=by simp only[eB,aF,bW]at h;exact⟨by omega,fun q a=>FZ (aum h.1 q a)⟩
def ac7 {l:List dG}(h:eW l=true):l.length<=12/\∀x∈l,gm x=true:=by simp only[eW,aF,bW]at h;exact⟨by omega,aum h.1⟩
structure aHc (c:Int×Int) (r:aw):Prop where
 cf:bw c=true
 i:gE 0 (aj (c.1-1)) r.1=true
 v:gE 1 60 r.2.1=true
 a:gE 0 60 r.2.2.1=true
 s:bh c r.2.2.2.1=true
 p:eW r.2.2.2.2.1=true
 t:eB c r.2.2.2.2.2.1=true
 d:fA r.2.2.2.2.2.2.1=true
 n:r.2.2.2.2.2.2.2.length<=30
 h:∀x∈r.2.2.2.2.2.2.2,L0 c r.1 x=true
def C5 {c:Int×Int}{r:aw}:mU c r=true↔aHc c r:=by
 unfold mU;simp only[aF,ai6,axR,ea];constructor
 .rintro⟨a,b,d,e,f,g,i,j,l,k⟩;exact⟨a,b,d,e,f,g,i,j,by omega,k⟩
 .intro h;exact⟨h.cf,h.i,h.v,h.a,h.s,h.p,h.t,h.d,by have:=h.n;omega,h.h⟩
structure aY (c:Int×Int) (r:aw):Prop where
 f:aHc c r
 b:∀x∈r.2.2.2.2.2.2.1.1,0<=x/\x<=255
def aY.ok {c:Int×Int}{r:aw}(h:aY c r):mU c r=true:=C5.2 h.f
def azI {c:Int×Int}{i:Int}{x:jw}(h:L0 c i x=true):c8 c x.2=true:=by simp only[L0,aF]at h;exact h.1
def aHc.l {c:Int×Int}{r:aw}(h:aHc c r):amw r :=
 ⟨azH h.s,bY (ac7 h.p).1 (by omega),bY (vU h.t).1 (by omega),fun q a=>(vU h.t).l a,bY h.n (by omega),fun q a=>axl (azI (h.h q a))⟩
def aY.bt {c:Int×Int}{r:aw}(h:aY c r):aFh r:=⟨h.f.l,⟨bY (db.1 h.f.d).1 (by omega),h.b⟩⟩
def aY.l {c:Int×Int}{r:aw}(h:aY c r):amw r:=h.f.l
def Yf (c:Int×Int)(r:aw)(a:Int)(m:b4):Bool:=decide (r.2.2.2.2.2.2.2.length<30)&&(c8 c m&&(gE 0 (aj (c.1-1)) a&& !(a==r.1)))
def vV (r:aw)(p:jw):aw:=(r.1,r.2.1,r.2.2.1,r.2.2.2.1,r.2.2.2.2.1,r.2.2.2.2.2.1,r.2.2.2.2.2.2.1,r.2.2.2.2.2.2.2++[p])
def lK (c:Int×Int)(r:aw)(a:Int)(m:b4):aw×Bool:=if Yf c r a m=true then (vV r (a,m),true) else (r,false)
def OG {r:aw}(d:r.2.2.2.2.2.2.2.length<=1048576){m:b4}(b:fU m)(c:Int×Int)(a:Int):fp F0 c r a m=some (((lK c r a m).1,(lK c r a m).2,()),()):=by
 rw[alr,JL b,ai,cP,ai,akj b,ai,ar (by omega) (by omega) (by first|omega|(simp only[aJ,aW,bm];omega)|(rw[bc,bB];omega)),ab];unfold lK Yf;by_cases h:r.2.2.2.2.2.2.2.length<30
 .rw[aQ (show ¬(r.2.2.2.2.2.2.2.length:Int)>=30 by omega),aL h];cases c8 c m<;>cases gE 0 (aj (c.1-1)) a<;>cases (a==r.1)<;>rfl
 .rw[aL (show(r.2.2.2.2.2.2.2.length:Int)>=30 by omega),aQ h];rfl
def aqP {c:Int×Int}{r:aw}(h:aHc c r)(a:Int)(m:b4):mU c (vV r (a,m))=Yf c r a m:=by
 unfold Yf;by_cases f:r.2.2.2.2.2.2.2.length<30
 .rw[aL f,en];have e:(c8 c m&&(gE 0 (aj (c.1-1)) a&& !(a==r.1)))=L0 c r.1 (a,m):=rfl;rw[e];cases g:L0 c r.1 (a,m) with
  |true=>exact C5.2 ⟨h.cf,h.i,h.v,h.a,h.s,h.p,h.t,h.d,by simp[vV];omega,fun x b=>by
    rcases gF.1 b with b|b
    .exact h.h x b
    .rw[fM.1 b];exact g⟩
  |false =>
   cases d:mU c (vV r (a,m)) with
   |false=>rfl
   |true =>
    have:=(C5.1 d).h (a,m) (by simp[vV]);exact absurd this (by show ¬L0 c r.1 (a,m)=true;rw[g];decide)
 .rw[aQ f];cases d:mU c (vV r (a,m)) with
  |false=>rfl
  |true =>
   have:=(C5.1 d).n;simp[vV]at this;omega
def aY.told {c:Int×Int}{r:aw}(h:aY c r)(a:Int)(m:b4):aY c (lK c r a m).1:=by
 unfold lK;cases b:Yf c r a m with
 |false=>exact h
 |true =>
  have:=aqP h.f a m;rw[b]at this;exact⟨C5.1 this,h.b⟩
def Y0 {c:Int×Int}{r:aw}(h:aY c r){m:b4}(d:fU m)(a:Int):mM F0 c r a m=some ((lK c r a m).1,(lK c r a m).2,()):=by
 have f:=h.f.n;have e:amw (vV r (a,m)):=⟨h.l.s,h.l.p,h.l.t,h.l.tq,by simp[vV];omega,fun q b=>by
  rcases gF.1 b with b|b
  .exact h.l.hm q b
  .rw[fM.1 b];exact d⟩
 have dd:cp F0 c (vV r (a,m))=some (Yf c r a m,()):=by rw[dR e,aqP h.f]
 rw[awn,dW h.bt,ai,akk d,ai,ar (by omega) (by omega) (by first|omega|(simp only[aJ,aW,bm];omega)|(rw[bc,bB];omega)),ab];dsimp only;rw[show((r.1,r.2.1,r.2.2.1,r.2.2.2.1,r.2.2.2.2.1,r.2.2.2.2.2.1,r.2.2.2.2.2.2.1,r.2.2.2.2.2.2.2++[(a,m)]):aw)=vV r (a,m) from rfl,dd,ai,ai];unfold lK;cases Yf c r a m<;>rfl
def put (r:aw)(s:bd):aw:=(r.1,r.2.1,r.2.2.1,s,r.2.2.2.2.1,r.2.2.2.2.2.1,(r.2.2.2.2.2.2.1.1++dA s,r.2.2.2.2.2.2.1.2),r.2.2.2.2.2.2.2)
def hY (c:Int×Int)(r:aw)(s:bd):aw×Bool :=
 if eM r.2.2.2.1 s=true then (r,true) else if bh c s=true/\r.2.2.2.2.2.2.1.1.length+(dA s).length<=100000 then (put r s,true) else (r,false)
def aqQ (c:Int×Int)(s:bd):(Yd c s).length<=12010:=by
 unfold Yd;split
 .rename_i h;exact(aiH h).2
 .exact aR _
def aqR {c:Int×Int}{r:aw}{s:bd}(h:eM r.2.2.2.1 s=true):hY c r s=(r,true):=ag h
def aun {c:Int×Int}{r:aw}{s:bd}(h:eM r.2.2.2.1 s=false)(a:bh c s=true)(b:r.2.2.2.2.2.2.1.1.length+(dA s).length<=100000):hY c r s=(put r s,true):=by unfold hY;rw[h,af (by decide),ag ⟨a,b⟩]
def af6 {c:Int×Int}{r:aw}{s:bd}(h:eM r.2.2.2.1 s=false)(a:¬(bh c s=true/\r.2.2.2.2.2.2.1.1.length+(dA s).length<=100000)):hY c r s=(r,false):=by unfold hY;rw[h,af (by decide),af a]
def af7 {d:pQ}{b:List Int}(h:fA d=true)(a:d.1.length+b.length<=100000):OD d b=((d.1++b,d.2),true):=ag ⟨h,a⟩
def aD0 {d:pQ}{b:List Int}(a:¬d.1.length+b.length<=100000):OD d b=(d,false):=af fun h=>a h.2
def SR {c:Int×Int}{s:bd}(h:bh c s=true):Yd c s=dA s:=ag h
def auo {c:Int×Int}{s:bd}(h:bh c s=false):Yd c s=[]:=af (by rw[h];decide)
def SS {c:Int×Int}{r:aw}(h:aY c r){s:bd}(b:kg s):eI F0 c r s=some (if (hY c r s).2=true then ((hY c r s).1,true,UQ) else (UQ,false,r)):=by
 have f:=aqQ c s;have g:=h.bt.d.1;have i:=(db.1 h.f.d).1;rw[ahc,aw1 h.l.s b,ai,asZ b,ai,aBZ g (bY f (by omega)),ai,CY b,ai,Oy b,ai];cases d:eM r.2.2.2.1 s with
 |true =>
  rw[aqR d];rfl
 |false =>
  cases a:bh c s with
  |false =>
   rw[af6 d (fun h=>by rw[a]at h;cases h.1),auo a,af7 h.f.d (by rw[bm];omega)];rfl
  |true =>
   by_cases e:r.2.2.2.2.2.2.1.1.length+(dA s).length<=100000
   .rw[aun d a e,SR a,af7 h.f.d e];rfl
   .rw[af6 d (fun h=>e h.2),SR a,aD0 e];rfl
def as4 (a b:bd):eM a b=eM b a:=by unfold eM;rw[Ou,show(a.1==b.1)=(b.1==a.1) from td,show(a.2.1==b.2.1)=(b.2.1==a.2.1) from td,show(a.2.2.2.toList==b.2.2.2.toList)=(b.2.2.2.toList==a.2.2.2.toList) from td]
def aY.put {c:Int×Int}{r:aw}(h:aY c r){s:bd}(a:bh c s=true)(b:r.2.2.2.2.2.2.1.1.length+(dA s).length<=100000):aY c (put r s):=by
 refine⟨⟨h.f.cf,h.f.i,h.f.v,h.f.a,a,h.f.p,h.f.t,db.2 ⟨?_,(db.1 h.f.d).2.1,?_⟩,h.f.n,h.f.h⟩,e7 h.b (azv s)⟩
 .show(r.2.2.2.2.2.2.1.1++dA s).length<=_;rw[aJ];exact b
 .show r.2.2.2.2.2.2.1.2<=((r.2.2.2.2.2.2.1.1++dA s).length:Int);have:=(db.1 h.f.d).2.2;rw[aJ];omega
def aY.wrote {c:Int×Int}{r:aw}(h:aY c r)(s:bd):aY c (hY c r s).1:=by
 unfold hY;split
 .exact h
 .split
  .rename_i a;exact h.put a.1 a.2
  .exact h
def ac8 {c:Int×Int}{r:aw}(h:aY c r){s:bd}(e:kg s):wx F0 c r s=some ((hY c r s).1,(hY c r s).2,()):=by
 have g:=aqQ c s;have i:=h.bt.d.1;have m:=(db.1 h.f.d).1;rw[asC,dW h.bt,ai,dR h.l,ai,h.ok,aN,aa,abq e,ai,aqI e,ai,azB i (bY g (by omega)),ai,Jq e,ai,ai,as4];dsimp only;have j:∀d:pQ,cp F0 c (r.1,r.2.1,r.2.2.1,s,r.2.2.2.2.1,r.2.2.2.2.2.1,d,r.2.2.2.2.2.2.2)=some (mU c (r.1,r.2.1,r.2.2.1,s,r.2.2.2.2.1,r.2.2.2.2.2.1,d,r.2.2.2.2.2.2.2),()):=fun d =>
  dR (r:=(r.1,r.2.1,r.2.2.1,s,r.2.2.2.2.1,r.2.2.2.2.2.1,d,r.2.2.2.2.2.2.2)) ⟨e,h.l.p,h.l.t,h.l.tq,h.l.h,h.l.hm⟩ c
 rw[j,ai];cases f:eM r.2.2.2.1 s with
 |true =>
  rw[aqR f];rfl
 |false =>
  cases a:bh c s with
  |false =>
   have bad:∀d:pQ,mU c (r.1,r.2.1,r.2.2.1,s,r.2.2.2.2.1,r.2.2.2.2.2.1,d,r.2.2.2.2.2.2.2)=false:=fun d=>by
    cases k:mU c (r.1,r.2.1,r.2.2.1,s,r.2.2.2.2.1,r.2.2.2.2.2.1,d,r.2.2.2.2.2.2.2) with
    |false=>rfl
    |true =>
     have:=(C5.1 k).s;exact absurd this (by show ¬bh c s=true;rw[a];decide)
   rw[af6 f (fun h=>by rw[a]at h;cases h.1),auo a,af7 h.f.d (by rw[bm];omega),bad];rfl
  |true =>
   by_cases b:r.2.2.2.2.2.2.1.1.length+(dA s).length<=100000
   .have l:=(h.put a b).ok;rw[aun f a b,SR a,af7 h.f.d b];dsimp only;rw[show mU c (r.1,r.2.1,r.2.2.1,s,r.2.2.2.2.1,r.2.2.2.2.2.1,(r.2.2.2.2.2.2.1.1++dA s,r.2.2.2.2.2.2.1.2),r.2.2.2.2.2.2.2)=true from l];rfl
   .rw[af6 f (fun h=>b h.2),SR a,aD0 b];rfl
def aB4 {b:ByteArray}(h:(hV b).2=true):bg (hV b).1.data.toList=true:=by
 unfold hV at h ⊢;split at h
 .rename_i a;rw[ag a];have e:bg b.data.toList=true:=by
   unfold JN at a;cases d:(a7 b.data.toList).2 with
   |true=>exact d|false=>rw[XT d]at a;cases a
  show bg (upB (upB b)).data.toList=true;unfold upB;rw[fl,fl];exact C2 (C2 e)
 .cases h
def aKj {c:Int×Int}{s:bd}(h:bh c s=true)(q:bZ):bh c (SO c s q)=true:=by
 unfold SO;split
 .rename_i a;obtain⟨b,g,d,e⟩:=cL h;have i:=mS (fL q.2.1.data.toList);simp only[bh,gE,aF,bW];refine⟨b,?_,?_,?_⟩
  .unfold sY;split<;>omega
  .unfold OC;split
   .exact a.2
   .exact d
  .split
   .rename_i f;exact aB4 f.1
   .exact e
 .exact h
def tc (r:aw)(v:Int):aw:=(r.1,sY r.2.1 v,r.2.2)
def aY.raised {c:Int×Int}{r:aw}(h:aY c r){v:Int}(a:v<=60):aY c (tc r v):=by refine⟨⟨h.f.cf,h.f.i,?_,h.f.a,h.f.s,h.f.p,h.f.t,h.f.d,h.f.n,h.f.h⟩,h.b⟩;have:=h.f.v;simp only[gE,aF,bW]at this;show gE 1 60 (sY r.2.1 v)=true;simp only[gE,aF,bW];unfold sY;split<;>omega
def j9 (v:Int)(q:bZ)(cv:Int):b4:=(3,v,(ak,b9),b9,q,cv,mW)
def Bu (p:bZ):b4:=(2,0,(ak,b9),p,b9,0,mW)
def aqS (b:cq):b4:=(1,0,b,b9,b9,0,mW)
def Rw {v:Int}{q:bZ}(h:uc q)(cv:Int):fU (j9 v q cv):=⟨aR _,fD,fD,h⟩
def aiO {p:bZ}(h:uc p):fU (Bu p):=⟨aR _,fD,h,fD⟩
def ac9 {b:cq}(a:b.1.size<=1048576)(d:uc b.2):fU (aqS b):=⟨a,d,fD,fD⟩
def written (c:Int×Int)(r:aw)(q:bZ):aw×Bool:=hY c r (SO c r.2.2.2.1 q)
def pR (c:Int×Int)(r:aw)(q:bZ):aw×Bool :=
 if (written c r q).2=true then
  if aj (q.1+1)>60 then ((written c r q).1,true)
  else if b2 c (aj (q.1+1))=r.1 then (tc (written c r q).1 (aj (q.1+1)),true)
  else lK c (tc (written c r q).1 (aj (q.1+1))) (b2 c (aj (q.1+1))) (j9 (aj (q.1+1)) q r.1)
 else (r,false)
def af8 {c:Int×Int}{r:aw}{s:bd}:(hY c r s).1.1=r.1:=by
 unfold hY;split
 .rfl
 .split<;>rfl
def Yg (c:Int×Int)(p:bZ):Bool:= !di p.2.1&&eT c p
def aup (b:ByteArray):di b=decide (b.data.toList=[]):=by
 cases h:di b with
 |true=>rw[aL ((ru b).1 h)]
 |false =>
  rw[aQ];intro a;rw[(ru b).2 a]at h;cases h
def aFq {p:bZ}(h:uc p)(c:Int×Int):Fk F0 c p=some (if Yg c p=true then p else b9,Yg c p,()):=by
 have:=aBr (v:=p.1) (l:=p.2.1.data.toList) (s:=p.2.2) (UP h.1) (bY h.2 (by omega)) c;rw[show((p.1,tx p.2.1.data.toList,p.2.2):bZ)=p from rfl]at this;rw[this];unfold Yg eT XU;rw[aup];by_cases a:p.2.1.data.toList=[]
 .rw[af (fun b=>b.1 a),aL a];rfl
 .rw[aQ a];cases d:ZI c (p.1,p.2.1.data.toList,p.2.2) with
  |true=>rw[ag ⟨a,rfl⟩];rfl|false=>rw[af (fun b=>by cases b.2)];rfl
def aB5 {p:bZ}(h:uc p)(c:Int×Int):FG F0 c p=some (if Yg c p=true then p else b9,Yg c p,()):=by
 have:=ayV (v:=p.1) (l:=p.2.1.data.toList) (s:=p.2.2) (UP h.1) (bY h.2 (by omega)) c;rw[show((p.1,tx p.2.1.data.toList,p.2.2):bZ)=p from rfl]at this;rw[this];unfold Yg eT XU;rw[aup];by_cases a:p.2.1.data.toList=[]
 .rw[af (fun b=>b.1 a),aL a];rfl
 .rw[aQ a];cases d:ZI c (p.1,p.2.1.data.toList,p.2.2) with
  |true=>rw[ag ⟨a,rfl⟩];rfl|false=>rw[af (fun b=>by cases b.2)];rfl
def aY.w {c:Int×Int}{r:aw}(h:aY c r)(q:bZ):aY c (written c r q).1:=h.wrote _
def aqT {c:Int×Int}{r:aw}(h:aY c r)(q:bZ):kg (SO c r.2.2.2.1 q):=azH (aKj h.f.s q)
def aB6 {c:Int×Int}{r:aw}(h:aY c r){p:bZ}(d:uc p):MY F0 c r p=some (if Yg c p=true then ((pR c r p).1,(pR c r p).2,()) else (r,false,()),()):=by
 rw[aoz,aFq d,ai];cases g:Yg c p with
 |false=>rfl
 |true =>
  dsimp only;rw[aN,aa,ag rfl,ag rfl,axd h.l.s d,ai,SS h (aqT h p),ai];have e:aY c (written c r p).1:=h.w p;unfold pR;unfold written at e ⊢;generalize hY c r (SO c r.2.2.2.1 p)=W at e ⊢;cases i:W.2 with
  |false=>rw[af (by decide),af (by decide)];rfl
  |true =>
   have f:fp F0 c (W.1.1,sY W.1.2.1 (aj (p.1+1)),W.1.2.2) (b2 c (aj (p.1+1))) (3,aj (p.1+1),(ak,0,ak,[]),(0,ak,[]),p,r.1,0,0,0,0)=some (((lK c (tc W.1 (aj (p.1+1))) (b2 c (aj (p.1+1))) (j9 (aj (p.1+1)) p r.1)).1,(lK c (tc W.1 (aj (p.1+1))) (b2 c (aj (p.1+1))) (j9 (aj (p.1+1)) p r.1)).2,()),()) :=
    OG (r:=tc W.1 (aj (p.1+1))) (bY e.f.n (by omega)) (Rw (v:=aj (p.1+1)) d r.1) c (b2 c (aj (p.1+1)))
   rw[ag rfl,ag rfl];simp only[ai,LV,C4,f,ae];by_cases a:aj (p.1+1)>60
   .rw[aL a,ae,ag a]
   .rw[aQ a,aa,af a];by_cases b:b2 c (aj (p.1+1))=r.1
    .rw[ag b,bf.2 b,ae];rfl
    .rw[af b,bU.2 b,aa]
def aB7 {c:Int×Int}{r:aw}(h:aY c r){q:bZ}(f:uc q):Lo F0 c r q=some ((pR c r q).1,(pR c r q).2,()):=by
 have e:aY c (written c r q).1:=h.w q;rw[asD,aqJ h.l.s f,ai,ac8 h (aqT h q),ai];unfold pR;unfold written at e ⊢;generalize hY c r (SO c r.2.2.2.1 q)=W at e ⊢;obtain⟨a,g⟩:=W;cases g with
 |false=>rfl
 |true =>
  show _=some ((if aj (q.1+1)>60 then (a,true) else if b2 c (aj (q.1+1))=r.1 then (tc a (aj (q.1+1)),true) else lK c (tc a (aj (q.1+1))) (b2 c (aj (q.1+1))) (j9 (aj (q.1+1)) q r.1)).1,(if aj (q.1+1)>60 then (a,true) else if b2 c (aj (q.1+1))=r.1 then (tc a (aj (q.1+1)),true) else lK c (tc a (aj (q.1+1))) (b2 c (aj (q.1+1))) (j9 (aj (q.1+1)) q r.1)).2,());by_cases b:aj (q.1+1)>60
  .rw[aL b,ag b];rfl
  .have i:mM F0 c (a.1,(if aj (q.1+1)>a.2.1 then aj (q.1+1) else a.2.1,a.2.2)) (b2 c (aj (q.1+1))) (3,aj (q.1+1),(ak,0,ak,[]),(0,ak,[]),q,r.1,0,0,0,0)=some ((lK c (tc a (aj (q.1+1))) (b2 c (aj (q.1+1))) (j9 (aj (q.1+1)) q r.1)).1,(lK c (tc a (aj (q.1+1))) (b2 c (aj (q.1+1))) (j9 (aj (q.1+1)) q r.1)).2,()) :=
    Y0 (e.raised (v:=aj (q.1+1)) (by omega)) (Rw (v:=aj (q.1+1)) f r.1) (b2 c (aj (q.1+1)))
   rw[aQ b,af b];simp only[ai,JI,i,aa,aN];by_cases d:b2 c (aj (q.1+1))=r.1
   .rw[ag d,show(b2 c (aj (q.1+1)) != r.1)=false by simp[d],aa];rfl
   .rw[af d,show(b2 c (aj (q.1+1)) != r.1)=true by simp[d],ae]
def aY.aI1 {c:Int×Int}{r:aw}(h:aY c r)(q:bZ):aY c (pR c r q).1:=by
 unfold pR;split
 .split
  .exact h.w q
  .split
   .exact(h.w q).raised (by omega)
   .exact((h.w q).raised (by omega)).told _ _
 .exact h
def fE (c:Int×Int)(r:aw)(view:Int)(name:ByteArray)(push:Bool):aw×Bool :=
 if (dk r.2.2.2.2.2.1 view name).2.2.length=0\/di name=true then (r,false)
 else if b2 c view=r.1 then
  if Yg c (dk r.2.2.2.2.2.1 view name)=true/\(pR c r (dk r.2.2.2.2.2.1 view name)).2=true then ((pR c r (dk r.2.2.2.2.2.1 view name)).1,true) else (r,false)
 else if push=false/\cmn (dk r.2.2.2.2.2.1 view name).2.2 (dH c view r.1)<(dH c view r.1).length then (r,false)
 else lK c r (Rp c view r.1) (Bu (dk r.2.2.2.2.2.1 view name))
section
variable {c:Int×Int} {r:aw} {view:Int} {name:ByteArray} {push:Bool} {p:bZ} (hP:dk r.2.2.2.2.2.1 view name=p)
include hP
def af9 (h:p.2.2.length=0\/di name=true):fE c r view name push=(r,false):=by subst hP;exact ag h
def axm (a:¬(p.2.2.length=0\/di name=true))(b:b2 c view=r.1)(h:Yg c p=true/\(pR c r p).2=true):fE c r view name push=((pR c r p).1,true):=by subst hP;unfold fE;rw[af a,ag b,ag h]
def aga (a:¬(p.2.2.length=0\/di name=true))(b:b2 c view=r.1)(h:¬(Yg c p=true/\(pR c r p).2=true)):fE c r view name push=(r,false):=by subst hP;unfold fE;rw[af a,ag b,af h]
def axn (a:¬(p.2.2.length=0\/di name=true))(b:¬b2 c view=r.1)(h:push=false/\cmn p.2.2 (dH c view r.1)<(dH c view r.1).length):fE c r view name push=(r,false):=by subst hP;unfold fE;rw[af a,af b,ag h]
def agb (a:¬(p.2.2.length=0\/di name=true))(b:¬b2 c view=r.1)(h:¬(push=false/\cmn p.2.2 (dH c view r.1)<(dH c view r.1).length)):fE c r view name push=lK c r (Rp c view r.1) (Bu p):=by subst hP;unfold fE;rw[af a,af b,af h]
end
def azJ {l:List bZ}(a:∀q∈l,uc q){name:ByteArray}(b:name.size<=1048576)(view:Int):uc (dk l view name):=by
 unfold dk;cases h:l.find? (fun x=>(x.1==view)&&(x.2.1.toList==name.toList)) with
 |none=>exact⟨b,aR _⟩|some x=>exact a x (Vh h)
def aY.axo {c:Int×Int}{r:aw}(h:aY c r)(view:Int)(name:ByteArray)(push:Bool):aY c (fE c r view name push).1:=by
 unfold fE;split
 .exact h
 .split
  .split
   .exact h.aI1 _
   .exact h
  .split
   .exact h
   .exact h.told _ _
def SU {c:Int×Int}{r:aw}(h:aY c r)(view:Int){name:ByteArray}(n:name.size<=1048576)(push:Bool) :
  ∃x,oQ F0 c r view name push=some ((x,(fE c r view name push).2,()),())/\((fE c r view name push).2=true->x=(fE c r view name push).1):=by
 have g:=azJ h.l.tq n view;have s:=akp h.f.cf view r.1;have o:=OG (r:=r) (bY h.f.n (by omega)) (aiO g) c (Rp c view r.1);have q:((fp F0 c r (Rp c view r.1) (2,0,(ak,0,ak,[]),dk r.2.2.2.2.2.1 view name,(0,ak,[]),0,0,0,0,0)).bind fun i=>some ((i.1.1,i.1.2.1,()),()))=some (((lK c r (Rp c view r.1) (Bu (dk r.2.2.2.2.2.1 view name))).1,(lK c r (Rp c view r.1) (Bu (dk r.2.2.2.2.2.1 view name))).2,()),()):=by refine B2 (n7 (fun x=>Option.bind x _) o) ?_;rfl
 rw[ahg,SP h.l.t h.l.tq,ai,LV,ai,aB6 h g,ai,aFp h.f.cf,ai,aBs (a:=dH c view r.1) (by omega) g.2,ai,aGN];simp only[ai,q];generalize hP:dk r.2.2.2.2.2.1 view name=p at *;by_cases j:p.2.2.length=0
 .rw[af9 hP (.inl j),show((p.2.2.length:Int)==0)=true from bf.2 (by omega),ae];exact⟨r,rfl,fun h=>by cases h⟩
 .rw[show((p.2.2.length:Int)==0)=false from bU.2 (by omega),aa];cases f:di name with
  |true =>
   rw[af9 hP (.inr f),show(name.toList==ak.toList)=true from f,ae];exact⟨r,rfl,fun h=>by cases h⟩
  |false =>
   have e:¬(p.2.2.length=0\/di name=true):=fun b=>b.elim j (by rw[f];decide)
   rw[show(name.toList==ak.toList)=false from f,aa];by_cases d:b2 c view=r.1
   .rw[bf.2 d,ae];cases k:Yg c p with
    |false =>
     rw[aga hP e d (fun b=>by rw[k]at b;cases b.1)];exact⟨r,rfl,fun h=>by cases h⟩
    |true =>
     cases l:(pR c r p).2 with
     |false =>
      rw[aga hP e d (fun b=>by rw[l]at b;cases b.2)];exact⟨_,rfl,fun h=>by cases h⟩
     |true =>
      rw[axm hP e d ⟨k,l⟩];exact⟨_,rfl,fun _=>rfl⟩
   .rw[bU.2 d,aa];cases push with
    |true =>
     rw[agb hP e d (fun b=>by cases b.1)];exact⟨_,rfl,fun _=>rfl⟩
    |false =>
     by_cases m:cmn p.2.2 (dH c view r.1)<(dH c view r.1).length
     .rw[axn hP e d ⟨rfl,m⟩,ek,ae,aL (show(cmn p.2.2 (dH c view r.1):Int)<(dH c view r.1).length by omega),ae];exact⟨r,rfl,fun h=>by cases h⟩
     .rw[agb hP e d (fun b=>m b.2),ek,ae,aQ (show ¬(cmn p.2.2 (dH c view r.1):Int)<(dH c view r.1).length by omega),aa];exact⟨_,rfl,fun _=>rfl⟩
def aFr {c:Int×Int}{r:aw}(h:aY c r)(view:Int){name:ByteArray}(a:name.size<=1048576)(push:Bool):R9 F0 c r view name push=some (if (fE c r view name push).2=true then ((fE c r view name push).1,true,()) else (r,false,())):=by
 obtain⟨x,b,d⟩:=SU h view a push;rw[aso,hU h.l,ai,h.ok,aN,aa,dV h.bt,ai,b,ai,ai];cases e:(fE c r view name push).2 with
 |true=>rw[d e];rfl|false=>rfl
def ada {c:Int×Int}{r:aw}(h:aY c r)(view:Int){name:ByteArray}(n:name.size<=1048576)(push:Bool):nS F0 c r view name push=some ((fE c r view name push).1,(fE c r view name push).2,()):=by
 have f:=azJ h.l.tq n view;have t:=akp h.f.cf view r.1;have o:=Y0 h (aiO f) (Rp c view r.1);have q:((mM F0 c r (Rp c view r.1) (2,0,(ak,0,ak,[]),dk r.2.2.2.2.2.1 view name,(0,ak,[]),0,0,0,0,0)).bind fun i=>some (i.1,i.2.1,()))=some ((lK c r (Rp c view r.1) (Bu (dk r.2.2.2.2.2.1 view name))).1,(lK c r (Rp c view r.1) (Bu (dk r.2.2.2.2.2.1 view name))).2,()):=by refine B2 (n7 (fun x=>Option.bind x _) o) ?_;rfl
 have s:Lo F0 c r (if Yg c (dk r.2.2.2.2.2.1 view name)=true then dk r.2.2.2.2.2.1 view name else b9)=some ((pR c r (if Yg c (dk r.2.2.2.2.2.1 view name)=true then dk r.2.2.2.2.2.1 view name else b9)).1,(pR c r (if Yg c (dk r.2.2.2.2.2.1 view name)=true then dk r.2.2.2.2.2.1 view name else b9)).2,()):=aB7 h (by split;exact f;exact fD);rw[asH,abv h.l.t h.l.tq,ai,dW h.bt,ai,dR h.l,ai,h.ok,aN,aa,JI,ai,aB5 f,ai,aB3 h.f.cf,ai,ay0 (a:=dH c view r.1) (by omega) f.2,ai,aDQ];simp only[ai,q,s];generalize hP:dk r.2.2.2.2.2.1 view name=p at *;by_cases j:p.2.2.length=0
 .rw[af9 hP (.inl j),show((p.2.2.length:Int)==0)=true from bf.2 (by omega),ae]
 .rw[show((p.2.2.length:Int)==0)=false from bU.2 (by omega),aa];cases g:di name with
  |true =>
   rw[af9 hP (.inr g),show(name.toList==ak.toList)=true from g,ae]
  |false =>
   have e:¬(p.2.2.length=0\/di name=true):=fun b=>b.elim j (by rw[g];decide)
   rw[show(name.toList==ak.toList)=false from g,aa];by_cases d:b2 c view=r.1
   .rw[bf.2 d,ae];cases k:Yg c p with
    |false =>
     rw[aga hP e d (fun b=>by rw[k]at b;cases b.1)];rfl
    |true =>
     rw[ag rfl,aN,aa];cases l:(pR c r p).2 with
     |false =>
      rw[aga hP e d (fun b=>by rw[l]at b;cases b.2)];rfl
     |true =>
      rw[axm hP e d ⟨k,l⟩];rfl
   .rw[bU.2 d,aa];cases push with
    |true =>
     rw[agb hP e d (fun b=>by cases b.1)];rfl
    |false =>
     by_cases m:cmn p.2.2 (dH c view r.1)<(dH c view r.1).length
     .rw[axn hP e d ⟨rfl,m⟩,ek,ae,aL (show(cmn p.2.2 (dH c view r.1):Int)<(dH c view r.1).length by omega),ae]
     .rw[agb hP e d (fun b=>m b.2),ek,ae,aQ (show ¬(cmn p.2.2 (dH c view r.1):Int)<(dH c view r.1).length by omega),aa]
def aD1:cq:=(ak,b9)
def Rx (q:bZ)(view:Int)(l:List dG):ByteArray:=tx (SJ q.2.1.data.toList view l)
def iG (c:Int×Int)(q:bZ)(view:Int)(l:List dG):cq×Bool:=if fB c (Rx q view l,q)=true/\aC (Rx q view l).data.toList=view then ((Rx q view l,q),true) else (aD1,false)
def aqU {c:Int×Int}{q:bZ}(a:eT c q=true){view:Int}(b:I64 view){l:List dG}(d:l.length<=100):(Rx q view l).size<=1048576:=by have e:=(sX a).2.2;have f:=auh (up:=q.2.1.data.toList) b l;unfold Rx;rw[bD];have:q.2.1.data.toList.length=q.2.1.size:=rfl;omega
def Y1 (a b:Int):(a != b)= !decide (a=b):=by
 by_cases h:a=b
 .simp[h]
 .simp[h]
def agc {c:Int×Int}{q:bZ}(a:eT c q=true){view:Int}(d:I64 view){l:List dG}(f:l.length<=100):oO F0 c q view l=some ((iG c q view l).1,(iG c q view l).2,()):=by
 have j:=(sX a).2.2;have e:=aqU a d f;have g:kO F0 q.2.1 view l=some (Rx q view l,()):=aqx (up:=q.2.1.data.toList) (by show q.2.1.size<=_;omega) d (by omega);rw[ag8,g,ai,wE (Ph a).2,ai,Ov (b:=(Rx q view l,q)) e (Ph a),ai,oW e,ai];unfold iG;dsimp only;rw[Y1];cases fB c (Rx q view l,q) with
 |false=>rw[af (fun h=>by cases h.1)];rfl
 |true =>
  by_cases h:aC (Rx q view l).data.toList=view
  .rw[ag ⟨rfl,h⟩,aL h];rfl
  .rw[af (fun i=>h i.2),aQ h];rfl
def as5 {c:Int×Int}{q:bZ}(a:eT c q=true){view:Int}(d:I64 view){l:List dG}(i:l.length<=2):tZ F0 c q view l=some ((iG c q view l).1,(iG c q view l).2,()):=by
 have j:=(sX a).2.2;have e:=aqU a d (l:=l) (by omega);have f:FJ F0 q.2.1 view l=some (Rx q view l,()):=azo (up:=q.2.1.data.toList) (by show q.2.1.size<=_;omega) d (by omega);rw[ah9,f,ai,w8 (Ph a).2,ai,Jm (b:=(Rx q view l,q)) e (Ph a),ai,rq e,ai];unfold iG;dsimp only;rw[Y1];cases fB c (Rx q view l,q) with
 |false=>rw[af (fun h=>by cases h.1)];rfl
 |true =>
  by_cases h:aC (Rx q view l).data.toList=view
  .rw[ag ⟨rfl,h⟩,aL h];rfl
  .rw[af (fun g=>h g.2),aQ h];rfl
def azK {c:Int×Int}{q:bZ}{view:Int}{l:List dG}(h:(iG c q view l).2=true):fB c (iG c q view l).1=true/\aC (iG c q view l).1.1.data.toList=view/\(iG c q view l).1.2=q:=by
 unfold iG at h ⊢;split at h
 .rename_i a;rw[ag a];exact⟨a.1,a.2,rfl⟩
 .cases h
def OH (c:Int×Int)(l:List bZ)(view:Int):Bool:=decide (((dk l view ak).2.2.length:Int)>=Bp c)
def aD2 (c:Int×Int)(r:aw):Bool:=decide (b2 c r.2.1=r.1)&&(!decide (r.2.2.1>=r.2.1)&&(decide (r.2.2.2.1.2.2.1.1=aj (r.2.1-1)) || OH c r.2.2.2.2.2.1 r.2.1))
def aiP (r:aw):List dG:=iF (eV Sv (Vf r.2.2.2.1.2.2.1.2.1)) 2 r.2.2.2.2.1
def ask (c:Int×Int)(r:aw):cq×Bool:=if aD2 c r=true then iG c r.2.2.2.1.2.2.1 r.2.1 (aiP r) else (aD1,false)
def aY.view {c:Int×Int}{r:aw}(h:aY c r):1<=r.2.1/\r.2.1<=60:=by have:=h.f.v;simp only[gE,aF,bW]at this;exact this
def aHd (a b:Int):decide (a<b)= !decide (a>=b):=by
 by_cases h:a<b
 .rw[aL h,aQ (by omega)];rfl
 .rw[aQ h,aL (by omega)];rfl
def aqV (r:aw):(aiP r).length<=2:=SQ _ _ _
def aD3 {c:Int×Int}{r:aw}(h:aY c r):Ws F0 c r=some ((ask c r).1,(ask c r).2,()):=by have g:=h.view;have a:=(cL h.f.s).2.2.1;have b:Ve (eV Sv (Vf r.2.2.2.1.2.2.1.2.1)):=Jk L5;have d:=agc (c:=c) (q:=r.2.2.2.1.2.2.1) a (view:=r.2.1) ⟨by omega,by omega⟩ (l:=aiP r) (by have:=aqV r;omega);have e:oN F0 r.2.2.2.2.1 (eV Sv (Vf r.2.2.2.1.2.2.1.2.1))=some (aiP r,()):=axj h.l.p b;have f:uc r.2.2.2.1.2.2.1:=h.l.s.1;rw[ayz,hU h.l,ai,h.ok,aN,aa,LV,ai,SP h.l.t h.l.tq,ai,acQ,ai,abm,ai,azj f.1,ai,ap6 L5 (bY (Bq _) (by omega))];simp only[ai,e,d];unfold ask aD2 OH;rw[Y1,Y1,aHd];cases decide (b2 c r.2.1=r.1)<;>cases decide (r.2.2.1>=r.2.1)<;>cases decide (r.2.2.2.1.2.2.1.1=aj (r.2.1-1))<;>cases decide (((dk r.2.2.2.2.2.1 r.2.1 ak).2.2.length:Int)>=Bp c)<;>rfl
def aqW {c:Int×Int}{r:aw}(h:amw r)(view:Int):sK F0 c r view=some (OH c r.2.2.2.2.2.1 view,()):=by rw[awr,abv h.t h.tq,ai,aj9,ai];rfl
def aHe {c:Int×Int}{r:aw}(h:aY c r):afn F0 c r=some ((ask c r).1,(ask c r).2,()):=by have g:=h.view;have a:=(cL h.f.s).2.2.1;have b:Ve (eV Sv (Vf r.2.2.2.1.2.2.1.2.1)):=Jk L5;have d:=as5 (c:=c) (q:=r.2.2.2.1.2.2.1) a (view:=r.2.1) ⟨by omega,by omega⟩ (l:=aiP r) (aqV r);have e:oV F0 r.2.2.2.2.1 (eV Sv (Vf r.2.2.2.1.2.2.1.2.1))=some (aiP r,()):=as2 h.l.p b;have f:uc r.2.2.2.1.2.2.1:=h.l.s.1;rw[ayI,dR h.l,ai,h.ok,aN,aa,JI,ai,aqW h.l,ai,LR,ai,aiA f.1,ai,X5 L5 (bY (Bq _) (by omega))];simp only[ai,e,d];unfold ask aD2;rw[Y1,Y1];cases decide (b2 c r.2.1=r.1)<;>cases decide (r.2.2.1>=r.2.1)<;>cases decide (r.2.2.2.1.2.2.1.1=aj (r.2.1-1))<;>cases OH c r.2.2.2.2.2.1 r.2.1<;>rfl
def aHf {c:Int×Int}{r:aw}(h:(ask c r).2=true):aD2 c r=true/\fB c (ask c r).1=true/\aC (ask c r).1.1.data.toList=r.2.1/\(ask c r).1.2=r.2.2.2.1.2.2.1:=by
 unfold ask at h ⊢;split at h
 .rename_i a;rw[ag a];exact⟨a,azK h⟩
 .cases h
def Ry (r:aw):aw:=(r.1,r.2.1,r.2.2.1,r.2.2.2.1,r.2.2.2.2.1,r.2.2.2.2.2.1,lj r.2.2.2.2.2.2.1,[])
def azL {c:Int×Int}{r:aw}(h:aY c r):IE F0 c r=some (Ry r,r.2.2.2.2.2.2.2,()):=by rw[alC,dV h.bt,ai,hU h.l,ai,h.ok,aN,aa,aG9 h.bt.d.1,ai,afZ h.l.h h.l.hm,ai];rfl
def axp {c:Int×Int}{r:aw}(h:aY c r):IX F0 c r=some (Ry r,r.2.2.2.2.2.2.2,()):=by rw[al1,dW h.bt,ai,dR h.l,ai,h.ok,aN,aa,aFl h.bt.d.1,ai];rfl
def azM {d:pQ}(h:fA d=true):fA (lj d)=true:=by unfold lj;rw[ag h];have:=db.1 h;exact db.2 ⟨this.1,by dsimp only;omega,by dsimp only;omega⟩
def axq (d:pQ):(lj d).1=d.1:=by unfold lj;split<;>rfl
def aY.Ry {c:Int×Int}{r:aw}(h:aY c r):aY c (Ry r) :=
 ⟨⟨h.f.cf,h.f.i,h.f.v,h.f.a,h.f.s,h.f.p,h.f.t,azM h.f.d,aR _,fun x a=>by cases a⟩,by show ∀x∈(lj r.2.2.2.2.2.2.1).1,_;rw[axq];exact h.b⟩
def ka (r:aw)(v:Int):aw:=(r.1,v,r.2.2)
def fF (r:aw)(t:List bZ):aw:=(r.1,r.2.1,r.2.2.1,r.2.2.2.1,r.2.2.2.2.1,t,r.2.2.2.2.2.2)
def aY.ka {c:Int×Int}{r:aw}(h:aY c r){v:Int}(a:1<=v)(b:v<=60):aY c (ka r v) :=
 ⟨⟨h.f.cf,h.f.i,by show gE 1 60 v=true;simp[gE,a,b],h.f.a,h.f.s,h.f.p,h.f.t,h.f.d,h.f.n,h.f.h⟩,h.b⟩
def aY.fF {c:Int×Int}{r:aw}(h:aY c r){t:List bZ}(a:eB c t=true):aY c (fF r t) :=
 ⟨⟨h.f.cf,h.f.i,h.f.v,h.f.a,h.f.s,h.f.p,a,h.f.d,h.f.n,h.f.h⟩,h.b⟩
def o0 {c:Int×Int}{l:List bZ}(h:eB c l=true)(p:bZ):eB c (bq c l p).1=true:=by
 unfold bq;split
 .rename_i a;exact a.2
 .exact h
def one (v:Int)(name:ByteArray)(i:Int):bZ:=(v,name,[i])
def BZ (c:Int×Int)(r:aw):aw×Bool :=
 if r.2.1>=60 then (r,false)
 else if b2 c (aj (r.2.1+1))=r.1 then
  if (bq c r.2.2.2.2.2.1 (one (aj (r.2.1+1)) ak r.1)).2=true then (fF (ka r (aj (r.2.1+1))) (bq c r.2.2.2.2.2.1 (one (aj (r.2.1+1)) ak r.1)).1,true) else (r,false)
 else if (lK c (ka r (aj (r.2.1+1))) (b2 c (aj (r.2.1+1))) (j9 (aj (r.2.1+1)) r.2.2.2.1.2.2.1 r.1)).2=true then ((lK c (ka r (aj (r.2.1+1))) (b2 c (aj (r.2.1+1))) (j9 (aj (r.2.1+1)) r.2.2.2.1.2.2.1 r.1)).1,true) else (r,false)
def aHg {c:Int×Int}{r:aw}(h:aY c r):YE F0 c r=some ((BZ c r).1,(BZ c r).2,()):=by
 have f:=h.view;have g:=(cL h.f.s).2.2.1;have d:fg F0 c r.2.2.2.2.2.1 (aj (r.2.1+1),ak,[r.1])=some ((bq c r.2.2.2.2.2.1 (one (aj (r.2.1+1)) ak r.1)).1,(bq c r.2.2.2.2.2.1 (one (aj (r.2.1+1)) ak r.1)).2,()):=Jt (vU h.f.t) ⟨aR _,by show 1<=1000;omega⟩ c;have e:fp F0 c (r.1,aj (r.2.1+1),r.2.2) (b2 c (aj (r.2.1+1))) (3,aj (r.2.1+1),(ak,0,ak,[]),(0,ak,[]),r.2.2.2.1.2.2.1,r.1,0,0,0,0)=some (((lK c (ka r (aj (r.2.1+1))) (b2 c (aj (r.2.1+1))) (j9 (aj (r.2.1+1)) r.2.2.2.1.2.2.1 r.1)).1,(lK c (ka r (aj (r.2.1+1))) (b2 c (aj (r.2.1+1))) (j9 (aj (r.2.1+1)) r.2.2.2.1.2.2.1 r.1)).2,()),()) :=
  OG (r:=ka r (aj (r.2.1+1))) h.l.h (Rw h.l.s.1 r.1) c _
 rw[av7,dV h.bt,ai,hU h.l,ai,h.ok,aN,aa,LV,ai];simp only[ai,d,e];unfold BZ;by_cases a:r.2.1>=60
 .rw[ag a,aL a,ae]
 .rw[af a,aQ a,aa];by_cases b:b2 c (aj (r.2.1+1))=r.1
  .rw[ag b,bf.2 b,ae];cases (bq c r.2.2.2.2.2.1 (one (aj (r.2.1+1)) ak r.1)).2<;>rfl
  .rw[af b,bU.2 b,aa];cases (lK c (ka r (aj (r.2.1+1))) (b2 c (aj (r.2.1+1))) (j9 (aj (r.2.1+1)) r.2.2.2.1.2.2.1 r.1)).2<;>rfl
def aFs {c:Int×Int}{r:aw}(h:aY c r):YL F0 c r=some ((BZ c r).1,(BZ c r).2,()):=by
 have f:=h.view;have d:eK F0 c r.2.2.2.2.2.1 (aj (r.2.1+1),ak,[r.1])=some ((bq c r.2.2.2.2.2.1 (one (aj (r.2.1+1)) ak r.1)).1,(bq c r.2.2.2.2.2.1 (one (aj (r.2.1+1)) ak r.1)).2,()):=ES (vU h.f.t) ⟨aR _,by show 1<=1000;omega⟩ c;rw[awt,dW h.bt,ai,dR h.l,ai,h.ok,aN,aa];unfold BZ;by_cases b:r.2.1>=60
 .rw[ag b,bf.2 (show r.2.1=60 by omega),ae]
 .have g:aj (r.2.1+1)=r.2.1+1:=aG (by omega) (by omega);have e:mM F0 c (r.1,aj (r.2.1+1),r.2.2) (b2 c (aj (r.2.1+1))) (3,aj (r.2.1+1),(ak,0,ak,[]),(0,ak,[]),r.2.2.2.1.2.2.1,r.1,0,0,0,0)=some ((lK c (ka r (aj (r.2.1+1))) (b2 c (aj (r.2.1+1))) (j9 (aj (r.2.1+1)) r.2.2.2.1.2.2.1 r.1)).1,(lK c (ka r (aj (r.2.1+1))) (b2 c (aj (r.2.1+1))) (j9 (aj (r.2.1+1)) r.2.2.2.1.2.2.1 r.1)).2,()) :=
   Y0 (h.ka (v:=aj (r.2.1+1)) (by omega) (by omega)) (Rw h.l.s.1 r.1) _
  rw[af b,bU.2 (show r.2.1≠60 by omega),aa];simp only[ai,d,e,JI];by_cases a:b2 c (aj (r.2.1+1))=r.1
  .rw[ag a,bf.2 a,ae];cases (bq c r.2.2.2.2.2.1 (one (aj (r.2.1+1)) ak r.1)).2<;>rfl
  .rw[af a,bU.2 a,aa];cases (lK c (ka r (aj (r.2.1+1))) (b2 c (aj (r.2.1+1))) (j9 (aj (r.2.1+1)) r.2.2.2.1.2.2.1 r.1)).2<;>rfl
def aY.aLf {c:Int×Int}{r:aw}(h:aY c r):aY c (BZ c r).1:=by
 have b:=h.view;unfold BZ;split
 .exact h
 .rename_i d;have e:aj (r.2.1+1)=r.2.1+1:=aG (by omega) (by omega);have a:=h.ka (v:=aj (r.2.1+1)) (by omega) (by omega);split
  .split
   .exact a.fF (o0 h.f.t _)
   .exact h
  .split
   .exact a.told _ _
   .exact h
def rv (c:Int×Int)(r:aw)(m:b4):Nat->Nat->aw->aw×Bool
 |0,_,a=>(a,true)|j+1,k,a=>if (k:Int)=r.1 then rv c r m j (k+1) a else if (lK c a (k:Int) m).2=true then rv c r m j (k+1) (lK c a (k:Int) m).1 else (r,false)
def SV (c:Int×Int)(r:aw)(m:b4):aw×Bool:=rv c r m c.1.toNat 0 r
def aqX {c:Int×Int}{r:aw}(h:aY c r)(m:b4):∀(j k:Nat) (o:aw),aY c o->aY c (rv c r m j k o).1
 |0,_,_,a=>a|j+1,k,o,a=>by
  unfold rv;split
  .exact aqX h m j (k+1) o a
  .split
   .exact aqX h m j (k+1) _ (a.told _ _)
   .exact h
def aY.aI2 {c:Int×Int}{r:aw}(h:aY c r)(m:b4):aY c (SV c r m).1:=aqX h m _ _ _ h
def aiQ {c:Int×Int}{r:aw}(h:aY c r){m:b4}(d:fU m):∀(j k:Nat) (z:aw) (n:Nat),(k:Int)+j=c.1->aY c z->j<n->c.1<=100 ->
  qc F0 (r8 F0) n (mo (k:Int) c.1 c.2 r.1 r.2.1 r.2.2.1 r.2.2.2.1.1 r.2.2.2.1.2.1 r.2.2.2.1.2.2.1.1 r.2.2.2.1.2.2.1.2.1 r.2.2.2.1.2.2.1.2.2 r.2.2.2.1.2.2.2 r.2.2.2.2.1 r.2.2.2.2.2.1 r.2.2.2.2.2.2.1.1 r.2.2.2.2.2.2.1.2 r.2.2.2.2.2.2.2 m.1 m.2.1 m.2.2.1.1 m.2.2.1.2.1 m.2.2.1.2.2.1 m.2.2.1.2.2.2 m.2.2.2.1.1 m.2.2.2.1.2.1 m.2.2.2.1.2.2 m.2.2.2.2.1.1 m.2.2.2.2.1.2.1 m.2.2.2.2.1.2.2 m.2.2.2.2.2.1 m.2.2.2.2.2.2.1 m.2.2.2.2.2.2.2.1 m.2.2.2.2.2.2.2.2.1 m.2.2.2.2.2.2.2.2.2 0 0 0 0 0 0 ak ak 0 z.1 z.2.1 z.2.2.1 z.2.2.2.1.1 z.2.2.2.1.2.1 z.2.2.2.1.2.2.1.1 z.2.2.2.1.2.2.1.2.1 z.2.2.2.1.2.2.2 z.2.2.2.2.2.2.1.2 [] [] [] [] [] z.2.2.2.1.2.2.1.2.2 z.2.2.2.2.1 z.2.2.2.2.2.1 z.2.2.2.2.2.2.1.1 z.2.2.2.2.2.2.2)
   = some ((rv c r m j k z).1,(rv c r m j k z).2,())
 |0,k,z,n+1,f,a,g,e=>by rw[Hk,aQ (show ¬(k:Int)<c.1 by omega),aa,aci];rfl
 |j+1,k,z,n+1,f,a,g,e=>by
  have i:=OG (r:=z) a.l.h d c (k:Int);have l:=dV h.bt;rw[Hk,aL (show(k:Int)<c.1 by omega),ae,show((c.1,c.2):Int×Int)=c from rfl];refine B2 (n7 (fun x=>br ((k:Int)==r.1) _ (Option.bind x _)) i) ?_;rw[ai];dsimp only;unfold rv;by_cases b:(k:Int)=r.1
  .rw[ag b,bf.2 b,ae,al (by omega)];exact aiQ h d j (k+1) z n (by omega) a (by omega) e
  .rw[af b,bU.2 b,aa];cases o:(lK c z (k:Int) m).2 with
   |true =>
    rw[aN,aa,ag rfl,al (by omega)];exact aiQ h d j (k+1) _ n (by omega) (a.told _ _) (by omega) e
   |false =>
    rw[ek,ae,af (by decide)];refine B2 (n7 (fun x=>Option.bind x _) l) ?_;rw[ai,aeC]
def azN {c:Int×Int}{r:aw}(h:aY c r){m:b4}(a:fU m):z6 F0 c r m=some ((SV c r m).1,(SV c r m).2,()):=by have b:=b5 h.f.cf;rw[alA,dV h.bt,ai,hU h.l,ai,h.ok,aN,aa];exact aiQ h a c.1.toNat 0 r F0.n (by omega) h (by rw[bz];omega) (by omega)
def adb {c:Int×Int}{r:aw}(h:aY c r){m:b4}(d:fU m):∀(j k:Nat) (z:aw) (n:Nat),(k:Int)+j=c.1->aY c z->j<n->c.1<=100 ->
  rj F0 (sT F0) n (mO (k:Int) c.1 c.2 r.1 r.2.1 r.2.2.1 r.2.2.2.1.1 r.2.2.2.1.2.1 r.2.2.2.1.2.2.1.1 r.2.2.2.1.2.2.1.2.1 r.2.2.2.1.2.2.1.2.2 r.2.2.2.1.2.2.2 r.2.2.2.2.1 r.2.2.2.2.2.1 r.2.2.2.2.2.2.1.1 r.2.2.2.2.2.2.1.2 r.2.2.2.2.2.2.2 m.1 m.2.1 m.2.2.1.1 m.2.2.1.2.1 m.2.2.1.2.2.1 m.2.2.1.2.2.2 m.2.2.2.1.1 m.2.2.2.1.2.1 m.2.2.2.1.2.2 m.2.2.2.2.1.1 m.2.2.2.2.1.2.1 m.2.2.2.2.1.2.2 m.2.2.2.2.2.1 m.2.2.2.2.2.2.1 m.2.2.2.2.2.2.2.1 m.2.2.2.2.2.2.2.2.1 m.2.2.2.2.2.2.2.2.2 0 0 0 0 0 0 ak ak 0 z.1 z.2.1 z.2.2.1 z.2.2.2.1.1 z.2.2.2.1.2.1 z.2.2.2.1.2.2.1.1 z.2.2.2.1.2.2.1.2.1 z.2.2.2.1.2.2.2 z.2.2.2.2.2.2.1.2 [] [] [] [] [] z.2.2.2.1.2.2.1.2.2 z.2.2.2.2.1 z.2.2.2.2.2.1 z.2.2.2.2.2.2.1.1 z.2.2.2.2.2.2.2)
   = some ((rv c r m j k z).1,(rv c r m j k z).2,())
 |0,k,z,n+1,f,a,g,e=>by rw[HJ,aQ (show ¬(k:Int)<c.1 by omega),aa,acD];rfl
 |j+1,k,z,n+1,f,a,g,e=>by
  have i:=Y0 a d (k:Int);have l:=dW h.bt;rw[HJ,aL (show(k:Int)<c.1 by omega),ae,show((c.1,c.2):Int×Int)=c from rfl];refine B2 (n7 (fun x=>br ((k:Int)==r.1) _ (Option.bind x _)) i) ?_;rw[ai];dsimp only;unfold rv;by_cases b:(k:Int)=r.1
  .rw[ag b,bf.2 b,ae,al (by omega)];exact adb h d j (k+1) z n (by omega) a (by omega) e
  .rw[af b,bU.2 b,aa];cases o:(lK c z (k:Int) m).2 with
   |true =>
    rw[aN,aa,ag rfl,al (by omega)];exact adb h d j (k+1) _ n (by omega) (a.told _ _) (by omega) e
   |false =>
    rw[ek,ae,af (by decide)];refine B2 (n7 (fun x=>Option.bind x _) l) ?_;rw[ai,afp]
def axr {c:Int×Int}{r:aw}(h:aY c r){m:b4}(a:fU m):Ba F0 c r m=some ((SV c r m).1,(SV c r m).2,()):=by have b:=b5 h.f.cf;rw[amn,dW h.bt,ai,dR h.l,ai,h.ok,aN,aa];exact adb h a c.1.toNat 0 r F0.n (by omega) h (by rw[bz];omega) (by omega)
def agd {U:Type}{d:U}{p:U->Bool}{q:U->U->Bool}(j:∀a b c,q a b=true->q b c=true->q a c=true){l:List U}(h:XY d p q l=true)(f:U->Bool):XY d p q (l.filter f)=true:=by
 rw[aiK]at h ⊢;have m:l.Pairwise fun a b=>q a b=true:=aAv.2 fun i n g o s=>axh j h.2 n s o
 have t:=m.filter f;refine⟨fun k e=>?_,fun k e=>aAv.1 t k (k+1) (by omega) e (by omega)⟩;have u:=(List.mem_filter.1 (bP e)).1;obtain⟨i,g,v⟩:=ai4 u;rw[<-v];exact h.1 i g
def aqY:∀{a b c:List UInt8},Op.bytesLess a b=true->Op.bytesLess b c=true->Op.bytesLess a c=true
 |[],[],_,h,_=>by cases h
 |_::_,[],_,h,_=>by cases h
 |_,_::_,[],_,h=>by cases h
 |[],_::_,_::_,_,_=>rfl|x::a,y::b,z::c,e,d=>by
  simp only[Op.bytesLess,kB,aF,bW,bf]at e d ⊢;rcases e with e|⟨rfl,e⟩
  .rcases d with d|⟨rfl,d⟩
   .exact .inl (UInt8.lt_trans e d)
   .exact .inl e
  .rcases d with d|⟨rfl,d⟩
   .exact .inl d
   .exact .inr ⟨rfl,aqY e d⟩
def as6 (a b c:bZ)(e:fz a b=true)(d:fz b c=true):fz a c=true:=by
 simp only[fz,kB,aF,bW,bf]at *;rcases e with e|⟨g,e⟩
 .rcases d with d|⟨f,d⟩
  .exact .inl (by omega)
  .exact .inl (by omega)
 .rcases d with d|⟨f,d⟩
  .exact .inl (by omega)
  .exact .inr ⟨by omega,aqY e d⟩
def aqZ {c:Int×Int}{l:List bZ}(h:eB c l=true)(f:bZ->Bool):eB c (l.filter f)=true:=by simp only[eB,aF,bW]at h ⊢;have:=am3 f l;exact⟨agd as6 h.1 f,by omega⟩
def as7 {l:List dG}(h:eW l=true)(f:dG->Bool):eW (l.filter f)=true:=by simp only[eW,aF,bW]at h ⊢;have:=am3 f l;exact⟨agd (q:=ff) (fun a b c d e=>OF d e) h.1 f,by omega⟩
def aB8 {l:List dG}(h:eW l=true)(x:dG):eW (lR l x).1=true:=by
 unfold lR;split
 .rename_i a;exact a
 .exact h
def nj (b:cq):Int:=aC b.1.data.toList
def own (c:Int×Int)(r:aw)(name:ByteArray):aw×Bool :=
 if (bq c r.2.2.2.2.2.1 (one (aC name.data.toList) name r.1)).2=true then ((fE c (fF r (bq c r.2.2.2.2.2.1 (one (aC name.data.toList) name r.1)).1) (aC name.data.toList) name false).1,true) else (r,false)
def aI3 {c:Int×Int}{r:aw}{a:Int}{m:b4}(h:(lK c r a m).2=false):(lK c r a m).1=r:=by
 unfold lK at h ⊢;cases b:Yf c r a m with
 |true=>rw[b,ag rfl]at h;cases h|false=>rfl
def azO {c:Int×Int}{r:aw}{view:Int}{name:ByteArray}{push:Bool}(h:(fE c r view name push).2=false):(fE c r view name push).1=r:=by
 by_cases a:(dk r.2.2.2.2.2.1 view name).2.2.length=0\/di name=true
 .rw[af9 rfl a]
 .by_cases d:b2 c view=r.1
  .by_cases b:Yg c (dk r.2.2.2.2.2.1 view name)=true/\(pR c r (dk r.2.2.2.2.2.1 view name)).2=true
   .rw[axm rfl a d b]at h;cases h
   .rw[aga rfl a d b]
  .by_cases b:push=false/\cmn (dk r.2.2.2.2.2.1 view name).2.2 (dH c view r.1)<(dH c view r.1).length
   .rw[axn rfl a d b]
   .rw[agb rfl a d b]at h ⊢;exact aI3 h
def aY.owned {c:Int×Int}{r:aw}(h:aY c r)(name:ByteArray):aY c (own c r name).1:=by
 unfold own;split
 .exact(h.fF (o0 h.f.t _)).axo _ _ _
 .exact h
def aB9 {c:Int×Int}{r:aw}(h:aY c r){name:ByteArray}(a:name.size<=1048576):nc F0 c r name=some (((own c r name).1,(own c r name).2,()),()):=by
 have e:fg F0 c r.2.2.2.2.2.1 (aC name.data.toList,name,[r.1])=some ((bq c r.2.2.2.2.2.1 (one (aC name.data.toList) name r.1)).1,(bq c r.2.2.2.2.2.1 (one (aC name.data.toList) name r.1)).2,()):=Jt (vU h.f.t) ⟨a,by show 1<=1000;omega⟩ c;have b:=h.fF (o0 h.f.t (one (aC name.data.toList) name r.1));have f:ba F0 (r.1,r.2.1,r.2.2.1,r.2.2.2.1,r.2.2.2.2.1,(bq c r.2.2.2.2.2.1 (one (aC name.data.toList) name r.1)).1,r.2.2.2.2.2.2)=some (fF r (bq c r.2.2.2.2.2.1 (one (aC name.data.toList) name r.1)).1,()):=dV b.bt;obtain⟨x,g,i⟩:=SU b (aC name.data.toList) a false;rw[aoF,oW a];simp only[ai,e,f,g,oW a];unfold own;cases j:(bq c r.2.2.2.2.2.1 (one (aC name.data.toList) name r.1)).2 with
 |false=>rfl
 |true =>
  rw[ag rfl,aN,aa];cases d:(fE c (fF r (bq c r.2.2.2.2.2.1 (one (aC name.data.toList) name r.1)).1) (aC name.data.toList) name false).2 with
  |true=>rw[i d];rfl|false=>rw[azO d];rfl
def jy (r:aw)(b:cq):aw:=if nj b>=r.2.1 then ka r (nj b) else r
def iT (c:Int×Int)(r:aw)(b:cq):Bool:=decide (nj b>=r.2.1)&&hX c (SO c r.2.2.2.1 b.2) b
def tt (c:Int×Int)(r:aw)(b:cq):bd:=if iT c r b=true then (nj b,(SO c r.2.2.2.1 b.2).2) else SO c r.2.2.2.1 b.2
def B0 (c:Int×Int)(r:aw)(b:cq)(a:Bool)(W:aw×Bool):aw×Bool :=
 if W.2=true then (if a=true then (if (own c W.1 b.1).2=true then ((own c W.1 b.1).1,true) else (r,false)) else (W.1,true)) else (r,false)
def e8 (c:Int×Int)(r:aw)(b:cq):aw×Bool:=B0 c r b (iT c r b) (hY c (jy r b) (tt c r b))
def aY.jy {c:Int×Int}{r:aw}(h:aY c r)(b:cq):aY c (jy r b):=by
 unfold Tryz.jy;have:=h.view;have a:=mS b.1.data.toList;split
 .exact h.ka (by unfold nj at *;omega) (by unfold nj at *;omega)
 .exact h
def azP {c:Int×Int}{r:aw}(h:aY c r)(b:cq):kg (tt c r b):=by
 have:=aqT h b.2;unfold tt;split
 .exact this
 .exact this
def aY.B0 {c:Int×Int}{r:aw}(h:aY c r)(b:cq)(d:Bool){W:aw×Bool}(a:aY c W.1):aY c (B0 c r b d W).1:=by
 unfold Tryz.B0;split
 .split
  .split
   .exact a.owned _
   .exact h
  .exact a
 .exact h
def aY.aq0 {c:Int×Int}{r:aw}(h:aY c r)(b:cq):aY c (e8 c r b).1:=h.B0 b _ ((h.jy b).wrote _)
def aCa {c:Int×Int}{r:aw}{b:cq}(g:b.1.size<=1048576)(a:Bool){W:aw×Bool}(i:aY c W.1)(x:aw) :
  ((some (if W.2=true then (W.1,true,UQ) else (UQ,false,x)):Option (aw×Bool×aw)).bind fun d=>br d.2.1 (br a ((nc F0 c d.1 b.1).bind fun e=>br (!e.1.2.1) (some (r,false,())) (some (e.1.1,true,()))) (some (d.1,true,()))) (some (r,false,())))=some ((B0 c r b a W).1,(B0 c r b a W).2,()):=by
 have f:=aB9 i g;obtain⟨j,k⟩:=W;unfold B0;cases k with
 |false=>rfl
 |true =>
  cases a with
  |false=>rfl
  |true =>
   dsimp only at f ⊢;rw[ag rfl,ag rfl,ag rfl,ai];dsimp only;rw[ae,ae,f,ai];cases h:(own c j b.1).2<;>rfl
def azQ {c:Int×Int}{s:bd}{b:cq}(h:hX c s b=true):azA c s b=((nj b,s.2),true):=ag h
def aI4 {c:Int×Int}{s:bd}{b:cq}(h:hX c s b=false):azA c s b=(s,false):=af (by rw[h];decide)
def aHh {c:Int×Int}{r:aw}{b:cq}(a:nj b>=r.2.1)(d:hX c (SO c r.2.2.2.1 b.2) b=true):iT c r b=true/\tt c r b=(nj b,(SO c r.2.2.2.1 b.2).2):=by
 have:iT c r b=true:=by unfold iT;rw[aL a,d];rfl
 exact⟨this,ag this⟩
def aD4 {c:Int×Int}{r:aw}{b:cq}(h:¬(nj b>=r.2.1/\hX c (SO c r.2.2.2.1 b.2) b=true)):iT c r b=false/\tt c r b=SO c r.2.2.2.1 b.2:=by
 have:iT c r b=false:=by
  unfold iT;by_cases a:nj b>=r.2.1
  .cases d:hX c (SO c r.2.2.2.1 b.2) b with
   |true=>exact absurd ⟨a,d⟩ h|false=>rw[adu]
  .rw[aQ a];rfl
 exact⟨this,af (by rw[this];decide)⟩
def aby {c:Int×Int}{r:aw}(h:aY c r){b:cq}(l:fB c b=true):qb F0 c r b=some ((e8 c r b).1,(e8 c r b).2,()):=by
 obtain⟨d,g⟩:=JO l;have m:=aqT h b.2;have n:=akn (c:=c) m d g;have o:=aG8 (c:=c) m d g;have q:=SS (h.jy b) (azP h b);have s:aY c (hY c (jy r b) (tt c r b)).1:=(h.jy b).wrote _;have t:=aCa (r:=r) d (iT c r b) s (jy r b);rw[aeu,dV h.bt,ai,hU h.l,ai,h.ok,aN,aa,Ov d g,ai,l,aN,aa,axd h.l.s g,oW d];simp only[ai,n,o];rw[show aC b.1.data.toList=nj b from rfl];show _=some ((B0 c r b (iT c r b) (hY c (jy r b) (tt c r b))).1,(B0 c r b (iT c r b) (hY c (jy r b) (tt c r b))).2,());rw[<-t,<-q];by_cases a:nj b>=r.2.1
 .have i:jy r b=(r.1,nj b,r.2.2):=ag a;rw[aL a,ae,ae];cases k:hX c (SO c r.2.2.2.1 b.2) b with
  |true =>
   obtain⟨e,f⟩:=aHh a k;rw[e,f,i,azQ k,ae]
  |false =>
   obtain⟨e,f⟩:=aD4 (c:=c) (r:=r) (b:=b) (fun j=>by rw[k]at j;cases j.2);rw[e,f,i,aa]
 .have i:jy r b=r:=af a;obtain⟨e,f⟩:=aD4 (c:=c) (r:=r) (b:=b) (fun j=>a j.1);rw[aQ a,aa,aa,e,f,i];rfl
def aCb {c:Int×Int}{r:aw}{b:cq}(f:b.1.size<=1048576)(d:Bool){W:aw×Bool}(e:aY c W.1)(hid:W.1.1=r.1) :
  br (!W.2) (some (r,false,())) (br (!d) (some (W.1,true,())) ((eK F0 c W.1.2.2.2.2.2.1 (nj b,b.1,[r.1])).bind fun g=>br (!g.2.1) (some (r,false,())) ((nS F0 c (W.1.1,W.1.2.1,W.1.2.2.1,W.1.2.2.2.1,W.1.2.2.2.2.1,g.1,W.1.2.2.2.2.2.2) (nj b) b.1 false).bind fun h=>some (h.1,true,()))))=some ((B0 c r b d W).1,(B0 c r b d W).2,()):=by
 obtain⟨a,i⟩:=W;dsimp only at e hid ⊢;unfold B0;cases i with
 |false=>rfl
 |true =>
  cases d with
  |false=>rfl
  |true =>
   have j:eK F0 c a.2.2.2.2.2.1 (nj b,b.1,[r.1])=some ((bq c a.2.2.2.2.2.1 (one (aC b.1.data.toList) b.1 a.1)).1,(bq c a.2.2.2.2.2.1 (one (aC b.1.data.toList) b.1 a.1)).2,()):=by rw[hid];exact ES (vU e.f.t) ⟨f,by show 1<=1000;omega⟩ c
   have k:=e.fF (o0 e.f.t (one (aC b.1.data.toList) b.1 a.1));have l:=ada k (nj b) f false;have m:nS F0 c (a.1,a.2.1,a.2.2.1,a.2.2.2.1,a.2.2.2.2.1,(bq c a.2.2.2.2.2.1 (one (aC b.1.data.toList) b.1 a.1)).1,a.2.2.2.2.2.2) (nj b) b.1 false=some ((fE c (fF a (bq c a.2.2.2.2.2.1 (one (aC b.1.data.toList) b.1 a.1)).1) (nj b) b.1 false).1,(fE c (fF a (bq c a.2.2.2.2.2.1 (one (aC b.1.data.toList) b.1 a.1)).1) (nj b) b.1 false).2,()):=l;rw[j,ai,ag rfl,ag rfl];unfold own;dsimp only;cases n:(bq c a.2.2.2.2.2.1 (one (aC b.1.data.toList) b.1 a.1)).2 with
   |false=>rfl
   |true =>
    rw[m,ai];rfl
def Yh {c:Int×Int}{r:aw}(h:aY c r){b:cq}(m:fB c b=true):re F0 c r b=some ((e8 c r b).1,(e8 c r b).2,()):=by
 obtain⟨i,l⟩:=JO m;have n:=aqT h b.2;have o:=aFk (c:=c) n i l;have e:=ac8 (h.jy b) (azP h b);have q:aY c (hY c (jy r b) (tt c r b)).1:=(h.jy b).wrote _;have hid:(hY c (jy r b) (tt c r b)).1.1=r.1:=by rw[af8];unfold jy;split<;>rfl
 have s:=aCb (r:=r) i (iT c r b) q hid;rw[afa,dR h.l,ai,h.ok,aN,aa,Jm i l,ai,m,aN,aa,aqJ h.l.s l,rq i,dW h.bt];simp only[ai,o];rw[show aC b.1.data.toList=nj b from rfl];show _=some ((B0 c r b (iT c r b) (hY c (jy r b) (tt c r b))).1,(B0 c r b (iT c r b) (hY c (jy r b) (tt c r b))).2,());rw[<-s];by_cases f:nj b>=r.2.1
 .have d:jy r b=(r.1,nj b,r.2.2):=ag f;rw[aL f,ae];cases j:hX c (SO c r.2.2.2.1 b.2) b with
  |true =>
   obtain⟨g,a⟩:=aHh f j;rw[d,a]at e;rw[g,a,d,azQ j];dsimp only;rw[e,ai]
  |false =>
   obtain⟨g,a⟩:=aD4 (c:=c) (r:=r) (b:=b) (fun k=>by rw[j]at k;cases k.2);rw[d,a]at e;rw[g,a,d,aI4 j];dsimp only;rw[e,ai]
 .have d:jy r b=r:=af f;obtain⟨g,a⟩:=aD4 (c:=c) (r:=r) (b:=b) (fun k=>f k.1);rw[d,a]at e;rw[aQ f,aa,g,a,d,e,ai];rfl
end Go.Am.Tryz
