/- No condition. -/
import Derived.Test.YtaheoongenkdbaaGreatDoorQsXJL3
set_option linter.all false
namespace Go.Am.Tryz
open Go.Am
def vP (a b:Int):Int:=if b>a then b else a
def E8 (a b:Int):Int:=if a<b then a else b
def BK (a b:Int):dz F0 a b=some (vP a b,()):=by
 rw[Xo];unfold vP;by_cases h:a>b
 .rw[aH h,ae,af (by omega)]
 .rw[aK h,aa];by_cases d:b>a
  .rw[ah d]
  .rw[af d,show a=b by omega]
def V8 (a b:Int):bE F0 a b=some (E8 a b,()):=by
 rw[aoe];unfold E8;by_cases h:a<b
 .rw[aH h,ae,ah h]
 .rw[aK h,aa,af h]
def aBS {b:ByteArray}(h:b.size<=1048576):oO F0 b=some ((bO b.data.toList).1,(bO b.data.toList).2,()):=VY (Su h)
def az6 {b:ByteArray}(h:b.size<=1048576):o5 F0 b=some ((bO b.data.toList).1,(bO b.data.toList).2,()):=Qg (Su h)
def V9 (a b:cE):cE:=if a.1>b.1 then a else b
def auW {a b:cE}(d:sH a)(e:sH b):GD F0 a b=some (V9 a b,()):=by
 rw[ahJ,u6 d.2,ag,u6 e.2,ag];unfold V9;by_cases h:a.1>b.1
 .rw[aH h,ae,ah h]
 .rw[aK h,aa,af h]
def asO {a b:cE}(d:sH a)(e:sH b):G9 F0 a b=some (V9 a b,()):=by
 rw[aiB,vK d.2,ag,vK e.2,ag];unfold V9;by_cases h:a.1>b.1
 .rw[aH h,ae,ah h]
 .rw[aK h,aa,af h]
def Vs (ss:List Yu):Bool:=decide (3<=ss.length)&&(((ss.getD (ss.length-1) (0,[])).1==ai ((ss.getD (ss.length-2) (0,[])).1+1))&&((ss.getD (ss.length-2) (0,[])).1==ai ((ss.getD (ss.length-3) (0,[])).1+1)))
def Wa (b:ByteArray):Bool:=Vs (bO b.data.toList).1
def upB (b:ByteArray):ByteArray:=tx (SM b.data.toList)
def aDq (l:List UInt8):(SM l).length<=l.length:=by
 unfold SM;split
 .rw[bz];omega
 .exact aQ _
def JY (b:ByteArray):(upB b).size<=b.size:=by unfold upB;rw[bs];exact aDq _
def az7 {b:ByteArray}(h:b.size<=1048576):df F0 (tx (SM b.data.toList))=some (aZ (SM b.data.toList),()):=by have:=nK (b:=upB b) (cj (JY b) h);rw[show(upB b).data.toList=SM b.data.toList from gn _]at this;exact this
def aw4 {b:ByteArray}(h:b.size<=1048576):dZ F0 (tx (SM b.data.toList))=some (aZ (SM b.data.toList),()):=by have:=py (b:=upB b) (cj (JY b) h);rw[show(upB b).data.toList=SM b.data.toList from gn _]at this;exact this
def iM (b:ByteArray):ByteArray×Bool:=if Wa b=true then (upB (upB b),true) else (aj,false)
def agU {V:Type}{ss:List Yu}(g:ss.length<=30)(x y:Option V) :
  br (decide ((ss.length:Int)<3)) y (ck (bN (ai ((ss.length:Int)-1)) (ss.length:Int)) (ck (bN (ai ((ss.length:Int)-2)) (ss.length:Int)) (br ((ay ss (ai ((ss.length:Int)-1)) (0,[])).1 != (ai ((ay ss (ai ((ss.length:Int)-2)) (0,[])).1+1))) y
   (ck (bN (ai ((ss.length:Int)-2)) (ss.length:Int)) (ck (bN (ai ((ss.length:Int)-3)) (ss.length:Int)) (br ((ay ss (ai ((ss.length:Int)-2)) (0,[])).1 != (ai ((ay ss (ai ((ss.length:Int)-3)) (0,[])).1+1))) y x))))))=if Vs ss=true then x else y:=by
 unfold Vs;by_cases h:3<=ss.length
 .rw[aK (show ¬(ss.length:Int)<3 by omega),aa,aH h,hH];have a:ai ((ss.length:Int)-1)=((ss.length-1:Nat):Int):=by rw[aF (by omega) (by omega)];omega
  have b:ai ((ss.length:Int)-2)=((ss.length-2:Nat):Int):=by rw[aF (by omega) (by omega)];omega
  have d:ai ((ss.length:Int)-3)=((ss.length-3:Nat):Int):=by rw[aF (by omega) (by omega)];omega
  rw[a,b,d,ao (by omega),ad,ao (by omega),ad,ao (by omega),ad,ad,j5,j5,j5];cases e:((ss.getD (ss.length-1) (0,[])).1==ai ((ss.getD (ss.length-2) (0,[])).1+1))<;>cases f:((ss.getD (ss.length-2) (0,[])).1==ai ((ss.getD (ss.length-3) (0,[])).1+1))<;>simp only[bne,e,f]<;>rfl
 .rw[aH (show(ss.length:Int)<3 by omega),ae,aK h];rfl
def auX {b:ByteArray}(h:b.size<=1048576):GF F0 b=some ((iM b).1,(iM b).2,()):=by
 have d:kL F0 (tx (SM b.data.toList))=some (upB (upB b),()):=acA (b:=upB b) (cj (JY b) h);rw[ahL,aBS h,ag,agU (pw _),acA h,ag,d,ag];unfold iM Wa;cases a:Vs (bO b.data.toList).1 with
 |true =>
  have:(bO b.data.toList).2=true:=by
   cases e:(bO b.data.toList).2 with
   |true=>rfl|false=>rw[U9 e]at a;cases a
  rw[this];rfl
 |false=>cases (bO b.data.toList).2<;>rfl
def asP {b:ByteArray}(h:b.size<=1048576):Ha F0 b=some ((iM b).1,(iM b).2,()):=by have a:qV F0 (tx (SM b.data.toList))=some (upB (upB b),()):=acB (b:=upB b) (cj (JY b) h);rw[aiD,az6 h,ag,agU (pw _),acB h,ag,a,ag];unfold iM Wa;cases d:Vs (bO b.data.toList).1<;>rfl
def see (c:Int×Int)(s:bU)(q:cE):bU :=
 if ch c s=true/\eK c q=true then (s.1,vP s.2.1 (aZ (SM q.2.1.data.toList)),V9 q s.2.2.1,if (iM q.2.1).2=true/\aiZ (iM q.2.1).1 s.2.2.2=true then (iM q.2.1).1 else s.2.2.2) else s
def acQ (b:ByteArray):(iM b).1.size<=b.size:=by
 unfold iM;split
 .exact cj (JY _) (JY _)
 .exact aQ _
def asQ {s:bU}{q:cE}(b:lK s)(a:sH q)(c:Int×Int):NZ F0 c s q=some (see c s q,()):=by have d:=acQ q.2.1;rw[at1,Ms b,ag,BJ b,ag,Ql a,ag,auW a b.1,ag,acA a.1,ag,az7 a.1,ag,BK,ag,auX a.1,ag,auG (cj d a.1) b.2,ag];unfold see vP;cases ch c s<;>cases eK c q<;>cases (iM q.2.1).2<;>cases aiZ (iM q.2.1).1 s.2.2.2<;>simp[ae,aa]
def am5 {s:bU}{q:cE}(b:lK s)(a:sH q)(c:Int×Int):OO F0 c s q=some (see c s q,()):=by have d:=acQ q.2.1;rw[at5,Hz b,ag,Eh b,ag,Pj a,ag,asO a b.1,ag,acB a.1,ag,aw4 a.1,ag,asP a.1,ag,acI (cj d a.1) b.2,ag];unfold see vP;cases ch c s<;>cases eK c q<;>cases (iM q.2.1).2<;>cases aiZ (iM q.2.1).1 s.2.2.2<;>simp[ae,aa]
def mG (c:Int×Int)(s:bU)(b:cG):Bool:=ch c s&&(fm c b&&(decide (aZ b.1.data.toList>s.1)&&decide (b.2.1>=s.2.1)))
def agV {s:bU}{b:cG}(d:lK s)(a:b.1.size<=1048576)(e:sH b.2)(c:Int×Int):w7 F0 c s b=some (mG c s b,()):=by rw[ahP,BJ d,ag,Mn a e,ag,nK a,ag];unfold mG;cases ch c s<;>cases fm c b<;>cases decide (aZ b.1.data.toList>s.1)<;>rfl
def asR {s:bU}{b:cG}(d:lK s)(a:b.1.size<=1048576)(e:sH b.2)(c:Int×Int):Hc F0 c s b=some (mG c s b,()):=by rw[aiG,Eh d,ag,Ht a e,ag,py a,ag];unfold mG;cases ch c s<;>cases fm c b<;>cases decide (aZ b.1.data.toList>s.1)<;>rfl
def auY (c:Int×Int)(s:bU)(b:cG):bU×Bool:=if mG c s b=true then ((aZ b.1.data.toList,s.2),true) else (s,false)
def aBT {s:bU}{b:cG}(a:lK s)(d:b.1.size<=1048576)(e:sH b.2)(c:Int×Int):N1 F0 c s b=some ((auY c s b).1,(auY c s b).2,()):=by rw[arJ,Ms a,ag,agV a d e,ag,nK d,ag];unfold auY;cases mG c s b<;>rfl
def az8 {s:bU}{b:cG}(a:lK s)(d:b.1.size<=1048576)(e:sH b.2)(c:Int×Int):VT F0 c s b=some ((auY c s b).1,(auY c s b).2,()):=by rw[ar6,Hz a,ag,asR a d e,ag,py d,ag];unfold auY;cases mG c s b<;>rfl
abbrev rV:=List Int×Int
def Mw (d:rV)(b:List Int):rV×Bool:=if fk d=true/\d.1.length+b.length<=100000 then ((d.1++b,d.2),true) else (d,false)
def dn {d:rV}:fk d=true↔d.1.length<=100000/\0<=d.2/\d.2<=d.1.length:=by unfold fk e4;simp only[aD,bV];omega
def aw5 {d:rV}{b:List Int}(e:d.1.length<=1048576)(i:b.length<=1048576):KJ F0 d b=some ((Mw d b).1,(Mw d b).2,()):=by
 rw[akW,Mt e,ag,av (by omega) (by omega) (by first|omega|(simp only[aL,aV,ba];omega)|(rw[a1,bz];omega)),ad,JQ,ag,JQ,ag,ag];unfold Mw;cases h:fk d with
 |false=>rfl
 |true =>
  have f:=dn.1 h;by_cases a:d.1.length+b.length<=100000
  .have:fk (d.1++b,d.2)=true:=dn.2 ⟨by dsimp only;rw[aL];exact a,f.2.1,by dsimp only;rw[aL];omega⟩;rw[this,ah ⟨rfl,a⟩];rfl
  .have:fk (d.1++b,d.2)=false:=by
    cases g:fk (d.1++b,d.2) with
    |false=>rfl
    |true =>
     have:=(dn.1 g).1;dsimp only at this;rw[aL]at this;exact absurd this a
   rw[this,af (fun h=>a h.2)];rfl
def auZ {d:rV}{b:List Int}(e:d.1.length<=1048576)(f:b.length<=1048576):LP F0 d b=some ((Mw d b).1,(Mw d b).2,()):=by
 rw[alU,HA e,ag,av (by omega) (by omega) (by first|omega|(simp only[aL,aV,ba];omega)|(rw[a1,bz];omega)),ad,Ml,ag,aF (by omega) (by omega)];unfold Mw;cases h:fk d with
 |false=>rfl
 |true =>
  by_cases a:d.1.length+b.length<=100000
  .rw[aK (show ¬(d.1.length:Int)+b.length>100000 by omega),ah ⟨rfl,a⟩];rfl
  .rw[aH (show(d.1.length:Int)+b.length>100000 by omega),af (fun h=>a h.2)];rfl
def sI (d:rV):rV:=if fk d=true then (d.1,(d.1.length:Int)) else d
def aBU {d:rV}(a:d.1.length<=1048576):VO F0 d=some (sI d,()):=by rw[arP,Mt a,ag,JQ,ag];unfold sI;cases fk d<;>rfl
def az9 {d:rV}(a:d.1.length<=1048576):VR F0 d=some (sI d,()):=by rw[ar0,HA a,ag,Ml,ag];unfold sI;cases fk d<;>rfl
def Mx (d:rV)(keep:Int):Int:=d.2+vP 0 (E8 keep ((d.1.length:Int)-d.2))
def sJ (d:rV)(keep:Int):rV:=if fk d=true then (d.1.take (Mx d keep).toNat,Mx d keep) else d
def am6 {d:rV}(h:fk d=true)(keep:Int):d.2<=Mx d keep/\Mx d keep<=d.1.length:=by have:=dn.1 h;unfold Mx vP E8;split<;>split<;>omega
def aw6 {d:rV}(e:d.1.length<=1048576)(keep:Int):Lf F0 d keep=some (sJ d keep,()):=by
 rw[alp,Mt e,ag,JQ,ag,V8,ag,BK,ag];unfold sJ;cases h:fk d with
 |false=>rfl
 |true =>
  have i:=dn.1 h;have b:=am6 h keep;have f:ai ((d.1.length:Int)-d.2)=(d.1.length:Int)-d.2:=aF (by omega) (by omega);have g:ai (d.2+vP 0 (E8 keep ((d.1.length:Int)-d.2)))=Mx d keep:=aF (by unfold Mx at b;omega) (by unfold Mx at b;omega);rw[aG,aa,ah rfl];dsimp only;rw[f,g,amV (by omega) (by omega) b.2,ad,av (a:=0) (by omega) (by omega) (by first|omega|(simp only[aL,aV,ba];omega)|(rw[a1,bz];omega)),ad];rfl
def au0 {d:rV}(a:d.1.length<=1048576)(keep:Int):Mc F0 d keep=some (sJ d keep,()):=by
 rw[amg,HA a,ag,Ml,ag];unfold sJ;cases h:fk d with
 |false=>rfl
 |true =>
  have f:=dn.1 h;have g:=am6 h keep;have b:ai ((d.1.length:Int)-d.2)=(d.1.length:Int)-d.2:=aF (by omega) (by omega);have e:ai (d.2+(if (d.1.length:Int)-d.2<(if 0>keep then 0 else keep) then (d.1.length:Int)-d.2 else (if 0>keep then 0 else keep)))=Mx d keep:=by
   have:d.2+(if (d.1.length:Int)-d.2<(if 0>keep then 0 else keep) then (d.1.length:Int)-d.2 else (if 0>keep then 0 else keep))=Mx d keep:=by unfold Mx vP E8;split<;>split<;>split<;>split<;>omega
   rw[this];exact aF (by omega) (by omega)
  rw[ae,ah rfl];dsimp only;rw[b,e,show okT (Mx d keep) (d.1.length:Int)=true by simp[okT];omega,ad]
def am7 (s:bU):Int:=E8 60 (vP (vP s.1 (ai (s.2.2.1.1+1))) 1)
def aDr (c:Int×Int)(r:aA):aA:=(r.1,am7 (lM c r.2.2.2.2.2.2.1.1).1,0,(lM c r.2.2.2.2.2.2.1.1).1,[],[],(r.2.2.2.2.2.2.1.1.take (lM c r.2.2.2.2.2.2.1.1).2,((lM c r.2.2.2.2.2.2.1.1).2:Int)),[])
def au1 (c:Int×Int){b:List Int}(e:dH b):∀(f:Nat) (s:bU) (a:Nat),a<=b.length->(JV c b f s a).2<=b.length
 |0,s,a,d=>d|f+1,s,a,d=>by
  cases h:Vj c b a with
  |none=>rw[kg h];exact d
  |some z =>
   obtain⟨g,i⟩:=z;rw[Qt h];exact au1 c e f g i (aBM e d h).2.1
def Vt (c:Int×Int){b:List Int}(a:dH b):(lM c b).2<=b.length:=au1 c a _ _ _ (aQ _)
def aBV {r:aA}(h:az5 r){c:Int×Int}(b:oF c r=true):On F0 c r=some (aDr c r,()):=by have d:=Vt c h.d;have e:=h.d.1;rw[arR,gx h.l,ag,b,aG,aa,asG h.d,ag,BK,ag,BK,ag,V8,ag];dsimp only;rw[amV (by omega) (by omega) (by omega),ad,av (a:=0) (by omega) (by omega) (by first|omega|(simp only[aL,aV,ba];omega)|(rw[a1,bz];omega)),ad];rfl
def aAa {r:aA}(h:az5 r){c:Int×Int}(b:oF c r=true):O8 F0 c r=some (aDr c r,()):=by have d:=Vt c h.d;have e:=h.d.1;rw[ash,dV h.l,ag,b,aG,aa,aoO h.d,ag];dsimp only;rw[amV (by omega) (by omega) (by omega),ad,av (a:=0) (by omega) (by omega) (by first|omega|(simp only[aL,aV,ba];omega)|(rw[a1,bz];omega)),ad];rfl
def sameAt (a b:cE):Bool:=(a.1==b.1)&&(a.2.1.toList==b.2.1.toList)
def acR (a b:cE):cE:=(a.1,a.2.1,ap0 a.2.2 b.2.2)
def asS {a b:cE}(h:a.2.2.length+b.2.2.length<=1048576):Co F0 a b=some (if sameAt a b=true then acR a b else b5,sameAt a b,()):=by rw[adW,auo h,ag];unfold sameAt acR bne;cases (a.1==b.1)<;>cases (a.2.1.toList==b.2.1.toList)<;>rfl
def aoV {a b:cE}(h:a.2.2.length+b.2.2.length<=1048576):CZ F0 a b=some (if sameAt a b=true then acR a b else b5,sameAt a b,()):=by rw[aeC,asy h,ag];unfold sameAt acR bne;cases (a.1==b.1)<;>cases (a.2.1.toList==b.2.1.toList)<;>rfl
def fl (p:cE):List cE->List cE
 |[]=>[p]|x::l=>if e7 x p=true then x::fl p l else if sameAt x p=true then acR x p::l else p::x::l
def bo (c:Int×Int)(l:List cE)(p:cE):List cE×Bool:=if gM c p=true/\ew c (fl p l)=true then (fl p l,true) else (l,false)
def Z4 (p:cE):∀l:List cE,(fl p l).length<=l.length+1
 |[]=>bP _|x::l=>by
  have:=Z4 p l;unfold fl;split
  .simp only[aV];omega
  .split<;>simp
def My (p:cE):∀(k:Nat) (l:List cE),(∀x∈l.take k,e7 x p=true)->fl p l=l.take k++fl p (l.drop k)
 |0,l,_=>rfl|k+1,[],_=>rfl|k+1,x::l,h=>by rw[fl,ah (h x (by simp)),My p k l fun y a=>h y (by simp[a])];rfl
def aw7 (l:List cE):Prop:=l.length<=1000/\∀q∈l,q.2.1.size<=1048576/\q.2.2.length<=1000
def aw7.l {l:List cE}(h:aw7 l){q:cE}(a:q∈l):sH q:=⟨(h.2 q a).1,cj (h.2 q a).2 (by omega)⟩
def aDs {a b:cE}(d:a.2.1.size<=1048576/\a.2.2.length<=1000)(e:b.2.2.length<=1000):sH (acR a b):=⟨d.1,by have:=azP a.2.2 b.2.2;show(ap0 a.2.2 b.2.2).length<=_;omega⟩
def am8 {p:cE}(b:p.2.1.size<=1048576/\p.2.2.length<=1000):∀{l:List cE},aw7 l->∀q∈fl p l,sH q
 |[],_,q,a=>by rw[ki.1 a];exact⟨b.1,by omega⟩
 |x::l,h,q,a=>by
  have e:=h.2 x J5;have d:aw7 l:=⟨by have:=h.1;rw[aV]at this;omega,fun y f=>h.2 y (rL _ f)⟩;unfold fl at a;split at a
  .rcases fe.1 a with rfl|a
   .exact h.l J5
   .exact am8 b d q a
  .split at a
   .rcases fe.1 a with rfl|a
    .exact aDs e b.2
    .exact d.l a
   .rcases fe.1 a with rfl|a
    .exact⟨b.1,by omega⟩
    .exact h.l a
def aw8 {V:Type}(c:Int×Int)(l:List cE)(p:cE)(x y:Option V):br (!ew c (fl p l)) y (br (!gM c p) y x)=if gM c p=true/\ew c (fl p l)=true then x else y:=by cases ew c (fl p l)<;>cases gM c p<;>rfl
def HC {l:List cE}(h:aw7 l){p:cE}(m:p.2.1.size<=1048576/\p.2.2.length<=1000)(c:Int×Int):eM F0 c l p=some ((bo c l p).1,(bo c l p).2,()):=by
 have D:=h.1;have A:sH p:=⟨m.1,by omega⟩;have E:=Z4 p l;have cU:l5 F0 (c.1,c.2) (fl p l)=some (ew c (fl p l),()):=agM (by omega) (am8 m h) c;rw[adY];refine cp (fun n k (z:Bool×List cE)=>gF F0 (x0 F0) n (eS l z.1 k c.1 c.2 p.1 p.2.1 p.2.2 z.2)) l.length
  (fun k z=>(z.1=false/\z.2=l.take k/\∀x∈l.take k,e7 x p=true)\/(z.1=true/\z.2++l.drop k=fl p l)) _ (fun n k z b i=>.inr ?_) (fun n z i=>?_) F0.n 0 (false,[]) (aQ _) (.inl ⟨rfl,rfl,fun x o=>by simp at o⟩) (by rw[bH];omega)
 .have o:=h.2 _ (cy b);have s:l.drop k=l[k]::l.drop (k+1):=QG b;rcases i with ⟨d,a,g⟩|⟨d,a⟩
  .have B:z.2.length<=1000:=by rw[a,bz];omega
   have e:=My p k l g;rw[s,fl]at e;rw[d,jI,aO b,ae,ao b,ad,bb b,lZ (by omega),ag];dsimp only;rw[show((p.1,p.2.1,p.2.2):cE)=p from rfl,Yz,ag,asS (by omega),ag,lZ (q:=p) (by omega),ag];cases t:e7 l[k] p with
   |true =>
    refine⟨(false,z.2++[l[k]]),?_,.inl ⟨rfl,?_,?_⟩⟩
    .rw[dW,ae,aG,aa,av (by omega) (by omega) (by first|omega|(simp only[aL,aV,ba];omega)|(rw[a1,bz];omega)),ad,al (by omega)]
    .show z.2++[l[k]]=_;rw[hz b,a]
    .intro x u;rw[hz b]at u;rcases kj.1 u with j|j
     .exact g x j
     .rw[ki.1 j];exact t
   |false =>
    rw[t,af (by decide)]at e;cases f:sameAt l[k] p with
    |true =>
     rw[f,ah rfl]at e;refine⟨(true,z.2++[acR l[k] p]),?_,.inr ⟨rfl,?_⟩⟩
     .rw[dW,ae,ae,ah rfl,ae,av (by omega) (by omega) (by first|omega|(simp only[aL,aV,ba];omega)|(rw[a1,bz];omega)),ad,al (by omega)]
     .show(z.2++[acR l[k] p])++_=_;rw[e,a,ik];rfl
    |false =>
     rw[f,af (by decide)]at e;refine⟨(true,z.2++[p]++[l[k]]),?_,.inr ⟨rfl,?_⟩⟩
     .rw[dW,ae,ae,aa,av (by omega) (by omega) (by first|omega|(simp only[aL,aV,ba];omega)|(rw[a1,bz];omega)),ad,av (by omega) (by omega) (by first|omega|(simp only[aL,aV,ba];omega)|(rw[a1,bz];omega)),ad,al (by omega)]
     .show(z.2++[p]++[l[k]])++_=_;rw[e,a,ik,ik];rfl
  .have B:z.2.length<=1001:=by have:=ve List.length a;rw[aL]at this;omega
   refine⟨(true,z.2++[l[k]]),?_,.inr ⟨rfl,?_⟩⟩
   .rw[d,jI,aO b,ae,ao b,ad,bb b,lZ (by omega),ag];dsimp only;rw[aG,aa,av (by omega) (by omega) (by first|omega|(simp only[aL,aV,ba];omega)|(rw[a1,bz];omega)),ad,al (by omega)]
   .show(z.2++[l[k]])++_=_;rw[ik,<-a,s];rfl
 .have v:jD F0 (c.1,c.2) (p.1,p.2.1,p.2.2)=some (gM c p,()):=Qm A c;have w:fM F0 l=some (l,()):=acM (by omega) fun q C=>h.l C
  have y:br (!ew c (fl p l)) (some (l,false,())) (br (!gM c p) (some (l,false,())) (some (fl p l,true,())))=some ((bo c l p).1,(bo c l p).2,()):=by rw[aw8];unfold bo;split<;>rfl
  rcases i with ⟨d,a,g⟩|⟨d,a⟩
  .have f:=My p l.length l g;rw[WU,mH]at f;rw[mH]at a;rw[d,jI,aE,aa,Fy,dW,ae,show((p.1,(p.2.1,p.2.2)):cE)=p from rfl,lZ (by omega),ag,a,av (by omega) (by omega) (by first|omega|(simp only[aL,aV,ba];omega)|(rw[a1,bz];omega)),ad,
    show l++[p]=fl p l from f.symm,cU,ag,v,ag,w,ag]
   exact y
  .rw[WU,fS]at a;rw[d,jI,aE,aa,Fy,aG,aa,a,cU,ag,v,ag,w,ag];exact y
def aDt (a b:cE):Int:=if e7 a b=true then -1 else if sameAt a b=true then 0 else 1
def Sv (a b:cE):eW F0 a b=some (aDt a b,()):=by
 rw[DN,agL,ag,acy,ag];unfold aDt e7 sameAt aC9 aDa;dsimp only;by_cases h:a.1<b.1
 .rw[ah h,aH h];rfl
 .rw[af h,aK h,va];by_cases d:a.1>b.1
  .rw[ah d,bR.2 (show a.1≠b.1 by omega)];rfl
  .rw[af d,show a.1=b.1 by omega,aal,hH,hH];cases Op.bytesLess a.2.1.toList b.2.1.toList<;>cases (a.2.1.toList==b.2.1.toList)<;>rfl
def ajm {γ:Type}(X:Nat->Int->Option γ)(L:Nat)(p:Nat->Bool)(E:Nat->Option γ)(b:∀n k,k<L->X (n+1) (k:Int)=if p k=true then X n ((k+1:Nat):Int) else E k)(d:∀n,X (n+1) (L:Int)=E L) :
  ∀(j k n:Nat),k+j=L->(∀i,i<k->p i=true)->j<n->∃i,i<=L/\(∀j,j<i->p j=true)/\(i<L->p i=false)/\X n (k:Int)=E i
 |0,k,n+1,f,a,g=>⟨L,bP _,fun j s=>a j (by omega),fun h=>absurd h (SQ _),by rw[show k=L by omega];exact d n⟩
 |j+1,k,n+1,f,a,g=>by
  cases h:p k with
  |true =>
   obtain⟨i,l,m,o,q⟩:=ajm X L p E b d j (k+1) n (by omega) (fun i t=>by
    by_cases e:i=k
    .rw[e];exact h
    .exact a i (by omega)) (by omega)
   exact⟨i,l,m,o,by rw[b n k (by omega),h,ah rfl];exact q⟩
  |false=>exact⟨k,by omega,a,fun _=>h,by rw[b n k (by omega),h,af (by decide)]⟩
def aAb {p:cE}{l:List cE}{i:Nat}(hi:i<=l.length)(b:∀a (h:a<l.length),a<i->e7 l[a] p=true)(d:∀h:i<l.length,e7 l[i] p=false) :
  fl p l=if h:i<l.length then (if sameAt l[i] p=true then l.set i (acR l[i] p) else l.take i++[p]++l.drop i) else l.take i++[p]++l.drop i:=by
 rw[My p i l fun x e=>by obtain⟨a,f,rfl⟩:=afB e;rw[bz]at f;rw[List.getElem_take];exact b a (by omega) (by omega)]
 by_cases h:i<l.length
 .rw[dif_pos h,QG h,fl,d h,af (by decide)];split
  .rw[List.set_eq_take_append_cons_drop,ah h]
  .simp
 .rw[dif_neg h,aqB (by omega)];simp[fl]
def Dg {l:List cE}(h:aw7 l){p:cE}(j:p.2.1.size<=1048576/\p.2.2.length<=1000)(c:Int×Int):ep F0 c l p=some ((bo c l p).1,(bo c l p).2,()):=by
 have C:=h.1;have v:sH p:=⟨j.1,by omega⟩;have D:=Z4 p l;have cU:jO F0 (c.1,c.2) (fl p l)=some (ew c (fl p l),()):=acz (by omega) (am8 j h) c;have m:en F0 l=some (l,()):=YB (by omega) fun q w=>h.l w
 have x:eN F0 (p.1,p.2.1,p.2.2)=some (p,()):=Af (q:=p) (by omega);rw[aeE,Mk v,ag,m,ag,ag];cases o:gM c p with
 |false =>
  unfold bo;rw[o,af (by simp)];rfl
 |true =>
  have e:br (!ew c (fl p l)) (some (l,false,())) (some (fl p l,true,()))=some ((bo c l p).1,(bo c l p).2,()):=by unfold bo;rw[o];cases ew c (fl p l)<;>simp[br]
  rw[aG,aa];obtain⟨i,f,y,s,z⟩:=ajm (fun n k=>uh F0 (oz F0) n (oy l k c.1 c.2 p.1 p.2.1 p.2.2 l)) l.length (fun k=>e7 (l.getD k b5) p) (fun k=>oz F0 (.exit 0) (mz l (k:Int) c.1 c.2 p.1 p.2.1 p.2.2 l))
   (fun n k d=>by rw[DU,aO d,ae,ao d,ad,bb d,show((p.1,p.2.1,p.2.2):cE)=p from rfl,Sv,ag,al (by omega),aY d];unfold aDt;cases e7 l[k] p<;>cases sameAt l[k] p<;>rfl)
   (fun n=>by rw[DU,aE,aa]) l.length 0 F0.n (by omega) (fun i a=>absurd a (QI _)) (by rw[bH];omega)
  have b:=aAb (p:=p) f (fun A t B=>by have:=y A B;rw[aY t]at this;exact this) (fun a=>by have:=s a;rw[aY a]at this;exact this);refine AJ z ?_;rw[WI,x,ag,m,ag];by_cases a:i<l.length
  .rw[dif_pos a]at b;have t:=h.2 _ (cy a);rw[aO a,ae,ao a,ad,bb a,show((p.1,p.2.1,p.2.2):cE)=p from rfl,Sv,ag];unfold aDt;have u:=s a;rw[aY a]at u;rw[u,af (by decide)];cases g:sameAt l[i] p with
   |true =>
    rw[g,ah rfl]at b;rw[ah rfl,show((0:Int)==0)=true from rfl,ae,aoV (by omega),ag,g,ah rfl,ad,ad,kC];dsimp only;rw[<-b,cU,ag];exact e
   |false =>
    rw[g,af (by decide)]at b;rw[af (by decide),show((1:Int)==0)=false from rfl,aa,HQ f (by simp) (by simp only[aV,ba];omega),ad,kC,<-b,cU,ag];exact e
  .rw[dif_neg a]at b;rw[aK (show ¬(i:Int)<(l.length:Int) by omega),aa,HQ f (by simp) (by simp only[aV,ba];omega),ad,kC,<-b,cU,ag];exact e
def dq (l:List cE)(view:Int)(name:ByteArray):cE:=match l.find? fun x=>(x.1==view)&&(x.2.1.toList==name.toList) with
 |some x=>x|none=>(view,name,[])
def aqf {U:Type}{p:U->Bool}{l:List U}{k:Nat}(a:k<l.length):(l.drop k).find? p=if p l[k]=true then some l[k] else (l.drop (k+1)).find? p:=by rw[QG a,List.find?_cons];cases p l[k]<;>rfl
def Qz {l:List cE}(h:l.length<=1048576)(f:∀q∈l,sH q)(view:Int)(name:ByteArray):nz F0 l view name=some (dq l view name,()):=by
 rw[adK];refine cp (fun n k (z:Unit)=>mR F0 (n1 F0) n (jG l view name k 0 aj [])) l.length (fun k _=>l.find? (fun x=>(x.1==view)&&(x.2.1.toList==name.toList))=(l.drop k).find? fun x=>(x.1==view)&&(x.2.1.toList==name.toList)) _ (fun n k z b a=>?_) (fun n z a=>?_) F0.n 0 () (aQ _) rfl (by rw[bH];omega)
 .rw[aqf b]at a;rw[Dx,aO b,ae,ao b,ad,ad,ad,bb b,lZ (f _ (cy b)).2,ag,Zd,al (by omega)];cases d:(l[k].1==view) with
  |false =>
   rw[d,WV,af (by decide)]at a;exact .inr ⟨(),aa _ _,a⟩
  |true =>
   cases e:(l[k].2.1.toList==name.toList) with
   |false =>
    rw[d,e,hH,af (by decide)]at a;exact .inr ⟨(),by rw[ae,aa],a⟩
   |true =>
    rw[d,e,hH,ah rfl]at a;refine .inl ?_;unfold dq;rw[a];rfl
 .rw[WU]at a;rw[Dx,aE,aa,Wv];unfold dq;rw[a];rfl
def YD {l:List cE}(h:l.length<=1048576)(f:∀q∈l,sH q)(view:Int)(name:ByteArray):sz F0 l view name=some (dq l view name,()):=by
 rw[aeF];refine cp (fun n k (z:Unit)=>nc F0 (oA F0) n (jY view name l (l.length:Int) k 0 aj [])) l.length (fun k _=>l.find? (fun x=>(x.1==view)&&(x.2.1.toList==name.toList))=(l.drop k).find? fun x=>(x.1==view)&&(x.2.1.toList==name.toList)) _ (fun n k z b a=>?_) (fun n z a=>?_) F0.n 0 () (aQ _) rfl (by rw[bH];omega)
 .rw[aqf b]at a;rw[DV,aO b,ae,ao b,ad,bb b,Af (f _ (cy b)).2,ag,ZE,al (by omega)];cases d:(l[k].1==view) with
  |false =>
   rw[d,WV,af (by decide)]at a;exact .inr ⟨(),aa _ _,a⟩
  |true =>
   cases e:(l[k].2.1.toList==name.toList) with
   |false =>
    rw[d,e,hH,af (by decide)]at a;exact .inr ⟨(),by rw[ae,aa],a⟩
   |true =>
    rw[d,e,hH,ah rfl]at a;refine .inl ?_;unfold dq;rw[a];rfl
 .rw[WU]at a;rw[DV,aE,aa,WJ];unfold dq;rw[a];rfl
def acS (l:List cE)(view:Int):List cE:=l.filter fun x=>decide (x.1>=view)
def aoW {l:List cE}(h:l.length<=1048576)(b:∀q∈l,sH q)(view:Int):x6 F0 l view=some (acS l view,()):=by
 rw[abo];refine ajl (fun n k xs=>k6 F0 (uP F0) n (iB l view k xs)) l (fun x=>decide (x.1>=view)) _ (fun n k xs a d=>?_) (fun n=>?_) _ (by rw[bH];omega)
 .rw[Aw,aO a,ae,ao a,ad,ad,bb a,lZ (b _ (cy a)).2,ag,av (by omega) (by omega) (by first|omega|(simp only[aL,aV,ba];omega)|(rw[a1,bz];omega)),ad,al (by omega)];cases decide (l[k].1>=view)<;>rfl
 .rw[Aw,aE,aa,T9];rfl
def am9 {l:List cE}(h:l.length<=1048576)(b:∀q∈l,sH q)(view:Int):gk F0 l view=some (acS l view,()):=by
 rw[ab6];refine ajl (fun n k xs=>lF F0 (u2 F0) n (iE view l (l.length:Int) k xs)) l (fun x=>decide (x.1>=view)) _ (fun n k xs a d=>?_) (fun n=>?_) _ (by rw[bH];omega)
 .rw[AD,aO a,ae,ao a,ad,bb a,Af (b _ (cy a)).2,ag,av (by omega) (by omega) (by first|omega|(simp only[aL,aV,ba];omega)|(rw[a1,bz];omega)),ad,al (by omega)];cases decide (l[k].1>=view)<;>rfl
 .rw[AD,aE,aa,UU];rfl
def Mz {a b c:dU}(d:eL a b=true)(e:eL b c=true):eL a c=true:=by simp only[eL,ju,aD,bV,bc]at *;omega
def aAc (a:dU):eL a a=false:=by simp[eL]
def afo {U:Type}(d:U)(p:U->Bool)(q:U->U->Bool)(l:List U):Vf d p q l=true↔(∀k (h:k<l.length),p l[k]=true)/\∀k (h:k+1<l.length),q l[k] l[k+1]=true:=by
 unfold Vf;rw[hD];constructor
 .intro h;refine⟨fun k a=>?_,fun k a=>?_⟩
  .have:=h k (il.2 a);rw[aY a,aD]at this;exact this.1
  .have:=h (k+1) (il.2 a);rw[aY a,show k+1-1=k from rfl,aY (show k<l.length by omega),aD,ju]at this;rcases this.2 with b|b
   .exact absurd (lT b) (by omega)
   .exact b
 .intro h k a;have a:=il.1 a;rw[aY a,aD,ju];refine⟨h.1 k a,?_⟩;cases k with
  |zero=>exact .inl (aH rfl)|succ k=>rw[show k+1-1=k from rfl,aY (show k<l.length by omega)];exact .inr (h.2 k a)
def asT {U:Type}{q:U->U->Bool}(g:∀a b c,q a b=true->q b c=true->q a c=true){l:List U}(h:∀k (h:k+1<l.length),q l[k] l[k+1]=true){i:Nat}:∀(j:Nat) (d:i<j) (f:j<l.length),q (l[i]'(by omega)) l[j]=true
 |0,d,_=>absurd d (QI _)|j+1,d,f=>by
  by_cases e:i=j
  .subst e;exact h i f
  .exact g _ _ _ (asT g h j (by omega) (by omega)) (h j f)
def Dh (x:dU):List dU->List dU
 |[]=>[x]|y::l=>if eL y x=true then y::Dh x l else x::y::l
def ky (l:List dU)(x:dU):List dU×Bool:=if eI (Dh x l)=true then (Dh x l,true) else (l,false)
def agW (x:dU):∀l:List dU,(Dh x l).length=l.length+1
 |[]=>rfl|y::l=>by
  unfold Dh;split
  .rw[aV,agW x l,aV]
  .rfl
def Z5 {x:dU}:∀{l:List dU} {i:Nat},i<=l.length->(∀a (h:a<l.length),a<i->eL l[a] x=true)->(∀h:i<l.length,eL l[i] x=false)->Dh x l=l.take i++[x]++l.drop i
 |[],i,b,_,_=>by rw[show i=0 by simpa using b];rfl
 |y::l,0,_,_,d=>by have:=d (by simp);rw[Dh,af (by rw[show eL y x=false from this];decide)];rfl
 |y::l,i+1,b,e,d=>by have f:eL y x=true:=e 0 (by simp) (by omega);rw[Dh,ah f,Z5 (l:=l) (i:=i) (by simpa using b) (fun a g j=>e (a+1) (by simpa using g) (by omega)) (fun h=>d (by simpa using h))];rfl
set_option maxRecDepth 20000 in
def au2 {l:List dU}(h:l.length<=1000000)(x:dU):GM F0 l x=some ((ky l x).1,(ky l x).2,()):=by
 rw[ahV];obtain⟨i,e,f,g,j⟩:=ajm (γ:=List dU×Bool×Unit) (fun n k=>x5 F0 (p1 F0) n (p0 l k x.1 x.2.1 x.2.2.1 x.2.2.2)) l.length (fun k=>eL (l.getD k oJ) x) (fun k=>p1 F0 (.exit 0) (oc l (k:Int) x.1 x.2.1 x.2.2.1 x.2.2.2))
  (fun n k b=>by
   rw[Fz,aO b,ae,ao b,ad,bb b,show((x.1,x.2.1,x.2.2.1,x.2.2.2):dU)=x from rfl,acx,ag,al (by omega),aY b];cases v:eL l[k] x with
   |true=>rw[ae,ah rfl]|false=>rw[aa,af (by decide)])
  (fun n=>by rw[Fz,aE,aa]) l.length 0 F0.n (by omega) (fun i d=>absurd d (QI _)) (by rw[bH];omega)
 have m:=Z5 (x:=x) e (fun o q s=>by have:=f o s;rw[aY q]at this;exact this) (fun d=>by have:=g d;rw[aY d]at this;exact this);have w:=agW x l;refine AJ j ?_;have t:(l.take (i:Int).toNat).drop (0:Int).toNat=l.take i:=by rw[kC];rfl
 have u:(l.take (l.length:Int).toNat).drop (i:Int).toNat=l.drop i:=by rw[kC,kC,mH]
 have y:(l.take i).length<=l.length:=by rw[bz];omega
 have z:(l.drop i).length<=l.length:=by rw[a1];omega
 rw[Zl,t,u,Fc,aBI e,ad,av (a:=0) (by omega) (by omega) (by first|omega|(simp only[aL,aV,ba];omega)|(rw[a1,bz];omega)),ad,av (by omega) (by omega) (by first|omega|(simp only[aL,aV,ba];omega)|(rw[a1,bz];omega)),ad,VZ e (bP _),ad,av (by omega) (by omega) (by first|omega|(simp only[aL,aV,ba];omega)|(rw[a1,bz];omega)),ad,show((x.1,(x.2.1,(x.2.2.1,x.2.2.2))):dU)=x from rfl,<-m,amC (by omega),ag,
  av (a:=0) (by omega) (by omega) (by first|omega|(simp only[aL,aV,ba];omega)|(rw[a1,bz];omega)),ad]
 unfold ky;cases eI (Dh x l)<;>rfl
def ay2 {x:dU}{l:List dU}{i:Nat}(hi:i<=l.length)(h:eI (l.take i++[x]++l.drop i)=true):(∀d (e:d<l.length),d<i->eL l[d] x=true)/\∀d (e:d<l.length),i<=d->eL x l[d]=true:=by
 unfold eI at h;rw[aD,afo]at h;have k:=h.1.2;have hlen:(l.take i++[x]++l.drop i).length=l.length+1:=by simp;omega
 have n:∀d (e:d<l.length) (f:d<i),(l.take i++[x]++l.drop i)[d]'(by omega)=l[d]:=fun d e f=>by rw[avK (by simp;omega),avK (by simp;omega),List.getElem_take]
 have m:(l.take i++[x]++l.drop i)[i]'(by omega)=x:=by rw[avK (by simp;omega),List.getElem_append_right (by simp;omega)];simp
 have o:∀d (e:d<l.length) (f:i<=d),(l.take i++[x]++l.drop i)[d+1]'(by omega)=l[d]:=fun d e f=>by
  rw[List.getElem_append_right (by simp;omega),List.getElem_drop]
  congr 1
  simp;omega
 refine⟨fun d e f=>?_,fun d e f=>?_⟩
 .have:=asT (q:=eL) (l:=l.take i++[x]++l.drop i) (fun a b c g j=>Mz g j) k (i:=d) i f (by omega);rw[n d e f,m]at this;exact this
 .have:=asT (q:=eL) (l:=l.take i++[x]++l.drop i) (fun a b c g j=>Mz g j) k (i:=i) (d+1) (by omega) (by omega);rw[m,o d e f]at this;exact this
def ana {a b:dU}(h:eL a b=true):eL b a=false:=by
 cases d:eL b a with
 |false=>rfl
 |true =>
  have:=Mz h d;rw[aAc]at this;cases this
def aBW {x:dU}{l:List dU}{i k:Nat}(hi:i<=l.length)(o:k<=l.length)(j:∀d (h:d<l.length),d<i->eL l[d] x=true)(q:∀h:i<l.length,eL l[i] x=false)
  (s:∀d (h:d<l.length),d<k->eL x l[d]=false) (m:∀h:k<l.length,eL x l[k]=true):eI (l.take k++[x]++l.drop k)=eI (l.take i++[x]++l.drop i)/\(eI (l.take i++[x]++l.drop i)=true->k=i):=by
 by_cases e:k=i
 .subst e;exact⟨rfl,fun _=>rfl⟩
 .have n:eI (l.take i++[x]++l.drop i)=false:=by
   cases h:eI (l.take i++[x]++l.drop i) with
   |false=>rfl
   |true =>
    have g:=(ay2 hi h).2;exfalso;rcases Nat.lt_or_gt_of_ne e with f|f
    .have a:=m (by omega);have b:=j k (by omega) f;rw[ana a]at b;cases b
    .have a:=g i (by omega) (bP _);have b:=s i (by omega) f;rw[a]at b;cases b
  have t:eI (l.take k++[x]++l.drop k)=false:=by
   cases h:eI (l.take k++[x]++l.drop k) with
   |false=>rfl
   |true =>
    have g:=(ay2 o h).1;exfalso;rcases Nat.lt_or_gt_of_ne e with f|f
    .have a:=m (by omega);have b:=j k (by omega) f;rw[ana a]at b;cases b
    .have a:=g i (by omega) f;have b:=q (by omega);rw[a]at b;cases b
  exact⟨by rw[n,t],fun h=>by rw[n]at h;cases h⟩
def au3 {x:dU}{l:List dU}(h:l.length<=1000000){k:Nat}(d:k<=l.length)(j:∀a (h:a<l.length),a<k->eL x l[a]=false)(m:∀h:k<l.length,eL x l[k]=true) :
  br (!eI (l.take k++[x]++l.drop k)) (some (l,false,())) (some (l.take k++[x]++l.drop k,true,()))=some ((ky l x).1,(ky l x).2,()):=by
 obtain⟨i,e,o,q,_⟩:=ajm (fun n (k:Int)=>(some ():Option Unit)) l.length (fun k=>eL (l.getD k oJ) x) (fun k=>some ()) (fun n k d=>by cases eL (l.getD k oJ) x<;>rfl) (fun n=>rfl) l.length 0 (l.length+1) (by omega) (fun i b=>absurd b (QI _)) (by omega);have f:∀a (h:a<l.length),a<i->eL l[a] x=true:=fun a s t=>by have:=o a t;rw[aY s]at this;exact this
 have g:∀h:i<l.length,eL l[i] x=false:=fun b=>by have:=q b;rw[aY b]at this;exact this
 have u:=Z5 (x:=x) e f g;obtain⟨v,w⟩:=aBW e d f g j m;unfold ky;rw[u,v];cases y:eI (l.take i++[x]++l.drop i) with
 |false=>rfl|true=>rw[w y];rfl
def asU {l:List dU}(h:l.length<=1000000)(x:dU):Hi F0 l x=some ((ky l x).1,(ky l x).2,()):=by
 rw[aiK,Vo (by omega),ag,ag];have o:gZ F0 l=some (l,()):=Vo (by omega);rcases ae8 (fun e=>PQ e x) l 0 with ⟨d,f⟩|⟨k,q,d,f,m⟩
 .have d:oK (fun e=>PQ e x) l 0=-1:=d;have g:([x]:List dU).length=1:=rfl;rw[d,show decide ((-1:Int)<0)=true from rfl,ae,HQ (bP _) (by simp) (by rw[g];omega),ad,kC];dsimp only;rw[Vg (by simp only[aL,aV,ba,a1,bz];omega),ag];exact au3 h (bP _) (fun i j _=>f l[i] (cy j)) (fun h=>absurd h (SQ _))
 .have d:oK (fun e=>PQ e x) l 0=((0+k:Nat):Int):=d;rw[vd]at d;have g:([x]:List dU).length=1:=rfl;rw[d,show decide (((k:Nat):Int)<0)=false from aK (by omega),aa,ag,HQ (k:=k) (a:=l.length) (b:=([x]:List dU).length) (by omega) (by simp) (by rw[g];omega),ad,kC];dsimp only;rw[Vg (by simp only[aL,aV,ba,a1,bz];omega),ag];exact au3 h (by omega) (fun i j n=>m i j n) (fun _=>f)
def aqg {l:ie}{x:dU}(h:amR (eE l x).2=false):(eE l x).1=l:=by
 revert h
 unfold eE;split
 .split
  .intro _;rfl
  .split
   .intro _;rfl
   .split
    .intro h;cases h
    .split
     .intro h;cases h
     .intro _;rfl
 .intro _;rfl
def gR:ie->Nat->List dU->List dU
 |_,_,[]=>[]|_,0,_=>[]|l,n+1,x::p=>if amR (eE l x).2=true then x::gR (eE l x).1 n p else gR l (n+1) p
def YE (l:ie):∀p:List dU,gR l 0 p=[]
 |[]=>rfl|_::_=>rfl
def YF {l:ie}{n:Nat}{p:List dU}{k:Nat}(a:k<p.length):gR l (n+1) (p.drop k)=if amR (eE l p[k]).2=true then p[k]::gR (eE l p[k]).1 n (p.drop (k+1)) else gR l (n+1) (p.drop (k+1)):=by rw[QG a,gR]
def afp {p:List dU}(d:p.length<=1048576):∀(j k:Nat) (xs:List dU) (l:ie) (n:Nat),k+j=p.length->xs.length<=2->M4 l->j<n ->
  iY F0 (wZ F0) n (gr p (k:Int) xs l.1 l.2)=some (xs++gR l (2-xs.length) (p.drop k),())
 |0,k,xs,l,n+1,g,e,a,h=>by
  obtain rfl:k=p.length:=by omega
  rw[Dz,aE,aa,Fq,WU];cases 2-xs.length<;>simp[gR]
 |j+1,k,xs,l,n+1,g,e,a,h=>by
  have b:k<p.length:=by omega
  rw[Dz,aO b,ae,Fq];by_cases o:xs.length<2
  .obtain⟨m,f⟩:∃m,2-xs.length=m+1:=⟨1-xs.length,by omega⟩;have i:II F0 (l.1,l.2) p[k]=some ((eE l p[k]).1,(eE l p[k]).2,()):=ass (l:=l) (by have:=a.1;omega) (by have:=a.2;omega) _;rw[aH (show(xs.length:Int)<2 by omega),ae,ao b,ad,bb b,i,ag,ad,av (by omega) (by omega) (by first|omega|(simp only[aL,aV,ba];omega)|(rw[a1,bz];omega)),ad,al (by omega),f,YF b];dsimp only;rw[afp d j (k+1) (xs++[p[k]]) (eE l p[k]).1 n (by omega) (by simp;omega) (aBA a _) (by omega),afp d j (k+1) xs l n (by omega) e a (by omega),f,show 2-(xs++[p[k]]).length=m by simp;omega];unfold amR;cases (eE l p[k]).2==0<;>cases (eE l p[k]).2==4<;>simp[br]
  .rw[aK (show ¬(xs.length:Int)<2 by omega),aa,show 2-xs.length=0 by omega,YE,fS]
def afq {p:List dU}(e:p.length<=1048576):∀(j k:Nat) (xs:List dU) (l:ie) (n:Nat),k+j=p.length->xs.length<=2->M4 l->j<n ->
  jt F0 (y8 F0) n (gw p (p.length:Int) (k:Int) l.1 l.2 xs)=some (xs++gR l (2-xs.length) (p.drop k),())
 |0,k,xs,l,n+1,h,f,a,i=>by
  obtain rfl:k=p.length:=by omega
  rw[DY,aE,aa,F1,WU];cases 2-xs.length<;>simp[gR]
 |j+1,k,xs,l,n+1,h,f,a,i=>by
  have b:k<p.length:=by omega
  rw[DY,aO b,ae,F1,ao b,ad];by_cases s:xs.length<2
  .obtain⟨m,g⟩:∃m,2-xs.length=m+1:=⟨1-xs.length,by omega⟩;have o:JB F0 (l.1,l.2) p[k]=some ((eE l p[k]).1,(eE l p[k]).2,()):=amv (l:=l) (by have:=a.1;omega) (by have:=a.2;omega) _;rw[bR.2 (show(xs.length:Int)≠2 by omega),aa,bb b,o,ag,av (by omega) (by omega) (by first|omega|(simp only[aL,aV,ba];omega)|(rw[a1,bz];omega)),ad,al (by omega),g,YF b];dsimp only;rw[afq e j (k+1) (xs++[p[k]]) (eE l p[k]).1 n (by omega) (by simp;omega) (aBA a _) (by omega),afq e j (k+1) xs (eE l p[k]).1 n (by omega) f (aBA a _) (by omega),g,show 2-(xs++[p[k]]).length=m by simp;omega];have d:=aqg (l:=l) (x:=p[k]);unfold amR at d ⊢;cases q:(eE l p[k]).2==0<;>cases a:(eE l p[k]).2==4<;>simp[br]
   rw[q,a]at d;rw[d rfl]
  .rw[bc.2 (show(xs.length:Int)=2 by omega),ae,show 2-xs.length=0 by omega,YE,fS]
def asV {p:List dU}(b:p.length<=1048576){l:ie}(a:M4 l):nA F0 p l=some (gR l 2 p,()):=by rw[adO,ZM (by have:=a.1;omega) (by have:=a.2;omega),ag];exact afp b p.length 0 [] l F0.n (by omega) (by simp) a (by rw[bH];omega)
def aoX {p:List dU}(a:p.length<=1048576){l:ie}(b:M4 l):nI F0 p l=some (gR l 2 p,()):=by rw[aeQ];exact afq a p.length 0 [] l F0.n (by omega) (by simp) b (by rw[bH];omega)
def QA:∀(p:List dU) (l:ie) (n:Nat),(gR l n p).length<=n
 |[],l,n=>by cases n<;>exact aQ _
 |x::p,l,0=>bP _|x::p,l,n+1=>by
  unfold gR;split
  .rw[aV];have:=QA p (eE l x).1 n;omega
  .exact QA p l (n+1)
def anb (p:List dU)(l:ie):List dU:=p.filter fun x=>(eE l x).2 != 2
def asW {p:List dU}(e:p.length<=1048576){l:ie}(b:l.1.length<=1048576)(d:l.2.length<=1048576):Cv F0 p l=some (anb p l,()):=by
 rw[ad4];refine ajl (fun n k xs=>mS F0 (x7 F0) n (jK p k l.1 l.2 xs)) p (fun x=>(eE l x).2 != 2) _ (fun n k xs a f=>?_) (fun n=>?_) _ (by rw[bH];omega)
 .rw[DE,aO a,ae,ao a,ad,ad,bb a,show((l.1,l.2):ie)=l from rfl,ass b d,ag,av (by omega) (by omega) (by first|omega|(simp only[aL,aV,ba];omega)|(rw[a1,bz];omega)),ad,al (by omega)];cases (eE l p[k]).2 != 2<;>rfl
 .rw[DE,aE,aa,WA];rfl
def aoY {p:List dU}(e:p.length<=1048576){l:ie}(b:l.1.length<=1048576)(d:l.2.length<=1048576):hY F0 p l=some (anb p l,()):=by
 rw[aeN];refine ajl (fun n k xs=>ng F0 (y7 F0) n (jZ p (p.length:Int) k l.1 l.2 xs)) p (fun x=>(eE l x).2 != 2) _ (fun n k xs a f=>?_) (fun n=>?_) _ (by rw[bH];omega)
 .rw[DX,aO a,ae,ao a,ad,bb a,show((l.1,l.2):ie)=l from rfl,amv b d,ag,av (by omega) (by omega) (by first|omega|(simp only[aL,aV,ba];omega)|(rw[a1,bz];omega)),ad,al (by omega)];cases (eE l p[k]).2 != 2<;>rfl
 .rw[DX,aE,aa,WL];rfl
def dw (c:Int×Int)(view i:Int):List Int:=if 0<=bG c view i then ((List.range c.1.toNat).filter fun k:Nat=>decide (i∈acv c view (k:Int))).map fun k:Nat=>(k:Int) else []
def agX {c:Int×Int}(a:bq c=true)(view i:Int):(dw c view i).length<=7:=by
 have:=b4 a;unfold dw;split
 .rw[r7];have:=ath (fun k:Nat=>decide (i∈acv c view (k:Int))) (List.range c.1.toNat);rw[aaj]at this;omega
 .exact aQ _
def au4 {γ:Type}(X:Nat->Int->List Int->Option γ)(N:Nat)(p:Nat->Bool)(R:Option γ)(a:∀n k xs,k<N->xs.length<=k->X (n+1) (k:Int) xs=X n ((k+1:Nat):Int) (if p k=true then xs++[(k:Int)] else xs))
  (b:∀n,X (n+1) (N:Int) (((List.range N).filter p).map fun k:Nat=>(k:Int))=R) (n:Nat) (f:N<n):X n 0 []=R:=by
 refine cp X N (fun k xs=>xs=((List.range k).filter p).map fun k:Nat=>(k:Int)) R (fun n k xs d h=>.inr ⟨_,a n k xs d (by rw[h,r7];exact cj (ath _ _) (by rw[aaj];omega)),?_⟩) (fun n xs h=>?_) n 0 [] (aQ _) rfl (by omega)
 .rw[List.range_succ,List.filter_append,adg,h];cases e:p k<;>simp[e]
 .rw[h];exact b n
def aAd {c:Int×Int}(b:bq c=true)(view i:Int):P0 F0 c view i=some (dw c view i,()):=by
 have e:=b4 b;have f:(c.1.toNat:Int)=c.1:=by omega
 rw[aof,gL,ag,b,aG,aa];unfold dw;by_cases a:0<=bG c view i
 .rw[ah a];refine au4 (fun n k xs=>x1 F0 (IU F0) n (oZ view i k c.1 c.2 xs)) c.1.toNat (fun k:Nat=>decide (i∈acv c view (k:Int))) _ (fun n k xs g h=>?_) (fun n=>?_) F0.n (by rw[bH];omega)
  .rw[x2,aH (show(k:Int)<c.1 by omega),ae,show((c.1,c.2):Int×Int)=c from rfl,Ve,ag,aH (show bG c view i>=0 from a),ae,aC8,ag,e3 (by have:=ap1 c view k;dsimp only;omega),ag,av (by omega) (by omega) (by first|omega|(simp only[aL,aV,ba];omega)|(rw[a1,bz];omega)),ad,al (by omega)];dsimp only;cases decide (i∈acv c view (k:Int))<;>rfl
  .rw[x2,aK (show ¬(c.1.toNat:Int)<c.1 by omega),aa,N7]
 .obtain⟨m,d⟩:∃m,F0.n=m+1:=⟨F0.n-1,by rw[bH]⟩;rw[af a,d,x2,aH (show(0:Int)<c.1 by omega),ae,show((c.1,c.2):Int×Int)=c from rfl,Ve,ag,aK (show ¬bG c view i>=0 from a),aa,N7]
def aw9 {c:Int×Int}(b:bq c=true)(view i:Int):Qb F0 c view i=some (dw c view i,()):=by
 have e:=b4 b;have f:(c.1.toNat:Int)=c.1:=by omega
 rw[aoE];unfold dw;by_cases a:0<=bG c view i
 .rw[ah a];refine au4 (fun n k xs=>y3 F0 (Jt F0) n (pn view i k c.1 c.2 xs)) c.1.toNat (fun k:Nat=>decide (i∈acv c view (k:Int))) _ (fun n k xs g h=>?_) (fun n=>?_) F0.n (by rw[bH];omega)
  .rw[y4,show((c.1,c.2):Int×Int)=c from rfl,HS,ag,aH (show bG c view i>=0 from a),ae,aH (show(k:Int)<c.1 by omega),ae,aBG,ag,eF (by have:=ap1 c view k;dsimp only;omega),ag,av (by omega) (by omega) (by first|omega|(simp only[aL,aV,ba];omega)|(rw[a1,bz];omega)),ad,al (by omega)];dsimp only;cases decide (i∈acv c view (k:Int))<;>rfl
  .rw[y4,show((c.1,c.2):Int×Int)=c from rfl,HS,ag,aH (show bG c view i>=0 from a),ae,aK (show ¬(c.1.toNat:Int)<c.1 by omega),aa,OU]
 .obtain⟨m,d⟩:∃m,F0.n=m+1:=⟨F0.n-1,by rw[bH]⟩;rw[af a,d,y4,show((c.1,c.2):Int×Int)=c from rfl,HS,ag,aK (show ¬bG c view i>=0 from a),aa,OU]
def M8 {c:Int×Int}{q:cE}(h:eK c q=true):sH q:=⟨(uF h).1.n,(uF h).1.w⟩
def Ej {c:Int×Int}{q:cE}(h:gM c q=true):q.2.1.size<=1048576/\q.2.2.length<=1000:=⟨(V6 h).1.n,cj (V6 h).2.1 (by omega)⟩
def au5 {c:Int×Int}{s:bU}(h:ch c s=true):lK s:=⟨M8 (ey h).2.2.1,cj (lP (ey h).2.2.2) (by omega)⟩
def HV {c:Int×Int}{b:cG}(h:fm c b=true):b.1.size<=1048576/\sH b.2:=by simp only[fm,aD]at h;exact⟨cj (lP h.2.1) (by omega),M8 h.1⟩
def e9:sH b5:=⟨aQ _,aQ _⟩
def asX {c:Int×Int}{m:ct}(h:dp c m=true):fc m:=by
 unfold dp at h;simp only[aD]at h;obtain⟨i,f,a⟩:=h;have g:=Z1 f;rw[<-g];by_cases b:m.1=1
 .rw[ah (by simpa using b)]at a;have:=HV a;simp only[named,b];exact⟨this.1,this.2,e9,e9⟩
 .by_cases d:m.1=2
  .rw[af (by simpa using b),ah (by simpa using d)]at a;simp only[aD]at a;have:=Ej a.1;simp only[named,d];exact⟨aQ _,e9,⟨this.1,by show m.2.2.2.1.2.2.length<=_;omega⟩,e9⟩
  .by_cases e:m.1=3
   .rw[af (by simpa using b),af (by simpa using d),ah (by simpa using e)]at a;simp only[aD]at a;simp only[named,e];exact⟨aQ _,e9,e9,M8 a.2.1⟩
   .rw[af (by simpa using b),af (by simpa using d),af (by simpa using e)]at a;simp only[aD,bc]at a;simp only[named,a.1];exact⟨aQ _,e9,e9,e9⟩
def aqh {U:Type}{d:U}{p:U->Bool}{q:U->U->Bool}{l:List U}(h:Vf d p q l=true):∀x∈l,p x=true:=fun x a=>by obtain⟨k,b,rfl⟩:=afB a;exact((afo d p q l).1 h).1 k b
def uG {c:Int×Int}{l:List cE}(h:ew c l=true):aw7 l:=by simp only[ew,aD,bV]at h;exact⟨by omega,fun q a=>Ej (aqh h.1 q a)⟩
def Z6 {l:List dU}(h:eI l=true):l.length<=12/\∀x∈l,fB x=true:=by simp only[eI,aD,bV]at h;exact⟨by omega,aqh h.1⟩
structure aBX (c:Int×Int) (r:aA):Prop where
 cf:bq c=true
 i:e4 0 (ai (c.1-1)) r.1=true
 v:e4 1 60 r.2.1=true
 a:e4 0 60 r.2.2.1=true
 s:ch c r.2.2.2.1=true
 p:eI r.2.2.2.2.1=true
 t:ew c r.2.2.2.2.2.1=true
 d:fk r.2.2.2.2.2.2.1=true
 n:r.2.2.2.2.2.2.2.length<=30
 h:∀x∈r.2.2.2.2.2.2.2,JT c r.1 x=true
def BL {c:Int×Int}{r:aA}:oF c r=true↔aBX c r:=by
 unfold oF;simp only[aD,afD,aqA,hD];constructor
 .rintro⟨a,b,d,e,f,g,i,j,l,k⟩;exact⟨a,b,d,e,f,g,i,j,by omega,k⟩
 .intro h;exact⟨h.cf,h.i,h.v,h.a,h.s,h.p,h.t,h.d,by have:=h.n;omega,h.h⟩
structure aT (c:Int×Int) (r:aA):Prop where
 f:aBX c r
 b:∀x∈r.2.2.2.2.2.2.1.1,0<=x/\x<=255
def aT.ok {c:Int×Int}{r:aA}(h:aT c r):oF c r=true:=BL.2 h.f
def au6 {c:Int×Int}{i:Int}{x:kr}(h:JT c i x=true):dp c x.2=true:=by simp only[JT,aD]at h;exact h.1
def aBX.l {c:Int×Int}{r:aA}(h:aBX c r):aoN r :=
 ⟨au5 h.s,cj (Z6 h.p).1 (by omega),cj (uG h.t).1 (by omega),fun q a=>(uG h.t).l a,cj h.n (by omega),fun q a=>asX (au6 (h.h q a))⟩
def aT.bt {c:Int×Int}{r:aA}(h:aT c r):az5 r:=⟨h.f.l,⟨cj (dn.1 h.f.d).1 (by omega),h.b⟩⟩
def aT.l {c:Int×Int}{r:aA}(h:aT c r):aoN r:=h.f.l
def Vu (c:Int×Int)(r:aA)(a:Int)(m:ct):Bool:=decide (r.2.2.2.2.2.2.2.length<30)&&(dp c m&&(e4 0 (ai (c.1-1)) a&& !(a==r.1)))
def Ah (r:aA)(p:kr):aA:=(r.1,r.2.1,r.2.2.1,r.2.2.2.1,r.2.2.2.2.1,r.2.2.2.2.2.1,r.2.2.2.2.2.2.1,r.2.2.2.2.2.2.2++[p])
def nn (c:Int×Int)(r:aA)(a:Int)(m:ct):aA×Bool:=if Vu c r a m=true then (Ah r (a,m),true) else (r,false)
def MA {r:aA}(d:r.2.2.2.2.2.2.2.length<=1048576){m:ct}(b:fc m)(c:Int×Int)(a:Int):eT F0 c r a m=some (((nn c r a m).1,(nn c r a m).2,()),()):=by
 rw[ahU,HU b,ag,cO,ag,agR b,ag,av (by omega) (by omega) (by first|omega|(simp only[aL,aV,ba];omega)|(rw[a1,bz];omega)),ad];unfold nn Vu;by_cases h:r.2.2.2.2.2.2.2.length<30
 .rw[aK (show ¬(r.2.2.2.2.2.2.2.length:Int)>=30 by omega),aH h];cases dp c m<;>cases e4 0 (ai (c.1-1)) a<;>cases (a==r.1)<;>rfl
 .rw[aH (show(r.2.2.2.2.2.2.2.length:Int)>=30 by omega),aK h];rfl
def anc {c:Int×Int}{r:aA}(h:aBX c r)(a:Int)(m:ct):oF c (Ah r (a,m))=Vu c r a m:=by
 unfold Vu;by_cases f:r.2.2.2.2.2.2.2.length<30
 .rw[aH f,hH];have e:(dp c m&&(e4 0 (ai (c.1-1)) a&& !(a==r.1)))=JT c r.1 (a,m):=rfl;rw[e];cases g:JT c r.1 (a,m) with
  |true=>exact BL.2 ⟨h.cf,h.i,h.v,h.a,h.s,h.p,h.t,h.d,by simp[Ah];omega,fun x b=>by
    rcases kj.1 b with b|b
    .exact h.h x b
    .rw[ki.1 b];exact g⟩
  |false =>
   cases d:oF c (Ah r (a,m)) with
   |false=>rfl
   |true =>
    have:=(BL.1 d).h (a,m) (by simp[Ah]);exact absurd this (by show ¬JT c r.1 (a,m)=true;rw[g];decide)
 .rw[aK f];cases d:oF c (Ah r (a,m)) with
  |false=>rfl
  |true =>
   have:=(BL.1 d).n;simp[Ah]at this;omega
def aT.told {c:Int×Int}{r:aA}(h:aT c r)(a:Int)(m:ct):aT c (nn c r a m).1:=by
 unfold nn;cases b:Vu c r a m with
 |false=>exact h
 |true =>
  have:=anc h.f a m;rw[b]at this;exact⟨BL.1 this,h.b⟩
def Wb {c:Int×Int}{r:aA}(h:aT c r){m:ct}(d:fc m)(a:Int):lE F0 c r a m=some ((nn c r a m).1,(nn c r a m).2,()):=by
 have f:=h.f.n;have e:aoN (Ah r (a,m)):=⟨h.l.s,h.l.p,h.l.t,h.l.tq,by simp[Ah];omega,fun q b=>by
  rcases kj.1 b with b|b
  .exact h.l.hm q b
  .rw[ki.1 b];exact d⟩
 have cU:cr F0 c (Ah r (a,m))=some (Vu c r a m,()):=by rw[dV e,anc h.f]
 rw[ar9,dK h.bt,ag,agS d,ag,av (by omega) (by omega) (by first|omega|(simp only[aL,aV,ba];omega)|(rw[a1,bz];omega)),ad];dsimp only;rw[show((r.1,r.2.1,r.2.2.1,r.2.2.2.1,r.2.2.2.2.1,r.2.2.2.2.2.1,r.2.2.2.2.2.2.1,r.2.2.2.2.2.2.2++[(a,m)]):aA)=Ah r (a,m) from rfl,cU,ag,ag];unfold nn;cases Vu c r a m<;>rfl
def put (r:aA)(s:bU):aA:=(r.1,r.2.1,r.2.2.1,s,r.2.2.2.2.1,r.2.2.2.2.2.1,(r.2.2.2.2.2.2.1.1++AH s,r.2.2.2.2.2.2.1.2),r.2.2.2.2.2.2.2)
def lQ (c:Int×Int)(r:aA)(s:bU):aA×Bool :=
 if lN r.2.2.2.1 s=true then (r,true) else if ch c s=true/\r.2.2.2.2.2.2.1.1.length+(AH s).length<=100000 then (put r s,true) else (r,false)
def ane (c:Int×Int)(s:bU):(Vr c s).length<=12010:=by
 unfold Vr;split
 .rename_i h;exact(az4 h).2
 .exact aQ _
def anf {c:Int×Int}{r:aA}{s:bU}(h:lN r.2.2.2.1 s=true):lQ c r s=(r,true):=ah h
def aqi {c:Int×Int}{r:aA}{s:bU}(h:lN r.2.2.2.1 s=false)(a:ch c s=true)(b:r.2.2.2.2.2.2.1.1.length+(AH s).length<=100000):lQ c r s=(put r s,true):=by unfold lQ;rw[h,af (by decide),ah ⟨a,b⟩]
def acT {c:Int×Int}{r:aA}{s:bU}(h:lN r.2.2.2.1 s=false)(a:¬(ch c s=true/\r.2.2.2.2.2.2.1.1.length+(AH s).length<=100000)):lQ c r s=(r,false):=by unfold lQ;rw[h,af (by decide),af a]
def acU {d:rV}{b:List Int}(h:fk d=true)(a:d.1.length+b.length<=100000):Mw d b=((d.1++b,d.2),true):=ah ⟨h,a⟩
def ay3 {d:rV}{b:List Int}(a:¬d.1.length+b.length<=100000):Mw d b=(d,false):=af fun h=>a h.2
def QB {c:Int×Int}{s:bU}(h:ch c s=true):Vr c s=AH s:=ah h
def aqj {c:Int×Int}{s:bU}(h:ch c s=false):Vr c s=[]:=af (by rw[h];decide)
def QC {c:Int×Int}{r:aA}(h:aT c r){s:bU}(b:lK s):ek F0 c r s=some (if (lQ c r s).2=true then ((lQ c r s).1,true,amK) else (amK,false,r)):=by
 have f:=ane c s;have g:=h.bt.d.1;have i:=(dn.1 h.f.d).1;rw[adV,asH h.l.s b,ag,aoU b,ag,aw5 g (cj f (by omega)),ag,BJ b,ag,Ms b,ag];cases d:lN r.2.2.2.1 s with
 |true =>
  rw[anf d];rfl
 |false =>
  cases a:ch c s with
  |false =>
   rw[acT d (fun h=>by rw[a]at h;cases h.1),aqj a,acU h.f.d (by rw[ba];omega)];rfl
  |true =>
   by_cases e:r.2.2.2.2.2.2.1.1.length+(AH s).length<=100000
   .rw[aqi d a e,QB a,acU h.f.d e];rfl
   .rw[acT d (fun h=>e h.2),QB a,ay3 e];rfl
def aoZ (a b:bU):lN a b=lN b a:=by unfold lN;rw[Mm,show(a.1==b.1)=(b.1==a.1) from Fe,show(a.2.1==b.2.1)=(b.2.1==a.2.1) from Fe,show(a.2.2.2.toList==b.2.2.2.toList)=(b.2.2.2.toList==a.2.2.2.toList) from Fe]
def aT.put {c:Int×Int}{r:aA}(h:aT c r){s:bU}(a:ch c s=true)(b:r.2.2.2.2.2.2.1.1.length+(AH s).length<=100000):aT c (put r s):=by
 refine⟨⟨h.f.cf,h.f.i,h.f.v,h.f.a,a,h.f.p,h.f.t,dn.2 ⟨?_,(dn.1 h.f.d).2.1,?_⟩,h.f.n,h.f.h⟩,eG h.b (auT s)⟩
 .show(r.2.2.2.2.2.2.1.1++AH s).length<=_;rw[aL];exact b
 .show r.2.2.2.2.2.2.1.2<=((r.2.2.2.2.2.2.1.1++AH s).length:Int);have:=(dn.1 h.f.d).2.2;rw[aL];omega
def aT.wrote {c:Int×Int}{r:aA}(h:aT c r)(s:bU):aT c (lQ c r s).1:=by
 unfold lQ;split
 .exact h
 .split
  .rename_i a;exact h.put a.1 a.2
  .exact h
def Z7 {c:Int×Int}{r:aA}(h:aT c r){s:bU}(e:lK s):u0 F0 c r s=some ((lQ c r s).1,(lQ c r s).2,()):=by
 have g:=ane c s;have i:=h.bt.d.1;have m:=(dn.1 h.f.d).1;rw[aoB,dK h.bt,ag,dV h.l,ag,h.ok,aG,aa,aoP e,ag,am3 e,ag,auZ i (cj g (by omega)),ag,Hz e,ag,ag,aoZ];dsimp only;have j:∀d:rV,cr F0 c (r.1,r.2.1,r.2.2.1,s,r.2.2.2.2.1,r.2.2.2.2.2.1,d,r.2.2.2.2.2.2.2)=some (oF c (r.1,r.2.1,r.2.2.1,s,r.2.2.2.2.1,r.2.2.2.2.2.1,d,r.2.2.2.2.2.2.2),()):=fun d =>
  dV (r:=(r.1,r.2.1,r.2.2.1,s,r.2.2.2.2.1,r.2.2.2.2.2.1,d,r.2.2.2.2.2.2.2)) ⟨e,h.l.p,h.l.t,h.l.tq,h.l.h,h.l.hm⟩ c
 rw[j,ag];cases f:lN r.2.2.2.1 s with
 |true =>
  rw[anf f];rfl
 |false =>
  cases a:ch c s with
  |false =>
   have bad:∀d:rV,oF c (r.1,r.2.1,r.2.2.1,s,r.2.2.2.2.1,r.2.2.2.2.2.1,d,r.2.2.2.2.2.2.2)=false:=fun d=>by
    cases k:oF c (r.1,r.2.1,r.2.2.1,s,r.2.2.2.2.1,r.2.2.2.2.2.1,d,r.2.2.2.2.2.2.2) with
    |false=>rfl
    |true =>
     have:=(BL.1 k).s;exact absurd this (by show ¬ch c s=true;rw[a];decide)
   rw[acT f (fun h=>by rw[a]at h;cases h.1),aqj a,acU h.f.d (by rw[ba];omega),bad];rfl
  |true =>
   by_cases b:r.2.2.2.2.2.2.1.1.length+(AH s).length<=100000
   .have l:=(h.put a b).ok;rw[aqi f a b,QB a,acU h.f.d b];dsimp only;rw[show oF c (r.1,r.2.1,r.2.2.1,s,r.2.2.2.2.1,r.2.2.2.2.2.1,(r.2.2.2.2.2.2.1.1++AH s,r.2.2.2.2.2.2.1.2),r.2.2.2.2.2.2.2)=true from l];rfl
   .rw[acT f (fun h=>b h.2),QB a,ay3 b];rfl
def axa {b:ByteArray}(h:(iM b).2=true):bw (iM b).1.data.toList=true:=by
 unfold iM at h ⊢;split at h
 .rename_i a;rw[ah a];have e:bw b.data.toList=true:=by
   unfold Wa at a;cases d:(bO b.data.toList).2 with
   |true=>exact d|false=>rw[U9 d]at a;cases a
  show bw (upB (upB b)).data.toList=true;unfold upB;rw[gn,gn];exact awY (awY e)
 .cases h
def aEz {c:Int×Int}{s:bU}(h:ch c s=true)(q:cE):ch c (see c s q)=true:=by
 unfold see;split
 .rename_i a;obtain⟨b,g,d,e⟩:=ey h;have i:=Pg (SM q.2.1.data.toList);simp only[ch,e4,aD,bV];refine⟨b,?_,?_,?_⟩
  .unfold vP;split<;>omega
  .unfold V9;split
   .exact a.2
   .exact d
  .split
   .rename_i f;exact axa f.1
   .exact e
 .exact h
def Ek (r:aA)(v:Int):aA:=(r.1,vP r.2.1 v,r.2.2)
def aT.raised {c:Int×Int}{r:aA}(h:aT c r){v:Int}(a:v<=60):aT c (Ek r v):=by refine⟨⟨h.f.cf,h.f.i,?_,h.f.a,h.f.s,h.f.p,h.f.t,h.f.d,h.f.n,h.f.h⟩,h.b⟩;have:=h.f.v;simp only[e4,aD,bV]at this;show e4 1 60 (vP r.2.1 v)=true;simp only[e4,aD,bV];unfold vP;split<;>omega
def kz (v:Int)(q:cE)(cC:Int):ct:=(3,v,(aj,b5),b5,q,cC,oJ)
def Ai (p:cE):ct:=(2,0,(aj,b5),p,b5,0,oJ)
def au7 (b:cG):ct:=(1,0,b,b5,b5,0,oJ)
def Pn {v:Int}{q:cE}(h:sH q)(cC:Int):fc (kz v q cC):=⟨aQ _,e9,e9,h⟩
def afr {p:cE}(h:sH p):fc (Ai p):=⟨aQ _,e9,h,e9⟩
def Z8 {b:cG}(a:b.1.size<=1048576)(d:sH b.2):fc (au7 b):=⟨a,d,e9,e9⟩
def written (c:Int×Int)(r:aA)(q:cE):aA×Bool:=lQ c r (see c r.2.2.2.1 q)
def vL (c:Int×Int)(r:aA)(q:cE):aA×Bool :=
 if (written c r q).2=true then
  if ai (q.1+1)>60 then ((written c r q).1,true)
  else if bW c (ai (q.1+1))=r.1 then (Ek (written c r q).1 (ai (q.1+1)),true)
  else nn c (Ek (written c r q).1 (ai (q.1+1))) (bW c (ai (q.1+1))) (kz (ai (q.1+1)) q r.1)
 else (r,false)
def acV {c:Int×Int}{r:aA}{s:bU}:(lQ c r s).1.1=r.1:=by
 unfold lQ;split
 .rfl
 .split<;>rfl
def Vv (c:Int×Int)(p:cE):Bool:= !dk p.2.1&&eK c p
def aqk (b:ByteArray):dk b=decide (b.data.toList=[]):=by
 cases h:dk b with
 |true=>rw[aH ((JX b).1 h)]
 |false =>
  rw[aK];intro a;rw[(JX b).2 a]at h;cases h
def aAe {p:cE}(h:sH p)(c:Int×Int):DD F0 c p=some (if Vv c p=true then p else b5,Vv c p,()):=by
 have:=awH (v:=p.1) (l:=p.2.1.data.toList) (s:=p.2.2) (Su h.1) (cj h.2 (by omega)) c;rw[show((p.1,tx p.2.1.data.toList,p.2.2):cE)=p from rfl]at this;rw[this];unfold Vv eK Vb;rw[aqk];by_cases a:p.2.1.data.toList=[]
 .rw[af (fun b=>b.1 a),aH a];rfl
 .rw[aK a];cases d:WQ c (p.1,p.2.1.data.toList,p.2.2) with
  |true=>rw[ah ⟨a,rfl⟩];rfl|false=>rw[af (fun b=>by cases b.2)];rfl
def axb {p:cE}(h:sH p)(c:Int×Int):DW F0 c p=some (if Vv c p=true then p else b5,Vv c p,()):=by
 have:=aun (v:=p.1) (l:=p.2.1.data.toList) (s:=p.2.2) (Su h.1) (cj h.2 (by omega)) c;rw[show((p.1,tx p.2.1.data.toList,p.2.2):cE)=p from rfl]at this;rw[this];unfold Vv eK Vb;rw[aqk];by_cases a:p.2.1.data.toList=[]
 .rw[af (fun b=>b.1 a),aH a];rfl
 .rw[aK a];cases d:WQ c (p.1,p.2.1.data.toList,p.2.2) with
  |true=>rw[ah ⟨a,rfl⟩];rfl|false=>rw[af (fun b=>by cases b.2)];rfl
def aT.w {c:Int×Int}{r:aA}(h:aT c r)(q:cE):aT c (written c r q).1:=h.wrote _
def ang {c:Int×Int}{r:aA}(h:aT c r)(q:cE):lK (see c r.2.2.2.1 q):=au5 (aEz h.f.s q)
def axc {c:Int×Int}{r:aA}(h:aT c r){p:cE}(d:sH p):KN F0 c r p=some (if Vv c p=true then ((vL c r p).1,(vL c r p).2,()) else (r,false,()),()):=by
 rw[ak0,aAe d,ag];cases g:Vv c p with
 |false=>rfl
 |true =>
  dsimp only;rw[aG,aa,ah rfl,ah rfl,asQ h.l.s d,ag,QC h (ang h p),ag];have e:aT c (written c r p).1:=h.w p;unfold vL;unfold written at e ⊢;generalize lQ c r (see c r.2.2.2.1 p)=W at e ⊢;cases i:W.2 with
  |false=>rw[af (by decide),af (by decide)];rfl
  |true =>
   have f:eT F0 c (W.1.1,vP W.1.2.1 (ai (p.1+1)),W.1.2.2) (bW c (ai (p.1+1))) (3,ai (p.1+1),(aj,0,aj,[]),(0,aj,[]),p,r.1,0,0,0,0)=some (((nn c (Ek W.1 (ai (p.1+1))) (bW c (ai (p.1+1))) (kz (ai (p.1+1)) p r.1)).1,(nn c (Ek W.1 (ai (p.1+1))) (bW c (ai (p.1+1))) (kz (ai (p.1+1)) p r.1)).2,()),()) :=
    MA (r:=Ek W.1 (ai (p.1+1))) (cj e.f.n (by omega)) (Pn (v:=ai (p.1+1)) d r.1) c (bW c (ai (p.1+1)))
   rw[ah rfl,ah rfl];simp only[ag,JP,BK,f,ae];by_cases a:ai (p.1+1)>60
   .rw[aH a,ae,ah a]
   .rw[aK a,aa,af a];by_cases b:bW c (ai (p.1+1))=r.1
    .rw[ah b,bc.2 b,ae];rfl
    .rw[af b,bR.2 b,aa]
def axd {c:Int×Int}{r:aA}(h:aT c r){q:cE}(f:sH q):Js F0 c r q=some ((vL c r q).1,(vL c r q).2,()):=by
 have e:aT c (written c r q).1:=h.w q;rw[aoC,am5 h.l.s f,ag,Z7 h (ang h q),ag];unfold vL;unfold written at e ⊢;generalize lQ c r (see c r.2.2.2.1 q)=W at e ⊢;obtain⟨a,g⟩:=W;cases g with
 |false=>rfl
 |true =>
  show _=some ((if ai (q.1+1)>60 then (a,true) else if bW c (ai (q.1+1))=r.1 then (Ek a (ai (q.1+1)),true) else nn c (Ek a (ai (q.1+1))) (bW c (ai (q.1+1))) (kz (ai (q.1+1)) q r.1)).1,(if ai (q.1+1)>60 then (a,true) else if bW c (ai (q.1+1))=r.1 then (Ek a (ai (q.1+1)),true) else nn c (Ek a (ai (q.1+1))) (bW c (ai (q.1+1))) (kz (ai (q.1+1)) q r.1)).2,());by_cases b:ai (q.1+1)>60
  .rw[aH b,ah b];rfl
  .have i:lE F0 c (a.1,(if ai (q.1+1)>a.2.1 then ai (q.1+1) else a.2.1,a.2.2)) (bW c (ai (q.1+1))) (3,ai (q.1+1),(aj,0,aj,[]),(0,aj,[]),q,r.1,0,0,0,0)=some ((nn c (Ek a (ai (q.1+1))) (bW c (ai (q.1+1))) (kz (ai (q.1+1)) q r.1)).1,(nn c (Ek a (ai (q.1+1))) (bW c (ai (q.1+1))) (kz (ai (q.1+1)) q r.1)).2,()) :=
    Wb (e.raised (v:=ai (q.1+1)) (by omega)) (Pn (v:=ai (q.1+1)) f r.1) (bW c (ai (q.1+1)))
   rw[aK b,af b];simp only[ag,HR,i,aa,aG];by_cases d:bW c (ai (q.1+1))=r.1
   .rw[ah d,show(bW c (ai (q.1+1)) != r.1)=false by simp[d],aa];rfl
   .rw[af d,show(bW c (ai (q.1+1)) != r.1)=true by simp[d],ae]
def aT.aDu {c:Int×Int}{r:aA}(h:aT c r)(q:cE):aT c (vL c r q).1:=by
 unfold vL;split
 .split
  .exact h.w q
  .split
   .exact(h.w q).raised (by omega)
   .exact((h.w q).raised (by omega)).told _ _
 .exact h
def gm (c:Int×Int)(r:aA)(view:Int)(name:ByteArray)(push:Bool):aA×Bool :=
 if (dq r.2.2.2.2.2.1 view name).2.2.length=0\/dk name=true then (r,false)
 else if bW c view=r.1 then
  if Vv c (dq r.2.2.2.2.2.1 view name)=true/\(vL c r (dq r.2.2.2.2.2.1 view name)).2=true then ((vL c r (dq r.2.2.2.2.2.1 view name)).1,true) else (r,false)
 else if push=false/\cmn (dq r.2.2.2.2.2.1 view name).2.2 (dw c view r.1)<(dw c view r.1).length then (r,false)
 else nn c r (Ph c view r.1) (Ai (dq r.2.2.2.2.2.1 view name))
section
variable {c:Int×Int} {r:aA} {view:Int} {name:ByteArray} {push:Bool} {p:cE} (hP:dq r.2.2.2.2.2.1 view name=p)
include hP
def acW (h:p.2.2.length=0\/dk name=true):gm c r view name push=(r,false):=by subst hP;exact ah h
def asY (a:¬(p.2.2.length=0\/dk name=true))(b:bW c view=r.1)(h:Vv c p=true/\(vL c r p).2=true):gm c r view name push=((vL c r p).1,true):=by subst hP;unfold gm;rw[af a,ah b,ah h]
def acX (a:¬(p.2.2.length=0\/dk name=true))(b:bW c view=r.1)(h:¬(Vv c p=true/\(vL c r p).2=true)):gm c r view name push=(r,false):=by subst hP;unfold gm;rw[af a,ah b,af h]
def asZ (a:¬(p.2.2.length=0\/dk name=true))(b:¬bW c view=r.1)(h:push=false/\cmn p.2.2 (dw c view r.1)<(dw c view r.1).length):gm c r view name push=(r,false):=by subst hP;unfold gm;rw[af a,af b,ah h]
def acY (a:¬(p.2.2.length=0\/dk name=true))(b:¬bW c view=r.1)(h:¬(push=false/\cmn p.2.2 (dw c view r.1)<(dw c view r.1).length)):gm c r view name push=nn c r (Ph c view r.1) (Ai p):=by subst hP;unfold gm;rw[af a,af b,af h]
end
def au8 {l:List cE}(a:∀q∈l,sH q){name:ByteArray}(b:name.size<=1048576)(view:Int):sH (dq l view name):=by
 unfold dq;cases h:l.find? (fun x=>(x.1==view)&&(x.2.1.toList==name.toList)) with
 |none=>exact⟨b,aQ _⟩|some x=>exact a x (WT h)
def aT.as0 {c:Int×Int}{r:aA}(h:aT c r)(view:Int)(name:ByteArray)(push:Bool):aT c (gm c r view name push).1:=by
 unfold gm;split
 .exact h
 .split
  .split
   .exact h.aDu _
   .exact h
  .split
   .exact h
   .exact h.told _ _
def QD {c:Int×Int}{r:aA}(h:aT c r)(view:Int){name:ByteArray}(n:name.size<=1048576)(push:Bool) :
  ∃x,nD F0 c r view name push=some ((x,(gm c r view name push).2,()),())/\((gm c r view name push).2=true->x=(gm c r view name push).1):=by
 have g:=au8 h.l.tq n view;have s:=agX h.f.cf view r.1;have o:=MA (r:=r) (cj h.f.n (by omega)) (afr g) c (Ph c view r.1);have q:((eT F0 c r (Ph c view r.1) (2,0,(aj,0,aj,[]),dq r.2.2.2.2.2.1 view name,(0,aj,[]),0,0,0,0,0)).bind fun i=>some ((i.1.1,i.1.2.1,()),()))=some (((nn c r (Ph c view r.1) (Ai (dq r.2.2.2.2.2.1 view name))).1,(nn c r (Ph c view r.1) (Ai (dq r.2.2.2.2.2.1 view name))).2,()),()):=by refine AJ (ve (fun x=>Option.bind x _) o) ?_;rfl
 rw[adZ,Qz h.l.t h.l.tq,ag,JP,ag,axc h g,ag,aAd h.f.cf,ag,awI (a:=dw c view r.1) (by omega) g.2,ag,aBE];simp only[ag,q];generalize hP:dq r.2.2.2.2.2.1 view name=p at *;by_cases j:p.2.2.length=0
 .rw[acW hP (.inl j),show((p.2.2.length:Int)==0)=true from bc.2 (by omega),ae];exact⟨r,rfl,fun h=>by cases h⟩
 .rw[show((p.2.2.length:Int)==0)=false from bR.2 (by omega),aa];cases f:dk name with
  |true =>
   rw[acW hP (.inr f),show(name.toList==aj.toList)=true from f,ae];exact⟨r,rfl,fun h=>by cases h⟩
  |false =>
   have e:¬(p.2.2.length=0\/dk name=true):=fun b=>b.elim j (by rw[f];decide)
   rw[show(name.toList==aj.toList)=false from f,aa];by_cases d:bW c view=r.1
   .rw[bc.2 d,ae];cases k:Vv c p with
    |false =>
     rw[acX hP e d (fun b=>by rw[k]at b;cases b.1)];exact⟨r,rfl,fun h=>by cases h⟩
    |true =>
     cases l:(vL c r p).2 with
     |false =>
      rw[acX hP e d (fun b=>by rw[l]at b;cases b.2)];exact⟨_,rfl,fun h=>by cases h⟩
     |true =>
      rw[asY hP e d ⟨k,l⟩];exact⟨_,rfl,fun _=>rfl⟩
   .rw[bR.2 d,aa];cases push with
    |true =>
     rw[acY hP e d (fun b=>by cases b.1)];exact⟨_,rfl,fun _=>rfl⟩
    |false =>
     by_cases m:cmn p.2.2 (dw c view r.1)<(dw c view r.1).length
     .rw[asZ hP e d ⟨rfl,m⟩,dW,ae,aH (show(cmn p.2.2 (dw c view r.1):Int)<(dw c view r.1).length by omega),ae];exact⟨r,rfl,fun h=>by cases h⟩
     .rw[acY hP e d (fun b=>m b.2),dW,ae,aK (show ¬(cmn p.2.2 (dw c view r.1):Int)<(dw c view r.1).length by omega),aa];exact⟨_,rfl,fun _=>rfl⟩
def aAf {c:Int×Int}{r:aA}(h:aT c r)(view:Int){name:ByteArray}(a:name.size<=1048576)(push:Bool):P1 F0 c r view name push=some (if (gm c r view name push).2=true then ((gm c r view name push).1,true,()) else (r,false,())):=by
 obtain⟨x,b,d⟩:=QD h view a push;rw[aon,gx h.l,ag,h.ok,aG,aa,dJ h.bt,ag,b,ag,ag];cases e:(gm c r view name push).2 with
 |true=>rw[d e];rfl|false=>rfl
def Z9 {c:Int×Int}{r:aA}(h:aT c r)(view:Int){name:ByteArray}(n:name.size<=1048576)(push:Bool):mA F0 c r view name push=some ((gm c r view name push).1,(gm c r view name push).2,()):=by
 have f:=au8 h.l.tq n view;have t:=agX h.f.cf view r.1;have o:=Wb h (afr f) (Ph c view r.1);have q:((lE F0 c r (Ph c view r.1) (2,0,(aj,0,aj,[]),dq r.2.2.2.2.2.1 view name,(0,aj,[]),0,0,0,0,0)).bind fun i=>some (i.1,i.2.1,()))=some ((nn c r (Ph c view r.1) (Ai (dq r.2.2.2.2.2.1 view name))).1,(nn c r (Ph c view r.1) (Ai (dq r.2.2.2.2.2.1 view name))).2,()):=by refine AJ (ve (fun x=>Option.bind x _) o) ?_;rfl
 have s:Js F0 c r (if Vv c (dq r.2.2.2.2.2.1 view name)=true then dq r.2.2.2.2.2.1 view name else b5)=some ((vL c r (if Vv c (dq r.2.2.2.2.2.1 view name)=true then dq r.2.2.2.2.2.1 view name else b5)).1,(vL c r (if Vv c (dq r.2.2.2.2.2.1 view name)=true then dq r.2.2.2.2.2.1 view name else b5)).2,()):=axd h (by split;exact f;exact e9);rw[aoG,YD h.l.t h.l.tq,ag,dK h.bt,ag,dV h.l,ag,h.ok,aG,aa,HR,ag,axb f,ag,aw9 h.f.cf,ag,aus (a:=dw c view r.1) (by omega) f.2,ag,ayV];simp only[ag,q,s];generalize hP:dq r.2.2.2.2.2.1 view name=p at *;by_cases j:p.2.2.length=0
 .rw[acW hP (.inl j),show((p.2.2.length:Int)==0)=true from bc.2 (by omega),ae]
 .rw[show((p.2.2.length:Int)==0)=false from bR.2 (by omega),aa];cases g:dk name with
  |true =>
   rw[acW hP (.inr g),show(name.toList==aj.toList)=true from g,ae]
  |false =>
   have e:¬(p.2.2.length=0\/dk name=true):=fun b=>b.elim j (by rw[g];decide)
   rw[show(name.toList==aj.toList)=false from g,aa];by_cases d:bW c view=r.1
   .rw[bc.2 d,ae];cases k:Vv c p with
    |false =>
     rw[acX hP e d (fun b=>by rw[k]at b;cases b.1)];rfl
    |true =>
     rw[ah rfl,aG,aa];cases l:(vL c r p).2 with
     |false =>
      rw[acX hP e d (fun b=>by rw[l]at b;cases b.2)];rfl
     |true =>
      rw[asY hP e d ⟨k,l⟩];rfl
   .rw[bR.2 d,aa];cases push with
    |true =>
     rw[acY hP e d (fun b=>by cases b.1)];rfl
    |false =>
     by_cases m:cmn p.2.2 (dw c view r.1)<(dw c view r.1).length
     .rw[asZ hP e d ⟨rfl,m⟩,dW,ae,aH (show(cmn p.2.2 (dw c view r.1):Int)<(dw c view r.1).length by omega),ae]
     .rw[acY hP e d (fun b=>m b.2),dW,ae,aK (show ¬(cmn p.2.2 (dw c view r.1):Int)<(dw c view r.1).length by omega),aa]
def ay4:cG:=(aj,b5)
def Po (q:cE)(view:Int)(l:List dU):ByteArray:=tx (Qw q.2.1.data.toList view l)
def iJ (c:Int×Int)(q:cE)(view:Int)(l:List dU):cG×Bool:=if fm c (Po q view l,q)=true/\aZ (Po q view l).data.toList=view then ((Po q view l,q),true) else (ay4,false)
def anh {c:Int×Int}{q:cE}(a:eK c q=true){view:Int}(b:I64 view){l:List dU}(d:l.length<=100):(Po q view l).size<=1048576:=by have e:=(uF a).2.2;have f:=aqd (up:=q.2.1.data.toList) b l;unfold Po;rw[bs];have:q.2.1.data.toList.length=q.2.1.size:=rfl;omega
def Wc (a b:Int):(a != b)= !decide (a=b):=by
 by_cases h:a=b
 .simp[h]
 .simp[h]
def acZ {c:Int×Int}{q:cE}(a:eK c q=true){view:Int}(d:I64 view){l:List dU}(f:l.length<=100):nB F0 c q view l=some ((iJ c q view l).1,(iJ c q view l).2,()):=by
 have j:=(uF a).2.2;have e:=anh a d f;have g:jH F0 q.2.1 view l=some (Po q view l,()):=amU (up:=q.2.1.data.toList) (by show q.2.1.size<=_;omega) d (by omega);rw[adR,g,ag,u6 (M8 a).2,ag,Mn (b:=(Po q view l,q)) e (M8 a),ag,nK e,ag];unfold iJ;dsimp only;rw[Wc];cases fm c (Po q view l,q) with
 |false=>rw[af (fun h=>by cases h.1)];rfl
 |true =>
  by_cases h:aZ (Po q view l).data.toList=view
  .rw[ah ⟨rfl,h⟩,aH h];rfl
  .rw[af (fun i=>h i.2),aK h];rfl
def ao0 {c:Int×Int}{q:cE}(a:eK c q=true){view:Int}(d:I64 view){l:List dU}(i:l.length<=2):sE F0 c q view l=some ((iJ c q view l).1,(iJ c q view l).2,()):=by
 have j:=(uF a).2.2;have e:=anh a d (l:=l) (by omega);have f:DZ F0 q.2.1 view l=some (Po q view l,()):=auM (up:=q.2.1.data.toList) (by show q.2.1.size<=_;omega) d (by omega);rw[aeT,f,ag,vK (M8 a).2,ag,Ht (b:=(Po q view l,q)) e (M8 a),ag,py e,ag];unfold iJ;dsimp only;rw[Wc];cases fm c (Po q view l,q) with
 |false=>rw[af (fun h=>by cases h.1)];rfl
 |true =>
  by_cases h:aZ (Po q view l).data.toList=view
  .rw[ah ⟨rfl,h⟩,aH h];rfl
  .rw[af (fun g=>h g.2),aK h];rfl
def au9 {c:Int×Int}{q:cE}{view:Int}{l:List dU}(h:(iJ c q view l).2=true):fm c (iJ c q view l).1=true/\aZ (iJ c q view l).1.1.data.toList=view/\(iJ c q view l).1.2=q:=by
 unfold iJ at h ⊢;split at h
 .rename_i a;rw[ah a];exact⟨a.1,a.2,rfl⟩
 .cases h
def MB (c:Int×Int)(l:List cE)(view:Int):Bool:=decide (((dq l view aj).2.2.length:Int)>=BH c)
def ay5 (c:Int×Int)(r:aA):Bool:=decide (bW c r.2.1=r.1)&&(!decide (r.2.2.1>=r.2.1)&&(decide (r.2.2.2.1.2.2.1.1=ai (r.2.1-1)) || MB c r.2.2.2.2.2.1 r.2.1))
def afs (r:aA):List dU:=gR (ho aiY (amQ r.2.2.2.1.2.2.1.2.1)) 2 r.2.2.2.2.1
def ask (c:Int×Int)(r:aA):cG×Bool:=if ay5 c r=true then iJ c r.2.2.2.1.2.2.1 r.2.1 (afs r) else (ay4,false)
def aT.view {c:Int×Int}{r:aA}(h:aT c r):1<=r.2.1/\r.2.1<=60:=by have:=h.f.v;simp only[e4,aD,bV]at this;exact this
def aBY (a b:Int):decide (a<b)= !decide (a>=b):=by
 by_cases h:a<b
 .rw[aH h,aK (by omega)];rfl
 .rw[aK h,aH (by omega)];rfl
def ani (r:aA):(afs r).length<=2:=QA _ _ _
def ay6 {c:Int×Int}{r:aA}(h:aT c r):TU F0 c r=some ((ask c r).1,(ask c r).2,()):=by have g:=h.view;have a:=(ey h.f.s).2.2.1;have b:M4 (ho aiY (amQ r.2.2.2.1.2.2.1.2.1)):=Hs M5;have d:=acZ (c:=c) (q:=r.2.2.2.1.2.2.1) a (view:=r.2.1) ⟨by omega,by omega⟩ (l:=afs r) (by have:=ani r;omega);have e:nA F0 r.2.2.2.2.1 (ho aiY (amQ r.2.2.2.1.2.2.1.2.1))=some (afs r,()):=asV h.l.p b;have f:sH r.2.2.2.1.2.2.1:=h.l.s.1;rw[at0,gx h.l,ag,h.ok,aG,aa,JP,ag,Qz h.l.t h.l.tq,ag,ZO,ag,Yx,ag,auJ f.1,ag,amw M5 (cj (Pm _) (by omega))];simp only[ag,e,d];unfold ask ay5 MB;rw[Wc,Wc,aBY];cases decide (bW c r.2.1=r.1)<;>cases decide (r.2.2.1>=r.2.1)<;>cases decide (r.2.2.2.1.2.2.1.1=ai (r.2.1-1))<;>cases decide (((dq r.2.2.2.2.2.1 r.2.1 aj).2.2.length:Int)>=BH c)<;>rfl
def anj {c:Int×Int}{r:aA}(h:aoN r)(view:Int):rv F0 c r view=some (MB c r.2.2.2.2.2.1 view,()):=by rw[asd,YD h.t h.tq,ag,Va,ag];rfl
def aBZ {c:Int×Int}{r:aA}(h:aT c r):aci F0 c r=some ((ask c r).1,(ask c r).2,()):=by have g:=h.view;have a:=(ey h.f.s).2.2.1;have b:M4 (ho aiY (amQ r.2.2.2.1.2.2.1.2.1)):=Hs M5;have d:=ao0 (c:=c) (q:=r.2.2.2.1.2.2.1) a (view:=r.2.1) ⟨by omega,by omega⟩ (l:=afs r) (ani r);have e:nI F0 r.2.2.2.2.1 (ho aiY (amQ r.2.2.2.1.2.2.1.2.1))=some (afs r,()):=aoX h.l.p b;have f:sH r.2.2.2.1.2.2.1:=h.l.s.1;rw[aub,dV h.l,ag,h.ok,aG,aa,HR,ag,anj h.l,ag,U6,ag,aqa f.1,ag,agO M5 (cj (Pm _) (by omega))];simp only[ag,e,d];unfold ask ay5;rw[Wc,Wc];cases decide (bW c r.2.1=r.1)<;>cases decide (r.2.2.1>=r.2.1)<;>cases decide (r.2.2.2.1.2.2.1.1=ai (r.2.1-1))<;>cases MB c r.2.2.2.2.2.1 r.2.1<;>rfl
def aB0 {c:Int×Int}{r:aA}(h:(ask c r).2=true):ay5 c r=true/\fm c (ask c r).1=true/\aZ (ask c r).1.1.data.toList=r.2.1/\(ask c r).1.2=r.2.2.2.1.2.2.1:=by
 unfold ask at h ⊢;split at h
 .rename_i a;rw[ah a];exact⟨a,au9 h⟩
 .cases h
def ac0 (r:aA):aA:=(r.1,r.2.1,r.2.2.1,r.2.2.2.1,r.2.2.2.2.1,r.2.2.2.2.2.1,sI r.2.2.2.2.2.2.1,[])
def ava {c:Int×Int}{r:aA}(h:aT c r):GO F0 c r=some (ac0 r,r.2.2.2.2.2.2.2,()):=by rw[ah4,dJ h.bt,ag,gx h.l,ag,h.ok,aG,aa,aBU h.bt.d.1,ag,acN h.l.h h.l.hm,ag];rfl
def as1 {c:Int×Int}{r:aA}(h:aT c r):G7 F0 c r=some (ac0 r,r.2.2.2.2.2.2.2,()):=by rw[aiu,dK h.bt,ag,dV h.l,ag,h.ok,aG,aa,az9 h.bt.d.1,ag];rfl
def avb {d:rV}(h:fk d=true):fk (sI d)=true:=by unfold sI;rw[ah h];have:=dn.1 h;exact dn.2 ⟨this.1,by dsimp only;omega,by dsimp only;omega⟩
def as2 (d:rV):(sI d).1=d.1:=by unfold sI;split<;>rfl
def aT.ac0 {c:Int×Int}{r:aA}(h:aT c r):aT c (ac0 r) :=
 ⟨⟨h.f.cf,h.f.i,h.f.v,h.f.a,h.f.s,h.f.p,h.f.t,avb h.f.d,aQ _,fun x a=>by cases a⟩,by show ∀x∈(sI r.2.2.2.2.2.2.1).1,_;rw[as2];exact h.b⟩
def kB (r:aA)(v:Int):aA:=(r.1,v,r.2.2)
def fC (r:aA)(t:List cE):aA:=(r.1,r.2.1,r.2.2.1,r.2.2.2.1,r.2.2.2.2.1,t,r.2.2.2.2.2.2)
def aT.kB {c:Int×Int}{r:aA}(h:aT c r){v:Int}(a:1<=v)(b:v<=60):aT c (kB r v) :=
 ⟨⟨h.f.cf,h.f.i,by show e4 1 60 v=true;simp[e4,a,b],h.f.a,h.f.s,h.f.p,h.f.t,h.f.d,h.f.n,h.f.h⟩,h.b⟩
def aT.fC {c:Int×Int}{r:aA}(h:aT c r){t:List cE}(a:ew c t=true):aT c (fC r t) :=
 ⟨⟨h.f.cf,h.f.i,h.f.v,h.f.a,h.f.s,h.f.p,a,h.f.d,h.f.n,h.f.h⟩,h.b⟩
def nM {c:Int×Int}{l:List cE}(h:ew c l=true)(p:cE):ew c (bo c l p).1=true:=by
 unfold bo;split
 .rename_i a;exact a.2
 .exact h
def one (v:Int)(name:ByteArray)(i:Int):cE:=(v,name,[i])
def MC (c:Int×Int)(r:aA):aA×Bool :=
 if r.2.1>=60 then (r,false)
 else if bW c (ai (r.2.1+1))=r.1 then
  if (bo c r.2.2.2.2.2.1 (one (ai (r.2.1+1)) aj r.1)).2=true then (fC (kB r (ai (r.2.1+1))) (bo c r.2.2.2.2.2.1 (one (ai (r.2.1+1)) aj r.1)).1,true) else (r,false)
 else if (nn c (kB r (ai (r.2.1+1))) (bW c (ai (r.2.1+1))) (kz (ai (r.2.1+1)) r.2.2.2.1.2.2.1 r.1)).2=true then ((nn c (kB r (ai (r.2.1+1))) (bW c (ai (r.2.1+1))) (kz (ai (r.2.1+1)) r.2.2.2.1.2.2.1 r.1)).1,true) else (r,false)
def aB1 {c:Int×Int}{r:aA}(h:aT c r):VP F0 c r=some ((MC c r).1,(MC c r).2,()):=by
 have f:=h.view;have g:=(ey h.f.s).2.2.1;have d:eM F0 c r.2.2.2.2.2.1 (ai (r.2.1+1),aj,[r.1])=some ((bo c r.2.2.2.2.2.1 (one (ai (r.2.1+1)) aj r.1)).1,(bo c r.2.2.2.2.2.1 (one (ai (r.2.1+1)) aj r.1)).2,()):=HC (uG h.f.t) ⟨aQ _,by show 1<=1000;omega⟩ c;have e:eT F0 c (r.1,ai (r.2.1+1),r.2.2) (bW c (ai (r.2.1+1))) (3,ai (r.2.1+1),(aj,0,aj,[]),(0,aj,[]),r.2.2.2.1.2.2.1,r.1,0,0,0,0)=some (((nn c (kB r (ai (r.2.1+1))) (bW c (ai (r.2.1+1))) (kz (ai (r.2.1+1)) r.2.2.2.1.2.2.1 r.1)).1,(nn c (kB r (ai (r.2.1+1))) (bW c (ai (r.2.1+1))) (kz (ai (r.2.1+1)) r.2.2.2.1.2.2.1 r.1)).2,()),()) :=
  MA (r:=kB r (ai (r.2.1+1))) h.l.h (Pn h.l.s.1 r.1) c _
 rw[arT,dJ h.bt,ag,gx h.l,ag,h.ok,aG,aa,JP,ag];simp only[ag,d,e];unfold MC;by_cases a:r.2.1>=60
 .rw[ah a,aH a,ae]
 .rw[af a,aK a,aa];by_cases b:bW c (ai (r.2.1+1))=r.1
  .rw[ah b,bc.2 b,ae];cases (bo c r.2.2.2.2.2.1 (one (ai (r.2.1+1)) aj r.1)).2<;>rfl
  .rw[af b,bR.2 b,aa];cases (nn c (kB r (ai (r.2.1+1))) (bW c (ai (r.2.1+1))) (kz (ai (r.2.1+1)) r.2.2.2.1.2.2.1 r.1)).2<;>rfl
def aAg {c:Int×Int}{r:aA}(h:aT c r):VW F0 c r=some ((MC c r).1,(MC c r).2,()):=by
 have f:=h.view;have d:ep F0 c r.2.2.2.2.2.1 (ai (r.2.1+1),aj,[r.1])=some ((bo c r.2.2.2.2.2.1 (one (ai (r.2.1+1)) aj r.1)).1,(bo c r.2.2.2.2.2.1 (one (ai (r.2.1+1)) aj r.1)).2,()):=Dg (uG h.f.t) ⟨aQ _,by show 1<=1000;omega⟩ c;rw[asf,dK h.bt,ag,dV h.l,ag,h.ok,aG,aa];unfold MC;by_cases b:r.2.1>=60
 .rw[ah b,bc.2 (show r.2.1=60 by omega),ae]
 .have g:ai (r.2.1+1)=r.2.1+1:=aF (by omega) (by omega);have e:lE F0 c (r.1,ai (r.2.1+1),r.2.2) (bW c (ai (r.2.1+1))) (3,ai (r.2.1+1),(aj,0,aj,[]),(0,aj,[]),r.2.2.2.1.2.2.1,r.1,0,0,0,0)=some ((nn c (kB r (ai (r.2.1+1))) (bW c (ai (r.2.1+1))) (kz (ai (r.2.1+1)) r.2.2.2.1.2.2.1 r.1)).1,(nn c (kB r (ai (r.2.1+1))) (bW c (ai (r.2.1+1))) (kz (ai (r.2.1+1)) r.2.2.2.1.2.2.1 r.1)).2,()) :=
   Wb (h.kB (v:=ai (r.2.1+1)) (by omega) (by omega)) (Pn h.l.s.1 r.1) _
  rw[af b,bR.2 (show r.2.1≠60 by omega),aa];simp only[ag,d,e,HR];by_cases a:bW c (ai (r.2.1+1))=r.1
  .rw[ah a,bc.2 a,ae];cases (bo c r.2.2.2.2.2.1 (one (ai (r.2.1+1)) aj r.1)).2<;>rfl
  .rw[af a,bR.2 a,aa];cases (nn c (kB r (ai (r.2.1+1))) (bW c (ai (r.2.1+1))) (kz (ai (r.2.1+1)) r.2.2.2.1.2.2.1 r.1)).2<;>rfl
def aT.aFu {c:Int×Int}{r:aA}(h:aT c r):aT c (MC c r).1:=by
 have b:=h.view;unfold MC;split
 .exact h
 .rename_i d;have e:ai (r.2.1+1)=r.2.1+1:=aF (by omega) (by omega);have a:=h.kB (v:=ai (r.2.1+1)) (by omega) (by omega);split
  .split
   .exact a.fC (nM h.f.t _)
   .exact h
  .split
   .exact a.told _ _
   .exact h
def BM (c:Int×Int)(r:aA)(m:ct):Nat->Nat->aA->aA×Bool
 |0,_,a=>(a,true)|j+1,k,a=>if (k:Int)=r.1 then BM c r m j (k+1) a else if (nn c a (k:Int) m).2=true then BM c r m j (k+1) (nn c a (k:Int) m).1 else (r,false)
def Wd (c:Int×Int)(r:aA)(m:ct):aA×Bool:=BM c r m c.1.toNat 0 r
def ank {c:Int×Int}{r:aA}(h:aT c r)(m:ct):∀(j k:Nat) (o:aA),aT c o->aT c (BM c r m j k o).1
 |0,_,_,a=>a|j+1,k,o,a=>by
  unfold BM;split
  .exact ank h m j (k+1) o a
  .split
   .exact ank h m j (k+1) _ (a.told _ _)
   .exact h
def aT.aDv {c:Int×Int}{r:aA}(h:aT c r)(m:ct):aT c (Wd c r m).1:=ank h m _ _ _ h
def aft {c:Int×Int}{r:aA}(h:aT c r){m:ct}(d:fc m):∀(j k:Nat) (z:aA) (n:Nat),(k:Int)+j=c.1->aT c z->j<n->c.1<=100 ->
  o3 F0 (p6 F0) n (k7 (k:Int) c.1 c.2 r.1 r.2.1 r.2.2.1 r.2.2.2.1.1 r.2.2.2.1.2.1 r.2.2.2.1.2.2.1.1 r.2.2.2.1.2.2.1.2.1 r.2.2.2.1.2.2.1.2.2 r.2.2.2.1.2.2.2 r.2.2.2.2.1 r.2.2.2.2.2.1 r.2.2.2.2.2.2.1.1 r.2.2.2.2.2.2.1.2 r.2.2.2.2.2.2.2 m.1 m.2.1 m.2.2.1.1 m.2.2.1.2.1 m.2.2.1.2.2.1 m.2.2.1.2.2.2 m.2.2.2.1.1 m.2.2.2.1.2.1 m.2.2.2.1.2.2 m.2.2.2.2.1.1 m.2.2.2.2.1.2.1 m.2.2.2.2.1.2.2 m.2.2.2.2.2.1 m.2.2.2.2.2.2.1 m.2.2.2.2.2.2.2.1 m.2.2.2.2.2.2.2.2.1 m.2.2.2.2.2.2.2.2.2 0 0 0 0 0 0 aj aj 0 z.1 z.2.1 z.2.2.1 z.2.2.2.1.1 z.2.2.2.1.2.1 z.2.2.2.1.2.2.1.1 z.2.2.2.1.2.2.1.2.1 z.2.2.2.1.2.2.2 z.2.2.2.2.2.2.1.2 [] [] [] [] [] z.2.2.2.1.2.2.1.2.2 z.2.2.2.2.1 z.2.2.2.2.2.1 z.2.2.2.2.2.2.1.1 z.2.2.2.2.2.2.2)
   = some ((BM c r m j k z).1,(BM c r m j k z).2,())
 |0,k,z,n+1,f,a,g,e=>by rw[FD,aK (show ¬(k:Int)<c.1 by omega),aa,Zo];rfl
 |j+1,k,z,n+1,f,a,g,e=>by
  have i:=MA (r:=z) a.l.h d c (k:Int);have l:=dJ h.bt;rw[FD,aH (show(k:Int)<c.1 by omega),ae,show((c.1,c.2):Int×Int)=c from rfl];refine AJ (ve (fun x=>br ((k:Int)==r.1) _ (Option.bind x _)) i) ?_;rw[ag];dsimp only;unfold BM;by_cases b:(k:Int)=r.1
  .rw[ah b,bc.2 b,ae,al (by omega)];exact aft h d j (k+1) z n (by omega) a (by omega) e
  .rw[af b,bR.2 b,aa];cases o:(nn c z (k:Int) m).2 with
   |true =>
    rw[aG,aa,ah rfl,al (by omega)];exact aft h d j (k+1) _ n (by omega) (a.told _ _) (by omega) e
   |false =>
    rw[dW,ae,af (by decide)];refine AJ (ve (fun x=>Option.bind x _) l) ?_;rw[ag,abw]
def avc {c:Int×Int}{r:aA}(h:aT c r){m:ct}(a:fc m):yg F0 c r m=some ((Wd c r m).1,(Wd c r m).2,()):=by have b:=b4 h.f.cf;rw[ah2,dJ h.bt,ag,gx h.l,ag,h.ok,aG,aa];exact aft h a c.1.toNat 0 r F0.n (by omega) h (by rw[bH];omega) (by omega)
def aaa {c:Int×Int}{r:aA}(h:aT c r){m:ct}(d:fc m):∀(j k:Nat) (z:aA) (n:Nat),(k:Int)+j=c.1->aT c z->j<n->c.1<=100 ->
  pr F0 (rG F0) n (lH (k:Int) c.1 c.2 r.1 r.2.1 r.2.2.1 r.2.2.2.1.1 r.2.2.2.1.2.1 r.2.2.2.1.2.2.1.1 r.2.2.2.1.2.2.1.2.1 r.2.2.2.1.2.2.1.2.2 r.2.2.2.1.2.2.2 r.2.2.2.2.1 r.2.2.2.2.2.1 r.2.2.2.2.2.2.1.1 r.2.2.2.2.2.2.1.2 r.2.2.2.2.2.2.2 m.1 m.2.1 m.2.2.1.1 m.2.2.1.2.1 m.2.2.1.2.2.1 m.2.2.1.2.2.2 m.2.2.2.1.1 m.2.2.2.1.2.1 m.2.2.2.1.2.2 m.2.2.2.2.1.1 m.2.2.2.2.1.2.1 m.2.2.2.2.1.2.2 m.2.2.2.2.2.1 m.2.2.2.2.2.2.1 m.2.2.2.2.2.2.2.1 m.2.2.2.2.2.2.2.2.1 m.2.2.2.2.2.2.2.2.2 0 0 0 0 0 0 aj aj 0 z.1 z.2.1 z.2.2.1 z.2.2.2.1.1 z.2.2.2.1.2.1 z.2.2.2.1.2.2.1.1 z.2.2.2.1.2.2.1.2.1 z.2.2.2.1.2.2.2 z.2.2.2.2.2.2.1.2 [] [] [] [] [] z.2.2.2.1.2.2.1.2.2 z.2.2.2.2.1 z.2.2.2.2.2.1 z.2.2.2.2.2.2.1.1 z.2.2.2.2.2.2.2)
   = some ((BM c r m j k z).1,(BM c r m j k z).2,())
 |0,k,z,n+1,f,a,g,e=>by rw[F3,aK (show ¬(k:Int)<c.1 by omega),aa,ZH];rfl
 |j+1,k,z,n+1,f,a,g,e=>by
  have i:=Wb a d (k:Int);have l:=dK h.bt;rw[F3,aH (show(k:Int)<c.1 by omega),ae,show((c.1,c.2):Int×Int)=c from rfl];refine AJ (ve (fun x=>br ((k:Int)==r.1) _ (Option.bind x _)) i) ?_;rw[ag];dsimp only;unfold BM;by_cases b:(k:Int)=r.1
  .rw[ah b,bc.2 b,ae,al (by omega)];exact aaa h d j (k+1) z n (by omega) a (by omega) e
  .rw[af b,bR.2 b,aa];cases o:(nn c z (k:Int) m).2 with
   |true =>
    rw[aG,aa,ah rfl,al (by omega)];exact aaa h d j (k+1) _ n (by omega) (a.told _ _) (by omega) e
   |false =>
    rw[dW,ae,af (by decide)];refine AJ (ve (fun x=>Option.bind x _) l) ?_;rw[ag,ack]
def as3 {c:Int×Int}{r:aA}(h:aT c r){m:ct}(a:fc m):zV F0 c r m=some ((Wd c r m).1,(Wd c r m).2,()):=by have b:=b4 h.f.cf;rw[aiQ,dK h.bt,ag,dV h.l,ag,h.ok,aG,aa];exact aaa h a c.1.toNat 0 r F0.n (by omega) h (by rw[bH];omega) (by omega)
def ac1 {U:Type}{d:U}{p:U->Bool}{q:U->U->Bool}(j:∀a b c,q a b=true->q b c=true->q a c=true){l:List U}(h:Vf d p q l=true)(f:U->Bool):Vf d p q (l.filter f)=true:=by
 rw[afo]at h ⊢;have m:l.Pairwise fun a b=>q a b=true:=List.pairwise_iff_getElem.2 fun i n g o s=>asT j h.2 n s o
 have t:=m.filter f;refine⟨fun k e=>?_,fun k e=>List.pairwise_iff_getElem.1 t k (k+1) (by omega) e (by omega)⟩;have u:=(List.mem_filter.1 (cy e)).1;obtain⟨i,g,v⟩:=afB u;rw[<-v];exact h.1 i g
def anl:∀{a b c:List UInt8},Op.bytesLess a b=true->Op.bytesLess b c=true->Op.bytesLess a c=true
 |[],[],_,h,_=>by cases h
 |_::_,[],_,h,_=>by cases h
 |_,_::_,[],_,h=>by cases h
 |[],_::_,_::_,_,_=>rfl|x::a,y::b,z::c,e,d=>by
  simp only[Op.bytesLess,ju,aD,bV,bc]at e d ⊢;rcases e with e|⟨rfl,e⟩
  .rcases d with d|⟨rfl,d⟩
   .exact .inl (UInt8.lt_trans e d)
   .exact .inl e
  .rcases d with d|⟨rfl,d⟩
   .exact .inl d
   .exact .inr ⟨rfl,anl e d⟩
def ao1 (a b c:cE)(e:e7 a b=true)(d:e7 b c=true):e7 a c=true:=by
 simp only[e7,ju,aD,bV,bc]at *;rcases e with e|⟨g,e⟩
 .rcases d with d|⟨f,d⟩
  .exact .inl (by omega)
  .exact .inl (by omega)
 .rcases d with d|⟨f,d⟩
  .exact .inl (by omega)
  .exact .inr ⟨by omega,anl e d⟩
def anm {c:Int×Int}{l:List cE}(h:ew c l=true)(f:cE->Bool):ew c (l.filter f)=true:=by simp only[ew,aD,bV]at h ⊢;have:=ath f l;exact⟨ac1 ao1 h.1 f,by omega⟩
def ao2 {l:List dU}(h:eI l=true)(f:dU->Bool):eI (l.filter f)=true:=by simp only[eI,aD,bV]at h ⊢;have:=ath f l;exact⟨ac1 (q:=eL) (fun a b c d e=>Mz d e) h.1 f,by omega⟩
def axe {l:List dU}(h:eI l=true)(x:dU):eI (ky l x).1=true:=by
 unfold ky;split
 .rename_i a;exact a
 .exact h
def oH (b:cG):Int:=aZ b.1.data.toList
def own (c:Int×Int)(r:aA)(name:ByteArray):aA×Bool :=
 if (bo c r.2.2.2.2.2.1 (one (aZ name.data.toList) name r.1)).2=true then ((gm c (fC r (bo c r.2.2.2.2.2.1 (one (aZ name.data.toList) name r.1)).1) (aZ name.data.toList) name false).1,true) else (r,false)
def aDw {c:Int×Int}{r:aA}{a:Int}{m:ct}(h:(nn c r a m).2=false):(nn c r a m).1=r:=by
 unfold nn at h ⊢;cases b:Vu c r a m with
 |true=>rw[b,ah rfl]at h;cases h|false=>rfl
def avd {c:Int×Int}{r:aA}{view:Int}{name:ByteArray}{push:Bool}(h:(gm c r view name push).2=false):(gm c r view name push).1=r:=by
 by_cases a:(dq r.2.2.2.2.2.1 view name).2.2.length=0\/dk name=true
 .rw[acW rfl a]
 .by_cases d:bW c view=r.1
  .by_cases b:Vv c (dq r.2.2.2.2.2.1 view name)=true/\(vL c r (dq r.2.2.2.2.2.1 view name)).2=true
   .rw[asY rfl a d b]at h;cases h
   .rw[acX rfl a d b]
  .by_cases b:push=false/\cmn (dq r.2.2.2.2.2.1 view name).2.2 (dw c view r.1)<(dw c view r.1).length
   .rw[asZ rfl a d b]
   .rw[acY rfl a d b]at h ⊢;exact aDw h
def aT.owned {c:Int×Int}{r:aA}(h:aT c r)(name:ByteArray):aT c (own c r name).1:=by
 unfold own;split
 .exact(h.fC (nM h.f.t _)).as0 _ _ _
 .exact h
def axf {c:Int×Int}{r:aA}(h:aT c r){name:ByteArray}(a:name.size<=1048576):lX F0 c r name=some (((own c r name).1,(own c r name).2,()),()):=by
 have e:eM F0 c r.2.2.2.2.2.1 (aZ name.data.toList,name,[r.1])=some ((bo c r.2.2.2.2.2.1 (one (aZ name.data.toList) name r.1)).1,(bo c r.2.2.2.2.2.1 (one (aZ name.data.toList) name r.1)).2,()):=HC (uG h.f.t) ⟨a,by show 1<=1000;omega⟩ c;have b:=h.fC (nM h.f.t (one (aZ name.data.toList) name r.1));have f:aW F0 (r.1,r.2.1,r.2.2.1,r.2.2.2.1,r.2.2.2.2.1,(bo c r.2.2.2.2.2.1 (one (aZ name.data.toList) name r.1)).1,r.2.2.2.2.2.2)=some (fC r (bo c r.2.2.2.2.2.1 (one (aZ name.data.toList) name r.1)).1,()):=dJ b.bt;obtain⟨x,g,i⟩:=QD b (aZ name.data.toList) a false;rw[ak6,nK a];simp only[ag,e,f,g,nK a];unfold own;cases j:(bo c r.2.2.2.2.2.1 (one (aZ name.data.toList) name r.1)).2 with
 |false=>rfl
 |true =>
  rw[ah rfl,aG,aa];cases d:(gm c (fC r (bo c r.2.2.2.2.2.1 (one (aZ name.data.toList) name r.1)).1) (aZ name.data.toList) name false).2 with
  |true=>rw[i d];rfl|false=>rw[avd d];rfl
def np (r:aA)(b:cG):aA:=if oH b>=r.2.1 then kB r (oH b) else r
def oI (c:Int×Int)(r:aA)(b:cG):Bool:=decide (oH b>=r.2.1)&&mG c (see c r.2.2.2.1 b.2) b
def BN (c:Int×Int)(r:aA)(b:cG):bU:=if oI c r b=true then (oH b,(see c r.2.2.2.1 b.2).2) else see c r.2.2.2.1 b.2
def F5 (c:Int×Int)(r:aA)(b:cG)(a:Bool)(W:aA×Bool):aA×Bool :=
 if W.2=true then (if a=true then (if (own c W.1 b.1).2=true then ((own c W.1 b.1).1,true) else (r,false)) else (W.1,true)) else (r,false)
def ig (c:Int×Int)(r:aA)(b:cG):aA×Bool:=F5 c r b (oI c r b) (lQ c (np r b) (BN c r b))
def aT.np {c:Int×Int}{r:aA}(h:aT c r)(b:cG):aT c (np r b):=by
 unfold Tryz.np;have:=h.view;have a:=Pg b.1.data.toList;split
 .exact h.kB (by unfold oH at *;omega) (by unfold oH at *;omega)
 .exact h
def ave {c:Int×Int}{r:aA}(h:aT c r)(b:cG):lK (BN c r b):=by
 have:=ang h b.2;unfold BN;split
 .exact this
 .exact this
def aT.F5 {c:Int×Int}{r:aA}(h:aT c r)(b:cG)(d:Bool){W:aA×Bool}(a:aT c W.1):aT c (F5 c r b d W).1:=by
 unfold Tryz.F5;split
 .split
  .split
   .exact a.owned _
   .exact h
  .exact a
 .exact h
def aT.ann {c:Int×Int}{r:aA}(h:aT c r)(b:cG):aT c (ig c r b).1:=h.F5 b _ ((h.np b).wrote _)
def axg {c:Int×Int}{r:aA}{b:cG}(g:b.1.size<=1048576)(a:Bool){W:aA×Bool}(i:aT c W.1)(x:aA) :
  ((some (if W.2=true then (W.1,true,amK) else (amK,false,x)):Option (aA×Bool×aA)).bind fun d=>br d.2.1 (br a ((lX F0 c d.1 b.1).bind fun e=>br (!e.1.2.1) (some (r,false,())) (some (e.1.1,true,()))) (some (d.1,true,()))) (some (r,false,())))=some ((F5 c r b a W).1,(F5 c r b a W).2,()):=by
 have f:=axf i g;obtain⟨j,k⟩:=W;unfold F5;cases k with
 |false=>rfl
 |true =>
  cases a with
  |false=>rfl
  |true =>
   dsimp only at f ⊢;rw[ah rfl,ah rfl,ah rfl,ag];dsimp only;rw[ae,ae,f,ag];cases h:(own c j b.1).2<;>rfl
def avf {c:Int×Int}{s:bU}{b:cG}(h:mG c s b=true):auY c s b=((oH b,s.2),true):=ah h
def aDx {c:Int×Int}{s:bU}{b:cG}(h:mG c s b=false):auY c s b=(s,false):=af (by rw[h];decide)
def aB2 {c:Int×Int}{r:aA}{b:cG}(a:oH b>=r.2.1)(d:mG c (see c r.2.2.2.1 b.2) b=true):oI c r b=true/\BN c r b=(oH b,(see c r.2.2.2.1 b.2).2):=by
 have:oI c r b=true:=by unfold oI;rw[aH a,d];rfl
 exact⟨this,ah this⟩
def ay7 {c:Int×Int}{r:aA}{b:cG}(h:¬(oH b>=r.2.1/\mG c (see c r.2.2.2.1 b.2) b=true)):oI c r b=false/\BN c r b=see c r.2.2.2.1 b.2:=by
 have:oI c r b=false:=by
  unfold oI;by_cases a:oH b>=r.2.1
  .cases d:mG c (see c r.2.2.2.1 b.2) b with
   |true=>exact absurd ⟨a,d⟩ h|false=>rw[afF]
  .rw[aK a];rfl
 exact⟨this,af (by rw[this];decide)⟩
def YG {c:Int×Int}{r:aA}(h:aT c r){b:cG}(l:fm c b=true):o0 F0 c r b=some ((ig c r b).1,(ig c r b).2,()):=by
 obtain⟨d,g⟩:=HV l;have m:=ang h b.2;have n:=agV (c:=c) m d g;have o:=aBT (c:=c) m d g;have q:=QC (h.np b) (ave h b);have s:aT c (lQ c (np r b) (BN c r b)).1:=(h.np b).wrote _;have t:=axg (r:=r) d (oI c r b) s (np r b);rw[abn,dJ h.bt,ag,gx h.l,ag,h.ok,aG,aa,Mn d g,ag,l,aG,aa,asQ h.l.s g,nK d];simp only[ag,n,o];rw[show aZ b.1.data.toList=oH b from rfl];show _=some ((F5 c r b (oI c r b) (lQ c (np r b) (BN c r b))).1,(F5 c r b (oI c r b) (lQ c (np r b) (BN c r b))).2,());rw[<-t,<-q];by_cases a:oH b>=r.2.1
 .have i:np r b=(r.1,oH b,r.2.2):=ah a;rw[aH a,ae,ae];cases k:mG c (see c r.2.2.2.1 b.2) b with
  |true =>
   obtain⟨e,f⟩:=aB2 a k;rw[e,f,i,avf k,ae]
  |false =>
   obtain⟨e,f⟩:=ay7 (c:=c) (r:=r) (b:=b) (fun j=>by rw[k]at j;cases j.2);rw[e,f,i,aa]
 .have i:np r b=r:=af a;obtain⟨e,f⟩:=ay7 (c:=c) (r:=r) (b:=b) (fun j=>a j.1);rw[aK a,aa,aa,e,f,i];rfl
def axh {c:Int×Int}{r:aA}{b:cG}(f:b.1.size<=1048576)(d:Bool){W:aA×Bool}(e:aT c W.1)(hid:W.1.1=r.1) :
  br (!W.2) (some (r,false,())) (br (!d) (some (W.1,true,())) ((ep F0 c W.1.2.2.2.2.2.1 (oH b,b.1,[r.1])).bind fun g=>br (!g.2.1) (some (r,false,())) ((mA F0 c (W.1.1,W.1.2.1,W.1.2.2.1,W.1.2.2.2.1,W.1.2.2.2.2.1,g.1,W.1.2.2.2.2.2.2) (oH b) b.1 false).bind fun h=>some (h.1,true,()))))=some ((F5 c r b d W).1,(F5 c r b d W).2,()):=by
 obtain⟨a,i⟩:=W;dsimp only at e hid ⊢;unfold F5;cases i with
 |false=>rfl
 |true =>
  cases d with
  |false=>rfl
  |true =>
   have j:ep F0 c a.2.2.2.2.2.1 (oH b,b.1,[r.1])=some ((bo c a.2.2.2.2.2.1 (one (aZ b.1.data.toList) b.1 a.1)).1,(bo c a.2.2.2.2.2.1 (one (aZ b.1.data.toList) b.1 a.1)).2,()):=by rw[hid];exact Dg (uG e.f.t) ⟨f,by show 1<=1000;omega⟩ c
   have k:=e.fC (nM e.f.t (one (aZ b.1.data.toList) b.1 a.1));have l:=Z9 k (oH b) f false;have m:mA F0 c (a.1,a.2.1,a.2.2.1,a.2.2.2.1,a.2.2.2.2.1,(bo c a.2.2.2.2.2.1 (one (aZ b.1.data.toList) b.1 a.1)).1,a.2.2.2.2.2.2) (oH b) b.1 false=some ((gm c (fC a (bo c a.2.2.2.2.2.1 (one (aZ b.1.data.toList) b.1 a.1)).1) (oH b) b.1 false).1,(gm c (fC a (bo c a.2.2.2.2.2.1 (one (aZ b.1.data.toList) b.1 a.1)).1) (oH b) b.1 false).2,()):=l;rw[j,ag,ah rfl,ah rfl];unfold own;dsimp only;cases n:(bo c a.2.2.2.2.2.1 (one (aZ b.1.data.toList) b.1 a.1)).2 with
   |false=>rfl
   |true =>
    rw[m,ag];rfl
def Vw {c:Int×Int}{r:aA}(h:aT c r){b:cG}(m:fm c b=true):po F0 c r b=some ((ig c r b).1,(ig c r b).2,()):=by
 obtain⟨i,l⟩:=HV m;have n:=ang h b.2;have o:=az8 (c:=c) n i l;have e:=Z7 (h.np b) (ave h b);have q:aT c (lQ c (np r b) (BN c r b)).1:=(h.np b).wrote _;have hid:(lQ c (np r b) (BN c r b)).1.1=r.1:=by rw[acV];unfold np;split<;>rfl
 have s:=axh (r:=r) i (oI c r b) q hid;rw[ab4,dV h.l,ag,h.ok,aG,aa,Ht i l,ag,m,aG,aa,am5 h.l.s l,py i,dK h.bt];simp only[ag,o];rw[show aZ b.1.data.toList=oH b from rfl];show _=some ((F5 c r b (oI c r b) (lQ c (np r b) (BN c r b))).1,(F5 c r b (oI c r b) (lQ c (np r b) (BN c r b))).2,());rw[<-s];by_cases f:oH b>=r.2.1
 .have d:np r b=(r.1,oH b,r.2.2):=ah f;rw[aH f,ae];cases j:mG c (see c r.2.2.2.1 b.2) b with
  |true =>
   obtain⟨g,a⟩:=aB2 f j;rw[d,a]at e;rw[g,a,d,avf j];dsimp only;rw[e,ag]
  |false =>
   obtain⟨g,a⟩:=ay7 (c:=c) (r:=r) (b:=b) (fun k=>by rw[j]at k;cases k.2);rw[d,a]at e;rw[g,a,d,aDx j];dsimp only;rw[e,ag]
 .have d:np r b=r:=af f;obtain⟨g,a⟩:=ay7 (c:=c) (r:=r) (b:=b) (fun k=>f k.1);rw[d,a]at e;rw[aK f,aa,g,a,d,e,ag];rfl
end Go.Am.Tryz
