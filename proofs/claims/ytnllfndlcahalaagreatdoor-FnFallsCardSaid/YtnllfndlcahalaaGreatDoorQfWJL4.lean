/- No condition. -/
import Derived.Test.YtnllfndlcahalaaGreatDoorQfWJL3
set_option linter.all false
namespace Go.Am.Tryz
open Go.Am
def tc (a b:Int):Int:=if b>a then b else a
def GS (a b:Int):Int:=if a<b then a else b
def De (a b:Int):dK F0 a b=some (tc a b,()):=by
 rw[aag];unfold tc;by_cases h:a>b
 .rw[aL h,ae,af (by omega)]
 .rw[aQ h,aa];by_cases d:b>a
  .rw[ag d]
  .rw[af d,show a=b by omega]
def Y2 (a b:Int):bK F0 a b=some (GS a b,()):=by
 rw[ar8];unfold GS;by_cases h:a<b
 .rw[aL h,ae,ag h]
 .rw[aQ h,aa,af h]
def aHj {b:ByteArray}(h:b.size<=1048576):p6 F0 b=some ((a6 b.data.toList).1,(a6 b.data.toList).2,()):=YS (UO h)
def aFs {b:ByteArray}(h:b.size<=1048576):q5 F0 b=some ((a6 b.data.toList).1,(a6 b.data.toList).2,()):=Sv (UO h)
def OD (a b:bZ):bZ:=if a.1>b.1 then a else b
def azq {a b:bZ}(d:um a)(e:um b):Iy F0 a b=some (OD a b,()):=by
 rw[alc,wL d.2,ai,wL e.2,ai];unfold OD;by_cases h:a.1>b.1
 .rw[aL h,ae,ag h]
 .rw[aQ h,aa,af h]
def aw1 {a b:bZ}(d:um a)(e:um b):I3 F0 a b=some (OD a b,()):=by
 rw[al5,x1 d.2,ai,x1 e.2,ai];unfold OD;by_cases h:a.1>b.1
 .rw[aL h,ae,ag h]
 .rw[aQ h,aa,af h]
def Mc (ss:List Rn):Bool:=decide (3<=ss.length)&&(((ss.getD (ss.length-1) (0,[])).1==aj ((ss.getD (ss.length-2) (0,[])).1+1))&&((ss.getD (ss.length-2) (0,[])).1==aj ((ss.getD (ss.length-3) (0,[])).1+1)))
def JR (b:ByteArray):Bool:=Mc (a6 b.data.toList).1
def upB (b:ByteArray):ByteArray:=tx (fO b.data.toList)
def aI7 (l:List UInt8):(fO l).length<=l.length:=by
 unfold fO;split
 .rw[bz];omega
 .exact aR _
def Md (b:ByteArray):(upB b).size<=b.size:=by unfold upB;rw[bD];exact aI7 _
def aFt {b:ByteArray}(h:b.size<=1048576):du F0 (tx (fO b.data.toList))=some (aD (fO b.data.toList),()):=by have:=o5 (b:=upB b) (bX (Md b) h);rw[show(upB b).data.toList=fO b.data.toList from fq _]at this;exact this
def aBY {b:ByteArray}(h:b.size<=1048576):er F0 (tx (fO b.data.toList))=some (aD (fO b.data.toList),()):=by have:=rB (b:=upB b) (bX (Md b) h);rw[show(upB b).data.toList=fO b.data.toList from fq _]at this;exact this
def hZ (b:ByteArray):ByteArray×Bool:=if JR b=true then (upB (upB b),true) else (ak,false)
def akk {V:Type}{ss:List Rn}(g:ss.length<=30)(x y:Option V) :
  br (decide ((ss.length:Int)<3)) y (ck (bE (aj ((ss.length:Int)-1)) (ss.length:Int)) (ck (bE (aj ((ss.length:Int)-2)) (ss.length:Int)) (br ((aH ss (aj ((ss.length:Int)-1)) (0,[])).1 != (aj ((aH ss (aj ((ss.length:Int)-2)) (0,[])).1+1))) y
   (ck (bE (aj ((ss.length:Int)-2)) (ss.length:Int)) (ck (bE (aj ((ss.length:Int)-3)) (ss.length:Int)) (br ((aH ss (aj ((ss.length:Int)-2)) (0,[])).1 != (aj ((aH ss (aj ((ss.length:Int)-3)) (0,[])).1+1))) y x))))))=if Mc ss=true then x else y:=by
 unfold Mc;by_cases h:3<=ss.length
 .rw[aQ (show ¬(ss.length:Int)<3 by omega),aa,aL h,eD];have a:aj ((ss.length:Int)-1)=((ss.length-1:Nat):Int):=by rw[aI (by omega) (by omega)];omega
  have b:aj ((ss.length:Int)-2)=((ss.length-2:Nat):Int):=by rw[aI (by omega) (by omega)];omega
  have d:aj ((ss.length:Int)-3)=((ss.length-3:Nat):Int):=by rw[aI (by omega) (by omega)];omega
  rw[a,b,d,an (by omega),ab,an (by omega),ab,an (by omega),ab,ab,ly,ly,ly];cases e:((ss.getD (ss.length-1) (0,[])).1==aj ((ss.getD (ss.length-2) (0,[])).1+1))<;>cases f:((ss.getD (ss.length-2) (0,[])).1==aj ((ss.getD (ss.length-3) (0,[])).1+1))<;>simp only[bne,e,f]<;>rfl
 .rw[aL (show(ss.length:Int)<3 by omega),ae,aQ h];rfl
def azr {b:ByteArray}(h:b.size<=1048576):Iz F0 b=some ((hZ b).1,(hZ b).2,()):=by
 have d:l5 F0 (tx (fO b.data.toList))=some (upB (upB b),()):=afG (b:=upB b) (bX (Md b) h);rw[ale,aHj h,ai,akk (rA _),afG h,ai,d,ai];unfold hZ JR;cases a:Mc (a6 b.data.toList).1 with
 |true =>
  have:(a6 b.data.toList).2=true:=by
   cases e:(a6 b.data.toList).2 with
   |true=>rfl|false=>rw[XW e]at a;cases a
  rw[this];rfl
 |false=>cases (a6 b.data.toList).2<;>rfl
def aw2 {b:ByteArray}(h:b.size<=1048576):I4 F0 b=some ((hZ b).1,(hZ b).2,()):=by have a:sv F0 (tx (fO b.data.toList))=some (upB (upB b),()):=afH (b:=upB b) (bX (Md b) h);rw[al7,aFs h,ai,akk (rA _),afH h,ai,a,ai];unfold hZ JR;cases d:Mc (a6 b.data.toList).1<;>rfl
def SP (c:Int×Int)(s:bd)(q:bZ):bd :=
 if bh c s=true/\eV c q=true then (s.1,tc s.2.1 (aD (fO q.2.1.data.toList)),OD q s.2.2.1,if (hZ q.2.1).2=true/\amw (hZ q.2.1).1 s.2.2.2=true then (hZ q.2.1).1 else s.2.2.2) else s
def af0 (b:ByteArray):(hZ b).1.size<=b.size:=by
 unfold hZ;split
 .exact bX (Md _) (Md _)
 .exact aR _
def aw3 {s:bd}{q:bZ}(b:km s)(a:um q)(c:Int×Int):Qa F0 c s q=some (SP c s q,()):=by have d:=af0 q.2.1;rw[ayt,Oz b,ai,C7 b,ai,SB a,ai,azq a b.1,ai,afG a.1,ai,aFt a.1,ai,De,ai,azr a.1,ai,ay7 (bX d a.1) b.2,ai];unfold SP tc;cases bh c s<;>cases eV c q<;>cases (hZ q.2.1).2<;>cases amw (hZ q.2.1).1 s.2.2.2<;>simp[ae,aa]
def aqD {s:bd}{q:bZ}(b:km s)(a:um q)(c:Int×Int):QV F0 c s q=some (SP c s q,()):=by have d:=af0 q.2.1;rw[ayx,Jv b,ai,F1 b,ai,Rq a,ai,aw1 a b.1,ai,afH a.1,ai,aBY a.1,ai,aw2 a.1,ai,SF (bX d a.1) b.2,ai];unfold SP tc;cases bh c s<;>cases eV c q<;>cases (hZ q.2.1).2<;>cases amw (hZ q.2.1).1 s.2.2.2<;>simp[ae,aa]
def h7 (c:Int×Int)(s:bd)(b:cq):Bool:=bh c s&&(fF c b&&(decide (aD b.1.data.toList>s.1)&&decide (b.2.1>=s.2.1)))
def akl {s:bd}{b:cq}(d:km s)(a:b.1.size<=1048576)(e:um b.2)(c:Int×Int):y3 F0 c s b=some (h7 c s b,()):=by rw[ali,C7 d,ai,Ow a e,ai,o5 a,ai];unfold h7;cases bh c s<;>cases fF c b<;>cases decide (aD b.1.data.toList>s.1)<;>rfl
def aw4 {s:bd}{b:cq}(d:km s)(a:b.1.size<=1048576)(e:um b.2)(c:Int×Int):I6 F0 c s b=some (h7 c s b,()):=by rw[ama,F1 d,ai,Jr a e,ai,rB a,ai];unfold h7;cases bh c s<;>cases fF c b<;>cases decide (aD b.1.data.toList>s.1)<;>rfl
def azs (c:Int×Int)(s:bd)(b:cq):bd×Bool:=if h7 c s b=true then ((aD b.1.data.toList,s.2),true) else (s,false)
def aHk {s:bd}{b:cq}(a:km s)(d:b.1.size<=1048576)(e:um b.2)(c:Int×Int):Qb F0 c s b=some ((azs c s b).1,(azs c s b).2,()):=by rw[avS,Oz a,ai,akl a d e,ai,o5 d,ai];unfold azs;cases h7 c s b<;>rfl
def aFu {s:bd}{b:cq}(a:km s)(d:b.1.size<=1048576)(e:um b.2)(c:Int×Int):YL F0 c s b=some ((azs c s b).1,(azs c s b).2,()):=by rw[awf,Jv a,ai,aw4 a d e,ai,rB d,ai];unfold azs;cases h7 c s b<;>rfl
abbrev oN:=List Int×Int
def OE (d:oN)(b:List Int):oN×Bool:=if fE d=true/\d.1.length+b.length<=100000 then ((d.1++b,d.2),true) else (d,false)
def cv {d:oN}:fE d=true↔d.1.length<=100000/\0<=d.2/\d.2<=d.1.length:=by unfold fE gp;simp only[aG,bV];omega
def aBZ {d:oN}{b:List Int}(e:d.1.length<=1048576)(i:b.length<=1048576):MX F0 d b=some ((OE d b).1,(OE d b).2,()):=by
 rw[aor,OA e,ai,ar (by omega) (by omega) (by first|omega|(simp only[aK,aW,bj];omega)|(rw[bc,bz];omega)),ab,L3,ai,L3,ai,ai];unfold OE;cases h:fE d with
 |false=>rfl
 |true =>
  have f:=cv.1 h;by_cases a:d.1.length+b.length<=100000
  .have:fE (d.1++b,d.2)=true:=cv.2 ⟨by dsimp only;rw[aK];exact a,f.2.1,by dsimp only;rw[aK];omega⟩;rw[this,ag ⟨rfl,a⟩];rfl
  .have:fE (d.1++b,d.2)=false:=by
    cases g:fE (d.1++b,d.2) with
    |false=>rfl
    |true =>
     have:=(cv.1 g).1;dsimp only at this;rw[aK]at this;exact absurd this a
   rw[this,af (fun h=>a h.2)];rfl
def azt {d:oN}{b:List Int}(e:d.1.length<=1048576)(f:b.length<=1048576):NV F0 d b=some ((OE d b).1,(OE d b).2,()):=by
 rw[apn,Jw e,ai,ar (by omega) (by omega) (by first|omega|(simp only[aK,aW,bj];omega)|(rw[bc,bz];omega)),ab,Ou,ai,aI (by omega) (by omega)];unfold OE;cases h:fE d with
 |false=>rfl
 |true =>
  by_cases a:d.1.length+b.length<=100000
  .rw[aQ (show ¬(d.1.length:Int)+b.length>100000 by omega),ag ⟨rfl,a⟩];rfl
  .rw[aL (show(d.1.length:Int)+b.length>100000 by omega),af (fun h=>a h.2)];rfl
def hD (d:oN):oN:=if fE d=true then (d.1,(d.1.length:Int)) else d
def aHl {d:oN}(a:d.1.length<=1048576):YG F0 d=some (hD d,()):=by rw[avY,OA a,ai,L3,ai];unfold hD;cases fE d<;>rfl
def aFv {d:oN}(a:d.1.length<=1048576):YJ F0 d=some (hD d,()):=by rw[av9,Jw a,ai,Ou,ai];unfold hD;cases fE d<;>rfl
def F3 (d:oN)(keep:Int):Int:=d.2+tc 0 (GS keep ((d.1.length:Int)-d.2))
def ej (d:oN)(keep:Int):oN:=if fE d=true then (d.1.take (F3 d keep).toNat,F3 d keep) else d
def Rw {d:oN}(h:fE d=true)(keep:Int):d.2<=F3 d keep/\F3 d keep<=d.1.length:=by have:=cv.1 h;unfold F3 tc GS;split<;>split<;>omega
def aB0 {d:oN}(e:d.1.length<=1048576)(keep:Int):Nn F0 d keep=some (ej d keep,()):=by
 rw[aoT,OA e,ai,L3,ai,Y2,ai,De,ai];unfold ej;cases h:fE d with
 |false=>rfl
 |true =>
  have i:=cv.1 h;have b:=Rw h keep;have f:aj ((d.1.length:Int)-d.2)=(d.1.length:Int)-d.2:=aI (by omega) (by omega);have g:aj (d.2+tc 0 (GS keep ((d.1.length:Int)-d.2)))=F3 d keep:=aI (by unfold F3 at b;omega) (by unfold F3 at b;omega);rw[aN,aa,ag rfl];dsimp only;rw[f,g,aiA (by omega) (by omega) b.2,ab,ar (a:=0) (by omega) (by omega) (by first|omega|(simp only[aK,aW,bj];omega)|(rw[bc,bz];omega)),ab];rfl
def azu {d:oN}(a:d.1.length<=1048576)(keep:Int):Og F0 d keep=some (ej d keep,()):=by
 rw[apK,Jw a,ai,Ou,ai];unfold ej;cases h:fE d with
 |false=>rfl
 |true =>
  have f:=cv.1 h;have g:=Rw h keep;have b:aj ((d.1.length:Int)-d.2)=(d.1.length:Int)-d.2:=aI (by omega) (by omega);have e:aj (d.2+(if (d.1.length:Int)-d.2<(if 0>keep then 0 else keep) then (d.1.length:Int)-d.2 else (if 0>keep then 0 else keep)))=F3 d keep:=by
   have:d.2+(if (d.1.length:Int)-d.2<(if 0>keep then 0 else keep) then (d.1.length:Int)-d.2 else (if 0>keep then 0 else keep))=F3 d keep:=by unfold F3 tc GS;split<;>split<;>split<;>split<;>omega
   rw[this];exact aI (by omega) (by omega)
  rw[ae,ag rfl];dsimp only;rw[b,e,show okT (F3 d keep) (d.1.length:Int)=true by simp[okT];omega,ab]
def aqE (s:bd):Int:=GS 60 (tc (tc s.1 (aj (s.2.2.1.1+1))) 1)
def aw5 (c:Int×Int)(r:aw):aw:=(r.1,aqE (cD c r.2.2.2.2.2.2.1.1).1,0,(cD c r.2.2.2.2.2.2.1.1).1,[],[],(r.2.2.2.2.2.2.1.1.take (cD c r.2.2.2.2.2.2.1.1).2,((cD c r.2.2.2.2.2.2.1.1).2:Int)),[])
def azv (c:Int×Int){b:List Int}(e:da b):∀(f:Nat) (s:bd) (a:Nat),a<=b.length->(Bw c b f s a).2<=b.length
 |0,s,a,d=>d|f+1,s,a,d=>by
  cases h:HY c b a with
  |none=>rw[iz h];exact d
  |some z =>
   obtain⟨g,i⟩:=z;rw[Da h];exact azv c e f g i (aza e d h).2.1
def OF (c:Int×Int){b:List Int}(a:da b):(cD c b).2<=b.length:=azv c a _ _ _ (aR _)
def aHm {r:aw}(h:aFr r){c:Int×Int}(b:mZ c r=true):Qx F0 c r=some (aw5 c r,()):=by have d:=OF c h.d;have e:=h.d.1;rw[av0,hY h.l,ai,b,aN,aa,awR h.d,ai,De,ai,De,ai,Y2,ai];dsimp only;rw[aiA (by omega) (by omega) (by omega),ab,ar (a:=0) (by omega) (by omega) (by first|omega|(simp only[aK,aW,bj];omega)|(rw[bc,bz];omega)),ab];rfl
def aFw {r:aw}(h:aFr r){c:Int×Int}(b:mZ c r=true):Rg F0 c r=some (aw5 c r,()):=by have d:=OF c h.d;have e:=h.d.1;rw[awq,dS h.l,ai,b,aN,aa,Ph h.d,ai];dsimp only;rw[aiA (by omega) (by omega) (by omega),ab,ar (a:=0) (by omega) (by omega) (by first|omega|(simp only[aK,aW,bj];omega)|(rw[bc,bz];omega)),ab];rfl
def sameAt (a b:bZ):Bool:=(a.1==b.1)&&(a.2.1.toList==b.2.1.toList)
def af1 (a b:bZ):bZ:=(a.1,a.2.1,afA a.2.2 b.2.2)
def aw6 {a b:bZ}(h:a.2.2.length+b.2.2.length<=1048576):DV F0 a b=some (if sameAt a b=true then af1 a b else cc,sameAt a b,()):=by rw[ahb,ayP h,ai];unfold sameAt af1 bne;cases (a.1==b.1)<;>cases (a.2.1.toList==b.2.1.toList)<;>rfl
def asS {a b:bZ}(h:a.2.2.length+b.2.2.length<=1048576):EE F0 a b=some (if sameAt a b=true then af1 a b else cc,sameAt a b,()):=by rw[ahQ,awJ h,ai];unfold sameAt af1 bne;cases (a.1==b.1)<;>cases (a.2.1.toList==b.2.1.toList)<;>rfl
def fg (p:bZ):List bZ->List bZ
 |[]=>[p]|x::l=>if fD x p=true then x::fg p l else if sameAt x p=true then af1 x p::l else p::x::l
def bs (c:Int×Int)(l:List bZ)(p:bZ):List bZ×Bool:=if iy c p=true/\eS c (fg p l)=true then (fg p l,true) else (l,false)
def ac4 (p:bZ):∀l:List bZ,(fg p l).length<=l.length+1
 |[]=>bG _|x::l=>by
  have:=ac4 p l;unfold fg;split
  .simp only[aW];omega
  .split<;>simp
def OG (p:bZ):∀(k:Nat) (l:List bZ),(∀x∈l.take k,fD x p=true)->fg p l=l.take k++fg p (l.drop k)
 |0,l,_=>rfl|k+1,[],_=>rfl|k+1,x::l,h=>by rw[fg,ag (h x (by simp)),OG p k l fun y a=>h y (by simp[a])];rfl
def aB1 (l:List bZ):Prop:=l.length<=1000/\∀q∈l,q.2.1.size<=1048576/\q.2.2.length<=1000
def aB1.l {l:List bZ}(h:aB1 l){q:bZ}(a:q∈l):um q:=⟨(h.2 q a).1,bX (h.2 q a).2 (by omega)⟩
def aI8 {a b:bZ}(d:a.2.1.size<=1048576/\a.2.2.length<=1000)(e:b.2.2.length<=1000):um (af1 a b):=⟨d.1,by have:=aE3 a.2.2 b.2.2;show(afA a.2.2 b.2.2).length<=_;omega⟩
def aqF {p:bZ}(b:p.2.1.size<=1048576/\p.2.2.length<=1000):∀{l:List bZ},aB1 l->∀q∈fg p l,um q
 |[],_,q,a=>by rw[fm.1 a];exact⟨b.1,by omega⟩
 |x::l,h,q,a=>by
  have e:=h.2 x pZ;have d:aB1 l:=⟨by have:=h.1;rw[aW]at this;omega,fun y f=>h.2 y (jN _ f)⟩;unfold fg at a;split at a
  .rcases cT.1 a with rfl|a
   .exact h.l pZ
   .exact aqF b d q a
  .split at a
   .rcases cT.1 a with rfl|a
    .exact aI8 e b.2
    .exact d.l a
   .rcases cT.1 a with rfl|a
    .exact⟨b.1,by omega⟩
    .exact h.l a
def aB2 {V:Type}(c:Int×Int)(l:List bZ)(p:bZ)(x y:Option V):br (!eS c (fg p l)) y (br (!iy c p) y x)=if iy c p=true/\eS c (fg p l)=true then x else y:=by cases eS c (fg p l)<;>cases iy c p<;>rfl
def Jy {l:List bZ}(h:aB1 l){p:bZ}(m:p.2.1.size<=1048576/\p.2.2.length<=1000)(c:Int×Int):fk F0 c l p=some ((bs c l p).1,(bs c l p).2,()):=by
 have D:=h.1;have A:um p:=⟨m.1,by omega⟩;have E:=ac4 p l;have df:nA F0 (c.1,c.2) (fg p l)=some (eS c (fg p l),()):=akb (by omega) (aqF m h) c;rw[ahd];refine cu (fun n k (z:Bool×List bZ)=>ij F0 (zb F0) n (ft l z.1 k c.1 c.2 p.1 p.2.1 p.2.2 z.2)) l.length
  (fun k z=>(z.1=false/\z.2=l.take k/\∀x∈l.take k,fD x p=true)\/(z.1=true/\z.2++l.drop k=fg p l)) _ (fun n k z b i=>.inr ?_) (fun n z i=>?_) F0.n 0 (false,[]) (aR _) (.inl ⟨rfl,rfl,fun x o=>by simp at o⟩) (by rw[bB];omega)
 .have o:=h.2 _ (bH b);have s:l.drop k=l[k]::l.drop (k+1):=Vh b;rcases i with ⟨d,a,g⟩|⟨d,a⟩
  .have B:z.2.length<=1000:=by rw[a,bz];omega
   have e:=OG p k l g;rw[s,fg]at e;rw[d,kT,aM b,ae,an b,ab,aT b,nr (by omega),ai];dsimp only;rw[show((p.1,p.2.1,p.2.2):bZ)=p from rfl,abq,ai,aw6 (by omega),ai,nr (q:=p) (by omega),ai];cases t:fD l[k] p with
   |true =>
    refine⟨(false,z.2++[l[k]]),?_,.inl ⟨rfl,?_,?_⟩⟩
    .rw[eh,ae,aN,aa,ar (by omega) (by omega) (by first|omega|(simp only[aK,aW,bj];omega)|(rw[bc,bz];omega)),ab,al (by omega)]
    .show z.2++[l[k]]=_;rw[ef b,a]
    .intro x u;rw[ef b]at u;rcases gK.1 u with j|j
     .exact g x j
     .rw[fm.1 j];exact t
   |false =>
    rw[t,af (by decide)]at e;cases f:sameAt l[k] p with
    |true =>
     rw[f,ag rfl]at e;refine⟨(true,z.2++[af1 l[k] p]),?_,.inr ⟨rfl,?_⟩⟩
     .rw[eh,ae,ae,ag rfl,ae,ar (by omega) (by omega) (by first|omega|(simp only[aK,aW,bj];omega)|(rw[bc,bz];omega)),ab,al (by omega)]
     .show(z.2++[af1 l[k] p])++_=_;rw[e,a,hI];rfl
    |false =>
     rw[f,af (by decide)]at e;refine⟨(true,z.2++[p]++[l[k]]),?_,.inr ⟨rfl,?_⟩⟩
     .rw[eh,ae,ae,aa,ar (by omega) (by omega) (by first|omega|(simp only[aK,aW,bj];omega)|(rw[bc,bz];omega)),ab,ar (by omega) (by omega) (by first|omega|(simp only[aK,aW,bj];omega)|(rw[bc,bz];omega)),ab,al (by omega)]
     .show(z.2++[p]++[l[k]])++_=_;rw[e,a,hI,hI];rfl
  .have B:z.2.length<=1001:=by have:=oh List.length a;rw[aK]at this;omega
   refine⟨(true,z.2++[l[k]]),?_,.inr ⟨rfl,?_⟩⟩
   .rw[d,kT,aM b,ae,an b,ab,aT b,nr (by omega),ai];dsimp only;rw[aN,aa,ar (by omega) (by omega) (by first|omega|(simp only[aK,aW,bj];omega)|(rw[bc,bz];omega)),ab,al (by omega)]
   .show(z.2++[l[k]])++_=_;rw[hI,<-a,s];rfl
 .have v:kO F0 (c.1,c.2) (p.1,p.2.1,p.2.2)=some (iy c p,()):=SC A c;have w:gD F0 l=some (l,()):=afW (by omega) fun q C=>h.l C
  have y:br (!eS c (fg p l)) (some (l,false,())) (br (!iy c p) (some (l,false,())) (some (fg p l,true,())))=some ((bs c l p).1,(bs c l p).2,()):=by rw[aB2];unfold bs;split<;>rfl
  rcases i with ⟨d,a,g⟩|⟨d,a⟩
  .have f:=OG p l.length l g;rw[Vk,ki]at f;rw[ki]at a;rw[d,kT,aE,aa,Hk,eh,ae,show((p.1,(p.2.1,p.2.2)):bZ)=p from rfl,nr (by omega),ai,a,ar (by omega) (by omega) (by first|omega|(simp only[aK,aW,bj];omega)|(rw[bc,bz];omega)),ab,
    show l++[p]=fg p l from f.symm,df,ai,v,ai,w,ai]
   exact y
  .rw[Vk,fh]at a;rw[d,kT,aE,aa,Hk,aN,aa,a,df,ai,v,ai,w,ai];exact y
def aI9 (a b:bZ):Int:=if fD a b=true then -1 else if sameAt a b=true then 0 else 1
def UQ (a b:bZ):fx F0 a b=some (aI9 a b,()):=by
 rw[FB,aka,ai,afE,ai];unfold aI9 fD sameAt aIO aIP;dsimp only;by_cases h:a.1<b.1
 .rw[ag h,aL h];rfl
 .rw[af h,aQ h,JY];by_cases d:a.1>b.1
  .rw[ag d,bT.2 (show a.1≠b.1 by omega)];rfl
  .rw[af d,show a.1=b.1 by omega,ZN,eD,eD];cases Op.bytesLess a.2.1.toList b.2.1.toList<;>cases (a.2.1.toList==b.2.1.toList)<;>rfl
def amP {γ:Type}(X:Nat->Int->Option γ)(L:Nat)(p:Nat->Bool)(E:Nat->Option γ)(b:∀n k,k<L->X (n+1) (k:Int)=if p k=true then X n ((k+1:Nat):Int) else E k)(d:∀n,X (n+1) (L:Int)=E L) :
  ∀(j k n:Nat),k+j=L->(∀i,i<k->p i=true)->j<n->∃i,i<=L/\(∀j,j<i->p j=true)/\(i<L->p i=false)/\X n (k:Int)=E i
 |0,k,n+1,f,a,g=>⟨L,bG _,fun j s=>a j (by omega),fun h=>absurd h (Vo _),by rw[show k=L by omega];exact d n⟩
 |j+1,k,n+1,f,a,g=>by
  cases h:p k with
  |true =>
   obtain⟨i,l,m,o,q⟩:=amP X L p E b d j (k+1) n (by omega) (fun i t=>by
    by_cases e:i=k
    .rw[e];exact h
    .exact a i (by omega)) (by omega)
   exact⟨i,l,m,o,by rw[b n k (by omega),h,ag rfl];exact q⟩
  |false=>exact⟨k,by omega,a,fun _=>h,by rw[b n k (by omega),h,af (by decide)]⟩
def aFx {p:bZ}{l:List bZ}{i:Nat}(hi:i<=l.length)(b:∀a (h:a<l.length),a<i->fD l[a] p=true)(d:∀h:i<l.length,fD l[i] p=false) :
  fg p l=if h:i<l.length then (if sameAt l[i] p=true then l.set i (af1 l[i] p) else l.take i++[p]++l.drop i) else l.take i++[p]++l.drop i:=by
 rw[OG p i l fun x e=>by obtain⟨a,f,rfl⟩:=ai4 e;rw[bz]at f;rw[List.getElem_take];exact b a (by omega) (by omega)]
 by_cases h:i<l.length
 .rw[dif_pos h,Vh h,fg,d h,af (by decide)];split
  .rw[List.set_eq_take_append_cons_drop,ag h]
  .simp
 .rw[dif_neg h,auG (by omega)];simp[fg]
def EX {l:List bZ}(h:aB1 l){p:bZ}(j:p.2.1.size<=1048576/\p.2.2.length<=1000)(c:Int×Int):eK F0 c l p=some ((bs c l p).1,(bs c l p).2,()):=by
 have C:=h.1;have v:um p:=⟨j.1,by omega⟩;have D:=ac4 p l;have df:kZ F0 (c.1,c.2) (fg p l)=some (eS c (fg p l),()):=afF (by omega) (aqF j h) c;have m:eJ F0 l=some (l,()):=abw (by omega) fun q w=>h.l w
 have x:fl F0 (p.1,p.2.1,p.2.2)=some (p,()):=BA (q:=p) (by omega);rw[ahS,Ot v,ai,m,ai,ai];cases o:iy c p with
 |false =>
  unfold bs;rw[o,af (by simp)];rfl
 |true =>
  have e:br (!eS c (fg p l)) (some (l,false,())) (some (fg p l,true,()))=some ((bs c l p).1,(bs c l p).2,()):=by unfold bs;rw[o];cases eS c (fg p l)<;>simp[br]
  rw[aN,aa];obtain⟨i,f,y,s,z⟩:=amP (fun n k=>vI F0 (pQ F0) n (pP l k c.1 c.2 p.1 p.2.1 p.2.2 l)) l.length (fun k=>fD (l.getD k cc) p) (fun k=>pQ F0 (.exit 0) (nZ l (k:Int) c.1 c.2 p.1 p.2.1 p.2.2 l))
   (fun n k d=>by rw[FI,aM d,ae,an d,ab,aT d,show((p.1,p.2.1,p.2.2):bZ)=p from rfl,UQ,ai,al (by omega),aJ d];unfold aI9;cases fD l[k] p<;>cases sameAt l[k] p<;>rfl)
   (fun n=>by rw[FI,aE,aa]) l.length 0 F0.n (by omega) (fun i a=>absurd a (S1 _)) (by rw[bB];omega)
  have b:=aFx (p:=p) f (fun A t B=>by have:=y A B;rw[aJ t]at this;exact this) (fun a=>by have:=s a;rw[aJ a]at this;exact this);refine B9 z ?_;rw[Zx,x,ai,m,ai];by_cases a:i<l.length
  .rw[dif_pos a]at b;have t:=h.2 _ (bH a);rw[aM a,ae,an a,ab,aT a,show((p.1,p.2.1,p.2.2):bZ)=p from rfl,UQ,ai];unfold aI9;have u:=s a;rw[aJ a]at u;rw[u,af (by decide)];cases g:sameAt l[i] p with
   |true =>
    rw[g,ag rfl]at b;rw[ag rfl,show((0:Int)==0)=true from rfl,ae,asS (by omega),ai,g,ag rfl,ab,ab,gr];dsimp only;rw[<-b,df,ai];exact e
   |false =>
    rw[g,af (by decide)]at b;rw[af (by decide),show((1:Int)==0)=false from rfl,aa,JM f (by simp) (by simp only[aW,bj];omega),ab,gr,<-b,df,ai];exact e
  .rw[dif_neg a]at b;rw[aQ (show ¬(i:Int)<(l.length:Int) by omega),aa,JM f (by simp) (by simp only[aW,bj];omega),ab,gr,<-b,df,ai];exact e
def dk (l:List bZ)(view:Int)(name:ByteArray):bZ:=match l.find? fun x=>(x.1==view)&&(x.2.1.toList==name.toList) with
 |some x=>x|none=>(view,name,[])
def aud {U:Type}{p:U->Bool}{l:List U}{k:Nat}(a:k<l.length):(l.drop k).find? p=if p l[k]=true then some l[k] else (l.drop (k+1)).find? p:=by rw[Vh a,List.find?_cons];cases p l[k]<;>rfl
def SQ {l:List bZ}(h:l.length<=1048576)(f:∀q∈l,um q)(view:Int)(name:ByteArray):oR F0 l view name=some (dk l view name,()):=by
 rw[agZ];refine cu (fun n k (z:Unit)=>oy F0 (po F0) n (kR l view name k 0 ak [])) l.length (fun k _=>l.find? (fun x=>(x.1==view)&&(x.2.1.toList==name.toList))=(l.drop k).find? fun x=>(x.1==view)&&(x.2.1.toList==name.toList)) _ (fun n k z b a=>?_) (fun n z a=>?_) F0.n 0 () (aR _) rfl (by rw[bB];omega)
 .rw[aud b]at a;rw[Fi,aM b,ae,an b,ab,ab,ab,aT b,nr (f _ (bH b)).2,ai,ab7,al (by omega)];cases d:(l[k].1==view) with
  |false =>
   rw[d,ZP,af (by decide)]at a;exact .inr ⟨(),aa _ _,a⟩
  |true =>
   cases e:(l[k].2.1.toList==name.toList) with
   |false =>
    rw[d,e,eD,af (by decide)]at a;exact .inr ⟨(),by rw[ae,aa],a⟩
   |true =>
    rw[d,e,eD,ag rfl]at a;refine .inl ?_;unfold dk;rw[a];rfl
 .rw[Vk]at a;rw[Fi,aE,aa,Zl];unfold dk;rw[a];rfl
def aby {l:List bZ}(h:l.length<=1048576)(f:∀q∈l,um q)(view:Int)(name:ByteArray):ue F0 l view name=some (dk l view name,()):=by
 rw[ahT];refine cu (fun n k (z:Unit)=>oG F0 (pR F0) n (k9 view name l (l.length:Int) k 0 ak [])) l.length (fun k _=>l.find? (fun x=>(x.1==view)&&(x.2.1.toList==name.toList))=(l.drop k).find? fun x=>(x.1==view)&&(x.2.1.toList==name.toList)) _ (fun n k z b a=>?_) (fun n z a=>?_) F0.n 0 () (aR _) rfl (by rw[bB];omega)
 .rw[aud b]at a;rw[FJ,aM b,ae,an b,ab,aT b,BA (f _ (bH b)).2,ai,acB,al (by omega)];cases d:(l[k].1==view) with
  |false =>
   rw[d,ZP,af (by decide)]at a;exact .inr ⟨(),aa _ _,a⟩
  |true =>
   cases e:(l[k].2.1.toList==name.toList) with
   |false =>
    rw[d,e,eD,af (by decide)]at a;exact .inr ⟨(),by rw[ae,aa],a⟩
   |true =>
    rw[d,e,eD,ag rfl]at a;refine .inl ?_;unfold dk;rw[a];rfl
 .rw[Vk]at a;rw[FJ,aE,aa,Zy];unfold dk;rw[a];rfl
def af2 (l:List bZ)(view:Int):List bZ:=l.filter fun x=>decide (x.1>=view)
def asT {l:List bZ}(h:l.length<=1048576)(b:∀q∈l,um q)(view:Int):z1 F0 l view=some (af2 l view,()):=by
 rw[aet];refine amO (fun n k xs=>mv F0 (wq F0) n (jW l view k xs)) l (fun x=>decide (x.1>=view)) _ (fun n k xs a d=>?_) (fun n=>?_) _ (by rw[bB];omega)
 .rw[BP,aM a,ae,an a,ab,ab,aT a,nr (b _ (bH a)).2,ai,ar (by omega) (by omega) (by first|omega|(simp only[aK,aW,bj];omega)|(rw[bc,bz];omega)),ab,al (by omega)];cases decide (l[k].1>=view)<;>rfl
 .rw[BP,aE,aa,WK];rfl
def aqG {l:List bZ}(h:l.length<=1048576)(b:∀q∈l,um q)(view:Int):hf F0 l view=some (af2 l view,()):=by
 rw[afa];refine amO (fun n k xs=>mS F0 (wH F0) n (jZ view l (l.length:Int) k xs)) l (fun x=>decide (x.1>=view)) _ (fun n k xs a d=>?_) (fun n=>?_) _ (by rw[bB];omega)
 .rw[BW,aM a,ae,an a,ab,aT a,BA (b _ (bH a)).2,ai,ar (by omega) (by omega) (by first|omega|(simp only[aK,aW,bj];omega)|(rw[bc,bz];omega)),ab,al (by omega)];cases decide (l[k].1>=view)<;>rfl
 .rw[BW,aE,aa,Xy];rfl
def OH {a b c:dH}(d:fj a b=true)(e:fj b c=true):fj a c=true:=by simp only[fj,kj,aG,bV,bf]at *;omega
def aFy (a:dH):fj a a=false:=by simp[fj]
def aiJ {U:Type}(d:U)(p:U->Bool)(q:U->U->Bool)(l:List U):X1 d p q l=true↔(∀k (h:k<l.length),p l[k]=true)/\∀k (h:k+1<l.length),q l[k] l[k+1]=true:=by
 unfold X1;rw[eb];constructor
 .intro h;refine⟨fun k a=>?_,fun k a=>?_⟩
  .have:=h k (eU.2 a);rw[aJ a,aG]at this;exact this.1
  .have:=h (k+1) (eU.2 a);rw[aJ a,show k+1-1=k from rfl,aJ (show k<l.length by omega),aG,kj]at this;rcases this.2 with b|b
   .exact absurd (ng b) (by omega)
   .exact b
 .intro h k a;have a:=eU.1 a;rw[aJ a,aG,kj];refine⟨h.1 k a,?_⟩;cases k with
  |zero=>exact .inl (aL rfl)|succ k=>rw[show k+1-1=k from rfl,aJ (show k<l.length by omega)];exact .inr (h.2 k a)
def aw7 {U:Type}{q:U->U->Bool}(g:∀a b c,q a b=true->q b c=true->q a c=true){l:List U}(h:∀k (h:k+1<l.length),q l[k] l[k+1]=true){i:Nat}:∀(j:Nat) (d:i<j) (f:j<l.length),q (l[i]'(by omega)) l[j]=true
 |0,d,_=>absurd d (S1 _)|j+1,d,f=>by
  by_cases e:i=j
  .subst e;exact h i f
  .exact g _ _ _ (aw7 g h j (by omega) (by omega)) (h j f)
def EY (x:dH):List dH->List dH
 |[]=>[x]|y::l=>if fj y x=true then y::EY x l else x::y::l
def lW (l:List dH)(x:dH):List dH×Bool:=if ff (EY x l)=true then (EY x l,true) else (l,false)
def akm (x:dH):∀l:List dH,(EY x l).length=l.length+1
 |[]=>rfl|y::l=>by
  unfold EY;split
  .rw[aW,akm x l,aW]
  .rfl
def ac5 {x:dH}:∀{l:List dH} {i:Nat},i<=l.length->(∀a (h:a<l.length),a<i->fj l[a] x=true)->(∀h:i<l.length,fj l[i] x=false)->EY x l=l.take i++[x]++l.drop i
 |[],i,b,_,_=>by rw[show i=0 by simpa using b];rfl
 |y::l,0,_,_,d=>by have:=d (by simp);rw[EY,af (by rw[show fj y x=false from this];decide)];rfl
 |y::l,i+1,b,e,d=>by have f:fj y x=true:=e 0 (by simp) (by omega);rw[EY,ag f,ac5 (l:=l) (i:=i) (by simpa using b) (fun a g j=>e (a+1) (by simpa using g) (by omega)) (fun h=>d (by simpa using h))];rfl
set_option maxRecDepth 20000 in
def azw {l:List dH}(h:l.length<=1000000)(x:dH):IG F0 l x=some ((lW l x).1,(lW l x).2,()):=by
 rw[alp];obtain⟨i,e,f,g,j⟩:=amP (γ:=List dH×Bool×Unit) (fun n k=>zV F0 (sd F0) n (sa l k x.1 x.2.1 x.2.2.1 x.2.2.2)) l.length (fun k=>fj (l.getD k nd) x) (fun k=>sd F0 (.exit 0) (pB l (k:Int) x.1 x.2.1 x.2.2.1 x.2.2.2))
  (fun n k b=>by
   rw[Hl,aM b,ae,an b,ab,aT b,show((x.1,x.2.1,x.2.2.1,x.2.2.2):dH)=x from rfl,afD,ai,al (by omega),aJ b];cases v:fj l[k] x with
   |true=>rw[ae,ag rfl]|false=>rw[aa,af (by decide)])
  (fun n=>by rw[Hl,aE,aa]) l.length 0 F0.n (by omega) (fun i d=>absurd d (S1 _)) (by rw[bB];omega)
 have m:=ac5 (x:=x) e (fun o q s=>by have:=f o s;rw[aJ q]at this;exact this) (fun d=>by have:=g d;rw[aJ d]at this;exact this);have w:=akm x l;refine B9 j ?_;have t:(l.take (i:Int).toNat).drop (0:Int).toNat=l.take i:=by rw[gr];rfl
 have u:(l.take (l.length:Int).toNat).drop (i:Int).toNat=l.drop i:=by rw[gr,gr,ki]
 have y:(l.take i).length<=l.length:=by rw[bz];omega
 have z:(l.drop i).length<=l.length:=by rw[bc];omega
 rw[acg,t,u,BH,aG6 e,ab,ar (a:=0) (by omega) (by omega) (by first|omega|(simp only[aK,aW,bj];omega)|(rw[bc,bz];omega)),ab,ar (by omega) (by omega) (by first|omega|(simp only[aK,aW,bj];omega)|(rw[bc,bz];omega)),ab,YT e (bG _),ab,ar (by omega) (by omega) (by first|omega|(simp only[aK,aW,bj];omega)|(rw[bc,bz];omega)),ab,show((x.1,(x.2.1,(x.2.2.1,x.2.2.2))):dH)=x from rfl,<-m,ap7 (by omega),ai,
  ar (a:=0) (by omega) (by omega) (by first|omega|(simp only[aK,aW,bj];omega)|(rw[bc,bz];omega)),ab]
 unfold lW;cases ff (EY x l)<;>rfl
def aD3 {x:dH}{l:List dH}{i:Nat}(hi:i<=l.length)(h:ff (l.take i++[x]++l.drop i)=true):(∀d (e:d<l.length),d<i->fj l[d] x=true)/\∀d (e:d<l.length),i<=d->fj x l[d]=true:=by
 unfold ff at h;rw[aG,aiJ]at h;have k:=h.1.2;have hlen:(l.take i++[x]++l.drop i).length=l.length+1:=by simp;omega
 have n:∀d (e:d<l.length) (f:d<i),(l.take i++[x]++l.drop i)[d]'(by omega)=l[d]:=fun d e f=>by rw[aAu (by simp;omega),aAu (by simp;omega),List.getElem_take]
 have m:(l.take i++[x]++l.drop i)[i]'(by omega)=x:=by rw[aAu (by simp;omega),List.getElem_append_right (by simp;omega)];simp
 have o:∀d (e:d<l.length) (f:i<=d),(l.take i++[x]++l.drop i)[d+1]'(by omega)=l[d]:=fun d e f=>by
  rw[List.getElem_append_right (by simp;omega),List.getElem_drop]
  congr 1
  simp;omega
 refine⟨fun d e f=>?_,fun d e f=>?_⟩
 .have:=aw7 (q:=fj) (l:=l.take i++[x]++l.drop i) (fun a b c g j=>OH g j) k (i:=d) i f (by omega);rw[n d e f,m]at this;exact this
 .have:=aw7 (q:=fj) (l:=l.take i++[x]++l.drop i) (fun a b c g j=>OH g j) k (i:=i) (d+1) (by omega) (by omega);rw[m,o d e f]at this;exact this
def aqH {a b:dH}(h:fj a b=true):fj b a=false:=by
 cases d:fj b a with
 |false=>rfl
 |true =>
  have:=OH h d;rw[aFy]at this;cases this
def aHn {x:dH}{l:List dH}{i k:Nat}(hi:i<=l.length)(o:k<=l.length)(j:∀d (h:d<l.length),d<i->fj l[d] x=true)(q:∀h:i<l.length,fj l[i] x=false)
  (s:∀d (h:d<l.length),d<k->fj x l[d]=false) (m:∀h:k<l.length,fj x l[k]=true):ff (l.take k++[x]++l.drop k)=ff (l.take i++[x]++l.drop i)/\(ff (l.take i++[x]++l.drop i)=true->k=i):=by
 by_cases e:k=i
 .subst e;exact⟨rfl,fun _=>rfl⟩
 .have n:ff (l.take i++[x]++l.drop i)=false:=by
   cases h:ff (l.take i++[x]++l.drop i) with
   |false=>rfl
   |true =>
    have g:=(aD3 hi h).2;exfalso;rcases Nat.lt_or_gt_of_ne e with f|f
    .have a:=m (by omega);have b:=j k (by omega) f;rw[aqH a]at b;cases b
    .have a:=g i (by omega) (bG _);have b:=s i (by omega) f;rw[a]at b;cases b
  have t:ff (l.take k++[x]++l.drop k)=false:=by
   cases h:ff (l.take k++[x]++l.drop k) with
   |false=>rfl
   |true =>
    have g:=(aD3 o h).1;exfalso;rcases Nat.lt_or_gt_of_ne e with f|f
    .have a:=m (by omega);have b:=j k (by omega) f;rw[aqH a]at b;cases b
    .have a:=g i (by omega) f;have b:=q (by omega);rw[a]at b;cases b
  exact⟨by rw[n,t],fun h=>by rw[n]at h;cases h⟩
def azx {x:dH}{l:List dH}(h:l.length<=1000000){k:Nat}(d:k<=l.length)(j:∀a (h:a<l.length),a<k->fj x l[a]=false)(m:∀h:k<l.length,fj x l[k]=true) :
  br (!ff (l.take k++[x]++l.drop k)) (some (l,false,())) (some (l.take k++[x]++l.drop k,true,()))=some ((lW l x).1,(lW l x).2,()):=by
 obtain⟨i,e,o,q,_⟩:=amP (fun n (k:Int)=>(some ():Option Unit)) l.length (fun k=>fj (l.getD k nd) x) (fun k=>some ()) (fun n k d=>by cases fj (l.getD k nd) x<;>rfl) (fun n=>rfl) l.length 0 (l.length+1) (by omega) (fun i b=>absurd b (S1 _)) (by omega);have f:∀a (h:a<l.length),a<i->fj l[a] x=true:=fun a s t=>by have:=o a t;rw[aJ s]at this;exact this
 have g:∀h:i<l.length,fj l[i] x=false:=fun b=>by have:=q b;rw[aJ b]at this;exact this
 have u:=ac5 (x:=x) e f g;obtain⟨v,w⟩:=aHn e d f g j m;unfold lW;rw[u,v];cases y:ff (l.take i++[x]++l.drop i) with
 |false=>rfl|true=>rw[w y];rfl
def aw8 {l:List dH}(h:l.length<=1000000)(x:dH):Jc F0 l x=some ((lW l x).1,(lW l x).2,()):=by
 rw[ame,Yd (by omega),ai,ai];have o:iT F0 l=some (l,()):=Yd (by omega);rcases aiq (fun e=>R0 e x) l 0 with ⟨d,f⟩|⟨k,q,d,f,m⟩
 .have d:p1 (fun e=>R0 e x) l 0=-1:=d;have g:([x]:List dH).length=1:=rfl;rw[d,show decide ((-1:Int)<0)=true from rfl,ae,JM (bG _) (by simp) (by rw[g];omega),ab,gr];dsimp only;rw[X2 (by simp only[aK,aW,bj,bc,bz];omega),ai];exact azx h (bG _) (fun i j _=>f l[i] (bH j)) (fun h=>absurd h (Vo _))
 .have d:p1 (fun e=>R0 e x) l 0=((0+k:Nat):Int):=d;rw[wO]at d;have g:([x]:List dH).length=1:=rfl;rw[d,show decide (((k:Nat):Int)<0)=false from aQ (by omega),aa,ai,JM (k:=k) (a:=l.length) (b:=([x]:List dH).length) (by omega) (by simp) (by rw[g];omega),ab,gr];dsimp only;rw[X2 (by simp only[aK,aW,bj,bc,bz];omega),ai];exact azx h (by omega) (fun i j n=>m i j n) (fun _=>f)
def aiK {l:hl}{x:dH}(h:Rt (ei l x).2=false):(ei l x).1=l:=by
 revert h
 unfold ei;split
 .split
  .intro _;rfl
  .split
   .intro _;rfl
   .split
    .intro h;cases h
    .split
     .intro h;cases h
     .intro _;rfl
 .intro _;rfl
def iJ:hl->Nat->List dH->List dH
 |_,_,[]=>[]|_,0,_=>[]|l,n+1,x::p=>if Rt (ei l x).2=true then x::iJ (ei l x).1 n p else iJ l (n+1) p
def abz (l:hl):∀p:List dH,iJ l 0 p=[]
 |[]=>rfl|_::_=>rfl
def abA {l:hl}{n:Nat}{p:List dH}{k:Nat}(a:k<p.length):iJ l (n+1) (p.drop k)=if Rt (ei l p[k]).2=true then p[k]::iJ (ei l p[k]).1 n (p.drop (k+1)) else iJ l (n+1) (p.drop (k+1)):=by rw[Vh a,iJ]
def aiL {p:List dH}(d:p.length<=1048576):∀(j k:Nat) (xs:List dH) (l:hl) (n:Nat),k+j=p.length->xs.length<=2->Vd l->j<n ->
  kv F0 (yW F0) n (hO p (k:Int) xs l.1 l.2)=some (xs++iJ l (2-xs.length) (p.drop k),())
 |0,k,xs,l,n+1,g,e,a,h=>by
  obtain rfl:k=p.length:=by omega
  rw[Fk,aE,aa,Hd,Vk];cases 2-xs.length<;>simp[iJ]
 |j+1,k,xs,l,n+1,g,e,a,h=>by
  have b:k<p.length:=by omega
  rw[Fk,aM b,ae,Hd];by_cases o:xs.length<2
  .obtain⟨m,f⟩:∃m,2-xs.length=m+1:=⟨1-xs.length,by omega⟩;have i:KF F0 (l.1,l.2) p[k]=some ((ei l p[k]).1,(ei l p[k]).2,()):=awE (l:=l) (by have:=a.1;omega) (by have:=a.2;omega) _;rw[aL (show(xs.length:Int)<2 by omega),ae,an b,ab,aT b,i,ai,ab,ar (by omega) (by omega) (by first|omega|(simp only[aK,aW,bj];omega)|(rw[bc,bz];omega)),ab,al (by omega),f,abA b];dsimp only;rw[aiL d j (k+1) (xs++[p[k]]) (ei l p[k]).1 n (by omega) (by simp;omega) (aGX a _) (by omega),aiL d j (k+1) xs l n (by omega) e a (by omega),f,show 2-(xs++[p[k]]).length=m by simp;omega];unfold Rt;cases (ei l p[k]).2==0<;>cases (ei l p[k]).2==4<;>simp[br]
  .rw[aQ (show ¬(xs.length:Int)<2 by omega),aa,show 2-xs.length=0 by omega,abz,fh]
def aiM {p:List dH}(e:p.length<=1048576):∀(j k:Nat) (xs:List dH) (l:hl) (n:Nat),k+j=p.length->xs.length<=2->Vd l->j<n ->
  kE F0 (Bc F0) n (hU p (p.length:Int) (k:Int) l.1 l.2 xs)=some (xs++iJ l (2-xs.length) (p.drop k),())
 |0,k,xs,l,n+1,h,f,a,i=>by
  obtain rfl:k=p.length:=by omega
  rw[FM,aE,aa,HM,Vk];cases 2-xs.length<;>simp[iJ]
 |j+1,k,xs,l,n+1,h,f,a,i=>by
  have b:k<p.length:=by omega
  rw[FM,aM b,ae,HM,an b,ab];by_cases s:xs.length<2
  .obtain⟨m,g⟩:∃m,2-xs.length=m+1:=⟨1-xs.length,by omega⟩;have o:LC F0 (l.1,l.2) p[k]=some ((ei l p[k]).1,(ei l p[k]).2,()):=ap0 (l:=l) (by have:=a.1;omega) (by have:=a.2;omega) _;rw[bT.2 (show(xs.length:Int)≠2 by omega),aa,aT b,o,ai,ar (by omega) (by omega) (by first|omega|(simp only[aK,aW,bj];omega)|(rw[bc,bz];omega)),ab,al (by omega),g,abA b];dsimp only;rw[aiM e j (k+1) (xs++[p[k]]) (ei l p[k]).1 n (by omega) (by simp;omega) (aGX a _) (by omega),aiM e j (k+1) xs (ei l p[k]).1 n (by omega) f (aGX a _) (by omega),g,show 2-(xs++[p[k]]).length=m by simp;omega];have d:=aiK (l:=l) (x:=p[k]);unfold Rt at d ⊢;cases q:(ei l p[k]).2==0<;>cases a:(ei l p[k]).2==4<;>simp[br]
   rw[q,a]at d;rw[d rfl]
  .rw[bf.2 (show(xs.length:Int)=2 by omega),ae,show 2-xs.length=0 by omega,abz,fh]
def aw9 {p:List dH}(b:p.length<=1048576){l:hl}(a:Vd l):oS F0 p l=some (iJ l 2 p,()):=by rw[ag3,acN (by have:=a.1;omega) (by have:=a.2;omega),ai];exact aiL b p.length 0 [] l F0.n (by omega) (by simp) a (by rw[bB];omega)
def asU {p:List dH}(a:p.length<=1048576){l:hl}(b:Vd l):o3 F0 p l=some (iJ l 2 p,()):=by rw[ah4];exact aiM a p.length 0 [] l F0.n (by omega) (by simp) b (by rw[bB];omega)
def SR:∀(p:List dH) (l:hl) (n:Nat),(iJ l n p).length<=n
 |[],l,n=>by cases n<;>exact aR _
 |x::p,l,0=>bG _|x::p,l,n+1=>by
  unfold iJ;split
  .rw[aW];have:=SR p (ei l x).1 n;omega
  .exact SR p l (n+1)
def aqI (p:List dH)(l:hl):List dH:=p.filter fun x=>(ei l x).2 != 2
def axa {p:List dH}(e:p.length<=1048576){l:hl}(b:l.1.length<=1048576)(d:l.2.length<=1048576):Ea F0 p l=some (aqI p l,()):=by
 rw[ahj];refine amO (fun n k xs=>oz F0 (z6 F0) n (kV p k l.1 l.2 xs)) p (fun x=>(ei l x).2 != 2) _ (fun n k xs a f=>?_) (fun n=>?_) _ (by rw[bB];omega)
 .rw[Fq,aM a,ae,an a,ab,ab,aT a,show((l.1,l.2):hl)=l from rfl,awE b d,ai,ar (by omega) (by omega) (by first|omega|(simp only[aK,aW,bj];omega)|(rw[bc,bz];omega)),ab,al (by omega)];cases (ei l p[k]).2 != 2<;>rfl
 .rw[Fq,aE,aa,Zq];rfl
def asV {p:List dH}(e:p.length<=1048576){l:hl}(b:l.1.length<=1048576)(d:l.2.length<=1048576):jA F0 p l=some (aqI p l,()):=by
 rw[ah1];refine amO (fun n k xs=>oI F0 (Bb F0) n (la p (p.length:Int) k l.1 l.2 xs)) p (fun x=>(ei l x).2 != 2) _ (fun n k xs a f=>?_) (fun n=>?_) _ (by rw[bB];omega)
 .rw[FL,aM a,ae,an a,ab,aT a,show((l.1,l.2):hl)=l from rfl,ap0 b d,ai,ar (by omega) (by omega) (by first|omega|(simp only[aK,aW,bj];omega)|(rw[bc,bz];omega)),ab,al (by omega)];cases (ei l p[k]).2 != 2<;>rfl
 .rw[FL,aE,aa,ZA];rfl
def dI (c:Int×Int)(view i:Int):List Int:=if 0<=bM c view i then ((List.range c.1.toNat).filter fun k:Nat=>decide (i∈afB c view (k:Int))).map fun k:Nat=>(k:Int) else []
def akn {c:Int×Int}(a:bq c=true)(view i:Int):(dI c view i).length<=7:=by
 have:=b3 a;unfold dI;split
 .rw[nh];have:=amZ (fun k:Nat=>decide (i∈afB c view (k:Int))) (List.range c.1.toNat);rw[S0]at this;omega
 .exact aR _
def azy {γ:Type}(X:Nat->Int->List Int->Option γ)(N:Nat)(p:Nat->Bool)(R:Option γ)(a:∀n k xs,k<N->xs.length<=k->X (n+1) (k:Int) xs=X n ((k+1:Nat):Int) (if p k=true then xs++[(k:Int)] else xs))
  (b:∀n,X (n+1) (N:Int) (((List.range N).filter p).map fun k:Nat=>(k:Int))=R) (n:Nat) (f:N<n):X n 0 []=R:=by
 refine cu X N (fun k xs=>xs=((List.range k).filter p).map fun k:Nat=>(k:Int)) R (fun n k xs d h=>.inr ⟨_,a n k xs d (by rw[h,nh];exact bX (amZ _ _) (by rw[S0];omega)),?_⟩) (fun n xs h=>?_) n 0 [] (aR _) rfl (by omega)
 .rw[List.range_succ,List.filter_append,adr,h];cases e:p k<;>simp[e]
 .rw[h];exact b n
def aFz {c:Int×Int}(b:bq c=true)(view i:Int):Sa F0 c view i=some (dI c view i,()):=by
 have e:=b3 b;have f:(c.1.toNat:Int)=c.1:=by omega
 rw[ar9,ix,ai,b,aN,aa];unfold dI;by_cases a:0<=bM c view i
 .rw[ag a];refine azy (fun n k xs=>zs F0 (KP F0) n (q1 view i k c.1 c.2 xs)) c.1.toNat (fun k:Nat=>decide (i∈afB c view (k:Int))) _ (fun n k xs g h=>?_) (fun n=>?_) F0.n (by rw[bB];omega)
  .rw[zv,aL (show(k:Int)<c.1 by omega),ae,show((c.1,c.2):Int×Int)=c from rfl,X0,ai,aL (show bM c view i>=0 from a),ae,aIN,ai,fC (by have:=atT c view k;dsimp only;omega),ai,ar (by omega) (by omega) (by first|omega|(simp only[aK,aW,bj];omega)|(rw[bc,bz];omega)),ab,al (by omega)];dsimp only;cases decide (i∈afB c view (k:Int))<;>rfl
  .rw[zv,aQ (show ¬(c.1.toNat:Int)<c.1 by omega),aa,Qh]
 .obtain⟨m,d⟩:∃m,F0.n=m+1:=⟨F0.n-1,by rw[bB]⟩;rw[af a,d,zv,aL (show(0:Int)<c.1 by omega),ae,show((c.1,c.2):Int×Int)=c from rfl,X0,ai,aQ (show ¬bM c view i>=0 from a),aa,Qh]
def aB3 {c:Int×Int}(b:bq c=true)(view i:Int):Sm F0 c view i=some (dI c view i,()):=by
 have e:=b3 b;have f:(c.1.toNat:Int)=c.1:=by omega
 rw[asz];unfold dI;by_cases a:0<=bM c view i
 .rw[ag a];refine azy (fun n k xs=>A5 F0 (Lu F0) n (rm view i k c.1 c.2 xs)) c.1.toNat (fun k:Nat=>decide (i∈afB c view (k:Int))) _ (fun n k xs g h=>?_) (fun n=>?_) F0.n (by rw[bB];omega)
  .rw[A6,show((c.1,c.2):Int×Int)=c from rfl,JO,ai,aL (show bM c view i>=0 from a),ae,aL (show(k:Int)<c.1 by omega),ae,aG3,ai,eA (by have:=atT c view k;dsimp only;omega),ai,ar (by omega) (by omega) (by first|omega|(simp only[aK,aW,bj];omega)|(rw[bc,bz];omega)),ab,al (by omega)];dsimp only;cases decide (i∈afB c view (k:Int))<;>rfl
  .rw[A6,show((c.1,c.2):Int×Int)=c from rfl,JO,ai,aL (show bM c view i>=0 from a),ae,aQ (show ¬(c.1.toNat:Int)<c.1 by omega),aa,Q1]
 .obtain⟨m,d⟩:∃m,F0.n=m+1:=⟨F0.n-1,by rw[bB]⟩;rw[af a,d,A6,show((c.1,c.2):Int×Int)=c from rfl,JO,ai,aQ (show ¬bM c view i>=0 from a),aa,Q1]
def Pn {c:Int×Int}{q:bZ}(h:eV c q=true):um q:=⟨(ta h).1.n,(ta h).1.w⟩
def F4 {c:Int×Int}{q:bZ}(h:iy c q=true):q.2.1.size<=1048576/\q.2.2.length<=1000:=⟨(Y0 h).1.n,bX (Y0 h).2.1 (by omega)⟩
def azz {c:Int×Int}{s:bd}(h:bh c s=true):km s:=⟨Pn (cM h).2.2.1,bX (o7 (cM h).2.2.2) (by omega)⟩
def JS {c:Int×Int}{b:cq}(h:fF c b=true):b.1.size<=1048576/\um b.2:=by simp only[fF,aG]at h;exact⟨bX (o7 h.2.1) (by omega),Pn h.1⟩
def fH:um cc:=⟨aR _,aR _⟩
def axb {c:Int×Int}{m:b0}(h:c9 c m=true):fU m:=by
 unfold c9 at h;simp only[aG]at h;obtain⟨i,f,a⟩:=h;have g:=ac0 f;rw[<-g];by_cases b:m.1=1
 .rw[ag (by simpa using b)]at a;have:=JS a;simp only[named,b];exact⟨this.1,this.2,fH,fH⟩
 .by_cases d:m.1=2
  .rw[af (by simpa using b),ag (by simpa using d)]at a;simp only[aG]at a;have:=F4 a.1;simp only[named,d];exact⟨aR _,fH,⟨this.1,by show m.2.2.2.1.2.2.length<=_;omega⟩,fH⟩
  .by_cases e:m.1=3
   .rw[af (by simpa using b),af (by simpa using d),ag (by simpa using e)]at a;simp only[aG]at a;simp only[named,e];exact⟨aR _,fH,fH,Pn a.2.1⟩
   .rw[af (by simpa using b),af (by simpa using d),af (by simpa using e)]at a;simp only[aG,bf]at a;simp only[named,a.1];exact⟨aR _,fH,fH,fH⟩
def aue {U:Type}{d:U}{p:U->Bool}{q:U->U->Bool}{l:List U}(h:X1 d p q l=true):∀x∈l,p x=true:=fun x a=>by obtain⟨k,b,rfl⟩:=ai4 a;exact((aiJ d p q l).1 h).1 k b
def wa {c:Int×Int}{l:List bZ}(h:eS c l=true):aB1 l:=by simp only[eS,aG,bV]at h;exact⟨by omega,fun q a=>F4 (aue h.1 q a)⟩
def ac6 {l:List dH}(h:ff l=true):l.length<=12/\∀x∈l,gn x=true:=by simp only[ff,aG,bV]at h;exact⟨by omega,aue h.1⟩
structure aHo (c:Int×Int) (r:aw):Prop where
 cf:bq c=true
 i:gp 0 (aj (c.1-1)) r.1=true
 v:gp 1 60 r.2.1=true
 a:gp 0 60 r.2.2.1=true
 s:bh c r.2.2.2.1=true
 p:ff r.2.2.2.2.1=true
 t:eS c r.2.2.2.2.2.1=true
 d:fE r.2.2.2.2.2.2.1=true
 n:r.2.2.2.2.2.2.2.length<=30
 h:∀x∈r.2.2.2.2.2.2.2,L6 c r.1 x=true
def Df {c:Int×Int}{r:aw}:mZ c r=true↔aHo c r:=by
 unfold mZ;simp only[aG,ai6,axK,eb];constructor
 .rintro⟨a,b,d,e,f,g,i,j,l,k⟩;exact⟨a,b,d,e,f,g,i,j,by omega,k⟩
 .intro h;exact⟨h.cf,h.i,h.v,h.a,h.s,h.p,h.t,h.d,by have:=h.n;omega,h.h⟩
structure aY (c:Int×Int) (r:aw):Prop where
 f:aHo c r
 b:∀x∈r.2.2.2.2.2.2.1.1,0<=x/\x<=255
def aY.ok {c:Int×Int}{r:aw}(h:aY c r):mZ c r=true:=Df.2 h.f
def azA {c:Int×Int}{i:Int}{x:jB}(h:L6 c i x=true):c9 c x.2=true:=by simp only[L6,aG]at h;exact h.1
def aHo.l {c:Int×Int}{r:aw}(h:aHo c r):aqc r :=
 ⟨azz h.s,bX (ac6 h.p).1 (by omega),bX (wa h.t).1 (by omega),fun q a=>(wa h.t).l a,bX h.n (by omega),fun q a=>axb (azA (h.h q a))⟩
def aY.bt {c:Int×Int}{r:aw}(h:aY c r):aFr r:=⟨h.f.l,⟨bX (cv.1 h.f.d).1 (by omega),h.b⟩⟩
def aY.l {c:Int×Int}{r:aw}(h:aY c r):aqc r:=h.f.l
def Yh (c:Int×Int)(r:aw)(a:Int)(m:b0):Bool:=decide (r.2.2.2.2.2.2.2.length<30)&&(c9 c m&&(gp 0 (aj (c.1-1)) a&& !(a==r.1)))
def wb (r:aw)(p:jB):aw:=(r.1,r.2.1,r.2.2.1,r.2.2.2.1,r.2.2.2.2.1,r.2.2.2.2.2.1,r.2.2.2.2.2.2.1,r.2.2.2.2.2.2.2++[p])
def lQ (c:Int×Int)(r:aw)(a:Int)(m:b0):aw×Bool:=if Yh c r a m=true then (wb r (a,m),true) else (r,false)
def OI {r:aw}(d:r.2.2.2.2.2.2.2.length<=1048576){m:b0}(b:fU m)(c:Int×Int)(a:Int):fu F0 c r a m=some (((lQ c r a m).1,(lQ c r a m).2,()),()):=by
 rw[alo,JQ b,ai,cQ,ai,akh b,ai,ar (by omega) (by omega) (by first|omega|(simp only[aK,aW,bj];omega)|(rw[bc,bz];omega)),ab];unfold lQ Yh;by_cases h:r.2.2.2.2.2.2.2.length<30
 .rw[aQ (show ¬(r.2.2.2.2.2.2.2.length:Int)>=30 by omega),aL h];cases c9 c m<;>cases gp 0 (aj (c.1-1)) a<;>cases (a==r.1)<;>rfl
 .rw[aL (show(r.2.2.2.2.2.2.2.length:Int)>=30 by omega),aQ h];rfl
def aqJ {c:Int×Int}{r:aw}(h:aHo c r)(a:Int)(m:b0):mZ c (wb r (a,m))=Yh c r a m:=by
 unfold Yh;by_cases f:r.2.2.2.2.2.2.2.length<30
 .rw[aL f,eD];have e:(c9 c m&&(gp 0 (aj (c.1-1)) a&& !(a==r.1)))=L6 c r.1 (a,m):=rfl;rw[e];cases g:L6 c r.1 (a,m) with
  |true=>exact Df.2 ⟨h.cf,h.i,h.v,h.a,h.s,h.p,h.t,h.d,by simp[wb];omega,fun x b=>by
    rcases gK.1 b with b|b
    .exact h.h x b
    .rw[fm.1 b];exact g⟩
  |false =>
   cases d:mZ c (wb r (a,m)) with
   |false=>rfl
   |true =>
    have:=(Df.1 d).h (a,m) (by simp[wb]);exact absurd this (by show ¬L6 c r.1 (a,m)=true;rw[g];decide)
 .rw[aQ f];cases d:mZ c (wb r (a,m)) with
  |false=>rfl
  |true =>
   have:=(Df.1 d).n;simp[wb]at this;omega
def aY.told {c:Int×Int}{r:aw}(h:aY c r)(a:Int)(m:b0):aY c (lQ c r a m).1:=by
 unfold lQ;cases b:Yh c r a m with
 |false=>exact h
 |true =>
  have:=aqJ h.f a m;rw[b]at this;exact⟨Df.1 this,h.b⟩
def Y3 {c:Int×Int}{r:aw}(h:aY c r){m:b0}(d:fU m)(a:Int):mR F0 c r a m=some ((lQ c r a m).1,(lQ c r a m).2,()):=by
 have f:=h.f.n;have e:aqc (wb r (a,m)):=⟨h.l.s,h.l.p,h.l.t,h.l.tq,by simp[wb];omega,fun q b=>by
  rcases gK.1 b with b|b
  .exact h.l.hm q b
  .rw[fm.1 b];exact d⟩
 have df:cp F0 c (wb r (a,m))=some (Yh c r a m,()):=by rw[dS e,aqJ h.f]
 rw[awi,dW h.bt,ai,aki d,ai,ar (by omega) (by omega) (by first|omega|(simp only[aK,aW,bj];omega)|(rw[bc,bz];omega)),ab];dsimp only;rw[show((r.1,r.2.1,r.2.2.1,r.2.2.2.1,r.2.2.2.2.1,r.2.2.2.2.2.1,r.2.2.2.2.2.2.1,r.2.2.2.2.2.2.2++[(a,m)]):aw)=wb r (a,m) from rfl,df,ai,ai];unfold lQ;cases Yh c r a m<;>rfl
def put (r:aw)(s:bd):aw:=(r.1,r.2.1,r.2.2.1,s,r.2.2.2.2.1,r.2.2.2.2.2.1,(r.2.2.2.2.2.2.1.1++dA s,r.2.2.2.2.2.2.1.2),r.2.2.2.2.2.2.2)
def h8 (c:Int×Int)(r:aw)(s:bd):aw×Bool :=
 if eN r.2.2.2.1 s=true then (r,true) else if bh c s=true/\r.2.2.2.2.2.2.1.1.length+(dA s).length<=100000 then (put r s,true) else (r,false)
def aqK (c:Int×Int)(s:bd):(Yg c s).length<=12010:=by
 unfold Yg;split
 .rename_i h;exact(aiG h).2
 .exact aR _
def aqL {c:Int×Int}{r:aw}{s:bd}(h:eN r.2.2.2.1 s=true):h8 c r s=(r,true):=ag h
def auf {c:Int×Int}{r:aw}{s:bd}(h:eN r.2.2.2.1 s=false)(a:bh c s=true)(b:r.2.2.2.2.2.2.1.1.length+(dA s).length<=100000):h8 c r s=(put r s,true):=by unfold h8;rw[h,af (by decide),ag ⟨a,b⟩]
def af3 {c:Int×Int}{r:aw}{s:bd}(h:eN r.2.2.2.1 s=false)(a:¬(bh c s=true/\r.2.2.2.2.2.2.1.1.length+(dA s).length<=100000)):h8 c r s=(r,false):=by unfold h8;rw[h,af (by decide),af a]
def af4 {d:oN}{b:List Int}(h:fE d=true)(a:d.1.length+b.length<=100000):OE d b=((d.1++b,d.2),true):=ag ⟨h,a⟩
def aD4 {d:oN}{b:List Int}(a:¬d.1.length+b.length<=100000):OE d b=(d,false):=af fun h=>a h.2
def SS {c:Int×Int}{s:bd}(h:bh c s=true):Yg c s=dA s:=ag h
def aug {c:Int×Int}{s:bd}(h:bh c s=false):Yg c s=[]:=af (by rw[h];decide)
def SU {c:Int×Int}{r:aw}(h:aY c r){s:bd}(b:km s):eI F0 c r s=some (if (h8 c r s).2=true then ((h8 c r s).1,true,abr) else (abr,false,r)):=by
 have f:=aqK c s;have g:=h.bt.d.1;have i:=(cv.1 h.f.d).1;rw[aha,awS h.l.s b,ai,asR b,ai,aBZ g (bX f (by omega)),ai,C7 b,ai,Oz b,ai];cases d:eN r.2.2.2.1 s with
 |true =>
  rw[aqL d];rfl
 |false =>
  cases a:bh c s with
  |false =>
   rw[af3 d (fun h=>by rw[a]at h;cases h.1),aug a,af4 h.f.d (by rw[bj];omega)];rfl
  |true =>
   by_cases e:r.2.2.2.2.2.2.1.1.length+(dA s).length<=100000
   .rw[auf d a e,SS a,af4 h.f.d e];rfl
   .rw[af3 d (fun h=>e h.2),SS a,aD4 e];rfl
def asW (a b:bd):eN a b=eN b a:=by unfold eN;rw[Ov,show(a.1==b.1)=(b.1==a.1) from tr,show(a.2.1==b.2.1)=(b.2.1==a.2.1) from tr,show(a.2.2.2.toList==b.2.2.2.toList)=(b.2.2.2.toList==a.2.2.2.toList) from tr]
def aY.put {c:Int×Int}{r:aw}(h:aY c r){s:bd}(a:bh c s=true)(b:r.2.2.2.2.2.2.1.1.length+(dA s).length<=100000):aY c (put r s):=by
 refine⟨⟨h.f.cf,h.f.i,h.f.v,h.f.a,a,h.f.p,h.f.t,cv.2 ⟨?_,(cv.1 h.f.d).2.1,?_⟩,h.f.n,h.f.h⟩,e8 h.b (azn s)⟩
 .show(r.2.2.2.2.2.2.1.1++dA s).length<=_;rw[aK];exact b
 .show r.2.2.2.2.2.2.1.2<=((r.2.2.2.2.2.2.1.1++dA s).length:Int);have:=(cv.1 h.f.d).2.2;rw[aK];omega
def aY.wrote {c:Int×Int}{r:aw}(h:aY c r)(s:bd):aY c (h8 c r s).1:=by
 unfold h8;split
 .exact h
 .split
  .rename_i a;exact h.put a.1 a.2
  .exact h
def ac7 {c:Int×Int}{r:aw}(h:aY c r){s:bd}(e:km s):wF F0 c r s=some ((h8 c r s).1,(h8 c r s).2,()):=by
 have g:=aqK c s;have i:=h.bt.d.1;have m:=(cv.1 h.f.d).1;rw[asw,dW h.bt,ai,dS h.l,ai,h.ok,aN,aa,Pj e,ai,aqC e,ai,azt i (bX g (by omega)),ai,Jv e,ai,ai,asW];dsimp only;have j:∀d:oN,cp F0 c (r.1,r.2.1,r.2.2.1,s,r.2.2.2.2.1,r.2.2.2.2.2.1,d,r.2.2.2.2.2.2.2)=some (mZ c (r.1,r.2.1,r.2.2.1,s,r.2.2.2.2.1,r.2.2.2.2.2.1,d,r.2.2.2.2.2.2.2),()):=fun d =>
  dS (r:=(r.1,r.2.1,r.2.2.1,s,r.2.2.2.2.1,r.2.2.2.2.2.1,d,r.2.2.2.2.2.2.2)) ⟨e,h.l.p,h.l.t,h.l.tq,h.l.h,h.l.hm⟩ c
 rw[j,ai];cases f:eN r.2.2.2.1 s with
 |true =>
  rw[aqL f];rfl
 |false =>
  cases a:bh c s with
  |false =>
   have bad:∀d:oN,mZ c (r.1,r.2.1,r.2.2.1,s,r.2.2.2.2.1,r.2.2.2.2.2.1,d,r.2.2.2.2.2.2.2)=false:=fun d=>by
    cases k:mZ c (r.1,r.2.1,r.2.2.1,s,r.2.2.2.2.1,r.2.2.2.2.2.1,d,r.2.2.2.2.2.2.2) with
    |false=>rfl
    |true =>
     have:=(Df.1 k).s;exact absurd this (by show ¬bh c s=true;rw[a];decide)
   rw[af3 f (fun h=>by rw[a]at h;cases h.1),aug a,af4 h.f.d (by rw[bj];omega),bad];rfl
  |true =>
   by_cases b:r.2.2.2.2.2.2.1.1.length+(dA s).length<=100000
   .have l:=(h.put a b).ok;rw[auf f a b,SS a,af4 h.f.d b];dsimp only;rw[show mZ c (r.1,r.2.1,r.2.2.1,s,r.2.2.2.2.1,r.2.2.2.2.2.1,(r.2.2.2.2.2.2.1.1++dA s,r.2.2.2.2.2.2.1.2),r.2.2.2.2.2.2.2)=true from l];rfl
   .rw[af3 f (fun h=>b h.2),SS a,aD4 b];rfl
def aB4 {b:ByteArray}(h:(hZ b).2=true):bg (hZ b).1.data.toList=true:=by
 unfold hZ at h ⊢;split at h
 .rename_i a;rw[ag a];have e:bg b.data.toList=true:=by
   unfold JR at a;cases d:(a6 b.data.toList).2 with
   |true=>exact d|false=>rw[XW d]at a;cases a
  show bg (upB (upB b)).data.toList=true;unfold upB;rw[fq,fq];exact Db (Db e)
 .cases h
def aKp {c:Int×Int}{s:bd}(h:bh c s=true)(q:bZ):bh c (SP c s q)=true:=by
 unfold SP;split
 .rename_i a;obtain⟨b,g,d,e⟩:=cM h;have i:=mX (fO q.2.1.data.toList);simp only[bh,gp,aG,bV];refine⟨b,?_,?_,?_⟩
  .unfold tc;split<;>omega
  .unfold OD;split
   .exact a.2
   .exact d
  .split
   .rename_i f;exact aB4 f.1
   .exact e
 .exact h
def tp (r:aw)(v:Int):aw:=(r.1,tc r.2.1 v,r.2.2)
def aY.raised {c:Int×Int}{r:aw}(h:aY c r){v:Int}(a:v<=60):aY c (tp r v):=by refine⟨⟨h.f.cf,h.f.i,?_,h.f.a,h.f.s,h.f.p,h.f.t,h.f.d,h.f.n,h.f.h⟩,h.b⟩;have:=h.f.v;simp only[gp,aG,bV]at this;show gp 1 60 (tc r.2.1 v)=true;simp only[gp,aG,bV];unfold tc;split<;>omega
def kf (v:Int)(q:bZ)(cw:Int):b0:=(3,v,(ak,cc),cc,q,cw,nd)
def BC (p:bZ):b0:=(2,0,(ak,cc),p,cc,0,nd)
def aqM (b:cq):b0:=(1,0,b,cc,cc,0,nd)
def Rx {v:Int}{q:bZ}(h:um q)(cw:Int):fU (kf v q cw):=⟨aR _,fH,fH,h⟩
def aiN {p:bZ}(h:um p):fU (BC p):=⟨aR _,fH,h,fH⟩
def ac8 {b:cq}(a:b.1.size<=1048576)(d:um b.2):fU (aqM b):=⟨a,d,fH,fH⟩
def written (c:Int×Int)(r:aw)(q:bZ):aw×Bool:=h8 c r (SP c r.2.2.2.1 q)
def pX (c:Int×Int)(r:aw)(q:bZ):aw×Bool :=
 if (written c r q).2=true then
  if aj (q.1+1)>60 then ((written c r q).1,true)
  else if b4 c (aj (q.1+1))=r.1 then (tp (written c r q).1 (aj (q.1+1)),true)
  else lQ c (tp (written c r q).1 (aj (q.1+1))) (b4 c (aj (q.1+1))) (kf (aj (q.1+1)) q r.1)
 else (r,false)
def af5 {c:Int×Int}{r:aw}{s:bd}:(h8 c r s).1.1=r.1:=by
 unfold h8;split
 .rfl
 .split<;>rfl
def Yi (c:Int×Int)(p:bZ):Bool:= !dj p.2.1&&eV c p
def auh (b:ByteArray):dj b=decide (b.data.toList=[]):=by
 cases h:dj b with
 |true=>rw[aL ((rE b).1 h)]
 |false =>
  rw[aQ];intro a;rw[(rE b).2 a]at h;cases h
def aFA {p:bZ}(h:um p)(c:Int×Int):Fp F0 c p=some (if Yi c p=true then p else cc,Yi c p,()):=by
 have:=aBr (v:=p.1) (l:=p.2.1.data.toList) (s:=p.2.2) (UO h.1) (bX h.2 (by omega)) c;rw[show((p.1,tx p.2.1.data.toList,p.2.2):bZ)=p from rfl]at this;rw[this];unfold Yi eV XX;rw[auh];by_cases a:p.2.1.data.toList=[]
 .rw[af (fun b=>b.1 a),aL a];rfl
 .rw[aQ a];cases d:ZK c (p.1,p.2.1.data.toList,p.2.2) with
  |true=>rw[ag ⟨a,rfl⟩];rfl|false=>rw[af (fun b=>by cases b.2)];rfl
def aB5 {p:bZ}(h:um p)(c:Int×Int):FK F0 c p=some (if Yi c p=true then p else cc,Yi c p,()):=by
 have:=ayO (v:=p.1) (l:=p.2.1.data.toList) (s:=p.2.2) (UO h.1) (bX h.2 (by omega)) c;rw[show((p.1,tx p.2.1.data.toList,p.2.2):bZ)=p from rfl]at this;rw[this];unfold Yi eV XX;rw[auh];by_cases a:p.2.1.data.toList=[]
 .rw[af (fun b=>b.1 a),aL a];rfl
 .rw[aQ a];cases d:ZK c (p.1,p.2.1.data.toList,p.2.2) with
  |true=>rw[ag ⟨a,rfl⟩];rfl|false=>rw[af (fun b=>by cases b.2)];rfl
def aY.w {c:Int×Int}{r:aw}(h:aY c r)(q:bZ):aY c (written c r q).1:=h.wrote _
def aqN {c:Int×Int}{r:aw}(h:aY c r)(q:bZ):km (SP c r.2.2.2.1 q):=azz (aKp h.f.s q)
def aB6 {c:Int×Int}{r:aw}(h:aY c r){p:bZ}(d:um p):M1 F0 c r p=some (if Yi c p=true then ((pX c r p).1,(pX c r p).2,()) else (r,false,()),()):=by
 rw[aov,aFA d,ai];cases g:Yi c p with
 |false=>rfl
 |true =>
  dsimp only;rw[aN,aa,ag rfl,ag rfl,aw3 h.l.s d,ai,SU h (aqN h p),ai];have e:aY c (written c r p).1:=h.w p;unfold pX;unfold written at e ⊢;generalize h8 c r (SP c r.2.2.2.1 p)=W at e ⊢;cases i:W.2 with
  |false=>rw[af (by decide),af (by decide)];rfl
  |true =>
   have f:fu F0 c (W.1.1,tc W.1.2.1 (aj (p.1+1)),W.1.2.2) (b4 c (aj (p.1+1))) (3,aj (p.1+1),(ak,0,ak,[]),(0,ak,[]),p,r.1,0,0,0,0)=some (((lQ c (tp W.1 (aj (p.1+1))) (b4 c (aj (p.1+1))) (kf (aj (p.1+1)) p r.1)).1,(lQ c (tp W.1 (aj (p.1+1))) (b4 c (aj (p.1+1))) (kf (aj (p.1+1)) p r.1)).2,()),()) :=
    OI (r:=tp W.1 (aj (p.1+1))) (bX e.f.n (by omega)) (Rx (v:=aj (p.1+1)) d r.1) c (b4 c (aj (p.1+1)))
   rw[ag rfl,ag rfl];simp only[ai,L0,De,f,ae];by_cases a:aj (p.1+1)>60
   .rw[aL a,ae,ag a]
   .rw[aQ a,aa,af a];by_cases b:b4 c (aj (p.1+1))=r.1
    .rw[ag b,bf.2 b,ae];rfl
    .rw[af b,bT.2 b,aa]
def aB7 {c:Int×Int}{r:aw}(h:aY c r){q:bZ}(f:um q):Lt F0 c r q=some ((pX c r q).1,(pX c r q).2,()):=by
 have e:aY c (written c r q).1:=h.w q;rw[asx,aqD h.l.s f,ai,ac7 h (aqN h q),ai];unfold pX;unfold written at e ⊢;generalize h8 c r (SP c r.2.2.2.1 q)=W at e ⊢;obtain⟨a,g⟩:=W;cases g with
 |false=>rfl
 |true =>
  show _=some ((if aj (q.1+1)>60 then (a,true) else if b4 c (aj (q.1+1))=r.1 then (tp a (aj (q.1+1)),true) else lQ c (tp a (aj (q.1+1))) (b4 c (aj (q.1+1))) (kf (aj (q.1+1)) q r.1)).1,(if aj (q.1+1)>60 then (a,true) else if b4 c (aj (q.1+1))=r.1 then (tp a (aj (q.1+1)),true) else lQ c (tp a (aj (q.1+1))) (b4 c (aj (q.1+1))) (kf (aj (q.1+1)) q r.1)).2,());by_cases b:aj (q.1+1)>60
  .rw[aL b,ag b];rfl
  .have i:mR F0 c (a.1,(if aj (q.1+1)>a.2.1 then aj (q.1+1) else a.2.1,a.2.2)) (b4 c (aj (q.1+1))) (3,aj (q.1+1),(ak,0,ak,[]),(0,ak,[]),q,r.1,0,0,0,0)=some ((lQ c (tp a (aj (q.1+1))) (b4 c (aj (q.1+1))) (kf (aj (q.1+1)) q r.1)).1,(lQ c (tp a (aj (q.1+1))) (b4 c (aj (q.1+1))) (kf (aj (q.1+1)) q r.1)).2,()) :=
    Y3 (e.raised (v:=aj (q.1+1)) (by omega)) (Rx (v:=aj (q.1+1)) f r.1) (b4 c (aj (q.1+1)))
   rw[aQ b,af b];simp only[ai,JN,i,aa,aN];by_cases d:b4 c (aj (q.1+1))=r.1
   .rw[ag d,show(b4 c (aj (q.1+1)) != r.1)=false by simp[d],aa];rfl
   .rw[af d,show(b4 c (aj (q.1+1)) != r.1)=true by simp[d],ae]
def aY.aJa {c:Int×Int}{r:aw}(h:aY c r)(q:bZ):aY c (pX c r q).1:=by
 unfold pX;split
 .split
  .exact h.w q
  .split
   .exact(h.w q).raised (by omega)
   .exact((h.w q).raised (by omega)).told _ _
 .exact h
def fI (c:Int×Int)(r:aw)(view:Int)(name:ByteArray)(push:Bool):aw×Bool :=
 if (dk r.2.2.2.2.2.1 view name).2.2.length=0\/dj name=true then (r,false)
 else if b4 c view=r.1 then
  if Yi c (dk r.2.2.2.2.2.1 view name)=true/\(pX c r (dk r.2.2.2.2.2.1 view name)).2=true then ((pX c r (dk r.2.2.2.2.2.1 view name)).1,true) else (r,false)
 else if push=false/\cmn (dk r.2.2.2.2.2.1 view name).2.2 (dI c view r.1)<(dI c view r.1).length then (r,false)
 else lQ c r (Rp c view r.1) (BC (dk r.2.2.2.2.2.1 view name))
section
variable {c:Int×Int} {r:aw} {view:Int} {name:ByteArray} {push:Bool} {p:bZ} (hP:dk r.2.2.2.2.2.1 view name=p)
include hP
def af6 (h:p.2.2.length=0\/dj name=true):fI c r view name push=(r,false):=by subst hP;exact ag h
def axc (a:¬(p.2.2.length=0\/dj name=true))(b:b4 c view=r.1)(h:Yi c p=true/\(pX c r p).2=true):fI c r view name push=((pX c r p).1,true):=by subst hP;unfold fI;rw[af a,ag b,ag h]
def af7 (a:¬(p.2.2.length=0\/dj name=true))(b:b4 c view=r.1)(h:¬(Yi c p=true/\(pX c r p).2=true)):fI c r view name push=(r,false):=by subst hP;unfold fI;rw[af a,ag b,af h]
def axd (a:¬(p.2.2.length=0\/dj name=true))(b:¬b4 c view=r.1)(h:push=false/\cmn p.2.2 (dI c view r.1)<(dI c view r.1).length):fI c r view name push=(r,false):=by subst hP;unfold fI;rw[af a,af b,ag h]
def af8 (a:¬(p.2.2.length=0\/dj name=true))(b:¬b4 c view=r.1)(h:¬(push=false/\cmn p.2.2 (dI c view r.1)<(dI c view r.1).length)):fI c r view name push=lQ c r (Rp c view r.1) (BC p):=by subst hP;unfold fI;rw[af a,af b,af h]
end
def azB {l:List bZ}(a:∀q∈l,um q){name:ByteArray}(b:name.size<=1048576)(view:Int):um (dk l view name):=by
 unfold dk;cases h:l.find? (fun x=>(x.1==view)&&(x.2.1.toList==name.toList)) with
 |none=>exact⟨b,aR _⟩|some x=>exact a x (Vg h)
def aY.axe {c:Int×Int}{r:aw}(h:aY c r)(view:Int)(name:ByteArray)(push:Bool):aY c (fI c r view name push).1:=by
 unfold fI;split
 .exact h
 .split
  .split
   .exact h.aJa _
   .exact h
  .split
   .exact h
   .exact h.told _ _
def SV {c:Int×Int}{r:aw}(h:aY c r)(view:Int){name:ByteArray}(n:name.size<=1048576)(push:Bool) :
  ∃x,oV F0 c r view name push=some ((x,(fI c r view name push).2,()),())/\((fI c r view name push).2=true->x=(fI c r view name push).1):=by
 have g:=azB h.l.tq n view;have s:=akn h.f.cf view r.1;have o:=OI (r:=r) (bX h.f.n (by omega)) (aiN g) c (Rp c view r.1);have q:((fu F0 c r (Rp c view r.1) (2,0,(ak,0,ak,[]),dk r.2.2.2.2.2.1 view name,(0,ak,[]),0,0,0,0,0)).bind fun i=>some ((i.1.1,i.1.2.1,()),()))=some (((lQ c r (Rp c view r.1) (BC (dk r.2.2.2.2.2.1 view name))).1,(lQ c r (Rp c view r.1) (BC (dk r.2.2.2.2.2.1 view name))).2,()),()):=by refine B9 (oh (fun x=>Option.bind x _) o) ?_;rfl
 rw[ahe,SQ h.l.t h.l.tq,ai,L0,ai,aB6 h g,ai,aFz h.f.cf,ai,aBs (a:=dI c view r.1) (by omega) g.2,ai,aG1];simp only[ai,q];generalize hP:dk r.2.2.2.2.2.1 view name=p at *;by_cases j:p.2.2.length=0
 .rw[af6 hP (.inl j),show((p.2.2.length:Int)==0)=true from bf.2 (by omega),ae];exact⟨r,rfl,fun h=>by cases h⟩
 .rw[show((p.2.2.length:Int)==0)=false from bT.2 (by omega),aa];cases f:dj name with
  |true =>
   rw[af6 hP (.inr f),show(name.toList==ak.toList)=true from f,ae];exact⟨r,rfl,fun h=>by cases h⟩
  |false =>
   have e:¬(p.2.2.length=0\/dj name=true):=fun b=>b.elim j (by rw[f];decide)
   rw[show(name.toList==ak.toList)=false from f,aa];by_cases d:b4 c view=r.1
   .rw[bf.2 d,ae];cases k:Yi c p with
    |false =>
     rw[af7 hP e d (fun b=>by rw[k]at b;cases b.1)];exact⟨r,rfl,fun h=>by cases h⟩
    |true =>
     cases l:(pX c r p).2 with
     |false =>
      rw[af7 hP e d (fun b=>by rw[l]at b;cases b.2)];exact⟨_,rfl,fun h=>by cases h⟩
     |true =>
      rw[axc hP e d ⟨k,l⟩];exact⟨_,rfl,fun _=>rfl⟩
   .rw[bT.2 d,aa];cases push with
    |true =>
     rw[af8 hP e d (fun b=>by cases b.1)];exact⟨_,rfl,fun _=>rfl⟩
    |false =>
     by_cases m:cmn p.2.2 (dI c view r.1)<(dI c view r.1).length
     .rw[axd hP e d ⟨rfl,m⟩,eh,ae,aL (show(cmn p.2.2 (dI c view r.1):Int)<(dI c view r.1).length by omega),ae];exact⟨r,rfl,fun h=>by cases h⟩
     .rw[af8 hP e d (fun b=>m b.2),eh,ae,aQ (show ¬(cmn p.2.2 (dI c view r.1):Int)<(dI c view r.1).length by omega),aa];exact⟨_,rfl,fun _=>rfl⟩
def aFB {c:Int×Int}{r:aw}(h:aY c r)(view:Int){name:ByteArray}(a:name.size<=1048576)(push:Bool):Sb F0 c r view name push=some (if (fI c r view name push).2=true then ((fI c r view name push).1,true,()) else (r,false,())):=by
 obtain⟨x,b,d⟩:=SV h view a push;rw[ash,hY h.l,ai,h.ok,aN,aa,dV h.bt,ai,b,ai,ai];cases e:(fI c r view name push).2 with
 |true=>rw[d e];rfl|false=>rfl
def ac9 {c:Int×Int}{r:aw}(h:aY c r)(view:Int){name:ByteArray}(n:name.size<=1048576)(push:Bool):n0 F0 c r view name push=some ((fI c r view name push).1,(fI c r view name push).2,()):=by
 have f:=azB h.l.tq n view;have t:=akn h.f.cf view r.1;have o:=Y3 h (aiN f) (Rp c view r.1);have q:((mR F0 c r (Rp c view r.1) (2,0,(ak,0,ak,[]),dk r.2.2.2.2.2.1 view name,(0,ak,[]),0,0,0,0,0)).bind fun i=>some (i.1,i.2.1,()))=some ((lQ c r (Rp c view r.1) (BC (dk r.2.2.2.2.2.1 view name))).1,(lQ c r (Rp c view r.1) (BC (dk r.2.2.2.2.2.1 view name))).2,()):=by refine B9 (oh (fun x=>Option.bind x _) o) ?_;rfl
 have s:Lt F0 c r (if Yi c (dk r.2.2.2.2.2.1 view name)=true then dk r.2.2.2.2.2.1 view name else cc)=some ((pX c r (if Yi c (dk r.2.2.2.2.2.1 view name)=true then dk r.2.2.2.2.2.1 view name else cc)).1,(pX c r (if Yi c (dk r.2.2.2.2.2.1 view name)=true then dk r.2.2.2.2.2.1 view name else cc)).2,()):=aB7 h (by split;exact f;exact fH);rw[asB,aby h.l.t h.l.tq,ai,dW h.bt,ai,dS h.l,ai,h.ok,aN,aa,JN,ai,aB5 f,ai,aB3 h.f.cf,ai,ayT (a:=dI c view r.1) (by omega) f.2,ai,aDU];simp only[ai,q,s];generalize hP:dk r.2.2.2.2.2.1 view name=p at *;by_cases j:p.2.2.length=0
 .rw[af6 hP (.inl j),show((p.2.2.length:Int)==0)=true from bf.2 (by omega),ae]
 .rw[show((p.2.2.length:Int)==0)=false from bT.2 (by omega),aa];cases g:dj name with
  |true =>
   rw[af6 hP (.inr g),show(name.toList==ak.toList)=true from g,ae]
  |false =>
   have e:¬(p.2.2.length=0\/dj name=true):=fun b=>b.elim j (by rw[g];decide)
   rw[show(name.toList==ak.toList)=false from g,aa];by_cases d:b4 c view=r.1
   .rw[bf.2 d,ae];cases k:Yi c p with
    |false =>
     rw[af7 hP e d (fun b=>by rw[k]at b;cases b.1)];rfl
    |true =>
     rw[ag rfl,aN,aa];cases l:(pX c r p).2 with
     |false =>
      rw[af7 hP e d (fun b=>by rw[l]at b;cases b.2)];rfl
     |true =>
      rw[axc hP e d ⟨k,l⟩];rfl
   .rw[bT.2 d,aa];cases push with
    |true =>
     rw[af8 hP e d (fun b=>by cases b.1)];rfl
    |false =>
     by_cases m:cmn p.2.2 (dI c view r.1)<(dI c view r.1).length
     .rw[axd hP e d ⟨rfl,m⟩,eh,ae,aL (show(cmn p.2.2 (dI c view r.1):Int)<(dI c view r.1).length by omega),ae]
     .rw[af8 hP e d (fun b=>m b.2),eh,ae,aQ (show ¬(cmn p.2.2 (dI c view r.1):Int)<(dI c view r.1).length by omega),aa]
def aD5:cq:=(ak,cc)
def Ry (q:bZ)(view:Int)(l:List dH):ByteArray:=tx (SK q.2.1.data.toList view l)
def iK (c:Int×Int)(q:bZ)(view:Int)(l:List dH):cq×Bool:=if fF c (Ry q view l,q)=true/\aD (Ry q view l).data.toList=view then ((Ry q view l,q),true) else (aD5,false)
def aqO {c:Int×Int}{q:bZ}(a:eV c q=true){view:Int}(b:I64 view){l:List dH}(d:l.length<=100):(Ry q view l).size<=1048576:=by have e:=(ta a).2.2;have f:=at7 (up:=q.2.1.data.toList) b l;unfold Ry;rw[bD];have:q.2.1.data.toList.length=q.2.1.size:=rfl;omega
def Y4 (a b:Int):(a != b)= !decide (a=b):=by
 by_cases h:a=b
 .simp[h]
 .simp[h]
def af9 {c:Int×Int}{q:bZ}(a:eV c q=true){view:Int}(d:I64 view){l:List dH}(f:l.length<=100):oT F0 c q view l=some ((iK c q view l).1,(iK c q view l).2,()):=by
 have j:=(ta a).2.2;have e:=aqO a d f;have g:kS F0 q.2.1 view l=some (Ry q view l,()):=aqs (up:=q.2.1.data.toList) (by show q.2.1.size<=_;omega) d (by omega);rw[ag6,g,ai,wL (Pn a).2,ai,Ow (b:=(Ry q view l,q)) e (Pn a),ai,o5 e,ai];unfold iK;dsimp only;rw[Y4];cases fF c (Ry q view l,q) with
 |false=>rw[af (fun h=>by cases h.1)];rfl
 |true =>
  by_cases h:aD (Ry q view l).data.toList=view
  .rw[ag ⟨rfl,h⟩,aL h];rfl
  .rw[af (fun i=>h i.2),aQ h];rfl
def asX {c:Int×Int}{q:bZ}(a:eV c q=true){view:Int}(d:I64 view){l:List dH}(i:l.length<=2):uj F0 c q view l=some ((iK c q view l).1,(iK c q view l).2,()):=by
 have j:=(ta a).2.2;have e:=aqO a d (l:=l) (by omega);have f:FN F0 q.2.1 view l=some (Ry q view l,()):=azg (up:=q.2.1.data.toList) (by show q.2.1.size<=_;omega) d (by omega);rw[ah7,f,ai,x1 (Pn a).2,ai,Jr (b:=(Ry q view l,q)) e (Pn a),ai,rB e,ai];unfold iK;dsimp only;rw[Y4];cases fF c (Ry q view l,q) with
 |false=>rw[af (fun h=>by cases h.1)];rfl
 |true =>
  by_cases h:aD (Ry q view l).data.toList=view
  .rw[ag ⟨rfl,h⟩,aL h];rfl
  .rw[af (fun g=>h g.2),aQ h];rfl
def azC {c:Int×Int}{q:bZ}{view:Int}{l:List dH}(h:(iK c q view l).2=true):fF c (iK c q view l).1=true/\aD (iK c q view l).1.1.data.toList=view/\(iK c q view l).1.2=q:=by
 unfold iK at h ⊢;split at h
 .rename_i a;rw[ag a];exact⟨a.1,a.2,rfl⟩
 .cases h
def OJ (c:Int×Int)(l:List bZ)(view:Int):Bool:=decide (((dk l view ak).2.2.length:Int)>=tH c)
def aD6 (c:Int×Int)(r:aw):Bool:=decide (b4 c r.2.1=r.1)&&(!decide (r.2.2.1>=r.2.1)&&(decide (r.2.2.2.1.2.2.1.1=aj (r.2.1-1)) || OJ c r.2.2.2.2.2.1 r.2.1))
def aiO (r:aw):List dH:=iJ (eX Sw (Ve r.2.2.2.1.2.2.1.2.1)) 2 r.2.2.2.2.1
def ask (c:Int×Int)(r:aw):cq×Bool:=if aD6 c r=true then iK c r.2.2.2.1.2.2.1 r.2.1 (aiO r) else (aD5,false)
def aY.view {c:Int×Int}{r:aw}(h:aY c r):1<=r.2.1/\r.2.1<=60:=by have:=h.f.v;simp only[gp,aG,bV]at this;exact this
def aHp (a b:Int):decide (a<b)= !decide (a>=b):=by
 by_cases h:a<b
 .rw[aL h,aQ (by omega)];rfl
 .rw[aQ h,aL (by omega)];rfl
def aqP (r:aw):(aiO r).length<=2:=SR _ _ _
def aD7 {c:Int×Int}{r:aw}(h:aY c r):Wt F0 c r=some ((ask c r).1,(ask c r).2,()):=by have g:=h.view;have a:=(cM h.f.s).2.2.1;have b:Vd (eX Sw (Ve r.2.2.2.1.2.2.1.2.1)):=Jp Ma;have d:=af9 (c:=c) (q:=r.2.2.2.1.2.2.1) a (view:=r.2.1) ⟨by omega,by omega⟩ (l:=aiO r) (by have:=aqP r;omega);have e:oS F0 r.2.2.2.2.1 (eX Sw (Ve r.2.2.2.1.2.2.1.2.1))=some (aiO r,()):=aw9 h.l.p b;have f:um r.2.2.2.1.2.2.1:=h.l.s.1;rw[ays,hY h.l,ai,h.ok,aN,aa,L0,ai,SQ h.l.t h.l.tq,ai,acP,ai,abo,ai,azb f.1,ai,ap1 Ma (bX (Bx _) (by omega))];simp only[ai,e,d];unfold ask aD6 OJ;rw[Y4,Y4,aHp];cases decide (b4 c r.2.1=r.1)<;>cases decide (r.2.2.1>=r.2.1)<;>cases decide (r.2.2.2.1.2.2.1.1=aj (r.2.1-1))<;>cases decide (((dk r.2.2.2.2.2.1 r.2.1 ak).2.2.length:Int)>=tH c)<;>rfl
def aqQ {c:Int×Int}{r:aw}(h:aqc r)(view:Int):sS F0 c r view=some (OJ c r.2.2.2.2.2.1 view,()):=by rw[awm,aby h.t h.tq,ai,aj7,ai];rfl
def aHq {c:Int×Int}{r:aw}(h:aY c r):afl F0 c r=some ((ask c r).1,(ask c r).2,()):=by have g:=h.view;have a:=(cM h.f.s).2.2.1;have b:Vd (eX Sw (Ve r.2.2.2.1.2.2.1.2.1)):=Jp Ma;have d:=asX (c:=c) (q:=r.2.2.2.1.2.2.1) a (view:=r.2.1) ⟨by omega,by omega⟩ (l:=aiO r) (aqP r);have e:o3 F0 r.2.2.2.2.1 (eX Sw (Ve r.2.2.2.1.2.2.1.2.1))=some (aiO r,()):=asU h.l.p b;have f:um r.2.2.2.1.2.2.1:=h.l.s.1;rw[ayB,dS h.l,ai,h.ok,aN,aa,JN,ai,aqQ h.l,ai,LX,ai,aiy f.1,ai,X8 Ma (bX (Bx _) (by omega))];simp only[ai,e,d];unfold ask aD6;rw[Y4,Y4];cases decide (b4 c r.2.1=r.1)<;>cases decide (r.2.2.1>=r.2.1)<;>cases decide (r.2.2.2.1.2.2.1.1=aj (r.2.1-1))<;>cases OJ c r.2.2.2.2.2.1 r.2.1<;>rfl
def aHr {c:Int×Int}{r:aw}(h:(ask c r).2=true):aD6 c r=true/\fF c (ask c r).1=true/\aD (ask c r).1.1.data.toList=r.2.1/\(ask c r).1.2=r.2.2.2.1.2.2.1:=by
 unfold ask at h ⊢;split at h
 .rename_i a;rw[ag a];exact⟨a,azC h⟩
 .cases h
def HZ (r:aw):aw:=(r.1,r.2.1,r.2.2.1,r.2.2.2.1,r.2.2.2.2.1,r.2.2.2.2.2.1,hD r.2.2.2.2.2.2.1,[])
def azD {c:Int×Int}{r:aw}(h:aY c r):II F0 c r=some (HZ r,r.2.2.2.2.2.2.2,()):=by rw[alz,dV h.bt,ai,hY h.l,ai,h.ok,aN,aa,aHl h.bt.d.1,ai,afX h.l.h h.l.hm,ai];rfl
def axf {c:Int×Int}{r:aw}(h:aY c r):I1 F0 c r=some (HZ r,r.2.2.2.2.2.2.2,()):=by rw[alY,dW h.bt,ai,dS h.l,ai,h.ok,aN,aa,aFv h.bt.d.1,ai];rfl
def azE {d:oN}(h:fE d=true):fE (hD d)=true:=by unfold hD;rw[ag h];have:=cv.1 h;exact cv.2 ⟨this.1,by dsimp only;omega,by dsimp only;omega⟩
def axg (d:oN):(hD d).1=d.1:=by unfold hD;split<;>rfl
def aY.HZ {c:Int×Int}{r:aw}(h:aY c r):aY c (HZ r) :=
 ⟨⟨h.f.cf,h.f.i,h.f.v,h.f.a,h.f.s,h.f.p,h.f.t,azE h.f.d,aR _,fun x a=>by cases a⟩,by show ∀x∈(hD r.2.2.2.2.2.2.1).1,_;rw[axg];exact h.b⟩
def kg (r:aw)(v:Int):aw:=(r.1,v,r.2.2)
def fJ (r:aw)(t:List bZ):aw:=(r.1,r.2.1,r.2.2.1,r.2.2.2.1,r.2.2.2.2.1,t,r.2.2.2.2.2.2)
def aY.kg {c:Int×Int}{r:aw}(h:aY c r){v:Int}(a:1<=v)(b:v<=60):aY c (kg r v) :=
 ⟨⟨h.f.cf,h.f.i,by show gp 1 60 v=true;simp[gp,a,b],h.f.a,h.f.s,h.f.p,h.f.t,h.f.d,h.f.n,h.f.h⟩,h.b⟩
def aY.fJ {c:Int×Int}{r:aw}(h:aY c r){t:List bZ}(a:eS c t=true):aY c (fJ r t) :=
 ⟨⟨h.f.cf,h.f.i,h.f.v,h.f.a,h.f.s,h.f.p,a,h.f.d,h.f.n,h.f.h⟩,h.b⟩
def o8 {c:Int×Int}{l:List bZ}(h:eS c l=true)(p:bZ):eS c (bs c l p).1=true:=by
 unfold bs;split
 .rename_i a;exact a.2
 .exact h
def one (v:Int)(name:ByteArray)(i:Int):bZ:=(v,name,[i])
def B7 (c:Int×Int)(r:aw):aw×Bool :=
 if r.2.1>=60 then (r,false)
 else if b4 c (aj (r.2.1+1))=r.1 then
  if (bs c r.2.2.2.2.2.1 (one (aj (r.2.1+1)) ak r.1)).2=true then (fJ (kg r (aj (r.2.1+1))) (bs c r.2.2.2.2.2.1 (one (aj (r.2.1+1)) ak r.1)).1,true) else (r,false)
 else if (lQ c (kg r (aj (r.2.1+1))) (b4 c (aj (r.2.1+1))) (kf (aj (r.2.1+1)) r.2.2.2.1.2.2.1 r.1)).2=true then ((lQ c (kg r (aj (r.2.1+1))) (b4 c (aj (r.2.1+1))) (kf (aj (r.2.1+1)) r.2.2.2.1.2.2.1 r.1)).1,true) else (r,false)
def aHs {c:Int×Int}{r:aw}(h:aY c r):YH F0 c r=some ((B7 c r).1,(B7 c r).2,()):=by
 have f:=h.view;have g:=(cM h.f.s).2.2.1;have d:fk F0 c r.2.2.2.2.2.1 (aj (r.2.1+1),ak,[r.1])=some ((bs c r.2.2.2.2.2.1 (one (aj (r.2.1+1)) ak r.1)).1,(bs c r.2.2.2.2.2.1 (one (aj (r.2.1+1)) ak r.1)).2,()):=Jy (wa h.f.t) ⟨aR _,by show 1<=1000;omega⟩ c;have e:fu F0 c (r.1,aj (r.2.1+1),r.2.2) (b4 c (aj (r.2.1+1))) (3,aj (r.2.1+1),(ak,0,ak,[]),(0,ak,[]),r.2.2.2.1.2.2.1,r.1,0,0,0,0)=some (((lQ c (kg r (aj (r.2.1+1))) (b4 c (aj (r.2.1+1))) (kf (aj (r.2.1+1)) r.2.2.2.1.2.2.1 r.1)).1,(lQ c (kg r (aj (r.2.1+1))) (b4 c (aj (r.2.1+1))) (kf (aj (r.2.1+1)) r.2.2.2.1.2.2.1 r.1)).2,()),()) :=
  OI (r:=kg r (aj (r.2.1+1))) h.l.h (Rx h.l.s.1 r.1) c _
 rw[av2,dV h.bt,ai,hY h.l,ai,h.ok,aN,aa,L0,ai];simp only[ai,d,e];unfold B7;by_cases a:r.2.1>=60
 .rw[ag a,aL a,ae]
 .rw[af a,aQ a,aa];by_cases b:b4 c (aj (r.2.1+1))=r.1
  .rw[ag b,bf.2 b,ae];cases (bs c r.2.2.2.2.2.1 (one (aj (r.2.1+1)) ak r.1)).2<;>rfl
  .rw[af b,bT.2 b,aa];cases (lQ c (kg r (aj (r.2.1+1))) (b4 c (aj (r.2.1+1))) (kf (aj (r.2.1+1)) r.2.2.2.1.2.2.1 r.1)).2<;>rfl
def aFC {c:Int×Int}{r:aw}(h:aY c r):YO F0 c r=some ((B7 c r).1,(B7 c r).2,()):=by
 have f:=h.view;have d:eK F0 c r.2.2.2.2.2.1 (aj (r.2.1+1),ak,[r.1])=some ((bs c r.2.2.2.2.2.1 (one (aj (r.2.1+1)) ak r.1)).1,(bs c r.2.2.2.2.2.1 (one (aj (r.2.1+1)) ak r.1)).2,()):=EX (wa h.f.t) ⟨aR _,by show 1<=1000;omega⟩ c;rw[awo,dW h.bt,ai,dS h.l,ai,h.ok,aN,aa];unfold B7;by_cases b:r.2.1>=60
 .rw[ag b,bf.2 (show r.2.1=60 by omega),ae]
 .have g:aj (r.2.1+1)=r.2.1+1:=aI (by omega) (by omega);have e:mR F0 c (r.1,aj (r.2.1+1),r.2.2) (b4 c (aj (r.2.1+1))) (3,aj (r.2.1+1),(ak,0,ak,[]),(0,ak,[]),r.2.2.2.1.2.2.1,r.1,0,0,0,0)=some ((lQ c (kg r (aj (r.2.1+1))) (b4 c (aj (r.2.1+1))) (kf (aj (r.2.1+1)) r.2.2.2.1.2.2.1 r.1)).1,(lQ c (kg r (aj (r.2.1+1))) (b4 c (aj (r.2.1+1))) (kf (aj (r.2.1+1)) r.2.2.2.1.2.2.1 r.1)).2,()) :=
   Y3 (h.kg (v:=aj (r.2.1+1)) (by omega) (by omega)) (Rx h.l.s.1 r.1) _
  rw[af b,bT.2 (show r.2.1≠60 by omega),aa];simp only[ai,d,e,JN];by_cases a:b4 c (aj (r.2.1+1))=r.1
  .rw[ag a,bf.2 a,ae];cases (bs c r.2.2.2.2.2.1 (one (aj (r.2.1+1)) ak r.1)).2<;>rfl
  .rw[af a,bT.2 a,aa];cases (lQ c (kg r (aj (r.2.1+1))) (b4 c (aj (r.2.1+1))) (kf (aj (r.2.1+1)) r.2.2.2.1.2.2.1 r.1)).2<;>rfl
def aY.aLj {c:Int×Int}{r:aw}(h:aY c r):aY c (B7 c r).1:=by
 have b:=h.view;unfold B7;split
 .exact h
 .rename_i d;have e:aj (r.2.1+1)=r.2.1+1:=aI (by omega) (by omega);have a:=h.kg (v:=aj (r.2.1+1)) (by omega) (by omega);split
  .split
   .exact a.fJ (o8 h.f.t _)
   .exact h
  .split
   .exact a.told _ _
   .exact h
def rF (c:Int×Int)(r:aw)(m:b0):Nat->Nat->aw->aw×Bool
 |0,_,a=>(a,true)|j+1,k,a=>if (k:Int)=r.1 then rF c r m j (k+1) a else if (lQ c a (k:Int) m).2=true then rF c r m j (k+1) (lQ c a (k:Int) m).1 else (r,false)
def SW (c:Int×Int)(r:aw)(m:b0):aw×Bool:=rF c r m c.1.toNat 0 r
def aqR {c:Int×Int}{r:aw}(h:aY c r)(m:b0):∀(j k:Nat) (o:aw),aY c o->aY c (rF c r m j k o).1
 |0,_,_,a=>a|j+1,k,o,a=>by
  unfold rF;split
  .exact aqR h m j (k+1) o a
  .split
   .exact aqR h m j (k+1) _ (a.told _ _)
   .exact h
def aY.aJb {c:Int×Int}{r:aw}(h:aY c r)(m:b0):aY c (SW c r m).1:=aqR h m _ _ _ h
def aiP {c:Int×Int}{r:aw}(h:aY c r){m:b0}(d:fU m):∀(j k:Nat) (z:aw) (n:Nat),(k:Int)+j=c.1->aY c z->j<n->c.1<=100 ->
  q3 F0 (si F0) n (mw (k:Int) c.1 c.2 r.1 r.2.1 r.2.2.1 r.2.2.2.1.1 r.2.2.2.1.2.1 r.2.2.2.1.2.2.1.1 r.2.2.2.1.2.2.1.2.1 r.2.2.2.1.2.2.1.2.2 r.2.2.2.1.2.2.2 r.2.2.2.2.1 r.2.2.2.2.2.1 r.2.2.2.2.2.2.1.1 r.2.2.2.2.2.2.1.2 r.2.2.2.2.2.2.2 m.1 m.2.1 m.2.2.1.1 m.2.2.1.2.1 m.2.2.1.2.2.1 m.2.2.1.2.2.2 m.2.2.2.1.1 m.2.2.2.1.2.1 m.2.2.2.1.2.2 m.2.2.2.2.1.1 m.2.2.2.2.1.2.1 m.2.2.2.2.1.2.2 m.2.2.2.2.2.1 m.2.2.2.2.2.2.1 m.2.2.2.2.2.2.2.1 m.2.2.2.2.2.2.2.2.1 m.2.2.2.2.2.2.2.2.2 0 0 0 0 0 0 ak ak 0 z.1 z.2.1 z.2.2.1 z.2.2.2.1.1 z.2.2.2.1.2.1 z.2.2.2.1.2.2.1.1 z.2.2.2.1.2.2.1.2.1 z.2.2.2.1.2.2.2 z.2.2.2.2.2.2.1.2 [] [] [] [] [] z.2.2.2.1.2.2.1.2.2 z.2.2.2.2.1 z.2.2.2.2.2.1 z.2.2.2.2.2.2.1.1 z.2.2.2.2.2.2.2)
   = some ((rF c r m j k z).1,(rF c r m j k z).2,())
 |0,k,z,n+1,f,a,g,e=>by rw[Hp,aQ (show ¬(k:Int)<c.1 by omega),aa,acj];rfl
 |j+1,k,z,n+1,f,a,g,e=>by
  have i:=OI (r:=z) a.l.h d c (k:Int);have l:=dV h.bt;rw[Hp,aL (show(k:Int)<c.1 by omega),ae,show((c.1,c.2):Int×Int)=c from rfl];refine B9 (oh (fun x=>br ((k:Int)==r.1) _ (Option.bind x _)) i) ?_;rw[ai];dsimp only;unfold rF;by_cases b:(k:Int)=r.1
  .rw[ag b,bf.2 b,ae,al (by omega)];exact aiP h d j (k+1) z n (by omega) a (by omega) e
  .rw[af b,bT.2 b,aa];cases o:(lQ c z (k:Int) m).2 with
   |true =>
    rw[aN,aa,ag rfl,al (by omega)];exact aiP h d j (k+1) _ n (by omega) (a.told _ _) (by omega) e
   |false =>
    rw[eh,ae,af (by decide)];refine B9 (oh (fun x=>Option.bind x _) l) ?_;rw[ai,aeA]
def azF {c:Int×Int}{r:aw}(h:aY c r){m:b0}(a:fU m):Ag F0 c r m=some ((SW c r m).1,(SW c r m).2,()):=by have b:=b3 h.f.cf;rw[alx,dV h.bt,ai,hY h.l,ai,h.ok,aN,aa];exact aiP h a c.1.toNat 0 r F0.n (by omega) h (by rw[bB];omega) (by omega)
def ada {c:Int×Int}{r:aw}(h:aY c r){m:b0}(d:fU m):∀(j k:Nat) (z:aw) (n:Nat),(k:Int)+j=c.1->aY c z->j<n->c.1<=100 ->
  rv F0 (s4 F0) n (mT (k:Int) c.1 c.2 r.1 r.2.1 r.2.2.1 r.2.2.2.1.1 r.2.2.2.1.2.1 r.2.2.2.1.2.2.1.1 r.2.2.2.1.2.2.1.2.1 r.2.2.2.1.2.2.1.2.2 r.2.2.2.1.2.2.2 r.2.2.2.2.1 r.2.2.2.2.2.1 r.2.2.2.2.2.2.1.1 r.2.2.2.2.2.2.1.2 r.2.2.2.2.2.2.2 m.1 m.2.1 m.2.2.1.1 m.2.2.1.2.1 m.2.2.1.2.2.1 m.2.2.1.2.2.2 m.2.2.2.1.1 m.2.2.2.1.2.1 m.2.2.2.1.2.2 m.2.2.2.2.1.1 m.2.2.2.2.1.2.1 m.2.2.2.2.1.2.2 m.2.2.2.2.2.1 m.2.2.2.2.2.2.1 m.2.2.2.2.2.2.2.1 m.2.2.2.2.2.2.2.2.1 m.2.2.2.2.2.2.2.2.2 0 0 0 0 0 0 ak ak 0 z.1 z.2.1 z.2.2.1 z.2.2.2.1.1 z.2.2.2.1.2.1 z.2.2.2.1.2.2.1.1 z.2.2.2.1.2.2.1.2.1 z.2.2.2.1.2.2.2 z.2.2.2.2.2.2.1.2 [] [] [] [] [] z.2.2.2.1.2.2.1.2.2 z.2.2.2.2.1 z.2.2.2.2.2.1 z.2.2.2.2.2.2.1.1 z.2.2.2.2.2.2.2)
   = some ((rF c r m j k z).1,(rF c r m j k z).2,())
 |0,k,z,n+1,f,a,g,e=>by rw[HO,aQ (show ¬(k:Int)<c.1 by omega),aa,acE];rfl
 |j+1,k,z,n+1,f,a,g,e=>by
  have i:=Y3 a d (k:Int);have l:=dW h.bt;rw[HO,aL (show(k:Int)<c.1 by omega),ae,show((c.1,c.2):Int×Int)=c from rfl];refine B9 (oh (fun x=>br ((k:Int)==r.1) _ (Option.bind x _)) i) ?_;rw[ai];dsimp only;unfold rF;by_cases b:(k:Int)=r.1
  .rw[ag b,bf.2 b,ae,al (by omega)];exact ada h d j (k+1) z n (by omega) a (by omega) e
  .rw[af b,bT.2 b,aa];cases o:(lQ c z (k:Int) m).2 with
   |true =>
    rw[aN,aa,ag rfl,al (by omega)];exact ada h d j (k+1) _ n (by omega) (a.told _ _) (by omega) e
   |false =>
    rw[eh,ae,af (by decide)];refine B9 (oh (fun x=>Option.bind x _) l) ?_;rw[ai,afn]
def axh {c:Int×Int}{r:aw}(h:aY c r){m:b0}(a:fU m):Bi F0 c r m=some ((SW c r m).1,(SW c r m).2,()):=by have b:=b3 h.f.cf;rw[amk,dW h.bt,ai,dS h.l,ai,h.ok,aN,aa];exact ada h a c.1.toNat 0 r F0.n (by omega) h (by rw[bB];omega) (by omega)
def aga {U:Type}{d:U}{p:U->Bool}{q:U->U->Bool}(j:∀a b c,q a b=true->q b c=true->q a c=true){l:List U}(h:X1 d p q l=true)(f:U->Bool):X1 d p q (l.filter f)=true:=by
 rw[aiJ]at h ⊢;have m:l.Pairwise fun a b=>q a b=true:=aAt.2 fun i n g o s=>aw7 j h.2 n s o
 have t:=m.filter f;refine⟨fun k e=>?_,fun k e=>aAt.1 t k (k+1) (by omega) e (by omega)⟩;have u:=(List.mem_filter.1 (bH e)).1;obtain⟨i,g,v⟩:=ai4 u;rw[<-v];exact h.1 i g
def aqS:∀{a b c:List UInt8},Op.bytesLess a b=true->Op.bytesLess b c=true->Op.bytesLess a c=true
 |[],[],_,h,_=>by cases h
 |_::_,[],_,h,_=>by cases h
 |_,_::_,[],_,h=>by cases h
 |[],_::_,_::_,_,_=>rfl|x::a,y::b,z::c,e,d=>by
  simp only[Op.bytesLess,kj,aG,bV,bf]at e d ⊢;rcases e with e|⟨rfl,e⟩
  .rcases d with d|⟨rfl,d⟩
   .exact .inl (UInt8.lt_trans e d)
   .exact .inl e
  .rcases d with d|⟨rfl,d⟩
   .exact .inl d
   .exact .inr ⟨rfl,aqS e d⟩
def asY (a b c:bZ)(e:fD a b=true)(d:fD b c=true):fD a c=true:=by
 simp only[fD,kj,aG,bV,bf]at *;rcases e with e|⟨g,e⟩
 .rcases d with d|⟨f,d⟩
  .exact .inl (by omega)
  .exact .inl (by omega)
 .rcases d with d|⟨f,d⟩
  .exact .inl (by omega)
  .exact .inr ⟨by omega,aqS e d⟩
def aqT {c:Int×Int}{l:List bZ}(h:eS c l=true)(f:bZ->Bool):eS c (l.filter f)=true:=by simp only[eS,aG,bV]at h ⊢;have:=amZ f l;exact⟨aga asY h.1 f,by omega⟩
def asZ {l:List dH}(h:ff l=true)(f:dH->Bool):ff (l.filter f)=true:=by simp only[ff,aG,bV]at h ⊢;have:=amZ f l;exact⟨aga (q:=fj) (fun a b c d e=>OH d e) h.1 f,by omega⟩
def aB8 {l:List dH}(h:ff l=true)(x:dH):ff (lW l x).1=true:=by
 unfold lW;split
 .rename_i a;exact a
 .exact h
def nu (b:cq):Int:=aD b.1.data.toList
def own (c:Int×Int)(r:aw)(name:ByteArray):aw×Bool :=
 if (bs c r.2.2.2.2.2.1 (one (aD name.data.toList) name r.1)).2=true then ((fI c (fJ r (bs c r.2.2.2.2.2.1 (one (aD name.data.toList) name r.1)).1) (aD name.data.toList) name false).1,true) else (r,false)
def aJc {c:Int×Int}{r:aw}{a:Int}{m:b0}(h:(lQ c r a m).2=false):(lQ c r a m).1=r:=by
 unfold lQ at h ⊢;cases b:Yh c r a m with
 |true=>rw[b,ag rfl]at h;cases h|false=>rfl
def azG {c:Int×Int}{r:aw}{view:Int}{name:ByteArray}{push:Bool}(h:(fI c r view name push).2=false):(fI c r view name push).1=r:=by
 by_cases a:(dk r.2.2.2.2.2.1 view name).2.2.length=0\/dj name=true
 .rw[af6 rfl a]
 .by_cases d:b4 c view=r.1
  .by_cases b:Yi c (dk r.2.2.2.2.2.1 view name)=true/\(pX c r (dk r.2.2.2.2.2.1 view name)).2=true
   .rw[axc rfl a d b]at h;cases h
   .rw[af7 rfl a d b]
  .by_cases b:push=false/\cmn (dk r.2.2.2.2.2.1 view name).2.2 (dI c view r.1)<(dI c view r.1).length
   .rw[axd rfl a d b]
   .rw[af8 rfl a d b]at h ⊢;exact aJc h
def aY.owned {c:Int×Int}{r:aw}(h:aY c r)(name:ByteArray):aY c (own c r name).1:=by
 unfold own;split
 .exact(h.fJ (o8 h.f.t _)).axe _ _ _
 .exact h
def aB9 {c:Int×Int}{r:aw}(h:aY c r){name:ByteArray}(a:name.size<=1048576):np F0 c r name=some (((own c r name).1,(own c r name).2,()),()):=by
 have e:fk F0 c r.2.2.2.2.2.1 (aD name.data.toList,name,[r.1])=some ((bs c r.2.2.2.2.2.1 (one (aD name.data.toList) name r.1)).1,(bs c r.2.2.2.2.2.1 (one (aD name.data.toList) name r.1)).2,()):=Jy (wa h.f.t) ⟨a,by show 1<=1000;omega⟩ c;have b:=h.fJ (o8 h.f.t (one (aD name.data.toList) name r.1));have f:ba F0 (r.1,r.2.1,r.2.2.1,r.2.2.2.1,r.2.2.2.2.1,(bs c r.2.2.2.2.2.1 (one (aD name.data.toList) name r.1)).1,r.2.2.2.2.2.2)=some (fJ r (bs c r.2.2.2.2.2.1 (one (aD name.data.toList) name r.1)).1,()):=dV b.bt;obtain⟨x,g,i⟩:=SV b (aD name.data.toList) a false;rw[aoB,o5 a];simp only[ai,e,f,g,o5 a];unfold own;cases j:(bs c r.2.2.2.2.2.1 (one (aD name.data.toList) name r.1)).2 with
 |false=>rfl
 |true =>
  rw[ag rfl,aN,aa];cases d:(fI c (fJ r (bs c r.2.2.2.2.2.1 (one (aD name.data.toList) name r.1)).1) (aD name.data.toList) name false).2 with
  |true=>rw[i d];rfl|false=>rw[azG d];rfl
def jD (r:aw)(b:cq):aw:=if nu b>=r.2.1 then kg r (nu b) else r
def iY (c:Int×Int)(r:aw)(b:cq):Bool:=decide (nu b>=r.2.1)&&h7 c (SP c r.2.2.2.1 b.2) b
def tI (c:Int×Int)(r:aw)(b:cq):bd:=if iY c r b=true then (nu b,(SP c r.2.2.2.1 b.2).2) else SP c r.2.2.2.1 b.2
def B8 (c:Int×Int)(r:aw)(b:cq)(a:Bool)(W:aw×Bool):aw×Bool :=
 if W.2=true then (if a=true then (if (own c W.1 b.1).2=true then ((own c W.1 b.1).1,true) else (r,false)) else (W.1,true)) else (r,false)
def e9 (c:Int×Int)(r:aw)(b:cq):aw×Bool:=B8 c r b (iY c r b) (h8 c (jD r b) (tI c r b))
def aY.jD {c:Int×Int}{r:aw}(h:aY c r)(b:cq):aY c (jD r b):=by
 unfold Tryz.jD;have:=h.view;have a:=mX b.1.data.toList;split
 .exact h.kg (by unfold nu at *;omega) (by unfold nu at *;omega)
 .exact h
def azH {c:Int×Int}{r:aw}(h:aY c r)(b:cq):km (tI c r b):=by
 have:=aqN h b.2;unfold tI;split
 .exact this
 .exact this
def aY.B8 {c:Int×Int}{r:aw}(h:aY c r)(b:cq)(d:Bool){W:aw×Bool}(a:aY c W.1):aY c (B8 c r b d W).1:=by
 unfold Tryz.B8;split
 .split
  .split
   .exact a.owned _
   .exact h
  .exact a
 .exact h
def aY.aqU {c:Int×Int}{r:aw}(h:aY c r)(b:cq):aY c (e9 c r b).1:=h.B8 b _ ((h.jD b).wrote _)
def aCa {c:Int×Int}{r:aw}{b:cq}(g:b.1.size<=1048576)(a:Bool){W:aw×Bool}(i:aY c W.1)(x:aw) :
  ((some (if W.2=true then (W.1,true,abr) else (abr,false,x)):Option (aw×Bool×aw)).bind fun d=>br d.2.1 (br a ((np F0 c d.1 b.1).bind fun e=>br (!e.1.2.1) (some (r,false,())) (some (e.1.1,true,()))) (some (d.1,true,()))) (some (r,false,())))=some ((B8 c r b a W).1,(B8 c r b a W).2,()):=by
 have f:=aB9 i g;obtain⟨j,k⟩:=W;unfold B8;cases k with
 |false=>rfl
 |true =>
  cases a with
  |false=>rfl
  |true =>
   dsimp only at f ⊢;rw[ag rfl,ag rfl,ag rfl,ai];dsimp only;rw[ae,ae,f,ai];cases h:(own c j b.1).2<;>rfl
def azI {c:Int×Int}{s:bd}{b:cq}(h:h7 c s b=true):azs c s b=((nu b,s.2),true):=ag h
def aJd {c:Int×Int}{s:bd}{b:cq}(h:h7 c s b=false):azs c s b=(s,false):=af (by rw[h];decide)
def aHt {c:Int×Int}{r:aw}{b:cq}(a:nu b>=r.2.1)(d:h7 c (SP c r.2.2.2.1 b.2) b=true):iY c r b=true/\tI c r b=(nu b,(SP c r.2.2.2.1 b.2).2):=by
 have:iY c r b=true:=by unfold iY;rw[aL a,d];rfl
 exact⟨this,ag this⟩
def aD8 {c:Int×Int}{r:aw}{b:cq}(h:¬(nu b>=r.2.1/\h7 c (SP c r.2.2.2.1 b.2) b=true)):iY c r b=false/\tI c r b=SP c r.2.2.2.1 b.2:=by
 have:iY c r b=false:=by
  unfold iY;by_cases a:nu b>=r.2.1
  .cases d:h7 c (SP c r.2.2.2.1 b.2) b with
   |true=>exact absurd ⟨a,d⟩ h|false=>rw[adt]
  .rw[aQ a];rfl
 exact⟨this,af (by rw[this];decide)⟩
def abB {c:Int×Int}{r:aw}(h:aY c r){b:cq}(l:fF c b=true):q2 F0 c r b=some ((e9 c r b).1,(e9 c r b).2,()):=by
 obtain⟨d,g⟩:=JS l;have m:=aqN h b.2;have n:=akl (c:=c) m d g;have o:=aHk (c:=c) m d g;have q:=SU (h.jD b) (azH h b);have s:aY c (h8 c (jD r b) (tI c r b)).1:=(h.jD b).wrote _;have t:=aCa (r:=r) d (iY c r b) s (jD r b);rw[aes,dV h.bt,ai,hY h.l,ai,h.ok,aN,aa,Ow d g,ai,l,aN,aa,aw3 h.l.s g,o5 d];simp only[ai,n,o];rw[show aD b.1.data.toList=nu b from rfl];show _=some ((B8 c r b (iY c r b) (h8 c (jD r b) (tI c r b))).1,(B8 c r b (iY c r b) (h8 c (jD r b) (tI c r b))).2,());rw[<-t,<-q];by_cases a:nu b>=r.2.1
 .have i:jD r b=(r.1,nu b,r.2.2):=ag a;rw[aL a,ae,ae];cases k:h7 c (SP c r.2.2.2.1 b.2) b with
  |true =>
   obtain⟨e,f⟩:=aHt a k;rw[e,f,i,azI k,ae]
  |false =>
   obtain⟨e,f⟩:=aD8 (c:=c) (r:=r) (b:=b) (fun j=>by rw[k]at j;cases j.2);rw[e,f,i,aa]
 .have i:jD r b=r:=af a;obtain⟨e,f⟩:=aD8 (c:=c) (r:=r) (b:=b) (fun j=>a j.1);rw[aQ a,aa,aa,e,f,i];rfl
def aCb {c:Int×Int}{r:aw}{b:cq}(f:b.1.size<=1048576)(d:Bool){W:aw×Bool}(e:aY c W.1)(hid:W.1.1=r.1) :
  br (!W.2) (some (r,false,())) (br (!d) (some (W.1,true,())) ((eK F0 c W.1.2.2.2.2.2.1 (nu b,b.1,[r.1])).bind fun g=>br (!g.2.1) (some (r,false,())) ((n0 F0 c (W.1.1,W.1.2.1,W.1.2.2.1,W.1.2.2.2.1,W.1.2.2.2.2.1,g.1,W.1.2.2.2.2.2.2) (nu b) b.1 false).bind fun h=>some (h.1,true,()))))=some ((B8 c r b d W).1,(B8 c r b d W).2,()):=by
 obtain⟨a,i⟩:=W;dsimp only at e hid ⊢;unfold B8;cases i with
 |false=>rfl
 |true =>
  cases d with
  |false=>rfl
  |true =>
   have j:eK F0 c a.2.2.2.2.2.1 (nu b,b.1,[r.1])=some ((bs c a.2.2.2.2.2.1 (one (aD b.1.data.toList) b.1 a.1)).1,(bs c a.2.2.2.2.2.1 (one (aD b.1.data.toList) b.1 a.1)).2,()):=by rw[hid];exact EX (wa e.f.t) ⟨f,by show 1<=1000;omega⟩ c
   have k:=e.fJ (o8 e.f.t (one (aD b.1.data.toList) b.1 a.1));have l:=ac9 k (nu b) f false;have m:n0 F0 c (a.1,a.2.1,a.2.2.1,a.2.2.2.1,a.2.2.2.2.1,(bs c a.2.2.2.2.2.1 (one (aD b.1.data.toList) b.1 a.1)).1,a.2.2.2.2.2.2) (nu b) b.1 false=some ((fI c (fJ a (bs c a.2.2.2.2.2.1 (one (aD b.1.data.toList) b.1 a.1)).1) (nu b) b.1 false).1,(fI c (fJ a (bs c a.2.2.2.2.2.1 (one (aD b.1.data.toList) b.1 a.1)).1) (nu b) b.1 false).2,()):=l;rw[j,ai,ag rfl,ag rfl];unfold own;dsimp only;cases n:(bs c a.2.2.2.2.2.1 (one (aD b.1.data.toList) b.1 a.1)).2 with
   |false=>rfl
   |true =>
    rw[m,ai];rfl
def Yj {c:Int×Int}{r:aw}(h:aY c r){b:cq}(m:fF c b=true):rn F0 c r b=some ((e9 c r b).1,(e9 c r b).2,()):=by
 obtain⟨i,l⟩:=JS m;have n:=aqN h b.2;have o:=aFu (c:=c) n i l;have e:=ac7 (h.jD b) (azH h b);have q:aY c (h8 c (jD r b) (tI c r b)).1:=(h.jD b).wrote _;have hid:(h8 c (jD r b) (tI c r b)).1.1=r.1:=by rw[af5];unfold jD;split<;>rfl
 have s:=aCb (r:=r) i (iY c r b) q hid;rw[ae8,dS h.l,ai,h.ok,aN,aa,Jr i l,ai,m,aN,aa,aqD h.l.s l,rB i,dW h.bt];simp only[ai,o];rw[show aD b.1.data.toList=nu b from rfl];show _=some ((B8 c r b (iY c r b) (h8 c (jD r b) (tI c r b))).1,(B8 c r b (iY c r b) (h8 c (jD r b) (tI c r b))).2,());rw[<-s];by_cases f:nu b>=r.2.1
 .have d:jD r b=(r.1,nu b,r.2.2):=ag f;rw[aL f,ae];cases j:h7 c (SP c r.2.2.2.1 b.2) b with
  |true =>
   obtain⟨g,a⟩:=aHt f j;rw[d,a]at e;rw[g,a,d,azI j];dsimp only;rw[e,ai]
  |false =>
   obtain⟨g,a⟩:=aD8 (c:=c) (r:=r) (b:=b) (fun k=>by rw[j]at k;cases k.2);rw[d,a]at e;rw[g,a,d,aJd j];dsimp only;rw[e,ai]
 .have d:jD r b=r:=af f;obtain⟨g,a⟩:=aD8 (c:=c) (r:=r) (b:=b) (fun k=>f k.1);rw[d,a]at e;rw[aQ f,aa,g,a,d,e,ai];rfl
end Go.Am.Tryz
