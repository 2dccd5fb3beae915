/- No condition. -/
import Derived.Test.YtaheoongenkdbaaGreatDoorQeXJL3
set_option linter.all false
namespace Go.Am.Tryz
open Go.Am
def pw (a b:Int):Int:=if b>a then b else a
def Gc (a b:Int):Int:=if a<b then a else b
def CE (a b:Int):dC F0 a b=some (pw a b,()):=by
 rw[YH];unfold pw;by_cases h:a>b
 .rw[aI h,ae,af (by omega)]
 .rw[aL h,aa];by_cases d:b>a
  .rw[ag d]
  .rw[af d,show a=b by omega]
def Xv (a b:Int):bI F0 a b=some (Gc a b,()):=by
 rw[aqr];unfold Gc;by_cases h:a<b
 .rw[aI h,ae,ag h]
 .rw[aL h,aa,af h]
def aEX {b:ByteArray}(h:b.size<=1048576):pD F0 b=some ((aZ b.data.toList).1,(aZ b.data.toList).2,()):=Xm (TF h)
def aDc {b:ByteArray}(h:b.size<=1048576):pS F0 b=some ((aZ b.data.toList).1,(aZ b.data.toList).2,()):=Rp (TF h)
def Eh (a b:b1):b1:=if a.1>b.1 then a else b
def axw {a b:b1}(d:tK a)(e:tK b):HK F0 a b=some (Eh a b,()):=by
 rw[ajs,wa d.2,ai,wa e.2,ai];unfold Eh;by_cases h:a.1>b.1
 .rw[aI h,ae,ag h]
 .rw[aL h,aa,af h]
def ave {a b:b1}(d:tK a)(e:tK b):Ig F0 a b=some (Eh a b,()):=by
 rw[akj,wU d.2,ai,wU e.2,ai];unfold Eh;by_cases h:a.1>b.1
 .rw[aI h,ae,ag h]
 .rw[aL h,aa,af h]
def K0 (ss:List Ql):Bool:=decide (3<=ss.length)&&(((ss.getD (ss.length-1) (0,[])).1==aj ((ss.getD (ss.length-2) (0,[])).1+1))&&((ss.getD (ss.length-2) (0,[])).1==aj ((ss.getD (ss.length-3) (0,[])).1+1)))
def I3 (b:ByteArray):Bool:=K0 (aZ b.data.toList).1
def upB (b:ByteArray):ByteArray:=tx (fv b.data.toList)
def aGT (l:List UInt8):(fv l).length<=l.length:=by
 unfold fv;split
 .rw[bC];omega
 .exact aO _
def La (b:ByteArray):(upB b).size<=b.size:=by unfold upB;rw[bB];exact aGT _
def aDd {b:ByteArray}(h:b.size<=1048576):dk F0 (tx (fv b.data.toList))=some (aD (fv b.data.toList),()):=by have:=ot (b:=upB b) (bZ (La b) h);rw[show(upB b).data.toList=fv b.data.toList from e3 _]at this;exact this
def azS {b:ByteArray}(h:b.size<=1048576):ed F0 (tx (fv b.data.toList))=some (aD (fv b.data.toList),()):=by have:=qV (b:=upB b) (bZ (La b) h);rw[show(upB b).data.toList=fv b.data.toList from e3 _]at this;exact this
def gS (b:ByteArray):ByteArray×Bool:=if I3 b=true then (upB (upB b),true) else (ak,false)
def aiA {V:Type}{ss:List Ql}(g:ss.length<=30)(x y:Option V) :
  br (decide ((ss.length:Int)<3)) y (ck (bO (aj ((ss.length:Int)-1)) (ss.length:Int)) (ck (bO (aj ((ss.length:Int)-2)) (ss.length:Int)) (br ((aN ss (aj ((ss.length:Int)-1)) (0,[])).1 != (aj ((aN ss (aj ((ss.length:Int)-2)) (0,[])).1+1))) y
   (ck (bO (aj ((ss.length:Int)-2)) (ss.length:Int)) (ck (bO (aj ((ss.length:Int)-3)) (ss.length:Int)) (br ((aN ss (aj ((ss.length:Int)-2)) (0,[])).1 != (aj ((aN ss (aj ((ss.length:Int)-3)) (0,[])).1+1))) y x))))))=if K0 ss=true then x else y:=by
 unfold K0;by_cases h:3<=ss.length
 .rw[aL (show ¬(ss.length:Int)<3 by omega),aa,aI h,eS];have a:aj ((ss.length:Int)-1)=((ss.length-1:Nat):Int):=by rw[aF (by omega) (by omega)];omega
  have b:aj ((ss.length:Int)-2)=((ss.length-2:Nat):Int):=by rw[aF (by omega) (by omega)];omega
  have d:aj ((ss.length:Int)-3)=((ss.length-3:Nat):Int):=by rw[aF (by omega) (by omega)];omega
  rw[a,b,d,ao (by omega),ad,ao (by omega),ad,ao (by omega),ad,ad,la,la,la];cases e:((ss.getD (ss.length-1) (0,[])).1==aj ((ss.getD (ss.length-2) (0,[])).1+1))<;>cases f:((ss.getD (ss.length-2) (0,[])).1==aj ((ss.getD (ss.length-3) (0,[])).1+1))<;>simp only[bne,e,f]<;>rfl
 .rw[aI (show(ss.length:Int)<3 by omega),ae,aL h];rfl
def axx {b:ByteArray}(h:b.size<=1048576):HL F0 b=some ((gS b).1,(gS b).2,()):=by
 have d:ll F0 (tx (fv b.data.toList))=some (upB (upB b),()):=adW (b:=upB b) (bZ (La b) h);rw[aju,aEX h,ai,aiA (qc _),adW h,ai,d,ai];unfold gS I3;cases a:K0 (aZ b.data.toList).1 with
 |true =>
  have:(aZ b.data.toList).2=true:=by
   cases e:(aZ b.data.toList).2 with
   |true=>rfl|false=>rw[Wq e]at a;cases a
  rw[this];rfl
 |false=>cases (aZ b.data.toList).2<;>rfl
def avf {b:ByteArray}(h:b.size<=1048576):Ih F0 b=some ((gS b).1,(gS b).2,()):=by have a:rU F0 (tx (fv b.data.toList))=some (upB (upB b),()):=adX (b:=upB b) (bZ (La b) h);rw[akl,aDc h,ai,aiA (qc _),adX h,ai,a,ai];unfold gS I3;cases d:K0 (aZ b.data.toList).1<;>rfl
def Nw (c:Int×Int)(s:a1)(q:b1):a1 :=
 if bh c s=true/\eN c q=true then (s.1,pw s.2.1 (aD (fv q.2.1.data.toList)),Eh q s.2.2.1,if (gS q.2.1).2=true/\ad5 (gS q.2.1).1 s.2.2.2=true then (gS q.2.1).1 else s.2.2.2) else s
def aeg (b:ByteArray):(gS b).1.size<=b.size:=by
 unfold gS;split
 .exact bZ (La _) (La _)
 .exact aO _
def avg {s:a1}{q:b1}(hs:jJ s)(a:tK q)(c:Int×Int):O2 F0 c s q=some (Nw c s q,()):=by have b:=aeg q.2.1;rw[awC,Ns hs,ai,Cx hs,ai,Ru a,ai,axw a hs.1,ai,adW a.1,ai,aDd a.1,ai,CE,ai,axx a.1,ai,axe (bZ b a.1) hs.2,ai];unfold Nw pw;cases bh c s<;>cases eN c q<;>cases (gS q.2.1).2<;>cases ad5 (gS q.2.1).1 s.2.2.2<;>simp[ae,aa]
def aoZ {s:a1}{q:b1}(hs:jJ s)(a:tK q)(c:Int×Int):PR F0 c s q=some (Nw c s q,()):=by have b:=aeg q.2.1;rw[awF,ID hs,ai,Fg hs,ai,Qp a,ai,ave a hs.1,ai,adX a.1,ai,azS a.1,ai,avf a.1,ai,IB (bZ b a.1) hs.2,ai];unfold Nw pw;cases bh c s<;>cases eN c q<;>cases (gS q.2.1).2<;>cases ad5 (gS q.2.1).1 s.2.2.2<;>simp[ae,aa]
def fz (c:Int×Int)(s:a1)(b:ca):Bool:=bh c s&&(fj c b&&(decide (aD b.1.data.toList>s.1)&&decide (b.2.1>=s.2.1)))
def aiB {s:a1}{b:ca}(hs:jJ s)(a:b.1.size<=1048576)(d:tK b.2)(c:Int×Int):yI F0 c s b=some (fz c s b,()):=by rw[ajy,Cx hs,ai,Np a d,ai,ot a,ai];unfold fz;cases bh c s<;>cases fj c b<;>cases decide (aD b.1.data.toList>s.1)<;>rfl
def avh {s:a1}{b:ca}(hs:jJ s)(a:b.1.size<=1048576)(d:tK b.2)(c:Int×Int):Ij F0 c s b=some (fz c s b,()):=by rw[ako,Fg hs,ai,Iy a d,ai,qV a,ai];unfold fz;cases bh c s<;>cases fj c b<;>cases decide (aD b.1.data.toList>s.1)<;>rfl
def axy (c:Int×Int)(s:a1)(b:ca):a1×Bool:=if fz c s b=true then ((aD b.1.data.toList,s.2),true) else (s,false)
def aEY {s:a1}{b:ca}(hs:jJ s)(a:b.1.size<=1048576)(d:tK b.2)(c:Int×Int):O3 F0 c s b=some ((axy c s b).1,(axy c s b).2,()):=by rw[at2,Ns hs,ai,aiB hs a d,ai,ot a,ai];unfold axy;cases fz c s b<;>rfl
def aDe {s:a1}{b:ca}(hs:jJ s)(a:b.1.size<=1048576)(d:tK b.2)(c:Int×Int):Xg F0 c s b=some ((axy c s b).1,(axy c s b).2,()):=by rw[aur,ID hs,ai,avh hs a d,ai,qV a,ai];unfold axy;cases fz c s b<;>rfl
abbrev pr:=List Int×Int
def Nx (d:pr)(b:List Int):pr×Bool:=if fi d=true/\d.1.length+b.length<=100000 then ((d.1++b,d.2),true) else (d,false)
def c8 {d:pr}:fi d=true↔d.1.length<=100000/\0<=d.2/\d.2<=d.1.length:=by unfold fi eF;simp only[aA,bR];omega
def azT {d:pr}{b:List Int}(e:d.1.length<=1048576)(i:b.length<=1048576):LY F0 d b=some ((Nx d b).1,(Nx d b).2,()):=by
 rw[amN,Nt e,ai,ax (by omega) (by omega) (by first|omega|(simp only[aG,aW,bj];omega)|(rw[bc,bC];omega)),ad,KT,ai,KT,ai,ai];unfold Nx;cases h:fi d with
 |false=>rfl
 |true =>
  have f:=c8.1 h;by_cases a:d.1.length+b.length<=100000
  .have:fi (d.1++b,d.2)=true:=c8.2 ⟨by dsimp only;rw[aG];exact a,f.2.1,by dsimp only;rw[aG];omega⟩;rw[this,ag ⟨rfl,a⟩];rfl
  .have:fi (d.1++b,d.2)=false:=by
    cases g:fi (d.1++b,d.2) with
    |false=>rfl
    |true =>
     have:=(c8.1 g).1;dsimp only at this;rw[aG]at this;exact absurd this a
   rw[this,af (fun h=>a h.2)];rfl
def axz {d:pr}{b:List Int}(e:d.1.length<=1048576)(f:b.length<=1048576):MT F0 d b=some ((Nx d b).1,(Nx d b).2,()):=by
 rw[anL,IE e,ai,ax (by omega) (by omega) (by first|omega|(simp only[aG,aW,bj];omega)|(rw[bc,bC];omega)),ad,Nn,ai,aF (by omega) (by omega)];unfold Nx;cases h:fi d with
 |false=>rfl
 |true =>
  by_cases a:d.1.length+b.length<=100000
  .rw[aL (show ¬(d.1.length:Int)+b.length>100000 by omega),ag ⟨rfl,a⟩];rfl
  .rw[aI (show(d.1.length:Int)+b.length>100000 by omega),af (fun h=>a h.2)];rfl
def kH (d:pr):pr:=if fi d=true then (d.1,(d.1.length:Int)) else d
def aEZ {d:pr}(a:d.1.length<=1048576):Xb F0 d=some (kH d,()):=by rw[aua,Nt a,ai,KT,ai];unfold kH;cases fi d<;>rfl
def aDf {d:pr}(a:d.1.length<=1048576):Xe F0 d=some (kH d,()):=by rw[aul,IE a,ai,Nn,ai];unfold kH;cases fi d<;>rfl
def Hc (d:pr)(keep:Int):Int:=d.2+pw 0 (Gc keep ((d.1.length:Int)-d.2))
def gG (d:pr)(keep:Int):pr:=if fi d=true then (d.1.take (Hc d keep).toNat,Hc d keep) else d
def aeh {d:pr}(h:fi d=true)(keep:Int):d.2<=Hc d keep/\Hc d keep<=d.1.length:=by have:=c8.1 h;unfold Hc pw Gc;split<;>split<;>omega
def azU {d:pr}(e:d.1.length<=1048576)(keep:Int):Mm F0 d keep=some (gG d keep,()):=by
 rw[ang,Nt e,ai,KT,ai,Xv,ai,CE,ai];unfold gG;cases h:fi d with
 |false=>rfl
 |true =>
  have i:=c8.1 h;have b:=aeh h keep;have f:aj ((d.1.length:Int)-d.2)=(d.1.length:Int)-d.2:=aF (by omega) (by omega);have g:aj (d.2+pw 0 (Gc keep ((d.1.length:Int)-d.2)))=Hc d keep:=aF (by unfold Hc at b;omega) (by unfold Hc at b;omega);rw[aH,aa,ag rfl];dsimp only;rw[f,g,agM (by omega) (by omega) b.2,ad,ax (a:=0) (by omega) (by omega) (by first|omega|(simp only[aG,aW,bj];omega)|(rw[bc,bC];omega)),ad];rfl
def axA {d:pr}(a:d.1.length<=1048576)(keep:Int):Ng F0 d keep=some (gG d keep,()):=by
 rw[an7,IE a,ai,Nn,ai];unfold gG;cases h:fi d with
 |false=>rfl
 |true =>
  have f:=c8.1 h;have g:=aeh h keep;have b:aj ((d.1.length:Int)-d.2)=(d.1.length:Int)-d.2:=aF (by omega) (by omega);have e:aj (d.2+(if (d.1.length:Int)-d.2<(if 0>keep then 0 else keep) then (d.1.length:Int)-d.2 else (if 0>keep then 0 else keep)))=Hc d keep:=by
   have:d.2+(if (d.1.length:Int)-d.2<(if 0>keep then 0 else keep) then (d.1.length:Int)-d.2 else (if 0>keep then 0 else keep))=Hc d keep:=by unfold Hc pw Gc;split<;>split<;>split<;>split<;>omega
   rw[this];exact aF (by omega) (by omega)
  rw[ae,ag rfl];dsimp only;rw[b,e,show okT (Hc d keep) (d.1.length:Int)=true by simp[okT];omega,ad]
def ao0 (s:a1):Int:=Gc 60 (pw (pw s.1 (aj (s.2.2.1.1+1))) 1)
def avi (c:Int×Int)(r:ar):ar:=(r.1,ao0 (dL c r.2.2.2.2.2.2.1.1).1,0,(dL c r.2.2.2.2.2.2.1.1).1,[],[],(r.2.2.2.2.2.2.1.1.take (dL c r.2.2.2.2.2.2.1.1).2,((dL c r.2.2.2.2.2.2.1.1).2:Int)),[])
def axB (c:Int×Int){b:List Int}(e:de b):∀(f:Nat) (s:a1) (a:Nat),a<=b.length->(Fi c b f s a).2<=b.length
 |0,s,a,d=>d|f+1,s,a,d=>by
  cases h:Hb c b a with
  |none=>rw[hY h];exact d
  |some z =>
   obtain⟨g,i⟩:=z;rw[CB h];exact axB c e f g i (axh e d h).2.1
def WK (c:Int×Int){b:List Int}(a:de b):(dL c b).2<=b.length:=axB c a _ _ _ (aO _)
def aE0 {r:ar}(h:aDb r){c:Int×Int}(b:mh c r=true):Pr F0 c r=some (avi c r,()):=by have d:=WK c h.d;have e:=h.d.1;rw[auc,gR h.l,ai,b,aH,aa,au2 h.d,ai,CE,ai,CE,ai,Xv,ai];dsimp only;rw[agM (by omega) (by omega) (by omega),ad,ax (a:=0) (by omega) (by omega) (by first|omega|(simp only[aG,aW,bj];omega)|(rw[bc,bC];omega)),ad];rfl
def aDg {r:ar}(h:aDb r){c:Int×Int}(b:mh c r=true):Qd F0 c r=some (avi c r,()):=by have d:=WK c h.d;have e:=h.d.1;rw[auD,dJ h.l,ai,b,aH,aa,ZR h.d,ai];dsimp only;rw[agM (by omega) (by omega) (by omega),ad,ax (a:=0) (by omega) (by omega) (by first|omega|(simp only[aG,aW,bj];omega)|(rw[bc,bC];omega)),ad];rfl
def sameAt (a b:b1):Bool:=(a.1==b.1)&&(a.2.1.toList==b.2.1.toList)
def aei (a b:b1):b1:=(a.1,a.2.1,adQ a.2.2 b.2.2)
def avj {a b:b1}(h:a.2.2.length+b.2.2.length<=1048576):Dh F0 a b=some (if sameAt a b=true then aei a b else b8,sameAt a b,()):=by rw[afs,awW h,ai];unfold sameAt aei bne;cases (a.1==b.1)<;>cases (a.2.1.toList==b.2.1.toList)<;>rfl
def aq8 {a b:b1}(h:a.2.2.length+b.2.2.length<=1048576):DS F0 a b=some (if sameAt a b=true then aei a b else b8,sameAt a b,()):=by rw[af7,auU h,ai];unfold sameAt aei bne;cases (a.1==b.1)<;>cases (a.2.1.toList==b.2.1.toList)<;>rfl
def eQ (p:b1):List b1->List b1
 |[]=>[p]|x::l=>if fh x p=true then x::eQ p l else if sameAt x p=true then aei x p::l else p::x::l
def bs (c:Int×Int)(l:List b1)(p:b1):List b1×Bool:=if hX c p=true/\eD c (eQ p l)=true then (eQ p l,true) else (l,false)
def abk (p:b1):∀l:List b1,(eQ p l).length<=l.length+1
 |[]=>bf _|x::l=>by
  have:=abk p l;unfold eQ;split
  .simp only[aW];omega
  .split<;>simp
def Ny (p:b1):∀(k:Nat) (l:List b1),(∀x∈l.take k,fh x p=true)->eQ p l=l.take k++eQ p (l.drop k)
 |0,l,_=>rfl|k+1,[],_=>rfl|k+1,x::l,h=>by rw[eQ,ag (h x (by simp)),Ny p k l fun y a=>h y (by simp[a])];rfl
def azV (l:List b1):Prop:=l.length<=1000/\∀q∈l,q.2.1.size<=1048576/\q.2.2.length<=1000
def azV.l {l:List b1}(h:azV l){q:b1}(a:q∈l):tK q:=⟨(h.2 q a).1,bZ (h.2 q a).2 (by omega)⟩
def aGU {a b:b1}(d:a.2.1.size<=1048576/\a.2.2.length<=1000)(e:b.2.2.length<=1000):tK (aei a b):=⟨d.1,by have:=aCS a.2.2 b.2.2;show(adQ a.2.2 b.2.2).length<=_;omega⟩
def ao1 {p:b1}(b:p.2.1.size<=1048576/\p.2.2.length<=1000):∀{l:List b1},azV l->∀q∈eQ p l,tK q
 |[],_,q,a=>by rw[fA.1 a];exact⟨b.1,by omega⟩
 |x::l,h,q,a=>by
  have e:=h.2 x py;have d:azV l:=⟨by have:=h.1;rw[aW]at this;omega,fun y f=>h.2 y (jG _ f)⟩;unfold eQ at a;split at a
  .rcases cN.1 a with rfl|a
   .exact h.l py
   .exact ao1 b d q a
  .split at a
   .rcases cN.1 a with rfl|a
    .exact aGU e b.2
    .exact d.l a
   .rcases cN.1 a with rfl|a
    .exact⟨b.1,by omega⟩
    .exact h.l a
def azW {V:Type}(c:Int×Int)(l:List b1)(p:b1)(x y:Option V):br (!eD c (eQ p l)) y (br (!hX c p) y x)=if hX c p=true/\eD c (eQ p l)=true then x else y:=by cases eD c (eQ p l)<;>cases hX c p<;>rfl
def IG {l:List b1}(h:azV l){p:b1}(m:p.2.1.size<=1048576/\p.2.2.length<=1000)(c:Int×Int):eW F0 c l p=some ((bs c l p).1,(bs c l p).2,()):=by
 have D:=h.1;have A:tK p:=⟨m.1,by omega⟩;have E:=abk p l;have cW:mE F0 (c.1,c.2) (eQ p l)=some (eD c (eQ p l),()):=aiq (by omega) (ao1 m h) c;rw[afu];refine cz (fun n k (z:Bool×List b1)=>hH F0 (yQ F0) n (e7 l z.1 k c.1 c.2 p.1 p.2.1 p.2.2 z.2)) l.length
  (fun k z=>(z.1=false/\z.2=l.take k/\∀x∈l.take k,fh x p=true)\/(z.1=true/\z.2++l.drop k=eQ p l)) _ (fun n k z b i=>.inr ?_) (fun n z i=>?_) F0.n 0 (false,[]) (aO _) (.inl ⟨rfl,rfl,fun x o=>by simp at o⟩) (by rw[bH];omega)
 .have o:=h.2 _ (b2 b);have s:l.drop k=l[k]::l.drop (k+1):=TX b;rcases i with ⟨d,a,g⟩|⟨d,a⟩
  .have B:z.2.length<=1000:=by rw[a,bC];omega
   have e:=Ny p k l g;rw[s,eQ]at e;rw[d,kg,aP b,ae,ao b,ad,a8 b,mw (by omega),ai];dsimp only;rw[show((p.1,p.2.1,p.2.2):b1)=p from rfl,ZQ,ai,avj (by omega),ai,mw (q:=p) (by omega),ai];cases t:fh l[k] p with
   |true =>
    refine⟨(false,z.2++[l[k]]),?_,.inl ⟨rfl,?_,?_⟩⟩
    .rw[ea,ae,aH,aa,ax (by omega) (by omega) (by first|omega|(simp only[aG,aW,bj];omega)|(rw[bc,bC];omega)),ad,al (by omega)]
    .show z.2++[l[k]]=_;rw[iw b,a]
    .intro x u;rw[iw b]at u;rcases gK.1 u with j|j
     .exact g x j
     .rw[fA.1 j];exact t
   |false =>
    rw[t,af (by decide)]at e;cases f:sameAt l[k] p with
    |true =>
     rw[f,ag rfl]at e;refine⟨(true,z.2++[aei l[k] p]),?_,.inr ⟨rfl,?_⟩⟩
     .rw[ea,ae,ae,ag rfl,ae,ax (by omega) (by omega) (by first|omega|(simp only[aG,aW,bj];omega)|(rw[bc,bC];omega)),ad,al (by omega)]
     .show(z.2++[aei l[k] p])++_=_;rw[e,a,gI];rfl
    |false =>
     rw[f,af (by decide)]at e;refine⟨(true,z.2++[p]++[l[k]]),?_,.inr ⟨rfl,?_⟩⟩
     .rw[ea,ae,ae,aa,ax (by omega) (by omega) (by first|omega|(simp only[aG,aW,bj];omega)|(rw[bc,bC];omega)),ad,ax (by omega) (by omega) (by first|omega|(simp only[aG,aW,bj];omega)|(rw[bc,bC];omega)),ad,al (by omega)]
     .show(z.2++[p]++[l[k]])++_=_;rw[e,a,gI,gI];rfl
  .have B:z.2.length<=1001:=by have:=oF List.length a;rw[aG]at this;omega
   refine⟨(true,z.2++[l[k]]),?_,.inr ⟨rfl,?_⟩⟩
   .rw[d,kg,aP b,ae,ao b,ad,a8 b,mw (by omega),ai];dsimp only;rw[aH,aa,ax (by omega) (by omega) (by first|omega|(simp only[aG,aW,bj];omega)|(rw[bc,bC];omega)),ad,al (by omega)]
   .show(z.2++[l[k]])++_=_;rw[gI,<-a,s];rfl
 .have v:ka F0 (c.1,c.2) (p.1,p.2.1,p.2.2)=some (hX c p,()):=Rv A c;have w:gh F0 l=some (l,()):=aec (by omega) fun q C=>h.l C
  have y:br (!eD c (eQ p l)) (some (l,false,())) (br (!hX c p) (some (l,false,())) (some (eQ p l,true,())))=some ((bs c l p).1,(bs c l p).2,()):=by rw[azW];unfold bs;split<;>rfl
  rcases i with ⟨d,a,g⟩|⟨d,a⟩
  .have f:=Ny p l.length l g;rw[Yf,k5]at f;rw[k5]at a;rw[d,kg,aE,aa,GC,ea,ae,show((p.1,(p.2.1,p.2.2)):b1)=p from rfl,mw (by omega),ai,a,ax (by omega) (by omega) (by first|omega|(simp only[aG,aW,bj];omega)|(rw[bc,bC];omega)),ad,
    show l++[p]=eQ p l from f.symm,cW,ai,v,ai,w,ai]
   exact y
  .rw[Yf,fU]at a;rw[d,kg,aE,aa,GC,aH,aa,a,cW,ai,v,ai,w,ai];exact y
def aGV (a b:b1):Int:=if fh a b=true then -1 else if sameAt a b=true then 0 else 1
def TG (a b:b1):fc F0 a b=some (aGV a b,()):=by
 rw[EV,aip,ai,adU,ai];unfold aGV fh sameAt aGB aGC;dsimp only;by_cases h:a.1<b.1
 .rw[ag h,aI h];rfl
 .rw[af h,aL h,wc];by_cases d:a.1>b.1
  .rw[ag d,bQ.2 (show a.1≠b.1 by omega)];rfl
  .rw[af d,show a.1=b.1 by omega,Ye,eS,eS];cases Op.bytesLess a.2.1.toList b.2.1.toList<;>cases (a.2.1.toList==b.2.1.toList)<;>rfl
def ak2 {γ:Type}(X:Nat->Int->Option γ)(L:Nat)(p:Nat->Bool)(E:Nat->Option γ)(hs:∀n k,k<L->X (n+1) (k:Int)=if p k=true then X n ((k+1:Nat):Int) else E k)(b:∀n,X (n+1) (L:Int)=E L) :
  ∀(j k n:Nat),k+j=L->(∀i,i<k->p i=true)->j<n->∃i,i<=L/\(∀j,j<i->p j=true)/\(i<L->p i=false)/\X n (k:Int)=E i
 |0,k,n+1,d,a,f=>⟨L,bf _,fun j q=>a j (by omega),fun h=>absurd h (T2 _),by rw[show k=L by omega];exact b n⟩
 |j+1,k,n+1,d,a,f=>by
  cases h:p k with
  |true =>
   obtain⟨i,g,l,m,o⟩:=ak2 X L p E hs b j (k+1) n (by omega) (fun i s=>by
    by_cases e:i=k
    .rw[e];exact h
    .exact a i (by omega)) (by omega)
   exact⟨i,g,l,m,by rw[hs n k (by omega),h,ag rfl];exact o⟩
  |false=>exact⟨k,by omega,a,fun _=>h,by rw[hs n k (by omega),h,af (by decide)]⟩
def aDh {p:b1}{l:List b1}{i:Nat}(g:i<=l.length)(b:∀a (h:a<l.length),a<i->fh l[a] p=true)(d:∀h:i<l.length,fh l[i] p=false) :
  eQ p l=if h:i<l.length then (if sameAt l[i] p=true then l.set i (aei l[i] p) else l.take i++[p]++l.drop i) else l.take i++[p]++l.drop i:=by
 rw[Ny p i l fun x e=>by obtain⟨a,f,rfl⟩:=ahe e;rw[bC]at f;rw[List.getElem_take];exact b a (by omega) (by omega)]
 by_cases h:i<l.length
 .rw[dif_pos h,TX h,eQ,d h,af (by decide)];split
  .rw[List.set_eq_take_append_cons_drop,ag h]
  .simp
 .rw[dif_neg h,asU (by omega)];simp[eQ]
def Ei {l:List b1}(h:azV l){p:b1}(j:p.2.1.size<=1048576/\p.2.2.length<=1000)(c:Int×Int):eu F0 c l p=some ((bs c l p).1,(bs c l p).2,()):=by
 have C:=h.1;have v:tK p:=⟨j.1,by omega⟩;have D:=abk p l;have cW:ko F0 (c.1,c.2) (eQ p l)=some (eD c (eQ p l),()):=adV (by omega) (ao1 j h) c;have m:er F0 l=some (l,()):=ZU (by omega) fun q w=>h.l w
 have x:eX F0 (p.1,p.2.1,p.2.2)=some (p,()):=A7 (q:=p) (by omega);rw[af9,Nl v,ai,m,ai,ai];cases o:hX c p with
 |false =>
  unfold bs;rw[o,af (by simp)];rfl
 |true =>
  have e:br (!eD c (eQ p l)) (some (l,false,())) (some (eQ p l,true,()))=some ((bs c l p).1,(bs c l p).2,()):=by unfold bs;rw[o];cases eD c (eQ p l)<;>simp[br]
  rw[aH,aa];obtain⟨i,f,y,s,z⟩:=ak2 (fun n k=>vd F0 (pf F0) n (pe l k c.1 c.2 p.1 p.2.1 p.2.2 l)) l.length (fun k=>fh (l.getD k b8) p) (fun k=>pf F0 (.exit 0) (nh l (k:Int) c.1 c.2 p.1 p.2.1 p.2.2 l))
   (fun n k d=>by rw[E2,aP d,ae,ao d,ad,a8 d,show((p.1,p.2.1,p.2.2):b1)=p from rfl,TG,ai,al (by omega),aV d];unfold aGV;cases fh l[k] p<;>cases sameAt l[k] p<;>rfl)
   (fun n=>by rw[E2,aE,aa]) l.length 0 F0.n (by omega) (fun i a=>absurd a (RW _)) (by rw[bH];omega)
  have b:=aDh (p:=p) f (fun A t B=>by have:=y A B;rw[aV t]at this;exact this) (fun a=>by have:=s a;rw[aV a]at this;exact this);refine BD z ?_;rw[XZ,x,ai,m,ai];by_cases a:i<l.length
  .rw[dif_pos a]at b;have t:=h.2 _ (b2 a);rw[aP a,ae,ao a,ad,a8 a,show((p.1,p.2.1,p.2.2):b1)=p from rfl,TG,ai];unfold aGV;have u:=s a;rw[aV a]at u;rw[u,af (by decide)];cases g:sameAt l[i] p with
   |true =>
    rw[g,ag rfl]at b;rw[ag rfl,show((0:Int)==0)=true from rfl,ae,aq8 (by omega),ai,g,ag rfl,ad,ad,gJ];dsimp only;rw[<-b,cW,ai];exact e
   |false =>
    rw[g,af (by decide)]at b;rw[af (by decide),show((1:Int)==0)=false from rfl,aa,IX f (by simp) (by simp only[aW,bj];omega),ad,gJ,<-b,cW,ai];exact e
  .rw[dif_neg a]at b;rw[aL (show ¬(i:Int)<(l.length:Int) by omega),aa,IX f (by simp) (by simp only[aW,bj];omega),ad,gJ,<-b,cW,ai];exact e
def df (l:List b1)(view:Int)(name:ByteArray):b1:=match l.find? fun x=>(x.1==view)&&(x.2.1.toList==name.toList) with
 |some x=>x|none=>(view,name,[])
def asr {U:Type}{p:U->Bool}{l:List U}{k:Nat}(a:k<l.length):(l.drop k).find? p=if p l[k]=true then some l[k] else (l.drop (k+1)).find? p:=by rw[TX a,List.find?_cons];cases p l[k]<;>rfl
def RF {l:List b1}(h:l.length<=1048576)(f:∀q∈l,tK q)(view:Int)(name:ByteArray):n9 F0 l view name=some (df l view name,()):=by
 rw[afg];refine cz (fun n k (z:Unit)=>nJ F0 (oO F0) n (kd l view name k 0 ak [])) l.length (fun k _=>l.find? (fun x=>(x.1==view)&&(x.2.1.toList==name.toList))=(l.drop k).find? fun x=>(x.1==view)&&(x.2.1.toList==name.toList)) _ (fun n k z b a=>?_) (fun n z a=>?_) F0.n 0 () (aO _) rfl (by rw[bH];omega)
 .rw[asr b]at a;rw[ED,aP b,ae,ao b,ad,ad,ad,a8 b,mw (f _ (b2 b)).2,ai,aau,al (by omega)];cases d:(l[k].1==view) with
  |false =>
   rw[d,Yg,af (by decide)]at a;exact .inr ⟨(),aa _ _,a⟩
  |true =>
   cases e:(l[k].2.1.toList==name.toList) with
   |false =>
    rw[d,e,eS,af (by decide)]at a;exact .inr ⟨(),by rw[ae,aa],a⟩
   |true =>
    rw[d,e,eS,ag rfl]at a;refine .inl ?_;unfold df;rw[a];rfl
 .rw[Yf]at a;rw[ED,aE,aa,XN];unfold df;rw[a];rfl
def ZW {l:List b1}(h:l.length<=1048576)(f:∀q∈l,tK q)(view:Int)(name:ByteArray):tz F0 l view name=some (df l view name,()):=by
 rw[aga];refine cz (fun n k (z:Unit)=>nS F0 (pg F0) n (kz view name l (l.length:Int) k 0 ak [])) l.length (fun k _=>l.find? (fun x=>(x.1==view)&&(x.2.1.toList==name.toList))=(l.drop k).find? fun x=>(x.1==view)&&(x.2.1.toList==name.toList)) _ (fun n k z b a=>?_) (fun n z a=>?_) F0.n 0 () (aO _) rfl (by rw[bH];omega)
 .rw[asr b]at a;rw[E3,aP b,ae,ao b,ad,a8 b,A7 (f _ (b2 b)).2,ai,aaV,al (by omega)];cases d:(l[k].1==view) with
  |false =>
   rw[d,Yg,af (by decide)]at a;exact .inr ⟨(),aa _ _,a⟩
  |true =>
   cases e:(l[k].2.1.toList==name.toList) with
   |false =>
    rw[d,e,eS,af (by decide)]at a;exact .inr ⟨(),by rw[ae,aa],a⟩
   |true =>
    rw[d,e,eS,ag rfl]at a;refine .inl ?_;unfold df;rw[a];rfl
 .rw[Yf]at a;rw[E3,aE,aa,X0];unfold df;rw[a];rfl
def aej (l:List b1)(view:Int):List b1:=l.filter fun x=>decide (x.1>=view)
def aq9 {l:List b1}(h:l.length<=1048576)(b:∀q∈l,tK q)(view:Int):yW F0 l view=some (aej l view,()):=by
 rw[acK];refine ak1 (fun n k xs=>lN F0 (vH F0) n (jj l view k xs)) l (fun x=>decide (x.1>=view)) _ (fun n k xs a d=>?_) (fun n=>?_) _ (by rw[bH];omega)
 .rw[Bq,aP a,ae,ao a,ad,ad,a8 a,mw (b _ (b2 a)).2,ai,ax (by omega) (by omega) (by first|omega|(simp only[aG,aW,bj];omega)|(rw[bc,bC];omega)),ad,al (by omega)];cases decide (l[k].1>=view)<;>rfl
 .rw[Bq,aE,aa,Vk];rfl
def ao2 {l:List b1}(h:l.length<=1048576)(b:∀q∈l,tK q)(view:Int):gE F0 l view=some (aej l view,()):=by
 rw[adt];refine ak1 (fun n k xs=>ma F0 (vU F0) n (js view l (l.length:Int) k xs)) l (fun x=>decide (x.1>=view)) _ (fun n k xs a d=>?_) (fun n=>?_) _ (by rw[bH];omega)
 .rw[Bw,aP a,ae,ao a,ad,a8 a,A7 (b _ (b2 a)).2,ai,ax (by omega) (by omega) (by first|omega|(simp only[aG,aW,bj];omega)|(rw[bc,bC];omega)),ad,al (by omega)];cases decide (l[k].1>=view)<;>rfl
 .rw[Bw,aE,aa,V6];rfl
def Nz {a b c:ej}(d:eV a b=true)(e:eV b c=true):eV a c=true:=by simp only[eV,iS,aA,bR,bg]at *;omega
def aDi (a:ej):eV a a=false:=by simp[eV]
def agV {U:Type}(d:U)(p:U->Bool)(q:U->U->Bool)(l:List U):Wv d p q l=true↔(∀k (h:k<l.length),p l[k]=true)/\∀k (h:k+1<l.length),q l[k] l[k+1]=true:=by
 unfold Wv;rw[fq];constructor
 .intro h;refine⟨fun k a=>?_,fun k a=>?_⟩
  .have:=h k (fV.2 a);rw[aV a,aA]at this;exact this.1
  .have:=h (k+1) (fV.2 a);rw[aV a,show k+1-1=k from rfl,aV (show k<l.length by omega),aA,iS]at this;rcases this.2 with b|b
   .exact absurd (k4 b) (by omega)
   .exact b
 .intro h k a;have a:=fV.1 a;rw[aV a,aA,iS];refine⟨h.1 k a,?_⟩;cases k with
  |zero=>exact .inl (aI rfl)|succ k=>rw[show k+1-1=k from rfl,aV (show k<l.length by omega)];exact .inr (h.2 k a)
def avk {U:Type}{q:U->U->Bool}(g:∀a b c,q a b=true->q b c=true->q a c=true){l:List U}(h:∀k (h:k+1<l.length),q l[k] l[k+1]=true){i:Nat}:∀(j:Nat) (d:i<j) (f:j<l.length),q (l[i]'(by omega)) l[j]=true
 |0,d,_=>absurd d (RW _)|j+1,d,f=>by
  by_cases e:i=j
  .subst e;exact h i f
  .exact g _ _ _ (avk g h j (by omega) (by omega)) (h j f)
def Ej (x:ej):List ej->List ej
 |[]=>[x]|y::l=>if eV y x=true then y::Ej x l else x::y::l
def k3 (l:List ej)(x:ej):List ej×Bool:=if eP (Ej x l)=true then (Ej x l,true) else (l,false)
def aiC (x:ej):∀l:List ej,(Ej x l).length=l.length+1
 |[]=>rfl|y::l=>by
  unfold Ej;split
  .rw[aW,aiC x l,aW]
  .rfl
def abl {x:ej}:∀{l:List ej} {i:Nat},i<=l.length->(∀a (h:a<l.length),a<i->eV l[a] x=true)->(∀h:i<l.length,eV l[i] x=false)->Ej x l=l.take i++[x]++l.drop i
 |[],i,b,_,_=>by rw[show i=0 by simpa using b];rfl
 |y::l,0,_,_,d=>by have:=d (by simp);rw[Ej,af (by rw[show eV y x=false from this];decide)];rfl
 |y::l,i+1,b,e,d=>by have f:eV y x=true:=e 0 (by simp) (by omega);rw[Ej,ag f,abl (l:=l) (i:=i) (by simpa using b) (fun a g j=>e (a+1) (by simpa using g) (by omega)) (fun h=>d (by simpa using h))];rfl
set_option maxRecDepth 20000 in
def axC {l:List ej}(h:l.length<=1000000)(x:ej):HS F0 l x=some ((k3 l x).1,(k3 l x).2,()):=by
 rw[ajE];obtain⟨i,e,f,g,j⟩:=ak2 (γ:=List ej×Bool×Unit) (fun n k=>yV F0 (rI F0) n (rH l k x.1 x.2.1 x.2.2.1 x.2.2.2)) l.length (fun k=>eV (l.getD k pt) x) (fun k=>rI F0 (.exit 0) (oY l (k:Int) x.1 x.2.1 x.2.2.1 x.2.2.2))
  (fun n k b=>by
   rw[GD,aP b,ae,ao b,ad,a8 b,show((x.1,x.2.1,x.2.2.1,x.2.2.2):ej)=x from rfl,adT,ai,al (by omega),aV b];cases v:eV l[k] x with
   |true=>rw[ae,ag rfl]|false=>rw[aa,af (by decide)])
  (fun n=>by rw[GD,aE,aa]) l.length 0 F0.n (by omega) (fun i d=>absurd d (RW _)) (by rw[bH];omega)
 have m:=abl (x:=x) e (fun o q s=>by have:=f o s;rw[aV q]at this;exact this) (fun d=>by have:=g d;rw[aV d]at this;exact this);have w:=aiC x l;refine BD j ?_;have t:(l.take (i:Int).toNat).drop (0:Int).toNat=l.take i:=by rw[gJ];rfl
 have u:(l.take (l.length:Int).toNat).drop (i:Int).toNat=l.drop i:=by rw[gJ,gJ,k5]
 have y:(l.take i).length<=l.length:=by rw[bC];omega
 have z:(l.drop i).length<=l.length:=by rw[bc];omega
 rw[aaC,t,u,Bi,aEM e,ad,ax (a:=0) (by omega) (by omega) (by first|omega|(simp only[aG,aW,bj];omega)|(rw[bc,bC];omega)),ad,ax (by omega) (by omega) (by first|omega|(simp only[aG,aW,bj];omega)|(rw[bc,bC];omega)),ad,Xo e (bf _),ad,ax (by omega) (by omega) (by first|omega|(simp only[aG,aW,bj];omega)|(rw[bc,bC];omega)),ad,show((x.1,(x.2.1,(x.2.2.1,x.2.2.2))):ej)=x from rfl,<-m,aov (by omega),ai,
  ax (a:=0) (by omega) (by omega) (by first|omega|(simp only[aG,aW,bj];omega)|(rw[bc,bC];omega)),ad]
 unfold k3;cases eP (Ej x l)<;>rfl
def aBU {x:ej}{l:List ej}{i:Nat}(s:i<=l.length)(h:eP (l.take i++[x]++l.drop i)=true):(∀d (e:d<l.length),d<i->eV l[d] x=true)/\∀d (e:d<l.length),i<=d->eV x l[d]=true:=by
 unfold eP at h;rw[aA,agV]at h;have k:=h.1.2;have hlen:(l.take i++[x]++l.drop i).length=l.length+1:=by simp;omega
 have n:∀d (e:d<l.length) (f:d<i),(l.take i++[x]++l.drop i)[d]'(by omega)=l[d]:=fun d e f=>by rw[ayz (by simp;omega),ayz (by simp;omega),List.getElem_take]
 have m:(l.take i++[x]++l.drop i)[i]'(by omega)=x:=by rw[ayz (by simp;omega),List.getElem_append_right (by simp;omega)];simp
 have o:∀d (e:d<l.length) (f:i<=d),(l.take i++[x]++l.drop i)[d+1]'(by omega)=l[d]:=fun d e f=>by
  rw[List.getElem_append_right (by simp;omega),List.getElem_drop]
  congr 1
  simp;omega
 refine⟨fun d e f=>?_,fun d e f=>?_⟩
 .have:=avk (q:=eV) (l:=l.take i++[x]++l.drop i) (fun a b c g j=>Nz g j) k (i:=d) i f (by omega);rw[n d e f,m]at this;exact this
 .have:=avk (q:=eV) (l:=l.take i++[x]++l.drop i) (fun a b c g j=>Nz g j) k (i:=i) (d+1) (by omega) (by omega);rw[m,o d e f]at this;exact this
def ao3 {a b:ej}(h:eV a b=true):eV b a=false:=by
 cases d:eV b a with
 |false=>rfl
 |true =>
  have:=Nz h d;rw[aDi]at this;cases this
def aE1 {x:ej}{l:List ej}{i k:Nat}(o:i<=l.length)(q:k<=l.length)(j:∀d (h:d<l.length),d<i->eV l[d] x=true)(s:∀h:i<l.length,eV l[i] x=false)
  (t:∀d (h:d<l.length),d<k->eV x l[d]=false) (m:∀h:k<l.length,eV x l[k]=true):eP (l.take k++[x]++l.drop k)=eP (l.take i++[x]++l.drop i)/\(eP (l.take i++[x]++l.drop i)=true->k=i):=by
 by_cases e:k=i
 .subst e;exact⟨rfl,fun _=>rfl⟩
 .have n:eP (l.take i++[x]++l.drop i)=false:=by
   cases h:eP (l.take i++[x]++l.drop i) with
   |false=>rfl
   |true =>
    have g:=(aBU o h).2;exfalso;rcases Nat.lt_or_gt_of_ne e with f|f
    .have a:=m (by omega);have b:=j k (by omega) f;rw[ao3 a]at b;cases b
    .have a:=g i (by omega) (bf _);have b:=t i (by omega) f;rw[a]at b;cases b
  have n2:eP (l.take k++[x]++l.drop k)=false:=by
   cases h:eP (l.take k++[x]++l.drop k) with
   |false=>rfl
   |true =>
    have g:=(aBU q h).1;exfalso;rcases Nat.lt_or_gt_of_ne e with f|f
    .have a:=m (by omega);have b:=j k (by omega) f;rw[ao3 a]at b;cases b
    .have a:=g i (by omega) f;have b:=s (by omega);rw[a]at b;cases b
  exact⟨by rw[n,n2],fun h=>by rw[n]at h;cases h⟩
def axD {x:ej}{l:List ej}(h:l.length<=1000000){k:Nat}(d:k<=l.length)(j:∀a (h:a<l.length),a<k->eV x l[a]=false)(m:∀h:k<l.length,eV x l[k]=true) :
  br (!eP (l.take k++[x]++l.drop k)) (some (l,false,())) (some (l.take k++[x]++l.drop k,true,()))=some ((k3 l x).1,(k3 l x).2,()):=by
 obtain⟨i,e,o,q,_⟩:=ak2 (fun n (k:Int)=>(some ():Option Unit)) l.length (fun k=>eV (l.getD k pt) x) (fun k=>some ()) (fun n k d=>by cases eV (l.getD k pt) x<;>rfl) (fun n=>rfl) l.length 0 (l.length+1) (by omega) (fun i b=>absurd b (RW _)) (by omega);have f:∀a (h:a<l.length),a<i->eV l[a] x=true:=fun a s t=>by have:=o a t;rw[aV s]at this;exact this
 have g:∀h:i<l.length,eV l[i] x=false:=fun b=>by have:=q b;rw[aV b]at this;exact this
 have u:=abl (x:=x) e f g;obtain⟨v,w⟩:=aE1 e d f g j m;unfold k3;rw[u,v];cases y:eP (l.take i++[x]++l.drop i) with
 |false=>rfl|true=>rw[w y];rfl
def avl {l:List ej}(h:l.length<=1000000)(x:ej):Iq F0 l x=some ((k3 l x).1,(k3 l x).2,()):=by
 rw[aks,WE (by omega),ai,ai];have o:ir F0 l=some (l,()):=WE (by omega);rcases agD (fun e=>QX e x) l 0 with ⟨d,f⟩|⟨k,q,d,f,m⟩
 .have d:pz (fun e=>QX e x) l 0=-1:=d;have g:([x]:List ej).length=1:=rfl;rw[d,show decide ((-1:Int)<0)=true from rfl,ae,IX (bf _) (by simp) (by rw[g];omega),ad,gJ];dsimp only;rw[Ww (by simp only[aG,aW,bj,bc,bC];omega),ai];exact axD h (bf _) (fun i j _=>f l[i] (b2 j)) (fun h=>absurd h (T2 _))
 .have d:pz (fun e=>QX e x) l 0=((0+k:Nat):Int):=d;rw[we]at d;have g:([x]:List ej).length=1:=rfl;rw[d,show decide (((k:Nat):Int)<0)=false from aL (by omega),aa,ai,IX (k:=k) (a:=l.length) (b:=([x]:List ej).length) (by omega) (by simp) (by rw[g];omega),ad,gJ];dsimp only;rw[Ww (by simp only[aG,aW,bj,bc,bC];omega),ai];exact axD h (by omega) (fun i j n=>m i j n) (fun _=>f)
def aDj {l:mf}{x:ej}(h:axj (jw l x).2=false):(jw l x).1=l:=by
 revert h
 unfold jw;split
 .split
  .intro _;rfl
  .split
   .intro _;rfl
   .split
    .intro h;cases h
    .split
     .intro h;cases h
     .intro _;rfl
 .intro _;rfl
def ia:mf->Nat->List ej->List ej
 |_,_,[]=>[]|_,0,_=>[]|l,n+1,x::p=>if axj (jw l x).2=true then x::ia (jw l x).1 n p else ia l (n+1) p
def ZX (l:mf):∀p:List ej,ia l 0 p=[]
 |[]=>rfl|_::_=>rfl
def ZY {l:mf}{n:Nat}{p:List ej}{k:Nat}(a:k<p.length):ia l (n+1) (p.drop k)=if axj (jw l p[k]).2=true then p[k]::ia (jw l p[k]).1 n (p.drop (k+1)) else ia l (n+1) (p.drop (k+1)):=by rw[TX a,ia]
def agW {p:List ej}(b:p.length<=1048576):∀(j k:Nat) (xs:List ej) (l:mf) (n:Nat),k+j=p.length->xs.length<=2->aa3 l->j<n ->
  jR F0 (yC F0) n (gM p (k:Int) xs l.1 l.2)=some (xs++ia l (2-xs.length) (p.drop k),())
 |0,k,xs,l,n+1,f,d,a,g=>by
  obtain rfl:k=p.length:=by omega
  rw[EF,aE,aa,Gv,Yf];cases 2-xs.length<;>simp[ia]
 |j+1,k,xs,l,n+1,f,d,a,g=>by
  have hk':k<p.length:=by omega
  rw[EF,aP hk',ae,Gv];by_cases i:xs.length<2
  .obtain⟨m,e⟩:∃m,2-xs.length=m+1:=⟨1-xs.length,by omega⟩;have h:JN F0 (l.1,l.2) p[k]=some ((jw l p[k]).1,(jw l p[k]).2,()):=auO (l:=l) (by have:=a.1;omega) (by have:=a.2;omega) _;rw[aI (show(xs.length:Int)<2 by omega),ae,ao hk',ad,a8 hk',h,ai,ad,ax (by omega) (by omega) (by first|omega|(simp only[aG,aW,bj];omega)|(rw[bc,bC];omega)),ad,al (by omega),e,ZY hk'];dsimp only;rw[agW b j (k+1) (xs++[p[k]]) (jw l p[k]).1 n (by omega) (by simp;omega) (aGz a _) (by omega),agW b j (k+1) xs l n (by omega) d a (by omega),e,show 2-(xs++[p[k]]).length=m by simp;omega];unfold axj;cases (jw l p[k]).2==0<;>cases (jw l p[k]).2==4<;>simp[br]
  .rw[aL (show ¬(xs.length:Int)<2 by omega),aa,show 2-xs.length=0 by omega,ZX,fU]
def agX {p:List ej}(d:p.length<=1048576):∀(j k:Nat) (xs:List ej) (l:mf) (n:Nat),k+j=p.length->xs.length<=2->aa3 l->j<n ->
  jZ F0 (AQ F0) n (gP p (p.length:Int) (k:Int) l.1 l.2 xs)=some (xs++ia l (2-xs.length) (p.drop k),())
 |0,k,xs,l,n+1,g,e,a,h=>by
  obtain rfl:k=p.length:=by omega
  rw[E6,aE,aa,G6,Yf];cases 2-xs.length<;>simp[ia]
 |j+1,k,xs,l,n+1,g,e,a,h=>by
  have hk':k<p.length:=by omega
  rw[E6,aP hk',ae,G6,ao hk',ad];by_cases q:xs.length<2
  .obtain⟨m,f⟩:∃m,2-xs.length=m+1:=⟨1-xs.length,by omega⟩;have i:KD F0 (l.1,l.2) p[k]=some ((jw l p[k]).1,(jw l p[k]).2,()):=aon (l:=l) (by have:=a.1;omega) (by have:=a.2;omega) _;rw[bQ.2 (show(xs.length:Int)≠2 by omega),aa,a8 hk',i,ai,ax (by omega) (by omega) (by first|omega|(simp only[aG,aW,bj];omega)|(rw[bc,bC];omega)),ad,al (by omega),f,ZY hk'];dsimp only;rw[agX d j (k+1) (xs++[p[k]]) (jw l p[k]).1 n (by omega) (by simp;omega) (aGz a _) (by omega),agX d j (k+1) xs (jw l p[k]).1 n (by omega) e (aGz a _) (by omega),f,show 2-(xs++[p[k]]).length=m by simp;omega];have b:=aDj (l:=l) (x:=p[k]);unfold axj at b ⊢;cases o:(jw l p[k]).2==0<;>cases a:(jw l p[k]).2==4<;>simp[br]
   rw[o,a]at b;rw[b rfl]
  .rw[bg.2 (show(xs.length:Int)=2 by omega),ae,show 2-xs.length=0 by omega,ZX,fU]
def avm {p:List ej}(b:p.length<=1048576){l:mf}(a:aa3 l):oa F0 p l=some (ia l 2 p,()):=by rw[afk,aa2 (by have:=a.1;omega) (by have:=a.2;omega),ai];exact agW b p.length 0 [] l F0.n (by omega) (by simp) a (by rw[bH];omega)
def ara {p:List ej}(a:p.length<=1048576){l:mf}(b:aa3 l):oo F0 p l=some (ia l 2 p,()):=by rw[agm];exact agX a p.length 0 [] l F0.n (by omega) (by simp) b (by rw[bH];omega)
def RG:∀(p:List ej) (l:mf) (n:Nat),(ia l n p).length<=n
 |[],l,n=>by cases n<;>exact aO _
 |x::p,l,0=>bf _|x::p,l,n+1=>by
  unfold ia;split
  .rw[aW];have:=RG p (jw l x).1 n;omega
  .exact RG p l (n+1)
def ao4 (p:List ej)(l:mf):List ej:=p.filter fun x=>(jw l x).2 != 2
def avn {p:List ej}(e:p.length<=1048576){l:mf}(b:l.1.length<=1048576)(d:l.2.length<=1048576):Dp F0 p l=some (ao4 p l,()):=by
 rw[afA];refine ak1 (fun n k xs=>nK F0 (yX F0) n (ki p k l.1 l.2 xs)) p (fun x=>(jw l x).2 != 2) _ (fun n k xs a f=>?_) (fun n=>?_) _ (by rw[bH];omega)
 .rw[EK,aP a,ae,ao a,ad,ad,a8 a,show((l.1,l.2):mf)=l from rfl,auO b d,ai,ax (by omega) (by omega) (by first|omega|(simp only[aG,aW,bj];omega)|(rw[bc,bC];omega)),ad,al (by omega)];cases (jw l p[k]).2 != 2<;>rfl
 .rw[EK,aE,aa,XS];rfl
def arb {p:List ej}(e:p.length<=1048576){l:mf}(b:l.1.length<=1048576)(d:l.2.length<=1048576):iH F0 p l=some (ao4 p l,()):=by
 rw[agj];refine ak1 (fun n k xs=>nU F0 (AP F0) n (kB p (p.length:Int) k l.1 l.2 xs)) p (fun x=>(jw l x).2 != 2) _ (fun n k xs a f=>?_) (fun n=>?_) _ (by rw[bH];omega)
 .rw[E5,aP a,ae,ao a,ad,a8 a,show((l.1,l.2):mf)=l from rfl,aon b d,ai,ax (by omega) (by omega) (by first|omega|(simp only[aG,aW,bj];omega)|(rw[bc,bC];omega)),ad,al (by omega)];cases (jw l p[k]).2 != 2<;>rfl
 .rw[E5,aE,aa,X2];rfl
def dz (c:Int×Int)(view i:Int):List Int:=if 0<=bK c view i then ((List.range c.1.toNat).filter fun k:Nat=>decide (i∈adR c view (k:Int))).map fun k:Nat=>(k:Int) else []
def aiD {c:Int×Int}(a:bw c=true)(view i:Int):(dz c view i).length<=7:=by
 have:=b4 a;unfold dz;split
 .rw[s5];have:=alb (fun k:Nat=>decide (i∈adR c view (k:Int))) (List.range c.1.toNat);rw[Yd]at this;omega
 .exact aO _
def axE {γ:Type}(X:Nat->Int->List Int->Option γ)(N:Nat)(p:Nat->Bool)(R:Option γ)(hs:∀n k xs,k<N->xs.length<=k->X (n+1) (k:Int) xs=X n ((k+1:Nat):Int) (if p k=true then xs++[(k:Int)] else xs))
  (a:∀n,X (n+1) (N:Int) (((List.range N).filter p).map fun k:Nat=>(k:Int))=R) (n:Nat) (e:N<n):X n 0 []=R:=by
 refine cz X N (fun k xs=>xs=((List.range k).filter p).map fun k:Nat=>(k:Int)) R (fun n k xs b h=>.inr ⟨_,hs n k xs b (by rw[h,s5];exact bZ (alb _ _) (by rw[Yd];omega)),?_⟩) (fun n xs h=>?_) n 0 [] (aO _) rfl (by omega)
 .rw[List.range_succ,List.filter_append,ahg,h];cases d:p k<;>simp[d]
 .rw[h];exact a n
def aDk {c:Int×Int}(b:bw c=true)(view i:Int):Q7 F0 c view i=some (dz c view i,()):=by
 have e:=b4 b;have f:(c.1.toNat:Int)=c.1:=by omega
 rw[aqs,hV,ai,b,aH,aa];unfold dz;by_cases a:0<=bK c view i
 .rw[ag a];refine axE (fun n k xs=>yR F0 (JX F0) n (pO view i k c.1 c.2 xs)) c.1.toNat (fun k:Nat=>decide (i∈adR c view (k:Int))) _ (fun n k xs g h=>?_) (fun n=>?_) F0.n (by rw[bH];omega)
  .rw[yS,aI (show(k:Int)<c.1 by omega),ae,show((c.1,c.2):Int×Int)=c from rfl,Wu,ai,aI (show bK c view i>=0 from a),ae,aGA,ai,fg (by have:=ar9 c view k;dsimp only;omega),ai,ax (by omega) (by omega) (by first|omega|(simp only[aG,aW,bj];omega)|(rw[bc,bC];omega)),ad,al (by omega)];dsimp only;cases decide (i∈adR c view (k:Int))<;>rfl
  .rw[yS,aL (show ¬(c.1.toNat:Int)<c.1 by omega),aa,O9]
 .obtain⟨m,d⟩:∃m,F0.n=m+1:=⟨F0.n-1,by rw[bH]⟩;rw[af a,d,yS,aI (show(0:Int)<c.1 by omega),ae,show((c.1,c.2):Int×Int)=c from rfl,Wu,ai,aL (show ¬bK c view i>=0 from a),aa,O9]
def azX {c:Int×Int}(b:bw c=true)(view i:Int):Rj F0 c view i=some (dz c view i,()):=by
 have e:=b4 b;have f:(c.1.toNat:Int)=c.1:=by omega
 rw[aqR];unfold dz;by_cases a:0<=bK c view i
 .rw[ag a];refine axE (fun n k xs=>AL F0 (Kv F0) n (p6 view i k c.1 c.2 xs)) c.1.toNat (fun k:Nat=>decide (i∈adR c view (k:Int))) _ (fun n k xs g h=>?_) (fun n=>?_) F0.n (by rw[bH];omega)
  .rw[AM,show((c.1,c.2):Int×Int)=c from rfl,IZ,ai,aI (show bK c view i>=0 from a),ae,aI (show(k:Int)<c.1 by omega),ae,aEJ,ai,eM (by have:=ar9 c view k;dsimp only;omega),ai,ax (by omega) (by omega) (by first|omega|(simp only[aG,aW,bj];omega)|(rw[bc,bC];omega)),ad,al (by omega)];dsimp only;cases decide (i∈adR c view (k:Int))<;>rfl
  .rw[AM,show((c.1,c.2):Int×Int)=c from rfl,IZ,ai,aI (show bK c view i>=0 from a),ae,aL (show ¬(c.1.toNat:Int)<c.1 by omega),aa,PY]
 .obtain⟨m,d⟩:∃m,F0.n=m+1:=⟨F0.n-1,by rw[bH]⟩;rw[af a,d,AM,show((c.1,c.2):Int×Int)=c from rfl,IZ,ai,aL (show ¬bK c view i>=0 from a),aa,PY]
def Oa {c:Int×Int}{q:b1}(h:eN c q=true):tK q:=⟨(sF h).1.n,(sF h).1.w⟩
def Fk {c:Int×Int}{q:b1}(h:hX c q=true):q.2.1.size<=1048576/\q.2.2.length<=1000:=⟨(Xt h).1.n,bZ (Xt h).2.1 (by omega)⟩
def axF {c:Int×Int}{s:a1}(h:bh c s=true):jJ s:=⟨Oa (cB h).2.2.1,bZ (j1 (cB h).2.2.2) (by omega)⟩
def I4 {c:Int×Int}{b:ca}(h:fj c b=true):b.1.size<=1048576/\tK b.2:=by simp only[fj,aA]at h;exact⟨bZ (j1 h.2.1) (by omega),Oa h.1⟩
def fl:tK b8:=⟨aO _,aO _⟩
def avo {c:Int×Int}{m:bW}(h:cV c m=true):fT m:=by
 unfold cV at h;simp only[aA]at h;obtain⟨i,f,a⟩:=h;have g:=abf f;rw[<-g];by_cases b:m.1=1
 .rw[ag (by simpa using b)]at a;have:=I4 a;simp only[named,b];exact⟨this.1,this.2,fl,fl⟩
 .by_cases d:m.1=2
  .rw[af (by simpa using b),ag (by simpa using d)]at a;simp only[aA]at a;have:=Fk a.1;simp only[named,d];exact⟨aO _,fl,⟨this.1,by show m.2.2.2.1.2.2.length<=_;omega⟩,fl⟩
  .by_cases e:m.1=3
   .rw[af (by simpa using b),af (by simpa using d),ag (by simpa using e)]at a;simp only[aA]at a;simp only[named,e];exact⟨aO _,fl,fl,Oa a.2.1⟩
   .rw[af (by simpa using b),af (by simpa using d),af (by simpa using e)]at a;simp only[aA,bg]at a;simp only[named,a.1];exact⟨aO _,fl,fl,fl⟩
def ass {U:Type}{d:U}{p:U->Bool}{q:U->U->Bool}{l:List U}(h:Wv d p q l=true):∀x∈l,p x=true:=fun x a=>by obtain⟨k,b,rfl⟩:=ahe a;exact((agV d p q l).1 h).1 k b
def vx {c:Int×Int}{l:List b1}(h:eD c l=true):azV l:=by simp only[eD,aA,bR]at h;exact⟨by omega,fun q a=>Fk (ass h.1 q a)⟩
def abm {l:List ej}(h:eP l=true):l.length<=12/\∀x∈l,gm x=true:=by simp only[eP,aA,bR]at h;exact⟨by omega,ass h.1⟩
structure aE2 (c:Int×Int) (r:ar):Prop where
 cf:bw c=true
 i:eF 0 (aj (c.1-1)) r.1=true
 v:eF 1 60 r.2.1=true
 a:eF 0 60 r.2.2.1=true
 s:bh c r.2.2.2.1=true
 p:eP r.2.2.2.2.1=true
 t:eD c r.2.2.2.2.2.1=true
 d:fi r.2.2.2.2.2.2.1=true
 n:r.2.2.2.2.2.2.2.length<=30
 h:∀x∈r.2.2.2.2.2.2.2,KW c r.1 x=true
def CF {c:Int×Int}{r:ar}:mh c r=true↔aE2 c r:=by
 unfold mh;simp only[aA,Yc,avT,fq];constructor
 .rintro⟨a,b,d,e,f,g,i,j,l,k⟩;exact⟨a,b,d,e,f,g,i,j,by omega,k⟩
 .intro h;exact⟨h.cf,h.i,h.v,h.a,h.s,h.p,h.t,h.d,by have:=h.n;omega,h.h⟩
structure aX (c:Int×Int) (r:ar):Prop where
 f:aE2 c r
 b:∀x∈r.2.2.2.2.2.2.1.1,0<=x/\x<=255
def aX.ok {c:Int×Int}{r:ar}(h:aX c r):mh c r=true:=CF.2 h.f
def axG {c:Int×Int}{i:Int}{x:gQ}(h:KW c i x=true):cV c x.2=true:=by simp only[KW,aA]at h;exact h.1
def aE2.l {c:Int×Int}{r:ar}(h:aE2 c r):aoA r :=
 ⟨axF h.s,bZ (abm h.p).1 (by omega),bZ (vx h.t).1 (by omega),fun q a=>(vx h.t).l a,bZ h.n (by omega),fun q a=>avo (axG (h.h q a))⟩
def aX.bt {c:Int×Int}{r:ar}(h:aX c r):aDb r:=⟨h.f.l,⟨bZ (c8.1 h.f.d).1 (by omega),h.b⟩⟩
def aX.l {c:Int×Int}{r:ar}(h:aX c r):aoA r:=h.f.l
def WL (c:Int×Int)(r:ar)(a:Int)(m:bW):Bool:=decide (r.2.2.2.2.2.2.2.length<30)&&(cV c m&&(eF 0 (aj (c.1-1)) a&& !(a==r.1)))
def vy (r:ar)(p:gQ):ar:=(r.1,r.2.1,r.2.2.1,r.2.2.2.1,r.2.2.2.2.1,r.2.2.2.2.2.1,r.2.2.2.2.2.2.1,r.2.2.2.2.2.2.2++[p])
def jN (c:Int×Int)(r:ar)(a:Int)(m:bW):ar×Bool:=if WL c r a m=true then (vy r (a,m),true) else (r,false)
def NA {r:ar}(d:r.2.2.2.2.2.2.2.length<=1048576){m:bW}(b:fT m)(c:Int×Int)(a:Int):e8 F0 c r a m=some (((jN c r a m).1,(jN c r a m).2,()),()):=by
 rw[ajD,I1 b,ai,cO,ai,aix b,ai,ax (by omega) (by omega) (by first|omega|(simp only[aG,aW,bj];omega)|(rw[bc,bC];omega)),ad];unfold jN WL;by_cases h:r.2.2.2.2.2.2.2.length<30
 .rw[aL (show ¬(r.2.2.2.2.2.2.2.length:Int)>=30 by omega),aI h];cases cV c m<;>cases eF 0 (aj (c.1-1)) a<;>cases (a==r.1)<;>rfl
 .rw[aI (show(r.2.2.2.2.2.2.2.length:Int)>=30 by omega),aL h];rfl
def ao5 {c:Int×Int}{r:ar}(h:aE2 c r)(a:Int)(m:bW):mh c (vy r (a,m))=WL c r a m:=by
 unfold WL;by_cases f:r.2.2.2.2.2.2.2.length<30
 .rw[aI f,eS];have e:(cV c m&&(eF 0 (aj (c.1-1)) a&& !(a==r.1)))=KW c r.1 (a,m):=rfl;rw[e];cases g:KW c r.1 (a,m) with
  |true=>exact CF.2 ⟨h.cf,h.i,h.v,h.a,h.s,h.p,h.t,h.d,by simp[vy];omega,fun x b=>by
    rcases gK.1 b with b|b
    .exact h.h x b
    .rw[fA.1 b];exact g⟩
  |false =>
   cases d:mh c (vy r (a,m)) with
   |false=>rfl
   |true =>
    have:=(CF.1 d).h (a,m) (by simp[vy]);exact absurd this (by show ¬KW c r.1 (a,m)=true;rw[g];decide)
 .rw[aL f];cases d:mh c (vy r (a,m)) with
  |false=>rfl
  |true =>
   have:=(CF.1 d).n;simp[vy]at this;omega
def aX.told {c:Int×Int}{r:ar}(h:aX c r)(a:Int)(m:bW):aX c (jN c r a m).1:=by
 unfold jN;cases b:WL c r a m with
 |false=>exact h
 |true =>
  have:=ao5 h.f a m;rw[b]at this;exact⟨CF.1 this,h.b⟩
def Xw {c:Int×Int}{r:ar}(h:aX c r){m:bW}(d:fT m)(a:Int):l9 F0 c r a m=some ((jN c r a m).1,(jN c r a m).2,()):=by
 have f:=h.f.n;have e:aoA (vy r (a,m)):=⟨h.l.s,h.l.p,h.l.t,h.l.tq,by simp[vy];omega,fun q b=>by
  rcases gK.1 b with b|b
  .exact h.l.hm q b
  .rw[fA.1 b];exact d⟩
 have cW:cq F0 c (vy r (a,m))=some (WL c r a m,()):=by rw[dJ e,ao5 h.f]
 rw[auu,dN h.bt,ai,aiy d,ai,ax (by omega) (by omega) (by first|omega|(simp only[aG,aW,bj];omega)|(rw[bc,bC];omega)),ad];dsimp only;rw[show((r.1,r.2.1,r.2.2.1,r.2.2.2.1,r.2.2.2.2.1,r.2.2.2.2.2.1,r.2.2.2.2.2.2.1,r.2.2.2.2.2.2.2++[(a,m)]):ar)=vy r (a,m) from rfl,cW,ai,ai];unfold jN;cases WL c r a m<;>rfl
def put (r:ar)(s:a1):ar:=(r.1,r.2.1,r.2.2.1,s,r.2.2.2.2.1,r.2.2.2.2.2.1,(r.2.2.2.2.2.2.1.1++dv s,r.2.2.2.2.2.2.1.2),r.2.2.2.2.2.2.2)
def fD (c:Int×Int)(r:ar)(s:a1):ar×Bool :=
 if ey r.2.2.2.1 s=true then (r,true) else if bh c s=true/\r.2.2.2.2.2.2.1.1.length+(dv s).length<=100000 then (put r s,true) else (r,false)
def ao6 (c:Int×Int)(s:a1):(WJ c s).length<=12010:=by
 unfold WJ;split
 .rename_i h;exact(agS h).2
 .exact aO _
def ao7 {c:Int×Int}{r:ar}{s:a1}(h:ey r.2.2.2.1 s=true):fD c r s=(r,true):=ag h
def ast {c:Int×Int}{r:ar}{s:a1}(h:ey r.2.2.2.1 s=false)(a:bh c s=true)(b:r.2.2.2.2.2.2.1.1.length+(dv s).length<=100000):fD c r s=(put r s,true):=by unfold fD;rw[h,af (by decide),ag ⟨a,b⟩]
def aek {c:Int×Int}{r:ar}{s:a1}(h:ey r.2.2.2.1 s=false)(a:¬(bh c s=true/\r.2.2.2.2.2.2.1.1.length+(dv s).length<=100000)):fD c r s=(r,false):=by unfold fD;rw[h,af (by decide),af a]
def ael {d:pr}{b:List Int}(h:fi d=true)(a:d.1.length+b.length<=100000):Nx d b=((d.1++b,d.2),true):=ag ⟨h,a⟩
def aBV {d:pr}{b:List Int}(a:¬d.1.length+b.length<=100000):Nx d b=(d,false):=af fun h=>a h.2
def RH {c:Int×Int}{s:a1}(h:bh c s=true):WJ c s=dv s:=ag h
def asu {c:Int×Int}{s:a1}(h:bh c s=false):WJ c s=[]:=af (by rw[h];decide)
def RJ {c:Int×Int}{r:ar}(h:aX c r){s:a1}(hs:jJ s):ep F0 c r s=some (if (fD c r s).2=true then ((fD c r s).1,true,ad4) else (ad4,false,r)):=by
 have e:=ao6 c s;have f:=h.bt.d.1;have g:=(c8.1 h.f.d).1;rw[afr,au3 h.l.s hs,ai,aq7 hs,ai,azT f (bZ e (by omega)),ai,Cx hs,ai,Ns hs,ai];cases b:ey r.2.2.2.1 s with
 |true =>
  rw[ao7 b];rfl
 |false =>
  cases a:bh c s with
  |false =>
   rw[aek b (fun h=>by rw[a]at h;cases h.1),asu a,ael h.f.d (by rw[bj];omega)];rfl
  |true =>
   by_cases d:r.2.2.2.2.2.2.1.1.length+(dv s).length<=100000
   .rw[ast b a d,RH a,ael h.f.d d];rfl
   .rw[aek b (fun h=>d h.2),RH a,aBV d];rfl
def arc (a b:a1):ey a b=ey b a:=by unfold ey;rw[No,show(a.1==b.1)=(b.1==a.1) from sQ,show(a.2.1==b.2.1)=(b.2.1==a.2.1) from sQ,show(a.2.2.2.toList==b.2.2.2.toList)=(b.2.2.2.toList==a.2.2.2.toList) from sQ]
def aX.put {c:Int×Int}{r:ar}(h:aX c r){s:a1}(hs:bh c s=true)(a:r.2.2.2.2.2.2.1.1.length+(dv s).length<=100000):aX c (put r s):=by
 refine⟨⟨h.f.cf,h.f.i,h.f.v,h.f.a,hs,h.f.p,h.f.t,c8.2 ⟨?_,(c8.1 h.f.d).2.1,?_⟩,h.f.n,h.f.h⟩,eO h.b (axt s)⟩
 .show(r.2.2.2.2.2.2.1.1++dv s).length<=_;rw[aG];exact a
 .show r.2.2.2.2.2.2.1.2<=((r.2.2.2.2.2.2.1.1++dv s).length:Int);have:=(c8.1 h.f.d).2.2;rw[aG];omega
def aX.wrote {c:Int×Int}{r:ar}(h:aX c r)(s:a1):aX c (fD c r s).1:=by
 unfold fD;split
 .exact h
 .split
  .rename_i a;exact h.put a.1 a.2
  .exact h
def abn {c:Int×Int}{r:ar}(h:aX c r){s:a1}(hs:jJ s):vS F0 c r s=some ((fD c r s).1,(fD c r s).2,()):=by
 have f:=ao6 c s;have g:=h.bt.d.1;have l:=(c8.1 h.f.d).1;rw[aqO,dN h.bt,ai,dJ h.l,ai,h.ok,aH,aa,ZS hs,ai,aoY hs,ai,axz g (bZ f (by omega)),ai,ID hs,ai,ai,arc];dsimp only;have i:∀d:pr,cq F0 c (r.1,r.2.1,r.2.2.1,s,r.2.2.2.2.1,r.2.2.2.2.2.1,d,r.2.2.2.2.2.2.2)=some (mh c (r.1,r.2.1,r.2.2.1,s,r.2.2.2.2.1,r.2.2.2.2.2.1,d,r.2.2.2.2.2.2.2),()):=fun d =>
  dJ (r:=(r.1,r.2.1,r.2.2.1,s,r.2.2.2.2.1,r.2.2.2.2.2.1,d,r.2.2.2.2.2.2.2)) ⟨hs,h.l.p,h.l.t,h.l.tq,h.l.h,h.l.hm⟩ c
 rw[i,ai];cases e:ey r.2.2.2.1 s with
 |true =>
  rw[ao7 e];rfl
 |false =>
  cases a:bh c s with
  |false =>
   have bad:∀d:pr,mh c (r.1,r.2.1,r.2.2.1,s,r.2.2.2.2.1,r.2.2.2.2.2.1,d,r.2.2.2.2.2.2.2)=false:=fun d=>by
    cases j:mh c (r.1,r.2.1,r.2.2.1,s,r.2.2.2.2.1,r.2.2.2.2.2.1,d,r.2.2.2.2.2.2.2) with
    |false=>rfl
    |true =>
     have:=(CF.1 j).s;exact absurd this (by show ¬bh c s=true;rw[a];decide)
   rw[aek e (fun h=>by rw[a]at h;cases h.1),asu a,ael h.f.d (by rw[bj];omega),bad];rfl
  |true =>
   by_cases b:r.2.2.2.2.2.2.1.1.length+(dv s).length<=100000
   .have k:=(h.put a b).ok;rw[ast e a b,RH a,ael h.f.d b];dsimp only;rw[show mh c (r.1,r.2.1,r.2.2.1,s,r.2.2.2.2.1,r.2.2.2.2.2.1,(r.2.2.2.2.2.2.1.1++dv s,r.2.2.2.2.2.2.1.2),r.2.2.2.2.2.2.2)=true from k];rfl
   .rw[aek e (fun h=>b h.2),RH a,aBV b];rfl
def azY {b:ByteArray}(h:(gS b).2=true):bd (gS b).1.data.toList=true:=by
 unfold gS at h ⊢;split at h
 .rename_i a;rw[ag a];have e:bd b.data.toList=true:=by
   unfold I3 at a;cases d:(aZ b.data.toList).2 with
   |true=>exact d|false=>rw[Wq d]at a;cases a
  show bd (upB (upB b)).data.toList=true;unfold upB;rw[e3,e3];exact CC (CC e)
 .cases h
def aIn {c:Int×Int}{s:a1}(h:bh c s=true)(q:b1):bh c (Nw c s q)=true:=by
 unfold Nw;split
 .rename_i a;obtain⟨b,g,d,e⟩:=cB h;have i:=oq (fv q.2.1.data.toList);simp only[bh,eF,aA,bR];refine⟨b,?_,?_,?_⟩
  .unfold pw;split<;>omega
  .unfold Eh;split
   .exact a.2
   .exact d
  .split
   .rename_i f;exact azY f.1
   .exact e
 .exact h
def q4 (r:ar)(v:Int):ar:=(r.1,pw r.2.1 v,r.2.2)
def aX.raised {c:Int×Int}{r:ar}(h:aX c r){v:Int}(a:v<=60):aX c (q4 r v):=by refine⟨⟨h.f.cf,h.f.i,?_,h.f.a,h.f.s,h.f.p,h.f.t,h.f.d,h.f.n,h.f.h⟩,h.b⟩;have:=h.f.v;simp only[eF,aA,bR]at this;show eF 1 60 (pw r.2.1 v)=true;simp only[eF,aA,bR];unfold pw;split<;>omega
def jE (v:Int)(q:b1)(cu:Int):bW:=(3,v,(ak,b8),b8,q,cu,pt)
def A9 (p:b1):bW:=(2,0,(ak,b8),p,b8,0,pt)
def aem (b:ca):bW:=(1,0,b,b8,b8,0,pt)
def Qv {v:Int}{q:b1}(h:tK q)(cu:Int):fT (jE v q cu):=⟨aO _,fl,fl,h⟩
def agY {p:b1}(h:tK p):fT (A9 p):=⟨aO _,fl,h,fl⟩
def abo {b:ca}(a:b.1.size<=1048576)(d:tK b.2):fT (aem b):=⟨a,d,fl,fl⟩
def written (c:Int×Int)(r:ar)(q:b1):ar×Bool:=fD c r (Nw c r.2.2.2.1 q)
def my (c:Int×Int)(r:ar)(q:b1):ar×Bool :=
 if (written c r q).2=true then
  if aj (q.1+1)>60 then ((written c r q).1,true)
  else if bY c (aj (q.1+1))=r.1 then (q4 (written c r q).1 (aj (q.1+1)),true)
  else jN c (q4 (written c r q).1 (aj (q.1+1))) (bY c (aj (q.1+1))) (jE (aj (q.1+1)) q r.1)
 else (r,false)
def aen {c:Int×Int}{r:ar}{s:a1}:(fD c r s).1.1=r.1:=by
 unfold fD;split
 .rfl
 .split<;>rfl
def WM (c:Int×Int)(p:b1):Bool:= !dd p.2.1&&eN c p
def asv (b:ByteArray):dd b=decide (b.data.toList=[]):=by
 cases h:dd b with
 |true=>rw[aI ((q3 b).1 h)]
 |false =>
  rw[aL];intro a;rw[(q3 b).2 a]at h;cases h
def aDl {p:b1}(h:tK p)(c:Int×Int):EJ F0 c p=some (if WM c p=true then p else b8,WM c p,()):=by
 have:=azs (v:=p.1) (l:=p.2.1.data.toList) (s:=p.2.2) (TF h.1) (bZ h.2 (by omega)) c;rw[show((p.1,tx p.2.1.data.toList,p.2.2):b1)=p from rfl]at this;rw[this];unfold WM eN Wr;rw[asv];by_cases a:p.2.1.data.toList=[]
 .rw[af (fun b=>b.1 a),aI a];rfl
 .rw[aL a];cases d:X9 c (p.1,p.2.1.data.toList,p.2.2) with
  |true=>rw[ag ⟨a,rfl⟩];rfl|false=>rw[af (fun b=>by cases b.2)];rfl
def azZ {p:b1}(h:tK p)(c:Int×Int):E4 F0 c p=some (if WM c p=true then p else b8,WM c p,()):=by
 have:=awV (v:=p.1) (l:=p.2.1.data.toList) (s:=p.2.2) (TF h.1) (bZ h.2 (by omega)) c;rw[show((p.1,tx p.2.1.data.toList,p.2.2):b1)=p from rfl]at this;rw[this];unfold WM eN Wr;rw[asv];by_cases a:p.2.1.data.toList=[]
 .rw[af (fun b=>b.1 a),aI a];rfl
 .rw[aL a];cases d:X9 c (p.1,p.2.1.data.toList,p.2.2) with
  |true=>rw[ag ⟨a,rfl⟩];rfl|false=>rw[af (fun b=>by cases b.2)];rfl
def aX.w {c:Int×Int}{r:ar}(h:aX c r)(q:b1):aX c (written c r q).1:=h.wrote _
def ao8 {c:Int×Int}{r:ar}(h:aX c r)(q:b1):jJ (Nw c r.2.2.2.1 q):=axF (aIn h.f.s q)
def az0 {c:Int×Int}{r:ar}(h:aX c r){p:b1}(d:tK p):L3 F0 c r p=some (if WM c p=true then ((my c r p).1,(my c r p).2,()) else (r,false,()),()):=by
 rw[amR,aDl d,ai];cases g:WM c p with
 |false=>rfl
 |true =>
  dsimp only;rw[aH,aa,ag rfl,ag rfl,avg h.l.s d,ai,RJ h (ao8 h p),ai];have e:aX c (written c r p).1:=h.w p;unfold my;unfold written at e ⊢;generalize fD c r (Nw c r.2.2.2.1 p)=W at e ⊢;cases i:W.2 with
  |false=>rw[af (by decide),af (by decide)];rfl
  |true =>
   have f:e8 F0 c (W.1.1,pw W.1.2.1 (aj (p.1+1)),W.1.2.2) (bY c (aj (p.1+1))) (3,aj (p.1+1),(ak,0,ak,[]),(0,ak,[]),p,r.1,0,0,0,0)=some (((jN c (q4 W.1 (aj (p.1+1))) (bY c (aj (p.1+1))) (jE (aj (p.1+1)) p r.1)).1,(jN c (q4 W.1 (aj (p.1+1))) (bY c (aj (p.1+1))) (jE (aj (p.1+1)) p r.1)).2,()),()) :=
    NA (r:=q4 W.1 (aj (p.1+1))) (bZ e.f.n (by omega)) (Qv (v:=aj (p.1+1)) d r.1) c (bY c (aj (p.1+1)))
   rw[ag rfl,ag rfl];simp only[ai,KR,CE,f,ae];by_cases a:aj (p.1+1)>60
   .rw[aI a,ae,ag a]
   .rw[aL a,aa,af a];by_cases b:bY c (aj (p.1+1))=r.1
    .rw[ag b,bg.2 b,ae];rfl
    .rw[af b,bQ.2 b,aa]
def az1 {c:Int×Int}{r:ar}(h:aX c r){q:b1}(f:tK q):Ku F0 c r q=some ((my c r q).1,(my c r q).2,()):=by
 have e:aX c (written c r q).1:=h.w q;rw[aqP,aoZ h.l.s f,ai,abn h (ao8 h q),ai];unfold my;unfold written at e ⊢;generalize fD c r (Nw c r.2.2.2.1 q)=W at e ⊢;obtain⟨a,g⟩:=W;cases g with
 |false=>rfl
 |true =>
  show _=some ((if aj (q.1+1)>60 then (a,true) else if bY c (aj (q.1+1))=r.1 then (q4 a (aj (q.1+1)),true) else jN c (q4 a (aj (q.1+1))) (bY c (aj (q.1+1))) (jE (aj (q.1+1)) q r.1)).1,(if aj (q.1+1)>60 then (a,true) else if bY c (aj (q.1+1))=r.1 then (q4 a (aj (q.1+1)),true) else jN c (q4 a (aj (q.1+1))) (bY c (aj (q.1+1))) (jE (aj (q.1+1)) q r.1)).2,());by_cases b:aj (q.1+1)>60
  .rw[aI b,ag b];rfl
  .have i:l9 F0 c (a.1,(if aj (q.1+1)>a.2.1 then aj (q.1+1) else a.2.1,a.2.2)) (bY c (aj (q.1+1))) (3,aj (q.1+1),(ak,0,ak,[]),(0,ak,[]),q,r.1,0,0,0,0)=some ((jN c (q4 a (aj (q.1+1))) (bY c (aj (q.1+1))) (jE (aj (q.1+1)) q r.1)).1,(jN c (q4 a (aj (q.1+1))) (bY c (aj (q.1+1))) (jE (aj (q.1+1)) q r.1)).2,()) :=
    Xw (e.raised (v:=aj (q.1+1)) (by omega)) (Qv (v:=aj (q.1+1)) f r.1) (bY c (aj (q.1+1)))
   rw[aL b,af b];simp only[ai,IY,i,aa,aH];by_cases d:bY c (aj (q.1+1))=r.1
   .rw[ag d,show(bY c (aj (q.1+1)) != r.1)=false by simp[d],aa];rfl
   .rw[af d,show(bY c (aj (q.1+1)) != r.1)=true by simp[d],ae]
def aX.aGW {c:Int×Int}{r:ar}(h:aX c r)(q:b1):aX c (my c r q).1:=by
 unfold my;split
 .split
  .exact h.w q
  .split
   .exact(h.w q).raised (by omega)
   .exact((h.w q).raised (by omega)).told _ _
 .exact h
def ez (c:Int×Int)(r:ar)(view:Int)(name:ByteArray)(push:Bool):ar×Bool :=
 if (df r.2.2.2.2.2.1 view name).2.2.length=0\/dd name=true then (r,false)
 else if bY c view=r.1 then
  if WM c (df r.2.2.2.2.2.1 view name)=true/\(my c r (df r.2.2.2.2.2.1 view name)).2=true then ((my c r (df r.2.2.2.2.2.1 view name)).1,true) else (r,false)
 else if push=false/\cmn (df r.2.2.2.2.2.1 view name).2.2 (dz c view r.1)<(dz c view r.1).length then (r,false)
 else jN c r (Qo c view r.1) (A9 (df r.2.2.2.2.2.1 view name))
section
variable {c:Int×Int} {r:ar} {view:Int} {name:ByteArray} {push:Bool} {p:b1} (hP:df r.2.2.2.2.2.1 view name=p)
include hP
def aeo (h:p.2.2.length=0\/dd name=true):ez c r view name push=(r,false):=by subst hP;exact ag h
def avp (a:¬(p.2.2.length=0\/dd name=true))(b:bY c view=r.1)(h:WM c p=true/\(my c r p).2=true):ez c r view name push=((my c r p).1,true):=by subst hP;unfold ez;rw[af a,ag b,ag h]
def aep (a:¬(p.2.2.length=0\/dd name=true))(b:bY c view=r.1)(h:¬(WM c p=true/\(my c r p).2=true)):ez c r view name push=(r,false):=by subst hP;unfold ez;rw[af a,ag b,af h]
def avq (a:¬(p.2.2.length=0\/dd name=true))(b:¬bY c view=r.1)(h:push=false/\cmn p.2.2 (dz c view r.1)<(dz c view r.1).length):ez c r view name push=(r,false):=by subst hP;unfold ez;rw[af a,af b,ag h]
def aeq (a:¬(p.2.2.length=0\/dd name=true))(b:¬bY c view=r.1)(h:¬(push=false/\cmn p.2.2 (dz c view r.1)<(dz c view r.1).length)):ez c r view name push=jN c r (Qo c view r.1) (A9 p):=by subst hP;unfold ez;rw[af a,af b,af h]
end
def axH {l:List b1}(a:∀q∈l,tK q){name:ByteArray}(b:name.size<=1048576)(view:Int):tK (df l view name):=by
 unfold df;cases h:l.find? (fun x=>(x.1==view)&&(x.2.1.toList==name.toList)) with
 |none=>exact⟨b,aO _⟩|some x=>exact a x (TW h)
def aX.avr {c:Int×Int}{r:ar}(h:aX c r)(view:Int)(name:ByteArray)(push:Bool):aX c (ez c r view name push).1:=by
 unfold ez;split
 .exact h
 .split
  .split
   .exact h.aGW _
   .exact h
  .split
   .exact h
   .exact h.told _ _
def RL {c:Int×Int}{r:ar}(h:aX c r)(view:Int){name:ByteArray}(n:name.size<=1048576)(push:Bool) :
  ∃x,og F0 c r view name push=some ((x,(ez c r view name push).2,()),())/\((ez c r view name push).2=true->x=(ez c r view name push).1):=by
 have g:=axH h.l.tq n view;have s:=aiD h.f.cf view r.1;have o:=NA (r:=r) (bZ h.f.n (by omega)) (agY g) c (Qo c view r.1);have q:((e8 F0 c r (Qo c view r.1) (2,0,(ak,0,ak,[]),df r.2.2.2.2.2.1 view name,(0,ak,[]),0,0,0,0,0)).bind fun i=>some ((i.1.1,i.1.2.1,()),()))=some (((jN c r (Qo c view r.1) (A9 (df r.2.2.2.2.2.1 view name))).1,(jN c r (Qo c view r.1) (A9 (df r.2.2.2.2.2.1 view name))).2,()),()):=by refine BD (oF (fun x=>Option.bind x _) o) ?_;rfl
 rw[afv,RF h.l.t h.l.tq,ai,KR,ai,az0 h g,ai,aDk h.f.cf,ai,azt (a:=dz c view r.1) (by omega) g.2,ai,aEH];simp only[ai,q];generalize hP:df r.2.2.2.2.2.1 view name=p at *;by_cases j:p.2.2.length=0
 .rw[aeo hP (.inl j),show((p.2.2.length:Int)==0)=true from bg.2 (by omega),ae];exact⟨r,rfl,fun h=>by cases h⟩
 .rw[show((p.2.2.length:Int)==0)=false from bQ.2 (by omega),aa];cases f:dd name with
  |true =>
   rw[aeo hP (.inr f),show(name.toList==ak.toList)=true from f,ae];exact⟨r,rfl,fun h=>by cases h⟩
  |false =>
   have e:¬(p.2.2.length=0\/dd name=true):=fun b=>b.elim j (by rw[f];decide)
   rw[show(name.toList==ak.toList)=false from f,aa];by_cases d:bY c view=r.1
   .rw[bg.2 d,ae];cases k:WM c p with
    |false =>
     rw[aep hP e d (fun b=>by rw[k]at b;cases b.1)];exact⟨r,rfl,fun h=>by cases h⟩
    |true =>
     cases l:(my c r p).2 with
     |false =>
      rw[aep hP e d (fun b=>by rw[l]at b;cases b.2)];exact⟨_,rfl,fun h=>by cases h⟩
     |true =>
      rw[avp hP e d ⟨k,l⟩];exact⟨_,rfl,fun _=>rfl⟩
   .rw[bQ.2 d,aa];cases push with
    |true =>
     rw[aeq hP e d (fun b=>by cases b.1)];exact⟨_,rfl,fun _=>rfl⟩
    |false =>
     by_cases m:cmn p.2.2 (dz c view r.1)<(dz c view r.1).length
     .rw[avq hP e d ⟨rfl,m⟩,ea,ae,aI (show(cmn p.2.2 (dz c view r.1):Int)<(dz c view r.1).length by omega),ae];exact⟨r,rfl,fun h=>by cases h⟩
     .rw[aeq hP e d (fun b=>m b.2),ea,ae,aL (show ¬(cmn p.2.2 (dz c view r.1):Int)<(dz c view r.1).length by omega),aa];exact⟨_,rfl,fun _=>rfl⟩
def aDm {c:Int×Int}{r:ar}(h:aX c r)(view:Int){name:ByteArray}(a:name.size<=1048576)(push:Bool):Q8 F0 c r view name push=some (if (ez c r view name push).2=true then ((ez c r view name push).1,true,()) else (r,false,())):=by
 obtain⟨x,b,d⟩:=RL h view a push;rw[aqA,gR h.l,ai,h.ok,aH,aa,dM h.bt,ai,b,ai,ai];cases e:(ez c r view name push).2 with
 |true=>rw[d e];rfl|false=>rfl
def abp {c:Int×Int}{r:ar}(h:aX c r)(view:Int){name:ByteArray}(n:name.size<=1048576)(push:Bool):ni F0 c r view name push=some ((ez c r view name push).1,(ez c r view name push).2,()):=by
 have f:=axH h.l.tq n view;have t:=aiD h.f.cf view r.1;have o:=Xw h (agY f) (Qo c view r.1);have q:((l9 F0 c r (Qo c view r.1) (2,0,(ak,0,ak,[]),df r.2.2.2.2.2.1 view name,(0,ak,[]),0,0,0,0,0)).bind fun i=>some (i.1,i.2.1,()))=some ((jN c r (Qo c view r.1) (A9 (df r.2.2.2.2.2.1 view name))).1,(jN c r (Qo c view r.1) (A9 (df r.2.2.2.2.2.1 view name))).2,()):=by refine BD (oF (fun x=>Option.bind x _) o) ?_;rfl
 have s:Ku F0 c r (if WM c (df r.2.2.2.2.2.1 view name)=true then df r.2.2.2.2.2.1 view name else b8)=some ((my c r (if WM c (df r.2.2.2.2.2.1 view name)=true then df r.2.2.2.2.2.1 view name else b8)).1,(my c r (if WM c (df r.2.2.2.2.2.1 view name)=true then df r.2.2.2.2.2.1 view name else b8)).2,()):=az1 h (by split;exact f;exact fl);rw[aqT,ZW h.l.t h.l.tq,ai,dN h.bt,ai,dJ h.l,ai,h.ok,aH,aa,IY,ai,azZ f,ai,azX h.f.cf,ai,aw0 (a:=dz c view r.1) (by omega) f.2,ai,aBK];simp only[ai,q,s];generalize hP:df r.2.2.2.2.2.1 view name=p at *;by_cases j:p.2.2.length=0
 .rw[aeo hP (.inl j),show((p.2.2.length:Int)==0)=true from bg.2 (by omega),ae]
 .rw[show((p.2.2.length:Int)==0)=false from bQ.2 (by omega),aa];cases g:dd name with
  |true =>
   rw[aeo hP (.inr g),show(name.toList==ak.toList)=true from g,ae]
  |false =>
   have e:¬(p.2.2.length=0\/dd name=true):=fun b=>b.elim j (by rw[g];decide)
   rw[show(name.toList==ak.toList)=false from g,aa];by_cases d:bY c view=r.1
   .rw[bg.2 d,ae];cases k:WM c p with
    |false =>
     rw[aep hP e d (fun b=>by rw[k]at b;cases b.1)];rfl
    |true =>
     rw[ag rfl,aH,aa];cases l:(my c r p).2 with
     |false =>
      rw[aep hP e d (fun b=>by rw[l]at b;cases b.2)];rfl
     |true =>
      rw[avp hP e d ⟨k,l⟩];rfl
   .rw[bQ.2 d,aa];cases push with
    |true =>
     rw[aeq hP e d (fun b=>by cases b.1)];rfl
    |false =>
     by_cases m:cmn p.2.2 (dz c view r.1)<(dz c view r.1).length
     .rw[avq hP e d ⟨rfl,m⟩,ea,ae,aI (show(cmn p.2.2 (dz c view r.1):Int)<(dz c view r.1).length by omega),ae]
     .rw[aeq hP e d (fun b=>m b.2),ea,ae,aL (show ¬(cmn p.2.2 (dz c view r.1):Int)<(dz c view r.1).length by omega),aa]
def aBW:ca:=(ak,b8)
def Qw (q:b1)(view:Int)(l:List ej):ByteArray:=tx (RB q.2.1.data.toList view l)
def ib (c:Int×Int)(q:b1)(view:Int)(l:List ej):ca×Bool:=if fj c (Qw q view l,q)=true/\aD (Qw q view l).data.toList=view then ((Qw q view l,q),true) else (aBW,false)
def ao9 {c:Int×Int}{q:b1}(a:eN c q=true){view:Int}(b:I64 view){l:List ej}(d:l.length<=100):(Qw q view l).size<=1048576:=by have e:=(sF a).2.2;have f:=asn (up:=q.2.1.data.toList) b l;unfold Qw;rw[bB];have:q.2.1.data.toList.length=q.2.1.size:=rfl;omega
def Xx (a b:Int):(a != b)= !decide (a=b):=by
 by_cases h:a=b
 .simp[h]
 .simp[h]
def aer {c:Int×Int}{q:b1}(a:eN c q=true){view:Int}(d:I64 view){l:List ej}(f:l.length<=100):oc F0 c q view l=some ((ib c q view l).1,(ib c q view l).2,()):=by
 have j:=(sF a).2.2;have e:=ao9 a d f;have g:kf F0 q.2.1 view l=some (Qw q view l,()):=aoO (up:=q.2.1.data.toList) (by show q.2.1.size<=_;omega) d (by omega);rw[afn,g,ai,wa (Oa a).2,ai,Np (b:=(Qw q view l,q)) e (Oa a),ai,ot e,ai];unfold ib;dsimp only;rw[Xx];cases fj c (Qw q view l,q) with
 |false=>rw[af (fun h=>by cases h.1)];rfl
 |true =>
  by_cases h:aD (Qw q view l).data.toList=view
  .rw[ag ⟨rfl,h⟩,aI h];rfl
  .rw[af (fun i=>h i.2),aL h];rfl
def ard {c:Int×Int}{q:b1}(a:eN c q=true){view:Int}(d:I64 view){l:List ej}(i:l.length<=2):tF F0 c q view l=some ((ib c q view l).1,(ib c q view l).2,()):=by
 have j:=(sF a).2.2;have e:=ao9 a d (l:=l) (by omega);have f:E7 F0 q.2.1 view l=some (Qw q view l,()):=axm (up:=q.2.1.data.toList) (by show q.2.1.size<=_;omega) d (by omega);rw[agp,f,ai,wU (Oa a).2,ai,Iy (b:=(Qw q view l,q)) e (Oa a),ai,qV e,ai];unfold ib;dsimp only;rw[Xx];cases fj c (Qw q view l,q) with
 |false=>rw[af (fun h=>by cases h.1)];rfl
 |true =>
  by_cases h:aD (Qw q view l).data.toList=view
  .rw[ag ⟨rfl,h⟩,aI h];rfl
  .rw[af (fun g=>h g.2),aL h];rfl
def axI {c:Int×Int}{q:b1}{view:Int}{l:List ej}(h:(ib c q view l).2=true):fj c (ib c q view l).1=true/\aD (ib c q view l).1.1.data.toList=view/\(ib c q view l).1.2=q:=by
 unfold ib at h ⊢;split at h
 .rename_i a;rw[ag a];exact⟨a.1,a.2,rfl⟩
 .cases h
def NB (c:Int×Int)(l:List b1)(view:Int):Bool:=decide (((df l view ak).2.2.length:Int)>=A5 c)
def aBX (c:Int×Int)(r:ar):Bool:=decide (bY c r.2.1=r.1)&&(!decide (r.2.2.1>=r.2.1)&&(decide (r.2.2.2.1.2.2.1.1=aj (r.2.1-1)) || NB c r.2.2.2.2.2.1 r.2.1))
def agZ (r:ar):List ej:=ia (qU auP (aoL r.2.2.2.1.2.2.1.2.1)) 2 r.2.2.2.2.1
def ask (c:Int×Int)(r:ar):ca×Bool:=if aBX c r=true then ib c r.2.2.2.1.2.2.1 r.2.1 (agZ r) else (aBW,false)
def aX.view {c:Int×Int}{r:ar}(h:aX c r):1<=r.2.1/\r.2.1<=60:=by have:=h.f.v;simp only[eF,aA,bR]at this;exact this
def aE3 (a b:Int):decide (a<b)= !decide (a>=b):=by
 by_cases h:a<b
 .rw[aI h,aL (by omega)];rfl
 .rw[aL h,aI (by omega)];rfl
def apa (r:ar):(agZ r).length<=2:=RG _ _ _
def aBY {c:Int×Int}{r:ar}(h:aX c r):U5 F0 c r=some ((ask c r).1,(ask c r).2,()):=by have g:=h.view;have a:=(cB h.f.s).2.2.1;have b:aa3 (qU auP (aoL r.2.2.2.1.2.2.1.2.1)):=Xn abc;have d:=aer (c:=c) (q:=r.2.2.2.1.2.2.1) a (view:=r.2.1) ⟨by omega,by omega⟩ (l:=agZ r) (by have:=apa r;omega);have e:oa F0 r.2.2.2.2.1 (qU auP (aoL r.2.2.2.1.2.2.1.2.1))=some (agZ r,()):=avm h.l.p b;have f:tK r.2.2.2.1.2.2.1:=h.l.s.1;rw[awB,gR h.l,ai,h.ok,aH,aa,KR,ai,RF h.l.t h.l.tq,ai,aa5,ai,ZO,ai,axi f.1,ai,aoo abc (bZ (Qs _) (by omega))];simp only[ai,e,d];unfold ask aBX NB;rw[Xx,Xx,aE3];cases decide (bY c r.2.1=r.1)<;>cases decide (r.2.2.1>=r.2.1)<;>cases decide (r.2.2.2.1.2.2.1.1=aj (r.2.1-1))<;>cases decide (((df r.2.2.2.2.2.1 r.2.1 ak).2.2.length:Int)>=A5 c)<;>rfl
def apb {c:Int×Int}{r:ar}(h:aoA r)(view:Int):sn F0 c r view=some (NB c r.2.2.2.2.2.1 view,()):=by rw[auz,ZW h.t h.tq,ai,aim,ai];rfl
def aE4 {c:Int×Int}{r:ar}(h:aX c r):adE F0 c r=some ((ask c r).1,(ask c r).2,()):=by have g:=h.view;have a:=(cB h.f.s).2.2.1;have b:aa3 (qU auP (aoL r.2.2.2.1.2.2.1.2.1)):=Xn abc;have d:=ard (c:=c) (q:=r.2.2.2.1.2.2.1) a (view:=r.2.1) ⟨by omega,by omega⟩ (l:=agZ r) (apa r);have e:oo F0 r.2.2.2.2.1 (qU auP (aoL r.2.2.2.1.2.2.1.2.1))=some (agZ r,()):=ara h.l.p b;have f:tK r.2.2.2.1.2.2.1:=h.l.s.1;rw[awJ,dJ h.l,ai,h.ok,aH,aa,IY,ai,apb h.l,ai,Wo,ai,asj f.1,ai,ait abc (bZ (Qs _) (by omega))];simp only[ai,e,d];unfold ask aBX;rw[Xx,Xx];cases decide (bY c r.2.1=r.1)<;>cases decide (r.2.2.1>=r.2.1)<;>cases decide (r.2.2.2.1.2.2.1.1=aj (r.2.1-1))<;>cases NB c r.2.2.2.2.2.1 r.2.1<;>rfl
def aE5 {c:Int×Int}{r:ar}(h:(ask c r).2=true):aBX c r=true/\fj c (ask c r).1=true/\aD (ask c r).1.1.data.toList=r.2.1/\(ask c r).1.2=r.2.2.2.1.2.2.1:=by
 unfold ask at h ⊢;split at h
 .rename_i a;rw[ag a];exact⟨a,axI h⟩
 .cases h
def NC (r:ar):ar:=(r.1,r.2.1,r.2.2.1,r.2.2.2.1,r.2.2.2.2.1,r.2.2.2.2.2.1,kH r.2.2.2.2.2.2.1,[])
def axJ {c:Int×Int}{r:ar}(h:aX c r):HU F0 c r=some (NC r,r.2.2.2.2.2.2.2,()):=by rw[ajN,dM h.bt,ai,gR h.l,ai,h.ok,aH,aa,aEZ h.bt.d.1,ai,aed h.l.h h.l.hm,ai];rfl
def avs {c:Int×Int}{r:ar}(h:aX c r):Ic F0 c r=some (NC r,r.2.2.2.2.2.2.2,()):=by rw[akc,dN h.bt,ai,dJ h.l,ai,h.ok,aH,aa,aDf h.bt.d.1,ai];rfl
def axK {d:pr}(h:fi d=true):fi (kH d)=true:=by unfold kH;rw[ag h];have:=c8.1 h;exact c8.2 ⟨this.1,by dsimp only;omega,by dsimp only;omega⟩
def avt (d:pr):(kH d).1=d.1:=by unfold kH;split<;>rfl
def aX.NC {c:Int×Int}{r:ar}(h:aX c r):aX c (NC r) :=
 ⟨⟨h.f.cf,h.f.i,h.f.v,h.f.a,h.f.s,h.f.p,h.f.t,axK h.f.d,aO _,fun x a=>by cases a⟩,by show ∀x∈(kH r.2.2.2.2.2.2.1).1,_;rw[avt];exact h.b⟩
def gT (r:ar)(v:Int):ar:=(r.1,v,r.2.2)
def dZ (r:ar)(t:List b1):ar:=(r.1,r.2.1,r.2.2.1,r.2.2.2.1,r.2.2.2.2.1,t,r.2.2.2.2.2.2)
def aX.gT {c:Int×Int}{r:ar}(h:aX c r){v:Int}(a:1<=v)(b:v<=60):aX c (gT r v) :=
 ⟨⟨h.f.cf,h.f.i,by show eF 1 60 v=true;simp[eF,a,b],h.f.a,h.f.s,h.f.p,h.f.t,h.f.d,h.f.n,h.f.h⟩,h.b⟩
def aX.dZ {c:Int×Int}{r:ar}(h:aX c r){t:List b1}(a:eD c t=true):aX c (dZ r t) :=
 ⟨⟨h.f.cf,h.f.i,h.f.v,h.f.a,h.f.s,h.f.p,a,h.f.d,h.f.n,h.f.h⟩,h.b⟩
def ow {c:Int×Int}{l:List b1}(h:eD c l=true)(p:b1):eD c (bs c l p).1=true:=by
 unfold bs;split
 .rename_i a;exact a.2
 .exact h
def one (v:Int)(name:ByteArray)(i:Int):b1:=(v,name,[i])
def wV (c:Int×Int)(r:ar):ar×Bool :=
 if r.2.1>=60 then (r,false)
 else if bY c (aj (r.2.1+1))=r.1 then
  if (bs c r.2.2.2.2.2.1 (one (aj (r.2.1+1)) ak r.1)).2=true then (dZ (gT r (aj (r.2.1+1))) (bs c r.2.2.2.2.2.1 (one (aj (r.2.1+1)) ak r.1)).1,true) else (r,false)
 else if (jN c (gT r (aj (r.2.1+1))) (bY c (aj (r.2.1+1))) (jE (aj (r.2.1+1)) r.2.2.2.1.2.2.1 r.1)).2=true then ((jN c (gT r (aj (r.2.1+1))) (bY c (aj (r.2.1+1))) (jE (aj (r.2.1+1)) r.2.2.2.1.2.2.1 r.1)).1,true) else (r,false)
def aE6 {c:Int×Int}{r:ar}(h:aX c r):Xc F0 c r=some ((wV c r).1,(wV c r).2,()):=by
 have f:=h.view;have g:=(cB h.f.s).2.2.1;have d:eW F0 c r.2.2.2.2.2.1 (aj (r.2.1+1),ak,[r.1])=some ((bs c r.2.2.2.2.2.1 (one (aj (r.2.1+1)) ak r.1)).1,(bs c r.2.2.2.2.2.1 (one (aj (r.2.1+1)) ak r.1)).2,()):=IG (vx h.f.t) ⟨aO _,by show 1<=1000;omega⟩ c;have e:e8 F0 c (r.1,aj (r.2.1+1),r.2.2) (bY c (aj (r.2.1+1))) (3,aj (r.2.1+1),(ak,0,ak,[]),(0,ak,[]),r.2.2.2.1.2.2.1,r.1,0,0,0,0)=some (((jN c (gT r (aj (r.2.1+1))) (bY c (aj (r.2.1+1))) (jE (aj (r.2.1+1)) r.2.2.2.1.2.2.1 r.1)).1,(jN c (gT r (aj (r.2.1+1))) (bY c (aj (r.2.1+1))) (jE (aj (r.2.1+1)) r.2.2.2.1.2.2.1 r.1)).2,()),()) :=
  NA (r:=gT r (aj (r.2.1+1))) h.l.h (Qv h.l.s.1 r.1) c _
 rw[aue,dM h.bt,ai,gR h.l,ai,h.ok,aH,aa,KR,ai];simp only[ai,d,e];unfold wV;by_cases a:r.2.1>=60
 .rw[ag a,aI a,ae]
 .rw[af a,aL a,aa];by_cases b:bY c (aj (r.2.1+1))=r.1
  .rw[ag b,bg.2 b,ae];cases (bs c r.2.2.2.2.2.1 (one (aj (r.2.1+1)) ak r.1)).2<;>rfl
  .rw[af b,bQ.2 b,aa];cases (jN c (gT r (aj (r.2.1+1))) (bY c (aj (r.2.1+1))) (jE (aj (r.2.1+1)) r.2.2.2.1.2.2.1 r.1)).2<;>rfl
def aDn {c:Int×Int}{r:ar}(h:aX c r):Xj F0 c r=some ((wV c r).1,(wV c r).2,()):=by
 have f:=h.view;have d:eu F0 c r.2.2.2.2.2.1 (aj (r.2.1+1),ak,[r.1])=some ((bs c r.2.2.2.2.2.1 (one (aj (r.2.1+1)) ak r.1)).1,(bs c r.2.2.2.2.2.1 (one (aj (r.2.1+1)) ak r.1)).2,()):=Ei (vx h.f.t) ⟨aO _,by show 1<=1000;omega⟩ c;rw[auB,dN h.bt,ai,dJ h.l,ai,h.ok,aH,aa];unfold wV;by_cases b:r.2.1>=60
 .rw[ag b,bg.2 (show r.2.1=60 by omega),ae]
 .have g:aj (r.2.1+1)=r.2.1+1:=aF (by omega) (by omega);have e:l9 F0 c (r.1,aj (r.2.1+1),r.2.2) (bY c (aj (r.2.1+1))) (3,aj (r.2.1+1),(ak,0,ak,[]),(0,ak,[]),r.2.2.2.1.2.2.1,r.1,0,0,0,0)=some ((jN c (gT r (aj (r.2.1+1))) (bY c (aj (r.2.1+1))) (jE (aj (r.2.1+1)) r.2.2.2.1.2.2.1 r.1)).1,(jN c (gT r (aj (r.2.1+1))) (bY c (aj (r.2.1+1))) (jE (aj (r.2.1+1)) r.2.2.2.1.2.2.1 r.1)).2,()) :=
   Xw (h.gT (v:=aj (r.2.1+1)) (by omega) (by omega)) (Qv h.l.s.1 r.1) _
  rw[af b,bQ.2 (show r.2.1≠60 by omega),aa];simp only[ai,d,e,IY];by_cases a:bY c (aj (r.2.1+1))=r.1
  .rw[ag a,bg.2 a,ae];cases (bs c r.2.2.2.2.2.1 (one (aj (r.2.1+1)) ak r.1)).2<;>rfl
  .rw[af a,bQ.2 a,aa];cases (jN c (gT r (aj (r.2.1+1))) (bY c (aj (r.2.1+1))) (jE (aj (r.2.1+1)) r.2.2.2.1.2.2.1 r.1)).2<;>rfl
def aX.aJp {c:Int×Int}{r:ar}(h:aX c r):aX c (wV c r).1:=by
 have b:=h.view;unfold wV;split
 .exact h
 .rename_i d;have e:aj (r.2.1+1)=r.2.1+1:=aF (by omega) (by omega);have a:=h.gT (v:=aj (r.2.1+1)) (by omega) (by omega);split
  .split
   .exact a.dZ (ow h.f.t _)
   .exact h
  .split
   .exact a.told _ _
   .exact h
def nx (c:Int×Int)(r:ar)(m:bW):Nat->Nat->ar->ar×Bool
 |0,_,a=>(a,true)|j+1,k,a=>if (k:Int)=r.1 then nx c r m j (k+1) a else if (jN c a (k:Int) m).2=true then nx c r m j (k+1) (jN c a (k:Int) m).1 else (r,false)
def RM (c:Int×Int)(r:ar)(m:bW):ar×Bool:=nx c r m c.1.toNat 0 r
def apc {c:Int×Int}{r:ar}(h:aX c r)(m:bW):∀(j k:Nat) (o:ar),aX c o->aX c (nx c r m j k o).1
 |0,_,_,a=>a|j+1,k,o,a=>by
  unfold nx;split
  .exact apc h m j (k+1) o a
  .split
   .exact apc h m j (k+1) _ (a.told _ _)
   .exact h
def aX.aGX {c:Int×Int}{r:ar}(h:aX c r)(m:bW):aX c (RM c r m).1:=apc h m _ _ _ h
def ag0 {c:Int×Int}{r:ar}(h:aX c r){m:bW}(d:fT m):∀(j k:Nat) (z:ar) (n:Nat),(k:Int)+j=c.1->aX c z->j<n->c.1<=100 ->
  pQ F0 (rN F0) n (lO (k:Int) c.1 c.2 r.1 r.2.1 r.2.2.1 r.2.2.2.1.1 r.2.2.2.1.2.1 r.2.2.2.1.2.2.1.1 r.2.2.2.1.2.2.1.2.1 r.2.2.2.1.2.2.1.2.2 r.2.2.2.1.2.2.2 r.2.2.2.2.1 r.2.2.2.2.2.1 r.2.2.2.2.2.2.1.1 r.2.2.2.2.2.2.1.2 r.2.2.2.2.2.2.2 m.1 m.2.1 m.2.2.1.1 m.2.2.1.2.1 m.2.2.1.2.2.1 m.2.2.1.2.2.2 m.2.2.2.1.1 m.2.2.2.1.2.1 m.2.2.2.1.2.2 m.2.2.2.2.1.1 m.2.2.2.2.1.2.1 m.2.2.2.2.1.2.2 m.2.2.2.2.2.1 m.2.2.2.2.2.2.1 m.2.2.2.2.2.2.2.1 m.2.2.2.2.2.2.2.2.1 m.2.2.2.2.2.2.2.2.2 0 0 0 0 0 0 ak ak 0 z.1 z.2.1 z.2.2.1 z.2.2.2.1.1 z.2.2.2.1.2.1 z.2.2.2.1.2.2.1.1 z.2.2.2.1.2.2.1.2.1 z.2.2.2.1.2.2.2 z.2.2.2.2.2.2.1.2 [] [] [] [] [] z.2.2.2.1.2.2.1.2.2 z.2.2.2.2.1 z.2.2.2.2.2.1 z.2.2.2.2.2.2.1.1 z.2.2.2.2.2.2.2)
   = some ((nx c r m j k z).1,(nx c r m j k z).2,())
 |0,k,z,n+1,f,a,g,e=>by rw[GI,aL (show ¬(k:Int)<c.1 by omega),aa,aaF];rfl
 |j+1,k,z,n+1,f,a,g,e=>by
  have i:=NA (r:=z) a.l.h d c (k:Int);have l:=dM h.bt;rw[GI,aI (show(k:Int)<c.1 by omega),ae,show((c.1,c.2):Int×Int)=c from rfl];refine BD (oF (fun x=>br ((k:Int)==r.1) _ (Option.bind x _)) i) ?_;rw[ai];dsimp only;unfold nx;by_cases b:(k:Int)=r.1
  .rw[ag b,bg.2 b,ae,al (by omega)];exact ag0 h d j (k+1) z n (by omega) a (by omega) e
  .rw[af b,bQ.2 b,aa];cases o:(jN c z (k:Int) m).2 with
   |true =>
    rw[aH,aa,ag rfl,al (by omega)];exact ag0 h d j (k+1) _ n (by omega) (a.told _ _) (by omega) e
   |false =>
    rw[ea,ae,af (by decide)];refine BD (oF (fun x=>Option.bind x _) l) ?_;rw[ai,acR]
def axL {c:Int×Int}{r:ar}(h:aX c r){m:bW}(a:fT m):y7 F0 c r m=some ((RM c r m).1,(RM c r m).2,()):=by have b:=b4 h.f.cf;rw[ajL,dM h.bt,ai,gR h.l,ai,h.ok,aH,aa];exact ag0 h a c.1.toNat 0 r F0.n (by omega) h (by rw[bH];omega) (by omega)
def abq {c:Int×Int}{r:ar}(h:aX c r){m:bW}(d:fT m):∀(j k:Nat) (z:ar) (n:Nat),(k:Int)+j=c.1->aX c z->j<n->c.1<=100 ->
  p9 F0 (sA F0) n (mc (k:Int) c.1 c.2 r.1 r.2.1 r.2.2.1 r.2.2.2.1.1 r.2.2.2.1.2.1 r.2.2.2.1.2.2.1.1 r.2.2.2.1.2.2.1.2.1 r.2.2.2.1.2.2.1.2.2 r.2.2.2.1.2.2.2 r.2.2.2.2.1 r.2.2.2.2.2.1 r.2.2.2.2.2.2.1.1 r.2.2.2.2.2.2.1.2 r.2.2.2.2.2.2.2 m.1 m.2.1 m.2.2.1.1 m.2.2.1.2.1 m.2.2.1.2.2.1 m.2.2.1.2.2.2 m.2.2.2.1.1 m.2.2.2.1.2.1 m.2.2.2.1.2.2 m.2.2.2.2.1.1 m.2.2.2.2.1.2.1 m.2.2.2.2.1.2.2 m.2.2.2.2.2.1 m.2.2.2.2.2.2.1 m.2.2.2.2.2.2.2.1 m.2.2.2.2.2.2.2.2.1 m.2.2.2.2.2.2.2.2.2 0 0 0 0 0 0 ak ak 0 z.1 z.2.1 z.2.2.1 z.2.2.2.1.1 z.2.2.2.1.2.1 z.2.2.2.1.2.2.1.1 z.2.2.2.1.2.2.1.2.1 z.2.2.2.1.2.2.2 z.2.2.2.2.2.2.1.2 [] [] [] [] [] z.2.2.2.1.2.2.1.2.2 z.2.2.2.2.1 z.2.2.2.2.2.1 z.2.2.2.2.2.2.1.1 z.2.2.2.2.2.2.2)
   = some ((nx c r m j k z).1,(nx c r m j k z).2,())
 |0,k,z,n+1,f,a,g,e=>by rw[G8,aL (show ¬(k:Int)<c.1 by omega),aa,aaY];rfl
 |j+1,k,z,n+1,f,a,g,e=>by
  have i:=Xw a d (k:Int);have l:=dN h.bt;rw[G8,aI (show(k:Int)<c.1 by omega),ae,show((c.1,c.2):Int×Int)=c from rfl];refine BD (oF (fun x=>br ((k:Int)==r.1) _ (Option.bind x _)) i) ?_;rw[ai];dsimp only;unfold nx;by_cases b:(k:Int)=r.1
  .rw[ag b,bg.2 b,ae,al (by omega)];exact abq h d j (k+1) z n (by omega) a (by omega) e
  .rw[af b,bQ.2 b,aa];cases o:(jN c z (k:Int) m).2 with
   |true =>
    rw[aH,aa,ag rfl,al (by omega)];exact abq h d j (k+1) _ n (by omega) (a.told _ _) (by omega) e
   |false =>
    rw[ea,ae,af (by decide)];refine BD (oF (fun x=>Option.bind x _) l) ?_;rw[ai,adG]
def avu {c:Int×Int}{r:ar}(h:aX c r){m:bW}(a:fT m):AX F0 c r m=some ((RM c r m).1,(RM c r m).2,()):=by have b:=b4 h.f.cf;rw[aky,dN h.bt,ai,dJ h.l,ai,h.ok,aH,aa];exact abq h a c.1.toNat 0 r F0.n (by omega) h (by rw[bH];omega) (by omega)
def aes {U:Type}{d:U}{p:U->Bool}{q:U->U->Bool}(j:∀a b c,q a b=true->q b c=true->q a c=true){l:List U}(h:Wv d p q l=true)(f:U->Bool):Wv d p q (l.filter f)=true:=by
 rw[agV]at h ⊢;have m:l.Pairwise fun a b=>q a b=true:=ayy.2 fun i n g o s=>avk j h.2 n s o
 have t:=m.filter f;refine⟨fun k e=>?_,fun k e=>ayy.1 t k (k+1) (by omega) e (by omega)⟩;have u:=(List.mem_filter.1 (b2 e)).1;obtain⟨i,g,v⟩:=ahe u;rw[<-v];exact h.1 i g
def apd:∀{a b c:List UInt8},Op.bytesLess a b=true->Op.bytesLess b c=true->Op.bytesLess a c=true
 |[],[],_,h,_=>by cases h
 |_::_,[],_,h,_=>by cases h
 |_,_::_,[],_,h=>by cases h
 |[],_::_,_::_,_,_=>rfl|x::a,y::b,z::c,e,d=>by
  simp only[Op.bytesLess,iS,aA,bR,bg]at e d ⊢;rcases e with e|⟨rfl,e⟩
  .rcases d with d|⟨rfl,d⟩
   .exact .inl (UInt8.lt_trans e d)
   .exact .inl e
  .rcases d with d|⟨rfl,d⟩
   .exact .inl d
   .exact .inr ⟨rfl,apd e d⟩
def are (a b c:b1)(e:fh a b=true)(d:fh b c=true):fh a c=true:=by
 simp only[fh,iS,aA,bR,bg]at *;rcases e with e|⟨g,e⟩
 .rcases d with d|⟨f,d⟩
  .exact .inl (by omega)
  .exact .inl (by omega)
 .rcases d with d|⟨f,d⟩
  .exact .inl (by omega)
  .exact .inr ⟨by omega,apd e d⟩
def ape {c:Int×Int}{l:List b1}(h:eD c l=true)(f:b1->Bool):eD c (l.filter f)=true:=by simp only[eD,aA,bR]at h ⊢;have:=alb f l;exact⟨aes are h.1 f,by omega⟩
def arf {l:List ej}(h:eP l=true)(f:ej->Bool):eP (l.filter f)=true:=by simp only[eP,aA,bR]at h ⊢;have:=alb f l;exact⟨aes (q:=eV) (fun a b c d e=>Nz d e) h.1 f,by omega⟩
def az2 {l:List ej}(h:eP l=true)(x:ej):eP (k3 l x).1=true:=by
 unfold k3;split
 .rename_i a;exact a
 .exact h
def mz (b:ca):Int:=aD b.1.data.toList
def own (c:Int×Int)(r:ar)(name:ByteArray):ar×Bool :=
 if (bs c r.2.2.2.2.2.1 (one (aD name.data.toList) name r.1)).2=true then ((ez c (dZ r (bs c r.2.2.2.2.2.1 (one (aD name.data.toList) name r.1)).1) (aD name.data.toList) name false).1,true) else (r,false)
def aGY {c:Int×Int}{r:ar}{a:Int}{m:bW}(h:(jN c r a m).2=false):(jN c r a m).1=r:=by
 unfold jN at h ⊢;cases b:WL c r a m with
 |true=>rw[b,ag rfl]at h;cases h|false=>rfl
def axM {c:Int×Int}{r:ar}{view:Int}{name:ByteArray}{push:Bool}(h:(ez c r view name push).2=false):(ez c r view name push).1=r:=by
 by_cases a:(df r.2.2.2.2.2.1 view name).2.2.length=0\/dd name=true
 .rw[aeo rfl a]
 .by_cases d:bY c view=r.1
  .by_cases b:WM c (df r.2.2.2.2.2.1 view name)=true/\(my c r (df r.2.2.2.2.2.1 view name)).2=true
   .rw[avp rfl a d b]at h;cases h
   .rw[aep rfl a d b]
  .by_cases b:push=false/\cmn (df r.2.2.2.2.2.1 view name).2.2 (dz c view r.1)<(dz c view r.1).length
   .rw[avq rfl a d b]
   .rw[aeq rfl a d b]at h ⊢;exact aGY h
def aX.owned {c:Int×Int}{r:ar}(h:aX c r)(name:ByteArray):aX c (own c r name).1:=by
 unfold own;split
 .exact(h.dZ (ow h.f.t _)).avr _ _ _
 .exact h
def az3 {c:Int×Int}{r:ar}(h:aX c r){name:ByteArray}(a:name.size<=1048576):mr F0 c r name=some (((own c r name).1,(own c r name).2,()),()):=by
 have e:eW F0 c r.2.2.2.2.2.1 (aD name.data.toList,name,[r.1])=some ((bs c r.2.2.2.2.2.1 (one (aD name.data.toList) name r.1)).1,(bs c r.2.2.2.2.2.1 (one (aD name.data.toList) name r.1)).2,()):=IG (vx h.f.t) ⟨a,by show 1<=1000;omega⟩ c;have b:=h.dZ (ow h.f.t (one (aD name.data.toList) name r.1));have f:a7 F0 (r.1,r.2.1,r.2.2.1,r.2.2.2.1,r.2.2.2.2.1,(bs c r.2.2.2.2.2.1 (one (aD name.data.toList) name r.1)).1,r.2.2.2.2.2.2)=some (dZ r (bs c r.2.2.2.2.2.1 (one (aD name.data.toList) name r.1)).1,()):=dM b.bt;obtain⟨x,g,i⟩:=RL b (aD name.data.toList) a false;rw[amX,ot a];simp only[ai,e,f,g,ot a];unfold own;cases j:(bs c r.2.2.2.2.2.1 (one (aD name.data.toList) name r.1)).2 with
 |false=>rfl
 |true =>
  rw[ag rfl,aH,aa];cases d:(ez c (dZ r (bs c r.2.2.2.2.2.1 (one (aD name.data.toList) name r.1)).1) (aD name.data.toList) name false).2 with
  |true=>rw[i d];rfl|false=>rw[axM d];rfl
def gH (r:ar)(b:ca):ar:=if mz b>=r.2.1 then gT r (mz b) else r
def gU (c:Int×Int)(r:ar)(b:ca):Bool:=decide (mz b>=r.2.1)&&fz c (Nw c r.2.2.2.1 b.2) b
def ny (c:Int×Int)(r:ar)(b:ca):a1:=if gU c r b=true then (mz b,(Nw c r.2.2.2.1 b.2).2) else Nw c r.2.2.2.1 b.2
def Ba (c:Int×Int)(r:ar)(b:ca)(a:Bool)(W:ar×Bool):ar×Bool :=
 if W.2=true then (if a=true then (if (own c W.1 b.1).2=true then ((own c W.1 b.1).1,true) else (r,false)) else (W.1,true)) else (r,false)
def dV (c:Int×Int)(r:ar)(b:ca):ar×Bool:=Ba c r b (gU c r b) (fD c (gH r b) (ny c r b))
def aX.gH {c:Int×Int}{r:ar}(h:aX c r)(b:ca):aX c (gH r b):=by
 unfold Tryz.gH;have:=h.view;have a:=oq b.1.data.toList;split
 .exact h.gT (by unfold mz at *;omega) (by unfold mz at *;omega)
 .exact h
def axN {c:Int×Int}{r:ar}(h:aX c r)(b:ca):jJ (ny c r b):=by
 have:=ao8 h b.2;unfold ny;split
 .exact this
 .exact this
def aX.Ba {c:Int×Int}{r:ar}(h:aX c r)(b:ca)(d:Bool){W:ar×Bool}(a:aX c W.1):aX c (Ba c r b d W).1:=by
 unfold Tryz.Ba;split
 .split
  .split
   .exact a.owned _
   .exact h
  .exact a
 .exact h
def aX.apf {c:Int×Int}{r:ar}(h:aX c r)(b:ca):aX c (dV c r b).1:=h.Ba b _ ((h.gH b).wrote _)
def az4 {c:Int×Int}{r:ar}{b:ca}(g:b.1.size<=1048576)(a:Bool){W:ar×Bool}(i:aX c W.1)(x:ar) :
  ((some (if W.2=true then (W.1,true,ad4) else (ad4,false,x)):Option (ar×Bool×ar)).bind fun d=>br d.2.1 (br a ((mr F0 c d.1 b.1).bind fun e=>br (!e.1.2.1) (some (r,false,())) (some (e.1.1,true,()))) (some (d.1,true,()))) (some (r,false,())))=some ((Ba c r b a W).1,(Ba c r b a W).2,()):=by
 have f:=az3 i g;obtain⟨j,k⟩:=W;unfold Ba;cases k with
 |false=>rfl
 |true =>
  cases a with
  |false=>rfl
  |true =>
   dsimp only at f ⊢;rw[ag rfl,ag rfl,ag rfl,ai];dsimp only;rw[ae,ae,f,ai];cases h:(own c j b.1).2<;>rfl
def axO {c:Int×Int}{s:a1}{b:ca}(h:fz c s b=true):axy c s b=((mz b,s.2),true):=ag h
def aGZ {c:Int×Int}{s:a1}{b:ca}(h:fz c s b=false):axy c s b=(s,false):=af (by rw[h];decide)
def aE7 {c:Int×Int}{r:ar}{b:ca}(a:mz b>=r.2.1)(d:fz c (Nw c r.2.2.2.1 b.2) b=true):gU c r b=true/\ny c r b=(mz b,(Nw c r.2.2.2.1 b.2).2):=by
 have:gU c r b=true:=by unfold gU;rw[aI a,d];rfl
 exact⟨this,ag this⟩
def aBZ {c:Int×Int}{r:ar}{b:ca}(h:¬(mz b>=r.2.1/\fz c (Nw c r.2.2.2.1 b.2) b=true)):gU c r b=false/\ny c r b=Nw c r.2.2.2.1 b.2:=by
 have:gU c r b=false:=by
  unfold gU;by_cases a:mz b>=r.2.1
  .cases d:fz c (Nw c r.2.2.2.1 b.2) b with
   |true=>exact absurd ⟨a,d⟩ h|false=>rw[abF]
  .rw[aL a];rfl
 exact⟨this,af (by rw[this];decide)⟩
def ZZ {c:Int×Int}{r:ar}(h:aX c r){b:ca}(l:fj c b=true):pP F0 c r b=some ((dV c r b).1,(dV c r b).2,()):=by
 obtain⟨d,g⟩:=I4 l;have m:=ao8 h b.2;have n:=aiB (c:=c) m d g;have o:=aEY (c:=c) m d g;have q:=RJ (h.gH b) (axN h b);have s:aX c (fD c (gH r b) (ny c r b)).1:=(h.gH b).wrote _;have t:=az4 (r:=r) d (gU c r b) s (gH r b);rw[acJ,dM h.bt,ai,gR h.l,ai,h.ok,aH,aa,Np d g,ai,l,aH,aa,avg h.l.s g,ot d];simp only[ai,n,o];rw[show aD b.1.data.toList=mz b from rfl];show _=some ((Ba c r b (gU c r b) (fD c (gH r b) (ny c r b))).1,(Ba c r b (gU c r b) (fD c (gH r b) (ny c r b))).2,());rw[<-t,<-q];by_cases a:mz b>=r.2.1
 .have i:gH r b=(r.1,mz b,r.2.2):=ag a;rw[aI a,ae,ae];cases k:fz c (Nw c r.2.2.2.1 b.2) b with
  |true =>
   obtain⟨e,f⟩:=aE7 a k;rw[e,f,i,axO k,ae]
  |false =>
   obtain⟨e,f⟩:=aBZ (c:=c) (r:=r) (b:=b) (fun j=>by rw[k]at j;cases j.2);rw[e,f,i,aa]
 .have i:gH r b=r:=af a;obtain⟨e,f⟩:=aBZ (c:=c) (r:=r) (b:=b) (fun j=>a j.1);rw[aL a,aa,aa,e,f,i];rfl
def az5 {c:Int×Int}{r:ar}{b:ca}(f:b.1.size<=1048576)(d:Bool){W:ar×Bool}(e:aX c W.1)(hid:W.1.1=r.1) :
  br (!W.2) (some (r,false,())) (br (!d) (some (W.1,true,())) ((eu F0 c W.1.2.2.2.2.2.1 (mz b,b.1,[r.1])).bind fun g=>br (!g.2.1) (some (r,false,())) ((ni F0 c (W.1.1,W.1.2.1,W.1.2.2.1,W.1.2.2.2.1,W.1.2.2.2.2.1,g.1,W.1.2.2.2.2.2.2) (mz b) b.1 false).bind fun h=>some (h.1,true,()))))=some ((Ba c r b d W).1,(Ba c r b d W).2,()):=by
 obtain⟨a,i⟩:=W;dsimp only at e hid ⊢;unfold Ba;cases i with
 |false=>rfl
 |true =>
  cases d with
  |false=>rfl
  |true =>
   have j:eu F0 c a.2.2.2.2.2.1 (mz b,b.1,[r.1])=some ((bs c a.2.2.2.2.2.1 (one (aD b.1.data.toList) b.1 a.1)).1,(bs c a.2.2.2.2.2.1 (one (aD b.1.data.toList) b.1 a.1)).2,()):=by rw[hid];exact Ei (vx e.f.t) ⟨f,by show 1<=1000;omega⟩ c
   have k:=e.dZ (ow e.f.t (one (aD b.1.data.toList) b.1 a.1));have l:=abp k (mz b) f false;have m:ni F0 c (a.1,a.2.1,a.2.2.1,a.2.2.2.1,a.2.2.2.2.1,(bs c a.2.2.2.2.2.1 (one (aD b.1.data.toList) b.1 a.1)).1,a.2.2.2.2.2.2) (mz b) b.1 false=some ((ez c (dZ a (bs c a.2.2.2.2.2.1 (one (aD b.1.data.toList) b.1 a.1)).1) (mz b) b.1 false).1,(ez c (dZ a (bs c a.2.2.2.2.2.1 (one (aD b.1.data.toList) b.1 a.1)).1) (mz b) b.1 false).2,()):=l;rw[j,ai,ag rfl,ag rfl];unfold own;dsimp only;cases n:(bs c a.2.2.2.2.2.1 (one (aD b.1.data.toList) b.1 a.1)).2 with
   |false=>rfl
   |true =>
    rw[m,ai];rfl
def WN {c:Int×Int}{r:ar}(h:aX c r){b:ca}(m:fj c b=true):p7 F0 c r b=some ((dV c r b).1,(dV c r b).2,()):=by
 obtain⟨i,l⟩:=I4 m;have n:=ao8 h b.2;have o:=aDe (c:=c) n i l;have e:=abn (h.gH b) (axN h b);have q:aX c (fD c (gH r b) (ny c r b)).1:=(h.gH b).wrote _;have hid:(fD c (gH r b) (ny c r b)).1.1=r.1:=by rw[aen];unfold gH;split<;>rfl
 have s:=az5 (r:=r) i (gU c r b) q hid;rw[adr,dJ h.l,ai,h.ok,aH,aa,Iy i l,ai,m,aH,aa,aoZ h.l.s l,qV i,dN h.bt];simp only[ai,o];rw[show aD b.1.data.toList=mz b from rfl];show _=some ((Ba c r b (gU c r b) (fD c (gH r b) (ny c r b))).1,(Ba c r b (gU c r b) (fD c (gH r b) (ny c r b))).2,());rw[<-s];by_cases f:mz b>=r.2.1
 .have d:gH r b=(r.1,mz b,r.2.2):=ag f;rw[aI f,ae];cases j:fz c (Nw c r.2.2.2.1 b.2) b with
  |true =>
   obtain⟨g,a⟩:=aE7 f j;rw[d,a]at e;rw[g,a,d,axO j];dsimp only;rw[e,ai]
  |false =>
   obtain⟨g,a⟩:=aBZ (c:=c) (r:=r) (b:=b) (fun k=>by rw[j]at k;cases k.2);rw[d,a]at e;rw[g,a,d,aGZ j];dsimp only;rw[e,ai]
 .have d:gH r b=r:=af f;obtain⟨g,a⟩:=aBZ (c:=c) (r:=r) (b:=b) (fun k=>f k.1);rw[d,a]at e;rw[aL f,aa,g,a,d,e,ai];rfl
end Go.Am.Tryz
