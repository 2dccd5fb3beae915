/- No condition. -/
import Derived.Test.YtpkabclplaibaaaGreatDoorQjYJL2
set_option linter.all false
namespace Go.Am.Tryz
open Go.Am
def ayR {w:aj}(h:di w=true){j:Nat}(a:j<w.2.2.1.length):bF (w.2.2.1[j]).2.2.2.1.2.2.2.data.toList=true:=by simp only[di,aD]at h;have b:=fL.1 h.2.2.2.2.2.2.1 j (gP.2 a);simp only[ajN,aL a,aD]at b;have c:=b.1;simp only[rQ,aD]at c;have d:=c.2.2.2.2.1;simp only[b2,aD]at d;exact d.2.2.2
def dn (w:aj)(i:Nat):ByteArray:=ayQ w ((au w).getD i 0)
def ard {w:aj}{i j:Nat}(a:i<(au w).length)(e:(au w)[i]=(j:Int))(b:j<w.2.2.1.length):dn w i=(w.2.2.1[j]).2.2.2.1.2.2.2:=by unfold dn ayQ;rw[aL a,e,oR,aL b]
def aa3 (w:aj):Bool:=di w&&(List.range (au w).length).all fun i=>(List.range (au w).length).all fun k=>vm (dn w i) (dn w k)
def awS {w:aj}(c:di w=true):((List.range (au w).length).all fun i=>(List.range i).all fun k=>vm (dn w i) (dn w k))=(List.range (au w).length).all fun i=>(List.range (au w).length).all fun k=>vm (dn w i) (dn w k) :=
 ade (q:=fun i k=>vm (dn w i) (dn w k)) (fun i k _ _=>atC _ _) (fun i a=>by obtain⟨d,e,b⟩:=hZ a;rw[ard a e b];exact atD (ayR c b))
def aCl {w:aj}(h:dy w){γ:Type}(J:Ex->St->Option γ)(n:Nat){i:Nat}(a:i<(au w).length) :
  nv F0 (j1 F0 J n) F0.n (j0 (i:Int) 0 w.1.1 w.1.2 w.2.1 w.2.2.1 w.2.2.2.1 w.2.2.2.2 (au w)) =
  if ((List.range i).all fun k=>vm (dn w i) (dn w k))=true then nx F0 J n (j2 ((i+1:Nat):Int) w.1.1 w.1.2 w.2.1 w.2.2.1 w.2.2.2.1 w.2.2.2.2 (au w)) else J .ret (yL false):=by
 have hlen:(au w).length<=1048576:=aR (dz w.2.1 w.2.2.1.length) h.r;obtain⟨g,e,b⟩:=hZ a;refine cu (fun m k=>nv F0 (j1 F0 J n) m (j0 (i:Int) k w.1.1 w.1.2 w.2.1 w.2.2.1 w.2.2.2.1 w.2.2.2.2 (au w))) i (fun k=>vm (dn w i) (dn w k)) _ _ (fun m k j=>?_) (fun m=>?_) _ (by rw[bj];omega)
 .have c:k<(au w).length:=by omega
  obtain⟨l,f,d⟩:=hZ c;rw[DM,aK j,ae,al a,ad,aM a,e,al b,ad,al c,ad,aM c,f,al d,ad,aM b,aM d,awR (h.rl _ (cB b)).s.2 (h.rl _ (cB d)).s.2,ao,Yf,ag (by omega),ard a e b,ard c f d];dsimp only;cases vm (w.2.2.1[g]).2.2.2.1.2.2.2 (w.2.2.1[l]).2.2.2.1.2.2.2<;>rfl
 .rw[DM,az,aa,Vr,ag (by omega)]
def apg {w:aj}(h:dy w):CN F0 w=some (aa3 w,()):=by
 have hlen:(au w).length<=1048576:=aR (dz w.2.1 w.2.2.1.length) h.r;rw[acK,pF h,ao,Bw h,ao];unfold aa3;dsimp only;cases b:di w with
 |false=>rfl
 |true =>
  rw[aZ,aa,kO,cu (fun m k=>nx F0 (oJ F0) m (j2 k w.1.1 w.1.2 w.2.1 w.2.2.1 w.2.2.2.1 w.2.2.2.2 (au w))) (au w).length (fun i=>(List.range i).all fun k=>vm (dn w i) (dn w k)) (some (true,())) (some (false,())) (fun m k a=>?_) (fun m=>?_) _ (by rw[bj];omega),gb,awS b]
  .rw[DN,aK a,ae,aCl h _ _ a,Yg]
  .rw[DN,az,aa,Vs]
def aAJ {w:aj}(h:dy w){γ:Type}(J:Ex->St->Option γ)(n:Nat){i:Nat}(d:i<(au w).length) :
  np F0 (jU F0 J n) F0.n (jT (au w)[i] ((au w).length:Int) (i:Int) ((au w).length:Int) 0 w.1.1 w.1.2 w.2.1 w.2.2.1 w.2.2.2.1 w.2.2.2.2 (au w) (au w)) =
  if ((List.range (au w).length).all fun k=>vm (dn w i) (dn w k))=true then nq F0 J n (jV ((au w).length:Int) ((i+1:Nat):Int) w.1.1 w.1.2 w.2.1 w.2.2.1 w.2.2.2.1 w.2.2.2.2 (au w)) else J .ret (yB false):=by
 have hlen:(au w).length<=1048576:=aR (dz w.2.1 w.2.2.1.length) h.r;obtain⟨g,e,b⟩:=hZ d;refine cu (fun m k=>np F0 (jU F0 J n) m (jT (au w)[i] ((au w).length:Int) (i:Int) ((au w).length:Int) k w.1.1 w.1.2 w.2.1 w.2.2.1 w.2.2.2.1 w.2.2.2.2 (au w) (au w))) (au w).length (fun k=>vm (dn w i) (dn w k)) _ _ (fun m k a=>?_) (fun m=>?_) _ (by rw[bj];omega)
 .obtain⟨j,f,c⟩:=hZ a;rw[DD,aK a,ae,al a,ad,e,al b,ad,aM a,f,al c,ad,aM b,aM c,atB (h.rl _ (cB b)).s.2 (h.rl _ (cB c)).s.2,ao,Ya,ag (by omega),ard d e b,ard a f c];dsimp only;cases vm (w.2.2.1[g]).2.2.2.1.2.2.2 (w.2.2.1[j]).2.2.2.1.2.2.2<;>rfl
 .rw[DD,az,aa,Vj,ag (by omega)]
def W8 {w:aj}(h:dy w):sz F0 w=some (aa3 w,()):=by
 have hlen:(au w).length<=1048576:=aR (dz w.2.1 w.2.2.1.length) h.r;rw[acA,mK h,ao,DY h,ao];unfold aa3;dsimp only;cases b:di w with
 |false=>rfl
 |true =>
  rw[aZ,aa,kO,cu (fun m k=>nq F0 (oH F0) m (jV ((au w).length:Int) k w.1.1 w.1.2 w.2.1 w.2.2.1 w.2.2.2.1 w.2.2.2.2 (au w))) (au w).length (fun i=>(List.range (au w).length).all fun k=>vm (dn w i) (dn w k)) (some (true,())) (some (false,())) (fun m k a=>?_) (fun m=>?_) _ (by rw[bj];omega),gb]
  .rw[DE,aK a,ae,al a,ad,show(((w.1.1,w.1.2),w.2.1,w.2.2.1,w.2.2.2.1,w.2.2.2.2):aj)=w from rfl,DY h,ao];dsimp only;rw[aM a,aAJ h _ _ a,Yb]
  .rw[DE,az,aa,Vk]
def Mm (w:aj)(x:Int):b0:=(w.2.2.1.getD x.toNat LM).2.2.2.1.2.2.1
def Yz (c:Int×Int)(x:j7):List b0:=if ((j9 c x.2).1.1==1)=true then [(j9 c x.2).1.2.2.1.2] else if ((j9 c x.2).1.1==3)=true then [(j9 c x.2).1.2.2.2.2.1] else []
def ur (c:Int×Int):List j7->List b0->List b0
 |[],xs=>xs|x::l,xs=>ur c l (xs++Yz c x)
def O7 (c:Int×Int):∀(l:List j7) (xs:List b0) (x:j7),ur c (l++[x]) xs=ur c l xs++Yz c x
 |[],_,_=>rfl|_::l,_,x=>O7 c l _ x
def atE (c:Int×Int)(x:j7):(Yz c x).length<=1:=by
 unfold Yz;split
 .exact bu _
 .split
  .exact bu _
  .exact aX _
def LO (c:Int×Int):∀(l:List j7) (xs:List b0),(ur c l xs).length<=xs.length+l.length
 |[],_=>bu _|x::l,xs=>by have a:=LO c l (xs++Yz c x);have b:=atE c x;rw[aW]at a;unfold ur;rw[bG];omega
def EV (w:aj):List b0:=ur w.1 w.2.2.2.1 ((au w).map (Mm w))
def amS {V:Type}(X:List b0->V)(c:Int×Int)(x:j7)(xs:List b0) :
  br ((j9 c x.2).1.1==1) (X (xs++[(j9 c x.2).1.2.2.1.2])) (br ((j9 c x.2).1.1==3) (X (xs++[(j9 c x.2).1.2.2.2.2.1])) (X xs))=X (xs++Yz c x):=by
 unfold Yz;cases ((j9 c x.2).1.1==1) with
 |true=>rfl
 |false =>
  cases ((j9 c x.2).1.1==3) with
  |true=>rfl
  |false =>
   rw[ah (by decide),ah (by decide),gO];rfl
def amT {U V:Type}(f:U->V)(l:List U)(x:U):(l++[x]).map f=l.map f++[f x]:=by rw[agz,List.map_singleton]
def awT {w:aj}(h:dy w){b:List b0}(f:b.length<=1048576):e7 F0 (j4 F0) F0.n (dQ w 0 b)=some (ur w.1 w.2.2.2.1 b,()):=by
 have g:=h.n;refine ca (fun n i (a:List b0)=>e7 F0 (j4 F0) n (dQ w i a)) w.2.2.2.1.length (fun k a=>a=ur w.1 (w.2.2.2.1.take k) b) _ (fun n k a c d=>.inr ⟨ur w.1 (w.2.2.2.1.take (k+1)) b,?_,rfl⟩) (fun n a d=>?_) _ 0 b (aX _) rfl (by rw[bj];omega)
 .have e:=LO w.1 (w.2.2.2.1.take k) b;rw[<-d,cp]at e;rw[DQ,aK c,ae,al c,ad,aM c,ac9 (h.nb _ (cB c)),ao,aE (by omega) (by omega) (by rw[ej];omega),ad,aE (by omega) (by omega) (by rw[ej];omega),ad,ag (by omega),de c,O7,<-d];exact amS (fun a=>e7 F0 (j4 F0) n (dQ w ((k+1:Nat):Int) a)) w.1 w.2.2.2.1[k] a
 .rw[DQ,az,aa,Vt,d,jr]
def aph {w:aj}(h:dy w):CO F0 w=some (EV w,()):=by
 have hlen:(au w).length<=1048576:=aR (dz w.2.1 w.2.2.1.length) h.r;rw[acM,Bw h,ao];refine ca (fun n i (a:List b0)=>ug F0 (yO F0) n (oK w i a (au w))) (au w).length (fun k a=>a=((au w).take k).map (Mm w)) _ (fun n k a b c=>.inr ⟨((au w).take (k+1)).map (Mm w),?_,rfl⟩) (fun n a c=>?_) _ 0 [] (aX _) rfl (by rw[bj];omega)
 .obtain⟨f,e,d⟩:=hZ b;have j:a.length<=1048576:=by rw[c,n1,cp];omega
  have g:Mm w (f:Int)=(w.2.2.1[f]).2.2.2.1.2.2.1:=by unfold Mm;rw[oR,aL d]
  rw[DR,aK b,ae,al b,ad,aM b,e,al d,ad,aE (by omega) (by omega) (by rw[ej];omega),ad,ag (by omega),aM d,de b,amT,<-c,e,g]
 .rw[DR,az,aa,Vu,c,jr,awT h (by rw[n1];omega)];rfl
def are (a b:b0):Bool:=(a.1==b.1)&& !(a.2.1.toList==b.2.1.toList)
def JH (l:List b0)(i k:Nat):Bool:= !are (l.getD i b1) (l.getD k b1)
def awU (a b:b0):are a b=are b a:=by unfold are;rw[HD (a:=a.1),HD (a:=a.2.1.toList)]
def awV (a:b0):are a a=false:=by unfold are;rw[C3 a.2.1.toList];simp
def O8 (w:aj):Bool:=di w&&(List.range (EV w).length).all fun i=>(List.range (EV w).length).all (JH (EV w) i)
def arf (l:List b0):((List.range l.length).all fun i=>(List.range i).all (JH l i))=(List.range l.length).all fun i=>(List.range l.length).all (JH l i) :=
 ade (fun i k _ _=>by unfold JH;rw[awU]) (fun i _=>by unfold JH;rw[awV];rfl)
def ajR {w:aj}(h:dy w):(EV w).length<=2097152:=by have hlen:(au w).length<=1048576:=aR (dz w.2.1 w.2.2.1.length) h.r;have a:=LO w.1 w.2.2.2.1 ((au w).map (Mm w));have b:=h.n;rw[n1]at a;unfold EV;omega
def ajS {V:Type}(a b:Bool)(x y:V):br a (br (!b) x y) y=if (!(a&& !b))=true then y else x:=by cases a<;>cases b<;>rfl
def ayS {l:List b0}(d:l.length<=2097152){γ:Type}(J:Ex->St->Option γ)(n:Nat){i:Nat}(a:i<l.length):gu F0 (hl F0 J n) F0.n (eX l (i:Int) 0) =
  if (List.range i).all (JH l i)=true then j5 F0 J n (hn l ((i+1:Nat):Int)) else J .ret (r2 false):=by
 refine cu (fun m k=>gu F0 (hl F0 J n) m (eX l (i:Int) k)) i (JH l i) _ _ (fun m k c=>?_) (fun m=>?_) _ (by rw[bj];omega)
 .have b:k<l.length:=by omega
  rw[yP,aK c,ae,al a,ad,al b,ad,aM a,aM b,ad,ad,TE,ag (by omega),ajS];unfold JH are;rw[aL a,aL b]
 .rw[yP,az,aa,Rc,ag (by omega)]
def ajT {w:aj}(h:dy w):uh F0 w=some (O8 w,()):=by
 have b:=ajR h;rw[Yj,pF h,ao,aph h,ao];dsimp only;rw[cu (fun m k=>j5 F0 (kN F0) m (hn (EV w) k)) (EV w).length (fun i=>(List.range i).all (JH (EV w) i)) (some (true,())) (some (false,())) (fun m k a=>?_) (fun m=>?_) _ (by rw[bj];omega),gb,arf]
 .unfold O8;cases di w<;>rfl
 .rw[yQ,aK a,ae,ayS b _ _ a,TF]
 .rw[yQ,az,aa,Re]
def awW {l:List b0}(c:l.length<=2097152){γ:Type}(J:Ex->St->Option γ)(n:Nat){i:Nat}(b:i<l.length):gq F0 (gX F0 J n) F0.n (eU (l.length:Int) (i:Int) (l.length:Int) 0 (l[i]).1 (l[i]).2.1 (l[i]).2.2 l) =
  if (List.range l.length).all (JH l i)=true then gr F0 J n (eV (l.length:Int) ((i+1:Nat):Int) l) else J .ret (rY false):=by
 refine cu (fun m k=>gq F0 (gX F0 J n) m (eU (l.length:Int) (i:Int) (l.length:Int) k (l[i]).1 (l[i]).2.1 (l[i]).2.2 l)) l.length (JH l i) _ _ (fun m k a=>?_) (fun m=>?_) _ (by rw[bj];omega)
 .rw[yF,aK a,ae,al a,ad,aM a,Tn,ag (by omega),ajS];unfold JH are;rw[aL b,aL a]
 .rw[yF,az,aa,Q6,ag (by omega)]
def atF {l:List b0}(b:l.length<=2097152):gr F0 (gY F0) F0.n (eV (l.length:Int) 0 l)=some (((List.range l.length).all fun i=>(List.range l.length).all (JH l i)),()):=by
 rw[cu (fun m k=>gr F0 (gY F0) m (eV (l.length:Int) k l)) l.length (fun i=>(List.range l.length).all (JH l i)) (some (true,())) (some (false,())) (fun m k a=>?_) (fun m=>?_) _ (by rw[bj];omega),gb]
 .rw[yG,aK a,ae,al a,ad,aM a,awW b _ _ a,To]
 .rw[yG,az,aa,Q7]
def atG {w:aj}(h:dy w){b:List b0}(g:b.length<=1048576){R:Option (Bool×Unit)}(e:eW F0 (.exit 2) (px (ur w.1 w.2.2.2.1 b))=R) :
  dO F0 (eW F0) F0.n (c5 w.2.2.2.1 (w.2.2.2.1.length:Int) 0 w.1.1 w.1.2 w.2.1 w.2.2.1 w.2.2.2.1 w.2.2.2.2 b)=R:=by
 have j:=h.n;refine ca (fun n i (a:List b0)=>dO F0 (eW F0) n (c5 w.2.2.2.1 (w.2.2.2.1.length:Int) i w.1.1 w.1.2 w.2.1 w.2.2.1 w.2.2.2.1 w.2.2.2.2 a)) w.2.2.2.1.length (fun k a=>a=ur w.1 (w.2.2.2.1.take k) b) _ (fun n k a c d=>.inr ⟨ur w.1 (w.2.2.2.1.take (k+1)) b,?_,rfl⟩) (fun n a d=>?_) _ 0 b (aX _) rfl (by rw[bj];omega)
 .have f:=LO w.1 (w.2.2.2.1.take k) b;rw[<-d,cp]at f;rw[yH,aK c,ae,al c,ad,aM c,show((w.1.1,w.1.2):Int×Int)=w.1 from rfl,ajM (h.nb _ (cB c)),ao,aE (by omega) (by omega) (by rw[ej];omega),ad,aE (by omega) (by omega) (by rw[ej];omega),ad,ag (by omega),de c,O7,<-d];exact amS (fun a=>dO F0 (eW F0) n (c5 w.2.2.2.1 (w.2.2.2.1.length:Int) ((k+1:Nat):Int) w.1.1 w.1.2 w.2.1 w.2.2.1 w.2.2.2.1 w.2.2.2.2 a)) w.1 w.2.2.2.1[k] a
 .rw[yH,az,aa,d,jr];exact e
def QV {w:aj}(h:dy w):ns F0 w=some (O8 w,()):=by
 have hlen:(au w).length<=1048576:=aR (dz w.2.1 w.2.2.1.length) h.r;have f:=ajR h;rw[Yd,mK h,ao,DY h,ao];dsimp only;have key:jX F0 (kL F0) F0.n (gZ ((au w).length:Int) 0 w.1.1 w.1.2 w.2.1 w.2.2.1 w.2.2.2.1 w.2.2.2.2 [] (au w))=some (((List.range (EV w).length).all fun i=>(List.range (EV w).length).all (JH (EV w) i)),()):=by
  refine ca (fun n i (a:List b0)=>jX F0 (kL F0) n (gZ ((au w).length:Int) i w.1.1 w.1.2 w.2.1 w.2.2.1 w.2.2.2.1 w.2.2.2.2 a (au w))) (au w).length (fun k a=>a=((au w).take k).map (Mm w)) _ (fun n k a b c=>.inr ⟨((au w).take (k+1)).map (Mm w),?_,rfl⟩) (fun n a c=>?_) _ 0 [] (aX _) rfl (by rw[bj];omega)
  .obtain⟨g,e,d⟩:=hZ b;have f:a.length<=1048576:=by rw[c,n1,cp];omega
   have j:Mm w (g:Int)=(w.2.2.1[g]).2.2.2.1.2.2.1:=by unfold Mm;rw[oR,aL d]
   rw[yI,aK b,ae,al b,ad,aM b,e,al d,ad,aE (by omega) (by omega) (by rw[ej];omega),ad,ag (by omega),aM d,de b,amT,<-c,e,j]
  .rw[yI,az,aa,Q9,c,jr];exact atG h (by rw[n1];omega) (by rw[Q8];exact atF f)
 rw[key];unfold O8;cases di w<;>rfl
def mL:bK:=(0,0,b1,ai)
def amU:oN mL:=⟨db,aX _⟩
def arh {b:List Int}{s:N7}(h:(cS b s).2.2=true):s.2=true:=by
 unfold cS at h;split at h
 .split at h
  .assumption
  .cases h
 .cases h
def O9 (b:List Int):bK×N7 :=
 (((ho b).1,(aO b (ho b).2).1,(vp b (aO b (ho b).2).2).1,(cS b (vp b (aO b (ho b).2).2).2).1),(cS b (vp b (aO b (ho b).2).2).2).2)
def pG (c:Int×Int)(b:List Int):bK×Bool:=if (O9 b).2.2=true/\((O9 b).2.1:Int)=(b.length:Int)/\b2 c (O9 b).1=true then ((O9 b).1,true) else (mL,false)
def ajU {b:List Int}(a:cF b)(h:(O9 b).2.2=true):oN (O9 b).1:=by have d:(ho b).2.1<=b.length:=(dx a (s:=(0,true)) (aX _)).1;have e:=(dx a d).1;have q:=O4 a e;have x:=vl a q.1;have c:(cS b (vp b (aO b (ho b).2).2).2).2.2=true->(vp b (aO b (ho b).2).2).2.2=true:=arh;unfold O9 at h ⊢;generalize cS b (vp b (aO b (ho b).2).2).2=f at h x c ⊢;generalize vp b (aO b (ho b).2).2=g at q c ⊢;generalize aO b (ho b).2=i;generalize ho b=j;exact⟨q.2 (c h),x.2⟩
def ayT {b:List Int}(a:cF b)(c:Int×Int):oN (pG c b).1:=by
 unfold pG;split
 .rename_i h;exact ajU a h.1
 .exact amU
def asK {c:Int×Int}{b:List Int}{m:bK}{s:N7}{f:bK->Option (Bool×Unit)}(h:s.2=true->f m=some (b2 c m,())) :
  br (!s.2) (some (mL,false,())) (br ((s.1:Int) != (b.length:Int)) (some (mL,false,())) ((f m).bind fun d=>br (!d.1) (some (mL,false,())) (some (m,true,())))) =
   some ((if s.2=true/\(s.1:Int)=(b.length:Int)/\b2 c m=true then ((m,true):bK×Bool) else (mL,false)).1,(if s.2=true/\(s.1:Int)=(b.length:Int)/\b2 c m=true then ((m,true):bK×Bool) else (mL,false)).2,()):=by
 cases e:s.2 with
 |false =>
  rw[ah (fun h=>by cases h.1)];rfl
 |true =>
  rw[aZ,aa,h e,ao];by_cases a:(s.1:Int)=(b.length:Int)
  .rw[show((s.1:Int) != (b.length:Int))=false from Ri.2 a,aa];cases g:b2 c m with
   |false =>
    rw[ah (fun h=>by cases h.2.2)];rfl
   |true =>
    rw[an ⟨rfl,a,rfl⟩];rfl
  .rw[C4.2 a,ae,ah (fun h=>a h.2.1)]
def atH {b:List Int}(a:cF b)(c:Int×Int):KR F0 c b=some ((pG c b).1,(pG c b).2,()):=by have j:cx F0 (b,0,true)=some (((ho b).1,()),cell b (ho b).2,()):=rC a (s:=(0,true)) (aX _);have e:(ho b).2.1<=b.length:=(dx a (s:=(0,true)) (aX _)).1;have g:=(dx a e).1;have q:=O4 a g;have d:=ajU a;rw[aiJ,j,ao,rC a e,ao,att a g,ao,aaY a q.1,ao];unfold pG;unfold O9 at d ⊢;generalize cS b (vp b (aO b (ho b).2).2).2=i at d ⊢;generalize vp b (aO b (ho b).2).2=k at d ⊢;generalize aO b (ho b).2=l at d ⊢;generalize ho b=n at d ⊢;exact asK (c:=c) (b:=b) (m:=(n.1,l.1,k.1,i.1)) (s:=i.2) (f:=fun m=>hM F0 c m) fun h=>Bv (d h) c
def ari {b:List Int}(a:cF b)(c:Int×Int):Lz F0 c b=some ((pG c b).1,(pG c b).2,()):=by have j:bs F0 (b,0,false)=some (((ho b).1,()),TY b (ho b).2,()):=lL a (s:=(0,true)) (aX _);have e:(ho b).2.1<=b.length:=(dx a (s:=(0,true)) (aX _)).1;have g:=(dx a e).1;have q:=O4 a g;have d:=ajU a;rw[ajg,j,ao,lL a e,ao,apc a g,ao,UI a q.1,ao];unfold pG;unfold O9 at d ⊢;generalize cS b (vp b (aO b (ho b).2).2).2=i at d ⊢;generalize vp b (aO b (ho b).2).2=k at d ⊢;generalize aO b (ho b).2=l at d ⊢;generalize ho b=n at d ⊢;exact asK (c:=c) (b:=b) (m:=(n.1,l.1,k.1,i.1)) (s:=i.2) (f:=fun m=>vf F0 c m) fun h=>ael (d h) c
def YA (b:List Int)(i j:Nat):List Int:=(b.take j).drop i
def aa4 {b:List Int}(a:cF b)(i j:Nat):cF (YA b i j):=by have d:=a.1;refine⟨?_,fun x c=>a.2 x (VC (anp c))⟩;unfold YA;rw[b7,cp];omega
def awX {b:List Int}(a:cF b):bytesOf (strOf b)=b:=by unfold bytesOf strOf;simp only[List.map_map];refine(List.map_congr_left fun x c=>?_).trans (List.map_id b);have:=a.2 x c;simp only[Function.comp,id,UInt8.toNat_ofNat'];omega
def QW (c:Int×Int)(b:List Int)(a:Nat):Option (bK×Nat):=match r4 b a with
 |none=>none|some (v,d)=>if v>=(b.length:Int)-d then none else if b.getD (d+v.toNat) 0≠10 then none else if (pG c (YA b d (d+v.toNat))).2=true then some ((pG c (YA b d (d+v.toNat))).1,d+v.toNat+1) else none
def FZ (c:Int×Int)(b:List Int):Nat->bK->Nat->bK×Nat
 |0,s,a=>(s,a)|f+1,s,a=>match QW c b a with
  |none=>(s,a)|some (d,e)=>FZ c b f d e
def ff (c:Int×Int)(b:List Int):bK×Nat:=FZ c b (b.length+1) mL 0
def Pb {c:Int×Int}{b:List Int}{a:Nat}{v:Int}{a':Nat}(h:r4 b a=some (v,a')):QW c b a =
  if v>=(b.length:Int)-a' then none else if b.getD (a'+v.toNat) 0≠10 then none else if (pG c (YA b a' (a'+v.toNat))).2=true then some ((pG c (YA b a' (a'+v.toNat))).1,a'+v.toNat+1) else none:=by
 unfold QW;rw[h]
def Pc {c:Int×Int}{b:List Int}{a:Nat}(h:r4 b a=none):QW c b a=none:=by unfold QW;rw[h]
def iH {c:Int×Int}{b:List Int}{f:Nat}{s:bK}{a:Nat}(h:QW c b a=none):FZ c b (f+1) s a=(s,a):=by unfold FZ;rw[h]
def Jx {c:Int×Int}{b:List Int}{f:Nat}{s d:bK}{a a':Nat}(h:QW c b a=some (d,a')):FZ c b (f+1) s a=FZ c b f d a':=by rw[FZ,h]
def arj {c:Int×Int}{b:List Int}(f:cF b){a:Nat}(i:a<=b.length){s:bK}{a':Nat}(h:QW c b a=some (s,a')):a<a'/\a'<=b.length/\oN s:=by
 cases e:r4 b a with
 |none=>rw[Pc e]at h;cases h
 |some r =>
  obtain⟨v,d⟩:=r;have j:=UH f i e;have g:=ayT (aa4 f d (d+v.toNat)) c;rw[Pb e]at h;generalize pG c (YA b d (d+v.toNat))=r at h g;split at h
  .cases h
  .rename_i k;split at h
   .cases h
   .split at h
    .cases h;exact⟨by omega,by omega,g⟩
    .cases h
def amV (c:Int×Int){b:List Int}(g:cF b)(p q t:Int)(u w:ByteArray)(xs:List Int):∀(f:Nat) (s:bK) (a n:Nat),a<=b.length->b.length+1<=a+f->f<n ->
  tN F0 (x4 F0) n (ou b (a:Int) c.1 c.2 p q t u w s.1 s.2.1 s.2.2.1.1 s.2.2.1.2.1 s.2.2.2 xs s.2.2.1.2.2)=some ((FZ c b f s a).1,((FZ c b f s a).2:Int),())
 |0,s,a,n,j,x,y=>by omega
 |f+1,s,a,n,j,x,y=>by
  obtain⟨n,rfl⟩:∃m,n=m+1:=⟨n-1,by omega⟩;have A:=g.1;cases i:r4 b a with
  |none =>
   have law:jE F0 b (a:Int)=some (0,0,false,()):=by rw[aaX g j,i];rfl
   rw[Ds,law,ao,IH,iH (Pc i)];rfl
  |some r =>
   obtain⟨v,d⟩:=r;have B:=UH g j i;have law:jE F0 b (a:Int)=some (v,(d:Int),true,()):=by rw[aaX g j,i];rfl
   have e:=Pb (c:=c) i;rw[Ds,law,ao,IH];dsimp only;rw[aZ,aa,aB (n:=(b.length:Int)-d) (by omega) (by omega),show ak ((d:Int)+v)=((d+v.toNat:Nat):Int) by rw[aB (by omega) (by omega)];omega];by_cases k:v>=(b.length:Int)-d
   .rw[an k]at e;rw[aS k,ae,iH e]
   .have z:d+v.toNat<b.length:=by omega
    rw[ah k]at e;rw[aT k,aa,al z,ad,kS];by_cases l:b.getD (d+v.toNat) 0=10
    .rw[ah (fun h=>h l)]at e;rw[show(b.getD (d+v.toNat) 0 != 10)=false from Ri.2 l,aa,UG (by omega) (by omega),ad,show((c.1,c.2):Int×Int)=c from rfl,oR,oR,
      show((b.take (d+v.toNat)).drop d)=YA b d (d+v.toNat) from rfl,atH (aa4 g _ _),ao]
     dsimp only;generalize pG c (YA b d (d+v.toNat))=r at e ⊢;cases o:r.2 with
     |false =>
      rw[o,ah (by decide)]at e;rw[gQ,ae,iH e]
     |true =>
      rw[o,an rfl]at e;rw[aZ,aa,ag (by omega),Jx e];exact amV c g p q t u w xs f r.1 (d+v.toNat+1) n (by omega) (by omega) (by omega)
    .rw[an l]at e;rw[C4.2 l,ae,iH e]
def aa5 {b:List Int}(a:cF b)(c:Int×Int):so F0 c b=some ((ff c b).1,((ff c b).2:Int),()):=by have d:=a.1;rw[acn,Qq,ao];exact amV c a 0 0 0 _ _ [] (b.length+1) mL 0 _ (aX _) (by omega) (by rw[bj];omega)
def awY {b:List Int}{a:Nat}{v:Int}{a':Nat}(h:r4 b a=some (v,a')):Yw b a=if v>(b.length:Int)-a' then none else some (strOf (YA b a' (a'+v.toNat)),a'+v.toNat):=by unfold Yw;rw[h];rfl
def awZ {b:List Int}{a:Nat}(h:r4 b a=none):Yw b a=none:=by unfold Yw;rw[h]
def ajV (c:Int×Int){b:List Int}(g:cF b)(o p q:Int)(t u:ByteArray)(xs:List Int):∀(f:Nat) (s:bK) (a n:Nat),a<=b.length->b.length+1<=a+f->f<n ->
  nu F0 (oI F0) n (jY b (a:Int) c.1 c.2 o p q t u s.1 s.2.1 s.2.2.1.1 s.2.2.1.2.1 s.2.2.2 xs s.2.2.1.2.2)=some ((FZ c b f s a).1,((FZ c b f s a).2:Int),())
 |0,s,a,n,i,z,A=>by omega
 |f+1,s,a,n,i,z,A=>by
  obtain⟨n,rfl⟩:∃m,n=m+1:=⟨n-1,by omega⟩;have C:=g.1;have bad:mv F0 b (a:Int)=some (ai,0,false,())->QW c b a=none->nu F0 (oI F0) (n+1) (jY b (a:Int) c.1 c.2 o p q t u s.1 s.2.1 s.2.2.1.1 s.2.2.1.2.1 s.2.2.2 xs s.2.2.1.2.2)=some ((FZ c b (f+1) s a).1,((FZ c b (f+1) s a).2:Int),()):=by intro law e;rw[DL,law,ao,Jf,iH e];rfl
  cases j:r4 b a with
  |none=>exact bad (by rw[Hh g i,awZ j];rfl) (Pc j)
  |some r =>
   obtain⟨v,d⟩:=r;have D:=UH g i j;have e:=Pb (c:=c) j;have k:=awY j;by_cases w:v>(b.length:Int)-d
   .rw[an w]at k;rw[an (show v>=(b.length:Int)-d by omega)]at e;exact bad (by rw[Hh g i,k];rfl) e
   .rw[ah w]at k;have law:mv F0 b (a:Int)=some (strOf (YA b d (d+v.toNat)),((d+v.toNat:Nat):Int),true,()):=by rw[Hh g i,k];rfl
    rw[DL,law,ao,Jf];dsimp only;rw[aZ,aa];by_cases x:v>=(b.length:Int)-d
    .rw[an x]at e;rw[aS (show((d+v.toNat:Nat):Int)>=(b.length:Int) by omega),ae,iH e]
    .have B:d+v.toNat<b.length:=by omega
     rw[ah x]at e;rw[aT (show ¬((d+v.toNat:Nat):Int)>=(b.length:Int) by omega),aa,al B,ad,kS];by_cases l:b.getD (d+v.toNat) 0=10
     .have E:((strOf (YA b d (d+v.toNat))).size:Int)<=1048576:=by have:=(aa4 g d (d+v.toNat)).1;show((((YA b d (d+v.toNat)).map fun n=>UInt8.ofNat n.toNat).toArray.size:Nat):Int)<=1048576;rw[List.size_toArray,n1];omega
      rw[ah (fun h=>h l)]at e;rw[show(b.getD (d+v.toNat) 0 != 10)=false from Ri.2 l,aa,show((c.1,c.2):Int×Int)=c from rfl,aS (show((strOf (YA b d (d+v.toNat))).size:Int)<=F0.mem by rw[ayn];omega),ad,awX (aa4 g _ _),ari (aa4 g _ _),ao];dsimp only;generalize pG c (YA b d (d+v.toNat))=r at e ⊢;cases y:r.2 with
      |false =>
       rw[y,ah (by decide)]at e;rw[gQ,ae,iH e]
      |true =>
       rw[y,an rfl]at e;rw[aZ,aa,ag (by omega),Jx e];exact ajV c g o p q t u xs f r.1 (d+v.toNat+1) n (by omega) (by omega) (by omega)
     .rw[an l]at e;rw[C4.2 l,ae,iH e]
def alH {b:List Int}(a:cF b)(c:Int×Int):CL F0 c b=some ((ff c b).1,((ff c b).2:Int),()):=by have d:=a.1;rw[acG,af3,ao];exact ajV c a 0 0 0 _ _ [] (b.length+1) mL 0 _ (aX _) (by omega) (by rw[bj];omega)
def avL (c:Int×Int){b:List Int}(e:cF b):∀(f:Nat) (s:bK) (a:Nat),a<=b.length->oN s->oN (FZ c b f s a).1
 |0,_,_,_,h=>h|f+1,s,a,g,h=>by
  cases d:QW c b a with
  |none =>
   rw[iH d];exact h
  |some r =>
   obtain⟨i,j⟩:=r;have:=arj e g d;rw[Jx d];exact avL c e f i j this.2.1 this.2.2
def ajW (c:Int×Int){b:List Int}(a:cF b):oN (ff c b).1:=avL c a _ _ _ (aX _) amU
def nz (a b:bK):Bool:=(a.1==b.1)&&((a.2.1==b.2.1)&&(iG a.2.2.1 b.2.2.1&&(a.2.2.2.toList==b.2.2.2.toList)))
def aa6 {a b:bK}(c:oN a)(d:oN b):sj F0 a b=some (nz a b,()):=by rw[ab4,ac6 c.1 d.1,ao];unfold nz;cases (a.1==b.1)<;>cases (a.2.1==b.2.1)<;>cases iG a.2.2.1 b.2.2.1<;>rfl
def alI {a b:bK}(c:oN a):CM F0 a b=some (nz a b,()):=by rw[acI,Yt c.1,ao];unfold nz;cases (a.1==b.1)<;>cases (a.2.1==b.2.1)<;>cases iG a.2.2.1 b.2.2.1<;>rfl
def ajX (c:Int×Int)(r:ay):Bool:=rQ c r&&(nz (ff c r.2.2.2.2.2.2.1.1).1 r.2.2.2.1&&(((ff c r.2.2.2.2.2.2.1.1).2:Int)==(r.2.2.2.2.2.2.1.1.length:Int)))
def ayU {r:ay}(h:aga r)(a:cF r.2.2.2.2.2.2.1.1)(c:Int×Int):UC F0 c r=some (ajX c r,()):=by rw[aoQ,fx h,ao,aa5 a,ao,aa6 (ajW c a) h.s,ao];unfold ajX;cases rQ c r<;>cases nz (ff c r.2.2.2.2.2.2.1.1).1 r.2.2.2.1<;>rfl
def aw0 {r:ay}(h:aga r)(a:cF r.2.2.2.2.2.2.1.1)(c:Int×Int):UB F0 c r=some (ajX c r,()):=by rw[aoO,alH a,ao,Yu h,ao,alI (ajW c a),ao];unfold ajX;cases rQ c r<;>cases nz (ff c r.2.2.2.2.2.2.1.1).1 r.2.2.2.1<;>rfl
def rp (w:aj)(i:Nat):ay:=w.2.2.1.getD ((au w).getD i 0).toNat LM
def amW {w:aj}{i j:Nat}(a:i<(au w).length)(e:(au w)[i]=(j:Int))(b:j<w.2.2.1.length):rp w i=w.2.2.1[j]:=by unfold rp;rw[aL a,e,oR,aL b]
def YB (w:aj)(i k:Nat):Bool:= !(((w.2.2.2.2.getD k O5).2.2==(au w).getD i 0)&&decide ((w.2.2.2.2.getD k O5).1>(rp w i).2.2.2.1.1))
def ajY (w:aj)(i:Nat):Bool:=ajX w.1 (rp w i)&&(List.range w.2.2.2.2.length).all (YB w i)
def adg (w:aj):Bool:=di w&&(List.range (au w).length).all (ajY w)
def api (w:aj):Prop:=∀r∈w.2.2.1,cF r.2.2.2.2.2.2.1.1
def amX {V:Type}(a b:Bool)(x y:V):br a (br b x y) y=if (!(a&&b))=true then y else x:=by cases a<;>cases b<;>rfl
def aAK {w:aj}(h:dy w){γ:Type}(J:Ex->St->Option γ)(n:Nat){i:Nat}(a:i<(au w).length) :
  hY F0 (iC F0 J n) F0.n (fw (i:Int) 0 w.1.1 w.1.2 w.2.1 w.2.2.1 w.2.2.2.1 w.2.2.2.2 (au w)) =
  if (List.range w.2.2.2.2.length).all (YB w i)=true then lK F0 J n (iD ((i+1:Nat):Int) w.1.1 w.1.2 w.2.1 w.2.2.1 w.2.2.2.1 w.2.2.2.2 (au w)) else J .ret (mH false):=by
 have hlen:(au w).length<=1048576:=aR (dz w.2.1 w.2.2.1.length) h.r;have d:=h.s;obtain⟨f,e,c⟩:=hZ a;refine cu (fun m k=>hY F0 (iC F0 J n) m (fw (i:Int) k w.1.1 w.1.2 w.2.1 w.2.2.1 w.2.2.2.1 w.2.2.2.2 (au w))) w.2.2.2.2.length (YB w i) _ _ (fun m k b=>?_) (fun m=>?_) _ (by rw[bj];omega)
 .unfold YB;rw[Ap,aK b,ae,al b,ad,al a,ad,aM a,e,al c,aM b,aM c,ad,ad,ad,Vw,ag (by omega),amX,aL b,amW a e c,aL a,e]
 .rw[Ap,az,aa,TI,ag (by omega)]
def alJ {w:aj}(h:dy w)(d:api w):yT F0 w=some (adg w,()):=by
 have hlen:(au w).length<=1048576:=aR (dz w.2.1 w.2.2.1.length) h.r;rw[aaG,pF h,ao,Bw h,ao];dsimp only;rw[cu (fun m k=>lK F0 (mI F0) m (iD k w.1.1 w.1.2 w.2.1 w.2.2.1 w.2.2.2.1 w.2.2.2.2 (au w))) (au w).length (ajY w) (some (true,())) (some (false,())) (fun m k a=>?_) (fun m=>?_) _ (by rw[bj];omega),gb]
 .unfold adg;cases di w<;>rfl
 .obtain⟨f,e,b⟩:=hZ a;have c:=cB b;rw[Aq,aK a,ae,al a,ad,aM a,e,al b,ad,aM b,show((w.1.1,w.1.2):Int×Int)=w.1 from rfl,ayU (h.rl _ c) (d _ c),ao,aAK h _ _ a,Vx];unfold ajY;rw[amW a e b];dsimp only;cases ajX w.1 w.2.2.1[f]<;>rfl
 .rw[Aq,az,aa,TJ]
def ayV {w:aj}(h:dy w){γ:Type}(J:Ex->St->Option γ)(n:Nat){i:Nat}(b:i<(au w).length) :
  hX F0 (iy F0 J n) F0.n (ft (au w)[i] ((au w).length:Int) (i:Int) w.2.2.2.2 (w.2.2.2.2.length:Int) 0 w.1.1 w.1.2 w.2.1 w.2.2.1 w.2.2.2.1 w.2.2.2.2 (au w)) =
  if (List.range w.2.2.2.2.length).all (YB w i)=true then lG F0 J n (iz ((au w).length:Int) ((i+1:Nat):Int) w.1.1 w.1.2 w.2.1 w.2.2.1 w.2.2.2.1 w.2.2.2.2 (au w)) else J .ret (mD false):=by
 have hlen:(au w).length<=1048576:=aR (dz w.2.1 w.2.2.1.length) h.r;have d:=h.s;obtain⟨f,e,c⟩:=hZ b;refine cu (fun m k=>hX F0 (iy F0 J n) m (ft (au w)[i] ((au w).length:Int) (i:Int) w.2.2.2.2 (w.2.2.2.2.length:Int) k w.1.1 w.1.2 w.2.1 w.2.2.1 w.2.2.2.1 w.2.2.2.2 (au w))) w.2.2.2.2.length (YB w i) _ _ (fun m k a=>?_) (fun m=>?_) _ (by rw[bj];omega)
 .unfold YB;rw[Al,aK a,ae,al a,ad,e,al c,aM a,aM c,ad,Vp,ag (by omega),amX,aL a,amW b e c,aL b,e]
 .rw[Al,az,aa,Tx,ag (by omega)]
def T1 {w:aj}(h:dy w)(d:api w):pB F0 w=some (adg w,()):=by
 have hlen:(au w).length<=1048576:=aR (dz w.2.1 w.2.2.1.length) h.r;rw[aaA,mK h,ao,DY h,ao];dsimp only;rw[cu (fun m k=>lG F0 (mE F0) m (iz ((au w).length:Int) k w.1.1 w.1.2 w.2.1 w.2.2.1 w.2.2.2.1 w.2.2.2.2 (au w))) (au w).length (ajY w) (some (true,())) (some (false,())) (fun m k a=>?_) (fun m=>?_) _ (by rw[bj];omega),gb]
 .unfold adg;cases di w<;>rfl
 .obtain⟨f,e,b⟩:=hZ a;have c:=cB b;rw[An,aK a,ae,al a,ad,aM a,ayV h _ _ a,e,al b,ad,aM b,show((w.1.1,w.1.2):Int×Int)=w.1 from rfl,aw0 (h.rl _ c) (d _ c),ao,Vq];unfold ajY;rw[amW a e b];dsimp only;cases ajX w.1 w.2.2.1[f]<;>rfl
 .rw[An,az,aa,Tz]
def aep {l:n0}(g:af7 l){list:List ez}(m:list.length<=1048576):DK F0 l list=some (uM l list,iE l list,()):=by
 rw[ajf,TN (by have:=g.1;omega) (by have:=g.2;omega),ao];refine ca (fun n i (z:List Int×n0)=>CK F0 (ES F0) n (uc list (list.length:Int) i z.1 [] [] z.2.1 z.2.2)) list.length (fun k z=>z.1=iE l (list.take k)/\z.2=uM l (list.take k)) _ (fun n k z e f=>.inr ⟨(z.1++[(r3 z.2 list[k]).2],(r3 z.2 list[k]).1),?_,?_⟩) (fun n z f=>?_) F0.n 0 ([],l) (aX _) ⟨rfl,rfl⟩ (by rw[bj];omega)
 .obtain⟨d,c⟩:=f;have h:af7 z.2:=by rw[c];exact UF g
  have o:z.1.length<=1048576:=by rw[d,yW,cp];omega
  rw[Jc,aK e,ae,al e,ad,aeg e]
  try rw[aDk]
  rw[ayB (l:=(z.2.1,z.2.2)) (by have:=h.1;show z.2.1.length<=_;omega) (by have:=h.2;show z.2.2.length<=_;omega),ao];simp only;rw[aE (a:=z.1.length) (b:=[(r3 (z.2.1,z.2.2) list[k]).2].length) (k:=8) (by omega) (by omega) (by simp only[bG,bd];omega),ad,ag (by omega)]
 .obtain⟨d,c⟩:=f;have j:list.take (k+1)=list.take k++[list[k]]:=by rw[JM,mO e];rfl
  refine⟨?_,?_⟩
  .rw[j,OX,<-d,<-c];rfl
  .rw[j,TP,<-c]
 .obtain⟨d,c⟩:=f;rw[jr]at d c;rw[Jc,az,aa,aax,d,c]
def atI {l:List UInt8}(f:l.length<=1073741824):Bp F0 (tx l)=some ((bS l).1.flatMap (·.2),()):=by
 rw[alx,Yo f,ao];have hlen:=vk l;have cX:=OW l;generalize h:(bS l).1=ss at hlen cX;refine ca (fun n i xs=>Hb F0 (I7 F0) n (yJ (ss.length:Int) i xs ss)) ss.length (fun k xs=>xs=(ss.take k).flatMap (·.2)) _ (fun n k xs c d=>.inr ⟨_,?_,rfl⟩) (fun n xs d=>?_) F0.n 0 [] (aX _) rfl (by rw[bj];omega)
 .have j:=(cX _ (cB c)).2.2.1;have e:=aaR (ss:=ss.take k) fun x e=>cX x (VC e)
  rw[<-d,cp]at e;rw[Ls,aK c,ae,al c,ad,aeg c,aE (a:=xs.length) (b:=ss[k].2.length) (k:=32) (by omega) (by omega) (by omega),ad,ag (by omega),d];have g:(ss.take (k+1)).flatMap (·.2)=(ss.take k).flatMap (·.2)++ss[k].2:=by rw[show ss.take (k+1)=ss.take k++[ss[k]] by rw[JM,mO c];rfl,List.flatMap_append];simp
  rw[g]
 .rw[jr]at d;rw[Ls,az,aa,acB,d]
def N8 (b:ByteArray):List ez:=(bS b.data.toList).1.flatMap (·.2)
def sD (b:ByteArray):(N8 b).length<=60:=by have a:=aaR (OW b.data.toList);have c:=vk b.data.toList;unfold N8;omega
def ajZ {b:ByteArray}(h:b.size<=1048576):o8 F0 b=some (N8 b,()):=awD (W6 h)
def amY {b:ByteArray}(h:b.size<=1048576):Bp F0 b=some (N8 b,()):=atI (W6 h)
def T2:af7 ajz:=⟨rfl,rfl⟩
def ka (c:Int×Int)(r:ay):n0:=if rQ c r=true then uM ajz (N8 r.2.2.2.1.2.2.2) else ([],[])
def amZ {r:ay}(h:aga r)(c:Int×Int):A6 F0 c r=some (ka c r,()):=by have a:=sD r.2.2.2.1.2.2.2;rw[ale,fx h,ao,Ml,ao,ajZ h.s.2,ao,Yq T2 (aR (sD _) (by omega)),ao];unfold ka;cases rQ c r<;>rfl
def atJ {r:ay}(h:aga r)(c:Int×Int):OP F0 c r=some (ka c r,()):=by have a:=sD r.2.2.2.1.2.2.2;rw[aly,Yu h,ao,TO,ao,amY h.s.2,ao,aep T2 (aR (sD _) (by omega)),ao];unfold ka;cases rQ c r<;>rfl
def aeq (c:Int×Int)(r:ay):(ka c r).1.length<=4:=by
 unfold ka;split
 .exact agK (UF T2).1
 .exact aX _
def QX:List Int->Int->Int
 |[],n=>n|x::l,n=>QX l (ak (n+x))
def YC:∀(l:List Int) (x n:Int),QX (l++[x]) n=ak (QX l n+x)
 |[],_,_=>rfl|_::l,x,_=>YC l x _
def aw1 {l:n0}(h:l.1.length<=1048576):OT F0 l=some (QX l.1 0,()):=by
 rw[alE];refine ca (fun n i (q:Int)=>Hf F0 (Jl F0) n (yR q i l.1 l.2)) l.1.length (fun k q=>q=QX (l.1.take k) 0) _ (fun n k q a b=>.inr ⟨QX (l.1.take (k+1)) 0,?_,rfl⟩) (fun n q b=>?_) _ 0 0 (aX _) rfl (by rw[bj];omega)
 .rw[LH,aK a,ae,al a,ad,aM a,ag (by omega),de a,YC,<-b]
 .rw[LH,az,aa,acO,b,jr]
def atK {l:n0}(h:l.1.length<=1048576):OQ F0 l=some (QX l.1 0,()):=by
 rw[alA];refine ca (fun n i (q:Int)=>Hd F0 (Jd F0) n (yK q l.1 (l.1.length:Int) i)) l.1.length (fun k q=>q=QX (l.1.take k) 0) _ (fun n k q a b=>.inr ⟨QX (l.1.take (k+1)) 0,?_,rfl⟩) (fun n q b=>?_) _ 0 0 (aX _) rfl (by rw[bj];omega)
 .rw[Lx,aK a,ae,al a,ad,aM a,ag (by omega),de a,YC,<-b]
 .rw[Lx,az,aa,acF,b,jr]
def aj0 (c:Int):Bool:=(c==0) || (c==4)
def okP (xs:List ez)(cs:List Int)(i k:Nat):Bool:= !(aj0 (cs.getD i 0)&&(aj0 (cs.getD k 0)&&(((xs.getD i ny).1==(xs.getD k ny).1)&&((xs.getD i ny).2.2.2==(xs.getD k ny).2.2.2))))
def ark (b:ByteArray):Bool:=(List.range (N8 b).length).all fun i=>(List.range i).all (okP (N8 b) (iE ajz (N8 b)) i)
def aw2 {V:Type}(a b c d e f:Bool)(x y:V) :
  br a (br b (br e (br f x y) y) (br d (br e (br f x y) y) y)) (br b (br c (br e (br f x y) y) y) (br c (br d (br e (br f x y) y) y) y))=if (!((a || c)&&((b || d)&&(e&&f))))=true then y else x:=by
 cases a<;>cases b<;>cases c<;>cases d<;>cases e<;>cases f<;>rfl
def aAL {xs:List ez}{cs:List Int}(f:cs.length=xs.length)(g:xs.length<=1048576){γ:Type}(J:Ex->St->Option γ)(n:Nat){i:Nat}(a:i<xs.length):bQ F0 (lI F0 J n) F0.n (bE (i:Int) 0 xs cs) =
  if (List.range i).all (okP xs cs i)=true then pC F0 J n (lJ ((i+1:Nat):Int) xs cs) else J .ret (Bq false):=by
 refine cu (fun m k=>bQ F0 (lI F0 J n) m (bE (i:Int) k xs cs)) i (okP xs cs i) _ _ (fun m k e=>?_) (fun m=>?_) _ (by rw[bj];omega)
 .have b:k<xs.length:=by omega
  have c:i<cs.length:=by omega
  have d:k<cs.length:=by omega
  simp only[FU,aK e,ae,al a,al b,al c,al d,ad,aM a,aM b,aM c,aM d,aaC,ag (show k+1<=9223372036854775807 by omega)];rw[aw2];unfold okP aj0;rw[aL a,aL b,aL c,aL d]
 .rw[FU,az,aa,Yl,ag (by omega)]
def arl {b:ByteArray}(h:b.size<=1048576):Hg F0 b=some (ark b,()):=by
 have c:=sD b;rw[af5,ajZ h,ao,Ml,ao,Yq T2 (aR (sD _) (by omega)),ao];dsimp only;rw[cu (fun m k=>pC F0 (rr F0) m (lJ k (N8 b) (iE ajz (N8 b)))) (N8 b).length (fun i=>(List.range i).all (okP (N8 b) (iE ajz (N8 b)) i)) (some (true,())) (some (false,())) (fun m k a=>?_) (fun m=>?_) _ (by rw[bj];omega),gb]
 .rfl
 .rw[FV,aK a,ae,aAL (yW _ _) (by omega) _ _ a,aaD]
 .rw[FV,az,aa,Ym]
def aj1 (w:aj)(i:Nat):Bool:= !(QX (ka w.1 (rp w i)).1 0 != 400)&&ark (rp w i).2.2.2.1.2.2.2
def YD (w:aj):Bool:=di w&&(List.range (au w).length).all (aj1 w)
def alK {w:aj}(h:dy w):yS F0 w=some (YD w,()):=by
 have hlen:(au w).length<=1048576:=aR (dz w.2.1 w.2.2.1.length) h.r;rw[aaE,pF h,ao,Bw h,ao];dsimp only;rw[cu (fun m k=>ry F0 (mG F0) m (mF k w.1.1 w.1.2 w.2.1 w.2.2.1 w.2.2.2.1 w.2.2.2.2 (au w))) (au w).length (aj1 w) (some (true,())) (some (false,())) (fun m k a=>?_) (fun m=>?_) _ (by rw[bj];omega),gb]
 .unfold YD;cases di w<;>rfl
 .obtain⟨b,e,c⟩:=hZ a;have d:=h.rl _ (cB c);have f:=aeq w.1 w.2.2.1[b];rw[Ao,aK a,ae,al a,ad,aM a,e,al c,ad,aM c,show((w.1.1,w.1.2):Int×Int)=w.1 from rfl,amZ d,ao,aw1 (by show(ka w.1 w.2.2.1[b]).1.length<=_;omega),ao,arl d.s.2,ao,Vv,ag (by omega)];unfold aj1;rw[amW a e c];dsimp only;cases (QX (ka w.1 w.2.2.1[b]).1 0 != 400)<;>cases ark (w.2.2.1[b]).2.2.2.1.2.2.2<;>rfl
 .rw[Ao,az,aa,TH]
def atL {V:Type}(a b e f:Bool)(x y:V):br a (br b (br e (br f x y) y) y) y=if (!(a&&(b&&(e&&f))))=true then y else x:=by cases a<;>cases b<;>cases e<;>cases f<;>rfl
def ayX {w:aj}{d e:Int}{a:List Int}{xs:List ez}{cs:List Int}(j:cs.length=xs.length)(l:xs.length<=1048576){γ:Type}(J:Ex->St->Option γ)(n:Nat){i:Nat}(h:i<xs.length) :
  eu F0 (iv F0 J n) F0.n (dw (i:Int) d e (xs.length:Int) (i:Int) (i:Int) (i:Int) 0 w.1.1 w.1.2 w.2.1 w.2.2.1 w.2.2.2.1 w.2.2.2.2 (xs[i]).1 (xs[i]).2.1 (xs[i]).2.2.1 (xs[i]).2.2.2 xs cs a) =
  if (List.range i).all (okP xs cs i)=true then hW F0 J n (fp d e (xs.length:Int) ((i+1:Nat):Int) w.1.1 w.1.2 w.2.1 w.2.2.1 w.2.2.2.1 w.2.2.2.2 xs cs a) else J .ret (uH false):=by
 refine cu (fun m k=>eu F0 (iv F0 J n) m (dw (i:Int) d e (xs.length:Int) (i:Int) (i:Int) (i:Int) k w.1.1 w.1.2 w.2.1 w.2.2.1 w.2.2.2.1 w.2.2.2.2 (xs[i]).1 (xs[i]).2.1 (xs[i]).2.2.1 (xs[i]).2.2.2 xs cs a)) i (okP xs cs i) _ _ (fun m k f=>?_) (fun m=>?_) _ (by rw[bj];omega)
 .have g:k<xs.length:=by omega
  have b:i<cs.length:=by omega
  have c:k<cs.length:=by omega
  rw[Ai,aK f,ae,al f,ad,al b,ad,aM b,aqJ,ao,al c,ad,aM c,aqJ,ao,aM g,Vm,ag (by omega)];dsimp only;rw[atL];unfold okP aj0;rw[aL h,aL g,aL b,aL c]
 .rw[Ai,az,aa,Tu,ag (by omega)]
def aw3 {w:aj}{c d:Int}{b:List Int}{xs:List ez}{cs:List Int}(e:cs.length=xs.length)(f:xs.length<=1048576){γ:Type}(J:Ex->St->Option γ)(n:Nat) :
  hW F0 (iw F0 J n) F0.n (fp c d (xs.length:Int) 0 w.1.1 w.1.2 w.2.1 w.2.2.1 w.2.2.2.1 w.2.2.2.2 xs cs b) =
  if ((List.range xs.length).all fun i=>(List.range i).all (okP xs cs i))=true then lF F0 J n (ix c (ak (d+1)) w.1.1 w.1.2 w.2.1 w.2.2.1 w.2.2.2.1 w.2.2.2.2 b) else J .ret (mB false):=by
 refine cu (fun m k=>hW F0 (iw F0 J n) m (fp c d (xs.length:Int) k w.1.1 w.1.2 w.2.1 w.2.2.1 w.2.2.2.1 w.2.2.2.2 xs cs b)) xs.length (fun i=>(List.range i).all (okP xs cs i)) _ _ (fun m k a=>?_) (fun m=>?_) _ (by rw[bj];omega)
 .rw[Aj,aK a,ae,al a,ad,show okT (k:Int) (xs.length:Int)=true by simp[okT];omega,ad,aM a,ayX e f _ _ a,Vn]
 .rw[Aj,az,aa,Tv]
def T3 {w:aj}(h:dy w):pA F0 w=some (YD w,()):=by
 have hlen:(au w).length<=1048576:=aR (dz w.2.1 w.2.2.1.length) h.r;rw[aaz,mK h,ao,DY h,ao];dsimp only;rw[cu (fun m k=>lF F0 (mC F0) m (ix ((au w).length:Int) k w.1.1 w.1.2 w.2.1 w.2.2.1 w.2.2.2.1 w.2.2.2.2 (au w))) (au w).length (aj1 w) (some (true,())) (some (false,())) (fun m k b=>?_) (fun m=>?_) _ (by rw[bj];omega),gb]
 .unfold YD;cases di w<;>rfl
 .obtain⟨a,e,c⟩:=hZ b;have d:=h.rl _ (cB c);have f:=aeq w.1 w.2.2.1[a];have g:=sD (w.2.2.1[a]).2.2.2.1.2.2.2;rw[Ak,aK b,ae,al b,ad,aM b,e,al c,ad,aM c,show((w.1.1,w.1.2):Int×Int)=w.1 from rfl,atJ d,ao,atK (by show(ka w.1 w.2.2.1[a]).1.length<=_;omega),ao,ad,amY d.s.2,ao,TO,ao,aep T2 (aR (sD _) (by omega)),ao,aw3 (yW _ _) (aR (sD _) (by omega)),Vo,ag (by omega)];unfold aj1;rw[amW b e c];dsimp only;rw[show((List.range (N8 (w.2.2.1[a]).2.2.2.1.2.2.2).length).all fun i=>(List.range i).all (okP (N8 (w.2.2.1[a]).2.2.2.1.2.2.2) (iE ajz (N8 (w.2.2.1[a]).2.2.2.1.2.2.2)) i))=ark (w.2.2.1[a]).2.2.2.1.2.2.2 from rfl];cases (QX (ka w.1 w.2.2.1[a]).1 0 != 400)<;>cases ark (w.2.2.1[a]).2.2.2.1.2.2.2<;>rfl
 .rw[Ak,az,aa,Tw]
def ayY (w:aj):Bool:=aa3 w&&(O6 w&&(O8 w&&(YD w&&adg w)))
def alL {w:aj}(h:dy w)(a:api w):CP F0 w=some (ayY w,()):=by rw[acP,W8 h,ao,QU h,ao,QV h,ao,T3 h,ao,T1 h a,ao];unfold ayY;cases aa3 w<;>cases O6 w<;>cases O8 w<;>cases YD w<;>rfl
abbrev cW:=List Int×Int×Int
def iP (c:cW):Prop:=c.1.length<=1048576/\0<=c.2.1/\c.2.1<=1048576
def apj (n:Int):0<=ak ((BitVec.ofInt 64 n &&& BitVec.ofInt 64 255).toNat:Int)/\ak ((BitVec.ofInt 64 n &&& BitVec.ofInt 64 255).toNat:Int)<=255:=by
 have h:(BitVec.ofInt 64 n &&& BitVec.ofInt 64 255).toNat<=255:=by rw[BitVec.toNat_and];exact aR Nat.and_le_right (by decide)
 rw[aB (by omega) (by omega)];omega
def avM {c:cW}(h:iP c):∃(v:Int) (a:cW),jz F0 c=some ((v,()),a,())/\0<=v/\v<=255/\iP a:=by
 rw[ahx];by_cases hlt:c.2.1<(c.1.length:Int)
 .rw[aS hlt,ae,show bh c.2.1 (c.1.length:Int)=true by simp[bh];exact⟨h.2.1,hlt⟩,ad];have b:=h.1;have d:=h.2.1;refine⟨_,_,rfl,(apj _).1,(apj _).2,h.1,?_,?_⟩
  .show 0<=ak (c.2.1+1);rw[aB (by omega) (by omega)];omega
  .show ak (c.2.1+1)<=1048576;rw[aB (by omega) (by omega)];omega
 .rw[aT hlt,aa];exact⟨_,_,rfl,(apj _).1,(apj _).2,h⟩
def apk {a n:Int}(b:0<=a)(c:0<n):0<=Int.tmod a n/\Int.tmod a n<n:=by rw[al0 b];exact⟨agA _ (by omega),agw _ c⟩
def aj2 {c:cW}(h:iP c){n:Int}(b:0<n)(e:n<=256):∃(v:Int) (a:cW),af F0 c n=some ((v,()),a,())/\0<=v/\v<n/\iP a:=by obtain⟨v,a,f,d,i,g⟩:=avM h;rw[Ej,aT (show ¬n<=0 by omega),aa,aS e,ae,f,ao,show(!(n==0))=true by rw[bX.2 (show n≠0 by omega)];rfl,ad];exact⟨_,_,rfl,(apk d b).1,(apk d b).2,g⟩
def atM {c:cW}(h:iP c){l:List Int}(j:0<l.length)(k:l.length<=256):∃(v:Int) (a:cW),aU F0 c l=some ((v,()),a,())/\v∈l/\iP a:=by
 obtain⟨v,a,d,f,g,i⟩:=aj2 h (n:=(l.length:Int)) (by omega) (by omega);have b:v.toNat<l.length:=by omega
 rw[Zu,d,ao,show bh v (l.length:Int)=true by simp[bh];exact⟨f,g⟩,ad];refine⟨_,_,rfl,?_,i⟩;have e:v=(v.toNat:Int):=by omega
 show aJ l v 0∈l;rw[e,aM b];exact cB b
def aAM {c:cW}(h:iP c){n:Int}(b:0<n)(d:n<=256):∃(v:Bool) (a:cW),dm F0 c n=some ((v,()),a,())/\iP a:=by obtain⟨v,a,e,g,i,f⟩:=aj2 h b d;rw[ahB,e,ao];exact⟨_,_,rfl,f⟩
def aCn {code:List Int}(h:code.length<=1048576):∃b:cW,HT F0 code=some (((b,()),()))/\iP b:=by
 rw[akV];suffices d:∀(a:Nat) (q:Int) (k n:Nat),k+a=code.length->a<n->∃c:Int,F9 F0 (HS F0) n (vF code q (k:Int) code)=some ((((code,0,c):cW),()),()) by obtain⟨c,e⟩:=d code.length (ak (26583+(code.length:Int))) 0 F0.n (uP _) (by rw[bj];omega);exact⟨_,e,h,Pt _,by show(0:Int)<=1048576;decide⟩
 intro a
 induction a with
 |zero =>
  intro q k n f g;obtain⟨n,rfl⟩:∃m,n=m+1:=⟨n-1,by omega⟩;obtain rfl:k=code.length:=by omega
  rw[JT,az,aa,MD];exact⟨q,rfl⟩
 |succ a i =>
  intro q k n f g;obtain⟨n,rfl⟩:∃m,n=m+1:=⟨n-1,by omega⟩;have hlt:k<code.length:=by omega
  rw[JT,aK hlt,ae];cases decide ((k:Int)<4000) with
  |false =>
   rw[aa,MD];exact⟨q,rfl⟩
  |true =>
   rw[ae,al hlt,ad,ag (by omega)];exact i _ (k+1) n (by omega) (by omega)
def Pd (c x:UInt8)(l:List UInt8):parts c (x::l)=if x=c then []::parts c l else match parts c l with
  |p::a=>(x::p)::a|[]=>[[x]]:=by
 conv=>lhs;unfold parts
 cases parts c l<;>rfl
def adh {c:UInt8}:∀(a b:List UInt8),parts c (a++c::b)=parts c a++parts c b
 |[],b=>by rw[vr,Pd,an rfl];rfl
 |x::a,b=>by
  rw[EX,Pd c x (a++c::b),Pd c x a];by_cases d:x=c
  .rw[an d,an d,adh a b];rfl
  .rw[ah d,ah d,adh a b];have e:=DV c a;cases f:parts c a with
   |nil=>exact absurd f e|cons p g=>rfl
def arn {σ V:Type}{f:σ->List UInt8->Option (σ×V)}:∀{l m:List (List UInt8)} {s:σ} {r:List V},yV f s (l++m)=some r->∃a c,yV f s l=some a/\r=a++c/\c.length=m.length
 |[],m,s,r,h=>⟨[],r,rfl,rfl,N6 h⟩|p::l,m,s,r,h=>by
  rw[EX]at h;unfold yV at h ⊢;cases e:f s p with
  |none=>rw[e]at h;cases h
  |some x =>
   obtain⟨g,b⟩:=x;rw[e]at h;dsimp only at h ⊢;cases d:yV f g (l++m) with
   |none=>rw[d]at h;cases h
   |some n =>
    rw[d]at h;cases h;obtain⟨a,c,i,j,k⟩:=arn d;rw[i];exact⟨b::a,c,rfl,by rw[j];rfl,k⟩
def atN {a t:List UInt8}(n:(47:UInt8) ∉ t)(h:bF (a++47::t)=true):bF a=true/\∃x,(bS (a++47::t)).1=(bS a).1++[x]:=by
 have o:a++47::t≠[]:=by simp
 unfold bF at h ⊢;unfold bS at h ⊢;rw[ah o,adh,ajv n]at h ⊢;cases f:parts 47 a with
 |nil=>exact absurd f (DV 47 a)
 |cons g c =>
  rw[f,EX]at h;rw[EX];dsimp only at h ⊢;by_cases d:¬g=[]\/30<(c++[t]).length
  .rw[an d]at h;cases h
  .rw[ah d]at h ⊢;have p:g=[]:=al1 fun b=>d (.inl b)
   have q:¬30<(c++[t]).length:=fun b=>d (.inr b)
   rw[aW,ej]at q;cases i:yV DW 0 (c++[t]) with
   |none=>rw[i]at h;cases h
   |some r =>
    obtain⟨s,e,j,k,l⟩:=arn i;obtain⟨x,rfl⟩:∃x,e=[x]:=by
     cases e with
     |nil=>cases l
     |cons x e =>
      cases e with
      |nil=>exact⟨x,rfl⟩|cons _ _=>simp at l
    by_cases m:a=[]
    .subst m;have:c=[]:=by have:=f;unfold parts at this;exact(uO this).2.symm
     subst this;cases j;rw[an rfl];exact⟨rfl,x,k⟩
    .rw[ah m,ah (fun b=>b.elim (fun b=>b p) (fun b=>by omega)),j];exact⟨rfl,x,k⟩
def rD (l:List ez):List UInt8:=Lib.join (l.map txL) [44]
def agn (l:List ez):List UInt8:=if l.all gf=true then rD l else []
def aAN {l:List ez}(h:l.all gf=true):∀x∈l.map txL,x.length<=90:=by intro x a;obtain⟨y,b,rfl⟩:=JN.1 a;exact ajr (fL.1 h y b)
def YE {l:List ez}(h:l.all gf=true):(rD l).length<=91*l.length:=by have:=aAr (aAN h) 44;rw[n1]at this;exact this
def aro {l:List ez}{k:Nat}(a:k<l.length):(l.take (k+1)).all gf=((l.take k).all gf&&gf l[k]):=by rw[JM,mO a,List.all_append];simp
def W9 {U V:Type}{l:List U}{f:U->V}{k:Nat}(a:k<l.length):(l.take (k+1)).map f=(l.take k).map f++[f l[k]]:=by rw[JM,mO a,agz];rfl
def aa7 {l:List ez}{k:Nat}(a:k<l.length)(h:gf l[k]=false):l.all gf=false:=by rw[al4];exact⟨l[k],cB a,by simp[h]⟩
def aw4 {x:ez}(h:gf x=true):Yn x=txL x:=an h
def arp {l:List ez}(h:l.length<=1048576):Ga F0 l=some (tx (agn l),()):=by
 rw[aeK];refine ca (fun n i (c:ByteArray)=>oW F0 (pV F0) n (kU l c i)) l.length (fun k c=>(l.take k).all gf=true/\c=tx (rD (l.take k))) _ (fun n k c a f=>?_) (fun n c f=>?_) _ 0 _ (aX _) ⟨rfl,rfl⟩ (by rw[bj];omega)
 .obtain⟨b,rfl⟩:=f;have g:=YE b;rw[cp,abp (by omega)]at g;rw[E1,aK a,ae,al a,ad,aeg a,N3,ao,Zx];dsimp only;cases d:gf l[k]with
  |false =>
   left;rw[gQ,ae,agn,aa7 a d];rfl
  |true =>
   right;have o:=ajr d;refine⟨tx (rD (l.take (k+1))),?_,by rw[aro a,b,d];rfl,rfl⟩;rw[aZ,aa,ad,ad,ajs,ao,ao,aw4 d,show ByteArray.mk #[44]=tx [44] from rfl,gj];dsimp only;rw[fQ (by rw[bc,bc,ej];omega),ad,fQ (by rw[bc,bc,aW,ej];omega),ad,fQ (by rw[bc,bc];omega),ad,gj,gj,ag (by omega)];by_cases j:k=0
   .subst j;rw[show decide (((0:Nat):Int)>0)=false from rfl,aa,show rD (l.take (0+1))=rD (l.take 0)++txL l[0] by rw[rD,W9 a];simp[rD,Lib.join_one,Lib.join_nil]]
   .have m:(l.take k).map txL≠[]:=by intro e;have:=Au List.length e;rw[n1,cp,bd]at this;omega
    rw[aS (show(k:Int)>0 by omega),ae,show rD (l.take (k+1))=rD (l.take k)++[44]++txL l[k] by rw[rD,W9 a,awz m];rfl]
 .obtain⟨b,rfl⟩:=f;rw[jr]at b ⊢;rw[E1,az,aa,XG,agn,an b]
def UJ (up:List UInt8)(view:Int)(l:List ez):List UInt8:=up++[47]++Lib.itoa view++[124]++rD l
def Pe (up:List UInt8)(view:Int)(l:List ez):List UInt8:=if l.all gf=true/\bF (UJ up view l)=true then UJ up view l else []
def aj3 (up:List UInt8){view:Int}(a:Hx view){l:List ez}(b:l.all gf=true):(UJ up view l).length<=up.length+23+91*l.length:=by have:=YE b;have:=OU a;simp only[UJ,aW,ej];omega
def Pf {up:List UInt8}(f:up.length<=1048576){view:Int}(c:Hx view){l:List ez}(h:l.length<=1048576):eY F0 (tx up) view l=some (tx (Pe up view l),()):=by
 have g:=OU c;rw[ahG];refine ca (fun n i (_:Unit)=>BQ F0 (sR F0) n (sQ (tx up) view l i)) l.length (fun k _=>(l.take k).all gf=true) _ (fun n k out b a=>?_) (fun n out a=>?_) _ 0 () (aX _) rfl (by rw[bj];omega)
 .rw[H3,aK b,ae,al b,ad,aeg b,N3,ao,abN];dsimp only;cases d:gf l[k]with
  |false =>
   left;rw[gQ,ae,Pe,ah (by rw[aa7 b d];simp)];rfl
  |true =>
   right;exact⟨(),by rw[aZ,aa,ag (by omega)],by rw[aro b,a,d];rfl⟩
 .rw[jr]at a;have j:=YE a;have e:=aj3 up c a;rw[H3,az,aa,ZA,uL c,ao,arp h,ao,agn,an a,show ByteArray.mk #[47]=tx [47] from rfl,show ByteArray.mk #[124]=tx [124] from rfl];dsimp only;rw[fQ (by rw[bc,bc,ej];omega),ad,gj,fQ (by rw[bc,bc,aW,ej];omega),ad,gj,fQ (by rw[bc,bc,aW,aW,ej,ej];omega),ad,gj,
   fQ (by rw[bc,bc,aW,aW,aW,ej,ej];omega),ad,gj,show up++[47]++Lib.itoa view++[124]++rD l=UJ up view l from rfl,OY (by omega),ao,Pe]
  dsimp only;cases e:bF (UJ up view l) with
  |false=>rw[ah (by simp)];rfl
  |true=>rw[an ⟨a,rfl⟩];rfl
def Gd {U:Type}(X:Option U)(P:U->Prop):Prop:=∃v,X=some v/\P v
abbrev DrT (U:Type):=(U×Unit)×(cW×Unit)
def Dr {U:Type}(X:Option (DrT U))(Q:U->Prop):Prop:=Gd X fun z=>Q z.1.1/\iP z.2.1
def Gd.bind {U V:Type}{X:Option U}{P:U->Prop}(h:Gd X P){f:U->Option V}{R:V->Prop}(a:∀v,P v->Gd (f v) R):Gd (X.bind f) R:=by obtain⟨v,rfl,b⟩:=h;exact a v b
def Dr.bind {U V:Type}{X:Option (DrT U)}{Q:U->Prop}(h:Dr X Q){f:DrT U->Option V}{R:V->Prop}(a:∀z:DrT U,Q z.1.1->iP z.2.1->Gd (f z) R):Gd (X.bind f) R:=by obtain⟨z,rfl,b,c⟩:=h;exact a z b c
def Gd.let {U V:Type}{X:Option U}{v:U}(h:X=some v){f:U->Option V}{R:V->Prop}(a:Gd (f v) R):Gd (X.bind f) R:=by subst h;exact a
def Gd.ret {U:Type}{v:U}{P:U->Prop}(h:P v):Gd (some v) P:=⟨v,rfl,h⟩
def Gd.br {U:Type}{c:Bool}{x y:Option U}{P:U->Prop}(a:c=true->Gd x P)(b:c=false->Gd y P):Gd (br c x y) P:=by
 cases c with
 |true=>exact a rfl|false=>exact b rfl
def Gd.ck {U:Type}{c:Bool}{x:Option U}{P:U->Prop}(a:c=true)(b:Gd x P):Gd (ck c x) P:=by subst a;exact b
def Gd.mono {U:Type}{X:Option U}{P Q:U->Prop}(h:Gd X P)(a:∀v,P v->Q v):Gd X Q:=by obtain⟨v,e,b⟩:=h;exact⟨v,e,a v b⟩
def Gd.br0 {U:Type}{c:Bool}{x y:Option U}{P:U->Prop}(h:c=false)(a:Gd y P):Gd (Am.br c x y) P:=by subst h;exact a
def Gd.br1 {U:Type}{c:Bool}{x y:Option U}{P:U->Prop}(h:c=true)(a:Gd x P):Gd (Am.br c x y) P:=by subst h;exact a
def hG {ζ V:Type}(X:Nat->Int->ζ->Option V)(L:Nat)(I:Nat->ζ->Prop)(P:V->Prop)
  (c:∀n k z,k<L->I k z->(∀a,I (k+1) a->Gd (X n ((k+1:Nat):Int) a) P)->Gd (X (n+1) (k:Int) z) P) (d:∀n z,I L z->Gd (X (n+1) (L:Int) z) P) :
  ∀n k z,k<=L->I k z->L-k<n->Gd (X n (k:Int) z) P:=by
 intro n
 induction n with
 |zero=>intro k z _ _ h;omega
 |succ n e =>
  intro k z g b i;by_cases h:k=L
  .subst h;exact d n z b
  .exact c n k z (by omega) b fun a f=>e (k+1) a (by omega) f (by omega)
def ago {c:cW}(h:iP c):Dr (U:=Int) (jz F0 c) fun v=>0<=v/\v<=255:=by obtain⟨v,f,e,a,b,d⟩:=avM h;exact⟨_,e,⟨a,b⟩,d⟩
def aAO {x y z w:Int}(a:0<=x)(b:x<=255)(c:0<=y)(d:y<=255)(e:0<=z)(f:z<=255)(w0:0<=w)(w1:w<=255):0<=ak (ak (ak (ak (x*16777216)+ak (y*65536))+ak (z*256))+w):=by rw[aB (n:=x*16777216) (by omega) (by omega),aB (n:=y*65536) (by omega) (by omega),aB (n:=z*256) (by omega) (by omega),aB (n:=x*16777216+y*65536) (by omega) (by omega),aB (n:=x*16777216+y*65536+z*256) (by omega) (by omega),aB (by omega) (by omega)];omega
def aF {c:cW}(h:iP c){n:Int}(a:0<n)(r:n<=9223372036854775807):Dr (U:=Int) (af F0 c n) fun v=>0<=v/\v<n:=by
 by_cases b:n<=256
 .obtain⟨v,s,e,j,k,l⟩:=aj2 h a b;exact⟨_,e,⟨j,k⟩,l⟩
 .unfold Dr;rw[Ej];refine Gd.br0 (aT (by omega)) (Gd.br0 (aT b) ?_);refine Dr.bind (ago h) fun x d m=>Dr.bind (ago m) fun y f o=>Dr.bind (ago o) fun z g p=>Dr.bind (ago p) fun w i q=>Gd.ck ?_ (Gd.ret ⟨?_,q⟩)
  .rw[bX.2 (show n≠0 by omega)];rfl
  .exact apk (aAO d.1 d.2 f.1 f.2 g.1 g.2 i.1 i.2) a
def yX {c:cW}(h:iP c){n:Int}(a:0<n)(b:n<=256):Dr (U:=Bool) (dm F0 c n) fun _=>True:=by obtain⟨v,f,e,d⟩:=aAM h a b;exact⟨_,e,trivial,d⟩
def cn {c:cW}(h:iP c){l:List Int}(a:0<l.length)(b:l.length<=256):Dr (U:=Int) (aU F0 c l) fun v=>v∈l:=by obtain⟨v,g,e,d,f⟩:=atM h a b;exact⟨_,e,d,f⟩
def aAP {c:cW}(h:iP c){l:List ByteArray}(d:0<l.length)(f:l.length<=256):Dr (U:=ByteArray) (J0 F0 c l) fun v=>v∈l:=by
 unfold Dr;rw[ahI];refine Dr.bind (aF h (n:=(l.length:Int)) (by omega) (by omega)) fun v a b=>Gd.ck ?_ (Gd.ret ⟨?_,b⟩)
 .simp[bh,a.1,a.2]
 .have hlt:v.1.1.toNat<l.length:=by have:=a.1;have:=a.2;omega
  have e:v.1.1=(v.1.1.toNat:Int):=by have:=a.1;omega
  show aJ l v.1.1 ByteArray.empty∈l;rw[e,aM hlt];exact cB hlt
def aCo {code:List Int}(h:code.length<=1048576):Gd (HT F0 code) fun z=>iP z.1.1:=by obtain⟨c,e,a⟩:=aCn h;exact⟨_,e,a⟩
def aAQ {x y:Int}(a:0<=x)(b:x<4)(c:0<=y)(d:y<3):bq (ak (4+x),ak (1+y))=true:=by rw[aB (by omega) (by omega),aB (by omega) (by omega)];simp only[bq,ga,aD,bJ];omega
def arq {c:cW}(h:iP c):Dr (U:=Int×Int) (sN F0 c) fun v=>bq v=true:=by
 unfold Dr;rw[XE];refine Dr.bind (aF h (n:=4) (by omega) (by omega)) fun x a d=>Dr.bind (aF d (n:=3) (by omega) (by omega)) fun y b e=>Gd.ret ⟨?_,e⟩
 exact aAQ a.1 a.2 b.1 b.2
def aDm {x y z w:Int}(b:0<=x)(c:x<4)(d:0<=y)(e:y<4)(a:z∈[(0:Int),5,60,100,1000])(w0:0<=w)(w1:w<3):gf (x,y,z,w)=true:=by simp only[dK,agy,or_false]at a;simp only[gf,inB,aD,bJ];rcases a with rfl|rfl|rfl|rfl|rfl<;>omega
def Bx {c:cW}(h:iP c):Dr (U:=ez) (cZ F0 c) fun v=>gf v=true:=by
 unfold Dr;rw[U0];refine Dr.bind (aF h (n:=4) (by omega) (by omega)) fun x a e=>Dr.bind (aF e (n:=4) (by omega) (by omega)) fun y b f=>Dr.bind (cn f (l:=[0,5,60,100,1000]) (by decide) (by decide)) fun z g i=>Dr.bind (aF i (n:=3) (by omega) (by omega)) fun w d j=>Gd.ret ⟨?_,j⟩
 exact aDm a.1 a.2 b.1 b.2 g d.1 d.2
def TxI (x:ez):Prop:=Hx x.1/\Hx x.2.1/\Hx x.2.2.1/\Hx x.2.2.2
def aCp {x:ez}(h:gf x=true):TxI x:=by obtain⟨a,b,c,d⟩:=rz h;exact⟨⟨by omega,by omega⟩,⟨by omega,by omega⟩,⟨by omega,by omega⟩,⟨by omega,by omega⟩⟩
def aj4 {c:cW}(h:iP c):Dr (U:=ez) (Dw F0 c) TxI:=by
 unfold Dr;rw[aiP];have i2:∀a b:Int,Hx a->Hx b->∀{v:Int},v∈[a,b]->Hx v:=fun a b l m v i=>by simp only[dK,agy,or_false]at i;rcases i with rfl|rfl<;>assumption
 have lt:∀n:Int,-1<=n->n<=1001->Hx n:=fun n o p=>⟨by omega,by omega⟩
 refine Dr.bind (Bx h) fun x j k=>?_
 have d:=aCp j;refine Dr.bind (aF k (n:=12) (by omega) (by omega)) fun y q g=>?_
 refine Gd.br (fun _=>?_) fun _=>?_
 .exact Dr.bind (cn g (by decide) (by decide)) fun z e f=>Gd.ret ⟨⟨i2 _ _ (lt _ (by decide) (by decide)) (lt _ (by decide) (by decide)) e,d.2⟩,f⟩
 refine Gd.br (fun _=>?_) fun _=>?_
 .exact Dr.bind (cn g (by decide) (by decide)) fun z e f=>Gd.ret ⟨⟨d.1,i2 _ _ (lt _ (by decide) (by decide)) (lt _ (by decide) (by decide)) e,d.2.2⟩,f⟩
 refine Gd.br (fun _=>?_) fun _=>?_
 .exact Dr.bind (cn g (by decide) (by decide)) fun z e f=>Gd.ret ⟨⟨d.1,d.2.1,i2 _ _ (lt _ (by decide) (by decide)) (lt _ (by decide) (by decide)) e,d.2.2.2⟩,f⟩
 refine Gd.br (fun _=>?_) fun _=>?_
 .refine Dr.bind (cn g (by decide) (by decide)) fun z e f=>Gd.ret ⟨⟨d.1,d.2.1,d.2.2.1,?_⟩,f⟩
  have:=e;simp only[dK,agy,or_false]at this;show Hx z.1.1;rcases this with h|h|h<;>rw[show z.1.1=_ from h]<;>exact lt _ (by decide) (by decide)
 .exact Gd.ret ⟨d,g⟩
def aAR (up:List UInt8)(view:Int)(i:Nat){γ:Type}(J:Ex->St->Option γ){P:γ->Prop}(e:∀xs (c:cW),xs.length<=3->(∀x∈xs,gf x=true)->iP c->Gd (J (.exit 2) (nS (tx up) view (i:Int) c.1 c.2.1 c.2.2 xs)) P){c:cW}(f:iP c) :
  Gd (ia F0 J F0.n (fT (tx up) view (i:Int) 0 c.1 c.2.1 c.2.2 [])) P:=by
 refine hG (fun n k (z:cW×List ez)=>ia F0 J n (fT (tx up) view (i:Int) k z.1.1 z.1.2.1 z.1.2.2 z.2)) 3 (fun k z=>iP z.1/\z.2.length<=k/\∀x∈z.2,gf x=true) _ (fun n k z m a g=>?_) (fun n z a=>?_) F0.n 0 (c,[]) (aX _) ⟨f,bu _,fun x b=>by cases b⟩ (by rw[bj];omega)
 .rw[uX];refine Dr.bind (aF a.1 (n:=3) (by omega) (by omega)) fun x b d=>Gd.br (fun _=>?_) fun _=>?_
  .refine Dr.bind (Bx d) fun y j l=>Gd.ck (aE (by omega) (by omega) (by rw[ej];have:=a.2.1;omega)) ?_
   rw[ag (by omega)];refine g (y.2.1,z.2++[y.1.1]) ⟨l,by rw[aW,ej];have:=a.2.1;omega,fun x b=>?_⟩;rcases fM.1 b with h|h
   .exact a.2.2 x h
   .rw[h7.1 h];exact j
  .exact e z.2 x.2.1 (by have:=a.2.1;omega) a.2.2 d
 .rw[uX];refine Dr.bind (aF a.1 (n:=3) (by omega) (by omega)) fun x b d=>?_
  refine Gd.br0 (aT (by have:=b.2;show ¬(3:Int)<x.1.1;omega)) ?_;exact e z.2 x.2.1 a.2.1 a.2.2 d
def aw6 {up:List UInt8}{view:Int}{l:List ez}:bF (Pe up view l)=true:=by
 unfold Pe;split
 .rename_i h;exact h.2
 .exact O0
def UK {up:List UInt8}{view:Int}(a:Hx view)(l:List ez):(Pe up view l).length<=up.length+23+91*l.length:=by
 unfold Pe;split
 .rename_i h;exact aj3 up a h.1
 .exact aX _
def aEh (b:ByteArray):Prop:=b.size<=10000/\bF b.data.toList=true
def vn {c:cW}(h:iP c):Dr (U:=ByteArray) (dD F0 c) aEh:=by
 unfold Dr;rw[U1];refine hG (fun n i (z:cW×(List UInt8×Int))=>l4 F0 (oZ F0) n (jA (tx z.2.1) z.2.2 i z.1.1 z.1.2.1 z.1.2.2)) 6 (fun k z=>iP z.1/\z.2.1.length<=300*k/\bF z.2.1=true/\0<=z.2.2/\z.2.2<=2*k) _ (fun n k z u b l=>?_) (fun n z b=>?_) F0.n 0 (c,[],0) (aX _) ⟨h,aX _,O0,Pt _,Pt _⟩ (by rw[bj];omega)
 .obtain⟨d,m,e,o,p⟩:=b;rw[uY];refine Dr.bind (aF d (n:=6) (by omega) (by omega)) fun x g a=>Gd.br (fun _=>?_) fun _=>?_
  .refine Dr.bind (aF a (n:=4) (by omega) (by omega)) fun y f q=>?_
   have r:Int.tdiv y.1.1 3=y.1.1/3:=apM f.1;have v:=f.1;have w:=f.2;rw[r,aB (n:=z.2.2+1) (by omega) (by omega),aB (n:=y.1.1/3) (by omega) (by omega),aB (n:=z.2.2+1+y.1.1/3) (by omega) (by omega)];refine aAR z.2.1 (z.2.2+1+y.1.1/3) k _ (fun xs s A B t=>?_) q;rw[Oz];have j:Hx (z.2.2+1+y.1.1/3):=⟨by omega,by omega⟩;refine Gd.let (Pf (by omega) j (by omega)) ?_;rw[ag (by omega)];exact l (s,Pe z.2.1 (z.2.2+1+y.1.1/3) xs,z.2.2+1+y.1.1/3) ⟨t,by have:=UK (up:=z.2.1) j xs;dsimp only;omega,aw6,by dsimp only;omega,by dsimp only;omega⟩
  .rw[vS];exact Gd.ret ⟨⟨by rw[show(tx z.2.1).size=_ from bc _];omega,by rw[show(tx z.2.1).data.toList=_ from hx _];exact e⟩,a⟩
 .obtain⟨d,m,e,o,p⟩:=b;rw[uY];refine Dr.bind (aF d (n:=6) (by omega) (by omega)) fun x g a=>?_
  refine Gd.br0 (aT (by have:=g.2;show ¬(6:Int)<x.1.1;omega)) ?_;rw[vS];exact Gd.ret ⟨⟨by rw[show(tx z.2.1).size=_ from bc _];omega,by rw[show(tx z.2.1).data.toList=_ from hx _];exact e⟩,a⟩
def aj5 (s:ByteArray)(a b:Nat):(s.extract a b).size<=s.size:=by rw[asy];omega
def aj6 (a b:ByteArray):(a++b).size=a.size+b.size:=ByteArray.size_append
def YF {l h n:Int}(a:0<=l)(b:l<=h)(c:h<=n):Oy l h n=true:=by simp[Oy,a,b,c]
def aAS {c:cW}(h:iP c){s:ByteArray}(g:s.size<=20000):Dr (U:=ByteArray) (J1 F0 c s) fun v=>v.size<=20100:=by
 unfold Dr;rw[ahK];rw[aB (n:=(s.size:Int)+1) (by omega) (by omega)];refine Dr.bind (aF h (n:=(s.size:Int)+1) (by omega) (by omega)) fun x b d=>Dr.bind (aF d (n:=5) (by omega) (by omega)) fun y i a=>?_
 have j:=b.1;have k:=b.2;refine Gd.br (fun _=>Gd.ck (YF (by omega) (by omega) (by omega)) (Gd.ret ⟨?_,a⟩)) fun _=>Gd.br (fun _=>?_) fun _=>Gd.ret ⟨by show s.size<=20100;omega,a⟩
 .have:=aj5 s (0:Int).toNat x.1.1.toNat;show(s.extract _ _).size<=20100;omega
 .refine Gd.ck (YF (by omega) (by omega) (by omega)) (Gd.ck (YF (by omega) (by omega) (by omega)) (Dr.bind (aAP a (by decide) (by decide)) fun z e f=>?_));have l:=aj5 s (0:Int).toNat x.1.1.toNat;have m:=aj5 s x.1.1.toNat (s.size:Int).toNat;have o:z.1.1.size=1:=by have:=e;simp only[dK,agy,or_false]at this;rcases this with h|h|h|h|h|h|h<;>rw[show z.1.1=_ from h]<;>rfl
  refine Gd.ck (fQ (by omega)) (Gd.ck (fQ (by rw[aj6];omega)) (Gd.ret ⟨?_,f⟩));show(_++_++_:ByteArray).size<=20100;rw[aj6,aj6];have:(s.extract (0:Int).toNat x.1.1.toNat).size+(s.extract x.1.1.toNat (s.size:Int).toNat).size<=s.size:=by rw[asy,asy];omega
  omega
def aj7 {c:cW}(h:iP c):Dr (U:=ByteArray) (uZ F0 c) fun v=>v.size<=20100:=by
 unfold Dr;rw[ahM];refine Dr.bind (yX h (by omega) (by omega)) fun x q f=>Gd.br (fun _=>?_) fun _=>?_
 .refine hG (fun n i (z:cW×List UInt8)=>BU F0 (Eo F0) n (sV (tx z.2) i z.1.1 z.1.2.1 z.1.2.2)) 33 (fun k z=>1<=k/\iP z.1/\z.2.length<=30*k) _ (fun n k z r b j=>?_) (fun n z b=>?_) F0.n 1 (x.2.1,[]) (by omega) ⟨bu _,f,aX _⟩ (by rw[bj];omega)
  .obtain⟨l,d,m⟩:=b;rw[H4];refine Dr.bind (aF d (n:=2) (by omega) (by omega)) fun y e a=>Gd.br (fun _=>?_) fun _=>?_
   .have g:Hx (k:Int):=⟨by omega,by omega⟩;have s:=OU g;refine Gd.ck (fQ (by rw[bc];show _+1<=_;omega)) (Gd.let (uL g) ?_);rw[show ByteArray.mk #[47]=tx [47] from rfl,show ByteArray.mk #[124]=tx [124] from rfl,gj];dsimp only;rw[gj,gj,ag (by omega)];refine Gd.ck (fQ (by rw[bc,bc,aW,ej];omega)) (Gd.ck (fQ (by rw[bc,bc,aW,aW,ej,ej];omega)) ?_);exact j (y.2.1,z.2++[47]++Lib.itoa (k:Int)++[124]) ⟨by omega,a,by rw[aW,aW,aW,ej,ej];omega⟩
   .rw[J2];exact Gd.ret ⟨by show(tx z.2).size<=20100;rw[bc];omega,a⟩
  .obtain⟨l,d,m⟩:=b;rw[H4];refine Dr.bind (aF d (n:=2) (by omega) (by omega)) fun y e a=>?_
   refine Gd.br0 (aT ?_) ?_
   .rw[aB (by omega) (by omega)];omega
   .rw[J2];exact Gd.ret ⟨by show(tx z.2).size<=20100;rw[bc];omega,a⟩
 .refine Dr.bind (vn f) fun y e a=>Dr.bind (aAS a (by have:=e.1;omega)) fun z o p=>Gd.ret ⟨o,p⟩
def aj8 (l:List UInt8):∀(k:Nat),k<=l.length->(fB l k=0/\∀a,a<k->l.getD a 0≠47)\/(0<fB l k/\fB l k<=k/\l.getD (fB l k-1) 0=47/\∀a,fB l k<=a->a<k->l.getD a 0≠47)
 |0,_=>.inl ⟨rfl,fun a h=>absurd h (YU _)⟩
 |k+1,n=>by
  have f:∀b:UInt8,((b.toNat:Int) != 47)=true↔b≠47:=by
   intro b;rw[C4];constructor
   .rintro h rfl;exact h rfl
   .intro h c;refine h (UInt8.toNat_inj.1 ?_);show b.toNat=47;omega
  unfold fB;split
  .rename_i h;rw[f]at h;rcases aj8 l k (by omega) with ⟨d,c⟩|⟨d,c,g,i⟩
   .refine .inl ⟨d,fun a o=>?_⟩;by_cases e:a=k
    .rw[e];exact h
    .exact c a (by omega)
   .refine .inr ⟨d,by omega,g,fun a j p=>?_⟩;by_cases e:a=k
    .rw[e];exact h
    .exact i a j (by omega)
  .rename_i h;rw[f]at h;refine .inr ⟨abr _,bu _,al1 fun m=>h m,fun a d c=>by omega⟩
def ayZ {l:List UInt8}(h:bF l=true)(b:l≠[]):∃t,(47:UInt8) ∉ t/\l=upL l++47::t:=by
 have j:0<fB l l.length:=by obtain⟨t,rfl⟩:=ajH h b;exact ac8 _ (abr _)
 rcases aj8 l l.length (bu _) with ⟨k,_⟩|⟨_,m,a,c⟩
 .omega
 .have hlt:fB l l.length-1<l.length:=by omega
  have d:upL l=l.take (fB l l.length-1):=by unfold upL;rw[an h]
  refine⟨l.drop (fB l l.length),fun f=>?_,?_⟩
  .obtain⟨g,i,e⟩:=agC f;rw[List.getElem_drop]at e;rw[b7]at i;refine c (fB l l.length+g) (by omega) (by omega) ?_;rw[VA,mO (by omega)];exact e
  .rw[d]
   conv=>lhs;rw[<-ank (fB l l.length-1) l]
   congr 1
   rw[adx hlt];rw[VA,mO hlt]at a;rw[show l[fB l l.length-1]=47 from a,show fB l l.length-1+1=fB l l.length by omega]
def ay0 {l:List UInt8}(h:bF l=true):bF (upL l)=true:=by
 by_cases a:l=[]
 .subst a;rfl
 .obtain⟨t,b,e⟩:=ayZ h a;exact(atN b (e▸h)).1
def adi (c:UInt8):∀l:List UInt8,l.length+1=((parts c l).map fun p=>p.length+1).sum
 |[]=>rfl|x::l=>by
  have a:=adi c l;rw[Pd];split
  .rw[rI,agH,<-a,bG,bd];omega
  .have d:=DV c l;cases b:parts c l with
   |nil=>exact absurd b d
   |cons p e =>
    rw[b]at a;rw[rI,agH]at a ⊢;rw[bG,bG];omega
def atO {U:Type}{f:U->Nat}{b:Nat}:∀{l:List U},(∀x∈l,f x<=b)->(l.map f).sum<=b*l.length
 |[],_=>aX _|x::l,h=>by
  have c:=h x JL;have d:=atO fun y a=>h y (rH x a)
  rw[rI,agH,bG,Nat.mul_succ];omega
def adj {σ V:Type}{f:σ->List UInt8->Option (σ×V)}{Q:List UInt8->Prop}(e:∀s p c b,f s p=some (c,b)->Q p):∀{P:List (List UInt8)} {s:σ} {r:List V},yV f s P=some r->∀p∈P,Q p
 |[],_,_,_,p,a=>by cases a
 |q::P,s,r,h,p,a=>by
  unfold yV at h;cases d:f s q with
  |none=>rw[d]at h;cases h
  |some y =>
   obtain⟨c,b⟩:=y;rw[d]at h;dsimp only at h;cases g:yV f c P with
   |none=>rw[g]at h;cases h
   |some i =>
    rcases dK.1 a with rfl|a
    .exact e _ _ _ _ d
    .exact adj e g p a
def aAT {l:List UInt8}(h:(Vy l).2=true):l.length<=90:=by
 unfold Vy at h;split at h
 .rename_i a;rw[<-a.2];exact ajr a.1
 .cases h
def ay1 {l:List UInt8}(h:(kq l).2=true):l.length<=91*(kq l).1.length:=by
 unfold kq at h ⊢;split at h
 .rename_i a;rw[an a,a];exact bu _
 .rename_i a;rw[ah a];cases c:yV txF () (parts 44 l) with
  |none=>rw[c]at h;cases h
  |some r =>
   have g:=N6 c;have i:=adi 44 l;have:=atO (f:=fun p:List UInt8=>p.length+1) (b:=91) (l:=parts 44 l) (adj (f:=txF) (Q:=fun p=>p.length+1<=91) (fun s p j b d=>by
    unfold txF at d;split at d
    .rename_i e;have:=aAT e;omega
    .cases d) c)
   dsimp only;omega
def aAU {l:List UInt8}(h:(eS l).2=true):l.length<=6:=by
 unfold eS at h;split at h
 .cases h
 .rename_i a;omega
def aCq (l:List UInt8)(c:UInt8):l.length<=(l.takeWhile (· != c)).length+((l.dropWhile (· != c)).drop 1).length+1:=by have h:=Au List.length (List.takeWhile_append_dropWhile (p:=(· != c)) (l:=l));rw[aW]at h;rw[b7];omega
def ay2 {g:Int}{p:List UInt8}{f:Int}{b:W3}(h:DW g p=some (f,b)):p.length<=189:=by
 unfold DW at h;split at h
 .rename_i a;have c:=aAU a.2.1;have d:=ay1 a.2.2.1;have e:=a.2.2.2.2.2;have i:=aCq p 124;unfold dX at c d e;dsimp only at c d e;omega
 .cases h
def aAV {l:List UInt8}(h:bF l=true):l.length<=5700:=by
 by_cases d:l=[]
 .rw[d];exact aX _
 unfold bF bS at h;rw[ah d]at h;have e:=adi 47 l;cases g:parts 47 l with
 |nil=>rw[g]at h;cases h
 |cons k a =>
  rw[g]at h e;dsimp only at h;split at h
  .cases h
  .rename_i i;have m:k=[]:=al1 fun c=>i (.inl c)
   have o:¬30<a.length:=fun c=>i (.inr c)
   cases j:yV DW 0 a with
   |none=>rw[j]at h;cases h
   |some r =>
    have:=atO (f:=fun p:List UInt8=>p.length+1) (b:=190) (l:=a) (adj (f:=DW) (Q:=fun p=>p.length+1<=190) (fun s p q b n=>by have:=ay2 n;omega) j);rw[rI,agH,m,bd]at e;omega
def aa8:Nat->Int->List Int
 |0,v=>[v]|k+1,v=>if v<128 then [v] else (v%128+128)::aa8 k (v/128)
def aC (v:Int):List Int:=if 0<=v/\v<=2147483647 then aa8 4 v else []
def aj9:∀(k:Nat) (v:Int),1<=(aa8 k v).length/\(aa8 k v).length<=k+1
 |0,v=>⟨bu _,bu _⟩|k+1,v=>by
  unfold aa8;have:=aj9 k (v/128);split
  .exact⟨bu _,by rw[ej];omega⟩
  .rw[bG];omega
def aka:∀(k:Nat) (v:Int),0<=v->v<128 ^ (k+1)->∀x∈aa8 k v,0<=x/\x<=255
 |0,v,b,c,x,a=>by rw[h7.1 a];have:(128:Int) ^ (0+1)=128:=rfl;omega
 |k+1,v,b,c,x,a=>by
  unfold aa8 at a;split at a
  .rw[h7.1 a];omega
  .rcases dK.1 a with rfl|a
   .omega
   .refine aka k (v/128) (by omega) ?_ x a;have e:(128:Int) ^ (k+1+1)=128 ^ (k+1)*128:=VF _ _;omega
def cG (v:Int):(aC v).length<=5:=by
 unfold aC;split
 .exact(aj9 4 v).2
 .exact aX _
def eh (v:Int):∀x∈aC v,0<=x/\x<=255:=by
 unfold aC;split
 .rename_i h;have b:(128:Int) ^ (4+1)=34359738368:=by decide
  exact aka 4 v h.1 (by omega)
 .intro x a;cases a
def ars:∀(j k:Nat) (v n:Int) (rest:List Int),j+k=4->0<=v->v<128 ^ (j+1)->(k≠0->v≠0)->0<=n->n+v*128 ^ k<=2147483647->Rg (j+1) (aa8 j v++rest) k n=some (n+v*128 ^ k,k+(aa8 j v).length)
 |0,k,v,n,rest,f,g,i,a,l,b=>by have q:(128:Int) ^ (0+1)=128:=rfl;unfold aa8 Rg;rw[List.singleton_append];dsimp only;rw[an (by omega),ah (fun h=>h.elim (fun h=>a h.1 h.2) (fun h=>by omega))];rfl
 |j+1,k,v,n,rest,f,g,i,a,l,b=>by
  unfold aa8;have m:=TX (k:=k) (by omega);have o:(128:Int) ^ (k+1)=128 ^ k*128:=VF _ _;have r:(128:Int) ^ (j+1+1)=128 ^ (j+1)*128:=VF _ _;split
  .rename_i c;unfold Rg;rw[List.singleton_append];dsimp only;rw[an c,ah (fun h=>h.elim (fun h=>a h.1 h.2) (fun h=>by omega))];rfl
  .rename_i c;unfold Rg;rw[EX];dsimp only;have p:0<=v%128/\v%128<128:=⟨agA _ (by omega),agw _ (by omega)⟩;rw[ah (by omega),show(v%128+128)%128=v%128 by omega];have e:v*128 ^ k=v%128*128 ^ k+v/128*128 ^ (k+1):=by
    rw[o];have:v=v%128+128*(v/128):=(Int.emod_add_mul_ediv v 128).symm;generalize (128:Int) ^ k=P at *
    calc v*P=(v%128+128*(v/128))*P:=by rw[<-this]
     _=v%128*P+v/128*(P*128):=by rw[Int.add_mul,Int.mul_comm 128,Int.mul_assoc,Int.mul_comm 128]
   have s:=ajK (d:=v%128) (P:=128 ^ k) p.1 (by omega) m.1;have:=ars j (k+1) (v/128) (n+v%128*128 ^ k) rest (by omega) (by omega) (by omega) (fun _=>by omega) (by omega) (by rw[Int.add_assoc,<-e];exact b);rw[this,Int.add_assoc,<-e,bG]
   congr 2
   omega
def art {pre rest:List Int}{v:Int}(a:0<=v)(b:v<=2147483647):r4 (pre++(aC v++rest)) pre.length=some (v,pre.length+(aC v).length):=by
 have c:(128:Int) ^ (4+1)=34359738368:=by decide
 unfold r4 aC;rw[List.drop_left,an ⟨a,b⟩,ars 4 0 v 0 rest rfl a (by omega) (fun h=>absurd rfl h) (Pt _) (by have:(128:Int) ^ 0=1:=rfl;omega)];have:(128:Int) ^ 0=1:=rfl;dsimp only;rw[this,Int.mul_one,Int.zero_add,uP]
def iQ (s:ByteArray):List Int:=aC (s.size:Int)++bytesOf s
def T4 (s:ByteArray):(bytesOf s).length=s.size:=by unfold bytesOf;rw[n1];rfl
def alM (s:ByteArray):∀x∈bytesOf s,0<=x/\x<=255:=by intro x a;obtain⟨b,_,rfl⟩:=JN.1 a;have:=UInt8.toNat_lt b;omega
def aw7 (s:ByteArray):strOf (bytesOf s)=s:=by
 unfold strOf bytesOf;rw[List.map_map];have:(s.data.toList.map ((fun n:Int=>UInt8.ofNat n.toNat)∘fun b:UInt8=>(b.toNat:Int)))=s.data.toList:=by
  rw[List.map_congr_left (g:=id)]
  .exact List.map_id _
  .intro b _;show UInt8.ofNat ((b.toNat:Int).toNat)=b;rw[oR];exact UInt8.ofNat_toNat
 rw[this]
def ay3 {pre rest:List Int}{s:ByteArray}(h:s.size<=1048576):Yw (pre++(iQ s++rest)) pre.length=some (s,pre.length+(iQ s).length):=by
 have a:=T4 s;unfold Yw iQ;rw[mP,art (by omega) (by omega)];dsimp only;rw[ah ?_]
 .congr 1
  refine Av ?_ ?_
  .show strOf _=s;have e:((pre++(aC (s.size:Int)++(bytesOf s++rest))).take (pre.length+(aC (s.size:Int)).length+((s.size:Int)).toNat)).drop (pre.length+(aC (s.size:Int)).length)=bytesOf s:=by rw[oR,<-mP,<-mP,<-aW,<-a,<-aW,List.take_left,List.drop_left]
   rw[e,aw7]
  .show _=pre.length+(aC _++bytesOf s).length;rw[aW,a,oR,Rl]
 .rw[aW,aW,aW,a];omega
def lM {pre rest:List Int}{v:Int}(a:0<=v)(b:v<=2147483647):aO (pre++(aC v++rest)) (pre.length,true)=(v,(pre++aC v).length,true):=by unfold aO;rw[art a b,aW];rfl
def YG {pre rest:List Int}{s:ByteArray}(h:s.size<=1048576):cS (pre++(iQ s++rest)) (pre.length,true)=(s,(pre++iQ s).length,true):=by unfold cS;rw[ay3 h,aW];rfl
def kr (l:List Int):List Int:=l.flatMap aC
def aer (v:Int):Prop:=0<=v/\v<=2147483647
def akb:∀(l pre rest xs:List Int) (f:Nat) (i n:Int),(∀x∈l,aer x)->n=i+l.length->l.length<f->iR (pre++(kr l++rest)) n f i (pre.length,true) xs=(xs++l,(pre++kr l).length,true)
 |[],pre,rest,xs,f+1,i,n,_,a,_=>by unfold iR;rw[ah (fun h=>by have:=h.1;simp at a;omega)];simp[kr]
 |x::l,pre,rest,xs,f+1,i,n,b,a,d=>by
  have c:=b x JL;unfold iR;rw[bG]at a d;rw[an ⟨by omega,rfl⟩];have e:pre++(kr (x::l)++rest)=pre++(aC x++(kr l++rest)):=by simp[kr]
  rw[e,lM c.1 c.2];dsimp only;have g:pre++(aC x++(kr l++rest))=(pre++aC x)++(kr l++rest):=by simp
  rw[g,akb l (pre++aC x) rest (xs++[x]) f (i+1) n (fun y j=>b y (rH _ j)) (by omega) (by omega)];simp[kr]
def By (l:List Int):List Int:=aC (l.length:Int)++kr l
def akc (k:Nat)(v:Int):1<=(aa8 k v).length:=(aj9 k v).1
def adk:∀{l:List Int},(∀x∈l,aer x)->l.length<=(kr l).length/\(kr l).length<=5*l.length
 |[],_=>⟨bu _,bu _⟩|x::l,h=>by
  have a:=h x JL;have c:=adk fun y b=>h y (rH _ b)
  have d:1<=(aC x).length/\(aC x).length<=5:=by refine⟨?_,cG x⟩;unfold aC;rw[an (show 0<=x/\x<=2147483647 from a)];exact akc 4 x
  have e:kr (x::l)=aC x++kr l:=rfl;rw[e,aW,bG];omega
def am1 {pre rest l:List Int}(a:∀x∈l,aer x)(h:l.length<=1048576):Ar (pre++(By l++rest)) (pre.length,true)=(l,(pre++By l).length,true):=by
 unfold Ar By;rw[mP,lM (by omega) (by omega)];dsimp only;have e:pre++(aC (l.length:Int)++(kr l++rest))=(pre++aC (l.length:Int))++(kr l++rest):=by simp
 have:=adk a;rw[e,akb l (pre++aC (l.length:Int)) rest [] _ 0 _ a (by omega) (by simp only[aW];omega)];simp
def uN (q:b0):List Int:=aC q.1++(iQ q.2.1++By q.2.2)
structure aAW (q:b0):Prop where
 v:aer q.1
 n:q.2.1.size<=1048576
 w:q.2.2.length<=1048576
 m:∀x∈q.2.2,aer x
def aru {pre rest:List Int}{q:b0}(h:aAW q):vp (pre++(uN q++rest)) (pre.length,true)=(q,(pre++uN q).length,true):=by
 unfold vp uN;have a:pre++(aC q.1++(iQ q.2.1++By q.2.2)++rest)=pre++(aC q.1++(iQ q.2.1++(By q.2.2++rest))):=by simp
 have b:pre++(aC q.1++(iQ q.2.1++(By q.2.2++rest)))=(pre++aC q.1)++(iQ q.2.1++(By q.2.2++rest)):=by simp
 have c:pre++(aC q.1++(iQ q.2.1++(By q.2.2++rest)))=(pre++aC q.1++iQ q.2.1)++(By q.2.2++rest):=by simp
 have d:aO (pre++(aC q.1++(iQ q.2.1++(By q.2.2++rest)))) (pre.length,true)=(q.1,(pre++aC q.1).length,true):=lM h.v.1 h.v.2;have e:cS (pre++(aC q.1++(iQ q.2.1++(By q.2.2++rest)))) ((pre++aC q.1).length,true)=(q.2.1,(pre++aC q.1++iQ q.2.1).length,true):=by rw[b];exact YG h.n
 have f:Ar (pre++(aC q.1++(iQ q.2.1++(By q.2.2++rest)))) ((pre++aC q.1++iQ q.2.1).length,true)=(q.2.2,(pre++aC q.1++iQ q.2.1++By q.2.2).length,true):=by rw[c];exact am1 h.m h.w
 rw[a,d];dsimp only;rw[e];dsimp only;rw[f];simp
def avN {a b:ByteArray}(h:(a.toList==b.toList)=true):a=b:=by have:=TL a.data.toList b.data.toList;rw[<-adT,<-adT,h]at this;rw[adT a,adT b,C2 this.symm]
def adl {a b:b0}(h:iG a b=true):a=b:=by simp only[iG,aD,cH,bJ]at h;exact Av h.1 (Av (avN (cH.2 h.2.1)) h.2.2)
def aw8 {a b:ez}(h:ac7 a b=true):a=b:=by simp only[ac7,aD,cH]at h;exact Av h.1 (Av h.2.1 (Av h.2.2.1 h.2.2.2.1))
def apl {a b:cK}(h:nN a b=true):a=b:=by simp only[nN,aD]at h;exact Av (avN h.1) (adl h.2)
def YH {a b:cq}(h:rB a b=true):a=b:=by simp only[rB,aD]at h;obtain⟨c,d,e,f,g,i,j⟩:=h;exact Av (cH.1 c) (Av (cH.1 d) (Av (apl e) (Av (adl f) (Av (adl g) (Av (cH.1 i) (aw8 j))))))
def UL {n:Int}{s:List Int}(h:j6 n s=true):∀x∈s,0<=x/\x<n:=by intro x b;obtain⟨k,a,rfl⟩:=agC b;have:=fL.1 h k (gP.2 a);rw[VA,mO a]at this;simp only[aD,bJ]at this;exact⟨this.1,this.2.1⟩
def atP {n:Int}{s:List Int}(h:j6 n s=true){k:Nat}(a:k+1<s.length):s[k]<s[k+1]:=by
 have:=fL.1 h (k+1) (gP.2 a);rw[show k+1-1=k from rfl,VA,VA,mO a,mO (by omega)]at this;simp only[aD,kl,bJ]at this;rcases this.2.2 with b|b
 .omega
 .exact b
def arv {n:Int}{s:List Int}(h:j6 n s=true):∀(k:Nat) (a:k<s.length),(k:Int)<=s[k]
 |0,a=>(UL h _ (cB a)).1|k+1,a=>by have b:=arv h k (by omega);have c:=atP h a;omega
def UM {n:Int}{s:List Int}(h:j6 n s=true):(s.length:Int)<=max n 0:=by
 rcases adz s.length with a|a
 .omega
 .have b:=arv h (s.length-1) (by omega);have c:=(UL h s[s.length-1] (cB _)).2;omega
def jq {b:ByteArray}(h:bF b.data.toList=true):b.size<=5700:=aAV h
def Pg {c:Int×Int}{q:b0}(h:fe c q=true):bq c=true/\bF q.2.1.data.toList=true/\bm q.2.1.data.toList=q.1/\(q.2.1.data.toList=[]->q.2.2=[])/\(q.2.1.data.toList≠[]->j6 c.1 q.2.2=true/\(q.2.2.length:Int)>=Js c):=by
 unfold fe af9 at h;simp only[aD,bJ]at h;obtain⟨d,e,f,a⟩:=h;refine⟨d,e,f,fun b=>?_,fun b=>?_⟩
 .rw[an b]at a;exact C2 a
 .rw[ah b]at a;simp only[aD,bJ]at a;exact a
def Xa {v:Int}(a:0<=v)(b:v<=1000000):aer v:=⟨a,by omega⟩
def yY {c:Int×Int}{q:b0}(h:fe c q=true):aAW q/\q.2.2.length<=7/\q.2.1.size<=5700:=by
 obtain⟨f,g,k,i,j⟩:=Pg h;have l:=ch f;have d:=jq g;have m:=rA q.2.1.data.toList;by_cases e:q.2.1.data.toList=[]
 .have a:=i e;refine⟨⟨Xa (by omega) (by omega),by omega,by rw[a];exact aX _,fun x b=>by rw[a]at b;cases b⟩,by rw[a];exact aX _,d⟩
 .obtain⟨a,_⟩:=j e;have n:=UM a;refine⟨⟨Xa (by omega) (by omega),by omega,by omega,fun x b=>?_⟩,by omega,d⟩;have:=UL a x b;exact Xa (by omega) (by omega)
def Jy (b:ByteArray):dY b=true↔b.data.toList=[]:=by unfold dY;have:=TL b.data.toList [];rw[<-adT,show tx []=ai from rfl]at this;rw[this,bJ]
def aa9 {c:Int×Int}{p:b0}(h:iF c p=true):bq c=true/\1<=p.1/\p.1<=60/\j6 c.1 p.2.2=true/\p.2.2≠[]/\bF p.2.1.data.toList=true/\(p.2.1.data.toList≠[]->bm p.2.1.data.toList=p.1):=by
 unfold iF at h;simp only[aD,kl,ga,bJ,agx,cH,bX]at h;obtain⟨b,⟨d,f⟩,g,i,a⟩:=h;refine⟨b,d,f,g,fun e=>i (by rw[e];rfl),?_,fun j=>?_⟩
 .rcases a with a|a
  .rw[(Jy _).1 a];exact O0
  .exact a.1
 .rcases a with a|a
  .exact absurd ((Jy _).1 a) j
  .exact a.2
def UN {c:Int×Int}{q:b0}(h:iF c q=true):aAW q/\q.2.2.length<=7/\q.2.1.size<=5700:=by obtain⟨b,g,i,a,_,d,_⟩:=aa9 h;have j:=ch b;have e:=jq d;have k:=UM a;refine⟨⟨Xa (by omega) (by omega),by omega,by omega,fun x f=>?_⟩,by omega,e⟩;have:=UL a x f;exact Xa (by omega) (by omega)
def N9 (m:cq):List Int :=
 aC m.1++(if m.1=1 then iQ m.2.2.1.1++uN m.2.2.1.2 else if m.1=2 then uN m.2.2.2.1 else if m.1=3 then aC m.2.1++(aC m.2.2.2.2.2.1++uN m.2.2.2.2.1)
  else aC m.2.2.2.2.2.2.1++(aC m.2.2.2.2.2.2.2.1++(aC m.2.2.2.2.2.2.2.2.1++aC m.2.2.2.2.2.2.2.2.2)))
def agp {v:Int}(h:aer v)(rest:List Int):ho (aC v++rest)=(v,(aC v).length,true):=by have:=lM (pre:=[]) (rest:=rest) h.1 h.2;exact this
def ay4 {c:Int×Int}{m:cq}(h:dZ c m=true):aa0 (N9 m)=(m,(N9 m).length,true):=by
 unfold dZ at h;simp only[aD]at h;obtain⟨D,E,d⟩:=h;have q:=YH E;obtain⟨aCr,view,⟨f,i⟩,part,b,dE,tx⟩:=m;dsimp only at d q ⊢;by_cases t:aCr=1
 .subst t;rw[an (by rfl)]at d;simp only[gw,aD]at d;have k:=(yY d.1).1;have Q:=jq d.2.1;have e:N9 (1,view,(f,i),part,b,dE,tx)=aC 1++(iQ f++(uN i++[])):=by simp[N9]
  have l:aC 1++(iQ f++(uN i++[]))=(aC 1++iQ f)++(uN i++[]):=by simp
  have n:=agp (v:=1) (Xa (by decide) (by decide)) (iQ f++(uN i++[]));have o:cS (aC 1++(iQ f++(uN i++[]))) ((aC 1).length,true)=(f,(aC 1++iQ f).length,true):=YG (by omega);have p:vp (aC 1++(iQ f++(uN i++[]))) ((aC 1++iQ f).length,true)=(i,(aC 1++iQ f++uN i).length,true):=by rw[l];exact aru k
  rw[e];unfold aa0 aAE;rw[n];dsimp only;rw[an (by rfl),o];dsimp only;rw[p];rw[<-q];simp[named]
 .by_cases u:aCr=2
  .subst u;rw[ah (by decide),an (by rfl)]at d;simp only[aD]at d;have k:=(UN d.1).1;obtain⟨a,g,j⟩:=part;have e:N9 (2,view,(f,i),(a,g,j),b,dE,tx)=aC 2++(aC a++(iQ g++(By j++[]))):=by simp[N9,uN]
   have l:aC 2++(aC a++(iQ g++(By j++[])))=(aC 2++aC a)++(iQ g++(By j++[])):=by simp
   have r:aC 2++(aC a++(iQ g++(By j++[])))=(aC 2++aC a++iQ g)++(By j++[]):=by simp
   have n:=agp (v:=2) (Xa (by decide) (by decide)) (aC a++(iQ g++(By j++[])));have o:aO (aC 2++(aC a++(iQ g++(By j++[])))) ((aC 2).length,true)=(a,(aC 2++aC a).length,true):=lM k.v.1 k.v.2;have p:cS (aC 2++(aC a++(iQ g++(By j++[])))) ((aC 2++aC a).length,true)=(g,(aC 2++aC a++iQ g).length,true):=by rw[l];exact YG k.n
   have s:Ar (aC 2++(aC a++(iQ g++(By j++[])))) ((aC 2++aC a++iQ g).length,true)=(j,(aC 2++aC a++iQ g++By j).length,true):=by rw[r];exact am1 k.m k.w
   rw[e];unfold aa0 aAF;rw[n];dsimp only;rw[ah (by decide),an (by rfl),o];dsimp only;rw[p];dsimp only;rw[s];rw[<-q];simp[named]
  .by_cases w:aCr=3
   .subst w;rw[ah (by decide),ah (by decide),an (by rfl)]at d;simp only[aD,ga,bJ]at d;obtain⟨⟨R,S⟩,k,⟨F,G⟩⟩:=d;have x:=ch D;rw[ac4 x.1 x.2.1]at G;have k:=(yY k).1;have y:aer dE:=Xa F (by omega);have e:N9 (3,view,(f,i),part,b,dE,tx)=aC 3++(aC view++(aC dE++(uN b++[]))):=by simp[N9]
    have l:aC 3++(aC view++(aC dE++(uN b++[])))=(aC 3++aC view)++(aC dE++(uN b++[])):=by simp
    have r:aC 3++(aC view++(aC dE++(uN b++[])))=(aC 3++aC view++aC dE)++(uN b++[]):=by simp
    have n:=agp (v:=3) (Xa (by decide) (by decide)) (aC view++(aC dE++(uN b++[])));have o:aO (aC 3++(aC view++(aC dE++(uN b++[])))) ((aC 3).length,true)=(view,(aC 3++aC view).length,true):=lM (by omega) (by omega);have p:aO (aC 3++(aC view++(aC dE++(uN b++[])))) ((aC 3++aC view).length,true)=(dE,(aC 3++aC view++aC dE).length,true):=by rw[l];exact lM y.1 y.2
    have s:vp (aC 3++(aC view++(aC dE++(uN b++[])))) ((aC 3++aC view++aC dE).length,true)=(b,(aC 3++aC view++aC dE++uN b).length,true):=by rw[r];exact aru k
    rw[e];unfold aa0 aAG;rw[n];dsimp only;rw[ah (by decide),ah (by decide),an (by rfl),o];dsimp only;rw[p];dsimp only;rw[s];rw[<-q];simp[named]
   .rw[ah (by simpa using t),ah (by simpa using u),ah (by simpa using w)]at d;simp only[aD,cH]at d;obtain⟨H,I⟩:=d;subst H;obtain⟨t1,t2,t3,t4⟩:=tx;obtain⟨⟨z,K⟩,⟨A,L⟩,⟨B,M⟩,⟨C,N⟩⟩:=rz I;dsimp only at z K A L B M C N;have e:N9 (4,view,(f,i),part,b,dE,t1,t2,t3,t4)=aC 4++(aC t1++(aC t2++(aC t3++(aC t4++[])))):=by simp[N9]
    have l:aC 4++(aC t1++(aC t2++(aC t3++(aC t4++[]))))=(aC 4++aC t1)++(aC t2++(aC t3++(aC t4++[]))):=by simp
    have r:aC 4++(aC t1++(aC t2++(aC t3++(aC t4++[]))))=(aC 4++aC t1++aC t2)++(aC t3++(aC t4++[])):=by simp
    have O:aC 4++(aC t1++(aC t2++(aC t3++(aC t4++[]))))=(aC 4++aC t1++aC t2++aC t3)++(aC t4++[]):=by simp
    have n:=agp (v:=4) (Xa (by decide) (by decide)) (aC t1++(aC t2++(aC t3++(aC t4++[]))));have o:aO (aC 4++(aC t1++(aC t2++(aC t3++(aC t4++[]))))) ((aC 4).length,true)=(t1,(aC 4++aC t1).length,true):=lM z (by omega);have p:aO (aC 4++(aC t1++(aC t2++(aC t3++(aC t4++[]))))) ((aC 4++aC t1).length,true)=(t2,(aC 4++aC t1++aC t2).length,true):=by rw[l];exact lM A (by omega)
    have s:aO (aC 4++(aC t1++(aC t2++(aC t3++(aC t4++[]))))) ((aC 4++aC t1++aC t2).length,true)=(t3,(aC 4++aC t1++aC t2++aC t3).length,true):=by rw[r];exact lM B (by omega)
    have P:aO (aC 4++(aC t1++(aC t2++(aC t3++(aC t4++[]))))) ((aC 4++aC t1++aC t2++aC t3).length,true)=(t4,(aC 4++aC t1++aC t2++aC t3++aC t4).length,true):=by rw[O];exact lM C (by omega)
    rw[e];unfold aa0 aAH;rw[n];dsimp only;rw[ah (by decide),ah (by decide),ah (by decide),an (by rfl),o];dsimp only;rw[p];dsimp only;rw[s];dsimp only;rw[P];rw[<-q];simp[named]
def aw9 {c:Int×Int}{m:cq}(h:dZ c m=true):j9 c (N9 m)=(m,true):=by unfold j9 Rw;rw[ay4 h];dsimp only;rw[an ⟨rfl,rfl,h⟩]
def eB {a b:List Int}(c:∀x∈a,0<=x/\x<=255)(d:∀x∈b,0<=x/\x<=255):∀x∈a++b,0<=x/\x<=255:=fun x e=>(fM.1 e).elim (c x) (d x)
def YI (s:ByteArray):∀x∈iQ s,0<=x/\x<=255:=eB (eh _) (alM s)
def arw (l:List Int):∀x∈kr l,0<=x/\x<=255:=fun x a=>by obtain⟨y,_,h⟩:=List.mem_flatMap.1 a;exact eh y x h
def Ph (q:b0):∀x∈uN q,0<=x/\x<=255:=eB (eh _) (eB (YI _) (eB (eh _) (arw _)))
def T5 (s:ByteArray):(iQ s).length<=s.size+5:=by have:=cG (s.size:Int);unfold iQ;rw[aW,T4];omega
def T6 {q:b0}(h:aAW q):(uN q).length<=q.2.1.size+5*q.2.2.length+15:=by have a:=cG q.1;have b:=T5 q.2.1;have c:=cG (q.2.2.length:Int);have d:=(adk h.m).2;unfold uN By;rw[aW,aW,aW];omega
def YJ {c:Int×Int}{m:cq}(h:dZ c m=true):(N9 m).length<=12000/\(∀x∈N9 m,0<=x/\x<=255)/\1<=(N9 m).length:=by
 unfold dZ at h;simp only[aD]at h;obtain⟨l,_,a⟩:=h;have n:=cG m.1;have pos:m.1=1\/m.1=2\/m.1=3\/m.1=4:=by
  by_cases e:m.1=1
  .exact .inl e
  .by_cases f:m.1=2
   .exact .inr (.inl f)
   .by_cases g:m.1=3
    .exact .inr (.inr (.inl g))
    .rw[ah (by simpa using e),ah (by simpa using f),ah (by simpa using g)]at a;simp only[aD,cH]at a;exact .inr (.inr (.inr a.1))
 have one:1<=(aC m.1).length:=by unfold aC;rw[an (by omega)];exact akc 4 _
 unfold N9;refine⟨?_,eB (eh _) ?_,by rw[aW];omega⟩
 .rw[aW];rcases pos with k|k|k|k
  .rw[an (by simpa using k)]at a;simp only[gw,aD]at a;have b:=yY a.1;have o:=jq a.2.1;have i:=T5 m.2.2.1.1;have d:=T6 b.1;rw[an k,aW];omega
  .rw[ah (by simp[k]),an (by simpa using k)]at a;simp only[aD]at a;have b:=UN a.1;have d:=T6 b.1;rw[ah (by omega),an k];omega
  .rw[ah (by simp[k]),ah (by simp[k]),an (by simpa using k)]at a;simp only[aD]at a;have b:=yY a.2.1;have i:=cG m.2.1;have j:=cG m.2.2.2.2.2.1;have d:=T6 b.1;rw[ah (by omega),ah (by omega),an k,aW,aW];omega
  .have i:=cG m.2.2.2.2.2.2.1;have d:=cG m.2.2.2.2.2.2.2.1;have j:=cG m.2.2.2.2.2.2.2.2.1;have p:=cG m.2.2.2.2.2.2.2.2.2;rw[ah (by omega),ah (by omega),ah (by omega),aW,aW,aW];omega
 .split
  .exact eB (YI _) (Ph _)
  .split
   .exact Ph _
   .split
    .exact eB (eh _) (eB (eh _) (Ph _))
    .exact eB (eh _) (eB (eh _) (eB (eh _) (eh _)))
def T7 (s:bK):List Int:=aC s.1++(aC s.2.1++(uN s.2.2.1++iQ s.2.2.2))
def fK {c:Int×Int}{s:bK}(h:b2 c s=true):(0<=s.1/\s.1<=60)/\(0<=s.2.1/\s.2.1<=60)/\fe c s.2.2.1=true/\bF s.2.2.2.data.toList=true:=by simp only[b2,ga,aD,bJ]at h;exact h
def am2 {c:Int×Int}{s:bK}(h:b2 c s=true):1<=(T7 s).length/\(T7 s).length<=12000:=by
 obtain⟨⟨d,e⟩,_,a,b⟩:=fK h;have a:=yY a;have f:=jq b;have g:=cG s.1;have i:=cG s.2.1;have j:=T6 a.1;have k:=T5 s.2.2.2;have one:1<=(aC s.1).length:=by unfold aC;rw[an (by omega)];exact akc 4 _
 unfold T7;rw[aW,aW,aW];omega
def arx (s:bK):∀x∈T7 s,0<=x/\x<=255:=eB (eh _) (eB (eh _) (eB (Ph _) (YI _)))
def Jz (s:bK):List Int:=aC ((T7 s).length:Int)++(T7 s++[10])
def ary (s:bK):∀x∈Jz s,0<=x/\x<=255:=eB (eh _) (eB (arx s) fun x a=>by rw[h7.1 a];omega)
def axa {c:Int×Int}{s:bK}(h:b2 c s=true):1<=(Jz s).length/\(Jz s).length<=12010:=by have a:=am2 h;have b:=cG ((T7 s).length:Int);unfold Jz;rw[aW,aW,ej];omega
end Go.Am.Tryz
