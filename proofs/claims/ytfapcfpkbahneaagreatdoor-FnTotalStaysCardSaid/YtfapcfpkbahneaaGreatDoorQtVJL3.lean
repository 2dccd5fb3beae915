/- Lemmas for the claim. No condition. -/
import Derived.Test.YtfapcfpkbahneaaGreatDoorQtVJL2
set_option linter.all false
namespace Go.Am.Tryz
open Go.Am
theorem W7 {l:iE}(h4:Ui l){list:List eO}(hl:list.length<=1048576):rM F0 l list=some (fA l list,iF l list,()):=by
 rw[aoR,WT (by have:=h4.1;omega) (by have:=h4.2;omega),ai];refine df (fun n i (z:List Int×iE)=>DN F0 (FY F0) n (wm list (list.length:Int) i z.1 [] [] z.2.1 z.2.2)) list.length (fun k z=>z.1=iF l (list.take k)/\z.2=fA l (list.take k)) _ (fun n k z hk hI=>.inr ⟨(z.1++[(eU z.2 list[k]).2],(eU z.2 list[k]).1),?_,?_⟩) (fun n z hI=>?_) F0.n 0 ([],l) (aX _) ⟨rfl,rfl⟩ (by rw[bT];omega)
 ·obtain⟨h1,h2⟩:=hI;have q4:Ui z.2:=by rw[h2];exact Ix h4
  have hz:z.1.length<=1048576:=by rw[h1,Iy,bQ];omega
  rw[KG,aS hk,af,av hk,ae,aar hk]
  try rw[aME]
  rw[apf (l:=(z.2.1,z.2.2)) (by have:=q4.1;show z.2.1.length<=_;omega) (by have:=q4.2;show z.2.2.length<=_;omega),ai];simp only;rw[az (a:=z.1.length) (b:=[(eU (z.2.1,z.2.2) list[k]).2].length) (k:=8) (by omega) (by omega) (by simp only[bg,bB];omega),ae,ao (by omega)]
 ·obtain⟨h1,h2⟩:=hI;have ht:list.take (k+1)=list.take k++[list[k]]:=by rw[Lr,oY hk];rfl
  refine⟨?_,?_⟩
  ·rw[ht,RJ,<-h1,<-h2];rfl
  ·rw[ht,Ny,<-h2]
 ·obtain⟨h1,h2⟩:=hI;rw[nN]at h1 h2;rw[KG,aH,aa,aej,h1,h2]
theorem aAO {l:List UInt8}(hl:l.length<=1073741824):rK F0 (tx l)=some ((cC l).1.flatMap (·.2),()):=by
 rw[arA,RH hl,ai];have hlen:=rP l;have dO:=RG l;generalize hss:(cC l).1=ss at hlen dO;refine df (fun n i xs=>Io F0 (KB F0) n (An (ss.length:Int) i xs ss)) ss.length (fun k xs=>xs=(ss.take k).flatMap (·.2)) _ (fun n k xs hk hI=>.inr ⟨_,?_,rfl⟩) (fun n xs hI=>?_) F0.n 0 [] (aX _) rfl (by rw[bT];omega)
 ·have h1:=(dO _ (di hk)).2.2.1;have hx:=aeB (ss:=ss.take k) fun x hx=>dO x (al1 hx)
  rw[<-hI,bQ]at hx;rw[Nj,aS hk,af,av hk,ae,aar hk,az (a:=xs.length) (b:=ss[k].2.length) (k:=32) (by omega) (by omega) (by omega),ae,ao (by omega),hI];have hf:(ss.take (k+1)).flatMap (·.2)=(ss.take k).flatMap (·.2)++ss[k].2:=by rw[show ss.take (k+1)=ss.take k++[ss[k]] by rw[Lr,oY hk];rfl,List.flatMap_append];simp
  rw[hf]
 ·rw[nN]at hI;rw[Nj,aH,aa,agZ,hI]
def Uk (b:ByteArray):List eO:=(cC b.data.toList).1.flatMap (·.2)
theorem AI (b:ByteArray):(Uk b).length<=60:=by have h1:=aeB (RG b.data.toList);have h2:=rP b.data.toList;unfold Uk;omega
theorem aye {b:ByteArray}(h:b.size<=1048576):wO F0 b=some (Uk b,()):=aD7 (T0 h)
theorem ahu {b:ByteArray}(h:b.size<=1048576):rK F0 b=some (Uk b,()):=aAO (T0 h)
theorem Lg:Ui RI:=⟨rfl,rfl⟩
def jB (c:Int×Int)(r:aD):iE:=if qJ c r=true then fA RI (Uk r.2.2.2.1.2.2.2) else ([],[])
theorem aEl {r:aD}(h:arH r)(c:Int×Int):J0 F0 c r=some (jB c r,()):=by have ht:=AI r.2.2.2.1.2.2.2;rw[aq9,iS h,ai,aaq,ai,aye h.s.2,ai,apg Lg (cN (AI _) (by omega)),ai];unfold jB;cases qJ c r<;>rfl
theorem abR {r:aD}(h:arH r)(c:Int×Int):kh F0 c r=some (jB c r,()):=by have ht:=AI r.2.2.2.1.2.2.2;rw[arB,eW h,ai,KV,ai,ahu h.s.2,ai,W7 Lg (cN (AI _) (by omega)),ai];unfold jB;cases qJ c r<;>rfl
theorem ayf (c:Int×Int)(r:aD):(jB c r).1.length<=4:=by
 unfold jB;split
 ·exact Nat.le_of_eq (Ix Lg).1
 ·exact aX _
def T1:List Int->Int->Int
 |[],n=>n
 |x::l,n=>T1 l (aj (n+x))
theorem apA:∀(l:List Int) (x n:Int),T1 (l++[x]) n=aj (T1 l n+x)
 |[],_,_=>rfl
 |_::l,x,_=>apA l x _
theorem apB {l:iE}(h:l.1.length<=1048576):KR F0 l=some (T1 l.1 0,()):=by
 rw[arE];refine df (fun n i (q:Int)=>Iw F0 (KQ F0) n (AD q l.1 (l.1.length:Int) i)) l.1.length (fun k q=>q=T1 (l.1.take k) 0) _ (fun n k q hk hq=>.inr ⟨T1 (l.1.take (k+1)) 0,?_,rfl⟩) (fun n q hq=>?_) _ 0 0 (aX _) rfl (by rw[bT];omega)
 ·rw[Nx,aS hk,af,av hk,ae,bp hk,ao (by omega),gj hk,apA,<-hq]
 ·rw[Nx,aH,aa,ahe,hq,nN]
def QM (c:Int):Bool:=(c==0) || (c==4)
def okP (xs:List eO)(cs:List Int)(i k:Nat):Bool:= !(QM (cs.getD i 0)&&(QM (cs.getD k 0)&&(((xs.getD i nM).1==(xs.getD k nM).1)&&((xs.getD i nM).2.2.2==(xs.getD k nM).2.2.2))))
def ayg (b:ByteArray):Bool:=(List.range (Uk b).length).all fun i=>(List.range i).all (okP (Uk b) (iF RI (Uk b)) i)
def avQ (w:an)(i:Nat):Bool:= !(T1 (jB w.1 (rp w i)).1 0 != 400)&&ayg (rp w i).2.2.2.1.2.2.2
def avR (w:an):Bool:=mf w&&(List.range (cM w).length).all (avQ w)
theorem aAP {β:Type}(a b e f:Bool)(x y:β):br a (br b (br e (br f x y) y) y) y=if (!(a&&(b&&(e&&f))))=true then y else x:=by cases a<;>cases b<;>cases e<;>cases f<;>rfl
theorem aGL {w:an}{t17 t18:Int}{hs:List Int}{xs:List eO}{cs:List Int}(hc:cs.length=xs.length)(hl:xs.length<=1048576){γ:Type}(κ:Ex->St->Option γ)(n:Nat){i:Nat}(hi:i<xs.length) :
  fG F0 (kj F0 κ n) F0.n (eF (i:Int) t17 t18 (xs.length:Int) (i:Int) (i:Int) (i:Int) 0 w.1.1 w.1.2 w.2.1 w.2.2.1 w.2.2.2.1 w.2.2.2.2 (xs[i]).1 (xs[i]).2.1 (xs[i]).2.2.1 (xs[i]).2.2.2 xs cs hs) =
  if (List.range i).all (okP xs cs i)=true then jW F0 κ n (gP t17 t18 (xs.length:Int) ((i+1:Nat):Int) w.1.1 w.1.2 w.2.1 w.2.2.1 w.2.2.2.1 w.2.2.2.2 xs cs hs) else κ .ret (xc false):=by
 refine jA (fun m k=>fG F0 (kj F0 κ n) m (eF (i:Int) t17 t18 (xs.length:Int) (i:Int) (i:Int) (i:Int) k w.1.1 w.1.2 w.2.1 w.2.2.1 w.2.2.2.1 w.2.2.2.2 (xs[i]).1 (xs[i]).2.1 (xs[i]).2.2.1 (xs[i]).2.2.2 xs cs hs)) i (okP xs cs i) _ _ (fun m k hk=>?_) (fun m=>?_) _ (by rw[bT];omega)
 ·have hk':k<xs.length:=by omega
  have hic:i<cs.length:=by omega
  have hkc:k<cs.length:=by omega
  rw[Bc,aS hk,af,av hk,ae,av hic,ae,bp hic,axO,ai,av hkc,ae,bp hkc,axO,ai,bp hk',YE,ao (by omega)];dsimp only;rw[aAP];unfold okP QM;rw[bc hi,bc hk',bc hic,bc hkc]
 ·rw[Bc,aH,aa,WL,ao (by omega)]
theorem aEm {w:an}{t17 t18:Int}{hs:List Int}{xs:List eO}{cs:List Int}(hc:cs.length=xs.length)(hl:xs.length<=1048576){γ:Type}(κ:Ex->St->Option γ)(n:Nat) :
  jW F0 (kl F0 κ n) F0.n (gP t17 t18 (xs.length:Int) 0 w.1.1 w.1.2 w.2.1 w.2.2.1 w.2.2.2.1 w.2.2.2.2 xs cs hs) =
  if ((List.range xs.length).all fun i=>(List.range i).all (okP xs cs i))=true then nz F0 κ n (km t17 (aj (t18+1)) w.1.1 w.1.2 w.2.1 w.2.2.1 w.2.2.2.1 w.2.2.2.2 hs) else κ .ret (oQ false):=by
 refine jA (fun m k=>jW F0 (kl F0 κ n) m (gP t17 t18 (xs.length:Int) k w.1.1 w.1.2 w.2.1 w.2.2.1 w.2.2.2.1 w.2.2.2.2 xs cs hs)) xs.length (fun i=>(List.range i).all (okP xs cs i)) _ _ (fun m k hk=>?_) (fun m=>?_) _ (by rw[bT];omega)
 ·rw[Be,aS hk,af,av hk,ae,show okT (k:Int) (xs.length:Int)=true by simp[okT];omega,ae,bp hk,aGL hc hl _ _ hk,YF]
 ·rw[Be,aH,aa,WM]
theorem apC {w:an}(h:F1 w):AE F0 w=some (avR w,()):=by
 have hlen:(cM w).length<=1048576:=cN (Le w.2.1 w.2.2.1.length) h.r;rw[aes,tF h,ai,E5 h,ai];dsimp only;rw[jA (fun m k=>nz F0 (oR F0) m (km ((cM w).length:Int) k w.1.1 w.1.2 w.2.1 w.2.2.1 w.2.2.2.1 w.2.2.2.2 (cM w))) (cM w).length (avQ w) (some (true,())) (some (false,())) (fun m k hk=>?_) (fun m=>?_) _ (by rw[bT];omega),Ld]
 ·unfold avR;cases mf w<;>rfl
 ·obtain⟨j,e,hj⟩:=aht hk;have hr:=h.rl _ (di hj);have hs:=ayf w.1 w.2.2.1[j];have ht:=AI (w.2.2.1[j]).2.2.2.1.2.2.2;rw[Bf,aS hk,af,av hk,ae,bp hk,e,av hj,ae,bp hj,show((w.1.1,w.1.2):Int×Int)=w.1 from rfl,abR hr,ai,apB (by show(jB w.1 w.2.2.1[j]).1.length<=_;omega),ai,ae,ahu hr.s.2,ai,KV,ai,W7 Lg (cN (AI _) (by omega)),ai,aEm (Iy _ _) (cN (AI _) (by omega)),YG,ao (by omega)];unfold avQ;rw[aJF hk e hj];dsimp only;rw[show((List.range (Uk (w.2.2.1[j]).2.2.2.1.2.2.2).length).all fun i=>(List.range i).all (okP (Uk (w.2.2.1[j]).2.2.2.1.2.2.2) (iF RI (Uk (w.2.2.1[j]).2.2.2.1.2.2.2)) i))=ayg (w.2.2.1[j]).2.2.2.1.2.2.2 from rfl];cases (T1 (jB w.1 w.2.2.1[j]).1 0 != 400)<;>cases ayg (w.2.2.1[j]).2.2.2.1.2.2.2<;>rfl
 ·rw[Bf,aH,aa,WN]
abbrev xT:=List Int×Int×Int
def RW (c:xT):Prop:=c.1.length<=1048576/\0<=c.2.1/\c.2.1<=1048576
theorem avS (n:Int):0<=aj ((BitVec.ofInt 64 n &&& BitVec.ofInt 64 255).toNat:Int)/\aj ((BitVec.ofInt 64 n &&& BitVec.ofInt 64 255).toNat:Int)<=255:=by
 have h:(BitVec.ofInt 64 n &&& BitVec.ofInt 64 255).toNat<=255:=by rw[BitVec.toNat_and];exact cN Nat.and_le_right (by decide)
 rw[aI (by omega) (by omega)];omega
theorem aC3 {c:xT}(h:RW c):∃(v:Int) (c':xT),kU F0 c=some ((v,()),c',())/\0<=v/\v<=255/\RW c':=by
 rw[amU];by_cases hlt:c.2.1<(c.1.length:Int)
 ·rw[aM hlt,af,show cc c.2.1 (c.1.length:Int)=true by simp[cc];exact⟨h.2.1,hlt⟩,ae];have hl:=h.1;have h0:=h.2.1;refine⟨_,_,rfl,(avS _).1,(avS _).2,h.1,?_,?_⟩
  ·show 0<=aj (c.2.1+1);rw[aI (by omega) (by omega)];omega
  ·show aj (c.2.1+1)<=1048576;rw[aI (by omega) (by omega)];omega
 ·rw[aQ hlt,aa];exact⟨_,_,rfl,(avS _).1,(avS _).2,h⟩
theorem avT {a n:Int}(h0:0<=a)(hn:0<n):0<=Int.tmod a n/\Int.tmod a n<n:=by rw[al0 h0];exact⟨al3 _ (by omega),al2 _ hn⟩
theorem apD {c:xT}(h:RW c){n:Int}(hn:0<n)(hn2:n<=256):∃(v:Int) (c':xT),ax F0 c n=some ((v,()),c',())/\0<=v/\v<n/\RW c':=by obtain⟨v,c',h1,h2,h3,h4⟩:=aC3 h;rw[Sk,aQ (show ¬n<=0 by omega),aa,aM hn2,af,h1,ai,show(!(n==0))=true by rw[cj.2 (show n≠0 by omega)];rfl,ae];exact⟨_,_,rfl,(avT h2 hn).1,(avT h2 hn).2,h4⟩
theorem aAQ {c:xT}(h:RW c){l:List Int}(hn:0<l.length)(hn2:l.length<=256):∃(v:Int) (c':xT),j4 F0 c l=some ((v,()),c',())/\v∈l/\RW c':=by
 obtain⟨v,c',h1,h2,h3,h4⟩:=apD h (n:=(l.length:Int)) (by omega) (by omega);have hv:v.toNat<l.length:=by omega
 rw[acX,h1,ai,show cc v (l.length:Int)=true by simp[cc];exact⟨h2,h3⟩,ae];refine⟨_,_,rfl,?_,h4⟩;have e:v=(v.toNat:Int):=by omega
 show aN l v 0∈l;rw[e,bp hv];exact di hv
theorem aIC {c:xT}(h:RW c){n:Int}(hn:0<n)(hn2:n<=256):∃(v:Bool) (c':xT),nO F0 c n=some ((v,()),c',())/\RW c':=by obtain⟨v,c',h1,h2,h3,h4⟩:=apD h hn hn2;rw[amW,h1,ai];exact⟨_,_,rfl,h4⟩
theorem aKC {code:List Int}(h:code.length<=1048576):∃c':xT,Jm F0 code=some (((c',()),()))/\RW c':=by
 rw[aqQ];suffices hh:∀(j:Nat) (q:Int) (k n:Nat),k+j=code.length->j<n->∃q':Int,Hd F0 (Jl F0) n (yg code q (k:Int) code)=some ((((code,0,q'):xT),()),()) by obtain⟨q',e⟩:=hh code.length (aj (26583+(code.length:Int))) 0 F0.n (xf _) (by rw[bT];omega);exact⟨_,e,h,Sd _,by show(0:Int)<=1048576;decide⟩
 intro j
 induction j with
 |zero =>
  intro q k n hk hn;obtain⟨n,rfl⟩:∃m,n=m+1:=⟨n-1,by omega⟩;obtain rfl:k=code.length:=by omega
  rw[LC,aH,aa,OW];exact⟨q,rfl⟩
 |succ j ih =>
  intro q k n hk hn;obtain⟨n,rfl⟩:∃m,n=m+1:=⟨n-1,by omega⟩;have hlt:k<code.length:=by omega
  rw[LC,aS hlt,af];cases decide ((k:Int)<4000) with
  |false =>
   rw[aa,OW];exact⟨q,rfl⟩
  |true =>
   rw[af,av hlt,ae,ao (by omega)];exact ih _ (k+1) n (by omega) (by omega)
theorem RX (c x:UInt8)(l:List UInt8):parts c (x::l)=if x=c then []::parts c l else match parts c l with
  |p::ps=>(x::p)::ps
  |[]=>[[x]]:=by
 conv=>lhs;unfold parts
 cases parts c l<;>rfl
theorem ahv {c:UInt8}:∀(a b:List UInt8),parts c (a++c::b)=parts c a++parts c b
 |[],b=>by rw[F6,RX,ak rfl];rfl
 |x::a,b=>by
  rw[F5,RX c x (a++c::b),RX c x a];by_cases hx:x=c
  ·rw[ak hx,ak hx,ahv a b];rfl
  ·rw[ah hx,ah hx,ahv a b];have hne:=E2 c a;cases hp:parts c a with
   |nil=>exact absurd hp hne
   |cons p ps=>rfl
theorem ayh {σ β:Type}{f:σ->List UInt8->Option (σ×β)}:∀{l m:List (List UInt8)} {s:σ} {r:List β},AH f s (l++m)=some r->∃r1 r2,AH f s l=some r1/\r=r1++r2/\r2.length=m.length
 |[],m,s,r,h=>⟨[],r,rfl,rfl,QH h⟩
 |p::l,m,s,r,h=>by
  rw[F5]at h;unfold AH at h ⊢;cases hp:f s p with
  |none=>rw[hp]at h;cases h
  |some x =>
   obtain⟨s',b⟩:=x;rw[hp]at h;dsimp only at h ⊢;cases hr:AH f s' (l++m) with
   |none=>rw[hr]at h;cases h
   |some r' =>
    rw[hr]at h;cases h;obtain⟨r1,r2,h1,h2,h3⟩:=ayh hr;rw[h1];exact⟨b::r1,r2,rfl,by rw[h2];rfl,h3⟩
theorem aAR {a t:List UInt8}(ht:(47:UInt8) ∉ t)(h:cq (a++47::t)=true):cq a=true/\∃x,(cC (a++47::t)).1=(cC a).1++[x]:=by
 have hne:a++47::t≠[]:=by simp
 unfold cq at h ⊢;unfold cC at h ⊢;rw[ah hne,ahv,apc ht]at h ⊢;cases hp:parts 47 a with
 |nil=>exact absurd hp (E2 47 a)
 |cons p0 ps =>
  rw[hp,F5]at h;rw[F5];dsimp only at h ⊢;by_cases hc:¬p0=[]\/30<(ps++[t]).length
  ·rw[ak hc]at h;cases h
  ·rw[ah hc]at h ⊢;have h0:p0=[]:=aww fun hn=>hc (.inl hn)
   have hl:¬30<(ps++[t]).length:=fun hn=>hc (.inr hn)
   rw[aT,ew]at hl;cases hr:AH E3 0 (ps++[t]) with
   |none=>rw[hr]at h;cases h
   |some r =>
    obtain⟨r1,r2,h1,h2,h3⟩:=ayh hr;obtain⟨x,rfl⟩:∃x,r2=[x]:=by
     cases r2 with
     |nil=>cases h3
     |cons x r2 =>
      cases r2 with
      |nil=>exact⟨x,rfl⟩
      |cons _ _=>simp at h3
    by_cases ha:a=[]
    ·subst ha;have:ps=[]:=by have:=hp;unfold parts at this;exact(xX this).2.symm
     subst this;cases h1;rw[ak rfl];exact⟨rfl,x,h2⟩
    ·rw[ah ha,ah (fun hn=>hn.elim (fun hn=>hn h0) (fun hn=>by omega)),h1];exact⟨rfl,x,h2⟩
def oT (l:List eO):List UInt8:=Lib.join (l.map txL) [44]
def NF (l:List eO):List UInt8:=if l.all gQ=true then oT l else []
theorem aID {l:List eO}(h:l.all gQ=true):∀x∈l.map txL,x.length<=90:=by intro x hx;obtain⟨y,hy,rfl⟩:=Lt.1 hx;exact ao8 (iJ.1 h y hy)
theorem Lh {l:List eO}(h:l.all gQ=true):(oT l).length<=91*l.length:=by have:=aIe (aID h) 44;rw[ug]at this;exact this
theorem aeQ {l:List eO}{k:Nat}(hk:k<l.length):(l.take (k+1)).all gQ=((l.take k).all gQ&&gQ l[k]):=by rw[Lr,oY hk,List.all_append];simp
theorem Ou {α β:Type}{l:List α}{f:α->β}{k:Nat}(hk:k<l.length):(l.take (k+1)).map f=(l.take k).map f++[f l[k]]:=by rw[Lr,oY hk,afm];rfl
theorem IC {l:List eO}{k:Nat}(hk:k<l.length)(h:gQ l[k]=false):l.all gQ=false:=by rw[ar6];exact⟨l[k],di hk,by simp[h]⟩
theorem ata {x:eO}(h:gQ x=true):abE x=txL x:=ak h
theorem ayi {l:List eO}(h:l.length<=1048576):HC F0 l=some (tx (NF l),()):=by
 rw[akc];refine df (fun n i (out:ByteArray)=>ra F0 (sq F0) n (mN l out i)) l.length (fun k out=>(l.take k).all gQ=true/\out=tx (oT (l.take k))) _ (fun n k out hk ho=>?_) (fun n out ho=>?_) _ 0 _ (aX _) ⟨rfl,rfl⟩ (by rw[bT];omega)
 ·obtain⟨ha,rfl⟩:=ho;have hj:=Lh ha;rw[bQ,ahV (by omega)]at hj;rw[Gm,aS hk,af,av hk,ae,aar hk,QF,ai,adj];dsimp only;cases hx:gQ l[k]with
  |false =>
   left;rw[eX,af,NF,IC hk hx];rfl
  |true =>
   right;have hl:=ao8 hx;refine⟨tx (oT (l.take (k+1))),?_,by rw[aeQ hk,ha,hx];rfl,rfl⟩;rw[aL,aa,ae,ae,ao9,ai,ai,ata hx,show ByteArray.mk #[44]=tx [44] from rfl,gG];dsimp only;rw[iT (by rw[bP,bP,ew];omega),ae,iT (by rw[bP,bP,aT,ew];omega),ae,iT (by rw[bP,bP];omega),ae,gG,gG,ao (by omega)];by_cases h0:k=0
   ·subst h0;rw[show decide (((0:Nat):Int)>0)=false from rfl,aa,show oT (l.take (0+1))=oT (l.take 0)++txL l[0] by rw[oT,Ou hk];simp[oT,Lib.join_one,Lib.join_nil]]
   ·have hne:(l.take k).map txL≠[]:=by intro e;have:=AT List.length e;rw[ug,bQ,bB]at this;omega
    rw[aM (show(k:Int)>0 by omega),af,show oT (l.take (k+1))=oT (l.take k)++[44]++txL l[k] by rw[oT,Ou hk,aDT hne];rfl]
 ·obtain⟨ha,rfl⟩:=ho;rw[nN]at ha ⊢;rw[Gm,aH,aa,aa9,NF,ak ha]
theorem aIE (l:List eO):((l.map fun x=>tx (txL x)).map fun b=>b.data.toList)=l.map txL:=by rw[List.map_map];exact List.map_congr_left fun n _=>iK _
theorem avU {l:List eO}(h:l.length<=524288):Iq F0 l=some (tx (NF l),()):=by
 rw[aln];refine df (fun n i (xs:List ByteArray)=>Aw F0 (tz F0) n (tw l (l.length:Int) i xs)) l.length (fun k xs=>(l.take k).all gQ=true/\xs=(l.take k).map fun x=>tx (txL x)) _ (fun n k xs hk ho=>?_) (fun n xs ho=>?_) F0.n 0 [] (aX _) ⟨rfl,rfl⟩ (by rw[bT];omega)
 ·obtain⟨ha,rfl⟩:=ho;rw[GX,aS hk,af,av hk,ae,aar hk,Ch,ai,aen];dsimp only;cases hx:gQ l[k]with
  |false =>
   left;rw[eX,af,NF,IC hk hx];rfl
  |true =>
   right;refine⟨(l.take (k+1)).map fun x=>tx (txL x),?_,by rw[aeQ hk,ha,hx];rfl,rfl⟩;rw[aL,aa,ai8,ai,ata hx,az (by omega) (by omega) (by rw[ug,bQ,ew];omega),ae,ao (by omega),Ou hk]
 ·obtain⟨ha,rfl⟩:=ho;rw[nN]at ha ⊢;rw[GX,aH,aa,abC,show ByteArray.mk #[44]=tx [44] from rfl,ahf (aIE l) (by rw[ug];omega) (by have:=Lh ha;unfold oT at this;omega),ai,NF,ak ha];rfl
def NG (up:List UInt8)(view:Int)(l:List eO):List UInt8:=up++[47]++Lib.itoa view++[124]++oT l
def RY (up:List UInt8)(view:Int)(l:List eO):List UInt8:=if l.all gQ=true/\cq (NG up view l)=true then NG up view l else []
theorem abS (up:List UInt8){view:Int}(hv:I64 view){l:List eO}(ha:l.all gQ=true):(NG up view l).length<=up.length+23+91*l.length:=by have:=Lh ha;have:=RE hv;simp only[NG,aT,ew];omega
theorem apE {up:List UInt8}(hu:up.length<=1048576){view:Int}(hv:I64 view){l:List eO}(h:l.length<=1048576):la F0 (tx up) view l=some (tx (RY up view l),()):=by
 have hd:=RE hv;rw[ans];refine df (fun n i (_:Unit)=>CS F0 (vx F0) n (vw (tx up) view l i)) l.length (fun k _=>(l.take k).all gQ=true) _ (fun n k out hk ho=>?_) (fun n out ho=>?_) _ 0 () (aX _) rfl (by rw[bT];omega)
 ·rw[JP,aS hk,af,av hk,ae,aar hk,QF,ai,af3];dsimp only;cases hx:gQ l[k]with
  |false =>
   left;rw[eX,af,RY,ah (by rw[IC hk hx];simp)];rfl
  |true =>
   right;exact⟨(),by rw[aL,aa,ao (by omega)],by rw[aeQ hk,ho,hx];rfl⟩
 ·rw[nN]at ho;have hj:=Lh ho;have hn:=abS up hv ho;rw[JP,aH,aa,adk,Cf hv,ai,ayi h,ai,NF,ak ho,show ByteArray.mk #[47]=tx [47] from rfl,show ByteArray.mk #[124]=tx [124] from rfl];dsimp only;rw[iT (by rw[bP,bP,ew];omega),ae,gG,iT (by rw[bP,bP,aT,ew];omega),ae,gG,iT (by rw[bP,bP,aT,aT,ew,ew];omega),ae,gG,
   iT (by rw[bP,bP,aT,aT,aT,ew,ew];omega),ae,gG,show up++[47]++Lib.itoa view++[124]++oT l=NG up view l from rfl,RL (by omega),ai,RY]
  dsimp only;cases hn:cq (NG up view l) with
  |false=>rw[ah (by simp)];rfl
  |true=>rw[ak ⟨ho,rfl⟩];rfl
theorem ayj {up:List UInt8}(hu:up.length<=1048576){view:Int}(hv:I64 view){l:List eO}(h:l.length<=2):EY F0 (tx up) view l=some (tx (RY up view l),()):=by
 have hd:=RE hv;rw[aoW];refine df (fun n i (_:Unit)=>DS F0 (wA F0) n (wz (tx up) view l l (l.length:Int) i)) l.length (fun k _=>(l.take k).all gQ=true) _ (fun n k out hk ho=>?_) (fun n out ho=>?_) _ 0 () (aX _) rfl (by rw[bT];omega)
 ·rw[KK,aS hk,af,av hk,ae,aar hk,Ch,ai,ag6];dsimp only;cases hx:gQ l[k]with
  |false =>
   left;rw[eX,af,RY,ah (by rw[IC hk hx];simp)];rfl
  |true =>
   right;exact⟨(),by rw[aL,aa,ao (by omega)],by rw[aeQ hk,ho,hx];rfl⟩
 ·rw[nN]at ho;have hj:=Lh ho;have hn:=abS up hv ho;rw[KK,aH,aa,aeo,QE hv,ai,avU (by omega),ai,NF,ak ho,show ByteArray.mk #[47]=tx [47] from rfl,show ByteArray.mk #[124]=tx [124] from rfl];dsimp only;rw[iT (by rw[bP,bP,ew];omega),ae,gG,iT (by rw[bP,bP,aT,ew];omega),ae,gG,iT (by rw[bP,bP,aT,aT,ew,ew];omega),ae,gG,
   iT (by rw[bP,bP,aT,aT,aT,ew,ew];omega),ae,gG,show up++[47]++Lib.itoa view++[124]++oT l=NG up view l from rfl,Nz (by omega),ai,RY]
  dsimp only;rw[aQ (show ¬((l.length:Int)>2) by omega),aa];cases hn:cq (NG up view l) with
  |false=>rw[ah (by simp)];rfl
  |true=>rw[ak ⟨ho,rfl⟩];rfl
def Gd {α:Type}(X:Option α)(P:α->Prop):Prop:=∃v,X=some v/\P v
abbrev DrT (α:Type):=(α×Unit)×(xT×Unit)
def Dr {α:Type}(X:Option (DrT α))(Q:α->Prop):Prop:=Gd X fun z=>Q z.1.1/\RW z.2.1
theorem Gd.bind {α β:Type}{X:Option α}{P:α->Prop}(h:Gd X P){f:α->Option β}{R:β->Prop}(hf:∀v,P v->Gd (f v) R):Gd (X.bind f) R:=by obtain⟨v,rfl,hv⟩:=h;exact hf v hv
theorem Dr.bind {α β:Type}{X:Option (DrT α)}{Q:α->Prop}(h:Dr X Q){f:DrT α->Option β}{R:β->Prop}(hf:∀z:DrT α,Q z.1.1->RW z.2.1->Gd (f z) R):Gd (X.bind f) R:=by obtain⟨z,rfl,h1,h2⟩:=h;exact hf z h1 h2
theorem Gd.let {α β:Type}{X:Option α}{v:α}(h:X=some v){f:α->Option β}{R:β->Prop}(hf:Gd (f v) R):Gd (X.bind f) R:=by subst h;exact hf
theorem Gd.ret {α:Type}{v:α}{P:α->Prop}(h:P v):Gd (some v) P:=⟨v,rfl,h⟩
theorem Gd.br {α:Type}{c:Bool}{x y:Option α}{P:α->Prop}(h1:c=true->Gd x P)(h2:c=false->Gd y P):Gd (br c x y) P:=by
 cases c with
 |true=>exact h1 rfl
 |false=>exact h2 rfl
theorem Gd.ck {α:Type}{c:Bool}{x:Option α}{P:α->Prop}(h1:c=true)(h2:Gd x P):Gd (ck c x) P:=by subst h1;exact h2
theorem Gd.br0 {α:Type}{c:Bool}{x y:Option α}{P:α->Prop}(h:c=false)(h2:Gd y P):Gd (Am.br c x y) P:=by subst h;exact h2
theorem alS {ζ β:Type}(X:Nat->Int->ζ->Option β)(L:Nat)(I:Nat->ζ->Prop)(P:β->Prop)
  (hs:∀n k z,k<L->I k z->(∀z',I (k+1) z'->Gd (X n ((k+1:Nat):Int) z') P)->Gd (X (n+1) (k:Int) z) P) (he:∀n z,I L z->Gd (X (n+1) (L:Int) z) P) :
  ∀n k z,k<=L->I k z->L-k<n->Gd (X n (k:Int) z) P:=by
 intro n
 induction n with
 |zero=>intro k z _ _ h;omega
 |succ n ih =>
  intro k z hk hI hn;by_cases h:k=L
  ·subst h;exact he n z hI
  ·exact hs n k z (by omega) hI fun z' hI'=>ih (k+1) z' (by omega) hI' (by omega)
theorem alT {c:xT}(h:RW c):Dr (α:=Int) (kU F0 c) fun v=>0<=v/\v<=255:=by obtain⟨v,c',e,h1,h2,h3⟩:=aC3 h;exact⟨_,e,⟨h1,h2⟩,h3⟩
theorem aIF {x y z w:Int}(x0:0<=x)(x1:x<=255)(y0:0<=y)(y1:y<=255)(z0:0<=z)(z1:z<=255)(w0:0<=w)(w1:w<=255):0<=aj (aj (aj (aj (x*16777216)+aj (y*65536))+aj (z*256))+w):=by rw[aI (n:=x*16777216) (by omega) (by omega),aI (n:=y*65536) (by omega) (by omega),aI (n:=z*256) (by omega) (by omega),aI (n:=x*16777216+y*65536) (by omega) (by omega),aI (n:=x*16777216+y*65536+z*256) (by omega) (by omega),aI (by omega) (by omega)];omega
theorem iH {c:xT}(h:RW c){n:Int}(hn:0<n)(hn2:n<=9223372036854775807):Dr (α:=Int) (ax F0 c n) fun v=>0<=v/\v<n:=by
 by_cases aMF:n<=256
 ·obtain⟨v,c',e,h1,h2,h3⟩:=apD h hn aMF;exact⟨_,e,⟨h1,h2⟩,h3⟩
 ·unfold Dr;rw[Sk];refine Gd.br0 (aQ (by omega)) (Gd.br0 (aQ aMF) ?_);refine Dr.bind (alT h) fun x hx cx=>Dr.bind (alT cx) fun y hy cy=>Dr.bind (alT cy) fun z hz cz=>Dr.bind (alT cz) fun w hw cw=>Gd.ck ?_ (Gd.ret ⟨?_,cw⟩)
  ·rw[cj.2 (show n≠0 by omega)];rfl
  ·exact avT (aIF hx.1 hx.2 hy.1 hy.2 hz.1 hz.2 hw.1 hw.2) hn
theorem alU {c:xT}(h:RW c){n:Int}(hn:0<n)(hn2:n<=256):Dr (α:=Bool) (nO F0 c n) fun _=>True:=by obtain⟨v,c',e,h3⟩:=aIC h hn hn2;exact⟨_,e,trivial,h3⟩
theorem abT {c:xT}(h:RW c){l:List Int}(hn:0<l.length)(hn2:l.length<=256):Dr (α:=Int) (j4 F0 c l) fun v=>v∈l:=by obtain⟨v,c',e,h1,h3⟩:=aAQ h hn hn2;exact⟨_,e,h1,h3⟩
theorem aKD {code:List Int}(h:code.length<=1048576):Gd (Jm F0 code) fun z=>RW z.1.1:=by obtain⟨c,e,hc⟩:=aKC h;exact⟨_,e,hc⟩
theorem aMG {x y z w:Int}(x0:0<=x)(x1:x<4)(y0:0<=y)(y1:y<4)(z0:z∈[(0:Int),5,60,100,1000])(w0:0<=w)(w1:w<3):gQ (x,y,z,w)=true:=by simp only[gS,List.not_mem_nil,or_false]at z0;simp only[gQ,inB,aJ,cD];rcases z0 with rfl|rfl|rfl|rfl|rfl<;>omega
theorem atb {c:xT}(h:RW c):Dr (α:=eO) (mO F0 c) fun v=>gQ v=true:=by
 unfold Dr;rw[Yo];refine Dr.bind (iH h (n:=4) (by omega) (by omega)) fun x hx cx=>Dr.bind (iH cx (n:=4) (by omega) (by omega)) fun y hy cy=>Dr.bind (abT cy (l:=[0,5,60,100,1000]) (by decide) (by decide)) fun z hz cz=>Dr.bind (iH cz (n:=3) (by omega) (by omega)) fun w hw cw=>Gd.ret ⟨?_,cw⟩
 exact aMG hx.1 hx.2 hy.1 hy.2 hz hw.1 hw.2
theorem atc {up:List UInt8}{view:Int}(hv:I64 view)(l:List eO):(RY up view l).length<=up.length+23+91*l.length:=by
 unfold RY;split
 ·rename_i h;exact abS up hv h.1
 ·exact aX _
theorem apF {l h n:Int}(h0:0<=l)(h1:l<=h)(h2:h<=n):Si l h n=true:=by simp[Si,h0,h1,h2]
theorem apG (l:List UInt8):∀(k:Nat),k<=l.length->(gW l k=0/\∀j,j<k->l.getD j 0≠47)\/(0<gW l k/\gW l k<=k/\l.getD (gW l k-1) 0=47/\∀j,gW l k<=j->j<k->l.getD j 0≠47)
 |0,_=>.inl ⟨rfl,fun j h=>absurd h (Sb _)⟩
 |k+1,hk=>by
  have aJG:∀b:UInt8,((b.toNat:Int) != 47)=true↔b≠47:=by
   intro b;rw[D0];constructor
   ·rintro h rfl;exact h rfl
   ·intro h h2;refine h (UInt8.toNat_inj.1 ?_);show b.toNat=47;omega
  unfold gW;split
  ·rename_i h;rw[aJG]at h;rcases apG l k (by omega) with ⟨h1,h2⟩|⟨h1,h2,h3,h4⟩
   ·refine .inl ⟨h1,fun j hj=>?_⟩;by_cases e:j=k
    ·rw[e];exact h
    ·exact h2 j (by omega)
   ·refine .inr ⟨h1,by omega,h3,fun j hj1 hj2=>?_⟩;by_cases e:j=k
    ·rw[e];exact h
    ·exact h4 j hj1 (by omega)
  ·rename_i h;rw[aJG]at h;refine .inr ⟨afn _,cp _,aww fun hn=>h hn,fun j h1 h2=>by omega⟩
theorem aGM {l:List UInt8}(h:cq l=true)(h0:l≠[]):∃t,(47:UInt8) ∉ t/\l=upL l++47::t:=by
 have hp:0<gW l l.length:=by obtain⟨t,rfl⟩:=apr h h0;exact ahr _ (afn _)
 rcases apG l l.length (cp _) with ⟨h1,_⟩|⟨_,h2,h3,h4⟩
 ·omega
 ·have hlt:gW l l.length-1<l.length:=by omega
  have hu:upL l=l.take (gW l l.length-1):=by unfold upL;rw[ak h]
  refine⟨l.drop (gW l l.length),fun hm=>?_,?_⟩
  ·obtain⟨j,hj,e⟩:=ahS hm;rw[List.getElem_drop]at e;rw[bz]at hj;refine h4 (gW l l.length+j) (by omega) (by omega) ?_;rw[Un,oY (by omega)];exact e
  ·rw[hu]
   conv=>lhs;rw[<-awy (gW l l.length-1) l]
   congr 1
   rw[YM hlt];rw[Un,oY hlt]at h3;rw[show l[gW l l.length-1]=47 from h3,show gW l l.length-1+1=gW l l.length by omega]
theorem aGN {l:List UInt8}(h:cq l=true):cq (upL l)=true:=by
 by_cases h0:l=[]
 ·subst h0;rfl
 ·obtain⟨t,ht,e⟩:=aGM h h0;exact(aAR ht (e▸h)).1
theorem ahw (c:UInt8):∀l:List UInt8,l.length+1=((parts c l).map fun p=>p.length+1).sum
 |[]=>rfl
 |x::l=>by
  have ih:=ahw c l;rw[RX];split
  ·rw[uh,Ur,<-ih,bg,bB];omega
  ·have hne:=E2 c l;cases hp:parts c l with
   |nil=>exact absurd hp hne
   |cons p ps =>
    rw[hp]at ih;rw[uh,Ur]at ih ⊢;rw[bg,bg];omega
theorem aAS {α:Type}{f:α->Nat}{b:Nat}:∀{l:List α},(∀x∈l,f x<=b)->(l.map f).sum<=b*l.length
 |[],_=>aX _
 |x::l,h=>by
  have h1:=h x OD;have h2:=aAS fun y hy=>h y (tI x hy)
  rw[uh,Ur,bg,Nat.mul_succ];omega
theorem ahx {σ β:Type}{f:σ->List UInt8->Option (σ×β)}{Q:List UInt8->Prop}(hQ:∀s p s' b,f s p=some (s',b)->Q p):∀{P:List (List UInt8)} {s:σ} {r:List β},AH f s P=some r->∀p∈P,Q p
 |[],_,_,_,p,hp=>by cases hp
 |q::P,s,r,h,p,hp=>by
  unfold AH at h;cases hf:f s q with
  |none=>rw[hf]at h;cases h
  |some y =>
   obtain⟨s',b⟩:=y;rw[hf]at h;dsimp only at h;cases hr:AH f s' P with
   |none=>rw[hr]at h;cases h
   |some r' =>
    rcases gS.1 hp with rfl|hp
    ·exact hQ _ _ _ _ hf
    ·exact ahx hQ hr p hp
theorem aIG {l:List UInt8}(h:(YH l).2=true):l.length<=90:=by
 unfold YH at h;split at h
 ·rename_i hc;rw[<-hc.2];exact ao8 hc.1
 ·cases h
theorem aGO {l:List UInt8}(h:(l5 l).2=true):l.length<=91*(l5 l).1.length:=by
 unfold l5 at h ⊢;split at h
 ·rename_i h0;rw[ak h0,h0];exact cp _
 ·rename_i h0;rw[ah h0];cases hr:AH txF () (parts 44 l) with
  |none=>rw[hr]at h;cases h
  |some r =>
   have hl:=QH hr;have hs:=ahw 44 l;have:=aAS (f:=fun p:List UInt8=>p.length+1) (b:=91) (l:=parts 44 l) (ahx (f:=txF) (Q:=fun p=>p.length+1<=91) (fun s p s' b hf=>by
    unfold txF at hf;split at hf
    ·rename_i hc;have:=aIG hc;omega
    ·cases hf) hr)
   dsimp only;omega
theorem aIH {l:List UInt8}(h:(gh l).2=true):l.length<=6:=by
 unfold gh at h;split at h
 ·cases h
 ·rename_i hc;omega
theorem aKE (l:List UInt8)(c:UInt8):l.length<=(l.takeWhile (· != c)).length+((l.dropWhile (· != c)).drop 1).length+1:=by have h:=AT List.length (List.takeWhile_append_dropWhile (p:=(· != c)) (l:=l));rw[aT]at h;rw[bz];omega
theorem aGP {Jt:Int}{p:List UInt8}{s':Int}{b:aao}(h:E3 Jt p=some (s',b)):p.length<=189:=by
 unfold E3 at h;split at h
 ·rename_i hc;have h1:=aIH hc.2.1;have h2:=aGO hc.2.2.1;have h3:=hc.2.2.2.2.2;have h4:=aKE p 124;unfold fq at h1 h2 h3;dsimp only at h1 h2 h3;omega
 ·cases h
theorem aII {l:List UInt8}(h:cq l=true):l.length<=5700:=by
 by_cases h0:l=[]
 ·rw[h0];exact aX _
 unfold cq cC at h;rw[ah h0]at h;have hs:=ahw 47 l;cases hp:parts 47 l with
 |nil=>rw[hp]at h;cases h
 |cons p0 ps =>
  rw[hp]at h hs;dsimp only at h;split at h
  ·cases h
  ·rename_i hc;have h00:p0=[]:=aww fun hn=>hc (.inl hn)
   have hl:¬30<ps.length:=fun hn=>hc (.inr hn)
   cases hr:AH E3 0 ps with
   |none=>rw[hr]at h;cases h
   |some r =>
    have:=aAS (f:=fun p:List UInt8=>p.length+1) (b:=190) (l:=ps) (ahx (f:=E3) (Q:=fun p=>p.length+1<=190) (fun s p s' b hf=>by have:=aGP hf;omega) hr);rw[uh,Ur,h00,bB]at hs;omega
def YJ:Nat->Int->List Int
 |0,v=>[v]
 |k+1,v=>if v<128 then [v] else (v%128+128)::YJ k (v/128)
def aG (v:Int):List Int:=if 0<=v/\v<=2147483647 then YJ 4 v else []
theorem apH:∀(k:Nat) (v:Int),1<=(YJ k v).length/\(YJ k v).length<=k+1
 |0,v=>⟨cp _,cp _⟩
 |k+1,v=>by
  unfold YJ;have:=apH k (v/128);split
  ·exact⟨cp _,by rw[ew];omega⟩
  ·rw[bg];omega
theorem apI:∀(k:Nat) (v:Int),0<=v->v<128 ^ (k+1)->∀x∈YJ k v,0<=x/\x<=255
 |0,v,h0,h1,x,hx=>by rw[ml.1 hx];have:(128:Int) ^ (0+1)=128:=rfl;omega
 |k+1,v,h0,h1,x,hx=>by
  unfold YJ at hx;split at hx
  ·rw[ml.1 hx];omega
  ·rcases gS.1 hx with rfl|hx
   ·omega
   ·refine apI k (v/128) (by omega) ?_ x hx;have e:(128:Int) ^ (k+1+1)=128 ^ (k+1)*128:=Sc _ _;omega
theorem cH (v:Int):(aG v).length<=5:=by
 unfold aG;split
 ·exact(apH 4 v).2
 ·exact aX _
theorem gl (v:Int):∀x∈aG v,0<=x/\x<=255:=by
 unfold aG;split
 ·rename_i h;have h5:(128:Int) ^ (4+1)=34359738368:=by decide
  exact apI 4 v h.1 (by omega)
 ·intro x hx;cases hx
theorem ayk:∀(j k:Nat) (v n:Int) (rest:List Int),j+k=4->0<=v->v<128 ^ (j+1)->(k≠0->v≠0)->0<=n->n+v*128 ^ k<=2147483647->Uj (j+1) (YJ j v++rest) k n=some (n+v*128 ^ k,k+(YJ j v).length)
 |0,k,v,n,rest,hjk,h0,h1,hz,hn,hm=>by have e1:(128:Int) ^ (0+1)=128:=rfl;unfold YJ Uj;rw[List.singleton_append];dsimp only;rw[ak (by omega),ah (fun h=>h.elim (fun h=>hz h.1 h.2) (fun h=>by omega))];rfl
 |j+1,k,v,n,rest,hjk,h0,h1,hz,hn,hm=>by
  unfold YJ;have hp:=RQ (k:=k) (by omega);have ek:(128:Int) ^ (k+1)=128 ^ k*128:=Sc _ _;have ej:(128:Int) ^ (j+1+1)=128 ^ (j+1)*128:=Sc _ _;split
  ·rename_i hv;unfold Uj;rw[List.singleton_append];dsimp only;rw[ak hv,ah (fun h=>h.elim (fun h=>hz h.1 h.2) (fun h=>by omega))];rfl
  ·rename_i hv;unfold Uj;rw[F5];dsimp only;have hr:0<=v%128/\v%128<128:=⟨al3 _ (by omega),al2 _ (by omega)⟩;rw[ah (by omega),show(v%128+128)%128=v%128 by omega];have aGQ:v*128 ^ k=v%128*128 ^ k+v/128*128 ^ (k+1):=by
    rw[ek];have:v=v%128+128*(v/128):=(Int.emod_add_mul_ediv v 128).symm;generalize (128:Int) ^ k=P at *
    calc v*P=(v%128+128*(v/128))*P:=by rw[<-this]
     _=v%128*P+v/128*(P*128):=by rw[Int.add_mul,Int.mul_comm 128,Int.mul_assoc,Int.mul_comm 128]
   have hq:=aps (d:=v%128) (P:=128 ^ k) hr.1 (by omega) hp.1;have:=ayk j (k+1) (v/128) (n+v%128*128 ^ k) rest (by omega) (by omega) (by omega) (fun _=>by omega) (by omega) (by rw[Int.add_assoc,<-aGQ];exact hm);rw[this,Int.add_assoc,<-aGQ,bg]
   congr 2
   omega
theorem ayl {pre rest:List Int}{v:Int}(h0:0<=v)(h1:v<=2147483647):tY (pre++(aG v++rest)) pre.length=some (v,pre.length+(aG v).length):=by
 have h5:(128:Int) ^ (4+1)=34359738368:=by decide
 unfold tY aG;rw[List.drop_left,ak ⟨h0,h1⟩,ayk 4 0 v 0 rest rfl h0 (by omega) (fun h=>absurd rfl h) (Sd _) (by have:(128:Int) ^ 0=1:=rfl;omega)];have:(128:Int) ^ 0=1:=rfl;dsimp only;rw[this,Int.mul_one,Int.zero_add,xf]
def ko (s:ByteArray):List Int:=aG (s.size:Int)++bytesOf s
theorem W8 (s:ByteArray):(bytesOf s).length=s.size:=by unfold bytesOf;rw[ug];rfl
theorem arK (s:ByteArray):∀x∈bytesOf s,0<=x/\x<=255:=by intro x hx;obtain⟨b,_,rfl⟩:=Lt.1 hx;have:=UInt8.toNat_lt b;omega
theorem aEo (s:ByteArray):strOf (bytesOf s)=s:=by
 unfold strOf bytesOf;rw[List.map_map];have:(s.data.toList.map ((fun n:Int=>UInt8.ofNat n.toNat)∘fun b:UInt8=>(b.toNat:Int)))=s.data.toList:=by
  rw[List.map_congr_left (g:=id)]
  ·exact List.map_id _
  ·intro b _;show UInt8.ofNat ((b.toNat:Int).toNat)=b;rw[mm];exact UInt8.ofNat_toNat
 rw[this]
theorem aGR {pre rest:List Int}{s:ByteArray}(h:s.size<=1048576):abL (pre++(ko s++rest)) pre.length=some (s,pre.length+(ko s).length):=by
 have hl:=W8 s;unfold abL ko;rw[jZ,ayl (by omega) (by omega)];dsimp only;rw[ah ?_]
 ·congr 1
  refine Bk ?_ ?_
  ·show strOf _=s;have e:((pre++(aG (s.size:Int)++(bytesOf s++rest))).take (pre.length+(aG (s.size:Int)).length+((s.size:Int)).toNat)).drop (pre.length+(aG (s.size:Int)).length)=bytesOf s:=by rw[mm,<-jZ,<-jZ,<-aT,<-hl,<-aT,List.take_left,List.drop_left]
   rw[e,aEo]
  ·show _=pre.length+(aG _++bytesOf s).length;rw[aT,hl,mm,Up]
 ·rw[aT,aT,aT,hl];omega
theorem nH {pre rest:List Int}{v:Int}(h0:0<=v)(h1:v<=2147483647):aW (pre++(aG v++rest)) (pre.length,true)=(v,(pre++aG v).length,true):=by unfold aW;rw[ayl h0 h1,aT];rfl
theorem abU {pre rest:List Int}{s:ByteArray}(h:s.size<=1048576):dM (pre++(ko s++rest)) (pre.length,true)=(s,(pre++ko s).length,true):=by unfold dM;rw[aGR h,aT];rfl
def jN (l:List Int):List Int:=l.flatMap aG
def ajj (v:Int):Prop:=0<=v/\v<=2147483647
theorem apJ:∀(l pre rest xs:List Int) (f:Nat) (i n:Int),(∀x∈l,ajj x)->n=i+l.length->l.length<f->kC (pre++(jN l++rest)) n f i (pre.length,true) xs=(xs++l,(pre++jN l).length,true)
 |[],pre,rest,xs,f+1,i,n,_,hn,_=>by unfold kC;rw[ah (fun h=>by have:=h.1;simp at hn;omega)];simp[jN]
 |x::l,pre,rest,xs,f+1,i,n,hl,hn,hf=>by
  have hx:=hl x OD;unfold kC;rw[bg]at hn hf;rw[ak ⟨by omega,rfl⟩];have e:pre++(jN (x::l)++rest)=pre++(aG x++(jN l++rest)):=by simp[jN]
  rw[e,nH hx.1 hx.2];dsimp only;have e2:pre++(aG x++(jN l++rest))=(pre++aG x)++(jN l++rest):=by simp
  rw[e2,apJ l (pre++aG x) rest (xs++[x]) f (i+1) n (fun y hy=>hl y (tI _ hy)) (by omega) (by omega)];simp[jN]
def AJ (l:List Int):List Int:=aG (l.length:Int)++jN l
theorem apK (k:Nat)(v:Int):1<=(YJ k v).length:=(apH k v).1
theorem ahy:∀{l:List Int},(∀x∈l,ajj x)->l.length<=(jN l).length/\(jN l).length<=5*l.length
 |[],_=>⟨cp _,cp _⟩
 |x::l,h=>by
  have hx:=h x OD;have ih:=ahy fun y hy=>h y (tI _ hy)
  have h1:1<=(aG x).length/\(aG x).length<=5:=by refine⟨?_,cH x⟩;unfold aG;rw[ak (show 0<=x/\x<=2147483647 from hx)];exact apK 4 x
  have e:jN (x::l)=aG x++jN l:=rfl;rw[e,aT,bg];omega
theorem atd {pre rest l:List Int}(hl:∀x∈l,ajj x)(h:l.length<=1048576):Bi (pre++(AJ l++rest)) (pre.length,true)=(l,(pre++AJ l).length,true):=by
 unfold Bi AJ;rw[jZ,nH (by omega) (by omega)];dsimp only;have e:pre++(aG (l.length:Int)++(jN l++rest))=(pre++aG (l.length:Int))++(jN l++rest):=by simp
 have:=ahy hl;rw[e,apJ l (pre++aG (l.length:Int)) rest [] _ 0 _ hl (by omega) (by simp only[aT];omega)];simp
def tZ (q:dp):List Int:=aG q.1++(ko q.2.1++AJ q.2.2)
structure aIJ (q:dp):Prop where
 v:ajj q.1
 n:q.2.1.size<=1048576
 w:q.2.2.length<=1048576
 m:∀x∈q.2.2,ajj x
theorem aym {pre rest:List Int}{q:dp}(h:aIJ q):xS (pre++(tZ q++rest)) (pre.length,true)=(q,(pre++tZ q).length,true):=by
 unfold xS tZ;have e1:pre++(aG q.1++(ko q.2.1++AJ q.2.2)++rest)=pre++(aG q.1++(ko q.2.1++(AJ q.2.2++rest))):=by simp
 have e2:pre++(aG q.1++(ko q.2.1++(AJ q.2.2++rest)))=(pre++aG q.1)++(ko q.2.1++(AJ q.2.2++rest)):=by simp
 have e3:pre++(aG q.1++(ko q.2.1++(AJ q.2.2++rest)))=(pre++aG q.1++ko q.2.1)++(AJ q.2.2++rest):=by simp
 have h1:aW (pre++(aG q.1++(ko q.2.1++(AJ q.2.2++rest)))) (pre.length,true)=(q.1,(pre++aG q.1).length,true):=nH h.v.1 h.v.2;have h2:dM (pre++(aG q.1++(ko q.2.1++(AJ q.2.2++rest)))) ((pre++aG q.1).length,true)=(q.2.1,(pre++aG q.1++ko q.2.1).length,true):=by rw[e2];exact abU h.n
 have h3:Bi (pre++(aG q.1++(ko q.2.1++(AJ q.2.2++rest)))) ((pre++aG q.1++ko q.2.1).length,true)=(q.2.2,(pre++aG q.1++ko q.2.1++AJ q.2.2).length,true):=by rw[e3];exact atd h.m h.w
 rw[e1,h1];dsimp only;rw[h2];dsimp only;rw[h3];simp
theorem aC4 {a b:ByteArray}(h:(a.toList==b.toList)=true):a=b:=by have:=WR a.data.toList b.data.toList;rw[<-aim,<-aim,h]at this;rw[aim a,aim b,uf this.symm]
theorem XU {a b:dp}(h:jh a b=true):a=b:=by simp only[jh,aJ,bC,cD]at h;exact Bk h.1 (Bk (aC4 (bC.2 h.2.1)) h.2.2)
theorem aEp {a b:eO}(h:ahq a b=true):a=b:=by simp only[ahq,aJ,bC]at h;exact Bk h.1 (Bk h.2.1 (Bk h.2.2.1 h.2.2.2.1))
theorem avV {a b:dr}(h:pW a b=true):a=b:=by simp only[pW,aJ]at h;exact Bk (aC4 h.1) (XU h.2)
theorem abV {a b:da}(h:tC a b=true):a=b:=by simp only[tC,aJ]at h;obtain⟨h1,h2,h3,h4,h5,h6,h7⟩:=h;exact Bk (bC.1 h1) (Bk (bC.1 h2) (Bk (avV h3) (Bk (XU h4) (Bk (XU h5) (Bk (bC.1 h6) (aEp h7))))))
theorem XV {n:Int}{s:List Int}(h:nB n s=true):∀x∈s,0<=x/\x<n:=by intro x hx;obtain⟨k,hk,rfl⟩:=ahS hx;have:=iJ.1 h k (jC.2 hk);rw[Un,oY hk]at this;simp only[aJ,cD]at this;exact⟨this.1,this.2.1⟩
theorem aAT {n:Int}{s:List Int}(h:nB n s=true){k:Nat}(hk:k+1<s.length):s[k]<s[k+1]:=by
 have:=iJ.1 h (k+1) (jC.2 hk);rw[show k+1-1=k from rfl,Un,Un,oY hk,oY (by omega)]at this;simp only[aJ,mn,cD]at this;rcases this.2.2 with h1|h1
 ·omega
 ·exact h1
theorem ayn {n:Int}{s:List Int}(h:nB n s=true):∀(k:Nat) (hk:k<s.length),(k:Int)<=s[k]
 |0,hk=>(XV h _ (di hk)).1
 |k+1,hk=>by have h1:=ayn h k (by omega);have h2:=aAT h hk;omega
theorem ahz {n:Int}{s:List Int}(h:nB n s=true):(s.length:Int)<=max n 0:=by
 rcases ar4 s.length with h0|h0
 ·omega
 ·have h1:=ayn h (s.length-1) (by omega);have h2:=(XV h s[s.length-1] (di _)).2;omega
theorem tH {b:ByteArray}(h:cq b.data.toList=true):b.size<=5700:=aII h
theorem abW {c:Int×Int}{q:dp}(h:fM c q=true):bO c=true/\cq q.2.1.data.toList=true/\bA q.2.1.data.toList=q.1/\(q.2.1.data.toList=[]->q.2.2=[])/\(q.2.1.data.toList≠[]->nB c.1 q.2.2=true/\(q.2.2.length:Int)>=KX c):=by
 unfold fM YI at h;simp only[aJ,cD]at h;obtain⟨h1,h2,h3,h4⟩:=h;refine⟨h1,h2,h3,fun h0=>?_,fun h0=>?_⟩
 ·rw[ak h0]at h4;exact uf h4
 ·rw[ah h0]at h4;simp only[aJ,cD]at h4;exact h4
theorem aat {v:Int}(h0:0<=v)(h1:v<=1000000):ajj v:=⟨h0,by omega⟩
theorem wH {c:Int×Int}{q:dp}(h:fM c q=true):aIJ q/\q.2.2.length<=7/\q.2.1.size<=5700:=by
 obtain⟨h1,h2,h3,h4,h5⟩:=abW h;have hn:=cP h1;have hs:=tH h2;have hv:=QI q.2.1.data.toList;by_cases h0:q.2.1.data.toList=[]
 ·have hw:=h4 h0;refine⟨⟨aat (by omega) (by omega),by omega,by rw[hw];exact aX _,fun x hx=>by rw[hw]at hx;cases hx⟩,by rw[hw];exact aX _,hs⟩
 ·obtain⟨hw,_⟩:=h5 h0;have hl:=ahz hw;refine⟨⟨aat (by omega) (by omega),by omega,by omega,fun x hx=>?_⟩,by omega,hs⟩;have:=XV hw x hx;exact aat (by omega) (by omega)
theorem Li (b:ByteArray):ec b=true↔b.data.toList=[]:=by unfold ec;have:=WR b.data.toList [];rw[<-aim,show tx []=al from rfl]at this;rw[this,cD]
theorem aeR {c:Int×Int}{p:dp}(h:jg c p=true):bO c=true/\1<=p.1/\p.1<=60/\nB c.1 p.2.2=true/\p.2.2≠[]/\cq p.2.1.data.toList=true/\(p.2.1.data.toList≠[]->bA p.2.1.data.toList=p.1):=by
 unfold jg at h;simp only[aJ,mn,iG,cD,afl,bC,cj]at h;obtain⟨h1,⟨h2,h3⟩,h4,h5,h6⟩:=h;refine⟨h1,h2,h3,h4,fun e=>h5 (by rw[e];rfl),?_,fun h0=>?_⟩
 ·rcases h6 with h6|h6
  ·rw[(Li _).1 h6];exact apl
  ·exact h6.1
 ·rcases h6 with h6|h6
  ·exact absurd ((Li _).1 h6) h0
  ·exact h6.2
theorem XW {c:Int×Int}{q:dp}(h:jg c q=true):aIJ q/\q.2.2.length<=7/\q.2.1.size<=5700:=by obtain⟨h1,h2,h3,h4,_,h5,_⟩:=aeR h;have hn:=cP h1;have hs:=tH h5;have hl:=ahz h4;refine⟨⟨aat (by omega) (by omega),by omega,by omega,fun x hx=>?_⟩,by omega,hs⟩;have:=XV h4 x hx;exact aat (by omega) (by omega)
def ID (m:da):List Int :=
 aG m.1++(if m.1=1 then ko m.2.2.1.1++tZ m.2.2.1.2 else if m.1=2 then tZ m.2.2.2.1 else if m.1=3 then aG m.2.1++(aG m.2.2.2.2.2.1++tZ m.2.2.2.2.1)
  else aG m.2.2.2.2.2.2.1++(aG m.2.2.2.2.2.2.2.1++(aG m.2.2.2.2.2.2.2.2.1++aG m.2.2.2.2.2.2.2.2.2)))
theorem alV {v:Int}(h:ajj v)(rest:List Int):jn (aG v++rest)=(v,(aG v).length,true):=by have:=nH (pre:=[]) (rest:=rest) h.1 h.2;exact this
theorem aGS {c:Int×Int}{m:da}(h:eh c m=true):aeO (ID m)=(m,(ID m).length,true):=by
 unfold eh at h;simp only[aJ]at h;obtain⟨hc,hs,hk⟩:=h;have hn:=abV hs;obtain⟨aKF,view,⟨bn,bq⟩,part,qc,dk,tx⟩:=m;dsimp only at hk hn ⊢;by_cases k1:aKF=1
 ·subst k1;rw[ak (by rfl)]at hk;simp only[gC,aJ]at hk;have hq:=(wH hk.1).1;have hb:=tH hk.2.1;have e:ID (1,view,(bn,bq),part,qc,dk,tx)=aG 1++(ko bn++(tZ bq++[])):=by simp[ID]
  have e2:aG 1++(ko bn++(tZ bq++[]))=(aG 1++ko bn)++(tZ bq++[]):=by simp
  have r0:=alV (v:=1) (aat (by decide) (by decide)) (ko bn++(tZ bq++[]));have r1:dM (aG 1++(ko bn++(tZ bq++[]))) ((aG 1).length,true)=(bn,(aG 1++ko bn).length,true):=abU (by omega);have r2:xS (aG 1++(ko bn++(tZ bq++[]))) ((aG 1++ko bn).length,true)=(bq,(aG 1++ko bn++tZ bq).length,true):=by rw[e2];exact aym hq
  rw[e];unfold aeO aIx;rw[r0];dsimp only;rw[ak (by rfl),r1];dsimp only;rw[r2];rw[<-hn];simp[named]
 ·by_cases k2:aKF=2
  ·subst k2;rw[ah (by decide),ak (by rfl)]at hk;simp only[aJ]at hk;have hq:=(XW hk.1).1;obtain⟨pv,pn,pw⟩:=part;have e:ID (2,view,(bn,bq),(pv,pn,pw),qc,dk,tx)=aG 2++(aG pv++(ko pn++(AJ pw++[]))):=by simp[ID,tZ]
   have e2:aG 2++(aG pv++(ko pn++(AJ pw++[])))=(aG 2++aG pv)++(ko pn++(AJ pw++[])):=by simp
   have e3:aG 2++(aG pv++(ko pn++(AJ pw++[])))=(aG 2++aG pv++ko pn)++(AJ pw++[]):=by simp
   have r0:=alV (v:=2) (aat (by decide) (by decide)) (aG pv++(ko pn++(AJ pw++[])));have r1:aW (aG 2++(aG pv++(ko pn++(AJ pw++[])))) ((aG 2).length,true)=(pv,(aG 2++aG pv).length,true):=nH hq.v.1 hq.v.2;have r2:dM (aG 2++(aG pv++(ko pn++(AJ pw++[])))) ((aG 2++aG pv).length,true)=(pn,(aG 2++aG pv++ko pn).length,true):=by rw[e2];exact abU hq.n
   have r3:Bi (aG 2++(aG pv++(ko pn++(AJ pw++[])))) ((aG 2++aG pv++ko pn).length,true)=(pw,(aG 2++aG pv++ko pn++AJ pw).length,true):=by rw[e3];exact atd hq.m hq.w
   rw[e];unfold aeO aIy;rw[r0];dsimp only;rw[ah (by decide),ak (by rfl),r1];dsimp only;rw[r2];dsimp only;rw[r3];rw[<-hn];simp[named]
  ·by_cases k3:aKF=3
   ·subst k3;rw[ah (by decide),ah (by decide),ak (by rfl)]at hk;simp only[aJ,iG,cD]at hk;obtain⟨⟨v0,v1⟩,hq,⟨w0,w1⟩⟩:=hk;have hcn:=cP hc;rw[WY hcn.1 hcn.2.1]at w1;have hq:=(wH hq).1;have hw:ajj dk:=aat w0 (by omega);have e:ID (3,view,(bn,bq),part,qc,dk,tx)=aG 3++(aG view++(aG dk++(tZ qc++[]))):=by simp[ID]
    have e2:aG 3++(aG view++(aG dk++(tZ qc++[])))=(aG 3++aG view)++(aG dk++(tZ qc++[])):=by simp
    have e3:aG 3++(aG view++(aG dk++(tZ qc++[])))=(aG 3++aG view++aG dk)++(tZ qc++[]):=by simp
    have r0:=alV (v:=3) (aat (by decide) (by decide)) (aG view++(aG dk++(tZ qc++[])));have r1:aW (aG 3++(aG view++(aG dk++(tZ qc++[])))) ((aG 3).length,true)=(view,(aG 3++aG view).length,true):=nH (by omega) (by omega);have r2:aW (aG 3++(aG view++(aG dk++(tZ qc++[])))) ((aG 3++aG view).length,true)=(dk,(aG 3++aG view++aG dk).length,true):=by rw[e2];exact nH hw.1 hw.2
    have r3:xS (aG 3++(aG view++(aG dk++(tZ qc++[])))) ((aG 3++aG view++aG dk).length,true)=(qc,(aG 3++aG view++aG dk++tZ qc).length,true):=by rw[e3];exact aym hq
    rw[e];unfold aeO aIz;rw[r0];dsimp only;rw[ah (by decide),ah (by decide),ak (by rfl),r1];dsimp only;rw[r2];dsimp only;rw[r3];rw[<-hn];simp[named]
   ·rw[ah (by simpa using k1),ah (by simpa using k2),ah (by simpa using k3)]at hk;simp only[aJ,bC]at hk;obtain⟨k4,hx⟩:=hk;subst k4;obtain⟨t1,t2,t3,t4⟩:=tx;obtain⟨⟨a0,a1⟩,⟨b0,b1⟩,⟨c0,c1⟩,⟨d0,d1⟩⟩:=nA hx;dsimp only at a0 a1 b0 b1 c0 c1 d0 d1;have e:ID (4,view,(bn,bq),part,qc,dk,t1,t2,t3,t4)=aG 4++(aG t1++(aG t2++(aG t3++(aG t4++[])))):=by simp[ID]
    have e2:aG 4++(aG t1++(aG t2++(aG t3++(aG t4++[]))))=(aG 4++aG t1)++(aG t2++(aG t3++(aG t4++[]))):=by simp
    have e3:aG 4++(aG t1++(aG t2++(aG t3++(aG t4++[]))))=(aG 4++aG t1++aG t2)++(aG t3++(aG t4++[])):=by simp
    have e4:aG 4++(aG t1++(aG t2++(aG t3++(aG t4++[]))))=(aG 4++aG t1++aG t2++aG t3)++(aG t4++[]):=by simp
    have r0:=alV (v:=4) (aat (by decide) (by decide)) (aG t1++(aG t2++(aG t3++(aG t4++[]))));have r1:aW (aG 4++(aG t1++(aG t2++(aG t3++(aG t4++[]))))) ((aG 4).length,true)=(t1,(aG 4++aG t1).length,true):=nH a0 (by omega);have r2:aW (aG 4++(aG t1++(aG t2++(aG t3++(aG t4++[]))))) ((aG 4++aG t1).length,true)=(t2,(aG 4++aG t1++aG t2).length,true):=by rw[e2];exact nH b0 (by omega)
    have r3:aW (aG 4++(aG t1++(aG t2++(aG t3++(aG t4++[]))))) ((aG 4++aG t1++aG t2).length,true)=(t3,(aG 4++aG t1++aG t2++aG t3).length,true):=by rw[e3];exact nH c0 (by omega)
    have r4:aW (aG 4++(aG t1++(aG t2++(aG t3++(aG t4++[]))))) ((aG 4++aG t1++aG t2++aG t3).length,true)=(t4,(aG 4++aG t1++aG t2++aG t3++aG t4).length,true):=by rw[e4];exact nH d0 (by omega)
    rw[e];unfold aeO aIA;rw[r0];dsimp only;rw[ah (by decide),ah (by decide),ah (by decide),ak (by rfl),r1];dsimp only;rw[r2];dsimp only;rw[r3];dsimp only;rw[r4];rw[<-hn];simp[named]
theorem aEq {c:Int×Int}{m:da}(h:eh c m=true):tP c (ID m)=(m,true):=by unfold tP fin;rw[aGS h];dsimp only;rw[ak ⟨rfl,rfl,h⟩]
theorem fI {a b:List Int}(ha:∀x∈a,0<=x/\x<=255)(hb:∀x∈b,0<=x/\x<=255):∀x∈a++b,0<=x/\x<=255:=fun x hx=>(lX.1 hx).elim (ha x) (hb x)
theorem abX (s:ByteArray):∀x∈ko s,0<=x/\x<=255:=fI (gl _) (arK s)
theorem ayo (l:List Int):∀x∈jN l,0<=x/\x<=255:=fun x hx=>by obtain⟨y,_,h⟩:=List.mem_flatMap.1 hx;exact gl y x h
theorem RZ (q:dp):∀x∈tZ q,0<=x/\x<=255:=fI (gl _) (fI (abX _) (fI (gl _) (ayo _)))
theorem W9 (s:ByteArray):(ko s).length<=s.size+5:=by have:=cH (s.size:Int);unfold ko;rw[aT,W8];omega
theorem Xa {q:dp}(h:aIJ q):(tZ q).length<=q.2.1.size+5*q.2.2.length+15:=by have h1:=cH q.1;have h2:=W9 q.2.1;have h3:=cH (q.2.2.length:Int);have h4:=(ahy h.m).2;unfold tZ AJ;rw[aT,aT,aT];omega
theorem apL {c:Int×Int}{m:da}(h:eh c m=true):(ID m).length<=12000/\(∀x∈ID m,0<=x/\x<=255)/\1<=(ID m).length:=by
 unfold eh at h;simp only[aJ]at h;obtain⟨hc,_,hk⟩:=h;have hp:=cH m.1;have pos:m.1=1\/m.1=2\/m.1=3\/m.1=4:=by
  by_cases k1:m.1=1
  ·exact .inl k1
  ·by_cases k2:m.1=2
   ·exact .inr (.inl k2)
   ·by_cases k3:m.1=3
    ·exact .inr (.inr (.inl k3))
    ·rw[ah (by simpa using k1),ah (by simpa using k2),ah (by simpa using k3)]at hk;simp only[aJ,bC]at hk;exact .inr (.inr (.inr hk.1))
 have one:1<=(aG m.1).length:=by unfold aG;rw[ak (by omega)];exact apK 4 _
 unfold ID;refine⟨?_,fI (gl _) ?_,by rw[aT];omega⟩
 ·rw[aT];rcases pos with k|k|k|k
  ·rw[ak (by simpa using k)]at hk;simp only[gC,aJ]at hk;have hq:=wH hk.1;have hb:=tH hk.2.1;have h1:=W9 m.2.2.1.1;have h2:=Xa hq.1;rw[ak k,aT];omega
  ·rw[ah (by simp[k]),ak (by simpa using k)]at hk;simp only[aJ]at hk;have hq:=XW hk.1;have h2:=Xa hq.1;rw[ah (by omega),ak k];omega
  ·rw[ah (by simp[k]),ah (by simp[k]),ak (by simpa using k)]at hk;simp only[aJ]at hk;have hq:=wH hk.2.1;have h1:=cH m.2.1;have h3:=cH m.2.2.2.2.2.1;have h2:=Xa hq.1;rw[ah (by omega),ah (by omega),ak k,aT,aT];omega
  ·have h1:=cH m.2.2.2.2.2.2.1;have h2:=cH m.2.2.2.2.2.2.2.1;have h3:=cH m.2.2.2.2.2.2.2.2.1;have h4:=cH m.2.2.2.2.2.2.2.2.2;rw[ah (by omega),ah (by omega),ah (by omega),aT,aT,aT];omega
 ·split
  ·exact fI (abX _) (RZ _)
  ·split
   ·exact RZ _
   ·split
    ·exact fI (gl _) (fI (gl _) (RZ _))
    ·exact fI (gl _) (fI (gl _) (fI (gl _) (gl _)))
def NH (s:ct):List Int:=aG s.1++(aG s.2.1++(tZ s.2.2.1++ko s.2.2.2))
theorem gm {c:Int×Int}{s:ct}(h:cW c s=true):(0<=s.1/\s.1<=60)/\(0<=s.2.1/\s.2.1<=60)/\fM c s.2.2.1=true/\cq s.2.2.2.data.toList=true:=by simp only[cW,iG,aJ,cD]at h;exact h
theorem ahA {c:Int×Int}{s:ct}(h:cW c s=true):1<=(NH s).length/\(NH s).length<=12000:=by
 obtain⟨⟨a0,a1⟩,_,hq,hn⟩:=gm h;have hq:=wH hq;have hs:=tH hn;have h1:=cH s.1;have h2:=cH s.2.1;have h3:=Xa hq.1;have h4:=W9 s.2.2.2;have one:1<=(aG s.1).length:=by unfold aG;rw[ak (by omega)];exact apK 4 _
 unfold NH;rw[aT,aT,aT];omega
theorem ayp (s:ct):∀x∈NH s,0<=x/\x<=255:=fI (gl _) (fI (gl _) (fI (RZ _) (abX _)))
def Bj (s:ct):List Int:=aG ((NH s).length:Int)++(NH s++[10])
theorem ayq (s:ct):∀x∈Bj s,0<=x/\x<=255:=fI (gl _) (fI (ayp s) fun x hx=>by rw[ml.1 hx];omega)
theorem aEr {c:Int×Int}{s:ct}(h:cW c s=true):1<=(Bj s).length/\(Bj s).length<=12010:=by have h1:=ahA h;have h2:=cH ((NH s).length:Int);unfold Bj;rw[aT,aT,ew];omega
theorem aAU {α β γ:Type}(X:Nat->Int->List β->Option γ)(a:List α)(f:α->β)(R:Option γ)
  (hs:∀n k xs (h:k<a.length),xs.length=k->X (n+1) (k:Int) xs=X n ((k+1:Nat):Int) (xs++[f a[k]])) (he:∀n,X (n+1) (a.length:Int) (a.map f)=R) (n:Nat) (hn:a.length<n):X n 0 []=R:=by
 refine df X a.length (fun k xs=>xs=(a.take k).map f) R (fun n k xs hk h=>.inr ⟨_,hs n k xs hk (by rw[h,ug,bQ];omega),?_⟩) (fun n xs h=>?_) n 0 [] (aX _) rfl (by omega)
 ·rw[gj hk,afm,h];rfl
 ·rw[h,nN];exact he n
theorem ajk {α γ:Type}(X:Nat->Int->List α->Option γ)(a:List α)(R:Option γ)
  (hs:∀n k xs (h:k<a.length),xs.length=k->X (n+1) (k:Int) xs=X n ((k+1:Nat):Int) (xs++[a[k]])) (he:∀n,X (n+1) (a.length:Int) a=R) (n:Nat) (hn:a.length<n):X n 0 []=R :=
 aAU X a id R hs (fun n=>by rw[List.map_id];exact he n) n hn
theorem alW {α γ:Type}(X:Nat->Int->List α->Option γ)(a:List α)(p:α->Bool)(R:Option γ)
  (hs:∀n k xs (h:k<a.length),xs.length<=k->X (n+1) (k:Int) xs=X n ((k+1:Nat):Int) (if p a[k]=true then xs++[a[k]] else xs)) (he:∀n,X (n+1) (a.length:Int) (a.filter p)=R) (n:Nat) (hn:a.length<n):X n 0 []=R:=by
 refine df X a.length (fun k xs=>xs=(a.take k).filter p) R (fun n k xs hk h=>.inr ⟨_,hs n k xs hk (by rw[h];exact cN (awz _ _) (by rw[bQ];omega)),?_⟩) (fun n xs h=>?_) n 0 [] (aX _) rfl (by omega)
 ·rw[gj hk,List.filter_append,h];cases hp:p a[k]<;>simp[hp]
 ·rw[h,nN];exact he n
theorem xd {q:dp}(h:q.2.2.length<=1048576):jH F0 q=some (q,()):=by rw[anj,az (a:=0) (by omega) (by omega) (by omega),ae];rfl
theorem nV {q:dp}(h:q.2.2.length<=1048576):hU F0 q=some (q,()):=by rw[aj7,az (a:=0) (by omega) (by omega) (by omega),ae];rfl
theorem xL {q:dp}(h:q.2.2.length<=1048576):iC F0 q=some (q,()):=apj (by omega)
theorem AK {q:dp}(h:q.2.2.length<=1048576):fP F0 q=some (q,()):=by rw[agH,oS (by omega),ai]
theorem NI {s:ct}(h:nD s):n9 F0 s=some (s,()):=by rw[aj6,xd h.1.2,ai]
theorem IE {s:ct}(h:nD s):lR F0 s=some (s,()):=by rw[agG,xL h.1.2,ai]
theorem aeS {l:List dp}(h:l.length<=1048576)(hq:∀q∈l,uN q):hY F0 l=some (l,()):=by
 rw[afV];refine ajk (fun n k xs=>vh F0 (yJ F0) n (qb l k xs)) l _ (fun n k xs hk hx=>?_) (fun n=>?_) _ (by rw[bT];omega)
 ·rw[Ep,aS hk,af,av hk,ae,bp hk,nV (hq _ (di hk)).2,ai,az (by omega) (by omega) (by simp only[bg,bB];omega),ae,ao (by omega)]
 ·rw[Ep,aH,aa,Yk]
theorem aau {l:List dp}(h:l.length<=1048576)(hq:∀q∈l,uN q):fm F0 l=some (l,()):=by
 rw[adT];refine ajk (fun n k xs=>sW F0 (wW F0) n (oD l (l.length:Int) k xs)) l _ (fun n k xs hk hx=>?_) (fun n=>?_) _ (by rw[bT];omega)
 ·rw[A4,aS hk,af,av hk,ae,bp hk,AK (hq _ (di hk)).2,ai,az (by omega) (by omega) (by simp only[bg,bB];omega),ae,ao (by omega)]
 ·rw[A4,aH,aa,Wb]
theorem NJ {d:List Int×Int}(h:d.1.length<=1048576):jt F0 d=some (d,()):=by rw[aj8,az (a:=0) (by omega) (by omega) (by omega),ae];rfl
theorem IF {d:List Int×Int}(h:d.1.length<=1048576):lS F0 d=some (d,()):=by rw[agI,az (a:=0) (by omega) (by omega) (by omega),ae];rfl
theorem Xb {l:List eO}(h:l.length<=1048576):jx F0 l=some (l,()):=by rw[akW,az (a:=0) (by omega) (by omega) (by omega),ae];rfl
theorem aAV {b:dr}(h:b.2.2.2.length<=1048576):LX F0 b=some (b,()):=by rw[ank,xd h,ai]
theorem arL {b:dr}(h:b.2.2.2.length<=1048576):zU F0 b=some (b,()):=by rw[adU,xL h,ai]
theorem ajl {m:da}(h:gy m):yL F0 m=some (m,()):=by rw[aj9,aAV h.2.1.2,ai,nV h.2.2.1.2,ai,xd h.2.2.2.2,ai]
theorem ajm {m:da}(h:gy m):zV F0 m=some (m,()):=by rw[akX,arL h.2.1.2,ai,AK h.2.2.1.2,ai,xL h.2.2.2.2,ai]
theorem aeT {l:List l6}(h:l.length<=1048576)(hm:∀q∈l,gy q.2):uq F0 l=some (l,()):=by
 rw[afW];refine ajk (fun n k xs=>vl F0 (yM F0) n (qd l k xs)) l _ (fun n k xs hk hx=>?_) (fun n=>?_) _ (by rw[bT];omega)
 ·rw[Es,aS hk,af,av hk,ae,ae,bp hk,ajl (hm _ (di hk)),ai,az (by omega) (by omega) (by simp only[bg,bB];omega),ae,ao (by omega)]
 ·rw[Es,aH,aa,Yl]
theorem arM {l:List l6}(h:l.length<=1048576)(hm:∀q∈l,gy q.2):zW F0 l=some (l,()):=by
 rw[adW];refine ajk (fun n k xs=>s0 F0 (wY F0) n (oE l (l.length:Int) k xs)) l _ (fun n k xs hk hx=>?_) (fun n=>?_) _ (by rw[bT];omega)
 ·rw[A5,aS hk,af,av hk,ae,bp hk,ajm (hm _ (di hk)),ai,az (by omega) (by omega) (by simp only[bg,bB];omega),ae,ao (by omega)]
 ·rw[A5,aH,aa,Wd]
structure aEs (r:aD):Prop where
 l:arH r
 d:eH r.2.2.2.2.2.2.1.1
theorem eJ {r:aD}(h:aEs r):bj F0 r=some (r,()):=by rw[aka,NI h.l.s,ai,az (a:=0) (by omega) (by omega) (by have:=h.l.p;omega),ae,aeS h.l.t h.l.tq,ai,NJ h.d.1,ai,aeT h.l.h h.l.hm,ai];rfl
theorem eK {r:aD}(h:aEs r):aC F0 r=some (r,()):=by rw[akY,IE h.l.s,ai,Xb h.l.p,ai,aau h.l.t h.l.tq,ai,IF h.d.1,ai,arM h.l.h h.l.hm,ai]
theorem aeU {x:pB}(h:x.2.length<=1048576):uC F0 x=some (x,()):=by rw[agJ,az (a:=0) (by omega) (by omega) (by omega),ae];rfl
structure Ov (w:an):Prop where
 l:F1 w
 b:∀r∈w.2.2.1,eH r.2.2.2.2.2.2.1.1
theorem Ov.rep {w:an}(h:Ov w){r:aD}(hr:r∈w.2.2.1):aEs r:=⟨h.l.rl r hr,h.b r hr⟩
theorem lW {w:an}(h:Ov w):aR F0 w=some (w,()):=by
 have h1:=h.l.l;have h2:=h.l.r;have h3:=h.l.n;have h4:=h.l.s;rw[adY,oS (by omega),ai,az (a:=0) (by omega) (by omega) (by omega),ae];refine ajk (fun n k xs=>s6 F0 (w6 F0) n (oG w w.2.2.1 (w.2.2.1.length:Int) k 0 0 w.1.1 w.1.2 [] [] [] [] w.2.1 xs [] ([]++w.2.2.2.2))) w.2.2.1 _ (fun n k xs hk hx=>?_) (fun n=>?_) _ (by rw[bT];omega)
 ·rw[A7,aS hk,af,av hk,ae,bp hk,eK (h.rep (di hk)),ai,az (by omega) (by omega) (by simp only[bg,bB];omega),ae,ao (by omega)]
 ·rw[A7,aH,aa,Wh];refine ajk (fun n k xs=>s5 F0 (wZ F0) n (oF w.2.2.2.1 (w.2.2.2.1.length:Int) k 0 0 w.1.1 w.1.2 [] [] [] [] w.2.1 w.2.2.1 xs ([]++w.2.2.2.2))) w.2.2.2.1 _ (fun n k xs hk hx=>?_) (fun n=>?_) _ (by rw[bT];omega)
  ·rw[A6,aS hk,af,av hk,ae,bp hk,aeU (h.l.nb _ (di hk)).1,ai,az (by omega) (by omega) (by simp only[bg,bB];omega),ae,ao (by omega)]
  ·rw[A6,aH,aa,Wg];rfl
theorem ajn {w:an}(h:Ov w):yQ F0 w=some (w,()):=by
 have h1:=h.l.l;have h2:=h.l.r;have h3:=h.l.n;have h4:=h.l.s;rw[akb,az (a:=0) (by omega) (by omega) (by omega),ae,az (a:=0) (by omega) (by omega) (by omega),ae];refine ajk (fun n k xs=>yP F0 (BH F0) n (sn w k 0 0 w.1.1 w.1.2 [] [] [] [] ([]++w.2.1) xs [] ([]++w.2.2.2.2))) w.2.2.1 _ (fun n k xs hk hx=>?_) (fun n=>?_) _ (by rw[bT];omega)
 ·rw[Gj,aS hk,af,av hk,ae,bp hk,eJ (h.rep (di hk)),ai,az (by omega) (by omega) (by simp only[bg,bB];omega),ae,ao (by omega)]
 ·rw[Gj,aH,aa,aa7];refine ajk (fun n k xs=>yO F0 (BG F0) n (sk w k 0 0 w.1.1 w.1.2 [] [] [] [] ([]++w.2.1) w.2.2.1 xs ([]++w.2.2.2.2))) w.2.2.2.1 _ (fun n k xs hk hx=>?_) (fun n=>?_) _ (by rw[bT];omega)
  ·have hb:=(h.l.nb _ (di hk)).1;rw[Gi,aS hk,af,av hk,ae,ae,bp hk,az (a:=0) (by omega) (by omega) (by omega),ae,az (by omega) (by omega) (by simp only[bg,bB];omega),ae,ao (by omega)];rfl
  ·rw[Gi,aH,aa,aa6];rfl
theorem XX {n:Int}(h0:0<=n)(h1:n<=255):IntKind.wrap .u8 n=n:=by simp[IntKind.wrap,IntKind.signed,IntKind.bits];omega
theorem ayr:∀(k:Nat) (v:Int) (xs:List Int) (n:Nat),0<=v->v<128 ^ (k+1)->xs.length+k<=1000->k<n->k<=4->C2 F0 (FB F0) n (vC v xs)=some (xs++YJ k v,())
 |0,v,xs,n,h0,h1,hx,hn,hk=>by obtain⟨n,rfl⟩:∃m,n=m+1:=⟨n-1,by omega⟩;have e1:(128:Int) ^ (0+1)=128:=rfl;rw[JT,aQ (show ¬v>127 by omega),aa,Ma,az (by omega) (by omega) (by first|omega|(simp only[aT,bg,bB];omega)|(rw[bz,bQ];omega)),ae,XX h0 (by omega)];rfl
 |k+1,v,xs,n,h0,h1,hx,hn,hk=>by
  obtain⟨n,rfl⟩:∃m,n=m+1:=⟨n-1,by omega⟩;have hp:=RQ (k:=k) (by omega);have e1:(128:Int) ^ (k+1)=128 ^ k*128:=Sc _ _;have e2:(128:Int) ^ (k+1+1)=128 ^ (k+1)*128:=Sc _ _;rw[JT];unfold YJ;by_cases hv:v<128
  ·rw[aQ (show ¬v>127 by omega),aa,Ma,az (by omega) (by omega) (by first|omega|(simp only[aT,bg,bB];omega)|(rw[bz,bQ];omega)),ae,XX h0 (by omega),ak hv]
  ·rw[aM (show v>127 by omega),af,az (by omega) (by omega) (by first|omega|(simp only[aT,bg,bB];omega)|(rw[bz,bQ];omega)),ae,ar1 h0,aI (n:=v/128) (by omega) (by omega),al0 h0,
    aI (n:=v%128+128) (by omega) (by omega),XX (by omega) (by omega),ayr k (v/128) (xs++[v%128+128]) n (by omega) (by omega) (by rw[aT,ew];omega) (by omega) (by omega),ah hv,jZ]
   rfl
theorem ays:∀(k:Nat) (v:Int) (xs:List Int) (n:Nat),0<=v->v<128 ^ (k+1)->xs.length+k<=1000->k<n->k<=4->uA F0 (vW F0) n (po v xs)=some (xs++YJ k v,())
 |0,v,xs,n,h0,h1,hx,hn,hk=>by obtain⟨n,rfl⟩:∃m,n=m+1:=⟨n-1,by omega⟩;have e1:(128:Int) ^ (0+1)=128:=rfl;rw[ov,aQ (show ¬v>=128 by omega),aa,qv,az (by omega) (by omega) (by first|omega|(simp only[aT,bg,bB];omega)|(rw[bz,bQ];omega)),ae,XX h0 (by omega)];rfl
 |k+1,v,xs,n,h0,h1,hx,hn,hk=>by
  obtain⟨n,rfl⟩:∃m,n=m+1:=⟨n-1,by omega⟩;have hp:=RQ (k:=k) (by omega);have e1:(128:Int) ^ (k+1)=128 ^ k*128:=Sc _ _;have e2:(128:Int) ^ (k+1+1)=128 ^ (k+1)*128:=Sc _ _;rw[ov];unfold YJ;by_cases hv:v<128
  ·rw[aQ (show ¬v>=128 by omega),aa,qv,az (by omega) (by omega) (by first|omega|(simp only[aT,bg,bB];omega)|(rw[bz,bQ];omega)),ae,XX h0 (by omega),ak hv]
  ·rw[aM (show v>=128 by omega),af,az (by omega) (by omega) (by first|omega|(simp only[aT,bg,bB];omega)|(rw[bz,bQ];omega)),ae,ar1 h0,aI (n:=v/128) (by omega) (by omega),al0 h0,
    aI (n:=v%128+128) (by omega) (by omega),XX (by omega) (by omega),ays k (v/128) (xs++[v%128+128]) n (by omega) (by omega) (by rw[aT,ew];omega) (by omega) (by omega),ah hv,jZ]
   rfl
theorem kp (v:Int):eY F0 v=some (aG v,()):=by
 have h5:(128:Int) ^ (4+1)=34359738368:=by decide
 rw[anB,dB,ai,aeJ];unfold aG;by_cases hv:0<=v/\v<=2147483647
 ·rw[aM hv,aL,aa,ak hv,ayr 4 v [] F0.n hv.1 (by omega) (by simp) (by rw[bT];omega) (by omega)];rfl
 ·rw[aQ hv,eX,af,ah hv]
theorem nW (v:Int):fF F0 v=some (aG v,()):=by
 have h5:(128:Int) ^ (4+1)=34359738368:=by decide
 rw[V8,b9,ai,aeJ];unfold aG;by_cases hv:0<=v/\v<=2147483647
 ·rw[aM hv,aL,aa,ak hv,ays 4 v [] F0.n hv.1 (by omega) (by simp) (by rw[bT];omega) (by omega)];rfl
 ·rw[aQ hv,eX,af,ah hv]
theorem NK {s:ByteArray}(h:s.size<=1048576):og F0 s=some (ko s,()):=by have:=cH (s.size:Int);have hl:=W8 s;rw[ako,kp,ai,aM (show(s.size:Int)<=F0.mem by rw[aF6];omega),ae,az (by omega) (by omega) (by first|omega|(simp only[aT,bg,bB];omega)|(rw[bz,bQ];omega)),ae];rfl
theorem IG {s:ByteArray}(h:s.size<=1048576):oJ F0 s=some (ko s,()):=by have:=cH (s.size:Int);rw[ak4,nW,ai,aKp (by first|omega|(simp only[aT,bg,bB];omega)|(rw[bz,bQ];omega)),ae];rfl
theorem AL (l:List Int):(jN l).length<=5*l.length:=by
 induction l with
 |nil=>exact cp _
 |cons x l ih =>
  have:=cH x;show(aG x++jN l).length<=_;rw[aT,bg];omega
theorem aAW (l:List Int)(x:Int):jN (l++[x])=jN l++aG x:=by simp[jN]
theorem avW {γ:Type}(X:Nat->Int->List Int->Option γ)(l pre:List Int)(R:Option γ)(hl:l.length<=1048576)(hp:pre.length<=1048576)
  (hs:∀n k xs (h:k<l.length),xs.length<=10485760->X (n+1) (k:Int) xs=X n ((k+1:Nat):Int) (xs++aG l[k])) (he:∀n,X (n+1) (l.length:Int) (pre++jN l)=R) (n:Nat) (hn:l.length<n):X n 0 pre=R:=by
 refine df X l.length (fun k xs=>xs=pre++jN (l.take k)) R (fun n k xs hk h=>.inr ⟨_,hs n k xs hk (by have:=AL (l.take k);rw[bQ]at this;rw[h,aT];omega),?_⟩) (fun n xs h=>?_) n 0 pre (aX _) (by simp[jN]) (by omega)
 ·rw[gj hk,aAW,h,jZ]
 ·rw[h,nN];exact he n
theorem Xc {l:List Int}(h:l.length<=1048576):sI F0 l=some (jN l,()):=by
 rw[akx];refine avW (fun n k xs=>zk F0 (BR F0) n (sH l k xs)) l [] _ h (by simp) (fun n k xs hk hx=>?_) (fun n=>?_) _ (by rw[bT];omega)
 ·have:=cH l[k];rw[Gw,aS hk,af,av hk,ae,bp hk,kp,ai,az (by omega) (by omega) (by first|omega|(simp only[aT,bg,bB];omega)|(rw[bz,bQ];omega)),ae,ao (by omega)]
 ·rw[Gw,aH,aa,abh];rfl
theorem E6 {l:List Int}(h:l.length<=1048576):lA F0 l=some (jN l,()):=by
 rw[ak5];refine avW (fun n k xs=>z8 F0 (Cb F0) n (ta l (l.length:Int) k xs)) l [] _ h (by simp) (fun n k xs hk hx=>?_) (fun n=>?_) _ (by rw[bT];omega)
 ·have:=cH l[k];rw[GO,aS hk,af,av hk,ae,bp hk,nW,ai,az (by omega) (by omega) (by first|omega|(simp only[aT,bg,bB];omega)|(rw[bz,bQ];omega)),ae,ao (by omega)]
 ·rw[GO,aH,aa,abv];rfl
def qcB (c:Int×Int)(q:dp):List Int:=if fM c q=true then tZ q else []
theorem NL {s:ByteArray}(h:s.size<=1048576):(ko s).length<=1048581:=by have:=W9 s;omega
theorem Xd {q:dp}(h:uN q)(c:Int×Int):sy F0 c q=some (qcB c q,()):=by
 have h1:=cH q.1;have h2:=NL h.1;have h3:=cH (q.2.2.length:Int);have hq:=h.2;rw[akp,RN h,ai];unfold qcB;cases hc:fM c q with
 |false=>rw[eX,af,ah (by decide)]
 |true =>
  have hb:=wH hc;rw[aL,aa,ak rfl,kp,ai,NK h.1,ai,az (by omega) (by omega) (by first|omega|(simp only[aT,bg,bB];omega)|(rw[bz,bQ];omega)),ae,kp,ai,az (by omega) (by omega) (by first|omega|(simp only[aT,bg,bB];omega)|(rw[bz,bQ];omega)),ae];refine avW (fun n k xs=>y5 F0 (BL F0) n (sx k q.1 q.2.1 q.2.2 xs)) q.2.2 _ _ h.2 (by have:=W9 q.2.1;simp only[aT];omega) (fun n k xs hk hx=>?_) (fun n=>?_) _ (by rw[bT];omega)
  ·have:=cH q.2.2[k];rw[Gq,aS hk,af,av hk,ae,bp hk,kp,ai,az (by omega) (by omega) (by first|omega|(simp only[aT,bg,bB];omega)|(rw[bz,bQ];omega)),ae,ao (by omega)]
  ·rw[Gq,aH,aa,abc];simp[tZ,AJ]
theorem R2 {q:dp}(h:uN q)(c:Int×Int):te F0 c q=some (qcB c q,()):=by
 have h1:=cH q.1;have h2:=NL h.1;have h3:=cH (q.2.2.length:Int);have h4:=AL q.2.2;have hq:=h.2;rw[ak6,QK h,ai];unfold qcB;cases hc:fM c q with
 |false=>rw[eX,af,ah (by decide)]
 |true =>
  rw[aL,aa,ak rfl,nW,ai,IG h.1,ai,az (by omega) (by omega) (by first|omega|(simp only[aT,bg,bB];omega)|(rw[bz,bQ];omega)),ae,nW,ai,az (by omega) (by omega) (by first|omega|(simp only[aT,bg,bB];omega)|(rw[bz,bQ];omega)),ae,E6 h.2,ai,az (by omega) (by omega) (by first|omega|(simp only[aT,bg,bB];omega)|(rw[bz,bQ];omega)),ae];simp[tZ,AJ]
theorem ahB {c:Int×Int}{q:dp}:(qcB c q).length<=6000:=by
 unfold qcB;split
 ·rename_i h;have:=wH h;have:=Xa this.1;omega
 ·exact aX _
def ahC (c:Int×Int)(s:ct):List Int:=if cW c s=true then NH s else []
theorem arN {s:ct}(h:nD s)(c:Int×Int):y6 F0 c s=some (ahC c s,()):=by
 have h1:=cH s.1;have h2:=cH s.2.1;have h3:=ahB (c:=c) (q:=s.2.2.1);have h4:=NL h.2;rw[ado,Ck h,ai];unfold ahC;cases hc:cW c s with
 |false=>rw[eX,af,ah (by decide)]
 |true =>
  have hq:=(gm hc).2.2.1;rw[aL,aa,ak rfl,kp,ai,kp,ai,az (by omega) (by omega) (by first|omega|(simp only[aT,bg,bB];omega)|(rw[bz,bQ];omega)),ae,Xd h.1,ai,az (by omega) (by omega) (by first|omega|(simp only[aT,bg,bB];omega)|(rw[bz,bQ];omega)),ae,NK h.2,ai,az (by omega) (by omega) (by first|omega|(simp only[aT,bg,bB];omega)|(rw[bz,bQ];omega)),ae];simp[NH,qcB,hq]
theorem apM {s:ct}(h:nD s)(c:Int×Int):Ac F0 c s=some (ahC c s,()):=by
 have h1:=AL [s.1,s.2.1];have h3:=ahB (c:=c) (q:=s.2.2.1);have h4:=NL h.2;simp only[bg,bB]at h1;rw[ad1,E4 h,ai];unfold ahC;cases hc:cW c s with
 |false=>rw[eX,af,ah (by decide)]
 |true =>
  have hq:=(gm hc).2.2.1;rw[aL,aa,ak rfl,E6 (by simp),ai,R2 h.1,ai,az (by omega) (by omega) (by first|omega|(simp only[aT,bg,bB];omega)|(rw[bz,bQ];omega)),ae,IG h.2,ai,az (by omega) (by omega) (by first|omega|(simp only[aT,bg,bB];omega)|(rw[bz,bQ];omega)),ae];simp[NH,qcB,hq,jN]
def Xe (c:Int×Int)(s:ct):List Int:=if cW c s=true then Bj s else []
theorem arO {s:ct}(h:nD s)(c:Int×Int):y7 F0 c s=some (Xe c s,()):=by
 rw[adq,arN h,ai];unfold Xe ahC;cases hc:cW c s with
 |false=>rfl
 |true =>
  have hl:=ahA hc;have hp:=cH ((NH s).length:Int);simp only[ig];rw[show(((NH s).length:Int)==0)=false from cj.2 (by omega),aa,kp,ai,az (by omega) (by omega) (by first|omega|(simp only[aT,bg,bB];omega)|(rw[bz,bQ];omega)),ae,az (by omega) (by omega) (by first|omega|(simp only[aT,bg,bB];omega)|(rw[bz,bQ];omega)),ae];simp[Bj]
theorem apN {s:ct}(h:nD s)(c:Int×Int):Ad F0 c s=some (Xe c s,()):=by
 rw[ad3,apM h,ai];unfold Xe ahC;cases hc:cW c s with
 |false=>rfl
 |true =>
  have hl:=ahA hc;have hp:=cH ((NH s).length:Int);simp only[ig];rw[show(((NH s).length:Int)==0)=false from cj.2 (by omega),aa,nW,ai,az (by omega) (by omega) (by first|omega|(simp only[aT,bg,bB];omega)|(rw[bz,bQ];omega)),ae,az (by omega) (by omega) (by first|omega|(simp only[aT,bg,bB];omega)|(rw[bz,bQ];omega)),ae];simp[Bj]
def aeV (c:Int×Int)(m:da):List Int:=if eh c m=true then ID m else []
theorem apO {c:Int×Int}{m:da}(h:eh c m=true):(m.1=1/\fM c m.2.2.1.2=true)\/m.1=2\/(m.1=3/\fM c m.2.2.2.2.1=true)\/m.1=4:=by
 unfold eh at h;simp only[aJ]at h;obtain⟨hc,_,hk⟩:=h;by_cases k1:m.1=1
 ·rw[ak (by simpa using k1)]at hk;simp only[gC,aJ]at hk;exact .inl ⟨k1,hk.1⟩
 ·by_cases k2:m.1=2
  ·exact .inr (.inl k2)
  ·by_cases k3:m.1=3
   ·rw[ah (by simpa using k1),ah (by simpa using k2),ak (by simpa using k3)]at hk;simp only[aJ]at hk;exact .inr (.inr (.inl ⟨k3,hk.2.1⟩))
   ·rw[ah (by simpa using k1),ah (by simpa using k2),ah (by simpa using k3)]at hk;simp only[aJ,bC]at hk;exact .inr (.inr (.inr hk.1))
theorem avX {m:da}(h:gy m)(c:Int×Int):De F0 c m=some (aeV c m,()):=by
 rw[agn,I2 h,ai];unfold aeV;cases hc:eh c m with
 |false=>rw[eX,af,ah (by decide)]
 |true =>
  have hp:=cH m.1;rw[aL,aa,ak rfl,kp,ai];unfold ID;rcases apO hc with ⟨k,hq⟩|k|⟨k,hq⟩|k
  ·have h1:=NL h.1;have h2:=ahB (c:=c) (q:=m.2.2.1.2);rw[show(m.1==1)=true by simpa using k,af,NK h.1,ai,az (by omega) (by omega) (by first|omega|(simp only[aT,bg,bB];omega)|(rw[bz,bQ];omega)),ae,Xd h.2.1,ai,az (by omega) (by omega) (by first|omega|(simp only[aT,bg,bB];omega)|(rw[bz,bQ];omega)),ae,ak k];simp[qcB,hq]
  ·have h1:=cH m.2.2.2.1.1;have h2:=NL h.2.2.1.1;have h3:=cH (m.2.2.2.1.2.2.length:Int);have h4:=AL m.2.2.2.1.2.2;have h5:=h.2.2.1.2;rw[show(m.1==1)=false by simp[k],aa,show(m.1==2)=true by simp[k],af,kp,ai,az (by omega) (by omega) (by first|omega|(simp only[aT,bg,bB];omega)|(rw[bz,bQ];omega)),ae,NK h.2.2.1.1,ai,az (by omega) (by omega) (by first|omega|(simp only[aT,bg,bB];omega)|(rw[bz,bQ];omega)),ae,kp,ai,
    az (by omega) (by omega) (by first|omega|(simp only[aT,bg,bB];omega)|(rw[bz,bQ];omega)),ae,Xc h5,ai,az (by omega) (by omega) (by first|omega|(simp only[aT,bg,bB];omega)|(rw[bz,bQ];omega)),ae,ah (by omega),ak k]
   simp[tZ,AJ]
  ·have h1:=AL [m.2.1,m.2.2.2.2.2.1];have h2:=ahB (c:=c) (q:=m.2.2.2.2.1);simp only[bg,bB]at h1;rw[show(m.1==1)=false by simp[k],aa,show(m.1==2)=false by simp[k],aa,show(m.1==3)=true by simp[k],af,Xc (by simp),ai,az (by omega) (by omega) (by first|omega|(simp only[aT,bg,bB];omega)|(rw[bz,bQ];omega)),ae,Xd h.2.2.2,ai,az (by omega) (by omega) (by first|omega|(simp only[aT,bg,bB];omega)|(rw[bz,bQ];omega)),ae,ah (by omega),ah (by omega),ak k];simp[jN,qcB,hq]
  ·have h1:=AL [m.2.2.2.2.2.2.1,m.2.2.2.2.2.2.2.1,m.2.2.2.2.2.2.2.2.1,m.2.2.2.2.2.2.2.2.2];simp only[bg,bB]at h1;rw[show(m.1==1)=false by simp[k],aa,show(m.1==2)=false by simp[k],aa,show(m.1==3)=false by simp[k],aa,Xc (by simp),ai,az (by omega) (by omega) (by first|omega|(simp only[aT,bg,bB];omega)|(rw[bz,bQ];omega)),ae,ah (by omega),ah (by omega),ah (by omega)];simp[jN]
theorem aav {m:da}(h:gy m)(c:Int×Int):uF F0 c m=some (aeV c m,()):=by
 rw[agM,Lb h,ai];unfold aeV;cases hc:eh c m with
 |false=>rw[eX,af,ah (by decide)]
 |true =>
  have hp:=cH m.1;rw[aL,aa,ak rfl,nW,ai];unfold ID;rcases apO hc with ⟨k,hq⟩|k|⟨k,hq⟩|k
  ·have h1:=NL h.1;have h2:=ahB (c:=c) (q:=m.2.2.1.2);rw[show(m.1==1)=true by simpa using k,af,IG h.1,ai,az (by omega) (by omega) (by first|omega|(simp only[aT,bg,bB];omega)|(rw[bz,bQ];omega)),ae,R2 h.2.1,ai,az (by omega) (by omega) (by first|omega|(simp only[aT,bg,bB];omega)|(rw[bz,bQ];omega)),ae,ak k];simp[qcB,hq]
  ·have h1:=cH m.2.2.2.1.1;have h2:=NL h.2.2.1.1;have h3:=cH (m.2.2.2.1.2.2.length:Int);have h4:=AL m.2.2.2.1.2.2;have h5:=h.2.2.1.2;rw[show(m.1==1)=false by simp[k],aa,show(m.1==2)=true by simp[k],af,nW,ai,az (by omega) (by omega) (by first|omega|(simp only[aT,bg,bB];omega)|(rw[bz,bQ];omega)),ae,IG h.2.2.1.1,ai,az (by omega) (by omega) (by first|omega|(simp only[aT,bg,bB];omega)|(rw[bz,bQ];omega)),ae,nW,ai,
    az (by omega) (by omega) (by first|omega|(simp only[aT,bg,bB];omega)|(rw[bz,bQ];omega)),ae,E6 h5,ai,az (by omega) (by omega) (by first|omega|(simp only[aT,bg,bB];omega)|(rw[bz,bQ];omega)),ae,ah (by omega),ak k]
   simp[tZ,AJ]
  ·have h1:=AL [m.2.1,m.2.2.2.2.2.1];have h2:=ahB (c:=c) (q:=m.2.2.2.2.1);simp only[bg,bB]at h1;rw[show(m.1==1)=false by simp[k],aa,show(m.1==2)=false by simp[k],aa,show(m.1==3)=true by simp[k],af,E6 (by simp),ai,az (by omega) (by omega) (by first|omega|(simp only[aT,bg,bB];omega)|(rw[bz,bQ];omega)),ae,R2 h.2.2.2,ai,az (by omega) (by omega) (by first|omega|(simp only[aT,bg,bB];omega)|(rw[bz,bQ];omega)),ae,ah (by omega),ah (by omega),ak k];simp[jN,qcB,hq]
  ·have h1:=AL [m.2.2.2.2.2.2.1,m.2.2.2.2.2.2.2.1,m.2.2.2.2.2.2.2.2.1,m.2.2.2.2.2.2.2.2.2];simp only[bg,bB]at h1;rw[show(m.1==1)=false by simp[k],aa,show(m.1==2)=false by simp[k],aa,show(m.1==3)=false by simp[k],aa,E6 (by simp),ai,az (by omega) (by omega) (by first|omega|(simp only[aT,bg,bB];omega)|(rw[bz,bQ];omega)),ae,ah (by omega),ah (by omega),ah (by omega)];simp[jN]
def xU (a b:Int):Int:=if b>a then b else a
def F2 (a b:Int):Int:=if a<b then a else b
theorem Cl (a b:Int):ez F0 a b=some (xU a b,()):=by
 rw[Zh];unfold xU;by_cases h:a>b
 ·rw[aM h,af,ah (by omega)]
 ·rw[aQ h,aa];by_cases h2:b>a
  ·rw[ak h2]
  ·rw[ah h2,show a=b by omega]
theorem XY (a b:Int):bU F0 a b=some (F2 a b,()):=by
 rw[aq3];unfold F2;by_cases h:a<b
 ·rw[aM h,af,ak h]
 ·rw[aQ h,aa,ah h]
theorem aGT {b:ByteArray}(h:b.size<=1048576):qT F0 b=some ((cC b.data.toList).1,(cC b.data.toList).2,()):=XO (T0 h)
theorem aEt {b:ByteArray}(h:b.size<=1048576):rq F0 b=some ((cC b.data.toList).1,(cC b.data.toList).2,()):=RH (T0 h)
def XZ (a b:dp):dp:=if a.1>b.1 then a else b
theorem ayt {a b:dp}(ha:uN a)(hb:uN b):HE F0 a b=some (XZ a b,()):=by
 rw[akh,xd ha.2,ai,xd hb.2,ai];unfold XZ;by_cases h:a.1>b.1
 ·rw[aM h,af,ak h]
 ·rw[aQ h,aa,ah h]
theorem avY {a b:dp}(ha:uN a)(hb:uN b):H8 F0 a b=some (XZ a b,()):=by
 rw[ak8,xL ha.2,ai,xL hb.2,ai];unfold XZ;by_cases h:a.1>b.1
 ·rw[aM h,af,ak h]
 ·rw[aQ h,aa,ah h]
def Xf (ss:List aao):Bool:=decide (3<=ss.length)&&(((ss.getD (ss.length-1) (0,[])).1==aj ((ss.getD (ss.length-2) (0,[])).1+1))&&((ss.getD (ss.length-2) (0,[])).1==aj ((ss.getD (ss.length-3) (0,[])).1+1)))
def X0 (b:ByteArray):Bool:=Xf (cC b.data.toList).1
def upB (b:ByteArray):ByteArray:=tx (upL b.data.toList)
theorem aIK (l:List UInt8):(upL l).length<=l.length:=by
 unfold upL;split
 ·rw[bQ];omega
 ·exact aX _
theorem Lj (b:ByteArray):(upB b).size<=b.size:=by unfold upB;rw[bP];exact aIK _
theorem aEu {b:ByteArray}(h:b.size<=1048576):dZ F0 (tx (upL b.data.toList))=some (bA (upL b.data.toList),()):=by have:=pV (b:=upB b) (cN (Lj b) h);rw[show(upB b).data.toList=upL b.data.toList from iK _]at this;exact this
theorem aAX {b:ByteArray}(h:b.size<=1048576):e8 F0 (tx (upL b.data.toList))=some (bA (upL b.data.toList),()):=by have:=rQ (b:=upB b) (cN (Lj b) h);rw[show(upB b).data.toList=upL b.data.toList from iK _]at this;exact this
def kx (b:ByteArray):ByteArray×Bool:=if X0 b=true then (upB (upB b),true) else (al,false)
theorem ajo {β:Type}{ss:List aao}(hl:ss.length<=30)(x y:Option β) :
  br (decide ((ss.length:Int)<3)) y (ck (cc (aj ((ss.length:Int)-1)) (ss.length:Int)) (ck (cc (aj ((ss.length:Int)-2)) (ss.length:Int)) (br ((aN ss (aj ((ss.length:Int)-1)) (0,[])).1 != (aj ((aN ss (aj ((ss.length:Int)-2)) (0,[])).1+1))) y
   (ck (cc (aj ((ss.length:Int)-2)) (ss.length:Int)) (ck (cc (aj ((ss.length:Int)-3)) (ss.length:Int)) (br ((aN ss (aj ((ss.length:Int)-2)) (0,[])).1 != (aj ((aN ss (aj ((ss.length:Int)-3)) (0,[])).1+1))) y x))))))=if Xf ss=true then x else y:=by
 unfold Xf;by_cases h:3<=ss.length
 ·rw[aQ (show ¬(ss.length:Int)<3 by omega),aa,aM h,ji];have e1:aj ((ss.length:Int)-1)=((ss.length-1:Nat):Int):=by rw[aI (by omega) (by omega)];omega
  have e2:aj ((ss.length:Int)-2)=((ss.length-2:Nat):Int):=by rw[aI (by omega) (by omega)];omega
  have e3:aj ((ss.length:Int)-3)=((ss.length-3:Nat):Int):=by rw[aI (by omega) (by omega)];omega
  rw[e1,e2,e3,av (by omega),ae,av (by omega),ae,av (by omega),ae,ae,lM,lM,lM];cases h1:((ss.getD (ss.length-1) (0,[])).1==aj ((ss.getD (ss.length-2) (0,[])).1+1))<;>cases h2:((ss.getD (ss.length-2) (0,[])).1==aj ((ss.getD (ss.length-3) (0,[])).1+1))<;>simp only[bne,h1,h2]<;>rfl
 ·rw[aM (show(ss.length:Int)<3 by omega),af,aQ h];rfl
theorem ayu {b:ByteArray}(h:b.size<=1048576):HF F0 b=some ((kx b).1,(kx b).2,()):=by
 have hu:my F0 (tx (upL b.data.toList))=some (upB (upB b),()):=aeH (b:=upB b) (cN (Lj b) h);rw[akj,aGT h,ai,ajo (rP _),aeH h,ai,hu,ai];unfold kx X0;cases hs:Xf (cC b.data.toList).1 with
 |true =>
  have:(cC b.data.toList).2=true:=by
   cases h2:(cC b.data.toList).2 with
   |true=>rfl
   |false=>rw[WV h2]at hs;cases hs
  rw[this];rfl
 |false=>cases (cC b.data.toList).2<;>rfl
theorem avZ {b:ByteArray}(h:b.size<=1048576):H9 F0 b=some ((kx b).1,(kx b).2,()):=by have hu:sQ F0 (tx (upL b.data.toList))=some (upB (upB b),()):=aeI (b:=upB b) (cN (Lj b) h);rw[ala,aEt h,ai,ajo (rP _),aeI h,ai,hu,ai];unfold kx X0;cases hs:Xf (cC b.data.toList).1<;>rfl
def see (c:Int×Int)(s:ct)(q:dp):ct :=
 if cW c s=true/\fM c q=true then (s.1,xU s.2.1 (bA (upL q.2.1.data.toList)),XZ q s.2.2.1,if (kx q.2.1).2=true/\aAM (kx q.2.1).1 s.2.2.2=true then (kx q.2.1).1 else s.2.2.2) else s
theorem aeW (b:ByteArray):(kx b).1.size<=b.size:=by
 unfold kx;split
 ·exact cN (Lj _) (Lj _)
 ·exact aX _
theorem av0 {s:ct}{q:dp}(hs:nD s)(hq:uN q)(c:Int×Int):Pr F0 c s q=some (see c s q,()):=by have h2:=aeW q.2.1;rw[axv,NI hs,ai,Ck hs,ai,RN hq,ai,ayt hq hs.1,ai,aeH hq.1,ai,aEu hq.1,ai,Cl,ai,ayu hq.1,ai,ayb (cN h2 hq.1) hs.2,ai];unfold see xU;cases cW c s<;>cases fM c q<;>cases (kx q.2.1).2<;>cases aAM (kx q.2.1).1 s.2.2.2<;>simp[af,aa]
theorem apP {s:ct}{q:dp}(hs:nD s)(hq:uN q)(c:Int×Int):Qf F0 c s q=some (see c s q,()):=by have h2:=aeW q.2.1;rw[axB,IE hs,ai,E4 hs,ai,QK hq,ai,avY hq hs.1,ai,aeI hq.1,ai,aAX hq.1,ai,avZ hq.1,ai,avN (cN h2 hq.1) hs.2,ai];unfold see xU;cases cW c s<;>cases fM c q<;>cases (kx q.2.1).2<;>cases aAM (kx q.2.1).1 s.2.2.2<;>simp[af,aa]
def oU (c:Int×Int)(s:ct)(b:dr):Bool:=cW c s&&(gC c b&&(decide (bA b.1.data.toList>s.1)&&decide (b.2.1>=s.2.1)))
theorem ajp {s:ct}{b:dr}(hs:nD s)(h1:b.1.size<=1048576)(h2:uN b.2)(c:Int×Int):yZ F0 c s b=some (oU c s b,()):=by rw[akn,Ck hs,ai,ND h1 h2,ai,pV h1,ai];unfold oU;cases cW c s<;>cases gC c b<;>cases decide (bA b.1.data.toList>s.1)<;>rfl
theorem av1 {s:ct}{b:dr}(hs:nD s)(h1:b.1.size<=1048576)(h2:uN b.2)(c:Int×Int):Ic F0 c s b=some (oU c s b,()):=by rw[ale,E4 hs,ai,Iz h1 h2,ai,rQ h1,ai];unfold oU;cases cW c s<;>cases gC c b<;>cases decide (bA b.1.data.toList>s.1)<;>rfl
def ayv (c:Int×Int)(s:ct)(b:dr):ct×Bool:=if oU c s b=true then ((bA b.1.data.toList,s.2),true) else (s,false)
theorem aGU {s:ct}{b:dr}(hs:nD s)(h1:b.1.size<=1048576)(h2:uN b.2)(c:Int×Int):Ps F0 c s b=some ((ayv c s b).1,(ayv c s b).2,()):=by rw[auP,NI hs,ai,ajp hs h1 h2,ai,pV h1,ai];unfold ayv;cases oU c s b<;>rfl
theorem aEv {s:ct}{b:dr}(hs:nD s)(h1:b.1.size<=1048576)(h2:uN b.2)(c:Int×Int):XJ F0 c s b=some ((ayv c s b).1,(ayv c s b).2,()):=by rw[avc,IE hs,ai,av1 hs h1 h2,ai,rQ h1,ai];unfold ayv;cases oU c s b<;>rfl
abbrev tQ:=List Int×Int
def NM (d:tQ)(b:List Int):tQ×Bool:=if gx d=true/\d.1.length+b.length<=100000 then ((d.1++b,d.2),true) else (d,false)
theorem ee {d:tQ}:gx d=true↔d.1.length<=100000/\0<=d.2/\d.2<=d.1.length:=by unfold gx iG;simp only[aJ,cD];omega
theorem aAY {d:tQ}{b:List Int}(hd:d.1.length<=1048576)(hb:b.length<=1048576):Mc F0 d b=some ((NM d b).1,(NM d b).2,()):=by
 rw[anC,NJ hd,ai,az (by omega) (by omega) (by first|omega|(simp only[aT,bg,bB];omega)|(rw[bz,bQ];omega)),ae,K0,ai,K0,ai,ai];unfold NM;cases h:gx d with
 |false=>rfl
 |true =>
  have h1:=ee.1 h;by_cases h2:d.1.length+b.length<=100000
  ·have:gx (d.1++b,d.2)=true:=ee.2 ⟨by dsimp only;rw[aT];exact h2,h1.2.1,by dsimp only;rw[aT];omega⟩;rw[this,ak ⟨rfl,h2⟩];rfl
  ·have:gx (d.1++b,d.2)=false:=by
    cases h3:gx (d.1++b,d.2) with
    |false=>rfl
    |true =>
     have:=(ee.1 h3).1;dsimp only at this;rw[aT]at this;exact absurd this h2
   rw[this,ah (fun h=>h2 h.2)];rfl
theorem ayw {d:tQ}{b:List Int}(hd:d.1.length<=1048576)(hb:b.length<=1048576):M8 F0 d b=some ((NM d b).1,(NM d b).2,()):=by
 rw[aoE,IF hd,ai,az (by omega) (by omega) (by first|omega|(simp only[aT,bg,bB];omega)|(rw[bz,bQ];omega)),ae,NB,ai,aI (by omega) (by omega)];unfold NM;cases h:gx d with
 |false=>rfl
 |true =>
  by_cases h2:d.1.length+b.length<=100000
  ·rw[aQ (show ¬(d.1.length:Int)+b.length>100000 by omega),ak ⟨rfl,h2⟩];rfl
  ·rw[aM (show(d.1.length:Int)+b.length>100000 by omega),ah (fun h=>h2 h.2)];rfl
def uP (d:tQ):tQ:=if gx d=true then (d.1,(d.1.length:Int)) else d
theorem aGV {d:tQ}(hd:d.1.length<=1048576):XE F0 d=some (uP d,()):=by rw[auV,NJ hd,ai,K0,ai];unfold uP;cases gx d<;>rfl
theorem aEw {d:tQ}(hd:d.1.length<=1048576):XH F0 d=some (uP d,()):=by rw[au6,IF hd,ai,NB,ai];unfold uP;cases gx d<;>rfl
def NN (d:tQ)(keep:Int):Int:=d.2+xU 0 (F2 keep ((d.1.length:Int)-d.2))
def uQ (d:tQ)(keep:Int):tQ:=if gx d=true then (d.1.take (NN d keep).toNat,NN d keep) else d
theorem apQ {d:tQ}(h:gx d=true)(keep:Int):d.2<=NN d keep/\NN d keep<=d.1.length:=by have:=ee.1 h;unfold NN xU F2;split<;>split<;>omega
theorem aAZ {d:tQ}(hd:d.1.length<=1048576)(keep:Int):Mz F0 d keep=some (uQ d keep,()):=by
 rw[an6,NJ hd,ai,K0,ai,XY,ai,Cl,ai];unfold uQ;cases h:gx d with
 |false=>rfl
 |true =>
  have h1:=ee.1 h;have h2:=apQ h keep;have e1:aj ((d.1.length:Int)-d.2)=(d.1.length:Int)-d.2:=aI (by omega) (by omega);have e2:aj (d.2+xU 0 (F2 keep ((d.1.length:Int)-d.2)))=NN d keep:=aI (by unfold NN at h2;omega) (by unfold NN at h2;omega);rw[aL,aa,ak rfl];dsimp only;rw[e1,e2,apF (by omega) (by omega) h2.2,ae,az (a:=0) (by omega) (by omega) (by first|omega|(simp only[aT,bg,bB];omega)|(rw[bz,bQ];omega)),ae];rfl
theorem ayx {d:tQ}(hd:d.1.length<=1048576)(keep:Int):Nt F0 d keep=some (uQ d keep,()):=by
 rw[ao0,IF hd,ai,NB,ai];unfold uQ;cases h:gx d with
 |false=>rfl
 |true =>
  have h1:=ee.1 h;have h2:=apQ h keep;have e1:aj ((d.1.length:Int)-d.2)=(d.1.length:Int)-d.2:=aI (by omega) (by omega);have e2:aj (d.2+(if (d.1.length:Int)-d.2<(if 0>keep then 0 else keep) then (d.1.length:Int)-d.2 else (if 0>keep then 0 else keep)))=NN d keep:=by
   have:d.2+(if (d.1.length:Int)-d.2<(if 0>keep then 0 else keep) then (d.1.length:Int)-d.2 else (if 0>keep then 0 else keep))=NN d keep:=by unfold NN xU F2;split<;>split<;>split<;>split<;>omega
   rw[this];exact aI (by omega) (by omega)
  rw[af,ak rfl];dsimp only;rw[e1,e2,show okT (NN d keep) (d.1.length:Int)=true by simp[okT];omega,ae]
def apR (s:ct):Int:=F2 60 (xU (xU s.1 (aj (s.2.2.1.1+1))) 1)
def aIL (c:Int×Int)(r:aD):aD:=(r.1,apR (nF c r.2.2.2.2.2.2.1.1).1,0,(nF c r.2.2.2.2.2.2.1.1).1,[],[],(r.2.2.2.2.2.2.1.1.take (nF c r.2.2.2.2.2.2.1.1).2,((nF c r.2.2.2.2.2.2.1.1).2:Int)),[])
theorem ayy (c:Int×Int){b:List Int}(hb:eH b):∀(f:Nat) (s:ct) (a:Nat),a<=b.length->(Lf c b f s a).2<=b.length
 |0,s,a,ha=>ha
 |f+1,s,a,ha=>by
  cases h:W6 c b a with
  |none=>rw[lV h];exact ha
  |some z =>
   obtain⟨s',a'⟩:=z;rw[RV h];exact ayy c hb f s' a' (aGK hb ha h).2.1
theorem Xg (c:Int×Int){b:List Int}(hb:eH b):(nF c b).2<=b.length:=ayy c hb _ _ _ (aX _)
theorem aGW {r:aD}(h:aEs r){c:Int×Int}(hr:qJ c r=true):PQ F0 c r=some (aIL c r,()):=by have hl:=Xg c h.d;have hd:=h.d.1;rw[auX,iS h.l,ai,hr,aL,aa,avO h.d,ai,Cl,ai,Cl,ai,XY,ai];dsimp only;rw[apF (by omega) (by omega) (by omega),ae,az (a:=0) (by omega) (by omega) (by first|omega|(simp only[aT,bg,bB];omega)|(rw[bz,bQ];omega)),ae];rfl
theorem aEx {r:aD}(h:aEs r){c:Int×Int}(hr:qJ c r=true):QA F0 c r=some (aIL c r,()):=by have hl:=Xg c h.d;have hd:=h.d.1;rw[avn,eW h.l,ai,hr,aL,aa,arI h.d,ai];dsimp only;rw[apF (by omega) (by omega) (by omega),ae,az (a:=0) (by omega) (by omega) (by first|omega|(simp only[aT,bg,bB];omega)|(rw[bz,bQ];omega)),ae];rfl
end Go.Am.Tryz
