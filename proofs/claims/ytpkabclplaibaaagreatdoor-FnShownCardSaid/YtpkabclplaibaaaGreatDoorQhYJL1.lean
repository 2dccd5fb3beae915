/- No condition. -/
import Derived.Test.YtpkabclplaibaaaGreatDoorQhYJG8
import Derived.Lib.MinMaxS
import Derived.Lib.CutLaws
import Derived.Lib.PathFns
import Derived.Lib.SplitLaws
import Derived.Test.YtpkabclplaibaaaGreatDoorQhAmData
set_option linter.all false
namespace Go.Am.Tryz
open Go.Am
def pg (n:Int):Prop:=-9223372036854775808<=n/\n<=9223372036854775807
def C0 (a:List Int):Prop:=a.length<=1048576/\∀x∈a,pg x
def dc {n:Int}(h:pg n):bB F0 n=some (tx (Lib.itoa n),()):=by
 rw[W6];by_cases a:n=0
 .subst a;simp only[Mx,ae]
  congr 2
  simp[tx,Lib.itoa,Lib.decDigits]
 .rw[show(n==0)=false from cC.2 a,aa];have r:(Lib.decDigits n.natAbs).length<=20:=by rw[Lib.decDigits_length];exact Lib.nDigits_le20 _ (by obtain⟨f,g⟩:=h;omega)
  refine ajc (fun m (x:Int×List UInt8)=>nG F0 (ya F0) m (j8 x.1 (decide (n<0)) (tx x.2))) _ (fun x=>pg x.1/\akw x.1.natAbs++x.2=Lib.decDigits n.natAbs) (fun x=>x.1.natAbs) (fun m x p=>?_) _ (n,[]) ⟨h,?_⟩ ?_
  .obtain⟨x,l⟩:=x;obtain⟨⟨f,g⟩,b⟩:=p;simp only at f g b ⊢;have s:l.length<=20:=by have:=C2 List.length b;rw[aB]at this;omega
   by_cases k:x=0
   .left;subst k;rw[BS];simp only[bne_self_eq_false,aa,PX];rw[show akw (Int.natAbs 0)=[] from rfl,nD]at b;subst b;by_cases c:n<0
    .rw[aW c,ae,aT (by rw[ao];have:(ByteArray.mk #[45]).size=1:=rfl;omega),ab,show ByteArray.mk #[45]=tx [45] from rfl,aP];unfold Lib.itoa;rw[aj c];rfl
    .rw[a6 c,aa];unfold Lib.itoa;rw[ag c,show n.natAbs=n.toNat by omega]
   .right;have o:x.natAbs%10<10:=Ry _ (by omega);have aq1:(Int.tdiv x 10).natAbs=x.natAbs/10:=by rw[Int.natAbs_tdiv];rfl
    have i:pg (Int.tdiv x 10):=⟨by omega,by omega⟩;have q:=al6 (u:=x.natAbs) (by omega);have j:ak (Int.tdiv x 10)=Int.tdiv x 10:=aD i.1 i.2;refine⟨(Int.tdiv x 10,UInt8.ofNat (48+x.natAbs%10)::l),?_,⟨i,?_⟩,?_⟩
    .rw[BS,show(x != 0)=true from GD.2 k,ae];have key:tx [UInt8.ofNat (48+x.natAbs%10)]++tx l=tx (UInt8.ofNat (48+x.natAbs%10)::l):=by rw[aP];rfl
     have d:gy F0 (tx [UInt8.ofNat (48+x.natAbs%10)]).size (tx l).size=true:=aT (by rw[ao,ao];simp only[aR,bo];omega);by_cases t:x<0
     .have e:Int.tmod x 10=-((x.natAbs%10:Nat):Int):=by obtain⟨u,rfl⟩:∃u:Nat,x=-(u:Int):=⟨x.natAbs,by omega⟩;rw[Int.neg_tmod,Int.natAbs_neg,Int.natAbs_natCast];rfl
      by_cases a:x.natAbs%10=0
      .rw[e,a,show decide (-((0:Nat):Int)<0)=false from rfl,aa,show(48+-((0:Nat):Int))=48+((0:Nat):Int) from rfl,dig (by omega)];rw[a]at d key;rw[d,ab,key,j]
      .rw[e,aW (by omega),ae,aD (n:=0 - -((x.natAbs%10:Nat):Int)) (by omega) (by omega),show(0:Int) - -((x.natAbs%10:Nat):Int)=((x.natAbs%10:Nat):Int) by omega,dig o,d,ab,key,j]
     .have e:Int.tmod x 10=((x.natAbs%10:Nat):Int):=by obtain⟨u,rfl⟩:∃u:Nat,x=(u:Int):=⟨x.natAbs,by omega⟩;rfl
      rw[e,a6 (by omega),aa,dig o,d,ab,key,j]
    .simp only;rw[aq1,<-b,q];simp
    .simp only;rw[aq1];omega
  .simp only[fo];unfold akw;rw[ag (by omega)]
  .simp only;rw[b1];obtain⟨f,g⟩:=h;omega
def iR {n:Int}(h:pg n):cy F0 n=some (tx (Lib.itoa n),()):=by rw[Ym];unfold strconv_Itoa;rw[aW h.1,aW h.2];rfl
def dC {n:Int}(h:pg n):(Lib.itoa n).length<=21:=Lib.itoa_length_le n h.1 h.2
def QN {a:List Int}(h:∀x∈a,pg x):∀x∈a.map Lib.itoa,x.length<=21:=by intro x b;obtain⟨n,c,rfl⟩:=Bx.1 b;exact dC (h n c)
def E3 {a:List Int}{k:Nat}(h:k<a.length):(a.take (k+1)).map Lib.itoa=(a.take k).map Lib.itoa++[Lib.itoa (a.getD k 0)]:=by rw[yH,bH h 0];simp
def akz (s:List Int):List UInt8:=123::(Lib.join (s.map Lib.itoa) [44]++[125])
def Gu {a:List Int}(h:C0 a)(s:UInt8):(Lib.join (a.map Lib.itoa) [s]).length<=23068672:=by have:=VJ (QN h.2) s;rw[fB]at this;have:=h.1;omega
def KZ {s:List Int}(h:C0 s):gR F0 s=some (tx (akz s),()):=by
 rw[Vu];have hlen:=h.1;refine b9 (fun n i (c:ByteArray)=>lU F0 (uN F0) n (iP s c i)) s.length (fun k c=>c=tx (123::Lib.join ((s.take k).map Lib.itoa) [44])) _ (fun n k c b d=>.inr ⟨_,?_,rfl⟩) (fun n c d=>?_) _ 0 _ (a1 _) rfl (by rw[b1];omega)
 .subst d;have f:=dc (h.2 _ (fe b 0));have q:=dC (h.2 _ (fe b 0));have g:=Gu (a:=s.take k) ⟨by rw[bQ];omega,fun x j=>h.2 x (Bw j)⟩ 44;rw[z7,bp b,ae,aE b,jv,f];simp only[av,ab,show ByteArray.mk #[44]=tx [44] from rfl,aP];rw[E3 b,an (by omega)];by_cases l:k=0
  .subst l;rw[show decide (((0:Nat):Int)>0)=false from rfl,aa,aT (by simp only[ao,aB,aR,bo];omega),ab];simp[Lib.join_one,Lib.join_nil]
  .have m:(k:Int)>0:=by omega
   have o:decide ((k:Int)>0)=true:=aW m;have p:(s.take k).map Lib.itoa≠[]:=by intro e;have:=C2 List.length e;rw[fB,bQ,bo]at this;omega
   rw[o,ae,aT (by simp only[ao,aB,aR,bo];omega),ab,aT (by simp only[ao,aB,aR,bo];omega),ab,RM p];simp
 .subst d;have g:=Gu h 44;rw[z7,aO,aa,OM,gq,show ByteArray.mk #[125]=tx [125] from rfl,aT (by simp only[ao,aB,aR,bo];omega),ab,aP];rfl
def QO (a:List Int):((a.map fun n=>tx (Lib.itoa n)).map fun b=>b.data.toList)=a.map Lib.itoa:=by rw[List.map_map];exact List.map_congr_left fun n _=>dB _
def uP {xs:List ByteArray}{l:List (List UInt8)}{s:List UInt8}(h:(xs.map fun b=>b.data.toList)=l)(d:xs.length<=67108864)(e:(Lib.join l s).length<=67108864):strings_Join F0 xs (tx s)=some (tx (Lib.join l s),()):=by have a:decide ((xs.length:Int)<=F0.mem)=true:=aW (show((xs.length:Nat):Int)<=140737488355328 by omega);have c:decide (((Lib.join l s).length:Int)<=F0.mem)=true:=aW (show(((Lib.join l s).length:Nat):Int)<=140737488355328 by omega);unfold strings_Join WY;rw[h,dB,a,c];rfl
def aho {s:List Int}(h:C0 s):lT F0 s (tx [44])=some (tx (Lib.join (s.map Lib.itoa) [44]),()):=by
 rw[KS];have hlen:=h.1;refine b9 (fun n i (a:List ByteArray)=>nV F0 (pd F0) n (kj (tx [44]) s (s.length:Int) i a)) s.length (fun k a=>a=(s.take k).map fun n=>tx (Lib.itoa n)) _ (fun n k a c d=>.inr ⟨_,?_,rfl⟩) (fun n a d=>?_) F0.n 0 [] (a1 _) rfl (by rw[b1];omega)
 .subst d;have e:=iR (h.2 _ (fe c 0));have f:((s.take k).map fun n=>tx (Lib.itoa n))++[tx (Lib.itoa (s.getD k 0))]=(s.take (k+1)).map fun n=>tx (Lib.itoa n):=by rw[yH,bH c 0];simp
  rw[jX,bp c,ae,aE c,jv,e];simp only[av,ab];have g:((s.take k).map fun n=>tx (Lib.itoa n)).length+1<=1048577:=by rw[fB,bQ];omega
  rw[aC (b:=[tx (Lib.itoa (s.getD k 0))].length) (k:=16) (by omega) (by omega) (aL g (by omega)),ab,an (by omega),f]
 .subst d;rw[jX,aO,aa,Eu,gq,uP (QO s) (by rw[fB];omega) (by have:=Gu h 44;omega)];rfl
def Hd {s:List Int}(h:C0 s):gQ F0 s=some (tx (akz s),()):=by have a:=Gu h 44;rw[Vt,show ByteArray.mk #[44]=tx [44] from rfl,aho h];simp only[av,show ByteArray.mk #[123]=tx [123] from rfl,show ByteArray.mk #[125]=tx [125] from rfl,aP];rw[aT (by simp only[ao,aB,aR,bo];omega),ab,aT (by simp only[ao,aB,aR,bo];omega),ab];rfl
def VK {s:List Int}(h:C0 s):(akz s).length<=23068674:=by have:=Gu h 44;simp only[akz,aR,aB,bo];omega
def aju (p:Int×(ByteArray×List Int)):List UInt8:=(if p.2.1.toList==ah.toList then [108,97,116,101] else [118,111,116,101])++[32]++Lib.itoa p.1++[32]++akz p.2.2
def qcL (q:Int×(ByteArray×List Int)):List UInt8:=Lib.itoa q.1++[32]++(if q.2.1.toList==ah.toList then [115,116,97,114,116] else q.2.1.data.toList)++[32]++akz q.2.2
def adi {p:Int×(ByteArray×List Int)}(a:pg p.1)(b:C0 p.2.2):vY F0 p=some (tx (aju p),()):=by
 have c:=dC a;have d:=VK b;rw[SD,dc a,KZ b];unfold aju;cases p.2.1.toList==ah.toList <;>
 simp only[ae,aa,av,show ByteArray.mk #[108,97,116,101]=tx [108,97,116,101] from rfl,show ByteArray.mk #[118,111,116,101]=tx [118,111,116,101] from rfl,show ByteArray.mk #[32]=tx [32] from rfl,aP,ao] <;>
 (rw[aT (by simp only[aB,aR,bo];omega),ab,aT (by simp only[aB,aR,bo];omega),ab,aT (by simp only[aB,aR,bo];omega),ab,aT (by simp only[aB,aR,bo];omega),ab];rfl)
def aar {p:Int×(ByteArray×List Int)}(a:pg p.1)(b:C0 p.2.2):vX F0 p=some (tx (aju p),()):=by
 have c:=dC a;have d:=VK b;rw[SB,iR a,Hd b];unfold aju;cases p.2.1.toList==ah.toList <;>
 simp only[ae,aa,av,show ByteArray.mk #[108,97,116,101]=tx [108,97,116,101] from rfl,show ByteArray.mk #[118,111,116,101]=tx [118,111,116,101] from rfl,show ByteArray.mk #[32]=tx [32] from rfl,aP,ao] <;>
 (rw[aT (by simp only[aB,aR,bo];omega),ab,aT (by simp only[aB,aR,bo];omega),ab,aT (by simp only[aB,aR,bo];omega),ab,aT (by simp only[aB,aR,bo];omega),ab];rfl)
def ahp {q:Int×(ByteArray×List Int)}(a:pg q.1)(d:q.2.1.size<=1048576)(c:C0 q.2.2):Ey F0 q=some (tx (qcL q),()):=by
 have e:=dC a;have f:=VK c;obtain⟨v,b,s⟩:=q;obtain⟨l,rfl⟩:∃l,b=tx l:=⟨_,MK b⟩;simp only[ao]at d e f a c;rw[Yv,dc a,KZ c];unfold qcL;simp only[dB];cases (tx l).toList==ah.toList <;>
 simp only[ae,aa,av,show ByteArray.mk #[115,116,97,114,116]=tx [115,116,97,114,116] from rfl,show ByteArray.mk #[32]=tx [32] from rfl,aP,ao] <;>
 (rw[aT (by simp only[aB,aR,bo];omega),ab,aT (by simp only[aB,aR,bo];omega),ab,aT (by simp only[aB,aR,bo];omega),ab,aT (by simp only[aB,aR,bo];omega),ab];rfl)
def aeX {q:Int×(ByteArray×List Int)}(a:pg q.1)(d:q.2.1.size<=1048576)(c:C0 q.2.2):Ew F0 q=some (tx (qcL q),()):=by
 have e:=dC a;have f:=VK c;obtain⟨v,b,s⟩:=q;obtain⟨l,rfl⟩:∃l,b=tx l:=⟨_,MK b⟩;simp only[ao]at d e f a c;rw[Yt,iR a,Hd c];unfold qcL;simp only[dB];cases (tx l).toList==ah.toList <;>
 simp only[ae,aa,av,show ByteArray.mk #[115,116,97,114,116]=tx [115,116,97,114,116] from rfl,show ByteArray.mk #[32]=tx [32] from rfl,aP,ao] <;>
 (rw[aT (by simp only[aB,aR,bo];omega),ab,aT (by simp only[aB,aR,bo];omega),ab,aT (by simp only[aB,aR,bo];omega),ab,aT (by simp only[aB,aR,bo];omega),ab];rfl)
def QP (l:List Int×List Int):List UInt8:=Lib.join (l.1.map Lib.itoa++[47]::l.2.map Lib.itoa) [32]
def ami (A:List (List UInt8))(m:List UInt8)(B:List (List UInt8))(s:List UInt8):Lib.join (A++m::B) s=(A.map (·++s)).flatten++m++Lib.joinTail s B:=by
 induction A with
 |nil=>rw[nD,Lib.join_cons];simp
 |cons x r a =>
  rw[pE,Lib.join_cons];have b:Lib.joinTail s (r++m::B)=s++Lib.join (r++m::B) s:=by
   cases r with
   |nil=>rw[nD,Lib.join_cons];simp[Lib.joinTail]|cons y r=>rw[pE,Lib.join_cons];simp[Lib.joinTail]
  rw[b,a];simp
def ahq {l:List Int×List Int}(b:C0 l.1)(d:C0 l.2):(QP l).length<=46137366:=by
 have:=VJ (l:=l.1.map Lib.itoa++[47]::l.2.map Lib.itoa) (c:=21) (fun x a=>by
  rcases en.1 a with a|a
  .exact QN b.2 x a
  .rcases c7.1 a with rfl|a
   .simp
   .exact QN d.2 x a) 32
 have e:=b.1;have f:=d.1;simp only[aB,aR,fB]at this;unfold QP;omega
def ajv {a:List Int}(h:∀x∈a,pg x)(s:UInt8):(((a.map Lib.itoa).map (·++[s])).flatten).length<=22*a.length:=by
 induction a with
 |nil=>simp
 |cons x r b =>
  have:=b fun y c=>h y (h8 _ c)
  have d:=dC (h x tu);simp only[kL,List.flatten_cons,aB,aR,bo]at this ⊢;omega
def ajw {a:List Int}(h:∀x∈a,pg x)(s:UInt8):(Lib.joinTail [s] (a.map Lib.itoa)).length<=22*a.length:=by
 induction a with
 |nil=>simp[Lib.joinTail]
 |cons x r b =>
  have:=b fun y c=>h y (h8 _ c)
  have d:=dC (h x tu);simp only[Lib.joinTail,kL,List.flatten_cons,aB,aR,bo]at this ⊢;omega
def Yz {l:List Int×List Int}(f:C0 l.1)(g:C0 l.2):pf F0 l=some (tx (QP l),()):=by
 obtain⟨a,b⟩:=l;have p:=f.1;have q:=g.1;simp only at f g p q;rw[OP];have t:=ajv f.2 32;refine b9 (fun n i (d:ByteArray)=>lk F0 (nz F0) n (h7 d i a b)) a.length (fun k d=>d=tx (((a.take k).map Lib.itoa).map (·++[32])).flatten) _ (fun n k d c e=>.inr ⟨_,?_,rfl⟩) (fun n d e=>?_) F0.n 0 (tx []) (a1 _) rfl (by rw[b1];omega)
 .subst e;have h:=dc (f.2 _ (fe c 0));have r:=dC (f.2 _ (fe c 0));have j:=ajv (a:=a.take k) (fun x m=>f.2 x (Bw m)) 32;rw[bQ]at j;have o:((((a.take k).map Lib.itoa).map (·++[32])).flatten++Lib.itoa (a.getD k 0))++[32]=((((a.take (k+1)).map Lib.itoa).map (·++[32])).flatten):=by rw[E3 c];simp
  rw[s5,bp c,ae,aE c,ab,jv,h,av];simp only[show ByteArray.mk #[32]=tx [32] from rfl,aP];rw[aT (by simp only[ao];omega),ab,aT (by simp only[ao,aB,aR,bo];omega),ab,an (by omega),o]
 .subst e;rw[s5,aO,aa,I3,gq,show ByteArray.mk #[47]=tx [47] from rfl,aT (by simp only[ao,aR,bo];omega),ab,aP];have u:=ajw g.2 32;have s:QP (a,b)=(((a.map Lib.itoa).map (·++[32])).flatten++[47])++Lib.joinTail [32] (b.map Lib.itoa):=ami _ _ _ _;rw[s];refine b9 (fun n i (d:ByteArray)=>lj F0 (ny F0) n (hZ d i a b)) b.length (fun k d=>d=tx ((((a.map Lib.itoa).map (·++[32])).flatten++[47])++Lib.joinTail [32] ((b.take k).map Lib.itoa))) _ (fun n k d c e=>.inr ⟨_,?_,rfl⟩) (fun n d e=>?_) F0.n 0 (tx (((a.map Lib.itoa).map (·++[32])).flatten++[47])) (a1 _) ?_ (by rw[b1];omega)
  .subst e;have h:=dc (g.2 _ (fe c 0));have r:=dC (g.2 _ (fe c 0));have j:=ajw (a:=b.take k) (fun x m=>g.2 x (Bw m)) 32;rw[bQ]at j;have o:((((((a.map Lib.itoa).map (·++[32])).flatten++[47])++Lib.joinTail [32] ((b.take k).map Lib.itoa))++[32])++Lib.itoa (b.getD k 0))=((((a.map Lib.itoa).map (·++[32])).flatten++[47])++Lib.joinTail [32] ((b.take (k+1)).map Lib.itoa)):=by rw[E3 c];simp[Lib.joinTail]
   rw[s4,bp c,ae,aE c,jv,h];simp only[show ByteArray.mk #[32]=tx [32] from rfl,aP];rw[aT (by simp only[ao,aB,aR,bo];omega),ab,ab,av];simp only[aP];rw[aT (by simp only[ao,aB,aR,bo];omega),ab,an (by omega),o]
  .subst e;rw[s4,aO,aa,I2,gq]
  .simp[Lib.joinTail]
def Vy {l:List Int×List Int}(g:C0 l.1)(h:C0 l.2):pe F0 l=some (tx (QP l),()):=by
 have hlen:=ahq g h;obtain⟨a,b⟩:=l;have o:=g.1;have p:=h.1;simp only at g h o p;rw[ON];refine b9 (fun n i (c:List ByteArray)=>lh F0 (nx F0) n (hY a (a.length:Int) i a b c)) a.length (fun k c=>c=(a.take k).map fun n=>tx (Lib.itoa n)) _ (fun n k c d e=>.inr ⟨_,?_,rfl⟩) (fun n c e=>?_) F0.n 0 [] (a1 _) rfl (by rw[b1];omega)
 .subst e;have j:=iR (g.2 _ (fe d 0));have f:((a.take k).map fun n=>tx (Lib.itoa n)).length+1<=1048577:=by rw[fB,bQ];omega
  have m:((a.take k).map fun n=>tx (Lib.itoa n))++[tx (Lib.itoa (a.getD k 0))]=(a.take (k+1)).map fun n=>tx (Lib.itoa n):=by rw[yH,bH d 0];simp
  rw[s3,bp d,ae,aE d,ab,jv,j,av];rw[aC (b:=[tx (Lib.itoa (a.getD k 0))].length) (k:=16) (by omega) (by omega) (aL f (by omega)),ab,an (by omega)];simp only[m]
 .subst e;have f:(a.map fun n=>tx (Lib.itoa n)).length+1<=1048577:=by rw[fB];omega
  rw[s3,aO,aa,I1,gq,show ByteArray.mk #[47]=tx [47] from rfl,aC (b:=[tx [47]].length) (k:=16) (by omega) (by omega) (aL f (by omega)),ab];refine b9 (fun n i (c:List ByteArray)=>lg F0 (nv F0) n (hX b (b.length:Int) i c)) b.length (fun k c=>c=((a.map fun n=>tx (Lib.itoa n))++[tx [47]])++(b.take k).map fun n=>tx (Lib.itoa n)) _ (fun n k c d e=>.inr ⟨_,?_,rfl⟩) (fun n c e=>?_) F0.n 0 ((a.map fun n=>tx (Lib.itoa n))++[tx [47]]) (a1 _) ?_ (by rw[b1];omega)
  .subst e;have j:=iR (h.2 _ (fe d 0));have f:(((a.map fun n=>tx (Lib.itoa n))++[tx [47]])++(b.take k).map fun n=>tx (Lib.itoa n)).length+1<=2097154:=by rw[aB,aB,fB,fB,bQ,aR,bo];omega
   have m:(((a.map fun n=>tx (Lib.itoa n))++[tx [47]])++(b.take k).map fun n=>tx (Lib.itoa n))++[tx (Lib.itoa (b.getD k 0))]=((a.map fun n=>tx (Lib.itoa n))++[tx [47]])++(b.take (k+1)).map fun n=>tx (Lib.itoa n):=by rw[yH,bH d 0];simp
   rw[s0,bp d,ae,aE d,ab,jv,j,av];rw[aC (b:=[tx (Lib.itoa (b.getD k 0))].length) (k:=16) (by omega) (by omega) (aL f (by omega)),ab,an (by omega)];simp only[m]
  .subst e;have q:((((a.map fun n=>tx (Lib.itoa n))++[tx [47]])++b.map fun n=>tx (Lib.itoa n)).map fun b=>b.data.toList)=a.map Lib.itoa++[47]::b.map Lib.itoa:=by rw[My,My,QO,QO];simp[tx]
   rw[s0,aO,aa,I0,gq,show ByteArray.mk #[32]=tx [32] from rfl,uP q (by simp only[aB,fB,aR,bo];omega) (aL (show(Lib.join (a.map Lib.itoa++[47]::b.map Lib.itoa) [32]).length<=46137366 from hlen) (by omega)),av];rfl
  .simp
def QQ (a b:List UInt8):((tx a).toList==(tx b).toList)=decide (a=b):=by
 rw[Lib.toList_data,Lib.toList_data,dB,dB];by_cases h:a=b
 .simp[h]
 .simp[h]
def QR (l:List UInt8)(k:Nat):gf (tx l) (k:Int)=((l.getD k 0).toNat:Int):=by unfold gf;rw[dB];rfl
def adj (c:UInt8):c.toNat<256:=UInt8.toNat_lt c
def isD (c:UInt8):Bool:=decide (48<=c.toNat)&&decide (c.toNat<=57)
def val:List UInt8->Nat->Nat
 |[],n=>n|c::l,n=>val l (10*n+(c.toNat-48))
def dO (l:List UInt8):Int×Bool :=
 if l.length<1\/6<l.length then (0,false)
 else if l.all isD then (if Lib.itoa (val l 0:Int)=l then ((val l 0:Int),true) else (0,false)) else (0,false)
def YA (a b:List UInt8)(n:Nat):val (a++b) n=val b (val a n):=by
 induction a generalizing n with
 |nil=>rfl|cons c l d=>exact d _
def apU {l:List UInt8}(h:∀c∈l,isD c=true)(n:Nat):val l n<(n+1)*10 ^ l.length:=by
 induction l generalizing n with
 |nil=>simp[val]
 |cons c l a =>
  have b:=a (fun d e=>h d (h8 _ e)) (10*n+(c.toNat-48));have f:=h c tu;simp only[isD,az,bu]at f;refine wa b ?_;rw[aR,Nat.pow_succ];have g:10*n+(c.toNat-48)+1<=(n+1)*10:=by omega
  calc (10*n+(c.toNat-48)+1)*10 ^ l.length<=((n+1)*10)*10 ^ l.length:=tt _ g
   _=(n+1)*(10 ^ l.length*10):=by rw[Nat.mul_assoc,Nat.mul_comm 10]
def amj {l:List UInt8}{k:Nat}(h:k<l.length):val (l.take (k+1)) 0=10*val (l.take k) 0+((l.getD k 0).toNat-48):=by rw[yH,bH h 0,YA];rfl
def SG {l:List UInt8}(a:l.length<=6)(h:∀c∈l,isD c=true):val l 0<=999999:=by have b:=apU h 0;have d:10 ^ l.length<=10 ^ 6:=Nat.pow_le_pow_right (by omega) a;omega
def YB (l:List UInt8):0<=(dO l).1/\(dO l).1<=999999:=by
 unfold dO;split
 .simp
 .split
  .rename_i d a;have:=SG (l:=l) (by omega) (fun c b=>gb.1 a c b);split
   .simp only;omega
   .simp
  .simp
def aeY {l:List UInt8}(t:1<=l.length)(o:l.length<=6){X:Nat->Int->Int->Option (Int×(Bool×Unit))}{D:Int->Option (ByteArray×Unit)}(p:∀n,pg n->D n=some (tx (Lib.itoa n),()))
  (q:∀n k (m:Nat),k<l.length->m<=999999->X (n+1) m k=br (decide (((l.getD k 0).toNat:Int)<48)) (some (0,false,())) (br (decide (((l.getD k 0).toNat:Int)>57)) (some (0,false,())) (X n (ak (ak (10*m)+ak ((l.getD k 0).toNat-48))) ((k+1:Nat):Int))))
  (s:∀n (m:Nat),X (n+1) m l.length=(D m).bind fun r=>br (!(r.1.toList==(tx l).toList)) (some (0,false,())) (some ((m:Int),true,()))) (n:Nat) (u:6<n):X n 0 0=some ((dO l).1,(dO l).2,()):=by
 refine b9 (fun n i (m:Nat)=>X n m i) l.length (fun k m=>m=val (l.take k) 0/\∀c∈l.take k,isD c=true) _ (fun n k m d f=>?_) (fun n m f=>?_) n 0 0 (a1 _) ⟨rfl,by simp⟩ (by omega)
 .obtain⟨rfl,b⟩:=f;have g:=SG (l:=l.take k) (by rw[bQ];omega) b;have j:=fe d (0:UInt8);have v:=adj (l.getD k 0);rw[q n k _ d g];by_cases w:(l.getD k 0).toNat<48
  .left;rw[aW (by omega),ae];have:l.all isD=false:=by rw[V4];exact⟨_,j,fun h=>by simp only[isD,az,bu]at h;omega⟩
   unfold dO;rw[ag (by omega),this];rfl
  .by_cases x:(l.getD k 0).toNat>57
   .left;rw[a6 (by omega),aa,aW (by omega),ae];have:l.all isD=false:=by rw[V4];exact⟨_,j,fun h=>by simp only[isD,az,bu]at h;omega⟩
    unfold dO;rw[ag (by omega),this];rfl
   .right;refine⟨val (l.take (k+1)) 0,?_,rfl,?_⟩
    .rw[a6 (by omega),aa,a6 (by omega),aa,amj d,aD (n:=10*_) (by omega) (by omega),aD (n:=((l.getD k 0).toNat:Int)-48) (by omega) (by omega),aD (by omega) (by omega)]
     congr 1
     omega
    .intro c a;rw[yH,bH d 0]at a;rcases en.1 a with a|a
     .exact b c a
     .simp only[abV,fA]at a;subst a;simp only[isD,az,bu];omega
 .obtain⟨rfl,b⟩:=f;rw[gq]at b ⊢;have g:=SG o b;rw[s,p _ ⟨by omega,by omega⟩,av,QQ];unfold dO;rw[ag (by omega),aj (gb.2 b)];by_cases e:Lib.itoa (val l 0:Int)=l
  .rw[aW e,aj e];rfl
  .rw[a6 e,ag e];rfl
def uQ (l:List UInt8):jh F0 (tx l)=some ((dO l).1,(dO l).2,()):=by
 rw[W8,ao];by_cases b:l.length<1
 .rw[aW (by omega),ae];unfold dO;rw[aj (.inl b)]
 .rw[a6 (by omega),aa];by_cases c:6<l.length
  .rw[aW (by omega),ae];unfold dO;rw[aj (.inr c)]
  .rw[a6 (by omega),aa];refine aeY (X:=fun n m k=>vd F0 (n6 F0) n (n5 (tx l) m k)) (by omega) (by omega) (fun n d=>dc d) (fun n k m a e=>?_) (fun n m=>?_) _ (by rw[b1];omega)
   .have f:=adj (l.getD k 0);rw[BX];simp only[ao,QR,RS,bp a,aE a,ae,ab,an (show k+1<=9223372036854775807 by omega)]
    congr 2
    congr 2
    rw[aD (n:=10*(m:Int)) (by omega) (by omega),aD (n:=((l.getD k 0).toNat:Int)) (by omega) (by omega),aD (n:=10*(m:Int)+((l.getD k 0).toNat:Int)) (by omega) (by omega),aD (n:=((l.getD k 0).toNat:Int)-48) (by omega) (by omega)]
    congr 1
    omega
   .rw[BX];simp only[ao,aO,aa,PZ]
def w5 (l:List UInt8):jq F0 (tx l)=some ((dO l).1,(dO l).2,()):=by
 rw[Yn,ao];by_cases b:l.length<1
 .rw[aW (by omega),ae];unfold dO;rw[aj (.inl b)]
 .rw[a6 (by omega),aa];by_cases c:6<l.length
  .rw[aW (by omega),ae];unfold dO;rw[aj (.inr c)]
  .rw[a6 (by omega),aa];refine aeY (X:=fun n m k=>vU F0 (pc F0) n (pb (tx l) m k)) (by omega) (by omega) (fun n d=>iR d) (fun n k m a e=>?_) (fun n m=>?_) _ (by rw[b1];omega)
   .have f:=adj (l.getD k 0);rw[CF];simp only[ao,QR,Sy,bp a,aE a,ae,ab,an (show k+1<=9223372036854775807 by omega)];by_cases g:(l.getD k 0).toNat<48
    .rw[aW (by omega),ae,ae]
    .rw[IntWalk.u8_in _ (by omega)]
   .rw[CF];simp only[ao,aO,aa,QF]
def YC (l:List UInt8)(k:Nat):(tx l).extract 0 k=tx (l.take k):=by rw[MK ((tx l).extract 0 k),Lib.Pa.extract_upto_list,dB]
def extract_from (l:List UInt8)(k:Nat):(tx l).extract k (tx l).size=tx (l.drop k):=by rw[MK ((tx l).extract k (tx l).size),Lib.extract_to_end,dB]
def YD {a b:List UInt8}{c:UInt8}(h:c ∉ a):(a++c::b).takeWhile (· != c)=a/\(a++c::b).dropWhile (· != c)=c::b:=by
 induction a with
 |nil=>simp
 |cons x a d =>
  have e:(x != c)=true:=by simp;rintro rfl;simp at h
  have:=d fun f=>h (h8 _ f)
  rw[pE,List.takeWhile_cons,List.dropWhile_cons,e];exact⟨by simp[this.1],by simp[this.2]⟩
def apx {a:List UInt8}{c:UInt8}(h:c ∉ a):a.takeWhile (· != c)=a/\a.dropWhile (· != c)=[]:=by
 induction a with
 |nil=>simp
 |cons x a b =>
  have d:(x != c)=true:=by simp;rintro rfl;simp at h
  have:=b fun e=>h (h8 _ e)
  rw[List.takeWhile_cons,List.dropWhile_cons,d];exact⟨by simp[this.1],by simp[this.2]⟩
def aeZ {l:List UInt8}{k:Nat}(h:k<l.length):l=l.take k++l.getD k 0::l.drop (k+1):=by
 have:l.getD k 0=l[k]:=by simp[List.getD,h]
 rw[this,List.getElem_cons_drop,abQ]
def abj {l:List UInt8}(c:UInt8)(s:l.length<=4294967296) :
  eY F0 (tx l) (c.toNat:Int)=some (if c∈l then (tx (l.takeWhile (· != c)),tx ((l.dropWhile (· != c)).drop 1),true,()) else (tx [],tx [],false,())):=by
 rw[Z0];refine b9 (fun n i (_:Unit)=>Ap F0 (rn F0) n (rm (tx l) (c.toNat:Int) i)) l.length (fun k _=>c ∉ l.take k) _ (fun n k _ d a=>?_) (fun n _ a=>?_) F0.n 0 () (a1 _) (by simp) (by rw[b1];omega)
 .rw[De,ao,bp d,ae,aE d,ab,QR];by_cases e:l.getD k 0=c
  .left;have f:=aeZ d;rw[e]at f;have j:=YD (b:=l.drop (k+1)) a;have g:((((l.getD k 0).toNat:Int))==(c.toNat:Int))=true:=by rw[e];simp
   have m:I5 0 (k:Int) (l.length:Int)=true:=by simp[I5];omega
   have o:I5 ((k+1:Nat):Int) (l.length:Int) (l.length:Int)=true:=by simp only[I5,az,bu];omega
   rw[g,ae,m,ab,an (by omega),o,ab,Un];simp only[wc,show(0:Int).toNat=0 from rfl];have p:c∈l:=by rw[f];simp
   rw[aj p,YC,show((tx l).extract (k+1) l.length)=tx (l.drop (k+1)) by rw[<-extract_from,ao]];have q:l.takeWhile (· != c)=l.take k:=by
    have:=j.1
    rwa [<-f]at this
   have r:(l.dropWhile (· != c)).drop 1=l.drop (k+1):=by have:=j.2;rw[<-f]at this;rw[this];rfl
   rw[q,r]
  .right;have g:((((l.getD k 0).toNat:Int))==(c.toNat:Int))=false:=by refine cC.2 fun h=>e (UInt8.toNat_inj.1 (by omega))
   refine⟨(),by rw[g,aa,an (by omega)],?_⟩;rw[yH,bH d 0];simp only[abV,en,fA];rintro(h|h)
   .exact a h
   .exact e h.symm
 .rw[gq]at a;rw[De,ao,aO,aa,RR,ag a];rfl
def QS {a b:List UInt8}{c:UInt8}(h:c ∉ a):Lib.indexByte (a++c::b) c=a.length:=by
 induction a with
 |nil=>simp[Lib.indexByte]
 |cons x a d =>
  have e:(x==c)=false:=by simp;rintro rfl;simp at h
  have:=d fun f=>h (h8 _ f)
  rw[pE];unfold Lib.indexByte;rw[e,this];simp
def QT {a:List UInt8}{c:UInt8}(h:c ∉ a):Lib.indexByte a c=-1:=by
 induction a with
 |nil=>rfl
 |cons x a b =>
  have d:(x==c)=false:=by simp;rintro rfl;simp at h
  have:=b fun e=>h (h8 _ e)
  unfold Lib.indexByte;rw[d,this];rfl
def QU {l:List UInt8}{c:UInt8}(h:c∈l):∃a b,l=a++c::b/\c ∉ a:=by
 induction l with
 |nil=>cases h
 |cons x l f =>
  by_cases d:x=c
  .exact⟨[],l,by rw[d];rfl,by simp⟩
  .rcases c7.1 h with e|e
   .exact absurd e.symm d
   .obtain⟨a,b,g,i⟩:=f e;exact⟨x::a,b,by rw[g];rfl,fun j=>by
     rcases c7.1 j with h4|h4
     .exact d h4.symm
     .exact i h4⟩
def aof (l:List UInt8)(c:UInt8):Lib.cut l [c]=(l.takeWhile (· != c),(l.dropWhile (· != c)).drop 1,decide (c∈l)):=by
 unfold Lib.cut;rw[Lib.index_one];by_cases h:c∈l
 .obtain⟨a,b,rfl,d⟩:=QU h;rw[QS d,aj (by omega),(YD d).1,(YD d).2];simp[List.take_append,List.drop_append]
 .rw[QT h,ag (by omega),(apx h).1,(apx h).2];simp[h]
def ph {l:List UInt8}(c:UInt8)(a:l.length<4294967281):strings_Cut F0 (tx l) (tx [c])=some (tx (l.takeWhile (· != c)),tx ((l.dropWhile (· != c)).drop 1),decide (c∈l),()):=by
 have h:Nat.blt (tx l).size 4294967281=true:=by rw[ao];simpa using a
 unfold strings_Cut;rw[h,ab,dB,dB,aof];rfl
abbrev dW:=Int×(Int×(Int×Int))
def QV (x lo a:Int):bn F0 x lo a=some (decide (lo<=x)&&decide (x<=a),()):=by
 rw[acT];by_cases h:lo<=x
 .rw[aW (show x>=lo from h),ae,yJ]
 .rw[a6 (show ¬x>=lo from h),aa,Bool.false_and]
def YE (x lo a:Int):jr F0 x lo a=some (decide (lo<=x)&&decide (x<=a),()):=by
 rw[Yo];by_cases h:lo<=x
 .rw[aW (show x>=lo from h),ae,yJ]
 .rw[a6 (show ¬x>=lo from h),aa,Bool.false_and]
def inB (x lo a:Int):Bool:=decide (lo<=x)&&decide (x<=a)
def e4 (x:dW):Bool:=inB x.1 0 3&&inB x.2.1 0 3&&inB x.2.2.1 0 1000&&inB x.2.2.2 0 99
def amk (a b:Bool):br a (some (b,())) (some (false,()))=some (a&&b,()):=by cases a<;>rfl
def Gv (x:dW):me F0 x=some (e4 x,()):=by rw[acU];simp only[QV,av,amk];simp only[e4,inB,Bool.and_assoc]
def abk (x:dW):Gq F0 x=some (e4 x,()):=by rw[adb];simp only[YE,av,amk];simp only[e4,inB,Bool.and_assoc]
def kz {x:dW}(h:e4 x=true):(0<=x.1/\x.1<=3)/\(0<=x.2.1/\x.2.1<=3)/\(0<=x.2.2.1/\x.2.2.1<=1000)/\(0<=x.2.2.2/\x.2.2.2<=99):=by simp only[e4,inB,az,bu]at h;exact⟨h.1.1.1,h.1.1.2,h.1.2,h.2⟩
def YF (x:dW):List UInt8:=Lib.itoa x.1++62::(Lib.itoa x.2.1++58::(Lib.itoa x.2.2.1++35::Lib.itoa x.2.2.2))
def YG {x:dW}(h:e4 x=true):(YF x).length<=90:=by obtain⟨a,b,c,d⟩:=kz h;have e:=dC (n:=x.1) ⟨by omega,by omega⟩;have f:=dC (n:=x.2.1) ⟨by omega,by omega⟩;have g:=dC (n:=x.2.2.1) ⟨by omega,by omega⟩;have i:=dC (n:=x.2.2.2) ⟨by omega,by omega⟩;simp only[YF,aB,aR];omega
def OS (x:dW):List UInt8:=if e4 x=true then YF x else []
def YH (x:dW):pM F0 x=some (tx (OS x),()):=by
 rw[W7,Gv,av];unfold OS;cases h:e4 x with
 |false=>rfl
 |true =>
  obtain⟨f,g,i,j⟩:=kz h;have a:=dc (n:=x.1) ⟨by omega,by omega⟩;have b:=dc (n:=x.2.1) ⟨by omega,by omega⟩;have c:=dc (n:=x.2.2.1) ⟨by omega,by omega⟩;have d:=dc (n:=x.2.2.2) ⟨by omega,by omega⟩;have e:=YG h;simp only[YF,aB,aR]at e;simp only[bc,aa,a,b,c,d,av,show ByteArray.mk #[62]=tx [62] from rfl,show ByteArray.mk #[58]=tx [58] from rfl,show ByteArray.mk #[35]=tx [35] from rfl,aP,ao];rw[aT (by simp only[aB,aR,bo];omega),ab,aT (by simp only[aB,aR,bo];omega),ab,aT (by simp only[aB,aR,bo];omega),ab,aT (by simp only[aB,aR,bo];omega),ab,aT (by simp only[aB,aR,bo];omega),ab,aT (by simp only[aB,aR,bo];omega),ab];simp[YF]
def ae0 (x:dW):Er F0 x=some (tx (OS x),()):=by
 rw[Yp,abk,av];unfold OS;cases h:e4 x with
 |false=>rfl
 |true =>
  obtain⟨f,g,i,j⟩:=kz h;have a:=iR (n:=x.1) ⟨by omega,by omega⟩;have b:=iR (n:=x.2.1) ⟨by omega,by omega⟩;have c:=iR (n:=x.2.2.1) ⟨by omega,by omega⟩;have d:=iR (n:=x.2.2.2) ⟨by omega,by omega⟩;have e:=YG h;simp only[YF,aB,aR]at e;simp only[bc,aa,a,b,c,d,av,show ByteArray.mk #[62]=tx [62] from rfl,show ByteArray.mk #[58]=tx [58] from rfl,show ByteArray.mk #[35]=tx [35] from rfl,aP,ao];rw[aT (by simp only[aB,aR,bo];omega),ab,aT (by simp only[aB,aR,bo];omega),ab,aT (by simp only[aB,aR,bo];omega),ab,aT (by simp only[aB,aR,bo];omega),ab,aT (by simp only[aB,aR,bo];omega),ab,aT (by simp only[aB,aR,bo];omega),ab];simp[YF]
def ajy (u:Nat):∀c∈Lib.decDigits u,isD c=true:=by
 induction u using Nat.strongRecOn with
 |ind u d =>
  intro c a;rw[Lib.decDigits]at a;have key:∀v:Nat,v<10->isD (UInt8.ofNat (48+v))=true:=fun v e=>by
   have:(UInt8.ofNat (48+v)).toNat=48+v:=by rw[UInt8.toNat_ofNat'];omega
   simp only[isD,this,az,bu];omega
  by_cases b:u<10
  .rw[dif_pos b,fA]at a;rw[a];exact key u b
  .rw[dif_neg b]at a;rcases en.1 a with a|a
   .exact d (u/10) (by omega) c a
   .rw[fA]at a;rw[a];exact key _ (Ry _ (by omega))
def aog (u:Nat):val (Lib.decDigits u) 0=u:=by
 induction u using Nat.strongRecOn with
 |ind u b =>
  have key:∀v:Nat,v<10->(UInt8.ofNat (48+v)).toNat=48+v:=fun v c=>by rw[UInt8.toNat_ofNat'];omega
  rw[Lib.decDigits];by_cases a:u<10
  .rw[dif_pos a];simp only[val,key u a];omega
  .rw[dif_neg a,YA,b (u/10) (by omega)];simp only[val,key (u%10) (Ry _ (by omega))];omega
def aoh {k:Nat}:∀{u:Nat},u<10 ^ (k+1)->1<=(Lib.decDigits u).length/\(Lib.decDigits u).length<=k+1:=by
 induction k with
 |zero =>
  intro u a;rw[Lib.decDigits,dif_pos (by omega)];simp
 |succ k c =>
  intro u a;rw[Lib.decDigits];by_cases b:u<10
  .rw[dif_pos b];simp
  .rw[dif_neg b];have:=c (u:=u/10) (by rw[Nat.pow_succ]at a;omega);rw[aB,b2];omega
def YI (u:Nat):Lib.itoa (u:Int)=Lib.decDigits u:=Lib.itoa_nonneg u
def p4 {n:Int}(a:0<=n)(b:n<=999999):dO (Lib.itoa n)=(n,true):=by obtain⟨u,rfl⟩:∃u:Nat,n=u:=⟨n.toNat,by omega⟩;rw[YI];have c:=aoh (k:=5) (u:=u) (by omega);unfold dO;rw[ag (by omega),aj (gb.2 (ajy u)),aog,YI,aj rfl]
def SH {n:Int}(b:0<=n){c:UInt8}(a:isD c=false):c ∉ Lib.itoa n:=by obtain⟨u,rfl⟩:∃u:Nat,n=u:=⟨n.toNat,by omega⟩;rw[YI];intro h;rw[ajy u c h]at a;cases a
def ta (l:List UInt8)(c:UInt8):List UInt8×List UInt8:=if c∈l then (l.takeWhile (· != c),(l.dropWhile (· != c)).drop 1) else ([],[])
def dp (l:List UInt8)(c:UInt8):List UInt8×List UInt8:=(l.takeWhile (· != c),(l.dropWhile (· != c)).drop 1)
def SJ (l:List UInt8):dW:=((dO (ta l 62).1).1,(dO (ta (ta l 62).2 58).1).1,(dO (ta (ta (ta l 62).2 58).2 35).1).1,(dO (ta (ta (ta l 62).2 58).2 35).2).1)
def ahr (l:List UInt8):dW:=((dO (dp l 62).1).1,(dO (dp (dp l 62).2 58).1).1,(dO (dp (dp (dp l 62).2 58).2 35).1).1,(dO (dp (dp (dp l 62).2 58).2 35).2).1)
def adk {a b:List UInt8}{c:UInt8}(h:c ∉ a):ta (a++c::b) c=(a,b):=by unfold ta;rw[aj (by simp),(YD h).1,(YD h).2];rfl
def adl {a b:List UInt8}{c:UInt8}(h:c ∉ a):dp (a++c::b) c=(a,b):=by unfold dp;rw[(YD h).1,(YD h).2];rfl
def aml {x:dW}(h:e4 x=true):SJ (YF x)=x:=by obtain⟨a,b,c,d⟩:=kz h;unfold SJ YF;rw[adk (SH a.1 (by decide)),adk (SH b.1 (by decide)),adk (SH c.1 (by decide))];simp only[p4 a.1 (by omega),p4 b.1 (by omega),p4 c.1 (by omega),p4 d.1 (by omega)]
def ae1 {x:dW}(h:e4 x=true):ahr (YF x)=x:=by obtain⟨a,b,c,d⟩:=kz h;unfold ahr YF;rw[adl (SH a.1 (by decide)),adl (SH b.1 (by decide)),adl (SH c.1 (by decide))];simp only[p4 a.1 (by omega),p4 b.1 (by omega),p4 c.1 (by omega),p4 d.1 (by omega)]
def Mu (l:List UInt8):dW×Bool:=if e4 (SJ l)=true/\YF (SJ l)=l then (SJ l,true) else ((0,0,0,0),false)
def ae2 (l:List UInt8)(c:UInt8):((l.dropWhile (· != c)).drop 1).length<=l.length:=by rw[bT];have:=(List.dropWhile_sublist (l:=l) (· != c)).length_le;omega
def adm (l:List UInt8)(c:UInt8):(ta l c).2.length<=l.length:=by
 unfold ta;split
 .exact ae2 l c
 .simp
def VL (l:List UInt8)(c:UInt8):(dp l c).2.length<=l.length:=ae2 l c
def YJ {l:List UInt8}(c:UInt8)(a:l.length<=4294967296):∃b,eY F0 (tx l) (c.toNat:Int)=some (tx (ta l c).1,tx (ta l c).2,b,()):=by
 rw[abj c a];unfold ta;split
 .exact⟨_,rfl⟩
 .exact⟨_,rfl⟩
def amm {l:List UInt8}(g:l.length<=4294967280):LI F0 (tx l)=some ((Mu l).1,(Mu l).2,()):=by
 obtain⟨i,c⟩:=YJ (l:=l) 62 (by omega);obtain⟨j,d⟩:=YJ (l:=(ta l 62).2) 58 (by have:=adm l 62;omega);obtain⟨k,e⟩:=YJ (l:=(ta (ta l 62).2 58).2) 35 (by have:=adm l 62;have:=adm (ta l 62).2 58;omega);rw[acV];rw[show eY F0 (tx l) 62=_ from c,av,show eY F0 _ 58=_ from d,av,show eY F0 _ 35=_ from e,av,uQ,av,uQ,av,uQ,av,uQ,av,show ah=tx [] from rfl,QQ];have f:((dO (ta l 62).1).1,(dO (ta (ta l 62).2 58).1).1,(dO (ta (ta (ta l 62).2 58).2 35).1).1,(dO (ta (ta (ta l 62).2 58).2 35).2).1)=SJ l:=rfl;simp only[f,YH,av,QQ];unfold Mu OS;by_cases cR:e4 (SJ l)=true
 .rw[aj cR];by_cases a:YF (SJ l)=l
  .have b:¬l=[]:=by rw[<-a];simp[YF]
   rw[aj ⟨cR,a⟩,a6 b,aa,aW a];rfl
  .rw[ag (fun h=>a h.2),a6 a];cases decide (l=[])<;>rfl
 .rw[ag cR,ag (fun h=>cR h.1)];by_cases b:l=[]
  .rw[aW b];rfl
  .rw[a6 b,aa,a6 (fun h=>b h.symm)];rfl
def akA {l:List UInt8}(h:l.length<4294967281):LN F0 (tx l)=some ((Mu l).1,(Mu l).2,()):=by
 have i:=ph (l:=l) 62 h;have t:=VL l 62;have u:=VL (dp l 62).2 58;have j:=ph (l:=(dp l 62).2) 58 (by omega);have k:=ph (l:=(dp (dp l 62).2 58).2) 35 (by omega);rw[ade];rw[show ByteArray.mk #[62]=tx [62] from rfl,i,av,show ByteArray.mk #[58]=tx [58] from rfl];rw[show strings_Cut F0 (tx ((l.dropWhile (· != 62)).drop 1)) (tx [58])=_ from j,av,show ByteArray.mk #[35]=tx [35] from rfl];rw[show strings_Cut F0 (tx (((dp l 62).2.dropWhile (· != 58)).drop 1)) (tx [35])=_ from k,av];have m:=fun (a b c d:ByteArray)=>(show bd [a,b,c,d] 0 ByteArray.empty=a from rfl)
 have n:=fun (a b c d:ByteArray)=>(show bd [a,b,c,d] 1 ByteArray.empty=b from rfl)
 have o:=fun (a b c d:ByteArray)=>(show bd [a,b,c,d] 2 ByteArray.empty=c from rfl)
 have p:=fun (a b c d:ByteArray)=>(show bd [a,b,c,d] 3 ByteArray.empty=d from rfl)
 rw[show b5 0 4=true from rfl,ab,m,w5,av,show b5 1 4=true from rfl,ab,n,w5,av,show b5 2 4=true from rfl,ab,o,w5,av,show b5 3 4=true from rfl,ab,p,w5,av];have q:((dO (l.takeWhile (· != 62))).1,(dO ((dp l 62).2.takeWhile (· != 58))).1,(dO ((dp (dp l 62).2 58).2.takeWhile (· != 35))).1,(dO (((dp (dp l 62).2 58).2.dropWhile (· != 35)).drop 1)).1)=ahr l:=rfl;simp only[q,abk,ae0,av,QQ];unfold Mu OS;by_cases cR:e4 (ahr l)=true
 .rw[aj cR,cR];by_cases e:YF (ahr l)=l
  .have r:SJ l=ahr l:=by have:=aml cR;rw[e]at this;exact this
   rw[r,aj ⟨cR,e⟩,aW e];rfl
  .have:¬(e4 (SJ l)=true/\YF (SJ l)=l):=by rintro⟨f,g⟩;have:=ae1 f;rw[g]at this;rw[this]at e;exact e g
   rw[ag this,a6 e];rfl
 .have:¬(e4 (SJ l)=true/\YF (SJ l)=l):=by rintro⟨f,g⟩;have:=ae1 f;rw[g]at this;rw[this]at cR;exact cR f
  rw[ag this];have s:e4 (ahr l)=false:=by simpa using cR
  rw[s];rfl
def amn (l:List UInt8):e4 (Mu l).1=true:=by
 unfold Mu;split
 .rename_i a;exact a.1
 .rfl
def parts (c:UInt8):List UInt8->List (List UInt8)
 |[]=>[[]]|x::l=>if x=c then []::parts c l else match parts c l with
  |p::a=>(x::p)::a|[]=>[[x]]
def CJ (c:UInt8)(l:List UInt8):parts c l≠[]:=by
 cases l with
 |nil=>simp[parts]
 |cons x l =>
  unfold parts;split
  .simp
  .split<;>simp
def YK {c:UInt8}{a:List UInt8}(h:c ∉ a):parts c a=[a]:=by
 induction a with
 |nil=>rfl
 |cons x a b =>
  have d:¬x=c:=by rintro rfl;simp at h
  unfold parts;rw[ag d,b fun e=>h (h8 _ e)]
def ae3 {c:UInt8}{a b:List UInt8}(h:c ∉ a):parts c (a++c::b)=a::parts c b:=by
 induction a with
 |nil =>
  rw[nD]
  conv=>lhs;unfold parts
  rw[aj rfl]
 |cons x a d =>
  have e:¬x=c:=by rintro rfl;simp at h
  rw[pE]
  conv=>lhs;unfold parts
  rw[ag e,d fun f=>h (h8 _ f)]
def Bq (c:UInt8)(l:List UInt8):(parts c l).length<=l.length+1:=by
 induction l with
 |nil=>simp[parts]
 |cons x l a =>
  unfold parts;split
  .simp only[aR];omega
  .split
   .rename_i p b h;rw[h]at a;simp only[aR]at a ⊢;omega
   .simp
def uR {c:UInt8}:∀{l p:List UInt8},p∈parts c l->p.length<=l.length
 |[],p,h=>by simp only[parts,fA]at h;rw[h];simp
 |x::l,p,h=>by
  unfold parts at h;split at h
  .rcases c7.1 h with rfl|h
   .simp
   .have:=uR h;simp only[aR];omega
  .split at h
   .rename_i q b a;rcases c7.1 h with rfl|h
    .have:=uR (c:=c) (l:=l) (p:=q) (by rw[a];simp);simp only[aR];omega
    .have:=uR (c:=c) (l:=l) (p:=p) (by rw[a];simp[h]);simp only[aR];omega
   .rw[fA]at h;rw[h];simp
def TT (l:List UInt8)(a b:Nat):(tx l).extract a b=tx ((l.drop a).take (b-a)):=by rw[MK ((tx l).extract a b),Lib.extract_data,dB]
def abl {l:List UInt8}(c:UInt8)(w:l.length<=4294967296):po F0 (tx l) (c.toNat:Int)=some ((parts c l).map tx,()):=by
 have x:=Bq c l;rw[ZZ];refine b9 (fun n i (z:Nat×List ByteArray)=>mh F0 (BU F0) n (ih (tx l) (c.toNat:Int) (z.1:Int) i z.2)) (l.length+1)
  (fun k z=>if k<=l.length then ∃done:List (List UInt8),z.2=done.map tx/\parts c l=done++parts c (l.drop z.1)/\z.1<=k/\c ∉ (l.drop z.1).take (k-z.1) else z.2=(parts c l).map tx) _ (fun n k z y d=>.inr ?_) (fun n z d=>?_) F0.n 0 (0,[]) (a1 _) ?_ (by rw[b1];omega)
 .obtain⟨a,xs⟩:=z;rw[aj (by omega)]at d;obtain⟨done,rfl,e,p,f⟩:=d;simp only at e p f;have A:done.length+1<=l.length+1:=by have g:=C2 List.length e;have B:0<(parts c (l.drop a)).length:=List.length_pos_iff.2 (CJ c _);rw[aB]at g;omega
  have q:decide ((k:Int)<=(l.length:Int))=true:=aW (by omega);rw[Dd,ao,q,ae];have r:I5 (a:Int) (k:Int) (l.length:Int)=true:=by simp only[I5,az,bu];omega
  have s:∀b:ByteArray,fc F0 (done.map tx).length [b].length 16=true:=fun b=>aC (by omega) (by omega) (by rw[fB];simp only[aR,bo];omega)
  simp only[wc,TT,r,s,ab,an (show k+1<=9223372036854775807 by omega)];by_cases t:k=l.length
  .subst t;rw[Mx,ae];refine⟨(l.length+1,(parts c l).map tx),?_,by rw[ag (by omega)]⟩;have u:(l.drop a).take (l.length-a)=l.drop a:=ad8 (by rw[bT];omega);rw[u]at f ⊢;rw[e,YK f];simp
  .have hlt:k<l.length:=by omega
   have v:(((k:Nat):Int)==(l.length:Int))=false:=cC.2 (by omega);rw[v,aa,aE hlt,ab,QR];have m:l.drop a=(l.drop a).take (k-a)++l.getD k 0::l.drop (k+1):=by
    have:=aeZ (l:=l.drop a) (k:=k-a) (by rw[bT];omega);have o:(l.drop a).getD (k-a) 0=l.getD k 0:=by simp only[I6,Tb];rw[show a+(k-a)=k by omega]
    rw[o,List.drop_drop,show a+(k-a+1)=k+1 by omega]at this;exact this
   by_cases j:l.getD k 0=c
   .have g:((((l.getD k 0).toNat:Int))==(c.toNat:Int))=true:=by rw[j];simp
    rw[g,ae];refine⟨(k+1,done.map tx++[tx ((l.drop a).take (k-a))]),rfl,?_⟩;rw[aj (by omega)];refine⟨done++[(l.drop a).take (k-a)],by simp,?_,bq _,by simp⟩;rw[j]at m;rw[e,m,ae3 f,<-m];simp
   .have g:((((l.getD k 0).toNat:Int))==(c.toNat:Int))=false:=cC.2 fun h=>j (UInt8.toNat_inj.1 (by omega))
    rw[g,aa];refine⟨(a,done.map tx),rfl,?_⟩;rw[aj (by omega)];refine⟨done,rfl,e,by show a<=k+1;omega,?_⟩;have o:(l.drop a).take (k+1-a)=(l.drop a).take (k-a)++[l.getD k 0]:=by
     rw[show k+1-a=(k-a)+1 by omega,yH]
     congr 1
     have:(l.drop a)[k-a]?=some (l.getD k 0):=by rw[Tb,show a+(k-a)=k by omega];exact bH hlt 0
     rw[this];rfl
    show c ∉ (l.drop a).take (k+1-a);rw[o,en,fA];rintro(h|h)
    .exact f h
    .exact j h.symm
 .rw[ag (by omega)]at d;rw[Dd,ao,a6 (by omega),aa,RQ,d]
 .rw[aj (by omega)];exact⟨[],rfl,rfl,bq _,by simp⟩
def adn (c:UInt8):∀(n:Nat) (l:List UInt8),l.length<=n->∀k,k=Lib.countB (tx l) (tx [c])->Lib.splitB (tx [c]) 0 k (tx l)=(parts c l).map tx:=by
 intro n
 induction n with
 |zero =>
  intro l f k m;obtain rfl:l=[]:=Pn (by omega);have d:Lib.indexB (tx []) (tx [c])=-1:=by show Lib.index (tx []).data.toList (tx [c]).data.toList=-1;rw[dB,dB,Lib.index_one];rfl
  rw[Lib.splitB_miss _ _ _ _ d];rfl
 |succ n o =>
  intro l f k m;by_cases h:c∈l
  .obtain⟨a,b,rfl,g⟩:=QU h;have d:Lib.indexB (tx (a++c::b)) (tx [c])=(a.length:Int):=by show Lib.index (tx (a++c::b)).data.toList (tx [c]).data.toList=_;rw[dB,dB,Lib.index_one,QS g]
   have i:(tx [c]).size=1:=ao [c];have j:(tx (a++c::b)).extract (a.length+(tx [c]).size) (tx (a++c::b)).size=tx b:=by
    rw[extract_from,i]
    congr 1
    simp[List.drop_append]
   have p:=Lib.countB_hit (tx (a++c::b)) (tx [c]) a.length (by rw[i];omega) d;rw[j]at p;obtain⟨e,rfl⟩:∃e,k=e+1:=⟨Lib.countB (tx b) (tx [c]),by omega⟩;rw[Lib.splitB_hit _ _ _ _ _ d,j,o b (by simp only[aB,aR]at f;omega) e (by omega),ae3 g,Mz,YC];simp[List.take_append]
  .have d:Lib.indexB (tx l) (tx [c])=-1:=by show Lib.index (tx l).data.toList (tx [c]).data.toList=-1;rw[dB,dB,Lib.index_one,QT h]
   rw[Lib.splitB_miss _ _ _ _ d,YK h];rfl
def YL {l:List UInt8}(c:UInt8)(a:l.length<4294967281):pA F0 (tx l) (c.toNat:Int)=some ((parts c l).map tx,()):=by
 have b:strOf [(c.toNat:Int)]=tx [c]:=by
  simp only[strOf,tx,kL,List.map_nil]
  congr 2
  simp
 have h:Nat.blt (tx l).size 4294967281=true:=by rw[ao];simpa using a
 have d:Nat.ble 1 (tx [c]).size=true:=by rw[ao];rfl
 rw[aam,b];unfold strings_Split;rw[h,d,Bool.and_self,ab,av,adn c l.length l (bq _) _ rfl]
def yF {σ V:Type}(f:σ->List UInt8->Option (σ×V)):σ->List (List UInt8)->Option (List V)
 |_,[]=>some []|s,p::a=>match f s p with
  |none=>none|some (c,b)=>match yF f c a with
   |none=>none|some r=>some (b::r)
def Gw {σ V γ:Type}(f:σ->List UInt8->Option (σ×V))(c:σ->Prop)(P:List (List UInt8))(X:Nat->σ->Int->List V->Option γ)(d:Option γ)(e:List V->Option γ)
  (i:∀n k s xs p,k<P.length->P[k]?=some p->c s->xs.length=k->X (n+1) s (k:Int) xs=match f s p with|none=>d|some (a,b)=>X n a ((k+1:Nat):Int) (xs++[b]))
  (j:∀n s xs,xs.length=P.length->X (n+1) s (P.length:Int) xs=e xs) (m:∀s p a b,c s->f s p=some (a,b)->c a) :
  ∀(n k:Nat) (s:σ) (xs:List V),k<=P.length->P.length-k<n->c s->xs.length=k->X n s (k:Int) xs=match yF f s (P.drop k) with|none=>d|some l=>e (xs++l)
 |0,_,_,_,_,h,_,_=>absurd h (Tg _)|n+1,k,s,xs,v,w,o,g=>by
  rcases Tj k P.length with hlt|x
  .have t:P[k]?=some P[k]:=kK hlt;rw[i n k s xs P[k] hlt t o g,VZ hlt];simp only[yF];cases u:f s P[k]with
   |none=>rfl
   |some q =>
    obtain⟨a,b⟩:=q;simp only;rw[Gw f c P X d e i j m n (k+1) a (xs++[b]) hlt (by omega) (m _ _ _ _ o u) (by simp[g])];cases yF f a (P.drop (k+1)) with
    |none=>rfl|some r=>simp
  .obtain rfl:k=P.length:=by omega
   rw[j n s xs g,aaM];simp[yF]
def K0 {σ V:Type}{f:σ->List UInt8->Option (σ×V)}:∀{P:List (List UInt8)} {s:σ} {r:List V},yF f s P=some r->r.length=P.length
 |[],_,r,h=>by cases h;rfl
 |p::b,s,r,h=>by
  simp only[yF]at h;split at h
  .cases h
  .split at h
   .cases h
   .rename_i a;cases h;simp[K0 a]
def YM {σ V:Type}{f:σ->List UInt8->Option (σ×V)}{Q:V->Prop}(a:∀s p c b,f s p=some (c,b)->Q b):∀{P:List (List UInt8)} {s:σ} {r:List V},yF f s P=some r->∀b∈r,Q b
 |[],_,r,h=>by cases h;simp
 |p::g,s,r,h=>by
  simp only[yF]at h;split at h
  .cases h
  .rename_i d;split at h
   .cases h
   .rename_i e;cases h;intro b hb;rcases c7.1 hb with rfl|hb
    .exact a _ _ _ _ d
    .exact YM a e b hb
def txF (_:Unit)(p:List UInt8):Option (Unit×dW):=if (Mu p).2=true then some ((),(Mu p).1) else none
def hn (l:List UInt8):List dW×Bool:=if l=[] then ([],true) else match yF txF () (parts 44 l) with|none=>([],false)|some r=>(r,true)
def abm (l:List UInt8):(hn l).1.length<=l.length+1:=by
 unfold hn;split
 .simp
 .split
  .simp
  .rename_i r a;have:=K0 a;have:=Bq 44 l;simp only;omega
def amp (l:List UInt8):∀x∈(hn l).1,e4 x=true:=by
 unfold hn;split
 .simp
 .split
  .simp
  .rename_i r a;refine YM (Q:=fun x=>e4 x=true) (fun s p c b h=>?_) a;unfold txF at h;split at h
   .cases h;exact amn p
   .cases h
def SK (l:List UInt8):((tx l).toList==ah.toList)=decide (l=[]):=QQ l []
def ado (P:List (List UInt8))(k:Nat){p:List UInt8}(h:P[k]?=some p):bd (P.map tx) (k:Int) ByteArray.empty=tx p:=by show(P.map tx).getD k ByteArray.empty=_;simp[I6,h]
def abn {l:List UInt8}(f:l.length<=1073741824):ue F0 (tx l)=some ((hn l).1,(hn l).2,()):=by
 have g:=Bq 44 l;rw[Z1,SK];unfold hn;by_cases a:l=[]
 .rw[aW a,aj a];rfl
 .rw[a6 a,aa,ag a,show po F0 (tx l) 44=_ from abl 44 (by omega),av];have:=Gw txF (fun _=>True) (parts 44 l) (fun n _ i xs=>As F0 (rq F0) n (rp i xs ((parts 44 l).map tx))) (some ([],false,())) (fun xs=>some (xs,true,())) (fun n k s xs p c d _ e=>?_) (fun n s xs e=>?_) (fun _ _ _ _ _ _=>trivial) F0.n 0 () [] (a1 _) (by rw[b1];omega) trivial rfl
  .simp only[V3,nD]at this;rw[show((0:Nat):Int)=0 from rfl]at this;rw[this];cases yF txF () (parts 44 l)<;>rfl
  .have h:=uR (abT d);rw[Df,fB,bp c,ae,aE c,ab,ado _ _ d,amm (by omega),av];unfold txF;cases cR:(Mu p).2 with
   |false=>simp only[h9,ae,Uo];rfl
   |true =>
    simp only[bc,aa];rw[aC (b:=[(Mu p).1].length) (k:=32) (by omega) (by omega) (by simp only[aR,bo];omega),ab,an (by omega)];rfl
  .rw[Df,fB,aO,aa,RT]
def ahs {l:List UInt8}(f:l.length<=1073741824):CG F0 (tx l)=some ((hn l).1,(hn l).2,()):=by
 have g:=Bq 44 l;rw[aan,SK];unfold hn;by_cases a:l=[]
 .rw[aW a,aj a];rfl
 .rw[a6 a,aa,ag a,show pA F0 (tx l) 44=_ from YL 44 (by omega),av];have:=Gw txF (fun _=>True) (parts 44 l) (fun n _ i xs=>A5 F0 (sT F0) n (sS ((parts 44 l).map tx) (((parts 44 l).map tx).length:Int) i xs)) (some ([],false,())) (fun xs=>some (xs,true,())) (fun n k s xs p c d _ e=>?_) (fun n s xs e=>?_) (fun _ _ _ _ _ _=>trivial) F0.n 0 () [] (a1 _) (by rw[b1];omega) trivial rfl
  .simp only[V3,nD]at this;rw[show((0:Nat):Int)=0 from rfl]at this;rw[this];cases yF txF () (parts 44 l)<;>rfl
  .have h:=uR (abT d);rw[Es,fB,bp c,ae,aE c,ab,ado _ _ d,akA (by omega),av];unfold txF;cases cR:(Mu p).2 with
   |false=>simp only[h9,ae,Vq];rfl
   |true =>
    simp only[bc,aa];rw[aC (b:=[(Mu p).1].length) (k:=32) (by omega) (by omega) (by simp only[aR,bo];omega),ab,an (by omega)];rfl
  .rw[Es,fB,aO,aa,Sz]
abbrev NL:=Int×List dW
def CK (a:Int)(p:List UInt8):Option (Int×NL) :=
 if 124∈p/\(dO (dp p 124).1).2=true/\(hn (dp p 124).2).2=true/\a<(dO (dp p 124).1).1/\(dO (dp p 124).1).1<=60/\(hn (dp p 124).2).1.length<=2
 then some ((dO (dp p 124).1).1,(dO (dp p 124).1).1,(hn (dp p 124).2).1) else none
def bZ (l:List UInt8):List NL×Bool:=if l=[] then ([],true) else match parts 47 l with
 |[]=>([],false)|b::a=>if ¬b=[]\/30<a.length then ([],false) else match yF CK 0 a with
  |none=>([],false)|some r=>(r,true)
def adp (s:NL):Prop:=0<=s.1/\s.1<=60/\s.2.length<=2/\∀x∈s.2,e4 x=true
def YN {d:Int}{p:List UInt8}{a:Int}{b:NL}(h:CK d p=some (a,b)):adp b/\a=b.1:=by
 unfold CK at h;split at h
 .rename_i c;cases h;exact⟨⟨(YB _).1,c.2.2.2.2.1,c.2.2.2.2.2,amp _⟩,rfl⟩
 .cases h
def OT (l:List UInt8):∀s∈(bZ l).1,adp s:=by
 unfold bZ;split
 .simp
 .split
  .simp
  .split
   .simp
   .split
    .simp
    .rename_i a;exact YM (Q:=adp) (fun s p c b h=>(YN h).1) a
def w6 (l:List UInt8):(bZ l).1.length<=30:=by
 unfold bZ;split
 .simp
 .split
  .simp
  .split
   .simp
   .split
    .simp
    .rename_i a;have:=K0 a;simp only;omega
def br6 {U:Type}(a b c d e f:Bool)(x y:U):br (!a) x (br (!b) x (br (!c) x (br d x (br e x (br f x y)))))=if a=true/\b=true/\c=true/\d=false/\e=false/\f=false then y else x:=by cases a<;>cases b<;>cases c<;>cases d<;>cases e<;>cases f<;>rfl
def br5 {U:Type}(a b c d f:Bool)(x y:U):br (!a) x (br (!b) x (br (!c) x (br (!d) x (br f x y))))=if a=true/\b=true/\c=true/\d=true/\f=false then y else x:=by cases a<;>cases b<;>cases c<;>cases d<;>cases f<;>rfl
def Gx {l:List UInt8}(G:l.length<=1073741824):jy F0 (tx l)=some ((bZ l).1,(bZ l).2,()):=by
 have q:=Bq 47 l;have r:=fun p (h:p∈parts 47 l)=>uR h
 rw[Z3,SK];unfold bZ;by_cases f:l=[]
 .rw[aW f,aj f];rfl
 .rw[a6 f,aa,ag f,show po F0 (tx l) 47=_ from abl 47 (by omega),av];cases t:parts 47 l with
  |nil=>exact absurd t (CJ 47 l)
  |cons c a =>
   rw[t]at q r;simp only[aR]at q;have x:bd ((c::a).map tx) 0 ByteArray.empty=tx c:=rfl;have y:b5 0 (((c::a).map tx).length:Int)=true:=aE (k:=0) (by simp);simp only[y,ab,x,SK];by_cases d:c=[]
   .by_cases z:30<a.length
    .rw[aW d,bc,aa,aW (by rw[fB,aR];omega),ae,aj (.inr z)]
    .rw[aW d,bc,aa,a6 (by rw[fB,aR];omega),aa,ag (by simp[d];omega)];have:=Gw CK (fun s=>0<=s/\s<=60) a (fun n s i xs=>Aw F0 (ru F0) n (rr s (i+1) [] xs ((c::a).map tx))) (some ([],false,())) (fun xs=>some (xs,true,())) (fun n k s xs p H u A B=>?_) (fun n s xs B=>?_) (fun s p I b A C=>?_) F0.n 0 0 [] (a1 _) (by rw[b1];omega) ⟨by omega,by omega⟩ rfl
     .simp only[V3,nD]at this;rw[show((0:Nat):Int)+1=1 from rfl]at this;rw[this];cases yF CK 0 a<;>rfl
     .have K:=r p (h8 _ (abT u));have v:k+1<((c::a).map tx).length:=by simp;omega
      have D:bd ((c::a).map tx) (((k+1:Nat)):Int) ByteArray.empty=tx p:=ado _ _ (by simpa using u);rw[show((k:Int)+1)=((k+1:Nat):Int) by omega,Dg,bp v,ae,aE v,ab,D,show eY F0 (tx p) 124=_ from abj 124 (by omega),av];have L:=VL p 124;have M:=YB (dp p 124).1;have N:=abm (dp p 124).2;by_cases g:(124:UInt8)∈p
      .rw[aj g];simp only[uQ,av];rw[show ue F0 (tx ((p.dropWhile (· != 124)).drop 1))=some ((hn (dp p 124).2).1,(hn (dp p 124).2).2,()) from abn (by show(dp p 124).2.length<=_;omega),av];simp only[HK];rw[br6];unfold CK;have E:(dO (p.takeWhile (· != 124)))=dO (dp p 124).1:=rfl;rw[E];by_cases e:124∈p/\(dO (dp p 124).1).2=true/\(hn (dp p 124).2).2=true/\s<(dO (dp p 124).1).1/\(dO (dp p 124).1).1<=60/\(hn (dp p 124).2).1.length<=2
       .have j:decide ((dO (dp p 124).1).1<=s)=false:=a6 (by omega);have m:decide ((dO (dp p 124).1).1>60)=false:=a6 (by omega);have o:decide (((hn (dp p 124).2).1.length:Int)>2)=false:=a6 (by omega);rw[aj e,aj ⟨rfl,e.2.1,e.2.2.1,j,m,o⟩];simp only;rw[aC (b:=[((dO (dp p 124).1).1,(hn (dp p 124).2).1)].length) (k:=32) (by omega) (by omega) (by simp only[aR,bo];omega),ab,an (by omega)];rfl
       .rw[ag e,ag (fun h=>e ?_)];have j:decide ((dO (dp p 124).1).1<=s)=false:=h.2.2.2.1;have m:decide ((dO (dp p 124).1).1>60)=false:=h.2.2.2.2.1;have o:decide (((hn (dp p 124).2).1.length:Int)>2)=false:=h.2.2.2.2.2;have O:=abW j;have P:=abW m;have Q:=abW o;exact⟨g,h.2.1,h.2.2.1,by omega,by omega,by omega⟩
      .rw[ag g];unfold CK;rw[ag (fun h=>g h.1),uQ,av,show ue F0 (tx [])=_ from abn (by simp),av];simp only[h9,ae,HK]
     .rw[show((a.length:Int)+1)=(((c::a).map tx).length:Int) by simp,Dg,aO,aa,RU]
     .obtain⟨w,F⟩:=YN C;rw[F];exact⟨w.1,w.2.1⟩
   .rw[a6 d,h9,ae,aj (.inl d)]
def aht {l:List UInt8}(E:l.length<=1073741824):Hc F0 (tx l)=some ((bZ l).1,(bZ l).2,()):=by
 have g:=Bq 47 l;have j:=fun p (h:p∈parts 47 l)=>uR h
 rw[aap,SK];unfold bZ;by_cases f:l=[]
 .rw[aW f,aj f];rfl
 .rw[a6 f,aa,ag f,show pA F0 (tx l) 47=_ from YL 47 (by omega),av];cases m:parts 47 l with
  |nil=>exact absurd m (CJ 47 l)
  |cons c a =>
   rw[m]at g j;simp only[aR]at g;have t:bd ((c::a).map tx) 0 ByteArray.empty=tx c:=rfl;have u:b5 0 (((c::a).map tx).length:Int)=true:=aE (k:=0) (by simp);have hlen:((c::a).map tx).length=a.length+1:=by simp
   have v:I5 1 (((c::a).map tx).length:Int) (((c::a).map tx).length:Int)=true:=by rw[hlen];simp only[I5,az,bu];omega
   have w:((((c::a).map tx).take (((c::a).map tx).length:Int).toNat).drop (1:Int).toNat)=a.map tx:=by rw[wc,gq];rfl
   simp only[u,ab,t,SK,v,w];rw[hlen,aD (by omega) (by omega)];by_cases e:c=[]
   .by_cases x:30<a.length
    .rw[aW e,bc,aa,aW (by omega),ae,aj (.inr x)]
    .rw[aW e,bc,aa,a6 (by omega),aa,ag (by simp[e];omega)];have:=Gw CK (fun s=>0<=s/\s<=60) a (fun n s i xs=>A8 F0 (sV F0) n (sU s (a.map tx) ((a.map tx).length:Int) i xs)) (some ([],false,())) (fun xs=>some (xs,true,())) (fun n k s xs p o q y z=>?_) (fun n s xs z=>?_) (fun s p F b y A=>?_) F0.n 0 0 [] (a1 _) (by rw[b1];omega) ⟨by omega,by omega⟩ rfl
     .simp only[V3,nD]at this;rw[show((0:Nat):Int)=0 from rfl]at this;rw[this];cases yF CK 0 a<;>rfl
     .have G:=j p (h8 _ (abT q));have H:=VL p 124;have I:=YB (dp p 124).1;have K:=abm (dp p 124).2;rw[Et,fB,bp o,ae,aE o,ab,ado _ _ q,show ByteArray.mk #[124]=tx [124] from rfl,ph 124 (by omega),av];simp only[w5,av];rw[show CG F0 (tx ((p.dropWhile (· != 124)).drop 1))=some ((hn (dp p 124).2).1,(hn (dp p 124).2).2,()) from ahs (by show(dp p 124).2.length<=_;omega),av];simp only[Vr,YE,av];rw[br5];unfold CK;have B:(dO (p.takeWhile (· != 124)))=dO (dp p 124).1:=rfl;rw[B,aD (n:=s+1) (by omega) (by omega)];by_cases d:124∈p/\(dO (dp p 124).1).2=true/\(hn (dp p 124).2).2=true/\s<(dO (dp p 124).1).1/\(dO (dp p 124).1).1<=60/\(hn (dp p 124).2).1.length<=2
      .have C:(decide (s+1<=(dO (dp p 124).1).1)&&decide ((dO (dp p 124).1).1<=60))=true:=by rw[aW (by omega),aW (by omega)];rfl
       rw[aj d,aj ⟨aW d.1,d.2.1,d.2.2.1,C,a6 (by omega)⟩];simp only;rw[aC (b:=[((dO (dp p 124).1).1,(hn (dp p 124).2).1)].length) (k:=32) (by omega) (by omega) (by simp only[aR,bo];omega),ab,an (by omega)]
      .rw[ag d,ag (fun h=>d ⟨wb h.1,h.2.1,h.2.2.1,by have:=h.2.2.2.1;rw[az]at this;have:=wb this.1;omega,by have:=h.2.2.2.1;rw[az]at this;have:=wb this.2;omega,by have:=abW h.2.2.2.2;omega⟩)]
     .rw[Et,fB,aO,aa,SA]
     .obtain⟨r,D⟩:=YN A;rw[D];exact⟨r.1,r.2.1⟩
   .rw[a6 e,h9,ae,aj (.inl e)]
abbrev kJ:=List Int×List Int
def QW (l:kJ):Bool:=decide (l.1.length=4)&&(decide (l.2.length=4)&&(l.1.all (fun n=>inB n 0 400)&&l.2.all (fun n=>inB n 0 100)))
def QX {l:kJ}:nJ F0 l=some (QW l,()):=by
 rw[RX];have e:∀n:Nat,((n:Int) != 4)= !decide (n=4):=fun n=>by
  by_cases h:n=4
  .subst h;rfl
  .rw[a6 h];exact GD.2 (by omega)
 rw[e,e];unfold QW;by_cases c:l.1.length=4
 .by_cases g:l.2.length=4
  .rw[aW c,aW g,bc,aa,aa,yJ,yJ];refine b9 (fun n i (_:Unit)=>oo F0 (kS F0) n (kR i l.1 l.2)) 4 (fun k _=>(∀x∈l.1.take k,inB x 0 400=true)/\∀x∈l.2.take k,inB x 0 100=true) _ (fun n k _ o b=>?_) (fun n _ b=>?_) F0.n 0 () (by omega) (by simp) (by rw[b1];omega)
   .have d:k<l.1.length:=by omega
    have f:k<l.2.length:=by omega
    rw[wv,show decide ((k:Int)<4)=true from aW (by omega),ae,aE d,ab,jv,QV,av,aE f,ab,jv,QV,av];show(br (!inB (l.1.getD k 0) 0 400) _ (br (!inB (l.2.getD k 0) 0 100) _ _)=_)\/∃p:Unit,br (!inB (l.1.getD k 0) 0 400) _ (br (!inB (l.2.getD k 0) 0 100) _ _)=_/\_;cases j:inB (l.1.getD k 0) 0 400 with
    |false =>
     left;rw[h9,ae,B3];have:l.1.all (fun n=>inB n 0 400)=false:=V4.2 ⟨_,fe d 0,by rw[j];simp⟩;rw[this];rfl
    |true =>
     cases m:inB (l.2.getD k 0) 0 100 with
     |false =>
      left;rw[bc,aa,h9,ae,B3];have:l.2.all (fun n=>inB n 0 100)=false:=V4.2 ⟨_,fe f 0,by rw[m];simp⟩;rw[this,Bool.and_false]
     |true =>
      right;refine⟨(),by rw[bc,aa,aa,an (by omega)],?_,?_⟩
      .intro x a;rw[yH,bH d 0]at a;rcases en.1 a with a|a
       .exact b.1 x a
       .simp only[abV,fA]at a;rw[a];exact j
      .intro x a;rw[yH,bH f 0]at a;rcases en.1 a with a|a
       .exact b.2 x a
       .simp only[abV,fA]at a;rw[a];exact m
   .rw[ad8 (by omega),ad8 (by omega)]at b;rw[wv,show decide (((4:Nat):Int)<4)=false from rfl,aa,Md,gb.2 b.1,gb.2 b.2];rfl
  .rw[aW c,a6 g];rfl
 .rw[a6 c];rfl
def qJ (l:kJ)(x:dW):kJ×Int :=
 if QW l=true/\e4 x=true then
  if x.2.2.2<bd l.2 x.1 0 then (l,2)
  else if x.2.2.2>bd l.2 x.1 0 then (l,3)
  else if x.2.2.1>bd l.1 x.1 0 then ((l.1,l.2.set x.1.toNat (x.2.2.2+1)),4)
  else if QW ((l.1.set x.1.toNat (bd l.1 x.1 0-x.2.2.1)).set x.2.1.toNat (bd (l.1.set x.1.toNat (bd l.1 x.1 0-x.2.2.1)) x.2.1 0+x.2.2.1),l.2.set x.1.toNat (x.2.2.2+1))=true
   then (((l.1.set x.1.toNat (bd l.1 x.1 0-x.2.2.1)).set x.2.1.toNat (bd (l.1.set x.1.toNat (bd l.1 x.1 0-x.2.2.1)) x.2.1 0+x.2.2.1),l.2.set x.1.toNat (x.2.2.2+1)),0)
   else (l,1)
 else (l,1)
def YO {l:kJ}(h:QW l=true):l.1.length=4/\l.2.length=4/\(∀x∈l.1,0<=x/\x<=400)/\∀x∈l.2,0<=x/\x<=100:=by simp only[QW,az,bu,gb,inB]at h;exact⟨h.1,h.2.1,fun x a=>⟨(h.2.2.1 x a).1,(h.2.2.1 x a).2⟩,fun x a=>⟨(h.2.2.2 x a).1,(h.2.2.2 x a).2⟩⟩
def OU {l:kJ}(a:l.1.length<=1048576)(b:l.2.length<=1048576):lE F0 l=some (l,()):=by rw[Xi,aC (by omega) (by omega) (by omega),ab,aC (by omega) (by omega) (by omega),ab];simp
def dT {p:Prop}(i:Decidable p)(h:p): @decide p i=true:=aW h
def dF {p:Prop}(i:Decidable p)(h:¬p): @decide p i=false:=a6 h
def ajz {a:List Int}{k:Nat}{v:Int}{lo b:Int}(c:∀x∈a,lo<=x/\x<=b)(d:lo<=v/\v<=b):∀x∈a.set k v,lo<=x/\x<=b:=fun x e=>by
 rcases agG e with h|h
 .exact c x h
 .rw[h];exact d
def VM {l:kJ}(g:l.1.length<=1048576)(i:l.2.length<=1048576)(x:dW):wx F0 l x=some ((qJ l x).1,(qJ l x).2,()):=by
 rw[aeQ,OU g i,av,QX,av];unfold qJ;cases p:QW l with
 |false=>rw[ag (by simp)];rfl
 |true =>
  rw[bc,aa,Gv,av];cases q:e4 x with
  |false=>rw[ag (by simp)];rfl
  |true =>
   rw[bc,aa,aj ⟨rfl,rfl⟩];obtain⟨j,r,m,s⟩:=YO p;obtain⟨b,o,B,C⟩:=kz q;have f:∀(y:Int) (n:Nat),n=4->0<=y->y<=3->b5 y (n:Int)=true:=fun y n h g i=>by obtain⟨u,rfl⟩:∃u:Nat,y=u:=⟨y.toNat,by omega⟩;exact aE (by omega)
   have t:=f x.1 _ j b.1 b.2;have z:=f x.1 _ r b.1 b.2;have A:∀w,b5 x.2.1 ((l.1.set x.1.toNat w).length:Int)=true:=fun w=>f x.2.1 _ (by rw[Th];exact j) o.1 o.2
   simp only[t,z,A,ab];have D:0<=bd l.1 x.1 0/\bd l.1 x.1 0<=400:=m _ (fe (a:=l.1) (k:=x.1.toNat) (by omega) 0);have E:0<=bd l.2 x.1 0/\bd l.2 x.1 0<=100:=s _ (fe (a:=l.2) (k:=x.1.toNat) (by omega) 0);by_cases c:x.2.2.2<bd l.2 x.1 0
   .rw[dT _ c,ae,aj c]
   .rw[dF _ c,aa,ag c];by_cases d:x.2.2.2>bd l.2 x.1 0
    .rw[dT _ d,ae,aj d]
    .rw[dF _ d,aa,ag d,aD (n:=x.2.2.2+1) (by omega) (by omega)];by_cases e:x.2.2.1>bd l.1 x.1 0
     .rw[dT _ e,ae,aj e]
     .have F:0<=bd (l.1.set x.1.toNat (bd l.1 x.1 0-x.2.2.1)) x.2.1 0/\bd (l.1.set x.1.toNat (bd l.1 x.1 0-x.2.2.1)) x.2.1 0<=400:=ajz (k:=x.1.toNat) (v:=bd l.1 x.1 0-x.2.2.1) m ⟨by omega,by omega⟩ _ (fe (a:=l.1.set x.1.toNat (bd l.1 x.1 0-x.2.2.1)) (k:=x.2.1.toNat) (by rw[Th];omega) 0);rw[dF _ e,aa,ag e,aD (n:=bd l.1 x.1 0-x.2.2.1) (by omega) (by omega),aD (n:=bd (l.1.set x.1.toNat (bd l.1 x.1 0-x.2.2.1)) x.2.1 0+x.2.2.1) (by omega) (by omega),QX,av];cases QW ((l.1.set x.1.toNat (bd l.1 x.1 0-x.2.2.1)).set x.2.1.toNat (bd (l.1.set x.1.toNat (bd l.1 x.1 0-x.2.2.1)) x.2.1 0+x.2.2.1),l.2.set x.1.toNat (x.2.2.2+1)) with
      |false=>rw[ag (by simp),h9,ae,av]
      |true=>rw[aj rfl];rfl
def ae4 (l:kJ)(x:dW):(qJ l x).1.1.length=l.1.length/\(qJ l x).1.2.length=l.2.length:=by
 unfold qJ;split
 .split
  .exact⟨rfl,rfl⟩
  .split
   .exact⟨rfl,rfl⟩
   .split
    .exact⟨rfl,by simp⟩
    .split
     .exact⟨by simp,by simp⟩
     .exact⟨rfl,rfl⟩
 .exact⟨rfl,rfl⟩
def ae5:kJ:=([100,100,100,100],[0,0,0,0])
def E4:fJ F0=some (ae5,()):=by
 have st:∀n (k:Nat) (c:List Int),k<4->c.length=k->fx F0 (fI F0) (n+1) (eg (k:Int) [] [] c [0,0,0,0])=fx F0 (fI F0) n (eg ((k+1:Nat):Int) [] [] (c++[100]) [0,0,0,0]):=fun n k c e f=>by rw[tB,show decide ((k:Int)<4)=true from aW (by omega),ae,aC (a:=c.length) (b:=[(100:Nat)].length) (k:=8) (by omega) (by omega) (by simp only[aR,bo];omega),ab,an (by omega)]
 rw[P2,show okM F0 4 4 8=true from al5 (n:=4) (by omega) (by omega) (by omega),ab];refine b9 (fun n i c=>fx F0 (fI F0) n (eg i [] [] c [0,0,0,0])) 4 (fun k c=>c=List.replicate k 100) _ (fun n k c e d=>.inr ⟨_,st n k c e (by rw[d];simp),by rw[d,<-List.replicate_succ']⟩) (fun n c d=>?_) F0.n 0 [] (by omega) rfl (by rw[b1];omega);rw[tB,show decide (((4:Nat):Int)<4)=false from rfl,aa,JT,d];rfl
def YP (l:kJ):Prop:=l.1.length=4/\l.2.length=4
def apV {l:kJ}(h:YP l)(x:dW):YP (qJ l x).1:=⟨(ae4 l x).1.trans h.1,(ae4 l x).2.trans h.2⟩
def abo {U:Type}{a:List U}{k:Nat}(h:k<a.length)(d:U):bd a (k:Int) d=a[k]:=by rw[jv];simp[List.getD,h]
def ar1 (x:dW):(x.1,x.2.1,x.2.2.1,x.2.2.2)=x:=rfl
def tc:kJ->List dW->List Int
 |_,[]=>[]|l,x::xs=>(qJ l x).2::tc (qJ l x).1 xs
def uS:kJ->List dW->kJ
 |l,[]=>l|l,x::xs=>uS (qJ l x).1 xs
def VN:∀{xs:List dW} {l:kJ},YP l->YP (uS l xs)
 |[],_,h=>h|x::xs,l,h=>VN (xs:=xs) (apV h x)
def QY:∀(xs:List dW) (l:kJ),(tc l xs).length=xs.length
 |[],_=>rfl|x::xs,l=>by simp[tc,QY xs]
def QZ:∀(a b:List dW) (l:kJ),tc l (a++b)=tc l a++tc (uS l a) b
 |[],_,_=>rfl|x::a,b,l=>by simp[tc,uS,QZ a b]
def TU:∀(a:List dW) (x:dW) (l:kJ),uS l (a++[x])=(qJ (uS l a) x).1
 |[],_,_=>rfl|y::a,x,l=>by simp[uS,TU a x]
def YQ {l:kJ}(g:YP l){list:List dW}(m:list.length<=1048576):pV F0 l list=some (uS l list,tc l list,()):=by
 rw[XB,OU (by have:=g.1;omega) (by have:=g.2;omega),av];refine b9 (fun n i (z:List Int×kJ)=>vx F0 (yn F0) n (oI list i z.1 [] [] z.2.1 z.2.2)) list.length (fun k z=>z.1=tc l (list.take k)/\z.2=uS l (list.take k)) _ (fun n k z e f=>.inr ⟨(z.1++[(qJ z.2 list[k]).2],(qJ z.2 list[k]).1),?_,?_⟩) (fun n z f=>?_) F0.n 0 ([],l) (a1 _) ⟨rfl,rfl⟩ (by rw[b1];omega)
 .obtain⟨d,c⟩:=f;have h:YP z.2:=by rw[c];exact VN g
  have o:z.1.length<=1048576:=by rw[d,QY,bQ];omega
  rw[Ci,bp e,ae,aE e,ab,abo e]
  try rw[ar1]
  rw[VM (l:=(z.2.1,z.2.2)) (by have:=h.1;show z.2.1.length<=_;omega) (by have:=h.2;show z.2.2.length<=_;omega),av];simp only;rw[aC (a:=z.1.length) (b:=[(qJ (z.2.1,z.2.2) list[k]).2].length) (k:=8) (by omega) (by omega) (by simp only[aR,bo];omega),ab,an (by omega)]
 .obtain⟨d,c⟩:=f;have j:list.take (k+1)=list.take k++[list[k]]:=by rw[yH,kK e];rfl
  refine⟨?_,?_⟩
  .rw[j,QZ,<-d,<-c];rfl
  .rw[j,TU,<-c]
 .obtain⟨d,c⟩:=f;rw[gq]at d c;rw[Ci,aO,aa,Qi,d,c]
def YR:∀{ss:List NL},(∀s∈ss,adp s)->(ss.flatMap (·.2)).length<=2*ss.length
 |[],_=>by simp
 |s::ss,h=>by
  have b:=(h s tu).2.2.1;have c:=YR (ss:=ss) fun x a=>h x (h8 _ a)
  rw[List.flatMap_cons,aB,aR];omega
def akB {l:List UInt8}(f:l.length<=1073741824):pw F0 (tx l)=some ((bZ l).1.flatMap (·.2),()):=by
 rw[Z9,Gx f,av];have hlen:=w6 l;have cR:=OT l;generalize h:(bZ l).1=ss at hlen cR;refine b9 (fun n i xs=>AI F0 (Cg F0) n (rW i xs ss)) ss.length (fun k xs=>xs=(ss.take k).flatMap (·.2)) _ (fun n k xs c d=>.inr ⟨_,?_,rfl⟩) (fun n xs d=>?_) F0.n 0 [] (a1 _) rfl (by rw[b1];omega)
 .have j:=(cR _ (dH c)).2.2.1;have e:=YR (ss:=ss.take k) fun x e=>cR x (Bw e)
  rw[<-d,bQ]at e;rw[DF,bp c,ae,aE c,ab,abo c,aC (a:=xs.length) (b:=ss[k].2.length) (k:=32) (by omega) (by omega) (by omega),ab,an (by omega),d];have g:(ss.take (k+1)).flatMap (·.2)=(ss.take k).flatMap (·.2)++ss[k].2:=by rw[show ss.take (k+1)=ss.take k++[ss[k]] by rw[yH,kK c];rfl,List.flatMap_append];simp
  rw[g]
 .rw[gq]at d;rw[DF,aO,aa,R7,d]
def E5 {V:Type}(X:Nat->Int->Option V)(L:Nat)(p:Nat->Bool)(d e:Option V)(g:∀n k,k<L->X (n+1) (k:Int)=if p k=true then X n ((k+1:Nat):Int) else e)(j:∀n,X (n+1) (L:Int)=d)(n:Nat)(o:L<n) :
  X n 0=if (List.range L).all p=true then d else e:=by
 refine b9 (fun n i (_:Unit)=>X n i) L (fun k _=>∀a,a<k->p a=true) _ (fun n k _ f h=>?_) (fun n _ h=>?_) n 0 () (a1 _) (fun a b=>absurd b (Tg _)) (by omega)
 .try dsimp only
  rw[g n k f];by_cases c:p k=true
  .rw[aj c];refine .inr ⟨(),rfl,fun a b=>?_⟩;by_cases l:a=k
   .exact l▸c
   .exact h a (by omega)
  .rw[ag c,ag]
   .exact .inl rfl
   .intro m;exact c (gb.1 m k (gd.2 f))
 .try dsimp only
  rw[j,aj];exact gb.2 fun a b=>h a (gd.1 b)
def YS {U:Type}(s:List U)(q:U->Bool)(d:U):(List.range s.length).all (fun k=>q (s.getD k d))=s.all q:=by
 rw[Bool.eq_iff_iff,gb,gb];constructor
 .intro h x b;obtain⟨i,a,rfl⟩:=agL.1 b;have:=h i (gd.2 a);simpa [List.getD,a]using this
 .intro h k c;exact h _ (fe (gd.1 c) d)
def apW (s:List Int)(i:Int):(s.all fun x=> !(x==i))= !decide (i∈s):=by rw[Bool.eq_iff_iff,gb];simp only[V1,cC,agH];exact⟨fun h a=>h i a rfl,fun h x b e=>h (e▸b)⟩
def ite_not (b:Bool){U:Type}(x y:U):(if (!b)=true then x else y)=if b=true then y else x:=by cases b<;>rfl
def amq {U:Type}(b:Bool)(x y:U):br b x y=if b=true then x else y:=by cases b<;>rfl
def dP {s:List Int}(h:s.length<=1073741824)(i:Int):cu F0 s i=some (decide (i∈s),()):=by
 rw[W3,E5 (fun n k=>u5 F0 (n2 F0) n (n1 s i k)) s.length (fun k=> !(s.getD k 0==i)) (some (false,())) (some (true,())) (fun n k a=>?_) (fun n=>?_) _ (by rw[b1];omega),
  YS s (fun x=> !(x==i)),apW,ite_not]
 .by_cases b:i∈s<;>simp[b]
 .rw[BO,bp a,ae,aE a,ab,jv,an (by omega),ite_not,amq,RP]
 .rw[BO,aO,aa,PT]
def Vz (i:Int):List Int->List Int
 |[]=>[i]|x::l=>if x>=i then i::x::l else x::Vz i l
def I4 (s:List Int)(i:Int):List Int:=if i∈s then s else Vz i s
def ae6 (i:Int):∀s:List Int,(Vz i s).length=s.length+1
 |[]=>rfl|x::l=>by
  unfold Vz;split
  .rfl
  .simp[ae6 i l]
def La (s:List Int)(i:Int):(I4 s i).length<=s.length+1:=by
 unfold I4;split
 .omega
 .rw[ae6];exact bq _
def ajA {i:Int}:∀{s:List Int} {k:Nat},k<=s.length->(∀a (h:a<s.length),a<k->s[a]<i)->(∀h:k<s.length,¬s[k]<i)->Vz i s=s.take k++i::s.drop k
 |[],k,_,_,_=>by simp[Vz]
 |x::l,0,_,_,h=>by have:=h (by simp);simp only[List.getElem_cons_zero]at this;unfold Vz;rw[aj (by omega)];rfl
 |x::l,k+1,c,b,d=>by have e:=b 0 (by simp) (by omega);simp only[List.getElem_cons_zero]at e;unfold Vz;rw[ag (by omega),List.take_succ_cons,List.drop_succ_cons,pE,ajA (k:=k) (by simpa using c) (fun a h f=>b (a+1) (by simp only[aR];omega) (by omega)) (fun h=>d (by simp only[aR];omega))]
def LO {l h n:Nat}(a:l<=h)(b:h<=n):I5 (l:Int) (h:Int) (n:Int)=true:=by simp[I5];omega
def CL {s:List Int}(h:s.length<=1048576)(i:Int):iZ F0 s i=some (I4 s i,()):=by
 rw[W4,dP (by omega),av];unfold I4;by_cases c:i∈s
 .rw[aW c,ae,aj c,aC (by omega) (by omega) (by omega),ab];rfl
 .rw[a6 c,aa,ag c];have MB:∀k:Nat,k<=s.length->(∀a (h:a<s.length),a<k->s[a]<i)->(∀h:k<s.length,¬s[k]<i)->n4 F0 (.exit 0) (l8 s i (k:Int))=some (Vz i s,()):=by
   intro k b g j;rw[PU,show I5 0 (k:Int) (s.length:Int)=true from LO (l:=0) (a1 _) b,ab,wc,wc,show(0:Int).toNat=0 from rfl,V3,nD,gq,
    aC (by omega) (by omega) (by rw[bQ];omega),ab,aC (by omega) (by omega) (by rw[bQ];simp only[aR,bo];omega),ab,LO b (bq _),ab,
    aC (by omega) (by omega) (by rw[aB,bQ,bT];simp only[aR,bo];omega),ab,ajA b g j]
   simp
  refine b9 (fun n k (_:Unit)=>u9 F0 (n4 F0) n (n3 s i k)) s.length (fun k _=>∀a (h:a<s.length),a<k->s[a]<i) _ (fun n k _ b d=>?_) (fun n _ d=>?_) F0.n 0 () (a1 _) (fun a _ f=>absurd f (Tg _)) (by rw[b1];omega)
  .try dsimp only
   rw[BP,bp b,ae,aE b,ab,abo b,an (by omega)];by_cases hlt:s[k]<i
   .right;rw[aW hlt,ae];refine⟨(),rfl,fun a f m=>?_⟩;by_cases e:a=k
    .subst e;exact hlt
    .exact d a f (by omega)
   .left;rw[a6 hlt,aa];exact MB k (by omega) d (fun _=>hlt)
  .try dsimp only
   rw[BP,aO,aa];exact MB s.length (bq _) d (fun h=>absurd h (Ti _))
def fR (lo a x:Int):Bool:=decide (lo<=x)&&decide (x<=a)
def ch (x lo a:Int):bn F0 x lo a=some (fR lo a x,()):=QV x lo a
def dQ {U:Type}{l:List U}{k:Nat}(h:k<l.length):l.take (k+1)=l.take k++[l[k]]:=by rw[yH,kK h];rfl
abbrev ct:=Int×ByteArray×List Int
def bR (l:List UInt8):Bool:=(bZ l).2
def bE (l:List UInt8):Int:=match (bZ l).1.getLast? with|some s=>s.1|none=>0
def Lb {l:List UInt8}(h:(bZ l).2=false):(bZ l).1=[]:=by
 unfold bZ at h ⊢;split
 .rfl
 .rename_i a;rw[ag a]at h;split
  .rfl
  .rename_i b;rw[b]at h;dsimp only at h;split
   .rfl
   .rename_i c;rw[ag c]at h;split
    .rfl
    .rename_i d;rw[d]at h;cases h
def He {l:List UInt8}(h:l.length<=1073741824):dz F0 (tx l)=some (bR l,()):=by rw[W9,Gx h,av];rfl
def akC (ss:List NL)(f:ss.length<=30)(d:NL:=(0,[])):br ((ss.length:Int)==0) (some ((0:Int),())) (ck (b5 (ak ((ss.length:Int)-1)) (ss.length:Int)) (some ((bd ss (ak ((ss.length:Int)-1)) d).1,())))=some ((match ss.getLast? with|some s=>s.1|none=>0),()):=by
 cases a:ss with
 |nil=>rfl
 |cons s r =>
  rw[<-a];have e:ss.length≠0:=by rw[a];simp
  have b:((ss.length:Int)==0)=false:=cC.2 (by omega);have c:ak ((ss.length:Int)-1)=((ss.length-1:Nat):Int):=by rw[aD (by omega) (by omega)];omega
  rw[b,aa,c,aE (by omega),ab,abo (by omega),List.getLast?_eq_getElem?,kK (by omega)]
def YT {l:List UInt8}(h:l.length<=1073741824):bY F0 (tx l)=some (bE l,()):=by
 rw[Xb,Gx h,av];dsimp only;cases a:(bZ l).2 with
 |true =>
  rw[bc,aa];exact akC _ (w6 l)
 |false =>
  rw[h9,ae];unfold bE;rw[Lb a];rfl
def na (l:List UInt8):0<=bE l/\bE l<=60:=by
 unfold bE;split
 .rename_i s a;have:=OT l s (List.mem_of_getLast? a);exact⟨this.1,this.2.1⟩
 .omega
def bF (c:Int×Int):Bool:=fR 4 7 c.1&&fR 1 6 c.2
def e7 (c:Int×Int):c0 F0 c=some (bF c,()):=by rw[Xm,ch,av,ch,av];unfold bF;dsimp only;cases fR 4 7 c.1<;>rfl
def cj {c:Int×Int}(h:bF c=true):4<=c.1/\c.1<=7/\1<=c.2/\c.2<=6:=by unfold bF fR at h;simp only[az,bu]at h;omega
def amr {n:Int}(a:4<=n)(b:n<=7):1<=Int.tdiv (n-1) 3/\Int.tdiv (n-1) 3<=2:=by
 have:n=4\/n=5\/n=6\/n=7:=by omega
 rcases this with rfl|rfl|rfl|rfl<;>decide
def Lc (c:Int×Int):Int:=if bF c=true then Int.tdiv (c.1-1) 3 else 0
def OV (c:Int×Int):Int:=if bF c=true then c.1-Int.tdiv (c.1-1) 3 else 0
def OW (c:Int×Int):pT F0 c=some (OV c,()):=by
 rw[Xn,e7,av];unfold OV;dsimp only;cases h:bF c with
 |false=>rfl
 |true =>
  have:=cj h;have a:=amr this.1 this.2.1;have e:ak (c.1-1)=c.1-1:=aD (by omega) (by omega);rw[bc,aa,e,aD (n:=Int.tdiv (c.1-1) 3) (by omega) (by omega),aD (by omega) (by omega),aj rfl]
def nn (n:Int)(s:List Int):Bool:=(List.range s.length).all fun k=>decide (0<=s.getD k 0)&&(decide (s.getD k 0<n)&&(decide (k=0) || decide (s.getD (k-1) 0<s.getD k 0)))
def YU {V:Type}{n:Int}{s:List Int}{k:Nat}(g:k<s.length)(x y:Option V) :
  br (decide (s.getD k 0<0)) x (br (decide (s.getD k 0>=n)) x (br (decide ((k:Int)>0)) (br (decide (s.getD (k-1) 0>=s.getD k 0)) x y) y)) =
  if (decide (0<=s.getD k 0)&&(decide (s.getD k 0<n)&&(decide (k=0) || decide (s.getD (k-1) 0<s.getD k 0))))=true then y else x:=by
 generalize s.getD k 0=a;generalize s.getD (k-1) 0=b;by_cases c:a<0
 .rw[aW c,ae,a6 (show ¬0<=a by omega)];rfl
 .rw[a6 c,aa,aW (show 0<=a by omega),yJ];by_cases d:a>=n
  .rw[aW d,ae,a6 (show ¬a<n by omega)];rfl
  .rw[a6 d,aa,aW (show a<n by omega),yJ];by_cases e:k=0
   .subst e;rfl
   .rw[aW (show(k:Int)>0 by omega),ae,a6 e,yI];by_cases f:b>=a
    .rw[aW f,ae,a6 (show ¬b<a by omega)];rfl
    .rw[a6 f,aa,aW (show b<a by omega)];rfl
def Q0 {k:Nat}(a:0<k)(h:k<=9223372036854775807):ak ((k:Int)-1)=((k-1:Nat):Int):=by rw[aD (by omega) (by omega)];omega
def SL {s:List Int}(h:s.length<=1073741824)(n:Int):ug F0 n s=some (nn n s,()):=by
 rw[Z4,E5 (fun m k=>rF F0 (rG F0) m (lG n s k)) s.length (fun k=>decide (0<=s.getD k 0)&&(decide (s.getD k 0<n)&&(decide (k=0) || decide (s.getD (k-1) 0<s.getD k 0)))) (some (true,())) (some (false,())) (fun m k a=>?_) (fun m=>?_) _ (by rw[b1];omega)]
 .show(if nn n s=true then _ else _)=_;cases nn n s<;>rfl
 .rw[Dp,bp a,ae,aE a,ab,jv,Uq,ab,an (by omega)];by_cases b:k=0
  .subst b;rw[<-YU a];rfl
  .rw[Q0 (by omega) (by omega),aE (show k-1<s.length by omega),ab,ab,jv,<-YU a]
 .rw[Dp,aO,aa,RZ]
def adq (c:Int×Int)(q:Int×List UInt8×List Int):Bool:=bF c&&(bR q.2.1&&(decide (bE q.2.1=q.1)&&(if q.2.1=[] then decide (q.2.2=[]) else nn c.1 q.2.2&&decide ((q.2.2.length:Int)>=OV c))))
def ams:ah=tx []:=rfl
def ae7 {v:Int}{l:List UInt8}{s:List Int}(d:l.length<=1073741824)(e:s.length<=1073741824)(c:Int×Int):gk F0 c (v,tx l,s)=some (adq c (v,l,s),()):=by
 rw[acX,e7,av];unfold adq;dsimp only;rw[He d,av,YT d,av,SL e,av,OW,av,ams,QQ];cases bF c with
 |false=>rfl
 |true =>
  cases bR l with
  |false=>rfl
  |true =>
   by_cases a:bE l=v
   .rw[aW a,show(bE l != v)=false by rw[a];exact bne_self_eq_false v];by_cases b:l=[]
    .rw[aW b,aj b];cases s with
     |nil=>rfl|cons x r=>rfl
    .rw[a6 b,ag b];cases nn c.1 s<;>rfl
   .rw[a6 a,show(bE l != v)=true from GD.2 a];rfl
def OX:bR []=true:=rfl
def adr (c:Int×Int)(p:Int×List UInt8×List Int):Option (Int×List UInt8×List Int):=if p.2.1≠[]/\adq c p=true then some p else none
def apy (o:Option (Int×List UInt8×List Int)):ct×Bool:=match o with
 |some q=>((q.1,tx q.2.1,q.2.2),true)|none=>((0,tx [],[]),false)
def ahu {v:Int}{l:List UInt8}{s:List Int}(b:l.length<=1073741824)(d:s.length<=1073741824)(c:Int×Int):wL F0 c (v,tx l,s)=some ((apy (adr c (v,l,s))).1,(apy (adr c (v,l,s))).2,()):=by
 rw[XL];dsimp only;rw[aC (by omega) (by omega) (by omega),ab,ams,QQ,nD,ae7 b d,av];unfold adr;dsimp only;by_cases a:l=[]
 .rw[aW a,ae,ag (fun h=>h.1 a)];rfl
 .rw[a6 a,aa];cases e:adq c (v,l,s) with
  |true=>rw[aj ⟨a,rfl⟩];rfl|false=>rw[ag (fun h=>by cases h.2)];rfl
def dE (c:Int×Int)(view:Int):Int:=if bF c=true/\0<=view then view%c.1 else -1
def SM (c:Int×Int)(view s:Int):Int:=if bF c=true/\0<=view/\0<=s/\s<=c.1-1 then (view%c.1+s)%c.1 else -1
def cp (c:Int×Int)(view i:Int):Int:=if bF c=true/\0<=view/\0<=i/\i<=c.1-1 then (i+c.1-view%c.1)%c.1 else -1
def SN (c:Int×Int)(view i:Int):Int:=if cp c view i<=0 then -1 else SM c view ((cp c view i-1)/c.2)
def Ld {a b:Int}(h:0<=a):Int.tmod a b=a%b:=ad6 h
def ne0 {n:Int}(h:4<=n):(!(n==0))=true:=by rw[cC.2 (show n≠0 by omega)];rfl
def ajB {lo a x:Int}:fR lo a x=decide (lo<=x/\x<=a):=by unfold fR;by_cases b:lo<=x<;>by_cases c:x<=a<;>simp[b,c]
def amt {n:Int}(a:4<=n)(view:Int):0<=view%n/\view%n<n:=⟨V2 _ (by omega),V0 _ (by omega)⟩
def CM (c:Int×Int)(view:Int):iA F0 c view=some (dE c view,()):=by
 rw[acZ,e7,av];unfold dE;cases b:bF c with
 |false=>rfl
 |true =>
  have d:=cj b;by_cases a:view<0
  .rw[aW a,ag (fun h=>by omega)];rfl
  .rw[a6 a,bc,aa,aa,ne0 d.1,ab,aj ⟨rfl,by omega⟩,Ld (by omega)]
def SO {n:Int}(a:4<=n)(b:n<=7):ak (n-1)=n-1:=aD (by omega) (by omega)
def amu (c:Int×Int)(view s:Int):LJ F0 c view s=some (SM c view s,()):=by
 rw[ac2,e7,av];unfold SM;cases f:bF c with
 |false=>rfl
 |true =>
  have d:=cj f;have g:=amt d.1 view;by_cases e:view<0
  .rw[aW e,ag (fun h=>by omega)];rfl
  .rw[a6 e,bc,aa,aa,ch,av,SO d.1 d.2.1,ajB];by_cases b:0<=s/\s<=c.1-1
   .rw[aW b,bc,aa,ne0 d.1,ab,ab,aj ⟨rfl,by omega,b.1,b.2⟩,Ld (a:=view) (by omega),aD (by omega) (by omega),Ld (by omega)]
   .rw[a6 b,ag (fun h=>b ⟨h.2.2.1,h.2.2.2⟩)];rfl
def Le (c:Int×Int)(view i:Int):Bp F0 c view i=some (cp c view i,()):=by
 rw[ac1,e7,av];unfold cp;cases f:bF c with
 |false=>rfl
 |true =>
  have d:=cj f;have g:=amt d.1 view;by_cases e:view<0
  .rw[aW e,ag (fun h=>by omega)];rfl
  .rw[a6 e,bc,aa,aa,ch,av,SO d.1 d.2.1,ajB];by_cases b:0<=i/\i<=c.1-1
   .rw[aW b,bc,aa,ne0 d.1,ab,ab,aj ⟨rfl,by omega,b.1,b.2⟩,Ld (a:=view) (by omega),aD (n:=i+c.1) (by omega) (by omega),aD (by omega) (by omega),Ld (by omega)]
   .rw[a6 b,ag (fun h=>b ⟨h.2.2.1,h.2.2.2⟩)];rfl
def abp (c:Int×Int)(view i:Int):-1<=cp c view i/\cp c view i<=6:=by
 unfold cp;split
 .rename_i h;have a:=cj h.1;have b:=V2 (i+c.1-view%c.1) (show c.1≠0 by omega);have d:=V0 (i+c.1-view%c.1) (show 0<c.1 by omega);omega
 .omega
def ae8 {c:Int×Int}{view i:Int}(h:0<=cp c view i):bF c=true:=by
 unfold cp at h;split at h
 .rename_i a;exact a.1
 .omega
def apX {a b:Int}(c:0<=a)(d:a<=6)(e:1<=b):0<=a/b/\a/b<=6:=⟨Int.ediv_nonneg c (by omega),Int.le_trans (Int.ediv_le_self b c) d⟩
def amv (c:Int×Int)(view i:Int):LK F0 c view i=some (SN c view i,()):=by
 rw[ahn,Le,av];unfold SN;have f:=abp c view i;by_cases d:cp c view i<=0
 .rw[aW (show(cp c view i,()).1<=0 from d),ae,aj d]
 .have e:=cj (ae8 (c:=c) (view:=view) (i:=i) (by omega));have g:=apX (a:=cp c view i-1) (b:=c.2) (by omega) (by omega) e.2.2.1;rw[a6 (show ¬(cp c view i,()).1<=0 from d),aa,ag d,show(!(c.2==0))=true by rw[cC.2 (show c.2≠0 by omega)];rfl,ab];dsimp only;rw[aD (n:=cp c view i-1) (by omega) (by omega),aiE (show 0<=cp c view i-1 by omega),aD (by omega) (by omega),amu,av]
end Go.Am.Tryz
