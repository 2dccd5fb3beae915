/- No condition. -/
import Derived.Test.YtnllfndlcahalaaGreatDoorQvWJG7
import Derived.Lib.MinMaxS
import Derived.Lib.CutLaws
import Derived.Lib.PathFns
import Derived.Lib.SplitLaws
import Derived.Test.YtnllfndlcahalaaGreatDoorQvAmData
set_option linter.all false
namespace Go.Am.Tryz
open Go.Am
def I64 (n:Int):Prop:=-9223372036854775808<=n/\n<=9223372036854775807
def C9 {n:Int}(h:I64 n):kR F0 n=some (tx (Lib.itoa n),()):=by
 rw[aoK];by_cases a:n=0
 .subst a;simp only[aao,ae]
  congr 2
  simp[tx,Lib.itoa,Lib.decDigits]
 .rw[show(n==0)=false from bU.2 a,aa];have r:(Lib.decDigits n.natAbs).length<=20:=by rw[Lib.decDigits_length];exact Lib.nDigits_le20 _ (by obtain⟨f,g⟩:=h;omega)
  refine aDX (fun m (x:Int×List UInt8)=>tQ F0 (Gv F0) m (ov x.1 (decide (n<0)) (tx x.2))) _ (fun x=>I64 x.1/\aFw x.1.natAbs++x.2=Lib.decDigits n.natAbs) (fun x=>x.1.natAbs) (fun m x p=>?_) _ (n,[]) ⟨h,?_⟩ ?_
  .obtain⟨x,l⟩:=x;obtain⟨⟨f,g⟩,b⟩:=p;simp only at f g b ⊢;have s:l.length<=20:=by have:=nk List.length b;rw[aK]at this;omega
   by_cases k:x=0
   .left;subst k;rw[KA];simp only[anV,aa,aeH];rw[show aFw (Int.natAbs 0)=[] from rfl,BO]at b;subst b;by_cases c:n<0
    .rw[aL c,ae,ig (by rw[bD];have:(ByteArray.mk #[45]).size=1:=rfl;omega),ab,show ByteArray.mk #[45]=tx [45] from rfl,gh];unfold Lib.itoa;rw[ag c];rfl
    .rw[aQ c,aa];unfold Lib.itoa;rw[af c,show n.natAbs=n.toNat by omega]
   .right;have o:x.natAbs%10<10:=ack _ (by omega);have aL3:(Int.tdiv x 10).natAbs=x.natAbs/10:=by rw[Int.natAbs_tdiv];rfl
    have i:I64 (Int.tdiv x 10):=⟨by omega,by omega⟩;have q:=aHh (u:=x.natAbs) (by omega);have j:aj (Int.tdiv x 10)=Int.tdiv x 10:=aH i.1 i.2;refine⟨(Int.tdiv x 10,UInt8.ofNat (48+x.natAbs%10)::l),?_,⟨i,?_⟩,?_⟩
    .rw[KA,show(x != 0)=true from Fe.2 k,ae];have key:tx [UInt8.ofNat (48+x.natAbs%10)]++tx l=tx (UInt8.ofNat (48+x.natAbs%10)::l):=by rw[gh];rfl
     have d:Vo F0 (tx [UInt8.ofNat (48+x.natAbs%10)]).size (tx l).size=true:=ig (by rw[bD,bD];simp only[aW,bm];omega);by_cases t:x<0
     .have e:Int.tmod x 10=-((x.natAbs%10:Nat):Int):=by obtain⟨u,rfl⟩:∃u:Nat,x=-(u:Int):=⟨x.natAbs,by omega⟩;rw[Int.neg_tmod,Int.natAbs_neg,Int.natAbs_natCast];rfl
      by_cases a:x.natAbs%10=0
      .rw[e,a,show decide (-((0:Nat):Int)<0)=false from rfl,aa,show(48+-((0:Nat):Int))=48+((0:Nat):Int) from rfl,dig (by omega)];rw[a]at d key;rw[d,ab,key,j]
      .rw[e,aL (by omega),ae,aH (n:=0 - -((x.natAbs%10:Nat):Int)) (by omega) (by omega),show(0:Int) - -((x.natAbs%10:Nat):Int)=((x.natAbs%10:Nat):Int) by omega,dig o,d,ab,key,j]
     .have e:Int.tmod x 10=((x.natAbs%10:Nat):Int):=by obtain⟨u,rfl⟩:∃u:Nat,x=(u:Int):=⟨x.natAbs,by omega⟩;rfl
      rw[e,aQ (by omega),aa,dig o,d,ab,key,j]
    .simp only;rw[aL3,<-b,q];simp
    .simp only;rw[aL3];omega
  .simp only[fs];unfold aFw;rw[af (by omega)]
  .simp only;rw[bz];obtain⟨f,g⟩:=h;omega
def RP {n:Int}(h:I64 n):k2 F0 n=some (tx (Lib.itoa n),()):=by rw[apV];unfold strconv_Itoa;rw[aL h.1,aL h.2];rfl
def SW {n:Int}(h:I64 n):(Lib.itoa n).length<=21:=Lib.itoa_length_le n h.1 h.2
def ajc {xs:List ByteArray}{l:List (List UInt8)}{s:List UInt8}(h:(xs.map fun b=>b.data.toList)=l)(d:xs.length<=67108864)(e:(Lib.join l s).length<=67108864):strings_Join F0 xs (tx s)=some (tx (Lib.join l s),()):=by have a:decide ((xs.length:Int)<=F0.mem)=true:=aL (show((xs.length:Nat):Int)<=140737488355328 by omega);have c:decide (((Lib.join l s).length:Int)<=F0.mem)=true:=aL (show(((Lib.join l s).length:Nat):Int)<=140737488355328 by omega);unfold strings_Join aoE;rw[h,fv,a,c];rfl
def Vh (a b:List UInt8):((tx a).toList==(tx b).toList)=decide (a=b):=by
 rw[Lib.toList_data,Lib.toList_data,fv,fv];by_cases h:a=b
 .simp[h]
 .simp[h]
def Zn (l:List UInt8)(k:Nat):jP (tx l) (k:Int)=((l.getD k 0).toNat:Int):=by unfold jP;rw[fv];rfl
def axq (c:UInt8):c.toNat<256:=UInt8.toNat_lt c
def isD (c:UInt8):Bool:=decide (48<=c.toNat)&&decide (c.toNat<=57)
def val:List UInt8->Nat->Nat
 |[],n=>n|c::l,n=>val l (10*n+(c.toNat-48))
def fG (l:List UInt8):Int×Bool :=
 if l.length<1\/6<l.length then (0,false)
 else if l.all isD then (if Lib.itoa (val l 0:Int)=l then ((val l 0:Int),true) else (0,false)) else (0,false)
def aqJ (a b:List UInt8)(n:Nat):val (a++b) n=val b (val a n):=by
 induction a generalizing n with
 |nil=>rfl|cons c l d=>exact d _
def aKX {l:List UInt8}(h:∀c∈l,isD c=true)(n:Nat):val l n<(n+1)*10 ^ l.length:=by
 induction l generalizing n with
 |nil=>simp[val]
 |cons c l a =>
  have b:=a (fun d e=>h d (jO _ e)) (10*n+(c.toNat-48));have f:=h c p3;simp only[isD,aG,bV]at f;refine Fb b ?_;rw[aW,Nat.pow_succ];have g:10*n+(c.toNat-48)+1<=(n+1)*10:=by omega
  calc (10*n+(c.toNat-48)+1)*10 ^ l.length<=((n+1)*10)*10 ^ l.length:=Hg _ g
   _=(n+1)*(10 ^ l.length*10):=by rw[Nat.mul_assoc,Nat.mul_comm 10]
def aHu {l:List UInt8}{k:Nat}(h:k<l.length):val (l.take (k+1)) 0=10*val (l.take k) 0+((l.getD k 0).toNat-48):=by rw[MI,aJ h 0,aqJ];rfl
def ajd {l:List UInt8}(a:l.length<=6)(h:∀c∈l,isD c=true):val l 0<=999999:=by have b:=aKX h 0;have d:10 ^ l.length<=10 ^ 6:=Nat.pow_le_pow_right (by omega) a;omega
def aqK (l:List UInt8):0<=(fG l).1/\(fG l).1<=999999:=by
 unfold fG;split
 .simp
 .split
  .rename_i d a;have:=ajd (l:=l) (by omega) (fun c b=>ek.1 a c b);split
   .simp only;omega
   .simp
  .simp
def azu {l:List UInt8}(t:1<=l.length)(o:l.length<=6){X:Nat->Int->Int->Option (Int×(Bool×Unit))}{D:Int->Option (ByteArray×Unit)}(p:∀n,I64 n->D n=some (tx (Lib.itoa n),()))
  (q:∀n k (m:Nat),k<l.length->m<=999999->X (n+1) m k=br (decide (((l.getD k 0).toNat:Int)<48)) (some (0,false,())) (br (decide (((l.getD k 0).toNat:Int)>57)) (some (0,false,())) (X n (aj (aj (10*m)+aj ((l.getD k 0).toNat-48))) ((k+1:Nat):Int))))
  (s:∀n (m:Nat),X (n+1) m l.length=(D m).bind fun r=>br (!(r.1.toList==(tx l).toList)) (some (0,false,())) (some ((m:Int),true,()))) (n:Nat) (u:6<n):X n 0 0=some ((fG l).1,(fG l).2,()):=by
 refine cv (fun n i (m:Nat)=>X n m i) l.length (fun k m=>m=val (l.take k) 0/\∀c∈l.take k,isD c=true) _ (fun n k m d f=>?_) (fun n m f=>?_) n 0 0 (aR _) ⟨rfl,by simp⟩ (by omega)
 .obtain⟨rfl,b⟩:=f;have g:=ajd (l:=l.take k) (by rw[bB];omega) b;have j:=ot d (0:UInt8);have v:=axq (l.getD k 0);rw[q n k _ d g];by_cases w:(l.getD k 0).toNat<48
  .left;rw[aL (by omega),ae];have:l.all isD=false:=by rw[ahk];exact⟨_,j,fun h=>by simp only[isD,aG,bV]at h;omega⟩
   unfold fG;rw[af (by omega),this];rfl
  .by_cases x:(l.getD k 0).toNat>57
   .left;rw[aQ (by omega),aa,aL (by omega),ae];have:l.all isD=false:=by rw[ahk];exact⟨_,j,fun h=>by simp only[isD,aG,bV]at h;omega⟩
    unfold fG;rw[af (by omega),this];rfl
   .right;refine⟨val (l.take (k+1)) 0,?_,rfl,?_⟩
    .rw[aQ (by omega),aa,aQ (by omega),aa,aHu d,aH (n:=10*_) (by omega) (by omega),aH (n:=((l.getD k 0).toNat:Int)-48) (by omega) (by omega),aH (by omega) (by omega)]
     congr 1
     omega
    .intro c a;rw[MI,aJ d 0]at a;rcases gQ.1 a with a|a
     .exact b c a
     .simp only[anU,fq]at a;subst a;simp only[isD,aG,bV];omega
 .obtain⟨rfl,b⟩:=f;rw[kl]at b ⊢;have g:=ajd o b;rw[s,p _ ⟨by omega,by omega⟩,ai,Vh];unfold fG;rw[af (by omega),ag (ek.2 b)];by_cases e:Lib.itoa (val l 0:Int)=l
  .rw[aL e,ag e];rfl
  .rw[aQ e,af e];rfl
def Da (l:List UInt8):nn F0 (tx l)=some ((fG l).1,(fG l).2,()):=by
 rw[aoL,bD];by_cases b:l.length<1
 .rw[aL (by omega),ae];unfold fG;rw[ag (.inl b)]
 .rw[aQ (by omega),aa];by_cases c:6<l.length
  .rw[aL (by omega),ae];unfold fG;rw[ag (.inr c)]
  .rw[aQ (by omega),aa];refine azu (X:=fun n m k=>DA F0 (uz F0) n (uy (tx l) m k)) (by omega) (by omega) (fun n d=>C9 d) (fun n k m a e=>?_) (fun n m=>?_) _ (by rw[bz];omega)
   .have f:=axq (l.getD k 0);rw[KC];simp only[bD,Zn,ahE,aM a,an a,ae,ab,al (show k+1<=9223372036854775807 by omega)]
    congr 2
    congr 2
    rw[aH (n:=10*(m:Int)) (by omega) (by omega),aH (n:=((l.getD k 0).toNat:Int)) (by omega) (by omega),aH (n:=10*(m:Int)+((l.getD k 0).toNat:Int)) (by omega) (by omega),aH (n:=((l.getD k 0).toNat:Int)-48) (by omega) (by omega)]
    congr 1
    omega
   .rw[KC];simp only[bD,aC,aa,aeI]
def Ga (l:List UInt8):ns F0 (tx l)=some ((fG l).1,(fG l).2,()):=by
 rw[apW,bD];by_cases b:l.length<1
 .rw[aL (by omega),ae];unfold fG;rw[ag (.inl b)]
 .rw[aQ (by omega),aa];by_cases c:6<l.length
  .rw[aL (by omega),ae];unfold fG;rw[ag (.inr c)]
  .rw[aQ (by omega),aa];refine azu (X:=fun n m k=>Er F0 (vu F0) n (vr (tx l) m k)) (by omega) (by omega) (fun n d=>RP d) (fun n k m a e=>?_) (fun n m=>?_) _ (by rw[bz];omega)
   .have f:=axq (l.getD k 0);rw[Lt];simp only[bD,Zn,aik,aM a,an a,ae,ab,al (show k+1<=9223372036854775807 by omega)];by_cases g:(l.getD k 0).toNat<48
    .rw[aL (by omega),ae,ae]
    .rw[IntWalk.u8_in _ (by omega)]
   .rw[Lt];simp only[bD,aC,aa,afq]
def aqL (l:List UInt8)(k:Nat):(tx l).extract 0 k=tx (l.take k):=by rw[Ku ((tx l).extract 0 k),Lib.Pa.extract_upto_list,fv]
def extract_from (l:List UInt8)(k:Nat):(tx l).extract k (tx l).size=tx (l.drop k):=by rw[Ku ((tx l).extract k (tx l).size),Lib.extract_to_end,fv]
def aqM {a b:List UInt8}{c:UInt8}(h:c ∉ a):(a++c::b).takeWhile (· != c)=a/\(a++c::b).dropWhile (· != c)=c::b:=by
 induction a with
 |nil=>simp
 |cons x a d =>
  have e:(x != c)=true:=by simp;rintro rfl;simp at h
  have:=d fun f=>h (jO _ f)
  rw[Hh,List.takeWhile_cons,List.dropWhile_cons,e];exact⟨by simp[this.1],by simp[this.2]⟩
def aKJ {a:List UInt8}{c:UInt8}(h:c ∉ a):a.takeWhile (· != c)=a/\a.dropWhile (· != c)=[]:=by
 induction a with
 |nil=>simp
 |cons x a b =>
  have d:(x != c)=true:=by simp;rintro rfl;simp at h
  have:=b fun e=>h (jO _ e)
  rw[List.takeWhile_cons,List.dropWhile_cons,d];exact⟨by simp[this.1],by simp[this.2]⟩
def azv {l:List UInt8}{k:Nat}(h:k<l.length):l=l.take k++l.getD k 0::l.drop (k+1):=by
 have:l.getD k 0=l[k]:=by simp[List.getD,h]
 rw[this,List.getElem_cons_drop,aal]
def auJ {l:List UInt8}(c:UInt8)(s:l.length<=4294967296) :
  ih F0 (tx l) (c.toNat:Int)=some (if c∈l then (tx (l.takeWhile (· != c)),tx ((l.dropWhile (· != c)).drop 1),true,()) else (tx [],tx [],false,())):=by
 rw[asR];refine cv (fun n i (_:Unit)=>Iw F0 (yu F0) n (yt (tx l) (c.toNat:Int) i)) l.length (fun k _=>c ∉ l.take k) _ (fun n k _ d a=>?_) (fun n _ a=>?_) F0.n 0 () (aR _) (by simp) (by rw[bz];omega)
 .rw[MT,bD,aM d,ae,an d,ab,Zn];by_cases e:l.getD k 0=c
  .left;have f:=azv d;rw[e]at f;have j:=aqM (b:=l.drop (k+1)) a;have g:((((l.getD k 0).toNat:Int))==(c.toNat:Int))=true:=by rw[e];simp
   have m:Tx 0 (k:Int) (l.length:Int)=true:=by simp[Tx];omega
   have o:Tx ((k+1:Nat):Int) (l.length:Int) (l.length:Int)=true:=by simp only[Tx,aG,bV];omega
   rw[g,ae,m,ab,al (by omega),o,ab,alB];simp only[gz,show(0:Int).toNat=0 from rfl];have p:c∈l:=by rw[f];simp
   rw[ag p,aqL,show((tx l).extract (k+1) l.length)=tx (l.drop (k+1)) by rw[<-extract_from,bD]];have q:l.takeWhile (· != c)=l.take k:=by
    have:=j.1
    rwa [<-f]at this
   have r:(l.dropWhile (· != c)).drop 1=l.drop (k+1):=by have:=j.2;rw[<-f]at this;rw[this];rfl
   rw[q,r]
  .right;have g:((((l.getD k 0).toNat:Int))==(c.toNat:Int))=false:=by refine bU.2 fun h=>e (UInt8.toNat_inj.1 (by omega))
   refine⟨(),by rw[g,aa,al (by omega)],?_⟩;rw[MI,aJ d 0];simp only[anU,gQ,fq];rintro(h|h)
   .exact a h
   .exact e h.symm
 .rw[kl]at a;rw[MT,bD,aC,aa,ahD,af a];rfl
def agk {a b:List UInt8}{c:UInt8}(h:c ∉ a):Lib.indexByte (a++c::b) c=a.length:=by
 induction a with
 |nil=>simp[Lib.indexByte]
 |cons x a d =>
  have e:(x==c)=false:=by simp;rintro rfl;simp at h
  have:=d fun f=>h (jO _ f)
  rw[Hh];unfold Lib.indexByte;rw[e,this];simp
def agl {a:List UInt8}{c:UInt8}(h:c ∉ a):Lib.indexByte a c=-1:=by
 induction a with
 |nil=>rfl
 |cons x a b =>
  have d:(x==c)=false:=by simp;rintro rfl;simp at h
  have:=b fun e=>h (jO _ e)
  unfold Lib.indexByte;rw[d,this];rfl
def agm {l:List UInt8}{c:UInt8}(h:c∈l):∃a b,l=a++c::b/\c ∉ a:=by
 induction l with
 |nil=>cases h
 |cons x l g =>
  by_cases d:x=c
  .exact⟨[],l,by rw[d];rfl,by simp⟩
  .rcases cS.1 h with e|e
   .exact absurd e.symm d
   .obtain⟨a,b,i,j⟩:=g e;exact⟨x::a,b,by rw[i];rfl,fun k=>by
     rcases cS.1 k with f|f
     .exact d f.symm
     .exact j f⟩
def aJr (l:List UInt8)(c:UInt8):Lib.cut l [c]=(l.takeWhile (· != c),(l.dropWhile (· != c)).drop 1,decide (c∈l)):=by
 unfold Lib.cut;rw[Lib.index_one];by_cases h:c∈l
 .obtain⟨a,b,rfl,d⟩:=agm h;rw[agk d,ag (by omega),(aqM d).1,(aqM d).2];simp[avK,List.drop_append]
 .rw[agl h,af (by omega),(aKJ h).1,(aKJ h).2];simp[h]
def wc {l:List UInt8}(c:UInt8)(a:l.length<4294967281):strings_Cut F0 (tx l) (tx [c])=some (tx (l.takeWhile (· != c)),tx ((l.dropWhile (· != c)).drop 1),decide (c∈l),()):=by
 have h:Nat.blt (tx l).size 4294967281=true:=by rw[bD];simpa using a
 unfold strings_Cut;rw[h,ab,fv,fv,aJr];rfl
abbrev dH:=Int×(Int×(Int×Int))
def agn (x lo hi:Int):bN F0 x lo hi=some (decide (lo<=x)&&decide (x<=hi),()):=by
 rw[awD];by_cases h:lo<=x
 .rw[aL (show x>=lo from h),ae,eF]
 .rw[aQ (show ¬x>=lo from h),aa,aap]
def SX (x lo hi:Int):aZ F0 x lo hi=some (decide (lo<=x)&&decide (x<=hi),()):=by
 rw[apT];by_cases h:lo<=x
 .rw[aL (show x>=lo from h),ae,eF]
 .rw[aQ (show ¬x>=lo from h),aa,aap]
def inB (x lo hi:Int):Bool:=decide (lo<=x)&&decide (x<=hi)
def gx (x:dH):Bool:=inB x.1 0 3&&inB x.2.1 0 3&&inB x.2.2.1 0 1000&&inB x.2.2.2 0 99
def aB9 (a b:Bool):br a (some (b,())) (some (false,()))=some (a&&b,()):=by cases a<;>rfl
def RQ (x:dH):rT F0 x=some (gx x,()):=by rw[awE];simp only[agn,ai,aB9];simp only[gx,inB,Bool.and_assoc]
def Db (x:dH):o4 F0 x=some (gx x,()):=by rw[awW];simp only[SX,ai,aB9];simp only[gx,inB,Bool.and_assoc]
def nc {x:dH}(h:gx x=true):(0<=x.1/\x.1<=3)/\(0<=x.2.1/\x.2.1<=3)/\(0<=x.2.2.1/\x.2.2.1<=1000)/\(0<=x.2.2.2/\x.2.2.2<=99):=by simp only[gx,inB,aG,bV]at h;exact⟨h.1.1.1,h.1.1.2,h.1.2,h.2⟩
def txL (x:dH):List UInt8:=Lib.itoa x.1++62::(Lib.itoa x.2.1++58::(Lib.itoa x.2.2.1++35::Lib.itoa x.2.2.2))
def aqN {x:dH}(h:gx x=true):(txL x).length<=90:=by obtain⟨a,b,c,d⟩:=nc h;have e:=SW (n:=x.1) ⟨by omega,by omega⟩;have f:=SW (n:=x.2.1) ⟨by omega,by omega⟩;have g:=SW (n:=x.2.2.1) ⟨by omega,by omega⟩;have i:=SW (n:=x.2.2.2) ⟨by omega,by omega⟩;simp only[txL,aK,aW];omega
def adx (x:dH):List UInt8:=if gx x=true then txL x else []
def aqO (x:dH):wZ F0 x=some (tx (adx x),()):=by
 rw[aoM,RQ,ai];unfold adx;cases h:gx x with
 |false=>rfl
 |true =>
  obtain⟨f,g,i,j⟩:=nc h;have a:=C9 (n:=x.1) ⟨by omega,by omega⟩;have b:=C9 (n:=x.2.1) ⟨by omega,by omega⟩;have c:=C9 (n:=x.2.2.1) ⟨by omega,by omega⟩;have d:=C9 (n:=x.2.2.2) ⟨by omega,by omega⟩;have e:=aqN h;simp only[txL,aK,aW]at e;simp only[aN,aa,a,b,c,d,ai,show ByteArray.mk #[62]=tx [62] from rfl,show ByteArray.mk #[58]=tx [58] from rfl,show ByteArray.mk #[35]=tx [35] from rfl,gh,bD];rw[ig (by simp only[aK,aW,bm];omega),ab,ig (by simp only[aK,aW,bm];omega),ab,ig (by simp only[aK,aW,bm];omega),ab,ig (by simp only[aK,aW,bm];omega),ab,ig (by simp only[aK,aW,bm];omega),ab,ig (by simp only[aK,aW,bm];omega),ab];simp[txL]
def akS (x:dH):FH F0 x=some (tx (adx x),()):=by
 rw[apX,Db,ai];unfold adx;cases h:gx x with
 |false=>rfl
 |true =>
  obtain⟨f,g,i,j⟩:=nc h;have a:=RP (n:=x.1) ⟨by omega,by omega⟩;have b:=RP (n:=x.2.1) ⟨by omega,by omega⟩;have c:=RP (n:=x.2.2.1) ⟨by omega,by omega⟩;have d:=RP (n:=x.2.2.2) ⟨by omega,by omega⟩;have e:=aqN h;simp only[txL,aK,aW]at e;simp only[aN,aa,a,b,c,d,ai,show ByteArray.mk #[62]=tx [62] from rfl,show ByteArray.mk #[58]=tx [58] from rfl,show ByteArray.mk #[35]=tx [35] from rfl,gh,bD];rw[ig (by simp only[aK,aW,bm];omega),ab,ig (by simp only[aK,aW,bm];omega),ab,ig (by simp only[aK,aW,bm];omega),ab,ig (by simp only[aK,aW,bm];omega),ab,ig (by simp only[aK,aW,bm];omega),ab,ig (by simp only[aK,aW,bm];omega),ab];simp[txL]
def aEB (u:Nat):∀c∈Lib.decDigits u,isD c=true:=by
 induction u using Nat.strongRecOn with
 |ind u d =>
  intro c a;rw[Lib.decDigits]at a;have key:∀v:Nat,v<10->isD (UInt8.ofNat (48+v))=true:=fun v e=>by
   have:(UInt8.ofNat (48+v)).toNat=48+v:=by rw[UInt8.toNat_ofNat'];omega
   simp only[isD,this,aG,bV];omega
  by_cases b:u<10
  .rw[dif_pos b,fq]at a;rw[a];exact key u b
  .rw[dif_neg b]at a;rcases gQ.1 a with a|a
   .exact d (u/10) (by omega) c a
   .rw[fq]at a;rw[a];exact key _ (ack _ (by omega))
def aJs (u:Nat):val (Lib.decDigits u) 0=u:=by
 induction u using Nat.strongRecOn with
 |ind u b =>
  have key:∀v:Nat,v<10->(UInt8.ofNat (48+v)).toNat=48+v:=fun v c=>by rw[UInt8.toNat_ofNat'];omega
  rw[Lib.decDigits];by_cases a:u<10
  .rw[dif_pos a];simp only[val,key u a];omega
  .rw[dif_neg a,aqJ,b (u/10) (by omega)];simp only[val,key (u%10) (ack _ (by omega))];omega
def aJt {k:Nat}:∀{u:Nat},u<10 ^ (k+1)->1<=(Lib.decDigits u).length/\(Lib.decDigits u).length<=k+1:=by
 induction k with
 |zero =>
  intro u a;rw[Lib.decDigits,dif_pos (by omega)];simp
 |succ k c =>
  intro u a;rw[Lib.decDigits];by_cases b:u<10
  .rw[dif_pos b];simp
  .rw[dif_neg b];have:=c (u:=u/10) (by rw[Nat.pow_succ]at a;omega);rw[aK,cR];omega
def aqP (u:Nat):Lib.itoa (u:Int)=Lib.decDigits u:=Lib.itoa_nonneg u
def x3 {n:Int}(a:0<=n)(b:n<=999999):fG (Lib.itoa n)=(n,true):=by obtain⟨u,rfl⟩:∃u:Nat,n=u:=⟨n.toNat,by omega⟩;rw[aqP];have c:=aJt (k:=5) (u:=u) (by omega);unfold fG;rw[af (by omega),ag (ek.2 (aEB u)),aJs,aqP,ag rfl]
def ajf {n:Int}(b:0<=n){c:UInt8}(a:isD c=false):c ∉ Lib.itoa n:=by obtain⟨u,rfl⟩:∃u:Nat,n=u:=⟨n.toNat,by omega⟩;rw[aqP];intro h;rw[aEB u c h]at a;cases a
def BD (l:List UInt8)(c:UInt8):List UInt8×List UInt8:=if c∈l then (l.takeWhile (· != c),(l.dropWhile (· != c)).drop 1) else ([],[])
def eN (l:List UInt8)(c:UInt8):List UInt8×List UInt8:=(l.takeWhile (· != c),(l.dropWhile (· != c)).drop 1)
def ajg (l:List UInt8):dH:=((fG (BD l 62).1).1,(fG (BD (BD l 62).2 58).1).1,(fG (BD (BD (BD l 62).2 58).2 35).1).1,(fG (BD (BD (BD l 62).2 58).2 35).2).1)
def aCa (l:List UInt8):dH:=((fG (eN l 62).1).1,(fG (eN (eN l 62).2 58).1).1,(fG (eN (eN (eN l 62).2 58).2 35).1).1,(fG (eN (eN (eN l 62).2 58).2 35).2).1)
def axr {a b:List UInt8}{c:UInt8}(h:c ∉ a):BD (a++c::b) c=(a,b):=by unfold BD;rw[ag (by simp),(aqM h).1,(aqM h).2];rfl
def axs {a b:List UInt8}{c:UInt8}(h:c ∉ a):eN (a++c::b) c=(a,b):=by unfold eN;rw[(aqM h).1,(aqM h).2];rfl
def aHv {x:dH}(h:gx x=true):ajg (txL x)=x:=by obtain⟨a,b,c,d⟩:=nc h;unfold ajg txL;rw[axr (ajf a.1 (by decide)),axr (ajf b.1 (by decide)),axr (ajf c.1 (by decide))];simp only[x3 a.1 (by omega),x3 b.1 (by omega),x3 c.1 (by omega),x3 d.1 (by omega)]
def azw {x:dH}(h:gx x=true):aCa (txL x)=x:=by obtain⟨a,b,c,d⟩:=nc h;unfold aCa txL;rw[axs (ajf a.1 (by decide)),axs (ajf b.1 (by decide)),axs (ajf c.1 (by decide))];simp only[x3 a.1 (by omega),x3 b.1 (by omega),x3 c.1 (by omega),x3 d.1 (by omega)]
def aai (l:List UInt8):dH×Bool:=if gx (ajg l)=true/\txL (ajg l)=l then (ajg l,true) else ((0,0,0,0),false)
def azx (l:List UInt8)(c:UInt8):((l.dropWhile (· != c)).drop 1).length<=l.length:=by rw[bc];have:=(List.dropWhile_sublist (l:=l) (· != c)).length_le;omega
def axt (l:List UInt8)(c:UInt8):(BD l c).2.length<=l.length:=by
 unfold BD;split
 .exact azx l c
 .simp
def anz (l:List UInt8)(c:UInt8):(eN l c).2.length<=l.length:=azx l c
def aqQ {l:List UInt8}(c:UInt8)(a:l.length<=4294967296):∃b,ih F0 (tx l) (c.toNat:Int)=some (tx (BD l c).1,tx (BD l c).2,b,()):=by
 rw[auJ c a];unfold BD;split
 .exact⟨_,rfl⟩
 .exact⟨_,rfl⟩
def aHw {l:List UInt8}(g:l.length<=4294967280):Za F0 (tx l)=some ((aai l).1,(aai l).2,()):=by
 obtain⟨i,c⟩:=aqQ (l:=l) 62 (by omega);obtain⟨j,d⟩:=aqQ (l:=(BD l 62).2) 58 (by have:=axt l 62;omega);obtain⟨k,e⟩:=aqQ (l:=(BD (BD l 62).2 58).2) 35 (by have:=axt l 62;have:=axt (BD l 62).2 58;omega);rw[awF];rw[show ih F0 (tx l) 62=_ from c,ai,show ih F0 _ 58=_ from d,ai,show ih F0 _ 35=_ from e,ai,Da,ai,Da,ai,Da,ai,Da,ai,show ak=tx [] from rfl,Vh];have f:((fG (BD l 62).1).1,(fG (BD (BD l 62).2 58).1).1,(fG (BD (BD (BD l 62).2 58).2 35).1).1,(fG (BD (BD (BD l 62).2 58).2 35).2).1)=ajg l:=rfl;simp only[f,aqO,ai,Vh];unfold aai adx;by_cases dd:gx (ajg l)=true
 .rw[ag dd];by_cases a:txL (ajg l)=l
  .have b:¬l=[]:=by rw[<-a];simp[txL]
   rw[ag ⟨dd,a⟩,aQ b,aa,aL a];rfl
  .rw[af (fun h=>a h.2),aQ a];cases decide (l=[])<;>rfl
 .rw[af dd,af (fun h=>dd h.1)];by_cases b:l=[]
  .rw[aL b];rfl
  .rw[aQ b,aa,aQ (fun h=>b h.symm)];rfl
def aFC {l:List UInt8}(h:l.length<4294967281):Zf F0 (tx l)=some ((aai l).1,(aai l).2,()):=by
 have i:=wc (l:=l) 62 h;have t:=anz l 62;have u:=anz (eN l 62).2 58;have j:=wc (l:=(eN l 62).2) 58 (by omega);have k:=wc (l:=(eN (eN l 62).2 58).2) 35 (by omega);rw[awX];rw[show ByteArray.mk #[62]=tx [62] from rfl,i,ai,show ByteArray.mk #[58]=tx [58] from rfl];rw[show strings_Cut F0 (tx ((l.dropWhile (· != 62)).drop 1)) (tx [58])=_ from j,ai,show ByteArray.mk #[35]=tx [35] from rfl];rw[show strings_Cut F0 (tx (((eN l 62).2.dropWhile (· != 58)).drop 1)) (tx [35])=_ from k,ai];have m:=fun (a b c d:ByteArray)=>(show aI [a,b,c,d] 0 ByteArray.empty=a from rfl)
 have n:=fun (a b c d:ByteArray)=>(show aI [a,b,c,d] 1 ByteArray.empty=b from rfl)
 have o:=fun (a b c d:ByteArray)=>(show aI [a,b,c,d] 2 ByteArray.empty=c from rfl)
 have p:=fun (a b c d:ByteArray)=>(show aI [a,b,c,d] 3 ByteArray.empty=d from rfl)
 rw[show bG 0 4=true from rfl,ab,m,Ga,ai,show bG 1 4=true from rfl,ab,n,Ga,ai,show bG 2 4=true from rfl,ab,o,Ga,ai,show bG 3 4=true from rfl,ab,p,Ga,ai];have q:((fG (l.takeWhile (· != 62))).1,(fG ((eN l 62).2.takeWhile (· != 58))).1,(fG ((eN (eN l 62).2 58).2.takeWhile (· != 35))).1,(fG (((eN (eN l 62).2 58).2.dropWhile (· != 35)).drop 1)).1)=aCa l:=rfl;simp only[q,Db,akS,ai,Vh];unfold aai adx;by_cases dd:gx (aCa l)=true
 .rw[ag dd,dd];by_cases e:txL (aCa l)=l
  .have r:ajg l=aCa l:=by have:=aHv dd;rw[e]at this;exact this
   rw[r,ag ⟨dd,e⟩,aL e];rfl
  .have:¬(gx (ajg l)=true/\txL (ajg l)=l):=by rintro⟨f,g⟩;have:=azw f;rw[g]at this;rw[this]at e;exact e g
   rw[af this,aQ e];rfl
 .have:¬(gx (ajg l)=true/\txL (ajg l)=l):=by rintro⟨f,g⟩;have:=azw f;rw[g]at this;rw[this]at dd;exact dd f
  rw[af this];have s:gx (aCa l)=false:=by simpa using dd
  rw[s];rfl
def aHx (l:List UInt8):gx (aai l).1=true:=by
 unfold aai;split
 .rename_i a;exact a.1
 .rfl
def parts (c:UInt8):List UInt8->List (List UInt8)
 |[]=>[[]]|x::l=>if x=c then []::parts c l else match parts c l with
  |p::a=>(x::p)::a|[]=>[[x]]
def Gb (c:UInt8)(l:List UInt8):parts c l≠[]:=by
 cases l with
 |nil=>simp[parts]
 |cons x l =>
  unfold parts;split
  .simp
  .split<;>simp
def aqR {c:UInt8}{a:List UInt8}(h:c ∉ a):parts c a=[a]:=by
 induction a with
 |nil=>rfl
 |cons x a b =>
  have d:¬x=c:=by rintro rfl;simp at h
  unfold parts;rw[af d,b fun e=>h (jO _ e)]
def azy {c:UInt8}{a b:List UInt8}(h:c ∉ a):parts c (a++c::b)=a::parts c b:=by
 induction a with
 |nil =>
  rw[BO]
  conv=>lhs;unfold parts
  rw[ag rfl]
 |cons x a d =>
  have e:¬x=c:=by rintro rfl;simp at h
  rw[Hh]
  conv=>lhs;unfold parts
  rw[af e,d fun f=>h (jO _ f)]
def J2 (c:UInt8)(l:List UInt8):(parts c l).length<=l.length+1:=by
 induction l with
 |nil=>simp[parts]
 |cons x l a =>
  unfold parts;split
  .simp only[aW];omega
  .split
   .rename_i p b h;rw[h]at a;simp only[aW]at a ⊢;omega
   .simp
def Dc {c:UInt8}:∀{l p:List UInt8},p∈parts c l->p.length<=l.length
 |[],p,h=>by simp only[parts,fq]at h;rw[h];simp
 |x::l,p,h=>by
  unfold parts at h;split at h
  .rcases cS.1 h with rfl|h
   .simp
   .have:=Dc h;simp only[aW];omega
  .split at h
   .rename_i q b a;rcases cS.1 h with rfl|h
    .have:=Dc (c:=c) (l:=l) (p:=q) (by rw[a];simp);simp only[aW];omega
    .have:=Dc (c:=c) (l:=l) (p:=p) (by rw[a];simp[h]);simp only[aW];omega
   .rw[fq]at h;rw[h];simp
def OO (l:List UInt8)(a b:Nat):(tx l).extract a b=tx ((l.drop a).take (b-a)):=by rw[Ku ((tx l).extract a b),Lib.extract_data,fv]
def auK {l:List UInt8}(c:UInt8)(w:l.length<=4294967296):wi F0 (tx l) (c.toNat:Int)=some ((parts c l).map tx,()):=by
 have x:=J2 c l;rw[asQ];refine cv (fun n i (z:Nat×List ByteArray)=>rS F0 (Kx F0) n (l6 (tx l) (c.toNat:Int) (z.1:Int) i z.2)) (l.length+1)
  (fun k z=>if k<=l.length then ∃done:List (List UInt8),z.2=done.map tx/\parts c l=done++parts c (l.drop z.1)/\z.1<=k/\c ∉ (l.drop z.1).take (k-z.1) else z.2=(parts c l).map tx) _ (fun n k z y d=>.inr ?_) (fun n z d=>?_) F0.n 0 (0,[]) (aR _) ?_ (by rw[bz];omega)
 .obtain⟨a,xs⟩:=z;rw[ag (by omega)]at d;obtain⟨done,rfl,e,p,f⟩:=d;simp only at e p f;have A:done.length+1<=l.length+1:=by have g:=nk List.length e;have B:0<(parts c (l.drop a)).length:=List.length_pos_iff.2 (Gb c _);rw[aK]at g;omega
  have q:decide ((k:Int)<=(l.length:Int))=true:=aL (by omega);rw[MS,bD,q,ae];have r:Tx (a:Int) (k:Int) (l.length:Int)=true:=by simp only[Tx,aG,bV];omega
  have s:∀b:ByteArray,ep F0 (done.map tx).length [b].length 16=true:=fun b=>ar (by omega) (by omega) (by rw[pj];simp only[aW,bm];omega)
  simp only[gz,OO,r,s,ab,al (show k+1<=9223372036854775807 by omega)];by_cases t:k=l.length
  .subst t;rw[aao,ae];refine⟨(l.length+1,(parts c l).map tx),?_,by rw[af (by omega)]⟩;have u:(l.drop a).take (l.length-a)=l.drop a:=anQ (by rw[bc];omega);rw[u]at f ⊢;rw[e,aqR f];simp
  .have hlt:k<l.length:=by omega
   have v:(((k:Nat):Int)==(l.length:Int))=false:=bU.2 (by omega);rw[v,aa,an hlt,ab,Zn];have m:l.drop a=(l.drop a).take (k-a)++l.getD k 0::l.drop (k+1):=by
    have:=azv (l:=l.drop a) (k:=k-a) (by rw[bc];omega);have o:(l.drop a).getD (k-a) 0=l.getD k 0:=by simp only[Fa,ajW];rw[show a+(k-a)=k by omega]
    rw[o,anY,show a+(k-a+1)=k+1 by omega]at this;exact this
   by_cases j:l.getD k 0=c
   .have g:((((l.getD k 0).toNat:Int))==(c.toNat:Int))=true:=by rw[j];simp
    rw[g,ae];refine⟨(k+1,done.map tx++[tx ((l.drop a).take (k-a))]),rfl,?_⟩;rw[ag (by omega)];refine⟨done++[(l.drop a).take (k-a)],by simp,?_,bF _,by simp⟩;rw[j]at m;rw[e,m,azy f,<-m];simp
   .have g:((((l.getD k 0).toNat:Int))==(c.toNat:Int))=false:=bU.2 fun h=>j (UInt8.toNat_inj.1 (by omega))
    rw[g,aa];refine⟨(a,done.map tx),rfl,?_⟩;rw[ag (by omega)];refine⟨done,rfl,e,by show a<=k+1;omega,?_⟩;have o:(l.drop a).take (k+1-a)=(l.drop a).take (k-a)++[l.getD k 0]:=by
     rw[show k+1-a=(k-a)+1 by omega,MI]
     congr 1
     have:(l.drop a)[k-a]?=some (l.getD k 0):=by rw[ajW,show a+(k-a)=k by omega];exact aJ hlt 0
     rw[this];rfl
    show c ∉ (l.drop a).take (k+1-a);rw[o,gQ,fq];rintro(h|h)
    .exact f h
    .exact j h.symm
 .rw[af (by omega)]at d;rw[MS,bD,aQ (by omega),aa,ahC,d]
 .rw[ag (by omega)];exact⟨[],rfl,rfl,bF _,by simp⟩
def axu (c:UInt8):∀(n:Nat) (l:List UInt8),l.length<=n->∀k,k=Lib.countB (tx l) (tx [c])->Lib.splitB (tx [c]) 0 k (tx l)=(parts c l).map tx:=by
 intro n
 induction n with
 |zero =>
  intro l f k m;obtain rfl:l=[]:=aak (by omega);have d:Lib.indexB (tx []) (tx [c])=-1:=by show Lib.index (tx []).data.toList (tx [c]).data.toList=-1;rw[fv,fv,Lib.index_one];rfl
  rw[Lib.splitB_miss _ _ _ _ d];rfl
 |succ n o =>
  intro l f k m;by_cases h:c∈l
  .obtain⟨a,b,rfl,g⟩:=agm h;have d:Lib.indexB (tx (a++c::b)) (tx [c])=(a.length:Int):=by show Lib.index (tx (a++c::b)).data.toList (tx [c]).data.toList=_;rw[fv,fv,Lib.index_one,agk g]
   have i:(tx [c]).size=1:=bD [c];have j:(tx (a++c::b)).extract (a.length+(tx [c]).size) (tx (a++c::b)).size=tx b:=by
    rw[extract_from,i]
    congr 1
    simp[List.drop_append]
   have p:=Lib.countB_hit (tx (a++c::b)) (tx [c]) a.length (by rw[i];omega) d;rw[j]at p;obtain⟨e,rfl⟩:∃e,k=e+1:=⟨Lib.countB (tx b) (tx [c]),by omega⟩;rw[Lib.splitB_hit _ _ _ _ _ d,j,o b (by simp only[aK,aW]at f;omega) e (by omega),azy g,Sb,aqL];simp[avK]
  .have d:Lib.indexB (tx l) (tx [c])=-1:=by show Lib.index (tx l).data.toList (tx [c]).data.toList=-1;rw[fv,fv,Lib.index_one,agl h]
   rw[Lib.splitB_miss _ _ _ _ d,aqR h];rfl
def aqS {l:List UInt8}(c:UInt8)(a:l.length<4294967281):wy F0 (tx l) (c.toNat:Int)=some ((parts c l).map tx,()):=by
 have b:strOf [(c.toNat:Int)]=tx [c]:=by
  simp only[strOf,tx,tf,List.map_nil]
  congr 2
  simp
 have h:Nat.blt (tx l).size 4294967281=true:=by rw[bD];simpa using a
 have d:Nat.ble 1 (tx [c]).size=true:=by rw[bD];rfl
 rw[atc,b];unfold strings_Split;rw[h,d,Bool.and_self,ab,ai,axu c l.length l (bF _) _ rfl]
def tK {σ V:Type}(f:σ->List UInt8->Option (σ×V)):σ->List (List UInt8)->Option (List V)
 |_,[]=>some []|s,p::a=>match f s p with
  |none=>none|some (c,b)=>match tK f c a with
   |none=>none|some r=>some (b::r)
def RR {σ V γ:Type}(f:σ->List UInt8->Option (σ×V))(I:σ->Prop)(P:List (List UInt8))(X:Nat->σ->Int->List V->Option γ)(c:Option γ)(d:List V->Option γ)
  (g:∀n k s xs p,k<P.length->P[k]?=some p->I s->xs.length=k->X (n+1) s (k:Int) xs=match f s p with|none=>c|some (a,b)=>X n a ((k+1:Nat):Int) (xs++[b]))
  (i:∀n s xs,xs.length=P.length->X (n+1) s (P.length:Int) xs=d xs) (j:∀s p a b,I s->f s p=some (a,b)->I a) :
  ∀(n k:Nat) (s:σ) (xs:List V),k<=P.length->P.length-k<n->I s->xs.length=k->X n s (k:Int) xs=match tK f s (P.drop k) with|none=>c|some l=>d (xs++l)
 |0,_,_,_,_,h,_,_=>absurd h (Ts _)|n+1,k,s,xs,u,v,m,e=>by
  rcases Tt k P.length with hlt|w
  .have o:P[k]?=some P[k]:=om hlt;rw[g n k s xs P[k] hlt o m e,VK hlt];simp only[tK];cases t:f s P[k]with
   |none=>rfl
   |some q =>
    obtain⟨a,b⟩:=q;simp only;rw[RR f I P X c d g i j n (k+1) a (xs++[b]) hlt (by omega) (j _ _ _ _ m t) (by simp[e])];cases tK f a (P.drop (k+1)) with
    |none=>rfl|some r=>simp
  .obtain rfl:k=P.length:=by omega
   rw[i n s xs e,VM];simp[tK]
def RS {σ V:Type}{f:σ->List UInt8->Option (σ×V)}:∀{P:List (List UInt8)} {s:σ} {r:List V},tK f s P=some r->r.length=P.length
 |[],_,r,h=>by cases h;rfl
 |p::b,s,r,h=>by
  simp only[tK]at h;split at h
  .cases h
  .split at h
   .cases h
   .rename_i a;cases h;simp[RS a]
def aqT {σ V:Type}{f:σ->List UInt8->Option (σ×V)}{Q:V->Prop}(a:∀s p c b,f s p=some (c,b)->Q b):∀{P:List (List UInt8)} {s:σ} {r:List V},tK f s P=some r->∀b∈r,Q b
 |[],_,r,h=>by cases h;simp
 |p::g,s,r,h=>by
  simp only[tK]at h;split at h
  .cases h
  .rename_i d;split at h
   .cases h
   .rename_i e;cases h;intro b hb;rcases cS.1 hb with rfl|hb
    .exact a _ _ _ _ d
    .exact aqT a e b hb
def txF (_:Unit)(p:List UInt8):Option (Unit×dH):=if (aai p).2=true then some ((),(aai p).1) else none
def lS (l:List UInt8):List dH×Bool:=if l=[] then ([],true) else match tK txF () (parts 44 l) with|none=>([],false)|some r=>(r,true)
def auL (l:List UInt8):(lS l).1.length<=l.length+1:=by
 unfold lS;split
 .simp
 .split
  .simp
  .rename_i r a;have:=RS a;have:=J2 44 l;simp only;omega
def aHz (l:List UInt8):∀x∈(lS l).1,gx x=true:=by
 unfold lS;split
 .simp
 .split
  .simp
  .rename_i r a;refine aqT (Q:=fun x=>gx x=true) (fun s p c b h=>?_) a;unfold txF at h;split at h
   .cases h;exact aHx p
   .cases h
def ajh (l:List UInt8):((tx l).toList==ak.toList)=decide (l=[]):=Vh l []
def axv (P:List (List UInt8))(k:Nat){p:List UInt8}(h:P[k]?=some p):aI (P.map tx) (k:Int) ByteArray.empty=tx p:=by show(P.map tx).getD k ByteArray.empty=_;simp[Fa,h]
def auM {l:List UInt8}(f:l.length<=1073741824):Cq F0 (tx l)=some ((lS l).1,(lS l).2,()):=by
 have g:=J2 44 l;rw[asS,ajh];unfold lS;by_cases a:l=[]
 .rw[aL a,ag a];rfl
 .rw[aQ a,aa,af a,show wi F0 (tx l) 44=_ from auK 44 (by omega),ai];have:=RR txF (fun _=>True) (parts 44 l) (fun n _ i xs=>Iz F0 (yw F0) n (yv i xs ((parts 44 l).map tx))) (some ([],false,())) (fun xs=>some (xs,true,())) (fun n k s xs p c d _ e=>?_) (fun n s xs e=>?_) (fun _ _ _ _ _ _=>trivial) F0.n 0 () [] (aR _) (by rw[bz];omega) trivial rfl
  .simp only[aed,BO]at this;rw[show((0:Nat):Int)=0 from rfl]at this;rw[this];cases tK txF () (parts 44 l)<;>rfl
  .have h:=Dc (atZ d);rw[MU,pj,aM c,ae,an c,ab,axv _ _ d,aHw (by omega),ai];unfold txF;cases dd:(aai p).2 with
   |false=>simp only[ed,ae,alC];rfl
   |true =>
    simp only[aN,aa];rw[ar (b:=[(aai p).1].length) (k:=32) (by omega) (by omega) (by simp only[aW,bm];omega),ab,al (by omega)];rfl
  .rw[MU,pj,aC,aa,ahF]
def aCb {l:List UInt8}(f:l.length<=1073741824):Lu F0 (tx l)=some ((lS l).1,(lS l).2,()):=by
 have g:=J2 44 l;rw[atd,ajh];unfold lS;by_cases a:l=[]
 .rw[aL a,ag a];rfl
 .rw[aQ a,aa,af a,show wy F0 (tx l) 44=_ from aqS 44 (by omega),ai];have:=RR txF (fun _=>True) (parts 44 l) (fun n _ i xs=>Ja F0 (Av F0) n (Au ((parts 44 l).map tx) (((parts 44 l).map tx).length:Int) i xs)) (some ([],false,())) (fun xs=>some (xs,true,())) (fun n k s xs p c d _ e=>?_) (fun n s xs e=>?_) (fun _ _ _ _ _ _=>trivial) F0.n 0 () [] (aR _) (by rw[bz];omega) trivial rfl
  .simp only[aed,BO]at this;rw[show((0:Nat):Int)=0 from rfl]at this;rw[this];cases tK txF () (parts 44 l)<;>rfl
  .have h:=Dc (atZ d);rw[NS,pj,aM c,ae,an c,ab,axv _ _ d,aFC (by omega),ai];unfold txF;cases dd:(aai p).2 with
   |false=>simp only[ed,ae,amz];rfl
   |true =>
    simp only[aN,aa];rw[ar (b:=[(aai p).1].length) (k:=32) (by omega) (by omega) (by simp only[aW,bm];omega),ab,al (by omega)];rfl
  .rw[NS,pj,aC,aa,ail]
abbrev RT:=Int×List dH
def tn (a:Int)(p:List UInt8):Option (Int×RT) :=
 if 124∈p/\(fG (eN p 124).1).2=true/\(lS (eN p 124).2).2=true/\a<(fG (eN p 124).1).1/\(fG (eN p 124).1).1<=60/\(lS (eN p 124).2).1.length<=2
 then some ((fG (eN p 124).1).1,(fG (eN p 124).1).1,(lS (eN p 124).2).1) else none
def a6 (l:List UInt8):List RT×Bool:=if l=[] then ([],true) else match parts 47 l with
 |[]=>([],false)|b::a=>if ¬b=[]\/30<a.length then ([],false) else match tK tn 0 a with
  |none=>([],false)|some r=>(r,true)
def axw (s:RT):Prop:=0<=s.1/\s.1<=60/\s.2.length<=2/\∀x∈s.2,gx x=true
def Yo {d:Int}{p:List UInt8}{a:Int}{b:RT}(h:tn d p=some (a,b)):axw b/\a=b.1:=by
 unfold tn at h;split at h
 .rename_i c;cases h;exact⟨⟨(aqK _).1,c.2.2.2.2.1,c.2.2.2.2.2,aHz _⟩,rfl⟩
 .cases h
def SY (l:List UInt8):∀s∈(a6 l).1,axw s:=by
 unfold a6;split
 .simp
 .split
  .simp
  .split
   .simp
   .split
    .simp
    .rename_i a;exact aqT (Q:=axw) (fun s p c b h=>(Yo h).1) a
def rE (l:List UInt8):(a6 l).1.length<=30:=by
 unfold a6;split
 .simp
 .split
  .simp
  .split
   .simp
   .split
    .simp
    .rename_i a;have:=RS a;simp only;omega
def br6 {U:Type}(a b c d e f:Bool)(x y:U):br (!a) x (br (!b) x (br (!c) x (br d x (br e x (br f x y)))))=if a=true/\b=true/\c=true/\d=false/\e=false/\f=false then y else x:=by cases a<;>cases b<;>cases c<;>cases d<;>cases e<;>cases f<;>rfl
def br5 {U:Type}(a b c d f:Bool)(x y:U):br (!a) x (br (!b) x (br (!c) x (br (!d) x (br f x y))))=if a=true/\b=true/\c=true/\d=true/\f=false then y else x:=by cases a<;>cases b<;>cases c<;>cases d<;>cases f<;>rfl
def Zo {l:List UInt8}(G:l.length<=1073741824):qa F0 (tx l)=some ((a6 l).1,(a6 l).2,()):=by
 have q:=J2 47 l;have r:=fun p (h:p∈parts 47 l)=>Dc h
 rw[asU,ajh];unfold a6;by_cases f:l=[]
 .rw[aL f,ag f];rfl
 .rw[aQ f,aa,af f,show wi F0 (tx l) 47=_ from auK 47 (by omega),ai];cases t:parts 47 l with
  |nil=>exact absurd t (Gb 47 l)
  |cons c a =>
   rw[t]at q r;simp only[aW]at q;have x:aI ((c::a).map tx) 0 ByteArray.empty=tx c:=rfl;have y:bG 0 (((c::a).map tx).length:Int)=true:=an (k:=0) (by simp);simp only[y,ab,x,ajh];by_cases d:c=[]
   .by_cases z:30<a.length
    .rw[aL d,aN,aa,aL (by rw[pj,aW];omega),ae,ag (.inr z)]
    .rw[aL d,aN,aa,aQ (by rw[pj,aW];omega),aa,af (by simp[d];omega)];have:=RR tn (fun s=>0<=s/\s<=60) a (fun n s i xs=>IC F0 (yy F0) n (yx s (i+1) [] xs ((c::a).map tx))) (some ([],false,())) (fun xs=>some (xs,true,())) (fun n k s xs p H u A B=>?_) (fun n s xs B=>?_) (fun s p I b A C=>?_) F0.n 0 0 [] (aR _) (by rw[bz];omega) ⟨by omega,by omega⟩ rfl
     .simp only[aed,BO]at this;rw[show((0:Nat):Int)+1=1 from rfl]at this;rw[this];cases tK tn 0 a<;>rfl
     .have K:=r p (jO _ (atZ u));have v:k+1<((c::a).map tx).length:=by simp;omega
      have D:aI ((c::a).map tx) (((k+1:Nat)):Int) ByteArray.empty=tx p:=axv _ _ (by simpa using u);rw[show((k:Int)+1)=((k+1:Nat):Int) by omega,MV,aM v,ae,an v,ab,D,show ih F0 (tx p) 124=_ from auJ 124 (by omega),ai];have L:=anz p 124;have M:=aqK (eN p 124).1;have N:=auL (eN p 124).2;by_cases g:(124:UInt8)∈p
      .rw[ag g];simp only[Da,ai];rw[show Cq F0 (tx ((p.dropWhile (· != 124)).drop 1))=some ((lS (eN p 124).2).1,(lS (eN p 124).2).2,()) from auM (by show(eN p 124).2.length<=_;omega),ai];simp only[TH];rw[br6];unfold tn;have E:(fG (p.takeWhile (· != 124)))=fG (eN p 124).1:=rfl;rw[E];by_cases e:124∈p/\(fG (eN p 124).1).2=true/\(lS (eN p 124).2).2=true/\s<(fG (eN p 124).1).1/\(fG (eN p 124).1).1<=60/\(lS (eN p 124).2).1.length<=2
       .have j:decide ((fG (eN p 124).1).1<=s)=false:=aQ (by omega);have m:decide ((fG (eN p 124).1).1>60)=false:=aQ (by omega);have o:decide (((lS (eN p 124).2).1.length:Int)>2)=false:=aQ (by omega);rw[ag e,ag ⟨rfl,e.2.1,e.2.2.1,j,m,o⟩];simp only;rw[ar (b:=[((fG (eN p 124).1).1,(lS (eN p 124).2).1)].length) (k:=32) (by omega) (by omega) (by simp only[aW,bm];omega),ab,al (by omega)];rfl
       .rw[af e,af (fun h=>e ?_)];have j:decide ((fG (eN p 124).1).1<=s)=false:=h.2.2.2.1;have m:decide ((fG (eN p 124).1).1>60)=false:=h.2.2.2.2.1;have o:decide (((lS (eN p 124).2).1.length:Int)>2)=false:=h.2.2.2.2.2;have O:=ahj j;have P:=ahj m;have Q:=ahj o;exact⟨g,h.2.1,h.2.2.1,by omega,by omega,by omega⟩
      .rw[af g];unfold tn;rw[af (fun h=>g h.1),Da,ai,show Cq F0 (tx [])=_ from auM (by simp),ai];simp only[ed,ae,TH]
     .rw[show((a.length:Int)+1)=(((c::a).map tx).length:Int) by simp,MV,aC,aa,ahG]
     .obtain⟨w,F⟩:=Yo C;rw[F];exact⟨w.1,w.2.1⟩
   .rw[aQ d,ed,ae,ag (.inl d)]
def SZ {l:List UInt8}(E:l.length<=1073741824):q9 F0 (tx l)=some ((a6 l).1,(a6 l).2,()):=by
 have g:=J2 47 l;have j:=fun p (h:p∈parts 47 l)=>Dc h
 rw[atf,ajh];unfold a6;by_cases f:l=[]
 .rw[aL f,ag f];rfl
 .rw[aQ f,aa,af f,show wy F0 (tx l) 47=_ from aqS 47 (by omega),ai];cases m:parts 47 l with
  |nil=>exact absurd m (Gb 47 l)
  |cons c a =>
   rw[m]at g j;simp only[aW]at g;have t:aI ((c::a).map tx) 0 ByteArray.empty=tx c:=rfl;have u:bG 0 (((c::a).map tx).length:Int)=true:=an (k:=0) (by simp);have hlen:((c::a).map tx).length=a.length+1:=by simp
   have v:Tx 1 (((c::a).map tx).length:Int) (((c::a).map tx).length:Int)=true:=by rw[hlen];simp only[Tx,aG,bV];omega
   have w:((((c::a).map tx).take (((c::a).map tx).length:Int).toNat).drop (1:Int).toNat)=a.map tx:=by rw[gz,kl];rfl
   simp only[u,ab,t,ajh,v,w];rw[hlen,aH (by omega) (by omega)];by_cases e:c=[]
   .by_cases x:30<a.length
    .rw[aL e,aN,aa,aL (by omega),ae,ag (.inr x)]
    .rw[aL e,aN,aa,aQ (by omega),aa,af (by simp[e];omega)];have:=RR tn (fun s=>0<=s/\s<=60) a (fun n s i xs=>Jd F0 (Ax F0) n (Aw s (a.map tx) ((a.map tx).length:Int) i xs)) (some ([],false,())) (fun xs=>some (xs,true,())) (fun n k s xs p o q y z=>?_) (fun n s xs z=>?_) (fun s p F b y A=>?_) F0.n 0 0 [] (aR _) (by rw[bz];omega) ⟨by omega,by omega⟩ rfl
     .simp only[aed,BO]at this;rw[show((0:Nat):Int)=0 from rfl]at this;rw[this];cases tK tn 0 a<;>rfl
     .have G:=j p (jO _ (atZ q));have H:=anz p 124;have I:=aqK (eN p 124).1;have K:=auL (eN p 124).2;rw[NT,pj,aM o,ae,an o,ab,axv _ _ q,show ByteArray.mk #[124]=tx [124] from rfl,wc 124 (by omega),ai];simp only[Ga,ai];rw[show Lu F0 (tx ((p.dropWhile (· != 124)).drop 1))=some ((lS (eN p 124).2).1,(lS (eN p 124).2).2,()) from aCb (by show(eN p 124).2.length<=_;omega),ai];simp only[amA,SX,ai];rw[br5];unfold tn;have B:(fG (p.takeWhile (· != 124)))=fG (eN p 124).1:=rfl;rw[B,aH (n:=s+1) (by omega) (by omega)];by_cases d:124∈p/\(fG (eN p 124).1).2=true/\(lS (eN p 124).2).2=true/\s<(fG (eN p 124).1).1/\(fG (eN p 124).1).1<=60/\(lS (eN p 124).2).1.length<=2
      .have C:(decide (s+1<=(fG (eN p 124).1).1)&&decide ((fG (eN p 124).1).1<=60))=true:=by rw[aL (by omega),aL (by omega)];rfl
       rw[ag d,ag ⟨aL d.1,d.2.1,d.2.2.1,C,aQ (by omega)⟩];simp only;rw[ar (b:=[((fG (eN p 124).1).1,(lS (eN p 124).2).1)].length) (k:=32) (by omega) (by omega) (by simp only[aW,bm];omega),ab,al (by omega)]
      .rw[af d,af (fun h=>d ⟨nj h.1,h.2.1,h.2.2.1,by have:=h.2.2.2.1;rw[aG]at this;have:=nj this.1;omega,by have:=h.2.2.2.1;rw[aG]at this;have:=nj this.2;omega,by have:=ahj h.2.2.2.2;omega⟩)]
     .rw[NT,pj,aC,aa,aim]
     .obtain⟨r,D⟩:=Yo A;rw[D];exact⟨r.1,r.2.1⟩
   .rw[aQ e,ed,ae,ag (.inl e)]
abbrev hJ:=List Int×List Int
def Cd (l:hJ):Bool:=decide (l.1.length=4)&&(decide (l.2.length=4)&&(l.1.all (fun n=>inB n 0 400)&&l.2.all (fun n=>inB n 0 100)))
def abZ {a:List Int}(lo hi:Int)(h:a.length<=1048576):rz F0 a lo hi=some (a.all (fun n=>inB n lo hi),()):=by
 rw[af0];refine cv (fun n i (_:Unit)=>s4 F0 (n7 F0) n (n6 lo hi a (a.length:Int) i)) a.length (fun k _=>∀x∈a.take k,inB x lo hi=true) _ (fun n k _ c d=>?_) (fun n _ d=>?_) F0.n 0 () (aR _) (by simp) (by rw[bz];omega)
 .rw[B6,aM c,ae,an c,ab,kq,SX,ai];show(br (!inB (a.getD k 0) lo hi) _ _=_)\/∃f:Unit,br (!inB (a.getD k 0) lo hi) _ _=_/\_;cases e:inB (a.getD k 0) lo hi with
  |false =>
   left;rw[ed,ae,Z6];have:a.all (fun n=>inB n lo hi)=false:=ahk.2 ⟨_,ot c 0,by rw[e];simp⟩;rw[this]
  |true =>
   right;refine⟨(),by rw[aN,aa,al (by omega)],?_⟩;intro x b;rw[MI,aJ c 0]at b;rcases gQ.1 b with b|b
   .exact d x b
   .simp only[anU,fq]at b;rw[b];exact e
 .rw[kl]at d;rw[B6,aC,aa,X3,ek.2 d]
def ab0 {l:hJ}(a:l.1.length<=1048576)(b:l.2.length<=1048576):uk F0 l=some (Cd l,()):=by
 rw[aiQ,abZ 0 400 a,abZ 0 100 b];have e:∀n:Nat,((n:Int)==4)=decide (n=4):=fun n=>by
  by_cases h:n=4
  .subst h;rfl
  .rw[aQ h];exact bU.2 (by omega)
 simp only[ai,e,aB9];rfl
def ago {l:hJ}:tV F0 l=some (Cd l,()):=by
 rw[ahR];have e:∀n:Nat,((n:Int) != 4)= !decide (n=4):=fun n=>by
  by_cases h:n=4
  .subst h;rfl
  .rw[aQ h];exact Fe.2 (by omega)
 rw[e,e];unfold Cd;by_cases c:l.1.length=4
 .by_cases g:l.2.length=4
  .rw[aL c,aL g,aN,aa,aa,eF,eF];refine cv (fun n i (_:Unit)=>u0 F0 (pA F0) n (pz i l.1 l.2)) 4 (fun k _=>(∀x∈l.1.take k,inB x 0 400=true)/\∀x∈l.2.take k,inB x 0 100=true) _ (fun n k _ o b=>?_) (fun n _ b=>?_) F0.n 0 () (by omega) (by simp) (by rw[bz];omega)
   .have d:k<l.1.length:=by omega
    have f:k<l.2.length:=by omega
    rw[Fw,show decide ((k:Int)<4)=true from aL (by omega),ae,an d,ab,kq,agn,ai,an f,ab,kq,agn,ai];show(br (!inB (l.1.getD k 0) 0 400) _ (br (!inB (l.2.getD k 0) 0 100) _ _)=_)\/∃p:Unit,br (!inB (l.1.getD k 0) 0 400) _ (br (!inB (l.2.getD k 0) 0 100) _ _)=_/\_;cases j:inB (l.1.getD k 0) 0 400 with
    |false =>
     left;rw[ed,ae,KV];have:l.1.all (fun n=>inB n 0 400)=false:=ahk.2 ⟨_,ot d 0,by rw[j];simp⟩;rw[this];rfl
    |true =>
     cases m:inB (l.2.getD k 0) 0 100 with
     |false =>
      left;rw[aN,aa,ed,ae,KV];have:l.2.all (fun n=>inB n 0 100)=false:=ahk.2 ⟨_,ot f 0,by rw[m];simp⟩;rw[this,aee]
     |true =>
      right;refine⟨(),by rw[aN,aa,aa,al (by omega)],?_,?_⟩
      .intro x a;rw[MI,aJ d 0]at a;rcases gQ.1 a with a|a
       .exact b.1 x a
       .simp only[anU,fq]at a;rw[a];exact j
      .intro x a;rw[MI,aJ f 0]at a;rcases gQ.1 a with a|a
       .exact b.2 x a
       .simp only[anU,fq]at a;rw[a];exact m
   .rw[anQ (by omega),anQ (by omega)]at b;rw[Fw,show decide (((4:Nat):Int)<4)=false from rfl,aa,ZS,ek.2 b.1,ek.2 b.2];rfl
  .rw[aL c,aQ g];rfl
 .rw[aQ c];rfl
def en (l:hJ)(x:dH):hJ×Int :=
 if Cd l=true/\gx x=true then
  if x.2.2.2<aI l.2 x.1 0 then (l,2)
  else if x.2.2.2>aI l.2 x.1 0 then (l,3)
  else if x.2.2.1>aI l.1 x.1 0 then ((l.1,l.2.set x.1.toNat (x.2.2.2+1)),4)
  else if Cd ((l.1.set x.1.toNat (aI l.1 x.1 0-x.2.2.1)).set x.2.1.toNat (aI (l.1.set x.1.toNat (aI l.1 x.1 0-x.2.2.1)) x.2.1 0+x.2.2.1),l.2.set x.1.toNat (x.2.2.2+1))=true
   then (((l.1.set x.1.toNat (aI l.1 x.1 0-x.2.2.1)).set x.2.1.toNat (aI (l.1.set x.1.toNat (aI l.1 x.1 0-x.2.2.1)) x.2.1 0+x.2.2.1),l.2.set x.1.toNat (x.2.2.2+1)),0)
   else (l,1)
 else (l,1)
def ady {l:hJ}(h:Cd l=true):l.1.length=4/\l.2.length=4/\(∀x∈l.1,0<=x/\x<=400)/\∀x∈l.2,0<=x/\x<=100:=by simp only[Cd,aG,bV,ek,inB]at h;exact⟨h.1,h.2.1,fun x a=>⟨(h.2.2.1 x a).1,(h.2.2.1 x a).2⟩,fun x a=>⟨(h.2.2.2 x a).1,(h.2.2.2 x a).2⟩⟩
def adz {l:hJ}(a:l.1.length<=1048576)(b:l.2.length<=1048576):q2 F0 l=some (l,()):=by rw[ao8,ar (by omega) (by omega) (by omega),ab,ar (by omega) (by omega) (by omega),ab];simp
def Yp {l:hJ}(a:l.1.length<=1048576)(b:l.2.length<=1048576):kG F0 l=some (l,()):=by rw[adj,CP,CP,ar (by omega) (by omega) (by omega),ab,ai,ar (by omega) (by omega) (by omega),ab,ai];simp
def dT {p:Prop}(i:Decidable p)(h:p): @decide p i=true:=aL h
def dF {p:Prop}(i:Decidable p)(h:¬p): @decide p i=false:=aQ h
def axx {a:List Int}{k:Nat}{v:Int}{lo hi:Int}(b:∀x∈a,lo<=x/\x<=hi)(c:lo<=v/\v<=hi):∀x∈a.set k v,lo<=x/\x<=hi:=fun x d=>by
 rcases aBg d with h|h
 .exact b x h
 .rw[h];exact c
def axy {l:hJ}(g:l.1.length<=1048576)(i:l.2.length<=1048576)(x:dH):KW F0 l x=some ((en l x).1,(en l x).2,()):=by
 rw[azh,adz g i,ai,ago,ai];unfold en;cases p:Cd l with
 |false=>rw[af (by simp)];rfl
 |true =>
  rw[aN,aa,RQ,ai];cases q:gx x with
  |false=>rw[af (by simp)];rfl
  |true =>
   rw[aN,aa,ag ⟨rfl,rfl⟩];obtain⟨j,r,m,s⟩:=ady p;obtain⟨b,o,B,C⟩:=nc q;have f:∀(y:Int) (n:Nat),n=4->0<=y->y<=3->bG y (n:Int)=true:=fun y n h g i=>by obtain⟨u,rfl⟩:∃u:Nat,y=u:=⟨y.toNat,by omega⟩;exact an (by omega)
   have t:=f x.1 _ j b.1 b.2;have z:=f x.1 _ r b.1 b.2;have A:∀w,bG x.2.1 ((l.1.set x.1.toNat w).length:Int)=true:=fun w=>f x.2.1 _ (by rw[oo];exact j) o.1 o.2
   simp only[t,z,A,ab];have D:0<=aI l.1 x.1 0/\aI l.1 x.1 0<=400:=m _ (ot (a:=l.1) (k:=x.1.toNat) (by omega) 0);have E:0<=aI l.2 x.1 0/\aI l.2 x.1 0<=100:=s _ (ot (a:=l.2) (k:=x.1.toNat) (by omega) 0);by_cases c:x.2.2.2<aI l.2 x.1 0
   .rw[dT _ c,ae,ag c]
   .rw[dF _ c,aa,af c];by_cases d:x.2.2.2>aI l.2 x.1 0
    .rw[dT _ d,ae,ag d]
    .rw[dF _ d,aa,af d,aH (n:=x.2.2.2+1) (by omega) (by omega)];by_cases e:x.2.2.1>aI l.1 x.1 0
     .rw[dT _ e,ae,ag e]
     .have F:0<=aI (l.1.set x.1.toNat (aI l.1 x.1 0-x.2.2.1)) x.2.1 0/\aI (l.1.set x.1.toNat (aI l.1 x.1 0-x.2.2.1)) x.2.1 0<=400:=axx (k:=x.1.toNat) (v:=aI l.1 x.1 0-x.2.2.1) m ⟨by omega,by omega⟩ _ (ot (a:=l.1.set x.1.toNat (aI l.1 x.1 0-x.2.2.1)) (k:=x.2.1.toNat) (by rw[oo];omega) 0);rw[dF _ e,aa,af e,aH (n:=aI l.1 x.1 0-x.2.2.1) (by omega) (by omega),aH (n:=aI (l.1.set x.1.toNat (aI l.1 x.1 0-x.2.2.1)) x.2.1 0+x.2.2.1) (by omega) (by omega),ago,ai];cases Cd ((l.1.set x.1.toNat (aI l.1 x.1 0-x.2.2.1)).set x.2.1.toNat (aI (l.1.set x.1.toNat (aI l.1 x.1 0-x.2.2.1)) x.2.1 0+x.2.2.1),l.2.set x.1.toNat (x.2.2.2+1)) with
      |false=>rw[af (by simp),ed,ae,ai]
      |true=>rw[ag rfl];rfl
def aqU {l:hJ}(f:l.1.length<=1048576)(g:l.2.length<=1048576)(x:dH):LV F0 l x=some ((en l x).1,(en l x).2,()):=by
 rw[azq,Yp f g,ai,ab0 f g,ai];unfold en;cases p:Cd l with
 |false=>rw[af (by simp)];rfl
 |true =>
  rw[aN,aa,Db,ai];cases q:gx x with
  |false=>rw[af (by simp)];rfl
  |true =>
   rw[aN,aa,ag ⟨rfl,rfl⟩];obtain⟨j,r,m,s⟩:=ady p;obtain⟨b,o,C,D⟩:=nc q;have i:∀(y:Int) (n:Nat),n=4->0<=y->y<=3->bG y (n:Int)=true:=fun y n h f g=>by obtain⟨u,rfl⟩:∃u:Nat,y=u:=⟨y.toNat,by omega⟩;exact an (by omega)
   have t:=i x.1 _ j b.1 b.2;have z:=i x.1 _ r b.1 b.2;have A:∀w,bG x.2.1 ((l.1.set x.1.toNat w).length:Int)=true:=fun w=>i x.2.1 _ (by rw[oo];exact j) o.1 o.2
   simp only[t,z,A,ab];have E:0<=aI l.1 x.1 0/\aI l.1 x.1 0<=400:=m _ (ot (a:=l.1) (k:=x.1.toNat) (by omega) 0);have F:0<=aI l.2 x.1 0/\aI l.2 x.1 0<=100:=s _ (ot (a:=l.2) (k:=x.1.toNat) (by omega) 0);by_cases c:x.2.2.2<aI l.2 x.1 0
   .rw[dT _ c,ae,ag c]
   .rw[dF _ c,aa,af c];by_cases d:x.2.2.2>aI l.2 x.1 0
    .rw[dT _ d,ae,ag d]
    .have B:aI l.2 x.1 0=x.2.2.2:=by omega
     rw[dF _ d,aa,af d,B,aH (n:=x.2.2.2+1) (by omega) (by omega)];by_cases e:x.2.2.1>aI l.1 x.1 0
     .rw[dT _ e,ae,ag e]
     .have G:0<=aI (l.1.set x.1.toNat (aI l.1 x.1 0-x.2.2.1)) x.2.1 0/\aI (l.1.set x.1.toNat (aI l.1 x.1 0-x.2.2.1)) x.2.1 0<=400:=axx (k:=x.1.toNat) (v:=aI l.1 x.1 0-x.2.2.1) m ⟨by omega,by omega⟩ _ (ot (a:=l.1.set x.1.toNat (aI l.1 x.1 0-x.2.2.1)) (k:=x.2.1.toNat) (by rw[oo];omega) 0);rw[dF _ e,aa,af e,aH (n:=aI l.1 x.1 0-x.2.2.1) (by omega) (by omega),aH (n:=aI (l.1.set x.1.toNat (aI l.1 x.1 0-x.2.2.1)) x.2.1 0+x.2.2.1) (by omega) (by omega),ab0 (by simp only[oo];omega) (by simp only[oo];omega),ai];cases Cd ((l.1.set x.1.toNat (aI l.1 x.1 0-x.2.2.1)).set x.2.1.toNat (aI (l.1.set x.1.toNat (aI l.1 x.1 0-x.2.2.1)) x.2.1 0+x.2.2.1),l.2.set x.1.toNat (x.2.2.2+1)) with
      |false=>rw[af (by simp),ed,ae,ai]
      |true=>rw[ag rfl];rfl
def azz (l:hJ)(x:dH):(en l x).1.1.length=l.1.length/\(en l x).1.2.length=l.2.length:=by
 unfold en;split
 .split
  .exact⟨rfl,rfl⟩
  .split
   .exact⟨rfl,rfl⟩
   .split
    .exact⟨rfl,by simp⟩
    .split
     .exact⟨by simp,by simp⟩
     .exact⟨rfl,rfl⟩
 .exact⟨rfl,rfl⟩
def S0:hJ:=([100,100,100,100],[0,0,0,0])
def ab1:mq F0=some (S0,()):=by
 have st:∀n (k:Nat) (c:List Int),k<4->c.length=k->jH F0 (jV F0) (n+1) (gi (k:Int) [] [] c [0,0,0,0])=jH F0 (jV F0) n (gi ((k+1:Nat):Int) [] [] (c++[100]) [0,0,0,0]):=fun n k c e f=>by rw[BS,show decide ((k:Int)<4)=true from aL (by omega),ae,ar (a:=c.length) (b:=[(100:Nat)].length) (k:=8) (by omega) (by omega) (by simp only[aW,bm];omega),ab,al (by omega)]
 rw[aeY,show okM F0 4 4 8=true from aHg (n:=4) (by omega) (by omega) (by omega),ab];refine cv (fun n i c=>jH F0 (jV F0) n (gi i [] [] c [0,0,0,0])) 4 (fun k c=>c=List.replicate k 100) _ (fun n k c e d=>.inr ⟨_,st n k c e (by rw[d];simp),by rw[d,<-List.replicate_succ']⟩) (fun n c d=>?_) F0.n 0 [] (by omega) rfl (by rw[bz];omega);rw[BS,show decide (((4:Nat):Int)<4)=false from rfl,aa,WU,d];rfl
def Mj:j3 F0=some (S0,()):=by
 have st:∀n (k:Nat) (c:List Int),k<4->c.length=k->jL F0 (j2 F0) (n+1) (gq (k:Int) [] [] c [0,0,0,0])=jL F0 (j2 F0) n (gq ((k+1:Nat):Int) [] [] (c++[100]) [0,0,0,0]):=fun n k c e f=>by rw[B5,show decide ((k:Int)<4)=true from aL (by omega),ae,ar (a:=c.length) (b:=[(100:Nat)].length) (k:=8) (by omega) (by omega) (by simp only[aW,bm];omega),ab,al (by omega)]
 rw[afZ,show okM F0 4 4 8=true from aHg (n:=4) (by omega) (by omega) (by omega),ab];refine cv (fun n i c=>jL F0 (j2 F0) n (gq i [] [] c [0,0,0,0])) 4 (fun k c=>c=List.replicate k 100) _ (fun n k c e d=>.inr ⟨_,st n k c e (by rw[d];simp),by rw[d,<-List.replicate_succ']⟩) (fun n c d=>?_) F0.n 0 [] (by omega) rfl (by rw[bz];omega);rw[B5,show decide (((4:Nat):Int)<4)=false from rfl,aa,X2,d];rfl
def azA (c:Int):RL F0 c=some ((c==0) || (c==4),()):=by rw[axk];cases h:(c==0)<;>rfl
def VG (l:hJ):Prop:=l.1.length=4/\l.2.length=4
def aHA {l:hJ}(h:VG l)(x:dH):VG (en l x).1:=⟨(azz l x).1.trans h.1,(azz l x).2.trans h.2⟩
def ab2 {U:Type}{a:List U}{k:Nat}(h:k<a.length)(d:U):aI a (k:Int) d=a[k]:=by rw[kq];simp[List.getD,h]
def aL4 (x:dH):(x.1,x.2.1,x.2.2.1,x.2.2.2)=x:=rfl
def hK:hJ->List dH->List Int
 |_,[]=>[]|l,x::xs=>(en l x).2::hK (en l x).1 xs
def eY:hJ->List dH->hJ
 |l,[]=>l|l,x::xs=>eY (en l x).1 xs
def JH:∀{xs:List dH} {l:hJ},VG l->VG (eY l xs)
 |[],_,h=>h|x::xs,l,h=>JH (xs:=xs) (aHA h x)
def JI:∀(xs:List dH) (l:hJ),(hK l xs).length=xs.length
 |[],_=>rfl|x::xs,l=>by simp[hK,JI xs]
def S1:∀(a b:List dH) (l:hJ),hK l (a++b)=hK l a++hK (eY l a) b
 |[],_,_=>rfl|x::a,b,l=>by simp[hK,eY,S1 a b]
def OP:∀(a:List dH) (x:dH) (l:hJ),eY l (a++[x])=(en (eY l a) x).1
 |[],_,_=>rfl|y::a,x,l=>by simp[eY,OP a x]
def agp:∀(xs:List dH) (l:hJ) (j:Nat) (h:j<xs.length),(hK l xs)[j]?=some (en (eY l (xs.take j)) xs[j]).2
 |x::xs,l,0,h=>rfl|x::xs,l,j+1,h=>by simp only[hK,aBj,avE,eY,List.getElem_cons_succ];exact agp xs _ j (by simpa using h)
def aqV {l:hJ}(g:VG l){list:List dH}(m:list.length<=1048576):w6 F0 l list=some (eY l list,hK l list,()):=by
 rw[apa,adz (by have:=g.1;omega) (by have:=g.2;omega),ai];refine cv (fun n i (z:List Int×hJ)=>DO F0 (GG F0) n (u1 list i z.1 [] [] z.2.1 z.2.2)) list.length (fun k z=>z.1=hK l (list.take k)/\z.2=eY l (list.take k)) _ (fun n k z e f=>.inr ⟨(z.1++[(en z.2 list[k]).2],(en z.2 list[k]).1),?_,?_⟩) (fun n z f=>?_) F0.n 0 ([],l) (aR _) ⟨rfl,rfl⟩ (by rw[bz];omega)
 .obtain⟨d,c⟩:=f;have h:VG z.2:=by rw[c];exact JH g
  have o:z.1.length<=1048576:=by rw[d,JI,bB];omega
  rw[KX,aM e,ae,an e,ab,ab2 e]
  try rw[aL4]
  rw[axy (l:=(z.2.1,z.2.2)) (by have:=h.1;show z.2.1.length<=_;omega) (by have:=h.2;show z.2.2.length<=_;omega),ai];simp only;rw[ar (a:=z.1.length) (b:=[(en (z.2.1,z.2.2) list[k]).2].length) (k:=8) (by omega) (by omega) (by simp only[aW,bm];omega),ab,al (by omega)]
 .obtain⟨d,c⟩:=f;have j:list.take (k+1)=list.take k++[list[k]]:=by rw[MI,om e];rfl
  refine⟨?_,?_⟩
  .rw[j,S1,<-d,<-c];rfl
  .rw[j,OP,<-c]
 .obtain⟨d,c⟩:=f;rw[kl]at d c;rw[KX,aC,aa,aeZ,d,c]
def agq:∀{ss:List RT},(∀s∈ss,axw s)->(ss.flatMap (·.2)).length<=2*ss.length
 |[],_=>by simp
 |s::ss,h=>by
  have b:=(h s p3).2.2.1;have c:=agq (ss:=ss) fun x a=>h x (jO _ a)
  rw[List.flatMap_cons,aK,aW];omega
def aFD {l:List UInt8}(f:l.length<=1073741824):wq F0 (tx l)=some ((a6 l).1.flatMap (·.2),()):=by
 rw[as0,Zo f,ai];have hlen:=rE l;have dd:=SY l;generalize h:(a6 l).1=ss at hlen dd;refine cv (fun n i xs=>IN F0 (KR F0) n (yY i xs ss)) ss.length (fun k xs=>xs=(ss.take k).flatMap (·.2)) _ (fun n k xs c d=>.inr ⟨_,?_,rfl⟩) (fun n xs d=>?_) F0.n 0 [] (aR _) rfl (by rw[bz];omega)
 .have j:=(dd _ (bJ c)).2.2.1;have e:=agq (ss:=ss.take k) fun x e=>dd x (aam e)
  rw[<-d,bB]at e;rw[Nh,aM c,ae,an c,ab,ab2 c,ar (a:=xs.length) (b:=ss[k].2.length) (k:=32) (by omega) (by omega) (by omega),ab,al (by omega),d];have g:(ss.take (k+1)).flatMap (·.2)=(ss.take k).flatMap (·.2)++ss[k].2:=by rw[show ss.take (k+1)=ss.take k++[ss[k]] by rw[MI,om c];rfl,avF];simp
  rw[g]
 .rw[kl]at d;rw[Nh,aC,aa,ahQ,d]
def er {V:Type}(X:Nat->Int->Option V)(L:Nat)(p:Nat->Bool)(d e:Option V)(g:∀n k,k<L->X (n+1) (k:Int)=if p k=true then X n ((k+1:Nat):Int) else e)(j:∀n,X (n+1) (L:Int)=d)(n:Nat)(o:L<n) :
  X n 0=if (List.range L).all p=true then d else e:=by
 refine cv (fun n i (_:Unit)=>X n i) L (fun k _=>∀a,a<k->p a=true) _ (fun n k _ f h=>?_) (fun n _ h=>?_) n 0 () (aR _) (fun a b=>absurd b (Ts _)) (by omega)
 .try dsimp only
  rw[g n k f];by_cases c:p k=true
  .rw[ag c];refine .inr ⟨(),rfl,fun a b=>?_⟩;by_cases l:a=k
   .exact l▸c
   .exact h a (by omega)
  .rw[af c,af]
   .exact .inl rfl
   .intro m;exact c (ek.1 m k (eZ.2 f))
 .try dsimp only
  rw[j,ag];exact ek.2 fun a b=>h a (eZ.1 b)
def Gc {U:Type}(s:List U)(q:U->Bool)(d:U):(List.range s.length).all (fun k=>q (s.getD k d))=s.all q:=by
 rw[Bool.eq_iff_iff,ek,ek];constructor
 .intro h x b;obtain⟨i,a,rfl⟩:=avC.1 b;have:=h i (eZ.2 a);simpa [List.getD,a]using this
 .intro h k c;exact h _ (ot (eZ.1 c) d)
def aHB (s:List Int)(i:Int):(s.all fun x=> !(x==i))= !decide (i∈s):=by rw[Bool.eq_iff_iff,ek];simp only[ajX,bU,ayA];exact⟨fun h a=>h i a rfl,fun h x b e=>h (e▸b)⟩
def ite_not (b:Bool){U:Type}(x y:U):(if (!b)=true then x else y)=if b=true then y else x:=by cases b<;>rfl
def axz {U:Type}(b:Bool)(x y:U):br b x y=if b=true then x else y:=by cases b<;>rfl
def fH {s:List Int}(h:s.length<=1073741824)(i:Int):cW F0 s i=some (decide (i∈s),()):=by
 rw[apd,er (fun n k=>DT F0 (u7 F0) n (u6 s i k)) s.length (fun k=> !(s.getD k 0==i)) (some (false,())) (some (true,())) (fun n k a=>?_) (fun n=>?_) _ (by rw[bz];omega),
  Gc s (fun x=> !(x==i)),aHB,ite_not]
 .by_cases b:i∈s<;>simp[b]
 .rw[KZ,aM a,ae,an a,ab,kq,al (by omega),ite_not,axz,ahX]
 .rw[KZ,aC,aa,ae3]
def axA {s:List Int}(h:s.length<=1073741824)(i:Int):h7 F0 s i=some (decide (i∈s),()):=by
 have key:∃a,la F0 s i=some (a,())/\decide (a>=0)=decide (i∈s):=by
  rw[Q8];have:=cv (fun n k (_:Unit)=>iX F0 (gN F0) n (gM s i (s.length:Int) k)) s.length (fun k _=>∀a,a<k->s.getD a 0≠i)
   (some ((if i∈s then ((s.idxOf i:Nat):Int) else -1),())) (fun n k _ f g=>?_) (fun n _ g=>?_) F0.n 0 () (aR _) (fun a c=>absurd c (Ts _)) (by rw[bz];omega)
  .refine⟨_,this,?_⟩;by_cases b:i∈s
   .rw[ag b,aL b];exact aL (Int.natCast_nonneg _)
   .rw[af b,aQ b];rfl
  .try dsimp only
   rw[pO,aM f,ae,an f,ab,kq,al (by omega),MG];by_cases d:i=s.getD k 0
   .left;have b:i∈s:=d▸ot f 0;rw[bd.2 d,ae,ag b];have m:s.idxOf i=k:=by
     have j:s.idxOf i<s.length:=List.idxOf_lt_length_of_mem b;have l:s.getD (s.idxOf i) 0=i:=by simp[List.getD,j]
     rcases Nat.lt_trichotomy (s.idxOf i) k with hlt|o|q
     .exact absurd l (g _ hlt)
     .exact o
     .have:=List.not_of_lt_findIdx (p:=(·==i)) (xs:=s) q;have r:s[k]'(by omega)=i:=by rw[d];simp[List.getD,f]
      simp[r]at this
    rw[m]
   .right;rw[bU.2 d,aa];refine⟨(),rfl,fun a c=>?_⟩;by_cases t:a=k
    .exact fun e=>d (t▸e.symm)
    .exact g a (by omega)
  .try dsimp only
   have b:i ∉ s:=by intro b;obtain⟨a,c,e⟩:=avC.1 b;exact g a c (by simp[List.getD,c,e])
   rw[pO,aC,aa,LC,af b]
 obtain⟨a,j,l⟩:=key;rw[LD,j,ai,l]
def eD {s:List Int}(h:s.length<=1073741824)(i:Int):c7 F0 s i=some (decide (i∈s),()):=by rw[aqa,axA h,ai]
def ank (i:Int):List Int->List Int
 |[]=>[i]|x::l=>if x>=i then i::x::l else x::ank i l
def RU (s:List Int)(i:Int):List Int:=if i∈s then s else ank i s
def azB (i:Int):∀s:List Int,(ank i s).length=s.length+1
 |[]=>rfl|x::l=>by
  unfold ank;split
  .rfl
  .simp[azB i l]
def aqW (s:List Int)(i:Int):(RU s i).length<=s.length+1:=by
 unfold RU;split
 .omega
 .rw[azB];exact bF _
def anA {i:Int}:∀{s:List Int} {k:Nat},k<=s.length->(∀a (h:a<s.length),a<k->s[a]<i)->(∀h:k<s.length,¬s[k]<i)->ank i s=s.take k++i::s.drop k
 |[],k,_,_,_=>by simp[ank]
 |x::l,0,_,_,h=>by have:=h (by simp);simp only[aBk]at this;unfold ank;rw[ag (by omega)];rfl
 |x::l,k+1,c,b,d=>by have e:=b 0 (by simp) (by omega);simp only[aBk]at e;unfold ank;rw[af (by omega),avE,List.drop_succ_cons,Hh,anA (k:=k) (by simpa using c) (fun a h f=>b (a+1) (by simp only[aW];omega) (by omega)) (fun h=>d (by simp only[aW];omega))]
def Zp {l h n:Nat}(a:l<=h)(b:h<=n):Tx (l:Int) (h:Int) (n:Int)=true:=by simp[Tx];omega
def adA {s:List Int}(h:s.length<=1048576)(i:Int):w7 F0 s i=some (RU s i,()):=by
 rw[ape,fH (by omega),ai];unfold RU;by_cases c:i∈s
 .rw[aL c,ae,ag c,ar (by omega) (by omega) (by omega),ab];rfl
 .rw[aQ c,aa,af c];have fin:∀k:Nat,k<=s.length->(∀a (h:a<s.length),a<k->s[a]<i)->(∀h:k<s.length,¬s[k]<i)->va F0 (.exit 0) (r5 s i (k:Int))=some (ank i s,()):=by
   intro k b g j;rw[ae4,show Tx 0 (k:Int) (s.length:Int)=true from Zp (l:=0) (aR _) b,ab,gz,gz,show(0:Int).toNat=0 from rfl,aed,BO,kl,
    ar (by omega) (by omega) (by rw[bB];omega),ab,ar (by omega) (by omega) (by rw[bB];simp only[aW,bm];omega),ab,Zp b (bF _),ab,
    ar (by omega) (by omega) (by rw[aK,bB,bc];simp only[aW,bm];omega),ab,anA b g j]
   simp
  refine cv (fun n k (_:Unit)=>DW F0 (va F0) n (u9 s i k)) s.length (fun k _=>∀a (h:a<s.length),a<k->s[a]<i) _ (fun n k _ b d=>?_) (fun n _ d=>?_) F0.n 0 () (aR _) (fun a _ f=>absurd f (Ts _)) (by rw[bz];omega)
  .try dsimp only
   rw[La,aM b,ae,an b,ab,ab2 b,al (by omega)];by_cases hlt:s[k]<i
   .right;rw[aL hlt,ae];refine⟨(),rfl,fun a f m=>?_⟩;by_cases e:a=k
    .subst e;exact hlt
    .exact d a f (by omega)
   .left;rw[aQ hlt,aa];exact fin k (by omega) d (fun _=>hlt)
  .try dsimp only
   rw[La,aC,aa];exact fin s.length (bF _) d (fun h=>absurd h (VQ _))
def og {l:List Int}(h:l.length<=1073741824):ea F0 l=some (l,()):=by rw[CP,ar (by omega) (by omega) (by omega),ab];rfl
def aji {U:Type}(p:U->Bool):∀(l:List U) (j:Nat),(p4 p l (j:Int)=-1/\∀x∈l,p x=false)\/∃k,∃h:k<l.length,p4 p l (j:Int)=((j+k:Nat):Int)/\p l[k]=true/\∀i (hi:i<l.length),i<k->p l[i]=false
 |[],j=>.inl ⟨rfl,by simp⟩
 |x::l,j=>by
  unfold p4;cases a:p x with
  |true=>exact .inr ⟨0,by simp,by simp,by simpa using a,fun i _ hi=>absurd hi (Ts _)⟩
  |false =>
   have e:(j:Int)+1=((j+1:Nat):Int):=by omega
   dsimp only;rw[e];rcases aji p l (j+1) with ⟨b,c⟩|⟨k,f,b,c,g⟩
   .refine .inl ⟨b,fun y d=>?_⟩;rcases cS.1 d with rfl|d
    .exact a
    .exact c y d
   .refine .inr ⟨k+1,by simpa using f,by rw[b];omega,by simpa using c,fun i hi m=>?_⟩;cases i with
    |zero=>simpa using a|succ i=>simpa using g i (by simpa using hi) (by omega)
def J3 {k a b:Nat}(c:k<=a)(d:1<=b)(e:a+b<=1073741824):akb (k:Int) a b=true:=by unfold akb;rw[aL (show(0:Int)<=k by omega),aL (show(k:Int)<=a by omega),aL (show(1:Int)<=b by omega),aL (show((a+b:Nat):Int)<=1073741824 by omega)];rfl
def akT {s:List Int}(h:s.length<=1048576)(i:Int):FT F0 s i=some (RU s i,()):=by
 rw[aqh,eD (by omega),ai];unfold RU;by_cases c:i∈s
 .rw[aL c,ae,ag c,og (by omega),ai]
 .rw[aQ c,aa,af c];rcases aji (fun e=>geP e i) s 0 with ⟨b,d⟩|⟨k,m,b,d,j⟩
  .have b:p4 (fun e=>geP e i) s 0=-1:=b;rw[b,show decide ((-1:Int)<0)=true from rfl,ae,og (by omega),ai,J3 (bF _) (by simp) (by simp only[aW,bm];omega),ab,gz,
    anA (k:=s.length) (bF _) (fun f g _=>?_) (fun h=>absurd h (VQ _))]
   .simp
   .have:=ahj (d s[f] (bJ g));omega
  .have b:p4 (fun e=>geP e i) s 0=((0+k:Nat):Int):=b;rw[wS]at b;have d:=nj d;rw[b,show decide (((k:Nat):Int)<0)=false from aQ (by omega),aa,og (by omega),ai,J3 (k:=k) (a:=s.length) (by omega) (by simp) (by simp only[aW,bm];omega),ab,gz,
    anA (k:=k) (by omega) (fun f g l=>?_) (fun _=>by omega)]
   .simp
   .have:=ahj (j f g l);omega
def gC (lo hi x:Int):Bool:=decide (lo<=x)&&decide (x<=hi)
def cO (x lo hi:Int):bN F0 x lo hi=some (gC lo hi x,()):=agn x lo hi
def bR (x lo hi:Int):aZ F0 x lo hi=some (gC lo hi x,()):=SX x lo hi
def ei {U:Type}{l:List U}{k:Nat}(h:k<l.length):l.take (k+1)=l.take k++[l[k]]:=by rw[MI,om h];rfl
abbrev bZ:=Int×ByteArray×List Int
def bg (l:List UInt8):Bool:=(a6 l).2
def aE (l:List UInt8):Int:=match (a6 l).1.getLast? with|some s=>s.1|none=>0
def Yq {l:List UInt8}(h:(a6 l).2=false):(a6 l).1=[]:=by
 unfold a6 at h ⊢;split
 .rfl
 .rename_i a;rw[af a]at h;split
  .rfl
  .rename_i b;rw[b]at h;dsimp only at h;split
   .rfl
   .rename_i c;rw[af c]at h;split
    .rfl
    .rename_i d;rw[d]at h;cases h
def S2 {l:List UInt8}(h:l.length<=1073741824):e6 F0 (tx l)=some (bg l,()):=by rw[aoN,Zo h,ai];rfl
def OQ {l:List UInt8}(h:l.length<=1073741824):e7 F0 (tx l)=some (bg l,()):=by rw[apY,SZ h,ai];rfl
def auN (ss:List RT)(f:ss.length<=30)(d:RT:=(0,[])):br ((ss.length:Int)==0) (some ((0:Int),())) (ck (bG (aj ((ss.length:Int)-1)) (ss.length:Int)) (some ((aI ss (aj ((ss.length:Int)-1)) d).1,())))=some ((match ss.getLast? with|some s=>s.1|none=>0),()):=by
 cases a:ss with
 |nil=>rfl
 |cons s r =>
  rw[<-a];have e:ss.length≠0:=by rw[a];simp
  have b:((ss.length:Int)==0)=false:=bU.2 (by omega);have c:aj ((ss.length:Int)-1)=((ss.length-1:Nat):Int):=by rw[aH (by omega) (by omega)];omega
  rw[b,aa,c,an (by omega),ab,ab2 (by omega),List.getLast?_eq_getElem?,om (by omega)]
def aqX {l:List UInt8}(h:l.length<=1073741824):dt F0 (tx l)=some (aE l,()):=by
 rw[aoO,Zo h,ai];dsimp only;cases a:(a6 l).2 with
 |true =>
  rw[aN,aa];exact auN _ (rE l)
 |false =>
  rw[ed,ae];unfold aE;rw[Yq a];rfl
def akU {l:List UInt8}(h:l.length<=1073741824):ew F0 (tx l)=some (aE l,()):=by rw[apZ,SZ h,ai];exact auN _ (rE l)
def kI (l:List UInt8):0<=aE l/\aE l<=60:=by
 unfold aE;split
 .rename_i s a;have:=SY l s (List.mem_of_getLast? a);exact⟨this.1,this.2.1⟩
 .omega
def bw (c:Int×Int):Bool:=gC 4 7 c.1&&gC 1 6 c.2
def iB (c:Int×Int):dJ F0 c=some (bw c,()):=by rw[aoJ,cO,ai,cO,ai];unfold bw;dsimp only;cases gC 4 7 c.1<;>rfl
def fZ (c:Int×Int):eu F0 c=some (bw c,()):=by rw[apU,bR,ai,bR,ai];unfold bw;dsimp only;cases gC 4 7 c.1<;>rfl
def b5 {c:Int×Int}(h:bw c=true):4<=c.1/\c.1<=7/\1<=c.2/\c.2<=6:=by unfold bw gC at h;simp only[aG,bV]at h;omega
def azC {n:Int}(a:4<=n)(b:n<=7):1<=Int.tdiv (n-1) 3/\Int.tdiv (n-1) 3<=2:=by
 have:n=4\/n=5\/n=6\/n=7:=by omega
 rcases this with rfl|rfl|rfl|rfl<;>decide
def wO (c:Int×Int):Int:=if bw c=true then Int.tdiv (c.1-1) 3 else 0
def BE (c:Int×Int):Int:=if bw c=true then c.1-Int.tdiv (c.1-1) 3 else 0
def akV (c:Int×Int):FI F0 c=some (wO c,()):=by
 rw[ap0,fZ,ai];unfold wO;dsimp only;cases h:bw c with
 |false=>rfl
 |true =>
  have:=b5 h;have a:=azC this.1 this.2.1;have e:aj (c.1-1)=c.1-1:=aH (by omega) (by omega);rw[aN,aa,e,aH (by omega) (by omega),ag rfl]
def akW (c:Int×Int):FJ F0 c=some (BE c,()):=by
 rw[ap1,fZ,ai,akV,ai];unfold BE wO;dsimp only;cases h:bw c with
 |false=>rfl
 |true =>
  have:=b5 h;have a:=azC this.1 this.2.1;rw[aN,aa,ag rfl,ag rfl,aH (by omega) (by omega)]
def adB (c:Int×Int):w2 F0 c=some (BE c,()):=by
 rw[aoP,iB,ai];unfold BE;dsimp only;cases h:bw c with
 |false=>rfl
 |true =>
  have:=b5 h;have a:=azC this.1 this.2.1;have e:aj (c.1-1)=c.1-1:=aH (by omega) (by omega);rw[aN,aa,e,aH (n:=Int.tdiv (c.1-1) 3) (by omega) (by omega),aH (by omega) (by omega),ag rfl]
def ko (n:Int)(s:List Int):Bool:=(List.range s.length).all fun k=>decide (0<=s.getD k 0)&&(decide (s.getD k 0<n)&&(decide (k=0) || decide (s.getD (k-1) 0<s.getD k 0)))
def S3 {V:Type}{n:Int}{s:List Int}{k:Nat}(g:k<s.length)(x y:Option V) :
  br (decide (s.getD k 0<0)) x (br (decide (s.getD k 0>=n)) x (br (decide ((k:Int)>0)) (br (decide (s.getD (k-1) 0>=s.getD k 0)) x y) y)) =
  if (decide (0<=s.getD k 0)&&(decide (s.getD k 0<n)&&(decide (k=0) || decide (s.getD (k-1) 0<s.getD k 0))))=true then y else x:=by
 generalize s.getD k 0=a;generalize s.getD (k-1) 0=b;by_cases c:a<0
 .rw[aL c,ae,aQ (show ¬0<=a by omega)];rfl
 .rw[aQ c,aa,aL (show 0<=a by omega),eF];by_cases d:a>=n
  .rw[aL d,ae,aQ (show ¬a<n by omega)];rfl
  .rw[aQ d,aa,aL (show a<n by omega),eF];by_cases e:k=0
   .subst e;rfl
   .rw[aL (show(k:Int)>0 by omega),ae,aQ e,Kf];by_cases f:b>=a
    .rw[aL f,ae,aQ (show ¬b<a by omega)];rfl
    .rw[aQ f,aa,aL (show b<a by omega)];rfl
def Mk {k:Nat}(a:0<k)(h:k<=9223372036854775807):aj ((k:Int)-1)=((k-1:Nat):Int):=by rw[aH (by omega) (by omega)];omega
def ajj {s:List Int}(h:s.length<=1073741824)(n:Int):Cr F0 n s=some (ko n s,()):=by
 rw[asV,er (fun m k=>yA F0 (yB F0) m (qc n s k)) s.length (fun k=>decide (0<=s.getD k 0)&&(decide (s.getD k 0<n)&&(decide (k=0) || decide (s.getD (k-1) 0<s.getD k 0)))) (some (true,())) (some (false,())) (fun m k a=>?_) (fun m=>?_) _ (by rw[bz];omega)]
 .show(if ko n s=true then _ else _)=_;cases ko n s<;>rfl
 .rw[MW,aM a,ae,an a,ab,kq,alD,ab,al (by omega)];by_cases b:k=0
  .subst b;rw[<-S3 a];rfl
  .rw[Mk (by omega) (by omega),an (show k-1<s.length by omega),ab,ab,kq,<-S3 a]
 .rw[MW,aC,aa,ahH]
def adC {s:List Int}(h:s.length<=1073741824)(n:Int):wz F0 n s=some (ko n s,()):=by
 rw[atg,er (fun m k=>Az F0 (AA F0) m (rb n s s (s.length:Int) k)) s.length (fun k=>decide (0<=s.getD k 0)&&(decide (s.getD k 0<n)&&(decide (k=0) || decide (s.getD (k-1) 0<s.getD k 0)))) (some (true,())) (some (false,())) (fun m k a=>?_) (fun m=>?_) _ (by rw[bz];omega)]
 .show(if ko n s=true then _ else _)=_;cases ko n s<;>rfl
 .rw[NU,aM a,ae,an a,ab,kq,amB,al (by omega)];by_cases b:k=0
  .subst b;rw[<-S3 a];rfl
  .rw[Mk (by omega) (by omega),an (show k-1<s.length by omega),ab,kq,<-S3 a]
 .rw[NU,aC,aa,ain]
def ajk {a b:List Int}(h:a.length<=1073741824):hf F0 a b=some (decide (a=b),()):=by
 rw[QX];by_cases d:a.length=b.length
 .have e:((a.length:Int) != (b.length:Int))=false:=by rw[d];exact anV (b.length:Int)
  rw[e,aa,er (fun m k=>iT F0 (gL F0) m (gK a b (a.length:Int) k)) a.length (fun k=>a.getD k 0==b.getD k 0) (some (true,())) (some (false,())) (fun m k f=>?_) (fun m=>?_) _ (by rw[bz];omega)]
  .by_cases c:a=b
   .rw[aL c,ag (ek.2 fun k _=>by rw[c];exact aao (b.getD k 0))]
   .rw[aQ c,af];intro j;refine c (List.ext_getElem d fun k g l=>?_);have:=ek.1 j k (eZ.2 g);simpa [List.getD,g,l]using this
  .rw[pL,aM f,ae,an f,ab,an (d▸f),ab,kq,kq,MF,al (by omega),axz];by_cases i:a.getD k 0=b.getD k 0
   .simp[i]
   .simp[i]
  .rw[pL,aC,aa,Lq]
 .have e:((a.length:Int) != (b.length:Int))=true:=Fe.2 (by omega);rw[e,ae,aQ (fun c=>d (by rw[c]))]
def aaj (c:Int×Int)(q:Int×List UInt8×List Int):Bool:=bw c&&(bg q.2.1&&(decide (aE q.2.1=q.1)&&(if q.2.1=[] then decide (q.2.2=[]) else ko c.1 q.2.2&&decide ((q.2.2.length:Int)>=BE c))))
def axB:ak=tx []:=rfl
def aqY {q:bZ}(h:q.2.2.length<=1073741824):hD F0 q=some (q,()):=by rw[ap9,og h,ai]
def aCc {v c:Int}{a b:List UInt8}{s t:List Int}(h:s.length<=1073741824):jy F0 (v,tx a,s) (c,tx b,t)=some ((v==c)&&(decide (a=b)&&decide (s=t)),()):=by rw[Xo];dsimp only;rw[Vh,ajk h,ai];cases (v==c)<;>cases decide (a=b)<;>rfl
def azD {v:Int}{l:List UInt8}{s:List Int}(d:l.length<=1073741824)(e:s.length<=1073741824)(c:Int×Int):ky F0 c (v,tx l,s)=some (aaj c (v,l,s),()):=by
 rw[awH,iB,ai];unfold aaj;dsimp only;rw[S2 d,ai,aqX d,ai,ajj e,ai,adB,ai,axB,Vh];cases bw c with
 |false=>rfl
 |true =>
  cases bg l with
  |false=>rfl
  |true =>
   by_cases a:aE l=v
   .rw[aL a,show(aE l != v)=false by rw[a];exact anV v];by_cases b:l=[]
    .rw[aL b,ag b];cases s with
     |nil=>rfl|cons x r=>rfl
    .rw[aQ b,af b];cases ko c.1 s<;>rfl
   .rw[aQ a,show(aE l != v)=true from Fe.2 a];rfl
def aFE {c:UInt8}{l:List UInt8}(h:parts c l=[[]]):l=[]:=by
 cases l with
 |nil=>rfl
 |cons x l =>
  unfold parts at h;split at h
  .exact absurd (tO h).2 (Gb c l)
  .split at h
   .cases (tO h).1
   .cases (tO h).1
def azE {σ V:Type}{f:σ->List UInt8->Option (σ×V)}{I:σ->Prop}{Q:V->Prop}(e:∀s p a b,I s->f s p=some (a,b)->Q b/\I a):∀{l:List (List UInt8)} {s:σ} {r:List V},I s->tK f s l=some r->∀b∈r,Q b
 |[],s,r,_,h,b,hb=>by cases h;cases hb
 |p::l,s,r,g,h,b,hb=>by
  unfold tK at h;cases c:f s p with
  |none=>rw[c]at h;cases h
  |some x =>
   obtain⟨a,i⟩:=x;rw[c]at h;obtain⟨j,k⟩:=e s p a i g c;dsimp only at h;cases d:tK f a l with
   |none=>rw[d]at h;cases h
   |some m =>
    rw[d]at h;cases h;rcases cS.1 hb with rfl|hb
    .exact j
    .exact azE e k d b hb
def axC {l:List UInt8}:∀s∈(a6 l).1,1<=s.1:=by
 unfold a6;split
 .simp
 .split
  .simp
  .split
   .simp
   .split
    .simp
    .rename_i d;refine azE (I:=fun s=>0<=s) (Q:=fun b=>1<=b.1) (fun s p e b f a=>?_) (by omega) d;obtain⟨g,h⟩:=Yo a;unfold tn at a;split at a
     .rename_i c;cases a;exact⟨by have:=c.2.2.2.1;show 1<=_;omega,by have:=c.2.2.2.1;omega⟩
     .cases a
def aCd {l:List UInt8}(h:bg l=true)(c:l≠[]):(a6 l).1≠[]:=by
 unfold bg at h;unfold a6 at h ⊢;rw[af c]at h ⊢;cases b:parts 47 l with
 |nil=>rw[b]at h;cases h
 |cons g d =>
  rw[b]at h;dsimp only at h ⊢;split
  .rename_i a;rw[ag a]at h;cases h
  .rename_i a;rw[af a]at h;have i:g=[]:=ayz fun j=>a (.inl j)
   cases e:tK tn 0 d with
   |none=>rw[e]at h;cases h
   |some r =>
    dsimp only;intro k;have f:=RS e;rw[k]at f;have:d=[]:=aak f.symm;subst this i;exact c (aFE b)
def aqZ {l:List UInt8}(h:bg l=true)(b:l≠[]):1<=aE l:=by
 have c:=aCd h b;unfold aE;cases a:(a6 l).1.getLast? with
 |none=>exact absurd (List.getLast?_eq_none_iff.1 a) c|some s=>exact axC s (List.mem_of_getLast? a)
def S4:aE []=0:=rfl
def aq0:bg []=true:=rfl
def aHC (c:Int×Int)(v:Int)(l:List UInt8)(s:List Int) :
  (bw c&&(((v==0)&&(decide (l=[])&&decide (s=[]))) || (decide (v>=1)&&(bg l&&((v==aE l)&&(ko c.1 s&&decide ((s.length:Int)>=BE c)))))))=aaj c (v,l,s):=by
 unfold aaj;dsimp only;cases e:bw c with
 |false=>rfl
 |true =>
  rw[eF,eF];by_cases b:l=[]
  .subst b;rw[S4,aq0,ag rfl,aL rfl,eF,eF,eF];by_cases a:v=0
   .subst a;rw[aao,aL rfl,aQ (show ¬(0:Int)>=1 by omega),aap,an0]
   .rw[bU.2 a,aQ (show ¬(0:Int)=v from fun h=>a h.symm)];simp
  .rw[aQ b,aap,aee,Kf,af b];cases d:bg l with
   |false=>rw[aap,aap,aee]
   |true =>
    have:=aqZ d b;by_cases a:v=aE l
    .rw[aL (show v>=1 by omega),bd.2 a,aL a.symm];rfl
    .rw[bU.2 a,aQ (show ¬aE l=v from fun h=>a h.symm)];simp
def auO {v:Int}{l:List UInt8}{s:List Int}(a:l.length<=1073741824)(b:s.length<=1073741824)(c:Int×Int):mD F0 c (v,tx l,s)=some (aaj c (v,l,s),()):=by rw[<-aHC,awZ,fZ,ai,Ux,ai];dsimp only;rw[axB,aCc b,ai,OQ a,ai,akU a,ai,adC b,ai,akW,ai];dsimp only;generalize bg l=d;generalize aE l=e;generalize ko c.1 s=f;generalize decide ((s.length:Int)>=BE c)=g;generalize decide (v>=1)=h;generalize ((v==0)&&(decide (l=[])&&decide (s=[])))=i;generalize (v==e)=j;cases bw c<;>cases d<;>cases f<;>cases g<;>cases h<;>cases i<;>cases j<;>rfl
def Yr (c:Int×Int)(p:Int×List UInt8×List Int):Option (Int×List UInt8×List Int):=if p.2.1≠[]/\aaj c p=true then some p else none
def aEC (o:Option (Int×List UInt8×List Int)):bZ×Bool:=match o with
 |some q=>((q.1,tx q.2.1,q.2.2),true)|none=>((0,tx [],[]),false)
def aCe {v:Int}{l:List UInt8}{s:List Int}(b:l.length<=1073741824)(d:s.length<=1073741824)(c:Int×Int):FB F0 c (v,tx l,s)=some ((aEC (Yr c (v,l,s))).1,(aEC (Yr c (v,l,s))).2,()):=by
 rw[apj];dsimp only;rw[ar (by omega) (by omega) (by omega),ab,axB,Vh,BO,azD b d,ai];unfold Yr;dsimp only;by_cases a:l=[]
 .rw[aL a,ae,af (fun h=>h.1 a)];rfl
 .rw[aQ a,aa];cases e:aaj c (v,l,s) with
  |true=>rw[ag ⟨a,rfl⟩];rfl|false=>rw[af (fun h=>by cases h.2)];rfl
def aFF {c:Int×Int}{v:Int}{l:List UInt8}{s:List Int}(h:aaj c (v,l,s)=true):(v==0)=decide (l=[]):=by
 unfold aaj at h;simp only[aG,bV]at h;obtain⟨_,b,d,_⟩:=h;by_cases a:l=[]
 .subst a;rw[<-d];rfl
 .have:=aqZ b a;rw[aQ a];exact bU.2 (by omega)
def azF {v:Int}{l:List UInt8}{s:List Int}(d:l.length<=1073741824)(b:s.length<=1073741824)(c:Int×Int):FW F0 c (v,tx l,s)=some ((aEC (Yr c (v,l,s))).1,(aEC (Yr c (v,l,s))).2,()):=by
 rw[aqj,aqY (q:=(v,tx l,s)) b,ai];dsimp only;rw[auO d b,ai];unfold Yr;dsimp only;cases e:aaj c (v,l,s) with
 |false=>rw[af (fun h=>by cases h.2)];rfl
 |true =>
  rw[aN,aa,aFF e];by_cases a:l=[]
  .rw[aL a,ae,af (fun h=>h.1 a)];rfl
  .rw[aQ a,aa,ag ⟨a,rfl⟩];rfl
def b3 (c:Int×Int)(view:Int):Int:=if bw c=true/\0<=view then view%c.1 else -1
def Ys (c:Int×Int)(view s:Int):Int:=if bw c=true/\0<=view/\0<=s/\s<=c.1-1 then (view%c.1+s)%c.1 else -1
def bM (c:Int×Int)(view i:Int):Int:=if bw c=true/\0<=view/\0<=i/\i<=c.1-1 then (i+c.1-view%c.1)%c.1 else -1
def RV (c:Int×Int)(view i:Int):Int:=if bM c view i<=0 then -1 else Ys c view ((bM c view i-1)/c.2)
def uq {a b:Int}(h:0<=a):Int.tmod a b=a%b:=anO h
def ne0 {n:Int}(h:4<=n):(!(n==0))=true:=by rw[bU.2 (show n≠0 by omega)];rfl
def anB {lo hi x:Int}:gC lo hi x=decide (lo<=x/\x<=hi):=by unfold gC;by_cases a:lo<=x<;>by_cases b:x<=hi<;>simp[a,b]
def axD {n:Int}(a:4<=n)(view:Int):0<=view%n/\view%n<n:=⟨VP _ (by omega),anR _ (by omega)⟩
def Ml (c:Int×Int)(view:Int):mo F0 c view=some (b3 c view,()):=by
 rw[awJ,iB,ai];unfold b3;cases b:bw c with
 |false=>rfl
 |true =>
  have d:=b5 b;by_cases a:view<0
  .rw[aL a,af (fun h=>by omega)];rfl
  .rw[aQ a,aN,aa,aa,ne0 d.1,ab,ag ⟨rfl,by omega⟩,uq (by omega)]
def J4 (c:Int×Int)(view:Int):sT F0 c view=some (b3 c view,()):=by
 rw[aw9,fZ,ai];unfold b3;cases b:bw c with
 |false=>rfl
 |true =>
  have d:=b5 b;by_cases a:view<0
  .rw[aL a,af (fun h=>by omega)];rfl
  .rw[aQ a,aN,aa,aa,ne0 d.1,ab,ag ⟨rfl,by omega⟩,uq (by omega)]
def Yt {n:Int}(a:4<=n)(b:n<=7):aj (n-1)=n-1:=aH (by omega) (by omega)
def aHD (c:Int×Int)(view s:Int):Zb F0 c view s=some (Ys c view s,()):=by
 rw[awN,iB,ai];unfold Ys;cases f:bw c with
 |false=>rfl
 |true =>
  have d:=b5 f;have g:=axD d.1 view;by_cases e:view<0
  .rw[aL e,af (fun h=>by omega)];rfl
  .rw[aQ e,aN,aa,aa,cO,ai,Yt d.1 d.2.1,anB];by_cases b:0<=s/\s<=c.1-1
   .rw[aL b,aN,aa,ne0 d.1,ab,ab,ag ⟨rfl,by omega,b.1,b.2⟩,uq (a:=view) (by omega),aH (by omega) (by omega),uq (by omega)]
   .rw[aQ b,af (fun h=>b ⟨h.2.2.1,h.2.2.2⟩)];rfl
def aFG (c:Int×Int)(view s:Int):Zj F0 c view s=some (Ys c view s,()):=by
 rw[axc,fZ,ai];unfold Ys;cases f:bw c with
 |false=>rfl
 |true =>
  have d:=b5 f;have g:=axD d.1 view;by_cases e:view<0
  .rw[aL e,af (fun h=>by omega)];rfl
  .rw[aQ e,aN,aa,aa,bR,ai,Yt d.1 d.2.1,anB];by_cases b:0<=s/\s<=c.1-1
   .rw[aL b,aN,aa,ne0 d.1,ab,ab,ag ⟨rfl,by omega,b.1,b.2⟩,uq (a:=view) (by omega),aH (by omega) (by omega),uq (by omega)]
   .rw[aQ b,af (fun h=>b ⟨h.2.2.1,h.2.2.2⟩)];rfl
def Yu (c:Int×Int)(view i:Int):JZ F0 c view i=some (bM c view i,()):=by
 rw[awM,iB,ai];unfold bM;cases f:bw c with
 |false=>rfl
 |true =>
  have d:=b5 f;have g:=axD d.1 view;by_cases e:view<0
  .rw[aL e,af (fun h=>by omega)];rfl
  .rw[aQ e,aN,aa,aa,cO,ai,Yt d.1 d.2.1,anB];by_cases b:0<=i/\i<=c.1-1
   .rw[aL b,aN,aa,ne0 d.1,ab,ab,ag ⟨rfl,by omega,b.1,b.2⟩,uq (a:=view) (by omega),aH (n:=i+c.1) (by omega) (by omega),aH (by omega) (by omega),uq (by omega)]
   .rw[aQ b,af (fun h=>b ⟨h.2.2.1,h.2.2.2⟩)];rfl
def J5 (c:Int×Int)(view i:Int):J0 F0 c view i=some (bM c view i,()):=by
 rw[axb,fZ,ai];unfold bM;cases f:bw c with
 |false=>rfl
 |true =>
  have d:=b5 f;have g:=axD d.1 view;by_cases e:view<0
  .rw[aL e,af (fun h=>by omega)];rfl
  .rw[aQ e,aN,aa,aa,bR,ai,Yt d.1 d.2.1,anB];by_cases b:0<=i/\i<=c.1-1
   .rw[aL b,aN,aa,ne0 d.1,ab,ab,ag ⟨rfl,by omega,b.1,b.2⟩,uq (a:=view) (by omega),aH (n:=i-view%c.1) (by omega) (by omega),aH (by omega) (by omega),uq (by omega),
     show i-view%c.1+c.1=i+c.1-view%c.1 by omega]
   .rw[aQ b,af (fun h=>b ⟨h.2.2.1,h.2.2.2⟩)];rfl
def Zq (c:Int×Int)(view i:Int):-1<=bM c view i/\bM c view i<=6:=by
 unfold bM;split
 .rename_i h;have a:=b5 h.1;have b:=VP (i+c.1-view%c.1) (show c.1≠0 by omega);have d:=anR (i+c.1-view%c.1) (show 0<c.1 by omega);omega
 .omega
def akX {c:Int×Int}{view i:Int}(h:0<=bM c view i):bw c=true:=by
 unfold bM at h;split at h
 .rename_i a;exact a.1
 .omega
def aHE {a b:Int}(c:0<=a)(d:a<=6)(e:1<=b):0<=a/b/\a/b<=6:=⟨Int.ediv_nonneg c (by omega),Int.le_trans (Int.ediv_le_self b c) d⟩
def aHF (c:Int×Int)(view i:Int):Zc F0 c view i=some (RV c view i,()):=by
 rw[aB4,Yu,ai];unfold RV;have f:=Zq c view i;by_cases d:bM c view i<=0
 .rw[aL (show(bM c view i,()).1<=0 from d),ae,ag d]
 .have e:=b5 (akX (c:=c) (view:=view) (i:=i) (by omega));have g:=aHE (a:=bM c view i-1) (b:=c.2) (by omega) (by omega) e.2.2.1;rw[aQ (show ¬(bM c view i,()).1<=0 from d),aa,af d,show(!(c.2==0))=true by rw[bU.2 (show c.2≠0 by omega)];rfl,ab];dsimp only;rw[aH (n:=bM c view i-1) (by omega) (by omega),anP (show 0<=bM c view i-1 by omega),aH (by omega) (by omega),aHD,ai]
def aED (c:Int×Int)(view i:Int):Zk F0 c view i=some (RV c view i,()):=by
 rw[aB5,J5,ai];unfold RV;have f:=Zq c view i;by_cases d:bM c view i<=0
 .rw[aL (show(bM c view i,()).1<1 by show bM c view i<1;omega),ae,ag d]
 .have e:=b5 (akX (c:=c) (view:=view) (i:=i) (by omega));have g:=aHE (a:=bM c view i-1) (b:=c.2) (by omega) (by omega) e.2.2.1;rw[aQ (show ¬(bM c view i,()).1<1 by show ¬bM c view i<1;omega),aa,af d,show(!(c.2==0))=true by rw[bU.2 (show c.2≠0 by omega)];rfl,ab];dsimp only;rw[aH (n:=bM c view i-1) (by omega) (by omega),anP (show 0<=bM c view i-1 by omega),aH (by omega) (by omega),aFG,ai]
def agr (a b:List Int):List Int:=b.foldl RU (a.foldl RU [])
def nd:∀(l a:List Int),(l.foldl RU a).length<=a.length+l.length
 |[],a=>by simp
 |x::l,a=>by have b:=nd l (RU a x);have c:=aqW a x;rw[avL,aW];omega
def aFH (a b:List Int):(agr a b).length<=a.length+b.length:=by unfold agr;have d:=nd b (a.foldl RU []);have c:=nd a [];rw[bm]at c;omega
def Zr {γ:Type}(X:Nat->Int->List Int->Option γ)(l a:List Int)(R:Option γ)(f:a.length+l.length<=1048576)(c:∀n k xs (h:k<l.length),xs.length<=1048575->X (n+1) (k:Int) xs=X n ((k+1:Nat):Int) (RU xs l[k]))
  (d:∀n,X (n+1) (l.length:Int) (l.foldl RU a)=R) (n:Nat) (e:l.length<n):X n 0 a=R:=by
 refine cv X l.length (fun k xs=>xs=(l.take k).foldl RU a) R (fun n k xs b h=>.inr ⟨RU xs l[k],c n k xs b ?_,?_⟩) (fun n xs h=>?_) n 0 a (aR _) rfl (by omega)
 .have:=nd (l.take k) a;rw[h];rw[bB]at this;omega
 .rw[ei b,List.foldl_append,<-h];rfl
 .rw[kl]at h;rw[h];exact d n
def azG {a b:List Int}(h:a.length+b.length<=1048576):IX F0 a b=some (agr a b,()):=by
 rw[amd];have d:=nd a [];rw[bm]at d;refine Zr (fun n i xs=>zJ F0 (CJ F0) n (sd a b i xs)) a [] _ (by rw[bm];omega) (fun n k xs c e=>?_) (fun n=>?_) _ (by rw[bz];omega)
 .rw[HA,aM c,ae,an c,ab,aV c,adA (by omega),ai,al (by omega)]
 .rw[HA,aC,aa,acV];refine Zr (fun n i xs=>zv F0 (CI F0) n (sa b i xs)) b (a.foldl RU []) _ (by omega) (fun n k xs c e=>?_) (fun n=>?_) _ (by rw[bz];omega)
  .rw[Hz,aM c,ae,an c,ab,aV c,adA (by omega),ai,al (by omega)]
  .rw[Hz,aC,aa,acU];rfl
def axE {a b:List Int}(h:a.length+b.length<=1048576):Jp F0 a b=some (agr a b,()):=by
 rw[am1];have d:=nd a [];rw[bm]at d;refine Zr (fun n i xs=>A8 F0 (C7 F0) n (sR b a (a.length:Int) i xs)) a [] _ (by rw[bm];omega) (fun n k xs c e=>?_) (fun n=>?_) _ (by rw[bz];omega)
 .rw[HX,aM c,ae,an c,ab,aV c,akT (by omega),ai,al (by omega)]
 .rw[HX,aC,aa,adh];refine Zr (fun n i xs=>A7 F0 (C6 F0) n (sQ b (b.length:Int) i xs)) b (a.foldl RU []) _ (by omega) (fun n k xs c e=>?_) (fun n=>?_) _ (by rw[bz];omega)
  .rw[HW,aM c,ae,an c,ab,aV c,akT (by omega),ai,al (by omega)]
  .rw[HW,aC,aa,adg];rfl
def kf {i n:Int}(a:0<=i)(h:i<n):bG i n=true:=by simp[bG];omega
end Go.Am.Tryz
