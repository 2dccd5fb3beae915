/- No condition. -/
import Derived.Test.YtaheoongenkdbaaGreatDoorQeXJG7
import Derived.Lib.MinMaxS
import Derived.Lib.CutLaws
import Derived.Lib.PathFns
import Derived.Lib.SplitLaws
import Derived.Test.YtaheoongenkdbaaGreatDoorQeAmData
set_option linter.all false
namespace Go.Am.Tryz
open Go.Am
def I64 (n:Int):Prop:=-9223372036854775808<=n/\n<=9223372036854775807
def Cs {n:Int}(h:I64 n):j8 F0 n=some (tx (Lib.itoa n),()):=by
 rw[amg];by_cases a:n=0
 .subst a;simp only[Ye,ae]
  congr 2
  simp[tx,Lib.itoa,Lib.decDigits]
 .rw[show(n==0)=false from bQ.2 a,aa];have r:(Lib.decDigits n.natAbs).length<=20:=by rw[Lib.decDigits_length];exact Lib.nDigits_le20 _ (by obtain⟨f,g⟩:=h;omega)
  refine aA2 (fun m (x:Int×List UInt8)=>ta F0 (Fy F0) m (nD x.1 (decide (n<0)) (tx x.2))) _ (fun x=>I64 x.1/\aCH x.1.natAbs++x.2=Lib.decDigits n.natAbs) (fun x=>x.1.natAbs) (fun m x p=>?_) _ (n,[]) ⟨h,?_⟩ ?_
  .obtain⟨x,l⟩:=x;obtain⟨⟨f,g⟩,b⟩:=p;simp only at f g b ⊢;have s:l.length<=20:=by have:=oF List.length b;rw[aG]at this;omega
   by_cases k:x=0
   .left;subst k;rw[Jr];simp only[ale,aa,acb];rw[show aCH (Int.natAbs 0)=[] from rfl,Bi]at b;subst b;by_cases c:n<0
    .rw[aI c,ae,gY (by rw[bB];have:(ByteArray.mk #[45]).size=1:=rfl;omega),ad,show ByteArray.mk #[45]=tx [45] from rfl,fH];unfold Lib.itoa;rw[ag c];rfl
    .rw[aL c,aa];unfold Lib.itoa;rw[af c,show n.natAbs=n.toNat by omega]
   .right;have o:x.natAbs%10<10:=Z4 _ (by omega);have aJm:(Int.tdiv x 10).natAbs=x.natAbs/10:=by rw[Int.natAbs_tdiv];rfl
    have i:I64 (Int.tdiv x 10):=⟨by omega,by omega⟩;have q:=aEl (u:=x.natAbs) (by omega);have j:aj (Int.tdiv x 10)=Int.tdiv x 10:=aF i.1 i.2;refine⟨(Int.tdiv x 10,UInt8.ofNat (48+x.natAbs%10)::l),?_,⟨i,?_⟩,?_⟩
    .rw[Jr,show(x != 0)=true from Er.2 k,ae];have key:tx [UInt8.ofNat (48+x.natAbs%10)]++tx l=tx (UInt8.ofNat (48+x.natAbs%10)::l):=by rw[fH];rfl
     have d:okC F0 (tx [UInt8.ofNat (48+x.natAbs%10)]).size (tx l).size=true:=gY (by rw[bB,bB];simp only[aW,bj];omega);by_cases t:x<0
     .have e:Int.tmod x 10=-((x.natAbs%10:Nat):Int):=by obtain⟨u,rfl⟩:∃u:Nat,x=-(u:Int):=⟨x.natAbs,by omega⟩;rw[Int.neg_tmod,Int.natAbs_neg,Int.natAbs_natCast];rfl
      by_cases a:x.natAbs%10=0
      .rw[e,a,show decide (-((0:Nat):Int)<0)=false from rfl,aa,show(48+-((0:Nat):Int))=48+((0:Nat):Int) from rfl,dig (by omega)];rw[a]at d key;rw[d,ad,key,j]
      .rw[e,aI (by omega),ae,aF (n:=0 - -((x.natAbs%10:Nat):Int)) (by omega) (by omega),show(0:Int) - -((x.natAbs%10:Nat):Int)=((x.natAbs%10:Nat):Int) by omega,dig o,d,ad,key,j]
     .have e:Int.tmod x 10=((x.natAbs%10:Nat):Int):=by obtain⟨u,rfl⟩:∃u:Nat,x=(u:Int):=⟨x.natAbs,by omega⟩;rfl
      rw[e,aL (by omega),aa,dig o,d,ad,key,j]
    .simp only;rw[aJm,<-b,q];simp
    .simp only;rw[aJm];omega
  .simp only[fU];unfold aCH;rw[af (by omega)]
  .simp only;rw[bH];obtain⟨f,g⟩:=h;omega
def Qg {n:Int}(h:I64 n):kl F0 n=some (tx (Lib.itoa n),()):=by rw[anq];unfold strconv_Itoa;rw[aI h.1,aI h.2];rfl
def Rm {n:Int}(h:I64 n):(Lib.itoa n).length<=21:=Lib.itoa_length_le n h.1 h.2
def agw {xs:List ByteArray}{l:List (List UInt8)}{s:List UInt8}(h:(xs.map fun b=>b.data.toList)=l)(d:xs.length<=67108864)(e:(Lib.join l s).length<=67108864):strings_Join F0 xs (tx s)=some (tx (Lib.join l s),()):=by have a:decide ((xs.length:Int)<=F0.mem)=true:=aI (show((xs.length:Nat):Int)<=140737488355328 by omega);have c:decide (((Lib.join l s).length:Int)<=F0.mem)=true:=aI (show(((Lib.join l s).length:Nat):Int)<=140737488355328 by omega);unfold strings_Join al9;rw[h,e3,a,c];rfl
def Qh (a b:List UInt8):((tx a).toList==(tx b).toList)=decide (a=b):=by
 rw[Lib.toList_data,Lib.toList_data,e3,e3];by_cases h:a=b
 .simp[h]
 .simp[h]
def Xl (l:List UInt8)(k:Nat):gV (tx l) (k:Int)=((l.getD k 0).toNat:Int):=by unfold gV;rw[e3];rfl
def auH (c:UInt8):c.toNat<256:=UInt8.toNat_lt c
def isD (c:UInt8):Bool:=decide (48<=c.toNat)&&decide (c.toNat<=57)
def val:List UInt8->Nat->Nat
 |[],n=>n|c::l,n=>val l (10*n+(c.toNat-48))
def ff (l:List UInt8):Int×Bool :=
 if l.length<1\/6<l.length then (0,false)
 else if l.all isD then (if Lib.itoa (val l 0:Int)=l then ((val l 0:Int),true) else (0,false)) else (0,false)
def aob (a b:List UInt8)(n:Nat):val (a++b) n=val b (val a n):=by
 induction a generalizing n with
 |nil=>rfl|cons c l d=>exact d _
def aIa {l:List UInt8}(h:∀c∈l,isD c=true)(n:Nat):val l n<(n+1)*10 ^ l.length:=by
 induction l generalizing n with
 |nil=>simp[val]
 |cons c l a =>
  have b:=a (fun d e=>h d (jG _ e)) (10*n+(c.toNat-48));have f:=h c py;simp only[isD,aA,bR]at f;refine En b ?_;rw[aW,Nat.pow_succ];have g:10*n+(c.toNat-48)+1<=(n+1)*10:=by omega
  calc (10*n+(c.toNat-48)+1)*10 ^ l.length<=((n+1)*10)*10 ^ l.length:=Gg _ g
   _=(n+1)*(10 ^ l.length*10):=by rw[Nat.mul_assoc,Nat.mul_comm 10]
def aEy {l:List UInt8}{k:Nat}(h:k<l.length):val (l.take (k+1)) 0=10*val (l.take k) 0+((l.getD k 0).toNat-48):=by rw[Lg,aV h 0,aob];rfl
def agx {l:List UInt8}(a:l.length<=6)(h:∀c∈l,isD c=true):val l 0<=999999:=by have b:=aIa h 0;have d:10 ^ l.length<=10 ^ 6:=Nat.pow_le_pow_right (by omega) a;omega
def aoc (l:List UInt8):0<=(ff l).1/\(ff l).1<=999999:=by
 unfold ff;split
 .simp
 .split
  .rename_i d a;have:=agx (l:=l) (by omega) (fun c b=>fq.1 a c b);split
   .simp only;omega
   .simp
  .simp
def awL {l:List UInt8}(s:1<=l.length)(o:l.length<=6){X:Nat->Int->Int->Option (Int×(Bool×Unit))}{D:Int->Option (ByteArray×Unit)}(p:∀n,I64 n->D n=some (tx (Lib.itoa n),()))
  (hs:∀n k (m:Nat),k<l.length->m<=999999->X (n+1) m k=br (decide (((l.getD k 0).toNat:Int)<48)) (some (0,false,())) (br (decide (((l.getD k 0).toNat:Int)>57)) (some (0,false,())) (X n (aj (aj (10*m)+aj ((l.getD k 0).toNat-48))) ((k+1:Nat):Int))))
  (q:∀n (m:Nat),X (n+1) m l.length=(D m).bind fun r=>br (!(r.1.toList==(tx l).toList)) (some (0,false,())) (some ((m:Int),true,()))) (n:Nat) (t:6<n):X n 0 0=some ((ff l).1,(ff l).2,()):=by
 refine cz (fun n i (m:Nat)=>X n m i) l.length (fun k m=>m=val (l.take k) 0/\∀c∈l.take k,isD c=true) _ (fun n k m d f=>?_) (fun n m f=>?_) n 0 0 (aO _) ⟨rfl,by simp⟩ (by omega)
 .obtain⟨rfl,b⟩:=f;have g:=agx (l:=l.take k) (by rw[bC];omega) b;have j:=nB d (0:UInt8);have u:=auH (l.getD k 0);rw[hs n k _ d g];by_cases v:(l.getD k 0).toNat<48
  .left;rw[aI (by omega),ae];have:l.all isD=false:=by rw[aeN];exact⟨_,j,fun h=>by simp only[isD,aA,bR]at h;omega⟩
   unfold ff;rw[af (by omega),this];rfl
  .by_cases w:(l.getD k 0).toNat>57
   .left;rw[aL (by omega),aa,aI (by omega),ae];have:l.all isD=false:=by rw[aeN];exact⟨_,j,fun h=>by simp only[isD,aA,bR]at h;omega⟩
    unfold ff;rw[af (by omega),this];rfl
   .right;refine⟨val (l.take (k+1)) 0,?_,rfl,?_⟩
    .rw[aL (by omega),aa,aL (by omega),aa,aEy d,aF (n:=10*_) (by omega) (by omega),aF (n:=((l.getD k 0).toNat:Int)-48) (by omega) (by omega),aF (by omega) (by omega)]
     congr 1
     omega
    .intro c a;rw[Lg,aV d 0]at a;rcases gK.1 a with a|a
     .exact b c a
     .simp only[ald,fA]at a;subst a;simp only[isD,aA,bR];omega
 .obtain⟨rfl,b⟩:=f;rw[k5]at b ⊢;have g:=agx o b;rw[q,p _ ⟨by omega,by omega⟩,ai,Qh];unfold ff;rw[af (by omega),ag (fq.2 b)];by_cases e:Lib.itoa (val l 0:Int)=l
  .rw[aI e,ag e];rfl
  .rw[aL e,af e];rfl
def Ct (l:List UInt8):mo F0 (tx l)=some ((ff l).1,(ff l).2,()):=by
 rw[amh,bB];by_cases b:l.length<1
 .rw[aI (by omega),ae];unfold ff;rw[ag (.inl b)]
 .rw[aL (by omega),aa];by_cases c:6<l.length
  .rw[aI (by omega),ae];unfold ff;rw[ag (.inr c)]
  .rw[aL (by omega),aa];refine awL (X:=fun n m k=>CP F0 (tQ F0) n (tP (tx l) m k)) (by omega) (by omega) (fun n d=>Cs d) (fun n k m a e=>?_) (fun n m=>?_) _ (by rw[bH];omega)
   .have f:=auH (l.getD k 0);rw[Jt];simp only[bB,Xl,ae5,aP a,ao a,ae,ad,al (show k+1<=9223372036854775807 by omega)]
    congr 2
    congr 2
    rw[aF (n:=10*(m:Int)) (by omega) (by omega),aF (n:=((l.getD k 0).toNat:Int)) (by omega) (by omega),aF (n:=10*(m:Int)+((l.getD k 0).toNat:Int)) (by omega) (by omega),aF (n:=((l.getD k 0).toNat:Int)-48) (by omega) (by omega)]
    congr 1
    omega
   .rw[Jt];simp only[bB,aE,aa,acd]
def Fc (l:List UInt8):mu F0 (tx l)=some ((ff l).1,(ff l).2,()):=by
 rw[anr,bB];by_cases b:l.length<1
 .rw[aI (by omega),ae];unfold ff;rw[ag (.inl b)]
 .rw[aL (by omega),aa];by_cases c:6<l.length
  .rw[aI (by omega),ae];unfold ff;rw[ag (.inr c)]
  .rw[aL (by omega),aa];refine awL (X:=fun n m k=>DA F0 (uW F0) n (uV (tx l) m k)) (by omega) (by omega) (fun n d=>Qg d) (fun n k m a e=>?_) (fun n m=>?_) _ (by rw[bH];omega)
   .have f:=auH (l.getD k 0);rw[Kb];simp only[bB,Xl,afK,aP a,ao a,ae,ad,al (show k+1<=9223372036854775807 by omega)];by_cases g:(l.getD k 0).toNat<48
    .rw[aI (by omega),ae,ae]
    .rw[IntWalk.u8_in _ (by omega)]
   .rw[Kb];simp only[bB,aE,aa,acU]
def aod (l:List UInt8)(k:Nat):(tx l).extract 0 k=tx (l.take k):=by rw[Ou ((tx l).extract 0 k),Lib.Pa.extract_upto_list,e3]
def extract_from (l:List UInt8)(k:Nat):(tx l).extract k (tx l).size=tx (l.drop k):=by rw[Ou ((tx l).extract k (tx l).size),Lib.extract_to_end,e3]
def aoe {a b:List UInt8}{c:UInt8}(h:c ∉ a):(a++c::b).takeWhile (· != c)=a/\(a++c::b).dropWhile (· != c)=c::b:=by
 induction a with
 |nil=>simp
 |cons x a d =>
  have e:(x != c)=true:=by simp;rintro rfl;simp at h
  have:=d fun f=>h (jG _ f)
  rw[Gi,List.takeWhile_cons,List.dropWhile_cons,e];exact⟨by simp[this.1],by simp[this.2]⟩
def aHR {a:List UInt8}{c:UInt8}(h:c ∉ a):a.takeWhile (· != c)=a/\a.dropWhile (· != c)=[]:=by
 induction a with
 |nil=>simp
 |cons x a b =>
  have d:(x != c)=true:=by simp;rintro rfl;simp at h
  have:=b fun e=>h (jG _ e)
  rw[List.takeWhile_cons,List.dropWhile_cons,d];exact⟨by simp[this.1],by simp[this.2]⟩
def awM {l:List UInt8}{k:Nat}(h:k<l.length):l=l.take k++l.getD k 0::l.drop (k+1):=by
 have:l.getD k 0=l[k]:=by simp[List.getD,h]
 rw[this,List.getElem_cons_drop,Yb]
def ar3 {l:List UInt8}(c:UInt8)(s:l.length<=4294967296) :
  ha F0 (tx l) (c.toNat:Int)=some (if c∈l then (tx (l.takeWhile (· != c)),tx ((l.dropWhile (· != c)).drop 1),true,()) else (tx [],tx [],false,())):=by
 rw[aqh];refine cz (fun n i (_:Unit)=>Ho F0 (x4 F0) n (x3 (tx l) (c.toNat:Int) i)) l.length (fun k _=>c ∉ l.take k) _ (fun n k _ d a=>?_) (fun n _ a=>?_) F0.n 0 () (aO _) (by simp) (by rw[bH];omega)
 .rw[Lt,bB,aP d,ae,ao d,ad,Xl];by_cases e:l.getD k 0=c
  .left;have f:=awM d;rw[e]at f;have j:=aoe (b:=l.drop (k+1)) a;have g:((((l.getD k 0).toNat:Int))==(c.toNat:Int))=true:=by rw[e];simp
   have m:QW 0 (k:Int) (l.length:Int)=true:=by simp[QW];omega
   have o:QW ((k+1:Nat):Int) (l.length:Int) (l.length:Int)=true:=by simp only[QW,aA,bR];omega
   rw[g,ae,m,ad,al (by omega),o,ad,aiY];simp only[gJ,show(0:Int).toNat=0 from rfl];have p:c∈l:=by rw[f];simp
   rw[ag p,aod,show((tx l).extract (k+1) l.length)=tx (l.drop (k+1)) by rw[<-extract_from,bB]];have q:l.takeWhile (· != c)=l.take k:=by
    have:=j.1
    rwa [<-f]at this
   have r:(l.dropWhile (· != c)).drop 1=l.drop (k+1):=by have:=j.2;rw[<-f]at this;rw[this];rfl
   rw[q,r]
  .right;have g:((((l.getD k 0).toNat:Int))==(c.toNat:Int))=false:=by refine bQ.2 fun h=>e (as2.1 (by omega))
   refine⟨(),by rw[g,aa,al (by omega)],?_⟩;rw[Lg,aV d 0];simp only[ald,gK,fA];rintro(h|h)
   .exact a h
   .exact e h.symm
 .rw[k5]at a;rw[Lt,bB,aE,aa,ae4,af a];rfl
def adK {a b:List UInt8}{c:UInt8}(h:c ∉ a):Lib.indexByte (a++c::b) c=a.length:=by
 induction a with
 |nil=>simp[Lib.indexByte]
 |cons x a d =>
  have e:(x==c)=false:=by simp;rintro rfl;simp at h
  have:=d fun f=>h (jG _ f)
  rw[Gi];unfold Lib.indexByte;rw[e,this];simp
def adL {a:List UInt8}{c:UInt8}(h:c ∉ a):Lib.indexByte a c=-1:=by
 induction a with
 |nil=>rfl
 |cons x a b =>
  have d:(x==c)=false:=by simp;rintro rfl;simp at h
  have:=b fun e=>h (jG _ e)
  unfold Lib.indexByte;rw[d,this];rfl
def adM {l:List UInt8}{c:UInt8}(h:c∈l):∃a b,l=a++c::b/\c ∉ a:=by
 induction l with
 |nil=>cases h
 |cons x l g =>
  by_cases d:x=c
  .exact⟨[],l,by rw[d];rfl,by simp⟩
  .rcases cN.1 h with e|e
   .exact absurd e.symm d
   .obtain⟨a,b,i,j⟩:=g e;exact⟨x::a,b,by rw[i];rfl,fun k=>by
     rcases cN.1 k with f|f
     .exact d f.symm
     .exact j f⟩
def aGw (l:List UInt8)(c:UInt8):Lib.cut l [c]=(l.takeWhile (· != c),(l.dropWhile (· != c)).drop 1,decide (c∈l)):=by
 unfold Lib.cut;rw[Lib.index_one];by_cases h:c∈l
 .obtain⟨a,b,rfl,d⟩:=adM h;rw[adK d,ag (by omega),(aoe d).1,(aoe d).2];simp[as0,List.drop_append]
 .rw[adL h,af (by omega),(aHR h).1,(aHR h).2];simp[h]
def vv {l:List UInt8}(c:UInt8)(a:l.length<4294967281):strings_Cut F0 (tx l) (tx [c])=some (tx (l.takeWhile (· != c)),tx ((l.dropWhile (· != c)).drop 1),decide (c∈l),()):=by
 have h:Nat.blt (tx l).size 4294967281=true:=by rw[bB];simpa using a
 unfold strings_Cut;rw[h,ad,e3,e3,aGw];rfl
abbrev ej:=Int×(Int×(Int×Int))
def adN (x lo a:Int):bL F0 x lo a=some (decide (lo<=x)&&decide (x<=a),()):=by
 rw[atV];by_cases h:lo<=x
 .rw[aI (show x>=lo from h),ae,eS]
 .rw[aL (show ¬x>=lo from h),aa,Yg]
def Rn (x lo a:Int):aY F0 x lo a=some (decide (lo<=x)&&decide (x<=a),()):=by
 rw[ano];by_cases h:lo<=x
 .rw[aI (show x>=lo from h),ae,eS]
 .rw[aL (show ¬x>=lo from h),aa,Yg]
def inB (x lo a:Int):Bool:=decide (lo<=x)&&decide (x<=a)
def gm (x:ej):Bool:=inB x.1 0 3&&inB x.2.1 0 3&&inB x.2.2.1 0 1000&&inB x.2.2.2 0 99
def azm (a b:Bool):br a (some (b,())) (some (false,()))=some (a&&b,()):=by cases a<;>rfl
def Qi (x:ej):ri F0 x=some (gm x,()):=by rw[atW];simp only[adN,ai,azm];simp only[gm,inB,Bool.and_assoc]
def Cu (x:ej):oj F0 x=some (gm x,()):=by rw[aug];simp only[Rn,ai,azm];simp only[gm,inB,Bool.and_assoc]
def wQ {x:ej}(h:gm x=true):(0<=x.1/\x.1<=3)/\(0<=x.2.1/\x.2.1<=3)/\(0<=x.2.2.1/\x.2.2.1<=1000)/\(0<=x.2.2.2/\x.2.2.2<=99):=by simp only[gm,inB,aA,bR]at h;exact⟨h.1.1.1,h.1.1.2,h.1.2,h.2⟩
def txL (x:ej):List UInt8:=Lib.itoa x.1++62::(Lib.itoa x.2.1++58::(Lib.itoa x.2.2.1++35::Lib.itoa x.2.2.2))
def aof {x:ej}(h:gm x=true):(txL x).length<=90:=by obtain⟨a,b,c,d⟩:=wQ h;have e:=Rm (n:=x.1) ⟨by omega,by omega⟩;have f:=Rm (n:=x.2.1) ⟨by omega,by omega⟩;have g:=Rm (n:=x.2.2.1) ⟨by omega,by omega⟩;have i:=Rm (n:=x.2.2.2) ⟨by omega,by omega⟩;simp only[txL,aG,aW];omega
def aa1 (x:ej):List UInt8:=if gm x=true then txL x else []
def aog (x:ej):wx F0 x=some (tx (aa1 x),()):=by
 rw[ami,Qi,ai];unfold aa1;cases h:gm x with
 |false=>rfl
 |true =>
  obtain⟨f,g,i,j⟩:=wQ h;have a:=Cs (n:=x.1) ⟨by omega,by omega⟩;have b:=Cs (n:=x.2.1) ⟨by omega,by omega⟩;have c:=Cs (n:=x.2.2.1) ⟨by omega,by omega⟩;have d:=Cs (n:=x.2.2.2) ⟨by omega,by omega⟩;have e:=aof h;simp only[txL,aG,aW]at e;simp only[aH,aa,a,b,c,d,ai,show ByteArray.mk #[62]=tx [62] from rfl,show ByteArray.mk #[58]=tx [58] from rfl,show ByteArray.mk #[35]=tx [35] from rfl,fH,bB];rw[gY (by simp only[aG,aW,bj];omega),ad,gY (by simp only[aG,aW,bj];omega),ad,gY (by simp only[aG,aW,bj];omega),ad,gY (by simp only[aG,aW,bj];omega),ad,gY (by simp only[aG,aW,bj];omega),ad,gY (by simp only[aG,aW,bj];omega),ad];simp[txL]
def aii (x:ej):EP F0 x=some (tx (aa1 x),()):=by
 rw[ans,Cu,ai];unfold aa1;cases h:gm x with
 |false=>rfl
 |true =>
  obtain⟨f,g,i,j⟩:=wQ h;have a:=Qg (n:=x.1) ⟨by omega,by omega⟩;have b:=Qg (n:=x.2.1) ⟨by omega,by omega⟩;have c:=Qg (n:=x.2.2.1) ⟨by omega,by omega⟩;have d:=Qg (n:=x.2.2.2) ⟨by omega,by omega⟩;have e:=aof h;simp only[txL,aG,aW]at e;simp only[aH,aa,a,b,c,d,ai,show ByteArray.mk #[62]=tx [62] from rfl,show ByteArray.mk #[58]=tx [58] from rfl,show ByteArray.mk #[35]=tx [35] from rfl,fH,bB];rw[gY (by simp only[aG,aW,bj];omega),ad,gY (by simp only[aG,aW,bj];omega),ad,gY (by simp only[aG,aW,bj];omega),ad,gY (by simp only[aG,aW,bj];omega),ad,gY (by simp only[aG,aW,bj];omega),ad,gY (by simp only[aG,aW,bj];omega),ad];simp[txL]
def aBH (u:Nat):∀c∈Lib.decDigits u,isD c=true:=by
 induction u using Nat.strongRecOn with
 |ind u d =>
  intro c a;rw[Lib.decDigits]at a;have key:∀v:Nat,v<10->isD (UInt8.ofNat (48+v))=true:=fun v e=>by
   have:(UInt8.ofNat (48+v)).toNat=48+v:=by rw[UInt8.toNat_ofNat'];omega
   simp only[isD,this,aA,bR];omega
  by_cases b:u<10
  .rw[dif_pos b,fA]at a;rw[a];exact key u b
  .rw[dif_neg b]at a;rcases gK.1 a with a|a
   .exact d (u/10) (by omega) c a
   .rw[fA]at a;rw[a];exact key _ (Z4 _ (by omega))
def aGx (u:Nat):val (Lib.decDigits u) 0=u:=by
 induction u using Nat.strongRecOn with
 |ind u b =>
  have key:∀v:Nat,v<10->(UInt8.ofNat (48+v)).toNat=48+v:=fun v c=>by rw[UInt8.toNat_ofNat'];omega
  rw[Lib.decDigits];by_cases a:u<10
  .rw[dif_pos a];simp only[val,key u a];omega
  .rw[dif_neg a,aob,b (u/10) (by omega)];simp only[val,key (u%10) (Z4 _ (by omega))];omega
def aGy {k:Nat}:∀{u:Nat},u<10 ^ (k+1)->1<=(Lib.decDigits u).length/\(Lib.decDigits u).length<=k+1:=by
 induction k with
 |zero =>
  intro u a;rw[Lib.decDigits,dif_pos (by omega)];simp
 |succ k c =>
  intro u a;rw[Lib.decDigits];by_cases b:u<10
  .rw[dif_pos b];simp
  .rw[dif_neg b];have:=c (u:=u/10) (by rw[Nat.pow_succ]at a;omega);rw[aG,dt];omega
def aoh (u:Nat):Lib.itoa (u:Int)=Lib.decDigits u:=Lib.itoa_nonneg u
def wR {n:Int}(a:0<=n)(b:n<=999999):ff (Lib.itoa n)=(n,true):=by obtain⟨u,rfl⟩:∃u:Nat,n=u:=⟨n.toNat,by omega⟩;rw[aoh];have c:=aGy (k:=5) (u:=u) (by omega);unfold ff;rw[af (by omega),ag (fq.2 (aBH u)),aGx,aoh,ag rfl]
def agA {n:Int}(b:0<=n){c:UInt8}(a:isD c=false):c ∉ Lib.itoa n:=by obtain⟨u,rfl⟩:∃u:Nat,n=u:=⟨n.toNat,by omega⟩;rw[aoh];intro h;rw[aBH u c h]at a;cases a
def A4 (l:List UInt8)(c:UInt8):List UInt8×List UInt8:=if c∈l then (l.takeWhile (· != c),(l.dropWhile (· != c)).drop 1) else ([],[])
def ew (l:List UInt8)(c:UInt8):List UInt8×List UInt8:=(l.takeWhile (· != c),(l.dropWhile (· != c)).drop 1)
def agB (l:List UInt8):ej:=((ff (A4 l 62).1).1,(ff (A4 (A4 l 62).2 58).1).1,(ff (A4 (A4 (A4 l 62).2 58).2 35).1).1,(ff (A4 (A4 (A4 l 62).2 58).2 35).2).1)
def azn (l:List UInt8):ej:=((ff (ew l 62).1).1,(ff (ew (ew l 62).2 58).1).1,(ff (ew (ew (ew l 62).2 58).2 35).1).1,(ff (ew (ew (ew l 62).2 58).2 35).2).1)
def auI {a b:List UInt8}{c:UInt8}(h:c ∉ a):A4 (a++c::b) c=(a,b):=by unfold A4;rw[ag (by simp),(aoe h).1,(aoe h).2];rfl
def auJ {a b:List UInt8}{c:UInt8}(h:c ∉ a):ew (a++c::b) c=(a,b):=by unfold ew;rw[(aoe h).1,(aoe h).2];rfl
def aEz {x:ej}(h:gm x=true):agB (txL x)=x:=by obtain⟨a,b,c,d⟩:=wQ h;unfold agB txL;rw[auI (agA a.1 (by decide)),auI (agA b.1 (by decide)),auI (agA c.1 (by decide))];simp only[wR a.1 (by omega),wR b.1 (by omega),wR c.1 (by omega),wR d.1 (by omega)]
def awN {x:ej}(h:gm x=true):azn (txL x)=x:=by obtain⟨a,b,c,d⟩:=wQ h;unfold azn txL;rw[auJ (agA a.1 (by decide)),auJ (agA b.1 (by decide)),auJ (agA c.1 (by decide))];simp only[wR a.1 (by omega),wR b.1 (by omega),wR c.1 (by omega),wR d.1 (by omega)]
def X8 (l:List UInt8):ej×Bool:=if gm (agB l)=true/\txL (agB l)=l then (agB l,true) else ((0,0,0,0),false)
def awO (l:List UInt8)(c:UInt8):((l.dropWhile (· != c)).drop 1).length<=l.length:=by rw[bc];have:=(List.dropWhile_sublist (l:=l) (· != c)).length_le;omega
def auK (l:List UInt8)(c:UInt8):(A4 l c).2.length<=l.length:=by
 unfold A4;split
 .exact awO l c
 .simp
def akU (l:List UInt8)(c:UInt8):(ew l c).2.length<=l.length:=awO l c
def aoi {l:List UInt8}(c:UInt8)(a:l.length<=4294967296):∃b,ha F0 (tx l) (c.toNat:Int)=some (tx (A4 l c).1,tx (A4 l c).2,b,()):=by
 rw[ar3 c a];unfold A4;split
 .exact⟨_,rfl⟩
 .exact⟨_,rfl⟩
def aEA {l:List UInt8}(g:l.length<=4294967280):W8 F0 (tx l)=some ((X8 l).1,(X8 l).2,()):=by
 obtain⟨i,c⟩:=aoi (l:=l) 62 (by omega);obtain⟨j,d⟩:=aoi (l:=(A4 l 62).2) 58 (by have:=auK l 62;omega);obtain⟨k,e⟩:=aoi (l:=(A4 (A4 l 62).2 58).2) 35 (by have:=auK l 62;have:=auK (A4 l 62).2 58;omega);rw[atX];rw[show ha F0 (tx l) 62=_ from c,ai,show ha F0 _ 58=_ from d,ai,show ha F0 _ 35=_ from e,ai,Ct,ai,Ct,ai,Ct,ai,Ct,ai,show ak=tx [] from rfl,Qh];have f:((ff (A4 l 62).1).1,(ff (A4 (A4 l 62).2 58).1).1,(ff (A4 (A4 (A4 l 62).2 58).2 35).1).1,(ff (A4 (A4 (A4 l 62).2 58).2 35).2).1)=agB l:=rfl;simp only[f,aog,ai,Qh];unfold X8 aa1;by_cases cW:gm (agB l)=true
 .rw[ag cW];by_cases a:txL (agB l)=l
  .have b:¬l=[]:=by rw[<-a];simp[txL]
   rw[ag ⟨cW,a⟩,aL b,aa,aI a];rfl
  .rw[af (fun h=>a h.2),aL a];cases decide (l=[])<;>rfl
 .rw[af cW,af (fun h=>cW h.1)];by_cases b:l=[]
  .rw[aI b];rfl
  .rw[aL b,aa,aL (fun h=>b h.symm)];rfl
def aCN {l:List UInt8}(h:l.length<4294967281):Xd F0 (tx l)=some ((X8 l).1,(X8 l).2,()):=by
 have i:=vv (l:=l) 62 h;have q:=akU l 62;have r:=akU (ew l 62).2 58;have j:=vv (l:=(ew l 62).2) 58 (by omega);have k:=vv (l:=(ew (ew l 62).2 58).2) 35 (by omega);rw[auh];rw[show ByteArray.mk #[62]=tx [62] from rfl,i,ai,show ByteArray.mk #[58]=tx [58] from rfl];rw[show strings_Cut F0 (tx ((l.dropWhile (· != 62)).drop 1)) (tx [58])=_ from j,ai,show ByteArray.mk #[35]=tx [35] from rfl];rw[show strings_Cut F0 (tx (((ew l 62).2.dropWhile (· != 58)).drop 1)) (tx [35])=_ from k,ai];have n0:=fun (a b c d:ByteArray)=>(show aN [a,b,c,d] 0 ByteArray.empty=a from rfl)
 have m:=fun (a b c d:ByteArray)=>(show aN [a,b,c,d] 1 ByteArray.empty=b from rfl)
 have n2:=fun (a b c d:ByteArray)=>(show aN [a,b,c,d] 2 ByteArray.empty=c from rfl)
 have n3:=fun (a b c d:ByteArray)=>(show aN [a,b,c,d] 3 ByteArray.empty=d from rfl)
 rw[show bO 0 4=true from rfl,ad,n0,Fc,ai,show bO 1 4=true from rfl,ad,m,Fc,ai,show bO 2 4=true from rfl,ad,n2,Fc,ai,show bO 3 4=true from rfl,ad,n3,Fc,ai];have n:((ff (l.takeWhile (· != 62))).1,(ff ((ew l 62).2.takeWhile (· != 58))).1,(ff ((ew (ew l 62).2 58).2.takeWhile (· != 35))).1,(ff (((ew (ew l 62).2 58).2.dropWhile (· != 35)).drop 1)).1)=azn l:=rfl;simp only[n,Cu,aii,ai,Qh];unfold X8 aa1;by_cases cW:gm (azn l)=true
 .rw[ag cW,cW];by_cases e:txL (azn l)=l
  .have o:agB l=azn l:=by have:=aEz cW;rw[e]at this;exact this
   rw[o,ag ⟨cW,e⟩,aI e];rfl
  .have:¬(gm (agB l)=true/\txL (agB l)=l):=by rintro⟨f,g⟩;have:=awN f;rw[g]at this;rw[this]at e;exact e g
   rw[af this,aL e];rfl
 .have:¬(gm (agB l)=true/\txL (agB l)=l):=by rintro⟨f,g⟩;have:=awN f;rw[g]at this;rw[this]at cW;exact cW f
  rw[af this];have p:gm (azn l)=false:=by simpa using cW
  rw[p];rfl
def aEB (l:List UInt8):gm (X8 l).1=true:=by
 unfold X8;split
 .rename_i a;exact a.1
 .rfl
def parts (c:UInt8):List UInt8->List (List UInt8)
 |[]=>[[]]|x::l=>if x=c then []::parts c l else match parts c l with
  |p::a=>(x::p)::a|[]=>[[x]]
def Fe (c:UInt8)(l:List UInt8):parts c l≠[]:=by
 cases l with
 |nil=>simp[parts]
 |cons x l =>
  unfold parts;split
  .simp
  .split<;>simp
def aoj {c:UInt8}{a:List UInt8}(h:c ∉ a):parts c a=[a]:=by
 induction a with
 |nil=>rfl
 |cons x a b =>
  have d:¬x=c:=by rintro rfl;simp at h
  unfold parts;rw[af d,b fun e=>h (jG _ e)]
def awP {c:UInt8}{a b:List UInt8}(h:c ∉ a):parts c (a++c::b)=a::parts c b:=by
 induction a with
 |nil =>
  rw[Bi]
  conv=>lhs;unfold parts
  rw[ag rfl]
 |cons x a d =>
  have e:¬x=c:=by rintro rfl;simp at h
  rw[Gi]
  conv=>lhs;unfold parts
  rw[af e,d fun f=>h (jG _ f)]
def IW (c:UInt8)(l:List UInt8):(parts c l).length<=l.length+1:=by
 induction l with
 |nil=>simp[parts]
 |cons x l a =>
  unfold parts;split
  .simp only[aW];omega
  .split
   .rename_i p b h;rw[h]at a;simp only[aW]at a ⊢;omega
   .simp
def Cv {c:UInt8}:∀{l p:List UInt8},p∈parts c l->p.length<=l.length
 |[],p,h=>by simp only[parts,fA]at h;rw[h];simp
 |x::l,p,h=>by
  unfold parts at h;split at h
  .rcases cN.1 h with rfl|h
   .simp
   .have:=Cv h;simp only[aW];omega
  .split at h
   .rename_i q b a;rcases cN.1 h with rfl|h
    .have:=Cv (c:=c) (l:=l) (p:=q) (by rw[a];simp);simp only[aW];omega
    .have:=Cv (c:=c) (l:=l) (p:=p) (by rw[a];simp[h]);simp only[aW];omega
   .rw[fA]at h;rw[h];simp
def Ff (l:List UInt8)(a b:Nat):(tx l).extract a b=tx ((l.drop a).take (b-a)):=by rw[Ou ((tx l).extract a b),Lib.extract_data,e3]
def ar4 {l:List UInt8}(c:UInt8)(w:l.length<=4294967296):vA F0 (tx l) (c.toNat:Int)=some ((parts c l).map tx,()):=by
 have x:=IW c l;rw[aqg];refine cz (fun n i (z:Nat×List ByteArray)=>rh F0 (Jo F0) n (lg (tx l) (c.toNat:Int) (z.1:Int) i z.2)) (l.length+1)
  (fun k z=>if k<=l.length then ∃done:List (List UInt8),z.2=done.map tx/\parts c l=done++parts c (l.drop z.1)/\z.1<=k/\c ∉ (l.drop z.1).take (k-z.1) else z.2=(parts c l).map tx) _ (fun n k z y d=>.inr ?_) (fun n z d=>?_) F0.n 0 (0,[]) (aO _) ?_ (by rw[bH];omega)
 .obtain⟨a,xs⟩:=z;rw[ag (by omega)]at d;obtain⟨done,rfl,e,p,f⟩:=d;simp only at e p f;have A:done.length+1<=l.length+1:=by have g:=oF List.length e;have B:0<(parts c (l.drop a)).length:=List.length_pos_iff.2 (Fe c _);rw[aG]at g;omega
  have q:decide ((k:Int)<=(l.length:Int))=true:=aI (by omega);rw[Ls,bB,q,ae];have r:QW (a:Int) (k:Int) (l.length:Int)=true:=by simp only[QW,aA,bR];omega
  have s:∀b:ByteArray,eA F0 (done.map tx).length [b].length 16=true:=fun b=>ax (by omega) (by omega) (by rw[s5];simp only[aW,bj];omega)
  simp only[gJ,Ff,r,s,ad,al (show k+1<=9223372036854775807 by omega)];by_cases t:k=l.length
  .subst t;rw[Ye,ae];refine⟨(l.length+1,(parts c l).map tx),?_,by rw[af (by omega)]⟩;have u:(l.drop a).take (l.length-a)=l.drop a:=abD (by rw[bc];omega);rw[u]at f ⊢;rw[e,aoj f];simp
  .have hlt:k<l.length:=by omega
   have v:(((k:Nat):Int)==(l.length:Int))=false:=bQ.2 (by omega);rw[v,aa,ao hlt,ad,Xl];have m:l.drop a=(l.drop a).take (k-a)++l.getD k 0::l.drop (k+1):=by
    have:=awM (l:=l.drop a) (k:=k-a) (by rw[bc];omega);have o:(l.drop a).getD (k-a) 0=l.getD k 0:=by simp only[Em,ahf];rw[show a+(k-a)=k by omega]
    rw[o,alj,show a+(k-a+1)=k+1 by omega]at this;exact this
   by_cases j:l.getD k 0=c
   .have g:((((l.getD k 0).toNat:Int))==(c.toNat:Int))=true:=by rw[j];simp
    rw[g,ae];refine⟨(k+1,done.map tx++[tx ((l.drop a).take (k-a))]),rfl,?_⟩;rw[ag (by omega)];refine⟨done++[(l.drop a).take (k-a)],by simp,?_,bf _,by simp⟩;rw[j]at m;rw[e,m,awP f,<-m];simp
   .have g:((((l.getD k 0).toNat:Int))==(c.toNat:Int))=false:=bQ.2 fun h=>j (as2.1 (by omega))
    rw[g,aa];refine⟨(a,done.map tx),rfl,?_⟩;rw[ag (by omega)];refine⟨done,rfl,e,by show a<=k+1;omega,?_⟩;have o:(l.drop a).take (k+1-a)=(l.drop a).take (k-a)++[l.getD k 0]:=by
     rw[show k+1-a=(k-a)+1 by omega,Lg]
     congr 1
     have:(l.drop a)[k-a]?=some (l.getD k 0):=by rw[ahf,show a+(k-a)=k by omega];exact aV hlt 0
     rw[this];rfl
    show c ∉ (l.drop a).take (k+1-a);rw[o,gK,fA];rintro(h|h)
    .exact f h
    .exact j h.symm
 .rw[af (by omega)]at d;rw[Ls,bB,aL (by omega),aa,ae3,d]
 .rw[ag (by omega)];exact⟨[],rfl,rfl,bf _,by simp⟩
def auL (c:UInt8):∀(n:Nat) (l:List UInt8),l.length<=n->∀k,k=Lib.countB (tx l) (tx [c])->Lib.splitB (tx [c]) 0 k (tx l)=(parts c l).map tx:=by
 intro n
 induction n with
 |zero =>
  intro l f k m;obtain rfl:l=[]:=Ya (by omega);have d:Lib.indexB (tx []) (tx [c])=-1:=by show Lib.index (tx []).data.toList (tx [c]).data.toList=-1;rw[e3,e3,Lib.index_one];rfl
  rw[Lib.splitB_miss _ _ _ _ d];rfl
 |succ n o =>
  intro l f k m;by_cases h:c∈l
  .obtain⟨a,b,rfl,g⟩:=adM h;have d:Lib.indexB (tx (a++c::b)) (tx [c])=(a.length:Int):=by show Lib.index (tx (a++c::b)).data.toList (tx [c]).data.toList=_;rw[e3,e3,Lib.index_one,adK g]
   have i:(tx [c]).size=1:=bB [c];have j:(tx (a++c::b)).extract (a.length+(tx [c]).size) (tx (a++c::b)).size=tx b:=by
    rw[extract_from,i]
    congr 1
    simp[List.drop_append]
   have p:=Lib.countB_hit (tx (a++c::b)) (tx [c]) a.length (by rw[i];omega) d;rw[j]at p;obtain⟨e,rfl⟩:∃e,k=e+1:=⟨Lib.countB (tx b) (tx [c]),by omega⟩;rw[Lib.splitB_hit _ _ _ _ _ d,j,o b (by simp only[aG,aW]at f;omega) e (by omega),awP g,NG,aod];simp[as0]
  .have d:Lib.indexB (tx l) (tx [c])=-1:=by show Lib.index (tx l).data.toList (tx [c]).data.toList=-1;rw[e3,e3,Lib.index_one,adL h]
   rw[Lib.splitB_miss _ _ _ _ d,aoj h];rfl
def aok {l:List UInt8}(c:UInt8)(a:l.length<4294967281):vI F0 (tx l) (c.toNat:Int)=some ((parts c l).map tx,()):=by
 have b:strOf [(c.toNat:Int)]=tx [c]:=by
  simp only[strOf,tx,sG,List.map_nil]
  congr 2
  simp
 have h:Nat.blt (tx l).size 4294967281=true:=by rw[bB];simpa using a
 have d:Nat.ble 1 (tx [c]).size=true:=by rw[bB];rfl
 rw[aqC,b];unfold strings_Split;rw[h,d,Bool.and_self,ad,ai,auL c l.length l (bf _) _ rfl]
def sY {σ V:Type}(f:σ->List UInt8->Option (σ×V)):σ->List (List UInt8)->Option (List V)
 |_,[]=>some []|s,p::a=>match f s p with
  |none=>none|some (c,b)=>match sY f c a with
   |none=>none|some r=>some (b::r)
def Qj {σ V γ:Type}(f:σ->List UInt8->Option (σ×V))(I:σ->Prop)(P:List (List UInt8))(X:Nat->σ->Int->List V->Option γ)(c:Option γ)(d:List V->Option γ)
  (hs:∀n k s xs p,k<P.length->P[k]?=some p->I s->xs.length=k->X (n+1) s (k:Int) xs=match f s p with|none=>c|some (a,b)=>X n a ((k+1:Nat):Int) (xs++[b]))
  (g:∀n s xs,xs.length=P.length->X (n+1) s (P.length:Int) xs=d xs) (i:∀s p a b,I s->f s p=some (a,b)->I a) :
  ∀(n k:Nat) (s:σ) (xs:List V),k<=P.length->P.length-k<n->I s->xs.length=k->X n s (k:Int) xs=match sY f s (P.drop k) with|none=>c|some l=>d (xs++l)
 |0,_,_,_,_,h,_,_=>absurd h (RW _)|n+1,k,s,xs,t,u,j,e=>by
  rcases Lh k P.length with hlt|v
  .have m:P[k]?=some P[k]:=mm hlt;rw[hs n k s xs P[k] hlt m j e,TX hlt];simp only[sY];cases o:f s P[k]with
   |none=>rfl
   |some q =>
    obtain⟨a,b⟩:=q;simp only;rw[Qj f I P X c d hs g i n (k+1) a (xs++[b]) hlt (by omega) (i _ _ _ _ j o) (by simp[e])];cases sY f a (P.drop (k+1)) with
    |none=>rfl|some r=>simp
  .obtain rfl:k=P.length:=by omega
   rw[g n s xs e,Yf];simp[sY]
def Qk {σ V:Type}{f:σ->List UInt8->Option (σ×V)}:∀{P:List (List UInt8)} {s:σ} {r:List V},sY f s P=some r->r.length=P.length
 |[],_,r,h=>by cases h;rfl
 |p::b,s,r,h=>by
  simp only[sY]at h;split at h
  .cases h
  .split at h
   .cases h
   .rename_i a;cases h;simp[Qk a]
def aol {σ V:Type}{f:σ->List UInt8->Option (σ×V)}{Q:V->Prop}(a:∀s p c b,f s p=some (c,b)->Q b):∀{P:List (List UInt8)} {s:σ} {r:List V},sY f s P=some r->∀b∈r,Q b
 |[],_,r,h=>by cases h;simp
 |p::g,s,r,h=>by
  simp only[sY]at h;split at h
  .cases h
  .rename_i d;split at h
   .cases h
   .rename_i e;cases h;intro b hb;rcases cN.1 hb with rfl|hb
    .exact a _ _ _ _ d
    .exact aol a e b hb
def txF (_:Unit)(p:List UInt8):Option (Unit×ej):=if (X8 p).2=true then some ((),(X8 p).1) else none
def kU (l:List UInt8):List ej×Bool:=if l=[] then ([],true) else match sY txF () (parts 44 l) with|none=>([],false)|some r=>(r,true)
def ar5 (l:List UInt8):(kU l).1.length<=l.length+1:=by
 unfold kU;split
 .simp
 .split
  .simp
  .rename_i r a;have:=Qk a;have:=IW 44 l;simp only;omega
def aED (l:List UInt8):∀x∈(kU l).1,gm x=true:=by
 unfold kU;split
 .simp
 .split
  .simp
  .rename_i r a;refine aol (Q:=fun x=>gm x=true) (fun s p c b h=>?_) a;unfold txF at h;split at h
   .cases h;exact aEB p
   .cases h
def agC (l:List UInt8):((tx l).toList==ak.toList)=decide (l=[]):=Qh l []
def auM (P:List (List UInt8))(k:Nat){p:List UInt8}(h:P[k]?=some p):aN (P.map tx) (k:Int) ByteArray.empty=tx p:=by show(P.map tx).getD k ByteArray.empty=_;simp[Em,h]
def ar6 {l:List UInt8}(f:l.length<=1073741824):BL F0 (tx l)=some ((kU l).1,(kU l).2,()):=by
 have g:=IW 44 l;rw[aqi,agC];unfold kU;by_cases a:l=[]
 .rw[aI a,ag a];rfl
 .rw[aL a,aa,af a,show vA F0 (tx l) 44=_ from ar4 44 (by omega),ai];have:=Qj txF (fun _=>True) (parts 44 l) (fun n _ i xs=>Hr F0 (x6 F0) n (x5 i xs ((parts 44 l).map tx))) (some ([],false,())) (fun xs=>some (xs,true,())) (fun n k s xs p c d _ e=>?_) (fun n s xs e=>?_) (fun _ _ _ _ _ _=>trivial) F0.n 0 () [] (aO _) (by rw[bH];omega) trivial rfl
  .simp only[T0,Bi]at this;rw[show((0:Nat):Int)=0 from rfl]at this;rw[this];cases sY txF () (parts 44 l)<;>rfl
  .have h:=Cv (arl d);rw[Lu,s5,aP c,ae,ao c,ad,auM _ _ d,aEA (by omega),ai];unfold txF;cases cW:(X8 p).2 with
   |false=>simp only[ea,ae,aiZ];rfl
   |true =>
    simp only[aH,aa];rw[ax (b:=[(X8 p).1].length) (k:=32) (by omega) (by omega) (by simp only[aW,bj];omega),ad,al (by omega)];rfl
  .rw[Lu,s5,aE,aa,ae6]
def azo {l:List UInt8}(f:l.length<=1073741824):Kc F0 (tx l)=some ((kU l).1,(kU l).2,()):=by
 have g:=IW 44 l;rw[aqD,agC];unfold kU;by_cases a:l=[]
 .rw[aI a,ag a];rfl
 .rw[aL a,aa,af a,show vI F0 (tx l) 44=_ from aok 44 (by omega),ai];have:=Qj txF (fun _=>True) (parts 44 l) (fun n _ i xs=>H2 F0 (z6 F0) n (z1 ((parts 44 l).map tx) (((parts 44 l).map tx).length:Int) i xs)) (some ([],false,())) (fun xs=>some (xs,true,())) (fun n k s xs p c d _ e=>?_) (fun n s xs e=>?_) (fun _ _ _ _ _ _=>trivial) F0.n 0 () [] (aO _) (by rw[bH];omega) trivial rfl
  .simp only[T0,Bi]at this;rw[show((0:Nat):Int)=0 from rfl]at this;rw[this];cases sY txF () (parts 44 l)<;>rfl
  .have h:=Cv (arl d);rw[Mr,s5,aP c,ae,ao c,ad,auM _ _ d,aCN (by omega),ai];unfold txF;cases cW:(X8 p).2 with
   |false=>simp only[ea,ae,ajX];rfl
   |true =>
    simp only[aH,aa];rw[ax (b:=[(X8 p).1].length) (k:=32) (by omega) (by omega) (by simp only[aW,bj];omega),ad,al (by omega)];rfl
  .rw[Mr,s5,aE,aa,afL]
abbrev Ql:=Int×List ej
def sP (a:Int)(p:List UInt8):Option (Int×Ql) :=
 if 124∈p/\(ff (ew p 124).1).2=true/\(kU (ew p 124).2).2=true/\a<(ff (ew p 124).1).1/\(ff (ew p 124).1).1<=60/\(kU (ew p 124).2).1.length<=2
 then some ((ff (ew p 124).1).1,(ff (ew p 124).1).1,(kU (ew p 124).2).1) else none
def aZ (l:List UInt8):List Ql×Bool:=if l=[] then ([],true) else match parts 47 l with
 |[]=>([],false)|b::a=>if ¬b=[]\/30<a.length then ([],false) else match sY sP 0 a with
  |none=>([],false)|some r=>(r,true)
def auN (s:Ql):Prop:=0<=s.1/\s.1<=60/\s.2.length<=2/\∀x∈s.2,gm x=true
def Wm {d:Int}{p:List UInt8}{a:Int}{b:Ql}(h:sP d p=some (a,b)):auN b/\a=b.1:=by
 unfold sP at h;split at h
 .rename_i c;cases h;exact⟨⟨(aoc _).1,c.2.2.2.2.1,c.2.2.2.2.2,aED _⟩,rfl⟩
 .cases h
def Ro (l:List UInt8):∀s∈(aZ l).1,auN s:=by
 unfold aZ;split
 .simp
 .split
  .simp
  .split
   .simp
   .split
    .simp
    .rename_i a;exact aol (Q:=auN) (fun s p c b h=>(Wm h).1) a
def qc (l:List UInt8):(aZ l).1.length<=30:=by
 unfold aZ;split
 .simp
 .split
  .simp
  .split
   .simp
   .split
    .simp
    .rename_i a;have:=Qk a;simp only;omega
def br6 {U:Type}(a b c d e f:Bool)(x y:U):br (!a) x (br (!b) x (br (!c) x (br d x (br e x (br f x y)))))=if a=true/\b=true/\c=true/\d=false/\e=false/\f=false then y else x:=by cases a<;>cases b<;>cases c<;>cases d<;>cases e<;>cases f<;>rfl
def br5 {U:Type}(a b c d f:Bool)(x y:U):br (!a) x (br (!b) x (br (!c) x (br (!d) x (br f x y))))=if a=true/\b=true/\c=true/\d=true/\f=false then y else x:=by cases a<;>cases b<;>cases c<;>cases d<;>cases f<;>rfl
def Xm {l:List UInt8}(G:l.length<=1073741824):pD F0 (tx l)=some ((aZ l).1,(aZ l).2,()):=by
 have q:=IW 47 l;have r:=fun p (h:p∈parts 47 l)=>Cv h
 rw[aqk,agC];unfold aZ;by_cases f:l=[]
 .rw[aI f,ag f];rfl
 .rw[aL f,aa,af f,show vA F0 (tx l) 47=_ from ar4 47 (by omega),ai];cases t:parts 47 l with
  |nil=>exact absurd t (Fe 47 l)
  |cons c a =>
   rw[t]at q r;simp only[aW]at q;have x:aN ((c::a).map tx) 0 ByteArray.empty=tx c:=rfl;have y:bO 0 (((c::a).map tx).length:Int)=true:=ao (k:=0) (by simp);simp only[y,ad,x,agC];by_cases d:c=[]
   .by_cases z:30<a.length
    .rw[aI d,aH,aa,aI (by rw[s5,aW];omega),ae,ag (.inr z)]
    .rw[aI d,aH,aa,aL (by rw[s5,aW];omega),aa,af (by simp[d];omega)];have:=Qj sP (fun s=>0<=s/\s<=60) a (fun n s i xs=>Hu F0 (x8 F0) n (x7 s (i+1) [] xs ((c::a).map tx))) (some ([],false,())) (fun xs=>some (xs,true,())) (fun n k s xs p H u A B=>?_) (fun n s xs B=>?_) (fun s p I b A C=>?_) F0.n 0 0 [] (aO _) (by rw[bH];omega) ⟨by omega,by omega⟩ rfl
     .simp only[T0,Bi]at this;rw[show((0:Nat):Int)+1=1 from rfl]at this;rw[this];cases sY sP 0 a<;>rfl
     .have K:=r p (jG _ (arl u));have v:k+1<((c::a).map tx).length:=by simp;omega
      have D:aN ((c::a).map tx) (((k+1:Nat)):Int) ByteArray.empty=tx p:=auM _ _ (by simpa using u);rw[show((k:Int)+1)=((k+1:Nat):Int) by omega,Lv,aP v,ae,ao v,ad,D,show ha F0 (tx p) 124=_ from ar3 124 (by omega),ai];have L:=akU p 124;have M:=aoc (ew p 124).1;have N:=ar5 (ew p 124).2;by_cases g:(124:UInt8)∈p
      .rw[ag g];simp only[Ct,ai];rw[show BL F0 (tx ((p.dropWhile (· != 124)).drop 1))=some ((kU (ew p 124).2).1,(kU (ew p 124).2).2,()) from ar6 (by show(ew p 124).2.length<=_;omega),ai];simp only[R6];rw[br6];unfold sP;have E:(ff (p.takeWhile (· != 124)))=ff (ew p 124).1:=rfl;rw[E];by_cases e:124∈p/\(ff (ew p 124).1).2=true/\(kU (ew p 124).2).2=true/\s<(ff (ew p 124).1).1/\(ff (ew p 124).1).1<=60/\(kU (ew p 124).2).1.length<=2
       .have j:decide ((ff (ew p 124).1).1<=s)=false:=aL (by omega);have m:decide ((ff (ew p 124).1).1>60)=false:=aL (by omega);have o:decide (((kU (ew p 124).2).1.length:Int)>2)=false:=aL (by omega);rw[ag e,ag ⟨rfl,e.2.1,e.2.2.1,j,m,o⟩];simp only;rw[ax (b:=[((ff (ew p 124).1).1,(kU (ew p 124).2).1)].length) (k:=32) (by omega) (by omega) (by simp only[aW,bj];omega),ad,al (by omega)];rfl
       .rw[af e,af (fun h=>e ?_)];have j:decide ((ff (ew p 124).1).1<=s)=false:=h.2.2.2.1;have m:decide ((ff (ew p 124).1).1>60)=false:=h.2.2.2.2.1;have o:decide (((kU (ew p 124).2).1.length:Int)>2)=false:=h.2.2.2.2.2;have O:=aeM j;have P:=aeM m;have Q:=aeM o;exact⟨g,h.2.1,h.2.2.1,by omega,by omega,by omega⟩
      .rw[af g];unfold sP;rw[af (fun h=>g h.1),Ct,ai,show BL F0 (tx [])=_ from ar6 (by simp),ai];simp only[ea,ae,R6]
     .rw[show((a.length:Int)+1)=(((c::a).map tx).length:Int) by simp,Lv,aE,aa,ae7]
     .obtain⟨w,F⟩:=Wm C;rw[F];exact⟨w.1,w.2.1⟩
   .rw[aL d,ea,ae,ag (.inl d)]
def Rp {l:List UInt8}(E:l.length<=1073741824):pS F0 (tx l)=some ((aZ l).1,(aZ l).2,()):=by
 have g:=IW 47 l;have j:=fun p (h:p∈parts 47 l)=>Cv h
 rw[aqF,agC];unfold aZ;by_cases f:l=[]
 .rw[aI f,ag f];rfl
 .rw[aL f,aa,af f,show vI F0 (tx l) 47=_ from aok 47 (by omega),ai];cases m:parts 47 l with
  |nil=>exact absurd m (Fe 47 l)
  |cons c a =>
   rw[m]at g j;simp only[aW]at g;have t:aN ((c::a).map tx) 0 ByteArray.empty=tx c:=rfl;have u:bO 0 (((c::a).map tx).length:Int)=true:=ao (k:=0) (by simp);have hlen:((c::a).map tx).length=a.length+1:=by simp
   have v:QW 1 (((c::a).map tx).length:Int) (((c::a).map tx).length:Int)=true:=by rw[hlen];simp only[QW,aA,bR];omega
   have w:((((c::a).map tx).take (((c::a).map tx).length:Int).toNat).drop (1:Int).toNat)=a.map tx:=by rw[gJ,k5];rfl
   simp only[u,ad,t,agC,v,w];rw[hlen,aF (by omega) (by omega)];by_cases e:c=[]
   .by_cases x:30<a.length
    .rw[aI e,aH,aa,aI (by omega),ae,ag (.inr x)]
    .rw[aI e,aH,aa,aL (by omega),aa,af (by simp[e];omega)];have:=Qj sP (fun s=>0<=s/\s<=60) a (fun n s i xs=>H5 F0 (z8 F0) n (z7 s (a.map tx) ((a.map tx).length:Int) i xs)) (some ([],false,())) (fun xs=>some (xs,true,())) (fun n k s xs p o q y z=>?_) (fun n s xs z=>?_) (fun s p F b y A=>?_) F0.n 0 0 [] (aO _) (by rw[bH];omega) ⟨by omega,by omega⟩ rfl
     .simp only[T0,Bi]at this;rw[show((0:Nat):Int)=0 from rfl]at this;rw[this];cases sY sP 0 a<;>rfl
     .have G:=j p (jG _ (arl q));have H:=akU p 124;have I:=aoc (ew p 124).1;have K:=ar5 (ew p 124).2;rw[Ms,s5,aP o,ae,ao o,ad,auM _ _ q,show ByteArray.mk #[124]=tx [124] from rfl,vv 124 (by omega),ai];simp only[Fc,ai];rw[show Kc F0 (tx ((p.dropWhile (· != 124)).drop 1))=some ((kU (ew p 124).2).1,(kU (ew p 124).2).2,()) from azo (by show(ew p 124).2.length<=_;omega),ai];simp only[ajY,Rn,ai];rw[br5];unfold sP;have B:(ff (p.takeWhile (· != 124)))=ff (ew p 124).1:=rfl;rw[B,aF (n:=s+1) (by omega) (by omega)];by_cases d:124∈p/\(ff (ew p 124).1).2=true/\(kU (ew p 124).2).2=true/\s<(ff (ew p 124).1).1/\(ff (ew p 124).1).1<=60/\(kU (ew p 124).2).1.length<=2
      .have C:(decide (s+1<=(ff (ew p 124).1).1)&&decide ((ff (ew p 124).1).1<=60))=true:=by rw[aI (by omega),aI (by omega)];rfl
       rw[ag d,ag ⟨aI d.1,d.2.1,d.2.2.1,C,aL (by omega)⟩];simp only;rw[ax (b:=[((ff (ew p 124).1).1,(kU (ew p 124).2).1)].length) (k:=32) (by omega) (by omega) (by simp only[aW,bj];omega),ad,al (by omega)]
      .rw[af d,af (fun h=>d ⟨k4 h.1,h.2.1,h.2.2.1,by have:=h.2.2.2.1;rw[aA]at this;have:=k4 this.1;omega,by have:=h.2.2.2.1;rw[aA]at this;have:=k4 this.2;omega,by have:=aeM h.2.2.2.2;omega⟩)]
     .rw[Ms,s5,aE,aa,afM]
     .obtain⟨r,D⟩:=Wm A;rw[D];exact⟨r.1,r.2.1⟩
   .rw[aL e,ea,ae,ag (.inl e)]
abbrev mf:=List Int×List Int
def Qm (l:mf):Bool:=decide (l.1.length=4)&&(decide (l.2.length=4)&&(l.1.all (fun n=>inB n 0 400)&&l.2.all (fun n=>inB n 0 100)))
def ZM {a:List Int}(lo b:Int)(h:a.length<=1048576):p8 F0 a lo b=some (a.all (fun n=>inB n lo b),()):=by
 rw[adw];refine cz (fun n i (_:Unit)=>sx F0 (nk F0) n (nj lo b a (a.length:Int) i)) a.length (fun k _=>∀x∈a.take k,inB x lo b=true) _ (fun n k _ d e=>?_) (fun n _ e=>?_) F0.n 0 () (aO _) (by simp) (by rw[bH];omega)
 .rw[By,aP d,ae,ao d,ad,la,Rn,ai];show(br (!inB (a.getD k 0) lo b) _ _=_)\/∃g:Unit,br (!inB (a.getD k 0) lo b) _ _=_/\_;cases f:inB (a.getD k 0) lo b with
  |false =>
   left;rw[ea,ae,X1];have:a.all (fun n=>inB n lo b)=false:=aeN.2 ⟨_,nB d 0,by rw[f];simp⟩;rw[this]
  |true =>
   right;refine⟨(),by rw[aH,aa,al (by omega)],?_⟩;intro x c;rw[Lg,aV d 0]at c;rcases gK.1 c with c|c
   .exact e x c
   .simp only[ald,fA]at c;rw[c];exact f
 .rw[k5]at e;rw[By,aE,aa,V8,fq.2 e]
def ZN {l:mf}(a:l.1.length<=1048576)(b:l.2.length<=1048576):tD F0 l=some (Qm l,()):=by
 rw[agh,ZM 0 400 a,ZM 0 100 b];have e:∀n:Nat,((n:Int)==4)=decide (n=4):=fun n=>by
  by_cases h:n=4
  .subst h;rfl
  .rw[aL h];exact bQ.2 (by omega)
 simp only[ai,e,azm];rfl
def adO {l:mf}:tg F0 l=some (Qm l,()):=by
 rw[afi];have e:∀n:Nat,((n:Int) != 4)= !decide (n=4):=fun n=>by
  by_cases h:n=4
  .subst h;rfl
  .rw[aL h];exact Er.2 (by omega)
 rw[e,e];unfold Qm;by_cases c:l.1.length=4
 .by_cases g:l.2.length=4
  .rw[aI c,aI g,aH,aa,aa,eS,eS];refine cz (fun n i (_:Unit)=>uw F0 (oS F0) n (oR i l.1 l.2)) 4 (fun k _=>(∀x∈l.1.take k,inB x 0 400=true)/\∀x∈l.2.take k,inB x 0 100=true) _ (fun n k _ o b=>?_) (fun n _ b=>?_) F0.n 0 () (by omega) (by simp) (by rw[bH];omega)
   .have d:k<l.1.length:=by omega
    have f:k<l.2.length:=by omega
    rw[EE,show decide ((k:Int)<4)=true from aI (by omega),ae,ao d,ad,la,adN,ai,ao f,ad,la,adN,ai];show(br (!inB (l.1.getD k 0) 0 400) _ (br (!inB (l.2.getD k 0) 0 100) _ _)=_)\/∃p:Unit,br (!inB (l.1.getD k 0) 0 400) _ (br (!inB (l.2.getD k 0) 0 100) _ _)=_/\_;cases j:inB (l.1.getD k 0) 0 400 with
    |false =>
     left;rw[ea,ae,JM];have:l.1.all (fun n=>inB n 0 400)=false:=aeN.2 ⟨_,nB d 0,by rw[j];simp⟩;rw[this];rfl
    |true =>
     cases m:inB (l.2.getD k 0) 0 100 with
     |false =>
      left;rw[aH,aa,ea,ae,JM];have:l.2.all (fun n=>inB n 0 100)=false:=aeN.2 ⟨_,nB f 0,by rw[m];simp⟩;rw[this,abF]
     |true =>
      right;refine⟨(),by rw[aH,aa,aa,al (by omega)],?_,?_⟩
      .intro x a;rw[Lg,aV d 0]at a;rcases gK.1 a with a|a
       .exact b.1 x a
       .simp only[ald,fA]at a;rw[a];exact j
      .intro x a;rw[Lg,aV f 0]at a;rcases gK.1 a with a|a
       .exact b.2 x a
       .simp only[ald,fA]at a;rw[a];exact m
   .rw[abD (by omega),abD (by omega)]at b;rw[EE,show decide (((4:Nat):Int)<4)=false from rfl,aa,XO,fq.2 b.1,fq.2 b.2];rfl
  .rw[aI c,aL g];rfl
 .rw[aL c];rfl
def jw (l:mf)(x:ej):mf×Int :=
 if Qm l=true/\gm x=true then
  if x.2.2.2<aN l.2 x.1 0 then (l,2)
  else if x.2.2.2>aN l.2 x.1 0 then (l,3)
  else if x.2.2.1>aN l.1 x.1 0 then ((l.1,l.2.set x.1.toNat (x.2.2.2+1)),4)
  else if Qm ((l.1.set x.1.toNat (aN l.1 x.1 0-x.2.2.1)).set x.2.1.toNat (aN (l.1.set x.1.toNat (aN l.1 x.1 0-x.2.2.1)) x.2.1 0+x.2.2.1),l.2.set x.1.toNat (x.2.2.2+1))=true
   then (((l.1.set x.1.toNat (aN l.1 x.1 0-x.2.2.1)).set x.2.1.toNat (aN (l.1.set x.1.toNat (aN l.1 x.1 0-x.2.2.1)) x.2.1 0+x.2.2.1),l.2.set x.1.toNat (x.2.2.2+1)),0)
   else (l,1)
 else (l,1)
def aom {l:mf}(h:Qm l=true):l.1.length=4/\l.2.length=4/\(∀x∈l.1,0<=x/\x<=400)/\∀x∈l.2,0<=x/\x<=100:=by simp only[Qm,aA,bR,fq,inB]at h;exact⟨h.1,h.2.1,fun x a=>⟨(h.2.2.1 x a).1,(h.2.2.1 x a).2⟩,fun x a=>⟨(h.2.2.2 x a).1,(h.2.2.2 x a).2⟩⟩
def aa2 {l:mf}(a:l.1.length<=1048576)(b:l.2.length<=1048576):pL F0 l=some (l,()):=by rw[amE,ax (by omega) (by omega) (by omega),ad,ax (by omega) (by omega) (by omega),ad];simp
def Wn {l:mf}(a:l.1.length<=1048576)(b:l.2.length<=1048576):jY F0 l=some (l,()):=by rw[aaW,Cc,Cc,ax (by omega) (by omega) (by omega),ad,ai,ax (by omega) (by omega) (by omega),ad,ai];simp
def dT {p:Prop}(i:Decidable p)(h:p): @decide p i=true:=aI h
def dF {p:Prop}(i:Decidable p)(h:¬p): @decide p i=false:=aL h
def aBI {a:List Int}{k:Nat}{v:Int}{lo b:Int}(c:∀x∈a,lo<=x/\x<=b)(d:lo<=v/\v<=b):∀x∈a.set k v,lo<=x/\x<=b:=fun x e=>by
 rcases ayx e with h|h
 .exact c x h
 .rw[h];exact d
def auO {l:mf}(g:l.1.length<=1048576)(i:l.2.length<=1048576)(x:ej):JN F0 l x=some ((jw l x).1,(jw l x).2,()):=by
 rw[awA,aa2 g i,ai,adO,ai];unfold jw;cases p:Qm l with
 |false=>rw[af (by simp)];rfl
 |true =>
  rw[aH,aa,Qi,ai];cases q:gm x with
  |false=>rw[af (by simp)];rfl
  |true =>
   rw[aH,aa,ag ⟨rfl,rfl⟩];obtain⟨j,r,m,s⟩:=aom p;obtain⟨b,o,B,C⟩:=wQ q;have f:∀(y:Int) (n:Nat),n=4->0<=y->y<=3->bO y (n:Int)=true:=fun y n h g i=>by obtain⟨u,rfl⟩:∃u:Nat,y=u:=⟨y.toNat,by omega⟩;exact ao (by omega)
   have t:=f x.1 _ j b.1 b.2;have z:=f x.1 _ r b.1 b.2;have A:∀w,bO x.2.1 ((l.1.set x.1.toNat w).length:Int)=true:=fun w=>f x.2.1 _ (by rw[Eo];exact j) o.1 o.2
   simp only[t,z,A,ad];have D:0<=aN l.1 x.1 0/\aN l.1 x.1 0<=400:=m _ (nB (a:=l.1) (k:=x.1.toNat) (by omega) 0);have E:0<=aN l.2 x.1 0/\aN l.2 x.1 0<=100:=s _ (nB (a:=l.2) (k:=x.1.toNat) (by omega) 0);by_cases c:x.2.2.2<aN l.2 x.1 0
   .rw[dT _ c,ae,ag c]
   .rw[dF _ c,aa,af c];by_cases d:x.2.2.2>aN l.2 x.1 0
    .rw[dT _ d,ae,ag d]
    .rw[dF _ d,aa,af d,aF (n:=x.2.2.2+1) (by omega) (by omega)];by_cases e:x.2.2.1>aN l.1 x.1 0
     .rw[dT _ e,ae,ag e]
     .have F:0<=aN (l.1.set x.1.toNat (aN l.1 x.1 0-x.2.2.1)) x.2.1 0/\aN (l.1.set x.1.toNat (aN l.1 x.1 0-x.2.2.1)) x.2.1 0<=400:=aBI (k:=x.1.toNat) (v:=aN l.1 x.1 0-x.2.2.1) m ⟨by omega,by omega⟩ _ (nB (a:=l.1.set x.1.toNat (aN l.1 x.1 0-x.2.2.1)) (k:=x.2.1.toNat) (by rw[Eo];omega) 0);rw[dF _ e,aa,af e,aF (n:=aN l.1 x.1 0-x.2.2.1) (by omega) (by omega),aF (n:=aN (l.1.set x.1.toNat (aN l.1 x.1 0-x.2.2.1)) x.2.1 0+x.2.2.1) (by omega) (by omega),adO,ai];cases Qm ((l.1.set x.1.toNat (aN l.1 x.1 0-x.2.2.1)).set x.2.1.toNat (aN (l.1.set x.1.toNat (aN l.1 x.1 0-x.2.2.1)) x.2.1 0+x.2.2.1),l.2.set x.1.toNat (x.2.2.2+1)) with
      |false=>rw[af (by simp),ea,ae,ai]
      |true=>rw[ag rfl];rfl
def aon {l:mf}(f:l.1.length<=1048576)(g:l.2.length<=1048576)(x:ej):KD F0 l x=some ((jw l x).1,(jw l x).2,()):=by
 rw[awI,Wn f g,ai,ZN f g,ai];unfold jw;cases p:Qm l with
 |false=>rw[af (by simp)];rfl
 |true =>
  rw[aH,aa,Cu,ai];cases q:gm x with
  |false=>rw[af (by simp)];rfl
  |true =>
   rw[aH,aa,ag ⟨rfl,rfl⟩];obtain⟨j,r,m,s⟩:=aom p;obtain⟨b,o,C,D⟩:=wQ q;have i:∀(y:Int) (n:Nat),n=4->0<=y->y<=3->bO y (n:Int)=true:=fun y n h f g=>by obtain⟨u,rfl⟩:∃u:Nat,y=u:=⟨y.toNat,by omega⟩;exact ao (by omega)
   have t:=i x.1 _ j b.1 b.2;have z:=i x.1 _ r b.1 b.2;have A:∀w,bO x.2.1 ((l.1.set x.1.toNat w).length:Int)=true:=fun w=>i x.2.1 _ (by rw[Eo];exact j) o.1 o.2
   simp only[t,z,A,ad];have E:0<=aN l.1 x.1 0/\aN l.1 x.1 0<=400:=m _ (nB (a:=l.1) (k:=x.1.toNat) (by omega) 0);have F:0<=aN l.2 x.1 0/\aN l.2 x.1 0<=100:=s _ (nB (a:=l.2) (k:=x.1.toNat) (by omega) 0);by_cases c:x.2.2.2<aN l.2 x.1 0
   .rw[dT _ c,ae,ag c]
   .rw[dF _ c,aa,af c];by_cases d:x.2.2.2>aN l.2 x.1 0
    .rw[dT _ d,ae,ag d]
    .have B:aN l.2 x.1 0=x.2.2.2:=by omega
     rw[dF _ d,aa,af d,B,aF (n:=x.2.2.2+1) (by omega) (by omega)];by_cases e:x.2.2.1>aN l.1 x.1 0
     .rw[dT _ e,ae,ag e]
     .have G:0<=aN (l.1.set x.1.toNat (aN l.1 x.1 0-x.2.2.1)) x.2.1 0/\aN (l.1.set x.1.toNat (aN l.1 x.1 0-x.2.2.1)) x.2.1 0<=400:=aBI (k:=x.1.toNat) (v:=aN l.1 x.1 0-x.2.2.1) m ⟨by omega,by omega⟩ _ (nB (a:=l.1.set x.1.toNat (aN l.1 x.1 0-x.2.2.1)) (k:=x.2.1.toNat) (by rw[Eo];omega) 0);rw[dF _ e,aa,af e,aF (n:=aN l.1 x.1 0-x.2.2.1) (by omega) (by omega),aF (n:=aN (l.1.set x.1.toNat (aN l.1 x.1 0-x.2.2.1)) x.2.1 0+x.2.2.1) (by omega) (by omega),ZN (by simp only[Eo];omega) (by simp only[Eo];omega),ai];cases Qm ((l.1.set x.1.toNat (aN l.1 x.1 0-x.2.2.1)).set x.2.1.toNat (aN (l.1.set x.1.toNat (aN l.1 x.1 0-x.2.2.1)) x.2.1 0+x.2.2.1),l.2.set x.1.toNat (x.2.2.2+1)) with
      |false=>rw[af (by simp),ea,ae,ai]
      |true=>rw[ag rfl];rfl
def awQ (l:mf)(x:ej):(jw l x).1.1.length=l.1.length/\(jw l x).1.2.length=l.2.length:=by
 unfold jw;split
 .split
  .exact⟨rfl,rfl⟩
  .split
   .exact⟨rfl,rfl⟩
   .split
    .exact⟨rfl,by simp⟩
    .split
     .exact⟨by simp,by simp⟩
     .exact⟨rfl,rfl⟩
 .exact⟨rfl,rfl⟩
def auP:mf:=([100,100,100,100],[0,0,0,0])
def ZO:lG F0=some (auP,()):=by
 have st:∀n (k:Nat) (c:List Int),k<4->c.length=k->iK F0 (iY F0) (n+1) (fI (k:Int) [] [] c [0,0,0,0])=iK F0 (iY F0) n (fI ((k+1:Nat):Int) [] [] (c++[100]) [0,0,0,0]):=fun n k c e f=>by rw[Bm,show decide ((k:Int)<4)=true from aI (by omega),ae,ax (a:=c.length) (b:=[(100:Nat)].length) (k:=8) (by omega) (by omega) (by simp only[aW,bj];omega),ad,al (by omega)]
 rw[acv,show okM F0 4 4 8=true from aEk (n:=4) (by omega) (by omega) (by omega),ad];refine cz (fun n i c=>iK F0 (iY F0) n (fI i [] [] c [0,0,0,0])) 4 (fun k c=>c=List.replicate k 100) _ (fun n k c e d=>.inr ⟨_,st n k c e (by rw[d];simp),by rw[d,<-List.replicate_succ']⟩) (fun n c d=>?_) F0.n 0 [] (by omega) rfl (by rw[bH];omega);rw[Bm,show decide (((4:Nat):Int)<4)=false from rfl,aa,U0,d];rfl
def Wo:mb F0=some (auP,()):=by
 have st:∀n (k:Nat) (c:List Int),k<4->c.length=k->iP F0 (jt F0) (n+1) (fO (k:Int) [] [] c [0,0,0,0])=iP F0 (jt F0) n (fO ((k+1:Nat):Int) [] [] (c++[100]) [0,0,0,0]):=fun n k c e f=>by rw[Bx,show decide ((k:Int)<4)=true from aI (by omega),ae,ax (a:=c.length) (b:=[(100:Nat)].length) (k:=8) (by omega) (by omega) (by simp only[aW,bj];omega),ad,al (by omega)]
 rw[adv,show okM F0 4 4 8=true from aEk (n:=4) (by omega) (by omega) (by omega),ad];refine cz (fun n i c=>iP F0 (jt F0) n (fO i [] [] c [0,0,0,0])) 4 (fun k c=>c=List.replicate k 100) _ (fun n k c e d=>.inr ⟨_,st n k c e (by rw[d];simp),by rw[d,<-List.replicate_succ']⟩) (fun n c d=>?_) F0.n 0 [] (by omega) rfl (by rw[bH];omega);rw[Bx,show decide (((4:Nat):Int)<4)=false from rfl,aa,V7,d];rfl
def aa3 (l:mf):Prop:=l.1.length=4/\l.2.length=4
def aGz {l:mf}(h:aa3 l)(x:ej):aa3 (jw l x).1:=⟨(awQ l x).1.trans h.1,(awQ l x).2.trans h.2⟩
def ZP {U:Type}{a:List U}{k:Nat}(h:k<a.length)(d:U):aN a (k:Int) d=a[k]:=by rw[la];simp[List.getD,h]
def aJn (x:ej):(x.1,x.2.1,x.2.2.1,x.2.2.2)=x:=rfl
def qJ:mf->List ej->List Int
 |_,[]=>[]|l,x::xs=>(jw l x).2::qJ (jw l x).1 xs
def qU:mf->List ej->mf
 |l,[]=>l|l,x::xs=>qU (jw l x).1 xs
def Xn:∀{xs:List ej} {l:mf},aa3 l->aa3 (qU l xs)
 |[],_,h=>h|x::xs,l,h=>Xn (xs:=xs) (aGz h x)
def Rq:∀(xs:List ej) (l:mf),(qJ l xs).length=xs.length
 |[],_=>rfl|x::xs,l=>by simp[qJ,Rq xs]
def Rr:∀(a b:List ej) (l:mf),qJ l (a++b)=qJ l a++qJ (qU l a) b
 |[],_,_=>rfl|x::a,b,l=>by simp[qJ,qU,Rr a b]
def Wp:∀(a:List ej) (x:ej) (l:mf),qU l (a++[x])=(jw (qU l a) x).1
 |[],_,_=>rfl|y::a,x,l=>by simp[qU,Wp a x]
def aoo {l:mf}(g:aa3 l){list:List ej}(m:list.length<=1048576):wC F0 l list=some (qU l list,qJ l list,()):=by
 rw[amG,aa2 (by have:=g.1;omega) (by have:=g.2;omega),ai];refine cz (fun n i (z:List Int×mf)=>C4 F0 (FI F0) n (ux list i z.1 [] [] z.2.1 z.2.2)) list.length (fun k z=>z.1=qJ l (list.take k)/\z.2=qU l (list.take k)) _ (fun n k z e f=>.inr ⟨(z.1++[(jw z.2 list[k]).2],(jw z.2 list[k]).1),?_,?_⟩) (fun n z f=>?_) F0.n 0 ([],l) (aO _) ⟨rfl,rfl⟩ (by rw[bH];omega)
 .obtain⟨d,c⟩:=f;have h:aa3 z.2:=by rw[c];exact Xn g
  have o:z.1.length<=1048576:=by rw[d,Rq,bC];omega
  rw[JO,aP e,ae,ao e,ad,ZP e]
  try rw[aJn]
  rw[auO (l:=(z.2.1,z.2.2)) (by have:=h.1;show z.2.1.length<=_;omega) (by have:=h.2;show z.2.2.length<=_;omega),ai];simp only;rw[ax (a:=z.1.length) (b:=[(jw (z.2.1,z.2.2) list[k]).2].length) (k:=8) (by omega) (by omega) (by simp only[aW,bj];omega),ad,al (by omega)]
 .obtain⟨d,c⟩:=f;have j:list.take (k+1)=list.take k++[list[k]]:=by rw[Lg,mm e];rfl
  refine⟨?_,?_⟩
  .rw[j,Rr,<-d,<-c];rfl
  .rw[j,Wp,<-c]
 .obtain⟨d,c⟩:=f;rw[k5]at d c;rw[JO,aE,aa,acw,d,c]
def adP:∀{ss:List Ql},(∀s∈ss,auN s)->(ss.flatMap (·.2)).length<=2*ss.length
 |[],_=>by simp
 |s::ss,h=>by
  have b:=(h s py).2.2.1;have c:=adP (ss:=ss) fun x a=>h x (jG _ a)
  rw[List.flatMap_cons,aG,aW];omega
def aCO {l:List UInt8}(f:l.length<=1073741824):vE F0 (tx l)=some ((aZ l).1.flatMap (·.2),()):=by
 rw[aqq,Xm f,ai];have hlen:=qc l;have cW:=Ro l;generalize h:(aZ l).1=ss at hlen cW;refine cz (fun n i xs=>HG F0 (JI F0) n (yA i xs ss)) ss.length (fun k xs=>xs=(ss.take k).flatMap (·.2)) _ (fun n k xs c d=>.inr ⟨_,?_,rfl⟩) (fun n xs d=>?_) F0.n 0 [] (aO _) rfl (by rw[bH];omega)
 .have j:=(cW _ (b2 c)).2.2.1;have e:=adP (ss:=ss.take k) fun x e=>cW x (TY e)
  rw[<-d,bC]at e;rw[LQ,aP c,ae,ao c,ad,ZP c,ax (a:=xs.length) (b:=ss[k].2.length) (k:=32) (by omega) (by omega) (by omega),ad,al (by omega),d];have g:(ss.take (k+1)).flatMap (·.2)=(ss.take k).flatMap (·.2)++ss[k].2:=by rw[show ss.take (k+1)=ss.take k++[ss[k]] by rw[Lg,mm c];rfl,asY];simp
  rw[g]
 .rw[k5]at d;rw[LQ,aE,aa,afh,d]
def hU {V:Type}(X:Nat->Int->Option V)(L:Nat)(p:Nat->Bool)(d e:Option V)(hs:∀n k,k<L->X (n+1) (k:Int)=if p k=true then X n ((k+1:Nat):Int) else e)(g:∀n,X (n+1) (L:Int)=d)(n:Nat)(m:L<n) :
  X n 0=if (List.range L).all p=true then d else e:=by
 refine cz (fun n i (_:Unit)=>X n i) L (fun k _=>∀a,a<k->p a=true) _ (fun n k _ f h=>?_) (fun n _ h=>?_) n 0 () (aO _) (fun a b=>absurd b (RW _)) (by omega)
 .try dsimp only
  rw[hs n k f];by_cases c:p k=true
  .rw[ag c];refine .inr ⟨(),rfl,fun a b=>?_⟩;by_cases j:a=k
   .exact j▸c
   .exact h a (by omega)
  .rw[af c,af]
   .exact .inl rfl
   .intro l;exact c (fq.1 l k (fV.2 f))
 .try dsimp only
  rw[g,ag];exact fq.2 fun a b=>h a (fV.1 b)
def KP {U:Type}(s:List U)(q:U->Bool)(d:U):(List.range s.length).all (fun k=>q (s.getD k d))=s.all q:=by
 rw[Bool.eq_iff_iff,fq,fq];constructor
 .intro h x b;obtain⟨i,a,rfl⟩:=asW.1 b;have:=h i (fV.2 a);simpa [List.getD,a]using this
 .intro h k c;exact h _ (nB (fV.1 c) d)
def aIb (s:List Int)(i:Int):(s.all fun x=> !(x==i))= !decide (i∈s):=by rw[Bool.eq_iff_iff,fq];simp only[Yc,bQ,avT];exact⟨fun h a=>h i a rfl,fun h x b e=>h (e▸b)⟩
def ite_not (b:Bool){U:Type}(x y:U):(if (!b)=true then x else y)=if b=true then y else x:=by cases b<;>rfl
def azp {U:Type}(b:Bool)(x y:U):br b x y=if b=true then x else y:=by cases b<;>rfl
def fg {s:List Int}(h:s.length<=1073741824)(i:Int):cR F0 s i=some (decide (i∈s),()):=by
 rw[amJ,hU (fun n k=>C9 F0 (uD F0) n (uC s i k)) s.length (fun k=> !(s.getD k 0==i)) (some (false,())) (some (true,())) (fun n k a=>?_) (fun n=>?_) _ (by rw[bH];omega),
  KP s (fun x=> !(x==i)),aIb,ite_not]
 .by_cases b:i∈s<;>simp[b]
 .rw[JQ,aP a,ae,ao a,ad,la,al (by omega),ite_not,azp,afo]
 .rw[JQ,aE,aa,acz]
def auQ {s:List Int}(h:s.length<=1073741824)(i:Int):gO F0 s i=some (decide (i∈s),()):=by
 have key:∃a,kt F0 s i=some (a,())/\decide (a>=0)=decide (i∈s):=by
  rw[PE];have:=cz (fun n k (_:Unit)=>iv F0 (gl F0) n (gk s i (s.length:Int) k)) s.length (fun k _=>∀a,a<k->s.getD a 0≠i)
   (some ((if i∈s then ((s.idxOf i:Nat):Int) else -1),())) (fun n k _ f g=>?_) (fun n _ g=>?_) F0.n 0 () (aO _) (fun a c=>absurd c (RW _)) (by rw[bH];omega)
  .refine⟨_,this,?_⟩;by_cases b:i∈s
   .rw[ag b,aI b];exact aI (Int.natCast_nonneg _)
   .rw[af b,aL b];rfl
  .try dsimp only
   rw[o9,aP f,ae,ao f,ad,la,al (by omega),Lf];by_cases d:i=s.getD k 0
   .left;have b:i∈s:=d▸nB f 0;rw[bg.2 d,ae,ag b];have m:s.idxOf i=k:=by
     have j:s.idxOf i<s.length:=List.idxOf_lt_length_of_mem b;have l:s.getD (s.idxOf i) 0=i:=by simp[List.getD,j]
     rcases Nat.lt_trichotomy (s.idxOf i) k with hlt|o|q
     .exact absurd l (g _ hlt)
     .exact o
     .have:=List.not_of_lt_findIdx (p:=(·==i)) (xs:=s) q;have r:s[k]'(by omega)=i:=by rw[d];simp[List.getD,f]
      simp[r]at this
    rw[m]
   .right;rw[bQ.2 d,aa];refine⟨(),rfl,fun a c=>?_⟩;by_cases t:a=k
    .exact fun e=>d (t▸e.symm)
    .exact g a (by omega)
  .try dsimp only
   have b:i ∉ s:=by intro b;obtain⟨a,c,e⟩:=asW.1 b;exact g a c (by simp[List.getD,c,e])
   rw[o9,aE,aa,Kl,af b]
 obtain⟨a,j,l⟩:=key;rw[Km,j,ai,l]
def eM {s:List Int}(h:s.length<=1073741824)(i:Int):dm F0 s i=some (decide (i∈s),()):=by rw[anG,auQ h,ai]
def akG (i:Int):List Int->List Int
 |[]=>[i]|x::l=>if x>=i then i::x::l else x::akG i l
def Qn (s:List Int)(i:Int):List Int:=if i∈s then s else akG i s
def awR (i:Int):∀s:List Int,(akG i s).length=s.length+1
 |[]=>rfl|x::l=>by
  unfold akG;split
  .rfl
  .simp[awR i l]
def aop (s:List Int)(i:Int):(Qn s i).length<=s.length+1:=by
 unfold Qn;split
 .omega
 .rw[awR];exact bf _
def akV {i:Int}:∀{s:List Int} {k:Nat},k<=s.length->(∀a (h:a<s.length),a<k->s[a]<i)->(∀h:k<s.length,¬s[k]<i)->akG i s=s.take k++i::s.drop k
 |[],k,_,_,_=>by simp[akG]
 |x::l,0,_,_,h=>by have:=h (by simp);simp only[List.getElem_cons_zero]at this;unfold akG;rw[ag (by omega)];rfl
 |x::l,k+1,c,b,d=>by have e:=b 0 (by simp) (by omega);simp only[List.getElem_cons_zero]at e;unfold akG;rw[af (by omega),List.take_succ_cons,List.drop_succ_cons,Gi,akV (k:=k) (by simpa using c) (fun a h f=>b (a+1) (by simp only[aW];omega) (by omega)) (fun h=>d (by simp only[aW];omega))]
def Xo {l h n:Nat}(a:l<=h)(b:h<=n):QW (l:Int) (h:Int) (n:Int)=true:=by simp[QW];omega
def aa4 {s:List Int}(h:s.length<=1048576)(i:Int):wD F0 s i=some (Qn s i,()):=by
 rw[amK,fg (by omega),ai];unfold Qn;by_cases c:i∈s
 .rw[aI c,ae,ag c,ax (by omega) (by omega) (by omega),ad];rfl
 .rw[aL c,aa,af c];have fin:∀k:Nat,k<=s.length->(∀a (h:a<s.length),a<k->s[a]<i)->(∀h:k<s.length,¬s[k]<i)->uF F0 (.exit 0) (rz s i (k:Int))=some (akG i s,()):=by
   intro k b g j;rw[acA,show QW 0 (k:Int) (s.length:Int)=true from Xo (l:=0) (aO _) b,ad,gJ,gJ,show(0:Int).toNat=0 from rfl,T0,Bi,k5,
    ax (by omega) (by omega) (by rw[bC];omega),ad,ax (by omega) (by omega) (by rw[bC];simp only[aW,bj];omega),ad,Xo b (bf _),ad,
    ax (by omega) (by omega) (by rw[aG,bC,bc];simp only[aW,bj];omega),ad,akV b g j]
   simp
  refine cz (fun n k (_:Unit)=>Dc F0 (uF F0) n (uE s i k)) s.length (fun k _=>∀a (h:a<s.length),a<k->s[a]<i) _ (fun n k _ b d=>?_) (fun n _ d=>?_) F0.n 0 () (aO _) (fun a _ f=>absurd f (RW _)) (by rw[bH];omega)
  .try dsimp only
   rw[JS,aP b,ae,ao b,ad,ZP b,al (by omega)];by_cases hlt:s[k]<i
   .right;rw[aI hlt,ae];refine⟨(),rfl,fun a f m=>?_⟩;by_cases e:a=k
    .subst e;exact hlt
    .exact d a f (by omega)
   .left;rw[aL hlt,aa];exact fin k (by omega) d (fun _=>hlt)
  .try dsimp only
   rw[JS,aE,aa];exact fin s.length (bf _) d (fun h=>absurd h (T2 _))
def ns {l:List Int}(h:l.length<=1073741824):dP F0 l=some (l,()):=by rw[Cc,ax (by omega) (by omega) (by omega),ad];rfl
def agD {U:Type}(p:U->Bool):∀(l:List U) (j:Nat),(pz p l (j:Int)=-1/\∀x∈l,p x=false)\/∃k,∃h:k<l.length,pz p l (j:Int)=((j+k:Nat):Int)/\p l[k]=true/\∀i (a:i<l.length),i<k->p l[i]=false
 |[],j=>.inl ⟨rfl,by simp⟩
 |x::l,j=>by
  unfold pz;cases b:p x with
  |true=>exact .inr ⟨0,by simp,by simp,by simpa using b,fun i _ a=>absurd a (RW _)⟩
  |false =>
   have e:(j:Int)+1=((j+1:Nat):Int):=by omega
   dsimp only;rw[e];rcases agD p l (j+1) with ⟨c,d⟩|⟨k,g,c,d,m⟩
   .refine .inl ⟨c,fun y f=>?_⟩;rcases cN.1 f with rfl|f
    .exact b
    .exact d y f
   .refine .inr ⟨k+1,by simpa using g,by rw[c];omega,by simpa using d,fun i a n=>?_⟩;cases i with
    |zero=>simpa using b|succ i=>simpa using m i (by simpa using a) (by omega)
def IX {k a b:Nat}(c:k<=a)(d:1<=b)(e:a+b<=1073741824):ahy (k:Int) a b=true:=by unfold ahy;rw[aI (show(0:Int)<=k by omega),aI (show(k:Int)<=a by omega),aI (show(1:Int)<=b by omega),aI (show((a+b:Nat):Int)<=1073741824 by omega)];rfl
def aij {s:List Int}(h:s.length<=1048576)(i:Int):E1 F0 s i=some (Qn s i,()):=by
 rw[anN,eM (by omega),ai];unfold Qn;by_cases c:i∈s
 .rw[aI c,ae,ag c,ns (by omega),ai]
 .rw[aL c,aa,af c];rcases agD (fun e=>geP e i) s 0 with ⟨b,d⟩|⟨k,m,b,d,j⟩
  .have b:pz (fun e=>geP e i) s 0=-1:=b;rw[b,show decide ((-1:Int)<0)=true from rfl,ae,ns (by omega),ai,IX (bf _) (by simp) (by simp only[aW,bj];omega),ad,gJ,
    akV (k:=s.length) (bf _) (fun f g _=>?_) (fun h=>absurd h (T2 _))]
   .simp
   .have:=aeM (d s[f] (b2 g));omega
  .have b:pz (fun e=>geP e i) s 0=((0+k:Nat):Int):=b;rw[we]at b;have d:=k4 d;rw[b,show decide (((k:Nat):Int)<0)=false from aL (by omega),aa,ns (by omega),ai,IX (k:=k) (a:=s.length) (by omega) (by simp) (by simp only[aW,bj];omega),ad,gJ,
    akV (k:=k) (by omega) (fun f g l=>?_) (fun _=>by omega)]
   .simp
   .have:=aeM (j f g l);omega
def eF (lo a x:Int):Bool:=decide (lo<=x)&&decide (x<=a)
def cO (x lo a:Int):bL F0 x lo a=some (eF lo a x,()):=adN x lo a
def bP (x lo a:Int):aY F0 x lo a=some (eF lo a x,()):=Rn x lo a
def iw {U:Type}{l:List U}{k:Nat}(h:k<l.length):l.take (k+1)=l.take k++[l[k]]:=by rw[Lg,mm h];rfl
abbrev b1:=Int×ByteArray×List Int
def bd (l:List UInt8):Bool:=(aZ l).2
def aD (l:List UInt8):Int:=match (aZ l).1.getLast? with|some s=>s.1|none=>0
def Wq {l:List UInt8}(h:(aZ l).2=false):(aZ l).1=[]:=by
 unfold aZ at h ⊢;split
 .rfl
 .rename_i a;rw[af a]at h;split
  .rfl
  .rename_i b;rw[b]at h;dsimp only at h;split
   .rfl
   .rename_i c;rw[af c]at h;split
    .rfl
    .rename_i d;rw[d]at h;cases h
def Rs {l:List UInt8}(h:l.length<=1073741824):eJ F0 (tx l)=some (bd l,()):=by rw[amj,Xm h,ai];rfl
def Nk {l:List UInt8}(h:l.length<=1073741824):eK F0 (tx l)=some (bd l,()):=by rw[ant,Rp h,ai];rfl
def ar7 (ss:List Ql)(f:ss.length<=30)(d:Ql:=(0,[])):br ((ss.length:Int)==0) (some ((0:Int),())) (ck (bO (aj ((ss.length:Int)-1)) (ss.length:Int)) (some ((aN ss (aj ((ss.length:Int)-1)) d).1,())))=some ((match ss.getLast? with|some s=>s.1|none=>0),()):=by
 cases a:ss with
 |nil=>rfl
 |cons s r =>
  rw[<-a];have e:ss.length≠0:=by rw[a];simp
  have b:((ss.length:Int)==0)=false:=bQ.2 (by omega);have c:aj ((ss.length:Int)-1)=((ss.length-1:Nat):Int):=by rw[aF (by omega) (by omega)];omega
  rw[b,aa,c,ao (by omega),ad,ZP (by omega),List.getLast?_eq_getElem?,mm (by omega)]
def aoq {l:List UInt8}(h:l.length<=1073741824):dk F0 (tx l)=some (aD l,()):=by
 rw[amk,Xm h,ai];dsimp only;cases a:(aZ l).2 with
 |true =>
  rw[aH,aa];exact ar7 _ (qc l)
 |false =>
  rw[ea,ae];unfold aD;rw[Wq a];rfl
def aik {l:List UInt8}(h:l.length<=1073741824):ed F0 (tx l)=some (aD l,()):=by rw[anu,Rp h,ai];exact ar7 _ (qc l)
def oq (l:List UInt8):0<=aD l/\aD l<=60:=by
 unfold aD;split
 .rename_i s a;have:=Ro l s (List.mem_of_getLast? a);exact⟨this.1,this.2.1⟩
 .omega
def bw (c:Int×Int):Bool:=eF 4 7 c.1&&eF 1 6 c.2
def hV (c:Int×Int):dB F0 c=some (bw c,()):=by rw[amf,cO,ai,cO,ai];unfold bw;dsimp only;cases eF 4 7 c.1<;>rfl
def fu (c:Int×Int):ec F0 c=some (bw c,()):=by rw[anp,bP,ai,bP,ai];unfold bw;dsimp only;cases eF 4 7 c.1<;>rfl
def b4 {c:Int×Int}(h:bw c=true):4<=c.1/\c.1<=7/\1<=c.2/\c.2<=6:=by unfold bw eF at h;simp only[aA,bR]at h;omega
def awS {n:Int}(a:4<=n)(b:n<=7):1<=Int.tdiv (n-1) 3/\Int.tdiv (n-1) 3<=2:=by
 have:n=4\/n=5\/n=6\/n=7:=by omega
 rcases this with rfl|rfl|rfl|rfl<;>decide
def vY (c:Int×Int):Int:=if bw c=true then Int.tdiv (c.1-1) 3 else 0
def A5 (c:Int×Int):Int:=if bw c=true then c.1-Int.tdiv (c.1-1) 3 else 0
def ail (c:Int×Int):ER F0 c=some (vY c,()):=by
 rw[anv,fu,ai];unfold vY;dsimp only;cases h:bw c with
 |false=>rfl
 |true =>
  have:=b4 h;have a:=awS this.1 this.2.1;have e:aj (c.1-1)=c.1-1:=aF (by omega) (by omega);rw[aH,aa,e,aF (by omega) (by omega),ag rfl]
def aim (c:Int×Int):ES F0 c=some (A5 c,()):=by
 rw[anw,fu,ai,ail,ai];unfold A5 vY;dsimp only;cases h:bw c with
 |false=>rfl
 |true =>
  have:=b4 h;have a:=awS this.1 this.2.1;rw[aH,aa,ag rfl,ag rfl,aF (by omega) (by omega)]
def aa5 (c:Int×Int):wy F0 c=some (A5 c,()):=by
 rw[aml,hV,ai];unfold A5;dsimp only;cases h:bw c with
 |false=>rfl
 |true =>
  have:=b4 h;have a:=awS this.1 this.2.1;have e:aj (c.1-1)=c.1-1:=aF (by omega) (by omega);rw[aH,aa,e,aF (n:=Int.tdiv (c.1-1) 3) (by omega) (by omega),aF (by omega) (by omega),ag rfl]
def jI (n:Int)(s:List Int):Bool:=(List.range s.length).all fun k=>decide (0<=s.getD k 0)&&(decide (s.getD k 0<n)&&(decide (k=0) || decide (s.getD (k-1) 0<s.getD k 0)))
def Rt {V:Type}{n:Int}{s:List Int}{k:Nat}(g:k<s.length)(x y:Option V) :
  br (decide (s.getD k 0<0)) x (br (decide (s.getD k 0>=n)) x (br (decide ((k:Int)>0)) (br (decide (s.getD (k-1) 0>=s.getD k 0)) x y) y)) =
  if (decide (0<=s.getD k 0)&&(decide (s.getD k 0<n)&&(decide (k=0) || decide (s.getD (k-1) 0<s.getD k 0))))=true then y else x:=by
 generalize s.getD k 0=a;generalize s.getD (k-1) 0=b;by_cases c:a<0
 .rw[aI c,ae,aL (show ¬0<=a by omega)];rfl
 .rw[aL c,aa,aI (show 0<=a by omega),eS];by_cases d:a>=n
  .rw[aI d,ae,aL (show ¬a<n by omega)];rfl
  .rw[aL d,aa,aI (show a<n by omega),eS];by_cases e:k=0
   .subst e;rfl
   .rw[aI (show(k:Int)>0 by omega),ae,aL e,wc];by_cases f:b>=a
    .rw[aI f,ae,aL (show ¬b<a by omega)];rfl
    .rw[aL f,aa,aI (show b<a by omega)];rfl
def KQ {k:Nat}(a:0<k)(h:k<=9223372036854775807):aj ((k:Int)-1)=((k-1:Nat):Int):=by rw[aF (by omega) (by omega)];omega
def agE {s:List Int}(h:s.length<=1073741824)(n:Int):BM F0 n s=some (jI n s,()):=by
 rw[aql,hU (fun m k=>ya F0 (yb F0) m (pF n s k)) s.length (fun k=>decide (0<=s.getD k 0)&&(decide (s.getD k 0<n)&&(decide (k=0) || decide (s.getD (k-1) 0<s.getD k 0)))) (some (true,())) (some (false,())) (fun m k a=>?_) (fun m=>?_) _ (by rw[bH];omega)]
 .show(if jI n s=true then _ else _)=_;cases jI n s<;>rfl
 .rw[Lw,aP a,ae,ao a,ad,la,ai0,ad,al (by omega)];by_cases b:k=0
  .subst b;rw[<-Rt a];rfl
  .rw[KQ (by omega) (by omega),ao (show k-1<s.length by omega),ad,ad,la,<-Rt a]
 .rw[Lw,aE,aa,ae8]
def aa6 {s:List Int}(h:s.length<=1073741824)(n:Int):vJ F0 n s=some (jI n s,()):=by
 rw[aqG,hU (fun m k=>Ab F0 (Ac F0) m (pU n s s (s.length:Int) k)) s.length (fun k=>decide (0<=s.getD k 0)&&(decide (s.getD k 0<n)&&(decide (k=0) || decide (s.getD (k-1) 0<s.getD k 0)))) (some (true,())) (some (false,())) (fun m k a=>?_) (fun m=>?_) _ (by rw[bH];omega)]
 .show(if jI n s=true then _ else _)=_;cases jI n s<;>rfl
 .rw[Mt,aP a,ae,ao a,ad,la,ajZ,al (by omega)];by_cases b:k=0
  .subst b;rw[<-Rt a];rfl
  .rw[KQ (by omega) (by omega),ao (show k-1<s.length by omega),ad,la,<-Rt a]
 .rw[Mt,aE,aa,afN]
def agF {a b:List Int}(h:a.length<=1073741824):gz F0 a b=some (decide (a=b),()):=by
 rw[Pt];by_cases d:a.length=b.length
 .have e:((a.length:Int) != (b.length:Int))=false:=by rw[d];exact ale (b.length:Int)
  rw[e,aa,hU (fun m k=>il F0 (gj F0) m (gi a b (a.length:Int) k)) a.length (fun k=>a.getD k 0==b.getD k 0) (some (true,())) (some (false,())) (fun m k f=>?_) (fun m=>?_) _ (by rw[bH];omega)]
  .by_cases c:a=b
   .rw[aI c,ag (fq.2 fun k _=>by rw[c];exact Ye (b.getD k 0))]
   .rw[aL c,af];intro j;refine c (List.ext_getElem d fun k g l=>?_);have:=fq.1 j k (fV.2 g);simpa [List.getD,g,l]using this
  .rw[o5,aP f,ae,ao f,ad,ao (d▸f),ad,la,la,Ld,al (by omega),azp];by_cases i:a.getD k 0=b.getD k 0
   .simp[i]
   .simp[i]
  .rw[o5,aE,aa,J8]
 .have e:((a.length:Int) != (b.length:Int))=true:=Er.2 (by omega);rw[e,ae,aL (fun c=>d (by rw[c]))]
def X9 (c:Int×Int)(q:Int×List UInt8×List Int):Bool:=bw c&&(bd q.2.1&&(decide (aD q.2.1=q.1)&&(if q.2.1=[] then decide (q.2.2=[]) else jI c.1 q.2.2&&decide ((q.2.2.length:Int)>=A5 c))))
def auR:ak=tx []:=rfl
def aor {q:b1}(h:q.2.2.length<=1073741824):gD F0 q=some (q,()):=by rw[anF,ns h,ai]
def azq {v c:Int}{a b:List UInt8}{s t:List Int}(h:s.length<=1073741824):iE F0 (v,tx a,s) (c,tx b,t)=some ((v==c)&&(decide (a=b)&&decide (s=t)),()):=by rw[Vt];dsimp only;rw[Qh,agF h,ai];cases (v==c)<;>cases decide (a=b)<;>rfl
def awT {v:Int}{l:List UInt8}{s:List Int}(d:l.length<=1073741824)(hs:s.length<=1073741824)(c:Int×Int):jQ F0 c (v,tx l,s)=some (X9 c (v,l,s),()):=by
 rw[atZ,hV,ai];unfold X9;dsimp only;rw[Rs d,ai,aoq d,ai,agE hs,ai,aa5,ai,auR,Qh];cases bw c with
 |false=>rfl
 |true =>
  cases bd l with
  |false=>rfl
  |true =>
   by_cases a:aD l=v
   .rw[aI a,show(aD l != v)=false by rw[a];exact ale v];by_cases b:l=[]
    .rw[aI b,ag b];cases s with
     |nil=>rfl|cons x r=>rfl
    .rw[aL b,af b];cases jI c.1 s<;>rfl
   .rw[aL a,show(aD l != v)=true from Er.2 a];rfl
def aCP {c:UInt8}{l:List UInt8}(h:parts c l=[[]]):l=[]:=by
 cases l with
 |nil=>rfl
 |cons x l =>
  unfold parts at h;split at h
  .exact absurd (s6 h).2 (Fe c l)
  .split at h
   .cases (s6 h).1
   .cases (s6 h).1
def awU {σ V:Type}{f:σ->List UInt8->Option (σ×V)}{I:σ->Prop}{Q:V->Prop}(e:∀s p a b,I s->f s p=some (a,b)->Q b/\I a):∀{l:List (List UInt8)} {s:σ} {r:List V},I s->sY f s l=some r->∀b∈r,Q b
 |[],s,r,_,h,b,hb=>by cases h;cases hb
 |p::l,s,r,g,h,b,hb=>by
  unfold sY at h;cases c:f s p with
  |none=>rw[c]at h;cases h
  |some x =>
   obtain⟨a,i⟩:=x;rw[c]at h;obtain⟨j,k⟩:=e s p a i g c;dsimp only at h;cases d:sY f a l with
   |none=>rw[d]at h;cases h
   |some m =>
    rw[d]at h;cases h;rcases cN.1 hb with rfl|hb
    .exact j
    .exact awU e k d b hb
def auS {l:List UInt8}:∀s∈(aZ l).1,1<=s.1:=by
 unfold aZ;split
 .simp
 .split
  .simp
  .split
   .simp
   .split
    .simp
    .rename_i d;refine awU (I:=fun s=>0<=s) (Q:=fun b=>1<=b.1) (fun s p e b f a=>?_) (by omega) d;obtain⟨g,h⟩:=Wm a;unfold sP at a;split at a
     .rename_i c;cases a;exact⟨by have:=c.2.2.2.1;show 1<=_;omega,by have:=c.2.2.2.1;omega⟩
     .cases a
def azr {l:List UInt8}(h:bd l=true)(c:l≠[]):(aZ l).1≠[]:=by
 unfold bd at h;unfold aZ at h ⊢;rw[af c]at h ⊢;cases b:parts 47 l with
 |nil=>rw[b]at h;cases h
 |cons g d =>
  rw[b]at h;dsimp only at h ⊢;split
  .rename_i a;rw[ag a]at h;cases h
  .rename_i a;rw[af a]at h;have i:g=[]:=avS fun j=>a (.inl j)
   cases e:sY sP 0 d with
   |none=>rw[e]at h;cases h
   |some r =>
    dsimp only;intro k;have f:=Qk e;rw[k]at f;have:d=[]:=Ya f.symm;subst this i;exact c (aCP b)
def aos {l:List UInt8}(h:bd l=true)(b:l≠[]):1<=aD l:=by
 have c:=azr h b;unfold aD;cases a:(aZ l).1.getLast? with
 |none=>exact absurd (List.getLast?_eq_none_iff.1 a) c|some s=>exact auS s (List.mem_of_getLast? a)
def aot:aD []=0:=rfl
def aou:bd []=true:=rfl
def aEE (c:Int×Int)(v:Int)(l:List UInt8)(s:List Int) :
  (bw c&&(((v==0)&&(decide (l=[])&&decide (s=[]))) || (decide (v>=1)&&(bd l&&((v==aD l)&&(jI c.1 s&&decide ((s.length:Int)>=A5 c)))))))=X9 c (v,l,s):=by
 unfold X9;dsimp only;cases e:bw c with
 |false=>rfl
 |true =>
  rw[eS,eS];by_cases b:l=[]
  .subst b;rw[aot,aou,ag rfl,aI rfl,eS,eS,eS];by_cases a:v=0
   .subst a;rw[Ye,aI rfl,aL (show ¬(0:Int)>=1 by omega),Yg,alm]
   .rw[bQ.2 a,aL (show ¬(0:Int)=v from fun h=>a h.symm)];simp
  .rw[aL b,Yg,abF,wc,af b];cases d:bd l with
   |false=>rw[Yg,Yg,abF]
   |true =>
    have:=aos d b;by_cases a:v=aD l
    .rw[aI (show v>=1 by omega),bg.2 a,aI a.symm];rfl
    .rw[bQ.2 a,aL (show ¬aD l=v from fun h=>a h.symm)];simp
def ar8 {v:Int}{l:List UInt8}{s:List Int}(a:l.length<=1073741824)(hs:s.length<=1073741824)(c:Int×Int):lR F0 c (v,tx l,s)=some (X9 c (v,l,s),()):=by rw[<-aEE,auj,fu,ai,S0,ai];dsimp only;rw[auR,azq hs,ai,Nk a,ai,aik a,ai,aa6 hs,ai,aim,ai];dsimp only;generalize bd l=b;generalize aD l=d;generalize jI c.1 s=e;generalize decide ((s.length:Int)>=A5 c)=f;generalize decide (v>=1)=g;generalize ((v==0)&&(decide (l=[])&&decide (s=[])))=h;generalize (v==d)=i;cases bw c<;>cases b<;>cases e<;>cases f<;>cases g<;>cases h<;>cases i<;>rfl
def Wr (c:Int×Int)(p:Int×List UInt8×List Int):Option (Int×List UInt8×List Int):=if p.2.1≠[]/\X9 c p=true then some p else none
def aBJ (o:Option (Int×List UInt8×List Int)):b1×Bool:=match o with
 |some q=>((q.1,tx q.2.1,q.2.2),true)|none=>((0,tx [],[]),false)
def azs {v:Int}{l:List UInt8}{s:List Int}(b:l.length<=1073741824)(hs:s.length<=1073741824)(c:Int×Int):EJ F0 c (v,tx l,s)=some ((aBJ (Wr c (v,l,s))).1,(aBJ (Wr c (v,l,s))).2,()):=by
 rw[amP];dsimp only;rw[ax (by omega) (by omega) (by omega),ad,auR,Qh,Bi,awT b hs,ai];unfold Wr;dsimp only;by_cases a:l=[]
 .rw[aI a,ae,af (fun h=>h.1 a)];rfl
 .rw[aL a,aa];cases d:X9 c (v,l,s) with
  |true=>rw[ag ⟨a,rfl⟩];rfl|false=>rw[af (fun h=>by cases h.2)];rfl
def aCQ {c:Int×Int}{v:Int}{l:List UInt8}{s:List Int}(h:X9 c (v,l,s)=true):(v==0)=decide (l=[]):=by
 unfold X9 at h;simp only[aA,bR]at h;obtain⟨_,b,d,_⟩:=h;by_cases a:l=[]
 .subst a;rw[<-d];rfl
 .have:=aos b a;rw[aL a];exact bQ.2 (by omega)
def awV {v:Int}{l:List UInt8}{s:List Int}(b:l.length<=1073741824)(hs:s.length<=1073741824)(c:Int×Int):E4 F0 c (v,tx l,s)=some ((aBJ (Wr c (v,l,s))).1,(aBJ (Wr c (v,l,s))).2,()):=by
 rw[anP,aor (q:=(v,tx l,s)) hs,ai];dsimp only;rw[ar8 b hs,ai];unfold Wr;dsimp only;cases d:X9 c (v,l,s) with
 |false=>rw[af (fun h=>by cases h.2)];rfl
 |true =>
  rw[aH,aa,aCQ d];by_cases a:l=[]
  .rw[aI a,ae,af (fun h=>h.1 a)];rfl
  .rw[aL a,aa,ag ⟨a,rfl⟩];rfl
def bY (c:Int×Int)(view:Int):Int:=if bw c=true/\0<=view then view%c.1 else -1
def Ws (c:Int×Int)(view s:Int):Int:=if bw c=true/\0<=view/\0<=s/\s<=c.1-1 then (view%c.1+s)%c.1 else -1
def bK (c:Int×Int)(view i:Int):Int:=if bw c=true/\0<=view/\0<=i/\i<=c.1-1 then (i+c.1-view%c.1)%c.1 else -1
def Qo (c:Int×Int)(view i:Int):Int:=if bK c view i<=0 then -1 else Ws c view ((bK c view i-1)/c.2)
def tJ {a b:Int}(h:0<=a):Int.tmod a b=a%b:=ak8 h
def ne0 {n:Int}(h:4<=n):(!(n==0))=true:=by rw[bQ.2 (show n≠0 by omega)];rfl
def akW {lo a x:Int}:eF lo a x=decide (lo<=x/\x<=a):=by unfold eF;by_cases b:lo<=x<;>by_cases c:x<=a<;>simp[b,c]
def auT {n:Int}(a:4<=n)(view:Int):0<=view%n/\view%n<n:=⟨ahj _ (by omega),ala _ (by omega)⟩
def KR (c:Int×Int)(view:Int):lF F0 c view=some (bY c view,()):=by
 rw[at1,hV,ai];unfold bY;cases b:bw c with
 |false=>rfl
 |true =>
  have d:=b4 b;by_cases a:view<0
  .rw[aI a,af (fun h=>by omega)];rfl
  .rw[aL a,aH,aa,aa,ne0 d.1,ad,ag ⟨rfl,by omega⟩,tJ (by omega)]
def IY (c:Int×Int)(view:Int):sj F0 c view=some (bY c view,()):=by
 rw[aut,fu,ai];unfold bY;cases b:bw c with
 |false=>rfl
 |true =>
  have d:=b4 b;by_cases a:view<0
  .rw[aI a,af (fun h=>by omega)];rfl
  .rw[aL a,aH,aa,aa,ne0 d.1,ad,ag ⟨rfl,by omega⟩,tJ (by omega)]
def Wt {n:Int}(a:4<=n)(b:n<=7):aj (n-1)=n-1:=aF (by omega) (by omega)
def aEF (c:Int×Int)(view s:Int):W9 F0 c view s=some (Ws c view s,()):=by
 rw[at5,hV,ai];unfold Ws;cases f:bw c with
 |false=>rfl
 |true =>
  have d:=b4 f;have g:=auT d.1 view;by_cases e:view<0
  .rw[aI e,af (fun h=>by omega)];rfl
  .rw[aL e,aH,aa,aa,cO,ai,Wt d.1 d.2.1,akW];by_cases b:0<=s/\s<=c.1-1
   .rw[aI b,aH,aa,ne0 d.1,ad,ad,ag ⟨rfl,by omega,b.1,b.2⟩,tJ (a:=view) (by omega),aF (by omega) (by omega),tJ (by omega)]
   .rw[aL b,af (fun h=>b ⟨h.2.2.1,h.2.2.2⟩)];rfl
def aCR (c:Int×Int)(view s:Int):Xh F0 c view s=some (Ws c view s,()):=by
 rw[auw,fu,ai];unfold Ws;cases f:bw c with
 |false=>rfl
 |true =>
  have d:=b4 f;have g:=auT d.1 view;by_cases e:view<0
  .rw[aI e,af (fun h=>by omega)];rfl
  .rw[aL e,aH,aa,aa,bP,ai,Wt d.1 d.2.1,akW];by_cases b:0<=s/\s<=c.1-1
   .rw[aI b,aH,aa,ne0 d.1,ad,ad,ag ⟨rfl,by omega,b.1,b.2⟩,tJ (a:=view) (by omega),aF (by omega) (by omega),tJ (by omega)]
   .rw[aL b,af (fun h=>b ⟨h.2.2.1,h.2.2.2⟩)];rfl
def Wu (c:Int×Int)(view i:Int):IT F0 c view i=some (bK c view i,()):=by
 rw[at4,hV,ai];unfold bK;cases f:bw c with
 |false=>rfl
 |true =>
  have d:=b4 f;have g:=auT d.1 view;by_cases e:view<0
  .rw[aI e,af (fun h=>by omega)];rfl
  .rw[aL e,aH,aa,aa,cO,ai,Wt d.1 d.2.1,akW];by_cases b:0<=i/\i<=c.1-1
   .rw[aI b,aH,aa,ne0 d.1,ad,ad,ag ⟨rfl,by omega,b.1,b.2⟩,tJ (a:=view) (by omega),aF (n:=i+c.1) (by omega) (by omega),aF (by omega) (by omega),tJ (by omega)]
   .rw[aL b,af (fun h=>b ⟨h.2.2.1,h.2.2.2⟩)];rfl
def IZ (c:Int×Int)(view i:Int):IU F0 c view i=some (bK c view i,()):=by
 rw[auv,fu,ai];unfold bK;cases f:bw c with
 |false=>rfl
 |true =>
  have d:=b4 f;have g:=auT d.1 view;by_cases e:view<0
  .rw[aI e,af (fun h=>by omega)];rfl
  .rw[aL e,aH,aa,aa,bP,ai,Wt d.1 d.2.1,akW];by_cases b:0<=i/\i<=c.1-1
   .rw[aI b,aH,aa,ne0 d.1,ad,ad,ag ⟨rfl,by omega,b.1,b.2⟩,tJ (a:=view) (by omega),aF (n:=i-view%c.1) (by omega) (by omega),aF (by omega) (by omega),tJ (by omega),
     show i-view%c.1+c.1=i+c.1-view%c.1 by omega]
   .rw[aL b,af (fun h=>b ⟨h.2.2.1,h.2.2.2⟩)];rfl
def Xp (c:Int×Int)(view i:Int):-1<=bK c view i/\bK c view i<=6:=by
 unfold bK;split
 .rename_i h;have a:=b4 h.1;have b:=ahj (i+c.1-view%c.1) (show c.1≠0 by omega);have d:=ala (i+c.1-view%c.1) (show 0<c.1 by omega);omega
 .omega
def ain {c:Int×Int}{view i:Int}(h:0<=bK c view i):bw c=true:=by
 unfold bK at h;split at h
 .rename_i a;exact a.1
 .omega
def aEG {a b:Int}(c:0<=a)(d:a<=6)(e:1<=b):0<=a/b/\a/b<=6:=⟨Int.ediv_nonneg c (by omega),aeO (Int.ediv_le_self b c) d⟩
def aEH (c:Int×Int)(view i:Int):Xa F0 c view i=some (Qo c view i,()):=by
 rw[azi,Wu,ai];unfold Qo;have f:=Xp c view i;by_cases d:bK c view i<=0
 .rw[aI (show(bK c view i,()).1<=0 from d),ae,ag d]
 .have e:=b4 (ain (c:=c) (view:=view) (i:=i) (by omega));have g:=aEG (a:=bK c view i-1) (b:=c.2) (by omega) (by omega) e.2.2.1;rw[aL (show ¬(bK c view i,()).1<=0 from d),aa,af d,show(!(c.2==0))=true by rw[bQ.2 (show c.2≠0 by omega)];rfl,ad];dsimp only;rw[aF (n:=bK c view i-1) (by omega) (by omega),ak9 (show 0<=bK c view i-1 by omega),aF (by omega) (by omega),aEF,ai]
def aBK (c:Int×Int)(view i:Int):Xi F0 c view i=some (Qo c view i,()):=by
 rw[azj,IZ,ai];unfold Qo;have f:=Xp c view i;by_cases d:bK c view i<=0
 .rw[aI (show(bK c view i,()).1<1 by show bK c view i<1;omega),ae,ag d]
 .have e:=b4 (ain (c:=c) (view:=view) (i:=i) (by omega));have g:=aEG (a:=bK c view i-1) (b:=c.2) (by omega) (by omega) e.2.2.1;rw[aL (show ¬(bK c view i,()).1<1 by show ¬bK c view i<1;omega),aa,af d,show(!(c.2==0))=true by rw[bQ.2 (show c.2≠0 by omega)];rfl,ad];dsimp only;rw[aF (n:=bK c view i-1) (by omega) (by omega),ak9 (show 0<=bK c view i-1 by omega),aF (by omega) (by omega),aCR,ai]
def adQ (a b:List Int):List Int:=b.foldl Qn (a.foldl Qn [])
def mg:∀(l a:List Int),(l.foldl Qn a).length<=a.length+l.length
 |[],a=>by simp
 |x::l,a=>by have b:=mg l (Qn a x);have c:=aop a x;rw[as1,aW];omega
def aCS (a b:List Int):(adQ a b).length<=a.length+b.length:=by unfold adQ;have d:=mg b (a.foldl Qn []);have c:=mg a [];rw[bj]at c;omega
def Xq {γ:Type}(X:Nat->Int->List Int->Option γ)(l a:List Int)(R:Option γ)(e:a.length+l.length<=1048576)(hs:∀n k xs (h:k<l.length),xs.length<=1048575->X (n+1) (k:Int) xs=X n ((k+1:Nat):Int) (Qn xs l[k]))
  (c:∀n,X (n+1) (l.length:Int) (l.foldl Qn a)=R) (n:Nat) (d:l.length<n):X n 0 a=R:=by
 refine cz X l.length (fun k xs=>xs=(l.take k).foldl Qn a) R (fun n k xs b h=>.inr ⟨Qn xs l[k],hs n k xs b ?_,?_⟩) (fun n xs h=>?_) n 0 a (aO _) rfl (by omega)
 .have:=mg (l.take k) a;rw[h];rw[bC]at this;omega
 .rw[iw b,List.foldl_append,<-h];rfl
 .rw[k5]at h;rw[h];exact c n
def awW {a b:List Int}(h:a.length+b.length<=1048576):HO F0 a b=some (adQ a b,()):=by
 rw[ajB];have d:=mg a [];rw[bj]at d;refine Xq (fun n i xs=>yP F0 (B6 F0) n (rF a b i xs)) a [] _ (by rw[bj];omega) (fun n k xs c e=>?_) (fun n=>?_) _ (by rw[bH];omega)
 .rw[GB,aP c,ae,ao c,ad,a8 c,aa4 (by omega),ai,al (by omega)]
 .rw[GB,aE,aa,aaA];refine Xq (fun n i xs=>yO F0 (B5 F0) n (rE b i xs)) b (a.foldl Qn []) _ (by omega) (fun n k xs c e=>?_) (fun n=>?_) _ (by rw[bH];omega)
  .rw[GA,aP c,ae,ao c,ad,a8 c,aa4 (by omega),ai,al (by omega)]
  .rw[GA,aE,aa,aaz];rfl
def auU {a b:List Int}(h:a.length+b.length<=1048576):Ik F0 a b=some (adQ a b,()):=by
 rw[akq];have d:=mg a [];rw[bj]at d;refine Xq (fun n i xs=>AJ F0 (Cr F0) n (sh b a (a.length:Int) i xs)) a [] _ (by rw[bj];omega) (fun n k xs c e=>?_) (fun n=>?_) _ (by rw[bH];omega)
 .rw[G1,aP c,ae,ao c,ad,a8 c,aij (by omega),ai,al (by omega)]
 .rw[G1,aE,aa,aaU];refine Xq (fun n i xs=>AI F0 (Cq F0) n (sg b (b.length:Int) i xs)) b (a.foldl Qn []) _ (by omega) (fun n k xs c e=>?_) (fun n=>?_) _ (by rw[bH];omega)
  .rw[G0,aP c,ae,ao c,ad,a8 c,aij (by omega),ai,al (by omega)]
  .rw[G0,aE,aa,aaT];rfl
def k2 {i n:Int}(a:0<=i)(h:i<n):bO i n=true:=by simp[bO];omega
end Go.Am.Tryz
