/- No condition. -/
import Derived.Test.YtaheoongenkdbaaGreatDoorQsXJL5
set_option linter.all false
namespace Go.Am.Tryz
open Go.Am
def aqy {l:ie}:Eg l=true↔l.1.length=4/\l.2.length=4/\(∀x∈l.1,0<=x/\x<=400)/\∀x∈l.2,0<=x/\x<=100:=by
 constructor
 .exact ZL
 .rintro⟨a,b,d,e⟩;simp only[Eg,inB,aD,bV,hD];exact⟨a,b,d,e⟩
def atd:∀(l:List Int) (i:Nat) (h:i<l.length) (v:Int),(l.set i v).sum=l.sum-l[i]+v
 |x::l,0,_,v=>by simp only[List.set_cons_zero,YL,avM];omega
 |x::l,i+1,h,v=>by have:=atd l i (by simpa using h) v;simp only[List.set_cons_succ,YL,List.getElem_cons_succ];omega
def adv {l:List Int}{i:Int}(a:0<=i)(h:i.toNat<l.length):ay l i 0=l[i.toNat]:=aY h 0
structure aEF (l:ie) (x:dU):Prop where
 lo:Eg l=true
 xo:fB x=true
 n:x.2.2.2=ay l.2 x.1 0
 r:(eE l x).1.2=l.2.set x.1.toNat (x.2.2.2+1)
 k:Eg (eE l x).1=true
 s:(eE l x).1.1.sum=l.1.sum
def aAr {l:ie}{x:dU}(h:amR (eE l x).2=true):aEF l x:=by
 by_cases j:Eg l=true/\fB x=true
 .obtain⟨a,b⟩:=j;obtain⟨⟨f0,f1⟩,⟨t0,t1⟩,⟨m0,m1⟩,⟨t,u⟩⟩:=nJ b;obtain⟨o,p,q,s⟩:=aqy.1 a;have k:x.1.toNat<l.1.length:=by omega
  have v:x.1.toNat<l.2.length:=by omega
  by_cases d:x.2.2.2<ay l.2 x.1 0
  .have e:eE l x=(l,2):=by unfold eE;rw[ah ⟨a,b⟩,ah d]
   rw[e]at h;cases h
  .by_cases f:x.2.2.2>ay l.2 x.1 0
   .have e:eE l x=(l,3):=by unfold eE;rw[ah ⟨a,b⟩,af d,ah f]
    rw[e]at h;cases h
   .have m:x.2.2.2=ay l.2 x.1 0:=by omega
    by_cases g:x.2.2.1>ay l.1 x.1 0
    .have e:eE l x=((l.1,l.2.set x.1.toNat (x.2.2.2+1)),4):=by unfold eE;rw[ah ⟨a,b⟩,af d,af f,ah g]
     refine⟨a,b,m,by rw[e],?_,by rw[e]⟩;rw[e];refine aqy.2 ⟨o,by dsimp only;rw[Nd];exact p,q,?_⟩;exact asr (lo:=0) (hi:=100) s (by omega)
    .by_cases i:Eg ((l.1.set x.1.toNat (ay l.1 x.1 0-x.2.2.1)).set x.2.1.toNat (ay (l.1.set x.1.toNat (ay l.1 x.1 0-x.2.2.1)) x.2.1 0+x.2.2.1),l.2.set x.1.toNat (x.2.2.2+1))=true
     .have e:eE l x=(((l.1.set x.1.toNat (ay l.1 x.1 0-x.2.2.1)).set x.2.1.toNat (ay (l.1.set x.1.toNat (ay l.1 x.1 0-x.2.2.1)) x.2.1 0+x.2.2.1),l.2.set x.1.toNat (x.2.2.2+1)),0):=by unfold eE;rw[ah ⟨a,b⟩,af d,af f,af g,ah i]
      have n:x.2.1.toNat<(l.1.set x.1.toNat (ay l.1 x.1 0-x.2.2.1)).length:=by rw[Nd];omega
      refine⟨a,b,m,by rw[e],by rw[e];exact i,?_⟩;rw[e];dsimp only;rw[atd _ _ n,adv t0 n,atd _ _ k];have w:=adv f0 k;omega
     .have e:eE l x=(l,1):=by unfold eE;rw[ah ⟨a,b⟩,af d,af f,af g,af i]
      rw[e]at h;cases h
 .have e:eE l x=(l,1):=by unfold eE;rw[af j]
  rw[e]at h;cases h
def aAs {l:ie}{x:dU}(i:Int)(hi:0<=i)(g:l.2.length=4)(h:i<=3):ay l.2 i 0<=ay (eE l x).1.2 i 0:=by
 cases d:amR (eE l x).2 with
 |false=>rw[aqg d];exact QL _
 |true =>
  have a:=aAr d;obtain⟨⟨f0,f1⟩,_⟩:=nJ a.xo;rw[a.r];by_cases e:x.1=i
  .subst e;have b:x.1.toNat<(l.2.set x.1.toNat (x.2.2.2+1)).length:=by rw[Nd];omega
   rw[adv hi b,List.getElem_set_self,a.n];omega
  .have b:i.toNat<(l.2.set x.1.toNat (x.2.2.2+1)).length:=by rw[Nd];omega
   have f:i.toNat<l.2.length:=by omega
   rw[adv hi b,adv hi f,List.getElem_set_ne (by omega)];exact QL _
def avF:∀(xs:List dU) {l:ie} (i:Int),0<=i->i<=3->M4 l->ay l.2 i 0<=ay (ho l xs).2 i 0
 |[],_,_,_,_,_=>QL _|x::xs,l,i,a,b,d=>Int.le_trans (aAs i a d.2 b) (avF xs i a b (aBA d x))
def anD:∀(a b:List dU) (l:ie),ho l (a++b)=ho (ho l a) b
 |[],_,_=>rfl|x::a,b,l=>anD a b _
section
variable {c:Int×Int} {r:aA}
end
abbrev Nm:=List UInt8
def Anc (t s:Nm):Prop:=s=t\/∃r,s=t++47::r
def aEG {s:Nm}(h:bw s=true):Anc (SM s) s:=by
 by_cases a:s=[]
 .subst a;exact .inl rfl
 .obtain⟨t,_,e⟩:=Vk h a;exact .inr ⟨t,e⟩
def aCp {a b s:Nm}(f:Anc a s)(j:Anc b s)(h:a.length<=b.length):Anc a b:=by
 rcases j with rfl|⟨q,rfl⟩
 .exact f
 .rcases f with e|⟨r,e⟩
  .have:=ve List.length e;rw[aL,aV]at this;omega
  .by_cases k:a.length=b.length
   .have:=List.append_inj_left e k.symm;exact .inl this
   .refine .inr ⟨b.drop (a.length+1),?_⟩;have g:(b++47::q).take a.length=a:=by rw[e];exact List.take_left
    have d:(b++47::q)[a.length]?=some 47:=by rw[e];simp
    rw[List.take_append_of_le_length h]at g;rw[List.getElem?_append_left (by omega)]at d;obtain⟨l,d⟩:=u9.1 d;have i:=ao8 a.length b;rw[QG l,d,g]at i;exact i.symm
def aCq {s t:ByteArray}(h:aiZ s t=true):bw s.data.toList=true/\bw t.data.toList=true/\Anc t.data.toList s.data.toList:=by
 have n:s.size=s.data.toList.length:=rfl;have e:t.size=t.data.toList.length:=rfl;unfold aiZ at h;simp only[aD,ju,bV]at h;obtain⟨j,k,o,f,a⟩:=h;refine⟨j,k,?_⟩;have g:=Mi s.data.toList 0 t.data.toList.length;rw[aam,SR,<-QO]at g;have b:s.data.toList.take t.data.toList.length=t.data.toList:=by have:=Pc (s.data.toList.take t.data.toList.length) t.data.toList;rw[<-g,<-QO]at this;rw[e]at f;exact lT (this.symm.trans f)
 rcases a with a|a
 .have:=eq_of_beq a;refine .inl ?_;rw[<-b,ajq (by omega)]
 .rcases QJ t.data.toList.length s.data.toList.length with hlt|l
  .refine .inr ⟨s.data.toList.drop (t.data.toList.length+1),?_⟩;have d:=ao8 t.data.toList.length s.data.toList;rw[QG hlt,b]at d;have i:iq s (t.size:Int)=47:=eq_of_beq a;unfold iq at i;rw[kC,e,SN,lS hlt,Option.getD_some]at i;have m:s.data.toList[t.data.toList.length]=47:=aqG.1 (by rw[show(47:UInt8).toNat=47 from rfl];omega);rw[m]at d;exact d.symm
  .refine .inl ?_;rw[<-b,ajq l]
def aDH {a s:Nm}(d:bw s=true)(h:Anc a s)(f:a≠s):s≠[]/\Anc a (SM s):=by
 have g:s≠[]:=fun e=>by
  subst e;rcases h with h|⟨r,h⟩
  .exact f h.symm
  .simp at h
 refine⟨g,?_⟩;have i:a.length<=(SM s).length:=by
  rcases h with h|⟨r,h⟩
  .exact absurd h.symm f
  .rcases QJ (SM s).length a.length with hlt|j
   .exfalso;obtain⟨t,l,e⟩:=Vk d g;have b:s[a.length]?=some 47:=by rw[h];simp
    rw[e,List.getElem?_append_right (by omega)]at b;have m:(47::t)[a.length-(SM s).length]?=t[a.length-(SM s).length-1]?:=by obtain⟨k,n⟩:∃k,a.length-(SM s).length=k+1:=⟨a.length-(SM s).length-1,by omega⟩;rw[n];simp
    rw[m]at b;exact l (ajt b)
   .exact j
 exact aCp h (aEG d) i
def aAt (s:Nm):List dU:=(bO s).1.flatMap (·.2)
def aCr {a s:Nm}(b:bw s=true)(h:Anc a s)(i:Int)(f:0<=i)(g:i<=3):ay (ho aiY (aAt a)).2 i 0<=ay (ho aiY (aAt s)).2 i 0:=by
 generalize j:s.length=n
 induction n using Nat.strongRecOn generalizing s with
 |_ n k =>
  subst j;by_cases d:a=s
  .rw[d];exact QL _
  .obtain⟨e,l⟩:=aDH b h d;obtain⟨x,ex,_⟩:=aBN b e;have m:=k (SM s).length (aEw b e) (awY b) l rfl;have o:aAt s=aAt (SM s)++x.2:=by unfold aAt;rw[ex,List.flatMap_append];simp
   rw[o,anD];exact Int.le_trans m (avF x.2 i f g (Hs M5))
end Go.Am.Tryz
