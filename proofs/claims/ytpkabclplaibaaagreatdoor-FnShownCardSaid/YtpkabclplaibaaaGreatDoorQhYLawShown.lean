/- No condition. -/
import Derived.Test.YtpkabclplaibaaaGreatDoorQhYJL6
set_option linter.all false
namespace Go.Am.Tryz
open Go.Am
structure aiB (l:kJ):Prop where
 h4:YP l
 i1:∀x∈l.1,-1<=x/\x<=1000
 i2:∀x∈l.2,-1<=x/\x<=1000
def aqm:aiB ae5:=⟨⟨rfl,rfl⟩,by decide,by decide⟩
def aqn {l:kJ}(h:aiB l)(x:dW):aiB (qJ l x).1:=by
 have a:=apV h.h4 x;unfold qJ at a ⊢;by_cases b:QW l=true/\e4 x=true
 .rw[aj b]at a ⊢;have k:=kz b.2;split
  .exact h
  .rename_i f;rw[ag f]at a;split
   .exact h
   .rename_i g;rw[ag g]at a;split
    .rename_i c;rw[aj c]at a;exact⟨a,h.i1,ajz h.i2 ⟨by omega,by omega⟩⟩
    .rename_i c;rw[ag c]at a;split
     .rename_i e;rw[aj e]at a;obtain⟨_,_,i,j⟩:=YO e;exact⟨a,fun y d=>by have:=i y d;omega,fun y d=>by have:=j y d;omega⟩
     .exact h
 .rw[ag b];exact h
def anx {c:cz}(h:fz c):Dr (U:=kJ) (mm F0 c) aiB:=by
 unfold Dr;rw[Me,E4,av];refine eV (fun n i (z:cz×kJ)=>jD F0 (lF F0) n (gB i z.1.1 z.1.2.1 z.1.2.2 [] [] z.2.1 z.2.2)) 6 (fun k z=>fz z.1/\aiB z.2) _ (fun n k z m a f=>?_) (fun n z a=>?_) F0.n 0 (c,ae5) (a1 _) ⟨h,aqm⟩ (by rw[b1];omega)
 .try dsimp only
  rw[pR];refine Dr.bind (ax a.1 (n:=6) (by omega) (by omega)) fun x d b=>Gd.br (fun _=>?_) fun _=>?_
  .refine Dr.bind (p5 b) fun y g j=>?_
   have o:=kz g;have e:=a.2.h4;have p:=e.1;have q:=e.2;refine Gd.ck (gS (by omega) (by omega)) (Gd.let (VM (l:=z.2) (by omega) (by omega) _) ?_);rw[an (by omega)];exact f (y.2.1,(qJ z.2 (y.1.1.1,y.1.1.2.1,y.1.1.2.2.1,bd z.2.2 y.1.1.1 0)).1) ⟨j,aqn a.2 _⟩
  .rw[rD];exact Gd.ret ⟨a.2,b⟩
 .try dsimp only
  rw[pR];refine Dr.bind (ax a.1 (n:=6) (by omega) (by omega)) fun x d b=>?_
  refine Gd.br0 (a6 (by have:=d.2;show ¬(6:Int)<x.1.1;omega)) ?_;rw[rD];exact Gd.ret ⟨a.2,b⟩
def aoR (l:kJ):Prop:=C0 l.1/\C0 l.2
def aiB.i {l:kJ}(h:aiB l):aoR l:=by have b:=h.h4.1;have c:=h.h4.2;exact⟨⟨by omega,fun x a=>by have:=h.i1 x a;exact p8 (by omega) (by omega)⟩,⟨by omega,fun x a=>by have:=h.i2 x a;exact p8 (by omega) (by omega)⟩⟩
def ints_set {a:List Int}(h:C0 a){k:Nat}{v:Int}(b:pg v):C0 (a.set k v):=⟨by rw[Th];exact h.1,ad3 h.2 b⟩
def aoS {c:cz}(h:fz c):Dr (U:=kJ) (Dn F0 c) aoR:=by
 unfold Dr;rw[Xk];refine Dr.bind (anx h) fun l d g=>Dr.bind (ax g (n:=10) (by omega) (by omega)) fun y j b=>?_
 have k:=d.h4.1;have m:=d.h4.2;have a:=d.i;refine Gd.br (fun _=>?_) fun _=>Gd.br (fun _=>?_) fun _=>Gd.br (fun _=>?_) fun _=>Gd.ret ⟨a,b⟩
 .exact Dr.bind (bO b (by decide) (by decide)) fun z e f=>Gd.ck (gS (by omega) (by omega)) (Gd.ret ⟨⟨ints_set a.1 (T8 (by decide) e),a.2⟩,f⟩)
 .exact Dr.bind (bO b (by decide) (by decide)) fun z e f=>Gd.ck (gS (by omega) (by omega)) (Gd.ret ⟨⟨a.1,ints_set a.2 (T8 (by decide) e)⟩,f⟩)
 .refine Gd.ck (aC (by omega) (by omega) (by rw[b2];omega)) (Gd.ret ⟨⟨⟨?_,fun x i=>?_⟩,a.2⟩,b⟩)
  .show(_++[_]).length<=1048576;rw[aB,b2];omega
  .rcases en.1 i with h|h
   .exact a.1.2 x h
   .rw[fA.1 h];exact p8 (by decide) (by decide)
def aoT (w:aq):gf (tx (te w)) (((te w).length-1:Nat):Int)=10/\0<(te w).length:=by obtain⟨l,a⟩:∃l,te w=l++[10]:=⟨IQ w.2.2.1++([110,101,116,32]++Lib.itoa (w.2.2.2.1.length:Int)++[32,115,97,105,100,32]++Lib.itoa (w.2.2.2.2.length:Int)),by unfold te aft;simp only[ha]⟩;rw[a];refine⟨?_,by rw[aB,b2];omega⟩;unfold gf;rw[dB,aB,b2];rw[show(((l.length+1-1:Nat):Int)).toNat=l.length by omega];rw[I6,List.getElem?_append_right (bq _),Nat.sub_self];rfl
def ad4 (i:List Int):A9 F0 i=some (true,()):=by
 rw[Vw,aeN,av];by_cases h:(i.length:Int)>1048576
 .rw[aW h,ae]
 .rw[a6 h,aa];have j:i.length<=1048576:=by omega
  obtain⟨⟨s,H⟩,x,u⟩:Gd (mc F0 i) fun z=>C0 z.1:=by rw[L8];exact Gd.bind (SS j) fun c g=>Dr.bind (EL g (m:=7) (by omega) (by omega)) fun v b k=>Gd.ret ⟨aL b.1 (by omega),b.2⟩
  obtain⟨⟨q,I⟩,y,d⟩:Gd (oh F0 i) fun z=>ZK z.1:=by rw[Ol];exact Gd.bind (SS j) fun c g=>Dr.bind (Lh g) fun v b k=>Dr.bind (agv k (Ly b)) fun q d A=>Gd.ret d
  obtain⟨⟨p,K⟩,B,o⟩:Gd (kQ F0 i) fun z=>ZK z.1:=by rw[JR];exact Gd.bind (SS j) fun c g=>Dr.bind (Lh g) fun v b k=>Dr.bind (S9 k (Ly b)) fun q d A=>Gd.ret d
  obtain⟨⟨l,L⟩,C,t⟩:Gd (hH F0 i) fun z=>aoR z.1:=by rw[GZ];exact Gd.bind (SS j) fun c g=>Dr.bind (aoS g) fun v b k=>Gd.ret b
  obtain⟨⟨r,M⟩,D,f⟩:Gd (mP F0 i) fun z=>ags z.1:=by rw[Mq];exact Gd.bind (SS j) fun c g=>Gd.bind (anv g) fun v b=>Gd.ret b.1
  obtain⟨⟨w,N⟩,E,a⟩:Gd (jW F0 i) fun z=>S8 z.1:=by rw[IY];exact Gd.bind (SS j) fun c g=>Dr.bind (anw g) fun v b k=>Gd.ret b.1
  have a:S8 w:=a;have d:ZK q:=d;have o:ZK p:=o;have f:ags r:=f;have t:aoR l:=t;have u:C0 s:=u;have F:=Y2 (w:=w) (fun r f=>(a.rx r f).2) a.wl.r a.wl.n a.wl.s;have wt:=aau (w:=w) (fun r f=>(a.rx r f).2) a.wl.r a.wl.n a.wl.s;rw[x,av,y,av,B,av,C,av,D,av,E,av];dsimp only;rw[F,av,Hd u,av,KZ u,av,Mx,bc,aa,aeX d.v d.l.1 d.ints,av,ahp d.v d.l.1 d.ints,av,Mx,bc,aa,
   aar o.v o.ints,av,adi o.v o.ints,av,Mx,bc,aa,Vy t.1 t.2,av,Yz t.1 t.2,av,Mx,bc,aa,
   Ra f.2,av,TZ f.2,av,Mx,bc,aa,wt,av,Mx,bc,aa,abx f.2,av,afs f.2,av]
  dsimp only;obtain⟨G,O⟩:=aoT w;have hlen:(te w).length<=1000000:=by
   have P:=Bv (l:=w.2.2.1) fun r f=>(a.rx r f).2
   have Q:=a.r;have R:=dC (n:=(w.2.2.2.1.length:Int)) (p8 (by omega) (by have:=a.n;omega));have S:=dC (n:=(w.2.2.2.2.length:Int)) (p8 (by omega) (by have:=a.s;omega));unfold te aft;simp only[aB,aR,bo];omega
  rw[bne_self_eq_false,aa,ao,aW (show((te w).length:Int)>0 by omega),ae];have e:ak (((te w).length:Int)-1)=(((te w).length-1:Nat):Int):=by rw[aD (by omega) (by omega)];omega
  rw[e,aE (by omega),ab,G];rfl
end Go.Am.Tryz
