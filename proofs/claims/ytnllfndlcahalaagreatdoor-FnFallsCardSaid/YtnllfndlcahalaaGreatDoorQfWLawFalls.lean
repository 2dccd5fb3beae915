/- No condition. -/
import Derived.Test.YtnllfndlcahalaaGreatDoorQfWJL6
set_option linter.all false
namespace Go.Am.Tryz
open Go.Am
def aCI {w:ah}(G:aF w):0<(av w).length:=by
 have l:=b3 G.c;have e:∃m,0<=m/\m<w.1.1/\m ∉ w.2.1:=by
  have c:iH w.1.1 ((List.range w.1.1.toNat).map fun i:Nat=>(i:Int))=true:=by
   unfold iH;rw[eb];intro k a;have a:=eU.1 a;rw[nh,S0]at a;have g:∀b,b<w.1.1.toNat->((List.range w.1.1.toNat).map fun i:Nat=>(i:Int)).getD b 0=(b:Int):=fun b f=>by rw[BG,auQ,List.getElem?_range f];rfl
   rw[g k a,g (k-1) (by omega)];simp only[aG,kj,bV];refine⟨by omega,by omega,?_⟩;rcases amX k with h|h
   .exact .inl h
   .exact .inr (by omega)
  obtain⟨m,j,d⟩:=aJt G.c G.lf c (by rw[nh,S0];unfold tH;rw[ag G.c];have:0<=Int.tdiv (w.1.1-1) 3:=Int.tdiv_nonneg (by omega) (by omega);omega)
  have:=Dc c m j;exact⟨m,this.1,this.2,d⟩
 obtain⟨m,m0,m1,m2⟩:=e;have d:=G.n;have:=arx w.2.1 (k:=m.toNat) (by rw[JW m0];exact m2) w.2.2.1.length (by omega);exact List.length_pos_of_mem this
section
variable {g:ah} {hs:Nat->wM}
def aFU (a:Int):(gz g a).2.1=g.2.1/\(gz g a).1=g.1/\(gz g a).2.2.1=g.2.2.1.set a.toNat (HZ (bP g a)):=by
 unfold gz;have e:=adi g a (a1 g a);have b:(lN g a (a1 g a)).2.1=g.2.1:=by unfold lN;split<;>rfl
 exact⟨b,e.1,by show(lN g a (a1 g a)).2.2.1.set _ _=_;rw[e.2.1]⟩
def aCJ (G:aF g)(W:WI g hs)(K:lJ g){k:Nat}(a:k<g.2.2.1.length)(e:(k:Int)∈av g)(C:(lO g (k:Int)).2=0)(j:(lO g (k:Int)).1=uq (gz g (k:Int)) (a1 g (k:Int)))(v:Int){code:List Int}{v2:Int}(D:YQ F0 code 2=some (v,())) :
  ∃b c:ah,s5 F0 (lO g (k:Int)).1 (8,(k:Int),0,OM)=some (b,0,())/\s5 F0 g (8,(k:Int),v,OM)=some (c,0,())/\(b.2.2.1.length:Int)=g.2.2.1.length/\(c.2.2.1.length:Int)=g.2.2.1.length /\
   (∀d,(aH b.2.2.1 (k:Int) d).2.2.2.1=(g.2.2.1[k]).2.2.2.1)/\(∀d,aH c.2.2.1 (k:Int) d=ur g.1 g.2.2.1[k] v)/\gI F0 b=some (true,())/\gI F0 c=some (true,()):=by
 have l:∀{w:ah} {hs:Nat->wM},aF w->WI w hs->lJ w->gI F0 w=some (true,()):=fun G W K=>by rw[abt G.w.l G.w.b,aH6 G W K]
 have f:aF (lO g (k:Int)).1:=amS G (auP k) (by omega);obtain⟨E,x⟩:=aAi G W a rfl e;have m:=aEe K (k:Int);obtain⟨y,F,z⟩:=aFU (g:=g) (k:Int);have h:(lO g (k:Int)).1.2.2.1=g.2.2.1.set k (HZ g.2.2.1[k]):=by rw[j];show(gz g (k:Int)).2.2.1=_;rw[z,Mh rfl a,gr]
 have i:k<(lO g (k:Int)).1.2.2.1.length:=by rw[h,ni];exact a
 have n:(k:Int)∈av (lO g (k:Int)).1:=by
  have:av (lO g (k:Int)).1=av g:=by unfold av;rw[h,ni,j];show j7 (gz g (k:Int)).2.1 _=_;rw[y]
  rw[this];exact e
 have o:(lO g (k:Int)).1.2.2.1[k]=HZ g.2.2.1[k]:=by simp only[h];exact auH _
 have A:=(G.g _ (bH a)).f.d;have B:∀keep,(ur (lO g (k:Int)).1.1 ((lO g (k:Int)).1.2.2.1[k]) keep).2.2.2.1=(g.2.2.1[k]).2.2.2.1:=fun keep=>by
  rw[aFT (m _ (bH i)) (by rw[o];show(hD _).2=((hD _).1.length:Int);unfold hD;rw[ag A]) keep,o]
  rfl
 have p:=agj f (8,(k:Int),0,OM);obtain⟨H,q⟩:=ars f x (8,(k:Int),0,OM);have r:=axw m (8,(k:Int),0,OM);have s:=agj G (8,(k:Int),v,OM);obtain⟨I,t⟩:=ars G W (8,(k:Int),v,OM);have u:=axw K (8,(k:Int),v,OM);rw[arz f n,Mh rfl i]at p q r;rw[arz G e,Mh rfl a]at s t u;refine⟨_,_,aEs f n i 0,aEs G e a v,?_,aAm _ _,fun d=>?_,fun d=>aEr a _ d,l p q r,l s t u⟩
 .rw[aAm,h,ni]
 .rw[aEr i];exact B 0
end
def axE (code:List Int)(r:∀x∈code,0<=x/\x<=255):Jo F0 code=some (true,()):=by
 rw[ams,ayo,ai];by_cases h:(code.length:Int)>1048576
 .rw[aL h,ae]
 .rw[aQ h,aa];obtain⟨⟨w,list,u⟩,C,D,E,s⟩:=aFL (code:=code) (by omega);obtain⟨c,liars,rfl,e⟩:=D;dsimp only at E s;obtain⟨W,F⟩:=aFK e (list:=list) (by omega) s;have a:=azX (list:=list) e;obtain⟨hs,j⟩:=auC list e (aJA c liars);have m:=az8 list (aKz c liars);rw[C,ai];have G:tZ F0 (RD c liars).1 (RD c liars).2.1=some (RD c liars,true,()):=as2 e;have H:lB F0 (RD c liars).1 (RD c liars).2.1=some (RD c liars,true,()):=SX e;rw[G,ai,H,ai];dsimp only;rw[ZN,aN,aa,aa,F,ai];dsimp only;generalize Yq (RD c liars) list=g at a j m;obtain⟨v,I,K,X⟩:=aEq r (by omega) (i:=1) (by omega) (by omega);obtain⟨v2,t,_,_⟩:=aEq r (by omega) (i:=2) (by omega) (by omega);have Y:=aCI a;have hlen:=x2 g;have Z:=a.le7;obtain⟨t0,t1⟩:=afQ K (n:=((av g).length:Int)) (by omega);obtain⟨o,L,l⟩:∃o:Nat,Int.tmod v ((av g).length:Int)=(o:Int)/\o<(av g).length:=⟨(Int.tmod v ((av g).length:Int)).toNat,by omega,by omega⟩;rw[lr a.w.l,ai,I,ai];dsimp only;rw[bT.2 (show((av g).length:Int)≠0 by omega),eh,ab,L,an l,ab,aT l];have p:=bH l;obtain⟨k,M,f⟩:=nc l;rw[M]at p ⊢;have y:=aCq a (d:=(2,(k:Int),0,OM)) BD;rw[aH7 a p 0 OM]at y;rw[show s5 F0 g (2,(k:Int),0,0,0,(ak,0,ak,[]),(0,ak,[]),(0,ak,[]),0,0,0,0,0)=_ from y,ai];dsimp only;rcases aAk g (k:Int) with ⟨z,N⟩|O
  .obtain⟨b,d,P,Q,qd,qe,A,fd,R,S⟩:=aCJ a j m f p z N v2 (v2:=v2) t;have q:=a.g _ (bH f);have qf:=cv.1 q.f.d;have T:=ary q.bt.2 (g.2.2.1[k]).2.2.2.2.2.2.1.2.toNat;have B:=aFS a j f v2;rw[z,show((0:Int)==4)=false from rfl,aa,
    show s5 F0 (lO g (k:Int)).1 (8,((k:Int),(0,(0,(0,((ak,(0,(ak,[]))),((0,(ak,[])),((0,(ak,[])),(0,(0,(0,(0,0))))))))))))=_ from P,ai,t,ai]
   dsimp only;rw[show s5 F0 g (8,(k:Int),v2,0,0,(ak,0,ak,[]),(0,ak,[]),(0,ak,[]),0,0,0,0,0)=_ from Q,ai];dsimp only;rw[show((0:Int) != 0)=false from rfl,aa,aa,aa,an f,ab,ab,aT f,aiA (by omega) (by omega) (by omega),ab,show((0:Int).toNat)=0 from rfl,ZO,Ph T,ai];dsimp only;rw[iW (auP k) (by omega),ab,ab,Pj (by rw[A];exact q.l.s),ai];dsimp only;rw[A,abu,ae,iW (auP k) (by omega),ab,fd,aL (show(ur g.1 g.2.2.1[k] v2).2.2.2.1.1>=_ from B.1),ae,ab,aL (show(ur g.1 g.2.2.1[k] v2).2.2.2.1.2.1>=_ from B.2),ae,R,ai,ae,S,ai]
  .rw[O];dsimp only;rw[show((4:Int)==4)=true from rfl,ae,abt a.w.l a.w.b,ai,aH6 a j m]
end Go.Am.Tryz
