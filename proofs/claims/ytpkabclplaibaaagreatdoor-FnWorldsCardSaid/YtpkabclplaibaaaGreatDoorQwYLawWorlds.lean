/- No condition. -/
import Derived.Test.YtpkabclplaibaaaGreatDoorQwYJL6
set_option linter.all false
namespace Go.Am.Tryz
open Go.Am
def Ob {a:List Int}(h:a.length<=1048576):og F0 a a=some (true,()):=by
 rw[afq,show((a.length:Int) != (a.length:Int))=false by simp,aa];refine cx (fun n k (z:Unit)=>vi F0 (AR F0) n (ph a a k)) a.length (fun _ _=>True) _ (fun n k z b c=>.inr ⟨(),?_,trivial⟩) (fun n z c=>?_) F0.n 0 () (a7 _) trivial (by rw[bg];omega)
 .rw[Fh,aO b,ae,ao b,ab,ab,show(aL a (k:Int) 0 != aL a (k:Int) 0)=false by simp,aa,ah (by omega)]
 .rw[Fh,aA,aa,XL]
def adT (l:List Int):∀k:Nat,k<=(nX l k).length+l.countP (fun x=>decide (0<=x/\x<(k:Int)))
 |0=>a7 _
 |k+1=>by
  have b:=adT l k;unfold nX;rw[aN];by_cases a:(k:Int)∈l
  .rw[ak a];have:l.countP (fun x=>decide (0<=x/\x<(k:Int)))<l.countP (fun x=>decide (0<=x/\x<((k+1:Nat):Int))):=by
    clear b
    induction l with
    |nil=>cases a
    |cons y l b =>
     have mono:l.countP (fun x=>decide (0<=x/\x<(k:Int)))<=l.countP (fun x=>decide (0<=x/\x<((k+1:Nat):Int))):=aju fun x _ c=>by have:=s3 c;exact aS (by omega)
     rw[Bc,Bc];by_cases e:(k:Int)=y
     .subst e;rw[ag (by simp),ak (by simp;omega)];omega
     .have f:(k:Int)∈l:=(cK.1 a).resolve_left e;have:=b f;by_cases d:decide (0<=y/\y<(k:Int))=true
      .have:=s3 d;rw[ak d,ak (aS (by omega))];omega
      .rw[ag d];split<;>omega
   simp only[bJ];omega
  .rw[ag a,bU];have mono:l.countP (fun x=>decide (0<=x/\x<(k:Int)))<=l.countP (fun x=>decide (0<=x/\x<((k+1:Nat):Int))):=aju fun x _ c=>by have:=s3 c;exact aS (by omega)
   omega
def ao3 {w:ai}(G:aW w):((aI w).length:Int)>=nm w.1:=by have h:=adT w.2.1 w.2.2.1.length;have a:w.2.1.countP (fun x=>decide (0<=x/\x<(w.2.2.1.length:Int)))<=w.2.1.length:=av7;have b:=G.n;have c:=G.lf;unfold aI;unfold nm sZ at *;rw[ak G.c]at *;omega
def as8 {a:List dK}(h:a.length<=1048576):II F0 a a=some (true,()):=by
 rw[aiZ,Gn,aa];refine WL (fun n k=>AT F0 (CG F0) n (sn a a k)) a.length _ (fun n k b=>?_) (fun n=>?_) F0.n (by rw[bg];omega)
 .rw[Hp,aO b,ae,ao b,ab,ab,oD,oD,oD,oD,ah (by omega)];rfl
 .rw[Hp,aA,aa,aaz]
def ao4 {q:b3}(h:wP q):Eo F0 q q=some (true,()):=by rw[afs,oD,ae,oD,ae,Ob h.2,an]
def anG {a:List b3}(h:a.length<=1048576)(c:∀q∈a,wP q):AU F0 a a=some (true,()):=by
 rw[ac7,Gn,aa];refine WL (fun n k=>sr F0 (vM F0) n (nh a a k)) a.length _ (fun n k b=>?_) (fun n=>?_) F0.n (by rw[bg];omega)
 .rw[BG,aO b,ae,ao b,ab,ab,aY b,ao4 (c _ (bT b)),an,ah (by omega)];rfl
 .rw[BG,aA,aa,VS]
def ao5 (d:A1):Ep F0 d d=some (true,()):=by rw[afu,oD,ae,oD]
def as9 {a:aB}(h:aoE a):IJ F0 a a=some (true,()):=by
 have d:=h.h;rw[ai1,Gn,aa,Gn,aa,Gn,aa,adz h.s h.s,an,Zo,aX,aa,as8 h.p,an,aX,aa,anG h.t h.tq,an,aX,aa,ao5,an,aX,aa,Gn,aa];refine WL (fun n k=>AY F0 (CH F0) n (sv k a.1 a.2.1 a.2.2.1 a.2.2.2.1.1 a.2.2.2.1.2.1 a.2.2.2.1.2.2.1.1 a.2.2.2.1.2.2.1.2.1 a.2.2.2.1.2.2.1.2.2 a.2.2.2.1.2.2.2 a.2.2.2.2.1 a.2.2.2.2.2.1 a.2.2.2.2.2.2.1.1 a.2.2.2.2.2.2.1.2 a.2.2.2.2.2.2.2 a.1 a.2.1 a.2.2.1 a.2.2.2.1.1 a.2.2.2.1.2.1 a.2.2.2.1.2.2.1.1 a.2.2.2.1.2.2.1.2.1 a.2.2.2.1.2.2.1.2.2 a.2.2.2.1.2.2.2 a.2.2.2.2.1 a.2.2.2.2.2.1 a.2.2.2.2.2.2.1.1 a.2.2.2.2.2.2.1.2 a.2.2.2.2.2.2.2)) a.2.2.2.2.2.2.2.length _ (fun n k b=>?_) (fun n=>?_) F0.n (by rw[bg];omega)
 .have c:=h.hm _ (bT b);rw[Hr,aO b,ae,ao b,ab,ab,Gn,aa,ab,ab,aY b,ag2 c c,an,asD,aX,aa,ah (by omega)]
 .rw[Hr,aA,aa,aaB]
def WA {w:ai}(h:ff w):qV F0 w w=some (true,()):=by
 have d:=h.r;have e:=h.n;have f:=h.s;have b:lS F0 (ni F0) F0.n (iK 0 w.1.1 w.1.2 w.2.1 w.2.2.1 w.2.2.2.1 w.2.2.2.2 w.1.1 w.1.2 w.2.1 w.2.2.1 w.2.2.2.1 w.2.2.2.2)=some (true,()):=by
  refine WL (fun n k=>lS F0 (ni F0) n (iK k w.1.1 w.1.2 w.2.1 w.2.2.1 w.2.2.2.1 w.2.2.2.2 w.1.1 w.1.2 w.2.1 w.2.2.1 w.2.2.2.1 w.2.2.2.2)) w.2.2.2.2.length _ (fun n k a=>?_) (fun n=>?_) F0.n (by rw[bg];omega)
  .rw[BH,aO a,ae,ao a,ab,ab,oD,oD,oD,ah (by omega)];rfl
  .rw[BH,aA,aa,VT]
 have c:lT F0 (nj F0) F0.n (iL 0 w.1.1 w.1.2 w.2.1 w.2.2.1 w.2.2.2.1 w.2.2.2.2 w.1.1 w.1.2 w.2.1 w.2.2.1 w.2.2.2.1 w.2.2.2.2)=some (true,()):=by
  refine WL (fun n k=>lT F0 (nj F0) n (iL k w.1.1 w.1.2 w.2.1 w.2.2.1 w.2.2.2.1 w.2.2.2.2 w.1.1 w.1.2 w.2.1 w.2.2.1 w.2.2.2.1 w.2.2.2.2)) w.2.2.2.1.length _ (fun n k a=>?_) (fun n=>?_) F0.n (by rw[bg];omega)
  .rw[BI,aO a,ae,ao a,ab,ab,Gn,aa,ab,ab,oD,ah (by omega)];rfl
  .rw[BI,aA,aa,VU,b]
 rw[ac9,oD,oD,show(!(true&&(true&&true)))=false from rfl,aa,Ob h.l,an,aX,aa,Gn,aa,Gn,aa,Gn,aa];refine WL (fun n k=>sw F0 (vN F0) n (nk k w.1.1 w.1.2 w.2.1 w.2.2.1 w.2.2.2.1 w.2.2.2.2 w.1.1 w.1.2 w.2.1 w.2.2.1 w.2.2.2.1 w.2.2.2.2)) w.2.2.1.length _ (fun n k a=>?_) (fun n=>?_) F0.n (by rw[bg];omega)
 .rw[BJ,aO a,ae,ao a,ab,ab,aY a,as9 (h.rl _ (bT a)),an,ah (by omega)];rfl
 .rw[BJ,aA,aa,VV,c]
def aA4 (id:Int)(m:ch)(c:eH m):∀x∈dI id m,x.2.1.size<=1048576:=by
 have b:∀q:b3,wP q->∀x∈S7 id q,x.2.1.size<=1048576:=fun q d x a=>by
  unfold S7 at a;split at a
  .cases a
  .split at a
   .rw[fj.1 a];exact d.1
   .cases a
 obtain⟨_,m1,m2,m3⟩:=c;unfold dI;split
 .intro x a;cases a
 .split
  .exact b _ m2
  .split
   .exact b _ m1
   .exact b _ m3
def ayb {l:List cB}{x:cB}:∀y∈lZ l x,y∈l\/y=x:=by
 unfold lZ;split
 .intro y a;rcases eK.1 a with h|h
  .exact .inl h
  .exact .inr (fj.1 h)
 .exact fun y a=>.inl a
def aA5 (l:List cB)(x:cB):l.length<=(lZ l x).length:=by
 unfold lZ;split
 .rw[aN];omega
 .exact bh _
def Xh {U V:Type}{f:V->U->V}{P:V->Prop}:∀{l:List U} {b:V},(∀b x,x∈l->P b->P (f b x))->P b->P (l.foldl f b)
 |[],_,_,h=>h
 |x::l,b,a,h=>Xh (l:=l) (fun b y c=>a b y (jG _ c)) (a b x (by simp) h)
def aA6 (id:Int){list:List fm}(b:∀p∈list,eH p.2){l:List cB}(c:l.length<=1000)(d:∀x∈l,x.2.1.size<=1048576) :
  l.length<=(Ro id list l).length/\(Ro id list l).length<=1000/\∀x∈Ro id list l,x.2.1.size<=1048576:=by
 unfold Ro;refine Xh (P:=fun z:List cB=>l.length<=z.length/\z.length<=1000/\∀x∈z,x.2.1.size<=1048576) (fun z p e a=>?_) ⟨bh _,c,d⟩;unfold anj;refine Xh (P:=fun z:List cB=>l.length<=z.length/\z.length<=1000/\∀x∈z,x.2.1.size<=1048576) (fun z x f a=>?_) a;have:=aA5 z x;refine⟨by omega,NG a.2.1 x,fun y g=>?_⟩;rcases ayb y g with h|h
 .exact a.2.2 y h
 .rw[h];exact aA4 id p.2 (b p e) x f
def aE0 {w:ai}(h:l0 w)(id:Int){list:List fm}(b:∀p∈list,eH p.2):ff (pq w id list)/\w.2.2.2.2.length<=(pq w id list).2.2.2.2.length:=by
 have a:=h.wl;unfold pq;split
 .obtain⟨c,d,e⟩:=aA6 id b h.s a.st;exact⟨⟨a.l,a.r,a.rl,a.n,a.nb,aU d (by omega),e⟩,c⟩
 .exact⟨a,bh _⟩
def aDs {c:Int×Int}{list:List fm}{a:List gF}(e:a.length<=1000)(f:∀x∈a,cC x.2):(afW c list a).length<=1000/\∀x∈afW c list a,cC x.2:=by
 unfold afW;refine Xh (P:=fun z:List gF=>z.length<=1000/\∀x∈z,cC x.2) (fun z p i d=>⟨aa9 d.1 p,fun x b=>?_⟩) ⟨e,f⟩;unfold Qc at b;split at b
 .rename_i g;rcases eK.1 b with h|h
  .exact d.2 x h
  .rw[fj.1 h];have:=Re g.2.1;exact⟨aU this.1 (by omega),this.2.1⟩
 .exact d.2 x b
def aE1 {w:ai}(h:l0 w)(list:List fm):ff (Ww w list):=by have a:=h.wl;obtain⟨b,d⟩:=aDs (c:=w.1) (list:=list) h.n h.nb;exact⟨a.l,a.r,a.rl,aU b (by omega),d,a.s,a.st⟩
def aA7 {w:ai}(h:l0 w){list:List fm}(a:list.length<=1048576)(b:∀p∈list,eH p.2):WW F0 w list=some (if b4 w=true then Ww w list else w,()):=by
 rw[ar7,Wm h.ww,an,Fl h.wl,an];cases cz:b4 w with
 |false=>rfl
 |true =>
  rw[aX,aa,as2 h.n a b,an,ak rfl]
def ayc {d:List Int}(h:d.length<=1048576):Gd (pe F0 d) fun z=>z.2.1.length<=100:=by
 rw[VE];refine Gd.bind (asB h) fun c e=>Dr.bind (avF e) fun v i f=>Dr.bind (vk f (n:=2) (by omega) (by omega)) fun y j a=>Gd.br (fun _=>?_) fun _=>?_
 .exact Dr.bind (aD a (n:=4) (by omega) (by omega)) fun z b g=>Gd.ret (by simp)
 .exact Dr.bind (NH a (m:=3) (by omega) (by omega)) fun z b g=>Gd.ret (aU b.1 (by omega))
def avR {b:List Int}(h:b.length<=1048576):Gd (Eh F0 b) fun z=>l0 z.1/\z.2.1.length<=4/\∀p∈z.2.1,eH p.2:=by rw[afd];exact Gd.bind (asB h) fun c d=>Dr.bind (anx d) fun w a e=>Dr.bind (avI e a.2) fun l f g=>Gd.ret ⟨a.1,f⟩
def ata {b:List Int}(h:b.length<=1048576):Gd (AO F0 b) fun z=>l0 z.1/\z.2.2.1.length<=4/\∀p∈z.2.2.1,eH p.2:=by rw[ac4];exact Gd.bind (asB h) fun c d=>Dr.bind (anx d) fun w a e=>Dr.bind (aD e (n:=6) (by omega) (by omega)) fun y i f=>Dr.bind (avI f a.2) fun l g j=>Gd.ret ⟨a.1,g⟩
def ao6 {a:List Int}(h:a.length<=1048576):Gd (vg F0 a) fun z=>l0 z.1:=by rw[aax];exact Gd.bind (asB h) fun c b=>Dr.bind (anx b) fun w d e=>Gd.ret d.1
def ao7 (q:List Int):Er F0 q=some (true,()):=by
 rw[afw,atS,an];by_cases h:(q.length:Int)>1048576
 .rw[aS h,ae]
 .rw[aV h,aa];have l:q.length<=1048576:=by omega
  obtain⟨⟨c,aJ,G⟩,u,f⟩:=ayc l;obtain⟨⟨v,b,H⟩,w,a,r,m⟩:=avR l;obtain⟨⟨x,id,g,I⟩,z,d,s,i⟩:=ata l;obtain⟨⟨y,K⟩,A,j⟩:=ao6 l;have f:aJ.length<=100:=f;have a:l0 v:=a;have d:l0 x:=d;have j:l0 y:=j;have r:b.length<=4:=r;have s:g.length<=4:=s;have m:∀p∈b,eH p.2:=m;have i:∀p∈g,eH p.2:=i;have n:ff (if b4 v=true then Ww v b else v):=by
   split
   .exact aE1 a b
   .exact a.wl
  have B:b4 v=true->b4 (if b4 v=true then Ww v b else v)=true:=fun cz=>by rw[ak cz];exact((a.g cz).send b).ok
  obtain⟨C,L⟩:=aE0 d id i;have D:decide (((pq x id g).2.2.2.2.length:Int)>=(x.2.2.2.2.length:Int))=true:=aS (by omega);rw[u,an];dsimp only;rw[anu f,an,ao0 f,an,w,an];dsimp only;rw[aAV a.ww a.n (by omega) m,an,z,an];dsimp only;rw[ax4 d.ww d.s id (by omega) i,an,A,an,oD,aX,aa,aA7 a (by omega) m,an,WA n,an,aX,aa,ax3 d.ww d.s id (by omega) i,an,WA C,an,aX,aa];dsimp only;rw[mf j.wl,an,Q5 j.wl,an,Ob (aU (Fu y) (by have:=j.r;omega)),an,aX,aa,eW a.wl,an,Fl a.wl,an,oD,aX,aa];have tail:br (!b4 v) (some (decide (((pq x id g).2.2.2.2.length:Int)>=(x.2.2.2.2.length:Int)),())) ((b2 F0 (if b4 v=true then Ww v b else v)).bind fun E=>br E.1 (some (decide (((pq x id g).2.2.2.2.length:Int)>=(x.2.2.2.2.length:Int)),())) (some (false,())))=some (true,()):=by
   rw[D];cases cz:b4 v with
   |false=>rfl
   |true =>
    have:=B cz;rw[cz]at this n;rw[eW n,an,this];rfl
  try dsimp only
  by_cases e:b4 (Li c aJ)=true
  .have F:a8 c=true:=by unfold b4 at e;rw[aE]at e;exact e.1
   have k:=ax5 F f;have t:=k.g e;have o:aoZ c aJ=(Li c aJ,true):=ak e;rw[o];dsimp only;rw[ae,eW k.wl,an,e,aX,aa,aoI k.wl k.wb,an,aGt t (aEV c aJ) (aGk c aJ),aX,aa,mf k.wl,an,agX,an];have M:=ao3 t;rw[aV (show ¬((aI (Li c aJ)).length:Int)<nm c by have:nm (Li c aJ).1=nm c:=rfl;omega),aa];exact tail
  .have o:aoZ c aJ=(vn,false):=ag e;rw[o];dsimp only;rw[aa];exact tail
end Go.Am.Tryz
