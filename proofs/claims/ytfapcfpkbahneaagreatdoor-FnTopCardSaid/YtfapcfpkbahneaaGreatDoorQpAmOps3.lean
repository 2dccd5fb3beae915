/- No condition. -/
import Derived.Test.YtfapcfpkbahneaaGreatDoorQpAmOps2
set_option linter.all false
namespace Go.Am
open Go.RowKit
section
variable {P:Program} {w0:fR} {w:World} {G:Gh} {st:St} {a:Act} {U:Type} {k:St->Option U} {r:U} {K:Act->World->Prop} {Q:Exit->Act->World->Prop} {o:Oper}
def fw {id:Nat}{b:gB}(h:st.rZ id=some b):look st.bl id=some (some b):=by
 unfold St.rZ at h;cases hl:look st.bl id with
 |none=>rw[hl]at h;cases h|some ob=>rw[hl]at h;rw[show ob=some b from h]
def pM {t:TypeId}{n:Nat}(h:P.cellsOf t=n)(hn:0<n):∃i,P.info? t=some i/\i.size=n:=by
 unfold Program.cellsOf at h;cases hi:P.info? t with
 |none=>rw[hi]at h;simp at h;omega|some i=>exact⟨i,rfl,by rw[hi]at h;simpa using h⟩
def ave {id:Nat}{b:gB}(hb:EA G w id b):∃A cap,G.hv id=.slice A b.xs.length cap/\b.xs.length<=cap/\cap=cap/\(0<b.xs.length->∃g o,A=some ⟨g,o,none⟩)/\b.xs.length<=9223372036854775807:=by
 cases hw:b.w with
 |true =>
  obtain⟨cs,h1,_,_⟩:=hb.wr hw;rcases h1.2 with ⟨he,hz⟩|⟨g,cap,cur,he,_,_,hc,hm,_⟩
  .exact⟨none,0,by rw[he,hz],by omega,rfl,by omega,by omega⟩
  .have:maxLen=9223372036854775807:=rfl;exact⟨_,cap,he,hc,rfl,fun _=>⟨g,0,rfl⟩,by omega⟩
 |false =>
  obtain⟨A,cap,he,hc,h63,hp⟩:=hb.rd hw;refine⟨A,cap,(uE he).1,hc,rfl,fun h0=>?_,h63⟩;obtain⟨g,o,hA,_⟩:=hp h0;exact⟨g,o,hA⟩
def aDn {t e:TypeId}(hu:P.underlying t=some (.slice e)){g o n cap sz:Nat}(hs:P.cellsOf e=sz)(h0:0<sz){kd:IntKind}{i:Int}(hi0:0<=i)(hi:i<n) :
  (Instr.indexAt t (.slice (some ⟨g,o,none⟩) n cap) (.int kd i)).run P w=.ok (.pointer (some ⟨g,o+i.toNat*sz,none⟩)) w:=by
 obtain⟨j,hj,hjs⟩:=pM hs h0;have he:P.elem t=e:=by simp[Program.elem,hu]
 rw[run_indexAt_slice w t _ n cap kd i (by rw[he];exact hu),ai ⟨hi0,hi⟩,he];simp[sizeOf,typeInfo,hj,hjs,Ve]
def Og (h:Inv w0 G st a w)(t:TypeId)(x i:Operand)(ho:o.op=.indexAddr t x i){e:TypeId}(hu:P.underlying t=some (.slice e)){id:Nat}{len:Option Int}(hx:st.ac x=.own id len)
  {b:gB} (hb:st.rZ id=some b) {m:Int} (hm:amW st (.own id len)=some m) {kd:IntKind} {n:Int} (hi:st.ac i=.int kd n) (hs:P.cellsOf e=b.t.n) (h0:0<=n) (h1:n<m)
  (hr:st.pk o.dst (.v (.c (.LI id n 0))) k=some r):bP P w0 w a o k r:=by
 have hl:=fw hb;have hbo:=h.bl id b hl;obtain⟨A,cap,hv,hcap,_,acW,_⟩:=ave hbo;have hn:a.eval i=.int kd n:=by have:=h.ac i;rw[hi]at this;exact this
 have hxr:=h.ac x;rw[hx]at hxr;have key:∃c g o',a.eval x=.slice (some ⟨g,o',none⟩) m.toNat c/\A=some ⟨g,o',none⟩/\m<=b.xs.length:=by
  cases len with
  |none =>
   simp only[amW,hb]at hm;cases hm;obtain⟨g,o',hA⟩:=acW (by omega);exact⟨cap,g,o',by rw[hxr.2.2,hv,hA];simp,hA,by omega⟩
  |some l =>
   cases hm;obtain⟨_,_,A',n',aBc,hv',hl',he⟩:=hxr;rw[hv]at hv';injection hv' with e1 e2 e3
   subst e1 e2 e3;obtain⟨g,o',hA⟩:=acW (by omega);exact⟨cap,g,o',by rw[he,hA],hA,hl'⟩
 obtain⟨c,g,o',hxe,hA,aR3⟩:=key;refine en (u:=.pointer (some ⟨g,o'+n.toNat*b.t.n,none⟩)) h (v:=.v (.c (.LI id n 0))) ?_ hr fun w1 hB=>?_
 rotate_left
 .unfold execOp;rw[ho];dsimp only;rw[hxe,hn];simp[aDn hu hs hbo.pos h0 (show n<(m.toNat:Int) by omega)]
 .refine⟨by rw[hl];rfl,rfl,h0,g,o',b.xs.length,cap,by rw[hv,hA],by omega,fun b' CL=>?_⟩;rw[hl]at CL;cases CL;rfl
def Rs (h:Inv w0 G st a w)(t:TypeId)(x i:Operand)(ho:o.op=.indexAddr t x i){e e':TypeId}(hu:P.underlying t=some (.slice e)){f:Bool}{u:Ty}{xs:List u.D}(hx:st.ac x=.ro f e' u xs)
  {kd:IntKind} {n:Int} (hi:st.ac i=.int kd n) (hs:P.cellsOf e=u.n) (hp:u.n≠0) (h0:0<=n) (h1:n<(xs.length:Int))
  (hr:st.pk o.dst (.v (.c (.UA f u (xs.getD n.toNat u.aG) 0))) k=some r):bP P w0 w a o k r:=by
 have hn:a.eval i=.int kd n:=by have:=h.ac i;rw[hi]at this;exact this
 have hxr:=h.ac x;rw[hx]at hxr;obtain⟨A,cap,he,hcap,h63,kz⟩:=hxr;have he:=(uE he).1;obtain⟨g,o',hA,hlt,dZ,hcell⟩:=kz (by omega);obtain⟨c,hc,hcc⟩:=hcell n.toNat _ (BG (by omega) u.aG);refine en (u:=.pointer (some ⟨g,o'+n.toNat*u.n,none⟩)) h (v:=.v (.c (.UA f u (xs.getD n.toNat u.aG) 0))) ?_ hr fun w1 hB=>?_
 rotate_left
 .unfold execOp;rw[ho];dsimp only;rw[he,hA,hn];simp[aDn hu hs (by omega) h0 h1]
 .exact⟨g,o'+n.toNat*u.n,c,rfl,hlt,dZ,hc,fun i' u' hu'=>by rw[UX];exact hcc i' u' hu'⟩
def Oh (h:Inv w0 G st a w)(t:TypeId)(x i:Operand)(ho:o.op=.indexAddr t x i){e:TypeId}{m:Nat}(hu:P.underlying t=some (.array m e)){b off:Nat}(hx:st.ac x=.ptr b off)
  {kd:IntKind} {n:Int} (hi:st.ac i=.int kd n) (hs:P.cellsOf e≠0) (h0:0<=n) (h1:n<(m:Int))
  (hr:st.pk o.dst (.v (.c (.ptr b (off+n.toNat*P.cellsOf e)))) k=some r):bP P w0 w a o k r:=by
 have hn:a.eval i=.int kd n:=by have:=h.ac i;rw[hi]at this;exact this
 have hxr:=h.ac x;rw[hx]at hxr;obtain⟨hb,hv⟩:=hxr;obtain⟨j,hj,hjs⟩:=pM rfl (show 0<P.cellsOf e by omega);refine en (u:=.pointer (some ⟨G.hb b,off+n.toNat*P.cellsOf e,none⟩)) h (v:=.v (.c (.ptr b (off+n.toNat*P.cellsOf e)))) ⟨hb,rfl⟩ hr fun w1 hB=>?_
 unfold execOp;rw[ho];dsimp only;rw[hv,hn];have he:P.elem t=e:=by simp[Program.elem,hu]
 have hm:P.arrayLen t=m:=by simp[Program.arrayLen,hu]
 simp[run_indexAt_array w1 t ⟨G.hb b,off,none⟩ kd n (by rw[he,hm];exact hu),hm,h0,h1,he,sizeOf,typeInfo,hj,hjs,Ve]
def ath (h:Inv w0 G st a w){o':Option Operand}{d n:Int}(hb:xL o' st d=some n):(o'=none/\n=d)\/∃x kd,o'=some x/\a.eval x=.int kd n:=by
 cases o' with
 |none=>cases hb;exact .inl ⟨rfl,rfl⟩
 |some x =>
  simp only[xL]at hb;have:=h.ac x;split at hb
  .rename_i kd m he;cases hb;rw[he]at this;exact .inr ⟨x,kd,rfl,this⟩
  .cases hb
def am7 (h:Inv w0 G st a w)(w1:World)(aNC:Bool){len cap:Nat}(OO:len<=cap){lo hi:Option Operand}{l m:Int}(hl:xL lo st 0=some l)(hm:xL hi st (len:Int)=some m)(h0:0<=l)(h1:l<=m)(h2:m<=(len:Int)) :
  (Instr.sliceBounds aNC len cap (lo.map a.eval) (hi.map a.eval) none).run P w1=.ok (l.toNat,m.toNat,cap) w1:=by
 rcases ath h hl with ⟨rfl,rfl⟩|⟨x,kd,rfl,hx⟩<;>rcases ath h hm with ⟨rfl,rfl⟩|⟨y,ke,rfl,hy⟩
 .simp[Instr.sliceBounds]
 .have:m<=(cap:Int):=by omega
  simp[Instr.sliceBounds,hy,run_sliceBound,h1,this]
 .simp[Instr.sliceBounds,hx,run_sliceBound,h0,h1]
 .have h3:m<=(cap:Int):=by omega
  have h4:l<=((m.toNat:Nat):Int):=by omega
  have h5:0<=m:=by omega
  have h6:((m.toNat:Nat):Int)=m:=LM h5;have r1:=run_sliceBound (P:=P) w1 ke m cap (if aNC then .sliceAcap else .sliceAlen) h5 h3;have r2:=run_sliceBound (P:=P) w1 kd l m.toNat .sliceB h0 h4;simp[Instr.sliceBounds,hx,hy,r1,r2]
def Vg (h:Inv w0 G st a w)(t:TypeId)(x:Operand)(lo hi:Option Operand)(ho:o.op=.slice t x lo hi none)(hu:P.underlying t=some .string){s:ByteArray}(hx:st.ac x=.str s)
  {l m:Int} (hl:xL lo st 0=some l) (hm:xL hi st (s.size:Int)=some m) (h0:0<=l) (h1:l<=m) (h2:m<=(s.size:Int))
  (hr:st.pk o.dst (.v (.c (.str (s.extract l.toNat m.toNat)))) k=some r):bP P w0 w a o k r:=by
 have hs:a.eval x=.string s:=by have:=h.ac x;rw[hx]at this;exact this
 refine en (u:=.string (s.extract l.toNat m.toNat)) h (v:=.v (.c (.str (s.extract l.toNat m.toNat)))) rfl hr fun w1 hB=>?_
 unfold execOp;rw[ho];dsimp only;rw[hs];have hb:=am7 (P:=P) h w1 false (bZ s.size) hl hm h0 h1 h2;simp[Instr.sliceAt,run_underlying hu,Instr.slice,hb]
def aGZ {ok:Nat->Prop}{e:TypeId}{t:Ty}{xs:List t.D}{A:Option Addr}{cap:Nat}(h:Rd w ok (.sl e t) xs [.slice A xs.length cap]){l m:Nat}(h1:l<=m)(h2:m<=xs.length) :
  Rd w ok (.sl e t) ((xs.take m).drop l) [sliced A l m cap t.n]:=by
 obtain⟨A',aBc,he,hc,h63,hr⟩:=h;have he:=(uE he).1;injection he with e1 e2 e3
 subst e1 e3;have hlen:((xs.take m).drop l).length=m-l:=by simp;omega
 refine⟨if cap=l then A else A.map (·.add (l*t.n)),cap-l,?_,by omega,by omega,fun h0=>?_⟩
 .simp[sliced,hlen]
 .obtain⟨b,o,hA,hlt,dZ,hcell⟩:=hr (by omega);refine⟨b,o+l*t.n,?_,hlt,dZ,fun j x hj=>?_⟩
  .rw[ah (by omega),hA];simp[Ve]
  .have hj':xs[l+j]?=some x:=by
    rw[air,OQ]at hj;split at hj
    .exact hj
    .cases hj
   obtain⟨c,hc1,hc2⟩:=hcell _ x hj';refine⟨c,hc1,fun i u hu=>?_⟩;have:=hc2 i u hu;rw[LP]at this;rw[show o+l*t.n+(j*t.n+i)=o+(l*t.n+j*t.n+i) by omega];exact this
def avf (h:Inv w0 G st a w)(w1:World){t e:TypeId}(hu:P.underlying t=some (.slice e)){sz:Nat}(hs:P.cellsOf e=sz)(hp:0<sz){A:Option Addr}{len cap:Nat}(OO:len<=cap){lo hi:Option Operand}{l m:Int}
  (hl:xL lo st 0=some l) (hm:xL hi st (len:Int)=some m) (h0:0<=l) (h1:l<=m) (h2:m<=(len:Int)) :
  (Instr.sliceAt t (.slice A len cap) (lo.map a.eval) (hi.map a.eval) none).run P w1=.ok (sliced A l.toNat m.toNat cap sz) w1:=by
 have hb:=am7 (P:=P) h w1 true OO hl hm h0 h1 h2;obtain⟨j,hj,hjs⟩:=pM hs hp;simp[Instr.sliceAt,run_underlying hu,Instr.slice,hb,sizeOf,typeInfo,hj,hjs,sliced]
def aba (h:Inv w0 G st a w)(t:TypeId)(x:Operand)(lo hi:Option Operand)(ho:o.op=.slice t x lo hi none){e e':TypeId}(hu:P.underlying t=some (.slice e)){f:Bool}{u:Ty}{xs:List u.D}(hx:st.ac x=.ro f e' u xs)
  (hs:P.cellsOf e=u.n) (hp:u.n≠0) {l m:Int} (hl:xL lo st 0=some l) (hm:xL hi st (xs.length:Int)=some m) (h0:0<=l) (h1:l<=m) (h2:m<=(xs.length:Int))
  (hr:st.pk o.dst (.v (.c (.ro f e' u ((xs.take m.toNat).drop l.toNat)))) k=some r):bP P w0 w a o k r:=by
 have hxr:=h.ac x;rw[hx]at hxr;obtain⟨A,cap,he,hcap,_⟩:=id hxr;have he:=(uE he).1;have aND:Rd w (RO G f) (.sl e' u) xs [a.eval x]:=hxr;rw[he]at aND;refine en (u:=sliced A l.toNat m.toNat cap u.n) h (v:=.v (.c (.ro f e' u _))) (aGZ aND (by omega) (by omega)) hr fun w1 hB=>?_
 unfold execOp;rw[ho];dsimp only;rw[he];simp only[Option.map_none,Sem.run_bind,avf h w1 hu hs (by omega) hcap hl hm h0 h1 h2,Result.andThen_ok];rfl
def Vh (h:Inv w0 G st a w)(t:TypeId)(x:Operand)(hi:Option Operand)(ho:o.op=.slice t x none hi none){e:TypeId}(hu:P.underlying t=some (.slice e)){id:Nat}(hx:st.ac x=.own id none)
  {b:gB} (hb:st.rZ id=some b) (hs:P.cellsOf e=b.t.n) {m:Int} (hm:xL hi st (b.xs.length:Int)=some m) (h1:0<=m) (h2:m<=(b.xs.length:Int))
  (hr:st.pk o.dst (.v (.c (.own id (some m)))) k=some r):bP P w0 w a o k r:=by
 have hl:=fw hb;have hbo:=h.bl id b hl;obtain⟨A,cap,hv,hcap,_,acW,_⟩:=ave hbo;have hxr:=h.ac x;rw[hx]at hxr;have he:a.eval x=.slice A b.xs.length cap:=by rw[hxr.2.2,hv]
 have hsl:sliced A 0 m.toNat cap b.t.n=.slice A m.toNat cap:=by unfold sliced;simp[Addr.add_zero']
 refine en (u:=.slice A m.toNat cap) h (v:=.v (.c (.own id (some m)))) ⟨hxr.1,h1,A,b.xs.length,cap,hv,h2,rfl⟩ hr fun w1 hB=>?_
 unfold execOp;rw[ho];dsimp only;rw[he];have hrun:=avf (P:=P) (lo:=none) h w1 hu hs hbo.pos hcap (A:=A) (l:=0) rfl hm (by omega) h1 h2;simp only[Option.map_none,Sem.run_bind]at hrun ⊢;rw[hrun,Int.toNat_zero,hsl];rfl
def Oi (h:Inv w0 G st a w)(t:TypeId)(x:Operand)(lo hi:Option Operand)(ho:o.op=.slice t x lo hi none){e:TypeId}(hu:P.underlying t=some (.slice e)){id:Nat}(hx:st.ac x=.own id none)
  {b:gB} (hb:st.rZ id=some b) (hs:P.cellsOf e=b.t.n) {l m:Int} (hl:xL lo st 0=some l) (hm:xL hi st (b.xs.length:Int)=some m) (h0:0<=l) (h1:l<=m) (h2:m<=(b.xs.length:Int))
  (hr:({st with bl:=(id,some {b with w:=false})::st.bl}:St).pk o.dst (.v (.c (.ro b.f b.e b.t ((b.xs.take m.toNat).drop l.toNat)))) k=some r):bP P w0 w a o k r:=by
 have hlk:=fw hb;have hbo:=h.bl id b hlk;obtain⟨A,cap,hv,hcap,_,acW,_⟩:=ave hbo;have hxr:=h.ac x;rw[hx]at hxr;have he:a.eval x=.slice A b.xs.length cap:=by rw[hxr.2.2,hv]
 obtain⟨h',hxx,hss⟩:=h.drop id b hlk;have kz:Rd w (RO (G.drop id) b.f) (.sl b.e b.t) b.xs [.slice A b.xs.length cap]:=by have:=(h'.bl id {b with w:=false} (by simp[aw])).rd rfl;rw[show(G.drop id).hv id=_ from hv]at this;exact this
 refine en (u:=sliced A l.toNat m.toNat cap b.t.n) h' (v:=.v (.c (.ro b.f b.e b.t _))) (aGZ kz (by omega) (by omega)) hr fun w1 hB=>?_
 unfold execOp;rw[ho];dsimp only;rw[he];simp only[Option.map_none,Sem.run_bind,avf h w1 hu hs hbo.pos hcap hl hm h0 h1 h2,Result.andThen_ok];rfl
def avg {V:Type}:∀(l:List V) (i:Nat),og l i=l[i]?
 |[],_=>rfl|x::l,0=>rfl|x::l,i+1=>by simpa [og]using avg l i
def Jx:∀(vs:List Value) (off m:Nat) (cs:Array Value),((vs.zipIdx m).foldl (fun cs (c,j)=>cs.setIfInBounds (off+j) c) cs).toList=Jv cs.toList (off+m) vs
 |[],_,_,_=>rfl|v::vs,off,m,cs=>by simp only[List.zipIdx_cons,amL,Jv];rw[Jx vs off (m+1) (cs.setIfInBounds (off+m) v)];simp[UX]
def am8 (h:Inv w0 G st a w)(aa2:List (Nat×Nat)):∀(parts:List (Nat×Operand)) (acc:List AC) (cs:Array Value) (l:List AC),cT (bS G w st.bx st.bl) acc cs.toList->BD st aa2 acc parts=some l ->
  ∃cs',Instr.fill (aa2.toArray[·]?) cs (parts.map fun (i,x)=>(i,a.eval x))=some cs'/\cT (bS G w st.bx st.bl) l cs'.toList
 |[],acc,cs,l,hr,hb=>by simp only[BD]at hb;cases hb;exact⟨cs,rfl,hr⟩
 |(f,x)::parts,acc,cs,l,hr,hb=>by
  simp only[BD]at hb;split at hb
  .rename_i off size hp;split at hb
   .rename_i hc;rw[aI,aI]at hc;obtain⟨⟨h1,h2⟩,h3⟩:=hc;have hcell:=(h.eZ x).cells h1;have hlen:=hcell.len;have hsz:=aP h2;have hle:=Fz h3;have avh:=hr.len;have aRe:(a.eval x).cells.size=size:=by rw[hsz,hlen];simp
    obtain⟨cs',hf,hrel⟩:=am8 h aa2 parts _ ((a.eval x).cells.toList.zipIdx.foldl (fun cs (c,j)=>cs.setIfInBounds (off+j) c) cs) l (by rw[Jx];exact cT.Hs off hr hcell) hb
    refine⟨cs',?_,hrel⟩;rw[avg]at hp;have hp':aa2.toArray[f]?=some (off,size):=by simpa using hp
    simp only[tW,Instr.fill,hp'];rw[ah]
    .rw[<-hf]
     congr 1
     rw[<-Array.foldl_toList,Array.toList_zipIdx]
    .simp at hlen avh ⊢;omega
   .cases hb
  .cases hb
def abb (h:Inv w0 G st a w)(t:TypeId)(parts:Array (Nat×Operand))(ho:o.op=.build t parts){z:CV}(hz:uh P t=some z){ps:List (Nat×Nat)}(hp:amX P t=some ps)(hk:z.kn=true)
  {l:List AC} (hb:BD st ps z.cells parts.toList=some l) (hr:st.pk o.dst (.v (.agg l)) k=some r):bP P w0 w a o k r:=by
 obtain⟨i,v,hi,hv,rfl⟩:=jQ hz;have hz:=(qY (G:=G) (w:=w) (bx:=st.bx) (bl:=st.bl) v).cells hk;obtain⟨cs',hf,hrel⟩:=am8 h ps parts.toList _ v.cells l hz hb;unfold amX at hp;split at hp
 .rename_i fs hu;have hbt:P.built t (parts.map fun (i,x)=>(i,a.eval x)).toList=some cs':=by unfold Program.built;rw[hi,hu];dsimp only;rw[hv,hp];dsimp only;rw[acM];exact hf
  refine en (u:=.agg cs') h (v:=.v (.agg l)) ⟨cs',rfl,hrel⟩ hr fun w1 hB=>?_
  unfold execOp;rw[ho];dsimp only;simp only[Sem.run_bind,run_build w1 t _ cs' hbt,Result.andThen_ok];rfl
 .cases hp
end
end Go.Am
