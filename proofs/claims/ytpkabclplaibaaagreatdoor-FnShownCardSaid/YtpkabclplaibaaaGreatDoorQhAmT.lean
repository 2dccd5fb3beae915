/- No condition. -/
import Derived.WalkKit
import Derived.KernelRfl
import Derived.Deep.Quiet
import Derived.OrdersHeld
import Derived.Deep.RegionHeld3
set_option linter.all false
namespace Go.Am
abbrev aB:= @List.length_append
abbrev az:= @Bool.and_eq_true
abbrev aR:= @List.length_cons
abbrev a6:= @decide_eq_false
abbrev aW:= @decide_eq_true
abbrev bo:= @List.length_nil
abbrev ag:= @if_neg
abbrev bQ:= @List.length_take
abbrev a1:= @Nat.zero_le
abbrev aj:= @if_pos
abbrev bu:= @decide_eq_true_eq
abbrev b2:= @List.length_singleton
abbrev aL:= @Nat.le_trans
abbrev bc:= @Bool.not_true
abbrev cC:= @beq_eq_false_iff_ne
abbrev bT:= @List.length_drop
abbrev ek:= @Option.isSome_iff_exists
abbrev bq:= @Nat.le_refl
abbrev dH:= @List.getElem_mem
abbrev lu:= @List.getElem?_eq_some_iff
abbrev nj:= @Array.getElem?_eq_some_iff
abbrev kK:= @List.getElem?_eq_getElem
abbrev dI:= @Option.some.inj
abbrev c7:= @List.mem_cons
abbrev fA:= @List.mem_singleton
abbrev h8:= @List.mem_cons_of_mem
abbrev en:= @List.mem_append
abbrev ha:= @List.append_assoc
abbrev gb:= @List.all_eq_true
abbrev fo:= @List.append_nil
abbrev gq:= @List.take_length
abbrev fB:= @List.length_map
abbrev cS:= @beq_iff_eq
abbrev hh:= @Bool.or_eq_true
abbrev gd:= @List.mem_range
abbrev qU:= @Array.toArray_toList
abbrev E8:= @Array.getD_eq_getD_getElem?
abbrev tt:= @Nat.mul_le_mul_right
abbrev h9:= @Bool.not_false
abbrev tu:= @List.mem_cons_self
abbrev pE:= @List.cons_append
abbrev nD:= @List.nil_append
abbrev wa:= @Nat.lt_of_lt_of_le
abbrev Bw:= @List.mem_of_mem_take
abbrev I6:= @List.getD_eq_getElem?_getD
abbrev kL:= @List.map_cons
abbrev wb:= @of_decide_eq_true
abbrev wc:= @Int.toNat_natCast
abbrev Pn:= @List.eq_nil_of_length_eq_zero
abbrev yH:= @List.take_add_one
abbrev Mv:= @List.mem_of_find?_eq_some
abbrev C1:= @List.getElem?_take
abbrev eo:= @if_false
abbrev HA:= @Bool.or_eq_false_iff
abbrev pF:= @Nat.zero_add
abbrev we:= @List.cons.inj
abbrev I7:= @Nat.pos_of_ne_zero
abbrev yI:= @Bool.false_or
abbrev yJ:= @Bool.true_and
abbrev eJ:= @if_true
abbrev VZ:= @List.drop_eq_getElem_cons
abbrev Bx:= @List.mem_map
abbrev Mw:= @Bool.eq_false_iff
abbrev Mx:= @beq_self_eq_true
abbrev By:= @Nat.add_mul
abbrev My:= @List.map_append
abbrev Tb:= @List.getElem?_drop
abbrev Tc:= @Nat.eq_zero_or_pos
abbrev I8:= @Nat.add_assoc
abbrev ad6:= @Int.tmod_eq_emod_of_nonneg
abbrev E9:= @Prod.mk.inj
abbrev ad7:= @Classical.byContradiction
abbrev Td:= @Array.toList_map
abbrev V0:= @Int.emod_lt_of_pos
abbrev Te:= @List.not_mem_nil
abbrev V1:= @Bool.not_eq_true'
abbrev aiD:= @Array.getElem?_setIfInBounds
abbrev Tf:= @List.find?_some
abbrev Tg:= @Nat.not_lt_zero
abbrev Th:= @List.length_set
abbrev aaI:= @bne_eq_false_iff_eq
abbrev Mz:= @Nat.add_zero
abbrev ad8:= @List.take_of_length_le
abbrev I9:= @Int.le_refl
abbrev aaJ:= @Bool.false_eq_true
abbrev aaK:= @Array.any_eq_true'
abbrev aiE:= @Int.tdiv_eq_ediv_of_nonneg
abbrev ad9:= @List.length_filter_le
abbrev V2:= @Int.emod_nonneg
abbrev MA:= @Nat.one_mul
abbrev aaL:= @List.length_range
abbrev Ti:= @Nat.lt_irrefl
abbrev aea:= @Int.toNat_of_nonneg
abbrev aeb:= @List.getElem_of_mem
abbrev aiF:= @Nat.le_mul_of_pos_right
abbrev C2:= @congrArg
abbrev V3:= @List.drop_zero
abbrev aaM:= @List.drop_length
abbrev Tj:= @Nat.lt_or_ge
abbrev aec:= @List.find?_eq_none
abbrev Rt:= @Nat.min_eq_left
abbrev tR:= @Prod.ext
abbrev abQ:= @List.take_append_drop
abbrev abR:= @List.set_getElem_self
abbrev V4:= @List.all_eq_false
abbrev abS:= @List.getElem?_append
abbrev GD:= @bne_iff_ne
abbrev abT:= @List.mem_of_getElem?
abbrev abU:= @List.mem_of_mem_drop
abbrev V5:= @Option.bind_some
abbrev NV:= @Bool.true_or
abbrev agF:= @Array.getElem?_eq_getElem
abbrev agG:= @List.mem_or_eq_of_mem_set
abbrev abV:= @Option.toList_some
abbrev abW:= @of_decide_eq_false
abbrev agH:= @decide_eq_false_iff_not
abbrev Ru:= @Nat.beq_refl
abbrev Rv:= @Nat.sub_zero
abbrev agI:= @Array.getElem?_eq_none
abbrev Rw:= @Nat.le_of_eq
abbrev Rx:= @Int.pow_succ
abbrev agJ:= @ByteArray.size_extract
abbrev agK:= @Nat.div_lt_iff_lt_mul
abbrev abX:= @Nat.mod_eq_of_lt
abbrev abY:= @List.countP_cons
abbrev V6:= @List.sum_cons
abbrev agL:= @List.mem_iff_getElem
abbrev V7:= @Nat.zero_mul
abbrev V8:= @Nat.ne_of_lt
abbrev V9:= @Nat.succ_pos
abbrev Ry:= @Nat.mod_lt
abbrev Ja:= @or_false
inductive Ty where
 |int (k:IntKind)|bool|str|unit
 |pair (a b:Ty)
 |sl (e:TypeId) (t:Ty)
@[reducible] def Ty.D:Ty->Type
 |.int _=>Int|.bool=>Bool|.str=>ByteArray|.unit=>Unit|.pair a b=>a.D×b.D|.sl _ t=>List t.D
def Ty.aI:(t:Ty)->t.D
 |.int _=>(0:Int)|.bool=>false|.str=>ByteArray.empty|.unit=>()|.pair a b=>(a.aI,b.aI)|.sl _ _=>[]
def Ty.n:Ty->Nat
 |.int _|.bool|.str|.sl _ _=>1|.unit=>0|.pair a b=>a.n+b.n
def agM:IntKind->IntKind->Bool
 |.i8,.i8|.i16,.i16|.i32,.i32|.i64,.i64|.u8,.u8|.u16,.u16|.u32,.u32|.u64,.u64=>true|_,_=>false
def Po {a b:IntKind}(h:agM a b=true):a=b:=by cases a<;>cases b<;>first|rfl|cases h
def Ty.beq:Ty->Ty->Bool
 |.int k,.int l=>agM k l|.bool,.bool|.str,.str|.unit,.unit=>true|.pair a b,.pair c d=>a.beq c&&b.beq d|.sl e t,.sl f u=>Nat.beq e f&&t.beq u|_,_=>false
def Ty.beq_eq:∀{a b:Ty},a.beq b=true->a=b
 |.int k,.int l,h=>by rw[Po (show agM k l=true from h)]
 |.bool,.bool,_|.str,.str,_|.unit,.unit,_=>rfl|.pair a b,.pair c d,h=>by have g:(a.beq c&&b.beq d)=true:=h;rw[Bool.and_eq_true]at g;rw[Ty.beq_eq g.1,Ty.beq_eq g.2]
 |.sl e t,.sl f u,h=>by have g:(Nat.beq e f&&t.beq u)=true:=h;rw[Bool.and_eq_true]at g;rw[Nat.eq_of_beq_eq_true g.1,Ty.beq_eq g.2]
def aed:List Ty->Ty
 |[]=>.unit|[a]=>a|a::b::l=>.pair a (aed (b::l))
def abZ (P:Program):Nat->TypeId->Option Ty
 |0,_=>none
 |n+1,t =>
  match P.underlying t with
  |some (.int k)=>some (.int k)|some .bool=>some .bool|some .string=>some .str|some (.slice e)=>(abZ P n e).map (.sl e)|some (.struct a)=>(a.toList.mapM fun f=>abZ P n f.type).map aed
  |some (.array m e)=>(abZ P n e).map fun t=>aed (List.replicate m t)
  |_=>none
inductive AC where
 |none
 |int (k:IntKind) (n:Int)
 |bool (b:Bool)
 |str (s:ByteArray)
 |nil
 |ro (f:Bool) (e:TypeId) (t:Ty) (xs:List t.D)
 |own (id:Nat) (len:Option Int)
 |ptr (b:Nat) (off:Nat)
 |qV (id:Nat) (i:Int) (off:Nat)
 |IS (f:Bool) (t:Ty) (x:t.D) (off:Nat)
 |fnp (g:Nat) (b:Nat)
 |any
inductive CV where
 |c (x:AC)
 |agg (l:List AC)
inductive AV where
 |v (x:CV)
 |GF (l:List CV)
def CV.cells:CV->List AC
 |.c x=>[x]|.agg l=>l
structure dD where
 e:TypeId
 t:Ty
 xs:List t.D
 f:Bool
 w:Bool
structure St where
 nt:Nat
 tm:List (Nat×AV)
 bx:List (Nat×List AC)
 bl:List (Nat×Option dD)
 sp:AV:=.v (.c .none)
 rob:List Nat:=[]
def look {U:Type}:List (Nat×U)->Nat->Option U
 |[],_=>none|(k,v)::l,n=>match Nat.beq k n with|true=>some v|false=>look l n
def St.get (st:St)(t:Nat):AV:=match look st.tm t with|some v=>v|none=>.v (.c .none)
def St.put (st:St)(d:Nat)(v:AV):St:={st with tm:=(d,v)::st.tm}
def St.kA (st:St)(id:Nat):Option dD:=match look st.bl id with|some b=>b|none=>none
def ck {U:Type}(c:Bool)(k:Option U):Option U:=match c with|true=>k|false=>none
def br {U:Type}(c:Bool)(x y:U):U:=match c with|true=>x|false=>y
def Jb:Value->AC
 |.int k n=>.int k n|.bool b=>.bool b|.string s=>.str s|.slice none 0 0=>.nil|_=>.none
def C3:Value->CV
 |.agg cs=>.agg (cs.toList.map Jb)|v=>.c (Jb v)
def St.ev (st:St):Operand->AV
 |.tmp t=>st.get t|.const v=>.v (C3 v)|_=>.v (.c .none)
def St.c6 (st:St)(o:Operand):CV:=match st.ev o with|.v x=>x|.GF _=>.c .none
def St.ac (st:St)(o:Operand):AC:=match st.c6 o with|.c x=>x|.agg _=>.none
def CV.kn:CV->Bool
 |.c .none=>false|_=>true
def ex (f:Bool):(t:Ty)->t.D->List AC
 |.int k,x=>[.int k x]|.bool,x=>[.bool x]|.str,x=>[.str x]|.unit,_=>[]|.pair a b,x=>ex f a x.1++ex f b x.2|.sl e t,x=>[.ro f e t x]
def Jc {t u:Ty}(h:t=u)(x:List t.D):List u.D:=h▸x
def Bz {U:Type}(xs:List U):Option Int->List U
 |none=>xs|some n=>xs.take n.toNat
def bU (st:St)(e:TypeId)(t:Ty):AC->Option (List t.D)
 |.nil=>some []|.ro _ a u xs=>match Nat.beq a e with
  |true=>if h:u.beq t=true then some (Jc (Ty.beq_eq h) xs) else none|false=>none
 |.own id len=>match st.kA id with
  |some b=>match Nat.beq b.e e with
   |true=>if h:b.t.beq t=true then some (Bz (Jc (Ty.beq_eq h) b.xs) len) else none|false=>none
  |none=>none
 |_=>none
def eOf (st:St):AC->TypeId
 |.ro _ e _ _=>e|.own id _=>match st.kA id with|some b=>b.e|none=>0
 |_=>0
def big (t:Ty):Bool:=Nat.ble 8 t.n
def im (st:St):(t:Ty)->List AC->Option (t.D×List AC)
 |.int k,.int l n::r=>if agM l k then some (n,r) else none|.bool,.bool b::r=>some (b,r)|.str,.str s::r=>some (s,r)|.unit,r=>some ((),r)|.pair a b,r=>match im st a r with
  |some (x,d)=>match im st b d with
   |some (y,f)=>some ((x,y),f)|none=>none
  |none=>none
 |.sl e t,c::r=>match bU st e t c with
  |some xs=>some (xs,r)|none=>none
 |_,_=>none
@[reducible] def Args:List (Ty×Bool)->Type
 |[]=>Unit|a::l=>a.1.D×Args l
structure Con where
 ps:List (Ty×Bool)
 rs:List (Ty×Bool)
 m:Nat
 g:Args ps->Option (Args rs)
inductive PM where
 |rd|own (f:Bool)|box|cur
structure CW where
 ps:List (Ty×Bool)
 i:Nat
 pm:PM
 rs:List (Ty×Bool)
 m:Nat
 qs:List (Ty×Bool)
 g:Args ps->Option (Args rs×Args qs)
structure Idx where
 g:Nat
 a:Ty×Bool
 q:Ty
 p:a.1.D->q.D->Bool
structure Sel where
 ps:List (Ty×Bool)
 i:Nat
 a:Ty×Bool
 b:Ty×Bool
 q:Ty×Bool
 g:Args ps->Option (a.1.D×b.1.D×q.1.D)
def Wa:(t:Ty)->t.D->Bool
 |.bool,x=>x|.int _,x=>x==0|_,_=>false
def aqD:(t:Ty)->t.D->t.D
 |.bool,_=>true|.int _,_=>(0:Int)|_,x=>x
def aqE:(t:Ty)->t.D->t.D
 |.bool,_=>false|_,x=>x
inductive Any where
 |one (c:Con)|two (c:CW)|sel (c:Sel)|idx (i:Idx)
 |ins (e:TypeId) (u:Ty)
 |del (e:TypeId) (u:Ty)
def alg {U:Type}(p:U->Bool):List U->Int->Int
 |[],_=>-1|x::l,i=>match p x with|true=>i|false=>alg p l (i+1)
def flat:Ty->Bool
 |.int _|.bool|.str|.unit=>true|.pair a b=>flat a&&flat b|.sl _ _=>false
def exR (id:Nat)(f:Bool):(t:Ty)->t.D->Nat->List AC×List (Nat×Option dD)
 |.int k,x,_=>([.int k x],[])|.bool,x,_=>([.bool x],[])|.str,x,_=>([.str x],[])|.unit,_,_=>([],[])|.pair a b,x,c=>((exR id f a x.1 c).1++(exR id f b x.2 (c+a.n)).1,(exR id f a x.1 c).2++(exR id f b x.2 (c+a.n)).2)|.sl e t,x,c=>([.own (id*64+c) none],[(id*64+c,some ⟨e,t,x,f || flat t,true⟩)])
structure kk where
 n:Nat
 mem:Int
 str:Int
@[reducible] def kk.CX (n:Nat):kk:=⟨n,140737488355328,9223372036854775807⟩
def aoW {U:Type}(d:BinOp)(c:IntKind)(a b:Int)(k:AC->Option U):Option U :=
 match d with
 |.add=>k (.int c (c.wrap (a+b)))|.sub=>k (.int c (c.wrap (a-b)))|.mul=>k (.int c (c.wrap (a*b)))|.quo=>ck (!(b==0)) (k (.int c (c.wrap (a.tdiv b))))|.rem=>ck (!(b==0)) (k (.int c (a.tmod b)))|.and=>k (.int c (c.wrap (BitVec.ofInt c.bits a &&& BitVec.ofInt c.bits b).toNat))|.or=>k (.int c (c.wrap (BitVec.ofInt c.bits a ||| BitVec.ofInt c.bits b).toNat))|.xor=>k (.int c (c.wrap (BitVec.ofInt c.bits a ^^^ BitVec.ofInt c.bits b).toNat))|.eql=>k (.bool (a==b))|.neq=>k (.bool (a != b))|.lss=>k (.bool (decide (a<b)))|.leq=>k (.bool (decide (a<=b)))|.gtr=>k (.bool (decide (a>b)))|.geq=>k (.bool (decide (a>=b)))|_=>none
def aiH {U:Type}(d:BinOp)(c:IntKind)(a b:Int)(k:AC->Option U):Option U :=
 match d with
 |.shl=>ck (decide (0<=b)) (k (.int c (c.wrap (a*2 ^ (min b.toNat c.bits)))))|.shr=>ck (decide (0<=b)) (k (.int c (a.fdiv (2 ^ (min b.toNat c.bits)))))|_=>none
def aoX {U:Type}(F:kk)(c:BinOp)(a b:ByteArray)(k:AC->Option U):Option U :=
 match c with
 |.add=>ck (decide (((a.size+b.size:Nat):Int)<=F.str)) (k (.str (a++b)))|.eql=>k (.bool (a.toList==b.toList))|.neq=>k (.bool (!(a.toList==b.toList)))|.lss=>k (.bool (Op.bytesLess a.toList b.toList))|.leq=>k (.bool (Op.bytesLess a.toList b.toList || a.toList==b.toList))|.gtr=>k (.bool (!(Op.bytesLess a.toList b.toList || a.toList==b.toList)))|.geq=>k (.bool (!(Op.bytesLess a.toList b.toList)))|_=>none
def anH {U:Type}(P:Program)(F:kk)(c:BinOp)(e:TypeId)(x y:AC)(k:AC->Option U):Option U :=
 match x,y with
 |.int d a,.int f b=>match c with
  |.shl|.shr=>aiH c d a b k|_=>ck (agM d f) (aoW c d a b k)
 |.str a,.str b=>aoX F c a b k|.bool a,.bool b=>match P.underlying e,c with
  |some .bool,.eql=>k (.bool (a==b))|some .bool,.neq=>k (.bool (!(a==b)))|_,_=>none
 |_,_=>none
def eqFields (P:Program):List Field->Nat->List AC->List AC->Option Bool
 |[],_,[],[]=>some true
 | f :: d, i, a :: r, b :: s => match Nat.beq f.offset i && !(f.name == "_") with
  |true=>match eqFields P d (i+1) r s with
   |some c=>match P.underlying f.type,a,b with
    |some (.int _),.int k x,.int l y=>match agM k l with|true=>some ((x==y)&&c)|false=>none
    |some .string,.str x,.str y=>some ((x.toList==y.toList)&&c)|some .bool,.bool x,.bool y=>some ((x==y)&&c)|_,_,_=>none
   |none=>none
  |false=>none
 |_,_,_,_=>none
def Wb (P:Program)(t:TypeId)(l m:List AC):Option Bool :=
 match P.underlying t with
 |some (.struct a)=>match P.stoodInHeld t || P.eqGuardType P.depth t with
  |false=>eqFields P a.toList 0 l m|true=>none
 |_=>none
def Wc (st:St):AC->Option Int
 |.nil=>some 0|.ro _ _ _ xs=>some (xs.length:Int)|.own _ (some n)=>some n|.own id none=>match st.kA id with|some b=>some (b.xs.length:Int)|none=>none
 |.str s=>some (s.size:Int)|_=>none
def aef (P:Program)(t:TypeId)(f:Nat):Option Nat :=
 match P.underlying t with
 |some (.struct a)=>match a[f]? with
  |some x=>match P.cellsOf x.type with
   |0=>none|_=>some x.offset
  |none=>none
 |_=>none
def ab0 (P:Program)(t:TypeId)(f:Nat):Option (TypeId×Nat) :=
 match P.underlying t with
 |some (.struct a)=>match a[f]? with
  |some x=>some (x.type,x.offset)|none=>none
 |_=>none
def L5 (P:Program)(t:TypeId):Option Bool :=
 match P.underlying t with
 |some (.struct _)|some (.array _ _)=>some true|some _=>some false|none=>none
def wg (P:Program)(t:TypeId):Option TypeId :=
 match P.underlying t with
 |some (.slice e)=>some e|_=>none
def x1 {U:Type}:List U->Nat->U->List U
 |[],_,_=>[]|_::l,0,v=>v::l|x::l,n+1,v=>x::x1 l n v
def gU {U:Type}:List U->Nat->Option U
 |[],_=>none|x::_,0=>some x|_::l,n+1=>gU l n
def nk {U:Type}:Nat->List U->List U
 |0,_=>[]|_+1,[]=>[]|n+1,x::l=>x::nk n l
def nm {U:Type}:Nat->List U->List U
 |0,l=>l|_+1,[]=>[]|n+1,_::l=>nm n l
def Ae {U:Type}:List U->Nat->List U->List U
 |l,_,[]=>l|l,n,v::a=>Ae (x1 l n v) (n+1) a
def tp (st:St):(t:Ty)->t.D->Nat×List AC->Option (t.D×(Nat×List AC))
 |.unit,x,s=>some (x,s)|.pair a b,x,s=>match tp st a x.1 s with
  |some (y,f)=>match tp st b x.2 f with
   |some (z,g)=>some ((y,z),g)|none=>none
  |none=>none
 |.int k,x,(0,c::r)=>match im st (.int k) [c]with|some (n,_)=>some (n,(0,r))|none=>none
 |.bool,x,(0,c::r)=>match im st .bool [c]with|some (n,_)=>some (n,(0,r))|none=>none
 |.str,x,(0,c::r)=>match im st .str [c]with|some (n,_)=>some (n,(0,r))|none=>none
 |.sl e t,x,(0,c::r)=>match im st (.sl e t) [c]with|some (n,_)=>some (n,(0,r))|none=>none
 |.int _,x,(0,[])=>some (x,(0,[]))|.bool,x,(0,[])=>some (x,(0,[]))|.str,x,(0,[])=>some (x,(0,[]))|.sl _ _,x,(0,[])=>some (x,(0,[]))|.int _,x,(d+1,l)=>some (x,(d,l))|.bool,x,(d+1,l)=>some (x,(d,l))|.str,x,(d+1,l)=>some (x,(d,l))|.sl _ _,x,(d+1,l)=>some (x,(d,l))
def St.cU (st:St):AC->St
 |.own id _=>match st.kA id with
  |some b=>{st with bl:=(id,some {b with w:=false})::st.bl}
  |none=>st
 |_=>st
def St.freeze (st:St)(l:List AC):St:=l.foldl St.cU st
def Tk:List AC->Bool
 |[]=>true|.none::_=>false|_::l=>Tk l
def agO (id:Nat):List AC->Bool
 |[]=>true|.own i _::l=> !Nat.beq i id&&agO id l|_::l=>agO id l
def bI:List AC->Bool
 |[]=>true|.ro f _ _ _::l=>f&&bI l|_::l=>bI l
def kB (st:St):List AC->Bool
 |[]=>true|.own id _::l=>(match st.kA id with|some b=>b.f|none=>false)&&kB st l
 |_::l=>kB st l
def gf (s:ByteArray)(i:Int):Int:=((s.data.toList.getD i.toNat 0).toNat:Int)
def bytesOf (s:ByteArray):List Int:=s.data.toList.map fun b=>(b.toNat:Int)
def strOf (xs:List Int):ByteArray:=⟨(xs.map fun n=>UInt8.ofNat n.toNat).toArray⟩
def St.pk {U:Type}(st:St)(d:Option Tmp)(v:AV)(k:St->Option U):Option U :=
 match d with
 |none=>k st|some d=>ck (Nat.blt d st.nt) (k (st.put d v))
def St.lit (st:St)(o:Operand)(b:Bool):St :=
 match o with
 |.tmp t=>st.put t (.v (.c (.bool b)))|_=>st
section
variable (P:Program) (C:FuncId->Option Any) (F:kk) {U:Type}
def nq (t:TypeId):Option CV :=
 match P.info? t with
 |some i=>match i.zero with
  |some v=>some (C3 v)|none=>none
 |none=>none
def St.row (st:St)(d:Tmp)(b:dD)(k:St->Option U):Option U :=
 match look st.bl (d*64) with
 |some _=>none|none=>ck (Nat.blt d st.nt) (k {(st.put d (.v (.c (.own (d*64) none)))) with bl:=(d*64,some b)::st.bl})
def EM:List Nat->Nat->Bool
 |[],_=>false|x::l,n=>match Nat.beq x n with|true=>true|false=>EM l n
def fa (st:St)(t:Ty):Nat->List (Nat×Operand)->Option (List t.D)
 |_,[]=>some []|i,(a,b)::l=>match Nat.beq i a with
  |true=>match im st t (st.c6 b).cells with
   |some (x,[])=>match fa st t (i+1) l with
    |some xs=>some (x::xs)|none=>none
   |_=>none
  |false=>none
def bM (st:St):List (Nat×Operand)->List AC
 |[]=>[]|(_,a)::l=>(st.c6 a).cells++bM st l
def Wd (t:TypeId):Option (List (Nat×Nat)) :=
 match P.underlying t with
 |some (.struct a)=>a.toList.mapM fun f=>(P.info? f.type).map fun i=>(f.offset,i.size)
 |_=>none
def tS (st:St)(b:List (Nat×Nat)):List AC->List (Nat×Operand)->Option (List AC)
 |acc,[]=>some acc|acc,(f,a)::l=>match gU b f with
  |some (off,size)=>match (st.c6 a).kn&&Nat.beq size (st.c6 a).cells.length&&Nat.ble (off+(st.c6 a).cells.length) acc.length with
   |true=>tS st b (Ae acc off (st.c6 a).cells) l|false=>none
  |none=>none
def nX (st:St):AC->Option (List AC×Nat)
 |.ptr b off=>match look st.bx b with|some l=>some (l,off)|none=>none
 |.qV id i off=>match st.kA id with|some b=>some (ex b.f b.t (b.xs.getD i.toNat b.t.aI),off)|none=>none
 |.IS f t x off=>some (ex f t x,off)|_=>none
def nE (o:Option Operand)(st:St)(d:Int):Option Int :=
 match o with
 |none=>some d|some x=>match st.ac x with|.int _ n=>some n|_=>none
def gr (st:St):List Operand->List AC
 |[]=>[]|o::l=>(st.c6 o).cells++gr st l
def Ua (st:St)(a:Ty×Bool)(c:CV):Option a.1.D :=
 match c,a.2 with
 |.agg l,true=>match im st a.1 l with
  |some (x,[])=>some x|_=>none
 |.c c,false=>match im st a.1 [c]with
  |some (x,[])=>some x|_=>none
 |_,_=>none
def im1 (st:St)(a:Ty×Bool)(o:Operand):Option a.1.D:=Ua st a (st.c6 o)
def EN (st:St):(ps:List (Ty×Bool))->List Operand->Option (Args ps)
 |[],[]=>some ()|a::l,b::os=>match im1 st a b with
  |some x=>match EN st l os with
   |some y=>some (x,y)|none=>none
  |none=>none
 |_,_=>none
def tT (st:St):(ps:List (Ty×Bool))->List CV->Option (Args ps)
 |[],[]=>some ()|a::l,b::os=>match Ua st a b with
  |some x=>match tT st l os with
   |some y=>some (x,y)|none=>none
  |none=>none
 |_,_=>none
def aF:List CV->List AC
 |[]=>[]|c::l=>c.cells++aF l
def ex1 (id:Nat)(f:Bool)(a:Ty×Bool)(x:a.1.D)(j:Nat):CV×List (Nat×Option dD) :=
 (match a.2 with|true=>.agg (exR id f a.1 x j).1|false=>.c (match (exR id f a.1 x j).1 with|[c]=>c|_=>.none),(exR id f a.1 x j).2)
def hy (id:Nat)(f:Bool):(rs:List (Ty×Bool))->Args rs->Nat->List CV×List (Nat×Option dD)
 |[],_,_=>([],[])|a::l,x,b=>((ex1 id f a x.1 b).1::(hy id f l x.2 (b+a.1.n)).1,(ex1 id f a x.1 b).2++(hy id f l x.2 (b+a.1.n)).2)
def ee:List (Nat×Option dD)->St->Bool
 |[],_=>true|(id,_)::l,st=>(match look st.bl id with|some _=>false|none=>true)&&ee l st
def db:List (Ty×Bool)->Bool
 |[]=>true|a::l=>(a.2 || Nat.beq a.1.n 1)&&db l
def BA:List CV->AV
 |[v]=>.v v|l=>.GF l
def exF (f:Bool):(rs:List (Ty×Bool))->Args rs->List CV
 |[],_=>[]|a::l,x=>(match a.2 with|true=>.agg (ex f a.1 x.1)|false=>.c (match ex f a.1 x.1 with|[c]=>c|_=>.none))::exF f l x.2
def Lz (con:Con)(st:St)(d:Option Tmp)(args:List Operand)(k:St->Option U):Option U :=
 match EN st con.ps args with
 |some x=>(con.g x).bind fun r =>
  match d with
  |none=>none|some d=>match con.m with
   |0=>ck (Nat.blt d st.nt&&db con.rs) (k ((st.freeze (gr st args)).put d (BA (exF (kB st (gr st args)&&bI (gr st args)) con.rs r))))|1=>ck (Nat.blt d st.nt&&db con.rs) (k (st.put d (BA (exF true con.rs r))))
   |_ =>
    let q:=hy d true con.rs r 0
    ck (ee q.2 st&&Nat.blt d st.nt&&db con.rs) (k {(st.put d (BA q.1)) with bl:=q.2++st.bl})
 |_=>none
def eA (st:St)(m:Nat):List Nat->List AC->Bool
 |_,[]=>true|seen,.own id len::l=>match st.kA id with
  |some b=>(b.f || Nat.beq m 0 || Nat.beq m 3)&&(match m with|2|3=>b.w&& !EM seen id&&(match len with|none=>true|some _=>false)|_=>true)&&eA st m (id::seen) l
  |none=>false
 |seen,.ro f _ _ _::l=>(match m with|2|3=>false|1=>f|_=>true)&&eA st m seen l
 |seen,_::l=>eA st m seen l
def pG:List AC->Bool
 |[]=>true|.own _ _::_=>false|_::l=>pG l
def x2 (st:St):Ty->List AC->Option (List AC)
 |.sl e _,.own id _::r=>match st.kA id with
  |some b=>match Nat.beq b.e e with|true=>some r|false=>none
  |none=>none
 |.sl _ t,.nil::r=>match Nat.beq t.n 0 with|true=>none|false=>some r
 |.int _,_::r|.bool,_::r|.str,_::r=>some r|.unit,r=>some r|.pair a b,r=>match x2 st a r with|some r=>x2 st b r|none=>none
 |_,_=>none
def q0 (st:St):List (Ty×Bool)->List CV->Bool
 |[],[]=>true|a::l,b::os=>(match x2 st a.1 b.cells with|some []=>true|_=>false)&&q0 st l os
 |_,_=>false
def pmM:Bool->Nat
 |true=>2|false=>3
def im2 (st:St)(pm:PM)(a:Ty×Bool)(o:Operand):Option a.1.D:=match pm with
 |.rd=>im1 st a o|.own f=>match eA st (pmM f) [] (st.c6 o).cells&&q0 st [a] [st.c6 o]with|true=>im1 st a o|false=>none
 |.box=>match st.c6 o with
  |.c (.ptr b 0)=>match look st.bx b with|some l=>Ua st a (.agg l)|none=>none
  |_=>none
 |.cur=>match st.c6 o with
  |.c (.ptr b 0)=>match look st.bx b with|some l=>(match pG l with|true=>Ua st a (.agg l)|false=>none)|none=>none
  |_=>none
def fU (st:St)(pm:PM):Nat->(ps:List (Ty×Bool))->List Operand->Option (Args ps)
 |0,a::l,b::os=>match im2 st pm a b with
  |some x=>match EN st l os with|some y=>some (x,y)|none=>none
  |none=>none
 |i+1,a::l,b::os=>match im1 st a b with
  |some x=>match fU st pm i l os with|some y=>some (x,y)|none=>none
  |none=>none
 |_,_,_=>none
def eB (st:St)(pm:PM):Nat->List Operand->List AC
 |0,a::os=>(match pm with
  |.rd=>(st.c6 a).cells|.own _|.cur=>[]|.box=>match st.c6 a with|.c (.ptr b _)=>(match look st.bx b with|some l=>l|none=>[])|_=>[])++gr st os
 |i+1,a::os=>(st.c6 a).cells++eB st pm i os|_,[]=>[]
def ZL (st:St)(i:Nat)(args:List Operand):CV:=match gU args i with|some a=>st.c6 a|none=>.c .none
def St.gone (st:St):List AC->St
 |[]=>st|.own id _::l=>{st.gone l with bl:=(id,none)::(st.gone l).bl}
 |_::l=>st.gone l
def nr (f:Bool):(t:Ty)->t.D->List AC->List (Nat×Option dD)×List AC
 |.pair a b,x,l=>((nr f a x.1 l).1++(nr f b x.2 (nr f a x.1 l).2).1,(nr f b x.2 (nr f a x.1 l).2).2)|.unit,_,l=>([],l)|.sl e t,x,.own id _::l=>([(id,some ⟨e,t,x,f,true⟩)],l)|_,_,_::l=>([],l)|_,_,[]=>([],[])
def m2 (m:Nat):Bool:=Nat.beq m 2
def rdM:Nat->Option Bool
 |4=>some true|5=>some false|_=>none
def ab1 (f:Bool)(rs:List (Ty×Bool))(st:St)(d:Tmp)(r:Args rs)(k:St->Option U):Option U :=
 match rs,r with
 |[a],r=>match look st.bx d with
  |none=>ck (Nat.blt d st.nt&&a.2) (k {(st.put d (.v (.c (.ptr d 0)))) with bx:=(d,ex f a.1 r.1)::st.bx})
  |some _=>none
 |_,_=>none
def Pp (rs a:List (Ty×Bool))(m:Nat)(st:St)(c:CV)(d:Tmp)(r:Args rs×Args a)(k:St->Option U):Option U :=
 let q:=hy d (m2 m) rs r.1 0
 ck ((Nat.beq m 2 || Nat.beq m 3)&&ee q.2 st&&Nat.blt d st.nt&&db rs) (match a,r with
  |[],_=>k {(st.put d (BA q.1)) with bl:=q.2++(st.gone c.cells).bl}
  |[p],r=>k {(st.put d (BA q.1)) with bl:=q.2++((nr (m2 m) p.1 r.2.1 c.cells).1++st.bl)}
  |_,_=>none)
def VA (rs a:List (Ty×Bool))(m:Nat)(st:St)(c:CV)(d:Tmp)(r:Args rs×Args a)(k:St->Option U):Option U :=
 match a,r,c with
 |[p],r,.c (.ptr b _)=>match m with
  |0=>ck (Nat.blt d st.nt&&db rs) (k {(st.put d (BA (exF false rs r.1))) with bx:=(b,ex false p.1 r.2.1)::st.bx})
  |1=>ck (Nat.blt d st.nt&&db rs) (k {(st.put d (BA (exF true rs r.1))) with bx:=(b,ex false p.1 r.2.1)::st.bx})
  |m =>
   let q:=hy d (m2 m) rs r.1 0
   ck ((Nat.beq m 2 || Nat.beq m 3)&&ee q.2 st&&Nat.blt d st.nt&&db rs) (k {(st.put d (BA q.1)) with bl:=q.2++st.bl,bx:=(b,ex false p.1 r.2.1)::st.bx})
 |_,_,_=>none
def VB (rs e:List (Ty×Bool))(m:Nat)(st:St)(c:CV)(d:Tmp)(r:Args rs×Args e)(k:St->Option U):Option U :=
 match e,r,c with
 |[p],r,.c (.ptr b _)=>match look st.bx b with
  |some a=>match m with
   |0=>ck (Nat.blt d st.nt&&db rs) (k {(st.put d (BA (exF false rs r.1))) with bx:=(b,ex (bI a) p.1 r.2.1)::st.bx})
   |1=>ck (Nat.blt d st.nt&&db rs) (k {(st.put d (BA (exF (bI a) rs r.1))) with bx:=(b,ex (bI a) p.1 r.2.1)::st.bx})
   |m =>
    let q:=hy d (bI a) rs r.1 0
    ck (Nat.beq m 2&&ee q.2 st&&Nat.blt d st.nt&&db rs) (k {(st.put d (BA q.1)) with bl:=q.2++st.bl,bx:=(b,ex (bI a) p.1 r.2.1)::st.bx})
  |none=>none
 |_,_,_=>none
def anI (st:St)(con:CW)(args:List Operand):List AC:=match con.pm with
 |.cur=>(match con.m with|1|2=>[]|_=>eB st .cur con.i args)
 |pm=>eB st pm con.i args
def Pq (con:CW)(st:St)(d:Option Tmp)(args:List Operand)(k:St->Option U):Option U :=
 let a:=st.freeze (anI st con args)
 match fU a con.pm con.i con.ps args with
 |some x=>(con.g x).bind fun r =>
  match d with
  |none=>none|some d=>match con.pm with
   |.rd=>match rdM con.m with
    |some f=>ab1 f con.rs a d r.1 k|none=>none
   |.own _=>Pp con.rs con.qs con.m a (ZL a con.i args) d r k|.box=>VA con.rs con.qs con.m a (ZL a con.i args) d r k|.cur=>VB con.rs con.qs con.m a (ZL a con.i args) d r k
 |none=>none
def ali (a:Ty×Bool):CV:=match a.2 with|true=>.agg (List.replicate a.1.n .any)|false=>.c .none
def aoY (a:Ty×Bool)(c:CV):Bool:=match a.2,c with
 |true,.agg l=>Nat.beq l.length a.1.n&&Tk l|true,.c _=>false|false,_=>true
def alj (a b q:Ty×Bool)(st:St)(c:CV)(d:Tmp)(n:b.1.D)(y:q.1.D)(k:St->Option U):Option U :=
 ck (Nat.blt d st.nt&&db [b]&&ee (hy d true [b] (n,()) 0).2 st) (k {(st.put d (.GF (ali a::(hy d true [b] (n,()) 0).1))) with bl:=(hy d true [b] (n,()) 0).2++((nr true q.1 y c.cells).1++st.bl)})
def ab2 (con:Sel)(st:St)(d:Option Tmp)(args:List Operand)(k:St->Option U):Option U :=
 let a:=st.freeze (eB st (.own true) con.i args)
 match fU a (.own true) con.i con.ps args with
 |some x=>(con.g x).bind fun r =>
  match d with
  |none=>none|some d=>br (Wa con.b.1 r.2.1) (Pp [con.a,con.b] [] 2 a (ZL a con.i args) d ((r.1,(aqD con.b.1 r.2.1,())),()) k) (alj con.a con.b con.q a (ZL a con.i args) d (aqE con.b.1 r.2.1) r.2.2 k)
 |none=>none
def ab3 (i:Idx)(st:St)(d:Option Tmp)(args:List Operand)(k:St->Option U):Option U :=
 match args with
 |[s,f]=>match st.ac f with
  |.fnp g b=>match Nat.beq g i.g with
   |true=>match look st.bx b with
    |some l=>match im st i.q l with
     |some (y,[])=>match bU st (eOf st (st.ac s)) i.a.1 (st.ac s) with
      |some xs=>st.pk d (.v (.c (.int .i64 (alg (fun x=>i.p x y) xs 0)))) k
      |none=>none
     |_=>none
    |none=>none
   |false=>none
  |_=>none
 |_=>none
def NW (c:Bool)(st:St):Int->List Operand->Option Int
 |a,[]=>some a|a,d::l=>match st.ac d with
  |.int _ b=>NW c st (match c with|true=>if b>a then b else a|false=>if b<a then b else a) l
  |_=>none
def Jd (st:St)(e:TypeId)(u:Ty):AC->Option (List u.D×Bool×St)
 |.nil=>some ([],true,st)|.own id none=>match st.kA id with
  |some b=>match b.w&&Nat.beq b.e e with
   |true=>if h:b.t.beq u=true then some (Jc (Ty.beq_eq h) b.xs,b.f,{st with bl:=(id,none)::st.bl}) else none
   |false=>none
  |none=>none
 |_=>none
def LA (st:St)(e:TypeId)(u:Ty):AC->Option (List u.D×Bool)
 |.own id len=>match bU st e u (.own id len),st.kA id with
  |some a,some b=>some (a,b.f)|_,_=>none
 |.ro f c d a=>match bU st e u (.ro f c d a) with
  |some a=>some (a,f)|none=>none
 |.nil=>some ([],true)|_=>none
def agQ (e:TypeId)(u:Ty)(st:St)(d:Option Tmp)(args:List Operand)(k:St->Option U):Option U :=
 match d,args with
 |some d,[s,i,v]=>match st.ac i,st.ac v with
  |.int .i64 n,.own a none=>match st.kA a with
   |some b=>match b.w&&Nat.beq b.e e with
    |true=>if h:b.t.beq u=true then
      match Jd st e u (st.ac s) with
      |some (xs,f,c)=>match look c.bl a with
       |some (some _)=>ck (!Nat.beq u.n 0&&decide (0<=n)&&decide (n<=(xs.length:Int))&&decide (1<=(b.xs.length:Int))&&decide (((xs.length+b.xs.length:Nat):Int)<=1073741824))
         (c.row d ⟨e,u,xs.take n.toNat++Jc (Ty.beq_eq h) b.xs++xs.drop n.toNat,f&&(b.f || flat u),true⟩ k)
       |_=>none
      |none=>none
     else none
    |false=>none
   |none=>none
  |_,_=>none
 |_,_=>none
def agR (e:TypeId)(u:Ty)(st:St)(d:Option Tmp)(args:List Operand)(k:St->Option U):Option U :=
 match d,args with
 |some d,[s,i,a]=>match st.ac i,st.ac a with
  |.int .i64 n,.int .i64 m=>match Jd st e u (st.ac s) with
   |some (xs,f,b)=>ck (!Nat.beq u.n 0&&decide (0<=n)&&decide (n<=m)&&decide (m<=(xs.length:Int)))
     (b.row d ⟨e,u,xs.take n.toNat++xs.drop m.toNat,f,true⟩ k)
   |none=>none
  |_,_=>none
 |_,_=>none
def aiJ:CV->Bool
 |.c (.int .u8 0)=>true|_=>false
def Fa (st:St)(d:Tmp)(s x:AC)(t c e:TypeId)(u:Ty)(z:CV)(k:St->Option U):Option U :=
 match Jd st e u s with
 |some (xs,f,a)=>match x with
  |.str w=>if h:u.beq (.int .u8)=true then
    match P.underlying c with
    |some .string=>ck (Nat.beq (P.cellsOf e) 1&&Nat.beq (P.bytesOf e) 1&&aiJ z&&decide (((xs.length+w.size:Nat):Int)<=F.mem))
      (a.row d ⟨e,.int .u8,Jc (Ty.beq_eq h) xs++bytesOf w,f,true⟩ k)
    |_=>none
   else none
  |x=>match LA st e u x with
   |some (b,g) =>
    ck (Nat.beq t c&&Nat.beq (P.cellsOf e) u.n&&Nat.beq z.cells.length u.n&&z.kn&& !Nat.beq u.n 0&& !Nat.beq (P.bytesOf e) 0&&decide (((xs.length+b.length:Nat):Int)*(P.bytesOf e:Int)<=F.mem))
     (a.row d ⟨e,u,xs++b,f&&(g || flat u),true⟩ k)
   |none=>none
 |none=>none
def ec (o:Oper)(st:St)(k:St->Option U):Option U :=
 match o.op with
 |.move x|.assign x=>st.pk o.dst (st.ev x) k|.pick c a b=>match st.ac c with
  |.bool v=>br v ((st.lit c true).pk o.dst (st.ev a) k) ((st.lit c false).pk o.dst (st.ev b) k)|_=>none
 |.box t x=>match o.dst with
  |some d=>match EM st.rob d with
   |true=>match abZ P 20 t with
    |some u=>match im st u (st.c6 x).cells with
     |some (y,[])=>ck (Nat.blt d st.nt&&(st.c6 x).kn&&kB st (st.c6 x).cells) (k ((st.freeze (st.c6 x).cells).put d (.v (.c (.IS (bI (st.c6 x).cells) u y 0)))))|_=>none
    |none=>none
   |false=>match look st.bx d with
    |none=>ck (Nat.blt d st.nt&&(st.c6 x).kn) (k {(st.put d (.v (.c (.ptr d 0)))) with bx:=(d,(st.c6 x).cells)::st.bx})
    |some _=>none
  |none=>none
 |.alloc t=>match o.dst with
  |some d=>match look st.bx d with
   |none=>match nq P t with
    |some z=>ck (Nat.blt d st.nt&&z.kn) (k {(st.put d (.v (.c (.ptr d 0)))) with bx:=(d,z.cells)::st.bx})
    |none=>none
   |some _=>none
  |none=>none
 |.build t parts=>match nq P t,Wd P t with
  |some z,some I=>match z.kn,tS st I z.cells parts.toList with
   |true,some l=>st.pk o.dst (.v (.agg l)) k|_,_=>none
  |_,_=>none
 |.buildSlice t len parts=>match o.dst,wg P t with
  |some d,some e=>match abZ P 20 e with
   |some u=>match fa st u 0 parts.toList with
    |some xs=>match Nat.beq parts.toList.length len&&kB st (bM st parts.toList)&&(Nat.beq (P.cellsOf e) u.n&& !Nat.beq u.n 0&&Nat.ble (len*u.n) 16777216&&(nq P e).isSome) with
     |true=>(st.freeze (bM st parts.toList)).row d ⟨e,u,xs,bI (bM st parts.toList),true⟩ k|false=>none
    |none=>none
   |none=>none
  |_,_=>none
 |.load t a=>match nX st (st.ac a) with
  |some (l,off) =>
   let q:=nk (P.cellsOf t) (nm off l)
   match Nat.beq q.length (P.cellsOf t) with
   |true=>match L5 P t with
    |some true=>st.pk o.dst (.v (.agg q)) k|some false=>match q with
     |[x]=>st.pk o.dst (.v (.c x)) k|_=>none
    |none=>none
   |false=>none
  |none=>none
 |.store t a x=>match (st.c6 x).kn&&Tk (st.c6 x).cells&&Nat.beq (P.cellsOf t) (st.c6 x).cells.length&&(P.info? t).isSome with
  |true=>match st.ac a with
   |.ptr b off=>match look st.bx b with
    |some l=>match Nat.ble (off+(st.c6 x).cells.length) l.length with
     |true=>({st with bx:=(b,Ae l off (st.c6 x).cells)::st.bx}).pk o.dst (.GF []) k
     |false=>none
    |none=>none
   |.qV id i off=>match st.kA id with
    |some b=>match b.w&&kB st (st.c6 x).cells&&agO id (st.c6 x).cells with
     |true=>match tp st b.t (b.xs.getD i.toNat b.t.aI) (off,(st.c6 x).cells) with
      |some (y,(0,[])) =>
       let E:=st.freeze (st.c6 x).cells
       ({E with bl:=(id,some {b with xs:=b.xs.set i.toNat y,f:=b.f&&bI (st.c6 x).cells})::E.bl}).pk o.dst (.GF []) k
      |_=>none
     |false=>none
    |none=>none
   |_=>none
  |false=>none
 |.nilCheck x=>match st.ac x with
  |.ptr b off=>st.pk o.dst (.v (.c (.ptr b off))) k|_=>none
 |.binOp op G x y _=>match st.c6 x,st.c6 y with
  |.c a,.c b=>anH P F op G a b fun r=>st.pk o.dst (.v (.c r)) k
  |.agg l,.agg m=>match op,Wb P G l m with
   |.eql,some c=>st.pk o.dst (.v (.c (.bool c))) k|.neq,some c=>st.pk o.dst (.v (.c (.bool (!c)))) k|_,_=>none
  |_,_=>none
 |.unOp op _ x=>match op,st.ac x with
  |.not,.bool b=>st.pk o.dst (.v (.c (.bool (!b)))) k|.neg,.int j n=>st.pk o.dst (.v (.c (.int j (j.wrap (0-n))))) k|_,_=>none
 |.convert src dst x=>match P.underlying src,P.underlying dst,st.ac x with
  |some (.int _),some (.int j),.int _ n=>st.pk o.dst (.v (.c (.int j (j.wrap n)))) k|some .string,some .string,.str s=>st.pk o.dst (.v (.c (.str s))) k|some .string,some (.slice e),.str s=>match P.underlying e with
   |some (.int .u8)=>ck (decide ((s.size:Int)<=F.mem)) (st.pk o.dst (.v (.c (.ro true e (.int .u8) (bytesOf s)))) k)|_=>none
  |some (.slice e),some .string,c=>match P.underlying e,bU st e (.int .u8) c with
   |some (.int .u8),some xs=>st.pk o.dst (.v (.c (.str (strOf xs)))) k|_,_=>none
  |_,_,_=>none
 |.makeSlice t a b=>match o.dst,wg P t,st.ac a,st.ac b with
  |some d,some e,.int .i64 n,.int .i64 m=>match abZ P 20 e,nq P e with
   |some u,some z=>match im st u z.cells with
    |some (x,[])=>ck (z.kn&&(Nat.beq (P.cellsOf e) u.n&& !Nat.beq u.n 0&& !Nat.beq (P.bytesOf e) 0)&&decide (0<=n)&&n==m&&decide (n*(P.bytesOf e:Int)<=F.mem))
      (st.row d ⟨e,u,List.replicate n.toNat x,true,true⟩ k)
    |_=>none
   |_,_=>none
  |_,_,_,_=>none
 |.slice t x p B none=>match P.underlying t with
  |some .string=>match st.ac x with
   |.str s=>match nE p st 0,nE B st (s.size:Int) with
    |some l,some h=>ck (decide (0<=l)&&decide (l<=h)&&decide (h<=(s.size:Int))) (st.pk o.dst (.v (.c (.str (s.extract l.toNat h.toNat)))) k)|_,_=>none
   |_=>none
  |some (.slice D)=>match st.ac x with
   |.ro f e u xs=>match nE p st 0,nE B st (xs.length:Int) with
    |some l,some h=>ck (Nat.beq (P.cellsOf D) u.n&& !Nat.beq u.n 0&&(p.isNone || !big u)&&(decide (0<=l)&&decide (l<=h)&&decide (h<=(xs.length:Int)))) (st.pk o.dst (.v (.c (.ro f e u ((xs.take h.toNat).drop l.toNat)))) k)|_,_=>none
   |.own id none=>match st.kA id,p with
    |some b,none=>match nE B st (b.xs.length:Int) with
     |some h=>ck (Nat.beq (P.cellsOf D) b.t.n&&(decide (0<=h)&&decide (h<=(b.xs.length:Int)))) (st.pk o.dst (.v (.c (.own id (some h)))) k)|none=>none
    |some b,some p=>match nE (some p) st 0,nE B st (b.xs.length:Int) with
     |some l,some h=>ck (Nat.beq (P.cellsOf D) b.t.n&& !big b.t&&(decide (0<=l)&&decide (l<=h)&&decide (h<=(b.xs.length:Int))))
       (({st with bl:=(id,some {b with w:=false})::st.bl}).pk o.dst (.v (.c (.ro b.f b.e b.t ((b.xs.take h.toNat).drop l.toNat)))) k)
     |_,_=>none
    |none,_=>none
   |_=>none
  |_=>none
 |.fieldAddr t x f=>match aef P t f with
  |some q=>match st.ac x with
   |.ptr b off=>st.pk o.dst (.v (.c (.ptr b (off+q)))) k|.qV id i off=>match st.kA id with
    |some _=>st.pk o.dst (.v (.c (.qV id i (off+q)))) k|none=>none
   |.IS K u y off=>st.pk o.dst (.v (.c (.IS K u y (off+q)))) k|_=>none
  |none=>none
 |.indexAddr t x i=>match st.ac i with
  |.int _ n=>match P.underlying t with
   |some (.slice e)=>match st.ac x with
    |.own id len=>match st.kA id with
     |some b=>match Wc st (.own id len) with
      |some m=>ck (Nat.beq (P.cellsOf e) b.t.n&&(decide (0<=n)&&decide (n<m))) (st.pk o.dst (.v (.c (.qV id n 0))) k)|none=>none
     |none=>none
    |.ro f _ u xs=>ck (Nat.beq (P.cellsOf e) u.n&& !Nat.beq u.n 0&&(decide (0<=n)&&decide (n<(xs.length:Int)))) (st.pk o.dst (.v (.c (.IS f u (xs.getD n.toNat u.aI) 0))) k)|_=>none
   |some (.array m e)=>match st.ac x with
    |.ptr b off=>ck (!Nat.beq (P.cellsOf e) 0&&(decide (0<=n)&&decide (n<(m:Int)))) (st.pk o.dst (.v (.c (.ptr b (off+n.toNat*P.cellsOf e)))) k)|_=>none
   |_=>none
  |_=>none
 |.index t x i=>match P.underlying t,st.ac x,st.ac i with
  |some .string,.str s,.int _ n=>ck (decide (0<=n)&&decide (n<(s.size:Int))) (st.pk o.dst (.v (.c (.int .u8 (gf s n)))) k)|_,_,_=>none
 |.field t x f=>match ab0 P t f,st.c6 x with
  |some (t,off),.agg l =>
   let q:=nk (P.cellsOf t) (nm off l)
   match Nat.beq q.length (P.cellsOf t) with
   |true=>match L5 P t with
    |some true=>st.pk o.dst (.v (.agg q)) k|some false=>match q with
     |[x]=>st.pk o.dst (.v (.c x)) k|_=>none
    |none=>none
   |false=>none
  |_,_=>none
 |.extract x i=>match st.ev x with
  |.GF l=>match gU l i with
   |some v=>st.pk o.dst (.v v) k|none=>none
  |_=>none
 |.call {callee:=.value (.func f),args,..}=>match C f with
  |some (.one A)=>Lz A st o.dst args.toList k|some (.two A)=>Pq A st o.dst args.toList k|some (.sel A)=>ab2 A st o.dst args.toList k|some (.idx i)=>ab3 i st o.dst args.toList k|some (.ins e u)=>agQ e u st o.dst args.toList k|some (.del e u)=>agR e u st o.dst args.toList k|none=>none
 |.call {callee:=.builtin .len,args,argTypes}=>match args.toList,argTypes.toList with
  |[x],[t]=>match P.underlying t,Wc st (st.ac x) with
   |some .string,some n=>match st.ac x with|.str _=>st.pk o.dst (.v (.c (.int .i64 n))) k|_=>none
   |some (.slice _),some n=>match st.ac x with|.str _=>none|_=>st.pk o.dst (.v (.c (.int .i64 n))) k
   |_,_=>none
  |_,_=>none
 |.call {callee:=.builtin .max,args,..}=>match args.toList with
  |x::l=>match st.ac x with
   |.int j a=>match NW true st a l with
    |some r=>st.pk o.dst (.v (.c (.int j r))) k|none=>none
   |_=>none
  |_=>none
 |.call {callee:=.builtin .min,args,..}=>match args.toList with
  |x::l=>match st.ac x with
   |.int j a=>match NW false st a l with
    |some r=>st.pk o.dst (.v (.c (.int j r))) k|none=>none
   |_=>none
  |_=>none
 |.call {callee:=.builtin .append,args,argTypes}=>match o.dst,args.toList,argTypes.toList with
  |some d,[s,x],[t,t2]=>match wg P t with
   |some e=>match abZ P 20 e,nq P e with
    |some u,some z=>Fa P F st d (st.ac s) (st.ac x) t t2 e u z k|_,_=>none
   |none=>none
  |_,_,_=>none
 |.makeFunc (.func g) first L=>match first.toList,L.toList with
  |[],[x]=>match st.ac x with
   |.ptr b 0=>st.pk o.dst (.v (.c (.fnp g b))) k|_=>none
  |_,_=>none
 |_=>none
def q2 (all:List Oper):List Oper->St->(St->Option U)->Option U
 |[],st,k=>k st|o::l,st,k=>match o.guard with
  |none=>ec P C F o st fun st=>q2 all l st k
  |some (c,Je)=>match gU all c with
   |some d=>match d.dst with
    |some a=>match st.get a with
     |.v (.c (.bool b)) =>
      let yes (st:St):Option U:=ec P C F o st fun st=>q2 all l st k
      let no (st:St):Option U:=st.pk o.dst (.GF []) fun st=>q2 all l st k
      br b (let st:=st.put a (.v (.c (.bool true)));match Je with|true=>yes st|false=>no st)
         (let st:=st.put a (.v (.c (.bool false)));match Je with|true=>no st|false=>yes st)
     |.GF []=>st.pk o.dst (.GF []) fun st=>q2 all l st k
     |_=>none
    |none=>none
   |none=>none
def GG (all:List Oper)(o:Oper)(st:St)(k:St->Option U):Option U :=
 match o.guard with
 |none=>ec P C F o st k|some (c,Je)=>match gU all c with
  |some d=>match d.dst with
   |some a=>match st.get a with
    |.v (.c (.bool b)) =>
     br b (let st:=st.put a (.v (.c (.bool true)));match Je with|true=>ec P C F o st k|false=>st.pk o.dst (.GF []) k)
        (let st:=st.put a (.v (.c (.bool false)));match Je with|true=>st.pk o.dst (.GF []) k|false=>ec P C F o st k)
    |.GF []=>st.pk o.dst (.GF []) k|_=>none
   |none=>none
  |none=>none
def kC (o:Oper):Bool:=match o.op with
 |.move _|.assign _|.pick _ _ _|.load _ _|.nilCheck _|.binOp _ _ _ _ _|.unOp _ _ _|.fieldAddr _ _ _|.indexAddr _ _ _|.index _ _ _|.field _ _ _|.extract _ _|.build _ _|.slice _ _ _ _ _=>true|.convert _ dst _=>match P.underlying dst with|some (.slice _)=>false|_=>true
 |.call {callee:=.builtin .len,..}|.call {callee:=.builtin .min,..}|.call {callee:=.builtin .max,..}=>true|_=>false
def agS (o:Oper):Bool:=match o.op with
 |.call {callee:=.value (.func f),..}=>match C f with|some (.one _)=>true|_=>false
 |_=>false
def bb (o:Oper):Bool:=match o.guard,o.dst,o.op with
 |none,some _,.alloc t=>match nq P t with|some z=>z.kn|none=>false
 |none,some _,.buildSlice t len parts=>match wg P t with
  |some e=>match abZ P 20 e with
   |some u=>(flat u || Nat.beq len 0)&&Nat.beq parts.toList.length len&&(Nat.beq (P.cellsOf e) u.n&& !Nat.beq u.n 0&&Nat.ble (len*u.n) 16777216&&(nq P e).isSome)|none=>false
  |none=>false
 |_,_,_=>false
def ab4 (o:Oper):Bool:=match o.op with
 |.alloc _|.box _ _|.buildSlice _ _ _=>true|_=>false
def We:Option Tmp->Option Tmp->Bool
 |some a,some b=>Nat.beq a b|_,_=>false
def Af (o:Oper):Bool:=bb P o&&match o.op with|.buildSlice _ 0 _=>true|_=>false
def NX (o:Oper):Option Tmp:=match o.op with
 |.call {callee:=.builtin .append,args,argTypes}=>match args.toList,argTypes.toList with
  |[.tmp t,_],[a,b]=>match Nat.beq a b with|true=>some t|false=>none
  |_,_=>none
 |_=>none
def Fb (ops:Array Oper)(o:Oper):Bool:=match NX o with
 |some t=>(List.range ops.size).any fun x=>match ops[x]? with
  |some a=>Af P a&&We a.dst (some t)&&o.after.any fun e=>Region.binds .any e&&Nat.beq e.on x
  |none=>false
 |none=>false
def lv (ops:Array Oper)(o:Oper):Bool:=kC P o || bb P o || agS C o || ab4 o || Fb P ops o
def ary (o:Oper):Bool:=match o.op with
 |.load _ _|.convert _ _ _=>true|_=>false
def BB (st:St)(o:Oper):Bool:=match o.op with
 |.load _ a=>match st.ac a with|.IS _ _ _ _=>true|_=>false
 |.convert _ _ _=>false|_=>true
def aiK (ops:List Oper)(st:St)(o:Oper):Bool:=match o.guard with
 |none=>false|some (a,Je)=>match gU ops a with
  |some b=>match b.dst with
   |some c=>match st.get c,Je with
    |.v (.c (.bool true)),false=>true|.v (.c (.bool false)),true=>true|.GF [],_=>true|_,_=>false
   |none=>false
  |none=>false
def St.drop (st:St)(t:Tmp):St:={st with tm:=st.tm.filter fun p=> !Nat.beq p.1 t}
def eW (ops:Array Oper)(a:Array Bool):List Nat->St->St
 |[],st=>st|i::l,st=>match ops[i]? with
  |some b=>match bb P b&& !a.getD i true,b.dst with
   |true,some d=>(eW ops a l st).drop d|_,_=>eW ops a l st
  |none=>eW ops a l st
def Pr (o:Oper)(t:Tmp):Bool:=match o.op with
 |.buildSlice _ _ parts=>parts.toList.any fun p=>match p.2 with|.tmp s=>Nat.beq s t|_=>false
 |_=>false
def C4 (st:St)(o:Oper):Bool:=match o.op with
 |.buildSlice t _ parts=>match wg P t with
  |some e=>match abZ P 20 e with
   |some u=>(fa st u 0 parts.toList).isSome|none=>false
  |none=>false
 |_=>true
def waits (ops:Array Oper)(b:Array Bool)(o:Oper):Bool:=o.after.any fun e=>Region.binds .any e&&match ops[e.on]? with|some a=> !bb P a&& !b.getD e.on true|none=>false
def Wg (ops:Array Oper)(b:Array Bool)(st:St):List Nat->Bool
 |[]=>true|y::l=>(match ops[y]? with|some a=> !bb P a || b.getD y true || waits P ops b a || C4 P st a|none=>true)&&Wg ops b st l
def Wh (ops:Array Oper):Bool:=(List.range ops.size).all fun x=>match ops[x]? with
 |some a=> !bb P a || (List.range ops.size).all fun y=>match ops[y]? with
  |some b=>match b.dst with
   |some t=> !Pr a t || (!bb P b&&a.after.any fun e=>Region.binds .any e&&Nat.beq e.on y)
   |none=>true
  |none=>true
 |none=>true
def l2 (ops:Array Oper)(nt:Nat):Bool:=Wh P ops&&(List.range ops.size).all fun x=>match ops[x]? with
 |some a=> !bb P a || ((match a.dst with|some d=>Nat.blt d nt|none=>false)&&(List.range ops.size).all fun y=>Nat.beq y x || match ops[y]? with|some b=> !We b.dst a.dst|none=>true)
 |none=>true
def j3 (ops:Array Oper)(a:Array Bool)(i:Nat):Nat->Oper->Bool
 |0,_=>false|n+1,b=>b.after.any fun e=>Region.binds .any e&&(e.on==i || (!a.getD e.on true&&match ops[e.on]? with|some c=>j3 ops a i n c|none=>false))
def Jf (o:Oper):Option Tmp:=match o.op with
 |.call {callee:=.value (.func f),args,..}=>match C f with
  |some (.two a)=>match a.pm with
   |.box|.cur=>match gU args.toList a.i with|some (.tmp t)=>some t|_=>none
   |_=>none
  |_=>none
 |.store _ (.tmp t) _=>some t|_=>none
def agT (ops:Array Oper)(c:Array Bool)(t:Tmp):Bool:=(List.range ops.size).all fun a=>match ops[a]? with
 |some b=>c.getD a true || !We b.dst (some t)|none=>true
def GH (o:Oper):Bool:=match o.op with|.alloc _=>true|_=>false
def alk (ops:Array Oper)(c:Array Bool)(b:Oper)(t:Tmp):Bool:=(List.range ops.size).any fun x=>match ops[x]? with
 |some a=>bb P a&&GH a&&We a.dst (some t)&& !c.getD x true&&b.after.any fun e=>Region.binds .any e&&Nat.beq e.on x
 |none=>false
def Bh (ops:Array Oper)(b:Array Bool)(st:St)(i:Nat)(ok:Nat->Bool):Bool:=(List.range ops.size).all fun c=>match ops[c]? with
 |some a=>lv P C ops a || b.getD c true || j3 ops b i 3 a || (match Jf C a with
  |some t=>(match st.get t with|.v (.c (.ptr d 0))=>ok d|_=>false)&&agT ops b t || alk P ops b a t
  |none=>false)
 |none=>true
def ab5 (ops:Array Oper)(a:Array Bool)(st:St)(i:Nat)(o:Oper):Bool:=match o.op with
 |.load _ x=>match st.ac x with
  |.ptr b _=>Bh P C ops a st i fun c=> !Nat.beq c b
  |.qV id _ _=>match st.kA id with
   |some b=>b.w&&Bh P C ops a st i fun _=>true
   |none=>false
  |_=>false
 |_=>false
def Ps (ops:Array Oper)(b:Array Bool)(i:Nat):Bool :=
 (List.range ops.size).all fun c=>match ops[c]? with
  |some a=>lv P C ops a || b.getD c true || j3 ops b i 3 a|none=>true
def Jg (ops:Array Oper)(b:Array Bool)(st:St):List Nat->Option (Nat×Oper)
 |[]=>none|i::l=>match ops[i]? with
  |some a=>match kC P a&&Region.free .any ops b i&&(BB st a || Ps P C ops b i || aiK ops.toList st a || ab5 P C ops b st i a) with
   |true=>some (i,a)|false=>Jg ops b st l
  |none=>none
def gu (ops:Array Oper)(x:Nat):List Nat->Array Bool->Array Bool
 |[],l=>l|i::is,l=>match ops[i]? with
  |some a=>match bb P a&& !Nat.beq i x with
   |true=>gu ops x is (l.setIfInBounds i true)|false=>gu ops x is l
  |none=>gu ops x is l
def alm (x:Nat):List Nat->Bool
 |[]=>true|j::l=>Nat.beq j x&&alm x l
def Jh (ops:Array Oper)(a:Array Bool)(st:St):List Nat->Option (Nat×Oper)
 |[]=>none|i::l=>match ops[i]? with
  |some b=>match alm i (Region.ready .any ops (gu P ops i (List.range ops.size) a))&&Wg P ops a st (List.range ops.size) with
   |true=>some (i,b)|false=>Jh ops a st l
  |none=>none
noncomputable def anJ (x y:Option U):Option U:=open Classical in if x=y then x else none
noncomputable def aiL:List (Option U)->Option U
 |[]=>none|[x]=>x|x::l=>anJ x (aiL l)
inductive BT where|l|n (a b:BT)
def VC (ops:Array Oper)(a:Array Bool):List Nat:=Region.ready .any ops (gu P ops ops.size (List.range ops.size) a)
def aln (ops:Array Oper)(b:Array Bool)(o:Oper):List Nat:=(List.range ops.size).filter fun x=>match ops[x]? with
 |some a=>bb P a&& !b.getD x true&&o.after.any fun e=>Region.binds .any e&&Nat.beq e.on x
 |none=>false
def anK (ops:Array Oper)(a:Array Bool):Bool:=(List.range ops.size).all fun x=>match ops[x]? with
 |some o=> !bb P o || a.getD x true || o.after.all fun e=> !Region.binds .any e || a.getD e.on false
 |none=>true
def ab6 (ops:Array Oper):List Nat->Array Bool->St->(Array Bool->St->Option U)->Option U
 |[],fC,st,k=>k fC st|x::l,fC,st,k=>match ops[x]? with
  |some a=>ec P C F a (eW P ops fC (List.range ops.size) st) fun st=>ab6 ops l (fC.setIfInBounds x true) st k
  |none=>none
def Bi (ops:Array Oper)(a:Array Bool):List Nat->Bool
 |[]=>true|i::l=>(match ops[i]? with|some b=> !bb P b || a.getD i true|none=>true)&&Bi ops a l
noncomputable def q3 (ops:Array Oper):Nat->Array Bool->St->(St->Option U)->Option U
 |0,fC,st,k=>match Region.ready .any ops fC with
  |[]=>ck (Bi P ops fC (List.range ops.size)) (k st)|_=>none
 |n+1,fC,st,k=>match Region.ready .any ops fC with
  |[]=>ck (Bi P ops fC (List.range ops.size)) (k st)|i::r=>let st:=eW P ops fC (List.range ops.size) st
   match Jg P C ops fC st (i::r) with
   |some (b,a)=>GG P C F ops.toList a st fun st=>q3 ops n (fC.setIfInBounds b true) st k
   |none=>match Jh P ops fC st (i::r) with
    |some (b,a)=>GG P C F ops.toList a st fun st=>q3 ops n (fC.setIfInBounds b true) st k
    |none=>ck (Wg P ops fC st (List.range ops.size)&&anK P ops fC) (aiL ((VC P ops fC).map fun x=>match ops[x]? with
     |some a=>ab6 P C F ops (aln P ops fC a) fC st fun fC st=>GG P C F ops.toList a (eW P ops fC (List.range ops.size) st) fun st=>q3 ops n (fC.setIfInBounds x true) st k
     |none=>none))
inductive Ex where
 |norm|exit (id:Nat)|ret
structure Hint where
 live:List Tmp
 mat:List (Tmp×TypeId×Ty):=[]
 roT:List Tmp:=[]
 wk:List Tmp:=[]
 CY:List (Nat×Nat×TypeId×Ty):=[]
 xl:List Tmp:=[]
 rl:List Tmp:=[]
 roB:List (Nat×Nat):=[]
 apB:Bool:=false
def aqF (env:List Nat)(c:AC):List Nat:=match c with
 |.own id _|.qV id _ _=>match EM env id with|true=>env|false=>env++[id]
 |_=>env
def alo (env:List Nat)(l:List AC):List Nat:=l.foldl aqF env
def AV.cells:AV->List AC
 |.v x=>x.cells|.GF l=>l.flatMap CV.cells
def idxOf:List Nat->Nat->Nat->Option Nat
 |[],_,_=>none|x::l,n,i=>match Nat.beq x n with|true=>some i|false=>idxOf l n (i+1)
def Ub (env d:List Nat):AC->AC
 |.own id len=>match idxOf env id 0 with|some i=>.own (1000000+i) len|none=>.none
 |.qV id i a=>match idxOf env id 0 with|some e=>.qV (1000000+e) i a|none=>.none
 |.ptr b a=>match EM d b with|true=>.ptr b a|false=>.none
 |.fnp _ _=>.none|c=>c
def anL (env a:List Nat):CV->CV
 |.c x=>.c (Ub env a x)|.agg l=>.agg (l.map (Ub env a))
def anM (env a:List Nat):AV->AV
 |.v x=>.v (anL env a x)|.GF l=>.GF (l.map (anL env a))
def ab7 (st:St)(t:Tmp)(e:TypeId)(u:Ty):St:=match st.get t,look st.bl (2000000+t),Nat.beq u.n 0 with
 |.v (.c .nil),none,false=>{(st.put t (.v (.c (.own (2000000+t) none)))) with bl:=(2000000+t,some ⟨e,u,[],true,true⟩)::st.bl}
 |_,_,_=>st
def VD (st:St)(b j:Nat)(e:TypeId)(u:Ty):St:=match look st.bx b,look st.bl (3000000+100*b+j),Nat.beq u.n 0 with
 |some l,none,false=>match gU l j with
  |some .nil=>{st with bx:=(b,x1 l j (.own (3000000+100*b+j) none))::st.bx,bl:=(3000000+100*b+j,some ⟨e,u,[],true,true⟩)::st.bl}
  |_=>st
 |_,_,_=>st
def aiM (st:St)(t:Tmp):St:=match st.get t with
 |.v (.c (.own id len))=>match st.kA id with
  |some b=>(st.cU (.own id len)).put t (.v (.c (.ro b.f b.e b.t (Bz b.xs len))))|none=>st
 |_=>st
def ab8 (st:St)(b j:Nat):St:=match look st.bx b with
 |some l=>match gU l j with
  |some (.own id len)=>match st.kA id with
   |some a=>{(st.cU (.own id len)) with bx:=(b,x1 l j (.ro false a.e a.t (Bz a.xs len)))::(st.cU (.own id len)).bx}
   |none=>st
  |some (.ro _ e t xs)=>{st with bx:=(b,x1 l j (.ro false e t xs))::st.bx}
  |_=>st
 |none=>st
def alp (st:St):Bool->St
 |true=>{st with sp:=.v (.c .none)}
 |false=>st
def ab9 (st:St)(t:Tmp):St:=match st.get t with
 |.v (.c (.ro _ e u xs))=>st.put t (.v (.c (.ro false e u xs)))|.v (.c (.own id len))=>match st.kA id with
  |some b=>{st with bl:=(id,some {b with f:=false})::st.bl}
  |none=>st
 |_=>st
def Ji:List AV->List Nat
 |[]=>[]|.v (.c (.ptr b _))::l=>match EM (Ji l) b with|true=>Ji l|false=>b::Ji l
 |_::l=>Ji l
def anN (a:List (Nat×AV))(bx:List (Nat×List AC)):List Nat :=
 bx.foldl (fun env b=>alo env b.2) (a.foldl (fun env x=>alo env x.2.cells) [])
def agU (st:St)(b:Nat):List AC:=match look st.bx b with|some l=>l|none=>[]
def Jj (st:St)(env:List Nat):Nat->List Nat->List (Nat×Option dD)
 |_,[]=>[]|i,id::l=>(1000000+i,match idxOf env id 0 with
  |some a=>match Nat.beq a i with|true=>st.kA id|false=>none
  |none=>none)::Jj st env (i+1) l
def aqG (st:St)(tm:List (Nat×AV))(a:List Nat)(env:List Nat):St :=
 {nt:=st.nt,tm:=tm.map fun x=>(x.1,anM env a x.2),bx:=a.map fun b=>(b,(agU st b).map (Ub env a)),bl:=Jj st env 0 env,sp:=anM env a st.sp,rob:=st.rob}
def j4 (d:List Tmp)(st:St):St :=
 let a:=d.map fun t=>(t,st.get t)
 let c:=Ji (st.sp::a.map (·.2))
 aqG st a c (anN ((0,st.sp)::a) (c.map fun b=>(b,agU st b)))
def alq (h:Hint)(st:St):St :=
 j4 h.live (h.wk.foldl ab9 (h.roT.foldl aiM (h.roB.foldl (fun st (b,a)=>ab8 st b a) (h.CY.foldl (fun st (b,a,e,u)=>VD st b a e u) (h.mat.foldl (fun st (t,e,u)=>ab7 st t e u) (alp st h.apB))))))
def apC (h:Hint)(e:Ex)(st:St):St:=match e with
 |.norm=>st|.exit _=>j4 h.xl st|.ret=>j4 h.rl st
def aca (h:Option Hint)(st:St):St:=match h with|some h=>alq h st|none=>st
def Wi (h:Option Hint)(e:Ex)(st:St):St:=match h with|some h=>apC h e st|none=>st
def anO (b:St->(Ex->St->Option U)->Option U)(h:Option Hint)(k:Ex->St->Option U):Nat->St->Option U
 |0,_=>none|n+1,st=>b st fun e bV=>match e with
  |.norm=>anO b h k n (aca h bV)|.exit a=>k (.exit a) (Wi h (.exit a) bV)|.ret=>k .ret (Wi h .ret bV)
def l3:Code->Nat
 |.region id _ _=>id|.seq a _=>l3 a|.block _ b=>l3 b|_=>0
def gv (o:Oper):Bool:=match o.op with
 |.move _|.assign _|.pick _ _ _|.load _ _|.nilCheck _|.binOp _ _ _ _ _|.unOp _ _ _|.fieldAddr _ _ _|.indexAddr _ _ _|.index _ _ _|.field _ _ _|.extract _ _|.build _ _|.slice _ _ _ _ _=>true|.convert _ dst _=>match P.underlying dst with|some (.slice _)=>false|_=>true
 |.call {callee:=.builtin .len,..}|.call {callee:=.builtin .min,..}|.call {callee:=.builtin .max,..}=>true|.call {callee:=.value (.func f),..}=>match C f with|some (.one b)=>Nat.beq b.m 1&&b.rs.all fun a=>flat a.1|_=>false
 |_=>false
def agV (ops:Array Oper):Bool:=P.follows .mixedOrders&&Region.lexB .any ops&&ops.toList.all fun a=>gv P C a
def acb (d:Nat)(c:Nat->AC):AC->AC
 |.ptr b a=>match Nat.beq b d with|true=>c a|false=>.ptr b a
 |.fnp g b=>match Nat.beq b d with|true=>.none|false=>.fnp g b
 |x=>x
def alr (d:Nat)(c:Nat->AC):CV->CV
 |.c x=>.c (acb d c x)|.agg l=>.agg (l.map (acb d c))
def aiN (d:Nat)(c:Nat->AC):AV->AV
 |.v x=>.v (alr d c x)|.GF l=>.GF (l.map (alr d c))
def St.aaN (st:St)(d:Nat)(c:Nat->AC):St :=
 {st with tm:=st.tm.map fun p=>(p.1,aiN d c p.2),bx:=(st.bx.filter fun p=> !Nat.beq p.1 d).map fun p=>(p.1,p.2.map (acb d c)),sp:=aiN d c st.sp}
def als (d:Nat)(u:Ty)(st:St)(k:St->Option U):Option U:=match look st.bx d with
 |some cells=>match im st u cells with
  |some (y,[])=>ck (kB st cells) (k ((st.freeze cells).aaN d fun a=>.IS (bI cells) u y a))
  |_=>none
 |none=>none
def CZ (e:TypeId):Ty->Bool
 |.pair a b=>CZ e a || CZ e b|.sl c t=>Nat.beq c e || CZ e t|_=>false
def acd (e:TypeId):AC->AC
 |.ro f a t xs=>match Nat.beq a e || CZ e t with|true=>.none|false=>.ro f a t xs
 |.IS _ _ _ _=>.none|x=>x
def alu (e:TypeId):CV->CV
 |.c x=>.c (acd e x)|.agg l=>.agg (l.map (acd e))
def aiO (e:TypeId):AV->AV
 |.v x=>.v (alu e x)|.GF l=>.GF (l.map (alu e))
def aj2 (e:TypeId):Option dD->Option dD
 |some b=>match CZ e b.t || (!b.w&&Nat.beq b.e e) with|true=>none|false=>some b
 |none=>none
def aeg (e:TypeId)(u:Ty):List AC->Nat->Option (Nat×List u.D)
 |[],_=>none|.ro true a t xs::l,i=>match Nat.beq a e with
  |true=>if h:t.beq u=true then some (i,Jc (Ty.beq_eq h) xs) else none|false=>aeg e u l (i+1)
 |_::l,i=>aeg e u l (i+1)
def Uc (d id:Nat)(e:TypeId)(u:Ty)(l:List AC)(j:Nat)(xs:List u.D)(st:St):St :=
 {st with tm:=st.tm.map fun p=>(p.1,aiO e p.2),bx:=(d,x1 (l.map (acd e)) j (.own id none))::st.bx.map fun p=>(p.1,p.2.map (acd e)),bl:=(id,some ⟨e,u,xs,true,true⟩)::st.bl.map fun p=>(p.1,aj2 e p.2),sp:=aiO e st.sp}
def aiP (d:Nat)(e:TypeId)(u:Ty)(st:St)(k:St->Option U):Option U:=match look st.bx d,look st.bl (6000000+d) with
 |some l,none=>match aeg e u l 0 with
  |some (a,xs)=>ck (big u&& !CZ e u) (k (Uc d (6000000+d) e u l a xs st))|none=>none
 |_,_=>none
def alv (a:List Nat):List (Tmp×TypeId×Ty)->St->(St->Option U)->Option U
 |[],st,k=>k st|(d,e,u)::l,st,k=>match EM a e with
  |true=>aiP d e u st fun st=>alv a l st k
  |false=>als d u st fun st=>alv a l st k
def aj3 (H:Nat->Option Hint):List Nat:=match H 999998 with|some h=>h.live|none=>[]
def aqH (H:Nat->Option Hint)(id:Nat):List (Tmp×TypeId×Ty):=match H (900000+id) with|some h=>h.mat|none=>[]
noncomputable def run (H:Nat->Option Hint):Code->St->(Ex->St->Option U)->Option U
 |.skip,st,k=>k .norm st|.region id ops anP,st,k=>match (!anP || agV P C ops) with
  |true=>q2 P C F ops.toList ops.toList st fun st=>k .norm st
  |false=>match P.follows .mixedOrders&&Region.noSelect ops&&l2 P ops st.nt with
   |true=>alv (aj3 H) (aqH H id) st fun st=>q3 P C F ops ops.size (Array.replicate ops.size false) st fun st=>k .norm st
   |false=>none
 |.seq a b,st,k=>run H a st fun e st=>match e with
  |.norm=>run H b st k|e=>k e st
 |.cond c a b,st,k=>match st.ac c with
  |.bool v=>br v (run H a (st.lit c true) k) (run H b (st.lit c false) k)|_=>none
 |.block id b,st,k=>run H b st fun e st=>match e with
  |.exit d=>match Nat.beq d id with|true=>k .norm st|false=>k (.exit d) st
  |e=>k e st
 |.loop b,st,k=>anO (fun st k=>run H b st k) (H (l3 b)) k F.n (aca (H (l3 b)) st)
 |.exit id,st,k=>k (.exit id) st|.ret,st,k=>k .ret st|_,_,_=>none
def aqI (ps:List (Ty×Bool))(x:Args ps):List CV:=exF false ps x
def aeh:Nat->List CV->List (Nat×AV)
 |_,[]=>[]|i,v::l=>(i,.v v)::aeh (i+1) l
def alw (st:St):ResultVar->Option CV
 |.tmp t=>some (st.c6 (.tmp t))|.cell a t=>match nX st (st.ac (.tmp a)) with
  |some (l,off) =>
   let q:=nk (P.cellsOf t) (nm off l)
   match Nat.beq q.length (P.cellsOf t) with
   |true=>match L5 P t with
    |some true=>some (.agg q)|some false=>match q with
     |[x]=>some (.c x)|_=>none
    |none=>none
   |false=>none
  |none=>none
def GI (st:St):List ResultVar->Option (List CV)
 |[]=>some []|r::l=>match alw P st r with
  |some c=>match GI st l with
   |some cs=>some (c::cs)|none=>none
  |none=>none
def MB (a:Func)(rs:List (Ty×Bool))(m:Nat):Ex->St->Option (Args rs):=fun e st =>
 match e with
 |.exit _=>none|_=>match GI P st a.results.toList with
  |some l=>match eA st m [] (aF l)&&(match m with|2=>q0 st rs l|_=>true) with
   |true=>tT st rs l|false=>none
  |none=>none
def ia (a : Func) : Code := match a.body with | some c => c | none => .refuse ""
def Wj (H:Nat->Option Hint):List Nat:=match H 999999 with|some h=>h.live|none=>[]
noncomputable def apD (H:Nat->Option Hint) (a:Func) (ps rs:List (Ty×Bool)) (m:Nat) (x:Args ps):Option (Args rs) :=
 ck (Nat.ble ps.length a.ntmps&&db ps&&db rs&&Nat.ble m 2) (run P C F H (ia a) {nt:=a.ntmps,tm:=aeh 0 (aqI ps x),bx:=[],bl:=[],rob:=Wj H} (MB P a rs m))
def apE (pm:PM)(a:Ty×Bool)(x:a.1.D):CV×List (Nat×Option dD)×List (Nat×List AC):=match pm with
 |.rd=>(match a.2 with|true=>.agg (ex false a.1 x)|false=>.c (match ex false a.1 x with|[c]=>c|_=>.none),[],[])
 |.own f=>((ex1 62500 f a x 0).1,(ex1 62500 f a x 0).2,[])|.box=>(.c (.ptr 4000000 0),[],[(4000000,ex false a.1 x)])|.cur=>(.c (.ptr 4000000 0),[],[(4000000,ex true a.1 x)])
def exP (pm:PM):Nat->(ps:List (Ty×Bool))->Args ps->List CV×(CV×List (Nat×Option dD)×List (Nat×List AC))
 |0,a::l,x=>((apE pm a x.1).1::exF false l x.2,apE pm a x.1)|i+1,a::l,x=>((match a.2 with|true=>.agg (ex false a.1 x.1)|false=>.c (match ex false a.1 x.1 with|[c]=>c|_=>.none))::(exP pm i l x.2).1,(exP pm i l x.2).2)
 |_,[],_=>([],(.c .none,[],[]))
def NY (nt:Nat)(pm:PM)(i:Nat)(ps:List (Ty×Bool))(x:Args ps):St :=
 {nt:=nt,tm:=aeh 0 (exP pm i ps x).1,bx:=(exP pm i ps x).2.2.2,bl:=(exP pm i ps x).2.2.1,sp:=.v (exP pm i ps x).2.1}
def ZM (st:St)(pm:PM)(rs a:List (Ty×Bool))(m:Nat)(l:List CV):Option (Args rs×Args a) :=
 match pm with
 |.rd=>match a with
  |[]=>match rdM m with
   |some f=>match l with
    |[.c (.ptr b 0)]=>match look st.bx b with
     |some c=>match eA st (match f with|true=>1|false=>0) [] c&&pG c with
      |true=>match tT st rs [.agg c]with|some r=>some (r,())|none=>none
      |false=>none
     |none=>none
    |_=>none
   |none=>none
  |_=>none
 |.box=>match st.sp,a with
  |.v (.c (.ptr b 0)),[q]=>match look st.bx b with
   |some c=>match pG c&&eA st m [] (aF l)&&(match m with|2|3=>q0 st rs l|_=>true)&&Nat.ble m 3 with
    |true=>match tT st rs l,Ua st q (.agg c) with
     |some r,some y=>some (r,(y,()))|_,_=>none
    |false=>none
   |none=>none
  |_,_=>none
 |.cur=>match st.sp,a with
  |.v (.c (.ptr b 0)),[q]=>match look st.bx b with
   |some c=>match pG c&&bI c&&eA st m [] (aF l)&&(match m with|2=>q0 st rs l|_=>true)&&Nat.ble m 2 with
    |true=>match tT st rs l,Ua st q (.agg c) with
     |some r,some y=>some (r,(y,()))|_,_=>none
    |false=>none
   |none=>none
  |_,_=>none
 |.own _=>match Nat.beq m 2 || Nat.beq m 3 with
  |true=>match a with
   |[]=>match eA st m [] (aF l)&&q0 st rs l with
    |true=>match tT st rs l with|some r=>some (r,())|none=>none
    |false=>none
   |[q]=>match st.sp with
    |.v c=>match eA st m [] (aF (l++[c]))&&q0 st rs l&&q0 st [q] [c]with
     |true=>match tT st rs l,tT st [q] [c]with
      |some r,some y=>some (r,y)|_,_=>none
     |false=>none
    |_=>none
   |_=>none
  |false=>none
def apF (b:Func)(pm:PM)(rs a:List (Ty×Bool))(m:Nat):Ex->St->Option (Args rs×Args a):=fun e st =>
 match e with
 |.exit _=>none|_=>match GI P st b.results.toList with
  |some l=>ZM st pm rs a m l|none=>none
def anQ:List Nat->Bool
 |[]=>true|_=>false
def ao0 (pm:PM)(a:Option (Ty×Bool))(l:List Nat):Bool:=match pm,a with
 |.cur,some a=>l.all fun e=> !CZ e a.1
 |_,_=>anQ l
noncomputable def aiR (H:Nat->Option Hint) (a:Func) (ps:List (Ty×Bool)) (i:Nat) (pm:PM) (rs b:List (Ty×Bool)) (m:Nat) (x:Args ps):Option (Args rs×Args b) :=
 ck (Nat.ble ps.length a.ntmps&&Nat.blt i ps.length&&db ps&&db rs&&ao0 pm (gU ps i) (aj3 H)) (run P C F H (ia a) {(NY a.ntmps pm i ps x) with rob:=Wj H} (apF P a pm rs b m))
def aj4 (f:Func)(a b q:Ty×Bool):Ex->St->Option (a.1.D×b.1.D×q.1.D):=fun e st =>
 match e with
 |.exit _=>none|_=>match GI P st f.results.toList with
  |some [d,c]=>match tT st [b] [c]with
   |some n=>br (Wa b.1 n.1)
     (match ZM st (.own true) [a,b] [] 2 [d,c]with|some r=>some (r.1.1,r.1.2.1,q.1.aI)|none=>none)
     (ck (aoY a d) (match ZM st (.own true) [b] [q] 2 [c]with|some r=>some (a.1.aI,r.1.1,r.2.1)|none=>none))
   |none=>none
  |_=>none
noncomputable def ZN (H:Nat->Option Hint) (c:Func) (ps:List (Ty×Bool)) (i:Nat) (a b q:Ty×Bool) (x:Args ps):Option (a.1.D×b.1.D×q.1.D) :=
 ck (Nat.ble ps.length c.ntmps&&Nat.blt i ps.length&&db ps&&db [a,b]&&anQ (aj3 H)) (run P C F H (ia c) {(NY c.ntmps (.own true) i ps x) with rob:=Wj H} (aj4 P c a b q))
end
end Go.Am
namespace Go.Am
inductive At where
 |l|r|b|t|e|i
def sub:List At->Code->Code
 |[],c=>c|.l::p,.seq a _=>sub p a|.r::p,.seq _ b=>sub p b|.b::p,.block _ b=>sub p b|.t::p,.cond _ a _=>sub p a|.e::p,.cond _ _ a=>sub p a|.i::p,.loop a=>sub p a|_,_=>.skip
section
variable (P:Program) (C:FuncId->Option Any) (F:kk) {U:Type} (H:Nat->Option Hint)
noncomputable def Wk:List At->Code->(Ex->St->Option U)->(Ex->St->Option U)
 |[],_,k=>k|.l::p,.seq a b,k=>Wk p a fun e st=>match e with
  |.norm=>run P C F H b st k|e=>k e st
 |.r::p,.seq _ b,k=>Wk p b k|.b::p,.block id b,k=>Wk p b fun e st=>match e with
  |.exit c=>match Nat.beq c id with|true=>k .norm st|false=>k (.exit c) st
  |e=>k e st
 |.t::p,.cond _ a _,k=>Wk p a k|.e::p,.cond _ _ a,k=>Wk p a k|_,_,k=>k
noncomputable def lp (b:Code) (k:Ex->St->Option U) (n:Nat) (st:St):Option U :=
 anO (fun st k=>run P C F H b st k) (H (l3 b)) k n st
noncomputable def itk (b:Code) (k:Ex->St->Option U) (n:Nat):Ex->St->Option U:=fun e bV=>match e with
 |.norm=>lp P C F H b k n (aca (H (l3 b)) bV)|.exit a=>k (.exit a) (Wi (H (l3 b)) (.exit a) bV)|.ret=>k .ret (Wi (H (l3 b)) .ret bV)
end
end Go.Am
