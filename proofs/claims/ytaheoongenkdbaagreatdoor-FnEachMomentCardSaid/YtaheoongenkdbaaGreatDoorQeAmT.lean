/- No condition. -/
import Derived.WalkKit
import Derived.KernelRfl
import Derived.Deep.Quiet
import Derived.OrdersHeld
import Derived.Deep.RegionHeld3
set_option linter.all false
namespace Go.Am
abbrev aA:= @Bool.and_eq_true
abbrev aG:= @List.length_append
abbrev aL:= @decide_eq_false
abbrev aI:= @decide_eq_true
abbrev aW:= @List.length_cons
abbrev af:= @if_neg
abbrev bQ:= @beq_eq_false_iff_ne
abbrev bj:= @List.length_nil
abbrev ag:= @if_pos
abbrev bC:= @List.length_take
abbrev aH:= @Bool.not_true
abbrev bc:= @List.length_drop
abbrev bR:= @decide_eq_true_eq
abbrev aO:= @Nat.zero_le
abbrev b2:= @List.getElem_mem
abbrev dt:= @List.length_singleton
abbrev bf:= @Nat.le_refl
abbrev bg:= @beq_iff_eq
abbrev bZ:= @Nat.le_trans
abbrev iR:= @Option.isSome_iff_exists
abbrev cN:= @List.mem_cons
abbrev fA:= @List.mem_singleton
abbrev mm:= @List.getElem?_eq_getElem
abbrev eE:= @Option.some.inj
abbrev jG:= @List.mem_cons_of_mem
abbrev fq:= @List.all_eq_true
abbrev ea:= @Bool.not_false
abbrev gI:= @List.append_assoc
abbrev gJ:= @Int.toNat_natCast
abbrev fU:= @List.append_nil
abbrev wb:= @List.getElem?_eq_some_iff
abbrev wZ:= @Array.getElem?_eq_some_iff
abbrev gK:= @List.mem_append
abbrev eS:= @Bool.true_and
abbrev fV:= @List.mem_range
abbrev Em:= @List.getD_eq_getElem?_getD
abbrev k4:= @of_decide_eq_true
abbrev iS:= @Bool.or_eq_true
abbrev k5:= @List.take_length
abbrev py:= @List.mem_cons_self
abbrev w2:= @Array.toArray_toList
abbrev Od:= @Array.getD_eq_getD_getElem?
abbrev Gg:= @Nat.mul_le_mul_right
abbrev s5:= @List.length_map
abbrev En:= @Nat.lt_of_lt_of_le
abbrev Ya:= @List.eq_nil_of_length_eq_zero
abbrev TW:= @List.mem_of_find?_eq_some
abbrev TX:= @List.drop_eq_getElem_cons
abbrev sG:= @List.map_cons
abbrev Bi:= @List.nil_append
abbrev s6:= @List.cons.inj
abbrev I7:= @Bool.eq_false_iff
abbrev Gi:= @List.cons_append
abbrev Gj:= @List.countP_cons
abbrev Oe:= @Int.toNat_of_nonneg
abbrev Eo:= @List.length_set
abbrev wc:= @Bool.false_or
abbrev fW:= @if_false
abbrev Lg:= @List.take_add_one
abbrev Of:= @List.getElem?_take
abbrev RV:= @bne_eq_false_iff_eq
abbrev we:= @Nat.zero_add
abbrev TY:= @List.mem_of_mem_take
abbrev Yb:= @List.take_append_drop
abbrev fX:= @if_true
abbrev abD:= @List.take_of_length_le
abbrev TZ:= @Nat.pos_of_ne_zero
abbrev Ep:= @List.mem_map
abbrev ak8:= @Int.tmod_eq_emod_of_nonneg
abbrev ak9:= @Int.tdiv_eq_ediv_of_nonneg
abbrev RW:= @Nat.not_lt_zero
abbrev Yc:= @Bool.not_eq_true'
abbrev Yd:= @List.length_range
abbrev ahd:= @Bool.or_eq_false_iff
abbrev oF:= @congrArg
abbrev Lh:= @Nat.lt_or_ge
abbrev Ye:= @beq_self_eq_true
abbrev Yf:= @List.drop_length
abbrev Er:= @bne_iff_ne
abbrev ahe:= @List.getElem_of_mem
abbrev T0:= @List.drop_zero
abbrev ahf:= @List.getElem?_drop
abbrev Li:= @Nat.add_mul
abbrev abE:= @Array.toList_map
abbrev Lj:= @Int.le_refl
abbrev T1:= @Nat.add_assoc
abbrev Yg:= @Bool.false_and
abbrev RX:= @Int.pow_succ
abbrev avR:= @List.getElem?_append_right
abbrev avS:= @Classical.byContradiction
abbrev ala:= @Int.emod_lt_of_pos
abbrev aAz:= @List.take_append_of_le_length
abbrev arl:= @List.mem_of_getElem?
abbrev abF:= @Bool.and_false
abbrev avT:= @decide_eq_false_iff_not
abbrev aAA:= @Array.getElem?_setIfInBounds
abbrev ahg:= @List.map_append
abbrev ahh:= @List.find?_some
abbrev ahi:= @Nat.min_eq_left
abbrev ahj:= @Int.emod_nonneg
abbrev NG:= @Nat.add_zero
abbrev Z2:= @List.not_mem_nil
abbrev aeJ:= @Bool.false_eq_true
abbrev aeK:= @Nat.eq_zero_or_pos
abbrev aeL:= @Array.any_eq_true'
abbrev aeM:= @of_decide_eq_false
abbrev sQ:= @BEq.comm
abbrev sR:= @Prod.ext
abbrev alb:= @List.length_filter_le
abbrev asS:= @Array.getElem?_eq_getElem
abbrev QE:= @Nat.sub_zero
abbrev aeN:= @List.all_eq_false
abbrev T2:= @Nat.lt_irrefl
abbrev asT:= @Nat.le_mul_of_pos_right
abbrev Z3:= @List.take_left
abbrev QF:= @Nat.one_mul
abbrev alc:= @List.find?_eq_none
abbrev T3:= @Bool.true_or
abbrev ald:= @Option.toList_some
abbrev asU:= @List.drop_eq_nil_of_le
abbrev BD:= @Eq.trans
abbrev ale:= @bne_self_eq_false
abbrev asV:= @List.getElem?_append
abbrev asW:= @List.mem_iff_getElem
abbrev asX:= @List.mem_of_mem_drop
abbrev alf:= @Option.bind_some
abbrev alg:= @List.any_eq_true
abbrev ayx:= @List.mem_or_eq_of_mem_set
abbrev ayy:= @List.pairwise_iff_getElem
abbrev asY:= @List.flatMap_append
abbrev ayz:= @List.getElem_append_left
abbrev alh:= @List.nodup_cons
abbrev ali:= @List.take_left'
abbrev alj:= @List.drop_drop
abbrev ayA:= @Array.getElem?_eq_none
abbrev aeO:= @Int.le_trans
abbrev aeP:= @Nat.succ_pos
abbrev alk:= @List.drop_left
abbrev ayB:= @Nat.div_lt_iff_lt_mul
abbrev ayC:= @List.countP_mono_left
abbrev ayD:= @List.set_getElem_self
abbrev Z4:= @Nat.mod_lt
abbrev asZ:= @Nat.mod_eq_of_lt
abbrev as0:= @List.take_append
abbrev alm:= @Bool.or_false
abbrev aln:= @List.sum_cons
abbrev as1:= @List.foldl_cons
abbrev as2:= @UInt8.toNat_inj
abbrev alo:= @Nat.zero_mul
abbrev alp:= @Nat.ne_of_lt
inductive Ty where
 |int (k:IntKind)|bool|str|unit
 |pair (a b:Ty)
 |sl (e:TypeId) (t:Ty)
@[reducible] def Ty.D:Ty->Type
 |.int _=>Int|.bool=>Bool|.str=>ByteArray|.unit=>Unit|.pair a b=>a.D×b.D|.sl _ t=>List t.D
def Ty.aC:(t:Ty)->t.D
 |.int _=>(0:Int)|.bool=>false|.str=>ByteArray.empty|.unit=>()|.pair a b=>(a.aC,b.aC)|.sl _ _=>[]
def Ty.n:Ty->Nat
 |.int _|.bool|.str|.sl _ _=>1|.unit=>0|.pair a b=>a.n+b.n
def ayE:IntKind->IntKind->Bool
 |.i8,.i8|.i16,.i16|.i32,.i32|.i64,.i64|.u8,.u8|.u16,.u16|.u32,.u32|.u64,.u64=>true|_,_=>false
def abG {a b:IntKind}(h:ayE a b=true):a=b:=by cases a<;>cases b<;>first|rfl|cases h
def Ty.beq:Ty->Ty->Bool
 |.int k,.int l=>ayE k l|.bool,.bool|.str,.str|.unit,.unit=>true|.pair a b,.pair c d=>a.beq c&&b.beq d|.sl e t,.sl f u=>Nat.beq e f&&t.beq u|_,_=>false
def Ty.beq_eq:∀{a b:Ty},a.beq b=true->a=b
 |.int k,.int l,h=>by rw[abG (show ayE k l=true from h)]
 |.bool,.bool,_|.str,.str,_|.unit,.unit,_=>rfl|.pair a b,.pair c d,h=>by have g:(a.beq c&&b.beq d)=true:=h;rw[Bool.and_eq_true]at g;rw[Ty.beq_eq g.1,Ty.beq_eq g.2]
 |.sl e t,.sl f u,h=>by have g:(Nat.beq e f&&t.beq u)=true:=h;rw[Bool.and_eq_true]at g;rw[Nat.eq_of_beq_eq_true g.1,Ty.beq_eq g.2]
def avU:List Ty->Ty
 |[]=>.unit|[a]=>a|a::b::l=>.pair a (avU (b::l))
def as3 (P:Program):Nat->TypeId->Option Ty
 |0,_=>none
 |n+1,t =>
  match P.underlying t with
  |some (.int k)=>some (.int k)|some .bool=>some .bool|some .string=>some .str|some (.slice e)=>(as3 P n e).map (.sl e)|some (.struct a)=>(a.toList.mapM fun f=>as3 P n f.type).map avU
  |some (.array m e)=>(as3 P n e).map fun t=>avU (List.replicate m t)
  |_=>none
inductive AC where
 |none
 |int (k:IntKind) (n:Int)
 |bool (b:Bool)
 |str (s:ByteArray)
 |nil
 |ro (f:Bool) (e:TypeId) (t:Ty) (xs:List t.D)
 |own (id:Nat) (len:Option Int)
 |ptr (b:Nat) (off:Nat)
 |Be (id:Nat) (i:Int) (off:Nat)
 |TI (f:Bool) (t:Ty) (x:t.D) (off:Nat)
 |fnp (g:Nat) (b:Nat)
 |any
inductive CV where
 |c (x:AC)
 |agg (l:List AC)
inductive AV where
 |v (x:CV)
 |TV (l:List CV)
def CV.cells:CV->List AC
 |.c x=>[x]|.agg l=>l
structure fo where
 e:TypeId
 t:Ty
 xs:List t.D
 f:Bool
 w:Bool
structure St where
 nt:Nat
 tm:List (Nat×AV)
 bx:List (Nat×List AC)
 bl:List (Nat×Option fo)
 sp:AV:=.v (.c .none)
 rob:List Nat:=[]
def look {U:Type}:List (Nat×U)->Nat->Option U
 |[],_=>none|(k,v)::l,n=>match Nat.beq k n with|true=>some v|false=>look l n
def St.get (st:St)(t:Nat):AV:=match look st.tm t with|some v=>v|none=>.v (.c .none)
def St.put (st:St)(d:Nat)(v:AV):St:={st with tm:=(d,v)::st.tm}
def St.oG (st:St)(id:Nat):Option fo:=match look st.bl id with|some b=>b|none=>none
def ck {U:Type}(c:Bool)(k:Option U):Option U:=match c with|true=>k|false=>none
def br {U:Type}(c:Bool)(x y:U):U:=match c with|true=>x|false=>y
def T4:Value->AC
 |.int k n=>.int k n|.bool b=>.bool b|.string s=>.str s|.slice none 0 0=>.nil|_=>.none
def Lk:Value->CV
 |.agg cs=>.agg (cs.toList.map T4)|v=>.c (T4 v)
def St.ev (st:St):Operand->AV
 |.tmp t=>st.get t|.const v=>.v (Lk v)|_=>.v (.c .none)
def St.dR (st:St)(o:Operand):CV:=match st.ev o with|.v x=>x|.TV _=>.c .none
def St.ac (st:St)(o:Operand):AC:=match st.dR o with|.c x=>x|.agg _=>.none
def CV.kn:CV->Bool
 |.c .none=>false|_=>true
def ex (f:Bool):(t:Ty)->t.D->List AC
 |.int k,x=>[.int k x]|.bool,x=>[.bool x]|.str,x=>[.str x]|.unit,_=>[]|.pair a b,x=>ex f a x.1++ex f b x.2|.sl e t,x=>[.ro f e t x]
def Yh {t u:Ty}(h:t=u)(x:List t.D):List u.D:=h▸x
def I8 {U:Type}(xs:List U):Option Int->List U
 |none=>xs|some n=>xs.take n.toNat
def cx (st:St)(t:Ty):AC->Option (List t.D)
 |.nil=>some []|.ro _ _ u xs=>if h:u.beq t=true then some (Yh (Ty.beq_eq h) xs) else none|.own id len=>match st.oG id with
  |some b=>if h:b.t.beq t=true then some (I8 (Yh (Ty.beq_eq h) b.xs) len) else none|none=>none
 |_=>none
def im (st:St):(t:Ty)->List AC->Option (t.D×List AC)
 |.int k,.int l n::r=>if ayE l k then some (n,r) else none|.bool,.bool b::r=>some (b,r)|.str,.str s::r=>some (s,r)|.unit,r=>some ((),r)|.pair a b,r=>match im st a r with
  |some (x,d)=>match im st b d with
   |some (y,e)=>some ((x,y),e)|none=>none
  |none=>none
 |.sl _ t,c::r=>match cx st t c with
  |some xs=>some (xs,r)|none=>none
 |_,_=>none
@[reducible] def Args:List (Ty×Bool)->Type
 |[]=>Unit|a::l=>a.1.D×Args l
structure Con where
 ps:List (Ty×Bool)
 rs:List (Ty×Bool)
 m:Nat
 g:Args ps->Option (Args rs)
inductive PM where
 |rd|own (f:Bool)|box|cur
structure Og where
 ps:List (Ty×Bool)
 i:Nat
 pm:PM
 rs:List (Ty×Bool)
 m:Nat
 qs:List (Ty×Bool)
 g:Args ps->Option (Args rs×Args qs)
structure Idx where
 g:Nat
 a:Ty×Bool
 q:Ty
 p:a.1.D->q.D->Bool
structure Sel where
 ps:List (Ty×Bool)
 i:Nat
 a:Ty×Bool
 b:Ty×Bool
 q:Ty×Bool
 g:Args ps->Option (a.1.D×b.1.D×q.1.D)
def alq:(t:Ty)->t.D->Bool
 |.bool,x=>x|.int _,x=>x==0|_,_=>false
def aIY:(t:Ty)->t.D->t.D
 |.bool,_=>true|.int _,_=>(0:Int)|_,x=>x
def aIZ:(t:Ty)->t.D->t.D
 |.bool,_=>false|_,x=>x
inductive Any where
 |one (c:Con)|two (c:Og)|sel (c:Sel)|idx (i:Idx)
 |ins (e:TypeId) (u:Ty)
 |del (e:TypeId) (u:Ty)
def pz {U:Type}(p:U->Bool):List U->Int->Int
 |[],_=>-1|x::l,i=>match p x with|true=>i|false=>pz p l (i+1)
def flat:Ty->Bool
 |.int _|.bool|.str|.unit=>true|.pair a b=>flat a&&flat b|.sl _ _=>false
def exR (id:Nat)(f:Bool):(t:Ty)->t.D->Nat->List AC×List (Nat×Option fo)
 |.int k,x,_=>([.int k x],[])|.bool,x,_=>([.bool x],[])|.str,x,_=>([.str x],[])|.unit,_,_=>([],[])|.pair a b,x,c=>((exR id f a x.1 c).1++(exR id f b x.2 (c+a.n)).1,(exR id f a x.1 c).2++(exR id f b x.2 (c+a.n)).2)|.sl e t,x,c=>([.own (id*64+c) none],[(id*64+c,some ⟨e,t,x,f || flat t,true⟩)])
structure oH where
 n:Nat
 mem:Int
 str:Int
@[reducible] def oH.Ll (n:Nat):oH:=⟨n,140737488355328,9223372036854775807⟩
def aHz {U:Type}(d:BinOp)(c:IntKind)(a b:Int)(k:AC->Option U):Option U :=
 match d with
 |.add=>k (.int c (c.wrap (a+b)))|.sub=>k (.int c (c.wrap (a-b)))|.mul=>k (.int c (c.wrap (a*b)))|.quo=>ck (!(b==0)) (k (.int c (c.wrap (a.tdiv b))))|.rem=>ck (!(b==0)) (k (.int c (a.tmod b)))|.and=>k (.int c (c.wrap (BitVec.ofInt c.bits a &&& BitVec.ofInt c.bits b).toNat))|.or=>k (.int c (c.wrap (BitVec.ofInt c.bits a ||| BitVec.ofInt c.bits b).toNat))|.xor=>k (.int c (c.wrap (BitVec.ofInt c.bits a ^^^ BitVec.ofInt c.bits b).toNat))|.eql=>k (.bool (a==b))|.neq=>k (.bool (a != b))|.lss=>k (.bool (decide (a<b)))|.leq=>k (.bool (decide (a<=b)))|.gtr=>k (.bool (decide (a>b)))|.geq=>k (.bool (decide (a>=b)))|_=>none
def aAB {U:Type}(d:BinOp)(c:IntKind)(a b:Int)(k:AC->Option U):Option U :=
 match d with
 |.shl=>ck (decide (0<=b)) (k (.int c (c.wrap (a*2 ^ (min b.toNat c.bits)))))|.shr=>ck (decide (0<=b)) (k (.int c (a.fdiv (2 ^ (min b.toNat c.bits)))))|_=>none
def aHA {U:Type}(F:oH)(c:BinOp)(a b:ByteArray)(k:AC->Option U):Option U :=
 match c with
 |.add=>ck (decide (((a.size+b.size:Nat):Int)<=F.str)) (k (.str (a++b)))|.eql=>k (.bool (a.toList==b.toList))|.neq=>k (.bool (!(a.toList==b.toList)))|.lss=>k (.bool (Op.bytesLess a.toList b.toList))|.leq=>k (.bool (Op.bytesLess a.toList b.toList || a.toList==b.toList))|.gtr=>k (.bool (!(Op.bytesLess a.toList b.toList || a.toList==b.toList)))|.geq=>k (.bool (!(Op.bytesLess a.toList b.toList)))|_=>none
def aF0 {U:Type}(P:Program)(F:oH)(c:BinOp)(e:TypeId)(x y:AC)(k:AC->Option U):Option U :=
 match x,y with
 |.int d a,.int f b=>match c with
  |.shl|.shr=>aAB c d a b k|_=>ck (ayE d f) (aHz c d a b k)
 |.str a,.str b=>aHA F c a b k|.bool a,.bool b=>match P.underlying e,c with
  |some .bool,.eql=>k (.bool (a==b))|some .bool,.neq=>k (.bool (!(a==b)))|_,_=>none
 |_,_=>none
def eqFields (P:Program):List Field->Nat->List AC->List AC->Option Bool
 |[],_,[],[]=>some true
 | f :: d, i, a :: r, b :: s => match Nat.beq f.offset i && !(f.name == "_") with
  |true=>match eqFields P d (i+1) r s with
   |some c=>match P.underlying f.type,a,b with
    |some (.int _),.int k x,.int l y=>match ayE k l with|true=>some ((x==y)&&c)|false=>none
    |some .string,.str x,.str y=>some ((x.toList==y.toList)&&c)|some .bool,.bool x,.bool y=>some ((x==y)&&c)|_,_,_=>none
   |none=>none
  |false=>none
 |_,_,_,_=>none
def alr (P:Program)(t:TypeId)(l m:List AC):Option Bool :=
 match P.underlying t with
 |some (.struct a)=>match P.stoodInHeld t || P.eqGuardType P.depth t with
  |false=>eqFields P a.toList 0 l m|true=>none
 |_=>none
def als (st:St):AC->Option Int
 |.nil=>some 0|.ro _ _ _ xs=>some (xs.length:Int)|.own _ (some n)=>some n|.own id none=>match st.oG id with|some b=>some (b.xs.length:Int)|none=>none
 |.str s=>some (s.size:Int)|_=>none
def avV (P:Program)(t:TypeId)(f:Nat):Option Nat :=
 match P.underlying t with
 |some (.struct a)=>match a[f]? with
  |some x=>match P.cellsOf x.type with
   |0=>none|_=>some x.offset
  |none=>none
 |_=>none
def as4 (P:Program)(t:TypeId)(f:Nat):Option (TypeId×Nat) :=
 match P.underlying t with
 |some (.struct a)=>match a[f]? with
  |some x=>some (x.type,x.offset)|none=>none
 |_=>none
def XE (P:Program)(t:TypeId):Option Bool :=
 match P.underlying t with
 |some (.struct _)|some (.array _ _)=>some true|some _=>some false|none=>none
def Es (P:Program)(t:TypeId):Option TypeId :=
 match P.underlying t with
 |some (.slice e)=>some e|_=>none
def NH {U:Type}:List U->Nat->U->List U
 |[],_,_=>[]|_::l,0,v=>v::l|x::l,n+1,v=>x::NH l n v
def mA {U:Type}:List U->Nat->Option U
 |[],_=>none|x::_,0=>some x|_::l,n+1=>mA l n
def sH {U:Type}:Nat->List U->List U
 |0,_=>[]|_+1,[]=>[]|n+1,x::l=>x::sH n l
def sI {U:Type}:Nat->List U->List U
 |0,l=>l|_+1,[]=>[]|n+1,_::l=>sI n l
def Hf {U:Type}:List U->Nat->List U->List U
 |l,_,[]=>l|l,n,v::a=>Hf (NH l n v) (n+1) a
def Bf (st:St):(t:Ty)->t.D->Nat×List AC->Option (t.D×(Nat×List AC))
 |.unit,x,s=>some (x,s)|.pair a b,x,s=>match Bf st a x.1 s with
  |some (y,f)=>match Bf st b x.2 f with
   |some (z,g)=>some ((y,z),g)|none=>none
  |none=>none
 |.int k,x,(0,c::r)=>match im st (.int k) [c]with|some (n,_)=>some (n,(0,r))|none=>none
 |.bool,x,(0,c::r)=>match im st .bool [c]with|some (n,_)=>some (n,(0,r))|none=>none
 |.str,x,(0,c::r)=>match im st .str [c]with|some (n,_)=>some (n,(0,r))|none=>none
 |.sl e t,x,(0,c::r)=>match im st (.sl e t) [c]with|some (n,_)=>some (n,(0,r))|none=>none
 |.int _,x,(0,[])=>some (x,(0,[]))|.bool,x,(0,[])=>some (x,(0,[]))|.str,x,(0,[])=>some (x,(0,[]))|.sl _ _,x,(0,[])=>some (x,(0,[]))|.int _,x,(d+1,l)=>some (x,(d,l))|.bool,x,(d+1,l)=>some (x,(d,l))|.str,x,(d+1,l)=>some (x,(d,l))|.sl _ _,x,(d+1,l)=>some (x,(d,l))
def St.dx (st:St):AC->St
 |.own id _=>match st.oG id with
  |some b=>{st with bl:=(id,some {b with w:=false})::st.bl}
  |none=>st
 |_=>st
def St.freeze (st:St)(l:List AC):St:=l.foldl St.dx st
def ahk:List AC->Bool
 |[]=>true|.none::_=>false|_::l=>ahk l
def ayG (id:Nat):List AC->Bool
 |[]=>true|.own i _::l=> !Nat.beq i id&&ayG id l|_::l=>ayG id l
def cj:List AC->Bool
 |[]=>true|.ro f _ _ _::l=>f&&cj l|_::l=>cj l
def oy (st:St):List AC->Bool
 |[]=>true|.own id _::l=>(match st.oG id with|some b=>b.f|none=>false)&&oy st l
 |_::l=>oy st l
def gV (s:ByteArray)(i:Int):Int:=((s.data.toList.getD i.toNat 0).toNat:Int)
def bytesOf (s:ByteArray):List Int:=s.data.toList.map fun b=>(b.toNat:Int)
def strOf (xs:List Int):ByteArray:=⟨(xs.map fun n=>UInt8.ofNat n.toNat).toArray⟩
def St.pk {U:Type}(st:St)(d:Option Tmp)(v:AV)(k:St->Option U):Option U :=
 match d with
 |none=>k st|some d=>ck (Nat.blt d st.nt) (k (st.put d v))
def St.lit (st:St)(o:Operand)(b:Bool):St :=
 match o with
 |.tmp t=>st.put t (.v (.c (.bool b)))|_=>st
section
variable (P:Program) (C:FuncId->Option Any) (F:oH) {U:Type}
def sS (t:TypeId):Option CV :=
 match P.info? t with
 |some i=>match i.zero with
  |some v=>some (Lk v)|none=>none
 |none=>none
def St.row (st:St)(d:Tmp)(b:fo)(k:St->Option U):Option U :=
 match look st.bl (d*64) with
 |some _=>none|none=>ck (Nat.blt d st.nt) (k {(st.put d (.v (.c (.own (d*64) none)))) with bl:=(d*64,some b)::st.bl})
def XF:List Nat->Nat->Bool
 |[],_=>false|x::l,n=>match Nat.beq x n with|true=>true|false=>XF l n
def hZ (st:St)(t:Ty):Nat->List (Nat×Operand)->Option (List t.D)
 |_,[]=>some []|i,(a,b)::l=>match Nat.beq i a with
  |true=>match im st t (st.dR b).cells with
   |some (x,[])=>match hZ st t (i+1) l with
    |some xs=>some (x::xs)|none=>none
   |_=>none
  |false=>none
def cn (st:St):List (Nat×Operand)->List AC
 |[]=>[]|(_,a)::l=>(st.dR a).cells++cn st l
def alu (t:TypeId):Option (List (Nat×Nat)) :=
 match P.underlying t with
 |some (.struct a)=>a.toList.mapM fun f=>(P.info? f.type).map fun i=>(f.offset,i.size)
 |_=>none
def BE (st:St)(b:List (Nat×Nat)):List AC->List (Nat×Operand)->Option (List AC)
 |acc,[]=>some acc|acc,(f,a)::l=>match mA b f with
  |some (off,size)=>match (st.dR a).kn&&Nat.beq size (st.dR a).cells.length&&Nat.ble (off+(st.dR a).cells.length) acc.length with
   |true=>BE st b (Hf acc off (st.dR a).cells) l|false=>none
  |none=>none
def tL (st:St):AC->Option (List AC×Nat)
 |.ptr b off=>match look st.bx b with|some l=>some (l,off)|none=>none
 |.Be id i off=>match st.oG id with|some b=>some (ex b.f b.t (b.xs.getD i.toNat b.t.aC),off)|none=>none
 |.TI f t x off=>some (ex f t x,off)|_=>none
def wg (o:Option Operand)(st:St)(d:Int):Option Int :=
 match o with
 |none=>some d|some x=>match st.ac x with|.int _ n=>some n|_=>none
def j2 (st:St):List Operand->List AC
 |[]=>[]|o::l=>(st.dR o).cells++j2 st l
def imV (st:St)(a:Ty×Bool)(c:CV):Option a.1.D :=
 match c,a.2 with
 |.agg l,true=>match im st a.1 l with
  |some (x,[])=>some x|_=>none
 |.c c,false=>match im st a.1 [c]with
  |some (x,[])=>some x|_=>none
 |_,_=>none
def im1 (st:St)(a:Ty×Bool)(o:Operand):Option a.1.D:=imV st a (st.dR o)
def NI (st:St):(ps:List (Ty×Bool))->List Operand->Option (Args ps)
 |[],[]=>some ()|a::l,b::os=>match im1 st a b with
  |some x=>match NI st l os with
   |some y=>some (x,y)|none=>none
  |none=>none
 |_,_=>none
def BF (st:St):(ps:List (Ty×Bool))->List CV->Option (Args ps)
 |[],[]=>some ()|a::l,b::os=>match imV st a b with
  |some x=>match BF st l os with
   |some y=>some (x,y)|none=>none
  |none=>none
 |_,_=>none
def aR:List CV->List AC
 |[]=>[]|c::l=>c.cells++aR l
def ex1 (id:Nat)(f:Bool)(a:Ty×Bool)(x:a.1.D)(j:Nat):CV×List (Nat×Option fo) :=
 (match a.2 with|true=>.agg (exR id f a.1 x j).1|false=>.c (match (exR id f a.1 x j).1 with|[c]=>c|_=>.none),(exR id f a.1 x j).2)
def kY (id:Nat)(f:Bool):(rs:List (Ty×Bool))->Args rs->Nat->List CV×List (Nat×Option fo)
 |[],_,_=>([],[])|a::l,x,b=>((ex1 id f a x.1 b).1::(kY id f l x.2 (b+a.1.n)).1,(ex1 id f a x.1 b).2++(kY id f l x.2 (b+a.1.n)).2)
def fG:List (Nat×Option fo)->St->Bool
 |[],_=>true|(id,_)::l,st=>(match look st.bl id with|some _=>false|none=>true)&&fG l st
def ek:List (Ty×Bool)->Bool
 |[]=>true|a::l=>(a.2 || Nat.beq a.1.n 1)&&ek l
def I9:List CV->AV
 |[v]=>.v v|l=>.TV l
def exF (f:Bool):(rs:List (Ty×Bool))->Args rs->List CV
 |[],_=>[]|a::l,x=>(match a.2 with|true=>.agg (ex f a.1 x.1)|false=>.c (match ex f a.1 x.1 with|[c]=>c|_=>.none))::exF f l x.2
def WY (con:Con)(st:St)(d:Option Tmp)(args:List Operand)(k:St->Option U):Option U :=
 match NI st con.ps args with
 |some x=>(con.g x).bind fun r =>
  match d with
  |none=>none|some d=>match con.m with
   |0=>ck (Nat.blt d st.nt&&ek con.rs) (k ((st.freeze (j2 st args)).put d (I9 (exF (oy st (j2 st args)&&cj (j2 st args)) con.rs r))))|1=>ck (Nat.blt d st.nt&&ek con.rs) (k (st.put d (I9 (exF true con.rs r))))
   |_ =>
    let q:=kY d true con.rs r 0
    ck (fG q.2 st&&Nat.blt d st.nt&&ek con.rs) (k {(st.put d (I9 q.1)) with bl:=q.2++st.bl})
 |_=>none
def gn (st:St)(m:Nat):List Nat->List AC->Bool
 |_,[]=>true|seen,.own id len::l=>match st.oG id with
  |some b=>(b.f || Nat.beq m 0 || Nat.beq m 3)&&(match m with|2|3=>b.w&& !XF seen id&&(match len with|none=>true|some _=>false)|_=>true)&&gn st m (id::seen) l
  |none=>false
 |seen,.ro f _ _ _::l=>(match m with|2|3=>false|1=>f|_=>true)&&gn st m seen l
 |seen,_::l=>gn st m seen l
def wh:List AC->Bool
 |[]=>true|.own _ _::_=>false|_::l=>wh l
def Fp (st:St):Ty->List AC->Option (List AC)
 |.sl e _,.own id _::r=>match st.oG id with
  |some b=>match Nat.beq b.e e with|true=>some r|false=>none
  |none=>none
 |.sl _ t,.nil::r=>match Nat.beq t.n 0 with|true=>none|false=>some r
 |.int _,_::r|.bool,_::r|.str,_::r=>some r|.unit,r=>some r|.pair a b,r=>match Fp st a r with|some r=>Fp st b r|none=>none
 |_,_=>none
def w3 (st:St):List (Ty×Bool)->List CV->Bool
 |[],[]=>true|a::l,b::os=>(match Fp st a.1 b.cells with|some []=>true|_=>false)&&w3 st l os
 |_,_=>false
def pmM:Bool->Nat
 |true=>2|false=>3
def im2 (st:St)(pm:PM)(a:Ty×Bool)(o:Operand):Option a.1.D:=match pm with
 |.rd=>im1 st a o|.own f=>match gn st (pmM f) [] (st.dR o).cells&&w3 st [a] [st.dR o]with|true=>im1 st a o|false=>none
 |.box=>match st.dR o with
  |.c (.ptr b 0)=>match look st.bx b with|some l=>imV st a (.agg l)|none=>none
  |_=>none
 |.cur=>match st.dR o with
  |.c (.ptr b 0)=>match look st.bx b with|some l=>(match wh l with|true=>imV st a (.agg l)|false=>none)|none=>none
  |_=>none
def jy (st:St)(pm:PM):Nat->(ps:List (Ty×Bool))->List Operand->Option (Args ps)
 |0,a::l,b::os=>match im2 st pm a b with
  |some x=>match NI st l os with|some y=>some (x,y)|none=>none
  |none=>none
 |i+1,a::l,b::os=>match im1 st a b with
  |some x=>match jy st pm i l os with|some y=>some (x,y)|none=>none
  |none=>none
 |_,_,_=>none
def gp (st:St)(pm:PM):Nat->List Operand->List AC
 |0,a::os=>(match pm with
  |.rd=>(st.dR a).cells|.own _|.cur=>[]|.box=>match st.dR a with|.c (.ptr b _)=>(match look st.bx b with|some l=>l|none=>[])|_=>[])++j2 st os
 |i+1,a::os=>(st.dR a).cells++gp st pm i os|_,[]=>[]
def apV (st:St)(i:Nat)(args:List Operand):CV:=match mA args i with|some a=>st.dR a|none=>.c .none
def St.gone (st:St):List AC->St
 |[]=>st|.own id _::l=>{st.gone l with bl:=(id,none)::(st.gone l).bl}
 |_::l=>st.gone l
def sT (f:Bool):(t:Ty)->t.D->List AC->List (Nat×Option fo)×List AC
 |.pair a b,x,l=>((sT f a x.1 l).1++(sT f b x.2 (sT f a x.1 l).2).1,(sT f b x.2 (sT f a x.1 l).2).2)|.unit,_,l=>([],l)|.sl e t,x,.own id _::l=>([(id,some ⟨e,t,x,f,true⟩)],l)|_,_,_::l=>([],l)|_,_,[]=>([],[])
def m2 (m:Nat):Bool:=Nat.beq m 2
def rdM:Nat->Option Bool
 |4=>some true|5=>some false|_=>none
def as5 (f:Bool)(rs:List (Ty×Bool))(st:St)(d:Tmp)(r:Args rs)(k:St->Option U):Option U :=
 match rs,r with
 |[a],r=>match look st.bx d with
  |none=>ck (Nat.blt d st.nt&&a.2) (k {(st.put d (.v (.c (.ptr d 0)))) with bx:=(d,ex f a.1 r.1)::st.bx})
  |some _=>none
 |_,_=>none
def abH (rs a:List (Ty×Bool))(m:Nat)(st:St)(c:CV)(d:Tmp)(r:Args rs×Args a)(k:St->Option U):Option U :=
 let q:=kY d (m2 m) rs r.1 0
 ck ((Nat.beq m 2 || Nat.beq m 3)&&fG q.2 st&&Nat.blt d st.nt&&ek rs) (match a,r with
  |[],_=>k {(st.put d (I9 q.1)) with bl:=q.2++(st.gone c.cells).bl}
  |[p],r=>k {(st.put d (I9 q.1)) with bl:=q.2++((sT (m2 m) p.1 r.2.1 c.cells).1++st.bl)}
  |_,_=>none)
def akJ (rs a:List (Ty×Bool))(m:Nat)(st:St)(c:CV)(d:Tmp)(r:Args rs×Args a)(k:St->Option U):Option U :=
 match a,r,c with
 |[p],r,.c (.ptr b _)=>match m with
  |0=>ck (Nat.blt d st.nt&&ek rs) (k {(st.put d (I9 (exF false rs r.1))) with bx:=(b,ex false p.1 r.2.1)::st.bx})
  |1=>ck (Nat.blt d st.nt&&ek rs) (k {(st.put d (I9 (exF true rs r.1))) with bx:=(b,ex false p.1 r.2.1)::st.bx})
  |m =>
   let q:=kY d (m2 m) rs r.1 0
   ck ((Nat.beq m 2 || Nat.beq m 3)&&fG q.2 st&&Nat.blt d st.nt&&ek rs) (k {(st.put d (I9 q.1)) with bl:=q.2++st.bl,bx:=(b,ex false p.1 r.2.1)::st.bx})
 |_,_,_=>none
def akK (rs e:List (Ty×Bool))(m:Nat)(st:St)(c:CV)(d:Tmp)(r:Args rs×Args e)(k:St->Option U):Option U :=
 match e,r,c with
 |[p],r,.c (.ptr b _)=>match look st.bx b with
  |some a=>match m with
   |0=>ck (Nat.blt d st.nt&&ek rs) (k {(st.put d (I9 (exF false rs r.1))) with bx:=(b,ex (cj a) p.1 r.2.1)::st.bx})
   |1=>ck (Nat.blt d st.nt&&ek rs) (k {(st.put d (I9 (exF (cj a) rs r.1))) with bx:=(b,ex (cj a) p.1 r.2.1)::st.bx})
   |m =>
    let q:=kY d (cj a) rs r.1 0
    ck (Nat.beq m 2&&fG q.2 st&&Nat.blt d st.nt&&ek rs) (k {(st.put d (I9 q.1)) with bl:=q.2++st.bl,bx:=(b,ex (cj a) p.1 r.2.1)::st.bx})
  |none=>none
 |_,_,_=>none
def aF1 (st:St)(con:Og)(args:List Operand):List AC:=match con.pm with
 |.cur=>(match con.m with|1|2=>[]|_=>gp st .cur con.i args)
 |pm=>gp st pm con.i args
def abI (con:Og)(st:St)(d:Option Tmp)(args:List Operand)(k:St->Option U):Option U :=
 let a:=st.freeze (aF1 st con args)
 match jy a con.pm con.i con.ps args with
 |some x=>(con.g x).bind fun r =>
  match d with
  |none=>none|some d=>match con.pm with
   |.rd=>match rdM con.m with
    |some f=>as5 f con.rs a d r.1 k|none=>none
   |.own _=>abH con.rs con.qs con.m a (apV a con.i args) d r k|.box=>akJ con.rs con.qs con.m a (apV a con.i args) d r k|.cur=>akK con.rs con.qs con.m a (apV a con.i args) d r k
 |none=>none
def aDG (a:Ty×Bool):CV:=match a.2 with|true=>.agg (List.replicate a.1.n .any)|false=>.c .none
def aHB (a:Ty×Bool)(c:CV):Bool:=match a.2,c with
 |true,.agg l=>Nat.beq l.length a.1.n&&ahk l|true,.c _=>false|false,_=>true
def aDH (a b q:Ty×Bool)(st:St)(c:CV)(d:Tmp)(n:b.1.D)(y:q.1.D)(k:St->Option U):Option U :=
 ck (Nat.blt d st.nt&&ek [b]&&fG (kY d true [b] (n,()) 0).2 st) (k {(st.put d (.TV (aDG a::(kY d true [b] (n,()) 0).1))) with bl:=(kY d true [b] (n,()) 0).2++((sT true q.1 y c.cells).1++st.bl)})
def as6 (con:Sel)(st:St)(d:Option Tmp)(args:List Operand)(k:St->Option U):Option U :=
 let a:=st.freeze (gp st (.own true) con.i args)
 match jy a (.own true) con.i con.ps args with
 |some x=>(con.g x).bind fun r =>
  match d with
  |none=>none|some d=>br (alq con.b.1 r.2.1) (abH [con.a,con.b] [] 2 a (apV a con.i args) d ((r.1,(aIY con.b.1 r.2.1,())),()) k) (aDH con.a con.b con.q a (apV a con.i args) d (aIZ con.b.1 r.2.1) r.2.2 k)
 |none=>none
def as7 (i:Idx)(st:St)(d:Option Tmp)(args:List Operand)(k:St->Option U):Option U :=
 match args with
 |[s,f]=>match st.ac f with
  |.fnp g b=>match Nat.beq g i.g with
   |true=>match look st.bx b with
    |some l=>match im st i.q l with
     |some (y,[])=>match cx st i.a.1 (st.ac s) with
      |some xs=>st.pk d (.v (.c (.int .i64 (pz (fun x=>i.p x y) xs 0)))) k
      |none=>none
     |_=>none
    |none=>none
   |false=>none
  |_=>none
 |_=>none
def Z5 (c:Bool)(st:St):Int->List Operand->Option Int
 |a,[]=>some a|a,d::l=>match st.ac d with
  |.int _ b=>Z5 c st (match c with|true=>if b>a then b else a|false=>if b<a then b else a) l
  |_=>none
def T5 (st:St)(e:TypeId)(u:Ty):AC->Option (List u.D×Bool×St)
 |.nil=>some ([],true,st)|.own id none=>match st.oG id with
  |some b=>match b.w&&Nat.beq b.e e with
   |true=>if h:b.t.beq u=true then some (Yh (Ty.beq_eq h) b.xs,b.f,{st with bl:=(id,none)::st.bl}) else none
   |false=>none
  |none=>none
 |_=>none
def WZ (st:St)(u:Ty):AC->Option (List u.D×Bool)
 |.own id len=>match cx st u (.own id len),st.oG id with
  |some a,some b=>some (a,b.f)|_,_=>none
 |.ro f c d a=>match cx st u (.ro f c d a) with
  |some a=>some (a,f)|none=>none
 |.nil=>some ([],true)|_=>none
def ayI (e:TypeId)(u:Ty)(st:St)(d:Option Tmp)(args:List Operand)(k:St->Option U):Option U :=
 match d,args with
 |some d,[s,i,v]=>match st.ac i,st.ac v with
  |.int .i64 n,.own a none=>match st.oG a with
   |some b=>match b.w&&Nat.beq b.e e with
    |true=>if h:b.t.beq u=true then
      match T5 st e u (st.ac s) with
      |some (xs,f,c)=>match look c.bl a with
       |some (some _)=>ck (!Nat.beq u.n 0&&decide (0<=n)&&decide (n<=(xs.length:Int))&&decide (1<=(b.xs.length:Int))&&decide (((xs.length+b.xs.length:Nat):Int)<=1073741824))
         (c.row d ⟨e,u,xs.take n.toNat++Yh (Ty.beq_eq h) b.xs++xs.drop n.toNat,f&&(b.f || flat u),true⟩ k)
       |_=>none
      |none=>none
     else none
    |false=>none
   |none=>none
  |_,_=>none
 |_,_=>none
def ayJ (e:TypeId)(u:Ty)(st:St)(d:Option Tmp)(args:List Operand)(k:St->Option U):Option U :=
 match d,args with
 |some d,[s,i,a]=>match st.ac i,st.ac a with
  |.int .i64 n,.int .i64 m=>match T5 st e u (st.ac s) with
   |some (xs,f,b)=>ck (!Nat.beq u.n 0&&decide (0<=n)&&decide (n<=m)&&decide (m<=(xs.length:Int)))
     (b.row d ⟨e,u,xs.take n.toNat++xs.drop m.toNat,f,true⟩ k)
   |none=>none
  |_,_=>none
 |_,_=>none
def aAD:CV->Bool
 |.c (.int .u8 0)=>true|_=>false
def Oh (st:St)(d:Tmp)(s x:AC)(t c e:TypeId)(u:Ty)(z:CV)(k:St->Option U):Option U :=
 match T5 st e u s with
 |some (xs,f,a)=>match x with
  |.str w=>if h:u.beq (.int .u8)=true then
    match P.underlying c with
    |some .string=>ck (Nat.beq (P.cellsOf e) 1&&Nat.beq (P.bytesOf e) 1&&aAD z&&decide (((xs.length+w.size:Nat):Int)<=F.mem))
      (a.row d ⟨e,.int .u8,Yh (Ty.beq_eq h) xs++bytesOf w,f,true⟩ k)
    |_=>none
   else none
  |x=>match WZ st u x with
   |some (b,g) =>
    ck (Nat.beq t c&&Nat.beq (P.cellsOf e) u.n&&Nat.beq z.cells.length u.n&&z.kn&& !Nat.beq u.n 0&& !Nat.beq (P.bytesOf e) 0&&decide (((xs.length+b.length:Nat):Int)*(P.bytesOf e:Int)<=F.mem))
     (a.row d ⟨e,u,xs++b,f&&(g || flat u),true⟩ k)
   |none=>none
 |none=>none
def fB (o:Oper)(st:St)(k:St->Option U):Option U :=
 match o.op with
 |.move x|.assign x=>st.pk o.dst (st.ev x) k|.pick c a b=>match st.ac c with
  |.bool v=>br v ((st.lit c true).pk o.dst (st.ev a) k) ((st.lit c false).pk o.dst (st.ev b) k)|_=>none
 |.box t x=>match o.dst with
  |some d=>match XF st.rob d with
   |true=>match as3 P 20 t with
    |some u=>match im st u (st.dR x).cells with
     |some (y,[])=>ck (Nat.blt d st.nt&&(st.dR x).kn&&oy st (st.dR x).cells) (k ((st.freeze (st.dR x).cells).put d (.v (.c (.TI (cj (st.dR x).cells) u y 0)))))|_=>none
    |none=>none
   |false=>match look st.bx d with
    |none=>ck (Nat.blt d st.nt&&(st.dR x).kn) (k {(st.put d (.v (.c (.ptr d 0)))) with bx:=(d,(st.dR x).cells)::st.bx})
    |some _=>none
  |none=>none
 |.alloc t=>match o.dst with
  |some d=>match look st.bx d with
   |none=>match sS P t with
    |some z=>ck (Nat.blt d st.nt&&z.kn) (k {(st.put d (.v (.c (.ptr d 0)))) with bx:=(d,z.cells)::st.bx})
    |none=>none
   |some _=>none
  |none=>none
 |.build t parts=>match sS P t,alu P t with
  |some z,some I=>match z.kn,BE st I z.cells parts.toList with
   |true,some l=>st.pk o.dst (.v (.agg l)) k|_,_=>none
  |_,_=>none
 |.buildSlice t len parts=>match o.dst,Es P t with
  |some d,some e=>match as3 P 20 e with
   |some u=>match hZ st u 0 parts.toList with
    |some xs=>match Nat.beq parts.toList.length len&&oy st (cn st parts.toList)&&(Nat.beq (P.cellsOf e) u.n&& !Nat.beq u.n 0&&Nat.ble (len*u.n) 16777216&&(sS P e).isSome) with
     |true=>(st.freeze (cn st parts.toList)).row d ⟨e,u,xs,cj (cn st parts.toList),true⟩ k|false=>none
    |none=>none
   |none=>none
  |_,_=>none
 |.load t a=>match tL st (st.ac a) with
  |some (l,off) =>
   let q:=sH (P.cellsOf t) (sI off l)
   match Nat.beq q.length (P.cellsOf t) with
   |true=>match XE P t with
    |some true=>st.pk o.dst (.v (.agg q)) k|some false=>match q with
     |[x]=>st.pk o.dst (.v (.c x)) k|_=>none
    |none=>none
   |false=>none
  |none=>none
 |.store t a x=>match (st.dR x).kn&&ahk (st.dR x).cells&&Nat.beq (P.cellsOf t) (st.dR x).cells.length&&(P.info? t).isSome with
  |true=>match st.ac a with
   |.ptr b off=>match look st.bx b with
    |some l=>match Nat.ble (off+(st.dR x).cells.length) l.length with
     |true=>({st with bx:=(b,Hf l off (st.dR x).cells)::st.bx}).pk o.dst (.TV []) k
     |false=>none
    |none=>none
   |.Be id i off=>match st.oG id with
    |some b=>match b.w&&oy st (st.dR x).cells&&ayG id (st.dR x).cells with
     |true=>match Bf st b.t (b.xs.getD i.toNat b.t.aC) (off,(st.dR x).cells) with
      |some (y,(0,[])) =>
       let E:=st.freeze (st.dR x).cells
       ({E with bl:=(id,some {b with xs:=b.xs.set i.toNat y,f:=b.f&&cj (st.dR x).cells})::E.bl}).pk o.dst (.TV []) k
      |_=>none
     |false=>none
    |none=>none
   |_=>none
  |false=>none
 |.nilCheck x=>match st.ac x with
  |.ptr b off=>st.pk o.dst (.v (.c (.ptr b off))) k|_=>none
 |.binOp op G x y _=>match st.dR x,st.dR y with
  |.c a,.c b=>aF0 P F op G a b fun r=>st.pk o.dst (.v (.c r)) k
  |.agg l,.agg m=>match op,alr P G l m with
   |.eql,some c=>st.pk o.dst (.v (.c (.bool c))) k|.neq,some c=>st.pk o.dst (.v (.c (.bool (!c)))) k|_,_=>none
  |_,_=>none
 |.unOp op _ x=>match op,st.ac x with
  |.not,.bool b=>st.pk o.dst (.v (.c (.bool (!b)))) k|.neg,.int j n=>st.pk o.dst (.v (.c (.int j (j.wrap (0-n))))) k|_,_=>none
 |.convert src dst x=>match P.underlying src,P.underlying dst,st.ac x with
  |some (.int _),some (.int j),.int _ n=>st.pk o.dst (.v (.c (.int j (j.wrap n)))) k|some .string,some .string,.str s=>st.pk o.dst (.v (.c (.str s))) k|some .string,some (.slice e),.str s=>match P.underlying e with
   |some (.int .u8)=>ck (decide ((s.size:Int)<=F.mem)) (st.pk o.dst (.v (.c (.ro true e (.int .u8) (bytesOf s)))) k)|_=>none
  |some (.slice e),some .string,c=>match P.underlying e,cx st (.int .u8) c with
   |some (.int .u8),some xs=>st.pk o.dst (.v (.c (.str (strOf xs)))) k|_,_=>none
  |_,_,_=>none
 |.makeSlice t a b=>match o.dst,Es P t,st.ac a,st.ac b with
  |some d,some e,.int .i64 n,.int .i64 m=>match as3 P 20 e,sS P e with
   |some u,some z=>match im st u z.cells with
    |some (x,[])=>ck (z.kn&&(Nat.beq (P.cellsOf e) u.n&& !Nat.beq u.n 0&& !Nat.beq (P.bytesOf e) 0)&&decide (0<=n)&&n==m&&decide (n*(P.bytesOf e:Int)<=F.mem))
      (st.row d ⟨e,u,List.replicate n.toNat x,true,true⟩ k)
    |_=>none
   |_,_=>none
  |_,_,_,_=>none
 |.slice t x p B none=>match P.underlying t with
  |some .string=>match st.ac x with
   |.str s=>match wg p st 0,wg B st (s.size:Int) with
    |some l,some h=>ck (decide (0<=l)&&decide (l<=h)&&decide (h<=(s.size:Int))) (st.pk o.dst (.v (.c (.str (s.extract l.toNat h.toNat)))) k)|_,_=>none
   |_=>none
  |some (.slice D)=>match st.ac x with
   |.ro f e u xs=>match wg p st 0,wg B st (xs.length:Int) with
    |some l,some h=>ck (Nat.beq (P.cellsOf D) u.n&& !Nat.beq u.n 0&&(decide (0<=l)&&decide (l<=h)&&decide (h<=(xs.length:Int)))) (st.pk o.dst (.v (.c (.ro f e u ((xs.take h.toNat).drop l.toNat)))) k)|_,_=>none
   |.own id none=>match st.oG id,p with
    |some b,none=>match wg B st (b.xs.length:Int) with
     |some h=>ck (Nat.beq (P.cellsOf D) b.t.n&&(decide (0<=h)&&decide (h<=(b.xs.length:Int)))) (st.pk o.dst (.v (.c (.own id (some h)))) k)|none=>none
    |some b,some p=>match wg (some p) st 0,wg B st (b.xs.length:Int) with
     |some l,some h=>ck (Nat.beq (P.cellsOf D) b.t.n&&(decide (0<=l)&&decide (l<=h)&&decide (h<=(b.xs.length:Int))))
       (({st with bl:=(id,some {b with w:=false})::st.bl}).pk o.dst (.v (.c (.ro b.f b.e b.t ((b.xs.take h.toNat).drop l.toNat)))) k)
     |_,_=>none
    |none,_=>none
   |_=>none
  |_=>none
 |.fieldAddr t x f=>match avV P t f with
  |some q=>match st.ac x with
   |.ptr b off=>st.pk o.dst (.v (.c (.ptr b (off+q)))) k|.Be id i off=>match st.oG id with
    |some _=>st.pk o.dst (.v (.c (.Be id i (off+q)))) k|none=>none
   |.TI K u y off=>st.pk o.dst (.v (.c (.TI K u y (off+q)))) k|_=>none
  |none=>none
 |.indexAddr t x i=>match st.ac i with
  |.int _ n=>match P.underlying t with
   |some (.slice e)=>match st.ac x with
    |.own id len=>match st.oG id with
     |some b=>match als st (.own id len) with
      |some m=>ck (Nat.beq (P.cellsOf e) b.t.n&&(decide (0<=n)&&decide (n<m))) (st.pk o.dst (.v (.c (.Be id n 0))) k)|none=>none
     |none=>none
    |.ro f _ u xs=>ck (Nat.beq (P.cellsOf e) u.n&& !Nat.beq u.n 0&&(decide (0<=n)&&decide (n<(xs.length:Int)))) (st.pk o.dst (.v (.c (.TI f u (xs.getD n.toNat u.aC) 0))) k)|_=>none
   |some (.array m e)=>match st.ac x with
    |.ptr b off=>ck (!Nat.beq (P.cellsOf e) 0&&(decide (0<=n)&&decide (n<(m:Int)))) (st.pk o.dst (.v (.c (.ptr b (off+n.toNat*P.cellsOf e)))) k)|_=>none
   |_=>none
  |_=>none
 |.index t x i=>match P.underlying t,st.ac x,st.ac i with
  |some .string,.str s,.int _ n=>ck (decide (0<=n)&&decide (n<(s.size:Int))) (st.pk o.dst (.v (.c (.int .u8 (gV s n)))) k)|_,_,_=>none
 |.field t x f=>match as4 P t f,st.dR x with
  |some (t,off),.agg l =>
   let q:=sH (P.cellsOf t) (sI off l)
   match Nat.beq q.length (P.cellsOf t) with
   |true=>match XE P t with
    |some true=>st.pk o.dst (.v (.agg q)) k|some false=>match q with
     |[x]=>st.pk o.dst (.v (.c x)) k|_=>none
    |none=>none
   |false=>none
  |_,_=>none
 |.extract x i=>match st.ev x with
  |.TV l=>match mA l i with
   |some v=>st.pk o.dst (.v v) k|none=>none
  |_=>none
 |.call {callee:=.value (.func f),args,..}=>match C f with
  |some (.one A)=>WY A st o.dst args.toList k|some (.two A)=>abI A st o.dst args.toList k|some (.sel A)=>as6 A st o.dst args.toList k|some (.idx i)=>as7 i st o.dst args.toList k|some (.ins e u)=>ayI e u st o.dst args.toList k|some (.del e u)=>ayJ e u st o.dst args.toList k|none=>none
 |.call {callee:=.builtin .len,args,argTypes}=>match args.toList,argTypes.toList with
  |[x],[t]=>match P.underlying t,als st (st.ac x) with
   |some .string,some n=>match st.ac x with|.str _=>st.pk o.dst (.v (.c (.int .i64 n))) k|_=>none
   |some (.slice _),some n=>match st.ac x with|.str _=>none|_=>st.pk o.dst (.v (.c (.int .i64 n))) k
   |_,_=>none
  |_,_=>none
 |.call {callee:=.builtin .max,args,..}=>match args.toList with
  |x::l=>match st.ac x with
   |.int j a=>match Z5 true st a l with
    |some r=>st.pk o.dst (.v (.c (.int j r))) k|none=>none
   |_=>none
  |_=>none
 |.call {callee:=.builtin .min,args,..}=>match args.toList with
  |x::l=>match st.ac x with
   |.int j a=>match Z5 false st a l with
    |some r=>st.pk o.dst (.v (.c (.int j r))) k|none=>none
   |_=>none
  |_=>none
 |.call {callee:=.builtin .append,args,argTypes}=>match o.dst,args.toList,argTypes.toList with
  |some d,[s,x],[t,t2]=>match Es P t with
   |some e=>match as3 P 20 e,sS P e with
    |some u,some z=>Oh P F st d (st.ac s) (st.ac x) t t2 e u z k|_,_=>none
   |none=>none
  |_,_,_=>none
 |.makeFunc (.func g) first L=>match first.toList,L.toList with
  |[],[x]=>match st.ac x with
   |.ptr b 0=>st.pk o.dst (.v (.c (.fnp g b))) k|_=>none
  |_,_=>none
 |_=>none
def w4 (all:List Oper):List Oper->St->(St->Option U)->Option U
 |[],st,k=>k st|o::l,st,k=>match o.guard with
  |none=>fB P C F o st fun st=>w4 all l st k
  |some (c,T6)=>match mA all c with
   |some d=>match d.dst with
    |some a=>match st.get a with
     |.v (.c (.bool b)) =>
      let yes (st:St):Option U:=fB P C F o st fun st=>w4 all l st k
      let no (st:St):Option U:=st.pk o.dst (.TV []) fun st=>w4 all l st k
      br b (let st:=st.put a (.v (.c (.bool true)));match T6 with|true=>yes st|false=>no st)
         (let st:=st.put a (.v (.c (.bool false)));match T6 with|true=>no st|false=>yes st)
     |.TV []=>st.pk o.dst (.TV []) fun st=>w4 all l st k
     |_=>none
    |none=>none
   |none=>none
def QG (all:List Oper)(o:Oper)(st:St)(k:St->Option U):Option U :=
 match o.guard with
 |none=>fB P C F o st k|some (c,T6)=>match mA all c with
  |some d=>match d.dst with
   |some a=>match st.get a with
    |.v (.c (.bool b)) =>
     br b (let st:=st.put a (.v (.c (.bool true)));match T6 with|true=>fB P C F o st k|false=>st.pk o.dst (.TV []) k)
        (let st:=st.put a (.v (.c (.bool false)));match T6 with|true=>st.pk o.dst (.TV []) k|false=>fB P C F o st k)
    |.TV []=>st.pk o.dst (.TV []) k|_=>none
   |none=>none
  |none=>none
def oz (o:Oper):Bool:=match o.op with
 |.move _|.assign _|.pick _ _ _|.load _ _|.nilCheck _|.binOp _ _ _ _ _|.unOp _ _ _|.fieldAddr _ _ _|.indexAddr _ _ _|.index _ _ _|.field _ _ _|.extract _ _|.build _ _|.slice _ _ _ _ _=>true|.convert _ dst _=>match P.underlying dst with|some (.slice _)=>false|_=>true
 |.call {callee:=.builtin .len,..}|.call {callee:=.builtin .min,..}|.call {callee:=.builtin .max,..}=>true|_=>false
def ayK (o:Oper):Bool:=match o.op with
 |.call {callee:=.value (.func f),..}=>match C f with|some (.one _)=>true|_=>false
 |_=>false
def bE (o:Oper):Bool:=match o.guard,o.dst,o.op with
 |none,some _,.alloc t=>match sS P t with|some z=>z.kn|none=>false
 |none,some _,.buildSlice t len parts=>match Es P t with
  |some e=>match as3 P 20 e with
   |some u=>(flat u || Nat.beq len 0)&&Nat.beq parts.toList.length len&&(Nat.beq (P.cellsOf e) u.n&& !Nat.beq u.n 0&&Nat.ble (len*u.n) 16777216&&(sS P e).isSome)|none=>false
  |none=>false
 |_,_,_=>false
def as8 (o:Oper):Bool:=match o.op with
 |.alloc _|.box _ _|.buildSlice _ _ _=>true|_=>false
def alv:Option Tmp->Option Tmp->Bool
 |some a,some b=>Nat.beq a b|_,_=>false
def Hg (o:Oper):Bool:=bE P o&&match o.op with|.buildSlice _ 0 _=>true|_=>false
def Z6 (o:Oper):Option Tmp:=match o.op with
 |.call {callee:=.builtin .append,args,argTypes}=>match args.toList,argTypes.toList with
  |[.tmp t,_],[a,b]=>match Nat.beq a b with|true=>some t|false=>none
  |_,_=>none
 |_=>none
def Oi (ops:Array Oper)(o:Oper):Bool:=match Z6 o with
 |some t=>(List.range ops.size).any fun x=>match ops[x]? with
  |some a=>Hg P a&&alv a.dst (some t)&&o.after.any fun e=>Region.binds .any e&&Nat.beq e.on x
  |none=>false
 |none=>false
def pA (ops:Array Oper)(o:Oper):Bool:=oz P o || bE P o || ayK C o || as8 o || Oi P ops o
def aJM (o:Oper):Bool:=match o.op with
 |.load _ _|.convert _ _ _=>true|_=>false
def Ja (st:St)(o:Oper):Bool:=match o.op with
 |.load _ a=>match st.ac a with|.TI _ _ _ _=>true|_=>false
 |.convert _ _ _=>false|_=>true
def aAE (ops:List Oper)(st:St)(o:Oper):Bool:=match o.guard with
 |none=>false|some (a,T6)=>match mA ops a with
  |some b=>match b.dst with
   |some c=>match st.get c,T6 with
    |.v (.c (.bool true)),false=>true|.v (.c (.bool false)),true=>true|.TV [],_=>true|_,_=>false
   |none=>false
  |none=>false
def St.drop (st:St)(t:Tmp):St:={st with tm:=st.tm.filter fun p=> !Nat.beq p.1 t}
def gW (ops:Array Oper)(a:Array Bool):List Nat->St->St
 |[],st=>st|i::l,st=>match ops[i]? with
  |some b=>match bE P b&& !a.getD i true,b.dst with
   |true,some d=>(gW ops a l st).drop d|_,_=>gW ops a l st
  |none=>gW ops a l st
def abJ (o:Oper)(t:Tmp):Bool:=match o.op with
 |.buildSlice _ _ parts=>parts.toList.any fun p=>match p.2 with|.tmp s=>Nat.beq s t|_=>false
 |_=>false
def Lm (st:St)(o:Oper):Bool:=match o.op with
 |.buildSlice t _ parts=>match Es P t with
  |some e=>match as3 P 20 e with
   |some u=>(hZ st u 0 parts.toList).isSome|none=>false
  |none=>false
 |_=>true
def waits (ops:Array Oper)(b:Array Bool)(o:Oper):Bool:=o.after.any fun e=>Region.binds .any e&&match ops[e.on]? with|some a=> !bE P a&& !b.getD e.on true|none=>false
def alw (ops:Array Oper)(b:Array Bool)(st:St):List Nat->Bool
 |[]=>true|y::l=>(match ops[y]? with|some a=> !bE P a || b.getD y true || waits P ops b a || Lm P st a|none=>true)&&alw ops b st l
def alx (ops:Array Oper):Bool:=(List.range ops.size).all fun x=>match ops[x]? with
 |some a=> !bE P a || (List.range ops.size).all fun y=>match ops[y]? with
  |some b=>match b.dst with
   |some t=> !abJ a t || (!bE P b&&a.after.any fun e=>Region.binds .any e&&Nat.beq e.on y)
   |none=>true
  |none=>true
 |none=>true
def q7 (ops:Array Oper)(nt:Nat):Bool:=alx P ops&&(List.range ops.size).all fun x=>match ops[x]? with
 |some a=> !bE P a || ((match a.dst with|some d=>Nat.blt d nt|none=>false)&&(List.range ops.size).all fun y=>Nat.beq y x || match ops[y]? with|some b=> !alv b.dst a.dst|none=>true)
 |none=>true
def nA (ops:Array Oper)(a:Array Bool)(i:Nat):Nat->Oper->Bool
 |0,_=>false|n+1,b=>b.after.any fun e=>Region.binds .any e&&(e.on==i || (!a.getD e.on true&&match ops[e.on]? with|some c=>nA ops a i n c|none=>false))
def T7 (o:Oper):Option Tmp:=match o.op with
 |.call {callee:=.value (.func f),args,..}=>match C f with
  |some (.two a)=>match a.pm with
   |.box|.cur=>match mA args.toList a.i with|some (.tmp t)=>some t|_=>none
   |_=>none
  |_=>none
 |.store _ (.tmp t) _=>some t|_=>none
def ayL (ops:Array Oper)(c:Array Bool)(t:Tmp):Bool:=(List.range ops.size).all fun a=>match ops[a]? with
 |some b=>c.getD a true || !alv b.dst (some t)|none=>true
def QH (o:Oper):Bool:=match o.op with|.alloc _=>true|_=>false
def aDI (ops:Array Oper)(c:Array Bool)(b:Oper)(t:Tmp):Bool:=(List.range ops.size).any fun x=>match ops[x]? with
 |some a=>bE P a&&QH a&&alv a.dst (some t)&& !c.getD x true&&b.after.any fun e=>Region.binds .any e&&Nat.beq e.on x
 |none=>false
def IK (ops:Array Oper)(b:Array Bool)(st:St)(i:Nat)(ok:Nat->Bool):Bool:=(List.range ops.size).all fun c=>match ops[c]? with
 |some a=>pA P C ops a || b.getD c true || nA ops b i 3 a || (match T7 C a with
  |some t=>(match st.get t with|.v (.c (.ptr d 0))=>ok d|_=>false)&&ayL ops b t || aDI P ops b a t
  |none=>false)
 |none=>true
def as9 (ops:Array Oper)(a:Array Bool)(st:St)(i:Nat)(o:Oper):Bool:=match o.op with
 |.load _ x=>match st.ac x with
  |.ptr b _=>IK P C ops a st i fun c=> !Nat.beq c b
  |.Be id _ _=>match st.oG id with
   |some b=>b.w&&IK P C ops a st i fun _=>true
   |none=>false
  |_=>false
 |_=>false
def abK (ops:Array Oper)(b:Array Bool)(i:Nat):Bool :=
 (List.range ops.size).all fun c=>match ops[c]? with
  |some a=>pA P C ops a || b.getD c true || nA ops b i 3 a|none=>true
def T8 (ops:Array Oper)(b:Array Bool)(st:St):List Nat->Option (Nat×Oper)
 |[]=>none|i::l=>match ops[i]? with
  |some a=>match oz P a&&Region.free .any ops b i&&(Ja st a || abK P C ops b i || aAE ops.toList st a || as9 P C ops b st i a) with
   |true=>some (i,a)|false=>T8 ops b st l
  |none=>none
def j3 (ops:Array Oper)(x:Nat):List Nat->Array Bool->Array Bool
 |[],l=>l|i::is,l=>match ops[i]? with
  |some a=>match bE P a&& !Nat.beq i x with
   |true=>j3 ops x is (l.setIfInBounds i true)|false=>j3 ops x is l
  |none=>j3 ops x is l
def aDJ (x:Nat):List Nat->Bool
 |[]=>true|j::l=>Nat.beq j x&&aDJ x l
def T9 (ops:Array Oper)(a:Array Bool)(st:St):List Nat->Option (Nat×Oper)
 |[]=>none|i::l=>match ops[i]? with
  |some b=>match aDJ i (Region.ready .any ops (j3 P ops i (List.range ops.size) a))&&alw P ops a st (List.range ops.size) with
   |true=>some (i,b)|false=>T9 ops a st l
  |none=>none
noncomputable def aF2 (x y:Option U):Option U:=open Classical in if x=y then x else none
noncomputable def aAF:List (Option U)->Option U
 |[]=>none|[x]=>x|x::l=>aF2 x (aAF l)
inductive BT where|l|n (a b:BT)
def akL (ops:Array Oper)(a:Array Bool):List Nat:=Region.ready .any ops (j3 P ops ops.size (List.range ops.size) a)
def aDK (ops:Array Oper)(b:Array Bool)(o:Oper):List Nat:=(List.range ops.size).filter fun x=>match ops[x]? with
 |some a=>bE P a&& !b.getD x true&&o.after.any fun e=>Region.binds .any e&&Nat.beq e.on x
 |none=>false
def aF3 (ops:Array Oper)(a:Array Bool):Bool:=(List.range ops.size).all fun x=>match ops[x]? with
 |some o=> !bE P o || a.getD x true || o.after.all fun e=> !Region.binds .any e || a.getD e.on false
 |none=>true
def ata (ops:Array Oper):List Nat->Array Bool->St->(Array Bool->St->Option U)->Option U
 |[],iT,st,k=>k iT st|x::l,iT,st,k=>match ops[x]? with
  |some a=>fB P C F a (gW P ops iT (List.range ops.size) st) fun st=>ata ops l (iT.setIfInBounds x true) st k
  |none=>none
def IL (ops:Array Oper)(a:Array Bool):List Nat->Bool
 |[]=>true|i::l=>(match ops[i]? with|some b=> !bE P b || a.getD i true|none=>true)&&IL ops a l
noncomputable def w5 (ops:Array Oper):Nat->Array Bool->St->(St->Option U)->Option U
 |0,iT,st,k=>match Region.ready .any ops iT with
  |[]=>ck (IL P ops iT (List.range ops.size)) (k st)|_=>none
 |n+1,iT,st,k=>match Region.ready .any ops iT with
  |[]=>ck (IL P ops iT (List.range ops.size)) (k st)|i::r=>let st:=gW P ops iT (List.range ops.size) st
   match T8 P C ops iT st (i::r) with
   |some (b,a)=>QG P C F ops.toList a st fun st=>w5 ops n (iT.setIfInBounds b true) st k
   |none=>match T9 P ops iT st (i::r) with
    |some (b,a)=>QG P C F ops.toList a st fun st=>w5 ops n (iT.setIfInBounds b true) st k
    |none=>ck (alw P ops iT st (List.range ops.size)&&aF3 P ops iT) (aAF ((akL P ops iT).map fun x=>match ops[x]? with
     |some a=>ata P C F ops (aDK P ops iT a) iT st fun iT st=>QG P C F ops.toList a (gW P ops iT (List.range ops.size) st) fun st=>w5 ops n (iT.setIfInBounds x true) st k
     |none=>none))
inductive Ex where
 |norm|exit (id:Nat)|ret
structure Hint where
 live:List Tmp
 mat:List (Tmp×TypeId×Ty):=[]
 roT:List Tmp:=[]
 wk:List Tmp:=[]
 Bg:List (Nat×Nat×TypeId×Ty):=[]
 xl:List Tmp:=[]
 rl:List Tmp:=[]
 roB:List (Nat×Nat):=[]
 aHW:Bool:=false
def aI0 (env:List Nat)(c:AC):List Nat:=match c with
 |.own id _|.Be id _ _=>match XF env id with|true=>env|false=>env++[id]
 |_=>env
def aDL (env:List Nat)(l:List AC):List Nat:=l.foldl aI0 env
def AV.cells:AV->List AC
 |.v x=>x.cells|.TV l=>l.flatMap CV.cells
def idxOf:List Nat->Nat->Nat->Option Nat
 |[],_,_=>none|x::l,n,i=>match Nat.beq x n with|true=>some i|false=>idxOf l n (i+1)
def aiP (env d:List Nat):AC->AC
 |.own id len=>match idxOf env id 0 with|some i=>.own (1000000+i) len|none=>.none
 |.Be id i a=>match idxOf env id 0 with|some e=>.Be (1000000+e) i a|none=>.none
 |.ptr b a=>match XF d b with|true=>.ptr b a|false=>.none
 |.fnp _ _=>.none|c=>c
def aF4 (env a:List Nat):CV->CV
 |.c x=>.c (aiP env a x)|.agg l=>.agg (l.map (aiP env a))
def aF5 (env a:List Nat):AV->AV
 |.v x=>.v (aF4 env a x)|.TV l=>.TV (l.map (aF4 env a))
def atb (st:St)(t:Tmp)(e:TypeId)(u:Ty):St:=match st.get t,look st.bl (2000000+t),Nat.beq u.n 0 with
 |.v (.c .nil),none,false=>{(st.put t (.v (.c (.own (2000000+t) none)))) with bl:=(2000000+t,some ⟨e,u,[],true,true⟩)::st.bl}
 |_,_,_=>st
def akM (st:St)(b j:Nat)(e:TypeId)(u:Ty):St:=match look st.bx b,look st.bl (3000000+100*b+j),Nat.beq u.n 0 with
 |some l,none,false=>match mA l j with
  |some .nil=>{st with bx:=(b,NH l j (.own (3000000+100*b+j) none))::st.bx,bl:=(3000000+100*b+j,some ⟨e,u,[],true,true⟩)::st.bl}
  |_=>st
 |_,_,_=>st
def aAG (st:St)(t:Tmp):St:=match st.get t with
 |.v (.c (.own id len))=>match st.oG id with
  |some b=>(st.dx (.own id len)).put t (.v (.c (.ro b.f b.e b.t (I8 b.xs len))))|none=>st
 |_=>st
def atc (st:St)(b j:Nat):St:=match look st.bx b with
 |some l=>match mA l j with
  |some (.own id len)=>match st.oG id with
   |some a=>{(st.dx (.own id len)) with bx:=(b,NH l j (.ro false a.e a.t (I8 a.xs len)))::(st.dx (.own id len)).bx}
   |none=>st
  |some (.ro _ e t xs)=>{st with bx:=(b,NH l j (.ro false e t xs))::st.bx}
  |_=>st
 |none=>st
def aDM (st:St):Bool->St
 |true=>{st with sp:=.v (.c .none)}
 |false=>st
def atd (st:St)(t:Tmp):St:=match st.get t with
 |.v (.c (.ro _ e u xs))=>st.put t (.v (.c (.ro false e u xs)))|.v (.c (.own id len))=>match st.oG id with
  |some b=>{st with bl:=(id,some {b with f:=false})::st.bl}
  |none=>st
 |_=>st
def Ua:List AV->List Nat
 |[]=>[]|.v (.c (.ptr b _))::l=>match XF (Ua l) b with|true=>Ua l|false=>b::Ua l
 |_::l=>Ua l
def aF6 (a:List (Nat×AV))(bx:List (Nat×List AC)):List Nat :=
 bx.foldl (fun env b=>aDL env b.2) (a.foldl (fun env x=>aDL env x.2.cells) [])
def ayM (st:St)(b:Nat):List AC:=match look st.bx b with|some l=>l|none=>[]
def Ub (st:St)(env:List Nat):Nat->List Nat->List (Nat×Option fo)
 |_,[]=>[]|i,id::l=>(1000000+i,match idxOf env id 0 with
  |some a=>match Nat.beq a i with|true=>st.oG id|false=>none
  |none=>none)::Ub st env (i+1) l
def aI1 (st:St)(tm:List (Nat×AV))(a:List Nat)(env:List Nat):St :=
 {nt:=st.nt,tm:=tm.map fun x=>(x.1,aF5 env a x.2),bx:=a.map fun b=>(b,(ayM st b).map (aiP env a)),bl:=Ub st env 0 env,sp:=aF5 env a st.sp,rob:=st.rob}
def keep (d:List Tmp)(st:St):St :=
 let a:=d.map fun t=>(t,st.get t)
 let c:=Ua (st.sp::a.map (·.2))
 aI1 st a c (aF6 ((0,st.sp)::a) (c.map fun b=>(b,ayM st b)))
def aDN (h:Hint)(st:St):St :=
 keep h.live (h.wk.foldl atd (h.roT.foldl aAG (h.roB.foldl (fun st (b,a)=>atc st b a) (h.Bg.foldl (fun st (b,a,e,u)=>akM st b a e u) (h.mat.foldl (fun st (t,e,u)=>atb st t e u) (aDM st h.aHW))))))
def aHX (h:Hint)(e:Ex)(st:St):St:=match e with
 |.norm=>st|.exit _=>keep h.xl st|.ret=>keep h.rl st
def ate (h:Option Hint)(st:St):St:=match h with|some h=>aDN h st|none=>st
def aly (h:Option Hint)(e:Ex)(st:St):St:=match h with|some h=>aHX h e st|none=>st
def aF7 (b:St->(Ex->St->Option U)->Option U)(h:Option Hint)(k:Ex->St->Option U):Nat->St->Option U
 |0,_=>none|n+1,st=>b st fun e cy=>match e with
  |.norm=>aF7 b h k n (ate h cy)|.exit a=>k (.exit a) (aly h (.exit a) cy)|.ret=>k .ret (aly h .ret cy)
def q9:Code->Nat
 |.region id _ _=>id|.seq a _=>q9 a|.block _ b=>q9 b|_=>0
def j4 (o:Oper):Bool:=match o.op with
 |.move _|.assign _|.pick _ _ _|.load _ _|.nilCheck _|.binOp _ _ _ _ _|.unOp _ _ _|.fieldAddr _ _ _|.indexAddr _ _ _|.index _ _ _|.field _ _ _|.extract _ _|.build _ _|.slice _ _ _ _ _=>true|.convert _ dst _=>match P.underlying dst with|some (.slice _)=>false|_=>true
 |.call {callee:=.builtin .len,..}|.call {callee:=.builtin .min,..}|.call {callee:=.builtin .max,..}=>true|.call {callee:=.value (.func f),..}=>match C f with|some (.one b)=>Nat.beq b.m 1&&b.rs.all fun a=>flat a.1|_=>false
 |_=>false
def ayN (ops:Array Oper):Bool:=P.follows .mixedOrders&&Region.lexB .any ops&&ops.toList.all fun a=>j4 P C a
def atf (d:Nat)(c:Nat->AC):AC->AC
 |.ptr b a=>match Nat.beq b d with|true=>c a|false=>.ptr b a
 |.fnp g b=>match Nat.beq b d with|true=>.none|false=>.fnp g b
 |x=>x
def aDO (d:Nat)(c:Nat->AC):CV->CV
 |.c x=>.c (atf d c x)|.agg l=>.agg (l.map (atf d c))
def aAH (d:Nat)(c:Nat->AC):AV->AV
 |.v x=>.v (aDO d c x)|.TV l=>.TV (l.map (aDO d c))
def St.arn (st:St)(d:Nat)(c:Nat->AC):St :=
 {st with tm:=st.tm.map fun p=>(p.1,aAH d c p.2),bx:=(st.bx.filter fun p=> !Nat.beq p.1 d).map fun p=>(p.1,p.2.map (atf d c)),sp:=aAH d c st.sp}
def aDP (d:Nat)(u:Ty)(st:St)(k:St->Option U):Option U:=match look st.bx d with
 |some cells=>match im st u cells with
  |some (y,[])=>ck (oy st cells) (k ((st.freeze cells).arn d fun a=>.TI (cj cells) u y a))
  |_=>none
 |none=>none
def aF8:List (Tmp×TypeId×Ty)->St->(St->Option U)->Option U
 |[],st,k=>k st|(d,_,u)::l,st,k=>aDP d u st fun st=>aF8 l st k
def aI2 (H:Nat->Option Hint)(id:Nat):List (Tmp×TypeId×Ty):=match H (900000+id) with|some h=>h.mat|none=>[]
noncomputable def run (H:Nat->Option Hint):Code->St->(Ex->St->Option U)->Option U
 |.skip,st,k=>k .norm st|.region id ops aF9,st,k=>match (!aF9 || ayN P C ops) with
  |true=>w4 P C F ops.toList ops.toList st fun st=>k .norm st
  |false=>match P.follows .mixedOrders&&Region.noSelect ops&&q7 P ops st.nt with
   |true=>aF8 (aI2 H id) st fun st=>w5 P C F ops ops.size (Array.replicate ops.size false) st fun st=>k .norm st
   |false=>none
 |.seq a b,st,k=>run H a st fun e st=>match e with
  |.norm=>run H b st k|e=>k e st
 |.cond c a b,st,k=>match st.ac c with
  |.bool v=>br v (run H a (st.lit c true) k) (run H b (st.lit c false) k)|_=>none
 |.block id b,st,k=>run H b st fun e st=>match e with
  |.exit d=>match Nat.beq d id with|true=>k .norm st|false=>k (.exit d) st
  |e=>k e st
 |.loop b,st,k=>aF7 (fun st k=>run H b st k) (H (q9 b)) k F.n (ate (H (q9 b)) st)
 |.exit id,st,k=>k (.exit id) st|.ret,st,k=>k .ret st|_,_,_=>none
def aI3 (ps:List (Ty×Bool))(x:Args ps):List CV:=exF false ps x
def avW:Nat->List CV->List (Nat×AV)
 |_,[]=>[]|i,v::l=>(i,.v v)::avW (i+1) l
def aDQ (st:St):ResultVar->Option CV
 |.tmp t=>some (st.dR (.tmp t))|.cell a t=>match tL st (st.ac (.tmp a)) with
  |some (l,off) =>
   let q:=sH (P.cellsOf t) (sI off l)
   match Nat.beq q.length (P.cellsOf t) with
   |true=>match XE P t with
    |some true=>some (.agg q)|some false=>match q with
     |[x]=>some (.c x)|_=>none
    |none=>none
   |false=>none
  |none=>none
def QI (st:St):List ResultVar->Option (List CV)
 |[]=>some []|r::l=>match aDQ P st r with
  |some c=>match QI st l with
   |some cs=>some (c::cs)|none=>none
  |none=>none
def fin (a:Func)(rs:List (Ty×Bool))(m:Nat):Ex->St->Option (Args rs):=fun e st =>
 match e with
 |.exit _=>none|_=>match QI P st a.results.toList with
  |some l=>match gn st m [] (aR l)&&(match m with|2=>w3 st rs l|_=>true) with
   |true=>BF st rs l|false=>none
  |none=>none
def gX (a : Func) : Code := match a.body with | some c => c | none => .refuse ""
def aro (H:Nat->Option Hint):List Nat:=match H 999999 with|some h=>h.live|none=>[]
noncomputable def aHY (H:Nat->Option Hint) (a:Func) (ps rs:List (Ty×Bool)) (m:Nat) (x:Args ps):Option (Args rs) :=
 ck (Nat.ble ps.length a.ntmps&&ek ps&&ek rs&&Nat.ble m 2) (run P C F H (gX a) {nt:=a.ntmps,tm:=avW 0 (aI3 ps x),bx:=[],bl:=[],rob:=aro H} (fin P a rs m))
def aHZ (pm:PM)(a:Ty×Bool)(x:a.1.D):CV×List (Nat×Option fo)×List (Nat×List AC):=match pm with
 |.rd=>(match a.2 with|true=>.agg (ex false a.1 x)|false=>.c (match ex false a.1 x with|[c]=>c|_=>.none),[],[])
 |.own f=>((ex1 62500 f a x 0).1,(ex1 62500 f a x 0).2,[])|.box=>(.c (.ptr 4000000 0),[],[(4000000,ex false a.1 x)])|.cur=>(.c (.ptr 4000000 0),[],[(4000000,ex true a.1 x)])
def exP (pm:PM):Nat->(ps:List (Ty×Bool))->Args ps->List CV×(CV×List (Nat×Option fo)×List (Nat×List AC))
 |0,a::l,x=>((aHZ pm a x.1).1::exF false l x.2,aHZ pm a x.1)|i+1,a::l,x=>((match a.2 with|true=>.agg (ex false a.1 x.1)|false=>.c (match ex false a.1 x.1 with|[c]=>c|_=>.none))::(exP pm i l x.2).1,(exP pm i l x.2).2)
 |_,[],_=>([],(.c .none,[],[]))
def aeQ (nt:Nat)(pm:PM)(i:Nat)(ps:List (Ty×Bool))(x:Args ps):St :=
 {nt:=nt,tm:=avW 0 (exP pm i ps x).1,bx:=(exP pm i ps x).2.2.2,bl:=(exP pm i ps x).2.2.1,sp:=.v (exP pm i ps x).2.1}
def apW (st:St)(pm:PM)(rs a:List (Ty×Bool))(m:Nat)(l:List CV):Option (Args rs×Args a) :=
 match pm with
 |.rd=>match a with
  |[]=>match rdM m with
   |some f=>match l with
    |[.c (.ptr b 0)]=>match look st.bx b with
     |some c=>match gn st (match f with|true=>1|false=>0) [] c&&wh c with
      |true=>match BF st rs [.agg c]with|some r=>some (r,())|none=>none
      |false=>none
     |none=>none
    |_=>none
   |none=>none
  |_=>none
 |.box=>match st.sp,a with
  |.v (.c (.ptr b 0)),[q]=>match look st.bx b with
   |some c=>match wh c&&gn st m [] (aR l)&&(match m with|2|3=>w3 st rs l|_=>true)&&Nat.ble m 3 with
    |true=>match BF st rs l,imV st q (.agg c) with
     |some r,some y=>some (r,(y,()))|_,_=>none
    |false=>none
   |none=>none
  |_,_=>none
 |.cur=>match st.sp,a with
  |.v (.c (.ptr b 0)),[q]=>match look st.bx b with
   |some c=>match wh c&&cj c&&gn st m [] (aR l)&&(match m with|2=>w3 st rs l|_=>true)&&Nat.ble m 2 with
    |true=>match BF st rs l,imV st q (.agg c) with
     |some r,some y=>some (r,(y,()))|_,_=>none
    |false=>none
   |none=>none
  |_,_=>none
 |.own _=>match Nat.beq m 2 || Nat.beq m 3 with
  |true=>match a with
   |[]=>match gn st m [] (aR l)&&w3 st rs l with
    |true=>match BF st rs l with|some r=>some (r,())|none=>none
    |false=>none
   |[q]=>match st.sp with
    |.v c=>match gn st m [] (aR (l++[c]))&&w3 st rs l&&w3 st [q] [c]with
     |true=>match BF st rs l,BF st [q] [c]with
      |some r,some y=>some (r,y)|_,_=>none
     |false=>none
    |_=>none
   |_=>none
  |false=>none
def aI4 (b:Func)(pm:PM)(rs a:List (Ty×Bool))(m:Nat):Ex->St->Option (Args rs×Args a):=fun e st =>
 match e with
 |.exit _=>none|_=>match QI P st b.results.toList with
  |some l=>apW st pm rs a m l|none=>none
noncomputable def aAI (H:Nat->Option Hint) (a:Func) (ps:List (Ty×Bool)) (i:Nat) (pm:PM) (rs b:List (Ty×Bool)) (m:Nat) (x:Args ps):Option (Args rs×Args b) :=
 ck (Nat.ble ps.length a.ntmps&&Nat.blt i ps.length&&ek ps&&ek rs) (run P C F H (gX a) {(aeQ a.ntmps pm i ps x) with rob:=aro H} (aI4 P a pm rs b m))
def ayO (f:Func)(a b q:Ty×Bool):Ex->St->Option (a.1.D×b.1.D×q.1.D):=fun e st =>
 match e with
 |.exit _=>none|_=>match QI P st f.results.toList with
  |some [d,c]=>match BF st [b] [c]with
   |some n=>br (alq b.1 n.1)
     (match apW st (.own true) [a,b] [] 2 [d,c]with|some r=>some (r.1.1,r.1.2.1,q.1.aC)|none=>none)
     (ck (aHB a d) (match apW st (.own true) [b] [q] 2 [c]with|some r=>some (a.1.aC,r.1.1,r.2.1)|none=>none))
   |none=>none
  |_=>none
noncomputable def apX (H:Nat->Option Hint) (c:Func) (ps:List (Ty×Bool)) (i:Nat) (a b q:Ty×Bool) (x:Args ps):Option (a.1.D×b.1.D×q.1.D) :=
 ck (Nat.ble ps.length c.ntmps&&Nat.blt i ps.length&&ek ps&&ek [a,b]) (run P C F H (gX c) {(aeQ c.ntmps (.own true) i ps x) with rob:=aro H} (ayO P c a b q))
end
end Go.Am
namespace Go.Am
inductive At where
 |l|r|b|t|e|i
def sub:List At->Code->Code
 |[],c=>c|.l::p,.seq a _=>sub p a|.r::p,.seq _ b=>sub p b|.b::p,.block _ b=>sub p b|.t::p,.cond _ a _=>sub p a|.e::p,.cond _ _ a=>sub p a|.i::p,.loop a=>sub p a|_,_=>.skip
section
variable (P:Program) (C:FuncId->Option Any) (F:oH) {U:Type} (H:Nat->Option Hint)
noncomputable def abL:List At->Code->(Ex->St->Option U)->(Ex->St->Option U)
 |[],_,k=>k|.l::p,.seq a b,k=>abL p a fun e st=>match e with
  |.norm=>run P C F H b st k|e=>k e st
 |.r::p,.seq _ b,k=>abL p b k|.b::p,.block id b,k=>abL p b fun e st=>match e with
  |.exit c=>match Nat.beq c id with|true=>k .norm st|false=>k (.exit c) st
  |e=>k e st
 |.t::p,.cond _ a _,k=>abL p a k|.e::p,.cond _ _ a,k=>abL p a k|_,_,k=>k
noncomputable def lp (b:Code) (k:Ex->St->Option U) (n:Nat) (st:St):Option U :=
 aF7 (fun st k=>run P C F H b st k) (H (q9 b)) k n st
noncomputable def itk (b:Code) (k:Ex->St->Option U) (n:Nat):Ex->St->Option U:=fun e cy=>match e with
 |.norm=>lp P C F H b k n (ate (H (q9 b)) cy)|.exit a=>k (.exit a) (aly (H (q9 b)) (.exit a) cy)|.ret=>k .ret (aly (H (q9 b)) .ret cy)
end
end Go.Am
