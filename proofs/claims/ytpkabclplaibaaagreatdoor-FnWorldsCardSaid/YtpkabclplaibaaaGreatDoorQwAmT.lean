/- No condition. -/
import Derived.WalkKit
import Derived.KernelRfl
import Derived.Deep.Quiet
import Derived.OrdersHeld
import Derived.Deep.RegionHeld3
set_option linter.all false
namespace Go.Am
abbrev aE:= @Bool.and_eq_true
abbrev aN:= @List.length_append
abbrev aV:= @decide_eq_false
abbrev a1:= @List.length_cons
abbrev aS:= @decide_eq_true
abbrev ag:= @if_neg
abbrev bJ:= @List.length_nil
abbrev bQ:= @List.length_take
abbrev ak:= @if_pos
abbrev a7:= @Nat.zero_le
abbrev bU:= @List.length_singleton
abbrev aX:= @Bool.not_true
abbrev aU:= @Nat.le_trans
abbrev bA:= @List.length_drop
abbrev bM:= @decide_eq_true_eq
abbrev b0:= @beq_eq_false_iff_ne
abbrev bT:= @List.getElem_mem
abbrev bh:= @Nat.le_refl
abbrev fC:= @Option.isSome_iff_exists
abbrev dh:= @List.all_eq_true
abbrev cK:= @List.mem_cons
abbrev fj:= @List.mem_singleton
abbrev dk:= @List.mem_range
abbrev oC:= @List.getElem?_eq_some_iff
abbrev nu:= @List.getElem?_eq_getElem
abbrev eh:= @Option.some.inj
abbrev sC:= @Array.getElem?_eq_some_iff
abbrev jG:= @List.mem_cons_of_mem
abbrev eK:= @List.mem_append
abbrev cj:= @beq_iff_eq
abbrev fD:= @List.append_nil
abbrev fE:= @Bool.not_false
abbrev ku:= @List.append_assoc
abbrev fF:= @Bool.true_and
abbrev l2:= @Int.toNat_natCast
abbrev jH:= @Bool.or_eq_true
abbrev l3:= @List.take_length
abbrev wQ:= @Array.toArray_toList
abbrev oD:= @beq_self_eq_true
abbrev Oc:= @Array.getD_eq_getD_getElem?
abbrev Bb:= @Nat.mul_le_mul_right
abbrev vR:= @List.mem_cons_self
abbrev s3:= @of_decide_eq_true
abbrev Od:= @List.getD_eq_getElem?_getD
abbrev pw:= @List.length_map
abbrev s4:= @List.nil_append
abbrev Ew:= @Nat.lt_of_lt_of_le
abbrev XO:= @List.eq_nil_of_length_eq_zero
abbrev Bc:= @List.countP_cons
abbrev sD:= @List.cons.inj
abbrev sE:= @List.map_cons
abbrev Gn:= @bne_self_eq_false
abbrev XP:= @List.mem_of_find?_eq_some
abbrev Jc:= @Bool.eq_false_iff
abbrev Gp:= @List.cons_append
abbrev Ls:= @List.getElem?_take
abbrev fG:= @if_false
abbrev Rq:= @Bool.or_eq_false_iff
abbrev Lt:= @List.take_add_one
abbrev Lu:= @List.length_range
abbrev wR:= @Bool.false_or
abbrev Gq:= @List.length_set
abbrev abb:= @List.drop_eq_getElem_cons
abbrev vS:= @Nat.zero_add
abbrev Tm:= @Int.toNat_of_nonneg
abbrev Tn:= @bne_eq_false_iff_eq
abbrev XQ:= @List.mem_of_mem_take
abbrev To:= @Nat.pos_of_ne_zero
abbrev gr:= @if_true
abbrev Ey:= @List.mem_map
abbrev ajr:= @Int.tmod_eq_emod_of_nonneg
abbrev ajs:= @Int.tdiv_eq_ediv_of_nonneg
abbrev Gr:= @Int.le_refl
abbrev ao8:= @Classical.byContradiction
abbrev Ez:= @bne_iff_ne
abbrev af8:= @List.getElem_of_mem
abbrev Jd:= @Nat.add_mul
abbrev abc:= @Bool.not_eq_true'
abbrev af9:= @List.getElem?_drop
abbrev aga:= @Nat.eq_zero_or_pos
abbrev Tp:= @Nat.add_assoc
abbrev Rr:= @Nat.lt_or_ge
abbrev ao9:= @List.take_of_length_le
abbrev Rs:= @Int.pow_succ
abbrev abd:= @Nat.not_lt_zero
abbrev Oe:= @Prod.mk.inj
abbrev apa:= @List.take_append_drop
abbrev agb:= @Array.toList_map
abbrev agc:= @List.drop_length
abbrev ajt:= @Int.emod_lt_of_pos
abbrev agd:= @List.not_mem_nil
abbrev Bd:= @congrArg
abbrev abe:= @List.drop_zero
abbrev ate:= @decide_eq_false_iff_not
abbrev aye:= @Array.getElem?_setIfInBounds
abbrev age:= @List.find?_some
abbrev agf:= @Int.emod_nonneg
abbrev XR:= @Nat.add_zero
abbrev apb:= @Bool.false_eq_true
abbrev apc:= @Array.any_eq_true'
abbrev Tq:= @Bool.false_and
abbrev Tr:= @Bool.and_false
abbrev aju:= @List.countP_mono_left
abbrev ajv:= @List.length_filter_le
abbrev Zv:= @List.map_append
abbrev Zw:= @Nat.min_eq_left
abbrev NJ:= @Nat.one_mul
abbrev adV:= @List.all_eq_false
abbrev ajw:= @List.mem_of_getElem?
abbrev Ts:= @Nat.lt_irrefl
abbrev Tt:= @List.sum_cons
abbrev aqz:= @Nat.le_mul_of_pos_right
abbrev ajx:= @List.find?_eq_none
abbrev Tu:= @Nat.sub_zero
abbrev Tv:= @Bool.true_or
abbrev ajy:= @Option.toList_some
abbrev BM:= @BEq.comm
abbrev BN:= @Prod.ext
abbrev aqA:= @List.set_getElem_self
abbrev aqB:= @List.getElem?_append
abbrev aqC:= @List.mem_iff_getElem
abbrev aqD:= @List.mem_of_mem_drop
abbrev ajz:= @Option.bind_some
abbrev avY:= @Array.getElem?_eq_getElem
abbrev avZ:= @List.mem_or_eq_of_mem_set
abbrev av0:= @List.pairwise_iff_getElem
abbrev ajA:= @List.nodup_cons
abbrev aqE:= @of_decide_eq_false
abbrev aqF:= @List.getElem_range
abbrev av1:= @List.getElem?_cons_succ
abbrev ajB:= @List.take_left
abbrev adW:= @Nat.beq_refl
abbrev av2:= @Array.getElem?_eq_none
abbrev av3:= @List.getElem_cons_zero
abbrev adX:= @Nat.succ_pos
abbrev av4:= @List.drop_eq_nil_of_le
abbrev av5:= @ByteArray.size_extract
abbrev av6:= @Nat.div_lt_iff_lt_mul
abbrev av7:= @List.countP_le_length
abbrev aqG:= @Nat.mod_eq_of_lt
abbrev ajC:= @Bool.or_false
abbrev ajD:= @Nat.zero_mul
abbrev ajE:= @Nat.ne_of_lt
abbrev ajF:= @Nat.le_of_eq
abbrev adY:= @Nat.mod_lt
inductive Ty where
 |int (k:IntKind)|bool|str|unit
 |pair (a b:Ty)
 |sl (e:TypeId) (t:Ty)
@[reducible] def Ty.D:Ty->Type
 |.int _=>Int|.bool=>Bool|.str=>ByteArray|.unit=>Unit|.pair a b=>a.D×b.D|.sl _ t=>List t.D
def Ty.az:(t:Ty)->t.D
 |.int _=>(0:Int)|.bool=>false|.str=>ByteArray.empty|.unit=>()|.pair a b=>(a.az,b.az)|.sl _ _=>[]
def Ty.n:Ty->Nat
 |.int _|.bool|.str|.sl _ _=>1|.unit=>0|.pair a b=>a.n+b.n
def av8:IntKind->IntKind->Bool
 |.i8,.i8|.i16,.i16|.i32,.i32|.i64,.i64|.u8,.u8|.u16,.u16|.u32,.u32|.u64,.u64=>true|_,_=>false
def abf {a b:IntKind}(h:av8 a b=true):a=b:=by cases a<;>cases b<;>first|rfl|cases h
def Ty.beq:Ty->Ty->Bool
 |.int k,.int l=>av8 k l|.bool,.bool|.str,.str|.unit,.unit=>true|.pair a b,.pair c d=>a.beq c&&b.beq d|.sl e t,.sl f u=>Nat.beq e f&&t.beq u|_,_=>false
def Ty.beq_eq:∀{a b:Ty},a.beq b=true->a=b
 |.int k,.int l,h=>by rw[abf (show av8 k l=true from h)]
 |.bool,.bool,_|.str,.str,_|.unit,.unit,_=>rfl|.pair a b,.pair c d,h=>by have g:(a.beq c&&b.beq d)=true:=h;rw[Bool.and_eq_true]at g;rw[Ty.beq_eq g.1,Ty.beq_eq g.2]
 |.sl e t,.sl f u,h=>by have g:(Nat.beq e f&&t.beq u)=true:=h;rw[Bool.and_eq_true]at g;rw[Nat.eq_of_beq_eq_true g.1,Ty.beq_eq g.2]
def atf:List Ty->Ty
 |[]=>.unit|[a]=>a|a::b::l=>.pair a (atf (b::l))
def aqH (P:Program):Nat->TypeId->Option Ty
 |0,_=>none
 |n+1,t =>
  match P.underlying t with
  |some (.int k)=>some (.int k)|some .bool=>some .bool|some .string=>some .str|some (.slice e)=>(aqH P n e).map (.sl e)|some (.struct a)=>(a.toList.mapM fun f=>aqH P n f.type).map atf
  |some (.array m e)=>(aqH P n e).map fun t=>atf (List.replicate m t)
  |_=>none
inductive AC where
 |none
 |int (k:IntKind) (n:Int)
 |bool (b:Bool)
 |str (s:ByteArray)
 |nil
 |ro (f:Bool) (e:TypeId) (t:Ty) (xs:List t.D)
 |own (id:Nat) (len:Option Int)
 |ptr (b:Nat) (off:Nat)
 |wS (id:Nat) (i:Int) (off:Nat)
 |Qd (f:Bool) (t:Ty) (x:t.D) (off:Nat)
 |fnp (g:Nat) (b:Nat)
 |any
inductive CV where
 |c (x:AC)
 |agg (l:List AC)
inductive AV where
 |v (x:CV)
 |Qe (l:List CV)
def CV.cells:CV->List AC
 |.c x=>[x]|.agg l=>l
structure eF where
 e:TypeId
 t:Ty
 xs:List t.D
 f:Bool
 w:Bool
structure St where
 nt:Nat
 tm:List (Nat×AV)
 bx:List (Nat×List AC)
 bl:List (Nat×Option eF)
 sp:AV:=.v (.c .none)
 rob:List Nat:=[]
def look {U:Type}:List (Nat×U)->Nat->Option U
 |[],_=>none|(k,v)::l,n=>match Nat.beq k n with|true=>some v|false=>look l n
def St.get (st:St)(t:Nat):AV:=match look st.tm t with|some v=>v|none=>.v (.c .none)
def St.put (st:St)(d:Nat)(v:AV):St:={st with tm:=(d,v)::st.tm}
def St.oi (st:St)(id:Nat):Option eF:=match look st.bl id with|some b=>b|none=>none
def ck {U:Type}(c:Bool)(k:Option U):Option U:=match c with|true=>k|false=>none
def br {U:Type}(c:Bool)(x y:U):U:=match c with|true=>x|false=>y
def Tw:Value->AC
 |.int k n=>.int k n|.bool b=>.bool b|.string s=>.str s|.slice none 0 0=>.nil|_=>.none
def Lw:Value->CV
 |.agg cs=>.agg (cs.toList.map Tw)|v=>.c (Tw v)
def St.ev (st:St):Operand->AV
 |.tmp t=>st.get t|.const v=>.v (Lw v)|_=>.v (.c .none)
def St.dB (st:St)(o:Operand):CV:=match st.ev o with|.v x=>x|.Qe _=>.c .none
def St.ac (st:St)(o:Operand):AC:=match st.dB o with|.c x=>x|.agg _=>.none
def CV.kn:CV->Bool
 |.c .none=>false|_=>true
def ex (f:Bool):(t:Ty)->t.D->List AC
 |.int k,x=>[.int k x]|.bool,x=>[.bool x]|.str,x=>[.str x]|.unit,_=>[]|.pair a b,x=>ex f a x.1++ex f b x.2|.sl e t,x=>[.ro f e t x]
def Tx {t u:Ty}(h:t=u)(x:List t.D):List u.D:=h▸x
def Je {U:Type}(xs:List U):Option Int->List U
 |none=>xs|some n=>xs.take n.toNat
def cn (st:St)(e:TypeId)(t:Ty):AC->Option (List t.D)
 |.nil=>some []|.ro _ a u xs=>match Nat.beq a e with
  |true=>if h:u.beq t=true then some (Tx (Ty.beq_eq h) xs) else none|false=>none
 |.own id len=>match st.oi id with
  |some b=>match Nat.beq b.e e with
   |true=>if h:b.t.beq t=true then some (Je (Tx (Ty.beq_eq h) b.xs) len) else none|false=>none
  |none=>none
 |_=>none
def eOf (st:St):AC->TypeId
 |.ro _ e _ _=>e|.own id _=>match st.oi id with|some b=>b.e|none=>0
 |_=>0
def big (t:Ty):Bool:=Nat.ble 8 t.n
def im (st:St):(t:Ty)->List AC->Option (t.D×List AC)
 |.int k,.int l n::r=>if av8 l k then some (n,r) else none|.bool,.bool b::r=>some (b,r)|.str,.str s::r=>some (s,r)|.unit,r=>some ((),r)|.pair a b,r=>match im st a r with
  |some (x,d)=>match im st b d with
   |some (y,f)=>some ((x,y),f)|none=>none
  |none=>none
 |.sl e t,c::r=>match cn st e t c with
  |some xs=>some (xs,r)|none=>none
 |_,_=>none
@[reducible] def Args:List (Ty×Bool)->Type
 |[]=>Unit|a::l=>a.1.D×Args l
structure Con where
 ps:List (Ty×Bool)
 rs:List (Ty×Bool)
 m:Nat
 g:Args ps->Option (Args rs)
inductive PM where
 |rd|own (f:Bool)|box|cur
structure Ll where
 ps:List (Ty×Bool)
 i:Nat
 pm:PM
 rs:List (Ty×Bool)
 m:Nat
 qs:List (Ty×Bool)
 g:Args ps->Option (Args rs×Args qs)
structure Idx where
 g:Nat
 a:Ty×Bool
 q:Ty
 p:a.1.D->q.D->Bool
structure Sel where
 ps:List (Ty×Bool)
 i:Nat
 a:Ty×Bool
 b:Ty×Bool
 q:Ty×Bool
 g:Args ps->Option (a.1.D×b.1.D×q.1.D)
def ajG:(t:Ty)->t.D->Bool
 |.bool,x=>x|.int _,x=>x==0|_,_=>false
def aGO:(t:Ty)->t.D->t.D
 |.bool,_=>true|.int _,_=>(0:Int)|_,x=>x
def aGP:(t:Ty)->t.D->t.D
 |.bool,_=>false|_,x=>x
inductive Any where
 |one (c:Con)|two (c:Ll)|sel (c:Sel)|idx (i:Idx)
 |ins (e:TypeId) (u:Ty)
 |del (e:TypeId) (u:Ty)
def aBd {U:Type}(p:U->Bool):List U->Int->Int
 |[],_=>-1|x::l,i=>match p x with|true=>i|false=>aBd p l (i+1)
def flat:Ty->Bool
 |.int _|.bool|.str|.unit=>true|.pair a b=>flat a&&flat b|.sl _ _=>false
def exR (id:Nat)(f:Bool):(t:Ty)->t.D->Nat->List AC×List (Nat×Option eF)
 |.int k,x,_=>([.int k x],[])|.bool,x,_=>([.bool x],[])|.str,x,_=>([.str x],[])|.unit,_,_=>([],[])|.pair a b,x,c=>((exR id f a x.1 c).1++(exR id f b x.2 (c+a.n)).1,(exR id f a x.1 c).2++(exR id f b x.2 (c+a.n)).2)|.sl e t,x,c=>([.own (id*64+c) none],[(id*64+c,some ⟨e,t,x,f || flat t,true⟩)])
structure nY where
 n:Nat
 mem:Int
 str:Int
@[reducible] def nY.Lm (n:Nat):nY:=⟨n,140737488355328,9223372036854775807⟩
def aE4 {U:Type}(d:BinOp)(c:IntKind)(a b:Int)(k:AC->Option U):Option U :=
 match d with
 |.add=>k (.int c (c.wrap (a+b)))|.sub=>k (.int c (c.wrap (a-b)))|.mul=>k (.int c (c.wrap (a*b)))|.quo=>ck (!(b==0)) (k (.int c (c.wrap (a.tdiv b))))|.rem=>ck (!(b==0)) (k (.int c (a.tmod b)))|.and=>k (.int c (c.wrap (BitVec.ofInt c.bits a &&& BitVec.ofInt c.bits b).toNat))|.or=>k (.int c (c.wrap (BitVec.ofInt c.bits a ||| BitVec.ofInt c.bits b).toNat))|.xor=>k (.int c (c.wrap (BitVec.ofInt c.bits a ^^^ BitVec.ofInt c.bits b).toNat))|.eql=>k (.bool (a==b))|.neq=>k (.bool (a != b))|.lss=>k (.bool (decide (a<b)))|.leq=>k (.bool (decide (a<=b)))|.gtr=>k (.bool (decide (a>b)))|.geq=>k (.bool (decide (a>=b)))|_=>none
def ayg {U:Type}(d:BinOp)(c:IntKind)(a b:Int)(k:AC->Option U):Option U :=
 match d with
 |.shl=>ck (decide (0<=b)) (k (.int c (c.wrap (a*2 ^ (min b.toNat c.bits)))))|.shr=>ck (decide (0<=b)) (k (.int c (a.fdiv (2 ^ (min b.toNat c.bits)))))|_=>none
def aE5 {U:Type}(F:nY)(c:BinOp)(a b:ByteArray)(k:AC->Option U):Option U :=
 match c with
 |.add=>ck (decide (((a.size+b.size:Nat):Int)<=F.str)) (k (.str (a++b)))|.eql=>k (.bool (a.toList==b.toList))|.neq=>k (.bool (!(a.toList==b.toList)))|.lss=>k (.bool (Op.bytesLess a.toList b.toList))|.leq=>k (.bool (Op.bytesLess a.toList b.toList || a.toList==b.toList))|.gtr=>k (.bool (!(Op.bytesLess a.toList b.toList || a.toList==b.toList)))|.geq=>k (.bool (!(Op.bytesLess a.toList b.toList)))|_=>none
def aDE {U:Type}(P:Program)(F:nY)(c:BinOp)(e:TypeId)(x y:AC)(k:AC->Option U):Option U :=
 match x,y with
 |.int d a,.int f b=>match c with
  |.shl|.shr=>ayg c d a b k|_=>ck (av8 d f) (aE4 c d a b k)
 |.str a,.str b=>aE5 F c a b k|.bool a,.bool b=>match P.underlying e,c with
  |some .bool,.eql=>k (.bool (a==b))|some .bool,.neq=>k (.bool (!(a==b)))|_,_=>none
 |_,_=>none
def eqFields (P:Program):List Field->Nat->List AC->List AC->Option Bool
 |[],_,[],[]=>some true
 | f :: d, i, a :: r, b :: s => match Nat.beq f.offset i && !(f.name == "_") with
  |true=>match eqFields P d (i+1) r s with
   |some c=>match P.underlying f.type,a,b with
    |some (.int _),.int k x,.int l y=>match av8 k l with|true=>some ((x==y)&&c)|false=>none
    |some .string,.str x,.str y=>some ((x.toList==y.toList)&&c)|some .bool,.bool x,.bool y=>some ((x==y)&&c)|_,_,_=>none
   |none=>none
  |false=>none
 |_,_,_,_=>none
def ajH (P:Program)(t:TypeId)(l m:List AC):Option Bool :=
 match P.underlying t with
 |some (.struct a)=>match P.stoodInHeld t || P.eqGuardType P.depth t with
  |false=>eqFields P a.toList 0 l m|true=>none
 |_=>none
def ajI (st:St):AC->Option Int
 |.nil=>some 0|.ro _ _ _ xs=>some (xs.length:Int)|.own _ (some n)=>some n|.own id none=>match st.oi id with|some b=>some (b.xs.length:Int)|none=>none
 |.str s=>some (s.size:Int)|_=>none
def ath (P:Program)(t:TypeId)(f:Nat):Option Nat :=
 match P.underlying t with
 |some (.struct a)=>match a[f]? with
  |some x=>match P.cellsOf x.type with
   |0=>none|_=>some x.offset
  |none=>none
 |_=>none
def aqI (P:Program)(t:TypeId)(f:Nat):Option (TypeId×Nat) :=
 match P.underlying t with
 |some (.struct a)=>match a[f]? with
  |some x=>some (x.type,x.offset)|none=>none
 |_=>none
def Xi (P:Program)(t:TypeId):Option Bool :=
 match P.underlying t with
 |some (.struct _)|some (.array _ _)=>some true|some _=>some false|none=>none
def EA (P:Program)(t:TypeId):Option TypeId :=
 match P.underlying t with
 |some (.slice e)=>some e|_=>none
def Fw {U:Type}:List U->Nat->U->List U
 |[],_,_=>[]|_::l,0,v=>v::l|x::l,n+1,v=>x::Fw l n v
def kj {U:Type}:List U->Nat->Option U
 |[],_=>none|x::_,0=>some x|_::l,n+1=>kj l n
def sF {U:Type}:Nat->List U->List U
 |0,_=>[]|_+1,[]=>[]|n+1,x::l=>x::sF n l
def sG {U:Type}:Nat->List U->List U
 |0,l=>l|_+1,[]=>[]|n+1,_::l=>sG n l
def Hx {U:Type}:List U->Nat->List U->List U
 |l,_,[]=>l|l,n,v::a=>Hx (Fw l n v) (n+1) a
def A8 (st:St):(t:Ty)->t.D->Nat×List AC->Option (t.D×(Nat×List AC))
 |.unit,x,s=>some (x,s)|.pair a b,x,s=>match A8 st a x.1 s with
  |some (y,f)=>match A8 st b x.2 f with
   |some (z,g)=>some ((y,z),g)|none=>none
  |none=>none
 |.int k,x,(0,c::r)=>match im st (.int k) [c]with|some (n,_)=>some (n,(0,r))|none=>none
 |.bool,x,(0,c::r)=>match im st .bool [c]with|some (n,_)=>some (n,(0,r))|none=>none
 |.str,x,(0,c::r)=>match im st .str [c]with|some (n,_)=>some (n,(0,r))|none=>none
 |.sl e t,x,(0,c::r)=>match im st (.sl e t) [c]with|some (n,_)=>some (n,(0,r))|none=>none
 |.int _,x,(0,[])=>some (x,(0,[]))|.bool,x,(0,[])=>some (x,(0,[]))|.str,x,(0,[])=>some (x,(0,[]))|.sl _ _,x,(0,[])=>some (x,(0,[]))|.int _,x,(d+1,l)=>some (x,(d,l))|.bool,x,(d+1,l)=>some (x,(d,l))|.str,x,(d+1,l)=>some (x,(d,l))|.sl _ _,x,(d+1,l)=>some (x,(d,l))
def St.di (st:St):AC->St
 |.own id _=>match st.oi id with
  |some b=>{st with bl:=(id,some {b with w:=false})::st.bl}
  |none=>st
 |_=>st
def St.freeze (st:St)(l:List AC):St:=l.foldl St.di st
def agh:List AC->Bool
 |[]=>true|.none::_=>false|_::l=>agh l
def awa (id:Nat):List AC->Bool
 |[]=>true|.own i _::l=> !Nat.beq i id&&awa id l|_::l=>awa id l
def b5:List AC->Bool
 |[]=>true|.ro f _ _ _::l=>f&&b5 l|_::l=>b5 l
def oj (st:St):List AC->Bool
 |[]=>true|.own id _::l=>(match st.oi id with|some b=>b.f|none=>false)&&oj st l
 |_::l=>oj st l
def ij (s:ByteArray)(i:Int):Int:=((s.data.toList.getD i.toNat 0).toNat:Int)
def bytesOf (s:ByteArray):List Int:=s.data.toList.map fun b=>(b.toNat:Int)
def strOf (xs:List Int):ByteArray:=⟨(xs.map fun n=>UInt8.ofNat n.toNat).toArray⟩
def St.pk {U:Type}(st:St)(d:Option Tmp)(v:AV)(k:St->Option U):Option U :=
 match d with
 |none=>k st|some d=>ck (Nat.blt d st.nt) (k (st.put d v))
def St.lit (st:St)(o:Operand)(b:Bool):St :=
 match o with
 |.tmp t=>st.put t (.v (.c (.bool b)))|_=>st
section
variable (P:Program) (C:FuncId->Option Any) (F:nY) {U:Type}
def sO (t:TypeId):Option CV :=
 match P.info? t with
 |some i=>match i.zero with
  |some v=>some (Lw v)|none=>none
 |none=>none
def St.row (st:St)(d:Tmp)(b:eF)(k:St->Option U):Option U :=
 match look st.bl (d*64) with
 |some _=>none|none=>ck (Nat.blt d st.nt) (k {(st.put d (.v (.c (.own (d*64) none)))) with bl:=(d*64,some b)::st.bl})
def NK:List Nat->Nat->Bool
 |[],_=>false|x::l,n=>match Nat.beq x n with|true=>true|false=>NK l n
def gX (st:St)(t:Ty):Nat->List (Nat×Operand)->Option (List t.D)
 |_,[]=>some []|i,(a,b)::l=>match Nat.beq i a with
  |true=>match im st t (st.dB b).cells with
   |some (x,[])=>match gX st t (i+1) l with
    |some xs=>some (x::xs)|none=>none
   |_=>none
  |false=>none
def cb (st:St):List (Nat×Operand)->List AC
 |[]=>[]|(_,a)::l=>(st.dB a).cells++cb st l
def ajJ (t:TypeId):Option (List (Nat×Nat)) :=
 match P.underlying t with
 |some (.struct a)=>a.toList.mapM fun f=>(P.info? f.type).map fun i=>(f.offset,i.size)
 |_=>none
def BO (st:St)(b:List (Nat×Nat)):List AC->List (Nat×Operand)->Option (List AC)
 |acc,[]=>some acc|acc,(f,a)::l=>match kj b f with
  |some (off,size)=>match (st.dB a).kn&&Nat.beq size (st.dB a).cells.length&&Nat.ble (off+(st.dB a).cells.length) acc.length with
   |true=>BO st b (Hx acc off (st.dB a).cells) l|false=>none
  |none=>none
def tF (st:St):AC->Option (List AC×Nat)
 |.ptr b off=>match look st.bx b with|some l=>some (l,off)|none=>none
 |.wS id i off=>match st.oi id with|some b=>some (ex b.f b.t (b.xs.getD i.toNat b.t.az),off)|none=>none
 |.Qd f t x off=>some (ex f t x,off)|_=>none
def s5 (o:Option Operand)(st:St)(d:Int):Option Int :=
 match o with
 |none=>some d|some x=>match st.ac x with|.int _ n=>some n|_=>none
def jI (st:St):List Operand->List AC
 |[]=>[]|o::l=>(st.dB o).cells++jI st l
def imV (st:St)(a:Ty×Bool)(c:CV):Option a.1.D :=
 match c,a.2 with
 |.agg l,true=>match im st a.1 l with
  |some (x,[])=>some x|_=>none
 |.c c,false=>match im st a.1 [c]with
  |some (x,[])=>some x|_=>none
 |_,_=>none
def im1 (st:St)(a:Ty×Bool)(o:Operand):Option a.1.D:=imV st a (st.dB o)
def NL (st:St):(ps:List (Ty×Bool))->List Operand->Option (Args ps)
 |[],[]=>some ()|a::l,b::os=>match im1 st a b with
  |some x=>match NL st l os with
   |some y=>some (x,y)|none=>none
  |none=>none
 |_,_=>none
def BP (st:St):(ps:List (Ty×Bool))->List CV->Option (Args ps)
 |[],[]=>some ()|a::l,b::os=>match imV st a b with
  |some x=>match BP st l os with
   |some y=>some (x,y)|none=>none
  |none=>none
 |_,_=>none
def aQ:List CV->List AC
 |[]=>[]|c::l=>c.cells++aQ l
def ex1 (id:Nat)(f:Bool)(a:Ty×Bool)(x:a.1.D)(j:Nat):CV×List (Nat×Option eF) :=
 (match a.2 with|true=>.agg (exR id f a.1 x j).1|false=>.c (match (exR id f a.1 x j).1 with|[c]=>c|_=>.none),(exR id f a.1 x j).2)
def kB (id:Nat)(f:Bool):(rs:List (Ty×Bool))->Args rs->Nat->List CV×List (Nat×Option eF)
 |[],_,_=>([],[])|a::l,x,b=>((ex1 id f a x.1 b).1::(kB id f l x.2 (b+a.1.n)).1,(ex1 id f a x.1 b).2++(kB id f l x.2 (b+a.1.n)).2)
def fq:List (Nat×Option eF)->St->Bool
 |[],_=>true|(id,_)::l,st=>(match look st.bl id with|some _=>false|none=>true)&&fq l st
def dM:List (Ty×Bool)->Bool
 |[]=>true|a::l=>(a.2 || Nat.beq a.1.n 1)&&dM l
def Jf:List CV->AV
 |[v]=>.v v|l=>.Qe l
def exF (f:Bool):(rs:List (Ty×Bool))->Args rs->List CV
 |[],_=>[]|a::l,x=>(match a.2 with|true=>.agg (ex f a.1 x.1)|false=>.c (match ex f a.1 x.1 with|[c]=>c|_=>.none))::exF f l x.2
def WB (con:Con)(st:St)(d:Option Tmp)(args:List Operand)(k:St->Option U):Option U :=
 match NL st con.ps args with
 |some x=>(con.g x).bind fun r =>
  match d with
  |none=>none|some d=>match con.m with
   |0=>ck (Nat.blt d st.nt&&dM con.rs) (k ((st.freeze (jI st args)).put d (Jf (exF (oj st (jI st args)&&b5 (jI st args)) con.rs r))))|1=>ck (Nat.blt d st.nt&&dM con.rs) (k (st.put d (Jf (exF true con.rs r))))
   |_ =>
    let q:=kB d true con.rs r 0
    ck (fq q.2 st&&Nat.blt d st.nt&&dM con.rs) (k {(st.put d (Jf q.1)) with bl:=q.2++st.bl})
 |_=>none
def fU (st:St)(m:Nat):List Nat->List AC->Bool
 |_,[]=>true|seen,.own id len::l=>match st.oi id with
  |some b=>(b.f || Nat.beq m 0 || Nat.beq m 3)&&(match m with|2|3=>b.w&& !NK seen id&&(match len with|none=>true|some _=>false)|_=>true)&&fU st m (id::seen) l
  |none=>false
 |seen,.ro f _ _ _::l=>(match m with|2|3=>false|1=>f|_=>true)&&fU st m seen l
 |seen,_::l=>fU st m seen l
def vT:List AC->Bool
 |[]=>true|.own _ _::_=>false|_::l=>vT l
def Fx (st:St):Ty->List AC->Option (List AC)
 |.sl e _,.own id _::r=>match st.oi id with
  |some b=>match Nat.beq b.e e with|true=>some r|false=>none
  |none=>none
 |.sl _ t,.nil::r=>match Nat.beq t.n 0 with|true=>none|false=>some r
 |.int _,_::r|.bool,_::r|.str,_::r=>some r|.unit,r=>some r|.pair a b,r=>match Fx st a r with|some r=>Fx st b r|none=>none
 |_,_=>none
def wT (st:St):List (Ty×Bool)->List CV->Bool
 |[],[]=>true|a::l,b::os=>(match Fx st a.1 b.cells with|some []=>true|_=>false)&&wT st l os
 |_,_=>false
def pmM:Bool->Nat
 |true=>2|false=>3
def im2 (st:St)(pm:PM)(a:Ty×Bool)(o:Operand):Option a.1.D:=match pm with
 |.rd=>im1 st a o|.own f=>match fU st (pmM f) [] (st.dB o).cells&&wT st [a] [st.dB o]with|true=>im1 st a o|false=>none
 |.box=>match st.dB o with
  |.c (.ptr b 0)=>match look st.bx b with|some l=>imV st a (.agg l)|none=>none
  |_=>none
 |.cur=>match st.dB o with
  |.c (.ptr b 0)=>match look st.bx b with|some l=>(match vT l with|true=>imV st a (.agg l)|false=>none)|none=>none
  |_=>none
def iQ (st:St)(pm:PM):Nat->(ps:List (Ty×Bool))->List Operand->Option (Args ps)
 |0,a::l,b::os=>match im2 st pm a b with
  |some x=>match NL st l os with|some y=>some (x,y)|none=>none
  |none=>none
 |i+1,a::l,b::os=>match im1 st a b with
  |some x=>match iQ st pm i l os with|some y=>some (x,y)|none=>none
  |none=>none
 |_,_,_=>none
def fV (st:St)(pm:PM):Nat->List Operand->List AC
 |0,a::os=>(match pm with
  |.rd=>(st.dB a).cells|.own _|.cur=>[]|.box=>match st.dB a with|.c (.ptr b _)=>(match look st.bx b with|some l=>l|none=>[])|_=>[])++jI st os
 |i+1,a::os=>(st.dB a).cells++fV st pm i os|_,[]=>[]
def anL (st:St)(i:Nat)(args:List Operand):CV:=match kj args i with|some a=>st.dB a|none=>.c .none
def St.gone (st:St):List AC->St
 |[]=>st|.own id _::l=>{st.gone l with bl:=(id,none)::(st.gone l).bl}
 |_::l=>st.gone l
def sP (f:Bool):(t:Ty)->t.D->List AC->List (Nat×Option eF)×List AC
 |.pair a b,x,l=>((sP f a x.1 l).1++(sP f b x.2 (sP f a x.1 l).2).1,(sP f b x.2 (sP f a x.1 l).2).2)|.unit,_,l=>([],l)|.sl e t,x,.own id _::l=>([(id,some ⟨e,t,x,f,true⟩)],l)|_,_,_::l=>([],l)|_,_,[]=>([],[])
def m2 (m:Nat):Bool:=Nat.beq m 2
def rdM:Nat->Option Bool
 |4=>some true|5=>some false|_=>none
def aqJ (f:Bool)(rs:List (Ty×Bool))(st:St)(d:Tmp)(r:Args rs)(k:St->Option U):Option U :=
 match rs,r with
 |[a],r=>match look st.bx d with
  |none=>ck (Nat.blt d st.nt&&a.2) (k {(st.put d (.v (.c (.ptr d 0)))) with bx:=(d,ex f a.1 r.1)::st.bx})
  |some _=>none
 |_,_=>none
def abg (rs a:List (Ty×Bool))(m:Nat)(st:St)(c:CV)(d:Tmp)(r:Args rs×Args a)(k:St->Option U):Option U :=
 let q:=kB d (m2 m) rs r.1 0
 ck ((Nat.beq m 2 || Nat.beq m 3)&&fq q.2 st&&Nat.blt d st.nt&&dM rs) (match a,r with
  |[],_=>k {(st.put d (Jf q.1)) with bl:=q.2++(st.gone c.cells).bl}
  |[p],r=>k {(st.put d (Jf q.1)) with bl:=q.2++((sP (m2 m) p.1 r.2.1 c.cells).1++st.bl)}
  |_,_=>none)
def ai7 (rs a:List (Ty×Bool))(m:Nat)(st:St)(c:CV)(d:Tmp)(r:Args rs×Args a)(k:St->Option U):Option U :=
 match a,r,c with
 |[p],r,.c (.ptr b _)=>match m with
  |0=>ck (Nat.blt d st.nt&&dM rs) (k {(st.put d (Jf (exF false rs r.1))) with bx:=(b,ex false p.1 r.2.1)::st.bx})
  |1=>ck (Nat.blt d st.nt&&dM rs) (k {(st.put d (Jf (exF true rs r.1))) with bx:=(b,ex false p.1 r.2.1)::st.bx})
  |m =>
   let q:=kB d (m2 m) rs r.1 0
   ck ((Nat.beq m 2 || Nat.beq m 3)&&fq q.2 st&&Nat.blt d st.nt&&dM rs) (k {(st.put d (Jf q.1)) with bl:=q.2++st.bl,bx:=(b,ex false p.1 r.2.1)::st.bx})
 |_,_,_=>none
def ai8 (rs e:List (Ty×Bool))(m:Nat)(st:St)(c:CV)(d:Tmp)(r:Args rs×Args e)(k:St->Option U):Option U :=
 match e,r,c with
 |[p],r,.c (.ptr b _)=>match look st.bx b with
  |some a=>match m with
   |0=>ck (Nat.blt d st.nt&&dM rs) (k {(st.put d (Jf (exF false rs r.1))) with bx:=(b,ex (b5 a) p.1 r.2.1)::st.bx})
   |1=>ck (Nat.blt d st.nt&&dM rs) (k {(st.put d (Jf (exF (b5 a) rs r.1))) with bx:=(b,ex (b5 a) p.1 r.2.1)::st.bx})
   |m =>
    let q:=kB d (b5 a) rs r.1 0
    ck (Nat.beq m 2&&fq q.2 st&&Nat.blt d st.nt&&dM rs) (k {(st.put d (Jf q.1)) with bl:=q.2++st.bl,bx:=(b,ex (b5 a) p.1 r.2.1)::st.bx})
  |none=>none
 |_,_,_=>none
def aDF (st:St)(con:Ll)(args:List Operand):List AC:=match con.pm with
 |.cur=>(match con.m with|1|2=>[]|_=>fV st .cur con.i args)
 |pm=>fV st pm con.i args
def abh (con:Ll)(st:St)(d:Option Tmp)(args:List Operand)(k:St->Option U):Option U :=
 let a:=st.freeze (aDF st con args)
 match iQ a con.pm con.i con.ps args with
 |some x=>(con.g x).bind fun r =>
  match d with
  |none=>none|some d=>match con.pm with
   |.rd=>match rdM con.m with
    |some f=>aqJ f con.rs a d r.1 k|none=>none
   |.own _=>abg con.rs con.qs con.m a (anL a con.i args) d r k|.box=>ai7 con.rs con.qs con.m a (anL a con.i args) d r k|.cur=>ai8 con.rs con.qs con.m a (anL a con.i args) d r k
 |none=>none
def aBf (a:Ty×Bool):CV:=match a.2 with|true=>.agg (List.replicate a.1.n .any)|false=>.c .none
def aE6 (a:Ty×Bool)(c:CV):Bool:=match a.2,c with
 |true,.agg l=>Nat.beq l.length a.1.n&&agh l|true,.c _=>false|false,_=>true
def aBg (a b q:Ty×Bool)(st:St)(c:CV)(d:Tmp)(n:b.1.D)(y:q.1.D)(k:St->Option U):Option U :=
 ck (Nat.blt d st.nt&&dM [b]&&fq (kB d true [b] (n,()) 0).2 st) (k {(st.put d (.Qe (aBf a::(kB d true [b] (n,()) 0).1))) with bl:=(kB d true [b] (n,()) 0).2++((sP true q.1 y c.cells).1++st.bl)})
def aqK (con:Sel)(st:St)(d:Option Tmp)(args:List Operand)(k:St->Option U):Option U :=
 let a:=st.freeze (fV st (.own true) con.i args)
 match iQ a (.own true) con.i con.ps args with
 |some x=>(con.g x).bind fun r =>
  match d with
  |none=>none|some d=>br (ajG con.b.1 r.2.1) (abg [con.a,con.b] [] 2 a (anL a con.i args) d ((r.1,(aGO con.b.1 r.2.1,())),()) k) (aBg con.a con.b con.q a (anL a con.i args) d (aGP con.b.1 r.2.1) r.2.2 k)
 |none=>none
def aqL (i:Idx)(st:St)(d:Option Tmp)(args:List Operand)(k:St->Option U):Option U :=
 match args with
 |[s,f]=>match st.ac f with
  |.fnp g b=>match Nat.beq g i.g with
   |true=>match look st.bx b with
    |some l=>match im st i.q l with
     |some (y,[])=>match cn st (eOf st (st.ac s)) i.a.1 (st.ac s) with
      |some xs=>st.pk d (.v (.c (.int .i64 (aBd (fun x=>i.p x y) xs 0)))) k
      |none=>none
     |_=>none
    |none=>none
   |false=>none
  |_=>none
 |_=>none
def Zx (c:Bool)(st:St):Int->List Operand->Option Int
 |a,[]=>some a|a,d::l=>match st.ac d with
  |.int _ b=>Zx c st (match c with|true=>if b>a then b else a|false=>if b<a then b else a) l
  |_=>none
def Tz (st:St)(e:TypeId)(u:Ty):AC->Option (List u.D×Bool×St)
 |.nil=>some ([],true,st)|.own id none=>match st.oi id with
  |some b=>match b.w&&Nat.beq b.e e with
   |true=>if h:b.t.beq u=true then some (Tx (Ty.beq_eq h) b.xs,b.f,{st with bl:=(id,none)::st.bl}) else none
   |false=>none
  |none=>none
 |_=>none
def WC (st:St)(e:TypeId)(u:Ty):AC->Option (List u.D×Bool)
 |.own id len=>match cn st e u (.own id len),st.oi id with
  |some a,some b=>some (a,b.f)|_,_=>none
 |.ro f c d a=>match cn st e u (.ro f c d a) with
  |some a=>some (a,f)|none=>none
 |.nil=>some ([],true)|_=>none
def awc (e:TypeId)(u:Ty)(st:St)(d:Option Tmp)(args:List Operand)(k:St->Option U):Option U :=
 match d,args with
 |some d,[s,i,v]=>match st.ac i,st.ac v with
  |.int .i64 n,.own a none=>match st.oi a with
   |some b=>match b.w&&Nat.beq b.e e with
    |true=>if h:b.t.beq u=true then
      match Tz st e u (st.ac s) with
      |some (xs,f,c)=>match look c.bl a with
       |some (some _)=>ck (!Nat.beq u.n 0&&decide (0<=n)&&decide (n<=(xs.length:Int))&&decide (1<=(b.xs.length:Int))&&decide (((xs.length+b.xs.length:Nat):Int)<=1073741824))
         (c.row d ⟨e,u,xs.take n.toNat++Tx (Ty.beq_eq h) b.xs++xs.drop n.toNat,f&&(b.f || flat u),true⟩ k)
       |_=>none
      |none=>none
     else none
    |false=>none
   |none=>none
  |_,_=>none
 |_,_=>none
def awd (e:TypeId)(u:Ty)(st:St)(d:Option Tmp)(args:List Operand)(k:St->Option U):Option U :=
 match d,args with
 |some d,[s,i,a]=>match st.ac i,st.ac a with
  |.int .i64 n,.int .i64 m=>match Tz st e u (st.ac s) with
   |some (xs,f,b)=>ck (!Nat.beq u.n 0&&decide (0<=n)&&decide (n<=m)&&decide (m<=(xs.length:Int)))
     (b.row d ⟨e,u,xs.take n.toNat++xs.drop m.toNat,f,true⟩ k)
   |none=>none
  |_,_=>none
 |_,_=>none
def ayi:CV->Bool
 |.c (.int .u8 0)=>true|_=>false
def Of (st:St)(d:Tmp)(s x:AC)(t c e:TypeId)(u:Ty)(z:CV)(k:St->Option U):Option U :=
 match Tz st e u s with
 |some (xs,f,a)=>match x with
  |.str w=>if h:u.beq (.int .u8)=true then
    match P.underlying c with
    |some .string=>ck (Nat.beq (P.cellsOf e) 1&&Nat.beq (P.bytesOf e) 1&&ayi z&&decide (((xs.length+w.size:Nat):Int)<=F.mem))
      (a.row d ⟨e,.int .u8,Tx (Ty.beq_eq h) xs++bytesOf w,f,true⟩ k)
    |_=>none
   else none
  |x=>match WC st e u x with
   |some (b,g) =>
    ck (Nat.beq t c&&Nat.beq (P.cellsOf e) u.n&&Nat.beq z.cells.length u.n&&z.kn&& !Nat.beq u.n 0&& !Nat.beq (P.bytesOf e) 0&&decide (((xs.length+b.length:Nat):Int)*(P.bytesOf e:Int)<=F.mem))
     (a.row d ⟨e,u,xs++b,f&&(g || flat u),true⟩ k)
   |none=>none
 |none=>none
def fk (o:Oper)(st:St)(k:St->Option U):Option U :=
 match o.op with
 |.move x|.assign x=>st.pk o.dst (st.ev x) k|.pick c a b=>match st.ac c with
  |.bool v=>br v ((st.lit c true).pk o.dst (st.ev a) k) ((st.lit c false).pk o.dst (st.ev b) k)|_=>none
 |.box t x=>match o.dst with
  |some d=>match NK st.rob d with
   |true=>match aqH P 20 t with
    |some u=>match im st u (st.dB x).cells with
     |some (y,[])=>ck (Nat.blt d st.nt&&(st.dB x).kn&&oj st (st.dB x).cells) (k ((st.freeze (st.dB x).cells).put d (.v (.c (.Qd (b5 (st.dB x).cells) u y 0)))))|_=>none
    |none=>none
   |false=>match look st.bx d with
    |none=>ck (Nat.blt d st.nt&&(st.dB x).kn) (k {(st.put d (.v (.c (.ptr d 0)))) with bx:=(d,(st.dB x).cells)::st.bx})
    |some _=>none
  |none=>none
 |.alloc t=>match o.dst with
  |some d=>match look st.bx d with
   |none=>match sO P t with
    |some z=>ck (Nat.blt d st.nt&&z.kn) (k {(st.put d (.v (.c (.ptr d 0)))) with bx:=(d,z.cells)::st.bx})
    |none=>none
   |some _=>none
  |none=>none
 |.build t parts=>match sO P t,ajJ P t with
  |some z,some I=>match z.kn,BO st I z.cells parts.toList with
   |true,some l=>st.pk o.dst (.v (.agg l)) k|_,_=>none
  |_,_=>none
 |.buildSlice t len parts=>match o.dst,EA P t with
  |some d,some e=>match aqH P 20 e with
   |some u=>match gX st u 0 parts.toList with
    |some xs=>match Nat.beq parts.toList.length len&&oj st (cb st parts.toList)&&(Nat.beq (P.cellsOf e) u.n&& !Nat.beq u.n 0&&Nat.ble (len*u.n) 16777216&&(sO P e).isSome) with
     |true=>(st.freeze (cb st parts.toList)).row d ⟨e,u,xs,b5 (cb st parts.toList),true⟩ k|false=>none
    |none=>none
   |none=>none
  |_,_=>none
 |.load t a=>match tF st (st.ac a) with
  |some (l,off) =>
   let q:=sF (P.cellsOf t) (sG off l)
   match Nat.beq q.length (P.cellsOf t) with
   |true=>match Xi P t with
    |some true=>st.pk o.dst (.v (.agg q)) k|some false=>match q with
     |[x]=>st.pk o.dst (.v (.c x)) k|_=>none
    |none=>none
   |false=>none
  |none=>none
 |.store t a x=>match (st.dB x).kn&&agh (st.dB x).cells&&Nat.beq (P.cellsOf t) (st.dB x).cells.length&&(P.info? t).isSome with
  |true=>match st.ac a with
   |.ptr b off=>match look st.bx b with
    |some l=>match Nat.ble (off+(st.dB x).cells.length) l.length with
     |true=>({st with bx:=(b,Hx l off (st.dB x).cells)::st.bx}).pk o.dst (.Qe []) k
     |false=>none
    |none=>none
   |.wS id i off=>match st.oi id with
    |some b=>match b.w&&oj st (st.dB x).cells&&awa id (st.dB x).cells with
     |true=>match A8 st b.t (b.xs.getD i.toNat b.t.az) (off,(st.dB x).cells) with
      |some (y,(0,[])) =>
       let E:=st.freeze (st.dB x).cells
       ({E with bl:=(id,some {b with xs:=b.xs.set i.toNat y,f:=b.f&&b5 (st.dB x).cells})::E.bl}).pk o.dst (.Qe []) k
      |_=>none
     |false=>none
    |none=>none
   |_=>none
  |false=>none
 |.nilCheck x=>match st.ac x with
  |.ptr b off=>st.pk o.dst (.v (.c (.ptr b off))) k|_=>none
 |.binOp op G x y _=>match st.dB x,st.dB y with
  |.c a,.c b=>aDE P F op G a b fun r=>st.pk o.dst (.v (.c r)) k
  |.agg l,.agg m=>match op,ajH P G l m with
   |.eql,some c=>st.pk o.dst (.v (.c (.bool c))) k|.neq,some c=>st.pk o.dst (.v (.c (.bool (!c)))) k|_,_=>none
  |_,_=>none
 |.unOp op _ x=>match op,st.ac x with
  |.not,.bool b=>st.pk o.dst (.v (.c (.bool (!b)))) k|.neg,.int j n=>st.pk o.dst (.v (.c (.int j (j.wrap (0-n))))) k|_,_=>none
 |.convert src dst x=>match P.underlying src,P.underlying dst,st.ac x with
  |some (.int _),some (.int j),.int _ n=>st.pk o.dst (.v (.c (.int j (j.wrap n)))) k|some .string,some .string,.str s=>st.pk o.dst (.v (.c (.str s))) k|some .string,some (.slice e),.str s=>match P.underlying e with
   |some (.int .u8)=>ck (decide ((s.size:Int)<=F.mem)) (st.pk o.dst (.v (.c (.ro true e (.int .u8) (bytesOf s)))) k)|_=>none
  |some (.slice e),some .string,c=>match P.underlying e,cn st e (.int .u8) c with
   |some (.int .u8),some xs=>st.pk o.dst (.v (.c (.str (strOf xs)))) k|_,_=>none
  |_,_,_=>none
 |.makeSlice t a b=>match o.dst,EA P t,st.ac a,st.ac b with
  |some d,some e,.int .i64 n,.int .i64 m=>match aqH P 20 e,sO P e with
   |some u,some z=>match im st u z.cells with
    |some (x,[])=>ck (z.kn&&(Nat.beq (P.cellsOf e) u.n&& !Nat.beq u.n 0&& !Nat.beq (P.bytesOf e) 0)&&decide (0<=n)&&n==m&&decide (n*(P.bytesOf e:Int)<=F.mem))
      (st.row d ⟨e,u,List.replicate n.toNat x,true,true⟩ k)
    |_=>none
   |_,_=>none
  |_,_,_,_=>none
 |.slice t x p B none=>match P.underlying t with
  |some .string=>match st.ac x with
   |.str s=>match s5 p st 0,s5 B st (s.size:Int) with
    |some l,some h=>ck (decide (0<=l)&&decide (l<=h)&&decide (h<=(s.size:Int))) (st.pk o.dst (.v (.c (.str (s.extract l.toNat h.toNat)))) k)|_,_=>none
   |_=>none
  |some (.slice D)=>match st.ac x with
   |.ro f e u xs=>match s5 p st 0,s5 B st (xs.length:Int) with
    |some l,some h=>ck (Nat.beq (P.cellsOf D) u.n&& !Nat.beq u.n 0&&(p.isNone || !big u)&&(decide (0<=l)&&decide (l<=h)&&decide (h<=(xs.length:Int)))) (st.pk o.dst (.v (.c (.ro f e u ((xs.take h.toNat).drop l.toNat)))) k)|_,_=>none
   |.own id none=>match st.oi id,p with
    |some b,none=>match s5 B st (b.xs.length:Int) with
     |some h=>ck (Nat.beq (P.cellsOf D) b.t.n&&(decide (0<=h)&&decide (h<=(b.xs.length:Int)))) (st.pk o.dst (.v (.c (.own id (some h)))) k)|none=>none
    |some b,some p=>match s5 (some p) st 0,s5 B st (b.xs.length:Int) with
     |some l,some h=>ck (Nat.beq (P.cellsOf D) b.t.n&& !big b.t&&(decide (0<=l)&&decide (l<=h)&&decide (h<=(b.xs.length:Int))))
       (({st with bl:=(id,some {b with w:=false})::st.bl}).pk o.dst (.v (.c (.ro b.f b.e b.t ((b.xs.take h.toNat).drop l.toNat)))) k)
     |_,_=>none
    |none,_=>none
   |_=>none
  |_=>none
 |.fieldAddr t x f=>match ath P t f with
  |some q=>match st.ac x with
   |.ptr b off=>st.pk o.dst (.v (.c (.ptr b (off+q)))) k|.wS id i off=>match st.oi id with
    |some _=>st.pk o.dst (.v (.c (.wS id i (off+q)))) k|none=>none
   |.Qd K u y off=>st.pk o.dst (.v (.c (.Qd K u y (off+q)))) k|_=>none
  |none=>none
 |.indexAddr t x i=>match st.ac i with
  |.int _ n=>match P.underlying t with
   |some (.slice e)=>match st.ac x with
    |.own id len=>match st.oi id with
     |some b=>match ajI st (.own id len) with
      |some m=>ck (Nat.beq (P.cellsOf e) b.t.n&&(decide (0<=n)&&decide (n<m))) (st.pk o.dst (.v (.c (.wS id n 0))) k)|none=>none
     |none=>none
    |.ro f _ u xs=>ck (Nat.beq (P.cellsOf e) u.n&& !Nat.beq u.n 0&&(decide (0<=n)&&decide (n<(xs.length:Int)))) (st.pk o.dst (.v (.c (.Qd f u (xs.getD n.toNat u.az) 0))) k)|_=>none
   |some (.array m e)=>match st.ac x with
    |.ptr b off=>ck (!Nat.beq (P.cellsOf e) 0&&(decide (0<=n)&&decide (n<(m:Int)))) (st.pk o.dst (.v (.c (.ptr b (off+n.toNat*P.cellsOf e)))) k)|_=>none
   |_=>none
  |_=>none
 |.index t x i=>match P.underlying t,st.ac x,st.ac i with
  |some .string,.str s,.int _ n=>ck (decide (0<=n)&&decide (n<(s.size:Int))) (st.pk o.dst (.v (.c (.int .u8 (ij s n)))) k)|_,_,_=>none
 |.field t x f=>match aqI P t f,st.dB x with
  |some (t,off),.agg l =>
   let q:=sF (P.cellsOf t) (sG off l)
   match Nat.beq q.length (P.cellsOf t) with
   |true=>match Xi P t with
    |some true=>st.pk o.dst (.v (.agg q)) k|some false=>match q with
     |[x]=>st.pk o.dst (.v (.c x)) k|_=>none
    |none=>none
   |false=>none
  |_,_=>none
 |.extract x i=>match st.ev x with
  |.Qe l=>match kj l i with
   |some v=>st.pk o.dst (.v v) k|none=>none
  |_=>none
 |.call {callee:=.value (.func f),args,..}=>match C f with
  |some (.one A)=>WB A st o.dst args.toList k|some (.two A)=>abh A st o.dst args.toList k|some (.sel A)=>aqK A st o.dst args.toList k|some (.idx i)=>aqL i st o.dst args.toList k|some (.ins e u)=>awc e u st o.dst args.toList k|some (.del e u)=>awd e u st o.dst args.toList k|none=>none
 |.call {callee:=.builtin .len,args,argTypes}=>match args.toList,argTypes.toList with
  |[x],[t]=>match P.underlying t,ajI st (st.ac x) with
   |some .string,some n=>match st.ac x with|.str _=>st.pk o.dst (.v (.c (.int .i64 n))) k|_=>none
   |some (.slice _),some n=>match st.ac x with|.str _=>none|_=>st.pk o.dst (.v (.c (.int .i64 n))) k
   |_,_=>none
  |_,_=>none
 |.call {callee:=.builtin .max,args,..}=>match args.toList with
  |x::l=>match st.ac x with
   |.int j a=>match Zx true st a l with
    |some r=>st.pk o.dst (.v (.c (.int j r))) k|none=>none
   |_=>none
  |_=>none
 |.call {callee:=.builtin .min,args,..}=>match args.toList with
  |x::l=>match st.ac x with
   |.int j a=>match Zx false st a l with
    |some r=>st.pk o.dst (.v (.c (.int j r))) k|none=>none
   |_=>none
  |_=>none
 |.call {callee:=.builtin .append,args,argTypes}=>match o.dst,args.toList,argTypes.toList with
  |some d,[s,x],[t,t2]=>match EA P t with
   |some e=>match aqH P 20 e,sO P e with
    |some u,some z=>Of P F st d (st.ac s) (st.ac x) t t2 e u z k|_,_=>none
   |none=>none
  |_,_,_=>none
 |.makeFunc (.func g) first L=>match first.toList,L.toList with
  |[],[x]=>match st.ac x with
   |.ptr b 0=>st.pk o.dst (.v (.c (.fnp g b))) k|_=>none
  |_,_=>none
 |_=>none
def wU (all:List Oper):List Oper->St->(St->Option U)->Option U
 |[],st,k=>k st|o::l,st,k=>match o.guard with
  |none=>fk P C F o st fun st=>wU all l st k
  |some (c,TA)=>match kj all c with
   |some d=>match d.dst with
    |some a=>match st.get a with
     |.v (.c (.bool b)) =>
      let yes (st:St):Option U:=fk P C F o st fun st=>wU all l st k
      let no (st:St):Option U:=st.pk o.dst (.Qe []) fun st=>wU all l st k
      br b (let st:=st.put a (.v (.c (.bool true)));match TA with|true=>yes st|false=>no st)
         (let st:=st.put a (.v (.c (.bool false)));match TA with|true=>no st|false=>yes st)
     |.Qe []=>st.pk o.dst (.Qe []) fun st=>wU all l st k
     |_=>none
    |none=>none
   |none=>none
def Qf (all:List Oper)(o:Oper)(st:St)(k:St->Option U):Option U :=
 match o.guard with
 |none=>fk P C F o st k|some (c,TA)=>match kj all c with
  |some d=>match d.dst with
   |some a=>match st.get a with
    |.v (.c (.bool b)) =>
     br b (let st:=st.put a (.v (.c (.bool true)));match TA with|true=>fk P C F o st k|false=>st.pk o.dst (.Qe []) k)
        (let st:=st.put a (.v (.c (.bool false)));match TA with|true=>st.pk o.dst (.Qe []) k|false=>fk P C F o st k)
    |.Qe []=>st.pk o.dst (.Qe []) k|_=>none
   |none=>none
  |none=>none
def om (o:Oper):Bool:=match o.op with
 |.move _|.assign _|.pick _ _ _|.load _ _|.nilCheck _|.binOp _ _ _ _ _|.unOp _ _ _|.fieldAddr _ _ _|.indexAddr _ _ _|.index _ _ _|.field _ _ _|.extract _ _|.build _ _|.slice _ _ _ _ _=>true|.convert _ dst _=>match P.underlying dst with|some (.slice _)=>false|_=>true
 |.call {callee:=.builtin .len,..}|.call {callee:=.builtin .min,..}|.call {callee:=.builtin .max,..}=>true|_=>false
def awe (o:Oper):Bool:=match o.op with
 |.call {callee:=.value (.func f),..}=>match C f with|some (.one _)=>true|_=>false
 |_=>false
def bz (o:Oper):Bool:=match o.guard,o.dst,o.op with
 |none,some _,.alloc t=>match sO P t with|some z=>z.kn|none=>false
 |none,some _,.buildSlice t len parts=>match EA P t with
  |some e=>match aqH P 20 e with
   |some u=>(flat u || Nat.beq len 0)&&Nat.beq parts.toList.length len&&(Nat.beq (P.cellsOf e) u.n&& !Nat.beq u.n 0&&Nat.ble (len*u.n) 16777216&&(sO P e).isSome)|none=>false
  |none=>false
 |_,_,_=>false
def aqM (o:Oper):Bool:=match o.op with
 |.alloc _|.box _ _|.buildSlice _ _ _=>true|_=>false
def ajK:Option Tmp->Option Tmp->Bool
 |some a,some b=>Nat.beq a b|_,_=>false
def Hy (o:Oper):Bool:=bz P o&&match o.op with|.buildSlice _ 0 _=>true|_=>false
def Zy (o:Oper):Option Tmp:=match o.op with
 |.call {callee:=.builtin .append,args,argTypes}=>match args.toList,argTypes.toList with
  |[.tmp t,_],[a,b]=>match Nat.beq a b with|true=>some t|false=>none
  |_,_=>none
 |_=>none
def Og (ops:Array Oper)(o:Oper):Bool:=match Zy o with
 |some t=>(List.range ops.size).any fun x=>match ops[x]? with
  |some a=>Hy P a&&ajK a.dst (some t)&&o.after.any fun e=>Region.binds .any e&&Nat.beq e.on x
  |none=>false
 |none=>false
def px (ops:Array Oper)(o:Oper):Bool:=om P o || bz P o || awe C o || aqM o || Og P ops o
def aHE (o:Oper):Bool:=match o.op with
 |.load _ _|.convert _ _ _=>true|_=>false
def Jg (st:St)(o:Oper):Bool:=match o.op with
 |.load _ a=>match st.ac a with|.Qd _ _ _ _=>true|_=>false
 |.convert _ _ _=>false|_=>true
def ayj (ops:List Oper)(st:St)(o:Oper):Bool:=match o.guard with
 |none=>false|some (a,TA)=>match kj ops a with
  |some b=>match b.dst with
   |some c=>match st.get c,TA with
    |.v (.c (.bool true)),false=>true|.v (.c (.bool false)),true=>true|.Qe [],_=>true|_,_=>false
   |none=>false
  |none=>false
def St.drop (st:St)(t:Tmp):St:={st with tm:=st.tm.filter fun p=> !Nat.beq p.1 t}
def gK (ops:Array Oper)(a:Array Bool):List Nat->St->St
 |[],st=>st|i::l,st=>match ops[i]? with
  |some b=>match bz P b&& !a.getD i true,b.dst with
   |true,some d=>(gK ops a l st).drop d|_,_=>gK ops a l st
  |none=>gK ops a l st
def abi (o:Oper)(t:Tmp):Bool:=match o.op with
 |.buildSlice _ _ parts=>parts.toList.any fun p=>match p.2 with|.tmp s=>Nat.beq s t|_=>false
 |_=>false
def Lx (st:St)(o:Oper):Bool:=match o.op with
 |.buildSlice t _ parts=>match EA P t with
  |some e=>match aqH P 20 e with
   |some u=>(gX st u 0 parts.toList).isSome|none=>false
  |none=>false
 |_=>true
def waits (ops:Array Oper)(b:Array Bool)(o:Oper):Bool:=o.after.any fun e=>Region.binds .any e&&match ops[e.on]? with|some a=> !bz P a&& !b.getD e.on true|none=>false
def ajL (ops:Array Oper)(b:Array Bool)(st:St):List Nat->Bool
 |[]=>true|y::l=>(match ops[y]? with|some a=> !bz P a || b.getD y true || waits P ops b a || Lx P st a|none=>true)&&ajL ops b st l
def ajM (ops:Array Oper):Bool:=(List.range ops.size).all fun x=>match ops[x]? with
 |some a=> !bz P a || (List.range ops.size).all fun y=>match ops[y]? with
  |some b=>match b.dst with
   |some t=> !abi a t || (!bz P b&&a.after.any fun e=>Region.binds .any e&&Nat.beq e.on y)
   |none=>true
  |none=>true
 |none=>true
def q5 (ops:Array Oper)(nt:Nat):Bool:=ajM P ops&&(List.range ops.size).all fun x=>match ops[x]? with
 |some a=> !bz P a || ((match a.dst with|some d=>Nat.blt d nt|none=>false)&&(List.range ops.size).all fun y=>Nat.beq y x || match ops[y]? with|some b=> !ajK b.dst a.dst|none=>true)
 |none=>true
def nv (ops:Array Oper)(a:Array Bool)(i:Nat):Nat->Oper->Bool
 |0,_=>false|n+1,b=>b.after.any fun e=>Region.binds .any e&&(e.on==i || (!a.getD e.on true&&match ops[e.on]? with|some c=>nv ops a i n c|none=>false))
def TC (o:Oper):Option Tmp:=match o.op with
 |.call {callee:=.value (.func f),args,..}=>match C f with
  |some (.two a)=>match a.pm with
   |.box|.cur=>match kj args.toList a.i with|some (.tmp t)=>some t|_=>none
   |_=>none
  |_=>none
 |.store _ (.tmp t) _=>some t|_=>none
def awf (ops:Array Oper)(c:Array Bool)(t:Tmp):Bool:=(List.range ops.size).all fun a=>match ops[a]? with
 |some b=>c.getD a true || !ajK b.dst (some t)|none=>true
def Qg (o:Oper):Bool:=match o.op with|.alloc _=>true|_=>false
def aBh (ops:Array Oper)(c:Array Bool)(b:Oper)(t:Tmp):Bool:=(List.range ops.size).any fun x=>match ops[x]? with
 |some a=>bz P a&&Qg a&&ajK a.dst (some t)&& !c.getD x true&&b.after.any fun e=>Region.binds .any e&&Nat.beq e.on x
 |none=>false
def IX (ops:Array Oper)(b:Array Bool)(st:St)(i:Nat)(ok:Nat->Bool):Bool:=(List.range ops.size).all fun c=>match ops[c]? with
 |some a=>px P C ops a || b.getD c true || nv ops b i 3 a || (match TC C a with
  |some t=>(match st.get t with|.v (.c (.ptr d 0))=>ok d|_=>false)&&awf ops b t || aBh P ops b a t
  |none=>false)
 |none=>true
def aqN (ops:Array Oper)(a:Array Bool)(st:St)(i:Nat)(o:Oper):Bool:=match o.op with
 |.load _ x=>match st.ac x with
  |.ptr b _=>IX P C ops a st i fun c=> !Nat.beq c b
  |.wS id _ _=>match st.oi id with
   |some b=>b.w&&IX P C ops a st i fun _=>true
   |none=>false
  |_=>false
 |_=>false
def abj (ops:Array Oper)(b:Array Bool)(i:Nat):Bool :=
 (List.range ops.size).all fun c=>match ops[c]? with
  |some a=>px P C ops a || b.getD c true || nv ops b i 3 a|none=>true
def TD (ops:Array Oper)(b:Array Bool)(st:St):List Nat->Option (Nat×Oper)
 |[]=>none|i::l=>match ops[i]? with
  |some a=>match om P a&&Region.free .any ops b i&&(Jg st a || abj P C ops b i || ayj ops.toList st a || aqN P C ops b st i a) with
   |true=>some (i,a)|false=>TD ops b st l
  |none=>none
def jJ (ops:Array Oper)(x:Nat):List Nat->Array Bool->Array Bool
 |[],l=>l|i::is,l=>match ops[i]? with
  |some a=>match bz P a&& !Nat.beq i x with
   |true=>jJ ops x is (l.setIfInBounds i true)|false=>jJ ops x is l
  |none=>jJ ops x is l
def aBi (x:Nat):List Nat->Bool
 |[]=>true|j::l=>Nat.beq j x&&aBi x l
def TE (ops:Array Oper)(a:Array Bool)(st:St):List Nat->Option (Nat×Oper)
 |[]=>none|i::l=>match ops[i]? with
  |some b=>match aBi i (Region.ready .any ops (jJ P ops i (List.range ops.size) a))&&ajL P ops a st (List.range ops.size) with
   |true=>some (i,b)|false=>TE ops a st l
  |none=>none
noncomputable def aDG (x y:Option U):Option U:=open Classical in if x=y then x else none
noncomputable def ayk:List (Option U)->Option U
 |[]=>none|[x]=>x|x::l=>aDG x (ayk l)
inductive BT where|l|n (a b:BT)
def ai9 (ops:Array Oper)(a:Array Bool):List Nat:=Region.ready .any ops (jJ P ops ops.size (List.range ops.size) a)
def aBj (ops:Array Oper)(b:Array Bool)(o:Oper):List Nat:=(List.range ops.size).filter fun x=>match ops[x]? with
 |some a=>bz P a&& !b.getD x true&&o.after.any fun e=>Region.binds .any e&&Nat.beq e.on x
 |none=>false
def aDH (ops:Array Oper)(a:Array Bool):Bool:=(List.range ops.size).all fun x=>match ops[x]? with
 |some o=> !bz P o || a.getD x true || o.after.all fun e=> !Region.binds .any e || a.getD e.on false
 |none=>true
def aqO (ops:Array Oper):List Nat->Array Bool->St->(Array Bool->St->Option U)->Option U
 |[],ik,st,k=>k ik st|x::l,ik,st,k=>match ops[x]? with
  |some a=>fk P C F a (gK P ops ik (List.range ops.size) st) fun st=>aqO ops l (ik.setIfInBounds x true) st k
  |none=>none
def IY (ops:Array Oper)(a:Array Bool):List Nat->Bool
 |[]=>true|i::l=>(match ops[i]? with|some b=> !bz P b || a.getD i true|none=>true)&&IY ops a l
noncomputable def wV (ops:Array Oper):Nat->Array Bool->St->(St->Option U)->Option U
 |0,ik,st,k=>match Region.ready .any ops ik with
  |[]=>ck (IY P ops ik (List.range ops.size)) (k st)|_=>none
 |n+1,ik,st,k=>match Region.ready .any ops ik with
  |[]=>ck (IY P ops ik (List.range ops.size)) (k st)|i::r=>let st:=gK P ops ik (List.range ops.size) st
   match TD P C ops ik st (i::r) with
   |some (b,a)=>Qf P C F ops.toList a st fun st=>wV ops n (ik.setIfInBounds b true) st k
   |none=>match TE P ops ik st (i::r) with
    |some (b,a)=>Qf P C F ops.toList a st fun st=>wV ops n (ik.setIfInBounds b true) st k
    |none=>ck (ajL P ops ik st (List.range ops.size)&&aDH P ops ik) (ayk ((ai9 P ops ik).map fun x=>match ops[x]? with
     |some a=>aqO P C F ops (aBj P ops ik a) ik st fun ik st=>Qf P C F ops.toList a (gK P ops ik (List.range ops.size) st) fun st=>wV ops n (ik.setIfInBounds x true) st k
     |none=>none))
inductive Ex where
 |norm|exit (id:Nat)|ret
structure Hint where
 live:List Tmp
 mat:List (Tmp×TypeId×Ty):=[]
 roT:List Tmp:=[]
 wk:List Tmp:=[]
 A9:List (Nat×Nat×TypeId×Ty):=[]
 xl:List Tmp:=[]
 rl:List Tmp:=[]
 roB:List (Nat×Nat):=[]
 aFE:Bool:=false
def aGQ (env:List Nat)(c:AC):List Nat:=match c with
 |.own id _|.wS id _ _=>match NK env id with|true=>env|false=>env++[id]
 |_=>env
def aBk (env:List Nat)(l:List AC):List Nat:=l.foldl aGQ env
def AV.cells:AV->List AC
 |.v x=>x.cells|.Qe l=>l.flatMap CV.cells
def idxOf:List Nat->Nat->Nat->Option Nat
 |[],_,_=>none|x::l,n,i=>match Nat.beq x n with|true=>some i|false=>idxOf l n (i+1)
def ahk (env d:List Nat):AC->AC
 |.own id len=>match idxOf env id 0 with|some i=>.own (1000000+i) len|none=>.none
 |.wS id i a=>match idxOf env id 0 with|some e=>.wS (1000000+e) i a|none=>.none
 |.ptr b a=>match NK d b with|true=>.ptr b a|false=>.none
 |.fnp _ _=>.none|c=>c
def aDI (env a:List Nat):CV->CV
 |.c x=>.c (ahk env a x)|.agg l=>.agg (l.map (ahk env a))
def aDJ (env a:List Nat):AV->AV
 |.v x=>.v (aDI env a x)|.Qe l=>.Qe (l.map (aDI env a))
def aqP (st:St)(t:Tmp)(e:TypeId)(u:Ty):St:=match st.get t,look st.bl (2000000+t),Nat.beq u.n 0 with
 |.v (.c .nil),none,false=>{(st.put t (.v (.c (.own (2000000+t) none)))) with bl:=(2000000+t,some ⟨e,u,[],true,true⟩)::st.bl}
 |_,_,_=>st
def aja (st:St)(b j:Nat)(e:TypeId)(u:Ty):St:=match look st.bx b,look st.bl (3000000+100*b+j),Nat.beq u.n 0 with
 |some l,none,false=>match kj l j with
  |some .nil=>{st with bx:=(b,Fw l j (.own (3000000+100*b+j) none))::st.bx,bl:=(3000000+100*b+j,some ⟨e,u,[],true,true⟩)::st.bl}
  |_=>st
 |_,_,_=>st
def ayl (st:St)(t:Tmp):St:=match st.get t with
 |.v (.c (.own id len))=>match st.oi id with
  |some b=>(st.di (.own id len)).put t (.v (.c (.ro b.f b.e b.t (Je b.xs len))))|none=>st
 |_=>st
def aqQ (st:St)(b j:Nat):St:=match look st.bx b with
 |some l=>match kj l j with
  |some (.own id len)=>match st.oi id with
   |some a=>{(st.di (.own id len)) with bx:=(b,Fw l j (.ro false a.e a.t (Je a.xs len)))::(st.di (.own id len)).bx}
   |none=>st
  |some (.ro _ e t xs)=>{st with bx:=(b,Fw l j (.ro false e t xs))::st.bx}
  |_=>st
 |none=>st
def aBl (st:St):Bool->St
 |true=>{st with sp:=.v (.c .none)}
 |false=>st
def aqR (st:St)(t:Tmp):St:=match st.get t with
 |.v (.c (.ro _ e u xs))=>st.put t (.v (.c (.ro false e u xs)))|.v (.c (.own id len))=>match st.oi id with
  |some b=>{st with bl:=(id,some {b with f:=false})::st.bl}
  |none=>st
 |_=>st
def TF:List AV->List Nat
 |[]=>[]|.v (.c (.ptr b _))::l=>match NK (TF l) b with|true=>TF l|false=>b::TF l
 |_::l=>TF l
def aDK (a:List (Nat×AV))(bx:List (Nat×List AC)):List Nat :=
 bx.foldl (fun env b=>aBk env b.2) (a.foldl (fun env x=>aBk env x.2.cells) [])
def awg (st:St)(b:Nat):List AC:=match look st.bx b with|some l=>l|none=>[]
def TG (st:St)(env:List Nat):Nat->List Nat->List (Nat×Option eF)
 |_,[]=>[]|i,id::l=>(1000000+i,match idxOf env id 0 with
  |some a=>match Nat.beq a i with|true=>st.oi id|false=>none
  |none=>none)::TG st env (i+1) l
def aGR (st:St)(tm:List (Nat×AV))(a:List Nat)(env:List Nat):St :=
 {nt:=st.nt,tm:=tm.map fun x=>(x.1,aDJ env a x.2),bx:=a.map fun b=>(b,(awg st b).map (ahk env a)),bl:=TG st env 0 env,sp:=aDJ env a st.sp,rob:=st.rob}
def nx (d:List Tmp)(st:St):St :=
 let a:=d.map fun t=>(t,st.get t)
 let c:=TF (st.sp::a.map (·.2))
 aGR st a c (aDK ((0,st.sp)::a) (c.map fun b=>(b,awg st b)))
def aBm (h:Hint)(st:St):St :=
 nx h.live (h.wk.foldl aqR (h.roT.foldl ayl (h.roB.foldl (fun st (b,a)=>aqQ st b a) (h.A9.foldl (fun st (b,a,e,u)=>aja st b a e u) (h.mat.foldl (fun st (t,e,u)=>aqP st t e u) (aBl st h.aFE))))))
def aFF (h:Hint)(e:Ex)(st:St):St:=match e with
 |.norm=>st|.exit _=>nx h.xl st|.ret=>nx h.rl st
def aqS (h:Option Hint)(st:St):St:=match h with|some h=>aBm h st|none=>st
def ajN (h:Option Hint)(e:Ex)(st:St):St:=match h with|some h=>aFF h e st|none=>st
def aDL (b:St->(Ex->St->Option U)->Option U)(h:Option Hint)(k:Ex->St->Option U):Nat->St->Option U
 |0,_=>none|n+1,st=>b st fun e cp=>match e with
  |.norm=>aDL b h k n (aqS h cp)|.exit a=>k (.exit a) (ajN h (.exit a) cp)|.ret=>k .ret (ajN h .ret cp)
def q7:Code->Nat
 |.region id _ _=>id|.seq a _=>q7 a|.block _ b=>q7 b|_=>0
def jK (o:Oper):Bool:=match o.op with
 |.move _|.assign _|.pick _ _ _|.load _ _|.nilCheck _|.binOp _ _ _ _ _|.unOp _ _ _|.fieldAddr _ _ _|.indexAddr _ _ _|.index _ _ _|.field _ _ _|.extract _ _|.build _ _|.slice _ _ _ _ _=>true|.convert _ dst _=>match P.underlying dst with|some (.slice _)=>false|_=>true
 |.call {callee:=.builtin .len,..}|.call {callee:=.builtin .min,..}|.call {callee:=.builtin .max,..}=>true|.call {callee:=.value (.func f),..}=>match C f with|some (.one b)=>Nat.beq b.m 1&&b.rs.all fun a=>flat a.1|_=>false
 |_=>false
def awh (ops:Array Oper):Bool:=P.follows .mixedOrders&&Region.lexB .any ops&&ops.toList.all fun a=>jK P C a
def aqT (d:Nat)(c:Nat->AC):AC->AC
 |.ptr b a=>match Nat.beq b d with|true=>c a|false=>.ptr b a
 |.fnp g b=>match Nat.beq b d with|true=>.none|false=>.fnp g b
 |x=>x
def aBn (d:Nat)(c:Nat->AC):CV->CV
 |.c x=>.c (aqT d c x)|.agg l=>.agg (l.map (aqT d c))
def aym (d:Nat)(c:Nat->AC):AV->AV
 |.v x=>.v (aBn d c x)|.Qe l=>.Qe (l.map (aBn d c))
def St.apd (st:St)(d:Nat)(c:Nat->AC):St :=
 {st with tm:=st.tm.map fun p=>(p.1,aym d c p.2),bx:=(st.bx.filter fun p=> !Nat.beq p.1 d).map fun p=>(p.1,p.2.map (aqT d c)),sp:=aym d c st.sp}
def aBo (d:Nat)(u:Ty)(st:St)(k:St->Option U):Option U:=match look st.bx d with
 |some cells=>match im st u cells with
  |some (y,[])=>ck (oj st cells) (k ((st.freeze cells).apd d fun a=>.Qd (b5 cells) u y a))
  |_=>none
 |none=>none
def Ln (e:TypeId):Ty->Bool
 |.pair a b=>Ln e a || Ln e b|.sl c t=>Nat.beq c e || Ln e t|_=>false
def aqU (e:TypeId):AC->AC
 |.ro f a t xs=>match Nat.beq a e || Ln e t with|true=>.none|false=>.ro f a t xs
 |.Qd _ _ _ _=>.none|x=>x
def aBp (e:TypeId):CV->CV
 |.c x=>.c (aqU e x)|.agg l=>.agg (l.map (aqU e))
def ayn (e:TypeId):AV->AV
 |.v x=>.v (aBp e x)|.Qe l=>.Qe (l.map (aBp e))
def azG (e:TypeId):Option eF->Option eF
 |some b=>match Ln e b.t || (!b.w&&Nat.beq b.e e) with|true=>none|false=>some b
 |none=>none
def ati (e:TypeId)(u:Ty):List AC->Nat->Option (Nat×List u.D)
 |[],_=>none|.ro true a t xs::l,i=>match Nat.beq a e with
  |true=>if h:t.beq u=true then some (i,Tx (Ty.beq_eq h) xs) else none|false=>ati e u l (i+1)
 |_::l,i=>ati e u l (i+1)
def ahl (d id:Nat)(e:TypeId)(u:Ty)(l:List AC)(j:Nat)(xs:List u.D)(st:St):St :=
 {st with tm:=st.tm.map fun p=>(p.1,ayn e p.2),bx:=(d,Fw (l.map (aqU e)) j (.own id none))::st.bx.map fun p=>(p.1,p.2.map (aqU e)),bl:=(id,some ⟨e,u,xs,true,true⟩)::st.bl.map fun p=>(p.1,azG e p.2),sp:=ayn e st.sp}
def ayo (d:Nat)(e:TypeId)(u:Ty)(st:St)(k:St->Option U):Option U:=match look st.bx d,look st.bl (6000000+d) with
 |some l,none=>match ati e u l 0 with
  |some (a,xs)=>ck (big u&& !Ln e u) (k (ahl d (6000000+d) e u l a xs st))|none=>none
 |_,_=>none
def aBq (a:List Nat):List (Tmp×TypeId×Ty)->St->(St->Option U)->Option U
 |[],st,k=>k st|(d,e,u)::l,st,k=>match NK a e with
  |true=>ayo d e u st fun st=>aBq a l st k
  |false=>aBo d u st fun st=>aBq a l st k
def azH (H:Nat->Option Hint):List Nat:=match H 999998 with|some h=>h.live|none=>[]
def aGS (H:Nat->Option Hint)(id:Nat):List (Tmp×TypeId×Ty):=match H (900000+id) with|some h=>h.mat|none=>[]
noncomputable def run (H:Nat->Option Hint):Code->St->(Ex->St->Option U)->Option U
 |.skip,st,k=>k .norm st|.region id ops aDM,st,k=>match (!aDM || awh P C ops) with
  |true=>wU P C F ops.toList ops.toList st fun st=>k .norm st
  |false=>match P.follows .mixedOrders&&Region.noSelect ops&&q5 P ops st.nt with
   |true=>aBq (azH H) (aGS H id) st fun st=>wV P C F ops ops.size (Array.replicate ops.size false) st fun st=>k .norm st
   |false=>none
 |.seq a b,st,k=>run H a st fun e st=>match e with
  |.norm=>run H b st k|e=>k e st
 |.cond c a b,st,k=>match st.ac c with
  |.bool v=>br v (run H a (st.lit c true) k) (run H b (st.lit c false) k)|_=>none
 |.block id b,st,k=>run H b st fun e st=>match e with
  |.exit d=>match Nat.beq d id with|true=>k .norm st|false=>k (.exit d) st
  |e=>k e st
 |.loop b,st,k=>aDL (fun st k=>run H b st k) (H (q7 b)) k F.n (aqS (H (q7 b)) st)
 |.exit id,st,k=>k (.exit id) st|.ret,st,k=>k .ret st|_,_,_=>none
def aGT (ps:List (Ty×Bool))(x:Args ps):List CV:=exF false ps x
def atj:Nat->List CV->List (Nat×AV)
 |_,[]=>[]|i,v::l=>(i,.v v)::atj (i+1) l
def aBr (st:St):ResultVar->Option CV
 |.tmp t=>some (st.dB (.tmp t))|.cell a t=>match tF st (st.ac (.tmp a)) with
  |some (l,off) =>
   let q:=sF (P.cellsOf t) (sG off l)
   match Nat.beq q.length (P.cellsOf t) with
   |true=>match Xi P t with
    |some true=>some (.agg q)|some false=>match q with
     |[x]=>some (.c x)|_=>none
    |none=>none
   |false=>none
  |none=>none
def Qh (st:St):List ResultVar->Option (List CV)
 |[]=>some []|r::l=>match aBr P st r with
  |some c=>match Qh st l with
   |some cs=>some (c::cs)|none=>none
  |none=>none
def TH (a:Func)(rs:List (Ty×Bool))(m:Nat):Ex->St->Option (Args rs):=fun e st =>
 match e with
 |.exit _=>none|_=>match Qh P st a.results.toList with
  |some l=>match fU st m [] (aQ l)&&(match m with|2=>wT st rs l|_=>true) with
   |true=>BP st rs l|false=>none
  |none=>none
def dE (a : Func) : Code := match a.body with | some c => c | none => .refuse ""
def ajO (H:Nat->Option Hint):List Nat:=match H 999999 with|some h=>h.live|none=>[]
noncomputable def aFG (H:Nat->Option Hint) (a:Func) (ps rs:List (Ty×Bool)) (m:Nat) (x:Args ps):Option (Args rs) :=
 ck (Nat.ble ps.length a.ntmps&&dM ps&&dM rs&&Nat.ble m 2) (run P C F H (dE a) {nt:=a.ntmps,tm:=atj 0 (aGT ps x),bx:=[],bl:=[],rob:=ajO H} (TH P a rs m))
def aFH (pm:PM)(a:Ty×Bool)(x:a.1.D):CV×List (Nat×Option eF)×List (Nat×List AC):=match pm with
 |.rd=>(match a.2 with|true=>.agg (ex false a.1 x)|false=>.c (match ex false a.1 x with|[c]=>c|_=>.none),[],[])
 |.own f=>((ex1 62500 f a x 0).1,(ex1 62500 f a x 0).2,[])|.box=>(.c (.ptr 4000000 0),[],[(4000000,ex false a.1 x)])|.cur=>(.c (.ptr 4000000 0),[],[(4000000,ex true a.1 x)])
def exP (pm:PM):Nat->(ps:List (Ty×Bool))->Args ps->List CV×(CV×List (Nat×Option eF)×List (Nat×List AC))
 |0,a::l,x=>((aFH pm a x.1).1::exF false l x.2,aFH pm a x.1)|i+1,a::l,x=>((match a.2 with|true=>.agg (ex false a.1 x.1)|false=>.c (match ex false a.1 x.1 with|[c]=>c|_=>.none))::(exP pm i l x.2).1,(exP pm i l x.2).2)
 |_,[],_=>([],(.c .none,[],[]))
def Zz (nt:Nat)(pm:PM)(i:Nat)(ps:List (Ty×Bool))(x:Args ps):St :=
 {nt:=nt,tm:=atj 0 (exP pm i ps x).1,bx:=(exP pm i ps x).2.2.2,bl:=(exP pm i ps x).2.2.1,sp:=.v (exP pm i ps x).2.1}
def anM (st:St)(pm:PM)(rs a:List (Ty×Bool))(m:Nat)(l:List CV):Option (Args rs×Args a) :=
 match pm with
 |.rd=>match a with
  |[]=>match rdM m with
   |some f=>match l with
    |[.c (.ptr b 0)]=>match look st.bx b with
     |some c=>match fU st (match f with|true=>1|false=>0) [] c&&vT c with
      |true=>match BP st rs [.agg c]with|some r=>some (r,())|none=>none
      |false=>none
     |none=>none
    |_=>none
   |none=>none
  |_=>none
 |.box=>match st.sp,a with
  |.v (.c (.ptr b 0)),[q]=>match look st.bx b with
   |some c=>match vT c&&fU st m [] (aQ l)&&(match m with|2|3=>wT st rs l|_=>true)&&Nat.ble m 3 with
    |true=>match BP st rs l,imV st q (.agg c) with
     |some r,some y=>some (r,(y,()))|_,_=>none
    |false=>none
   |none=>none
  |_,_=>none
 |.cur=>match st.sp,a with
  |.v (.c (.ptr b 0)),[q]=>match look st.bx b with
   |some c=>match vT c&&b5 c&&fU st m [] (aQ l)&&(match m with|2=>wT st rs l|_=>true)&&Nat.ble m 2 with
    |true=>match BP st rs l,imV st q (.agg c) with
     |some r,some y=>some (r,(y,()))|_,_=>none
    |false=>none
   |none=>none
  |_,_=>none
 |.own _=>match Nat.beq m 2 || Nat.beq m 3 with
  |true=>match a with
   |[]=>match fU st m [] (aQ l)&&wT st rs l with
    |true=>match BP st rs l with|some r=>some (r,())|none=>none
    |false=>none
   |[q]=>match st.sp with
    |.v c=>match fU st m [] (aQ (l++[c]))&&wT st rs l&&wT st [q] [c]with
     |true=>match BP st rs l,BP st [q] [c]with
      |some r,some y=>some (r,y)|_,_=>none
     |false=>none
    |_=>none
   |_=>none
  |false=>none
def aFI (b:Func)(pm:PM)(rs a:List (Ty×Bool))(m:Nat):Ex->St->Option (Args rs×Args a):=fun e st =>
 match e with
 |.exit _=>none|_=>match Qh P st b.results.toList with
  |some l=>anM st pm rs a m l|none=>none
def aDN:List Nat->Bool
 |[]=>true|_=>false
def aE7 (pm:PM)(a:Option (Ty×Bool))(l:List Nat):Bool:=match pm,a with
 |.cur,some a=>l.all fun e=> !Ln e a.1
 |_,_=>aDN l
noncomputable def ayq (H:Nat->Option Hint) (a:Func) (ps:List (Ty×Bool)) (i:Nat) (pm:PM) (rs b:List (Ty×Bool)) (m:Nat) (x:Args ps):Option (Args rs×Args b) :=
 ck (Nat.ble ps.length a.ntmps&&Nat.blt i ps.length&&dM ps&&dM rs&&aE7 pm (kj ps i) (azH H)) (run P C F H (dE a) {(Zz a.ntmps pm i ps x) with rob:=ajO H} (aFI P a pm rs b m))
def awi (f:Func)(a b q:Ty×Bool):Ex->St->Option (a.1.D×b.1.D×q.1.D):=fun e st =>
 match e with
 |.exit _=>none|_=>match Qh P st f.results.toList with
  |some [d,c]=>match BP st [b] [c]with
   |some n=>br (ajG b.1 n.1)
     (match anM st (.own true) [a,b] [] 2 [d,c]with|some r=>some (r.1.1,r.1.2.1,q.1.az)|none=>none)
     (ck (aE6 a d) (match anM st (.own true) [b] [q] 2 [c]with|some r=>some (a.1.az,r.1.1,r.2.1)|none=>none))
   |none=>none
  |_=>none
noncomputable def anN (H:Nat->Option Hint) (c:Func) (ps:List (Ty×Bool)) (i:Nat) (a b q:Ty×Bool) (x:Args ps):Option (a.1.D×b.1.D×q.1.D) :=
 ck (Nat.ble ps.length c.ntmps&&Nat.blt i ps.length&&dM ps&&dM [a,b]&&aDN (azH H)) (run P C F H (dE c) {(Zz c.ntmps (.own true) i ps x) with rob:=ajO H} (awi P c a b q))
end
end Go.Am
namespace Go.Am
inductive At where
 |l|r|b|t|e|i
def sub:List At->Code->Code
 |[],c=>c|.l::p,.seq a _=>sub p a|.r::p,.seq _ b=>sub p b|.b::p,.block _ b=>sub p b|.t::p,.cond _ a _=>sub p a|.e::p,.cond _ _ a=>sub p a|.i::p,.loop a=>sub p a|_,_=>.skip
section
variable (P:Program) (C:FuncId->Option Any) (F:nY) {U:Type} (H:Nat->Option Hint)
noncomputable def S8:List At->Code->(Ex->St->Option U)->(Ex->St->Option U)
 |[],_,k=>k|.l::p,.seq a b,k=>S8 p a fun e st=>match e with
  |.norm=>run P C F H b st k|e=>k e st
 |.r::p,.seq _ b,k=>S8 p b k|.b::p,.block id b,k=>S8 p b fun e st=>match e with
  |.exit c=>match Nat.beq c id with|true=>k .norm st|false=>k (.exit c) st
  |e=>k e st
 |.t::p,.cond _ a _,k=>S8 p a k|.e::p,.cond _ _ a,k=>S8 p a k|_,_,k=>k
noncomputable def lp (b:Code) (k:Ex->St->Option U) (n:Nat) (st:St):Option U :=
 aDL (fun st k=>run P C F H b st k) (H (q7 b)) k n st
noncomputable def itk (b:Code) (k:Ex->St->Option U) (n:Nat):Ex->St->Option U:=fun e cp=>match e with
 |.norm=>lp P C F H b k n (aqS (H (q7 b)) cp)|.exit a=>k (.exit a) (ajN (H (q7 b)) (.exit a) cp)|.ret=>k .ret (ajN (H (q7 b)) .ret cp)
end
end Go.Am
