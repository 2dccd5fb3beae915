/- No condition. -/
import Derived.WalkKit
import Derived.KernelRfl
import Derived.Deep.Quiet
import Derived.OrdersHeld
import Derived.Deep.RegionHeld3
set_option linter.all false
namespace Go.Am
abbrev aK:= @List.length_append
abbrev aG:= @Bool.and_eq_true
abbrev aQ:= @decide_eq_false
abbrev aL:= @decide_eq_true
abbrev aW:= @List.length_cons
abbrev af:= @if_neg
abbrev bU:= @beq_eq_false_iff_ne
abbrev ag:= @if_pos
abbrev bm:= @List.length_nil
abbrev bB:= @List.length_take
abbrev aN:= @Bool.not_true
abbrev bc:= @List.length_drop
abbrev aR:= @Nat.zero_le
abbrev bV:= @decide_eq_true_eq
abbrev bJ:= @List.getElem_mem
abbrev cR:= @List.length_singleton
abbrev bd:= @beq_iff_eq
abbrev bF:= @Nat.le_refl
abbrev bY:= @Nat.le_trans
abbrev ek:= @List.all_eq_true
abbrev fq:= @List.mem_singleton
abbrev l2:= @Option.isSome_iff_exists
abbrev cS:= @List.mem_cons
abbrev jO:= @List.mem_cons_of_mem
abbrev ed:= @Bool.not_false
abbrev om:= @List.getElem?_eq_getElem
abbrev eV:= @Option.some.inj
abbrev gz:= @Int.toNat_natCast
abbrev hS:= @List.append_assoc
abbrev fs:= @List.append_nil
abbrev eZ:= @List.mem_range
abbrev eF:= @Bool.true_and
abbrev wR:= @List.getElem?_eq_some_iff
abbrev gQ:= @List.mem_append
abbrev BN:= @Array.getElem?_eq_some_iff
abbrev kl:= @List.take_length
abbrev Fa:= @List.getD_eq_getElem?_getD
abbrev nj:= @of_decide_eq_true
abbrev kK:= @Bool.or_eq_true
abbrev p3:= @List.mem_cons_self
abbrev yb:= @Array.toArray_toList
abbrev PL:= @Array.getD_eq_getD_getElem?
abbrev oo:= @List.length_set
abbrev pj:= @List.length_map
abbrev Hg:= @Nat.mul_le_mul_right
abbrev Fb:= @Nat.lt_of_lt_of_le
abbrev aak:= @List.eq_nil_of_length_eq_zero
abbrev VJ:= @List.mem_of_find?_eq_some
abbrev VK:= @List.drop_eq_getElem_cons
abbrev PN:= @Classical.choose_spec
abbrev tf:= @List.map_cons
abbrev MH:= @Int.toNat_of_nonneg
abbrev BO:= @List.nil_append
abbrev tO:= @List.cons.inj
abbrev Ke:= @Bool.eq_false_iff
abbrev Hh:= @List.cons_append
abbrev Hi:= @List.countP_cons
abbrev gA:= @if_false
abbrev MI:= @List.take_add_one
abbrev PO:= @List.getElem?_take
abbrev Tr:= @bne_eq_false_iff_eq
abbrev wS:= @Nat.zero_add
abbrev aal:= @List.take_append_drop
abbrev aam:= @List.mem_of_mem_take
abbrev VL:= @Nat.pos_of_ne_zero
abbrev gR:= @if_true
abbrev Fc:= @List.mem_map
abbrev anO:= @Int.tmod_eq_emod_of_nonneg
abbrev anP:= @Int.tdiv_eq_ediv_of_nonneg
abbrev Kf:= @Bool.false_or
abbrev nk:= @congrArg
abbrev Ts:= @Nat.not_lt_zero
abbrev VM:= @List.drop_length
abbrev aan:= @List.length_range
abbrev ajU:= @Bool.or_eq_false_iff
abbrev anQ:= @List.take_of_length_le
abbrev aao:= @beq_self_eq_true
abbrev Fe:= @bne_iff_ne
abbrev ajV:= @List.getElem_of_mem
abbrev ajW:= @List.getElem?_drop
abbrev MJ:= @Nat.add_mul
abbrev aea:= @Array.toList_map
abbrev MK:= @Int.le_refl
abbrev VN:= @Nat.add_assoc
abbrev Tt:= @Nat.lt_or_ge
abbrev aap:= @Bool.false_and
abbrev ajX:= @Bool.not_eq_true'
abbrev Tu:= @Int.pow_succ
abbrev ayy:= @List.getElem?_append_right
abbrev aeb:= @List.map_append
abbrev aec:= @Nat.min_eq_left
abbrev PQ:= @Prod.mk.inj
abbrev ayz:= @Classical.byContradiction
abbrev anR:= @Int.emod_lt_of_pos
abbrev aed:= @List.drop_zero
abbrev aDv:= @List.take_append_of_le_length
abbrev atZ:= @List.mem_of_getElem?
abbrev aee:= @Bool.and_false
abbrev ayA:= @decide_eq_false_iff_not
abbrev aDw:= @Array.getElem?_setIfInBounds
abbrev VO:= @List.find?_some
abbrev VP:= @Int.emod_nonneg
abbrev aci:= @List.not_mem_nil
abbrev ahh:= @Bool.false_eq_true
abbrev ahi:= @Nat.eq_zero_or_pos
abbrev ahj:= @of_decide_eq_false
abbrev tr:= @BEq.comm
abbrev tt:= @Prod.ext
abbrev anS:= @List.length_filter_le
abbrev Sb:= @Nat.add_zero
abbrev ahk:= @List.all_eq_false
abbrev VQ:= @Nat.lt_irrefl
abbrev VR:= @List.sum_cons
abbrev avy:= @Nat.le_mul_of_pos_right
abbrev acj:= @List.take_left
abbrev Sc:= @Nat.one_mul
abbrev anT:= @List.find?_eq_none
abbrev VS:= @Nat.sub_zero
abbrev anU:= @Option.toList_some
abbrev avz:= @List.drop_eq_nil_of_le
abbrev Ch:= @Eq.trans
abbrev avA:= @List.getElem_set_self
abbrev anV:= @bne_self_eq_false
abbrev avB:= @List.getElem?_append
abbrev avC:= @List.mem_iff_getElem
abbrev avD:= @List.mem_of_mem_drop
abbrev anW:= @Option.bind_some
abbrev aBf:= @Array.getElem?_eq_getElem
abbrev aBg:= @List.mem_or_eq_of_mem_set
abbrev aBh:= @List.pairwise_iff_getElem
abbrev avE:= @List.take_succ_cons
abbrev avF:= @List.flatMap_append
abbrev avG:= @List.getElem_set_ne
abbrev aBi:= @List.getElem_append_left
abbrev anX:= @List.take_left'
abbrev avH:= @Array.any_eq_true'
abbrev aBj:= @List.getElem?_cons_succ
abbrev anY:= @List.drop_drop
abbrev ahl:= @Bool.true_or
abbrev aBk:= @List.getElem_cons_zero
abbrev ahm:= @Nat.succ_pos
abbrev anZ:= @List.drop_left
abbrev aBl:= @Nat.div_lt_iff_lt_mul
abbrev aBm:= @List.mem_append_right
abbrev aBn:= @List.countP_mono_left
abbrev aBo:= @List.set_getElem_self
abbrev ack:= @Nat.mod_lt
abbrev avI:= @Nat.mod_eq_of_lt
abbrev avJ:= @List.any_eq_true
abbrev avK:= @List.take_append
abbrev an0:= @Bool.or_false
abbrev avL:= @List.foldl_cons
abbrev avM:= @List.nodup_cons
abbrev an1:= @Nat.zero_mul
inductive Ty where
 |int (k:IntKind)|bool|str|unit
 |pair (a b:Ty)
 |sl (e:TypeId) (t:Ty)
@[reducible] def Ty.D:Ty->Type
 |.int _=>Int|.bool=>Bool|.str=>ByteArray|.unit=>Unit|.pair a b=>a.D×b.D|.sl _ t=>List t.D
def Ty.az:(t:Ty)->t.D
 |.int _=>(0:Int)|.bool=>false|.str=>ByteArray.empty|.unit=>()|.pair a b=>(a.az,b.az)|.sl _ _=>[]
def Ty.n:Ty->Nat
 |.int _|.bool|.str|.sl _ _=>1|.unit=>0|.pair a b=>a.n+b.n
def aBp:IntKind->IntKind->Bool
 |.i8,.i8|.i16,.i16|.i32,.i32|.i64,.i64|.u8,.u8|.u16,.u16|.u32,.u32|.u64,.u64=>true|_,_=>false
def aef {a b:IntKind}(h:aBp a b=true):a=b:=by cases a<;>cases b<;>first|rfl|cases h
def Ty.beq:Ty->Ty->Bool
 |.int k,.int l=>aBp k l|.bool,.bool|.str,.str|.unit,.unit=>true|.pair a b,.pair c d=>a.beq c&&b.beq d|.sl e t,.sl f u=>Nat.beq e f&&t.beq u|_,_=>false
def Ty.beq_eq:∀{a b:Ty},a.beq b=true->a=b
 |.int k,.int l,h=>by rw[aef (show aBp k l=true from h)]
 |.bool,.bool,_|.str,.str,_|.unit,.unit,_=>rfl|.pair a b,.pair c d,h=>by have g:(a.beq c&&b.beq d)=true:=h;rw[Bool.and_eq_true]at g;rw[Ty.beq_eq g.1,Ty.beq_eq g.2]
 |.sl e t,.sl f u,h=>by have g:(Nat.beq e f&&t.beq u)=true:=h;rw[Bool.and_eq_true]at g;rw[Nat.eq_of_beq_eq_true g.1,Ty.beq_eq g.2]
def ayB:List Ty->Ty
 |[]=>.unit|[a]=>a|a::b::l=>.pair a (ayB (b::l))
def avN (P:Program):Nat->TypeId->Option Ty
 |0,_=>none
 |n+1,t =>
  match P.underlying t with
  |some (.int k)=>some (.int k)|some .bool=>some .bool|some .string=>some .str|some (.slice e)=>(avN P n e).map (.sl e)|some (.struct a)=>(a.toList.mapM fun f=>avN P n f.type).map ayB
  |some (.array m e)=>(avN P n e).map fun t=>ayB (List.replicate m t)
  |_=>none
inductive AC where
 |none
 |int (k:IntKind) (n:Int)
 |bool (b:Bool)
 |str (s:ByteArray)
 |nil
 |ro (f:Bool) (e:TypeId) (t:Ty) (xs:List t.D)
 |own (id:Nat) (len:Option Int)
 |ptr (b:Nat) (off:Nat)
 |ME (id:Nat) (i:Int) (off:Nat)
 |Vn (f:Bool) (t:Ty) (x:t.D) (off:Nat)
 |fnp (g:Nat) (b:Nat)
 |any
inductive CV where
 |c (x:AC)
 |agg (l:List AC)
inductive AV where
 |v (x:CV)
 |VI (l:List CV)
def CV.cells:CV->List AC
 |.c x=>[x]|.agg l=>l
structure fU where
 e:TypeId
 t:Ty
 xs:List t.D
 f:Bool
 w:Bool
structure St where
 nt:Nat
 tm:List (Nat×AV)
 bx:List (Nat×List AC)
 bl:List (Nat×Option fU)
 sp:AV:=.v (.c .none)
 rob:List Nat:=[]
def look {U:Type}:List (Nat×U)->Nat->Option U
 |[],_=>none|(k,v)::l,n=>match Nat.beq k n with|true=>some v|false=>look l n
def St.get (st:St)(t:Nat):AV:=match look st.tm t with|some v=>v|none=>.v (.c .none)
def St.put (st:St)(d:Nat)(v:AV):St:={st with tm:=(d,v)::st.tm}
def St.rL (st:St)(id:Nat):Option fU:=match look st.bl id with|some b=>b|none=>none
def ck {U:Type}(c:Bool)(k:Option U):Option U:=match c with|true=>k|false=>none
def br {U:Type}(c:Bool)(x y:U):U:=match c with|true=>x|false=>y
def VT:Value->AC
 |.int k n=>.int k n|.bool b=>.bool b|.string s=>.str s|.slice none 0 0=>.nil|_=>.none
def ML:Value->CV
 |.agg cs=>.agg (cs.toList.map VT)|v=>.c (VT v)
def St.ev (st:St):Operand->AV
 |.tmp t=>st.get t|.const v=>.v (ML v)|_=>.v (.c .none)
def St.ee (st:St)(o:Operand):CV:=match st.ev o with|.v x=>x|.VI _=>.c .none
def St.ac (st:St)(o:Operand):AC:=match st.ee o with|.c x=>x|.agg _=>.none
def CV.kn:CV->Bool
 |.c .none=>false|_=>true
def ex (f:Bool):(t:Ty)->t.D->List AC
 |.int k,x=>[.int k x]|.bool,x=>[.bool x]|.str,x=>[.str x]|.unit,_=>[]|.pair a b,x=>ex f a x.1++ex f b x.2|.sl e t,x=>[.ro f e t x]
def aaq {t u:Ty}(h:t=u)(x:List t.D):List u.D:=h▸x
def Kg {U:Type}(xs:List U):Option Int->List U
 |none=>xs|some n=>xs.take n.toNat
def cy (st:St)(t:Ty):AC->Option (List t.D)
 |.nil=>some []|.ro _ _ u xs=>if h:u.beq t=true then some (aaq (Ty.beq_eq h) xs) else none|.own id len=>match st.rL id with
  |some b=>if h:b.t.beq t=true then some (Kg (aaq (Ty.beq_eq h) b.xs) len) else none|none=>none
 |_=>none
def im (st:St):(t:Ty)->List AC->Option (t.D×List AC)
 |.int k,.int l n::r=>if aBp l k then some (n,r) else none|.bool,.bool b::r=>some (b,r)|.str,.str s::r=>some (s,r)|.unit,r=>some ((),r)|.pair a b,r=>match im st a r with
  |some (x,d)=>match im st b d with
   |some (y,e)=>some ((x,y),e)|none=>none
  |none=>none
 |.sl _ t,c::r=>match cy st t c with
  |some xs=>some (xs,r)|none=>none
 |_,_=>none
@[reducible] def Args:List (Ty×Bool)->Type
 |[]=>Unit|a::l=>a.1.D×Args l
structure Con where
 ps:List (Ty×Bool)
 rs:List (Ty×Bool)
 m:Nat
 g:Args ps->Option (Args rs)
inductive PM where
 |rd|own (f:Bool)|box|cur
structure PR where
 ps:List (Ty×Bool)
 i:Nat
 pm:PM
 rs:List (Ty×Bool)
 m:Nat
 qs:List (Ty×Bool)
 g:Args ps->Option (Args rs×Args qs)
structure Idx where
 g:Nat
 a:Ty×Bool
 q:Ty
 p:a.1.D->q.D->Bool
structure Sel where
 ps:List (Ty×Bool)
 i:Nat
 a:Ty×Bool
 b:Ty×Bool
 q:Ty×Bool
 g:Args ps->Option (a.1.D×b.1.D×q.1.D)
def an2:(t:Ty)->t.D->Bool
 |.bool,x=>x|.int _,x=>x==0|_,_=>false
def aLK:(t:Ty)->t.D->t.D
 |.bool,_=>true|.int _,_=>(0:Int)|_,x=>x
def aLL:(t:Ty)->t.D->t.D
 |.bool,_=>false|_,x=>x
inductive Any where
 |one (c:Con)|two (c:PR)|sel (c:Sel)|idx (i:Idx)
 |ins (e:TypeId) (u:Ty)
 |del (e:TypeId) (u:Ty)
def p4 {U:Type}(p:U->Bool):List U->Int->Int
 |[],_=>-1|x::l,i=>match p x with|true=>i|false=>p4 p l (i+1)
def flat:Ty->Bool
 |.int _|.bool|.str|.unit=>true|.pair a b=>flat a&&flat b|.sl _ _=>false
def exR (id:Nat)(f:Bool):(t:Ty)->t.D->Nat->List AC×List (Nat×Option fU)
 |.int k,x,_=>([.int k x],[])|.bool,x,_=>([.bool x],[])|.str,x,_=>([.str x],[])|.unit,_,_=>([],[])|.pair a b,x,c=>((exR id f a x.1 c).1++(exR id f b x.2 (c+a.n)).1,(exR id f a x.1 c).2++(exR id f b x.2 (c+a.n)).2)|.sl e t,x,c=>([.own (id*64+c) none],[(id*64+c,some ⟨e,t,x,f || flat t,true⟩)])
structure p5 where
 n:Nat
 mem:Int
 str:Int
@[reducible] def p5.Se (n:Nat):p5:=⟨n,140737488355328,9223372036854775807⟩
def aKt {U:Type}(d:BinOp)(c:IntKind)(a b:Int)(k:AC->Option U):Option U :=
 match d with
 |.add=>k (.int c (c.wrap (a+b)))|.sub=>k (.int c (c.wrap (a-b)))|.mul=>k (.int c (c.wrap (a*b)))|.quo=>ck (!(b==0)) (k (.int c (c.wrap (a.tdiv b))))|.rem=>ck (!(b==0)) (k (.int c (a.tmod b)))|.and=>k (.int c (c.wrap (BitVec.ofInt c.bits a &&& BitVec.ofInt c.bits b).toNat))|.or=>k (.int c (c.wrap (BitVec.ofInt c.bits a ||| BitVec.ofInt c.bits b).toNat))|.xor=>k (.int c (c.wrap (BitVec.ofInt c.bits a ^^^ BitVec.ofInt c.bits b).toNat))|.eql=>k (.bool (a==b))|.neq=>k (.bool (a != b))|.lss=>k (.bool (decide (a<b)))|.leq=>k (.bool (decide (a<=b)))|.gtr=>k (.bool (decide (a>b)))|.geq=>k (.bool (decide (a>=b)))|_=>none
def aDx {U:Type}(d:BinOp)(c:IntKind)(a b:Int)(k:AC->Option U):Option U :=
 match d with
 |.shl=>ck (decide (0<=b)) (k (.int c (c.wrap (a*2 ^ (min b.toNat c.bits)))))|.shr=>ck (decide (0<=b)) (k (.int c (a.fdiv (2 ^ (min b.toNat c.bits)))))|_=>none
def aKu {U:Type}(F:p5)(c:BinOp)(a b:ByteArray)(k:AC->Option U):Option U :=
 match c with
 |.add=>ck (decide (((a.size+b.size:Nat):Int)<=F.str)) (k (.str (a++b)))|.eql=>k (.bool (a.toList==b.toList))|.neq=>k (.bool (!(a.toList==b.toList)))|.lss=>k (.bool (Op.bytesLess a.toList b.toList))|.leq=>k (.bool (Op.bytesLess a.toList b.toList || a.toList==b.toList))|.gtr=>k (.bool (!(Op.bytesLess a.toList b.toList || a.toList==b.toList)))|.geq=>k (.bool (!(Op.bytesLess a.toList b.toList)))|_=>none
def aIW {U:Type}(P:Program)(F:p5)(c:BinOp)(e:TypeId)(x y:AC)(k:AC->Option U):Option U :=
 match x,y with
 |.int d a,.int f b=>match c with
  |.shl|.shr=>aDx c d a b k|_=>ck (aBp d f) (aKt c d a b k)
 |.str a,.str b=>aKu F c a b k|.bool a,.bool b=>match P.underlying e,c with
  |some .bool,.eql=>k (.bool (a==b))|some .bool,.neq=>k (.bool (!(a==b)))|_,_=>none
 |_,_=>none
def eqFields (P:Program):List Field->Nat->List AC->List AC->Option Bool
 |[],_,[],[]=>some true
 | f :: d, i, a :: r, b :: s => match Nat.beq f.offset i && !(f.name == "_") with
  |true=>match eqFields P d (i+1) r s with
   |some c=>match P.underlying f.type,a,b with
    |some (.int _),.int k x,.int l y=>match aBp k l with|true=>some ((x==y)&&c)|false=>none
    |some .string,.str x,.str y=>some ((x.toList==y.toList)&&c)|some .bool,.bool x,.bool y=>some ((x==y)&&c)|_,_,_=>none
   |none=>none
  |false=>none
 |_,_,_,_=>none
def an3 (P:Program)(t:TypeId)(l m:List AC):Option Bool :=
 match P.underlying t with
 |some (.struct a)=>match P.stoodInHeld t || P.eqGuardType P.depth t with
  |false=>eqFields P a.toList 0 l m|true=>none
 |_=>none
def an4 (st:St):AC->Option Int
 |.nil=>some 0|.ro _ _ _ xs=>some (xs.length:Int)|.own _ (some n)=>some n|.own id none=>match st.rL id with|some b=>some (b.xs.length:Int)|none=>none
 |.str s=>some (s.size:Int)|_=>none
def ayC (P:Program)(t:TypeId)(f:Nat):Option Nat :=
 match P.underlying t with
 |some (.struct a)=>match a[f]? with
  |some x=>match P.cellsOf x.type with
   |0=>none|_=>some x.offset
  |none=>none
 |_=>none
def avO (P:Program)(t:TypeId)(f:Nat):Option (TypeId×Nat) :=
 match P.underlying t with
 |some (.struct a)=>match a[f]? with
  |some x=>some (x.type,x.offset)|none=>none
 |_=>none
def acm (P:Program)(t:TypeId):Option Bool :=
 match P.underlying t with
 |some (.struct _)|some (.array _ _)=>some true|some _=>some false|none=>none
def Ff (P:Program)(t:TypeId):Option TypeId :=
 match P.underlying t with
 |some (.slice e)=>some e|_=>none
def Pc {U:Type}:List U->Nat->U->List U
 |[],_,_=>[]|_::l,0,v=>v::l|x::l,n+1,v=>x::Pc l n v
def nz {U:Type}:List U->Nat->Option U
 |[],_=>none|x::_,0=>some x|_::l,n+1=>nz l n
def yc {U:Type}:Nat->List U->List U
 |0,_=>[]|_+1,[]=>[]|n+1,x::l=>x::yc n l
def yd {U:Type}:Nat->List U->List U
 |0,l=>l|_+1,[]=>[]|n+1,_::l=>yd n l
def Im {U:Type}:List U->Nat->List U->List U
 |l,_,[]=>l|l,n,v::a=>Im (Pc l n v) (n+1) a
def BM (st:St):(t:Ty)->t.D->Nat×List AC->Option (t.D×(Nat×List AC))
 |.unit,x,s=>some (x,s)|.pair a b,x,s=>match BM st a x.1 s with
  |some (y,f)=>match BM st b x.2 f with
   |some (z,g)=>some ((y,z),g)|none=>none
  |none=>none
 |.int k,x,(0,c::r)=>match im st (.int k) [c]with|some (n,_)=>some (n,(0,r))|none=>none
 |.bool,x,(0,c::r)=>match im st .bool [c]with|some (n,_)=>some (n,(0,r))|none=>none
 |.str,x,(0,c::r)=>match im st .str [c]with|some (n,_)=>some (n,(0,r))|none=>none
 |.sl e t,x,(0,c::r)=>match im st (.sl e t) [c]with|some (n,_)=>some (n,(0,r))|none=>none
 |.int _,x,(0,[])=>some (x,(0,[]))|.bool,x,(0,[])=>some (x,(0,[]))|.str,x,(0,[])=>some (x,(0,[]))|.sl _ _,x,(0,[])=>some (x,(0,[]))|.int _,x,(d+1,l)=>some (x,(d,l))|.bool,x,(d+1,l)=>some (x,(d,l))|.str,x,(d+1,l)=>some (x,(d,l))|.sl _ _,x,(d+1,l)=>some (x,(d,l))
def St.dD (st:St):AC->St
 |.own id _=>match st.rL id with
  |some b=>{st with bl:=(id,some {b with w:=false})::st.bl}
  |none=>st
 |_=>st
def St.freeze (st:St)(l:List AC):St:=l.foldl St.dD st
def ajY:List AC->Bool
 |[]=>true|.none::_=>false|_::l=>ajY l
def aBr (id:Nat):List AC->Bool
 |[]=>true|.own i _::l=> !Nat.beq i id&&aBr id l|_::l=>aBr id l
def cj:List AC->Bool
 |[]=>true|.ro f _ _ _::l=>f&&cj l|_::l=>cj l
def pc (st:St):List AC->Bool
 |[]=>true|.own id _::l=>(match st.rL id with|some b=>b.f|none=>false)&&pc st l
 |_::l=>pc st l
def jP (s:ByteArray)(i:Int):Int:=((s.data.toList.getD i.toNat 0).toNat:Int)
def bytesOf (s:ByteArray):List Int:=s.data.toList.map fun b=>(b.toNat:Int)
def strOf (xs:List Int):ByteArray:=⟨(xs.map fun n=>UInt8.ofNat n.toNat).toArray⟩
def St.pk {U:Type}(st:St)(d:Option Tmp)(v:AV)(k:St->Option U):Option U :=
 match d with
 |none=>k st|some d=>ck (Nat.blt d st.nt) (k (st.put d v))
def St.lit (st:St)(o:Operand)(b:Bool):St :=
 match o with
 |.tmp t=>st.put t (.v (.c (.bool b)))|_=>st
section
variable (P:Program) (C:FuncId->Option Any) (F:p5) {U:Type}
def tu (t:TypeId):Option CV :=
 match P.info? t with
 |some i=>match i.zero with
  |some v=>some (ML v)|none=>none
 |none=>none
def St.row (st:St)(d:Tmp)(b:fU)(k:St->Option U):Option U :=
 match look st.bl (d*64) with
 |some _=>none|none=>ck (Nat.blt d st.nt) (k {(st.put d (.v (.c (.own (d*64) none)))) with bl:=(d*64,some b)::st.bl})
def ZJ:List Nat->Nat->Bool
 |[],_=>false|x::l,n=>match Nat.beq x n with|true=>true|false=>ZJ l n
def iE (st:St)(t:Ty):Nat->List (Nat×Operand)->Option (List t.D)
 |_,[]=>some []|i,(a,b)::l=>match Nat.beq i a with
  |true=>match im st t (st.ee b).cells with
   |some (x,[])=>match iE st t (i+1) l with
    |some xs=>some (x::xs)|none=>none
   |_=>none
  |false=>none
def cn (st:St):List (Nat×Operand)->List AC
 |[]=>[]|(_,a)::l=>(st.ee a).cells++cn st l
def an5 (t:TypeId):Option (List (Nat×Nat)) :=
 match P.underlying t with
 |some (.struct a)=>a.toList.mapM fun f=>(P.info? f.type).map fun i=>(f.offset,i.size)
 |_=>none
def Ci (st:St)(b:List (Nat×Nat)):List AC->List (Nat×Operand)->Option (List AC)
 |acc,[]=>some acc|acc,(f,a)::l=>match nz b f with
  |some (off,size)=>match (st.ee a).kn&&Nat.beq size (st.ee a).cells.length&&Nat.ble (off+(st.ee a).cells.length) acc.length with
   |true=>Ci st b (Im acc off (st.ee a).cells) l|false=>none
  |none=>none
def uv (st:St):AC->Option (List AC×Nat)
 |.ptr b off=>match look st.bx b with|some l=>some (l,off)|none=>none
 |.ME id i off=>match st.rL id with|some b=>some (ex b.f b.t (b.xs.getD i.toNat b.t.az),off)|none=>none
 |.Vn f t x off=>some (ex f t x,off)|_=>none
def wT (o:Option Operand)(st:St)(d:Int):Option Int :=
 match o with
 |none=>some d|some x=>match st.ac x with|.int _ n=>some n|_=>none
def kL (st:St):List Operand->List AC
 |[]=>[]|o::l=>(st.ee o).cells++kL st l
def imV (st:St)(a:Ty×Bool)(c:CV):Option a.1.D :=
 match c,a.2 with
 |.agg l,true=>match im st a.1 l with
  |some (x,[])=>some x|_=>none
 |.c c,false=>match im st a.1 [c]with
  |some (x,[])=>some x|_=>none
 |_,_=>none
def im1 (st:St)(a:Ty×Bool)(o:Operand):Option a.1.D:=imV st a (st.ee o)
def Pd (st:St):(ps:List (Ty×Bool))->List Operand->Option (Args ps)
 |[],[]=>some ()|a::l,b::os=>match im1 st a b with
  |some x=>match Pd st l os with
   |some y=>some (x,y)|none=>none
  |none=>none
 |_,_=>none
def Cj (st:St):(ps:List (Ty×Bool))->List CV->Option (Args ps)
 |[],[]=>some ()|a::l,b::os=>match imV st a b with
  |some x=>match Cj st l os with
   |some y=>some (x,y)|none=>none
  |none=>none
 |_,_=>none
def aU:List CV->List AC
 |[]=>[]|c::l=>c.cells++aU l
def ex1 (id:Nat)(f:Bool)(a:Ty×Bool)(x:a.1.D)(j:Nat):CV×List (Nat×Option fU) :=
 (match a.2 with|true=>.agg (exR id f a.1 x j).1|false=>.c (match (exR id f a.1 x j).1 with|[c]=>c|_=>.none),(exR id f a.1 x j).2)
def lU (id:Nat)(f:Bool):(rs:List (Ty×Bool))->Args rs->Nat->List CV×List (Nat×Option fU)
 |[],_,_=>([],[])|a::l,x,b=>((ex1 id f a x.1 b).1::(lU id f l x.2 (b+a.1.n)).1,(ex1 id f a x.1 b).2++(lU id f l x.2 (b+a.1.n)).2)
def gf:List (Nat×Option fU)->St->Bool
 |[],_=>true|(id,_)::l,st=>(match look st.bl id with|some _=>false|none=>true)&&gf l st
def eG:List (Ty×Bool)->Bool
 |[]=>true|a::l=>(a.2 || Nat.beq a.1.n 1)&&eG l
def Kh:List CV->AV
 |[v]=>.v v|l=>.VI l
def exF (f:Bool):(rs:List (Ty×Bool))->Args rs->List CV
 |[],_=>[]|a::l,x=>(match a.2 with|true=>.agg (ex f a.1 x.1)|false=>.c (match ex f a.1 x.1 with|[c]=>c|_=>.none))::exF f l x.2
def Y1 (con:Con)(st:St)(d:Option Tmp)(args:List Operand)(k:St->Option U):Option U :=
 match Pd st con.ps args with
 |some x=>(con.g x).bind fun r =>
  match d with
  |none=>none|some d=>match con.m with
   |0=>ck (Nat.blt d st.nt&&eG con.rs) (k ((st.freeze (kL st args)).put d (Kh (exF (pc st (kL st args)&&cj (kL st args)) con.rs r))))|1=>ck (Nat.blt d st.nt&&eG con.rs) (k (st.put d (Kh (exF true con.rs r))))
   |_ =>
    let q:=lU d true con.rs r 0
    ck (gf q.2 st&&Nat.blt d st.nt&&eG con.rs) (k {(st.put d (Kh q.1)) with bl:=q.2++st.bl})
 |_=>none
def gS (st:St)(m:Nat):List Nat->List AC->Bool
 |_,[]=>true|seen,.own id len::l=>match st.rL id with
  |some b=>(b.f || Nat.beq m 0 || Nat.beq m 3)&&(match m with|2|3=>b.w&& !ZJ seen id&&(match len with|none=>true|some _=>false)|_=>true)&&gS st m (id::seen) l
  |none=>false
 |seen,.ro f _ _ _::l=>(match m with|2|3=>false|1=>f|_=>true)&&gS st m seen l
 |seen,_::l=>gS st m seen l
def wU:List AC->Bool
 |[]=>true|.own _ _::_=>false|_::l=>wU l
def Gn (st:St):Ty->List AC->Option (List AC)
 |.sl e _,.own id _::r=>match st.rL id with
  |some b=>match Nat.beq b.e e with|true=>some r|false=>none
  |none=>none
 |.sl _ t,.nil::r=>match Nat.beq t.n 0 with|true=>none|false=>some r
 |.int _,_::r|.bool,_::r|.str,_::r=>some r|.unit,r=>some r|.pair a b,r=>match Gn st a r with|some r=>Gn st b r|none=>none
 |_,_=>none
def ye (st:St):List (Ty×Bool)->List CV->Bool
 |[],[]=>true|a::l,b::os=>(match Gn st a.1 b.cells with|some []=>true|_=>false)&&ye st l os
 |_,_=>false
def pmM:Bool->Nat
 |true=>2|false=>3
def im2 (st:St)(pm:PM)(a:Ty×Bool)(o:Operand):Option a.1.D:=match pm with
 |.rd=>im1 st a o|.own f=>match gS st (pmM f) [] (st.ee o).cells&&ye st [a] [st.ee o]with|true=>im1 st a o|false=>none
 |.box=>match st.ee o with
  |.c (.ptr b 0)=>match look st.bx b with|some l=>imV st a (.agg l)|none=>none
  |_=>none
 |.cur=>match st.ee o with
  |.c (.ptr b 0)=>match look st.bx b with|some l=>(match wU l with|true=>imV st a (.agg l)|false=>none)|none=>none
  |_=>none
def kc (st:St)(pm:PM):Nat->(ps:List (Ty×Bool))->List Operand->Option (Args ps)
 |0,a::l,b::os=>match im2 st pm a b with
  |some x=>match Pd st l os with|some y=>some (x,y)|none=>none
  |none=>none
 |i+1,a::l,b::os=>match im1 st a b with
  |some x=>match kc st pm i l os with|some y=>some (x,y)|none=>none
  |none=>none
 |_,_,_=>none
def gT (st:St)(pm:PM):Nat->List Operand->List AC
 |0,a::os=>(match pm with
  |.rd=>(st.ee a).cells|.own _|.cur=>[]|.box=>match st.ee a with|.c (.ptr b _)=>(match look st.bx b with|some l=>l|none=>[])|_=>[])++kL st os
 |i+1,a::os=>(st.ee a).cells++gT st pm i os|_,[]=>[]
def asv (st:St)(i:Nat)(args:List Operand):CV:=match nz args i with|some a=>st.ee a|none=>.c .none
def St.gone (st:St):List AC->St
 |[]=>st|.own id _::l=>{st.gone l with bl:=(id,none)::(st.gone l).bl}
 |_::l=>st.gone l
def tv (f:Bool):(t:Ty)->t.D->List AC->List (Nat×Option fU)×List AC
 |.pair a b,x,l=>((tv f a x.1 l).1++(tv f b x.2 (tv f a x.1 l).2).1,(tv f b x.2 (tv f a x.1 l).2).2)|.unit,_,l=>([],l)|.sl e t,x,.own id _::l=>([(id,some ⟨e,t,x,f,true⟩)],l)|_,_,_::l=>([],l)|_,_,[]=>([],[])
def m2 (m:Nat):Bool:=Nat.beq m 2
def rdM:Nat->Option Bool
 |4=>some true|5=>some false|_=>none
def avP (f:Bool)(rs:List (Ty×Bool))(st:St)(d:Tmp)(r:Args rs)(k:St->Option U):Option U :=
 match rs,r with
 |[a],r=>match look st.bx d with
  |none=>ck (Nat.blt d st.nt&&a.2) (k {(st.put d (.v (.c (.ptr d 0)))) with bx:=(d,ex f a.1 r.1)::st.bx})
  |some _=>none
 |_,_=>none
def aeg (rs a:List (Ty×Bool))(m:Nat)(st:St)(c:CV)(d:Tmp)(r:Args rs×Args a)(k:St->Option U):Option U :=
 let q:=lU d (m2 m) rs r.1 0
 ck ((Nat.beq m 2 || Nat.beq m 3)&&gf q.2 st&&Nat.blt d st.nt&&eG rs) (match a,r with
  |[],_=>k {(st.put d (Kh q.1)) with bl:=q.2++(st.gone c.cells).bl}
  |[p],r=>k {(st.put d (Kh q.1)) with bl:=q.2++((tv (m2 m) p.1 r.2.1 c.cells).1++st.bl)}
  |_,_=>none)
def anq (rs a:List (Ty×Bool))(m:Nat)(st:St)(c:CV)(d:Tmp)(r:Args rs×Args a)(k:St->Option U):Option U :=
 match a,r,c with
 |[p],r,.c (.ptr b _)=>match m with
  |0=>ck (Nat.blt d st.nt&&eG rs) (k {(st.put d (Kh (exF false rs r.1))) with bx:=(b,ex false p.1 r.2.1)::st.bx})
  |1=>ck (Nat.blt d st.nt&&eG rs) (k {(st.put d (Kh (exF true rs r.1))) with bx:=(b,ex false p.1 r.2.1)::st.bx})
  |m =>
   let q:=lU d (m2 m) rs r.1 0
   ck ((Nat.beq m 2 || Nat.beq m 3)&&gf q.2 st&&Nat.blt d st.nt&&eG rs) (k {(st.put d (Kh q.1)) with bl:=q.2++st.bl,bx:=(b,ex false p.1 r.2.1)::st.bx})
 |_,_,_=>none
def anr (rs e:List (Ty×Bool))(m:Nat)(st:St)(c:CV)(d:Tmp)(r:Args rs×Args e)(k:St->Option U):Option U :=
 match e,r,c with
 |[p],r,.c (.ptr b _)=>match look st.bx b with
  |some a=>match m with
   |0=>ck (Nat.blt d st.nt&&eG rs) (k {(st.put d (Kh (exF false rs r.1))) with bx:=(b,ex (cj a) p.1 r.2.1)::st.bx})
   |1=>ck (Nat.blt d st.nt&&eG rs) (k {(st.put d (Kh (exF (cj a) rs r.1))) with bx:=(b,ex (cj a) p.1 r.2.1)::st.bx})
   |m =>
    let q:=lU d (cj a) rs r.1 0
    ck (Nat.beq m 2&&gf q.2 st&&Nat.blt d st.nt&&eG rs) (k {(st.put d (Kh q.1)) with bl:=q.2++st.bl,bx:=(b,ex (cj a) p.1 r.2.1)::st.bx})
  |none=>none
 |_,_,_=>none
def aIX (st:St)(con:PR)(args:List Operand):List AC:=match con.pm with
 |.cur=>(match con.m with|1|2=>[]|_=>gT st .cur con.i args)
 |pm=>gT st pm con.i args
def aeh (con:PR)(st:St)(d:Option Tmp)(args:List Operand)(k:St->Option U):Option U :=
 let a:=st.freeze (aIX st con args)
 match kc a con.pm con.i con.ps args with
 |some x=>(con.g x).bind fun r =>
  match d with
  |none=>none|some d=>match con.pm with
   |.rd=>match rdM con.m with
    |some f=>avP f con.rs a d r.1 k|none=>none
   |.own _=>aeg con.rs con.qs con.m a (asv a con.i args) d r k|.box=>anq con.rs con.qs con.m a (asv a con.i args) d r k|.cur=>anr con.rs con.qs con.m a (asv a con.i args) d r k
 |none=>none
def aGF (a:Ty×Bool):CV:=match a.2 with|true=>.agg (List.replicate a.1.n .any)|false=>.c .none
def aKv (a:Ty×Bool)(c:CV):Bool:=match a.2,c with
 |true,.agg l=>Nat.beq l.length a.1.n&&ajY l|true,.c _=>false|false,_=>true
def aGG (a b q:Ty×Bool)(st:St)(c:CV)(d:Tmp)(n:b.1.D)(y:q.1.D)(k:St->Option U):Option U :=
 ck (Nat.blt d st.nt&&eG [b]&&gf (lU d true [b] (n,()) 0).2 st) (k {(st.put d (.VI (aGF a::(lU d true [b] (n,()) 0).1))) with bl:=(lU d true [b] (n,()) 0).2++((tv true q.1 y c.cells).1++st.bl)})
def avQ (con:Sel)(st:St)(d:Option Tmp)(args:List Operand)(k:St->Option U):Option U :=
 let a:=st.freeze (gT st (.own true) con.i args)
 match kc a (.own true) con.i con.ps args with
 |some x=>(con.g x).bind fun r =>
  match d with
  |none=>none|some d=>br (an2 con.b.1 r.2.1) (aeg [con.a,con.b] [] 2 a (asv a con.i args) d ((r.1,(aLK con.b.1 r.2.1,())),()) k) (aGG con.a con.b con.q a (asv a con.i args) d (aLL con.b.1 r.2.1) r.2.2 k)
 |none=>none
def avR (i:Idx)(st:St)(d:Option Tmp)(args:List Operand)(k:St->Option U):Option U :=
 match args with
 |[s,f]=>match st.ac f with
  |.fnp g b=>match Nat.beq g i.g with
   |true=>match look st.bx b with
    |some l=>match im st i.q l with
     |some (y,[])=>match cy st i.a.1 (st.ac s) with
      |some xs=>st.pk d (.v (.c (.int .i64 (p4 (fun x=>i.p x y) xs 0)))) k
      |none=>none
     |_=>none
    |none=>none
   |false=>none
  |_=>none
 |_=>none
def acn (c:Bool)(st:St):Int->List Operand->Option Int
 |a,[]=>some a|a,d::l=>match st.ac d with
  |.int _ b=>acn c st (match c with|true=>if b>a then b else a|false=>if b<a then b else a) l
  |_=>none
def VU (st:St)(e:TypeId)(u:Ty):AC->Option (List u.D×Bool×St)
 |.nil=>some ([],true,st)|.own id none=>match st.rL id with
  |some b=>match b.w&&Nat.beq b.e e with
   |true=>if h:b.t.beq u=true then some (aaq (Ty.beq_eq h) b.xs,b.f,{st with bl:=(id,none)::st.bl}) else none
   |false=>none
  |none=>none
 |_=>none
def Y2 (st:St)(u:Ty):AC->Option (List u.D×Bool)
 |.own id len=>match cy st u (.own id len),st.rL id with
  |some a,some b=>some (a,b.f)|_,_=>none
 |.ro f c d a=>match cy st u (.ro f c d a) with
  |some a=>some (a,f)|none=>none
 |.nil=>some ([],true)|_=>none
def aBt (e:TypeId)(u:Ty)(st:St)(d:Option Tmp)(args:List Operand)(k:St->Option U):Option U :=
 match d,args with
 |some d,[s,i,v]=>match st.ac i,st.ac v with
  |.int .i64 n,.own a none=>match st.rL a with
   |some b=>match b.w&&Nat.beq b.e e with
    |true=>if h:b.t.beq u=true then
      match VU st e u (st.ac s) with
      |some (xs,f,c)=>match look c.bl a with
       |some (some _)=>ck (!Nat.beq u.n 0&&decide (0<=n)&&decide (n<=(xs.length:Int))&&decide (1<=(b.xs.length:Int))&&decide (((xs.length+b.xs.length:Nat):Int)<=1073741824))
         (c.row d ⟨e,u,xs.take n.toNat++aaq (Ty.beq_eq h) b.xs++xs.drop n.toNat,f&&(b.f || flat u),true⟩ k)
       |_=>none
      |none=>none
     else none
    |false=>none
   |none=>none
  |_,_=>none
 |_,_=>none
def aBu (e:TypeId)(u:Ty)(st:St)(d:Option Tmp)(args:List Operand)(k:St->Option U):Option U :=
 match d,args with
 |some d,[s,i,a]=>match st.ac i,st.ac a with
  |.int .i64 n,.int .i64 m=>match VU st e u (st.ac s) with
   |some (xs,f,b)=>ck (!Nat.beq u.n 0&&decide (0<=n)&&decide (n<=m)&&decide (m<=(xs.length:Int)))
     (b.row d ⟨e,u,xs.take n.toNat++xs.drop m.toNat,f,true⟩ k)
   |none=>none
  |_,_=>none
 |_,_=>none
def aDz:CV->Bool
 |.c (.int .u8 0)=>true|_=>false
def PS (st:St)(d:Tmp)(s x:AC)(t c e:TypeId)(u:Ty)(z:CV)(k:St->Option U):Option U :=
 match VU st e u s with
 |some (xs,f,a)=>match x with
  |.str w=>if h:u.beq (.int .u8)=true then
    match P.underlying c with
    |some .string=>ck (Nat.beq (P.cellsOf e) 1&&Nat.beq (P.bytesOf e) 1&&aDz z&&decide (((xs.length+w.size:Nat):Int)<=F.mem))
      (a.row d ⟨e,.int .u8,aaq (Ty.beq_eq h) xs++bytesOf w,f,true⟩ k)
    |_=>none
   else none
  |x=>match Y2 st u x with
   |some (b,g) =>
    ck (Nat.beq t c&&Nat.beq (P.cellsOf e) u.n&&Nat.beq z.cells.length u.n&&z.kn&& !Nat.beq u.n 0&& !Nat.beq (P.bytesOf e) 0&&decide (((xs.length+b.length:Nat):Int)*(P.bytesOf e:Int)<=F.mem))
     (a.row d ⟨e,u,xs++b,f&&(g || flat u),true⟩ k)
   |none=>none
 |none=>none
def jj (o:Oper)(st:St)(k:St->Option U):Option U :=
 match o.op with
 |.move x|.assign x=>st.pk o.dst (st.ev x) k|.pick c a b=>match st.ac c with
  |.bool v=>br v ((st.lit c true).pk o.dst (st.ev a) k) ((st.lit c false).pk o.dst (st.ev b) k)|_=>none
 |.box t x=>match o.dst with
  |some d=>match ZJ st.rob d with
   |true=>match avN P 20 t with
    |some u=>match im st u (st.ee x).cells with
     |some (y,[])=>ck (Nat.blt d st.nt&&(st.ee x).kn&&pc st (st.ee x).cells) (k ((st.freeze (st.ee x).cells).put d (.v (.c (.Vn (cj (st.ee x).cells) u y 0)))))|_=>none
    |none=>none
   |false=>match look st.bx d with
    |none=>ck (Nat.blt d st.nt&&(st.ee x).kn) (k {(st.put d (.v (.c (.ptr d 0)))) with bx:=(d,(st.ee x).cells)::st.bx})
    |some _=>none
  |none=>none
 |.alloc t=>match o.dst with
  |some d=>match look st.bx d with
   |none=>match tu P t with
    |some z=>ck (Nat.blt d st.nt&&z.kn) (k {(st.put d (.v (.c (.ptr d 0)))) with bx:=(d,z.cells)::st.bx})
    |none=>none
   |some _=>none
  |none=>none
 |.build t parts=>match tu P t,an5 P t with
  |some z,some I=>match z.kn,Ci st I z.cells parts.toList with
   |true,some l=>st.pk o.dst (.v (.agg l)) k|_,_=>none
  |_,_=>none
 |.buildSlice t len parts=>match o.dst,Ff P t with
  |some d,some e=>match avN P 20 e with
   |some u=>match iE st u 0 parts.toList with
    |some xs=>match Nat.beq parts.toList.length len&&pc st (cn st parts.toList)&&(Nat.beq (P.cellsOf e) u.n&& !Nat.beq u.n 0&&Nat.ble (len*u.n) 16777216&&(tu P e).isSome) with
     |true=>(st.freeze (cn st parts.toList)).row d ⟨e,u,xs,cj (cn st parts.toList),true⟩ k|false=>none
    |none=>none
   |none=>none
  |_,_=>none
 |.load t a=>match uv st (st.ac a) with
  |some (l,off) =>
   let q:=yc (P.cellsOf t) (yd off l)
   match Nat.beq q.length (P.cellsOf t) with
   |true=>match acm P t with
    |some true=>st.pk o.dst (.v (.agg q)) k|some false=>match q with
     |[x]=>st.pk o.dst (.v (.c x)) k|_=>none
    |none=>none
   |false=>none
  |none=>none
 |.store t a x=>match (st.ee x).kn&&ajY (st.ee x).cells&&Nat.beq (P.cellsOf t) (st.ee x).cells.length&&(P.info? t).isSome with
  |true=>match st.ac a with
   |.ptr b off=>match look st.bx b with
    |some l=>match Nat.ble (off+(st.ee x).cells.length) l.length with
     |true=>({st with bx:=(b,Im l off (st.ee x).cells)::st.bx}).pk o.dst (.VI []) k
     |false=>none
    |none=>none
   |.ME id i off=>match st.rL id with
    |some b=>match b.w&&pc st (st.ee x).cells&&aBr id (st.ee x).cells with
     |true=>match BM st b.t (b.xs.getD i.toNat b.t.az) (off,(st.ee x).cells) with
      |some (y,(0,[])) =>
       let E:=st.freeze (st.ee x).cells
       ({E with bl:=(id,some {b with xs:=b.xs.set i.toNat y,f:=b.f&&cj (st.ee x).cells})::E.bl}).pk o.dst (.VI []) k
      |_=>none
     |false=>none
    |none=>none
   |_=>none
  |false=>none
 |.nilCheck x=>match st.ac x with
  |.ptr b off=>st.pk o.dst (.v (.c (.ptr b off))) k|_=>none
 |.binOp op G x y _=>match st.ee x,st.ee y with
  |.c a,.c b=>aIW P F op G a b fun r=>st.pk o.dst (.v (.c r)) k
  |.agg l,.agg m=>match op,an3 P G l m with
   |.eql,some c=>st.pk o.dst (.v (.c (.bool c))) k|.neq,some c=>st.pk o.dst (.v (.c (.bool (!c)))) k|_,_=>none
  |_,_=>none
 |.unOp op _ x=>match op,st.ac x with
  |.not,.bool b=>st.pk o.dst (.v (.c (.bool (!b)))) k|.neg,.int j n=>st.pk o.dst (.v (.c (.int j (j.wrap (0-n))))) k|_,_=>none
 |.convert src dst x=>match P.underlying src,P.underlying dst,st.ac x with
  |some (.int _),some (.int j),.int _ n=>st.pk o.dst (.v (.c (.int j (j.wrap n)))) k|some .string,some .string,.str s=>st.pk o.dst (.v (.c (.str s))) k|some .string,some (.slice e),.str s=>match P.underlying e with
   |some (.int .u8)=>ck (decide ((s.size:Int)<=F.mem)) (st.pk o.dst (.v (.c (.ro true e (.int .u8) (bytesOf s)))) k)|_=>none
  |some (.slice e),some .string,c=>match P.underlying e,cy st (.int .u8) c with
   |some (.int .u8),some xs=>st.pk o.dst (.v (.c (.str (strOf xs)))) k|_,_=>none
  |_,_,_=>none
 |.makeSlice t a b=>match o.dst,Ff P t,st.ac a,st.ac b with
  |some d,some e,.int .i64 n,.int .i64 m=>match avN P 20 e,tu P e with
   |some u,some z=>match im st u z.cells with
    |some (x,[])=>ck (z.kn&&(Nat.beq (P.cellsOf e) u.n&& !Nat.beq u.n 0&& !Nat.beq (P.bytesOf e) 0)&&decide (0<=n)&&n==m&&decide (n*(P.bytesOf e:Int)<=F.mem))
      (st.row d ⟨e,u,List.replicate n.toNat x,true,true⟩ k)
    |_=>none
   |_,_=>none
  |_,_,_,_=>none
 |.slice t x p B none=>match P.underlying t with
  |some .string=>match st.ac x with
   |.str s=>match wT p st 0,wT B st (s.size:Int) with
    |some l,some h=>ck (decide (0<=l)&&decide (l<=h)&&decide (h<=(s.size:Int))) (st.pk o.dst (.v (.c (.str (s.extract l.toNat h.toNat)))) k)|_,_=>none
   |_=>none
  |some (.slice D)=>match st.ac x with
   |.ro f e u xs=>match wT p st 0,wT B st (xs.length:Int) with
    |some l,some h=>ck (Nat.beq (P.cellsOf D) u.n&& !Nat.beq u.n 0&&(decide (0<=l)&&decide (l<=h)&&decide (h<=(xs.length:Int)))) (st.pk o.dst (.v (.c (.ro f e u ((xs.take h.toNat).drop l.toNat)))) k)|_,_=>none
   |.own id none=>match st.rL id,p with
    |some b,none=>match wT B st (b.xs.length:Int) with
     |some h=>ck (Nat.beq (P.cellsOf D) b.t.n&&(decide (0<=h)&&decide (h<=(b.xs.length:Int)))) (st.pk o.dst (.v (.c (.own id (some h)))) k)|none=>none
    |some b,some p=>match wT (some p) st 0,wT B st (b.xs.length:Int) with
     |some l,some h=>ck (Nat.beq (P.cellsOf D) b.t.n&&(decide (0<=l)&&decide (l<=h)&&decide (h<=(b.xs.length:Int))))
       (({st with bl:=(id,some {b with w:=false})::st.bl}).pk o.dst (.v (.c (.ro b.f b.e b.t ((b.xs.take h.toNat).drop l.toNat)))) k)
     |_,_=>none
    |none,_=>none
   |_=>none
  |_=>none
 |.fieldAddr t x f=>match ayC P t f with
  |some q=>match st.ac x with
   |.ptr b off=>st.pk o.dst (.v (.c (.ptr b (off+q)))) k|.ME id i off=>match st.rL id with
    |some _=>st.pk o.dst (.v (.c (.ME id i (off+q)))) k|none=>none
   |.Vn K u y off=>st.pk o.dst (.v (.c (.Vn K u y (off+q)))) k|_=>none
  |none=>none
 |.indexAddr t x i=>match st.ac i with
  |.int _ n=>match P.underlying t with
   |some (.slice e)=>match st.ac x with
    |.own id len=>match st.rL id with
     |some b=>match an4 st (.own id len) with
      |some m=>ck (Nat.beq (P.cellsOf e) b.t.n&&(decide (0<=n)&&decide (n<m))) (st.pk o.dst (.v (.c (.ME id n 0))) k)|none=>none
     |none=>none
    |.ro f _ u xs=>ck (Nat.beq (P.cellsOf e) u.n&& !Nat.beq u.n 0&&(decide (0<=n)&&decide (n<(xs.length:Int)))) (st.pk o.dst (.v (.c (.Vn f u (xs.getD n.toNat u.az) 0))) k)|_=>none
   |some (.array m e)=>match st.ac x with
    |.ptr b off=>ck (!Nat.beq (P.cellsOf e) 0&&(decide (0<=n)&&decide (n<(m:Int)))) (st.pk o.dst (.v (.c (.ptr b (off+n.toNat*P.cellsOf e)))) k)|_=>none
   |_=>none
  |_=>none
 |.index t x i=>match P.underlying t,st.ac x,st.ac i with
  |some .string,.str s,.int _ n=>ck (decide (0<=n)&&decide (n<(s.size:Int))) (st.pk o.dst (.v (.c (.int .u8 (jP s n)))) k)|_,_,_=>none
 |.field t x f=>match avO P t f,st.ee x with
  |some (t,off),.agg l =>
   let q:=yc (P.cellsOf t) (yd off l)
   match Nat.beq q.length (P.cellsOf t) with
   |true=>match acm P t with
    |some true=>st.pk o.dst (.v (.agg q)) k|some false=>match q with
     |[x]=>st.pk o.dst (.v (.c x)) k|_=>none
    |none=>none
   |false=>none
  |_,_=>none
 |.extract x i=>match st.ev x with
  |.VI l=>match nz l i with
   |some v=>st.pk o.dst (.v v) k|none=>none
  |_=>none
 |.call {callee:=.value (.func f),args,..}=>match C f with
  |some (.one A)=>Y1 A st o.dst args.toList k|some (.two A)=>aeh A st o.dst args.toList k|some (.sel A)=>avQ A st o.dst args.toList k|some (.idx i)=>avR i st o.dst args.toList k|some (.ins e u)=>aBt e u st o.dst args.toList k|some (.del e u)=>aBu e u st o.dst args.toList k|none=>none
 |.call {callee:=.builtin .len,args,argTypes}=>match args.toList,argTypes.toList with
  |[x],[t]=>match P.underlying t,an4 st (st.ac x) with
   |some .string,some n=>match st.ac x with|.str _=>st.pk o.dst (.v (.c (.int .i64 n))) k|_=>none
   |some (.slice _),some n=>match st.ac x with|.str _=>none|_=>st.pk o.dst (.v (.c (.int .i64 n))) k
   |_,_=>none
  |_,_=>none
 |.call {callee:=.builtin .max,args,..}=>match args.toList with
  |x::l=>match st.ac x with
   |.int j a=>match acn true st a l with
    |some r=>st.pk o.dst (.v (.c (.int j r))) k|none=>none
   |_=>none
  |_=>none
 |.call {callee:=.builtin .min,args,..}=>match args.toList with
  |x::l=>match st.ac x with
   |.int j a=>match acn false st a l with
    |some r=>st.pk o.dst (.v (.c (.int j r))) k|none=>none
   |_=>none
  |_=>none
 |.call {callee:=.builtin .append,args,argTypes}=>match o.dst,args.toList,argTypes.toList with
  |some d,[s,x],[t,t2]=>match Ff P t with
   |some e=>match avN P 20 e,tu P e with
    |some u,some z=>PS P F st d (st.ac s) (st.ac x) t t2 e u z k|_,_=>none
   |none=>none
  |_,_,_=>none
 |.makeFunc (.func g) first L=>match first.toList,L.toList with
  |[],[x]=>match st.ac x with
   |.ptr b 0=>st.pk o.dst (.v (.c (.fnp g b))) k|_=>none
  |_,_=>none
 |_=>none
def yf (all:List Oper):List Oper->St->(St->Option U)->Option U
 |[],st,k=>k st|o::l,st,k=>match o.guard with
  |none=>jj P C F o st fun st=>yf all l st k
  |some (c,VV)=>match nz all c with
   |some d=>match d.dst with
    |some a=>match st.get a with
     |.v (.c (.bool b)) =>
      let yes (st:St):Option U:=jj P C F o st fun st=>yf all l st k
      let no (st:St):Option U:=st.pk o.dst (.VI []) fun st=>yf all l st k
      br b (let st:=st.put a (.v (.c (.bool true)));match VV with|true=>yes st|false=>no st)
         (let st:=st.put a (.v (.c (.bool false)));match VV with|true=>no st|false=>yes st)
     |.VI []=>st.pk o.dst (.VI []) fun st=>yf all l st k
     |_=>none
    |none=>none
   |none=>none
def aei (all:List Oper)(o:Oper)(st:St)(k:St->Option U):Option U :=
 match o.guard with
 |none=>jj P C F o st k|some (c,VV)=>match nz all c with
  |some d=>match d.dst with
   |some a=>match st.get a with
    |.v (.c (.bool b)) =>
     br b (let st:=st.put a (.v (.c (.bool true)));match VV with|true=>jj P C F o st k|false=>st.pk o.dst (.VI []) k)
        (let st:=st.put a (.v (.c (.bool false)));match VV with|true=>st.pk o.dst (.VI []) k|false=>jj P C F o st k)
    |.VI []=>st.pk o.dst (.VI []) k|_=>none
   |none=>none
  |none=>none
def pd (o:Oper):Bool:=match o.op with
 |.move _|.assign _|.pick _ _ _|.load _ _|.nilCheck _|.binOp _ _ _ _ _|.unOp _ _ _|.fieldAddr _ _ _|.indexAddr _ _ _|.index _ _ _|.field _ _ _|.extract _ _|.build _ _|.slice _ _ _ _ _=>true|.convert _ dst _=>match P.underlying dst with|some (.slice _)=>false|_=>true
 |.call {callee:=.builtin .len,..}|.call {callee:=.builtin .min,..}|.call {callee:=.builtin .max,..}=>true|_=>false
def aBv (o:Oper):Bool:=match o.op with
 |.call {callee:=.value (.func f),..}=>match C f with|some (.one _)=>true|_=>false
 |_=>false
def cF (o:Oper):Bool:=match o.guard,o.dst,o.op with
 |none,some _,.alloc t=>match tu P t with|some z=>z.kn|none=>false
 |none,some _,.buildSlice t len parts=>match Ff P t with
  |some e=>match avN P 20 e with
   |some u=>(flat u || Nat.beq len 0)&&Nat.beq parts.toList.length len&&(Nat.beq (P.cellsOf e) u.n&& !Nat.beq u.n 0&&Nat.ble (len*u.n) 16777216&&(tu P e).isSome)|none=>false
  |none=>false
 |_,_,_=>false
def avS (o:Oper):Bool:=match o.op with
 |.alloc _|.box _ _|.buildSlice _ _ _=>true|_=>false
def at0:Option Tmp->Option Tmp->Bool
 |some a,some b=>Nat.beq a b|_,_=>false
def Io (o:Oper):Bool:=cF P o&&match o.op with|.buildSlice _ 0 _=>true|_=>false
def aco (o:Oper):Option Tmp:=match o.op with
 |.call {callee:=.builtin .append,args,argTypes}=>match args.toList,argTypes.toList with
  |[.tmp t,_],[a,b]=>match Nat.beq a b with|true=>some t|false=>none
  |_,_=>none
 |_=>none
def PT (ops:Array Oper)(o:Oper):Bool:=match aco o with
 |some t=>(List.range ops.size).any fun x=>match ops[x]? with
  |some a=>Io P a&&at0 a.dst (some t)&&o.after.any fun e=>Region.binds .any e&&Nat.beq e.on x
  |none=>false
 |none=>false
def p6 (ops:Array Oper)(o:Oper):Bool:=pd P o || cF P o || aBv C o || avS o || PT P ops o
def aMt (o:Oper):Bool:=match o.op with
 |.load _ _|.convert _ _ _=>true|_=>false
def Ki (st:St)(o:Oper):Bool:=match o.op with
 |.load _ a=>match st.ac a with|.Vn _ _ _ _=>true|_=>false
 |.convert _ _ _=>false|_=>true
def aDA (ops:List Oper)(st:St)(o:Oper):Bool:=match o.guard with
 |none=>false|some (a,VV)=>match nz ops a with
  |some b=>match b.dst with
   |some c=>match st.get c,VV with
    |.v (.c (.bool true)),false=>true|.v (.c (.bool false)),true=>true|.VI [],_=>true|_,_=>false
   |none=>false
  |none=>false
def St.drop (st:St)(t:Tmp):St:={st with tm:=st.tm.filter fun p=> !Nat.beq p.1 t}
def tw (ops:Array Oper)(a:Array Bool):List Nat->St->St
 |[],st=>st|i::l,st=>match ops[i]? with
  |some b=>match cF P b&& !a.getD i true,b.dst with
   |true,some d=>(tw ops a l st).drop d|_,_=>tw ops a l st
  |none=>tw ops a l st
def aej (o:Oper)(t:Tmp):Bool:=match o.op with
 |.buildSlice _ _ parts=>parts.toList.any fun p=>match p.2 with|.tmp s=>Nat.beq s t|_=>false
 |_=>false
def MM (st:St)(o:Oper):Bool:=match o.op with
 |.buildSlice t _ parts=>match Ff P t with
  |some e=>match avN P 20 e with
   |some u=>(iE st u 0 parts.toList).isSome|none=>false
  |none=>false
 |_=>true
def waits (ops:Array Oper)(b:Array Bool)(o:Oper):Bool:=o.after.any fun e=>Region.binds .any e&&match ops[e.on]? with|some a=> !cF P a&& !b.getD e.on true|none=>false
def ayD (ops:Array Oper)(b:Array Bool)(st:St):List Nat->Bool
 |[]=>true|y::l=>(match ops[y]? with|some a=> !cF P a || b.getD y true || waits P ops b a || MM P st a|none=>true)&&ayD ops b st l
def an6 (ops:Array Oper):Bool:=(List.range ops.size).all fun x=>match ops[x]? with
 |some a=> !cF P a || (List.range ops.size).all fun y=>match ops[y]? with
  |some b=>match b.dst with
   |some t=> !aej a t || (!cF P b&&a.after.any fun e=>Region.binds .any e&&Nat.beq e.on y)
   |none=>true
  |none=>true
 |none=>true
def rM (ops:Array Oper)(b:Nat):Bool:=an6 P ops&&(List.range ops.size).all fun x=>match ops[x]? with
 |some a=> !cF P a || ((match a.dst with|some d=>Nat.blt d b|none=>false)&&(List.range ops.size).all fun y=>Nat.beq y x || match ops[y]? with|some c=> !at0 c.dst a.dst|none=>true)
 |none=>true
def oq (ops:Array Oper)(a:Array Bool)(i:Nat):Nat->Oper->Bool
 |0,_=>false|n+1,b=>b.after.any fun e=>Region.binds .any e&&(e.on==i || (!a.getD e.on true&&match ops[e.on]? with|some c=>oq ops a i n c|none=>false))
def ahn (o:Oper):Option Tmp:=match o.op with
 |.call {callee:=.value (.func f),args,..}=>match C f with
  |some (.two a)=>match a.pm with
   |.box|.cur=>match nz args.toList a.i with|some (.tmp t)=>some t|_=>none
   |_=>none
  |_=>none
 |_=>none
def aBw (ops:Array Oper)(c:Array Bool)(t:Tmp):Bool:=(List.range ops.size).all fun a=>match ops[a]? with
 |some b=>c.getD a true || !at0 b.dst (some t)|none=>true
def avT (ops:Array Oper)(d:Array Bool)(st:St)(i:Nat)(o:Oper):Bool:=match o.op with
 |.load _ x=>match st.ac x with
  |.ptr b _=>(List.range ops.size).all fun c=>match ops[c]? with
   |some a=>p6 P C ops a || d.getD c true || oq ops d i 3 a || (match ahn C a with
    |some t=>(match st.get t with|.v (.c (.ptr e 0))=> !Nat.beq e b|_=>false)&&aBw ops d t
    |none=>false)
   |none=>true
  |_=>false
 |_=>false
def aek (ops:Array Oper)(b:Array Bool)(i:Nat):Bool :=
 (List.range ops.size).all fun c=>match ops[c]? with
  |some a=>p6 P C ops a || b.getD c true || oq ops b i 3 a|none=>true
def VW (ops:Array Oper)(b:Array Bool)(st:St):List Nat->Option (Nat×Oper)
 |[]=>none|i::l=>match ops[i]? with
  |some a=>match pd P a&&Region.free .any ops b i&&(Ki st a || aek P C ops b i || aDA ops.toList st a || avT P C ops b st i a) with
   |true=>some (i,a)|false=>VW ops b st l
  |none=>none
def yg (ops:Array Oper)(x:Nat):List Nat->Array Bool->Array Bool
 |[],l=>l|i::is,l=>match ops[i]? with
  |some a=>match cF P a&& !Nat.beq i x with
   |true=>yg ops x is (l.setIfInBounds i true)|false=>yg ops x is l
  |none=>yg ops x is l
def aGH (x:Nat):List Nat->Bool
 |[]=>true|j::l=>Nat.beq j x&&aGH x l
def VX (ops:Array Oper)(a:Array Bool)(st:St):List Nat->Option (Nat×Oper)
 |[]=>none|i::l=>match ops[i]? with
  |some b=>match aGH i (Region.ready .any ops (yg P ops i (List.range ops.size) a))&&ayD P ops a st (List.range ops.size) with
   |true=>some (i,b)|false=>VX ops a st l
  |none=>none
def JT (ops:Array Oper)(a:Array Bool):List Nat->Bool
 |[]=>true|i::l=>(match ops[i]? with|some b=> !cF P b || a.getD i true|none=>true)&&JT ops a l
def Ip (ops:Array Oper):Nat->Array Bool->St->(St->Option U)->Option U
 |0,Pe,st,k=>match Region.ready .any ops Pe with
  |[]=>ck (JT P ops Pe (List.range ops.size)) (k st)|_=>none
 |n+1,Pe,st,k=>match Region.ready .any ops Pe with
  |[]=>ck (JT P ops Pe (List.range ops.size)) (k st)|i::r=>let st:=tw P ops Pe (List.range ops.size) st
   match VW P C ops Pe st (i::r) with
   |some (a,b)=>aei P C F ops.toList b st fun st=>Ip ops n (Pe.setIfInBounds a true) st k
   |none=>match VX P ops Pe st (i::r) with
    |some (a,b)=>aei P C F ops.toList b st fun st=>Ip ops n (Pe.setIfInBounds a true) st k
    |none=>none
inductive Ex where
 |norm|exit (id:Nat)|ret
structure Hint where
 live:List Tmp
 mat:List (Tmp×TypeId×Ty):=[]
 roT:List Tmp:=[]
 wk:List Tmp:=[]
 yh:List (Nat×Nat×TypeId×Ty):=[]
 xl:List Tmp:=[]
 rl:List Tmp:=[]
 roB:List (Nat×Nat):=[]
 aKN:Bool:=false
def aLM (env:List Nat)(c:AC):List Nat:=match c with
 |.own id _|.ME id _ _=>match ZJ env id with|true=>env|false=>env++[id]
 |_=>env
def aGI (env:List Nat)(l:List AC):List Nat:=l.foldl aLM env
def AV.cells:AV->List AC
 |.v x=>x.cells|.VI l=>l.flatMap CV.cells
def idxOf:List Nat->Nat->Nat->Option Nat
 |[],_,_=>none|x::l,n,i=>match Nat.beq x n with|true=>some i|false=>idxOf l n (i+1)
def alq (env d:List Nat):AC->AC
 |.own id len=>match idxOf env id 0 with|some i=>.own (1000000+i) len|none=>.none
 |.ME id i a=>match idxOf env id 0 with|some e=>.ME (1000000+e) i a|none=>.none
 |.ptr b a=>match ZJ d b with|true=>.ptr b a|false=>.none
 |.fnp _ _=>.none|c=>c
def aIY (env a:List Nat):CV->CV
 |.c x=>.c (alq env a x)|.agg l=>.agg (l.map (alq env a))
def aIZ (env a:List Nat):AV->AV
 |.v x=>.v (aIY env a x)|.VI l=>.VI (l.map (aIY env a))
def avU (st:St)(t:Tmp)(e:TypeId)(u:Ty):St:=match st.get t,look st.bl (2000000+t),Nat.beq u.n 0 with
 |.v (.c .nil),none,false=>{(st.put t (.v (.c (.own (2000000+t) none)))) with bl:=(2000000+t,some ⟨e,u,[],true,true⟩)::st.bl}
 |_,_,_=>st
def ans (st:St)(b j:Nat)(e:TypeId)(u:Ty):St:=match look st.bx b,look st.bl (3000000+100*b+j),Nat.beq u.n 0 with
 |some l,none,false=>match nz l j with
  |some .nil=>{st with bx:=(b,Pc l j (.own (3000000+100*b+j) none))::st.bx,bl:=(3000000+100*b+j,some ⟨e,u,[],true,true⟩)::st.bl}
  |_=>st
 |_,_,_=>st
def aDB (st:St)(t:Tmp):St:=match st.get t with
 |.v (.c (.own id len))=>match st.rL id with
  |some b=>(st.dD (.own id len)).put t (.v (.c (.ro b.f b.e b.t (Kg b.xs len))))|none=>st
 |_=>st
def avV (st:St)(b j:Nat):St:=match look st.bx b with
 |some l=>match nz l j with
  |some (.own id len)=>match st.rL id with
   |some a=>{(st.dD (.own id len)) with bx:=(b,Pc l j (.ro false a.e a.t (Kg a.xs len)))::(st.dD (.own id len)).bx}
   |none=>st
  |some (.ro _ e t xs)=>{st with bx:=(b,Pc l j (.ro false e t xs))::st.bx}
  |_=>st
 |none=>st
def aGJ (st:St):Bool->St
 |true=>{st with sp:=.v (.c .none)}
 |false=>st
def avW (st:St)(t:Tmp):St:=match st.get t with
 |.v (.c (.ro _ e u xs))=>st.put t (.v (.c (.ro false e u xs)))|.v (.c (.own id len))=>match st.rL id with
  |some b=>{st with bl:=(id,some {b with f:=false})::st.bl}
  |none=>st
 |_=>st
def VY:List AV->List Nat
 |[]=>[]|.v (.c (.ptr b _))::l=>match ZJ (VY l) b with|true=>VY l|false=>b::VY l
 |_::l=>VY l
def aI0 (a:List (Nat×AV))(bx:List (Nat×List AC)):List Nat :=
 bx.foldl (fun env b=>aGI env b.2) (a.foldl (fun env x=>aGI env x.2.cells) [])
def aBx (st:St)(b:Nat):List AC:=match look st.bx b with|some l=>l|none=>[]
def VZ (st:St)(env:List Nat):Nat->List Nat->List (Nat×Option fU)
 |_,[]=>[]|i,id::l=>(1000000+i,match idxOf env id 0 with
  |some a=>match Nat.beq a i with|true=>st.rL id|false=>none
  |none=>none)::VZ st env (i+1) l
def aLN (st:St)(tm:List (Nat×AV))(a:List Nat)(env:List Nat):St :=
 {nt:=st.nt,tm:=tm.map fun x=>(x.1,aIZ env a x.2),bx:=a.map fun b=>(b,(aBx st b).map (alq env a)),bl:=VZ st env 0 env,sp:=aIZ env a st.sp,rob:=st.rob}
def keep (d:List Tmp)(st:St):St :=
 let a:=d.map fun t=>(t,st.get t)
 let c:=VY (st.sp::a.map (·.2))
 aLN st a c (aI0 ((0,st.sp)::a) (c.map fun b=>(b,aBx st b)))
def aGK (h:Hint)(st:St):St :=
 keep h.live (h.wk.foldl avW (h.roT.foldl aDB (h.roB.foldl (fun st (b,a)=>avV st b a) (h.yh.foldl (fun st (b,a,e,u)=>ans st b a e u) (h.mat.foldl (fun st (t,e,u)=>avU st t e u) (aGJ st h.aKN))))))
def aKO (h:Hint)(e:Ex)(st:St):St:=match e with
 |.norm=>st|.exit _=>keep h.xl st|.ret=>keep h.rl st
def avX (h:Option Hint)(st:St):St:=match h with|some h=>aGK h st|none=>st
def an7 (h:Option Hint)(e:Ex)(st:St):St:=match h with|some h=>aKO h e st|none=>st
def aI1 (b:St->(Ex->St->Option U)->Option U)(h:Option Hint)(k:Ex->St->Option U):Nat->St->Option U
 |0,_=>none|n+1,st=>b st fun e da=>match e with
  |.norm=>aI1 b h k n (avX h da)|.exit a=>k (.exit a) (an7 h (.exit a) da)|.ret=>k .ret (an7 h .ret da)
def rN:Code->Nat
 |.region id _ _=>id|.seq a _=>rN a|.block _ b=>rN b|_=>0
def kM (o:Oper):Bool:=match o.op with
 |.move _|.assign _|.pick _ _ _|.load _ _|.nilCheck _|.binOp _ _ _ _ _|.unOp _ _ _|.fieldAddr _ _ _|.indexAddr _ _ _|.index _ _ _|.field _ _ _|.extract _ _|.build _ _|.slice _ _ _ _ _=>true|.convert _ dst _=>match P.underlying dst with|some (.slice _)=>false|_=>true
 |.call {callee:=.builtin .len,..}|.call {callee:=.builtin .min,..}|.call {callee:=.builtin .max,..}=>true|.call {callee:=.value (.func f),..}=>match C f with|some (.one b)=>Nat.beq b.m 1&&b.rs.all fun a=>flat a.1|_=>false
 |_=>false
def aBy (ops:Array Oper):Bool:=P.follows .mixedOrders&&Region.lexB .any ops&&ops.toList.all fun a=>kM P C a
def avY (d:Nat)(c:Nat->AC):AC->AC
 |.ptr b a=>match Nat.beq b d with|true=>c a|false=>.ptr b a
 |.fnp g b=>match Nat.beq b d with|true=>.none|false=>.fnp g b
 |x=>x
def aGL (d:Nat)(c:Nat->AC):CV->CV
 |.c x=>.c (avY d c x)|.agg l=>.agg (l.map (avY d c))
def aDC (d:Nat)(c:Nat->AC):AV->AV
 |.v x=>.v (aGL d c x)|.VI l=>.VI (l.map (aGL d c))
def St.at1 (st:St)(d:Nat)(c:Nat->AC):St :=
 {st with tm:=st.tm.map fun p=>(p.1,aDC d c p.2),bx:=(st.bx.filter fun p=> !Nat.beq p.1 d).map fun p=>(p.1,p.2.map (avY d c)),sp:=aDC d c st.sp}
def aGM (d:Nat)(u:Ty)(st:St)(k:St->Option U):Option U:=match look st.bx d with
 |some cells=>match im st u cells with
  |some (y,[])=>ck (pc st cells) (k ((st.freeze cells).at1 d fun a=>.Vn (cj cells) u y a))
  |_=>none
 |none=>none
def aI2:List (Tmp×TypeId×Ty)->St->(St->Option U)->Option U
 |[],st,k=>k st|(d,_,u)::l,st,k=>aGM d u st fun st=>aI2 l st k
def aLO (H:Nat->Option Hint)(id:Nat):List (Tmp×TypeId×Ty):=match H (900000+id) with|some h=>h.mat|none=>[]
def run (H:Nat->Option Hint):Code->St->(Ex->St->Option U)->Option U
 |.skip,st,k=>k .norm st|.region id ops aI3,st,k=>match (!aI3 || aBy P C ops) with
  |true=>yf P C F ops.toList ops.toList st fun st=>k .norm st
  |false=>match P.follows .mixedOrders&&Region.noSelect ops&&rM P ops st.nt with
   |true=>aI2 (aLO H id) st fun st=>Ip P C F ops ops.size (Array.replicate ops.size false) st fun st=>k .norm st
   |false=>none
 |.seq a b,st,k=>run H a st fun e st=>match e with
  |.norm=>run H b st k|e=>k e st
 |.cond c a b,st,k=>match st.ac c with
  |.bool v=>br v (run H a (st.lit c true) k) (run H b (st.lit c false) k)|_=>none
 |.block id b,st,k=>run H b st fun e st=>match e with
  |.exit d=>match Nat.beq d id with|true=>k .norm st|false=>k (.exit d) st
  |e=>k e st
 |.loop b,st,k=>aI1 (fun st k=>run H b st k) (H (rN b)) k F.n (avX (H (rN b)) st)
 |.exit id,st,k=>k (.exit id) st|.ret,st,k=>k .ret st|_,_,_=>none
def aLP (ps:List (Ty×Bool))(x:Args ps):List CV:=exF false ps x
def ayE:Nat->List CV->List (Nat×AV)
 |_,[]=>[]|i,v::l=>(i,.v v)::ayE (i+1) l
def aGN (st:St):ResultVar->Option CV
 |.tmp t=>some (st.ee (.tmp t))|.cell a t=>match uv st (st.ac (.tmp a)) with
  |some (l,off) =>
   let q:=yc (P.cellsOf t) (yd off l)
   match Nat.beq q.length (P.cellsOf t) with
   |true=>match acm P t with
    |some true=>some (.agg q)|some false=>match q with
     |[x]=>some (.c x)|_=>none
    |none=>none
   |false=>none
  |none=>none
def Sf (st:St):List ResultVar->Option (List CV)
 |[]=>some []|r::l=>match aGN P st r with
  |some c=>match Sf st l with
   |some cs=>some (c::cs)|none=>none
  |none=>none
def fin (a:Func)(rs:List (Ty×Bool))(m:Nat):Ex->St->Option (Args rs):=fun e st =>
 match e with
 |.exit _=>none|_=>match Sf P st a.results.toList with
  |some l=>match gS st m [] (aU l)&&(match m with|2=>ye st rs l|_=>true) with
   |true=>Cj st rs l|false=>none
  |none=>none
def eX (a : Func) : Code := match a.body with | some c => c | none => .refuse ""
def at2 (H:Nat->Option Hint):List Nat:=match H 999999 with|some h=>h.live|none=>[]
def aKP (H:Nat->Option Hint)(a:Func)(ps rs:List (Ty×Bool))(m:Nat)(x:Args ps):Option (Args rs) :=
 ck (Nat.ble ps.length a.ntmps&&eG ps&&eG rs&&Nat.ble m 2) (run P C F H (eX a) {nt:=a.ntmps,tm:=ayE 0 (aLP ps x),bx:=[],bl:=[],rob:=at2 H} (fin P a rs m))
def aKQ (pm:PM)(a:Ty×Bool)(x:a.1.D):CV×List (Nat×Option fU)×List (Nat×List AC):=match pm with
 |.rd=>(match a.2 with|true=>.agg (ex false a.1 x)|false=>.c (match ex false a.1 x with|[c]=>c|_=>.none),[],[])
 |.own f=>((ex1 62500 f a x 0).1,(ex1 62500 f a x 0).2,[])|.box=>(.c (.ptr 4000000 0),[],[(4000000,ex false a.1 x)])|.cur=>(.c (.ptr 4000000 0),[],[(4000000,ex true a.1 x)])
def exP (pm:PM):Nat->(ps:List (Ty×Bool))->Args ps->List CV×(CV×List (Nat×Option fU)×List (Nat×List AC))
 |0,a::l,x=>((aKQ pm a x.1).1::exF false l x.2,aKQ pm a x.1)|i+1,a::l,x=>((match a.2 with|true=>.agg (ex false a.1 x.1)|false=>.c (match ex false a.1 x.1 with|[c]=>c|_=>.none))::(exP pm i l x.2).1,(exP pm i l x.2).2)
 |_,[],_=>([],(.c .none,[],[]))
def ahp (nt:Nat)(pm:PM)(i:Nat)(ps:List (Ty×Bool))(x:Args ps):St :=
 {nt:=nt,tm:=ayE 0 (exP pm i ps x).1,bx:=(exP pm i ps x).2.2.2,bl:=(exP pm i ps x).2.2.1,sp:=.v (exP pm i ps x).2.1}
def asw (st:St)(pm:PM)(rs a:List (Ty×Bool))(m:Nat)(l:List CV):Option (Args rs×Args a) :=
 match pm with
 |.rd=>match a with
  |[]=>match rdM m with
   |some f=>match l with
    |[.c (.ptr b 0)]=>match look st.bx b with
     |some c=>match gS st (match f with|true=>1|false=>0) [] c&&wU c with
      |true=>match Cj st rs [.agg c]with|some r=>some (r,())|none=>none
      |false=>none
     |none=>none
    |_=>none
   |none=>none
  |_=>none
 |.box=>match st.sp,a with
  |.v (.c (.ptr b 0)),[q]=>match look st.bx b with
   |some c=>match wU c&&gS st m [] (aU l)&&(match m with|2|3=>ye st rs l|_=>true)&&Nat.ble m 3 with
    |true=>match Cj st rs l,imV st q (.agg c) with
     |some r,some y=>some (r,(y,()))|_,_=>none
    |false=>none
   |none=>none
  |_,_=>none
 |.cur=>match st.sp,a with
  |.v (.c (.ptr b 0)),[q]=>match look st.bx b with
   |some c=>match wU c&&cj c&&gS st m [] (aU l)&&(match m with|2=>ye st rs l|_=>true)&&Nat.ble m 2 with
    |true=>match Cj st rs l,imV st q (.agg c) with
     |some r,some y=>some (r,(y,()))|_,_=>none
    |false=>none
   |none=>none
  |_,_=>none
 |.own _=>match Nat.beq m 2 || Nat.beq m 3 with
  |true=>match a with
   |[]=>match gS st m [] (aU l)&&ye st rs l with
    |true=>match Cj st rs l with|some r=>some (r,())|none=>none
    |false=>none
   |[q]=>match st.sp with
    |.v c=>match gS st m [] (aU (l++[c]))&&ye st rs l&&ye st [q] [c]with
     |true=>match Cj st rs l,Cj st [q] [c]with
      |some r,some y=>some (r,y)|_,_=>none
     |false=>none
    |_=>none
   |_=>none
  |false=>none
def aLQ (b:Func)(pm:PM)(rs a:List (Ty×Bool))(m:Nat):Ex->St->Option (Args rs×Args a):=fun e st =>
 match e with
 |.exit _=>none|_=>match Sf P st b.results.toList with
  |some l=>asw st pm rs a m l|none=>none
def aDD (H:Nat->Option Hint)(a:Func)(ps:List (Ty×Bool))(i:Nat)(pm:PM)(rs b:List (Ty×Bool))(m:Nat)(x:Args ps):Option (Args rs×Args b) :=
 ck (Nat.ble ps.length a.ntmps&&Nat.blt i ps.length&&eG ps&&eG rs) (run P C F H (eX a) {(ahp a.ntmps pm i ps x) with rob:=at2 H} (aLQ P a pm rs b m))
def aBz (f:Func)(a b q:Ty×Bool):Ex->St->Option (a.1.D×b.1.D×q.1.D):=fun e st =>
 match e with
 |.exit _=>none|_=>match Sf P st f.results.toList with
  |some [d,c]=>match Cj st [b] [c]with
   |some n=>br (an2 b.1 n.1)
     (match asw st (.own true) [a,b] [] 2 [d,c]with|some r=>some (r.1.1,r.1.2.1,q.1.az)|none=>none)
     (ck (aKv a d) (match asw st (.own true) [b] [q] 2 [c]with|some r=>some (a.1.az,r.1.1,r.2.1)|none=>none))
   |none=>none
  |_=>none
def asx (H:Nat->Option Hint)(c:Func)(ps:List (Ty×Bool))(i:Nat)(a b q:Ty×Bool)(x:Args ps):Option (a.1.D×b.1.D×q.1.D) :=
 ck (Nat.ble ps.length c.ntmps&&Nat.blt i ps.length&&eG ps&&eG [a,b]) (run P C F H (eX c) {(ahp c.ntmps (.own true) i ps x) with rob:=at2 H} (aBz P c a b q))
end
end Go.Am
namespace Go.Am
inductive At where
 |l|r|b|t|e|i
def sub:List At->Code->Code
 |[],c=>c|.l::p,.seq a _=>sub p a|.r::p,.seq _ b=>sub p b|.b::p,.block _ b=>sub p b|.t::p,.cond _ a _=>sub p a|.e::p,.cond _ _ a=>sub p a|.i::p,.loop a=>sub p a|_,_=>.skip
section
variable (P:Program) (C:FuncId->Option Any) (F:p5) {U:Type} (H:Nat->Option Hint)
def V0:List At->Code->(Ex->St->Option U)->(Ex->St->Option U)
 |[],_,k=>k|.l::p,.seq a b,k=>V0 p a fun e st=>match e with
  |.norm=>run P C F H b st k|e=>k e st
 |.r::p,.seq _ b,k=>V0 p b k|.b::p,.block id b,k=>V0 p b fun e st=>match e with
  |.exit c=>match Nat.beq c id with|true=>k .norm st|false=>k (.exit c) st
  |e=>k e st
 |.t::p,.cond _ a _,k=>V0 p a k|.e::p,.cond _ _ a,k=>V0 p a k|_,_,k=>k
def lp (b:Code)(k:Ex->St->Option U)(n:Nat)(st:St):Option U :=
 aI1 (fun st k=>run P C F H b st k) (H (rN b)) k n st
def itk (b:Code)(k:Ex->St->Option U)(n:Nat):Ex->St->Option U:=fun e da=>match e with
 |.norm=>lp P C F H b k n (avX (H (rN b)) da)|.exit a=>k (.exit a) (an7 (H (rN b)) (.exit a) da)|.ret=>k .ret (an7 (H (rN b)) .ret da)
end
end Go.Am
