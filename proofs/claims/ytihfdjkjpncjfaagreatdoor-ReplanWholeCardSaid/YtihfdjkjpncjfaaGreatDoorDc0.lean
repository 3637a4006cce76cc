/- Part 0 of the proof of ReplanWhole.card. -/
import Derived.Test.YtihfdjkjpncjfaaGreatDoorProg
import Derived.Calls
import Derived.Orders
import Derived.KernelRfl
import Derived.WalkKit
import Derived.Laws.Tables
import Derived.Laws.MakeOwn
import Derived.Laws.IdiomCopy
import Derived.Deep.AppendSrc
import Derived.Deep.Upon
import Derived.Laws.BytesArg
import Derived.Lib.OthersKept
set_option linter.unusedVariables false
set_option linter.unusedSimpArgs false
section
namespace Go.Proofs.YtihfdjkjpncjfaaGreatDoor.A
open Go
theorem Zb {α β:Type _} (a:α) (f:α->Option β):(some a).bind f=f a:=rfl
theorem Zi (n:Nat):((n:Nat):Int).toNat=n:=rfl
theorem Zt {p:Prop} [Decidable p] (h:p):decide p=true:=_root_.decide_eq_true h
theorem Zf {p:Prop} [Decidable p] (h:¬p):decide p=false:=_root_.decide_eq_false h
theorem Zn:(!true)=false:=rfl
theorem Zo:(!false)=true:=rfl
theorem Zd {α:Type _} (a b:α):cond true a b=a:=rfl
theorem Zc {α:Type _} (a b:α):cond false a b=b:=rfl
theorem Zs {α:Type _} (a b:α):(some a=some b)=(a=b):=Option.some.injEq (a) b
theorem Zl {α:Type _} {l:List α} {i:Nat} {a:α}:l.getD i a=(l[i]?).getD a:=List.getD_eq_getElem?_getD (l:=l)
noncomputable section
inductive V where
 |undef
 |bool (b:Bool)
 |int (k:IntKind) (n:Int)
 |flt (b:Nat)
 |str (s:List UInt8)
 |ints (x:Bool) (k:IntKind) (l:List Int)
 |strs (x:Bool) (l:List (List UInt8))
 |recs (x:Bool) (z:Nat) (l:List (List V))
 |nilp
 |ptr (id off:Nat)
 |cptr (cs:List V)
 |eptr (id ver i off:Nat)
 |sref (id ver:Nat)
 |sview (id ver lo len:Nat)
 |agg (cs:List V)
 |tup (vs:List V)
 |func (f:Nat) (caps:List V)
 |nilf
 |nili
 |iface (t:Nat) (v:V)
 |nilm
 |nilsl
 |mapr (id:Nat)
 deriving Inhabited
theorem Z0:type_of% @Array.getD_eq_getD_getElem?:=@Array.getD_eq_getD_getElem?
theorem Z1:type_of% @List.getElem?_eq_getElem:=@List.getElem?_eq_getElem
theorem Z2:type_of% @Prod.mk.injEq:=@Prod.mk.injEq
theorem Z3:type_of% @Nat.mul_le_mul_right:=@Nat.mul_le_mul_right
theorem Z4:type_of% @Nat.le_refl:=@Nat.le_refl
theorem Z5:type_of% @Option.bind_eq_some_iff:=@Option.bind_eq_some_iff
theorem Z6:type_of% @List.eq_nil_of_length_eq_zero:=@List.eq_nil_of_length_eq_zero
theorem Z7:type_of% @Bool.and_eq_true:=@Bool.and_eq_true
theorem Z8:type_of% @List.length_take:=@List.length_take
theorem Z9:type_of% @List.length_cons:=@List.length_cons
theorem Z10:type_of% @List.length_append:=@List.length_append
theorem Z11:type_of% @Nat.le_trans:=@Nat.le_trans
theorem Z12:type_of% @Nat.eq_zero_or_pos:=@Nat.eq_zero_or_pos
theorem Z13:type_of% @List.length_map:=@List.length_map
theorem Z14:type_of% @Int.natCast_mul:=@Int.natCast_mul
theorem Z15:type_of% @List.getElem_mem:=@List.getElem_mem
theorem Z16:type_of% @Nat.lt_of_lt_of_le:=@Nat.lt_of_lt_of_le
theorem Z17:type_of% @List.getElem?_eq_none:=@List.getElem?_eq_none
theorem Z18:type_of% @Nat.zero_add:=@Nat.zero_add
theorem Z19:type_of% @Nat.add_mul:=@Nat.add_mul
theorem Z20:type_of% @List.getElem_map:=@List.getElem_map
theorem Z21:type_of% @List.length_set:=@List.length_set
theorem Z22:type_of% @Option.map_eq_some_iff:=@Option.map_eq_some_iff
theorem Z23:type_of% @List.all_eq_true:=@List.all_eq_true
theorem Z24:type_of% @Nat.mul_comm:=@Nat.mul_comm
theorem Z25:type_of% @Bool.false_eq_true:=@Bool.false_eq_true
theorem Z26:type_of% @List.drop_eq_nil_of_le:=@List.drop_eq_nil_of_le
theorem Z27:type_of% @List.getElem_append_left:=@List.getElem_append_left
theorem Z28:type_of% @List.take_of_length_le:=@List.take_of_length_le
theorem Z29:type_of% @Array.getElem?_eq_getElem:=@Array.getElem?_eq_getElem
theorem Z30:type_of% @List.drop_eq_getElem_cons:=@List.drop_eq_getElem_cons
theorem Z31:type_of% @Array.length_toList:=@Array.length_toList
theorem Z32:type_of% @Array.getElem?_push:=@Array.getElem?_push
theorem Z33:type_of% @Nat.pow_le_pow_right:=@Nat.pow_le_pow_right
theorem Z34:type_of% @List.drop_zero:=@List.drop_zero
theorem Z35:type_of% @List.length_drop:=@List.length_drop
theorem Z36:type_of% @Nat.add_assoc:=@Nat.add_assoc
theorem Z37:type_of% @List.getElem_append_right:=@List.getElem_append_right
theorem Z38:type_of% @List.length_singleton:=@List.length_singleton
theorem Z39:type_of% @Nat.lt_or_ge:=@Nat.lt_or_ge
theorem Z40:type_of% @Int.natCast_add:=@Int.natCast_add
theorem Z41:type_of% @List.getElem_cons_zero:=@List.getElem_cons_zero
theorem Z42:type_of% @Int.mul_nonneg:=@Int.mul_nonneg
theorem Z43:type_of% @Nat.mul_le_mul_left:=@Nat.mul_le_mul_left
theorem Z44:type_of% @Nat.pow_succ:=@Nat.pow_succ
theorem Z45:type_of% @List.append_nil:=@List.append_nil
theorem Z46:type_of% @Nat.mul_assoc:=@Nat.mul_assoc
theorem Z47:type_of% @List.getElem?_append_left:=@List.getElem?_append_left
theorem Z48:type_of% @Int.natAbs_natCast:=@Int.natAbs_natCast
theorem Z49:type_of% @Nat.mul_pos:=@Nat.mul_pos
theorem Z50:type_of% @List.mem_append:=@List.mem_append
theorem Z51:type_of% @Array.getElem?_append_left:=@Array.getElem?_append_left
theorem Z52:type_of% @Option.getD_some:=@Option.getD_some
theorem Z53:type_of% @Nat.min_eq_left:=@Nat.min_eq_left
theorem Z54:type_of% @List.length_nil:=@List.length_nil
theorem Z55:type_of% @Int.natCast_nonneg:=@Int.natCast_nonneg
theorem Z56:type_of% @List.mem_of_mem_take:=@List.mem_of_mem_take
theorem Z57:type_of% @Nat.div_lt_of_lt_mul:=@Nat.div_lt_of_lt_mul
theorem Z58:type_of% @List.flatten_cons:=@List.flatten_cons
theorem Z59:type_of% @Bool.false_and:=@Bool.false_and
theorem Z60:type_of% @Bool.beq_eq_decide_eq:=@Bool.beq_eq_decide_eq
theorem Z61:type_of% @Nat.eq_of_beq_eq_true:=@Nat.eq_of_beq_eq_true
theorem Z62:type_of% @Int.mul_le_mul_of_nonneg_right:=@Int.mul_le_mul_of_nonneg_right
theorem Z63:type_of% @List.getElem?_append_right:=@List.getElem?_append_right
theorem Z64:type_of% @List.getElem?_cons_zero:=@List.getElem?_cons_zero
theorem Z65:type_of% @Nat.div_add_mod:=@Nat.div_add_mod
theorem Z66:type_of% @Nat.two_pow_pos:=@Nat.two_pow_pos
theorem Z67:type_of% @List.mem_of_mem_drop:=@List.mem_of_mem_drop
theorem Z68:type_of% @List.drop_of_length_le:=@List.drop_of_length_le
theorem Z69:type_of% @Option.isSome_iff_exists:=@Option.isSome_iff_exists
theorem Z70:type_of% @Nat.one_mul:=@Nat.one_mul
theorem Z71:type_of% @List.map_append:=@List.map_append
theorem Z72:type_of% @Nat.le_of_lt:=@Nat.le_of_lt
theorem Z73:type_of% @List.length_replicate:=@List.length_replicate
theorem Z74:type_of% @Nat.le_div_iff_mul_le:=@Nat.le_div_iff_mul_le
theorem Z75:type_of% @Bool.not_eq_true':=@Bool.not_eq_true'
theorem Z76:type_of% @Int.tmod_eq_emod_of_nonneg:=@Int.tmod_eq_emod_of_nonneg
theorem Z77:type_of% @Nat.add_zero:=@Nat.add_zero
theorem Z78:type_of% @List.getElem?_take:=@List.getElem?_take
theorem Z79:type_of% @Nat.mod_lt:=@Nat.mod_lt
theorem Z80:type_of% @Rat.intCast_le_intCast:=@Rat.intCast_le_intCast
theorem Z81:type_of% @Bool.true_and:=@Bool.true_and
theorem Z82:type_of% @List.append_assoc:=@List.append_assoc
theorem Z83:type_of% @Int.mul_ediv_add_emod:=@Int.mul_ediv_add_emod
theorem Z84:type_of% @Int.lt_trichotomy:=@Int.lt_trichotomy
theorem Z85:type_of% @Nat.div_lt_iff_lt_mul:=@Nat.div_lt_iff_lt_mul
theorem Z86:type_of% @Nat.mul_lt_mul_of_pos_right:=@Nat.mul_lt_mul_of_pos_right
theorem Z87:type_of% @Int.mul_comm:=@Int.mul_comm
theorem Z88:type_of% @Array.getElem?_eq_some_iff:=@Array.getElem?_eq_some_iff
theorem Z89:type_of% @Int.fdiv_eq_ediv_of_nonneg:=@Int.fdiv_eq_ediv_of_nonneg
theorem Z90:type_of% @List.getElem_of_mem:=@List.getElem_of_mem
theorem Z91:type_of% @List.flatten_append:=@List.flatten_append
theorem Z92:type_of% @Array.getElem?_setIfInBounds_ne:=@Array.getElem?_setIfInBounds_ne
theorem Z93:type_of% @List.flatMap_cons:=@List.flatMap_cons
theorem Z94:type_of% @Nat.zero_le:=@Nat.zero_le
theorem Z95:type_of% @Rat.divInt_eq_div:=@Rat.divInt_eq_div
theorem Z96:type_of% @Nat.add_mul_mod_self_left:=@Nat.add_mul_mod_self_left
theorem Z97:type_of% @Array.getElem?_modify:=@Array.getElem?_modify
theorem Z98:type_of% @Nat.div_le_self:=@Nat.div_le_self
theorem Z99:type_of% @Int.le_refl:=@Int.le_refl
theorem Z100:type_of% @List.take_length:=@List.take_length
theorem Z101:type_of% @Nat.pow_add:=@Nat.pow_add
theorem Z102:type_of% @List.getElem?_set_ne:=@List.getElem?_set_ne
theorem Z103:type_of% @List.mem_cons:=@List.mem_cons
theorem Z104:type_of% @List.drop_drop:=@List.drop_drop
theorem Z105:type_of% @Int.mul_le_mul:=@Int.mul_le_mul
theorem Z106:type_of% @Int.natAbs_mul:=@Int.natAbs_mul
theorem Z107:type_of% @List.nil_append:=@List.nil_append
theorem Z108:type_of% @List.map_congr_left:=@List.map_congr_left
theorem Z109:type_of% @Nat.pow_pos:=@Nat.pow_pos
theorem Z110:type_of% @Nat.mod_eq_of_lt:=@Nat.mod_eq_of_lt
theorem Z111:type_of% @List.cons_append:=@List.cons_append
theorem Z112:type_of% @Nat.le_add_right:=@Nat.le_add_right
theorem Z113:type_of% @List.mem_singleton:=@List.mem_singleton
theorem Z114:type_of% @Int.add_zero:=@Int.add_zero
theorem Z115:type_of% @Rat.mul_nonneg:=@Rat.mul_nonneg
theorem Z116:type_of% @Nat.div_lt_self:=@Nat.div_lt_self
theorem Z117:type_of% @Nat.mul_add:=@Nat.mul_add
theorem Z118:type_of% @Nat.mul_le_mul:=@Nat.mul_le_mul
theorem Z119:type_of% @Rat.num_nonneg:=@Rat.num_nonneg
theorem Z120:type_of% @Nat.mul_one:=@Nat.mul_one
abbrev J0:=List Int
abbrev J1:=List UInt8
abbrev J2:=List (List V)
inductive Blk where
 |cells (t:Nat) (cs:List V)
 |arr (ver:Nat) (grow:Bool) (e:Nat) (c:V)
 |imm (ver:Nat) (c:V)
 |siter (s:List UInt8) (pos:Nat)
 |dead
 deriving Inhabited
def Blk.own:Blk->Bool
 |.cells _ _ | .arr _ _ _ _ | .siter _ _=>true
 |_=>false
def Blk.fix:Blk->Bool
 |.cells _ _ | .arr _ false _ _ | .siter _ _=>true
 |_=>false
abbrev Env:=List V
abbrev Store:=List Blk
inductive TD where
 |bad|bool|int (k:IntKind)|flt|str|ptr (e:Nat)|slice (e:Nat)|array (n e:Nat)|map (k e:Nat)
 |struct (fs:List (Nat×Nat×Nat))|func|iface|tuple
 deriving Inhabited,DecidableEq
structure TI where
 d:TD
 size:Nat
 bytes:Nat
 zero:List V
 flat:List Nat
 eq:Bool:=false
 deriving Inhabited
def TI.bad:TI:={d:=.bad,size:=0,bytes:=0,zero:=[],flat:=[]}
inductive Tab where
 |nil
 |node (t:Nat) (i:TI) (l r:Tab)
def Qbv:Tab->Nat->TI
 |.nil,_=>.bad
 |.node u i l r,t=>if t=u then i else if t<u then Qbv l t else Qbv r t
structure Pack where
 ρ:Type
 m:Option ρ
 enc:ρ->V
inductive X where
 |normal|exit (id:Nat)|ret|goto (l:Nat)
inductive LPack where
 |one (σ:Type) (m:Option σ) (out:σ->X×Env×Store)
 |two (σ τ:Type) (m:Option (σ⊕τ)) (out:σ->X×Env×Store) (out':τ->X×Env×Store)
def orP (a b:Option LPack):Option LPack:=
 match a with
 |some p=>some p
 |none=>b
structure IFun where
 body:Code
 ntmps:Nat
 results:List ResultVar
def ifun (f:Func):IFun:={body:=f.body.getD .skip,ntmps:=f.ntmps,results:=f.results.toList}
structure Ctx where
 T:Tab
 call:Nat->List V->Option Pack:=λ_ _=>none
 inl:Nat->Option IFun:=λ_=>none
 draws:Nat->Nat->List (Nat×List (Nat×Nat)×Nat)×Nat:=λ_ _=>([],0)
 rank:Nat->Nat:=λ_=>0
 prim:Nat->Option (∀R:Type,List V->List Blk->(V->List Blk->Option R)->Option R):=λ_=>none
 meth:Nat->String->Option Nat:=λ_ _=>none
 clone:Nat->Option Nat:=λ_=>none
 keep:Nat->Nat->List Nat×List Nat×List Nat:=λ_ _=>([],[],[])
 keepE:Nat->Nat->List Nat×List Nat×List Nat:=keep
 keepR:Nat->Nat->List Nat×List Nat×List Nat:=λ_ _=>([],[],[])
 unroll:Nat->Nat->Nat:=λ_ _=>0
 moves:Nat->Nat->List (Nat×Nat):=λ_ _=>[]
 own:Nat->Bool:=λ_=>false
 keeps:Nat->Bool:=λ_=>false
 L:Nat->Nat->Nat->Env×Store->Option LPack:=λ_ _ _ _=>none
def Qg:List (Nat×(List V->Option Pack))->Nat->List V->Option Pack
 |[],_,_=>none
 |(f,k)::r,g,vs=>if g=f then k vs else Qg r g vs
def Ctx.ownD (C:Ctx):Option Nat->Bool
 |some d=>C.own d
 |none=>false
def Ctx.keepD (C:Ctx):Option Nat->Bool
 |some d=>C.keeps d
 |none=>false
def Ctx.inPl (C:Ctx) (g:Nat):Option Unit:=match C.prim g with
 |some _=>some ()
 |none=>(C.inl g).map λ_=>()
def Ctx.ty (C:Ctx) (t:Nat):TI:=Qbv C.T t
def cellsOf:V->List V
 |.agg cs=>cs
 |v=>[v]
def Ctx.bad (C:Ctx) (t:Nat):Bool:=match (C.ty t).d with | .bad | .tuple=>true|_=>false
def Ctx.isAgg (C:Ctx) (t:Nat):Bool:=match (C.ty t).d with | .struct _ | .array _ _=>true|_=>false
def Wl (isAgg:Bool) (cs:List V):V:=if isAgg then .agg cs else cs.getD 0 .undef
def Ctx.emptyOf (C:Ctx) (t:Nat):V:=
 match (C.ty t).d with
 |
  .slice e=>match (C.ty e).d with
  |.int k=>.ints true k []
  |.str=>.strs true []
  |.bad=>.undef
  |_=>if (C.ty e).size=0 then .undef else .recs true (C.ty e).size []
 |_=>.undef
def Ctx.constV (C:Ctx) (t:Nat):Value->V
 |.bool b=>.bool b
 |.int k n=>.int k n
 |.string s=>.str s.data.toList
 |.float .f64 b=>.flt b
 |.slice none 0 0=>C.emptyOf t
 |.pointer none=>.nilp
 |.nilFunc=>.nilf
 |.nilIface=>.nili
 |.map none=>.nilm
 |_=>.undef
def Ctx.opv (C:Ctx) (env:Env) (t:Nat):Operand->V
 |.tmp i=>env.getD i .undef
 |.const c=>C.constV t c
 |.func f=>.func f []
 |.global _=>.undef
def unexact:V->V
 |.ints _ k l=>.ints false k l
 |.strs _ l=>.strs false l
 |.recs _ z l=>.recs false z l
 |v=>v
def put (env:Env) (dst:Option Nat) (v:V):Env:=
 match dst with
 |some d=>env.set d v
 |none=>env
variable {R:Type}
def V.asInt (k:IntKind):V->(Int->Option R)->Option R
 |.int k' n,K=>if k'=k then K n else none
 |_,_=>none
def V.asBool:V->(Bool->Option R)->Option R
 |.bool b,K=>K b
 |_,_=>none
def V.asStr:V->(J1->Option R)->Option R
 |.str s,K=>K s
 |_,_=>none
def V.asInts (k:IntKind):V->(J0->Option R)->Option R
 |.ints _ k' l,K=>if k'=k then K l else none
 |_,_=>none
def V.asStrs:V->(List J1->Option R)->Option R
 |.strs _ l,K=>K l
 |_,_=>none
def V.asRecs (z:Nat):V->(J2->Option R)->Option R
 |.recs _ z' l,K=>if z'=z then K l else none
 |_,_=>none
def Ctx.cast (C:Ctx) (t:Nat) (v:V) (K:V->Option R):Option R:=
 match (C.ty t).d with
 |.int k=>v.asInt k λn=>K (.int k n)
 |.bool=>v.asBool λb=>K (.bool b)
 |.str=>v.asStr λs=>K (.str s)
 |
  .slice e=>match (C.ty e).d with
  |.int k=>v.asInts k λl=>K (.ints false k l)
  |.str=>v.asStrs λl=>K (.strs false l)
  |.bad=>none
  |_=>v.asRecs (C.ty e).size λl=>K (.recs false (C.ty e).size l)
 |.bad=>none
 |_=>K v
def Ctx.castAll (C:Ctx):List Nat->List V->Nat->(List V->Option R)->Option R
 |[],_,_,K=>K []
 |t::ts,vs,i,K=>C.cast t (vs.getD i .undef) λv=>C.castAll ts vs (i+1) λr=>K (v::r)
def wr (k:IntKind) (n:Int):Int:=k.wrap n
def lenV:V->Option Nat
 |.ints _ _ l=>some l.length
 |.strs _ l=>some l.length
 |.recs _ _ l=>some l.length
 |_=>none
def contentB (k:Blk) (ver:Nat):Option V:=
 match k with
 |.arr ver' _ _ c=>if ver'=ver then some c else none
 |.imm ver' c=>if ver'=ver then some c else none
 |_=>none
def verB:Blk->Option Nat
 |.arr ver _ _ _=>some ver
 |.imm ver _=>some ver
 |_=>none
def contentOf (S:Store) (id ver:Nat):Option V:=contentB (S.getD id .dead) ver
def lenOf (S:Store):V->Option Nat
 |
  .sref id ver=>match contentOf S id ver with
  |some c=>lenV c
  |none=>none
 |
  .sview id ver _ n=>match contentOf S id ver with
  |some _=>some n
  |none=>none
 |v=>lenV v
def J7:V->V
 |.nilsl=>.ints true .u8 []
 |v=>v
def refs1:V->List Nat
 |.ptr id _ | .eptr id _ _ _ | .sref id _ | .sview id _ _ _=>[id]
 |_=>[]
def subV (lo len:Nat):V->V
 |.ints _ k l=>.ints false k ((l.drop lo).take len)
 |.strs _ l=>.strs false ((l.drop lo).take len)
 |.recs _ z l=>.recs false z ((l.drop lo).take len)
 |v=>v
def immOf (S:Store):V->V
 |
  .sref id ver=>match contentOf S id ver with
  |some (.ints _ k l)=>.ints false k l
  |some (.strs _ l)=>.strs false l
  |some (.recs _ z l)=>.recs false z l
  |_=>.undef
 |
  .sview id ver lo n=>match contentOf S id ver with
  |some c=>subV lo n c
  |none=>.undef
 |v=>v
def immDeep (S:Store):V->V
 |.agg cs=>.agg (cs.map (immOf S))
 |v=>immOf S v
def freezeOne (S:Store):V->Store
 |
  .sref id _ | .sview id _ _ _=>match S.getD id .dead with
  |.arr ver _ _ c=>S.set id (.imm ver c)
  |_=>S
 |_=>S
def Qb6:Store->List V->Store
 |S,[]=>S
 |S,v::vs=>Qb6 (freezeOne S v) vs
def Wa:Store->List V->Store
 |S,[]=>S
 |S,v::vs=>Wa (Qb6 S (cellsOf v)) vs
def setAt (cs:List V) (off:Nat):List V->List V
 |[]=>cs
 |v::vs=>setAt (cs.set off v) (off+1) vs
def V.isU:V->Bool
 |.undef=>true
 |.tup _=>true
 |_=>false
def Ja (place:Nat->Option (Nat×Nat)) (cells:List V):List (Nat×V)->Option (List V)
 |[]=>some cells
 |
  (i,v)::rest=>
  match place i with
  |none=>none
  |some (off,size)=>if v.isU=false/\(cellsOf v).length=size/\off+size<=cells.length then Ja place (setAt cells off (cellsOf v)) rest else none
def allInts (k:IntKind):List V->Option J0
 |[]=>some []
 |.int k' n::r=>if k'=k then (allInts k r).map (n :: ·) else none
 |_::_=>none
def allStrs:List V->Option (List J1)
 |[]=>some []
 |.str s::r=>(allStrs r).map (s :: ·)
 |_::_=>none
def chunks (z:Nat):Nat->List V->J2
 |0,_=>[]
 |n+1,l=>l.take z::chunks z n (l.drop z)
def V.flatImm:V->Bool
 |.bool _ | .int _ _ | .flt _ | .str _ | .ints _ _ _ | .strs _ _ | .recs _ _ _ | .nilp | .nilf | .nili | .nilm | .nilsl=>true
 |.func _ []=>true
 |_=>false
def Ctx.eqFs (C:Ctx) (rec:Nat->V->V->Option Bool) (a b:List V):List (Nat×Nat×Nat)->Option Bool
 |[]=>some true
 |[(o,s,t)]=>if C.bad t=false/\(C.ty t).size=s/\o+s<=a.length/\o+s<=b.length then rec t (Wl (C.isAgg t) ((a.drop o).take s)) (Wl (C.isAgg t) ((b.drop o).take s)) else none
 |(o,s,t)::r=>if C.bad t=false/\(C.ty t).size=s/\o+s<=a.length/\o+s<=b.length then
   match rec t (Wl (C.isAgg t) ((a.drop o).take s)) (Wl (C.isAgg t) ((b.drop o).take s)),C.eqFs rec a b r with
   |some x,some y=>some (x&&y)
   |_,_=>none
  else none
def Ctx.eqV (C:Ctx):Nat->Nat->V->V->Option Bool
 |0,_,_,_=>none
 |
  n+1,t,.int k a,.int k' b=>match (C.ty t).d with
  |.int _=>if k=k' then some (decide (a=b)) else none
  |_=>none
 |
  n+1,t,.bool a,.bool b=>match (C.ty t).d with
  |.bool=>some (decide (a=b))
  |_=>none
 |
  n+1,t,.str a,.str b=>match (C.ty t).d with
  |.str=>some (decide (a=b))
  |_=>none
 |
  n+1,t,.agg a,.agg b=>match (C.ty t).d with
  |.struct fs=>if (C.ty t).eq=true then C.eqFs (C.eqV n) a b fs else none
  |_=>none
 |_,_,_,_=>none
def Ctx.binOpV (C:Ctx) (op:BinOp) (t:Nat) (S:Store) (x y:V) (K:V->Option R):Option R:=
 match x,y with
 |
  .int k a,.int k' b=>
  match op with
  |.shl=>if 0<=b then K (.int k (wr k (a*2^(min b.toNat k.bits)))) else none
  |.shr=>if 0<=b then K (.int k (a.fdiv (2^(min b.toNat k.bits)))) else none
  |_
   =>if k=k' then
    match op with
    |.add=>K (.int k (wr k (a+b)))
    |.sub=>K (.int k (wr k (a-b)))
    |.mul=>K (.int k (wr k (a*b)))
    |.quo=>if b=0 then none else K (.int k (wr k (a.tdiv b)))
    |.rem=>if b=0 then none else K (.int k (a.tmod b))
    |.and=>K (.int k (wr k (BitVec.ofInt k.bits a &&& BitVec.ofInt k.bits b).toNat))
    |.or=>K (.int k (wr k (BitVec.ofInt k.bits a ||| BitVec.ofInt k.bits b).toNat))
    |.xor=>K (.int k (wr k (BitVec.ofInt k.bits a ^^^ BitVec.ofInt k.bits b).toNat))
    |.eql=>K (.bool (decide (a=b)))
    |.neq=>K (.bool (!decide (a=b)))
    |.lss=>K (.bool (decide (a<b)))
    |.leq=>K (.bool (decide (a<=b)))
    |.gtr=>K (.bool (decide (a>b)))
    |.geq=>K (.bool (decide (a>=b)))
    |_=>none
   else none
 |
  .str a,.str b=>
  match op with
  |.add=>if a.length+b.length<=9223372036854775807 then K (.str (a++b)) else none
  |.eql=>K (.bool (decide (a=b)))
  |.neq=>K (.bool (!decide (a=b)))
  |_=>none
 |
  .bool a,.bool b=>
  match (C.ty t).d,op with
  |.bool,.eql=>K (.bool (decide (a=b)))
  |.bool,.neq=>K (.bool (!decide (a=b)))
  |_,_=>none
 |
  .agg a,.agg b=>
  match op,C.eqV 4 t (.agg a) (.agg b) with
  |.eql,some r=>K (.bool r)
  |.neq,some r=>K (.bool (!r))
  |_,_=>none
 |
  .nilp,.nilp=>match (C.ty t).d,op with
  |.ptr _,.eql=>K (.bool true)
  |.ptr _,.neq=>K (.bool false)
  |_,_=>none
 |
  .cptr _,.nilp=>match (C.ty t).d,op with
  |.ptr _,.eql=>K (.bool false)
  |.ptr _,.neq=>K (.bool true)
  |_,_=>none
 |
  .ptr id _,.nilp=>if (S.getD id .dead).fix then (match (C.ty t).d,op with
  |.ptr _,.eql=>K (.bool false)
  |.ptr _,.neq=>K (.bool true)
  |_,_=>none) else none
 |_,_=>none
def Jr (fs:List (Nat×Nat×Nat)) (f:Nat):Option (Nat×Nat):=(fs[f]?).map λx=>(x.1,x.2.1)
def Ctx.elemT (C:Ctx) (t:Nat):Nat:=match (C.ty t).d with | .slice e | .array _ e | .ptr e=>e|_=>0
def zOf:V->Nat
 |.recs _ z _=>z
 |_=>1
def Ctx.indexAddrV (C:Ctx) (t:Nat) (S:Store) (x ix:V) (K:V->Option R):Option R:=
 match ix with
 |
  .int _ i=>
  match (C.ty t).d with
  |
   .slice e=>if C.bad e then none else
   match x with
   |.ints _ k l=>if (C.ty e).size=1 then (if 0<=i/\i<(l.length:Int) then K (.cptr [.int k (l.getD i.toNat 0)]) else none) else none
   |.strs _ l=>if (C.ty e).size=1 then (if 0<=i/\i<(l.length:Int) then K (.cptr [.str (l.getD i.toNat [])]) else none) else none
   |.recs _ z l=>if (C.ty e).size=z/\(C.ty e).flat.length=z then (if 0<=i/\i<(l.length:Int) then C.castAll (C.ty e).flat (l.getD i.toNat []) 0 λcs=>K (.cptr cs) else none) else none
   |
    .sref id ver=>match contentOf S id ver with
    |
     some c=>if (C.ty e).size=zOf c then (match lenV c with
     |some n=>if 0<=i/\i<(n:Int) then K (.eptr id ver i.toNat 0) else none
     |none=>none) else none
    |none=>none
   |
    .sview id ver lo n=>match contentOf S id ver with
    |some c=>if (C.ty e).size=zOf c then (if 0<=i/\i<(n:Int) then K (.eptr id ver (lo+i.toNat) 0) else none) else none
    |none=>none
   |_=>none
  |
   .array n e=>if C.bad e then none else
   match x with
   |
    .ptr id off=>match S.getD id .dead with
    |.arr ver false _ c=>if off=0/\(C.ty e).size=zOf c/\1<n then (if 0<=i/\i<(n:Int) then K (.eptr id ver i.toNat 0) else none) else none
    |.cells _ _=>if 1<n then (if 0<=i/\i<(n:Int) then K (.ptr id (off+i.toNat*(C.ty e).size)) else none) else none
    |_=>none
   |_=>none
  |_=>none
 |_=>none
def Ctx.loadV (C:Ctx) (t:Nat) (S:Store) (x:V) (K:V->Option R):Option R:=
 if C.bad t then none else
 match x with
 |
  .ptr id off=>match S.getD id .dead with
  |.cells _ cs=>if off+(C.ty t).size<=cs.length then K (Wl (C.isAgg t) ((cs.drop off).take (C.ty t).size)) else none
  |_=>none
 |.cptr cs=>if (C.ty t).size<=cs.length then K (Wl (C.isAgg t) (cs.take (C.ty t).size)) else none
 |
  .eptr id ver i off=>match contentOf S id ver with
  |some (.ints _ k l)=>if off=0/\C.isAgg t=false then (if i<l.length then K (.int k (l.getD i 0)) else none) else none
  |some (.strs _ l)=>if off=0/\C.isAgg t=false then (if i<l.length then K (.str (l.getD i [])) else none) else none
  |some (.recs _ z l)=>if off+(C.ty t).size<=z/\(C.ty t).flat.length=(C.ty t).size then (if i<l.length then
    (if C.isAgg t then C.castAll (C.ty t).flat (l.getD i []) off λcs=>K (.agg cs)
     else C.cast t ((l.getD i []).getD off .undef) K) else none) else none
  |_=>none
 |_=>none
def Ctx.storeV (C:Ctx) (t:Nat) (S:Store) (x v:V) (K:Store->Option R):Option R:=
 if C.bad t then none else
 match x with
 |
  .ptr id off=>match S.getD id .dead with
  |.cells t0 cs=>if v.isU=false/\(cellsOf v).length=(C.ty t).size/\off+(C.ty t).size<=cs.length then K (S.set id (.cells t0 (setAt cs off (cellsOf v)))) else none
  |_=>none
 |
  .eptr id ver i off=>match S.getD id .dead with
  |.arr ver' g e c=>if ver'=ver then
    match c,v with
    |.ints x k l,.int k' n=>if k=k' then (if off=0/\(C.ty t).size=1 then (if i<l.length then K (S.set id (.arr ver' g e (.ints x k (l.set i n)))) else none) else none) else none
    |.strs x l,.str s=>if off=0/\(C.ty t).size=1 then (if i<l.length then K (S.set id (.arr ver' g e (.strs x (l.set i s)))) else none) else none
    |.recs x z l,v=>if v.isU=false/\(cellsOf v).length=(C.ty t).size/\off+(C.ty t).size<=z/\(cellsOf v).all V.flatImm=true then (if i<l.length then K (S.set id (.arr ver' g e (.recs x z (l.set i (setAt (l.getD i []) off (cellsOf v)))))) else none) else none
    |_,_=>none
   else none
  |_=>none
 |_=>none
def Wn (c:V) (y:V):Option V:=
 match c,y with
 |.ints _ k l,.ints _ k' m=>if k=k' then some (.ints false k (l++m)) else none
 |.strs _ l,.strs _ m=>some (.strs false (l++m))
 |.recs _ z l,.recs _ z' m=>if z=z' then some (.recs false z (l++m)) else none
 |_,_=>none
def isExact:V->Bool
 |.ints x _ _ | .strs x _ | .recs x _ _=>x
 |_=>false
def isCons:V->Bool
 |.ints _ _ (_::_) | .strs _ (_::_) | .recs _ _ (_::_)=>true
 |_=>false
def isNil:V->Bool
 |.ints _ _ [] | .strs _ [] | .recs _ _ []=>true
 |_=>false
def Jb (c y:V) (lo k:Nat):Option V:=
 match c,y with
 |.ints x kk l,.ints _ kk' m=>if kk=kk' then some (.ints x kk (l.take lo++m.take k++l.drop (lo+k))) else none
 |.strs x l,.strs _ m=>some (.strs x (l.take lo++m.take k++l.drop (lo+k)))
 |.recs x z l,.recs _ z' m=>if z=z' then some (.recs x z (l.take lo++m.take k++l.drop (lo+k))) else none
 |_,_=>none
def Ctx.copyV (C:Ctx) (t:Nat) (S:Store) (x y:V) (K:V->Store->Option R):Option R:=
 match (C.ty t).d with
 |
  .slice e0=>if C.bad e0 then none else
  match x with
  |
   .sref id ver=>match S.getD id .dead with
   |.arr ver' g e c=>if ver'=ver/\zOf c=(C.ty e0).size then
     match lenV c,lenV (immOf S y) with
     |
      some n,some m=>match Jb c (immOf S y) 0 (min m n) with
      |some c'=>K (.int .i64 ((min m n:Nat):Int)) (S.set id (.arr ver g e c'))
      |none=>none
     |_,_=>none
    else none
   |_=>none
  |
   .sview id ver lo n=>match S.getD id .dead with
   |.arr ver' g e c=>if ver'=ver/\zOf c=(C.ty e0).size then
     match lenV (immOf S y) with
     |
      some m=>match Jb c (immOf S y) lo (min m n) with
      |some c'=>K (.int .i64 ((min m n:Nat):Int)) (S.set id (.arr ver g e c'))
      |none=>none
     |_=>none
    else none
   |_=>none
  |_=>none
 |_=>none
def Ctx.appendV (C:Ctx) (t:Nat) (S:Store) (x y:V) (K:V->Store->Option R):Option R:=
 match (C.ty t).d with
 |.slice e0=>if C.bad e0 then none else
  match lenOf S x,lenOf S y with
  |some n,some m=>
  if (C.ty e0).bytes=0 then none else
  if (n+m)*(C.ty e0).bytes<=140737488355328 then
   match x with
   |
    .sref id ver=>match S.getD id .dead with
    |.arr ver' true e c=>if ver'=ver/\e=e0/\zOf c=(C.ty e0).size then
      match Wn c (immOf S y) with
      |some c'=>K (.sref id (ver+1)) (S.set id (.arr (ver+1) true e c'))
      |none=>none
     else none
    |.arr ver' false e c=>if ver'=ver/\zOf c=(C.ty e0).size/\isCons (immOf S y)=true/\isExact c=false then
      match Wn c (immOf S y) with
      |some c'=>K (.sref S.length 0) (S++[.arr 0 true e0 c'])
      |none=>none
     else none
    |_=>none
   |x=>if isExact x=true/\zOf x=(C.ty e0).size then
      match Wn x (immOf S y) with
      |some c'=>cond (isNil x) (K (.sref S.length 0) (S++[.arr 0 true e0 c'])) (cond (isCons x) (K c' S) none)
      |none=>none
     else none
  else none
  |_,_=>none
 |_=>none
def Ctx.appendX (C:Ctx) (t:Nat) (S:Store) (x y:V) (K:V->Store->Option R):Option R:=
 match (C.ty t).d with
 |.slice e0=>if C.bad e0 then none else
  match lenOf S x,lenOf S y with
  |some n,some m=>
  if (C.ty e0).bytes=0 then none else
  if (n+m)*(C.ty e0).bytes<=140737488355328 then
   cond (isExact x) (if zOf x=(C.ty e0).size then
    match Wn x (immOf S y) with
    |some c'=>K c' S
    |none=>none
   else none) none
  else none
  |_,_=>none
 |_=>none
def Ctx.appendW (C:Ctx) (t:Nat) (S:Store) (x y:V) (K:V->Store->Option R):Option R:=
 match (C.ty t).d with
 |
  .slice e0=>if C.bad e0 then none else
  match x with
  |
   .sview id ver lo n=>match S.getD id .dead with
   |.arr ver' g e c=>if ver'=ver/\zOf c=(C.ty e0).size then
     match lenV c,lenV (immOf S y) with
     |some N,some m=>if lo+n+m<=N/\lo<N then
       match Jb c (immOf S y) (lo+n) m with
       |some c'=>K (.sview id ver lo (n+m)) (S.set id (.arr ver g e c'))
       |none=>none
      else none
     |_,_=>none
    else none
   |_=>none
  |_=>none
 |_=>none
def Ctx.appendK (C:Ctx) (t:Nat) (S:Store) (x y:V) (K:V->Store->Option R):Option R:=
 match (C.ty t).d with
 |.slice e0=>if C.bad e0 then none else
  match lenOf S x,lenOf S y with
  |some n,some m=>
  if (C.ty e0).bytes=0 then none else
  if (n+m)*(C.ty e0).bytes<=140737488355328 then
   match x with
   |
    .sref id ver=>match S.getD id .dead with
    |.arr ver' true e c=>if ver'=ver/\e=e0/\zOf c=(C.ty e0).size then
      match Wn c (immOf S y) with
      |some c'=>K (unexact c') (S.set id (.imm ver c))
      |none=>none
     else none
    |_=>none
   |_=>none
  else none
  |_,_=>none
 |_=>none
def Qc2 (s:J1):V:=.ints false .u8 (s.map λc=>(c.toNat:Int))
def Qcf (n:Int):Bool:=decide (0<=n)&&decide (n<256)
def maxV (x y:V) (K:V->Option R):Option R:=
 match x,y with
 |.int k a,.int _ b=>K (.int k (if b>a then b else a))
 |_,_=>none
def minV (x y:V) (K:V->Option R):Option R:=
 match x,y with
 |.int k a,.int _ b=>K (.int k (if b<a then b else a))
 |_,_=>none
def midV (a k:Nat):V->V
 |.ints _ kk l=>.ints false kk ((l.drop a).take k)
 |.strs _ l=>.strs false ((l.drop a).take k)
 |.recs _ z l=>.recs false z ((l.drop a).take k)
 |v=>v
def dropV (a:Nat):V->V
 |.ints x kk l=>.ints x kk (l.drop a)
 |.strs x l=>.strs x (l.drop a)
 |.recs x z l=>.recs x z (l.drop a)
 |v=>v
def takeV (x:Bool) (k:Nat):V->V
 |.ints _ kk l=>.ints x kk (l.take k)
 |.strs _ l=>.strs x (l.take k)
 |.recs _ z l=>.recs x z (l.take k)
 |v=>v
def Qfw (n:Nat) (x:V) (lo hi mx:Option V) (K:V->Option R):Option R:=
 match lo,hi,mx with
 |some (.int _ a),some (.int _ b),none=>if 0<=a/\a<=b/\b<=(n:Int) then K (midV a.toNat (b.toNat-a.toNat) x) else none
 |some (.int _ a),none,none=>if 0<=a/\a<=(n:Int) then K (dropV a.toNat x) else none
 |none,some (.int _ b),none=>if 0<=b/\b<=(n:Int) then K (takeV false b.toNat x) else none
 |none,some (.int _ b),some (.int _ m)=>if 0<=b/\b<=m/\m<=(n:Int) then K (takeV (decide (b=m)) b.toNat x) else none
 |none,none,none=>K x
 |_,_,_=>none
def Qfz (n id ver:Nat) (lo hi mx:Option V) (K:V->Option R):Option R:=
 match lo,hi,mx with
 |none,some (.int _ b),none=>if 0<=b/\b<=(n:Int) then K (.sview id ver 0 b.toNat) else none
 |some (.int _ a),none,none=>if 0<=a/\a<=(n:Int) then K (.sview id ver a.toNat (n-a.toNat)) else none
 |some (.int _ a),some (.int _ b),none=>if 0<=a/\a<=b/\b<=(n:Int) then K (.sview id ver a.toNat (b.toNat-a.toNat)) else none
 |none,none,none=>K (.sref id ver)
 |some (.int _ a),some (.int _ b),some (.int _ m)=>if 0<=a/\a<=b/\b<=m/\m<=(n:Int) then K .undef else none
 |_,_,_=>none
def Qen (N id ver at0:Nat) (lo hi mx:Option V) (K:V->Option R):Option R:=
 match lo,hi,mx with
 |some (.int _ a),some (.int _ b),none=>if 0<=a/\a<=b/\(at0:Int)+b<=(N:Int) then K (.sview id ver (at0+a.toNat) (b.toNat-a.toNat)) else none
 |_,_,_=>none
def Ctx.sliceV (C:Ctx) (t:Nat) (S:Store) (x:V) (lo hi mx:Option V) (K:V->Option R):Option R:=
 match (C.ty t).d with
 |
  .str=>match x,lo,hi,mx with
  |.str s,some (.int _ a),some (.int _ b),none=>if 0<=a/\a<=b/\b<=(s.length:Int) then K (.str ((s.drop a.toNat).take (b.toNat-a.toNat))) else none
  |.str s,some (.int _ a),none,none=>if 0<=a/\a<=(s.length:Int) then K (.str (s.drop a.toNat)) else none
  |.str s,none,some (.int _ b),none=>if 0<=b/\b<=(s.length:Int) then K (.str (s.take b.toNat)) else none
  |_,_,_,_=>none
 |
  .slice e=>if C.bad e then none else
  match x with
  |
   .sref id ver=>match contentOf S id ver with
   |
    some c=>if (C.ty e).size=zOf c then (match lenV c with
    |some n=>Qfz n id ver lo hi mx K
    |none=>none) else none
   |none=>none
  |
   .sview id ver at0 _=>match contentOf S id ver with
   |
    some c=>if (C.ty e).size=zOf c then (match lenV c with
    |some N=>Qen N id ver at0 lo hi mx K
    |none=>none) else none
   |none=>none
  |
   x=>if (C.ty e).size=zOf x then (match lenV x with
   |some n=>Qfw n x lo hi mx K
   |none=>none) else none
 |_=>none
def Ctx.sliceArr (C:Ctx) (t:Nat) (S:Store) (x:V) (lo hi:Option V) (K:V->Option R):Option R:=
 match x,(C.ty t).d with
 |.ptr id 0,.array n e=>if C.bad e then none else
  match S.getD id .dead with
  |.arr ver false _ c=>if (C.ty e).size=zOf c then (match lenV c with
   |some m=>if m=n then (match lo,hi with
   |some (.int _ a),none=>if 0<=a/\a<=(n:Int) then K (.sview id ver a.toNat (n-a.toNat)) else none
   |none,some (.int _ b)=>if 0<=b/\b<=(n:Int) then K (.sview id ver 0 b.toNat) else none
   |some (.int _ a),some (.int _ b)=>if 0<=a/\a<=b/\b<=(n:Int) then K (.sview id ver a.toNat (b.toNat-a.toNat)) else none
   |none,none=>K (.sview id ver 0 n)
   |_,_=>none) else none
   |none=>none) else none
  |_=>none
 |_,_=>none
def Ctx.convertV (C:Ctx) (src dst:Nat) (S:Store) (x:V) (K:V->Store->Option R):Option R:=
 match (C.ty src).d,(C.ty dst).d,x with
 |.int _,.int k,.int _ n=>K (.int k (wr k n)) S
 |.str,.str,.str s=>K (.str s) S
 |.int _,.str,.int _ n=>K (.str (Utf8.encode n).data.toList) S
 |
  .str,.slice e,.str s=>match (C.ty e).d with
  |.int .u8=>if s.length<=140737488355328 then K (.sref S.length 0) (S++[.arr 0 false e (.ints true .u8 (s.map λc=>(c.toNat:Int)))]) else none
  |_=>none
 |
  .slice _,.slice e,.sref id ver=>match (C.ty e).d,S.getD id .dead with
  |.int .u8,.arr ver' false e' (.ints false .u8 l)=>if src=dst/\ver'=ver then K (.sref id ver) (S.set id (.arr ver' false e' (.ints true .u8 l))) else none
  |_,_=>none
 |
  .slice e,.str,x=>match (C.ty e).d,immOf S x with
  |.int .u8,.ints _ .u8 l=>K (.str (l.map λn=>UInt8.ofNat n.toNat)) S
  |_,_=>none
 |_,_,_=>none
def Ctx.zerosV (C:Ctx) (e n:Nat):Option V:=
 match (C.ty e).d,(C.ty e).zero with
 |.int k,[.int k' 0]=>if k=k' then some (.ints false k (List.replicate n 0)) else none
 |.str,[.str []]=>some (.strs false (List.replicate n []))
 |.int _,_=>none
 |.str,_=>none
 |.bad,_=>none
 |.tuple,_=>none
 |_,z=>if (C.ty e).size≠0/\z.all V.flatImm=true then some (.recs false (C.ty e).size (List.replicate n z)) else none
def Qlt (k:IntKind):V->Bool
 |.int k' 0=>decide (k=k')
 |_=>false
def Ctx.newBlk (C:Ctx) (t:Nat):Option Blk:=
 if C.bad t then none else
 match (C.ty t).d with
 |
  .array n e=>match (C.ty e).d with
  |.int k=>if n=(C.ty t).size/\n<=16777216/\(C.ty t).zero.all (Qlt k)=true then some (.arr 0 false t (.ints false k (List.replicate n 0))) else none
  |_=>some (.cells t (C.ty t).zero)
 |_=>some (.cells t (C.ty t).zero)
def Ctx.buildV (C:Ctx) (t:Nat) (parts:List (Nat×V)):Option V:=
 match (C.ty t).d with
 |.struct fs=>(Ja (Jr fs) (C.ty t).zero parts).map .agg
 |.array _ e=>if C.bad e=false then (Ja (λi=>some (i*(C.ty e).size,(C.ty e).size)) (C.ty t).zero parts).map .agg else none
 |_=>none
def rep (n:Nat) (l:List V):List V:=(List.replicate n l).flatten
def Ctx.buildSliceV (C:Ctx) (t len:Nat) (parts:List (Nat×V)):Option V:=
 match (C.ty t).d with
 |
  .slice e=>if C.bad e then none else match Ja (λi=>some (i*(C.ty e).size,(C.ty e).size)) (rep len (C.ty e).zero) parts with
  |some cells=>if len*(C.ty e).size<=16777216/\(C.ty e).size≠0 then
    match (C.ty e).d with
    |.int k=>(allInts k cells).map λl=>.ints true k l
    |.str=>(allStrs cells).map λl=>.strs true l
    |.bad=>none
    |_=>if cells.all V.flatImm then some (.recs true (C.ty e).size (chunks (C.ty e).size len cells)) else none
   else none
  |none=>none
 |_=>none
def Ctx.partType (C:Ctx) (t i:Nat):Nat:=
 match (C.ty t).d with
 |.struct fs=>((fs[i]?).map λx=>x.2.2).getD 0
 |.array _ e | .slice e=>e
 |_=>0
def Ctx.makeSliceV (C:Ctx) (t:Nat) (S:Store) (n:Int) (K:V->Store->Option R):Option R:=
 match (C.ty t).d with
 |.slice e=>if (C.ty e).bytes=0 then none else if 0<=n/\n*(C.ty e).bytes<=140737488355328 then
   match C.zerosV e n.toNat with
   |some c=>K (.sref S.length 0) (S++[.arr 0 false e c])
   |none=>none
  else none
 |_=>none
def Ctx.clearV (C:Ctx) (t:Nat) (S:Store) (x:V) (K:V->Store->Option R):Option R:=
 match (C.ty t).d with
 |
  .slice e0=>match x with
  |
   .sview id ver lo n=>match S.getD id .dead with
   |.arr ver' g e c=>if ver'=ver/\zOf c=(C.ty e0).size then (if 0<n then (match C.zerosV e0 n with
     |
      some y=>match Jb c y lo n with
      |some c'=>K (.tup []) (S.set id (.arr ver g e c'))
      |none=>none
     |none=>none) else none)
    else none
   |_=>none
  |_=>none
 |_=>none
abbrev Inl (R:Type):=Nat->List V->Store->(V->Store->Option R)->Option R
def noRef1:V->Bool
 |.sref _ _ | .sview _ _ _ _=>false
 |_=>true
def noRef (v:V):Bool:=(cellsOf v).all noRef1
def contentVal:V->Bool
 |.ints _ _ _ | .strs _ _ | .recs _ _ _=>true
 |_=>false
def imm1:V->Bool
 |.undef | .bool _ | .int _ _ | .flt _ | .str _ | .ints _ _ _ | .strs _ _ | .recs _ _ _ | .nilp | .nilf | .nili | .nilm | .nilsl=>true
 |.func _ []=>true
 |_=>false
def immV:V->Bool
 |.agg cs=>cs.all imm1
 |v=>imm1 v
def Ctx.callV (C:Ctx) (I:Inl R) (draw:Bool) (f:V) (args:List V) (S:Store) (K:V->Store->Option R):Option R:=
 match f with
 |
  .func g caps=>match C.inPl g with
  |some _=>I g (args++caps) S K
  |none=>match C.clone g with
   |
    some e=>match args,caps with
    |[x],[]=>if contentVal (immOf S x) then K (.sref S.length 0) (S++[.arr 0 true e (unexact (immOf S x))]) else none
    |_,_=>none
   |none=>match C.call g ((args++caps).map (immDeep S)) with
   |some p=>if (!draw||(args++caps).all noRef)&&((args++caps).map (immDeep S)).all immV then p.m.bind λr=>K (p.enc r) (Wa S (args++caps)) else none
   |none=>none
 |_=>none
def Ctx.invokeV (C:Ctx) (r:V) (m:String) (args:List V) (S:Store) (K:V->Store->Option R):Option R:=
 match r with
 |
  .iface t v=>match C.meth t m with
  |
   some g=>match C.inPl g with
   |some _=>none
   |
    none=>match C.clone g with
    |some _=>none
    |
     none=>match C.call g (v::args) with
     |some p=>if (v::args).all immV then p.m.bind λr=>K (p.enc r) S else none
     |none=>none
  |none=>none
 |_=>none
def Qjf:Operand->Operand->Bool
 |.tmp i,.tmp j=>decide (i=j)
 |.const (.int _ a),.const (.int _ b)=>decide (a=b)
 |_,_=>false
def isNilConst:Operand->Bool
 |.const (.slice none 0 0)=>true
 |_=>false
def Qip:V->Option (List V×V)
 |
  .agg cs=>match cs.getLast? with
  |some c=>if isExact c=true/\isNil c=true then some (cs.dropLast,c) else none
  |none=>none
 |_=>none
def Ctx.lastE (C:Ctx) (t:Nat):Nat:=C.elemT ((C.ty t).flat.getLastD 0)
def Ctx.evOp (C:Ctx) (I:Inl R) (draw:Bool) (o:Oper) (env:Env) (S:Store) (K:V->Store->Option R):Option R:=
 let ρ (t:Nat) (x:Operand):V:=C.opv env t x
 match o.op with
 |.move x=>K (ρ o.type x) S
 |.assign x=>if isNilConst x then (match unexact (C.emptyOf o.type) with | .undef=>none|c=>K (.sref S.length 0) (S++[.arr 0 true (C.elemT o.type) c])) else K (ρ o.type x) S
 |
  .pick c a b=>match ρ 0 c with
  |
   .bool c=>match ρ o.type a,ρ o.type b with
   |.bool x,.bool y=>K (.bool (cond c x y)) S
   |x,y=>cond c (K x S) (K y S)
  |_=>none
 |
  .alloc e=>match C.newBlk e with
  |some b=>K (.ptr S.length 0) (S++[b])
  |none=>none
 |.box e x=>if (ρ e x).isU=false/\(cellsOf (ρ e x)).length=(C.ty e).size then K (.ptr S.length 0) (S++[.cells e (cellsOf (ρ e x))]) else none
 |
  .build t parts=>match C.buildV t (parts.toList.map λp=>(p.1,ρ (C.partType t p.1) p.2)) with
  |
   some v=>cond (C.ownD o.dst) (match Qip v with
   |some p=>K (.agg (p.1++[.sref S.length 0])) (S++[.arr 0 true (C.lastE t) (unexact p.2)])
   |none=>none) (K v S)
  |none=>none
 |.buildSlice t len parts=>if (parts.toList.map λp=>ρ (C.partType t p.1) p.2).all noRef then
   (match C.buildSliceV t len (parts.toList.map λp=>(p.1,ρ (C.partType t p.1) p.2)) with
    |some v=>cond (C.ownD o.dst) (K (.sref S.length 0) (S++[.arr 0 false (C.elemT t) (unexact v)])) (K v S)
    |none=>none)
   else if draw then none else
   match C.buildSliceV t len (parts.toList.map λp=>(p.1,immDeep S (ρ (C.partType t p.1) p.2))) with
    |some v=>K v (Wa S (parts.toList.map λp=>ρ (C.partType t p.1) p.2))
    |none=>none
 |.load t a=>C.loadV t S (ρ 0 a) λv=>K v S
 |.store t a x=>C.storeV t S (ρ 0 a) (ρ t x) λS'=>K (.tup []) S'
 |
  .nilCheck x=>match ρ 0 x with
  |.ptr id off=>if (S.getD id .dead).fix then K (.ptr id off) S else none
  |.eptr id ver i off=>if (contentOf S id ver).isSome then K (.eptr id ver i off) S else none
  |.cptr cs=>K (.cptr cs) S
  |.func f cs=>K (.func f cs) S
  |_=>none
 |.binOp op t x y _=>C.binOpV op t S (ρ t x) (ρ t y) λv=>K v S
 |
  .unOp op _ x=>match op,ρ 0 x with
  |.neg,.int k n=>K (.int k (wr k (0-n))) S
  |.not,.bool b=>K (.bool (!b)) S
  |_,_=>none
 |.convert src dst x=>C.convertV src dst S (ρ src x) K
 |
  .makeFunc fn first captured=>match fn with
  |.func f=>if first.size=0 then K (.func f (captured.toList.map (ρ 0))) S else none
  |_=>none
 |
  .makeInterface t x=>match (C.ty t).d with
  |.struct _=>if immV (ρ t x) then K (.iface t (ρ t x)) S else none
  |_=>none
 |.makeSlice t l c=>if Qjf l c then (match ρ 0 l with
   |.int _ n=>C.makeSliceV t S n K
   |_=>none) else none
 |
  .slice t x lo hi mx=>match (C.ty t).d with
  |.array _ _=>if mx.isNone then C.sliceArr t S (ρ 0 x) (lo.map (ρ 0)) (hi.map (ρ 0)) λv=>K v S else none
  |_=>C.sliceV t S (ρ t x) (lo.map (ρ 0)) (hi.map (ρ 0)) (mx.map (ρ 0)) λv=>K v S
 |
  .fieldAddr t x f=>match (C.ty t).d with
  |
   .struct fs=>match Jr fs f with
   |
    some (off,size)=>if size=0 then none else match ρ 0 x with
    |.ptr id o=>if (S.getD id .dead).fix then K (.ptr id (o+off)) S else none
    |.cptr cs=>K (.cptr (cs.drop off)) S
    |.eptr id ver i o=>if (contentOf S id ver).isSome then K (.eptr id ver i (o+off)) S else none
    |_=>none
   |none=>none
  |_=>none
 |
  .field t x f=>match (C.ty t).d with
  |
   .struct fs=>match Jr fs f,ρ t x with
   |some (off,size),.agg cs=>if off+size<=cs.length/\C.bad (C.partType t f)=false then K (Wl (C.isAgg (C.partType t f)) ((cs.drop off).take size)) S else none
   |_,_=>none
  |_=>none
 |.indexAddr t x ix=>C.indexAddrV t S (ρ t x) (ρ 0 ix) λv=>K v S
 |
  .index t x ix=>match ρ t x,ρ 0 ix with
  |
   .str s,.int _ i=>match (C.ty t).d with
   |.str=>if 0<=i/\i<(s.length:Int) then K (.int .u8 ((s.getD i.toNat 0).toNat:Int)) S else none
   |_=>none
  |
   .agg cs,.int _ i=>match (C.ty t).d with
   |.array n e=>if 0<=i/\i<(n:Int) then (if (C.ty e).size=1/\C.isAgg e=false/\C.bad e=false/\n<=cs.length then C.cast e (cs.getD i.toNat .undef) λv=>K v S else none) else none
   |_=>none
  |_,_=>none
 |
  .range t x=>match (C.ty t).d,ρ t x with
  |.str,.str s=>K (.ptr S.length 0) (S++[.siter s 0])
  |_,_=>none
 |
  .next it true=>match ρ 0 it with
  |
   .ptr id 0=>match S.getD id .dead with
   |.siter s pos=>if pos<s.length then
     K (.tup [.bool true,.int .i64 pos,.int .i32 (Utf8.decode ⟨s.toArray⟩ pos).1]) (S.set id (.siter s (pos+(Utf8.decode ⟨s.toArray⟩ pos).2)))
     else K (.tup [.bool false]) S
   |_=>none
  |_=>none
 |
  .extract x i=>match ρ 0 x with
  |
   .tup vs=>match vs[i]? with
   |some v=>K v S
   |none=>none
  |_=>none
 |
  .call c=>match c.callee with
  |.value f=>C.callV I draw (ρ 0 f) (c.args.toList.zipIdx.map λp=>ρ (c.argTypes.getD p.2 0) p.1) S K
  |
   .builtin b=>match b,c.argTypes.toList,c.args.toList.zipIdx.map λp=>ρ (c.argTypes.getD p.2 0) p.1 with
   |
    .len,[t],[x]=>match (C.ty t).d,x with
    |.str,.str s=>K (.int .i64 s.length) S
    |
     .slice _,x=>match lenOf S (J7 x) with
     |some n=>K (.int .i64 n) S
     |none=>none
    |_,_=>none
   |
    .append,[t,u],[x,y]=>cond (C.keepD o.dst) (match (C.ty u).d with
    |
     .slice _=>match x with
     |.sref _ _=>cond draw none (C.appendK t S x y K)
     |.sview _ _ _ _=>C.appendW t S x y K
     |x=>C.appendX t S x y K
    |_=>none) <| match (C.ty u).d with
    |.slice _=>C.appendV t S (J7 x) y K
    |
     .str=>match y with
     |.str s=>C.appendV t S (J7 x) (Qc2 s) K
     |_=>none
    |_=>none
   |.max,_,[x,y]=>maxV x y λv=>K v S
   |.min,_,[x,y]=>minV x y λv=>K v S
   |.copy,[t,_],[x,y]=>C.copyV t S x y K
   |.clear,[t],[x]=>C.clearV t S x K
   |
    .unsafeSliceData,[_],[x]=>match x with
    |
     .sref id ver=>match S.getD id .dead with
     |
      .arr ver' _ _ c=>if ver'=ver then (match lenV c with
      |some n=>if 0<n then K (.eptr id ver 0 0) S else none
      |none=>none) else none
     |_=>none
    |.nilsl=>K .nilp S
    |_=>none
   |
    .unsafeString,[t,_],[x,y]=>match x,y with
    |
     .eptr id ver 0 0,.int .i64 n=>match (C.ty t).d,S.getD id .dead with
     |.ptr e,.arr ver' true e' (.ints _ .u8 l)=>if ver'=ver/\e'=e/\C.bad e=false/\(C.ty e).size=1 then (if n=(l.length:Int)/\0<l.length/\l.all Qcf=true then K (.str (l.map λn=>UInt8.ofNat n.toNat)) (S.set id .dead) else none) else none
     |_,_=>none
    |.nilp,.int .i64 n=>if n=0 then K (.str []) S else none
    |_,_=>none
   |_,_,_=>none
  |.invoke r m=>C.invokeV (ρ 0 r) m (c.args.toList.zipIdx.map λp=>ρ (c.argTypes.getD p.2 0) p.1) S K
 |_=>none
def guardSlot (ops:Array Oper) (j:Nat):Option Nat:=(ops[j]?).bind (·.dst)
def Ctx.evOps (C:Ctx) (I:Inl R) (draw:Bool) (ops:Array Oper):List Oper->Env->Store->(Env->Store->Option R)->Option R
 |[],env,S,K=>K env S
 |
  o::rest,env,S,K=>
  match o.guard with
  |none=>C.evOp I draw o env S λv S'=>C.evOps I draw ops rest (put env o.dst v) S' K
  |
   some (j,want)=>match guardSlot ops j with
   |none=>none
   |
    some g=>match env.getD g .undef with
    |.bool b=>cond b
      (cond want (C.evOp I draw o (env.set g (.bool true)) S λv S'=>C.evOps I draw ops rest (put (env.set g (.bool true)) o.dst v) S' K)
       (C.evOps I draw ops rest (put (env.set g (.bool true)) o.dst (.tup [])) S K))
      (cond want (C.evOps I draw ops rest (put (env.set g (.bool false)) o.dst (.tup [])) S K)
       (C.evOp I draw o (env.set g (.bool false)) S λv S'=>C.evOps I draw ops rest (put (env.set g (.bool false)) o.dst v) S' K))
    |.tup []=>C.evOps I draw ops rest (put env o.dst (.tup [])) S K
    |_=>none
def opW (C:Ctx) (o:Oper) (env:Env) (S:Store):List Nat:=
 match o.op with
 |.store _ a _=>refs1 (C.opv env 0 a)
 |.alloc _ | .box _ _ | .makeSlice _ _ _ | .range _ _=>[S.length]
 |.assign x=>if isNilConst x then [S.length] else []
 |.next it _=>refs1 (C.opv env 0 it)
 |.buildSlice _ _ _ | .build _ _=>if C.ownD o.dst then [S.length] else []
 |
  .convert s t x=>match (C.ty t).d with
  |.slice _=>S.length::refs1 (C.opv env s x)
  |_=>[]
 |
  .call c=>match c.callee with
  |.builtin .append=>(c.args.toList.zipIdx.map λp=>C.opv env (c.argTypes.getD p.2 0) p.1).flatMap refs1++[S.length]
  |.builtin .clear=>(c.args.toList.zipIdx.map λp=>C.opv env (c.argTypes.getD p.2 0) p.1).flatMap refs1
  |.builtin .copy=>(c.args.toList.zipIdx.map λp=>C.opv env (c.argTypes.getD p.2 0) p.1).flatMap refs1
  |.builtin .unsafeString=>(c.args.toList.zipIdx.map λp=>C.opv env (c.argTypes.getD p.2 0) p.1).flatMap refs1
  |
   .value f=>match C.opv env 0 f with
   |.func g _=>if (C.clone g).isSome then [S.length] else []
   |_=>[]
  |_=>[]
 |_=>[]
def isInl (C:Ctx) (o:Oper) (env:Env):Bool:=
 match o.op with
 |
  .call c=>match c.callee with
  |
   .value f=>match C.opv env 0 f with
   |.func g _=>(C.inPl g).isSome
   |_=>false
  |_=>false
 |_=>false
def isMv:Op->Bool
 |.move _=>true
 |_=>false
def opR (C:Ctx) (o:Oper) (env:Env):List Nat:=bif isMv o.op then [] else o.op.operands.toList.flatMap λx=>refs1 (C.opv env 0 x)
def tb (m n:Nat):Bool:=Nat.beq (Nat.land (Nat.shiftRight m n) 1) 1
abbrev RowP:=Nat×List (Nat×Nat)×Nat
abbrev Plan:=List RowP×Nat
def pA (pl:Plan) (i:Nat):Nat:=(pl.1.getD i (0,[],0)).2.2
def ancM (pl:Plan):List Edge->Nat
 |[]=>0
 |e::r=>bif Region.binds .any e then Nat.lor (Nat.lor (Nat.shiftLeft 1 e.on) (pA pl e.on)) (ancM pl r) else ancM pl r
def Qa6 (ops:Array Oper) (pl:Plan) (i:Nat) (o:Oper) (r:RowP):Bool:=
 Nat.beq r.2.2 (ancM pl o.after.toList)&&o.after.toList.all (λe=>!Region.binds .any e||Nat.blt e.on i) &&
 (match o.dst with|none=>Nat.beq r.1 0|some d=>Nat.beq r.1 (d+1)) &&
 (o.looksAt ops).all (λt=>r.2.1.any λtq=>Nat.beq tq.1 t) &&
 r.2.1.all λtq=>match tq.2 with
  |0=>!tb pl.2 tq.1
  |q+1=>Nat.beq (pl.1.getD q (0,[],0)).1 (tq.1+1)&&(Nat.beq q i||(Nat.blt q i&&tb r.2.2 q)||(Nat.blt i q&&tb (pA pl q) i))
def Qds (ops:Array Oper) (pl:Plan):Nat->List Oper->List RowP->Bool
 |i,o::os,r::rs=>Qa6 ops pl i o r&&Qds ops pl (i+1) os rs
 |_,[],[]=>true
 |_,_,_=>false
def Qb9:List RowP->Nat->Nat->Bool
 |[],seen,D=>Nat.beq seen D
 |
  r::rs,seen,D=>match r.1 with
  |0=>Qb9 rs seen D
  |d+1=>!tb seen d&&Qb9 rs (Nat.lor seen (Nat.shiftLeft 1 d)) D
def J3 (ops:Array Oper) (pl:Plan):Bool:=Qds ops pl 0 ops.toList pl.1&&Qb9 pl.1 0 pl.2
def disj (a b:List Nat):Bool:=a.all λx=>!b.contains x
def Qju (p:List Nat×List Nat×Bool):Bool:=p.1.isEmpty&&p.2.1.isEmpty && !p.2.2
def confOK (anc:Nat):Nat->List (List Nat×List Nat×Bool)->List Nat->List Nat->Bool->Bool
 |k+1,p::r,rd,wr,bar=>(tb anc k||(Qju (rd,wr,bar)||(Qju p||(!bar && !p.2.2&&disj wr p.1&&disj wr p.2.1&&disj rd p.2.1))))&&confOK anc k r rd wr bar
 |_,_,_,_,_=>true
def Ctx.evOpsD (C:Ctx) (I:Inl R) (ops:Array Oper) (A:Plan):List Oper->Nat->List (List Nat×List Nat×Bool)->Env->Store->(Env->Store->Option R)->Option R
 |[],_,_,env,S,K=>K env S
 |
  o::rest,i,acc,env,S,K=>
  if confOK (pA A i) i acc (opR C o env) (opW C o env S) (isInl C o env) then
  match o.guard with
  |none=>C.evOp I true o env S λv S'=>C.evOpsD I ops A rest (i+1) ((opR C o env,opW C o env S,isInl C o env)::acc) (put env o.dst v) S' K
  |
   some (j,want)=>match guardSlot ops j with
   |none=>none
   |
    some g=>match env.getD g .undef with
    |.bool b=>cond b
      (cond want (C.evOp I true o (env.set g (.bool true)) S λv S'=>C.evOpsD I ops A rest (i+1) ((opR C o env,opW C o env S,isInl C o env)::acc) (put (env.set g (.bool true)) o.dst v) S' K)
       (C.evOpsD I ops A rest (i+1) (([],[],false)::acc) (put (env.set g (.bool true)) o.dst (.tup [])) S K))
      (cond want (C.evOpsD I ops A rest (i+1) (([],[],false)::acc) (put (env.set g (.bool false)) o.dst (.tup [])) S K)
       (C.evOp I true o (env.set g (.bool false)) S λv S'=>C.evOpsD I ops A rest (i+1) ((opR C o env,opW C o env S,isInl C o env)::acc) (put (env.set g (.bool false)) o.dst v) S' K))
    |.tup []=>C.evOpsD I ops A rest (i+1) (([],[],false)::acc) (put env o.dst (.tup [])) S K
    |_=>none
  else none
def cur (S:Store) (id ver:Nat):Bool:=
 match S.getD id .dead with
 |.arr v _ _ _=>decide (v=ver)
 |.imm v _=>decide (v=ver)
 |_=>false
def norm1 (base n:Nat) (S:Store):V->V
 |.ptr id off=>if id<n then .ptr id off else .undef
 |.eptr _ _ _ _=>.undef
 |.sref id ver=>if id<n then (if cur S id ver then .sref id (bif Nat.blt id base then ver else 0) else .undef) else .undef
 |.sview id ver lo len=>if id<n then (if cur S id ver then .sview id (bif Nat.blt id base then ver else 0) lo len else .undef) else .undef
 |.agg _=>.undef
 |.tup _=>.undef
 |.ints _ k l=>.ints false k l
 |.strs _ l=>.strs false l
 |.recs _ z l=>.recs false z l
 |
  .func f cs=>match cs with
  |[]=>.func f []
  |_=>.undef
 |.iface _ _=>.undef
 |v=>v
def Qmb (base n:Nat) (S:Store):V->V
 |.agg cs=>.agg (cs.map (norm1 base n S))
 |.func f cs=>.func f (cs.map (norm1 base n S))
 |v=>norm1 base n S v
def normBlk (base n:Nat) (S:Store) (old:Bool):Blk->Blk
 |.cells t cs=>.cells t (cs.map (norm1 base n S))
 |.arr ver g e c=>.arr (bif old then ver else 0) g e c
 |.imm ver c=>.imm (bif old then ver else 0) c
 |b=>b
def Q4 (base n:Nat) (keep:List Nat) (S:Store):Nat->Store->Store
 |_,[]=>[]
 |i,b::bs=>(bif Nat.blt i base then normBlk base n S true b else if keep.contains i then normBlk base n S false b else .dead)::Q4 base n keep S (i+1) bs
def Yi (keep:List Nat):Nat->Env->Env
 |_,[]=>[]
 |i,v::vs=>(if keep.contains i then v else .undef)::Yi keep (i+1) vs
def immSlots:List Nat->Env->Store->Env
 |[],env,_=>env
 |t::ts,env,S=>immSlots ts (env.set t (immOf S (env.getD t .undef))) S
def Qcg (base n:Nat) (keep:List Nat×List Nat) (env:Env) (S:Store):Env×Store:=
 ((Yi keep.1 0 env).map (Qmb base n S),Q4 base n keep.2 S 0 (S.take n))
def norm (base n:Nat) (keep:List Nat×List Nat×List Nat) (env:Env) (S:Store):Env×Store:=
 Qcg base n (keep.1,keep.2.1) (immSlots keep.2.2 env S) (Wa S (keep.2.2.map λt=>env.getD t .undef))
def ren1 (f t:Nat):V->V
 |.ptr id off=>if id=f then .ptr t off else if id=t then .undef else .ptr id off
 |.eptr id ver i off=>if id=f then .eptr t ver i off else if id=t then .undef else .eptr id ver i off
 |.sref id ver=>if id=f then .sref t ver else if id=t then .undef else .sref id ver
 |.sview id ver lo len=>if id=f then .sview t ver lo len else if id=t then .undef else .sview id ver lo len
 |.agg _=>.undef
 |.tup _=>.undef
 |
  .func g cs=>match cs with
  |[]=>.func g []
  |_=>.undef
 |.iface _ _=>.undef
 |v=>v
def Qhs (f t:Nat):V->V
 |.agg cs=>.agg (cs.map (ren1 f t))
 |.func g cs=>.func g (cs.map (ren1 f t))
 |v=>ren1 f t v
def renB (f t:Nat):Blk->Blk
 |.cells u cs=>.cells u (cs.map (ren1 f t))
 |b=>b
def renS (f t:Nat) (S:Store):Store:=((S.map (renB f t)).set t (renB f t (S.getD f .dead))).set f .dead
def Ju (base:Nat):List (Nat×Nat)->Env->Store->Env×Store
 |[],env,S=>(env,S)
 |
  (s,k)::r,env,S=>match env.getD s .undef with
  |.ptr f 0=>if f≠base+k/\base<=f/\f<S.length/\base+k<S.length then Ju base r (env.map (Qhs f (base+k))) (renS f (base+k) S) else Ju base r env S
  |_=>Ju base r env S
def We {σ:Type} (F:(σ->Option R)->σ->Option R):Nat->σ->Option R
 |0,_=>none
 |n+1,x=>F (We F n) x
def Qbf {σ:Type} (F:(σ->Option R)->σ->Option R) (k:σ->Option R):Nat->σ->Option R
 |0,x=>k x
 |n+1,x=>F (Qbf F k n) x
def lfp {σ:Type} (F:(σ->Option R)->σ->Option R) (x:σ):Option R:=
 open Classical in if h:∃n,(We F n x).isSome then We F (Classical.choose h) x else none
abbrev Kont (R:Type):=X->Env->Store->Option R
def Kont.seq (k:Env->Store->Option R) (K:Kont R):Kont R
 |.normal,env,S=>k env S
 |.goto l,env,S=>K (.goto l) env S
 |.exit i,env,S=>K (.exit i) env S
 |.ret,env,S=>K .ret env S
def Kont.block (id:Nat) (K:Kont R):Kont R
 |.exit i,env,S=>if i=id then K .normal env S else K (.exit i) env S
 |.normal,env,S=>K .normal env S
 |.ret,env,S=>K .ret env S
 |.goto l,env,S=>K (.goto l) env S
def Kont.noGoto (K:Kont R):Kont R
 |.normal,env,S=>K .normal env S
 |.exit i,env,S=>K (.exit i) env S
 |.ret,env,S=>K .ret env S
 |.goto _,_,_=>none
def Ctx.evK (C:Ctx) (I:Inl R) (fid base:Nat):Code->Env->Store->Kont R->Option R
 |.skip,env,S,K=>K .normal env S
 |.region id ops draw,env,S,K=>cond draw (if J3 ops (C.draws fid id) then C.evOpsD I ops (C.draws fid id) ops.toList 0 [] env S λenv S=>K .normal env S else none)
   (C.evOps I false ops ops.toList env S λenv S=>K .normal env S)
 |.seq a b,env,S,K=>C.evK I fid base a env S (Kont.seq (λenv S=>C.evK I fid base b env S K) K)
 |
  .cond c t e,env,S,K=>match C.opv env 0 c with
  |.bool b=>cond b (C.evK I fid base t env S K) (C.evK I fid base e env S K)
  |_=>none
 |
  .block id (.loop b),env,S,K=>
  Qbf
    (λ(rec:Env×Store->Option R) st=>
    C.evK I fid base b st.1 st.2 (Kont.seq (λenv' S'=>rec (env',S')) (Kont.block id K)))
   (λst=>match C.L fid id base (norm base st.2.length (C.keep fid id) st.1 st.2) with
   |some (.one _ m out)=>m.bind λo=>Kont.block id K (out o).1 (out o).2.1 (out o).2.2
   |
    some (.two _ _ m out out')=>m.bind λo=>match o with
    |.inl o=>Kont.block id K (out o).1 (out o).2.1 (out o).2.2
    |.inr o=>Kont.block id K (out' o).1 (out' o).2.1 (out' o).2.2
   |none=>none) (C.unroll fid id) (env,S)
 |.block id body,env,S,K=>C.evK I fid base body env S (Kont.block id K)
 |.scope c,env,S,K=>C.evK I fid base c env S (Kont.noGoto K)
 |.ret,env,S,K=>K .ret env S
 |.exit id,env,S,K=>K (.exit id) env S
 |.label _,env,S,K=>K .normal env S
 |.goto l,env,S,K=>K (.goto l) env S
 |_,_,_,_=>none
def Ctx.gotoK (C:Ctx) (I:Inl R) (fid base:Nat) (c:Code) (K:Kont R):Nat->Kont R
 |0,.goto _,_,_=>none
 |
  n+1,.goto l,env,S=>if l=0 then (match findLabel c 0 with
  |some rest=>C.evK I fid base rest env S (C.gotoK I fid base c K n)
  |none=>none) else none
 |_,.normal,env,S=>K .normal env S
 |_,.exit i,env,S=>K (.exit i) env S
 |_,.ret,env,S=>K .ret env S
def Ctx.evS (C:Ctx) (I:Inl R) (fid base:Nat) (c:Code) (env:Env) (S:Store) (K:Kont R):Option R:=
 C.evK I fid base c env S (C.gotoK I fid base c K (C.unroll fid 1000000))
def Ctx.evB (C:Ctx) (I:Inl R) (fid base:Nat) (c:Code) (env:Env) (S:Store) (K:Kont R):Option R:=match c with
 |.scope c=>C.evS I fid base c env S K
 |.seq x (.scope c)=>C.evK I fid base x env S (Kont.seq (λenv S=>C.evS I fid base c env S K) K)
 |c=>C.evK I fid base c env S K
def Ctx.resK (C:Ctx) (env:Env) (S:Store):List ResultVar->(List V->Option R)->Option R
 |[],K=>K []
 |.tmp t::r,K=>C.resK env S r λvs=>K (env.getD t .undef::vs)
 |.cell a t::r,K=>C.loadV t S (env.getD a .undef) λv=>C.resK env S r λvs=>K (v::vs)
def one:List V->V
 |[v]=>v
 |vs=>.tup vs
def Ctx.outK (C:Ctx) (rs:List ResultVar) (k:List V->Store->Option R):Kont R
 |.exit _,_,_=>none
 |.goto _,_,_=>none
 |.normal,env,S=>C.resK env S rs λvs=>k vs S
 |.ret,env,S=>C.resK env S rs λvs=>k vs S
def Ctx.inlK (C:Ctx):Nat->Inl R
 |0,_,_,_,_=>none
 |
  d+1,f,args,S,K=>match C.prim f with
  |some h=>h R args S K
  |
   none=>bif Nat.beq (C.rank f) d then (match C.inl f with
   |none=>none
   |some fn=>C.evB (C.inlK d) f S.length fn.body (args++List.replicate (fn.ntmps-args.length) .undef) S (C.outK fn.results λvs S'=>K (one vs) S'))
   else C.inlK d f args S K
def Ctx.evTop (C:Ctx) (f:Nat) (fn:IFun) (args:List V) (dec:V->Option R):Option R:=
 C.evB (C.inlK 6) f 0 fn.body (args++List.replicate (fn.ntmps-args.length) .undef) [] (C.outK fn.results λvs S=>dec (one (vs.map (immDeep S))))
def Ctx.loopPI (C:Ctx) (I:Inl R) (fid id base:Nat) (b:Code) (n:Nat) (k:Env×Store->Option R) (d:X×Env×Store->Option R) (st:Env×Store):Option R:=
 C.evK I fid base b st.1 st.2 λe env S=>
  match e with
  |.normal=>k (norm base n (C.keep fid id) (Ju base (C.moves fid id) env S).1 (Ju base (C.moves fid id) env S).2)
  |.exit i=>d (.exit i,norm base n (C.keepE fid id) env S)
  |.ret=>d (.ret,norm base n (C.keepR fid id) env S)
  |.goto _=>none
def Ctx.loopG (C:Ctx) (I:Inl (X×Env×Store)) (fid id base:Nat) (b:Code) (n:Nat) (rec:Env×Store->Option (X×Env×Store)) (st:Env×Store):Option (X×Env×Store):=
 C.loopPI I fid id base b n rec some st
def loopList:Code->List (Nat×Code)
 |.seq a b=>loopList a++loopList b
 |.cond _ a b=>loopList a++loopList b
 |.block i (.loop b)=>(i,b)::loopList b
 |.block _ b=>loopList b
 |.scope b=>loopList b
 |_=>[]
def Ql (id:Nat) (c:Code):Code:=((loopList c).lookup id).getD .skip
def Qq (c:Code):Bool:=go (loopList c)
where go:List (Nat×Code)->Bool
 |[]=>true
 |p::r=>(!(r.any λq=>Nat.beq q.1 p.1))&&go r
inductive Leaf where
 |b (x:Bool)|i (x:Int)|n (x:Nat)|s (x:List UInt8)|li (x:List Int)|ls (x:List (List UInt8))|lr (x:List (List V))
mutual
def matchV:V->V->Option (List Leaf)
 |.undef,.undef=>some []
 |.bool _,.bool b=>some [.b b]
 |.int k _,.int k' n=>if k=k' then some [.i n] else none
 |.flt _,.flt n=>some [.n n]
 |.str _,.str s=>some [.s s]
 |.ints x k _,.ints x' k' l=>if x=x'/\k=k' then some [.li l] else none
 |.strs x _,.strs x' l=>if x=x' then some [.ls l] else none
 |.recs x z _,.recs x' z' l=>if x=x'/\z=z' then some [.lr l] else none
 |.nilp,.nilp=>some []
 |.ptr id off,.ptr id' off'=>if id=id'/\off=off' then some [] else none
 |.sref id ver,.sref id' ver'=>if id=id'/\ver=ver' then some [] else none
 |.sview id ver _ _,.sview id' ver' lo len=>if id=id'/\ver=ver' then some [.n lo,.n len] else none
 |.agg cs,.agg cs'=>Y7 cs cs'
 |.cptr cs,.cptr cs'=>Y7 cs cs'
 |.func f cs,.func f' cs'=>if f=f' then Y7 cs cs' else none
 |.nilf,.nilf=>some []
 |.nili,.nili=>some []
 |.nilm,.nilm=>some []
 |.nilsl,.nilsl=>some []
 |_,_=>none
def Y7:List V->List V->Option (List Leaf)
 |[],[]=>some []
 |
  v::vs,u::us=>match matchV v u,Y7 vs us with
  |some a,some b=>some (a++b)
  |_,_=>none
 |_,_=>none
end
def matchB:Blk->Blk->Option (List Leaf)
 |.cells t cs,.cells t' cs'=>if t=t' then Y7 cs cs' else none
 |.arr ver g e c,.arr ver' g' e' c'=>if ver=ver'/\g=g'/\e=e' then matchV c c' else none
 |.imm ver c,.imm ver' c'=>if ver=ver' then matchV c c' else none
 |.siter _ _,.siter s pos=>some [.s s,.n pos]
 |.dead,.dead=>some []
 |_,_=>none
def Qbl:Store->Store->Option (List Leaf)
 |[],[]=>some []
 |
  v::vs,u::us=>match matchB v u,Qbl vs us with
  |some a,some b=>some (a++b)
  |_,_=>none
 |_,_=>none
def Qdu (f st:Env×Store):Option (List Leaf):=
 match Y7 f.1 st.1,Qbl f.2 st.2 with
 |some a,some b=>some (a++b)
 |_,_=>none
mutual
def fillF:V->List Leaf->V×List Leaf
 |.bool _,.b b::r=>(.bool b,r)
 |.int k _,.i n::r=>(.int k n,r)
 |.flt _,.n n::r=>(.flt n,r)
 |.str _,.s s::r=>(.str s,r)
 |.ints x k _,.li l::r=>(.ints x k l,r)
 |.strs x _,.ls l::r=>(.strs x l,r)
 |.recs x z _,.lr l::r=>(.recs x z l,r)
 |.sview id ver _ _,.n lo :: .n len::r=>(.sview id ver lo len,r)
 |.agg cs,r=>(.agg (fillFL cs r).1,(fillFL cs r).2)
 |.cptr cs,r=>(.cptr (fillFL cs r).1,(fillFL cs r).2)
 |.func f cs,r=>(.func f (fillFL cs r).1,(fillFL cs r).2)
 |v,r=>(v,r)
def fillFL:List V->List Leaf->List V×List Leaf
 |[],r=>([],r)
 |v::vs,r=>((fillF v r).1::(fillFL vs (fillF v r).2).1,(fillFL vs (fillF v r).2).2)
end
def fillB:Blk->List Leaf->Blk×List Leaf
 |.cells t cs,r=>(.cells t (fillFL cs r).1,(fillFL cs r).2)
 |.arr ver g e c,r=>(.arr ver g e (fillF c r).1,(fillF c r).2)
 |.imm ver c,r=>(.imm ver (fillF c r).1,(fillF c r).2)
 |.siter _ _,.s s :: .n pos::r=>(.siter s pos,r)
 |v,r=>(v,r)
def fillS:Store->List Leaf->Store×List Leaf
 |[],r=>([],r)
 |v::vs,r=>((fillB v r).1::(fillS vs (fillB v r).2).1,(fillS vs (fillB v r).2).2)
def Qf (f:Env×Store) (r:List Leaf):Env×Store:=
 ((fillFL f.1 r).1,(fillS f.2 (fillFL f.1 r).2).1)
end
end Go.Proofs.YtihfdjkjpncjfaaGreatDoor.A
end
section
namespace Go.Proofs.YtihfdjkjpncjfaaGreatDoor.A
open Go Go.RowKit
def flatV:V->Option (Nat×List V)
 |.ints _ k l=>some (l.length,l.map (.int k))
 |.strs _ l=>some (l.length,l.map .str)
 |.recs _ z l=>if 0<z/\∀e∈l,e.length=z then some (l.length,l.flatten) else none
 |_=>none
theorem Qd0 {α:Type} (z:Nat):∀l:List (List α),(∀e∈l,e.length=z)->l.flatten.length=l.length*z
 |[],_=>by simp
 |
  e::l,h=>by
  have h1:=h e (by simp);have h2:=Qd0 z l λx hx=>h x (by simp [hx])
  simp only [Z58,Z10,Z9,h1,h2,Z19,Z70];omega
theorem Qj {v:V} {n:Nat} {fl:List V} (h:flatV v=some (n,fl)):fl.length=n*zOf v/\lenV v=some n:=by
 unfold flatV at h
 split at h
 ·simp only [Zs,Z2] at h;obtain ⟨rfl,rfl⟩:=h;simp [zOf,lenV]
 ·simp only [Zs,Z2] at h;obtain ⟨rfl,rfl⟩:=h;simp [zOf,lenV]
 ·rename_i x z l
  by_cases hz:0<z/\∀e∈l,e.length=z
  ·rw [if_pos hz] at h
   simp only [Zs,Z2] at h;obtain ⟨rfl,rfl⟩:=h
   exact ⟨by simp only [zOf];exact Qd0 z l hz.2,rfl⟩
  ·rw [if_neg hz] at h;simp at h
 ·simp at h
inductive Rep0 (O:Nat->Prop) (w:World):Value->V->Prop where
 |undef (cv:Value):Rep0 O w cv .undef
 |bool (b:Bool):Rep0 O w (.bool b) (.bool b)
 |int (k:IntKind) (n:Int):Rep0 O w (.int k n) (.int k n)
 |flt (b:Nat):Rep0 O w (.float .f64 b) (.flt b)
 |str (s:ByteArray) (l:List UInt8) (h:s.data.toList=l):Rep0 O w (.string s) (.str l)
 |nilp:Rep0 O w (.pointer none) .nilp
 |nilf:Rep0 O w .nilFunc .nilf
 |nili:Rep0 O w .nilIface .nili
 |nilm:Rep0 O w (.map none) .nilm
 |nilsl:Rep0 O w (.slice none 0 0) .nilsl
 |func (f:FuncId):Rep0 O w (.func (.func f) #[] #[]) (.func f [])
 |slice (A:Option Addr) (n cap:Nat) (v:V) (fl:List V) (cf:Nat->Value) (hf:flatV v=some (n,fl)) (hx:isExact v=true->cap=n) (hle:n<=cap)
   (hm:A=none->cap=0)
   (hc:∀j,j<fl.length->∃a,A=some a/\¬O a.block/\w.cell? (a.add j)=some (cf j)) (ho:∀j,j<fl.length->(cf j).oneCell'=true)
   (hr:∀j (h:j<fl.length),Rep0 O w (cf j) fl[j]):Rep0 O w (.slice A n cap) v
 |cptr (a:Addr) (cs:List V) (cf:Nat->Value) (hc:∀j,j<cs.length->¬O a.block/\w.cell? (a.add j)=some (cf j)) (ho:∀j,j<cs.length->(cf j).oneCell'=true)
   (hr:∀j (h:j<cs.length),Rep0 O w (cf j) cs[j]):Rep0 O w (.pointer (some a)) (.cptr cs)
 |agg (cvs:Array Value) (cs:List V) (hl:cvs.size=cs.length) (ho:∀j,j<cs.length->(cvs.getD j Go.undef).oneCell'=true) (hr:∀j (h:j<cs.length),Rep0 O w (cvs.getD j Go.undef) cs[j]):Rep0 O w (.agg cvs) (.agg cs)
 |tup (cvs:Array Value) (cs:List V) (hl:cvs.size=cs.length) (hr:∀j (h:j<cs.length),Rep0 O w (cvs.getD j Go.undef) cs[j]):Rep0 O w (.tuple cvs) (.tup cs)
theorem Rep0.mono {O O':Nat->Prop} {w w':World} (hk:∀a v,¬O a.block->w.cell? a=some v->w'.cell? a=some v) (hO:∀a v,¬O a.block->w.cell? a=some v->¬O' a.block)
  {cv:Value} {v:V} (h:Rep0 O w cv v):Rep0 O' w' cv v:=by
 induction h with
 |undef cv=>exact .undef cv
 |bool b=>exact .bool b
 |int k n=>exact .int k n
 |flt b=>exact .flt b
 |str s l h=>exact .str s l h
 |nilp=>exact .nilp
 |nilf=>exact .nilf
 |nili=>exact .nili
 |nilm=>exact .nilm
 |nilsl=>exact .nilsl
 |func f=>exact .func f
 |
  slice A n cap v fl cf hf hx hle hm hc ho hr ih=>
  refine .slice A n cap v fl cf hf hx hle hm (λj hj=>?_) ho ih
  obtain ⟨a,rfl,h1,h2⟩:=hc j hj
  have hb:(a.add j).block=a.block:=by unfold Addr.add;split<;>rfl
  exact ⟨a,rfl,by have:=hO (a.add j) _ (by rwa [hb]) h2;rwa [hb] at this,hk _ _ (by rwa [hb]) h2⟩
 |
  cptr a cs cf hc ho hr ih=>
  refine .cptr a cs cf (λj hj=>?_) ho ih
  obtain ⟨h1,h2⟩:=hc j hj
  have hb:(a.add j).block=a.block:=by unfold Addr.add;split<;>rfl
  exact ⟨by have:=hO (a.add j) _ (by rwa [hb]) h2;rwa [hb] at this,hk _ _ (by rwa [hb]) h2⟩
 |agg cvs cs hl ho hr ih=>exact .agg cvs cs hl ho ih
 |tup cvs cs hl hr ih=>exact .tup cvs cs hl ih
inductive Loc where
 |nil (a:Option Addr)
 |blk (b o cap:Nat)
structure Mem where
 w:World
 O:Nat->Prop
 μ:Nat->Option Loc
 S:Nat->Blk
def Mem.own (M:Mem) (b:Nat):Prop:=∃id o cap,(M.S id).own=true/\M.μ id=some (.blk b o cap)
def Q0:Loc->Nat->Value
 |.nil a,_=>.slice a 0 0
 |.blk b o cap,n=>.slice (some ⟨b,o,none⟩) n cap
def verLe (k:Blk) (ver:Nat):Prop:=∀v,verB k=some v->ver<=v
theorem Qle {k:Blk} {ver:Nat} {c:V} (h:contentB k ver=some c):verLe k ver:=by
 intro v hv
 unfold contentB at h
 split at h
 ·split at h
  ·rename_i e;subst e;simp [verB] at hv;omega
  ·simp at h
 ·split at h
  ·rename_i e;subst e;simp [verB] at hv;omega
  ·simp at h
 ·simp at h
def Mem.Ref1 (M:Mem):Value->V->Prop
 |cv,.ptr id off=>(M.μ id).isSome=true/\((M.S id).fix=true->∃b o cap,M.μ id=some (.blk b o cap)/\cv=.pointer (some ⟨b,o+off,none⟩))
 |cv,.sref id ver=>((M.μ id).isSome=true/\verLe (M.S id) ver)/\∀c,contentB (M.S id) ver=some c->∃loc n,M.μ id=some loc/\lenV c=some n/\cv=Q0 loc n
 |cv,.sview id ver lo n=>((M.μ id).isSome=true/\verLe (M.S id) ver)/\∀c,contentB (M.S id) ver=some c->∃loc m a cap',M.μ id=some loc/\lenV c=some m/\lo+n<=m/\n<=cap'/\cv=.slice a n cap' /\
   (a=none->cap'=0/\n=0)/\(0<n->∃b o cap,loc=.blk b o cap/\a=some ⟨b,o+lo*zOf c,none⟩)/\m<=lo+cap'/\(0<cap'->∃b o cap,loc=.blk b o cap/\a=some ⟨b,o+lo*zOf c,none⟩)
 |cv,.eptr id ver i off=>((M.μ id).isSome=true/\verLe (M.S id) ver)/\∀c,contentB (M.S id) ver=some c->∃b o cap,M.μ id=some (.blk b o cap)/\cv=.pointer (some ⟨b,o+(i*zOf c+off),none⟩)
 |_,_=>False
def Mem.Ref (M:Mem) (cv:Value) (v:V):Prop:=cv.oneCell'=true/\M.Ref1 cv v
inductive Rep (M:Mem):Value->V->Prop where
 |imm {cv:Value} {v:V} (h:Rep0 M.O M.w cv v):Rep M cv v
 |ref {cv:Value} {v:V} (h:M.Ref cv v):Rep M cv v
 |agg (cvs:Array Value) (cs:List V) (hl:cvs.size=cs.length) (ho:∀j,j<cs.length->(cvs.getD j Go.undef).oneCell'=true) (hr:∀j (h:j<cs.length),Rep M (cvs.getD j Go.undef) cs[j]):Rep M (.agg cvs) (.agg cs)
 |tup (cvs:Array Value) (cs:List V) (hl:cvs.size=cs.length) (hr:∀j (h:j<cs.length),Rep M (cvs.getD j Go.undef) cs[j]):Rep M (.tuple cvs) (.tup cs)
 |func (f:FuncId) (cvs:Array Value) (cs:List V) (hl:cvs.size=cs.length) (hr:∀j (h:j<cs.length),Rep M (cvs.getD j Go.undef) cs[j]):Rep M (.func (.func f) #[] cvs) (.func f cs)
 |iface (t:Nat) (cv:Value) (v:V) (h:Rep0 M.O M.w cv v):Rep M (.iface t cv) (.iface t v)
def Qc6 (w:World) (O:Nat->Prop) (grow:Bool) (e:Nat) (c:V):Loc->Prop
 |.nil _=>grow=true/\flatV c=some (0,[])
 |.blk b o cap=>∃n fl cur fz,flatV c=some (n,fl)/\o=0/\n<=cap/\cap<=maxLen/\w.heap[b]? = some (.cells cur e fz)/\cur.size=cap*zOf c/\(grow=true->fz=(0,0))/\(grow=false->isExact c=false->cap=n/\fz=(0,0)) /\
   (∀j,j<fl.length->w.frozen? ⟨b,j,none⟩=false) /\
   ∀j (h:j<fl.length),Rep0 O w (cur.getD j Go.undef) fl[j]/\(cur.getD j Go.undef).oneCell'=true
def BlkOK (M:Mem) (loc:Loc):Blk->Prop
 |.cells t cs=>∃b o cap,loc=.blk b o cap/\M.O b/\b<M.w.heap.size/\(o=0/\M.w.shape? b=some (t,cs.length)) /\
   ∀j (h:j<cs.length),∃cv,M.w.cell? ⟨b,o+j,none⟩=some cv/\cv.oneCell'=true/\Rep M cv cs[j]/\M.w.frozen? ⟨b,o+j,none⟩=false
 |.arr _ g e c=>(∀b o cap,loc=.blk b o cap->M.O b/\b<M.w.heap.size)/\Qc6 M.w M.O g e c loc
 |.imm _ c=>∃n,lenV c=some n/\Rep0 M.O M.w (Q0 loc n) (unexact c)
 |.siter s pos=>∃b cap,loc=.blk b 0 cap/\M.O b/\M.w.heap[b]? = some (.stringIter ⟨s.toArray⟩ pos)
 |.dead=>True
structure Mem.ok (M:Mem):Prop where
 blk:∀id loc,M.μ id=some loc->BlkOK M loc (M.S id)
 inj:∀id id' b o o' cap cap',(M.S id).own=true->(M.S id').own=true->M.μ id=some (.blk b o cap)->M.μ id'=some (.blk b o' cap')->id=id'
 low:∀b,M.O b->b<M.w.heap.size
def Qy (M:Mem) (tmps:Array Value) (env:Env):Prop:=
 tmps.size=env.length/\∀t (h:t<env.length),Rep M (tmps.getD t Go.undef) env[t]
structure Step (M M':Mem):Prop where
 size:M.w.heap.size<=M'.w.heap.size
 os:M'.w.os=M.w.os
 tape:M'.w.tape=M.w.tape
 output:M'.w.output=M.w.output
 keep:∀b,b<M.w.heap.size->¬M.own b->M'.w.heap[b]? = M.w.heap[b]?/\(M'.O b↔M.O b)
 osub:∀b,b<M.w.heap.size->M'.O b->M.O b
 own':∀b,b<M.w.heap.size->M'.own b->M.own b
 refs:∀cv v,M.Ref cv v->M'.Ref cv v
theorem Mem.ok.own {M:Mem} (h:M.ok) {b:Nat} (ho:M.own b):M.O b:=by
 obtain ⟨id,o,cap,h2,h3⟩:=ho
 have hb:=h.blk id _ h3
 cases hk:M.S id<;>rw [hk] at h2 hb<;>simp [Blk.own] at h2<;>simp only [BlkOK] at hb
 ·obtain ⟨b',o',cap',e,hO,_⟩:=hb;cases e;exact hO
 ·exact (hb.1 _ _ _ rfl).1
 ·obtain ⟨b',cap',e,hO,_⟩:=hb;cases e;exact hO
theorem Step.refl (M:Mem):Step M M:=⟨Z4 _,rfl,rfl,rfl,λ_ _ _=>⟨rfl,Iff.rfl⟩,λ_ _ h=>h,λ_ _ h=>h,λ_ _ h=>h⟩
theorem Step.trans {M M' M'':Mem} (h:Step M M') (h':Step M' M''):Step M M'' where
 size:=Z11 h.size h'.size
 os:=h'.os.trans h.os
 tape:=h'.tape.trans h.tape
 output:=h'.output.trans h.output
 keep b hb hn:=by
  have hn':¬M'.own b:=λe=>hn (h.own' b hb e)
  have h1:=h.keep b hb hn;have h2:=h'.keep b (Z16 hb h.size) hn'
  exact ⟨h2.1.trans h1.1,h2.2.trans h1.2⟩
 osub b hb hO:=h.osub b hb (h'.osub b (Z16 hb h.size) hO)
 own' b hb hO:=h.own' b hb (h'.own' b (Z16 hb h.size) hO)
 refs cv v hr:=h'.refs cv v (h.refs cv v hr)
theorem Step.cell {M M':Mem} (hM:M.ok) (h:Step M M') {a:Addr} {v:Value} (hO:¬M.O a.block) (hc:M.w.cell? a=some v):M'.w.cell? a=some v:=by
 have hb:=World.block_lt_of_cell? M.w a hc
 exact (World.cell?_of_block (h.keep a.block hb λe=>hO (hM.own e)).1).trans hc
theorem Step.rep0 {M M':Mem} (hM:M.ok) (h:Step M M') {cv:Value} {v:V} (hr:Rep0 M.O M.w cv v):Rep0 M'.O M'.w cv v:=
 hr.mono (λa v hO hc=>h.cell hM hO hc) (λa v hO hc hO'=>hO (h.osub _ (World.block_lt_of_cell? M.w a hc) hO'))
theorem Step.rep {M M':Mem} (hM:M.ok) (h:Step M M') {cv:Value} {v:V} (hr:Rep M cv v):Rep M' cv v:=by
 induction hr with
 |imm hi=>exact .imm (h.rep0 hM hi)
 |ref hi=>exact .ref (h.refs _ _ hi)
 |agg cvs cs hl ho _ ih=>exact .agg cvs cs hl ho ih
 |tup cvs cs hl _ ih=>exact .tup cvs cs hl ih
 |func f cvs cs hl _ ih=>exact .func f cvs cs hl ih
 |iface t cv v hi=>exact .iface t cv v (h.rep0 hM hi)
theorem Step.env {M M':Mem} (hM:M.ok) (h:Step M M') {tmps:Array Value} {env:Env} (he:Qy M tmps env):Qy M' tmps env:=
 ⟨he.1,λt ht=>h.rep hM (he.2 t ht)⟩
theorem Qy.put {M:Mem} {a:Act} {env:Env} (h:Qy M a.tmps env) (dst:Option Nat) {cv:Value} {v:V} (hr:Rep M cv v):Qy M (a.put dst cv).tmps (put env dst v):=by
 cases dst with
 |none=>exact h
 |
  some d=>
  refine ⟨by simp [Act.put,A.put,h.1],λt ht=>?_⟩
  simp only [A.put,Z21] at ht
  simp only [Act.put,A.put,List.getElem_set,Z0,Array.getElem?_setIfInBounds]
  by_cases e:d=t
  ·subst e
   simp only [if_true,h.1,ht];exact hr
  ·simp only [e,if_false]
   have:=h.2 t ht
   simpa [Z0] using this
theorem Qy.get {M:Mem} {a:Act} {env:Env} (h:Qy M a.tmps env) (t:Nat):Rep M (a.tmps.getD t Go.undef) (env.getD t .undef):=by
 by_cases ht:t<env.length
 ·have:=h.2 t ht
  simpa [Zl,Z1 ht] using this
 ·rw [Zl,Z17 (by omega)]
  exact .imm (.undef _)
def Qgr:V->Value->Bool
 |.bool a,.bool b=>a == b
 |.int k a,.int k' b=>k == k'&&a == b
 |.str l,.string s=>s.data.toList == l
 |.ints _ _ l,.slice none 0 0=>l.isEmpty
 |.strs _ l,.slice none 0 0=>l.isEmpty
 |.recs _ z l,.slice none 0 0=>l.isEmpty&&0<z
 |.nilp,.pointer none=>true
 |.nilf,.nilFunc=>true
 |.nili,.nilIface=>true
 |.nilm,.map none=>true
 |.nilsl,.slice none 0 0=>true
 |.undef,_=>true
 |_,_=>false
def Jp:List V->List Value->Bool
 |[],[]=>true
 |v::vs,c::cs=>Qgr v c&&Jp vs cs
 |_,_=>false
def Ww (P:Program):List Field->List (Nat×Nat×Nat)->Bool
 |[],[]=>true
 |f::fs,(o,s,t)::r=>f.offset == o&&P.cellsOf f.type == s&&(P.info? f.type).isSome&&f.type == t&&Ww P fs r
 |_,_=>false
def descOK (P:Program):TD->TypeDesc->Bool
 |.bool,.bool=>true
 |.int k,.int k'=>k == k'
 |.flt,.float .f64=>true
 |.str,.string=>true
 |.ptr e,.pointer e'=>e == e'
 |.slice e,.slice e'=>e == e'&&(P.info? e).isSome
 |.array n e,.array n' e'=>n == n'&&e == e'&&(P.info? e).isSome
 |.map k e,.map k' e'=>k == k'&&e == e'
 |.struct fs,.struct fs'=>Ww P fs'.toList fs
 |.func,.func _ _ _=>true
 |.iface,.interface _=>true
 |.tuple,.tuple _=>true
 |_,_=>false
def Qf9 (i:TI):Option Value->Bool
 |
  some z=>match i.d with
  |.tuple=>true
  |_=>Jp i.zero z.cells.toList&&z.cells.size == i.size&&i.zero.length == i.size&&z.cells.toList.all (·.oneCell')
 |none=>false
def Qdj (P:Program) (t:Nat) (i:TI):Bool:=
 match P.info? t,P.underlying t with
 |some j,some d=>j.size == i.size&&j.bytes == i.bytes&&descOK P i.d d&&Qf9 i j.zero &&
   (match i.d with | .struct _ | .array _ _ | .tuple | .bad=>true|_=>i.size == 1) &&
   (!i.eq||(match d with | .struct fs=>fs.toList.all (λf=>f.name != "_") && !P.stoodInHeld t && !P.eqGuardType P.depth t|_=>false))
 |_,_=>false
def Tab.check (P:Program):Tab->Bool
 |.nil=>true
 |.node t i l r=>Qdj P t i&&Tab.check P l&&Tab.check P r
theorem tabGet_check {P:Program}:∀{T:Tab},T.check P=true->∀t,(Qbv T t).d≠.bad->Qdj P t (Qbv T t)=true
 |.nil,_,t,h=>absurd rfl h
 |
  .node u i l r,hT,t,h=>by
  simp only [Tab.check,Z7] at hT
  unfold Qbv at h ⊢
  split
  ·rename_i e;subst e;exact hT.1.1
  ·rename_i e
   rw [if_neg e] at h
   split
   ·rename_i e';rw [if_pos e'] at h;exact tabGet_check hT.1.2 t h
   ·rename_i e';rw [if_neg e'] at h;exact tabGet_check hT.2 t h
section
variable {P:Program} {C:Ctx} (hT:C.T.check P=true)
include hT
theorem Wz {t:Nat} (h:(C.ty t).d≠.bad):∃j d,P.info? t=some j/\P.underlying t=some d/\j.size=(C.ty t).size/\j.bytes=(C.ty t).bytes/\descOK P (C.ty t).d d=true/\Qf9 (C.ty t) j.zero=true:=by
 have hc:=tabGet_check hT t h
 unfold Qdj at hc
 split at hc
 ·rename_i j d hj hd
  simp only [Z7,beq_iff_eq] at hc
  exact ⟨j,d,hj,hd,hc.1.1.1.1.1,hc.1.1.1.1.2,hc.1.1.1.2,hc.1.1.2⟩
 ·simp at hc
theorem Qae {t:Nat} (h:C.bad t=false) (ha:C.isAgg t=false):(C.ty t).size=1:=by
 have ht:(C.ty t).d≠.tuple:=λe=>by simp [Ctx.bad,e] at h
 have hb:(C.ty t).d≠.bad:=λe=>by simp [Ctx.bad,e] at h
 have hc:=tabGet_check hT t hb
 unfold Qdj at hc
 split at hc
 ·simp only [Z7] at hc
  have h5:=hc.1.2
  unfold Ctx.isAgg at ha
  change (match (C.ty t).d with | .struct _ | .array _ _ | .tuple | .bad=>true|_=>(C.ty t).size == 1)=true at h5
  cases hd:(C.ty t).d<;>rw [hd] at h5 ha<;>simp_all
 ·simp at hc
theorem Qnd {t:Nat} {fs:List (Nat×Nat×Nat)} (h:(C.ty t).d=.struct fs) (he:(C.ty t).eq=true):∃fs',P.underlying t=some (.struct fs')/\Ww P fs'.toList fs=true/\(∀f∈fs'.toList,f.name≠"_")/\P.stoodInHeld t=false/\P.eqGuardType P.depth t=false:=by
 have hc:=tabGet_check hT t (show (C.ty t).d≠.bad by rw [h];simp)
 unfold Qdj at hc
 split at hc
 ·rename_i j d hj hd
  simp only [Z7] at hc
  have h5:=hc.2
  have h3:=hc.1.1.1.2
  change (!(C.ty t).eq||_)=true at h5
  change descOK P (C.ty t).d d=true at h3
  rw [h] at h3
  rw [he] at h5
  cases d<;>simp only [descOK,Z25] at h3
  simp only [Zn,Bool.false_or,Z7,Z75,Z23,bne_iff_ne] at h5
  exact ⟨_,hd,h3,h5.1.1,h5.1.2,h5.2⟩
 ·simp at hc
theorem Q9 {t e:Nat} (h:(C.ty t).d=.slice e):P.underlying t=some (.slice e)/\∃j,P.info? e=some j:=by
 obtain ⟨j,d,_,hd,_,_,hk,_⟩:=Wz hT (t:=t) (by rw [h];simp)
 rw [h] at hk
 cases d<;>simp only [descOK,Z7,beq_iff_eq,Z25] at hk
 obtain ⟨rfl,hs⟩:=hk
 exact ⟨hd,Z69.1 hs⟩
theorem Qek {t n e:Nat} (h:(C.ty t).d=.array n e):P.underlying t=some (.array n e)/\∃j,P.info? e=some j:=by
 obtain ⟨j,d,_,hd,_,_,hk,_⟩:=Wz hT (t:=t) (by rw [h];simp)
 rw [h] at hk
 cases d<;>simp only [descOK,Z7,beq_iff_eq,Z25] at hk
 obtain ⟨⟨rfl,rfl⟩,hs⟩:=hk
 exact ⟨hd,Z69.1 hs⟩
theorem Qbc {t:Nat} {k:IntKind} (h:(C.ty t).d=.int k):P.underlying t=some (.int k):=by
 obtain ⟨j,d,_,hd,_,_,hk,_⟩:=Wz hT (t:=t) (by rw [h];simp)
 rw [h] at hk
 cases d<;>simp only [descOK,beq_iff_eq,Z25] at hk
 subst hk;exact hd
theorem Qa8 {t e:Nat} (h:(C.ty t).d=.ptr e):P.underlying t=some (.pointer e):=by
 obtain ⟨j,d,_,hd,_,_,hk,_⟩:=Wz hT (t:=t) (by rw [h];simp)
 rw [h] at hk
 cases d<;>simp only [descOK,beq_iff_eq,Z25] at hk
 subst hk;exact hd
theorem Yq {t:Nat} (h:(C.ty t).d=.str):P.underlying t=some .string:=by
 obtain ⟨j,d,_,hd,_,_,hk,_⟩:=Wz hT (t:=t) (by rw [h];simp)
 rw [h] at hk
 cases d<;>simp only [descOK,Z25] at hk
 exact hd
theorem Qhg {t:Nat} (h:(C.ty t).d=.bool):P.underlying t=some .bool:=by
 obtain ⟨j,d,_,hd,_,_,hk,_⟩:=Wz hT (t:=t) (by rw [h];simp)
 rw [h] at hk
 cases d<;>simp only [descOK,Z25] at hk
 exact hd
theorem Qe6 {t:Nat} {fs:List (Nat×Nat×Nat)} (h:(C.ty t).d=.struct fs):∃fs',P.underlying t=some (.struct fs')/\Ww P fs'.toList fs=true:=by
 obtain ⟨j,d,_,hd,_,_,hk,_⟩:=Wz hT (t:=t) (by rw [h];simp)
 rw [h] at hk
 cases d<;>simp only [descOK,Z25] at hk
 exact ⟨_,hd,hk⟩
theorem Qin {t:Nat} (h:(C.ty t).d≠.bad) (w:World):(isAgg t).run P w=.ok (C.isAgg t) w:=by
 obtain ⟨j,d,_,hd,_,_,hk,_⟩:=Wz hT h
 unfold Ctx.isAgg
 cases ht:(C.ty t).d<;>rw [ht] at hk<;>cases d<;>simp only [descOK,Z25] at hk<;>simp [isAgg,run_underlying hd]
theorem Y2 {t:Nat} (h:(C.ty t).d≠.bad) (w:World):(sizeOf t).run P w=.ok (C.ty t).size w:=by
 obtain ⟨j,d,hj,hd,hs,_⟩:=Wz hT h
 simp [sizeOf,typeInfo,hj,hs]
end
theorem Qi0 {P:Program}:∀{fs:List Field} {r:List (Nat×Nat×Nat)} (i:Nat) {x:Nat×Nat×Nat},Ww P fs r=true->r[i]? = some x ->
  ∃f j,fs[i]? = some f/\f.offset=x.1/\P.info? f.type=some j/\j.size=x.2.1/\f.type=x.2.2
 |[],[],i,x,_,h=>by simp at h
 |[],_::_,i,x,hk,h=>by simp [Ww] at hk
 |_::_,[],i,x,hk,h=>by simp [Ww] at hk
 |
  f::fs,(o,s,t)::r,i,x,hk,h=>by
  simp only [Ww,Z7,beq_iff_eq] at hk
  cases i with
  |
   zero=>
   simp only [Z64,Zs] at h;subst h
   obtain ⟨j,hj⟩:=Z69.1 hk.1.1.2
   exact ⟨f,j,rfl,hk.1.1.1.1,hj,by have:=hk.1.1.1.2;simp [Program.cellsOf,hj] at this;exact this,hk.1.2⟩
  |succ i=>simpa using Qi0 i hk.2 (by simpa using h)
theorem Qp4 {O:Nat->Prop} {w:World} {v:V} {c:Value} (h:Qgr v c=true):Rep0 O w c v:=by
 have empty:∀{v:V} {n:Nat},flatV v=some (0,[])->Rep0 O w (.slice none 0 0) v:=λ{v n} hv=>
  .slice none 0 0 v [] (λ_=>Go.undef) hv (λ_=>rfl) (Z4 _) (λ_=>rfl) (λj hj=>absurd hj (by simp)) (λj hj=>absurd hj (by simp)) (λj hj=>absurd hj (by simp))
 unfold Qgr at h
 split at h
 ·simp only [beq_iff_eq] at h;subst h;exact .bool _
 ·simp only [Z7,beq_iff_eq] at h;obtain ⟨rfl,rfl⟩:=h;exact .int _ _
 ·simp only [beq_iff_eq] at h;exact .str _ _ h
 ·simp only [List.isEmpty_iff] at h;subst h;exact empty (n:=0) rfl
 ·simp only [List.isEmpty_iff] at h;subst h;exact empty (n:=0) rfl
 ·simp only [Z7,List.isEmpty_iff,decide_eq_true_eq] at h;obtain ⟨rfl,hz⟩:=h;exact empty (n:=0) (by simp [flatV,hz])
 ·exact .nilp
 ·exact .nilf
 ·exact .nili
 ·exact .nilm
 ·exact .nilsl
 ·exact .undef _
 ·simp at h
theorem Qmo (C:Ctx) {O:Nat->Prop} {w:World} (t:Nat) (c:Value):Rep0 O w c (C.constV t c):=by
 have empty:∀{v:V},flatV v=some (0,[])->Rep0 O w (.slice none 0 0) v:=λ{v} hv=>
  .slice none 0 0 v [] (λ_=>Go.undef) hv (λ_=>rfl) (Z4 _) (λ_=>rfl) (λj hj=>absurd hj (by simp)) (λj hj=>absurd hj (by simp)) (λj hj=>absurd hj (by simp))
 unfold Ctx.constV
 split
 ·exact .bool _
 ·exact .int _ _
 ·exact .str _ _ rfl
 ·exact .flt _
 ·unfold Ctx.emptyOf
  split
  ·split
   ·exact empty rfl
   ·exact empty rfl
   ·exact .undef _
   ·split
    ·exact .undef _
    ·exact empty (by simp [flatV];omega)
  ·exact .undef _
 ·exact .nilp
 ·exact .nilf
 ·exact .nili
 ·exact .nilm
 ·exact .undef _
theorem Qhy (C:Ctx) {M:Mem} {a:Act} {env:Env} (he:Qy M a.tmps env) (t:Nat) (x:Operand):Rep M (a.eval x) (C.opv env t x):=by
 cases x with
 |tmp i=>exact he.get i
 |const c=>exact .imm (Qmo C t c)
 |func f=>exact .imm (.func f)
 |global g=>exact .imm (.undef _)
section
variable {M:Mem} {cv:Value}
theorem Qp {k:IntKind} {n:Int} (h:Rep M cv (.int k n)):cv=.int k n:=by
 cases h with
 |imm h=>cases h<;>first|rfl|(simp_all [flatV];done)
 |ref h=>exact h.2.elim
theorem Qan {b:Bool} (h:Rep M cv (.bool b)):cv=.bool b:=by
 cases h with
 |imm h=>cases h<;>first|rfl|(simp_all [flatV];done)
 |ref h=>exact h.2.elim
theorem Ye {l:J1} (h:Rep M cv (.str l)):∃s:ByteArray,cv=.string s/\s.data.toList=l:=by
 cases h with
 |imm h=>cases h<;>first|exact ⟨_,rfl,by assumption⟩|(simp_all [flatV];done)
 |ref h=>exact h.2.elim
theorem Ya {id off:Nat} (h:Rep M cv (.ptr id off)):M.Ref cv (.ptr id off):=by
 cases h with
 |imm h=>cases h<;>(simp_all [flatV];done)
 |ref h=>exact h
theorem W0 {id ver:Nat} (h:Rep M cv (.sref id ver)):M.Ref cv (.sref id ver):=by
 cases h with
 |imm h=>cases h<;>(simp_all [flatV];done)
 |ref h=>exact h
theorem W7 {id ver lo n:Nat} (h:Rep M cv (.sview id ver lo n)):M.Ref cv (.sview id ver lo n):=by
 cases h with
 |imm h=>cases h<;>(simp_all [flatV];done)
 |ref h=>exact h
theorem Qdm {id ver i off:Nat} (h:Rep M cv (.eptr id ver i off)):M.Ref cv (.eptr id ver i off):=by
 cases h with
 |imm h=>cases h<;>(simp_all [flatV];done)
 |ref h=>exact h
theorem Qia {cs:List V} (h:Rep M cv (.cptr cs)):∃(a:Addr) (cf:Nat->Value),cv=.pointer (some a)/\(∀j,j<cs.length->¬M.O a.block/\M.w.cell? (a.add j)=some (cf j))/\(∀j,j<cs.length->(cf j).oneCell'=true)/\∀j (h:j<cs.length),Rep0 M.O M.w (cf j) cs[j]:=by
 cases h with
 |
  imm h=>
  cases h with
  |slice A n cap v fl cf hf=>simp [flatV] at hf
  |cptr a cs cf hc ho hr=>exact ⟨a,cf,rfl,hc,ho,hr⟩
 |ref h=>exact h.2.elim
theorem Qcw (h:Rep M cv .nilp):cv=.pointer none:=by
 cases h with
 |imm h=>cases h<;>first|rfl|(simp_all [flatV];done)
 |ref h=>exact h.2.elim
theorem Qau {f:FuncId} {cs:List V} (h:Rep M cv (.func f cs)):∃cvs:Array Value,cv=.func (.func f) #[] cvs/\cvs.size=cs.length/\∀j (h:j<cs.length),Rep M (cvs.getD j Go.undef) cs[j]:=by
 cases h with
 |
  imm h=>
  cases h with
  |slice A n cap v fl cf hf=>simp [flatV] at hf
  |func=>exact ⟨#[],rfl,rfl,λj h=>absurd h (by simp)⟩
 |ref h=>exact h.2.elim
 |func _ cvs _ hl hr=>exact ⟨cvs,rfl,hl,hr⟩
theorem Wp {cs:List V} (h:Rep M cv (.agg cs)):∃cvs:Array Value,cv=.agg cvs/\cvs.size=cs.length/\(∀j,j<cs.length->(cvs.getD j Go.undef).oneCell'=true)/\∀j (h:j<cs.length),Rep M (cvs.getD j Go.undef) cs[j]:=by
 cases h with
 |
  imm h=>
  cases h with
  |slice A n cap v fl cf hf=>simp [flatV] at hf
  |agg cvs cs hl ho hr=>exact ⟨cvs,rfl,hl,ho,λj h=>.imm (hr j h)⟩
 |ref h=>exact h.2.elim
 |agg cvs _ hl ho hr=>exact ⟨cvs,rfl,hl,ho,hr⟩
theorem Qag {cs:List V} (h:Rep M cv (.tup cs)):∃cvs:Array Value,cv=.tuple cvs/\cvs.size=cs.length/\∀j (h:j<cs.length),Rep M (cvs.getD j Go.undef) cs[j]:=by
 cases h with
 |
  imm h=>
  cases h with
  |slice A n cap v fl cf hf=>simp [flatV] at hf
  |tup cvs cs hl hr=>exact ⟨cvs,rfl,hl,λj h=>.imm (hr j h)⟩
 |ref h=>exact h.2.elim
 |tup cvs _ hl hr=>exact ⟨cvs,rfl,hl,hr⟩
theorem Qut {t:Nat} {v:V} (h:Rep M cv (.iface t v)):∃cv',cv=.iface t cv'/\Rep0 M.O M.w cv' v:=by
 cases h with
 |imm h=>cases h<;>(simp_all [flatV];done)
 |ref h=>exact h.2.elim
 |iface _ cv' _ h=>exact ⟨cv',rfl,h⟩
theorem Wx {v:V} (hs:contentVal v=true) (h:Rep M cv v):∃(A:Option Addr) (n cap:Nat) (fl:List V) (cf:Nat->Value),cv=.slice A n cap/\flatV v=some (n,fl)/\(isExact v=true->cap=n)/\n<=cap/\(A=none->cap=0) /\
  (∀j,j<fl.length->∃a,A=some a/\¬M.O a.block/\M.w.cell? (a.add j)=some (cf j))/\(∀j,j<fl.length->(cf j).oneCell'=true)/\∀j (h:j<fl.length),Rep0 M.O M.w (cf j) fl[j]:=by
 cases h with
 |
  imm h=>
  cases h with
  |slice A n cap v fl cf hf hx hle hm hc ho hr=>exact ⟨A,n,cap,fl,cf,rfl,hf,hx,hle,hm,hc,ho,hr⟩
  |_=>simp [contentVal] at hs
 |ref h=>cases v<;>first|exact h.2.elim|simp [contentVal] at hs
 |agg=>simp [contentVal] at hs
 |tup=>simp [contentVal] at hs
 |func=>simp [contentVal] at hs
 |iface=>simp [contentVal] at hs
theorem Qq1 {cv:Value} (h:cv.oneCell'=true):cv.cells = #[cv]:=by
 cases cv<;>first|rfl|simp [Value.oneCell'] at h
theorem Qqv {v:V} (h:Rep M cv v) (hu:v.isU=false) (ha:∀cs,v≠.agg cs):cv.oneCell'=true:=by
 cases h with
 |imm h=>cases h<;>first|rfl|exact absurd rfl (ha _)|(simp [V.isU] at hu;done)
 |ref h=>exact h.1
 |agg=>exact absurd rfl (ha _)
 |tup=>simp [V.isU] at hu
 |func=>rfl
 |iface=>rfl
theorem Qbx {v:V} (h:Rep M cv v) (hu:v.isU=false):cv.cells.size=(cellsOf v).length /\
  ∀j (h:j<(cellsOf v).length),Rep M (cv.cells.getD j Go.undef) (cellsOf v)[j]/\(cv.cells.getD j Go.undef).oneCell'=true:=by
 by_cases ha:∃cs,v=.agg cs
 ·obtain ⟨cs,rfl⟩:=ha
  obtain ⟨cvs,rfl,hl,ho,hr⟩:=Wp h
  exact ⟨hl,λj hj=>⟨hr j hj,ho j hj⟩⟩
 ·have ha':∀cs,v≠.agg cs:=λcs e=>ha ⟨cs,e⟩
  have hc:cellsOf v=[v]:=by cases v<;>first|rfl|exact absurd rfl (ha' _)
  have h1:=Qqv h hu ha'
  rw [hc,Qq1 h1]
  exact ⟨rfl,λj hj=>by simp at hj;subst hj;exact ⟨by simpa using h,by simpa using h1⟩⟩
end
theorem Qml {cs:List V} {off n j:Nat} (hl:off+n<=cs.length) (hj:j<((cs.drop off).take n).length):((cs.drop off).take n)[j]=cs[off+j]'(by simp at hj;omega):=by
 simp
section
variable {P:Program} {C:Ctx}
theorem Wg {t:Nat} (h:C.bad t=false):(C.ty t).d≠.bad:=λe=>by simp [Ctx.bad,e] at h
end
theorem beq_bytes (s s':ByteArray):(s == s')=decide (s.data.toList=s'.data.toList):=by
 cases s with|mk d=>cases s' with|mk d'=>
 show (d == d')=decide (d.toList=d'.toList)
 rw [Z60];simp
section
variable {P:Program} {C:Ctx} (hT:C.T.check P=true) {M:Mem}
include hT
theorem Qfl {t:Nat} (hb:C.bad t=false) {cvs:Array Value} {cs:List V} {off:Nat} (hl:off+(C.ty t).size<=cs.length) (hs:cvs.size=cs.length)
  (ho:∀j,j<cs.length->(cvs.getD j Go.undef).oneCell'=true) (hr:∀j (h:j<cs.length),Rep M (cvs.getD j Go.undef) cs[j]) :
  ∃cv,(part t cvs off).run P M.w=.ok cv M.w/\Rep M cv (Wl (C.isAgg t) ((cs.drop off).take (C.ty t).size)):=by
 have hA:=Qin hT (Wg hb) M.w
 have hS:=Y2 hT (Wg hb) M.w
 have hget:∀j,j<(C.ty t).size->(cvs.extract off (off+(C.ty t).size)).getD j Go.undef=cvs.getD (off+j) Go.undef:=λj hj=>by
  simp only [Z0,Array.getElem?_extract]
  rw [if_pos (by omega)]
 cases ha:C.isAgg t with
 |
  true=>
  rw [ha] at hA
  refine ⟨_,by simp only [part,Sem.run_bind,hA,Result.andThen_ok,if_true,hS,Sem.run_pure];rfl,?_⟩
  simp only [Wl,if_true]
  refine .agg _ _ (by simp;omega) (λj hj=>?_) (λj hj=>?_)
  ·simp at hj
   rw [hget j (by omega)];exact ho _ (by omega)
  ·have hj':=hj
   simp at hj'
   rw [hget j (by omega),Qml hl];exact hr _ (by omega)
 |
  false=>
  rw [ha] at hA
  have h1:=Qae hT hb ha
  have hlt:off<cvs.size:=by omega
  refine ⟨cvs.getD off Go.undef,by simp [part,Sem.run_bind,hA,Z0,hlt],?_⟩
  have:=hr off (by omega)
  have e:Wl false ((cs.drop off).take (C.ty t).size)=cs[off]'(by omega):=by
   rw [h1];simp [Wl,Zl,Z1 (show off<cs.length by omega)]
  rw [e];exact this
def Qft (d:Nat) (xs ys:Array Value) (f:Field) (_:Option Bool×Unit):Sem (ForInStep (Option Bool×Unit)):=do
 if f.name≠"_" then
  if !(<-Op.equalIn d f.type (<-part f.type xs f.offset) (<-part f.type ys f.offset)) then return .done (some false,())
 return .yield (none,())
theorem Qu2 {n d:Nat} (ih:∀(t:Nat) (x y:V) (r:Bool) (cx cy:Value),C.eqV n t x y=some r->Rep M cx x->Rep M cy y->(Op.equalIn d t cx cy).run P M.w=.ok r M.w)
  {xs ys:Array Value} {a b:List V} (hxs:xs.size=a.length) (hys:ys.size=b.length) (hxo:∀j,j<a.length->(xs.getD j Go.undef).oneCell'=true) (hyo:∀j,j<b.length->(ys.getD j Go.undef).oneCell'=true)
  (hxr:∀j (h:j<a.length),Rep M (xs.getD j Go.undef) a[j]) (hyr:∀j (h:j<b.length),Rep M (ys.getD j Go.undef) b[j]) :
  ∀
   (fs':List Field) (fs:List (Nat×Nat×Nat)) (r:Bool),Ww P fs' fs=true->(∀f∈fs',f.name≠"_")->C.eqFs (C.eqV n) a b fs=some r ->
   (forIn fs' ((none,()):Option Bool×Unit) (Qft d xs ys)).run P M.w=.ok (if r then (none,()) else (some false,())) M.w:=by
 have one:∀{f:Field} {o s t:Nat} {r:Bool},f.name≠"_"->f.offset=o->f.type=t->(C.bad t=false/\(C.ty t).size=s/\o+s<=a.length/\o+s<=b.length) ->
   C.eqV n t (Wl (C.isAgg t) ((a.drop o).take s)) (Wl (C.isAgg t) ((b.drop o).take s))=some r->∀p,(Qft d xs ys f p).run P M.w=.ok (if r then .yield (none,()) else .done (some false,())) M.w:=by
  intro f o s t r hn ho ht ⟨h1,h2,h3,h4⟩ h5 p
  subst ho ht h2
  obtain ⟨cx,k1,k2⟩:=Qfl hT h1 h3 hxs hxo hxr
  obtain ⟨cy,k3,k4⟩:=Qfl hT h1 h4 hys hyo hyr
  have k5:=ih _ _ _ _ cx cy h5 k2 k4
  unfold Qft
  rw [if_pos hn]
  simp only [Sem.run_bind,k1,k3,k5,Result.andThen_ok]
  cases r<;>simp
 intro fs'
 induction fs' with
 |
  nil=>
  intro fs r hk hn h
  cases fs with
  |nil=>simp [Ctx.eqFs] at h;subst h;simp
  |cons _ _=>simp [Ww] at hk
 |
  cons f fs' ih2=>
  intro fs r hk hn h
  match fs,hk,h with
  |
   [(o,s,t)],hk,h=>
   simp only [Ww,Z7,beq_iff_eq] at hk
   unfold Ctx.eqFs at h
   split at h
   case isFalse=>simp at h
   rename_i hc
   have h1:=one (hn f (by simp)) hk.1.1.1.1 hk.1.2 hc h
   match fs',hk.2 with
   |
    [],_=>
    rw [List.forIn_cons]
    simp only [Sem.run_bind,h1,Result.andThen_ok]
    cases r<;>simp
  |
   (o,s,t)::q::rest,hk,h=>
   simp only [Ww,Z7,beq_iff_eq] at hk
   unfold Ctx.eqFs at h
   split at h
   case isFalse=>simp at h
   rename_i hc
   split at h
   case h_2=>simp at h
   rename_i x y hx hy
   simp only [Zs] at h
   subst h
   have h1:=one (hn f (by simp)) hk.1.1.1.1 hk.1.2 hc hx
   have h2:=ih2 (q::rest) y hk.2 (λg hg=>hn g (by simp [hg])) hy
   rw [List.forIn_cons]
   simp only [Sem.run_bind,h1,Result.andThen_ok]
   cases x
   ·simp
   ·simpa using h2
theorem Qk5:∀(n d:Nat),n<=d->∀(t:Nat) (x y:V) (r:Bool) (cx cy:Value),C.eqV n t x y=some r->Rep M cx x->Rep M cy y->(Op.equalIn d t cx cy).run P M.w=.ok r M.w
 |0,_,_,t,x,y,r,cx,cy,h,_,_=>by simp [Ctx.eqV] at h
 |n+1,0,hd,_,_,_,_,_,_,_,_,_=>by omega
 |
  n+1,d+1,hd,t,x,y,r,cx,cy,h,hx,hy=>by
  unfold Ctx.eqV at h
  split at h
  ·simp at h
  ·rename_i k p k' q
   obtain rfl:=Qp hx;obtain rfl:=Qp hy
   split at h
   ·rename_i hk
    split at h
    ·rename_i e;subst e
     simp at h;subst h
     unfold Op.equalIn
     simp only [Sem.run_bind,run_underlying (Qbc hT hk),Result.andThen_ok,if_true,Sem.run_pure,Z60]
    ·simp at h
   ·simp at h
  ·rename_i p q
   obtain rfl:=Qan hx;obtain rfl:=Qan hy
   split at h
   ·rename_i hk
    simp at h;subst h
    unfold Op.equalIn
    simp only [Sem.run_bind,run_underlying (Qhg hT hk),Result.andThen_ok,Sem.run_pure,Z60]
   ·simp at h
  ·rename_i p q
   obtain ⟨s,rfl,e1⟩:=Ye hx;obtain ⟨s',rfl,e2⟩:=Ye hy
   split at h
   ·rename_i hk
    simp at h;subst h
    unfold Op.equalIn
    simp only [Sem.run_bind,run_underlying (Yq hT hk),Result.andThen_ok,Sem.run_pure]
    congr 1;subst e1 e2;exact beq_bytes s s'
   ·simp at h
  ·rename_i n' p q e
   obtain rfl:n=n':=by omega
   obtain ⟨xs,rfl,hxs,hxo,hxr⟩:=Wp hx;obtain ⟨ys,rfl,hys,hyo,hyr⟩:=Wp hy
   split at h
   ·rename_i fs hk
    split at h
    ·rename_i he
     obtain ⟨fs',hu,hf,hn,hs,_⟩:=Qnd hT hk he
     have:=Qu2 hT (n:=n) (d:=d) (Qk5 n d (by omega)) hxs hys hxo hyo hxr hyr fs'.toList fs r hf hn h
     unfold Op.equalIn
     simp only [Sem.run_bind,run_underlying hu,Result.andThen_ok]
     have hp:(program:Sem Program).run P M.w=.ok P M.w:=rfl
     rw [hp]
     simp only [Result.andThen_ok]
     rw [if_neg (by rw [hs];simp),Sem.run_bind]
     rw [<-Array.forIn_toList]
     change ((forIn fs'.toList ((none,()):Option Bool×Unit) (Qft d xs ys)).run P M.w).andThen _=_
     rw [this]
     cases r<;>rfl
    ·simp at h
   ·simp at h
  ·simp at h
end
theorem Qvj {P:Program} {w:World} {op:BinOp} {t:TypeId} {ox oy:Operand} {xs ys:Array Value} (h:P.eqGuardType P.depth t=false):(eqGuard op t ox oy (.agg xs) (.agg ys)).run P w=.ok () w:=by
 unfold eqGuard
 generalize Op.eqGuardIn Op.maxDepth t (.agg xs) (.agg ys)=z
 generalize Op.eqGuardIn Op.maxDepth t (.agg xs) (.agg ys)=z'
 have hp:(program:Sem Program).run P w=.ok P w:=rfl
 cases op<;>simp [Sem.run_bind,hp,h]
section
variable {P:Program} {o:Oper} {a:Act} {w:World} {next:Act->World->Prop} {Q:Exit->Act->World->Prop}
theorem Yn {cv:Value} {w':World} (h:(execOp a.eval o).run P w=.ok (.value cv) w') (hk:next (a.put o.dst cv) w'):o.wp P a w next Q:=by
 unfold Oper.wp;rw [h];exact hk
theorem Qxq {w':World} (h:(execOp a.eval o).run P w=.ok .skip w') (hk:next (a.put o.dst Go.undef) w'):o.wp P a w next Q:=by
 unfold Oper.wp;rw [h];exact hk
end
variable {R:Type}
theorem rep_weak {M:Mem} {cv:Value} {v:V} (h:Rep M cv v) (hs:contentVal v=true):Rep M cv (unexact v):=by
 obtain ⟨A,n,cap,fl,cf,rfl,hf,hx,hle,hm,hc,ho,hr⟩:=Wx hs h
 refine .imm (.slice A n cap (unexact v) fl cf ?_ ?_ hle hm hc ho hr)
 ·cases v<;>simp [contentVal] at hs<;>simpa [unexact,flatV] using hf
 ·cases v<;>simp [contentVal] at hs<;>simp [unexact,isExact]
theorem rep0_weak {O:Nat->Prop} {w:World} {cv:Value} {v:V} (h:Rep0 O w cv v) (hs:contentVal v=true):Rep0 O w cv (unexact v):=by
 obtain ⟨A,n,cap,fl,cf,rfl,hf,hx,hle,hm,hc,ho,hr⟩:=Wx (M:=⟨w,O,λ_=>none,λ_=>.dead⟩) hs (.imm h)
 refine .slice A n cap (unexact v) fl cf ?_ ?_ hle hm hc ho hr
 ·cases v<;>simp [contentVal] at hs<;>simpa [unexact,flatV] using hf
 ·cases v<;>simp [contentVal] at hs<;>simp [unexact,isExact]
theorem Qww {C:Ctx} {O:Nat->Prop} {w:World} {cv:Value} {t:Nat} {v:V} {K:V->Option R} {r:R} (h:C.cast t v K=some r) (hr:Rep0 O w cv v):∃v',K v'=some r/\Rep0 O w cv v':=by
 unfold Ctx.cast at h
 split at h
 ·unfold V.asInt at h
  split at h
  ·split at h
   ·exact ⟨_,h,by rename_i e _ _;subst e;exact hr⟩
   ·simp at h
  ·simp at h
 ·unfold V.asBool at h
  split at h
  ·exact ⟨_,h,hr⟩
  ·simp at h
 ·unfold V.asStr at h
  split at h
  ·exact ⟨_,h,hr⟩
  ·simp at h
 ·split at h
  ·unfold V.asInts at h
   split at h
   ·split at h
    ·rename_i e;subst e;exact ⟨_,h,rep0_weak hr rfl⟩
    ·simp at h
   ·simp at h
  ·unfold V.asStrs at h
   split at h
   ·exact ⟨_,h,rep0_weak hr rfl⟩
   ·simp at h
  ·simp at h
  ·unfold V.asRecs at h
   split at h
   ·split at h
    ·rename_i e;subst e;exact ⟨_,h,rep0_weak hr rfl⟩
    ·simp at h
   ·simp at h
 ·simp at h
 ·exact ⟨v,h,hr⟩
theorem Qov {C:Ctx} {O:Nat->Prop} {w:World} {vs:List V} (cf:Nat->Value) (hr:∀j (h:j<vs.length),Rep0 O w (cf j) vs[j]):∀(ts:List Nat) (i:Nat) (K:List V->Option R) (r:R),C.castAll ts vs i K=some r ->
  ∃cs,K cs=some r/\cs.length=ts.length/\∀j (h:j<cs.length),Rep0 O w (cf (i+j)) cs[j]
 |[],i,K,r,h=>⟨[],h,rfl,λj h=>absurd h (by simp)⟩
 |
  t::ts,i,K,r,h=>by
  simp only [Ctx.castAll] at h
  have h0:Rep0 O w (cf i) (vs.getD i .undef):=by
   by_cases hi:i<vs.length
   ·simpa [Zl,Z1 hi] using hr i hi
   ·rw [Zl,Z17 (by omega)];exact .undef _
  obtain ⟨v',hK,hv'⟩:=Qww h h0
  obtain ⟨cs,hK',hl,hrs⟩:=Qov cf hr ts (i+1) _ r hK
  refine ⟨v'::cs,hK',by simp [hl],λj hj=>?_⟩
  cases j with
  |zero=>simpa using hv'
  |succ j=>have:=hrs j (by simpa using hj);simpa [Z36,Nat.add_comm 1 j] using this
theorem Qgt {C:Ctx} {M:Mem} {cv:Value} {t:Nat} {v:V} {K:V->Option R} {r:R} (h:C.cast t v K=some r) (hr:Rep M cv v):∃v',K v'=some r/\Rep M cv v'/\(v.isU=true->(C.ty t).d=.ptr 0\/v'=v):=by
 unfold Ctx.cast at h
 split at h
 ·unfold V.asInt at h
  split at h
  ·split at h
   ·exact ⟨_,h,by rename_i e _ _;subst e;exact hr,λhu=>by simp [V.isU] at hu⟩
   ·simp at h
  ·simp at h
 ·unfold V.asBool at h
  split at h
  ·exact ⟨_,h,hr,λhu=>by simp [V.isU] at hu⟩
  ·simp at h
 ·unfold V.asStr at h
  split at h
  ·exact ⟨_,h,hr,λhu=>by simp [V.isU] at hu⟩
  ·simp at h
 ·split at h
  ·unfold V.asInts at h
   split at h
   ·split at h
    ·rename_i e;subst e;exact ⟨_,h,rep_weak hr rfl,λhu=>by simp [V.isU] at hu⟩
    ·simp at h
   ·simp at h
  ·unfold V.asStrs at h
   split at h
   ·exact ⟨_,h,rep_weak hr rfl,λhu=>by simp [V.isU] at hu⟩
   ·simp at h
  ·simp at h
  ·unfold V.asRecs at h
   split at h
   ·split at h
    ·rename_i e;subst e;exact ⟨_,h,rep_weak hr rfl,λhu=>by simp [V.isU] at hu⟩
    ·simp at h
   ·simp at h
 ·simp at h
 ·exact ⟨v,h,hr,λ_=>.inr rfl⟩
theorem Qn3 {C:Ctx} {M:Mem} {vs:List V} (cf:Nat->Value) (hr:∀j (h:j<vs.length),Rep M (cf j) vs[j]):∀(ts:List Nat) (i:Nat) (K:List V->Option R) (r:R),C.castAll ts vs i K=some r ->
  ∃cs,K cs=some r/\cs.length=ts.length/\∀j (h:j<cs.length),Rep M (cf (i+j)) cs[j]
 |[],i,K,r,h=>⟨[],h,rfl,λj h=>absurd h (by simp)⟩
 |
  t::ts,i,K,r,h=>by
  simp only [Ctx.castAll] at h
  have h0:Rep M (cf i) (vs.getD i .undef):=by
   by_cases hi:i<vs.length
   ·simpa [Zl,Z1 hi] using hr i hi
   ·rw [Zl,Z17 (by omega)];exact .imm (.undef _)
  obtain ⟨v',hK,hv',_⟩:=Qgt h h0
  obtain ⟨cs,hK',hl,hrs⟩:=Qn3 cf hr ts (i+1) _ r hK
  refine ⟨v'::cs,hK',by simp [hl],λj hj=>?_⟩
  cases j with
  |zero=>simpa using hv'
  |succ j=>have:=hrs j (by simpa using hj);simpa [Z36,Nat.add_comm 1 j] using this
theorem Qte {P:Program} {C:Ctx} (hT:C.T.check P=true) {M:Mem} {op:BinOp} {t:Nat} {vx vy:V} {cx cy:Value} {K:V->Option R} {r:R} (ox oy:Operand)
  {S:Store} (hS:∀id∈refs1 vx,M.S id=S.getD id .dead) (h:C.binOpV op t S vx vy K=some r) (hx:Rep M cx vx) (hy:Rep M cy vy) :
  ∃cv v,(do eqGuard op t ox oy cx cy;binOp op t cx cy:Sem Value).run P M.w=.ok cv M.w/\K v=some r/\Rep M cv v:=by
 unfold Ctx.binOpV at h
 split at h
 ·
  rename_i k p k' q
  obtain rfl:=Qp hx;obtain rfl:=Qp hy
  have I:∀{k:IntKind} {n:Int},Rep M (.int k n) (.int k n):=.imm (.int _ _)
  have B:∀{b:Bool},Rep M (.bool b) (.bool b):=.imm (.bool _)
  split at h
  ·by_cases hq:0<=q
   ·rw [if_pos hq] at h
    refine ⟨_,_,?_,h,I⟩
    simp [Go.binOp,Op.shift,eqGuard_shl,wr];omega
   ·rw [if_neg hq] at h;simp at h
  ·by_cases hq:0<=q
   ·rw [if_pos hq] at h
    refine ⟨_,_,?_,h,I⟩
    simp [Go.binOp,Op.shift,eqGuard_shr];omega
   ·rw [if_neg hq] at h;simp at h
  ·by_cases hk:k=k'
   ·subst hk
    rw [if_pos rfl] at h
    split at h
    ·exact ⟨_,_,by simp [go_sem,Op.intArith];rfl,h,I⟩
    ·exact ⟨_,_,by simp [go_sem,Op.intArith];rfl,h,I⟩
    ·exact ⟨_,_,by simp [go_sem,Op.intArith];rfl,h,I⟩
    ·by_cases hq:q=0
     ·rw [if_pos hq] at h;simp at h
     ·rw [if_neg hq] at h;exact ⟨_,_,by simp [go_sem,Op.intDiv,hq];rfl,h,I⟩
    ·by_cases hq:q=0
     ·rw [if_pos hq] at h;simp at h
     ·rw [if_neg hq] at h;exact ⟨_,_,by simp [go_sem,Op.intDiv,hq],h,I⟩
    ·exact ⟨_,_,by simp [go_sem];rfl,h,I⟩
    ·exact ⟨_,_,by simp [go_sem];rfl,h,I⟩
    ·exact ⟨_,_,by simp [go_sem];rfl,h,I⟩
    ·exact ⟨.bool (decide (p=q)),_,by simp [go_sem];exact Z60 ..,h,B⟩
    ·exact ⟨.bool (!decide (p=q)),_,by simp [go_sem,bne];exact Z60 ..,h,B⟩
    ·exact ⟨_,_,by simp [go_sem],h,B⟩
    ·exact ⟨_,_,by simp [go_sem],h,B⟩
    ·exact ⟨_,_,by simp [go_sem],h,B⟩
    ·exact ⟨_,_,by simp [go_sem],h,B⟩
    ·simp at h
   ·rw [if_neg hk] at h;simp at h
 ·
  rename_i l l'
  obtain ⟨s,rfl,rfl⟩:=Ye hx;obtain ⟨s',rfl,rfl⟩:=Ye hy
  have B:∀{b:Bool},Rep M (.bool b) (.bool b):=.imm (.bool _)
  have hz:∀s:ByteArray,s.size=s.data.toList.length:=λs=>by rw [Z31];rfl
  split at h
  ·split at h
   ·rename_i hl
    refine ⟨.string (s++s'),_,?_,h,.imm (.str _ _ ?_)⟩
    ·have:¬(((s.size+s'.size:Nat):Int)>9223372036854775807):=by rw [hz,hz];omega
     simp only [eqGuard_add,Sem.run_bind,Sem.run_pure,Result.andThen_ok,Go.binOp,Op.stringOp,IntKind.max_i64,if_neg this]
    ·simp
   ·simp at h
  ·refine ⟨.bool (decide (s.data.toList=s'.data.toList)),_,?_,h,B⟩
   simp only [eqGuard_at_string,Sem.run_bind,Sem.run_pure,Result.andThen_ok,Go.binOp,Op.stringOp,ByteArray.toList_eq]
   congr 2;exact Z60 ..
  ·refine ⟨.bool (!decide (s.data.toList=s'.data.toList)),_,?_,h,B⟩
   simp only [eqGuard_at_string,Sem.run_bind,Sem.run_pure,Result.andThen_ok,Go.binOp,Op.stringOp,ByteArray.toList_eq]
   congr 3;exact Z60 ..
  ·simp at h
 ·
  rename_i p q
  obtain rfl:=Qan hx;obtain rfl:=Qan hy
  have B:∀{b:Bool},Rep M (.bool b) (.bool b):=.imm (.bool _)
  split at h
  ·rename_i hd
   have hu:=Qhg hT hd
   exact ⟨.bool (decide (p=q)),_,by simp only [eqGuard_at_bool,Sem.run_bind,Sem.run_pure,Result.andThen_ok,run_eql_bool M.w t p q hu,Z60],h,B⟩
  ·rename_i hd
   have hu:=Qhg hT hd
   exact ⟨.bool (!decide (p=q)),_,by simp only [eqGuard_at_bool,Sem.run_bind,Sem.run_pure,Result.andThen_ok,run_neq_bool M.w t p q hu,Z60],h,B⟩
  ·simp at h
 ·rename_i p q
  have guard:∀{op:BinOp} {r:Bool},C.eqV 4 t (.agg p) (.agg q)=some r->(eqGuard op t ox oy cx cy).run P M.w=.ok () M.w/\(Op.equal t cx cy).run P M.w=.ok r M.w:=by
   intro op r h
   refine ⟨?_,Qk5 hT 4 Op.maxDepth (by decide) t _ _ r cx cy h hx hy⟩
   obtain ⟨xs,rfl,_⟩:=Wp hx;obtain ⟨ys,rfl,_⟩:=Wp hy
   unfold Ctx.eqV at h
   simp only at h
   split at h
   ·rename_i fs hk
    split at h
    ·rename_i he
     obtain ⟨_,_,_,_,_,hg⟩:=Qnd hT hk he
     exact Qvj hg
    ·simp at h
   ·simp at h
  split at h
  ·rename_i r' he
   obtain ⟨h1,h2⟩:=guard (op:=.eql) he
   obtain ⟨xs,rfl,_⟩:=Wp hx;obtain ⟨ys,rfl,_⟩:=Wp hy
   refine ⟨.bool r',_,?_,h,.imm (.bool _)⟩
   simp only [Sem.run_bind,h1,Result.andThen_ok,Go.binOp,h2,Sem.run_pure]
  ·rename_i r' he
   obtain ⟨h1,h2⟩:=guard (op:=.neq) he
   obtain ⟨xs,rfl,_⟩:=Wp hx;obtain ⟨ys,rfl,_⟩:=Wp hy
   refine ⟨.bool (!r'),_,?_,h,.imm (.bool _)⟩
   simp only [Sem.run_bind,h1,Result.andThen_ok,Go.binOp,h2,Sem.run_pure]
  ·simp at h
 ·obtain rfl:=Qcw hx;obtain rfl:=Qcw hy
  split at h
  ·rename_i hd
   have hu:=Qa8 hT hd
   exact ⟨_,_,by simp only [eqGuard_at_pointer,Sem.run_bind,Sem.run_pure,Result.andThen_ok];exact run_eql_pointer_nil M.w t none (by simp [Program.pointee,hu]),h,.imm (.bool _)⟩
  ·rename_i hd
   have hu:=Qa8 hT hd
   exact ⟨_,_,by simp only [eqGuard_at_pointer,Sem.run_bind,Sem.run_pure,Result.andThen_ok];exact run_neq_pointer_nil M.w t none (by simp [Program.pointee,hu]),h,.imm (.bool _)⟩
  ·simp at h
 ·obtain ⟨ad,cf,rfl,_⟩:=Qia hx;obtain rfl:=Qcw hy
  split at h
  ·rename_i hd
   have hu:=Qa8 hT hd
   exact ⟨_,_,by simp only [eqGuard_at_pointer,Sem.run_bind,Sem.run_pure,Result.andThen_ok];exact run_eql_pointer_nil M.w t (some ad) (by simp [Program.pointee,hu]),h,.imm (.bool _)⟩
  ·rename_i hd
   have hu:=Qa8 hT hd
   exact ⟨_,_,by simp only [eqGuard_at_pointer,Sem.run_bind,Sem.run_pure,Result.andThen_ok];exact run_neq_pointer_nil M.w t (some ad) (by simp [Program.pointee,hu]),h,.imm (.bool _)⟩
  ·simp at h
 ·rename_i id off
  split at h
  ·rename_i ho
   obtain ⟨_,hl,hp⟩:=Ya hx
   obtain ⟨b,o',cap,_,rfl⟩:=hp (by rw [hS id (by simp [refs1])];exact ho)
   obtain rfl:=Qcw hy
   split at h
   ·rename_i hd
    have hu:=Qa8 hT hd
    exact ⟨_,_,by simp only [eqGuard_at_pointer,Sem.run_bind,Sem.run_pure,Result.andThen_ok];exact run_eql_pointer_nil M.w t (some _) (by simp [Program.pointee,hu]),h,.imm (.bool _)⟩
   ·rename_i hd
    have hu:=Qa8 hT hd
    exact ⟨_,_,by simp only [eqGuard_at_pointer,Sem.run_bind,Sem.run_pure,Result.andThen_ok];exact run_neq_pointer_nil M.w t (some _) (by simp [Program.pointee,hu]),h,.imm (.bool _)⟩
   ·simp at h
  ·simp at h
 ·simp at h
variable {R:Type}
theorem Qgw {α:Type} (z:Nat) (d:α):∀(l:List (List α)),(∀e∈l,e.length=z)->∀(i k:Nat),i<l.length->k<z->l.flatten.getD (i*z+k) d=(l.getD i []).getD k d
 |[],_,i,k,hi,_=>absurd hi (by simp)
 |
  e::l,h,i,k,hi,hk=>by
  have h1:=h e (by simp)
  cases i with
  |zero=>simp [Zl,Z47 (show k<e.length by omega)]
  |
   succ i=>
   have h2:=Qgw z d l (λx hx=>h x (by simp [hx])) i k (by simpa using hi) hk
   simp only [Z58,List.getD_cons_succ]
   rw [<-h2]
   simp only [Zl]
   rw [Z63 (by rw [h1,Z19];omega),h1]
   congr 2
   rw [Z19];omega
def Qf6 (w:World) (a:Addr) (j:Nat):Value:=(w.cell? (a.add j)).getD Go.undef
section
variable {P:Program} {C:Ctx} (hT:C.T.check P=true) {M:Mem}
include hT
theorem Qe7 {t:Nat} (hb:C.bad t=false) {a:Addr} {cs:List V} (hl:cs.length=(C.ty t).size)
  (hc:∀j (h:j<cs.length),∃cv,M.w.cell? (a.add j)=some cv/\cv.oneCell'=true/\Rep M cv cs[j]) :
  ∃cv,(loadVar t a).run P M.w=.ok cv M.w/\Rep M cv (Wl (C.isAgg t) cs):=by
 have hA:=Qin hT (Wg hb) M.w
 have hS:=Y2 hT (Wg hb) M.w
 cases ha:C.isAgg t with
 |
  true=>
  rw [ha] at hA
  have hcells:=run_loadCells (P:=P) M.w a cs.length (Qf6 M.w a) (λj hj=>by obtain ⟨cv,h1,_⟩:=hc j hj;simp [Qf6,h1])
  refine ⟨_,by simp only [loadVar,Sem.run_bind,hA,Result.andThen_ok,if_true,hS,<-hl,hcells,Sem.run_pure];rfl,?_⟩
  simp only [Wl,if_true]
  refine .agg _ _ (by simp) (λj hj=>?_) (λj hj=>?_) <;>
  ·obtain ⟨cv,h1,h2,h3⟩:=hc j hj
   have:((List.map (Qf6 M.w a) (List.range cs.length)).toArray.getD j Go.undef)=cv:=by
    simp [Z0,hj,Qf6,h1]
   rw [this];first|exact h2|exact h3
 |
  false=>
  rw [ha] at hA
  have h1:=Qae hT hb ha
  obtain ⟨cv,h2,h3,h4⟩:=hc 0 (by omega)
  rw [Addr.add_zero'] at h2
  refine ⟨cv,by simp only [loadVar,Sem.run_bind,hA,Result.andThen_ok,Z25,if_false,run_load,h2],?_⟩
  simpa [Wl,Zl,Z1 (show 0<cs.length by omega)] using h4
end
theorem Qaq {M:Mem} (hok:M.ok) {id ver:Nat} {c:V} (hc:contentB (M.S id) ver=some c) {loc:Loc} (hμ:M.μ id=some loc) :
  (∃n fl,flatV c=some (n,fl)/\∀j (h:j<fl.length),∃b o cap cv,loc=.blk b o cap/\M.w.cell? ⟨b,o+j,none⟩=some cv/\cv.oneCell'=true/\Rep0 M.O M.w cv fl[j]):=by
 have hB:=hok.blk id loc hμ
 unfold contentB at hc
 split at hc
 ·rename_i ver' g e c' he
  split at hc
  ·simp only [Zs] at hc;subst hc
   rw [he] at hB
   obtain ⟨_,hB⟩:=hB
   cases loc with
   |nil=>exact ⟨0,[],hB.2,λj hj=>absurd hj (by simp)⟩
   |
    blk b o cap=>
    obtain ⟨n,fl,cur,fz,hf,rfl,hn,hm,hh,hsz,_,_,hfz,hr⟩:=hB
    refine ⟨n,fl,hf,λj hj=>⟨b,0,cap,cur.getD j Go.undef,rfl,?_,(hr j hj).2,(hr j hj).1⟩⟩
    have hlen:=(Qj hf).1
    have:j<cur.size:=by rw [hsz];exact Z16 (by omega) (Z3 _ hn)
    simp [World.cell?,hh,Z0,this]
  ·simp at hc
 ·rename_i ver' c' he
  split at hc
  ·simp only [Zs] at hc;subst hc
   rw [he] at hB
   obtain ⟨n,hn,hB⟩:=hB
   have hcv:contentVal (unexact c')=true:=by cases c'<;>simp [lenV] at hn<;>rfl
   obtain ⟨A,n',cap,fl,cf,he',hf,_,_,hm,hcell,hone,hr⟩:=Wx hcv (.imm (M:=M) hB)
   have hf':flatV c'=some (n',fl):=by rw [<-hf];cases c'<;>rfl
   refine ⟨n',fl,hf',λj hj=>?_⟩
   obtain ⟨a,rfl,_,hc'⟩:=hcell j hj
   cases loc with
   |
    nil A0=>
    simp [Q0] at he'
    have h9:=(Qj hf').1
    rw [<-he'.2.1,Nat.zero_mul] at h9
    omega
   |
    blk b o cap'=>
    simp only [Q0,Value.slice.injEq,Zs] at he'
    obtain ⟨rfl,_,_⟩:=he'
    exact ⟨b,o,cap',cf j,rfl,by rw [<-Addr.add_lit];exact hc',hone j hj,hr j hj⟩
  ·simp at hc
 ·simp at hc
theorem Qex {P:Program} {t:TypeId} {a:Addr} {w:World}:(Instr.loadAt t (.pointer (some a))).run P w=(loadVar t a).run P w:=by
 simp [Instr.loadAt,Instr.sureAddr]
section
variable {P:Program} {C:Ctx} (hT:C.T.check P=true) {M:Mem}
include hT
theorem Qoz (hok:M.ok) {S:Store} {t:Nat} {x:V} (hS:∀id∈refs1 x,M.S id=S.getD id .dead) {cx:Value} {K:V->Option R} {r:R} (h:C.loadV t S x K=some r) (hx:Rep M cx x) :
  ∃cv v,(Instr.loadAt t cx).run P M.w=.ok cv M.w/\K v=some r/\Rep M cv v:=by
 unfold Ctx.loadV at h
 by_cases hb:C.bad t=true
 ·rw [if_pos hb] at h;simp at h
 rw [if_neg hb] at h
 have hb:C.bad t=false:=by simpa using hb
 split at h
 ·
  rename_i id off
  split at h
  ·rename_i cs hcs
   split at h
   ·rename_i hl
    have hk:=(hS id (by simp [refs1])).trans hcs
    obtain ⟨_,hi',hp⟩:=Ya hx
    obtain ⟨b,o,cap,hμ,rfl⟩:=hp (by rw [hk];rfl)
    have hB:=hok.blk id _ hμ
    rw [hk] at hB
    obtain ⟨b',o',cap',he,_,_,_,hcell⟩:=hB
    simp only [Loc.blk.injEq] at he;obtain ⟨rfl,rfl,rfl⟩:=he
    obtain ⟨cv,hrun,hrep⟩:=Qe7 hT hb (a:=⟨b,o+off,none⟩) (cs:=(cs.drop off).take (C.ty t).size) (by simp;omega) (λj hj=>by
     obtain ⟨cv,h1,h2,h3,_⟩:=hcell (off+j) (by simp at hj;omega)
     refine ⟨cv,by rw [Addr.add_lit,Z36];exact h1,h2,by rw [Qml hl];exact h3⟩)
    exact ⟨cv,_,by rw [Qex];exact hrun,h,hrep⟩
   ·simp at h
  ·simp at h
 ·
  rename_i cs
  split at h
  ·rename_i hl
   obtain ⟨a,cf,rfl,hc,ho,hr⟩:=Qia hx
   obtain ⟨cv,hrun,hrep⟩:=Qe7 hT hb (a:=a) (cs:=cs.take (C.ty t).size) (by simp;omega) (λj hj=>by
    have hj':j<cs.length:=by simp at hj;omega
    exact ⟨cf j,(hc j hj').2,ho j hj',by simpa using Rep.imm (M:=M) (hr j hj')⟩)
   exact ⟨cv,_,by rw [Qex];exact hrun,h,hrep⟩
  ·simp at h
 ·
  rename_i id ver i off
  obtain ⟨_,hi',hp⟩:=Qdm hx
  have one:∀{v:V} {cv:Value} {a:Addr},C.isAgg t=false->M.w.cell? a=some cv->cv.oneCell'=true->Rep M cv v->∃cv,(Instr.loadAt t (.pointer (some a))).run P M.w=.ok cv M.w/\Rep M cv v:=by
   intro v cv a ha h1 h2 h3
   obtain ⟨cv',hrun,hrep⟩:=Qe7 hT hb (a:=a) (cs:=[v]) (by simp [Qae hT hb ha]) (λj hj=>⟨cv,by simp at hj;subst hj;rw [Addr.add_zero'];exact h1,h2,by simp at hj;subst hj;exact h3⟩)
   exact ⟨cv',by rw [Qex];exact hrun,by rw [ha] at hrep;simpa [Wl] using hrep⟩
  split at h
  ·rename_i y k l hc
   split at h
   ·rename_i h0
    obtain ⟨rfl,ha⟩:=h0
    split at h
    ·rename_i hil
     have hc':=(congrArg (contentB · ver) (hS id (by simp [refs1]))).trans hc
     obtain ⟨b,o,cap,hμ,rfl⟩:=hp _ hc'
     obtain ⟨n,fl,hf,hcell⟩:=Qaq hok hc' hμ
     simp only [flatV,Zs,Z2] at hf;obtain ⟨rfl,rfl⟩:=hf
     obtain ⟨b',o',cap',cv,he,h1,h2,h3⟩:=hcell i (by simpa using hil)
     simp only [Loc.blk.injEq] at he;obtain ⟨rfl,rfl,rfl⟩:=he
     have h3':Rep M cv (.int k (l.getD i 0)):=.imm (by simpa [Zl,Z1 hil] using h3)
     obtain ⟨cv',hrun,hrep⟩:=one ha (a:=⟨b,o+(i*zOf (.ints y k l)+0),none⟩) (by simpa [zOf] using h1) h2 h3'
     exact ⟨cv',_,hrun,h,hrep⟩
    ·simp at h
   ·simp at h
  ·rename_i y l hc
   split at h
   ·rename_i h0
    obtain ⟨rfl,ha⟩:=h0
    split at h
    ·rename_i hil
     have hc':=(congrArg (contentB · ver) (hS id (by simp [refs1]))).trans hc
     obtain ⟨b,o,cap,hμ,rfl⟩:=hp _ hc'
     obtain ⟨n,fl,hf,hcell⟩:=Qaq hok hc' hμ
     simp only [flatV,Zs,Z2] at hf;obtain ⟨rfl,rfl⟩:=hf
     obtain ⟨b',o',cap',cv,he,h1,h2,h3⟩:=hcell i (by simpa using hil)
     simp only [Loc.blk.injEq] at he;obtain ⟨rfl,rfl,rfl⟩:=he
     have h3':Rep M cv (.str (l.getD i [])):=.imm (by simpa [Zl,Z1 hil] using h3)
     obtain ⟨cv',hrun,hrep⟩:=one ha (a:=⟨b,o+(i*zOf (.strs y l)+0),none⟩) (by simpa [zOf] using h1) h2 h3'
     exact ⟨cv',_,hrun,h,hrep⟩
    ·simp at h
   ·simp at h
  ·rename_i y z l hc
   split at h
   ·rename_i h0
    obtain ⟨hz,hfl⟩:=h0
    split at h
    ·rename_i hil
     have hc':=(congrArg (contentB · ver) (hS id (by simp [refs1]))).trans hc
     obtain ⟨b,o,cap,hμ,rfl⟩:=hp _ hc'
     obtain ⟨n,fl,hf,hcell⟩:=Qaq hok hc' hμ
     simp only [flatV] at hf
     split at hf
     case isFalse=>simp at hf
     rename_i hzl
     simp only [Zs,Z2] at hf;obtain ⟨rfl,rfl⟩:=hf
     have hlen:(l.getD i []).length=z:=by
      rw [Zl,Z1 hil];exact hzl.2 _ (Z15 hil)
     have hall:∀j,j<z->∃cv,M.w.cell? ⟨b,o+(i*z+j),none⟩=some cv/\cv.oneCell'=true/\Rep M cv ((l.getD i []).getD j .undef):=by
      intro j hj
      have hb':i*z+j<l.flatten.length:=by
       rw [Qd0 z l hzl.2]
       have:=Z3 z (show i+1<=l.length by omega)
       rw [Z19] at this;omega
      obtain ⟨b',o',cap',cv,he,h1,h2,h3⟩:=hcell (i*z+j) hb'
      simp only [Loc.blk.injEq] at he;obtain ⟨rfl,rfl,rfl⟩:=he
      refine ⟨cv,h1,h2,.imm ?_⟩
      rw [<-Qgw z .undef l hzl.2 i j hil hj]
      simpa [Zl,Z1 hb'] using h3
     let cf:Nat->Value:=λj=>(M.w.cell? ⟨b,o+(i*z+j),none⟩).getD Go.undef
     have hcf:∀j,j<z->M.w.cell? ⟨b,o+(i*z+j),none⟩=some (cf j)/\(cf j).oneCell'=true/\Rep M (cf j) ((l.getD i []).getD j .undef):=by
      intro j hj
      obtain ⟨cv,h1,h2,h3⟩:=hall j hj
      have:cf j=cv:=by simp [cf,h1]
      rw [this];exact ⟨h1,h2,h3⟩
     split at h
     ·rename_i ha
      obtain ⟨cs,hK,hl,hrs⟩:=Qn3 (M:=M) (vs:=l.getD i []) cf (λj hj=>by
       have:=(hcf j (by omega)).2.2
       rwa [Zl (l:=l.getD i []),Z1 hj] at this) _ _ _ _ h
      obtain ⟨cv,hrun,hrep⟩:=Qe7 hT hb (a:=⟨b,o+(i*z+off),none⟩) (cs:=cs) (by omega) (λj hj=>by
       refine ⟨cf (off+j),?_,(hcf (off+j) (by omega)).2.1,hrs j hj⟩
       rw [Addr.add_lit]
       have:=(hcf (off+j) (by omega)).1
       rwa [<-Z36 (i*z),<-Z36 o] at this)
      rw [ha] at hrep
      exact ⟨cv,_,by rw [Qex];exact hrun,hK,hrep⟩
     ·rename_i ha
      have ha:C.isAgg t=false:=by simpa using ha
      have h1z:=Qae hT hb ha
      obtain ⟨h1,h2,h3⟩:=hcf off (by omega)
      obtain ⟨v',hK,hv',_⟩:=Qgt h h3
      obtain ⟨cv',hrun,hrep⟩:=one ha (a:=⟨b,o+(i*zOf (.recs y z l)+off),none⟩) (by simpa [zOf] using h1) h2 hv'
      exact ⟨cv',_,hrun,hK,hrep⟩
    ·simp at h
   ·simp at h
  ·simp at h
 ·simp at h
end
variable {R:Type}
theorem Qix (a:Addr) (m j:Nat):(a.add m).add j=a.add (m+j):=by
 unfold Addr.add
 by_cases hm:m=0
 ·subst hm;simp
 ·by_cases hj:j=0
  ·subst hj;simp [hm]
  ·simp [hm,hj,Z36]
theorem Qde (a:Addr) (m:Nat):(a.add m).block=a.block:=by unfold Addr.add;split<;>rfl
section
variable {P:Program} {C:Ctx} (hT:C.T.check P=true) {M:Mem}
include hT
theorem Qc9 {t e:Nat} (hd:(C.ty t).d=.slice e) (hb:C.bad e=false) {a:Addr} {len cap:Nat} {k:IntKind} {i:Int} (hi:0<=i/\i<(len:Int)) (w:World) :
  (Instr.indexAt t (.slice (some a) len cap) (.int k i)).run P w=.ok (.pointer (some (a.add (i.toNat*(C.ty e).size)))) w:=by
 have hu:=(Q9 hT hd).1
 have hel:P.elem t=e:=by simp [Program.elem,hu]
 rw [run_indexAt_slice w t a len cap k i (by rw [hel];exact hu),if_pos hi,hel,Y2 hT (Wg hb)]
 rfl
theorem Qvc (hok:M.ok) {S:Store} {t:Nat} {x ix:V} (hS:∀id∈refs1 x,M.S id=S.getD id .dead) {cx cix:Value} {K:V->Option R} {r:R} (h:C.indexAddrV t S x ix K=some r) (hx:Rep M cx x) (hix:Rep M cix ix) :
  ∃cv v,(Instr.indexAt t cx cix).run P M.w=.ok cv M.w/\K v=some r/\Rep M cv v:=by
 unfold Ctx.indexAddrV at h
 split at h
 case h_2=>simp at h
 rename_i k i
 obtain rfl:=Qp hix
 split at h
 ·rename_i e hd
  by_cases hb:C.bad e=true
  ·rw [if_pos hb] at h;simp at h
  rw [if_neg hb] at h
  have hb:C.bad e=false:=by simpa using hb
  split at h
  ·
   rename_i y k' l
   split at h
   case isFalse=>simp at h
   rename_i hz
   split at h
   case isFalse=>simp at h
   rename_i hi
   obtain ⟨A,n,cap,fl,cf,rfl,hf,_,_,_,hc,ho,hr⟩:=Wx rfl hx
   simp only [flatV,Zs,Z2] at hf;obtain ⟨rfl,rfl⟩:=hf
   have hil:i.toNat<l.length:=by omega
   obtain ⟨a,rfl,hO,hcell⟩:=hc i.toNat (by simpa using hil)
   refine ⟨_,_,Qc9 hT hd hb hi M.w,h,.imm (.cptr _ _ (λ_=>cf i.toNat) (λj hj=>?_) (λj hj=>ho _ (by simpa using hil)) (λj hj=>?_))⟩
   ·simp at hj;subst hj
    rw [hz,Z120,Addr.add_zero',Qde];exact ⟨hO,hcell⟩
   ·simp at hj;subst hj
    have:=hr i.toNat (by simpa using hil)
    simpa [Zl,Z1 hil] using this
  ·rename_i y l
   split at h
   case isFalse=>simp at h
   rename_i hz
   split at h
   case isFalse=>simp at h
   rename_i hi
   obtain ⟨A,n,cap,fl,cf,rfl,hf,_,_,_,hc,ho,hr⟩:=Wx rfl hx
   simp only [flatV,Zs,Z2] at hf;obtain ⟨rfl,rfl⟩:=hf
   have hil:i.toNat<l.length:=by omega
   obtain ⟨a,rfl,hO,hcell⟩:=hc i.toNat (by simpa using hil)
   refine ⟨_,_,Qc9 hT hd hb hi M.w,h,.imm (.cptr _ _ (λ_=>cf i.toNat) (λj hj=>?_) (λj hj=>ho _ (by simpa using hil)) (λj hj=>?_))⟩
   ·simp at hj;subst hj
    rw [hz,Z120,Addr.add_zero',Qde];exact ⟨hO,hcell⟩
   ·simp at hj;subst hj
    have:=hr i.toNat (by simpa using hil)
    simpa [Zl,Z1 hil] using this
  ·
   rename_i y z l
   split at h
   case isFalse=>simp at h
   rename_i hz
   obtain ⟨hz,hfl⟩:=hz
   split at h
   case isFalse=>simp at h
   rename_i hi
   obtain ⟨A,n,cap,fl,cf,rfl,hf,_,_,_,hc,ho,hr⟩:=Wx rfl hx
   simp only [flatV] at hf
   split at hf
   case isFalse=>simp at hf
   rename_i hzl
   simp only [Zs,Z2] at hf;obtain ⟨rfl,rfl⟩:=hf
   have hil:i.toNat<l.length:=by omega
   have hlen:(l.getD i.toNat []).length=z:=by
    rw [Zl,Z1 hil];exact hzl.2 _ (Z15 hil)
   have hin:∀j,j<z->i.toNat*z+j<l.flatten.length:=λj hj=>by
    rw [Qd0 z l hzl.2]
    have:=Z3 z (show i.toNat+1<=l.length by omega)
    rw [Z19] at this;omega
   obtain ⟨cs,hK,hl,hrs⟩:=Qov (O:=M.O) (w:=M.w) (vs:=l.getD i.toNat []) (λj=>cf (i.toNat*z+j)) (λj hj=>by
    have h3:=hr (i.toNat*z+j) (hin j (by omega))
    have h4:=Qgw z .undef l hzl.2 i.toNat j hil (by omega)
    rw [Zl,Z1 (hin j (by omega)),Zl (l:=l.getD i.toNat []),Z1 hj] at h4
    simp only [Z52] at h4
    rw [<-h4];exact h3) _ _ _ _ h
   obtain ⟨a,rfl,hO,hcell⟩:=hc (i.toNat*z+0) (hin 0 hzl.1)
   refine ⟨_,_,Qc9 hT hd hb hi M.w,hK,.imm (.cptr _ _ (λj=>cf (i.toNat*z+j)) (λj hj=>?_) (λj hj=>ho _ (hin j (by omega))) (λj hj=>?_))⟩
   ·obtain ⟨a',he,hO',hcell'⟩:=hc (i.toNat*z+j) (hin j (by omega))
    simp only [Zs] at he;subst he
    rw [hz,Qix,Qde];exact ⟨hO,hcell'⟩
   ·have:=hrs j hj
    rwa [Z18] at this
  ·
   rename_i id ver
   split at h
   case h_2=>simp at h
   rename_i c hc
   split at h
   case isFalse=>simp at h
   rename_i hz
   split at h
   case h_2=>simp at h
   rename_i n hn
   split at h
   case isFalse=>simp at h
   rename_i hi
   obtain ⟨h1,hid,hp⟩:=W0 hx
   have hc':contentB (M.S id) ver=some c:=by rw [hS id (by simp [refs1])];exact hc
   obtain ⟨loc,n',hμ,hn',rfl⟩:=hp c hc'
   rw [hn] at hn';simp only [Zs] at hn';subst hn'
   obtain ⟨m,fl,hf,hcell⟩:=Qaq hok hc' hμ
   have hm:=Qj hf
   rw [hn] at hm;obtain ⟨hm1,hm2⟩:=hm;simp only [Zs] at hm2;subst hm2
   have hz0:0<zOf c:=by
    cases c<;>simp [zOf]<;>simp [flatV] at hf;exact hf.1.1
   obtain ⟨b,o,cap,_,rfl,_⟩:=hcell (i.toNat*zOf c) (by
    rw [hm1];exact Z86 (by omega) hz0)
   refine ⟨_,_,Qc9 hT hd hb hi M.w,h,.ref ⟨rfl,hid,λc' hc''=>?_⟩⟩
   rw [hc'] at hc'';simp only [Zs] at hc'';subst hc''
   exact ⟨b,o,cap,hμ,by rw [Addr.add_lit,hz,Z77]⟩
  ·
   rename_i id ver lo n
   split at h
   case h_2=>simp at h
   rename_i c hc
   split at h
   case isFalse=>simp at h
   rename_i hz
   split at h
   case isFalse=>simp at h
   rename_i hi
   obtain ⟨h1,hid,hp⟩:=W7 hx
   have hc':contentB (M.S id) ver=some c:=by rw [hS id (by simp [refs1])];exact hc
   obtain ⟨loc,m,a,cap',hμ,hm,hlm,hnc,rfl,_,hpos,_⟩:=hp c hc'
   obtain ⟨b,o,cap,rfl,rfl⟩:=hpos (by omega)
   refine ⟨_,_,Qc9 hT hd hb hi M.w,h,.ref ⟨rfl,hid,λc' hc''=>?_⟩⟩
   rw [hc'] at hc'';simp only [Zs] at hc'';subst hc''
   exact ⟨b,o,cap,hμ,by rw [Addr.add_lit,hz,Z77,Z19,Z36]⟩
  ·simp at h
 ·
  rename_i n e hd
  by_cases hb:C.bad e=true
  ·rw [if_pos hb] at h;simp at h
  rw [if_neg hb] at h
  have hb:C.bad e=false:=by simpa using hb
  have hu:=(Qek hT hd).1
  have hel:P.elem t=e:=by simp [Program.elem,hu]
  have hal:P.arrayLen t=n:=by simp [Program.arrayLen,hu]
  have hrun:∀(a:Addr),0<=i/\i<(n:Int)->(Instr.indexAt t (.pointer (some a)) (.int k i)).run P M.w=.ok (.pointer (some (a.add (i.toNat*(C.ty e).size)))) M.w:=λa hi=>by
   rw [run_indexAt_array M.w t a k i (by rw [hel,hal];exact hu),hal,if_pos hi,hel,Y2 hT (Wg hb)]
   rfl
  split at h
  case h_2=>simp at h
  rename_i id off
  split at h
  ·rename_i ver e' c hk
   split at h
   case isFalse=>simp at h
   rename_i h0
   obtain ⟨rfl,hz,_⟩:=h0
   split at h
   case isFalse=>simp at h
   rename_i hi
   have hk':=(hS id (by simp [refs1])).trans hk
   obtain ⟨h1,hid',hp⟩:=Ya hx
   obtain ⟨b,o,cap,hμ,rfl⟩:=hp (by rw [hk'];rfl)
   have:contentB (M.S id) ver=some c:=by rw [hk'];simp [contentB]
   refine ⟨_,_,hrun _ hi,h,.ref ⟨rfl,⟨hid',Qle this⟩,λc' hc'=>?_⟩⟩
   rw [this] at hc';simp only [Zs] at hc';subst hc'
   exact ⟨b,o,cap,hμ,by rw [Addr.add_lit,hz,Z77,Z77]⟩
  ·rename_i cs hk
   split at h
   case isFalse=>simp at h
   split at h
   case isFalse=>simp at h
   rename_i hi
   have hk':=(hS id (by simp [refs1])).trans hk
   obtain ⟨h1,hid',hp⟩:=Ya hx
   obtain ⟨b,o,cap,hμ,rfl⟩:=hp (by rw [hk'];rfl)
   exact ⟨_,_,hrun _ hi,h,.ref ⟨rfl,hid',λ_=>⟨b,o,cap,hμ,by rw [Addr.add_lit,Z36]⟩⟩⟩
  ·simp at h
 ·simp at h
end
variable {R:Type}
theorem Ql4 {α:Type} (z:Nat):∀(l:List (List α)) (a:Nat),(∀e∈l,e.length=z)->a<=l.length->(l.drop a).flatten=l.flatten.drop (a*z)
 |l,0,_,_=>by simp
 |[],a+1,_,h=>by simp at h
 |
  e::l,a+1,h,ha=>by
  have h1:=h e (by simp)
  have ih:=Ql4 z l a (λx hx=>h x (by simp [hx])) (by simpa using ha)
  simp only [List.drop_succ_cons,ih,Z58,Z19,Z70]
  have h2:e.drop (a*z+z)=[]:=Z26 (by rw [h1];omega)
  rw [List.drop_append,h1,h2,Z107,show a*z+z-z=a*z by omega]
theorem Qnj {α:Type} (z:Nat):∀(l:List (List α)) (a:Nat),(∀e∈l,e.length=z)->a<=l.length->(l.take a).flatten=l.flatten.take (a*z)
 |l,0,_,_=>by simp
 |[],a+1,_,h=>by simp at h
 |
  e::l,a+1,h,ha=>by
  have h1:=h e (by simp)
  have ih:=Qnj z l a (λx hx=>h x (by simp [hx])) (by simpa using ha)
  simp only [List.take_succ_cons,Z58,ih,Z19,Z70]
  rw [List.take_append,h1,Z28 (l:=e) (by rw [h1];omega),show a*z+z-z=a*z by omega]
theorem Qei {v:V} {n:Nat} {fl:List V} (h:flatV v=some (n,fl)) {a k:Nat} (hk:a+k<=n):flatV (midV a k v)=some (k,(fl.drop (a*zOf v)).take (k*zOf v)):=by
 cases v<;>simp only [flatV] at h<;>try (simp at h;done)
 ·simp only [Zs,Z2] at h;obtain ⟨rfl,rfl⟩:=h
  simp [midV,flatV,zOf,List.map_take,List.map_drop];omega
 ·simp only [Zs,Z2] at h;obtain ⟨rfl,rfl⟩:=h
  simp [midV,flatV,zOf,List.map_take,List.map_drop];omega
 ·rename_i x z l
  split at h
  case isFalse=>simp at h
  rename_i hz
  simp only [Zs,Z2] at h;obtain ⟨rfl,rfl⟩:=h
  have hd:∀e∈l.drop a,e.length=z:=λe he=>hz.2 e (Z67 he)
  have ht:∀e∈(l.drop a).take k,e.length=z:=λe he=>hd e (Z56 he)
  simp only [midV,flatV,zOf,if_pos (show 0<z/\∀e∈(l.drop a).take k,e.length=z from ⟨hz.1,ht⟩)]
  rw [Qnj z _ k hd (by simp;omega),Ql4 z _ a hz.2 (by omega)]
  simp;omega
theorem Qtg {v:V} {n:Nat} {fl:List V} (h:flatV v=some (n,fl)) {a:Nat} (hk:a<=n):flatV (dropV a v)=some (n-a,(fl.drop (a*zOf v)).take ((n-a)*zOf v)):=by
 have h2:=Qei h (a:=a) (k:=n-a) (by omega)
 rw [<-h2]
 have hl:=(Qj h).2
 cases v<;>simp [lenV] at hl<;>subst hl<;>simp [dropV,midV,flatV]<;>(rw [Z28 (by simp)])
theorem Qmp {v:V} {n:Nat} {fl:List V} (h:flatV v=some (n,fl)) {x:Bool} {k:Nat} (hk:k<=n):flatV (takeV x k v)=some (k,(fl.drop (0*zOf v)).take (k*zOf v)):=by
 have h2:=Qei h (a:=0) (k:=k) (by omega)
 rw [<-h2]
 cases v<;>simp [takeV,midV,flatV]
theorem Qj9 {O:Nat->Prop} {w:World} {A A':Option Addr} {n cap' lo k z:Nat} {fl:List V} {cf:Nat->Value} {v':V}
  (hfl:fl.length=n*z) (hlo:lo+k<=n) (hc:∀j,j<fl.length->∃a,A=some a/\¬O a.block/\w.cell? (a.add j)=some (cf j)) (ho:∀j,j<fl.length->(cf j).oneCell'=true)
  (hr:∀j (h:j<fl.length),Rep0 O w (cf j) fl[j]) (hf:flatV v'=some (k,(fl.drop (lo*z)).take (k*z))) (hcap:k<=cap') (hx:isExact v'=true->cap'=k)
  (hA:A'=none->cap'=0) (hA':0<k->A'=A.map (·.add (lo*z))):Rep0 O w (.slice A' k cap') v':=by
 have hm:lo*z+k*z<=n*z:=by rw [<-Z19];exact Z3 z hlo
 have hin:∀j,j<((fl.drop (lo*z)).take (k*z)).length->lo*z+j<fl.length/\0<k:=λj hj=>by
  simp only [Z8,Z35] at hj
  refine ⟨by omega,?_⟩
  rcases Z12 k with rfl|h
  ·simp at hj
  ·exact h
 refine .slice A' k cap' v' _ (λj=>cf (lo*z+j)) hf hx hcap hA (λj hj=>?_) (λj hj=>ho _ (hin j hj).1) (λj hj=>?_)
 ·obtain ⟨h1,h2⟩:=hin j hj
  obtain ⟨a,rfl,hO,hcell⟩:=hc _ h1
  exact ⟨a.add (lo*z),hA' h2,by rw [Qde];exact hO,by rw [Qix];exact hcell⟩
 ·have:=hr _ (hin j hj).1
  simpa using this
theorem Jh {a:Option Addr} {l h m s:Nat}:sliced a l h m s=.slice (if m=l then a else a.map (·.add (l*s))) (h-l) (m-l):=rfl
section
variable {P:Program} {C:Ctx} (hT:C.T.check P=true) {M:Mem}
include hT
theorem Qr0 {t e:Nat} (hd:(C.ty t).d=.slice e) (hb:C.bad e=false) {x:V} (hz:(C.ty e).size=zOf x) {n:Nat} (hn:lenV x=some n) {lo hi mx:Option V} {cx:Value} {clo chi cmx:Option Value} {K:V->Option R} {r:R}
  (h:Qfw n x lo hi mx K=some r) (hx:Rep M cx x) (hlo:∀v,lo=some v->∃c,clo=some c/\Rep M c v) (hlo':lo=none->clo=none)
  (hhi:∀v,hi=some v->∃c,chi=some c/\Rep M c v) (hhi':hi=none->chi=none) (hmx:∀v,mx=some v->∃c,cmx=some c/\Rep M c v) (hmx':mx=none->cmx=none) :
  ∃cv v,(Instr.sliceAt t cx clo chi cmx).run P M.w=.ok cv M.w/\K v=some r/\Rep M cv v:=by
 have hu:=(Q9 hT hd).1
 have hel:P.elem t=e:=by simp [Program.elem,hu]
 have hs:contentVal x=true:=by cases x<;>simp [lenV] at hn<;>rfl
 obtain ⟨A,n',cap,fl,cf,rfl,hf,hex,hle,hm,hc,ho,hr⟩:=Wx hs hx
 have hfl:=Qj hf
 rw [hn] at hfl;obtain ⟨hfl,h0⟩:=hfl;simp only [Zs] at h0;subst h0
 have hu':P.underlying t=some (.slice (P.elem t)):=by rw [hel];exact hu
 have hsz:=Y2 hT (Wg hb) M.w
 rw [run_sliceAt_slice M.w t _ _ _ _ hu']
 have sub:∀{l k cap':Nat} {A':Option Addr} {v':V},l+k<=n->flatV v'=some (k,(fl.drop (l*zOf x)).take (k*zOf x))->k<=cap'->(isExact v'=true->cap'=k)->(A'=none->cap'=0)->(0<k->A'=A.map (·.add (l*zOf x))) ->
   Rep M (.slice A' k cap') v':=λh1 h2 h3 h4 h5 h6=>.imm (Qj9 hfl h1 hc ho hr h2 h3 h4 h5 h6)
 unfold Qfw at h
 split at h
 ·split at h
  case isFalse=>simp at h
  rename_i a _ b hab
  obtain ⟨_,rfl,ha⟩:=hlo _ rfl;obtain ⟨_,rfl,hb'⟩:=hhi _ rfl;obtain rfl:=hmx' rfl
  obtain rfl:=Qp ha;obtain rfl:=Qp hb'
  refine ⟨_,_,by rw [run_slice_lh M.w t A n cap hu' _ _ _ _ (by omega) (by omega) (by omega),hel,hsz];rfl,h,?_⟩
  rw [Jh,hz]
  refine sub (l:=a.toNat) (by omega) (Qei hf (by omega)) (by omega) (λhe=>?_) ?_ ?_
  ·cases x<;>simp [lenV] at hn<;>simp [midV,isExact] at he
  ·split
   ·intro _;omega
   ·intro h';cases A with
    |none=>have:=hm rfl;omega
    |some _=>simp at h'
  ·intro hk;rw [if_neg (by omega)]
 ·split at h
  case isFalse=>simp at h
  rename_i a hab
  obtain ⟨_,rfl,ha⟩:=hlo _ rfl;obtain rfl:=hhi' rfl;obtain rfl:=hmx' rfl
  obtain rfl:=Qp ha
  refine ⟨_,_,by rw [run_slice_l M.w t A n cap hu' _ _ (by omega) (by omega),hel,hsz];rfl,h,?_⟩
  rw [Jh,hz]
  refine sub (l:=a.toNat) (by omega) (Qtg hf (by omega)) (by omega) (λhe=>?_) ?_ ?_
  ·have:isExact x=true:=by cases x<;>simp [lenV] at hn<;>simpa [dropV,isExact] using he
   have:=hex this;omega
  ·split
   ·intro _;omega
   ·intro h';cases A with
    |none=>have:=hm rfl;omega
    |some _=>simp at h'
  ·intro hk;rw [if_neg (by omega)]
 ·split at h
  case isFalse=>simp at h
  rename_i b hab
  obtain rfl:=hlo' rfl;obtain ⟨_,rfl,hb'⟩:=hhi _ rfl;obtain rfl:=hmx' rfl
  obtain rfl:=Qp hb'
  refine ⟨_,_,by rw [run_slice_h M.w t A n cap hu' _ _ (by omega) (by omega),hel,hsz];rfl,h,?_⟩
  rw [Jh,hz]
  refine sub (l:=0) (k:=b.toNat-0) (by omega) (Qmp hf (by omega)) (by omega) (λhe=>?_) ?_ ?_
  ·cases x<;>simp [lenV] at hn<;>simp [takeV,isExact] at he
  ·split
   ·intro _;omega
   ·intro h';cases A with
    |none=>have:=hm rfl;omega
    |some _=>simp at h'
  ·intro hk;rw [if_neg (by omega)]
 ·split at h
  case isFalse=>simp at h
  rename_i b _ m hab
  obtain rfl:=hlo' rfl;obtain ⟨_,rfl,hb'⟩:=hhi _ rfl;obtain ⟨_,rfl,hm'⟩:=hmx _ rfl
  obtain rfl:=Qp hb';obtain rfl:=Qp hm'
  refine ⟨_,_,by rw [run_slice_hm M.w t A n cap hu' _ _ _ _ (by omega) (by omega) (by omega),hel,hsz];rfl,h,?_⟩
  rw [Jh,hz]
  refine sub (l:=0) (k:=b.toNat-0) (by omega) (Qmp hf (by omega)) (by omega) (λhe=>?_) ?_ ?_
  ·have:b=m:=by cases x<;>simp [lenV] at hn<;>simpa [takeV,isExact] using he
   omega
  ·split
   ·intro _;omega
   ·intro h';cases A with
    |none=>have:=hm rfl;omega
    |some _=>simp at h'
  ·intro hk;rw [if_neg (by omega)]
 ·obtain rfl:=hlo' rfl;obtain rfl:=hhi' rfl;obtain rfl:=hmx' rfl
  refine ⟨_,_,by rw [run_slice_all M.w t A n cap hu',hel,hsz];rfl,h,?_⟩
  rw [Jh]
  have:(if cap=0 then A else A.map (·.add (0*(C.ty e).size)))=A:=by split<;>simp [Addr.add_zero',show (λx:Addr=>x.add 0)=_root_.id from funext Addr.add_zero']
  rw [this,Nat.sub_zero,Nat.sub_zero];exact hx
 ·simp at h
theorem Qx7 (hok:M.ok) {t e:Nat} (hd:(C.ty t).d=.slice e) (hb:C.bad e=false) {id ver n:Nat} {c:V} (hc:contentB (M.S id) ver=some c) (hz:(C.ty e).size=zOf c) (hn:lenV c=some n) {lo hi mx:Option V} {cx:Value} {clo chi cmx:Option Value} {K:V->Option R} {r:R}
  (h:Qfz n id ver lo hi mx K=some r) (hx:Rep M cx (.sref id ver)) (hlo:∀v,lo=some v->∃c,clo=some c/\Rep M c v) (hlo':lo=none->clo=none)
  (hhi:∀v,hi=some v->∃c,chi=some c/\Rep M c v) (hhi':hi=none->chi=none) (hmx:∀v,mx=some v->∃c,cmx=some c/\Rep M c v) (hmx':mx=none->cmx=none) :
  ∃cv v,(Instr.sliceAt t cx clo chi cmx).run P M.w=.ok cv M.w/\K v=some r/\Rep M cv v:=by
 have hu:=(Q9 hT hd).1
 have hel:P.elem t=e:=by simp [Program.elem,hu]
 have hu':P.underlying t=some (.slice (P.elem t)):=by rw [hel];exact hu
 have hsz:=Y2 hT (Wg hb) M.w
 obtain ⟨_,hid,hp⟩:=W0 hx
 obtain ⟨loc,n',hμ,hn',rfl⟩:=hp c hc
 rw [hn] at hn';simp only [Zs] at hn';subst hn'
 have hcap:∃A cap,Q0 loc n=.slice A n cap/\n<=cap/\(A=none->cap=0)/\(0<cap->∃b o,loc=.blk b o cap/\A=some ⟨b,o,none⟩):=by
  cases loc with
  |
   nil A0=>
   obtain ⟨m,fl,hf,hcell⟩:=Qaq hok hc hμ
   have h1:=Qj hf
   rw [hn] at h1;obtain ⟨h1,h2⟩:=h1;simp only [Zs] at h2;subst h2
   have hz0:0<zOf c:=by cases c<;>simp [zOf]<;>simp [flatV] at hf;exact hf.1.1
   have hn0:n=0:=by
    rcases Z12 n with h|h
    ·exact h
    ·obtain ⟨b,o,cap,cv,he,_⟩:=hcell 0 (by rw [h1];exact Z49 h hz0)
     simp at he
   subst hn0
   exact ⟨A0,0,rfl,Z4 _,λ_=>rfl,λh=>absurd h (by omega)⟩
  |
   blk b o cap=>
   refine ⟨some ⟨b,o,none⟩,cap,rfl,?_,by simp,λ_=>⟨b,o,rfl,rfl⟩⟩
   have hB:=hok.blk id _ hμ
   unfold contentB at hc
   split at hc
   ·rename_i ver' g e' c' he
    split at hc
    ·simp only [Zs] at hc;subst hc
     rw [he] at hB
     obtain ⟨_,n2,fl,cur,fz,hf,_,hn2,_⟩:=hB
     have:=(Qj hf).2;rw [hn] at this;simp only [Zs] at this;omega
    ·simp at hc
   ·rename_i ver' c' he
    split at hc
    ·simp only [Zs] at hc;subst hc
     rw [he] at hB
     obtain ⟨n2,hn2,hB⟩:=hB
     have hcv:contentVal (unexact c')=true:=by cases c'<;>simp [lenV] at hn2<;>rfl
     obtain ⟨A,n',cap',fl,cf,he',hf,_,hle,_⟩:=Wx hcv (.imm (M:=M) hB)
     simp only [Q0,Value.slice.injEq] at he'
     rw [hn] at hn2;simp only [Zs] at hn2;omega
    ·simp at hc
   ·simp at hc
 obtain ⟨A,cap,hcx,hle,hAn,hAb⟩:=hcap
 rw [hcx] at hx ⊢
 rw [run_sliceAt_slice M.w t _ _ _ _ hu']
 have view:∀{l k cap':Nat} {A':Option Addr},l+k<=n->k<=cap'->(A'=none->cap'=0)->(0<cap'->A'=A.map (·.add (l*zOf c)))->cap'+l=cap->Rep M (.slice A' k cap') (.sview id ver l k):=by
  intro l k cap' A' h1 h2 h3 h4 h5
  refine .ref ⟨rfl,hid,λc' hc'=>?_⟩
  rw [hc] at hc';simp only [Zs] at hc';subst hc'
  refine ⟨loc,n,A',cap',hμ,hn,h1,h2,rfl,λh=>⟨h3 h,by have:=h3 h;omega⟩,λhk=>?_,by omega,λhk=>?_⟩
  ·obtain ⟨b,o,rfl,rfl⟩:=hAb (by omega)
   exact ⟨b,o,cap,rfl,by rw [h4 (by omega)];simp [Addr.add_lit]⟩
  ·obtain ⟨b,o,rfl,rfl⟩:=hAb (by omega)
   exact ⟨b,o,cap,rfl,by rw [h4 hk];simp [Addr.add_lit]⟩
 have hN:∀{l m:Nat},m<=cap->(if m=l then A else A.map (·.add (l*zOf c)))=none->m-l=0:=λ{l m} hm h'=>by
  split at h'
  ·omega
  ·cases A with
   |none=>have:=hAn rfl;omega
   |some _=>simp at h'
 unfold Qfz at h
 split at h
 ·split at h
  case isFalse=>simp at h
  rename_i b hab
  obtain rfl:=hlo' rfl;obtain ⟨_,rfl,hb'⟩:=hhi _ rfl;obtain rfl:=hmx' rfl
  obtain rfl:=Qp hb'
  refine ⟨_,_,by rw [run_slice_h M.w t A n cap hu' _ _ (by omega) (by omega),hel,hsz];rfl,h,?_⟩
  rw [Jh,hz]
  exact view (l:=0) (by omega) (by omega) (hN (by omega)) (λhk=>by rw [if_neg (by omega)]) (by omega)
 ·split at h
  case isFalse=>simp at h
  rename_i a hab
  obtain ⟨_,rfl,ha⟩:=hlo _ rfl;obtain rfl:=hhi' rfl;obtain rfl:=hmx' rfl
  obtain rfl:=Qp ha
  refine ⟨_,_,by rw [run_slice_l M.w t A n cap hu' _ _ (by omega) (by omega),hel,hsz];rfl,h,?_⟩
  rw [Jh,hz]
  exact view (by omega) (by omega) (hN (by omega)) (λhk=>by rw [if_neg (by omega)]) (by omega)
 ·split at h
  case isFalse=>simp at h
  rename_i a _ b hab
  obtain ⟨_,rfl,ha⟩:=hlo _ rfl;obtain ⟨_,rfl,hb'⟩:=hhi _ rfl;obtain rfl:=hmx' rfl
  obtain rfl:=Qp ha;obtain rfl:=Qp hb'
  refine ⟨_,_,by rw [run_slice_lh M.w t A n cap hu' _ _ _ _ (by omega) (by omega) (by omega),hel,hsz];rfl,h,?_⟩
  rw [Jh,hz]
  exact view (by omega) (by omega) (hN (by omega)) (λhk=>by rw [if_neg (by omega)]) (by omega)
 ·obtain rfl:=hlo' rfl;obtain rfl:=hhi' rfl;obtain rfl:=hmx' rfl
  refine ⟨_,_,by rw [run_slice_all M.w t A n cap hu',hel,hsz];rfl,h,?_⟩
  rw [Jh]
  have:(if cap=0 then A else A.map (·.add (0*(C.ty e).size)))=A:=by split<;>simp [Addr.add_zero',show (λx:Addr=>x.add 0)=_root_.id from funext Addr.add_zero']
  rw [this,Nat.sub_zero,Nat.sub_zero];exact hx
 ·split at h
  case isFalse=>simp at h
  rename_i a _ b _ m hab
  obtain ⟨_,rfl,ha⟩:=hlo _ rfl;obtain ⟨_,rfl,hb'⟩:=hhi _ rfl;obtain ⟨_,rfl,hm'⟩:=hmx _ rfl
  obtain rfl:=Qp ha;obtain rfl:=Qp hb';obtain rfl:=Qp hm'
  exact ⟨_,_,by rw [run_slice_lhm M.w t A n cap hu' _ _ _ _ _ _ (by omega) (by omega) (by omega) (by omega),hel,hsz];rfl,h,.imm (.undef _)⟩
 ·simp at h
theorem Qzt {t e:Nat} (hd:(C.ty t).d=.slice e) (hb:C.bad e=false) {id ver at0 N k:Nat} {c:V} (hc:contentB (M.S id) ver=some c) (hz:(C.ty e).size=zOf c) (hN:lenV c=some N) {lo hi mx:Option V} {cx:Value} {clo chi cmx:Option Value} {K:V->Option R} {r:R}
  (h:Qen N id ver at0 lo hi mx K=some r) (hx:Rep M cx (.sview id ver at0 k)) (hlo:∀v,lo=some v->∃c,clo=some c/\Rep M c v)
  (hhi:∀v,hi=some v->∃c,chi=some c/\Rep M c v) (hmx':mx=none->cmx=none) :
  ∃cv v,(Instr.sliceAt t cx clo chi cmx).run P M.w=.ok cv M.w/\K v=some r/\Rep M cv v:=by
 have hu:=(Q9 hT hd).1
 have hel:P.elem t=e:=by simp [Program.elem,hu]
 have hu':P.underlying t=some (.slice (P.elem t)):=by rw [hel];exact hu
 have hsz:=Y2 hT (Wg hb) M.w
 obtain ⟨_,hid,hp⟩:=W7 hx
 obtain ⟨loc,m,A,cap,hμ,hm,hle,hkc,rfl,hAn,_,hmc,hAb⟩:=hp c hc
 rw [hN] at hm;simp only [Zs] at hm;subst hm
 unfold Qen at h
 split at h
 case h_2=>simp at h
 rename_i a _ b
 split at h
 case isFalse=>simp at h
 rename_i hab
 obtain ⟨_,rfl,ha⟩:=hlo _ rfl;obtain ⟨_,rfl,hb'⟩:=hhi _ rfl;obtain rfl:=hmx' rfl
 obtain rfl:=Qp ha;obtain rfl:=Qp hb'
 rw [run_sliceAt_slice M.w t _ _ _ _ hu']
 refine ⟨_,_,by rw [run_slice_lh M.w t A k cap hu' _ _ _ _ (by omega) (by omega) (by omega),hel,hsz];rfl,h,?_⟩
 rw [Jh,hz]
 refine .ref ⟨rfl,hid,λc' hc'=>?_⟩
 rw [hc] at hc';simp only [Zs] at hc';subst hc'
 have hb0:0<cap-a.toNat->∃b' o cap',loc=.blk b' o cap'/\(if cap=a.toNat then A else A.map (·.add (a.toNat*zOf c)))=some ⟨b',o+(at0+a.toNat)*zOf c,none⟩:=λh0=>by
  obtain ⟨b',o,cap',rfl,rfl⟩:=hAb (by omega)
  refine ⟨b',o,cap',rfl,?_⟩
  rw [if_neg (by omega)]
  simp [Addr.add_lit,Z19,Z36]
 refine ⟨loc,N,_,_,hμ,hN,by omega,by omega,rfl,λh0=>?_,λh0=>hb0 (by omega),by omega,hb0⟩
 split at h0
 ·omega
 ·cases A with
  |none=>have:=(hAn rfl).1;omega
  |some _=>simp at h0
end
variable {R:Type}
theorem Qgp (s:ByteArray) (a b:Nat):(s.extract a b).data.toList=(s.data.toList.drop a).take (b-a):=by
 simp [ByteArray.data_extract,Array.toList_extract,List.extract]
section
variable {P:Program} {C:Ctx} (hT:C.T.check P=true) {M:Mem}
include hT
theorem Qyu (hok:M.ok) {S:Store} {t:Nat} {x:V} (hS:∀id∈refs1 x,M.S id=S.getD id .dead) {lo hi mx:Option V} {cx:Value} {clo chi cmx:Option Value} {K:V->Option R} {r:R}
  (h:C.sliceV t S x lo hi mx K=some r) (hx:Rep M cx x) (hlo:∀v,lo=some v->∃c,clo=some c/\Rep M c v) (hlo':lo=none->clo=none)
  (hhi:∀v,hi=some v->∃c,chi=some c/\Rep M c v) (hhi':hi=none->chi=none) (hmx:∀v,mx=some v->∃c,cmx=some c/\Rep M c v) (hmx':mx=none->cmx=none) :
  ∃cv v,(Instr.sliceAt t cx clo chi cmx).run P M.w=.ok cv M.w/\K v=some r/\Rep M cv v:=by
 unfold Ctx.sliceV at h
 split at h
 ·rename_i hd
  have hu:=Yq hT hd
  have hsz:∀s:ByteArray,s.size=s.data.toList.length:=λs=>by rw [Z31];rfl
  rw [run_sliceAt_string M.w t _ _ _ _ hu]
  split at h
  ·rename_i s _ a _ b
   split at h
   case isFalse=>simp at h
   rename_i hab
   obtain ⟨s',rfl,rfl⟩:=Ye hx
   obtain ⟨_,rfl,ha⟩:=hlo _ rfl;obtain ⟨_,rfl,hb'⟩:=hhi _ rfl;obtain rfl:=hmx' rfl
   obtain rfl:=Qp ha;obtain rfl:=Qp hb'
   refine ⟨_,_,by
    have h1:0<=b/\b<=(s'.size:Int):=by rw [hsz];omega
    have h2:0<=a/\a<=b:=by omega
    have h3:(b.toNat:Int)=b:=by omega
    simp [Instr.slice,Instr.sliceBounds,Instr.sliceBound,asIntOf,run_underlying hu,h1,h2,h3];rfl,h,.imm (.str _ _ ?_)⟩
   rw [Qgp]
  ·rename_i s _ a
   split at h
   case isFalse=>simp at h
   rename_i hab
   obtain ⟨s',rfl,rfl⟩:=Ye hx
   obtain ⟨_,rfl,ha⟩:=hlo _ rfl;obtain rfl:=hhi' rfl;obtain rfl:=hmx' rfl
   obtain rfl:=Qp ha
   refine ⟨_,_,by
    have h1:0<=a/\a<=(s'.size:Int):=by rw [hsz];omega
    simp [Instr.slice,Instr.sliceBounds,Instr.sliceBound,asIntOf,run_underlying hu,h1];rfl,h,.imm (.str _ _ ?_)⟩
   rw [Qgp,Z28 (by rw [hsz];simp)]
  ·rename_i s _ b
   split at h
   case isFalse=>simp at h
   rename_i hab
   obtain ⟨s',rfl,rfl⟩:=Ye hx
   obtain rfl:=hlo' rfl;obtain ⟨_,rfl,hb'⟩:=hhi _ rfl;obtain rfl:=hmx' rfl
   obtain rfl:=Qp hb'
   refine ⟨_,_,by
    have h1:0<=b/\b<=(s'.size:Int):=by rw [hsz];omega
    simp [Instr.slice,Instr.sliceBounds,Instr.sliceBound,asIntOf,run_underlying hu,h1];rfl,h,.imm (.str _ _ ?_)⟩
   rw [Qgp];simp
  ·simp at h
 ·rename_i e hd
  by_cases hb:C.bad e=true
  ·rw [if_pos hb] at h;simp at h
  rw [if_neg hb] at h
  have hb:C.bad e=false:=by simpa using hb
  split at h
  ·rename_i id ver
   split at h
   case h_2=>simp at h
   rename_i c hc
   split at h
   case isFalse=>simp at h
   rename_i hz
   split at h
   case h_2=>simp at h
   rename_i n hn
   have hc':contentB (M.S id) ver=some c:=by rw [hS id (by simp [refs1])];exact hc
   exact Qx7 hT hok hd hb hc' hz hn h hx hlo hlo' hhi hhi' hmx hmx'
  ·rename_i id ver at0 k
   split at h
   case h_2=>simp at h
   rename_i c hc
   split at h
   case isFalse=>simp at h
   rename_i hz
   split at h
   case h_2=>simp at h
   rename_i n hn
   have hc':contentB (M.S id) ver=some c:=by rw [hS id (by simp [refs1])];exact hc
   exact Qzt hT hd hb hc' hz hn h hx hlo hhi hmx'
  ·split at h
   case isFalse=>simp at h
   rename_i hz
   split at h
   case h_2=>simp at h
   rename_i n hn
   exact Qr0 hT hd hb hz hn h hx hlo hlo' hhi hhi' hmx hmx'
 ·simp at h
omit hT in
theorem Qge (a:Addr) (l h m s:Nat):slicedAt a l h m s=.slice (some (if m=l then a else a.add (l*s))) (h-l) (m-l):=rfl
theorem Qw8 (hok:M.ok) {S:Store} {t:Nat} {x:V} (hS:∀id∈refs1 x,M.S id=S.getD id .dead) {lo hi:Option V} {cx:Value} {clo chi:Option Value} {K:V->Option R} {r:R}
  (h:C.sliceArr t S x lo hi K=some r) (hx:Rep M cx x) (hlo:∀v,lo=some v->∃c,clo=some c/\Rep M c v) (hlo':lo=none->clo=none)
  (hhi:∀v,hi=some v->∃c,chi=some c/\Rep M c v) (hhi':hi=none->chi=none) :
  ∃cv v,(Instr.sliceAt t cx clo chi none).run P M.w=.ok cv M.w/\K v=some r/\Rep M cv v:=by
 unfold Ctx.sliceArr at h
 split at h
 case h_2=>simp at h
 rename_i id n e hd
 by_cases hb:C.bad e=true
 ·rw [if_pos hb] at h;simp at h
 rw [if_neg hb] at h
 have hb:C.bad e=false:=by simpa using hb
 have hu:=(Qek hT hd).1
 have hel:P.elem t=e:=by simp [Program.elem,hu]
 have hal:P.arrayLen t=n:=by simp [Program.arrayLen,hu]
 have hu':P.underlying t=some (.array (P.arrayLen t) (P.elem t)):=by rw [hel,hal];exact hu
 have hsz:=Y2 hT (Wg hb) M.w
 split at h
 case h_2=>simp at h
 rename_i ver e' c hk
 split at h
 case isFalse=>simp at h
 rename_i hz
 split at h
 case h_2=>simp at h
 rename_i m hn
 split at h
 case isFalse=>simp at h
 rename_i hmn
 rw [hmn] at hn
 have hk':=(hS id (by simp [refs1])).trans hk
 obtain ⟨h1,hid,hp⟩:=Ya hx
 obtain ⟨b,o,cap,hμ,rfl⟩:=hp (by rw [hk'];rfl)
 have hcc:contentB (M.S id) ver=some c:=by rw [hk'];simp [contentB]
 have view:∀{l k cap':Nat} {A':Addr},l+k<=n->k<=cap'->(0<cap'->A'=(⟨b,o,none⟩:Addr).add (l*(C.ty e).size))->cap'+l=n->Rep M (.slice (some A') k cap') (.sview id ver l k):=by
  intro l k cap' A' h1 h2 h3 h4
  refine .ref ⟨rfl,⟨hid,Qle hcc⟩,λc' hc'=>?_⟩
  rw [hcc] at hc';simp only [Zs] at hc';subst hc'
  refine ⟨_,n,_,cap',hμ,hn,h1,h2,rfl,λh=>by simp at h,λhk=>⟨b,o,cap,rfl,by rw [h3 (by omega),Addr.add_lit,hz]⟩,by omega,λhk=>⟨b,o,cap,rfl,by rw [h3 hk,Addr.add_lit,hz]⟩⟩
 split at h
 ·split at h
  case isFalse=>simp at h
  rename_i a hab
  obtain ⟨_,rfl,ha⟩:=hlo _ rfl;obtain rfl:=hhi' rfl
  obtain rfl:=Qp ha
  refine ⟨_,_,by rw [run_sliceAt_array_l M.w t _ hu' _ _ (by omega) (by rw [hal];omega),hel,hal,hsz];rfl,h,?_⟩
  rw [Qge]
  exact view (by omega) (by omega) (λhk=>by rw [if_neg (by omega)];rfl) (by omega)
 ·split at h
  case isFalse=>simp at h
  rename_i b' hab
  obtain rfl:=hlo' rfl;obtain ⟨_,rfl,hb'⟩:=hhi _ rfl
  obtain rfl:=Qp hb'
  refine ⟨_,_,by rw [run_sliceAt_array_h M.w t _ hu' _ _ (by omega) (by rw [hal];omega),hel,hal,hsz];rfl,h,?_⟩
  rw [Qge]
  exact view (l:=0) (k:=b'.toNat-0) (by omega) (by omega) (λhk=>by rw [if_neg (by omega)];rfl) (by omega)
 ·split at h
  case isFalse=>simp at h
  rename_i a _ b' hab
  obtain ⟨_,rfl,ha⟩:=hlo _ rfl;obtain ⟨_,rfl,hb'⟩:=hhi _ rfl
  obtain rfl:=Qp ha;obtain rfl:=Qp hb'
  refine ⟨_,_,by rw [run_sliceAt_array_lh M.w t _ hu' _ _ _ _ (by omega) (by omega) (by rw [hal];omega),hel,hal,hsz];rfl,h,?_⟩
  rw [Qge]
  exact view (by omega) (by omega) (λhk=>by rw [if_neg (by omega)];rfl) (by omega)
 ·obtain rfl:=hlo' rfl;obtain rfl:=hhi' rfl
  refine ⟨_,_,by rw [run_sliceAt_array_all M.w t _ hu',hel,hal,hsz];rfl,h,?_⟩
  rw [Qge]
  exact view (l:=0) (k:=n-0) (by omega) (by omega) (λhk=>by rw [if_neg (by omega)];rfl) (by omega)
 ·simp at h
end
variable {R:Type}
section
variable {P:Program} {C:Ctx} (hT:C.T.check P=true) {M:Mem}
include hT
theorem Qxb {t f:Nat} {fs:List (Nat×Nat×Nat)} (hd:(C.ty t).d=.struct fs) {off size:Nat} (hf:Jr fs f=some (off,size)) {cx:Value} {cs:List V} (hl:off+size<=cs.length)
  (hb:C.bad (C.partType t f)=false) (hx:Rep M cx (.agg cs)) :
  ∃cv,(Instr.field t cx f).run P M.w=.ok cv M.w/\Rep M cv (Wl (C.isAgg (C.partType t f)) ((cs.drop off).take size)):=by
 obtain ⟨fs',hu,hk⟩:=Qe6 hT hd
 obtain ⟨cvs,rfl,hs,ho,hr⟩:=Wp hx
 simp only [Jr,Z22] at hf
 obtain ⟨⟨o',s',t'⟩,hg,he⟩:=hf
 simp only [Z2] at he;obtain ⟨rfl,rfl⟩:=he
 obtain ⟨fl,j,hfl,hoff,hinfo,hsz,hty⟩:=Qi0 f hk hg
 simp only at hoff hsz hty
 have hpt:C.partType t f=t':=by simp [Ctx.partType,hd,hg]
 rw [hpt] at hb ⊢
 have hsz':(C.ty t').size=s':=by
  obtain ⟨j',_,h1,_,h2,_⟩:=Wz hT (Wg hb)
  rw [<-hty,hinfo] at h1;simp only [Zs] at h1;subst h1;omega
 obtain ⟨cv,h1,h2⟩:=Qfl hT hb (off:=o') (by rw [hsz'];exact hl) hs ho hr
 refine ⟨cv,?_,by rw [<-hsz'];exact h2⟩
 have hfl':fs'[f]? = some fl:=by rw [<-Array.getElem?_toList];exact hfl
 simp only [Instr.field,Sem.run_bind,run_underlying hu,Result.andThen_ok,hfl',asAgg,Sem.run_pure]
 rw [hoff,hty];exact h1
theorem Qir {t f:Nat} {fs:List (Nat×Nat×Nat)} (hd:(C.ty t).d=.struct fs) {off size:Nat} (hf:Jr fs f=some (off,size)) (hz:size≠0) {a:Addr} :
  (Instr.fieldAt t (.pointer (some a)) f).run P M.w=.ok (.pointer (some (a.add off))) M.w:=by
 obtain ⟨fs',hu,hk⟩:=Qe6 hT hd
 simp only [Jr,Z22] at hf
 obtain ⟨⟨o',s',t'⟩,hg,he⟩:=hf
 simp only [Z2] at he;obtain ⟨rfl,rfl⟩:=he
 obtain ⟨fl,j,hfl,hoff,hinfo,hsz,hty⟩:=Qi0 f hk hg
 simp only at hoff hsz hty
 have hfl':fs'[f]? = some fl:=by rw [<-Array.getElem?_toList];exact hfl
 have hs:(sizeOf fl.type).run P M.w=.ok s' M.w:=by simp [sizeOf,typeInfo,hinfo,hsz]
 simp only [Instr.fieldAt,Sem.run_bind,run_underlying hu,Result.andThen_ok,hfl',Instr.sureAddr,Sem.run_pure,fieldPlace,hs]
 rw [if_neg hz,hoff];rfl
omit hT in
theorem Qno {S:Store} {id o:Nat} {cx:Value} (hS:∀i∈refs1 (.ptr id o),M.S i=S.getD i .dead) (hl:(S.getD id .dead).fix=true) (hx:Rep M cx (.ptr id o)) :
  ∃a,cx=.pointer (some a)/\∀off,Rep M (.pointer (some (a.add off))) (.ptr id (o+off)):=by
 obtain ⟨h1,hid,hp⟩:=Ya hx
 obtain ⟨b,o',cap,hμ,rfl⟩:=hp (by rw [hS id (by simp [refs1])];exact hl)
 exact ⟨_,rfl,λoff=>.ref ⟨rfl,hid,λ_=>⟨b,o',cap,hμ,by rw [Addr.add_lit,Z36]⟩⟩⟩
omit hT in
theorem Qmm {S:Store} {id ver i o:Nat} {cx:Value} (hS:∀j∈refs1 (.eptr id ver i o),M.S j=S.getD j .dead) (hl:(contentOf S id ver).isSome=true) (hx:Rep M cx (.eptr id ver i o)) :
  ∃a,cx=.pointer (some a)/\∀off,Rep M (.pointer (some (a.add off))) (.eptr id ver i (o+off)):=by
 obtain ⟨h1,hid,hp⟩:=Qdm hx
 obtain ⟨c,hc⟩:=Z69.1 hl
 have hc':contentB (M.S id) ver=some c:=by rw [hS id (by simp [refs1])];exact hc
 obtain ⟨b,o',cap,hμ,rfl⟩:=hp c hc'
 refine ⟨_,rfl,λoff=>.ref ⟨rfl,hid,λc' hc''=>?_⟩⟩
 rw [hc'] at hc'';simp only [Zs] at hc'';subst hc''
 exact ⟨b,o',cap,hμ,by rw [Addr.add_lit];simp [Z36]⟩
omit hT in
theorem Qky {cs:List V} {cx:Value} (hx:Rep M cx (.cptr cs)):∃a,cx=.pointer (some a)/\∀off,Rep M (.pointer (some (a.add off))) (.cptr (cs.drop off)):=by
 obtain ⟨a,cf,rfl,hc,ho,hr⟩:=Qia hx
 refine ⟨a,rfl,λoff=>.imm (.cptr _ _ (λj=>cf (off+j)) (λj hj=>?_) (λj hj=>ho _ (by simp at hj;omega)) (λj hj=>?_))⟩
 ·have:=hc (off+j) (by simp at hj;omega)
  rw [Qix,Qde];exact this
 ·have:=hr (off+j) (by simp at hj;omega)
  simpa using this
theorem Qr9 {t:Nat} {x ix:V} {cx cix:Value} {K:V->Option R} {r:R}
  (h:(match x,ix with
   |
    .str s,.int _ i=>match (C.ty t).d with
    |.str=>if 0<=i/\i<(s.length:Int) then K (.int .u8 ((s.getD i.toNat 0).toNat:Int)) else none
    |_=>none
   |
    .agg cs,.int _ i=>match (C.ty t).d with
    |.array n e=>if 0<=i/\i<(n:Int) then (if (C.ty e).size=1/\C.isAgg e=false/\C.bad e=false/\n<=cs.length then C.cast e (cs.getD i.toNat .undef) λv=>K v else none) else none
    |_=>none
   |_,_=>none)=some r) (hx:Rep M cx x) (hix:Rep M cix ix) :
  ∃cv v,(Instr.index t cx cix).run P M.w=.ok cv M.w/\K v=some r/\Rep M cv v:=by
 split at h
 ·rename_i s k i
  split at h
  case h_2=>simp at h
  rename_i hd
  split at h
  case isFalse=>simp at h
  rename_i hi
  have hu:=Yq hT hd
  obtain ⟨s',rfl,rfl⟩:=Ye hx
  obtain rfl:=Qp hix
  have hsz:s'.size=s'.data.toList.length:=by rw [Z31];rfl
  refine ⟨_,_,by rw [run_index_string M.w t s' k i hu,dif_pos ⟨hi.1,by rw [hsz];omega⟩],h,?_⟩
  have hlt:i.toNat<s'.size:=by rw [hsz];omega
  have:(s'[i.toNat]'hlt)=s'.data.toList.getD i.toNat 0:=by
   rw [Zl,Z1 (by rw [<-hsz];exact hlt)];simp;rfl
  rw [this];exact .imm (.int _ _)
 ·rename_i cs k i
  split at h
  case h_2=>simp at h
  rename_i n e hd
  split at h
  case isFalse=>simp at h
  rename_i hi
  split at h
  case isFalse=>simp at h
  rename_i hz
  obtain ⟨hz,ha,hb,hn⟩:=hz
  obtain ⟨cvs,rfl,hs,ho,hr⟩:=Wp hx
  obtain rfl:=Qp hix
  have hu:=(Qek hT hd).1
  have hlt:i.toNat<cs.length:=by omega
  obtain ⟨v',hK,hv',_⟩:=Qgt h (by
   have:=hr i.toNat hlt
   rw [Zl,Z1 hlt];exact this)
  obtain ⟨cv,h1,h2⟩:=Qfl hT hb (M:=M) (off:=i.toNat) (by omega) hs ho hr
  have hA:=Qin hT (Wg hb) M.w
  rw [ha] at hA
  have hlt':i.toNat<cvs.size:=by omega
  refine ⟨_,v',?_,hK,hv'⟩
  simp [Instr.index,asIntOf,run_underlying hu,hi,Y2 hT (Wg hb),hz,part,hA,hlt',Z0]
 ·simp at h
end
variable {R:Type}
def RepL (M:Mem) (cs:Array Value) (vs:List V):Prop:=
 cs.size=vs.length/\∀j (h:j<vs.length),Rep M (cs.getD j Go.undef) vs[j]/\(cs.getD j Go.undef).oneCell'=true
theorem RepL.agg {M:Mem} {cs:Array Value} {vs:List V} (h:RepL M cs vs):Rep M (.agg cs) (.agg vs):=.agg cs vs h.1 (λj hj=>(h.2 j hj).2) (λj hj=>(h.2 j hj).1)
theorem RepL.set {M:Mem} {cs:Array Value} {vs:List V} (h:RepL M cs vs) (i:Nat) {cv:Value} {v:V} (hr:Rep M cv v) (ho:cv.oneCell'=true):RepL M (cs.setIfInBounds i cv) (vs.set i v):=by
 refine ⟨by simp [h.1],λj hj=>?_⟩
 simp only [Z21] at hj
 simp only [Z0,Array.getElem?_setIfInBounds,List.getElem_set]
 by_cases e:i=j
 ·subst e
  simp only [if_true,h.1,hj]
  exact ⟨hr,ho⟩
 ·simp only [e,if_false]
  have:=h.2 j hj
  simpa only [Z0] using this
theorem RepL.setAt {M:Mem}:∀(us:List V) (l:List Value) (off k:Nat) (cs:Array Value) (vs:List V),RepL M cs vs->l.length=us.length ->
  (∀j (h:j<us.length),Rep M (l.getD j Go.undef) us[j]/\(l.getD j Go.undef).oneCell'=true) ->
  RepL M ((l.zipIdx k).foldl (λcs (p:Value×Nat)=>cs.setIfInBounds (off+p.2) p.1) cs) (A.setAt vs (off+k) us)
 |[],[],off,k,cs,vs,h,_,_=>h
 |[],_::_,_,_,_,_,_,hl,_=>by simp at hl
 |_::_,[],_,_,_,_,_,hl,_=>by simp at hl
 |
  u::us,c::l,off,k,cs,vs,h,hl,hr=>by
  have h0:=hr 0 (by simp)
  have ih:=RepL.setAt us l off (k+1) (cs.setIfInBounds (off+k) c) (vs.set (off+k) u) (h.set _ (by simpa using h0.1) (by simpa using h0.2)) (by simpa using hl) (λj hj=>by
   have:=hr (j+1) (by simpa using hj)
   simpa using this)
  simpa [List.zipIdx_cons,A.setAt,Z36] using ih
theorem Jw:∀(us vs:List V) (off:Nat),(A.setAt vs off us).length=vs.length
 |[],vs,off=>rfl
 |u::us,vs,off=>by simp [A.setAt,Jw us]
theorem Qfk {M:Mem} {place place':Nat->Option (Nat×Nat)} (hp:∀i p,place i=some p->place' i=some p):∀(ps:List (Nat×V)) (qs:List (Nat×Value)) (vs vs':List V) (cs:Array Value),
  Ja place vs ps=some vs'->RepL M cs vs->qs.length=ps.length->(∀j (h:j<ps.length) (h':j<qs.length),qs[j].1=ps[j].1/\Rep M qs[j].2 ps[j].2) ->
  ∃cs',Instr.fill place' cs qs=some cs'/\RepL M cs' vs'
 |
  [],[],vs,vs',cs,h,hr,_,_=>by
  simp only [Ja,Zs] at h;subst h
  exact ⟨cs,rfl,hr⟩
 |[],_::_,_,_,_,_,_,hl,_=>by simp at hl
 |_::_,[],_,_,_,_,_,hl,_=>by simp at hl
 |
  (i,v)::ps,(i',cv)::qs,vs,vs',cs,h,hr,hl,hrs=>by
  have h0:=hrs 0 (by simp) (by simp)
  simp only [Z41] at h0
  obtain ⟨rfl,hv⟩:=h0
  simp only [Ja] at h
  split at h
  ·simp at h
  ·rename_i off size hpl
   split at h
   case isFalse=>simp at h
   rename_i hc
   obtain ⟨hu,hsz,hle⟩:=hc
   obtain ⟨h1,h2⟩:=Qbx hv hu
   have hstep:=RepL.setAt (cellsOf v) cv.cells.toList off 0 cs vs hr (by simpa using h1) (λj hj=>by
    have:=h2 j hj
    simpa [Z0,Zl] using this)
   obtain ⟨cs',hf,hr'⟩:=Qfk hp ps qs _ vs' _ h hstep (by simpa using hl) (λj hj hj'=>by
    have:=hrs (j+1) (by simpa using hj) (by simpa using hj')
    simpa using this)
   refine ⟨cs',?_,hr'⟩
   simp only [Instr.fill,hp _ _ hpl]
   rw [if_neg (by have:=hr.1;simp;omega)]
   rw [<-hf]
   congr 1
   rw [<-Array.foldl_toList];simp [Array.toList_zipIdx]
section
variable {P:Program} {C:Ctx} (hT:C.T.check P=true) {M:Mem}
include hT
omit hT in
theorem Qlv:∀{vs:List V} {cs:List Value},Jp vs cs=true->cs.length=vs.length/\∀j (h:j<vs.length),Rep M (cs.getD j Go.undef) vs[j]
 |[],[],_=>⟨rfl,λj h=>absurd h (by simp)⟩
 |[],_::_,h=>by simp [Jp] at h
 |_::_,[],h=>by simp [Jp] at h
 |
  v::vs,c::cs,h=>by
  simp only [Jp,Z7] at h
  obtain ⟨h1,h2⟩:=Qlv h.2
  refine ⟨by simp [h1],λj hj=>?_⟩
  cases j with
  |zero=>exact .imm (Qp4 h.1)
  |succ j=>simpa using h2 j (by simpa using hj)
theorem Qfx {t:Nat} (hb:C.bad t=false):∃j z,P.info? t=some j/\j.size=(C.ty t).size/\j.zero=some z/\z.cells.size=(C.ty t).size/\(C.ty t).zero.length=(C.ty t).size/\RepL M z.cells (C.ty t).zero:=by
 obtain ⟨j,d,hj,hd,hs,hbs,hk,hz⟩:=Wz hT (Wg hb)
 unfold Qf9 at hz
 have hnt:(C.ty t).d≠.tuple:=λe=>by simp [Ctx.bad,e] at hb
 split at hz
 ·rename_i z hz'
  split at hz
  ·rename_i e;exact absurd e hnt
  ·simp only [Z7,beq_iff_eq] at hz
   obtain ⟨⟨⟨ha,h2⟩,h3⟩,h9⟩:=hz
   obtain ⟨h4,h5⟩:=Qlv (M:=M) ha
   refine ⟨j,z,hj,hs,hz',h2,h3,by omega,λi hi=>?_⟩
   have h6:=h5 i hi
   have hi':i<z.cells.size:=by omega
   simp only [Z23] at h9
   have h7:=h9 z.cells[i] (by simp)
   have e:z.cells.getD i Go.undef=z.cells[i]:=by simp [Z0,hi']
   rw [e]
   refine ⟨?_,h7⟩
   simpa [Zl,hi'] using h6
 ·simp at hz
theorem Y8 {t:Nat} (hb:C.bad t=false):∃j z,P.info? t=some j/\j.size=(C.ty t).size/\j.bytes=(C.ty t).bytes/\j.zero=some z/\z.cells.size=(C.ty t).size/\(C.ty t).zero.length=(C.ty t).size /\
  ∀i,i<(C.ty t).size->(z.cells.getD i Go.undef).oneCell'=true/\∀O w,Rep0 O w (z.cells.getD i Go.undef) ((C.ty t).zero.getD i .undef):=by
 obtain ⟨j,z,hj,hs,hz,h2,h3,h4,h5⟩:=Qfx hT (M:=⟨default,λ_=>False,λ_=>none,λ_=>.dead⟩) hb
 obtain ⟨j',d,hj',_,_,hbs,_,hz'⟩:=Wz hT (Wg hb)
 rw [hj] at hj';simp only [Zs] at hj';subst hj'
 refine ⟨j,z,hj,hs,hbs,hz,h2,h3,λi hi=>⟨(h5 i (by omega)).2,λO w=>?_⟩⟩
 unfold Qf9 at hz'
 rw [hz] at hz'
 have hnt:(C.ty t).d≠.tuple:=λe=>by simp [Ctx.bad,e] at hb
 simp only at hz'
 ·simp only [Z7,beq_iff_eq] at hz'
  have:∀{vs:List V} {cs:List Value},Jp vs cs=true->∀i,i<vs.length->Rep0 O w (cs.getD i Go.undef) (vs.getD i .undef):=by
   intro vs
   induction vs with
   |nil=>intro cs _ i hi;simp at hi
   |
    cons v vs ih=>
    intro cs h i hi
    cases cs with
    |nil=>simp [Jp] at h
    |
     cons c cs=>
     simp only [Jp,Z7] at h
     cases i with
     |zero=>exact Qp4 h.1
     |succ i=>simpa using ih h.2 i (by simpa using hi)
  have h6:=this hz'.1.1.1 i (by omega)
  have e:z.cells.getD i Go.undef=z.cells.toList.getD i Go.undef:=by simp [Z0,Zl]
  rw [e];exact h6
omit hT in
theorem Qk4:∀{fs:List Field} {r:List (Nat×Nat×Nat)},Ww P fs r=true->fs.mapM (λf=>(P.info? f.type).map λi=>(f.offset,i.size))=some (r.map λx=>(x.1,x.2.1))
 |[],[],_=>rfl
 |[],_::_,h=>by simp [Ww] at h
 |_::_,[],h=>by simp [Ww] at h
 |
  f::fs,(o,s,t)::r,h=>by
  simp only [Ww,Z7,beq_iff_eq] at h
  obtain ⟨j,hj⟩:=Z69.1 h.1.1.2
  have hs:j.size=s:=by have:=h.1.1.1.2;simp [Program.cellsOf,hj] at this;exact this
  simp [List.mapM_cons,hj,Qk4 h.2,hs,h.1.1.1.1]
theorem Qxm {t:Nat} {ps:List (Nat×V)} {qs:Array (Nat×Value)} {v:V} (h:C.buildV t ps=some v) (hl:qs.size=ps.length)
  (hr:∀j (h:j<ps.length) (h':j<qs.toList.length),qs.toList[j].1=ps[j].1/\Rep M qs.toList[j].2 ps[j].2):∃cv,(Instr.build t qs).run P M.w=.ok cv M.w/\Rep M cv v:=by
 unfold Ctx.buildV at h
 split at h
 ·rename_i fs hd
  simp only [Z22] at h
  obtain ⟨vs',hf,rfl⟩:=h
  obtain ⟨fs',hu,hk⟩:=Qe6 hT hd
  obtain ⟨j,z,hj,hsz,hz,h2,h3,hrz⟩:=Qfx hT (M:=M) (t:=t) (by simp [Ctx.bad,hd])
  obtain ⟨cs',hfill,hr'⟩:=Qfk (M:=M) (place:=Jr fs) (place':=((fs.map λx=>(x.1,x.2.1)).toArray[·]?)) (λi p hp=>by
   simp only [Jr] at hp
   simpa using hp) ps qs.toList _ vs' z.cells hf hrz (by simpa using hl) hr
  refine ⟨_,run_build M.w t qs cs' ?_,hr'.agg⟩
  unfold Program.built
  simp only [hj,hu,hz,Qk4 hk]
  exact hfill
 ·rename_i n e hd
  split at h
  case isFalse=>simp at h
  rename_i hb
  simp only [Z22] at h
  obtain ⟨vs',hf,rfl⟩:=h
  have hu:=(Qek hT hd).1
  obtain ⟨j,z,hj,hsz,hz,h2,h3,hrz⟩:=Qfx hT (M:=M) (t:=t) (by simp [Ctx.bad,hd])
  obtain ⟨je,_,hje,_,hse,_⟩:=Wz hT (t:=e) (Wg hb)
  obtain ⟨cs',hfill,hr'⟩:=Qfk (M:=M) (place:=λi=>some (i*(C.ty e).size,(C.ty e).size)) (place':=λi=>some (i*je.size,je.size)) (λi p hp=>by rw [hse];exact hp) ps qs.toList _ vs' z.cells hf hrz (by simpa using hl) hr
  refine ⟨_,run_build M.w t qs cs' ?_,hr'.agg⟩
  unfold Program.built
  simp only [hj,hu,hz,hje]
  exact hfill
 ·simp at h
end
def upd {α:Type} (f:Nat->α) (i:Nat) (v:α):Nat->α:=λj=>if j=i then v else f j
theorem upd_same {α:Type} {f:Nat->α} {i:Nat} {v:α}:upd f i v i=v:=by simp [upd]
theorem upd_ne {α:Type} {f:Nat->α} {i j:Nat} {v:α} (h:j≠i):upd f i v j=f j:=by simp [upd,h]
theorem Qb4 {M M':Mem} (hM:M.ok) (hs:Step M M') {loc:Loc} {k:Blk} (h:BlkOK M loc k) (hk:k.own=true->∀b o cap,loc=.blk b o cap->M'.w.heap[b]? = M.w.heap[b]?/\M'.O b):BlkOK M' loc k:=by
 cases k with
 |
  cells t cs=>
  obtain ⟨b,o,cap,rfl,hO,hlt,hsh,hc⟩:=h
  obtain ⟨h1,h2⟩:=hk rfl b o cap rfl
  refine ⟨b,o,cap,rfl,h2,Z16 hlt hs.size,by unfold World.shape? at hsh ⊢;rw [h1];exact hsh,λj hj=>?_⟩
  obtain ⟨cv,h3,h4,h5,h6⟩:=hc j hj
  exact ⟨cv,by rw [World.cell?_of_block (a:=⟨b,o+j,none⟩) h1];exact h3,h4,hs.rep hM h5,by rw [World.frozen?_of_block (a:=⟨b,o+j,none⟩) h1];exact h6⟩
 |
  arr ver g e c=>
  obtain ⟨h0,h⟩:=h
  cases loc with
  |nil=>exact ⟨λ_ _ _ he=>by simp at he,h⟩
  |
   blk b o cap=>
   obtain ⟨h1,h2⟩:=hk rfl b o cap rfl
   obtain ⟨n,fl,cur,fz,a1,a2,a3,a4,a5,a6,a7,a8,a9,a10⟩:=h
   refine ⟨λ_ _ _ he=>by cases he;exact ⟨h2,Z16 (h0 _ _ _ rfl).2 hs.size⟩,n,fl,cur,fz,a1,a2,a3,a4,by rw [h1];exact a5,a6,a7,a8,λj hj=>?_,λj hj=>⟨hs.rep0 hM (a10 j hj).1,(a10 j hj).2⟩⟩
   rw [World.frozen?_of_block (a:=⟨b,j,none⟩) h1];exact a9 j hj
 |
  imm ver c=>
  obtain ⟨n,h1,h2⟩:=h
  exact ⟨n,h1,hs.rep0 hM h2⟩
 |
  siter s pos=>
  obtain ⟨b,cap,rfl,hO,hc⟩:=h
  obtain ⟨h1,h2⟩:=hk rfl b 0 cap rfl
  exact ⟨b,cap,rfl,h2,by rw [h1];exact hc⟩
 |dead=>trivial
def Mem.push (M:Mem) (q:Nat) (k:Blk) (loc:Loc) (w':World):Mem:=
 {w:=w',O:=λb=>M.O b\/∃o cap,loc=.blk b o cap,μ:=upd M.μ q (some loc),S:=upd M.S q k}
theorem Mem.isSome_ne {M:Mem} {q id:Nat} (hq:M.μ q=none) (h:(M.μ id).isSome=true):id≠q:=λe=>by subst e;rw [hq] at h;simp at h
theorem Qlq {M M':Mem} (h:∀id,(M.μ id).isSome=true->M'.μ id=M.μ id/\M'.S id=M.S id) {cv:Value} {v:V} (hr:M.Ref cv v):M'.Ref cv v:=by
 obtain ⟨h1,h2⟩:=hr
 refine ⟨h1,?_⟩
 cases v<;>simp only [Mem.Ref1] at h2 ⊢
 ·obtain ⟨hs,h2⟩:=h2;obtain ⟨e1,e2⟩:=h _ hs;rw [e1,e2];exact ⟨hs,h2⟩
 all_goals (obtain ⟨⟨hs,hv⟩,h2⟩:=h2;obtain ⟨e1,e2⟩:=h _ hs;rw [e1,e2];exact ⟨⟨hs,hv⟩,h2⟩)
theorem push_step {M:Mem} (hM:M.ok) {q:Nat} (hq:M.μ q=none) {k:Blk} {loc:Loc} {w':World} (hw:M.w.grownBy w' none) (hl:∀b o cap,loc=.blk b o cap->M.w.heap.size<=b/\b<w'.heap.size) :
  Step M (M.push q k loc w') where
 size:=hw.size
 os:=hw.os
 tape:=hw.tape
 output:=hw.output
 keep b hb _:=⟨hw.block b hb (by simp),⟨λh=>h.elim id λ⟨o,cap,e⟩=>absurd (hl b o cap e).1 (by omega),.inl⟩⟩
 osub b hb h:=h.elim id λ⟨o,cap,e⟩=>absurd (hl b o cap e).1 (by omega)
 own' b hb h:=by
  obtain ⟨id,o,cap,h1,h2⟩:=h
  simp only [Mem.push,upd] at h1 h2
  split at h2
  ·simp only [Zs] at h2;exact absurd (hl b o cap h2).1 (by omega)
  ·rename_i hne
   rw [if_neg hne] at h1
   exact ⟨id,o,cap,h1,h2⟩
 refs cv v h:=Qlq (λid hs=>⟨upd_ne (M.isSome_ne hq hs),upd_ne (M.isSome_ne hq hs)⟩) h
theorem Quy {M:Mem} (hM:M.ok) {q:Nat} (hq:M.μ q=none) {k:Blk} {loc:Loc} {w':World} (hw:M.w.grownBy w' none) (hl:∀b o cap,loc=.blk b o cap->M.w.heap.size<=b/\b<w'.heap.size)
  (hb:BlkOK (M.push q k loc w') loc k):(M.push q k loc w').ok where
 blk id l h:=by
  by_cases e:id=q
  ·subst e
   simp only [Mem.push,upd_same,Zs] at h ⊢
   subst h;exact hb
  ·have hS:(M.push q k loc w').S id=M.S id:=upd_ne e
   have hμ:M.μ id=some l:=by rw [<-h];exact (upd_ne e).symm
   rw [hS]
   refine Qb4 hM (push_step hM hq hw hl) (hM.blk id l hμ) (λho b o cap he=>?_)
   subst he
   have hO:=hM.own ⟨id,o,cap,ho,hμ⟩
   exact ⟨hw.block b (hM.low b hO) (by simp),.inl hO⟩
 inj id id' b o o' cap cap' h1 h2 h3 h4:=by
  by_cases e:id=q<;>by_cases e':id'=q
  ·rw [e,e']
  ·subst e
   rw [show (M.push id k loc w').S id'=M.S id' from upd_ne e'] at h2
   rw [show (M.push id k loc w').μ id'=M.μ id' from upd_ne e'] at h4
   rw [show (M.push id k loc w').μ id=some loc from upd_same] at h3
   have:=hM.low b (hM.own ⟨id',o',cap',h2,h4⟩)
   simp only [Zs] at h3
   exact absurd (hl b o cap h3).1 (by omega)
  ·subst e'
   rw [show (M.push id' k loc w').S id=M.S id from upd_ne e] at h1
   rw [show (M.push id' k loc w').μ id=M.μ id from upd_ne e] at h3
   rw [show (M.push id' k loc w').μ id'=some loc from upd_same] at h4
   have:=hM.low b (hM.own ⟨id,o,cap,h1,h3⟩)
   simp only [Zs] at h4
   exact absurd (hl b o' cap' h4).1 (by omega)
  ·rw [show (M.push q k loc w').S id=M.S id from upd_ne e] at h1
   rw [show (M.push q k loc w').μ id=M.μ id from upd_ne e] at h3
   rw [show (M.push q k loc w').S id'=M.S id' from upd_ne e'] at h2
   rw [show (M.push q k loc w').μ id'=M.μ id' from upd_ne e'] at h4
   exact hM.inj id id' b o o' cap cap' h1 h2 h3 h4
 low b h:=h.elim (λh=>Z16 (hM.low b h) hw.size) λ⟨o,cap,e⟩=>(hl b o cap e).2
theorem Qcu (w:World) (o:Obj):w.grownBy (w.alloc o) none where
 os:=rfl
 tape:=rfl
 output:=rfl
 size:=by simp
 block k hk _:=by simp only [World.alloc,Z32];rw [if_neg (by omega)]
theorem Qc4 {M:Mem} {w':World} (hw:M.w.grownBy w' none):Step M {M with w:=w'} where
 size:=hw.size
 os:=hw.os
 tape:=hw.tape
 output:=hw.output
 keep b hb _:=⟨hw.block b hb (by simp),Iff.rfl⟩
 osub _ _ h:=h
 own' _ _ h:=h
 refs cv v h:=Qlq (λ_ _=>⟨rfl,rfl⟩) h
theorem Qxf {M:Mem} (hM:M.ok) {w':World} (hw:M.w.grownBy w' none):Mem.ok {M with w:=w'} where
 blk id l h:=Qb4 hM (Qc4 hw) (hM.blk id l h) (λho b o cap he=>by
  subst he
  have hO:=hM.own ⟨id,o,cap,ho,h⟩
  exact ⟨hw.block b (hM.low b hO) (by simp),hO⟩)
 inj:=hM.inj
 low b h:=Z16 (hM.low b h) hw.size
section
variable {P:Program} {C:Ctx} (hT:C.T.check P=true) {M:Mem}
theorem Qkh (hM:M.ok) {q:Nat} (hq:M.μ q=none) {e:Nat} {cur:Array Value} {cs:List V} (hr:RepL M cur cs) (cap:Nat) :
  BlkOK (M.push q (.cells e cs) (.blk M.w.heap.size 0 cap) (M.w.alloc (.cells cur e))) (.blk M.w.heap.size 0 cap) (.cells e cs):=by
 have hs:Step M (M.push q (.cells e cs) (.blk M.w.heap.size 0 cap) (M.w.alloc (.cells cur e))):=push_step hM hq (Qcu _ _) (λb o cap' he=>by cases he;simp)
 refine ⟨_,0,cap,rfl,.inr ⟨0,cap,rfl⟩,by simp [Mem.push],⟨rfl,by rw [<-hr.1];simp only [Mem.push,World.shape?,World.alloc,Z32,if_true]⟩,λj hj=>?_⟩
 obtain ⟨h1,h2⟩:=hr.2 j hj
 have hj':j<cur.size:=by rw [hr.1];exact hj
 refine ⟨cur.getD j Go.undef,?_,h2,hs.rep hM h1,?_⟩
 ·rw [Z18]
  simp [Mem.push,World.cell?_alloc_new,Z0,hj']
 ·simp only [Mem.push,World.frozen?,World.alloc,Z32,if_true,Z18];simp
theorem Qjj {q:Nat} {k:Blk} {b cap:Nat} {w':World}:Rep (M.push q k (.blk b 0 cap) w') (.pointer (some ⟨b,0,none⟩)) (.ptr q 0):=
 .ref ⟨rfl,by simp [Mem.push,upd],λ_=>⟨b,0,cap,by simp [Mem.push,upd],rfl⟩⟩
theorem Yl {q:Nat} {ver:Nat} {g:Bool} {e:Nat} {c:V} {loc:Loc} {n:Nat} (hn:lenV c=some n) {w':World} (ho:(Q0 loc n).oneCell'=true:=by rfl) :
  Rep (M.push q (.arr ver g e c) loc w') (Q0 loc n) (.sref q ver):=
 .ref ⟨ho,⟨by simp [Mem.push,upd],λv hv=>by simp [Mem.push,upd,verB] at hv;omega⟩,λc' hc'=>⟨loc,n,by simp [Mem.push,upd],by
  have:c'=c:=by simpa [Mem.push,upd,contentB] using hc'.symm
  rw [this];exact hn,rfl⟩⟩
theorem Qw9 {e:Nat} {cx:Value} {v:V} (hx:Rep M cx v) (hu:v.isU=false):(Instr.box e cx).run P M.w=.ok (.pointer (some ⟨M.w.heap.size,0,none⟩)) (M.w.alloc (.cells cx.cells e))/\RepL M cx.cells (cellsOf v):=by
 obtain ⟨h1,h2⟩:=Qbx hx hu
 exact ⟨by simp [Instr.box,newVar,newRow],h1,h2⟩
end
variable {R:Type}
theorem Qg8 {α:Type} (d:α) (n:Nat) (l:List α):∀j,j<n*l.length->(List.replicate n l).flatten.getD j d=l.getD (j%l.length) d:=by
 induction n with
 |zero=>intro j h;simp at h
 |
  succ n ih=>
  intro j h
  rw [Z19,Z70] at h
  simp only [List.replicate_succ,Z58,Zl]
  by_cases hj:j<l.length
  ·rw [Z47 hj,Z110 hj]
  ·rw [Z63 (by omega)]
   have:=ih (j-l.length) (by omega)
   simp only [Zl] at this
   rw [this,Nat.mod_eq_sub_mod (show l.length<=j by omega)]
theorem Qj0 {α:Type} (n:Nat) (l:List α):(List.replicate n l).flatten.length=n*l.length:=by simp
section
variable {P:Program} {C:Ctx} (hT:C.T.check P=true) {M:Mem}
include hT
theorem Qf5 {e n:Nat} {c:V} (h:C.zerosV e n=some c):C.bad e=false/\lenV c=some n/\zOf c=(C.ty e).size/\0<(C.ty e).size/\isExact c=false/\contentVal c=true/\flatV c=some (n,(List.replicate n (C.ty e).zero).flatten):=by
 unfold Ctx.zerosV at h
 have rec':∀z:List V,z=(C.ty e).zero->C.bad e=false->(C.ty e).size≠0->c=.recs false (C.ty e).size (List.replicate n z)->C.bad e=false/\lenV c=some n/\zOf c=(C.ty e).size/\0<(C.ty e).size/\isExact c=false/\contentVal c=true/\flatV c=some (n,(List.replicate n (C.ty e).zero).flatten):=by
  rintro z rfl hb hz rfl
  obtain ⟨_,_,_,_,_,_,_,h3,_⟩:=Y8 hT hb
  refine ⟨hb,by simp [lenV],rfl,by omega,rfl,rfl,?_⟩
  simp only [flatV]
  rw [if_pos ⟨by omega,λx hx=>by rw [(List.mem_replicate.1 hx).2];exact h3⟩];simp
 split at h
 ·rename_i k k' hd hz
  split at h
  case isFalse=>simp at h
  rename_i hk;subst hk
  simp only [Zs] at h;subst h
  have hb:C.bad e=false:=by simp [Ctx.bad,hd]
  have h1:=Qae hT hb (by simp [Ctx.isAgg,hd])
  refine ⟨hb,by simp [lenV],by simp [zOf,h1],by omega,rfl,rfl,?_⟩
  rw [hz];simp [flatV]
 ·rename_i hd hz
  simp only [Zs] at h;subst h
  have hb:C.bad e=false:=by simp [Ctx.bad,hd]
  have h1:=Qae hT hb (by simp [Ctx.isAgg,hd])
  refine ⟨hb,by simp [lenV],by simp [zOf,h1],by omega,rfl,rfl,?_⟩
  rw [hz];simp [flatV]
 ·simp at h
 ·simp at h
 ·simp at h
 ·simp at h
 ·rename_i hd1 hd2 hd3 hd4
  split at h
  case isFalse=>simp at h
  rename_i hz
  simp only [Zs] at h
  exact rec' _ rfl (by
   unfold Ctx.bad
   cases hdd:(C.ty e).d<;>simp_all) hz.1 h.symm
theorem Qzd (hM:M.ok) {q:Nat} (hq:M.μ q=none) {e n:Nat} {c:V} (h:C.zerosV e n=some c) (hn:n<=maxLen) {cur:Array Value} (hsz:cur.size=n*(C.ty e).size)
  (hc:∀j,j<n*(C.ty e).size->(cur.getD j Go.undef).oneCell'=true/\∀O w,Rep0 O w (cur.getD j Go.undef) ((C.ty e).zero.getD (j%(C.ty e).zero.length) .undef)) :
  BlkOK (M.push q (.arr 0 false e c) (.blk M.w.heap.size 0 n) (M.w.alloc (.cells cur e))) (.blk M.w.heap.size 0 n) (.arr 0 false e c):=by
 obtain ⟨hb,hl,hzo,hz0,hex,hcv,hf⟩:=Qf5 hT h
 obtain ⟨_,_,_,_,_,_,_,h3,_⟩:=Y8 hT hb
 have hfl:((List.replicate n (C.ty e).zero).flatten).length=n*(C.ty e).size:=by rw [Qj0,h3]
 refine ⟨λ_ _ _ he=>by cases he;exact ⟨.inr ⟨0,n,rfl⟩,by simp [Mem.push]⟩,n,_,cur,(0,0),hf,rfl,Z4 _,hn,?_,by rw [hzo];exact hsz,λ_=>rfl,λ_ _=>⟨rfl,rfl⟩,λj hj=>?_,λj hj=>?_⟩
 ·simp only [Mem.push,World.alloc,Z32,if_true]
 ·simp only [Mem.push,World.frozen?,World.alloc,Z32,if_true];simp
 ·obtain ⟨h1,h2⟩:=hc j (by omega)
  refine ⟨?_,h1⟩
  have:=Qg8 (V.undef) n (C.ty e).zero j (by rw [h3];omega)
  rw [Zl,Z1 hj] at this
  simp only [Z52] at this
  rw [this];exact h2 _ _
theorem Qs7 (hM:M.ok) {q:Nat} (hq:M.μ q=none) {t e:Nat} (hd:(C.ty t).d=.slice e) {k kc:IntKind} {n:Int} (h0:0<=n) (hn:n*(C.ty e).bytes<=140737488355328) (hb0:(C.ty e).bytes≠0) {c:V} (h:C.zerosV e n.toNat=some c) :
  ∃
   cur,(Instr.makeSlice t (.int k n) (.int kc n)).run P M.w=.ok (Q0 (.blk M.w.heap.size 0 n.toNat) n.toNat) (M.w.alloc (.cells cur e)) /\
   BlkOK (M.push q (.arr 0 false e c) (.blk M.w.heap.size 0 n.toNat) (M.w.alloc (.cells cur e))) (.blk M.w.heap.size 0 n.toNat) (.arr 0 false e c):=by
 obtain ⟨hb,hl,hzo,hz0,_⟩:=Qf5 hT h
 obtain ⟨j,z,hj,hs,hbs,hz,h2,h3,h4⟩:=Y8 hT hb
 have hu:=(Q9 hT hd).1
 have hle:n<=140737488355328:=by
  have:(1:Int)<=(C.ty e).bytes:=by omega
  calc n=n*1:=by omega
   _<=n*(C.ty e).bytes:=Int.mul_le_mul_of_nonneg_left this h0
   _<=_:=hn
 refine ⟨_,run_make M.w t e j z hu hj hz k kc n n h0 (Z99 _) (by rw [hbs,Z87];omega) (by omega),?_⟩
 refine Qzd hT hM hq h (by unfold maxLen;omega) (by rw [size_madeCells,hs]) (λi hi=>?_)
 have hlt:i%(C.ty e).size<(C.ty e).size:=Z79 _ hz0
 have e1:(madeCells z.cells (n.toNat*j.size)).getD i Go.undef=z.cells.getD (i%(C.ty e).size) Go.undef:=by
  have:i<n.toNat*j.size:=by rw [hs];exact hi
  simp [madeCells,Z0,this,h2,hlt]
 rw [e1,h3];exact h4 _ hlt
theorem Qvp (hM:M.ok) {q:Nat} (hq:M.μ q=none) {t:Nat} {k:Blk} (h:C.newBlk t=some k) :
  ∃
   cur cap,(Instr.alloc t true (.tuple #[])).run P M.w=.ok (.pointer (some ⟨M.w.heap.size,0,none⟩)) (M.w.alloc (.cells cur t)) /\
   BlkOK (M.push q k (.blk M.w.heap.size 0 cap) (M.w.alloc (.cells cur t))) (.blk M.w.heap.size 0 cap) k:=by
 unfold Ctx.newBlk at h
 by_cases hb:C.bad t=true
 ·rw [if_pos hb] at h;simp at h
 rw [if_neg hb] at h
 have hb:C.bad t=false:=by simpa using hb
 obtain ⟨j,z,hj,hs,hbs,hz,h2,h3,h4⟩:=Y8 hT hb
 obtain ⟨_,_,hj',_,hz',_,_,hrl⟩:=Qfx hT (M:=M) hb
 rw [hj] at hj';simp only [Zs] at hj';subst hj'
 rw [hz] at hz';simp only [Zs] at hz';subst hz'
 have hrun:(Instr.alloc t true (.tuple #[])).run P M.w=.ok (.pointer (some ⟨M.w.heap.size,0,none⟩)) (M.w.alloc (.cells z.cells t)):=by
  simp [Instr.alloc,zeroValue,typeInfo,hj,hz,newVar,newRow]
 have cells:∀{k},some (Blk.cells t (C.ty t).zero)=some k->∃cur cap,(Instr.alloc t true (.tuple #[])).run P M.w=.ok (.pointer (some ⟨M.w.heap.size,0,none⟩)) (M.w.alloc (.cells cur t)) /\
   BlkOK (M.push q k (.blk M.w.heap.size 0 cap) (M.w.alloc (.cells cur t))) (.blk M.w.heap.size 0 cap) k:=by
  intro k h
  simp only [Zs] at h;subst h
  exact ⟨_,0,hrun,Qkh hM hq hrl 0⟩
 split at h
 ·rename_i n e hd
  split at h
  ·rename_i kk hde
   split at h
   case isFalse=>simp at h
   rename_i hc
   obtain ⟨hn,hn2,hall⟩:=hc
   simp only [Zs] at h;subst h
   refine ⟨_,n,hrun,λ_ _ _ he=>by cases he;exact ⟨.inr ⟨0,n,rfl⟩,by simp [Mem.push]⟩,n,(List.replicate n (0:Int)).map (.int kk),z.cells,(0,0),by simp [flatV],rfl,Z4 _,by unfold maxLen;omega,?_,by simp [zOf];omega,λ_=>rfl,λ_ _=>⟨rfl,rfl⟩,λj hj=>?_,λj hj=>?_⟩
   ·simp only [Mem.push,World.alloc,Z32,if_true]
   ·simp only [Mem.push,World.frozen?,World.alloc,Z32,if_true];simp
   ·simp at hj
    obtain ⟨h1,h5⟩:=h4 j (by omega)
    refine ⟨?_,h1⟩
    have e1:(C.ty t).zero.getD j .undef=.int kk 0:=by
     have:=Z23.1 hall ((C.ty t).zero.getD j .undef) (by
      rw [Zl,Z1 (by omega)];simp)
     generalize (C.ty t).zero.getD j .undef=x at this
     unfold Qlt at this
     split at this
     ·simp only [decide_eq_true_eq] at this;subst this;rfl
     ·simp at this
    have:=h5 (M.push q (.arr 0 false t (.ints false kk (List.replicate n 0))) (.blk M.w.heap.size 0 n) (M.w.alloc (.cells z.cells t))).O (M.push q (.arr 0 false t (.ints false kk (List.replicate n 0))) (.blk M.w.heap.size 0 n) (M.w.alloc (.cells z.cells t))).w
    rw [e1] at this
    simpa using this
  ·exact cells h
 ·exact cells h
end
variable {R:Type}
def rowOf:Loc->Option Nat
 |.nil _=>none
 |.blk b _ _=>some b
structure Wq (M:Mem) (id:Nat) (loc loc':Loc) (k':Blk) (w':World):Prop where
 μ:M.μ id=some loc
 own:(M.S id).own=true
 w:M.w.grownBy w' (rowOf loc)
 dst:∀b o cap,loc'=.blk b o cap->b<w'.heap.size/\(M.w.heap.size<=b\/∃o cap,loc=.blk b o cap)
 fix:k'.fix=true->loc'=loc/\(M.S id).fix=true
 refs:∀ver c',verLe (M.S id) ver->contentB k' ver=some c'->loc'=loc/\∃c,contentB (M.S id) ver=some c/\lenV c=lenV c'/\zOf c=zOf c'
 ver:∀ver,verLe (M.S id) ver->verLe k' ver
theorem Qx9 {M:Mem} {id:Nat} {loc loc':Loc} {k':Blk} {w':World} (h:Wq M id loc loc' k' w') {cv:Value} {v:V} (hr:M.Ref cv v):(M.push id k' loc' w').Ref cv v:=by
 obtain ⟨h1,h2⟩:=hr
 have other:∀i,i≠id->(M.push id k' loc' w').μ i=M.μ i/\(M.push id k' loc' w').S i=M.S i:=λi hi=>⟨upd_ne hi,upd_ne hi⟩
 have same:(M.push id k' loc' w').μ id=some loc'/\(M.push id k' loc' w').S id=k':=⟨upd_same,upd_same⟩
 refine ⟨h1,?_⟩
 cases v<;>simp only [Mem.Ref1] at h2 ⊢
 ·rename_i i off
  obtain ⟨hs,h2⟩:=h2
  by_cases e:i=id
  ·subst e
   rw [same.1,same.2]
   refine ⟨rfl,λhk=>?_⟩
   obtain ⟨rfl,hf⟩:=h.fix hk
   obtain ⟨b,o,cap,h3,h4⟩:=h2 hf
   rw [h.μ] at h3
   exact ⟨b,o,cap,h3,h4⟩
  ·rw [(other i e).1,(other i e).2];exact ⟨hs,h2⟩
 ·rename_i i ver ix off
  obtain ⟨⟨hs,hv⟩,h2⟩:=h2
  by_cases e:i=id
  ·subst e
   rw [same.1,same.2]
   refine ⟨⟨rfl,h.ver _ hv⟩,λc' hc'=>?_⟩
   obtain ⟨rfl,c,hc,_,hz⟩:=h.refs ver c' hv hc'
   obtain ⟨b,o,cap,h3,h4⟩:=h2 c hc
   rw [h.μ] at h3
   exact ⟨b,o,cap,h3,by rw [<-hz];exact h4⟩
  ·rw [(other i e).1,(other i e).2];exact ⟨⟨hs,hv⟩,h2⟩
 ·rename_i i ver
  obtain ⟨⟨hs,hv⟩,h2⟩:=h2
  by_cases e:i=id
  ·subst e
   rw [same.1,same.2]
   refine ⟨⟨rfl,h.ver _ hv⟩,λc' hc'=>?_⟩
   obtain ⟨rfl,c,hc,hl,hz⟩:=h.refs ver c' hv hc'
   obtain ⟨loc2,n,h3,h4,h5⟩:=h2 c hc
   rw [h.μ] at h3
   exact ⟨loc2,n,h3,by rw [<-hl];exact h4,h5⟩
  ·rw [(other i e).1,(other i e).2];exact ⟨⟨hs,hv⟩,h2⟩
 ·rename_i i ver lo n
  obtain ⟨⟨hs,hv⟩,h2⟩:=h2
  by_cases e:i=id
  ·subst e
   rw [same.1,same.2]
   refine ⟨⟨rfl,h.ver _ hv⟩,λc' hc'=>?_⟩
   obtain ⟨rfl,c,hc,hl,hz⟩:=h.refs ver c' hv hc'
   obtain ⟨loc2,m,a,cap',h3,h4,h5⟩:=h2 c hc
   rw [h.μ] at h3
   exact ⟨loc2,m,a,cap',h3,by rw [<-hl];exact h4,by rw [<-hz];exact h5⟩
  ·rw [(other i e).1,(other i e).2];exact ⟨⟨hs,hv⟩,h2⟩
theorem write_step {M:Mem} (hM:M.ok) {id:Nat} {loc loc':Loc} {k':Blk} {w':World} (h:Wq M id loc loc' k' w'):Step M (M.push id k' loc' w') where
 size:=h.w.size
 os:=h.w.os
 tape:=h.w.tape
 output:=h.w.output
 keep b hb hn:=by
  have hne:∀o cap,loc≠.blk b o cap:=λo cap e=>hn ⟨id,o,cap,h.own,by rw [h.μ,e]⟩
  refine ⟨h.w.block b hb (λe=>?_),⟨λho=>ho.elim _root_.id λ⟨o,cap,e⟩=>?_,.inl⟩⟩
  ·cases loc with
   |nil=>simp [rowOf] at e
   |blk b' o cap=>simp only [rowOf,Zs] at e;subst e;exact hne o cap rfl
  ·rcases (h.dst b o cap e).2 with h1|⟨o',cap',h1⟩
   ·omega
   ·exact absurd h1 (hne o' cap')
 osub b hb ho:=ho.elim _root_.id λ⟨o,cap,e⟩=>by
  rcases (h.dst b o cap e).2 with h1|⟨o',cap',h1⟩
  ·omega
  ·exact hM.own ⟨id,o',cap',h.own,by rw [h.μ,h1]⟩
 own' b hb ho:=by
  obtain ⟨i,o,cap,h1,h2⟩:=ho
  by_cases e:i=id
  ·subst e
   rw [show (M.push i k' loc' w').μ i=some loc' from upd_same] at h2
   simp only [Zs] at h2
   rcases (h.dst b o cap h2).2 with h3|⟨o',cap',h3⟩
   ·omega
   ·exact ⟨i,o',cap',h.own,by rw [h.μ,h3]⟩
  ·rw [show (M.push id k' loc' w').μ i=M.μ i from upd_ne e] at h2
   rw [show (M.push id k' loc' w').S i=M.S i from upd_ne e] at h1
   exact ⟨i,o,cap,h1,h2⟩
 refs cv v hr:=Qx9 h hr
theorem Qp6 {M:Mem} (hM:M.ok) {id:Nat} {loc loc':Loc} {k':Blk} {w':World} (h:Wq M id loc loc' k' w') (hb:BlkOK (M.push id k' loc' w') loc' k'):(M.push id k' loc' w').ok where
 blk i l hl:=by
  by_cases e:i=id
  ·subst e
   rw [show (M.push i k' loc' w').μ i=some loc' from upd_same] at hl
   rw [show (M.push i k' loc' w').S i=k' from upd_same]
   simp only [Zs] at hl;subst hl;exact hb
  ·rw [show (M.push id k' loc' w').μ i=M.μ i from upd_ne e] at hl
   rw [show (M.push id k' loc' w').S i=M.S i from upd_ne e]
   refine Qb4 hM (write_step hM h) (hM.blk i l hl) (λho b o cap he=>?_)
   subst he
   have hO:=hM.own ⟨i,o,cap,ho,hl⟩
   refine ⟨h.w.block b (hM.low b hO) (λe'=>?_),.inl hO⟩
   cases hloc:loc with
   |nil=>rw [hloc] at e';simp [rowOf] at e'
   |
    blk b' o' cap'=>
    rw [hloc] at e';simp only [rowOf,Zs] at e';subst e'
    exact e (hM.inj i id _ _ _ _ _ ho h.own hl (by rw [h.μ,hloc]))
 inj i i' b o o' cap cap' h1 h2 h3 h4:=by
  have key:∀j oj capj,j≠id->(M.push id k' loc' w').S j=M.S j->(M.S j).own=true->M.μ j=some (.blk b oj capj)->∀o cap,loc'=.blk b o cap->False:=by
   intro j oj capj hj _ h5 h6 o cap h7
   rcases (h.dst b o cap h7).2 with h8|⟨o',cap',h8⟩
   ·exact absurd (hM.low b (hM.own ⟨j,oj,capj,h5,h6⟩)) (by omega)
   ·exact hj (hM.inj j id b oj o' capj cap' h5 h.own h6 (by rw [h.μ,h8]))
  by_cases e:i=id<;>by_cases e':i'=id
  ·rw [e,e']
  ·rw [show (M.push id k' loc' w').μ i'=M.μ i' from upd_ne e'] at h4
   rw [show (M.push id k' loc' w').S i'=M.S i' from upd_ne e'] at h2
   rw [e,show (M.push id k' loc' w').μ id=some loc' from upd_same] at h3
   simp only [Zs] at h3
   exact (key i' o' cap' e' (upd_ne e') h2 h4 o cap h3).elim
  ·rw [show (M.push id k' loc' w').μ i=M.μ i from upd_ne e] at h3
   rw [show (M.push id k' loc' w').S i=M.S i from upd_ne e] at h1
   rw [e',show (M.push id k' loc' w').μ id=some loc' from upd_same] at h4
   simp only [Zs] at h4
   exact (key i o cap e (upd_ne e) h1 h3 o' cap' h4).elim
  ·rw [show (M.push id k' loc' w').S i=M.S i from upd_ne e] at h1
   rw [show (M.push id k' loc' w').μ i=M.μ i from upd_ne e] at h3
   rw [show (M.push id k' loc' w').S i'=M.S i' from upd_ne e'] at h2
   rw [show (M.push id k' loc' w').μ i'=M.μ i' from upd_ne e'] at h4
   exact hM.inj i i' b o o' cap cap' h1 h2 h3 h4
 low b ho:=ho.elim (λho=>Z16 (hM.low b ho) h.w.size) λ⟨o,cap,e⟩=>(h.dst b o cap e).1
variable {R:Type}
theorem Qh3:∀(us cs:List V) (off j:Nat),off+us.length<=cs.length->(A.setAt cs off us).getD j .undef=if off<=j/\j<off+us.length then us.getD (j-off) .undef else cs.getD j .undef
 |[],cs,off,j,_=>by simp [A.setAt];intro h1 h2;omega
 |
  u::us,cs,off,j,h=>by
  simp only [Z9] at h
  rw [A.setAt,Qh3 us _ (off+1) j (by simp;omega)]
  simp only [Z9]
  by_cases h1:j=off
  ·subst h1
   rw [if_neg (by omega),if_pos (by omega)]
   simp [Zl,List.getElem?_set,show j<cs.length by omega]
  ·by_cases h2:off+1<=j/\j<off+1+us.length
   ·rw [if_pos h2,if_pos (by omega)]
    have:j-off=(j-(off+1))+1:=by omega
    rw [this];simp
   ·rw [if_neg h2,if_neg (by omega)]
    simp [Zl,List.getElem?_set,Ne.symm h1]
def arrSet:Array Value->Nat->List Value->Array Value
 |cur,_,[]=>cur
 |cur,o,v::r=>arrSet (cur.setIfInBounds o v) (o+1) r
theorem arrSet_size:∀(vs:List Value) (cur:Array Value) (o:Nat),(arrSet cur o vs).size=cur.size
 |[],_,_=>rfl
 |v::r,cur,o=>by simp [arrSet,arrSet_size r]
theorem Qdt:∀(us:List Value) (cs:Array Value) (off j:Nat),off+us.length<=cs.size->(arrSet cs off us).getD j Go.undef=if off<=j/\j<off+us.length then us.getD (j-off) Go.undef else cs.getD j Go.undef
 |[],cs,off,j,_=>by simp [arrSet];intro h1 h2;omega
 |
  u::us,cs,off,j,h=>by
  simp only [Z9] at h
  rw [arrSet,Qdt us _ (off+1) j (by simp;omega)]
  simp only [Z9]
  by_cases h1:j=off
  ·subst h1
   rw [if_neg (by omega),if_pos (by omega)]
   simp [Z0,Array.getElem?_setIfInBounds,show j<cs.size by omega]
  ·by_cases h2:off+1<=j/\j<off+1+us.length
   ·rw [if_pos h2,if_pos (by omega)]
    have:j-off=(j-(off+1))+1:=by omega
    rw [this];simp
   ·rw [if_neg h2,if_neg (by omega)]
    simp [Z0,Array.getElem?_setIfInBounds,Ne.symm h1]
theorem setCells_heap (b:Nat):∀(vs:List Value) (o:Nat) (w:World) {cur:Array Value} {e:TypeId} {fz:Nat×Nat},w.heap[b]? = some (.cells cur e fz)->(w.setCells b o vs).heap[b]? = some (.cells (arrSet cur o vs) e fz)
 |[],_,_,_,_,_,h=>h
 |
  v::r,o,w,cur,e,fz,h=>by
  rw [World.setCells,arrSet]
  refine setCells_heap b r (o+1) _ ?_
  simp [World.setCell,Z97,h]
theorem setCells_grown (b:Nat):∀(vs:List Value) (o:Nat) (w:World),w.grownBy (w.setCells b o vs) (some b)
 |[],_,w=>⟨rfl,rfl,rfl,Z4 _,λ_ _ _=>rfl⟩
 |
  v::r,o,w=>by
  have h:=setCells_grown b r (o+1) (w.setCell ⟨b,o,none⟩ v)
  refine ⟨h.os,h.tape,h.output,by simpa [World.setCells] using h.size,λk hk hne=>?_⟩
  have h1:=h.block k (by simpa using hk) hne
  rw [World.setCells,h1]
  simp only [World.setCell,Z97]
  rw [if_neg (λe=>hne (by rw [e]))]
section
variable {P:Program} {C:Ctx} (hT:C.T.check P=true) {M:Mem}
theorem Qe5 {cv:Value} {v:V} (h:Rep M cv v) (hf:v.flatImm=true):Rep0 M.O M.w cv v:=by
 cases h with
 |imm h=>exact h
 |ref h=>cases v<;>first|exact h.2.elim|simp [V.flatImm] at hf
 |agg=>simp [V.flatImm] at hf
 |tup=>simp [V.flatImm] at hf
 |iface=>simp [V.flatImm] at hf
 |
  func f cvs cs hl hr=>
  cases cs with
  |
   nil=>
   have:cvs = #[]:=by simpa using hl
   subst this;exact .func f
  |cons=>simp [V.flatImm] at hf
theorem Qjn (hT:C.T.check P=true) {t:Nat} (hb:C.bad t=false) {b o:Nat} {cv:Value} (hsz:cv.cells.size=(C.ty t).size) (hc:∀j,j<cv.cells.size->(M.w.cell? ⟨b,o+j,none⟩).isSome=true/\M.w.frozen? ⟨b,o+j,none⟩=false)
  (h1:∀j,j<cv.cells.size->(cv.cells.getD j Go.undef).oneCell'=true) :
  (Instr.storeAt t (.pointer (some ⟨b,o,none⟩)) cv).run P M.w=.ok () (M.w.setCells b o cv.cells.toList):=by
 have hS:=Y2 hT (Wg hb) M.w
 have:=run_storeCells_cells (P:=P) b o cv.cells.toList 0 M.w (λj hj=>by simpa using (hc j (by simpa using hj)).1) (λj hj=>by simpa using (hc j (by simpa using hj)).2) (λv hv=>by
  obtain ⟨j,hj,rfl⟩:=Z90 hv
  have hj':j<cv.cells.size:=by simpa using hj
  have:=h1 j hj'
  simpa [Z0,hj'] using this)
 simp only [Instr.storeAt,Instr.sureAddr,Sem.run_bind,Sem.run_pure,Result.andThen_ok,storeVar,hS]
 rw [if_neg (by simpa using hsz)]
 simpa using this
theorem Qz3 (w:World) (a:Addr) (v:Value) (b:Nat):(w.setCell a v).shape? b=w.shape? b:=by
 unfold World.shape? World.setCell
 simp only [Z97]
 by_cases h:a.block=b
 ·rw [if_pos h]
  cases hb:w.heap[b]? with
  |none=>rfl
  |some o=>cases o<;>simp;split<;>simp
 ·rw [if_neg h]
theorem Qz4 (b:Nat):∀(vs:List Value) (o:Nat) (w:World) (x:Nat),(w.setCells b o vs).shape? x=w.shape? x
 |[],_,_,_=>rfl
 |v::r,o,w,x=>by rw [World.setCells,Qz4 b r,Qz3]
theorem Qn6 (hM:M.ok) {id off:Nat} {t0:Nat} {cs:List V} (hk:M.S id=.cells t0 cs) {b o cap:Nat} (hμ:M.μ id=some (.blk b o cap)) {cv:Value} {v:V} (hv:Rep M cv v) (hu:v.isU=false) (hle:off+(cellsOf v).length<=cs.length) :
  (∀j,j<cv.cells.size->(M.w.cell? ⟨b,o+off+j,none⟩).isSome=true/\M.w.frozen? ⟨b,o+off+j,none⟩=false) /\
  Wq M id (.blk b o cap) (.blk b o cap) (.cells t0 (A.setAt cs off (cellsOf v))) (M.w.setCells b (o+off) cv.cells.toList) /\
  BlkOK (M.push id (.cells t0 (A.setAt cs off (cellsOf v))) (.blk b o cap) (M.w.setCells b (o+off) cv.cells.toList)) (.blk b o cap) (.cells t0 (A.setAt cs off (cellsOf v))):=by
 obtain ⟨h1,h2⟩:=Qbx hv hu
 have hB:=hM.blk id _ hμ
 rw [hk] at hB
 obtain ⟨_,_,_,he,hO,hlt,hsh,hcell⟩:=hB
 cases he
 have hin:∀j,j<cv.cells.size->(M.w.cell? ⟨b,o+off+j,none⟩).isSome=true/\M.w.frozen? ⟨b,o+off+j,none⟩=false:=λj hj=>by
  obtain ⟨cv',h3,h4,h5,h6⟩:=hcell (off+j) (by omega)
  rw [Z36,h3];exact ⟨rfl,h6⟩
 have hW:Wq M id (.blk b o cap) (.blk b o cap) (.cells t0 (A.setAt cs off (cellsOf v))) (M.w.setCells b (o+off) cv.cells.toList):=
  {
   μ:=hμ,own:=by rw [hk];rfl,w:=setCells_grown _ _ _ _,dst:=λb' o' cap' e=>by cases e;exact ⟨Z16 hlt (setCells_grown _ _ _ _).size,.inr ⟨o,cap,rfl⟩⟩,
   fix:=λ_=>⟨rfl,by rw [hk];rfl⟩,refs:=λver c' _ hc=>by simp [contentB] at hc,ver:=λver _ v hv=>by simp [verB] at hv}
 refine ⟨hin,hW,b,o,cap,rfl,.inr ⟨o,cap,rfl⟩,Z16 hlt (setCells_grown _ _ _ _).size,by rw [Jw];simp only [Mem.push,Qz4];exact hsh,λj hj=>?_⟩
 rw [Jw] at hj
 have hs:=write_step hM hW
 have hget:=Qh3 (cellsOf v) cs off j hle
 have e1:(A.setAt cs off (cellsOf v))[j]'(by rw [Jw];exact hj)=(A.setAt cs off (cellsOf v)).getD j .undef:=by
  rw [Zl,Z1 (by rw [Jw];exact hj)];rfl
 have hfr:(M.w.setCells b (o+off) cv.cells.toList).frozen? ⟨b,o+j,none⟩=false:=by
  rw [World.frozen?_setCells]
  obtain ⟨_,_,_,_,h6⟩:=hcell j hj
  exact h6
 by_cases hj2:off<=j/\j<off+(cellsOf v).length
 ·rw [if_pos hj2] at hget
  obtain ⟨h7,h8⟩:=h2 (j-off) (by omega)
  have hjl:j-off<cv.cells.toList.length:=by simp;omega
  have:=World.cell?_setCells_in b cv.cells.toList (o+off) M.w (λi hi=>by have:=(hin i (by simpa using hi)).1;simpa [Z36] using this) (j-off) hjl
  rw [show o+off+(j-off)=o+j by omega] at this
  refine ⟨_,this,?_,?_,hfr⟩
  ·have e2:cv.cells.toList[j-off]=cv.cells.getD (j-off) Go.undef:=by simp [Z0,show j-off<cv.cells.size by omega]
   rw [e2];exact h8
  ·have e2:cv.cells.toList[j-off]=cv.cells.getD (j-off) Go.undef:=by simp [Z0,show j-off<cv.cells.size by omega]
   rw [e2,e1,hget,Zl,Z1 (by omega)]
   exact hs.rep hM h7
 ·rw [if_neg hj2] at hget
  obtain ⟨cv',h3,h4,h5,h6⟩:=hcell j hj
  refine ⟨cv',?_,h4,?_,hfr⟩
  ·have h9:=World.cell?_setCells_out b cv.cells.toList (o+off) M.w ⟨b,o+j,none⟩ (λ_ _=>by simp;omega)
   simp only [Mem.push];rw [h9];exact h3
  ·rw [e1,hget,Zl,Z1 hj]
   exact hs.rep hM h5
theorem Qdl (hM:M.ok) {id ver:Nat} {g:Bool} {e:Nat} {c c':V} (hk:M.S id=.arr ver g e c) {b o cap:Nat} (hμ:M.μ id=some (.blk b o cap)) {off:Nat} {us:List V} {n:Nat} {fl:List V} {vs:List Value}
  (hf:flatV c=some (n,fl)) (hf':flatV c'=some (n,A.setAt fl off us)) (hz:zOf c'=zOf c) (hxe:isExact c'=isExact c) (hle:off+us.length<=fl.length) (hl:vs.length=us.length)
  (hv:∀j,j<us.length->Rep0 M.O M.w (vs.getD j Go.undef) (us.getD j .undef)/\(vs.getD j Go.undef).oneCell'=true) :
  (∀j,j<vs.length->(M.w.cell? ⟨b,o+off+j,none⟩).isSome=true/\M.w.frozen? ⟨b,o+off+j,none⟩=false) /\
  Wq M id (.blk b o cap) (.blk b o cap) (.arr ver g e c') (M.w.setCells b (o+off) vs) /\
  BlkOK (M.push id (.arr ver g e c') (.blk b o cap) (M.w.setCells b (o+off) vs)) (.blk b o cap) (.arr ver g e c'):=by
 have hB:=hM.blk id _ hμ
 rw [hk] at hB
 obtain ⟨h0,n',fl',cur,fz,a1,rfl,a3,a4,a5,a6,a7,a8,a9,a10⟩:=hB
 rw [hf] at a1;simp only [Zs,Z2] at a1;obtain ⟨rfl,rfl⟩:=a1
 have hfl:=Qj hf
 have hfl':=Qj hf'
 have hcur:fl.length<=cur.size:=by rw [hfl.1,a6];exact Z3 _ a3
 have hin:∀j,j<vs.length->(M.w.cell? ⟨b,0+off+j,none⟩).isSome=true/\M.w.frozen? ⟨b,0+off+j,none⟩=false:=λj hj=>by
  have hlt:off+j<cur.size:=by omega
  have:=a9 (off+j) (by omega)
  rw [Z18]
  exact ⟨by simp [World.cell?,a5,hlt],this⟩
 have hW:Wq M id (.blk b 0 cap) (.blk b 0 cap) (.arr ver g e c') (M.w.setCells b (0+off) vs):=
  {
   μ:=hμ,own:=by rw [hk];rfl,w:=setCells_grown _ _ _ _,dst:=λb' o' cap' e=>by cases e;exact ⟨Z16 (h0 _ _ _ rfl).2 (setCells_grown _ _ _ _).size,.inr ⟨0,cap,rfl⟩⟩,
   fix:=λh=>⟨rfl,by rw [hk];cases g<;>simp_all [Blk.fix]⟩
   refs:=λver' c'' _ hc=>by
    simp only [contentB] at hc
    split at hc
    ·rename_i e;subst e
     simp only [Zs] at hc;subst hc
     exact ⟨rfl,c,by rw [hk];simp [contentB],by rw [hfl.2,hfl'.2],hz.symm⟩
    ·simp at hc
   ver:=λver' h v hv=>by rw [hk] at h;exact h v hv}
 have hs:=write_step hM hW
 refine ⟨hin,hW,λ_ _ _ e=>by cases e;exact ⟨.inr ⟨0,cap,rfl⟩,Z16 (h0 _ _ _ rfl).2 (setCells_grown _ _ _ _).size⟩,n,_,arrSet cur (0+off) vs,fz,hf',rfl,a3,a4,setCells_heap b vs _ _ a5,by rw [arrSet_size,a6,hz],a7,λh h'=>a8 h (hxe▸h'),λj hj=>?_,λj hj=>?_⟩
 ·rw [Jw] at hj
  show (M.w.setCells b (0+off) vs).frozen? _=false
  rw [World.frozen?_setCells];exact a9 j hj
 ·have hj':=hj
  rw [Jw] at hj'
  have e1:(A.setAt fl off us)[j]'hj=(A.setAt fl off us).getD j .undef:=by
   rw [Zl,Z1 hj];rfl
  have e3:arrSet cur (0+off) vs=arrSet cur off vs:=by rw [Z18]
  rw [e1,Qh3 us fl off j hle,e3,Qdt vs cur off j (by omega),hl]
  by_cases hj2:off<=j/\j<off+us.length
  ·rw [if_pos hj2,if_pos hj2]
   obtain ⟨h1,h2⟩:=hv (j-off) (by omega)
   exact ⟨hs.rep0 hM h1,h2⟩
  ·rw [if_neg hj2,if_neg hj2,Zl,Z1 hj']
   obtain ⟨h1,h2⟩:=a10 j hj'
   exact ⟨hs.rep0 hM h1,h2⟩
end
variable {R:Type}
structure Post (M M':Mem) (S S':Store) (wr:List Nat):Prop where
 step:Step M M'
 ok:M'.ok
 wrS:∀id∈wr,M'.S id=S'.getD id .dead
 keepM:∀id,id∉wr->M'.S id=M.S id
 keepS:∀id,id∉wr->S'.getD id .dead=S.getD id .dead
 μ:∀id,id≠S.length->(M'.μ id).isSome=(M.μ id).isSome
 μ':(M'.μ S.length).isSome=true->(M.μ S.length).isSome=true\/S.length<S'.length
 len:S.length<=S'.length
 len':S'.length<=S.length+1
theorem Post.refl {M:Mem} (hM:M.ok) (S:Store):Post M M S S [] where
 step:=.refl M
 ok:=hM
 wrS:=λ_ h=>absurd h (by simp)
 keepM:=λ_ _=>rfl
 keepS:=λ_ _=>rfl
 μ:=λ_ _=>rfl
 μ':=.inl
 len:=Z4 _
 len':=Nat.le_succ _
theorem Qz1 (us:List V):∀(a b:List V) (off:Nat),off+us.length<=a.length->A.setAt (a++b) off us=A.setAt a off us++b:=by
 induction us with
 |nil=>intros;rfl
 |
  cons u us ih=>
  intro a b off h
  simp only [Z9] at h
  rw [A.setAt,A.setAt,List.set_append_left _ _ (by omega),ih _ _ _ (by simp;omega)]
theorem Qx3 (us:List V):∀(a b:List V) (off:Nat),A.setAt (a++b) (a.length+off) us=a++A.setAt b off us:=by
 induction us with
 |nil=>intros;rfl
 |
  cons u us ih=>
  intro a b off
  rw [A.setAt,A.setAt,List.set_append_right _ _ (by omega),Nat.add_sub_cancel_left,Z36,ih]
theorem Qnc (z:Nat) (us:List V):∀(l:J2) (i off:Nat),(∀e∈l,e.length=z)->i<l.length->off+us.length<=z ->
  (l.set i (A.setAt (l.getD i []) off us)).flatten=A.setAt l.flatten (i*z+off) us
 |[],i,_,_,h,_=>by simp at h
 |
  e::l,0,off,hz,_,ho=>by
  have h1:=hz e (by simp)
  simp only [List.set_cons_zero,List.getD_cons_zero,Z58,Nat.zero_mul,Z18]
  rw [Qz1 us e _ off (by omega)]
 |
  e::l,i+1,off,hz,h,ho=>by
  have h1:=hz e (by simp)
  simp only [List.set_cons_succ,List.getD_cons_succ,Z58]
  rw [Qnc z us l i off (λx hx=>hz x (by simp [hx])) (by simpa using h) ho,Z19,Z70]
  rw [show i*z+z+off=e.length+(i*z+off) by omega,Qx3]
theorem getD_set_store {S:Store} {id:Nat} {k:Blk} (h:id<S.length) (i:Nat):(S.set id k).getD i .dead=if i=id then k else S.getD i .dead:=by
 by_cases e:i=id
 ·subst e;simp [Zl,List.getElem?_set,h]
 ·simp [Zl,List.getElem?_set,Ne.symm e,e]
theorem Wk {S:Store} {id:Nat} {k:Blk} (h:S.getD id .dead=k) (hk:k≠.dead):id<S.length:=by
 by_cases hi:id<S.length
 ·exact hi
 ·rw [Zl,Z17 (by omega)] at h;exact absurd h.symm hk
theorem post_write {M:Mem} (hM:M.ok) {S:Store} {id:Nat} {loc loc':Loc} {k':Blk} {w':World} (hW:Wq M id loc loc' k' w') (hB:BlkOK (M.push id k' loc' w') loc' k') (hi:id<S.length) :
  Post M (M.push id k' loc' w') S (S.set id k') [id] where
 step:=write_step hM hW
 ok:=Qp6 hM hW hB
 wrS i h:=by simp only [Z113] at h;subst h;rw [getD_set_store hi,if_pos rfl];exact upd_same
 keepM i h:=upd_ne (by simpa using h)
 keepS i h:=by rw [getD_set_store hi,if_neg (by simpa using h)]
 μ
  i _:=by
  by_cases e:i=id
  ·subst e;rw [show (M.push i k' loc' w').μ i=some loc' from upd_same,hW.μ];rfl
  ·rw [show (M.push id k' loc' w').μ i=M.μ i from upd_ne e]
 μ' h:=by
  rw [show (M.push id k' loc' w').μ S.length=M.μ S.length from upd_ne (by omega)] at h
  exact .inl h
 len:=by simp
 len':=by simp
theorem post_push {M:Mem} (hM:M.ok) {S:Store} (hq:M.μ S.length=none) {k:Blk} {loc:Loc} {w':World} (hw:M.w.grownBy w' none) (hl:∀b o cap,loc=.blk b o cap->M.w.heap.size<=b/\b<w'.heap.size)
  (hb:BlkOK (M.push S.length k loc w') loc k):Post M (M.push S.length k loc w') S (S++[k]) [S.length] where
 step:=push_step hM hq hw hl
 ok:=Quy hM hq hw hl hb
 wrS i h:=by simp only [Z113] at h;subst h;rw [show (M.push S.length k loc w').S S.length=k from upd_same];simp [Zl]
 keepM i h:=upd_ne (by simpa using h)
 keepS i h:=by
  have h:i≠S.length:=by simpa using h
  by_cases hi:i<S.length
  ·simp [Zl,Z47 hi]
  ·rw [Zl,Zl,Z17 (by simp;omega),Z17 (by omega)]
 μ i h:=by rw [show (M.push S.length k loc w').μ i=M.μ i from upd_ne h]
 μ' _:=.inr (by simp)
 len:=by simp
 len':=by simp
theorem post_world {M:Mem} (hM:M.ok) (S:Store) {w':World} (hw:M.w.grownBy w' none):Post M {M with w:=w'} S S [] where
 step:=Qc4 hw
 ok:=Qxf hM hw
 wrS:=λ_ h=>absurd h (by simp)
 keepM:=λ_ _=>rfl
 keepS:=λ_ _=>rfl
 μ:=λ_ _=>rfl
 μ':=.inl
 len:=Z4 _
 len':=Nat.le_succ _
section
variable {P:Program} {C:Ctx} (hT:C.T.check P=true) {M:Mem}
include hT
theorem Qyz (hM:M.ok) {S:Store} {t:Nat} {x v:V} (hS:∀id∈refs1 x,M.S id=S.getD id .dead) {cx cv:Value} {K:Store->Option R} {r:R} (h:C.storeV t S x v K=some r) (hx:Rep M cx x) (hv:Rep M cv v) :
  ∃M' S',(Instr.storeAt t cx cv).run P M.w=.ok () M'.w/\K S'=some r/\Post M M' S S' (refs1 x):=by
 unfold Ctx.storeV at h
 by_cases hb:C.bad t=true
 ·rw [if_pos hb] at h;simp at h
 rw [if_neg hb] at h
 have hb:C.bad t=false:=by simpa using hb
 split at h
 ·rename_i id off
  split at h
  case h_2=>simp at h
  rename_i cs hk
  split at h
  case isFalse=>simp at h
  rename_i hc
  obtain ⟨hu,hsz,hle⟩:=hc
  have hk':=(hS id (by simp [refs1])).trans hk
  obtain ⟨_,hs,hp⟩:=Ya hx
  obtain ⟨b,o,cap,hμ,rfl⟩:=hp (by rw [hk'];rfl)
  obtain ⟨h1,hW,hB⟩:=Qn6 (off:=off) hM hk' hμ hv hu (by omega)
  obtain ⟨h3,h4⟩:=Qbx hv hu
  have hrun:=Qjn (M:=M) hT hb (cv:=cv) (b:=b) (o:=o+off) (by omega) h1 (λj hj=>(h4 j (by omega)).2)
  exact ⟨_,_,hrun,h,post_write hM hW hB (Wk hk (by simp))⟩
 ·rename_i id ver i off
  split at h
  case h_2=>simp at h
  rename_i ver' g e c hk
  split at h
  case isFalse=>simp at h
  rename_i hver;subst hver
  have hk':=(hS id (by simp [refs1])).trans hk
  have hlt:=Wk hk (by simp)
  obtain ⟨_,hs,hp⟩:=Qdm hx
  have hcc:contentB (M.S id) ver'=some c:=by rw [hk'];simp [contentB]
  obtain ⟨b,o,cap,hμ,rfl⟩:=hp c hcc
  have one:∀{v0:V} {c':V} {n:Nat} {fl:List V},Rep M cv v0->cellsOf v0=[v0]->v0.isU=false->v0.flatImm=true->(C.ty t).size=1->off=0->flatV c=some (n,fl)->zOf c=1->zOf c'=1->isExact c'=isExact c->i<fl.length ->
    flatV c'=some (n,A.setAt fl i [v0])->K (S.set id (.arr ver' g e c'))=some r->∃M' S',(Instr.storeAt t (.pointer (some ⟨b,o+(i*zOf c+off),none⟩)) cv).run P M.w=.ok () M'.w/\K S'=some r/\Post M M' S S' (refs1 (.eptr id ver' i off)):=by
   intro v0 c' n fl hv0 hcell hu0 hfi hsz0 ho hf hz hz' hxe hi hf' hK
   subst ho
   obtain ⟨h3,h4⟩:=Qbx hv0 hu0
   rw [hcell] at h3
   simp only [Z38] at h3
   obtain ⟨h1,hW,hB⟩:=Qdl (vs:=cv.cells.toList) hM hk' hμ (off:=i) (us:=[v0]) hf hf' (by rw [hz,hz']) hxe (by simp;omega) (by simp [h3]) (λj hj=>by
    simp only [Z38] at hj
    have hj0:j=0:=by omega
    subst hj0
    have h5:=h4 0 (by rw [hcell];simp)
    have e1:cv.cells.toList.getD 0 Go.undef=cv.cells.getD 0 Go.undef:=by simp [Z0,Zl]
    have e2:(cellsOf v0)[0]'(by rw [hcell];simp)=v0:=by simp [hcell]
    rw [e2] at h5
    rw [e1]
    exact ⟨by simpa using Qe5 h5.1 hfi,h5.2⟩)
   have hrun:=Qjn (M:=M) hT hb (cv:=cv) (b:=b) (o:=o+i) (by omega) (λj hj=>h1 j (by simpa using hj)) (λj hj=>(h4 j (by rw [hcell];simp;omega)).2)
   refine ⟨_,_,?_,hK,post_write hM hW hB hlt⟩
   rw [hz,Z120,Z77];exact hrun
  split at h
  ·rename_i y k l k' n
   split at h
   case isFalse=>simp at h
   rename_i hkk;subst hkk
   split at h
   case isFalse=>simp at h
   rename_i hc
   obtain ⟨rfl,hsz⟩:=hc
   split at h
   case isFalse=>simp at h
   rename_i hi
   exact one hv rfl rfl rfl hsz rfl rfl rfl rfl (by rfl) (by simpa using hi) (by simp [flatV,A.setAt,List.map_set]) h
  ·rename_i y l s
   split at h
   case isFalse=>simp at h
   rename_i hc
   obtain ⟨rfl,hsz⟩:=hc
   split at h
   case isFalse=>simp at h
   rename_i hi
   exact one hv rfl rfl rfl hsz rfl rfl rfl rfl (by rfl) (by simpa using hi) (by simp [flatV,A.setAt,List.map_set]) h
  ·rename_i y z l _
   split at h
   case isFalse=>simp at h
   rename_i hc
   obtain ⟨hu,hsz,hle,hall⟩:=hc
   split at h
   case isFalse=>simp at h
   rename_i hi
   obtain ⟨h3,h4⟩:=Qbx hv hu
   have hB:=hM.blk id _ hμ
   rw [hk'] at hB
   obtain ⟨_,n',fl',cur,fz,a1,_⟩:=hB
   have hf:=a1
   simp only [flatV] at a1
   split at a1
   case isFalse=>simp at a1
   rename_i hzl
   simp only [Zs,Z2] at a1;obtain ⟨rfl,rfl⟩:=a1
   have hlen:(l.getD i []).length=z:=by
    rw [Zl,Z1 hi];exact hzl.2 _ (Z15 hi)
   have hf':flatV (.recs y z (l.set i (A.setAt (l.getD i []) off (cellsOf v))))=some (l.length,A.setAt l.flatten (i*z+off) (cellsOf v)):=by
    simp only [flatV]
    rw [if_pos ⟨hzl.1,λx hx=>by
     rcases List.mem_or_eq_of_mem_set hx with h|h
     ·exact hzl.2 x h
     ·rw [h,Jw];exact hlen⟩,Qnc z _ l i off hzl.2 hi (by omega)]
    simp
   have hin:i*z+off+(cellsOf v).length<=l.flatten.length:=by
    rw [Qd0 z l hzl.2]
    have:=Z3 z (show i+1<=l.length by omega)
    rw [Z19] at this;omega
   obtain ⟨h1,hW,hBn⟩:=Qdl (vs:=cv.cells.toList) hM hk' hμ (off:=i*z+off) (us:=cellsOf v) hf hf' rfl rfl hin (by simpa using h3) (λj hj=>by
    have h5:=h4 j hj
    have e1:cv.cells.toList.getD j Go.undef=cv.cells.getD j Go.undef:=by simp [Z0,Zl]
    have e2:(cellsOf v).getD j .undef=(cellsOf v)[j]:=by simp [Zl,Z1 hj]
    rw [e1,e2]
    exact ⟨Qe5 h5.1 (Z23.1 hall _ (Z15 hj)),h5.2⟩)
   have hrun:=Qjn (M:=M) hT hb (cv:=cv) (b:=b) (o:=o+(i*z+off)) (by omega) (λj hj=>h1 j (by simpa using hj)) (λj hj=>(h4 j (by omega)).2)
   exact ⟨M.push id (.arr ver' g e (.recs y z (l.set i (A.setAt (l.getD i []) off (cellsOf v))))) (.blk b o cap) (M.w.setCells b (o+(i*z+off)) cv.cells.toList),_,hrun,h,post_write hM hW hBn hlt⟩
  ·simp at h
 ·simp at h
end
variable {R:Type}
def Cont (M:Mem) (z:Nat) (cv:Value) (y:V):Prop:=
 ∃
  (A:Option Addr) (n cap:Nat) (fl:List V) (cf:Nat->Value),cv=.slice A n cap/\flatV y=some (n,fl)/\zOf y=z/\n<=cap/\(A=none->cap=0)/\(∀j,j<fl.length->∃a,A=some a/\M.w.cell? (a.add j)=some (cf j))/\(∀j,j<fl.length->(cf j).oneCell'=true) /\
  ∀j (h:j<fl.length),Rep0 M.O M.w (cf j) fl[j]
theorem Qng {v:V} {n:Nat} {fl:List V} (h:flatV v=some (n,fl)) {a k:Nat} (hk:a+k<=n):flatV (subV a k v)=some (k,(fl.drop (a*zOf v)).take (k*zOf v)):=by
 have:=Qei h hk
 cases v<;>first|(simp [flatV] at h;done)|exact this
theorem Yx {M:Mem} (hM:M.ok) {S:Store} {y:V} (hS:∀id∈refs1 y,M.S id=S.getD id .dead) {cv:Value} (hy:Rep M cv y) (hc:contentVal (immOf S y)=true):Cont M (zOf (immOf S y)) cv (immOf S y):=by
 have plain:∀{v:V},contentVal v=true->Rep M cv v->Cont M (zOf v) cv v:=λ{v} h hr=>by
  obtain ⟨A,n,cap,fl,cf,rfl,hf,_,hle,hm,hcell,ho,hr'⟩:=Wx h hr
  exact ⟨A,n,cap,fl,cf,rfl,hf,rfl,hle,hm,λj hj=>by obtain ⟨a,h1,_,h2⟩:=hcell j hj;exact ⟨a,h1,h2⟩,ho,hr'⟩
 cases y<;>try exact plain hc hy
 ·rename_i id ver
  obtain ⟨h1,_,hp⟩:=W0 hy
  have he:∃c,contentOf S id ver=some c/\flatV (immOf S (.sref id ver))=flatV c/\zOf (immOf S (.sref id ver))=zOf c:=by
   simp only [immOf] at hc ⊢
   split at hc
   ·rename_i h;rw [h];exact ⟨_,rfl,rfl,rfl⟩
   ·rename_i h;rw [h];exact ⟨_,rfl,rfl,rfl⟩
   ·rename_i h;rw [h];exact ⟨_,rfl,rfl,rfl⟩
   ·simp [contentVal] at hc
  obtain ⟨c,hcc,hf1,hz1⟩:=he
  have hcc':contentB (M.S id) ver=some c:=by rw [hS id (by simp [refs1])];exact hcc
  obtain ⟨loc,n,hμ,hn,rfl⟩:=hp c hcc'
  obtain ⟨n',fl,hf,hcell⟩:=Qaq hM hcc' hμ
  have hl:=Qj hf
  rw [hn] at hl;obtain ⟨hl1,hl2⟩:=hl;simp only [Zs] at hl2;subst hl2
  have hz0:0<zOf c:=by cases c<;>simp [zOf]<;>simp [flatV] at hf;exact hf.1.1
  have hval:∃A cap,Q0 loc n=.slice A n cap/\n<=cap/\(A=none->cap=0)/\∀b o cap',loc=.blk b o cap'->A=some ⟨b,o,none⟩:=by
   cases loc with
   |
    nil a=>
    have hn0:n=0:=by
     rcases Z12 n with h|h
     ·exact h
     ·obtain ⟨b,o,cap,cv,he,_⟩:=hcell 0 (by rw [hl1];exact Z49 h hz0)
      simp at he
    subst hn0
    exact ⟨a,0,rfl,Z4 _,λ_=>rfl,λ_ _ _ h=>by simp at h⟩
   |
    blk b o cap=>
    refine ⟨some ⟨b,o,none⟩,cap,rfl,?_,by simp,λ_ _ _ h=>by cases h;rfl⟩
    have hB:=hM.blk id _ hμ
    unfold contentB at hcc'
    split at hcc'
    ·rename_i he
     split at hcc'
     ·simp only [Zs] at hcc';subst hcc'
      rw [he] at hB
      obtain ⟨_,n2,fl2,_,_,hf2,_,hle,_⟩:=hB
      rw [hf] at hf2;simp only [Zs,Z2] at hf2;omega
     ·simp at hcc'
    ·rename_i c2 he
     split at hcc'
     ·simp only [Zs] at hcc';subst hcc'
      rw [he] at hB
      obtain ⟨n2,hn2,hB⟩:=hB
      have hcv:contentVal (unexact c2)=true:=by cases c2<;>simp [lenV] at hn2<;>rfl
      obtain ⟨A,n',cap',fl',cf,he',hf',_,hle,_⟩:=Wx hcv (.imm (M:=M) hB)
      simp only [Q0,Value.slice.injEq] at he'
      rw [hn] at hn2;simp only [Zs] at hn2;omega
     ·simp at hcc'
    ·simp at hcc'
  obtain ⟨A,cap,hv,hle,hm,hA⟩:=hval
  refine ⟨A,n,cap,fl,λj=>(M.w.cell? ((A.getD ⟨0,0,none⟩).add j)).getD Go.undef,hv,by rw [hf1];exact hf,rfl,hle,hm,λj hj=>?_,λj hj=>?_,λj hj=>?_⟩
  all_goals
   obtain ⟨b,o,cap',cv',rfl,h5,h6,h7⟩:=hcell j hj
   have:=hA b o cap' rfl
   subst this
   simp only [Z52,Addr.add_lit,h5]
  ·exact ⟨_,rfl,by rw [Addr.add_lit];exact h5⟩
  ·exact h6
  ·exact h7
 ·rename_i id ver lo n
  obtain ⟨h1,_,hp⟩:=W7 hy
  have he:∃c,contentOf S id ver=some c/\immOf S (.sview id ver lo n)=subV lo n c:=by
   simp only [immOf] at hc ⊢
   split at hc
   ·rename_i h;rw [h];exact ⟨_,rfl,rfl⟩
   ·simp [contentVal] at hc
  obtain ⟨c,hcc,hsub⟩:=he
  have hcc':contentB (M.S id) ver=some c:=by rw [hS id (by simp [refs1])];exact hcc
  obtain ⟨loc,m,a,cap',hμ,hm,hle,hnc,rfl,hna,hpos,_⟩:=hp c hcc'
  obtain ⟨n',fl,hf,hcell⟩:=Qaq hM hcc' hμ
  have hl:=Qj hf
  rw [hm] at hl;obtain ⟨hl1,hl2⟩:=hl;simp only [Zs] at hl2;subst hl2
  have hin:∀j,j<((fl.drop (lo*zOf c)).take (n*zOf c)).length->lo*zOf c+j<fl.length/\0<n:=λj hj=>by
   simp only [Z8,Z35] at hj
   refine ⟨by omega,?_⟩
   rcases Z12 n with rfl|h
   ·simp at hj
   ·exact h
  rw [hsub]
  refine ⟨a,n,cap',_,λj=>(M.w.cell? ((a.getD ⟨0,0,none⟩).add j)).getD Go.undef,rfl,Qng hf hle,rfl,hnc,λh=>(hna h).1,λj hj=>?_,λj hj=>?_,λj hj=>?_⟩
  all_goals
   obtain ⟨h8,h9⟩:=hin j hj
   obtain ⟨b,o,cap2,rfl,rfl⟩:=hpos h9
   obtain ⟨b',o',cap3,cv',he,h5,h6,h7⟩:=hcell _ h8
   simp only [Loc.blk.injEq] at he;obtain ⟨rfl,rfl,rfl⟩:=he
   simp only [Z52,Addr.add_lit,Z36,h5]
  ·exact ⟨_,rfl,by rw [Addr.add_lit,Z36];exact h5⟩
  ·exact h6
  ·simpa using h7
variable {R:Type}
theorem Qa3 {c y c':V} {n m:Nat} {fl fl':List V} (h:Wn c y=some c') (hf:flatV c=some (n,fl)) (hf':flatV y=some (m,fl')) :
  flatV c'=some (n+m,fl++fl')/\zOf c'=zOf c/\zOf y=zOf c/\isExact c'=false/\contentVal c'=true:=by
 unfold Wn at h
 split at h
 ·split at h
  case isFalse=>simp at h
  rename_i hk;subst hk
  simp only [Zs] at h;subst h
  simp only [flatV,Zs,Z2] at hf hf'
  obtain ⟨rfl,rfl⟩:=hf;obtain ⟨rfl,rfl⟩:=hf'
  simp [flatV,zOf,isExact,contentVal]
 ·simp only [Zs] at h;subst h
  simp only [flatV,Zs,Z2] at hf hf'
  obtain ⟨rfl,rfl⟩:=hf;obtain ⟨rfl,rfl⟩:=hf'
  simp [flatV,zOf,isExact,contentVal]
 ·split at h
  case isFalse=>simp at h
  rename_i hk;subst hk
  simp only [Zs] at h;subst h
  simp only [flatV] at hf hf'
  split at hf
  case isFalse=>simp at hf
  rename_i h1
  split at hf'
  case isFalse=>simp at hf'
  rename_i h2
  simp only [Zs,Z2] at hf hf'
  obtain ⟨rfl,rfl⟩:=hf;obtain ⟨rfl,rfl⟩:=hf'
  refine ⟨?_,rfl,rfl,rfl,rfl⟩
  simp only [flatV]
  rw [if_pos ⟨h1.1,λe he=>(Z50.1 he).elim (h1.2 e) (h2.2 e)⟩];simp
 ·simp at h
section
variable {P:Program} {M:Mem}
theorem Qf4 {z:Nat} {cv:Value} {y:V} (h:Cont M z cv y) {tx e':TypeId} (hk:P.underlying tx=some (.slice e')) :
  ∃m fl news,flatV y=some (m,fl)/\zOf y=z/\Src P z tx cv m news M.w/\news.length=fl.length/\∀j (h:j<fl.length),Rep0 M.O M.w (news.getD j Go.undef) fl[j]/\(news.getD j Go.undef).oneCell'=true:=by
 obtain ⟨A,n,cap,fl,cf,rfl,hf,hz,hle,hm,hc,ho,hr⟩:=h
 have hl:=Qj hf
 have hget:∀j,j<fl.length->((List.range fl.length).map cf).getD j Go.undef=cf j:=λj hj=>by simp [Zl,hj]
 refine ⟨n,fl,(List.range fl.length).map cf,hf,hz,?_,by simp,λj hj=>?_⟩
 ·cases A with
  |
   none=>
   have h0:n=0:=by have:=hm rfl;omega
   subst h0
   have:fl=[]:=Z6 (by rw [hl.1];simp)
   subst this
   exact Src.ofNil M.w hk cap
  |
   some a=>
   refine Src.ofSlice M.w hk a n cap _ (by rw [Z13,List.length_range,hl.1,hz]) (λj u hj=>?_) (λu hu=>?_)
   ·simp only [List.getElem?_map,Z22] at hj
    obtain ⟨i,hi,rfl⟩:=hj
    have hi':j<fl.length:=by
     by_cases h:j<fl.length
     ·exact h
     ·rw [Z17 (by simp;omega)] at hi;simp at hi
    simp [hi'] at hi;subst hi
    obtain ⟨a',he,h2⟩:=hc j hi'
    simp only [Zs] at he;subst he
    exact h2
   ·obtain ⟨i,hi,rfl⟩:=List.mem_map.1 hu
    exact ho i (by simpa using hi)
 ·rw [hget j hj];exact ⟨hr j hj,ho j hj⟩
theorem Qqh (hM:M.ok) {id ver:Nat} {e:Nat} {c':V} {cap' n:Nat} {fl:List V} {cur:Array Value} (hs:Step M (M.push id (.arr ver true e c') (.blk M.w.heap.size 0 cap') (M.w.drew.alloc (.cells cur e))))
  (hcur:cur.size=cap'*zOf c') (hle:n<=cap') (hmx:cap'<=maxLen) (hf:flatV c'=some (n,fl)) (hr:∀j (h:j<fl.length),Rep0 M.O M.w (cur.getD j Go.undef) fl[j]/\(cur.getD j Go.undef).oneCell'=true) :
  BlkOK (M.push id (.arr ver true e c') (.blk M.w.heap.size 0 cap') (M.w.drew.alloc (.cells cur e))) (.blk M.w.heap.size 0 cap') (.arr ver true e c'):=by
 have hsz:M.w.drew.heap.size=M.w.heap.size:=rfl
 refine ⟨λ_ _ _ he=>by cases he;exact ⟨.inr ⟨0,cap',rfl⟩,by simp [Mem.push]⟩,n,fl,cur,(0,0),hf,rfl,hle,hmx,?_,hcur,λ_=>rfl,λh=>by simp at h,λj hj=>?_,λj hj=>⟨hs.rep0 hM (hr j hj).1,(hr j hj).2⟩⟩
 ·simp only [Mem.push,World.alloc,Z32,hsz,if_true]
 ·simp only [Mem.push,World.frozen?,World.alloc,Z32,hsz,if_true];simp
theorem Qgc (w:World) (o:Obj):w.grownBy (w.drew.alloc o) none where
 os:=rfl
 tape:=rfl
 output:=rfl
 size:=by simp
 block k hk _:=by
  have:w.drew.heap=w.heap:=rfl
  simp only [World.alloc,Z32,this];rw [if_neg (by omega)]
theorem Qdc {olds news:List Value} {z:Array Value} {k:Nat} {fl fl':List V} (ho:olds.length=fl.length) (hn:news.length=fl'.length)
  (h1:∀j (h:j<fl.length),Rep0 M.O M.w (olds.getD j Go.undef) fl[j]/\(olds.getD j Go.undef).oneCell'=true) (h2:∀j (h:j<fl'.length),Rep0 M.O M.w (news.getD j Go.undef) fl'[j]/\(news.getD j Go.undef).oneCell'=true) :
  ∀j (h:j<(fl++fl').length),Rep0 M.O M.w (((olds++news).toArray++Builtin.zeroCells z k).getD j Go.undef) (fl++fl')[j]/\(((olds++news).toArray++Builtin.zeroCells z k).getD j Go.undef).oneCell'=true:=by
 intro j hj
 have hlt:j<(olds++news).length:=by simp at hj ⊢;omega
 have e1:((olds++news).toArray++Builtin.zeroCells z k).getD j Go.undef=(olds++news).getD j Go.undef:=by
  rw [Z0,Z51 (by simpa using hlt)]
  simp [Zl]
 rw [e1]
 by_cases h:j<fl.length
 ·rw [Z27 h,show (olds++news).getD j Go.undef=olds.getD j Go.undef by simp [Zl,Z47 (show j<olds.length by omega)]]
  exact h1 j h
 ·rw [Z37 (by omega),show (olds++news).getD j Go.undef=news.getD (j-fl.length) Go.undef by simp [Zl,Z63 (show olds.length<=j by omega),ho]]
  exact h2 _ (by simp at hj;omega)
variable {C:Ctx} (hT:C.T.check P=true)
include hT
theorem Qqf (hM:M.ok) {S:Store} {K:V->Store->Option R} (hq:(∃u s r',S.length<s.length/\K u s=some r')->M.μ S.length=none) {t tx:Nat} {x y:V} (hSx:∀id∈refs1 x,M.S id=S.getD id .dead) {cx cy:Value} {r:R}
  (h:C.appendV t S x y K=some r) (hx:Rep M cx x) {ty:TypeId} (hsrcs:contentVal (immOf S y)=true->∃m' fl' news,flatV (immOf S y)=some (m',fl')/\zOf (immOf S y)=zOf (immOf S y)/\Src P (zOf (immOf S y)) tx cy m' news M.w/\news.length=fl'.length /\
   (∀j (h:j<fl'.length),Rep0 M.O M.w (news.getD j Go.undef) fl'[j]/\(news.getD j Go.undef).oneCell'=true)/\∀m,lenOf S y=some m->m'=m) :
  ∃cv v M' S' wr,(Builtin.append_ #[t,tx] ty #[cx,cy]).run P M.w=.ok cv M'.w/\K v S'=some r/\Rep M' cv v/\Post M M' S S' wr/\wr ⊆ refs1 x++[S.length]:=by
 unfold Ctx.appendV at h
 split at h
 case h_2=>simp at h
 rename_i e hd
 by_cases hb:C.bad e=true
 ·rw [if_pos hb] at h;simp at h
 rw [if_neg hb] at h
 have hb:C.bad e=false:=by simpa using hb
 split at h
 case h_2=>simp at h
 rename_i n m hn hm
 split at h
 case isTrue=>simp at h
 rename_i hb0
 split at h
 case isFalse=>simp at h
 rename_i hby
 have hu:=(Q9 hT hd).1
 obtain ⟨j,z,hj,hs,hbs,hz,h2,h3,h4⟩:=Y8 hT hb
 have hcont:∀{c c':V},Wn c (immOf S y)=some c'->contentVal (immOf S y)=true:=by
  intro c c' h
  unfold Wn at h
  split at h<;>first|(simp at h;done)|(rename_i h1;rw [h1];rfl)
 have hmx:n+m<=140737488355328:=Z11 (by
  calc n+m=(n+m)*1:=by omega
   _<=(n+m)*(C.ty e).bytes:=Z43 _ (by omega)) hby
 have grow:∀{base:Option Addr} {sCap:Nat} {olds:List Value} {fl fl':List V} {news:List Value} {c':V} {id ver:Nat},cx=.slice base n sCap ->
   (Builtin.firstCells j.size n (.slice base n sCap)).run P M.w.drew=.ok olds.toArray M.w.drew->Src P j.size tx cy m news M.w->sCap<n+m ->
   olds.length=fl.length->news.length=fl'.length->fl.length=n*(C.ty e).size->fl'.length=m*(C.ty e).size ->
   (∀j (h:j<fl.length),Rep0 M.O M.w (olds.getD j Go.undef) fl[j]/\(olds.getD j Go.undef).oneCell'=true)->(∀j (h:j<fl'.length),Rep0 M.O M.w (news.getD j Go.undef) fl'[j]/\(news.getD j Go.undef).oneCell'=true) ->
   flatV c'=some (n+m,fl++fl')->zOf c'=(C.ty e).size ->
   ∃
    cap' w',(Builtin.append_ #[t,tx] ty #[cx,cy]).run P M.w=.ok (Q0 (.blk M.w.heap.size 0 cap') (n+m)) w'/\M.w.grownBy w' none/\M.w.heap.size<w'.heap.size /\
    (Step M (M.push id (.arr ver true e c') (.blk M.w.heap.size 0 cap') w')->BlkOK (M.push id (.arr ver true e c') (.blk M.w.heap.size 0 cap') w') (.blk M.w.heap.size 0 cap') (.arr ver true e c')) /\
    ∃cur,w'=M.w.drew.alloc (.cells cur e)/\cur.size=cap'*zOf c'/\n+m<=cap'/\∀j (h:j<(fl++fl').length),Rep0 M.O M.w (cur.getD j Go.undef) (fl++fl')[j]/\(cur.getD j Go.undef).oneCell'=true:=by
  intro base sCap olds fl fl' news c' id ver hcx hold hsrc hg ho hnw hfl hfl' h5 h6 hf hz'
  subst hcx
  have hrun:=run_append_grow_src (P:=P) M.w t tx ty e j z hu hj hz base n sCap olds hold cy m news hsrc hg (by omega) (growslice_fits hg (by rw [hbs];exact hby))
  refine ⟨_,_,hrun,Qgc _ _,by simp,λhst=>Qqh hM hst ?_ (grownCap_ge _ _ _ _) (grownCap_le_maxLen _ _ _ _ (by unfold maxLen;omega)) hf (Qdc ho hnw h5 h6),_,rfl,?_,grownCap_ge _ _ _ _,Qdc ho hnw h5 h6⟩
  all_goals
   have hge:=grownCap_ge M.w (n+m) sCap e
   simp only [Array.size_append,List.size_toArray,Z10,size_zeroCells,h2,hz',ho,hnw,hfl,hfl',<-Z19]
   congr 1;omega
 split at h
 ·rename_i id ver
  obtain ⟨_,hsx,hp⟩:=W0 hx
  split at h
  ·
   rename_i ver' e2 c hk0
   split at h
   case isFalse=>simp at h
   rename_i hc
   obtain ⟨rfl,rfl,hzc⟩:=hc
   split at h
   case h_2=>simp at h
   rename_i c' happ
   have hk1:=(hSx id (by simp [refs1])).trans hk0
   have hlt:=Wk hk0 (by simp)
   have hcc:contentB (M.S id) ver'=some c:=by rw [hk1];simp [contentB]
   obtain ⟨loc,n0,hμ,hn0,rfl⟩:=hp c hcc
   have hn1:n0=n:=by
    simp only [lenOf,contentOf,hk0,contentB,if_true] at hn
    rw [hn0] at hn;simpa using hn
   subst hn1
   have hcv:=hcont happ
   obtain ⟨m',fl',news,hfy,hzy,hsrc,hnw,hr',hmm⟩:=hsrcs hcv
   obtain rfl:=hmm _ hm
   have hB:=hM.blk id _ hμ
   rw [hk1] at hB
   obtain ⟨hB0,hB⟩:=hB
   have hfc:∃fl,flatV c=some (n0,fl):=by
    cases loc with
    |
     nil a=>
     have:=hB.2
     have h9:=(Qj this).2
     rw [hn0] at h9;simp only [Zs] at h9;subst h9
     exact ⟨_,this⟩
    |
     blk b o cap=>
     obtain ⟨n2,fl,_,_,hf,_⟩:=hB
     have h9:=(Qj hf).2
     rw [hn0] at h9;simp only [Zs] at h9;subst h9
     exact ⟨_,hf⟩
   obtain ⟨fl,hfc⟩:=hfc
   obtain ⟨hf',hz',hzy',_,_⟩:=Qa3 happ hfc hfy
   have hl1:=Qj hfc;have hl2:=Qj hfy
   rw [hzy] at hsrc
   have hsrc:Src P j.size tx cy m' news M.w:=by rw [hs,<-hzc,<-hzy',hzy];exact hsrc
   have hnl:fl'.length=m'*(C.ty e2).size:=by rw [hl2.1,hzy',hzc]
   have hol:fl.length=n0*(C.ty e2).size:=by rw [hl1.1,hzc]
   have hwk:∀{loc':Loc} {w':World},M.w.grownBy w' (rowOf loc)->(∀b o cap,loc'=.blk b o cap->b<w'.heap.size/\(M.w.heap.size<=b\/∃o cap,loc=.blk b o cap))->Wq M id loc loc' (.arr (ver'+1) true e2 c') w':=λ{loc' w'} hw hdst=>
    {
     μ:=hμ,own:=by rw [hk1];rfl,w:=hw,dst:=hdst,fix:=λh=>by simp [Blk.fix] at h,
     refs:=λver'' c'' hle hc=>by
      rw [hk1] at hle
      have h9:=hle ver' rfl
      simp only [contentB] at hc
      rw [if_neg (by omega)] at hc;simp at hc
     ver:=λver'' hle v hv=>by
      rw [hk1] at hle
      have h9:=hle ver' rfl
      simp only [verB,Zs] at hv;omega}
   have fin:∀{loc':Loc} {w':World},(Builtin.append_ #[t,tx] ty #[Q0 loc n0,cy]).run P M.w=.ok (Q0 loc' (n0+m')) w'->Wq M id loc loc' (.arr (ver'+1) true e2 c') w' ->
     (Step M (M.push id (.arr (ver'+1) true e2 c') loc' w')->BlkOK (M.push id (.arr (ver'+1) true e2 c') loc' w') loc' (.arr (ver'+1) true e2 c')) ->
     ∃cv v M' S' wr,(Builtin.append_ #[t,tx] ty #[Q0 loc n0,cy]).run P M.w=.ok cv M'.w/\K v S'=some r/\Rep M' cv v/\Post M M' S S' wr/\wr ⊆ refs1 (.sref id ver')++[S.length]:=λ{loc' w'} hrun hW hb=>
    ⟨_,_,M.push id (.arr (ver'+1) true e2 c') loc' w',_,[id],hrun,h,Yl (Qj hf').2 (by cases loc'<;>rfl),post_write hM hW (hb (write_step hM hW)) hlt,by simp [refs1]⟩
   have wk:∀{w':World},M.w.grownBy w' none->M.w.grownBy w' (rowOf loc):=λhw=>⟨hw.os,hw.tape,hw.output,hw.size,λk hk _=>hw.block k hk (by simp)⟩
   by_cases hm0:m'=0
   ·
    subst hm0
    have hnews:news=[]:=Z6 (by rw [hnw,hnl];simp)
    have hfl':fl'=[]:=Z6 (by rw [hnl];simp)
    subst hnews hfl'
    rw [Z45] at hf'
    have hsl:∃base cap,Q0 loc n0=.slice base n0 cap/\n0<=cap/\Q0 loc (n0+0)=.slice base n0 cap:=by
     cases loc with
     |
      nil a=>
      have h9:=Qj hB.2
      rw [hn0] at h9
      have:=h9.2;simp only [Zs] at this;subst this
      exact ⟨a,0,rfl,Z4 _,rfl⟩
     |
      blk b o cap=>
      obtain ⟨n2,fl2,_,_,hf2,_,hle,_⟩:=hB
      rw [hfc] at hf2;simp only [Zs,Z2] at hf2
      exact ⟨_,cap,rfl,by omega,rfl⟩
    obtain ⟨base,cap,e1,hle,e2'⟩:=hsl
    refine fin (loc':=loc) (w':=M.w) (by rw [e1,e2'];exact run_append_nothing M.w t tx ty e2 j hu hj base n0 cap hle cy hsrc) (hwk (wk ⟨rfl,rfl,rfl,Z4 _,λ_ _ _=>rfl⟩) (λb o cap he=>?_)) (λhst=>?_)
    ·subst he;exact ⟨hM.low b (hM.own ⟨id,o,cap,by rw [hk1];rfl,hμ⟩),.inr ⟨o,cap,rfl⟩⟩
    ·refine ⟨λb o cap he=>⟨.inr ⟨o,cap,he⟩,?_⟩,?_⟩
     ·exact (hB0 b o cap he).2
     ·cases loc with
      |
       nil a=>
       have h9:=hB.2
       rw [hfc] at h9;simp only [Zs,Z2] at h9
       exact ⟨rfl,by rw [hf',h9.1,h9.2]⟩
      |
       blk b o cap=>
       obtain ⟨n2,fl2,cur,fz,hf2,rfl,a3,a4,a5,a6,a7,a8,a9,a10⟩:=hB
       rw [hfc] at hf2;simp only [Zs,Z2] at hf2;obtain ⟨rfl,rfl⟩:=hf2
       exact ⟨n0,fl,cur,fz,by rw [hf'];rfl,rfl,a3,a4,a5,by rw [a6,hz'],a7,λh=>by simp at h,a9,λj hj=>⟨hst.rep0 hM (a10 j hj).1,(a10 j hj).2⟩⟩
   ·cases loc with
    |
     nil a=>
     have h9:=Qj hB.2
     rw [hn0] at h9
     have h10:=h9.2;simp only [Zs] at h10;subst h10
     have hfl0:fl=[]:=Z6 (by rw [hol];simp)
     subst hfl0
     obtain ⟨cap',w',hrun,hg,hlt',hb',cur,hw',b6,b3,b10⟩:=grow (base:=a) (sCap:=0) (olds:=[]) (id:=id) (ver:=ver'+1) rfl (by
      cases a with
      |none=>exact run_firstCells_none _ _ _ _ _
      |some a=>exact run_firstCells_some _ _ _ a 0 0 [] (by simp) (λj v h=>by simp at h)) hsrc (by omega) rfl hnw (by simp) hnl (λj h=>by simp at h) hr' hf' (by rw [hz',hzc])
     exact fin hrun (hwk (wk hg) (λb o cap he=>by cases he;exact ⟨hlt',.inl (Z4 _)⟩)) hb'
    |
     blk b o cap=>
     obtain ⟨n2,fl2,cur,fz,hf2,rfl,a3,a4,a5,a6,a7,a8,a9,a10⟩:=hB
     rw [hfc] at hf2;simp only [Zs,Z2] at hf2;obtain ⟨rfl,rfl⟩:=hf2
     have hcl:fl.length<=cur.size:=by rw [hl1.1,a6];exact Z3 _ a3
     by_cases hroom:n0+m'<=cap
     ·have hfit:n0*j.size+news.length<=cur.size:=by
       rw [hs,hnw,hnl,a6,hzc,<-Z19];exact Z3 _ hroom
      have hfz:=a7 rfl
      subst hfz
      have hrun:=run_append_room_src (P:=P) M.w t tx ty e2 j hu hj b 0 n0 cap cy m' news hsrc hroom (λi hi=>by
       have:n0*j.size+i<cur.size:=by omega
       simp [World.cell?,a5,this]) (λi hi=>by simp [World.frozen?,a5])
      rw [Z18] at hrun
      refine fin (loc':=.blk b 0 cap) hrun (hwk (setCells_grown _ _ _ _) (λb' o' cap' he=>by cases he;exact ⟨Z16 (hB0 _ _ _ rfl).2 (setCells_grown _ _ _ _).size,.inr ⟨0,cap,rfl⟩⟩)) (λhst=>?_)
      refine ⟨λ_ _ _ he=>by cases he;exact ⟨.inr ⟨0,cap,rfl⟩,Z16 (hB0 _ _ _ rfl).2 (setCells_grown _ _ _ _).size⟩,n0+m',_,arrSet cur (n0*j.size) news,(0,0),hf',rfl,hroom,a4,setCells_heap b news _ _ a5,by rw [arrSet_size,a6,hz'],λ_=>rfl,λh=>by simp at h,λi hi=>?_,λi hi=>?_⟩
      ·show (M.w.setCells b (n0*j.size) news).frozen? _=false
       rw [World.frozen?_setCells];simp [World.frozen?,a5]
      ·rw [Qdt news cur _ i hfit]
       have hnj:n0*j.size=fl.length:=by rw [hol,hs]
       by_cases hi2:i<fl.length
       ·rw [if_neg (by omega),Z27 hi2]
        exact ⟨hst.rep0 hM (a10 i hi2).1,(a10 i hi2).2⟩
       ·have hi3:i-fl.length<fl'.length:=by simp at hi;omega
        have e9:i-n0*j.size=i-fl.length:=by rw [hnj]
        rw [if_pos (by omega),e9,Z37 (by omega)]
        exact ⟨hst.rep0 hM (hr' _ hi3).1,(hr' _ hi3).2⟩
     ·have hcl':cur.toList.length=cur.size:=Z31
      have hget:∀i,i<fl.length->(cur.toList.take fl.length).getD i Go.undef=cur.getD i Go.undef:=λi hi=>by
       simp [Zl,Z0,Z78,hi]
      obtain ⟨cap',w',hrun,hg,hlt',hb',cur,hw',b6,b3,b10⟩:=grow (base:=some ⟨b,0,none⟩) (sCap:=cap) (olds:=cur.toList.take fl.length) (id:=id) (ver:=ver'+1) rfl
       (run_firstCells_some _ _ _ ⟨b,0,none⟩ n0 cap _ (by rw [Z8,hcl',hs,<-hol];omega) (λi v hv=>by
        rw [Addr.add_lit,Z18]
        rw [Z78] at hv
        split at hv
        ·have h5':M.w.drew.heap[b]? = some (.cells cur e2 fz):=a5
         simp only [World.cell?,h5']
         simpa using hv
        ·simp at hv)) hsrc (by omega) (by rw [Z8,hcl'];omega) hnw hol hnl (λi hi=>by rw [hget i hi];exact a10 i hi) hr' hf' (by rw [hz',hzc])
      exact fin hrun (hwk (wk hg) (λb o cap he=>by cases he;exact ⟨hlt',.inl (Z4 _)⟩)) hb'
  ·
   rename_i ver' e2 c hk0
   split at h
   case isFalse=>simp at h
   rename_i hc
   obtain ⟨rfl,hzc,hcons,hxc⟩:=hc
   split at h
   case h_2=>simp at h
   rename_i c' happ
   have hk1:=(hSx id (by simp [refs1])).trans hk0
   have hcc:contentB (M.S id) ver'=some c:=by rw [hk1];simp [contentB]
   obtain ⟨loc,n0,hμ,hn0,rfl⟩:=hp c hcc
   have hn1:n0=n:=by
    simp only [lenOf,contentOf,hk0,contentB,if_true] at hn
    rw [hn0] at hn;simpa using hn
   subst hn1
   have hcv:=hcont happ
   obtain ⟨m',fl',news,hfy,hzy,hsrc,hnw,hr',hmm⟩:=hsrcs hcv
   obtain rfl:=hmm _ hm
   have hB:=hM.blk id _ hμ
   rw [hk1] at hB
   obtain ⟨hB0,hB⟩:=hB
   cases loc with
   |nil a=>simp [Qc6] at hB
   |
    blk b o cap=>
    obtain ⟨n2,fl,cur,fz,hfc,rfl,a3,a4,a5,a6,a7,a8,a9,a10⟩:=hB
    have h9:=(Qj hfc).2
    rw [hn0] at h9;simp only [Zs] at h9;subst h9
    obtain ⟨hf',hz',hzy',_,_⟩:=Qa3 happ hfc hfy
    have hl1:=Qj hfc;have hl2:=Qj hfy
    rw [hzy] at hsrc
    have hsrc:Src P j.size tx cy m' news M.w:=by rw [hs,<-hzc,<-hzy',hzy];exact hsrc
    have hnl:fl'.length=m'*(C.ty e).size:=by rw [hl2.1,hzy',hzc]
    have hol:fl.length=n0*(C.ty e).size:=by rw [hl1.1,hzc]
    have hcap:=(a8 rfl hxc).1
    have hm1:0<m':=by
     have:=hl2.2
     generalize immOf S y=yy at this hcons
     unfold isCons at hcons
     split at hcons<;>simp [lenV] at this<;>first|omega|simp at hcons
    have hcl:fl.length<=cur.size:=by rw [hl1.1,a6];exact Z3 _ a3
    have hcl':cur.toList.length=cur.size:=Z31
    have hget:∀i,i<fl.length->(cur.toList.take fl.length).getD i Go.undef=cur.getD i Go.undef:=λi hi=>by
     simp [Zl,Z0,Z78,hi]
    obtain ⟨cap',w',hrun,hg,hlt',hb',cur,hw',b6,b3,b10⟩:=grow (base:=some ⟨b,0,none⟩) (sCap:=cap) (olds:=cur.toList.take fl.length) (id:=S.length) (ver:=0) rfl
     (run_firstCells_some _ _ _ ⟨b,0,none⟩ n0 cap _ (by rw [Z8,hcl',hs,<-hol];omega) (λi v hv=>by
      rw [Addr.add_lit,Z18]
      rw [Z78] at hv
      split at hv
      ·rename_i e0 _ _ _ _ _
       have h5':M.w.drew.heap[b]? = M.w.heap[b]?:=rfl
       simp only [World.cell?,h5',a5]
       simpa using hv
      ·simp at hv)) hsrc (by omega) (by rw [Z8,hcl'];omega) hnw hol hnl (λi hi=>by rw [hget i hi];exact a10 i hi) hr' hf' (by rw [hz',hzc])
    have hdst:∀b o cap,Loc.blk M.w.heap.size 0 cap'=.blk b o cap->M.w.heap.size<=b/\b<w'.heap.size:=λb o cap he=>by cases he;exact ⟨Z4 _,hlt'⟩
    exact ⟨_,_,M.push S.length (.arr 0 true e c') (.blk M.w.heap.size 0 cap') w',_,[S.length],hrun,h,Yl (Qj hf').2,post_push hM (hq ⟨_,_,_,by simp,h⟩) hg hdst (hb' (push_step hM (hq ⟨_,_,_,by simp,h⟩) hg hdst)),by simp⟩
  ·simp at h
 ·
  rename_i hnot
  split at h
  case isFalse=>simp at h
  rename_i hc
  obtain ⟨hex,hzx⟩:=hc
  split at h
  case h_2=>simp at h
  rename_i c' happ
  cases hnil:isNil x with
  |
   false=>
   rw [hnil] at h
   cases hcons:isCons x with
   |false=>rw [hcons] at h;simp at h
   |
    true=>
    rw [hcons] at h
    simp only [Zd,Zc] at h
    have hcx:contentVal x=true:=by cases x<;>simp [isExact] at hex<;>rfl
    obtain ⟨A,n',cap,fl,cf,rfl,hfc,hcapn,hle,hA,hcell,hone,hrr⟩:=Wx hcx hx
    have hl1:=Qj hfc
    have hn0:n'=n:=by
     have h9:=hl1.2
     cases x<;>simp [contentVal] at hcx<;>(simp only [lenOf] at hn;rw [h9] at hn;simpa using hn)
    subst hn0
    have hcap0:=hcapn hex
    subst hcap0
    have hcv:=hcont happ
    obtain ⟨m',fl',news,hfy,hzy,hsrc,hnw,hr',hmm⟩:=hsrcs hcv
    obtain rfl:=hmm _ hm
    obtain ⟨hf',hz',hzy',hex',_⟩:=Qa3 happ hfc hfy
    have hl2:=Qj hfy
    rw [hzy] at hsrc
    have hsrc:Src P j.size tx cy m' news M.w:=by rw [hs,<-hzx,<-hzy',hzy];exact hsrc
    have hnl:fl'.length=m'*(C.ty e).size:=by rw [hl2.1,hzy',hzx]
    have hol:fl.length=cap*(C.ty e).size:=by rw [hl1.1,hzx]
    by_cases hm0:m'=0
    ·subst hm0
     have hnews:news=[]:=Z6 (by rw [hnw,hnl];simp)
     have hfl':fl'=[]:=Z6 (by rw [hnl];simp)
     subst hnews hfl'
     rw [Z45] at hf'
     exact ⟨_,_,M,_,[],run_append_nothing M.w t tx ty e j hu hj A cap cap (Z4 _) cy hsrc,h,.imm (.slice A cap cap c' fl cf hf' (λ_=>rfl) (Z4 _) hA hcell hone hrr),.refl hM S,by simp⟩
    ·obtain ⟨cap',w',hrun,hg,hlt',hb',cur,hw',b6,b3,b10⟩:=grow (base:=A) (sCap:=cap) (olds:=(List.range fl.length).map cf) (id:=S.length) (ver:=0) rfl (by
      cases A with
      |
       none=>
       have h0:=hA rfl
       have:fl=[]:=Z6 (by rw [hol,h0];simp)
       subst this
       exact run_firstCells_none _ _ _ _ _
      |some a=>exact run_firstCells_some _ _ _ a cap cap _ (by rw [Z13,List.length_range,hol,hs]) (λi v hv=>by
        have hi:i<fl.length:=by
         by_cases hi:i<fl.length
         ·exact hi
         ·rw [Z17 (by simp;omega)] at hv;simp at hv
        obtain ⟨a',he,_,hc⟩:=hcell i hi
        simp only [Zs] at he;subst he
        simp [hi] at hv;subst hv
        exact hc)) hsrc (by omega) (by simp) hnw hol hnl (λi hi=>by
       have e1:((List.range fl.length).map cf).getD i Go.undef=cf i:=by simp [Zl,hi]
       rw [e1];exact ⟨hrr i hi,hone i hi⟩) hr' hf' (by rw [hz',hzx])
     have hdst:∀b o cap,Loc.blk M.w.heap.size 0 cap'=.blk b o cap->M.w.heap.size<=b/\b<w'.heap.size:=λb o cap he=>by cases he;exact ⟨Z4 _,hlt'⟩
     have b5':w'.heap[M.w.heap.size]? = some (.cells cur e (0,0)):=by
      have hsz:M.w.drew.heap.size=M.w.heap.size:=rfl
      subst hw';simp only [World.alloc,Z32,hsz,if_true]
     have hcur:(fl++fl').length<=cur.size:=by rw [b6,hz',hzx,Z10,hol,hnl,<-Z19];exact Z3 _ b3
     refine ⟨_,_,{M with w:=w'},_,[],hrun,h,.imm (.slice _ _ _ c' (fl++fl') (λi=>cur.getD i Go.undef) hf' (λhx=>by rw [hex'] at hx;simp at hx) b3 (by simp) (λi hi=>⟨_,rfl,λho=>absurd (hM.low _ ho) (by simp),?_⟩) (λi hi=>(b10 i hi).2) (λi hi=>?_)),post_world hM S hg,by simp⟩
     ·rw [Addr.add_lit,Z18]
      have:i<cur.size:=by omega
      simp [World.cell?,b5',Z0,this]
     ·exact (Qc4 hg).rep0 hM (b10 i hi).1
  |true=>
  rw [hnil] at h
  simp only [Zd] at h
  have hcx:contentVal x=true:=by cases x<;>simp [isExact] at hex<;>rfl
  obtain ⟨A,n',cap,fl,cf,rfl,hfc,hcapn,hle,hA,hcell,hone,hrr⟩:=Wx hcx hx
  have hl1:=Qj hfc
  have hn0:n'=n:=by
   have h9:=hl1.2
   cases x<;>simp [contentVal] at hcx<;>(simp only [lenOf] at hn;rw [h9] at hn;simpa using hn)
  subst hn0
  have hn00:n'=0:=by
   have h9:=hl1.2
   unfold isNil at hnil
   split at hnil<;>simp [lenV] at h9<;>first|omega|simp at hnil
  subst hn00
  have hcap0:=hcapn hex
  subst hcap0
  have hfl0:fl=[]:=Z6 (by rw [hl1.1];simp)
  subst hfl0
  have hcv:=hcont happ
  obtain ⟨m',fl',news,hfy,hzy,hsrc,hnw,hr',hmm⟩:=hsrcs hcv
  obtain rfl:=hmm _ hm
  obtain ⟨hf',hz',hzy',_,_⟩:=Qa3 happ hfc hfy
  have hl2:=Qj hfy
  rw [hzy] at hsrc
  have hsrc:Src P j.size tx cy m' news M.w:=by rw [hs,<-hzx,<-hzy',hzy];exact hsrc
  have hnl:fl'.length=m'*(C.ty e).size:=by rw [hl2.1,hzy',hzx]
  by_cases hm0:m'=0
  ·subst hm0
   have hnews:news=[]:=Z6 (by rw [hnw,hnl];simp)
   have hfl':fl'=[]:=Z6 (by rw [hnl];simp)
   subst hnews hfl'
   have hg:M.w.grownBy M.w none:=⟨rfl,rfl,rfl,Z4 _,λ_ _ _=>rfl⟩
   have hdst:∀b o cap,Loc.nil A=.blk b o cap->M.w.heap.size<=b/\b<M.w.heap.size:=λb o cap he=>by simp at he
   refine ⟨_,_,M.push S.length (.arr 0 true e c') (.nil A) M.w,_,[S.length],run_append_nothing M.w t tx ty e j hu hj A 0 0 (Z4 _) cy hsrc,h,Yl (loc:=.nil A) (Qj hf').2,post_push hM (hq ⟨_,_,_,by simp,h⟩) hg hdst ⟨λ_ _ _ he=>by simp at he,rfl,by simpa using hf'⟩,by simp⟩
  ·obtain ⟨cap',w',hrun,hg,hlt',hb',cur,hw',b6,b3,b10⟩:=grow (base:=A) (sCap:=0) (olds:=[]) (id:=S.length) (ver:=0) rfl (by
    cases A with
    |none=>exact run_firstCells_none _ _ _ _ _
    |some a=>exact run_firstCells_some _ _ _ a 0 0 [] (by simp) (λj v h=>by simp at h)) hsrc (by omega) rfl hnw (by simp) hnl (λj h=>by simp at h) hr' hf' (by rw [hz',hzx])
   have hdst:∀b o cap,Loc.blk M.w.heap.size 0 cap'=.blk b o cap->M.w.heap.size<=b/\b<w'.heap.size:=λb o cap he=>by cases he;exact ⟨Z4 _,hlt'⟩
   exact ⟨_,_,M.push S.length (.arr 0 true e c') (.blk M.w.heap.size 0 cap') w',_,[S.length],hrun,h,Yl (Qj hf').2,post_push hM (hq ⟨_,_,_,by simp,h⟩) hg hdst (hb' (push_step hM (hq ⟨_,_,_,by simp,h⟩) hg hdst)),by simp⟩
theorem Qjq (hM:M.ok) {S:Store} {K:V->Store->Option R} (hq:(∃u s r',S.length<s.length/\K u s=some r')->M.μ S.length=none) {t tx:Nat} {x y:V} (hSx:∀id∈refs1 x,M.S id=S.getD id .dead) (hSy:∀id∈refs1 y,M.S id=S.getD id .dead) {cx cy:Value} {r:R}
  (h:C.appendV t S x y K=some r) (hx:Rep M cx x) (hy:Rep M cy y) {e' ty:TypeId} (hk:P.underlying tx=some (.slice e')) :
  ∃cv v M' S' wr,(Builtin.append_ #[t,tx] ty #[cx,cy]).run P M.w=.ok cv M'.w/\K v S'=some r/\Rep M' cv v/\Post M M' S S' wr/\wr ⊆ refs1 x++[S.length]:=by
 refine Qqf hT hM hq hSx h hx λhc=>?_
 obtain ⟨m',fl',news,hf,hzy,hsrc,hnw,hr'⟩:=Qf4 (Yx hM hSy hy hc) hk
 refine ⟨m',fl',news,hf,rfl,hsrc,hnw,hr',λm hm=>?_⟩
 have hl:=(Qj hf).2
 cases y<;>try (simp [lenOf,immOf] at hm hl;first|(rw [hl] at hm;simpa using hm)|(simp [lenV] at hm;done))
 ·rename_i id ver
  simp only [lenOf] at hm
  split at hm
  ·rename_i c hcc
   simp only [immOf,hcc] at hl
   cases c<;>simp [lenV] at hm hl<;>omega
  ·simp at hm
 ·rename_i id ver lo k
  simp only [lenOf] at hm
  split at hm
  ·rename_i c hcc
   simp only [Zs] at hm;subst hm
   obtain ⟨_,_,hp⟩:=W7 hy
   obtain ⟨_,m0,_,_,_,hm0,hle,_⟩:=hp c (by rw [hSy id (by simp [refs1])];exact hcc)
   simp only [immOf,hcc] at hl
   cases c<;>simp [lenV,subV] at hm0 hl<;>omega
  ·simp at hm
theorem Qp7 (hM:M.ok) {S:Store} {K:V->Store->Option R} (hq:(∃u s r',S.length<s.length/\K u s=some r')->M.μ S.length=none) {t tx:Nat} {x:V} (hSx:∀id∈refs1 x,M.S id=S.getD id .dead) {cx cy:Value} {s:J1} {r:R}
  (h:C.appendV t S x (Qc2 s) K=some r) (hx:Rep M cx x) (hy:Rep M cy (.str s)) {ty:TypeId} (hk:P.underlying tx=some .string) :
  ∃cv v M' S' wr,(Builtin.append_ #[t,tx] ty #[cx,cy]).run P M.w=.ok cv M'.w/\K v S'=some r/\Rep M' cv v/\Post M M' S S' wr/\wr ⊆ refs1 x++[S.length]:=by
 obtain ⟨b,rfl,hb⟩:=Ye hy
 refine Qqf hT hM hq hSx h hx λhc=>?_
 have hz:b.size=s.length:=by rw [<-hb,Z31];rfl
 refine ⟨b.size,s.map λc=>.int .u8 c.toNat,byteCells b,?_,rfl,Src.ofString _ hk b,?_,λj hj=>?_,λm hm=>?_⟩
 ·simp [Qc2,immOf,flatV,hz]
 ·rw [byteCells_length,hz,Z13]
 ·have e:byteCells b=s.map λc=>Value.int .u8 c.toNat:=by unfold byteCells;rw [hb]
  have hj':j<s.length:=by simpa using hj
  rw [e]
  simp only [Zl,List.getElem?_map,Z1 hj',Option.map_some,Z52,Z20]
  exact ⟨.int _ _,rfl⟩
 ·simp [Qc2,lenOf,lenV] at hm;omega
end
variable {R:Type}
section
variable {P:Program} {M:Mem}
theorem Qls (w:World) {t tx ty e:TypeId} {j:TypeInfo} (hu:P.underlying t=some (.slice e)) (hj:P.info? e=some j) (base A:Option Addr) (dLen dCap sLen sCap:Nat) (cs:List Value) (w':World)
  (hcells:(Builtin.firstCells j.size (Nat.min sLen dLen) (.slice A sLen sCap)).run P w=.ok cs.toArray w) (hst:∀a,base=some a->(storeCells a cs).run P w=.ok () w') (hn:base=none->w'=w) :
  (Builtin.copy_ #[t,tx] ty #[.slice base dLen dCap,.slice A sLen sCap]).run P w=.ok (goInt (Nat.min sLen dLen)) w':=by
 cases base with
 |
  none=>
  have:=hn rfl
  subst this
  simp [Builtin.copy_,run_underlying hu,Builtin.lenOf,sizeOf,typeInfo,hj,hcells]
 |
  some a=>
  have h:=hst a rfl
  simp [Builtin.copy_,run_underlying hu,Builtin.lenOf,sizeOf,typeInfo,hj,hcells,h]
theorem Quz {z:Nat} {cv:Value} {y:V} (h:Cont M z cv y):∃(A:Option Addr) (m cap:Nat) (fl:List V),cv=.slice A m cap/\flatV y=some (m,fl)/\zOf y=z/\∀k,k<=m->∃cs:List Value,cs.length=k*z/\(Builtin.firstCells z k (.slice A m cap)).run P M.w=.ok cs.toArray M.w /\
  ∀i,i<k*z->Rep0 M.O M.w (cs.getD i Go.undef) ((fl.take (k*z)).getD i .undef)/\(cs.getD i Go.undef).oneCell'=true:=by
 obtain ⟨A,n,cap,fl,cf,rfl,hf,hz,hle,hm,hc,ho,hr⟩:=h
 have hl:=Qj hf
 refine ⟨A,n,cap,fl,rfl,hf,hz,λk hk=>?_⟩
 have hkz:k*z<=fl.length:=by rw [hl.1,hz];exact Z3 _ hk
 have hget:∀i,i<k*z->((List.range (k*z)).map cf).getD i Go.undef=cf i:=λi hi=>by simp [Zl,hi]
 refine ⟨(List.range (k*z)).map cf,by simp,?_,λi hi=>?_⟩
 ·cases A with
  |
   none=>
   have h0:n=0:=by have:=hm rfl;omega
   subst h0
   have hk0:k=0:=by omega
   subst hk0
   have:=run_firstCells_none (P:=P) M.w z 0 0 cap
   simpa using this
  |
   some a=>
   exact run_firstCells_some (P:=P) M.w z k a n cap _ (by simp) (λi v hv=>by
    simp only [List.getElem?_map,Z22] at hv
    obtain ⟨q,hq,rfl⟩:=hv
    have hi':i<k*z:=by
     by_cases h:i<k*z
     ·exact h
     ·rw [Z17 (by simp;omega)] at hq;simp at hq
    simp [hi'] at hq;subst hq
    obtain ⟨a',he,h2⟩:=hc i (by omega)
    simp only [Zs] at he;subst he
    exact h2)
 ·have hif:i<fl.length:=by omega
  rw [hget i hi]
  have e:(fl.take (k*z)).getD i .undef=fl[i]:=by
   rw [Zl,Z78,if_pos hi,Z1 hif];rfl
  rw [e]
  exact ⟨hr i hif,ho i hif⟩
theorem Qow:∀(us cs:List V) (off:Nat),off+us.length<=cs.length->A.setAt cs off us=cs.take off++us++cs.drop (off+us.length)
 |[],cs,off,h=>by simp [A.setAt]
 |
  u::us,cs,off,h=>by
  rw [Z9] at h
  rw [A.setAt,Qow us (cs.set off u) (off+1) (by simp;omega)]
  have e1:(cs.set off u).take (off+1)=cs.take off++[u]:=by
   rw [List.take_add_one]
   simp [List.take_set_of_le,show off<cs.length by omega]
  have e2:(cs.set off u).drop (off+1+us.length)=cs.drop (off+1+us.length):=by
   rw [List.drop_set_of_lt (by omega)]
  rw [e1,e2,Z9]
  simp [Nat.add_comm,Nat.add_left_comm,Z36]
theorem Qji {z:Nat}:∀(l:J2) (k:Nat),(∀e∈l,e.length=z)->(l.take k).flatten=l.flatten.take (k*z)
 |[],k,_=>by simp
 |e::l,0,_=>by simp
 |
  e::l,k+1,h=>by
  have he:=h e (by simp)
  rw [List.take_succ_cons,Z58,Z58,Qji l k λx hx=>h x (by simp [hx]),Z19,Z70,List.take_append]
  rw [Z28 (show e.length<=k*z+z by omega),he]
  congr 2;omega
theorem Qnn {z:Nat}:∀(l:J2) (k:Nat),(∀e∈l,e.length=z)->(l.drop k).flatten=l.flatten.drop (k*z)
 |[],k,_=>by simp
 |e::l,0,_=>by simp
 |
  e::l,k+1,h=>by
  have he:=h e (by simp)
  rw [List.drop_succ_cons,Z58,Qnn l k λx hx=>h x (by simp [hx]),Z19,Z70,List.drop_append]
  rw [Z68 (show e.length<=k*z+z by omega),he,Z107]
  congr 1;omega
theorem Qi3 {c y c':V} {lo k n m:Nat} {fl fl2:List V} (h:Jb c y lo k=some c') (hf:flatV c=some (n,fl)) (hf2:flatV y=some (m,fl2)) (hk:k<=m) (hlo:lo+k<=n) :
  flatV c'=some (n,A.setAt fl (lo*zOf c) (fl2.take (k*zOf c)))/\zOf c'=zOf c/\isExact c'=isExact c/\zOf y=zOf c:=by
 have l1:=Qj hf;have l2:=Qj hf2
 have key:∀{z:Nat},zOf c=z->zOf y=z->A.setAt fl (lo*z) (fl2.take (k*z))=fl.take (lo*z)++fl2.take (k*z)++fl.drop (lo*z+k*z):=λ{z} hz hz2=>by
  have a1:(fl2.take (k*z)).length=k*z:=by
   rw [Z8,l2.1,hz2];exact Z53 (Z3 _ hk)
  have a2:lo*z+k*z<=fl.length:=by rw [l1.1,hz,<-Z19];exact Z3 _ hlo
  rw [Qow _ _ _ (by rw [a1];exact a2),a1]
 unfold Jb at h
 split at h
 ·split at h
  case isFalse=>simp at h
  rename_i x kk l x' kk' m' hkk
  subst hkk
  simp only [Zs] at h;subst h
  simp only [flatV,Zs,Z2] at hf hf2
  obtain ⟨rfl,rfl⟩:=hf;obtain ⟨rfl,rfl⟩:=hf2
  refine ⟨?_,rfl,rfl,rfl⟩
  rw [show zOf (V.ints x kk l)=1 from rfl,key (z:=1) rfl rfl]
  simp only [flatV,Z120,Z71,List.map_take,List.map_drop,Z10,Z8,Z35]
  congr 2;omega
 ·rename_i x l x' m'
  simp only [Zs] at h;subst h
  simp only [flatV,Zs,Z2] at hf hf2
  obtain ⟨rfl,rfl⟩:=hf;obtain ⟨rfl,rfl⟩:=hf2
  refine ⟨?_,rfl,rfl,rfl⟩
  rw [show zOf (V.strs x l)=1 from rfl,key (z:=1) rfl rfl]
  simp only [flatV,Z120,Z71,List.map_take,List.map_drop,Z10,Z8,Z35]
  congr 2;omega
 ·split at h
  case isFalse=>simp at h
  rename_i x z l x' z' m' hzz
  subst hzz
  simp only [Zs] at h;subst h
  simp only [flatV] at hf hf2
  split at hf
  case isFalse=>simp at hf
  rename_i h1
  split at hf2
  case isFalse=>simp at hf2
  rename_i h2
  simp only [Zs,Z2] at hf hf2
  obtain ⟨rfl,rfl⟩:=hf;obtain ⟨rfl,rfl⟩:=hf2
  refine ⟨?_,rfl,rfl,rfl⟩
  rw [show zOf (V.recs x z l)=z from rfl,key (z:=z) rfl rfl]
  simp only [flatV]
  rw [if_pos ⟨h1.1,λe he=>by
   rcases Z50.1 he with he|he
   ·rcases Z50.1 he with he|he
    ·exact h1.2 e (Z56 he)
    ·exact h2.2 e (Z56 he)
   ·exact h1.2 e (Z67 he)⟩]
  rw [Z91,Z91,Qji l lo h1.2,Qji m' k h2.2,Qnn l (lo+k) h1.2,Z19]
  simp only [Z10,Z8,Z35]
  congr 2;omega
 ·simp at h
variable {C:Ctx} (hT:C.T.check P=true)
include hT
theorem Qka (hM:M.ok) {S:Store} {id ver lo n m:Nat} {g:Bool} {e e0:Nat} {c c' y:V} (hk:M.S id=.arr ver g e c) (hlt:id<S.length) (hb:C.bad e0=false) {t tx ty:Nat} (hu:P.underlying t=some (.slice e0)) (hz:zOf c=(C.ty e0).size)
  {loc:Loc} (hμ:M.μ id=some loc) {cy:Value} (hy:Cont M (zOf y) cy y) (hm:lenV y=some m) (hs:Jb c y lo (min m n)=some c') {n0:Nat} (hn0:lenV c=some n0) (hlo:lo+n<=n0) {a:Option Addr} {cap:Nat}
  (ha:a=none->n=0) (ha2:0<n->∃b o cap,loc=.blk b o cap/\a=some ⟨b,o+lo*zOf c,none⟩) :
  ∃M',(Builtin.copy_ #[t,tx] ty #[.slice a n cap,cy]).run P M.w=.ok (.int .i64 ((min m n:Nat):Int)) M'.w/\Post M M' S (S.set id (.arr ver g e c')) [id]:=by
 obtain ⟨j,z,hj,hjs,_⟩:=Y8 hT hb
 obtain ⟨A0,m',capy,fl2,rfl,hf2,_,hsrc⟩:=Quz hy
 have hm':m'=m:=by
  have:=(Qj hf2).2
  rw [hm] at this;simpa using this.symm
 subst hm'
 have hB:=hM.blk id _ hμ
 rw [hk] at hB
 obtain ⟨hB0,hB⟩:=hB
 have hfc:∃fl,flatV c=some (n0,fl):=by
  cases loc with
  |
   nil a=>
   have h9:=(Qj hB.2).2
   rw [hn0] at h9;simp only [Zs] at h9;subst h9
   exact ⟨_,hB.2⟩
  |
   blk b o cap=>
   obtain ⟨n2,fl,_,_,hf,_⟩:=hB
   have h9:=(Qj hf).2
   rw [hn0] at h9;simp only [Zs] at h9;subst h9
   exact ⟨_,hf⟩
 obtain ⟨fl,hfc⟩:=hfc
 have hkm:min m' n<=m':=Nat.min_le_left _ _
 have hkn:min m' n<=n:=Nat.min_le_right _ _
 obtain ⟨hf',hz',hx',hzy⟩:=Qi3 hs hfc hf2 hkm (by omega)
 obtain ⟨cs,hcl,hcrun,hcr⟩:=hsrc (min m' n) hkm
 rw [hzy,hz,<-hjs] at hcrun
 have hl1:=Qj hfc;have hl2:=Qj hf2
 have husl:(fl2.take (min m' n*zOf c)).length=min m' n*zOf c:=by
  rw [Z8,hl2.1,hzy];exact Z53 (Z3 _ hkm)
 rw [hzy] at hcl hcr
 by_cases hn:0<n
 ·obtain ⟨b,o,capb,rfl,rfl⟩:=ha2 hn
  obtain ⟨h1,hW,hBn⟩:=Qdl (vs:=cs) hM hk hμ (off:=lo*zOf c) (us:=fl2.take (min m' n*zOf c)) hfc hf' hz' hx' (by
   rw [husl,hl1.1,<-Z19];exact Z3 _ (by omega)) (by rw [husl,hcl]) (λi hi=>hcr i (by rw [husl] at hi;exact hi))
  have hst:=run_storeCells_cells (P:=P) b (o+lo*zOf c) cs 0 M.w (λi hi=>by
   have:=(h1 i hi).1
   simpa using this) (λi hi=>by
   have:=(h1 i hi).2
   simpa using this) (λv hv=>by
   obtain ⟨i,hi,rfl⟩:=List.mem_iff_getElem.1 hv
   have:=(hcr i (by rw [<-hcl];exact hi)).2
   rwa [Zl,Z1 hi] at this)
  simp only [Z77] at hst
  refine ⟨M.push id (.arr ver g e c') (.blk b o capb) (M.w.setCells b (o+lo*zOf c) cs),?_,post_write hM hW hBn hlt⟩
  exact Qls M.w hu hj _ A0 n cap m' capy cs _ hcrun (λa ha=>by cases ha;exact hst) (λh=>by simp at h)
 ·have hn0':n=0:=by omega
  subst hn0'
  have hk0:min m' 0=0:=Nat.min_zero _
  rw [hk0] at hcl hcrun hs hf' ⊢
  have hcs:cs=[]:=Z6 (by rw [hcl];simp)
  subst hcs
  have hg0:M.w.grownBy M.w (rowOf loc):=⟨rfl,rfl,rfl,Z4 _,λ_ _ _=>rfl⟩
  have hW:Wq M id loc loc (.arr ver g e c') M.w:=
   {
    μ:=hμ,own:=by rw [hk];rfl,w:=hg0,dst:=λb o cap he=>⟨(hB0 b o cap he).2,.inr ⟨o,cap,he⟩⟩,fix:=λh=>⟨rfl,by rw [hk];cases g<;>simp_all [Blk.fix]⟩,
    refs:=λver' c'' _ hc=>by
     simp only [contentB] at hc
     split at hc
     ·rename_i e;subst e
      simp only [Zs] at hc;subst hc
      exact ⟨rfl,c,by rw [hk];simp [contentB],by rw [hn0,(Qj hf').2],hz'.symm⟩
     ·simp at hc
    ver:=λver' h v hv=>by rw [hk] at h;exact h v hv}
  have hst:=write_step hM hW
  have hff:A.setAt fl (lo*zOf c) (fl2.take (0*zOf c))=fl:=by simp [A.setAt]
  rw [hff] at hf'
  have hBn:BlkOK (M.push id (.arr ver g e c') loc M.w) loc (.arr ver g e c'):=by
   refine ⟨λb o cap he=>⟨.inr ⟨o,cap,he⟩,(hB0 b o cap he).2⟩,?_⟩
   cases loc with
   |
    nil a=>
    have h9:=hB.2
    rw [hfc] at h9
    simp only [Zs,Z2] at h9
    exact ⟨hB.1,by rw [hf',h9.1,h9.2]⟩
   |
    blk b o cap=>
    obtain ⟨n2,fl3,cur,fz,hf3,rfl,a3,a4,a5,a6,a7,a8,a9,a10⟩:=hB
    rw [hfc] at hf3;simp only [Zs,Z2] at hf3;obtain ⟨rfl,rfl⟩:=hf3
    exact ⟨n0,fl,cur,fz,hf',rfl,a3,a4,a5,by rw [a6,hz'],a7,λh h'=>a8 h (hx'▸h'),a9,λj hj=>⟨hst.rep0 hM (a10 j hj).1,(a10 j hj).2⟩⟩
  refine ⟨M.push id (.arr ver g e c') loc M.w,?_,post_write hM hW hBn hlt⟩
  have:=Qls (tx:=tx) (ty:=ty) M.w hu hj a A0 0 cap m' capy [] M.w (by rw [show Nat.min m' 0=0 from hk0];exact hcrun) (λa _=>by simp [storeCells]) (λ_=>rfl)
  rw [show Nat.min m' 0=0 from hk0] at this
  exact this
theorem Qt3 (hM:M.ok) {S:Store} {K:V->Store->Option R} {t tx ty:Nat} {x y:V} (hSx:∀id∈refs1 x,M.S id=S.getD id .dead) (hSy:∀id∈refs1 y,M.S id=S.getD id .dead) {cx cy:Value} {r:R}
  (h:C.copyV t S x y K=some r) (hx:Rep M cx x) (hy:Rep M cy y):∃k M' S',(Builtin.copy_ #[t,tx] ty #[cx,cy]).run P M.w=.ok (.int .i64 k) M'.w/\K (.int .i64 k) S'=some r/\Post M M' S S' (refs1 x):=by
 unfold Ctx.copyV at h
 split at h
 case h_2=>simp at h
 rename_i e0 hd
 by_cases hb:C.bad e0=true
 ·rw [if_pos hb] at h;simp at h
 rw [if_neg hb] at h
 have hb:C.bad e0=false:=by simpa using hb
 have hu:=(Q9 hT hd).1
 have hcv:∀{c c':V} {lo k:Nat},Jb c (immOf S y) lo k=some c'->contentVal (immOf S y)=true:=λ{c c' lo k} h=>by
  unfold Jb at h
  split at h<;>first|(simp at h;done)|(rename_i h1;rw [h1];rfl)
 split at h
 ·rename_i id ver
  obtain ⟨_,hsx,hp⟩:=W0 hx
  split at h
  case h_2=>simp at h
  rename_i ver' g e c hk0
  split at h
  case isFalse=>simp at h
  rename_i hc
  obtain ⟨rfl,hzc⟩:=hc
  split at h
  case h_2=>simp at h
  rename_i n m hn hm
  split at h
  case h_2=>simp at h
  rename_i c' hs
  have hk1:=(hSx id (by simp [refs1])).trans hk0
  have hcc:contentB (M.S id) ver'=some c:=by rw [hk1];simp [contentB]
  obtain ⟨loc,n0,hμ,hn0,rfl⟩:=hp c hcc
  have hnn:n0=n:=by rw [hn0] at hn;simpa using hn
  subst hnn
  have hB:=hM.blk id _ hμ
  rw [hk1] at hB
  obtain ⟨hB0,hB⟩:=hB
  have hsl:∃a cap,Q0 loc n0=.slice a n0 cap/\(a=none->n0=0)/\(0<n0->∃b o cap,loc=.blk b o cap/\a=some ⟨b,o+0*zOf c,none⟩):=by
   cases loc with
   |
    nil a=>
    have h9:=(Qj hB.2).2
    rw [hn0] at h9;simp only [Zs] at h9;subst h9
    exact ⟨a,0,rfl,λ_=>rfl,λh=>by omega⟩
   |
    blk b o cap=>
    exact ⟨some ⟨b,o,none⟩,cap,rfl,λh=>by simp at h,λ_=>⟨b,o,cap,rfl,by simp⟩⟩
  obtain ⟨a,cap,e1,ha,ha2⟩:=hsl
  rw [e1]
  obtain ⟨M',hrun,hp'⟩:=Qka hT hM (tx:=tx) (ty:=ty) hk1 (Wk hk0 (by simp)) hb hu hzc hμ (Yx hM hSy hy (hcv hs)) hm hs hn0 (by omega) ha ha2 (cap:=cap)
  exact ⟨_,M',_,hrun,h,hp'⟩
 ·rename_i id ver lo n
  obtain ⟨_,hsx,hp⟩:=W7 hx
  split at h
  case h_2=>simp at h
  rename_i ver' g e c hk0
  split at h
  case isFalse=>simp at h
  rename_i hc
  obtain ⟨rfl,hzc⟩:=hc
  split at h
  case h_2=>simp at h
  rename_i m hm
  split at h
  case h_2=>simp at h
  rename_i c' hs
  have hk1:=(hSx id (by simp [refs1])).trans hk0
  have hcc:contentB (M.S id) ver'=some c:=by rw [hk1];simp [contentB]
  obtain ⟨loc,n0,a,cap',hμ,hn0,hle,_,rfl,ha,ha2,_⟩:=hp c hcc
  obtain ⟨M',hrun,hp'⟩:=Qka hT hM (tx:=tx) (ty:=ty) hk1 (Wk hk0 (by simp)) hb hu hzc hμ (Yx hM hSy hy (hcv hs)) hm hs hn0 hle (λh=>(ha h).2) ha2 (cap:=cap')
  exact ⟨_,M',_,hrun,h,hp'⟩
 ·simp at h
theorem Qvb (hM:M.ok) {S:Store} {K:V->Store->Option R} {t tx:Nat} {x y:V} (hSy:∀id∈refs1 y,M.S id=S.getD id .dead) {cx cy:Value} {r:R}
  (h:C.appendX t S x y K=some r) (hx:Rep M cx x) (hy:Rep M cy y) {e' ty:TypeId} (hk:P.underlying tx=some (.slice e')) :
  ∃cv v M',(Builtin.append_ #[t,tx] ty #[cx,cy]).run P M.w=.ok cv M'.w/\K v S=some r/\Rep M' cv v/\Post M M' S S []:=by
 have hsrcs:contentVal (immOf S y)=true->∃m' fl' news,flatV (immOf S y)=some (m',fl')/\zOf (immOf S y)=zOf (immOf S y)/\Src P (zOf (immOf S y)) tx cy m' news M.w/\news.length=fl'.length /\
   (∀j (h:j<fl'.length),Rep0 M.O M.w (news.getD j Go.undef) fl'[j]/\(news.getD j Go.undef).oneCell'=true)/\∀m,lenOf S y=some m->m'=m:=λhc=>by
  obtain ⟨m',fl',news,hf,hzy,hsrc,hnw,hr'⟩:=Qf4 (Yx hM hSy hy hc) hk
  refine ⟨m',fl',news,hf,rfl,hsrc,hnw,hr',λm hm=>?_⟩
  have hl:=(Qj hf).2
  cases y<;>try (simp [lenOf,immOf] at hm hl;first|(rw [hl] at hm;simpa using hm)|(simp [lenV] at hm;done))
  ·rename_i id ver
   simp only [lenOf] at hm
   split at hm
   ·rename_i c hcc
    simp only [immOf,hcc] at hl
    cases c<;>simp [lenV] at hm hl<;>omega
   ·simp at hm
  ·rename_i id ver lo k
   simp only [lenOf] at hm
   split at hm
   ·rename_i c hcc
    simp only [Zs] at hm;subst hm
    obtain ⟨_,_,hp⟩:=W7 hy
    obtain ⟨_,m0,_,_,_,hm0,hle,_⟩:=hp c (by rw [hSy id (by simp [refs1])];exact hcc)
    simp only [immOf,hcc] at hl
    cases c<;>simp [lenV,subV] at hm0 hl<;>omega
   ·simp at hm
 unfold Ctx.appendX at h
 split at h
 case h_2=>simp at h
 rename_i e hd
 by_cases hb:C.bad e=true
 ·rw [if_pos hb] at h;simp at h
 rw [if_neg hb] at h
 have hb:C.bad e=false:=by simpa using hb
 split at h
 case h_2=>simp at h
 rename_i n m hn hm
 split at h
 case isTrue=>simp at h
 rename_i hb0
 split at h
 case isFalse=>simp at h
 rename_i hby
 have hu:=(Q9 hT hd).1
 obtain ⟨j,z,hj,hs,hbs,hz,h2,h3,h4⟩:=Y8 hT hb
 have hcont:∀{c c':V},Wn c (immOf S y)=some c'->contentVal (immOf S y)=true:=by
  intro c c' h
  unfold Wn at h
  split at h<;>first|(simp at h;done)|(rename_i h1;rw [h1];rfl)
 have hmx:n+m<=140737488355328:=Z11 (by
  calc n+m=(n+m)*1:=by omega
   _<=(n+m)*(C.ty e).bytes:=Z43 _ (by omega)) hby
 have grow:∀{base:Option Addr} {sCap:Nat} {olds:List Value} {fl fl':List V} {news:List Value} {c':V} {id ver:Nat},cx=.slice base n sCap ->
   (Builtin.firstCells j.size n (.slice base n sCap)).run P M.w.drew=.ok olds.toArray M.w.drew->Src P j.size tx cy m news M.w->sCap<n+m ->
   olds.length=fl.length->news.length=fl'.length->fl.length=n*(C.ty e).size->fl'.length=m*(C.ty e).size ->
   (∀j (h:j<fl.length),Rep0 M.O M.w (olds.getD j Go.undef) fl[j]/\(olds.getD j Go.undef).oneCell'=true)->(∀j (h:j<fl'.length),Rep0 M.O M.w (news.getD j Go.undef) fl'[j]/\(news.getD j Go.undef).oneCell'=true) ->
   flatV c'=some (n+m,fl++fl')->zOf c'=(C.ty e).size ->
   ∃
    cap' w',(Builtin.append_ #[t,tx] ty #[cx,cy]).run P M.w=.ok (Q0 (.blk M.w.heap.size 0 cap') (n+m)) w'/\M.w.grownBy w' none/\M.w.heap.size<w'.heap.size /\
    (Step M (M.push id (.arr ver true e c') (.blk M.w.heap.size 0 cap') w')->BlkOK (M.push id (.arr ver true e c') (.blk M.w.heap.size 0 cap') w') (.blk M.w.heap.size 0 cap') (.arr ver true e c')) /\
    ∃cur,w'=M.w.drew.alloc (.cells cur e)/\cur.size=cap'*zOf c'/\n+m<=cap'/\∀j (h:j<(fl++fl').length),Rep0 M.O M.w (cur.getD j Go.undef) (fl++fl')[j]/\(cur.getD j Go.undef).oneCell'=true:=by
  intro base sCap olds fl fl' news c' id ver hcx hold hsrc hg ho hnw hfl hfl' h5 h6 hf hz'
  subst hcx
  have hrun:=run_append_grow_src (P:=P) M.w t tx ty e j z hu hj hz base n sCap olds hold cy m news hsrc hg (by omega) (growslice_fits hg (by rw [hbs];exact hby))
  refine ⟨_,_,hrun,Qgc _ _,by simp,λhst=>Qqh hM hst ?_ (grownCap_ge _ _ _ _) (grownCap_le_maxLen _ _ _ _ (by unfold maxLen;omega)) hf (Qdc ho hnw h5 h6),_,rfl,?_,grownCap_ge _ _ _ _,Qdc ho hnw h5 h6⟩
  all_goals
   have hge:=grownCap_ge M.w (n+m) sCap e
   simp only [Array.size_append,List.size_toArray,Z10,size_zeroCells,h2,hz',ho,hnw,hfl,hfl',<-Z19]
   congr 1;omega
 cases hex:isExact x with
 |false=>rw [hex] at h;simp at h
 |true=>
 rw [hex] at h
 simp only [Zd] at h
 split at h
 case isFalse=>simp at h
 rename_i hzx
 split at h
 case h_2=>simp at h
 rename_i c' happ
 have hcx:contentVal x=true:=by cases x<;>simp [isExact] at hex<;>rfl
 obtain ⟨A,n',cap,fl,cf,rfl,hfc,hcapn,hle,hA,hcell,hone,hrr⟩:=Wx hcx hx
 have hl1:=Qj hfc
 have hn0:n'=n:=by
  have h9:=hl1.2
  cases x<;>simp [contentVal] at hcx<;>(simp only [lenOf] at hn;rw [h9] at hn;simpa using hn)
 subst hn0
 have hcap0:=hcapn hex
 subst hcap0
 have hcv:=hcont happ
 obtain ⟨m',fl',news,hfy,hzy,hsrc,hnw,hr',hmm⟩:=hsrcs hcv
 obtain rfl:=hmm _ hm
 obtain ⟨hf',hz',hzy',hex',_⟩:=Qa3 happ hfc hfy
 have hl2:=Qj hfy
 rw [hzy] at hsrc
 have hsrc:Src P j.size tx cy m' news M.w:=by rw [hs,<-hzx,<-hzy',hzy];exact hsrc
 have hnl:fl'.length=m'*(C.ty e).size:=by rw [hl2.1,hzy',hzx]
 have hol:fl.length=cap*(C.ty e).size:=by rw [hl1.1,hzx]
 by_cases hm0:m'=0
 ·subst hm0
  have hnews:news=[]:=Z6 (by rw [hnw,hnl];simp)
  have hfl':fl'=[]:=Z6 (by rw [hnl];simp)
  subst hnews hfl'
  rw [Z45] at hf'
  exact ⟨_,_,M,run_append_nothing M.w t tx ty e j hu hj A cap cap (Z4 _) cy hsrc,h,.imm (.slice A cap cap c' fl cf hf' (λ_=>rfl) (Z4 _) hA hcell hone hrr),.refl hM S⟩
 ·obtain ⟨cap',w',hrun,hg,hlt',hb',cur,hw',b6,b3,b10⟩:=grow (base:=A) (sCap:=cap) (olds:=(List.range fl.length).map cf) (id:=S.length) (ver:=0) rfl (by
   cases A with
   |
    none=>
    have h0:=hA rfl
    have:fl=[]:=Z6 (by rw [hol,h0];simp)
    subst this
    exact run_firstCells_none _ _ _ _ _
   |some a=>exact run_firstCells_some _ _ _ a cap cap _ (by rw [Z13,List.length_range,hol,hs]) (λi v hv=>by
     have hi:i<fl.length:=by
      by_cases hi:i<fl.length
      ·exact hi
      ·rw [Z17 (by simp;omega)] at hv;simp at hv
     obtain ⟨a',he,_,hc⟩:=hcell i hi
     simp only [Zs] at he;subst he
     simp [hi] at hv;subst hv
     exact hc)) hsrc (by omega) (by simp) hnw hol hnl (λi hi=>by
    have e1:((List.range fl.length).map cf).getD i Go.undef=cf i:=by simp [Zl,hi]
    rw [e1];exact ⟨hrr i hi,hone i hi⟩) hr' hf' (by rw [hz',hzx])
  have hdst:∀b o cap,Loc.blk M.w.heap.size 0 cap'=.blk b o cap->M.w.heap.size<=b/\b<w'.heap.size:=λb o cap he=>by cases he;exact ⟨Z4 _,hlt'⟩
  have b5':w'.heap[M.w.heap.size]? = some (.cells cur e (0,0)):=by
   have hsz:M.w.drew.heap.size=M.w.heap.size:=rfl
   subst hw';simp only [World.alloc,Z32,hsz,if_true]
  have hcur:(fl++fl').length<=cur.size:=by rw [b6,hz',hzx,Z10,hol,hnl,<-Z19];exact Z3 _ b3
  refine ⟨_,_,{M with w:=w'},hrun,h,.imm (.slice _ _ _ c' (fl++fl') (λi=>cur.getD i Go.undef) hf' (λhx=>by rw [hex'] at hx;simp at hx) b3 (by simp) (λi hi=>⟨_,rfl,λho=>absurd (hM.low _ ho) (by simp),?_⟩) (λi hi=>(b10 i hi).2) (λi hi=>?_)),post_world hM S hg⟩
  ·rw [Addr.add_lit,Z18]
   have:i<cur.size:=by omega
   simp [World.cell?,b5',Z0,this]
  ·exact (Qc4 hg).rep0 hM (b10 i hi).1
theorem Qve (hM:M.ok) {S:Store} {K:V->Store->Option R} {t tx:Nat} {x y:V} (hSx:∀id∈refs1 x,M.S id=S.getD id .dead) (hSy:∀id∈refs1 y,M.S id=S.getD id .dead) {cx cy:Value} {r:R}
  (h:C.appendW t S x y K=some r) (hx:Rep M cx x) (hy:Rep M cy y) {e' ty:TypeId} (hk:P.underlying tx=some (.slice e')) :
  ∃cv v M' S',(Builtin.append_ #[t,tx] ty #[cx,cy]).run P M.w=.ok cv M'.w/\K v S'=some r/\Rep M' cv v/\Post M M' S S' (refs1 x):=by
 unfold Ctx.appendW at h
 split at h
 case h_2=>simp at h
 rename_i e0 hd
 by_cases hb:C.bad e0=true
 ·rw [if_pos hb] at h;simp at h
 rw [if_neg hb] at h
 have hb:C.bad e0=false:=by simpa using hb
 have hu:=(Q9 hT hd).1
 obtain ⟨j,z,hj,hjs,_⟩:=Y8 hT hb
 split at h
 case h_2=>simp at h
 rename_i id ver lo n
 obtain ⟨h1x,⟨hsx,hvx⟩,hp⟩:=W7 hx
 split at h
 case h_2=>simp at h
 rename_i ver' g e c hk0
 split at h
 case isFalse=>simp at h
 rename_i hc
 obtain ⟨rfl,hzc⟩:=hc
 split at h
 case h_2=>simp at h
 rename_i N m hN hm
 split at h
 case isFalse=>simp at h
 rename_i hroom2
 obtain ⟨hroom,hloN⟩:=hroom2
 split at h
 case h_2=>simp at h
 rename_i c' hs
 have hcv:contentVal (immOf S y)=true:=by
  unfold Jb at hs
  split at hs<;>first|(simp at hs;done)|(rename_i h1;rw [h1];rfl)
 have hk1:=(hSx id (by simp [refs1])).trans hk0
 have hlt:=Wk hk0 (by simp)
 have hcc:contentB (M.S id) ver'=some c:=by rw [hk1];simp [contentB]
 obtain ⟨loc,n0,a,cap',hμ,hn0,hle,hnc,rfl,ha,ha2,hcap,hbase⟩:=hp c hcc
 have hNn:n0=N:=by rw [hn0] at hN;simpa using hN
 subst hNn
 obtain ⟨m',fl2,news,hf2,hzy0,hsrc,hnw,hr'⟩:=Qf4 (Yx hM hSy hy hcv) hk
 have hm':m'=m:=by
  have:=(Qj hf2).2
  rw [hm] at this;simpa using this.symm
 subst hm'
 have hB:=hM.blk id _ hμ
 rw [hk1] at hB
 obtain ⟨hB0,hB⟩:=hB
 have hfc:∃fl,flatV c=some (n0,fl):=by
  cases loc with
  |
   nil a=>
   have h9:=(Qj hB.2).2
   rw [hn0] at h9;simp only [Zs] at h9;subst h9
   exact ⟨_,hB.2⟩
  |
   blk b o cap=>
   obtain ⟨n2,fl,_,_,hf,_⟩:=hB
   have h9:=(Qj hf).2
   rw [hn0] at h9;simp only [Zs] at h9;subst h9
   exact ⟨_,hf⟩
 obtain ⟨fl,hfc⟩:=hfc
 obtain ⟨hf',hz',hx',hzy⟩:=Qi3 hs hfc hf2 (Z4 _) hroom
 have hl1:=Qj hfc;have hl2:=Qj hf2
 have hus:fl2.take (m'*zOf c)=fl2:=Z28 (by rw [hl2.1,hzy];exact Z4 _)
 rw [hus] at hf'
 rw [hzy,hzc,<-hjs] at hsrc
 by_cases hpos:0<cap'
 ·obtain ⟨b,o,capb,rfl,rfl⟩:=hbase hpos
  obtain ⟨h1,hW,hBn⟩:=Qdl (vs:=news) hM hk1 hμ (off:=(lo+n)*zOf c) (us:=fl2) hfc hf' hz' hx' (by
   rw [hl1.1,hl2.1,hzy,<-Z19];exact Z3 _ hroom) hnw (λi hi=>by
   have e:fl2.getD i .undef=fl2[i]:=by rw [Zl,Z1 hi];rfl
   rw [e];exact hr' i hi)
  have eo:o+(lo+n)*zOf c=o+lo*zOf c+n*j.size:=by rw [hjs,<-hzc,Z19,Z36]
  have hrun:=run_append_room_src (P:=P) M.w t tx ty e0 j hu hj b (o+lo*zOf c) n cap' cy m' news hsrc (by omega) (λi hi=>by
   have:=(h1 i hi).1
   rwa [eo] at this) (λi hi=>by
   have:=(h1 i hi).2
   rwa [eo] at this)
  rw [<-eo] at hrun
  refine ⟨_,_,M.push id (.arr ver' g e c') (.blk b o capb) (M.w.setCells b (o+(lo+n)*zOf c) news),_,hrun,h,?_,post_write hM hW hBn hlt⟩
  have hs1:(M.push id (.arr ver' g e c') (.blk b o capb) (M.w.setCells b (o+(lo+n)*zOf c) news)).S id=.arr ver' g e c':=upd_same
  have hs2:(M.push id (.arr ver' g e c') (.blk b o capb) (M.w.setCells b (o+(lo+n)*zOf c) news)).μ id=some (.blk b o capb):=upd_same
  refine .ref ⟨rfl,⟨by rw [hs2];rfl,by rw [hs1];intro v hv;simp [verB] at hv;omega⟩,λc'' hc''=>?_⟩
  rw [hs1] at hc''
  simp only [contentB,if_true,Zs] at hc''
  subst hc''
  exact ⟨.blk b o capb,n0,_,cap',hs2,(Qj hf').2,by omega,by omega,rfl,λh=>by simp at h,λ_=>⟨b,o,capb,rfl,by rw [hz']⟩,hcap,λ_=>⟨b,o,capb,rfl,by rw [hz']⟩⟩
 ·exfalso;omega
theorem Qyv (hM:M.ok) {S:Store} {K:V->Store->Option R} {t ty:Nat} {x:V} (hSx:∀id∈refs1 x,M.S id=S.getD id .dead) {cx:Value} {r:R}
  (h:C.clearV t S x K=some r) (hx:Rep M cx x):∃M' S',(Builtin.clear_ #[t] ty #[cx]).run P M.w=.ok (.tuple #[]) M'.w/\K (.tup []) S'=some r/\Post M M' S S' (refs1 x):=by
 unfold Ctx.clearV at h
 split at h
 case h_2=>simp at h
 rename_i e0 hd
 have hu:=(Q9 hT hd).1
 split at h
 case h_2=>simp at h
 rename_i id ver lo n
 obtain ⟨_,hsx,hp⟩:=W7 hx
 split at h
 case h_2=>simp at h
 rename_i ver' g e c hk0
 split at h
 case isFalse=>simp at h
 rename_i hc
 obtain ⟨rfl,hzc⟩:=hc
 split at h
 case isFalse=>simp at h
 rename_i hn0
 split at h
 case h_2=>simp at h
 rename_i y hy
 split at h
 case h_2=>simp at h
 rename_i c' hs
 obtain ⟨hb,hl,hzo,hz0,_,_,hfy⟩:=Qf5 hT hy
 obtain ⟨j,z,hj,hjs,_,hz,h2,h3,h4⟩:=Y8 hT hb
 have hk1:=(hSx id (by simp [refs1])).trans hk0
 have hcc:contentB (M.S id) ver'=some c:=by rw [hk1];simp [contentB]
 obtain ⟨loc,N,a,cap',hμ,hN,hle,_,rfl,ha,ha2,_⟩:=hp c hcc
 obtain ⟨b,o,capb,rfl,rfl⟩:=ha2 hn0
 have hB:=hM.blk id _ hμ
 rw [hk1] at hB
 obtain ⟨hB0,n2,fl,cur,fz,hfc,_⟩:=hB
 have h9:=(Qj hfc).2
 rw [hN] at h9;simp only [Zs] at h9;subst h9
 obtain ⟨hf',hz',hx',hzy⟩:=Qi3 hs hfc hfy (Z4 _) hle
 have hl1:=Qj hfc;have hl2:=Qj hfy
 generalize hus:(List.replicate n (C.ty e0).zero).flatten=us at *
 have husl:us.length=n*zOf c:=by rw [hl2.1,hzy]
 have ht:us.take (n*zOf c)=us:=Z28 (by omega)
 rw [ht] at hf'
 have hzl:(Builtin.zeroCells z.cells n).toList.length=us.length:=by rw [Z31,size_zeroCells,h2,husl,hzc]
 have hcr:∀i,i<us.length->Rep0 M.O M.w ((Builtin.zeroCells z.cells n).toList.getD i Go.undef) (us.getD i .undef)/\((Builtin.zeroCells z.cells n).toList.getD i Go.undef).oneCell'=true:=λi hi=>by
  have hlt:i%(C.ty e0).size<(C.ty e0).size:=Z79 _ hz0
  have hin:i<n*z.cells.size:=by rw [h2,<-hzc,<-husl];exact hi
  have e1:(Builtin.zeroCells z.cells n).toList.getD i Go.undef=z.cells.getD (i%(C.ty e0).size) Go.undef:=by
   have:i%z.cells.size<z.cells.size:=by rw [h2];exact hlt
   have hin2:i<n*(C.ty e0).size:=by rw [<-h2];exact hin
   simp [Builtin.zeroCells,Zl,Z0,h2,hlt,hin2]
  have e2:=Qg8 V.undef n (C.ty e0).zero i (by rw [h3,<-hzc,<-husl];exact hi)
  rw [hus,h3] at e2
  rw [e1,e2]
  have:=h4 _ hlt
  exact ⟨this.2 _ _,this.1⟩
 obtain ⟨h1,hW,hBn⟩:=Qdl (vs:=(Builtin.zeroCells z.cells n).toList) hM hk1 hμ (off:=lo*zOf c) (us:=us) hfc hf' hz' hx' (by
  rw [husl,hl1.1,<-Z19];exact Z3 _ (by omega)) hzl hcr
 have hst:=run_storeCells_cells (P:=P) b (o+lo*zOf c) (Builtin.zeroCells z.cells n).toList 0 M.w (λi hi=>by
  have:=(h1 i hi).1
  simpa using this) (λi hi=>by
  have:=(h1 i hi).2
  simpa using this) (λv hv=>by
  obtain ⟨i,hi,rfl⟩:=List.mem_iff_getElem.1 hv
  have:=(hcr i (by omega)).2
  rwa [Zl,Z1 hi] at this)
 simp only [Z77] at hst
 refine ⟨M.push id (.arr ver' g e c') (.blk b o capb) (M.w.setCells b (o+lo*zOf c) (Builtin.zeroCells z.cells n).toList),_,?_,h,post_write hM hW hBn (Wk hk0 (by simp))⟩
 obtain ⟨m,rfl⟩:∃m,n=m+1:=⟨n-1,by omega⟩
 have hzr:∀w,(zeroValue e0).run P w=.ok z w:=λw=>by simp [zeroValue,typeInfo,hj,hz]
 simp [Builtin.clear_,run_underlying hu,hzr,hst]
 rfl
end
variable {R:Type}
theorem Qo3 {k:IntKind}:∀{cells:List V} {l:J0},allInts k cells=some l->cells=l.map (.int k)
 |[],l,h=>by simp [allInts] at h;subst h;rfl
 |
  v::vs,l,h=>by
  cases v<;>simp only [allInts] at h<;>try (simp at h;done)
  rename_i k' n
  split at h
  case isFalse=>simp at h
  rename_i hk;subst hk
  simp only [Z22] at h
  obtain ⟨l',h',rfl⟩:=h
  rw [Qo3 h'];rfl
theorem Qmq:∀{cells:List V} {l:List J1},allStrs cells=some l->cells=l.map .str
 |[],l,h=>by simp [allStrs] at h;subst h;rfl
 |
  v::vs,l,h=>by
  cases v<;>simp only [allStrs] at h<;>try (simp at h;done)
  simp only [Z22] at h
  obtain ⟨l',h',rfl⟩:=h
  rw [Qmq h'];rfl
theorem Qm1 (z:Nat):∀(n:Nat) (l:List V),l.length=n*z->(chunks z n l).length=n/\(∀e∈chunks z n l,e.length=z)/\(chunks z n l).flatten=l
 |
  0,l,h=>by
  have:l=[]:=Z6 (by omega)
  subst this;simp [chunks]
 |
  n+1,l,h=>by
  rw [Z19,Z70] at h
  obtain ⟨h1,h2,h3⟩:=Qm1 z n (l.drop z) (by simp;omega)
  refine ⟨by simp [chunks,h1],λe he=>?_,by simp [chunks,h3]⟩
  simp only [chunks,Z103] at he
  rcases he with rfl|he
  ·simp;omega
  ·exact h2 e he
theorem Qot {place:Nat->Option (Nat×Nat)}:∀{ps:List (Nat×V)} {cells cells':List V},Ja place cells ps=some cells'->cells'.length=cells.length
 |[],cells,cells',h=>by simp [Ja] at h;rw [h]
 |
  (i,v)::rest,cells,cells',h=>by
  simp only [Ja] at h
  split at h
  ·simp at h
  ·split at h
   case isFalse=>simp at h
   rw [Qot h,Jw]
section
variable {P:Program} {C:Ctx} (hT:C.T.check P=true) {M:Mem}
include hT
theorem Qi5 (hM:M.ok) {t len:Nat} {ps:List (Nat×V)} {qs:Array (Nat×Value)} {v:V} (h:C.buildSliceV t len ps=some v) (hl:qs.size=ps.length)
  (hr:∀j (h:j<ps.length) (h':j<qs.toList.length),qs.toList[j].1=ps[j].1/\Rep M qs.toList[j].2 ps[j].2) :
  ∃
   cv w',(Instr.buildSlice t len qs).run P M.w=.ok cv w'/\M.w.grownBy w' none/\Rep0 M.O w' cv v/\∀q,M.μ q=none ->
   ∃cap,cv=Q0 (.blk M.w.heap.size 0 cap) cap/\lenV (unexact v)=some cap/\M.w.heap.size<w'.heap.size/\BlkOK (M.push q (.arr 0 false (C.elemT t) (unexact v)) (.blk M.w.heap.size 0 cap) w') (.blk M.w.heap.size 0 cap) (.arr 0 false (C.elemT t) (unexact v)):=by
 unfold Ctx.buildSliceV at h
 split at h
 case h_2=>simp at h
 rename_i e hd
 by_cases hb:C.bad e=true
 ·rw [if_pos hb] at h;simp at h
 rw [if_neg hb] at h
 have hb:C.bad e=false:=by simpa using hb
 split at h
 case h_2=>simp at h
 rename_i cells hfill
 split at h
 case isFalse=>simp at h
 rename_i hc
 obtain ⟨h24,hz0⟩:=hc
 obtain ⟨j,z,hj,hs,hbs,hz,h2,h3,h4⟩:=Y8 hT hb
 have hu:=(Q9 hT hd).1
 have hrz:RepL M (madeCells z.cells (len*(C.ty e).size)) (A.rep len (C.ty e).zero):=by
  have hrl:(A.rep len (C.ty e).zero).length=len*(C.ty e).size:=(Qj0 _ _).trans (by rw [h3])
  refine ⟨by rw [size_madeCells,hrl],λi hi=>?_⟩
  have hi':i<len*(C.ty e).size:=by rw [hrl] at hi;exact hi
  have hlt:i%(C.ty e).size<(C.ty e).size:=Z79 _ (by omega)
  have e1:(madeCells z.cells (len*(C.ty e).size)).getD i Go.undef=z.cells.getD (i%(C.ty e).size) Go.undef:=by
   simp [madeCells,Z0,hi',h2,hlt]
  have e2:(A.rep len (C.ty e).zero)[i]=(C.ty e).zero.getD (i%(C.ty e).size) .undef:=by
   have:=Qg8 (V.undef) len (C.ty e).zero i (by rw [h3];exact hi')
   rw [h3] at this
   rw [<-this]
   show (A.rep len (C.ty e).zero)[i]=(A.rep len (C.ty e).zero).getD i .undef
   rw [Zl,Z1 hi];rfl
  rw [e1,e2]
  exact ⟨.imm ((h4 _ hlt).2 _ _),(h4 _ hlt).1⟩
 obtain ⟨cur,hf,hcur⟩:=Qfk (M:=M) (place:=λi=>some (i*(C.ty e).size,(C.ty e).size)) (place':=λi=>some (i*(C.ty e).size,(C.ty e).size)) (λi p hp=>hp) ps qs.toList _ cells _ hfill hrz (by simpa using hl) hr
 have hlen:cells.length=len*(C.ty e).size:=(Qot hfill).trans ((Qj0 _ _).trans (by rw [h3]))
 have hrun:(Instr.buildSlice t len qs).run P M.w=.ok (.slice (some ⟨M.w.heap.size,0,none⟩) len len) (M.w.alloc (.cells cur e)):=by
  have hS:=Y2 hT (Wg hb) M.w
  simp only [Instr.buildSlice,Sem.run_bind,run_underlying hu,Result.andThen_ok,hS]
  rw [if_neg (by omega)]
  by_cases h0:len*(C.ty e).size=0
  ·have hm:madeCells z.cells (len*(C.ty e).size)=(Array.range (len*(C.ty e).size)).map ((#[]:Array Value)[· % (#[]:Array Value).size]!):=by
    rw [h0];simp [madeCells,Array.range_zero']
   rw [if_pos h0]
   simp only [Sem.run_pure,Sem.run_bind,Result.andThen_ok,<-hm,hf,newRow,run_newObj_alloc]
  ·rw [if_neg h0]
   have hzr:(zeroValue e).run P M.w=.ok z M.w:=by simp [zeroValue,typeInfo,hj,hz]
   have hm:(Array.range (len*(C.ty e).size)).map (z.cells[· % z.cells.size]!)=madeCells z.cells (len*(C.ty e).size):=rfl
   simp only [Sem.run_bind,hzr,Sem.run_pure,Result.andThen_ok,hm,hf,newRow,run_newObj_alloc]
 have hg:=Qcu M.w (.cells cur e)
 refine ⟨_,_,hrun,hg,?_⟩
 have hst:=Qc4 (M:=M) hg
 have het:C.elemT t=e:=by simp [Ctx.elemT,hd]
 have done:∀{v:V},flatV v=some (len,cells)->cells.all V.flatImm=true->zOf v=(C.ty e).size->Rep0 M.O (M.w.alloc (.cells cur e)) (.slice (some ⟨M.w.heap.size,0,none⟩) len len) v/\∀q,M.μ q=none ->
   ∃cap,Value.slice (some ⟨M.w.heap.size,0,none⟩) len len=Q0 (.blk M.w.heap.size 0 cap) cap/\lenV (unexact v)=some cap/\M.w.heap.size<(M.w.alloc (.cells cur e)).heap.size/\BlkOK (M.push q (.arr 0 false (C.elemT t) (unexact v)) (.blk M.w.heap.size 0 cap) (M.w.alloc (.cells cur e))) (.blk M.w.heap.size 0 cap) (.arr 0 false (C.elemT t) (unexact v)):=λ{v} hfv hall hzv=>by
  have hun:flatV (unexact v)=flatV v/\zOf (unexact v)=zOf v/\lenV (unexact v)=lenV v:=by cases v<;>exact ⟨rfl,rfl,rfl⟩
  refine ⟨?_,λq hq=>⟨len,rfl,by rw [hun.2.2];exact (Qj hfv).2,by simp,?_⟩⟩
  rotate_left
  ·have hst2:=push_step hM hq (k:=.arr 0 false (C.elemT t) (unexact v)) (loc:=.blk M.w.heap.size 0 len) hg (λb o cap he=>by cases he;exact ⟨Z4 _,by simp⟩)
   refine ⟨λ_ _ _ he=>by cases he;exact ⟨.inr ⟨0,len,rfl⟩,by simp [Mem.push]⟩,len,cells,cur,(0,0),hun.1.trans hfv,rfl,Z4 _,?_,?_,by rw [hun.2.1,hzv,<-hlen];exact hcur.1,λ_=>rfl,λ_ _=>⟨rfl,rfl⟩,λj hj=>?_,λj hj=>?_⟩
   ·have:=Nat.le_mul_of_pos_right len (show 0<(C.ty e).size by omega);unfold maxLen;omega
   ·rw [het];simp only [Mem.push,World.alloc,Z32,if_true]
   ·simp only [Mem.push,World.frozen?,World.alloc,Z32,if_true];simp
   ·have:=Qe5 (hcur.2 j hj).1 (Z23.1 hall _ (Z15 hj))
    exact ⟨hst2.rep0 hM this,(hcur.2 j hj).2⟩
  exact .slice _ _ _ v cells (λi=>cur.getD i Go.undef) hfv (λ_=>rfl) (Z4 _) (by simp) (λi hi=>by
   have hi':i<cur.size:=by rw [hcur.1];exact hi
   refine ⟨_,rfl,λho=>absurd (hM.low _ ho) (by simp),?_⟩
   rw [Addr.add_lit,Z18,World.cell?_alloc_new]
   simp [Z0,hi']) (λi hi=>(hcur.2 i hi).2) (λi hi=>by
   have:=Qe5 (hcur.2 i hi).1 (Z23.1 hall _ (Z15 hi))
   exact hst.rep0 hM this)
 split at h
 ·rename_i k hde
  simp only [Z22] at h
  obtain ⟨l,hl',rfl⟩:=h
  have hmap:=Qo3 hl'
  have h1:=Qae hT hb (by simp [Ctx.isAgg,hde])
  have:l.length=len:=by rw [hmap,h1] at hlen;simpa using hlen
  exact done (by simp only [flatV];rw [this,hmap]) (by rw [hmap,List.all_map];simp [V.flatImm]) (by simp only [zOf,h1])
 ·rename_i hde
  simp only [Z22] at h
  obtain ⟨l,hl',rfl⟩:=h
  have hmap:=Qmq hl'
  have h1:=Qae hT hb (by simp [Ctx.isAgg,hde])
  have:l.length=len:=by rw [hmap,h1] at hlen;simpa using hlen
  exact done (by simp only [flatV];rw [this,hmap]) (by rw [hmap,List.all_map];simp [V.flatImm]) (by simp only [zOf,h1])
 ·simp at h
 ·split at h
  case isFalse=>simp at h
  rename_i hall
  simp only [Zs] at h;subst h
  obtain ⟨c1,c2,c3⟩:=Qm1 (C.ty e).size len cells hlen
  exact done (by simp only [flatV];rw [if_pos ⟨by omega,c2⟩,c1,c3]) hall rfl
end
end Go.Proofs.YtihfdjkjpncjfaaGreatDoor.A
end
