/-
  THE LAYER: symbolic semantics of compiled code, and programs on typed data.
-/
import Derived.WalkKit
import Derived.Deep.LoopGhost
import Derived.ChangeKeysEq
import Derived.Laws.StructEq
import Derived.Maps.AppendAt
import Derived.Laws.AppendOwnNone
import Derived.Great.BuildSlice
import Derived.MapKept
import Derived.Lib.FrozenHead
import Derived.Lib.UnsafeStr
open Array renaming length_toList->aAQ,mem_iff_getElem?->aAq,getElem?_setIfInBounds_ne->aAt,getElem?_eq_some_iff->aAz,size_setIfInBounds->aBF,getElem?_eq_none->aBJ
open BitVec renaming ofInt->aAW
open Bool renaming and_eq_true->aAV,false_eq_true->aAc
open Go.Instr renaming sliceAt->aAX,indexAt->aAk,slice->aAy,sliceBound->aBE,sureAddr->aBM,fill->aBP,storeAt->aBQ,loadAt->aBR
open List renaming getElem?_eq_some_iff->aA,mem_of_getElem?->aAA,getElem?_eq_getElem->aAB,getElem?_cons_zero->aAC,getElem?_append_right->aAF,getElem?_append_left->aAG,getElem?_take->aAH,getElem?_map->aAI,eq_nil_of_length_eq_zero->aAJ,all_eq_true->aAN,getElem?_drop->aAR,mem_of_mem_take->aAS,getElem?_cons_succ->aAT,range->aAa,mem_iff_getElem?->aAf,mem_of_mem_drop->aAg,getElem_mem->aAh,getElem?_set_ne->aAj,length_append->aAm,mem_map->aAn,replicate->aAp,getElem?_set_self->aAr,length_cons->aAs,mem_append->aAu,append_nil->aAv,getElem?_range->aAw,append_assoc->aB,extract_eq_take_drop->aBA,mem_or_eq_of_mem_set->aBB,length_take->aBC,getElem?_replicate->aBH,singleton_append->aBL,getElem?_eq_none->aBN,length_singleton->aBO
open Nat renaming lt_of_lt_of_le->aAD,mul_le_mul_right->aAE,add_mul->aAL,le_trans->aAO,le_refl->aAU,blt->aAY,add_assoc->aAZ,eq_zero_or_pos->aAb,beq->aAl,add_zero->aAo,add_comm->aBD,add_sub_cancel_left->aBG,mul_one->aBI,min->aBK
open Option renaming map_eq_some_iff->aAK,isSome_iff_exists->aAM,ne_none_iff_exists'->aAP
open Go.Program renaming cellsOf->aAd
open Go.Value renaming cells->aAe
open Go.World renaming cell?_of_block->aAi,cell?->aAx
namespace Go.Dw
inductive D where
 | top
 | int (k:IntKind) (n:Int)
 | bool (b:Bool)
 | str (s:List UInt8)
 | agg (cs:List D)
 | sl (es:List D)
 | nils
 | osl (g v i n:Nat)
 | optr (g v i off:Nat)
 | fptr (e:D) (off:Nat)
 | clo (f:Nat) (caps:List D)
 | nilf
 | ifc (t:Nat) (d:D)
 | nilp
 | tup (ds:List D)
 | when (p:Bool) (d:D)
 | row (s ty:Nat) (es:List D)
 | hole (nm v n:Nat)
 | mref (g v:Nat)
 | vsl (g v n:Nat)
instance:Inhabited D:=⟨.top⟩
def cells:D->List D
 | .agg cs=>cs
 | d=>[d]
mutual
def nrm:D->D
 | .nils=>.sl []
 | .agg cs=>.agg (DZ cs)
 | .sl es=>.sl (DZ es)
 | d=>d
def DZ:List D->List D
 | []=>[]
 | d::r=>nrm d::DZ r
end
def Ab (g:Nat):Bool:=Nat.ble 4096 g
def plain:D->Bool
 | .row .. | .hole ..=>false
 | _=>true
def AD (e:D):Bool:=(cells e).all plain
structure Own where
 fz:Bool
 var:Bool
 s:Nat
 ty:Nat
 es:List D
abbrev Ac:=Option (Nat×Own)
def look {α:Type}:List (Nat×α)->Nat->Option α
 | [],_=>none
 | (k,x)::r,t=>if t=k then some x else look r t
structure S where
 e:List (Nat×D)
 o:List (Nat×Ac)
 n:Nat
def S.ge (σ:S) (t:Nat):D:=(look σ.e t).getD .top
def S.go (σ:S) (g:Nat):Ac:=(look σ.o g).getD none
inductive Key where
 | e (t:Nat)
 | o (g:Nat)
 deriving DecidableEq
inductive R (α:Type) where
 | ret (a:α)
 | ge (t:Nat) (k:D->R α)
 | go (g:Nat) (k:Ac->R α)
def R.bind {α β:Type}:R α->(α->R β)->R β
 | .ret a,f=>f a
 | .ge t k,f=>.ge t λd=>(k d).bind f
 | .go g k,f=>.go g λd=>(k d).bind f
instance:Monad R where
 pure:=R.ret
 bind:=R.bind
def R.run {α:Type}:R α->S->α
 | .ret a,_=>a
 | .ge t k,σ=>(k (σ.ge t)).run σ
 | .go g k,σ=>(k (σ.go g)).run σ
def R.rd {α:Type}:R α->S->List Key
 | .ret _,_=>[]
 | .ge t k,σ=>.e t::(k (σ.ge t)).rd σ
 | .go g k,σ=>.o g::(k (σ.go g)).rd σ
@[simp] theorem R.run_pure {α:Type} (a:α) (σ:S):(Pure.pure a:R α).run σ=a:=rfl
@[simp] theorem R.AB {α:Type} (a:α) (σ:S):(R.ret a).run σ=a:=rfl
@[simp] theorem R.JB {α:Type} (t:Nat) (k:D->R α) (σ:S):(R.ge t k).run σ=(k (σ.ge t)).run σ:=rfl
@[simp] theorem R.AP {α:Type} (t:Nat) (k:Ac->R α) (σ:S):(R.go t k).run σ=(k (σ.go t)).run σ:=rfl
theorem R.run_bind' {α β:Type} (m:R α) (f:α->R β) (σ:S):(m.bind f).run σ=(f (m.run σ)).run σ:=by
 induction m with
 | ret a=>rfl
 | ge t k ih=>exact ih _
 | go g k ih=>exact ih _
@[simp] theorem R.run_bind {α β:Type} (m:R α) (f:α->R β) (σ:S):(m >>= f).run σ=(f (m.run σ)).run σ:=R.run_bind' m f σ
theorem R.MM {α β:Type} (m:R α) (f:α->R β) (σ:S):(m.bind f).rd σ=m.rd σ++(f (m.run σ)).rd σ:=by
 induction m with
 | ret a=>rfl
 | ge t k ih=>simp[R.bind,R.rd,R.run,ih]
 | go g k ih=>simp[R.bind,R.rd,R.run,ih]
@[simp] theorem R.AF {α β:Type} (m:R α) (f:α->R β) (σ:S):(m >>= f).rd σ=m.rd σ++(f (m.run σ)).rd σ:=R.MM m f σ
@[simp] theorem R.Bh {α:Type} (a:α) (σ:S):(Pure.pure a:R α).rd σ=[]:=rfl
@[simp] theorem R.Cy {α:Type} (a:α) (σ:S):(R.ret a).rd σ=[]:=rfl
@[simp] theorem R.PE {α:Type} (t:Nat) (k:D->R α) (σ:S):(R.ge t k).rd σ= .e t::(k (σ.ge t)).rd σ:=rfl
@[simp] theorem R.Ca {α:Type} (t:Nat) (k:Ac->R α) (σ:S):(R.go t k).rd σ= .o t::(k (σ.go t)).rd σ:=rfl
def S.same (σ τ:S):Key->Prop
 | .e t=>σ.ge t=τ.ge t
 | .o g=>σ.go g=τ.go g
theorem R.local {α:Type} (m:R α) (σ τ:S) (h:∀ k∈m.rd σ,σ.same τ k):m.run τ=m.run σ/\m.rd τ=m.rd σ:=by
 induction m with
 | ret a=>exact⟨rfl,rfl⟩
 | ge t k ih =>
  have h0:σ.ge t=τ.ge t:=h (.e t) (by simp[R.rd])
  have:=ih (σ.ge t) (λk' hk=>h k' (by simp[R.rd,hk]))
  simp only[R.run,R.rd,<- h0]
  exact⟨this.1,by rw[this.2]⟩
 | go g k ih =>
  have h0:σ.go g=τ.go g:=h (.o g) (by simp[R.rd])
  have:=ih (σ.go g) (λk' hk=>h k' (by simp[R.rd,hk]))
  simp only[R.run,R.rd,<- h0]
  exact⟨this.1,by rw[this.2]⟩
structure Out where
 c:Prop
 we:List (Nat×D)
 wo:List (Nat×Ac)
def S.app (σ:S) (u:Out):S:=⟨u.we++σ.e,u.wo++σ.o,σ.n⟩
inductive Arg where
 | t (n:Nat)
 | c (d:D)
instance:Inhabited Arg:=⟨.c .top⟩
def known:D->Bool
 | .top| .when .. | .tup .. | .row .. | .hole ..=>false
 | _=>true
def Ig:D->Bool
 | .agg .. | .clo .. | .when .. | .tup .. | .row .. | .hole ..=>false
 | _=>true
def QI:D->Bool
 | .agg .. | .clo .. | .when .. | .tup .. | .row .. | .hole .. | .osl .. | .optr .. | .mref .. | .vsl ..=>false
 | _=>true
def QT:D->Bool
 | .clo _ caps=>caps.all QI
 | d=>QI d
def strip:D->Bool×D
 | .when p d=>(p,d)
 | d=>(true,d)
def raw:Arg->R D
 | .t n=>.ge n .ret
 | .c d=>.ret d
def rdA (x:Arg):R (Bool×D):=do pure (strip (<- raw x))
inductive Kind where
 | val
 | ground
 | row (s ty:Nat)
 | mat (s ty:Nat)
 | ptr (s ty:Nat)
 | tupPtr (i s ty:Nat)
 | inpl (r:Bool) (fl:List Int->List Int) (fk:List Int->Nat)
 | opn (φ:List D->S->(D->S->Prop)->Prop)
def Cc:Kind->Option (Bool×(List Int->List Int)×(List Int->Nat))
 | .inpl r fl fk=>some (r,fl,fk)
 | _=>none
def Ej:Kind->Option (List D->S->(D->S->Prop)->Prop)
 | .opn φ=>some φ
 | _=>none
structure Spec where
 ptr:List (Nat×(Nat×Nat))
 kind:Kind
 pre:List D->Prop
 res:List D->D
 eff:List D->List D
abbrev Ar:=Nat->Option Spec
inductive DOp where
 | mv (x:Arg)
 | asg (x:Arg) (sl:Option (Nat×Nat))
 | pick (c a b:Arg)
 | new (z:D) (s ty:Nat)
 | box (x:Arg) (s ty:Nat)
 | bld (z:List D) (parts:List (Nat×Nat×Arg))
 | bldS (s ty:Nat) (z:D) (len:Nat) (parts:List (Nat×Arg))
 | ld (n:Nat) (agg:Bool) (a:Arg)
 | st (n:Nat) (a x:Arg)
 | nilck (x:Arg)
 | bin (op:BinOp) (x y:Arg)
 | eqB (neg:Bool) (x y:Arg)
 | eqA (n:Nat) (neg:Bool) (x y:Arg)
 | un (op:UnOp) (x:Arg)
 | cvt (k:IntKind) (x:Arg)
 | i2s (x:Arg)
 | b2s (x:Arg)
 | mkS (s ty bytes:Nat) (z:D) (len cap:Arg)
 | slc (s:Nat) (x:Arg) (lo hi:Option Arg)
 | fldA (off:Nat) (x:Arg)
 | fld (off n:Nat) (agg:Bool) (x:Arg)
 | ixA (s:Nat) (x i:Arg)
 | ixP (s len:Nat) (x i:Arg)
 | ixG (k n s:Nat) (i:Arg)
 | ix (s len:Nat) (agg:Bool) (x i:Arg)
 | ixStr (x i:Arg)
 | ext (x:Arg) (i:Nat)
 | call (f:Arg) (args:List Arg)
 | len (str:Bool) (x:Arg)
 | app (s ty bytes:Nat) (x y:Arg)
 | cpy (x y:Arg)
 | fail
 | bldV (ty len:Nat) (parts:List (Nat×Nat×Arg))
 | max (args:List Arg)
 | min (args:List Arg)
 | mkf (f:Nat) (caps:List Arg)
 | mkm
 | mkb (t u:Nat)
 | mkx (t u:Nat) (x:Arg)
 | mkI (t:Nat) (x:Arg)
 | tas (t:Nat) (z:D) (x:Arg)
 | mget (z:D) (x i:Arg)
 | mset (x i y:Arg)
 | mdel (x i:Arg)
 | rng (x:Arg)
 | nxt (x:Arg)
def Dt:DOp->Bool
 | .mkm| .mkb .. | .mkx .. | .mget .. | .mset .. | .mdel .. | .rng .. | .nxt ..=>true
 | _=>false
structure As where
 dst:Option Nat
 op:DOp
 guard:Option (Nat×Bool)
 after:List Nat
def Ad (dst:Option Nat) (d:D):List (Nat×D):=match dst with|some t=>[(t,d)]|none=>[]
def AH (dst:Option Nat) (o:Ac):List (Nat×Ac):=match dst with|some t=>[(t,o)]|none=>[]
def nmR (r:Bool) (t:Nat):Nat:=bif r then 4096+t else t
def CH (r:Bool) (dst:Option Nat) (o:Ac):List (Nat×Ac):=match dst with|some t=>[(nmR r t,o)]|none=>[]
def setAt (cs:List D) (off:Nat) (new:List D):List D :=
 match new with
 | []=>cs
 | d::r=>setAt (cs.set off d) (off+1) r
def QN (cs:List D) (off n:Nat) (agg:Bool):D:=if agg then .agg ((cs.drop off).take n)else cs.getD off .top
def QG (e:D) (off:Nat) (new:List D):D :=
 match e with
 | .agg cs=>.agg (setAt cs off new)
 | _=>(match new with| [d]=>d|_=>.agg new)
def HV:BinOp->D->D->Prop×D
 | .shl,.int k x,.int _ y=>(0<=y,.int k (k.wrap (x*2 ^ (aBK y.toNat k.bits))))
 | .shr,.int k x,.int _ y=>(0<=y,.int k (x.fdiv (2 ^ (aBK y.toNat k.bits))))
 | .add,.int k x,.int k' y=>(k=k',.int k (k.wrap (x+y)))
 | .sub,.int k x,.int k' y=>(k=k',.int k (k.wrap (x-y)))
 | .mul,.int k x,.int k' y=>(k=k',.int k (k.wrap (x*y)))
 | .quo,.int k x,.int k' y=>(k=k'/\y≠0,.int k (k.wrap (x.tdiv y)))
 | .rem,.int k x,.int k' y=>(k=k'/\y≠0,.int k (x.tmod y))
 | .and,.int k x,.int k' y=>(k=k',.int k (k.wrap ((aAW k.bits x &&& aAW k.bits y).toNat)))
 | .or,.int k x,.int k' y=>(k=k',.int k (k.wrap ((aAW k.bits x ||| aAW k.bits y).toNat)))
 | .xor,.int k x,.int k' y=>(k=k',.int k (k.wrap ((aAW k.bits x ^^^ aAW k.bits y).toNat)))
 | .andNot,.int k x,.int k' y=>(k=k',.int k (k.wrap ((aAW k.bits x &&& ~~~ aAW k.bits y).toNat)))
 | .eql,.int k x,.int k' y=>(k=k',.bool (x==y))
 | .neq,.int k x,.int k' y=>(k=k',.bool (x != y))
 | .lss,.int k x,.int k' y=>(k=k',.bool (decide (x<y)))
 | .leq,.int k x,.int k' y=>(k=k',.bool (decide (x<=y)))
 | .gtr,.int k x,.int k' y=>(k=k',.bool (decide (x>y)))
 | .geq,.int k x,.int k' y=>(k=k',.bool (decide (x>=y)))
 | .add,.str x,.str y=>(x.length+y.length<=16777216,.str (x++y))
 | .eql,.str x,.str y=>(True,.bool (x==y))
 | .neq,.str x,.str y=>(True,.bool (!(x==y)))
 | _,_,_=>(False,.top)
def unD:UnOp->D->Prop×D
 | .not,.bool b=>(True,.bool (!b))
 | .neg,.int k n=>(True,.int k (k.wrap (0-n)))
 | .xor,.int k n=>(True,.int k (k.wrap ((aAW k.bits (if k.signed then -1 else k.max) ^^^ aAW k.bits n).toNat)))
 | _,_=>(False,.top)
def eqL:List D->List D->Prop×Bool
 | [],[]=>(True,true)
 | .int k a::r,.int k' b::r'=>(k=k'/\(eqL r r').1,(a==b)&&(eqL r r').2)
 | _,_=>(False,false)
def HZ (f:Int->Int->Int):D->D->Prop×D
 | .int k x,.int k' y=>(k=k',.int k (f x y))
 | _,_=>(False,.top)
def TR (x y:Int):Int:=if x<y then y else x
def WW (x y:Int):Int:=if y<x then y else x
def DS:List Nat:=[0,1,56,2,57,49,28,3,61,58,42,50,38,29,17,4,62,47,59,36,45,43,51,22,53,39,33,30,24,18,12,5,63,55,48,27,60,41,37,16,46,35,44,21,52,32,23,11,54,26,40,15,34,20,31,10,25,14,19,9,13,8,7,6]
def SD:List (List UInt8):=[[99,111,110,115,116],[99,111,112,121],[97,100,100],[115,117,98],[109,117,108],[100,105,118],[97,110,100],[111,114],[120,111,114],[108,101,115,115],[101,113,117,97,108],[112,97,105,114],[104,105,103,104],[105,110],[111,117,116],[108,111,97,100],[115,116,111,114,101],[109,111,118,101],[97,114,103],[112,97,114,97,109],[106,117,109,112],[98,114,97,110,99,104],[99,97,108,108],[114,101,116,117,114,110],[116,114,97,112]]
def TI:List (List UInt8):=[[114,35],[114,114],[114,114,114],[114,114,114],[114,114,114],[114,114,114],[114,114,114],[114,114,114],[114,114,114],[114,114,114],[114,114,114],[114,114,114],[114,114],[114],[114],[114,115],[115,114],[115,115],[97,114],[114,97],[64],[114,64],[102],[],[35]]
def AaC:List (Int×Int×Int×Bool):=[(1,0,0,true),(1,1,0,false),(1,1,1,false),(1,1,1,false),(1,1,1,false),(1,1,1,false),(1,1,1,false),(1,1,1,false),(1,1,1,false),(1,1,1,false),(1,1,1,false),(1,1,1,false),(1,1,0,false),(1,0,0,false),(1,0,0,false),(1,2,0,false),(2,1,0,false),(2,2,0,false),(4,1,0,false),(1,5,0,false),(6,0,0,false),(1,6,0,false),(3,0,0,false),(0,0,0,false),(0,0,0,true)]
def Mm (q:Int×Int×Int×Bool):List D:=[.int .i64 q.1,.int .i64 q.2.1,.int .i64 q.2.2.1,.bool q.2.2.2]
def CP:List (String×List D):=[("math/bits.deBruijn64tab",DS.map λn:Nat=>.int .u8 n),("internal/strconv.uint64pow10",(aAa 20).map λi=>.int .u64 (10 ^ i:Nat)),("spillframe/sirtext.names",SD.map .str),("spillframe/sirtext.forms",TI.map .str),("spillframe/sir.shapes",AaC.flatMap Mm)]
def IU (k:Nat):List D:=(CP.getD k ("",[])).2
def YC (n:Int):List UInt8:=(Utf8.encode n).data.toList
def EO:D->UInt8
 | .int _ n=>UInt8.ofNat n.toNat
 | _=>0
def view:D->R (Prop×List D)
 | .sl es=>.ret (True,es)
 | .nils=>.ret (True,[])
 | .osl g v i n=>.go g fun
  | some (v',o)=>.ret (v=v'/\o.var=false/\i+n<=o.es.length,(o.es.drop i).take n)
  | none=>.ret (False,[])
 | _=>.ret (False,[])
def AJ:D->R (Prop×D×List (Nat×Ac))
 | .osl g v i n=>.go g fun
  | some (v',o)=>.ret (v=v'/\o.var=false/\i+n<=o.es.length,.sl ((o.es.drop i).take n),[(g,some (v,{ o with fz:=true }))])
  | none=>.ret (False,.top,[])
 | .nils=>.ret (True,.sl [],[])
 | .clo f caps=>.ret (caps.all QT=true,.clo f caps,[])
 | .optr .. | .mref .. | .vsl .. | .when .. | .tup .. | .agg ..=>.ret (False,.top,[])
 | d=>.ret (True,d,[])
def AZ:List D->R (Prop×List D×List (Nat×Ac))
 | []=>.ret (True,[],[])
 | d::r=>do
  let(c,d',w)<-AJ d
  let(c',r',w')<-AZ r
  pure (c/\c',d'::r',w++w')
def Cf (r:Bool):List D->Bool
 | []=>true
 | .int .. ::l=>Cf r l
 | .bool .. ::l=>Cf r l
 | .str .. ::l=>Cf r l
 | .sl .. ::l=>Cf r l
 | .nils::l=>Cf r l
 | .row .. ::l=>r&&Cf r l
 | _=>false
def nzD:D->D
 | .nils=>.sl []
 | d=>d
def res:D->R (Prop×D×List (Nat×Ac))
 | .agg cs=>bif Cf true cs then .ret (True,.agg (cs.map nzD),[])else do
  let(c,cs',w)<-AZ cs
  pure (c,.agg cs',w)
 | d=>AJ d
def EV (r:Bool):D->R (Prop×D×List (Nat×Ac))
 | .row s ty es=>.ret (r=true,.row s ty es,[])
 | .hole ..=>.ret (False,.top,[])
 | d=>AJ d
def BR (r:Bool):List D->R (Prop×List D×List (Nat×Ac))
 | []=>.ret (True,[],[])
 | d::l=>do
  let(c,d',w)<-EV r d
  let(c',r',w')<-BR r l
  pure (c/\c',d'::r',w++w')
def pas (r:Bool):D->R (Prop×D×List (Nat×Ac))
 | .agg cs=>bif Cf r cs then .ret (True,.agg (cs.map nzD),[])else do
  let(c,cs',w)<-BR r cs
  pure (c,.agg cs',w)
 | d=>EV r d
def Bz (var:Bool):D->R (Prop×D×List (Nat×Ac))
 | .osl g v 0 n=>.go g fun
  | some (v',o) =>
   if o.fz then .ret (v=v'/\o.var=false/\n<=o.es.length,.sl (o.es.take n),[])
   else .ret (v=v'/\o.var=false/\n<=o.es.length/\(∀ e∈o.es,AD e=true),.row o.s o.ty (o.es.take n),[(g,none)])
  | none=>.ret (False,.top,[])
 | .osl .. | .vsl .. | .row .. | .hole .. | .when .. | .tup .. | .agg .. | .top=>.ret (False,.top,[])
 | .optr g v i off=>.ret (var=true,.optr g v i off,[])
 | .mref g v=>.ret (var=true,.mref g v,[])
 | .clo f caps=>.ret (var=true,.clo f caps,[])
 | d=>.ret (True,d,[])
def AY (var:Bool):List D->R (Prop×List D×List (Nat×Ac))
 | []=>.ret (True,[],[])
 | d::l=>do
  let(c,d',w)<-Bz var d
  let(c',r',w')<-AY var l
  pure (c/\c'/\w'.all (λx=>w.all λy=>x.1 != y.1)=true,d'::r',w++w')
def AL:List Arg->R (List D)
 | []=>.ret []
 | x::r=>do
  let d<-raw x
  let r'<-AL r
  pure (d::r')
def Qd (ds:List D):Prop:=∀ d∈ds,(strip d).1=true
def Bu (dst:Option Nat) (p:Prop) (r:Prop×D):Out:=⟨p/\r.1,Ad dst r.2,[]⟩
def Dq:List D->List (Nat×Nat×D)->List D
 | cs,[]=>cs
 | cs,(off,_,d)::r=>Dq (setAt cs off (cells d)) r
def DA:Nat->List (Nat×Nat×D)->Prop
 | _,[]=>True
 | n,(off,s,d)::r=>known d=true/\(cells d).length=s/\off+s<=n/\DA n r
def CC:List D->List (Nat×D)->List D
 | es,[]=>es
 | es,(i,d)::r=>CC (es.set i d) r
def BL:List (Nat×Nat×Arg)->R (List (Nat×Nat×D))
 | []=>.ret []
 | (o,s,x)::r=>do
  let d<-raw x
  let r'<-BL r
  pure ((o,s,d)::r')
def AX:List (Nat×Arg)->R (Prop×List (Nat×D)×List (Nat×Ac))
 | []=>.ret (True,[],[])
 | (i,x)::r=>do
  let d<-raw x
  let(c,d',w)<-res d
  let(c',r',w')<-AX r
  pure (c/\c',(i,d')::r',w++w')
def QS:D->R (Prop×D×Nat)
 | .optr g v i off=>.go g fun
  | some (v',o)=>.ret (v=v'/\i<o.es.length,o.es.getD i .top,off)
  | none=>.ret (False,.top,0)
 | .fptr e off=>.ret (True,e,off)
 | _=>.ret (False,.top,0)
def GZ:D->D
 | .nils=>.nils
 | d=>nrm d
def intOf:Prop×D->Prop×Int
 | (p,.int _ n)=>(p,n)
 | _=>(False,0)
def bound:Option D->Int->Prop×Int
 | none,n=>(True,n)
 | some (.int _ k),_=>(True,k)
 | some _,_=>(False,0)
def Bi:Option Arg->R (Option D)
 | none=>.ret none
 | some x=>do let d<-raw x;pure (some d)
def BF (d:D) (lo hi:Option D):Prop×D :=
 match d with
 | .sl es=>((bound lo 0).1/\(bound hi es.length).1/\0<=(bound lo 0).2/\(bound lo 0).2<=(bound hi es.length).2/\(bound hi es.length).2<=es.length,
   .sl ((es.drop (bound lo 0).2.toNat).take ((bound hi es.length).2.toNat-(bound lo 0).2.toNat)))
 | .osl g v i n=>((bound lo 0).1/\(bound hi n).1/\0<=(bound lo 0).2/\(bound lo 0).2<=(bound hi n).2/\(bound hi n).2<=n,
   .osl g v (i+(bound lo 0).2.toNat) ((bound hi n).2.toNat-(bound lo 0).2.toNat))
 | .str s=>((bound lo 0).1/\(bound hi s.length).1/\0<=(bound lo 0).2/\(bound lo 0).2<=(bound hi s.length).2/\(bound hi s.length).2<=s.length,
   .str ((s.drop (bound lo 0).2.toNat).take ((bound hi s.length).2.toNat-(bound lo 0).2.toNat)))
 | .nils=>((bound lo 0).1/\(bound hi 0).1/\(bound lo 0).2=0/\(bound hi 0).2=0,.nils)
 | _=>(False,.top)
def fits (s:Nat):D->R Prop
 | .sl es=>.ret (0<s/\∀ e∈es,(cells e).length=s)
 | .osl g v _ _=>.go g fun
  | some (v',o)=>.ret (0<s/\v=v'/\o.s=s)
  | none=>.ret False
 | .nils=>.ret (0<s)
 | .str _=>.ret (s=0)
 | _=>.ret False
def u8s (s:List UInt8):List D:=s.map λb=>.int .u8 b.toNat
def WT {α:Type} (es:List α) (i n:Nat) (new:List α):List α:=if i+n<=es.length then es.take i++(new.take n++es.drop (i+aBK n new.length))else es
@[simp] theorem JL {α:Type} (es:List α) (i n:Nat) (new:List α):(WT es i n new).length=es.length:=by
 unfold WT
 split
 ·simp only[aAm,aBC,List.length_drop]
  have h1:min n new.length=aBK n new.length:=rfl
  have h2:aBK n new.length<=n:=Nat.min_le_left _ _
  omega
 ·rfl
def source (d:D):R (Prop×List D):=view d
def target (s ty:Nat):D->R (Prop×List D×List (Nat×Ac)×Bool)
 | .nils=>.ret (True,[],[],false)
 | .osl g v i n=>.go g fun
  | some (v',o)=>.ret (v=v'/\i=0/\n<=o.es.length/\o.fz=false/\o.var=false/\o.s=s/\o.ty=ty,o.es.take n,[(g,none)],Ab g)
  | none=>.ret (False,[],[],false)
 | _=>.ret (False,[],[],false)
def Cw (s ty:Nat):D->R (Prop×D×List (Nat×Ac)×List (Nat×Nat×Own))
 | .optr g v i off=>.go g fun
  | some (v',o)=>do
   let(c,e',w)<-pas (Ab g) (o.es.getD 0 .top)
   pure ((v=v'/\i=0/\off=0/\o.fz=false/\o.var=true/\o.es.length=1/\o.s=s/\o.ty=ty)/\c,e',w,[(g,v,o)])
  | none=>.ret (False,.top,[],[])
 | _=>.ret (False,.top,[],[])
def AM (ptr:List (Nat×(Nat×Nat))) (j:Nat) (d:D):R (Prop×D×List (Nat×Ac)×List (Nat×Nat×Own)) :=
 match look ptr j with
 | some (s,ty)=>Cw s ty d
 | none=>do
  let(c,d',w)<-res d
  pure (c,d',w,[])
def Bf (ptr:List (Nat×(Nat×Nat))):Nat->List D->R (Prop×List D×List (Nat×Ac)×List (Nat×Nat×Own))
 | _,[]=>.ret (True,[],[],[])
 | j,d::r=>do
  let(c,d',w,ps)<-AM ptr j d
  let(c',r',w',ps')<-Bf ptr (j+1) r
  pure (c/\c'/\ps'.all (λx=>ps.all λy=>x.1 != y.1)=true,d'::r',w++w',ps++ps')
def BK (ptr:List (Nat×(Nat×Nat))) (j:Nat) (d:D):R (Prop×D×List (Nat×Ac)×List (Nat×Nat×Own)) :=
 match d with
 | .clo f caps =>
  match look ptr j with
  | some _=>.ret (False,.top,[],[])
  | none=>do
   let(c,caps',w,ps)<-Bf ptr (64*(j+1)) caps
   pure (c,.clo f caps',w,ps)
 | d=>AM ptr j d
def Ae (ptr:List (Nat×(Nat×Nat))):Nat->List D->R (Prop×List D×List (Nat×Ac)×List (Nat×Nat×Own))
 | _,[]=>.ret (True,[],[],[])
 | j,d::r=>do
  let(c,d',w,ps)<-BK ptr j d
  let(c',r',w',ps')<-Ae ptr (j+1) r
  pure (c/\c'/\ps'.all (λx=>ps.all λy=>x.1 != y.1)=true,d'::r',w++w',ps++ps')
def Ai:List (Nat×Nat×Own)->List D->List (Nat×Ac)
 | [],_=>[]
 | (g,v,o)::r,ds=>(g,some (v,{ o with es:=[ds.headD .top] }))::Ai r ds.tail
def AV:D->Bool
 | .int .. | .bool .. | .str ..=>true
 | _=>false
def DN (z:D) (n:Int):List D->D
 | .agg [.int _ k,u]::r=>if k=n then u else DN z n r
 | _::r=>DN z n r
 | []=>z
def DO (n:Int) (u:D):List D->List D
 | .agg [.int j k,u']::r=>if k=n then .agg [.int j k,u]::r else .agg [.int j k,u']::DO n u r
 | e::r=>e::DO n u r
 | []=>[.agg [.int .i64 n,u]]
def DM (n:Int):List D->List D
 | .agg [.int j k,u']::r=>if k=n then r else .agg [.int j k,u']::DM n r
 | e::r=>e::DM n r
 | []=>[]
def Dv (g v:Nat):R (Prop×Own):=.go g fun
 | some (v',o)=>.ret (v=v'/\o.s=0/\o.ty=0,o)
 | none=>.ret (False,⟨true,false,0,0,[]⟩)
def bAt (g v:Nat):R Prop:=.go g fun
 | some (v',o)=>.ret (v=v'/\o.fz=true/\o.s=0/\o.ty=2)
 | none=>.ret False
def Dh (g v:Nat):R (Prop×Own):=.go g fun
 | some (v',o)=>.ret (v=v'/\o.s=0/\o.ty=1,o)
 | none=>.ret (False,⟨true,false,0,1,[]⟩)
def Vm (s:List UInt8) (i:Nat):Nat×Nat:=Utf8.decode ⟨s.toArray⟩ i
def isGround:D->Bool
 | .agg cs=>cs.all AV
 | .tup ds=>ds.all AV
 | d=>AV d
def Bg (dst:Option Nat) (nv:Nat) (sp:Spec) (p:Prop) (ds:List D) (w:List (Nat×Ac)) (ps:List (Nat×Nat×Own)):Out :=
 match sp.kind with
 | .val=>⟨p/\sp.pre ds,Ad dst (sp.res ds),Ai ps (sp.eff ds)++w⟩
 | .ground=>⟨p/\sp.pre ds/\isGround (sp.res ds)=true/\sp.ptr=[],Ad dst (sp.res ds),[]⟩
 | .row s ty =>
  match sp.res ds with
  | .sl es=>⟨p/\sp.pre ds/\dst.isSome=true,Ad dst (.osl (dst.getD 0) nv 0 es.length),AH dst (some (nv,⟨false,false,s,ty,es⟩))++Ai ps (sp.eff ds)++w⟩
  | _=>⟨False,[],[]⟩
 | .mat s ty =>
  match sp.res ds with
  | .sl es=>⟨p/\sp.pre ds/\dst.isSome=true,Ad dst (.osl (nmR true (dst.getD 0)) nv 0 es.length),CH true dst (some (nv,⟨false,false,s,ty,es⟩))++Ai ps (sp.eff ds)++w⟩
  | _=>⟨False,[],[]⟩
 | .ptr s ty=>⟨p/\sp.pre ds/\dst.isSome=true,Ad dst (.optr (dst.getD 0) nv 0 0),AH dst (some (nv,⟨false,true,s,ty,[sp.res ds]⟩))++Ai ps (sp.eff ds)++w⟩
 | .tupPtr i s ty =>
  match sp.res ds with
  | .tup rs=>⟨p/\sp.pre ds/\dst.isSome=true,Ad dst (.tup (rs.set i (.optr (dst.getD 0) nv 0 0))),AH dst (some (nv,⟨false,true,s,ty,[rs.getD i .top]⟩))++Ai ps (sp.eff ds)++w⟩
  | _=>⟨False,[],[]⟩
 | .inpl ..=>⟨False,[],[]⟩
 | .opn _=>⟨False,[],[]⟩
def DD:D->Int
 | .int _ n=>n
 | _=>0
def CF (dst:Option Nat) (q:Bool×(List Int->List Int)×(List Int->Nat)):List D->R Out
 | [.nils]=>.ret ⟨True,Ad dst (if q.1 then .nils else .top),[]⟩
 | [.osl g v i n]=>.go g fun
  | some (v',o)=>.ret ⟨v=v'/\o.fz=false/\o.var=false/\o.s=1/\i+n<=o.es.length/\n<4611686018427387904/\(Ab g=true->∀ e∈o.es,AD e=true)/\(o.es.drop i).take n=(((o.es.drop i).take n).map DD).map (.int .i64),
    Ad dst (if q.1 then .osl g v i (q.2.2 (((o.es.drop i).take n).map DD))else .top),
    [(g,some (v,{ o with es:=if q.1 then(o.es.take i++(q.2.1 (((o.es.drop i).take n).map DD)).map (D.int .i64)++o.es.drop (i+n)).take (i+q.2.2 (((o.es.drop i).take n).map DD))else o.es.take i++(q.2.1 (((o.es.drop i).take n).map DD)).map (D.int .i64)++o.es.drop (i+n) }))]⟩
  | none=>.ret ⟨False,[],[]⟩
 | _=>.ret ⟨False,[],[]⟩
def AN:List D->Nat
 | []=>0
 | .clo f _::r=>AN r*4096+(f+1)
 | _::r=>AN r
def unb (args:List Arg) (k:Nat):Nat:=match args with
 | []=>bif aAY k 4096 then k else k-4096
 | _=>k
theorem Ow (q:Nat):unb [] (4096+q)=q:=by
 have h:aAY (4096+q) 4096=false:=by
  cases hb:aAY (4096+q) 4096 with
  | false=>rfl
  | true =>
   have:4096+q<4096:=by simpa[Nat.blt_eq]using hb
   omega
 simp only[unb,h,cond_false,aBG]
theorem Dc {args:List Arg} {k:Nat} (h:aAY k 4096=true):unb args k=k:=by
 cases args<;>simp[unb,h]
def evalOp (Γ:Ar) (nv:Nat) (dst:Option Nat):DOp->R Out
 | .mv x=>do pure ⟨True,Ad dst (<- raw x),[]⟩
 | .asg x sl=>do
  let d<-raw x
  match d,sl with
  | .nils,some (s,ty)=>pure ⟨True,Ad dst (.osl (dst.getD 0) nv 0 0),AH dst (some (nv,⟨false,false,s,ty,[]⟩))⟩
  | .osl g v 0 n,some _=>.go g fun
   | some (v',o) =>
    if o.fz then .ret ⟨v=v'/\o.var=false/\n<=o.es.length,Ad dst (.sl (o.es.take n)),[]⟩
    else if Ab g then .ret ⟨True,Ad dst (.osl g v 0 n),[]⟩
    else .ret ⟨v=v'/\o.var=false/\n<=o.es.length/\(Ab g=true->∀ e∈o.es,AD e=true),Ad dst (.osl (nmR (Ab g) (dst.getD 0)) nv 0 n),CH (Ab g) dst (some (nv,{ o with es:=o.es.take n }))++[(g,none)]⟩
   | none=>.ret ⟨False,[],[]⟩
  | d,_=>pure ⟨True,Ad dst d,[]⟩
 | .pick c a b=>do
  let(p,c)<-rdA c
  let(q,a)<-rdA a
  let(r,b)<-rdA b
  match c,a,b with
  | .bool c,.bool a,.bool b=>pure ⟨p=true/\(c=true->q=true)/\(c=false->r=true),Ad dst (.bool (if c then a else b)),[]⟩
  | _,_,_=>pure ⟨False,[],[]⟩
 | .new z s ty=>.ret ⟨True,Ad dst (.optr (dst.getD 0) nv 0 0),AH dst (some (nv,⟨false,true,s,ty,[z]⟩))⟩
 | .box x s ty=>do
  let(p,d)<-rdA x
  pure ⟨p=true/\known d=true/\(cells d).length=s,Ad dst (.optr (dst.getD 0) nv 0 0),AH dst (some (nv,⟨false,true,s,ty,[d]⟩))⟩
 | .bld z parts=>do
  let ps<-BL parts
  pure ⟨DA z.length ps,Ad dst (.agg (Dq z ps)),[]⟩
 | .bldS s ty z len parts=>do
  let(c,ps,w)<-AX parts
  pure ⟨c/\(∀ p∈ps,known p.2=true/\(cells p.2).length=s/\p.1<len),Ad dst (.osl (dst.getD 0) nv 0 len),AH dst (some (nv,⟨false,false,s,ty,CC (aAp len z) ps⟩))++w⟩
 | .ld n agg a=>do
  let(p,a)<-rdA a
  match a with
  | .optr g v i off=>.go g fun
   | some (v',o) =>
    match Ab g,QN (cells (o.es.getD i .top)) off n agg with
    | true,.row s ty es=>.ret ⟨p=true/\(v=v'/\i<o.es.length)/\off+n<=(cells (o.es.getD i .top)).length/\o.fz=false/\dst.isSome=true/\n=1/\agg=false/\g≠4096+dst.getD 0,
      Ad dst (.osl (4096+dst.getD 0) nv 0 es.length),
      [(4096+dst.getD 0,some (nv,⟨false,false,s,ty,es⟩)),(g,some (v,{ o with es:=o.es.set i (QG (o.es.getD i .top) off [.hole (4096+dst.getD 0) nv es.length]) }))]⟩
    | true,.hole nm u m=>.ret ⟨p=true/\(v=v'/\i<o.es.length)/\off+n<=(cells (o.es.getD i .top)).length/\o.fz=false/\n=1/\agg=false,Ad dst (.osl nm u 0 m),[]⟩
    | _,d=>.ret ⟨p=true/\(v=v'/\i<o.es.length)/\off+n<=(cells (o.es.getD i .top)).length,Ad dst d,[]⟩
   | none=>.ret ⟨p=true/\False/\off+n<=(cells D.top).length,Ad dst (QN (cells .top) 0 n agg),[]⟩
  | a=>do
   let(c,e,off)<-QS a
   pure ⟨p=true/\c/\off+n<=(cells e).length,Ad dst (QN (cells e) off n agg),[]⟩
 | .st n a x=>do
  let(p,a)<-rdA a
  let(q,d)<-rdA x
  match a with
  | .optr g v i off=>.go g fun
   | some (v',o) =>
    if Ab g then do
     let(c,cs',w)<-AY o.var (cells d)
     .ret ⟨p=true/\q=true/\c/\v=v'/\o.fz=false/\i<o.es.length/\known d=true/\(cells d).length=n/\off+n<=(cells (o.es.getD i .top)).length/\w.all (λx=>x.1 != g)=true,[],
      (g,some (v,{ o with es:=o.es.set i (QG (o.es.getD i .top) off cs') }))::w⟩
    else if o.var then
     .ret ⟨p=true/\q=true/\v=v'/\o.fz=false/\i<o.es.length/\known d=true/\(cells d).length=n/\off+n<=(cells (o.es.getD i .top)).length,[],
      [(g,some (v,{ o with es:=o.es.set i (QG (o.es.getD i .top) off (cells d)) }))]⟩
    else do
     let(c,d',w)<-res d
     pure ⟨p=true/\q=true/\c/\v=v'/\o.fz=false/\i<o.es.length/\known d'=true/\(cells d').length=n/\off+n<=(cells (o.es.getD i .top)).length/\w.all (λx=>x.1 != g)=true,[],
      (g,some (v,{ o with es:=o.es.set i (QG (o.es.getD i .top) off (cells d')) }))::w⟩
   | none=>.ret ⟨False,[],[]⟩
  | _=>.ret ⟨False,[],[]⟩
 | .nilck x=>do
  let(p,d)<-rdA x
  match d with
  | .optr .. | .fptr ..=>pure ⟨p=true,Ad dst d,[]⟩
  | .mref g v=>do
   let c<-bAt g v
   pure ⟨p=true/\c,Ad dst (.mref g v),[]⟩
  | _=>pure ⟨False,[],[]⟩
 | .bin op x y=>do
  let(p,x)<-rdA x
  let(q,y)<-rdA y
  pure (Bu dst (p=true/\q=true) (HV op x y))
 | .eqB neg x y=>do
  let(p,x)<-rdA x
  let(q,y)<-rdA y
  match x,y with
  | .bool a,.bool b=>pure ⟨p=true/\q=true,Ad dst (.bool (if neg then !(a==b)else(a==b))),[]⟩
  | _,_=>pure ⟨False,[],[]⟩
 | .eqA n neg x y=>do
  let(p,x)<-rdA x
  let(q,y)<-rdA y
  match x,y with
  | .agg a,.agg b=>pure ⟨p=true/\q=true/\(eqL a b).1/\a.length=n,Ad dst (.bool (if neg then !(eqL a b).2 else(eqL a b).2)),[]⟩
  | _,_=>pure ⟨False,[],[]⟩
 | .un op x=>do
  let(p,x)<-rdA x
  pure (Bu dst (p=true) (unD op x))
 | .i2s x=>do
  let(p,d)<-rdA x
  match d with
  | .int _ n=>pure ⟨p=true,Ad dst (.str (YC n)),[]⟩
  | _=>pure ⟨False,[],[]⟩
 | .b2s x=>do
  let(p,d)<-rdA x
  let(c,es)<-view d
  pure ⟨p=true/\c/\(∀ e∈es,∃ n,e= .int .u8 n),Ad dst (.str (es.map EO)),[]⟩
 | .cvt k x=>do
  let(p,x)<-rdA x
  match x with
  | .int _ n=>pure ⟨p=true,Ad dst (.int k (k.wrap n)),[]⟩
  | _=>pure ⟨False,[],[]⟩
 | .mkS s ty bytes z len cap=>do
  let(p,l)<-rdA len
  let(q,c)<-rdA cap
  match l,c with
  | .int _ l,.int _ c=>pure ⟨p=true/\q=true/\0<=l/\l<=c/\c<=16777216/\bytes<=65536,Ad dst (.osl (dst.getD 0) nv 0 l.toNat),AH dst (some (nv,⟨false,false,s,ty,aAp l.toNat z⟩))⟩
  | _,_=>pure ⟨False,[],[]⟩
 | .slc s x lo hi=>do
  let(p,d)<-rdA x
  let lo<-Bi lo
  let hi<-Bi hi
  let c<-fits s d
  pure (Bu dst (p=true/\c) (BF d lo hi))
 | .fldA off x=>do
  let(p,d)<-rdA x
  match d with
  | .optr g v i o=>pure ⟨p=true,Ad dst (.optr g v i (o+off)),[]⟩
  | .fptr e o=>pure ⟨p=true,Ad dst (.fptr e (o+off)),[]⟩
  | .mref g v=>do
   let c<-bAt g v
   pure ⟨p=true/\off=0/\c,Ad dst (.mref g v),[]⟩
  | _=>pure ⟨False,[],[]⟩
 | .fld off n agg x=>do
  let(p,d)<-rdA x
  match d with
  | .agg cs=>pure ⟨p=true/\off+n<=cs.length,Ad dst (QN cs off n agg),[]⟩
  | _=>pure ⟨False,[],[]⟩
 | .ixA s x i=>do
  let(p,d)<-rdA x
  let(q,j)<-rdA i
  match d,j with
  | .osl g v i n,.int _ j=>.go g fun
   | some (v',o)=>.ret ⟨p=true/\q=true/\v=v'/\o.var=false/\o.s=s/\0<=j/\j<n,Ad dst (.optr g v (i+j.toNat) 0),[]⟩
   | none=>.ret ⟨False,[],[]⟩
  | .sl es,.int _ j=>pure ⟨p=true/\q=true/\0<=j/\j<es.length/\(cells (es.getD j.toNat .top)).length=s,Ad dst (.fptr (es.getD j.toNat .top) 0),[]⟩
  | .vsl g v n,.int _ j=>pure ⟨p=true/\q=true/\0<=j/\j<n/\s=1,Ad dst (.optr g v 0 j.toNat),[]⟩
  | _,_=>pure ⟨False,[],[]⟩
 | .ixP s len x i=>do
  let(p,d)<-rdA x
  let(q,j)<-rdA i
  match d,j with
  | .optr g v i o,.int _ j=>pure ⟨p=true/\q=true/\0<=j/\j<len,Ad dst (.optr g v i (o+j.toNat*s)),[]⟩
  | .fptr e o,.int _ j=>pure ⟨p=true/\q=true/\0<=j/\j<len,Ad dst (.fptr e (o+j.toNat*s)),[]⟩
  | _,_=>pure ⟨False,[],[]⟩
 | .ixG k n s i=>do
  let(q,j)<-rdA i
  match j with
  | .int _ j=>pure ⟨q=true/\0<=j/\j<n/\∃ k sp,Γ k=some sp,Ad dst (.fptr (.agg (IU k)) (j.toNat*s)),[]⟩
  | _=>pure ⟨False,[],[]⟩
 | .ix s len agg x i=>do
  let(p,d)<-rdA x
  let(q,j)<-rdA i
  match d,j with
  | .agg cs,.int _ j=>pure ⟨p=true/\q=true/\0<=j/\j<len/\len*s<=cs.length,Ad dst (QN cs (j.toNat*s) s agg),[]⟩
  | _,_=>pure ⟨False,[],[]⟩
 | .ixStr x i=>do
  let(p,d)<-rdA x
  let(q,j)<-rdA i
  match d,j with
  | .str s,.int _ j=>pure ⟨p=true/\q=true/\0<=j/\j<s.length,Ad dst (.int .u8 (s.getD j.toNat 0).toNat),[]⟩
  | _,_=>pure ⟨False,[],[]⟩
 | .ext x i=>do
  let(p,d)<-rdA x
  match d with
  | .tup ds=>pure ⟨p=true/\i<ds.length,Ad dst (ds.getD i .top),[]⟩
  | _=>pure ⟨False,[],[]⟩
 | .call f args=>do
  let fd<-raw f
  match fd with
  | .clo k caps=>do
   let ds<-AL args
   match aAY (unb args k) 4096,Γ (unb args k+4096*AN ds)with
   | true,some sp =>
    match Cc sp.kind with
    | none=>do
     let(c,ds',w,ps)<-Ae sp.ptr 0 (ds++caps)
     pure (Bg dst nv sp c ds' w ps)
    | some q=>CF dst q (ds++caps)
   | _,_=>.ret ⟨False,[],[]⟩
  | _=>.ret ⟨False,[],[]⟩
 | .len str x=>do
  let(p,d)<-rdA x
  match d with
  | .sl es=>pure ⟨p=true/\str=false,Ad dst (.int .i64 es.length),[]⟩
  | .osl _ _ _ n=>pure ⟨p=true/\str=false,Ad dst (.int .i64 n),[]⟩
  | .vsl _ _ n=>pure ⟨p=true/\str=false,Ad dst (.int .i64 n),[]⟩
  | .nils=>pure ⟨p=true/\str=false,Ad dst (.int .i64 0),[]⟩
  | .str s=>pure ⟨p=true/\str=true,Ad dst (.int .i64 s.length),[]⟩
  | _=>pure ⟨False,[],[]⟩
 | .app s ty bytes x y=>do
  let(p,x)<-rdA x
  let(q,y)<-rdA y
  let(c,new)<-source y
  let(c',old,w,r)<-target s ty x
  pure ⟨p=true/\q=true/\c/\c'/\old.length+new.length<=16777216/\bytes<=65536/\(∀ e∈new,(cells e).length=s)/\(r=true->∀ e∈old++new,AD e=true),
   Ad dst (.osl (nmR r (dst.getD 0)) nv 0 (old.length+new.length)),CH r dst (some (nv,⟨false,false,s,ty,old++new⟩))++w⟩
 | .cpy x y=>do
  let(p,x)<-rdA x
  let(q,y)<-rdA y
  let(c,new)<-source y
  match x with
  | .osl g v i n=>.go g fun
   | some (v',o)=>.ret ⟨p=true/\q=true/\c/\v=v'/\o.fz=false/\o.var=false/\o.s=1/\i+n<=o.es.length/\(∀ e∈new,(cells e).length=1)/\(Ab g=true->∀ e∈o.es++new,AD e=true),
     Ad dst (.int .i64 (aBK n new.length:Nat)),[(g,some (v,{ o with es:=WT o.es i n new }))]⟩
   | none=>.ret ⟨False,[],[]⟩
  | _=>.ret ⟨False,[],[]⟩
 | .max xs=>do
  let ds<-AL xs
  match ds with
  | [x,y]=>pure (Bu dst ((strip x).1=true/\(strip y).1=true) (HZ TR (strip x).2 (strip y).2))
  | _=>pure ⟨False,[],[]⟩
 | .min xs=>do
  let ds<-AL xs
  match ds with
  | [x,y]=>pure (Bu dst ((strip x).1=true/\(strip y).1=true) (HZ WW (strip x).2 (strip y).2))
  | _=>pure ⟨False,[],[]⟩
 | .mkf f caps=>do
  let ds<-AL caps
  pure ⟨∀ d∈ds,Ig d=true,Ad dst (.clo f ds),[]⟩
 | .mkm=>pure ⟨False,[],[]⟩
 | .mkb ..=>pure ⟨False,[],[]⟩
 | .mkx ..=>pure ⟨False,[],[]⟩
 | .mkI t x=>do
  let(p,d)<-rdA x
  pure ⟨p=true/\AV d=true,Ad dst (.ifc t d),[]⟩
 | .tas t z x=>do
  let(p,d)<-rdA x
  match d with
  | .ifc t' d'=>pure ⟨p=true,Ad dst (.tup (bif aAl t' t then[d',.bool true]else[z,.bool false])),[]⟩
  | _=>pure ⟨False,[],[]⟩
 | .fail=>.ret ⟨False,[],[]⟩
 | .bldV ty len parts=>do
  let ps<-BL parts
  pure ⟨DA len ps/\0<len,Ad dst (.vsl (dst.getD 0) nv len),AH dst (some (nv,⟨false,true,len,ty,[.agg (Dq (aAp len .nilf) ps)]⟩))⟩
 | .mget z x i=>do
  let(p,d)<-rdA x
  let(q,j)<-rdA i
  match d,j with
  | .mref g v,.int .i64 n=>do
   let(c,o)<-Dv g v
   pure ⟨p=true/\q=true/\c,Ad dst (DN z n o.es),[]⟩
  | _,_=>pure ⟨False,[],[]⟩
 | .mset x i y=>do
  let(p,d)<-rdA x
  let(q,j)<-rdA i
  let(r,u)<-rdA y
  match d,j with
  | .mref g v,.int .i64 n=>do
   let(c,o)<-Dv g v
   pure ⟨p=true/\q=true/\r=true/\AV u=true/\c,[],[(g,some (v,{ o with es:=DO n u o.es }))]⟩
  | _,_=>pure ⟨False,[],[]⟩
 | .mdel x i=>do
  let(p,d)<-rdA x
  let(q,j)<-rdA i
  match d,j with
  | .mref g v,.int .i64 n=>do
   let(c,o)<-Dv g v
   pure ⟨p=true/\q=true/\c,Ad dst (.tup []),[(g,some (v,{ o with es:=DM n o.es }))]⟩
  | _,_=>pure ⟨False,[],[]⟩
 | .rng _=>pure ⟨False,[],[]⟩
 | .nxt x=>do
  let(p,d)<-rdA x
  match d with
  | .mref g v=>do
   let(c,o)<-Dh g v
   match o.es with
   | [.str s,.int .i64 (.ofNat q)] =>
    if q<s.length then pure ⟨p=true/\c,Ad dst (.tup [.bool true,.int .i64 q,.int .i32 (Vm s q).1]),[(g,some (v,{ o with es:=[.str s,.int .i64 (.ofNat (q+(Vm s q).2))] }))]⟩
    else pure ⟨p=true/\c,Ad dst (.tup [.bool false]),[]⟩
   | _=>pure ⟨False,[],[]⟩
  | _=>pure ⟨False,[],[]⟩
def guardOf:D->Bool->Prop×Bool
 | .bool b,want=>(True,b==want)
 | .when p (.bool b),want=>(True,p&&(b==want))
 | _,_=>(False,false)
def At (Γ:Ar) (nv:Nat) (o:As):R Out :=
 match o.guard with
 | none=>evalOp Γ nv o.dst o.op
 | some (t,want)=>.ge t λd =>
  if(guardOf d want).2 then do
   let u<-evalOp Γ nv o.dst o.op
   pure ⟨(guardOf d want).1/\u.c,u.we,u.wo⟩
  else .ret ⟨(guardOf d want).1,Ad o.dst (.when false (.bool false)),[]⟩
def wpOps (Γ:Ar):List As->Nat->S->(S->Prop)->Prop
 | [],_,σ,K=>K σ
 | o::r,nv,σ,K=>((At Γ nv o).run σ).c/\wpOps Γ r (nv+1) (σ.app ((At Γ nv o).run σ)) K
def CZ (Γ:Ar):List As->Nat->S->List (List Key×List Key×List Nat)
 | [],_,_=>[]
 | o::r,nv,σ=>((At Γ nv o).rd σ,((At Γ nv o).run σ).we.map (λx=>.e x.1)++((At Γ nv o).run σ).wo.map (λx=>.o x.1),o.after)::CZ Γ r (nv+1) (σ.app ((At Γ nv o).run σ))
def meet (a b:List Key):Bool:=a.any λk=>b.contains k
def AaR (x y:List Key×List Key×List Nat):Bool:=meet x.2.1 y.1||meet x.2.1 y.2.1||meet x.1 y.2.1
def MB:List (List Nat)->List (List Nat)->List (List Nat)
 | acc,[]=>acc
 | acc,a::r=>MB (acc++[(a++a.flatMap λe=>acc.getD e []).eraseDups]) r
def JZ (A:List (List Nat)) (f:List (List Key×List Key×List Nat)):Bool :=
 (aAa f.length).all λj=>(aAa j).all λi =>
  !AaR (f.getD i ([],[],[])) (f.getD j ([],[],[]))||(A.getD j []).contains i
def EB (f:List (List Key×List Key×List Nat)):Bool:=JZ (MB [] (f.map λx=>x.2.2)) f
inductive Ru where
 | skip
 | reg (ops:List As) (draw:Bool)
 | seq (a b:Ru)
 | cond (c:Arg) (a b:Ru)
 | block (id:Nat) (b:Ru)
 | loop (b:Ru)
 | exit (id:Nat)
 | ret
def Dp (σ:S):Arg->D
 | .t n=>σ.ge n
 | .c d=>d
theorem BB:∀ l:List D,DZ l=l.map nrm
 | []=>rfl
 | d::r=>by simp[DZ,BB r]
theorem CQ (e:D):cells (nrm e)=DZ (cells e):=by
 cases e<;>simp[nrm,cells,DZ]
def Aq (σ:S) (ws:List (Nat×Ac)):Prop:=∀ p∈ws,∃ v o,σ.go p.1=some (v,o)/\o.var=false/\p.2=some (v,{ o with fz:=true })
def Dm (σ:S) (ws:List (Nat×Ac)) (c c':D):Prop:=c=c'\/(((AJ c).run σ).1/\((AJ c).run σ).2.1=c'/\∀ p∈((AJ c).run σ).2.2,p∈ws)
def Et (σ:S) (ws:List (Nat×Ac)):List D->List D->Prop
 | [],[]=>True
 | c::r,c'::r'=>Dm σ ws c c'/\Et σ ws r r'
 | _,_=>False
def Conv (σ:S) (ws:List (Nat×Ac)) (d d':D):Prop:=Dm σ ws d d'\/∃ cs cs',d= .agg cs/\d'= .agg cs'/\Et σ ws cs cs'
def S.gof (σ:S) (ws:List (Nat×Ac)) (g:Nat):Ac:=(S.mk σ.e (ws++σ.o) σ.n).go g
structure MA (ws:List (Nat×Ac)) (σ τ:S):Prop where
 fz:Aq σ ws
 e:∀ p∈τ.e,Conv σ ws (σ.ge p.1) p.2
 o:∀ p∈τ.o,σ.gof ws p.1=p.2\/∃ v o z z',σ.gof ws p.1=some (v,o)/\o.var=true/\o.es=[z]/\p.2=some (v,{ o with es:=[z'] })/\Conv σ ws z z'
 n:σ.n<=τ.n
mutual
def ren (g g':Nat):D->D
 | .osl k v i n=>.osl (bif aAl k g then g' else k) v i n
 | .optr k v i off=>.optr (bif aAl k g then g' else k) v i off
 | .mref k v=>.mref (bif aAl k g then g' else k) v
 | .vsl k v n=>.vsl (bif aAl k g then g' else k) v n
 | .agg cs=>.agg (Ha g g' cs)
 | .clo f cs=>.clo f (Ha g g' cs)
 | .tup cs=>.tup (Ha g g' cs)
 | d=>d
def Ha (g g':Nat):List D->List D
 | []=>[]
 | d::r=>ren g g' d::Ha g g' r
end
mutual
def rnm (rn:Nat->Nat):D->D
 | .osl k v i n=>.osl (rn k) v i n
 | .optr k v i off=>.optr (rn k) v i off
 | .mref k v=>.mref (rn k) v
 | .vsl k v n=>.vsl (rn k) v n
 | .agg cs=>.agg (He rn cs)
 | .clo f cs=>.clo f (He rn cs)
 | .tup cs=>.tup (He rn cs)
 | d=>d
def He (rn:Nat->Nat):List D->List D
 | []=>[]
 | d::r=>rnm rn d::He rn r
end
def rnO (rn:Nat->Nat):Ac->Ac
 | some (u,o)=>some (u,{ o with es:=bif o.var then o.es.map (rnm rn)else o.es })
 | none=>none
def DV (rn:Nat->Nat) (ks:List Nat):Bool:=ks.all λk=>(Ab (rn k)==Ab k)&&ks.all λk'=>!(aAl (rn k) (rn k'))||aAl k k'
mutual
def frp (g v:Nat) (z:D):D->D
 | .optr k u i off=>bif aAl k g&&aAl u v&&aAl i 0 then .fptr z off else .optr k u i off
 | .agg cs=>.agg (GP g v z cs)
 | .clo f cs=>.clo f (GP g v z cs)
 | .tup cs=>.tup (GP g v z cs)
 | d=>d
def GP (g v:Nat) (z:D):List D->List D
 | []=>[]
 | d::r=>frp g v z d::GP g v z r
end
def frO (g v:Nat) (z:D):Ac->Ac
 | some (u,o)=>some (u,{ o with es:=bif o.var then o.es.map (frp g v z)else o.es })
 | none=>none
def Enr (r:Bool) (e e':D):Prop:=(cells e').length=(cells e).length/\∀ (j:Nat) c c',(cells e)[j]? =some c->(cells e')[j]? =some c'->(c'=c/\(r=true\/plain c=true))\/(c= .nils/\∃ s ty,0<s/\c'= .row s ty [])
def Frr (e e':D):Prop:=(cells e').length=(cells e).length/\∀ (j:Nat) c c',(cells e)[j]? =some c->(cells e')[j]? =some c'->c'=c\/∃ s ty es,c= .row s ty es/\(∀ q∈es,AD q=true)/\c'= .sl es
def Each (R:D->D->Prop) (l l':List D):Prop:=l'.length=l.length/\∀ (i:Nat) e e',l[i]? =some e->l'[i]? =some e'->R e e'
inductive Rw (σ:S):S->Prop
 | close (g v i off g' v' m:Nat) (og o':Own) (c:D) (hg:σ.go g=some (v,og)) (hr:Ab g=true) (hfz:og.fz=false) (hi:i<og.es.length) (hc:(cells (og.es.getD i .top))[off]? =some c)
   (hh:c= .hole g' v' m\/(c= .osl g' v' 0 m/\og.var=true)) (hg':σ.go g'=some (v',o')) (hfz':o'.fz=false) (hvar:o'.var=false) (hm:m<=o'.es.length) (hp:(Ab g'=true/\∀ e∈o'.es,∀ c∈cells e,∀ nm u n,c≠ .hole nm u n)\/∀ e∈o'.es,AD e=true) (hne:g≠g') :
   Rw σ ⟨σ.e,(g,some (v,{ og with es:=og.es.set i (QG (og.es.getD i .top) off [.row o'.s o'.ty (o'.es.take m)]) }))::(g',none)::σ.o,σ.n⟩
 | enrich (g g2 v:Nat) (o:Own) (es':List D) (hg:σ.go g=some (v,o)) (hfz:o.fz=false) (hn:(g2=g/\Ab g=true)\/(Ab g=false/\g2=4096+g)) (he:Each (Enr (Ab g)) o.es es') :
   Rw σ ⟨σ.e.map (λp=>(p.1,ren g g2 p.2)),(g2,some (v,{ o with es:=es' }))::(g,bif aAl g g2 then some (v,{ o with es:=es' })else none)::σ.o,σ.n⟩
 | frows (g v:Nat) (o:Own) (es':List D) (hg:σ.go g=some (v,o)) (hr:Ab g=true) (hfz:o.fz=false) (he:Each Frr o.es es') :
   Rw σ ⟨σ.e,(g,some (v,{ o with es:=es' }))::σ.o,σ.n⟩
 | nilsl (g v:Nat) (o:Own) (hg:σ.go g=some (v,o)) (hr:Ab g=false) (hfz:o.fz=false) (hvar:o.var=false) :
   Rw σ ⟨σ.e,(g,some (v,{ o with es:=o.es.map nrm }))::σ.o,σ.n⟩
 | fvar (g v:Nat) (o:Own) (z:D) (hg:σ.go g=some (v,o)) (hfz:o.fz=false) (hvar:o.var=true) (hz:o.es=[z]) (hc:(cells z).all QT=true) :
   Rw σ ⟨σ.e.map (λp=>(p.1,frp g v z p.2)),(g,none)::σ.o.map (λp=>(p.1,frO g v z p.2)),σ.n⟩
 | nams (rn:Nat->Nat) (hn:DV rn (σ.o.map Prod.fst)=true):Rw σ ⟨σ.e.map (λp=>(p.1,rnm rn p.2)),σ.o.map (λp=>(rn p.1,rnO rn p.2)),σ.n⟩
 | opn (g v i off t s ty:Nat) (es:List D) (o:Own) (hg:σ.go g=some (v,o)) (hr:Ab g=true) (hfz:o.fz=false) (hvar:o.var=true) (hi:i<o.es.length) (hrow:(cells (o.es.getD i .top))[off]? =some (.row s ty es)) (hne:g≠4096+t) :
   Rw σ ⟨σ.e,(4096+t,some (σ.n,⟨false,false,s,ty,es⟩))::(g,some (v,{ o with es:=o.es.set i (QG (o.es.getD i .top) off [.osl (4096+t) σ.n 0 es.length]) }))::σ.o,σ.n+1⟩
 | opnr (g v i off t s ty:Nat) (es:List D) (o:Own) (hg:σ.go g=some (v,o)) (hr:Ab g=true) (hfz:o.fz=false) (hvar:o.var=false) (hi:i<o.es.length) (hrow:(cells (o.es.getD i .top))[off]? =some (.row s ty es)) (hne:g≠4096+t) :
   Rw σ ⟨σ.e,(4096+t,some (σ.n,⟨false,false,s,ty,es⟩))::(g,some (v,{ o with es:=o.es.set i (QG (o.es.getD i .top) off [.hole (4096+t) σ.n es.length]) }))::σ.o,σ.n+1⟩
 | nilv (g v i off t s ty:Nat) (o:Own) (hg:σ.go g=some (v,o)) (hr:Ab g=false) (hfz:o.fz=false) (hvar:o.var=true) (hi:i<o.es.length) (hc:(cells (o.es.getD i .top))[off]? =some .nils) (hs:0<s) (hne:g≠t) :
   Rw σ ⟨σ.e,(g,some (v,{ o with es:=o.es.set i (QG (o.es.getD i .top) off [.osl t σ.n 0 0]) }))::(t,some (σ.n,⟨false,false,s,ty,[]⟩))::σ.o,σ.n+1⟩
 | shrink (gw vw i off g v k:Nat) (ow o:Own) (hgw:σ.go gw=some (vw,ow)) (hrw:Ab gw=false) (hfzw:ow.fz=false) (hvarw:ow.var=true) (hi:i<ow.es.length) (hc:(cells (ow.es.getD i .top))[off]? =some (.osl g v 0 k))
   (hg:σ.go g=some (v,o)) (hr:Ab g=false) (hfz:o.fz=false) (hvar:o.var=false) (hk:k<=o.es.length) (hne:gw≠g) :
   Rw σ ⟨σ.e,(gw,some (vw,{ ow with es:=ow.es.set i (QG (ow.es.getD i .top) off [.osl g v 0 (o.es.take k).length]) }))::(g,some (v,{ o with es:=o.es.take k }))::σ.o,σ.n⟩
inductive Chg:S->S->Prop
 | refl (σ:S):Chg σ σ
 | DF {σ τ υ:S} (ws:List (Nat×Ac)) (h:MA ws σ τ) (k:Chg τ υ):Chg σ υ
 | rw{σ τ υ:S} (h:Rw σ τ) (k:Chg τ υ):Chg σ υ
theorem Chg.n {σ τ:S} (h:Chg σ τ):σ.n<=τ.n:=by
 induction h with
 | refl=>exact aAU _
 | DF ws h _ ih=>exact aAO h.n ih
 | rw h _ ih=>cases h<;>first|exact ih|exact aAO (Nat.le_succ _) ih
theorem Chg.trans {σ τ υ:S} (h:Chg σ τ) (k:Chg τ υ):Chg σ υ:=by
 induction h with
 | refl=>exact k
 | DF ws h _ ih=>exact .DF ws h (ih k)
 | rw h _ ih=>exact .rw h (ih k)
def Wk (f:S->Prop):S->Prop:=λσ=>∃ τ,Chg σ τ/\f τ
def Qc (σ τ:S):Prop:=(∀ p∈τ.e,σ.ge p.1=p.2)/\(∀ p∈τ.o,σ.go p.1=p.2)/\σ.n<=τ.n
inductive Ax where
 | normal
 | exit (id:Nat)
 | ret
def Ax.then (next:S->Prop) (Q:Ax->S->Prop):Ax->S->Prop
 | .normal,σ=>next σ
 | e,σ=>Q e σ
def Ax.inBlock (id:Nat) (Q:Ax->S->Prop):Ax->S->Prop
 | .exit id',σ=>if id'=id then Wk (Q .normal) σ else Q (.exit id') σ
 | e,σ=>Q e σ
def onG (g:Option (Nat×Bool)) (σ:S):Prop:=match g with|none=>True|some (t,want)=>(guardOf (σ.ge t) want).1/\(guardOf (σ.ge t) want).2=true
def HU (Γ:Ar) (o:As) (σ:S) (K:S->Prop):Prop :=
 onG o.guard σ/\∃ fa args f caps sp φ,∃ K0:S->Prop,(∀ τ,K0 τ->K τ)/\o.op= .call fa args/\(raw fa).run σ= .clo f caps/\aAY f 4096=true/\Γ (f+4096*AN ((AL args).run σ))=some sp/\Ej sp.kind=some φ/\((AL args).run σ).all (λd=>(match d with| .when ..=>false|_=>true))=true /\
  φ ((AL args).run σ++caps) σ (λd τ=>K0 ⟨Ad o.dst d++τ.e,τ.o,τ.n⟩)
def PD (σ:S) (ty:Nat) (es:List D):DOp->Prop
 | .mkm=>ty=0/\es=[]
 | .mkb t u=>ty=2/\es=[.str [],.int .i64 (.ofNat t),.int .i64 (.ofNat u)]
 | .mkx t u x=>(rdA x).run σ=(true,.agg [.nilp,.nils])/\ty=2/\es=[.str [],.int .i64 (.ofNat t),.int .i64 (.ofNat u)]
 | .rng x=>∃ s,(rdA x).run σ=(true,.str s)/\ty=1/\es=[.str s,.int .i64 (.ofNat 0)]
 | _=>False
def Lj (o:As) (σ:S) (K:S->Prop):Prop:=o.guard=none/\∃ t,o.dst=some t/\∃ ty es,PD σ ty es o.op /\
 K ⟨(t,.mref t σ.n)::σ.e,(t,some (σ.n,⟨true,false,0,ty,es⟩))::σ.o,σ.n+1⟩
def wpS (Γ:Ar):List As->Nat->S->(S->Prop)->Prop
 | [],nv,σ,K=>K { σ with n:=nv }
 | o::r,nv,σ,K=>(((At Γ nv o).run σ).c/\wpS Γ r (nv+1) (σ.app ((At Γ nv o).run σ)) K)\/Wk (λσ=>HU Γ o σ (Wk (λτ=>wpS Γ r τ.n τ K))) { σ with n:=nv }\/Wk (λσ=>Lj o σ (Wk (λτ=>wpS Γ r τ.n τ K))) { σ with n:=nv }
def DWp (Γ:Ar):Ru->(Ax->S->Prop)->S->Prop
 | .skip,Q,σ=>Q .normal σ
 | .reg ops draw,Q,σ=>Wk (λσ=>if draw then wpOps Γ ops σ.n σ (λτ=>Q .normal { τ with n:=σ.n+ops.length })/\EB (CZ Γ ops σ.n σ)=true else wpS Γ ops σ.n σ (Q .normal)) σ
 | .seq a b,Q,σ=>DWp Γ a (Ax.then (Wk (DWp Γ b Q)) Q) σ
 | .cond c a b,Q,σ =>
  match Dp σ c with
  | .bool t=>(t=true->DWp Γ a Q σ)/\(t=false->DWp Γ b Q σ)
  | _=>False
 | .block id b,Q,σ=>DWp Γ b (Ax.inBlock id Q) σ
 | .loop b,Q,σ=>∃ (ι:Type) (St:ι->S) (μ:ι->Nat) (i₀:ι),Chg σ (St i₀) /\
   ∀ i,DWp Γ b (Ax.then (λτ=>∃ i',μ i'<μ i/\Chg τ (St i')) Q) (St i)
 | .exit id,Q,σ=>Q (.exit id) σ
 | .ret,Q,σ=>Q .ret σ
def DT:Value->D
 | .int k n=>.int k n
 | .bool b=>.bool b
 | .string s=>.str s.data.toList
 | .slice none 0 0=>.nils
 | .nilFunc=>.nilf
 | .pointer none=>.nilp
 | _=>.top
def Bp:Value->D
 | .agg cs=>.agg (cs.toList.map DT)
 | v=>DT v
def BC:Value->Bool
 | .agg cs=>cs.toList.all Value.oneCell'
 | v=>v.oneCell'
def Ak:Operand->Option Arg
 | .tmp t=>some (.t t)
 | .const v=>if BC v then some (.c (Bp v))else none
 | .func f=>if f<4096 then some (.c (.clo f []))else none
 | .global _=>none
def OT:D->Bool
 | .nilf=>true
 | _=>false
def CX (l:List Operand):Option (List Arg):=l.mapM Ak
section
variable (P:Program)
def Kf (g:Nat):Option Nat:=(aAa CP.length).find? λk=>(CP.getD k ("",[])).1 ≠ "" /\ P.globalNamed (CP.getD k ("",[])).1=some g
def Cq (t:TypeId):Bool:=match P.underlying t with|some (.struct _)|some (.array _ _)=>true|_=>false
def Ch (t:TypeId):Option D:=do
 let z<-(<- P.info? t).zero
 if BC z&&z.cells.size==P.cellsOf t then some (Bp z)else none
def OA (e:TypeId):Option TypeId :=
 match P.underlying e with
 | some (.struct fs)=>do
  match P.underlying (<- fs[1]?).type with
  | some (.slice u)=>match P.underlying u with
   | some (.int .u8)=>some u
   | _=>none
  | _=>none
 | _=>none
def KP (e:TypeId):Option TypeId:=do
 let z<-(<- P.info? e).zero
 match z.cells.toList with
 | [.pointer none,.slice none 0 0] =>
  match OA P e,P.underlying e with
  | some u,_=>some u
  | none,some (.struct fs)=>do OA P (<- fs[0]?).type
  | none,_=>none
 | _=>none
def CY (places:Nat->Option (Nat×Nat)):List (Nat×Operand)->Option (List (Nat×Nat×Arg))
 | []=>some []
 | (i,x)::r=>do
  let(o,s)<-places i
  let a<-Ak x
  let r'<-CY places r
  some ((o,s,a)::r')
def Ev:List (Nat×Operand)->Option (List (Nat×Arg))
 | []=>some []
 | (i,x)::r=>do
  let a<-Ak x
  let r'<-Ev r
  some ((i,a)::r')
def GS (t:TypeId):Bool:=P.cellsOf t==1&&(match P.underlying t with|some (.int _)=>true|_=>false)
def EE (t:TypeId):Option Nat :=
 match P.underlying t with
 | some (.array n e)=>if(P.info? e).isSome&&GS P e&& !P.eqGuardType P.depth t then some n else none
 | some (.struct fs)=>if !P.stoodInHeld t&& !P.eqGuardType P.depth t&&(aAa fs.size).all (λi=>match fs[i]? with|some f=>f.name != "_" && f.offset==i&&GS P f.type|none=>false)then some fs.size else none
 | _=>none
def Fx:Option Operand->Option (Option Arg)
 | none=>some none
 | some x=>do some (some (<- Ak x))
def EU (t:TypeId):Option D :=
 match P.underlying t with
 | some (.map k e) =>
  match P.underlying k,P.underlying e,Ch P e with
  | some (.int .i64),some _,some z=>if P.cellsOf e=1/\AV z=true then some z else none
  | _,_,_=>none
 | _=>none
def Ho (c:Call):Option DOp :=
 match c.callee,c.args.toList,c.argTypes.toList with
 | .value f,as,_=>do some (.call (<- Ak f) (<- CX as))
 | .builtin .len,[x],[t] =>
  match P.underlying t with
  | some (.slice _)=>do some (.len false (<- Ak x))
  | some .string=>do some (.len true (<- Ak x))
  | _=>none
 | .builtin .append,[x,y],[t,u] =>
  match P.underlying t,P.underlying u with
  | some (.slice e),some (.slice e')=>do
   let i<-P.info? e
   let _<-i.zero
   let z<-Ch P e
   if t=u/\0<P.cellsOf e/\(cells z).length=P.cellsOf e/\i.bytes<=65536/\e'=e then some (.app (P.cellsOf e) e i.bytes (<- Ak x) (<- Ak y))else none
  | _,_=>none
 | .builtin .copy,[x,y],[t,_] =>
  match P.underlying t with
  | some (.slice e)=>do if(P.info? e).map (·.size)=some 1 then some (.cpy (<- Ak x) (<- Ak y))else none
  | _=>none
 | .builtin .delete,[x,i],t::_ =>
  match EU P t with
  | some _=>do some (.mdel (<- Ak x) (<- Ak i))
  | none=>none
 | .builtin .max,as,_=>do some (.max (<- CX as))
 | .builtin .min,as,_=>do some (.min (<- CX as))
 | _,_,_=>some .fail
def KQ (t:TypeId) (x i:Operand):Option DOp :=
 match P.underlying t with
 | some (.slice e)=>do if(P.info? e).isSome then some (.ixA (P.cellsOf e) (<- Ak x) (<- Ak i))else none
 | some (.array n e)=>do if(P.info? e).isSome then some (.ixP (P.cellsOf e) n (<- Ak x) (<- Ak i))else none
 | _=>none
def KT (t:TypeId) (g:Nat) (i:Operand):Option DOp :=
 match P.underlying t,Kf P g with
 | some (.array n e),some k=>if n*P.cellsOf e=(IU k).length/\(P.info? e).isSome=true then do some (.ixG k n (P.cellsOf e) (<- Ak i))else some .fail
 | _,_=>some .fail
def cOp (type:TypeId):Op->Option DOp
 | .move x=>do some (.mv (<- Ak x))
 | .assign x =>
  match P.underlying type with
  | some (.slice e)=>do some (.asg (<- Ak x) (if 0<P.cellsOf e then some (P.cellsOf e,e)else none))
  | _=>do some (.asg (<- Ak x) none)
 | .pick c a b=>do some (.pick (<- Ak c) (<- Ak a) (<- Ak b))
 | .alloc e =>
  match KP P e with
  | some u=>some (.mkb e u)
  | none=>do
   let z<-Ch P e
   if 0<P.cellsOf e then some (.new z (P.cellsOf e) e)else none
 | .box e x =>
  match KP P e with
  | some u=>do some (.mkx e u (<- Ak x))
  | none=>do if 0<P.cellsOf e then some (.box (<- Ak x) (P.cellsOf e) e)else none
 | .build t parts=>do
  let z<-Ch P t
  match z,P.underlying t with
  | .agg cs,some (.struct fs)=>do
   let ps<-CY (λi=>(fs[i]?).map λf=>(f.offset,P.cellsOf f.type)) parts.toList
   if fs.toList.all (λf=>(P.info? f.type).isSome)then some (.bld cs ps)else none
  | .agg cs,some (.array _ e)=>do
   let ps<-CY (λi=>some (i*P.cellsOf e,P.cellsOf e)) parts.toList
   if(P.info? e).isSome then some (.bld cs ps)else none
  | _,_=>none
 | .buildSlice t len parts =>
  match P.underlying t with
  | some (.slice e)=>do
   let z<-Ch P e
   if OT z then do
    let ps<-CY (λi=>some (i*P.cellsOf e,P.cellsOf e)) parts.toList
    if 0<len/\len<=4096 then some (.bldV e len ps)else none
   else do
   let ps<-Ev parts.toList
   if 0<P.cellsOf e/\(cells z).length=P.cellsOf e/\len*P.cellsOf e<=16777216 then some (.bldS (P.cellsOf e) e (nrm z) len ps)else none
  | _=>none
 | .load t a=>do
  if Cq P t then some (.ld (P.cellsOf t) true (<- Ak a))else if(P.underlying t).isSome then some (.ld 1 false (<- Ak a))else none
 | .store t a x=>do if 0<P.cellsOf t then some (.st (P.cellsOf t) (<- Ak a) (<- Ak x))else none
 | .nilCheck x=>do some (.nilck (<- Ak x))
 | .binOp op t x y _ =>
  match op,P.underlying t with
  | .eql,some .bool=>do some (.eqB false (<- Ak x) (<- Ak y))
  | .neq,some .bool=>do some (.eqB true (<- Ak x) (<- Ak y))
  | .eql,_ =>
   match EE P t with
   | some n=>do some (.eqA n false (<- Ak x) (<- Ak y))
   | none=>do some (.bin op (<- Ak x) (<- Ak y))
  | .neq,_ =>
   match EE P t with
   | some n=>do some (.eqA n true (<- Ak x) (<- Ak y))
   | none=>do some (.bin op (<- Ak x) (<- Ak y))
  | _,_=>do some (.bin op (<- Ak x) (<- Ak y))
 | .unOp op _ x=>do some (.un op (<- Ak x))
 | .convert src dst x =>
  match P.underlying dst with
  | some (.int k)=>do if(P.underlying src).isSome then some (.cvt k (<- Ak x))else none
  | some .string =>
   match P.underlying src with
   | some (.int _)=>do some (.i2s (<- Ak x))
   | some (.slice e) =>
    match P.underlying e with
    | some (.int .u8)=>do some (.b2s (<- Ak x))
    | _=>some .fail
   | _=>some .fail
  | _=>some .fail
 | .makeSlice t l c =>
  match P.underlying t with
  | some (.slice e)=>do
   let z<-Ch P e
   if 0<P.cellsOf e/\(cells z).length=P.cellsOf e then some (.mkS (P.cellsOf e) e (P.bytesOf e) (GZ z) (<- Ak l) (<- Ak c))else none
  | _=>none
 | .slice t x lo hi none =>
  match P.underlying t with
  | some (.slice e)=>do if(P.info? e).isSome/\0<P.cellsOf e then some (.slc (P.cellsOf e) (<- Ak x) (<- Fx lo) (<- Fx hi))else none
  | some .string=>do some (.slc 0 (<- Ak x) (<- Fx lo) (<- Fx hi))
  | _=>none
 | .fieldAddr s x f =>
  match P.underlying s with
  | some (.struct fs)=>do
   let f<-fs[f]?
   if 0<P.cellsOf f.type then some (.fldA f.offset (<- Ak x))else none
  | _=>none
 | .field s x f =>
  match P.underlying s with
  | some (.struct fs)=>do
   let f<-fs[f]?
   if Cq P f.type then some (.fld f.offset (P.cellsOf f.type) true (<- Ak x))else if(P.underlying f.type).isSome then some (.fld f.offset 1 false (<- Ak x))else none
  | _=>none
 | .indexAddr t x i =>
  match x with
  | .global g=>KT P t g i
  | _=>KQ P t x i
 | .index t x i =>
  match P.underlying t with
  | some .string=>do some (.ixStr (<- Ak x) (<- Ak i))
  | some (.array n e)=>do if(P.info? e).isSome/\(P.underlying e).isSome then(if Cq P e then do some (.ix (P.cellsOf e) n true (<- Ak x) (<- Ak i))else if P.cellsOf e=1 then do some (.ix 1 n false (<- Ak x) (<- Ak i))else none)else none
  | _=>none
 | .extract x i=>do some (.ext (<- Ak x) i)
 | .makeInterface t x =>
  match P.underlying t with
  | some (.int _)=>do some (.mkI t (<- Ak x))
  | some .string=>do some (.mkI t (<- Ak x))
  | some .bool=>do some (.mkI t (<- Ak x))
  | _=>some .fail
 | .typeAssert x _ t true =>
  match P.underlying t,Ch P t with
  | some (.interface ..),_=>some .fail
  | some _,some z=>if AV z then do some (.tas t z (<- Ak x))else some .fail
  | _,_=>some .fail
 | .call c=>Ho P c
 | .makeMap t none=>do
  let _<-EU P t
  some .mkm
 | .lookup t x i false=>do
  let z<-EU P t
  some (.mget z (<- Ak x) (<- Ak i))
 | .mapUpdate t x i y=>do
  let _<-EU P t
  some (.mset (<- Ak x) (<- Ak i) (<- Ak y))
 | .range t x =>
  match P.underlying t with
  | some .string=>do some (.rng (<- Ak x))
  | _=>some .fail
 | .next x true=>do some (.nxt (<- Ak x))
 | .makeFunc fn first caps =>
  match fn with
  | .func f=>if f<4096 then(if first.size=0 then do some (.mkf f (<- CX caps.toList))else if caps.size=0 then do some (.mkf (4096+f) (<- CX first.toList))else none)else none
  | _=>none
 | _=>some .fail
def CO (N:Nat) (dst:Option Nat) (op:DOp):Bool :=
 match dst with
 | some d=>(match op with| .st .. | .mset ..=>false|_=>decide (d<N)&&aAY d 4096)
 | none=>(match op with| .st .. | .call .. | .mset .. | .mdel .. | .fail=>true|_=>false)
def Fw (ops:Array Oper):Option (Nat×Bool)->Option (Option (Nat×Bool))
 | none=>some none
 | some (j,want)=>(ops[j]?).bind λo=>o.dst.bind λt=>some (some (t,want))
def AO (draw:Bool) (o:Oper):List Nat:=if draw then(o.after.toList.filter (Region.binds .any)).map (·.on)else[]
def Cm (N:Nat) (ops:Array Oper) (draw:Bool) (i:Nat) (o:Oper):Option As :=
 (cOp P o.type o.op).bind λop=>(Fw ops o.guard).bind λg =>
  if CO N o.dst op&&(AO draw o).all (· <i)then some ⟨o.dst,op,g,AO draw o⟩else none
def BE (N:Nat) (ops:Array Oper) (draw:Bool):Nat->List Oper->Option (List As)
 | _,[]=>some []
 | i,o::r=>do
  let o'<-Cm P N ops draw i o
  let r'<-BE N ops draw (i+1) r
  some (o'::r')
def Ez (init:Array Oper):Nat->List Nat->Bool
 | 0,_=>true
 | j+1,A=>A.contains j&&Ez init j (A++((init[j]?).map (AO true)).getD [])
def PC (f:Nat):Bool:=match P.funcs[f]? with|some fn=>fn.name == "(*strings.Builder).WriteString" | none=>false
def LY (l:As):Bool:=match l.op with| .call (.c (.clo f [])) _=>PC P f|_=>false
def EA (N:Nat) (ops:Array Oper):Option (List As×As) :=
 match ops.back? with
 | none=>none
 | some l=>(Cm P N ops false ops.pop.size l).bind λdl =>
  if LY P dl then
   if(ops.toList.all λo=>o.guard.isNone)&&Ez ops.pop ops.pop.size (AO true l)&&(AO true l).all (· <ops.pop.size)then(BE P N ops.pop true 0 ops.pop.toList).map λds=>(ds,dl)else none
  else none
def SE (N:Nat):Code->Option Ru
 | .skip=>some .skip
 | .region _ ops draw=>do
  if draw&& !P.follows .mixedOrders then none else
   match (if draw then EA P N ops else none)with
   | some (ds,dl)=>some (.seq (.reg ds true) (.reg [dl] false))
   | none=>do some (.reg (<- BE P N ops draw 0 ops.toList) draw)
 | .seq a b=>do some (.seq (<- SE N a) (<- SE N b))
 | .cond c a b=>do some (.cond (<- Ak c) (<- SE N a) (<- SE N b))
 | .block id b=>do some (.block id (<- SE N b))
 | .loop b=>do some (.loop (<- SE N b))
 | .exit id=>some (.exit id)
 | .ret=>some .ret
 | _=>none
end
abbrev Fz:=Nat->Nat->Option Value
structure Loc where
 b:Option Nat
 cap:Nat
 s:Nat
abbrev Bt:=Nat->Option Loc
def fnV (f:Nat) (vs:List Value):Value:=bif aAY f 4096 then .func (.func f) #[] vs.toArray else .func (.func (f-4096)) vs.toArray #[]
theorem Hv {f:Nat} {vs:List Value} (h:aAY f 4096=true):fnV f vs= .func (.func f) #[] vs.toArray:=by simp[fnV,h]
theorem Kc (q:Nat) (vs:List Value):fnV (4096+q) vs= .func (.func q) vs.toArray #[]:=by
 have h:aAY (4096+q) 4096=false:=by
  cases hb:aAY (4096+q) 4096 with
  | false=>rfl
  | true =>
   have:4096+q<4096:=by simpa[Nat.blt_eq]using hb
   omega
 simp only[fnV,h,cond_false,aBG]
theorem Kd (f:Nat) (vs:List Value):(fnV f vs).oneCell'=true:=by
 unfold fnV
 cases aAY f 4096<;>rfl
theorem Iw (f:Nat) (vs:List Value):(fnV f vs).cells= #[fnV f vs]:=by
 unfold fnV
 cases aAY f 4096<;>rfl
inductive Fro (F:Fz):D->Value->Prop
 | top (v:Value):Fro F .top v
 | row (s ty:Nat) (es:List D) (v:Value):Fro F (.row s ty es) v
 | hole (nm u n:Nat) (v:Value):Fro F (.hole nm u n) v
 | int (k:IntKind) (n:Int):Fro F (.int k n) (.int k n)
 | bool (b:Bool):Fro F (.bool b) (.bool b)
 | str (s:List UInt8):Fro F (.str s) (.string ⟨s.toArray⟩)
 | nils:Fro F .nils (.slice none 0 0)
 | nilf:Fro F .nilf .nilFunc
 | ifc (t:Nat) (d:D) (v:Value) (h:Fro F d v):Fro F (.ifc t d) (.iface t v)
 | nilp:Fro F .nilp (.pointer none)
 | agg (cs:List D) (vs:List Value) (hl:cs.length=vs.length) (h1:∀ v∈vs,v.oneCell'=true)
   (h:∀ (j:Nat) c v,cs[j]? =some c->vs[j]? =some v->Fro F c v):Fro F (.agg cs) (.agg vs.toArray)
 | sl0 (a:Option Addr) (c:Nat):Fro F (.sl []) (.slice a 0 c)
 | sl (es:List D) (b o c s:Nat) (vf:Nat->Nat->Value) (hc:es.length<=c) (hs:∀ e∈es,(cells e).length=s)
   (hF:∀ (i j:Nat) e d,es[i]? =some e->(cells e)[j]? =some d->F b (o+i*s+j)=some (vf i j))
   (h1:∀ (i j:Nat) e d,es[i]? =some e->(cells e)[j]? =some d->(vf i j).oneCell'=true)
   (h:∀ (i j:Nat) e d,es[i]? =some e->(cells e)[j]? =some d->Fro F d (vf i j)):Fro F (.sl es) (.slice (some ⟨b,o,none⟩) es.length c)
 | fptr (e:D) (b o off:Nat) (vf:Nat->Value)
   (hF:∀ (j:Nat) d,(cells e)[j]? =some d->F b (o+j)=some (vf j))
   (h1:∀ (j:Nat) d,(cells e)[j]? =some d->(vf j).oneCell'=true)
   (h:∀ (j:Nat) d,(cells e)[j]? =some d->Fro F d (vf j)):Fro F (.fptr e off) (.pointer (some ⟨b,o+off,none⟩))
 | clo (f:Nat) (cs:List D) (vs:List Value) (hl:cs.length=vs.length)
   (h:∀ (j:Nat) c v,cs[j]? =some c->vs[j]? =some v->Fro F c v):Fro F (.clo f cs) (fnV f vs)
 | tup (cs:List D) (vs:List Value) (hl:cs.length=vs.length)
   (h:∀ (j:Nat) c v,cs[j]? =some c->vs[j]? =some v->Fro F c v):Fro F (.tup cs) (.tuple vs.toArray)
def Ag (F F':Fz):Prop:=∀ b i x,F b i=some x->F' b i=some x
theorem Ag.refl (F:Fz):Ag F F:=λ_ _ _ h=>h
theorem Ag.trans {F F' F'':Fz} (h:Ag F F') (h':Ag F' F''):Ag F F'':=λb i x hx=>h' _ _ _ (h b i x hx)
def Aw (β β':Bt):Prop:=∀ v L,β v=some L->β' v=some L
theorem Aw.refl (β:Bt):Aw β β:=λ_ _ h=>h
theorem Aw.trans {F F' F'':Bt} (h:Aw F F') (h':Aw F' F''):Aw F F'':=λb i hx=>h' _ _ (h b i hx)
theorem Fro.mono {F F':Fz} (hF:Ag F F') {d:D} {v:Value} (h:Fro F d v):Fro F' d v:=by
 induction h with
 | top v=>exact .top v
 | row s ty es v=>exact .row s ty es v
 | hole nm u n v=>exact .hole nm u n v
 | int k n=>exact .int k n
 | bool b=>exact .bool b
 | str s=>exact .str s
 | nils=>exact .nils
 | nilf=>exact .nilf
 | ifc t d v _ ih=>exact .ifc t d v ih
 | nilp=>exact .nilp
 | agg cs vs hl h1 _ ih=>exact .agg cs vs hl h1 ih
 | sl0 a c=>exact .sl0 a c
 | sl es b o c s vf hc hs hF' h1 _ ih=>exact .sl es b o c s vf hc hs (λi j e d h h'=>hF _ _ _ (hF' i j e d h h')) h1 ih
 | fptr e b o off vf hF' h1 _ ih=>exact .fptr e b o off vf (λj d h=>hF _ _ _ (hF' j d h)) h1 ih
 | clo f cs vs hl _ ih=>exact .clo f cs vs hl ih
 | tup cs vs hl _ ih=>exact .tup cs vs hl ih
theorem Fro.nrm {F:Fz} {d:D} {v:Value} (h:Fro F d v):Fro F (nrm d) v:=by
 induction h with
 | top v=>exact .top v
 | row s ty es v=>exact .row s ty es v
 | hole nm u n v=>exact .hole nm u n v
 | int k n=>exact .int k n
 | bool b=>exact .bool b
 | str s=>exact .str s
 | nils=>exact .sl0 _ _
 | nilf=>exact .nilf
 | ifc t d v h _=>exact .ifc t d v h
 | nilp=>exact .nilp
 | agg cs vs hl h1 _ ih =>
  simp only[Dw.nrm]
  refine .agg _ vs (by simpa[BB]using hl) h1 λj c v hc hv=>?_
  simp only[BB,aAI,aAK]at hc
  obtain⟨c',hc',rfl⟩:=hc
  exact ih j c' v hc' hv
 | sl0 a c=>simp only[Dw.nrm,DZ];exact .sl0 a c
 | sl es b o c s vf hc hs hF h1 _ ih =>
  have key:∀ (i j:Nat) e d,(DZ es)[i]? =some e->(cells e)[j]? =some d->∃ e' d',es[i]? =some e'/\(cells e')[j]? =some d'/\Dw.nrm d'=d:=by
   intro i j e d he hd
   simp only[BB,aAI,aAK]at he
   obtain⟨e',he',rfl⟩:=he
   simp only[CQ,BB,aAI,aAK]at hd
   obtain⟨d',hd',rfl⟩:=hd
   exact⟨e',d',he',hd',rfl⟩
  have hl:(DZ es).length=es.length:=by simp[BB]
  simp only[Dw.nrm]
  rw[<- hl]
  refine .sl (DZ es) b o c s vf (by omega) (λe he=>?_) (λi j e d he hd=>?_) (λi j e d he hd=>?_) λi j e d he hd=>?_
  ·simp only[BB,aAn]at he
   obtain⟨e',he',rfl⟩:=he
   simpa[CQ,BB]using hs e' he'
  ·obtain⟨e',d',k1,k2,_⟩:=key i j e d he hd
   exact hF i j e' d' k1 k2
  ·obtain⟨e',d',k1,k2,_⟩:=key i j e d he hd
   exact h1 i j e' d' k1 k2
  ·obtain⟨e',d',k1,k2,rfl⟩:=key i j e d he hd
   exact ih i j e' d' k1 k2
 | fptr e b o off vf hF h1 h _=>exact .fptr e b o off vf hF h1 h
 | clo f cs vs hl h _=>exact .clo f cs vs hl h
 | tup cs vs hl h _=>exact .tup cs vs hl h
def Ref (F:Fz) (β:Bt):D->Value->Prop
 | .osl _ v i n,x=>∃ L a,β v=some L/\x= .slice a n (L.cap-i)/\i+n<=L.cap/\(i=0->a=L.b.map λb=>⟨b,0,none⟩)/\(0<n->∃ b,L.b=some b/\a=some ⟨b,i*L.s,none⟩)
 | .optr _ v i off,x=>∃ L b,β v=some L/\L.b=some b/\x= .pointer (some ⟨b,i*L.s+off,none⟩)
 | .vsl _ v n,x=>∃ L b,β v=some L/\L.b=some b/\x= .slice (some ⟨b,0,none⟩) n n
 | .mref _ v,x=>∃ L,β v=some L/\L.b=none/\((L.cap=0/\x= .map (some L.s))\/(L.cap≠0/\x= .pointer (some ⟨L.s,0,none⟩)))
 | d,x=>Fro F d x
def Cel (F:Fz) (β:Bt):D->Value->Prop
 | .clo f caps,x=>∃ vs:List Value,x=fnV f vs/\caps.length=vs.length/\∀ (j:Nat) c v,caps[j]? =some c->vs[j]? =some v->Ref F β c v
 | d,x=>Ref F β d x
def Val (F:Fz) (β:Bt):D->Value->Prop
 | .agg cs,x=>∃ vs:List Value,x= .agg vs.toArray/\cs.length=vs.length/\(∀ v∈vs,v.oneCell'=true)/\∀ (j:Nat) c v,cs[j]? =some c->vs[j]? =some v->Cel F β c v
 | .tup cs,x=>∃ vs:List Value,x= .tuple vs.toArray/\cs.length=vs.length/\∀ (j:Nat) c v,cs[j]? =some c->vs[j]? =some v->Cel F β c v
 | d,x=>Cel F β d x
def Env (F:Fz) (β:Bt):D->Value->Prop
 | .when p d,x=>(p=true->Val F β d x)/\(p=false->x=undef)
 | d,x=>Val F β d x
section mono
variable {F F':Fz} {β β':Bt}
theorem Ref.Af {d:D} {x:Value} (h:Fro F d x):Ref F β d x:=by cases d<;>first|exact h|cases h
theorem Cel.CL {d:D} {x:Value} (h:Ref F β d x):Cel F β d x:=by
 cases d<;>try exact h
 cases h with
 | clo f cs vs hl h=>exact⟨vs,rfl,hl,λj c v hc hv=>Ref.Af (h j c v hc hv)⟩
theorem Cel.Af {d:D} {x:Value} (h:Fro F d x):Cel F β d x:=Cel.CL (Ref.Af h)
theorem Val.Ap {d:D} {x:Value} (h:Cel F β d x):Val F β d x:=by
 cases d<;>try exact h
 ·cases h with
  | agg cs vs hl h1 h=>exact⟨vs,rfl,hl,h1,λj c v hc hv=>Cel.Af (h j c v hc hv)⟩
 ·cases h with
  | tup cs vs hl h=>exact⟨vs,rfl,hl,λj c v hc hv=>Cel.Af (h j c v hc hv)⟩
theorem Val.Af {d:D} {x:Value} (h:Fro F d x):Val F β d x:=Val.Ap (Cel.Af h)
theorem Env.Ah {d:D} {x:Value} (h:Val F β d x):Env F β d x:=by
 cases d<;>try exact h
 cases h
theorem Env.Af {d:D} {x:Value} (h:Fro F d x):Env F β d x:=Env.Ah (Val.Af h)
theorem Ref.mono (hF:Ag F F') (hB:Aw β β') {d:D} {x:Value} (h:Ref F β d x):Ref F' β' d x:=by
 cases d<;>try exact Fro.mono hF h
 ·obtain⟨L,a,hL,r⟩:=h
  exact⟨L,a,hB _ _ hL,r⟩
 ·obtain⟨L,b,hL,r⟩:=h
  exact⟨L,b,hB _ _ hL,r⟩
 ·obtain⟨L,hL,r⟩:=h
  exact⟨L,hB _ _ hL,r⟩
 ·obtain⟨L,b,hL,r⟩:=h
  exact⟨L,b,hB _ _ hL,r⟩
theorem Cel.mono (hF:Ag F F') (hB:Aw β β') {d:D} {x:Value} (h:Cel F β d x):Cel F' β' d x:=by
 cases d<;>try (simp only[Cel]at h ⊢;exact Ref.mono hF hB h)
 obtain⟨vs,r,hl,h⟩:=h
 exact⟨vs,r,hl,λj c v hc hv=>(h j c v hc hv).mono hF hB⟩
theorem Val.mono (hF:Ag F F') (hB:Aw β β') {d:D} {x:Value} (h:Val F β d x):Val F' β' d x:=by
 cases d<;>try (simp only[Val]at h ⊢;exact Cel.mono hF hB h)
 ·obtain⟨vs,r,hl,h1,h⟩:=h
  exact⟨vs,r,hl,h1,λj c v hc hv=>(h j c v hc hv).mono hF hB⟩
 ·obtain⟨vs,r,hl,h⟩:=h
  exact⟨vs,r,hl,λj c v hc hv=>(h j c v hc hv).mono hF hB⟩
theorem Env.mono (hF:Ag F F') (hB:Aw β β') {d:D} {x:Value} (h:Env F β d x):Env F' β' d x:=by
 cases d<;>try (simp only[Env]at h ⊢;exact Val.mono hF hB h)
 exact⟨λhp=>Val.mono hF hB (h.1 hp),h.2⟩
theorem Env.top (x:Value):Env F β .top x:=Env.Af (.top x)
theorem Env.strip {d:D} {x:Value} (h:Env F β d x) (hp:(strip d).1=true):Val F β (Dw.strip d).2 x:=by
 cases d<;>first|exact h|exact h.1 hp
end mono
def AA (F:Fz) (β:Bt) (w:World) (L:Loc) (o:Own):Prop :=
 L.s=o.s/\0<o.s/\o.es.length<=L.cap/\L.cap<=(if o.var then 1 else maxLen)/\(∀ e∈o.es,(cells e).length=o.s) /\
 match L.b with
 | none=>L.cap=0/\o.var=false
 | some b=>∃ C:Array Value,w.heap[b]? =some (.cells C o.ty (0,0))/\C.size=L.cap*o.s /\
   ∀ (i j:Nat) e d,o.es[i]? =some e->(cells e)[j]? =some d->∃ x,C[i*o.s+j]? =some x/\x.oneCell'=true/\(if o.var then Cel F β d x else Fro F d x)
def Lx (F:Fz) (L:Loc) (o:Own):Prop :=
 o.var=false/\L.s=o.s/\0<o.s/\o.es.length<=L.cap/\(∀ e∈o.es,(cells e).length=o.s) /\
 match L.b with
 | none=>o.es=[]
 | some b=>∀ (i j:Nat) e d,o.es[i]? =some e->(cells e)[j]? =some d->∃ x,F b (i*o.s+j)=some x/\x.oneCell'=true/\Fro F d x
def DG (F:Fz) (L:Loc) (o:Own):Prop:=(L.b=none/\(L.cap=o.ty/\o.ty<=2)/\o.var=false/\o.s=0)\/Lx F L o
theorem DG.old {F:Fz} {L:Loc} {o:Own} {b:Nat} (h:DG F L o) (hb:L.b=some b):Lx F L o:=h.resolve_left λhm=>by rw[hm.1]at hb;cases hb
theorem DG.var {F:Fz} {L:Loc} {o:Own} (h:DG F L o):o.var=false:=h.elim (λh=>h.2.2.1) λh=>h.1
theorem AA.QA {F F':Fz} {β β':Bt} {w w':World} {L:Loc} {o:Own} (hF:Ag F F') (hB:Aw β β') (hw:∀ b,L.b=some b->w'.heap[b]? =w.heap[b]?) (h:AA F β w L o):AA F' β' w' L o:=by
 obtain⟨h1,h2,h3,h4,h5,h6⟩:=h
 refine⟨h1,h2,h3,h4,h5,?_⟩
 cases hb:L.b with
 | none=>rw[hb]at h6;exact h6
 | some b =>
  rw[hb]at h6
  obtain⟨C,hC,hsz,hx⟩:=h6
  refine⟨C,(hw b hb).trans hC,hsz,λi j e d he hd=>?_⟩
  obtain⟨x,hx1,hx2,hx3⟩:=hx i j e d he hd
  refine⟨x,hx1,hx2,?_⟩
  split
  ·rename_i hv;rw[if_pos hv]at hx3;exact hx3.mono hF hB
  ·rename_i hv;rw[if_neg hv]at hx3;exact hx3.mono hF
theorem DG.mono {F F':Fz} {L:Loc} {o:Own} (hF:Ag F F') (h:DG F L o):DG F' L o:=by
 rcases h with h|⟨h0,h1,h2,h3,h4,h5⟩
 ·exact .inl h
 refine .inr ⟨h0,h1,h2,h3,h4,?_⟩
 cases hb:L.b with
 | none=>rw[hb]at h5;exact h5
 | some b =>
  rw[hb]at h5
  intro i j e d he hd
  obtain⟨x,hx1,hx2,hx3⟩:=h5 i j e d he hd
  exact⟨x,hF _ _ _ hx1,hx2,hx3.mono hF⟩
def Fok (F:Fz) (w:World):Prop:=∀ b i x,F b i=some x->w.cell? ⟨b,i,none⟩=some x
structure Stp (M:Nat->Prop) (w:World) (F:Fz) (w':World) (F':Fz):Prop where
 os:w'.os=w.os
 tape:w'.tape=w.tape
 output:w'.output=w.output
 size:w.heap.size<=w'.heap.size
 block:∀ b,b<w.heap.size->¬ M b->w'.heap[b]? =w.heap[b]?
 sub:Ag F F'
 old:∀ b i,b<w.heap.size->¬ M b->F' b i=F b i
theorem Stp.refl (M:Nat->Prop) (w:World) (F:Fz):Stp M w F w F:=⟨rfl,rfl,rfl,aAU _,λ_ _ _=>rfl,Ag.refl F,λ_ _ _ _=>rfl⟩
theorem Stp.trans {M:Nat->Prop} {_B0:Bt} {w w' w'':World} {F F' F'':Fz} (h:Stp M w F w' F') (k:Stp M w' F' w'' F''):Stp M w F w'' F'' :=
 ⟨k.os.trans h.os,k.tape.trans h.tape,k.output.trans h.output,aAO h.size k.size,λb hb hM=>(k.block b (aAD hb h.size) hM).trans (h.block b hb hM),
  h.sub.trans k.sub,λb i hb hM=>(k.old b i (aAD hb h.size) hM).trans (h.old b i hb hM)⟩
inductive Br (F:Fz) (w:World):(Nat->Prop)->Nat->Nat->List D->Value->Prop
 | nil (φ:Nat->Prop) (s ty:Nat) (hs:0<s):Br F w φ s ty [] (.slice none 0 0)
 | row (φ:Nat->Prop) (s ty:Nat) (es:List D) (b cap:Nat) (C:Array Value) (fp:Nat->Nat->Nat->Prop) (xf:Nat->Nat->Value) (hs:0<s) (hc:es.length<=cap) (hm:cap<=maxLen) (hl:∀ e∈es,(cells e).length=s)
   (hC:w.heap[b]? =some (.cells C ty (0,0))) (hCs:C.size=cap*s) (hb:φ b)
   (hx:∀ (i j:Nat) e d,es[i]? =some e->(cells e)[j]? =some d->C[i*s+j]? =some (xf i j)/\(xf i j).oneCell'=true/\Fro F d (xf i j))
   (hr:∀ (i j:Nat) e s' ty' es',es[i]? =some e->(cells e)[j]? =some (.row s' ty' es')->Br F w (fp i j) s' ty' es' (xf i j))
   (hh:∀ (i j:Nat) e nm u n,es[i]? =some e->(cells e)[j]? ≠some (.hole nm u n))
   (hfp:∀ i j b',fp i j b'->φ b'/\b'≠b) (hd:∀ i j i' j' b',fp i j b'->fp i' j' b'->i=i'/\j=j'):Br F w φ s ty es (.slice (some ⟨b,0,none⟩) es.length cap)
theorem Br.QA {F F':Fz} {w w':World} (hF:Ag F F') {φ ψ:Nat->Prop} {s ty:Nat} {es:List D} {x:Value} (h:Br F w φ s ty es x) (hw:∀ b,φ b->w'.heap[b]? =w.heap[b]?) (hφ:∀ b,φ b->ψ b):Br F' w' ψ s ty es x:=by
 induction h generalizing ψ with
 | nil φ s ty hs=>exact .nil _ s ty hs
 | row φ s ty es b cap C fp xf hs hc hm hl hC hCs hb hx hr hh hfp hd ih =>
  refine .row _ s ty es b cap C fp xf hs hc hm hl ((hw b hb).trans hC) hCs (hφ b hb) (λi j e d he hd'=>?_) (λi j e s' ty' es' he hj=>?_) hh (λi j b' h=>⟨hφ _ (hfp i j b' h).1,(hfp i j b' h).2⟩) hd
  ·obtain⟨h1,h2,h3⟩:=hx i j e d he hd'
   exact⟨h1,h2,h3.mono hF⟩
  ·exact ih i j e s' ty' es' he hj (λb' hb'=>hw b' (hfp i j b' hb').1) (λb' hb'=>hb')
structure AE (F:Fz) (β:Bt) (n0:Nat) (M:Nat->Prop) (σ:S) (w:World) (φ:Nat->Nat->Nat->Nat->Prop):Prop where
 row:∀ g v o L b C (i j:Nat) e x s ty es,Ab g=true->σ.go g=some (v,o)->o.fz=false->β v=some L->L.b=some b->w.heap[b]? =some (.cells C o.ty (0,0))->o.es[i]? =some e->(cells e)[j]? =some (.row s ty es)->C[i*o.s+j]? =some x->Br F w (φ g i j) s ty es x
 hole:∀ g v o L b C (i j:Nat) e x nm u n,Ab g=true->σ.go g=some (v,o)->o.fz=false->β v=some L->L.b=some b->w.heap[b]? =some (.cells C o.ty (0,0))->o.es[i]? =some e->(cells e)[j]? =some (.hole nm u n)->C[i*o.s+j]? =some x->Ref F β (.osl 0 u 0 n) x
 none_:∀ g i j b,φ g i j b->∀ k,F b k=none
 lt:∀ g i j b,φ g i j b->b<w.heap.size
 new:∀ g i j b,φ g i j b->n0<=b\/M b
 sep:∀ g i j b g' v' o' L',φ g i j b->σ.go g'=some (v',o')->o'.fz=false->β v'=some L'->L'.b≠some b
 dis:∀ g i j g' i' j' b,φ g i j b->φ g' i' j' b->g=g'/\i=i'/\j=j'
structure Sim (N:Nat) (w0:World) (F0:Fz) (M:Nat->Prop) (B0:Bt) (σ:S) (F:Fz) (β:Bt) (a:Act) (w:World):Prop where
 size:a.tmps.size=N
 defers:a.defers=[]
 env:∀ t,Env F β (σ.ge t) (a.tmps.getD t undef)
 own:∀ g v o,σ.go g=some (v,o)->∃ L,β v=some L/\(o.fz=true->DG F L o)/\(o.fz=false->AA F β w L o)
 dist:∀ g g' v v' o o' L L' b,σ.go g=some (v,o)->σ.go g'=some (v',o')->o.fz=false->o'.fz=false->β v=some L->β v'=some L'->L.b=some b->L'.b=some b->g=g'
 sep:∀ g v o L b,σ.go g=some (v,o)->o.fz=false->β v=some L->L.b=some b->(∀ i,F b i=none)/\b<w.heap.size/\(w0.heap.size<=b\/(M b/\(Ab g=true\/w0.drawn<=b)))
 Ab:∃ φ,AE F β w0.heap.size M σ w φ
 frz:Fok F w
 fin:∀ b i x,F b i=some x->b<w.heap.size
 step:Stp M w0 F0 w F
 nam:Aw B0 β
theorem AE.QA {F F':Fz} {β β':Bt} {n0:Nat} {M:Nat->Prop} {σ σ':S} {w w':World} {φ:Nat->Nat->Nat->Nat->Prop} (h:AE F β n0 M σ w φ) (hF:Ag F F') (hβ:Aw β β') (hsz:w.heap.size<=w'.heap.size)
  (hFφ:∀ g i j b,φ g i j b->∀ k,F' b k=F b k) (hwφ:∀ g i j b,φ g i j b->w'.heap[b]? =w.heap[b]?)
  (hown:∀ g v o,σ.go g=some (v,o)->∃ L,β v=some L)
  (hrich:∀ g v o,Ab g=true->σ'.go g=some (v,o)->o.fz=false->(∃ o1,σ.go g=some (v,o1)/\o1.fz=false/\o1.ty=o.ty/\o1.s=o.s /\
    ∀ (i j:Nat) e c,o.es[i]? =some e->(cells e)[j]? =some c->plain c=false->(∃ e1,o1.es[i]? =some e1/\(cells e1)[j]? =some c)/\∀ L b C' x,β v=some L->L.b=some b->w'.heap[b]? =some (.cells C' o.ty (0,0))->C'[i*o.s+j]? =some x->∃ C,w.heap[b]? =some (.cells C o.ty (0,0))/\C[i*o.s+j]? =some x)\/(∀ e∈o.es,AD e=true))
  (hsep:∀ g i j b g' v' o' L',φ g i j b->σ'.go g'=some (v',o')->o'.fz=false->β' v'=some L'->L'.b≠some b):AE F' β' n0 M σ' w' φ:=by
 have pl:∀ (es:List D) (i j:Nat) e c,(∀ e∈es,AD e=true)->es[i]? =some e->(cells e)[j]? =some c->plain c=true:=by
  intro es i j e c h1 he hj
  exact aAN.1 (h1 e (aAA he)) c (aAA hj)
 refine⟨?_,?_,λg i j b hb k=>(hFφ g i j b hb k).trans (h.none_ g i j b hb k),λg i j b hb=>aAD (h.lt g i j b hb) hsz,h.new,hsep,h.dis⟩
 ·intro g v o L b C' i j e x s ty es hr hg hf hL hb hC he hj hx
  rcases hrich g v o hr hg hf with⟨o1,k1,k2,k3,k4,k5⟩|k
  ·obtain⟨⟨e1,q1,q2⟩,q3⟩:=k5 i j e _ he hj rfl
   obtain⟨L1,hL1⟩:=hown g v o1 k1
   have:=hβ _ _ hL1;rw[hL]at this;cases this
   obtain⟨C,z1,z2⟩:=q3 L b C' x hL1 hb hC hx
   exact(h.row g v o1 L b C i j e1 x s ty es hr k1 k2 hL1 hb (by rw[k3];exact z1) q1 q2 (by rw[k4];exact z2)).QA hF (hwφ g i j) (λ_ h=>h)
  ·have:=pl _ i j e _ k he hj;cases this
 ·intro g v o L b C' i j e x nm u n hr hg hf hL hb hC he hj hx
  rcases hrich g v o hr hg hf with⟨o1,k1,k2,k3,k4,k5⟩|k
  ·obtain⟨⟨e1,q1,q2⟩,q3⟩:=k5 i j e _ he hj rfl
   obtain⟨L1,hL1⟩:=hown g v o1 k1
   have:=hβ _ _ hL1;rw[hL]at this;cases this
   obtain⟨C,z1,z2⟩:=q3 L b C' x hL1 hb hC hx
   exact(h.hole g v o1 L b C i j e1 x _ u n hr k1 k2 hL1 hb (by rw[k3];exact z1) q1 q2 (by rw[k4];exact z2)).mono hF hβ
  ·have:=pl _ i j e _ k he hj;cases this
theorem AE.congr {F:Fz} {β:Bt} {n0:Nat} {M:Nat->Prop} {σ σ':S} {w:World} {φ:Nat->Nat->Nat->Nat->Prop} (h:AE F β n0 M σ w φ) (hg:∀ g,σ'.go g=σ.go g):AE F β n0 M σ' w φ :=
 ⟨λg v o L b C i j e x s ty es hr h1=>h.row g v o L b C i j e x s ty es hr ((hg g).symm.trans h1),λg v o L b C i j e x nm u n hr h1=>h.hole g v o L b C i j e x nm u n hr ((hg g).symm.trans h1),h.none_,h.lt,h.new,
  λg i j b g' v' o' L' hb h1=>h.sep g i j b g' v' o' L' hb ((hg g').symm.trans h1),h.dis⟩
theorem BH {α:Type} (l r:List (Nat×α)) (t:Nat):look (l++r) t=(look l t).or (look r t):=by
 induction l with
 | nil=>simp[look]
 | cons p l ih =>
  obtain⟨k,x⟩:=p
  simp only[List.cons_append,look]
  split<;>simp[ih]
theorem Bl {α:Type} {l:List (Nat×α)} {t:Nat} {x:α} (h:look l t=some x):(t,x)∈l:=by
 induction l with
 | nil=>simp[look]at h
 | cons p l ih =>
  obtain⟨k,y⟩:=p
  simp only[look]at h
  split at h
  ·rename_i e;cases h;subst e;simp
  ·exact List.mem_cons_of_mem _ (ih h)
theorem Ei {α:Type} {l:List (Nat×α)} {t:Nat} (h:look l t=none):∀ x,(t,x)∉l:=by
 induction l with
 | nil=>intro x hx;cases hx
 | cons p l ih =>
  obtain⟨k,y⟩:=p
  simp only[look]at h
  split at h
  ·cases h
  ·rename_i hne
   intro x hx
   cases hx with
   | head=>exact hne rfl
   | tail _ hx=>exact ih h x hx
theorem Aq.nil (σ:S):Aq σ []:=λ_ h=>by cases h
theorem Aq.append {σ:S} {a b:List (Nat×Ac)} (ha:Aq σ a) (hb:Aq σ b):Aq σ (a++b):=λp hp=>(aAu.1 hp).elim (ha p) (hb p)
theorem Aq.go {σ:S} {ws:List (Nat×Ac)} (h:Aq σ ws) (g:Nat) :
  (∃ v o,σ.go g=some (v,o)/\o.var=false/\(g,some (v,{ o with fz:=true }))∈ws/\(S.mk σ.e (ws++σ.o) σ.n).go g=some (v,{ o with fz:=true })) \/
  ((∀ x,(g,x)∉ws)/\(S.mk σ.e (ws++σ.o) σ.n).go g=σ.go g):=by
 simp only[S.go,BH]
 cases hl:look ws g with
 | none=>exact .inr ⟨Ei hl,by simp⟩
 | some x =>
  obtain⟨v,o,h1,h2,h3⟩:=h _ (Bl hl)
  refine .inl ⟨v,o,h1,h2,?_,?_⟩
  ·have:=Bl hl
   simp only at h3
   rw[<- h3];exact this
  ·simp only at h3
   simp[h3]
section
variable {N:Nat} {w0:World} {F0:Fz} {M:Nat->Prop} {B0:Bt} {σ:S} {F:Fz} {β:Bt} {a:Act} {w:World}
open Classical in
theorem Sim.freeze (h:Sim N w0 F0 M B0 σ F β a w) {ws:List (Nat×Ac)} (hw:Aq σ ws):∃ F',Ag F F'/\Sim N w0 F0 M B0 ⟨σ.e,ws++σ.o,σ.n⟩ F' β a w/\∀ φ,AE F β w0.heap.size M σ w φ->AE F' β w0.heap.size M ⟨σ.e,ws++σ.o,σ.n⟩ w φ:=by
 let G:Nat->Prop:=λb=>∃ g v o L,σ.go g=some (v,o)/\o.var=false/\o.fz=false/\β v=some L/\L.b=some b/\∃ x,(g,x)∈ws
 let F':Fz:=λb i=>if G b then w.cell? ⟨b,i,none⟩else F b i
 have hsub:Ag F F':=by
  intro b i x hx
  show(if G b then w.cell? ⟨b,i,none⟩else F b i)=some x
  split
  ·exact h.frz b i x hx
  ·exact hx
 have hG:∀ b,G b->b<w.heap.size/\(w0.heap.size<=b\/M b):=by
  rintro b ⟨g,v,o,L,h1,h2,h3,h4,h5,_⟩
  obtain⟨_,hb,hor⟩:=h.sep g v o L b h1 h3 h4 h5
  exact⟨hb,hor.imp id And.left⟩
 have hrk:∀ φ,AE F β w0.heap.size M σ w φ->AE F' β w0.heap.size M ⟨σ.e,ws++σ.o,σ.n⟩ w φ:=by
  intro φ hφ
  have hGφ:∀ g i j b,φ g i j b->¬ G b:=by
   rintro g i j b hb ⟨g',v',o',L',q1,q2,q3,q4,q5,_⟩
   exact hφ.sep g i j b g' v' o' L' hb q1 q3 q4 q5
  have hback:∀ g v o,(S.mk σ.e (ws++σ.o) σ.n).go g=some (v,o)->o.fz=false->σ.go g=some (v,o):=by
   intro g v o hg hf
   rcases hw.go g with⟨_,_,_,_,_,h4⟩|⟨h1,h2⟩
   ·rw[h4]at hg;cases hg;cases hf
   ·rw[<- h2];exact hg
  refine hφ.QA hsub (Aw.refl _) (aAU _) (λg i j b hb k=>?_) (λ_ _ _ _ _=>rfl) (λg v o hg=>?_) (λg v o hr hg hf=>.inl ⟨o,hback g v o hg hf,hf,rfl,rfl,λi j e c he hj _=>⟨⟨e,he,hj⟩,λL b C x _ _ hC hx=>⟨C,hC,hx⟩⟩⟩) (λg i j b g' v' o' L' hb hg hf=>hφ.sep g i j b g' v' o' L' hb (hback _ _ _ hg hf) hf)
  ·show(if G b then w.cell? ⟨b,k,none⟩else F b k)=F b k
   rw[if_neg (hGφ g i j b hb)]
  ·obtain⟨L,hL,_⟩:=h.own g v o hg
   exact⟨L,hL⟩
 refine⟨F',hsub,?_,hrk⟩
 refine{ nam:=h.nam,size:=h.size,defers:=h.defers,env:=λt=>(h.env t).mono hsub (Aw.refl _),own:=?_,dist:=?_,sep:=?_,Ab:=?_,frz:=?_,fin:=?_,step:=?_ }
 ·intro g v o hg
  rcases hw.go g with⟨v',o',h1,h2,h3,h4⟩|⟨h1,h2⟩
  ·rw[h4]at hg
   cases hg
   obtain⟨L,hL,hz,hk⟩:=h.own g _ _ h1
   refine⟨L,hL,λ_=>?_,λhf=>by cases hf⟩
   cases hfz:o'.fz with
   | true=>exact(hz hfz).mono hsub
   | false =>
    obtain⟨k1,k2,k3,k4,k5,k6⟩:=hk hfz
    refine .inr ⟨h2,k1,k2,k3,k5,?_⟩
    cases hb:L.b with
    | none =>
     rw[hb]at k6
     have:o'.es.length=0:=by omega
     exact aAJ this
    | some b =>
     rw[hb]at k6
     obtain⟨C,hC,_,hx⟩:=k6
     intro i j e d he hd
     obtain⟨x,hx1,hx2,hx3⟩:=hx i j e d he hd
     have hGb:G b:=⟨g,_,_,L,h1,h2,hfz,hL,hb,_,h3⟩
     refine⟨x,?_,hx2,?_⟩
     ·show(if G b then w.cell? ⟨b,_,none⟩else F b _)=some x
      rw[if_pos hGb]
      simp[aAx,hC,hx1]
     ·rw[h2]at hx3
      exact Fro.mono hsub hx3
  ·rw[h2]at hg
   obtain⟨L,hL,hz,hk⟩:=h.own g _ _ hg
   exact⟨L,hL,λhf=>(hz hf).mono hsub,λhf=>(hk hf).QA hsub (Aw.refl _) (λ_ _=>rfl)⟩
 ·intro g g' v v' o o' L L' b hg hg' hf hf' hL hL' hb hb'
  rcases hw.go g with⟨_,_,_,_,_,h4⟩|⟨_,h2⟩
  ·rw[h4]at hg;cases hg;cases hf
  ·rcases hw.go g' with⟨_,_,_,_,_,h4'⟩|⟨_,h2'⟩
   ·rw[h4']at hg';cases hg';cases hf'
   ·rw[h2]at hg;rw[h2']at hg'
    exact h.dist g g' v v' o o' L L' b hg hg' hf hf' hL hL' hb hb'
 ·intro g v o L b hg hf hL hb
  rcases hw.go g with⟨_,_,_,_,_,h4⟩|⟨h1,h2⟩
  ·rw[h4]at hg;cases hg;cases hf
  ·rw[h2]at hg
   obtain⟨k1,k2,k3⟩:=h.sep g v o L b hg hf hL hb
   refine⟨λi=>?_,k2,k3⟩
   show(if G b then w.cell? ⟨b,i,none⟩else F b i)=none
   rw[if_neg]
   ·exact k1 i
   ·rintro⟨g',v',o',L',q1,q2,q3,q4,q5,x,q6⟩
    have:=h.dist g g' v v' o o' L L' b hg q1 hf q3 hL q4 hb q5
    subst this
    exact h1 x q6
 ·obtain⟨φ,hφ⟩:=h.Ab
  exact⟨φ,hrk φ hφ⟩
 ·intro b i x hx
  change (if G b then w.cell? ⟨b,i,none⟩else F b i)=some x at hx
  split at hx
  ·exact hx
  ·exact h.frz b i x hx
 ·intro b i x hx
  change (if G b then w.cell? ⟨b,i,none⟩else F b i)=some x at hx
  split at hx
  ·rename_i hb;exact(hG b hb).1
  ·exact h.fin b i x hx
 ·refine⟨h.step.os,h.step.tape,h.step.output,h.step.size,h.step.block,h.step.sub.trans hsub,λb i hb hM=>?_⟩
  rw[<- h.step.old b i hb hM]
  show(if G b then w.cell? ⟨b,i,none⟩else F b i)=F b i
  rw[if_neg]
  intro hGb
  rcases(hG b hGb).2 with h2|h2
  ·omega
  ·exact hM h2
theorem GO {F:Fz} {L:Loc} {o:Own} (h:DG F L o) {i n c:Nat} {a:Option Addr} (hin:i+n<=o.es.length) (hc:i+n<=L.cap)
  (ha:0<n->∃ b,L.b=some b/\a=some ⟨b,i*L.s,none⟩) (hcc:n<=c):Fro F (.sl ((o.es.drop i).take n)) (.slice a n c):=by
 rcases aAb n with hn|hn
 ·subst hn
  simp only[List.take_zero]
  exact .sl0 a c
 ·obtain⟨b,hb,rfl⟩:=ha hn
  obtain⟨h0,h1,h2,h3,h4,h5⟩:=h.old hb
  rw[hb]at h5
  have hlen:((o.es.drop i).take n).length=n:=by simp;omega
  have hsub:∀ e∈(o.es.drop i).take n,e∈o.es:=λe he=>aAg (aAS he)
  have hidx:∀ (k:Nat) e,((o.es.drop i).take n)[k]? =some e->o.es[i+k]? =some e:=by
   intro k e he
   rw[aAH]at he
   split at he
   ·rwa[aAR]at he
   ·cases he
  have key:∀ (k j:Nat) e d,((o.es.drop i).take n)[k]? =some e->(cells e)[j]? =some d->∃ x,F b ((i+k)*o.s+j)=some x/\x.oneCell'=true/\Fro F d x :=
   λk j e d he hd=>h5 (i+k) j e d (hidx k e he) hd
  have:=Fro.sl (F:=F) ((o.es.drop i).take n) b (i*L.s) c o.s (λk j=>(F b ((i+k)*o.s+j)).getD undef) (by omega) (λe he=>h4 e (hsub e he))
   (λk j e d he hd=>by
    obtain⟨x,hx,_,_⟩:=key k j e d he hd
    have e1:i*L.s+k*o.s+j=(i+k)*o.s+j:=by rw[h1,aAL]
    rw[e1,hx];rfl)
   (λk j e d he hd=>by obtain⟨x,hx,h1',_⟩:=key k j e d he hd;rw[hx];exact h1')
   (λk j e d he hd=>by obtain⟨x,hx,_,h3'⟩:=key k j e d he hd;rw[hx];exact h3')
  rw[hlen]at this
  exact this
theorem EH (_h:Sim N w0 F0 M B0 σ F β a w) (d:D) {x:Value} (hx:Cel F β d x) (hc:((AJ d).run σ).1) :
  Aq σ ((AJ d).run σ).2.2/\∀ (ws:List (Nat×Ac)) F',Aq σ ws->(∀ p∈((AJ d).run σ).2.2,p∈ws)->Ag F F'->Sim N w0 F0 M B0 ⟨σ.e,ws++σ.o,σ.n⟩ F' β a w->Fro F' ((AJ d).run σ).2.1 x:=by
 cases d with
 | osl g v i n =>
  simp only[AJ,R.run]at hc ⊢
  cases hg:σ.go g with
  | none=>rw[hg]at hc;exact hc.elim
  | some p =>
   obtain⟨v',o⟩:=p
   rw[hg]at hc
   simp only[R.run]at hc ⊢
   obtain⟨rfl,hvar,hin⟩:=hc
   refine⟨?_,?_⟩
   ·intro p hp
    simp only[List.mem_singleton]at hp
    subst hp
    exact⟨v,o,hg,hvar,rfl⟩
   ·intro ws F' hws hsub hF hS
    obtain⟨L,a',hL,rfl,hcap,ha0,ha⟩:=hx
    have hgo:(S.mk σ.e (ws++σ.o) σ.n).go g=some (v,{ o with fz:=true }):=by
     rcases hws.go g with⟨v2,o2,h1,_,_,h4⟩|⟨h1,_⟩
     ·rw[hg]at h1;cases h1;exact h4
     ·exact absurd (hsub (g,some (v,{ o with fz:=true })) (by simp)) (h1 _)
    obtain⟨L',hL',hz,_⟩:=hS.own g _ _ hgo
    rw[hL]at hL'
    cases hL'
    exact GO (o:={ o with fz:=true }) (hz rfl) hin hcap ha (by omega)
 | optr=>exact hc.elim
 | mref=>exact hc.elim
 | vsl=>exact hc.elim
 | when=>exact hc.elim
 | tup=>exact hc.elim
 | clo f caps =>
  refine⟨Aq.nil σ,λ_ F' _ _ hF _=>?_⟩
  obtain⟨vs,rfl,hl,hv⟩:=hx
  have hc:caps.all QT=true:=hc
  refine .clo f caps vs hl λj c v hj hjv=>?_
  have h1:=aAN.1 hc c (aAA hj)
  have h2:=hv j c v hj hjv
  cases c<;>first|(cases h1;done)|exact Fro.mono hF h2
 | agg=>exact hc.elim
 | row s ty es=>exact⟨Aq.nil σ,λ_ _ _ _ _ _=>.row s ty es x⟩
 | hole nm u n=>exact⟨Aq.nil σ,λ_ _ _ _ _ _=>.hole nm u n x⟩
 | top=>exact⟨Aq.nil σ,λ_ _ _ _ _ _=>.top x⟩
 | int k n=>exact⟨Aq.nil σ,λ_ _ _ _ hF _=>Fro.mono hF hx⟩
 | bool b=>exact⟨Aq.nil σ,λ_ _ _ _ hF _=>Fro.mono hF hx⟩
 | str s=>exact⟨Aq.nil σ,λ_ _ _ _ hF _=>Fro.mono hF hx⟩
 | sl es=>exact⟨Aq.nil σ,λ_ _ _ _ hF _=>Fro.mono hF hx⟩
 | nils=>exact⟨Aq.nil σ,λ_ _ _ _ hF _=>by cases hx;exact .sl0 none 0⟩
 | fptr e o=>exact⟨Aq.nil σ,λ_ _ _ _ hF _=>Fro.mono hF hx⟩
 | nilf=>exact⟨Aq.nil σ,λ_ _ _ _ hF _=>Fro.mono hF hx⟩
 | ifc t d=>exact⟨Aq.nil σ,λ_ _ _ _ hF _=>Fro.mono hF hx⟩
 | nilp=>exact⟨Aq.nil σ,λ_ _ _ _ hF _=>Fro.mono hF hx⟩
theorem Hc (h:Sim N w0 F0 M B0 σ F β a w):∀ (cs:List D) (vs:List Value),cs.length=vs.length->(∀ (j:Nat) c v,cs[j]? =some c->vs[j]? =some v->Cel F β c v)->((AZ cs).run σ).1 ->
  Aq σ ((AZ cs).run σ).2.2/\((AZ cs).run σ).2.1.length=vs.length/\∀ (ws:List (Nat×Ac)) F',Aq σ ws->(∀ p∈((AZ cs).run σ).2.2,p∈ws)->Ag F F'->Sim N w0 F0 M B0 ⟨σ.e,ws++σ.o,σ.n⟩ F' β a w ->
   ∀ (j:Nat) c v,((AZ cs).run σ).2.1[j]? =some c->vs[j]? =some v->Fro F' c v
 | [],vs,hl,_,_=>by
  refine⟨Aq.nil σ,by simpa[AZ]using hl,λ_ _ _ _ _ _ j c v hc=>?_⟩
  simp[AZ]at hc
 | d::cs,[],hl,_,_=>by simp at hl
 | d::cs,v::vs,hl,hx,hc=>by
  simp only[AZ,R.run_bind,R.run_pure]at hc ⊢
  obtain⟨hc1,hc2⟩:=hc
  obtain⟨f1,r1⟩:=EH h d (hx 0 d v rfl rfl) hc1
  obtain⟨f2,l2,r2⟩:=Hc h cs vs (by simpa using hl) (λj c v hc hv=>hx (j+1) c v (by simpa using hc) (by simpa using hv)) hc2
  refine⟨f1.append f2,by simp[l2],λws F' hws hsub hF hS j c v' hc' hv'=>?_⟩
  cases j with
  | zero =>
   simp only[aAC,Option.some.injEq]at hc' hv'
   subst hc';subst hv'
   exact r1 ws F' hws (λp hp=>hsub p (by simp[hp])) hF hS
  | succ j =>
   simp only[aAT]at hc' hv'
   exact r2 ws F' hws (λp hp=>hsub p (by simp[hp])) hF hS j c v' hc' hv'
theorem Jz (σ:S):∀ {cs:List D},Cf true cs=true->((AZ cs).run σ).1/\((AZ cs).run σ).2=(cs.map nzD,[])
 | [],_=>⟨trivial,rfl⟩
 | d::cs,h=>by
  have go:∀ (c:Prop) (d':D),((AJ d).run σ)=(c,d',[])->c->nzD d=d'->Cf true cs=true->((AZ (d::cs)).run σ).1/\((AZ (d::cs)).run σ).2=((d::cs).map nzD,[]):=by
   intro c d' h1 h2 h3 h4
   obtain⟨q1,q2⟩:=Jz σ h4
   simp only[AZ,R.run_bind,R.run_pure,h1,q2,h3,List.map_cons,aAv]
   exact⟨⟨h2,q1⟩,trivial⟩
  cases d<;>first|exact go _ _ rfl trivial rfl h|(simp[Cf]at h;done)|skip
theorem EI (σ:S) (cs:List D):∃ c:Prop,(c↔((AZ cs).run σ).1)/\(res (.agg cs)).run σ=(c,.agg ((AZ cs).run σ).2.1,((AZ cs).run σ).2.2):=by
 have hp:res (.agg cs)=bif Cf true cs then .ret (True,.agg (cs.map nzD),[])else(do
  let(c,cs',w)<-AZ cs
  pure (c,.agg cs',w)):=rfl
 rw[hp]
 cases e:Cf true cs
 ·exact⟨((AZ cs).run σ).1,.rfl,by simp only[cond_false,R.run_bind,R.run_pure]⟩
 ·obtain⟨q1,q2⟩:=Jz σ e
  rw[q2]
  exact⟨True,⟨λ_=>q1,λ_=>trivial⟩,rfl⟩
theorem FK (h:Sim N w0 F0 M B0 σ F β a w) (d:D) {x:Value} (hx:Val F β d x) (hc:((res d).run σ).1) :
  Aq σ ((res d).run σ).2.2/\∀ (ws:List (Nat×Ac)) F',Aq σ ws->(∀ p∈((res d).run σ).2.2,p∈ws)->Ag F F'->Sim N w0 F0 M B0 ⟨σ.e,ws++σ.o,σ.n⟩ F' β a w->Fro F' ((res d).run σ).2.1 x:=by
 cases d with
 | agg cs =>
  obtain⟨vs,rfl,hl,h1,hv⟩:=hx
  obtain⟨c0,hc1,e⟩:=EI σ cs
  simp only[e]at hc ⊢
  obtain⟨f,l,r⟩:=Hc h cs vs hl hv (hc1.1 hc)
  exact⟨f,λws F' hws hsub hF hS=>.agg _ vs l h1 (λj c v hc' hv'=>r ws F' hws hsub hF hS j c v hc' hv')⟩
 | tup cs=>exact hc.elim
 | _=>simp only[Val]at hx;exact EH h _ hx hc
end
@[simp] theorem S.Py (σ:S) (c:Prop) (wo:List (Nat×Ac)) (t:Nat):(σ.app ⟨c,[],wo⟩).ge t=σ.ge t:=rfl
theorem S.LQ (σ:S) (c:Prop) (dst:Option Nat) (d:D) (wo:List (Nat×Ac)) (t:Nat) :
  (σ.app ⟨c,Ad dst d,wo⟩).ge t=if dst=some t then d else σ.ge t:=by
 cases dst with
 | none=>rfl
 | some k =>
  simp only[S.ge,S.app,Ad,aBL,look,Option.some.injEq]
  by_cases h:t=k
  ·subst h;simp
  ·have h':¬ k=t:=λe=>h e.symm
   simp[h,h']
theorem GY (a:Act) (dst:Option Nat) (v:Value) (t:Nat):(a.put dst v).tmps.getD t undef=if dst=some t/\t<a.tmps.size then v else a.tmps.getD t undef:=by
 cases dst with
 | none=>simp[Act.put]
 | some k =>
  simp only[Act.put,Option.some.injEq]
  by_cases h:k=t
  ·subst h
   by_cases hk:k<a.tmps.size
   ·simp[hk]
   ·simp[hk]
  ·simp only[h,false_and,if_false,Array.getD_eq_getD_getElem?]
   rw[aAt h]
section
variable {N:Nat} {w0:World} {F0:Fz} {M:Nat->Prop} {B0:Bt} {σ:S} {F:Fz} {β:Bt} {a:Act} {w:World}
theorem Sim.put (h:Sim N w0 F0 M B0 σ F β a w) {c:Prop} {dst:Option Nat} {d:D} {v:Value} (hd:∀ t,dst=some t->t<N) (hv:Env F β d v)
  {w':World} (hh:w'.heap=w.heap) (ho:w'.os=w.os) (ht:w'.tape=w.tape) (hu:w'.output=w.output) :
  Sim N w0 F0 M B0 (σ.app ⟨c,Ad dst d,[]⟩) F β (a.put dst v) w':=by
 have hgo:∀ g,(σ.app ⟨c,Ad dst d,[]⟩).go g=σ.go g:=λg=>rfl
 refine{ nam:=h.nam,size:=?_,defers:=?_,env:=λt=>?_,own:=?_,dist:=?_,sep:=?_,Ab:=?_,frz:=?_,fin:=?_,step:=?_ }
 ·rw[<- h.size];cases dst<;>simp[Act.put]
 ·rw[<- h.defers];cases dst<;>simp[Act.put]
 ·rw[S.LQ,GY]
  by_cases hdt:dst=some t
  ·rw[if_pos hdt,if_pos ⟨hdt,by rw[h.size];exact hd t hdt⟩]
   exact hv
  ·rw[if_neg hdt,if_neg (λe=>hdt e.1)]
   exact h.env t
 ·intro g v o hg
  obtain⟨L,hL,hz,hk⟩:=h.own g v o hg
  exact⟨L,hL,hz,λhf=>(hk hf).QA (Ag.refl _) (Aw.refl _) (λb _=>by rw[hh])⟩
 ·exact h.dist
 ·intro g v o L b hg hf hL hb
  rw[hh]
  exact h.sep g v o L b hg hf hL hb
 ·obtain⟨φ,hφ⟩:=h.Ab
  refine⟨φ,hφ.QA (Ag.refl _) (Aw.refl _) (by rw[hh];exact aAU _) (λ_ _ _ _ _ _=>rfl) (λ_ _ _ _ _=>by rw[hh]) (λg v o hg=>?_) (λg v o hr hg hf=>.inl ⟨o,hg,hf,rfl,rfl,λi j e c he hj _=>⟨⟨e,he,hj⟩,λL b C x _ _ hC hx=>⟨C,by rw[<- hh];exact hC,hx⟩⟩⟩) hφ.sep⟩
  obtain⟨L,hL,_⟩:=h.own g v o hg
  exact⟨L,hL⟩
 ·intro b i x hx
  have:=h.frz b i x hx
  rw[aAx,hh]
  exact this
 ·intro b i x hx
  rw[hh];exact h.fin b i x hx
 ·refine⟨ho.trans h.step.os,ht.trans h.step.tape,hu.trans h.step.output,by rw[hh];exact h.step.size,λb hb hM=>by rw[hh];exact h.step.block b hb hM,h.step.sub,h.step.old⟩
def Snd (P:Program) (N:Nat) (w0:World) (F0:Fz) (M:Nat->Prop) (B0:Bt) (σ:S) (β:Bt) (a:Act) (w:World) (o:Oper) (nv:Nat) (u:Out):Prop :=
 ∀ (K:Act->World->Prop) (Q:Exit->Act->World->Prop),
  (∀ a' w' F' β',Sim N w0 F0 M B0 (σ.app u) F' β' a' w'->Aw β β'->(∀ v,v≠nv->β' v=β v)->K a' w')->o.wp P a w K Q
theorem Snd.pure {P:Program} {o:Oper} {nv:Nat} {c:Prop} {d:D} {v:Value} {w':World} (h:Sim N w0 F0 M B0 σ F β a w) (hd:∀ t,o.dst=some t->t<N)
  (hr:(execOp a.eval o).run P w= .ok (.value v) w') (hv:Env F β d v) (hh:w'.heap=w.heap) (ho:w'.os=w.os) (ht:w'.tape=w.tape) (hu:w'.output=w.output) :
  Snd P N w0 F0 M B0 σ β a w o nv ⟨c,Ad o.dst d,[]⟩:=by
 intro K Q hK
 unfold Oper.wp
 rw[hr]
 exact hK _ _ _ _ (h.put hd hv hh ho ht hu) (Aw.refl _) (λ_ _=>rfl)
theorem Snd.pure' {P:Program} {o:Oper} {nv:Nat} {c:Prop} {d:D} {v:Value} (h:Sim N w0 F0 M B0 σ F β a w) (hd:∀ t,o.dst=some t->t<N)
  (hr:(execOp a.eval o).run P w= .ok (.value v) w) (hv:Env F β d v):Snd P N w0 F0 M B0 σ β a w o nv ⟨c,Ad o.dst d,[]⟩ :=
 Snd.pure h hd hr hv rfl rfl rfl rfl
theorem Ef {F:Fz} (v:Value):Fro F (DT v) v:=by
 unfold DT
 split
 ·exact .int _ _
 ·exact .bool _
 ·rename_i s
  exact Fro.str (F:=F) s.data.toList
 ·exact .nils
 ·exact .nilf
 ·exact .nilp
 ·exact .top _
theorem GN {F:Fz} (v:Value) (h:BC v=true):Fro F (Bp v) v:=by
 unfold Bp
 split
 ·rename_i cs
  have h1:∀ v∈cs.toList,v.oneCell'=true:=by simp only[BC,aAN]at h;exact h
  have:=Fro.agg (F:=F) (cs.toList.map DT) cs.toList (by simp) h1 (λj c v hc hv=>by
   rw[aAI,hv]at hc
   cases hc
   exact Ef v)
  simpa using this
 ·exact Ef v
theorem CI (h:Sim N w0 F0 M B0 σ F β a w) {x:Operand} {y:Arg} (hy:Ak x=some y):Env F β ((raw y).run σ) (a.eval x):=by
 cases x with
 | tmp t=>cases hy;exact h.env t
 | const v =>
  simp only[Ak]at hy
  split at hy
  ·rename_i hv;cases hy;exact Env.Af (GN v hv)
  ·cases hy
 | global g=>cases hy
 | func f =>
  simp only[Ak]at hy
  split at hy
  ·rename_i hf
   cases hy
   exact⟨[],(Hv (vs:=[]) (show aAY f 4096=true by simpa[Nat.blt_eq]using hf)).symm,rfl,λj c v hc=>by simp at hc⟩
  ·cases hy
theorem Au (h:Sim N w0 F0 M B0 σ F β a w) {x:Operand} {y:Arg} (hy:Ak x=some y) (hp:((rdA y).run σ).1=true):Val F β ((rdA y).run σ).2 (a.eval x):=by
 have:=CI h hy
 simp only[rdA,R.run_bind,R.run_pure]at hp ⊢
 exact this.strip hp
theorem AK {k:IntKind} {n:Int} {x:Value} (h:Val F β (.int k n) x):x= .int k n:=by cases h;rfl
theorem BQ {b:Bool} {x:Value} (h:Val F β (.bool b) x):x= .bool b:=by cases h;rfl
theorem Cj {s:List UInt8} {x:Value} (h:Val F β (.str s) x):x= .string ⟨s.toArray⟩:=by cases h;rfl
theorem Fe {x:Value} (h:Val F β .nils x):x= .slice none 0 0:=by cases h;rfl
theorem NL {P:Program} {op:BinOp} {d e:D} {x y:Value} (hx:Val F β d x) (hy:Val F β e y) (hc:(HV op d e).1) (t:TypeId) (p q:Operand) (w:World) :
  ∃ v,(do eqGuard op t p q x y;binOp op t x y:Sem Value).run P w= .ok v w/\Val F β (HV op d e).2 v:=by
 unfold HV at hc ⊢
 split at hc<;>try exact hc.elim
 case h_18 s s' =>
  rw[Cj hx,Cj hy]
  refine⟨.string ⟨(s++s').toArray⟩,?_,Val.Af (.str _)⟩
  have hlen:¬ (((s.length+s'.length:Nat):Int)>IntKind.i64.max):=by
   have:IntKind.i64.max=9223372036854775807:=by decide
   rw[this];simp only at hc;omega
  have e1:(⟨s.toArray⟩:ByteArray).size=s.length:=by simp[ByteArray.size]
  have e2:(⟨s'.toArray⟩:ByteArray).size=s'.length:=by simp[ByteArray.size]
  have e3:(⟨s.toArray⟩++⟨s'.toArray⟩:ByteArray)=⟨(s++s').toArray⟩:=by
   apply ByteArray.ext
   simp[ByteArray.data_append]
  simp[eqGuard,binOp,Op.stringOp,e1,e2,e3]
  omega
 case h_19 s s' =>
  rw[Cj hx,Cj hy]
  refine⟨.bool (s==s'),?_,Val.Af (.bool _)⟩
  simp[eqGuard,binOp,Op.stringOp,ByteArray.toList_mk]
 case h_20 s s' =>
  rw[Cj hx,Cj hy]
  refine⟨.bool (!(s==s')),?_,Val.Af (.bool _)⟩
  simp[eqGuard,binOp,Op.stringOp,ByteArray.toList_mk]
 all_goals
  rw[AK hx,AK hy]
  refine⟨_,?_,Val.Af (by first|exact .int _ _|exact .bool _)⟩
  simp only at hc
  first
   | (subst hc;simp[eqGuard,binOp,Op.intArith,Op.intBits,Op.intCmp];done)
   | (obtain⟨rfl,hc⟩:=hc;simp[eqGuard,binOp,Op.intDiv,hc];done)
   | (have hc':¬ _:=Int.not_lt.2 hc;simp[eqGuard,binOp,Op.shift,hc',Nat.min_def];done)
   | skip
theorem OC {P:Program} {t:TypeId} (hu:P.underlying t=some .bool) (a b neg:Bool) (p q:Operand) (w:World) :
  (do eqGuard (if neg then .neq else .eql) t p q (.bool a) (.bool b);binOp (if neg then .neq else .eql) t (.bool a) (.bool b):Sem Value).run P w= .ok (.bool (if neg then !(a==b)else(a==b))) w:=by
 have e:(Op.equal t (.bool a) (.bool b)).run P w= .ok (a==b) w:=run_equalIn_bool w 9999 t a b hu
 cases neg<;>simp[eqGuard,binOp,e]
theorem Ht {P:Program} {e:TypeId} (he:GS P e=true) (w:World) (d:Nat) (xs ys:Array Value):∀ (cs cs':List D) (i:Nat),
  (∀ (j:Nat) c,cs[j]? =some c->∀ k n,c= .int k n->xs[i+j]? =some (.int k n))->(∀ (j:Nat) c,cs'[j]? =some c->∀ k n,c= .int k n->ys[i+j]? =some (.int k n))->(eqL cs cs').1 ->
  (Op.eqItems (d+1) e 1 xs ys (List.range' i cs.length)).run P w= .ok (eqL cs cs').2 w
 | [],[],i,_,_,_=>by simp[Op.eqItems,eqL]
 | .int k a::r,.int k' b::r',i,hx,hy,hc=>by
  obtain⟨rfl,hc⟩:=hc
  have h0:=hx 0 _ rfl k a rfl
  have h1:=hy 0 _ rfl k b rfl
  simp only[aAo]at h0 h1
  have ih:=Ht he w d xs ys r r' (i+1) (λj c hj k n hn=>by rw[aAZ,aBD 1 j];exact hx (j+1) c (by simpa using hj) k n hn)
   (λj c hj k n hn=>by rw[aAZ,aBD 1 j];exact hy (j+1) c (by simpa using hj) k n hn) hc
  simp only[GS,aAV,beq_iff_eq]at he
  obtain⟨_,he⟩:=he
  have hu:∃ q,P.underlying e=some (.int q):=by
   revert he
   cases P.underlying e with
   | none=>simp
   | some t=>cases t<;>simp
  obtain⟨q,hu⟩:=hu
  have hp:P.plainKey e=true:=by simp[Program.plainKey,hu]
  simp only[aAs,List.range'_succ,Op.eqItems,Sem.run_bind,aBI,run_part_plain w hp h0,run_part_plain w hp h1,Result.andThen_ok,run_equalIn_int w d e k q a b hu]
  cases hab:(a==b)
  ·simp[eqL,hab]
  ·simp only[eqL,hab,Bool.true_and,Bool.not_true,aAc,if_false]
   exact ih
 | [],_::_,_,_,_,hc=>hc.elim
 | .int .. ::_,[],_,_,_,hc=>hc.elim
 | .top::_,_,_,_,_,hc=>hc.elim
 | .bool _::_,_,_,_,_,hc=>hc.elim
 | .str _::_,_,_,_,_,hc=>hc.elim
 | .agg _::_,_,_,_,_,hc=>hc.elim
 | .sl _::_,_,_,_,_,hc=>hc.elim
 | .nils::_,_,_,_,_,hc=>hc.elim
 | .osl .. ::_,_,_,_,_,hc=>hc.elim
 | .optr .. ::_,_,_,_,_,hc=>hc.elim
 | .fptr .. ::_,_,_,_,_,hc=>hc.elim
 | .clo .. ::_,_,_,_,_,hc=>hc.elim
 | .nilf::_,_,_,_,_,hc=>hc.elim
 | .ifc .. ::_,_,_,_,_,hc=>hc.elim
 | .nilp::_,_,_,_,_,hc=>hc.elim
 | .tup _::_,_,_,_,_,hc=>hc.elim
 | .when .. ::_,_,_,_,_,hc=>hc.elim
 | .int .. ::_,.top::_,_,_,_,hc=>hc.elim
 | .int .. ::_,.bool _::_,_,_,_,hc=>hc.elim
 | .int .. ::_,.str _::_,_,_,_,hc=>hc.elim
 | .int .. ::_,.agg _::_,_,_,_,hc=>hc.elim
 | .int .. ::_,.sl _::_,_,_,_,hc=>hc.elim
 | .int .. ::_,.nils::_,_,_,_,hc=>hc.elim
 | .int .. ::_,.osl .. ::_,_,_,_,hc=>hc.elim
 | .int .. ::_,.optr .. ::_,_,_,_,hc=>hc.elim
 | .int .. ::_,.fptr .. ::_,_,_,_,hc=>hc.elim
 | .int .. ::_,.clo .. ::_,_,_,_,hc=>hc.elim
 | .int .. ::_,.nilf::_,_,_,_,hc=>hc.elim
 | .int .. ::_,.ifc .. ::_,_,_,_,hc=>hc.elim
 | .int .. ::_,.nilp::_,_,_,_,hc=>hc.elim
 | .int .. ::_,.tup _::_,_,_,_,hc=>hc.elim
 | .int .. ::_,.when .. ::_,_,_,_,hc=>hc.elim
theorem Kb:∀ {cs cs':List D},(eqL cs cs').1->(cs=[]/\cs'=[])\/∃ k a b r r',cs= .int k a::r/\cs'= .int k b::r'/\(eqL r r').1/\(eqL cs cs').2=((a==b)&&(eqL r r').2)
 | [],[],_=>.inl ⟨rfl,rfl⟩
 | .int k a::r,.int k' b::r',h=>by
  obtain⟨rfl,h⟩:=h
  exact .inr ⟨k,a,b,r,r',rfl,rfl,h,rfl⟩
 | [],_::_,h=>h.elim
 | c::r,c'::r',h=>by
  cases c<;>try exact h.elim
  cases c'<;>try exact h.elim
  obtain⟨rfl,h⟩:=h
  exact .inr ⟨_,_,_,r,r',rfl,rfl,h,rfl⟩
 | c::r,[],h=>by cases c<;>exact h.elim
theorem Gt {P:Program} (w:World) (d:Nat) (xs ys:Array Value):∀ (fs:List Field) (cs cs':List D) (i:Nat),(∀ (j:Nat) f,fs[j]? =some f->f.name ≠ "_" /\ f.offset=i+j/\GS P f.type=true)->fs.length=cs.length ->
  (∀ (j:Nat) c,cs[j]? =some c->∀ k n,c= .int k n->xs[i+j]? =some (.int k n))->(∀ (j:Nat) c,cs'[j]? =some c->∀ k n,c= .int k n->ys[i+j]? =some (.int k n))->(eqL cs cs').1 ->
  (Op.eqFields (d+1) xs ys fs).run P w= .ok (eqL cs cs').2 w
 | [],cs,cs',i,_,hl,_,_,hc=>by
  rcases Kb hc with⟨rfl,rfl⟩|⟨k,a,b,r,r',rfl,rfl,_⟩
  ·simp[Op.eqFields,eqL]
  ·simp at hl
 | f::fs,cs,cs',i,hf,hl,hx,hy,hc=>by
  rcases Kb hc with⟨rfl,rfl⟩|⟨k,a,b,r,r',rfl,rfl,hc',he⟩
  ·simp at hl
  ·have h0:=hx 0 _ rfl k a rfl
   have h1:=hy 0 _ rfl k b rfl
   obtain⟨n1,n2,n3⟩:=hf 0 f rfl
   simp only[aAo]at h0 h1 n2
   have ih:=Gt w d xs ys fs r r' (i+1) (λj g hj=>by
     obtain⟨m1,m2,m3⟩:=hf (j+1) g (by simpa using hj)
     exact⟨m1,by omega,m3⟩) (by simpa using hl) (λj c hj k n hn=>by rw[aAZ,aBD 1 j];exact hx (j+1) c (by simpa using hj) k n hn)
    (λj c hj k n hn=>by rw[aAZ,aBD 1 j];exact hy (j+1) c (by simpa using hj) k n hn) hc'
   simp only[GS,aAV,beq_iff_eq]at n3
   obtain⟨_,n3⟩:=n3
   have hu:∃ q,P.underlying f.type=some (.int q):=by
    revert n3
    cases P.underlying f.type with
    | none=>simp
    | some t=>cases t<;>simp
   obtain⟨q,hu⟩:=hu
   have hp:P.plainKey f.type=true:=by simp[Program.plainKey,hu]
   rw[he]
   simp only[Op.eqFields,ne_eq,n1,not_false_eq_true,if_true,Sem.run_bind,n2,run_part_plain w hp h0,run_part_plain w hp h1,Result.andThen_ok,run_equalIn_int w d f.type k q a b hu]
   cases hab:(a==b)
   ·simp
   ·simp only[Bool.true_and,Bool.not_true,aAc,if_false]
    exact ih
theorem OB {P:Program} {t:TypeId} {n:Nat} (hf:EE P t=some n) {cs cs':List D} {x y:Value} (hx:Val F β (.agg cs) x) (hy:Val F β (.agg cs') y) (hc:(eqL cs cs').1) (hn:cs.length=n) (neg:Bool) (p q:Operand) (w:World) :
  (do eqGuard (if neg then .neq else .eql) t p q x y;binOp (if neg then .neq else .eql) t x y:Sem Value).run P w= .ok (.bool (if neg then !(eqL cs cs').2 else(eqL cs cs').2)) w:=by
 obtain⟨vs,rfl,hl,_,hv⟩:=hx
 obtain⟨vs',rfl,hl',_,hv'⟩:=hy
 have hX:∀ (j:Nat) c,cs[j]? =some c->∀ k n,c= .int k n->(vs.toArray)[0+j]? =some (.int k n):=by
  rintro j c hj k n rfl
  have hjl:j<vs.length:=by rw[<- hl];exact(aA.1 hj).1
  have e:vs[j]= .int k n:=AK (F:=F) (β:=β) (hv j _ vs[j] hj (aAB hjl))
  simp[hjl,e]
 have hY:∀ (j:Nat) c,cs'[j]? =some c->∀ k n,c= .int k n->(vs'.toArray)[0+j]? =some (.int k n):=by
  rintro j c hj k n rfl
  have hjl:j<vs'.length:=by rw[<- hl'];exact(aA.1 hj).1
  have e:vs'[j]= .int k n:=AK (F:=F) (β:=β) (hv' j _ vs'[j] hj (aAB hjl))
  simp[hjl,e]
 have key:P.eqGuardType P.depth t=false/\(Op.equalIn 10000 t (.agg vs.toArray) (.agg vs'.toArray)).run P w= .ok (eqL cs cs').2 w:=by
  unfold EE at hf
  split at hf
  ·rename_i m e hu
   split at hf
   ·rename_i hcond
    simp only[aAV,Bool.not_eq_true']at hcond
    obtain⟨⟨h1,h2⟩,h3⟩:=hcond
    obtain⟨i,hi⟩:=aAM.1 h1
    cases hf
    refine⟨h3,?_⟩
    rw[show(10000:Nat)=9998+1+1 from rfl,run_equalIn_array w (9998+1) vs.toArray vs'.toArray hu hi]
    have hc1:P.cellsOf e=1:=by
     simp only[GS,aAV,beq_iff_eq]at h2
     exact h2.1
    rw[hc1,List.range_eq_range',<- hn]
    exact Ht h2 w 9998 _ _ cs cs' 0 hX hY hc
   ·cases hf
  ·rename_i fs hu
   split at hf
   ·rename_i hcond
    simp only[aAV,Bool.not_eq_true']at hcond
    obtain⟨⟨h1,h2⟩,h3⟩:=hcond
    cases hf
    refine⟨h2,?_⟩
    have hfs:P.fieldsOf t=fs:=by simp[Program.fieldsOf,hu]
    rw[show(10000:Nat)=9998+1+1 from rfl,run_equalIn_struct w (9998+1) t vs.toArray vs'.toArray (by rw[hfs];exact hu) h1,hfs]
    refine Gt w 9998 _ _ fs.toList cs cs' 0 (λj f hj=>?_) (by simp[hn]) hX hY hc
    have hjl:j<fs.size:=by simpa using(aA.1 hj).1
    have:=aAN.1 h3 j (by simpa using hjl)
    have hj':fs[j]? =some f:=by simpa using hj
    rw[hj']at this
    simp only[aAV,bne_iff_ne,ne_eq,beq_iff_eq]at this
    exact⟨this.1.1,by omega,this.2⟩
   ·cases hf
  ·cases hf
 cases neg
 ·simp[run_eqGuard_agg w _ _ _ _ _ _ key.1,run_eql_struct,key.2]
 ·simp[run_eqGuard_agg w _ _ _ _ _ _ key.1,run_neq_struct,key.2]
theorem Pj {P:Program} {op:UnOp} {d:D} {x:Value} (hx:Val F β d x) (hc:(unD op d).1) (w:World) :
  ∃ v,(Op.unary op x).run P w= .ok v w/\Val F β (unD op d).2 v:=by
 unfold unD at hc ⊢
 split at hc<;>try exact hc.elim
 ·rw[BQ hx];exact⟨_,rfl,Val.Af (.bool _)⟩
 ·rw[AK hx];exact⟨_,rfl,Val.Af (.int _ _)⟩
 ·rw[AK hx];exact⟨_,rfl,Val.Af (.int _ _)⟩
theorem CU {d:D} {x:Value} (h:Val F β d x) (hk:known d=true) :
  x.cells.size=(cells d).length/\(∀ v∈x.cells,v.oneCell'=true)/\∀ (j:Nat) c,(cells d)[j]? =some c->∃ v,x.cells[j]? =some v/\v.oneCell'=true/\Cel F β c v:=by
 have one:∀ (d:D) (x:Value),cells d=[d]->x.cells= #[x]->x.oneCell'=true->Cel F β d x ->
   x.cells.size=(cells d).length/\(∀ v∈x.cells,v.oneCell'=true)/\∀ (j:Nat) c,(cells d)[j]? =some c->∃ v,x.cells[j]? =some v/\v.oneCell'=true/\Cel F β c v:=by
  intro d x e1 e2 e3 e4
  rw[e1,e2]
  refine⟨rfl,λv hv=>by simp at hv;subst hv;exact e3,λj c hj=>?_⟩
  rcases j with _|j
  ·simp only[aAC,Option.some.injEq]at hj
   subst hj
   exact⟨x,rfl,e3,e4⟩
  ·simp at hj
 cases d with
 | agg cs =>
  obtain⟨vs,rfl,hl,h1,hv⟩:=h
  refine⟨by simp[aAe,cells,hl],λv hv=>h1 v (by simpa[aAe]using hv),λj c hj=>?_⟩
  simp only[cells]at hj
  have hlt:j<vs.length:=by rw[<- hl];exact(aA.1 hj).1
  exact⟨vs[j],by simp[aAe,hlt],h1 _ (aAh hlt),hv j c _ hj (aAB hlt)⟩
 | top=>cases hk
 | row=>cases hk
 | hole=>cases hk
 | tup cs=>cases hk
 | when p d=>cases hk
 | int k n=>cases h;exact one _ _ rfl rfl rfl (Cel.Af (.int _ _))
 | bool b=>cases h;exact one _ _ rfl rfl rfl (Cel.Af (.bool _))
 | str s=>cases h;exact one _ _ rfl rfl rfl (Cel.Af (.str _))
 | nils=>cases h;exact one _ _ rfl rfl rfl (Cel.Af .nils)
 | nilf=>cases h;exact one _ _ rfl rfl rfl (Cel.Af .nilf)
 | nilp=>cases h;exact one _ _ rfl rfl rfl (Cel.Af .nilp)
 | ifc t d =>
  have h':Fro F (.ifc t d) x:=h
  cases h' with
  | ifc _ _ v hv=>exact one _ _ rfl rfl rfl (Cel.Af (.ifc t d v hv))
 | sl es =>
  have h':Fro F (.sl es) x:=h
  cases h with
  | sl0 a c=>exact one _ _ rfl rfl rfl (Cel.Af h')
  | sl es b o c s vf hc hs hF h1 hh=>exact one _ _ rfl rfl rfl (Cel.Af h')
 | fptr e off =>
  have h':Fro F (.fptr e off) x:=h
  cases h with
  | fptr e b o off vf hF h1 hh=>exact one _ _ rfl rfl rfl (Cel.Af h')
 | vsl g v n =>
  have h':Cel F β (.vsl g v n) x:=h
  obtain⟨L,b,_,_,rfl⟩:=h
  exact one _ _ rfl rfl rfl h'
 | mref g v =>
  have h':Cel F β (.mref g v) x:=h
  obtain⟨L,_,_,h⟩:=h
  rcases h with⟨_,rfl⟩|⟨_,rfl⟩<;>exact one _ _ rfl rfl rfl h'
 | osl g v i n =>
  have h':Cel F β (.osl g v i n) x:=h
  obtain⟨L,a,_,rfl,_⟩:=h
  exact one _ _ rfl rfl rfl h'
 | optr g v i off =>
  have h':Cel F β (.optr g v i off) x:=h
  obtain⟨L,b,_,_,rfl⟩:=h
  exact one _ _ rfl rfl rfl h'
 | clo f cs =>
  have h':Cel F β (.clo f cs) x:=h
  obtain⟨vs,rfl,_⟩:=h
  exact one _ _ rfl (Iw f vs) (Kd f vs) h'
theorem Ix {d:D} {x:Value} (h:Fro F d x) (hk:known d=true) :
  x.cells.size=(cells d).length/\(∀ v∈x.cells,v.oneCell'=true)/\∀ (j:Nat) c,(cells d)[j]? =some c->∃ v,x.cells[j]? =some v/\v.oneCell'=true/\Fro F c v:=by
 obtain⟨h1,h2,_⟩:=CU (β:=λ_=>none) (Val.Af h) hk
 refine⟨h1,h2,λj c hj=>?_⟩
 cases h with
 | agg cs vs hl _ hv =>
  simp only[cells]at hj
  have hlt:j<vs.length:=by rw[<- hl];exact(aA.1 hj).1
  exact⟨vs[j],by simp[aAe,hlt],h2 _ (by simp[aAe]),hv j c _ hj (aAB hlt)⟩
 | top=>cases hk
 | row=>cases hk
 | hole=>cases hk
 | tup=>cases hk
 | int k n=>rcases j with _|j<;>simp[cells]at hj;subst hj;exact⟨_,rfl,rfl,.int _ _⟩
 | bool b=>rcases j with _|j<;>simp[cells]at hj;subst hj;exact⟨_,rfl,rfl,.bool _⟩
 | str s=>rcases j with _|j<;>simp[cells]at hj;subst hj;exact⟨_,rfl,rfl,.str _⟩
 | nils=>rcases j with _|j<;>simp[cells]at hj;subst hj;exact⟨_,rfl,rfl,.nils⟩
 | nilf=>rcases j with _|j<;>simp[cells]at hj;subst hj;exact⟨_,rfl,rfl,.nilf⟩
 | ifc t d v hv=>rcases j with _|j<;>simp[cells]at hj;subst hj;exact⟨_,rfl,rfl,.ifc t d v hv⟩
 | nilp=>rcases j with _|j<;>simp[cells]at hj;subst hj;exact⟨_,rfl,rfl,.nilp⟩
 | sl0 a c=>rcases j with _|j<;>simp[cells]at hj;subst hj;exact⟨_,rfl,rfl,.sl0 _ _⟩
 | sl es b o c s vf hc hs hF h1' hh=>rcases j with _|j<;>simp[cells]at hj;subst hj;exact⟨_,rfl,rfl,.sl es b o c s vf hc hs hF h1' hh⟩
 | fptr e b o off vf hF h1' hh=>rcases j with _|j<;>simp[cells]at hj;subst hj;exact⟨_,rfl,rfl,.fptr e b o off vf hF h1' hh⟩
 | clo f cs vs hl hh=>rcases j with _|j<;>simp[cells]at hj;subst hj;exact⟨fnV f vs,by rw[Iw];rfl,Kd f vs,.clo f cs vs hl hh⟩
theorem Jt {P:Program} {cs:List D} {vs:List Value} (hl:cs.length=vs.length) (h1:∀ v∈vs,v.oneCell'=true) (hv:∀ (j:Nat) c v,cs[j]? =some c->vs[j]? =some v->Cel F β c v)
  (t:TypeId) (off n:Nat) (agg:Bool) (hagg:Cq P t=agg) (hu:(P.underlying t).isSome=true) (hn:agg=true->P.info? t≠none/\n=P.cellsOf t) (hn1:agg=false->n=1) (hle:off+n<=cs.length) (w:World) :
  ∃ v,(part t vs.toArray off).run P w= .ok v w/\Val F β (QN cs off n agg) v:=by
 obtain⟨d,hd⟩:=aAM.1 hu
 have hr:(isAgg t).run P w= .ok agg w:=by
  unfold isAgg
  simp only[Sem.run_bind,run_underlying hd,Result.andThen_ok]
  unfold Cq at hagg
  rw[hd]at hagg
  cases d<;>simp_all
 cases agg with
 | true =>
  obtain⟨hi,rfl⟩:=hn rfl
  obtain⟨i,hi⟩:=aAP.1 hi
  have hsz:P.cellsOf t=i.size:=by simp[aAd,hi]
  refine⟨.agg (vs.toArray.extract off (off+i.size)),by simp[part,hr,sizeOf,typeInfo,hi],?_⟩
  refine⟨(vs.drop off).take (P.cellsOf t),by simp[hsz,aBA],by simp;omega,λv hv'=>h1 v (aAg (aAS hv')),?_⟩
  intro j c v hc hv'
  rw[aAH]at hc hv'
  split at hc
  ·rename_i hj
   rw[if_pos hj]at hv'
   rw[aAR]at hc hv'
   exact hv _ _ _ hc hv'
  ·cases hc
 | false =>
  obtain rfl:=hn1 rfl
  have hlt:off<vs.length:=by omega
  refine⟨vs[off],by simp[part,hr,hlt],?_⟩
  have hlc:off<cs.length:=by omega
  have:QN cs off 1 false=cs[off]:=by simp[QN,hlc]
  rw[this]
  exact Val.Ap (hv off _ _ (aAB hlc) (aAB hlt))
theorem Hw {u:D} {x:Value} {F:Fz} {β:Bt} (hg:AV u=true) (h:Val F β u x):∀ F',Fro F' u x:=by
 intro F'
 cases u<;>first|(cases hg;done)|skip
 ·cases h;exact .int _ _
 ·cases h;exact .bool _
 ·cases h;exact .str _
end
section
variable {N:Nat} {w0:World} {F0:Fz} {M:Nat->Prop} {B0:Bt} {σ:S} {F:Fz} {β:Bt} {a:Act} {w:World}
theorem Jb (h:Sim N w0 F0 M B0 σ F β a w) {d:D} {x:Value} (hx:Val F β d x) (hc:((QS d).run σ).1) :
  ∃ b o,x= .pointer (some ⟨b,o+((QS d).run σ).2.2,none⟩)/\∀ (j:Nat) c,(cells ((QS d).run σ).2.1)[j]? =some c->∃ v,w.cell? ⟨b,o+j,none⟩=some v/\v.oneCell'=true/\Cel F β c v:=by
 cases d<;>try exact hc.elim
 case optr g v i off =>
  simp only[QS,R.run]at hc ⊢
  cases hg:σ.go g with
  | none=>rw[hg]at hc;exact hc.elim
  | some p =>
   obtain⟨v',o⟩:=p
   rw[hg]at hc
   simp only[R.run]at hc ⊢
   obtain⟨rfl,hi⟩:=hc
   obtain⟨L,b,hL,hb,rfl⟩:=hx
   obtain⟨L',hL',hz,hk⟩:=h.own g v o hg
   rw[hL]at hL';cases hL'
   have hget:o.es[i]? =some (o.es.getD i .top):=by simp[hi]
   refine⟨b,i*L.s,rfl,λj c hj=>?_⟩
   cases hfz:o.fz with
   | true =>
    obtain⟨_,e1,_,_,_,h5⟩:=(hz hfz).old hb
    rw[hb]at h5
    obtain⟨y,hy1,hy2,hy3⟩:=h5 i j _ c hget hj
    exact⟨y,by rw[e1];exact h.frz _ _ _ hy1,hy2,Cel.Af hy3⟩
   | false =>
    obtain⟨e1,_,_,_,_,h6⟩:=hk hfz
    rw[hb]at h6
    obtain⟨C,hC,_,hcell⟩:=h6
    obtain⟨y,hy1,hy2,hy3⟩:=hcell i j _ c hget hj
    refine⟨y,by rw[e1];simp[aAx,hC,hy1],hy2,?_⟩
    split at hy3
    ·exact hy3
    ·exact Cel.Af hy3
 case fptr e off =>
  simp only[QS,R.run]
  cases hx with
  | fptr e b o off vf hF h1 hh =>
   exact⟨b,o,rfl,λj c hj=>⟨_,h.frz _ _ _ (hF j c hj),h1 j c hj,Cel.Af (hh j c hj)⟩⟩
theorem Bx (b o n:Nat):(⟨b,o,none⟩:Addr).add n=⟨b,o+n,none⟩:=by
 unfold Addr.add;split<;>simp_all
theorem FN {P:Program} {t:TypeId} (hu:(P.underlying t).isSome=true) (w:World):(isAgg t).run P w= .ok (Cq P t) w:=by
 obtain⟨d,hd⟩:=aAM.1 hu
 unfold isAgg Cq
 simp only[Sem.run_bind,run_underlying hd,Result.andThen_ok,hd]
 cases d<;>rfl
theorem Ox {P:Program} {t:TypeId} {i:TypeInfo} (_h:P.info? t=some i):True:=trivial
theorem Ki {P:Program} (h:Sim N w0 F0 M B0 σ F β a w) {d:D} {x:Value} (hx:Val F β d x) (hc:((QS d).run σ).1) (t:TypeId) (n:Nat) (agg:Bool) (hagg:Cq P t=agg) (hu:(P.underlying t).isSome=true)
  (hn:agg=true->P.info? t≠none/\n=P.cellsOf t) (hn1:agg=false->n=1) (hle:((QS d).run σ).2.2+n<=(cells ((QS d).run σ).2.1).length) :
  ∃ v,(aBR t x).run P w= .ok v w/\Val F β (QN (cells ((QS d).run σ).2.1) ((QS d).run σ).2.2 n agg) v:=by
 obtain⟨b,o,rfl,hcell⟩:=Jb h hx hc
 generalize((QS d).run σ).2.1=e at *
 generalize((QS d).run σ).2.2=off at *
 have hr:=FN (P:=P) hu w
 rw[hagg]at hr
 have key:∀ j,j<n->∃ c v,(cells e)[off+j]? =some c/\w.cell? ⟨b,o+off+j,none⟩=some v/\v.oneCell'=true/\Cel F β c v:=by
  intro j hj
  have hlt:off+j<(cells e).length:=by omega
  obtain⟨v,h1,h2,h3⟩:=hcell (off+j) _ (aAB hlt)
  exact⟨_,v,aAB hlt,by rw[aAZ];exact h1,h2,h3⟩
 cases agg with
 | true =>
  obtain⟨hi,rfl⟩:=hn rfl
  obtain⟨i,hi⟩:=aAP.1 hi
  have hsz:P.cellsOf t=i.size:=by simp[aAd,hi]
  let f:Nat->Value:=λj=>(w.cell? ⟨b,o+off+j,none⟩).getD undef
  have hl:=run_loadCells (P:=P) w ⟨b,o+off,none⟩ i.size f (λj hj=>by
   obtain⟨c,v,_,h2,_⟩:=key j (by omega)
   rw[Bx];simp[f,h2])
  refine⟨.agg ((aAa i.size).map f).toArray,by simp[aBR,aBM,loadVar,hr,sizeOf,typeInfo,hi,hl],?_⟩
  refine⟨(aAa i.size).map f,rfl,by simp;omega,?_,?_⟩
  ·intro v hv
   simp only[aAn,List.mem_range]at hv
   obtain⟨j,hj,rfl⟩:=hv
   obtain⟨c,v,_,h2,h3,_⟩:=key j (by omega)
   simp[f,h2,h3]
  ·intro j c v hc hv
   rw[aAH]at hc
   split at hc
   ·rename_i hj
    rw[aAR]at hc
    obtain⟨c',v',h1,h2,_,h4⟩:=key j hj
    rw[h1]at hc;cases hc
    rw[aAI,aAw (by omega)]at hv
    simp[f,h2]at hv
    subst hv
    exact h4
   ·cases hc
 | false =>
  obtain rfl:=hn1 rfl
  obtain⟨c,v,h1,h2,h3,h4⟩:=key 0 (by omega)
  simp only[aAo]at h1 h2
  refine⟨v,by simp[aBR,aBM,loadVar,hr,h2],?_⟩
  have:QN (cells e) off 1 false=c:=by simp[QN,h1]
  rw[this]
  exact Val.Ap h4
theorem LX {P:Program} (h:Sim N w0 F0 M B0 σ F β a w) {t e:TypeId} (ht:P.underlying t=some (.slice e)) (hi:P.info? e≠none) {d:D} {x:Value} (hx:Val F β d x) (k:IntKind) (j:Int) :
  (∀ g v i n v' o,d= .osl g v i n->σ.go g=some (v',o)->v=v'/\o.s=P.cellsOf e->0<=j->j<n->∃ y,(aAk t x (.int k j)).run P w= .ok y w/\Val F β (.optr g v (i+j.toNat) 0) y) /\
  (∀ es,d= .sl es->0<=j->j<es.length->(cells (es.getD j.toNat .top)).length=P.cellsOf e->∃ y,(aAk t x (.int k j)).run P w= .ok y w/\Val F β (.fptr (es.getD j.toNat .top) 0) y):=by
 obtain⟨i,hi⟩:=aAP.1 hi
 have hsz:P.cellsOf e=i.size:=by simp[aAd,hi]
 constructor
 ·rintro g v i0 n v' o rfl hg ⟨rfl,hs⟩ h0 h1
  obtain⟨L,ad,hL,rfl,hcap,_,hpos⟩:=hx
  obtain⟨b,hb,rfl⟩:=hpos (by omega)
  obtain⟨L',hL',hz,hk⟩:=h.own g v o hg
  rw[hL]at hL';cases hL'
  have hLs:L.s=o.s:=by
   cases hfz:o.fz with
   | true=>exact((hz hfz).old hb).2.1
   | false=>exact(hk hfz).1
  refine⟨.pointer (some ⟨b,i0*L.s+j.toNat*i.size,none⟩),?_,L,b,hL,hb,?_⟩
  ·have hj:0<=j/\j<(n:Int):=⟨h0,h1⟩
   simp[aAk,asIntOf,run_underlying ht,sizeOf,typeInfo,hi,hj,Bx]
  ·rw[hLs,hs,hsz,aAL];rfl
 ·rintro es rfl h0 h1 hlen
  cases hx with
  | sl0 a c=>simp at h1;omega
  | sl es b o c s vf hc hs hF h1' hh =>
   have hj:0<=j/\j<(es.length:Int):=⟨h0,h1⟩
   have hlt:j.toNat<es.length:=by omega
   have hget:es[j.toNat]? =some (es.getD j.toNat .top):=by simp[hlt]
   have hse:s=i.size:=by rw[<- hsz,<- hlen];exact(hs _ (aAA hget)).symm
   refine⟨.pointer (some ⟨b,o+j.toNat*i.size,none⟩),?_,?_⟩
   ·simp[aAk,asIntOf,run_underlying ht,sizeOf,typeInfo,hi,hj,Bx]
   ·rw[<- hse]
    exact Val.Af (Fro.fptr _ b (o+j.toNat*s) 0 (λq=>vf j.toNat q) (λq c hq=>hF _ _ _ _ hget hq) (λq c hq=>h1' _ _ _ _ hget hq) (λq c hq=>hh _ _ _ _ hget hq))
theorem OU {P:Program} {t e:TypeId} (ht:P.underlying t=some (.slice e)) (hi:P.info? e≠none) (h1:P.cellsOf e=1) {g v n:Nat} {x:Value} (hx:Val F β (.vsl g v n) x) (k:IntKind) (j:Int) (h0:0<=j) (hj:j<n) :
  ∃ y,(aAk t x (.int k j)).run P w= .ok y w/\Val F β (.optr g v 0 j.toNat) y:=by
 obtain⟨i,hi⟩:=aAP.1 hi
 have hsz:P.cellsOf e=i.size:=by simp[aAd,hi]
 obtain⟨L,b,hL,hb,rfl⟩:=hx
 refine⟨.pointer (some ⟨b,0+j.toNat*i.size,none⟩),?_,L,b,hL,hb,?_⟩
 ·have hj:0<=j/\j<(n:Int):=⟨h0,hj⟩
  simp[aAk,asIntOf,run_underlying ht,sizeOf,typeInfo,hi,hj,Bx]
 ·rw[<- hsz,h1,aBI,Nat.zero_mul]
theorem HF {P:Program} {w:World} {vl vh:Option Value} {l h:Int} (n cap:Nat) (isS:Bool) (hl:(vl=none/\l=0)\/∃ k,vl=some (.int k l)) (hh:(vh=none/\h=n)\/∃ k,vh=some (.int k h))
  (h3:0<=l) (h4:l<=h) (h5:h<=n) (hc:n<=cap):(Instr.sliceBounds isS n cap vl vh none).run P w= .ok (l.toNat,h.toNat,cap) w:=by
 unfold Instr.sliceBounds
 have q1:0<=h/\h<=(cap:Int):=⟨by omega,by omega⟩
 have q2:0<=l/\l<=((h.toNat:Nat):Int):=⟨h3,by omega⟩
 rcases hh with⟨rfl,rfl⟩|⟨k,rfl⟩
 ·rcases hl with⟨rfl,rfl⟩|⟨k',rfl⟩
  ·simp
  ·have q3:0<=l/\l<=(n:Int):=⟨h3,h4⟩
   simp[aBE,asIntOf,q3]
 ·rcases hl with⟨rfl,rfl⟩|⟨k',rfl⟩
  ·simp[aBE,asIntOf,q1]
  ·simp only[aBE,asIntOf,Sem.run_bind,Sem.run_pure,Result.andThen_ok,if_pos q1]
   simp only[Option.isSome_none,aAc,if_false]
   rw[if_pos q2]
   simp
theorem Cr {d? :Option D} {v? :Option Value} {n:Int} (h:∀ d,d? =some d->∃ x,v? =some x/\Val F β d x) (hn:d? =none->v? =none) (hb:(bound d? n).1) :
  (v? =none/\(bound d? n).2=n)\/∃ k,v? =some (.int k (bound d? n).2):=by
 cases d? with
 | none=>exact .inl ⟨hn rfl,rfl⟩
 | some d =>
  obtain⟨x,rfl,hx⟩:=h d rfl
  cases d<;>first|exact hb.elim|skip
  rw[AK hx]
  exact .inr ⟨_,rfl⟩
theorem NV {es:List D} {b o c s:Nat} {vf:Nat->Nat->Value} (hs:∀ e∈es,(cells e).length=s)
   (hF:∀ (i j:Nat) e d,es[i]? =some e->(cells e)[j]? =some d->F b (o+i*s+j)=some (vf i j))
   (h1:∀ (i j:Nat) e d,es[i]? =some e->(cells e)[j]? =some d->(vf i j).oneCell'=true)
   (h:∀ (i j:Nat) e d,es[i]? =some e->(cells e)[j]? =some d->Fro F d (vf i j)) (l n:Nat) (hn:l+n<=es.length) (hc:n<=c) :
   Fro F (.sl ((es.drop l).take n)) (.slice (some ⟨b,o+l*s,none⟩) n c):=by
 have hidx:∀ (k:Nat) e,((es.drop l).take n)[k]? =some e->es[l+k]? =some e:=by
  intro k e he
  rw[aAH]at he
  split at he
  ·rwa[aAR]at he
  ·cases he
 have hlen:((es.drop l).take n).length=n:=by simp;omega
 have:=Fro.sl (F:=F) ((es.drop l).take n) b (o+l*s) c s (λi j=>vf (l+i) j) (by omega) (λe he=>hs e (aAg (aAS he)))
  (λi j e d he hd=>by
   have:=hF (l+i) j e d (hidx i e he) hd
   rw[aAL,<- aAZ]at this
   exact this)
  (λi j e d he hd=>h1 (l+i) j e d (hidx i e he) hd) (λi j e d he hd=>h (l+i) j e d (hidx i e he) hd)
 rw[hlen]at this
 exact this
theorem MU {P:Program} (_h:Sim N w0 F0 M B0 σ F β a w) {t e:TypeId} (ht:P.underlying t=some (.slice e)) (hinf:P.info? e≠none) {d:D} {x:Value} (hx:Val F β d x)
  (hst:∀ g v i n L,d= .osl g v i n->β v=some L->0<n->L.s=P.cellsOf e)
  (hsl:∀ es q,d= .sl es->q∈es->(cells q).length=P.cellsOf e)
  {lo hi:Option D} {vl vh:Option Value} (hl:∀ d,lo=some d->∃ x,vl=some x/\Val F β d x) (hln:lo=none->vl=none) (hh:∀ d,hi=some d->∃ x,vh=some x/\Val F β d x) (hhn:hi=none->vh=none)
  (hd:∀ s,d≠ .str s) (hc:(BF d lo hi).1):∃ y,(aAX t x vl vh none).run P w= .ok y w/\Val F β (BF d lo hi).2 y:=by
 obtain⟨i,hi'⟩:=aAP.1 hinf
 have hsz:P.cellsOf e=i.size:=by simp[aAd,hi']
 cases d<;>try exact hc.elim
 case str s=>exact absurd rfl (hd s)
 case sl es =>
  simp only[BF]at hc ⊢
  obtain⟨c1,c2,c3,c4,c5⟩:=hc
  have b1:=Cr hl hln c1
  have b2:=Cr hh hhn c2
  generalize(bound lo 0).2=l at *
  generalize(bound ‹Option D› (es.length:Int)).2=hb at *
  cases hx with
  | sl0 a c =>
   have hr:=HF (P:=P) (w:=w) 0 c true b1 (by simpa using b2) c3 c4 (by simpa using c5) (Nat.zero_le _)
   simp only[List.length_nil,Int.ofNat_zero]at c5
   have hl0:l=0:=by omega
   have hh0:hb=0:=by omega
   subst hl0;subst hh0
   refine⟨_,by simp[aAX,aAy,run_underlying ht,hr,sizeOf,typeInfo,hi'];rfl,?_⟩
   simp only[Int.toNat_zero,List.drop_nil,List.take_nil]
   exact Val.Af (.sl0 _ _)
  | sl es b o c s vf hcc hs hF h1 hh =>
   have hr:=HF (P:=P) (w:=w) es.length c true b1 b2 c3 c4 c5 hcc
   have hrun:(aAX t (.slice (some ⟨b,o,none⟩) es.length c) vl vh none).run P w= .ok (.slice (if c=l.toNat then some ⟨b,o,none⟩else some ⟨b,o+l.toNat*i.size,none⟩) (hb.toNat-l.toNat) (c-l.toNat)) w:=by
    simp[aAX,aAy,run_underlying ht,hr,sizeOf,typeInfo,hi',Bx]
   refine⟨_,hrun,?_⟩
   rcases aAb (hb.toNat-l.toNat)with h0|h0
   ·rw[h0,List.take_zero]
    exact Val.Af (.sl0 _ _)
   ·rw[if_neg (by omega)]
    have hs':i.size=s:=by
     have hpos:0<es.length:=by omega
     rw[<- hsz,<- hsl es es[0] rfl (aAh hpos)]
     exact hs _ (aAh hpos)
    rw[hs']
    exact Val.Af (NV hs hF h1 hh _ _ (by omega) (by omega))
 case nils =>
  simp only[BF]at hc ⊢
  obtain⟨c1,c2,c3,c4⟩:=hc
  have b1:=Cr hl hln c1
  have b2:=Cr hh hhn c2
  rw[c3]at b1;rw[c4]at b2
  cases hx
  have hr:=HF (P:=P) (w:=w) 0 0 true b1 (by simpa using b2) (Int.le_refl _) (Int.le_refl _) (Int.le_refl _) (aAU _)
  refine⟨.slice none 0 0,by simp[aAX,aAy,run_underlying ht,hr,sizeOf,typeInfo,hi'],Val.Af .nils⟩
 case osl g v i0 n =>
  simp only[BF]at hc ⊢
  obtain⟨c1,c2,c3,c4,c5⟩:=hc
  have b1:=Cr hl hln c1
  have b2:=Cr hh hhn c2
  generalize(bound lo 0).2=l at *
  generalize(bound ‹Option D› (n:Int)).2=hb at *
  obtain⟨L,ad,hL,rfl,hcap,ha0,hpos⟩:=hx
  have hr:=HF (P:=P) (w:=w) n (L.cap-i0) true b1 b2 c3 c4 c5 (by omega)
  have hrun:(aAX t (.slice ad n (L.cap-i0)) vl vh none).run P w= .ok (.slice (if L.cap-i0=l.toNat then ad else ad.map (·.add (l.toNat*i.size))) (hb.toNat-l.toNat) (L.cap-i0-l.toNat)) w:=by
   simp[aAX,aAy,run_underlying ht,hr,sizeOf,typeInfo,hi']
  refine⟨_,hrun,L,_,hL,by rw[Nat.sub_sub],by omega,?_,?_⟩
  ·intro he
   have h1:i0=0:=by omega
   have h2:l.toNat=0:=by omega
   have:=ha0 h1
   subst this
   rw[h2]
   split
   ·rfl
   ·cases L.b<;>simp[Addr.add]
  ·intro hp
   obtain⟨b,hb',rfl⟩:=hpos (by omega)
   refine⟨b,hb',?_⟩
   rw[if_neg (by omega)]
   have:=hst g v i0 n L rfl hL (by omega)
   simp[Bx,aAL,this,hsz]
theorem JP {P:Program} {t:TypeId} (ht:P.underlying t=some .string) {s:List UInt8} {x:Value} (hx:Val F β (.str s) x)
  {lo hi:Option D} {vl vh:Option Value} (hl:∀ d,lo=some d->∃ x,vl=some x/\Val F β d x) (hln:lo=none->vl=none) (hh:∀ d,hi=some d->∃ x,vh=some x/\Val F β d x) (hhn:hi=none->vh=none)
  (hc:(BF (.str s) lo hi).1) (w:World):∃ y,(aAX t x vl vh none).run P w= .ok y w/\Val F β (BF (.str s) lo hi).2 y:=by
 simp only[BF]at hc ⊢
 obtain⟨c1,c2,c3,c4,c5⟩:=hc
 have b1:=Cr hl hln c1
 have b2:=Cr hh hhn c2
 generalize(bound lo 0).2=l at *
 generalize(bound hi (s.length:Int)).2=hb at *
 rw[Cj hx]
 have e1:(⟨s.toArray⟩:ByteArray).size=s.length:=by simp[ByteArray.size]
 have hr:=HF (P:=P) (w:=w) s.length s.length false b1 b2 c3 c4 c5 (aAU _)
 refine⟨.string ⟨((s.drop l.toNat).take (hb.toNat-l.toNat)).toArray⟩,?_,Val.Af (.str _)⟩
 have e2:(⟨s.toArray⟩:ByteArray).extract l.toNat hb.toNat=⟨((s.drop l.toNat).take (hb.toNat-l.toNat)).toArray⟩:=by
  apply ByteArray.ext
  simp[ByteArray.data_extract,aBA]
 simp[aAX,aAy,run_underlying ht,e1,hr,e2]
end
theorem S.Cu (σ:S) (u:Out) (g:Nat):(σ.app u).go g=match look u.wo g with|some x=>x|none=>σ.go g:=by
 simp only[S.go,S.app,BH]
 cases look u.wo g<;>rfl
section
variable {N:Nat} {w0:World} {F0:Fz} {M:Nat->Prop} {B0:Bt} {σ:S} {F:Fz} {β:Bt} {a:Act} {w:World}
theorem Sim.change (h:Sim N w0 F0 M B0 σ F β a w) {w':World} {row:Nat->Prop} {F':Fz} {β':Bt} {σ':S} {a':Act}
  (hos:w'.os=w.os) (htape:w'.tape=w.tape) (hout:w'.output=w.output) (hsz:w.heap.size<=w'.heap.size)
  (hblock:∀ b,b<w.heap.size->¬ row b->w'.heap[b]? =w.heap[b]?)
  (hrow:∀ b,row b->w0.heap.size<=b\/M b)
  (hF:Ag F F') (hFold:∀ b i,b<w.heap.size->¬ row b->F' b i=F b i) (hfrz:Fok F' w') (hfin:∀ b i x,F' b i=some x->b<w'.heap.size)
  (hβ:Aw β β') (ha:a'.tmps.size=N) (hd:a'.defers=[]) (henv:∀ t,Env F' β' (σ'.ge t) (a'.tmps.getD t undef))
  (hown:∀ g v o,σ'.go g=some (v,o) ->
   (σ.go g=some (v,o)/\∀ L b,o.fz=false->β v=some L->L.b=some b->¬ row b) \/
   (∃ L,β' v=some L/\o.fz=false/\AA F' β' w' L o/\∀ b,L.b=some b->(∀ i,F' b i=none)/\b<w'.heap.size/\(w0.heap.size<=b\/(M b/\(Dw.Ab g=true\/w0.drawn<=b)))/\(row b\/w.heap.size<=b)))
  (huniq:∀ g g' v v' o o' L L' b,σ'.go g=some (v,o)->σ'.go g'=some (v',o')->o.fz=false->o'.fz=false->β' v=some L->β' v'=some L'->L.b=some b->L'.b=some b->(row b\/w.heap.size<=b)->g=g')
  (hrich:∀ φ,AE F β w0.heap.size M σ w φ->∃ φ',AE F' β' w0.heap.size M σ' w' φ') :
  Sim N w0 F0 M B0 σ' F' β' a' w':=by
 refine{ nam:=h.nam.trans hβ,size:=ha,defers:=hd,env:=henv,own:=?_,dist:=?_,sep:=?_,Ab:=?_,frz:=hfrz,fin:=hfin,step:=?_ }
 ·intro g v o hg
  rcases hown g v o hg with⟨h1,h2⟩|⟨L,h1,h2,h3,_⟩
  ·obtain⟨L,hL,hz,hk⟩:=h.own g v o h1
   refine⟨L,hβ _ _ hL,λhf=>(hz hf).mono hF,λhf=>(hk hf).QA hF hβ (λb hb=>?_)⟩
   exact hblock b (h.sep g v o L b h1 hf hL hb).2.1 (h2 L b hf hL hb)
  ·exact⟨L,h1,(λhf=>by rw[h2]at hf;cases hf),λ_=>h3⟩
 ·intro g g' v v' o o' L L' b hg hg' hf hf' hL hL' hb hb'
  by_cases hr:row b\/w.heap.size<=b
  ·exact huniq g g' v v' o o' L L' b hg hg' hf hf' hL hL' hb hb' hr
  ·rcases hown g v o hg with⟨h1,_⟩|⟨L1,k1,_,_,k4⟩
   ·rcases hown g' v' o' hg' with⟨h1',_⟩|⟨L1,k1,_,_,k4⟩
    ·obtain⟨L2,e2,_⟩:=h.own g v o h1
     obtain⟨L3,e3,_⟩:=h.own g' v' o' h1'
     have:=hβ _ _ e2;rw[hL]at this;cases this
     have:=hβ _ _ e3;rw[hL']at this;cases this
     exact h.dist g g' v v' o o' _ _ b h1 h1' hf hf' e2 e3 hb hb'
    ·rw[hL']at k1;cases k1
     exact absurd (k4 b hb').2.2.2 hr
   ·rw[hL]at k1;cases k1
    exact absurd (k4 b hb).2.2.2 hr
 ·intro g v o L b hg hf hL hb
  rcases hown g v o hg with⟨h1,h2⟩|⟨L1,k1,_,_,k4⟩
  ·obtain⟨L2,e2,_⟩:=h.own g v o h1
   have:=hβ _ _ e2;rw[hL]at this;cases this
   obtain⟨s1,s2,s3⟩:=h.sep g v o L b h1 hf e2 hb
   exact⟨λi=>by rw[hFold b i s2 (h2 _ b hf e2 hb)];exact s1 i,aAD s2 hsz,s3⟩
  ·rw[hL]at k1;cases k1
   exact⟨(k4 b hb).1,(k4 b hb).2.1,(k4 b hb).2.2.1⟩
 ·obtain⟨φ,hφ⟩:=h.Ab
  exact hrich φ hφ
 ·refine⟨hos.trans h.step.os,htape.trans h.step.tape,hout.trans h.step.output,aAO h.step.size hsz,λb hb hM=>?_,h.step.sub.trans hF,λb i hb hM=>?_⟩
  ·rw[hblock b (aAD hb h.step.size) (λhr=>(hrow b hr).elim (λe=>by omega) hM)]
   exact h.step.block b hb hM
  ·rw[hFold b i (aAD hb h.step.size) (λhr=>(hrow b hr).elim (λe=>by omega) hM)]
   exact h.step.old b i hb hM
theorem BW {a:Act} (dst:Option Nat) (v:Value):(a.put dst v).tmps.size=a.tmps.size:=by cases dst<;>simp[Act.put]
theorem Bs {a:Act} (dst:Option Nat) (v:Value):(a.put dst v).defers=a.defers:=by cases dst<;>rfl
theorem Sim.CB (h:Sim N w0 F0 M B0 σ F β a w) {F':Fz} {β':Bt} (hF:Ag F F') (hβ:Aw β β') {c:Prop} {dst:Option Nat} {d:D} {v:Value} {wo:List (Nat×Ac)} (hd:∀ t,dst=some t->t<N) (hv:Env F' β' d v) (t:Nat) :
  Env F' β' ((σ.app ⟨c,Ad dst d,wo⟩).ge t) ((a.put dst v).tmps.getD t undef):=by
 rw[S.LQ,GY]
 by_cases hdt:dst=some t
 ·rw[if_pos hdt,if_pos ⟨hdt,by rw[h.size];exact hd t hdt⟩]
  exact hv
 ·rw[if_neg hdt,if_neg (λe=>hdt e.1)]
  exact(h.env t).mono hF hβ
def upB (β:Bt) (nv:Nat) (L:Loc):Bt:=λv=>if v=nv then some L else β v
theorem An (β:Bt) (nv:Nat) (L:Loc):upB β nv L nv=some L:=if_pos rfl
theorem Ce (β:Bt) {nv v:Nat} (L:Loc) (h:v≠nv):upB β nv L v=β v:=if_neg h
theorem Ba {β:Bt} {nv:Nat} (L:Loc) (h:β nv=none):Aw β (upB β nv L):=by
 intro v L' hv
 by_cases e:v=nv
 ·subst e;rw[h]at hv;cases hv
 ·rw[Ce _ _ e];exact hv
theorem S.DY (σ:S) {c:Prop} {we:List (Nat×D)} {t nv:Nat} {o:Own} (g:Nat):(σ.app ⟨c,we,AH (some t) (some (nv,o))⟩).go g=if g=t then some (nv,o)else σ.go g:=by
 rw[S.Cu]
 simp only[AH,look]
 split
 ·rename_i x hx
  split at hx
  ·cases hx;rename_i e;rw[if_pos e]
  ·cases hx
 ·rename_i hx
  split at hx
  ·cases hx
  ·rename_i e;rw[if_neg e]
theorem Sim.alloc (h:Sim N w0 F0 M B0 σ F β a w) {nv t:Nat} {tt:Nat} (hnv:β nv=none) (htt:tt<N) {c:Prop} {C:Array Value} {o:Own} {cap:Nat} {d:D} {v:Value} {w1:World} (hh:w1.heap=w.heap) (hos:w1.os=w.os) (htape:w1.tape=w.tape) (hout:w1.output=w.output)
  (hfz:o.fz=false) (hrp:Dw.Ab t=true->∀ e∈o.es,AD e=true) (hown:AA F (upB β nv ⟨some w.heap.size,cap,o.s⟩) (w1.alloc (.cells C o.ty)) ⟨some w.heap.size,cap,o.s⟩ o) (hv:Env F (upB β nv ⟨some w.heap.size,cap,o.s⟩) d v) :
  Sim N w0 F0 M B0 (σ.app ⟨c,Ad (some tt) d,AH (some t) (some (nv,o))⟩) F (upB β nv ⟨some w.heap.size,cap,o.s⟩) (a.put (some tt) v) (w1.alloc (.cells C o.ty)):=by
 have hβ:=Ba (β:=β) (nv:=nv) ⟨some w.heap.size,cap,o.s⟩ hnv
 have hsize:(w1.alloc (.cells C o.ty)).heap.size=w.heap.size+1:=by simp[World.alloc,hh]
 have hblk:∀ b,b<w.heap.size->(w1.alloc (.cells C o.ty)).heap[b]? =w.heap[b]?:=by
  intro b hb
  rw[heap_alloc_old w1 _ (by rw[hh];exact hb),hh]
 refine h.change (row:=λ_=>False) hos htape hout (by omega) (λb hb _=>hblk b hb) (λ_ hr=>hr.elim) (Ag.refl _) (λ_ _ _ _=>rfl) ?_ ?_ hβ (by rw[BW];exact h.size) (by rw[Bs];exact h.defers)
  (h.CB (Ag.refl _) hβ (λt' e=>by cases e;exact htt) hv) ?_ ?_ ?_
 ·intro b i x hx
  have hb:=h.fin b i x hx
  rw[aAi (w:=w) (hblk b hb)]
  exact h.frz b i x hx
 ·intro b i x hx
  have:=h.fin b i x hx
  omega
 ·intro g v' o' hg
  rw[S.DY]at hg
  split at hg
  ·cases hg
   refine .inr ⟨_,An _ _ _,hfz,hown,λb hb=>?_⟩
   cases hb
   refine⟨λi=>?_,by omega,.inl h.step.size,.inr (aAU _)⟩
   cases hF:F w.heap.size i with
   | none=>rfl
   | some x=>have:=h.fin _ _ _ hF;omega
  ·exact .inl ⟨hg,λ_ _ _ _ _=>id⟩
 ·intro g g' v1 v2 o1 o2 L1 L2 b hg hg' hf hf' hL hL' hb hb' hr
  have hr':w.heap.size<=b:=hr.resolve_left id
  have key:∀ g v o' L,(σ.app ⟨c,Ad (some tt) d,AH (some t) (some (nv,o))⟩).go g=some (v,o')->o'.fz=false->upB β nv ⟨some w.heap.size,cap,o.s⟩ v=some L->L.b=some b->g=t:=by
   intro g v o' L hg hfz' hL hb
   rw[S.DY]at hg
   split at hg
   ·assumption
   ·exfalso
    obtain⟨L0,e0,_⟩:=h.own g v o' hg
    have:=hβ _ _ e0
    rw[hL]at this;cases this
    have:=(h.sep g v o' L b hg hfz' e0 hb).2.1
    omega
  rw[key g v1 o1 L1 hg hf hL hb,key g' v2 o2 L2 hg' hf' hL' hb']
 ·intro φ hφ
  refine⟨φ,hφ.QA (Ag.refl _) hβ (by omega) (λ_ _ _ _ _ _=>rfl) (λg i j b hb=>hblk b (hφ.lt g i j b hb)) (λg v o hg=>?_) (λg v' o' hr hg hf=>?_) (λg i j b g' v' o' L' hb hg hf hL' hLb=>?_)⟩
  ·obtain⟨L,hL,_⟩:=h.own g v o hg
   exact⟨L,hL⟩
  ·rw[S.DY]at hg
   split at hg
   ·rename_i e
    cases hg
    exact .inr (hrp (by rw[<- e];exact hr))
   ·refine .inl ⟨o',hg,hf,rfl,rfl,λi j e c he hj _=>⟨⟨e,he,hj⟩,λL b C x hL hb hC hx=>⟨C,?_,hx⟩⟩⟩
    rw[hblk b (h.sep g v' o' L b hg hf hL hb).2.1]at hC
    exact hC
  ·rw[S.DY]at hg
   split at hg
   ·cases hg
    rw[An]at hL';cases hL'
    cases hLb
    have:=hφ.lt g i j _ hb
    omega
   ·obtain⟨L0,e0,_⟩:=h.own g' v' o' hg
    have:=hβ _ _ e0
    rw[hL']at this;cases this
    exact hφ.sep g i j b g' v' o' L' hb hg hf e0 hLb
def flat (vs:List Value):List Value:=vs.flatMap λv=>v.cells.toList
theorem PS {vs:List Value} {s:Nat} (h:∀ v∈vs,v.cells.size=s):∀ (i j:Nat) v x,vs[i]? =some v->v.cells[j]? =some x->(flat vs)[i*s+j]? =some x:=by
 induction vs with
 | nil=>intro i j v x hv;simp at hv
 | cons u vs ih =>
  intro i j v x hv hx
  have hu:=h u (by simp)
  simp only[flat,List.flatMap_cons]
  rcases i with _|i
  ·simp only[aAC,Option.some.injEq]at hv
   subst hv
   have hj:j<u.cells.toList.length:=by simpa using(aAz.1 hx).1
   rw[Nat.zero_mul,Nat.zero_add,aAG hj]
   simpa using hx
  ·simp only[aAT]at hv
   have hge:u.cells.toList.length<=(i+1)*s+j:=by rw[aAQ,hu,aAL];omega
   rw[aAF hge,aAQ,hu]
   have:=ih (λv hv=>h v (by simp[hv])) i j v x hv hx
   have e:(i+1)*s+j-s=i*s+j:=by rw[aAL];omega
   rw[e]
   exact this
theorem Pk {vs:List Value} {s:Nat} (h:∀ v∈vs,v.cells.size=s):(flat vs).length=vs.length*s:=by
 induction vs with
 | nil=>simp[flat]
 | cons u vs ih =>
  simp only[flat,List.flatMap_cons,aAm,aAQ,aAs]
  have:=ih (λv hv=>h v (by simp[hv]))
  simp only[flat]at this
  rw[this,h u (by simp),aAL]
  omega
end
section
variable {N:Nat} {w0:World} {F0:Fz} {M:Nat->Prop} {B0:Bt} {σ:S} {F:Fz} {β:Bt} {a:Act} {w:World}
def IW (R:D->Value->Prop) (cs:List D) (C:Array Value) (off:Nat):Prop:=∀ (j:Nat) c,cs[j]? =some c->∃ x,C[off+j]? =some x/\x.oneCell'=true/\R c x
theorem FO (new:List Value):∀ (off k:Nat) (C:Array Value),((new.zipIdx k).foldl (λcs (c,j)=>cs.setIfInBounds (off+j) c) C).size=C.size /\
  ∀ q,((new.zipIdx k).foldl (λcs (c,j)=>cs.setIfInBounds (off+j) c) C)[q]? =if off+k<=q/\q<off+k+new.length/\q<C.size then new[q-(off+k)]? else C[q]?:=by
 induction new with
 | nil=>intro off k C;refine⟨rfl,λq=>?_⟩;rw[if_neg (by simp;omega)];rfl
 | cons x new ih =>
  intro off k C
  simp only[List.zipIdx_cons,List.foldl_cons]
  obtain⟨h1,h2⟩:=ih off (k+1) (C.setIfInBounds (off+k) x)
  refine⟨by rw[h1];simp,λq=>?_⟩
  rw[h2 q]
  simp only[aBF,aAs]
  by_cases hq:q=off+k
  ·subst hq
   rw[if_neg (by omega)]
   by_cases hb:off+k<C.size
   ·rw[if_pos ⟨aAU _,by omega,hb⟩]
    simp[hb]
   ·rw[if_neg (by omega),aBJ (by simp;omega),aBJ (by omega)]
  ·by_cases hc:off+(k+1)<=q/\q<off+(k+1)+new.length/\q<C.size
   ·rw[if_pos hc,if_pos ⟨by omega,by omega,hc.2.2⟩]
    have:q-(off+k)=(q-(off+(k+1)))+1:=by omega
    rw[this,aAT]
   ·rw[if_neg hc,aAt (by omega)]
    by_cases hc':off+k<=q/\q<off+k+(new.length+1)/\q<C.size
    ·exact absurd ⟨by omega,by omega,hc'.2.2⟩ hc
    ·rw[if_neg hc']
theorem Ek (new:List D):∀ (cs:List D) (off:Nat),(setAt cs off new).length=cs.length /\
  ∀ q,(setAt cs off new)[q]? =if off<=q/\q<off+new.length/\q<cs.length then new[q-off]? else cs[q]?:=by
 induction new with
 | nil=>intro cs off;refine⟨rfl,λq=>?_⟩;rw[if_neg (by simp;omega)];rfl
 | cons x new ih =>
  intro cs off
  simp only[setAt]
  obtain⟨h1,h2⟩:=ih (cs.set off x) (off+1)
  refine⟨by rw[h1];simp,λq=>?_⟩
  rw[h2 q]
  simp only[List.length_set,aAs]
  by_cases hq:q=off
  ·subst hq
   rw[if_neg (by omega)]
   by_cases hb:q<cs.length
   ·rw[if_pos ⟨aAU _,by omega,hb⟩]
    simp[hb]
   ·rw[if_neg (by omega),aBN (by simp;omega),aBN (by omega)]
  ·by_cases hc:off+1<=q/\q<off+1+new.length/\q<cs.length
   ·rw[if_pos hc,if_pos ⟨by omega,by omega,hc.2.2⟩]
    have:q-off=(q-(off+1))+1:=by omega
    rw[this,aAT]
   ·rw[if_neg hc,aAj (by omega)]
    by_cases hc':off<=q/\q<off+(new.length+1)/\q<cs.length
    ·exact absurd ⟨by omega,by omega,hc'.2.2⟩ hc
    ·rw[if_neg hc']
theorem HY {places:Nat->Option (Nat×Nat)}:∀ (parts:List (Nat×Value)) (ps:List (Nat×Nat×D)) (cs:List D) (C:Array Value),
  cs.length=C.size->IW (Cel F β) cs C 0->(∀ x∈C,x.oneCell'=true)->DA cs.length ps ->
  parts.length=ps.length->(∀ (q:Nat) i x off s d,parts[q]? =some (i,x)->ps[q]? =some (off,s,d)->places i=some (off,s)/\Val F β d x) ->
  ∃ C',aBP places C parts=some C'/\C'.size=C.size/\(Dq cs ps).length=cs.length/\IW (Cel F β) (Dq cs ps) C' 0/\(∀ x∈C',x.oneCell'=true)
 | [],[],cs,C,hl,hc,h1,_,_,_=>⟨C,rfl,rfl,rfl,hc,h1⟩
 | [],_::_,_,_,_,_,_,_,h,_=>by simp at h
 | _::_,[],_,_,_,_,_,_,h,_=>by simp at h
 | (i,x)::parts,(off,s,d)::ps,cs,C,hl,hc,h1,hok,hlen,hp=>by
  obtain⟨hk,hs,hle,hok'⟩:=hok
  obtain⟨hpl,hv⟩:=hp 0 i x off s d rfl rfl
  obtain⟨hsz,hone,hcell⟩:=CU hv hk
  obtain⟨g1,g2⟩:=FO x.cells.toList off 0 C
  obtain⟨s1,s2⟩:=Ek (cells d) cs off
  have hxs:x.cells.size=s:=by rw[hsz,hs]
  have e1:x.cells.zipIdx.foldl (λcs (c,j)=>cs.setIfInBounds (off+j) c) C=(x.cells.toList.zipIdx 0).foldl (λcs (c,j)=>cs.setIfInBounds (off+j) c) C:=by
   rw[<- Array.foldl_toList,Array.toList_zipIdx]
  obtain⟨C',f1,f2,f3,f4,f5⟩:=HY parts ps (setAt cs off (cells d)) (x.cells.zipIdx.foldl (λcs (c,j)=>cs.setIfInBounds (off+j) c) C)
   (by rw[s1,hl,e1,g1]) (by
    intro j c hj
    rw[s2]at hj
    rw[e1,g2]
    simp only[aAo,Nat.zero_add,aAQ]
    by_cases hcond:off<=j/\j<off+(cells d).length/\j<cs.length
    ·rw[if_pos hcond]at hj
     rw[if_pos ⟨hcond.1,by rw[hsz];exact hcond.2.1,by rw[<- hl];exact hcond.2.2⟩]
     obtain⟨v,hv1,hv2,hv3⟩:=hcell _ _ hj
     exact⟨v,by simpa using hv1,hv2,hv3⟩
    ·rw[if_neg hcond]at hj
     rw[if_neg (by rw[hsz,<- hl];exact hcond)]
     have:=hc j c hj
     simpa using this)
   (by
    intro y hy
    rw[aAq]at hy
    obtain⟨q,hq⟩:=hy
    rw[e1,g2]at hq
    split at hq
    ·exact hone y (by rw[aAq];exact⟨_,by simpa using hq⟩)
    ·exact h1 y (by rw[aAq];exact⟨_,hq⟩))
   (by rw[s1];exact hok') (by simpa using hlen) (λq i x off s d h1 h2=>hp (q+1) i x off s d (by simpa using h1) (by simpa using h2))
  refine⟨C',?_,by rw[f2,e1,g1],by simp only[Dq];rw[f3,s1],by simpa only[Dq]using f4,f5⟩
  simp only[aBP,hpl]
  rw[if_neg (by simp[hxs];omega)]
  exact f1
theorem CA (z:Value) (h:BC z=true):(cells (Bp z)).length=z.cells.size/\(∀ x∈z.cells,x.oneCell'=true)/\IW (Fro F) (cells (Bp z)) z.cells 0:=by
 have one:∀ v:Value,v.oneCell'=true->v.cells= #[v]->Bp v=DT v->(cells (Bp v)).length=v.cells.size/\(∀ x∈v.cells,x.oneCell'=true)/\IW (Fro F) (cells (Bp v)) v.cells 0:=by
  intro v h1 h2 h3
  have h4:cells (DT v)=[DT v]:=by
   unfold DT;split<;>rfl
  rw[h3,h4,h2]
  refine⟨rfl,λx hx=>by simp at hx;subst hx;exact h1,λj c hj=>?_⟩
  rcases j with _|j
  ·simp only[aAC,Option.some.injEq]at hj
   subst hj
   exact⟨v,rfl,h1,Ef v⟩
  ·simp at hj
 cases z with
 | agg cs =>
  have h1:∀ v∈cs.toList,v.oneCell'=true:=by simp only[BC,aAN]at h;exact h
  refine⟨by simp[Bp,cells,aAe],λx hx=>h1 x (by simpa[aAe]using hx),λj c hj=>?_⟩
  simp only[Bp,cells,aAI,aAK]at hj
  obtain⟨v,hv,rfl⟩:=hj
  refine⟨v,by simpa[aAe]using hv,h1 v (aAA hv),Ef v⟩
 | tuple vs=>simp[BC,Value.oneCell']at h
 | _=>exact one _ (by simpa[BC]using h) rfl rfl
theorem Cz {P:Program} {t:TypeId} {d:D} (h:Ch P t=some d):∃ i z,P.info? t=some i/\i.zero=some z/\BC z=true/\z.cells.size=P.cellsOf t/\d=Bp z:=by
 unfold Ch at h
 cases hi:P.info? t with
 | none=>simp[hi]at h
 | some i =>
  cases hz:i.zero with
  | none=>simp[hi,hz]at h
  | some z =>
   simp only[hi,hz,Option.bind_eq_bind,Option.bind_some]at h
   split at h
   ·rename_i hc
    simp only[aAV,beq_iff_eq]at hc
    cases h
    exact⟨i,z,rfl,hz,hc.1,hc.2,rfl⟩
   ·cases h
theorem AA.Im {w1:World} {d:D} {C:Array Value} {s ty:Nat} (hs:0<s) (hC:C.size=s) (hd:(cells d).length=s) (hc:IW (Cel F β) (cells d) C 0) :
  AA F β (w1.alloc (.cells C ty)) ⟨some w1.heap.size,1,s⟩ ⟨false,true,s,ty,[d]⟩:=by
 refine⟨rfl,hs,by simp,by simp,λe he=>by simp at he;subst he;exact hd,C,heap_alloc_new w1 _,by simp[hC],?_⟩
 intro i j e c he hj
 rcases i with _|i
 ·simp only[aAC,Option.some.injEq]at he
  subst he
  obtain⟨x,h1,h2,h3⟩:=hc j c hj
  exact⟨x,by simpa using h1,h2,by simpa using h3⟩
 ·simp at he
theorem AA.Ku {w1:World} {es:List D} {C:Array Value} {s ty cap:Nat} (hs:0<s) (hC:C.size=cap*s) (hl:es.length<=cap) (hm:cap<=maxLen) (hd:∀ e∈es,(cells e).length=s)
  (hc:∀ (i j:Nat) e c,es[i]? =some e->(cells e)[j]? =some c->∃ x,C[i*s+j]? =some x/\x.oneCell'=true/\Fro F c x) :
  AA F β (w1.alloc (.cells C ty)) ⟨some w1.heap.size,cap,s⟩ ⟨false,false,s,ty,es⟩ :=
 ⟨rfl,hs,hl,by simpa using hm,hd,C,heap_alloc_new w1 _,hC,λi j e c he hj=>by
  obtain⟨x,h1,h2,h3⟩:=hc i j e c he hj
  exact⟨x,h1,h2,by simpa using h3⟩⟩
theorem Ji {s:Nat} (hs:0<s):∀ (parts:List (Nat×Value)) (ps:List (Nat×D)) (es:List D) (C:Array Value),
  C.size=es.length*s->(∀ e∈es,(cells e).length=s)->(∀ (i j:Nat) e c,es[i]? =some e->(cells e)[j]? =some c->∃ x,C[i*s+j]? =some x/\x.oneCell'=true/\Fro F c x) ->
  (∀ p∈ps,known p.2=true/\(cells p.2).length=s/\p.1<es.length)->parts.length=ps.length ->
  (∀ (q:Nat) i x i' d,parts[q]? =some (i,x)->ps[q]? =some (i',d)->i=i'/\Fro F d x) ->
  ∃ C',aBP (λi=>some (i*s,s)) C parts=some C'/\C'.size=C.size/\(CC es ps).length=es.length/\(∀ e∈CC es ps,(cells e).length=s) /\
   (∀ (i j:Nat) e c,(CC es ps)[i]? =some e->(cells e)[j]? =some c->∃ x,C'[i*s+j]? =some x/\x.oneCell'=true/\Fro F c x)
 | [],[],es,C,_,hd,hc,_,_,_=>⟨C,rfl,rfl,rfl,hd,hc⟩
 | [],_::_,_,_,_,_,_,_,h,_=>by simp at h
 | _::_,[],_,_,_,_,_,_,h,_=>by simp at h
 | (i,x)::parts,(i',d)::ps,es,C,hC,hd,hc,hok,hlen,hp=>by
  obtain⟨hk,hds,hi⟩:=hok (i',d) (by simp)
  simp only at hk hds hi
  obtain⟨rfl,hv⟩:=hp 0 i x i' d rfl rfl
  obtain⟨hsz,hone,hcell⟩:=Ix hv hk
  have hxs:x.cells.size=s:=by rw[hsz,hds]
  obtain⟨g1,g2⟩:=FO x.cells.toList (i*s) 0 C
  have e1:x.cells.zipIdx.foldl (λcs (c,j)=>cs.setIfInBounds (i*s+j) c) C=(x.cells.toList.zipIdx 0).foldl (λcs (c,j)=>cs.setIfInBounds (i*s+j) c) C:=by
   rw[<- Array.foldl_toList,Array.toList_zipIdx]
  have hle:i*s+s<=C.size:=by
   rw[hC]
   have:(i+1)*s<=es.length*s:=aAE s hi
   rw[aAL]at this
   omega
  obtain⟨C',f1,f2,f3,f4,f5⟩:=Ji hs parts ps (es.set i d) (x.cells.zipIdx.foldl (λcs (c,j)=>cs.setIfInBounds (i*s+j) c) C)
   (by rw[e1,g1,hC];simp) (λe he=>by
    rcases aBB he with h|h
    ·exact hd e h
    ·subst h;exact hds) (by
    intro q j e c he hj
    rw[e1,g2]
    simp only[aAo,aAQ]
    by_cases hq:q=i
    ·subst hq
     rw[aAr hi]at he
     cases he
     have hjl:j<s:=by rw[<- hds];exact(aA.1 hj).1
     rw[if_pos ⟨by omega,by rw[hxs];omega,by omega⟩]
     obtain⟨v,hv1,hv2,hv3⟩:=hcell _ _ hj
     refine⟨v,?_,hv2,hv3⟩
     have:q*s+j-q*s=j:=by omega
     rw[this]
     simpa using hv1
    ·rw[aAj (λe=>hq e.symm)]at he
     have hjl:j<s:=by rw[<- hd e (aAA he)];exact(aA.1 hj).1
     rw[if_neg]
     ·exact hc q j e c he hj
     ·rw[hxs]
      rintro⟨c1,c2,_⟩
      rcases Nat.lt_or_gt_of_ne hq with hlt|hgt
      ·have:(q+1)*s<=i*s:=aAE s hlt
       rw[aAL]at this;omega
      ·have:(i+1)*s<=q*s:=aAE s hgt
       rw[aAL]at this;omega)
   (λp hp'=>by
    obtain⟨k1,k2,k3⟩:=hok p (List.mem_cons_of_mem _ hp')
    exact⟨k1,k2,by simpa using k3⟩) (by simpa using hlen) (λq i x i' d h1 h2=>hp (q+1) i x i' d (by simpa using h1) (by simpa using h2))
  refine⟨C',?_,by rw[f2,e1,g1],by simp only[CC];rw[f3];simp,by simpa only[CC]using f4,by simpa only[CC]using f5⟩
  simp only[aBP]
  rw[if_neg (by simp[hxs];omega)]
  exact f1
theorem Hh {z:Value} {s n m:Nat} (h:BC z=true) (hz:z.cells.size=s) (_hs:0<s) (hn:n*s<=m) :
  ∀ (i j:Nat) e c,(aAp n (Bp z))[i]? =some e->(cells e)[j]? =some c->∃ x,(madeCells z.cells m)[i*s+j]? =some x/\x.oneCell'=true/\Fro F c x:=by
 intro i j e c he hj
 obtain⟨h1,h2,h3⟩:=CA (F:=F) z h
 rw[aBH]at he
 split at he
 ·rename_i hi
  cases he
  have hjs:j<s:=by rw[<- hz,<- h1];exact(aA.1 hj).1
  obtain⟨x,hx1,hx2,hx3⟩:=h3 j c hj
  refine⟨x,?_,hx2,hx3⟩
  have hlt:i*s+j<m:=by
   have:(i+1)*s<=n*s:=aAE s hi
   rw[aAL]at this;omega
  have hmod:(i*s+j) % z.cells.size=j:=by rw[hz,Nat.mul_comm,Nat.mul_add_mod];exact Nat.mod_eq_of_lt hjs
  simp only[Nat.zero_add]at hx1
  unfold madeCells
  rw[Array.getElem?_map,Array.getElem?_range]
  simp only[hlt,if_true,Option.map_some,hmod]
  rw[getElem!_def,hx1]
 ·cases he
theorem IG {z:Value} {s n m:Nat} (h:BC z=true) (hz:z.cells.size=s) (hs:0<s) (hn:n*s<=m) :
  ∀ (i j:Nat) e c,(aAp n (nrm (Bp z)))[i]? =some e->(cells e)[j]? =some c->∃ x,(madeCells z.cells m)[i*s+j]? =some x/\x.oneCell'=true/\Fro F c x:=by
 intro i j e c he hj
 rw[aBH]at he
 split at he
 ·rename_i hi
  cases he
  rw[CQ,BB,aAI,aAK]at hj
  obtain⟨c',hc',rfl⟩:=hj
  obtain⟨x,h1,h2,h3⟩:=Hh (F:=F) h hz hs hn i j (Bp z) c' (by simp[hi]) hc'
  exact⟨x,h1,h2,h3.nrm⟩
 ·cases he
theorem Ex {z:Value} (h:BC z=true):(cells (nrm (Bp z))).length=z.cells.size:=by
 rw[CQ,BB,List.length_map]
 exact(CA (F:=λ_ _=>none) z h).1
end
theorem HG (C:Array Value) (xs:List Value) (p:Nat) (h:p+xs.length<=C.size) (q:Nat) :
  (C.toList.take p++xs++C.toList.drop (p+xs.length)).toArray[q]? =if p<=q/\q<p+xs.length then xs[q-p]? else C[q]?:=by
 have hp:(C.toList.take p).length=p:=by simp;omega
 rw[List.getElem?_toArray,aB]
 by_cases h1:q<p
 ·rw[if_neg (by omega),aAG (by omega),aAH]
  simp[h1]
 ·rw[aAF (by omega),hp]
  by_cases h2:q<p+xs.length
  ·rw[if_pos ⟨by omega,h2⟩,aAG (by omega)]
  ·rw[if_neg (by omega),aAF (by omega),aAR]
   have:p+xs.length+(q-p-xs.length)=q:=by omega
   rw[this]
   simp
section
variable {N:Nat} {w0:World} {F0:Fz} {M:Nat->Prop} {B0:Bt} {σ:S} {F:Fz} {β:Bt} {a:Act} {w:World}
theorem Jd {d:D} {v:Value} (h:Cel F β d v) (h1:v.oneCell'=true):cells d=[d]:=by
 cases d<;>try rfl
 cases h
 cases h1
theorem II {d:D} {x:Value} (h:Val F β d x) (hk:known d=true):∀ c∈cells d,cells c=[c]:=by
 intro c hc
 obtain⟨_,_,h3⟩:=CU h hk
 obtain⟨j,hj⟩:=aAf.1 hc
 obtain⟨v,_,h1,h2⟩:=h3 j c hj
 exact Jd h2 h1
theorem EP {e:D} {off:Nat} {new:List D} (hle:off+new.length<=(cells e).length) (h1:∀ c∈new,cells c=[c]) (hpos:0<new.length\/∃ cs,e= .agg cs) :
  cells (QG e off new)=setAt (cells e) off new:=by
 unfold QG
 cases e with
 | agg cs=>rfl
 | _ =>
  simp only[cells,aBO]at hle ⊢
  rcases hpos with hpos|⟨cs,h⟩
  ·match new,h1,hle,hpos with
   | [d],h1,hle,_ =>
    simp only[aBO]at hle
    have:off=0:=by omega
    subst this
    exact h1 d (by simp)
   | _::_::_,_,hle,_=>simp at hle;omega
  ·cases h
theorem Sim.write (h:Sim N w0 F0 M B0 σ F β a w) {g v b:Nat} {o:Own} {L:Loc} (hg:σ.go g=some (v,o)) (hfz:o.fz=false) (hL:β v=some L) (hb:L.b=some b) {c:Prop} {C C':Array Value} (hC:w.heap[b]? =some (.cells C o.ty (0,0)))
  {es':List D} {ws:List (Nat×Ac)} (hws:∀ p∈ws,p.2=none) (hown':AA F β (w.setRow b C') L { o with es:=es' })
  (hrich:∀ φ,AE F β w0.heap.size M σ w φ->∃ φ',AE F β w0.heap.size M (σ.app ⟨c,[],(g,some (v,{ o with es:=es' }))::ws⟩) (w.setRow b C') φ') :
  Sim N w0 F0 M B0 (σ.app ⟨c,[],(g,some (v,{ o with es:=es' }))::ws⟩) F β a (w.setRow b C'):=by
 obtain⟨s1,s2,s3⟩:=h.sep g v o L b hg hfz hL hb
 have hgo:∀ g' v' o',(σ.app ⟨c,[],(g,some (v,{ o with es:=es' }))::ws⟩).go g'=some (v',o')->(g'=g/\v'=v/\o'={ o with es:=es' })\/(g'≠g/\σ.go g'=some (v',o')):=by
  intro g' v' o' hg'
  rw[S.Cu]at hg'
  simp only[look]at hg'
  split at hg'
  ·rename_i q hq
   split at hq
   ·rename_i e
    cases hq;cases hg'
    exact .inl ⟨e,rfl,rfl⟩
   ·have:=hws _ (Bl hq)
    simp only at this
    subst this
    cases hg'
  ·rename_i hq
   split at hq
   ·cases hq
   ·rename_i e;exact .inr ⟨e,hg'⟩
 have hsz:(w.setRow b C').heap.size=w.heap.size:=by simp[World.setRow]
 refine h.change (row:=λx=>x=b) rfl rfl rfl (by omega) (λb' _ hne=>setRow_other w b b' C' hne) ?_ (Ag.refl _) (λ_ _ _ _=>rfl) ?_ ?_ (Aw.refl _) h.size h.defers (λt=>h.env t) ?_ ?_ hrich
 ·rintro b' rfl
  exact s3.imp id And.left
 ·intro b' i x hx
  have hne:b'≠b:=by rintro rfl;rw[s1 i]at hx;cases hx
  rw[aAi (w:=w) (setRow_other w b b' C' hne)]
  exact h.frz b' i x hx
 ·intro b' i x hx
  rw[hsz];exact h.fin b' i x hx
 ·intro g' v' o' hg'
  rcases hgo g' v' o' hg' with⟨rfl,rfl,rfl⟩|⟨hne,hg'⟩
  ·refine .inr ⟨L,hL,hfz,hown',λb' hb'=>?_⟩
   rw[hb]at hb';cases hb'
   exact⟨s1,by rw[hsz];exact s2,s3,.inl rfl⟩
  ·refine .inl ⟨hg',λL' b' hf hL' hb'=>?_⟩
   rintro rfl
   exact hne (h.dist g' g v' v o' o L' L b' hg' hg hf hfz hL' hL hb' hb)
 ·intro g1 g2 v1 v2 o1 o2 L1 L2 b' hg1 hg2 hf1 hf2 hL1 hL2 hb1 hb2 _
  have key:∀ g' v' o',(σ.app ⟨c,[],(g,some (v,{ o with es:=es' }))::ws⟩).go g'=some (v',o')->∃ o'',σ.go g'=some (v',o'')/\o''.fz=o'.fz:=by
   intro g' v' o' hg'
   rcases hgo g' v' o' hg' with⟨rfl,rfl,rfl⟩|⟨_,hg'⟩
   ·exact⟨o,hg,rfl⟩
   ·exact⟨o',hg',rfl⟩
  obtain⟨p1,q1,r1⟩:=key _ _ _ hg1
  obtain⟨p2,q2,r2⟩:=key _ _ _ hg2
  exact h.dist g1 g2 v1 v2 p1 p2 L1 L2 b' q1 q2 (r1.trans hf1) (r2.trans hf2) hL1 hL2 hb1 hb2
theorem IE {P:Program} (h:Sim N w0 F0 M B0 σ F β a w) {g v i off n:Nat} {o:Own} (hg:σ.go g=some (v,o)) (hfz:o.fz=false) (hi:i<o.es.length) {cs:List D} {x px:Value}
  (hpx:Val F β (.optr g v i off) px) (hxn:x.cells.size=n) (hx2:∀ y∈x.cells,y.oneCell'=true) (hn:cs.length=n) (hone:∀ c∈cs,cells c=[c])
  (hx:∀ (j:Nat) c,cs[j]? =some c->∃ y,x.cells[j]? =some y/\y.oneCell'=true/\(if o.var then Cel F β c y else Fro F c y))
  (hle:off+n<=(cells (o.es.getD i .top)).length) (t:TypeId) (hti:P.info? t≠none) (htn:n=P.cellsOf t) (hnpos:0<n) (c:Prop) {ws:List (Nat×Ac)} (hws:∀ p∈ws,p.2=none)
  (hrich:∀ φ L b C C',AE F β w0.heap.size M σ w φ->β v=some L->L.b=some b->L.s=o.s->w.heap[b]? =some (.cells C o.ty (0,0))->C'.size=C.size ->
   (∀ j,j<n->C'[i*o.s+off+j]? =x.cells[j]?)->(∀ q,(q<i*o.s+off\/i*o.s+off+n<=q)->C'[q]? =C[q]?) ->
   ∃ φ',AE F β w0.heap.size M (σ.app ⟨c,[],(g,some (v,{ o with es:=o.es.set i (QG (o.es.getD i .top) off cs) }))::ws⟩) (w.setRow b C') φ') :
  ∃ w',(aBQ t px x).run P w= .ok () w'/\Sim N w0 F0 M B0 (σ.app ⟨c,[],(g,some (v,{ o with es:=o.es.set i (QG (o.es.getD i .top) off cs) }))::ws⟩) F β a w':=by
 obtain⟨ti,hti⟩:=aAP.1 hti
 have hsz:P.cellsOf t=ti.size:=by simp[aAd,hti]
 obtain⟨L,b,hL,hb,rfl⟩:=hpx
 obtain⟨L',hL',_,hkk⟩:=h.own g v o hg
 rw[hL]at hL';cases hL'
 have hok:=hkk hfz
 obtain⟨e1,e2,e3,e4,e5,e6⟩:=hok
 rw[hb]at e6
 obtain⟨C,hC,hCs,hcell⟩:=e6
 have hget:o.es[i]? =some (o.es.getD i .top):=by simp[hi]
 have hlen:=e5 _ (aAA hget)
 have hxn:x.cells.toList.length=n:=by rw[aAQ,hxn]
 have hfit:i*o.s+off+n<=C.size:=by
  rw[hCs]
  have:(i+1)*o.s<=L.cap*o.s:=aAE _ (by omega)
  rw[aAL]at this
  omega
 have hrun:=run_storeCells_at (P:=P) b (i*L.s+off) o.ty x.cells.toList 0 C w hC (by rw[hxn,e1];omega) (λv hv=>hx2 v (by simpa using hv))
 simp only[aAo]at hrun
 obtain⟨C',hC'⟩:∃ C',C'=(C.toList.take (i*L.s+off)++x.cells.toList++C.toList.drop (i*L.s+off+x.cells.toList.length)).toArray:=⟨_,rfl⟩
 obtain⟨w',hw'⟩:∃ w',w'=w.setRow b C':=⟨_,rfl⟩
 rw[<- hC',<- hw']at hrun
 have hsize:x.cells.size=ti.size:=by rw[<- hsz,<- htn,<- hxn,aAQ]
 refine⟨w',by simp[aBQ,aBM,storeVar,sizeOf,typeInfo,hti,hsize,hrun],?_⟩
 subst hw'
 have hCz:C'.size=C.size:=by
  subst hC'
  simp only[List.size_toArray,aAm,aBC,List.length_drop,aAQ]at hxn ⊢
  rw[hxn,e1]
  omega
 have hsp:=λq=>HG C x.cells.toList (i*L.s+off) (by rw[hxn,e1];exact hfit) q
 have hget':∀ q,C'[q]? =if i*L.s+off<=q/\q<i*L.s+off+x.cells.toList.length then x.cells.toList[q-(i*L.s+off)]? else C[q]?:=by
  intro q;subst hC';exact hsp q
 refine h.write hg hfz hL hb hC hws ?_ λφ hφ=>hrich φ L b C C' hφ hL hb e1 hC hCz (λj hj=>?_) λq hq=>?_
 ·have hsetE:=EP (e:=o.es.getD i .top) (off:=off) (new:=cs) (by rw[hn];exact hle) hone (.inl (by omega))
  obtain⟨sa1,sa2⟩:=Ek cs (cells (o.es.getD i .top)) off
  refine⟨e1,e2,by simpa using e3,e4,?_,?_⟩
  ·intro e he
   rcases aBB he with hm|hm
   ·exact e5 e hm
   ·subst hm;rw[hsetE,sa1];exact hlen
  ·rw[hb]
   refine⟨_,setRow_heap w b C _ o.ty _ hC,by rw[hCz];exact hCs,?_⟩
   intro i' j e cc he hj
   simp only at he
   simp only
   rw[hget',hxn,e1]
   by_cases hii:i'=i
   ·subst hii
    rw[aAr hi]at he
    cases he
    rw[hsetE,sa2,hn]at hj
    by_cases hcond:off<=j/\j<off+n/\j<(cells (o.es.getD i' .top)).length
    ·rw[if_pos hcond]at hj
     rw[if_pos ⟨by omega,by omega⟩]
     have e':i'*o.s+j-(i'*o.s+off)=j-off:=by omega
     rw[e']
     obtain⟨y,y1,y2,y3⟩:=hx _ _ hj
     exact⟨y,by simpa using y1,y2,y3⟩
    ·rw[if_neg hcond]at hj
     have hjl:j<(cells (o.es.getD i' .top)).length:=(aA.1 hj).1
     rw[if_neg (by omega)]
     exact hcell i' j _ cc hget hj
   ·rw[aAj (λe=>hii e.symm)]at he
    have hjl:j<o.s:=by rw[<- e5 e (aAA he)];exact(aA.1 hj).1
    rw[if_neg]
    ·exact hcell i' j e cc he hj
    ·rintro⟨c1,c2⟩
     rcases Nat.lt_or_gt_of_ne hii with hlt|hgt
     ·have:(i'+1)*o.s<=i*o.s:=aAE _ hlt
      rw[aAL]at this;omega
     ·have:(i+1)*o.s<=i'*o.s:=aAE _ hgt
      rw[aAL]at this;omega
 ·rw[hget',hxn,e1,if_pos (by omega)]
  rw[show i*o.s+off+j-(i*o.s+off)=j by omega]
  simp
 ·rw[hget',hxn,e1,if_neg (by omega)]
theorem JD {P:Program} (h:Sim N w0 F0 M B0 σ F β a w) {g v i off n:Nat} {o:Own} (hg:σ.go g=some (v,o)) (hng:Dw.Ab g=false) (hfz:o.fz=false) (hi:i<o.es.length) {d:D} {x px:Value}
  (hpx:Val F β (.optr g v i off) px) (hx:Val F β d x) (hfro:o.var=false->Fro F d x) (hk:known d=true) (hn:(cells d).length=n) (hle:off+n<=(cells (o.es.getD i .top)).length) (t:TypeId) (hti:P.info? t≠none) (htn:n=P.cellsOf t) (hnpos:0<n) (c:Prop) :
  ∃ w',(aBQ t px x).run P w= .ok () w'/\Sim N w0 F0 M B0 (σ.app ⟨c,[],[(g,some (v,{ o with es:=o.es.set i (QG (o.es.getD i .top) off (cells d)) }))]⟩) F β a w':=by
 obtain⟨x1,x2,x3⟩:=CU hx hk
 refine IE h hg hfz hi hpx (by rw[x1,hn]) x2 hn (II hx hk) (λj cc hj=>?_) hle t hti htn hnpos c (ws:=[]) (λp hp=>by cases hp) λφ L b C C' hφ hL hb _ hC _ _ _=>⟨φ,?_⟩
 ·obtain⟨y,y1,y2,y3⟩:=x3 j cc hj
  refine⟨y,y1,y2,?_⟩
  split
  ·exact y3
  ·rename_i hv
   obtain⟨_,_,f3⟩:=Ix (hfro (by simpa using hv)) hk
   obtain⟨y',z1,z2,z3⟩:=f3 _ _ hj
   rw[y1]at z1;cases z1
   exact z3
 ·have hgo:∀ g',(σ.app ⟨c,[],[(g,some (v,{ o with es:=o.es.set i (QG (o.es.getD i .top) off (cells d)) }))]⟩).go g'=if g'=g then some (v,{ o with es:=o.es.set i (QG (o.es.getD i .top) off (cells d)) })else σ.go g':=by
   intro g'
   have:=S.DY (c:=c) (we:=[]) (t:=g) (nv:=v) (o:={ o with es:=o.es.set i (QG (o.es.getD i .top) off (cells d)) }) σ g'
   exact this
  have hsz:(w.setRow b C').heap.size=w.heap.size:=by simp[World.setRow]
  have hbφ:∀ g i j b',φ g i j b'->b'≠b:=by
   rintro g1 i1 j1 b' h1 rfl
   exact hφ.sep g1 i1 j1 b' g v o L h1 hg hfz hL hb
  refine hφ.QA (Ag.refl _) (Aw.refl _) (by omega) (λ_ _ _ _ _ _=>rfl) (λg1 i1 j1 b' h1=>setRow_other w b b' C' (hbφ g1 i1 j1 b' h1)) (λg1 v1 o1 h1=>?_) (λg1 v1 o1 hr h1 hf=>?_) (λg1 i1 j1 b' g2 v2 o2 L2 h1 h2 hf hL2=>?_)
  ·obtain⟨L1,hL1,_⟩:=h.own g1 v1 o1 h1
   exact⟨L1,hL1⟩
  ·rw[hgo]at h1
   split at h1
   ·rename_i e;subst e;rw[hng]at hr;cases hr
   ·rename_i hne
    refine .inl ⟨o1,h1,hf,rfl,rfl,λi' j' e' c' he hj _=>⟨⟨e',he,hj⟩,λL1 b1 C1 x1 hL1 hb1 hC1 hx1=>⟨C1,?_,hx1⟩⟩⟩
    have:b1≠b:=by
     rintro rfl
     exact hne (h.dist g1 g v1 v o1 o L1 L b1 h1 hg hf hfz hL1 hL hb1 hb)
    rw[setRow_other w b b1 C' this]at hC1
    exact hC1
  ·rw[hgo]at h2
   split at h2
   ·rename_i e;subst e;cases h2
    exact hφ.sep g1 i1 j1 b' g2 v o L2 h1 hg hfz hL2
   ·exact hφ.sep g1 i1 j1 b' g2 v2 o2 L2 h1 h2 hf hL2
theorem Io (h:Sim N w0 F0 M B0 σ F β a w) {d:D} {x:Value} (hx:Val F β d x) (hc:((view d).run σ).1) {s:Nat} (hs:∀ e∈((view d).run σ).2,(cells e).length=s) :
  ∃ A cap,x= .slice A ((view d).run σ).2.length cap/\(0<((view d).run σ).2.length->∃ b o,A=some ⟨b,o,none⟩ /\
   ∀ (i j:Nat) e c,((view d).run σ).2[i]? =some e->(cells e)[j]? =some c->∃ y,w.cell? ⟨b,o+(i*s+j),none⟩=some y/\y.oneCell'=true/\Fro F c y):=by
 cases d<;>try exact hc.elim
 case sl es =>
  simp only[view,R.run]at hs ⊢
  cases hx with
  | sl0 A cap=>exact⟨A,cap,rfl,λh=>absurd h (by simp)⟩
  | sl es b o c s' vf hc' hs' hF h1 hh =>
   refine⟨_,c,rfl,λhpos=>⟨b,o,rfl,λi j e cc he hj=>?_⟩⟩
   have:s'=s:=by
    have hm:=aAh (l:=es) (n:=0) hpos
    rw[<- hs _ hm,hs' _ hm]
   subst this
   exact⟨vf i j,by rw[<- aAZ];exact h.frz _ _ _ (hF i j e cc he hj),h1 i j e cc he hj,hh i j e cc he hj⟩
 case nils =>
  cases hx
  exact⟨none,0,rfl,λh=>absurd h (by simp[view])⟩
 case osl g v i0 n =>
  simp only[view,R.run]at hc hs ⊢
  cases hg:σ.go g with
  | none=>rw[hg]at hc;exact hc.elim
  | some p =>
   obtain⟨v',o⟩:=p
   rw[hg]at hc hs
   simp only[R.run]at hc hs ⊢
   obtain⟨rfl,hvar,hin⟩:=hc
   obtain⟨L,A,hL,rfl,hcap,_,hpos⟩:=hx
   have hlen:((o.es.drop i0).take n).length=n:=by simp;omega
   refine⟨A,L.cap-i0,by rw[hlen],λhp=>?_⟩
   rw[hlen]at hp
   obtain⟨b,hb,rfl⟩:=hpos hp
   obtain⟨L',hL',hz,hk⟩:=h.own g v o hg
   rw[hL]at hL';cases hL'
   have hidx:∀ (k:Nat) e,((o.es.drop i0).take n)[k]? =some e->o.es[i0+k]? =some e:=by
    intro k e he
    rw[aAH]at he
    split at he
    ·rwa[aAR]at he
    ·cases he
   have hos:o.s=s:=by
    have hm:((o.es.drop i0).take n)[0]? =some (((o.es.drop i0).take n)[0]'(by omega)):=aAB (by omega)
    rw[<- hs _ (aAA hm)]
    have hm':=aAA (hidx 0 _ hm)
    cases hfz:o.fz with
    | true=>exact(((hz hfz).old hb).2.2.2.2.1 _ hm').symm
    | false=>exact((hk hfz).2.2.2.2.1 _ hm').symm
   refine⟨b,i0*L.s,rfl,λi j e cc he hj=>?_⟩
   have hLs:L.s=o.s:=by
    cases hfz:o.fz with
    | true=>exact((hz hfz).old hb).2.1
    | false=>exact(hk hfz).1
   have e':i0*L.s+(i*s+j)=(i0+i)*o.s+j:=by rw[hLs,hos,aAL];omega
   rw[e']
   cases hfz:o.fz with
   | true =>
    obtain⟨_,_,_,_,_,h5⟩:=(hz hfz).old hb
    rw[hb]at h5
    obtain⟨y,y1,y2,y3⟩:=h5 _ j e cc (hidx i e he) hj
    exact⟨y,h.frz _ _ _ y1,y2,y3⟩
   | false =>
    obtain⟨_,_,_,_,_,h6⟩:=hk hfz
    rw[hb]at h6
    obtain⟨C,hC,_,hcell⟩:=h6
    obtain⟨y,y1,y2,y3⟩:=hcell _ j e cc (hidx i e he) hj
    rw[hvar]at y3
    exact⟨y,by simp[aAx,hC,y1],y2,y3⟩
theorem Kj {es:List D} {s b o:Nat} (hs:∀ e∈es,(cells e).length=s) (hc:∀ (i j:Nat) e c,es[i]? =some e->(cells e)[j]? =some c->∃ y,w.cell? ⟨b,o+(i*s+j),none⟩=some y/\y.oneCell'=true/\Fro F c y) :
  ∃ news:List Value,news.length=es.length*s/\(∀ j u,news[j]? =some u->w.cell? ((⟨b,o,none⟩:Addr).add j)=some u)/\(∀ u∈news,u.oneCell'=true) /\
   ∀ (i j:Nat) e c,es[i]? =some e->(cells e)[j]? =some c->∃ y,news[i*s+j]? =some y/\y.oneCell'=true/\Fro F c y:=by
 let f:Nat->Value:=λq=>(w.cell? ⟨b,o+q,none⟩).getD undef
 have key:∀ q,q<es.length*s->∃ i j e c,es[i]? =some e/\(cells e)[j]? =some c/\q=i*s+j:=by
  intro q hq
  have hs0:0<s:=by
   rcases aAb s with h0|h0
   ·subst h0;simp at hq
   ·exact h0
  have hi:q / s<es.length:=Nat.div_lt_of_lt_mul (by rw[Nat.mul_comm];exact hq)
  have hj:q % s<s:=Nat.mod_lt _ hs0
  have hget:es[q / s]? =some es[q / s]:=aAB hi
  have hl:=hs _ (aAh hi)
  exact⟨q / s,q % s,_,(cells es[q / s])[q % s]'(by omega),hget,aAB (by omega),by rw[Nat.mul_comm];exact(Nat.div_add_mod q s).symm⟩
 refine⟨(aAa (es.length*s)).map f,by simp,?_,?_,?_⟩
 ·intro j u hu
  simp only[aAI,aAK]at hu
  obtain⟨q,hq,rfl⟩:=hu
  have hlt:j<es.length*s:=by
   have:=(aA.1 hq).1
   simpa using this
  rw[aAw hlt]at hq
  cases hq
  obtain⟨i,j',e,c,h1,h2,h3⟩:=key j hlt
  obtain⟨y,y1,_,_⟩:=hc i j' e c h1 h2
  rw[Bx,h3,y1]
  show _=some ((w.cell? ⟨b,o+(i*s+j'),none⟩).getD undef)
  rw[y1];rfl
 ·intro u hu
  simp only[aAn,List.mem_range]at hu
  obtain⟨q,hq,rfl⟩:=hu
  obtain⟨i,j',e,c,h1,h2,h3⟩:=key q hq
  obtain⟨y,y1,y2,_⟩:=hc i j' e c h1 h2
  show((w.cell? ⟨b,o+q,none⟩).getD undef).oneCell'=true
  rw[h3,y1];exact y2
 ·intro i j e c he hj
  obtain⟨y,y1,y2,y3⟩:=hc i j e c he hj
  refine⟨y,?_,y2,y3⟩
  have hlt:i*s+j<es.length*s:=by
   have hil:=(aA.1 he).1
   have hjl:=(aA.1 hj).1
   rw[hs e (aAA he)]at hjl
   have:(i+1)*s<=es.length*s:=aAE _ hil
   rw[aAL]at this;omega
  rw[aAI,aAw hlt]
  show some ((w.cell? ⟨b,o+(i*s+j),none⟩).getD undef)=some y
  rw[y1];rfl
theorem FM {P:Program} (w:World) (base:Nat) (t ty e:TypeId) (i:TypeInfo) (size:Nat) (ht:P.underlying t=some (.slice e)) (hi:P.info? e=some i)
  (v:Value) (n:Nat) (xs:List Value) (hown:w.ownsRow base e size v n xs) (c:Nat):(Builtin.append_ #[t,t] ty #[v,.slice none 0 c]).run P w= .ok v w:=by
 rcases hown.2 with⟨rfl,rfl⟩|⟨g,cap,cur,rfl,_,_,hnc,_⟩
 ·simp[Builtin.append_,run_underlying ht,sizeOf,typeInfo,hi,Builtin.lenOf,Builtin.firstCells]
 ·simp[Builtin.append_,run_underlying ht,sizeOf,typeInfo,hi,Builtin.lenOf,Builtin.firstCells,hnc,storeCells]
end
section
variable {N:Nat} {w0:World} {F0:Fz} {M:Nat->Prop} {B0:Bt} {σ:S} {F:Fz} {β:Bt} {a:Act} {w:World}
theorem Mo (h:Sim N w0 F0 M B0 σ F β a w) {d:D} {x:Value} (hx:Val F β d x) {s ty:Nat} (hs:0<s) (hc:((target s ty d).run σ).1) :
  ∃ xs,w.ownsRow 0 ty s x ((target s ty d).run σ).2.1.length xs/\(∀ e∈((target s ty d).run σ).2.1,(cells e).length=s) /\
   (∀ (i j:Nat) e c,((target s ty d).run σ).2.1[i]? =some e->(cells e)[j]? =some c->∃ y,xs[i*s+j]? =some y/\y.oneCell'=true/\Fro F c y) /\
   ((((target s ty d).run σ).2.2.1=[]/\x.ownBlock=none/\((target s ty d).run σ).2.2.2=false)\/∃ g v o L,((target s ty d).run σ).2.2.1=[(g,none)]/\σ.go g=some (v,o)/\o.fz=false/\o.var=false/\β v=some L/\x.ownBlock=L.b/\((target s ty d).run σ).2.2.2=Ab g):=by
 cases d<;>try exact hc.elim
 case nils =>
  cases hx
  exact⟨[],World.ownsRow_nil w 0 ty s,λe he=>by simp[target]at he,λi j e c he=>by simp[target]at he,.inl ⟨rfl,rfl,rfl⟩⟩
 case osl g v i0 n =>
  simp only[target,R.run]at hc ⊢
  cases hg:σ.go g with
  | none=>rw[hg]at hc;exact hc.elim
  | some p =>
   obtain⟨v',o⟩:=p
   rw[hg]at hc
   simp only[R.run]at hc ⊢
   obtain⟨rfl,rfl,hn,hfz,hvar,rfl,rfl⟩:=hc
   obtain⟨L,A,hL,rfl,hcap,ha0,_⟩:=hx
   obtain⟨L',hL',_,hk⟩:=h.own g v o hg
   rw[hL]at hL';cases hL'
   obtain⟨e1,e2,e3,e4,e5,e6⟩:=hk hfz
   have hA:=ha0 rfl
   have hlen:(o.es.take n).length=n:=by simp;omega
   have hidx:∀ (k:Nat) e,(o.es.take n)[k]? =some e->o.es[k]? =some e:=by
    intro k e he
    rw[aAH]at he
    split at he
    ·exact he
    ·cases he
   rw[hlen]
   cases hb:L.b with
   | none =>
    rw[hb]at e6 hA
    have hn0:n=0:=by omega
    subst hn0
    have hc0:L.cap-0=0:=by omega
    simp only[Option.map_none]at hA
    subst hA
    rw[hc0]
    exact⟨[],World.ownsRow_nil w 0 o.ty o.s,λe he=>by simp at he,λi j e c he=>by simp at he,.inr ⟨g,v,o,L,rfl,hg,hfz,hvar,hL,by rw[hb];rfl,rfl⟩⟩
   | some b =>
    rw[hb]at e6 hA
    obtain⟨C,hC,hCs,hcell⟩:=e6
    simp only[Option.map_some]at hA
    subst hA
    have hle:n*o.s<=C.size:=by rw[hCs];exact aAE _ (by omega)
    refine⟨C.toList.take (n*o.s),⟨by simp;omega,.inr ⟨b,L.cap,C,by simp,Nat.zero_le _,hC,by omega,by simpa[hvar]using e4,hCs,rfl⟩⟩,
     λe he=>e5 e (aAS he),λi j e c he hj=>?_,.inr ⟨g,v,o,L,rfl,hg,hfz,hvar,hL,by rw[hb];rfl,rfl⟩⟩
    have hil:i<n:=by have:=(aA.1 he).1;rw[hlen]at this;exact this
    have hjl:j<o.s:=by rw[<- e5 e (aAA (hidx i e he))];exact(aA.1 hj).1
    obtain⟨y,y1,y2,y3⟩:=hcell i j e c (hidx i e he) hj
    rw[hvar]at y3
    refine⟨y,?_,y2,y3⟩
    rw[aAH,if_pos]
    ·simpa using y1
    ·have:(i+1)*o.s<=n*o.s:=aAE _ hil
     rw[aAL]at this;omega
theorem LA {P:Program} (h:Sim N w0 F0 M B0 σ F β a w) {nv t:Nat} (hnv:β nv=none) (ht:t<N) (htr:Ab t=false) {dx dy:D} {x y:Value} (hx:Val F β dx x) (hy:Val F β dy y) {tt ty e:TypeId} {i:TypeInfo} {z:Value} {s:Nat}
  (hu:P.underlying tt=some (.slice e)) (hi:P.info? e=some i) (hz:i.zero=some z) (hsi:i.size=s) (hzs:z.cells.size=s) (hs:0<s) (hby:i.bytes<=65536)
  (hc1:((view dy).run σ).1) (hc2:((target s e dx).run σ).1) (hlen:((target s e dx).run σ).2.1.length+((view dy).run σ).2.length<=16777216) (hnew:∀ q∈((view dy).run σ).2,(cells q).length=s) (hpl:((target s e dx).run σ).2.2.2=true->∀ q∈((target s e dx).run σ).2.1++((view dy).run σ).2,AD q=true) (c:Prop) :
  ∃ v' w' β',(Builtin.append_ #[tt,tt] ty #[x,y]).run P w= .ok v' w'/\Aw β β'/\(∀ v,v≠nv->β' v=β v) /\
   Sim N w0 F0 M B0 (σ.app ⟨c,Ad (some t) (.osl (nmR ((target s e dx).run σ).2.2.2 t) nv 0 (((target s e dx).run σ).2.1.length+((view dy).run σ).2.length)),
    CH ((target s e dx).run σ).2.2.2 (some t) (some (nv,⟨false,false,s,e,((target s e dx).run σ).2.1++((view dy).run σ).2⟩))++((target s e dx).run σ).2.2.1⟩) F β' (a.put (some t) v') w':=by
 obtain⟨xs,hown,hold,hxs,hws⟩:=Mo h hx hs hc2
 obtain⟨A,cap,rfl,hA⟩:=Io h hy hc1 hnew
 generalize((target s e dx).run σ).2.1=old at *
 generalize((view dy).run σ).2=new at *
 generalize((target s e dx).run σ).2.2.1=ws at *
 generalize((target s e dx).run σ).2.2.2=r at *
 have hmax:old.length+new.length<=maxLen:=by simp only[maxLen];omega
 have hbytes:(old.length+new.length)*i.bytes<=140737488355328:=by
  have:(old.length+new.length)*i.bytes<=16777216*65536:=Nat.mul_le_mul hlen hby
  omega
 have hrun:∃ news v' w',news.length=new.length*s/\(∀ (i j:Nat) e c,new[i]? =some e->(cells e)[j]? =some c->∃ y,news[i*s+j]? =some y/\y.oneCell'=true/\Fro F c y) /\
   (Builtin.append_ #[tt,tt] ty #[x,.slice A new.length cap]).run P w= .ok v' w'/\w'.ownsRow 0 e s v' (old.length+new.length) (xs++news)/\w.grownBy w' x.ownBlock/\(v'.ownBlock=x.ownBlock\/v'.ownBlock=some w.heap.size):=by
  cases A with
  | none =>
   have hm:new=[]:=by
    rcases aAb new.length with h0|h0
    ·exact aAJ h0
    ·obtain⟨b,o,hh,_⟩:=hA h0;cases hh
   subst hm
   refine⟨[],x,w,by simp,λi j e c he=>by simp at he,FM w 0 tt ty e i s hu hi x _ xs hown cap,by simpa using hown,⟨rfl,rfl,rfl,aAU _,λ_ _ _=>rfl⟩,.inl rfl⟩
  | some ad =>
   have hnews:∃ news:List Value,news.length=new.length*s/\(∀ j u,news[j]? =some u->w.cell? (ad.add j)=some u)/\(∀ u∈news,u.oneCell'=true) /\
     ∀ (i j:Nat) e c,new[i]? =some e->(cells e)[j]? =some c->∃ y,news[i*s+j]? =some y/\y.oneCell'=true/\Fro F c y:=by
    rcases aAb new.length with h0|h0
    ·have:new=[]:=aAJ h0
     subst this
     exact⟨[],by simp,λj u hu=>by simp at hu,λu hu=>by simp at hu,λi j e c he=>by simp at he⟩
    ·obtain⟨b,o,hh,hcc⟩:=hA h0
     cases hh
     exact Kj hnew hcc
   obtain⟨news,n1,n2,n3,n4⟩:=hnews
   obtain⟨v',w',r1,r2,r3,_,r5⟩:=run_append_own_at (P:=P) w 0 tt ty e i z s i.bytes hu hi hz hsi rfl hzs hs x old.length xs hown ad new.length cap news n1 n2 n3 hmax hbytes (Nat.zero_le _)
   exact⟨news,v',w',n1,n4,r1,r2,r3,r5⟩
 obtain⟨news,v',w',n1,n4,r1,r2,r3,r5⟩:=hrun
 have hloc:∃ L:Loc,L.s=s/\v'= .slice (L.b.map λb=>⟨b,0,none⟩) (old.length+new.length) L.cap/\v'.ownBlock=L.b/\AA F (upB β nv L) w' L ⟨false,false,s,e,old++new⟩:=by
  have hall:∀ q∈old++new,(cells q).length=s:=λq hq=>(aAu.1 hq).elim (hold q) (hnew q)
  rcases r2.2 with⟨hv,h0⟩|⟨g,cap',cur,hv,_,hg,hnc,hcm,hcs,htake⟩
  ·have h1:old=[]:=aAJ (by omega)
   have h2:new=[]:=aAJ (by omega)
   subst h1;subst h2
   subst hv
   exact⟨⟨none,0,s⟩,rfl,rfl,rfl,rfl,hs,by simp,by simp,λe he=>by simp at he,rfl,rfl⟩
  ·subst hv
   refine⟨⟨some g,cap',s⟩,rfl,rfl,rfl,rfl,hs,by simpa using hnc,by simpa using hcm,hall,cur,hg,hcs,λi j q cc hq hj=>?_⟩
   have hil:i<old.length+new.length:=by
    have:=(aA.1 hq).1
    simpa using this
   have hjl:j<s:=by rw[<- hall q (aAA hq)];exact(aA.1 hj).1
   have hlt:i*s+j<(old.length+new.length)*s:=by
    have:(i+1)*s<=(old.length+new.length)*s:=aAE _ hil
    rw[aAL]at this;omega
   have hcur:cur[i*s+j]? =(xs++news)[i*s+j]?:=by
    rw[<- htake,aAH,if_pos hlt];simp
   have hxl:xs.length=old.length*s:=hown.1
   by_cases hio:i<old.length
   ·simp only at hq
    rw[aAG hio]at hq
    obtain⟨y,y1,y2,y3⟩:=hxs i j q cc hq hj
    refine⟨y,?_,y2,by simpa using y3⟩
    rw[hcur,aAG]
    ·exact y1
    ·exact(aA.1 y1).1
   ·simp only at hq
    rw[aAF (by omega)]at hq
    obtain⟨y,y1,y2,y3⟩:=n4 _ j q cc hq hj
    refine⟨y,?_,y2,by simpa using y3⟩
    have hmul:old.length*s<=i*s:=aAE _ (by omega)
    rw[hcur,aAF (by omega),hxl]
    rw[<- y1]
    congr 1
    rw[Nat.sub_mul];omega
 obtain⟨L,hLs,hv',hvb,hok⟩:=hloc
 have hβ:=Ba (β:=β) (nv:=nv) L hnv
 refine⟨v',w',upB β nv L,r1,hβ,λv hv=>Ce _ _ hv,?_⟩
 have hrow:∀ b,x.ownBlock=some b->∃ g v o Lg,ws=[(g,none)]/\σ.go g=some (v,o)/\o.fz=false/\o.var=false/\β v=some Lg/\Lg.b=some b/\r=Ab g:=by
  intro b hb
  rcases hws with⟨_,h2,_⟩|⟨g,v,o,Lg,h1,h2,h3,h4,h5,h6,h7⟩
  ·rw[h2]at hb;cases hb
  ·exact⟨g,v,o,Lg,h1,h2,h3,h4,h5,h6.symm.trans hb,h7⟩
 obtain⟨tt,htt⟩:∃ tt,tt=nmR r t:=⟨_,rfl⟩
 have hput:∀ q,CH r (some t) q=AH (some tt) q:=λq=>by rw[htt];rfl
 rw[<- htt,hput]
 have hgo:∀ g',(σ.app ⟨c,Ad (some t) (.osl tt nv 0 (old.length+new.length)),AH (some tt) (some (nv,⟨false,false,s,e,old++new⟩))++ws⟩).go g' =
   if g'=tt then some (nv,⟨false,false,s,e,old++new⟩)else match look ws g' with|some x=>x|none=>σ.go g':=by
  intro g'
  rw[S.Cu]
  simp only[AH,aBL,look]
  split
  ·rename_i q hq
   split at hq
   ·rename_i e1;cases hq;rw[if_pos e1]
   ·rename_i e1;rw[if_neg e1,hq]
  ·rename_i hq
   split at hq
   ·cases hq
   ·rename_i e1;rw[if_neg e1,hq]
 have hold':∀ g' v o',g'≠tt->(σ.app ⟨c,Ad (some t) (.osl tt nv 0 (old.length+new.length)),AH (some tt) (some (nv,⟨false,false,s,e,old++new⟩))++ws⟩).go g'=some (v,o') ->
   σ.go g'=some (v,o')/\∀ Lg b,o'.fz=false->β v=some Lg->Lg.b=some b->¬ x.ownBlock=some b:=by
  intro g' v o' hne hg'
  rw[hgo,if_neg hne]at hg'
  have hlk:look ws g'=none/\σ.go g'=some (v,o'):=by
   rcases hws with⟨rfl,_⟩|⟨g,v1,o1,Lg,rfl,_⟩
   ·exact⟨rfl,hg'⟩
   ·simp only[look]at hg' ⊢
    split at hg'
    ·rename_i q hq
     split at hq
     ·cases hq;cases hg'
     ·cases hq
    ·rename_i hq
     exact⟨hq,hg'⟩
  refine⟨hlk.2,λLg b hf hL hb hr=>?_⟩
  obtain⟨g,v1,o1,Lg1,q1,q2,q3,_,q5,q6,_⟩:=hrow b hr
  have:=h.dist g' g v v1 o' o1 Lg Lg1 b hlk.2 q2 hf q3 hL q5 hb q6
  subst this
  rw[q1]at hlk
  simp[look]at hlk
 refine h.change (row:=λb=>x.ownBlock=some b) r3.os r3.tape r3.output r3.size (λb hb hr=>r3.block b hb (λe=>hr e.symm)) ?_ (Ag.refl _) (λ_ _ _ _=>rfl) ?_ ?_ hβ (by rw[BW];exact h.size) (by rw[Bs];exact h.defers)
  (h.CB (Ag.refl _) hβ (λt' e=>by cases e;exact ht) ?_) ?_ ?_ ?_
 ·intro b hr
  obtain⟨g,v,o,Lg,_,q2,q3,q4,q5,q6,_⟩:=hrow b hr
  exact(h.sep g v o Lg b q2 q3 q5 q6).2.2.imp id And.left
 ·intro b j u hu
  have hne:¬ x.ownBlock=some b:=by
   intro hr
   obtain⟨g,v,o,Lg,_,q2,q3,_,q5,q6,_⟩:=hrow b hr
   rw[(h.sep g v o Lg b q2 q3 q5 q6).1 j]at hu;cases hu
  rw[aAi (w:=w) (r3.block b (h.fin b j u hu) (λe=>hne e.symm))]
  exact h.frz b j u hu
 ·intro b j u hu
  exact aAD (h.fin b j u hu) r3.size
 ·refine⟨L,_,An _ _ _,hv',?_,λ_=>rfl,λhp=>?_⟩
  ·have:=hok.2.2.1
   simpa using this
  ·cases hLb:L.b with
   | none =>
    obtain⟨_,_,k3,_,_,k6⟩:=hok
    rw[hLb]at k6
    simp only[aAm]at k3
    omega
   | some b=>exact⟨b,rfl,by simp⟩
 ·intro g' v o' hg'
  by_cases hgt:g'=tt
  ·rw[hgo,if_pos hgt]at hg'
   cases hg'
   refine .inr ⟨L,An _ _ _,rfl,hok,λb hb=>?_⟩
   obtain⟨_,_,_,_,_,k6⟩:=hok
   rw[hb]at k6
   obtain⟨C,hC,_⟩:=k6
   have hbl:b<w'.heap.size:=(aAz.1 hC).1
   rw[hvb,hb]at r5
   rcases r5 with r5|r5
   ·obtain⟨g,v1,o1,Lg,_,q2,q3,q4,q5,q6,q7⟩:=hrow b r5.symm
    obtain⟨s1,s2,s3⟩:=h.sep g v1 o1 Lg b q2 q3 q5 q6
    refine⟨s1,hbl,s3.imp id (λz=>⟨z.1,z.2.imp (λhz=>?_) id⟩),.inl r5.symm⟩
    have:r=true:=q7.trans hz
    rw[hgt,htt,this]
    simp[nmR,Ab]
   ·cases r5
    refine⟨λi=>?_,hbl,.inl h.step.size,.inr (aAU _)⟩
    cases hF:F w.heap.size i with
    | none=>rfl
    | some u=>have:=h.fin _ _ _ hF;omega
  ·exact .inl (hold' g' v o' hgt hg')
 ·intro g1 g2 v1 v2 o1 o2 L1 L2 b hg1 hg2 hf1 hf2 hL1 hL2 hb1 hb2 hr
  have key:∀ g' v o' Lg,(σ.app ⟨c,Ad (some t) (.osl tt nv 0 (old.length+new.length)),AH (some tt) (some (nv,⟨false,false,s,e,old++new⟩))++ws⟩).go g'=some (v,o')->o'.fz=false->upB β nv L v=some Lg->Lg.b=some b->g'=tt:=by
   intro g' v o' Lg hg' hf hL hb
   by_cases hgt:g'=tt
   ·exact hgt
   ·exfalso
    obtain⟨k1,k2⟩:=hold' g' v o' hgt hg'
    obtain⟨L0,e0,_⟩:=h.own g' v o' k1
    have:=hβ _ _ e0
    rw[hL]at this;cases this
    rcases hr with hr|hr
    ·exact k2 _ b hf e0 hb hr
    ·have:=(h.sep g' v o' Lg b k1 hf e0 hb).2.1
     omega
  rw[key g1 v1 o1 L1 hg1 hf1 hL1 hb1,key g2 v2 o2 L2 hg2 hf2 hL2 hb2]
 ·intro φ hφ
  have hnw:∀ g i j b,φ g i j b->¬ x.ownBlock=some b:=by
   intro g i j b hb hr
   obtain⟨g1,v1,o1,Lg,_,q2,q3,_,q5,q6,_⟩:=hrow b hr
   exact hφ.sep g i j b g1 v1 o1 Lg hb q2 q3 q5 q6
  have hkeep:∀ g i j b,φ g i j b->w'.heap[b]? =w.heap[b]?:=λg i j b hb=>r3.block b (hφ.lt g i j b hb) (λe=>hnw g i j b hb e.symm)
  refine⟨φ,hφ.QA (Ag.refl _) hβ r3.size (λ_ _ _ _ _ _=>rfl) hkeep (λg v o hg=>?_) (λg v o' hr hg hf=>?_) (λg i j b g' v' o' L' hb hg hf hL' hLb=>?_)⟩
  ·obtain⟨L,hL,_⟩:=h.own g v o hg
   exact⟨L,hL⟩
  ·by_cases hgt:g=tt
   ·rw[hgo,if_pos hgt]at hg
    cases hg
    refine .inr (hpl ?_)
    cases hrb:r with
    | true=>rfl
    | false =>
     rw[hgt,htt,hrb]at hr
     simp only[nmR,cond_false]at hr
     rw[htr]at hr;cases hr
   ·obtain⟨k1,k2⟩:=hold' g v o' hgt hg
    refine .inl ⟨o',k1,hf,rfl,rfl,λi j e c he hj _=>⟨⟨e,he,hj⟩,λL b C x hL hb hC hx=>⟨C,?_,hx⟩⟩⟩
    rw[r3.block b (h.sep g v o' L b k1 hf hL hb).2.1 (λe=>k2 L b hf hL hb e.symm)]at hC
    exact hC
  ·by_cases hgt:g'=tt
   ·rw[hgo,if_pos hgt]at hg
    cases hg
    rw[An]at hL';cases hL'
    rw[hvb,hLb]at r5
    rcases r5 with r5|r5
    ·exact hnw g i j b hb r5.symm
    ·cases r5
     have:=hφ.lt g i j _ hb
     omega
   ·obtain⟨k1,_⟩:=hold' g' v' o' hgt hg
    obtain⟨L0,e0,_⟩:=h.own g' v' o' k1
    have:=hβ _ _ e0
    rw[hL']at this;cases this
    exact hφ.sep g i j b g' v' o' L' hb k1 hf e0 hLb
end
def CN:List D->List MapEntry->Prop
 | [],[]=>True
 | e::es,m::ms=>(∃ n u,e= .agg [.int .i64 n,u]/\m.key= .int .i64 n/\AV u=true/\∀ F,Fro F u m.val)/\CN es ms
 | _,_=>False
def Ee (w:World) (b:Nat) (es:List D):Prop:=∃ (ents:Array MapEntry) (clock:Nat),w.heap[b]? =some (.map ents clock)/\CN es ents.toList
def Lv (w:World) (b:Nat) (es:List D):Prop:=∃ (s:List UInt8) (q:Nat),w.heap[b]? =some (.stringIter ⟨s.toArray⟩ q)/\es=[.str s,.int .i64 (.ofNat q)]
def QV (w:World) (b bb:Nat):Prop:=bb=b\/∃ p n c T,w.heap[b]? =some (.cells #[p,.slice (some ⟨bb,0,none⟩) n c] T (0,0))
theorem QV.self (w:World) (b:Nat):QV w b b:=.inl rfl
theorem QV.of {w w':World} {b bb:Nat} (h:QV w' b bb) (hw:w'.heap[b]? =w.heap[b]?):QV w b bb:=h.imp id λ⟨p,n,c,T,e⟩=>⟨p,n,c,T,hw.symm.trans e⟩
def Lone (o:Obj):Prop:=∀ p n c T a,o≠ .cells #[p,.slice (some a) n c] T (0,0)
theorem QV.lone {w:World} {b bb:Nat} {o:Obj} (h:QV w b bb) (hw:w.heap[b]? =some o) (hn:Lone o):bb=b:=h.resolve_right λ⟨p,n,c,T,e⟩=>by
 rw[hw]at e
 exact hn p n c T _ (Option.some.inj e)
def IM (w:World) (b:Nat) (es:List D):Prop:=∃ (l:List UInt8) (T e:Nat),es=[.str l,.int .i64 (.ofNat T),.int .i64 (.ofNat e)]/\Lib.IsBuilderF T e 0 b (Lib.byteCells l) w
theorem Eu {T e b:Nat} {p:Value} {bs:List Value} {w w':World} (h:Lib.BuilderAtF T e 0 b p bs w) (hw:∀ bb,QV w b bb->w'.heap[bb]? =w.heap[bb]?):Lib.BuilderAtF T e 0 b p bs w':=by
 obtain⟨h0,v,h1,h2,h3⟩:=h
 refine⟨h0,v,(hw b (.inl rfl)).trans h1,⟨h2.1,h2.2.imp id ?_⟩,h3⟩
 rintro⟨g,cap,cur,fz,hv,hb,hg,hr⟩
 refine⟨g,cap,cur,fz,hv,hb,(hw g (.inr ⟨p,bs.length,cap,T,?_⟩)).trans hg,hr⟩
 rw[h1,hv]
theorem IM.QA {w w':World} {b:Nat} {es:List D} (h:IM w b es) (hw:∀ bb,QV w b bb->w'.heap[bb]? =w.heap[bb]?):IM w' b es:=by
 obtain⟨l,T,e,h1,h2⟩:=h
 exact⟨l,T,e,h1,h2.imp (λh=>Eu h hw) λh=>Eu h hw⟩
def DH (w:World) (b ty:Nat) (es:List D):Prop:=(ty=0/\Ee w b es)\/(ty=1/\Lv w b es)\/(ty=2/\IM w b es)
theorem DH.one {w:World} {b ty:Nat} {es:List D} (h:DH w b ty es):∃ o,w.heap[b]? =some o:=by
 rcases h with⟨_,e,c,h,_⟩|⟨_,s,q,h,_⟩|⟨_,l,T,e,_,⟨_,v,h,_⟩|⟨_,v,h,_⟩⟩
 all_goals exact⟨_,h⟩
structure Cp (w0:World) (M:Nat->Prop) (w1:World) (F1:Fz) (M1:Nat->Prop) (B1:Bt) (σ:S) (w:World):Prop where
 at_:∀ g v o,σ.go g=some (v,o)->o.s=0->o.fz=true/\∃ b,B1 v=some ⟨none,o.ty,b⟩/\(∀ bb,QV w b bb->bb<w1.heap.size/\¬ M1 bb/\(∀ i,F1 bb i=none)/\(w0.heap.size<=bb\/M bb))/\DH w b o.ty o.es
 dis:∀ g g' v v' o o' c c' b b' bb,σ.go g=some (v,o)->σ.go g'=some (v',o')->o.s=0->o'.s=0->B1 v=some ⟨none,c,b⟩->B1 v'=some ⟨none,c',b'⟩->QV w b bb->QV w b' bb->g=g'
structure Dd (w0:World) (F0:Fz) (M:Nat->Prop) (B0:Bt) (w1:World) (F1:Fz) (M1:Nat->Prop) (B1:Bt):Prop where
 stp:Stp M w0 F0 w1 F1
 new:∀ b,M1 b->M b\/w0.heap.size<=b
 nam:Aw B0 B1
 mark:w0.heap.size<=w1.drawn
theorem Dd.refl {w0:World} (F0:Fz) (M:Nat->Prop) (B0:Bt) (hd:w0.heap.size<=w0.drawn):Dd w0 F0 M B0 w0 F0 M B0:=⟨Stp.refl _ _ _,λ_ h=>.inl h,Aw.refl _,hd⟩
theorem Dd.then {w0 w1 w2:World} {F0 F1 F2:Fz} {M M1:Nat->Prop} {B0 B1:Bt} (h:Dd w0 F0 M B0 w1 F1 M1 B1) (k:Stp M1 w1 F1 w2 F2):Stp M w0 F0 w2 F2:=by
 have hM:∀ b,b<w0.heap.size->¬ M b->¬ M1 b:=λb hb hm h1=>(h.new b h1).elim hm λe=>by omega
 exact⟨k.os.trans h.stp.os,k.tape.trans h.stp.tape,k.output.trans h.stp.output,aAO h.stp.size k.size,λb hb hm=>(k.block b (aAD hb h.stp.size) (hM b hb hm)).trans (h.stp.block b hb hm),
  h.stp.sub.trans k.sub,λb i hb hm=>(k.old b i (aAD hb h.stp.size) (hM b hb hm)).trans (h.stp.old b i hb hm)⟩
theorem Dd.trans {w0 w1 w2:World} {F0 F1 F2:Fz} {M M1 M2:Nat->Prop} {B0 B1 B2:Bt} (h:Dd w0 F0 M B0 w1 F1 M1 B1) (k:Dd w1 F1 M1 B1 w2 F2 M2 B2):Dd w0 F0 M B0 w2 F2 M2 B2 :=
 ⟨h.then k.stp,λb hb=>(k.new b hb).elim (λh1=>h.new b h1) λe=>.inr (aAO h.stp.size e),h.nam.trans k.nam,aAO h.stp.size k.mark⟩
def Az (N:Nat) (w0:World) (F0:Fz) (M:Nat->Prop) (B0:Bt) (σ:S) (F:Fz) (β:Bt) (a:Act) (w:World):Prop :=
 ∃ w1 F1 M1 B1,Dd w0 F0 M B0 w1 F1 M1 B1/\Sim N w1 F1 M1 B1 σ F β a w/\Cp w0 M w1 F1 M1 B1 σ w
section
variable {N:Nat} {w0:World} {F0:Fz} {M:Nat->Prop} {B0:Bt} {σ:S} {F:Fz} {β:Bt} {a:Act} {w:World} {P:Program}
theorem Sim.base {w1:World} {F1:Fz} {M1:Nat->Prop} {B1:Bt} (h:Sim N w1 F1 M1 B1 σ F β a w) (k:Dd w0 F0 M B0 w1 F1 M1 B1):Sim N w0 F0 M B0 σ F β a w:=by
 have hnew:∀ b,w1.heap.size<=b\/M1 b->w0.heap.size<=b\/M b:=λb hb=>hb.elim (λe=>.inl (aAO k.stp.size e)) λe=>(k.new b e).symm
 refine{ size:=h.size,defers:=h.defers,env:=h.env,own:=h.own,dist:=h.dist,sep:=λg v o L b h1 h2 h3 h4=>?_,Ab:=?_,frz:=h.frz,fin:=h.fin,step:=k.then h.step,nam:=k.nam.trans h.nam }
 ·obtain⟨s1,s2,s3⟩:=h.sep g v o L b h1 h2 h3 h4
  refine⟨s1,s2,?_⟩
  rcases s3 with e|⟨e,r⟩
  ·exact .inl (aAO k.stp.size e)
  ·rcases r with r|r
   ·exact(k.new b e).elim (λm=>.inr ⟨m,.inl r⟩) .inl
   ·exact .inl (aAO k.mark r)
 ·obtain⟨φ,hφ⟩:=h.Ab
  exact⟨φ,hφ.row,hφ.hole,hφ.none_,hφ.lt,λg i j b hb=>hnew b (hφ.new g i j b hb),hφ.sep,hφ.dis⟩
theorem Az.sim (h:Az N w0 F0 M B0 σ F β a w):Sim N w0 F0 M B0 σ F β a w:=by
 obtain⟨w1,F1,M1,B1,hb,hs,_⟩:=h
 exact hs.base hb
theorem Sim.HA (h:Sim N w0 F0 M B0 σ F β a w) {g v:Nat} {o:Own} (hg:σ.go g=some (v,o)) (hf:o.fz=false):o.s≠0:=by
 obtain⟨L,_,_,hk⟩:=h.own g v o hg
 have:=(hk hf).2.1
 omega
theorem Cp.sub {w1:World} {F1:Fz} {M1:Nat->Prop} {B1:Bt} {σ':S} (h:Cp w0 M w1 F1 M1 B1 σ w) (hs:∀ g v o,σ'.go g=some (v,o)->o.s=0->σ.go g=some (v,o)):Cp w0 M w1 F1 M1 B1 σ' w :=
 ⟨λg v o hg h0=>h.at_ g v o (hs g v o hg h0) h0,λg g' v v' o o' c c' b b' bb hg hg' h0 h0'=>h.dis g g' v v' o o' c c' b b' bb (hs g v o hg h0) (hs g' v' o' hg' h0') h0 h0'⟩
theorem Ee.QA {w w':World} {b:Nat} {es:List D} (h:Ee w b es) (hw:w'.heap[b]? =w.heap[b]?):Ee w' b es:=by
 obtain⟨e,c,h1,h2⟩:=h
 exact⟨e,c,hw.trans h1,h2⟩
theorem DH.QA {w w':World} {b ty:Nat} {es:List D} (h:DH w b ty es) (hw:∀ bb,QV w b bb->w'.heap[bb]? =w.heap[bb]?):DH w' b ty es :=
 h.imp (And.imp_right λh=>h.QA (hw b (.inl rfl))) (Or.imp (And.imp_right λ⟨s,q,h1,h2⟩=>⟨s,q,(hw b (.inl rfl)).trans h1,h2⟩) (And.imp_right λh=>h.QA hw))
theorem Cp.later {w1:World} {F1:Fz} {M1:Nat->Prop} {B1:Bt} {F F':Fz} {w':World} (h:Cp w0 M w1 F1 M1 B1 σ w) (k:Stp M1 w1 F1 w F) (k':Stp M1 w1 F1 w' F'):Cp w0 M w1 F1 M1 B1 σ w':=by
 have one:∀ g v o,σ.go g=some (v,o)->o.s=0->∀ c b,B1 v=some ⟨none,c,b⟩->∀ bb,QV w b bb->w'.heap[bb]? =w.heap[bb]?:=by
  intro g v o hg h0 c b hb bb hbb
  obtain⟨_,b',h2,h3,_⟩:=h.at_ g v o hg h0
  rw[hb]at h2;cases h2
  obtain⟨h4,h5,_⟩:=h3 bb hbb
  exact(k'.block bb h4 h5).trans (k.block bb h4 h5).symm
 refine⟨λg v o hg h0=>?_,λg g' v v' o o' c c' b b' bb hg hg' h0 h0' e e' hb hb'=>?_⟩
 ·obtain⟨h1,b,h2,h3,h6⟩:=h.at_ g v o hg h0
  have hk:=one g v o hg h0 _ b h2
  exact⟨h1,b,h2,λbb hbb=>h3 bb (hbb.of (hk b (.inl rfl))),h6.QA hk⟩
 ·exact h.dis g g' v v' o o' c c' b b' bb hg hg' h0 h0' e e' (hb.of (one g v o hg h0 c b e b (.inl rfl))) (hb'.of (one g' v' o' hg' h0' c' b' e' b' (.inl rfl)))
theorem Az.of (h:Sim N w0 F0 M B0 σ F β a w) (hd:w0.heap.size<=w0.drawn) (hm:∀ g v o,σ.go g=some (v,o)->o.s≠0):Az N w0 F0 M B0 σ F β a w :=
 ⟨w0,F0,M,B0,Dd.refl _ _ _ hd,h,⟨λg v o hg h0=>(hm g v o hg h0).elim,λg _g' v _v' o _o' _c _c' _b _b' _bb hg _ h0=>(hm g v o hg h0).elim⟩⟩
theorem Sim.OZ {w1:World} {F1:Fz} {M1:Nat->Prop} {B1:Bt} (h:Sim N w1 F1 M1 B1 σ F β a w) {b:Nat} {o o':Obj} (hb:b<w1.heap.size) (hM:¬ M1 b) (hF:∀ i,F1 b i=none) (hw:w.heap[b]? =some o) :
  Sim N { w1 with heap:=w1.heap.setIfInBounds b o' } F1 M1 B1 σ F β a { w with heap:=w.heap.setIfInBounds b o' }:=by
 have hne:∀ b',b'≠b->(w.heap.setIfInBounds b o')[b']? =w.heap[b']?:=λb' hb'=>by simp[Ne.symm hb']
 have hne1:∀ b',b'≠b->(w1.heap.setIfInBounds b o')[b']? =w1.heap[b']?:=λb' hb'=>by simp[Ne.symm hb']
 have hbw:b<w.heap.size:=aAD hb h.step.size
 have hFb:∀ i,F b i=none:=λi=>(h.step.old b i hb hM).trans (hF i)
 refine{ size:=h.size,defers:=h.defers,env:=h.env,own:=?_,dist:=h.dist,sep:=?_,Ab:=?_,frz:=?_,fin:=?_,step:=?_,nam:=h.nam }
 ·intro g v ow hg
  obtain⟨L,hL,hz,hk⟩:=h.own g v ow hg
  refine⟨L,hL,hz,λhf=>(hk hf).QA (Ag.refl _) (Aw.refl _) λb' hb'=>hne b' ?_⟩
  rintro rfl
  rcases(h.sep g v ow L b' hg hf hL hb').2.2 with e|⟨e,_⟩
  ·omega
  ·exact hM e
 ·intro g v ow L b' hg hf hL hb'
  obtain⟨s1,s2,s3⟩:=h.sep g v ow L b' hg hf hL hb'
  exact⟨s1,by simpa using s2,by simpa using s3⟩
 ·obtain⟨φ,hφ⟩:=h.Ab
  have hφb:∀ g i j b',φ g i j b'->b'≠b:=λg i j b' hb' e=>by
   subst e
   rcases hφ.new g i j b' hb' with e|e
   ·omega
   ·exact hM e
  refine⟨φ,?_⟩
  simp only[aBF]
  refine hφ.QA (Ag.refl _) (Aw.refl _) (by simp) (λ_ _ _ _ _ _=>rfl) (λg i j b' hb'=>hne b' (hφb g i j b' hb')) (λg v ow hg=>by obtain⟨L,hL,_⟩:=h.own g v ow hg;exact⟨L,hL⟩) (λg v ow hr hg hf=>.inl ⟨ow,hg,hf,rfl,rfl,λi j e c he hc hp=>⟨⟨e,he,hc⟩,λL b' C x hL hb' hC hx=>⟨C,?_,hx⟩⟩⟩) hφ.sep
  rw[hne b']at hC
  ·exact hC
  ·rintro rfl
   rcases(h.sep g v ow L b' hg hf hL hb').2.2 with e|⟨e,_⟩
   ·omega
   ·exact hM e
 ·intro b' i x hx
  have hb':b'≠b:=by rintro rfl;rw[hFb i]at hx;cases hx
  have:=h.frz b' i x hx
  unfold aAx at this ⊢
  simp only[hne b' hb']
  exact this
 ·intro b' i x hx
  simpa using h.fin b' i x hx
 ·refine⟨h.step.os,h.step.tape,h.step.output,by simpa using h.step.size,λb' hb' hm=>?_,h.step.sub,λb' i hb' hm=>h.step.old b' i (by simpa using hb') hm⟩
  by_cases e:b'=b
  ·subst e;simp[hb,hbw]
  ·simp only[hne b' e,hne1 b' e]
   exact h.step.block b' (by simpa using hb') hm
end
def noB:Bt:=λ_=>none
def IV (F:Fz) (w:World) (b s ty:Nat) (d:D):Prop:=AA F noB w ⟨some b,1,s⟩ ⟨false,true,s,ty,[d]⟩
structure Hd where
 b:Nat
 s:Nat
 ty:Nat
 φ:Nat->Nat->Prop
def Hd.own (m:Hd) (b:Nat):Prop:=b=m.b\/∃ j,m.φ j b
def XO (m m':Hd):Prop:=∀ b,m.own b->¬ m'.own b
structure EM (F:Fz) (w:World) (m:Hd) (d:D):Prop where
 var:IV F w m.b m.s m.ty d
 none_:∀ i,F m.b i=none
 lt:m.b<w.heap.size
 fno:∀ j b,m.φ j b->∀ k,F b k=none
 flt:∀ j b,m.φ j b->b<w.heap.size
 fne:∀ j b,m.φ j b->b≠m.b
 dis:∀ j j' b,m.φ j b->m.φ j' b->j=j'
 row:∀ C (j:Nat) x s ty es,w.heap[m.b]? =some (.cells C m.ty (0,0))->(cells d)[j]? =some (.row s ty es)->C[j]? =some x->Br F w (m.φ j) s ty es x
 hole:∀ (j nm u n:Nat),(cells d)[j]? ≠some (.hole nm u n)
inductive CV (F:Fz) (w:World) (ptr:List (Nat×(Nat×Nat))):Nat->List D->List Value->List Hd->Prop
 | nil (j:Nat):CV F w ptr j [] [] []
 | val (j:Nat) (d:D) (ds:List D) (x:Value) (xs:List Value) (M:List Hd) (hp:look ptr j=none) (h:Fro F d x) (hr:CV F w ptr (j+1) ds xs M):CV F w ptr j (d::ds) (x::xs) M
 | ptr (j:Nat) (d:D) (ds:List D) (xs:List Value) (M:List Hd) (m:Hd) (hp:look ptr j=some (m.s,m.ty)) (h:EM F w m d)
   (hM:∀ m'∈M,XO m m') (hr:CV F w ptr (j+1) ds xs M):CV F w ptr j (d::ds) (.pointer (some ⟨m.b,0,none⟩)::xs) (m::M)
inductive BM (F:Fz) (w:World) (ptr:List (Nat×(Nat×Nat))):Nat->List D->List Value->List Hd->Prop
 | nil (j:Nat):BM F w ptr j [] [] []
 | val (j:Nat) (d:D) (ds:List D) (x:Value) (xs:List Value) (M:List Hd) (hp:look ptr j=none) (hn:∀ f caps,d≠ .clo f caps) (h:Fro F d x) (hr:BM F w ptr (j+1) ds xs M):BM F w ptr j (d::ds) (x::xs) M
 | ptr (j:Nat) (d:D) (ds:List D) (xs:List Value) (M:List Hd) (m:Hd) (hp:look ptr j=some (m.s,m.ty)) (h:EM F w m d)
   (hM:∀ m'∈M,XO m m') (hr:BM F w ptr (j+1) ds xs M):BM F w ptr j (d::ds) (.pointer (some ⟨m.b,0,none⟩)::xs) (m::M)
 | clo (j f:Nat) (caps:List D) (vs:List Value) (ds:List D) (xs:List Value) (M1 M2:List Hd) (hp:look ptr j=none) (hc:CV F w ptr (64*(j+1)) caps vs M1)
   (hM:∀ m∈M1,∀ m'∈M2,XO m m') (hr:BM F w ptr (j+1) ds xs M2):BM F w ptr j (.clo f caps::ds) (fnV f vs::xs) (M1++M2)
structure Lt (F:Fz) (w:World) (n0:Nat) (M:List Hd) (effs:List D) (ψ:Nat->Nat->Nat->Prop):Prop where
 ok:∀ (k:Nat) m,M[k]? =some m->EM F w ⟨m.b,m.s,m.ty,ψ k⟩ (effs.getD k .top)
 lt:∀ k j b,ψ k j b->k<M.length
 from_:∀ k j b,ψ k j b->n0<=b\/∃ m∈M,m.own b
 dis:∀ k j k' j' b,ψ k j b->ψ k' j' b->k=k'
 ne:∀ k j b m,ψ k j b->m∈M->b≠m.b
def Nf (w:World) (F':Fz) (w':World) (d:D) (v:Value) (ρ:Nat->Prop):Kind->Prop
 | .val=>Fro F' d v
 | .ground=>Fro F' d v
 | .row s ty=>∃ es L,d= .sl es/\v= .slice (L.b.map λb=>⟨b,0,none⟩) es.length L.cap/\AA F' noB w' L ⟨false,false,s,ty,es⟩/\∀ b,L.b=some b->w.heap.size<=b/\b<w'.heap.size/\(∀ i,F' b i=none)/\ρ b
 | .mat s ty=>∃ es L,∃ φ:Nat->Nat->Nat->Prop,d= .sl es/\v= .slice (L.b.map λb=>⟨b,0,none⟩) es.length L.cap/\AA F' noB w' L ⟨false,false,s,ty,es⟩/\(∀ b,L.b=some b->w.heap.size<=b/\b<w'.heap.size/\(∀ i,F' b i=none)/\ρ b) /\
   (∀ i j b,φ i j b->w.heap.size<=b/\b<w'.heap.size/\(∀ k,F' b k=none)/\ρ b/\L.b≠some b)/\(∀ i j i' j' b,φ i j b->φ i' j' b->i=i'/\j=j') /\
   (∀ b C (i j:Nat) e x s' ty' es',L.b=some b->w'.heap[b]? =some (.cells C ty (0,0))->es[i]? =some e->(cells e)[j]? =some (.row s' ty' es')->C[i*s+j]? =some x->Br F' w' (φ i j) s' ty' es' x) /\
   (∀ (i j:Nat) e nm u n,es[i]? =some e->(cells e)[j]? ≠some (.hole nm u n))
 | .ptr s ty=>∃ b,v= .pointer (some ⟨b,0,none⟩)/\IV F' w' b s ty d/\w.heap.size<=b/\b<w'.heap.size/\(∀ i,F' b i=none)/\ρ b
 | .inpl ..=>False
 | .opn ..=>False
 | .tupPtr q s ty=>∃ (ds:List D) (vs:List Value) (b:Nat),d= .tup ds/\v= .tuple vs.toArray/\ds.length=vs.length/\(∀ (j:Nat) c x,j≠q->ds[j]? =some c->vs[j]? =some x->Fro F' c x) /\
   vs[q]? =some (.pointer (some ⟨b,0,none⟩))/\IV F' w' b s ty (ds.getD q .top)/\w.heap.size<=b/\b<w'.heap.size/\(∀ i,F' b i=none)/\ρ b
def Wr (M:List Hd) (b:Nat):Prop:=∃ m∈M,m.own b
def Df (sp:Spec) (w:World) (F:Fz) (ds:List D) (M:List Hd) (e:Ending) (w':World):Prop :=
 ∃ v F' ψ ρ,e= .returned v/\Fok F' w'/\(∀ b i x,F' b i=some x->b<w'.heap.size)/\Stp (Wr M) w F w' F'/\Nf w F' w' (sp.res ds) v ρ sp.kind/\Lt F' w' w.heap.size M (sp.eff ds) ψ/\∀ k j b,ψ k j b->¬ ρ b
def Cb (P:Program) (f:Nat):Prop:=∃ fn,P.funcs[f]? =some fn/\(fn.name == "runtime.NumGoroutine")=false/\fn.body.isNone=false
def Lu (P:Program) (f:Nat) (q:Bool×(List Int->List Int)×(List Int->Nat)):Prop :=
 (∀ zs,(q.2.1 zs).length=zs.length/\q.2.2 zs<=zs.length) /\
 (∀ (w:World) (a:Option Addr) (cap:Nat),Calls P f #[.slice a 0 cap] w λe w'=>e= .returned (if q.1 then .slice a 0 cap else .tuple #[])/\w'=w) /\
 ∀ (w:World) (b off cap ty:Nat) (C:Array Value) (zs:List Int),0<zs.length->zs.length<4611686018427387904->zs.length<=cap->w.heap[b]? =some (.cells C ty (0,0))->(∀ (j:Nat) x,zs[j]? =some x->C[off+j]? =some (.int .i64 x)) ->
  Calls P f #[.slice (some ⟨b,off,none⟩) zs.length cap] w λe w'=>e= .returned (if q.1 then .slice (some ⟨b,off,none⟩) (q.2.2 zs) cap else .tuple #[])/\w'.os=w.os/\w'.tape=w.tape/\w'.output=w.output /\
   w.heap.size<=w'.heap.size/\(∀ b',b'<w.heap.size->b'≠b->w'.heap[b']? =w.heap[b']?)/\∃ C',w'.heap[b]? =some (.cells C' ty (0,0))/\C'.size=C.size/\(∀ k,(k<off\/off+zs.length<=k)->C'[k]? =C[k]?) /\
   ∀ (j:Nat) x,(q.2.1 zs)[j]? =some x->C'[off+j]? =some (.int .i64 x)
def CM (P:Program) (F:Fz) (e:String×List D):Prop:=∀ g,P.globalNamed e.1=some g->∀ (j:Nat) d,e.2[j]? =some d->∃ x,F g j=some x/\x.oneCell'=true/\Fro F d x
def UG (P:Program) (F:Fz):Prop:=∀ e∈CP,CM P F e
theorem UG.mono {P:Program} {F F':Fz} (h:UG P F) (hF:Ag F F'):UG P F':=λe he g hg j d hd=>by
 obtain⟨x,h1,h2,h3⟩:=h e he g hg j d hd
 exact⟨x,hF _ _ _ h1,h2,h3.mono hF⟩
theorem UG.none {P:Program} {F:Fz} (h:(CP.all λe=>(P.globalNamed e.1).isNone)=true):UG P F:=λe he g hg=>by
 have:=aAN.1 h e he
 rw[hg]at this;cases this
theorem UG.tz {P:Program} {F:Fz} (h:UG P F) {g:Nat} (hg:P.globalNamed "math/bits.deBruijn64tab" = some g) (j:Nat) (hj:j<64):F g j=some (.int .u8 (DS.getD j 0)):=by
 have hl:DS.length=64:=by decide
 obtain⟨x,h1,_,h3⟩:=h _ (List.mem_cons_self ..) g hg j (.int .u8 (DS.getD j 0:Nat)) (by simp[aAI,List.getD,aAB (show j<DS.length by omega)])
 cases h3
 exact h1
def Pt (P:Program) (F0:Fz) (f:Nat) (φ:List D->S->(D->S->Prop)->Prop):Prop :=
 ∀ F1,Ag F0 F1->∀ (N:Nat) (w0:World) (M:Nat->Prop) (B0:Bt) (σ:S) (F:Fz) (β:Bt) (a:Act) (w:World) (ds:List D) (vs:List Value) (K:D->S->Prop),Az N w0 F1 M B0 σ F β a w->(∀ v,σ.n<=v->β v=none) ->
  ds.length=vs.length->(∀ (i:Nat) d x,ds[i]? =some d->vs[i]? =some x->Val F β d x)->φ ds σ K ->
  Calls P f vs.toArray w λe w'=>∃ v d o' n' F' β',e= .returned v/\Az N w0 F1 M B0 ⟨σ.e,o',n'⟩ F' β' a w'/\(∀ v,n'<=v->β' v=none)/\Val F' β' d v/\K d ⟨σ.e,o',n'⟩
def Bv (P:Program) (F0:Fz) (f:Nat) (sp:Spec):Prop :=
 Cb P f/\(∀ q,Cc sp.kind=some q->Lu P f q)/\(Cc sp.kind=none->Ej sp.kind=none->∀ (w:World) (F:Fz) (ds:List D) (vs:List Value) (M:List Hd),Ag F0 F->Fok F w->(∀ b i x,F b i=some x->b<w.heap.size)->BM F w sp.ptr 0 ds vs M->sp.pre ds ->
  Calls P f vs.toArray w (Df sp w F ds M))/\(∀ φ,Ej sp.kind=some φ->Pt P F0 f φ)/\UG P F0
theorem Bv.mono {P:Program} {F0 F1:Fz} {f:Nat} {sp:Spec} (h:Bv P F0 f sp) (hF:Ag F0 F1):Bv P F1 f sp :=
 ⟨h.1,h.2.1,λa b w F ds vs M k=>h.2.2.1 a b w F ds vs M (hF.trans k),λφ hφ F2 k=>h.2.2.2.1 φ hφ F2 (hF.trans k),h.2.2.2.2.mono hF⟩
def Qi (P:Program) (f:Nat) (sp:Spec):Prop:=∀ F0,UG P F0->Bv P F0 f sp
section
variable {N:Nat} {w0:World} {F0:Fz} {M:Nat->Prop} {B0:Bt} {σ:S} {F:Fz} {β:Bt} {a:Act} {w:World}
theorem FJ (h:Sim N w0 F0 M B0 σ F β a w) (e:D) (X:Nat->Option Value) (hX:∀ (j:Nat) c,(cells e)[j]? =some c->∃ x,X j=some x/\x.oneCell'=true/\Cel F β c x) (hc:((res e).run σ).1) :
  Aq σ ((res e).run σ).2.2/\(cells ((res e).run σ).2.1).length=(cells e).length/\∀ (ws:List (Nat×Ac)) F',Aq σ ws->(∀ p∈((res e).run σ).2.2,p∈ws)->Ag F F'->Sim N w0 F0 M B0 ⟨σ.e,ws++σ.o,σ.n⟩ F' β a w ->
   ∀ (j:Nat) c,(cells ((res e).run σ).2.1)[j]? =some c->∃ x,X j=some x/\x.oneCell'=true/\Fro F' c x:=by
 have one:∀ d:D,cells d=[d]->res d=AJ d->cells e=[d]->e=d->Aq σ ((res e).run σ).2.2/\(cells ((res e).run σ).2.1).length=(cells e).length/\∀ (ws:List (Nat×Ac)) F',Aq σ ws->(∀ p∈((res e).run σ).2.2,p∈ws)->Ag F F'->Sim N w0 F0 M B0 ⟨σ.e,ws++σ.o,σ.n⟩ F' β a w ->
   ∀ (j:Nat) c,(cells ((res e).run σ).2.1)[j]? =some c->∃ x,X j=some x/\x.oneCell'=true/\Fro F' c x:=by
  rintro d h1 h2 h3 rfl
  rw[h2]at hc ⊢
  obtain⟨x,x1,x2,x3⟩:=hX 0 e (by rw[h3];rfl)
  obtain⟨r1,r2⟩:=EH h e x3 hc
  have h4:cells ((AJ e).run σ).2.1=[((AJ e).run σ).2.1]:=by
   have:∀ d:D,((AJ d).run σ).1->cells ((AJ d).run σ).2.1=[((AJ d).run σ).2.1]:=by
    intro d hd
    cases d<;>first|exact hd.elim|rfl|skip
    simp only[AJ,R.run]at hd ⊢
    split<;>simp_all<;>rfl
   exact this e hc
  refine⟨r1,by rw[h4,h3];rfl,λws F' q1 q2 q3 q4 j c hj=>?_⟩
  rw[h4]at hj
  rcases j with _|j
  ·simp only[aAC,Option.some.injEq]at hj
   subst hj
   exact⟨x,x1,x2,r2 ws F' q1 q2 q3 q4⟩
  ·simp at hj
 cases e with
 | agg cs =>
  obtain⟨c0,hc1,e⟩:=EI σ cs
  simp only[e]at hc ⊢
  replace hc:=hc1.1 hc
  simp only[cells]at hX ⊢
  let vs:List Value:=(aAa cs.length).map λj=>(X j).getD undef
  have hvs:∀ (j:Nat) c,cs[j]? =some c->∃ x,X j=some x/\vs[j]? =some x/\x.oneCell'=true/\Cel F β c x:=by
   intro j c hj
   obtain⟨x,x1,x2,x3⟩:=hX j c hj
   have hlt:=(aA.1 hj).1
   exact⟨x,x1,by simp[vs,hlt,x1],x2,x3⟩
  obtain⟨r1,r2,r3⟩:=Hc h cs vs (by simp[vs]) (λj c v hc' hv'=>by
   obtain⟨x,_,x1,_,x3⟩:=hvs j c hc'
   rw[hv']at x1;cases x1;exact x3) hc
  refine⟨r1,by rw[r2];simp[vs],λws F' q1 q2 q3 q4 j c hj=>?_⟩
  have hlt:j<cs.length:=by have:=(aA.1 hj).1;rw[r2]at this;simpa[vs]using this
  obtain⟨x,x0,x1,x2,_⟩:=hvs j _ (aAB hlt)
  exact⟨x,x0,x2,r3 ws F' q1 q2 q3 q4 j c x hj x1⟩
 | _=>exact one _ rfl rfl rfl rfl
theorem Ju {r:Bool} {d:D} (hc:((EV r d).run σ).1):((AJ d).run σ).1/\((EV r d).run σ).2=((AJ d).run σ).2/\(∀ s ty es,d= .row s ty es->r=true)/\∀ nm u n,d≠ .hole nm u n:=by
 cases d<;>first|exact⟨hc,rfl,λ_ _ _ e=>(by cases e),λ_ _ _ e=>(by cases e)⟩|exact hc.elim|skip
 exact⟨trivial,rfl,λ_ _ _ _=>hc,λ_ _ _ e=>(by cases e)⟩
theorem Hb {d:D} (hc:((AJ d).run σ).1):(∀ s ty es,((AJ d).run σ).2.1= .row s ty es->d= .row s ty es)/\∀ nm u n,((AJ d).run σ).2.1= .hole nm u n->d= .hole nm u n:=by
 cases d<;>first|exact hc.elim|exact⟨λ_ _ _ e=>e,λ_ _ _ e=>e⟩|exact⟨λ_ _ _ e=>(by cases e),λ_ _ _ e=>(by cases e)⟩|skip
 simp only[AJ,R.run]at hc ⊢
 split at hc
 ·exact⟨λ_ _ _ e=>(by cases e),λ_ _ _ e=>(by cases e)⟩
 ·exact hc.elim
theorem IC {r:Bool}:∀ {cs:List D},((BR r cs).run σ).1->((AZ cs).run σ).1/\((BR r cs).run σ).2=((AZ cs).run σ).2 /\
  ∀ (j:Nat) c,((AZ cs).run σ).2.1[j]? =some c->(∀ s ty es,c= .row s ty es->r=true/\cs[j]? =some c)/\∀ nm u n,c≠ .hole nm u n
 | [],_=>⟨trivial,rfl,λj c h=>by simp[AZ]at h⟩
 | d::cs,hc=>by
  simp only[BR,R.run_bind,R.run_pure]at hc
  obtain⟨p1,p2,p3,p4⟩:=Ju hc.1
  obtain⟨q1,q2,q3⟩:=IC hc.2
  obtain⟨r1,r2⟩:=Hb p1
  simp only[BR,AZ,R.run_bind,R.run_pure,p2,q2]
  refine⟨⟨p1,q1⟩,trivial,λj c h=>?_⟩
  rcases j with _|j
  ·simp only[aAC,Option.some.injEq]at h ⊢
   subst h
   exact⟨λs ty es e=>⟨p3 s ty es (r1 s ty es e),by rw[e];exact r1 s ty es e⟩,λnm u n e=>p4 nm u n (r2 nm u n e)⟩
  ·simp only[aAT]at h ⊢
   exact q3 j c h
theorem Jw {r:Bool}:∀ {cs:List D},Cf r cs=true->((BR r cs).run σ).1/\((BR r cs).run σ).2=(cs.map nzD,[])
 | [],_=>⟨trivial,rfl⟩
 | d::cs,h=>by
  have go:∀ (c:Prop) (d':D),((EV r d).run σ)=(c,d',[])->c->nzD d=d'->Cf r cs=true->((BR r (d::cs)).run σ).1/\((BR r (d::cs)).run σ).2=((d::cs).map nzD,[]):=by
   intro c d' h1 h2 h3 h4
   obtain⟨q1,q2⟩:=Jw h4
   simp only[BR,R.run_bind,R.run_pure,h1,q2,h3,List.map_cons,aAv]
   exact⟨⟨h2,q1⟩,trivial⟩
  cases d<;>first|exact go _ _ rfl trivial rfl h|(simp[Cf]at h;done)|skip
  rw[Cf,aAV]at h
  exact go _ _ rfl h.1 rfl h.2
theorem Km {r:Bool} {cs:List D} (hc:((pas r (.agg cs)).run σ).1):((BR r cs).run σ).1/\((pas r (.agg cs)).run σ).2=(.agg ((BR r cs).run σ).2.1,((BR r cs).run σ).2.2):=by
 have hp:pas r (.agg cs)=bif Cf r cs then .ret (True,.agg (cs.map nzD),[])else(do
  let(c,cs',w)<-BR r cs
  pure (c,.agg cs',w)):=rfl
 rw[hp]at hc ⊢
 cases e:Cf r cs
 ·rw[e]at hc
  simp only[cond_false,R.run_bind,R.run_pure]at hc ⊢
  exact⟨hc,trivial⟩
 ·obtain⟨q1,q2⟩:=Jw (σ:=σ) e
  rw[q2]
  exact⟨q1,rfl⟩
theorem Kn {r:Bool} {e:D} (hc:((pas r e).run σ).1):((res e).run σ).1/\((pas r e).run σ).2=((res e).run σ).2 /\
  ∀ (j:Nat) c,(cells ((res e).run σ).2.1)[j]? =some c->(∀ s ty es,c= .row s ty es->r=true/\(cells e)[j]? =some c)/\∀ nm u n,c≠ .hole nm u n:=by
 have one:pas r e=EV r e->res e=AJ e->cells e=[e]->(((AJ e).run σ).1->cells ((AJ e).run σ).2.1=[((AJ e).run σ).2.1])->((res e).run σ).1/\((pas r e).run σ).2=((res e).run σ).2 /\
  ∀ (j:Nat) c,(cells ((res e).run σ).2.1)[j]? =some c->(∀ s ty es,c= .row s ty es->r=true/\(cells e)[j]? =some c)/\∀ nm u n,c≠ .hole nm u n:=by
  intro h1 h2 h3 h4
  rw[h1]at hc
  obtain⟨p1,p2,p3,p4⟩:=Ju hc
  obtain⟨r1,r2⟩:=Hb p1
  rw[h1,h2,h3,h4 p1]
  refine⟨p1,p2,λj c h=>?_⟩
  rcases j with _|j
  ·simp only[aAC,Option.some.injEq]at h ⊢
   subst h
   exact⟨λs ty es e=>⟨p3 s ty es (r1 s ty es e),by rw[e];exact r1 s ty es e⟩,λnm u n e=>p4 nm u n (r2 nm u n e)⟩
  ·simp at h
 cases e with
 | agg cs =>
  obtain⟨hc',he⟩:=Km hc
  obtain⟨q1,q2,q3⟩:=IC hc'
  rw[he]
  obtain⟨c0,hc1,e⟩:=EI σ cs
  simp only[e,q2]
  exact⟨hc1.2 q1,trivial,q3⟩
 | osl g v i n =>
  refine one rfl rfl rfl λh=>?_
  simp only[AJ,R.run]at h ⊢
  split at h
  ·rfl
  ·exact h.elim
 | optr=>exact hc.elim
 | when=>exact hc.elim
 | tup=>exact hc.elim
 | _=>exact one rfl rfl rfl λ_=>rfl
def De (σ:S) (β:Bt) (φ:Nat->Nat->Nat->Nat->Prop) (ps:List (Nat×Nat×Own)) (Mb:List Hd):Prop :=
 ps.length=Mb.length/\(∀ (k:Nat) g v o,ps[k]? =some (g,v,o)->σ.go g=some (v,o)/\o.fz=false/\o.var=true/\o.es.length=1/\∃ L m,β v=some L/\L.b=some m.b/\L.cap=1/\Mb[k]? =some m/\m.s=o.s/\m.ty=o.ty/\m.φ=φ g 0) /\
  (ps.map Prod.fst).Nodup
theorem De.apart (h:Sim N w0 F0 M B0 σ F β a w) {φ:Nat->Nat->Nat->Nat->Prop} (hφ:AE F β w0.heap.size M σ w φ) {ps ps':List (Nat×Nat×Own)} {M1 M2:List Hd} (h1:De σ β φ ps M1) (h2:De σ β φ ps' M2)
  (hd:ps'.all (λx=>ps.all λy=>x.1 != y.1)=true):(∀ m∈M1,∀ m'∈M2,XO m m')/\De σ β φ (ps++ps') (M1++M2):=by
 obtain⟨a1,a2,a3⟩:=h1
 obtain⟨b1,b2,b3⟩:=h2
 have hne:∀ p∈ps,∀ q∈ps',q.1≠p.1:=by
  intro p hp q hq
  have:=aAN.1 (aAN.1 hd q hq) p hp
  simpa using this
 have at1:∀ m∈M1,∃ p∈ps,∃ L,σ.go p.1=some p.2/\p.2.2.fz=false/\β p.2.1=some L/\L.b=some m.b/\m.φ=φ p.1 0:=by
  intro m hm
  obtain⟨k,hk⟩:=aAf.1 hm
  have hlt:k<ps.length:=by rw[a1];exact(aA.1 hk).1
  obtain⟨⟨g,v,o⟩,hg⟩:∃ p,ps[k]? =some p:=⟨_,aAB hlt⟩
  obtain⟨q1,q2,_,_,L,m',q4,q5,_,q7,_,_,q8⟩:=a2 k g v o hg
  rw[hk]at q7;cases q7
  exact⟨_,aAA hg,L,q1,q2,q4,q5,q8⟩
 have at2:∀ m∈M2,∃ p∈ps',∃ L,σ.go p.1=some p.2/\p.2.2.fz=false/\β p.2.1=some L/\L.b=some m.b/\m.φ=φ p.1 0:=by
  intro m hm
  obtain⟨k,hk⟩:=aAf.1 hm
  have hlt:k<ps'.length:=by rw[b1];exact(aA.1 hk).1
  obtain⟨⟨g,v,o⟩,hg⟩:∃ p,ps'[k]? =some p:=⟨_,aAB hlt⟩
  obtain⟨q1,q2,_,_,L,m',q4,q5,_,q7,_,_,q8⟩:=b2 k g v o hg
  rw[hk]at q7;cases q7
  exact⟨_,aAA hg,L,q1,q2,q4,q5,q8⟩
 refine⟨λm hm m' hm' b hb hb'=>?_,by simp[a1,b1],λk g v o hk=>?_,?_⟩
 ·obtain⟨⟨g,v,o⟩,hp,L,q1,q2,q3,q4,q5⟩:=at1 m hm
  obtain⟨⟨g',v',o'⟩,hp',L',q1',q2',q3',q4',q5'⟩:=at2 m' hm'
  have hgg:g'≠g:=hne _ hp _ hp'
  rcases hb with rfl|⟨j,hj⟩
  ·rcases hb' with hb'|⟨j',hj'⟩
   ·rw[<- hb']at q4'
    exact hgg (h.dist g' g v' v o' o L' L _ q1' q1 q2' q2 q3' q3 q4' q4)
   ·rw[q5']at hj'
    exact hφ.sep _ _ _ _ g v o L hj' q1 q2 q3 q4
  ·rw[q5]at hj
   rcases hb' with rfl|⟨j',hj'⟩
   ·exact hφ.sep _ _ _ _ g' v' o' L' hj q1' q2' q3' q4'
   ·rw[q5']at hj'
    exact hgg (hφ.dis _ _ _ _ _ _ _ hj' hj).1
 ·by_cases hlt:k<ps.length
  ·rw[aAG hlt]at hk
   rw[aAG (by omega)]
   exact a2 k g v o hk
  ·rw[aAF (by omega)]at hk
   rw[aAF (by omega),<- a1]
   exact b2 _ g v o hk
 ·rw[List.map_append,List.nodup_append]
  refine⟨a3,b3,λx hx y hy e=>?_⟩
  obtain⟨p,hp,rfl⟩:=aAn.1 hx
  obtain⟨q,hq,rfl⟩:=aAn.1 hy
  exact hne p hp q hq e.symm
theorem Mg (h:Sim N w0 F0 M B0 σ F β a w) {φ:Nat->Nat->Nat->Nat->Prop} {s ty:Nat} {d:D} {x:Value} (hx:Val F β d x) (hc:((Cw s ty d).run σ).1) :
  Aq σ ((Cw s ty d).run σ).2.2.1/\∃ m:Hd,m.s=s/\m.ty=ty/\x= .pointer (some ⟨m.b,0,none⟩)/\De σ β φ ((Cw s ty d).run σ).2.2.2 [m] /\
   ∀ (ws:List (Nat×Ac)) F',Aq σ ws->(∀ p∈((Cw s ty d).run σ).2.2.1,p∈ws)->Ag F F'->Sim N w0 F0 M B0 ⟨σ.e,ws++σ.o,σ.n⟩ F' β a w->AE F' β w0.heap.size M ⟨σ.e,ws++σ.o,σ.n⟩ w φ->EM F' w m ((Cw s ty d).run σ).2.1:=by
 cases d<;>try exact hc.elim
 case optr g v i off =>
  simp only[Cw,R.run]at hc ⊢
  cases hg:σ.go g with
  | none=>rw[hg]at hc;exact hc.elim
  | some p =>
   obtain⟨v',o⟩:=p
   rw[hg]at hc
   simp only[R.run_bind,R.run_pure]at hc ⊢
   obtain⟨⟨rfl,rfl,rfl,hfz,hvar,hlen,rfl,rfl⟩,hc1⟩:=hc
   obtain⟨L,b,hL,hb,rfl⟩:=hx
   obtain⟨L',hL',_,hk⟩:=h.own g v o hg
   rw[hL]at hL';cases hL'
   obtain⟨e1,e2,e3,e4,e5,e6⟩:=hk hfz
   rw[hb]at e6
   obtain⟨C,hC,hCs,hcell⟩:=e6
   obtain⟨e,he⟩:∃ e,o.es=[e]:=List.length_eq_one_iff.1 hlen
   have hge:o.es.getD 0 .top=e:=by simp[he]
   rw[hge]at hc1 ⊢
   obtain⟨hc1,hpe,hpr⟩:=Kn hc1
   have hpe':(pas (Ab g) e).run σ=(((pas (Ab g) e).run σ).1,((res e).run σ).2):=Prod.ext rfl hpe
   rw[hpe']
   dsimp only
   have hX:∀ (j:Nat) c,(cells e)[j]? =some c->∃ x,C[j]? =some x/\x.oneCell'=true/\Cel F β c x:=by
    intro j c hj
    obtain⟨x,x1,x2,x3⟩:=hcell 0 j e c (by simp[he]) hj
    rw[hvar]at x3
    exact⟨x,by simpa using x1,x2,by simpa using x3⟩
   obtain⟨f1,l1,r1⟩:=FJ h e (λj=>C[j]?) hX hc1
   have hcap:L.cap=1:=by
    rw[hvar]at e4
    simp only[if_true]at e4
    omega
   refine⟨f1,⟨b,o.s,o.ty,φ g 0⟩,rfl,rfl,by simp,⟨rfl,λk g' v' o' hk'=>?_,by simp⟩,λws F' q1 q2 q3 q4 hφ=>?_⟩
   ·rcases k with _|k
    ·simp only[aAC,Option.some.injEq,Prod.mk.injEq]at hk'
     obtain⟨rfl,rfl,rfl⟩:=hk'
     exact⟨hg,hfz,hvar,hlen,L,_,hL,hb,hcap,rfl,rfl,rfl,rfl⟩
    ·simp at hk'
   ·obtain⟨s1,s2,_⟩:=h.sep g v o L b hg hfz hL hb
    have hgo:(S.mk σ.e (ws++σ.o) σ.n).go g=some (v,o):=by
     rcases q1.go g with⟨v2,o2,k1,k2,_,_⟩|⟨_,k2⟩
     ·rw[hg]at k1;cases k1;rw[hvar]at k2;cases k2
     ·rw[k2];exact hg
    obtain⟨s1',_,_⟩:=q4.sep g v o L b hgo hfz hL hb
    refine⟨⟨rfl,e2,by simp,by simp,λq hq=>?_,C,hC,by rw[hCs,hcap],λi j c' c hc' hj=>?_⟩,s1',s2,hφ.none_ g 0,hφ.lt g 0,λj b' hb' e'=>?_,λj j' b' h1 h2=>(hφ.dis _ _ _ _ _ _ _ h1 h2).2.2,λC' j x s ty es hC' hj hx=>?_,λj nm u n hj=>(hpr j _ hj).2 nm u n rfl⟩
    ·simp only[List.mem_singleton]at hq
     subst hq
     rw[l1]
     exact e5 e (by simp[he])
    ·rcases i with _|i
     ·simp only[aAC,Option.some.injEq]at hc'
      subst hc'
      obtain⟨x,x1,x2,x3⟩:=r1 ws F' q1 q2 q3 q4 j c hj
      exact⟨x,by simpa using x1,x2,by simpa using Cel.Af x3⟩
     ·simp at hc'
    ·simp only at e'
     subst e'
     exact hφ.sep g 0 j _ g v o L hb' hgo hfz hL hb
    ·obtain⟨z1,z2⟩:=(hpr j _ hj).1 s ty es rfl
     exact hφ.row g v o L b C' 0 j e x s ty es z1 hgo hfz hL hb hC' (by simp[he]) z2 (by simpa using hx)
theorem Gw (h:Sim N w0 F0 M B0 σ F β a w) {φ:Nat->Nat->Nat->Nat->Prop} {ptr:List (Nat×(Nat×Nat))} {d:D} {x:Value} {j:Nat} (hx:Val F β d x) (hc:((AM ptr j d).run σ).1) :
  Aq σ ((AM ptr j d).run σ).2.2.1/\((look ptr j=none/\((AM ptr j d).run σ).2.2.2=[]/\((∀ f caps,d≠ .clo f caps)->∀ f caps,((AM ptr j d).run σ).2.1≠ .clo f caps) /\
    ∀ (ws:List (Nat×Ac)) F',Aq σ ws->(∀ p∈((AM ptr j d).run σ).2.2.1,p∈ws)->Ag F F'->Sim N w0 F0 M B0 ⟨σ.e,ws++σ.o,σ.n⟩ F' β a w->Fro F' ((AM ptr j d).run σ).2.1 x) \/
   ∃ m:Hd,look ptr j=some (m.s,m.ty)/\x= .pointer (some ⟨m.b,0,none⟩)/\De σ β φ ((AM ptr j d).run σ).2.2.2 [m] /\
    ∀ (ws:List (Nat×Ac)) F',Aq σ ws->(∀ p∈((AM ptr j d).run σ).2.2.1,p∈ws)->Ag F F'->Sim N w0 F0 M B0 ⟨σ.e,ws++σ.o,σ.n⟩ F' β a w->AE F' β w0.heap.size M ⟨σ.e,ws++σ.o,σ.n⟩ w φ->EM F' w m ((AM ptr j d).run σ).2.1):=by
 unfold AM at hc ⊢
 cases hp:look ptr j with
 | none =>
  simp only[hp,R.run_bind,R.run_pure]at hc ⊢
  obtain⟨f1,r1⟩:=FK h d hx hc
  refine⟨f1,.inl ⟨trivial,trivial,λhn f caps=>?_,r1⟩⟩
  cases d with
  | agg cs =>
   obtain⟨c0,_,e⟩:=EI σ cs
   simp only[e]
   exact λe=>(by cases e)
  | osl g v i n =>
   simp only[res,AJ,R.run]at hc ⊢
   split at hc
   ·exact λe=>(by cases e)
   ·exact hc.elim
  | clo f caps=>exact absurd rfl (hn _ _)
  | optr=>exact hc.elim
  | when=>exact hc.elim
  | tup=>exact hc.elim
  | _=>exact λe=>(by cases e)
 | some st =>
  obtain⟨s,ty⟩:=st
  simp only[hp]at hc ⊢
  obtain⟨f1,m,rfl,rfl,rfl,p1,r1⟩:=Mg (φ:=φ) h hx hc
  exact⟨f1,.inr ⟨m,rfl,rfl,p1,r1⟩⟩
theorem Gp (h:Sim N w0 F0 M B0 σ F β a w) {φ:Nat->Nat->Nat->Nat->Prop} (hφ0:AE F β w0.heap.size M σ w φ) {ptr:List (Nat×(Nat×Nat))}:∀ (ds:List D) (xs:List Value) (j:Nat),ds.length=xs.length->(∀ (q:Nat) d x,ds[q]? =some d->xs[q]? =some x->Val F β d x) ->
  ((Bf ptr j ds).run σ).1 ->
  Aq σ ((Bf ptr j ds).run σ).2.2.1/\∃ Mb,De σ β φ ((Bf ptr j ds).run σ).2.2.2 Mb /\
   ∀ (ws:List (Nat×Ac)) F',Aq σ ws->(∀ p∈((Bf ptr j ds).run σ).2.2.1,p∈ws)->Ag F F'->Sim N w0 F0 M B0 ⟨σ.e,ws++σ.o,σ.n⟩ F' β a w->AE F' β w0.heap.size M ⟨σ.e,ws++σ.o,σ.n⟩ w φ ->
    CV F' w ptr j ((Bf ptr j ds).run σ).2.1 xs Mb
 | [],[],j,_,_,_=>⟨Aq.nil σ,[],⟨rfl,λk g v o hk=>by simp[Bf]at hk,by simp[Bf]⟩,λ_ _ _ _ _ _ _=>.nil j⟩
 | [],_::_,_,hl,_,_=>by simp at hl
 | _::_,[],_,hl,_,_=>by simp at hl
 | d::ds,x::xs,j,hl,hv,hc=>by
  have hd:=hv 0 d x rfl rfl
  have hv':∀ (q:Nat) d x,ds[q]? =some d->xs[q]? =some x->Val F β d x:=λq d x h1 h2=>hv (q+1) d x (by simpa using h1) (by simpa using h2)
  have hl':ds.length=xs.length:=by simpa using hl
  unfold Bf at hc ⊢
  simp only[R.run_bind,R.run_pure]at hc ⊢
  obtain⟨c1,c2,c3⟩:=hc
  obtain⟨f1,k1⟩:=Gw (φ:=φ) h hd c1
  obtain⟨f2,M2,p2,r2⟩:=Gp h hφ0 ds xs (j+1) hl' hv' c2
  rcases k1 with⟨hp,k1,_,r1⟩|⟨m,hp,rfl,p1,r1⟩
  ·rw[k1]
   refine⟨f1.append f2,M2,by simpa using p2,λws F' q1 q2 q3 q4 q5=>.val j _ _ x xs M2 hp (r1 ws F' q1 (λp hp=>q2 p (by simp[hp])) q3 q4) (r2 ws F' q1 (λp hp=>q2 p (by simp[hp])) q3 q4 q5)⟩
  ·obtain⟨ap,pp⟩:=De.apart h hφ0 p1 p2 c3
   exact⟨f1.append f2,[m]++M2,pp,λws F' q1 q2 q3 q4 q5=>.ptr j _ _ xs M2 m hp (r1 ws F' q1 (λp hp=>q2 p (by simp[hp])) q3 q4 q5) (λm' hm'=>ap m (by simp) m' hm') (r2 ws F' q1 (λp hp=>q2 p (by simp[hp])) q3 q4 q5)⟩
theorem Gm (h:Sim N w0 F0 M B0 σ F β a w) {φ:Nat->Nat->Nat->Nat->Prop} (hφ0:AE F β w0.heap.size M σ w φ) {ptr:List (Nat×(Nat×Nat))}:∀ (ds:List D) (xs:List Value) (j:Nat),ds.length=xs.length->(∀ (q:Nat) d x,ds[q]? =some d->xs[q]? =some x->Val F β d x) ->
  ((Ae ptr j ds).run σ).1 ->
  Aq σ ((Ae ptr j ds).run σ).2.2.1/\∃ Mb,De σ β φ ((Ae ptr j ds).run σ).2.2.2 Mb /\
   ∀ (ws:List (Nat×Ac)) F',Aq σ ws->(∀ p∈((Ae ptr j ds).run σ).2.2.1,p∈ws)->Ag F F'->Sim N w0 F0 M B0 ⟨σ.e,ws++σ.o,σ.n⟩ F' β a w->AE F' β w0.heap.size M ⟨σ.e,ws++σ.o,σ.n⟩ w φ ->
    BM F' w ptr j ((Ae ptr j ds).run σ).2.1 xs Mb
 | [],[],j,_,_,_=>⟨Aq.nil σ,[],⟨rfl,λk g v o hk=>by simp[Ae]at hk,by simp[Ae]⟩,λ_ _ _ _ _ _ _=>.nil j⟩
 | [],_::_,_,hl,_,_=>by simp at hl
 | _::_,[],_,hl,_,_=>by simp at hl
 | d::ds,x::xs,j,hl,hv,hc=>by
  have hd:=hv 0 d x rfl rfl
  have hv':∀ (q:Nat) d x,ds[q]? =some d->xs[q]? =some x->Val F β d x:=λq d x h1 h2=>hv (q+1) d x (by simpa using h1) (by simpa using h2)
  have hl':ds.length=xs.length:=by simpa using hl
  unfold Ae at hc ⊢
  simp only[R.run_bind,R.run_pure]at hc ⊢
  obtain⟨c1,c2,c3⟩:=hc
  obtain⟨f2,M2,p2,r2⟩:=Gm h hφ0 ds xs (j+1) hl' hv' c2
  by_cases hcl:∃ f caps,d= .clo f caps
  ·obtain⟨f,caps,rfl⟩:=hcl
   simp only[BK]at c1 c3 ⊢
   cases hp:look ptr j with
   | some _=>rw[hp]at c1;exact c1.elim
   | none =>
    simp only[hp,R.run_bind,R.run_pure]at c1 c3 ⊢
    obtain⟨vs,rfl,hl,hv⟩:=hd
    obtain⟨f1,M1,p1,r1⟩:=Gp h hφ0 caps vs (64*(j+1)) hl (λq d x h1 h2=>Val.Ap (Cel.CL (hv q d x h1 h2))) c1
    obtain⟨ap,pp⟩:=De.apart h hφ0 p1 p2 c3
    exact⟨f1.append f2,M1++M2,pp,λws F' q1 q2 q3 q4 q5=>.clo j f _ vs _ xs M1 M2 hp (r1 ws F' q1 (λp hp=>q2 p (by simp[hp])) q3 q4 q5) ap (r2 ws F' q1 (λp hp=>q2 p (by simp[hp])) q3 q4 q5)⟩
  ·have hn:∀ f caps,d≠ .clo f caps:=λf caps e=>hcl ⟨f,caps,e⟩
   have he:BK ptr j d=AM ptr j d:=by
    unfold BK
    split
    ·exact absurd rfl (hn _ _)
    ·rfl
   rw[he]at c1 c3 ⊢
   obtain⟨f1,k1⟩:=Gw (φ:=φ) h hd c1
   rcases k1 with⟨hp,k1,k2,r1⟩|⟨m,hp,rfl,p1,r1⟩
   ·rw[k1]
    refine⟨f1.append f2,M2,by simpa using p2,λws F' q1 q2 q3 q4 q5=>.val j _ _ x xs M2 hp (k2 hn) (r1 ws F' q1 (λp hp=>q2 p (by simp[hp])) q3 q4) (r2 ws F' q1 (λp hp=>q2 p (by simp[hp])) q3 q4 q5)⟩
   ·obtain⟨ap,pp⟩:=De.apart h hφ0 p1 p2 c3
    exact⟨f1.append f2,[m]++M2,pp,λws F' q1 q2 q3 q4 q5=>.ptr j _ _ xs M2 m hp (r1 ws F' q1 (λp hp=>q2 p (by simp[hp])) q3 q4 q5) (λm' hm'=>ap m (by simp) m' hm') (r2 ws F' q1 (λp hp=>q2 p (by simp[hp])) q3 q4 q5)⟩
theorem Fi:∀ (ps:List (Nat×Nat×Own)) (effs:List D) (g:Nat) (y:Ac),look (Ai ps effs) g=some y->∃ (k v:Nat) (o:Own),ps[k]? =some (g,v,o)/\y=some (v,{ o with es:=[effs.getD k .top] })
 | [],_,_,_,h=>by simp[Ai,look]at h
 | (g',v,o)::ps,effs,g,y,h=>by
  simp only[Ai,look]at h
  split at h
  ·rename_i e
   subst e
   cases h
   exact⟨0,v,o,rfl,by cases effs<;>rfl⟩
  ·obtain⟨k,v',o',h1,h2⟩:=Fi ps effs.tail g y h
   refine⟨k+1,v',o',by simpa using h1,?_⟩
   rw[h2]
   cases effs<;>simp
theorem Fj:∀ (ps:List (Nat×Nat×Own)) (effs:List D) (g:Nat),look (Ai ps effs) g=none->∀ (k v:Nat) (o:Own),ps[k]? ≠some (g,v,o)
 | [],_,_,_,k,v,o=>by simp
 | (g',v,o)::ps,effs,g,h,k,v',o'=>by
  simp only[Ai,look]at h
  split at h
  ·cases h
  ·rename_i e
   rcases k with _|k
   ·simp only[aAC,ne_eq,Option.some.injEq,Prod.mk.injEq,not_and]
    intro e';exact absurd e'.symm e
   ·simp only[aAT]
    exact Fj ps effs.tail g h k v' o'
theorem Ie (β:Bt):Aw noB β:=λv L h=>by cases h
theorem CJ (h:Sim N w0 F0 M B0 σ F β a w) {φ:Nat->Nat->Nat->Nat->Prop} (hφ:AE F β w0.heap.size M σ w φ) {nv:Nat} (hnv:β nv=none) {ps:List (Nat×Nat×Own)} {Mb:List Hd} (hps:De σ β φ ps Mb) {effs:List D} {w':World} {F':Fz}
  (hok:Fok F' w') (hfin:∀ b i x,F' b i=some x->b<w'.heap.size) (hst:Stp (Wr Mb) w F w' F') {ψ:Nat->Nat->Nat->Prop} (hback:Lt F' w' w.heap.size Mb effs ψ)
  {E:List (Nat×Ac)} {β':Bt} {φm:Nat->Nat->Nat->Prop} (hE:(E=[]/\β'=β/\∀ i j b,¬ φm i j b)\/(∃ t o L,E=[(t,some (nv,o))]/\β'=upB β nv L/\o.fz=false/\AA F' noB w' L o/\(∀ b,L.b=some b->w.heap.size<=b/\b<w'.heap.size/\(∀ i,F' b i=none)/\∀ k j,¬ ψ k j b) /\
   (∀ i j b,φm i j b->w.heap.size<=b/\b<w'.heap.size/\(∀ k,F' b k=none)/\(∀ k j,¬ ψ k j b)/\L.b≠some b)/\(∀ i j i' j' b,φm i j b->φm i' j' b->i=i'/\j=j') /\
   (Ab t=true->(∀ b C (i j:Nat) e x s' ty' es',L.b=some b->w'.heap[b]? =some (.cells C o.ty (0,0))->o.es[i]? =some e->(cells e)[j]? =some (.row s' ty' es')->C[i*o.s+j]? =some x->Br F' w' (φm i j) s' ty' es' x)/\∀ (i j:Nat) e nm u n,o.es[i]? =some e->(cells e)[j]? ≠some (.hole nm u n))))
  {dst:Option Nat} (hd:∀ t,dst=some t->t<N) {d:D} {v:Value} (hv:Env F' β' d v) (c:Prop) :
  Aw β β'/\(∀ x,x≠nv->β' x=β x)/\Sim N w0 F0 M B0 (σ.app ⟨c,Ad dst d,E++Ai ps effs⟩) F' β' (a.put dst v) w':=by
 have hβ:Aw β β':=by
  rcases hE with⟨_,rfl,_⟩|⟨t,o,L,_,rfl,_⟩
  ·exact Aw.refl _
  ·exact Ba L hnv
 have hβ':∀ x,x≠nv->β' x=β x:=by
  rcases hE with⟨_,rfl,_⟩|⟨t,o,L,_,rfl,_⟩
  ·exact λ_ _=>rfl
  ·exact λx hx=>Ce _ _ hx
 obtain⟨p1,p2,p3⟩:=hps
 have hmem:∀ m∈Mb,∃ (k g v:Nat) (o:Own) (L:Loc),Mb[k]? =some m/\ps[k]? =some (g,v,o)/\σ.go g=some (v,o)/\o.fz=false/\o.var=true/\β v=some L/\L.b=some m.b/\L.cap=1/\m.s=o.s/\m.ty=o.ty/\m.φ=φ g 0:=by
  intro m hm
  obtain⟨k,hk⟩:=aAf.1 hm
  have hlt:k<ps.length:=by rw[p1];exact(aA.1 hk).1
  obtain⟨⟨g,v,o⟩,hg⟩:∃ p,ps[k]? =some p:=⟨_,aAB hlt⟩
  obtain⟨q1,q2,q3,_,L,m',q4,q5,q6,q7,q8,q9,q10⟩:=p2 k g v o hg
  rw[hk]at q7
  cases q7
  exact⟨k,g,v,o,L,hk,hg,q1,q2,q3,q4,q5,q6,q8,q9,q10⟩
 have hWr:∀ b,Wr Mb b->b<w.heap.size/\(w0.heap.size<=b\/M b)/\(∀ k,F b k=none):=by
  rintro b ⟨m,hm,rfl|⟨j,hj⟩⟩
  ·obtain⟨k,g,v,o,L,_,_,q1,q2,q3,q4,q5,_⟩:=hmem m hm
   obtain⟨s1,s2,s3⟩:=h.sep g v o L _ q1 q2 q4 q5
   exact⟨s2,s3.imp id And.left,s1⟩
  ·obtain⟨k,g,v,o,L,_,_,_,_,_,_,_,_,_,_,q10⟩:=hmem m hm
   rw[q10]at hj
   exact⟨hφ.lt _ _ _ _ hj,hφ.new _ _ _ _ hj,hφ.none_ _ _ _ _ hj⟩
 have hWrown:∀ g v o L b,σ.go g=some (v,o)->o.fz=false->β v=some L->L.b=some b->Wr Mb b->∃ (k:Nat) (v:Nat) (o:Own),ps[k]? =some (g,v,o):=by
  rintro g v o L b hg hf hL hb ⟨m,hm,rfl|⟨j,hj⟩⟩
  ·obtain⟨k,g2,v2,o2,L2,_,y0,y1,y2,y3,y4,y5,_⟩:=hmem m hm
   have:=h.dist g g2 v v2 o o2 L L2 _ hg y1 hf y2 hL y4 hb y5
   subst this
   exact⟨k,v2,o2,y0⟩
  ·obtain⟨k,g2,v2,o2,L2,_,_,_,_,_,_,_,_,_,_,q10⟩:=hmem m hm
   rw[q10]at hj
   exact(hφ.sep _ _ _ _ g v o L hj hg hf hL hb).elim
 have hgo:∀ g v' o',(σ.app ⟨c,Ad dst d,E++Ai ps effs⟩).go g=some (v',o') ->
   (∃ t o L,E=[(t,some (nv,o))]/\β'=upB β nv L/\g=t/\v'=nv/\o'=o/\o.fz=false/\AA F' noB w' L o/\∀ b,L.b=some b->w.heap.size<=b/\b<w'.heap.size/\(∀ i,F' b i=none)/\∀ k j,¬ ψ k j b) \/
   (look E g=none/\∃ (k:Nat) (o:Own) (L:Loc) (m:Hd),ps[k]? =some (g,v',o)/\o'={ o with es:=[effs.getD k .top] }/\σ.go g=some (v',o)/\o.fz=false/\o.var=true/\β v'=some L/\L.b=some m.b/\L.cap=1/\Mb[k]? =some m/\m.s=o.s/\m.ty=o.ty/\m.φ=φ g 0) \/
   (look E g=none/\σ.go g=some (v',o')/\∀ (k v:Nat) (o:Own),ps[k]? ≠some (g,v,o)):=by
  intro g v' o' hg
  rw[S.Cu]at hg
  simp only[BH]at hg
  cases hEl:look E g with
  | some y =>
   rw[hEl]at hg
   simp only[Option.some_or]at hg
   rcases hE with⟨rfl,_⟩|⟨t,o,L,rfl,k2,k3,k4,k5,_⟩
   ·simp[look]at hEl
   ·simp only[look]at hEl
    split at hEl
    ·cases hEl;cases hg
     exact .inl ⟨_,_,L,rfl,k2,by assumption,rfl,rfl,k3,k4,k5⟩
    ·cases hEl
  | none =>
   rw[hEl]at hg
   simp only[Option.none_or]at hg
   cases hH:look (Ai ps effs) g with
   | some y =>
    rw[hH]at hg
    obtain⟨k,v,o,k1,k2⟩:=Fi ps effs g y hH
    subst k2
    simp only[Option.some.injEq,Prod.mk.injEq]at hg
    obtain⟨rfl,rfl⟩:=hg
    obtain⟨q1,q2,q3,_,L,m,q4,q5,q6,q7,q8,q9,q10⟩:=p2 k g v o k1
    exact .inr (.inl ⟨rfl,k,o,L,m,k1,rfl,q1,q2,q3,q4,q5,q6,q7,q8,q9,q10⟩)
   | none =>
    rw[hH]at hg
    exact .inr (.inr ⟨rfl,hg,Fj ps effs g hH⟩)
 refine⟨hβ,hβ',?_⟩
 refine h.change (row:=Wr Mb) hst.os hst.tape hst.output hst.size hst.block (λb hb=>(hWr b hb).2.1) hst.sub hst.old hok hfin hβ (by rw[BW];exact h.size) (by rw[Bs];exact h.defers) (h.CB hst.sub hβ hd hv) ?_ ?_ ?_
 ·intro g v' o' hg
  rcases hgo g v' o' hg with⟨t,o,L,hE',hβe,rfl,rfl,rfl,k3,k4,k5⟩|⟨_,k,o,L,m,k1,rfl,q1,q2,q3,q4,q5,q6,q7,q8,q9,_⟩|⟨_,q1,q2⟩
  ·refine .inr ⟨L,by rw[hβe];exact An _ _ _,k3,k4.QA (Ag.refl _) (Ie _) (λ_ _=>rfl),λb hb=>?_⟩
   obtain⟨z1,z2,z3,_⟩:=k5 b hb
   exact⟨z3,z2,.inl (aAO h.step.size z1),.inr z1⟩
  ·have hz:=hback.ok k m q7
   obtain⟨s1,s2,s3⟩:=h.sep g v' o L m.b q1 q2 q4 q5
   refine .inr ⟨L,hβ _ _ q4,q2,?_,λb' hb'=>?_⟩
   ·have hLs:L.s=o.s:=by
     obtain⟨L2,e2,_,e3⟩:=h.own g v' o q1
     rw[q4]at e2;cases e2
     exact(e3 q2).1
    have hL:L=⟨some m.b,1,m.s⟩:=by cases L;simp_all
    have ho:({ o with es:=[effs.getD k .top] }:Own)=⟨false,true,m.s,m.ty,[effs.getD k .top]⟩:=by cases o;simp_all
    rw[hL,ho]
    exact AA.QA (Ag.refl _) (Ie _) (λ_ _=>rfl) hz.var
   ·rw[q5]at hb';cases hb'
    exact⟨hz.none_,aAD s2 hst.size,s3,.inl ⟨m,aAA q7,.inl rfl⟩⟩
  ·refine .inl ⟨q1,λL b hf hL hb hr=>?_⟩
   obtain⟨k,v2,o2,y0⟩:=hWrown g v' o' L b q1 hf hL hb hr
   exact q2 k v2 o2 y0
 ·intro g1 g2 v1 v2 o1 o2 L1 L2 b hg1 hg2 hf1 hf2 hL1 hL2 hb1 hb2 hr
  have old:∀ g v o' L,(σ.app ⟨c,Ad dst d,E++Ai ps effs⟩).go g=some (v,o')->o'.fz=false->β' v=some L->L.b=some b ->
    (∃ t o,E=[(t,some (nv,o))]/\g=t/\w.heap.size<=b)\/(b<w.heap.size/\∃ o'' L'',σ.go g=some (v,o'')/\o''.fz=false/\β v=some L''/\L''.b=some b):=by
   intro g v o' L hg hf hL hb
   rcases hgo g v o' hg with⟨t,o,L',hE',hβe,rfl,rfl,rfl,k3,k4,k5⟩|⟨_,k,o,L',m,k1,rfl,q1,q2,q3,q4,q5,q6,q7,_⟩|⟨_,q1,q2⟩
   ·rw[hβe,An]at hL;cases hL
    exact .inl ⟨_,_,hE',rfl,(k5 b hb).1⟩
   ·have:=hβ _ _ q4
    rw[hL]at this;cases this
    exact .inr ⟨(h.sep g v o L b q1 q2 q4 hb).2.1,o,L,q1,q2,q4,hb⟩
   ·obtain⟨L0,e0,_⟩:=h.own g v o' q1
    have:=hβ _ _ e0
    rw[hL]at this;cases this
    exact .inr ⟨(h.sep g v o' L b q1 hf e0 hb).2.1,o',L,q1,hf,e0,hb⟩
  rcases old g1 v1 o1 L1 hg1 hf1 hL1 hb1 with⟨t,o,k1,k2,k3⟩|⟨k0,p1',L1',z1,z2,z3,z4⟩
  ·rcases old g2 v2 o2 L2 hg2 hf2 hL2 hb2 with⟨t',o',k1',k2',_⟩|⟨k0',_⟩
   ·rw[k1]at k1'
    cases k1'
    rw[k2,k2']
   ·omega
  ·rcases old g2 v2 o2 L2 hg2 hf2 hL2 hb2 with⟨t',o',k1',k2',k3'⟩|⟨_,p2',L2',y1,y2,y3,y4⟩
   ·omega
   ·exact h.dist g1 g2 v1 v2 p1' p2' L1' L2' b z1 y1 z2 y2 z3 y3 z4 y4
 ·intro _ _
  let φ':Nat->Nat->Nat->Nat->Prop:=λg i j b=>(look E g≠none/\φm i j b)\/(look E g=none/\∃ (k v:Nat) (o:Own),ps[k]? =some (g,v,o)/\i=0/\ψ k j b)\/(look E g=none/\(∀ (k v:Nat) (o:Own),ps[k]? ≠some (g,v,o))/\φ g i j b)
  have hEne:∀ g,look E g≠none->∃ o L,E=[(g,some (nv,o))]/\β'=upB β nv L/\o.fz=false/\AA F' noB w' L o/\(∀ b,L.b=some b->w.heap.size<=b/\b<w'.heap.size/\(∀ i,F' b i=none)/\∀ k j,¬ ψ k j b) /\
    (∀ i j b,φm i j b->w.heap.size<=b/\b<w'.heap.size/\(∀ k,F' b k=none)/\(∀ k j,¬ ψ k j b)/\L.b≠some b)/\(∀ i j i' j' b,φm i j b->φm i' j' b->i=i'/\j=j') /\
    (Ab g=true->(∀ b C (i j:Nat) e x s' ty' es',L.b=some b->w'.heap[b]? =some (.cells C o.ty (0,0))->o.es[i]? =some e->(cells e)[j]? =some (.row s' ty' es')->C[i*o.s+j]? =some x->Br F' w' (φm i j) s' ty' es' x)/\∀ (i j:Nat) e nm u n,o.es[i]? =some e->(cells e)[j]? ≠some (.hole nm u n)):=by
   intro g hg
   rcases hE with⟨rfl,_⟩|⟨t,o,L,rfl,r⟩
   ·simp[look]at hg
   ·simp only[look]at hg
    split at hg
    ·rename_i e;subst e
     exact⟨o,L,rfl,r⟩
    ·exact(hg rfl).elim
  have hold:∀ g i j b,(∀ (k v:Nat) (o:Own),ps[k]? ≠some (g,v,o))->φ g i j b->¬ Wr Mb b:=by
   rintro g i j b hn hb ⟨m,hm,rfl|⟨j',hj'⟩⟩
   ·obtain⟨k,g2,v2,o2,L2,_,_,y1,y2,y3,y4,y5,_⟩:=hmem m hm
    exact hφ.sep _ _ _ _ g2 v2 o2 L2 hb y1 y2 y4 y5
   ·obtain⟨k,g2,v2,o2,L2,_,y0,_,_,_,_,_,_,_,_,q10⟩:=hmem m hm
    rw[q10]at hj'
    have:=(hφ.dis _ _ _ _ _ _ _ hb hj').1
    subst this
    exact hn k v2 o2 y0
  have hkm:∀ (k g v:Nat) (o:Own),ps[k]? =some (g,v,o)->∃ m,Mb[k]? =some m:=by
   intro k g v o hk
   obtain⟨_,_,_,_,_,m,_,_,_,q7,_⟩:=p2 k g v o hk
   exact⟨m,q7⟩
  have hbase:∀ g i j b,φ' g i j b->(∀ k,F' b k=none)/\b<w'.heap.size/\(w0.heap.size<=b\/M b):=by
   rintro g i j b (⟨he,hb⟩|⟨_,k,v,o,hk,rfl,hb⟩|⟨_,hn,hb⟩)
   ·obtain⟨o,L,_,_,_,_,_,z,_⟩:=hEne g he
    obtain⟨z1,z2,z3,_⟩:=z i j b hb
    exact⟨z3,z2,.inl (aAO h.step.size z1)⟩
   ·obtain⟨m,hm⟩:=hkm k g v o hk
    have hz:=hback.ok k m hm
    refine⟨hz.fno j b hb,hz.flt j b hb,?_⟩
    rcases hback.from_ k j b hb with h1|h1
    ·exact .inl (aAO h.step.size h1)
    ·exact(hWr b h1).2.1
   ·refine⟨λk=>?_,aAD (hφ.lt g i j b hb) hst.size,hφ.new g i j b hb⟩
    rw[hst.old b k (hφ.lt g i j b hb) (hold g i j b hn hb)]
    exact hφ.none_ g i j b hb k
  refine⟨φ',?_,?_,λg i j b hb=>(hbase g i j b hb).1,λg i j b hb=>(hbase g i j b hb).2.1,λg i j b hb=>(hbase g i j b hb).2.2,?_,?_⟩
  ·intro g v o' L b C i j e x s ty es hr hg hf hL hb hC he hj hx
   rcases hgo g v o' hg with⟨t,o,L',hE',hβe,rfl,rfl,rfl,_⟩|⟨hEn,k,o,L',m,k1,rfl,q1,q2,q3,q4,q5,q6,q7,q8,q9,_⟩|⟨hEn,q1,q2⟩
   ·have hne:look E g≠none:=by rw[hE'];simp[look]
    obtain⟨o2,L2,e1,e2,_,_,_,_,_,e3⟩:=hEne g hne
    rw[hE']at e1;cases e1
    rw[e2,An]at hL;cases hL
    exact((e3 hr).1 b C i j e x s ty es hb hC he hj hx).QA (Ag.refl _) (λ_ _=>rfl) (λb hb=>.inl ⟨hne,hb⟩)
   ·have hz:=hback.ok k m q7
    have:=hβ _ _ q4
    rw[hL]at this;cases this
    rw[q5]at hb;cases hb
    rcases i with _|i
    ·simp only[aAC,Option.some.injEq]at he
     subst he
     refine(hz.row C j x s ty es (by rw[q9];exact hC) hj (by simpa using hx)).QA (Ag.refl _) (λ_ _=>rfl) (λb hb=>.inr (.inl ⟨hEn,k,v,o,k1,rfl,hb⟩))
    ·simp at he
   ·obtain⟨L0,e0,_⟩:=h.own g v o' q1
    have:=hβ _ _ e0
    rw[hL]at this;cases this
    have hnw:¬ Wr Mb b:=λhw=>by
     obtain⟨k,v2,o2,y0⟩:=hWrown g v o' L b q1 hf e0 hb hw
     exact q2 k v2 o2 y0
    rw[hst.block b (h.sep g v o' L b q1 hf e0 hb).2.1 hnw]at hC
    refine(hφ.row g v o' L b C i j e x s ty es hr q1 hf e0 hb hC he hj hx).QA hst.sub (λb' hb'=>hst.block b' (hφ.lt _ _ _ _ hb') (hold g i j b' q2 hb')) (λb hb=>.inr (.inr ⟨hEn,q2,hb⟩))
  ·intro g v o' L b C i j e x nm u n hr hg hf hL hb hC he hj hx
   rcases hgo g v o' hg with⟨t,o,L',hE',hβe,rfl,rfl,rfl,_⟩|⟨hEn,k,o,L',m,k1,rfl,q1,q2,q3,q4,q5,q6,q7,q8,q9,_⟩|⟨hEn,q1,q2⟩
   ·have hne:look E g≠none:=by rw[hE'];simp[look]
    obtain⟨o2,L2,e1,e2,_,_,_,_,_,e3⟩:=hEne g hne
    rw[hE']at e1;cases e1
    exact((e3 hr).2 i j e _ u n he hj).elim
   ·have hz:=hback.ok k m q7
    rcases i with _|i
    ·simp only[aAC,Option.some.injEq]at he
     subst he
     exact(hz.hole j _ u n hj).elim
    ·simp at he
   ·obtain⟨L0,e0,_⟩:=h.own g v o' q1
    have:=hβ _ _ e0
    rw[hL]at this;cases this
    have hnw:¬ Wr Mb b:=λhw=>by
     obtain⟨k,v2,o2,y0⟩:=hWrown g v o' L b q1 hf e0 hb hw
     exact q2 k v2 o2 y0
    rw[hst.block b (h.sep g v o' L b q1 hf e0 hb).2.1 hnw]at hC
    exact(hφ.hole g v o' L b C i j e x _ u n hr q1 hf e0 hb hC he hj hx).mono hst.sub hβ
  ·intro g i j b g' v' o' L' hb hg hf hL hLb
   rcases hgo g' v' o' hg with⟨t,o,L2,hE',hβe,rfl,rfl,rfl,_,_,k5⟩|⟨hEn,k,o,L2,m,k1,rfl,q1,q2,q3,q4,q5,q6,q7,q8,q9,_⟩|⟨hEn,q1,q2⟩
   ·rw[hβe,An]at hL;cases hL
    obtain⟨z1,_,_,z4⟩:=k5 b hLb
    rcases hb with⟨he,hb⟩|⟨_,k,v,o,hk,rfl,hb⟩|⟨_,hn,hb⟩
    ·obtain⟨o2,L3,e1,e2,_,_,_,e3,_⟩:=hEne g he
     rw[hβe]at e2
     have e2:=congrFun e2 v'
     rw[An,An]at e2
     cases e2
     exact(e3 i j b hb).2.2.2.2 hLb
    ·exact z4 k j hb
    ·have:=hφ.lt g i j b hb;omega
   ·have:=hβ _ _ q4
    rw[hL]at this;cases this
    have hmb:m.b=b:=by rw[q5]at hLb;exact Option.some.inj hLb
    have hlt:=(h.sep g' v' o L' b q1 q2 q4 hLb).2.1
    rcases hb with⟨he,hb⟩|⟨_,k',v,o2,hk,rfl,hb⟩|⟨_,hn,hb⟩
    ·obtain⟨o2,L3,e1,e2,_,_,_,e3,_⟩:=hEne g he
     have:=(e3 i j b hb).1
     omega
    ·exact hback.ne k' j b m hb (aAA q7) hmb.symm
    ·exact hφ.sep g i j b g' v' o L' hb q1 q2 q4 hLb
   ·obtain⟨L0,e0,_⟩:=h.own g' v' o' q1
    have:=hβ _ _ e0
    rw[hL]at this;cases this
    have hlt:=(h.sep g' v' o' L' b q1 hf e0 hLb).2.1
    rcases hb with⟨he,hb⟩|⟨_,k',v,o2,hk,rfl,hb⟩|⟨_,hn,hb⟩
    ·obtain⟨o2,L3,e1,e2,_,_,_,e3,_⟩:=hEne g he
     have:=(e3 i j b hb).1
     omega
    ·rcases hback.from_ k' j b hb with h1|h1
     ·omega
     ·obtain⟨k,v2,o3,y0⟩:=hWrown g' v' o' L' b q1 hf e0 hLb h1
      exact q2 k v2 o3 y0
    ·exact hφ.sep g i j b g' v' o' L' hb q1 hf e0 hLb
  ·intro g i j g' i' j' b h1 h2
   rcases h1 with⟨he,hb⟩|⟨hEn,k,v,o,hk,rfl,hb⟩|⟨hEn,hn,hb⟩
   ·obtain⟨o2,L3,e1,e2,_,_,_,e3,e4,_⟩:=hEne g he
    obtain⟨z1,_,_,z4,_⟩:=e3 i j b hb
    rcases h2 with⟨he',hb'⟩|⟨_,k',v',o',hk',rfl,hb'⟩|⟨_,_,hb'⟩
    ·obtain⟨o3,L4,e1',_⟩:=hEne g' he'
     rw[e1]at e1'
     cases e1'
     exact⟨rfl,e4 i j i' j' b hb hb'⟩
    ·exact(z4 k' j' hb').elim
    ·have:=hφ.lt g' i' j' b hb';omega
   ·rcases h2 with⟨he',hb'⟩|⟨_,k',v',o',hk',rfl,hb'⟩|⟨_,hn',hb'⟩
    ·obtain⟨o3,L4,e1',_,_,_,_,e3,_⟩:=hEne g' he'
     exact((e3 i' j' b hb').2.2.2.1 k j hb).elim
    ·have hkk:=hback.dis k j k' j' b hb hb'
     subst hkk
     rw[hk]at hk';cases hk'
     obtain⟨m,hm⟩:=hkm k g v o hk
     exact⟨rfl,rfl,(hback.ok k m hm).dis j j' b hb hb'⟩
    ·rcases hback.from_ k j b hb with h1|h1
     ·have:=hφ.lt g' i' j' b hb';omega
     ·exact(hold g' i' j' b hn' hb' h1).elim
   ·rcases h2 with⟨he',hb'⟩|⟨_,k',v',o',hk',rfl,hb'⟩|⟨_,hn',hb'⟩
    ·obtain⟨o3,L4,e1',_,_,_,_,e3,_⟩:=hEne g' he'
     have:=(e3 i' j' b hb').1
     have:=hφ.lt g i j b hb;omega
    ·rcases hback.from_ k' j' b hb' with h1|h1
     ·have:=hφ.lt g i j b hb;omega
     ·exact(hold g i j b hn hb h1).elim
    ·exact hφ.dis g i j g' i' j' b hb hb'
theorem Gu {F F':Fz} {d:D} {v:Value} (hg:AV d=true) (h:Fro F d v):Fro F' d v:=by
 cases h<;>first|cases hg|skip
 ·exact .int _ _
 ·exact .bool _
 ·exact .str _
theorem KY {F F':Fz} {d:D} {v:Value} (hg:isGround d=true) (h:Fro F d v):Fro F' d v:=by
 cases h<;>first|(cases hg;done)|skip
 ·exact .int _ _
 ·exact .bool _
 ·exact .str _
 ·rename_i cs vs hl h1 hh
  simp only[isGround,aAN]at hg
  exact .agg cs vs hl h1 λj c v hc hv=>Gu (hg c (aAA hc)) (hh j c v hc hv)
 ·rename_i cs vs hl hh
  simp only[isGround,aAN]at hg
  exact .tup cs vs hl λj c v hc hv=>Gu (hg c (aAA hc)) (hh j c v hc hv)
theorem KW {F:Fz} {w:World} {ptr:List (Nat×(Nat×Nat))} (hp:ptr=[]) {j:Nat} {ds:List D} {xs:List Value} {Mb:List Hd} (h:CV F w ptr j ds xs Mb):Mb=[]:=by
 induction h with
 | nil=>rfl
 | val _ _ _ _ _ _ _ _ _ ih=>exact ih
 | ptr j d ds xs M m hl=>subst hp;simp[look]at hl
theorem CW {F:Fz} {w:World} {ptr:List (Nat×(Nat×Nat))} (hp:ptr=[]) {j:Nat} {ds:List D} {xs:List Value} {Mb:List Hd} (h:BM F w ptr j ds xs Mb):Mb=[]:=by
 induction h with
 | nil=>rfl
 | val _ _ _ _ _ _ _ _ _ _ ih=>exact ih
 | ptr j d ds xs M m hl=>subst hp;simp[look]at hl
 | clo _ _ _ _ _ _ _ _ _ hc _ _ ih2=>rw[KW hp hc,ih2];rfl
end
section
variable {N:Nat} {w0:World} {F0:Fz} {M:Nat->Prop} {B0:Bt} {σ:S} {F:Fz} {β:Bt} {a:Act} {w:World} {P:Program}
theorem Gy {ptr:List (Nat×(Nat×Nat))} (hp:ptr=[]) (σ:S) (d:D) (j:Nat):((AM ptr j d).run σ).2.2.2=[]:=by
 subst hp;simp[AM,look]
theorem Gr {ptr:List (Nat×(Nat×Nat))} (hp:ptr=[]) (σ:S):∀ (ds:List D) (j:Nat),((Bf ptr j ds).run σ).2.2.2=[]
 | [],_=>rfl
 | d::ds,j=>by
  unfold Bf
  simp only[R.run_bind,R.run_pure,Gy hp σ d j,Gr hp σ ds (j+1),aAv]
theorem IJ {ptr:List (Nat×(Nat×Nat))} (hp:ptr=[]) (σ:S) (d:D) (j:Nat):((BK ptr j d).run σ).2.2.2=[]:=by
 unfold BK
 split
 ·have:=Gr hp σ (by assumption) (64*(j+1))
  subst hp
  simpa only[look,R.run_bind,R.run_pure]using this
 ·exact Gy hp σ _ j
theorem FD {ptr:List (Nat×(Nat×Nat))} (hp:ptr=[]) (σ:S):∀ (ds:List D) (j:Nat),((Ae ptr j ds).run σ).2.2.2=[]
 | [],_=>rfl
 | d::ds,j=>by
  unfold Ae
  simp only[R.run_bind,R.run_pure,IJ hp σ d j,FD hp σ ds (j+1),aAv]
theorem NM {f:Nat} {sp:Spec} (hsp:Bv P F0 f sp) (h:Sim N w0 F0 M B0 σ F β a w) {nv:Nat} (hnv:β nv=none) {dst:Option Nat} (hd:∀ t,dst=some t->t<N) (htr:∀ t,dst=some t->Ab t=false) {ds:List D} {xs:List Value} (hl:ds.length=xs.length)
  (hv:∀ (q:Nat) d x,ds[q]? =some d->xs[q]? =some x->Val F β d x) {u:Out}
  (hu:u=Bg dst nv sp ((Ae sp.ptr 0 ds).run σ).1 ((Ae sp.ptr 0 ds).run σ).2.1 ((Ae sp.ptr 0 ds).run σ).2.2.1 ((Ae sp.ptr 0 ds).run σ).2.2.2) (hc:u.c) :
  Calls P f xs.toArray w (λe w'=>∃ v F' β',e= .returned v/\Aw β β'/\(∀ x,x≠nv->β' x=β x)/\Sim N w0 F0 M B0 (σ.app u) F' β' (a.put dst v) w'):=by
 have hni:Cc sp.kind=none:=by
  subst hu
  unfold Bg at hc
  cases hk:sp.kind<;>first|rfl|(rw[hk]at hc;exact hc.elim)
 have hno:Ej sp.kind=none:=by
  subst hu
  unfold Bg at hc
  cases hk:sp.kind<;>first|rfl|(rw[hk]at hc;exact hc.elim)
 have hcargs:((Ae sp.ptr 0 ds).run σ).1:=by
  subst hu
  unfold Bg at hc
  split at hc
  ·exact hc.1
  ·exact hc.1
  ·split at hc
   ·exact hc.1
   ·exact hc.elim
  ·split at hc
   ·exact hc.1
   ·exact hc.elim
  ·exact hc.1
  ·split at hc
   ·exact hc.1
   ·exact hc.elim
  ·exact hc.elim
  ·exact hc.elim
 have hpre:sp.pre ((Ae sp.ptr 0 ds).run σ).2.1:=by
  subst hu
  unfold Bg at hc
  split at hc
  ·exact hc.2
  ·exact hc.2.1
  ·split at hc
   ·exact hc.2.1
   ·exact hc.elim
  ·split at hc
   ·exact hc.2.1
   ·exact hc.elim
  ·exact hc.2.1
  ·split at hc
   ·exact hc.2.1
   ·exact hc.elim
  ·exact hc.elim
  ·exact hc.elim
 obtain⟨φ,hφ⟩:=h.Ab
 obtain⟨f1,Mb,hps,hargs⟩:=Gm h hφ ds xs 0 hl hv hcargs
 have hgr:=λhp=>FD (ptr:=sp.ptr) hp σ ds 0
 generalize((Ae sp.ptr 0 ds).run σ).2.1=ds' at *
 generalize((Ae sp.ptr 0 ds).run σ).2.2.1=ws at *
 generalize((Ae sp.ptr 0 ds).run σ).2.2.2=ps at *
 obtain⟨F1,hF1,hS1,hr1⟩:=h.freeze f1
 have hφ1:=hr1 φ hφ
 have hA:=hargs ws F1 f1 (λ_ hp=>hp) hF1 hS1 hφ1
 refine(hsp.2.2.1 hni hno w F1 ds' xs Mb hS1.step.sub hS1.frz hS1.fin hA hpre).mono ?_
 rintro e w' ⟨v,F',ψ,ρ,rfl,hok,hfin,hst,hres,hback,hψρ⟩
 have hps1:De (S.mk σ.e (ws++σ.o) σ.n) β φ ps Mb:=by
  obtain⟨p1,p2,p3⟩:=hps
  refine⟨p1,λk g v o hk=>?_,p3⟩
  obtain⟨q1,q2,q3,q4⟩:=p2 k g v o hk
  refine⟨?_,q2,q3,q4⟩
  rcases f1.go g with⟨v2,o2,k1,k2,_,_⟩|⟨_,k2⟩
  ·rw[q1]at k1;cases k1;rw[q3]at k2;cases k2
  ·rw[k2];exact q1
 subst hu
 unfold Bg at hc ⊢
 cases hk:sp.kind with
 | inpl r fl fk=>rw[hk]at hni;cases hni
 | opn q=>rw[hk]at hno;cases hno
 | val =>
  rw[hk]at hres
  simp only[hk]at hc ⊢
  obtain⟨b1,b2,b3⟩:=CJ hS1 hφ1 hnv hps1 hok hfin hst hback (E:=[]) (φm:=λ_ _ _=>False) (.inl ⟨rfl,rfl,λ_ _ _=>id⟩) hd (Env.Af hres) (((Ae sp.ptr 0 ds).run σ).1/\sp.pre ds')
  refine⟨v,F',_,rfl,b1,b2,?_⟩
  have e:(σ.app ⟨((Ae sp.ptr 0 ds).run σ).1/\sp.pre ds',Ad dst (sp.res ds'),Ai ps (sp.eff ds')++ws⟩)=(S.mk σ.e (ws++σ.o) σ.n).app ⟨((Ae sp.ptr 0 ds).run σ).1/\sp.pre ds',Ad dst (sp.res ds'),[]++Ai ps (sp.eff ds')⟩:=by
   simp[S.app]
  rw[e];exact b3
 | ground =>
  rw[hk]at hres
  simp only[hk]at hc ⊢
  obtain⟨_,_,hg,hptr⟩:=hc
  have hMb:Mb=[]:=CW hptr hA
  subst hMb
  refine⟨v,F,β,rfl,Aw.refl _,λ_ _=>rfl,?_⟩
  refine h.change (row:=λ_=>False) hst.os hst.tape hst.output hst.size (λb hb _=>hst.block b hb (λ⟨_,hm,_⟩=>by cases hm)) (λ_ hr=>hr.elim) (Ag.refl _) (λ_ _ _ _=>rfl)
   (λb i x hx=>hok b i x (hst.sub _ _ _ (hF1 b i x hx))) (λb i x hx=>aAD (h.fin b i x hx) hst.size) (Aw.refl _) (by rw[BW];exact h.size) (by rw[Bs];exact h.defers)
   (h.CB (Ag.refl _) (Aw.refl _) hd (Env.Af (KY hg hres))) (λg v' o' hg'=>.inl ⟨hg',λ_ _ _ _ _=>id⟩) ?_ ?_
  ·intro g1 g2 v1 v2 o1 o2 L1 L2 b hg1 hg2 hf1 hf2 hL1 hL2 hb1 hb2 _
   exact h.dist g1 g2 v1 v2 o1 o2 L1 L2 b hg1 hg2 hf1 hf2 hL1 hL2 hb1 hb2
  ·intro φ hφ
   have hblk:∀ b,b<w.heap.size->w'.heap[b]? =w.heap[b]?:=λb hb=>hst.block b hb (λ⟨_,hm,_⟩=>by cases hm)
   refine⟨φ,hφ.QA (Ag.refl _) (Aw.refl _) hst.size (λ_ _ _ _ _ _=>rfl) (λg i j b hb=>hblk b (hφ.lt g i j b hb)) (λg v o hg=>?_) (λg v o hr hg hf=>.inl ⟨o,hg,hf,rfl,rfl,λi j e c he hj _=>⟨⟨e,he,hj⟩,λL b C x hL hb hC hx=>⟨C,?_,hx⟩⟩⟩) hφ.sep⟩
   ·obtain⟨L,hL,_⟩:=h.own g v o hg
    exact⟨L,hL⟩
   ·rw[hblk b (h.sep g v o L b hg hf hL hb).2.1]at hC
    exact hC
 | row s ty =>
  rw[hk]at hres
  obtain⟨es,L,hes,rfl,hown,hL⟩:=hres
  simp only[hk,hes]at hc ⊢
  obtain⟨_,_,hds⟩:=hc
  obtain⟨t,rfl⟩:=aAM.1 hds
  obtain⟨b1,b2,b3⟩:=CJ (φm:=λ_ _ _=>False) hS1 hφ1 hnv hps1 hok hfin hst hback (E:=AH (some t) (some (nv,⟨false,false,s,ty,es⟩))) (.inr ⟨t,_,L,rfl,rfl,rfl,hown,λb hb=>⟨(hL b hb).1,(hL b hb).2.1,(hL b hb).2.2.1,λk j h=>hψρ k j b h (hL b hb).2.2.2⟩,λ_ _ _ h=>h.elim,λ_ _ _ _ _ h=>h.elim,λhr=>by rw[htr t rfl]at hr;cases hr⟩) hd (d:=.osl t nv 0 es.length) (v:=.slice (L.b.map λb=>⟨b,0,none⟩) es.length L.cap)
   (by
    refine⟨L,_,An _ _ _,rfl,by simpa using hown.2.2.1,λ_=>rfl,λhp=>?_⟩
    cases hLb:L.b with
    | none =>
     obtain⟨_,_,k3,_,_,k6⟩:=hown
     rw[hLb]at k6
     simp only at k3
     omega
    | some b=>exact⟨b,rfl,by simp⟩) (((Ae sp.ptr 0 ds).run σ).1/\sp.pre ds'/\(some t).isSome=true)
  refine⟨_,F',_,rfl,b1,b2,?_⟩
  have e:∀ (c:Prop) (we:List (Nat×D)) (x:List (Nat×Ac)),(σ.app ⟨c,we,x++Ai ps (sp.eff ds')++ws⟩)=(S.mk σ.e (ws++σ.o) σ.n).app ⟨c,we,x++Ai ps (sp.eff ds')⟩:=by
   intro c we x;simp[S.app]
  rw[e];exact b3
 | mat s ty =>
  rw[hk]at hres
  obtain⟨es,L,φm,hes,rfl,hown,hL,hm1,hm2,hm3,hm4⟩:=hres
  simp only[hk,hes]at hc ⊢
  obtain⟨_,_,hds⟩:=hc
  obtain⟨t,rfl⟩:=aAM.1 hds
  obtain⟨b1,b2,b3⟩:=CJ (φm:=φm) hS1 hφ1 hnv hps1 hok hfin hst hback (E:=CH true (some t) (some (nv,⟨false,false,s,ty,es⟩))) (.inr ⟨nmR true t,_,L,rfl,rfl,rfl,hown,λb hb=>⟨(hL b hb).1,(hL b hb).2.1,(hL b hb).2.2.1,λk j h=>hψρ k j b h (hL b hb).2.2.2⟩,
    λi j b hb=>⟨(hm1 i j b hb).1,(hm1 i j b hb).2.1,(hm1 i j b hb).2.2.1,λk j' h=>hψρ k j' b h (hm1 i j b hb).2.2.2.1,(hm1 i j b hb).2.2.2.2⟩,hm2,λ_=>⟨hm3,hm4⟩⟩) hd (d:=.osl (nmR true t) nv 0 es.length) (v:=.slice (L.b.map λb=>⟨b,0,none⟩) es.length L.cap)
   (by
    refine⟨L,_,An _ _ _,rfl,by simpa using hown.2.2.1,λ_=>rfl,λhp=>?_⟩
    cases hLb:L.b with
    | none =>
     obtain⟨_,_,k3,_,_,k6⟩:=hown
     rw[hLb]at k6
     simp only at k3
     omega
    | some b=>exact⟨b,rfl,by simp⟩) (((Ae sp.ptr 0 ds).run σ).1/\sp.pre ds'/\(some t).isSome=true)
  refine⟨_,F',_,rfl,b1,b2,?_⟩
  have e:∀ (c:Prop) (we:List (Nat×D)) (x:List (Nat×Ac)),(σ.app ⟨c,we,x++Ai ps (sp.eff ds')++ws⟩)=(S.mk σ.e (ws++σ.o) σ.n).app ⟨c,we,x++Ai ps (sp.eff ds')⟩:=by
   intro c we x;simp[S.app]
  rw[e];exact b3
 | ptr s ty =>
  rw[hk]at hres
  obtain⟨b,rfl,hown,hb1,hb2,hb3,hb4⟩:=hres
  simp only[hk]at hc ⊢
  obtain⟨_,_,hds⟩:=hc
  obtain⟨t,rfl⟩:=aAM.1 hds
  obtain⟨b1,b2,b3⟩:=CJ (φm:=λ_ _ _=>False) hS1 hφ1 hnv hps1 hok hfin hst hback (E:=AH (some t) (some (nv,⟨false,true,s,ty,[sp.res ds']⟩))) (.inr ⟨t,_,⟨some b,1,s⟩,rfl,rfl,rfl,hown,λb' hb'=>(by cases hb';exact⟨hb1,hb2,hb3,λk j h=>hψρ k j b h hb4⟩),λ_ _ _ h=>h.elim,λ_ _ _ _ _ h=>h.elim,λhr=>by rw[htr t rfl]at hr;cases hr⟩) hd (d:=.optr t nv 0 0) (v:=.pointer (some ⟨b,0,none⟩))
   ⟨_,b,An _ _ _,rfl,by simp⟩ (((Ae sp.ptr 0 ds).run σ).1/\sp.pre ds'/\(some t).isSome=true)
  refine⟨_,F',_,rfl,b1,b2,?_⟩
  have e:∀ (c:Prop) (we:List (Nat×D)) (x:List (Nat×Ac)),(σ.app ⟨c,we,x++Ai ps (sp.eff ds')++ws⟩)=(S.mk σ.e (ws++σ.o) σ.n).app ⟨c,we,x++Ai ps (sp.eff ds')⟩:=by
   intro c we x;simp[S.app]
  rw[e];exact b3
 | tupPtr q s ty =>
  rw[hk]at hres
  obtain⟨rs,vs,b,hrs,rfl,hlen,hfro,hq,hown,hb1,hb2,hb3,hb4⟩:=hres
  simp only[hk,hrs]at hc ⊢
  obtain⟨_,_,hds⟩:=hc
  obtain⟨t,rfl⟩:=aAM.1 hds
  obtain⟨b1,b2,b3⟩:=CJ (φm:=λ_ _ _=>False) hS1 hφ1 hnv hps1 hok hfin hst hback (E:=AH (some t) (some (nv,⟨false,true,s,ty,[rs.getD q .top]⟩))) (.inr ⟨t,_,⟨some b,1,s⟩,rfl,rfl,rfl,hown,λb' hb'=>(by cases hb';exact⟨hb1,hb2,hb3,λk j h=>hψρ k j b h hb4⟩),λ_ _ _ h=>h.elim,λ_ _ _ _ _ h=>h.elim,λhr=>by rw[htr t rfl]at hr;cases hr⟩) hd (d:=.tup (rs.set q (.optr t nv 0 0))) (v:=.tuple vs.toArray)
   (by
    refine⟨vs,rfl,by simp[hlen],λj c x hj hx=>?_⟩
    by_cases hjq:j=q
    ·subst hjq
     have hlt:j<rs.length:=by rw[hlen];exact(aA.1 hx).1
     rw[aAr hlt]at hj
     cases hj
     rw[hq]at hx;cases hx
     exact⟨_,b,An _ _ _,rfl,by simp⟩
    ·rw[aAj (λe=>hjq e.symm)]at hj
     exact Cel.Af (hfro j c x hjq hj hx)) (((Ae sp.ptr 0 ds).run σ).1/\sp.pre ds'/\(some t).isSome=true)
  refine⟨_,F',_,rfl,b1,b2,?_⟩
  have e:∀ (c:Prop) (we:List (Nat×D)) (x:List (Nat×Ac)),(σ.app ⟨c,we,x++Ai ps (sp.eff ds')++ws⟩)=(S.mk σ.e (ws++σ.o) σ.n).app ⟨c,we,x++Ai ps (sp.eff ds')⟩:=by
   intro c we x;simp[S.app]
  rw[e];exact b3
theorem Sim.wrote (h:Sim N w0 F0 M B0 σ F β a w) {g v:Nat} {o:Own} {L:Loc} (hg:σ.go g=some (v,o)) (hfz:o.fz=false) (hL:β v=some L) {c:Prop} {w':World} (hos:w'.os=w.os) (htape:w'.tape=w.tape) (hout:w'.output=w.output)
  (hsz:w.heap.size<=w'.heap.size) (hblk:∀ b,b<w.heap.size->L.b≠some b->w'.heap[b]? =w.heap[b]?) {es':List D} (hown':AA F β w' L { o with es:=es' }) (hpl:Dw.Ab g=true->∀ e∈es',AD e=true) {dst:Option Nat} (hd:∀ t,dst=some t->t<N) {d:D} {x:Value} (hv:Env F β d x) :
  Sim N w0 F0 M B0 (σ.app ⟨c,Ad dst d,[(g,some (v,{ o with es:=es' }))]⟩) F β (a.put dst x) w':=by
 have hgo:∀ g',(σ.app ⟨c,Ad dst d,[(g,some (v,{ o with es:=es' }))]⟩).go g'=if g'=g then some (v,{ o with es:=es' })else σ.go g':=by
  intro g'
  exact S.DY (c:=c) (we:=Ad dst d) (t:=g) (nv:=v) (o:={ o with es:=es' }) σ g'
 have hF:∀ b,L.b=some b->(∀ i,F b i=none)/\b<w.heap.size/\(w0.heap.size<=b\/(M b/\(Dw.Ab g=true\/w0.drawn<=b))):=λb hb=>h.sep g v o L b hg hfz hL hb
 refine h.change (row:=λb=>L.b=some b) hos htape hout hsz hblk ?_ (Ag.refl _) (λ_ _ _ _=>rfl) ?_ ?_ (Aw.refl _) (by rw[BW];exact h.size) (by rw[Bs];exact h.defers) (h.CB (Ag.refl _) (Aw.refl _) hd hv) ?_ ?_ ?_
 ·intro b hb
  exact(hF b hb).2.2.imp id And.left
 ·intro b' i y hy
  have hne:L.b≠some b':=λe=>by rw[(hF b' e).1 i]at hy;cases hy
  rw[aAi (w:=w) (hblk b' (h.fin b' i y hy) hne)]
  exact h.frz b' i y hy
 ·intro b' i y hy
  exact aAD (h.fin b' i y hy) hsz
 ·intro g' v' o' hg'
  rw[hgo]at hg'
  split at hg'
  ·rename_i e;subst e
   cases hg'
   refine .inr ⟨L,hL,hfz,hown',λb' hb'=>?_⟩
   obtain⟨s1,s2,s3⟩:=hF b' hb'
   exact⟨s1,aAD s2 hsz,s3,.inl hb'⟩
  ·rename_i hne
   exact .inl ⟨hg',λL' b' hf hL' hb' hr=>hne (h.dist g' g v' v o' o L' L b' hg' hg hf hfz hL' hL hb' hr)⟩
 ·intro g1 g2 v1 v2 o1 o2 L1 L2 b' hg1 hg2 hf1 hf2 hL1 hL2 hb1 hb2 _
  have key:∀ g' v' o',(σ.app ⟨c,Ad dst d,[(g,some (v,{ o with es:=es' }))]⟩).go g'=some (v',o')->∃ o'',σ.go g'=some (v',o'')/\o''.fz=o'.fz:=by
   intro g' v' o' hg'
   rw[hgo]at hg'
   split at hg'
   ·rename_i e;subst e;cases hg';exact⟨o,hg,rfl⟩
   ·exact⟨o',hg',rfl⟩
  obtain⟨p1,q1,r1⟩:=key _ _ _ hg1
  obtain⟨p2,q2,r2⟩:=key _ _ _ hg2
  exact h.dist g1 g2 v1 v2 p1 p2 L1 L2 b' q1 q2 (r1.trans hf1) (r2.trans hf2) hL1 hL2 hb1 hb2
 ·intro φ hφ
  refine⟨φ,hφ.QA (Ag.refl _) (Aw.refl _) hsz (λ_ _ _ _ _ _=>rfl) (λg1 i j b hb=>hblk b (hφ.lt g1 i j b hb) (hφ.sep g1 i j b g v o L hb hg hfz hL)) (λg v o hg=>?_) (λg1 v1 o1 hr hg1 hf=>?_) (λg1 i j b g2 v2 o2 L2 hb hg2 hf2 hL2=>?_)⟩
  ·obtain⟨L,hL,_⟩:=h.own g v o hg
   exact⟨L,hL⟩
  ·rw[hgo]at hg1
   split at hg1
   ·rename_i e;subst e;cases hg1;exact .inr (hpl hr)
   ·rename_i hne
    refine .inl ⟨o1,hg1,hf,rfl,rfl,λi j e c he hj _=>⟨⟨e,he,hj⟩,λL1 b1 C x hL1 hb1 hC hx=>⟨C,?_,hx⟩⟩⟩
    rw[hblk b1 (h.sep g1 v1 o1 L1 b1 hg1 hf hL1 hb1).2.1 (λe=>hne (h.dist g1 g v1 v o1 o L1 L b1 hg1 hg hf hfz hL1 hL hb1 e))]at hC
    exact hC
  ·rw[hgo]at hg2
   split at hg2
   ·rename_i e;subst e;cases hg2;exact hφ.sep g1 i j b g2 _ o L2 hb hg hfz hL2
   ·exact hφ.sep g1 i j b g2 v2 o2 L2 hb hg2 hf2 hL2
theorem AA.cut {F:Fz} {β:Bt} {w:World} {L:Loc} {o:Own} {es:List D} (h:AA F β w L { o with es:=es }) (k:Nat):AA F β w L { o with es:=es.take k }:=by
 obtain⟨o1,o2,o3,o4,o5,o6⟩:=h
 refine⟨o1,o2,by simp only[aBC]at o3 ⊢;omega,o4,λe he=>o5 e (aAS he),?_⟩
 cases hb:L.b with
 | none=>rw[hb]at o6;exact o6
 | some b =>
  rw[hb]at o6
  obtain⟨C,c1,c2,c3⟩:=o6
  refine⟨C,c1,c2,λp j e d he hd=>c3 p j e d ?_ hd⟩
  simp only[aAH]at he
  split at he
  ·exact he
  ·cases he
theorem AA.Nk {F:Fz} {β:Bt} {w:World} {L:Loc} {o:Own} {es:List D} (h:AA F β w L { o with es:=es }) (b:Bool) (k:Nat):AA F β w L { o with es:=if b then es.take k else es }:=by
 cases b
 ·exact h
 ·exact h.cut k
theorem Oa {f:Nat} {q:Bool×(List Int->List Int)×(List Int->Nat)} (hq:Lu P f q) (h:Sim N w0 F0 M B0 σ F β a w) {dst:Option Nat} (hd:∀ t,dst=some t->t<N) {ds:List D} {xs:List Value} (hl:ds.length=xs.length)
  (hv:∀ (j:Nat) d x,ds[j]? =some d->xs[j]? =some x->Env F β d x) (hc:((CF dst q ds).run σ).c) :
  Calls P f xs.toArray w (λe w'=>∃ v F' β',e= .returned v/\Aw β β'/\(∀ x,β' x=β x)/\Sim N w0 F0 M B0 (σ.app ((CF dst q ds).run σ)) F' β' (a.put dst v) w'):=by
 obtain⟨q0,q1,q2⟩:=hq
 match ds,xs,hl with
 | [],_,_=>exact hc.elim
 | [d],[x],_ =>
  have hx:=hv 0 d x rfl rfl
  cases d<;>try exact hc.elim
  case nils =>
   cases hx
   refine(q1 w none 0).mono ?_
   rintro e w' ⟨rfl,rfl⟩
   refine⟨_,F,β,rfl,Aw.refl _,λ_=>rfl,h.put hd ?_ rfl rfl rfl rfl⟩
   cases hr:q.1
   ·exact Env.top _
   ·exact Env.Af .nils
  case osl g v i n _ =>
   obtain⟨L,ad,hL,rfl,hin,h0,hpos⟩:=hx
   simp only[CF,R.AP]at hc ⊢
   cases hg:σ.go g with
   | none=>rw[hg]at hc;exact hc.elim
   | some p =>
    obtain⟨v',o⟩:=p
    rw[hg]at hc
    simp only[R.AB]at hc ⊢
    obtain⟨rfl,hfz,hvar,hs1,hlen,hbig,hpl,hint⟩:=hc
    generalize hzs:((o.es.drop i).take n).map DD=zs at hint ⊢
    have hzl:zs.length=n:=by rw[<- hzs];simp;omega
    obtain⟨fl0,fk0⟩:=q0 zs
    obtain⟨L',hL',_,hown⟩:=h.own g v o hg
    rw[hL]at hL';cases hL'
    have hown:=hown hfz
    obtain⟨o1,o2,o3,o4,o5,o6⟩:=hown
    have hres:Env F β (if q.1=true then .osl g v i (q.2.2 zs)else .top) (if q.1=true then .slice ad (q.2.2 zs) (L.cap-i)else .tuple #[]):=by
     cases hr:q.1
     ·exact Env.top _
     ·refine Env.Ah ⟨L,ad,hL,rfl,by omega,h0,λhk=>hpos (by omega)⟩
    have hplain:∀ (zs':List Int) (k:Nat),Dw.Ab g=true->∀ e∈(if q.1=true then(o.es.take i++zs'.map (D.int .i64)++o.es.drop (i+n)).take k else o.es.take i++zs'.map (D.int .i64)++o.es.drop (i+n)),AD e=true:=by
     intro zs' k hr e he
     have he:e∈o.es.take i++zs'.map (D.int .i64)++o.es.drop (i+n):=by
      split at he
      ·exact aAS he
      ·exact he
     rcases aAu.1 he with he|he
     ·rcases aAu.1 he with he|he
      ·exact hpl hr e (aAS he)
      ·obtain⟨z,_,rfl⟩:=aAn.1 he
       rfl
     ·exact hpl hr e (aAg he)
    by_cases hn:n=0
    ·subst hn
     have hz:zs=[]:=aAJ hzl
     subst hz
     have hf:q.2.1 []=[]:=aAJ (by simpa using fl0)
     have hk:q.2.2 []=0:=by simpa using fk0
     rw[hk]at hres ⊢
     refine(q1 w ad (L.cap-i)).mono ?_
     rintro e w' ⟨rfl,rfl⟩
     refine⟨_,F,β,rfl,Aw.refl _,λ_=>rfl,?_⟩
     have hes:o.es.take i++(q.2.1 []).map (D.int .i64)++o.es.drop (i+0)=o.es:=by rw[hf];simp
     refine h.wrote hg hfz hL rfl rfl rfl (aAU _) (λ_ _ _=>rfl) (AA.Nk ?_ _ _) (hplain _ _) hd hres
     rw[hes]
     exact⟨o1,o2,o3,o4,o5,o6⟩
    ·obtain⟨b,hb,rfl⟩:=hpos (by omega)
     rw[hb]at o6
     obtain⟨C,hC,hCs,hCx⟩:=o6
     have hes:∀ (j:Nat) z,zs[j]? =some z->o.es[i+j]? =some (.int .i64 z):=by
      intro j z hz
      have h1:(zs.map (D.int .i64))[j]? =some (.int .i64 z):=by rw[aAI,hz];rfl
      rw[<- hint,aAH]at h1
      split at h1
      ·rwa[aAR]at h1
      ·cases h1
     rw[hvar]at hCx
     have hcell:∀ (j:Nat) z,zs[j]? =some z->C[i*L.s+j]? =some (.int .i64 z):=by
      intro j z hz
      obtain⟨y,y1,_,y3⟩:=hCx (i+j) 0 _ _ (hes j z hz) rfl
      simp only[aAc,if_false]at y3
      cases y3
      rw[o1,hs1,aBI]
      rw[hs1,aBI]at y1
      exact y1
     have:=q2 w b (i*L.s) (L.cap-i) o.ty C zs (by omega) (by omega) (by omega) hC hcell
     rw[hzl]at this
     refine this.mono ?_
     rintro e w' ⟨rfl,e1,e2,e3,e4,e5,C',c1,c2,c3,c4⟩
     refine⟨_,F,β,rfl,Aw.refl _,λ_=>rfl,h.wrote hg hfz hL e1 e2 e3 e4 (λb' hb' hne=>e5 b' hb' λe=>hne (by rw[hb,e])) (AA.Nk ?_ _ _) (hplain _ _) hd hres⟩
     have hlen':(o.es.take i++(q.2.1 zs).map (D.int .i64)++o.es.drop (i+n)).length=o.es.length:=by simp[fl0,hzl];omega
     have hget:∀ p,(o.es.take i++(q.2.1 zs).map (D.int .i64)++o.es.drop (i+n))[p]? =if p<i\/i+n<=p then o.es[p]? else((q.2.1 zs)[p-i]?).map (D.int .i64):=by
      intro p
      have hti:(o.es.take i).length=i:=by simp;omega
      by_cases p1:p<i
      ·rw[if_pos (.inl p1),aB,aAG (by omega),aAH,if_pos p1]
      ·by_cases p2:i+n<=p
       ·rw[if_pos (.inr p2),aAF (by simp[fl0,hzl];omega),aAR]
        congr 1
        simp[fl0,hzl];omega
       ·rw[if_neg (by omega),aB,aAF (by omega),hti,aAG (by simp[fl0,hzl];omega),aAI]
     refine⟨o1,o2,by simp only[hlen'];exact o3,o4,?_,?_⟩
     ·intro e he
      obtain⟨p,hp⟩:=List.getElem?_of_mem he
      rw[hget]at hp
      split at hp
      ·exact o5 e (aAA hp)
      ·rw[aAK]at hp
       obtain⟨z,_,rfl⟩:=hp
       exact hs1.symm
     ·rw[hb]
      refine⟨C',c1,c2.trans hCs,λp j e d he hdd=>?_⟩
      simp only at he ⊢
      rw[hget]at he
      rw[hvar]
      simp only[aAc,if_false]at hCx ⊢
      have hs:L.s=1:=o1.trans hs1
      have hj:j=0:=by
       have hm:(cells e).length=1:=by
        split at he
        ·rw[<- hs1];exact o5 e (aAA he)
        ·rw[aAK]at he
         obtain⟨z,_,rfl⟩:=he
         rfl
       have:=(aA.1 hdd).1
       omega
      subst hj
      split at he
      ·rename_i hp
       obtain⟨y,y1,y2,y3⟩:=hCx p 0 e d he hdd
       refine⟨y,?_,y2,y3⟩
       rw[c3 _ (by rw[hs,hs1];omega)]
       exact y1
      ·rename_i hp
       rw[aAK]at he
       obtain⟨z,hz,rfl⟩:=he
       cases hdd
       refine⟨.int .i64 z,?_,rfl,.int _ _⟩
       have:=c4 _ _ hz
       rw[hs]at this
       rw[hs1,<- this]
       congr 1
       omega
 | [_],[],hl=>cases hl
 | [_],_::_::_,hl=>cases hl
 | _::_::_,_,_ =>
  rename_i d1 d2 r _ _
  cases d1<;>exact hc.elim
end
end Go.Dw
