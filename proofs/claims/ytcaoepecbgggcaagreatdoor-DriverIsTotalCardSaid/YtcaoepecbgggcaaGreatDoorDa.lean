/-
  THE LAYER: symbolic semantics of compiled code, and programs on typed data.
-/
import Derived.WalkKit
import Derived.Deep.LoopGhost
import Derived.Maps.AppendAt
import Derived.Laws.AppendOwnNone
import Derived.Great.BuildSlice
open BitVec renaming ofInt->aAL
open Bool renaming and_eq_true->aAU
open Go.Instr renaming sliceAt->aAM,slice->aAj,indexAt->aAm,sureAddr->aAs,fill->aAv,storeAt->aAw,loadAt->aAx
open List renaming getElem?_eq_getElem->aA,mem_of_getElem?->aAA,getElem?_eq_some_iff->aAC,getElem?_append_right->aAF,getElem?_append_left->aAG,eq_nil_of_length_eq_zero->aAH,mem_of_mem_take->aAJ,getElem?_cons_zero->aAN,range->aAR,mem_iff_getElem?->aAT,getElem?_map->aAY,all_eq_true->aAZ,singleton_append->aAa,mem_append->aAb,mem_of_mem_drop->aAc,getElem?_set_ne->aAe,replicate->aAg,getElem?_take->aAl,getElem?_replicate->aAp,getElem?_set_self->aAr,length_singleton->aAt
open Nat renaming mul_le_mul_right->aAB,lt_of_lt_of_le->aAD,le_refl->aAI,blt->aAO,le_trans->aAS,add_assoc->aAW,add_zero->aAd,beq->aAh,eq_zero_or_pos->aAk,add_comm->aAn,blt_eq->aAu
open Option renaming isSome_iff_exists->aAE,ne_none_iff_exists'->aAK,map_eq_some_iff->aAP,bind_eq_some_iff->aAQ,bind_eq_bind->aAf,getD_some->aAo
open Go.Program renaming cellsOf->aAX
open Go.Value renaming cells->aAi
open Go.World renaming cell?_of_block->aAV,cell?->aAq
namespace Go.Dw
variable {α:Type} {f s nv j N:Nat} {vs xs:List Value} {v x z:Value} {w' w1:World} {φ:Nat->Nat->Nat->Nat->Prop} {t:TypeId} {c:Prop} {dst:Option Nat} {r:Bool} {ptr:List (Nat×(Nat×Nat))} {as:Array Operand}
inductive D where
 | top
 | int (k:IntKind) (n:Int)
 | bool (b:Bool)
 | str (s:List UInt8)
 | agg (cs:List D)
 | sl (es:List D)
 | nils
 | osl (g v i n:Nat)
 | optr (g v i off:Nat)
 | fptr (e:D) (off:Nat)
 | clo (f:Nat) (caps:List D)
 | nilf
 | nilp
 | tup (ds:List D)
 | when (p:Bool) (d:D)
 | row (s ty:Nat) (es:List D)
 | hole (nm v n:Nat)
variable {d:D} {es cs es' ds:List D}
instance:Inhabited D:=⟨.top⟩
def cells:D->List D
 | .agg cs=>cs
 | d=>[d]
mutual
def nrm:D->D
 | .nils=>.sl []
 | .agg cs=>.agg (Dd cs)
 | .sl es=>.sl (Dd es)
 | d=>d
def Dd:List D->List D
 | []=>[]
 | d::r=>nrm d::Dd r
end
def Ad (g:Nat):Bool:=Nat.ble 4096 g
def plain:D->Bool
 | .row .. | .hole ..=>false
 | _=>true
def AO (e:D):Bool:=(cells e).all plain
structure Own where
 fz:Bool
 var:Bool
 s:Nat
 ty:Nat
 es:List D
variable {o:Own}
abbrev Aa:=Option (Nat×Own)
variable {ws:List (Nat×Aa)}
def look {α:Type}:List (Nat×α)->Nat->Option α
 | [],_=>none
 | (k,x)::r,t=>if t=k then some x else look r t
structure S where
 e:List (Nat×D)
 o:List (Nat×Aa)
 n:Nat
def S.ge (σ:S) (t:Nat):D:=(look σ.e t).getD .top
def S.go (σ:S) (g:Nat):Aa:=(look σ.o g).getD none
inductive Key where
 | e (t:Nat)
 | o (g:Nat)
 deriving DecidableEq
inductive R (α:Type) where
 | ret (a:α)
 | ge (t:Nat) (k:D->R α)
 | go (g:Nat) (k:Aa->R α)
def R.bind {α β:Type}:R α->(α->R β)->R β
 | .ret a,f=>f a
 | .ge t k,f=>.ge t λd=>(k d).bind f
 | .go g k,f=>.go g λd=>(k d).bind f
instance:Monad R where
 pure:=R.ret
 bind:=R.bind
def R.run {α:Type}:R α->S->α
 | .ret a,_=>a
 | .ge t k,σ=>(k (σ.ge t)).run σ
 | .go g k,σ=>(k (σ.go g)).run σ
def R.rd {α:Type}:R α->S->List Key
 | .ret _,_=>[]
 | .ge t k,σ=>.e t::(k (σ.ge t)).rd σ
 | .go g k,σ=>.o g::(k (σ.go g)).rd σ
@[simp] theorem R.run_pure (a:α) (σ:S):(Pure.pure a:R α).run σ=a:=rfl
@[simp] theorem R.BT (a:α) (σ:S):(R.ret a).run σ=a:=rfl
@[simp] theorem R.Jz (t:Nat) (k:D->R α) (σ:S):(R.ge t k).run σ=(k (σ.ge t)).run σ:=rfl
@[simp] theorem R.Cy (t:Nat) (k:Aa->R α) (σ:S):(R.go t k).run σ=(k (σ.go t)).run σ:=rfl
theorem R.run_bind' {β:Type} (m:R α) (f:α->R β) (σ:S):(m.bind f).run σ=(f (m.run σ)).run σ:=by
 induction m with
 | ret a=>rfl
 | ge t k ih=>exact ih _
 | go g k ih=>exact ih _
@[simp] theorem R.run_bind {β:Type} (m:R α) (f:α->R β) (σ:S):(m >>= f).run σ=(f (m.run σ)).run σ:=R.run_bind' m f σ
theorem R.Kb {β:Type} (m:R α) (f:α->R β) (σ:S):(m.bind f).rd σ=m.rd σ++(f (m.run σ)).rd σ:=by
 induction m with
 | ret a=>rfl
 | ge t k ih=>grind [R.bind,R.rd,R.run]
 | go g k ih=>grind [R.bind,R.rd,R.run]
@[simp] theorem R.CZ {β:Type} (m:R α) (f:α->R β) (σ:S):(m >>= f).rd σ=m.rd σ++(f (m.run σ)).rd σ:=R.Kb m f σ
@[simp] theorem R.FO (a:α) (σ:S):(Pure.pure a:R α).rd σ=[]:=rfl
@[simp] theorem R.Jw (a:α) (σ:S):(R.ret a).rd σ=[]:=rfl
@[simp] theorem R.Nc (t:Nat) (k:D->R α) (σ:S):(R.ge t k).rd σ= .e t::(k (σ.ge t)).rd σ:=rfl
@[simp] theorem R.IF (t:Nat) (k:Aa->R α) (σ:S):(R.go t k).rd σ= .o t::(k (σ.go t)).rd σ:=rfl
def S.same (σ τ:S):Key->Prop
 | .e t=>σ.ge t=τ.ge t
 | .o g=>σ.go g=τ.go g
theorem R.local (m:R α) (σ τ:S) (h:∀ k∈m.rd σ,σ.same τ k):m.run τ=m.run σ/\m.rd τ=m.rd σ:=by
 induction m with
 | ret a=>simp_all
 | ge t k ih =>
  have h0:σ.ge t=τ.ge t:=h (.e t) (by simp[R.rd])
  simp_all
 | go g k ih =>
  have h0:σ.go g=τ.go g:=h (.o g) (by simp[R.rd])
  simp_all
structure Out where
 c:Prop
 we:List (Nat×D)
 wo:List (Nat×Aa)
def S.app (σ:S) (u:Out):S:=⟨u.we++σ.e,u.wo++σ.o,σ.n⟩
inductive Arg where
 | t (n:Nat)
 | c (d:D)
variable {ys:List Arg}
instance:Inhabited Arg:=⟨.c .top⟩
def known:D->Bool
 | .top| .when .. | .tup .. | .row .. | .hole ..=>false
 | _=>true
def SE:D->Bool
 | .agg .. | .clo .. | .when .. | .tup .. | .row .. | .hole ..=>false
 | _=>true
def OJ:D->Bool
 | .agg .. | .clo .. | .when .. | .tup .. | .row .. | .hole .. | .osl .. | .optr ..=>false
 | _=>true
def OQ:D->Bool
 | .clo _ caps=>caps.all OJ
 | d=>OJ d
def strip:D->Bool×D
 | .when p d=>(p,d)
 | d=>(true,d)
def raw:Arg->R D
 | .t n=>.ge n .ret
 | .c d=>.ret d
def rdA (x:Arg):R (Bool×D):=do pure (strip (<- raw x))
structure CB where
 r:Bool
 fl:List Int->List Int->List Int
 fk:List Int->List Int->Nat
 fi:Option (List Int->List Int->Int)
 pre:List Int->List Int->Prop
def inQ (r:Bool) (fl:List Int->List Int) (fk:List Int->Nat):CB:=⟨r,λzs _=>fl zs,λzs _=>fk zs,none,λ_ ks=>ks=[]⟩
inductive Kind where
 | val
 | ground
 | row (s ty:Nat)
 | mat (s ty:Nat)
 | ptr (s ty:Nat)
 | tupPtr (i s ty:Nat)
 | inpl (q:CB)
 | opn (φ:List D->S->(D->S->Prop)->Prop)
def Bx:Kind->Option CB
 | .inpl q=>some q
 | _=>none
def Cx:Kind->Option (List D->S->(D->S->Prop)->Prop)
 | .opn φ=>some φ
 | _=>none
structure Spec where
 ptr:List (Nat×(Nat×Nat))
 kind:Kind
 pre:List D->Prop
 res:List D->D
 eff:List D->List D
abbrev Al:=Nat->Option Spec
inductive DOp where
 | mv (x:Arg)
 | asg (x:Arg) (sl:Option (Nat×Nat))
 | pick (c a b:Arg)
 | new (z:D) (s ty:Nat)
 | box (x:Arg) (s ty:Nat)
 | bld (z:List D) (parts:List (Nat×Nat×Arg))
 | bldS (s ty:Nat) (z:D) (len:Nat) (parts:List (Nat×Arg))
 | ld (n:Nat) (agg:Bool) (a:Arg)
 | st (n:Nat) (a x:Arg)
 | nilck (x:Arg)
 | bin (op:BinOp) (x y:Arg)
 | eqB (neg:Bool) (x y:Arg)
 | eqA (n:Nat) (neg:Bool) (x y:Arg)
 | un (op:UnOp) (x:Arg)
 | cvt (k:IntKind) (x:Arg)
 | mkS (s ty bytes:Nat) (z:D) (len cap:Arg)
 | slc (s:Nat) (x:Arg) (lo hi:Option Arg)
 | fldA (off:Nat) (x:Arg)
 | fld (off n:Nat) (agg:Bool) (x:Arg)
 | ixA (s:Nat) (x i:Arg)
 | ixP (s len:Nat) (x i:Arg)
 | ixG (k n s:Nat) (i:Arg)
 | ix (s len:Nat) (agg:Bool) (x i:Arg)
 | ext (x:Arg) (i:Nat)
 | call (f:Arg) (args:List Arg)
 | len (str:Bool) (x:Arg)
 | app (s ty bytes:Nat) (x y:Arg)
 | fail
 | max (args:List Arg)
 | min (args:List Arg)
 | mkf (f:Nat) (caps:List Arg)
variable {op:DOp}
structure Ar where
 dst:Option Nat
 op:DOp
 guard:Option (Nat×Bool)
 after:List Nat
def Ah (dst:Option Nat) (d:D):List (Nat×D):=match dst with|some t=>[(t,d)]|none=>[]
def AP (dst:Option Nat) (o:Aa):List (Nat×Aa):=match dst with|some t=>[(t,o)]|none=>[]
def nmR (r:Bool) (t:Nat):Nat:=bif r then 4096+t else t
def Dx (r:Bool) (dst:Option Nat) (o:Aa):List (Nat×Aa):=match dst with|some t=>[(nmR r t,o)]|none=>[]
def setAt (cs:List D) (off:Nat) (new:List D):List D :=
 match new with
 | []=>cs
 | d::r=>setAt (cs.set off d) (off+1) r
def Oj (cs:List D) (off n:Nat) (agg:Bool):D:=if agg then .agg ((cs.drop off).take n)else cs.getD off .top
def Ps (e:D) (off:Nat) (new:List D):D :=
 match e with
 | .agg cs=>.agg (setAt cs off new)
 | _=>(match new with| [d]=>d|_=>.agg new)
def GH:BinOp->D->D->Prop×D
 | .shl,.int k x,.int _ y=>(0<=y,.int k (k.wrap (x*2 ^ (Nat.min y.toNat k.bits))))
 | .shr,.int k x,.int _ y=>(0<=y,.int k (x.fdiv (2 ^ (Nat.min y.toNat k.bits))))
 | .add,.int k x,.int k' y=>(k=k',.int k (k.wrap (x+y)))
 | .sub,.int k x,.int k' y=>(k=k',.int k (k.wrap (x-y)))
 | .mul,.int k x,.int k' y=>(k=k',.int k (k.wrap (x*y)))
 | .quo,.int k x,.int k' y=>(k=k'/\y≠0,.int k (k.wrap (x.tdiv y)))
 | .rem,.int k x,.int k' y=>(k=k'/\y≠0,.int k (x.tmod y))
 | .and,.int k x,.int k' y=>(k=k',.int k (k.wrap ((aAL k.bits x &&& aAL k.bits y).toNat)))
 | .or,.int k x,.int k' y=>(k=k',.int k (k.wrap ((aAL k.bits x ||| aAL k.bits y).toNat)))
 | .xor,.int k x,.int k' y=>(k=k',.int k (k.wrap ((aAL k.bits x ^^^ aAL k.bits y).toNat)))
 | .andNot,.int k x,.int k' y=>(k=k',.int k (k.wrap ((aAL k.bits x &&& ~~~ aAL k.bits y).toNat)))
 | .eql,.int k x,.int k' y=>(k=k',.bool (x==y))
 | .neq,.int k x,.int k' y=>(k=k',.bool (x != y))
 | .lss,.int k x,.int k' y=>(k=k',.bool (decide (x<y)))
 | .leq,.int k x,.int k' y=>(k=k',.bool (decide (x<=y)))
 | .gtr,.int k x,.int k' y=>(k=k',.bool (decide (x>y)))
 | .geq,.int k x,.int k' y=>(k=k',.bool (decide (x>=y)))
 | .add,.str x,.str y=>(x.length+y.length<=16777216,.str (x++y))
 | .eql,.str x,.str y=>(True,.bool (x==y))
 | .neq,.str x,.str y=>(True,.bool (!(x==y)))
 | _,_,_=>(False,.top)
def unD:UnOp->D->Prop×D
 | .not,.bool b=>(True,.bool (!b))
 | .neg,.int k n=>(True,.int k (k.wrap (0-n)))
 | .xor,.int k n=>(True,.int k (k.wrap ((aAL k.bits (if k.signed then -1 else k.max) ^^^ aAL k.bits n).toNat)))
 | _,_=>(False,.top)
def eqL:List D->List D->Prop×Bool
 | [],[]=>(True,true)
 | .int k a::r,.int k' b::r'=>(k=k'/\(eqL r r').1,(a==b)&&(eqL r r').2)
 | _,_=>(False,false)
def Du (f:Int->Int->Int):D->D->Prop×D
 | .int k x,.int k' y=>(k=k',.int k (f x y))
 | _,_=>(False,.top)
def OM (x y:Int):Int:=if x<y then y else x
def Tw (x y:Int):Int:=if y<x then y else x
def Dt:List Nat:=[0,1,56,2,57,49,28,3,61,58,42,50,38,29,17,4,62,47,59,36,45,43,51,22,53,39,33,30,24,18,12,5,63,55,48,27,60,41,37,16,46,35,44,21,52,32,23,11,54,26,40,15,34,20,31,10,25,14,19,9,13,8,7,6]
def AqQ:List (List UInt8):=[[99,111,110,115,116],[99,111,112,121],[97,100,100],[115,117,98],[109,117,108],[100,105,118],[97,110,100],[111,114],[120,111,114],[108,101,115,115],[101,113,117,97,108],[112,97,105,114],[104,105,103,104],[105,110],[111,117,116],[108,111,97,100],[115,116,111,114,101],[109,111,118,101],[97,114,103],[112,97,114,97,109],[106,117,109,112],[98,114,97,110,99,104],[99,97,108,108],[114,101,116,117,114,110],[116,114,97,112]]
def AqP:List (List UInt8):=[[114,35],[114,114],[114,114,114],[114,114,114],[114,114,114],[114,114,114],[114,114,114],[114,114,114],[114,114,114],[114,114,114],[114,114,114],[114,114,114],[114,114],[114],[114],[114,115],[115,114],[115,115],[97,114],[114,97],[64],[114,64],[102],[],[35]]
def Ro:List (Int×Int×Int×Bool):=[(1,0,0,true),(1,1,0,false),(1,1,1,false),(1,1,1,false),(1,1,1,false),(1,1,1,false),(1,1,1,false),(1,1,1,false),(1,1,1,false),(1,1,1,false),(1,1,1,false),(1,1,1,false),(1,1,0,false),(1,0,0,false),(1,0,0,false),(1,2,0,false),(2,1,0,false),(2,2,0,false),(4,1,0,false),(1,5,0,false),(6,0,0,false),(1,6,0,false),(3,0,0,false),(0,0,0,false),(0,0,0,true)]
def Ex (q:Int×Int×Int×Bool):List D:=[.int .i64 q.1,.int .i64 q.2.1,.int .i64 q.2.2.1,.bool q.2.2.2]
def CV:List (String×List D):=[("math/bits.deBruijn64tab",Dt.map λn:Nat=>.int .u8 n),("internal/strconv.uint64pow10",(aAR 20).map λi=>.int .u64 (10 ^ i:Nat)),("spillframe/sirtext.names",AqQ.map .str),("spillframe/sirtext.forms",AqP.map .str),("spillframe/sir.shapes",Ro.flatMap Ex)]
def Gz (k:Nat):List D:=(CV.getD k ("",[])).2
def view:D->R (Prop×List D)
 | .sl es=>.ret (True,es)
 | .nils=>.ret (True,[])
 | .osl g v i n=>.go g fun
  | some (v',o)=>.ret (v=v'/\o.var=false/\i+n<=o.es.length,(o.es.drop i).take n)
  | none=>.ret (False,[])
 | _=>.ret (False,[])
def AE:D->R (Prop×D×List (Nat×Aa))
 | .osl g v i n=>.go g fun
  | some (v',o)=>.ret (v=v'/\o.var=false/\i+n<=o.es.length,.sl ((o.es.drop i).take n),[(g,some (v,{ o with fz:=true }))])
  | none=>.ret (False,.top,[])
 | .nils=>.ret (True,.sl [],[])
 | .clo f caps=>.ret (caps.all OQ=true,.clo f caps,[])
 | .optr .. | .when .. | .tup .. | .agg ..=>.ret (False,.top,[])
 | d=>.ret (True,d,[])
def AU:List D->R (Prop×List D×List (Nat×Aa))
 | []=>.ret (True,[],[])
 | d::r=>do
  let(c,d',w)<-AE d
  let(c',r',w')<-AU r
  pure (c/\c',d'::r',w++w')
def BL (r:Bool):List D->Bool
 | []=>true
 | .int .. ::l=>BL r l
 | .bool .. ::l=>BL r l
 | .str .. ::l=>BL r l
 | .sl .. ::l=>BL r l
 | .nils::l=>BL r l
 | .row .. ::l=>r&&BL r l
 | _=>false
def nzD:D->D
 | .nils=>.sl []
 | d=>d
def res:D->R (Prop×D×List (Nat×Aa))
 | .agg cs=>bif BL true cs then .ret (True,.agg (cs.map nzD),[])else do
  let(c,cs',w)<-AU cs
  pure (c,.agg cs',w)
 | d=>AE d
def FN (r:Bool):D->R (Prop×D×List (Nat×Aa))
 | .row s ty es=>.ret (r=true,.row s ty es,[])
 | .hole ..=>.ret (False,.top,[])
 | d=>AE d
def BK (r:Bool):List D->R (Prop×List D×List (Nat×Aa))
 | []=>.ret (True,[],[])
 | d::l=>do
  let(c,d',w)<-FN r d
  let(c',r',w')<-BK r l
  pure (c/\c',d'::r',w++w')
def pas (r:Bool):D->R (Prop×D×List (Nat×Aa))
 | .agg cs=>bif BL r cs then .ret (True,.agg (cs.map nzD),[])else do
  let(c,cs',w)<-BK r cs
  pure (c,.agg cs',w)
 | d=>FN r d
def Bv (var:Bool):D->R (Prop×D×List (Nat×Aa))
 | .osl g v 0 n=>.go g fun
  | some (v',o) =>
   if o.fz then .ret (v=v'/\o.var=false/\n<=o.es.length,.sl (o.es.take n),[])
   else .ret (v=v'/\o.var=false/\n<=o.es.length/\(∀ e∈o.es,AO e=true),.row o.s o.ty (o.es.take n),[(g,none)])
  | none=>.ret (False,.top,[])
 | .osl .. | .row .. | .hole .. | .when .. | .tup .. | .agg .. | .top=>.ret (False,.top,[])
 | .optr g v i off=>.ret (var=true,.optr g v i off,[])
 | .clo f caps=>.ret (var=true,.clo f caps,[])
 | d=>.ret (True,d,[])
def AF (var:Bool):List D->R (Prop×List D×List (Nat×Aa))
 | []=>.ret (True,[],[])
 | d::l=>do
  let(c,d',w)<-Bv var d
  let(c',r',w')<-AF var l
  pure (c/\c'/\w'.all (λx=>w.all λy=>x.1 != y.1)=true,d'::r',w++w')
def AD:List Arg->R (List D)
 | []=>.ret []
 | x::r=>do
  let d<-raw x
  let r'<-AD r
  pure (d::r')
def BC (dst:Option Nat) (p:Prop) (r:Prop×D):Out:=⟨p/\r.1,Ah dst r.2,[]⟩
def DR:List D->List (Nat×Nat×D)->List D
 | cs,[]=>cs
 | cs,(off,_,d)::r=>DR (setAt cs off (cells d)) r
def DH:Nat->List (Nat×Nat×D)->Prop
 | _,[]=>True
 | n,(off,s,d)::r=>known d=true/\(cells d).length=s/\off+s<=n/\DH n r
def YJ:List D->List (Nat×D)->List D
 | es,[]=>es
 | es,(i,d)::r=>YJ (es.set i d) r
def BQ:List (Nat×Nat×Arg)->R (List (Nat×Nat×D))
 | []=>.ret []
 | (o,s,x)::r=>do
  let d<-raw x
  let r'<-BQ r
  pure ((o,s,d)::r')
def AR:List (Nat×Arg)->R (Prop×List (Nat×D)×List (Nat×Aa))
 | []=>.ret (True,[],[])
 | (i,x)::r=>do
  let d<-raw x
  let(c,d',w)<-res d
  let(c',r',w')<-AR r
  pure (c/\c',(i,d')::r',w++w')
def On:D->R (Prop×D×Nat)
 | .optr g v i off=>.go g fun
  | some (v',o)=>.ret (v=v'/\i<o.es.length,o.es.getD i .top,off)
  | none=>.ret (False,.top,0)
 | .fptr e off=>.ret (True,e,off)
 | _=>.ret (False,.top,0)
def Fa:D->D
 | .nils=>.nils
 | d=>nrm d
def intOf:Prop×D->Prop×Int
 | (p,.int _ n)=>(p,n)
 | _=>(False,0)
def bound:Option D->Int->Prop×Int
 | none,n=>(True,n)
 | some (.int _ k),_=>(True,k)
 | some _,_=>(False,0)
def BE:Option Arg->R (Option D)
 | none=>.ret none
 | some x=>do let d<-raw x;pure (some d)
def BN (d:D) (lo hi:Option D):Prop×D :=
 match d with
 | .sl es=>((bound lo 0).1/\(bound hi es.length).1/\0<=(bound lo 0).2/\(bound lo 0).2<=(bound hi es.length).2/\(bound hi es.length).2<=es.length,
   .sl ((es.drop (bound lo 0).2.toNat).take ((bound hi es.length).2.toNat-(bound lo 0).2.toNat)))
 | .osl g v i n=>((bound lo 0).1/\(bound hi n).1/\0<=(bound lo 0).2/\(bound lo 0).2<=(bound hi n).2/\(bound hi n).2<=n,
   .osl g v (i+(bound lo 0).2.toNat) ((bound hi n).2.toNat-(bound lo 0).2.toNat))
 | .str s=>((bound lo 0).1/\(bound hi s.length).1/\0<=(bound lo 0).2/\(bound lo 0).2<=(bound hi s.length).2/\(bound hi s.length).2<=s.length,
   .str ((s.drop (bound lo 0).2.toNat).take ((bound hi s.length).2.toNat-(bound lo 0).2.toNat)))
 | .nils=>((bound lo 0).1/\(bound hi 0).1/\(bound lo 0).2=0/\(bound hi 0).2=0,.nils)
 | _=>(False,.top)
def fits (s:Nat):D->R Prop
 | .sl es=>.ret (0<s/\∀ e∈es,(cells e).length=s)
 | .osl g v _ _=>.go g fun
  | some (v',o)=>.ret (0<s/\v=v'/\o.s=s)
  | none=>.ret False
 | .nils=>.ret (0<s)
 | .str _=>.ret (s=0)
 | _=>.ret False
def source (d:D):R (Prop×List D):=view d
def target (s ty:Nat):D->R (Prop×List D×List (Nat×Aa)×Bool)
 | .nils=>.ret (True,[],[],false)
 | .osl g v i n=>.go g fun
  | some (v',o)=>.ret (v=v'/\i=0/\n<=o.es.length/\o.fz=false/\o.var=false/\o.s=s/\o.ty=ty,o.es.take n,[(g,none)],Ad g)
  | none=>.ret (False,[],[],false)
 | _=>.ret (False,[],[],false)
def De (s ty:Nat):D->R (Prop×D×List (Nat×Aa)×List (Nat×Nat×Own))
 | .optr g v i off=>.go g fun
  | some (v',o)=>do
   let(c,e',w)<-pas (Ad g) (o.es.getD 0 .top)
   pure ((v=v'/\i=0/\off=0/\o.fz=false/\o.var=true/\o.es.length=1/\o.s=s/\o.ty=ty)/\c,e',w,[(g,v,o)])
  | none=>.ret (False,.top,[],[])
 | _=>.ret (False,.top,[],[])
def AH (ptr:List (Nat×(Nat×Nat))) (j:Nat) (d:D):R (Prop×D×List (Nat×Aa)×List (Nat×Nat×Own)) :=
 match look ptr j with
 | some (s,ty)=>De s ty d
 | none=>do
  let(c,d',w)<-res d
  pure (c,d',w,[])
def Bh (ptr:List (Nat×(Nat×Nat))):Nat->List D->R (Prop×List D×List (Nat×Aa)×List (Nat×Nat×Own))
 | _,[]=>.ret (True,[],[],[])
 | j,d::r=>do
  let(c,d',w,ps)<-AH ptr j d
  let(c',r',w',ps')<-Bh ptr (j+1) r
  pure (c/\c'/\ps'.all (λx=>ps.all λy=>x.1 != y.1)=true,d'::r',w++w',ps++ps')
def Ck (ptr:List (Nat×(Nat×Nat))) (j:Nat) (d:D):R (Prop×D×List (Nat×Aa)×List (Nat×Nat×Own)) :=
 match d with
 | .clo f caps =>
  match look ptr j with
  | some _=>.ret (False,.top,[],[])
  | none=>do
   let(c,caps',w,ps)<-Bh ptr (64*(j+1)) caps
   pure (c,.clo f caps',w,ps)
 | d=>AH ptr j d
def Ag (ptr:List (Nat×(Nat×Nat))):Nat->List D->R (Prop×List D×List (Nat×Aa)×List (Nat×Nat×Own))
 | _,[]=>.ret (True,[],[],[])
 | j,d::r=>do
  let(c,d',w,ps)<-Ck ptr j d
  let(c',r',w',ps')<-Ag ptr (j+1) r
  pure (c/\c'/\ps'.all (λx=>ps.all λy=>x.1 != y.1)=true,d'::r',w++w',ps++ps')
def An:List (Nat×Nat×Own)->List D->List (Nat×Aa)
 | [],_=>[]
 | (g,v,o)::r,ds=>(g,some (v,{ o with es:=[ds.headD .top] }))::An r ds.tail
def Dq:D->Bool
 | .int .. | .bool .. | .str ..=>true
 | _=>false
def isGround:D->Bool
 | .agg cs=>cs.all Dq
 | .tup ds=>ds.all Dq
 | d=>Dq d
def Bg (dst:Option Nat) (nv:Nat) (sp:Spec) (p:Prop) (ds:List D) (w:List (Nat×Aa)) (ps:List (Nat×Nat×Own)):Out :=
 match sp.kind with
 | .val=>⟨p/\sp.pre ds,Ah dst (sp.res ds),An ps (sp.eff ds)++w⟩
 | .ground=>⟨p/\sp.pre ds/\isGround (sp.res ds)=true/\sp.ptr=[],Ah dst (sp.res ds),[]⟩
 | .row s ty =>
  match sp.res ds with
  | .sl es=>⟨p/\sp.pre ds/\dst.isSome=true,Ah dst (.osl (dst.getD 0) nv 0 es.length),AP dst (some (nv,⟨false,false,s,ty,es⟩))++An ps (sp.eff ds)++w⟩
  | _=>⟨False,[],[]⟩
 | .mat s ty =>
  match sp.res ds with
  | .sl es=>⟨p/\sp.pre ds/\dst.isSome=true,Ah dst (.osl (nmR true (dst.getD 0)) nv 0 es.length),Dx true dst (some (nv,⟨false,false,s,ty,es⟩))++An ps (sp.eff ds)++w⟩
  | _=>⟨False,[],[]⟩
 | .ptr s ty=>⟨p/\sp.pre ds/\dst.isSome=true,Ah dst (.optr (dst.getD 0) nv 0 0),AP dst (some (nv,⟨false,true,s,ty,[sp.res ds]⟩))++An ps (sp.eff ds)++w⟩
 | .tupPtr i s ty =>
  match sp.res ds with
  | .tup rs=>⟨p/\sp.pre ds/\dst.isSome=true,Ah dst (.tup (rs.set i (.optr (dst.getD 0) nv 0 0))),AP dst (some (nv,⟨false,true,s,ty,[rs.getD i .top]⟩))++An ps (sp.eff ds)++w⟩
  | _=>⟨False,[],[]⟩
 | .inpl ..=>⟨False,[],[]⟩
 | .opn _=>⟨False,[],[]⟩
def Bf:D->Int
 | .int _ n=>n
 | _=>0
def CB.FM (q:CB) (zs ks:List Int):D:=match q.fi with|none=>.top|some f=>.int .i64 (f zs ks)
def Dp (dst:Option Nat) (q:CB):List D->R Out
 | .nils::es=>.ret ⟨es=(es.map Bf).map (.int .i64)/\q.pre [] (es.map Bf),Ah dst (if q.r then .nils else q.FM [] (es.map Bf)),[]⟩
 | .osl g v i n::es=>.go g fun
  | some (v',o)=>.ret ⟨v=v'/\o.fz=false/\o.var=false/\o.s=1/\i+n<=o.es.length/\n<4611686018427387904/\(Ad g=true->∀ e∈o.es,AO e=true)/\(o.es.drop i).take n=(((o.es.drop i).take n).map Bf).map (.int .i64)/\es=(es.map Bf).map (.int .i64)/\q.pre (((o.es.drop i).take n).map Bf) (es.map Bf),
    Ah dst (if q.r then .osl g v i (q.fk (((o.es.drop i).take n).map Bf) (es.map Bf))else q.FM (((o.es.drop i).take n).map Bf) (es.map Bf)),
    [(g,some (v,{ o with es:=if q.r then(o.es.take i++(q.fl (((o.es.drop i).take n).map Bf) (es.map Bf)).map (D.int .i64)++o.es.drop (i+n)).take (i+q.fk (((o.es.drop i).take n).map Bf) (es.map Bf))else o.es.take i++(q.fl (((o.es.drop i).take n).map Bf) (es.map Bf)).map (D.int .i64)++o.es.drop (i+n) }))]⟩
  | none=>.ret ⟨False,[],[]⟩
 | _=>.ret ⟨False,[],[]⟩
def AJ:List D->Nat
 | []=>0
 | .clo f _::r=>AJ r*4096+(f+1)
 | _::r=>AJ r
def unb (args:List Arg) (k:Nat):Nat:=match args with
 | []=>bif aAO k 4096 then k else k-4096
 | _=>k
theorem LK (q:Nat):unb [] (4096+q)=q:=by
 have h:aAO (4096+q) 4096=false:=by
  grind [aAu]
 simp_all[unb]
theorem Dj {args:List Arg} {k:Nat} (h:aAO k 4096=true):unb args k=k:=by
 grind [unb]
def evalOp (Γ:Al) (nv:Nat) (dst:Option Nat):DOp->R Out
 | .mv x=>do pure ⟨True,Ah dst (<- raw x),[]⟩
 | .asg x sl=>do
  let d<-raw x
  match d,sl with
  | .nils,some (s,ty)=>pure ⟨True,Ah dst (.osl (dst.getD 0) nv 0 0),AP dst (some (nv,⟨false,false,s,ty,[]⟩))⟩
  | .osl g v 0 n,some _=>.go g fun
   | some (v',o) =>
    if o.fz then .ret ⟨v=v'/\o.var=false/\n<=o.es.length,Ah dst (.sl (o.es.take n)),[]⟩
    else if Ad g then .ret ⟨True,Ah dst (.osl g v 0 n),[]⟩
    else .ret ⟨v=v'/\o.var=false/\n<=o.es.length/\(Ad g=true->∀ e∈o.es,AO e=true),Ah dst (.osl (nmR (Ad g) (dst.getD 0)) nv 0 n),Dx (Ad g) dst (some (nv,{ o with es:=o.es.take n }))++[(g,none)]⟩
   | none=>.ret ⟨False,[],[]⟩
  | d,_=>pure ⟨True,Ah dst d,[]⟩
 | .pick c a b=>do
  let(p,c)<-rdA c
  let(q,a)<-rdA a
  let(r,b)<-rdA b
  match c,a,b with
  | .bool c,.bool a,.bool b=>pure ⟨p=true/\(c=true->q=true)/\(c=false->r=true),Ah dst (.bool (if c then a else b)),[]⟩
  | _,_,_=>pure ⟨False,[],[]⟩
 | .new z s ty=>.ret ⟨True,Ah dst (.optr (dst.getD 0) nv 0 0),AP dst (some (nv,⟨false,true,s,ty,[z]⟩))⟩
 | .box x s ty=>do
  let(p,d)<-rdA x
  pure ⟨p=true/\known d=true/\(cells d).length=s,Ah dst (.optr (dst.getD 0) nv 0 0),AP dst (some (nv,⟨false,true,s,ty,[d]⟩))⟩
 | .bld z parts=>do
  let ps<-BQ parts
  pure ⟨DH z.length ps,Ah dst (.agg (DR z ps)),[]⟩
 | .bldS s ty z len parts=>do
  let(c,ps,w)<-AR parts
  pure ⟨c/\(∀ p∈ps,known p.2=true/\(cells p.2).length=s/\p.1<len),Ah dst (.osl (dst.getD 0) nv 0 len),AP dst (some (nv,⟨false,false,s,ty,YJ (aAg len z) ps⟩))++w⟩
 | .ld n agg a=>do
  let(p,a)<-rdA a
  match a with
  | .optr g v i off=>.go g fun
   | some (v',o) =>
    match Ad g,Oj (cells (o.es.getD i .top)) off n agg with
    | true,.row s ty es=>.ret ⟨p=true/\(v=v'/\i<o.es.length)/\off+n<=(cells (o.es.getD i .top)).length/\o.fz=false/\dst.isSome=true/\n=1/\agg=false/\g≠4096+dst.getD 0,
      Ah dst (.osl (4096+dst.getD 0) nv 0 es.length),
      [(4096+dst.getD 0,some (nv,⟨false,false,s,ty,es⟩)),(g,some (v,{ o with es:=o.es.set i (Ps (o.es.getD i .top) off [.hole (4096+dst.getD 0) nv es.length]) }))]⟩
    | true,.hole nm u m=>.ret ⟨p=true/\(v=v'/\i<o.es.length)/\off+n<=(cells (o.es.getD i .top)).length/\o.fz=false/\n=1/\agg=false,Ah dst (.osl nm u 0 m),[]⟩
    | _,d=>.ret ⟨p=true/\(v=v'/\i<o.es.length)/\off+n<=(cells (o.es.getD i .top)).length,Ah dst d,[]⟩
   | none=>.ret ⟨p=true/\False/\off+n<=(cells D.top).length,Ah dst (Oj (cells .top) 0 n agg),[]⟩
  | a=>do
   let(c,e,off)<-On a
   pure ⟨p=true/\c/\off+n<=(cells e).length,Ah dst (Oj (cells e) off n agg),[]⟩
 | .st n a x=>do
  let(p,a)<-rdA a
  let(q,d)<-rdA x
  match a with
  | .optr g v i off=>.go g fun
   | some (v',o) =>
    if Ad g then do
     let(c,cs',w)<-AF o.var (cells d)
     .ret ⟨p=true/\q=true/\c/\v=v'/\o.fz=false/\i<o.es.length/\known d=true/\(cells d).length=n/\off+n<=(cells (o.es.getD i .top)).length/\w.all (λx=>x.1 != g)=true,[],
      (g,some (v,{ o with es:=o.es.set i (Ps (o.es.getD i .top) off cs') }))::w⟩
    else if o.var then
     .ret ⟨p=true/\q=true/\v=v'/\o.fz=false/\i<o.es.length/\known d=true/\(cells d).length=n/\off+n<=(cells (o.es.getD i .top)).length,[],
      [(g,some (v,{ o with es:=o.es.set i (Ps (o.es.getD i .top) off (cells d)) }))]⟩
    else do
     let(c,d',w)<-res d
     pure ⟨p=true/\q=true/\c/\v=v'/\o.fz=false/\i<o.es.length/\known d'=true/\(cells d').length=n/\off+n<=(cells (o.es.getD i .top)).length/\w.all (λx=>x.1 != g)=true,[],
      (g,some (v,{ o with es:=o.es.set i (Ps (o.es.getD i .top) off (cells d')) }))::w⟩
   | none=>.ret ⟨False,[],[]⟩
  | _=>.ret ⟨False,[],[]⟩
 | .nilck x=>do
  let(p,d)<-rdA x
  match d with
  | .optr .. | .fptr ..=>pure ⟨p=true,Ah dst d,[]⟩
  | _=>pure ⟨False,[],[]⟩
 | .bin op x y=>do
  let(p,x)<-rdA x
  let(q,y)<-rdA y
  pure (BC dst (p=true/\q=true) (GH op x y))
 | .eqB neg x y=>do
  let(p,x)<-rdA x
  let(q,y)<-rdA y
  match x,y with
  | .bool a,.bool b=>pure ⟨p=true/\q=true,Ah dst (.bool (if neg then !(a==b)else(a==b))),[]⟩
  | _,_=>pure ⟨False,[],[]⟩
 | .eqA n neg x y=>do
  let(p,x)<-rdA x
  let(q,y)<-rdA y
  match x,y with
  | .agg a,.agg b=>pure ⟨p=true/\q=true/\(eqL a b).1/\a.length=n,Ah dst (.bool (if neg then !(eqL a b).2 else(eqL a b).2)),[]⟩
  | _,_=>pure ⟨False,[],[]⟩
 | .un op x=>do
  let(p,x)<-rdA x
  pure (BC dst (p=true) (unD op x))
 | .cvt k x=>do
  let(p,x)<-rdA x
  match x with
  | .int _ n=>pure ⟨p=true,Ah dst (.int k (k.wrap n)),[]⟩
  | _=>pure ⟨False,[],[]⟩
 | .mkS s ty bytes z len cap=>do
  let(p,l)<-rdA len
  let(q,c)<-rdA cap
  match l,c with
  | .int _ l,.int _ c=>pure ⟨p=true/\q=true/\0<=l/\l<=c/\c<=16777216/\bytes<=65536,Ah dst (.osl (dst.getD 0) nv 0 l.toNat),AP dst (some (nv,⟨false,false,s,ty,aAg l.toNat z⟩))⟩
  | _,_=>pure ⟨False,[],[]⟩
 | .slc s x lo hi=>do
  let(p,d)<-rdA x
  let lo<-BE lo
  let hi<-BE hi
  let c<-fits s d
  pure (BC dst (p=true/\c) (BN d lo hi))
 | .fldA off x=>do
  let(p,d)<-rdA x
  match d with
  | .optr g v i o=>pure ⟨p=true,Ah dst (.optr g v i (o+off)),[]⟩
  | .fptr e o=>pure ⟨p=true,Ah dst (.fptr e (o+off)),[]⟩
  | _=>pure ⟨False,[],[]⟩
 | .fld off n agg x=>do
  let(p,d)<-rdA x
  match d with
  | .agg cs=>pure ⟨p=true/\off+n<=cs.length,Ah dst (Oj cs off n agg),[]⟩
  | _=>pure ⟨False,[],[]⟩
 | .ixA s x i=>do
  let(p,d)<-rdA x
  let(q,j)<-rdA i
  match d,j with
  | .osl g v i n,.int _ j=>.go g fun
   | some (v',o)=>.ret ⟨p=true/\q=true/\v=v'/\o.var=false/\o.s=s/\0<=j/\j<n,Ah dst (.optr g v (i+j.toNat) 0),[]⟩
   | none=>.ret ⟨False,[],[]⟩
  | .sl es,.int _ j=>pure ⟨p=true/\q=true/\0<=j/\j<es.length/\(cells (es.getD j.toNat .top)).length=s,Ah dst (.fptr (es.getD j.toNat .top) 0),[]⟩
  | _,_=>pure ⟨False,[],[]⟩
 | .ixP s len x i=>do
  let(p,d)<-rdA x
  let(q,j)<-rdA i
  match d,j with
  | .optr g v i o,.int _ j=>pure ⟨p=true/\q=true/\0<=j/\j<len,Ah dst (.optr g v i (o+j.toNat*s)),[]⟩
  | .fptr e o,.int _ j=>pure ⟨p=true/\q=true/\0<=j/\j<len,Ah dst (.fptr e (o+j.toNat*s)),[]⟩
  | _,_=>pure ⟨False,[],[]⟩
 | .ixG k n s i=>do
  let(q,j)<-rdA i
  match j with
  | .int _ j=>pure ⟨q=true/\0<=j/\j<n/\∃ k sp,Γ k=some sp,Ah dst (.fptr (.agg (Gz k)) (j.toNat*s)),[]⟩
  | _=>pure ⟨False,[],[]⟩
 | .ix s len agg x i=>do
  let(p,d)<-rdA x
  let(q,j)<-rdA i
  match d,j with
  | .agg cs,.int _ j=>pure ⟨p=true/\q=true/\0<=j/\j<len/\len*s<=cs.length,Ah dst (Oj cs (j.toNat*s) s agg),[]⟩
  | _,_=>pure ⟨False,[],[]⟩
 | .ext x i=>do
  let(p,d)<-rdA x
  match d with
  | .tup ds=>pure ⟨p=true/\i<ds.length,Ah dst (ds.getD i .top),[]⟩
  | _=>pure ⟨False,[],[]⟩
 | .call f args=>do
  let fd<-raw f
  match fd with
  | .clo k caps=>do
   let ds<-AD args
   match aAO (unb args k) 4096,Γ (unb args k+4096*AJ ds)with
   | true,some sp =>
    match Bx sp.kind with
    | none=>do
     let(c,ds',w,ps)<-Ag sp.ptr 0 (ds++caps)
     pure (Bg dst nv sp c ds' w ps)
    | some q=>Dp dst q (ds++caps)
   | _,_=>.ret ⟨False,[],[]⟩
  | _=>.ret ⟨False,[],[]⟩
 | .len str x=>do
  let(p,d)<-rdA x
  match d with
  | .sl es=>pure ⟨p=true/\str=false,Ah dst (.int .i64 es.length),[]⟩
  | .osl _ _ _ n=>pure ⟨p=true/\str=false,Ah dst (.int .i64 n),[]⟩
  | .nils=>pure ⟨p=true/\str=false,Ah dst (.int .i64 0),[]⟩
  | .str s=>pure ⟨p=true/\str=true,Ah dst (.int .i64 s.length),[]⟩
  | _=>pure ⟨False,[],[]⟩
 | .app s ty bytes x y=>do
  let(p,x)<-rdA x
  let(q,y)<-rdA y
  let(c,new)<-source y
  let(c',old,w,r)<-target s ty x
  pure ⟨p=true/\q=true/\c/\c'/\old.length+new.length<=16777216/\bytes<=65536/\(∀ e∈new,(cells e).length=s)/\(r=true->∀ e∈old++new,AO e=true),
   Ah dst (.osl (nmR r (dst.getD 0)) nv 0 (old.length+new.length)),Dx r dst (some (nv,⟨false,false,s,ty,old++new⟩))++w⟩
 | .max xs=>do
  let ds<-AD xs
  match ds with
  | [x,y]=>pure (BC dst ((strip x).1=true/\(strip y).1=true) (Du OM (strip x).2 (strip y).2))
  | [x,y,z]=>pure (BC dst ((strip x).1=true/\(strip y).1=true/\(strip z).1=true/\(Du OM (strip x).2 (strip y).2).1) (Du OM (Du OM (strip x).2 (strip y).2).2 (strip z).2))
  | _=>pure ⟨False,[],[]⟩
 | .min xs=>do
  let ds<-AD xs
  match ds with
  | [x,y]=>pure (BC dst ((strip x).1=true/\(strip y).1=true) (Du Tw (strip x).2 (strip y).2))
  | _=>pure ⟨False,[],[]⟩
 | .mkf f caps=>do
  let ds<-AD caps
  pure ⟨∀ d∈ds,SE d=true,Ah dst (.clo f ds),[]⟩
 | .fail=>.ret ⟨False,[],[]⟩
def guardOf:D->Bool->Prop×Bool
 | .bool b,want=>(True,b==want)
 | .when p (.bool b),want=>(True,p&&(b==want))
 | _,_=>(False,false)
def At (Γ:Al) (nv:Nat) (o:Ar):R Out :=
 match o.guard with
 | none=>evalOp Γ nv o.dst o.op
 | some (t,want)=>.ge t λd =>
  if(guardOf d want).2 then do
   let u<-evalOp Γ nv o.dst o.op
   pure ⟨(guardOf d want).1/\u.c,u.we,u.wo⟩
  else .ret ⟨(guardOf d want).1,Ah o.dst (.when false (.bool false)),[]⟩
def wpOps (Γ:Al):List Ar->Nat->S->(S->Prop)->Prop
 | [],_,σ,K=>K σ
 | o::r,nv,σ,K=>((At Γ nv o).run σ).c/\wpOps Γ r (nv+1) (σ.app ((At Γ nv o).run σ)) K
def Cv (Γ:Al):List Ar->Nat->S->List (List Key×List Key×List Nat)
 | [],_,_=>[]
 | o::r,nv,σ=>((At Γ nv o).rd σ,((At Γ nv o).run σ).we.map (λx=>.e x.1)++((At Γ nv o).run σ).wo.map (λx=>.o x.1),o.after)::Cv Γ r (nv+1) (σ.app ((At Γ nv o).run σ))
def meet (a b:List Key):Bool:=a.any λk=>b.contains k
def ApH (x y:List Key×List Key×List Nat):Bool:=meet x.2.1 y.1||meet x.2.1 y.2.1||meet x.1 y.2.1
def JI:List (List Nat)->List (List Nat)->List (List Nat)
 | acc,[]=>acc
 | acc,a::r=>JI (acc++[(a++a.flatMap λe=>acc.getD e []).eraseDups]) r
def HM (A:List (List Nat)) (f:List (List Key×List Key×List Nat)):Bool :=
 (aAR f.length).all λj=>(aAR j).all λi =>
  !ApH (f.getD i ([],[],[])) (f.getD j ([],[],[]))||(A.getD j []).contains i
def DF (f:List (List Key×List Key×List Nat)):Bool:=HM (JI [] (f.map λx=>x.2.2)) f
inductive OX where
 | skip
 | reg (ops:List Ar) (draw:Bool)
 | seq (a b:OX)
 | cond (c:Arg) (a b:OX)
 | block (id:Nat) (b:OX)
 | loop (b:OX)
 | exit (id:Nat)
 | ret
def CJ (σ:S):Arg->D
 | .t n=>σ.ge n
 | .c d=>d
theorem BF:∀ l:List D,Dd l=l.map nrm
 | []=>rfl
 | d::r=>by simp[Dd,BF r]
theorem Cl (e:D):cells (nrm e)=Dd (cells e):=by
 cases e<;>simp[nrm,cells,Dd]
def Aj (σ:S) (ws:List (Nat×Aa)):Prop:=∀ p∈ws,∃ v o,σ.go p.1=some (v,o)/\o.var=false/\p.2=some (v,{ o with fz:=true })
def CS (σ:S) (ws:List (Nat×Aa)) (c c':D):Prop:=c=c'\/(((AE c).run σ).1/\((AE c).run σ).2.1=c'/\∀ p∈((AE c).run σ).2.2,p∈ws)
def DA (σ:S) (ws:List (Nat×Aa)):List D->List D->Prop
 | [],[]=>True
 | c::r,c'::r'=>CS σ ws c c'/\DA σ ws r r'
 | _,_=>False
def Conv (σ:S) (ws:List (Nat×Aa)) (d d':D):Prop:=CS σ ws d d'\/∃ cs cs',d= .agg cs/\d'= .agg cs'/\DA σ ws cs cs'
def S.gof (σ:S) (ws:List (Nat×Aa)) (g:Nat):Aa:=(S.mk σ.e (ws++σ.o) σ.n).go g
structure LN (ws:List (Nat×Aa)) (σ τ:S):Prop where
 fz:Aj σ ws
 e:∀ p∈τ.e,Conv σ ws (σ.ge p.1) p.2
 o:∀ p∈τ.o,σ.gof ws p.1=p.2\/∃ v o z z',σ.gof ws p.1=some (v,o)/\o.var=true/\o.es=[z]/\p.2=some (v,{ o with es:=[z'] })/\Conv σ ws z z'
 n:σ.n<=τ.n
mutual
def ren (g g':Nat):D->D
 | .osl k v i n=>.osl (bif aAh k g then g' else k) v i n
 | .optr k v i off=>.optr (bif aAh k g then g' else k) v i off
 | .agg cs=>.agg (Fb g g' cs)
 | .clo f cs=>.clo f (Fb g g' cs)
 | .tup cs=>.tup (Fb g g' cs)
 | d=>d
def Fb (g g':Nat):List D->List D
 | []=>[]
 | d::r=>ren g g' d::Fb g g' r
end
mutual
def rnm (rn:Nat->Nat):D->D
 | .osl k v i n=>.osl (rn k) v i n
 | .optr k v i off=>.optr (rn k) v i off
 | .agg cs=>.agg (Fg rn cs)
 | .clo f cs=>.clo f (Fg rn cs)
 | .tup cs=>.tup (Fg rn cs)
 | d=>d
def Fg (rn:Nat->Nat):List D->List D
 | []=>[]
 | d::r=>rnm rn d::Fg rn r
end
def rnO (rn:Nat->Nat):Aa->Aa
 | some (u,o)=>some (u,{ o with es:=bif o.var then o.es.map (rnm rn)else o.es })
 | none=>none
def CG (rn:Nat->Nat) (ks:List Nat):Bool:=ks.all λk=>(Ad (rn k)==Ad k)&&ks.all λk'=>!(aAh (rn k) (rn k'))||aAh k k'
mutual
def frp (g v:Nat) (z:D):D->D
 | .optr k u i off=>bif aAh k g&&aAh u v&&aAh i 0 then .fptr z off else .optr k u i off
 | .agg cs=>.agg (BU g v z cs)
 | .clo f cs=>.clo f (BU g v z cs)
 | .tup cs=>.tup (BU g v z cs)
 | d=>d
def BU (g v:Nat) (z:D):List D->List D
 | []=>[]
 | d::r=>frp g v z d::BU g v z r
end
def frO (g v:Nat) (z:D):Aa->Aa
 | some (u,o)=>some (u,{ o with es:=bif o.var then o.es.map (frp g v z)else o.es })
 | none=>none
def Enr (r:Bool) (e e':D):Prop:=(cells e').length=(cells e).length/\∀ (j:Nat) c c',(cells e)[j]? =some c->(cells e')[j]? =some c'->(c'=c/\(r=true\/plain c=true))\/(c= .nils/\∃ s ty,0<s/\c'= .row s ty [])
def Frr (e e':D):Prop:=(cells e').length=(cells e).length/\∀ (j:Nat) c c',(cells e)[j]? =some c->(cells e')[j]? =some c'->c'=c\/∃ s ty es,c= .row s ty es/\(∀ q∈es,AO q=true)/\c'= .sl es
def Each (R:D->D->Prop) (l l':List D):Prop:=l'.length=l.length/\∀ (i:Nat) e e',l[i]? =some e->l'[i]? =some e'->R e e'
inductive Rw (σ:S):S->Prop
 | close (g v i off g' v' m:Nat) (og o':Own) (c:D) (hg:σ.go g=some (v,og)) (hr:Ad g=true) (hfz:og.fz=false) (hi:i<og.es.length) (hc:(cells (og.es.getD i .top))[off]? =some c)
   (hh:c= .hole g' v' m\/(c= .osl g' v' 0 m/\og.var=true)) (hg':σ.go g'=some (v',o')) (hfz':o'.fz=false) (hvar:o'.var=false) (hm:m<=o'.es.length) (hp:(Ad g'=true/\∀ e∈o'.es,∀ c∈cells e,∀ nm u n,c≠ .hole nm u n)\/∀ e∈o'.es,AO e=true) (hne:g≠g') :
   Rw σ ⟨σ.e,(g,some (v,{ og with es:=og.es.set i (Ps (og.es.getD i .top) off [.row o'.s o'.ty (o'.es.take m)]) }))::(g',none)::σ.o,σ.n⟩
 | enrich (g g2 v:Nat) (o:Own) (es':List D) (hg:σ.go g=some (v,o)) (hfz:o.fz=false) (hn:(g2=g/\Ad g=true)\/(Ad g=false/\g2=4096+g)) (he:Each (Enr (Ad g)) o.es es') :
   Rw σ ⟨σ.e.map (λp=>(p.1,ren g g2 p.2)),(g2,some (v,{ o with es:=es' }))::(g,bif aAh g g2 then some (v,{ o with es:=es' })else none)::σ.o,σ.n⟩
 | frows (g v:Nat) (o:Own) (es':List D) (hg:σ.go g=some (v,o)) (hr:Ad g=true) (hfz:o.fz=false) (he:Each Frr o.es es') :
   Rw σ ⟨σ.e,(g,some (v,{ o with es:=es' }))::σ.o,σ.n⟩
 | nilsl (g v:Nat) (o:Own) (hg:σ.go g=some (v,o)) (hr:Ad g=false) (hfz:o.fz=false) (hvar:o.var=false) :
   Rw σ ⟨σ.e,(g,some (v,{ o with es:=o.es.map nrm }))::σ.o,σ.n⟩
 | fvar (g v:Nat) (o:Own) (z:D) (hg:σ.go g=some (v,o)) (hfz:o.fz=false) (hvar:o.var=true) (hz:o.es=[z]) (hc:(cells z).all OQ=true) :
   Rw σ ⟨σ.e.map (λp=>(p.1,frp g v z p.2)),(g,none)::σ.o.map (λp=>(p.1,frO g v z p.2)),σ.n⟩
 | nams (rn:Nat->Nat) (hn:CG rn (σ.o.map Prod.fst)=true):Rw σ ⟨σ.e.map (λp=>(p.1,rnm rn p.2)),σ.o.map (λp=>(rn p.1,rnO rn p.2)),σ.n⟩
 | opn (g v i off t s ty:Nat) (es:List D) (o:Own) (hg:σ.go g=some (v,o)) (hr:Ad g=true) (hfz:o.fz=false) (hvar:o.var=true) (hi:i<o.es.length) (hrow:(cells (o.es.getD i .top))[off]? =some (.row s ty es)) (hne:g≠4096+t) :
   Rw σ ⟨σ.e,(4096+t,some (σ.n,⟨false,false,s,ty,es⟩))::(g,some (v,{ o with es:=o.es.set i (Ps (o.es.getD i .top) off [.osl (4096+t) σ.n 0 es.length]) }))::σ.o,σ.n+1⟩
 | opnr (g v i off t s ty:Nat) (es:List D) (o:Own) (hg:σ.go g=some (v,o)) (hr:Ad g=true) (hfz:o.fz=false) (hvar:o.var=false) (hi:i<o.es.length) (hrow:(cells (o.es.getD i .top))[off]? =some (.row s ty es)) (hne:g≠4096+t) :
   Rw σ ⟨σ.e,(4096+t,some (σ.n,⟨false,false,s,ty,es⟩))::(g,some (v,{ o with es:=o.es.set i (Ps (o.es.getD i .top) off [.hole (4096+t) σ.n es.length]) }))::σ.o,σ.n+1⟩
 | nilv (g v i off t s ty:Nat) (o:Own) (hg:σ.go g=some (v,o)) (hr:Ad g=false) (hfz:o.fz=false) (hvar:o.var=true) (hi:i<o.es.length) (hc:(cells (o.es.getD i .top))[off]? =some .nils) (hs:0<s) (hne:g≠t) :
   Rw σ ⟨σ.e,(g,some (v,{ o with es:=o.es.set i (Ps (o.es.getD i .top) off [.osl t σ.n 0 0]) }))::(t,some (σ.n,⟨false,false,s,ty,[]⟩))::σ.o,σ.n+1⟩
 | shrink (gw vw i off g v k:Nat) (ow o:Own) (hgw:σ.go gw=some (vw,ow)) (hrw:Ad gw=false) (hfzw:ow.fz=false) (hvarw:ow.var=true) (hi:i<ow.es.length) (hc:(cells (ow.es.getD i .top))[off]? =some (.osl g v 0 k))
   (hg:σ.go g=some (v,o)) (hr:Ad g=false) (hfz:o.fz=false) (hvar:o.var=false) (hk:k<=o.es.length) (hne:gw≠g) :
   Rw σ ⟨σ.e,(gw,some (vw,{ ow with es:=ow.es.set i (Ps (ow.es.getD i .top) off [.osl g v 0 (o.es.take k).length]) }))::(g,some (v,{ o with es:=o.es.take k }))::σ.o,σ.n⟩
inductive Chg:S->S->Prop
 | refl (σ:S):Chg σ σ
 | Ez {σ τ υ:S} (ws:List (Nat×Aa)) (h:LN ws σ τ) (k:Chg τ υ):Chg σ υ
 | rw{σ τ υ:S} (h:Rw σ τ) (k:Chg τ υ):Chg σ υ
theorem Chg.n {σ τ:S} (h:Chg σ τ):σ.n<=τ.n:=by
 induction h with
 | refl=>omega
 | Ez ws h _ ih=>exact aAS h.n ih
 | rw h _ ih=>cases h<;>first|exact ih|exact aAS (Nat.le_succ _) ih
theorem Chg.trans {σ τ υ:S} (h:Chg σ τ) (k:Chg τ υ):Chg σ υ:=by
 induction h with
 | refl=>exact k
 | Ez ws h _ ih=>exact .Ez ws h (ih k)
 | rw h _ ih=>exact .rw h (ih k)
def Wk (f:S->Prop):S->Prop:=λσ=>∃ τ,Chg σ τ/\f τ
inductive Aq where
 | normal
 | exit (id:Nat)
 | ret
def Aq.then (next:S->Prop) (Q:Aq->S->Prop):Aq->S->Prop
 | .normal,σ=>next σ
 | e,σ=>Q e σ
def Aq.inBlock (id:Nat) (Q:Aq->S->Prop):Aq->S->Prop
 | .exit id',σ=>if id'=id then Wk (Q .normal) σ else Q (.exit id') σ
 | e,σ=>Q e σ
def onG (g:Option (Nat×Bool)) (σ:S):Prop:=match g with|none=>True|some (t,want)=>(guardOf (σ.ge t) want).1/\(guardOf (σ.ge t) want).2=true
def FE (Γ:Al) (o:Ar) (σ:S) (K:S->Prop):Prop :=
 onG o.guard σ/\∃ fa args f caps sp φ,∃ K0:S->Prop,(∀ τ,K0 τ->K τ)/\o.op= .call fa args/\(raw fa).run σ= .clo f caps/\aAO (unb args f) 4096=true/\Γ (unb args f+4096*AJ ((AD args).run σ))=some sp/\Cx sp.kind=some φ/\((AD args).run σ).all (λd=>(match d with| .when ..=>false|_=>true))=true /\
  φ ((AD args).run σ++caps) σ (λd τ=>K0 ⟨Ah o.dst d++τ.e,τ.o,τ.n⟩)
def wpS (Γ:Al):List Ar->Nat->S->(S->Prop)->Prop
 | [],nv,σ,K=>K { σ with n:=nv }
 | o::r,nv,σ,K=>(((At Γ nv o).run σ).c/\wpS Γ r (nv+1) (σ.app ((At Γ nv o).run σ)) K)\/Wk (λσ=>FE Γ o σ (Wk (λτ=>wpS Γ r τ.n τ K))) { σ with n:=nv }
def DWp (Γ:Al):OX->(Aq->S->Prop)->S->Prop
 | .skip,Q,σ=>Q .normal σ
 | .reg ops draw,Q,σ=>Wk (λσ=>if draw then wpOps Γ ops σ.n σ (λτ=>Q .normal { τ with n:=σ.n+ops.length })/\DF (Cv Γ ops σ.n σ)=true else wpS Γ ops σ.n σ (Q .normal)) σ
 | .seq a b,Q,σ=>DWp Γ a (Aq.then (Wk (DWp Γ b Q)) Q) σ
 | .cond c a b,Q,σ =>
  match CJ σ c with
  | .bool t=>(t=true->DWp Γ a Q σ)/\(t=false->DWp Γ b Q σ)
  | _=>False
 | .block id b,Q,σ=>DWp Γ b (Aq.inBlock id Q) σ
 | .loop b,Q,σ=>∃ (ι:Type) (St:ι->S) (μ:ι->Nat) (i₀:ι),Chg σ (St i₀) /\
   ∀ i,DWp Γ b (Aq.then (λτ=>∃ i',μ i'<μ i/\Chg τ (St i')) Q) (St i)
 | .exit id,Q,σ=>Q (.exit id) σ
 | .ret,Q,σ=>Q .ret σ
def CX:Value->D
 | .int k n=>.int k n
 | .bool b=>.bool b
 | .string s=>.str s.data.toList
 | .slice none 0 0=>.nils
 | .nilFunc=>.nilf
 | .pointer none=>.nilp
 | _=>.top
def Bc:Value->D
 | .agg cs=>.agg (cs.toList.map CX)
 | v=>CX v
def Bk:Value->Bool
 | .agg cs=>cs.toList.all Value.oneCell'
 | v=>v.oneCell'
def Ao:Operand->Option Arg
 | .tmp t=>some (.t t)
 | .const v=>if Bk v then some (.c (Bc v))else none
 | .func f=>if f<4096 then some (.c (.clo f []))else none
 | .global _=>none
def Ch (l:List Operand):Option (List Arg):=l.mapM Ao
section
variable (P:Program)
def HT (g:Nat):Option Nat:=(aAR CV.length).find? λk=>(CV.getD k ("",[])).1 ≠ "" /\ P.globalNamed (CV.getD k ("",[])).1=some g
def Cd (t:TypeId):Bool:=match P.underlying t with|some (.struct _)|some (.array _ _)=>true|_=>false
def CA (t:TypeId):Option D:=do
 let z<-(<- P.info? t).zero
 if Bk z&&z.cells.size==P.cellsOf t then some (Bc z)else none
def Db (places:Nat->Option (Nat×Nat)):List (Nat×Operand)->Option (List (Nat×Nat×Arg))
 | []=>some []
 | (i,x)::r=>do
  let(o,s)<-places i
  let a<-Ao x
  let r'<-Db places r
  some ((o,s,a)::r')
def DB:List (Nat×Operand)->Option (List (Nat×Arg))
 | []=>some []
 | (i,x)::r=>do
  let a<-Ao x
  let r'<-DB r
  some ((i,a)::r')
def EV (t:TypeId):Bool:=P.cellsOf t==1&&(match P.underlying t with|some (.int _)=>true|_=>false)
def DJ (t:TypeId):Option Nat :=
 match P.underlying t with
 | some (.array n e)=>if(P.info? e).isSome&&EV P e&& !P.eqGuardType P.depth t then some n else none
 | some (.struct fs)=>if !P.stoodInHeld t&& !P.eqGuardType P.depth t&&(aAR fs.size).all (λi=>match fs[i]? with|some f=>f.name != "_" && f.offset==i&&EV P f.type|none=>false)then some fs.size else none
 | _=>none
def Ei:Option Operand->Option (Option Arg)
 | none=>some none
 | some x=>do some (some (<- Ao x))
def Iw (c:Call):Option DOp :=
 match c.callee,c.args.toList,c.argTypes.toList with
 | .value f,as,_=>do some (.call (<- Ao f) (<- Ch as))
 | .builtin .len,[x],[t] =>
  match P.underlying t with
  | some (.slice _)=>do some (.len false (<- Ao x))
  | some .string=>do some (.len true (<- Ao x))
  | _=>none
 | .builtin .append,[x,y],[t,u] =>
  match P.underlying t,P.underlying u with
  | some (.slice e),some (.slice e')=>do
   let i<-P.info? e
   let _<-i.zero
   let z<-CA P e
   if t=u/\0<P.cellsOf e/\(cells z).length=P.cellsOf e/\i.bytes<=65536/\e'=e then some (.app (P.cellsOf e) e i.bytes (<- Ao x) (<- Ao y))else none
  | _,_=>none
 | .builtin .max,as,_=>do some (.max (<- Ch as))
 | .builtin .min,as,_=>do some (.min (<- Ch as))
 | _,_,_=>some .fail
def JM (t:TypeId) (x i:Operand):Option DOp :=
 match P.underlying t with
 | some (.slice e)=>do if(P.info? e).isSome then some (.ixA (P.cellsOf e) (<- Ao x) (<- Ao i))else none
 | some (.array n e)=>do if(P.info? e).isSome then some (.ixP (P.cellsOf e) n (<- Ao x) (<- Ao i))else none
 | _=>none
def JN (t:TypeId) (g:Nat) (i:Operand):Option DOp :=
 match P.underlying t,HT P g with
 | some (.array n e),some k=>if n*P.cellsOf e=(Gz k).length/\(P.info? e).isSome=true then do some (.ixG k n (P.cellsOf e) (<- Ao i))else some .fail
 | _,_=>some .fail
def cOp (type:TypeId):Op->Option DOp
 | .move x=>do some (.mv (<- Ao x))
 | .assign x =>
  match P.underlying type with
  | some (.slice e)=>do some (.asg (<- Ao x) (if 0<P.cellsOf e then some (P.cellsOf e,e)else none))
  | _=>do some (.asg (<- Ao x) none)
 | .pick c a b=>do some (.pick (<- Ao c) (<- Ao a) (<- Ao b))
 | .alloc e =>
  do
   let z<-CA P e
   if 0<P.cellsOf e then some (.new z (P.cellsOf e) e)else none
 | .box e x=>do if 0<P.cellsOf e then some (.box (<- Ao x) (P.cellsOf e) e)else none
 | .build t parts=>do
  let z<-CA P t
  match z,P.underlying t with
  | .agg cs,some (.struct fs)=>do
   let ps<-Db (λi=>(fs[i]?).map λf=>(f.offset,P.cellsOf f.type)) parts.toList
   if fs.toList.all (λf=>(P.info? f.type).isSome)then some (.bld cs ps)else none
  | .agg cs,some (.array _ e)=>do
   let ps<-Db (λi=>some (i*P.cellsOf e,P.cellsOf e)) parts.toList
   if(P.info? e).isSome then some (.bld cs ps)else none
  | _,_=>none
 | .buildSlice t len parts =>
  match P.underlying t with
  | some (.slice e)=>do
   let z<-CA P e
   let ps<-DB parts.toList
   if 0<P.cellsOf e/\(cells z).length=P.cellsOf e/\len*P.cellsOf e<=16777216 then some (.bldS (P.cellsOf e) e (nrm z) len ps)else none
  | _=>none
 | .load t a=>do
  if Cd P t then some (.ld (P.cellsOf t) true (<- Ao a))else if(P.underlying t).isSome then some (.ld 1 false (<- Ao a))else none
 | .store t a x=>do if 0<P.cellsOf t then some (.st (P.cellsOf t) (<- Ao a) (<- Ao x))else none
 | .nilCheck x=>do some (.nilck (<- Ao x))
 | .binOp op t x y _ =>
  match op,P.underlying t with
  | .eql,some .bool=>do some (.eqB false (<- Ao x) (<- Ao y))
  | .neq,some .bool=>do some (.eqB true (<- Ao x) (<- Ao y))
  | .eql,_ =>
   match DJ P t with
   | some n=>do some (.eqA n false (<- Ao x) (<- Ao y))
   | none=>do some (.bin op (<- Ao x) (<- Ao y))
  | .neq,_ =>
   match DJ P t with
   | some n=>do some (.eqA n true (<- Ao x) (<- Ao y))
   | none=>do some (.bin op (<- Ao x) (<- Ao y))
  | _,_=>do some (.bin op (<- Ao x) (<- Ao y))
 | .unOp op _ x=>do some (.un op (<- Ao x))
 | .convert src dst x =>
  match P.underlying dst with
  | some (.int k)=>do if(P.underlying src).isSome then some (.cvt k (<- Ao x))else none
  | _=>some .fail
 | .makeSlice t l c =>
  match P.underlying t with
  | some (.slice e)=>do
   let z<-CA P e
   if 0<P.cellsOf e/\(cells z).length=P.cellsOf e then some (.mkS (P.cellsOf e) e (P.bytesOf e) (Fa z) (<- Ao l) (<- Ao c))else none
  | _=>none
 | .slice t x lo hi none =>
  match P.underlying t with
  | some (.slice e)=>do if(P.info? e).isSome/\0<P.cellsOf e then some (.slc (P.cellsOf e) (<- Ao x) (<- Ei lo) (<- Ei hi))else none
  | some .string=>do some (.slc 0 (<- Ao x) (<- Ei lo) (<- Ei hi))
  | _=>none
 | .fieldAddr s x f =>
  match P.underlying s with
  | some (.struct fs)=>do
   let f<-fs[f]?
   if 0<P.cellsOf f.type then some (.fldA f.offset (<- Ao x))else none
  | _=>none
 | .field s x f =>
  match P.underlying s with
  | some (.struct fs)=>do
   let f<-fs[f]?
   if Cd P f.type then some (.fld f.offset (P.cellsOf f.type) true (<- Ao x))else if(P.underlying f.type).isSome then some (.fld f.offset 1 false (<- Ao x))else none
  | _=>none
 | .indexAddr t x i =>
  match x with
  | .global g=>JN P t g i
  | _=>JM P t x i
 | .index t x i =>
  match P.underlying t with
  | some (.array n e)=>do if(P.info? e).isSome/\(P.underlying e).isSome then(if Cd P e then do some (.ix (P.cellsOf e) n true (<- Ao x) (<- Ao i))else if P.cellsOf e=1 then do some (.ix 1 n false (<- Ao x) (<- Ao i))else none)else none
  | _=>none
 | .extract x i=>do some (.ext (<- Ao x) i)
 | .call c=>Iw P c
 | .makeFunc fn first caps =>
  match fn with
  | .func f=>if f<4096 then(if first.size=0 then do some (.mkf f (<- Ch caps.toList))else if caps.size=0 then do some (.mkf (4096+f) (<- Ch first.toList))else none)else none
  | _=>none
 | _=>some .fail
def Cu (N:Nat) (dst:Option Nat) (op:DOp):Bool :=
 match dst with
 | some d=>(match op with| .st ..=>false|_=>decide (d<N)&&aAO d 4096)
 | none=>(match op with| .st .. | .call .. | .fail=>true|_=>false)
def Fj (ops:Array Oper):Option (Nat×Bool)->Option (Option (Nat×Bool))
 | none=>some none
 | some (j,want)=>(ops[j]?).bind λo=>o.dst.bind λt=>some (some (t,want))
def AA (draw:Bool) (o:Oper):List Nat:=if draw then(o.after.toList.filter (Region.binds .any)).map (·.on)else[]
def Cr (N:Nat) (ops:Array Oper) (draw:Bool) (i:Nat) (o:Oper):Option Ar :=
 (cOp P o.type o.op).bind λop=>(Fj ops o.guard).bind λg =>
  if Cu N o.dst op&&(AA draw o).all (· <i)then some ⟨o.dst,op,g,AA draw o⟩else none
def Bu (N:Nat) (ops:Array Oper) (draw:Bool):Nat->List Oper->Option (List Ar)
 | _,[]=>some []
 | i,o::r=>do
  let o'<-Cr P N ops draw i o
  let r'<-Bu N ops draw (i+1) r
  some (o'::r')
def DE (init:Array Oper):Nat->List Nat->Bool
 | 0,_=>true
 | j+1,A=>A.contains j&&DE init j (A++((init[j]?).map (AA true)).getD [])
def Nb (f:Nat):Bool:=match P.funcs[f]? with|some fn=>fn.name == "(*strings.Builder).WriteString" | none=>false
def Js (l:Oper):Bool:=match l.op with| .call c=>(match c.callee with| .value (.func f)=>Nb P f|_=>false)|_=>false
def EB (N:Nat) (ops:Array Oper):Option (List Ar×Ar) :=
 match ops.back? with
 | none=>none
 | some l =>
  match Js P l with
  | false=>none
  | true=>(Cr P N ops false ops.pop.size l).bind λdl =>
   if(ops.toList.all λo=>o.guard.isNone)&&DE ops.pop ops.pop.size (AA true l)&&(AA true l).all (· <ops.pop.size)then(Bu P N ops.pop true 0 ops.pop.toList).map λds=>(ds,dl)else none
def Pp (N:Nat):Code->Option OX
 | .skip=>some .skip
 | .region _ ops draw=>do
  if draw&& !P.follows .mixedOrders then none else
   match (if draw then EB P N ops else none)with
   | some (ds,dl)=>some (.seq (.reg ds true) (.reg [dl] false))
   | none=>do some (.reg (<- Bu P N ops draw 0 ops.toList) draw)
 | .seq a b=>do some (.seq (<- Pp N a) (<- Pp N b))
 | .cond c a b=>do some (.cond (<- Ao c) (<- Pp N a) (<- Pp N b))
 | .block id b=>do some (.block id (<- Pp N b))
 | .loop b=>do some (.loop (<- Pp N b))
 | .exit id=>some (.exit id)
 | .ret=>some .ret
 | .scope b=>Pp N b
 | .label _=>some .skip
 | _=>none
end
abbrev Fz:=Nat->Nat->Option Value
variable {F F':Fz}
structure Loc where
 b:Option Nat
 cap:Nat
 s:Nat
variable {L:Loc}
abbrev Bt:=Nat->Option Loc
variable {β β':Bt}
def fnV (f:Nat) (vs:List Value):Value:=bif aAO f 4096 then .func (.func f) #[] vs.toArray else .func (.func (f-4096)) vs.toArray #[]
theorem Fq (h:aAO f 4096=true):fnV f vs= .func (.func f) #[] vs.toArray:=by simp[fnV,h]
theorem HR (q:Nat) (vs:List Value):fnV (4096+q) vs= .func (.func q) vs.toArray #[]:=by
 have h:aAO (4096+q) 4096=false:=by
  grind [aAu]
 simp_all[fnV]
theorem HS (f:Nat) (vs:List Value):(fnV f vs).oneCell'=true:=by
 unfold fnV;cases aAO f 4096<;>rfl
theorem FZ (f:Nat) (vs:List Value):(fnV f vs).cells= #[fnV f vs]:=by
 unfold fnV;cases aAO f 4096<;>rfl
inductive Fro (F:Fz):D->Value->Prop
 | top (v:Value):Fro F .top v
 | row (s ty:Nat) (es:List D) (v:Value):Fro F (.row s ty es) v
 | hole (nm u n:Nat) (v:Value):Fro F (.hole nm u n) v
 | int (k:IntKind) (n:Int):Fro F (.int k n) (.int k n)
 | bool (b:Bool):Fro F (.bool b) (.bool b)
 | str (s:List UInt8):Fro F (.str s) (.string ⟨s.toArray⟩)
 | nils:Fro F .nils (.slice none 0 0)
 | nilf:Fro F .nilf .nilFunc
 | nilp:Fro F .nilp (.pointer none)
 | agg (cs:List D) (vs:List Value) (hl:cs.length=vs.length) (h1:∀ v∈vs,v.oneCell'=true)
   (h:∀ (j:Nat) c v,cs[j]? =some c->vs[j]? =some v->Fro F c v):Fro F (.agg cs) (.agg vs.toArray)
 | sl0 (a:Option Addr) (c:Nat):Fro F (.sl []) (.slice a 0 c)
 | sl (es:List D) (b o c s:Nat) (vf:Nat->Nat->Value) (hc:es.length<=c) (hs:∀ e∈es,(cells e).length=s)
   (hF:∀ (i j:Nat) e d,es[i]? =some e->(cells e)[j]? =some d->F b (o+i*s+j)=some (vf i j))
   (h1:∀ (i j:Nat) e d,es[i]? =some e->(cells e)[j]? =some d->(vf i j).oneCell'=true)
   (h:∀ (i j:Nat) e d,es[i]? =some e->(cells e)[j]? =some d->Fro F d (vf i j)):Fro F (.sl es) (.slice (some ⟨b,o,none⟩) es.length c)
 | fptr (e:D) (b o off:Nat) (vf:Nat->Value)
   (hF:∀ (j:Nat) d,(cells e)[j]? =some d->F b (o+j)=some (vf j))
   (h1:∀ (j:Nat) d,(cells e)[j]? =some d->(vf j).oneCell'=true)
   (h:∀ (j:Nat) d,(cells e)[j]? =some d->Fro F d (vf j)):Fro F (.fptr e off) (.pointer (some ⟨b,o+off,none⟩))
 | clo (f:Nat) (cs:List D) (vs:List Value) (hl:cs.length=vs.length)
   (h:∀ (j:Nat) c v,cs[j]? =some c->vs[j]? =some v->Fro F c v):Fro F (.clo f cs) (fnV f vs)
 | tup (cs:List D) (vs:List Value) (hl:cs.length=vs.length)
   (h:∀ (j:Nat) c v,cs[j]? =some c->vs[j]? =some v->Fro F c v):Fro F (.tup cs) (.tuple vs.toArray)
def NX (F F':Fz):Prop:=∀ b i x,F b i=some x->F' b i=some x
theorem NX.refl (F:Fz):NX F F:=λ_ _ _ h=>h
theorem NX.trans {F'':Fz} (h:NX F F') (h':NX F' F''):NX F F'':=λb i x hx=>h' _ _ _ (h b i x hx)
def Aw (β β':Bt):Prop:=∀ v L,β v=some L->β' v=some L
theorem Aw.refl (β:Bt):Aw β β:=λ_ _ h=>h
theorem Aw.trans {F F' F'':Bt} (h:Aw F F') (h':Aw F' F''):Aw F F'':=λb i hx=>h' _ _ (h b i hx)
theorem Fro.mono (hF:NX F F') (h:Fro F d v):Fro F' d v:=by
 induction h with
 | top v=>exact .top v
 | row s ty es v=>exact .row s ty es v
 | hole nm u n v=>exact .hole nm u n v
 | int k n=>exact .int k n
 | bool b=>exact .bool b
 | str s=>exact .str s
 | nils=>exact .nils
 | nilf=>exact .nilf
 | nilp=>exact .nilp
 | agg cs vs hl h1 _ ih=>exact .agg cs vs hl h1 ih
 | sl0 a c=>exact .sl0 a c
 | sl es b o c s vf hc hs hF' h1 _ ih=>exact .sl es b o c s vf hc hs (λi j e d h h'=>hF _ _ _ (hF' i j e d h h')) h1 ih
 | fptr e b o off vf hF' h1 _ ih=>exact .fptr e b o off vf (λj d h=>hF _ _ _ (hF' j d h)) h1 ih
 | clo f cs vs hl _ ih=>exact .clo f cs vs hl ih
 | tup cs vs hl _ ih=>exact .tup cs vs hl ih
theorem Fro.nrm (h:Fro F d v):Fro F (nrm d) v:=by
 induction h with
 | top v=>exact .top v
 | row s ty es v=>exact .row s ty es v
 | hole nm u n v=>exact .hole nm u n v
 | int k n=>exact .int k n
 | bool b=>exact .bool b
 | str s=>exact .str s
 | nils=>exact .sl0 _ _
 | nilf=>exact .nilf
 | nilp=>exact .nilp
 | agg cs vs hl h1 _ ih =>
  simp only[Dw.nrm];refine .agg _ vs (by grind [BF]) h1 λj c v hc hv=>?_
  grind [BF]
 | sl0 a c=>simp only[Dw.nrm,Dd];exact .sl0 a c
 | sl es b o c s vf hc hs hF h1 _ ih =>
  have key:∀ (i j:Nat) e d,(Dd es)[i]? =some e->(cells e)[j]? =some d->∃ e' d',es[i]? =some e'/\(cells e')[j]? =some d'/\Dw.nrm d'=d:=by
   grind [BF,Cl]
  have hl:(Dd es).length=es.length:=by simp[BF]
  simp only[Dw.nrm];rw[<- hl];refine .sl (Dd es) b o c s vf (by omega) (λe he=>?_) (λi j e d he hd=>?_) (λi j e d he hd=>?_) λi j e d he hd=>?_
  ·grind [BF,Cl]
  all_goals grind
 | fptr e b o off vf hF h1 h _=>exact .fptr e b o off vf hF h1 h
 | clo f cs vs hl h _=>exact .clo f cs vs hl h
 | tup cs vs hl h _=>exact .tup cs vs hl h
def Ref (F:Fz) (β:Bt):D->Value->Prop
 | .osl _ v i n,x=>∃ L a,β v=some L/\x= .slice a n (L.cap-i)/\i+n<=L.cap/\(i=0->a=L.b.map λb=>⟨b,0,none⟩)/\(0<n->∃ b,L.b=some b/\a=some ⟨b,i*L.s,none⟩)
 | .optr _ v i off,x=>∃ L b,β v=some L/\L.b=some b/\x= .pointer (some ⟨b,i*L.s+off,none⟩)
 | d,x=>Fro F d x
def Cel (F:Fz) (β:Bt):D->Value->Prop
 | .clo f caps,x=>∃ vs:List Value,x=fnV f vs/\caps.length=vs.length/\∀ (j:Nat) c v,caps[j]? =some c->vs[j]? =some v->Ref F β c v
 | d,x=>Ref F β d x
def Val (F:Fz) (β:Bt):D->Value->Prop
 | .agg cs,x=>∃ vs:List Value,x= .agg vs.toArray/\cs.length=vs.length/\(∀ v∈vs,v.oneCell'=true)/\∀ (j:Nat) c v,cs[j]? =some c->vs[j]? =some v->Cel F β c v
 | .tup cs,x=>∃ vs:List Value,x= .tuple vs.toArray/\cs.length=vs.length/\∀ (j:Nat) c v,cs[j]? =some c->vs[j]? =some v->Cel F β c v
 | d,x=>Cel F β d x
def Env (F:Fz) (β:Bt):D->Value->Prop
 | .when p d,x=>(p=true->Val F β d x)/\(p=false->x=undef)
 | d,x=>Val F β d x
section mono
variable {F F':Fz} {β β':Bt}
theorem Ref.Af (h:Fro F d x):Ref F β d x:=by cases d<;>first|exact h|cases h
theorem Cel.BZ (h:Ref F β d x):Cel F β d x:=by
 cases d<;>try exact h
 cases h with
 | clo f cs vs hl h=>exact⟨vs,rfl,hl,λj c v hc hv=>Ref.Af (h j c v hc hv)⟩
theorem Cel.Af (h:Fro F d x):Cel F β d x:=Cel.BZ (Ref.Af h)
theorem Val.Am (h:Cel F β d x):Val F β d x:=by
 cases d<;>try exact h
 ·cases h with
  | agg cs vs hl h1 h=>exact⟨vs,rfl,hl,h1,λj c v hc hv=>Cel.Af (h j c v hc hv)⟩
 ·cases h with
  | tup cs vs hl h=>exact⟨vs,rfl,hl,λj c v hc hv=>Cel.Af (h j c v hc hv)⟩
theorem Val.Af (h:Fro F d x):Val F β d x:=Val.Am (Cel.Af h)
theorem Env.Ai (h:Val F β d x):Env F β d x:=by
 cases d<;>try exact h
 cases h
theorem Env.Af (h:Fro F d x):Env F β d x:=Env.Ai (Val.Af h)
theorem Ref.mono (hF:NX F F') (hB:Aw β β') (h:Ref F β d x):Ref F' β' d x:=by
 cases d<;>try exact Fro.mono hF h
 ·obtain⟨L,a,hL,r⟩:=h;exact⟨L,a,hB _ _ hL,r⟩
 ·obtain⟨L,b,hL,r⟩:=h;exact⟨L,b,hB _ _ hL,r⟩
theorem Cel.mono (hF:NX F F') (hB:Aw β β') (h:Cel F β d x):Cel F' β' d x:=by
 cases d<;>try (simp only[Cel]at h ⊢;exact Ref.mono hF hB h)
 obtain⟨vs,r,hl,h⟩:=h;exact⟨vs,r,hl,λj c v hc hv=>(h j c v hc hv).mono hF hB⟩
theorem Val.mono (hF:NX F F') (hB:Aw β β') (h:Val F β d x):Val F' β' d x:=by
 cases d<;>try (simp only[Val]at h ⊢;exact Cel.mono hF hB h)
 ·obtain⟨vs,r,hl,h1,h⟩:=h;exact⟨vs,r,hl,h1,λj c v hc hv=>(h j c v hc hv).mono hF hB⟩
 ·obtain⟨vs,r,hl,h⟩:=h;exact⟨vs,r,hl,λj c v hc hv=>(h j c v hc hv).mono hF hB⟩
theorem Env.mono (hF:NX F F') (hB:Aw β β') (h:Env F β d x):Env F' β' d x:=by
 cases d<;>try (simp only[Env]at h ⊢;exact Val.mono hF hB h)
 exact⟨λhp=>Val.mono hF hB (h.1 hp),h.2⟩
theorem Env.top (x:Value):Env F β .top x:=Env.Af (.top x)
theorem Env.strip (h:Env F β d x) (hp:(strip d).1=true):Val F β (Dw.strip d).2 x:=by
 cases d<;>first|exact h|exact h.1 hp
end mono
def Au (F:Fz) (β:Bt) (w:World) (L:Loc) (o:Own):Prop :=
 L.s=o.s/\0<o.s/\o.es.length<=L.cap/\L.cap<=(if o.var then 1 else maxLen)/\(∀ e∈o.es,(cells e).length=o.s) /\
 match L.b with
 | none=>L.cap=0/\o.var=false
 | some b=>∃ C:Array Value,w.heap[b]? =some (.cells C o.ty (0,0))/\C.size=L.cap*o.s /\
   ∀ (i j:Nat) e d,o.es[i]? =some e->(cells e)[j]? =some d->∃ x,C[i*o.s+j]? =some x/\x.oneCell'=true/\(if o.var then Cel F β d x else Fro F d x)
def IZ (F:Fz) (L:Loc) (o:Own):Prop :=
 o.var=false/\L.s=o.s/\0<o.s/\o.es.length<=L.cap/\(∀ e∈o.es,(cells e).length=o.s) /\
 match L.b with
 | none=>o.es=[]
 | some b=>∀ (i j:Nat) e d,o.es[i]? =some e->(cells e)[j]? =some d->∃ x,F b (i*o.s+j)=some x/\x.oneCell'=true/\Fro F d x
def CT (F:Fz) (L:Loc) (o:Own):Prop:=(L.b=none/\(L.cap=o.ty/\o.ty<=2)/\o.var=false/\o.s=0)\/IZ F L o
theorem CT.old {b:Nat} (h:CT F L o) (hb:L.b=some b):IZ F L o:=h.resolve_left λhm=>by simp_all
theorem CT.var (h:CT F L o):o.var=false:=h.elim (λh=>h.2.2.1) λh=>h.1
theorem Au.keep {w:World} (hF:NX F F') (hB:Aw β β') (hw:∀ b,L.b=some b->w'.heap[b]? =w.heap[b]?) (h:Au F β w L o):Au F' β' w' L o:=by
 obtain⟨h1,h2,h3,h4,h5,h6⟩:=h;refine⟨h1,h2,h3,h4,h5,?_⟩;cases hb:L.b with
 | none=>simp_all
 | some b =>
  rw[hb]at h6;obtain⟨C,hC,hsz,hx⟩:=h6;refine⟨C,(hw b hb).trans hC,hsz,λi j e d he hd=>?_⟩
  obtain⟨x,hx1,hx2,hx3⟩:=hx i j e d he hd;refine⟨x,hx1,hx2,?_⟩;split
  ·rename_i hv;rw[if_pos hv]at hx3;exact hx3.mono hF hB
  ·rename_i hv;rw[if_neg hv]at hx3;exact hx3.mono hF
theorem CT.mono (hF:NX F F') (h:CT F L o):CT F' L o:=by
 rcases h with h|⟨h0,h1,h2,h3,h4,h5⟩
 ·exact .inl h
 refine .inr ⟨h0,h1,h2,h3,h4,?_⟩;cases hb:L.b with
 | none=>simp_all
 | some b =>
  rw[hb]at h5;intro i j e d he hd;obtain⟨x,hx1,hx2,hx3⟩:=h5 i j e d he hd;exact⟨x,hF _ _ _ hx1,hx2,hx3.mono hF⟩
def Fok (F:Fz) (w:World):Prop:=∀ b i x,F b i=some x->w.cell? ⟨b,i,none⟩=some x
structure Stp (M:Nat->Prop) (w:World) (F:Fz) (w':World) (F':Fz):Prop where
 os:w'.os=w.os
 tape:w'.tape=w.tape
 output:w'.output=w.output
 size:w.heap.size<=w'.heap.size
 block:∀ b,b<w.heap.size->¬ M b->w'.heap[b]? =w.heap[b]?
 sub:NX F F'
 old:∀ b i,b<w.heap.size->¬ M b->F' b i=F b i
theorem Stp.refl (M:Nat->Prop) (w:World) (F:Fz):Stp M w F w F:=⟨rfl,rfl,rfl,aAI _,λ_ _ _=>rfl,NX.refl F,λ_ _ _ _=>rfl⟩
theorem Stp.trans {M:Nat->Prop} {_B0:Bt} {w w'':World} {F'':Fz} (h:Stp M w F w' F') (k:Stp M w' F' w'' F''):Stp M w F w'' F'' :=
 ⟨k.os.trans h.os,k.tape.trans h.tape,k.output.trans h.output,aAS h.size k.size,λb hb hM=>(k.block b (aAD hb h.size) hM).trans (h.block b hb hM),
  h.sub.trans k.sub,λb i hb hM=>(k.old b i (aAD hb h.size) hM).trans (h.old b i hb hM)⟩
inductive Bd (F:Fz) (w:World):(Nat->Prop)->Nat->Nat->List D->Value->Prop
 | nil (φ:Nat->Prop) (s ty:Nat) (hs:0<s):Bd F w φ s ty [] (.slice none 0 0)
 | row (φ:Nat->Prop) (s ty:Nat) (es:List D) (b cap:Nat) (C:Array Value) (fp:Nat->Nat->Nat->Prop) (xf:Nat->Nat->Value) (hs:0<s) (hc:es.length<=cap) (hm:cap<=maxLen) (hl:∀ e∈es,(cells e).length=s)
   (hC:w.heap[b]? =some (.cells C ty (0,0))) (hCs:C.size=cap*s) (hb:φ b)
   (hx:∀ (i j:Nat) e d,es[i]? =some e->(cells e)[j]? =some d->C[i*s+j]? =some (xf i j)/\(xf i j).oneCell'=true/\Fro F d (xf i j))
   (hr:∀ (i j:Nat) e s' ty' es',es[i]? =some e->(cells e)[j]? =some (.row s' ty' es')->Bd F w (fp i j) s' ty' es' (xf i j))
   (hh:∀ (i j:Nat) e nm u n,es[i]? =some e->(cells e)[j]? ≠some (.hole nm u n))
   (hfp:∀ i j b',fp i j b'->φ b'/\b'≠b) (hd:∀ i j i' j' b',fp i j b'->fp i' j' b'->i=i'/\j=j'):Bd F w φ s ty es (.slice (some ⟨b,0,none⟩) es.length cap)
theorem Bd.keep {w:World} (hF:NX F F') {φ ψ:Nat->Prop} {ty:Nat} (h:Bd F w φ s ty es x) (hw:∀ b,φ b->w'.heap[b]? =w.heap[b]?) (hφ:∀ b,φ b->ψ b):Bd F' w' ψ s ty es x:=by
 induction h generalizing ψ with
 | nil φ s ty hs=>exact .nil _ s ty hs
 | row φ s ty es b cap C fp xf hs hc hm hl hC hCs hb hx hr hh hfp hd ih =>
  refine .row _ s ty es b cap C fp xf hs hc hm hl ((hw b hb).trans hC) hCs (hφ b hb) (λi j e d he hd'=>?_) (λi j e s' ty' es' he hj=>?_) hh (λi j b' h=>⟨hφ _ (hfp i j b' h).1,(hfp i j b' h).2⟩) hd
  ·obtain⟨h1,h2,h3⟩:=hx i j e d he hd';exact⟨h1,h2,h3.mono hF⟩
  grind
structure Ay (F:Fz) (β:Bt) (n0:Nat) (M:Nat->Prop) (σ:S) (w:World) (φ:Nat->Nat->Nat->Nat->Prop):Prop where
 row:∀ g v o L b C (i j:Nat) e x s ty es,Ad g=true->σ.go g=some (v,o)->o.fz=false->β v=some L->L.b=some b->w.heap[b]? =some (.cells C o.ty (0,0))->o.es[i]? =some e->(cells e)[j]? =some (.row s ty es)->C[i*o.s+j]? =some x->Bd F w (φ g i j) s ty es x
 hole:∀ g v o L b C (i j:Nat) e x nm u n,Ad g=true->σ.go g=some (v,o)->o.fz=false->β v=some L->L.b=some b->w.heap[b]? =some (.cells C o.ty (0,0))->o.es[i]? =some e->(cells e)[j]? =some (.hole nm u n)->C[i*o.s+j]? =some x->Ref F β (.osl 0 u 0 n) x
 none_:∀ g i j b,φ g i j b->∀ k,F b k=none
 lt:∀ g i j b,φ g i j b->b<w.heap.size
 new:∀ g i j b,φ g i j b->n0<=b\/M b
 sep:∀ g i j b g' v' o' L',φ g i j b->σ.go g'=some (v',o')->o'.fz=false->β v'=some L'->L'.b≠some b
 dis:∀ g i j g' i' j' b,φ g i j b->φ g' i' j' b->g=g'/\i=i'/\j=j'
structure Sim (N:Nat) (Δ:List Deferred) (w0:World) (F0:Fz) (M:Nat->Prop) (B0:Bt) (σ:S) (F:Fz) (β:Bt) (a:Act) (w:World):Prop where
 size:a.tmps.size=N
 defers:a.defers=Δ
 env:∀ t,Env F β (σ.ge t) (a.tmps.getD t undef)
 own:∀ g v o,σ.go g=some (v,o)->∃ L,β v=some L/\(o.fz=true->CT F L o)/\(o.fz=false->Au F β w L o)
 dist:∀ g g' v v' o o' L L' b,σ.go g=some (v,o)->σ.go g'=some (v',o')->o.fz=false->o'.fz=false->β v=some L->β v'=some L'->L.b=some b->L'.b=some b->g=g'
 sep:∀ g v o L b,σ.go g=some (v,o)->o.fz=false->β v=some L->L.b=some b->(∀ i,F b i=none)/\b<w.heap.size/\(w0.heap.size<=b\/(M b/\(Ad g=true\/w0.drawn<=b)))
 Ad:∃ φ,Ay F β w0.heap.size M σ w φ
 frz:Fok F w
 fin:∀ b i x,F b i=some x->b<w.heap.size
 step:Stp M w0 F0 w F
 nam:Aw B0 β
theorem Ay.keep {n0:Nat} {M:Nat->Prop} {σ σ':S} {w:World} (h:Ay F β n0 M σ w φ) (hF:NX F F') (hβ:Aw β β') (hsz:w.heap.size<=w'.heap.size) (hFφ:∀ g i j b,φ g i j b->∀ k,F' b k=F b k) (hwφ:∀ g i j b,φ g i j b->w'.heap[b]? =w.heap[b]?) (hown:∀ g v o,σ.go g=some (v,o)->∃ L,β v=some L) (hrich:∀ g v o,Ad g=true->σ'.go g=some (v,o)->o.fz=false->(∃ o1,σ.go g=some (v,o1)/\o1.fz=false/\o1.ty=o.ty/\o1.s=o.s /\
    ∀ (i j:Nat) e c,o.es[i]? =some e->(cells e)[j]? =some c->plain c=false->(∃ e1,o1.es[i]? =some e1/\(cells e1)[j]? =some c)/\∀ L b C' x,β v=some L->L.b=some b->w'.heap[b]? =some (.cells C' o.ty (0,0))->C'[i*o.s+j]? =some x->∃ C,w.heap[b]? =some (.cells C o.ty (0,0))/\C[i*o.s+j]? =some x)\/(∀ e∈o.es,AO e=true)) (hsep:∀ g i j b g' v' o' L',φ g i j b->σ'.go g'=some (v',o')->o'.fz=false->β' v'=some L'->L'.b≠some b):Ay F' β' n0 M σ' w' φ:=by
 have pl:∀ (es:List D) (i j:Nat) e c,(∀ e∈es,AO e=true)->es[i]? =some e->(cells e)[j]? =some c->plain c=true:=by
  intro es i j e c h1 he hj;exact aAZ.1 (h1 e (aAA he)) c (aAA hj)
 refine⟨?_,?_,λg i j b hb k=>(hFφ g i j b hb k).trans (h.none_ g i j b hb k),λg i j b hb=>aAD (h.lt g i j b hb) hsz,h.new,hsep,h.dis⟩
 ·intro g v o L b C' i j e x s ty es hr hg hf hL hb hC he hj hx;rcases hrich g v o hr hg hf with⟨o1,k1,k2,k3,k4,k5⟩|k
  ·obtain⟨⟨e1,q1,q2⟩,q3⟩:=k5 i j e _ he hj rfl;obtain⟨L1,hL1⟩:=hown g v o1 k1;have:=hβ _ _ hL1;rw[hL]at this;cases this;obtain⟨C,z1,z2⟩:=q3 L b C' x hL1 hb hC hx;exact(h.row g v o1 L b C i j e1 x s ty es hr k1 k2 hL1 hb (by rw[k3];exact z1) q1 q2 (by rw[k4];exact z2)).keep hF (hwφ g i j) (λ_ h=>h)
  ·have:=pl _ i j e _ k he hj;cases this
 ·intro g v o L b C' i j e x nm u n hr hg hf hL hb hC he hj hx;rcases hrich g v o hr hg hf with⟨o1,k1,k2,k3,k4,k5⟩|k
  ·obtain⟨⟨e1,q1,q2⟩,q3⟩:=k5 i j e _ he hj rfl;obtain⟨L1,hL1⟩:=hown g v o1 k1;have:=hβ _ _ hL1;rw[hL]at this;cases this;obtain⟨C,z1,z2⟩:=q3 L b C' x hL1 hb hC hx;exact(h.hole g v o1 L b C i j e1 x _ u n hr k1 k2 hL1 hb (by simp_all) q1 q2 (by rw[k4];exact z2)).mono hF hβ
  ·have:=pl _ i j e _ k he hj;cases this
theorem Ay.congr {n0:Nat} {M:Nat->Prop} {σ σ':S} {w:World} (h:Ay F β n0 M σ w φ) (hg:∀ g,σ'.go g=σ.go g):Ay F β n0 M σ' w φ :=
 ⟨λg v o L b C i j e x s ty es hr h1=>h.row g v o L b C i j e x s ty es hr ((hg g).symm.trans h1),λg v o L b C i j e x nm u n hr h1=>h.hole g v o L b C i j e x nm u n hr ((hg g).symm.trans h1),h.none_,h.lt,h.new,
  λg i j b g' v' o' L' hb h1=>h.sep g i j b g' v' o' L' hb ((hg g').symm.trans h1),h.dis⟩
theorem Bq (l r:List (Nat×α)) (t:Nat):look (l++r) t=(look l t).or (look r t):=by
 induction l with
 | nil=>simp[look]
 | cons p l ih =>
  grind [look]
theorem Bj {l:List (Nat×α)} {t:Nat} {x:α} (h:look l t=some x):(t,x)∈l:=by
 induction l with
 | nil=>grind [look]
 | cons p l ih =>
  grind [look]
theorem En {l:List (Nat×α)} {t:Nat} (h:look l t=none):∀ x,(t,x)∉l:=by
 induction l with
 | nil=>simp_all
 | cons p l ih =>
  grind [look]
theorem Aj.nil (σ:S):Aj σ []:=λ_ h=>by cases h
theorem Aj.append {σ:S} {a b:List (Nat×Aa)} (ha:Aj σ a) (hb:Aj σ b):Aj σ (a++b):=λp hp=>(aAb.1 hp).elim (ha p) (hb p)
theorem Aj.go {σ:S} (h:Aj σ ws) (g:Nat) :
  (∃ v o,σ.go g=some (v,o)/\o.var=false/\(g,some (v,{ o with fz:=true }))∈ws/\(S.mk σ.e (ws++σ.o) σ.n).go g=some (v,{ o with fz:=true })) \/
  ((∀ x,(g,x)∉ws)/\(S.mk σ.e (ws++σ.o) σ.n).go g=σ.go g):=by
 simp only[S.go,Bq];cases hl:look ws g with
 | none=>grind [En]
 | some x =>
  obtain⟨v,o,h1,h2,h3⟩:=h _ (Bj hl);refine .inl ⟨v,o,h1,h2,?_,?_⟩
  all_goals grind [Bj]
section
variable {N:Nat} {Δ:List Deferred} {w0:World} {F0:Fz} {M:Nat->Prop} {B0:Bt} {σ:S} {F:Fz} {β:Bt} {a:Act} {w:World}
open Classical in
theorem Sim.freeze (h:Sim N Δ w0 F0 M B0 σ F β a w) (hw:Aj σ ws):∃ F',NX F F'/\Sim N Δ w0 F0 M B0 ⟨σ.e,ws++σ.o,σ.n⟩ F' β a w/\∀ φ,Ay F β w0.heap.size M σ w φ->Ay F' β w0.heap.size M ⟨σ.e,ws++σ.o,σ.n⟩ w φ:=by
 let G:Nat->Prop:=λb=>∃ g v o L,σ.go g=some (v,o)/\o.var=false/\o.fz=false/\β v=some L/\L.b=some b/\∃ x,(g,x)∈ws
 let F':Fz:=λb i=>if G b then w.cell? ⟨b,i,none⟩else F b i
 have hsub:NX F F':=by
  intro b i x hx;show(if G b then w.cell? ⟨b,i,none⟩else F b i)=some x
  split
  ·exact h.frz b i x hx
  ·exact hx
 have hG:∀ b,G b->b<w.heap.size/\(w0.heap.size<=b\/M b):=by
  rintro b ⟨g,v,o,L,h1,h2,h3,h4,h5,_⟩;obtain⟨_,hb,hor⟩:=h.sep g v o L b h1 h3 h4 h5;exact⟨hb,hor.imp id And.left⟩
 have hrk:∀ φ,Ay F β w0.heap.size M σ w φ->Ay F' β w0.heap.size M ⟨σ.e,ws++σ.o,σ.n⟩ w φ:=by
  intro φ hφ;have hGφ:∀ g i j b,φ g i j b->¬ G b:=by
   rintro g i j b hb ⟨g',v',o',L',q1,q2,q3,q4,q5,_⟩;exact hφ.sep g i j b g' v' o' L' hb q1 q3 q4 q5
  have hback:∀ g v o,(S.mk σ.e (ws++σ.o) σ.n).go g=some (v,o)->o.fz=false->σ.go g=some (v,o):=by
   intro g v o hg hf;rcases hw.go g with⟨_,_,_,_,_,h4⟩|⟨h1,h2⟩
   ·rw[h4]at hg;cases hg;cases hf
   ·rw[<- h2];exact hg
  refine hφ.keep hsub (Aw.refl _) (aAI _) (λg i j b hb k=>?_) (λ_ _ _ _ _=>rfl) (λg v o hg=>?_) (λg v o hr hg hf=>.inl ⟨o,hback g v o hg hf,hf,rfl,rfl,λi j e c he hj _=>⟨⟨e,he,hj⟩,λL b C x _ _ hC hx=>⟨C,hC,hx⟩⟩⟩) (λg i j b g' v' o' L' hb hg hf=>hφ.sep g i j b g' v' o' L' hb (hback _ _ _ hg hf) hf)
  ·show(if G b then w.cell? ⟨b,k,none⟩else F b k)=F b k
   rw[if_neg (hGφ g i j b hb)]
  ·obtain⟨L,hL,_⟩:=h.own g v o hg;exact⟨L,hL⟩
 refine⟨F',hsub,?_,hrk⟩;refine{ nam:=h.nam,size:=h.size,defers:=h.defers,env:=λt=>(h.env t).mono hsub (Aw.refl _),own:=?_,dist:=?_,sep:=?_,Ad:=?_,frz:=?_,fin:=?_,step:=?_ }
 ·intro g v o hg;rcases hw.go g with⟨v',o',h1,h2,h3,h4⟩|⟨h1,h2⟩
  ·rw[h4]at hg;cases hg;obtain⟨L,hL,hz,hk⟩:=h.own g _ _ h1;refine⟨L,hL,λ_=>?_,λhf=>by cases hf⟩
   cases hfz:o'.fz with
   | true=>exact(hz hfz).mono hsub
   | false =>
    obtain⟨k1,k2,k3,k4,k5,k6⟩:=hk hfz;refine .inr ⟨h2,k1,k2,k3,k5,?_⟩;cases hb:L.b with
    | none =>
     rw[hb]at k6;have:o'.es.length=0:=by omega
     exact aAH this
    | some b =>
     rw[hb]at k6;obtain⟨C,hC,_,hx⟩:=k6;intro i j e d he hd;obtain⟨x,hx1,hx2,hx3⟩:=hx i j e d he hd;have hGb:G b:=⟨g,_,_,L,h1,h2,hfz,hL,hb,_,h3⟩;refine⟨x,?_,hx2,?_⟩
     ·show(if G b then w.cell? ⟨b,_,none⟩else F b _)=some x
      rw[if_pos hGb];simp[aAq,hC,hx1]
     ·rw[h2]at hx3;exact Fro.mono hsub hx3
  ·rw[h2]at hg;obtain⟨L,hL,hz,hk⟩:=h.own g _ _ hg;exact⟨L,hL,λhf=>(hz hf).mono hsub,λhf=>(hk hf).keep hsub (Aw.refl _) (λ_ _=>rfl)⟩
 ·intro g g' v v' o o' L L' b hg hg' hf hf' hL hL' hb hb';rcases hw.go g with⟨_,_,_,_,_,h4⟩|⟨_,h2⟩
  ·rw[h4]at hg;cases hg;cases hf
  ·rcases hw.go g' with⟨_,_,_,_,_,h4'⟩|⟨_,h2'⟩
   ·rw[h4']at hg';cases hg';cases hf'
   ·rw[h2]at hg;rw[h2']at hg';exact h.dist g g' v v' o o' L L' b hg hg' hf hf' hL hL' hb hb'
 ·intro g v o L b hg hf hL hb;rcases hw.go g with⟨_,_,_,_,_,h4⟩|⟨h1,h2⟩
  ·rw[h4]at hg;cases hg;cases hf
  ·rw[h2]at hg;obtain⟨k1,k2,k3⟩:=h.sep g v o L b hg hf hL hb;refine⟨λi=>?_,k2,k3⟩
   show(if G b then w.cell? ⟨b,i,none⟩else F b i)=none
   rw[if_neg]
   ·exact k1 i
   ·rintro⟨g',v',o',L',q1,q2,q3,q4,q5,x,q6⟩;have:=h.dist g g' v v' o o' L L' b hg q1 hf q3 hL q4 hb q5;subst this;exact h1 x q6
 ·obtain⟨φ,hφ⟩:=h.Ad;exact⟨φ,hrk φ hφ⟩
 ·intro b i x hx;change (if G b then w.cell? ⟨b,i,none⟩else F b i)=some x at hx
  split at hx
  ·exact hx
  ·exact h.frz b i x hx
 ·intro b i x hx;change (if G b then w.cell? ⟨b,i,none⟩else F b i)=some x at hx
  split at hx
  ·rename_i hb;exact(hG b hb).1
  ·exact h.fin b i x hx
 ·refine⟨h.step.os,h.step.tape,h.step.output,h.step.size,h.step.block,h.step.sub.trans hsub,λb i hb hM=>?_⟩
  rw[<- h.step.old b i hb hM];show(if G b then w.cell? ⟨b,i,none⟩else F b i)=F b i
  rw[if_neg];intro hGb;rcases(hG b hGb).2 with h2|h2
  ·omega
  ·exact hM h2
theorem EU (h:CT F L o) {i n c:Nat} {a:Option Addr} (hin:i+n<=o.es.length) (hc:i+n<=L.cap) (ha:0<n->∃ b,L.b=some b/\a=some ⟨b,i*L.s,none⟩) (hcc:n<=c):Fro F (.sl ((o.es.drop i).take n)) (.slice a n c):=by
 rcases aAk n with hn|hn
 ·subst hn;simp only[List.take_zero];exact .sl0 a c
 ·obtain⟨b,hb,rfl⟩:=ha hn;obtain⟨h0,h1,h2,h3,h4,h5⟩:=h.old hb;rw[hb]at h5;have hlen:((o.es.drop i).take n).length=n:=by simp;omega
  have hsub:∀ e∈(o.es.drop i).take n,e∈o.es:=λe he=>aAc (aAJ he)
  have hidx:∀ (k:Nat) e,((o.es.drop i).take n)[k]? =some e->o.es[i+k]? =some e:=by
   grind
  have key:∀ (k j:Nat) e d,((o.es.drop i).take n)[k]? =some e->(cells e)[j]? =some d->∃ x,F b ((i+k)*o.s+j)=some x/\x.oneCell'=true/\Fro F d x :=
   λk j e d he hd=>h5 (i+k) j e d (hidx k e he) hd
  have:=Fro.sl (F:=F) ((o.es.drop i).take n) b (i*L.s) c o.s (λk j=>(F b ((i+k)*o.s+j)).getD undef) (by omega) (λe he=>h4 e (hsub e he))
   (λk j e d he hd=>by
    grind)
   (λk j e d he hd=>by grind)
   (λk j e d he hd=>by grind)
  simp_all
theorem DM (_h:Sim N Δ w0 F0 M B0 σ F β a w) (d:D) (hx:Cel F β d x) (hc:((AE d).run σ).1) :
  Aj σ ((AE d).run σ).2.2/\∀ (ws:List (Nat×Aa)) F',Aj σ ws->(∀ p∈((AE d).run σ).2.2,p∈ws)->NX F F'->Sim N Δ w0 F0 M B0 ⟨σ.e,ws++σ.o,σ.n⟩ F' β a w->Fro F' ((AE d).run σ).2.1 x:=by
 cases d with
 | osl g v i n =>
  simp only[AE,R.run]at hc ⊢;cases hg:σ.go g with
  | none=>simp_all
  | some p =>
   obtain⟨v',o⟩:=p;rw[hg]at hc;simp only[R.run]at hc ⊢;obtain⟨rfl,hvar,hin⟩:=hc;refine⟨?_,?_⟩
   ·intro p hp
    grind
   ·intro ws F' hws hsub hF hS;obtain⟨L,a',hL,rfl,hcap,ha0,ha⟩:=hx;have hgo:(S.mk σ.e (ws++σ.o) σ.n).go g=some (v,{ o with fz:=true }):=by
     rcases hws.go g with⟨v2,o2,h1,_,_,h4⟩|⟨h1,_⟩
     all_goals simp_all
    obtain⟨L',hL',hz,_⟩:=hS.own g _ _ hgo;rw[hL]at hL';cases hL';exact EU (o:={ o with fz:=true }) (hz rfl) hin hcap ha (by omega)
 | optr=>exact hc.elim
 | when=>exact hc.elim
 | tup=>exact hc.elim
 | clo f caps =>
  refine⟨Aj.nil σ,λ_ F' _ _ hF _=>?_⟩
  obtain⟨vs,rfl,hl,hv⟩:=hx;have hc:caps.all OQ=true:=hc;refine .clo f caps vs hl λj c v hj hjv=>?_
  have h1:=aAZ.1 hc c (aAA hj);have h2:=hv j c v hj hjv;cases c<;>first|(cases h1;done)|exact Fro.mono hF h2
 | agg=>exact hc.elim
 | row s ty es=>exact⟨Aj.nil σ,λ_ _ _ _ _ _=>.row s ty es x⟩
 | hole nm u n=>exact⟨Aj.nil σ,λ_ _ _ _ _ _=>.hole nm u n x⟩
 | top=>exact⟨Aj.nil σ,λ_ _ _ _ _ _=>.top x⟩
 | int k n=>exact⟨Aj.nil σ,λ_ _ _ _ hF _=>Fro.mono hF hx⟩
 | bool b=>exact⟨Aj.nil σ,λ_ _ _ _ hF _=>Fro.mono hF hx⟩
 | str s=>exact⟨Aj.nil σ,λ_ _ _ _ hF _=>Fro.mono hF hx⟩
 | sl es=>exact⟨Aj.nil σ,λ_ _ _ _ hF _=>Fro.mono hF hx⟩
 | nils=>exact⟨Aj.nil σ,λ_ _ _ _ hF _=>by cases hx;exact .sl0 none 0⟩
 | fptr e o=>exact⟨Aj.nil σ,λ_ _ _ _ hF _=>Fro.mono hF hx⟩
 | nilf=>exact⟨Aj.nil σ,λ_ _ _ _ hF _=>Fro.mono hF hx⟩
 | nilp=>exact⟨Aj.nil σ,λ_ _ _ _ hF _=>Fro.mono hF hx⟩
theorem Ff (h:Sim N Δ w0 F0 M B0 σ F β a w):∀ (cs:List D) (vs:List Value),cs.length=vs.length->(∀ (j:Nat) c v,cs[j]? =some c->vs[j]? =some v->Cel F β c v)->((AU cs).run σ).1 ->
  Aj σ ((AU cs).run σ).2.2/\((AU cs).run σ).2.1.length=vs.length/\∀ (ws:List (Nat×Aa)) F',Aj σ ws->(∀ p∈((AU cs).run σ).2.2,p∈ws)->NX F F'->Sim N Δ w0 F0 M B0 ⟨σ.e,ws++σ.o,σ.n⟩ F' β a w ->
   ∀ (j:Nat) c v,((AU cs).run σ).2.1[j]? =some c->vs[j]? =some v->Fro F' c v
 | [],vs,hl,_,_=>by
  simp_all[Aj.nil,AU]
 | d::cs,[],hl,_,_=>by simp at hl
 | d::cs,v::vs,hl,hx,hc=>by
  simp only[AU,R.run_bind,R.run_pure]at hc ⊢;obtain⟨hc1,hc2⟩:=hc;obtain⟨f1,r1⟩:=DM h d (hx 0 d v rfl rfl) hc1;obtain⟨f2,l2,r2⟩:=Ff h cs vs (by simp_all) (λj c v hc hv=>hx (j+1) c v (by simp_all) (by simp_all)) hc2
  refine⟨f1.append f2,by simp[l2],λws F' hws hsub hF hS j c v' hc' hv'=>?_⟩
  grind
theorem He (σ:S):∀ {cs:List D},BL true cs=true->((AU cs).run σ).1/\((AU cs).run σ).2=(cs.map nzD,[])
 | [],_=>⟨trivial,rfl⟩
 | d::cs,h=>by
  have go:∀ (c:Prop) (d':D),((AE d).run σ)=(c,d',[])->c->nzD d=d'->BL true cs=true->((AU (d::cs)).run σ).1/\((AU (d::cs)).run σ).2=((d::cs).map nzD,[]):=by
   intro c d' h1 h2 h3 h4;obtain⟨q1,q2⟩:=He σ h4;simp_all[AU]
  cases d<;>first|exact go _ _ rfl trivial rfl h|(simp[BL]at h;done)|skip
theorem EF (σ:S) (cs:List D):∃ c:Prop,(c↔((AU cs).run σ).1)/\(res (.agg cs)).run σ=(c,.agg ((AU cs).run σ).2.1,((AU cs).run σ).2.2):=by
 have hp:res (.agg cs)=bif BL true cs then .ret (True,.agg (cs.map nzD),[])else(do
  let(c,cs',w)<-AU cs
  pure (c,.agg cs',w)):=rfl
 rw[hp];cases e:BL true cs
 ·exact⟨((AU cs).run σ).1,.rfl,by simp_all⟩
 ·obtain⟨q1,q2⟩:=He σ e;rw[q2];exact⟨True,⟨λ_=>q1,λ_=>trivial⟩,rfl⟩
theorem Es (h:Sim N Δ w0 F0 M B0 σ F β a w) (d:D) (hx:Val F β d x) (hc:((res d).run σ).1) :
  Aj σ ((res d).run σ).2.2/\∀ (ws:List (Nat×Aa)) F',Aj σ ws->(∀ p∈((res d).run σ).2.2,p∈ws)->NX F F'->Sim N Δ w0 F0 M B0 ⟨σ.e,ws++σ.o,σ.n⟩ F' β a w->Fro F' ((res d).run σ).2.1 x:=by
 cases d with
 | agg cs =>
  obtain⟨vs,rfl,hl,h1,hv⟩:=hx;obtain⟨c0,hc1,e⟩:=EF σ cs;simp only[e]at hc ⊢;obtain⟨f,l,r⟩:=Ff h cs vs hl hv (hc1.1 hc);exact⟨f,λws F' hws hsub hF hS=>.agg _ vs l h1 (λj c v hc' hv'=>r ws F' hws hsub hF hS j c v hc' hv')⟩
 | tup cs=>exact hc.elim
 | _=>simp only[Val]at hx;exact DM h _ hx hc
end
@[simp] theorem S.Na (σ:S) (c:Prop) (wo:List (Nat×Aa)) (t:Nat):(σ.app ⟨c,[],wo⟩).ge t=σ.ge t:=rfl
theorem S.Jm (σ:S) (c:Prop) (dst:Option Nat) (d:D) (wo:List (Nat×Aa)) (t:Nat) :
  (σ.app ⟨c,Ah dst d,wo⟩).ge t=if dst=some t then d else σ.ge t:=by
 cases dst with
 | none=>rfl
 | some k =>
  simp only[S.ge,S.app,Ah,aAa,look,Option.some.injEq]
  grind
theorem EZ (a:Act) (dst:Option Nat) (v:Value) (t:Nat):(a.put dst v).tmps.getD t undef=if dst=some t/\t<a.tmps.size then v else a.tmps.getD t undef:=by
 cases dst with
 | none=>simp[Act.put]
 | some k =>
  simp only[Act.put,Option.some.injEq]
  by_cases h:k=t
  all_goals simp_all
section
variable {N:Nat} {Δ:List Deferred} {w0:World} {F0:Fz} {M:Nat->Prop} {B0:Bt} {σ:S} {F:Fz} {β:Bt} {a:Act} {w:World}
theorem Sim.put (h:Sim N Δ w0 F0 M B0 σ F β a w) (hd:∀ t,dst=some t->t<N) (hv:Env F β d v) (hh:w'.heap=w.heap) (ho:w'.os=w.os) (ht:w'.tape=w.tape) (hu:w'.output=w.output) :
  Sim N Δ w0 F0 M B0 (σ.app ⟨c,Ah dst d,[]⟩) F β (a.put dst v) w':=by
 have hgo:∀ g,(σ.app ⟨c,Ah dst d,[]⟩).go g=σ.go g:=λg=>rfl
 refine{ nam:=h.nam,size:=?_,defers:=?_,env:=λt=>?_,own:=?_,dist:=?_,sep:=?_,Ad:=?_,frz:=?_,fin:=?_,step:=?_ }
 ·rw[<- h.size];cases dst<;>simp[Act.put]
 ·rw[<- h.defers];cases dst<;>simp[Act.put]
 ·rw[S.Jm,EZ]
  by_cases hdt:dst=some t
  ·rw[if_pos hdt,if_pos ⟨hdt,by rw[h.size];simp_all⟩]
   exact hv
  ·rw[if_neg hdt,if_neg (λe=>hdt e.1)]
   exact h.env t
 ·intro g v o hg;obtain⟨L,hL,hz,hk⟩:=h.own g v o hg;exact⟨L,hL,hz,λhf=>(hk hf).keep (NX.refl _) (Aw.refl _) (λb _=>by rw[hh])⟩
 ·exact h.dist
 ·intro g v o L b hg hf hL hb;rw[hh];exact h.sep g v o L b hg hf hL hb
 ·obtain⟨φ,hφ⟩:=h.Ad;refine⟨φ,hφ.keep (NX.refl _) (Aw.refl _) (by simp_all) (λ_ _ _ _ _ _=>rfl) (λ_ _ _ _ _=>by rw[hh]) (λg v o hg=>?_) (λg v o hr hg hf=>.inl ⟨o,hg,hf,rfl,rfl,λi j e c he hj _=>⟨⟨e,he,hj⟩,λL b C x _ _ hC hx=>⟨C,by simp_all,hx⟩⟩⟩) hφ.sep⟩
  obtain⟨L,hL,_⟩:=h.own g v o hg;simp_all
 ·intro b i x hx;have:=h.frz b i x hx
  grind [aAq]
 ·intro b i x hx;rw[hh];exact h.fin b i x hx
 ·refine⟨ho.trans h.step.os,ht.trans h.step.tape,hu.trans h.step.output,by rw[hh];exact h.step.size,λb hb hM=>by rw[hh];exact h.step.block b hb hM,h.step.sub,h.step.old⟩
def Snd (P:Program) (N:Nat) (Δ:List Deferred) (w0:World) (F0:Fz) (M:Nat->Prop) (B0:Bt) (σ:S) (β:Bt) (a:Act) (w:World) (o:Oper) (nv:Nat) (u:Out):Prop :=
 ∀ (K:Act->World->Prop) (Q:Exit->Act->World->Prop),
  (∀ a' w' F' β',Sim N Δ w0 F0 M B0 (σ.app u) F' β' a' w'->Aw β β'->(∀ v,v≠nv->β' v=β v)->K a' w')->o.wp P a w K Q
theorem Snd.pure {P:Program} {o:Oper} (h:Sim N Δ w0 F0 M B0 σ F β a w) (hd:∀ t,o.dst=some t->t<N) (hr:(execOp a.eval o).run P w= .ok (.value v) w') (hv:Env F β d v) (hh:w'.heap=w.heap) (ho:w'.os=w.os) (ht:w'.tape=w.tape) (hu:w'.output=w.output) :
  Snd P N Δ w0 F0 M B0 σ β a w o nv ⟨c,Ah o.dst d,[]⟩:=by
 intro K Q hK;unfold Oper.wp;rw[hr];exact hK _ _ _ _ (h.put hd hv hh ho ht hu) (Aw.refl _) (λ_ _=>rfl)
theorem Snd.pure' {P:Program} {o:Oper} (h:Sim N Δ w0 F0 M B0 σ F β a w) (hd:∀ t,o.dst=some t->t<N) (hr:(execOp a.eval o).run P w= .ok (.value v) w) (hv:Env F β d v):Snd P N Δ w0 F0 M B0 σ β a w o nv ⟨c,Ah o.dst d,[]⟩ :=
 Snd.pure h hd hr hv rfl rfl rfl rfl
theorem Dm (v:Value):Fro F (CX v) v:=by
 unfold CX;split
 ·exact .int _ _
 ·exact .bool _
 ·rename_i s;exact Fro.str (F:=F) s.data.toList
 ·exact .nils
 ·exact .nilf
 ·exact .nilp
 ·exact .top _
theorem JU (v:Value) (h:Bk v=true):Fro F (Bc v) v:=by
 unfold Bc;split
 ·rename_i cs;have h1:∀ v∈cs.toList,v.oneCell'=true:=by grind [Bk]
  have:=Fro.agg (F:=F) (cs.toList.map CX) cs.toList (by simp) h1 (λj c v hc hv=>by
   grind [Dm])
  omega
 grind [Dm]
theorem Ce (h:Sim N Δ w0 F0 M B0 σ F β a w) {x:Operand} {y:Arg} (hy:Ao x=some y):Env F β ((raw y).run σ) (a.eval x):=by
 cases x with
 | tmp t=>cases hy;exact h.env t
 | const v =>
  simp only[Ao]at hy;split at hy
  ·rename_i hv;cases hy;exact Env.Af (JU v hv)
  ·cases hy
 | global g=>cases hy
 | func f =>
  simp only[Ao]at hy;split at hy
  ·rename_i hf;cases hy;exact⟨[],(Fq (vs:=[]) (show aAO f 4096=true by simp_all)).symm,rfl,λj c v hc=>by simp at hc⟩
  ·cases hy
theorem Ax (h:Sim N Δ w0 F0 M B0 σ F β a w) {x:Operand} {y:Arg} (hy:Ao x=some y) (hp:((rdA y).run σ).1=true):Val F β ((rdA y).run σ).2 (a.eval x):=by
 have:=Ce h hy;simp only[rdA,R.run_bind,R.run_pure]at hp ⊢;exact this.strip hp
theorem AN {k:IntKind} {n:Int} (h:Val F β (.int k n) x):x= .int k n:=by cases h;rfl
theorem BB {b:Bool} (h:Val F β (.bool b) x):x= .bool b:=by cases h;rfl
theorem Co {s:List UInt8} (h:Val F β (.str s) x):x= .string ⟨s.toArray⟩:=by cases h;rfl
theorem Eb (h:Val F β .nils x):x= .slice none 0 0:=by cases h;rfl
theorem KB {P:Program} {op:BinOp} {e:D} {y:Value} (hx:Val F β d x) (hy:Val F β e y) (hc:(GH op d e).1) (t:TypeId) (p q:Operand) (w:World) :
  ∃ v,(do eqGuard op t p q x y;binOp op t x y:Sem Value).run P w= .ok v w/\Val F β (GH op d e).2 v:=by
 unfold GH at hc ⊢;split at hc<;>try exact hc.elim
 case h_18 s s' =>
  rw[Co hx,Co hy];refine⟨.string ⟨(s++s').toArray⟩,?_,Val.Af (.str _)⟩;have hlen:¬ (((s.length+s'.length:Nat):Int)>IntKind.i64.max):=by
   have:IntKind.i64.max=9223372036854775807:=by decide
   omega
  have e1:(⟨s.toArray⟩:ByteArray).size=s.length:=by simp[ByteArray.size]
  have e2:(⟨s'.toArray⟩:ByteArray).size=s'.length:=by simp[ByteArray.size]
  have e3:(⟨s.toArray⟩++⟨s'.toArray⟩:ByteArray)=⟨(s++s').toArray⟩:=by
   apply ByteArray.ext;simp_all
  simp_all[eqGuard,binOp,Op.stringOp]
 case h_19 s s' =>
  rw[Co hx,Co hy];refine⟨.bool (s==s'),?_,Val.Af (.bool _)⟩;simp_all[eqGuard,binOp,Op.stringOp]
 case h_20 s s' =>
  rw[Co hx,Co hy];refine⟨.bool (!(s==s')),?_,Val.Af (.bool _)⟩;simp_all[eqGuard,binOp,Op.stringOp]
 all_goals
  rw[AN hx,AN hy];refine⟨_,?_,Val.Af (by first|exact .int _ _|exact .bool _)⟩
  simp only at hc
  first
   | (subst hc;simp[eqGuard,binOp,Op.intArith,Op.intBits,Op.intCmp];done)
   | (obtain⟨rfl,hc⟩:=hc;simp_all[eqGuard,binOp,Op.intDiv])
   | (have hc':¬ _:=Int.not_lt.2 hc;simp[eqGuard,binOp,Op.shift,hc',Nat.min_def];done)
   | skip
theorem LU {P:Program} (hu:P.underlying t=some .bool) (a b neg:Bool) (p q:Operand) (w:World) :
  (do eqGuard (if neg then .neq else .eql) t p q (.bool a) (.bool b);binOp (if neg then .neq else .eql) t (.bool a) (.bool b):Sem Value).run P w= .ok (.bool (if neg then !(a==b)else(a==b))) w:=by
 have e:(Op.equal t (.bool a) (.bool b)).run P w= .ok (a==b) w:=run_equalIn_bool w 9999 t a b hu;cases neg<;>simp[eqGuard,binOp,e]
theorem Fo {P:Program} {e:TypeId} (he:EV P e=true) (w:World) (d:Nat) (xs ys:Array Value):∀ (cs cs':List D) (i:Nat),
  (∀ (j:Nat) c,cs[j]? =some c->∀ k n,c= .int k n->xs[i+j]? =some (.int k n))->(∀ (j:Nat) c,cs'[j]? =some c->∀ k n,c= .int k n->ys[i+j]? =some (.int k n))->(eqL cs cs').1 ->
  (Op.eqItems (d+1) e 1 xs ys (List.range' i cs.length)).run P w= .ok (eqL cs cs').2 w
 | [],[],i,_,_,_=>by simp[Op.eqItems,eqL]
 | .int k a::r,.int k' b::r',i,hx,hy,hc=>by
  obtain⟨rfl,hc⟩:=hc;have h0:=hx 0 _ rfl k a rfl;have h1:=hy 0 _ rfl k b rfl;simp only[aAd]at h0 h1;have ih:=Fo he w d xs ys r r' (i+1) (λj c hj k n hn=>by rw[aAW,aAn 1 j];exact hx (j+1) c (by simp_all) k n hn)
   (λj c hj k n hn=>by rw[aAW,aAn 1 j];exact hy (j+1) c (by simp_all) k n hn) hc
  simp only[EV,aAU,beq_iff_eq]at he;obtain⟨_,he⟩:=he;have hu:∃ q,P.underlying e=some (.int q):=by
   grind
  obtain⟨q,hu⟩:=hu;have hp:P.plainKey e=true:=by grind [Program.plainKey]
  simp only[List.length_cons,List.range'_succ,Op.eqItems,Sem.run_bind,Nat.mul_one,run_part_plain w hp h0,run_part_plain w hp h1,Result.andThen_ok,run_equalIn_int w d e k q a b hu];cases hab:(a==b)
  all_goals simp_all[eqL]
 | [],_::_,_,_,_,hc=>hc.elim
 | .int .. ::_,[],_,_,_,hc=>hc.elim
 | .top::_,_,_,_,_,hc=>hc.elim
 | .bool _::_,_,_,_,_,hc=>hc.elim
 | .str _::_,_,_,_,_,hc=>hc.elim
 | .agg _::_,_,_,_,_,hc=>hc.elim
 | .sl _::_,_,_,_,_,hc=>hc.elim
 | .nils::_,_,_,_,_,hc=>hc.elim
 | .osl .. ::_,_,_,_,_,hc=>hc.elim
 | .optr .. ::_,_,_,_,_,hc=>hc.elim
 | .fptr .. ::_,_,_,_,_,hc=>hc.elim
 | .clo .. ::_,_,_,_,_,hc=>hc.elim
 | .nilf::_,_,_,_,_,hc=>hc.elim
 | .nilp::_,_,_,_,_,hc=>hc.elim
 | .tup _::_,_,_,_,_,hc=>hc.elim
 | .when .. ::_,_,_,_,_,hc=>hc.elim
 | .int .. ::_,.top::_,_,_,_,hc=>hc.elim
 | .int .. ::_,.bool _::_,_,_,_,hc=>hc.elim
 | .int .. ::_,.str _::_,_,_,_,hc=>hc.elim
 | .int .. ::_,.agg _::_,_,_,_,hc=>hc.elim
 | .int .. ::_,.sl _::_,_,_,_,hc=>hc.elim
 | .int .. ::_,.nils::_,_,_,_,hc=>hc.elim
 | .int .. ::_,.osl .. ::_,_,_,_,hc=>hc.elim
 | .int .. ::_,.optr .. ::_,_,_,_,hc=>hc.elim
 | .int .. ::_,.fptr .. ::_,_,_,_,hc=>hc.elim
 | .int .. ::_,.clo .. ::_,_,_,_,hc=>hc.elim
 | .int .. ::_,.nilf::_,_,_,_,hc=>hc.elim
 | .int .. ::_,.nilp::_,_,_,_,hc=>hc.elim
 | .int .. ::_,.tup _::_,_,_,_,hc=>hc.elim
 | .int .. ::_,.when .. ::_,_,_,_,hc=>hc.elim
theorem HP:∀ {cs cs':List D},(eqL cs cs').1->(cs=[]/\cs'=[])\/∃ k a b r r',cs= .int k a::r/\cs'= .int k b::r'/\(eqL r r').1/\(eqL cs cs').2=((a==b)&&(eqL r r').2)
 | [],[],_=>.inl ⟨rfl,rfl⟩
 | .int k a::r,.int k' b::r',h=>by
  obtain⟨rfl,h⟩:=h;exact .inr ⟨k,a,b,r,r',rfl,rfl,h,rfl⟩
 | [],_::_,h=>h.elim
 | c::r,c'::r',h=>by
  cases c<;>try exact h.elim
  cases c'<;>try exact h.elim
  obtain⟨rfl,h⟩:=h;exact .inr ⟨_,_,_,r,r',rfl,rfl,h,rfl⟩
 | c::r,[],h=>by cases c<;>exact h.elim
theorem EK {P:Program} (w:World) (d:Nat) (xs ys:Array Value):∀ (fs:List Field) (cs cs':List D) (i:Nat),(∀ (j:Nat) f,fs[j]? =some f->f.name ≠ "_" /\ f.offset=i+j/\EV P f.type=true)->fs.length=cs.length ->
  (∀ (j:Nat) c,cs[j]? =some c->∀ k n,c= .int k n->xs[i+j]? =some (.int k n))->(∀ (j:Nat) c,cs'[j]? =some c->∀ k n,c= .int k n->ys[i+j]? =some (.int k n))->(eqL cs cs').1 ->
  (Op.eqFields (d+1) xs ys fs).run P w= .ok (eqL cs cs').2 w
 | [],cs,cs',i,_,hl,_,_,hc=>by
  rcases HP hc with⟨rfl,rfl⟩|⟨k,a,b,r,r',rfl,rfl,_⟩
  all_goals simp_all[Op.eqFields,eqL]
 | f::fs,cs,cs',i,hf,hl,hx,hy,hc=>by
  rcases HP hc with⟨rfl,rfl⟩|⟨k,a,b,r,r',rfl,rfl,hc',he⟩
  ·simp at hl
  ·have h0:=hx 0 _ rfl k a rfl;have h1:=hy 0 _ rfl k b rfl;obtain⟨n1,n2,n3⟩:=hf 0 f rfl;simp only[aAd]at h0 h1 n2
   have ih:=EK w d xs ys fs r r' (i+1) (λj g hj=>by
     obtain⟨m1,m2,m3⟩:=hf (j+1) g (by simp_all)
     exact⟨m1,by omega,m3⟩) (by simp_all) (λj c hj k n hn=>by rw[aAW,aAn 1 j];exact hx (j+1) c (by simp_all) k n hn)
    (λj c hj k n hn=>by rw[aAW,aAn 1 j];exact hy (j+1) c (by simp_all) k n hn) hc'
   simp only[EV,aAU,beq_iff_eq]at n3;obtain⟨_,n3⟩:=n3;have hu:∃ q,P.underlying f.type=some (.int q):=by
    grind
   obtain⟨q,hu⟩:=hu;have hp:P.plainKey f.type=true:=by grind [Program.plainKey]
   rw[he];simp only[Op.eqFields,ne_eq,n1,not_false_eq_true,if_true,Sem.run_bind,n2,run_part_plain w hp h0,run_part_plain w hp h1,Result.andThen_ok,run_equalIn_int w d f.type k q a b hu];cases hab:(a==b)
   all_goals simp_all
theorem LS {P:Program} {n:Nat} (hf:DJ P t=some n) {cs':List D} {y:Value} (hx:Val F β (.agg cs) x) (hy:Val F β (.agg cs') y) (hc:(eqL cs cs').1) (hn:cs.length=n) (neg:Bool) (p q:Operand) (w:World) :
  (do eqGuard (if neg then .neq else .eql) t p q x y;binOp (if neg then .neq else .eql) t x y:Sem Value).run P w= .ok (.bool (if neg then !(eqL cs cs').2 else(eqL cs cs').2)) w:=by
 obtain⟨vs,rfl,hl,_,hv⟩:=hx;obtain⟨vs',rfl,hl',_,hv'⟩:=hy;have hX:∀ (j:Nat) c,cs[j]? =some c->∀ k n,c= .int k n->(vs.toArray)[0+j]? =some (.int k n):=by
  rintro j c hj k n rfl;have hjl:j<vs.length:=by grind
  have e:vs[j]= .int k n:=AN (F:=F) (β:=β) (hv j _ vs[j] hj (aA hjl))
  grind
 have hY:∀ (j:Nat) c,cs'[j]? =some c->∀ k n,c= .int k n->(vs'.toArray)[0+j]? =some (.int k n):=by
  rintro j c hj k n rfl;have hjl:j<vs'.length:=by grind
  have e:vs'[j]= .int k n:=AN (F:=F) (β:=β) (hv' j _ vs'[j] hj (aA hjl));simp_all
 have key:P.eqGuardType P.depth t=false/\(Op.equalIn 10000 t (.agg vs.toArray) (.agg vs'.toArray)).run P w= .ok (eqL cs cs').2 w:=by
  unfold DJ at hf;split at hf
  ·rename_i m e hu;split at hf
   ·rename_i hcond;simp only[aAU,Bool.not_eq_true']at hcond;obtain⟨⟨h1,h2⟩,h3⟩:=hcond;obtain⟨i,hi⟩:=aAE.1 h1;cases hf;refine⟨h3,?_⟩;rw[show(10000:Nat)=9998+1+1 from rfl,run_equalIn_array w (9998+1) vs.toArray vs'.toArray hu hi]
    have hc1:P.cellsOf e=1:=by
     simp_all[EV]
    grind [List.range_eq_range',Fo]
   ·cases hf
  ·rename_i fs hu;split at hf
   ·rename_i hcond;simp only[aAU,Bool.not_eq_true']at hcond;obtain⟨⟨h1,h2⟩,h3⟩:=hcond;cases hf;refine⟨h2,?_⟩;have hfs:P.fieldsOf t=fs:=by grind [Program.fieldsOf]
    rw[show(10000:Nat)=9998+1+1 from rfl,run_equalIn_struct w (9998+1) t vs.toArray vs'.toArray (by simp_all) h1,hfs]
    refine EK w 9998 _ _ fs.toList cs cs' 0 (λj f hj=>?_) (by simp[hn]) hX hY hc
    grind
   ·cases hf
  ·cases hf
 cases neg
 all_goals simp_all[run_eqGuard_agg,run_eql_struct,run_neq_struct]
theorem Mz {P:Program} {op:UnOp} (hx:Val F β d x) (hc:(unD op d).1) (w:World) :
  ∃ v,(Op.unary op x).run P w= .ok v w/\Val F β (unD op d).2 v:=by
 unfold unD at hc ⊢;split at hc<;>try exact hc.elim
 ·rw[BB hx];exact⟨_,rfl,Val.Af (.bool _)⟩
 ·rw[AN hx];exact⟨_,rfl,Val.Af (.int _ _)⟩
 ·rw[AN hx];exact⟨_,rfl,Val.Af (.int _ _)⟩
theorem Cn (h:Val F β d x) (hk:known d=true) :
  x.cells.size=(cells d).length/\(∀ v∈x.cells,v.oneCell'=true)/\∀ (j:Nat) c,(cells d)[j]? =some c->∃ v,x.cells[j]? =some v/\v.oneCell'=true/\Cel F β c v:=by
 have one:∀ (d:D) (x:Value),cells d=[d]->x.cells= #[x]->x.oneCell'=true->Cel F β d x ->
   x.cells.size=(cells d).length/\(∀ v∈x.cells,v.oneCell'=true)/\∀ (j:Nat) c,(cells d)[j]? =some c->∃ v,x.cells[j]? =some v/\v.oneCell'=true/\Cel F β c v:=by
  grind
 cases d with
 | agg cs =>
  obtain⟨vs,rfl,hl,h1,hv⟩:=h
  grind [aAi,cells]
 | top=>cases hk
 | row=>cases hk
 | hole=>cases hk
 | tup cs=>cases hk
 | when p d=>cases hk
 | int k n=>cases h;exact one _ _ rfl rfl rfl (Cel.Af (.int _ _))
 | bool b=>cases h;exact one _ _ rfl rfl rfl (Cel.Af (.bool _))
 | str s=>cases h;exact one _ _ rfl rfl rfl (Cel.Af (.str _))
 | nils=>cases h;exact one _ _ rfl rfl rfl (Cel.Af .nils)
 | nilf=>cases h;exact one _ _ rfl rfl rfl (Cel.Af .nilf)
 | nilp=>cases h;exact one _ _ rfl rfl rfl (Cel.Af .nilp)
 | sl es =>
  have h':Fro F (.sl es) x:=h;cases h with
  | sl0 a c=>exact one _ _ rfl rfl rfl (Cel.Af h')
  | sl es b o c s vf hc hs hF h1 hh=>exact one _ _ rfl rfl rfl (Cel.Af h')
 | fptr e off =>
  have h':Fro F (.fptr e off) x:=h;cases h with
  | fptr e b o off vf hF h1 hh=>exact one _ _ rfl rfl rfl (Cel.Af h')
 | osl g v i n =>
  have h':Cel F β (.osl g v i n) x:=h;obtain⟨L,a,_,rfl,_⟩:=h;exact one _ _ rfl rfl rfl h'
 | optr g v i off =>
  have h':Cel F β (.optr g v i off) x:=h;obtain⟨L,b,_,_,rfl⟩:=h;exact one _ _ rfl rfl rfl h'
 | clo f cs =>
  have h':Cel F β (.clo f cs) x:=h;obtain⟨vs,rfl,_⟩:=h;exact one _ _ rfl (FZ f vs) (HS f vs) h'
theorem Ga (h:Fro F d x) (hk:known d=true) :
  x.cells.size=(cells d).length/\(∀ v∈x.cells,v.oneCell'=true)/\∀ (j:Nat) c,(cells d)[j]? =some c->∃ v,x.cells[j]? =some v/\v.oneCell'=true/\Fro F c v:=by
 obtain⟨h1,h2,_⟩:=Cn (β:=λ_=>none) (Val.Af h) hk
 refine⟨h1,h2,λj c hj=>?_⟩
 cases h with
 | agg cs vs hl _ hv =>
  grind [cells,aAi]
 | top=>cases hk
 | row=>cases hk
 | hole=>cases hk
 | tup=>cases hk
 | int k n=>rcases j with _|j<;>simp[cells]at hj;subst hj;exact⟨_,rfl,rfl,.int _ _⟩
 | bool b=>rcases j with _|j<;>simp[cells]at hj;subst hj;exact⟨_,rfl,rfl,.bool _⟩
 | str s=>rcases j with _|j<;>simp[cells]at hj;subst hj;exact⟨_,rfl,rfl,.str _⟩
 | nils=>rcases j with _|j<;>simp[cells]at hj;subst hj;exact⟨_,rfl,rfl,.nils⟩
 | nilf=>rcases j with _|j<;>simp[cells]at hj;subst hj;exact⟨_,rfl,rfl,.nilf⟩
 | nilp=>rcases j with _|j<;>simp[cells]at hj;subst hj;exact⟨_,rfl,rfl,.nilp⟩
 | sl0 a c=>rcases j with _|j<;>simp[cells]at hj;subst hj;exact⟨_,rfl,rfl,.sl0 _ _⟩
 | sl es b o c s vf hc hs hF h1' hh=>rcases j with _|j<;>simp[cells]at hj;subst hj;exact⟨_,rfl,rfl,.sl es b o c s vf hc hs hF h1' hh⟩
 | fptr e b o off vf hF h1' hh=>rcases j with _|j<;>simp[cells]at hj;subst hj;exact⟨_,rfl,rfl,.fptr e b o off vf hF h1' hh⟩
 | clo f cs vs hl hh=>rcases j with _|j<;>simp[cells]at hj;subst hj;exact⟨fnV f vs,by rw[FZ];rfl,HS f vs,.clo f cs vs hl hh⟩
theorem GY {P:Program} (hl:cs.length=vs.length) (h1:∀ v∈vs,v.oneCell'=true) (hv:∀ (j:Nat) c v,cs[j]? =some c->vs[j]? =some v->Cel F β c v) (t:TypeId) (off n:Nat) (agg:Bool) (hagg:Cd P t=agg) (hu:(P.underlying t).isSome=true) (hn:agg=true->P.info? t≠none/\n=P.cellsOf t) (hn1:agg=false->n=1) (hle:off+n<=cs.length) (w:World) :
  ∃ v,(part t vs.toArray off).run P w= .ok v w/\Val F β (Oj cs off n agg) v:=by
 obtain⟨d,hd⟩:=aAE.1 hu;have hr:(isAgg t).run P w= .ok agg w:=by
  unfold isAgg;simp only[Sem.run_bind,run_underlying hd,Result.andThen_ok];unfold Cd at hagg;rw[hd]at hagg;cases d<;>simp_all
 cases agg with
 | true =>
  obtain⟨hi,rfl⟩:=hn rfl;obtain⟨i,hi⟩:=aAK.1 hi;have hsz:P.cellsOf t=i.size:=by grind [aAX]
  refine⟨.agg (vs.toArray.extract off (off+i.size)),by simp_all[part,sizeOf,typeInfo],?_⟩
  refine⟨(vs.drop off).take (P.cellsOf t),by simp_all,by simp;omega,λv hv'=>h1 v (aAc (aAJ hv')),?_⟩
  grind
 | false =>
  obtain rfl:=hn1 rfl;have hlt:off<vs.length:=by omega
  refine⟨vs[off],by simp_all[part],?_⟩
  have hlc:off<cs.length:=by omega
  have:Oj cs off 1 false=cs[off]:=by grind [Oj]
  rw[this];exact Val.Am (hv off _ _ (aA hlc) (aA hlt))
end
section
variable {N:Nat} {Δ:List Deferred} {w0:World} {F0:Fz} {M:Nat->Prop} {B0:Bt} {σ:S} {F:Fz} {β:Bt} {a:Act} {w:World}
theorem GG (h:Sim N Δ w0 F0 M B0 σ F β a w) (hx:Val F β d x) (hc:((On d).run σ).1) :
  ∃ b o,x= .pointer (some ⟨b,o+((On d).run σ).2.2,none⟩)/\∀ (j:Nat) c,(cells ((On d).run σ).2.1)[j]? =some c->∃ v,w.cell? ⟨b,o+j,none⟩=some v/\v.oneCell'=true/\Cel F β c v:=by
 cases d<;>try exact hc.elim
 case optr g v i off =>
  simp only[On,R.run]at hc ⊢;cases hg:σ.go g with
  | none=>simp_all
  | some p =>
   obtain⟨v',o⟩:=p;rw[hg]at hc;simp only[R.run]at hc ⊢;obtain⟨rfl,hi⟩:=hc;obtain⟨L,b,hL,hb,rfl⟩:=hx;obtain⟨L',hL',hz,hk⟩:=h.own g v o hg;rw[hL]at hL';cases hL';have hget:o.es[i]? =some (o.es.getD i .top):=by simp[hi]
   refine⟨b,i*L.s,rfl,λj c hj=>?_⟩
   cases hfz:o.fz with
   | true =>
    obtain⟨_,e1,_,_,_,h5⟩:=(hz hfz).old hb;rw[hb]at h5;obtain⟨y,hy1,hy2,hy3⟩:=h5 i j _ c hget hj;exact⟨y,by rw[e1];exact h.frz _ _ _ hy1,hy2,Cel.Af hy3⟩
   | false =>
    obtain⟨e1,_,_,_,_,h6⟩:=hk hfz
    grind [aAq,Cel.Af]
 case fptr e off =>
  simp only[On,R.run];cases hx with
  | fptr e b o off vf hF h1 hh =>
   exact⟨b,o,rfl,λj c hj=>⟨_,h.frz _ _ _ (hF j c hj),h1 j c hj,Cel.Af (hh j c hj)⟩⟩
theorem Bs (b o n:Nat):(⟨b,o,none⟩:Addr).add n=⟨b,o+n,none⟩:=by
 grind [Addr.add]
theorem Ev {P:Program} (hu:(P.underlying t).isSome=true) (w:World):(isAgg t).run P w= .ok (Cd P t) w:=by
 obtain⟨d,hd⟩:=aAE.1 hu;unfold isAgg Cd;simp only[Sem.run_bind,run_underlying hd,Result.andThen_ok,hd];cases d<;>rfl
theorem HU {P:Program} (h:Sim N Δ w0 F0 M B0 σ F β a w) (hx:Val F β d x) (hc:((On d).run σ).1) (t:TypeId) (n:Nat) (agg:Bool) (hagg:Cd P t=agg) (hu:(P.underlying t).isSome=true) (hn:agg=true->P.info? t≠none/\n=P.cellsOf t) (hn1:agg=false->n=1) (hle:((On d).run σ).2.2+n<=(cells ((On d).run σ).2.1).length) :
  ∃ v,(aAx t x).run P w= .ok v w/\Val F β (Oj (cells ((On d).run σ).2.1) ((On d).run σ).2.2 n agg) v:=by
 obtain⟨b,o,rfl,hcell⟩:=GG h hx hc;generalize((On d).run σ).2.1=e at *;generalize((On d).run σ).2.2=off at *;have hr:=Ev (P:=P) hu w;rw[hagg]at hr;have key:∀ j,j<n->∃ c v,(cells e)[off+j]? =some c/\w.cell? ⟨b,o+off+j,none⟩=some v/\v.oneCell'=true/\Cel F β c v:=by
  intro j hj;have hlt:off+j<(cells e).length:=by omega
  simp_all[aAW]
 cases agg with
 | true =>
  obtain⟨hi,rfl⟩:=hn rfl;obtain⟨i,hi⟩:=aAK.1 hi;have hsz:P.cellsOf t=i.size:=by grind [aAX]
  let f:Nat->Value:=λj=>(w.cell? ⟨b,o+off+j,none⟩).getD undef
  have hl:=run_loadCells (P:=P) w ⟨b,o+off,none⟩ i.size f (λj hj=>by
   grind [Bs])
  refine⟨.agg ((aAR i.size).map f).toArray,by simp_all[aAx,aAs,loadVar,sizeOf,typeInfo],?_⟩
  refine⟨(aAR i.size).map f,rfl,by simp;omega,?_,?_⟩
  all_goals grind
 | false =>
  obtain rfl:=hn1 rfl;obtain⟨c,v,h1,h2,h3,h4⟩:=key 0 (by omega)
  simp_all[aAx,aAs,loadVar,Oj,Val.Am]
theorem Jr {P:Program} (h:Sim N Δ w0 F0 M B0 σ F β a w) {e:TypeId} (ht:P.underlying t=some (.slice e)) (hi:P.info? e≠none) (hx:Val F β d x) (k:IntKind) (j:Int) :
  (∀ g v i n v' o,d= .osl g v i n->σ.go g=some (v',o)->v=v'/\o.s=P.cellsOf e->0<=j->j<n->∃ y,(aAm t x (.int k j)).run P w= .ok y w/\Val F β (.optr g v (i+j.toNat) 0) y) /\
  (∀ es,d= .sl es->0<=j->j<es.length->(cells (es.getD j.toNat .top)).length=P.cellsOf e->∃ y,(aAm t x (.int k j)).run P w= .ok y w/\Val F β (.fptr (es.getD j.toNat .top) 0) y):=by
 obtain⟨i,hi⟩:=aAK.1 hi;have hsz:P.cellsOf e=i.size:=by grind [aAX]
 constructor
 ·rintro g v i0 n v' o rfl hg ⟨rfl,hs⟩ h0 h1;obtain⟨L,ad,hL,rfl,hcap,_,hpos⟩:=hx;obtain⟨b,hb,rfl⟩:=hpos (by omega)
  obtain⟨L',hL',hz,hk⟩:=h.own g v o hg;rw[hL]at hL';cases hL';have hLs:L.s=o.s:=by
   cases hfz:o.fz with
   | true=>exact((hz hfz).old hb).2.1
   | false=>exact(hk hfz).1
  refine⟨.pointer (some ⟨b,i0*L.s+j.toNat*i.size,none⟩),?_,L,b,hL,hb,?_⟩
  ·have hj:0<=j/\j<(n:Int):=⟨h0,h1⟩;simp[aAm,asIntOf,run_underlying ht,sizeOf,typeInfo,hi,hj,Bs]
  grind
 ·rintro es rfl h0 h1 hlen;cases hx with
  | sl0 a c=>grind
  | sl es b o c s vf hc hs hF h1' hh =>
   have hj:0<=j/\j<(es.length:Int):=⟨h0,h1⟩;have hlt:j.toNat<es.length:=by omega
   have hget:es[j.toNat]? =some (es.getD j.toNat .top):=by simp[hlt]
   have hse:s=i.size:=by simp_all
   refine⟨.pointer (some ⟨b,o+j.toNat*i.size,none⟩),?_,?_⟩
   ·simp[aAm,asIntOf,run_underlying ht,sizeOf,typeInfo,hi,hj,Bs]
   ·rw[<- hse];exact Val.Af (Fro.fptr _ b (o+j.toNat*s) 0 (λq=>vf j.toNat q) (λq c hq=>hF _ _ _ _ hget hq) (λq c hq=>h1' _ _ _ _ hget hq) (λq c hq=>hh _ _ _ _ hget hq))
theorem FC {P:Program} {w:World} {vl vh:Option Value} {l h:Int} (n cap:Nat) (isS:Bool) (hl:(vl=none/\l=0)\/∃ k,vl=some (.int k l)) (hh:(vh=none/\h=n)\/∃ k,vh=some (.int k h))
  (h3:0<=l) (h4:l<=h) (h5:h<=n) (hc:n<=cap):(Instr.sliceBounds isS n cap vl vh none).run P w= .ok (l.toNat,h.toNat,cap) w:=by
 unfold Instr.sliceBounds;have q1:0<=h/\h<=(cap:Int):=⟨by omega,by omega⟩
 have q2:0<=l/\l<=((h.toNat:Nat):Int):=⟨h3,by omega⟩
 rcases hh with⟨rfl,rfl⟩|⟨k,rfl⟩
 ·rcases hl with⟨rfl,rfl⟩|⟨k',rfl⟩
  all_goals simp_all[Instr.sliceBound,asIntOf]
 ·rcases hl with⟨rfl,rfl⟩|⟨k',rfl⟩
  all_goals simp_all[Instr.sliceBound,asIntOf]
theorem BX {d? :Option D} {v? :Option Value} {n:Int} (h:∀ d,d? =some d->∃ x,v? =some x/\Val F β d x) (hn:d? =none->v? =none) (hb:(bound d? n).1) :
  (v? =none/\(bound d? n).2=n)\/∃ k,v? =some (.int k (bound d? n).2):=by
 cases d? with
 | none=>exact .inl ⟨hn rfl,rfl⟩
 | some d =>
  obtain⟨x,rfl,hx⟩:=h d rfl;cases d<;>first|exact hb.elim|skip
  rw[AN hx];exact .inr ⟨_,rfl⟩
theorem KP {b o c:Nat} {vf:Nat->Nat->Value} (hs:∀ e∈es,(cells e).length=s) (hF:∀ (i j:Nat) e d,es[i]? =some e->(cells e)[j]? =some d->F b (o+i*s+j)=some (vf i j)) (h1:∀ (i j:Nat) e d,es[i]? =some e->(cells e)[j]? =some d->(vf i j).oneCell'=true) (h:∀ (i j:Nat) e d,es[i]? =some e->(cells e)[j]? =some d->Fro F d (vf i j)) (l n:Nat) (hn:l+n<=es.length) (hc:n<=c) :
   Fro F (.sl ((es.drop l).take n)) (.slice (some ⟨b,o+l*s,none⟩) n c):=by
 have hidx:∀ (k:Nat) e,((es.drop l).take n)[k]? =some e->es[l+k]? =some e:=by
  grind
 have hlen:((es.drop l).take n).length=n:=by simp;omega
 have:=Fro.sl (F:=F) ((es.drop l).take n) b (o+l*s) c s (λi j=>vf (l+i) j) (by omega) (λe he=>hs e (aAc (aAJ he)))
  (λi j e d he hd=>by
   grind)
  (λi j e d he hd=>h1 (l+i) j e d (hidx i e he) hd) (λi j e d he hd=>h (l+i) j e d (hidx i e he) hd)
 simp_all
theorem Kj {P:Program} (_h:Sim N Δ w0 F0 M B0 σ F β a w) {e:TypeId} (ht:P.underlying t=some (.slice e)) (hinf:P.info? e≠none) (hx:Val F β d x) (hst:∀ g v i n L,d= .osl g v i n->β v=some L->0<n->L.s=P.cellsOf e) (hsl:∀ es q,d= .sl es->q∈es->(cells q).length=P.cellsOf e) {lo hi:Option D} {vl vh:Option Value} (hl:∀ d,lo=some d->∃ x,vl=some x/\Val F β d x) (hln:lo=none->vl=none) (hh:∀ d,hi=some d->∃ x,vh=some x/\Val F β d x) (hhn:hi=none->vh=none) (hd:∀ s,d≠ .str s) (hc:(BN d lo hi).1):∃ y,(aAM t x vl vh none).run P w= .ok y w/\Val F β (BN d lo hi).2 y:=by
 obtain⟨i,hi'⟩:=aAK.1 hinf;have hsz:P.cellsOf e=i.size:=by grind [aAX]
 cases d<;>try exact hc.elim
 case str s=>simp_all
 case sl es =>
  simp only[BN]at hc ⊢;obtain⟨c1,c2,c3,c4,c5⟩:=hc;have b1:=BX hl hln c1;have b2:=BX hh hhn c2;generalize(bound lo 0).2=l at *;generalize(bound ‹Option D› (es.length:Int)).2=hb at *;cases hx with
  | sl0 a c =>
   have hr:=FC (P:=P) (w:=w) 0 c true b1 (by omega) c3 c4 (by omega) (Nat.zero_le _)
   simp only[List.length_nil,Int.ofNat_zero]at c5;have hl0:l=0:=by omega
   have hh0:hb=0:=by omega
   subst hl0;subst hh0;refine⟨_,by simp[aAM,aAj,run_underlying ht,hr,sizeOf,typeInfo,hi'];rfl,?_⟩
   simp only[Int.toNat_zero,List.drop_nil,List.take_nil];exact Val.Af (.sl0 _ _)
  | sl es b o c s vf hcc hs hF h1 hh =>
   have hr:=FC (P:=P) (w:=w) es.length c true b1 b2 c3 c4 c5 hcc;have hrun:(aAM t (.slice (some ⟨b,o,none⟩) es.length c) vl vh none).run P w= .ok (.slice (if c=l.toNat then some ⟨b,o,none⟩else some ⟨b,o+l.toNat*i.size,none⟩) (hb.toNat-l.toNat) (c-l.toNat)) w:=by
    simp_all[aAM,aAj,run_underlying,sizeOf,typeInfo,Bs]
   refine⟨_,hrun,?_⟩;rcases aAk (hb.toNat-l.toNat)with h0|h0
   ·rw[h0,List.take_zero];exact Val.Af (.sl0 _ _)
   ·rw[if_neg (by omega)]
    have hs':i.size=s:=by
     have hpos:0<es.length:=by omega
     rw[<- hsz,<- hsl es es[0] rfl (List.getElem_mem hpos)];simp_all
    rw[hs'];exact Val.Af (KP hs hF h1 hh _ _ (by omega) (by omega))
 case nils =>
  simp only[BN]at hc ⊢;obtain⟨c1,c2,c3,c4⟩:=hc;have b1:=BX hl hln c1;have b2:=BX hh hhn c2;rw[c3]at b1;rw[c4]at b2;cases hx;have hr:=FC (P:=P) (w:=w) 0 0 true b1 (by omega) (Int.le_refl _) (Int.le_refl _) (Int.le_refl _) (aAI _)
  refine⟨.slice none 0 0,by simp_all[aAM,aAj,run_underlying,sizeOf,typeInfo],Val.Af .nils⟩
 case osl g v i0 n =>
  simp only[BN]at hc ⊢;obtain⟨c1,c2,c3,c4,c5⟩:=hc;have b1:=BX hl hln c1;have b2:=BX hh hhn c2;generalize(bound lo 0).2=l at *;generalize(bound ‹Option D› (n:Int)).2=hb at *;obtain⟨L,ad,hL,rfl,hcap,ha0,hpos⟩:=hx;have hr:=FC (P:=P) (w:=w) n (L.cap-i0) true b1 b2 c3 c4 c5 (by omega)
  have hrun:(aAM t (.slice ad n (L.cap-i0)) vl vh none).run P w= .ok (.slice (if L.cap-i0=l.toNat then ad else ad.map (·.add (l.toNat*i.size))) (hb.toNat-l.toNat) (L.cap-i0-l.toNat)) w:=by
   simp[aAM,aAj,run_underlying ht,hr,sizeOf,typeInfo,hi']
  refine⟨_,hrun,L,_,hL,by rw[Nat.sub_sub],by omega,?_,?_⟩
  ·intro he;have h1:i0=0:=by omega
   have h2:l.toNat=0:=by omega
   have:=ha0 h1;subst this;rw[h2];split
   ·rfl
   ·cases L.b<;>simp[Addr.add]
  ·intro hp;obtain⟨b,hb',rfl⟩:=hpos (by omega)
   refine⟨b,hb',?_⟩;rw[if_neg (by omega)]
   grind [Bs,Nat.add_mul]
theorem HA {P:Program} (ht:P.underlying t=some .string) {s:List UInt8} (hx:Val F β (.str s) x) {lo hi:Option D} {vl vh:Option Value} (hl:∀ d,lo=some d->∃ x,vl=some x/\Val F β d x) (hln:lo=none->vl=none) (hh:∀ d,hi=some d->∃ x,vh=some x/\Val F β d x) (hhn:hi=none->vh=none) (hc:(BN (.str s) lo hi).1) (w:World):∃ y,(aAM t x vl vh none).run P w= .ok y w/\Val F β (BN (.str s) lo hi).2 y:=by
 simp only[BN]at hc ⊢;obtain⟨c1,c2,c3,c4,c5⟩:=hc;have b1:=BX hl hln c1;have b2:=BX hh hhn c2;generalize(bound lo 0).2=l at *;generalize(bound hi (s.length:Int)).2=hb at *;rw[Co hx];have e1:(⟨s.toArray⟩:ByteArray).size=s.length:=by simp[ByteArray.size]
 have hr:=FC (P:=P) (w:=w) s.length s.length false b1 b2 c3 c4 c5 (aAI _);refine⟨.string ⟨((s.drop l.toNat).take (hb.toNat-l.toNat)).toArray⟩,?_,Val.Af (.str _)⟩;have e2:(⟨s.toArray⟩:ByteArray).extract l.toNat hb.toNat=⟨((s.drop l.toNat).take (hb.toNat-l.toNat)).toArray⟩:=by
  apply ByteArray.ext;simp_all
 simp_all[aAM,aAj,run_underlying]
end
theorem S.CN (σ:S) (u:Out) (g:Nat):(σ.app u).go g=match look u.wo g with|some x=>x|none=>σ.go g:=by
 grind [S.go,S.app,Bq]
section
variable {N:Nat} {Δ:List Deferred} {w0:World} {F0:Fz} {M:Nat->Prop} {B0:Bt} {σ:S} {F:Fz} {β:Bt} {a:Act} {w:World}
theorem Sim.change (h:Sim N Δ w0 F0 M B0 σ F β a w) {row:Nat->Prop} {σ':S} {a':Act} (hos:w'.os=w.os) (htape:w'.tape=w.tape) (hout:w'.output=w.output) (hsz:w.heap.size<=w'.heap.size) (hblock:∀ b,b<w.heap.size->¬ row b->w'.heap[b]? =w.heap[b]?) (hrow:∀ b,row b->w0.heap.size<=b\/M b) (hF:NX F F') (hFold:∀ b i,b<w.heap.size->¬ row b->F' b i=F b i) (hfrz:Fok F' w') (hfin:∀ b i x,F' b i=some x->b<w'.heap.size) (hβ:Aw β β') (ha:a'.tmps.size=N) (hd:a'.defers=Δ) (henv:∀ t,Env F' β' (σ'.ge t) (a'.tmps.getD t undef)) (hown:∀ g v o,σ'.go g=some (v,o) ->
   (σ.go g=some (v,o)/\∀ L b,o.fz=false->β v=some L->L.b=some b->¬ row b) \/
   (∃ L,β' v=some L/\o.fz=false/\Au F' β' w' L o/\∀ b,L.b=some b->(∀ i,F' b i=none)/\b<w'.heap.size/\(w0.heap.size<=b\/(M b/\(Dw.Ad g=true\/w0.drawn<=b)))/\(row b\/w.heap.size<=b))) (huniq:∀ g g' v v' o o' L L' b,σ'.go g=some (v,o)->σ'.go g'=some (v',o')->o.fz=false->o'.fz=false->β' v=some L->β' v'=some L'->L.b=some b->L'.b=some b->(row b\/w.heap.size<=b)->g=g') (hrich:∀ φ,Ay F β w0.heap.size M σ w φ->∃ φ',Ay F' β' w0.heap.size M σ' w' φ') :
  Sim N Δ w0 F0 M B0 σ' F' β' a' w':=by
 refine{ nam:=h.nam.trans hβ,size:=ha,defers:=hd,env:=henv,own:=?_,dist:=?_,sep:=?_,Ad:=?_,frz:=hfrz,fin:=hfin,step:=?_ }
 ·intro g v o hg;rcases hown g v o hg with⟨h1,h2⟩|⟨L,h1,h2,h3,_⟩
  ·obtain⟨L,hL,hz,hk⟩:=h.own g v o h1;refine⟨L,hβ _ _ hL,λhf=>(hz hf).mono hF,λhf=>(hk hf).keep hF hβ (λb hb=>?_)⟩
   exact hblock b (h.sep g v o L b h1 hf hL hb).2.1 (h2 L b hf hL hb)
  simp_all
 ·intro g g' v v' o o' L L' b hg hg' hf hf' hL hL' hb hb'
  by_cases hr:row b\/w.heap.size<=b
  ·grind
  ·rcases hown g v o hg with⟨h1,_⟩|⟨L1,k1,_,_,k4⟩
   ·rcases hown g' v' o' hg' with⟨h1',_⟩|⟨L1,k1,_,_,k4⟩
    ·obtain⟨L2,e2,_⟩:=h.own g v o h1;obtain⟨L3,e3,_⟩:=h.own g' v' o' h1';have:=hβ _ _ e2;rw[hL]at this;cases this;have:=hβ _ _ e3;rw[hL']at this;cases this;exact h.dist g g' v v' o o' _ _ b h1 h1' hf hf' e2 e3 hb hb'
    simp_all
   simp_all
 ·intro g v o L b hg hf hL hb;rcases hown g v o hg with⟨h1,h2⟩|⟨L1,k1,_,_,k4⟩
  ·obtain⟨L2,e2,_⟩:=h.own g v o h1;have:=hβ _ _ e2;rw[hL]at this;cases this;obtain⟨s1,s2,s3⟩:=h.sep g v o L b h1 hf e2 hb
   grind
  ·rw[hL]at k1;cases k1;exact⟨(k4 b hb).1,(k4 b hb).2.1,(k4 b hb).2.2.1⟩
 ·obtain⟨φ,hφ⟩:=h.Ad
  grind
 ·refine⟨hos.trans h.step.os,htape.trans h.step.tape,hout.trans h.step.output,aAS h.step.size hsz,λb hb hM=>?_,h.step.sub.trans hF,λb i hb hM=>?_⟩
  ·rw[hblock b (aAD hb h.step.size) (λhr=>(hrow b hr).elim (λe=>by omega) hM)]
   exact h.step.block b hb hM
  ·rw[hFold b i (aAD hb h.step.size) (λhr=>(hrow b hr).elim (λe=>by omega) hM)]
   exact h.step.old b i hb hM
theorem BJ {a:Act} (dst:Option Nat) (v:Value):(a.put dst v).tmps.size=a.tmps.size:=by cases dst<;>simp[Act.put]
theorem Bo {a:Act} (dst:Option Nat) (v:Value):(a.put dst v).defers=a.defers:=by cases dst<;>rfl
theorem Sim.Cm (h:Sim N Δ w0 F0 M B0 σ F β a w) (hF:NX F F') (hβ:Aw β β') {wo:List (Nat×Aa)} (hd:∀ t,dst=some t->t<N) (hv:Env F' β' d v) (t:Nat) :
  Env F' β' ((σ.app ⟨c,Ah dst d,wo⟩).ge t) ((a.put dst v).tmps.getD t undef):=by
 rw[S.Jm,EZ]
 by_cases hdt:dst=some t
 ·rw[if_pos hdt,if_pos ⟨hdt,by rw[h.size];simp_all⟩]
  exact hv
 ·rw[if_neg hdt,if_neg (λe=>hdt e.1)]
  exact(h.env t).mono hF hβ
def upB (β:Bt) (nv:Nat) (L:Loc):Bt:=λv=>if v=nv then some L else β v
theorem Ak (β:Bt) (nv:Nat) (L:Loc):upB β nv L nv=some L:=if_pos rfl
theorem Cg (β:Bt) {v:Nat} (L:Loc) (h:v≠nv):upB β nv L v=β v:=if_neg h
theorem AW (L:Loc) (h:β nv=none):Aw β (upB β nv L):=by
 intro v L' hv
 grind [Cg]
theorem S.Dc (σ:S) {we:List (Nat×D)} {t:Nat} (g:Nat):(σ.app ⟨c,we,AP (some t) (some (nv,o))⟩).go g=if g=t then some (nv,o)else σ.go g:=by
 rw[S.CN];simp only[AP,look]
 grind
theorem Sim.alloc (h:Sim N Δ w0 F0 M B0 σ F β a w) {t:Nat} {tt:Nat} (hnv:β nv=none) (htt:tt<N) {C:Array Value} {cap:Nat} (hh:w1.heap=w.heap) (hos:w1.os=w.os) (htape:w1.tape=w.tape) (hout:w1.output=w.output) (hfz:o.fz=false) (hrp:Dw.Ad t=true->∀ e∈o.es,AO e=true) (hown:Au F (upB β nv ⟨some w.heap.size,cap,o.s⟩) (w1.alloc (.cells C o.ty)) ⟨some w.heap.size,cap,o.s⟩ o) (hv:Env F (upB β nv ⟨some w.heap.size,cap,o.s⟩) d v) :
  Sim N Δ w0 F0 M B0 (σ.app ⟨c,Ah (some tt) d,AP (some t) (some (nv,o))⟩) F (upB β nv ⟨some w.heap.size,cap,o.s⟩) (a.put (some tt) v) (w1.alloc (.cells C o.ty)):=by
 have hβ:=AW (β:=β) (nv:=nv) ⟨some w.heap.size,cap,o.s⟩ hnv;have hsize:(w1.alloc (.cells C o.ty)).heap.size=w.heap.size+1:=by simp_all
 have hblk:∀ b,b<w.heap.size->(w1.alloc (.cells C o.ty)).heap[b]? =w.heap[b]?:=by
  grind [heap_alloc_old]
 refine h.change (row:=λ_=>False) hos htape hout (by omega) (λb hb _=>hblk b hb) (λ_ hr=>hr.elim) (NX.refl _) (λ_ _ _ _=>rfl) ?_ ?_ hβ (by rw[BJ];exact h.size) (by rw[Bo];exact h.defers)
  (h.Cm (NX.refl _) hβ (λt' e=>by simp_all) hv) ?_ ?_ ?_
 ·intro b i x hx;have hb:=h.fin b i x hx;rw[aAV (w:=w) (hblk b hb)];exact h.frz b i x hx
 ·intro b i x hx;have:=h.fin b i x hx;omega
 ·intro g v' o' hg;rw[S.Dc]at hg;split at hg
  ·cases hg;refine .inr ⟨_,Ak _ _ _,hfz,hown,λb hb=>?_⟩
   cases hb;refine⟨λi=>?_,by omega,.inl h.step.size,.inr (aAI _)⟩
   cases hF:F w.heap.size i with
   | none=>rfl
   | some x=>have:=h.fin _ _ _ hF;omega
  simp_all
 ·intro g g' v1 v2 o1 o2 L1 L2 b hg hg' hf hf' hL hL' hb hb' hr;have hr':w.heap.size<=b:=hr.resolve_left id;have key:∀ g v o' L,(σ.app ⟨c,Ah (some tt) d,AP (some t) (some (nv,o))⟩).go g=some (v,o')->o'.fz=false->upB β nv ⟨some w.heap.size,cap,o.s⟩ v=some L->L.b=some b->g=t:=by
   intro g v o' L hg hfz' hL hb;rw[S.Dc]at hg;split at hg
   ·assumption
   ·exfalso;obtain⟨L0,e0,_⟩:=h.own g v o' hg;have:=hβ _ _ e0;rw[hL]at this;cases this;have:=(h.sep g v o' L b hg hfz' e0 hb).2.1;omega
  grind
 ·intro φ hφ;refine⟨φ,hφ.keep (NX.refl _) hβ (by omega) (λ_ _ _ _ _ _=>rfl) (λg i j b hb=>hblk b (hφ.lt g i j b hb)) (λg v o hg=>?_) (λg v' o' hr hg hf=>?_) (λg i j b g' v' o' L' hb hg hf hL' hLb=>?_)⟩
  ·obtain⟨L,hL,_⟩:=h.own g v o hg;simp_all
  ·rw[S.Dc]at hg;split at hg
   ·simp_all
   ·refine .inl ⟨o',hg,hf,rfl,rfl,λi j e c he hj _=>⟨⟨e,he,hj⟩,λL b C x hL hb hC hx=>⟨C,?_,hx⟩⟩⟩
    rw[hblk b (h.sep g v' o' L b hg hf hL hb).2.1]at hC;exact hC
  ·rw[S.Dc]at hg;split at hg
   ·cases hg;rw[Ak]at hL';cases hL';cases hLb;have:=hφ.lt g i j _ hb;omega
   ·obtain⟨L0,e0,_⟩:=h.own g' v' o' hg;have:=hβ _ _ e0;rw[hL']at this;cases this;exact hφ.sep g i j b g' v' o' L' hb hg hf e0 hLb
end
section
variable {N:Nat} {w0:World} {F0:Fz} {M:Nat->Prop} {B0:Bt} {σ:S} {F:Fz} {β:Bt} {a:Act} {w:World}
def GC (R:D->Value->Prop) (cs:List D) (C:Array Value) (off:Nat):Prop:=∀ (j:Nat) c,cs[j]? =some c->∃ x,C[off+j]? =some x/\x.oneCell'=true/\R c x
theorem Ew (new:List Value):∀ (off k:Nat) (C:Array Value),((new.zipIdx k).foldl (λcs (c,j)=>cs.setIfInBounds (off+j) c) C).size=C.size /\
  ∀ q,((new.zipIdx k).foldl (λcs (c,j)=>cs.setIfInBounds (off+j) c) C)[q]? =if off+k<=q/\q<off+k+new.length/\q<C.size then new[q-(off+k)]? else C[q]?:=by
 induction new with
 | nil=>intro off k C;refine⟨rfl,λq=>?_⟩;rw[if_neg (by simp;omega)];rfl
 | cons x new ih =>
  intro off k C;simp only[List.zipIdx_cons,List.foldl_cons];obtain⟨h1,h2⟩:=ih off (k+1) (C.setIfInBounds (off+k) x)
  grind
theorem Ds (new:List D):∀ (cs:List D) (off:Nat),(setAt cs off new).length=cs.length /\
  ∀ q,(setAt cs off new)[q]? =if off<=q/\q<off+new.length/\q<cs.length then new[q-off]? else cs[q]?:=by
 induction new with
 | nil=>intro cs off;refine⟨rfl,λq=>?_⟩;rw[if_neg (by simp;omega)];rfl
 | cons x new ih =>
  intro cs off;simp only[setAt]
  grind
theorem HQ {places:Nat->Option (Nat×Nat)}:∀ (parts:List (Nat×Value)) (ps:List (Nat×Nat×D)) (cs:List D) (C:Array Value),
  cs.length=C.size->GC (Cel F β) cs C 0->(∀ x∈C,x.oneCell'=true)->DH cs.length ps ->
  parts.length=ps.length->(∀ (q:Nat) i x off s d,parts[q]? =some (i,x)->ps[q]? =some (off,s,d)->places i=some (off,s)/\Val F β d x) ->
  ∃ C',aAv places C parts=some C'/\C'.size=C.size/\(DR cs ps).length=cs.length/\GC (Cel F β) (DR cs ps) C' 0/\(∀ x∈C',x.oneCell'=true)
 | [],[],cs,C,hl,hc,h1,_,_,_=>⟨C,rfl,rfl,rfl,hc,h1⟩
 | [],_::_,_,_,_,_,_,_,h,_=>by simp at h
 | _::_,[],_,_,_,_,_,_,h,_=>by simp at h
 | (i,x)::parts,(off,s,d)::ps,cs,C,hl,hc,h1,hok,hlen,hp=>by
  obtain⟨hk,hs,hle,hok'⟩:=hok;obtain⟨hpl,hv⟩:=hp 0 i x off s d rfl rfl;obtain⟨hsz,hone,hcell⟩:=Cn hv hk;obtain⟨g1,g2⟩:=Ew x.cells.toList off 0 C;obtain⟨s1,s2⟩:=Ds (cells d) cs off;have hxs:x.cells.size=s:=by rw[hsz,hs]
  have e1:x.cells.zipIdx.foldl (λcs (c,j)=>cs.setIfInBounds (off+j) c) C=(x.cells.toList.zipIdx 0).foldl (λcs (c,j)=>cs.setIfInBounds (off+j) c) C:=by
   grind [Array.toList_zipIdx]
  obtain⟨C',f1,f2,f3,f4,f5⟩:=HQ parts ps (setAt cs off (cells d)) (x.cells.zipIdx.foldl (λcs (c,j)=>cs.setIfInBounds (off+j) c) C)
   (by simp_all) (by
    intro j c hj;rw[s2]at hj;rw[e1,g2];simp only[aAd,Nat.zero_add,Array.length_toList]
    by_cases hcond:off<=j/\j<off+(cells d).length/\j<cs.length
    ·simp_all
    ·rw[if_neg hcond]at hj;rw[if_neg (by omega)]
     have:=hc j c hj
     simp_all)
   (by
    grind [Array.mem_iff_getElem?])
   (by simp_all) (by simp_all) (λq i x off s d h1 h2=>hp (q+1) i x off s d (by simp_all) (by simp_all))
  simp_all[DR,aAv]
theorem Cs (z:Value) (h:Bk z=true):(cells (Bc z)).length=z.cells.size/\(∀ x∈z.cells,x.oneCell'=true)/\GC (Fro F) (cells (Bc z)) z.cells 0:=by
 have one:∀ v:Value,v.oneCell'=true->v.cells= #[v]->Bc v=CX v->(cells (Bc v)).length=v.cells.size/\(∀ x∈v.cells,x.oneCell'=true)/\GC (Fro F) (cells (Bc v)) v.cells 0:=by
  intro v h1 h2 h3;have h4:cells (CX v)=[CX v]:=by
   unfold CX;split<;>rfl
  rw[h3,h4,h2];refine⟨rfl,λx hx=>by simp_all,λj c hj=>?_⟩
  grind [Dm]
 cases z with
 | agg cs =>
  have h1:∀ v∈cs.toList,v.oneCell'=true:=by grind [Bk]
  refine⟨by simp[Bc,cells,aAi],λx hx=>h1 x (by grind [aAi]),λj c hj=>?_⟩
  grind [Bc,cells,aAi,Dm]
 | tuple vs=>grind [Bk,Value.oneCell']
 | _=>exact one _ (by simpa[Bk]using h) rfl rfl
theorem Dl {P:Program} (h:CA P t=some d):∃ i z,P.info? t=some i/\i.zero=some z/\Bk z=true/\z.cells.size=P.cellsOf t/\d=Bc z:=by
 unfold CA at h;cases hi:P.info? t with
 | none=>simp_all
 | some i =>
  cases hz:i.zero with
  | none=>simp_all
  | some z =>
   simp_all
theorem Au.Ik {C:Array Value} {ty:Nat} (hs:0<s) (hC:C.size=s) (hd:(cells d).length=s) (hc:GC (Cel F β) (cells d) C 0) :
  Au F β (w1.alloc (.cells C ty)) ⟨some w1.heap.size,1,s⟩ ⟨false,true,s,ty,[d]⟩:=by
 refine⟨rfl,hs,by simp,by simp,λe he=>by simp_all,C,heap_alloc_new w1 _,by simp[hC],?_⟩
 intro i j e c he hj;rcases i with _|i
 ·simp only[aAN,Option.some.injEq]at he;subst he;obtain⟨x,h1,h2,h3⟩:=hc j c hj;simp_all
 simp_all
theorem Au.Ig {C:Array Value} {ty cap:Nat} (hs:0<s) (hC:C.size=cap*s) (hl:es.length<=cap) (hm:cap<=maxLen) (hd:∀ e∈es,(cells e).length=s) (hc:∀ (i j:Nat) e c,es[i]? =some e->(cells e)[j]? =some c->∃ x,C[i*s+j]? =some x/\x.oneCell'=true/\Fro F c x) :
  Au F β (w1.alloc (.cells C ty)) ⟨some w1.heap.size,cap,s⟩ ⟨false,false,s,ty,es⟩ :=
 ⟨rfl,hs,hl,by simp_all,hd,C,heap_alloc_new w1 _,hC,λi j e c he hj=>by
  simp_all⟩
theorem GN {s:Nat} (hs:0<s):∀ (parts:List (Nat×Value)) (ps:List (Nat×D)) (es:List D) (C:Array Value),
  C.size=es.length*s->(∀ e∈es,(cells e).length=s)->(∀ (i j:Nat) e c,es[i]? =some e->(cells e)[j]? =some c->∃ x,C[i*s+j]? =some x/\x.oneCell'=true/\Fro F c x) ->
  (∀ p∈ps,known p.2=true/\(cells p.2).length=s/\p.1<es.length)->parts.length=ps.length ->
  (∀ (q:Nat) i x i' d,parts[q]? =some (i,x)->ps[q]? =some (i',d)->i=i'/\Fro F d x) ->
  ∃ C',aAv (λi=>some (i*s,s)) C parts=some C'/\C'.size=C.size/\(YJ es ps).length=es.length/\(∀ e∈YJ es ps,(cells e).length=s) /\
   (∀ (i j:Nat) e c,(YJ es ps)[i]? =some e->(cells e)[j]? =some c->∃ x,C'[i*s+j]? =some x/\x.oneCell'=true/\Fro F c x)
 | [],[],es,C,_,hd,hc,_,_,_=>⟨C,rfl,rfl,rfl,hd,hc⟩
 | [],_::_,_,_,_,_,_,_,h,_=>by simp at h
 | _::_,[],_,_,_,_,_,_,h,_=>by simp at h
 | (i,x)::parts,(i',d)::ps,es,C,hC,hd,hc,hok,hlen,hp=>by
  obtain⟨hk,hds,hi⟩:=hok (i',d) (by simp)
  simp only at hk hds hi;obtain⟨rfl,hv⟩:=hp 0 i x i' d rfl rfl;obtain⟨hsz,hone,hcell⟩:=Ga hv hk;have hxs:x.cells.size=s:=by omega
  obtain⟨g1,g2⟩:=Ew x.cells.toList (i*s) 0 C;have e1:x.cells.zipIdx.foldl (λcs (c,j)=>cs.setIfInBounds (i*s+j) c) C=(x.cells.toList.zipIdx 0).foldl (λcs (c,j)=>cs.setIfInBounds (i*s+j) c) C:=by
   grind [Array.toList_zipIdx]
  have hle:i*s+s<=C.size:=by
   rw[hC];have:(i+1)*s<=es.length*s:=aAB s hi
   grind
  obtain⟨C',f1,f2,f3,f4,f5⟩:=GN hs parts ps (es.set i d) (x.cells.zipIdx.foldl (λcs (c,j)=>cs.setIfInBounds (i*s+j) c) C)
   (by grind) (λe he=>by
    grind) (by
    intro q j e c he hj;rw[e1,g2];simp only[aAd,Array.length_toList]
    by_cases hq:q=i
    ·grind
    ·rw[aAe (λe=>hq e.symm)]at he
     have hjl:j<s:=by grind
     rw[if_neg]
     ·grind
     ·rw[hxs];rintro⟨c1,c2,_⟩;rcases Nat.lt_or_gt_of_ne hq with hlt|hgt
      ·have:(q+1)*s<=i*s:=aAB s hlt
       grind
      ·have:(i+1)*s<=q*s:=aAB s hgt
       grind)
   (λp hp'=>by
    grind) (by grind) (λq i x i' d h1 h2=>hp (q+1) i x i' d (by grind) (by grind))
  refine⟨C',?_,by grind,by grind [YJ],by simpa only[YJ]using f4,by simpa only[YJ]using f5⟩
  simp only[aAv]
  grind
theorem Hv {n m:Nat} (h:Bk z=true) (hz:z.cells.size=s) (_hs:0<s) (hn:n*s<=m) :
  ∀ (i j:Nat) e c,(aAg n (Bc z))[i]? =some e->(cells e)[j]? =some c->∃ x,(madeCells z.cells m)[i*s+j]? =some x/\x.oneCell'=true/\Fro F c x:=by
 intro i j e c he hj;obtain⟨h1,h2,h3⟩:=Cs (F:=F) z h;rw[aAp]at he;split at he
 ·rename_i hi;cases he;have hjs:j<s:=by grind
  obtain⟨x,hx1,hx2,hx3⟩:=h3 j c hj;refine⟨x,?_,hx2,hx3⟩;have hlt:i*s+j<m:=by
   have:(i+1)*s<=n*s:=aAB s hi
   grind
  simp_all[Nat.mod_eq_of_lt,madeCells]
 ·cases he
theorem Gj {n m:Nat} (h:Bk z=true) (hz:z.cells.size=s) (hs:0<s) (hn:n*s<=m) :
  ∀ (i j:Nat) e c,(aAg n (nrm (Bc z)))[i]? =some e->(cells e)[j]? =some c->∃ x,(madeCells z.cells m)[i*s+j]? =some x/\x.oneCell'=true/\Fro F c x:=by
 intro i j e c he hj;rw[aAp]at he;split at he
 ·rename_i hi;cases he;rw[Cl,BF,aAY,aAP]at hj;obtain⟨c',hc',rfl⟩:=hj;obtain⟨x,h1,h2,h3⟩:=Hv (F:=F) h hz hs hn i j (Bc z) c' (by simp[hi]) hc'
  exact⟨x,h1,h2,h3.nrm⟩
 ·cases he
theorem DD (h:Bk z=true):(cells (nrm (Bc z))).length=z.cells.size:=by
 rw[Cl,BF,List.length_map];exact(Cs (F:=λ_ _=>none) z h).1
end
theorem IK (C:Array Value) (xs:List Value) (p:Nat) (h:p+xs.length<=C.size) (q:Nat) :
  (C.toList.take p++xs++C.toList.drop (p+xs.length)).toArray[q]? =if p<=q/\q<p+xs.length then xs[q-p]? else C[q]?:=by
 grind
section
variable {N:Nat} {Δ:List Deferred} {w0:World} {F0:Fz} {M:Nat->Prop} {B0:Bt} {σ:S} {F:Fz} {β:Bt} {a:Act} {w:World}
theorem GK (h:Cel F β d v) (h1:v.oneCell'=true):cells d=[d]:=by
 cases d<;>try rfl
 cases h;cases h1
theorem Gn (h:Val F β d x) (hk:known d=true):∀ c∈cells d,cells c=[c]:=by
 intro c hc;obtain⟨_,_,h3⟩:=Cn h hk
 grind [aAT,GK]
theorem DP {e:D} {off:Nat} {new:List D} (hle:off+new.length<=(cells e).length) (h1:∀ c∈new,cells c=[c]) (hpos:0<new.length\/∃ cs,e= .agg cs) :
  cells (Ps e off new)=setAt (cells e) off new:=by
 unfold Ps;cases e with
 | agg cs=>rfl
 | _ =>
  simp only[cells,aAt]at hle ⊢;rcases hpos with hpos|⟨cs,h⟩
  ·match new,h1,hle,hpos with
   | [d],h1,hle,_ =>
    simp only[aAt]at hle;have:off=0:=by omega
    subst this;exact h1 d (by simp)
   | _::_::_,_,hle,_=>simp at hle;omega
  ·cases h
theorem Sim.write (h:Sim N Δ w0 F0 M B0 σ F β a w) {g v b:Nat} (hg:σ.go g=some (v,o)) (hfz:o.fz=false) (hL:β v=some L) (hb:L.b=some b) {C C':Array Value} (hC:w.heap[b]? =some (.cells C o.ty (0,0))) (hws:∀ p∈ws,p.2=none) (hown':Au F β (w.setRow b C') L { o with es:=es' }) (hrich:∀ φ,Ay F β w0.heap.size M σ w φ->∃ φ',Ay F β w0.heap.size M (σ.app ⟨c,[],(g,some (v,{ o with es:=es' }))::ws⟩) (w.setRow b C') φ') :
  Sim N Δ w0 F0 M B0 (σ.app ⟨c,[],(g,some (v,{ o with es:=es' }))::ws⟩) F β a (w.setRow b C'):=by
 obtain⟨s1,s2,s3⟩:=h.sep g v o L b hg hfz hL hb;have hgo:∀ g' v' o',(σ.app ⟨c,[],(g,some (v,{ o with es:=es' }))::ws⟩).go g'=some (v',o')->(g'=g/\v'=v/\o'={ o with es:=es' })\/(g'≠g/\σ.go g'=some (v',o')):=by
  intro g' v' o' hg';rw[S.CN]at hg';simp only[look]at hg';split at hg'
  ·rename_i q hq;split at hq
   ·simp_all
   ·have:=hws _ (Bj hq);simp_all
  grind
 have hsz:(w.setRow b C').heap.size=w.heap.size:=by simp_all
 refine h.change (row:=λx=>x=b) rfl rfl rfl (by omega) (λb' _ hne=>setRow_other w b b' C' hne) ?_ (NX.refl _) (λ_ _ _ _=>rfl) ?_ ?_ (Aw.refl _) h.size h.defers (λt=>h.env t) ?_ ?_ hrich
 ·grind
 ·intro b' i x hx;have hne:b'≠b:=by grind
  rw[aAV (w:=w) (setRow_other w b b' C' hne)];exact h.frz b' i x hx
 ·intro b' i x hx;rw[hsz];exact h.fin b' i x hx
 ·intro g' v' o' hg';rcases hgo g' v' o' hg' with⟨rfl,rfl,rfl⟩|⟨hne,hg'⟩
  ·simp_all
  ·refine .inl ⟨hg',λL' b' hf hL' hb'=>?_⟩
   rintro rfl;exact hne (h.dist g' g v' v o' o L' L b' hg' hg hf hfz hL' hL hb' hb)
 ·intro g1 g2 v1 v2 o1 o2 L1 L2 b' hg1 hg2 hf1 hf2 hL1 hL2 hb1 hb2 _;have key:∀ g' v' o',(σ.app ⟨c,[],(g,some (v,{ o with es:=es' }))::ws⟩).go g'=some (v',o')->∃ o'',σ.go g'=some (v',o'')/\o''.fz=o'.fz:=by
   grind
  obtain⟨p1,q1,r1⟩:=key _ _ _ hg1;obtain⟨p2,q2,r2⟩:=key _ _ _ hg2;exact h.dist g1 g2 v1 v2 p1 p2 L1 L2 b' q1 q2 (r1.trans hf1) (r2.trans hf2) hL1 hL2 hb1 hb2
theorem Gi {P:Program} (h:Sim N Δ w0 F0 M B0 σ F β a w) {g v i off n:Nat} (hg:σ.go g=some (v,o)) (hfz:o.fz=false) (hi:i<o.es.length) {px:Value} (hpx:Val F β (.optr g v i off) px) (hxn:x.cells.size=n) (hx2:∀ y∈x.cells,y.oneCell'=true) (hn:cs.length=n) (hone:∀ c∈cs,cells c=[c]) (hx:∀ (j:Nat) c,cs[j]? =some c->∃ y,x.cells[j]? =some y/\y.oneCell'=true/\(if o.var then Cel F β c y else Fro F c y)) (hle:off+n<=(cells (o.es.getD i .top)).length) (t:TypeId) (hti:P.info? t≠none) (htn:n=P.cellsOf t) (hnpos:0<n) (c:Prop) (hws:∀ p∈ws,p.2=none) (hrich:∀ φ L b C C',Ay F β w0.heap.size M σ w φ->β v=some L->L.b=some b->L.s=o.s->w.heap[b]? =some (.cells C o.ty (0,0))->C'.size=C.size ->
   (∀ j,j<n->C'[i*o.s+off+j]? =x.cells[j]?)->(∀ q,(q<i*o.s+off\/i*o.s+off+n<=q)->C'[q]? =C[q]?) ->
   ∃ φ',Ay F β w0.heap.size M (σ.app ⟨c,[],(g,some (v,{ o with es:=o.es.set i (Ps (o.es.getD i .top) off cs) }))::ws⟩) (w.setRow b C') φ') :
  ∃ w',(aAw t px x).run P w= .ok () w'/\Sim N Δ w0 F0 M B0 (σ.app ⟨c,[],(g,some (v,{ o with es:=o.es.set i (Ps (o.es.getD i .top) off cs) }))::ws⟩) F β a w':=by
 obtain⟨ti,hti⟩:=aAK.1 hti;have hsz:P.cellsOf t=ti.size:=by grind [aAX]
 obtain⟨L,b,hL,hb,rfl⟩:=hpx;obtain⟨L',hL',_,hkk⟩:=h.own g v o hg;rw[hL]at hL';cases hL';have hok:=hkk hfz;obtain⟨e1,e2,e3,e4,e5,e6⟩:=hok;rw[hb]at e6;obtain⟨C,hC,hCs,hcell⟩:=e6;have hget:o.es[i]? =some (o.es.getD i .top):=by simp[hi]
 have hlen:=e5 _ (aAA hget);have hxn:x.cells.toList.length=n:=by omega
 have hfit:i*o.s+off+n<=C.size:=by
  rw[hCs];have:(i+1)*o.s<=L.cap*o.s:=aAB _ (by omega)
  grind
 have hrun:=run_storeCells_at (P:=P) b (i*L.s+off) o.ty x.cells.toList 0 C w hC (by simp_all) (λv hv=>hx2 v (by simp_all))
 simp only[aAd]at hrun;obtain⟨C',hC'⟩:∃ C',C'=(C.toList.take (i*L.s+off)++x.cells.toList++C.toList.drop (i*L.s+off+x.cells.toList.length)).toArray:=⟨_,rfl⟩;obtain⟨w',hw'⟩:∃ w',w'=w.setRow b C':=⟨_,rfl⟩;rw[<- hC',<- hw']at hrun;have hsize:x.cells.size=ti.size:=by omega
 refine⟨w',by simp_all[aAw,aAs,storeVar,sizeOf,typeInfo],?_⟩
 subst hw';have hCz:C'.size=C.size:=by
  grind
 have hsp:=λq=>IK C x.cells.toList (i*L.s+off) (by rw[hxn,e1];exact hfit) q
 have hget':∀ q,C'[q]? =if i*L.s+off<=q/\q<i*L.s+off+x.cells.toList.length then x.cells.toList[q-(i*L.s+off)]? else C[q]?:=by
  grind
 refine h.write hg hfz hL hb hC hws ?_ λφ hφ=>hrich φ L b C C' hφ hL hb e1 hC hCz (λj hj=>?_) λq hq=>?_
 ·have hsetE:=DP (e:=o.es.getD i .top) (off:=off) (new:=cs) (by omega) hone (.inl (by omega))
  obtain⟨sa1,sa2⟩:=Ds cs (cells (o.es.getD i .top)) off;refine⟨e1,e2,by grind,e4,?_,?_⟩
  ·grind
  ·rw[hb];refine⟨_,setRow_heap w b C _ o.ty _ hC,by rw[hCz];exact hCs,?_⟩
   intro i' j e cc he hj;simp only at he;simp only;rw[hget',hxn,e1]
   by_cases hii:i'=i
   ·subst hii;rw[aAr hi]at he;cases he;rw[hsetE,sa2,hn]at hj
    by_cases hcond:off<=j/\j<off+n/\j<(cells (o.es.getD i' .top)).length
    ·rw[if_pos hcond]at hj;rw[if_pos ⟨by omega,by omega⟩]
     have e':i'*o.s+j-(i'*o.s+off)=j-off:=by omega
     rw[e'];obtain⟨y,y1,y2,y3⟩:=hx _ _ hj;exact⟨y,by simpa using y1,y2,y3⟩
    ·rw[if_neg hcond]at hj;have hjl:j<(cells (o.es.getD i' .top)).length:=(aAC.1 hj).1;rw[if_neg (by omega)]
     exact hcell i' j _ cc hget hj
   ·rw[aAe (λe=>hii e.symm)]at he
    have hjl:j<o.s:=by rw[<- e5 e (aAA he)];exact(aAC.1 hj).1
    rw[if_neg]
    ·exact hcell i' j e cc he hj
    ·rintro⟨c1,c2⟩;rcases Nat.lt_or_gt_of_ne hii with hlt|hgt
     ·have:(i'+1)*o.s<=i*o.s:=aAB _ hlt;rw[Nat.add_mul]at this;omega
     ·have:(i+1)*o.s<=i'*o.s:=aAB _ hgt;rw[Nat.add_mul]at this;omega
 ·rw[hget',hxn,e1,if_pos (by omega)]
  rw[show i*o.s+off+j-(i*o.s+off)=j by omega]
  simp
 ·rw[hget',hxn,e1,if_neg (by omega)]
theorem Hg {P:Program} (h:Sim N Δ w0 F0 M B0 σ F β a w) {g v i off n:Nat} (hg:σ.go g=some (v,o)) (hng:Dw.Ad g=false) (hfz:o.fz=false) (hi:i<o.es.length) {px:Value} (hpx:Val F β (.optr g v i off) px) (hx:Val F β d x) (hfro:o.var=false->Fro F d x) (hk:known d=true) (hn:(cells d).length=n) (hle:off+n<=(cells (o.es.getD i .top)).length) (t:TypeId) (hti:P.info? t≠none) (htn:n=P.cellsOf t) (hnpos:0<n) (c:Prop) :
  ∃ w',(aAw t px x).run P w= .ok () w'/\Sim N Δ w0 F0 M B0 (σ.app ⟨c,[],[(g,some (v,{ o with es:=o.es.set i (Ps (o.es.getD i .top) off (cells d)) }))]⟩) F β a w':=by
 obtain⟨x1,x2,x3⟩:=Cn hx hk;refine Gi h hg hfz hi hpx (by rw[x1,hn]) x2 hn (Gn hx hk) (λj cc hj=>?_) hle t hti htn hnpos c (ws:=[]) (λp hp=>by cases hp) λφ L b C C' hφ hL hb _ hC _ _ _=>⟨φ,?_⟩
 ·grind [Ga]
 ·have hgo:∀ g',(σ.app ⟨c,[],[(g,some (v,{ o with es:=o.es.set i (Ps (o.es.getD i .top) off (cells d)) }))]⟩).go g'=if g'=g then some (v,{ o with es:=o.es.set i (Ps (o.es.getD i .top) off (cells d)) })else σ.go g':=by
   intro g';have:=S.Dc (c:=c) (we:=[]) (t:=g) (nv:=v) (o:={ o with es:=o.es.set i (Ps (o.es.getD i .top) off (cells d)) }) σ g'
   exact this
  have hsz:(w.setRow b C').heap.size=w.heap.size:=by simp_all
  have hbφ:∀ g i j b',φ g i j b'->b'≠b:=by
   rintro g1 i1 j1 b' h1 rfl;exact hφ.sep g1 i1 j1 b' g v o L h1 hg hfz hL hb
  refine hφ.keep (NX.refl _) (Aw.refl _) (by omega) (λ_ _ _ _ _ _=>rfl) (λg1 i1 j1 b' h1=>setRow_other w b b' C' (hbφ g1 i1 j1 b' h1)) (λg1 v1 o1 h1=>?_) (λg1 v1 o1 hr h1 hf=>?_) (λg1 i1 j1 b' g2 v2 o2 L2 h1 h2 hf hL2=>?_)
  ·obtain⟨L1,hL1,_⟩:=h.own g1 v1 o1 h1;simp_all
  ·rw[hgo]at h1;split at h1
   ·simp_all
   ·rename_i hne;refine .inl ⟨o1,h1,hf,rfl,rfl,λi' j' e' c' he hj _=>⟨⟨e',he,hj⟩,λL1 b1 C1 x1 hL1 hb1 hC1 hx1=>⟨C1,?_,hx1⟩⟩⟩
    have:b1≠b:=by
     rintro rfl;exact hne (h.dist g1 g v1 v o1 o L1 L b1 h1 hg hf hfz hL1 hL hb1 hb)
    grind [setRow_other]
  ·rw[hgo]at h2;split at h2
   ·grind
   ·exact hφ.sep g1 i1 j1 b' g2 v2 o2 L2 h1 h2 hf hL2
theorem LL (h:Sim N Δ w0 F0 M B0 σ F β a w) (hx:Val F β d x) (hc:((view d).run σ).1) (hs:∀ e∈((view d).run σ).2,(cells e).length=s) :
  ∃ A cap,x= .slice A ((view d).run σ).2.length cap/\(0<((view d).run σ).2.length->∃ b o,A=some ⟨b,o,none⟩ /\
   ∀ (i j:Nat) e c,((view d).run σ).2[i]? =some e->(cells e)[j]? =some c->∃ y,w.cell? ⟨b,o+(i*s+j),none⟩=some y/\y.oneCell'=true/\Fro F c y):=by
 cases d<;>try exact hc.elim
 case sl es =>
  simp only[view,R.run]at hs ⊢;cases hx with
  | sl0 A cap=>simp_all
  | sl es b o c s' vf hc' hs' hF h1 hh =>
   refine⟨_,c,rfl,λhpos=>⟨b,o,rfl,λi j e cc he hj=>?_⟩⟩
   have:s'=s:=by
    grind
   subst this;exact⟨vf i j,by rw[<- aAW];exact h.frz _ _ _ (hF i j e cc he hj),h1 i j e cc he hj,hh i j e cc he hj⟩
 case nils =>
  cases hx;simp_all[view]
 case osl g v i0 n =>
  simp only[view,R.run]at hc hs ⊢;cases hg:σ.go g with
  | none=>simp_all
  | some p =>
   obtain⟨v',o⟩:=p;rw[hg]at hc hs;simp only[R.run]at hc hs ⊢;obtain⟨rfl,hvar,hin⟩:=hc;obtain⟨L,A,hL,rfl,hcap,_,hpos⟩:=hx;have hlen:((o.es.drop i0).take n).length=n:=by simp;omega
   refine⟨A,L.cap-i0,by rw[hlen],λhp=>?_⟩
   rw[hlen]at hp;obtain⟨b,hb,rfl⟩:=hpos hp;obtain⟨L',hL',hz,hk⟩:=h.own g v o hg;rw[hL]at hL';cases hL';have hidx:∀ (k:Nat) e,((o.es.drop i0).take n)[k]? =some e->o.es[i0+k]? =some e:=by
    grind
   have hos:o.s=s:=by
    have hm:((o.es.drop i0).take n)[0]? =some (((o.es.drop i0).take n)[0]'(by omega)):=aA (by omega)
    rw[<- hs _ (aAA hm)];have hm':=aAA (hidx 0 _ hm);cases hfz:o.fz with
    | true=>exact(((hz hfz).old hb).2.2.2.2.1 _ hm').symm
    | false=>exact((hk hfz).2.2.2.2.1 _ hm').symm
   refine⟨b,i0*L.s,rfl,λi j e cc he hj=>?_⟩
   have hLs:L.s=o.s:=by
    cases hfz:o.fz with
    | true=>exact((hz hfz).old hb).2.1
    | false=>exact(hk hfz).1
   have e':i0*L.s+(i*s+j)=(i0+i)*o.s+j:=by grind
   rw[e'];cases hfz:o.fz with
   | true =>
    obtain⟨_,_,_,_,_,h5⟩:=(hz hfz).old hb;rw[hb]at h5;obtain⟨y,y1,y2,y3⟩:=h5 _ j e cc (hidx i e he) hj;exact⟨y,h.frz _ _ _ y1,y2,y3⟩
   | false =>
    obtain⟨_,_,_,_,_,h6⟩:=hk hfz
    grind [aAq]
theorem KZ {b o:Nat} (hs:∀ e∈es,(cells e).length=s) (hc:∀ (i j:Nat) e c,es[i]? =some e->(cells e)[j]? =some c->∃ y,w.cell? ⟨b,o+(i*s+j),none⟩=some y/\y.oneCell'=true/\Fro F c y) :
  ∃ news:List Value,news.length=es.length*s/\(∀ j u,news[j]? =some u->w.cell? ((⟨b,o,none⟩:Addr).add j)=some u)/\(∀ u∈news,u.oneCell'=true) /\
   ∀ (i j:Nat) e c,es[i]? =some e->(cells e)[j]? =some c->∃ y,news[i*s+j]? =some y/\y.oneCell'=true/\Fro F c y:=by
 let f:Nat->Value:=λq=>(w.cell? ⟨b,o+q,none⟩).getD undef
 have key:∀ q,q<es.length*s->∃ i j e c,es[i]? =some e/\(cells e)[j]? =some c/\q=i*s+j:=by
  intro q hq;have hs0:0<s:=by
   grind
  have hi:q / s<es.length:=Nat.div_lt_of_lt_mul (by grind)
  have hj:q % s<s:=Nat.mod_lt _ hs0;have hget:es[q / s]? =some es[q / s]:=aA hi;have hl:=hs _ (List.getElem_mem hi);exact⟨q / s,q % s,_,(cells es[q / s])[q % s]'(by omega),hget,aA (by omega),by grind [Nat.div_add_mod]⟩
 refine⟨(aAR (es.length*s)).map f,by simp,?_,?_,?_⟩
 ·intro j u hu;simp only[aAY,aAP]at hu;obtain⟨q,hq,rfl⟩:=hu;have hlt:j<es.length*s:=by
   grind
  grind [Bs]
 ·grind
 ·intro i j e c he hj;obtain⟨y,y1,y2,y3⟩:=hc i j e c he hj;refine⟨y,?_,y2,y3⟩;have hlt:i*s+j<es.length*s:=by
   have hil:=(aAC.1 he).1;have hjl:=(aAC.1 hj).1;rw[hs e (aAA he)]at hjl;have:(i+1)*s<=es.length*s:=aAB _ hil
   grind
  grind
theorem Eu {P:Program} (w:World) (base:Nat) (t ty e:TypeId) (i:TypeInfo) (size:Nat) (ht:P.underlying t=some (.slice e)) (hi:P.info? e=some i)
  (v:Value) (n:Nat) (xs:List Value) (hown:w.ownsRow base e size v n xs) (c:Nat):(Builtin.append_ #[t,t] ty #[v,.slice none 0 c]).run P w= .ok v w:=by
 rcases hown.2 with⟨rfl,rfl⟩|⟨g,cap,cur,rfl,_,_,hnc,_⟩
 ·simp[Builtin.append_,run_underlying ht,sizeOf,typeInfo,hi,Builtin.lenOf,Builtin.firstCells]
 ·simp[Builtin.append_,run_underlying ht,sizeOf,typeInfo,hi,Builtin.lenOf,Builtin.firstCells,hnc,storeCells]
end
section
variable {N:Nat} {Δ:List Deferred} {w0:World} {F0:Fz} {M:Nat->Prop} {B0:Bt} {σ:S} {F:Fz} {β:Bt} {a:Act} {w:World}
theorem JD (h:Sim N Δ w0 F0 M B0 σ F β a w) (hx:Val F β d x) {ty:Nat} (hs:0<s) (hc:((target s ty d).run σ).1) :
  ∃ xs,w.ownsRow 0 ty s x ((target s ty d).run σ).2.1.length xs/\(∀ e∈((target s ty d).run σ).2.1,(cells e).length=s) /\
   (∀ (i j:Nat) e c,((target s ty d).run σ).2.1[i]? =some e->(cells e)[j]? =some c->∃ y,xs[i*s+j]? =some y/\y.oneCell'=true/\Fro F c y) /\
   ((((target s ty d).run σ).2.2.1=[]/\x.ownBlock=none/\((target s ty d).run σ).2.2.2=false)\/∃ g v o L,((target s ty d).run σ).2.2.1=[(g,none)]/\σ.go g=some (v,o)/\o.fz=false/\o.var=false/\β v=some L/\x.ownBlock=L.b/\((target s ty d).run σ).2.2.2=Ad g):=by
 cases d<;>try exact hc.elim
 case nils =>
  cases hx;exact⟨[],World.ownsRow_nil w 0 ty s,λe he=>by simp[target]at he,λi j e c he=>by simp[target]at he,.inl ⟨rfl,rfl,rfl⟩⟩
 case osl g v i0 n =>
  simp only[target,R.run]at hc ⊢;cases hg:σ.go g with
  | none=>simp_all
  | some p =>
   obtain⟨v',o⟩:=p;rw[hg]at hc;simp only[R.run]at hc ⊢;obtain⟨rfl,rfl,hn,hfz,hvar,rfl,rfl⟩:=hc;obtain⟨L,A,hL,rfl,hcap,ha0,_⟩:=hx;obtain⟨L',hL',_,hk⟩:=h.own g v o hg;rw[hL]at hL';cases hL';obtain⟨e1,e2,e3,e4,e5,e6⟩:=hk hfz;have hA:=ha0 rfl;have hlen:(o.es.take n).length=n:=by simp;omega
   have hidx:∀ (k:Nat) e,(o.es.take n)[k]? =some e->o.es[k]? =some e:=by
    grind
   rw[hlen];cases hb:L.b with
   | none =>
    rw[hb]at e6 hA;have hn0:n=0:=by omega
    subst hn0;have hc0:L.cap-0=0:=by omega
    simp only[Option.map_none]at hA;subst hA;rw[hc0];exact⟨[],World.ownsRow_nil w 0 o.ty o.s,λe he=>by simp at he,λi j e c he=>by simp at he,.inr ⟨g,v,o,L,rfl,hg,hfz,hvar,hL,by rw[hb];rfl,rfl⟩⟩
   | some b =>
    rw[hb]at e6 hA;obtain⟨C,hC,hCs,hcell⟩:=e6;simp only[Option.map_some]at hA;subst hA;have hle:n*o.s<=C.size:=by simp_all[aAB]
    refine⟨C.toList.take (n*o.s),⟨by simp;omega,.inr ⟨b,L.cap,C,by simp,Nat.zero_le _,hC,by omega,by simp_all,hCs,rfl⟩⟩,
     λe he=>e5 e (aAJ he),λi j e c he hj=>?_,.inr ⟨g,v,o,L,rfl,hg,hfz,hvar,hL,by rw[hb];rfl,rfl⟩⟩
    have hil:i<n:=by grind
    have hjl:j<o.s:=by grind
    obtain⟨y,y1,y2,y3⟩:=hcell i j e c (hidx i e he) hj;rw[hvar]at y3;refine⟨y,?_,y2,y3⟩;rw[aAl,if_pos]
    ·simp_all
    ·have:(i+1)*o.s<=n*o.s:=aAB _ hil
     grind
theorem Jc {P:Program} (h:Sim N Δ w0 F0 M B0 σ F β a w) {t:Nat} (hnv:β nv=none) (ht:t<N) (htr:Ad t=false) {dx dy:D} {y:Value} (hx:Val F β dx x) (hy:Val F β dy y) {tt ty e:TypeId} {i:TypeInfo} (hu:P.underlying tt=some (.slice e)) (hi:P.info? e=some i) (hz:i.zero=some z) (hsi:i.size=s) (hzs:z.cells.size=s) (hs:0<s) (hby:i.bytes<=65536) (hc1:((view dy).run σ).1) (hc2:((target s e dx).run σ).1) (hlen:((target s e dx).run σ).2.1.length+((view dy).run σ).2.length<=16777216) (hnew:∀ q∈((view dy).run σ).2,(cells q).length=s) (hpl:((target s e dx).run σ).2.2.2=true->∀ q∈((target s e dx).run σ).2.1++((view dy).run σ).2,AO q=true) (c:Prop) :
  ∃ v' w' β',(Builtin.append_ #[tt,tt] ty #[x,y]).run P w= .ok v' w'/\Aw β β'/\(∀ v,v≠nv->β' v=β v) /\
   Sim N Δ w0 F0 M B0 (σ.app ⟨c,Ah (some t) (.osl (nmR ((target s e dx).run σ).2.2.2 t) nv 0 (((target s e dx).run σ).2.1.length+((view dy).run σ).2.length)),
    Dx ((target s e dx).run σ).2.2.2 (some t) (some (nv,⟨false,false,s,e,((target s e dx).run σ).2.1++((view dy).run σ).2⟩))++((target s e dx).run σ).2.2.1⟩) F β' (a.put (some t) v') w':=by
 obtain⟨xs,hown,hold,hxs,hws⟩:=JD h hx hs hc2;obtain⟨A,cap,rfl,hA⟩:=LL h hy hc1 hnew;generalize((target s e dx).run σ).2.1=old at *;generalize((view dy).run σ).2=new at *;generalize((target s e dx).run σ).2.2.1=ws at *;generalize((target s e dx).run σ).2.2.2=r at *;have hmax:old.length+new.length<=maxLen:=by simp only[maxLen];omega
 have hbytes:(old.length+new.length)*i.bytes<=140737488355328:=by
  have:(old.length+new.length)*i.bytes<=16777216*65536:=Nat.mul_le_mul hlen hby;omega
 have hrun:∃ news v' w',news.length=new.length*s/\(∀ (i j:Nat) e c,new[i]? =some e->(cells e)[j]? =some c->∃ y,news[i*s+j]? =some y/\y.oneCell'=true/\Fro F c y) /\
   (Builtin.append_ #[tt,tt] ty #[x,.slice A new.length cap]).run P w= .ok v' w'/\w'.ownsRow 0 e s v' (old.length+new.length) (xs++news)/\w.grownBy w' x.ownBlock/\(v'.ownBlock=x.ownBlock\/v'.ownBlock=some w.heap.size):=by
  cases A with
  | none =>
   have hm:new=[]:=by
    simp_all
   subst hm;refine⟨[],x,w,by simp,λi j e c he=>by simp at he,Eu w 0 tt ty e i s hu hi x _ xs hown cap,by simp_all,⟨rfl,rfl,rfl,aAI _,λ_ _ _=>rfl⟩,.inl rfl⟩
  | some ad =>
   have hnews:∃ news:List Value,news.length=new.length*s/\(∀ j u,news[j]? =some u->w.cell? (ad.add j)=some u)/\(∀ u∈news,u.oneCell'=true) /\
     ∀ (i j:Nat) e c,new[i]? =some e->(cells e)[j]? =some c->∃ y,news[i*s+j]? =some y/\y.oneCell'=true/\Fro F c y:=by
    rcases aAk new.length with h0|h0
    ·simp_all
    ·obtain⟨b,o,hh,hcc⟩:=hA h0;simp_all[KZ]
   obtain⟨news,n1,n2,n3,n4⟩:=hnews;obtain⟨v',w',r1,r2,r3,_,r5⟩:=run_append_own_at (P:=P) w 0 tt ty e i z s i.bytes hu hi hz hsi rfl hzs hs x old.length xs hown ad new.length cap news n1 n2 n3 hmax hbytes (Nat.zero_le _)
   grind
 obtain⟨news,v',w',n1,n4,r1,r2,r3,r5⟩:=hrun;have hloc:∃ L:Loc,L.s=s/\v'= .slice (L.b.map λb=>⟨b,0,none⟩) (old.length+new.length) L.cap/\v'.ownBlock=L.b/\Au F (upB β nv L) w' L ⟨false,false,s,e,old++new⟩:=by
  have hall:∀ q∈old++new,(cells q).length=s:=λq hq=>(aAb.1 hq).elim (hold q) (hnew q)
  rcases r2.2 with⟨hv,h0⟩|⟨g,cap',cur,hv,_,hg,hnc,hcm,hcs,htake⟩
  ·have h1:old=[]:=aAH (by omega)
   have h2:new=[]:=aAH (by omega)
   subst h1;subst h2;subst hv;exact⟨⟨none,0,s⟩,rfl,rfl,rfl,rfl,hs,by simp,by simp,λe he=>by simp at he,rfl,rfl⟩
  ·subst hv;refine⟨⟨some g,cap',s⟩,rfl,rfl,rfl,rfl,hs,by simp_all,by simp_all,hall,cur,hg,hcs,λi j q cc hq hj=>?_⟩
   have hil:i<old.length+new.length:=by
    grind
   have hjl:j<s:=by grind
   have hlt:i*s+j<(old.length+new.length)*s:=by
    have:(i+1)*s<=(old.length+new.length)*s:=aAB _ hil
    grind
   have hcur:cur[i*s+j]? =(xs++news)[i*s+j]?:=by
    grind
   have hxl:xs.length=old.length*s:=hown.1
   by_cases hio:i<old.length
   ·simp only at hq;rw[aAG hio]at hq;obtain⟨y,y1,y2,y3⟩:=hxs i j q cc hq hj;refine⟨y,?_,y2,by simpa using y3⟩
    rw[hcur,aAG]
    ·exact y1
    ·exact(aAC.1 y1).1
   ·simp only at hq;rw[aAF (by omega)]at hq
    obtain⟨y,y1,y2,y3⟩:=n4 _ j q cc hq hj;refine⟨y,?_,y2,by simp_all⟩
    have hmul:old.length*s<=i*s:=aAB _ (by omega)
    rw[hcur,aAF (by omega),hxl]
    rw[<- y1];congr 1
    grind [Nat.sub_mul]
 obtain⟨L,hLs,hv',hvb,hok⟩:=hloc;have hβ:=AW (β:=β) (nv:=nv) L hnv;refine⟨v',w',upB β nv L,r1,hβ,λv hv=>Cg _ _ hv,?_⟩
 have hrow:∀ b,x.ownBlock=some b->∃ g v o Lg,ws=[(g,none)]/\σ.go g=some (v,o)/\o.fz=false/\o.var=false/\β v=some Lg/\Lg.b=some b/\r=Ad g:=by
  grind
 obtain⟨tt,htt⟩:∃ tt,tt=nmR r t:=⟨_,rfl⟩;have hput:∀ q,Dx r (some t) q=AP (some tt) q:=λq=>by rw[htt];rfl
 rw[<- htt,hput];have hgo:∀ g',(σ.app ⟨c,Ah (some t) (.osl tt nv 0 (old.length+new.length)),AP (some tt) (some (nv,⟨false,false,s,e,old++new⟩))++ws⟩).go g' =
   if g'=tt then some (nv,⟨false,false,s,e,old++new⟩)else match look ws g' with|some x=>x|none=>σ.go g':=by
  intro g';rw[S.CN];simp only[AP,aAa,look];split
  ·rename_i q hq;split at hq
   ·rename_i e1;cases hq;rw[if_pos e1]
   ·rename_i e1;rw[if_neg e1,hq]
  ·rename_i hq;split at hq
   ·cases hq
   ·rename_i e1;rw[if_neg e1,hq]
 have hold':∀ g' v o',g'≠tt->(σ.app ⟨c,Ah (some t) (.osl tt nv 0 (old.length+new.length)),AP (some tt) (some (nv,⟨false,false,s,e,old++new⟩))++ws⟩).go g'=some (v,o') ->
   σ.go g'=some (v,o')/\∀ Lg b,o'.fz=false->β v=some Lg->Lg.b=some b->¬ x.ownBlock=some b:=by
  intro g' v o' hne hg';rw[hgo,if_neg hne]at hg';have hlk:look ws g'=none/\σ.go g'=some (v,o'):=by
   grind [look]
  refine⟨hlk.2,λLg b hf hL hb hr=>?_⟩
  obtain⟨g,v1,o1,Lg1,q1,q2,q3,_,q5,q6,_⟩:=hrow b hr;have:=h.dist g' g v v1 o' o1 Lg Lg1 b hlk.2 q2 hf q3 hL q5 hb q6;subst this;rw[q1]at hlk;simp[look]at hlk
 refine h.change (row:=λb=>x.ownBlock=some b) r3.os r3.tape r3.output r3.size (λb hb hr=>r3.block b hb (λe=>hr e.symm)) ?_ (NX.refl _) (λ_ _ _ _=>rfl) ?_ ?_ hβ (by rw[BJ];exact h.size) (by rw[Bo];exact h.defers)
  (h.Cm (NX.refl _) hβ (λt' e=>by cases e;exact ht) ?_) ?_ ?_ ?_
 ·intro b hr;obtain⟨g,v,o,Lg,_,q2,q3,q4,q5,q6,_⟩:=hrow b hr;exact(h.sep g v o Lg b q2 q3 q5 q6).2.2.imp id And.left
 ·intro b j u hu;have hne:¬ x.ownBlock=some b:=by
   intro hr;obtain⟨g,v,o,Lg,_,q2,q3,_,q5,q6,_⟩:=hrow b hr;rw[(h.sep g v o Lg b q2 q3 q5 q6).1 j]at hu;cases hu
  rw[aAV (w:=w) (r3.block b (h.fin b j u hu) (λe=>hne e.symm))]
  exact h.frz b j u hu
 ·intro b j u hu;exact aAD (h.fin b j u hu) r3.size
 ·refine⟨L,_,Ak _ _ _,hv',?_,λ_=>rfl,λhp=>?_⟩
  ·have:=hok.2.2.1;simpa using this
  ·cases hLb:L.b with
   | none =>
    obtain⟨_,_,k3,_,_,k6⟩:=hok;rw[hLb]at k6;simp only[List.length_append]at k3;omega
   | some b=>exact⟨b,rfl,by simp⟩
 ·intro g' v o' hg'
  by_cases hgt:g'=tt
  ·rw[hgo,if_pos hgt]at hg';cases hg';refine .inr ⟨L,Ak _ _ _,rfl,hok,λb hb=>?_⟩
   obtain⟨_,_,_,_,_,k6⟩:=hok;rw[hb]at k6;obtain⟨C,hC,_⟩:=k6;have hbl:b<w'.heap.size:=(Array.getElem?_eq_some_iff.1 hC).1;rw[hvb,hb]at r5;rcases r5 with r5|r5
   ·obtain⟨g,v1,o1,Lg,_,q2,q3,q4,q5,q6,q7⟩:=hrow b r5.symm;obtain⟨s1,s2,s3⟩:=h.sep g v1 o1 Lg b q2 q3 q5 q6;refine⟨s1,hbl,s3.imp id (λz=>⟨z.1,z.2.imp (λhz=>?_) id⟩),.inl r5.symm⟩
    have:r=true:=q7.trans hz;rw[hgt,htt,this];simp[nmR,Ad]
   ·cases r5;refine⟨λi=>?_,hbl,.inl h.step.size,.inr (aAI _)⟩
    cases hF:F w.heap.size i with
    | none=>rfl
    | some u=>have:=h.fin _ _ _ hF;omega
  ·exact .inl (hold' g' v o' hgt hg')
 ·intro g1 g2 v1 v2 o1 o2 L1 L2 b hg1 hg2 hf1 hf2 hL1 hL2 hb1 hb2 hr;have key:∀ g' v o' Lg,(σ.app ⟨c,Ah (some t) (.osl tt nv 0 (old.length+new.length)),AP (some tt) (some (nv,⟨false,false,s,e,old++new⟩))++ws⟩).go g'=some (v,o')->o'.fz=false->upB β nv L v=some Lg->Lg.b=some b->g'=tt:=by
   intro g' v o' Lg hg' hf hL hb
   by_cases hgt:g'=tt
   ·exact hgt
   ·exfalso;obtain⟨k1,k2⟩:=hold' g' v o' hgt hg';obtain⟨L0,e0,_⟩:=h.own g' v o' k1;have:=hβ _ _ e0;rw[hL]at this;cases this;rcases hr with hr|hr
    ·exact k2 _ b hf e0 hb hr
    ·have:=(h.sep g' v o' Lg b k1 hf e0 hb).2.1;omega
  rw[key g1 v1 o1 L1 hg1 hf1 hL1 hb1,key g2 v2 o2 L2 hg2 hf2 hL2 hb2]
 ·intro φ hφ;have hnw:∀ g i j b,φ g i j b->¬ x.ownBlock=some b:=by
   intro g i j b hb hr;obtain⟨g1,v1,o1,Lg,_,q2,q3,_,q5,q6,_⟩:=hrow b hr;exact hφ.sep g i j b g1 v1 o1 Lg hb q2 q3 q5 q6
  have hkeep:∀ g i j b,φ g i j b->w'.heap[b]? =w.heap[b]?:=λg i j b hb=>r3.block b (hφ.lt g i j b hb) (λe=>hnw g i j b hb e.symm)
  refine⟨φ,hφ.keep (NX.refl _) hβ r3.size (λ_ _ _ _ _ _=>rfl) hkeep (λg v o hg=>?_) (λg v o' hr hg hf=>?_) (λg i j b g' v' o' L' hb hg hf hL' hLb=>?_)⟩
  ·obtain⟨L,hL,_⟩:=h.own g v o hg;exact⟨L,hL⟩
  ·by_cases hgt:g=tt
   ·rw[hgo,if_pos hgt]at hg;cases hg;refine .inr (hpl ?_);cases hrb:r with
    | true=>rfl
    | false =>
     rw[hgt,htt,hrb]at hr;simp only[nmR,cond_false]at hr;rw[htr]at hr;cases hr
   ·obtain⟨k1,k2⟩:=hold' g v o' hgt hg;refine .inl ⟨o',k1,hf,rfl,rfl,λi j e c he hj _=>⟨⟨e,he,hj⟩,λL b C x hL hb hC hx=>⟨C,?_,hx⟩⟩⟩
    rw[r3.block b (h.sep g v o' L b k1 hf hL hb).2.1 (λe=>k2 L b hf hL hb e.symm)]at hC
    exact hC
  ·by_cases hgt:g'=tt
   ·rw[hgo,if_pos hgt]at hg;cases hg;rw[Ak]at hL';cases hL';rw[hvb,hLb]at r5;rcases r5 with r5|r5
    ·exact hnw g i j b hb r5.symm
    ·cases r5;have:=hφ.lt g i j _ hb;omega
   ·obtain⟨k1,_⟩:=hold' g' v' o' hgt hg;obtain⟨L0,e0,_⟩:=h.own g' v' o' k1;have:=hβ _ _ e0;rw[hL']at this;cases this;exact hφ.sep g i j b g' v' o' L' hb k1 hf e0 hLb
end
def noB:Bt:=λ_=>none
def GA (F:Fz) (w:World) (b s ty:Nat) (d:D):Prop:=Au F noB w ⟨some b,1,s⟩ ⟨false,true,s,ty,[d]⟩
structure Hd where
 b:Nat
 s:Nat
 ty:Nat
 φ:Nat->Nat->Prop
def Hd.own (m:Hd) (b:Nat):Prop:=b=m.b\/∃ j,m.φ j b
variable {Mb:List Hd}
def Abj (m m':Hd):Prop:=∀ b,m.own b->¬ m'.own b
structure DN (F:Fz) (w:World) (m:Hd) (d:D):Prop where
 var:GA F w m.b m.s m.ty d
 none_:∀ i,F m.b i=none
 lt:m.b<w.heap.size
 fno:∀ j b,m.φ j b->∀ k,F b k=none
 flt:∀ j b,m.φ j b->b<w.heap.size
 fne:∀ j b,m.φ j b->b≠m.b
 dis:∀ j j' b,m.φ j b->m.φ j' b->j=j'
 row:∀ C (j:Nat) x s ty es,w.heap[m.b]? =some (.cells C m.ty (0,0))->(cells d)[j]? =some (.row s ty es)->C[j]? =some x->Bd F w (m.φ j) s ty es x
 hole:∀ (j nm u n:Nat),(cells d)[j]? ≠some (.hole nm u n)
inductive Cp (F:Fz) (w:World) (ptr:List (Nat×(Nat×Nat))):Nat->List D->List Value->List Hd->Prop
 | nil (j:Nat):Cp F w ptr j [] [] []
 | val (j:Nat) (d:D) (ds:List D) (x:Value) (xs:List Value) (M:List Hd) (hp:look ptr j=none) (h:Fro F d x) (hr:Cp F w ptr (j+1) ds xs M):Cp F w ptr j (d::ds) (x::xs) M
 | ptr (j:Nat) (d:D) (ds:List D) (xs:List Value) (M:List Hd) (m:Hd) (hp:look ptr j=some (m.s,m.ty)) (h:DN F w m d)
   (hM:∀ m'∈M,Abj m m') (hr:Cp F w ptr (j+1) ds xs M):Cp F w ptr j (d::ds) (.pointer (some ⟨m.b,0,none⟩)::xs) (m::M)
inductive UG (F:Fz) (w:World) (ptr:List (Nat×(Nat×Nat))):Nat->List D->List Value->List Hd->Prop
 | nil (j:Nat):UG F w ptr j [] [] []
 | val (j:Nat) (d:D) (ds:List D) (x:Value) (xs:List Value) (M:List Hd) (hp:look ptr j=none) (hn:∀ f caps,d≠ .clo f caps) (h:Fro F d x) (hr:UG F w ptr (j+1) ds xs M):UG F w ptr j (d::ds) (x::xs) M
 | ptr (j:Nat) (d:D) (ds:List D) (xs:List Value) (M:List Hd) (m:Hd) (hp:look ptr j=some (m.s,m.ty)) (h:DN F w m d)
   (hM:∀ m'∈M,Abj m m') (hr:UG F w ptr (j+1) ds xs M):UG F w ptr j (d::ds) (.pointer (some ⟨m.b,0,none⟩)::xs) (m::M)
 | clo (j f:Nat) (caps:List D) (vs:List Value) (ds:List D) (xs:List Value) (M1 M2:List Hd) (hp:look ptr j=none) (hc:Cp F w ptr (64*(j+1)) caps vs M1)
   (hM:∀ m∈M1,∀ m'∈M2,Abj m m') (hr:UG F w ptr (j+1) ds xs M2):UG F w ptr j (.clo f caps::ds) (fnV f vs::xs) (M1++M2)
structure IY (F:Fz) (w:World) (n0:Nat) (M:List Hd) (effs:List D) (ψ:Nat->Nat->Nat->Prop):Prop where
 ok:∀ (k:Nat) m,M[k]? =some m->DN F w ⟨m.b,m.s,m.ty,ψ k⟩ (effs.getD k .top)
 lt:∀ k j b,ψ k j b->k<M.length
 from_:∀ k j b,ψ k j b->n0<=b\/∃ m∈M,m.own b
 dis:∀ k j k' j' b,ψ k j b->ψ k' j' b->k=k'
 ne:∀ k j b m,ψ k j b->m∈M->b≠m.b
def Kq (w:World) (F':Fz) (w':World) (d:D) (v:Value) (ρ:Nat->Prop):Kind->Prop
 | .val=>Fro F' d v
 | .ground=>Fro F' d v
 | .row s ty=>∃ es L,d= .sl es/\v= .slice (L.b.map λb=>⟨b,0,none⟩) es.length L.cap/\Au F' noB w' L ⟨false,false,s,ty,es⟩/\∀ b,L.b=some b->w.heap.size<=b/\b<w'.heap.size/\(∀ i,F' b i=none)/\ρ b
 | .mat s ty=>∃ es L,∃ φ:Nat->Nat->Nat->Prop,d= .sl es/\v= .slice (L.b.map λb=>⟨b,0,none⟩) es.length L.cap/\Au F' noB w' L ⟨false,false,s,ty,es⟩/\(∀ b,L.b=some b->w.heap.size<=b/\b<w'.heap.size/\(∀ i,F' b i=none)/\ρ b) /\
   (∀ i j b,φ i j b->w.heap.size<=b/\b<w'.heap.size/\(∀ k,F' b k=none)/\ρ b/\L.b≠some b)/\(∀ i j i' j' b,φ i j b->φ i' j' b->i=i'/\j=j') /\
   (∀ b C (i j:Nat) e x s' ty' es',L.b=some b->w'.heap[b]? =some (.cells C ty (0,0))->es[i]? =some e->(cells e)[j]? =some (.row s' ty' es')->C[i*s+j]? =some x->Bd F' w' (φ i j) s' ty' es' x) /\
   (∀ (i j:Nat) e nm u n,es[i]? =some e->(cells e)[j]? ≠some (.hole nm u n))
 | .ptr s ty=>∃ b,v= .pointer (some ⟨b,0,none⟩)/\GA F' w' b s ty d/\w.heap.size<=b/\b<w'.heap.size/\(∀ i,F' b i=none)/\ρ b
 | .inpl ..=>False
 | .opn ..=>False
 | .tupPtr q s ty=>∃ (ds:List D) (vs:List Value) (b:Nat),d= .tup ds/\v= .tuple vs.toArray/\ds.length=vs.length/\(∀ (j:Nat) c x,j≠q->ds[j]? =some c->vs[j]? =some x->Fro F' c x) /\
   vs[q]? =some (.pointer (some ⟨b,0,none⟩))/\GA F' w' b s ty (ds.getD q .top)/\w.heap.size<=b/\b<w'.heap.size/\(∀ i,F' b i=none)/\ρ b
def Wr (M:List Hd) (b:Nat):Prop:=∃ m∈M,m.own b
def BW (sp:Spec) (w:World) (F:Fz) (ds:List D) (M:List Hd) (e:Ending) (w':World):Prop :=
 ∃ v F' ψ ρ,e= .returned v/\Fok F' w'/\(∀ b i x,F' b i=some x->b<w'.heap.size)/\Stp (Wr M) w F w' F'/\Kq w F' w' (sp.res ds) v ρ sp.kind/\IY F' w' w.heap.size M (sp.eff ds) ψ/\∀ k j b,ψ k j b->¬ ρ b
def FF (P:Program) (f:Nat):Prop:=∃ fn,P.funcs[f]? =some fn/\(fn.name == "runtime.NumGoroutine")=false/\fn.body.isNone=false
def CB.out (q:CB) (zs ks:List Int):Value:=match q.fi with|none=>.tuple #[]|some f=>.int .i64 (f zs ks)
def GF (P:Program) (f:Nat) (q:CB):Prop :=
 (∀ zs ks,q.pre zs ks->(q.fl zs ks).length=zs.length/\q.fk zs ks<=zs.length) /\
 (∀ (w:World) (a:Option Addr) (cap:Nat) (ks:List Int),q.pre [] ks->Calls P f (.slice a 0 cap::ks.map (Value.int .i64)).toArray w λe w'=>e= .returned (if q.r then .slice a 0 cap else q.out [] ks)/\w'=w) /\
 ∀ (w:World) (b off cap ty:Nat) (C:Array Value) (zs ks:List Int),q.pre zs ks->0<zs.length->zs.length<4611686018427387904->zs.length<=cap->w.heap[b]? =some (.cells C ty (0,0))->(∀ (j:Nat) x,zs[j]? =some x->C[off+j]? =some (.int .i64 x)) ->
  Calls P f (.slice (some ⟨b,off,none⟩) zs.length cap::ks.map (Value.int .i64)).toArray w λe w'=>e= .returned (if q.r then .slice (some ⟨b,off,none⟩) (q.fk zs ks) cap else q.out zs ks)/\w'.os=w.os/\w'.tape=w.tape/\w'.output=w.output /\
   w.heap.size<=w'.heap.size/\(∀ b',b'<w.heap.size->b'≠b->w'.heap[b']? =w.heap[b']?)/\∃ C',w'.heap[b]? =some (.cells C' ty (0,0))/\C'.size=C.size/\(∀ k,(k<off\/off+zs.length<=k)->C'[k]? =C[k]?) /\
   ∀ (j:Nat) x,(q.fl zs ks)[j]? =some x->C'[off+j]? =some (.int .i64 x)
def Cq (P:Program) (F:Fz) (e:String×List D):Prop:=∀ g,P.globalNamed e.1=some g->∀ (j:Nat) d,e.2[j]? =some d->∃ x,F g j=some x/\x.oneCell'=true/\Fro F d x
def YQ (P:Program) (F:Fz):Prop:=∀ e∈CV,Cq P F e
theorem YQ.mono {P:Program} (h:YQ P F) (hF:NX F F'):YQ P F':=λe he g hg j d hd=>by
 obtain⟨x,h1,h2,h3⟩:=h e he g hg j d hd;exact⟨x,hF _ _ _ h1,h2,h3.mono hF⟩
theorem YQ.none {P:Program} (h:(CV.all λe=>(P.globalNamed e.1).isNone)=true):YQ P F:=λe he g hg=>by
 grind
theorem YQ.tz {P:Program} (h:YQ P F) {g:Nat} (hg:P.globalNamed "math/bits.deBruijn64tab" = some g) (j:Nat) (hj:j<64):F g j=some (.int .u8 (Dt.getD j 0)):=by
 have hl:Dt.length=64:=by decide
 obtain⟨x,h1,_,h3⟩:=h _ (List.mem_cons_self ..) g hg j (.int .u8 (Dt.getD j 0:Nat)) (by simp_all)
 cases h3;exact h1
def MC (P:Program) (F0:Fz) (f:Nat) (φ:List D->S->(D->S->Prop)->Prop):Prop :=
 ∀ F1,NX F0 F1->∀ (N:Nat) (Δ:List Deferred) (w0:World) (M:Nat->Prop) (B0:Bt) (σ:S) (F:Fz) (β:Bt) (a:Act) (w:World) (ds:List D) (vs:List Value) (K:D->S->Prop),Sim N Δ w0 F1 M B0 σ F β a w->(∀ v,σ.n<=v->β v=none) ->
  ds.length=vs.length->(∀ (i:Nat) d x,ds[i]? =some d->vs[i]? =some x->Val F β d x)->φ ds σ K ->
  Calls P f vs.toArray w λe w'=>∃ v d o' n' F' β',e= .returned v/\Sim N Δ w0 F1 M B0 ⟨σ.e,o',n'⟩ F' β' a w'/\(∀ v,n'<=v->β' v=none)/\Val F' β' d v/\K d ⟨σ.e,o',n'⟩
def Bm (P:Program) (F0:Fz) (f:Nat) (sp:Spec):Prop :=
 FF P f/\(∀ q,Bx sp.kind=some q->GF P f q)/\(Bx sp.kind=none->Cx sp.kind=none->∀ (w:World) (F:Fz) (ds:List D) (vs:List Value) (M:List Hd),NX F0 F->Fok F w->(∀ b i x,F b i=some x->b<w.heap.size)->UG F w sp.ptr 0 ds vs M->sp.pre ds ->
  Calls P f vs.toArray w (BW sp w F ds M))/\(∀ φ,Cx sp.kind=some φ->MC P F0 f φ)/\YQ P F0
theorem Bm.mono {P:Program} {F0 F1:Fz} {sp:Spec} (h:Bm P F0 f sp) (hF:NX F0 F1):Bm P F1 f sp :=
 ⟨h.1,h.2.1,λa b w F ds vs M k=>h.2.2.1 a b w F ds vs M (hF.trans k),λφ hφ F2 k=>h.2.2.2.1 φ hφ F2 (hF.trans k),h.2.2.2.2.mono hF⟩
def Ns (P:Program) (f:Nat) (sp:Spec):Prop:=∀ F0,YQ P F0->Bm P F0 f sp
section
variable {N:Nat} {Δ:List Deferred} {w0:World} {F0:Fz} {M:Nat->Prop} {B0:Bt} {σ:S} {F:Fz} {β:Bt} {a:Act} {w:World}
theorem Er (h:Sim N Δ w0 F0 M B0 σ F β a w) (e:D) (X:Nat->Option Value) (hX:∀ (j:Nat) c,(cells e)[j]? =some c->∃ x,X j=some x/\x.oneCell'=true/\Cel F β c x) (hc:((res e).run σ).1) :
  Aj σ ((res e).run σ).2.2/\(cells ((res e).run σ).2.1).length=(cells e).length/\∀ (ws:List (Nat×Aa)) F',Aj σ ws->(∀ p∈((res e).run σ).2.2,p∈ws)->NX F F'->Sim N Δ w0 F0 M B0 ⟨σ.e,ws++σ.o,σ.n⟩ F' β a w ->
   ∀ (j:Nat) c,(cells ((res e).run σ).2.1)[j]? =some c->∃ x,X j=some x/\x.oneCell'=true/\Fro F' c x:=by
 have one:∀ d:D,cells d=[d]->res d=AE d->cells e=[d]->e=d->Aj σ ((res e).run σ).2.2/\(cells ((res e).run σ).2.1).length=(cells e).length/\∀ (ws:List (Nat×Aa)) F',Aj σ ws->(∀ p∈((res e).run σ).2.2,p∈ws)->NX F F'->Sim N Δ w0 F0 M B0 ⟨σ.e,ws++σ.o,σ.n⟩ F' β a w ->
   ∀ (j:Nat) c,(cells ((res e).run σ).2.1)[j]? =some c->∃ x,X j=some x/\x.oneCell'=true/\Fro F' c x:=by
  rintro d h1 h2 h3 rfl;rw[h2]at hc ⊢;obtain⟨x,x1,x2,x3⟩:=hX 0 e (by rw[h3];rfl)
  obtain⟨r1,r2⟩:=DM h e x3 hc;have h4:cells ((AE e).run σ).2.1=[((AE e).run σ).2.1]:=by
   have:∀ d:D,((AE d).run σ).1->cells ((AE d).run σ).2.1=[((AE d).run σ).2.1]:=by
    intro d hd;cases d<;>first|exact hd.elim|rfl|skip
    simp only[AE,R.run]at hd ⊢;split<;>simp_all<;>rfl
   simp_all
  grind
 cases e with
 | agg cs =>
  obtain⟨c0,hc1,e⟩:=EF σ cs;simp only[e]at hc ⊢;replace hc:=hc1.1 hc;simp only[cells]at hX ⊢
  let vs:List Value:=(aAR cs.length).map λj=>(X j).getD undef
  have hvs:∀ (j:Nat) c,cs[j]? =some c->∃ x,X j=some x/\vs[j]? =some x/\x.oneCell'=true/\Cel F β c x:=by
   grind
  obtain⟨r1,r2,r3⟩:=Ff h cs vs (by simp[vs]) (λj c v hc' hv'=>by
   grind) hc
  refine⟨r1,by grind,λws F' q1 q2 q3 q4 j c hj=>?_⟩
  have hlt:j<cs.length:=by grind
  obtain⟨x,x0,x1,x2,_⟩:=hvs j _ (aA hlt)
  grind
 | _=>exact one _ rfl rfl rfl rfl
theorem GZ (hc:((FN r d).run σ).1):((AE d).run σ).1/\((FN r d).run σ).2=((AE d).run σ).2/\(∀ s ty es,d= .row s ty es->r=true)/\∀ nm u n,d≠ .hole nm u n:=by
 cases d<;>first|exact⟨hc,rfl,λ_ _ _ e=>(by cases e),λ_ _ _ e=>(by cases e)⟩|exact hc.elim|skip
 exact⟨trivial,rfl,λ_ _ _ _=>hc,λ_ _ _ e=>(by cases e)⟩
theorem Fe (hc:((AE d).run σ).1):(∀ s ty es,((AE d).run σ).2.1= .row s ty es->d= .row s ty es)/\∀ nm u n,((AE d).run σ).2.1= .hole nm u n->d= .hole nm u n:=by
 cases d<;>first|exact hc.elim|exact⟨λ_ _ _ e=>e,λ_ _ _ e=>e⟩|exact⟨λ_ _ _ e=>(by cases e),λ_ _ _ e=>(by cases e)⟩|skip
 grind [AE,R.run]
theorem Gf {r:Bool}:∀ {cs:List D},((BK r cs).run σ).1->((AU cs).run σ).1/\((BK r cs).run σ).2=((AU cs).run σ).2 /\
  ∀ (j:Nat) c,((AU cs).run σ).2.1[j]? =some c->(∀ s ty es,c= .row s ty es->r=true/\cs[j]? =some c)/\∀ nm u n,c≠ .hole nm u n
 | [],_=>⟨trivial,rfl,λj c h=>by simp[AU]at h⟩
 | d::cs,hc=>by
  simp only[BK,R.run_bind,R.run_pure]at hc;obtain⟨p1,p2,p3,p4⟩:=GZ hc.1;obtain⟨q1,q2,q3⟩:=Gf hc.2;obtain⟨r1,r2⟩:=Fe p1;simp only[BK,AU,R.run_bind,R.run_pure,p2,q2]
  grind
theorem Ha {r:Bool}:∀ {cs:List D},BL r cs=true->((BK r cs).run σ).1/\((BK r cs).run σ).2=(cs.map nzD,[])
 | [],_=>⟨trivial,rfl⟩
 | d::cs,h=>by
  have go:∀ (c:Prop) (d':D),((FN r d).run σ)=(c,d',[])->c->nzD d=d'->BL r cs=true->((BK r (d::cs)).run σ).1/\((BK r (d::cs)).run σ).2=((d::cs).map nzD,[]):=by
   intro c d' h1 h2 h3 h4;obtain⟨q1,q2⟩:=Ha h4;simp_all[BK]
  cases d<;>first|exact go _ _ rfl trivial rfl h|(simp[BL]at h;done)|skip
  rw[BL,aAU]at h;exact go _ _ rfl h.1 rfl h.2
theorem Lb (hc:((pas r (.agg cs)).run σ).1):((BK r cs).run σ).1/\((pas r (.agg cs)).run σ).2=(.agg ((BK r cs).run σ).2.1,((BK r cs).run σ).2.2):=by
 have hp:pas r (.agg cs)=bif BL r cs then .ret (True,.agg (cs.map nzD),[])else(do
  let(c,cs',w)<-BK r cs
  pure (c,.agg cs',w)):=rfl
 rw[hp]at hc ⊢;cases e:BL r cs
 all_goals simp_all[Ha]
theorem HW {e:D} (hc:((pas r e).run σ).1):((res e).run σ).1/\((pas r e).run σ).2=((res e).run σ).2 /\
  ∀ (j:Nat) c,(cells ((res e).run σ).2.1)[j]? =some c->(∀ s ty es,c= .row s ty es->r=true/\(cells e)[j]? =some c)/\∀ nm u n,c≠ .hole nm u n:=by
 have one:pas r e=FN r e->res e=AE e->cells e=[e]->(((AE e).run σ).1->cells ((AE e).run σ).2.1=[((AE e).run σ).2.1])->((res e).run σ).1/\((pas r e).run σ).2=((res e).run σ).2 /\
  ∀ (j:Nat) c,(cells ((res e).run σ).2.1)[j]? =some c->(∀ s ty es,c= .row s ty es->r=true/\(cells e)[j]? =some c)/\∀ nm u n,c≠ .hole nm u n:=by
  grind [GZ,Fe]
 cases e with
 | agg cs =>
  obtain⟨hc',he⟩:=Lb hc;obtain⟨q1,q2,q3⟩:=Gf hc';rw[he];obtain⟨c0,hc1,e⟩:=EF σ cs;simp only[e,q2];exact⟨hc1.2 q1,trivial,q3⟩
 | osl g v i n =>
  refine one rfl rfl rfl λh=>?_
  simp only[AE,R.run]at h ⊢;split at h
  ·rfl
  simp_all
 | optr=>exact hc.elim
 | when=>exact hc.elim
 | tup=>exact hc.elim
 | _=>exact one rfl rfl rfl λ_=>rfl
def CC (σ:S) (β:Bt) (φ:Nat->Nat->Nat->Nat->Prop) (ps:List (Nat×Nat×Own)) (Mb:List Hd):Prop :=
 ps.length=Mb.length/\(∀ (k:Nat) g v o,ps[k]? =some (g,v,o)->σ.go g=some (v,o)/\o.fz=false/\o.var=true/\o.es.length=1/\∃ L m,β v=some L/\L.b=some m.b/\L.cap=1/\Mb[k]? =some m/\m.s=o.s/\m.ty=o.ty/\m.φ=φ g 0) /\
  (ps.map Prod.fst).Nodup
theorem CC.apart (h:Sim N Δ w0 F0 M B0 σ F β a w) (hφ:Ay F β w0.heap.size M σ w φ) {ps ps':List (Nat×Nat×Own)} {M1 M2:List Hd} (h1:CC σ β φ ps M1) (h2:CC σ β φ ps' M2) (hd:ps'.all (λx=>ps.all λy=>x.1 != y.1)=true):(∀ m∈M1,∀ m'∈M2,Abj m m')/\CC σ β φ (ps++ps') (M1++M2):=by
 obtain⟨a1,a2,a3⟩:=h1;obtain⟨b1,b2,b3⟩:=h2;have hne:∀ p∈ps,∀ q∈ps',q.1≠p.1:=by
  grind
 have at1:∀ m∈M1,∃ p∈ps,∃ L,σ.go p.1=some p.2/\p.2.2.fz=false/\β p.2.1=some L/\L.b=some m.b/\m.φ=φ p.1 0:=by
  intro m hm;obtain⟨k,hk⟩:=aAT.1 hm;have hlt:k<ps.length:=by rw[a1];exact(aAC.1 hk).1
  obtain⟨⟨g,v,o⟩,hg⟩:∃ p,ps[k]? =some p:=⟨_,aA hlt⟩;obtain⟨q1,q2,_,_,L,m',q4,q5,_,q7,_,_,q8⟩:=a2 k g v o hg;rw[hk]at q7;cases q7;exact⟨_,aAA hg,L,q1,q2,q4,q5,q8⟩
 have at2:∀ m∈M2,∃ p∈ps',∃ L,σ.go p.1=some p.2/\p.2.2.fz=false/\β p.2.1=some L/\L.b=some m.b/\m.φ=φ p.1 0:=by
  intro m hm;obtain⟨k,hk⟩:=aAT.1 hm;have hlt:k<ps'.length:=by rw[b1];exact(aAC.1 hk).1
  obtain⟨⟨g,v,o⟩,hg⟩:∃ p,ps'[k]? =some p:=⟨_,aA hlt⟩
  grind
 refine⟨λm hm m' hm' b hb hb'=>?_,by simp[a1,b1],λk g v o hk=>?_,?_⟩
 ·obtain⟨⟨g,v,o⟩,hp,L,q1,q2,q3,q4,q5⟩:=at1 m hm;obtain⟨⟨g',v',o'⟩,hp',L',q1',q2',q3',q4',q5'⟩:=at2 m' hm';have hgg:g'≠g:=hne _ hp _ hp';rcases hb with rfl|⟨j,hj⟩
  ·rcases hb' with hb'|⟨j',hj'⟩
   ·rw[<- hb']at q4';exact hgg (h.dist g' g v' v o' o L' L _ q1' q1 q2' q2 q3' q3 q4' q4)
   ·rw[q5']at hj';exact hφ.sep _ _ _ _ g v o L hj' q1 q2 q3 q4
  ·rw[q5]at hj;rcases hb' with rfl|⟨j',hj'⟩
   ·exact hφ.sep _ _ _ _ g' v' o' L' hj q1' q2' q3' q4'
   ·rw[q5']at hj';exact hgg (hφ.dis _ _ _ _ _ _ _ hj' hj).1
 ·by_cases hlt:k<ps.length
  ·rw[aAG hlt]at hk;rw[aAG (by omega)]
   exact a2 k g v o hk
  ·rw[aAF (by omega)]at hk
   rw[aAF (by omega),<- a1]
   exact b2 _ g v o hk
 grind
theorem Jv (h:Sim N Δ w0 F0 M B0 σ F β a w) {ty:Nat} (hx:Val F β d x) (hc:((De s ty d).run σ).1) :
  Aj σ ((De s ty d).run σ).2.2.1/\∃ m:Hd,m.s=s/\m.ty=ty/\x= .pointer (some ⟨m.b,0,none⟩)/\CC σ β φ ((De s ty d).run σ).2.2.2 [m] /\
   ∀ (ws:List (Nat×Aa)) F',Aj σ ws->(∀ p∈((De s ty d).run σ).2.2.1,p∈ws)->NX F F'->Sim N Δ w0 F0 M B0 ⟨σ.e,ws++σ.o,σ.n⟩ F' β a w->Ay F' β w0.heap.size M ⟨σ.e,ws++σ.o,σ.n⟩ w φ->DN F' w m ((De s ty d).run σ).2.1:=by
 cases d<;>try exact hc.elim
 case optr g v i off =>
  simp only[De,R.run]at hc ⊢;cases hg:σ.go g with
  | none=>simp_all
  | some p =>
   obtain⟨v',o⟩:=p;rw[hg]at hc;simp only[R.run_bind,R.run_pure]at hc ⊢;obtain⟨⟨rfl,rfl,rfl,hfz,hvar,hlen,rfl,rfl⟩,hc1⟩:=hc;obtain⟨L,b,hL,hb,rfl⟩:=hx;obtain⟨L',hL',_,hk⟩:=h.own g v o hg;rw[hL]at hL';cases hL';obtain⟨e1,e2,e3,e4,e5,e6⟩:=hk hfz;rw[hb]at e6;obtain⟨C,hC,hCs,hcell⟩:=e6;obtain⟨e,he⟩:∃ e,o.es=[e]:=List.length_eq_one_iff.1 hlen;have hge:o.es.getD 0 .top=e:=by simp[he]
   rw[hge]at hc1 ⊢;obtain⟨hc1,hpe,hpr⟩:=HW hc1;have hpe':(pas (Ad g) e).run σ=(((pas (Ad g) e).run σ).1,((res e).run σ).2):=Prod.ext rfl hpe;rw[hpe'];dsimp only;have hX:∀ (j:Nat) c,(cells e)[j]? =some c->∃ x,C[j]? =some x/\x.oneCell'=true/\Cel F β c x:=by
    grind
   obtain⟨f1,l1,r1⟩:=Er h e (λj=>C[j]?) hX hc1
   have hcap:L.cap=1:=by
    grind
   refine⟨f1,⟨b,o.s,o.ty,φ g 0⟩,rfl,rfl,by simp,⟨rfl,λk g' v' o' hk'=>?_,by simp⟩,λws F' q1 q2 q3 q4 hφ=>?_⟩
   ·rcases k with _|k
    ·simp only[aAN,Option.some.injEq,Prod.mk.injEq]at hk';obtain⟨rfl,rfl,rfl⟩:=hk';exact⟨hg,hfz,hvar,hlen,L,_,hL,hb,hcap,rfl,rfl,rfl,rfl⟩
    grind
   ·obtain⟨s1,s2,_⟩:=h.sep g v o L b hg hfz hL hb;have hgo:(S.mk σ.e (ws++σ.o) σ.n).go g=some (v,o):=by
     rcases q1.go g with⟨v2,o2,k1,k2,_,_⟩|⟨_,k2⟩
     all_goals grind
    obtain⟨s1',_,_⟩:=q4.sep g v o L b hgo hfz hL hb;refine⟨⟨rfl,e2,by simp,by simp,λq hq=>?_,C,hC,by grind,λi j c' c hc' hj=>?_⟩,s1',s2,hφ.none_ g 0,hφ.lt g 0,λj b' hb' e'=>?_,λj j' b' h1 h2=>(hφ.dis _ _ _ _ _ _ _ h1 h2).2.2,λC' j x s ty es hC' hj hx=>?_,λj nm u n hj=>(hpr j _ hj).2 nm u n rfl⟩
    ·grind
    ·grind [Cel.Af]
    ·simp only at e';subst e';exact hφ.sep g 0 j _ g v o L hb' hgo hfz hL hb
    ·obtain⟨z1,z2⟩:=(hpr j _ hj).1 s ty es rfl;exact hφ.row g v o L b C' 0 j e x s ty es z1 hgo hfz hL hb hC' (by simp[he]) z2 (by simp_all)
theorem EM (h:Sim N Δ w0 F0 M B0 σ F β a w) (hx:Val F β d x) (hc:((AH ptr j d).run σ).1) :
  Aj σ ((AH ptr j d).run σ).2.2.1/\((look ptr j=none/\((AH ptr j d).run σ).2.2.2=[]/\((∀ f caps,d≠ .clo f caps)->∀ f caps,((AH ptr j d).run σ).2.1≠ .clo f caps) /\
    ∀ (ws:List (Nat×Aa)) F',Aj σ ws->(∀ p∈((AH ptr j d).run σ).2.2.1,p∈ws)->NX F F'->Sim N Δ w0 F0 M B0 ⟨σ.e,ws++σ.o,σ.n⟩ F' β a w->Fro F' ((AH ptr j d).run σ).2.1 x) \/
   ∃ m:Hd,look ptr j=some (m.s,m.ty)/\x= .pointer (some ⟨m.b,0,none⟩)/\CC σ β φ ((AH ptr j d).run σ).2.2.2 [m] /\
    ∀ (ws:List (Nat×Aa)) F',Aj σ ws->(∀ p∈((AH ptr j d).run σ).2.2.1,p∈ws)->NX F F'->Sim N Δ w0 F0 M B0 ⟨σ.e,ws++σ.o,σ.n⟩ F' β a w->Ay F' β w0.heap.size M ⟨σ.e,ws++σ.o,σ.n⟩ w φ->DN F' w m ((AH ptr j d).run σ).2.1):=by
 unfold AH at hc ⊢;cases hp:look ptr j with
 | none =>
  simp only[hp,R.run_bind,R.run_pure]at hc ⊢;obtain⟨f1,r1⟩:=Es h d hx hc;refine⟨f1,.inl ⟨trivial,trivial,λhn f caps=>?_,r1⟩⟩
  cases d with
  | agg cs =>
   obtain⟨c0,_,e⟩:=EF σ cs;simp_all
  | osl g v i n =>
   grind [res,AE,R.run]
  | clo f caps=>simp_all
  | optr=>exact hc.elim
  | when=>exact hc.elim
  | tup=>exact hc.elim
  | _=>exact λe=>(by cases e)
 | some st =>
  obtain⟨s,ty⟩:=st;simp only[hp]at hc ⊢;obtain⟨f1,m,rfl,rfl,rfl,p1,r1⟩:=Jv (φ:=φ) h hx hc
  grind
theorem EH (h:Sim N Δ w0 F0 M B0 σ F β a w) {φ:Nat->Nat->Nat->Nat->Prop} (hφ0:Ay F β w0.heap.size M σ w φ) {ptr:List (Nat×(Nat×Nat))}:∀ (ds:List D) (xs:List Value) (j:Nat),ds.length=xs.length->(∀ (q:Nat) d x,ds[q]? =some d->xs[q]? =some x->Val F β d x) ->
  ((Bh ptr j ds).run σ).1 ->
  Aj σ ((Bh ptr j ds).run σ).2.2.1/\∃ Mb,CC σ β φ ((Bh ptr j ds).run σ).2.2.2 Mb /\
   ∀ (ws:List (Nat×Aa)) F',Aj σ ws->(∀ p∈((Bh ptr j ds).run σ).2.2.1,p∈ws)->NX F F'->Sim N Δ w0 F0 M B0 ⟨σ.e,ws++σ.o,σ.n⟩ F' β a w->Ay F' β w0.heap.size M ⟨σ.e,ws++σ.o,σ.n⟩ w φ ->
    Cp F' w ptr j ((Bh ptr j ds).run σ).2.1 xs Mb
 | [],[],j,_,_,_=>⟨Aj.nil σ,[],⟨rfl,λk g v o hk=>by simp[Bh]at hk,by simp[Bh]⟩,λ_ _ _ _ _ _ _=>.nil j⟩
 | [],_::_,_,hl,_,_=>by simp at hl
 | _::_,[],_,hl,_,_=>by simp at hl
 | d::ds,x::xs,j,hl,hv,hc=>by
  have hd:=hv 0 d x rfl rfl;have hv':∀ (q:Nat) d x,ds[q]? =some d->xs[q]? =some x->Val F β d x:=λq d x h1 h2=>hv (q+1) d x (by simp_all) (by simp_all)
  have hl':ds.length=xs.length:=by simp_all
  unfold Bh at hc ⊢;simp only[R.run_bind,R.run_pure]at hc ⊢;obtain⟨c1,c2,c3⟩:=hc;obtain⟨f1,k1⟩:=EM (φ:=φ) h hd c1;obtain⟨f2,M2,p2,r2⟩:=EH h hφ0 ds xs (j+1) hl' hv' c2;rcases k1 with⟨hp,k1,_,r1⟩|⟨m,hp,rfl,p1,r1⟩
  ·rw[k1];refine⟨f1.append f2,M2,by simp_all,λws F' q1 q2 q3 q4 q5=>.val j _ _ x xs M2 hp (r1 ws F' q1 (λp hp=>q2 p (by simp[hp])) q3 q4) (r2 ws F' q1 (λp hp=>q2 p (by simp[hp])) q3 q4 q5)⟩
  ·obtain⟨ap,pp⟩:=CC.apart h hφ0 p1 p2 c3;exact⟨f1.append f2,[m]++M2,pp,λws F' q1 q2 q3 q4 q5=>.ptr j _ _ xs M2 m hp (r1 ws F' q1 (λp hp=>q2 p (by simp[hp])) q3 q4 q5) (λm' hm'=>ap m (by simp) m' hm') (r2 ws F' q1 (λp hp=>q2 p (by simp[hp])) q3 q4 q5)⟩
theorem EG (h:Sim N Δ w0 F0 M B0 σ F β a w) {φ:Nat->Nat->Nat->Nat->Prop} (hφ0:Ay F β w0.heap.size M σ w φ) {ptr:List (Nat×(Nat×Nat))}:∀ (ds:List D) (xs:List Value) (j:Nat),ds.length=xs.length->(∀ (q:Nat) d x,ds[q]? =some d->xs[q]? =some x->Val F β d x) ->
  ((Ag ptr j ds).run σ).1 ->
  Aj σ ((Ag ptr j ds).run σ).2.2.1/\∃ Mb,CC σ β φ ((Ag ptr j ds).run σ).2.2.2 Mb /\
   ∀ (ws:List (Nat×Aa)) F',Aj σ ws->(∀ p∈((Ag ptr j ds).run σ).2.2.1,p∈ws)->NX F F'->Sim N Δ w0 F0 M B0 ⟨σ.e,ws++σ.o,σ.n⟩ F' β a w->Ay F' β w0.heap.size M ⟨σ.e,ws++σ.o,σ.n⟩ w φ ->
    UG F' w ptr j ((Ag ptr j ds).run σ).2.1 xs Mb
 | [],[],j,_,_,_=>⟨Aj.nil σ,[],⟨rfl,λk g v o hk=>by simp[Ag]at hk,by simp[Ag]⟩,λ_ _ _ _ _ _ _=>.nil j⟩
 | [],_::_,_,hl,_,_=>by simp at hl
 | _::_,[],_,hl,_,_=>by simp at hl
 | d::ds,x::xs,j,hl,hv,hc=>by
  have hd:=hv 0 d x rfl rfl;have hv':∀ (q:Nat) d x,ds[q]? =some d->xs[q]? =some x->Val F β d x:=λq d x h1 h2=>hv (q+1) d x (by simp_all) (by simp_all)
  have hl':ds.length=xs.length:=by simp_all
  unfold Ag at hc ⊢;simp only[R.run_bind,R.run_pure]at hc ⊢;obtain⟨c1,c2,c3⟩:=hc;obtain⟨f2,M2,p2,r2⟩:=EG h hφ0 ds xs (j+1) hl' hv' c2
  by_cases hcl:∃ f caps,d= .clo f caps
  ·obtain⟨f,caps,rfl⟩:=hcl;simp only[Ck]at c1 c3 ⊢;cases hp:look ptr j with
   | some _=>simp_all
   | none =>
    simp only[hp,R.run_bind,R.run_pure]at c1 c3 ⊢;obtain⟨vs,rfl,hl,hv⟩:=hd;obtain⟨f1,M1,p1,r1⟩:=EH h hφ0 caps vs (64*(j+1)) hl (λq d x h1 h2=>Val.Am (Cel.BZ (hv q d x h1 h2))) c1
    obtain⟨ap,pp⟩:=CC.apart h hφ0 p1 p2 c3;exact⟨f1.append f2,M1++M2,pp,λws F' q1 q2 q3 q4 q5=>.clo j f _ vs _ xs M1 M2 hp (r1 ws F' q1 (λp hp=>q2 p (by simp[hp])) q3 q4 q5) ap (r2 ws F' q1 (λp hp=>q2 p (by simp[hp])) q3 q4 q5)⟩
  ·have hn:∀ f caps,d≠ .clo f caps:=λf caps e=>hcl ⟨f,caps,e⟩
   have he:Ck ptr j d=AH ptr j d:=by
    simp_all[Ck]
   rw[he]at c1 c3 ⊢;obtain⟨f1,k1⟩:=EM (φ:=φ) h hd c1;rcases k1 with⟨hp,k1,k2,r1⟩|⟨m,hp,rfl,p1,r1⟩
   ·rw[k1];refine⟨f1.append f2,M2,by simp_all,λws F' q1 q2 q3 q4 q5=>.val j _ _ x xs M2 hp (k2 hn) (r1 ws F' q1 (λp hp=>q2 p (by simp[hp])) q3 q4) (r2 ws F' q1 (λp hp=>q2 p (by simp[hp])) q3 q4 q5)⟩
   ·obtain⟨ap,pp⟩:=CC.apart h hφ0 p1 p2 c3;exact⟨f1.append f2,[m]++M2,pp,λws F' q1 q2 q3 q4 q5=>.ptr j _ _ xs M2 m hp (r1 ws F' q1 (λp hp=>q2 p (by simp[hp])) q3 q4 q5) (λm' hm'=>ap m (by simp) m' hm') (r2 ws F' q1 (λp hp=>q2 p (by simp[hp])) q3 q4 q5)⟩
theorem Ec:∀ (ps:List (Nat×Nat×Own)) (effs:List D) (g:Nat) (y:Aa),look (An ps effs) g=some y->∃ (k v:Nat) (o:Own),ps[k]? =some (g,v,o)/\y=some (v,{ o with es:=[effs.getD k .top] })
 | [],_,_,_,h=>by grind [An,look]
 | (g',v,o)::ps,effs,g,y,h=>by
  simp only[An,look]at h;split at h
  ·rename_i e;subst e;cases h;exact⟨0,v,o,rfl,by cases effs<;>rfl⟩
  ·obtain⟨k,v',o',h1,h2⟩:=Ec ps effs.tail g y h;refine⟨k+1,v',o',by simp_all,?_⟩
   simp_all
theorem Ee:∀ (ps:List (Nat×Nat×Own)) (effs:List D) (g:Nat),look (An ps effs) g=none->∀ (k v:Nat) (o:Own),ps[k]? ≠some (g,v,o)
 | [],_,_,_,k,v,o=>by simp
 | (g',v,o)::ps,effs,g,h,k,v',o'=>by
  simp only[An,look]at h;split at h
  ·cases h
  ·rename_i e;rcases k with _|k
   ·grind
   ·simp only[List.getElem?_cons_succ];exact Ee ps effs.tail g h k v' o'
theorem FL (β:Bt):Aw noB β:=λv L h=>by cases h
theorem Cf (h:Sim N Δ w0 F0 M B0 σ F β a w) (hφ:Ay F β w0.heap.size M σ w φ) (hnv:β nv=none) {ps:List (Nat×Nat×Own)} (hps:CC σ β φ ps Mb) {effs:List D} (hok:Fok F' w') (hfin:∀ b i x,F' b i=some x->b<w'.heap.size) (hst:Stp (Wr Mb) w F w' F') {ψ:Nat->Nat->Nat->Prop} (hback:IY F' w' w.heap.size Mb effs ψ) {E:List (Nat×Aa)} {φm:Nat->Nat->Nat->Prop} (hE:(E=[]/\β'=β/\∀ i j b,¬ φm i j b)\/(∃ t o L,E=[(t,some (nv,o))]/\β'=upB β nv L/\o.fz=false/\Au F' noB w' L o/\(∀ b,L.b=some b->w.heap.size<=b/\b<w'.heap.size/\(∀ i,F' b i=none)/\∀ k j,¬ ψ k j b) /\
   (∀ i j b,φm i j b->w.heap.size<=b/\b<w'.heap.size/\(∀ k,F' b k=none)/\(∀ k j,¬ ψ k j b)/\L.b≠some b)/\(∀ i j i' j' b,φm i j b->φm i' j' b->i=i'/\j=j') /\
   (Ad t=true->(∀ b C (i j:Nat) e x s' ty' es',L.b=some b->w'.heap[b]? =some (.cells C o.ty (0,0))->o.es[i]? =some e->(cells e)[j]? =some (.row s' ty' es')->C[i*o.s+j]? =some x->Bd F' w' (φm i j) s' ty' es' x)/\∀ (i j:Nat) e nm u n,o.es[i]? =some e->(cells e)[j]? ≠some (.hole nm u n)))) (hd:∀ t,dst=some t->t<N) (hv:Env F' β' d v) (c:Prop) :
  Aw β β'/\(∀ x,x≠nv->β' x=β x)/\Sim N Δ w0 F0 M B0 (σ.app ⟨c,Ah dst d,E++An ps effs⟩) F' β' (a.put dst v) w':=by
 have hβ:Aw β β':=by
  grind [Aw.refl,AW]
 have hβ':∀ x,x≠nv->β' x=β x:=by
  rcases hE with⟨_,rfl,_⟩|⟨t,o,L,_,rfl,_⟩
  all_goals grind [Cg]
 obtain⟨p1,p2,p3⟩:=hps;have hmem:∀ m∈Mb,∃ (k g v:Nat) (o:Own) (L:Loc),Mb[k]? =some m/\ps[k]? =some (g,v,o)/\σ.go g=some (v,o)/\o.fz=false/\o.var=true/\β v=some L/\L.b=some m.b/\L.cap=1/\m.s=o.s/\m.ty=o.ty/\m.φ=φ g 0:=by
  intro m hm;obtain⟨k,hk⟩:=aAT.1 hm;have hlt:k<ps.length:=by grind
  obtain⟨⟨g,v,o⟩,hg⟩:∃ p,ps[k]? =some p:=⟨_,aA hlt⟩
  grind
 have hWr:∀ b,Wr Mb b->b<w.heap.size/\(w0.heap.size<=b\/M b)/\(∀ k,F b k=none):=by
  rintro b ⟨m,hm,rfl|⟨j,hj⟩⟩
  ·obtain⟨k,g,v,o,L,_,_,q1,q2,q3,q4,q5,_⟩:=hmem m hm;obtain⟨s1,s2,s3⟩:=h.sep g v o L _ q1 q2 q4 q5
   grind
  ·obtain⟨k,g,v,o,L,_,_,_,_,_,_,_,_,_,_,q10⟩:=hmem m hm;rw[q10]at hj;exact⟨hφ.lt _ _ _ _ hj,hφ.new _ _ _ _ hj,hφ.none_ _ _ _ _ hj⟩
 have hWrown:∀ g v o L b,σ.go g=some (v,o)->o.fz=false->β v=some L->L.b=some b->Wr Mb b->∃ (k:Nat) (v:Nat) (o:Own),ps[k]? =some (g,v,o):=by
  rintro g v o L b hg hf hL hb ⟨m,hm,rfl|⟨j,hj⟩⟩
  ·obtain⟨k,g2,v2,o2,L2,_,y0,y1,y2,y3,y4,y5,_⟩:=hmem m hm;have:=h.dist g g2 v v2 o o2 L L2 _ hg y1 hf y2 hL y4 hb y5;subst this;exact⟨k,v2,o2,y0⟩
  ·obtain⟨k,g2,v2,o2,L2,_,_,_,_,_,_,_,_,_,_,q10⟩:=hmem m hm;rw[q10]at hj;exact(hφ.sep _ _ _ _ g v o L hj hg hf hL hb).elim
 have hgo:∀ g v' o',(σ.app ⟨c,Ah dst d,E++An ps effs⟩).go g=some (v',o') ->
   (∃ t o L,E=[(t,some (nv,o))]/\β'=upB β nv L/\g=t/\v'=nv/\o'=o/\o.fz=false/\Au F' noB w' L o/\∀ b,L.b=some b->w.heap.size<=b/\b<w'.heap.size/\(∀ i,F' b i=none)/\∀ k j,¬ ψ k j b) \/
   (look E g=none/\∃ (k:Nat) (o:Own) (L:Loc) (m:Hd),ps[k]? =some (g,v',o)/\o'={ o with es:=[effs.getD k .top] }/\σ.go g=some (v',o)/\o.fz=false/\o.var=true/\β v'=some L/\L.b=some m.b/\L.cap=1/\Mb[k]? =some m/\m.s=o.s/\m.ty=o.ty/\m.φ=φ g 0) \/
   (look E g=none/\σ.go g=some (v',o')/\∀ (k v:Nat) (o:Own),ps[k]? ≠some (g,v,o)):=by
  intro g v' o' hg;rw[S.CN]at hg;simp only[Bq]at hg;cases hEl:look E g with
  | some y =>
   rw[hEl]at hg;simp only[Option.some_or]at hg;rcases hE with⟨rfl,_⟩|⟨t,o,L,rfl,k2,k3,k4,k5,_⟩
   ·simp[look]at hEl
   ·simp only[look]at hEl;split at hEl
    ·cases hEl;cases hg;exact .inl ⟨_,_,L,rfl,k2,by assumption,rfl,rfl,k3,k4,k5⟩
    ·cases hEl
  | none =>
   rw[hEl]at hg;simp only[Option.none_or]at hg;cases hH:look (An ps effs) g with
   | some y =>
    rw[hH]at hg;obtain⟨k,v,o,k1,k2⟩:=Ec ps effs g y hH;subst k2;simp only[Option.some.injEq,Prod.mk.injEq]at hg;obtain⟨rfl,rfl⟩:=hg;obtain⟨q1,q2,q3,_,L,m,q4,q5,q6,q7,q8,q9,q10⟩:=p2 k g v o k1;exact .inr (.inl ⟨rfl,k,o,L,m,k1,rfl,q1,q2,q3,q4,q5,q6,q7,q8,q9,q10⟩)
   | none =>
    grind [Ee]
 refine⟨hβ,hβ',?_⟩;refine h.change (row:=Wr Mb) hst.os hst.tape hst.output hst.size hst.block (λb hb=>(hWr b hb).2.1) hst.sub hst.old hok hfin hβ (by rw[BJ];exact h.size) (by rw[Bo];exact h.defers) (h.Cm hst.sub hβ hd hv) ?_ ?_ ?_
 ·intro g v' o' hg;rcases hgo g v' o' hg with⟨t,o,L,hE',hβe,rfl,rfl,rfl,k3,k4,k5⟩|⟨_,k,o,L,m,k1,rfl,q1,q2,q3,q4,q5,q6,q7,q8,q9,_⟩|⟨_,q1,q2⟩
  ·refine .inr ⟨L,by rw[hβe];grind [Ak],k3,k4.keep (NX.refl _) (FL _) (λ_ _=>rfl),λb hb=>?_⟩
   obtain⟨z1,z2,z3,_⟩:=k5 b hb;exact⟨z3,z2,.inl (aAS h.step.size z1),.inr z1⟩
  ·have hz:=hback.ok k m q7;obtain⟨s1,s2,s3⟩:=h.sep g v' o L m.b q1 q2 q4 q5;refine .inr ⟨L,hβ _ _ q4,q2,?_,λb' hb'=>?_⟩
   ·have hLs:L.s=o.s:=by
     obtain⟨L2,e2,_,e3⟩:=h.own g v' o q1;rw[q4]at e2;cases e2;exact(e3 q2).1
    have hL:L=⟨some m.b,1,m.s⟩:=by cases L;simp_all
    have ho:({ o with es:=[effs.getD k .top] }:Own)=⟨false,true,m.s,m.ty,[effs.getD k .top]⟩:=by grind
    rw[hL,ho];exact Au.keep (NX.refl _) (FL _) (λ_ _=>rfl) hz.var
   ·rw[q5]at hb';cases hb';exact⟨hz.none_,aAD s2 hst.size,s3,.inl ⟨m,aAA q7,.inl rfl⟩⟩
  ·refine .inl ⟨q1,λL b hf hL hb hr=>?_⟩
   obtain⟨k,v2,o2,y0⟩:=hWrown g v' o' L b q1 hf hL hb hr;exact q2 k v2 o2 y0
 ·intro g1 g2 v1 v2 o1 o2 L1 L2 b hg1 hg2 hf1 hf2 hL1 hL2 hb1 hb2 hr;have old:∀ g v o' L,(σ.app ⟨c,Ah dst d,E++An ps effs⟩).go g=some (v,o')->o'.fz=false->β' v=some L->L.b=some b ->
    (∃ t o,E=[(t,some (nv,o))]/\g=t/\w.heap.size<=b)\/(b<w.heap.size/\∃ o'' L'',σ.go g=some (v,o'')/\o''.fz=false/\β v=some L''/\L''.b=some b):=by
   intro g v o' L hg hf hL hb;rcases hgo g v o' hg with⟨t,o,L',hE',hβe,rfl,rfl,rfl,k3,k4,k5⟩|⟨_,k,o,L',m,k1,rfl,q1,q2,q3,q4,q5,q6,q7,_⟩|⟨_,q1,q2⟩
   ·rw[hβe,Ak]at hL;grind
   ·have:=hβ _ _ q4;rw[hL]at this;cases this;exact .inr ⟨(h.sep g v o L b q1 q2 q4 hb).2.1,o,L,q1,q2,q4,hb⟩
   ·obtain⟨L0,e0,_⟩:=h.own g v o' q1;have:=hβ _ _ e0;rw[hL]at this;cases this;exact .inr ⟨(h.sep g v o' L b q1 hf e0 hb).2.1,o',L,q1,hf,e0,hb⟩
  rcases old g1 v1 o1 L1 hg1 hf1 hL1 hb1 with⟨t,o,k1,k2,k3⟩|⟨k0,p1',L1',z1,z2,z3,z4⟩
  ·grind
  ·rcases old g2 v2 o2 L2 hg2 hf2 hL2 hb2 with⟨t',o',k1',k2',k3'⟩|⟨_,p2',L2',y1,y2,y3,y4⟩
   ·omega
   ·exact h.dist g1 g2 v1 v2 p1' p2' L1' L2' b z1 y1 z2 y2 z3 y3 z4 y4
 ·intro _ _
  let φ':Nat->Nat->Nat->Nat->Prop:=λg i j b=>(look E g≠none/\φm i j b)\/(look E g=none/\∃ (k v:Nat) (o:Own),ps[k]? =some (g,v,o)/\i=0/\ψ k j b)\/(look E g=none/\(∀ (k v:Nat) (o:Own),ps[k]? ≠some (g,v,o))/\φ g i j b)
  have hEne:∀ g,look E g≠none->∃ o L,E=[(g,some (nv,o))]/\β'=upB β nv L/\o.fz=false/\Au F' noB w' L o/\(∀ b,L.b=some b->w.heap.size<=b/\b<w'.heap.size/\(∀ i,F' b i=none)/\∀ k j,¬ ψ k j b) /\
    (∀ i j b,φm i j b->w.heap.size<=b/\b<w'.heap.size/\(∀ k,F' b k=none)/\(∀ k j,¬ ψ k j b)/\L.b≠some b)/\(∀ i j i' j' b,φm i j b->φm i' j' b->i=i'/\j=j') /\
    (Ad g=true->(∀ b C (i j:Nat) e x s' ty' es',L.b=some b->w'.heap[b]? =some (.cells C o.ty (0,0))->o.es[i]? =some e->(cells e)[j]? =some (.row s' ty' es')->C[i*o.s+j]? =some x->Bd F' w' (φm i j) s' ty' es' x)/\∀ (i j:Nat) e nm u n,o.es[i]? =some e->(cells e)[j]? ≠some (.hole nm u n)):=by
   grind [look]
  have hold:∀ g i j b,(∀ (k v:Nat) (o:Own),ps[k]? ≠some (g,v,o))->φ g i j b->¬ Wr Mb b:=by
   rintro g i j b hn hb ⟨m,hm,rfl|⟨j',hj'⟩⟩
   ·obtain⟨k,g2,v2,o2,L2,_,_,y1,y2,y3,y4,y5,_⟩:=hmem m hm;exact hφ.sep _ _ _ _ g2 v2 o2 L2 hb y1 y2 y4 y5
   ·obtain⟨k,g2,v2,o2,L2,_,y0,_,_,_,_,_,_,_,_,q10⟩:=hmem m hm;rw[q10]at hj';have:=(hφ.dis _ _ _ _ _ _ _ hb hj').1
    grind
  have hkm:∀ (k g v:Nat) (o:Own),ps[k]? =some (g,v,o)->∃ m,Mb[k]? =some m:=by
   grind
  have hbase:∀ g i j b,φ' g i j b->(∀ k,F' b k=none)/\b<w'.heap.size/\(w0.heap.size<=b\/M b):=by
   rintro g i j b (⟨he,hb⟩|⟨_,k,v,o,hk,rfl,hb⟩|⟨_,hn,hb⟩)
   ·obtain⟨o,L,_,_,_,_,_,z,_⟩:=hEne g he;obtain⟨z1,z2,z3,_⟩:=z i j b hb;exact⟨z3,z2,.inl (aAS h.step.size z1)⟩
   ·obtain⟨m,hm⟩:=hkm k g v o hk;have hz:=hback.ok k m hm;refine⟨hz.fno j b hb,hz.flt j b hb,?_⟩;rcases hback.from_ k j b hb with h1|h1
    ·exact .inl (aAS h.step.size h1)
    ·exact(hWr b h1).2.1
   ·refine⟨λk=>?_,aAD (hφ.lt g i j b hb) hst.size,hφ.new g i j b hb⟩
    rw[hst.old b k (hφ.lt g i j b hb) (hold g i j b hn hb)];exact hφ.none_ g i j b hb k
  refine⟨φ',?_,?_,λg i j b hb=>(hbase g i j b hb).1,λg i j b hb=>(hbase g i j b hb).2.1,λg i j b hb=>(hbase g i j b hb).2.2,?_,?_⟩
  ·intro g v o' L b C i j e x s ty es hr hg hf hL hb hC he hj hx;rcases hgo g v o' hg with⟨t,o,L',hE',hβe,rfl,rfl,rfl,_⟩|⟨hEn,k,o,L',m,k1,rfl,q1,q2,q3,q4,q5,q6,q7,q8,q9,_⟩|⟨hEn,q1,q2⟩
   ·have hne:look E g≠none:=by grind [look]
    obtain⟨o2,L2,e1,e2,_,_,_,_,_,e3⟩:=hEne g hne;rw[hE']at e1;cases e1;rw[e2,Ak]at hL;cases hL;exact((e3 hr).1 b C i j e x s ty es hb hC he hj hx).keep (NX.refl _) (λ_ _=>rfl) (λb hb=>.inl ⟨hne,hb⟩)
   ·have hz:=hback.ok k m q7;have:=hβ _ _ q4;rw[hL]at this;cases this;rw[q5]at hb;cases hb;rcases i with _|i
    ·simp only[aAN,Option.some.injEq]at he;subst he;refine(hz.row C j x s ty es (by grind) hj (by grind)).keep (NX.refl _) (λ_ _=>rfl) (λb hb=>.inr (.inl ⟨hEn,k,v,o,k1,rfl,hb⟩))
    grind
   ·obtain⟨L0,e0,_⟩:=h.own g v o' q1;have:=hβ _ _ e0;rw[hL]at this;cases this;have hnw:¬ Wr Mb b:=λhw=>by
     obtain⟨k,v2,o2,y0⟩:=hWrown g v o' L b q1 hf e0 hb hw
     grind
    rw[hst.block b (h.sep g v o' L b q1 hf e0 hb).2.1 hnw]at hC;refine(hφ.row g v o' L b C i j e x s ty es hr q1 hf e0 hb hC he hj hx).keep hst.sub (λb' hb'=>hst.block b' (hφ.lt _ _ _ _ hb') (hold g i j b' q2 hb')) (λb hb=>.inr (.inr ⟨hEn,q2,hb⟩))
  ·intro g v o' L b C i j e x nm u n hr hg hf hL hb hC he hj hx;rcases hgo g v o' hg with⟨t,o,L',hE',hβe,rfl,rfl,rfl,_⟩|⟨hEn,k,o,L',m,k1,rfl,q1,q2,q3,q4,q5,q6,q7,q8,q9,_⟩|⟨hEn,q1,q2⟩
   ·have hne:look E g≠none:=by rw[hE'];simp[look]
    obtain⟨o2,L2,e1,e2,_,_,_,_,_,e3⟩:=hEne g hne;rw[hE']at e1;cases e1;exact((e3 hr).2 i j e _ u n he hj).elim
   ·have hz:=hback.ok k m q7;rcases i with _|i
    ·simp only[aAN,Option.some.injEq]at he;subst he;exact(hz.hole j _ u n hj).elim
    ·simp at he
   ·obtain⟨L0,e0,_⟩:=h.own g v o' q1;have:=hβ _ _ e0;rw[hL]at this;cases this;have hnw:¬ Wr Mb b:=λhw=>by
     obtain⟨k,v2,o2,y0⟩:=hWrown g v o' L b q1 hf e0 hb hw;exact q2 k v2 o2 y0
    rw[hst.block b (h.sep g v o' L b q1 hf e0 hb).2.1 hnw]at hC;exact(hφ.hole g v o' L b C i j e x _ u n hr q1 hf e0 hb hC he hj hx).mono hst.sub hβ
  ·intro g i j b g' v' o' L' hb hg hf hL hLb;rcases hgo g' v' o' hg with⟨t,o,L2,hE',hβe,rfl,rfl,rfl,_,_,k5⟩|⟨hEn,k,o,L2,m,k1,rfl,q1,q2,q3,q4,q5,q6,q7,q8,q9,_⟩|⟨hEn,q1,q2⟩
   ·rw[hβe,Ak]at hL;cases hL;obtain⟨z1,_,_,z4⟩:=k5 b hLb;rcases hb with⟨he,hb⟩|⟨_,k,v,o,hk,rfl,hb⟩|⟨_,hn,hb⟩
    ·obtain⟨o2,L3,e1,e2,_,_,_,e3,_⟩:=hEne g he;rw[hβe]at e2;have e2:=congrFun e2 v';rw[Ak,Ak]at e2;cases e2;exact(e3 i j b hb).2.2.2.2 hLb
    ·exact z4 k j hb
    ·have:=hφ.lt g i j b hb;omega
   ·have:=hβ _ _ q4;rw[hL]at this;cases this;have hmb:m.b=b:=by rw[q5]at hLb;exact Option.some.inj hLb
    have hlt:=(h.sep g' v' o L' b q1 q2 q4 hLb).2.1;rcases hb with⟨he,hb⟩|⟨_,k',v,o2,hk,rfl,hb⟩|⟨_,hn,hb⟩
    ·obtain⟨o2,L3,e1,e2,_,_,_,e3,_⟩:=hEne g he;have:=(e3 i j b hb).1;omega
    ·exact hback.ne k' j b m hb (aAA q7) hmb.symm
    ·exact hφ.sep g i j b g' v' o L' hb q1 q2 q4 hLb
   ·obtain⟨L0,e0,_⟩:=h.own g' v' o' q1;have:=hβ _ _ e0;rw[hL]at this;cases this;have hlt:=(h.sep g' v' o' L' b q1 hf e0 hLb).2.1;rcases hb with⟨he,hb⟩|⟨_,k',v,o2,hk,rfl,hb⟩|⟨_,hn,hb⟩
    ·obtain⟨o2,L3,e1,e2,_,_,_,e3,_⟩:=hEne g he;have:=(e3 i j b hb).1;omega
    ·rcases hback.from_ k' j b hb with h1|h1
     ·omega
     ·obtain⟨k,v2,o3,y0⟩:=hWrown g' v' o' L' b q1 hf e0 hLb h1;exact q2 k v2 o3 y0
    ·exact hφ.sep g i j b g' v' o' L' hb q1 hf e0 hLb
  ·intro g i j g' i' j' b h1 h2;rcases h1 with⟨he,hb⟩|⟨hEn,k,v,o,hk,rfl,hb⟩|⟨hEn,hn,hb⟩
   ·obtain⟨o2,L3,e1,e2,_,_,_,e3,e4,_⟩:=hEne g he;obtain⟨z1,_,_,z4,_⟩:=e3 i j b hb;rcases h2 with⟨he',hb'⟩|⟨_,k',v',o',hk',rfl,hb'⟩|⟨_,_,hb'⟩
    ·obtain⟨o3,L4,e1',_⟩:=hEne g' he';rw[e1]at e1';cases e1';exact⟨rfl,e4 i j i' j' b hb hb'⟩
    ·exact(z4 k' j' hb').elim
    ·have:=hφ.lt g' i' j' b hb';omega
   ·rcases h2 with⟨he',hb'⟩|⟨_,k',v',o',hk',rfl,hb'⟩|⟨_,hn',hb'⟩
    ·obtain⟨o3,L4,e1',_,_,_,_,e3,_⟩:=hEne g' he';exact((e3 i' j' b hb').2.2.2.1 k j hb).elim
    ·have hkk:=hback.dis k j k' j' b hb hb';subst hkk;rw[hk]at hk';cases hk';obtain⟨m,hm⟩:=hkm k g v o hk;exact⟨rfl,rfl,(hback.ok k m hm).dis j j' b hb hb'⟩
    ·rcases hback.from_ k j b hb with h1|h1
     ·have:=hφ.lt g' i' j' b hb';omega
     ·exact(hold g' i' j' b hn' hb' h1).elim
   ·rcases h2 with⟨he',hb'⟩|⟨_,k',v',o',hk',rfl,hb'⟩|⟨_,hn',hb'⟩
    ·obtain⟨o3,L4,e1',_,_,_,_,e3,_⟩:=hEne g' he';have:=(e3 i' j' b hb').1;have:=hφ.lt g i j b hb;omega
    ·rcases hback.from_ k' j' b hb' with h1|h1
     ·have:=hφ.lt g i j b hb;omega
     ·exact(hold g i j b hn hb h1).elim
    ·exact hφ.dis g i j g' i' j' b hb hb'
theorem EL (hg:Dq d=true) (h:Fro F d v):Fro F' d v:=by
 cases h<;>first|cases hg|skip
 ·exact .int _ _
 ·exact .bool _
 ·exact .str _
theorem Iz (hg:isGround d=true) (h:Fro F d v):Fro F' d v:=by
 cases h<;>first|(cases hg;done)|skip
 ·exact .int _ _
 ·exact .bool _
 ·exact .str _
 ·rename_i cs vs hl h1 hh;simp only[isGround,aAZ]at hg;exact .agg cs vs hl h1 λj c v hc hv=>EL (hg c (aAA hc)) (hh j c v hc hv)
 ·rename_i cs vs hl hh;simp only[isGround,aAZ]at hg;exact .tup cs vs hl λj c v hc hv=>EL (hg c (aAA hc)) (hh j c v hc hv)
theorem Ix {w:World} (hp:ptr=[]) (h:Cp F w ptr j ds xs Mb):Mb=[]:=by
 induction h with
 | nil=>rfl
 | val _ _ _ _ _ _ _ _ _ ih=>exact ih
 | ptr j d ds xs M m hl=>grind [look]
theorem Zw {w:World} (hp:ptr=[]) (h:UG F w ptr j ds xs Mb):Mb=[]:=by
 induction h with
 | nil=>rfl
 | val _ _ _ _ _ _ _ _ _ _ ih=>exact ih
 | ptr j d ds xs M m hl=>grind [look]
 | clo _ _ _ _ _ _ _ _ _ hc _ _ ih2=>grind [Ix]
end
section
variable {N:Nat} {Δ:List Deferred} {w0:World} {F0:Fz} {M:Nat->Prop} {B0:Bt} {σ:S} {F:Fz} {β:Bt} {a:Act} {w:World} {P:Program}
theorem EN (hp:ptr=[]) (σ:S) (d:D) (j:Nat):((AH ptr j d).run σ).2.2.2=[]:=by
 simp_all[AH,look]
theorem EI {ptr:List (Nat×(Nat×Nat))} (hp:ptr=[]) (σ:S):∀ (ds:List D) (j:Nat),((Bh ptr j ds).run σ).2.2.2=[]
 | [],_=>rfl
 | d::ds,j=>by
  unfold Bh;simp only[R.run_bind,R.run_pure,EN hp σ d j,EI hp σ ds (j+1),List.append_nil]
theorem Gp (hp:ptr=[]) (σ:S) (d:D) (j:Nat):((Ck ptr j d).run σ).2.2.2=[]:=by
 unfold Ck
 grind [EI,look,R.run_bind,R.run_pure,EN]
theorem Ek {ptr:List (Nat×(Nat×Nat))} (hp:ptr=[]) (σ:S):∀ (ds:List D) (j:Nat),((Ag ptr j ds).run σ).2.2.2=[]
 | [],_=>rfl
 | d::ds,j=>by
  unfold Ag;simp only[R.run_bind,R.run_pure,Gp hp σ d j,Ek hp σ ds (j+1),List.append_nil]
theorem KC {sp:Spec} (hsp:Bm P F0 f sp) (h:Sim N Δ w0 F0 M B0 σ F β a w) (hnv:β nv=none) (hd:∀ t,dst=some t->t<N) (htr:∀ t,dst=some t->Ad t=false) (hl:ds.length=xs.length) (hv:∀ (q:Nat) d x,ds[q]? =some d->xs[q]? =some x->Val F β d x) {u:Out} (hu:u=Bg dst nv sp ((Ag sp.ptr 0 ds).run σ).1 ((Ag sp.ptr 0 ds).run σ).2.1 ((Ag sp.ptr 0 ds).run σ).2.2.1 ((Ag sp.ptr 0 ds).run σ).2.2.2) (hc:u.c) :
  Calls P f xs.toArray w (λe w'=>∃ v F' β',e= .returned v/\Aw β β'/\(∀ x,x≠nv->β' x=β x)/\Sim N Δ w0 F0 M B0 (σ.app u) F' β' (a.put dst v) w'):=by
 have hni:Bx sp.kind=none:=by
  subst hu;unfold Bg at hc;cases hk:sp.kind<;>first|rfl|simp_all
 have hno:Cx sp.kind=none:=by
  subst hu;unfold Bg at hc;cases hk:sp.kind<;>first|rfl|simp_all
 have hcargs:((Ag sp.ptr 0 ds).run σ).1:=by
  grind [Bg]
 have hpre:sp.pre ((Ag sp.ptr 0 ds).run σ).2.1:=by
  grind [Bg]
 obtain⟨φ,hφ⟩:=h.Ad;obtain⟨f1,Mb,hps,hargs⟩:=EG h hφ ds xs 0 hl hv hcargs;have hgr:=λhp=>Ek (ptr:=sp.ptr) hp σ ds 0
 generalize((Ag sp.ptr 0 ds).run σ).2.1=ds' at *;generalize((Ag sp.ptr 0 ds).run σ).2.2.1=ws at *;generalize((Ag sp.ptr 0 ds).run σ).2.2.2=ps at *;obtain⟨F1,hF1,hS1,hr1⟩:=h.freeze f1;have hφ1:=hr1 φ hφ;have hA:=hargs ws F1 f1 (λ_ hp=>hp) hF1 hS1 hφ1
 refine(hsp.2.2.1 hni hno w F1 ds' xs Mb hS1.step.sub hS1.frz hS1.fin hA hpre).mono ?_;rintro e w' ⟨v,F',ψ,ρ,rfl,hok,hfin,hst,hres,hback,hψρ⟩;have hps1:CC (S.mk σ.e (ws++σ.o) σ.n) β φ ps Mb:=by
  obtain⟨p1,p2,p3⟩:=hps;refine⟨p1,λk g v o hk=>?_,p3⟩
  obtain⟨q1,q2,q3,q4⟩:=p2 k g v o hk;refine⟨?_,q2,q3,q4⟩;rcases f1.go g with⟨v2,o2,k1,k2,_,_⟩|⟨_,k2⟩
  all_goals simp_all
 subst hu;unfold Bg at hc ⊢;cases hk:sp.kind with
 | inpl q=>simp_all
 | opn q=>simp_all
 | val =>
  rw[hk]at hres;simp only[hk]at hc ⊢;obtain⟨b1,b2,b3⟩:=Cf hS1 hφ1 hnv hps1 hok hfin hst hback (E:=[]) (φm:=λ_ _ _=>False) (.inl ⟨rfl,rfl,λ_ _ _=>id⟩) hd (Env.Af hres) (((Ag sp.ptr 0 ds).run σ).1/\sp.pre ds')
  grind [S.app]
 | ground =>
  rw[hk]at hres;simp only[hk]at hc ⊢;obtain⟨_,_,hg,hptr⟩:=hc;have hMb:Mb=[]:=Zw hptr hA;subst hMb;refine⟨v,F,β,rfl,Aw.refl _,λ_ _=>rfl,?_⟩
  refine h.change (row:=λ_=>False) hst.os hst.tape hst.output hst.size (λb hb _=>hst.block b hb (λ⟨_,hm,_⟩=>by cases hm)) (λ_ hr=>hr.elim) (NX.refl _) (λ_ _ _ _=>rfl)
   (λb i x hx=>hok b i x (hst.sub _ _ _ (hF1 b i x hx))) (λb i x hx=>aAD (h.fin b i x hx) hst.size) (Aw.refl _) (by rw[BJ];exact h.size) (by rw[Bo];exact h.defers)
   (h.Cm (NX.refl _) (Aw.refl _) hd (Env.Af (Iz hg hres))) (λg v' o' hg'=>.inl ⟨hg',λ_ _ _ _ _=>id⟩) ?_ ?_
  ·intro g1 g2 v1 v2 o1 o2 L1 L2 b hg1 hg2 hf1 hf2 hL1 hL2 hb1 hb2 _;exact h.dist g1 g2 v1 v2 o1 o2 L1 L2 b hg1 hg2 hf1 hf2 hL1 hL2 hb1 hb2
  ·intro φ hφ;have hblk:∀ b,b<w.heap.size->w'.heap[b]? =w.heap[b]?:=λb hb=>hst.block b hb (λ⟨_,hm,_⟩=>by cases hm)
   refine⟨φ,hφ.keep (NX.refl _) (Aw.refl _) hst.size (λ_ _ _ _ _ _=>rfl) (λg i j b hb=>hblk b (hφ.lt g i j b hb)) (λg v o hg=>?_) (λg v o hr hg hf=>.inl ⟨o,hg,hf,rfl,rfl,λi j e c he hj _=>⟨⟨e,he,hj⟩,λL b C x hL hb hC hx=>⟨C,?_,hx⟩⟩⟩) hφ.sep⟩
   ·obtain⟨L,hL,_⟩:=h.own g v o hg;simp_all
   ·rw[hblk b (h.sep g v o L b hg hf hL hb).2.1]at hC;exact hC
 | row s ty =>
  rw[hk]at hres;obtain⟨es,L,hes,rfl,hown,hL⟩:=hres;simp only[hk,hes]at hc ⊢;obtain⟨_,_,hds⟩:=hc;obtain⟨t,rfl⟩:=aAE.1 hds;obtain⟨b1,b2,b3⟩:=Cf (φm:=λ_ _ _=>False) hS1 hφ1 hnv hps1 hok hfin hst hback (E:=AP (some t) (some (nv,⟨false,false,s,ty,es⟩))) (.inr ⟨t,_,L,rfl,rfl,rfl,hown,λb hb=>⟨(hL b hb).1,(hL b hb).2.1,(hL b hb).2.2.1,λk j h=>hψρ k j b h (hL b hb).2.2.2⟩,λ_ _ _ h=>h.elim,λ_ _ _ _ _ h=>h.elim,λhr=>by simp_all⟩) hd (d:=.osl t nv 0 es.length) (v:=.slice (L.b.map λb=>⟨b,0,none⟩) es.length L.cap)
   (by
    refine⟨L,_,Ak _ _ _,rfl,by simpa using hown.2.2.1,λ_=>rfl,λhp=>?_⟩
    cases hLb:L.b with
    | none =>
     obtain⟨_,_,k3,_,_,k6⟩:=hown;simp_all
    | some b=>exact⟨b,rfl,by simp⟩) (((Ag sp.ptr 0 ds).run σ).1/\sp.pre ds'/\(some t).isSome=true)
  grind [S.app]
 | mat s ty =>
  rw[hk]at hres;obtain⟨es,L,φm,hes,rfl,hown,hL,hm1,hm2,hm3,hm4⟩:=hres;simp only[hk,hes]at hc ⊢;obtain⟨_,_,hds⟩:=hc;obtain⟨t,rfl⟩:=aAE.1 hds
  obtain⟨b1,b2,b3⟩:=Cf (φm:=φm) hS1 hφ1 hnv hps1 hok hfin hst hback (E:=Dx true (some t) (some (nv,⟨false,false,s,ty,es⟩))) (.inr ⟨nmR true t,_,L,rfl,rfl,rfl,hown,λb hb=>⟨(hL b hb).1,(hL b hb).2.1,(hL b hb).2.2.1,λk j h=>hψρ k j b h (hL b hb).2.2.2⟩,
    λi j b hb=>⟨(hm1 i j b hb).1,(hm1 i j b hb).2.1,(hm1 i j b hb).2.2.1,λk j' h=>hψρ k j' b h (hm1 i j b hb).2.2.2.1,(hm1 i j b hb).2.2.2.2⟩,hm2,λ_=>⟨hm3,hm4⟩⟩) hd (d:=.osl (nmR true t) nv 0 es.length) (v:=.slice (L.b.map λb=>⟨b,0,none⟩) es.length L.cap)
   (by
    refine⟨L,_,Ak _ _ _,rfl,by simpa using hown.2.2.1,λ_=>rfl,λhp=>?_⟩
    cases hLb:L.b with
    | none =>
     obtain⟨_,_,k3,_,_,k6⟩:=hown
     grind
    | some b=>grind) (((Ag sp.ptr 0 ds).run σ).1/\sp.pre ds'/\(some t).isSome=true)
  grind [S.app]
 | ptr s ty =>
  rw[hk]at hres;obtain⟨b,rfl,hown,hb1,hb2,hb3,hb4⟩:=hres;simp only[hk]at hc ⊢;obtain⟨_,_,hds⟩:=hc;obtain⟨t,rfl⟩:=aAE.1 hds;obtain⟨b1,b2,b3⟩:=Cf (φm:=λ_ _ _=>False) hS1 hφ1 hnv hps1 hok hfin hst hback (E:=AP (some t) (some (nv,⟨false,true,s,ty,[sp.res ds']⟩))) (.inr ⟨t,_,⟨some b,1,s⟩,rfl,rfl,rfl,hown,λb' hb'=>(by grind),λ_ _ _ h=>h.elim,λ_ _ _ _ _ h=>h.elim,λhr=>by rw[htr t rfl]at hr;cases hr⟩) hd (d:=.optr t nv 0 0) (v:=.pointer (some ⟨b,0,none⟩))
   ⟨_,b,Ak _ _ _,rfl,by simp⟩ (((Ag sp.ptr 0 ds).run σ).1/\sp.pre ds'/\(some t).isSome=true)
  grind [S.app]
 | tupPtr q s ty =>
  rw[hk]at hres;obtain⟨rs,vs,b,hrs,rfl,hlen,hfro,hq,hown,hb1,hb2,hb3,hb4⟩:=hres;simp only[hk,hrs]at hc ⊢;obtain⟨_,_,hds⟩:=hc;obtain⟨t,rfl⟩:=aAE.1 hds;obtain⟨b1,b2,b3⟩:=Cf (φm:=λ_ _ _=>False) hS1 hφ1 hnv hps1 hok hfin hst hback (E:=AP (some t) (some (nv,⟨false,true,s,ty,[rs.getD q .top]⟩))) (.inr ⟨t,_,⟨some b,1,s⟩,rfl,rfl,rfl,hown,λb' hb'=>(by cases hb';exact⟨hb1,hb2,hb3,λk j h=>hψρ k j b h hb4⟩),λ_ _ _ h=>h.elim,λ_ _ _ _ _ h=>h.elim,λhr=>by rw[htr t rfl]at hr;cases hr⟩) hd (d:=.tup (rs.set q (.optr t nv 0 0))) (v:=.tuple vs.toArray)
   (by
    refine⟨vs,rfl,by simp[hlen],λj c x hj hx=>?_⟩
    by_cases hjq:j=q
    ·subst hjq;have hlt:j<rs.length:=by rw[hlen];exact(aAC.1 hx).1
     rw[aAr hlt]at hj;cases hj;rw[hq]at hx;cases hx;exact⟨_,b,Ak _ _ _,rfl,by simp⟩
    ·rw[aAe (λe=>hjq e.symm)]at hj
     exact Cel.Af (hfro j c x hjq hj hx)) (((Ag sp.ptr 0 ds).run σ).1/\sp.pre ds'/\(some t).isSome=true)
  refine⟨_,F',_,rfl,b1,b2,?_⟩;have e:∀ (c:Prop) (we:List (Nat×D)) (x:List (Nat×Aa)),(σ.app ⟨c,we,x++An ps (sp.eff ds')++ws⟩)=(S.mk σ.e (ws++σ.o) σ.n).app ⟨c,we,x++An ps (sp.eff ds')⟩:=by
   intro c we x;simp[S.app]
  rw[e];exact b3
theorem Sim.wrote (h:Sim N Δ w0 F0 M B0 σ F β a w) {g v:Nat} (hg:σ.go g=some (v,o)) (hfz:o.fz=false) (hL:β v=some L) (hos:w'.os=w.os) (htape:w'.tape=w.tape) (hout:w'.output=w.output) (hsz:w.heap.size<=w'.heap.size) (hblk:∀ b,b<w.heap.size->L.b≠some b->w'.heap[b]? =w.heap[b]?) (hown':Au F β w' L { o with es:=es' }) (hpl:Dw.Ad g=true->∀ e∈es',AO e=true) (hd:∀ t,dst=some t->t<N) (hv:Env F β d x) :
  Sim N Δ w0 F0 M B0 (σ.app ⟨c,Ah dst d,[(g,some (v,{ o with es:=es' }))]⟩) F β (a.put dst x) w':=by
 have hgo:∀ g',(σ.app ⟨c,Ah dst d,[(g,some (v,{ o with es:=es' }))]⟩).go g'=if g'=g then some (v,{ o with es:=es' })else σ.go g':=by
  intro g';exact S.Dc (c:=c) (we:=Ah dst d) (t:=g) (nv:=v) (o:={ o with es:=es' }) σ g'
 have hF:∀ b,L.b=some b->(∀ i,F b i=none)/\b<w.heap.size/\(w0.heap.size<=b\/(M b/\(Dw.Ad g=true\/w0.drawn<=b))):=λb hb=>h.sep g v o L b hg hfz hL hb
 refine h.change (row:=λb=>L.b=some b) hos htape hout hsz hblk ?_ (NX.refl _) (λ_ _ _ _=>rfl) ?_ ?_ (Aw.refl _) (by rw[BJ];exact h.size) (by rw[Bo];exact h.defers) (h.Cm (NX.refl _) (Aw.refl _) hd hv) ?_ ?_ ?_
 ·grind
 ·intro b' i y hy;have hne:L.b≠some b':=λe=>by simp_all
  rw[aAV (w:=w) (hblk b' (h.fin b' i y hy) hne)];exact h.frz b' i y hy
 ·intro b' i y hy;exact aAD (h.fin b' i y hy) hsz
 ·intro g' v' o' hg';rw[hgo]at hg';split at hg'
  ·grind
  ·rename_i hne;exact .inl ⟨hg',λL' b' hf hL' hb' hr=>hne (h.dist g' g v' v o' o L' L b' hg' hg hf hfz hL' hL hb' hr)⟩
 ·intro g1 g2 v1 v2 o1 o2 L1 L2 b' hg1 hg2 hf1 hf2 hL1 hL2 hb1 hb2 _;have key:∀ g' v' o',(σ.app ⟨c,Ah dst d,[(g,some (v,{ o with es:=es' }))]⟩).go g'=some (v',o')->∃ o'',σ.go g'=some (v',o'')/\o''.fz=o'.fz:=by
   grind
  obtain⟨p1,q1,r1⟩:=key _ _ _ hg1;obtain⟨p2,q2,r2⟩:=key _ _ _ hg2;exact h.dist g1 g2 v1 v2 p1 p2 L1 L2 b' q1 q2 (r1.trans hf1) (r2.trans hf2) hL1 hL2 hb1 hb2
 ·intro φ hφ;refine⟨φ,hφ.keep (NX.refl _) (Aw.refl _) hsz (λ_ _ _ _ _ _=>rfl) (λg1 i j b hb=>hblk b (hφ.lt g1 i j b hb) (hφ.sep g1 i j b g v o L hb hg hfz hL)) (λg v o hg=>?_) (λg1 v1 o1 hr hg1 hf=>?_) (λg1 i j b g2 v2 o2 L2 hb hg2 hf2 hL2=>?_)⟩
  ·obtain⟨L,hL,_⟩:=h.own g v o hg;simp_all
  ·rw[hgo]at hg1;split at hg1
   ·grind
   ·rename_i hne;refine .inl ⟨o1,hg1,hf,rfl,rfl,λi j e c he hj _=>⟨⟨e,he,hj⟩,λL1 b1 C x hL1 hb1 hC hx=>⟨C,?_,hx⟩⟩⟩
    rw[hblk b1 (h.sep g1 v1 o1 L1 b1 hg1 hf hL1 hb1).2.1 (λe=>hne (h.dist g1 g v1 v o1 o L1 L b1 hg1 hg hf hfz hL1 hL hb1 e))]at hC
    exact hC
  ·rw[hgo]at hg2;split at hg2
   ·rename_i e;subst e;cases hg2;exact hφ.sep g1 i j b g2 _ o L2 hb hg hfz hL2
   ·exact hφ.sep g1 i j b g2 v2 o2 L2 hb hg2 hf2 hL2
theorem Au.cut {w:World} (h:Au F β w L { o with es:=es }) (k:Nat):Au F β w L { o with es:=es.take k }:=by
 obtain⟨o1,o2,o3,o4,o5,o6⟩:=h;refine⟨o1,o2,by grind,o4,λe he=>o5 e (aAJ he),?_⟩
 cases hb:L.b with
 | none=>simp_all
 | some b =>
  grind
theorem Au.Kr {w:World} (h:Au F β w L { o with es:=es }) (b:Bool) (k:Nat):Au F β w L { o with es:=if b then es.take k else es }:=by
 cases b
 ·exact h
 ·exact h.cut k
theorem KY {q:CB} (hq:GF P f q) (h:Sim N Δ w0 F0 M B0 σ F β a w) (hd:∀ t,dst=some t->t<N) (hl:ds.length=xs.length) (hv:∀ (j:Nat) d x,ds[j]? =some d->xs[j]? =some x->Env F β d x) (hc:((Dp dst q ds).run σ).c) :
  Calls P f xs.toArray w (λe w'=>∃ v F' β',e= .returned v/\Aw β β'/\(∀ x,β' x=β x)/\Sim N Δ w0 F0 M B0 (σ.app ((Dp dst q ds).run σ)) F' β' (a.put dst v) w'):=by
 obtain⟨q0,q1,q2⟩:=hq
 match ds,xs,hl with
 | [],_,_=>exact hc.elim
 | d::es,x::ys,hl =>
  have hx:=hv 0 d x rfl rfl;have hys:es=(es.map Bf).map (D.int .i64)->ys=(es.map Bf).map (Value.int .i64):=by
   intro he;have hle:es.length=ys.length:=by grind
   refine List.ext_getElem? λk=>?_
   by_cases hk:k<ys.length
   ·have e1:es[k]? =some (es[k]'(by omega)):=aA _
    have e2:ys[k]? =some ys[k]:=aA hk;have h1:=hv (k+1) _ _ (show(d::es)[k+1]? =_ from e1) (show(x::ys)[k+1]? =_ from e2)
    have h3:es[k]? =some (.int .i64 (Bf (es[k]'(by omega)))):=by
     grind
    rw[e1]at h3;have h4:=Option.some.inj h3;rw[h4]at h1;have h5:∀ (z:Int) y,Env F β (.int .i64 z) y->y= .int .i64 z:=λz y hy=>by cases hy;rfl
    grind
   grind
  have houtE:∀ zs ks,Env F β (q.FM zs ks) (q.out zs ks):=by
   intro zs ks;unfold CB.FM CB.out;cases q.fi with
   | none=>exact Env.top _
   | some f=>exact Env.Af (.int _ _)
  cases d<;>try exact hc.elim
  case nils =>
   cases hx;obtain⟨he,hpre⟩:=hc;rw[hys he];refine(q1 w none 0 _ hpre).mono ?_;rintro e w' ⟨rfl,rfl⟩;refine⟨_,F,β,rfl,Aw.refl _,λ_=>rfl,h.put hd ?_ rfl rfl rfl rfl⟩
   cases hr:q.r
   ·grind
   ·exact Env.Af .nils
  case osl g v i n =>
   obtain⟨L,ad,hL,rfl,hin,h0,hpos⟩:=hx;simp only[Dp,R.Cy]at hc ⊢;cases hg:σ.go g with
   | none=>rw[hg]at hc;exact hc.elim
   | some p =>
    obtain⟨v',o⟩:=p;rw[hg]at hc;simp only[R.BT]at hc ⊢;obtain⟨rfl,hfz,hvar,hs1,hlen,hbig,hpl,hint,hes0,hpre⟩:=hc;rw[hys hes0];generalize hzs:((o.es.drop i).take n).map Bf=zs at hint hpre ⊢;generalize hks:es.map Bf=ks at hpre ⊢;have hzl:zs.length=n:=by rw[<- hzs];simp;omega
    obtain⟨fl0,fk0⟩:=q0 zs ks hpre;obtain⟨L',hL',_,hown⟩:=h.own g v o hg;rw[hL]at hL';cases hL';have hown:=hown hfz;obtain⟨o1,o2,o3,o4,o5,o6⟩:=hown;have hres:Env F β (if q.r=true then .osl g v i (q.fk zs ks)else q.FM zs ks) (if q.r=true then .slice ad (q.fk zs ks) (L.cap-i)else q.out zs ks):=by
     cases hr:q.r
     ·grind
     ·refine Env.Ai ⟨L,ad,hL,rfl,by omega,h0,λhk=>hpos (by omega)⟩
    have hplain:∀ (zs':List Int) (k:Nat),Dw.Ad g=true->∀ e∈(if q.r=true then(o.es.take i++zs'.map (D.int .i64)++o.es.drop (i+n)).take k else o.es.take i++zs'.map (D.int .i64)++o.es.drop (i+n)),AO e=true:=by
     intro zs' k hr e he;have he:e∈o.es.take i++zs'.map (D.int .i64)++o.es.drop (i+n):=by
      split at he
      all_goals grind
     rcases aAb.1 he with he|he
     ·rcases aAb.1 he with he|he
      ·grind
      ·obtain⟨z,_,rfl⟩:=List.mem_map.1 he;rfl
     grind
    by_cases hn:n=0
    ·subst hn;have hz:zs=[]:=aAH hzl;subst hz;have hf:q.fl [] ks=[]:=aAH (by omega)
     have hk:q.fk [] ks=0:=by omega
     rw[hk]at hres ⊢;refine(q1 w ad (L.cap-i) ks hpre).mono ?_;rintro e w' ⟨rfl,rfl⟩;refine⟨_,F,β,rfl,Aw.refl _,λ_=>rfl,?_⟩
     have hes:o.es.take i++(q.fl [] ks).map (D.int .i64)++o.es.drop (i+0)=o.es:=by rw[hf];simp
     refine h.wrote hg hfz hL rfl rfl rfl (aAI _) (λ_ _ _=>rfl) (Au.Kr ?_ _ _) (hplain _ _) hd hres
     rw[hes];exact⟨o1,o2,o3,o4,o5,o6⟩
    ·obtain⟨b,hb,rfl⟩:=hpos (by omega)
     rw[hb]at o6;obtain⟨C,hC,hCs,hCx⟩:=o6;have hes:∀ (j:Nat) z,zs[j]? =some z->o.es[i+j]? =some (.int .i64 z):=by
      intro j z hz;have h1:(zs.map (D.int .i64))[j]? =some (.int .i64 z):=by rw[aAY,hz];rfl
      rw[<- hint,aAl]at h1;split at h1
      ·rwa[List.getElem?_drop]at h1
      ·cases h1
     rw[hvar]at hCx;have hcell:∀ (j:Nat) z,zs[j]? =some z->C[i*L.s+j]? =some (.int .i64 z):=by
      intro j z hz;obtain⟨y,y1,_,y3⟩:=hCx (i+j) 0 _ _ (hes j z hz) rfl;simp only[Bool.false_eq_true,if_false]at y3;cases y3;rw[o1,hs1,Nat.mul_one];rw[hs1,Nat.mul_one]at y1;exact y1
     have:=q2 w b (i*L.s) (L.cap-i) o.ty C zs ks hpre (by omega) (by omega) (by omega) hC hcell
     rw[hzl]at this;refine this.mono ?_;rintro e w' ⟨rfl,e1,e2,e3,e4,e5,C',c1,c2,c3,c4⟩;refine⟨_,F,β,rfl,Aw.refl _,λ_=>rfl,h.wrote hg hfz hL e1 e2 e3 e4 (λb' hb' hne=>e5 b' hb' λe=>hne (by rw[hb,e])) (Au.Kr ?_ _ _) (hplain _ _) hd hres⟩
     have hlen':(o.es.take i++(q.fl zs ks).map (D.int .i64)++o.es.drop (i+n)).length=o.es.length:=by simp[fl0,hzl];omega
     have hget:∀ p,(o.es.take i++(q.fl zs ks).map (D.int .i64)++o.es.drop (i+n))[p]? =if p<i\/i+n<=p then o.es[p]? else((q.fl zs ks)[p-i]?).map (D.int .i64):=by
      intro p;have hti:(o.es.take i).length=i:=by simp;omega
      by_cases p1:p<i
      ·rw[if_pos (.inl p1),List.append_assoc,aAG (by omega),aAl,if_pos p1]
      ·by_cases p2:i+n<=p
       ·rw[if_pos (.inr p2),aAF (by simp[fl0,hzl];omega),List.getElem?_drop]
        congr 1;simp[fl0,hzl];omega
       ·rw[if_neg (by omega),List.append_assoc,aAF (by omega),hti,aAG (by simp[fl0,hzl];omega),aAY]
     refine⟨o1,o2,by simp only[hlen'];exact o3,o4,?_,?_⟩
     ·intro e he;obtain⟨p,hp⟩:=List.getElem?_of_mem he;rw[hget]at hp;split at hp
      ·exact o5 e (aAA hp)
      ·rw[aAP]at hp;obtain⟨z,_,rfl⟩:=hp;exact hs1.symm
     ·rw[hb];refine⟨C',c1,c2.trans hCs,λp j e d he hdd=>?_⟩
      simp only at he ⊢;rw[hget]at he;rw[hvar];simp only[Bool.false_eq_true,if_false]at hCx ⊢;have hs:L.s=1:=o1.trans hs1;have hj:j=0:=by
       have hm:(cells e).length=1:=by
        split at he
        ·rw[<- hs1];exact o5 e (aAA he)
        ·rw[aAP]at he;obtain⟨z,_,rfl⟩:=he;rfl
       grind
      subst hj;split at he
      ·rename_i hp;obtain⟨y,y1,y2,y3⟩:=hCx p 0 e d he hdd;refine⟨y,?_,y2,y3⟩;rw[c3 _ (by rw[hs,hs1];omega)]
       exact y1
      ·rename_i hp;rw[aAP]at he;obtain⟨z,hz,rfl⟩:=he;cases hdd;refine⟨.int .i64 z,?_,rfl,.int _ _⟩;have:=c4 _ _ hz;rw[hs]at this;rw[hs1,<- this];congr 1;omega
 | _::_,[],hl=>cases hl
end
section
variable {N:Nat} {Δ:List Deferred} {w0:World} {F0:Fz} {M:Nat->Prop} {B0:Bt} {σ:S} {F:Fz} {β:Bt} {a:Act} {w:World} {P:Program}
theorem CD (h:Sim N Δ w0 F0 M B0 σ F β a w):∀ {xs:List Operand} {ys:List Arg},Ch xs=some ys->((AD ys).run σ).length=xs.length/\∀ (q:Nat) d x,((AD ys).run σ)[q]? =some d->(xs.map a.eval)[q]? =some x->Env F β d x
 | [],ys,hy=>by
  simp_all[Ch,AD]
 | x::xs,ys,hy=>by
  simp only[Ch,List.mapM_cons,aAf,aAQ]at hy;obtain⟨y,hy1,ys',hy2,hy3⟩:=hy;cases hy3;obtain⟨l,r⟩:=CD h (xs:=xs) (ys:=ys') hy2
  grind [AD,R.run_bind,R.run_pure,aAN,Ce]
theorem GI {o:Oper} {cf:Operand} {ct:Array TypeId} (ho:o.op= .call ⟨.value cf,as,ct⟩) {k k':Nat} (hke:unb ys k=k') (hkb:aAO k' 4096=true) (hvs:a.eval cf=fnV k vs) (l:ys=[]->as.toList.length=0) {fn:Func} (hfn:P.funcs[k']? =some fn) (hnm:(fn.name == "runtime.NumGoroutine")=false) (hbd:fn.body.isNone=false):(execOp a.eval o).run P w= .ok (.enter k' (as.toList.map a.eval++vs).toArray) w:=by
 unfold execOp;simp only[ho];have e1:(as.map a.eval++vs.toArray)=(as.toList.map a.eval++vs).toArray:=by
  simp_all
 have hnm':¬ fn.name = "runtime.NumGoroutine":=by simp_all
 have hbd':¬ fn.body=none:=by grind
 cases hkk:aAO k 4096 with
 | true =>
  have e2:k'=k:=by grind [Dj]
  subst e2;rw[Fq hkk]at hvs;rw[<- e1];simp[resolve,Deferred.ofValue,hvs,invoke,callFunc,hfn,hnm',hbd']
 | false =>
  obtain⟨q,rfl⟩:∃ q,k=4096+q:=by
   refine⟨k-4096,?_⟩
   grind [aAu]
  rw[HR]at hvs;cases hys:ys with
  | nil =>
   rw[hys,LK]at hke;subst hke;have e3:as= #[]:=by
    apply Array.ext';have:=l hys;simp_all
   subst e3;simp[resolve,Deferred.ofValue,hvs,invoke,callFunc,hfn,hnm',hbd']
  | cons y ys' =>
   rw[hys]at hke;have hke':4096+q=k':=hke;rw[<- hke']at hkb
   grind [aAu]
theorem FH (h:Env F β d x) (hc:((res d).run σ).1):Val F β d x:=by
 cases d<;>first|exact h|exact hc.elim
theorem Fm (hc:((Ck ptr j d).run σ).1) (h:Env F β d x):Val F β d x:=by
 cases d<;>first|exact h|skip
 exfalso;simp only[Ck,AH]at hc;split at hc
 ·exact hc
 ·exact hc.elim
theorem DG {ptr:List (Nat×(Nat×Nat))}:∀ (ds:List D) (j q:Nat) (d:D),((Ag ptr j ds).run σ).1->ds[q]? =some d->∀ x,Env F β d x->Val F β d x
 | [],_,q,d,_,hq,x,_=>by simp at hq
 | d0::ds,j,q,d,hc,hq,x,hx=>by
  unfold Ag at hc;simp only[R.run_bind,R.run_pure]at hc;rcases q with _|q
  ·grind [Fm]
  ·exact DG ds (j+1) q d hc.2.1 (by simp_all) x hx
theorem Snd.false {o:Oper} {u:Out} (h:u.c->False) (hc:u.c):Snd P N Δ w0 F0 M B0 σ β a w o nv u:=(h hc).elim
theorem Kl {Γ:Al} (hΓ:∀ k sp,Γ k=some sp->Bm P F0 (k % 4096) sp) (h:Sim N Δ w0 F0 M B0 σ F β a w) (hnv:β nv=none) {o:Oper} (hd:∀ t,o.dst=some t->t<N) (htr:∀ t,o.dst=some t->Ad t=false) {f:Operand} {ts:Array TypeId} (ho:o.op= .call { callee:=.value f,args:=as,argTypes:=ts }) {fa:Arg} (hf:Ao f=some fa) (hy:Ch as.toList=some ys) (hc:((evalOp Γ nv o.dst (.call fa ys)).run σ).c):Snd P N Δ w0 F0 M B0 σ β a w o nv ((evalOp Γ nv o.dst (.call fa ys)).run σ):=by
 have hfe:=Ce h hf;simp only[evalOp,R.run_bind]at hc ⊢;generalize(raw fa).run σ=fd at *;cases fd<;>try exact hc.elim
 case clo k caps =>
  simp only[R.run_bind]at hc ⊢;obtain⟨vs,hvs,hvl,hvr⟩:=hfe;obtain⟨l,r⟩:=CD h hy;generalize hke:unb ys k=k' at *;cases hkb:aAO k' 4096 with
  | false=>simp_all
  | true =>
  rw[hkb]at hc;have hkm:(k'+4096*AJ ((AD ys).run σ)) % 4096=k':=by
   simp_all
  cases hG:Γ (k'+4096*AJ ((AD ys).run σ))with
  | none=>simp_all
  | some sp =>
   rw[hG]at hc;simp only at hc ⊢;have hsp:=hΓ _ sp hG;rw[hkm]at hsp;obtain⟨fn,hfn,hnm,hbd⟩:=hsp.1;have hrun:(execOp a.eval o).run P w= .ok (.enter k' (as.toList.map a.eval++vs).toArray) w:=GI ho hke hkb hvs (λe=>by rw[e]at l;exact l.symm) hfn hnm hbd
   cases hin:Bx sp.kind with
   | some q =>
    rw[hin]at hc;simp only at hc ⊢;have hall:∀ (j:Nat) d x,((AD ys).run σ++caps)[j]? =some d->(as.toList.map a.eval++vs)[j]? =some x->Env F β d x:=by
     grind [Env.Ai,Val.Am,Cel.BZ]
    have hcall:=KY (hsp.2.1 q hin) h hd (ds:=(AD ys).run σ++caps) (xs:=as.toList.map a.eval++vs) (by simp_all) hall hc
    intro K Q hK;unfold Oper.wp;rw[hrun];simp only[Oper.upon];refine hcall.mono ?_
    grind
   | none =>
   rw[hin]at hc;simp only[R.run_bind,R.run_pure]at hc ⊢;have hcargs:((Ag sp.ptr 0 ((AD ys).run σ++caps)).run σ).1:=by
    grind [Bg]
   have hall:∀ (q:Nat) d x,((AD ys).run σ++caps)[q]? =some d->(as.toList.map a.eval++vs)[q]? =some x->Val F β d x:=by
    grind [DG,Val.Am,Cel.BZ]
   have hcall:=KC hsp h hnv hd htr (ds:=(AD ys).run σ++caps) (xs:=as.toList.map a.eval++vs) (by simp_all) hall rfl hc
   intro K Q hK;unfold Oper.wp;rw[hrun];simp only[Oper.upon];refine hcall.mono ?_
   grind
theorem Fy (h:Sim N Δ w0 F0 M B0 σ F β a w) {places:Nat->Option (Nat×Nat)}:∀ (parts:List (Nat×Operand)) (ps:List (Nat×Nat×Arg)),Db places parts=some ps ->
  ((BQ ps).run σ).length=parts.length/\∀ (q:Nat) i x off s d,(parts.map λp=>(p.1,a.eval p.2))[q]? =some (i,x)->((BQ ps).run σ)[q]? =some (off,s,d)->places i=some (off,s)/\Env F β d x
 | [],ps,hp=>by
  simp only[Db,Option.some.injEq]at hp;subst hp;exact⟨rfl,λq i x off s d hq=>by simp at hq⟩
 | (i0,x0)::parts,ps,hp=>by
  simp only[Db,aAf,aAQ]at hp;obtain⟨⟨off0,s0⟩,h1,y,h2,r',h3,h4⟩:=hp;cases h4;obtain⟨l,r⟩:=Fy h parts r' h3
  grind [BQ,R.run_bind,R.run_pure,Ce]
theorem Fx (h:Sim N Δ w0 F0 M B0 σ F β a w):∀ (parts:List (Nat×Operand)) (ps:List (Nat×Arg)),DB parts=some ps->((AR ps).run σ).1 ->
  Aj σ ((AR ps).run σ).2.2/\((AR ps).run σ).2.1.length=parts.length /\
   ∀ (ws:List (Nat×Aa)) F',Aj σ ws->(∀ p∈((AR ps).run σ).2.2,p∈ws)->NX F F'->Sim N Δ w0 F0 M B0 ⟨σ.e,ws++σ.o,σ.n⟩ F' β a w ->
    ∀ (q:Nat) i x i' d,(parts.map λp=>(p.1,a.eval p.2))[q]? =some (i,x)->((AR ps).run σ).2.1[q]? =some (i',d)->i=i'/\Fro F' d x
 | [],ps,hp,_=>by
  simp only[DB,Option.some.injEq]at hp;subst hp;exact⟨Aj.nil σ,rfl,λ_ _ _ _ _ _ q i x i' d hq=>by simp at hq⟩
 | (i0,x0)::parts,ps,hp,hc=>by
  simp only[DB,aAf,aAQ]at hp;obtain⟨y,h2,r',h3,h4⟩:=hp;cases h4;simp only[AR,R.run_bind,R.run_pure]at hc ⊢;obtain⟨hc1,hc2⟩:=hc;obtain⟨f1,r1⟩:=Es h _ (FH (Ce h h2) hc1) hc1;obtain⟨f2,l2,r2⟩:=Fx h parts r' h3 hc2;refine⟨f1.append f2,by simp[l2],λws F' q1 q2 q3 q4 q i x i' d hq hd=>?_⟩
  grind
theorem Ml (h:Sim N Δ w0 F0 M B0 σ F β a w) {x? :Option Operand} {y? :Option Arg} (hy:Ei x? =some y?) :
  (∀ d,(BE y?).run σ=some d->∃ x,x?.map a.eval=some x/\Env F β d x)/\((BE y?).run σ=none->x?.map a.eval=none):=by
 cases x? with
 | none =>
  simp only[Ei,Option.some.injEq]at hy;subst hy;simp_all[BE]
 | some x =>
  grind [Ei,aAQ,BE,R.run_bind,R.run_pure,Ce]
theorem Jh {n:Int} (h:Env F β d x) (hb:(bound (some d) n).1):Val F β d x:=by
 cases d<;>first|exact h|exact hb.elim
end
theorem Hz {t:Nat} (h:aAO t 4096=true):Ad t=false:=by
 have:t<4096:=by simp_all
 simp only[Ad];cases hb:Nat.ble 4096 t
 ·rfl
 ·have:=Nat.le_of_ble_eq_true hb;omega
theorem CE (h:Cu N dst op=true) (h1:∀ f as,op≠ .call f as) (h2:∀ n a x,op≠ .st n a x) (h4:op≠ .fail:=by intro h;cases h):∃ t,dst=some t/\t<N:=by
 unfold Cu at h;cases dst with
 | some t =>
  grind
 | none=>cases op<;>first|(exfalso;exact h4 rfl)|(exfalso;exact h2 _ _ _ rfl)|(exfalso;exact h1 _ _ rfl)|cases h
theorem Jf (h:Cu N dst op=true):∀ t,dst=some t->t<N:=by
 rintro t rfl;unfold Cu at h
 grind
theorem JR (h:Cu N dst op=true):∀ t,dst=some t->Ad t=false:=by
 rintro t rfl;unfold Cu at h;cases op<;>first|exact Hz (Bool.and_eq_true_iff.1 h).2|cases h
section
variable {N:Nat} {Δ:List Deferred} {w0:World} {F0:Fz} {M:Nat->Prop} {B0:Bt} {σ:S} {F:Fz} {β:Bt} {a:Act} {w:World} {P:Program}
theorem Ln {Γ:Al} (h:Sim N Δ w0 F0 M B0 σ F β a w) (hnv:β nv=none) {o:Oper} {t:Nat} (hdst:o.dst=some t) (ht:t<N) (htr:Ad t=false) {x:Operand} (ho:o.op= .assign x) {y:Arg} (hy:Ao x=some y) {sl:Option (Nat×Nat)} (hsl:∀ s ty,sl=some (s,ty)->0<s) (hc:((evalOp Γ nv o.dst (.asg y sl)).run σ).c):Snd P N Δ w0 F0 M B0 σ β a w o nv ((evalOp Γ nv o.dst (.asg y sl)).run σ):=by
 have he:=Ce h hy;have hrun:(execOp a.eval o).run P w= .ok (.value (a.eval x)) w:=by simp_all[execOp]
 have hplain:Snd P N Δ w0 F0 M B0 σ β a w o nv ⟨True,Ah o.dst ((raw y).run σ),[]⟩:=Snd.pure' h (λt' e=>by simp_all) hrun he
 simp only[evalOp,R.run_bind]at hc ⊢;generalize(raw y).run σ=d at *;split at hc
 ·
  rename_i s ty;simp only[R.run_pure]at hc ⊢;intro K Q hK;unfold Oper.wp;rw[hrun];simp only[Oper.upon,hdst];have hx:a.eval x= .slice none 0 0:=Eb (β:=β) he;have hok:Au F (upB β nv ⟨none,0,s⟩) w ⟨none,0,s⟩ ⟨false,false,s,ty,[]⟩:=⟨rfl,hsl s ty rfl,by simp,by simp,λe he=>by simp at he,rfl,rfl⟩
  have hβ:=AW (β:=β) (nv:=nv) ⟨none,0,s⟩ hnv;have hgo:=λg=>S.Dc (c:=True) (we:=Ah (some t) (.osl t nv 0 0)) (t:=t) (nv:=nv) (o:=⟨false,false,s,ty,[]⟩) σ g
  rw[hdst]at hK;refine hK _ w F (upB β nv ⟨none,0,s⟩) ?_ hβ (λv hv=>Cg _ _ hv)
  refine h.change (row:=λ_=>False) rfl rfl rfl (aAI _) (λ_ _ _=>rfl) (λ_ hr=>hr.elim) (NX.refl _) (λ_ _ _ _=>rfl) h.frz h.fin hβ (by rw[BJ];exact h.size) (by rw[Bo];exact h.defers)
   (h.Cm (NX.refl _) hβ (λt' e=>by simp_all) ⟨_,none,Ak _ _ _,hx,aAI _,λ_=>rfl,λhp=>absurd hp (by omega)⟩) ?_ ?_ ?_
  ·grind [Ak]
  ·intro g1 g2 v1 v2 o1 o2 L1 L2 b hg1 hg2 hf1 hf2 hL1 hL2 hb1 hb2 hr;simp only[aAo]at hg1 hg2;rw[hgo]at hg1 hg2;split at hg1
   ·grind [Ak]
   ·split at hg2
    ·grind [Ak]
    ·obtain⟨L1',e1,_⟩:=h.own _ _ _ hg1;have:=hβ _ _ e1;rw[hL1]at this;cases this;have:=(h.sep _ _ _ _ b hg1 hf1 e1 hb1).2.1
     grind
  ·intro φ hφ;refine⟨φ,hφ.keep (NX.refl _) hβ (aAI _) (λ_ _ _ _ _ _=>rfl) (λ_ _ _ _ _=>rfl) (λg v o hg=>?_) (λg v o hr hg hf=>?_) (λg i j b g' v' o' L' hb hg hf hL'=>?_)⟩
   ·obtain⟨L,hL,_⟩:=h.own g v o hg;simp_all
   ·grind
   ·simp only[aAo]at hg;rw[hgo]at hg;split at hg
    ·grind [Ak]
    ·obtain⟨L0,e0,_⟩:=h.own g' v' o' hg;have:=hβ _ _ e0;rw[hL']at this;cases this;exact hφ.sep g i j b g' v' o' L' hb hg hf e0
 ·
  rename_i g v n st;simp only[R.run]at hc ⊢;cases hg:σ.go g with
  | none=>simp_all
  | some p =>
   obtain⟨v',ow⟩:=p;rw[hg]at hc;simp only at hc ⊢
   by_cases hfz:ow.fz=true
   ·rw[if_pos hfz]at hc ⊢;simp only[R.run]at hc ⊢;obtain⟨rfl,hvar,hn⟩:=hc;refine Snd.pure' h (λt' e=>by simp_all) hrun (Env.Af ?_)
    obtain⟨L,A,hL,hx,hcap,_,hpos⟩:=he;obtain⟨L',hL',hz,_⟩:=h.own g v ow hg;rw[hL]at hL';cases hL';rw[hx];have:=EU (hz hfz) (i:=0) (n:=n) (c:=L.cap-0) (a:=A) (by omega) (by omega) (by omega) (by omega)
    simp_all
   ·have hfz':¬ (ow.fz=true):=hfz;replace hfz:ow.fz=false:=by simp_all
    rw[if_neg hfz']at hc ⊢
    by_cases hrch:Ad g=true
    ·simp_all
    rw[if_neg hrch]at hc ⊢;simp only[R.run]at hc ⊢;obtain⟨rfl,hvar,hn,hpl⟩:=hc;obtain⟨L,A,hL,hx,hcap,ha0,hpos⟩:=he;obtain⟨L',hL',_,hk⟩:=h.own g v ow hg;rw[hL]at hL';cases hL';obtain⟨e1,e2,e3,e4,e5,e6⟩:=hk hfz;have hβ:=AW (β:=β) (nv:=nv) L hnv;have hok:Au F (upB β nv L) w L { ow with es:=ow.es.take n }:=by
     refine⟨e1,e2,by simp;omega,e4,λe he=>e5 e (aAJ he),?_⟩
     cases hb:L.b with
     | none=>simp_all
     | some b =>
      grind
    intro K Q hK;unfold Oper.wp;rw[hrun];simp only[Oper.upon,hdst];rw[hdst]at hK;simp only[aAo]at hK;obtain⟨tt,htt⟩:∃ tt,tt=nmR (Ad g) t:=⟨_,rfl⟩;have hput:∀ q,Dx (Ad g) (some t) q=AP (some tt) q:=λq=>by rw[htt];rfl
    rw[<- htt,hput]at hK;have hgo:∀ (c:Prop) (we:List (Nat×D)) g' v' o',(σ.app ⟨c,we,AP (some tt) (some (nv,{ ow with es:=ow.es.take n }))++[(g,none)]⟩).go g'=some (v',o')->(g'=tt/\v'=nv/\o'={ ow with es:=ow.es.take n })\/(g'≠tt/\g'≠g/\σ.go g'=some (v',o')):=by
     intro c we g' v' o' hg';rw[S.CN]at hg';simp only[AP,aAa,look]at hg'
     grind
    refine hK _ w F (upB β nv L) ?_ hβ (λv hv=>Cg _ _ hv)
    refine h.change (row:=λb=>L.b=some b) rfl rfl rfl (aAI _) (λ_ _ _=>rfl) ?_ (NX.refl _) (λ_ _ _ _=>rfl) h.frz h.fin hβ (by rw[BJ];exact h.size) (by rw[Bo];exact h.defers)
     (h.Cm (NX.refl _) hβ (λt' e=>by simp_all) ⟨L,A,Ak _ _ _,hx,hcap,ha0,hpos⟩) ?_ ?_ ?_
    ·intro b hb;exact(h.sep g v ow L b hg hfz hL hb).2.2.imp id And.left
    ·intro g' v' o' hg';rcases hgo _ _ g' v' o' hg' with⟨h1,rfl,rfl⟩|⟨h1,h2,h3⟩
     ·refine .inr ⟨L,Ak _ _ _,hfz,hok,λb hb=>?_⟩
      obtain⟨s1,s2,s3⟩:=h.sep g v ow L b hg hfz hL hb
      grind
     ·refine .inl ⟨h3,λL' b hf hL' hb' hb=>?_⟩
      exact h2 (h.dist g' g v' v o' ow L' L b h3 hg hf hfz hL' hL hb' hb)
    ·intro g1 g2 v1 v2 o1 o2 L1 L2 b hg1 hg2 hf1 hf2 hL1 hL2 hb1 hb2 hr;have key:∀ (c:Prop) (we:List (Nat×D)) g' v' o' L',(σ.app ⟨c,we,AP (some tt) (some (nv,{ ow with es:=ow.es.take n }))++[(g,none)]⟩).go g'=some (v',o')->o'.fz=false->upB β nv L v'=some L'->L'.b=some b->g'=tt:=by
      intro c we g' v' o' L' hg' hf' hL' hb';rcases hgo _ _ g' v' o' hg' with⟨h1,_⟩|⟨h1,h2,h3⟩
      ·exact h1
      ·exfalso;obtain⟨L0,k0,_⟩:=h.own g' v' o' h3;have:=hβ _ _ k0;rw[hL']at this;cases this;rcases hr with hr|hr
       ·exact h2 (h.dist g' g v' v o' ow _ L b h3 hg hf' hfz k0 hL hb' hr)
       ·have:=(h.sep g' v' o' _ b h3 hf' k0 hb').2.1;omega
     grind
    ·intro φ hφ;refine⟨φ,hφ.keep (NX.refl _) hβ (aAI _) (λ_ _ _ _ _ _=>rfl) (λ_ _ _ _ _=>rfl) (λg v o hg=>?_) (λg' v' o' hr hg' hf=>?_) (λg1 i j b g' v' o' L' hb hg' hf hL'=>?_)⟩
     ·obtain⟨L,hL,_⟩:=h.own g v o hg;simp_all
     ·rcases hgo _ _ g' v' o' hg' with⟨h1,rfl,rfl⟩|⟨h1,h2,h3⟩
      ·refine .inr λe he=>hpl ?_ e (aAJ he)
       cases hrg:Ad g with
       | true=>rfl
       | false =>
        rw[h1,htt,hrg]at hr;simp only[nmR,cond_false]at hr;rw[htr]at hr;cases hr
      ·exact .inl ⟨o',h3,hf,rfl,rfl,λi j e c he hj _=>⟨⟨e,he,hj⟩,λL b C x _ _ hC hx=>⟨C,hC,hx⟩⟩⟩
     ·rcases hgo _ _ g' v' o' hg' with⟨h1,rfl,rfl⟩|⟨h1,h2,h3⟩
      ·rw[Ak]at hL';cases hL';exact hφ.sep g1 i j b g v ow _ hb hg hfz hL
      ·obtain⟨L0,e0,_⟩:=h.own g' v' o' h3;have:=hβ _ _ e0;rw[hL']at this;cases this;exact hφ.sep g1 i j b g' v' o' L' hb h3 hf e0
 simp_all
end
end Go.Dw
