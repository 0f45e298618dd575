/-
  The types of the data; written by a program (dx.py).
-/
import Derived.Test.YtilmapojncgflaaGreatDoorProg
import Derived.Test.YtilmapojncgflaaGreatDoorDd
import Derived.KernelRfl
namespace Go.Proofs.YtilmapojncgflaaGreatDoor
open Go Go.Dw Go.Proofs
set_option maxRecDepth 100000
set_option maxHeartbeats 40000000
abbrev eI8 (n:Int):D:= .int .i8 n
abbrev AyM (n:Int):D:= .int .i16 n
abbrev AyN (n:Int):D:= .int .i32 n
abbrev Lo (n:Int):D:= .int .i64 n
abbrev eU8 (n:Int):D:= .int .u8 n
abbrev AyO (n:Int):D:= .int .u16 n
abbrev AyP (n:Int):D:= .int .u32 n
abbrev AbP (n:Int):D:= .int .u64 n
structure OT where
  Op:Int
  A:Int
  B:Int
  C:Int
  Imm:Int
 deriving DecidableEq, Inhabited
def Pp (x:OT):D:= .agg [.int .i64 x.Op, .int .i64 x.A, .int .i64 x.B, .int .i64 x.C, .int .u64 x.Imm]
def Ayh (x:OT):Prop:=(Ss .i64) x.Op/\(Ss .i64) x.A/\(Ss .i64) x.B/\(Ss .i64) x.C/\(Ss .u64) x.Imm
def AeU (d:D):OT:=⟨uI (cel d 0), uI (cel d 1), uI (cel d 2), uI (cel d 3), uI (cel d 4)⟩
@[simp] theorem Asn (x:OT):AeU (Pp x)=x:=by simp[AeU, Pp, cel, uI]
structure Pb where
  Size:Int
  Align:Int
 deriving DecidableEq, Inhabited
def Ps (x:Pb):D:= .agg [.int .i64 x.Size, .int .i64 x.Align]
def Ayt (x:Pb):Prop:=(Ss .i64) x.Size/\(Ss .i64) x.Align
def Vs (d:D):Pb:=⟨uI (cel d 0), uI (cel d 1)⟩
@[simp] theorem AdZ (x:Pb):Vs (Ps x)=x:=by simp[Vs, Ps, cel, uI]
structure Le where
  Params:Int
  Slots:(List Pb)
  Code:(List OT)
 deriving DecidableEq, Inhabited
def Pl (x:Le):D:= .agg [.int .i64 x.Params, .sl (x.Slots.map Ps), .sl (x.Code.map Pp)]
def AwB (x:Le):Prop:=(Ss .i64) x.Params/\(qL Ayt) x.Slots/\(qL Ayh) x.Code
def Sz (d:D):Le:=⟨uI (cel d 0), (uL Vs) (cel d 1), (uL AeU) (cel d 2)⟩
@[simp] theorem Ana (x:Le):Sz (Pl x)=x:=by simp[Sz, Pl, cel, uI, Qh (u:=Vs) (en:=Ps) AdZ, Qh (u:=AeU) (en:=Pp) Asn]
structure Pj where
  Out:(List (List Int))
 deriving DecidableEq, Inhabited
def Uu (x:Pj):D:= .agg [.sl (x.Out.map (eL Lo))]
def AwC (x:Pj):Prop:=(qL (qL (Ss .i64))) x.Out
def XY (d:D):Pj:=⟨(uL (uL uI)) (cel d 0)⟩
@[simp] theorem AyG (x:Pj):XY (Uu x)=x:=by simp[XY, Uu, cel, Qh (u:=(uL uI)) (en:=(eL Lo)) (Qh (u:=uI) (en:=Lo) (λ_=>rfl))]
structure Pk where
  To:(List Int)
  Keep:(List Bool)
 deriving DecidableEq, Inhabited
def AdL (x:Pk):D:= .agg [.sl (x.To.map Lo), .sl (x.Keep.map D.bool)]
def AxG (x:Pk):Prop:=(qL (Ss .i64)) x.To/\(qL AyD) x.Keep
def AdY (d:D):Pk:=⟨(uL uI) (cel d 0), (uL uBo) (cel d 1)⟩
@[simp] theorem Ayy (x:Pk):AdY (AdL x)=x:=by simp[AdY, AdL, cel, Qh (u:=uI) (en:=Lo) (λ_=>rfl), Qh (u:=uBo) (en:=D.bool) (λ_=>rfl)]
structure Po where
  Args:Int
  Size:Int
  Off:(List Int)
 deriving DecidableEq, Inhabited
def Rm (x:Po):D:= .agg [.int .i64 x.Args, .int .i64 x.Size, .sl (x.Off.map Lo)]
def AxF (x:Po):Prop:=(Ss .i64) x.Args/\(Ss .i64) x.Size/\(qL (Ss .i64)) x.Off
def AhJ (d:D):Po:=⟨uI (cel d 0), uI (cel d 1), (uL uI) (cel d 2)⟩
@[simp] theorem Ayx (x:Po):AhJ (Rm x)=x:=by simp[AhJ, Rm, cel, uI, Qh (u:=uI) (en:=Lo) (λ_=>rfl)]
structure Ra where
  Live:Pj
  Rename:Pk
  LiveAfter:Pj
  Layout:Po
 deriving DecidableEq, Inhabited
def AdK (x:Ra):D:= .agg [.sl (x.Live.Out.map (eL Lo)), .sl (x.Rename.To.map Lo), .sl (x.Rename.Keep.map D.bool), .sl (x.LiveAfter.Out.map (eL Lo)), .int .i64 x.Layout.Args, .int .i64 x.Layout.Size, .sl (x.Layout.Off.map Lo)]
def Ava (x:Ra):Prop:=AwC x.Live/\AxG x.Rename/\AwC x.LiveAfter/\AxF x.Layout
def Aqf (d:D):Ra:=⟨⟨(uL (uL uI)) (cel d 0)⟩, ⟨(uL uI) (cel d 1), (uL uBo) (cel d 2)⟩, ⟨(uL (uL uI)) (cel d 3)⟩, ⟨uI (cel d 4), uI (cel d 5), (uL uI) (cel d 6)⟩⟩
@[simp] theorem Aym (x:Ra):Aqf (AdK x)=x:=by simp[Aqf, AdK, cel, uI, Qh (u:=(uL uI)) (en:=(eL Lo)) (Qh (u:=uI) (en:=Lo) (λ_=>rfl)), Qh (u:=uI) (en:=Lo) (λ_=>rfl), Qh (u:=uBo) (en:=D.bool) (λ_=>rfl)]
structure Ph where
  Funcs:(List Le)
 deriving DecidableEq, Inhabited
def Uf (x:Ph):D:= .agg [.sl (x.Funcs.map Pl)]
def Awj (x:Ph):Prop:=(qL AwB) x.Funcs
def Zi (d:D):Ph:=⟨(uL Sz) (cel d 0)⟩
@[simp] theorem Ayv (x:Ph):Zi (Uf x)=x:=by simp[Zi, Uf, cel, Qh (u:=Sz) (en:=Pl) Ana]
structure PG where
  p:Ph
  i:Int
  f:Le
  x:Ra
 deriving DecidableEq, Inhabited
def Ti (x:PG):D:= .agg [.sl (x.p.Funcs.map Pl), .int .i64 x.i, .int .i64 x.f.Params, .sl (x.f.Slots.map Ps), .sl (x.f.Code.map Pp), .sl (x.x.Live.Out.map (eL Lo)), .sl (x.x.Rename.To.map Lo), .sl (x.x.Rename.Keep.map D.bool), .sl (x.x.LiveAfter.Out.map (eL Lo)), .int .i64 x.x.Layout.Args, .int .i64 x.x.Layout.Size, .sl (x.x.Layout.Off.map Lo)]
def AxH (x:PG):Prop:=Awj x.p/\(Ss .i64) x.i/\AwB x.f/\Ava x.x
def AfX (d:D):PG:=⟨⟨(uL Sz) (cel d 0)⟩, uI (cel d 1), ⟨uI (cel d 2), (uL Vs) (cel d 3), (uL AeU) (cel d 4)⟩, ⟨⟨(uL (uL uI)) (cel d 5)⟩, ⟨(uL uI) (cel d 6), (uL uBo) (cel d 7)⟩, ⟨(uL (uL uI)) (cel d 8)⟩, ⟨uI (cel d 9), uI (cel d 10), (uL uI) (cel d 11)⟩⟩⟩
@[simp] theorem Awu (x:PG):AfX (Ti x)=x:=by simp[AfX, Ti, cel, uI, Qh (u:=Sz) (en:=Pl) Ana, Qh (u:=Vs) (en:=Ps) AdZ, Qh (u:=AeU) (en:=Pp) Asn, Qh (u:=(uL uI)) (en:=(eL Lo)) (Qh (u:=uI) (en:=Lo) (λ_=>rfl)), Qh (u:=uI) (en:=Lo) (λ_=>rfl), Qh (u:=uBo) (en:=D.bool) (λ_=>rfl)]
structure OW where
  a0:Int
  a1:Int
  a2:Int
  a3:Int
  a4:Int
  a5:Int
  a6:Int
  a7:Int
 deriving DecidableEq, Inhabited
def OW.toList (x:OW):List Int:=[x.a0, x.a1, x.a2, x.a3, x.a4, x.a5, x.a6, x.a7]
def OW.set (x:OW) (j:Nat) (v:Int):OW:=⟨(x.toList.set j v).getD 0 x.a0, (x.toList.set j v).getD 1 x.a1, (x.toList.set j v).getD 2 x.a2, (x.toList.set j v).getD 3 x.a3, (x.toList.set j v).getD 4 x.a4, (x.toList.set j v).getD 5 x.a5, (x.toList.set j v).getD 6 x.a6, (x.toList.set j v).getD 7 x.a7⟩
theorem So (x:OW) (j:Nat) (v:Int):(x.set j v).toList=x.toList.set j v:=by
  match j with
  | 0=>rfl
  | 1=>rfl
  | 2=>rfl
  | 3=>rfl
  | 4=>rfl
  | 5=>rfl
  | 6=>rfl
  | 7=>rfl
  | _+8=>rfl
def Pu (x:OW):D:= .agg [.int .u64 x.a0, .int .u64 x.a1, .int .u64 x.a2, .int .u64 x.a3, .int .u64 x.a4, .int .u64 x.a5, .int .u64 x.a6, .int .u64 x.a7]
def Awk (x:OW):Prop:=(Ss .u64) x.a0/\(Ss .u64) x.a1/\(Ss .u64) x.a2/\(Ss .u64) x.a3/\(Ss .u64) x.a4/\(Ss .u64) x.a5/\(Ss .u64) x.a6/\(Ss .u64) x.a7
def RI (d:D):OW:=⟨uI (cel d 0), uI (cel d 1), uI (cel d 2), uI (cel d 3), uI (cel d 4), uI (cel d 5), uI (cel d 6), uI (cel d 7)⟩
@[simp] theorem Avy (x:OW):RI (Pu x)=x:=by simp[RI, Pu, cel, uI]
structure Pt where
  a0:Int
  a1:Int
 deriving DecidableEq, Inhabited
def PQ (x:Pt):D:= .agg [.int .i64 x.a0, .int .i64 x.a1]
def AyF (x:Pt):Prop:=(Ss .i64) x.a0/\(Ss .i64) x.a1
def Akm (d:D):Pt:=⟨uI (cel d 0), uI (cel d 1)⟩
@[simp] theorem Avx (x:Pt):Akm (PQ x)=x:=by simp[Akm, PQ, cel, uI]
structure OX where
  Off:Int
  Size:Int
 deriving DecidableEq, Inhabited
def PK (x:OX):D:= .agg [.int .i64 x.Off, .int .i64 x.Size]
def Ayw (x:OX):Prop:=(Ss .i64) x.Off/\(Ss .i64) x.Size
def UP (d:D):OX:=⟨uI (cel d 0), uI (cel d 1)⟩
@[simp] theorem Agn (x:OX):UP (PK x)=x:=by simp[UP, PK, cel, uI]
structure OY where
  list:(List Int)
  at_:Int
 deriving DecidableEq, Inhabited
def QE (x:OY):D:= .agg [.sl (x.list.map eU8), .int .i64 x.at_]
def Ayl (x:OY):Prop:=(qL (Ss .u8)) x.list/\(Ss .i64) x.at_
def Vv (d:D):OY:=⟨(uL uI) (cel d 0), uI (cel d 1)⟩
@[simp] theorem AxT (x:OY):Vv (QE x)=x:=by simp[Vv, QE, cel, uI, Qh (u:=uI) (en:=eU8) (λ_=>rfl)]
instance:TyE 5 eU8:=⟨⟩
instance:TyE 36 Pl:=⟨⟩
instance:TyE 60 Ps:=⟨⟩
instance:TyE 63 Pp:=⟨⟩
instance:TyE 41 (eL Lo):=⟨⟩
instance:TyE 3 Lo:=⟨⟩
instance:TyE 4 D.bool:=⟨⟩
instance:TyE 48 AdK:=⟨⟩
instance:TyE 127 PQ:=⟨⟩
instance:TyE 121 PK:=⟨⟩
instance:TyE 42 (eL D.bool):=⟨⟩
end Go.Proofs.YtilmapojncgflaaGreatDoor
