/-
  The types of the data; written by a program (dx.py).
-/
import Derived.Test.YtcppfbhmhlhncaaDoorProg
import Derived.Test.YtcppfbhmhlhncaaDoorDd
import Derived.KernelRfl
namespace Go.Proofs.YtcppfbhmhlhncaaDoor
open Go Go.Dw Go.Proofs
set_option maxRecDepth 100000
set_option maxHeartbeats 40000000
abbrev eI8 (n:Int):D:= .int .i8 n
abbrev AeZ (n:Int):D:= .int .i16 n
abbrev Afa (n:Int):D:= .int .i32 n
abbrev Rq (n:Int):D:= .int .i64 n
abbrev eU8 (n:Int):D:= .int .u8 n
abbrev Afb (n:Int):D:= .int .u16 n
abbrev Afc (n:Int):D:= .int .u32 n
abbrev AeB (n:Int):D:= .int .u64 n
def QX (v:Mk):D:= .ifc (AeA 3 52 9 v) (Aez v)
structure Ed where
  Op:Int
  A:Int
  B:Int
  C:Int
  Imm:Int
 deriving DecidableEq, Inhabited
def Pr (x:Ed):D:= .agg [.int .i64 x.Op, .int .i64 x.A, .int .i64 x.B, .int .i64 x.C, .int .u64 x.Imm]
def ZE (x:Ed):Prop:=(Sh .i64) x.Op/\(Sh .i64) x.A/\(Sh .i64) x.B/\(Sh .i64) x.C/\(Sh .u64) x.Imm
def Wn (d:D):Ed:=⟨uI (cel d 0), uI (cel d 1), uI (cel d 2), uI (cel d 3), uI (cel d 4)⟩
@[simp] theorem Abr (x:Ed):Wn (Pr x)=x:=by simp[Wn, Pr, cel, uI]
structure Qk where
  Params:Int
  Size:Int
  Code:(List Ed)
 deriving DecidableEq, Inhabited
def Qm (x:Qk):D:= .agg [.int .i64 x.Params, .int .i64 x.Size, .sl (x.Code.map Pr)]
def Abh (x:Qk):Prop:=(Sh .i64) x.Params/\(Sh .i64) x.Size/\(qL ZE) x.Code
def ZQ (d:D):Qk:=⟨uI (cel d 0), uI (cel d 1), (uL Wn) (cel d 2)⟩
@[simp] theorem Adi (x:Qk):ZQ (Qm x)=x:=by simp[ZQ, Qm, cel, uI, VJ (u:=Wn) (en:=Pr) Abr]
structure Pw where
  Align:Int
  Frames:(List Qk)
 deriving DecidableEq, Inhabited
def RF (x:Pw):D:= .agg [.int .i64 x.Align, .sl (x.Frames.map Qm)]
def AbM (x:Pw):Prop:=(Sh .i64) x.Align/\(qL Abh) x.Frames
def XM (d:D):Pw:=⟨uI (cel d 0), (uL ZQ) (cel d 1)⟩
@[simp] theorem Aey (x:Pw):XM (RF x)=x:=by simp[XM, RF, cel, uI, VJ (u:=ZQ) (en:=Qm) Adi]
structure BS where
  list:(List Int)
  at_:Int
 deriving DecidableEq, Inhabited
def Qz (x:BS):D:= .agg [.sl (x.list.map eU8), .int .i64 x.at_]
def Ael (x:BS):Prop:=(qL (Sh .u8)) x.list/\(Sh .i64) x.at_
def SJ (d:D):BS:=⟨(uL uI) (cel d 0), uI (cel d 1)⟩
@[simp] theorem AdS (x:BS):SJ (Qz x)=x:=by simp[SJ, Qz, cel, uI, VJ (u:=uI) (en:=eU8) (λ_=>rfl)]
structure Qu where
  Size:Int
  Align:Int
 deriving DecidableEq, Inhabited
def Ry (x:Qu):D:= .agg [.int .i64 x.Size, .int .i64 x.Align]
def Aer (x:Qu):Prop:=(Sh .i64) x.Size/\(Sh .i64) x.Align
def YU (d:D):Qu:=⟨uI (cel d 0), uI (cel d 1)⟩
@[simp] theorem AbR (x:Qu):YU (Ry x)=x:=by simp[YU, Ry, cel, uI]
structure Qo where
  Params:Int
  Slots:(List Qu)
  Code:(List Ed)
 deriving DecidableEq, Inhabited
def Sn (x:Qo):D:= .agg [.int .i64 x.Params, .sl (x.Slots.map Ry), .sl (x.Code.map Pr)]
def Aeq (x:Qo):Prop:=(Sh .i64) x.Params/\(qL Aer) x.Slots/\(qL ZE) x.Code
def XZ (d:D):Qo:=⟨uI (cel d 0), (uL YU) (cel d 1), (uL Wn) (cel d 2)⟩
@[simp] theorem AdQ (x:Qo):XZ (Sn x)=x:=by simp[XZ, Sn, cel, uI, VJ (u:=YU) (en:=Ry) AbR, VJ (u:=Wn) (en:=Pr) Abr]
structure Qj where
  Funcs:(List Qo)
 deriving DecidableEq, Inhabited
def Ud (x:Qj):D:= .agg [.sl (x.Funcs.map Sn)]
def AeG (x:Qj):Prop:=(qL Aeq) x.Funcs
def UO (d:D):Qj:=⟨(uL XZ) (cel d 0)⟩
@[simp] theorem Aev (x:Qj):UO (Ud x)=x:=by simp[UO, Ud, cel, VJ (u:=XZ) (en:=Sn) AdQ]
structure Qn where
  Args:Int
  Size:Int
  Off:(List Int)
 deriving DecidableEq, Inhabited
def QY (x:Qn):D:= .agg [.int .i64 x.Args, .int .i64 x.Size, .sl (x.Off.map Rq)]
def AeT (x:Qn):Prop:=(Sh .i64) x.Args/\(Sh .i64) x.Size/\(qL (Sh .i64)) x.Off
def VZ (d:D):Qn:=⟨uI (cel d 0), uI (cel d 1), (uL uI) (cel d 2)⟩
@[simp] theorem AcE (x:Qn):VZ (QY x)=x:=by simp[VZ, QY, cel, uI, VJ (u:=uI) (en:=Rq) (λ_=>rfl)]
structure QK where
  Off:Int
  Size:Int
 deriving DecidableEq, Inhabited
def Xk (x:QK):D:= .agg [.int .i64 x.Off, .int .i64 x.Size]
def Aew (x:QK):Prop:=(Sh .i64) x.Off/\(Sh .i64) x.Size
def Xn (d:D):QK:=⟨uI (cel d 0), uI (cel d 1)⟩
@[simp] theorem Aem (x:QK):Xn (Xk x)=x:=by simp[Xn, Xk, cel, uI]
structure SM where
  a0:Int
  a1:Int
  a2:Int
 deriving DecidableEq, Inhabited
def SM.toList (x:SM):List Int:=[x.a0, x.a1, x.a2]
def SM.set (x:SM) (j:Nat) (v:Int):SM:=⟨(x.toList.set j v).getD 0 x.a0, (x.toList.set j v).getD 1 x.a1, (x.toList.set j v).getD 2 x.a2⟩
theorem Aek (x:SM) (j:Nat) (v:Int):(x.set j v).toList=x.toList.set j v:=by
  match j with
  | 0=>rfl
  | 1=>rfl
  | 2=>rfl
  | _+3=>rfl
def AbI (x:SM):D:= .agg [.int .i64 x.a0, .int .i64 x.a1, .int .i64 x.a2]
def AeS (x:SM):Prop:=(Sh .i64) x.a0/\(Sh .i64) x.a1/\(Sh .i64) x.a2
def AbQ (d:D):SM:=⟨uI (cel d 0), uI (cel d 1), uI (cel d 2)⟩
@[simp] theorem Aex (x:SM):AbQ (AbI x)=x:=by simp[AbQ, AbI, cel, uI]
instance:TyE 5 eU8:=⟨⟩
instance:TyE 28 Qm:=⟨⟩
instance:TyE 54 Pr:=⟨⟩
instance:TyE 25 RF:=⟨⟩
instance:TyE 74 Sn:=⟨⟩
instance:TyE 78 QY:=⟨⟩
instance:TyE 3 Rq:=⟨⟩
instance:TyE 101 Ry:=⟨⟩
instance:TyE 9 D.str:=⟨⟩
end Go.Proofs.YtcppfbhmhlhncaaDoor
