/-
  The types of the data; written by a program (dx.py).
-/
import Derived.Test.YtcaoepecbgggcaaGreatDoorProg
import Derived.Test.YtcaoepecbgggcaaGreatDoorDc
import Derived.KernelRfl
namespace Go.Proofs.YtcaoepecbgggcaaGreatDoor
open Go Go.Dw Go.Proofs
set_option maxRecDepth 100000
set_option maxHeartbeats 40000000
abbrev eI8 (n:Int):D:= .int .i8 n
abbrev ACf (n:Int):D:= .int .i16 n
abbrev ACg (n:Int):D:= .int .i32 n
abbrev NA (n:Int):D:= .int .i64 n
abbrev eU8 (n:Int):D:= .int .u8 n
abbrev ACh (n:Int):D:= .int .u16 n
abbrev ACi (n:Int):D:= .int .u32 n
abbrev AbT (n:Int):D:= .int .u64 n
structure NT where
  Out:(List (List Int))
 deriving DecidableEq, Inhabited
def QP (x:NT):D:= .agg [.sl (x.Out.map (eL NA))]
def AwN (x:NT):Prop:=(qL (qL (OZ .i64))) x.Out
def Va (d:D):NT:=⟨(uL (uL uI)) (cel d 0)⟩
@[simp] theorem ABX (x:NT):Va (QP x)=x:=by simp[Va, QP, cel, Oy (u:=(uL uI)) (en:=(eL NA)) (Oy (u:=uI) (en:=NA) (λ_=>rfl))]
structure NO where
  To:(List Int)
  Keep:(List Bool)
 deriving DecidableEq, Inhabited
def Xf (x:NO):D:= .agg [.sl (x.To.map NA), .sl (x.Keep.map D.bool)]
def AvU (x:NO):Prop:=(qL (OZ .i64)) x.To/\(qL AuL) x.Keep
def Adm (d:D):NO:=⟨(uL uI) (cel d 0), (uL uBo) (cel d 1)⟩
@[simp] theorem ABs (x:NO):Adm (Xf x)=x:=by simp[Adm, Xf, cel, Oy (u:=uI) (en:=NA) (λ_=>rfl), Oy (u:=uBo) (en:=D.bool) (λ_=>rfl)]
structure NN where
  Args:Int
  Size:Int
  Off:(List Int)
 deriving DecidableEq, Inhabited
def OB (x:NN):D:= .agg [.int .i64 x.Args, .int .i64 x.Size, .sl (x.Off.map NA)]
def AsC (x:NN):Prop:=(OZ .i64) x.Args/\(OZ .i64) x.Size/\(qL (OZ .i64)) x.Off
def AaY (d:D):NN:=⟨uI (cel d 0), uI (cel d 1), (uL uI) (cel d 2)⟩
@[simp] theorem ABr (x:NN):AaY (OB x)=x:=by simp[AaY, OB, cel, uI, Oy (u:=uI) (en:=NA) (λ_=>rfl)]
structure NR where
  Live:NT
  Rename:NO
  LiveAfter:NT
  Layout:NN
 deriving DecidableEq, Inhabited
def Oe (x:NR):D:= .agg [.sl (x.Live.Out.map (eL NA)), .sl (x.Rename.To.map NA), .sl (x.Rename.Keep.map D.bool), .sl (x.LiveAfter.Out.map (eL NA)), .int .i64 x.Layout.Args, .int .i64 x.Layout.Size, .sl (x.Layout.Off.map NA)]
def AlK (x:NR):Prop:=AwN x.Live/\AvU x.Rename/\AwN x.LiveAfter/\AsC x.Layout
def Yn (d:D):NR:=⟨⟨(uL (uL uI)) (cel d 0)⟩, ⟨(uL uI) (cel d 1), (uL uBo) (cel d 2)⟩, ⟨(uL (uL uI)) (cel d 3)⟩, ⟨uI (cel d 4), uI (cel d 5), (uL uI) (cel d 6)⟩⟩
@[simp] theorem Amt (x:NR):Yn (Oe x)=x:=by simp[Yn, Oe, cel, uI, Oy (u:=(uL uI)) (en:=(eL NA)) (Oy (u:=uI) (en:=NA) (λ_=>rfl)), Oy (u:=uI) (en:=NA) (λ_=>rfl), Oy (u:=uBo) (en:=D.bool) (λ_=>rfl)]
structure Lo where
  Op:Int
  A:Int
  B:Int
  C:Int
  Imm:Int
 deriving DecidableEq, Inhabited
def NX (x:Lo):D:= .agg [.int .i64 x.Op, .int .i64 x.A, .int .i64 x.B, .int .i64 x.C, .int .u64 x.Imm]
def AxK (x:Lo):Prop:=(OZ .i64) x.Op/\(OZ .i64) x.A/\(OZ .i64) x.B/\(OZ .i64) x.C/\(OZ .u64) x.Imm
def QO (d:D):Lo:=⟨uI (cel d 0), uI (cel d 1), uI (cel d 2), uI (cel d 3), uI (cel d 4)⟩
@[simp] theorem AaA (x:Lo):QO (NX x)=x:=by simp[QO, NX, cel, uI]
structure NQ where
  Size:Int
  Align:Int
 deriving DecidableEq, Inhabited
def Ox (x:NQ):D:= .agg [.int .i64 x.Size, .int .i64 x.Align]
def ABi (x:NQ):Prop:=(OZ .i64) x.Size/\(OZ .i64) x.Align
def Yo (d:D):NQ:=⟨uI (cel d 0), uI (cel d 1)⟩
@[simp] theorem Akj (x:NQ):Yo (Ox x)=x:=by simp[Yo, Ox, cel, uI]
structure Mk where
  Params:Int
  Slots:(List NQ)
  Code:(List Lo)
 deriving DecidableEq, Inhabited
def NM (x:Mk):D:= .agg [.int .i64 x.Params, .sl (x.Slots.map Ox), .sl (x.Code.map NX)]
def Azn (x:Mk):Prop:=(OZ .i64) x.Params/\(qL ABi) x.Slots/\(qL AxK) x.Code
def Qz (d:D):Mk:=⟨uI (cel d 0), (uL Yo) (cel d 1), (uL QO) (cel d 2)⟩
@[simp] theorem Aqi (x:Mk):Qz (NM x)=x:=by simp[Qz, NM, cel, uI, Oy (u:=Yo) (en:=Ox) Akj, Oy (u:=QO) (en:=NX) AaA]
structure OI where
  Params:Int
  Size:Int
  Code:(List Lo)
 deriving DecidableEq, Inhabited
def OK (x:OI):D:= .agg [.int .i64 x.Params, .int .i64 x.Size, .sl (x.Code.map NX)]
def AxJ (x:OI):Prop:=(OZ .i64) x.Params/\(OZ .i64) x.Size/\(qL AxK) x.Code
def Alg (d:D):OI:=⟨uI (cel d 0), uI (cel d 1), (uL QO) (cel d 2)⟩
@[simp] theorem Avh (x:OI):Alg (OK x)=x:=by simp[Alg, OK, cel, uI, Oy (u:=QO) (en:=NX) AaA]
structure OP where
  Align:Int
  Frames:(List OI)
 deriving DecidableEq, Inhabited
def Ahy (x:OP):D:= .agg [.int .i64 x.Align, .sl (x.Frames.map OK)]
def AzV (x:OP):Prop:=(OZ .i64) x.Align/\(qL AxJ) x.Frames
def Aiw (d:D):OP:=⟨uI (cel d 0), (uL Alg) (cel d 1)⟩
@[simp] theorem ABt (x:OP):Aiw (Ahy x)=x:=by simp[Aiw, Ahy, cel, uI, Oy (u:=Alg) (en:=OK) Avh]
structure RA where
  Target:OP
  Bound:Int
  Bounds:(List Int)
  Choices:(List Int)
 deriving DecidableEq, Inhabited
def Apm (x:RA):D:= .agg [.int .i64 x.Target.Align, .sl (x.Target.Frames.map OK), .int .i64 x.Bound, .sl (x.Bounds.map NA), .sl (x.Choices.map NA)]
def ACa (x:RA):Prop:=AzV x.Target/\(OZ .i64) x.Bound/\(qL (OZ .i64)) x.Bounds/\(qL (OZ .i64)) x.Choices
def Ayc (d:D):RA:=⟨⟨uI (cel d 0), (uL Alg) (cel d 1)⟩, uI (cel d 2), (uL uI) (cel d 3), (uL uI) (cel d 4)⟩
@[simp] theorem ABT (x:RA):Ayc (Apm x)=x:=by simp[Ayc, Apm, cel, uI, Oy (u:=Alg) (en:=OK) Avh, Oy (u:=uI) (en:=NA) (λ_=>rfl)]
structure NG where
  Funcs:(List Mk)
 deriving DecidableEq, Inhabited
def Ps (x:NG):D:= .agg [.sl (x.Funcs.map NM)]
def AyR (x:NG):Prop:=(qL Azn) x.Funcs
def Rn (d:D):NG:=⟨(uL Qz) (cel d 0)⟩
@[simp] theorem ABj (x:NG):Rn (Ps x)=x:=by simp[Rn, Ps, cel, Oy (u:=Qz) (en:=NM) Aqi]
structure SY where
  a:Int
  b:Int
  c:Int
  imm:Bool
 deriving DecidableEq, Inhabited
def Aeb (x:SY):D:= .agg [.int .i64 x.a, .int .i64 x.b, .int .i64 x.c, .bool x.imm]
def ABd (x:SY):Prop:=(OZ .i64) x.a/\(OZ .i64) x.b/\(OZ .i64) x.c/\AuL x.imm
def AqX (d:D):SY:=⟨uI (cel d 0), uI (cel d 1), uI (cel d 2), uBo (cel d 3)⟩
@[simp] theorem AAp (x:SY):AqX (Aeb x)=x:=by simp[AqX, Aeb, cel, uI, uBo]
structure Rs where
  a0:Int
  a1:Int
  a2:Int
 deriving DecidableEq, Inhabited
def Rs.toList (x:Rs):List Int:=[x.a0, x.a1, x.a2]
def Rs.set (x:Rs) (j:Nat) (v:Int):Rs:=⟨(x.toList.set j v).getD 0 x.a0, (x.toList.set j v).getD 1 x.a1, (x.toList.set j v).getD 2 x.a2⟩
theorem ABb (x:Rs) (j:Nat) (v:Int):(x.set j v).toList=x.toList.set j v:=by
  match j with
  | 0=>rfl
  | 1=>rfl
  | 2=>rfl
  | _+3=>rfl
def AvK (x:Rs):D:= .agg [.int .i64 x.a0, .int .i64 x.a1, .int .i64 x.a2]
def ABV (x:Rs):Prop:=(OZ .i64) x.a0/\(OZ .i64) x.a1/\(OZ .i64) x.a2
def AvW (d:D):Rs:=⟨uI (cel d 0), uI (cel d 1), uI (cel d 2)⟩
@[simp] theorem ABp (x:Rs):AvW (AvK x)=x:=by simp[AvW, AvK, cel, uI]
structure Tu where
  a0:Int
  a1:Int
  a2:Int
  a3:Int
  a4:Int
  a5:Int
  a6:Int
 deriving DecidableEq, Inhabited
def Tu.toList (x:Tu):List Int:=[x.a0, x.a1, x.a2, x.a3, x.a4, x.a5, x.a6]
def Tu.set (x:Tu) (j:Nat) (v:Int):Tu:=⟨(x.toList.set j v).getD 0 x.a0, (x.toList.set j v).getD 1 x.a1, (x.toList.set j v).getD 2 x.a2, (x.toList.set j v).getD 3 x.a3, (x.toList.set j v).getD 4 x.a4, (x.toList.set j v).getD 5 x.a5, (x.toList.set j v).getD 6 x.a6⟩
theorem ABc (x:Tu) (j:Nat) (v:Int):(x.set j v).toList=x.toList.set j v:=by
  match j with
  | 0=>rfl
  | 1=>rfl
  | 2=>rfl
  | 3=>rfl
  | 4=>rfl
  | 5=>rfl
  | 6=>rfl
  | _+7=>rfl
def Aqa (x:Tu):D:= .agg [.int .i64 x.a0, .int .i64 x.a1, .int .i64 x.a2, .int .i64 x.a3, .int .i64 x.a4, .int .i64 x.a5, .int .i64 x.a6]
def ABW (x:Tu):Prop:=(OZ .i64) x.a0/\(OZ .i64) x.a1/\(OZ .i64) x.a2/\(OZ .i64) x.a3/\(OZ .i64) x.a4/\(OZ .i64) x.a5/\(OZ .i64) x.a6
def AvX (d:D):Tu:=⟨uI (cel d 0), uI (cel d 1), uI (cel d 2), uI (cel d 3), uI (cel d 4), uI (cel d 5), uI (cel d 6)⟩
@[simp] theorem ABq (x:Tu):AvX (Aqa x)=x:=by simp[AvX, Aqa, cel, uI]
structure NB where
  a0:Int
  a1:Int
  a2:Int
  a3:Int
  a4:Int
  a5:Int
  a6:Int
  a7:Int
 deriving DecidableEq, Inhabited
def NB.toList (x:NB):List Int:=[x.a0, x.a1, x.a2, x.a3, x.a4, x.a5, x.a6, x.a7]
def NB.set (x:NB) (j:Nat) (v:Int):NB:=⟨(x.toList.set j v).getD 0 x.a0, (x.toList.set j v).getD 1 x.a1, (x.toList.set j v).getD 2 x.a2, (x.toList.set j v).getD 3 x.a3, (x.toList.set j v).getD 4 x.a4, (x.toList.set j v).getD 5 x.a5, (x.toList.set j v).getD 6 x.a6, (x.toList.set j v).getD 7 x.a7⟩
theorem RN (x:NB) (j:Nat) (v:Int):(x.set j v).toList=x.toList.set j v:=by
  match j with
  | 0=>rfl
  | 1=>rfl
  | 2=>rfl
  | 3=>rfl
  | 4=>rfl
  | 5=>rfl
  | 6=>rfl
  | 7=>rfl
  | _+8=>rfl
def Ob (x:NB):D:= .agg [.int .u64 x.a0, .int .u64 x.a1, .int .u64 x.a2, .int .u64 x.a3, .int .u64 x.a4, .int .u64 x.a5, .int .u64 x.a6, .int .u64 x.a7]
def AyS (x:NB):Prop:=(OZ .u64) x.a0/\(OZ .u64) x.a1/\(OZ .u64) x.a2/\(OZ .u64) x.a3/\(OZ .u64) x.a4/\(OZ .u64) x.a5/\(OZ .u64) x.a6/\(OZ .u64) x.a7
def PE (d:D):NB:=⟨uI (cel d 0), uI (cel d 1), uI (cel d 2), uI (cel d 3), uI (cel d 4), uI (cel d 5), uI (cel d 6), uI (cel d 7)⟩
@[simp] theorem Ayd (x:NB):PE (Ob x)=x:=by simp[PE, Ob, cel, uI]
structure Om where
  g:(List (List Int))
  w:(List Int)
  known:(List Bool)
  of:(List Int)
 deriving DecidableEq, Inhabited
def Aob (x:Om):D:= .agg [.sl (x.g.map (eL NA)), .sl (x.w.map NA), .sl (x.known.map D.bool), .sl (x.of.map NA)]
def AAo (x:Om):Prop:=(qL (qL (OZ .i64))) x.g/\(qL (OZ .i64)) x.w/\(qL AuL) x.known/\(qL (OZ .i64)) x.of
def AoB (d:D):Om:=⟨(uL (uL uI)) (cel d 0), (uL uI) (cel d 1), (uL uBo) (cel d 2), (uL uI) (cel d 3)⟩
@[simp] theorem Azr (x:Om):AoB (Aob x)=x:=by simp[AoB, Aob, cel, Oy (u:=(uL uI)) (en:=(eL NA)) (Oy (u:=uI) (en:=NA) (λ_=>rfl)), Oy (u:=uI) (en:=NA) (λ_=>rfl), Oy (u:=uBo) (en:=D.bool) (λ_=>rfl)]
structure Ot where
  p:NG
  i:Int
  align:Int
  f:Mk
  y:NN
 deriving DecidableEq, Inhabited
def Qp (x:Ot):D:= .agg [.sl (x.p.Funcs.map NM), .int .i64 x.i, .int .i64 x.align, .int .i64 x.f.Params, .sl (x.f.Slots.map Ox), .sl (x.f.Code.map NX), .int .i64 x.y.Args, .int .i64 x.y.Size, .sl (x.y.Off.map NA)]
def Azo (x:Ot):Prop:=AyR x.p/\(OZ .i64) x.i/\(OZ .i64) x.align/\Azn x.f/\AsC x.y
def Vb (d:D):Ot:=⟨⟨(uL Qz) (cel d 0)⟩, uI (cel d 1), uI (cel d 2), ⟨uI (cel d 3), (uL Yo) (cel d 4), (uL QO) (cel d 5)⟩, ⟨uI (cel d 6), uI (cel d 7), (uL uI) (cel d 8)⟩⟩
@[simp] theorem Ayh (x:Ot):Vb (Qp x)=x:=by simp[Vb, Qp, cel, uI, Oy (u:=Qz) (en:=NM) Aqi, Oy (u:=Yo) (en:=Ox) Akj, Oy (u:=QO) (en:=NX) AaA, Oy (u:=uI) (en:=NA) (λ_=>rfl)]
structure NV where
  Off:Int
  Size:Int
 deriving DecidableEq, Inhabited
def PF (x:NV):D:= .agg [.int .i64 x.Off, .int .i64 x.Size]
def ABn (x:NV):Prop:=(OZ .i64) x.Off/\(OZ .i64) x.Size
def UH (d:D):NV:=⟨uI (cel d 0), uI (cel d 1)⟩
@[simp] theorem AqW (x:NV):UH (PF x)=x:=by simp[UH, PF, cel, uI]
structure Oz where
  Frame:OI
  align:Int
  frames:Int
 deriving DecidableEq, Inhabited
def Qd (x:Oz):D:= .agg [.int .i64 x.Frame.Params, .int .i64 x.Frame.Size, .sl (x.Frame.Code.map NX), .int .i64 x.align, .int .i64 x.frames]
def ABf (x:Oz):Prop:=AxJ x.Frame/\(OZ .i64) x.align/\(OZ .i64) x.frames
def AaZ (d:D):Oz:=⟨⟨uI (cel d 0), uI (cel d 1), (uL QO) (cel d 2)⟩, uI (cel d 3), uI (cel d 4)⟩
@[simp] theorem AAr (x:Oz):AaZ (Qd x)=x:=by simp[AaZ, Qd, cel, uI, Oy (u:=QO) (en:=NX) AaA]
structure BR where
  list:(List Int)
  at_:Int
 deriving DecidableEq, Inhabited
def Ow (x:BR):D:= .agg [.sl (x.list.map eU8), .int .i64 x.at_]
def ABe (x:BR):Prop:=(qL (OZ .u8)) x.list/\(OZ .i64) x.at_
def RM (d:D):BR:=⟨(uL uI) (cel d 0), uI (cel d 1)⟩
@[simp] theorem AAq (x:BR):RM (Ow x)=x:=by simp[RM, Ow, cel, uI, Oy (u:=uI) (en:=eU8) (λ_=>rfl)]
structure Ph where
  a0:Int
  a1:Int
 deriving DecidableEq, Inhabited
def UQ (x:Ph):D:= .agg [.int .i64 x.a0, .int .i64 x.a1]
def ABU (x:Ph):Prop:=(OZ .i64) x.a0/\(OZ .i64) x.a1
def AvV (d:D):Ph:=⟨uI (cel d 0), uI (cel d 1)⟩
@[simp] theorem ABo (x:Ph):AvV (UQ x)=x:=by simp[AvV, UQ, cel, uI]
instance:TyE 5 eU8:=⟨⟩
instance:TyE 50 Oe:=⟨⟩
instance:TyE 36 NM:=⟨⟩
instance:TyE 23 (eL Oe):=⟨⟩
instance:TyE 87 Ox:=⟨⟩
instance:TyE 90 NX:=⟨⟩
instance:TyE 3 NA:=⟨⟩
instance:TyE 37 (eL NA):=⟨⟩
instance:TyE 4 D.bool:=⟨⟩
instance:TyE 28 Ps:=⟨⟩
instance:TyE 75 OK:=⟨⟩
instance:TyE 39 OB:=⟨⟩
instance:TyE 190 UQ:=⟨⟩
instance:TyE 186 PF:=⟨⟩
end Go.Proofs.YtcaoepecbgggcaaGreatDoor
