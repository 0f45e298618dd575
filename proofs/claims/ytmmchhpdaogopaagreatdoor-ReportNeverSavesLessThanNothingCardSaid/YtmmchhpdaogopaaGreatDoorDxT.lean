/-
  The types of the data; written by a program (dx.py).
-/
import Derived.Test.YtmmchhpdaogopaaGreatDoorProg
import Derived.Test.YtmmchhpdaogopaaGreatDoorDc
namespace Go.Proofs.YtmmchhpdaogopaaGreatDoor
open Go Go.Dw Go.Proofs
set_option maxRecDepth 100000
set_option maxHeartbeats 40000000
abbrev eI8 (n:Int):D:= .int .i8 n
abbrev Axk (n:Int):D:= .int .i16 n
abbrev Axl (n:Int):D:= .int .i32 n
abbrev Av (n:Int):D:= .int .i64 n
abbrev eU8 (n:Int):D:= .int .u8 n
abbrev Axm (n:Int):D:= .int .u16 n
abbrev Axn (n:Int):D:= .int .u32 n
abbrev Ahf (n:Int):D:= .int .u64 n
structure Og where
  Size:Int
  Align:Int
 deriving DecidableEq, Inhabited
def OW (x:Og):D:= .agg [.int .i64 x.Size, .int .i64 x.Align]
def AwJ (x:Og):Prop:=(PI .i64) x.Size/\(PI .i64) x.Align
def Xw (d:D):Og:=⟨uI (cel d 0), uI (cel d 1)⟩
@[simp] theorem Ajq (x:Og):Xw (OW x)=x:=by simp[Xw, OW, cel, uI]
instance:De1 OW Xw:=⟨Ajq⟩
structure NJ where
  Op:Int
  A:Int
  B:Int
  C:Int
  Imm:Int
 deriving DecidableEq, Inhabited
def Oj (x:NJ):D:= .agg [.int .i64 x.Op, .int .i64 x.A, .int .i64 x.B, .int .i64 x.C, .int .u64 x.Imm]
def Ash (x:NJ):Prop:=(PI .i64) x.Op/\(PI .i64) x.A/\(PI .i64) x.B/\(PI .i64) x.C/\(PI .u64) x.Imm
def Sl (d:D):NJ:=⟨uI (cel d 0), uI (cel d 1), uI (cel d 2), uI (cel d 3), uI (cel d 4)⟩
@[simp] theorem YH (x:NJ):Sl (Oj x)=x:=by simp[Sl, Oj, cel, uI]
instance:De1 Oj Sl:=⟨YH⟩
structure NI where
  Params:Int
  Slots:(List Og)
  Code:(List NJ)
 deriving DecidableEq, Inhabited
def NU (x:NI):D:= .agg [.int .i64 x.Params, .sl (x.Slots.map OW), .sl (x.Code.map Oj)]
def Aul (x:NI):Prop:=(PI .i64) x.Params/\(qL AwJ) x.Slots/\(qL Ash) x.Code
def RP (d:D):NI:=⟨uI (cel d 0), (uL Xw) (cel d 1), (uL Sl) (cel d 2)⟩
@[simp] theorem AgH (x:NI):RP (NU x)=x:=by simp[RP, NU, cel, uI, QL (u:=Xw) (en:=OW) Ajq, QL (u:=Sl) (en:=Oj) YH]
instance:De1 NU RP:=⟨AgH⟩
structure NL where
  Funcs:(List NI)
 deriving DecidableEq, Inhabited
def PQ (x:NL):D:= .agg [.sl (x.Funcs.map NU)]
def AtH (x:NL):Prop:=(qL Aul) x.Funcs
def QM (d:D):NL:=⟨(uL RP) (cel d 0)⟩
@[simp] theorem Are (x:NL):QM (PQ x)=x:=by simp[QM, PQ, cel, QL (u:=RP) (en:=NU) AgH]
instance:De1 PQ QM:=⟨Are⟩
structure OD where
  Params:Int
  Size:Int
  Code:(List NJ)
 deriving DecidableEq, Inhabited
def OV (x:OD):D:= .agg [.int .i64 x.Params, .int .i64 x.Size, .sl (x.Code.map Oj)]
def Asg (x:OD):Prop:=(PI .i64) x.Params/\(PI .i64) x.Size/\(qL Ash) x.Code
def AcS (d:D):OD:=⟨uI (cel d 0), uI (cel d 1), (uL Sl) (cel d 2)⟩
@[simp] theorem AkQ (x:OD):AcS (OV x)=x:=by simp[AcS, OV, cel, uI, QL (u:=Sl) (en:=Oj) YH]
instance:De1 OV AcS:=⟨AkQ⟩
structure Pb where
  Align:Int
  Frames:(List OD)
 deriving DecidableEq, Inhabited
def Aap (x:Pb):D:= .agg [.int .i64 x.Align, .sl (x.Frames.map OV)]
def Avh (x:Pb):Prop:=(PI .i64) x.Align/\(qL Asg) x.Frames
def Aat (d:D):Pb:=⟨uI (cel d 0), (uL AcS) (cel d 1)⟩
@[simp] theorem AsH (x:Pb):Aat (Aap x)=x:=by simp[Aat, Aap, cel, uI, QL (u:=AcS) (en:=OV) AkQ]
instance:De1 Aap Aat:=⟨AsH⟩
structure OQ where
  Target:Pb
  Bound:Int
  Bounds:(List Int)
  Choices:(List Int)
 deriving DecidableEq, Inhabited
def XA (x:OQ):D:= .agg [.int .i64 x.Target.Align, .sl (x.Target.Frames.map OV), .int .i64 x.Bound, .sl (x.Bounds.map Av), .sl (x.Choices.map Av)]
def Axe (x:OQ):Prop:=Avh x.Target/\(PI .i64) x.Bound/\(qL (PI .i64)) x.Bounds/\(qL (PI .i64)) x.Choices
def AlU (d:D):OQ:=⟨⟨uI (cel d 0), (uL AcS) (cel d 1)⟩, uI (cel d 2), (uL uI) (cel d 3), (uL uI) (cel d 4)⟩
@[simp] theorem Aud (x:OQ):AlU (XA x)=x:=by simp[AlU, XA, cel, uI, QL (u:=AcS) (en:=OV) AkQ, QL (u:=uI) (en:=Av) (λ_=>rfl)]
instance:De1 XA AlU:=⟨Aud⟩
structure Lo where
  list:(List Int)
  at_:Int
 deriving DecidableEq, Inhabited
def OX (x:Lo):D:= .agg [.sl (x.list.map eU8), .int .i64 x.at_]
def AwC (x:Lo):Prop:=(qL (PI .u8)) x.list/\(PI .i64) x.at_
def Rr (d:D):Lo:=⟨(uL uI) (cel d 0), uI (cel d 1)⟩
@[simp] theorem AnS (x:Lo):Rr (OX x)=x:=by simp[Rr, OX, cel, uI, QL (u:=uI) (en:=eU8) (λ_=>rfl)]
instance:De1 OX Rr:=⟨AnS⟩
structure Ox where
  Out:(List (List Int))
 deriving DecidableEq, Inhabited
def Un (x:Ox):D:= .agg [.sl (x.Out.map (eL Av))]
def Aum (x:Ox):Prop:=(qL (qL (PI .i64))) x.Out
def Yj (d:D):Ox:=⟨(uL (uL uI)) (cel d 0)⟩
@[simp] theorem AvA (x:Ox):Yj (Un x)=x:=by simp[Yj, Un, cel, QL (u:=(uL uI)) (en:=(eL Av)) (QL (u:=uI) (en:=Av) (λ_=>rfl))]
instance:De1 Un Yj:=⟨AvA⟩
structure Oi where
  To:(List Int)
  Keep:(List Bool)
 deriving DecidableEq, Inhabited
def XM (x:Oi):D:= .agg [.sl (x.To.map Av), .sl (x.Keep.map D.bool)]
def Avg (x:Oi):Prop:=(qL (PI .i64)) x.To/\(qL AtG) x.Keep
def Aas (d:D):Oi:=⟨(uL uI) (cel d 0), (uL uBo) (cel d 1)⟩
@[simp] theorem AsG (x:Oi):Aas (XM x)=x:=by simp[Aas, XM, cel, QL (u:=uI) (en:=Av) (λ_=>rfl), QL (u:=uBo) (en:=D.bool) (λ_=>rfl)]
instance:De1 XM Aas:=⟨AsG⟩
structure NT where
  Args:Int
  Size:Int
  Off:(List Int)
 deriving DecidableEq, Inhabited
def OR (x:NT):D:= .agg [.int .i64 x.Args, .int .i64 x.Size, .sl (x.Off.map Av)]
def Aqc (x:NT):Prop:=(PI .i64) x.Args/\(PI .i64) x.Size/\(qL (PI .i64)) x.Off
def Zh (d:D):NT:=⟨uI (cel d 0), uI (cel d 1), (uL uI) (cel d 2)⟩
@[simp] theorem AsF (x:NT):Zh (OR x)=x:=by simp[Zh, OR, cel, uI, QL (u:=uI) (en:=Av) (λ_=>rfl)]
instance:De1 OR Zh:=⟨AsF⟩
structure Oc where
  Live:Ox
  Rename:Oi
  LiveAfter:Ox
  Layout:NT
 deriving DecidableEq, Inhabited
def OB (x:Oc):D:= .agg [.sl (x.Live.Out.map (eL Av)), .sl (x.Rename.To.map Av), .sl (x.Rename.Keep.map D.bool), .sl (x.LiveAfter.Out.map (eL Av)), .int .i64 x.Layout.Args, .int .i64 x.Layout.Size, .sl (x.Layout.Off.map Av)]
def AwP (x:Oc):Prop:=Aum x.Live/\Avg x.Rename/\Aum x.LiveAfter/\Aqc x.Layout
def AcT (d:D):Oc:=⟨⟨(uL (uL uI)) (cel d 0)⟩, ⟨(uL uI) (cel d 1), (uL uBo) (cel d 2)⟩, ⟨(uL (uL uI)) (cel d 3)⟩, ⟨uI (cel d 4), uI (cel d 5), (uL uI) (cel d 6)⟩⟩
@[simp] theorem ApH (x:Oc):AcT (OB x)=x:=by simp[AcT, OB, cel, uI, QL (u:=(uL uI)) (en:=(eL Av)) (QL (u:=uI) (en:=Av) (λ_=>rfl)), QL (u:=uI) (en:=Av) (λ_=>rfl), QL (u:=uBo) (en:=D.bool) (λ_=>rfl)]
instance:De1 OB AcT:=⟨ApH⟩
structure PW where
  a0:Int
  a1:Int
 deriving DecidableEq, Inhabited
def Tk (x:PW):D:= .agg [.int .i64 x.a0, .int .i64 x.a1]
def AwZ (x:PW):Prop:=(PI .i64) x.a0/\(PI .i64) x.a1
def AmO (d:D):PW:=⟨uI (cel d 0), uI (cel d 1)⟩
@[simp] theorem AsC (x:PW):AmO (Tk x)=x:=by simp[AmO, Tk, cel, uI]
instance:De1 Tk AmO:=⟨AsC⟩
structure On where
  Off:Int
  Size:Int
 deriving DecidableEq, Inhabited
def Qr (x:On):D:= .agg [.int .i64 x.Off, .int .i64 x.Size]
def AwO (x:On):Prop:=(PI .i64) x.Off/\(PI .i64) x.Size
def UU (d:D):On:=⟨uI (cel d 0), uI (cel d 1)⟩
@[simp] theorem ApG (x:On):UU (Qr x)=x:=by simp[UU, Qr, cel, uI]
instance:De1 Qr UU:=⟨ApG⟩
structure RA where
  a:Int
  b:Int
  c:Int
  imm:Bool
 deriving DecidableEq, Inhabited
def XN (x:RA):D:= .agg [.int .i64 x.a, .int .i64 x.b, .int .i64 x.c, .bool x.imm]
def AwB (x:RA):Prop:=(PI .i64) x.a/\(PI .i64) x.b/\(PI .i64) x.c/\AtG x.imm
def AfD (d:D):RA:=⟨uI (cel d 0), uI (cel d 1), uI (cel d 2), uBo (cel d 3)⟩
@[simp] theorem AnR (x:RA):AfD (XN x)=x:=by simp[AfD, XN, cel, uI, uBo]
instance:De1 XN AfD:=⟨AnR⟩
structure QY where
  a0:Int
  a1:Int
  a2:Int
 deriving DecidableEq, Inhabited
def QY.toList (x:QY):List Int:=[x.a0, x.a1, x.a2]
def QY.set (x:QY) (j:Nat) (v:Int):QY:=⟨(x.toList.set j v).getD 0 x.a0, (x.toList.set j v).getD 1 x.a1, (x.toList.set j v).getD 2 x.a2⟩
theorem Awy (x:QY) (j:Nat) (v:Int):(x.set j v).toList=x.toList.set j v:=by
  match j with
  | 0=>rfl
  | 1=>rfl
  | 2=>rfl
  | _+3=>rfl
def Amc (x:QY):D:= .agg [.int .i64 x.a0, .int .i64 x.a1, .int .i64 x.a2]
def Axa (x:QY):Prop:=(PI .i64) x.a0/\(PI .i64) x.a1/\(PI .i64) x.a2
def AmP (d:D):QY:=⟨uI (cel d 0), uI (cel d 1), uI (cel d 2)⟩
@[simp] theorem AsD (x:QY):AmP (Amc x)=x:=by simp[AmP, Amc, cel, uI]
instance:De1 Amc AmP:=⟨AsD⟩
structure OU where
  a0:Int
  a1:Int
  a2:Int
  a3:Int
  a4:Int
  a5:Int
  a6:Int
 deriving DecidableEq, Inhabited
def OU.toList (x:OU):List Int:=[x.a0, x.a1, x.a2, x.a3, x.a4, x.a5, x.a6]
def OU.set (x:OU) (j:Nat) (v:Int):OU:=⟨(x.toList.set j v).getD 0 x.a0, (x.toList.set j v).getD 1 x.a1, (x.toList.set j v).getD 2 x.a2, (x.toList.set j v).getD 3 x.a3, (x.toList.set j v).getD 4 x.a4, (x.toList.set j v).getD 5 x.a5, (x.toList.set j v).getD 6 x.a6⟩
theorem Awz (x:OU) (j:Nat) (v:Int):(x.set j v).toList=x.toList.set j v:=by
  match j with
  | 0=>rfl
  | 1=>rfl
  | 2=>rfl
  | 3=>rfl
  | 4=>rfl
  | 5=>rfl
  | 6=>rfl
  | _+7=>rfl
def AfV (x:OU):D:= .agg [.int .i64 x.a0, .int .i64 x.a1, .int .i64 x.a2, .int .i64 x.a3, .int .i64 x.a4, .int .i64 x.a5, .int .i64 x.a6]
def Axb (x:OU):Prop:=(PI .i64) x.a0/\(PI .i64) x.a1/\(PI .i64) x.a2/\(PI .i64) x.a3/\(PI .i64) x.a4/\(PI .i64) x.a5/\(PI .i64) x.a6
def AmQ (d:D):OU:=⟨uI (cel d 0), uI (cel d 1), uI (cel d 2), uI (cel d 3), uI (cel d 4), uI (cel d 5), uI (cel d 6)⟩
@[simp] theorem AsE (x:OU):AmQ (AfV x)=x:=by simp[AmQ, AfV, cel, uI]
instance:De1 AfV AmQ:=⟨AsE⟩
structure Oh where
  a0:Int
  a1:Int
  a2:Int
  a3:Int
  a4:Int
  a5:Int
  a6:Int
  a7:Int
 deriving DecidableEq, Inhabited
def Oh.toList (x:Oh):List Int:=[x.a0, x.a1, x.a2, x.a3, x.a4, x.a5, x.a6, x.a7]
def Oh.set (x:Oh) (j:Nat) (v:Int):Oh:=⟨(x.toList.set j v).getD 0 x.a0, (x.toList.set j v).getD 1 x.a1, (x.toList.set j v).getD 2 x.a2, (x.toList.set j v).getD 3 x.a3, (x.toList.set j v).getD 4 x.a4, (x.toList.set j v).getD 5 x.a5, (x.toList.set j v).getD 6 x.a6, (x.toList.set j v).getD 7 x.a7⟩
theorem UC (x:Oh) (j:Nat) (v:Int):(x.set j v).toList=x.toList.set j v:=by
  match j with
  | 0=>rfl
  | 1=>rfl
  | 2=>rfl
  | 3=>rfl
  | 4=>rfl
  | 5=>rfl
  | 6=>rfl
  | 7=>rfl
  | _+8=>rfl
def OP (x:Oh):D:= .agg [.int .u64 x.a0, .int .u64 x.a1, .int .u64 x.a2, .int .u64 x.a3, .int .u64 x.a4, .int .u64 x.a5, .int .u64 x.a6, .int .u64 x.a7]
def AtI (x:Oh):Prop:=(PI .u64) x.a0/\(PI .u64) x.a1/\(PI .u64) x.a2/\(PI .u64) x.a3/\(PI .u64) x.a4/\(PI .u64) x.a5/\(PI .u64) x.a6/\(PI .u64) x.a7
def Re (d:D):Oh:=⟨uI (cel d 0), uI (cel d 1), uI (cel d 2), uI (cel d 3), uI (cel d 4), uI (cel d 5), uI (cel d 6), uI (cel d 7)⟩
@[simp] theorem Ajc (x:Oh):Re (OP x)=x:=by simp[Re, OP, cel, uI]
instance:De1 OP Re:=⟨Ajc⟩
structure OE where
  g:(List (List Int))
  w:(List Int)
  known:(List Bool)
  of:(List Int)
 deriving DecidableEq, Inhabited
def Ada (x:OE):D:= .agg [.sl (x.g.map (eL Av)), .sl (x.w.map Av), .sl (x.known.map D.bool), .sl (x.of.map Av)]
def AvG (x:OE):Prop:=(qL (qL (PI .i64))) x.g/\(qL (PI .i64)) x.w/\(qL AtG) x.known/\(qL (PI .i64)) x.of
def Adi (d:D):OE:=⟨(uL (uL uI)) (cel d 0), (uL uI) (cel d 1), (uL uBo) (cel d 2), (uL uI) (cel d 3)⟩
@[simp] theorem AlV (x:OE):Adi (Ada x)=x:=by simp[Adi, Ada, cel, QL (u:=(uL uI)) (en:=(eL Av)) (QL (u:=uI) (en:=Av) (λ_=>rfl)), QL (u:=uI) (en:=Av) (λ_=>rfl), QL (u:=uBo) (en:=D.bool) (λ_=>rfl)]
instance:De1 Ada Adi:=⟨AlV⟩
structure Rt where
  p:NL
  i:Int
  align:Int
  f:NI
  y:NT
 deriving DecidableEq, Inhabited
def SG (x:Rt):D:= .agg [.sl (x.p.Funcs.map NU), .int .i64 x.i, .int .i64 x.align, .int .i64 x.f.Params, .sl (x.f.Slots.map OW), .sl (x.f.Code.map Oj), .int .i64 x.y.Args, .int .i64 x.y.Size, .sl (x.y.Off.map Av)]
def Aun (x:Rt):Prop:=AtH x.p/\(PI .i64) x.i/\(PI .i64) x.align/\Aul x.f/\Aqc x.y
def Wi (d:D):Rt:=⟨⟨(uL RP) (cel d 0)⟩, uI (cel d 1), uI (cel d 2), ⟨uI (cel d 3), (uL Xw) (cel d 4), (uL Sl) (cel d 5)⟩, ⟨uI (cel d 6), uI (cel d 7), (uL uI) (cel d 8)⟩⟩
@[simp] theorem AjR (x:Rt):Wi (SG x)=x:=by simp[Wi, SG, cel, uI, QL (u:=RP) (en:=NU) AgH, QL (u:=Xw) (en:=OW) Ajq, QL (u:=Sl) (en:=Oj) YH, QL (u:=uI) (en:=Av) (λ_=>rfl)]
instance:De1 SG Wi:=⟨AjR⟩
structure Pg where
  Frame:OD
  align:Int
  frames:Int
 deriving DecidableEq, Inhabited
def Qh (x:Pg):D:= .agg [.int .i64 x.Frame.Params, .int .i64 x.Frame.Size, .sl (x.Frame.Code.map Oj), .int .i64 x.align, .int .i64 x.frames]
def AwD (x:Pg):Prop:=Asg x.Frame/\(PI .i64) x.align/\(PI .i64) x.frames
def Wy (d:D):Pg:=⟨⟨uI (cel d 0), uI (cel d 1), (uL Sl) (cel d 2)⟩, uI (cel d 3), uI (cel d 4)⟩
@[simp] theorem AnT (x:Pg):Wy (Qh x)=x:=by simp[Wy, Qh, cel, uI, QL (u:=Sl) (en:=Oj) YH]
instance:De1 Qh Wy:=⟨AnT⟩
instance:TyE 5 eU8:=⟨⟩
instance:TyE 67 OB:=⟨⟩
instance:TyE 57 NU:=⟨⟩
instance:TyE 28 PQ:=⟨⟩
instance:TyE 23 (eL OB):=⟨⟩
instance:TyE 95 OV:=⟨⟩
instance:TyE 3 Av:=⟨⟩
instance:TyE 53 Oj:=⟨⟩
instance:TyE 75 OW:=⟨⟩
instance:TyE 38 (eL Av):=⟨⟩
instance:TyE 4 D.bool:=⟨⟩
instance:TyE 65 OR:=⟨⟩
instance:TyE 129 Tk:=⟨⟩
instance:TyE 209 Qr:=⟨⟩
end Go.Proofs.YtmmchhpdaogopaaGreatDoor
