/-
  The types of the data; written by a program (dx.py).
-/
import Derived.Test.YtcaoepecbgggcaaGreatDoorProg
import Derived.Test.YtcaoepecbgggcaaGreatDoorDc
namespace Go.Proofs.YtcaoepecbgggcaaGreatDoor
open Go Go.Dw Go.Proofs
set_option maxRecDepth 100000
set_option maxHeartbeats 40000000
abbrev eI8 (n:Int):D:= .int .i8 n
abbrev AzG (n:Int):D:= .int .i16 n
abbrev AzH (n:Int):D:= .int .i32 n
abbrev Lo (n:Int):D:= .int .i64 n
abbrev eU8 (n:Int):D:= .int .u8 n
abbrev AzI (n:Int):D:= .int .u16 n
abbrev AzJ (n:Int):D:= .int .u32 n
abbrev XQ (n:Int):D:= .int .u64 n
structure Av where
  Op:Int
  A:Int
  B:Int
  C:Int
  Imm:Int
 deriving DecidableEq, Inhabited
def NG (x:Av):D:= .agg [.int .i64 x.Op, .int .i64 x.A, .int .i64 x.B, .int .i64 x.C, .int .u64 x.Imm]
def Auu (x:Av):Prop:=(Pf .i64) x.Op/\(Pf .i64) x.A/\(Pf .i64) x.B/\(Pf .i64) x.C/\(Pf .u64) x.Imm
def RR (d:D):Av:=⟨uI (cel d 0), uI (cel d 1), uI (cel d 2), uI (cel d 3), uI (cel d 4)⟩
@[simp] theorem Zt (x:Av):RR (NG x)=x:=by simp[RR, NG, cel, uI]
instance:De1 NG RR:=⟨Zt⟩
structure NA where
  Size:Int
  Align:Int
 deriving DecidableEq, Inhabited
def Oo (x:NA):D:= .agg [.int .i64 x.Size, .int .i64 x.Align]
def Azg (x:NA):Prop:=(Pf .i64) x.Size/\(Pf .i64) x.Align
def Yb (d:D):NA:=⟨uI (cel d 0), uI (cel d 1)⟩
@[simp] theorem AkS (x:NA):Yb (Oo x)=x:=by simp[Yb, Oo, cel, uI]
instance:De1 Oo Yb:=⟨AkS⟩
structure Nm where
  Params:Int
  Slots:(List NA)
  Code:(List Av)
 deriving DecidableEq, Inhabited
def Nz (x:Nm):D:= .agg [.int .i64 x.Params, .sl (x.Slots.map Oo), .sl (x.Code.map NG)]
def AwP (x:Nm):Prop:=(Pf .i64) x.Params/\(qL Azg) x.Slots/\(qL Auu) x.Code
def Re (d:D):Nm:=⟨uI (cel d 0), (uL Yb) (cel d 1), (uL RR) (cel d 2)⟩
@[simp] theorem AhZ (x:Nm):Re (Nz x)=x:=by simp[Re, Nz, cel, uI, Qe (u:=Yb) (en:=Oo) AkS, Qe (u:=RR) (en:=NG) Zt]
instance:De1 Nz Re:=⟨AhZ⟩
structure OA where
  Params:Int
  Size:Int
  Code:(List Av)
 deriving DecidableEq, Inhabited
def OI (x:OA):D:= .agg [.int .i64 x.Params, .int .i64 x.Size, .sl (x.Code.map NG)]
def Aut (x:OA):Prop:=(Pf .i64) x.Params/\(Pf .i64) x.Size/\(qL Auu) x.Code
def AdJ (d:D):OA:=⟨uI (cel d 0), uI (cel d 1), (uL RR) (cel d 2)⟩
@[simp] theorem AmJ (x:OA):AdJ (OI x)=x:=by simp[AdJ, OI, cel, uI, Qe (u:=RR) (en:=NG) Zt]
instance:De1 OI AdJ:=⟨AmJ⟩
structure PI where
  Align:Int
  Frames:(List OA)
 deriving DecidableEq, Inhabited
def Abd (x:PI):D:= .agg [.int .i64 x.Align, .sl (x.Frames.map OI)]
def AxC (x:PI):Prop:=(Pf .i64) x.Align/\(qL Aut) x.Frames
def Abh (d:D):PI:=⟨uI (cel d 0), (uL AdJ) (cel d 1)⟩
@[simp] theorem AuT (x:PI):Abh (Abd x)=x:=by simp[Abh, Abd, cel, uI, Qe (u:=AdJ) (en:=OI) AmJ]
instance:De1 Abd Abh:=⟨AuT⟩
structure PX where
  Target:PI
  Bound:Int
  Bounds:(List Int)
  Choices:(List Int)
 deriving DecidableEq, Inhabited
def Ahp (x:PX):D:= .agg [.int .i64 x.Target.Align, .sl (x.Target.Frames.map OI), .int .i64 x.Bound, .sl (x.Bounds.map Lo), .sl (x.Choices.map Lo)]
def AzB (x:PX):Prop:=AxC x.Target/\(Pf .i64) x.Bound/\(qL (Pf .i64)) x.Bounds/\(qL (Pf .i64)) x.Choices
def Arc (d:D):PX:=⟨⟨uI (cel d 0), (uL AdJ) (cel d 1)⟩, uI (cel d 2), (uL uI) (cel d 3), (uL uI) (cel d 4)⟩
@[simp] theorem AwE (x:PX):Arc (Ahp x)=x:=by simp[Arc, Ahp, cel, uI, Qe (u:=AdJ) (en:=OI) AmJ, Qe (u:=uI) (en:=Lo) (λ_=>rfl)]
instance:De1 Ahp Arc:=⟨AwE⟩
structure Nq where
  Funcs:(List Nm)
 deriving DecidableEq, Inhabited
def Pz (x:Nq):D:= .agg [.sl (x.Funcs.map Nz)]
def Awg (x:Nq):Prop:=(qL AwP) x.Funcs
def Rp (d:D):Nq:=⟨(uL Re) (cel d 0)⟩
@[simp] theorem Atj (x:Nq):Rp (Pz x)=x:=by simp[Rp, Pz, cel, Qe (u:=Re) (en:=Nz) AhZ]
instance:De1 Pz Rp:=⟨Atj⟩
structure NS where
  Out:(List (List Int))
 deriving DecidableEq, Inhabited
def Rv (x:NS):D:= .agg [.sl (x.Out.map (eL Lo))]
def AwQ (x:NS):Prop:=(qL (qL (Pf .i64))) x.Out
def Vh (d:D):NS:=⟨(uL (uL uI)) (cel d 0)⟩
@[simp] theorem AxS (x:NS):Vh (Rv x)=x:=by simp[Vh, Rv, cel, Qe (u:=(uL uI)) (en:=(eL Lo)) (Qe (u:=uI) (en:=Lo) (λ_=>rfl))]
instance:De1 Rv Vh:=⟨AxS⟩
structure NF where
  To:(List Int)
  Keep:(List Bool)
 deriving DecidableEq, Inhabited
def Xo (x:NF):D:= .agg [.sl (x.To.map Lo), .sl (x.Keep.map D.bool)]
def AxB (x:NF):Prop:=(qL (Pf .i64)) x.To/\(qL Awf) x.Keep
def ZR (d:D):NF:=⟨(uL uI) (cel d 0), (uL uBo) (cel d 1)⟩
@[simp] theorem AuS (x:NF):ZR (Xo x)=x:=by simp[ZR, Xo, cel, Qe (u:=uI) (en:=Lo) (λ_=>rfl), Qe (u:=uBo) (en:=D.bool) (λ_=>rfl)]
instance:De1 Xo ZR:=⟨AuS⟩
structure ND where
  Args:Int
  Size:Int
  Off:(List Int)
 deriving DecidableEq, Inhabited
def Py (x:ND):D:= .agg [.int .i64 x.Args, .int .i64 x.Size, .sl (x.Off.map Lo)]
def Asb (x:ND):Prop:=(Pf .i64) x.Args/\(Pf .i64) x.Size/\(qL (Pf .i64)) x.Off
def AcQ (d:D):ND:=⟨uI (cel d 0), uI (cel d 1), (uL uI) (cel d 2)⟩
@[simp] theorem AuR (x:ND):AcQ (Py x)=x:=by simp[AcQ, Py, cel, uI, Qe (u:=uI) (en:=Lo) (λ_=>rfl)]
instance:De1 Py AcQ:=⟨AuR⟩
structure NQ where
  Live:NS
  Rename:NF
  LiveAfter:NS
  Layout:ND
 deriving DecidableEq, Inhabited
def Oh (x:NQ):D:= .agg [.sl (x.Live.Out.map (eL Lo)), .sl (x.Rename.To.map Lo), .sl (x.Rename.Keep.map D.bool), .sl (x.LiveAfter.Out.map (eL Lo)), .int .i64 x.Layout.Args, .int .i64 x.Layout.Size, .sl (x.Layout.Off.map Lo)]
def Azm (x:NQ):Prop:=AwQ x.Live/\AxB x.Rename/\AwQ x.LiveAfter/\Asb x.Layout
def AdK (d:D):NQ:=⟨⟨(uL (uL uI)) (cel d 0)⟩, ⟨(uL uI) (cel d 1), (uL uBo) (cel d 2)⟩, ⟨(uL (uL uI)) (cel d 3)⟩, ⟨uI (cel d 4), uI (cel d 5), (uL uI) (cel d 6)⟩⟩
@[simp] theorem ArE (x:NQ):AdK (Oh x)=x:=by simp[AdK, Oh, cel, uI, Qe (u:=(uL uI)) (en:=(eL Lo)) (Qe (u:=uI) (en:=Lo) (λ_=>rfl)), Qe (u:=uI) (en:=Lo) (λ_=>rfl), Qe (u:=uBo) (en:=D.bool) (λ_=>rfl)]
instance:De1 Oh AdK:=⟨ArE⟩
structure RF where
  a:Int
  b:Int
  c:Int
  imm:Bool
 deriving DecidableEq, Inhabited
def Yu (x:RF):D:= .agg [.int .i64 x.a, .int .i64 x.b, .int .i64 x.c, .bool x.imm]
def AyZ (x:RF):Prop:=(Pf .i64) x.a/\(Pf .i64) x.b/\(Pf .i64) x.c/\Awf x.imm
def AgV (d:D):RF:=⟨uI (cel d 0), uI (cel d 1), uI (cel d 2), uBo (cel d 3)⟩
@[simp] theorem Apz (x:RF):AgV (Yu x)=x:=by simp[AgV, Yu, cel, uI, uBo]
instance:De1 Yu AgV:=⟨Apz⟩
structure Qd where
  a0:Int
  a1:Int
  a2:Int
 deriving DecidableEq, Inhabited
def Qd.toList (x:Qd):List Int:=[x.a0, x.a1, x.a2]
def Qd.set (x:Qd) (j:Nat) (v:Int):Qd:=⟨(x.toList.set j v).getD 0 x.a0, (x.toList.set j v).getD 1 x.a1, (x.toList.set j v).getD 2 x.a2⟩
theorem AyW (x:Qd) (j:Nat) (v:Int):(x.set j v).toList=x.toList.set j v:=by
  match j with
  | 0=>rfl
  | 1=>rfl
  | 2=>rfl
  | _+3=>rfl
def AnL (x:Qd):D:= .agg [.int .i64 x.a0, .int .i64 x.a1, .int .i64 x.a2]
def Azx (x:Qd):Prop:=(Pf .i64) x.a0/\(Pf .i64) x.a1/\(Pf .i64) x.a2
def Aou (d:D):Qd:=⟨uI (cel d 0), uI (cel d 1), uI (cel d 2)⟩
@[simp] theorem AuP (x:Qd):Aou (AnL x)=x:=by simp[Aou, AnL, cel, uI]
instance:De1 AnL Aou:=⟨AuP⟩
structure Oq where
  a0:Int
  a1:Int
  a2:Int
  a3:Int
  a4:Int
  a5:Int
  a6:Int
 deriving DecidableEq, Inhabited
def Oq.toList (x:Oq):List Int:=[x.a0, x.a1, x.a2, x.a3, x.a4, x.a5, x.a6]
def Oq.set (x:Oq) (j:Nat) (v:Int):Oq:=⟨(x.toList.set j v).getD 0 x.a0, (x.toList.set j v).getD 1 x.a1, (x.toList.set j v).getD 2 x.a2, (x.toList.set j v).getD 3 x.a3, (x.toList.set j v).getD 4 x.a4, (x.toList.set j v).getD 5 x.a5, (x.toList.set j v).getD 6 x.a6⟩
theorem AyX (x:Oq) (j:Nat) (v:Int):(x.set j v).toList=x.toList.set j v:=by
  match j with
  | 0=>rfl
  | 1=>rfl
  | 2=>rfl
  | 3=>rfl
  | 4=>rfl
  | 5=>rfl
  | 6=>rfl
  | _+7=>rfl
def Aho (x:Oq):D:= .agg [.int .i64 x.a0, .int .i64 x.a1, .int .i64 x.a2, .int .i64 x.a3, .int .i64 x.a4, .int .i64 x.a5, .int .i64 x.a6]
def Azy (x:Oq):Prop:=(Pf .i64) x.a0/\(Pf .i64) x.a1/\(Pf .i64) x.a2/\(Pf .i64) x.a3/\(Pf .i64) x.a4/\(Pf .i64) x.a5/\(Pf .i64) x.a6
def Aov (d:D):Oq:=⟨uI (cel d 0), uI (cel d 1), uI (cel d 2), uI (cel d 3), uI (cel d 4), uI (cel d 5), uI (cel d 6)⟩
@[simp] theorem AuQ (x:Oq):Aov (Aho x)=x:=by simp[Aov, Aho, cel, uI]
instance:De1 Aho Aov:=⟨AuQ⟩
structure Nu where
  a0:Int
  a1:Int
  a2:Int
  a3:Int
  a4:Int
  a5:Int
  a6:Int
  a7:Int
 deriving DecidableEq, Inhabited
def Nu.toList (x:Nu):List Int:=[x.a0, x.a1, x.a2, x.a3, x.a4, x.a5, x.a6, x.a7]
def Nu.set (x:Nu) (j:Nat) (v:Int):Nu:=⟨(x.toList.set j v).getD 0 x.a0, (x.toList.set j v).getD 1 x.a1, (x.toList.set j v).getD 2 x.a2, (x.toList.set j v).getD 3 x.a3, (x.toList.set j v).getD 4 x.a4, (x.toList.set j v).getD 5 x.a5, (x.toList.set j v).getD 6 x.a6, (x.toList.set j v).getD 7 x.a7⟩
theorem RK (x:Nu) (j:Nat) (v:Int):(x.set j v).toList=x.toList.set j v:=by
  match j with
  | 0=>rfl
  | 1=>rfl
  | 2=>rfl
  | 3=>rfl
  | 4=>rfl
  | 5=>rfl
  | 6=>rfl
  | 7=>rfl
  | _+8=>rfl
def NL (x:Nu):D:= .agg [.int .u64 x.a0, .int .u64 x.a1, .int .u64 x.a2, .int .u64 x.a3, .int .u64 x.a4, .int .u64 x.a5, .int .u64 x.a6, .int .u64 x.a7]
def Awh (x:Nu):Prop:=(Pf .u64) x.a0/\(Pf .u64) x.a1/\(Pf .u64) x.a2/\(Pf .u64) x.a3/\(Pf .u64) x.a4/\(Pf .u64) x.a5/\(Pf .u64) x.a6/\(Pf .u64) x.a7
def PE (d:D):Nu:=⟨uI (cel d 0), uI (cel d 1), uI (cel d 2), uI (cel d 3), uI (cel d 4), uI (cel d 5), uI (cel d 6), uI (cel d 7)⟩
@[simp] theorem AkF (x:Nu):PE (NL x)=x:=by simp[PE, NL, cel, uI]
instance:De1 NL PE:=⟨AkF⟩
structure NY where
  g:(List (List Int))
  w:(List Int)
  known:(List Bool)
  of:(List Int)
 deriving DecidableEq, Inhabited
def AdQ (x:NY):D:= .agg [.sl (x.g.map (eL Lo)), .sl (x.w.map Lo), .sl (x.known.map D.bool), .sl (x.of.map Lo)]
def Ayc (x:NY):Prop:=(qL (qL (Pf .i64))) x.g/\(qL (Pf .i64)) x.w/\(qL Awf) x.known/\(qL (Pf .i64)) x.of
def AdY (d:D):NY:=⟨(uL (uL uI)) (cel d 0), (uL uI) (cel d 1), (uL uBo) (cel d 2), (uL uI) (cel d 3)⟩
@[simp] theorem Anz (x:NY):AdY (AdQ x)=x:=by simp[AdY, AdQ, cel, Qe (u:=(uL uI)) (en:=(eL Lo)) (Qe (u:=uI) (en:=Lo) (λ_=>rfl)), Qe (u:=uI) (en:=Lo) (λ_=>rfl), Qe (u:=uBo) (en:=D.bool) (λ_=>rfl)]
instance:De1 AdQ AdY:=⟨Anz⟩
structure OU where
  p:Nq
  i:Int
  align:Int
  f:Nm
  y:ND
 deriving DecidableEq, Inhabited
def Qf (x:OU):D:= .agg [.sl (x.p.Funcs.map Nz), .int .i64 x.i, .int .i64 x.align, .int .i64 x.f.Params, .sl (x.f.Slots.map Oo), .sl (x.f.Code.map NG), .int .i64 x.y.Args, .int .i64 x.y.Size, .sl (x.y.Off.map Lo)]
def AwR (x:OU):Prop:=Awg x.p/\(Pf .i64) x.i/\(Pf .i64) x.align/\AwP x.f/\Asb x.y
def Ti (d:D):OU:=⟨⟨(uL Re) (cel d 0)⟩, uI (cel d 1), uI (cel d 2), ⟨uI (cel d 3), (uL Yb) (cel d 4), (uL RR) (cel d 5)⟩, ⟨uI (cel d 6), uI (cel d 7), (uL uI) (cel d 8)⟩⟩
@[simp] theorem AlE (x:OU):Ti (Qf x)=x:=by simp[Ti, Qf, cel, uI, Qe (u:=Re) (en:=Nz) AhZ, Qe (u:=Yb) (en:=Oo) AkS, Qe (u:=RR) (en:=NG) Zt, Qe (u:=uI) (en:=Lo) (λ_=>rfl)]
instance:De1 Qf Ti:=⟨AlE⟩
structure NN where
  Off:Int
  Size:Int
 deriving DecidableEq, Inhabited
def PZ (x:NN):D:= .agg [.int .i64 x.Off, .int .i64 x.Size]
def Azl (x:NN):Prop:=(Pf .i64) x.Off/\(Pf .i64) x.Size
def Vl (d:D):NN:=⟨uI (cel d 0), uI (cel d 1)⟩
@[simp] theorem ArD (x:NN):Vl (PZ x)=x:=by simp[Vl, PZ, cel, uI]
instance:De1 PZ Vl:=⟨ArD⟩
structure OL where
  Frame:OA
  align:Int
  frames:Int
 deriving DecidableEq, Inhabited
def Qa (x:OL):D:= .agg [.int .i64 x.Frame.Params, .int .i64 x.Frame.Size, .sl (x.Frame.Code.map NG), .int .i64 x.align, .int .i64 x.frames]
def Azb (x:OL):Prop:=Aut x.Frame/\(Pf .i64) x.align/\(Pf .i64) x.frames
def WR (d:D):OL:=⟨⟨uI (cel d 0), uI (cel d 1), (uL RR) (cel d 2)⟩, uI (cel d 3), uI (cel d 4)⟩
@[simp] theorem ApB (x:OL):WR (Qa x)=x:=by simp[WR, Qa, cel, uI, Qe (u:=RR) (en:=NG) Zt]
instance:De1 Qa WR:=⟨ApB⟩
structure Mk where
  list:(List Int)
  at_:Int
 deriving DecidableEq, Inhabited
def Om (x:Mk):D:= .agg [.sl (x.list.map eU8), .int .i64 x.at_]
def Aza (x:Mk):Prop:=(qL (Pf .u8)) x.list/\(Pf .i64) x.at_
def Rn (d:D):Mk:=⟨(uL uI) (cel d 0), uI (cel d 1)⟩
@[simp] theorem ApA (x:Mk):Rn (Om x)=x:=by simp[Rn, Om, cel, uI, Qe (u:=uI) (en:=eU8) (λ_=>rfl)]
instance:De1 Om Rn:=⟨ApA⟩
structure PH where
  a0:Int
  a1:Int
 deriving DecidableEq, Inhabited
def TE (x:PH):D:= .agg [.int .i64 x.a0, .int .i64 x.a1]
def Azw (x:PH):Prop:=(Pf .i64) x.a0/\(Pf .i64) x.a1
def Aot (d:D):PH:=⟨uI (cel d 0), uI (cel d 1)⟩
@[simp] theorem AuO (x:PH):Aot (TE x)=x:=by simp[Aot, TE, cel, uI]
instance:De1 TE Aot:=⟨AuO⟩
instance:TyE 5 eU8:=⟨⟩
instance:TyE 50 Oh:=⟨⟩
instance:TyE 36 Nz:=⟨⟩
instance:TyE 23 (eL Oh):=⟨⟩
instance:TyE 87 Oo:=⟨⟩
instance:TyE 90 NG:=⟨⟩
instance:TyE 3 Lo:=⟨⟩
instance:TyE 37 (eL Lo):=⟨⟩
instance:TyE 4 D.bool:=⟨⟩
instance:TyE 28 Pz:=⟨⟩
instance:TyE 75 OI:=⟨⟩
instance:TyE 39 Py:=⟨⟩
instance:TyE 190 TE:=⟨⟩
instance:TyE 186 PZ:=⟨⟩
end Go.Proofs.YtcaoepecbgggcaaGreatDoor
