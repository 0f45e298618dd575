/-
  The types of the data; written by a program (dx.py).
-/
import Derived.Test.YtcaoepecbgggcaaGreatDoorProg
import Derived.Test.YtcaoepecbgggcaaGreatDoorDc
namespace Go.Proofs.YtcaoepecbgggcaaGreatDoor
open Go Go.Dw Go.Proofs
set_option maxRecDepth 100000
set_option maxHeartbeats 40000000
abbrev eI8 (n:Int):D:= .int .i8 n
abbrev AzL (n:Int):D:= .int .i16 n
abbrev AzM (n:Int):D:= .int .i32 n
abbrev Av (n:Int):D:= .int .i64 n
abbrev eU8 (n:Int):D:= .int .u8 n
abbrev AzN (n:Int):D:= .int .u16 n
abbrev AzO (n:Int):D:= .int .u32 n
abbrev XN (n:Int):D:= .int .u64 n
structure Lo where
  Op:Int
  A:Int
  B:Int
  C:Int
  Imm:Int
 deriving DecidableEq, Inhabited
def NG (x:Lo):D:= .agg [.int .i64 x.Op, .int .i64 x.A, .int .i64 x.B, .int .i64 x.C, .int .u64 x.Imm]
def AuE (x:Lo):Prop:=(Pf .i64) x.Op/\(Pf .i64) x.A/\(Pf .i64) x.B/\(Pf .i64) x.C/\(Pf .u64) x.Imm
def RD (d:D):Lo:=⟨uI (cel d 0), uI (cel d 1), uI (cel d 2), uI (cel d 3), uI (cel d 4)⟩
@[simp] theorem Zt (x:Lo):RD (NG x)=x:=by simp[RD, NG, cel, uI]
instance:De1 NG RD:=⟨Zt⟩
structure NB where
  Size:Int
  Align:Int
 deriving DecidableEq, Inhabited
def On (x:NB):D:= .agg [.int .i64 x.Size, .int .i64 x.Align]
def Azn (x:NB):Prop:=(Pf .i64) x.Size/\(Pf .i64) x.Align
def Ya (d:D):NB:=⟨uI (cel d 0), uI (cel d 1)⟩
@[simp] theorem Ali (x:NB):Ya (On x)=x:=by simp[Ya, On, cel, uI]
instance:De1 On Ya:=⟨Ali⟩
structure Nn where
  Params:Int
  Slots:(List NB)
  Code:(List Lo)
 deriving DecidableEq, Inhabited
def Nz (x:Nn):D:= .agg [.int .i64 x.Params, .sl (x.Slots.map On), .sl (x.Code.map NG)]
def AwY (x:Nn):Prop:=(Pf .i64) x.Params/\(qL Azn) x.Slots/\(qL AuE) x.Code
def Rh (d:D):Nn:=⟨uI (cel d 0), (uL Ya) (cel d 1), (uL RD) (cel d 2)⟩
@[simp] theorem Aiu (x:Nn):Rh (Nz x)=x:=by simp[Rh, Nz, cel, uI, Qe (u:=Ya) (en:=On) Ali, Qe (u:=RD) (en:=NG) Zt]
instance:De1 Nz Rh:=⟨Aiu⟩
structure NX where
  Params:Int
  Size:Int
  Code:(List Lo)
 deriving DecidableEq, Inhabited
def NW (x:NX):D:= .agg [.int .i64 x.Params, .int .i64 x.Size, .sl (x.Code.map NG)]
def AuD (x:NX):Prop:=(Pf .i64) x.Params/\(Pf .i64) x.Size/\(qL AuE) x.Code
def Aci (d:D):NX:=⟨uI (cel d 0), uI (cel d 1), (uL RD) (cel d 2)⟩
@[simp] theorem AmW (x:NX):Aci (NW x)=x:=by simp[Aci, NW, cel, uI, Qe (u:=RD) (en:=NG) Zt]
instance:De1 NW Aci:=⟨AmW⟩
structure Og where
  Align:Int
  Frames:(List NX)
 deriving DecidableEq, Inhabited
def Xl (x:Og):D:= .agg [.int .i64 x.Align, .sl (x.Frames.map NW)]
def AxP (x:Og):Prop:=(Pf .i64) x.Align/\(qL AuD) x.Frames
def XC (d:D):Og:=⟨uI (cel d 0), (uL Aci) (cel d 1)⟩
@[simp] theorem Avd (x:Og):XC (Xl x)=x:=by simp[XC, Xl, cel, uI, Qe (u:=Aci) (en:=NW) AmW]
instance:De1 Xl XC:=⟨Avd⟩
structure PE where
  Target:Og
  Bound:Int
  Bounds:(List Int)
  Choices:(List Int)
 deriving DecidableEq, Inhabited
def Aaw (x:PE):D:= .agg [.int .i64 x.Target.Align, .sl (x.Target.Frames.map NW), .int .i64 x.Bound, .sl (x.Bounds.map Av), .sl (x.Choices.map Av)]
def AzG (x:PE):Prop:=AxP x.Target/\(Pf .i64) x.Bound/\(qL (Pf .i64)) x.Bounds/\(qL (Pf .i64)) x.Choices
def Ary (d:D):PE:=⟨⟨uI (cel d 0), (uL Aci) (cel d 1)⟩, uI (cel d 2), (uL uI) (cel d 3), (uL uI) (cel d 4)⟩
@[simp] theorem AwM (x:PE):Ary (Aaw x)=x:=by simp[Ary, Aaw, cel, uI, Qe (u:=Aci) (en:=NW) AmW, Qe (u:=uI) (en:=Av) (λ_=>rfl)]
instance:De1 Aaw Ary:=⟨AwM⟩
structure Nv where
  Funcs:(List Nn)
 deriving DecidableEq, Inhabited
def PJ (x:Nv):D:= .agg [.sl (x.Funcs.map Nz)]
def Awp (x:Nv):Prop:=(qL AwY) x.Funcs
def Rr (d:D):Nv:=⟨(uL Rh) (cel d 0)⟩
@[simp] theorem Atz (x:Nv):Rr (PJ x)=x:=by simp[Rr, PJ, cel, Qe (u:=Rh) (en:=Nz) Aiu]
instance:De1 PJ Rr:=⟨Atz⟩
structure NN where
  Out:(List (List Int))
 deriving DecidableEq, Inhabited
def Rx (x:NN):D:= .agg [.sl (x.Out.map (eL Av))]
def AwZ (x:NN):Prop:=(qL (qL (Pf .i64))) x.Out
def Vb (d:D):NN:=⟨(uL (uL uI)) (cel d 0)⟩
@[simp] theorem Ayh (x:NN):Vb (Rx x)=x:=by simp[Vb, Rx, cel, Qe (u:=(uL uI)) (en:=(eL Av)) (Qe (u:=uI) (en:=Av) (λ_=>rfl))]
instance:De1 Rx Vb:=⟨Ayh⟩
structure ND where
  To:(List Int)
  Keep:(List Bool)
 deriving DecidableEq, Inhabited
def Xk (x:ND):D:= .agg [.sl (x.To.map Av), .sl (x.Keep.map D.bool)]
def AxO (x:ND):Prop:=(qL (Pf .i64)) x.To/\(qL Awo) x.Keep
def ZW (d:D):ND:=⟨(uL uI) (cel d 0), (uL uBo) (cel d 1)⟩
@[simp] theorem Avc (x:ND):ZW (Xk x)=x:=by simp[ZW, Xk, cel, Qe (u:=uI) (en:=Av) (λ_=>rfl), Qe (u:=uBo) (en:=D.bool) (λ_=>rfl)]
instance:De1 Xk ZW:=⟨Avc⟩
structure NC where
  Args:Int
  Size:Int
  Off:(List Int)
 deriving DecidableEq, Inhabited
def Pv (x:NC):D:= .agg [.int .i64 x.Args, .int .i64 x.Size, .sl (x.Off.map Av)]
def Ast (x:NC):Prop:=(Pf .i64) x.Args/\(Pf .i64) x.Size/\(qL (Pf .i64)) x.Off
def Adg (d:D):NC:=⟨uI (cel d 0), uI (cel d 1), (uL uI) (cel d 2)⟩
@[simp] theorem Avb (x:NC):Adg (Pv x)=x:=by simp[Adg, Pv, cel, uI, Qe (u:=uI) (en:=Av) (λ_=>rfl)]
instance:De1 Pv Adg:=⟨Avb⟩
structure NL where
  Live:NN
  Rename:ND
  LiveAfter:NN
  Layout:NC
 deriving DecidableEq, Inhabited
def Ob (x:NL):D:= .agg [.sl (x.Live.Out.map (eL Av)), .sl (x.Rename.To.map Av), .sl (x.Rename.Keep.map D.bool), .sl (x.LiveAfter.Out.map (eL Av)), .int .i64 x.Layout.Args, .int .i64 x.Layout.Size, .sl (x.Layout.Off.map Av)]
def Azs (x:NL):Prop:=AwZ x.Live/\AxO x.Rename/\AwZ x.LiveAfter/\Ast x.Layout
def AdZ (d:D):NL:=⟨⟨(uL (uL uI)) (cel d 0)⟩, ⟨(uL uI) (cel d 1), (uL uBo) (cel d 2)⟩, ⟨(uL (uL uI)) (cel d 3)⟩, ⟨uI (cel d 4), uI (cel d 5), (uL uI) (cel d 6)⟩⟩
@[simp] theorem ArZ (x:NL):AdZ (Ob x)=x:=by simp[AdZ, Ob, cel, uI, Qe (u:=(uL uI)) (en:=(eL Av)) (Qe (u:=uI) (en:=Av) (λ_=>rfl)), Qe (u:=uI) (en:=Av) (λ_=>rfl), Qe (u:=uBo) (en:=D.bool) (λ_=>rfl)]
instance:De1 Ob AdZ:=⟨ArZ⟩
structure SM where
  a:Int
  b:Int
  c:Int
  imm:Bool
 deriving DecidableEq, Inhabited
def Yt (x:SM):D:= .agg [.int .i64 x.a, .int .i64 x.b, .int .i64 x.c, .bool x.imm]
def Azg (x:SM):Prop:=(Pf .i64) x.a/\(Pf .i64) x.b/\(Pf .i64) x.c/\Awo x.imm
def Ahn (d:D):SM:=⟨uI (cel d 0), uI (cel d 1), uI (cel d 2), uBo (cel d 3)⟩
@[simp] theorem ApT (x:SM):Ahn (Yt x)=x:=by simp[Ahn, Yt, cel, uI, uBo]
instance:De1 Yt Ahn:=⟨ApT⟩
structure QN where
  a0:Int
  a1:Int
  a2:Int
 deriving DecidableEq, Inhabited
def QN.toList (x:QN):List Int:=[x.a0, x.a1, x.a2]
def QN.set (x:QN) (j:Nat) (v:Int):QN:=⟨(x.toList.set j v).getD 0 x.a0, (x.toList.set j v).getD 1 x.a1, (x.toList.set j v).getD 2 x.a2⟩
theorem Azd (x:QN) (j:Nat) (v:Int):(x.set j v).toList=x.toList.set j v:=by
  match j with
  | 0=>rfl
  | 1=>rfl
  | 2=>rfl
  | _+3=>rfl
def Aod (x:QN):D:= .agg [.int .i64 x.a0, .int .i64 x.a1, .int .i64 x.a2]
def AzC (x:QN):Prop:=(Pf .i64) x.a0/\(Pf .i64) x.a1/\(Pf .i64) x.a2
def AoS (d:D):QN:=⟨uI (cel d 0), uI (cel d 1), uI (cel d 2)⟩
@[simp] theorem AuZ (x:QN):AoS (Aod x)=x:=by simp[AoS, Aod, cel, uI]
instance:De1 Aod AoS:=⟨AuZ⟩
structure RI where
  a0:Int
  a1:Int
  a2:Int
  a3:Int
  a4:Int
  a5:Int
  a6:Int
 deriving DecidableEq, Inhabited
def RI.toList (x:RI):List Int:=[x.a0, x.a1, x.a2, x.a3, x.a4, x.a5, x.a6]
def RI.set (x:RI) (j:Nat) (v:Int):RI:=⟨(x.toList.set j v).getD 0 x.a0, (x.toList.set j v).getD 1 x.a1, (x.toList.set j v).getD 2 x.a2, (x.toList.set j v).getD 3 x.a3, (x.toList.set j v).getD 4 x.a4, (x.toList.set j v).getD 5 x.a5, (x.toList.set j v).getD 6 x.a6⟩
theorem Aze (x:RI) (j:Nat) (v:Int):(x.set j v).toList=x.toList.set j v:=by
  match j with
  | 0=>rfl
  | 1=>rfl
  | 2=>rfl
  | 3=>rfl
  | 4=>rfl
  | 5=>rfl
  | 6=>rfl
  | _+7=>rfl
def AhG (x:RI):D:= .agg [.int .i64 x.a0, .int .i64 x.a1, .int .i64 x.a2, .int .i64 x.a3, .int .i64 x.a4, .int .i64 x.a5, .int .i64 x.a6]
def AzD (x:RI):Prop:=(Pf .i64) x.a0/\(Pf .i64) x.a1/\(Pf .i64) x.a2/\(Pf .i64) x.a3/\(Pf .i64) x.a4/\(Pf .i64) x.a5/\(Pf .i64) x.a6
def AoT (d:D):RI:=⟨uI (cel d 0), uI (cel d 1), uI (cel d 2), uI (cel d 3), uI (cel d 4), uI (cel d 5), uI (cel d 6)⟩
@[simp] theorem Ava (x:RI):AoT (AhG x)=x:=by simp[AoT, AhG, cel, uI]
instance:De1 AhG AoT:=⟨Ava⟩
structure Nt where
  a0:Int
  a1:Int
  a2:Int
  a3:Int
  a4:Int
  a5:Int
  a6:Int
  a7:Int
 deriving DecidableEq, Inhabited
def Nt.toList (x:Nt):List Int:=[x.a0, x.a1, x.a2, x.a3, x.a4, x.a5, x.a6, x.a7]
def Nt.set (x:Nt) (j:Nat) (v:Int):Nt:=⟨(x.toList.set j v).getD 0 x.a0, (x.toList.set j v).getD 1 x.a1, (x.toList.set j v).getD 2 x.a2, (x.toList.set j v).getD 3 x.a3, (x.toList.set j v).getD 4 x.a4, (x.toList.set j v).getD 5 x.a5, (x.toList.set j v).getD 6 x.a6, (x.toList.set j v).getD 7 x.a7⟩
theorem RJ (x:Nt) (j:Nat) (v:Int):(x.set j v).toList=x.toList.set j v:=by
  match j with
  | 0=>rfl
  | 1=>rfl
  | 2=>rfl
  | 3=>rfl
  | 4=>rfl
  | 5=>rfl
  | 6=>rfl
  | 7=>rfl
  | _+8=>rfl
def NI (x:Nt):D:= .agg [.int .u64 x.a0, .int .u64 x.a1, .int .u64 x.a2, .int .u64 x.a3, .int .u64 x.a4, .int .u64 x.a5, .int .u64 x.a6, .int .u64 x.a7]
def Awq (x:Nt):Prop:=(Pf .u64) x.a0/\(Pf .u64) x.a1/\(Pf .u64) x.a2/\(Pf .u64) x.a3/\(Pf .u64) x.a4/\(Pf .u64) x.a5/\(Pf .u64) x.a6/\(Pf .u64) x.a7
def PC (d:D):Nt:=⟨uI (cel d 0), uI (cel d 1), uI (cel d 2), uI (cel d 3), uI (cel d 4), uI (cel d 5), uI (cel d 6), uI (cel d 7)⟩
@[simp] theorem AkW (x:Nt):PC (NI x)=x:=by simp[PC, NI, cel, uI]
instance:De1 NI PC:=⟨AkW⟩
structure NR where
  g:(List (List Int))
  w:(List Int)
  known:(List Bool)
  of:(List Int)
 deriving DecidableEq, Inhabited
def Aef (x:NR):D:= .agg [.sl (x.g.map (eL Av)), .sl (x.w.map Av), .sl (x.known.map D.bool), .sl (x.of.map Av)]
def Ayr (x:NR):Prop:=(qL (qL (Pf .i64))) x.g/\(qL (Pf .i64)) x.w/\(qL Awo) x.known/\(qL (Pf .i64)) x.of
def Aen (d:D):NR:=⟨(uL (uL uI)) (cel d 0), (uL uI) (cel d 1), (uL uBo) (cel d 2), (uL uI) (cel d 3)⟩
@[simp] theorem AnQ (x:NR):Aen (Aef x)=x:=by simp[Aen, Aef, cel, Qe (u:=(uL uI)) (en:=(eL Av)) (Qe (u:=uI) (en:=Av) (λ_=>rfl)), Qe (u:=uI) (en:=Av) (λ_=>rfl), Qe (u:=uBo) (en:=D.bool) (λ_=>rfl)]
instance:De1 Aef Aen:=⟨AnQ⟩
structure OP where
  p:Nv
  i:Int
  align:Int
  f:Nn
  y:NC
 deriving DecidableEq, Inhabited
def Qf (x:OP):D:= .agg [.sl (x.p.Funcs.map Nz), .int .i64 x.i, .int .i64 x.align, .int .i64 x.f.Params, .sl (x.f.Slots.map On), .sl (x.f.Code.map NG), .int .i64 x.y.Args, .int .i64 x.y.Size, .sl (x.y.Off.map Av)]
def Axa (x:OP):Prop:=Awp x.p/\(Pf .i64) x.i/\(Pf .i64) x.align/\AwY x.f/\Ast x.y
def Th (d:D):OP:=⟨⟨(uL Rh) (cel d 0)⟩, uI (cel d 1), uI (cel d 2), ⟨uI (cel d 3), (uL Ya) (cel d 4), (uL RD) (cel d 5)⟩, ⟨uI (cel d 6), uI (cel d 7), (uL uI) (cel d 8)⟩⟩
@[simp] theorem AlR (x:OP):Th (Qf x)=x:=by simp[Th, Qf, cel, uI, Qe (u:=Rh) (en:=Nz) Aiu, Qe (u:=Ya) (en:=On) Ali, Qe (u:=RD) (en:=NG) Zt, Qe (u:=uI) (en:=Av) (λ_=>rfl)]
instance:De1 Qf Th:=⟨AlR⟩
structure NH where
  Off:Int
  Size:Int
 deriving DecidableEq, Inhabited
def Qa (x:NH):D:= .agg [.int .i64 x.Off, .int .i64 x.Size]
def Azr (x:NH):Prop:=(Pf .i64) x.Off/\(Pf .i64) x.Size
def Vg (d:D):NH:=⟨uI (cel d 0), uI (cel d 1)⟩
@[simp] theorem ArY (x:NH):Vg (Qa x)=x:=by simp[Vg, Qa, cel, uI]
instance:De1 Qa Vg:=⟨ArY⟩
structure OG where
  Frame:NX
  align:Int
  frames:Int
 deriving DecidableEq, Inhabited
def Qb (x:OG):D:= .agg [.int .i64 x.Frame.Params, .int .i64 x.Frame.Size, .sl (x.Frame.Code.map NG), .int .i64 x.align, .int .i64 x.frames]
def Azi (x:OG):Prop:=AuD x.Frame/\(Pf .i64) x.align/\(Pf .i64) x.frames
def WO (d:D):OG:=⟨⟨uI (cel d 0), uI (cel d 1), (uL RD) (cel d 2)⟩, uI (cel d 3), uI (cel d 4)⟩
@[simp] theorem ApV (x:OG):WO (Qb x)=x:=by simp[WO, Qb, cel, uI, Qe (u:=RD) (en:=NG) Zt]
instance:De1 Qb WO:=⟨ApV⟩
structure Mk where
  list:(List Int)
  at_:Int
 deriving DecidableEq, Inhabited
def Oh (x:Mk):D:= .agg [.sl (x.list.map eU8), .int .i64 x.at_]
def Azh (x:Mk):Prop:=(qL (Pf .u8)) x.list/\(Pf .i64) x.at_
def Rq (d:D):Mk:=⟨(uL uI) (cel d 0), uI (cel d 1)⟩
@[simp] theorem ApU (x:Mk):Rq (Oh x)=x:=by simp[Rq, Oh, cel, uI, Qe (u:=uI) (en:=eU8) (λ_=>rfl)]
instance:De1 Oh Rq:=⟨ApU⟩
structure PH where
  a0:Int
  a1:Int
 deriving DecidableEq, Inhabited
def TG (x:PH):D:= .agg [.int .i64 x.a0, .int .i64 x.a1]
def AzB (x:PH):Prop:=(Pf .i64) x.a0/\(Pf .i64) x.a1
def AoR (d:D):PH:=⟨uI (cel d 0), uI (cel d 1)⟩
@[simp] theorem AuY (x:PH):AoR (TG x)=x:=by simp[AoR, TG, cel, uI]
instance:De1 TG AoR:=⟨AuY⟩
instance:TyE 5 eU8:=⟨⟩
instance:TyE 50 Ob:=⟨⟩
instance:TyE 36 Nz:=⟨⟩
instance:TyE 23 (eL Ob):=⟨⟩
instance:TyE 87 On:=⟨⟩
instance:TyE 90 NG:=⟨⟩
instance:TyE 3 Av:=⟨⟩
instance:TyE 37 (eL Av):=⟨⟩
instance:TyE 4 D.bool:=⟨⟩
instance:TyE 28 PJ:=⟨⟩
instance:TyE 75 NW:=⟨⟩
instance:TyE 39 Pv:=⟨⟩
instance:TyE 190 TG:=⟨⟩
instance:TyE 186 Qa:=⟨⟩
end Go.Proofs.YtcaoepecbgggcaaGreatDoor
