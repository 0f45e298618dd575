/-
  The types of the data; written by a program (dx.py).
-/
import Derived.Test.YtilmapojncgflaaGreatDoorProg
import Derived.Test.YtilmapojncgflaaGreatDoorDd
import Derived.KernelRfl
namespace Go.Proofs.YtilmapojncgflaaGreatDoor
open Go Go.Dw Go.Proofs
set_option maxRecDepth 100000
set_option maxHeartbeats 40000000
abbrev eI8 (n:Int):D:= .int .i8 n
abbrev AvX (n:Int):D:= .int .i16 n
abbrev AvY (n:Int):D:= .int .i32 n
abbrev Mk (n:Int):D:= .int .i64 n
abbrev eU8 (n:Int):D:= .int .u8 n
abbrev AvZ (n:Int):D:= .int .u16 n
abbrev Awa (n:Int):D:= .int .u32 n
abbrev AaB (n:Int):D:= .int .u64 n
structure Lo where
  Op:Int
  A:Int
  B:Int
  C:Int
  Imm:Int
 deriving DecidableEq, Inhabited
def Pl (x:Lo):D:= .agg [.int .i64 x.Op, .int .i64 x.A, .int .i64 x.B, .int .i64 x.C, .int .u64 x.Imm]
def Avs (x:Lo):Prop:=(RY .i64) x.Op/\(RY .i64) x.A/\(RY .i64) x.B/\(RY .i64) x.C/\(RY .u64) x.Imm
def Yo (d:D):Lo:=⟨uI (cel d 0), uI (cel d 1), uI (cel d 2), uI (cel d 3), uI (cel d 4)⟩
@[simp] theorem Amb (x:Lo):Yo (Pl x)=x:=by simp[Yo, Pl, cel, uI]
structure Pa where
  Size:Int
  Align:Int
 deriving DecidableEq, Inhabited
def Pu (x:Pa):D:= .agg [.int .i64 x.Size, .int .i64 x.Align]
def AvF (x:Pa):Prop:=(RY .i64) x.Size/\(RY .i64) x.Align
def UL (d:D):Pa:=⟨uI (cel d 0), uI (cel d 1)⟩
@[simp] theorem Acl (x:Pa):UL (Pu x)=x:=by simp[UL, Pu, cel, uI]
structure Le where
  Params:Int
  Slots:(List Pa)
  Code:(List Lo)
 deriving DecidableEq, Inhabited
def Pk (x:Le):D:= .agg [.int .i64 x.Params, .sl (x.Slots.map Pu), .sl (x.Code.map Pl)]
def AtN (x:Le):Prop:=(RY .i64) x.Params/\(qL AvF) x.Slots/\(qL Avs) x.Code
def Sz (d:D):Le:=⟨uI (cel d 0), (uL UL) (cel d 1), (uL Yo) (cel d 2)⟩
@[simp] theorem AkE (x:Le):Sz (Pk x)=x:=by simp[Sz, Pk, cel, uI, Qf (u:=UL) (en:=Pu) Acl, Qf (u:=Yo) (en:=Pl) Amb]
structure Pj where
  Out:(List (List Int))
 deriving DecidableEq, Inhabited
def WY (x:Pj):D:= .agg [.sl (x.Out.map (eL Mk))]
def AtO (x:Pj):Prop:=(qL (qL (RY .i64))) x.Out
def Adg (d:D):Pj:=⟨(uL (uL uI)) (cel d 0)⟩
@[simp] theorem AvR (x:Pj):Adg (WY x)=x:=by simp[Adg, WY, cel, Qf (u:=(uL uI)) (en:=(eL Mk)) (Qf (u:=uI) (en:=Mk) (λ_=>rfl))]
structure Pn where
  To:(List Int)
  Keep:(List Bool)
 deriving DecidableEq, Inhabited
def AhD (x:Pn):D:= .agg [.sl (x.To.map Mk), .sl (x.Keep.map D.bool)]
def AuT (x:Pn):Prop:=(qL (RY .i64)) x.To/\(qL AvO) x.Keep
def Aig (d:D):Pn:=⟨(uL uI) (cel d 0), (uL uBo) (cel d 1)⟩
@[simp] theorem AvJ (x:Pn):Aig (AhD x)=x:=by simp[Aig, AhD, cel, Qf (u:=uI) (en:=Mk) (λ_=>rfl), Qf (u:=uBo) (en:=D.bool) (λ_=>rfl)]
structure Qg where
  Args:Int
  Size:Int
  Off:(List Int)
 deriving DecidableEq, Inhabited
def AbY (x:Qg):D:= .agg [.int .i64 x.Args, .int .i64 x.Size, .sl (x.Off.map Mk)]
def AuS (x:Qg):Prop:=(RY .i64) x.Args/\(RY .i64) x.Size/\(qL (RY .i64)) x.Off
def Anm (d:D):Qg:=⟨uI (cel d 0), uI (cel d 1), (uL uI) (cel d 2)⟩
@[simp] theorem AvI (x:Qg):Anm (AbY x)=x:=by simp[Anm, AbY, cel, uI, Qf (u:=uI) (en:=Mk) (λ_=>rfl)]
structure Rp where
  Live:Pj
  Rename:Pn
  LiveAfter:Pj
  Layout:Qg
 deriving DecidableEq, Inhabited
def Agz (x:Rp):D:= .agg [.sl (x.Live.Out.map (eL Mk)), .sl (x.Rename.To.map Mk), .sl (x.Rename.Keep.map D.bool), .sl (x.LiveAfter.Out.map (eL Mk)), .int .i64 x.Layout.Args, .int .i64 x.Layout.Size, .sl (x.Layout.Off.map Mk)]
def Asq (x:Rp):Prop:=AtO x.Live/\AuT x.Rename/\AtO x.LiveAfter/\AuS x.Layout
def AnH (d:D):Rp:=⟨⟨(uL (uL uI)) (cel d 0)⟩, ⟨(uL uI) (cel d 1), (uL uBo) (cel d 2)⟩, ⟨(uL (uL uI)) (cel d 3)⟩, ⟨uI (cel d 4), uI (cel d 5), (uL uI) (cel d 6)⟩⟩
@[simp] theorem Avx (x:Rp):AnH (Agz x)=x:=by simp[AnH, Agz, cel, uI, Qf (u:=(uL uI)) (en:=(eL Mk)) (Qf (u:=uI) (en:=Mk) (λ_=>rfl)), Qf (u:=uI) (en:=Mk) (λ_=>rfl), Qf (u:=uBo) (en:=D.bool) (λ_=>rfl)]
structure Ph where
  Funcs:(List Le)
 deriving DecidableEq, Inhabited
def Un (x:Ph):D:= .agg [.sl (x.Funcs.map Pk)]
def Atw (x:Ph):Prop:=(qL AtN) x.Funcs
def ZY (d:D):Ph:=⟨(uL Sz) (cel d 0)⟩
@[simp] theorem AvG (x:Ph):ZY (Un x)=x:=by simp[ZY, Un, cel, Qf (u:=Sz) (en:=Pk) AkE]
structure PE where
  p:Ph
  i:Int
  f:Le
  x:Rp
 deriving DecidableEq, Inhabited
def SE (x:PE):D:= .agg [.sl (x.p.Funcs.map Pk), .int .i64 x.i, .int .i64 x.f.Params, .sl (x.f.Slots.map Pu), .sl (x.f.Code.map Pl), .sl (x.x.Live.Out.map (eL Mk)), .sl (x.x.Rename.To.map Mk), .sl (x.x.Rename.Keep.map D.bool), .sl (x.x.LiveAfter.Out.map (eL Mk)), .int .i64 x.x.Layout.Args, .int .i64 x.x.Layout.Size, .sl (x.x.Layout.Off.map Mk)]
def AuU (x:PE):Prop:=Atw x.p/\(RY .i64) x.i/\AtN x.f/\Asq x.x
def Aec (d:D):PE:=⟨⟨(uL Sz) (cel d 0)⟩, uI (cel d 1), ⟨uI (cel d 2), (uL UL) (cel d 3), (uL Yo) (cel d 4)⟩, ⟨⟨(uL (uL uI)) (cel d 5)⟩, ⟨(uL uI) (cel d 6), (uL uBo) (cel d 7)⟩, ⟨(uL (uL uI)) (cel d 8)⟩, ⟨uI (cel d 9), uI (cel d 10), (uL uI) (cel d 11)⟩⟩⟩
@[simp] theorem AtH (x:PE):Aec (SE x)=x:=by simp[Aec, SE, cel, uI, Qf (u:=Sz) (en:=Pk) AkE, Qf (u:=UL) (en:=Pu) Acl, Qf (u:=Yo) (en:=Pl) Amb, Qf (u:=(uL uI)) (en:=(eL Mk)) (Qf (u:=uI) (en:=Mk) (λ_=>rfl)), Qf (u:=uI) (en:=Mk) (λ_=>rfl), Qf (u:=uBo) (en:=D.bool) (λ_=>rfl)]
structure OW where
  a0:Int
  a1:Int
  a2:Int
  a3:Int
  a4:Int
  a5:Int
  a6:Int
  a7:Int
 deriving DecidableEq, Inhabited
def OW.toList (x:OW):List Int:=[x.a0, x.a1, x.a2, x.a3, x.a4, x.a5, x.a6, x.a7]
def OW.set (x:OW) (j:Nat) (v:Int):OW:=⟨(x.toList.set j v).getD 0 x.a0, (x.toList.set j v).getD 1 x.a1, (x.toList.set j v).getD 2 x.a2, (x.toList.set j v).getD 3 x.a3, (x.toList.set j v).getD 4 x.a4, (x.toList.set j v).getD 5 x.a5, (x.toList.set j v).getD 6 x.a6, (x.toList.set j v).getD 7 x.a7⟩
theorem RW (x:OW) (j:Nat) (v:Int):(x.set j v).toList=x.toList.set j v:=by
  match j with
  | 0=>rfl
  | 1=>rfl
  | 2=>rfl
  | 3=>rfl
  | 4=>rfl
  | 5=>rfl
  | 6=>rfl
  | 7=>rfl
  | _+8=>rfl
def Ps (x:OW):D:= .agg [.int .u64 x.a0, .int .u64 x.a1, .int .u64 x.a2, .int .u64 x.a3, .int .u64 x.a4, .int .u64 x.a5, .int .u64 x.a6, .int .u64 x.a7]
def Atx (x:OW):Prop:=(RY .u64) x.a0/\(RY .u64) x.a1/\(RY .u64) x.a2/\(RY .u64) x.a3/\(RY .u64) x.a4/\(RY .u64) x.a5/\(RY .u64) x.a6/\(RY .u64) x.a7
def Rx (d:D):OW:=⟨uI (cel d 0), uI (cel d 1), uI (cel d 2), uI (cel d 3), uI (cel d 4), uI (cel d 5), uI (cel d 6), uI (cel d 7)⟩
@[simp] theorem AsN (x:OW):Rx (Ps x)=x:=by simp[Rx, Ps, cel, uI]
structure Pr where
  a0:Int
  a1:Int
 deriving DecidableEq, Inhabited
def PN (x:Pr):D:= .agg [.int .i64 x.a0, .int .i64 x.a1]
def AvQ (x:Pr):Prop:=(RY .i64) x.a0/\(RY .i64) x.a1
def Aif (d:D):Pr:=⟨uI (cel d 0), uI (cel d 1)⟩
@[simp] theorem AsM (x:Pr):Aif (PN x)=x:=by simp[Aif, PN, cel, uI]
structure OX where
  Off:Int
  Size:Int
 deriving DecidableEq, Inhabited
def PH (x:OX):D:= .agg [.int .i64 x.Off, .int .i64 x.Size]
def AvH (x:OX):Prop:=(RY .i64) x.Off/\(RY .i64) x.Size
def Uc (d:D):OX:=⟨uI (cel d 0), uI (cel d 1)⟩
@[simp] theorem Aem (x:OX):Uc (PH x)=x:=by simp[Uc, PH, cel, uI]
structure OY where
  list:(List Int)
  at_:Int
 deriving DecidableEq, Inhabited
def Qu (x:OY):D:= .agg [.sl (x.list.map eU8), .int .i64 x.at_]
def Avw (x:OY):Prop:=(qL (RY .u8)) x.list/\(RY .i64) x.at_
def UQ (d:D):OY:=⟨(uL uI) (cel d 0), uI (cel d 1)⟩
@[simp] theorem Avg (x:OY):UQ (Qu x)=x:=by simp[UQ, Qu, cel, uI, Qf (u:=uI) (en:=eU8) (λ_=>rfl)]
instance:TyE 5 eU8:=⟨⟩
instance:TyE 36 Pk:=⟨⟩
instance:TyE 60 Pu:=⟨⟩
instance:TyE 63 Pl:=⟨⟩
instance:TyE 41 (eL Mk):=⟨⟩
instance:TyE 3 Mk:=⟨⟩
instance:TyE 4 D.bool:=⟨⟩
instance:TyE 48 Agz:=⟨⟩
instance:TyE 127 PN:=⟨⟩
instance:TyE 121 PH:=⟨⟩
instance:TyE 42 (eL D.bool):=⟨⟩
end Go.Proofs.YtilmapojncgflaaGreatDoor
