/-
  The types of the data; written by a program (dx.py).
-/
import Derived.Test.YtilmapojncgflaaGreatDoorProg
import Derived.Test.YtilmapojncgflaaGreatDoorDd
import Derived.KernelRfl
namespace Go.Proofs.YtilmapojncgflaaGreatDoor
open Go Go.Dw Go.Proofs
set_option maxRecDepth 100000
set_option maxHeartbeats 40000000
abbrev eI8 (n:Int):D:= .int .i8 n
abbrev AyF (n:Int):D:= .int .i16 n
abbrev AyG (n:Int):D:= .int .i32 n
abbrev Le (n:Int):D:= .int .i64 n
abbrev eU8 (n:Int):D:= .int .u8 n
abbrev AyH (n:Int):D:= .int .u16 n
abbrev AyI (n:Int):D:= .int .u32 n
abbrev Acd (n:Int):D:= .int .u64 n
structure OP where
  Op:Int
  A:Int
  B:Int
  C:Int
  Imm:Int
 deriving DecidableEq, Inhabited
def Ph (x:OP):D:= .agg [.int .i64 x.Op, .int .i64 x.A, .int .i64 x.B, .int .i64 x.C, .int .u64 x.Imm]
def Aya (x:OP):Prop:=(Sw .i64) x.Op/\(Sw .i64) x.A/\(Sw .i64) x.B/\(Sw .i64) x.C/\(Sw .u64) x.Imm
def Afh (d:D):OP:=⟨uI (cel d 0), uI (cel d 1), uI (cel d 2), uI (cel d 3), uI (cel d 4)⟩
@[simp] theorem Ast (x:OP):Afh (Ph x)=x:=by simp[Afh, Ph, cel, uI]
structure Pa where
  Size:Int
  Align:Int
 deriving DecidableEq, Inhabited
def Pm (x:Pa):D:= .agg [.int .i64 x.Size, .int .i64 x.Align]
def Aym (x:Pa):Prop:=(Sw .i64) x.Size/\(Sw .i64) x.Align
def Uy (d:D):Pa:=⟨uI (cel d 0), uI (cel d 1)⟩
@[simp] theorem Aei (x:Pa):Uy (Pm x)=x:=by simp[Uy, Pm, cel, uI]
structure Mk where
  Params:Int
  Slots:(List Pa)
  Code:(List OP)
 deriving DecidableEq, Inhabited
def Pf (x:Mk):D:= .agg [.int .i64 x.Params, .sl (x.Slots.map Pm), .sl (x.Code.map Ph)]
def Awt (x:Mk):Prop:=(Sw .i64) x.Params/\(qL Aym) x.Slots/\(qL Aya) x.Code
def Td (d:D):Mk:=⟨uI (cel d 0), (uL Uy) (cel d 1), (uL Afh) (cel d 2)⟩
@[simp] theorem Anh (x:Mk):Td (Pf x)=x:=by simp[Td, Pf, cel, uI, Qb (u:=Uy) (en:=Pm) Aei, Qb (u:=Afh) (en:=Ph) Ast]
structure Pg where
  Out:(List (List Int))
 deriving DecidableEq, Inhabited
def Uu (x:Pg):D:= .agg [.sl (x.Out.map (eL Le))]
def Awu (x:Pg):Prop:=(qL (qL (Sw .i64))) x.Out
def Zs (d:D):Pg:=⟨(uL (uL uI)) (cel d 0)⟩
@[simp] theorem Ayz (x:Pg):Zs (Uu x)=x:=by simp[Zs, Uu, cel, Qb (u:=(uL uI)) (en:=(eL Le)) (Qb (u:=uI) (en:=Le) (λ_=>rfl))]
structure Pl where
  To:(List Int)
  Keep:(List Bool)
 deriving DecidableEq, Inhabited
def AhJ (x:Pl):D:= .agg [.sl (x.To.map Le), .sl (x.Keep.map D.bool)]
def Axy (x:Pl):Prop:=(qL (Sw .i64)) x.To/\(qL Ayw) x.Keep
def AhP (d:D):Pl:=⟨(uL uI) (cel d 0), (uL uBo) (cel d 1)⟩
@[simp] theorem Ayr (x:Pl):AhP (AhJ x)=x:=by simp[AhP, AhJ, cel, Qb (u:=uI) (en:=Le) (λ_=>rfl), Qb (u:=uBo) (en:=D.bool) (λ_=>rfl)]
structure PG where
  Args:Int
  Size:Int
  Off:(List Int)
 deriving DecidableEq, Inhabited
def Su (x:PG):D:= .agg [.int .i64 x.Args, .int .i64 x.Size, .sl (x.Off.map Le)]
def Axx (x:PG):Prop:=(Sw .i64) x.Args/\(Sw .i64) x.Size/\(qL (Sw .i64)) x.Off
def Akv (d:D):PG:=⟨uI (cel d 0), uI (cel d 1), (uL uI) (cel d 2)⟩
@[simp] theorem Ayq (x:PG):Akv (Su x)=x:=by simp[Akv, Su, cel, uI, Qb (u:=uI) (en:=Le) (λ_=>rfl)]
structure Px where
  Live:Pg
  Rename:Pl
  LiveAfter:Pg
  Layout:PG
 deriving DecidableEq, Inhabited
def Rp (x:Px):D:= .agg [.sl (x.Live.Out.map (eL Le)), .sl (x.Rename.To.map Le), .sl (x.Rename.Keep.map D.bool), .sl (x.LiveAfter.Out.map (eL Le)), .int .i64 x.Layout.Args, .int .i64 x.Layout.Size, .sl (x.Layout.Off.map Le)]
def AuV (x:Px):Prop:=Awu x.Live/\Axy x.Rename/\Awu x.LiveAfter/\Axx x.Layout
def Ajo (d:D):Px:=⟨⟨(uL (uL uI)) (cel d 0)⟩, ⟨(uL uI) (cel d 1), (uL uBo) (cel d 2)⟩, ⟨(uL (uL uI)) (cel d 3)⟩, ⟨uI (cel d 4), uI (cel d 5), (uL uI) (cel d 6)⟩⟩
@[simp] theorem Ayf (x:Px):Ajo (Rp x)=x:=by simp[Ajo, Rp, cel, uI, Qb (u:=(uL uI)) (en:=(eL Le)) (Qb (u:=uI) (en:=Le) (λ_=>rfl)), Qb (u:=uI) (en:=Le) (λ_=>rfl), Qb (u:=uBo) (en:=D.bool) (λ_=>rfl)]
structure Pk where
  Funcs:(List Mk)
 deriving DecidableEq, Inhabited
def XR (x:Pk):D:= .agg [.sl (x.Funcs.map Pf)]
def Awa (x:Pk):Prop:=(qL Awt) x.Funcs
def Agi (d:D):Pk:=⟨(uL Td) (cel d 0)⟩
@[simp] theorem Ayo (x:Pk):Agi (XR x)=x:=by simp[Agi, XR, cel, Qb (u:=Td) (en:=Pf) Anh]
structure PE where
  p:Pk
  i:Int
  f:Mk
  x:Px
 deriving DecidableEq, Inhabited
def Ti (x:PE):D:= .agg [.sl (x.p.Funcs.map Pf), .int .i64 x.i, .int .i64 x.f.Params, .sl (x.f.Slots.map Pm), .sl (x.f.Code.map Ph), .sl (x.x.Live.Out.map (eL Le)), .sl (x.x.Rename.To.map Le), .sl (x.x.Rename.Keep.map D.bool), .sl (x.x.LiveAfter.Out.map (eL Le)), .int .i64 x.x.Layout.Args, .int .i64 x.x.Layout.Size, .sl (x.x.Layout.Off.map Le)]
def Axz (x:PE):Prop:=Awa x.p/\(Sw .i64) x.i/\Awt x.f/\AuV x.x
def Agj (d:D):PE:=⟨⟨(uL Td) (cel d 0)⟩, uI (cel d 1), ⟨uI (cel d 2), (uL Uy) (cel d 3), (uL Afh) (cel d 4)⟩, ⟨⟨(uL (uL uI)) (cel d 5)⟩, ⟨(uL uI) (cel d 6), (uL uBo) (cel d 7)⟩, ⟨(uL (uL uI)) (cel d 8)⟩, ⟨uI (cel d 9), uI (cel d 10), (uL uI) (cel d 11)⟩⟩⟩
@[simp] theorem Awm (x:PE):Agj (Ti x)=x:=by simp[Agj, Ti, cel, uI, Qb (u:=Td) (en:=Pf) Anh, Qb (u:=Uy) (en:=Pm) Aei, Qb (u:=Afh) (en:=Ph) Ast, Qb (u:=(uL uI)) (en:=(eL Le)) (Qb (u:=uI) (en:=Le) (λ_=>rfl)), Qb (u:=uI) (en:=Le) (λ_=>rfl), Qb (u:=uBo) (en:=D.bool) (λ_=>rfl)]
structure OT where
  a0:Int
  a1:Int
  a2:Int
  a3:Int
  a4:Int
  a5:Int
  a6:Int
  a7:Int
 deriving DecidableEq, Inhabited
def OT.toList (x:OT):List Int:=[x.a0, x.a1, x.a2, x.a3, x.a4, x.a5, x.a6, x.a7]
def OT.set (x:OT) (j:Nat) (v:Int):OT:=⟨(x.toList.set j v).getD 0 x.a0, (x.toList.set j v).getD 1 x.a1, (x.toList.set j v).getD 2 x.a2, (x.toList.set j v).getD 3 x.a3, (x.toList.set j v).getD 4 x.a4, (x.toList.set j v).getD 5 x.a5, (x.toList.set j v).getD 6 x.a6, (x.toList.set j v).getD 7 x.a7⟩
theorem Ss (x:OT) (j:Nat) (v:Int):(x.set j v).toList=x.toList.set j v:=by
  match j with
  | 0=>rfl
  | 1=>rfl
  | 2=>rfl
  | 3=>rfl
  | 4=>rfl
  | 5=>rfl
  | 6=>rfl
  | 7=>rfl
  | _+8=>rfl
def Ps (x:OT):D:= .agg [.int .u64 x.a0, .int .u64 x.a1, .int .u64 x.a2, .int .u64 x.a3, .int .u64 x.a4, .int .u64 x.a5, .int .u64 x.a6, .int .u64 x.a7]
def Awb (x:OT):Prop:=(Sw .u64) x.a0/\(Sw .u64) x.a1/\(Sw .u64) x.a2/\(Sw .u64) x.a3/\(Sw .u64) x.a4/\(Sw .u64) x.a5/\(Sw .u64) x.a6/\(Sw .u64) x.a7
def RD (d:D):OT:=⟨uI (cel d 0), uI (cel d 1), uI (cel d 2), uI (cel d 3), uI (cel d 4), uI (cel d 5), uI (cel d 6), uI (cel d 7)⟩
@[simp] theorem Avs (x:OT):RD (Ps x)=x:=by simp[RD, Ps, cel, uI]
structure Po where
  a0:Int
  a1:Int
 deriving DecidableEq, Inhabited
def PF (x:Po):D:= .agg [.int .i64 x.a0, .int .i64 x.a1]
def Ayy (x:Po):Prop:=(Sw .i64) x.a0/\(Sw .i64) x.a1
def Aku (d:D):Po:=⟨uI (cel d 0), uI (cel d 1)⟩
@[simp] theorem Avr (x:Po):Aku (PF x)=x:=by simp[Aku, PF, cel, uI]
structure OU where
  Off:Int
  Size:Int
 deriving DecidableEq, Inhabited
def Pv (x:OU):D:= .agg [.int .i64 x.Off, .int .i64 x.Size]
def Ayp (x:OU):Prop:=(Sw .i64) x.Off/\(Sw .i64) x.Size
def SQ (d:D):OU:=⟨uI (cel d 0), uI (cel d 1)⟩
@[simp] theorem AcK (x:OU):SQ (Pv x)=x:=by simp[SQ, Pv, cel, uI]
structure OV where
  list:(List Int)
  at_:Int
 deriving DecidableEq, Inhabited
def QC (x:OV):D:= .agg [.sl (x.list.map eU8), .int .i64 x.at_]
def Aye (x:OV):Prop:=(qL (Sw .u8)) x.list/\(Sw .i64) x.at_
def VA (d:D):OV:=⟨(uL uI) (cel d 0), uI (cel d 1)⟩
@[simp] theorem AxM (x:OV):VA (QC x)=x:=by simp[VA, QC, cel, uI, Qb (u:=uI) (en:=eU8) (λ_=>rfl)]
instance:TyE 5 eU8:=⟨⟩
instance:TyE 36 Pf:=⟨⟩
instance:TyE 60 Pm:=⟨⟩
instance:TyE 63 Ph:=⟨⟩
instance:TyE 41 (eL Le):=⟨⟩
instance:TyE 3 Le:=⟨⟩
instance:TyE 4 D.bool:=⟨⟩
instance:TyE 48 Rp:=⟨⟩
instance:TyE 127 PF:=⟨⟩
instance:TyE 121 Pv:=⟨⟩
instance:TyE 42 (eL D.bool):=⟨⟩
end Go.Proofs.YtilmapojncgflaaGreatDoor
