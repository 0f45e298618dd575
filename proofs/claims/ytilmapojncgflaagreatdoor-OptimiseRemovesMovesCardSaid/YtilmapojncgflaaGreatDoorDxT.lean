/-
  The types of the data; written by a program (dx.py).
-/
import Derived.Test.YtilmapojncgflaaGreatDoorProg
import Derived.Test.YtilmapojncgflaaGreatDoorDd
import Derived.KernelRfl
namespace Go.Proofs.YtilmapojncgflaaGreatDoor
open Go Go.Dw Go.Proofs
set_option maxRecDepth 100000
set_option maxHeartbeats 40000000
abbrev eI8 (n:Int):D:= .int .i8 n
abbrev AuK (n:Int):D:= .int .i16 n
abbrev AuL (n:Int):D:= .int .i32 n
abbrev Le (n:Int):D:= .int .i64 n
abbrev eU8 (n:Int):D:= .int .u8 n
abbrev AuM (n:Int):D:= .int .u16 n
abbrev AuN (n:Int):D:= .int .u32 n
abbrev ZU (n:Int):D:= .int .u64 n
structure OX where
  Op:Int
  A:Int
  B:Int
  C:Int
  Imm:Int
 deriving DecidableEq, Inhabited
def Pu (x:OX):D:= .agg [.int .i64 x.Op, .int .i64 x.A, .int .i64 x.B, .int .i64 x.C, .int .u64 x.Imm]
def Aud (x:OX):Prop:=(RR .i64) x.Op/\(RR .i64) x.A/\(RR .i64) x.B/\(RR .i64) x.C/\(RR .u64) x.Imm
def AcH (d:D):OX:=⟨uI (cel d 0), uI (cel d 1), uI (cel d 2), uI (cel d 3), uI (cel d 4)⟩
@[simp] theorem Aoz (x:OX):AcH (Pu x)=x:=by simp[AcH, Pu, cel, uI]
structure Pa where
  Size:Int
  Align:Int
 deriving DecidableEq, Inhabited
def Pt (x:Pa):D:= .agg [.int .i64 x.Size, .int .i64 x.Align]
def Auq (x:Pa):Prop:=(RR .i64) x.Size/\(RR .i64) x.Align
def UJ (d:D):Pa:=⟨uI (cel d 0), uI (cel d 1)⟩
@[simp] theorem AbI (x:Pa):UJ (Pt x)=x:=by simp[UJ, Pt, cel, uI]
structure Lo where
  Params:Int
  Slots:(List Pa)
  Code:(List OX)
 deriving DecidableEq, Inhabited
def Pl (x:Lo):D:= .agg [.int .i64 x.Params, .sl (x.Slots.map Pt), .sl (x.Code.map Pu)]
def AsF (x:Lo):Prop:=(RR .i64) x.Params/\(qL Auq) x.Slots/\(qL Aud) x.Code
def TT (d:D):Lo:=⟨uI (cel d 0), (uL UJ) (cel d 1), (uL AcH) (cel d 2)⟩
@[simp] theorem AjK (x:Lo):TT (Pl x)=x:=by simp[TT, Pl, cel, uI, Qo (u:=UJ) (en:=Pt) AbI, Qo (u:=AcH) (en:=Pu) Aoz]
structure Ph where
  Out:(List (List Int))
 deriving DecidableEq, Inhabited
def WE (x:Ph):D:= .agg [.sl (x.Out.map (eL Le))]
def AsG (x:Ph):Prop:=(qL (qL (RR .i64))) x.Out
def AcI (d:D):Ph:=⟨(uL (uL uI)) (cel d 0)⟩
@[simp] theorem AuE (x:Ph):AcI (WE x)=x:=by simp[AcI, WE, cel, Qo (u:=(uL uI)) (en:=(eL Le)) (Qo (u:=uI) (en:=Le) (λ_=>rfl))]
structure Pj where
  To:(List Int)
  Keep:(List Bool)
 deriving DecidableEq, Inhabited
def AeU (x:Pj):D:= .agg [.sl (x.To.map Le), .sl (x.Keep.map D.bool)]
def AtE (x:Pj):Prop:=(qL (RR .i64)) x.To/\(qL AuC) x.Keep
def Afc (d:D):Pj:=⟨(uL uI) (cel d 0), (uL uBo) (cel d 1)⟩
@[simp] theorem Auu (x:Pj):Afc (AeU x)=x:=by simp[Afc, AeU, cel, Qo (u:=uI) (en:=Le) (λ_=>rfl), Qo (u:=uBo) (en:=D.bool) (λ_=>rfl)]
structure Qe where
  Args:Int
  Size:Int
  Off:(List Int)
 deriving DecidableEq, Inhabited
def Aby (x:Qe):D:= .agg [.int .i64 x.Args, .int .i64 x.Size, .sl (x.Off.map Le)]
def AtD (x:Qe):Prop:=(RR .i64) x.Args/\(RR .i64) x.Size/\(qL (RR .i64)) x.Off
def Amj (d:D):Qe:=⟨uI (cel d 0), uI (cel d 1), (uL uI) (cel d 2)⟩
@[simp] theorem Aut (x:Qe):Amj (Aby x)=x:=by simp[Amj, Aby, cel, uI, Qo (u:=uI) (en:=Le) (λ_=>rfl)]
structure Rl where
  Live:Ph
  Rename:Pj
  LiveAfter:Ph
  Layout:Qe
 deriving DecidableEq, Inhabited
def AfO (x:Rl):D:= .agg [.sl (x.Live.Out.map (eL Le)), .sl (x.Rename.To.map Le), .sl (x.Rename.Keep.map D.bool), .sl (x.LiveAfter.Out.map (eL Le)), .int .i64 x.Layout.Args, .int .i64 x.Layout.Size, .sl (x.Layout.Off.map Le)]
def Arc (x:Rl):Prop:=AsG x.Live/\AtE x.Rename/\AsG x.LiveAfter/\AtD x.Layout
def AmF (d:D):Rl:=⟨⟨(uL (uL uI)) (cel d 0)⟩, ⟨(uL uI) (cel d 1), (uL uBo) (cel d 2)⟩, ⟨(uL (uL uI)) (cel d 3)⟩, ⟨uI (cel d 4), uI (cel d 5), (uL uI) (cel d 6)⟩⟩
@[simp] theorem Auh (x:Rl):AmF (AfO x)=x:=by simp[AmF, AfO, cel, uI, Qo (u:=(uL uI)) (en:=(eL Le)) (Qo (u:=uI) (en:=Le) (λ_=>rfl)), Qo (u:=uI) (en:=Le) (λ_=>rfl), Qo (u:=uBo) (en:=D.bool) (λ_=>rfl)]
structure Pr where
  Funcs:(List Lo)
 deriving DecidableEq, Inhabited
def YQ (x:Pr):D:= .agg [.sl (x.Funcs.map Pl)]
def Aso (x:Pr):Prop:=(qL AsF) x.Funcs
def AdB (d:D):Pr:=⟨(uL TT) (cel d 0)⟩
@[simp] theorem Aur (x:Pr):AdB (YQ x)=x:=by simp[AdB, YQ, cel, Qo (u:=TT) (en:=Pl) AjK]
structure PC where
  p:Pr
  i:Int
  f:Lo
  x:Rl
 deriving DecidableEq, Inhabited
def SR (x:PC):D:= .agg [.sl (x.p.Funcs.map Pl), .int .i64 x.i, .int .i64 x.f.Params, .sl (x.f.Slots.map Pt), .sl (x.f.Code.map Pu), .sl (x.x.Live.Out.map (eL Le)), .sl (x.x.Rename.To.map Le), .sl (x.x.Rename.Keep.map D.bool), .sl (x.x.LiveAfter.Out.map (eL Le)), .int .i64 x.x.Layout.Args, .int .i64 x.x.Layout.Size, .sl (x.x.Layout.Off.map Le)]
def AtF (x:PC):Prop:=Aso x.p/\(RR .i64) x.i/\AsF x.f/\Arc x.x
def AdC (d:D):PC:=⟨⟨(uL TT) (cel d 0)⟩, uI (cel d 1), ⟨uI (cel d 2), (uL UJ) (cel d 3), (uL AcH) (cel d 4)⟩, ⟨⟨(uL (uL uI)) (cel d 5)⟩, ⟨(uL uI) (cel d 6), (uL uBo) (cel d 7)⟩, ⟨(uL (uL uI)) (cel d 8)⟩, ⟨uI (cel d 9), uI (cel d 10), (uL uI) (cel d 11)⟩⟩⟩
@[simp] theorem Asz (x:PC):AdC (SR x)=x:=by simp[AdC, SR, cel, uI, Qo (u:=TT) (en:=Pl) AjK, Qo (u:=UJ) (en:=Pt) AbI, Qo (u:=AcH) (en:=Pu) Aoz, Qo (u:=(uL uI)) (en:=(eL Le)) (Qo (u:=uI) (en:=Le) (λ_=>rfl)), Qo (u:=uI) (en:=Le) (λ_=>rfl), Qo (u:=uBo) (en:=D.bool) (λ_=>rfl)]
structure OW where
  a0:Int
  a1:Int
  a2:Int
  a3:Int
  a4:Int
  a5:Int
  a6:Int
  a7:Int
 deriving DecidableEq, Inhabited
def OW.toList (x:OW):List Int:=[x.a0, x.a1, x.a2, x.a3, x.a4, x.a5, x.a6, x.a7]
def OW.set (x:OW) (j:Nat) (v:Int):OW:=⟨(x.toList.set j v).getD 0 x.a0, (x.toList.set j v).getD 1 x.a1, (x.toList.set j v).getD 2 x.a2, (x.toList.set j v).getD 3 x.a3, (x.toList.set j v).getD 4 x.a4, (x.toList.set j v).getD 5 x.a5, (x.toList.set j v).getD 6 x.a6, (x.toList.set j v).getD 7 x.a7⟩
theorem Sh (x:OW) (j:Nat) (v:Int):(x.set j v).toList=x.toList.set j v:=by
  match j with
  | 0=>rfl
  | 1=>rfl
  | 2=>rfl
  | 3=>rfl
  | 4=>rfl
  | 5=>rfl
  | 6=>rfl
  | 7=>rfl
  | _+8=>rfl
def Pq (x:OW):D:= .agg [.int .u64 x.a0, .int .u64 x.a1, .int .u64 x.a2, .int .u64 x.a3, .int .u64 x.a4, .int .u64 x.a5, .int .u64 x.a6, .int .u64 x.a7]
def Asp (x:OW):Prop:=(RR .u64) x.a0/\(RR .u64) x.a1/\(RR .u64) x.a2/\(RR .u64) x.a3/\(RR .u64) x.a4/\(RR .u64) x.a5/\(RR .u64) x.a6/\(RR .u64) x.a7
def Rx (d:D):OW:=⟨uI (cel d 0), uI (cel d 1), uI (cel d 2), uI (cel d 3), uI (cel d 4), uI (cel d 5), uI (cel d 6), uI (cel d 7)⟩
@[simp] theorem ArC (x:OW):Rx (Pq x)=x:=by simp[Rx, Pq, cel, uI]
structure Pn where
  a0:Int
  a1:Int
 deriving DecidableEq, Inhabited
def PN (x:Pn):D:= .agg [.int .i64 x.a0, .int .i64 x.a1]
def AuD (x:Pn):Prop:=(RR .i64) x.a0/\(RR .i64) x.a1
def Ahq (d:D):Pn:=⟨uI (cel d 0), uI (cel d 1)⟩
@[simp] theorem ArB (x:Pn):Ahq (PN x)=x:=by simp[Ahq, PN, cel, uI]
structure OY where
  Off:Int
  Size:Int
 deriving DecidableEq, Inhabited
def PH (x:OY):D:= .agg [.int .i64 x.Off, .int .i64 x.Size]
def Aus (x:OY):Prop:=(RR .i64) x.Off/\(RR .i64) x.Size
def Uf (d:D):OY:=⟨uI (cel d 0), uI (cel d 1)⟩
@[simp] theorem AdM (x:OY):Uf (PH x)=x:=by simp[Uf, PH, cel, uI]
instance:TyE 5 eU8:=⟨⟩
instance:TyE 36 Pl:=⟨⟩
instance:TyE 60 Pt:=⟨⟩
instance:TyE 63 Pu:=⟨⟩
instance:TyE 41 (eL Le):=⟨⟩
instance:TyE 3 Le:=⟨⟩
instance:TyE 4 D.bool:=⟨⟩
instance:TyE 48 AfO:=⟨⟩
instance:TyE 127 PN:=⟨⟩
instance:TyE 121 PH:=⟨⟩
instance:TyE 42 (eL D.bool):=⟨⟩
end Go.Proofs.YtilmapojncgflaaGreatDoor
