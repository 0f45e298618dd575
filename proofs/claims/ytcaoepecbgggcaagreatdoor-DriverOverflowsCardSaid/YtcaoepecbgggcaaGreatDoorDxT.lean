/-
  The types of the data; written by a program (dx.py).
-/
import Derived.Test.YtcaoepecbgggcaaGreatDoorProg
import Derived.Test.YtcaoepecbgggcaaGreatDoorDc
import Derived.KernelRfl
namespace Go.Proofs.YtcaoepecbgggcaaGreatDoor
open Go Go.Dw Go.Proofs
set_option maxRecDepth 100000
set_option maxHeartbeats 40000000
abbrev eI8 (n:Int):D:= .int .i8 n
abbrev Ayn (n:Int):D:= .int .i16 n
abbrev Ayo (n:Int):D:= .int .i32 n
abbrev Mk (n:Int):D:= .int .i64 n
abbrev eU8 (n:Int):D:= .int .u8 n
abbrev Ayp (n:Int):D:= .int .u16 n
abbrev Ayq (n:Int):D:= .int .u32 n
abbrev YU (n:Int):D:= .int .u64 n
structure NH where
  Op:Int
  A:Int
  B:Int
  C:Int
  Imm:Int
 deriving DecidableEq, Inhabited
def Ob (x:NH):D:= .agg [.int .i64 x.Op, .int .i64 x.A, .int .i64 x.B, .int .i64 x.C, .int .u64 x.Imm]
def AtS (x:NH):Prop:=(PG .i64) x.Op/\(PG .i64) x.A/\(PG .i64) x.B/\(PG .i64) x.C/\(PG .u64) x.Imm
def SE (d:D):NH:=⟨uI (cel d 0), uI (cel d 1), uI (cel d 2), uI (cel d 3), uI (cel d 4)⟩
@[simp] theorem Abe (x:NH):SE (Ob x)=x:=by simp[SE, Ob, cel, uI]
structure NS where
  Size:Int
  Align:Int
 deriving DecidableEq, Inhabited
def OR (x:NS):D:= .agg [.int .i64 x.Size, .int .i64 x.Align]
def AxF (x:NS):Prop:=(PG .i64) x.Size/\(PG .i64) x.Align
def Wx (d:D):NS:=⟨uI (cel d 0), uI (cel d 1)⟩
@[simp] theorem AeN (x:NS):Wx (OR x)=x:=by simp[Wx, OR, cel, uI]
structure Lo where
  Params:Int
  Slots:(List NS)
  Code:(List NH)
 deriving DecidableEq, Inhabited
def NQ (x:Lo):D:= .agg [.int .i64 x.Params, .sl (x.Slots.map OR), .sl (x.Code.map Ob)]
def AvP (x:Lo):Prop:=(PG .i64) x.Params/\(qL AxF) x.Slots/\(qL AtS) x.Code
def RX (d:D):Lo:=⟨uI (cel d 0), (uL Wx) (cel d 1), (uL SE) (cel d 2)⟩
@[simp] theorem Akf (x:Lo):RX (NQ x)=x:=by simp[RX, NQ, cel, uI, OG (u:=Wx) (en:=OR) AeN, OG (u:=SE) (en:=Ob) Abe]
structure OE where
  Params:Int
  Size:Int
  Code:(List NH)
 deriving DecidableEq, Inhabited
def ON (x:OE):D:= .agg [.int .i64 x.Params, .int .i64 x.Size, .sl (x.Code.map Ob)]
def AtQ (x:OE):Prop:=(PG .i64) x.Params/\(PG .i64) x.Size/\(qL AtS) x.Code
def AfB (d:D):OE:=⟨uI (cel d 0), uI (cel d 1), (uL SE) (cel d 2)⟩
@[simp] theorem AqO (x:OE):AfB (ON x)=x:=by simp[AfB, ON, cel, uI, OG (u:=SE) (en:=Ob) Abe]
structure OU where
  Align:Int
  Frames:(List OE)
 deriving DecidableEq, Inhabited
def AcD (x:OU):D:= .agg [.int .i64 x.Align, .sl (x.Frames.map ON)]
def Awr (x:OU):Prop:=(PG .i64) x.Align/\(qL AtQ) x.Frames
def Adj (d:D):OU:=⟨uI (cel d 0), (uL AfB) (cel d 1)⟩
@[simp] theorem AxQ (x:OU):Adj (AcD x)=x:=by simp[Adj, AcD, cel, uI, OG (u:=AfB) (en:=ON) AqO]
structure PT where
  Target:OU
  Bound:Int
  Bounds:(List Int)
  Choices:(List Int)
 deriving DecidableEq, Inhabited
def Ajp (x:PT):D:= .agg [.int .i64 x.Target.Align, .sl (x.Target.Frames.map ON), .int .i64 x.Bound, .sl (x.Bounds.map Mk), .sl (x.Choices.map Mk)]
def Ayi (x:PT):Prop:=Awr x.Target/\(PG .i64) x.Bound/\(qL (PG .i64)) x.Bounds/\(qL (PG .i64)) x.Choices
def Auo (d:D):PT:=⟨⟨uI (cel d 0), (uL AfB) (cel d 1)⟩, uI (cel d 2), (uL uI) (cel d 3), (uL uI) (cel d 4)⟩
@[simp] theorem Aya (x:PT):Auo (Ajp x)=x:=by simp[Auo, Ajp, cel, uI, OG (u:=AfB) (en:=ON) AqO, OG (u:=uI) (en:=Mk) (λ_=>rfl)]
structure NM where
  Funcs:(List Lo)
 deriving DecidableEq, Inhabited
def Rk (x:NM):D:= .agg [.sl (x.Funcs.map NQ)]
def Avo (x:NM):Prop:=(qL AvP) x.Funcs
def Th (d:D):NM:=⟨(uL RX) (cel d 0)⟩
@[simp] theorem AxH (x:NM):Th (Rk x)=x:=by simp[Th, Rk, cel, OG (u:=RX) (en:=NQ) Akf]
structure Oa where
  Out:(List (List Int))
 deriving DecidableEq, Inhabited
def SQ (x:Oa):D:= .agg [.sl (x.Out.map (eL Mk))]
def AvQ (x:Oa):Prop:=(qL (qL (PG .i64))) x.Out
def VC (d:D):Oa:=⟨(uL (uL uI)) (cel d 0)⟩
@[simp] theorem Ayf (x:Oa):VC (SQ x)=x:=by simp[VC, SQ, cel, OG (u:=(uL uI)) (en:=(eL Mk)) (OG (u:=uI) (en:=Mk) (λ_=>rfl))]
structure NU where
  To:(List Int)
  Keep:(List Bool)
 deriving DecidableEq, Inhabited
def Abi (x:NU):D:= .agg [.sl (x.To.map Mk), .sl (x.Keep.map D.bool)]
def Awq (x:NU):Prop:=(qL (PG .i64)) x.To/\(qL Aqb) x.Keep
def Abp (d:D):NU:=⟨(uL uI) (cel d 0), (uL uBo) (cel d 1)⟩
@[simp] theorem AxP (x:NU):Abp (Abi x)=x:=by simp[Abp, Abi, cel, OG (u:=uI) (en:=Mk) (λ_=>rfl), OG (u:=uBo) (en:=D.bool) (λ_=>rfl)]
structure NV where
  Args:Int
  Size:Int
  Off:(List Int)
 deriving DecidableEq, Inhabited
def QH (x:NV):D:= .agg [.int .i64 x.Args, .int .i64 x.Size, .sl (x.Off.map Mk)]
def ArP (x:NV):Prop:=(PG .i64) x.Args/\(PG .i64) x.Size/\(qL (PG .i64)) x.Off
def AeM (d:D):NV:=⟨uI (cel d 0), uI (cel d 1), (uL uI) (cel d 2)⟩
@[simp] theorem AxO (x:NV):AeM (QH x)=x:=by simp[AeM, QH, cel, uI, OG (u:=uI) (en:=Mk) (λ_=>rfl)]
structure Og where
  Live:Oa
  Rename:NU
  LiveAfter:Oa
  Layout:NV
 deriving DecidableEq, Inhabited
def Ow (x:Og):D:= .agg [.sl (x.Live.Out.map (eL Mk)), .sl (x.Rename.To.map Mk), .sl (x.Rename.Keep.map D.bool), .sl (x.LiveAfter.Out.map (eL Mk)), .int .i64 x.Layout.Args, .int .i64 x.Layout.Size, .sl (x.Layout.Off.map Mk)]
def AxK (x:Og):Prop:=AvQ x.Live/\Awq x.Rename/\AvQ x.LiveAfter/\ArP x.Layout
def AdT (d:D):Og:=⟨⟨(uL (uL uI)) (cel d 0)⟩, ⟨(uL uI) (cel d 1), (uL uBo) (cel d 2)⟩, ⟨(uL (uL uI)) (cel d 3)⟩, ⟨uI (cel d 4), uI (cel d 5), (uL uI) (cel d 6)⟩⟩
@[simp] theorem Arx (x:Og):AdT (Ow x)=x:=by simp[AdT, Ow, cel, uI, OG (u:=(uL uI)) (en:=(eL Mk)) (OG (u:=uI) (en:=Mk) (λ_=>rfl)), OG (u:=uI) (en:=Mk) (λ_=>rfl), OG (u:=uBo) (en:=D.bool) (λ_=>rfl)]
structure SN where
  a:Int
  b:Int
  c:Int
  imm:Bool
 deriving DecidableEq, Inhabited
def Aam (x:SN):D:= .agg [.int .i64 x.a, .int .i64 x.b, .int .i64 x.c, .bool x.imm]
def Axx (x:SN):Prop:=(PG .i64) x.a/\(PG .i64) x.b/\(PG .i64) x.c/\Aqb x.imm
def AkI (d:D):SN:=⟨uI (cel d 0), uI (cel d 1), uI (cel d 2), uBo (cel d 3)⟩
@[simp] theorem AwK (x:SN):AkI (Aam x)=x:=by simp[AkI, Aam, cel, uI, uBo]
structure QE where
  a0:Int
  a1:Int
  a2:Int
 deriving DecidableEq, Inhabited
def QE.toList (x:QE):List Int:=[x.a0, x.a1, x.a2]
def QE.set (x:QE) (j:Nat) (v:Int):QE:=⟨(x.toList.set j v).getD 0 x.a0, (x.toList.set j v).getD 1 x.a1, (x.toList.set j v).getD 2 x.a2⟩
theorem Axv (x:QE) (j:Nat) (v:Int):(x.set j v).toList=x.toList.set j v:=by
  match j with
  | 0=>rfl
  | 1=>rfl
  | 2=>rfl
  | _+3=>rfl
def ArD (x:QE):D:= .agg [.int .i64 x.a0, .int .i64 x.a1, .int .i64 x.a2]
def Ayd (x:QE):Prop:=(PG .i64) x.a0/\(PG .i64) x.a1/\(PG .i64) x.a2
def ArU (d:D):QE:=⟨uI (cel d 0), uI (cel d 1), uI (cel d 2)⟩
@[simp] theorem AxM (x:QE):ArU (ArD x)=x:=by simp[ArU, ArD, cel, uI]
structure RE where
  a0:Int
  a1:Int
  a2:Int
  a3:Int
  a4:Int
  a5:Int
  a6:Int
 deriving DecidableEq, Inhabited
def RE.toList (x:RE):List Int:=[x.a0, x.a1, x.a2, x.a3, x.a4, x.a5, x.a6]
def RE.set (x:RE) (j:Nat) (v:Int):RE:=⟨(x.toList.set j v).getD 0 x.a0, (x.toList.set j v).getD 1 x.a1, (x.toList.set j v).getD 2 x.a2, (x.toList.set j v).getD 3 x.a3, (x.toList.set j v).getD 4 x.a4, (x.toList.set j v).getD 5 x.a5, (x.toList.set j v).getD 6 x.a6⟩
theorem Axw (x:RE) (j:Nat) (v:Int):(x.set j v).toList=x.toList.set j v:=by
  match j with
  | 0=>rfl
  | 1=>rfl
  | 2=>rfl
  | 3=>rfl
  | 4=>rfl
  | 5=>rfl
  | 6=>rfl
  | _+7=>rfl
def AjX (x:RE):D:= .agg [.int .i64 x.a0, .int .i64 x.a1, .int .i64 x.a2, .int .i64 x.a3, .int .i64 x.a4, .int .i64 x.a5, .int .i64 x.a6]
def Aye (x:RE):Prop:=(PG .i64) x.a0/\(PG .i64) x.a1/\(PG .i64) x.a2/\(PG .i64) x.a3/\(PG .i64) x.a4/\(PG .i64) x.a5/\(PG .i64) x.a6
def ArV (d:D):RE:=⟨uI (cel d 0), uI (cel d 1), uI (cel d 2), uI (cel d 3), uI (cel d 4), uI (cel d 5), uI (cel d 6)⟩
@[simp] theorem AxN (x:RE):ArV (AjX x)=x:=by simp[ArV, AjX, cel, uI]
structure NI where
  a0:Int
  a1:Int
  a2:Int
  a3:Int
  a4:Int
  a5:Int
  a6:Int
  a7:Int
 deriving DecidableEq, Inhabited
def NI.toList (x:NI):List Int:=[x.a0, x.a1, x.a2, x.a3, x.a4, x.a5, x.a6, x.a7]
def NI.set (x:NI) (j:Nat) (v:Int):NI:=⟨(x.toList.set j v).getD 0 x.a0, (x.toList.set j v).getD 1 x.a1, (x.toList.set j v).getD 2 x.a2, (x.toList.set j v).getD 3 x.a3, (x.toList.set j v).getD 4 x.a4, (x.toList.set j v).getD 5 x.a5, (x.toList.set j v).getD 6 x.a6, (x.toList.set j v).getD 7 x.a7⟩
theorem RF (x:NI) (j:Nat) (v:Int):(x.set j v).toList=x.toList.set j v:=by
  match j with
  | 0=>rfl
  | 1=>rfl
  | 2=>rfl
  | 3=>rfl
  | 4=>rfl
  | 5=>rfl
  | 6=>rfl
  | 7=>rfl
  | _+8=>rfl
def NY (x:NI):D:= .agg [.int .u64 x.a0, .int .u64 x.a1, .int .u64 x.a2, .int .u64 x.a3, .int .u64 x.a4, .int .u64 x.a5, .int .u64 x.a6, .int .u64 x.a7]
def Avp (x:NI):Prop:=(PG .u64) x.a0/\(PG .u64) x.a1/\(PG .u64) x.a2/\(PG .u64) x.a3/\(PG .u64) x.a4/\(PG .u64) x.a5/\(PG .u64) x.a6/\(PG .u64) x.a7
def PM (d:D):NI:=⟨uI (cel d 0), uI (cel d 1), uI (cel d 2), uI (cel d 3), uI (cel d 4), uI (cel d 5), uI (cel d 6), uI (cel d 7)⟩
@[simp] theorem Aup (x:NI):PM (NY x)=x:=by simp[PM, NY, cel, uI]
structure Oi where
  g:(List (List Int))
  w:(List Int)
  known:(List Bool)
  of:(List Int)
 deriving DecidableEq, Inhabited
def Aiu (x:Oi):D:= .agg [.sl (x.g.map (eL Mk)), .sl (x.w.map Mk), .sl (x.known.map D.bool), .sl (x.of.map Mk)]
def AwJ (x:Oi):Prop:=(qL (qL (PG .i64))) x.g/\(qL (PG .i64)) x.w/\(qL Aqb) x.known/\(qL (PG .i64)) x.of
def AiG (d:D):Oi:=⟨(uL (uL uI)) (cel d 0), (uL uI) (cel d 1), (uL uBo) (cel d 2), (uL uI) (cel d 3)⟩
@[simp] theorem AvT (x:Oi):AiG (Aiu x)=x:=by simp[AiG, Aiu, cel, OG (u:=(uL uI)) (en:=(eL Mk)) (OG (u:=uI) (en:=Mk) (λ_=>rfl)), OG (u:=uI) (en:=Mk) (λ_=>rfl), OG (u:=uBo) (en:=D.bool) (λ_=>rfl)]
structure Ou where
  p:NM
  i:Int
  align:Int
  f:Lo
  y:NV
 deriving DecidableEq, Inhabited
def Qo (x:Ou):D:= .agg [.sl (x.p.Funcs.map NQ), .int .i64 x.i, .int .i64 x.align, .int .i64 x.f.Params, .sl (x.f.Slots.map OR), .sl (x.f.Code.map Ob), .int .i64 x.y.Args, .int .i64 x.y.Size, .sl (x.y.Off.map Mk)]
def AvR (x:Ou):Prop:=Avo x.p/\(PG .i64) x.i/\(PG .i64) x.align/\AvP x.f/\ArP x.y
def Uq (d:D):Ou:=⟨⟨(uL RX) (cel d 0)⟩, uI (cel d 1), uI (cel d 2), ⟨uI (cel d 3), (uL Wx) (cel d 4), (uL SE) (cel d 5)⟩, ⟨uI (cel d 6), uI (cel d 7), (uL uI) (cel d 8)⟩⟩
@[simp] theorem Aut (x:Ou):Uq (Qo x)=x:=by simp[Uq, Qo, cel, uI, OG (u:=RX) (en:=NQ) Akf, OG (u:=Wx) (en:=OR) AeN, OG (u:=SE) (en:=Ob) Abe, OG (u:=uI) (en:=Mk) (λ_=>rfl)]
structure NT where
  Off:Int
  Size:Int
 deriving DecidableEq, Inhabited
def PN (x:NT):D:= .agg [.int .i64 x.Off, .int .i64 x.Size]
def AxJ (x:NT):Prop:=(PG .i64) x.Off/\(PG .i64) x.Size
def Ug (d:D):NT:=⟨uI (cel d 0), uI (cel d 1)⟩
@[simp] theorem AkH (x:NT):Ug (PN x)=x:=by simp[Ug, PN, cel, uI]
structure Ox where
  Frame:OE
  align:Int
  frames:Int
 deriving DecidableEq, Inhabited
def Qf (x:Ox):D:= .agg [.int .i64 x.Frame.Params, .int .i64 x.Frame.Size, .sl (x.Frame.Code.map Ob), .int .i64 x.align, .int .i64 x.frames]
def Axy (x:Ox):Prop:=AtQ x.Frame/\(PG .i64) x.align/\(PG .i64) x.frames
def Yu (d:D):Ox:=⟨⟨uI (cel d 0), uI (cel d 1), (uL SE) (cel d 2)⟩, uI (cel d 3), uI (cel d 4)⟩
@[simp] theorem AwL (x:Ox):Yu (Qf x)=x:=by simp[Yu, Qf, cel, uI, OG (u:=SE) (en:=Ob) Abe]
structure PC where
  a0:Int
  a1:Int
 deriving DecidableEq, Inhabited
def Uk (x:PC):D:= .agg [.int .i64 x.a0, .int .i64 x.a1]
def Ayc (x:PC):Prop:=(PG .i64) x.a0/\(PG .i64) x.a1
def ArT (d:D):PC:=⟨uI (cel d 0), uI (cel d 1)⟩
@[simp] theorem AxL (x:PC):ArT (Uk x)=x:=by simp[ArT, Uk, cel, uI]
instance:TyE 5 eU8:=⟨⟩
instance:TyE 50 Ow:=⟨⟩
instance:TyE 36 NQ:=⟨⟩
instance:TyE 23 (eL Ow):=⟨⟩
instance:TyE 87 OR:=⟨⟩
instance:TyE 90 Ob:=⟨⟩
instance:TyE 3 Mk:=⟨⟩
instance:TyE 37 (eL Mk):=⟨⟩
instance:TyE 4 D.bool:=⟨⟩
instance:TyE 28 Rk:=⟨⟩
instance:TyE 75 ON:=⟨⟩
instance:TyE 39 QH:=⟨⟩
instance:TyE 190 Uk:=⟨⟩
instance:TyE 186 PN:=⟨⟩
end Go.Proofs.YtcaoepecbgggcaaGreatDoor
