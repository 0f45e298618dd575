/-
  The types of the data; written by a program (dx.py).
-/
import Derived.Test.YtcaoepecbgggcaaGreatDoorProg
import Derived.Test.YtcaoepecbgggcaaGreatDoorDc
namespace Go.Proofs.YtcaoepecbgggcaaGreatDoor
open Go Go.Dw Go.Proofs
set_option maxRecDepth 100000
set_option maxHeartbeats 40000000
abbrev eI8 (n:Int):D:= .int .i8 n
abbrev AzV (n:Int):D:= .int .i16 n
abbrev AzW (n:Int):D:= .int .i32 n
abbrev NF (n:Int):D:= .int .i64 n
abbrev eU8 (n:Int):D:= .int .u8 n
abbrev AzX (n:Int):D:= .int .u16 n
abbrev AzY (n:Int):D:= .int .u32 n
abbrev ZF (n:Int):D:= .int .u64 n
structure Mk where
  Op:Int
  A:Int
  B:Int
  C:Int
  Imm:Int
 deriving DecidableEq, Inhabited
def NY (x:Mk):D:= .agg [.int .i64 x.Op, .int .i64 x.A, .int .i64 x.B, .int .i64 x.C, .int .u64 x.Imm]
def AvA (x:Mk):Prop:=(Pq .i64) x.Op/\(Pq .i64) x.A/\(Pq .i64) x.B/\(Pq .i64) x.C/\(Pq .u64) x.Imm
def SR (d:D):Mk:=⟨uI (cel d 0), uI (cel d 1), uI (cel d 2), uI (cel d 3), uI (cel d 4)⟩
@[simp] theorem AbY (x:Mk):SR (NY x)=x:=by simp[SR, NY, cel, uI]
structure NS where
  Size:Int
  Align:Int
 deriving DecidableEq, Inhabited
def OH (x:NS):D:= .agg [.int .i64 x.Size, .int .i64 x.Align]
def Azn (x:NS):Prop:=(Pq .i64) x.Size/\(Pq .i64) x.Align
def Xb (d:D):NS:=⟨uI (cel d 0), uI (cel d 1)⟩
@[simp] theorem AfO (x:NS):Xb (OH x)=x:=by simp[Xb, OH, cel, uI]
structure Lo where
  Params:Int
  Slots:(List NS)
  Code:(List Mk)
 deriving DecidableEq, Inhabited
def NR (x:Lo):D:= .agg [.int .i64 x.Params, .sl (x.Slots.map OH), .sl (x.Code.map NY)]
def Axt (x:Lo):Prop:=(Pq .i64) x.Params/\(qL Azn) x.Slots/\(qL AvA) x.Code
def RD (d:D):Lo:=⟨uI (cel d 0), (uL Xb) (cel d 1), (uL SR) (cel d 2)⟩
@[simp] theorem Aly (x:Lo):RD (NR x)=x:=by simp[RD, NR, cel, uI, OE (u:=Xb) (en:=OH) AfO, OE (u:=SR) (en:=NY) AbY]
structure OG where
  Params:Int
  Size:Int
  Code:(List Mk)
 deriving DecidableEq, Inhabited
def OQ (x:OG):D:= .agg [.int .i64 x.Params, .int .i64 x.Size, .sl (x.Code.map NY)]
def Avz (x:OG):Prop:=(Pq .i64) x.Params/\(Pq .i64) x.Size/\(qL AvA) x.Code
def AgE (d:D):OG:=⟨uI (cel d 0), uI (cel d 1), (uL SR) (cel d 2)⟩
@[simp] theorem Asw (x:OG):AgE (OQ x)=x:=by simp[AgE, OQ, cel, uI, OE (u:=SR) (en:=NY) AbY]
structure OW where
  Align:Int
  Frames:(List OG)
 deriving DecidableEq, Inhabited
def Adz (x:OW):D:= .agg [.int .i64 x.Align, .sl (x.Frames.map OQ)]
def AxZ (x:OW):Prop:=(Pq .i64) x.Align/\(qL Avz) x.Frames
def Aed (d:D):OW:=⟨uI (cel d 0), (uL AgE) (cel d 1)⟩
@[simp] theorem Azz (x:OW):Aed (Adz x)=x:=by simp[Aed, Adz, cel, uI, OE (u:=AgE) (en:=OQ) Asw]
structure PH where
  Target:OW
  Bound:Int
  Bounds:(List Int)
  Choices:(List Int)
 deriving DecidableEq, Inhabited
def AeC (x:PH):D:= .agg [.int .i64 x.Target.Align, .sl (x.Target.Frames.map OQ), .int .i64 x.Bound, .sl (x.Bounds.map NF), .sl (x.Choices.map NF)]
def AzQ (x:PH):Prop:=AxZ x.Target/\(Pq .i64) x.Bound/\(qL (Pq .i64)) x.Bounds/\(qL (Pq .i64)) x.Choices
def AvV (d:D):PH:=⟨⟨uI (cel d 0), (uL AgE) (cel d 1)⟩, uI (cel d 2), (uL uI) (cel d 3), (uL uI) (cel d 4)⟩
@[simp] theorem AzI (x:PH):AvV (AeC x)=x:=by simp[AvV, AeC, cel, uI, OE (u:=AgE) (en:=OQ) Asw, OE (u:=uI) (en:=NF) (λ_=>rfl)]
structure NM where
  Funcs:(List Lo)
 deriving DecidableEq, Inhabited
def Rc (x:NM):D:= .agg [.sl (x.Funcs.map NR)]
def AwT (x:NM):Prop:=(qL Axt) x.Funcs
def Tt (d:D):NM:=⟨(uL RD) (cel d 0)⟩
@[simp] theorem Azp (x:NM):Tt (Rc x)=x:=by simp[Tt, Rc, cel, OE (u:=RD) (en:=NR) Aly]
structure Ob where
  Out:(List (List Int))
 deriving DecidableEq, Inhabited
def Td (x:Ob):D:= .agg [.sl (x.Out.map (eL NF))]
def Axu (x:Ob):Prop:=(qL (qL (Pq .i64))) x.Out
def VU (d:D):Ob:=⟨(uL (uL uI)) (cel d 0)⟩
@[simp] theorem AzN (x:Ob):VU (Td x)=x:=by simp[VU, Td, cel, OE (u:=(uL uI)) (en:=(eL NF)) (OE (u:=uI) (en:=NF) (λ_=>rfl))]
structure NV where
  To:(List Int)
  Keep:(List Bool)
 deriving DecidableEq, Inhabited
def Acg (x:NV):D:= .agg [.sl (x.To.map NF), .sl (x.Keep.map D.bool)]
def AxY (x:NV):Prop:=(qL (Pq .i64)) x.To/\(qL AwS) x.Keep
def Acm (d:D):NV:=⟨(uL uI) (cel d 0), (uL uBo) (cel d 1)⟩
@[simp] theorem Azy (x:NV):Acm (Acg x)=x:=by simp[Acm, Acg, cel, OE (u:=uI) (en:=NF) (λ_=>rfl), OE (u:=uBo) (en:=D.bool) (λ_=>rfl)]
structure NT where
  Args:Int
  Size:Int
  Off:(List Int)
 deriving DecidableEq, Inhabited
def PK (x:NT):D:= .agg [.int .i64 x.Args, .int .i64 x.Size, .sl (x.Off.map NF)]
def Aty (x:NT):Prop:=(Pq .i64) x.Args/\(Pq .i64) x.Size/\(qL (Pq .i64)) x.Off
def AfN (d:D):NT:=⟨uI (cel d 0), uI (cel d 1), (uL uI) (cel d 2)⟩
@[simp] theorem Azx (x:NT):AfN (PK x)=x:=by simp[AfN, PK, cel, uI, OE (u:=uI) (en:=NF) (λ_=>rfl)]
structure Oh where
  Live:Ob
  Rename:NV
  LiveAfter:Ob
  Layout:NT
 deriving DecidableEq, Inhabited
def Oq (x:Oh):D:= .agg [.sl (x.Live.Out.map (eL NF)), .sl (x.Rename.To.map NF), .sl (x.Rename.Keep.map D.bool), .sl (x.LiveAfter.Out.map (eL NF)), .int .i64 x.Layout.Args, .int .i64 x.Layout.Size, .sl (x.Layout.Off.map NF)]
def Azt (x:Oh):Prop:=Axu x.Live/\AxY x.Rename/\Axu x.LiveAfter/\Aty x.Layout
def AeQ (d:D):Oh:=⟨⟨(uL (uL uI)) (cel d 0)⟩, ⟨(uL uI) (cel d 1), (uL uBo) (cel d 2)⟩, ⟨(uL (uL uI)) (cel d 3)⟩, ⟨uI (cel d 4), uI (cel d 5), (uL uI) (cel d 6)⟩⟩
@[simp] theorem Ath (x:Oh):AeQ (Oq x)=x:=by simp[AeQ, Oq, cel, uI, OE (u:=(uL uI)) (en:=(eL NF)) (OE (u:=uI) (en:=NF) (λ_=>rfl)), OE (u:=uI) (en:=NF) (λ_=>rfl), OE (u:=uBo) (en:=D.bool) (λ_=>rfl)]
structure SZ where
  a:Int
  b:Int
  c:Int
  imm:Bool
 deriving DecidableEq, Inhabited
def Abf (x:SZ):D:= .agg [.int .i64 x.a, .int .i64 x.b, .int .i64 x.c, .bool x.imm]
def Aze (x:SZ):Prop:=(Pq .i64) x.a/\(Pq .i64) x.b/\(Pq .i64) x.c/\AwS x.imm
def Amr (d:D):SZ:=⟨uI (cel d 0), uI (cel d 1), uI (cel d 2), uBo (cel d 3)⟩
@[simp] theorem Ays (x:SZ):Amr (Abf x)=x:=by simp[Amr, Abf, cel, uI, uBo]
structure QL where
  a0:Int
  a1:Int
  a2:Int
 deriving DecidableEq, Inhabited
def QL.toList (x:QL):List Int:=[x.a0, x.a1, x.a2]
def QL.set (x:QL) (j:Nat) (v:Int):QL:=⟨(x.toList.set j v).getD 0 x.a0, (x.toList.set j v).getD 1 x.a1, (x.toList.set j v).getD 2 x.a2⟩
theorem Azc (x:QL) (j:Nat) (v:Int):(x.set j v).toList=x.toList.set j v:=by
  match j with
  | 0=>rfl
  | 1=>rfl
  | 2=>rfl
  | _+3=>rfl
def Atn (x:QL):D:= .agg [.int .i64 x.a0, .int .i64 x.a1, .int .i64 x.a2]
def AzL (x:QL):Prop:=(Pq .i64) x.a0/\(Pq .i64) x.a1/\(Pq .i64) x.a2
def AtC (d:D):QL:=⟨uI (cel d 0), uI (cel d 1), uI (cel d 2)⟩
@[simp] theorem Azv (x:QL):AtC (Atn x)=x:=by simp[AtC, Atn, cel, uI]
structure RQ where
  a0:Int
  a1:Int
  a2:Int
  a3:Int
  a4:Int
  a5:Int
  a6:Int
 deriving DecidableEq, Inhabited
def RQ.toList (x:RQ):List Int:=[x.a0, x.a1, x.a2, x.a3, x.a4, x.a5, x.a6]
def RQ.set (x:RQ) (j:Nat) (v:Int):RQ:=⟨(x.toList.set j v).getD 0 x.a0, (x.toList.set j v).getD 1 x.a1, (x.toList.set j v).getD 2 x.a2, (x.toList.set j v).getD 3 x.a3, (x.toList.set j v).getD 4 x.a4, (x.toList.set j v).getD 5 x.a5, (x.toList.set j v).getD 6 x.a6⟩
theorem Azd (x:RQ) (j:Nat) (v:Int):(x.set j v).toList=x.toList.set j v:=by
  match j with
  | 0=>rfl
  | 1=>rfl
  | 2=>rfl
  | 3=>rfl
  | 4=>rfl
  | 5=>rfl
  | 6=>rfl
  | _+7=>rfl
def Alo (x:RQ):D:= .agg [.int .i64 x.a0, .int .i64 x.a1, .int .i64 x.a2, .int .i64 x.a3, .int .i64 x.a4, .int .i64 x.a5, .int .i64 x.a6]
def AzM (x:RQ):Prop:=(Pq .i64) x.a0/\(Pq .i64) x.a1/\(Pq .i64) x.a2/\(Pq .i64) x.a3/\(Pq .i64) x.a4/\(Pq .i64) x.a5/\(Pq .i64) x.a6
def AtD (d:D):RQ:=⟨uI (cel d 0), uI (cel d 1), uI (cel d 2), uI (cel d 3), uI (cel d 4), uI (cel d 5), uI (cel d 6)⟩
@[simp] theorem Azw (x:RQ):AtD (Alo x)=x:=by simp[AtD, Alo, cel, uI]
structure NH where
  a0:Int
  a1:Int
  a2:Int
  a3:Int
  a4:Int
  a5:Int
  a6:Int
  a7:Int
 deriving DecidableEq, Inhabited
def NH.toList (x:NH):List Int:=[x.a0, x.a1, x.a2, x.a3, x.a4, x.a5, x.a6, x.a7]
def NH.set (x:NH) (j:Nat) (v:Int):NH:=⟨(x.toList.set j v).getD 0 x.a0, (x.toList.set j v).getD 1 x.a1, (x.toList.set j v).getD 2 x.a2, (x.toList.set j v).getD 3 x.a3, (x.toList.set j v).getD 4 x.a4, (x.toList.set j v).getD 5 x.a5, (x.toList.set j v).getD 6 x.a6, (x.toList.set j v).getD 7 x.a7⟩
theorem RR (x:NH) (j:Nat) (v:Int):(x.set j v).toList=x.toList.set j v:=by
  match j with
  | 0=>rfl
  | 1=>rfl
  | 2=>rfl
  | 3=>rfl
  | 4=>rfl
  | 5=>rfl
  | 6=>rfl
  | 7=>rfl
  | _+8=>rfl
def NZ (x:NH):D:= .agg [.int .u64 x.a0, .int .u64 x.a1, .int .u64 x.a2, .int .u64 x.a3, .int .u64 x.a4, .int .u64 x.a5, .int .u64 x.a6, .int .u64 x.a7]
def AwU (x:NH):Prop:=(Pq .u64) x.a0/\(Pq .u64) x.a1/\(Pq .u64) x.a2/\(Pq .u64) x.a3/\(Pq .u64) x.a4/\(Pq .u64) x.a5/\(Pq .u64) x.a6/\(Pq .u64) x.a7
def PW (d:D):NH:=⟨uI (cel d 0), uI (cel d 1), uI (cel d 2), uI (cel d 3), uI (cel d 4), uI (cel d 5), uI (cel d 6), uI (cel d 7)⟩
@[simp] theorem AvW (x:NH):PW (NZ x)=x:=by simp[PW, NZ, cel, uI]
structure Oj where
  g:(List (List Int))
  w:(List Int)
  known:(List Bool)
  of:(List Int)
 deriving DecidableEq, Inhabited
def AjD (x:Oj):D:= .agg [.sl (x.g.map (eL NF)), .sl (x.w.map NF), .sl (x.known.map D.bool), .sl (x.of.map NF)]
def Ayr (x:Oj):Prop:=(qL (qL (Pq .i64))) x.g/\(qL (Pq .i64)) x.w/\(qL AwS) x.known/\(qL (Pq .i64)) x.of
def AjP (d:D):Oj:=⟨(uL (uL uI)) (cel d 0), (uL uI) (cel d 1), (uL uBo) (cel d 2), (uL uI) (cel d 3)⟩
@[simp] theorem Axw (x:Oj):AjP (AjD x)=x:=by simp[AjP, AjD, cel, OE (u:=(uL uI)) (en:=(eL NF)) (OE (u:=uI) (en:=NF) (λ_=>rfl)), OE (u:=uI) (en:=NF) (λ_=>rfl), OE (u:=uBo) (en:=D.bool) (λ_=>rfl)]
structure Ox where
  p:NM
  i:Int
  align:Int
  f:Lo
  y:NT
 deriving DecidableEq, Inhabited
def Qw (x:Ox):D:= .agg [.sl (x.p.Funcs.map NR), .int .i64 x.i, .int .i64 x.align, .int .i64 x.f.Params, .sl (x.f.Slots.map OH), .sl (x.f.Code.map NY), .int .i64 x.y.Args, .int .i64 x.y.Size, .sl (x.y.Off.map NF)]
def Axv (x:Ox):Prop:=AwT x.p/\(Pq .i64) x.i/\(Pq .i64) x.align/\Axt x.f/\Aty x.y
def UH (d:D):Ox:=⟨⟨(uL RD) (cel d 0)⟩, uI (cel d 1), uI (cel d 2), ⟨uI (cel d 3), (uL Xb) (cel d 4), (uL SR) (cel d 5)⟩, ⟨uI (cel d 6), uI (cel d 7), (uL uI) (cel d 8)⟩⟩
@[simp] theorem Awa (x:Ox):UH (Qw x)=x:=by simp[UH, Qw, cel, uI, OE (u:=RD) (en:=NR) Aly, OE (u:=Xb) (en:=OH) AfO, OE (u:=SR) (en:=NY) AbY, OE (u:=uI) (en:=NF) (λ_=>rfl)]
structure NU where
  Off:Int
  Size:Int
 deriving DecidableEq, Inhabited
def PX (x:NU):D:= .agg [.int .i64 x.Off, .int .i64 x.Size]
def Azs (x:NU):Prop:=(Pq .i64) x.Off/\(Pq .i64) x.Size
def Uy (d:D):NU:=⟨uI (cel d 0), uI (cel d 1)⟩
@[simp] theorem Amq (x:NU):Uy (PX x)=x:=by simp[Uy, PX, cel, uI]
structure Oz where
  Frame:OG
  align:Int
  frames:Int
 deriving DecidableEq, Inhabited
def Qo (x:Oz):D:= .agg [.int .i64 x.Frame.Params, .int .i64 x.Frame.Size, .sl (x.Frame.Code.map NY), .int .i64 x.align, .int .i64 x.frames]
def Azg (x:Oz):Prop:=Avz x.Frame/\(Pq .i64) x.align/\(Pq .i64) x.frames
def YV (d:D):Oz:=⟨⟨uI (cel d 0), uI (cel d 1), (uL SR) (cel d 2)⟩, uI (cel d 3), uI (cel d 4)⟩
@[simp] theorem Ayu (x:Oz):YV (Qo x)=x:=by simp[YV, Qo, cel, uI, OE (u:=SR) (en:=NY) AbY]
structure NL where
  list:(List Int)
  at_:Int
 deriving DecidableEq, Inhabited
def PV (x:NL):D:= .agg [.sl (x.list.map eU8), .int .i64 x.at_]
def Azf (x:NL):Prop:=(qL (Pq .u8)) x.list/\(Pq .i64) x.at_
def Vs (d:D):NL:=⟨(uL uI) (cel d 0), uI (cel d 1)⟩
@[simp] theorem Ayt (x:NL):Vs (PV x)=x:=by simp[Vs, PV, cel, uI, OE (u:=uI) (en:=eU8) (λ_=>rfl)]
structure PJ where
  a0:Int
  a1:Int
 deriving DecidableEq, Inhabited
def UC (x:PJ):D:= .agg [.int .i64 x.a0, .int .i64 x.a1]
def AzK (x:PJ):Prop:=(Pq .i64) x.a0/\(Pq .i64) x.a1
def AtB (d:D):PJ:=⟨uI (cel d 0), uI (cel d 1)⟩
@[simp] theorem Azu (x:PJ):AtB (UC x)=x:=by simp[AtB, UC, cel, uI]
instance:TyE 5 eU8:=⟨⟩
instance:TyE 50 Oq:=⟨⟩
instance:TyE 36 NR:=⟨⟩
instance:TyE 23 (eL Oq):=⟨⟩
instance:TyE 87 OH:=⟨⟩
instance:TyE 90 NY:=⟨⟩
instance:TyE 3 NF:=⟨⟩
instance:TyE 37 (eL NF):=⟨⟩
instance:TyE 4 D.bool:=⟨⟩
instance:TyE 28 Rc:=⟨⟩
instance:TyE 75 OQ:=⟨⟩
instance:TyE 39 PK:=⟨⟩
instance:TyE 190 UC:=⟨⟩
instance:TyE 186 PX:=⟨⟩
end Go.Proofs.YtcaoepecbgggcaaGreatDoor
