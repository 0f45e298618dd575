/-
  Programs on typed data, and the proofs that the code does what they say; written by a program (dx.py).
-/
import Derived.Test.YtcelninhkmhjkaaDoorProg
import Derived.Test.YtcelninhkmhjkaaDoorDc
import Derived.KernelRfl
import Derived.Test.YtcelninhkmhjkaaDoorSh
import Derived.Test.YtcelninhkmhjkaaDoorDxP
import Derived.Test.YtcelninhkmhjkaaDoorDxF3
namespace Go.Proofs.YtcelninhkmhjkaaDoor
open Go Go.Dw Go.Proofs
set_option maxRecDepth 100000
open Go.Dw renaming Ym → mV,VP → bN,PJ → lO,TU → bD,VS → cK,VU → nI,VX → xS,Yo → rG,Yq → sQ,Ru → aO,VO → aS,VV → oF,AaU → bL,VQ → bS,OZ → cV,Nj → cG,Qz → cR,Zu → aP,PK → sV,SP → iS,QY → lS,TV → fA,ZH → fF,Zv → eX,Acl → nC,TW → lF,SE → sP,OA → pT,NL → pF,Yn → uN,Adw → cT,VT → nW,VR → bX,Rt → aN,XE → aL,VY → cD,TY → bK,Yp → rT,Wc → sK,VZ → eT,VW → xC,TX → xL,PY → xR,Wd → zR,So → hE,OB → lE,Pa → bH,NM → bM,PX → bR,Pb → xE,AaP → cP,Wa → lP,QZ → sC,Adx → mF,rf → r
def Afj : Ka:=(.seq (.reg [P 2 (.box (T 0) 3 27),P 3 (.box (T 1) 1 30),P 4 (.asg (.c (.bool false)) none)] false) (.seq (.reg [P 6 (.mkf 90 [(T 2)]),P 5 (.asg (T 6) none)] false) (.seq (.reg [P 7 (.fldA 0 (T 3)),P 8 (.ld 1 false (T 7)),P 9 (.len false (T 8)),P 10 (.fldA 2 (T 2)),P 11 (.ld 1 false (T 10)),P 12 (.len false (T 11)),P 13 (.bin .eql (T 9) (T 12)),M 14 13,⟨(some 15),(.fldA 0 (T 3)),(some ⟨14,true⟩),[]⟩,⟨(some 16),(.ld 1 false (T 15)),(some ⟨14,true⟩),[]⟩,⟨(some 17),(.mv (T 5)),(some ⟨14,true⟩),[]⟩,⟨(some 18),(.call (.c (.clo 92 [])) [(T 16),(T 17)]),(some ⟨14,true⟩),[]⟩,⟨(some 19),(.un .not (T 18)),(some ⟨14,true⟩),[]⟩,P 20 (.pick (T 14) (T 19) (.c (.bool false))),P 4 (.asg (T 20) none)] false) .ret)))
theorem Aii : (Tryd.f63.body.bind (Kb Tryd.prog Tryd.f63.ntmps)) = some Afj:=by kernel_rfl
theorem Aij : Tryd.f63.results.toList.mapM (Kn Tryd.prog) = some [(.t 4)]:=by kernel_rfl
def QT (a : JO × JR) : List D:=[Kv a.1,KJ a.2]
def QS (ds : List D) : JO × JR:=(LA (ds.getD 0 .top),MA (ds.getD 1 .top))
theorem RU (a : JO × JR) : QS (QT a) = a:=by simp [QS,QT]
def Wy (b : Bool) : D:=.bool b
def Wx (_b : Bool) : List D:=[]
noncomputable def NY : Dw.Spec:=JZ [] .ground QT QS (fun a=>MD a.1 a.2) Wy Wx
set_option maxHeartbeats 4000000 in
theorem Vl : JY Tryd.prog 63 NY:=by
 refine Ki (Ke (l:=[(372828,KW)]) (by simp [Rh])) Tryd.func63 (by decide) Aii Aij (np:=2) (by decide) RU (fun _=>r) (fun _=>r) (by decide)<|?_
 rintro ⟨f1,l2⟩
 show TrE (specs [(372828,KW)]) Afj (Kp [] .ground [(.t 4)] Wy Wx) ⟨[(0,.agg [.int .i64 f1.Params,.sl (f1.Slots.map JP),.sl (f1.Code.map JM)]),(1,.agg [.sl (l2.Out.map (eL JJ))])],[],262144⟩ (MD f1 l2)
 refine Kc<|?_
 unfold Afj MD
 refine sQ<|rG<|bX r r r r r<|bX r r r r r<|aS r r<|nI<|Ll (E:=[(2,.fptr (.agg [.int .i64 f1.Params,.sl (f1.Slots.map JP),.sl (f1.Code.map JM)]) 0),(3,.optr 3 _ 0 0)]) (O:=[(3,some (_,⟨false,true,1,30,[.agg [.sl (l2.Out.map (eL JJ))]]⟩))]) ((ZE (g:=2) r (by first | rfl | (simp [cells,frp,LF,JT]; done)) (hE ⟨(by first | rfl | (simp [KL,lkO,frp,LF,frO]; done) | (simp [KL,lkO,frp,LF,frO]; rfl)),(by first | rfl | (simp [KL,lkO,frp,LF,frO]; done) | (simp [KL,lkO,frp,LF,frO]; rfl)),trivial⟩ ⟨(by first | rfl | (simp [KL,lkO,frp,LF,frO]; done) | (simp [KL,lkO,frp,LF,frO]; rfl)),trivial⟩))) fun nn=>sQ<|rG<|mF (caps:=[.fptr (.agg [.int .i64 f1.Params,.sl (f1.Slots.map JP),.sl (f1.Code.map JM)]) 0]) r r (by simp [XH])<|aS r r<|nI<|xS<|sQ<|rG<|fA r r<|lO (v:=.sl (l2.Out.map (eL JJ))) (z:=.agg [.sl (l2.Out.map (eL JJ))]) r r r r r r<|lS r r<|fF r r<|lF (v:=.sl (f1.Code.map JM)) r r r r<|lS r r<|bN (v:=.bool ((l2.Out.length : Int) == (f1.Code.length : Int))) r r r r r<|mV r r<|sP 14 (b:=((l2.Out.length : Int) == (f1.Code.length : Int))) r ?_ ?_
 ·refine fA rfl rfl<|lO (v:=.sl (l2.Out.map (eL JJ))) (z:=.agg [.sl (l2.Out.map (eL JJ))]) rfl rfl rfl rfl rfl rfl<|mV rfl rfl<|bD fun r3 hr3=>cG (l2.Out,f1) rfl rfl (show _ = some KW from by kernel_rfl) Nn rfl rfl (by simp) r hr3 r<|uN (w:=.bool (!r3)) r r r r trivial<|pT r r r r<|aS r r<|nI<|xS<|rT<|JX (b:=(!r3)) r ?_ r r ?_ r
  all_goals first|(simp;done)|(simp;omega)|rfl|(simp [JT,JQ];done)
 ·refine oF r<|oF r<|oF r<|oF r<|oF r<|pF r r r r<|aS r r<|nI<|xS<|rT<|JX (b:=false) r ?_ r r ?_ r
  all_goals first|(simp;done)|(simp;omega)|rfl|(simp [JT,JQ];done)

def Afn : Ka:=(.seq (.reg [P 1 (.box (T 0) 1 30),P 2 (.asg (.c .nilf) none)] false) (.seq (.reg [P 3 (.mkf 94 [(T 1)]),P 2 (.asg (T 3) none)] false) .ret))
theorem Aiq : (Tryd.f67.body.bind (Kb Tryd.prog Tryd.f67.ntmps)) = some Afn:=by kernel_rfl
theorem Air : Tryd.f67.results.toList.mapM (Kn Tryd.prog) = some [(.t 2)]:=by kernel_rfl
def Sw (a : JR) : List D:=[KJ a]
def Sv (ds : List D) : JR:=MA (ds.getD 0 .top)
theorem Xx (a : JR) : Sv (Sw a) = a:=by simp [Sv,Sw]
def XX (b : JR) : D:=.clo 94 [.fptr (KJ b) 0]
def XW (_b : JR) : List D:=[]
noncomputable def TM : Dw.Spec:=JZ [] .val Sw Sv (fun a=>Qq a) XX XW
set_option maxHeartbeats 4000000 in
theorem AaZ : JY Tryd.prog 67 TM:=by
 refine Ki (KI) Tryd.func67 (by decide) Aiq Air (np:=1) (by decide) Xx (fun _=>r) (fun _=>r) (by decide)<|?_
 intro l1
 show TrE (specs []) Afn (Kp [] .val [(.t 2)] XX XW) ⟨[(0,.agg [.sl (l1.Out.map (eL JJ))])],[],262144⟩ (Qq l1)
 refine Kc<|?_
 unfold Afn Qq
 refine sQ<|rG<|bX r r r r r<|aS r r<|nI<|Ll (E:=[(1,.fptr (.agg [.sl (l1.Out.map (eL JJ))]) 0)]) (O:=[]) ((ZE (g:=1) r (by first | rfl | (simp [cells,frp,LF,JT]; done)) (hE ⟨(by first | rfl | (simp [KL,lkO,frp,LF,frO]; done) | (simp [KL,lkO,frp,LF,frO]; rfl)),trivial⟩ trivial))) fun nn=>sQ<|rG<|mF (caps:=[.fptr (.agg [.sl (l1.Out.map (eL JJ))]) 0]) r r (by simp [XH])<|aS r r<|nI<|xS<|rT<|KG (b:=l1) r ?_ r r ?_ r
 all_goals first|(simp;done)|(simp;omega)|rfl|(simp [JT,JQ];done)

def AdM : Ka:=(.seq (.reg [P 2 (.asg (.c (.bool false)) none)] false) (.seq (.reg [M 3 0,P 4 (.bin .eql (T 3) (C 20)),M 5 4,⟨(some 6),(.mv (T 0)),(some ⟨5,false⟩),[]⟩,⟨(some 7),(.bin .eql (T 6) (C 23)),(some ⟨5,false⟩),[]⟩,P 8 (.pick (T 5) (.c (.bool true)) (T 7)),M 9 8,⟨(some 10),(.mv (T 0)),(some ⟨9,false⟩),[]⟩,⟨(some 11),(.bin .eql (T 10) (C 24)),(some ⟨9,false⟩),[]⟩,P 12 (.pick (T 9) (.c (.bool true)) (T 11)),P 2 (.asg (T 12) none)] false) .ret))
theorem AgD : (Tryd.f112.body.bind (Kb Tryd.prog Tryd.f112.ntmps)) = some AdM:=by kernel_rfl
theorem AgE : Tryd.f112.results.toList.mapM (Kn Tryd.prog) = some [(.t 2)]:=by kernel_rfl
def SC (a : Int) : List D:=[.int .i64 a]
def SB (ds : List D) : Int:=uI (ds.getD 0 .top)
theorem XA (a : Int) : SB (SC a) = a:=by simp [SB,SC,uI]
def Yk (b : Bool) : D:=.bool b
def Yj (_b : Bool) : List D:=[]
noncomputable def TT : Dw.Spec:=JZ [] .ground SC SB (fun a=>Qx a) Yk Yj
set_option maxHeartbeats 4000000 in
theorem Aba : JY Tryd.prog 112 TT:=by
 refine Ki (KI) Tryd.func112 (by decide) AgD AgE (np:=1) (by decide) XA (fun _=>r) (fun _=>r) (by decide)<|?_
 intro op1
 show TrE (specs []) AdM (Kp [] .ground [(.t 2)] Yk Yj) ⟨[(0,.int .i64 op1)],[],262144⟩ (Qx op1)
 refine Kc<|?_
 unfold AdM Qx
 refine sQ<|rG<|aS r r<|nI<|xS<|sQ<|rG<|mV r r<|bN (v:=.bool (op1 == 20)) r r r r r<|mV r r<|sP 5 (b:=(op1 == 20)) r ?_ ?_
 ·refine oF r<|oF r<|pT r r r r<|mV r r<|oF r<|oF r<|pT r r r r<|aS r r<|nI<|xS<|rT<|JX (b:=true) r ?_ r r ?_ r
  all_goals first|(simp;done)|(simp;omega)|rfl|(simp [JT,JQ];done)
 ·refine mV r r<|bN (v:=.bool (op1 == 23)) r r r r r<|pF r r r r<|mV r r<|sP 9 (b:=(op1 == 23)) r ?_ ?_
  ·refine oF r<|oF r<|pT r r r r<|aS r r<|nI<|xS<|rT<|JX (b:=true) r ?_ r r ?_ r
   all_goals first|(simp;done)|(simp;omega)|rfl|(simp [JT,JQ];done)
  ·refine mV r r<|bN (v:=.bool (op1 == 24)) r r r r r<|pF r r r r<|aS r r<|nI<|xS<|rT<|JX (b:=(op1 == 24)) r ?_ r r ?_ r
   all_goals first|(simp;done)|(simp;omega)|rfl|(simp [JT,JQ];done)

def AfE : Ka:=(.seq (.reg [P 2 (.box (T 0) 3 27),⟨(some 4),(.asg (.c .nils) (some ⟨1,3⟩)),none,[]⟩] false) (.seq (.seq (.reg [M 7 1,P 8 (.bin .lss (T 7) (C 0)),M 9 8,⟨(some 10),(.mv (T 1)),(some ⟨9,false⟩),[]⟩,⟨(some 11),(.fldA 2 (T 2)),(some ⟨9,false⟩),[]⟩,⟨(some 12),(.ld 1 false (T 11)),(some ⟨9,false⟩),[]⟩,⟨(some 13),(.len false (T 12)),(some ⟨9,false⟩),[]⟩,⟨(some 14),(.bin .geq (T 10) (T 13)),(some ⟨9,false⟩),[]⟩,P 15 (.pick (T 9) (.c (.bool true)) (T 14))] false) (.cond (T 15) (.seq (.reg [⟨(some 4),(.asg (.c .nils) (some ⟨1,3⟩)),none,[]⟩] false) .ret) .skip)) (.seq (.reg [⟨(some 5),(.asg (.c .nils) (some ⟨1,3⟩)),none,[]⟩] false) (.seq (.reg [P 16 (.fldA 2 (T 2)),P 17 (.ld 1 false (T 16)),M 18 1,P 19 (.ixA 5 (T 17) (T 18)),P 20 (.ld 5 true (T 19)),P 6 (.new (.agg [(.int .i64 0),(.int .i64 0),(.int .i64 0),(.int .i64 0),(.int .u64 0)]) 5 66),⟨none,(.st 5 (T 6) (T 20)),none,[]⟩] false) (.seq (.seq (.reg [P 21 (.fldA 0 (T 6)),P 22 (.ld 1 false (T 21)),P 23 (.call (.c (.clo 112 [])) [(T 22)]),P 24 (.un .not (T 23))] false) (.cond (T 24) (.reg [M 25 5,M 26 1,P 27 (.bin .add (T 26) (C 1)),⟨(some 28),(.bldS 1 3 (.int .i64 0) 1 [⟨0,(T 27)⟩]),none,[]⟩,P 29 (.app 1 3 8 (T 25) (T 28)),⟨(some 5),(.asg (T 29) (some ⟨1,3⟩)),none,[]⟩] false) .skip)) (.seq (.seq (.reg [P 30 (.fldA 0 (T 6)),P 31 (.ld 1 false (T 30))] false) (.block 0 (.seq (.reg [P 33 (.bin .eql (T 31) (C 20)),P 32 (.asg (T 33) none)] false) (.cond (T 32) (.reg [M 34 5,P 35 (.fldA 1 (T 6)),P 36 (.ld 1 false (T 35)),⟨(some 37),(.bldS 1 3 (.int .i64 0) 1 [⟨0,(T 36)⟩]),none,[]⟩,P 38 (.app 1 3 8 (T 34) (T 37)),⟨(some 5),(.asg (T 38) (some ⟨1,3⟩)),none,[]⟩] false) (.seq (.reg [P 40 (.bin .eql (T 31) (C 21)),P 39 (.asg (T 40) none)] false) (.cond (T 39) (.reg [M 41 5,P 42 (.fldA 2 (T 6)),P 43 (.ld 1 false (T 42)),⟨(some 44),(.bldS 1 3 (.int .i64 0) 1 [⟨0,(T 43)⟩]),none,[]⟩,P 45 (.app 1 3 8 (T 41) (T 44)),⟨(some 5),(.asg (T 45) (some ⟨1,3⟩)),none,[]⟩] false) .skip)))))) (.seq (.reg [M 46 5,P 47 (.call (.c (.clo 113 [])) [(T 46)])] false) (.seq (.reg [M 48 5,P 49 (.call (.c (.clo 114 [])) [(T 48)]),⟨(some 4),(.asg (T 49) (some ⟨1,3⟩)),none,[]⟩] false) .ret))))))))
theorem AiY : (Tryd.f88.body.bind (Kb Tryd.prog Tryd.f88.ntmps)) = some AfE:=by kernel_rfl
theorem AiZ : Tryd.f88.results.toList.mapM (Kn Tryd.prog) = some [(.t 4)]:=by kernel_rfl
def WI (a : JO × Int) : List D:=[Kv a.1,.int .i64 a.2]
def WH (ds : List D) : JO × Int:=(LA (ds.getD 0 .top),uI (ds.getD 1 .top))
theorem Aav (a : JO × Int) : WH (WI a) = a:=by simp [WH,WI,uI]
def Abj (b : (List Int)) : D:=.sl (b.map JJ)
def Abi (_b : (List Int)) : List D:=[]
noncomputable def YQ : Dw.Spec:=JZ [] (.row 1 3) WI WH (fun a=>Ug a.1 a.2) Abj Abi
set_option maxHeartbeats 4000000 in
theorem AcN : JY Tryd.prog 88 YQ:=by
 refine Ki (Ke (l:=[(112,TT),(113,Qy),(114,OY)]) (by simp [Aba,YV,XD])) Tryd.func88 (by decide) AiY AiZ (np:=2) (by decide) Aav (fun _=>r) (fun _=>r) (by decide)<|?_
 rintro ⟨f1,k2⟩
 show TrE (specs [(112,TT),(113,Qy),(114,OY)]) AfE (Kp [] (.row 1 3) [(.t 4)] Abj Abi) ⟨[(0,.agg [.int .i64 f1.Params,.sl (f1.Slots.map JP),.sl (f1.Code.map JM)]),(1,.int .i64 k2)],[],262144⟩ (Ug f1 k2)
 refine Kc<|?_
 unfold AfE Ug
 refine sQ<|rG<|bX r r r r r<|aN (α:=Int) r JJ r<|nI<|xS<|sC (E:=fun (s : Unit) (g : Nat)=>[(1,.int .i64 k2),(2,.optr 2 g 0 0)]) (O:=fun s g=>[(2,some (g,⟨false,true,3,27,[.agg [.int .i64 f1.Params,.sl (f1.Slots.map JP),.sl (f1.Code.map JM)]]⟩))]) (j:=fun s=>Uz f1 k2) ?_ ?_
 ·refine sQ<|rG<|mV r r<|bN (v:=.bool (decide (k2 < 0))) r r r r r<|mV r r<|sP 9 (b:=(decide (k2 < 0))) r ?_ ?_
  ·refine oF r<|oF r<|oF r<|oF r<|oF r<|pT r r r r<|nI<|xS<|KT r<|sQ<|rG<|aN (α:=Int) r JJ r<|nI<|xS<|rT<|zR<|Kt (b:=([] : List Int)) r ?_ r r ?_ r ?_ (congrArg D.sl (JS _ _ r)) r
   all_goals first|(simp;done)|(simp;omega)|rfl|(simp [JT,JQ];done)
  ·refine mV r r<|fA r r<|lO (v:=.sl (f1.Code.map JM)) (z:=.agg [.int .i64 f1.Params,.sl (f1.Slots.map JP),.sl (f1.Code.map JM)]) r r r r r r<|lS r r<|bN (v:=.bool (decide (k2 ≥ (f1.Code.length : Int)))) r r r r r<|pF r r r r<|nI<|xS<|cD (c:=(decide (k2 ≥ (f1.Code.length : Int)))) r ?_ ?_
   ·refine sQ<|rG<|aN (α:=Int) r JJ r<|nI<|xS<|rT<|zR<|Kt (b:=([] : List Int)) r ?_ r r ?_ r ?_ (congrArg D.sl (JS _ _ r)) r
    all_goals first|(simp;done)|(simp;omega)|rfl|(simp [JT,JQ];done)
   ·exact sK<|xC (s:=()) _ ((hE ⟨rfl,r,trivial⟩ ⟨rfl,trivial⟩))
 ·rintro ⟨⟩ v2x1 nn
  try dsimp only
  unfold Uz
  refine sQ<|rG<|aN (α:=Int) r JJ r<|nI<|xS<|sQ<|rG<|fA r r<|lO (v:=.sl (f1.Code.map JM)) (z:=.agg [.int .i64 f1.Params,.sl (f1.Slots.map JP),.sl (f1.Code.map JM)]) r r r r r r<|mV r r<|bD fun x_x3 hx_x3=>iS (en:=JM) r r r hx_x3 r<|lF (v:=.agg [.int .i64 x_x3.Op,.int .i64 x_x3.A,.int .i64 x_x3.B,.int .i64 x_x3.C,.int .u64 x_x3.Imm]) r r r r<|nW r<|sV (z':=.agg [.int .i64 x_x3.Op,.int .i64 x_x3.A,.int .i64 x_x3.B,.int .i64 x_x3.C,.int .u64 x_x3.Imm]) r r r r r r r r r<|nI<|xS<|sC (E:=fun (s : (List Int)) (g : Nat × Nat)=>[(5,.osl 5 g.1 0 s.length),(6,.optr 6 g.2 0 0)]) (O:=fun s g=>[(5,some (g.1,⟨false,false,1,3,s.map JJ⟩)),(6,some (g.2,⟨false,true,5,66,[.agg [.int .i64 x_x3.Op,.int .i64 x_x3.A,.int .i64 x_x3.B,.int .i64 x_x3.C,.int .u64 x_x3.Imm]]⟩))]) (j:=fun s=>Sn x_x3 s) ?_ ?_
  ·refine sQ<|rG<|fA r r<|lO (v:=.int .i64 x_x3.Op) (z:=.agg [.int .i64 x_x3.Op,.int .i64 x_x3.A,.int .i64 x_x3.B,.int .i64 x_x3.C,.int .u64 x_x3.Imm]) r r r r r r<|bD fun r5 hr5=>cG x_x3.Op r r r XA r r (by simp) r hr5 r<|uN (w:=.bool (!r5)) r r r r trivial<|nI<|xS<|cD (c:=(!r5)) r ?_ ?_
   ·exact rG<|mV r r<|mV r r<|bN (v:=.int .i64 (IntKind.i64.wrap (k2 + 1))) r r r r r<|bS ([IntKind.i64.wrap (k2 + 1)] : List Int) JJ r r r (by simp) r r r<|cK fun hq=>aP (([] : List Int)) (([IntKind.i64.wrap (k2 + 1)] : List Int)) JJ r r r r r r r (by simp) (Ko _ _ r) r r (by simp) (JS _ _ r) (fun _=>r) r hq<|aO (l:=([] : List Int) ++ ([IntKind.i64.wrap (k2 + 1)] : List Int)) (en:=JJ) r r r r<|nI<|xC (s:=([] : List Int) ++ ([IntKind.i64.wrap (k2 + 1)] : List Int)) (_,_) ((hE ⟨rfl,r,trivial⟩ ⟨rfl,r,trivial⟩))
   ·exact sK<|xC (s:=([] : List Int)) (_,_) ((hE ⟨rfl,r,trivial⟩ ⟨rfl,r,trivial⟩))
  ·rintro l4 ⟨v5x2,v6x2⟩ nn
   try dsimp only
   unfold Sn
   refine sQ<|sQ<|rG<|fA r r<|lO (v:=.int .i64 x_x3.Op) (z:=.agg [.int .i64 x_x3.Op,.int .i64 x_x3.A,.int .i64 x_x3.B,.int .i64 x_x3.C,.int .u64 x_x3.Imm]) r r r r r r<|nI<|xS<|bK<|sQ<|rG<|bN (v:=.bool (x_x3.Op == 20)) r r r r r<|aS r r<|nI<|xS<|cD (c:=(x_x3.Op == 20)) r ?_ ?_
   ·refine rG<|mV r r<|fA r r<|lO (v:=.int .i64 x_x3.A) (z:=.agg [.int .i64 x_x3.Op,.int .i64 x_x3.A,.int .i64 x_x3.B,.int .i64 x_x3.C,.int .u64 x_x3.Imm]) r r r r r r<|bS ([x_x3.A] : List Int) JJ r r r (by simp) r r r<|cK fun hq=>aP (l4) (([x_x3.A] : List Int)) JJ r r r r r r r (by simp) (Ko _ _ r) r r (by simp) (JS _ _ r) (fun _=>r) r hq<|aO (l:=l4 ++ ([x_x3.A] : List Int)) (en:=JJ) r r r r<|nI<|bM<|xS<|sQ<|rG<|mV r r<|cK fun hq=>ZI (l:=l4 ++ ([x_x3.A] : List Int)) (l':=LL (l4 ++ ([x_x3.A] : List Int))) r r r r r r r hq r<|nI<|xS<|sQ<|rG<|mV r r<|cK fun hq=>Yl (l:=LL (l4 ++ ([x_x3.A] : List Int))) (l':=Lib.compact (LL (l4 ++ ([x_x3.A] : List Int)))) r r r r r (by simp) r hq (Vr _) r<|aO (l:=Lib.compact (LL (l4 ++ ([x_x3.A] : List Int)))) (en:=JJ) r r r r<|nI<|xS<|rT<|Kt (b:=Lib.compact (LL (l4 ++ ([x_x3.A] : List Int)))) r ?_ r r ?_ r ?_ (congrArg D.sl (JS _ _ r)) r
    all_goals first|(simp;done)|(simp;omega)|rfl|(simp [JT,JQ];done)
   ·refine sQ<|rG<|bN (v:=.bool (x_x3.Op == 21)) r r r r r<|aS r r<|nI<|xS<|cD (c:=(x_x3.Op == 21)) r ?_ ?_
    ·refine rG<|mV r r<|fA r r<|lO (v:=.int .i64 x_x3.B) (z:=.agg [.int .i64 x_x3.Op,.int .i64 x_x3.A,.int .i64 x_x3.B,.int .i64 x_x3.C,.int .u64 x_x3.Imm]) r r r r r r<|bS ([x_x3.B] : List Int) JJ r r r (by simp) r r r<|cK fun hq=>aP (l4) (([x_x3.B] : List Int)) JJ r r r r r r r (by simp) (Ko _ _ r) r r (by simp) (JS _ _ r) (fun _=>r) r hq<|aO (l:=l4 ++ ([x_x3.B] : List Int)) (en:=JJ) r r r r<|nI<|bM<|xS<|sQ<|rG<|mV r r<|cK fun hq=>ZI (l:=l4 ++ ([x_x3.B] : List Int)) (l':=LL (l4 ++ ([x_x3.B] : List Int))) r r r r r r r hq r<|nI<|xS<|sQ<|rG<|mV r r<|cK fun hq=>Yl (l:=LL (l4 ++ ([x_x3.B] : List Int))) (l':=Lib.compact (LL (l4 ++ ([x_x3.B] : List Int)))) r r r r r (by simp) r hq (Vr _) r<|aO (l:=Lib.compact (LL (l4 ++ ([x_x3.B] : List Int)))) (en:=JJ) r r r r<|nI<|xS<|rT<|Kt (b:=Lib.compact (LL (l4 ++ ([x_x3.B] : List Int)))) r ?_ r r ?_ r ?_ (congrArg D.sl (JS _ _ r)) r
     all_goals first|(simp;done)|(simp;omega)|rfl|(simp [JT,JQ];done)
    ·refine sK<|bM<|xS<|sQ<|rG<|mV r r<|cK fun hq=>ZI (l:=l4) (l':=LL l4) r r r r r r r hq r<|nI<|xS<|sQ<|rG<|mV r r<|cK fun hq=>Yl (l:=LL l4) (l':=Lib.compact (LL l4)) r r r r r (by simp) r hq (Vr _) r<|aO (l:=Lib.compact (LL l4)) (en:=JJ) r r r r<|nI<|xS<|rT<|Kt (b:=Lib.compact (LL l4)) r ?_ r r ?_ r ?_ (congrArg D.sl (JS _ _ r)) r
     all_goals first|(simp;done)|(simp;omega)|rfl|(simp [JT,JQ];done)

def AfK : Ka:=(.seq (.reg [⟨(some 3),(.asg (.c .nils) (some ⟨1,3⟩)),none,[]⟩] false) (.seq (.reg [P 4 (.fldA 0 (T 1)),P 5 (.ld 1 false (T 4)),M 6 0,P 7 (.ixA 1 (T 5) (T 6)),P 8 (.ld 1 false (T 7)),⟨(some 3),(.asg (T 8) (some ⟨1,3⟩)),none,[]⟩] false) .ret))
theorem Ajk : (Tryd.f94.body.bind (Kb Tryd.prog Tryd.f94.ntmps)) = some AfK:=by kernel_rfl
theorem Ajl : Tryd.f94.results.toList.mapM (Kn Tryd.prog) = some [(.t 3)]:=by kernel_rfl
def Pr (a : Int × JR) : List D:=[.int .i64 a.1,.fptr (KJ a.2) 0]
def Pq (ds : List D) : Int × JR:=(uI (ds.getD 0 .top),MA (fpD (ds.getD 1 .top)))
theorem Tv (a : Int × JR) : Pq (Pr a) = a:=by simp [Pq,Pr,uI,fpD]
def Uj (b : (List Int)) : D:=.sl (b.map JJ)
def Ui (_b : (List Int)) : List D:=[]
noncomputable def Qr : Dw.Spec:=JZ [] .val Pr Pq (fun a=>Nw a.1 a.2) Uj Ui
set_option maxHeartbeats 4000000 in
theorem YS : JY Tryd.prog 94 Qr:=by
 refine Ki (KI) Tryd.func94 (by decide) Ajk Ajl (np:=2) (by decide) Tv (fun _=>r) (fun _=>r) (by decide)<|?_
 rintro ⟨j1,cap2⟩
 show TrE (specs []) AfK (Kp [] .val [(.t 3)] Uj Ui) ⟨[(0,.int .i64 j1),(1,.fptr (.agg [.sl (cap2.Out.map (eL JJ))]) 0)],[],262144⟩ (Nw j1 cap2)
 refine Kc<|?_
 unfold AfK Nw
 refine sQ<|rG<|aN (α:=Int) r JJ r<|nI<|xS<|sQ<|rG<|fF r r<|lF (v:=.sl (cap2.Out.map (eL JJ))) r r r r<|mV r r<|bD fun x_x3 hx_x3=>iS (en:=(eL JJ)) r r r hx_x3 r<|lF (v:=.sl (x_x3.map JJ)) r r r r<|aL r r<|nI<|xS<|rT<|KG (b:=x_x3) r ?_ r r ?_ r
 all_goals first|(simp;done)|(simp;omega)|rfl|(simp [JT,JQ];done)

def AdD : Ka:=(.seq (.reg [P 1 (.box (T 0) 5 66),P 2 (.asg (C 0) none),P 3 (.asg (.c (.bool false)) none)] false) (.seq (.seq (.reg [P 4 (.fldA 0 (T 1)),P 5 (.ld 1 false (T 4))] false) (.block 0 (.seq (.seq (.reg [P 7 (.bin .eql (T 5) (C 16)),P 6 (.asg (T 7) none)] false) (.cond (T 6) .skip (.reg [P 8 (.bin .eql (T 5) (C 17)),P 6 (.asg (T 8) none)] false))) (.cond (T 6) (.seq (.reg [P 9 (.fldA 1 (T 1)),P 10 (.ld 1 false (T 9)),P 2 (.asg (T 10) none),P 3 (.asg (.c (.bool true)) none)] false) .ret) .skip)))) (.seq (.reg [P 2 (.asg (C 0) none),P 3 (.asg (.c (.bool false)) none)] false) .ret)))
theorem Agl : (Tryd.f100.body.bind (Kb Tryd.prog Tryd.f100.ntmps)) = some AdD:=by kernel_rfl
theorem Agm : Tryd.f100.results.toList.mapM (Kn Tryd.prog) = some [(.t 2),(.t 3)]:=by kernel_rfl
def Sm (a : JL) : List D:=[JM a]
def Sl (ds : List D) : JL:=QB (ds.getD 0 .top)
theorem Qf (a : JL) : Sl (Sm a) = a:=by simp [Sl,Sm]
def XU (b : Int × Bool) : D:=.tup [.int .i64 b.1,.bool b.2]
def XT (_b : Int × Bool) : List D:=[]
noncomputable def MC : Dw.Spec:=JZ [] .ground Sm Sl (fun a=>MN a) XU XT
set_option maxHeartbeats 4000000 in
theorem Tg : JY Tryd.prog 100 MC:=by
 refine Ki (KI) Tryd.func100 (by decide) Agl Agm (np:=1) (by decide) Qf (fun _=>r) (fun _=>r) (by decide)<|?_
 intro x1
 show TrE (specs []) AdD (Kp [] .ground [(.t 2),(.t 3)] XU XT) ⟨[(0,.agg [.int .i64 x1.Op,.int .i64 x1.A,.int .i64 x1.B,.int .i64 x1.C,.int .u64 x1.Imm])],[],262144⟩ (MN x1)
 refine Kc<|?_
 unfold AdD MN
 refine sQ<|rG<|bX r r r r r<|aS r r<|aS r r<|nI<|xS<|sQ<|sQ<|rG<|fA r r<|lO (v:=.int .i64 x1.Op) (z:=.agg [.int .i64 x1.Op,.int .i64 x1.A,.int .i64 x1.B,.int .i64 x1.C,.int .u64 x1.Imm]) r r r r r r<|nI<|xS<|bK<|sQ<|sQ<|rG<|bN (v:=.bool (x1.Op == 16)) r r r r r<|aS r r<|nI<|xS<|cD (c:=(x1.Op == 16)) r ?_ ?_
 ·refine sK<|xS<|cD (c:=(x1.Op == 16)) r ?_ ?_
  ·refine sQ<|rG<|fA r r<|lO (v:=.int .i64 x1.A) (z:=.agg [.int .i64 x1.Op,.int .i64 x1.A,.int .i64 x1.B,.int .i64 x1.C,.int .u64 x1.Imm]) r r r r r r<|aS r r<|aS r r<|nI<|xS<|rT<|bR<|xR<|Le (b:=(x1.A,true)) r ?_ r r ?_ r (by decide)
   all_goals first|(simp;done)|(simp;omega)|rfl|(simp [JT,JQ];done)
  ·refine sK<|bM<|xS<|sQ<|rG<|aS r r<|aS r r<|nI<|xS<|rT<|Le (b:=(0,false)) r ?_ r r ?_ r (by decide)
   all_goals first|(simp;done)|(simp;omega)|rfl|(simp [JT,JQ];done)
 ·refine rG<|bN (v:=.bool (x1.Op == 17)) r r r r r<|aS r r<|nI<|xS<|cD (c:=(x1.Op == 17)) r ?_ ?_
  ·refine sQ<|rG<|fA r r<|lO (v:=.int .i64 x1.A) (z:=.agg [.int .i64 x1.Op,.int .i64 x1.A,.int .i64 x1.B,.int .i64 x1.C,.int .u64 x1.Imm]) r r r r r r<|aS r r<|aS r r<|nI<|xS<|rT<|bR<|xR<|Le (b:=(x1.A,true)) r ?_ r r ?_ r (by decide)
   all_goals first|(simp;done)|(simp;omega)|rfl|(simp [JT,JQ];done)
  ·refine sK<|bM<|xS<|sQ<|rG<|aS r r<|aS r r<|nI<|xS<|rT<|Le (b:=(0,false)) r ?_ r r ?_ r (by decide)
   all_goals first|(simp;done)|(simp;omega)|rfl|(simp [JT,JQ];done)

def AdG : Ka:=(.seq (.reg [M 7 1,P 8 (.cvt .u64 (T 7)),P 9 (.bin .rem (T 8) (.c (.int .u64 64))),P 10 (.bin .shl (.c (.int .u64 1)) (T 9)),P 6 (.asg (T 10) none)] false) (.block 0 (.seq (.reg [M 22 1,P 23 (.call (.c (.clo 115 [])) [(T 22)]),P 24 (.un .not (T 23)),P 21 (.asg (T 24) none)] false) (.cond (T 21) .skip (.seq (.reg [M 26 2,P 25 (.asg (T 26) none)] false) (.cond (T 25) (.reg [M 27 0,M 28 1,⟨(some 29),(.bin .quo (T 28) (C 64)),none,[1]⟩,⟨(some 30),(.nilck (T 27)),none,[0]⟩,⟨(some 31),(.ixP 1 8 (T 30) (T 29)),none,[3,2]⟩,⟨(some 32),(.ld 1 false (T 31)),none,[4]⟩,M 33 6,⟨(some 34),(.bin .or (T 32) (T 33)),none,[5,6]⟩,⟨(some 35),(.nilck (T 27)),none,[0]⟩,⟨(some 36),(.ixP 1 8 (T 35) (T 29)),none,[8,2,0,1,2,3,4,5,6,7]⟩,⟨none,(.st 1 (T 36) (T 34)),none,[9,7,0,1,2,3,4,5,6,7]⟩] true) (.reg [M 11 0,M 12 1,⟨(some 13),(.bin .quo (T 12) (C 64)),none,[1]⟩,⟨(some 14),(.nilck (T 11)),none,[0]⟩,⟨(some 15),(.ixP 1 8 (T 14) (T 13)),none,[3,2]⟩,⟨(some 16),(.ld 1 false (T 15)),none,[4]⟩,M 17 6,⟨(some 18),(.bin .andNot (T 16) (T 17)),none,[5,6]⟩,⟨(some 19),(.nilck (T 11)),none,[0]⟩,⟨(some 20),(.ixP 1 8 (T 19) (T 13)),none,[8,2,0,1,2,3,4,5,6,7]⟩,⟨none,(.st 1 (T 20) (T 18)),none,[9,7,0,1,2,3,4,5,6,7]⟩] true)))))))
theorem Agr : (Tryd.f103.body.bind (Kb Tryd.prog Tryd.f103.ntmps)) = some AdG:=by kernel_rfl
theorem Ags : Tryd.f103.results.toList.mapM (Kn Tryd.prog) = some []:=by kernel_rfl
def PN (a : JN × Int × Bool) : List D:=[Ku a.1,.int .i64 a.2.1,.bool a.2.2]
def PM (ds : List D) : JN × Int × Bool:=(Mc (ds.getD 0 .top),uI (ds.getD 1 .top),uBo (ds.getD 2 .top))
theorem Qi (a : JN × Int × Bool) : PM (PN a) = a:=by simp [PM,PN,uI,uBo]
def Ur (b : JN) : D:=.tup []
def Uq (b : JN) : List D:=[Ku b]
noncomputable def MZ : Dw.Spec:=JZ [(0,(8,122))] .val PN PM (fun a=>LV a.1 a.2.1 a.2.2) Ur Uq
set_option maxHeartbeats 4000000 in
theorem Ub : JY Tryd.prog 103 MZ:=by
 refine Ki (Ke (l:=[(115,Nv)]) (by simp [Uu])) Tryd.func103 (by decide) Agr Ags (np:=3) (by decide) Qi (fun _=>r) (fun _=>r) (by decide)<|?_
 rintro ⟨s1,n2,in3⟩
 show TrE (specs [(115,Nv)]) AdG (Kp [(0,(8,122))] .val [] Ur Uq) ⟨[(0,.optr 8192 0 0 0),(1,.int .i64 n2),(2,.bool in3)],[(8192,some (0,⟨false,true,8,122,[.agg [.int .u64 s1.a0,.int .u64 s1.a1,.int .u64 s1.a2,.int .u64 s1.a3,.int .u64 s1.a4,.int .u64 s1.a5,.int .u64 s1.a6,.int .u64 s1.a7]]⟩))],262144⟩ (LV s1 n2 in3)
 refine Kc<|?_
 unfold AdG LV
 refine sQ<|rG<|mV r r<|cT r r<|bN (v:=.int .u64 ((IntKind.u64.wrap (n2)).tmod 64)) r r r r ⟨rfl,(by decide)⟩<|cK fun hq=>bN (v:=.int .u64 (IntKind.u64.wrap (1 * 2 ^ (Nat.min ((IntKind.u64.wrap (n2)).tmod 64).toNat IntKind.u64.bits)))) r r r r hq<|aS r r<|nI<|xS<|bK<|sQ<|rG<|mV r r<|bD fun r4 hr4=>cG n2 r r r QK r r (by simp) r hr4 r<|uN (w:=.bool (!r4)) r r r r trivial<|aS r r<|nI<|xS<|cD (c:=(!r4)) r ?_ ?_
 ·refine sK<|bM<|LC (b:=s1) r ?_ r r ?_ r (by decide)
  all_goals first|(simp;done)|(simp;omega)|rfl|(simp [JT,JQ];done)
 ·refine sQ<|rG<|mV r r<|aS r r<|nI<|xS<|cD (c:=in3) r ?_ ?_
  ·refine rG<|mV r r<|mV r r<|bN (v:=.int .i64 (IntKind.i64.wrap (n2.tdiv 64))) r r r r ⟨rfl,(by decide)⟩<|nC r r r<|cK fun hq=>QA r r r hq<|bD fun s_e5 hs_e5=>QX (q:=s_e5) (l:=s1.toList) (en:=TL) (j:=(IntKind.i64.wrap (n2.tdiv 64)).toNat) (by simp) r r r hs_e5 r (fun _=>r)<|mV r r<|bN (v:=.int .u64 (IntKind.u64.wrap ((BitVec.ofInt IntKind.u64.bits s_e5 ||| BitVec.ofInt IntKind.u64.bits (IntKind.u64.wrap (1 * 2 ^ (Nat.min ((IntKind.u64.wrap (n2)).tmod 64).toNat IntKind.u64.bits)))).toNat))) r r r r r<|nC r r r<|cK fun hq=>QA r r r hq<|bD fun s_o6 hs_o6=>YK (q:=s_o6) (q':=IntKind.u64.wrap ((BitVec.ofInt IntKind.u64.bits s_e5 ||| BitVec.ofInt IntKind.u64.bits (IntKind.u64.wrap (1 * 2 ^ (Nat.min ((IntKind.u64.wrap (n2)).tmod 64).toNat IntKind.u64.bits)))).toNat)) (l:=s1.toList) (en:=TL) (j:=(IntKind.i64.wrap (n2.tdiv 64)).toNat) (z':=.agg [.int .u64 ((s1.set ((IntKind.i64.wrap (n2.tdiv 64)).toNat) (IntKind.u64.wrap ((BitVec.ofInt IntKind.u64.bits s_e5 ||| BitVec.ofInt IntKind.u64.bits (IntKind.u64.wrap (1 * 2 ^ (Nat.min ((IntKind.u64.wrap (n2)).tmod 64).toNat IntKind.u64.bits)))).toNat))).a0),.int .u64 ((s1.set ((IntKind.i64.wrap (n2.tdiv 64)).toNat) (IntKind.u64.wrap ((BitVec.ofInt IntKind.u64.bits s_e5 ||| BitVec.ofInt IntKind.u64.bits (IntKind.u64.wrap (1 * 2 ^ (Nat.min ((IntKind.u64.wrap (n2)).tmod 64).toNat IntKind.u64.bits)))).toNat))).a1),.int .u64 ((s1.set ((IntKind.i64.wrap (n2.tdiv 64)).toNat) (IntKind.u64.wrap ((BitVec.ofInt IntKind.u64.bits s_e5 ||| BitVec.ofInt IntKind.u64.bits (IntKind.u64.wrap (1 * 2 ^ (Nat.min ((IntKind.u64.wrap (n2)).tmod 64).toNat IntKind.u64.bits)))).toNat))).a2),.int .u64 ((s1.set ((IntKind.i64.wrap (n2.tdiv 64)).toNat) (IntKind.u64.wrap ((BitVec.ofInt IntKind.u64.bits s_e5 ||| BitVec.ofInt IntKind.u64.bits (IntKind.u64.wrap (1 * 2 ^ (Nat.min ((IntKind.u64.wrap (n2)).tmod 64).toNat IntKind.u64.bits)))).toNat))).a3),.int .u64 ((s1.set ((IntKind.i64.wrap (n2.tdiv 64)).toNat) (IntKind.u64.wrap ((BitVec.ofInt IntKind.u64.bits s_e5 ||| BitVec.ofInt IntKind.u64.bits (IntKind.u64.wrap (1 * 2 ^ (Nat.min ((IntKind.u64.wrap (n2)).tmod 64).toNat IntKind.u64.bits)))).toNat))).a4),.int .u64 ((s1.set ((IntKind.i64.wrap (n2.tdiv 64)).toNat) (IntKind.u64.wrap ((BitVec.ofInt IntKind.u64.bits s_e5 ||| BitVec.ofInt IntKind.u64.bits (IntKind.u64.wrap (1 * 2 ^ (Nat.min ((IntKind.u64.wrap (n2)).tmod 64).toNat IntKind.u64.bits)))).toNat))).a5),.int .u64 ((s1.set ((IntKind.i64.wrap (n2.tdiv 64)).toNat) (IntKind.u64.wrap ((BitVec.ofInt IntKind.u64.bits s_e5 ||| BitVec.ofInt IntKind.u64.bits (IntKind.u64.wrap (1 * 2 ^ (Nat.min ((IntKind.u64.wrap (n2)).tmod 64).toNat IntKind.u64.bits)))).toNat))).a6),.int .u64 ((s1.set ((IntKind.i64.wrap (n2.tdiv 64)).toNat) (IntKind.u64.wrap ((BitVec.ofInt IntKind.u64.bits s_e5 ||| BitVec.ofInt IntKind.u64.bits (IntKind.u64.wrap (1 * 2 ^ (Nat.min ((IntKind.u64.wrap (n2)).tmod 64).toNat IntKind.u64.bits)))).toNat))).a7)]) (by simp) r r r r r hs_o6 r r (congrArg (fun l=>D.agg (l.map TL)) (Mf s1 ((IntKind.i64.wrap (n2.tdiv 64)).toNat) (IntKind.u64.wrap ((BitVec.ofInt IntKind.u64.bits s_e5 ||| BitVec.ofInt IntKind.u64.bits (IntKind.u64.wrap (1 * 2 ^ (Nat.min ((IntKind.u64.wrap (n2)).tmod 64).toNat IntKind.u64.bits)))).toNat))).symm) r r<|Kf (by kernel_rfl)<|bM<|LC (b:=(s1.set ((IntKind.i64.wrap (n2.tdiv 64)).toNat) (IntKind.u64.wrap ((BitVec.ofInt IntKind.u64.bits s_e5 ||| BitVec.ofInt IntKind.u64.bits (IntKind.u64.wrap (1 * 2 ^ (Nat.min ((IntKind.u64.wrap (n2)).tmod 64).toNat IntKind.u64.bits)))).toNat)))) r ?_ r r ?_ r (by decide)
   all_goals first|(simp;done)|(simp;omega)|rfl|(simp [JT,JQ];done)
  ·refine rG<|mV r r<|mV r r<|bN (v:=.int .i64 (IntKind.i64.wrap (n2.tdiv 64))) r r r r ⟨rfl,(by decide)⟩<|nC r r r<|cK fun hq=>QA r r r hq<|bD fun s_e7 hs_e7=>QX (q:=s_e7) (l:=s1.toList) (en:=TL) (j:=(IntKind.i64.wrap (n2.tdiv 64)).toNat) (by simp) r r r hs_e7 r (fun _=>r)<|mV r r<|bN (v:=.int .u64 (IntKind.u64.wrap ((BitVec.ofInt IntKind.u64.bits s_e7 &&& ~~~ BitVec.ofInt IntKind.u64.bits (IntKind.u64.wrap (1 * 2 ^ (Nat.min ((IntKind.u64.wrap (n2)).tmod 64).toNat IntKind.u64.bits)))).toNat))) r r r r r<|nC r r r<|cK fun hq=>QA r r r hq<|bD fun s_o8 hs_o8=>YK (q:=s_o8) (q':=IntKind.u64.wrap ((BitVec.ofInt IntKind.u64.bits s_e7 &&& ~~~ BitVec.ofInt IntKind.u64.bits (IntKind.u64.wrap (1 * 2 ^ (Nat.min ((IntKind.u64.wrap (n2)).tmod 64).toNat IntKind.u64.bits)))).toNat)) (l:=s1.toList) (en:=TL) (j:=(IntKind.i64.wrap (n2.tdiv 64)).toNat) (z':=.agg [.int .u64 ((s1.set ((IntKind.i64.wrap (n2.tdiv 64)).toNat) (IntKind.u64.wrap ((BitVec.ofInt IntKind.u64.bits s_e7 &&& ~~~ BitVec.ofInt IntKind.u64.bits (IntKind.u64.wrap (1 * 2 ^ (Nat.min ((IntKind.u64.wrap (n2)).tmod 64).toNat IntKind.u64.bits)))).toNat))).a0),.int .u64 ((s1.set ((IntKind.i64.wrap (n2.tdiv 64)).toNat) (IntKind.u64.wrap ((BitVec.ofInt IntKind.u64.bits s_e7 &&& ~~~ BitVec.ofInt IntKind.u64.bits (IntKind.u64.wrap (1 * 2 ^ (Nat.min ((IntKind.u64.wrap (n2)).tmod 64).toNat IntKind.u64.bits)))).toNat))).a1),.int .u64 ((s1.set ((IntKind.i64.wrap (n2.tdiv 64)).toNat) (IntKind.u64.wrap ((BitVec.ofInt IntKind.u64.bits s_e7 &&& ~~~ BitVec.ofInt IntKind.u64.bits (IntKind.u64.wrap (1 * 2 ^ (Nat.min ((IntKind.u64.wrap (n2)).tmod 64).toNat IntKind.u64.bits)))).toNat))).a2),.int .u64 ((s1.set ((IntKind.i64.wrap (n2.tdiv 64)).toNat) (IntKind.u64.wrap ((BitVec.ofInt IntKind.u64.bits s_e7 &&& ~~~ BitVec.ofInt IntKind.u64.bits (IntKind.u64.wrap (1 * 2 ^ (Nat.min ((IntKind.u64.wrap (n2)).tmod 64).toNat IntKind.u64.bits)))).toNat))).a3),.int .u64 ((s1.set ((IntKind.i64.wrap (n2.tdiv 64)).toNat) (IntKind.u64.wrap ((BitVec.ofInt IntKind.u64.bits s_e7 &&& ~~~ BitVec.ofInt IntKind.u64.bits (IntKind.u64.wrap (1 * 2 ^ (Nat.min ((IntKind.u64.wrap (n2)).tmod 64).toNat IntKind.u64.bits)))).toNat))).a4),.int .u64 ((s1.set ((IntKind.i64.wrap (n2.tdiv 64)).toNat) (IntKind.u64.wrap ((BitVec.ofInt IntKind.u64.bits s_e7 &&& ~~~ BitVec.ofInt IntKind.u64.bits (IntKind.u64.wrap (1 * 2 ^ (Nat.min ((IntKind.u64.wrap (n2)).tmod 64).toNat IntKind.u64.bits)))).toNat))).a5),.int .u64 ((s1.set ((IntKind.i64.wrap (n2.tdiv 64)).toNat) (IntKind.u64.wrap ((BitVec.ofInt IntKind.u64.bits s_e7 &&& ~~~ BitVec.ofInt IntKind.u64.bits (IntKind.u64.wrap (1 * 2 ^ (Nat.min ((IntKind.u64.wrap (n2)).tmod 64).toNat IntKind.u64.bits)))).toNat))).a6),.int .u64 ((s1.set ((IntKind.i64.wrap (n2.tdiv 64)).toNat) (IntKind.u64.wrap ((BitVec.ofInt IntKind.u64.bits s_e7 &&& ~~~ BitVec.ofInt IntKind.u64.bits (IntKind.u64.wrap (1 * 2 ^ (Nat.min ((IntKind.u64.wrap (n2)).tmod 64).toNat IntKind.u64.bits)))).toNat))).a7)]) (by simp) r r r r r hs_o8 r r (congrArg (fun l=>D.agg (l.map TL)) (Mf s1 ((IntKind.i64.wrap (n2.tdiv 64)).toNat) (IntKind.u64.wrap ((BitVec.ofInt IntKind.u64.bits s_e7 &&& ~~~ BitVec.ofInt IntKind.u64.bits (IntKind.u64.wrap (1 * 2 ^ (Nat.min ((IntKind.u64.wrap (n2)).tmod 64).toNat IntKind.u64.bits)))).toNat))).symm) r r<|Kf (by kernel_rfl)<|bM<|LC (b:=(s1.set ((IntKind.i64.wrap (n2.tdiv 64)).toNat) (IntKind.u64.wrap ((BitVec.ofInt IntKind.u64.bits s_e7 &&& ~~~ BitVec.ofInt IntKind.u64.bits (IntKind.u64.wrap (1 * 2 ^ (Nat.min ((IntKind.u64.wrap (n2)).tmod 64).toNat IntKind.u64.bits)))).toNat)))) r ?_ r r ?_ r (by decide)
   all_goals first|(simp;done)|(simp;omega)|rfl|(simp [JT,JQ];done)

def AfL : Ka:=(.seq (.reg [P 2 (.asg (.c .top) none)] false) (.seq (.reg [P 6 (.bld [(.int .u64 0),(.int .u64 0),(.int .u64 0),(.int .u64 0),(.int .u64 0),(.int .u64 0),(.int .u64 0),(.int .u64 0)] []),P 7 (.box (T 6) 8 122),P 3 (.asg (T 7) none)] false) (.seq (.seq (.reg [M 8 0,P 9 (.len false (T 8)),P 10 (.mv (C 0))] false) (.block 0 (.loop (.seq (.reg [P 11 (.bin .lss (T 10) (T 9))] false) (.seq (.cond (T 11) .skip (.exit 0)) (.seq (.block 1 (.seq (.reg [P 12 (.ixA 1 (T 8) (T 10)),P 13 (.ld 1 false (T 12)),P 5 (.asg (T 13) none)] false) (.reg [M 14 3,M 15 5,P 16 (.call (.c (.clo 103 [])) [(T 14),(T 15),(.c (.bool true))])] false))) (.reg [P 17 (.bin .add (T 10) (C 1)),M 10 17] false))))))) (.seq (.reg [M 18 3,P 2 (.asg (T 18) none)] false) .ret))))
theorem Ajm : (Tryd.f95.body.bind (Kb Tryd.prog Tryd.f95.ntmps)) = some AfL:=by kernel_rfl
theorem Ajn : Tryd.f95.results.toList.mapM (Kn Tryd.prog) = some [(.t 2)]:=by kernel_rfl
def SZ (a : (List Int)) : List D:=[.sl (a.map JJ)]
def SY (ds : List D) : (List Int):=(uL uI) (ds.getD 0 .top)
theorem MB (a : (List Int)) : SY (SZ a) = a:=by simp [SY,SZ,Lw (u:=uI) (en:=JJ) (fun _=>rfl)]
def Yy (b : JN) : D:=Ku b
def Yx (_b : JN) : List D:=[]
noncomputable def LI : Dw.Spec:=JZ [] (.ptr 8 122) SZ SY (fun a=>Lx a) Yy Yx
set_option maxHeartbeats 4000000 in
theorem QJ : JY Tryd.prog 95 LI:=by
 refine Ki (Ke (l:=[(103,MZ)]) (by simp [Ub])) Tryd.func95 (by decide) Ajm Ajn (np:=1) (by decide) MB (fun _=>r) (fun _=>r) (by decide)<|?_
 intro l1
 show TrE (specs [(103,MZ)]) AfL (Kp [] (.ptr 8 122) [(.t 2)] Yy Yx) ⟨[(0,.sl (l1.map JJ))],[],262144⟩ (Lx l1)
 refine Kc<|?_
 unfold AfL Lx
 refine sQ<|rG<|aS r r<|nI<|xS<|sQ<|rG<|bL (cs:=[.int .u64 0,.int .u64 0,.int .u64 0,.int .u64 0,.int .u64 0,.int .u64 0,.int .u64 0,.int .u64 0]) (ps:=[]) r r r r<|bX r r r r r<|aS r r<|nI<|xS<|sQ<|sQ<|rG<|mV r r<|lS r r<|mV r r<|nI<|xS<|bK<|lP (E:=fun (s : JN × Int) (g : Nat)=>[(3,.optr 7 g 0 0),(8,.sl (l1.map JJ)),(9,.int .i64 (l1.length : Int)),(10,.int .i64 s.2)]) (O:=fun s g=>[(7,some (g,⟨false,true,8,122,[.agg [.int .u64 s.1.a0,.int .u64 s.1.a1,.int .u64 s.1.a2,.int .u64 s.1.a3,.int .u64 s.1.a4,.int .u64 s.1.a5,.int .u64 s.1.a6,.int .u64 s.1.a7]]⟩))]) (body:=fun s=>QI l1 s.1 s.2) (s:=((JN.mk 0 0 0 0 0 0 0 0),0)) _ ((hE ⟨rfl,r,r,r,trivial⟩ ⟨rfl,trivial⟩))<|?_
 rintro ⟨x2,x3⟩ v7x1 nn
 try dsimp only
 unfold QI
 refine sQ<|rG<|bN (v:=.bool (decide (x3 < (l1.length : Int)))) r r r r r<|nI<|xS<|sQ<|cD (c:=(decide (x3 < (l1.length : Int)))) r ?_ ?_
 ·exact sK<|xS<|sQ<|bK<|sQ<|rG<|bD fun x_x4 hx_x4=>iS (en:=JJ) r r r hx_x4 r<|lF (v:=.int .i64 x_x4) r r r r<|aS r r<|nI<|xS<|rG<|mV r r<|mV r r<|bD fun r5 hr5=>cV (x2,x_x4,true) r r r Qi r r (by simp) r hr5<|nI<|bM<|xS<|rG<|bN (v:=.int .i64 (IntKind.i64.wrap (x3 + 1))) r r r r r<|mV r r<|nI<|xL (s:=(r5,IntKind.i64.wrap (x3 + 1))) _ ((hE ⟨rfl,r,r,r,trivial⟩ ⟨rfl,trivial⟩))
 ·refine eT<|xE<|lE<|bH<|xS<|sQ<|rG<|mV r r<|aS r r<|nI<|xS<|rT<|AaT (b:=x2) r ?_ r ?_ r r ?_ r
  all_goals first|(simp;done)|(simp;omega)|rfl|(simp [JT,JQ];done)

def AfN : Ka:=(.seq (.reg [⟨(some 2),(.asg (.c .nils) (some ⟨1,3⟩)),none,[]⟩] false) (.seq (.reg [⟨(some 3),(.asg (.c .nils) (some ⟨1,3⟩)),none,[]⟩] false) (.seq (.seq (.reg [M 6 0,P 7 (.mv (C 0))] false) (.block 0 (.loop (.seq (.reg [P 8 (.bin .lss (T 7) (C 8))] false) (.seq (.cond (T 8) .skip (.exit 0)) (.seq (.block 1 (.seq (.reg [M 9 7,P 10 (.nilck (T 6)),⟨(some 11),(.ixP 1 8 (T 10) (T 7)),none,[1]⟩,⟨(some 12),(.ld 1 false (T 11)),none,[2]⟩,⟨(some 4),(.asg (T 9) none),none,[0,0]⟩,⟨(some 5),(.asg (T 12) none),none,[3,4,0,1,2,3,4]⟩] true) (.block 2 (.loop (.seq (.seq (.reg [M 13 5,P 14 (.bin .neq (T 13) (.c (.int .u64 0)))] false) (.cond (T 14) .skip (.exit 2))) (.seq (.block 3 (.reg [M 19 3,M 20 4,P 21 (.bin .mul (C 64) (T 20)),M 22 5,P 23 (.call (.c (.clo 117 [])) [(T 22)]),P 24 (.bin .add (T 21) (T 23)),⟨(some 25),(.bldS 1 3 (.int .i64 0) 1 [⟨0,(T 24)⟩]),none,[]⟩,P 26 (.app 1 3 8 (T 19) (T 25)),⟨(some 3),(.asg (T 26) (some ⟨1,3⟩)),none,[]⟩] false)) (.reg [M 15 5,M 16 5,P 17 (.bin .sub (T 16) (.c (.int .u64 1))),P 18 (.bin .and (T 15) (T 17)),P 5 (.asg (T 18) none)] false))))))) (.reg [P 27 (.bin .add (T 7) (C 1)),M 7 27] false))))))) (.seq (.reg [M 28 3,⟨(some 2),(.asg (T 28) (some ⟨1,3⟩)),none,[]⟩] false) .ret))))
theorem Ajq : (Tryd.f98.body.bind (Kb Tryd.prog Tryd.f98.ntmps)) = some AfN:=by kernel_rfl
theorem Ajr : Tryd.f98.results.toList.mapM (Kn Tryd.prog) = some [(.t 2)]:=by kernel_rfl
def Pk (a : JN) : List D:=[Ku a]
def Pj (ds : List D) : JN:=Mc (ds.getD 0 .top)
theorem Mr (a : JN) : Pj (Pk a) = a:=by simp [Pj,Pk]
def Ua (b : (List Int) × JN) : D:=.sl (b.1.map JJ)
def TZ (b : (List Int) × JN) : List D:=[Ku b.2]
noncomputable def KM : Dw.Spec:=JZ [(0,(8,122))] (.row 1 3) Pk Pj (fun a=>KV a) Ua TZ
set_option maxHeartbeats 4000000 in
theorem NP : JY Tryd.prog 98 KM:=by
 refine Ki (Ke (l:=[(117,AbK)]) (by simp [AgX])) Tryd.func98 (by decide) Ajq Ajr (np:=1) (by decide) Mr (fun _=>r) (fun _=>r) (by decide)<|?_
 intro s1
 show TrE (specs [(117,AbK)]) AfN (Kp [(0,(8,122))] (.row 1 3) [(.t 2)] Ua TZ) ⟨[(0,.optr 8192 0 0 0)],[(8192,some (0,⟨false,true,8,122,[.agg [.int .u64 s1.a0,.int .u64 s1.a1,.int .u64 s1.a2,.int .u64 s1.a3,.int .u64 s1.a4,.int .u64 s1.a5,.int .u64 s1.a6,.int .u64 s1.a7]]⟩))],262144⟩ (KV s1)
 refine Kc<|?_
 unfold AfN KV
 refine sQ<|rG<|aN (α:=Int) r JJ r<|nI<|xS<|sQ<|rG<|aN (α:=Int) r JJ r<|nI<|xS<|sQ<|sQ<|rG<|mV r r<|mV r r<|nI<|xS<|bK<|lP (E:=fun (s : (List Int) × Int) (g : Nat)=>[(3,.osl 3 g 0 s.1.length),(6,.optr 8192 0 0 0),(7,.int .i64 s.2)]) (O:=fun s g=>[(3,some (g,⟨false,false,1,3,s.1.map JJ⟩)),(8192,some (0,⟨false,true,8,122,[.agg [.int .u64 s1.a0,.int .u64 s1.a1,.int .u64 s1.a2,.int .u64 s1.a3,.int .u64 s1.a4,.int .u64 s1.a5,.int .u64 s1.a6,.int .u64 s1.a7]]⟩))]) (body:=fun s=>NN s1 s.1 s.2) (s:=(([] : List Int),0)) _ ((hE ⟨rfl,r,r,trivial⟩ ⟨rfl,r,trivial⟩))<|?_
 rintro ⟨l2,x3⟩ v3x1 nn
 try dsimp only
 unfold NN
 refine sQ<|rG<|bN (v:=.bool (decide (x3 < 8))) r r r r r<|nI<|xS<|sQ<|cD (c:=(decide (x3 < 8))) r ?_ ?_
 ·refine sK<|xS<|sQ<|bK<|sQ<|rG<|mV r r<|nC r r r<|cK fun hq=>QA r r r hq<|bD fun s_e4 hs_e4=>QX (q:=s_e4) (l:=s1.toList) (en:=TL) (j:=x3.toNat) (by simp) r r r hs_e4 r (fun _=>r)<|aS r r<|aS r r<|Kf (by kernel_rfl)<|xS<|bK<|lP (E:=fun (s : (List Int) × Int) (g : Nat)=>[(3,.osl 3 g 0 s.1.length),(4,.int .i64 x3),(5,.int .u64 s.2),(6,.optr 8192 0 0 0),(7,.int .i64 x3)]) (O:=fun s g=>[(3,some (g,⟨false,false,1,3,s.1.map JJ⟩)),(8192,some (0,⟨false,true,8,122,[.agg [.int .u64 s1.a0,.int .u64 s1.a1,.int .u64 s1.a2,.int .u64 s1.a3,.int .u64 s1.a4,.int .u64 s1.a5,.int .u64 s1.a6,.int .u64 s1.a7]]⟩))]) (body:=fun s=>NO x3 s.1 s.2) (s:=(l2,s_e4)) _ ((hE ⟨rfl,r,r,r,r,trivial⟩ ⟨rfl,r,trivial⟩))<|?_
  rintro ⟨l5,x6⟩ v3x2 nn
  try dsimp only
  unfold NO
  refine sQ<|sQ<|rG<|mV r r<|bN (v:=.bool (x6 != 0)) r r r r r<|nI<|xS<|cD (c:=(x6 != 0)) r ?_ ?_
  ·exact sK<|xS<|sQ<|bK<|rG<|mV r r<|mV r r<|bN (v:=.int .i64 (IntKind.i64.wrap (64 * x3))) r r r r r<|mV r r<|bD fun r7 hr7=>cG x6 r r r Ady r r (by simp) r hr7 r<|bN (v:=.int .i64 (IntKind.i64.wrap ((IntKind.i64.wrap (64 * x3)) + r7))) r r r r r<|bS ([IntKind.i64.wrap ((IntKind.i64.wrap (64 * x3)) + r7)] : List Int) JJ r r r (by simp) r r r<|cK fun hq=>aP (l5) (([IntKind.i64.wrap ((IntKind.i64.wrap (64 * x3)) + r7)] : List Int)) JJ r r r r r r r (by simp) (Ko _ _ r) r r (by simp) (JS _ _ r) (fun _=>r) r hq<|aO (l:=l5 ++ ([IntKind.i64.wrap ((IntKind.i64.wrap (64 * x3)) + r7)] : List Int)) (en:=JJ) r r r r<|nI<|bM<|xS<|rG<|mV r r<|mV r r<|bN (v:=.int .u64 (IntKind.u64.wrap (x6 - 1))) r r r r r<|bN (v:=.int .u64 (IntKind.u64.wrap ((BitVec.ofInt IntKind.u64.bits x6 &&& BitVec.ofInt IntKind.u64.bits (IntKind.u64.wrap (x6 - 1))).toNat))) r r r r r<|aS r r<|nI<|xL (s:=(l5 ++ ([IntKind.i64.wrap ((IntKind.i64.wrap (64 * x3)) + r7)] : List Int),IntKind.u64.wrap ((BitVec.ofInt IntKind.u64.bits x6 &&& BitVec.ofInt IntKind.u64.bits (IntKind.u64.wrap (x6 - 1))).toNat))) _ ((hE ⟨rfl,r,r,r,r,trivial⟩ ⟨rfl,r,trivial⟩))
  ·exact eT<|xE<|lE<|bH<|bM<|xS<|rG<|bN (v:=.int .i64 (IntKind.i64.wrap (x3 + 1))) r r r r r<|mV r r<|nI<|xL (s:=(l5,IntKind.i64.wrap (x3 + 1))) _ ((hE ⟨rfl,r,r,trivial⟩ ⟨rfl,r,trivial⟩))
 ·refine eT<|xE<|lE<|bH<|xS<|sQ<|rG<|mV r r<|aO (l:=l2) (en:=JJ) r r r r<|nI<|xS<|rT<|Kt (b:=(l2,s1)) r ?_ r r ?_ r ?_ (congrArg D.sl (JS _ _ r)) r
  all_goals first|(simp;done)|(simp;omega)|rfl|(simp [JT,JQ];done)

def Afw : Ka:=(.seq (.reg [⟨(some 4),(.asg (.c .nils) (some ⟨1,3⟩)),none,[]⟩] false) (.seq (.reg [M 6 0,P 7 (.call (.c (.clo 95 [])) [(T 6)]),P 5 (.asg (T 7) none)] false) (.seq (.reg [M 8 5,M 9 1,P 10 (.call (.c (.clo 103 [])) [(T 8),(T 9),(.c (.bool false))])] false) (.seq (.reg [M 11 5,P 12 (.call (.c (.clo 98 [])) [(T 11)]),⟨(some 4),(.asg (T 12) (some ⟨1,3⟩)),none,[]⟩] false) .ret))))
theorem AiI : (Tryd.f77.body.bind (Kb Tryd.prog Tryd.f77.ntmps)) = some Afw:=by kernel_rfl
theorem AiJ : Tryd.f77.results.toList.mapM (Kn Tryd.prog) = some [(.t 4)]:=by kernel_rfl
def SX (a : (List Int) × Int) : List D:=[.sl (a.1.map JJ),.int .i64 a.2]
def SW (ds : List D) : (List Int) × Int:=((uL uI) (ds.getD 0 .top),uI (ds.getD 1 .top))
theorem XM (a : (List Int) × Int) : SW (SX a) = a:=by simp [SW,SX,uI,Lw (u:=uI) (en:=JJ) (fun _=>rfl)]
def Uo (b : (List Int)) : D:=.sl (b.map JJ)
def Yv (_b : (List Int)) : List D:=[]
noncomputable def Up : Dw.Spec:=JZ [] .val SX SW (fun a=>Ov a.1 a.2) Uo Yv
set_option maxHeartbeats 4000000 in
theorem Abr : JY Tryd.prog 77 Up:=by
 refine Ki (Ke (l:=[(95,LI),(103,MZ),(98,KM)]) (by simp [QJ,Ub,NP])) Tryd.func77 (by decide) AiI AiJ (np:=2) (by decide) XM (fun _=>r) (fun _=>r) (by decide)<|?_
 rintro ⟨s1,n2⟩
 show TrE (specs [(95,LI),(103,MZ),(98,KM)]) Afw (Kp [] .val [(.t 4)] Uo Yv) ⟨[(0,.sl (s1.map JJ)),(1,.int .i64 n2)],[],262144⟩ (Ov s1 n2)
 refine Kc<|?_
 unfold Afw Ov
 refine sQ<|rG<|aN (α:=Int) r JJ r<|nI<|xS<|sQ<|rG<|mV r r<|bD fun r3 hr3=>cP s1 r r r MB r r (by simp) r hr3<|aS r r<|nI<|xS<|sQ<|rG<|mV r r<|mV r r<|bD fun r4 hr4=>cV (r3,n2,false) r r r Qi r r (by simp) r hr4<|nI<|xS<|sQ<|rG<|mV r r<|bD fun r5 hr5=>cR (l:=r5.1) (en:=JJ) r4 r r r Mr r r (by simp) r hr5 r<|aO (l:=r5.1) (en:=JJ) r r r r<|nI<|xS<|rT<|KG (b:=r5.1) r ?_ r r ?_ (by first | rfl | (simp only [Kg,Kk]; rfl) | simp [Uo])
 all_goals first|(simp;done)|(simp;omega)|rfl|(simp [JT,JQ];done)

def AdF : Ka:=(.seq (.reg [P 1 (.box (T 0) 5 66),⟨(some 2),(.asg (.c .nils) (some ⟨1,3⟩)),none,[]⟩] false) (.seq (.seq (.reg [P 3 (.fldA 0 (T 1)),P 4 (.ld 1 false (T 3))] false) (.block 0 (.seq (.seq (.reg [P 6 (.bin .eql (T 4) (C 15)),P 5 (.asg (T 6) none)] false) (.cond (T 5) .skip (.reg [P 7 (.bin .eql (T 4) (C 17)),P 5 (.asg (T 7) none)] false))) (.cond (T 5) (.seq (.reg [P 8 (.fldA 2 (T 1)),P 9 (.ld 1 false (T 8)),⟨(some 10),(.bldS 1 3 (.int .i64 0) 1 [⟨0,(T 9)⟩]),none,[]⟩,⟨(some 2),(.asg (T 10) (some ⟨1,3⟩)),none,[]⟩] false) .ret) .skip)))) (.seq (.reg [⟨(some 2),(.asg (.c .nils) (some ⟨1,3⟩)),none,[]⟩] false) .ret)))
theorem Agp : (Tryd.f102.body.bind (Kb Tryd.prog Tryd.f102.ntmps)) = some AdF:=by kernel_rfl
theorem Agq : Tryd.f102.results.toList.mapM (Kn Tryd.prog) = some [(.t 2)]:=by kernel_rfl
def Uy (a : JL) : List D:=[JM a]
def Ux (ds : List D) : JL:=QB (ds.getD 0 .top)
theorem Vt (a : JL) : Ux (Uy a) = a:=by simp [Ux,Uy]
def ZL (b : (List Int)) : D:=.sl (b.map JJ)
def ZK (_b : (List Int)) : List D:=[]
noncomputable def WG : Dw.Spec:=JZ [] (.row 1 3) Uy Ux (fun a=>PR a) ZL ZK
set_option maxHeartbeats 4000000 in
theorem AbQ : JY Tryd.prog 102 WG:=by
 refine Ki (KI) Tryd.func102 (by decide) Agp Agq (np:=1) (by decide) Vt (fun _=>r) (fun _=>r) (by decide)<|?_
 intro x1
 show TrE (specs []) AdF (Kp [] (.row 1 3) [(.t 2)] ZL ZK) ⟨[(0,.agg [.int .i64 x1.Op,.int .i64 x1.A,.int .i64 x1.B,.int .i64 x1.C,.int .u64 x1.Imm])],[],262144⟩ (PR x1)
 refine Kc<|?_
 unfold AdF PR
 refine sQ<|rG<|bX r r r r r<|aN (α:=Int) r JJ r<|nI<|xS<|sQ<|sQ<|rG<|fA r r<|lO (v:=.int .i64 x1.Op) (z:=.agg [.int .i64 x1.Op,.int .i64 x1.A,.int .i64 x1.B,.int .i64 x1.C,.int .u64 x1.Imm]) r r r r r r<|nI<|xS<|bK<|sQ<|sQ<|rG<|bN (v:=.bool (x1.Op == 15)) r r r r r<|aS r r<|nI<|xS<|cD (c:=(x1.Op == 15)) r ?_ ?_
 ·refine sK<|xS<|cD (c:=(x1.Op == 15)) r ?_ ?_
  ·refine sQ<|rG<|fA r r<|lO (v:=.int .i64 x1.B) (z:=.agg [.int .i64 x1.Op,.int .i64 x1.A,.int .i64 x1.B,.int .i64 x1.C,.int .u64 x1.Imm]) r r r r r r<|bS ([x1.B] : List Int) JJ r r r (by simp) r r r<|aO (l:=([x1.B] : List Int)) (en:=JJ) r r r r<|nI<|xS<|rT<|bR<|xR<|Kt (b:=([x1.B] : List Int)) r ?_ r r ?_ r ?_ (congrArg D.sl (JS _ _ r)) r
   all_goals first|(simp;done)|(simp;omega)|rfl|(simp [JT,JQ];done)
  ·refine sK<|bM<|xS<|sQ<|rG<|aN (α:=Int) r JJ r<|nI<|xS<|rT<|Kt (b:=([] : List Int)) r ?_ r r ?_ r ?_ (congrArg D.sl (JS _ _ r)) r
   all_goals first|(simp;done)|(simp;omega)|rfl|(simp [JT,JQ];done)
 ·refine rG<|bN (v:=.bool (x1.Op == 17)) r r r r r<|aS r r<|nI<|xS<|cD (c:=(x1.Op == 17)) r ?_ ?_
  ·refine sQ<|rG<|fA r r<|lO (v:=.int .i64 x1.B) (z:=.agg [.int .i64 x1.Op,.int .i64 x1.A,.int .i64 x1.B,.int .i64 x1.C,.int .u64 x1.Imm]) r r r r r r<|bS ([x1.B] : List Int) JJ r r r (by simp) r r r<|aO (l:=([x1.B] : List Int)) (en:=JJ) r r r r<|nI<|xS<|rT<|bR<|xR<|Kt (b:=([x1.B] : List Int)) r ?_ r r ?_ r ?_ (congrArg D.sl (JS _ _ r)) r
   all_goals first|(simp;done)|(simp;omega)|rfl|(simp [JT,JQ];done)
  ·refine sK<|bM<|xS<|sQ<|rG<|aN (α:=Int) r JJ r<|nI<|xS<|rT<|Kt (b:=([] : List Int)) r ?_ r r ?_ r ?_ (congrArg D.sl (JS _ _ r)) r
   all_goals first|(simp;done)|(simp;omega)|rfl|(simp [JT,JQ];done)

def AdE : Ka:=(.seq (.reg [⟨(some 2),(.asg (.c .nils) (some ⟨1,3⟩)),none,[]⟩] false) (.seq (.reg [M 3 0,P 4 (.call (.c (.clo 95 [])) [(T 3)]),P 5 (.call (.c (.clo 98 [])) [(T 4)]),⟨(some 2),(.asg (T 5) (some ⟨1,3⟩)),none,[]⟩] false) .ret))
theorem Agn : (Tryd.f101.body.bind (Kb Tryd.prog Tryd.f101.ntmps)) = some AdE:=by kernel_rfl
theorem Ago : Tryd.f101.results.toList.mapM (Kn Tryd.prog) = some [(.t 2)]:=by kernel_rfl
def Rb (a : (List Int)) : List D:=[.sl (a.map JJ)]
def WC (ds : List D) : (List Int):=(uL uI) (ds.getD 0 .top)
theorem XL (a : (List Int)) : WC (Rb a) = a:=by simp [WC,Rb,Lw (u:=uI) (en:=JJ) (fun _=>rfl)]
def Abc (b : (List Int)) : D:=.sl (b.map JJ)
def Abb (_b : (List Int)) : List D:=[]
noncomputable def YL : Dw.Spec:=JZ [] (.row 1 3) Rb WC (fun a=>QC a) Abc Abb
set_option maxHeartbeats 4000000 in
theorem AcD : JY Tryd.prog 101 YL:=by
 refine Ki (Ke (l:=[(95,LI),(98,KM)]) (by simp [QJ,NP])) Tryd.func101 (by decide) Agn Ago (np:=1) (by decide) XL (fun _=>r) (fun _=>r) (by decide)<|?_
 intro l1
 show TrE (specs [(95,LI),(98,KM)]) AdE (Kp [] (.row 1 3) [(.t 2)] Abc Abb) ⟨[(0,.sl (l1.map JJ))],[],262144⟩ (QC l1)
 refine Kc<|?_
 unfold AdE QC
 refine sQ<|rG<|aN (α:=Int) r JJ r<|nI<|xS<|sQ<|rG<|mV r r<|bD fun r2 hr2=>cP l1 r r r MB r r (by simp) r hr2<|bD fun r3 hr3=>cR (l:=r3.1) (en:=JJ) r2 r r r Mr r r (by simp) r hr3 r<|aO (l:=r3.1) (en:=JJ) r r r r<|nI<|xS<|rT<|Kt (b:=r3.1) r ?_ r r ?_ r ?_ (congrArg D.sl (JS _ _ r)) r
 all_goals first|(simp;done)|(simp;omega)|rfl|(simp [JT,JQ];done)

def AfM : Ka:=(.seq (.reg [P 4 (.asg (.c (.int .u64 0)) none)] false) (.seq (.reg [M 5 0,M 6 1,P 7 (.bin .or (T 5) (T 6)),P 4 (.asg (T 7) none)] false) .ret))
theorem Ajo : (Tryd.f97.body.bind (Kb Tryd.prog Tryd.f97.ntmps)) = some AfM:=by kernel_rfl
theorem Ajp : Tryd.f97.results.toList.mapM (Kn Tryd.prog) = some [(.t 4)]:=by kernel_rfl
def Sf (a : Int × Int) : List D:=[.int .u64 a.1,.int .u64 a.2]
def Se (ds : List D) : Int × Int:=(uI (ds.getD 0 .top),uI (ds.getD 1 .top))
theorem Xb (a : Int × Int) : Se (Sf a) = a:=by simp [Se,Sf,uI]
def XO (b : Int) : D:=.int .u64 b
def XN (_b : Int) : List D:=[]
noncomputable def TI : Dw.Spec:=JZ [] .ground Sf Se (fun a=>ON a.1 a.2) XO XN
set_option maxHeartbeats 4000000 in
theorem AaX : JY Tryd.prog 97 TI:=by
 refine Ki (KI) Tryd.func97 (by decide) Ajo Ajp (np:=2) (by decide) Xb (fun _=>r) (fun _=>r) (by decide)<|?_
 rintro ⟨x1,y2⟩
 show TrE (specs []) AfM (Kp [] .ground [(.t 4)] XO XN) ⟨[(0,.int .u64 x1),(1,.int .u64 y2)],[],262144⟩ (ON x1 y2)
 refine Kc<|?_
 unfold AfM ON
 refine sQ<|rG<|aS r r<|nI<|xS<|sQ<|rG<|mV r r<|mV r r<|bN (v:=.int .u64 (IntKind.u64.wrap ((BitVec.ofInt IntKind.u64.bits x1 ||| BitVec.ofInt IntKind.u64.bits y2).toNat))) r r r r r<|aS r r<|nI<|xS<|rT<|JX (b:=IntKind.u64.wrap ((BitVec.ofInt IntKind.u64.bits x1 ||| BitVec.ofInt IntKind.u64.bits y2).toNat)) r ?_ r r ?_ r
 all_goals first|(simp;done)|(simp;omega)|rfl|(simp [JT,JQ];done)

def AcK : Ka:=(.seq (.reg [P 6 (.asg (.c .top) none)] false) (.seq (.reg [P 9 (.bld [(.int .u64 0),(.int .u64 0),(.int .u64 0),(.int .u64 0),(.int .u64 0),(.int .u64 0),(.int .u64 0),(.int .u64 0)] []),P 10 (.box (T 9) 8 122),P 7 (.asg (T 10) none)] false) (.seq (.seq (.reg [P 11 (.mv (C 0))] false) (.block 0 (.loop (.seq (.reg [P 12 (.bin .lss (T 11) (C 8))] false) (.seq (.cond (T 12) .skip (.exit 0)) (.seq (.block 1 (.seq (.reg [M 13 11,P 8 (.asg (T 13) none)] false) (.reg [M 14 7,M 15 8,M 16 2,M 17 0,M 18 8,⟨(some 19),(.nilck (T 17)),none,[3]⟩,⟨(some 20),(.ixP 1 8 (T 19) (T 18)),none,[5,4]⟩,⟨(some 21),(.ld 1 false (T 20)),none,[6]⟩,M 22 1,M 23 8,⟨(some 24),(.nilck (T 22)),none,[8]⟩,⟨(some 25),(.ixP 1 8 (T 24) (T 23)),none,[10,9]⟩,⟨(some 26),(.ld 1 false (T 25)),none,[11]⟩,⟨(some 27),(.call (T 16) [(T 21),(T 26)]),none,[2,7,12]⟩,⟨(some 28),(.nilck (T 14)),none,[0]⟩,⟨(some 29),(.ixP 1 8 (T 28) (T 15)),none,[14,1,0,1,2,3,4,5,6,7,8,9,10,11,12,13]⟩,⟨none,(.st 1 (T 29) (T 27)),none,[15,13,13,0,1,2,3,4,5,6,7,8,9,10,11,12,13]⟩] true))) (.reg [P 30 (.bin .add (T 11) (C 1)),M 11 30] false))))))) (.seq (.reg [M 31 7,P 6 (.asg (T 31) none)] false) .ret))))
theorem Aeg : (Tryd.f96.body.bind (Kb Tryd.prog Tryd.f96.ntmps)) = some AcK:=by kernel_rfl
theorem Aeh : Tryd.f96.results.toList.mapM (Kn Tryd.prog) = some [(.t 6)]:=by kernel_rfl
def MW (a : JN × JN) : List D:=[Ku a.1,Ku a.2,.clo 97 []]
def MV (ds : List D) : JN × JN:=(Mc (ds.getD 0 .top),Mc (ds.getD 1 .top))
theorem Pw (a : JN × JN) : MV (MW a) = a:=by simp [MV,MW]
def Qc (b : JN × JN × JN) : D:=Ku b.1
def Qb (b : JN × JN × JN) : List D:=[Ku b.2.1,Ku b.2.2]
noncomputable def LU : Dw.Spec:=JZ [(0,(8,122)),(1,(8,122))] (.ptr 8 122) MW MV (fun a=>KY a.1 a.2) Qc Qb
set_option maxHeartbeats 4000000 in
theorem Ut : JY Tryd.prog 96 LU:=by
 refine Ki (Ke (l:=[(97,TI)]) (by simp [AaX])) Tryd.func96 (by decide) Aeg Aeh (np:=3) (by decide) Pw (fun _=>r) (fun _=>r) (by decide)<|?_
 rintro ⟨s1,t2⟩
 show TrE (specs [(97,TI)]) AcK (Kp [(0,(8,122)),(1,(8,122))] (.ptr 8 122) [(.t 6)] Qc Qb) ⟨[(0,.optr 8192 0 0 0),(1,.optr 8193 1 0 0),(2,.clo 97 [])],[(8192,some (0,⟨false,true,8,122,[.agg [.int .u64 s1.a0,.int .u64 s1.a1,.int .u64 s1.a2,.int .u64 s1.a3,.int .u64 s1.a4,.int .u64 s1.a5,.int .u64 s1.a6,.int .u64 s1.a7]]⟩)),(8193,some (1,⟨false,true,8,122,[.agg [.int .u64 t2.a0,.int .u64 t2.a1,.int .u64 t2.a2,.int .u64 t2.a3,.int .u64 t2.a4,.int .u64 t2.a5,.int .u64 t2.a6,.int .u64 t2.a7]]⟩))],262144⟩ (KY s1 t2)
 refine Kc<|?_
 unfold AcK KY
 refine sQ<|rG<|aS r r<|nI<|xS<|sQ<|rG<|bL (cs:=[.int .u64 0,.int .u64 0,.int .u64 0,.int .u64 0,.int .u64 0,.int .u64 0,.int .u64 0,.int .u64 0]) (ps:=[]) r r r r<|bX r r r r r<|aS r r<|nI<|xS<|sQ<|sQ<|rG<|mV r r<|nI<|xS<|bK<|lP (E:=fun (s : JN × Int) (g : Nat)=>[(0,.optr 8192 0 0 0),(1,.optr 8193 1 0 0),(2,.clo 97 []),(7,.optr 10 g 0 0),(11,.int .i64 s.2)]) (O:=fun s g=>[(10,some (g,⟨false,true,8,122,[.agg [.int .u64 s.1.a0,.int .u64 s.1.a1,.int .u64 s.1.a2,.int .u64 s.1.a3,.int .u64 s.1.a4,.int .u64 s.1.a5,.int .u64 s.1.a6,.int .u64 s.1.a7]]⟩)),(8192,some (0,⟨false,true,8,122,[.agg [.int .u64 s1.a0,.int .u64 s1.a1,.int .u64 s1.a2,.int .u64 s1.a3,.int .u64 s1.a4,.int .u64 s1.a5,.int .u64 s1.a6,.int .u64 s1.a7]]⟩)),(8193,some (1,⟨false,true,8,122,[.agg [.int .u64 t2.a0,.int .u64 t2.a1,.int .u64 t2.a2,.int .u64 t2.a3,.int .u64 t2.a4,.int .u64 t2.a5,.int .u64 t2.a6,.int .u64 t2.a7]]⟩))]) (body:=fun s=>Li s1 t2 s.1 s.2) (s:=((JN.mk 0 0 0 0 0 0 0 0),0)) _ ((hE ⟨rfl,r,r,r,r,trivial⟩ ⟨rfl,r,r,trivial⟩))<|?_
 rintro ⟨x3,x4⟩ v10x1 nn
 try dsimp only
 unfold Li
 refine sQ<|rG<|bN (v:=.bool (decide (x4 < 8))) r r r r r<|nI<|xS<|sQ<|cD (c:=(decide (x4 < 8))) r ?_ ?_
 ·exact sK<|xS<|sQ<|bK<|sQ<|rG<|mV r r<|aS r r<|nI<|xS<|rG<|mV r r<|mV r r<|mV r r<|mV r r<|mV r r<|nC r r r<|cK fun hq=>QA r r r hq<|bD fun s_e5 hs_e5=>QX (q:=s_e5) (l:=s1.toList) (en:=TL) (j:=x4.toNat) (by simp) r r r hs_e5 r (fun _=>r)<|mV r r<|mV r r<|nC r r r<|cK fun hq=>QA r r r hq<|bD fun t_e6 ht_e6=>QX (q:=t_e6) (l:=t2.toList) (en:=TL) (j:=x4.toNat) (by simp) r r r ht_e6 r (fun _=>r)<|bD fun r7 hr7=>cG (s_e5,t_e6) r r r Xb r r (by simp) r hr7 r<|nC r r r<|cK fun hq=>QA r r r hq<|bD fun x_o8 hx_o8=>AbJ (q:=x_o8) (q':=r7) (l:=x3.toList) (en:=TL) (j:=x4.toNat) (z':=.agg [.int .u64 ((x3.set x4.toNat r7).a0),.int .u64 ((x3.set x4.toNat r7).a1),.int .u64 ((x3.set x4.toNat r7).a2),.int .u64 ((x3.set x4.toNat r7).a3),.int .u64 ((x3.set x4.toNat r7).a4),.int .u64 ((x3.set x4.toNat r7).a5),.int .u64 ((x3.set x4.toNat r7).a6),.int .u64 ((x3.set x4.toNat r7).a7)]) (by simp) r r r r r hx_o8 r r (congrArg (fun l=>D.agg (l.map TL)) (Mf x3 x4.toNat r7).symm)<|Kf (by kernel_rfl)<|bM<|xS<|rG<|bN (v:=.int .i64 (IntKind.i64.wrap (x4 + 1))) r r r r r<|mV r r<|nI<|xL (s:=((x3.set x4.toNat r7),IntKind.i64.wrap (x4 + 1))) _ ((hE ⟨rfl,r,r,r,r,trivial⟩ ⟨rfl,r,r,trivial⟩))
 ·refine eT<|xE<|lE<|bH<|xS<|sQ<|rG<|mV r r<|aS r r<|nI<|xS<|rT<|AaT (b:=(x3,s1,t2)) r ?_ r ?_ r r ?_ r
  all_goals first|(simp;done)|(simp;omega)|rfl|(simp [JT,JQ];done)

def Afp : Ka:=(.seq (.reg [⟨(some 4),(.asg (.c .nils) (some ⟨1,3⟩)),none,[]⟩] false) (.seq (.reg [M 5 0,P 6 (.call (.c (.clo 95 [])) [(T 5)]),M 7 1,P 8 (.call (.c (.clo 95 [])) [(T 7)]),P 9 (.call (.c (.clo 96 [])) [(T 6),(T 8),(.c (.clo 97 []))]),P 10 (.call (.c (.clo 98 [])) [(T 9)]),⟨(some 4),(.asg (T 10) (some ⟨1,3⟩)),none,[]⟩] false) .ret))
theorem Aiu : (Tryd.f69.body.bind (Kb Tryd.prog Tryd.f69.ntmps)) = some Afp:=by kernel_rfl
theorem Aiv : Tryd.f69.results.toList.mapM (Kn Tryd.prog) = some [(.t 4)]:=by kernel_rfl
def OT (a : (List Int) × (List Int)) : List D:=[.sl (a.1.map JJ),.sl (a.2.map JJ)]
def TJ (ds : List D) : (List Int) × (List Int):=((uL uI) (ds.getD 0 .top),(uL uI) (ds.getD 1 .top))
theorem RX (a : (List Int) × (List Int)) : TJ (OT a) = a:=by simp [TJ,OT,Lw (u:=uI) (en:=JJ) (fun _=>rfl)]
def Vq (b : (List Int)) : D:=.sl (b.map JJ)
def Zc (_b : (List Int)) : List D:=[]
noncomputable def Qh : Dw.Spec:=JZ [] .val OT TJ (fun a=>MY a.1 a.2) Vq Zc
set_option maxHeartbeats 4000000 in
theorem Yw : JY Tryd.prog 69 Qh:=by
 refine Ki (Ke (l:=[(95,LI),(401504,LU),(98,KM)]) (by simp [QJ,Ut,NP])) Tryd.func69 (by decide) Aiu Aiv (np:=2) (by decide) RX (fun _=>r) (fun _=>r) (by decide)<|?_
 rintro ⟨a1,b2⟩
 show TrE (specs [(95,LI),(401504,LU),(98,KM)]) Afp (Kp [] .val [(.t 4)] Vq Zc) ⟨[(0,.sl (a1.map JJ)),(1,.sl (b2.map JJ))],[],262144⟩ (MY a1 b2)
 refine Kc<|?_
 unfold Afp MY
 refine sQ<|rG<|aN (α:=Int) r JJ r<|nI<|xS<|sQ<|rG<|mV r r<|bD fun r3 hr3=>cP a1 r r r MB r r (by simp) r hr3<|mV r r<|bD fun r4 hr4=>cP b2 r r r MB r r (by simp) rfl hr4<|bD fun r5 hr5=>cP (r3,r4) rfl rfl (show _ = some LU from by kernel_rfl) Pw rfl rfl (by simp) r hr5<|bD fun r6 hr6=>cR (l:=r6.1) (en:=JJ) r5.1 r r r Mr r r (by simp) r hr6 r<|aO (l:=r6.1) (en:=JJ) r r r r<|nI<|xS<|rT<|KG (b:=r6.1) r ?_ r r ?_ (by first | rfl | (simp only [Kg,Kk]; rfl) | simp [Vq])
 all_goals first|(simp;done)|(simp;omega)|rfl|(simp [JT,JQ];done)

def Aft : Ka:=(.seq (.reg [P 2 (.box (T 0) 5 66),⟨(some 4),(.asg (.c .nils) (some ⟨1,3⟩)),none,[]⟩] false) (.seq (.seq (.reg [P 8 (.ld 5 true (T 2)),P 9 (.call (.c (.clo 100 [])) [(T 8)]),M 7 9,P 10 (.ext (T 7) 0),P 11 (.ext (T 7) 1),P 5 (.asg (T 10) none),P 6 (.asg (T 11) none)] false) (.seq (.reg [M 12 6] false) (.cond (T 12) (.reg [M 13 1,M 14 5,P 15 (.call (.c (.clo 77 [])) [(T 13),(T 14)]),⟨(some 1),(.asg (T 15) (some ⟨1,3⟩)),none,[]⟩] false) .skip))) (.seq (.reg [M 16 1,P 17 (.ld 5 true (T 2)),P 18 (.call (.c (.clo 102 [])) [(T 17)]),P 19 (.call (.c (.clo 101 [])) [(T 18)]),P 20 (.call (.c (.clo 69 [])) [(T 16),(T 19)]),⟨(some 4),(.asg (T 20) (some ⟨1,3⟩)),none,[]⟩] false) .ret)))
theorem AiC : (Tryd.f74.body.bind (Kb Tryd.prog Tryd.f74.ntmps)) = some Aft:=by kernel_rfl
theorem AiD : Tryd.f74.results.toList.mapM (Kn Tryd.prog) = some [(.t 4)]:=by kernel_rfl
def WE (a : JL × (List Int)) : List D:=[JM a.1,.sl (a.2.map JJ)]
def WD (ds : List D) : JL × (List Int):=(QB (ds.getD 0 .top),(uL uI) (ds.getD 1 .top))
theorem Aau (a : JL × (List Int)) : WD (WE a) = a:=by simp [WD,WE,Lw (u:=uI) (en:=JJ) (fun _=>rfl)]
def Abh (b : (List Int)) : D:=.sl (b.map JJ)
def Abg (_b : (List Int)) : List D:=[]
noncomputable def YP : Dw.Spec:=JZ [] .val WE WD (fun a=>Uf a.1 a.2) Abh Abg
set_option maxHeartbeats 4000000 in
theorem AcM : JY Tryd.prog 74 YP:=by
 refine Ki (Ke (l:=[(100,MC),(77,Up),(102,WG),(101,YL),(69,Qh)]) (by simp [Tg,Abr,AbQ,AcD,Yw])) Tryd.func74 (by decide) AiC AiD (np:=2) (by decide) Aau (fun _=>r) (fun _=>r) (by decide)<|?_
 rintro ⟨x1,out2⟩
 show TrE (specs [(100,MC),(77,Up),(102,WG),(101,YL),(69,Qh)]) Aft (Kp [] .val [(.t 4)] Abh Abg) ⟨[(0,.agg [.int .i64 x1.Op,.int .i64 x1.A,.int .i64 x1.B,.int .i64 x1.C,.int .u64 x1.Imm]),(1,.sl (out2.map JJ))],[],262144⟩ (Uf x1 out2)
 refine Kc<|?_
 unfold Aft Uf
 refine sQ<|rG<|bX r r r r r<|aN (α:=Int) r JJ r<|nI<|xS<|sQ<|sQ<|rG<|lO (v:=.agg [.int .i64 x1.Op,.int .i64 x1.A,.int .i64 x1.B,.int .i64 x1.C,.int .u64 x1.Imm]) (z:=.agg [.int .i64 x1.Op,.int .i64 x1.A,.int .i64 x1.B,.int .i64 x1.C,.int .u64 x1.Imm]) r r r r r r<|bD fun r3 hr3=>cG x1 r r r Qf r r (by simp) r hr3 r<|mV r r<|eX (v:=.int .i64 r3.1) r r r<|eX (v:=.bool r3.2) r r r<|aS r r<|aS r r<|nI<|xS<|sQ<|rG<|mV r r<|nI<|xS<|cD (c:=r3.2) r ?_ ?_
 ·refine rG<|mV r r<|mV r r<|bD fun r4 hr4=>cV (out2,r3.1) r r r XM r r (by simp) r hr4<|aL r r<|nI<|xS<|sQ<|rG<|mV r r<|lO (v:=.agg [.int .i64 x1.Op,.int .i64 x1.A,.int .i64 x1.B,.int .i64 x1.C,.int .u64 x1.Imm]) (z:=.agg [.int .i64 x1.Op,.int .i64 x1.A,.int .i64 x1.B,.int .i64 x1.C,.int .u64 x1.Imm]) r r r r r r<|bD fun r5 hr5=>cR (l:=r5) (en:=JJ) x1 r r r Vt r r (by simp) r hr5 r<|bD fun r6 hr6=>cR (l:=r6) (en:=JJ) r5 r r r XL r r (by simp) (by first | rfl | (simp only [Kg,Kk]; rfl) | simp [Rb]) hr6 r<|bD fun r7 hr7=>cV (r4,r6) r r r RX r r (by simp) (by first | rfl | (simp only [Kg,Kk]; rfl) | simp [OT]) hr7<|aL r r<|nI<|xS<|rT<|KG (b:=r7) r ?_ r r ?_ r
  all_goals first|(simp;done)|(simp;omega)|rfl|(simp [JT,JQ];done)
 ·refine sK<|xS<|sQ<|rG<|mV r r<|lO (v:=.agg [.int .i64 x1.Op,.int .i64 x1.A,.int .i64 x1.B,.int .i64 x1.C,.int .u64 x1.Imm]) (z:=.agg [.int .i64 x1.Op,.int .i64 x1.A,.int .i64 x1.B,.int .i64 x1.C,.int .u64 x1.Imm]) r r r r r r<|bD fun r8 hr8=>cR (l:=r8) (en:=JJ) x1 r r r Vt r r (by simp) r hr8 r<|bD fun r9 hr9=>cR (l:=r9) (en:=JJ) r8 r r r XL r r (by simp) (by first | rfl | (simp only [Kg,Kk]; rfl) | simp [Rb]) hr9 r<|bD fun r10 hr10=>cV (out2,r9) r r r RX r r (by simp) (by first | rfl | (simp only [Kg,Kk]; rfl) | simp [OT]) hr10<|aL r r<|nI<|xS<|rT<|KG (b:=r10) r ?_ r r ?_ r
  all_goals first|(simp;done)|(simp;omega)|rfl|(simp [JT,JQ];done)

def AfO : Ka:=(.seq (.reg [P 4 (.asg (.c (.int .u64 0)) none)] false) (.seq (.reg [M 5 0,M 6 1,P 7 (.bin .andNot (T 5) (T 6)),P 4 (.asg (T 7) none)] false) .ret))
theorem Ajs : (Tryd.f99.body.bind (Kb Tryd.prog Tryd.f99.ntmps)) = some AfO:=by kernel_rfl
theorem Ajt : Tryd.f99.results.toList.mapM (Kn Tryd.prog) = some [(.t 4)]:=by kernel_rfl
def Sd (a : Int × Int) : List D:=[.int .u64 a.1,.int .u64 a.2]
def Sc (ds : List D) : Int × Int:=(uI (ds.getD 0 .top),uI (ds.getD 1 .top))
theorem Xa (a : Int × Int) : Sc (Sd a) = a:=by simp [Sc,Sd,uI]
def XK (b : Int) : D:=.int .u64 b
def XJ (_b : Int) : List D:=[]
noncomputable def TF : Dw.Spec:=JZ [] .ground Sd Sc (fun a=>OM a.1 a.2) XK XJ
set_option maxHeartbeats 4000000 in
theorem AaW : JY Tryd.prog 99 TF:=by
 refine Ki (KI) Tryd.func99 (by decide) Ajs Ajt (np:=2) (by decide) Xa (fun _=>r) (fun _=>r) (by decide)<|?_
 rintro ⟨x1,y2⟩
 show TrE (specs []) AfO (Kp [] .ground [(.t 4)] XK XJ) ⟨[(0,.int .u64 x1),(1,.int .u64 y2)],[],262144⟩ (OM x1 y2)
 refine Kc<|?_
 unfold AfO OM
 refine sQ<|rG<|aS r r<|nI<|xS<|sQ<|rG<|mV r r<|mV r r<|bN (v:=.int .u64 (IntKind.u64.wrap ((BitVec.ofInt IntKind.u64.bits x1 &&& ~~~ BitVec.ofInt IntKind.u64.bits y2).toNat))) r r r r r<|aS r r<|nI<|xS<|rT<|JX (b:=IntKind.u64.wrap ((BitVec.ofInt IntKind.u64.bits x1 &&& ~~~ BitVec.ofInt IntKind.u64.bits y2).toNat)) r ?_ r r ?_ r
 all_goals first|(simp;done)|(simp;omega)|rfl|(simp [JT,JQ];done)

def MU (a : JN × JN) : List D:=[Ku a.1,Ku a.2,.clo 99 []]
def MT (ds : List D) : JN × JN:=(Mc (ds.getD 0 .top),Mc (ds.getD 1 .top))
theorem Pv (a : JN × JN) : MT (MU a) = a:=by simp [MT,MU]
def Qa (b : JN × JN × JN) : D:=Ku b.1
def PZ (b : JN × JN × JN) : List D:=[Ku b.2.1,Ku b.2.2]
noncomputable def LS : Dw.Spec:=JZ [(0,(8,122)),(1,(8,122))] (.ptr 8 122) MU MT (fun a=>KX a.1 a.2) Qa PZ
set_option maxHeartbeats 4000000 in
theorem Us : JY Tryd.prog 96 LS:=by
 refine Ki (Ke (l:=[(99,TF)]) (by simp [AaW])) Tryd.func96 (by decide) Aeg Aeh (np:=3) (by decide) Pv (fun _=>r) (fun _=>r) (by decide)<|?_
 rintro ⟨s1,t2⟩
 show TrE (specs [(99,TF)]) AcK (Kp [(0,(8,122)),(1,(8,122))] (.ptr 8 122) [(.t 6)] Qa PZ) ⟨[(0,.optr 8192 0 0 0),(1,.optr 8193 1 0 0),(2,.clo 99 [])],[(8192,some (0,⟨false,true,8,122,[.agg [.int .u64 s1.a0,.int .u64 s1.a1,.int .u64 s1.a2,.int .u64 s1.a3,.int .u64 s1.a4,.int .u64 s1.a5,.int .u64 s1.a6,.int .u64 s1.a7]]⟩)),(8193,some (1,⟨false,true,8,122,[.agg [.int .u64 t2.a0,.int .u64 t2.a1,.int .u64 t2.a2,.int .u64 t2.a3,.int .u64 t2.a4,.int .u64 t2.a5,.int .u64 t2.a6,.int .u64 t2.a7]]⟩))],262144⟩ (KX s1 t2)
 refine Kc<|?_
 unfold AcK KX
 refine sQ<|rG<|aS r r<|nI<|xS<|sQ<|rG<|bL (cs:=[.int .u64 0,.int .u64 0,.int .u64 0,.int .u64 0,.int .u64 0,.int .u64 0,.int .u64 0,.int .u64 0]) (ps:=[]) r r r r<|bX r r r r r<|aS r r<|nI<|xS<|sQ<|sQ<|rG<|mV r r<|nI<|xS<|bK<|lP (E:=fun (s : JN × Int) (g : Nat)=>[(0,.optr 8192 0 0 0),(1,.optr 8193 1 0 0),(2,.clo 99 []),(7,.optr 10 g 0 0),(11,.int .i64 s.2)]) (O:=fun s g=>[(10,some (g,⟨false,true,8,122,[.agg [.int .u64 s.1.a0,.int .u64 s.1.a1,.int .u64 s.1.a2,.int .u64 s.1.a3,.int .u64 s.1.a4,.int .u64 s.1.a5,.int .u64 s.1.a6,.int .u64 s.1.a7]]⟩)),(8192,some (0,⟨false,true,8,122,[.agg [.int .u64 s1.a0,.int .u64 s1.a1,.int .u64 s1.a2,.int .u64 s1.a3,.int .u64 s1.a4,.int .u64 s1.a5,.int .u64 s1.a6,.int .u64 s1.a7]]⟩)),(8193,some (1,⟨false,true,8,122,[.agg [.int .u64 t2.a0,.int .u64 t2.a1,.int .u64 t2.a2,.int .u64 t2.a3,.int .u64 t2.a4,.int .u64 t2.a5,.int .u64 t2.a6,.int .u64 t2.a7]]⟩))]) (body:=fun s=>Lh s1 t2 s.1 s.2) (s:=((JN.mk 0 0 0 0 0 0 0 0),0)) _ ((hE ⟨rfl,r,r,r,r,trivial⟩ ⟨rfl,r,r,trivial⟩))<|?_
 rintro ⟨x3,x4⟩ v10x1 nn
 try dsimp only
 unfold Lh
 refine sQ<|rG<|bN (v:=.bool (decide (x4 < 8))) r r r r r<|nI<|xS<|sQ<|cD (c:=(decide (x4 < 8))) r ?_ ?_
 ·exact sK<|xS<|sQ<|bK<|sQ<|rG<|mV r r<|aS r r<|nI<|xS<|rG<|mV r r<|mV r r<|mV r r<|mV r r<|mV r r<|nC r r r<|cK fun hq=>QA r r r hq<|bD fun s_e5 hs_e5=>QX (q:=s_e5) (l:=s1.toList) (en:=TL) (j:=x4.toNat) (by simp) r r r hs_e5 r (fun _=>r)<|mV r r<|mV r r<|nC r r r<|cK fun hq=>QA r r r hq<|bD fun t_e6 ht_e6=>QX (q:=t_e6) (l:=t2.toList) (en:=TL) (j:=x4.toNat) (by simp) r r r ht_e6 r (fun _=>r)<|bD fun r7 hr7=>cG (s_e5,t_e6) r r r Xa r r (by simp) r hr7 r<|nC r r r<|cK fun hq=>QA r r r hq<|bD fun x_o8 hx_o8=>AbJ (q:=x_o8) (q':=r7) (l:=x3.toList) (en:=TL) (j:=x4.toNat) (z':=.agg [.int .u64 ((x3.set x4.toNat r7).a0),.int .u64 ((x3.set x4.toNat r7).a1),.int .u64 ((x3.set x4.toNat r7).a2),.int .u64 ((x3.set x4.toNat r7).a3),.int .u64 ((x3.set x4.toNat r7).a4),.int .u64 ((x3.set x4.toNat r7).a5),.int .u64 ((x3.set x4.toNat r7).a6),.int .u64 ((x3.set x4.toNat r7).a7)]) (by simp) r r r r r hx_o8 r r (congrArg (fun l=>D.agg (l.map TL)) (Mf x3 x4.toNat r7).symm)<|Kf (by kernel_rfl)<|bM<|xS<|rG<|bN (v:=.int .i64 (IntKind.i64.wrap (x4 + 1))) r r r r r<|mV r r<|nI<|xL (s:=((x3.set x4.toNat r7),IntKind.i64.wrap (x4 + 1))) _ ((hE ⟨rfl,r,r,r,r,trivial⟩ ⟨rfl,r,r,trivial⟩))
 ·refine eT<|xE<|lE<|bH<|xS<|sQ<|rG<|mV r r<|aS r r<|nI<|xS<|rT<|AaT (b:=(x3,s1,t2)) r ?_ r ?_ r r ?_ r
  all_goals first|(simp;done)|(simp;omega)|rfl|(simp [JT,JQ];done)

def Afq : Ka:=(.seq (.reg [⟨(some 4),(.asg (.c .nils) (some ⟨1,3⟩)),none,[]⟩] false) (.seq (.reg [M 5 0,P 6 (.call (.c (.clo 95 [])) [(T 5)]),M 7 1,P 8 (.call (.c (.clo 95 [])) [(T 7)]),P 9 (.call (.c (.clo 96 [])) [(T 6),(T 8),(.c (.clo 99 []))]),P 10 (.call (.c (.clo 98 [])) [(T 9)]),⟨(some 4),(.asg (T 10) (some ⟨1,3⟩)),none,[]⟩] false) .ret))
theorem Aiw : (Tryd.f70.body.bind (Kb Tryd.prog Tryd.f70.ntmps)) = some Afq:=by kernel_rfl
theorem Aix : Tryd.f70.results.toList.mapM (Kn Tryd.prog) = some [(.t 4)]:=by kernel_rfl
def TH (a : (List Int) × (List Int)) : List D:=[.sl (a.1.map JJ),.sl (a.2.map JJ)]
def TG (ds : List D) : (List Int) × (List Int):=((uL uI) (ds.getD 0 .top),(uL uI) (ds.getD 1 .top))
theorem Yu (a : (List Int) × (List Int)) : TG (TH a) = a:=by simp [TG,TH,Lw (u:=uI) (en:=JJ) (fun _=>rfl)]
def Vo (b : (List Int)) : D:=.sl (b.map JJ)
def Zb (_b : (List Int)) : List D:=[]
noncomputable def Vp : Dw.Spec:=JZ [] .val TH TG (fun a=>OR a.1 a.2) Vo Zb
set_option maxHeartbeats 4000000 in
theorem Aby : JY Tryd.prog 70 Vp:=by
 refine Ki (Ke (l:=[(95,LI),(409696,LS),(98,KM)]) (by simp [QJ,Us,NP])) Tryd.func70 (by decide) Aiw Aix (np:=2) (by decide) Yu (fun _=>r) (fun _=>r) (by decide)<|?_
 rintro ⟨a1,b2⟩
 show TrE (specs [(95,LI),(409696,LS),(98,KM)]) Afq (Kp [] .val [(.t 4)] Vo Zb) ⟨[(0,.sl (a1.map JJ)),(1,.sl (b2.map JJ))],[],262144⟩ (OR a1 b2)
 refine Kc<|?_
 unfold Afq OR
 refine sQ<|rG<|aN (α:=Int) r JJ r<|nI<|xS<|sQ<|rG<|mV r r<|bD fun r3 hr3=>cP a1 r r r MB r r (by simp) r hr3<|mV r r<|bD fun r4 hr4=>cP b2 r r r MB r r (by simp) rfl hr4<|bD fun r5 hr5=>cP (r3,r4) rfl rfl (show _ = some LS from by kernel_rfl) Pv rfl rfl (by simp) r hr5<|bD fun r6 hr6=>cR (l:=r6.1) (en:=JJ) r5.1 r r r Mr r r (by simp) r hr6 r<|aO (l:=r6.1) (en:=JJ) r r r r<|nI<|xS<|rT<|KG (b:=r6.1) r ?_ r r ?_ (by first | rfl | (simp only [Kg,Kk]; rfl) | simp [Vo])
 all_goals first|(simp;done)|(simp;omega)|rfl|(simp [JT,JQ];done)

def Afo : Ka:=(.seq (.reg [P 5 (.asg (.c (.bool false)) none)] false) (.seq (.reg [P 6 (.ld 1 false (T 1)),M 7 0,P 8 (.fldA 0 (T 2)),⟨(some 9),(.ld 1 false (T 8)),none,[2]⟩,P 10 (.ld 1 false (T 3)),⟨(some 11),(.ixA 1 (T 9) (T 10)),none,[3,4]⟩,⟨(some 12),(.ld 1 false (T 11)),none,[5]⟩,⟨(some 13),(.call (.c (.clo 70 [])) [(T 7),(T 12)]),none,[1,6]⟩,⟨(some 14),(.call (.c (.clo 69 [])) [(T 6),(T 13)]),none,[0,7,7]⟩,⟨none,(.st 1 (T 1) (T 14)),none,[8,8,0,1,2,3,4,5,6,7,8]⟩] true) (.seq (.reg [P 5 (.asg (.c (.bool true)) none)] false) .ret)))
theorem Ais : (Tryd.f68.body.bind (Kb Tryd.prog Tryd.f68.ntmps)) = some Afo:=by kernel_rfl
theorem Ait : Tryd.f68.results.toList.mapM (Kn Tryd.prog) = some [(.t 5)]:=by kernel_rfl
def Nr (a : (List Int) × (List Int) × JR × Int) : List D:=[.sl (a.1.map JJ),.sl (a.2.1.map JJ),.fptr (KJ a.2.2.1) 0,.fptr (.int .i64 a.2.2.2) 0]
def Nq (ds : List D) : (List Int) × (List Int) × JR × Int:=((uL uI) (ds.getD 0 .top),(uL uI) (ds.getD 1 .top),MA (fpD (ds.getD 2 .top)),uI (fpD (ds.getD 3 .top)))
theorem Qp (a : (List Int) × (List Int) × JR × Int) : Nq (Nr a) = a:=by simp [Nq,Nr,uI,fpD,Lw (u:=uI) (en:=JJ) (fun _=>rfl)]
def QG (b : Bool × (List Int)) : D:=.bool b.1
def QF (b : Bool × (List Int)) : List D:=[.sl (b.2.map JJ)]
noncomputable def NW : Dw.Spec:=JZ [(1,(1,36))] .val Nr Nq (fun a=>LK a.1 a.2.1 a.2.2.1 a.2.2.2) QG QF
set_option maxHeartbeats 4000000 in
theorem Vw : JY Tryd.prog 68 NW:=by
 refine Ki (Ke (l:=[(70,Vp),(69,Qh)]) (by simp [Aby,Yw])) Tryd.func68 (by decide) Ais Ait (np:=4) (by decide) Qp (fun _=>r) (fun _=>r) (by decide)<|?_
 rintro ⟨need1,cap2,cap3,cap4⟩
 show TrE (specs [(70,Vp),(69,Qh)]) Afo (Kp [(1,(1,36))] .val [(.t 5)] QG QF) ⟨[(0,.sl (need1.map JJ)),(1,.optr 8193 1 0 0),(2,.fptr (.agg [.sl (cap3.Out.map (eL JJ))]) 0),(3,.fptr (.int .i64 cap4) 0)],[(8193,some (1,⟨false,true,1,36,[.sl (cap2.map JJ)]⟩))],262144⟩ (LK need1 cap2 cap3 cap4)
 refine Kc<|?_
 unfold Afo LK
 refine sQ<|rG<|aS r r<|nI<|xS<|sQ<|rG<|lO (v:=.sl (cap2.map JJ)) (z:=.sl (cap2.map JJ)) r r r r r r<|mV r r<|fF r r<|lF (v:=.sl (cap3.Out.map (eL JJ))) r r r r<|lF (v:=.int .i64 cap4) r r r r<|bD fun x_x5 hx_x5=>iS (en:=(eL JJ)) r r r hx_x5 r<|lF (v:=.sl (x_x5.map JJ)) r r r r<|bD fun r6 hr6=>cV (need1,x_x5) r r r Yu r r (by simp) r hr6<|bD fun r7 hr7=>cV (cap2,r6) r r r RX r r (by simp) r hr7<|Ty (i:=0) (es':=[.sl (r7.map JJ)]) r r r r r r r (by first | trivial | (simp; done) | (simp; omega)) r r r r r r<|Kf (by kernel_rfl)<|xS<|sQ<|rG<|aS r r<|nI<|xS<|rT<|KG (b:=(true,r7)) r ?_ r r ?_ r
 all_goals first|(simp;done)|(simp;omega)|rfl|(simp [JT,JQ];done)

end Go.Proofs.YtcelninhkmhjkaaDoor
