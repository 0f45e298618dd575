/-
  Programs on typed data, and the proofs that the code does what they say; written by a program (dx.py).
-/
import Derived.Test.YtcelninhkmhjkaaDoorProg
import Derived.Test.YtcelninhkmhjkaaDoorDc
import Derived.KernelRfl
import Derived.Test.YtcelninhkmhjkaaDoorDxP
import Derived.Test.YtcelninhkmhjkaaDoorDxF1
import Derived.Test.YtcelninhkmhjkaaDoorDxF3
import Derived.Test.YtcelninhkmhjkaaDoorDxF5
import Derived.Test.YtcelninhkmhjkaaDoorDxF6
namespace Go.Proofs.YtcelninhkmhjkaaDoor
open Go Go.Dw Go.Proofs
set_option maxRecDepth 100000
open Go.Dw renaming Ym → mV,VP → bN,PJ → lO,TU → bD,VS → cK,VU → nI,VX → xS,Yo → rG,Yq → sQ,VO → aS,VV → oF,VQ → bS,OZ → cV,Nj → cG,PK → sV,Rv → iO,QY → lS,Rx → lW,TV → fA,Zv → eX,SE → sP,OA → pT,NL → pF,Yn → uN,VT → nW,VR → bX,XE → aL,VY → cD,TY → bK,Yp → rT,Wc → sK,VZ → eT,VW → xC,TX → xL,PY → xR,Wd → zR,SF → lR,So → hE,OB → lE,Pa → bH,NM → bM,PX → bR,Pb → xE,Wa → lP,QZ → sC,rf → r
def AeI : Ka:=(.seq (.reg [P 3 (.box (T 1) 1 30),P 4 (.asg (.c (.bool false)) none)] false) (.seq (.seq (.reg [P 18 (.call (.c (.clo 45 [])) []),P 19 (.un .not (T 18)),M 20 19,⟨(some 21),(.fldA 0 (T 3)),(some ⟨20,false⟩),[]⟩,⟨(some 22),(.ld 1 false (T 21)),(some ⟨20,false⟩),[]⟩,⟨(some 23),(.len false (T 22)),(some ⟨20,false⟩),[]⟩,⟨(some 24),(.bin .gtr (T 23) (C 100)),(some ⟨20,false⟩),[]⟩,P 25 (.pick (T 20) (.c (.bool true)) (T 24))] false) (.cond (T 25) (.seq (.reg [P 26 (.fldA 0 (T 3)),P 27 (.ld 1 false (T 26)),P 28 (.len false (T 27)),P 29 (.bin .gtr (T 28) (C 100)),P 4 (.asg (T 29) none)] false) .ret) .skip)) (.seq (.reg [M 31 0,P 32 (.call (.c (.clo 46 [])) [(T 31)]),M 30 32,P 33 (.ext (T 30) 0),P 34 (.ext (T 30) 1),P 35 (.ext (T 30) 2),P 5 (.new (.agg [(.int .i64 0),.nils,.nils]) 3 27),P 6 (.new (.agg [.nils]) 1 30),⟨none,(.st 3 (T 5) (T 33)),none,[]⟩,⟨none,(.st 1 (T 6) (T 34)),none,[]⟩,P 7 (.asg (T 35) none)] false) (.seq (.seq (.reg [P 36 (.ld 1 true (T 6)),P 37 (.ld 1 true (T 3)),⟨(some 38),(.bldS 1 30 (.agg [(.sl [])]) 2 [⟨0,(T 36)⟩,⟨1,(T 37)⟩]),none,[]⟩,P 39 (.len false (T 38)),P 40 (.mv (C 0))] false) (.block 0 (.loop (.seq (.reg [P 41 (.bin .lss (T 40) (T 39))] false) (.seq (.cond (T 41) .skip (.exit 0)) (.seq (.block 1 (.seq (.reg [P 42 (.ixA 1 (T 38) (T 40)),P 43 (.ld 1 true (T 42)),P 9 (.new (.agg [.nils]) 1 30),⟨none,(.st 1 (T 9) (T 43)),none,[]⟩] false) (.seq (.reg [P 45 (.ld 3 true (T 5)),P 46 (.ld 1 true (T 9)),P 47 (.call (.c (.clo 47 [])) [(T 45),(T 46)]),M 44 47,P 48 (.ext (T 44) 0),P 49 (.ext (T 44) 1),⟨(some 10),(.asg (T 48) (some ⟨1,36⟩)),none,[]⟩,P 11 (.asg (T 49) none)] false) (.seq (.reg [P 51 (.ld 3 true (T 5)),P 52 (.ld 1 true (T 9)),P 53 (.call (.c (.clo 48 [])) [(T 51),(T 52)]),M 50 53,P 54 (.ext (T 50) 0),P 55 (.ext (T 50) 1),⟨(some 12),(.asg (T 54) (some ⟨1,36⟩)),none,[]⟩,P 13 (.asg (T 55) none)] false) (.seq (.reg [P 57 (.ld 3 true (T 5)),P 58 (.ld 1 true (T 9)),P 59 (.call (.c (.clo 49 [])) [(T 57),(T 58)]),M 56 59,P 60 (.ext (T 56) 0),P 61 (.ext (T 56) 1),⟨(some 14),(.asg (T 60) (some ⟨1,36⟩)),none,[]⟩,P 15 (.asg (T 61) none)] false) (.seq (.reg [P 63 (.ld 3 true (T 5)),P 64 (.ld 1 true (T 9)),P 65 (.call (.c (.clo 50 [])) [(T 63),(T 64)]),M 62 65,P 66 (.ext (T 62) 0),P 67 (.ext (T 62) 1),⟨(some 16),(.asg (T 66) (some ⟨1,36⟩)),none,[]⟩,P 17 (.asg (T 67) none)] false) (.seq (.reg [M 68 11,M 69 13,P 70 (.bin .neq (T 68) (T 69)),M 71 70,⟨(some 72),(.mv (T 10)),(some ⟨71,false⟩),[]⟩,⟨(some 73),(.mv (T 12)),(some ⟨71,false⟩),[]⟩,⟨(some 74),(.call (.c (.clo 35 [])) [(T 72),(T 73)]),(some ⟨71,false⟩),[]⟩,⟨(some 75),(.un .not (T 74)),(some ⟨71,false⟩),[]⟩,P 76 (.pick (T 71) (.c (.bool true)) (T 75)),M 77 76,⟨(some 78),(.mv (T 15)),(some ⟨77,false⟩),[]⟩,⟨(some 79),(.mv (T 17)),(some ⟨77,false⟩),[]⟩,⟨(some 80),(.bin .neq (T 78) (T 79)),(some ⟨77,false⟩),[]⟩,P 81 (.pick (T 77) (.c (.bool true)) (T 80)),M 82 81,⟨(some 83),(.mv (T 14)),(some ⟨82,false⟩),[]⟩,⟨(some 84),(.mv (T 16)),(some ⟨82,false⟩),[]⟩,⟨(some 85),(.call (.c (.clo 35 [])) [(T 83),(T 84)]),(some ⟨82,false⟩),[]⟩,⟨(some 86),(.un .not (T 85)),(some ⟨82,false⟩),[]⟩,P 87 (.pick (T 82) (.c (.bool true)) (T 86))] false) (.cond (T 87) (.seq (.reg [P 4 (.asg (.c (.bool false)) none)] false) .ret) .skip)))))))) (.reg [P 88 (.bin .add (T 40) (C 1)),M 40 88] false))))))) (.seq (.reg [P 4 (.asg (.c (.bool true)) none)] false) .ret)))))
theorem Ahg : (Tryd.f13.body.bind (Kb Tryd.prog Tryd.f13.ntmps)) = some AeI:=by kernel_rfl
theorem Ahh : Tryd.f13.results.toList.mapM (Kn Tryd.prog) = some [(.t 4)]:=by kernel_rfl
def OW (a : (List Int) × JR) : List D:=[.sl (a.1.map eU8),KJ a.2]
def OV (ds : List D) : (List Int) × JR:=((uL uI) (ds.getD 0 .top),MA (ds.getD 1 .top))
theorem SR (a : (List Int) × JR) : OV (OW a) = a:=by simp [OV,OW,Lw (u:=uI) (en:=eU8) (fun _=>rfl)]
def Tu (b : Bool) : D:=.bool b
def Tt (_b : Bool) : List D:=[]
noncomputable def YR : Dw.Spec:=JZ [] .ground OW OV (fun a=>Mg a.1 a.2) Tu Tt
set_option maxHeartbeats 4000000 in
theorem Ys : JY Tryd.prog 13 YR:=by
 refine Ki (Ke (l:=[(45,WK),(46,WL),(47,Th),(48,WZ),(49,Sp),(50,VM),(35,PG)]) (by simp [AbS,AbT,Aay,AbZ,Aao,AbH,XZ])) Tryd.func13 (by decide) Ahg Ahh (np:=2) (by decide) SR (fun _=>r) (fun _=>r) (by decide)<|?_
 rintro ⟨codes1,raw2⟩
 show TrE (specs [(45,WK),(46,WL),(47,Th),(48,WZ),(49,Sp),(50,VM),(35,PG)]) AeI (Kp [] .ground [(.t 4)] Tu Tt) ⟨[(0,.sl (codes1.map eU8)),(1,.agg [.sl (raw2.Out.map (eL JJ))])],[],262144⟩ (Mg codes1 raw2)
 refine Kc<|?_
 unfold AeI Mg
 refine sQ<|rG<|bX r r r r r<|aS r r<|nI<|xS<|sC (E:=fun (s : Unit) (g : Nat)=>[(0,.sl (codes1.map eU8)),(3,.optr 3 g 0 0)]) (O:=fun s g=>[(3,some (g,⟨false,true,1,30,[.agg [.sl (raw2.Out.map (eL JJ))]]⟩))]) (j:=fun s=>Nu codes1 raw2) ?_ ?_
 ·refine sQ<|rG<|bD fun r3 hr3=>cG () r r r Zg r r (by simp) r hr3 r<|uN (w:=.bool (!r3)) r r r r trivial<|mV r r<|sP 20 (b:=(!r3)) r ?_ ?_
  ·refine oF r<|oF r<|oF r<|oF r<|pT r r r r<|nI<|xS<|KT r<|sQ<|rG<|fA r r<|lO (v:=.sl (raw2.Out.map (eL JJ))) (z:=.agg [.sl (raw2.Out.map (eL JJ))]) r r r r r r<|lS r r<|bN (v:=.bool (decide ((raw2.Out.length : Int) > 100))) r r r r r<|aS r r<|nI<|xS<|rT<|zR<|JX (b:=(decide ((raw2.Out.length : Int) > 100))) r ?_ r r ?_ r
   all_goals first|(simp;done)|(simp;omega)|rfl|(simp [JT,JQ];done)
  ·refine fA r r<|lO (v:=.sl (raw2.Out.map (eL JJ))) (z:=.agg [.sl (raw2.Out.map (eL JJ))]) r r r r r r<|lS r r<|bN (v:=.bool (decide ((raw2.Out.length : Int) > 100))) r r r r r<|pF r r r r<|nI<|xS<|cD (c:=(decide ((raw2.Out.length : Int) > 100))) r ?_ ?_
   ·refine sQ<|rG<|fA r r<|lO (v:=.sl (raw2.Out.map (eL JJ))) (z:=.agg [.sl (raw2.Out.map (eL JJ))]) r r r r r r<|lS r r<|bN (v:=.bool (decide ((raw2.Out.length : Int) > 100))) r r r r r<|aS r r<|nI<|xS<|rT<|zR<|JX (b:=(decide ((raw2.Out.length : Int) > 100))) r ?_ r r ?_ r
    all_goals first|(simp;done)|(simp;omega)|rfl|(simp [JT,JQ];done)
   ·exact sK<|xC (s:=()) _ ((hE ⟨rfl,r,trivial⟩ ⟨rfl,trivial⟩))
 ·rintro ⟨⟩ v3x1 nn
  try dsimp only
  unfold Nu
  refine sQ<|rG<|mV r r<|bD fun r4 hr4=>AbI (rs:=[Kv r4.1,KJ r4.2.1,Kq r4.2.2]) (z:=Kq r4.2.2) codes1 r r r Zh r r (by simp) r hr4 r r<|mV r r<|eX (v:=.agg [.int .i64 r4.1.Params,.sl (r4.1.Slots.map JP),.sl (r4.1.Code.map JM)]) r r r<|eX (v:=.agg [.sl (r4.2.1.Out.map (eL JJ))]) r r r<|eX (v:=.optr 32 _ 0 0) r r r<|nW r<|nW r<|sV (z':=.agg [.int .i64 r4.1.Params,.sl (r4.1.Slots.map JP),.sl (r4.1.Code.map JM)]) r r r r r r r r r<|sV (z':=.agg [.sl (r4.2.1.Out.map (eL JJ))]) r r r r r r r r r<|aS r r<|nI<|xS<|sQ<|sQ<|rG<|lO (v:=.agg [.sl (r4.2.1.Out.map (eL JJ))]) (z:=.agg [.sl (r4.2.1.Out.map (eL JJ))]) r r r r r r<|lO (v:=.agg [.sl (raw2.Out.map (eL JJ))]) (z:=.agg [.sl (raw2.Out.map (eL JJ))]) r r r r r r<|bS ([r4.2.1,raw2] : List JR) KJ r r r (by simp) r r r<|lW r r<|mV r r<|nI<|xS<|bK<|lP (E:=fun (s : Int) (g : Nat × Nat)=>[(5,.optr 5 g.1 0 0),(38,.osl 38 g.2 0 (([r4.2.1,raw2] : List JR).length)),(39,.int .i64 (([r4.2.1,raw2] : List JR).length : Int)),(40,.int .i64 s)]) (O:=fun s g=>[(5,some (g.1,⟨false,true,3,27,[.agg [.int .i64 r4.1.Params,.sl (r4.1.Slots.map JP),.sl (r4.1.Code.map JM)]]⟩)),(38,some (g.2,⟨false,false,1,30,([r4.2.1,raw2] : List JR).map KJ⟩))]) (body:=fun s=>Nt r4 raw2 s) (s:=0) (_,_) ((hE ⟨rfl,r,r,r,trivial⟩ ⟨rfl,r,trivial⟩))<|?_
  rintro x5 ⟨v5x2,v38x2⟩ nn
  try dsimp only
  unfold Nt
  refine sQ<|rG<|bN (v:=.bool (decide (x5 < (([r4.2.1,raw2] : List JR).length : Int)))) r r r r r<|nI<|xS<|sQ<|cD (c:=(decide (x5 < (([r4.2.1,raw2] : List JR).length : Int)))) r ?_ ?_
  ·refine sK<|xS<|sQ<|bK<|sQ<|rG<|cK fun hq=>iO (l:=([r4.2.1,raw2] : List JR)) (en:=KJ) r r r r r hq<|bD fun x_e6 hx_e6=>lO (v:=.agg [.sl (x_e6.Out.map (eL JJ))]) (z:=KJ x_e6) r r r (LR hx_e6) r r<|nW r<|sV (z':=.agg [.sl (x_e6.Out.map (eL JJ))]) r r r r r r r r r<|nI<|xS<|sQ<|rG<|lO (v:=.agg [.int .i64 r4.1.Params,.sl (r4.1.Slots.map JP),.sl (r4.1.Code.map JM)]) (z:=.agg [.int .i64 r4.1.Params,.sl (r4.1.Slots.map JP),.sl (r4.1.Code.map JM)]) r r r r r r<|lO (v:=.agg [.sl (x_e6.Out.map (eL JJ))]) (z:=.agg [.sl (x_e6.Out.map (eL JJ))]) r r r r r r<|bD fun r7 hr7=>cV (r4.1,x_e6) r r r Wp r r (by simp) r hr7<|mV r r<|eX (v:=.sl (r7.1.map (eL JJ))) r r r<|eX (v:=.int .i64 r7.2) r r r<|aL r r<|aS r r<|nI<|xS<|sQ<|rG<|lO (v:=.agg [.int .i64 r4.1.Params,.sl (r4.1.Slots.map JP),.sl (r4.1.Code.map JM)]) (z:=.agg [.int .i64 r4.1.Params,.sl (r4.1.Slots.map JP),.sl (r4.1.Code.map JM)]) r r r r r r<|lO (v:=.agg [.sl (x_e6.Out.map (eL JJ))]) (z:=.agg [.sl (x_e6.Out.map (eL JJ))]) r r r r r r<|bD fun r8 hr8=>cV (r4.1,x_e6) r r r Zq r r (by simp) r hr8<|mV r r<|eX (v:=.sl (r8.1.map (eL JJ))) r r r<|eX (v:=.int .i64 r8.2) r r r<|aL r r<|aS r r<|nI<|xS<|sQ<|rG<|lO (v:=.agg [.int .i64 r4.1.Params,.sl (r4.1.Slots.map JP),.sl (r4.1.Code.map JM)]) (z:=.agg [.int .i64 r4.1.Params,.sl (r4.1.Slots.map JP),.sl (r4.1.Code.map JM)]) r r r r r r<|lO (v:=.agg [.sl (x_e6.Out.map (eL JJ))]) (z:=.agg [.sl (x_e6.Out.map (eL JJ))]) r r r r r r<|bD fun r9 hr9=>cV (r4.1,x_e6) r r r Vk r r (by simp) r hr9<|mV r r<|eX (v:=.sl (r9.1.map (eL JJ))) r r r<|eX (v:=.int .i64 r9.2) r r r<|aL r r<|aS r r<|nI<|xS<|sQ<|rG<|lO (v:=.agg [.int .i64 r4.1.Params,.sl (r4.1.Slots.map JP),.sl (r4.1.Code.map JM)]) (z:=.agg [.int .i64 r4.1.Params,.sl (r4.1.Slots.map JP),.sl (r4.1.Code.map JM)]) r r r r r r<|lO (v:=.agg [.sl (x_e6.Out.map (eL JJ))]) (z:=.agg [.sl (x_e6.Out.map (eL JJ))]) r r r r r r<|bD fun r10 hr10=>cV (r4.1,x_e6) r r r YJ r r (by simp) r hr10<|mV r r<|eX (v:=.sl (r10.1.map (eL JJ))) r r r<|eX (v:=.int .i64 r10.2) r r r<|aL r r<|aS r r<|nI<|xS<|sQ<|rG<|mV r r<|mV r r<|bN (v:=.bool (r7.2 != r8.2)) r r r r r<|mV r r<|sP 71 (b:=(r7.2 != r8.2)) r ?_ ?_
   ·refine oF r<|oF r<|oF r<|oF r<|pT r r r r<|mV r r<|oF r<|oF r<|oF r<|pT r r r r<|mV r r<|oF r<|oF r<|oF r<|oF r<|pT r r r r<|nI<|xS<|KT r<|sQ<|rG<|aS r r<|nI<|xS<|rT<|bR<|xR<|lR<|bR<|xR<|JX (b:=false) r ?_ r r ?_ r
    all_goals first|(simp;done)|(simp;omega)|rfl|(simp [JT,JQ];done)
   ·refine mV r r<|mV r r<|bD fun r11 hr11=>cG (r7.1,r8.1) r r r QU r r (by simp) r hr11 r<|uN (w:=.bool (!r11)) r r r r trivial<|pF r r r r<|mV r r<|sP 77 (b:=(!r11)) r ?_ ?_
    ·refine oF r<|oF r<|oF r<|pT r r r r<|mV r r<|oF r<|oF r<|oF r<|oF r<|pT r r r r<|nI<|xS<|KT r<|sQ<|rG<|aS r r<|nI<|xS<|rT<|bR<|xR<|lR<|bR<|xR<|JX (b:=false) r ?_ r r ?_ r
     all_goals first|(simp;done)|(simp;omega)|rfl|(simp [JT,JQ];done)
    ·refine mV r r<|mV r r<|bN (v:=.bool (r9.2 != r10.2)) r r r r r<|pF r r r r<|mV r r<|sP 82 (b:=(r9.2 != r10.2)) r ?_ ?_
     ·refine oF r<|oF r<|oF r<|oF r<|pT r r r r<|nI<|xS<|KT r<|sQ<|rG<|aS r r<|nI<|xS<|rT<|bR<|xR<|lR<|bR<|xR<|JX (b:=false) r ?_ r r ?_ r
      all_goals first|(simp;done)|(simp;omega)|rfl|(simp [JT,JQ];done)
     ·refine mV r r<|mV r r<|bD fun r12 hr12=>cG (r9.1,r10.1) r r r QU r r (by simp) r hr12 r<|uN (w:=.bool (!r12)) r r r r trivial<|pF r r r r<|nI<|xS<|cD (c:=(!r12)) r ?_ ?_
      ·refine sQ<|rG<|aS r r<|nI<|xS<|rT<|bR<|xR<|lR<|bR<|xR<|JX (b:=false) r ?_ r r ?_ r
       all_goals first|(simp;done)|(simp;omega)|rfl|(simp [JT,JQ];done)
      ·exact sK<|bM<|xS<|rG<|bN (v:=.int .i64 (IntKind.i64.wrap (x5 + 1))) r r r r r<|mV r r<|nI<|xL (s:=IntKind.i64.wrap (x5 + 1)) (_,_) ((hE ⟨rfl,r,r,r,trivial⟩ ⟨rfl,r,trivial⟩))
  ·refine eT<|xE<|lE<|bH<|xS<|sQ<|rG<|aS r r<|nI<|xS<|rT<|JX (b:=true) r ?_ r r ?_ r
   all_goals first|(simp;done)|(simp;omega)|rfl|(simp [JT,JQ];done)

end Go.Proofs.YtcelninhkmhjkaaDoor
