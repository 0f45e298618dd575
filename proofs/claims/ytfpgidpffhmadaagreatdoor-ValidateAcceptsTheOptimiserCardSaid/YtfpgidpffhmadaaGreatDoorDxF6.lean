/-
  Programs on typed data, and the proofs that the code does what they say; written by a program (dx.py).
-/
import Derived.Test.YtfpgidpffhmadaaGreatDoorProg
import Derived.Test.YtfpgidpffhmadaaGreatDoorDc
import Derived.KernelRfl
import Derived.Test.YtfpgidpffhmadaaGreatDoorDxP
import Derived.Test.YtfpgidpffhmadaaGreatDoorDxF4
import Derived.Test.YtfpgidpffhmadaaGreatDoorDxF5
namespace Go.Proofs.YtfpgidpffhmadaaGreatDoor
open Go Go.Dw Go.Proofs
set_option maxRecDepth 100000
open Go.Dw renaming ZZ → mV,XI → bN,Rq → lO,VK → bD,XM → cK,XO → nI,XQ → xS,Aab → rG,Aad → sQ,RD → aO,XH → aS,XP → oF,XJ → bL,XK → bS,QF → cV,Pd → cG,Sf → cR,Zm → aP,Rr → sV,AaQ → sE,SK → iS,Vk → iO,SM → lS,Vl → lW,VL → fA,Abo → eX,Uj → lF,Uk → sP,Qf → pT,Pw → pF,Aaa → uN,XN → nW,XL → bX,RC → aN,Zk → aL,KG → eA_,XR → cD,VN → bK,Aac → rT,XV → sK,XS → eT,Zn → xC,VM → xL,RE → xR,AcQ → yR,WT → lR,TU → hE,Qg → lE,QG → bH,Px → bM,Tg → bR,QH → xE,XT → lP,UF → sC,XU → bC,rf → r
def Ahb : Mm:=(.seq (.reg [P 2 (.box (T 0) 3 33),P 3 (.box (T 1) 1 37),P 4 (.asg (C 0) none)] false) (.seq (.seq (.reg [P 9 (.ld 3 true (T 2)),P 10 (.ld 1 true (T 3)),P 11 (.call (.c (.clo 45 [])) [(T 9),(T 10)]),M 8 11,P 12 (.ext (T 8) 0),P 13 (.ext (T 8) 1),P 14 (.ext (T 8) 2),P 5 (.asg (T 12) none),P 6 (.asg (T 13) none),P 7 (.asg (T 14) none)] false) (.seq (.reg [M 15 7,M 16 15,⟨(some 17),(.ld 3 true (T 2)),(some ⟨16,false⟩),[]⟩,⟨(some 18),(.ld 1 true (T 3)),(some ⟨16,false⟩),[]⟩,⟨(some 19),(.call (.c (.clo 46 [])) [(T 17),(T 18)]),(some ⟨16,false⟩),[]⟩,⟨(some 20),(.un .not (T 19)),(some ⟨16,false⟩),[]⟩,P 21 (.pick (T 16) (.c (.bool true)) (T 20))] false) (.cond (T 21) (.seq (.reg [P 4 (.asg (C 11) none)] false) .ret) .skip))) (.seq (.reg [P 4 (.asg (C 0) none)] false) .ret)))
theorem AjL : (Tryz.f30.body.bind (Mo Tryz.prog Tryz.f30.ntmps)) = some Ahb:=by kernel_rfl
theorem AjM : Tryz.f30.results.toList.mapM (My Tryz.prog) = some [(.t 4)]:=by kernel_rfl
def WC (a : LY × Mf) : List D:=[ME a.1,Nf a.2]
def WB (ds : List D) : LY × Mf:=(Ny (ds.getD 0 .top),OL (ds.getD 1 .top))
theorem Abh (a : LY × Mf) : WB (WC a) = a:=by simp [WB,WC]
def AbT (b : Int) : D:=.int .i64 b
def AbS (_b : Int) : List D:=[]
noncomputable def YE : Dw.Spec:=Ml [] .ground WC WB (fun a=>SZ a.1 a.2) AbT AbS
set_option maxHeartbeats 4000000 in
theorem Aej : Mk Tryz.prog 30 YE:=by
 refine Mv (Mp (l:=[(45,YF),(46,SQ)]) (by simp [Aek,Abj])) Tryz.func30 (by decide) AjL AjM (np:=2) (by decide) Abh (fun _=>r) (fun _=>r) (by decide)<|?_
 rintro ⟨f1,l2⟩
 show TrE (specs [(45,YF),(46,SQ)]) Ahb (Mz [] .ground [(.t 4)] AbT AbS) ⟨[(0,.agg [.int .i64 f1.Params,.sl (f1.Slots.map LZ),.sl (f1.Code.map LW)]),(1,.agg [.sl (l2.Out.map (eL LS))])],[],262144⟩ (SZ f1 l2)
 refine Mq<|?_
 unfold Ahb SZ
 refine sQ<|rG<|bX r r r r r<|bX r r r r r<|aS r r<|nI<|xS<|sQ<|sQ<|rG<|lO (v:=.agg [.int .i64 f1.Params,.sl (f1.Slots.map LZ),.sl (f1.Code.map LW)]) (z:=.agg [.int .i64 f1.Params,.sl (f1.Slots.map LZ),.sl (f1.Code.map LW)]) r r r r r r<|lO (v:=.agg [.sl (l2.Out.map (eL LS))]) (z:=.agg [.sl (l2.Out.map (eL LS))]) r r r r r r<|bD fun r3 hr3=>cG (f1,l2) r r r Abi r r (by simp) r hr3 r<|mV r r<|eX (v:=.int .i64 r3.1) r r r<|eX (v:=.int .i64 r3.2.1) r r r<|eX (v:=.bool r3.2.2) r r r<|aS r r<|aS r r<|aS r r<|nI<|xS<|sQ<|rG<|mV r r<|mV r r<|sP 16 (b:=r3.2.2) r ?_ ?_
 ·refine oF r<|oF r<|oF r<|oF r<|pT r r r r<|nI<|xS<|MW r<|sQ<|rG<|aS r r<|nI<|xS<|rT<|xR<|Mg (b:=11) r ?_ r r ?_ r
  all_goals first|(simp;done)|(simp;omega)|rfl|(simp [Me,Mc];done)
 ·refine lO (v:=.agg [.int .i64 f1.Params,.sl (f1.Slots.map LZ),.sl (f1.Code.map LW)]) (z:=.agg [.int .i64 f1.Params,.sl (f1.Slots.map LZ),.sl (f1.Code.map LW)]) r r r r r r<|lO (v:=.agg [.sl (l2.Out.map (eL LS))]) (z:=.agg [.sl (l2.Out.map (eL LS))]) r r r r r r<|bD fun r4 hr4=>cG (f1,l2) r r r XD r r (by simp) r hr4 r<|uN (w:=.bool (!r4)) r r r r trivial<|pF r r r r<|nI<|xS<|cD (c:=(!r4)) r ?_ ?_
  ·refine sQ<|rG<|aS r r<|nI<|xS<|rT<|xR<|Mg (b:=11) r ?_ r r ?_ r
   all_goals first|(simp;done)|(simp;omega)|rfl|(simp [Me,Mc];done)
  ·refine sK<|xS<|sQ<|rG<|aS r r<|nI<|xS<|rT<|Mg (b:=0) r ?_ r r ?_ r
   all_goals first|(simp;done)|(simp;omega)|rfl|(simp [Me,Mc];done)

def AgO : Mm:=(.seq (.reg [P 3 (.box (T 0) 3 33),P 4 (.box (T 1) 1 37),⟨(some 6),(.asg (.c .nils) (some ⟨1,42⟩)),none,[]⟩,P 7 (.asg (C 0) none)] false) (.seq (.seq (.reg [P 16 (.ld 3 true (T 3)),P 17 (.ld 1 true (T 4)),P 18 (.call (.c (.clo 30 [])) [(T 16),(T 17)]),P 8 (.asg (T 18) none)] false) (.seq (.reg [M 19 8,P 20 (.bin .neq (T 19) (C 0))] false) (.cond (T 20) (.seq (.reg [M 21 8,⟨(some 6),(.asg (.c .nils) (some ⟨1,42⟩)),none,[]⟩,P 7 (.asg (T 21) none)] false) .ret) .skip))) (.seq (.reg [P 22 (.fldA 1 (T 3)),P 23 (.ld 1 false (T 22)),P 24 (.len false (T 23)),P 25 (.mkS 1 42 24 .nils (T 24) (T 24)),⟨(some 9),(.asg (T 25) (some ⟨1,42⟩)),none,[]⟩] false) (.seq (.seq (.reg [P 10 (.asg (C 0) none)] false) (.block 0 (.loop (.seq (.seq (.reg [M 26 10,P 27 (.fldA 2 (T 3)),P 28 (.ld 1 false (T 27)),P 29 (.len false (T 28)),P 30 (.bin .lss (T 26) (T 29))] false) (.cond (T 30) .skip (.exit 0))) (.seq (.block 1 (.seq (.reg [P 33 (.fldA 2 (T 3)),P 34 (.ld 1 false (T 33)),M 35 10,P 36 (.ixA 5 (T 34) (T 35)),P 37 (.ld 5 true (T 36)),P 11 (.new (.agg [(.int .i64 0),(.int .i64 0),(.int .i64 0),(.int .i64 0),(.int .u64 0)]) 5 54),⟨none,(.st 5 (T 11) (T 37)),none,[]⟩] false) (.seq (.reg [P 39 (.ld 5 true (T 11)),P 40 (.call (.c (.clo 31 [])) [(T 39)]),M 38 40,P 41 (.ext (T 38) 0),P 42 (.ext (T 38) 1),P 12 (.asg (T 41) none),P 13 (.asg (T 42) none)] false) (.seq (.seq (.reg [P 43 (.fldA 0 (T 11)),P 44 (.ld 1 false (T 43)),P 45 (.bin .eql (T 44) (C 17)),M 46 45,⟨(some 47),(.fldA 1 (T 11)),(some ⟨46,true⟩),[]⟩,⟨(some 48),(.ld 1 false (T 47)),(some ⟨46,true⟩),[]⟩,⟨(some 49),(.fldA 2 (T 11)),(some ⟨46,true⟩),[]⟩,⟨(some 50),(.ld 1 false (T 49)),(some ⟨46,true⟩),[]⟩,⟨(some 51),(.bin .eql (T 48) (T 50)),(some ⟨46,true⟩),[]⟩,P 52 (.pick (T 46) (T 51) (.c (.bool false)))] false) (.cond (T 52) (.exit 1) .skip)) (.seq (.reg [P 14 (.asg (C 0) none)] false) (.block 2 (.loop (.seq (.seq (.reg [M 53 14,P 54 (.fldA 0 (T 4)),P 55 (.ld 1 false (T 54)),M 56 10,P 57 (.ixA 1 (T 55) (T 56)),P 58 (.ld 1 false (T 57)),P 59 (.len false (T 58)),P 60 (.bin .lss (T 53) (T 59)),M 61 60,⟨(some 62),(.mv (T 13)),(some ⟨61,true⟩),[]⟩,P 63 (.pick (T 61) (T 62) (.c (.bool false)))] false) (.cond (T 63) .skip (.exit 2))) (.seq (.block 3 (.seq (.reg [P 66 (.fldA 0 (T 4)),P 67 (.ld 1 false (T 66)),M 68 10,P 69 (.ixA 1 (T 67) (T 68)),P 70 (.ld 1 false (T 69)),M 71 14,P 72 (.ixA 1 (T 70) (T 71)),P 73 (.ld 1 false (T 72)),P 15 (.asg (T 73) none)] false) (.seq (.seq (.reg [M 74 15,M 75 12,P 76 (.bin .eql (T 74) (T 75)),M 77 76,⟨(some 78),(.mv (T 2)),(some ⟨77,false⟩),[]⟩,⟨(some 79),(.un .not (T 78)),(some ⟨77,false⟩),[]⟩,⟨(some 80),(.mv (T 79)),(some ⟨77,false⟩),[]⟩,⟨(some 81),(.fldA 0 (T 11)),(some ⟨80,true⟩),[]⟩,⟨(some 82),(.ld 1 false (T 81)),(some ⟨80,true⟩),[]⟩,⟨(some 83),(.bin .eql (T 82) (C 17)),(some ⟨80,true⟩),[]⟩,⟨(some 84),(.pick (T 80) (T 83) (.c (.bool false))),(some ⟨77,false⟩),[]⟩,⟨(some 85),(.mv (T 84)),(some ⟨77,false⟩),[]⟩,⟨(some 86),(.fldA 2 (T 11)),(some ⟨85,true⟩),[]⟩,⟨(some 87),(.ld 1 false (T 86)),(some ⟨85,true⟩),[]⟩,⟨(some 88),(.mv (T 15)),(some ⟨85,true⟩),[]⟩,⟨(some 89),(.bin .eql (T 87) (T 88)),(some ⟨85,true⟩),[]⟩,⟨(some 90),(.pick (T 85) (T 89) (.c (.bool false))),(some ⟨77,false⟩),[]⟩,P 91 (.pick (T 77) (.c (.bool true)) (T 90))] false) (.cond (T 91) (.exit 3) .skip)) (.reg [M 92 9,M 93 12,M 94 9,M 95 15,M 96 9,M 97 12,⟨(some 98),(.ixA 1 (T 96) (T 97)),none,[4,5]⟩,⟨(some 99),(.ld 1 false (T 98)),none,[6]⟩,M 100 15,⟨(some 101),(.call (.c (.clo 16 [])) [(T 99),(T 100)]),none,[7,8]⟩,M 102 9,M 103 15,⟨(some 104),(.ixA 1 (T 102) (T 103)),none,[10,11]⟩,⟨(some 105),(.ld 1 false (T 104)),none,[12]⟩,M 106 12,⟨(some 107),(.call (.c (.clo 16 [])) [(T 105),(T 106)]),none,[13,14,9]⟩,⟨(some 108),(.ixA 1 (T 92) (T 93)),none,[0,1,0,1,4,5,6,7,8,9,13,15]⟩,⟨none,(.st 1 (T 108) (T 101)),none,[16,9,15,0,1,4,5,6,7,8,9,13,15]⟩,⟨(some 109),(.ixA 1 (T 94) (T 95)),none,[2,3,0,1,2,3,4,5,6,7,8,9,10,11,12,13,14,15,16,17]⟩,⟨none,(.st 1 (T 109) (T 107)),none,[18,15,17,0,1,2,3,4,5,6,7,8,9,10,11,12,13,14,15,16,17]⟩] true)))) (.reg [M 64 14,P 65 (.bin .add (T 64) (C 1)),P 14 (.asg (T 65) none)] false)))))))))) (.reg [M 31 10,P 32 (.bin .add (T 31) (C 1)),P 10 (.asg (T 32) none)] false)))))) (.seq (.reg [M 110 9,⟨(some 6),(.asg (T 110) (some ⟨1,42⟩)),none,[]⟩,P 7 (.asg (C 0) none)] false) .ret)))))
theorem Ajl : (Tryz.f17.body.bind (Mo Tryz.prog Tryz.f17.ntmps)) = some AgO:=by kernel_rfl
theorem Ajm : Tryz.f17.results.toList.mapM (My Tryz.prog) = some [(.t 6),(.t 7)]:=by kernel_rfl
def WO (a : LY × Mf × Bool) : List D:=[ME a.1,Nf a.2.1,.bool a.2.2]
def WN (ds : List D) : LY × Mf × Bool:=(Ny (ds.getD 0 .top),OL (ds.getD 1 .top),uBo (ds.getD 2 .top))
theorem Abm (a : LY × Mf × Bool) : WN (WO a) = a:=by simp [WN,WO,uBo]
def Vr (b : (List (List Int)) × Int) : D:=.tup [.sl (b.1.map (eL LS)),.int .i64 b.2]
def Acd (_b : (List (List Int)) × Int) : List D:=[]
noncomputable def YI : Dw.Spec:=Ml [] .val WO WN (fun a=>Tc a.1 a.2.1 a.2.2) Vr Acd
set_option maxHeartbeats 4000000 in
theorem Aen : Mk Tryz.prog 17 YI:=by
 refine Mv (Mp (l:=[(30,YE),(31,Pa),(16,Rz)]) (by simp [Aej,VF,ZG])) Tryz.func17 (by decide) Ajl Ajm (np:=3) (by decide) Abm (fun _=>r) (fun _=>r) (by decide)<|?_
 rintro ⟨f1,l2,strict3⟩
 show TrE (specs [(30,YE),(31,Pa),(16,Rz)]) AgO (Mz [] .val [(.t 6),(.t 7)] Vr Acd) ⟨[(0,.agg [.int .i64 f1.Params,.sl (f1.Slots.map LZ),.sl (f1.Code.map LW)]),(1,.agg [.sl (l2.Out.map (eL LS))]),(2,.bool strict3)],[],262144⟩ (Tc f1 l2 strict3)
 refine Mq<|?_
 unfold AgO Tc
 refine sQ<|rG<|bX r r r r r<|bX r r r r r<|aN (α:=(List Int)) r (eL LS) r<|aS r r<|nI<|xS<|sQ<|sQ<|rG<|lO (v:=.agg [.int .i64 f1.Params,.sl (f1.Slots.map LZ),.sl (f1.Code.map LW)]) (z:=.agg [.int .i64 f1.Params,.sl (f1.Slots.map LZ),.sl (f1.Code.map LW)]) r r r r r r<|lO (v:=.agg [.sl (l2.Out.map (eL LS))]) (z:=.agg [.sl (l2.Out.map (eL LS))]) r r r r r r<|bD fun r4 hr4=>cG (f1,l2) r r r Abh r r (by simp) r hr4 r<|aS r r<|nI<|xS<|sQ<|rG<|mV r r<|bN (v:=.bool (r4 != 0)) r r r r r<|nI<|xS<|cD (c:=(r4 != 0)) r ?_ ?_
 ·refine sQ<|rG<|mV r r<|aN (α:=(List Int)) r (eL LS) r<|aS r r<|nI<|xS<|rT<|xR<|Te (b:=(([] : List (List Int)),r4)) r ?_ r r ?_ (by first | rfl | (simp only [Mw,MB]; rfl) | simp [Vr]) (by decide)
  all_goals first|(simp;done)|(simp;omega)|rfl|(simp [Me,Mc];done)
 ·refine sK<|xS<|sQ<|rG<|fA r r<|lO (v:=.sl (f1.Slots.map LZ)) (z:=.agg [.int .i64 f1.Params,.sl (f1.Slots.map LZ),.sl (f1.Code.map LW)]) r r r r r r<|lS r r<|cK fun hq=>AaP (α:=Int) r r r hq r<|aO (l:=List.replicate (f1.Slots.length : Int).toNat ([] : (List Int))) (en:=(fun _=>D.nils)) r r r r<|nI<|Qs (E:=[(2,.bool strict3),(3,.optr 3 _ 0 0),(4,.optr 4 _ 0 0),(9,.osl 9 _ 0 ((List.replicate (f1.Slots.length : Int).toNat ([] : (List Int))).length))]) (O:=[(3,some (_,⟨false,true,3,33,[.agg [.int .i64 f1.Params,.sl (f1.Slots.map LZ),.sl (f1.Code.map LW)]]⟩)),(4,some (_,⟨false,true,1,37,[.agg [.sl (l2.Out.map (eL LS))]]⟩)),(9,some (_,⟨false,false,1,42,(List.replicate (f1.Slots.length : Int).toNat ([] : (List Int))).map (eL LS)⟩))]) ((Acu (g:=9) r (AdA (l:=List.replicate (f1.Slots.length : Int).toNat ([] : (List Int))) LS (fun _ h=>List.eq_of_mem_replicate h)) (hE ⟨rfl,r,r,r,trivial⟩ ⟨rfl,r,r,trivial⟩))) fun nn=>sQ<|sQ<|rG<|aS r r<|nI<|xS<|bK<|lP (E:=fun (s : (List (List Int)) × Int) (g : Nat × Nat × Nat)=>[(2,.bool strict3),(3,.optr 3 g.1 0 0),(4,.optr 4 g.2.1 0 0),(9,.osl 9 g.2.2 0 s.1.length),(10,.int .i64 s.2)]) (O:=fun s g=>[(3,some (g.1,⟨false,true,3,33,[.agg [.int .i64 f1.Params,.sl (f1.Slots.map LZ),.sl (f1.Code.map LW)]]⟩)),(4,some (g.2.1,⟨false,true,1,37,[.agg [.sl (l2.Out.map (eL LS))]]⟩)),(9,some (g.2.2,⟨false,false,1,42,s.1.map (eL LS)⟩))]) (body:=fun s=>Ux f1 l2 strict3 s.1 s.2) (s:=(List.replicate (f1.Slots.length : Int).toNat ([] : (List Int)),0)) (_,_,_) ((hE ⟨rfl,r,r,r,r,trivial⟩ ⟨rfl,r,r,trivial⟩))<|?_
  rintro ⟨out5,k6⟩ ⟨v3x1,v4x1,v9x1⟩ nn
  try dsimp only
  unfold Ux
  refine sQ<|sQ<|rG<|mV r r<|fA r r<|lO (v:=.sl (f1.Code.map LW)) (z:=.agg [.int .i64 f1.Params,.sl (f1.Slots.map LZ),.sl (f1.Code.map LW)]) r r r r r r<|lS r r<|bN (v:=.bool (decide (k6 < (f1.Code.length : Int)))) r r r r r<|nI<|xS<|cD (c:=(decide (k6 < (f1.Code.length : Int)))) r ?_ ?_
  ·refine sK<|xS<|bC (E:=fun (s : Int × Int × Int × Int × Int × (List (List Int))) (g : Nat × Nat × Nat)=>[(2,.bool strict3),(3,.optr 3 g.1 0 0),(4,.optr 4 g.2.1 0 0),(9,.osl 9 g.2.2 0 s.2.2.2.2.2.length),(10,.int .i64 k6)]) (O:=fun s g=>[(3,some (g.1,⟨false,true,3,33,[.agg [.int .i64 f1.Params,.sl (f1.Slots.map LZ),.sl (f1.Code.map LW)]]⟩)),(4,some (g.2.1,⟨false,true,1,37,[.agg [.sl (l2.Out.map (eL LS))]]⟩)),(9,some (g.2.2,⟨false,false,1,42,s.2.2.2.2.2.map (eL LS)⟩))]) (j:=fun s=>Pu k6 s.1 s.2.1 s.2.2.1 s.2.2.2.1 s.2.2.2.2.1 s.2.2.2.2.2) ?_ ?_
   ·refine sQ<|rG<|fA r r<|lO (v:=.sl (f1.Code.map LW)) (z:=.agg [.int .i64 f1.Params,.sl (f1.Slots.map LZ),.sl (f1.Code.map LW)]) r r r r r r<|mV r r<|bD fun x_x13 hx_x13=>iS (en:=LW) r r r hx_x13 r<|lF (v:=.agg [.int .i64 x_x13.Op,.int .i64 x_x13.A,.int .i64 x_x13.B,.int .i64 x_x13.C,.int .u64 x_x13.Imm]) r r r r<|nW r<|sV (z':=.agg [.int .i64 x_x13.Op,.int .i64 x_x13.A,.int .i64 x_x13.B,.int .i64 x_x13.C,.int .u64 x_x13.Imm]) r r r r r r r r r<|nI<|xS<|sQ<|rG<|lO (v:=.agg [.int .i64 x_x13.Op,.int .i64 x_x13.A,.int .i64 x_x13.B,.int .i64 x_x13.C,.int .u64 x_x13.Imm]) (z:=.agg [.int .i64 x_x13.Op,.int .i64 x_x13.A,.int .i64 x_x13.B,.int .i64 x_x13.C,.int .u64 x_x13.Imm]) r r r r r r<|bD fun r14 hr14=>cG x_x13 r r r SA r r (by simp) r hr14 r<|mV r r<|eX (v:=.int .i64 r14.1) r r r<|eX (v:=.bool r14.2) r r r<|aS r r<|aS r r<|nI<|xS<|sC (E:=fun (s : Unit) (g : Nat × Nat × Nat × Nat)=>[(2,.bool strict3),(3,.optr 3 g.1 0 0),(4,.optr 4 g.2.1 0 0),(9,.osl 9 g.2.2.1 0 out5.length),(10,.int .i64 k6),(11,.optr 11 g.2.2.2 0 0),(12,.int .i64 r14.1),(13,.bool r14.2)]) (O:=fun s g=>[(3,some (g.1,⟨false,true,3,33,[.agg [.int .i64 f1.Params,.sl (f1.Slots.map LZ),.sl (f1.Code.map LW)]]⟩)),(4,some (g.2.1,⟨false,true,1,37,[.agg [.sl (l2.Out.map (eL LS))]]⟩)),(9,some (g.2.2.1,⟨false,false,1,42,out5.map (eL LS)⟩)),(11,some (g.2.2.2,⟨false,true,5,54,[.agg [.int .i64 x_x13.Op,.int .i64 x_x13.A,.int .i64 x_x13.B,.int .i64 x_x13.C,.int .u64 x_x13.Imm]]⟩))]) (j:=fun s=>Qy l2 k6 r14 strict3 x_x13 out5) ?_ ?_
    ·refine sQ<|rG<|fA r r<|lO (v:=.int .i64 x_x13.Op) (z:=.agg [.int .i64 x_x13.Op,.int .i64 x_x13.A,.int .i64 x_x13.B,.int .i64 x_x13.C,.int .u64 x_x13.Imm]) r r r r r r<|bN (v:=.bool (x_x13.Op == 17)) r r r r r<|mV r r<|sP 46 (b:=(x_x13.Op == 17)) r ?_ ?_
     ·refine fA r r<|lO (v:=.int .i64 x_x13.A) (z:=.agg [.int .i64 x_x13.Op,.int .i64 x_x13.A,.int .i64 x_x13.B,.int .i64 x_x13.C,.int .u64 x_x13.Imm]) r r r r r r<|fA r r<|lO (v:=.int .i64 x_x13.B) (z:=.agg [.int .i64 x_x13.Op,.int .i64 x_x13.A,.int .i64 x_x13.B,.int .i64 x_x13.C,.int .u64 x_x13.Imm]) r r r r r r<|bN (v:=.bool (x_x13.A == x_x13.B)) r r r r r<|pT r r r r<|nI<|xS<|cD (c:=(x_x13.A == x_x13.B)) r ?_ ?_
      ·exact eT<|Pe<|JR (s:=(x_x13.Op,x_x13.A,x_x13.B,x_x13.C,x_x13.Imm,out5)) (_,_,_) ((hE ⟨rfl,r,r,r,r,trivial⟩ ⟨rfl,r,r,trivial⟩))
      ·exact sK<|xC (s:=()) (_,_,_,_) ((hE ⟨rfl,r,r,r,r,r,r,r,trivial⟩ ⟨rfl,r,r,r,trivial⟩))
     ·exact oF r<|oF r<|oF r<|oF r<|oF r<|pF r r r r<|nI<|xS<|Nz r<|sK<|xC (s:=()) (_,_,_,_) ((hE ⟨rfl,r,r,r,r,r,r,r,trivial⟩ ⟨rfl,r,r,r,trivial⟩))
    ·rintro ⟨⟩ ⟨v3x2,v4x2,v9x2,v11x2⟩ nn
     try dsimp only
     unfold Qy
     refine sQ<|rG<|aS r r<|nI<|xS<|bK<|lP (E:=fun (s : (List (List Int)) × Int) (g : Nat × Nat × Nat × Nat)=>[(2,.bool strict3),(3,.optr 3 g.1 0 0),(4,.optr 4 g.2.1 0 0),(9,.osl 9 g.2.2.1 0 s.1.length),(10,.int .i64 k6),(11,.optr 11 g.2.2.2 0 0),(12,.int .i64 r14.1),(13,.bool r14.2),(14,.int .i64 s.2)]) (O:=fun s g=>[(3,some (g.1,⟨false,true,3,33,[.agg [.int .i64 f1.Params,.sl (f1.Slots.map LZ),.sl (f1.Code.map LW)]]⟩)),(4,some (g.2.1,⟨false,true,1,37,[.agg [.sl (l2.Out.map (eL LS))]]⟩)),(9,some (g.2.2.1,⟨false,false,1,42,s.1.map (eL LS)⟩)),(11,some (g.2.2.2,⟨false,true,5,54,[.agg [.int .i64 x_x13.Op,.int .i64 x_x13.A,.int .i64 x_x13.B,.int .i64 x_x13.C,.int .u64 x_x13.Imm]]⟩))]) (body:=fun s=>Sc l2 k6 r14 strict3 x_x13 s.1 s.2) (s:=(out5,0)) (_,_,_,_) ((hE ⟨rfl,r,r,r,r,r,r,r,r,trivial⟩ ⟨rfl,r,r,r,trivial⟩))<|?_
     rintro ⟨out15,i16⟩ ⟨v3x3,v4x3,v9x3,v11x3⟩ nn
     try dsimp only
     unfold Sc
     refine sC (E:=fun (s : Unit) (g : Nat × Nat × Nat × Nat)=>[(2,.bool strict3),(3,.optr 3 g.1 0 0),(4,.optr 4 g.2.1 0 0),(9,.osl 9 g.2.2.1 0 out15.length),(10,.int .i64 k6),(11,.optr 11 g.2.2.2 0 0),(12,.int .i64 r14.1),(13,.bool r14.2),(14,.int .i64 i16),(62,.bool r14.2)]) (O:=fun s g=>[(3,some (g.1,⟨false,true,3,33,[.agg [.int .i64 f1.Params,.sl (f1.Slots.map LZ),.sl (f1.Code.map LW)]]⟩)),(4,some (g.2.1,⟨false,true,1,37,[.agg [.sl (l2.Out.map (eL LS))]]⟩)),(9,some (g.2.2.1,⟨false,false,1,42,out15.map (eL LS)⟩)),(11,some (g.2.2.2,⟨false,true,5,54,[.agg [.int .i64 x_x13.Op,.int .i64 x_x13.A,.int .i64 x_x13.B,.int .i64 x_x13.C,.int .u64 x_x13.Imm]]⟩))]) (j:=fun s=>Uy l2 k6 i16 r14 out15 strict3 x_x13) ?_ ?_
     ·refine sQ<|rG<|mV r r<|fA r r<|lO (v:=.sl (l2.Out.map (eL LS))) (z:=.agg [.sl (l2.Out.map (eL LS))]) r r r r r r<|mV r r<|bD fun x_x17 hx_x17=>iS (en:=(eL LS)) r r r hx_x17 r<|lF (v:=.sl (x_x17.map LS)) r r r r<|lS r r<|bN (v:=.bool (decide (i16 < (x_x17.length : Int)))) r r r r r<|mV r r<|sP 61 (b:=(decide (i16 < (x_x17.length : Int)))) r ?_ ?_
      ·refine mV r r<|pT r r r r<|nI<|xS<|cD (c:=r14.2) r ?_ ?_
       ·exact sK<|xC (s:=()) (_,_,_,_) ((hE ⟨rfl,r,r,r,r,r,r,r,r,r,trivial⟩ ⟨rfl,r,r,r,trivial⟩))
       ·exact eT<|Pe<|lE<|bH<|NM (s:=(x_x13.Op,x_x13.A,x_x13.B,x_x13.C,x_x13.Imm,out15)) (_,_,_) ((hE ⟨rfl,r,r,r,r,trivial⟩ ⟨rfl,r,r,trivial⟩))
      ·exact oF r<|pF r r r r<|nI<|xS<|Nz r<|eT<|Pe<|lE<|bH<|NM (s:=(x_x13.Op,x_x13.A,x_x13.B,x_x13.C,x_x13.Imm,out15)) (_,_,_) ((hE ⟨rfl,r,r,r,r,trivial⟩ ⟨rfl,r,r,trivial⟩))
     ·rintro ⟨⟩ ⟨v3x4,v4x4,v9x4,v11x4⟩ nn
      try dsimp only
      unfold Uy
      refine sQ<|bK<|sQ<|rG<|fA r r<|lO (v:=.sl (l2.Out.map (eL LS))) (z:=.agg [.sl (l2.Out.map (eL LS))]) r r r r r r<|mV r r<|bD fun x_x18 hx_x18=>iS (en:=(eL LS)) r r r hx_x18 r<|lF (v:=.sl (x_x18.map LS)) r r r r<|mV r r<|bD fun x_x19 hx_x19=>iS (en:=LS) r r r hx_x19 r<|lF (v:=.int .i64 x_x19) r r r r<|aS r r<|nI<|xS<|sC (E:=fun (s : Bool × Bool × Bool × Bool) (g : Nat × Nat × Nat × Nat)=>[(2,.bool strict3),(3,.optr 3 g.1 0 0),(4,.optr 4 g.2.1 0 0),(9,.osl 9 g.2.2.1 0 out15.length),(10,.int .i64 k6),(11,.optr 11 g.2.2.2 0 0),(12,.int .i64 r14.1),(13,.bool r14.2),(14,.int .i64 i16),(15,.int .i64 x_x19),(62,.bool r14.2),(78,.bool strict3),(79,.bool (!strict3)),(80,.bool s.1),(84,.bool s.2.1),(85,.bool s.2.2.1),(90,.bool s.2.2.2)]) (O:=fun s g=>[(3,some (g.1,⟨false,true,3,33,[.agg [.int .i64 f1.Params,.sl (f1.Slots.map LZ),.sl (f1.Code.map LW)]]⟩)),(4,some (g.2.1,⟨false,true,1,37,[.agg [.sl (l2.Out.map (eL LS))]]⟩)),(9,some (g.2.2.1,⟨false,false,1,42,out15.map (eL LS)⟩)),(11,some (g.2.2.2,⟨false,true,5,54,[.agg [.int .i64 x_x13.Op,.int .i64 x_x13.A,.int .i64 x_x13.B,.int .i64 x_x13.C,.int .u64 x_x13.Imm]]⟩))]) (j:=fun s=>OI r14 out15 x_x19 i16 s.1 s.2.1 s.2.2.1 s.2.2.2) ?_ ?_
      ·refine sQ<|rG<|mV r r<|mV r r<|bN (v:=.bool (x_x19 == r14.1)) r r r r r<|mV r r<|sP 77 (b:=(x_x19 == r14.1)) r ?_ ?_
       ·exact oF r<|oF r<|oF r<|oF r<|oF r<|oF r<|oF r<|oF r<|oF r<|oF r<|oF r<|oF r<|oF r<|pT r r r r<|nI<|xS<|MW r<|eT<|Pe<|bH<|xS<|rG<|mV r r<|bN (v:=.int .i64 (IntKind.i64.wrap (i16 + 1))) r r r r r<|aS r r<|nI<|xL (s:=(out15,IntKind.i64.wrap (i16 + 1))) (_,_,_,_) ((hE ⟨rfl,r,r,r,r,r,r,r,r,trivial⟩ ⟨rfl,r,r,r,trivial⟩))
       ·refine mV r r<|uN (w:=.bool (!strict3)) r r r r trivial<|mV r r<|sP 80 (b:=(!strict3)) r ?_ ?_
        ·refine fA r r<|lO (v:=.int .i64 x_x13.Op) (z:=.agg [.int .i64 x_x13.Op,.int .i64 x_x13.A,.int .i64 x_x13.B,.int .i64 x_x13.C,.int .u64 x_x13.Imm]) r r r r r r<|bN (v:=.bool (x_x13.Op == 17)) r r r r r<|pT r r r r<|mV r r<|sP 85 (b:=(x_x13.Op == 17)) r ?_ ?_
         ·refine fA r r<|lO (v:=.int .i64 x_x13.B) (z:=.agg [.int .i64 x_x13.Op,.int .i64 x_x13.A,.int .i64 x_x13.B,.int .i64 x_x13.C,.int .u64 x_x13.Imm]) r r r r r r<|mV r r<|bN (v:=.bool (x_x13.B == x_x19)) r r r r r<|pT r r r r<|pF r r r r<|nI<|xS<|cD (c:=(x_x13.B == x_x19)) r ?_ ?_
          ·exact eT<|Pe<|bH<|xS<|rG<|mV r r<|bN (v:=.int .i64 (IntKind.i64.wrap (i16 + 1))) r r r r r<|aS r r<|nI<|xL (s:=(out15,IntKind.i64.wrap (i16 + 1))) (_,_,_,_) ((hE ⟨rfl,r,r,r,r,r,r,r,r,trivial⟩ ⟨rfl,r,r,r,trivial⟩))
          ·exact sK<|xC (s:=(true,(x_x13.Op == 17),true,(x_x13.B == x_x19))) (_,_,_,_) ((hE ⟨rfl,r,r,r,r,r,r,r,r,r,r,r,r,r,r,r,r,trivial⟩ ⟨rfl,r,r,r,trivial⟩))
         ·exact oF r<|oF r<|oF r<|oF r<|pF r r r r<|pF r r r r<|nI<|xS<|Nz r<|sK<|xC (s:=(true,(x_x13.Op == 17),false,false)) (_,_,_,_) ((hE ⟨rfl,r,r,r,r,r,r,r,r,r,r,r,r,r,r,r,r,trivial⟩ ⟨rfl,r,r,r,trivial⟩))
        ·exact oF r<|oF r<|oF r<|pF r r r r<|mV r r<|oF r<|oF r<|oF r<|oF r<|pF r r r r<|pF r r r r<|nI<|xS<|Nz r<|sK<|xC (s:=(false,false,false,false)) (_,_,_,_) ((hE ⟨rfl,r,r,r,r,r,r,r,r,r,r,r,r,r,r,r,r,trivial⟩ ⟨rfl,r,r,r,trivial⟩))
      ·rintro ⟨x20,x21,x22,x23⟩ ⟨v3x5,v4x5,v9x5,v11x5⟩ nn
       try dsimp only
       unfold OI
       exact rG<|mV r r<|mV r r<|mV r r<|mV r r<|mV r r<|mV r r<|cK fun hq=>iO (l:=out15) (en:=(eL LS)) r r r r r hq<|bD fun out_e24 hout_e24=>lO (v:=.sl (out_e24.map LS)) (z:=(eL LS) out_e24) r r r (Nn hout_e24) r r<|mV r r<|bD fun r25 hr25=>cR (l:=r25) (en:=LS) (out_e24,x_x19) r r r Ud r r (by simp) r hr25 r<|mV r r<|mV r r<|cK fun hq=>iO (l:=out15) (en:=(eL LS)) r r r r r hq<|bD fun out_e26 hout_e26=>lO (v:=.sl (out_e26.map LS)) (z:=(eL LS) out_e26) r r r (Nn hout_e26) r r<|mV r r<|bD fun r27 hr27=>cR (l:=r27) (en:=LS) (out_e26,r14.1) r r r Ud r r (by simp) r hr27 r<|cK fun hq=>iO (l:=out15) (en:=(eL LS)) r r r r r hq<|bD fun out_o28 hout_o28=>sE (l:=out15) (en:=(eL LS)) (q':=r25) r r r r r r r (by simp) hout_o28 r r r (by simp [MO,cells,setAt,eL]) r<|cK fun hq=>iO (l:=out15.set r14.1.toNat r25) (en:=(eL LS)) (by simp) r r r r hq<|bD fun out_o29 hout_o29=>sE (l:=out15.set r14.1.toNat r25) (en:=(eL LS)) (q':=r27) r r r r r r r (by simp) hout_o29 r r r (by simp [MO,cells,setAt,eL]) r<|Mj (by kernel_rfl)<|bM<|xS<|rG<|mV r r<|bN (v:=.int .i64 (IntKind.i64.wrap (i16 + 1))) r r r r r<|aS r r<|nI<|xL (s:=((out15.set r14.1.toNat r25).set x_x19.toNat r27,IntKind.i64.wrap (i16 + 1))) (_,_,_,_) ((hE ⟨rfl,r,r,(Abb (q:=out15.length) r (by simp)),r,r,r,r,r,trivial⟩ ⟨rfl,r,r,r,trivial⟩))
   ·rintro ⟨x7,x8,x9,x10,x11,out12⟩ ⟨v3x6,v4x6,v9x6⟩ nn
    try dsimp only
    unfold Pu
    exact rG<|mV r r<|bN (v:=.int .i64 (IntKind.i64.wrap (k6 + 1))) r r r r r<|aS r r<|nI<|xL (s:=(out12,IntKind.i64.wrap (k6 + 1))) (_,_,_) ((hE ⟨rfl,r,r,r,r,trivial⟩ ⟨rfl,r,r,trivial⟩))
  ·refine eT<|xE<|lE<|bH<|xS<|sQ<|rG<|mV r r<|aO (l:=out5) (en:=(eL LS)) r r r r<|aS r r<|nI<|xS<|rT<|Te (b:=(out5,0)) r ?_ r r ?_ (by first | rfl | (simp only [Mw,MB]; rfl) | simp [Vr]) (by decide)
   all_goals first|(simp;done)|(simp;omega)|rfl|(simp [Me,Mc];done)

def dc9 : Mm:=(.seq (.reg [P 2 (.box (T 0) 3 33),P 3 (.box (T 1) 1 37),⟨(some 4),(.asg (.c .nils) (some ⟨1,42⟩)),none,[]⟩,P 5 (.asg (C 0) none)] false) (.seq (.reg [P 6 (.ld 3 true (T 2)),P 7 (.ld 1 true (T 3)),P 8 (.call (.c (.clo 17 [])) [(T 6),(T 7),(.c (.bool false))]),P 9 (.ext (T 8) 0),P 10 (.ext (T 8) 1),⟨(some 4),(.asg (T 9) (some ⟨1,42⟩)),none,[]⟩,P 5 (.asg (T 10) none)] false) .ret))
theorem Amb : (Tryz.f9.body.bind (Mo Tryz.prog Tryz.f9.ntmps)) = some dc9:=by kernel_rfl
theorem Amc : Tryz.f9.results.toList.mapM (My Tryz.prog) = some [(.t 4),(.t 5)]:=by kernel_rfl
def WK (a : LY × Mf) : List D:=[ME a.1,Nf a.2]
def WJ (ds : List D) : LY × Mf:=(Ny (ds.getD 0 .top),OL (ds.getD 1 .top))
theorem Abk (a : LY × Mf) : WJ (WK a) = a:=by simp [WJ,WK]
def AbZ (b : (List (List Int)) × Int) : D:=.tup [.sl (b.1.map (eL LS)),.int .i64 b.2]
def AbY (_b : (List (List Int)) × Int) : List D:=[]
noncomputable def YG : Dw.Spec:=Ml [] .val WK WJ (fun a=>Vi a.1 a.2) AbZ AbY
set_option maxHeartbeats 4000000 in
theorem Ael : Mk Tryz.prog 9 YG:=by
 refine Mv (Mp (l:=[(17,YI)]) (by simp [Aen])) Tryz.func9 (by decide) Amb Amc (np:=2) (by decide) Abk (fun _=>r) (fun _=>r) (by decide)<|?_
 rintro ⟨f1,l2⟩
 show TrE (specs [(17,YI)]) dc9 (Mz [] .val [(.t 4),(.t 5)] AbZ AbY) ⟨[(0,.agg [.int .i64 f1.Params,.sl (f1.Slots.map LZ),.sl (f1.Code.map LW)]),(1,.agg [.sl (l2.Out.map (eL LS))])],[],262144⟩ (Vi f1 l2)
 refine Mq<|?_
 unfold dc9 Vi
 refine sQ<|rG<|bX r r r r r<|bX r r r r r<|aN (α:=(List Int)) r (eL LS) r<|aS r r<|nI<|xS<|sQ<|rG<|lO (v:=.agg [.int .i64 f1.Params,.sl (f1.Slots.map LZ),.sl (f1.Code.map LW)]) (z:=.agg [.int .i64 f1.Params,.sl (f1.Slots.map LZ),.sl (f1.Code.map LW)]) r r r r r r<|lO (v:=.agg [.sl (l2.Out.map (eL LS))]) (z:=.agg [.sl (l2.Out.map (eL LS))]) r r r r r r<|bD fun r3 hr3=>cV (f1,l2,false) r r r Abm r r (by simp) r hr3<|eX (v:=.sl (r3.1.map (eL LS))) r r r<|eX (v:=.int .i64 r3.2) r r r<|aL r r<|aS r r<|nI<|xS<|rT<|Te (b:=(r3.1,r3.2)) r ?_ r r ?_ r (by decide)
 all_goals first|(simp;done)|(simp;omega)|rfl|(simp [Me,Mc];done)

def AgP : Mm:=(.seq (.reg [P 1 (.box (T 0) 3 33),⟨(some 2),(.asg (.c .nils) (some ⟨2,62⟩)),none,[]⟩] false) (.seq (.reg [⟨(some 3),(.asg (.c .nils) (some ⟨2,62⟩)),none,[]⟩] false) (.seq (.seq (.reg [P 4 (.asg (C 0) none)] false) (.block 0 (.loop (.seq (.seq (.reg [M 9 4,P 10 (.fldA 2 (T 1)),P 11 (.ld 1 false (T 10)),P 12 (.len false (T 11)),P 13 (.bin .lss (T 9) (T 12))] false) (.cond (T 13) .skip (.exit 0))) (.seq (.block 1 (.seq (.reg [P 16 (.fldA 2 (T 1)),P 17 (.ld 1 false (T 16)),M 18 4,P 19 (.ixA 5 (T 17) (T 18)),P 20 (.ld 5 true (T 19)),P 5 (.new (.agg [(.int .i64 0),(.int .i64 0),(.int .i64 0),(.int .i64 0),(.int .u64 0)]) 5 54),⟨none,(.st 5 (T 5) (T 20)),none,[]⟩] false) (.seq (.reg [P 21 (.fldA 1 (T 5)),P 22 (.ld 1 false (T 21)),P 23 (.fldA 2 (T 5)),P 24 (.ld 1 false (T 23)),⟨(some 25),(.bld [(.int .i64 0),(.int .i64 0)] [⟨0,⟨1,(T 22)⟩⟩,⟨1,⟨1,(T 24)⟩⟩]),none,[]⟩,P 6 (.new (.agg [(.int .i64 0),(.int .i64 0)]) 2 62),⟨none,(.st 2 (T 6) (T 25)),none,[]⟩] false) (.seq (.reg [P 26 (.fldA 0 (T 5)),P 27 (.ld 1 false (T 26)),P 28 (.bin .neq (T 27) (C 17)),M 29 28,⟨(some 30),(.fldA 1 (T 5)),(some ⟨29,false⟩),[]⟩,⟨(some 31),(.ld 1 false (T 30)),(some ⟨29,false⟩),[]⟩,⟨(some 32),(.fldA 2 (T 5)),(some ⟨29,false⟩),[]⟩,⟨(some 33),(.ld 1 false (T 32)),(some ⟨29,false⟩),[]⟩,⟨(some 34),(.bin .eql (T 31) (T 33)),(some ⟨29,false⟩),[]⟩,P 35 (.pick (T 29) (.c (.bool true)) (T 34)),P 7 (.asg (T 35) none)] false) (.seq (.seq (.reg [P 8 (.asg (C 0) none)] false) (.block 2 (.loop (.seq (.seq (.reg [M 36 8,M 37 3,P 38 (.len false (T 37)),P 39 (.bin .lss (T 36) (T 38))] false) (.cond (T 39) .skip (.exit 2))) (.seq (.block 3 (.reg [M 42 7,⟨(some 43),(.mv (T 42)),none,[0]⟩,⟨(some 44),(.mv (T 3)),(some ⟨43,false⟩),[1]⟩,⟨(some 45),(.mv (T 8)),(some ⟨43,false⟩),[1]⟩,⟨(some 46),(.ixA 2 (T 44) (T 45)),(some ⟨43,false⟩),[2,3,1]⟩,⟨(some 47),(.ld 2 true (T 46)),(some ⟨43,false⟩),[4,1]⟩,⟨(some 48),(.ld 2 true (T 6)),(some ⟨43,false⟩),[1]⟩,⟨(some 49),(.eqA 2 false (T 47) (T 48)),(some ⟨43,false⟩),[5,6,1]⟩,⟨(some 50),(.pick (T 43) (.c (.bool true)) (T 49)),none,[1,7]⟩,⟨(some 7),(.asg (T 50) none),none,[8,1,0,1,2,3,4,5,6,7,8]⟩] true)) (.reg [M 40 8,P 41 (.bin .add (T 40) (C 1)),P 8 (.asg (T 41) none)] false)))))) (.seq (.reg [M 51 7,P 52 (.un .not (T 51))] false) (.cond (T 52) (.reg [M 53 3,P 54 (.ld 2 true (T 6)),⟨(some 55),(.bldS 2 62 (.agg [(.int .i64 0),(.int .i64 0)]) 1 [⟨0,(T 54)⟩]),none,[]⟩,P 56 (.app 2 62 16 (T 53) (T 55)),⟨(some 3),(.asg (T 56) (some ⟨2,62⟩)),none,[]⟩] false) .skip))))))) (.reg [M 14 4,P 15 (.bin .add (T 14) (C 1)),P 4 (.asg (T 15) none)] false)))))) (.seq (.reg [M 57 3,⟨(some 2),(.asg (T 57) (some ⟨2,62⟩)),none,[]⟩] false) .ret))))
theorem Ajn : (Tryz.f18.body.bind (Mo Tryz.prog Tryz.f18.ntmps)) = some AgP:=by kernel_rfl
theorem Ajo : Tryz.f18.results.toList.mapM (My Tryz.prog) = some [(.t 2)]:=by kernel_rfl
def WM (a : LY) : List D:=[ME a]
def WL (ds : List D) : LY:=Ny (ds.getD 0 .top)
theorem Abl (a : LY) : WL (WM a) = a:=by simp [WL,WM]
def Acb (b : (List MH)) : D:=.sl (b.map Nk)
def Aca (_b : (List MH)) : List D:=[]
noncomputable def YH : Dw.Spec:=Ml [] (.row 2 62) WM WL (fun a=>Tb a) Acb Aca
set_option maxHeartbeats 4000000 in
theorem Aem : Mk Tryz.prog 18 YH:=by
 refine Mv (Nb) Tryz.func18 (by decide) Ajn Ajo (np:=1) (by decide) Abl (fun _=>r) (fun _=>r) (by decide)<|?_
 intro f1
 show TrE (specs []) AgP (Mz [] (.row 2 62) [(.t 2)] Acb Aca) ⟨[(0,.agg [.int .i64 f1.Params,.sl (f1.Slots.map LZ),.sl (f1.Code.map LW)])],[],262144⟩ (Tb f1)
 refine Mq<|?_
 unfold AgP Tb
 refine sQ<|rG<|bX r r r r r<|aN (α:=MH) r Nk r<|nI<|xS<|sQ<|rG<|aN (α:=MH) r Nk r<|nI<|xS<|sQ<|sQ<|rG<|aS r r<|nI<|xS<|bK<|lP (E:=fun (s : (List MH) × Int) (g : Nat × Nat)=>[(1,.optr 1 g.1 0 0),(3,.osl 3 g.2 0 s.1.length),(4,.int .i64 s.2)]) (O:=fun s g=>[(1,some (g.1,⟨false,true,3,33,[.agg [.int .i64 f1.Params,.sl (f1.Slots.map LZ),.sl (f1.Code.map LW)]]⟩)),(3,some (g.2,⟨false,false,2,62,s.1.map Nk⟩))]) (body:=fun s=>Uv f1 s.1 s.2) (s:=(([] : List MH),0)) (_,_) ((hE ⟨rfl,r,r,trivial⟩ ⟨rfl,r,trivial⟩))<|?_
 rintro ⟨out2,k3⟩ ⟨v1x1,v3x1⟩ nn
 try dsimp only
 unfold Uv
 refine sQ<|sQ<|rG<|mV r r<|fA r r<|lO (v:=.sl (f1.Code.map LW)) (z:=.agg [.int .i64 f1.Params,.sl (f1.Slots.map LZ),.sl (f1.Code.map LW)]) r r r r r r<|lS r r<|bN (v:=.bool (decide (k3 < (f1.Code.length : Int)))) r r r r r<|nI<|xS<|cD (c:=(decide (k3 < (f1.Code.length : Int)))) r ?_ ?_
 ·refine sK<|xS<|bC (E:=fun (s : (List MH)) (g : Nat × Nat)=>[(1,.optr 1 g.1 0 0),(3,.osl 3 g.2 0 s.length),(4,.int .i64 k3)]) (O:=fun s g=>[(1,some (g.1,⟨false,true,3,33,[.agg [.int .i64 f1.Params,.sl (f1.Slots.map LZ),.sl (f1.Code.map LW)]]⟩)),(3,some (g.2,⟨false,false,2,62,s.map Nk⟩))]) (j:=fun s=>Sb k3 s) ?_ ?_
  ·refine sQ<|rG<|fA r r<|lO (v:=.sl (f1.Code.map LW)) (z:=.agg [.int .i64 f1.Params,.sl (f1.Slots.map LZ),.sl (f1.Code.map LW)]) r r r r r r<|mV r r<|bD fun x_x5 hx_x5=>iS (en:=LW) r r r hx_x5 r<|lF (v:=.agg [.int .i64 x_x5.Op,.int .i64 x_x5.A,.int .i64 x_x5.B,.int .i64 x_x5.C,.int .u64 x_x5.Imm]) r r r r<|nW r<|sV (z':=.agg [.int .i64 x_x5.Op,.int .i64 x_x5.A,.int .i64 x_x5.B,.int .i64 x_x5.C,.int .u64 x_x5.Imm]) r r r r r r r r r<|nI<|xS<|sQ<|rG<|fA r r<|lO (v:=.int .i64 x_x5.A) (z:=.agg [.int .i64 x_x5.Op,.int .i64 x_x5.A,.int .i64 x_x5.B,.int .i64 x_x5.C,.int .u64 x_x5.Imm]) r r r r r r<|fA r r<|lO (v:=.int .i64 x_x5.B) (z:=.agg [.int .i64 x_x5.Op,.int .i64 x_x5.A,.int .i64 x_x5.B,.int .i64 x_x5.C,.int .u64 x_x5.Imm]) r r r r r r<|bL (cs:=[.int .i64 x_x5.A,.int .i64 x_x5.B]) (ps:=[(0,1,.int .i64 x_x5.A),(1,1,.int .i64 x_x5.B)]) r r r r<|nW r<|sV (z':=.agg [.int .i64 x_x5.A,.int .i64 x_x5.B]) r r r r r r r r r<|nI<|xS<|sC (E:=fun (s : Bool) (g : Nat × Nat × Nat)=>[(1,.optr 1 g.1 0 0),(3,.osl 3 g.2.1 0 out2.length),(4,.int .i64 k3),(6,.optr 6 g.2.2 0 0),(7,.bool s)]) (O:=fun s g=>[(1,some (g.1,⟨false,true,3,33,[.agg [.int .i64 f1.Params,.sl (f1.Slots.map LZ),.sl (f1.Code.map LW)]]⟩)),(3,some (g.2.1,⟨false,false,2,62,out2.map Nk⟩)),(6,some (g.2.2,⟨false,true,2,62,[.agg [.int .i64 x_x5.A,.int .i64 x_x5.B]]⟩))]) (j:=fun s=>Qx out2 x_x5 k3 s) ?_ ?_
   ·refine rG<|fA r r<|lO (v:=.int .i64 x_x5.Op) (z:=.agg [.int .i64 x_x5.Op,.int .i64 x_x5.A,.int .i64 x_x5.B,.int .i64 x_x5.C,.int .u64 x_x5.Imm]) r r r r r r<|bN (v:=.bool (x_x5.Op != 17)) r r r r r<|mV r r<|sP 29 (b:=(x_x5.Op != 17)) r ?_ ?_
    ·exact oF r<|oF r<|oF r<|oF r<|oF r<|pT r r r r<|aS r r<|nI<|xC (s:=true) (_,_,_) ((hE ⟨rfl,r,r,r,r,trivial⟩ ⟨rfl,r,r,trivial⟩))
    ·exact fA r r<|lO (v:=.int .i64 x_x5.A) (z:=.agg [.int .i64 x_x5.Op,.int .i64 x_x5.A,.int .i64 x_x5.B,.int .i64 x_x5.C,.int .u64 x_x5.Imm]) r r r r r r<|fA r r<|lO (v:=.int .i64 x_x5.B) (z:=.agg [.int .i64 x_x5.Op,.int .i64 x_x5.A,.int .i64 x_x5.B,.int .i64 x_x5.C,.int .u64 x_x5.Imm]) r r r r r r<|bN (v:=.bool (x_x5.A == x_x5.B)) r r r r r<|pF r r r r<|aS r r<|nI<|xC (s:=(x_x5.A == x_x5.B)) (_,_,_) ((hE ⟨rfl,r,r,r,r,trivial⟩ ⟨rfl,r,r,trivial⟩))
   ·rintro old6 ⟨v1x2,v3x2,v6x2⟩ nn
    try dsimp only
    unfold Qx
    refine sQ<|sQ<|rG<|aS r r<|nI<|xS<|bK<|lP (E:=fun (s : Bool × Int) (g : Nat × Nat × Nat)=>[(1,.optr 1 g.1 0 0),(3,.osl 3 g.2.1 0 out2.length),(4,.int .i64 k3),(6,.optr 6 g.2.2 0 0),(7,.bool s.1),(8,.int .i64 s.2)]) (O:=fun s g=>[(1,some (g.1,⟨false,true,3,33,[.agg [.int .i64 f1.Params,.sl (f1.Slots.map LZ),.sl (f1.Code.map LW)]]⟩)),(3,some (g.2.1,⟨false,false,2,62,out2.map Nk⟩)),(6,some (g.2.2,⟨false,true,2,62,[.agg [.int .i64 x_x5.A,.int .i64 x_x5.B]]⟩))]) (body:=fun s=>Uw out2 x_x5 k3 s.1 s.2) (s:=(old6,0)) (_,_,_) ((hE ⟨rfl,r,r,r,r,r,trivial⟩ ⟨rfl,r,r,trivial⟩))<|?_
    rintro ⟨old7,i8⟩ ⟨v1x3,v3x3,v6x3⟩ nn
    try dsimp only
    unfold Uw
    refine sQ<|sQ<|rG<|mV r r<|mV r r<|lW r r<|bN (v:=.bool (decide (i8 < (out2.length : Int)))) r r r r r<|nI<|xS<|cD (c:=(decide (i8 < (out2.length : Int)))) r ?_ ?_
    ·refine sK<|xS<|sQ<|bK<|rG<|mV r r<|mV r r<|sP 43 (b:=old7) r ?_ ?_
     ·exact oF r<|oF r<|oF r<|oF r<|oF r<|oF r<|pT r r r r<|aS r r<|Mj (by kernel_rfl)<|bM<|xS<|rG<|mV r r<|bN (v:=.int .i64 (IntKind.i64.wrap (i8 + 1))) r r r r r<|aS r r<|nI<|xL (s:=(true,IntKind.i64.wrap (i8 + 1))) (_,_,_) ((hE ⟨rfl,r,r,r,r,r,trivial⟩ ⟨rfl,r,r,trivial⟩))
     ·exact mV r r<|mV r r<|cK fun hq=>iO (l:=out2) (en:=Nk) r r r r r hq<|bD fun out_e9 hout_e9=>lO (v:=.agg [.int .i64 out_e9.a0,.int .i64 out_e9.a1]) (z:=Nk out_e9) r r r (Nn hout_e9) r r<|lO (v:=.agg [.int .i64 x_x5.A,.int .i64 x_x5.B]) (z:=.agg [.int .i64 x_x5.A,.int .i64 x_x5.B]) r r r r r r<|eA_ (p:=((out_e9.a0 == x_x5.A) && ((out_e9.a1 == x_x5.B) && true))) r r r r ⟨rfl,⟨rfl,trivial⟩⟩ r<|pF r r r r<|aS r r<|Mj (by kernel_rfl)<|bM<|xS<|rG<|mV r r<|bN (v:=.int .i64 (IntKind.i64.wrap (i8 + 1))) r r r r r<|aS r r<|nI<|xL (s:=(((out_e9.a0 == x_x5.A) && ((out_e9.a1 == x_x5.B) && true)),IntKind.i64.wrap (i8 + 1))) (_,_,_) ((hE ⟨rfl,r,r,r,r,r,trivial⟩ ⟨rfl,r,r,trivial⟩))
    ·refine eT<|xE<|lE<|bH<|xS<|sQ<|rG<|mV r r<|uN (w:=.bool (!old7)) r r r r trivial<|nI<|xS<|cD (c:=(!old7)) r ?_ ?_
     ·exact rG<|mV r r<|lO (v:=.agg [.int .i64 x_x5.A,.int .i64 x_x5.B]) (z:=.agg [.int .i64 x_x5.A,.int .i64 x_x5.B]) r r r r r r<|bS ([(MH.mk x_x5.A x_x5.B)] : List MH) Nk r r r (by simp) r r r<|cK fun hq=>aP (out2) (([(MH.mk x_x5.A x_x5.B)] : List MH)) Nk r r r r r r r (by simp) (Mu _ _ r) r r (by simp) (Md _ _ r) (fun _=>r) r hq<|aO (l:=out2 ++ ([(MH.mk x_x5.A x_x5.B)] : List MH)) (en:=Nk) r r r r<|nI<|NM (s:=out2 ++ ([(MH.mk x_x5.A x_x5.B)] : List MH)) (_,_) ((hE ⟨rfl,r,r,trivial⟩ ⟨rfl,r,trivial⟩))
     ·exact sK<|NM (s:=out2) (_,_) ((hE ⟨rfl,r,r,trivial⟩ ⟨rfl,r,trivial⟩))
  ·rintro out4 ⟨v1x4,v3x4⟩ nn
   try dsimp only
   unfold Sb
   exact rG<|mV r r<|bN (v:=.int .i64 (IntKind.i64.wrap (k3 + 1))) r r r r r<|aS r r<|nI<|xL (s:=(out4,IntKind.i64.wrap (k3 + 1))) (_,_) ((hE ⟨rfl,r,r,trivial⟩ ⟨rfl,r,trivial⟩))
 ·refine eT<|xE<|lE<|bH<|xS<|sQ<|rG<|mV r r<|aO (l:=out2) (en:=Nk) r r r r<|nI<|xS<|rT<|MC (b:=out2) r ?_ r r ?_ r ?_ (congrArg D.sl (Md _ _ r)) r
  all_goals first|(simp;done)|(simp;omega)|rfl|(simp [Me,Mc];done)

def Ahd : Mm:=(.seq (.reg [⟨(some 4),(.asg (.c .nils) (some ⟨1,3⟩)),none,[]⟩] false) (.seq (.reg [⟨(some 5),(.asg (.c .nils) (some ⟨1,3⟩)),none,[]⟩] false) (.seq (.seq (.reg [P 6 (.asg (C 0) none)] false) (.block 0 (.loop (.seq (.seq (.reg [M 7 6,M 8 0,P 9 (.len false (T 8)),P 10 (.bin .lss (T 7) (T 9))] false) (.cond (T 10) .skip (.exit 0))) (.seq (.block 1 (.seq (.reg [M 13 0,M 14 6,P 15 (.ixA 1 (T 13) (T 14)),P 16 (.ld 1 false (T 15)),M 17 1,P 18 (.bin .eql (T 16) (T 17))] false) (.cond (T 18) (.reg [M 19 5,M 20 6,⟨(some 21),(.bldS 1 3 (.int .i64 0) 1 [⟨0,(T 20)⟩]),none,[]⟩,P 22 (.app 1 3 8 (T 19) (T 21)),⟨(some 5),(.asg (T 22) (some ⟨1,3⟩)),none,[]⟩] false) .skip))) (.reg [M 11 6,P 12 (.bin .add (T 11) (C 1)),P 6 (.asg (T 12) none)] false)))))) (.seq (.reg [M 23 5,⟨(some 4),(.asg (T 23) (some ⟨1,3⟩)),none,[]⟩] false) .ret))))
theorem AjP : (Tryz.f32.body.bind (Mo Tryz.prog Tryz.f32.ntmps)) = some Ahd:=by kernel_rfl
theorem AjQ : Tryz.f32.results.toList.mapM (My Tryz.prog) = some [(.t 4)]:=by kernel_rfl
def Vd (a : (List Int) × Int) : List D:=[.sl (a.1.map LS),.int .i64 a.2]
def Vc (ds : List D) : (List Int) × Int:=((uL uI) (ds.getD 0 .top),uI (ds.getD 1 .top))
theorem VH (a : (List Int) × Int) : Vc (Vd a) = a:=by simp [Vc,Vd,uI,Nt (u:=uI) (en:=LS) (fun _=>rfl)]
def AaC (b : (List Int)) : D:=.sl (b.map LS)
def AaB (_b : (List Int)) : List D:=[]
noncomputable def WR : Dw.Spec:=Ml [] (.row 1 3) Vd Vc (fun a=>Qd a.1 a.2) AaC AaB
set_option maxHeartbeats 4000000 in
theorem AdE : Mk Tryz.prog 32 WR:=by
 refine Mv (Nb) Tryz.func32 (by decide) AjP AjQ (np:=2) (by decide) VH (fun _=>r) (fun _=>r) (by decide)<|?_
 rintro ⟨to1,s2⟩
 show TrE (specs []) Ahd (Mz [] (.row 1 3) [(.t 4)] AaC AaB) ⟨[(0,.sl (to1.map LS)),(1,.int .i64 s2)],[],262144⟩ (Qd to1 s2)
 refine Mq<|?_
 unfold Ahd Qd
 refine sQ<|rG<|aN (α:=Int) r LS r<|nI<|xS<|sQ<|rG<|aN (α:=Int) r LS r<|nI<|xS<|sQ<|sQ<|rG<|aS r r<|nI<|xS<|bK<|lP (E:=fun (s : (List Int) × Int) (g : Nat)=>[(0,.sl (to1.map LS)),(1,.int .i64 s2),(5,.osl 5 g 0 s.1.length),(6,.int .i64 s.2)]) (O:=fun s g=>[(5,some (g,⟨false,false,1,3,s.1.map LS⟩))]) (body:=fun s=>SG to1 s2 s.1 s.2) (s:=(([] : List Int),0)) _ ((hE ⟨rfl,r,r,r,trivial⟩ ⟨rfl,trivial⟩))<|?_
 rintro ⟨out3,t4⟩ v5x1 nn
 try dsimp only
 unfold SG
 refine sQ<|sQ<|rG<|mV r r<|mV r r<|lS r r<|bN (v:=.bool (decide (t4 < (to1.length : Int)))) r r r r r<|nI<|xS<|cD (c:=(decide (t4 < (to1.length : Int)))) r ?_ ?_
 ·refine sK<|xS<|sQ<|bK<|sQ<|rG<|mV r r<|mV r r<|bD fun x_x5 hx_x5=>iS (en:=LS) r r r hx_x5 r<|lF (v:=.int .i64 x_x5) r r r r<|mV r r<|bN (v:=.bool (x_x5 == s2)) r r r r r<|nI<|xS<|cD (c:=(x_x5 == s2)) r ?_ ?_
  ·exact rG<|mV r r<|mV r r<|bS ([t4] : List Int) LS r r r (by simp) r r r<|cK fun hq=>aP (out3) (([t4] : List Int)) LS r r r r r r r (by simp) (Mu _ _ r) r r (by simp) (Md _ _ r) (fun _=>r) r hq<|aO (l:=out3 ++ ([t4] : List Int)) (en:=LS) r r r r<|nI<|bM<|xS<|rG<|mV r r<|bN (v:=.int .i64 (IntKind.i64.wrap (t4 + 1))) r r r r r<|aS r r<|nI<|xL (s:=(out3 ++ ([t4] : List Int),IntKind.i64.wrap (t4 + 1))) _ ((hE ⟨rfl,r,r,r,trivial⟩ ⟨rfl,trivial⟩))
  ·exact sK<|bM<|xS<|rG<|mV r r<|bN (v:=.int .i64 (IntKind.i64.wrap (t4 + 1))) r r r r r<|aS r r<|nI<|xL (s:=(out3,IntKind.i64.wrap (t4 + 1))) _ ((hE ⟨rfl,r,r,r,trivial⟩ ⟨rfl,trivial⟩))
 ·refine eT<|xE<|lE<|bH<|xS<|sQ<|rG<|mV r r<|aO (l:=out3) (en:=LS) r r r r<|nI<|xS<|rT<|MC (b:=out3) r ?_ r r ?_ r ?_ (congrArg D.sl (Md _ _ r)) r
  all_goals first|(simp;done)|(simp;omega)|rfl|(simp [Me,Mc];done)

def AgQ : Mm:=(.seq (.reg [P 8 (.asg (.c (.bool false)) none)] false) (.seq (.reg [M 13 1,M 14 2,P 15 (.call (.c (.clo 32 [])) [(T 13),(T 14)]),M 16 1,M 17 3,P 18 (.call (.c (.clo 32 [])) [(T 16),(T 17)]),⟨(some 9),(.asg (T 15) (some ⟨1,3⟩)),none,[]⟩,⟨(some 10),(.asg (T 18) (some ⟨1,3⟩)),none,[]⟩] false) (.seq (.seq (.reg [P 11 (.asg (C 0) none)] false) (.block 0 (.loop (.seq (.seq (.reg [M 19 11,M 20 9,P 21 (.len false (T 20)),P 22 (.bin .lss (T 19) (T 21))] false) (.cond (T 22) .skip (.exit 0))) (.seq (.block 1 (.seq (.reg [P 12 (.asg (C 0) none)] false) (.block 2 (.loop (.seq (.seq (.reg [M 25 12,M 26 10,P 27 (.len false (T 26)),P 28 (.bin .lss (T 25) (T 27))] false) (.cond (T 28) .skip (.exit 2))) (.seq (.block 3 (.seq (.reg [M 31 0,M 32 9,M 33 11,⟨(some 34),(.ixA 1 (T 32) (T 33)),none,[1,2]⟩,⟨(some 35),(.ld 1 false (T 34)),none,[3]⟩,⟨(some 36),(.ixA 1 (T 31) (T 35)),none,[0,4]⟩,⟨(some 37),(.ld 1 false (T 36)),none,[5]⟩,M 38 10,M 39 12,⟨(some 40),(.ixA 1 (T 38) (T 39)),none,[7,8]⟩,⟨(some 41),(.ld 1 false (T 40)),none,[9]⟩,⟨(some 42),(.call (.c (.clo 33 [])) [(T 37),(T 41)]),none,[6,10]⟩] true) (.cond (T 42) (.seq (.reg [P 8 (.asg (.c (.bool false)) none)] false) .ret) .skip))) (.reg [M 29 12,P 30 (.bin .add (T 29) (C 1)),P 12 (.asg (T 30) none)] false))))))) (.reg [M 23 11,P 24 (.bin .add (T 23) (C 1)),P 11 (.asg (T 24) none)] false)))))) (.seq (.reg [P 8 (.asg (.c (.bool true)) none)] false) .ret))))
theorem Ajp : (Tryz.f19.body.bind (Mo Tryz.prog Tryz.f19.ntmps)) = some AgQ:=by kernel_rfl
theorem Ajq : Tryz.f19.results.toList.mapM (My Tryz.prog) = some [(.t 8)]:=by kernel_rfl
def TF (a : (List (List Int)) × (List Int) × Int × Int) : List D:=[.sl (a.1.map (eL LS)),.sl (a.2.1.map LS),.int .i64 a.2.2.1,.int .i64 a.2.2.2]
def WS (ds : List D) : (List (List Int)) × (List Int) × Int × Int:=((uL (uL uI)) (ds.getD 0 .top),(uL uI) (ds.getD 1 .top),uI (ds.getD 2 .top),uI (ds.getD 3 .top))
theorem Abn (a : (List (List Int)) × (List Int) × Int × Int) : WS (TF a) = a:=by simp [WS,TF,uI,Nt (u:=(uL uI)) (en:=(eL LS)) (Nt (u:=uI) (en:=LS) (fun _=>rfl)),Nt (u:=uI) (en:=LS) (fun _=>rfl)]
def Acf (b : Bool) : D:=.bool b
def Ace (_b : Bool) : List D:=[]
noncomputable def YJ : Dw.Spec:=Ml [] .ground TF WS (fun a=>Td a.1 a.2.1 a.2.2.1 a.2.2.2) Acf Ace
set_option maxHeartbeats 4000000 in
theorem Aeo : Mk Tryz.prog 19 YJ:=by
 refine Mv (Mp (l:=[(32,WR),(33,RA)]) (by simp [AdE,ZH])) Tryz.func19 (by decide) Ajp Ajq (np:=4) (by decide) Abn (fun _=>r) (fun _=>r) (by decide)<|?_
 rintro ⟨g1,to2,a3,b4⟩
 show TrE (specs [(32,WR),(33,RA)]) AgQ (Mz [] .ground [(.t 8)] Acf Ace) ⟨[(0,.sl (g1.map (eL LS))),(1,.sl (to2.map LS)),(2,.int .i64 a3),(3,.int .i64 b4)],[],262144⟩ (Td g1 to2 a3 b4)
 refine Mq<|?_
 unfold AgQ Td
 refine sQ<|rG<|aS r r<|nI<|xS<|sQ<|rG<|mV r r<|mV r r<|bD fun r5 hr5=>cR (l:=r5) (en:=LS) (to2,a3) r r r VH r r (by simp) r hr5 r<|mV r r<|mV r r<|bD fun r6 hr6=>cR (l:=r6) (en:=LS) (to2,b4) r r r VH r r (by simp) r hr6 r<|aO (l:=r5) (en:=LS) r r r r<|aO (l:=r6) (en:=LS) r r r r<|nI<|xS<|sQ<|sQ<|rG<|aS r r<|nI<|xS<|bK<|lP (E:=fun (s : Int) (g : Nat × Nat)=>[(0,.sl (g1.map (eL LS))),(9,.osl 9 g.1 0 r5.length),(10,.osl 10 g.2 0 r6.length),(11,.int .i64 s)]) (O:=fun s g=>[(9,some (g.1,⟨false,false,1,3,r5.map LS⟩)),(10,some (g.2,⟨false,false,1,3,r6.map LS⟩))]) (body:=fun s=>Uz r5 r6 g1 s) (s:=0) (_,_) ((hE ⟨rfl,r,r,r,trivial⟩ ⟨rfl,r,trivial⟩))<|?_
 rintro i7 ⟨v9x1,v10x1⟩ nn
 try dsimp only
 unfold Uz
 refine sQ<|sQ<|rG<|mV r r<|mV r r<|lW r r<|bN (v:=.bool (decide (i7 < (r5.length : Int)))) r r r r r<|nI<|xS<|cD (c:=(decide (i7 < (r5.length : Int)))) r ?_ ?_
 ·refine sK<|xS<|bC (E:=fun (s : Unit) (g : Nat × Nat)=>[(0,.sl (g1.map (eL LS))),(9,.osl 9 g.1 0 r5.length),(10,.osl 10 g.2 0 r6.length),(11,.int .i64 i7)]) (O:=fun s g=>[(9,some (g.1,⟨false,false,1,3,r5.map LS⟩)),(10,some (g.2,⟨false,false,1,3,r6.map LS⟩))]) (j:=fun s=>UB i7) ?_ ?_
  ·refine sQ<|rG<|aS r r<|nI<|xS<|bK<|lP (E:=fun (s : Int) (g : Nat × Nat)=>[(0,.sl (g1.map (eL LS))),(9,.osl 9 g.1 0 r5.length),(10,.osl 10 g.2 0 r6.length),(11,.int .i64 i7),(12,.int .i64 s)]) (O:=fun s g=>[(9,some (g.1,⟨false,false,1,3,r5.map LS⟩)),(10,some (g.2,⟨false,false,1,3,r6.map LS⟩))]) (body:=fun s=>UA r6 i7 r5 g1 s) (s:=0) (_,_) ((hE ⟨rfl,r,r,r,r,trivial⟩ ⟨rfl,r,trivial⟩))<|?_
   rintro k8 ⟨v9x2,v10x2⟩ nn
   try dsimp only
   unfold UA
   refine sQ<|sQ<|rG<|mV r r<|mV r r<|lW r r<|bN (v:=.bool (decide (k8 < (r6.length : Int)))) r r r r r<|nI<|xS<|cD (c:=(decide (k8 < (r6.length : Int)))) r ?_ ?_
   ·refine sK<|xS<|sQ<|bK<|sQ<|rG<|mV r r<|mV r r<|mV r r<|cK fun hq=>iO (l:=r5) (en:=LS) r r r r r hq<|bD fun x_e9 hx_e9=>lO (v:=.int .i64 x_e9) (z:=LS x_e9) r r r (Nn hx_e9) r r<|bD fun x_x10 hx_x10=>iS (en:=(eL LS)) r r r hx_x10 r<|lF (v:=.sl (x_x10.map LS)) r r r r<|mV r r<|mV r r<|cK fun hq=>iO (l:=r6) (en:=LS) r r r r r hq<|bD fun y_e11 hy_e11=>lO (v:=.int .i64 y_e11) (z:=LS y_e11) r r r (Nn hy_e11) r r<|bD fun r12 hr12=>cG (x_x10,y_e11) r r r Wu r r (by simp) r hr12 r<|Mj (by kernel_rfl)<|xS<|cD (c:=r12) r ?_ ?_
    ·refine sQ<|rG<|aS r r<|nI<|xS<|rT<|bR<|xR<|lR<|bR<|yR<|lR<|bR<|xR<|Mg (b:=false) r ?_ r r ?_ r
     all_goals first|(simp;done)|(simp;omega)|rfl|(simp [Me,Mc];done)
    ·exact sK<|bM<|xS<|rG<|mV r r<|bN (v:=.int .i64 (IntKind.i64.wrap (k8 + 1))) r r r r r<|aS r r<|nI<|xL (s:=IntKind.i64.wrap (k8 + 1)) (_,_) ((hE ⟨rfl,r,r,r,r,trivial⟩ ⟨rfl,r,trivial⟩))
   ·exact eT<|xE<|lE<|bH<|NM (s:=()) (_,_) ((hE ⟨rfl,r,r,r,trivial⟩ ⟨rfl,r,trivial⟩))
  ·rintro ⟨⟩ ⟨v9x3,v10x3⟩ nn
   try dsimp only
   unfold UB
   exact rG<|mV r r<|bN (v:=.int .i64 (IntKind.i64.wrap (i7 + 1))) r r r r r<|aS r r<|nI<|xL (s:=IntKind.i64.wrap (i7 + 1)) (_,_) ((hE ⟨rfl,r,r,r,trivial⟩ ⟨rfl,r,trivial⟩))
 ·refine eT<|xE<|lE<|bH<|xS<|sQ<|rG<|aS r r<|nI<|xS<|rT<|Mg (b:=true) r ?_ r r ?_ r
  all_goals first|(simp;done)|(simp;omega)|rfl|(simp [Me,Mc];done)

def AgH : Mm:=(.seq (.reg [P 2 (.box (T 0) 3 33),⟨(some 4),(.asg (.c .nils) (some ⟨1,3⟩)),none,[]⟩] false) (.seq (.reg [⟨(some 5),(.asg (.c .nils) (some ⟨1,3⟩)),none,[]⟩] false) (.seq (.seq (.reg [P 6 (.asg (C 0) none)] false) (.block 0 (.loop (.seq (.seq (.reg [M 12 6,P 13 (.fldA 1 (T 2)),P 14 (.ld 1 false (T 13)),P 15 (.len false (T 14)),P 16 (.bin .lss (T 12) (T 15))] false) (.cond (T 16) .skip (.exit 0))) (.seq (.block 1 (.reg [M 19 5,M 20 6,⟨(some 21),(.bldS 1 3 (.int .i64 0) 1 [⟨0,(T 20)⟩]),none,[]⟩,P 22 (.app 1 3 8 (T 19) (T 21)),⟨(some 5),(.asg (T 22) (some ⟨1,3⟩)),none,[]⟩] false)) (.reg [M 17 6,P 18 (.bin .add (T 17) (C 1)),P 6 (.asg (T 18) none)] false)))))) (.seq (.reg [P 23 (.ld 3 true (T 2)),P 24 (.call (.c (.clo 18 [])) [(T 23)]),⟨(some 7),(.asg (T 24) (some ⟨2,62⟩)),none,[]⟩] false) (.seq (.seq (.reg [P 8 (.asg (C 0) none)] false) (.block 2 (.loop (.seq (.seq (.reg [M 25 8,M 26 7,P 27 (.len false (T 26)),P 28 (.bin .lss (T 25) (T 27))] false) (.cond (T 28) .skip (.exit 2))) (.seq (.block 3 (.seq (.reg [M 31 5,M 32 7,M 33 8,⟨(some 34),(.ixA 2 (T 32) (T 33)),none,[1,2]⟩,⟨(some 35),(.ixP 1 2 (T 34) (C 0)),none,[3]⟩,⟨(some 36),(.ld 1 false (T 35)),none,[4]⟩,⟨(some 37),(.ixA 1 (T 31) (T 36)),none,[0,5]⟩,⟨(some 38),(.ld 1 false (T 37)),none,[6]⟩,M 39 5,M 40 7,M 41 8,⟨(some 42),(.ixA 2 (T 40) (T 41)),none,[9,10]⟩,⟨(some 43),(.ixP 1 2 (T 42) (C 1)),none,[11]⟩,⟨(some 44),(.ld 1 false (T 43)),none,[12]⟩,⟨(some 45),(.ixA 1 (T 39) (T 44)),none,[8,13]⟩,⟨(some 46),(.ld 1 false (T 45)),none,[14]⟩,⟨(some 9),(.asg (T 38) none),none,[7,0,1,2,3,4,5,6,7]⟩,⟨(some 10),(.asg (T 46) none),none,[15,16,0,1,2,3,4,5,6,7,8,9,10,11,12,13,14,15,16]⟩] true) (.seq (.seq (.reg [M 47 9,M 48 10,P 49 (.bin .eql (T 47) (T 48)),M 50 49,⟨(some 51),(.mv (T 1)),(some ⟨50,false⟩),[]⟩,⟨(some 52),(.mv (T 5)),(some ⟨50,false⟩),[]⟩,⟨(some 53),(.mv (T 9)),(some ⟨50,false⟩),[]⟩,⟨(some 54),(.mv (T 10)),(some ⟨50,false⟩),[]⟩,⟨(some 55),(.call (.c (.clo 19 [])) [(T 51),(T 52),(T 53),(T 54)]),(some ⟨50,false⟩),[]⟩,⟨(some 56),(.un .not (T 55)),(some ⟨50,false⟩),[]⟩,P 57 (.pick (T 50) (.c (.bool true)) (T 56))] false) (.cond (T 57) (.exit 3) .skip)) (.seq (.reg [P 11 (.asg (C 0) none)] false) (.block 4 (.loop (.seq (.seq (.reg [M 58 11,M 59 5,P 60 (.len false (T 59)),P 61 (.bin .lss (T 58) (T 60))] false) (.cond (T 61) .skip (.exit 4))) (.seq (.block 5 (.seq (.reg [M 64 5,M 65 11,P 66 (.ixA 1 (T 64) (T 65)),P 67 (.ld 1 false (T 66)),M 68 9,P 69 (.bin .eql (T 67) (T 68)),M 70 69,⟨(some 71),(.mv (T 5)),(some ⟨70,false⟩),[]⟩,⟨(some 72),(.mv (T 11)),(some ⟨70,false⟩),[]⟩,⟨(some 73),(.ixA 1 (T 71) (T 72)),(some ⟨70,false⟩),[]⟩,⟨(some 74),(.ld 1 false (T 73)),(some ⟨70,false⟩),[]⟩,⟨(some 75),(.mv (T 10)),(some ⟨70,false⟩),[]⟩,⟨(some 76),(.bin .eql (T 74) (T 75)),(some ⟨70,false⟩),[]⟩,P 77 (.pick (T 70) (.c (.bool true)) (T 76))] false) (.cond (T 77) (.reg [M 78 5,M 79 11,M 80 9,M 81 10,P 82 (.min [(T 80),(T 81)]),P 83 (.ixA 1 (T 78) (T 79)),⟨none,(.st 1 (T 83) (T 82)),none,[]⟩] false) .skip))) (.reg [M 62 11,P 63 (.bin .add (T 62) (C 1)),P 11 (.asg (T 63) none)] false))))))))) (.reg [M 29 8,P 30 (.bin .add (T 29) (C 1)),P 8 (.asg (T 30) none)] false)))))) (.seq (.reg [M 84 5,⟨(some 4),(.asg (T 84) (some ⟨1,3⟩)),none,[]⟩] false) .ret))))))
theorem AiX : (Tryz.f10.body.bind (Mo Tryz.prog Tryz.f10.ntmps)) = some AgH:=by kernel_rfl
theorem AiY : Tryz.f10.results.toList.mapM (My Tryz.prog) = some [(.t 4)]:=by kernel_rfl
def Vb (a : LY × (List (List Int))) : List D:=[ME a.1,.sl (a.2.map (eL LS))]
def Va (ds : List D) : LY × (List (List Int)):=(Ny (ds.getD 0 .top),(uL (uL uI)) (ds.getD 1 .top))
theorem ZR (a : LY × (List (List Int))) : Va (Vb a) = a:=by simp [Va,Vb,Nt (u:=(uL uI)) (en:=(eL LS)) (Nt (u:=uI) (en:=LS) (fun _=>rfl))]
def AaA (b : (List Int)) : D:=.sl (b.map LS)
def Aaz (_b : (List Int)) : List D:=[]
noncomputable def WQ : Dw.Spec:=Ml [] (.row 1 3) Vb Va (fun a=>Rg a.1 a.2) AaA Aaz
set_option maxHeartbeats 4000000 in
theorem AdD : Mk Tryz.prog 10 WQ:=by
 refine Mv (Mp (l:=[(18,YH),(19,YJ)]) (by simp [Aem,Aeo])) Tryz.func10 (by decide) AiX AiY (np:=2) (by decide) ZR (fun _=>r) (fun _=>r) (by decide)<|?_
 rintro ⟨f1,g2⟩
 show TrE (specs [(18,YH),(19,YJ)]) AgH (Mz [] (.row 1 3) [(.t 4)] AaA Aaz) ⟨[(0,.agg [.int .i64 f1.Params,.sl (f1.Slots.map LZ),.sl (f1.Code.map LW)]),(1,.sl (g2.map (eL LS)))],[],262144⟩ (Rg f1 g2)
 refine Mq<|?_
 unfold AgH Rg
 refine sQ<|rG<|bX r r r r r<|aN (α:=Int) r LS r<|nI<|xS<|sQ<|rG<|aN (α:=Int) r LS r<|nI<|xS<|sQ<|sQ<|rG<|aS r r<|nI<|xS<|bK<|lP (E:=fun (s : (List Int) × Int) (g : Nat × Nat)=>[(1,.sl (g2.map (eL LS))),(2,.optr 2 g.1 0 0),(5,.osl 5 g.2 0 s.1.length),(6,.int .i64 s.2)]) (O:=fun s g=>[(2,some (g.1,⟨false,true,3,33,[.agg [.int .i64 f1.Params,.sl (f1.Slots.map LZ),.sl (f1.Code.map LW)]]⟩)),(5,some (g.2,⟨false,false,1,3,s.1.map LS⟩))]) (body:=fun s=>SC f1 g2 s.1 s.2) (s:=(([] : List Int),0)) (_,_) ((hE ⟨rfl,r,r,r,trivial⟩ ⟨rfl,r,trivial⟩))<|?_
 rintro ⟨to3,s4⟩ ⟨v2x1,v5x1⟩ nn
 try dsimp only
 unfold SC
 refine sQ<|sQ<|rG<|mV r r<|fA r r<|lO (v:=.sl (f1.Slots.map LZ)) (z:=.agg [.int .i64 f1.Params,.sl (f1.Slots.map LZ),.sl (f1.Code.map LW)]) r r r r r r<|lS r r<|bN (v:=.bool (decide (s4 < (f1.Slots.length : Int)))) r r r r r<|nI<|xS<|cD (c:=(decide (s4 < (f1.Slots.length : Int)))) r ?_ ?_
 ·exact sK<|xS<|sQ<|bK<|rG<|mV r r<|mV r r<|bS ([s4] : List Int) LS r r r (by simp) r r r<|cK fun hq=>aP (to3) (([s4] : List Int)) LS r r r r r r r (by simp) (Mu _ _ r) r r (by simp) (Md _ _ r) (fun _=>r) r hq<|aO (l:=to3 ++ ([s4] : List Int)) (en:=LS) r r r r<|nI<|bM<|xS<|rG<|mV r r<|bN (v:=.int .i64 (IntKind.i64.wrap (s4 + 1))) r r r r r<|aS r r<|nI<|xL (s:=(to3 ++ ([s4] : List Int),IntKind.i64.wrap (s4 + 1))) (_,_) ((hE ⟨rfl,r,r,r,trivial⟩ ⟨rfl,r,trivial⟩))
 ·refine eT<|xE<|lE<|bH<|xS<|sQ<|rG<|lO (v:=.agg [.int .i64 f1.Params,.sl (f1.Slots.map LZ),.sl (f1.Code.map LW)]) (z:=.agg [.int .i64 f1.Params,.sl (f1.Slots.map LZ),.sl (f1.Code.map LW)]) r r r r r r<|bD fun r5 hr5=>cR (l:=r5) (en:=Nk) f1 r r r Abl r r (by simp) r hr5 r<|aO (l:=r5) (en:=Nk) r r r r<|nI<|xS<|sQ<|sQ<|rG<|aS r r<|nI<|xS<|bK<|lP (E:=fun (s : (List Int) × Int) (g : Nat × Nat)=>[(1,.sl (g2.map (eL LS))),(5,.osl 5 g.1 0 s.1.length),(7,.osl 7 g.2 0 r5.length),(8,.int .i64 s.2)]) (O:=fun s g=>[(5,some (g.1,⟨false,false,1,3,s.1.map LS⟩)),(7,some (g.2,⟨false,false,2,62,r5.map Nk⟩))]) (body:=fun s=>SD r5 g2 s.1 s.2) (s:=(to3,0)) (_,_) ((hE ⟨rfl,r,r,r,trivial⟩ ⟨rfl,r,trivial⟩))<|?_
  rintro ⟨to6,i7⟩ ⟨v5x2,v7x2⟩ nn
  try dsimp only
  unfold SD
  refine sQ<|sQ<|rG<|mV r r<|mV r r<|lW r r<|bN (v:=.bool (decide (i7 < (r5.length : Int)))) r r r r r<|nI<|xS<|cD (c:=(decide (i7 < (r5.length : Int)))) r ?_ ?_
  ·refine sK<|xS<|bC (E:=fun (s : (List Int)) (g : Nat × Nat)=>[(1,.sl (g2.map (eL LS))),(5,.osl 5 g.1 0 s.length),(7,.osl 7 g.2 0 r5.length),(8,.int .i64 i7)]) (O:=fun s g=>[(5,some (g.1,⟨false,false,1,3,s.map LS⟩)),(7,some (g.2,⟨false,false,2,62,r5.map Nk⟩))]) (j:=fun s=>NZ i7 s) ?_ ?_
   ·refine sQ<|rG<|mV r r<|mV r r<|mV r r<|cK fun hq=>iO (l:=r5) (en:=Nk) r r r r r hq<|Qz r r r (by decide)<|bD fun moves_e9 hmoves_e9=>lO (v:=.int .i64 moves_e9.a0) (z:=Nk moves_e9) r r r (Nn hmoves_e9) r r<|cK fun hq=>iO (l:=to6) (en:=LS) r r r r r hq<|bD fun to_e10 hto_e10=>lO (v:=.int .i64 to_e10) (z:=LS to_e10) r r r (Nn hto_e10) r r<|mV r r<|mV r r<|mV r r<|cK fun hq=>iO (l:=r5) (en:=Nk) r r r r r hq<|Qz r r r (by decide)<|bD fun moves_e11 hmoves_e11=>lO (v:=.int .i64 moves_e11.a1) (z:=Nk moves_e11) r r r (Nn hmoves_e11) r r<|cK fun hq=>iO (l:=to6) (en:=LS) r r r r r hq<|bD fun to_e12 hto_e12=>lO (v:=.int .i64 to_e12) (z:=LS to_e12) r r r (Nn hto_e12) r r<|aS r r<|aS r r<|Mj (by kernel_rfl)<|xS<|sC (E:=fun (s : Bool × Bool) (g : Nat × Nat)=>[(1,.sl (g2.map (eL LS))),(5,.osl 5 g.1 0 to6.length),(7,.osl 7 g.2 0 r5.length),(8,.int .i64 i7),(9,.int .i64 to_e10),(10,.int .i64 to_e12),(51,.sl (g2.map (eL LS))),(52,.osl 5 g.1 0 to6.length),(53,.int .i64 to_e10),(54,.int .i64 to_e12),(55,.bool s.1),(56,.bool s.2)]) (O:=fun s g=>[(5,some (g.1,⟨false,false,1,3,to6.map LS⟩)),(7,some (g.2,⟨false,false,2,62,r5.map Nk⟩))]) (j:=fun s=>SF to_e10 to_e12 i7 to6 s.1 s.2) ?_ ?_
    ·refine sQ<|rG<|mV r r<|mV r r<|bN (v:=.bool (to_e10 == to_e12)) r r r r r<|mV r r<|sP 50 (b:=(to_e10 == to_e12)) r ?_ ?_
     ·exact oF r<|oF r<|oF r<|oF r<|oF r<|oF r<|pT r r r r<|nI<|xS<|MW r<|eT<|Pe<|JR (s:=to6) (_,_) ((hE ⟨rfl,r,r,r,trivial⟩ ⟨rfl,r,trivial⟩))
     ·refine mV r r<|mV r r<|mV r r<|mV r r<|bD fun r15 hr15=>cG (g2,to6,to_e10,to_e12) r r r Abn r r (by simp) (by first | rfl | (simp only [Mw,MB]; rfl) | simp [TF]) hr15 r<|uN (w:=.bool (!r15)) r r r r trivial<|pF r r r r<|nI<|xS<|cD (c:=(!r15)) r ?_ ?_
      ·exact eT<|Pe<|JR (s:=to6) (_,_) ((hE ⟨rfl,r,r,r,trivial⟩ ⟨rfl,r,trivial⟩))
      ·exact sK<|xC (s:=(r15,(!r15))) (_,_) ((hE ⟨rfl,r,r,r,r,r,r,r,r,r,r,r,trivial⟩ ⟨rfl,r,trivial⟩))
    ·rintro ⟨x13,x14⟩ ⟨v5x3,v7x3⟩ nn
     try dsimp only
     unfold SF
     refine sQ<|rG<|aS r r<|nI<|xS<|bK<|lP (E:=fun (s : (List Int) × Int) (g : Nat × Nat)=>[(1,.sl (g2.map (eL LS))),(5,.osl 5 g.1 0 s.1.length),(7,.osl 7 g.2 0 r5.length),(8,.int .i64 i7),(9,.int .i64 to_e10),(10,.int .i64 to_e12),(11,.int .i64 s.2),(51,.sl (g2.map (eL LS))),(52,.osl 5 g.1 0 s.1.length),(53,.int .i64 to_e10),(54,.int .i64 to_e12),(55,.bool x13),(56,.bool x14)]) (O:=fun s g=>[(5,some (g.1,⟨false,false,1,3,s.1.map LS⟩)),(7,some (g.2,⟨false,false,2,62,r5.map Nk⟩))]) (body:=fun s=>SE to_e10 to_e12 i7 s.1 s.2) (s:=(to6,0)) (_,_) ((hE ⟨rfl,r,r,r,r,r,r,r,r,r,r,r,r,trivial⟩ ⟨rfl,r,trivial⟩))<|?_
     rintro ⟨to16,s17⟩ ⟨v5x4,v7x4⟩ nn
     try dsimp only
     unfold SE
     refine sQ<|sQ<|rG<|mV r r<|mV r r<|lW r r<|bN (v:=.bool (decide (s17 < (to16.length : Int)))) r r r r r<|nI<|xS<|cD (c:=(decide (s17 < (to16.length : Int)))) r ?_ ?_
     ·refine sK<|xS<|sQ<|bK<|sC (E:=fun (s : Bool) (g : Nat × Nat)=>[(1,.sl (g2.map (eL LS))),(5,.osl 5 g.1 0 to16.length),(7,.osl 7 g.2 0 r5.length),(8,.int .i64 i7),(9,.int .i64 to_e10),(10,.int .i64 to_e12),(11,.int .i64 s17),(51,.sl (g2.map (eL LS))),(52,.osl 5 g.1 0 to16.length),(53,.int .i64 to_e10),(54,.int .i64 to_e12),(55,.bool x13),(56,.bool x14),(77,.bool s)]) (O:=fun s g=>[(5,some (g.1,⟨false,false,1,3,to16.map LS⟩)),(7,some (g.2,⟨false,false,2,62,r5.map Nk⟩))]) (j:=fun s=>Pv s17 to16 to_e10 to_e12 s) ?_ ?_
      ·refine rG<|mV r r<|mV r r<|cK fun hq=>iO (l:=to16) (en:=LS) r r r r r hq<|bD fun to_e19 hto_e19=>lO (v:=.int .i64 to_e19) (z:=LS to_e19) r r r (Nn hto_e19) r r<|mV r r<|bN (v:=.bool (to_e19 == to_e10)) r r r r r<|mV r r<|sP 70 (b:=(to_e19 == to_e10)) r ?_ ?_
       ·exact oF r<|oF r<|oF r<|oF r<|oF r<|oF r<|pT r r r r<|nI<|xC (s:=true) (_,_) ((hE ⟨rfl,r,r,r,r,r,r,r,r,r,r,r,r,r,trivial⟩ ⟨rfl,r,trivial⟩))
       ·exact mV r r<|mV r r<|cK fun hq=>iO (l:=to16) (en:=LS) r r r r r hq<|bD fun to_e20 hto_e20=>lO (v:=.int .i64 to_e20) (z:=LS to_e20) r r r (Nn hto_e20) r r<|mV r r<|bN (v:=.bool (to_e20 == to_e12)) r r r r r<|pF r r r r<|nI<|xC (s:=(to_e20 == to_e12)) (_,_) ((hE ⟨rfl,r,r,r,r,r,r,r,r,r,r,r,r,r,trivial⟩ ⟨rfl,r,trivial⟩))
      ·rintro x18 ⟨v5x5,v7x5⟩ nn
       try dsimp only
       unfold Pv
       refine cD (c:=x18) r ?_ ?_
       ·exact rG<|mV r r<|mV r r<|mV r r<|mV r r<|AfL r r r<|cK fun hq=>iO (l:=to16) (en:=LS) r r r r r hq<|bD fun to_o21 hto_o21=>sE (l:=to16) (en:=LS) (q':=On to_e10 to_e12) r r r r r r r (by simp) hto_o21 r r r r r<|nI<|bM<|xS<|rG<|mV r r<|bN (v:=.int .i64 (IntKind.i64.wrap (s17 + 1))) r r r r r<|aS r r<|nI<|xL (s:=(to16.set s17.toNat (On to_e10 to_e12),IntKind.i64.wrap (s17 + 1))) (_,_) ((hE ⟨rfl,(Abb (q:=to16.length) r (by simp)),r,r,r,r,r,r,(Abb (q:=to16.length) r (by simp)),r,r,r,r,trivial⟩ ⟨rfl,r,trivial⟩))
       ·exact sK<|bM<|xS<|rG<|mV r r<|bN (v:=.int .i64 (IntKind.i64.wrap (s17 + 1))) r r r r r<|aS r r<|nI<|xL (s:=(to16,IntKind.i64.wrap (s17 + 1))) (_,_) ((hE ⟨rfl,r,r,r,r,r,r,r,r,r,r,r,r,trivial⟩ ⟨rfl,r,trivial⟩))
     ·exact eT<|xE<|lE<|bH<|NM (s:=to16) (_,_) ((hE ⟨rfl,r,r,r,trivial⟩ ⟨rfl,r,trivial⟩))
   ·rintro to8 ⟨v5x6,v7x6⟩ nn
    try dsimp only
    unfold NZ
    exact rG<|mV r r<|bN (v:=.int .i64 (IntKind.i64.wrap (i7 + 1))) r r r r r<|aS r r<|nI<|xL (s:=(to8,IntKind.i64.wrap (i7 + 1))) (_,_) ((hE ⟨rfl,r,r,r,trivial⟩ ⟨rfl,r,trivial⟩))
  ·refine eT<|xE<|lE<|bH<|xS<|sQ<|rG<|mV r r<|aO (l:=to6) (en:=LS) r r r r<|nI<|xS<|rT<|MC (b:=to6) r ?_ r r ?_ r ?_ (congrArg D.sl (Md _ _ r)) r
   all_goals first|(simp;done)|(simp;omega)|rfl|(simp [Me,Mc];done)

def AgU : Mm:=(.seq (.reg [P 3 (.box (T 0) 3 33),P 4 (.box (T 1) 1 37),P 6 (.asg (.c (.bool false)) none)] false) (.seq (.reg [P 10 (.fldA 2 (T 3)),P 11 (.ld 1 false (T 10)),M 12 2,P 13 (.ixA 5 (T 11) (T 12)),P 14 (.ld 5 true (T 13)),P 15 (.call (.c (.clo 31 [])) [(T 14)]),M 9 15,P 16 (.ext (T 9) 0),P 17 (.ext (T 9) 1),P 7 (.asg (T 16) none),P 8 (.asg (T 17) none)] false) (.seq (.reg [M 18 8,M 19 18,⟨(some 20),(.fldA 0 (T 4)),(some ⟨19,true⟩),[]⟩,⟨(some 21),(.ld 1 false (T 20)),(some ⟨19,true⟩),[]⟩,⟨(some 22),(.mv (T 2)),(some ⟨19,true⟩),[]⟩,⟨(some 23),(.ixA 1 (T 21) (T 22)),(some ⟨19,true⟩),[]⟩,⟨(some 24),(.ld 1 false (T 23)),(some ⟨19,true⟩),[]⟩,⟨(some 25),(.mv (T 7)),(some ⟨19,true⟩),[]⟩,⟨(some 26),(.call (.c (.clo 33 [])) [(T 24),(T 25)]),(some ⟨19,true⟩),[]⟩,⟨(some 27),(.un .not (T 26)),(some ⟨19,true⟩),[]⟩,P 28 (.pick (T 19) (T 27) (.c (.bool false))),P 6 (.asg (T 28) none)] false) .ret)))
theorem Ajx : (Tryz.f23.body.bind (Mo Tryz.prog Tryz.f23.ntmps)) = some AgU:=by kernel_rfl
theorem Ajy : Tryz.f23.results.toList.mapM (My Tryz.prog) = some [(.t 6)]:=by kernel_rfl
def XG (a : LY × Mf × Int) : List D:=[ME a.1,Nf a.2.1,.int .i64 a.2.2]
def XF (ds : List D) : LY × Mf × Int:=(Ny (ds.getD 0 .top),OL (ds.getD 1 .top),uI (ds.getD 2 .top))
theorem Ach (a : LY × Mf × Int) : XF (XG a) = a:=by simp [XF,XG,uI]
def AcO (b : Bool) : D:=.bool b
def AcN (_b : Bool) : List D:=[]
noncomputable def ZT : Dw.Spec:=Ml [] .ground XG XF (fun a=>UE a.1 a.2.1 a.2.2) AcO AcN
set_option maxHeartbeats 4000000 in
theorem AeG : Mk Tryz.prog 23 ZT:=by
 refine Mv (Mp (l:=[(31,Pa),(33,RA)]) (by simp [VF,ZH])) Tryz.func23 (by decide) Ajx Ajy (np:=3) (by decide) Ach (fun _=>r) (fun _=>r) (by decide)<|?_
 rintro ⟨f1,l2,k3⟩
 show TrE (specs [(31,Pa),(33,RA)]) AgU (Mz [] .ground [(.t 6)] AcO AcN) ⟨[(0,.agg [.int .i64 f1.Params,.sl (f1.Slots.map LZ),.sl (f1.Code.map LW)]),(1,.agg [.sl (l2.Out.map (eL LS))]),(2,.int .i64 k3)],[],262144⟩ (UE f1 l2 k3)
 refine Mq<|?_
 unfold AgU UE
 refine sQ<|rG<|bX r r r r r<|bX r r r r r<|aS r r<|nI<|xS<|sQ<|rG<|fA r r<|lO (v:=.sl (f1.Code.map LW)) (z:=.agg [.int .i64 f1.Params,.sl (f1.Slots.map LZ),.sl (f1.Code.map LW)]) r r r r r r<|mV r r<|bD fun x_x4 hx_x4=>iS (en:=LW) r r r hx_x4 r<|lF (v:=.agg [.int .i64 x_x4.Op,.int .i64 x_x4.A,.int .i64 x_x4.B,.int .i64 x_x4.C,.int .u64 x_x4.Imm]) r r r r<|bD fun r5 hr5=>cG x_x4 r r r SA r r (by simp) r hr5 r<|mV r r<|eX (v:=.int .i64 r5.1) r r r<|eX (v:=.bool r5.2) r r r<|aS r r<|aS r r<|nI<|xS<|sQ<|rG<|mV r r<|mV r r<|sP 19 (b:=r5.2) r ?_ ?_
 ·refine fA r r<|lO (v:=.sl (l2.Out.map (eL LS))) (z:=.agg [.sl (l2.Out.map (eL LS))]) r r r r r r<|mV r r<|bD fun x_x6 hx_x6=>iS (en:=(eL LS)) r r r hx_x6 r<|lF (v:=.sl (x_x6.map LS)) r r r r<|mV r r<|bD fun r7 hr7=>cG (x_x6,r5.1) r r r Wu r r (by simp) r hr7 r<|uN (w:=.bool (!r7)) r r r r trivial<|pT r r r r<|aS r r<|nI<|xS<|rT<|Mg (b:=(!r7)) r ?_ r r ?_ r
  all_goals first|(simp;done)|(simp;omega)|rfl|(simp [Me,Mc];done)
 ·refine oF r<|oF r<|oF r<|oF r<|oF r<|oF r<|oF r<|oF r<|pF r r r r<|aS r r<|nI<|xS<|rT<|Mg (b:=false) r ?_ r r ?_ r
  all_goals first|(simp;done)|(simp;omega)|rfl|(simp [Me,Mc];done)

end Go.Proofs.YtfpgidpffhmadaaGreatDoor
