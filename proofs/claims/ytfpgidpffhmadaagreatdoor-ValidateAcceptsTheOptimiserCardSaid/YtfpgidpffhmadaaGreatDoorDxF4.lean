/-
  Programs on typed data, and the proofs that the code does what they say; written by a program (dx.py).
-/
import Derived.Test.YtfpgidpffhmadaaGreatDoorProg
import Derived.Test.YtfpgidpffhmadaaGreatDoorDc
import Derived.KernelRfl
import Derived.Test.YtfpgidpffhmadaaGreatDoorDxP
import Derived.Test.YtfpgidpffhmadaaGreatDoorDxF3
namespace Go.Proofs.YtfpgidpffhmadaaGreatDoor
open Go Go.Dw Go.Proofs
set_option maxRecDepth 100000
open Go.Dw renaming ZZ → mV,XI → bN,Rq → lO,VK → bD,XM → cK,XO → nI,XQ → xS,Aab → rG,Aad → sQ,RD → aO,XH → aS,XP → oF,XJ → bL,XK → bS,QF → cV,Pd → cG,Sf → cR,Zm → aP,Rr → sV,AaQ → sE,SK → iS,Vk → iO,SM → lS,Vl → lW,VL → fA,Uj → lF,Uk → sP,Qf → pT,Pw → pF,Aaa → uN,XN → nW,XL → bX,RC → aN,XR → cD,VN → bK,Aac → rT,XV → sK,XS → eT,Zn → xC,VM → xL,RE → xR,XX → zR,TU → hE,Qg → lE,QG → bH,Px → bM,Tg → bR,QH → xE,XT → lP,UF → sC,rf → r
def AgK : Mm:=(.seq (.reg [P 8 (.new (.agg [(.int .i64 0),.nils,.nils]) 3 33)] false) (.seq (.reg [M 16 2,M 17 1,⟨(some 18),(.ixA 1 (T 16) (T 17)),none,[0,1]⟩,⟨(some 19),(.ld 1 false (T 18)),none,[2]⟩,M 20 0,⟨(some 21),(.call (.c (.clo 24 [])) [(T 20),(C 6)]),none,[4]⟩,⟨(some 22),(.bld [(.int .i64 0),.nils,.nils] [⟨0,⟨1,(T 19)⟩⟩,⟨1,⟨1,(T 21)⟩⟩]),none,[3,5]⟩,P 9 (.new (.agg [(.int .i64 0),.nils,.nils]) 3 33),⟨none,(.st 3 (T 9) (T 22)),none,[7,6,5,0,1,2,3,4,5,6,7]⟩] true) (.seq (.reg [⟨(some 10),(.asg (.c .nils) (some ⟨5,54⟩)),none,[]⟩] false) (.seq (.seq (.reg [P 11 (.asg (C 0) none)] false) (.block 0 (.loop (.seq (.seq (.reg [M 23 11,P 24 (.fldA 1 (T 9)),P 25 (.ld 1 false (T 24)),P 26 (.len false (T 25)),P 27 (.bin .lss (T 23) (T 26))] false) (.cond (T 27) .skip (.exit 0))) (.seq (.block 1 (.seq (.reg [M 30 0,P 31 (.call (.c (.clo 7 [])) [(T 30),(C 4)]),P 32 (.bin .lss (T 31) (C 3))] false) (.cond (T 32) (.reg [M 33 10,M 34 11,M 35 0,P 36 (.call (.c (.clo 7 [])) [(T 35),(C 4)]),⟨(some 37),(.bld [(.int .i64 0),(.int .i64 0),(.int .i64 0),(.int .i64 0),(.int .u64 0)] [⟨0,⟨1,(C 16)⟩⟩,⟨1,⟨1,(T 34)⟩⟩,⟨2,⟨1,(T 36)⟩⟩]),none,[]⟩,⟨(some 38),(.bldS 5 54 (.agg [(.int .i64 0),(.int .i64 0),(.int .i64 0),(.int .i64 0),(.int .u64 0)]) 1 [⟨0,(T 37)⟩]),none,[]⟩,P 39 (.app 5 54 40 (T 33) (T 38)),⟨(some 10),(.asg (T 39) (some ⟨5,54⟩)),none,[]⟩] false) .skip))) (.reg [M 28 11,P 29 (.bin .add (T 28) (C 1)),P 11 (.asg (T 29) none)] false)))))) (.seq (.seq (.reg [M 40 0,M 41 3,P 42 (.bin .add (T 41) (C 1)),P 43 (.call (.c (.clo 7 [])) [(T 40),(T 42)]),P 12 (.asg (T 43) none)] false) (.block 2 (.loop (.seq (.seq (.reg [M 44 12,P 45 (.bin .gtr (T 44) (C 0))] false) (.cond (T 45) .skip (.exit 2))) (.seq (.block 3 (.seq (.reg [M 48 10,M 49 0,P 50 (.ld 3 true (T 9)),M 51 1,M 52 2,P 53 (.call (.c (.clo 25 [])) [(T 49),(T 50),(T 51),(T 52)]),P 54 (.app 5 54 40 (T 48) (T 53)),⟨(some 10),(.asg (T 54) (some ⟨5,54⟩)),none,[]⟩] false) (.seq (.reg [M 55 0,P 56 (.call (.c (.clo 7 [])) [(T 55),(C 9)])] false) (.block 4 (.seq (.reg [P 58 (.bin .eql (T 56) (C 7)),P 57 (.asg (T 58) none)] false) (.cond (T 57) (.reg [M 59 10,M 60 0,P 61 (.call (.c (.clo 7 [])) [(T 60),(C 4)]),⟨(some 62),(.bld [(.int .i64 0),(.int .i64 0),(.int .i64 0),(.int .i64 0),(.int .u64 0)] [⟨0,⟨1,(C 21)⟩⟩,⟨1,⟨1,(T 61)⟩⟩,⟨2,⟨1,(.c (.int .i64 (-1)))⟩⟩]),none,[]⟩,⟨(some 63),(.bldS 5 54 (.agg [(.int .i64 0),(.int .i64 0),(.int .i64 0),(.int .i64 0),(.int .u64 0)]) 1 [⟨0,(T 62)⟩]),none,[]⟩,P 64 (.app 5 54 40 (T 59) (T 63)),⟨(some 10),(.asg (T 64) (some ⟨5,54⟩)),none,[]⟩] false) (.seq (.reg [P 66 (.bin .eql (T 56) (C 8)),P 65 (.asg (T 66) none)] false) (.cond (T 65) (.seq (.reg [M 67 0,P 68 (.call (.c (.clo 7 [])) [(T 67),(C 3)]),P 69 (.bin .eql (T 68) (C 2))] false) (.cond (T 69) (.reg [M 70 10,⟨(some 71),(.bld [(.int .i64 0),(.int .i64 0),(.int .i64 0),(.int .i64 0),(.int .u64 0)] [⟨0,⟨1,(C 20)⟩⟩,⟨1,⟨1,(.c (.int .i64 (-1)))⟩⟩]),none,[]⟩,⟨(some 72),(.bldS 5 54 (.agg [(.int .i64 0),(.int .i64 0),(.int .i64 0),(.int .i64 0),(.int .u64 0)]) 1 [⟨0,(T 71)⟩]),none,[]⟩,P 73 (.app 5 54 40 (T 70) (T 72)),⟨(some 10),(.asg (T 73) (some ⟨5,54⟩)),none,[]⟩] false) .skip)) .skip)))))))) (.reg [M 46 12,P 47 (.bin .sub (T 46) (C 1)),P 12 (.asg (T 47) none)] false)))))) (.seq (.reg [⟨(some 74),(.bld [(.int .i64 0),(.int .i64 0),(.int .i64 0),(.int .i64 0),(.int .u64 0)] [⟨0,⟨1,(C 23)⟩⟩]),none,[]⟩,P 13 (.new (.agg [(.int .i64 0),(.int .i64 0),(.int .i64 0),(.int .i64 0),(.int .u64 0)]) 5 54),⟨none,(.st 5 (T 13) (T 74)),none,[]⟩] false) (.seq (.seq (.reg [M 75 0,P 76 (.call (.c (.clo 7 [])) [(T 75),(C 12)]),P 77 (.bin .eql (T 76) (C 11))] false) (.cond (T 77) (.reg [M 78 0,P 79 (.call (.c (.clo 26 [])) [(T 78)]),⟨(some 80),(.bld [(.int .i64 0),(.int .i64 0),(.int .i64 0),(.int .i64 0),(.int .u64 0)] [⟨0,⟨1,(C 24)⟩⟩,⟨4,⟨1,(T 79)⟩⟩]),none,[]⟩,⟨none,(.st 5 (T 13) (T 80)),none,[]⟩] false) .skip)) (.seq (.reg [M 81 10,P 82 (.ld 5 true (T 13)),⟨(some 83),(.bldS 5 54 (.agg [(.int .i64 0),(.int .i64 0),(.int .i64 0),(.int .i64 0),(.int .u64 0)]) 1 [⟨0,(T 82)⟩]),none,[]⟩,P 84 (.app 5 54 40 (T 81) (T 83)),⟨(some 10),(.asg (T 84) (some ⟨5,54⟩)),none,[]⟩] false) (.seq (.seq (.reg [P 14 (.asg (C 0) none)] false) (.block 5 (.loop (.seq (.seq (.reg [M 85 14,M 86 10,P 87 (.len false (T 86)),P 88 (.bin .lss (T 85) (T 87))] false) (.cond (T 88) .skip (.exit 5))) (.seq (.block 6 (.seq (.reg [M 91 14,M 92 0,P 93 (.call (.c (.clo 7 [])) [(T 92),(C 8)]),P 94 (.bin .add (T 91) (T 93)),P 95 (.bin .sub (T 94) (C 2)),P 15 (.asg (T 95) none)] false) (.seq (.seq (.reg [M 96 15,P 97 (.bin .lss (T 96) (C 0)),M 98 97,⟨(some 99),(.mv (T 15)),(some ⟨98,false⟩),[]⟩,⟨(some 100),(.mv (T 10)),(some ⟨98,false⟩),[]⟩,⟨(some 101),(.len false (T 100)),(some ⟨98,false⟩),[]⟩,⟨(some 102),(.bin .geq (T 99) (T 101)),(some ⟨98,false⟩),[]⟩,P 103 (.pick (T 98) (.c (.bool true)) (T 102))] false) (.cond (T 103) (.reg [M 104 10,P 105 (.len false (T 104)),P 106 (.bin .sub (T 105) (C 1)),P 15 (.asg (T 106) none)] false) .skip)) (.block 7 (.seq (.reg [M 108 10,M 109 14,P 110 (.ixA 5 (T 108) (T 109)),P 111 (.fldA 0 (T 110)),P 112 (.ld 1 false (T 111)),P 113 (.bin .eql (T 112) (C 20)),M 114 113,⟨(some 115),(.mv (T 10)),(some ⟨114,true⟩),[]⟩,⟨(some 116),(.mv (T 14)),(some ⟨114,true⟩),[]⟩,⟨(some 117),(.ixA 5 (T 115) (T 116)),(some ⟨114,true⟩),[]⟩,⟨(some 118),(.fldA 1 (T 117)),(some ⟨114,true⟩),[]⟩,⟨(some 119),(.ld 1 false (T 118)),(some ⟨114,true⟩),[]⟩,⟨(some 120),(.bin .lss (T 119) (C 0)),(some ⟨114,true⟩),[]⟩,P 121 (.pick (T 114) (T 120) (.c (.bool false))),P 107 (.asg (T 121) none)] false) (.cond (T 107) (.reg [M 122 10,M 123 14,M 124 15,P 125 (.ixA 5 (T 122) (T 123)),P 126 (.fldA 1 (T 125)),⟨none,(.st 1 (T 126) (T 124)),none,[]⟩] false) (.seq (.reg [M 128 10,M 129 14,P 130 (.ixA 5 (T 128) (T 129)),P 131 (.fldA 0 (T 130)),P 132 (.ld 1 false (T 131)),P 133 (.bin .eql (T 132) (C 21)),M 134 133,⟨(some 135),(.mv (T 10)),(some ⟨134,true⟩),[]⟩,⟨(some 136),(.mv (T 14)),(some ⟨134,true⟩),[]⟩,⟨(some 137),(.ixA 5 (T 135) (T 136)),(some ⟨134,true⟩),[]⟩,⟨(some 138),(.fldA 2 (T 137)),(some ⟨134,true⟩),[]⟩,⟨(some 139),(.ld 1 false (T 138)),(some ⟨134,true⟩),[]⟩,⟨(some 140),(.bin .lss (T 139) (C 0)),(some ⟨134,true⟩),[]⟩,P 141 (.pick (T 134) (T 140) (.c (.bool false))),P 127 (.asg (T 141) none)] false) (.cond (T 127) (.reg [M 142 10,M 143 14,M 144 15,P 145 (.ixA 5 (T 142) (T 143)),P 146 (.fldA 2 (T 145)),⟨none,(.st 1 (T 146) (T 144)),none,[]⟩] false) .skip)))))))) (.reg [M 89 14,P 90 (.bin .add (T 89) (C 1)),P 14 (.asg (T 90) none)] false)))))) (.seq (.reg [M 147 10,P 148 (.fldA 2 (T 9)),⟨none,(.st 1 (T 148) (T 147)),none,[]⟩] false) (.seq (.reg [P 149 (.ld 3 true (T 9)),⟨none,(.st 3 (T 8) (T 149)),none,[]⟩] false) .ret)))))))))))
theorem Ajd : (Tryz.f13.body.bind (Mo Tryz.prog Tryz.f13.ntmps)) = some AgK:=by kernel_rfl
theorem Aje : Tryz.f13.results.toList.mapM (My Tryz.prog) = some [(.c 8 3 true)]:=by kernel_rfl
def QW (a : LV × Int × (List Int) × Int) : List D:=[MK a.1,.int .i64 a.2.1,.sl (a.2.2.1.map LS),.int .i64 a.2.2.2]
def QV (ds : List D) : LV × Int × (List Int) × Int:=(Oc (ds.getD 0 .top),uI (ds.getD 1 .top),(uL uI) (ds.getD 2 .top),uI (ds.getD 3 .top))
theorem Vg (a : LV × Int × (List Int) × Int) : QV (QW a) = a:=by simp [QV,QW,uI,Nt (u:=uI) (en:=LS) (fun _=>rfl)]
def RS (b : LY × LV) : D:=ME b.1
def VU (b : LY × LV) : List D:=[MK b.2]
noncomputable def RT : Dw.Spec:=Ml [(0,(2,56))] .val QW QV (fun a=>Oj a.1 a.2.1 a.2.2.1 a.2.2.2) RS VU
set_option maxHeartbeats 4000000 in
theorem AaJ : Mk Tryz.prog 13 RT:=by
 refine Mv (Mp (l:=[(24,TN),(7,MA),(25,UO),(26,Qh)]) (by simp [Acj,Nr,Acn,Yd])) Tryz.func13 (by decide) Ajd Aje (np:=4) (by decide) Vg (fun _=>r) (fun _=>r) (by decide)<|?_
 rintro ⟨c1,i2,params3,most4⟩
 show TrE (specs [(24,TN),(7,MA),(25,UO),(26,Qh)]) AgK (Mz [(0,(2,56))] .val [(.c 8 3 true)] RS VU) ⟨[(0,.optr 8192 0 0 0),(1,.int .i64 i2),(2,.sl (params3.map LS)),(3,.int .i64 most4)],[(8192,some (0,⟨false,true,2,56,[.agg [.sl (c1.list.map eU8),.int .i64 c1.at_]]⟩))],262144⟩ (Oj c1 i2 params3 most4)
 refine Mq<|?_
 unfold AgK Oj
 refine sQ<|rG<|nW r<|nI<|xS<|sQ<|rG<|mV r r<|mV r r<|bD fun x_x5 hx_x5=>iS (en:=LS) r r r hx_x5 r<|lF (v:=.int .i64 x_x5) r r r r<|mV r r<|bD fun r6 hr6=>cR (l:=r6.1) (en:=LZ) (c1,6) r r r WZ r r (by simp) r hr6 r<|bL (cs:=[.int .i64 x_x5,.osl 21 _ 0 r6.1.length,.nils]) (ps:=[(0,1,.int .i64 x_x5),(1,1,.osl 21 _ 0 r6.1.length)]) r r r r<|nW r<|sV (z':=.agg [.int .i64 x_x5,.osl 21 _ 0 r6.1.length,.nils]) r r r r r r r r r<|Mj (by kernel_rfl)<|xS<|sQ<|rG<|aN (α:=LU) r LW r<|nI<|xS<|sQ<|sQ<|rG<|aS r r<|nI<|xS<|bK<|lP (E:=fun (s : (List Int) × Int × (List LU) × Int) (g : Nat × Nat × Nat × Nat)=>[(0,.optr 8192 0 0 0),(1,.int .i64 i2),(2,.sl (params3.map LS)),(3,.int .i64 most4),(8,.optr 8 g.1 0 0),(9,.optr 9 g.2.1 0 0),(10,.osl 10 g.2.2.1 0 s.2.2.1.length),(11,.int .i64 s.2.2.2)]) (O:=fun s g=>[(8,some (g.1,⟨false,true,3,33,[.agg [.int .i64 0,.nils,.nils]]⟩)),(9,some (g.2.1,⟨false,true,3,33,[.agg [.int .i64 x_x5,.osl 21 g.2.2.2 0 r6.1.length,.nils]]⟩)),(10,some (g.2.2.1,⟨false,false,5,54,s.2.2.1.map LW⟩)),(21,some (g.2.2.2,⟨false,false,2,51,r6.1.map LZ⟩)),(8192,some (0,⟨false,true,2,56,[.agg [.sl (s.1.map eU8),.int .i64 s.2.1]]⟩))]) (body:=fun s=>PC r6 most4 x_x5 i2 params3 s.1 s.2.1 s.2.2.1 s.2.2.2) (s:=(r6.2.list,r6.2.at_,([] : List LU),0)) (_,_,_,_) ((hE ⟨rfl,r,r,r,r,r,r,r,trivial⟩ ⟨rfl,r,r,r,r,trivial⟩))<|?_
 rintro ⟨c7,c8,code9,s10⟩ ⟨v8x1,v9x1,v10x1,v21x1⟩ nn
 try dsimp only
 unfold PC
 refine sQ<|sQ<|rG<|mV r r<|fA r r<|lO (v:=.osl 21 _ 0 r6.1.length) (z:=.agg [.int .i64 x_x5,.osl 21 _ 0 r6.1.length,.nils]) r r r r r r<|lW r r<|bN (v:=.bool (decide (s10 < (r6.1.length : Int)))) r r r r r<|nI<|xS<|cD (c:=(decide (s10 < (r6.1.length : Int)))) r ?_ ?_
 ·refine sK<|xS<|sQ<|bK<|sQ<|rG<|mV r r<|bD fun r11 hr11=>cV ((LV.mk c7 c8),4) r r r Mh r r (by simp) r hr11<|bN (v:=.bool (decide (r11.1 < 3))) r r r r r<|nI<|xS<|cD (c:=(decide (r11.1 < 3))) r ?_ ?_
  ·exact rG<|mV r r<|mV r r<|mV r r<|bD fun r12 hr12=>cV (r11.2,4) r r r Mh r r (by simp) r hr12<|bL (cs:=[.int .i64 16,.int .i64 s10,.int .i64 r12.1,.int .i64 0,.int .u64 0]) (ps:=[(0,1,.int .i64 16),(1,1,.int .i64 s10),(2,1,.int .i64 r12.1)]) r r r r<|bS ([(LU.mk 16 s10 r12.1 0 0)] : List LU) LW r r r (by simp) r r r<|cK fun hq=>aP (code9) (([(LU.mk 16 s10 r12.1 0 0)] : List LU)) LW r r r r r r r (by simp) (Mu _ _ r) r r (by simp) (Md _ _ r) (fun _=>r) r hq<|aO (l:=code9 ++ ([(LU.mk 16 s10 r12.1 0 0)] : List LU)) (en:=LW) r r r r<|nI<|bM<|xS<|rG<|mV r r<|bN (v:=.int .i64 (IntKind.i64.wrap (s10 + 1))) r r r r r<|aS r r<|nI<|xL (s:=(r12.2.list,r12.2.at_,code9 ++ ([(LU.mk 16 s10 r12.1 0 0)] : List LU),IntKind.i64.wrap (s10 + 1))) (_,_,_,_) ((hE ⟨rfl,r,r,r,r,r,r,r,trivial⟩ ⟨rfl,r,r,r,r,trivial⟩))
  ·exact sK<|bM<|xS<|rG<|mV r r<|bN (v:=.int .i64 (IntKind.i64.wrap (s10 + 1))) r r r r r<|aS r r<|nI<|xL (s:=(r11.2.list,r11.2.at_,code9,IntKind.i64.wrap (s10 + 1))) (_,_,_,_) ((hE ⟨rfl,r,r,r,r,r,r,r,trivial⟩ ⟨rfl,r,r,r,r,trivial⟩))
 ·refine eT<|xE<|lE<|bH<|xS<|sQ<|sQ<|rG<|mV r r<|mV r r<|bN (v:=.int .i64 (IntKind.i64.wrap (most4 + 1))) r r r r r<|bD fun r13 hr13=>cV ((LV.mk c7 c8),IntKind.i64.wrap (most4 + 1)) r r r Mh r r (by simp) r hr13<|aS r r<|nI<|xS<|bK<|lP (E:=fun (s : (List Int) × Int × (List LU) × (List Mt) × Int) (g : Nat × Nat × Nat)=>[(0,.optr 8192 0 0 0),(1,.int .i64 i2),(2,.sl (params3.map LS)),(8,.optr 8 g.1 0 0),(9,.optr 9 g.2.1 0 0),(10,.osl 10 g.2.2 0 s.2.2.1.length),(12,.int .i64 s.2.2.2.2)]) (O:=fun s g=>[(8,some (g.1,⟨false,true,3,33,[.agg [.int .i64 0,.nils,.nils]]⟩)),(9,some (g.2.1,⟨false,true,3,33,[.agg [.int .i64 x_x5,.sl (s.2.2.2.1.map LZ),.nils]]⟩)),(10,some (g.2.2,⟨false,false,5,54,s.2.2.1.map LW⟩)),(8192,some (0,⟨false,true,2,56,[.agg [.sl (s.1.map eU8),.int .i64 s.2.1]]⟩))]) (body:=fun s=>PD x_x5 i2 params3 s.1 s.2.1 s.2.2.1 s.2.2.2.1 s.2.2.2.2) (s:=(r13.2.list,r13.2.at_,code9,r6.1,r13.1)) (_,_,_) ((Abv [(21,some (_,⟨true,false,2,51,r6.1.map LZ⟩))] ⟨⟨_,_,r,r,r⟩,trivial⟩ ⟨(MZ r),(MZ r),(MZ r),(MZ r),(MZ r),(MZ r),(MZ r),trivial⟩ ⟨(.inl r),(.inr ⟨_,_,_,_,r,r,r,r,Abt r ⟨(AdJ r),(Aaq (l:=r6.1) (en:=LZ) r r r (by simp)),(AdJ r),trivial⟩⟩),(.inl r),(.inl r),trivial⟩))<|?_
  rintro ⟨c14,c15,code16,f17,n18⟩ ⟨v8x2,v9x2,v10x2⟩ nn
  try dsimp only
  unfold PD
  refine sQ<|sQ<|rG<|mV r r<|bN (v:=.bool (decide (n18 > 0))) r r r r r<|nI<|xS<|cD (c:=(decide (n18 > 0))) r ?_ ?_
  ·refine sK<|xS<|sQ<|bK<|sQ<|rG<|mV r r<|mV r r<|lO (v:=.agg [.int .i64 x_x5,.sl (f17.map LZ),.nils]) (z:=.agg [.int .i64 x_x5,.sl (f17.map LZ),.nils]) r r r r r r<|mV r r<|mV r r<|bD fun r19 hr19=>cR (l:=r19.1) (en:=LW) ((LV.mk c14 c15),(LY.mk x_x5 f17 ([])),i2,params3) r r r Ye r r (by simp) (by first | rfl | (simp only [Mw,MB]; rfl) | simp [QP,MK,ME]) hr19 r<|cK fun hq=>aP (code16) (r19.1) LW r r r r r r r (by simp) (Mu _ _ r) r r (by simp) (Md _ _ r) (fun _=>r) r hq<|aO (l:=code16 ++ r19.1) (en:=LW) r r r r<|nI<|xS<|sQ<|rG<|mV r r<|bD fun r20 hr20=>cV (r19.2,9) r r r Mh r r (by simp) r hr20<|nI<|xS<|bK<|sQ<|rG<|bN (v:=.bool (r20.1 == 7)) r r r r r<|aS r r<|nI<|xS<|cD (c:=(r20.1 == 7)) r ?_ ?_
   ·exact rG<|mV r r<|mV r r<|bD fun r21 hr21=>cV (r20.2,4) r r r Mh r r (by simp) r hr21<|bL (cs:=[.int .i64 21,.int .i64 r21.1,.int .i64 (-1),.int .i64 0,.int .u64 0]) (ps:=[(0,1,.int .i64 21),(1,1,.int .i64 r21.1),(2,1,.int .i64 (-1))]) r r r r<|bS ([(LU.mk 21 r21.1 (-1) 0 0)] : List LU) LW r r r (by simp) r r r<|cK fun hq=>aP (code16 ++ r19.1) (([(LU.mk 21 r21.1 (-1) 0 0)] : List LU)) LW r r r r r r r (by simp) (Mu _ _ r) r r (by simp) (Md _ _ r) (fun _=>r) r hq<|aO (l:=(code16 ++ r19.1) ++ ([(LU.mk 21 r21.1 (-1) 0 0)] : List LU)) (en:=LW) r r r r<|nI<|bM<|bM<|xS<|rG<|mV r r<|bN (v:=.int .i64 (IntKind.i64.wrap (n18 - 1))) r r r r r<|aS r r<|nI<|xL (s:=(r21.2.list,r21.2.at_,(code16 ++ r19.1) ++ ([(LU.mk 21 r21.1 (-1) 0 0)] : List LU),f17,IntKind.i64.wrap (n18 - 1))) (_,_,_) ((hE ⟨rfl,r,r,r,r,r,r,trivial⟩ ⟨rfl,r,r,r,trivial⟩))
   ·refine sQ<|rG<|bN (v:=.bool (r20.1 == 8)) r r r r r<|aS r r<|nI<|xS<|cD (c:=(r20.1 == 8)) r ?_ ?_
    ·refine sQ<|rG<|mV r r<|bD fun r22 hr22=>cV (r20.2,3) r r r Mh r r (by simp) r hr22<|bN (v:=.bool (r22.1 == 2)) r r r r r<|nI<|xS<|cD (c:=(r22.1 == 2)) r ?_ ?_
     ·exact rG<|mV r r<|bL (cs:=[.int .i64 20,.int .i64 (-1),.int .i64 0,.int .i64 0,.int .u64 0]) (ps:=[(0,1,.int .i64 20),(1,1,.int .i64 (-1))]) r r r r<|bS ([(LU.mk 20 (-1) 0 0 0)] : List LU) LW r r r (by simp) r r r<|cK fun hq=>aP (code16 ++ r19.1) (([(LU.mk 20 (-1) 0 0 0)] : List LU)) LW r r r r r r r (by simp) (Mu _ _ r) r r (by simp) (Md _ _ r) (fun _=>r) r hq<|aO (l:=(code16 ++ r19.1) ++ ([(LU.mk 20 (-1) 0 0 0)] : List LU)) (en:=LW) r r r r<|nI<|bM<|bM<|xS<|rG<|mV r r<|bN (v:=.int .i64 (IntKind.i64.wrap (n18 - 1))) r r r r r<|aS r r<|nI<|xL (s:=(r22.2.list,r22.2.at_,(code16 ++ r19.1) ++ ([(LU.mk 20 (-1) 0 0 0)] : List LU),f17,IntKind.i64.wrap (n18 - 1))) (_,_,_) ((hE ⟨rfl,r,r,r,r,r,r,trivial⟩ ⟨rfl,r,r,r,trivial⟩))
     ·exact sK<|bM<|bM<|xS<|rG<|mV r r<|bN (v:=.int .i64 (IntKind.i64.wrap (n18 - 1))) r r r r r<|aS r r<|nI<|xL (s:=(r22.2.list,r22.2.at_,code16 ++ r19.1,f17,IntKind.i64.wrap (n18 - 1))) (_,_,_) ((hE ⟨rfl,r,r,r,r,r,r,trivial⟩ ⟨rfl,r,r,r,trivial⟩))
    ·exact sK<|bM<|bM<|xS<|rG<|mV r r<|bN (v:=.int .i64 (IntKind.i64.wrap (n18 - 1))) r r r r r<|aS r r<|nI<|xL (s:=(r20.2.list,r20.2.at_,code16 ++ r19.1,f17,IntKind.i64.wrap (n18 - 1))) (_,_,_) ((hE ⟨rfl,r,r,r,r,r,r,trivial⟩ ⟨rfl,r,r,r,trivial⟩))
  ·refine eT<|xE<|lE<|bH<|xS<|sQ<|rG<|bL (cs:=[.int .i64 23,.int .i64 0,.int .i64 0,.int .i64 0,.int .u64 0]) (ps:=[(0,1,.int .i64 23)]) r r r r<|nW r<|sV (z':=.agg [.int .i64 23,.int .i64 0,.int .i64 0,.int .i64 0,.int .u64 0]) r r r r r r r r r<|nI<|xS<|sC (E:=fun (s : (List Int) × Int × Int × Int) (g : Nat × Nat × Nat × Nat)=>[(0,.optr 8192 0 0 0),(8,.optr 8 g.1 0 0),(9,.optr 9 g.2.1 0 0),(10,.osl 10 g.2.2.1 0 code16.length),(13,.optr 13 g.2.2.2 0 0)]) (O:=fun s g=>[(8,some (g.1,⟨false,true,3,33,[.agg [.int .i64 0,.nils,.nils]]⟩)),(9,some (g.2.1,⟨false,true,3,33,[.agg [.int .i64 x_x5,.sl (f17.map LZ),.nils]]⟩)),(10,some (g.2.2.1,⟨false,false,5,54,code16.map LW⟩)),(13,some (g.2.2.2,⟨false,true,5,54,[.agg [.int .i64 s.2.2.1,.int .i64 0,.int .i64 0,.int .i64 0,.int .u64 s.2.2.2]]⟩)),(8192,some (0,⟨false,true,2,56,[.agg [.sl (s.1.map eU8),.int .i64 s.2.1]]⟩))]) (j:=fun s=>NI code16 x_x5 f17 s.1 s.2.1 s.2.2.1 s.2.2.2) ?_ ?_
   ·refine sQ<|rG<|mV r r<|bD fun r27 hr27=>cV ((LV.mk c14 c15),12) r r r Mh r r (by simp) r hr27<|bN (v:=.bool (r27.1 == 11)) r r r r r<|nI<|xS<|cD (c:=(r27.1 == 11)) r ?_ ?_
    ·exact rG<|mV r r<|bD fun r28 hr28=>cV r27.2 r r r TO r r (by simp) r hr28<|bL (cs:=[.int .i64 24,.int .i64 0,.int .i64 0,.int .i64 0,.int .u64 r28.1]) (ps:=[(0,1,.int .i64 24),(4,1,.int .u64 r28.1)]) r r r r<|sV (z':=.agg [.int .i64 24,.int .i64 0,.int .i64 0,.int .i64 0,.int .u64 r28.1]) r r r r r r r r r<|nI<|xC (s:=(r28.2.list,r28.2.at_,24,r28.1)) (_,_,_,_) ((hE ⟨rfl,r,r,r,r,trivial⟩ ⟨rfl,r,r,r,r,trivial⟩))
    ·exact sK<|xC (s:=(r27.2.list,r27.2.at_,23,0)) (_,_,_,_) ((hE ⟨rfl,r,r,r,r,trivial⟩ ⟨rfl,r,r,r,r,trivial⟩))
   ·rintro ⟨c23,c24,end25,end26⟩ ⟨v8x3,v9x3,v10x3,v13x3⟩ nn
    try dsimp only
    unfold NI
    refine sQ<|rG<|mV r r<|lO (v:=.agg [.int .i64 end25,.int .i64 0,.int .i64 0,.int .i64 0,.int .u64 end26]) (z:=.agg [.int .i64 end25,.int .i64 0,.int .i64 0,.int .i64 0,.int .u64 end26]) r r r r r r<|bS ([(LU.mk end25 0 0 0 end26)] : List LU) LW r r r (by simp) r r r<|cK fun hq=>aP (code16) (([(LU.mk end25 0 0 0 end26)] : List LU)) LW r r r r r r r (by simp) (Mu _ _ r) r r (by simp) (Md _ _ r) (fun _=>r) r hq<|aO (l:=code16 ++ ([(LU.mk end25 0 0 0 end26)] : List LU)) (en:=LW) r r r r<|nI<|xS<|sQ<|sQ<|rG<|aS r r<|nI<|xS<|bK<|lP (E:=fun (s : (List Int) × Int × (List LU) × Int) (g : Nat × Nat × Nat)=>[(0,.optr 8192 0 0 0),(8,.optr 8 g.1 0 0),(9,.optr 9 g.2.1 0 0),(10,.osl 10 g.2.2 0 s.2.2.1.length),(14,.int .i64 s.2.2.2)]) (O:=fun s g=>[(8,some (g.1,⟨false,true,3,33,[.agg [.int .i64 0,.nils,.nils]]⟩)),(9,some (g.2.1,⟨false,true,3,33,[.agg [.int .i64 x_x5,.sl (f17.map LZ),.nils]]⟩)),(10,some (g.2.2,⟨false,false,5,54,s.2.2.1.map LW⟩)),(8192,some (0,⟨false,true,2,56,[.agg [.sl (s.1.map eU8),.int .i64 s.2.1]]⟩))]) (body:=fun s=>Ol x_x5 f17 s.1 s.2.1 s.2.2.1 s.2.2.2) (s:=(c23,c24,code16 ++ ([(LU.mk end25 0 0 0 end26)] : List LU),0)) (_,_,_) ((hE ⟨rfl,r,r,r,r,trivial⟩ ⟨rfl,r,r,r,trivial⟩))<|?_
    rintro ⟨c29,c30,code31,k32⟩ ⟨v8x4,v9x4,v10x4⟩ nn
    try dsimp only
    unfold Ol
    refine sQ<|sQ<|rG<|mV r r<|mV r r<|lW r r<|bN (v:=.bool (decide (k32 < (code31.length : Int)))) r r r r r<|nI<|xS<|cD (c:=(decide (k32 < (code31.length : Int)))) r ?_ ?_
    ·refine sK<|xS<|sQ<|bK<|sQ<|rG<|mV r r<|mV r r<|bD fun r33 hr33=>cV ((LV.mk c29 c30),8) r r r Mh r r (by simp) r hr33<|bN (v:=.int .i64 (IntKind.i64.wrap (k32 + r33.1))) r r r r r<|bN (v:=.int .i64 (IntKind.i64.wrap ((IntKind.i64.wrap (k32 + r33.1)) - 2))) r r r r r<|aS r r<|nI<|xS<|sC (E:=fun (s : Int) (g : Nat × Nat × Nat)=>[(0,.optr 8192 0 0 0),(8,.optr 8 g.1 0 0),(9,.optr 9 g.2.1 0 0),(10,.osl 10 g.2.2 0 code31.length),(14,.int .i64 k32),(15,.int .i64 s)]) (O:=fun s g=>[(8,some (g.1,⟨false,true,3,33,[.agg [.int .i64 0,.nils,.nils]]⟩)),(9,some (g.2.1,⟨false,true,3,33,[.agg [.int .i64 x_x5,.sl (f17.map LZ),.nils]]⟩)),(10,some (g.2.2,⟨false,false,5,54,code31.map LW⟩)),(8192,some (0,⟨false,true,2,56,[.agg [.sl (r33.2.list.map eU8),.int .i64 r33.2.at_]]⟩))]) (j:=fun s=>Na k32 code31 r33 s) ?_ ?_
     ·refine sQ<|rG<|mV r r<|bN (v:=.bool (decide ((IntKind.i64.wrap ((IntKind.i64.wrap (k32 + r33.1)) - 2)) < 0))) r r r r r<|mV r r<|sP 98 (b:=(decide ((IntKind.i64.wrap ((IntKind.i64.wrap (k32 + r33.1)) - 2)) < 0))) r ?_ ?_
      ·exact oF r<|oF r<|oF r<|oF r<|pT r r r r<|nI<|xS<|MW r<|rG<|mV r r<|lW r r<|bN (v:=.int .i64 (IntKind.i64.wrap ((code31.length : Int) - 1))) r r r r r<|aS r r<|nI<|xC (s:=IntKind.i64.wrap ((code31.length : Int) - 1)) (_,_,_) ((hE ⟨rfl,r,r,r,r,r,trivial⟩ ⟨rfl,r,r,r,trivial⟩))
      ·refine mV r r<|mV r r<|lW r r<|bN (v:=.bool (decide ((IntKind.i64.wrap ((IntKind.i64.wrap (k32 + r33.1)) - 2)) ≥ (code31.length : Int)))) r r r r r<|pF r r r r<|nI<|xS<|cD (c:=(decide ((IntKind.i64.wrap ((IntKind.i64.wrap (k32 + r33.1)) - 2)) ≥ (code31.length : Int)))) r ?_ ?_
       ·exact rG<|mV r r<|lW r r<|bN (v:=.int .i64 (IntKind.i64.wrap ((code31.length : Int) - 1))) r r r r r<|aS r r<|nI<|xC (s:=IntKind.i64.wrap ((code31.length : Int) - 1)) (_,_,_) ((hE ⟨rfl,r,r,r,r,r,trivial⟩ ⟨rfl,r,r,r,trivial⟩))
       ·exact sK<|xC (s:=IntKind.i64.wrap ((IntKind.i64.wrap (k32 + r33.1)) - 2)) (_,_,_) ((hE ⟨rfl,r,r,r,r,r,trivial⟩ ⟨rfl,r,r,r,trivial⟩))
     ·rintro to34 ⟨v8x5,v9x5,v10x5⟩ nn
      try dsimp only
      unfold Na
      refine bK<|sC (E:=fun (s : Bool) (g : Nat × Nat × Nat)=>[(0,.optr 8192 0 0 0),(8,.optr 8 g.1 0 0),(9,.optr 9 g.2.1 0 0),(10,.osl 10 g.2.2 0 code31.length),(14,.int .i64 k32),(15,.int .i64 to34),(107,.bool s)]) (O:=fun s g=>[(8,some (g.1,⟨false,true,3,33,[.agg [.int .i64 0,.nils,.nils]]⟩)),(9,some (g.2.1,⟨false,true,3,33,[.agg [.int .i64 x_x5,.sl (f17.map LZ),.nils]]⟩)),(10,some (g.2.2,⟨false,false,5,54,code31.map LW⟩)),(8192,some (0,⟨false,true,2,56,[.agg [.sl (r33.2.list.map eU8),.int .i64 r33.2.at_]]⟩))]) (j:=fun s=>Om k32 code31 r33 to34 s) ?_ ?_
      ·refine rG<|mV r r<|mV r r<|cK fun hq=>iO (l:=code31) (en:=LW) r r r r r hq<|fA r r<|bD fun code_e36 hcode_e36=>lO (v:=.int .i64 code_e36.Op) (z:=LW code_e36) r r r (Nn hcode_e36) r r<|bN (v:=.bool (code_e36.Op == 20)) r r r r r<|mV r r<|sP 114 (b:=(code_e36.Op == 20)) r ?_ ?_
       ·exact mV r r<|mV r r<|cK fun hq=>iO (l:=code31) (en:=LW) r r r r r hq<|fA r r<|bD fun code_e37 hcode_e37=>lO (v:=.int .i64 code_e37.A) (z:=LW code_e37) r r r (Nn hcode_e37) r r<|bN (v:=.bool (decide (code_e37.A < 0))) r r r r r<|pT r r r r<|aS r r<|nI<|xC (s:=(decide (code_e37.A < 0))) (_,_,_) ((hE ⟨rfl,r,r,r,r,r,r,trivial⟩ ⟨rfl,r,r,r,trivial⟩))
       ·exact oF r<|oF r<|oF r<|oF r<|oF r<|oF r<|pF r r r r<|aS r r<|nI<|xC (s:=false) (_,_,_) ((hE ⟨rfl,r,r,r,r,r,r,trivial⟩ ⟨rfl,r,r,r,trivial⟩))
      ·rintro x35 ⟨v8x6,v9x6,v10x6⟩ nn
       try dsimp only
       unfold Om
       refine cD (c:=x35) r ?_ ?_
       ·exact rG<|mV r r<|mV r r<|mV r r<|cK fun hq=>iO (l:=code31) (en:=LW) r r r r r hq<|fA r r<|bD fun code_o38 hcode_o38=>sE (l:=code31) (en:=LW) (q':=(LU.mk code_o38.Op to34 code_o38.B code_o38.C code_o38.Imm)) r r r r r r r (by simp) hcode_o38 r r r r r<|nI<|bM<|bM<|xS<|rG<|mV r r<|bN (v:=.int .i64 (IntKind.i64.wrap (k32 + 1))) r r r r r<|aS r r<|nI<|xL (s:=(r33.2.list,r33.2.at_,code31.set k32.toNat (LU.mk code_o38.Op to34 code_o38.B code_o38.C code_o38.Imm),IntKind.i64.wrap (k32 + 1))) (_,_,_) ((hE ⟨rfl,r,r,(Abb (q:=code31.length) r (by simp)),r,trivial⟩ ⟨rfl,r,r,r,trivial⟩))
       ·refine sQ<|rG<|mV r r<|mV r r<|cK fun hq=>iO (l:=code31) (en:=LW) r r r r r hq<|fA r r<|bD fun code_e39 hcode_e39=>lO (v:=.int .i64 code_e39.Op) (z:=LW code_e39) r r r (Nn hcode_e39) r r<|bN (v:=.bool (code_e39.Op == 21)) r r r r r<|mV r r<|sP 134 (b:=(code_e39.Op == 21)) r ?_ ?_
        ·refine mV r r<|mV r r<|cK fun hq=>iO (l:=code31) (en:=LW) r r r r r hq<|fA r r<|bD fun code_e40 hcode_e40=>lO (v:=.int .i64 code_e40.B) (z:=LW code_e40) r r r (Nn hcode_e40) r r<|bN (v:=.bool (decide (code_e40.B < 0))) r r r r r<|pT r r r r<|aS r r<|nI<|xS<|cD (c:=(decide (code_e40.B < 0))) r ?_ ?_
         ·exact rG<|mV r r<|mV r r<|mV r r<|cK fun hq=>iO (l:=code31) (en:=LW) r r r r r hq<|fA r r<|bD fun code_o41 hcode_o41=>sE (l:=code31) (en:=LW) (q':=(LU.mk code_o41.Op code_o41.A to34 code_o41.C code_o41.Imm)) r r r r r r r (by simp) hcode_o41 r r r r r<|nI<|bM<|bM<|xS<|rG<|mV r r<|bN (v:=.int .i64 (IntKind.i64.wrap (k32 + 1))) r r r r r<|aS r r<|nI<|xL (s:=(r33.2.list,r33.2.at_,code31.set k32.toNat (LU.mk code_o41.Op code_o41.A to34 code_o41.C code_o41.Imm),IntKind.i64.wrap (k32 + 1))) (_,_,_) ((hE ⟨rfl,r,r,(Abb (q:=code31.length) r (by simp)),r,trivial⟩ ⟨rfl,r,r,r,trivial⟩))
         ·exact sK<|bM<|bM<|xS<|rG<|mV r r<|bN (v:=.int .i64 (IntKind.i64.wrap (k32 + 1))) r r r r r<|aS r r<|nI<|xL (s:=(r33.2.list,r33.2.at_,code31,IntKind.i64.wrap (k32 + 1))) (_,_,_) ((hE ⟨rfl,r,r,r,r,trivial⟩ ⟨rfl,r,r,r,trivial⟩))
        ·exact oF r<|oF r<|oF r<|oF r<|oF r<|oF r<|pF r r r r<|aS r r<|nI<|xS<|Nz r<|sK<|bM<|bM<|xS<|rG<|mV r r<|bN (v:=.int .i64 (IntKind.i64.wrap (k32 + 1))) r r r r r<|aS r r<|nI<|xL (s:=(r33.2.list,r33.2.at_,code31,IntKind.i64.wrap (k32 + 1))) (_,_,_) ((hE ⟨rfl,r,r,r,r,trivial⟩ ⟨rfl,r,r,r,trivial⟩))
    ·refine eT<|xE<|lE<|bH<|xS<|sQ<|rG<|mV r r<|fA r r<|sV (z':=.agg [.int .i64 x_x5,.sl (f17.map LZ),.osl 10 _ 0 code31.length]) r r r r r r r r r<|nI<|xS<|sQ<|rG<|lO (v:=.agg [.int .i64 x_x5,.sl (f17.map LZ),.osl 10 _ 0 code31.length]) (z:=.agg [.int .i64 x_x5,.sl (f17.map LZ),.osl 10 _ 0 code31.length]) r r r r r r<|sV (z':=.agg [.int .i64 x_x5,.sl (f17.map LZ),.osl 10 _ 0 code31.length]) r r r r r r r r r<|nI<|xS<|rT<|Nl (b:=((LY.mk x_x5 f17 code31),(LV.mk c29 c30))) r ?_ r r ?_ (by first | rfl | (simp only [Mw,MB]; rfl) | simp [RS,ME])
     all_goals first|(simp;done)|(simp;omega)|rfl|(simp [Me,Mc];done)

def dc6 : Mm:=(.seq (.reg [P 6 (.new (.agg [.nils]) 1 28)] false) (.seq (.reg [⟨(some 12),(.bldS 1 3 (.int .i64 0) 1 [⟨0,(C 0)⟩]),none,[]⟩,⟨(some 7),(.asg (T 12) (some ⟨1,3⟩)),none,[]⟩] false) (.seq (.seq (.reg [M 13 0,M 14 1,P 15 (.call (.c (.clo 7 [])) [(T 13),(T 14)]),P 8 (.asg (T 15) none)] false) (.block 0 (.loop (.seq (.seq (.reg [M 16 8,P 17 (.bin .gtr (T 16) (C 0))] false) (.cond (T 17) .skip (.exit 0))) (.seq (.block 1 (.reg [M 20 7,M 21 0,P 22 (.call (.c (.clo 7 [])) [(T 21),(C 4)]),⟨(some 23),(.bldS 1 3 (.int .i64 0) 1 [⟨0,(T 22)⟩]),none,[]⟩,P 24 (.app 1 3 8 (T 20) (T 23)),⟨(some 7),(.asg (T 24) (some ⟨1,3⟩)),none,[]⟩] false)) (.reg [M 18 8,P 19 (.bin .sub (T 18) (C 1)),P 8 (.asg (T 19) none)] false)))))) (.seq (.reg [P 9 (.new (.agg [.nils]) 1 28)] false) (.seq (.seq (.reg [P 10 (.asg (C 0) none)] false) (.block 2 (.loop (.seq (.seq (.reg [M 25 10,M 26 7,P 27 (.len false (T 26)),P 28 (.bin .lss (T 25) (T 27))] false) (.cond (T 28) .skip (.exit 2))) (.seq (.block 3 (.seq (.reg [P 31 (.fldA 0 (T 9)),P 32 (.ld 1 false (T 31)),P 33 (.app 3 33 56 (.c .nils) (T 32)),M 34 0,M 35 10,M 36 7,M 37 2,P 38 (.call (.c (.clo 13 [])) [(T 34),(T 35),(T 36),(T 37)]),⟨(some 39),(.bldS 3 33 (.agg [(.int .i64 0),(.sl []),(.sl [])]) 1 [⟨0,(T 38)⟩]),none,[]⟩,P 40 (.app 3 33 56 (T 33) (T 39)),⟨(some 11),(.asg (T 40) (some ⟨3,33⟩)),none,[]⟩] false) (.reg [M 41 11,P 42 (.fldA 0 (T 9)),⟨none,(.st 1 (T 42) (T 41)),none,[]⟩] false))) (.reg [M 29 10,P 30 (.bin .add (T 29) (C 1)),P 10 (.asg (T 30) none)] false)))))) (.seq (.reg [P 43 (.ld 1 true (T 9)),⟨none,(.st 1 (T 6) (T 43)),none,[]⟩] false) .ret))))))
theorem AlV : (Tryz.f6.body.bind (Mo Tryz.prog Tryz.f6.ntmps)) = some dc6:=by kernel_rfl
theorem AlW : Tryz.f6.results.toList.mapM (My Tryz.prog) = some [(.c 6 1 true)]:=by kernel_rfl
def Rx (a : LV × Int × Int) : List D:=[MK a.1,.int .i64 a.2.1,.int .i64 a.2.2]
def Rv (ds : List D) : LV × Int × Int:=(Oc (ds.getD 0 .top),uI (ds.getD 1 .top),uI (ds.getD 2 .top))
theorem VT (a : LV × Int × Int) : Rv (Rx a) = a:=by simp [Rv,Rx,uI]
def Wl (b : PZ × LV) : D:=Adz b.1
def Wj (b : PZ × LV) : List D:=[MK b.2]
noncomputable def Sr : Dw.Spec:=Ml [(0,(2,56))] .val Rx Rv (fun a=>Oz a.1 a.2.1 a.2.2) Wl Wj
set_option maxHeartbeats 4000000 in
theorem AaZ : Mk Tryz.prog 6 Sr:=by
 refine Mv (Mp (l:=[(7,MA),(13,RT)]) (by simp [Nr,AaJ])) Tryz.func6 (by decide) AlV AlW (np:=3) (by decide) VT (fun _=>r) (fun _=>r) (by decide)<|?_
 rintro ⟨c1,funcs2,most3⟩
 show TrE (specs [(7,MA),(13,RT)]) dc6 (Mz [(0,(2,56))] .val [(.c 6 1 true)] Wl Wj) ⟨[(0,.optr 8192 0 0 0),(1,.int .i64 funcs2),(2,.int .i64 most3)],[(8192,some (0,⟨false,true,2,56,[.agg [.sl (c1.list.map eU8),.int .i64 c1.at_]]⟩))],262144⟩ (Oz c1 funcs2 most3)
 refine Mq<|?_
 unfold dc6 Oz
 refine sQ<|rG<|nW r<|nI<|xS<|sQ<|rG<|bS ([0] : List Int) LS r r r (by simp) r r r<|aO (l:=([0] : List Int)) (en:=LS) r r r r<|nI<|xS<|sQ<|sQ<|rG<|mV r r<|mV r r<|bD fun r4 hr4=>cV (c1,funcs2) r r r Mh r r (by simp) r hr4<|aS r r<|nI<|xS<|bK<|lP (E:=fun (s : (List Int) × Int × (List Int) × Int) (g : Nat × Nat)=>[(0,.optr 8192 0 0 0),(2,.int .i64 most3),(6,.optr 6 g.1 0 0),(7,.osl 7 g.2 0 s.2.2.1.length),(8,.int .i64 s.2.2.2)]) (O:=fun s g=>[(6,some (g.1,⟨false,true,1,28,[.agg [.nils]]⟩)),(7,some (g.2,⟨false,false,1,3,s.2.2.1.map LS⟩)),(8192,some (0,⟨false,true,2,56,[.agg [.sl (s.1.map eU8),.int .i64 s.2.1]]⟩))]) (body:=fun s=>PL most3 s.1 s.2.1 s.2.2.1 s.2.2.2) (s:=(r4.2.list,r4.2.at_,([0] : List Int),r4.1)) (_,_) ((hE ⟨rfl,r,r,r,r,trivial⟩ ⟨rfl,r,r,trivial⟩))<|?_
 rintro ⟨c5,c6,params7,n8⟩ ⟨v6x1,v7x1⟩ nn
 try dsimp only
 unfold PL
 refine sQ<|sQ<|rG<|mV r r<|bN (v:=.bool (decide (n8 > 0))) r r r r r<|nI<|xS<|cD (c:=(decide (n8 > 0))) r ?_ ?_
 ·exact sK<|xS<|sQ<|bK<|rG<|mV r r<|mV r r<|bD fun r9 hr9=>cV ((LV.mk c5 c6),4) r r r Mh r r (by simp) r hr9<|bS ([r9.1] : List Int) LS r r r (by simp) r r r<|cK fun hq=>aP (params7) (([r9.1] : List Int)) LS r r r r r r r (by simp) (Mu _ _ r) r r (by simp) (Md _ _ r) (fun _=>r) r hq<|aO (l:=params7 ++ ([r9.1] : List Int)) (en:=LS) r r r r<|nI<|bM<|xS<|rG<|mV r r<|bN (v:=.int .i64 (IntKind.i64.wrap (n8 - 1))) r r r r r<|aS r r<|nI<|xL (s:=(r9.2.list,r9.2.at_,params7 ++ ([r9.1] : List Int),IntKind.i64.wrap (n8 - 1))) (_,_) ((hE ⟨rfl,r,r,r,r,trivial⟩ ⟨rfl,r,r,trivial⟩))
 ·refine eT<|xE<|lE<|bH<|xS<|sQ<|rG<|nW r<|nI<|xS<|sQ<|sQ<|rG<|aS r r<|nI<|xS<|bK<|lP (E:=fun (s : (List Int) × Int × (List LY) × Int × (List Int)) (g : Nat × Nat)=>[(0,.optr 8192 0 0 0),(2,.int .i64 most3),(6,.optr 6 g.1 0 0),(7,.sl (s.2.2.2.2.map LS)),(9,.optr 9 g.2 0 0),(10,.int .i64 s.2.2.2.1)]) (O:=fun s g=>[(6,some (g.1,⟨false,true,1,28,[.agg [.nils]]⟩)),(9,some (g.2,⟨false,true,1,28,[.agg [.sl (s.2.2.1.map ME)]]⟩)),(8192,some (0,⟨false,true,2,56,[.agg [.sl (s.1.map eU8),.int .i64 s.2.1]]⟩))]) (body:=fun s=>PM most3 s.1 s.2.1 s.2.2.1 s.2.2.2.1 s.2.2.2.2) (s:=(c5,c6,[],0,params7)) (_,_) ((Abv [(7,some (_,⟨true,false,1,3,params7.map LS⟩))] ⟨⟨_,_,r,r,r⟩,trivial⟩ ⟨(MZ r),(MZ r),(MZ r),(Agh (Aaq (l:=params7) (en:=LS) r r r (by simp))),(MZ r),(MZ r),trivial⟩ ⟨(.inl r),(.inr ⟨_,_,_,_,r,r,r,r,Abt r ⟨(Agg ME r),trivial⟩⟩),(.inl r),trivial⟩))<|?_
  rintro ⟨c10,c11,p12,i13,params14⟩ ⟨v6x2,v9x2⟩ nn
  try dsimp only
  unfold PM
  refine sQ<|sQ<|rG<|mV r r<|mV r r<|lS r r<|bN (v:=.bool (decide (i13 < (params14.length : Int)))) r r r r r<|nI<|xS<|cD (c:=(decide (i13 < (params14.length : Int)))) r ?_ ?_
  ·exact sK<|xS<|sQ<|bK<|sQ<|rG<|fA r r<|lO (v:=.sl (p12.map ME)) (z:=.agg [.sl (p12.map ME)]) r r r r r r<|cK fun hq=>aP (([] : List LY)) (p12) ME r r r r r r r (by simp) r r r (by simp) r (fun _=>r) r hq<|mV r r<|mV r r<|mV r r<|mV r r<|bD fun r15 hr15=>cV ((LV.mk c10 c11),i13,params14,most3) r r r Vg r r (by simp) r hr15<|bS ([r15.1] : List LY) ME r r r (by simp) r r r<|cK fun hq=>aP (([] : List LY) ++ p12) (([r15.1] : List LY)) ME r r r r r r r (by simp) (Mu _ _ r) r r (by simp) (Md _ _ r) (fun _=>r) r hq<|aO (l:=(([] : List LY) ++ p12) ++ ([r15.1] : List LY)) (en:=ME) r r r r<|nI<|xS<|rG<|mV r r<|fA r r<|sV (z':=.agg [.osl 11 _ 0 (((([] : List LY) ++ p12) ++ ([r15.1] : List LY)).length)]) r r r r r r r r r<|nI<|bM<|xS<|rG<|mV r r<|bN (v:=.int .i64 (IntKind.i64.wrap (i13 + 1))) r r r r r<|aS r r<|nI<|xL (s:=(r15.2.list,r15.2.at_,(([] : List LY) ++ p12) ++ ([r15.1] : List LY),IntKind.i64.wrap (i13 + 1),params14)) (_,_) ((Abv [(11,some (_,⟨true,false,3,33,((([] : List LY) ++ p12) ++ ([r15.1] : List LY)).map ME⟩))] ⟨⟨_,_,r,r,r⟩,trivial⟩ ⟨(MZ r),(MZ r),(MZ r),(MZ r),(MZ r),(MZ r),trivial⟩ ⟨(.inl r),(.inr ⟨_,_,_,_,r,r,r,r,Abt r ⟨(Aaq (l:=(([] : List LY) ++ p12) ++ ([r15.1] : List LY)) (en:=ME) r r r (by simp)),trivial⟩⟩),(.inl r),trivial⟩))
  ·refine eT<|xE<|lE<|bH<|xS<|sQ<|rG<|lO (v:=.agg [.sl (p12.map ME)]) (z:=.agg [.sl (p12.map ME)]) r r r r r r<|sV (z':=.agg [.sl (p12.map ME)]) r r r r r r r r r<|nI<|xS<|rT<|Nl (b:=((PZ.mk p12),(LV.mk c10 c11))) r ?_ r r ?_ r
   all_goals first|(simp;done)|(simp;omega)|rfl|(simp [Me,Mc];done)

def Ahm : Mm:=(.seq (.reg [P 2 (.box (T 0) 3 33),⟨(some 4),(.asg (.c .nils) (some ⟨1,3⟩)),none,[]⟩] false) (.seq (.seq (.reg [M 6 1,P 7 (.bin .lss (T 6) (C 0)),M 8 7,⟨(some 9),(.mv (T 1)),(some ⟨8,false⟩),[]⟩,⟨(some 10),(.fldA 2 (T 2)),(some ⟨8,false⟩),[]⟩,⟨(some 11),(.ld 1 false (T 10)),(some ⟨8,false⟩),[]⟩,⟨(some 12),(.len false (T 11)),(some ⟨8,false⟩),[]⟩,⟨(some 13),(.bin .geq (T 9) (T 12)),(some ⟨8,false⟩),[]⟩,P 14 (.pick (T 8) (.c (.bool true)) (T 13))] false) (.cond (T 14) (.seq (.reg [⟨(some 4),(.asg (.c .nils) (some ⟨1,3⟩)),none,[]⟩] false) .ret) .skip)) (.seq (.reg [P 15 (.fldA 2 (T 2)),P 16 (.ld 1 false (T 15)),M 17 1,P 18 (.ixA 5 (T 16) (T 17)),P 19 (.ld 5 true (T 18)),P 5 (.new (.agg [(.int .i64 0),(.int .i64 0),(.int .i64 0),(.int .i64 0),(.int .u64 0)]) 5 54),⟨none,(.st 5 (T 5) (T 19)),none,[]⟩] false) (.seq (.seq (.reg [P 20 (.fldA 0 (T 5)),P 21 (.ld 1 false (T 20))] false) (.block 0 (.seq (.reg [P 23 (.bin .eql (T 21) (C 20)),P 22 (.asg (T 23) none)] false) (.cond (T 22) (.seq (.reg [P 24 (.fldA 1 (T 5)),P 25 (.ld 1 false (T 24)),⟨(some 26),(.bldS 1 3 (.int .i64 0) 1 [⟨0,(T 25)⟩]),none,[]⟩,⟨(some 4),(.asg (T 26) (some ⟨1,3⟩)),none,[]⟩] false) .ret) (.seq (.seq (.reg [P 28 (.bin .eql (T 21) (C 23)),P 27 (.asg (T 28) none)] false) (.cond (T 27) .skip (.reg [P 29 (.bin .eql (T 21) (C 24)),P 27 (.asg (T 29) none)] false))) (.cond (T 27) (.seq (.reg [⟨(some 4),(.asg (.c .nils) (some ⟨1,3⟩)),none,[]⟩] false) .ret) (.seq (.reg [P 31 (.bin .eql (T 21) (C 21)),P 30 (.asg (T 31) none)] false) (.cond (T 30) (.block 1 (.seq (.reg [P 33 (.fldA 2 (T 5)),P 34 (.ld 1 false (T 33)),M 35 1,P 36 (.bin .add (T 35) (C 1)),P 37 (.bin .lss (T 34) (T 36)),P 32 (.asg (T 37) none)] false) (.cond (T 32) (.seq (.reg [P 38 (.fldA 2 (T 5)),P 39 (.ld 1 false (T 38)),M 40 1,P 41 (.bin .add (T 40) (C 1)),⟨(some 42),(.bldS 1 3 (.int .i64 0) 2 [⟨0,(T 39)⟩,⟨1,(T 41)⟩]),none,[]⟩,⟨(some 4),(.asg (T 42) (some ⟨1,3⟩)),none,[]⟩] false) .ret) (.seq (.reg [P 44 (.fldA 2 (T 5)),P 45 (.ld 1 false (T 44)),M 46 1,P 47 (.bin .add (T 46) (C 1)),P 48 (.bin .gtr (T 45) (T 47)),P 43 (.asg (T 48) none)] false) (.cond (T 43) (.seq (.reg [M 49 1,P 50 (.bin .add (T 49) (C 1)),P 51 (.fldA 2 (T 5)),P 52 (.ld 1 false (T 51)),⟨(some 53),(.bldS 1 3 (.int .i64 0) 2 [⟨0,(T 50)⟩,⟨1,(T 52)⟩]),none,[]⟩,⟨(some 4),(.asg (T 53) (some ⟨1,3⟩)),none,[]⟩] false) .ret) .skip))))) .skip)))))))) (.seq (.reg [M 54 1,P 55 (.bin .add (T 54) (C 1)),⟨(some 56),(.bldS 1 3 (.int .i64 0) 1 [⟨0,(T 55)⟩]),none,[]⟩,⟨(some 4),(.asg (T 56) (some ⟨1,3⟩)),none,[]⟩] false) .ret)))))
theorem Akh : (Tryz.f41.body.bind (Mo Tryz.prog Tryz.f41.ntmps)) = some Ahm:=by kernel_rfl
theorem Aki : Tryz.f41.results.toList.mapM (My Tryz.prog) = some [(.t 4)]:=by kernel_rfl
def Xw (a : LY × Int) : List D:=[ME a.1,.int .i64 a.2]
def Xv (ds : List D) : LY × Int:=(Ny (ds.getD 0 .top),uI (ds.getD 1 .top))
theorem YB (a : LY × Int) : Xv (Xw a) = a:=by simp [Xv,Xw,uI]
def AcE (b : (List Int)) : D:=.sl (b.map LS)
def AcD (_b : (List Int)) : List D:=[]
noncomputable def Uf : Dw.Spec:=Ml [] (.row 1 3) Xw Xv (fun a=>Sz a.1 a.2) AcE AcD
set_option maxHeartbeats 4000000 in
theorem AbN : Mk Tryz.prog 41 Uf:=by
 refine Mv (Nb) Tryz.func41 (by decide) Akh Aki (np:=2) (by decide) YB (fun _=>r) (fun _=>r) (by decide)<|?_
 rintro ⟨f1,k2⟩
 show TrE (specs []) Ahm (Mz [] (.row 1 3) [(.t 4)] AcE AcD) ⟨[(0,.agg [.int .i64 f1.Params,.sl (f1.Slots.map LZ),.sl (f1.Code.map LW)]),(1,.int .i64 k2)],[],262144⟩ (Sz f1 k2)
 refine Mq<|?_
 unfold Ahm Sz
 refine sQ<|rG<|bX r r r r r<|aN (α:=Int) r LS r<|nI<|xS<|sC (E:=fun (s : Unit) (g : Nat)=>[(1,.int .i64 k2),(2,.optr 2 g 0 0)]) (O:=fun s g=>[(2,some (g,⟨false,true,3,33,[.agg [.int .i64 f1.Params,.sl (f1.Slots.map LZ),.sl (f1.Code.map LW)]]⟩))]) (j:=fun s=>Vp f1 k2) ?_ ?_
 ·refine sQ<|rG<|mV r r<|bN (v:=.bool (decide (k2 < 0))) r r r r r<|mV r r<|sP 8 (b:=(decide (k2 < 0))) r ?_ ?_
  ·refine oF r<|oF r<|oF r<|oF r<|oF r<|pT r r r r<|nI<|xS<|MW r<|sQ<|rG<|aN (α:=Int) r LS r<|nI<|xS<|rT<|zR<|MC (b:=([] : List Int)) r ?_ r r ?_ r ?_ (congrArg D.sl (Md _ _ r)) r
   all_goals first|(simp;done)|(simp;omega)|rfl|(simp [Me,Mc];done)
  ·refine mV r r<|fA r r<|lO (v:=.sl (f1.Code.map LW)) (z:=.agg [.int .i64 f1.Params,.sl (f1.Slots.map LZ),.sl (f1.Code.map LW)]) r r r r r r<|lS r r<|bN (v:=.bool (decide (k2 ≥ (f1.Code.length : Int)))) r r r r r<|pF r r r r<|nI<|xS<|cD (c:=(decide (k2 ≥ (f1.Code.length : Int)))) r ?_ ?_
   ·refine sQ<|rG<|aN (α:=Int) r LS r<|nI<|xS<|rT<|zR<|MC (b:=([] : List Int)) r ?_ r r ?_ r ?_ (congrArg D.sl (Md _ _ r)) r
    all_goals first|(simp;done)|(simp;omega)|rfl|(simp [Me,Mc];done)
   ·exact sK<|xC (s:=()) _ ((hE ⟨rfl,r,trivial⟩ ⟨rfl,trivial⟩))
 ·rintro ⟨⟩ v2x1 nn
  try dsimp only
  unfold Vp
  refine sQ<|rG<|fA r r<|lO (v:=.sl (f1.Code.map LW)) (z:=.agg [.int .i64 f1.Params,.sl (f1.Slots.map LZ),.sl (f1.Code.map LW)]) r r r r r r<|mV r r<|bD fun x_x3 hx_x3=>iS (en:=LW) r r r hx_x3 r<|lF (v:=.agg [.int .i64 x_x3.Op,.int .i64 x_x3.A,.int .i64 x_x3.B,.int .i64 x_x3.C,.int .u64 x_x3.Imm]) r r r r<|nW r<|sV (z':=.agg [.int .i64 x_x3.Op,.int .i64 x_x3.A,.int .i64 x_x3.B,.int .i64 x_x3.C,.int .u64 x_x3.Imm]) r r r r r r r r r<|nI<|xS<|sQ<|sQ<|rG<|fA r r<|lO (v:=.int .i64 x_x3.Op) (z:=.agg [.int .i64 x_x3.Op,.int .i64 x_x3.A,.int .i64 x_x3.B,.int .i64 x_x3.C,.int .u64 x_x3.Imm]) r r r r r r<|nI<|xS<|bK<|sQ<|rG<|bN (v:=.bool (x_x3.Op == 20)) r r r r r<|aS r r<|nI<|xS<|cD (c:=(x_x3.Op == 20)) r ?_ ?_
  ·refine sQ<|rG<|fA r r<|lO (v:=.int .i64 x_x3.A) (z:=.agg [.int .i64 x_x3.Op,.int .i64 x_x3.A,.int .i64 x_x3.B,.int .i64 x_x3.C,.int .u64 x_x3.Imm]) r r r r r r<|bS ([x_x3.A] : List Int) LS r r r (by simp) r r r<|aO (l:=([x_x3.A] : List Int)) (en:=LS) r r r r<|nI<|xS<|rT<|bR<|xR<|MC (b:=([x_x3.A] : List Int)) r ?_ r r ?_ r ?_ (congrArg D.sl (Md _ _ r)) r
   all_goals first|(simp;done)|(simp;omega)|rfl|(simp [Me,Mc];done)
  ·refine sC (E:=fun (s : Bool) (g : Nat)=>[(1,.int .i64 k2),(5,.optr 5 g 0 0),(21,.int .i64 x_x3.Op),(27,.bool s)]) (O:=fun s g=>[(5,some (g,⟨false,true,5,54,[.agg [.int .i64 x_x3.Op,.int .i64 x_x3.A,.int .i64 x_x3.B,.int .i64 x_x3.C,.int .u64 x_x3.Imm]]⟩))]) (j:=fun s=>Ob x_x3 k2 s) ?_ ?_
   ·refine sQ<|rG<|bN (v:=.bool (x_x3.Op == 23)) r r r r r<|aS r r<|nI<|xS<|cD (c:=(x_x3.Op == 23)) r ?_ ?_
    ·exact sK<|xC (s:=(x_x3.Op == 23)) _ ((hE ⟨rfl,r,r,r,trivial⟩ ⟨rfl,trivial⟩))
    ·exact rG<|bN (v:=.bool (x_x3.Op == 24)) r r r r r<|aS r r<|nI<|xC (s:=(x_x3.Op == 24)) _ ((hE ⟨rfl,r,r,r,trivial⟩ ⟨rfl,trivial⟩))
   ·rintro x4 v5x2 nn
    try dsimp only
    unfold Ob
    refine cD (c:=x4) r ?_ ?_
    ·refine sQ<|rG<|aN (α:=Int) r LS r<|nI<|xS<|rT<|bR<|xR<|MC (b:=([] : List Int)) r ?_ r r ?_ r ?_ (congrArg D.sl (Md _ _ r)) r
     all_goals first|(simp;done)|(simp;omega)|rfl|(simp [Me,Mc];done)
    ·refine sQ<|rG<|bN (v:=.bool (x_x3.Op == 21)) r r r r r<|aS r r<|nI<|xS<|cD (c:=(x_x3.Op == 21)) r ?_ ?_
     ·refine bK<|sQ<|rG<|fA r r<|lO (v:=.int .i64 x_x3.B) (z:=.agg [.int .i64 x_x3.Op,.int .i64 x_x3.A,.int .i64 x_x3.B,.int .i64 x_x3.C,.int .u64 x_x3.Imm]) r r r r r r<|mV r r<|bN (v:=.int .i64 (IntKind.i64.wrap (k2 + 1))) r r r r r<|bN (v:=.bool (decide (x_x3.B < (IntKind.i64.wrap (k2 + 1))))) r r r r r<|aS r r<|nI<|xS<|cD (c:=(decide (x_x3.B < (IntKind.i64.wrap (k2 + 1))))) r ?_ ?_
      ·refine sQ<|rG<|fA r r<|lO (v:=.int .i64 x_x3.B) (z:=.agg [.int .i64 x_x3.Op,.int .i64 x_x3.A,.int .i64 x_x3.B,.int .i64 x_x3.C,.int .u64 x_x3.Imm]) r r r r r r<|mV r r<|bN (v:=.int .i64 (IntKind.i64.wrap (k2 + 1))) r r r r r<|bS ([x_x3.B,IntKind.i64.wrap (k2 + 1)] : List Int) LS r r r (by simp) r r r<|aO (l:=([x_x3.B,IntKind.i64.wrap (k2 + 1)] : List Int)) (en:=LS) r r r r<|nI<|xS<|rT<|bR<|bR<|xR<|MC (b:=([x_x3.B,IntKind.i64.wrap (k2 + 1)] : List Int)) r ?_ r r ?_ r ?_ (congrArg D.sl (Md _ _ r)) r
       all_goals first|(simp;done)|(simp;omega)|rfl|(simp [Me,Mc];done)
      ·refine sQ<|rG<|fA r r<|lO (v:=.int .i64 x_x3.B) (z:=.agg [.int .i64 x_x3.Op,.int .i64 x_x3.A,.int .i64 x_x3.B,.int .i64 x_x3.C,.int .u64 x_x3.Imm]) r r r r r r<|mV r r<|bN (v:=.int .i64 (IntKind.i64.wrap (k2 + 1))) r r r r r<|bN (v:=.bool (decide (x_x3.B > (IntKind.i64.wrap (k2 + 1))))) r r r r r<|aS r r<|nI<|xS<|cD (c:=(decide (x_x3.B > (IntKind.i64.wrap (k2 + 1))))) r ?_ ?_
       ·refine sQ<|rG<|mV r r<|bN (v:=.int .i64 (IntKind.i64.wrap (k2 + 1))) r r r r r<|fA r r<|lO (v:=.int .i64 x_x3.B) (z:=.agg [.int .i64 x_x3.Op,.int .i64 x_x3.A,.int .i64 x_x3.B,.int .i64 x_x3.C,.int .u64 x_x3.Imm]) r r r r r r<|bS ([IntKind.i64.wrap (k2 + 1),x_x3.B] : List Int) LS r r r (by simp) r r r<|aO (l:=([IntKind.i64.wrap (k2 + 1),x_x3.B] : List Int)) (en:=LS) r r r r<|nI<|xS<|rT<|bR<|bR<|xR<|MC (b:=([IntKind.i64.wrap (k2 + 1),x_x3.B] : List Int)) r ?_ r r ?_ r ?_ (congrArg D.sl (Md _ _ r)) r
        all_goals first|(simp;done)|(simp;omega)|rfl|(simp [Me,Mc];done)
       ·refine sK<|bM<|bM<|xS<|sQ<|rG<|mV r r<|bN (v:=.int .i64 (IntKind.i64.wrap (k2 + 1))) r r r r r<|bS ([IntKind.i64.wrap (k2 + 1)] : List Int) LS r r r (by simp) r r r<|aO (l:=([IntKind.i64.wrap (k2 + 1)] : List Int)) (en:=LS) r r r r<|nI<|xS<|rT<|MC (b:=([IntKind.i64.wrap (k2 + 1)] : List Int)) r ?_ r r ?_ r ?_ (congrArg D.sl (Md _ _ r)) r
        all_goals first|(simp;done)|(simp;omega)|rfl|(simp [Me,Mc];done)
     ·refine sK<|bM<|xS<|sQ<|rG<|mV r r<|bN (v:=.int .i64 (IntKind.i64.wrap (k2 + 1))) r r r r r<|bS ([IntKind.i64.wrap (k2 + 1)] : List Int) LS r r r (by simp) r r r<|aO (l:=([IntKind.i64.wrap (k2 + 1)] : List Int)) (en:=LS) r r r r<|nI<|xS<|rT<|MC (b:=([IntKind.i64.wrap (k2 + 1)] : List Int)) r ?_ r r ?_ r ?_ (congrArg D.sl (Md _ _ r)) r
      all_goals first|(simp;done)|(simp;omega)|rfl|(simp [Me,Mc];done)

def Ahs : Mm:=(.seq (.reg [P 1 (.box (T 0) 5 54),P 2 (.asg (.c (.bool false)) none)] false) (.seq (.reg [P 3 (.fldA 0 (T 1)),P 4 (.ld 1 false (T 3)),P 5 (.bin .eql (T 4) (C 16)),M 6 5,⟨(some 7),(.fldA 0 (T 1)),(some ⟨6,false⟩),[]⟩,⟨(some 8),(.ld 1 false (T 7)),(some ⟨6,false⟩),[]⟩,⟨(some 9),(.bin .eql (T 8) (C 17)),(some ⟨6,false⟩),[]⟩,P 10 (.pick (T 6) (.c (.bool true)) (T 9)),P 2 (.asg (T 10) none)] false) .ret))
theorem Akt : (Tryz.f47.body.bind (Mo Tryz.prog Tryz.f47.ntmps)) = some Ahs:=by kernel_rfl
theorem Aku : Tryz.f47.results.toList.mapM (My Tryz.prog) = some [(.t 2)]:=by kernel_rfl
def TB (a : LU) : List D:=[LW a]
def TA (ds : List D) : LU:=SS (ds.getD 0 .top)
theorem Ym (a : LU) : TA (TB a) = a:=by simp [TA,TB]
def Zf (b : Bool) : D:=.bool b
def Ze (_b : Bool) : List D:=[]
noncomputable def UX : Dw.Spec:=Ml [] .ground TB TA (fun a=>PW a) Zf Ze
set_option maxHeartbeats 4000000 in
theorem AcF : Mk Tryz.prog 47 UX:=by
 refine Mv (Nb) Tryz.func47 (by decide) Akt Aku (np:=1) (by decide) Ym (fun _=>r) (fun _=>r) (by decide)<|?_
 intro x1
 show TrE (specs []) Ahs (Mz [] .ground [(.t 2)] Zf Ze) ⟨[(0,.agg [.int .i64 x1.Op,.int .i64 x1.A,.int .i64 x1.B,.int .i64 x1.C,.int .u64 x1.Imm])],[],262144⟩ (PW x1)
 refine Mq<|?_
 unfold Ahs PW
 refine sQ<|rG<|bX r r r r r<|aS r r<|nI<|xS<|sQ<|rG<|fA r r<|lO (v:=.int .i64 x1.Op) (z:=.agg [.int .i64 x1.Op,.int .i64 x1.A,.int .i64 x1.B,.int .i64 x1.C,.int .u64 x1.Imm]) r r r r r r<|bN (v:=.bool (x1.Op == 16)) r r r r r<|mV r r<|sP 6 (b:=(x1.Op == 16)) r ?_ ?_
 ·refine oF r<|oF r<|oF r<|pT r r r r<|aS r r<|nI<|xS<|rT<|Mg (b:=true) r ?_ r r ?_ r
  all_goals first|(simp;done)|(simp;omega)|rfl|(simp [Me,Mc];done)
 ·refine fA r r<|lO (v:=.int .i64 x1.Op) (z:=.agg [.int .i64 x1.Op,.int .i64 x1.A,.int .i64 x1.B,.int .i64 x1.C,.int .u64 x1.Imm]) r r r r r r<|bN (v:=.bool (x1.Op == 17)) r r r r r<|pF r r r r<|aS r r<|nI<|xS<|rT<|Mg (b:=(x1.Op == 17)) r ?_ r r ?_ r
  all_goals first|(simp;done)|(simp;omega)|rfl|(simp [Me,Mc];done)

def Ahc : Mm:=(.seq (.reg [P 1 (.box (T 0) 5 54),P 2 (.asg (C 0) none),P 3 (.asg (.c (.bool false)) none)] false) (.seq (.seq (.reg [P 4 (.ld 5 true (T 1)),P 5 (.call (.c (.clo 47 [])) [(T 4)])] false) (.cond (T 5) (.seq (.reg [P 6 (.fldA 1 (T 1)),P 7 (.ld 1 false (T 6)),P 2 (.asg (T 7) none),P 3 (.asg (.c (.bool true)) none)] false) .ret) .skip)) (.seq (.reg [P 2 (.asg (C 0) none),P 3 (.asg (.c (.bool false)) none)] false) .ret)))
theorem AjN : (Tryz.f31.body.bind (Mo Tryz.prog Tryz.f31.ntmps)) = some Ahc:=by kernel_rfl
theorem AjO : Tryz.f31.results.toList.mapM (My Tryz.prog) = some [(.t 2),(.t 3)]:=by kernel_rfl
def UW (a : LU) : List D:=[LW a]
def UU (ds : List D) : LU:=SS (ds.getD 0 .top)
theorem SA (a : LU) : UU (UW a) = a:=by simp [UU,UW]
def Aaw (b : Int × Bool) : D:=.tup [.int .i64 b.1,.bool b.2]
def Aav (_b : Int × Bool) : List D:=[]
noncomputable def Pa : Dw.Spec:=Ml [] .ground UW UU (fun a=>Ou a) Aaw Aav
set_option maxHeartbeats 4000000 in
theorem VF : Mk Tryz.prog 31 Pa:=by
 refine Mv (Mp (l:=[(47,UX)]) (by simp [AcF])) Tryz.func31 (by decide) AjN AjO (np:=1) (by decide) SA (fun _=>r) (fun _=>r) (by decide)<|?_
 intro x1
 show TrE (specs [(47,UX)]) Ahc (Mz [] .ground [(.t 2),(.t 3)] Aaw Aav) ⟨[(0,.agg [.int .i64 x1.Op,.int .i64 x1.A,.int .i64 x1.B,.int .i64 x1.C,.int .u64 x1.Imm])],[],262144⟩ (Ou x1)
 refine Mq<|?_
 unfold Ahc Ou
 refine sQ<|rG<|bX r r r r r<|aS r r<|aS r r<|nI<|xS<|sQ<|sQ<|rG<|lO (v:=.agg [.int .i64 x1.Op,.int .i64 x1.A,.int .i64 x1.B,.int .i64 x1.C,.int .u64 x1.Imm]) (z:=.agg [.int .i64 x1.Op,.int .i64 x1.A,.int .i64 x1.B,.int .i64 x1.C,.int .u64 x1.Imm]) r r r r r r<|bD fun r2 hr2=>cG x1 r r r Ym r r (by simp) r hr2 r<|nI<|xS<|cD (c:=r2) r ?_ ?_
 ·refine sQ<|rG<|fA r r<|lO (v:=.int .i64 x1.A) (z:=.agg [.int .i64 x1.Op,.int .i64 x1.A,.int .i64 x1.B,.int .i64 x1.C,.int .u64 x1.Imm]) r r r r r r<|aS r r<|aS r r<|nI<|xS<|rT<|xR<|MF (b:=(x1.A,true)) r ?_ r r ?_ r (by decide)
  all_goals first|(simp;done)|(simp;omega)|rfl|(simp [Me,Mc];done)
 ·refine sK<|xS<|sQ<|rG<|aS r r<|aS r r<|nI<|xS<|rT<|MF (b:=(0,false)) r ?_ r r ?_ r (by decide)
  all_goals first|(simp;done)|(simp;omega)|rfl|(simp [Me,Mc];done)

def AhD : Mm:=(.seq (.reg [⟨(some 4),(.asg (.c .nils) (some ⟨1,3⟩)),none,[]⟩] false) (.seq (.reg [⟨(some 5),(.asg (.c .nils) (some ⟨1,3⟩)),none,[]⟩] false) (.seq (.seq (.reg [P 6 (.asg (C 0) none)] false) (.block 0 (.loop (.seq (.seq (.reg [M 7 6,M 8 0,P 9 (.len false (T 8)),P 10 (.bin .lss (T 7) (T 9))] false) (.cond (T 10) .skip (.exit 0))) (.seq (.block 1 (.seq (.reg [M 13 0,M 14 6,P 15 (.ixA 1 (T 13) (T 14)),P 16 (.ld 1 false (T 15)),M 17 1,P 18 (.bin .neq (T 16) (T 17))] false) (.cond (T 18) (.reg [M 19 5,M 20 0,M 21 6,P 22 (.ixA 1 (T 20) (T 21)),P 23 (.ld 1 false (T 22)),⟨(some 24),(.bldS 1 3 (.int .i64 0) 1 [⟨0,(T 23)⟩]),none,[]⟩,P 25 (.app 1 3 8 (T 19) (T 24)),⟨(some 5),(.asg (T 25) (some ⟨1,3⟩)),none,[]⟩] false) .skip))) (.reg [M 11 6,P 12 (.bin .add (T 11) (C 1)),P 6 (.asg (T 12) none)] false)))))) (.seq (.reg [M 26 5,⟨(some 4),(.asg (T 26) (some ⟨1,3⟩)),none,[]⟩] false) .ret))))
theorem AkP : (Tryz.f58.body.bind (Mo Tryz.prog Tryz.f58.ntmps)) = some AhD:=by kernel_rfl
theorem AkQ : Tryz.f58.results.toList.mapM (My Tryz.prog) = some [(.t 4)]:=by kernel_rfl
def VE (a : (List Int) × Int) : List D:=[.sl (a.1.map LS),.int .i64 a.2]
def VD (ds : List D) : (List Int) × Int:=((uL uI) (ds.getD 0 .top),uI (ds.getD 1 .top))
theorem Aas (a : (List Int) × Int) : VD (VE a) = a:=by simp [VD,VE,uI,Nt (u:=uI) (en:=LS) (fun _=>rfl)]
def Abf (b : (List Int)) : D:=.sl (b.map LS)
def Abe (_b : (List Int)) : List D:=[]
noncomputable def Xp : Dw.Spec:=Ml [] (.row 1 3) VE VD (fun a=>RZ a.1 a.2) Abf Abe
set_option maxHeartbeats 4000000 in
theorem AdO : Mk Tryz.prog 58 Xp:=by
 refine Mv (Nb) Tryz.func58 (by decide) AkP AkQ (np:=2) (by decide) Aas (fun _=>r) (fun _=>r) (by decide)<|?_
 rintro ⟨s1,n2⟩
 show TrE (specs []) AhD (Mz [] (.row 1 3) [(.t 4)] Abf Abe) ⟨[(0,.sl (s1.map LS)),(1,.int .i64 n2)],[],262144⟩ (RZ s1 n2)
 refine Mq<|?_
 unfold AhD RZ
 refine sQ<|rG<|aN (α:=Int) r LS r<|nI<|xS<|sQ<|rG<|aN (α:=Int) r LS r<|nI<|xS<|sQ<|sQ<|rG<|aS r r<|nI<|xS<|bK<|lP (E:=fun (s : (List Int) × Int) (g : Nat)=>[(0,.sl (s1.map LS)),(1,.int .i64 n2),(5,.osl 5 g 0 s.1.length),(6,.int .i64 s.2)]) (O:=fun s g=>[(5,some (g,⟨false,false,1,3,s.1.map LS⟩))]) (body:=fun s=>OY s1 n2 s.1 s.2) (s:=(([] : List Int),0)) _ ((hE ⟨rfl,r,r,r,trivial⟩ ⟨rfl,trivial⟩))<|?_
 rintro ⟨out3,i4⟩ v5x1 nn
 try dsimp only
 unfold OY
 refine sQ<|sQ<|rG<|mV r r<|mV r r<|lS r r<|bN (v:=.bool (decide (i4 < (s1.length : Int)))) r r r r r<|nI<|xS<|cD (c:=(decide (i4 < (s1.length : Int)))) r ?_ ?_
 ·refine sK<|xS<|sQ<|bK<|sQ<|rG<|mV r r<|mV r r<|bD fun x_x5 hx_x5=>iS (en:=LS) r r r hx_x5 r<|lF (v:=.int .i64 x_x5) r r r r<|mV r r<|bN (v:=.bool (x_x5 != n2)) r r r r r<|nI<|xS<|cD (c:=(x_x5 != n2)) r ?_ ?_
  ·exact rG<|mV r r<|mV r r<|mV r r<|bD fun x_x6 hx_x6=>iS (en:=LS) r r r hx_x6 r<|lF (v:=.int .i64 x_x6) r r r r<|bS ([x_x6] : List Int) LS r r r (by simp) r r r<|cK fun hq=>aP (out3) (([x_x6] : List Int)) LS r r r r r r r (by simp) (Mu _ _ r) r r (by simp) (Md _ _ r) (fun _=>r) r hq<|aO (l:=out3 ++ ([x_x6] : List Int)) (en:=LS) r r r r<|nI<|bM<|xS<|rG<|mV r r<|bN (v:=.int .i64 (IntKind.i64.wrap (i4 + 1))) r r r r r<|aS r r<|nI<|xL (s:=(out3 ++ ([x_x6] : List Int),IntKind.i64.wrap (i4 + 1))) _ ((hE ⟨rfl,r,r,r,trivial⟩ ⟨rfl,trivial⟩))
  ·exact sK<|bM<|xS<|rG<|mV r r<|bN (v:=.int .i64 (IntKind.i64.wrap (i4 + 1))) r r r r r<|aS r r<|nI<|xL (s:=(out3,IntKind.i64.wrap (i4 + 1))) _ ((hE ⟨rfl,r,r,r,trivial⟩ ⟨rfl,trivial⟩))
 ·refine eT<|xE<|lE<|bH<|xS<|sQ<|rG<|mV r r<|aO (l:=out3) (en:=LS) r r r r<|nI<|xS<|rT<|MC (b:=out3) r ?_ r r ?_ r ?_ (congrArg D.sl (Md _ _ r)) r
  all_goals first|(simp;done)|(simp;omega)|rfl|(simp [Me,Mc];done)

def AhE : Mm:=(.seq (.reg [P 1 (.box (T 0) 5 54),⟨(some 2),(.asg (.c .nils) (some ⟨1,3⟩)),none,[]⟩] false) (.seq (.seq (.reg [P 3 (.fldA 0 (T 1)),P 4 (.ld 1 false (T 3)),P 5 (.bin .eql (T 4) (C 15)),M 6 5,⟨(some 7),(.fldA 0 (T 1)),(some ⟨6,false⟩),[]⟩,⟨(some 8),(.ld 1 false (T 7)),(some ⟨6,false⟩),[]⟩,⟨(some 9),(.bin .eql (T 8) (C 17)),(some ⟨6,false⟩),[]⟩,P 10 (.pick (T 6) (.c (.bool true)) (T 9))] false) (.cond (T 10) (.seq (.reg [P 11 (.fldA 2 (T 1)),P 12 (.ld 1 false (T 11)),⟨(some 13),(.bldS 1 3 (.int .i64 0) 1 [⟨0,(T 12)⟩]),none,[]⟩,⟨(some 2),(.asg (T 13) (some ⟨1,3⟩)),none,[]⟩] false) .ret) .skip)) (.seq (.reg [⟨(some 2),(.asg (.c .nils) (some ⟨1,3⟩)),none,[]⟩] false) .ret)))
theorem AkR : (Tryz.f59.body.bind (Mo Tryz.prog Tryz.f59.ntmps)) = some AhE:=by kernel_rfl
theorem AkS : Tryz.f59.results.toList.mapM (My Tryz.prog) = some [(.t 2)]:=by kernel_rfl
def Xy (a : LU) : List D:=[LW a]
def Xx (ds : List D) : LU:=SS (ds.getD 0 .top)
theorem YC (a : LU) : Xx (Xy a) = a:=by simp [Xx,Xy]
def AcH (b : (List Int)) : D:=.sl (b.map LS)
def AcG (_b : (List Int)) : List D:=[]
noncomputable def ZM : Dw.Spec:=Ml [] (.row 1 3) Xy Xx (fun a=>SB a) AcH AcG
set_option maxHeartbeats 4000000 in
theorem AeC : Mk Tryz.prog 59 ZM:=by
 refine Mv (Nb) Tryz.func59 (by decide) AkR AkS (np:=1) (by decide) YC (fun _=>r) (fun _=>r) (by decide)<|?_
 intro x1
 show TrE (specs []) AhE (Mz [] (.row 1 3) [(.t 2)] AcH AcG) ⟨[(0,.agg [.int .i64 x1.Op,.int .i64 x1.A,.int .i64 x1.B,.int .i64 x1.C,.int .u64 x1.Imm])],[],262144⟩ (SB x1)
 refine Mq<|?_
 unfold AhE SB
 refine sQ<|rG<|bX r r r r r<|aN (α:=Int) r LS r<|nI<|xS<|sQ<|sQ<|rG<|fA r r<|lO (v:=.int .i64 x1.Op) (z:=.agg [.int .i64 x1.Op,.int .i64 x1.A,.int .i64 x1.B,.int .i64 x1.C,.int .u64 x1.Imm]) r r r r r r<|bN (v:=.bool (x1.Op == 15)) r r r r r<|mV r r<|sP 6 (b:=(x1.Op == 15)) r ?_ ?_
 ·refine oF r<|oF r<|oF r<|pT r r r r<|nI<|xS<|MW r<|sQ<|rG<|fA r r<|lO (v:=.int .i64 x1.B) (z:=.agg [.int .i64 x1.Op,.int .i64 x1.A,.int .i64 x1.B,.int .i64 x1.C,.int .u64 x1.Imm]) r r r r r r<|bS ([x1.B] : List Int) LS r r r (by simp) r r r<|aO (l:=([x1.B] : List Int)) (en:=LS) r r r r<|nI<|xS<|rT<|xR<|MC (b:=([x1.B] : List Int)) r ?_ r r ?_ r ?_ (congrArg D.sl (Md _ _ r)) r
  all_goals first|(simp;done)|(simp;omega)|rfl|(simp [Me,Mc];done)
 ·refine fA r r<|lO (v:=.int .i64 x1.Op) (z:=.agg [.int .i64 x1.Op,.int .i64 x1.A,.int .i64 x1.B,.int .i64 x1.C,.int .u64 x1.Imm]) r r r r r r<|bN (v:=.bool (x1.Op == 17)) r r r r r<|pF r r r r<|nI<|xS<|cD (c:=(x1.Op == 17)) r ?_ ?_
  ·refine sQ<|rG<|fA r r<|lO (v:=.int .i64 x1.B) (z:=.agg [.int .i64 x1.Op,.int .i64 x1.A,.int .i64 x1.B,.int .i64 x1.C,.int .u64 x1.Imm]) r r r r r r<|bS ([x1.B] : List Int) LS r r r (by simp) r r r<|aO (l:=([x1.B] : List Int)) (en:=LS) r r r r<|nI<|xS<|rT<|xR<|MC (b:=([x1.B] : List Int)) r ?_ r r ?_ r ?_ (congrArg D.sl (Md _ _ r)) r
   all_goals first|(simp;done)|(simp;omega)|rfl|(simp [Me,Mc];done)
  ·refine sK<|xS<|sQ<|rG<|aN (α:=Int) r LS r<|nI<|xS<|rT<|MC (b:=([] : List Int)) r ?_ r r ?_ r ?_ (congrArg D.sl (Md _ _ r)) r
   all_goals first|(simp;done)|(simp;omega)|rfl|(simp [Me,Mc];done)

def Aha : Mm:=(.seq (.reg [P 2 (.asg (.c (.bool false)) none)] false) (.seq (.reg [M 3 0,P 4 (.bin .geq (T 3) (C 0)),M 5 4,⟨(some 6),(.mv (T 0)),(some ⟨5,true⟩),[]⟩,⟨(some 7),(.bin .lss (T 6) (C 512)),(some ⟨5,true⟩),[]⟩,P 8 (.pick (T 5) (T 7) (.c (.bool false))),P 2 (.asg (T 8) none)] false) .ret))
theorem AjJ : (Tryz.f29.body.bind (Mo Tryz.prog Tryz.f29.ntmps)) = some Aha:=by kernel_rfl
theorem AjK : Tryz.f29.results.toList.mapM (My Tryz.prog) = some [(.t 2)]:=by kernel_rfl
def Xu (a : Int) : List D:=[.int .i64 a]
def Xt (ds : List D) : Int:=uI (ds.getD 0 .top)
theorem YA (a : Int) : Xt (Xu a) = a:=by simp [Xt,Xu,uI]
def AcC (b : Bool) : D:=.bool b
def AcB (_b : Bool) : List D:=[]
noncomputable def Ue : Dw.Spec:=Ml [] .ground Xu Xt (fun a=>Qo a) AcC AcB
set_option maxHeartbeats 4000000 in
theorem AbM : Mk Tryz.prog 29 Ue:=by
 refine Mv (Nb) Tryz.func29 (by decide) AjJ AjK (np:=1) (by decide) YA (fun _=>r) (fun _=>r) (by decide)<|?_
 intro n1
 show TrE (specs []) Aha (Mz [] .ground [(.t 2)] AcC AcB) ⟨[(0,.int .i64 n1)],[],262144⟩ (Qo n1)
 refine Mq<|?_
 unfold Aha Qo
 refine sQ<|rG<|aS r r<|nI<|xS<|sQ<|rG<|mV r r<|bN (v:=.bool (decide (n1 ≥ 0))) r r r r r<|mV r r<|sP 5 (b:=(decide (n1 ≥ 0))) r ?_ ?_
 ·refine mV r r<|bN (v:=.bool (decide (n1 < 512))) r r r r r<|pT r r r r<|aS r r<|nI<|xS<|rT<|Mg (b:=(decide (n1 < 512))) r ?_ r r ?_ r
  all_goals first|(simp;done)|(simp;omega)|rfl|(simp [Me,Mc];done)
 ·refine oF r<|oF r<|pF r r r r<|aS r r<|nI<|xS<|rT<|Mg (b:=false) r ?_ r r ?_ r
  all_goals first|(simp;done)|(simp;omega)|rfl|(simp [Me,Mc];done)

def AgN : Mm:=(.seq (.reg [⟨(some 4),(.asg (.c .nils) (some ⟨1,3⟩)),none,[]⟩] false) (.seq (.reg [⟨(some 5),(.asg (.c .nils) (some ⟨1,3⟩)),none,[]⟩] false) (.seq (.reg [M 8 1,P 9 (.call (.c (.clo 29 [])) [(T 8)]),P 10 (.un .not (T 9)),P 6 (.asg (T 10) none)] false) (.seq (.seq (.reg [P 7 (.asg (C 0) none)] false) (.block 0 (.loop (.seq (.seq (.reg [M 11 7,M 12 0,P 13 (.len false (T 12)),P 14 (.bin .lss (T 11) (T 13))] false) (.cond (T 14) .skip (.exit 0))) (.seq (.block 1 (.seq (.seq (.reg [M 17 6,P 18 (.un .not (T 17)),M 19 18,⟨(some 20),(.mv (T 0)),(some ⟨19,true⟩),[]⟩,⟨(some 21),(.mv (T 7)),(some ⟨19,true⟩),[]⟩,⟨(some 22),(.ixA 1 (T 20) (T 21)),(some ⟨19,true⟩),[]⟩,⟨(some 23),(.ld 1 false (T 22)),(some ⟨19,true⟩),[]⟩,⟨(some 24),(.mv (T 1)),(some ⟨19,true⟩),[]⟩,⟨(some 25),(.bin .geq (T 23) (T 24)),(some ⟨19,true⟩),[]⟩,P 26 (.pick (T 19) (T 25) (.c (.bool false)))] false) (.cond (T 26) (.seq (.seq (.reg [M 27 0,M 28 7,P 29 (.ixA 1 (T 27) (T 28)),P 30 (.ld 1 false (T 29)),M 31 1,P 32 (.bin .gtr (T 30) (T 31))] false) (.cond (T 32) (.reg [M 33 5,M 34 1,⟨(some 35),(.bldS 1 3 (.int .i64 0) 1 [⟨0,(T 34)⟩]),none,[]⟩,P 36 (.app 1 3 8 (T 33) (T 35)),⟨(some 5),(.asg (T 36) (some ⟨1,3⟩)),none,[]⟩] false) .skip)) (.reg [P 6 (.asg (.c (.bool true)) none)] false)) .skip)) (.reg [M 37 5,M 38 0,M 39 7,P 40 (.ixA 1 (T 38) (T 39)),P 41 (.ld 1 false (T 40)),⟨(some 42),(.bldS 1 3 (.int .i64 0) 1 [⟨0,(T 41)⟩]),none,[]⟩,P 43 (.app 1 3 8 (T 37) (T 42)),⟨(some 5),(.asg (T 43) (some ⟨1,3⟩)),none,[]⟩] false))) (.reg [M 15 7,P 16 (.bin .add (T 15) (C 1)),P 7 (.asg (T 16) none)] false)))))) (.seq (.seq (.reg [M 44 6,P 45 (.un .not (T 44))] false) (.cond (T 45) (.reg [M 46 5,M 47 1,⟨(some 48),(.bldS 1 3 (.int .i64 0) 1 [⟨0,(T 47)⟩]),none,[]⟩,P 49 (.app 1 3 8 (T 46) (T 48)),⟨(some 5),(.asg (T 49) (some ⟨1,3⟩)),none,[]⟩] false) .skip)) (.seq (.reg [M 50 5,⟨(some 4),(.asg (T 50) (some ⟨1,3⟩)),none,[]⟩] false) .ret))))))
theorem Ajj : (Tryz.f16.body.bind (Mo Tryz.prog Tryz.f16.ntmps)) = some AgN:=by kernel_rfl
theorem Ajk : Tryz.f16.results.toList.mapM (My Tryz.prog) = some [(.t 4)]:=by kernel_rfl
def Vo (a : (List Int) × Int) : List D:=[.sl (a.1.map LS),.int .i64 a.2]
def Yv (ds : List D) : (List Int) × Int:=((uL uI) (ds.getD 0 .top),uI (ds.getD 1 .top))
theorem Ud (a : (List Int) × Int) : Yv (Vo a) = a:=by simp [Yv,Vo,uI,Nt (u:=uI) (en:=LS) (fun _=>rfl)]
def Ads (b : (List Int)) : D:=.sl (b.map LS)
def Adr (_b : (List Int)) : List D:=[]
noncomputable def Rz : Dw.Spec:=Ml [] (.row 1 3) Vo Yv (fun a=>Qr a.1 a.2) Ads Adr
set_option maxHeartbeats 4000000 in
theorem ZG : Mk Tryz.prog 16 Rz:=by
 refine Mv (Mp (l:=[(29,Ue)]) (by simp [AbM])) Tryz.func16 (by decide) Ajj Ajk (np:=2) (by decide) Ud (fun _=>r) (fun _=>r) (by decide)<|?_
 rintro ⟨s1,n2⟩
 show TrE (specs [(29,Ue)]) AgN (Mz [] (.row 1 3) [(.t 4)] Ads Adr) ⟨[(0,.sl (s1.map LS)),(1,.int .i64 n2)],[],262144⟩ (Qr s1 n2)
 refine Mq<|?_
 unfold AgN Qr
 refine sQ<|rG<|aN (α:=Int) r LS r<|nI<|xS<|sQ<|rG<|aN (α:=Int) r LS r<|nI<|xS<|sQ<|rG<|mV r r<|bD fun r3 hr3=>cG n2 r r r YA r r (by simp) r hr3 r<|uN (w:=.bool (!r3)) r r r r trivial<|aS r r<|nI<|xS<|sQ<|sQ<|rG<|aS r r<|nI<|xS<|bK<|lP (E:=fun (s : (List Int) × Bool × Int) (g : Nat)=>[(0,.sl (s1.map LS)),(1,.int .i64 n2),(5,.osl 5 g 0 s.1.length),(6,.bool s.2.1),(7,.int .i64 s.2.2)]) (O:=fun s g=>[(5,some (g,⟨false,false,1,3,s.1.map LS⟩))]) (body:=fun s=>NY s1 n2 s.1 s.2.1 s.2.2) (s:=(([] : List Int),(!r3),0)) _ ((hE ⟨rfl,r,r,r,r,trivial⟩ ⟨rfl,trivial⟩))<|?_
 rintro ⟨out4,done5,i6⟩ v5x1 nn
 try dsimp only
 unfold NY
 refine sQ<|sQ<|rG<|mV r r<|mV r r<|lS r r<|bN (v:=.bool (decide (i6 < (s1.length : Int)))) r r r r r<|nI<|xS<|cD (c:=(decide (i6 < (s1.length : Int)))) r ?_ ?_
 ·refine sK<|xS<|sQ<|bK<|sC (E:=fun (s : (List Int) × Bool) (g : Nat)=>[(0,.sl (s1.map LS)),(1,.int .i64 n2),(5,.osl 5 g 0 s.1.length),(6,.bool s.2),(7,.int .i64 i6)]) (O:=fun s g=>[(5,some (g,⟨false,false,1,3,s.1.map LS⟩))]) (j:=fun s=>OX s1 i6 s.1 s.2) ?_ ?_
  ·refine sC (E:=fun (s : Bool) (g : Nat)=>[(0,.sl (s1.map LS)),(1,.int .i64 n2),(5,.osl 5 g 0 out4.length),(6,.bool done5),(7,.int .i64 i6),(26,.bool s)]) (O:=fun s g=>[(5,some (g,⟨false,false,1,3,out4.map LS⟩))]) (j:=fun s=>PJ s1 i6 n2 out4 done5 s) ?_ ?_
   ·refine rG<|mV r r<|uN (w:=.bool (!done5)) r r r r trivial<|mV r r<|sP 19 (b:=(!done5)) r ?_ ?_
    ·exact mV r r<|mV r r<|bD fun x_x10 hx_x10=>iS (en:=LS) r r r hx_x10 r<|lF (v:=.int .i64 x_x10) r r r r<|mV r r<|bN (v:=.bool (decide (x_x10 ≥ n2))) r r r r r<|pT r r r r<|nI<|xC (s:=(decide (x_x10 ≥ n2))) _ ((hE ⟨rfl,r,r,r,r,r,trivial⟩ ⟨rfl,trivial⟩))
    ·exact oF r<|oF r<|oF r<|oF r<|oF r<|oF r<|pF r r r r<|nI<|xC (s:=false) _ ((hE ⟨rfl,r,r,r,r,r,trivial⟩ ⟨rfl,trivial⟩))
   ·rintro x9 v5x2 nn
    try dsimp only
    unfold PJ
    refine cD (c:=x9) r ?_ ?_
    ·refine sQ<|sQ<|rG<|mV r r<|mV r r<|bD fun x_x11 hx_x11=>iS (en:=LS) r r r hx_x11 r<|lF (v:=.int .i64 x_x11) r r r r<|mV r r<|bN (v:=.bool (decide (x_x11 > n2))) r r r r r<|nI<|xS<|cD (c:=(decide (x_x11 > n2))) r ?_ ?_
     ·exact rG<|mV r r<|mV r r<|bS ([n2] : List Int) LS r r r (by simp) r r r<|cK fun hq=>aP (out4) (([n2] : List Int)) LS r r r r r r r (by simp) (Mu _ _ r) r r (by simp) (Md _ _ r) (fun _=>r) r hq<|aO (l:=out4 ++ ([n2] : List Int)) (en:=LS) r r r r<|nI<|xS<|rG<|aS r r<|nI<|xC (s:=(out4 ++ ([n2] : List Int),true)) _ ((hE ⟨rfl,r,r,r,r,trivial⟩ ⟨rfl,trivial⟩))
     ·exact sK<|xS<|rG<|aS r r<|nI<|xC (s:=(out4,true)) _ ((hE ⟨rfl,r,r,r,r,trivial⟩ ⟨rfl,trivial⟩))
    ·exact sK<|xC (s:=(out4,done5)) _ ((hE ⟨rfl,r,r,r,r,trivial⟩ ⟨rfl,trivial⟩))
  ·rintro ⟨out7,done8⟩ v5x3 nn
   try dsimp only
   unfold OX
   exact rG<|mV r r<|mV r r<|mV r r<|bD fun x_x12 hx_x12=>iS (en:=LS) r r r hx_x12 r<|lF (v:=.int .i64 x_x12) r r r r<|bS ([x_x12] : List Int) LS r r r (by simp) r r r<|cK fun hq=>aP (out7) (([x_x12] : List Int)) LS r r r r r r r (by simp) (Mu _ _ r) r r (by simp) (Md _ _ r) (fun _=>r) r hq<|aO (l:=out7 ++ ([x_x12] : List Int)) (en:=LS) r r r r<|nI<|bM<|xS<|rG<|mV r r<|bN (v:=.int .i64 (IntKind.i64.wrap (i6 + 1))) r r r r r<|aS r r<|nI<|xL (s:=(out7 ++ ([x_x12] : List Int),done8,IntKind.i64.wrap (i6 + 1))) _ ((hE ⟨rfl,r,r,r,r,trivial⟩ ⟨rfl,trivial⟩))
 ·refine eT<|xE<|lE<|bH<|xS<|sQ<|sQ<|rG<|mV r r<|uN (w:=.bool (!done5)) r r r r trivial<|nI<|xS<|cD (c:=(!done5)) r ?_ ?_
  ·refine rG<|mV r r<|mV r r<|bS ([n2] : List Int) LS r r r (by simp) r r r<|cK fun hq=>aP (out4) (([n2] : List Int)) LS r r r r r r r (by simp) (Mu _ _ r) r r (by simp) (Md _ _ r) (fun _=>r) r hq<|aO (l:=out4 ++ ([n2] : List Int)) (en:=LS) r r r r<|nI<|xS<|sQ<|rG<|mV r r<|aO (l:=out4 ++ ([n2] : List Int)) (en:=LS) r r r r<|nI<|xS<|rT<|MC (b:=out4 ++ ([n2] : List Int)) r ?_ r r ?_ r ?_ (congrArg D.sl (Md _ _ r)) r
   all_goals first|(simp;done)|(simp;omega)|rfl|(simp [Me,Mc];done)
  ·refine sK<|xS<|sQ<|rG<|mV r r<|aO (l:=out4) (en:=LS) r r r r<|nI<|xS<|rT<|MC (b:=out4) r ?_ r r ?_ r ?_ (congrArg D.sl (Md _ _ r)) r
   all_goals first|(simp;done)|(simp;omega)|rfl|(simp [Me,Mc];done)

def Ahn : Mm:=(.seq (.reg [⟨(some 4),(.asg (.c .nils) (some ⟨1,3⟩)),none,[]⟩] false) (.seq (.reg [M 7 0,P 8 (.app 1 3 8 (.c .nils) (T 7)),⟨(some 5),(.asg (T 8) (some ⟨1,3⟩)),none,[]⟩] false) (.seq (.seq (.reg [P 6 (.asg (C 0) none)] false) (.block 0 (.loop (.seq (.seq (.reg [M 9 6,M 10 1,P 11 (.len false (T 10)),P 12 (.bin .lss (T 9) (T 11))] false) (.cond (T 12) .skip (.exit 0))) (.seq (.block 1 (.reg [M 15 5,M 16 1,M 17 6,P 18 (.ixA 1 (T 16) (T 17)),P 19 (.ld 1 false (T 18)),P 20 (.call (.c (.clo 16 [])) [(T 15),(T 19)]),⟨(some 5),(.asg (T 20) (some ⟨1,3⟩)),none,[]⟩] false)) (.reg [M 13 6,P 14 (.bin .add (T 13) (C 1)),P 6 (.asg (T 14) none)] false)))))) (.seq (.reg [M 21 5,⟨(some 4),(.asg (T 21) (some ⟨1,3⟩)),none,[]⟩] false) .ret))))
theorem Akj : (Tryz.f42.body.bind (Mo Tryz.prog Tryz.f42.ntmps)) = some Ahn:=by kernel_rfl
theorem Akk : Tryz.f42.results.toList.mapM (My Tryz.prog) = some [(.t 4)]:=by kernel_rfl
def OZ (a : (List Int) × (List Int)) : List D:=[.sl (a.1.map LS),.sl (a.2.map LS)]
def Wx (ds : List D) : (List Int) × (List Int):=((uL uI) (ds.getD 0 .top),(uL uI) (ds.getD 1 .top))
theorem Sa (a : (List Int) × (List Int)) : Wx (OZ a) = a:=by simp [Wx,OZ,Nt (u:=uI) (en:=LS) (fun _=>rfl)]
def AbL (b : (List Int)) : D:=.sl (b.map LS)
def AbK (_b : (List Int)) : List D:=[]
noncomputable def Qc : Dw.Spec:=Ml [] (.row 1 3) OZ Wx (fun a=>PE a.1 a.2) AbL AbK
set_option maxHeartbeats 4000000 in
theorem Xs : Mk Tryz.prog 42 Qc:=by
 refine Mv (Mp (l:=[(16,Rz)]) (by simp [ZG])) Tryz.func42 (by decide) Akj Akk (np:=2) (by decide) Sa (fun _=>r) (fun _=>r) (by decide)<|?_
 rintro ⟨a1,b2⟩
 show TrE (specs [(16,Rz)]) Ahn (Mz [] (.row 1 3) [(.t 4)] AbL AbK) ⟨[(0,.sl (a1.map LS)),(1,.sl (b2.map LS))],[],262144⟩ (PE a1 b2)
 refine Mq<|?_
 unfold Ahn PE
 refine sQ<|rG<|aN (α:=Int) r LS r<|nI<|xS<|sQ<|rG<|mV r r<|cK fun hq=>aP (([] : List Int)) (a1) LS r r r r r r r (by simp) r r r (by simp) r (fun _=>r) r hq<|aO (l:=([] : List Int) ++ a1) (en:=LS) r r r r<|nI<|xS<|sQ<|sQ<|rG<|aS r r<|nI<|xS<|bK<|lP (E:=fun (s : (List Int) × Int) (g : Nat)=>[(1,.sl (b2.map LS)),(5,.osl 5 g 0 s.1.length),(6,.int .i64 s.2)]) (O:=fun s g=>[(5,some (g,⟨false,false,1,3,s.1.map LS⟩))]) (body:=fun s=>Qw b2 s.1 s.2) (s:=(([] : List Int) ++ a1,0)) _ ((hE ⟨rfl,r,r,trivial⟩ ⟨rfl,trivial⟩))<|?_
 rintro ⟨out3,i4⟩ v5x1 nn
 try dsimp only
 unfold Qw
 refine sQ<|sQ<|rG<|mV r r<|mV r r<|lS r r<|bN (v:=.bool (decide (i4 < (b2.length : Int)))) r r r r r<|nI<|xS<|cD (c:=(decide (i4 < (b2.length : Int)))) r ?_ ?_
 ·exact sK<|xS<|sQ<|bK<|rG<|mV r r<|mV r r<|mV r r<|bD fun x_x5 hx_x5=>iS (en:=LS) r r r hx_x5 r<|lF (v:=.int .i64 x_x5) r r r r<|bD fun r6 hr6=>cR (l:=r6) (en:=LS) (out3,x_x5) r r r Ud r r (by simp) (by first | rfl | (simp only [Mw,MB]; rfl) | simp [Vo]) hr6 r<|aO (l:=r6) (en:=LS) r r r r<|nI<|bM<|xS<|rG<|mV r r<|bN (v:=.int .i64 (IntKind.i64.wrap (i4 + 1))) r r r r r<|aS r r<|nI<|xL (s:=(r6,IntKind.i64.wrap (i4 + 1))) _ ((hE ⟨rfl,r,r,trivial⟩ ⟨rfl,trivial⟩))
 ·refine eT<|xE<|lE<|bH<|xS<|sQ<|rG<|mV r r<|aO (l:=out3) (en:=LS) r r r r<|nI<|xS<|rT<|MC (b:=out3) r ?_ r r ?_ r ?_ (congrArg D.sl (Md _ _ r)) r
  all_goals first|(simp;done)|(simp;omega)|rfl|(simp [Me,Mc];done)

end Go.Proofs.YtfpgidpffhmadaaGreatDoor
