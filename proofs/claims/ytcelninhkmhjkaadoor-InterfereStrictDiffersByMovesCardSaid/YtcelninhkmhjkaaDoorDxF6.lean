/-
  Programs on typed data, and the proofs that the code does what they say; written by a program (dx.py).
-/
import Derived.Test.YtcelninhkmhjkaaDoorProg
import Derived.Test.YtcelninhkmhjkaaDoorDc
import Derived.KernelRfl
import Derived.Test.YtcelninhkmhjkaaDoorDxP
import Derived.Test.YtcelninhkmhjkaaDoorDxF1
import Derived.Test.YtcelninhkmhjkaaDoorDxF3
import Derived.Test.YtcelninhkmhjkaaDoorDxF4
import Derived.Test.YtcelninhkmhjkaaDoorDxF5
namespace Go.Proofs.YtcelninhkmhjkaaDoor
open Go Go.Dw Go.Proofs
set_option maxRecDepth 100000
open Go.Dw renaming Yl → mV,WB → bN,QO → lO,Vg → bD,WE → cK,WH → nI,WK → xS,Yn → rG,Yp → sQ,Rg → aO,WA → aS,WI → oF,WC → bL,Qo → cV,Om → cG,Qn → cR,QP → sV,SB → iS,Tf → iO,SC → lS,Tg → lW,Vh → fA,ZC → eX,TB → lF,TQ → sP,Po → pT,OL → pF,Ym → uN,WG → nW,WD → bX,Rf → aN,YB → aL,JG → mS,JE → eA_,WL → cD,Vj → bK,Yo → rT,WO → sK,WM → eT,WJ → xC,Vi → xL,Ri → xR,Zw → yR,Vl → zR,Sq → lR,TK → hE,Pp → lE,Qq → bH,OM → bM,Rh → bR,Qr → xE,WN → lP,SD → sC,Vk → bC,rf → r
def ND (a : JO × JV) : List D:=[Kv a.1,Lt a.2,.clo 84 []]
def NC (ds : List D) : JO × JV:=(MP (ds.getD 0 .top),PE (ds.getD 1 .top))
theorem Qu (a : JO × JV) : NC (ND a) = a:=by simp [NC,ND]
def Ot (b : (List (List Int)) × Int) : D:=.tup [.sl (b.1.map (eL JK)),.int .i64 b.2]
def QU (_b : (List (List Int)) × Int) : List D:=[]
noncomputable def MB : Dw.Spec:=Ka [] .val ND NC (fun a=>LV a.1 a.2) Ot QU
noncomputable def Nl : Dw.Spec:=Jg (specs []) 1 [(.t 2)] Aaj
theorem Uj : JX Tryd.prog 106 Nl:=Jz (KM) Tryd.func106 (by decide) AbX AbY (by decide)
set_option maxHeartbeats 4000000 in
theorem Vz : JX Tryd.prog 81 MB:=by
 refine Kl (Kg (l:=[(22,Oz),(106,Nl),(100,MD),(84,QG),(107,Mj)]) (by simp [VA,Uj,SS,Yd,Sf])) Tryd.func81 (by decide) AcM AcN (np:=3) (by decide) Qu (fun _=>r) (fun _=>r) (by decide)<|?_
 rintro ⟨f1,l2⟩
 show TrE (specs [(22,Oz),(106,Nl),(100,MD),(84,QG),(107,Mj)]) Abp (Kr [] .val [(.t 6),(.t 7)] Ot QU) ⟨[(0,.agg [.int .i64 f1.Params,.sl (f1.Slots.map JP),.sl (f1.Code.map JN)]),(1,.agg [.sl (l2.Out.map (eL JK))]),(2,.clo 84 [])],[],262144⟩ (LV f1 l2)
 refine Kd<|?_
 unfold Abp LV
 refine sQ<|rG<|bX r r r r r<|bX r r r r r<|aN (α:=(List Int)) r (eL JK) r<|aS r r<|nI<|xS<|sQ<|sQ<|rG<|lO (v:=.agg [.int .i64 f1.Params,.sl (f1.Slots.map JP),.sl (f1.Code.map JN)]) (z:=.agg [.int .i64 f1.Params,.sl (f1.Slots.map JP),.sl (f1.Code.map JN)]) r r r r r r<|lO (v:=.agg [.sl (l2.Out.map (eL JK))]) (z:=.agg [.sl (l2.Out.map (eL JK))]) r r r r r r<|bD fun r3 hr3=>cG (f1,l2) r r r Sg r r (by simp) r hr3 r<|aS r r<|nI<|xS<|sQ<|rG<|mV r r<|bN (v:=.bool (r3 != 0)) r r r r r<|nI<|xS<|cD (c:=(r3 != 0)) r ?_ ?_
 ·refine sQ<|rG<|mV r r<|aN (α:=(List Int)) r (eL JK) r<|aS r r<|nI<|xS<|rT<|xR<|NO (b:=(([] : List (List Int)),r3)) r ?_ r r ?_ (by first | rfl | (simp only [Kh,Km]; rfl) | simp [Ot]) (by decide)
  all_goals first|(simp;done)|(simp;omega)|rfl|(simp [JU,JQ];done)
 ·refine sK<|xS<|sQ<|rG<|fA r r<|lO (v:=.sl (f1.Slots.map JP)) (z:=.agg [.int .i64 f1.Params,.sl (f1.Slots.map JP),.sl (f1.Code.map JN)]) r r r r r r<|lS r r<|JF (E:=fun (g : Nat × Nat)=>[(2,.clo 84 []),(3,.optr 1003 g.1 0 0),(4,.optr 1004 g.2 0 0),(24,.int .i64 (f1.Slots.length : Int))]) (O:=fun g=>[(1003,some (g.1,⟨false,true,3,27,[.agg [.int .i64 f1.Params,.sl (f1.Slots.map JP),.sl (f1.Code.map JN)]]⟩)),(1004,some (g.2,⟨false,true,1,30,[.agg [.sl (l2.Out.map (eL JK))]]⟩))]) (_,_) ((Jx (fun g=>bif Nat.ble 4096 g then g + 20000 else g + 1000) (by rfl) (hE ⟨rfl,r,r,r,trivial⟩ ⟨rfl,r,trivial⟩)))<|?_
  rintro ⟨v1003x1,v1004x1⟩ nn
  try dsimp only
  refine JD (ES:=fun (s : (List (List Bool))) (g : Nat × Nat × Nat)=>[(2,.clo 84 []),(3,.optr 3 g.1 0 0),(4,.optr 4 g.2.1 0 0),(25,.osl 4697 g.2.2 0 s.length)]) (OS:=fun s g=>[(3,some (g.1,⟨false,true,3,27,[.agg [.int .i64 f1.Params,.sl (f1.Slots.map JP),.sl (f1.Code.map JN)]]⟩)),(4,some (g.2.1,⟨false,true,1,30,[.agg [.sl (l2.Out.map (eL JK))]]⟩)),(4697,some (g.2.2,⟨false,false,1,81,s.map (eR 1 4 D.bool)⟩))]) (j:=fun s=>Lw f1 l2 s) (ds:=[.int .i64 (f1.Slots.length : Int)]) (caps:=[]) (E:=[(0,.int .i64 (f1.Slots.length : Int))]) r r r r r r r r ?_ ?_
  ·unfold Aaj
   refine sQ<|rG<|aN (α:=(List Bool)) r (eL D.bool) r<|nI<|xS<|sQ<|rG<|mV r r<|cK fun hq=>Th (α:=Bool) r r r hq r<|aO (l:=List.replicate (f1.Slots.length : Int).toNat ([] : (List Bool))) (en:=(fun _=>D.nils)) r r r r<|nI<|Lu (E:=[(0,.int .i64 (f1.Slots.length : Int)),(3,.osl 4099 _ 0 ((List.replicate (f1.Slots.length : Int).toNat ([] : (List Bool))).length))]) (O:=[(1003,some (v1003x1,⟨false,true,3,27,[.agg [.int .i64 f1.Params,.sl (f1.Slots.map JP),.sl (f1.Code.map JN)]]⟩)),(1004,some (v1004x1,⟨false,true,1,30,[.agg [.sl (l2.Out.map (eL JK))]]⟩)),(4099,some (_,⟨false,false,1,81,(List.replicate (f1.Slots.length : Int).toNat ([] : (List Bool))).map (eR 1 4 D.bool)⟩))]) ((Jo (g:=3) (g2:=4099) r r r (Jv (l:=List.replicate (f1.Slots.length : Int).toNat ([] : (List Bool))) (s':=1) (ty':=4) D.bool (by decide) (fun _ h=>List.eq_of_mem_replicate h)) (hE ⟨rfl,r,trivial⟩ ⟨rfl,r,r,trivial⟩))) fun nn=>sQ<|sQ<|rG<|mV r r<|lW r r<|mV r r<|nI<|xS<|bK<|lP (E:=fun (s : (List (List Bool)) × Int) (g : Nat)=>[(0,.int .i64 (f1.Slots.length : Int)),(3,.osl 4099 g 0 s.1.length),(8,.int .i64 ((List.replicate (f1.Slots.length : Int).toNat ([] : (List Bool))).length : Int)),(9,.int .i64 s.2)]) (O:=fun s g=>[(1003,some (v1003x1,⟨false,true,3,27,[.agg [.int .i64 f1.Params,.sl (f1.Slots.map JP),.sl (f1.Code.map JN)]]⟩)),(1004,some (v1004x1,⟨false,true,1,30,[.agg [.sl (l2.Out.map (eL JK))]]⟩)),(4099,some (g,⟨false,false,1,81,s.1.map (eR 1 4 D.bool)⟩))]) (body:=fun s=>Mm f1 l2 s.1 s.2) (s:=(List.replicate (f1.Slots.length : Int).toNat ([] : (List Bool)),0)) _ ((hE ⟨rfl,r,r,r,trivial⟩ ⟨rfl,r,r,trivial⟩))<|?_
   rintro ⟨m5,x6⟩ v4099x2 nn
   try dsimp only
   unfold Mm
   refine sQ<|rG<|bN (v:=.bool (decide (x6 < ((List.replicate (f1.Slots.length : Int).toNat ([] : (List Bool))).length : Int)))) r r r r r<|nI<|xS<|sQ<|cD (c:=(decide (x6 < ((List.replicate (f1.Slots.length : Int).toNat ([] : (List Bool))).length : Int)))) r ?_ ?_
   ·exact sK<|xS<|sQ<|bK<|sQ<|rG<|mV rfl rfl<|aS rfl rfl<|nI<|xS<|rG<|mV rfl rfl<|mV rfl rfl<|mV rfl rfl<|cK fun hq=>mS (q:=false) D.bool rfl rfl rfl rfl hq rfl<|cK fun hq=>iO (l:=m5) (en:=(eR 1 4 D.bool)) rfl rfl rfl rfl rfl hq<|bD fun o7 ho7=>Jm (l:=m5) (q:=o7) (q':=List.replicate (f1.Slots.length : Int).toNat false) D.bool rfl rfl rfl rfl (.inl rfl) ho7 rfl rfl ⟨⟨rfl,rfl,by simp,Js fun _=>rfl⟩,trivial,rfl⟩ (congrArg (fun z=>[D.row _ _ z]) (JS _ _ rfl)) rfl<|nI<|bM<|xS<|rG<|bN (v:=.int .i64 (IntKind.i64.wrap (x6 + 1))) rfl rfl rfl rfl rfl<|mV rfl rfl<|nI<|xL (s:=(m5.set x6.toNat (List.replicate (f1.Slots.length : Int).toNat false),IntKind.i64.wrap (x6 + 1))) _ ((hE ⟨rfl,(Ss (q:=m5.length) rfl (by simp)),r,r,trivial⟩ ⟨rfl,r,r,trivial⟩))
   ·exact eT<|xE<|lE<|bH<|xS<|sQ<|rG<|mV r r<|Ji r r r<|nI<|xS<|rT<|JA (d:=.osl 4099 _ 0 m5.length) (s:=m5) (_,_,_) r (by first | rfl | (simp [Jf,Jc,rdA,raw,strip,Jd,S.ge,S.go,look,Jj,cells,Je]; done)) r ((Jy (E1:=[(2,.clo 84 []),(3,.optr 1003 v1003x1 0 0),(4,.optr 1004 v1004x1 0 0),(25,.osl 4099 _ 0 m5.length)]) (O1:=[(1003,some (v1003x1,⟨false,true,3,27,[.agg [.int .i64 f1.Params,.sl (f1.Slots.map JP),.sl (f1.Code.map JN)]]⟩)),(1004,some (v1004x1,⟨false,true,1,30,[.agg [.sl (l2.Out.map (eL JK))]]⟩)),(4099,some (_,⟨false,false,1,81,m5.map (eR 1 4 D.bool)⟩))]) (hE ⟨rfl,r,r,r,trivial⟩ ⟨rfl,r,r,trivial⟩) (fun _=>Jx (fun g=>bif Nat.ble 24096 g then g - 20000 else bif (Nat.ble 1000 g && Nat.blt g 4096) then g - 1000 else bif Nat.beq g 4099 then 4697 else g) (by rfl) (hE ⟨rfl,r,r,r,trivial⟩ ⟨rfl,r,r,trivial⟩))))
  ·rintro x4 ⟨v3x3,v4x3,v4697x3⟩ nn
   try dsimp only
   unfold Lw
   refine Ji r r r<|nI<|xS<|sQ<|sQ<|rG<|fA r r<|lO (v:=.sl (f1.Code.map JN)) (z:=.agg [.int .i64 f1.Params,.sl (f1.Slots.map JP),.sl (f1.Code.map JN)]) r r r r r r<|lS r r<|mV r r<|nI<|xS<|bK<|lP (E:=fun (s : (List (List Bool)) × Int) (g : Nat × Nat)=>[(2,.clo 84 []),(4,.optr 4 g.1 0 0),(9,.osl 4697 g.2 0 s.1.length),(27,.sl (f1.Code.map JN)),(28,.int .i64 (f1.Code.length : Int)),(29,.int .i64 s.2)]) (O:=fun s g=>[(4,some (g.1,⟨false,true,1,30,[.agg [.sl (l2.Out.map (eL JK))]]⟩)),(4697,some (g.2,⟨false,false,1,81,s.1.map (eR 1 4 D.bool)⟩))]) (body:=fun s=>Mn f1 l2 s.1 s.2) (s:=(x4,0)) (_,_) ((hE ⟨rfl,r,r,r,r,r,trivial⟩ ⟨rfl,r,trivial⟩))<|?_
   rintro ⟨x8,x9⟩ ⟨v4x4,v4697x4⟩ nn
   try dsimp only
   unfold Mn
   refine sQ<|rG<|bN (v:=.bool (decide (x9 < (f1.Code.length : Int)))) r r r r r<|nI<|xS<|sQ<|cD (c:=(decide (x9 < (f1.Code.length : Int)))) r ?_ ?_
   ·refine sK<|xS<|sQ<|bK<|sQ<|rG<|mV r r<|bD fun x_x10 hx_x10=>iS (en:=JN) r r r hx_x10 r<|lF (v:=.agg [.int .i64 x_x10.Op,.int .i64 x_x10.A,.int .i64 x_x10.B,.int .i64 x_x10.C,.int .u64 x_x10.Imm]) r r r r<|nW r<|aS r r<|sV (z':=.agg [.int .i64 x_x10.Op,.int .i64 x_x10.A,.int .i64 x_x10.B,.int .i64 x_x10.C,.int .u64 x_x10.Imm]) r r r r r r r r r<|nI<|xS<|sQ<|rG<|lO (v:=.agg [.int .i64 x_x10.Op,.int .i64 x_x10.A,.int .i64 x_x10.B,.int .i64 x_x10.C,.int .u64 x_x10.Imm]) (z:=.agg [.int .i64 x_x10.Op,.int .i64 x_x10.A,.int .i64 x_x10.B,.int .i64 x_x10.C,.int .u64 x_x10.Imm]) r r r r r r<|bD fun r11 hr11=>cG x_x10 r r r PW r r (by simp) r hr11 r<|mV r r<|eX (v:=.int .i64 r11.1) r r r<|eX (v:=.bool r11.2) r r r<|aS r r<|aS r r<|nI<|xS<|sC (E:=fun (s : Bool × Bool) (g : Nat × Nat × Nat)=>[(2,.clo 84 []),(4,.optr 4 g.1 0 0),(9,.osl 4697 g.2.2 0 x8.length),(10,.int .i64 x9),(11,.optr 11 g.2.1 0 0),(12,.int .i64 r11.1),(27,.sl (f1.Code.map JN)),(28,.int .i64 (f1.Code.length : Int)),(29,.int .i64 x9),(42,.optr 11 g.2.1 0 0),(43,.int .i64 x_x10.Op),(44,.bool (x_x10.Op == 17)),(45,.bool s.1),(51,.bool s.2)]) (O:=fun s g=>[(4,some (g.1,⟨false,true,1,30,[.agg [.sl (l2.Out.map (eL JK))]]⟩)),(11,some (g.2.1,⟨false,true,5,66,[.agg [.int .i64 x_x10.Op,.int .i64 x_x10.A,.int .i64 x_x10.B,.int .i64 x_x10.C,.int .u64 x_x10.Imm]]⟩)),(4697,some (g.2.2,⟨false,false,1,81,x8.map (eR 1 4 D.bool)⟩))]) (j:=fun s=>Lf l2 x9 r11 x_x10 x8 s.1 s.2) ?_ ?_
    ·refine sQ<|rG<|mV r r<|uN (w:=.bool (!r11.2)) r r r r trivial<|mV r r<|sP 41 (b:=(!r11.2)) r ?_ ?_
     ·exact oF r<|oF r<|oF r<|oF r<|oF r<|oF r<|oF r<|oF r<|oF r<|oF r<|pT r r r r<|nI<|xS<|LY r<|eT<|NY<|bH<|xS<|rG<|bN (v:=.int .i64 (IntKind.i64.wrap (x9 + 1))) r r r r r<|mV r r<|nI<|xL (s:=(x8,IntKind.i64.wrap (x9 + 1))) (_,_) ((hE ⟨rfl,r,r,r,r,r,trivial⟩ ⟨rfl,r,trivial⟩))
     ·refine fA r r<|lO (v:=.int .i64 x_x10.Op) (z:=.agg [.int .i64 x_x10.Op,.int .i64 x_x10.A,.int .i64 x_x10.B,.int .i64 x_x10.C,.int .u64 x_x10.Imm]) r r r r r r<|bN (v:=.bool (x_x10.Op == 17)) r r r r r<|mV r r<|sP 45 (b:=(x_x10.Op == 17)) r ?_ ?_
      ·refine fA r r<|lO (v:=.int .i64 x_x10.A) (z:=.agg [.int .i64 x_x10.Op,.int .i64 x_x10.A,.int .i64 x_x10.B,.int .i64 x_x10.C,.int .u64 x_x10.Imm]) r r r r r r<|fA r r<|lO (v:=.int .i64 x_x10.B) (z:=.agg [.int .i64 x_x10.Op,.int .i64 x_x10.A,.int .i64 x_x10.B,.int .i64 x_x10.C,.int .u64 x_x10.Imm]) r r r r r r<|bN (v:=.bool (x_x10.A == x_x10.B)) r r r r r<|pT r r r r<|pF r r r r<|nI<|xS<|cD (c:=(x_x10.A == x_x10.B)) r ?_ ?_
       ·exact eT<|NY<|bH<|xS<|rG<|bN (v:=.int .i64 (IntKind.i64.wrap (x9 + 1))) r r r r r<|mV r r<|nI<|xL (s:=(x8,IntKind.i64.wrap (x9 + 1))) (_,_) ((hE ⟨rfl,r,r,r,r,r,trivial⟩ ⟨rfl,r,trivial⟩))
       ·exact sK<|xC (s:=(true,(x_x10.A == x_x10.B))) (_,_,_) ((hE ⟨rfl,r,r,r,r,r,r,r,r,r,r,r,r,r,trivial⟩ ⟨rfl,r,r,trivial⟩))
      ·exact oF r<|oF r<|oF r<|oF r<|oF r<|pF r r r r<|pF r r r r<|nI<|xS<|Nj r<|sK<|xC (s:=(false,false)) (_,_,_) ((hE ⟨rfl,r,r,r,r,r,r,r,r,r,r,r,r,r,trivial⟩ ⟨rfl,r,r,trivial⟩))
    ·rintro ⟨x12,x13⟩ ⟨v4x5,v11x5,v4697x5⟩ nn
     try dsimp only
     unfold Lf
     refine sQ<|rG<|fA r r<|lO (v:=.sl (l2.Out.map (eL JK))) (z:=.agg [.sl (l2.Out.map (eL JK))]) r r r r r r<|mV r r<|bD fun x_x14 hx_x14=>iS (en:=(eL JK)) r r r hx_x14 r<|lF (v:=.sl (x_x14.map JK)) r r r r<|lS r r<|mV r r<|nI<|xS<|bK<|lP (E:=fun (s : (List (List Bool)) × Int) (g : Nat × Nat × Nat)=>[(2,.clo 84 []),(4,.optr 4 g.1 0 0),(9,.osl 4697 g.2.2 0 s.1.length),(11,.optr 11 g.2.1 0 0),(12,.int .i64 r11.1),(27,.sl (f1.Code.map JN)),(28,.int .i64 (f1.Code.length : Int)),(29,.int .i64 x9),(42,.optr 11 g.2.1 0 0),(43,.int .i64 x_x10.Op),(44,.bool (x_x10.Op == 17)),(45,.bool x12),(51,.bool x13),(57,.sl (x_x14.map JK)),(58,.int .i64 (x_x14.length : Int)),(59,.int .i64 s.2)]) (O:=fun s g=>[(4,some (g.1,⟨false,true,1,30,[.agg [.sl (l2.Out.map (eL JK))]]⟩)),(11,some (g.2.1,⟨false,true,5,66,[.agg [.int .i64 x_x10.Op,.int .i64 x_x10.A,.int .i64 x_x10.B,.int .i64 x_x10.C,.int .u64 x_x10.Imm]]⟩)),(4697,some (g.2.2,⟨false,false,1,81,s.1.map (eR 1 4 D.bool)⟩))]) (body:=fun s=>Mo x_x14 r11 x_x10 x9 s.1 s.2) (s:=(x8,0)) (_,_,_) ((hE ⟨rfl,r,r,r,r,r,r,r,r,r,r,r,r,r,r,r,trivial⟩ ⟨rfl,r,r,trivial⟩))<|?_
     rintro ⟨x15,x16⟩ ⟨v4x6,v11x6,v4697x6⟩ nn
     try dsimp only
     unfold Mo
     refine sQ<|rG<|bN (v:=.bool (decide (x16 < (x_x14.length : Int)))) r r r r r<|nI<|xS<|sQ<|cD (c:=(decide (x16 < (x_x14.length : Int)))) r ?_ ?_
     ·refine sK<|xS<|sQ<|bK<|sQ<|rG<|bD fun x_x17 hx_x17=>iS (en:=JK) r r r hx_x17 r<|lF (v:=.int .i64 x_x17) r r r r<|aS r r<|nI<|xS<|sC (E:=fun (s : Bool) (g : Nat × Nat × Nat)=>[(2,.clo 84 []),(4,.optr 4 g.1 0 0),(9,.osl 4697 g.2.2 0 x15.length),(11,.optr 11 g.2.1 0 0),(12,.int .i64 r11.1),(15,.int .i64 x_x17),(27,.sl (f1.Code.map JN)),(28,.int .i64 (f1.Code.length : Int)),(29,.int .i64 x9),(42,.optr 11 g.2.1 0 0),(43,.int .i64 x_x10.Op),(44,.bool (x_x10.Op == 17)),(45,.bool x12),(51,.bool x13),(57,.sl (x_x14.map JK)),(58,.int .i64 (x_x14.length : Int)),(59,.int .i64 x16),(72,.bool s)]) (O:=fun s g=>[(4,some (g.1,⟨false,true,1,30,[.agg [.sl (l2.Out.map (eL JK))]]⟩)),(11,some (g.2.1,⟨false,true,5,66,[.agg [.int .i64 x_x10.Op,.int .i64 x_x10.A,.int .i64 x_x10.B,.int .i64 x_x10.C,.int .u64 x_x10.Imm]]⟩)),(4697,some (g.2.2,⟨false,false,1,81,x15.map (eR 1 4 D.bool)⟩))]) (j:=fun s=>Kz x15 r11 x_x17 x16 s) ?_ ?_
      ·refine rG<|mV r r<|mV r r<|bN (v:=.bool (x_x17 != r11.1)) r r r r r<|mV r r<|sP 66 (b:=(x_x17 != r11.1)) r ?_ ?_
       ·exact mV r r<|lO (v:=.agg [.int .i64 x_x10.Op,.int .i64 x_x10.A,.int .i64 x_x10.B,.int .i64 x_x10.C,.int .u64 x_x10.Imm]) (z:=.agg [.int .i64 x_x10.Op,.int .i64 x_x10.A,.int .i64 x_x10.B,.int .i64 x_x10.C,.int .u64 x_x10.Imm]) r r r r r r<|mV r r<|bD fun r19 hr19=>cG (x_x10,x_x17) r r r TM r r (by simp) r hr19 r<|uN (w:=.bool (!r19)) r r r r trivial<|pT r r r r<|nI<|xC (s:=(!r19)) (_,_,_) ((hE ⟨rfl,r,r,r,r,r,r,r,r,r,r,r,r,r,r,r,r,r,trivial⟩ ⟨rfl,r,r,trivial⟩))
       ·exact oF r<|oF r<|oF r<|oF r<|oF r<|pF r r r r<|nI<|xC (s:=false) (_,_,_) ((hE ⟨rfl,r,r,r,r,r,r,r,r,r,r,r,r,r,r,r,r,r,trivial⟩ ⟨rfl,r,r,trivial⟩))
      ·rintro x18 ⟨v4x7,v11x7,v4697x7⟩ nn
       try dsimp only
       unfold Kz
       refine cD (c:=x18) r ?_ ?_
       ·exact JH fun row20 hrow20=>JH fun row21 hrow21=>JI fun hnrow20=>Jp (E:=[(2,.clo 84 []),(4,.optr 4 _ 0 0),(9,.osl 4697 _ 0 x15.length),(11,.optr 11 _ 0 0),(12,.int .i64 r11.1),(15,.int .i64 x_x17),(27,.sl (f1.Code.map JN)),(28,.int .i64 (f1.Code.length : Int)),(29,.int .i64 x9),(42,.optr 11 _ 0 0),(43,.int .i64 x_x10.Op),(44,.bool (x_x10.Op == 17)),(45,.bool x12),(51,.bool x13),(57,.sl (x_x14.map JK)),(58,.int .i64 (x_x14.length : Int)),(59,.int .i64 x16)]) (O:=[(4,some (_,⟨false,true,1,30,[.agg [.sl (l2.Out.map (eL JK))]]⟩)),(11,some (_,⟨false,true,5,66,[.agg [.int .i64 x_x10.Op,.int .i64 x_x10.A,.int .i64 x_x10.B,.int .i64 x_x10.C,.int .u64 x_x10.Imm]]⟩)),(4697,some (_,⟨false,false,1,81,((x15.map (eR 1 4 D.bool)).set r11.1.toNat (.hole 4718 _ row20.length)).set x_x17.toNat (.hole 4719 _ row21.length)⟩)),(4718,some (_,⟨false,false,1,4,row20.map D.bool⟩)),(4719,some (_,⟨false,false,1,4,row21.map D.bool⟩))]) (Jr (g:=4697) (i:=r11.1.toNat) (j:=x_x17.toNat) (t1:=622) (t2:=623) D.bool r hrow20 hrow21 hnrow20 (hE ⟨rfl,r,r,r,r,r,r,r,r,r,r,r,r,r,r,r,r,trivial⟩ ⟨rfl,r,r,r,r,trivial⟩)) fun nn=>mV r r<|mV r r<|cK fun hq=>Jk (by simp) r r r r (by simpa using hq)<|Jl (nm:=4718) (q:=row20.length) r r r (JB hrow20 hnrow20)<|mV r r<|mV r r<|mV r r<|cK fun hq=>Jk (by simp) r r r r (by simpa using hq)<|Jl (nm:=4719) (q:=row21.length) r r r (JC hrow21)<|mV r r<|cK fun hq=>iO (l:=row20) (en:=D.bool) r r r r r hq<|bD fun x_o22 hx_o22=>Jh (l:=row20) (en:=D.bool) (q:=x_o22) (q':=true) r r r r r hx_o22 r (fun _=>r) r r r ⟨trivial,trivial,r⟩<|cK fun hq=>iO (l:=row21) (en:=D.bool) r r r r r hq<|bD fun x_o23 hx_o23=>Jh (l:=row21) (en:=D.bool) (q:=x_o23) (q':=true) r r r r r hx_o23 r (fun _=>r) r r r ⟨trivial,trivial,r⟩<|Ki (by kernel_rfl)<|bM<|Lu (E:=[(2,.clo 84 []),(4,.optr 4 _ 0 0),(9,.osl 4697 _ 0 x15.length),(11,.optr 11 _ 0 0),(12,.int .i64 r11.1),(27,.sl (f1.Code.map JN)),(28,.int .i64 (f1.Code.length : Int)),(29,.int .i64 x9),(42,.optr 11 _ 0 0),(43,.int .i64 x_x10.Op),(44,.bool (x_x10.Op == 17)),(45,.bool x12),(51,.bool x13),(57,.sl (x_x14.map JK)),(58,.int .i64 (x_x14.length : Int)),(59,.int .i64 x16)]) (O:=[(4,some (_,⟨false,true,1,30,[.agg [.sl (l2.Out.map (eL JK))]]⟩)),(11,some (_,⟨false,true,5,66,[.agg [.int .i64 x_x10.Op,.int .i64 x_x10.A,.int .i64 x_x10.B,.int .i64 x_x10.C,.int .u64 x_x10.Imm]]⟩)),(4697,some (_,⟨false,false,1,81,((x15.set r11.1.toNat (row20.set x_x17.toNat true)).set x_x17.toNat (row21.set r11.1.toNat true)).map (eR 1 4 D.bool)⟩))]) ((Jn (g:=4697) (g1:=4718) (g2:=4719) (l:=x15) (en:=D.bool) (i:=r11.1.toNat) (j:=x_x17.toNat) (q1:=row20) (q2:=row21) (q1':=row20.set x_x17.toNat true) (q2':=row21.set r11.1.toNat true) hrow20 hrow21 hnrow20 r r r (by simp) (by simp) (fun _=>r) (hE ⟨rfl,r,(Ss (q:=x15.length) r (by simp)),r,r,r,r,r,r,r,r,r,r,r,r,r,trivial⟩ ⟨rfl,r,r,trivial⟩))) fun nn=>rG<|bN (v:=.int .i64 (IntKind.i64.wrap (x16 + 1))) r r r r r<|mV r r<|nI<|xL (s:=((x15.set r11.1.toNat (row20.set x_x17.toNat true)).set x_x17.toNat (row21.set r11.1.toNat true),IntKind.i64.wrap (x16 + 1))) (_,_,_) ((hE ⟨rfl,r,(Ss (q:=x15.length) r (by simp)),r,r,r,r,r,r,r,r,r,r,r,r,r,trivial⟩ ⟨rfl,r,r,trivial⟩))
       ·exact sK<|bM<|xS<|rG<|bN (v:=.int .i64 (IntKind.i64.wrap (x16 + 1))) r r r r r<|mV r r<|nI<|xL (s:=(x15,IntKind.i64.wrap (x16 + 1))) (_,_,_) ((hE ⟨rfl,r,r,r,r,r,r,r,r,r,r,r,r,r,r,r,trivial⟩ ⟨rfl,r,r,trivial⟩))
     ·exact eT<|xE<|lE<|bH<|bM<|xS<|rG<|bN (v:=.int .i64 (IntKind.i64.wrap (x9 + 1))) r r r r r<|mV r r<|nI<|xL (s:=(x15,IntKind.i64.wrap (x9 + 1))) (_,_) ((hE ⟨rfl,r,r,r,r,r,trivial⟩ ⟨rfl,r,trivial⟩))
   ·refine eT<|xE<|lE<|bH<|Lu (E:=[(9,.osl 4697 _ 0 x8.length)]) (O:=[(4697,some (_,⟨false,false,1,81,x8.map (eL D.bool)⟩))]) ((Jq (g:=4697) r (Jw (l:=x8) D.bool (fun _=>r)) (hE ⟨rfl,trivial⟩ ⟨rfl,trivial⟩))) fun nn=>sQ<|rG<|mV r r<|bD fun r24 hr24=>cV x8 r r r OP r r (by simp) (by first | rfl | (simp only [Kh,Km]; rfl) | simp [LJ]) hr24<|aL r r<|aS r r<|nI<|xS<|rT<|NO (b:=(r24,0)) r ?_ r r ?_ r (by decide)
    all_goals first|(simp;done)|(simp;omega)|rfl|(simp [JU,JQ];done)

def AdC : Kb:=(.seq (.reg [P 2 (.box (T 0) 3 27),P 3 (.box (T 1) 1 30),⟨(some 4),(.asg (.c .nils) (some ⟨1,36⟩)),none,[]⟩,P 5 (.asg (C 0) none)] false) (.seq (.reg [P 6 (.ld 3 true (T 2)),P 7 (.ld 1 true (T 3)),P 8 (.call (.c (.clo 81 [])) [(T 6),(T 7),(.c (.clo 84 []))]),P 9 (.ext (T 8) 0),P 10 (.ext (T 8) 1),⟨(some 4),(.asg (T 9) (some ⟨1,36⟩)),none,[]⟩,P 5 (.asg (T 10) none)] false) .ret))
theorem Ago : (Tryd.f49.body.bind (Kc Tryd.prog Tryd.f49.ntmps)) = some AdC:=by kernel_rfl
theorem Agp : Tryd.f49.results.toList.mapM (Kp Tryd.prog) = some [(.t 4),(.t 5)]:=by kernel_rfl
def QI (a : JO × JV) : List D:=[Kv a.1,Lt a.2]
def QH (ds : List D) : JO × JV:=(MP (ds.getD 0 .top),PE (ds.getD 1 .top))
theorem UD (a : JO × JV) : QH (QI a) = a:=by simp [QH,QI]
def Vy (b : (List (List Int)) × Int) : D:=.tup [.sl (b.1.map (eL JK)),.int .i64 b.2]
def Vx (_b : (List (List Int)) × Int) : List D:=[]
noncomputable def Se : Dw.Spec:=Ka [] .val QI QH (fun a=>NA a.1 a.2) Vy Vx
set_option maxHeartbeats 4000000 in
theorem YX : JX Tryd.prog 49 Se:=by
 refine Kl (Kg (l:=[(348241,MB)]) (by simp [Vz])) Tryd.func49 (by decide) Ago Agp (np:=2) (by decide) UD (fun _=>r) (fun _=>r) (by decide)<|?_
 rintro ⟨f1,l2⟩
 show TrE (specs [(348241,MB)]) AdC (Kr [] .val [(.t 4),(.t 5)] Vy Vx) ⟨[(0,.agg [.int .i64 f1.Params,.sl (f1.Slots.map JP),.sl (f1.Code.map JN)]),(1,.agg [.sl (l2.Out.map (eL JK))])],[],262144⟩ (NA f1 l2)
 refine Kd<|?_
 unfold AdC NA
 refine sQ<|rG<|bX rfl rfl rfl rfl rfl<|bX rfl rfl rfl rfl rfl<|aN (α:=(List Int)) rfl (eL JK) rfl<|aS rfl rfl<|nI<|xS<|sQ<|rG<|lO (v:=.agg [.int .i64 f1.Params,.sl (f1.Slots.map JP),.sl (f1.Code.map JN)]) (z:=.agg [.int .i64 f1.Params,.sl (f1.Slots.map JP),.sl (f1.Code.map JN)]) rfl rfl rfl rfl rfl rfl<|lO (v:=.agg [.sl (l2.Out.map (eL JK))]) (z:=.agg [.sl (l2.Out.map (eL JK))]) rfl rfl rfl rfl rfl rfl<|bD fun r3 hr3=>cV (f1,l2) rfl rfl (show _ = some MB from by kernel_rfl) Qu rfl rfl (by simp) r hr3<|eX (v:=.sl (r3.1.map (eL JK))) r r r<|eX (v:=.int .i64 r3.2) r r r<|aL r r<|aS r r<|nI<|xS<|rT<|NO (b:=(r3.1,r3.2)) r ?_ r r ?_ r (by decide)
 all_goals first|(simp;done)|(simp;omega)|rfl|(simp [JU,JQ];done)

def Adn : Kb:=(.seq (.reg [P 4 (.asg (.c (.bool false)) none)] false) (.seq (.seq (.reg [P 5 (.asg (C 0) none)] false) (.block 0 (.loop (.seq (.seq (.reg [M 6 5,M 7 0,P 8 (.len false (T 7)),P 9 (.bin .lss (T 6) (T 8))] false) (.cond (T 9) .skip (.exit 0))) (.seq (.block 1 (.seq (.reg [M 12 0,M 13 5,P 14 (.ixA 1 (T 12) (T 13)),P 15 (.ld 1 false (T 14)),M 16 1,P 17 (.bin .eql (T 15) (T 16))] false) (.cond (T 17) (.seq (.reg [P 4 (.asg (.c (.bool true)) none)] false) .ret) .skip))) (.reg [M 10 5,P 11 (.bin .add (T 10) (C 1)),P 5 (.asg (T 11) none)] false)))))) (.seq (.reg [P 4 (.asg (.c (.bool false)) none)] false) .ret)))
theorem AfK : (Tryd.f18.body.bind (Kc Tryd.prog Tryd.f18.ntmps)) = some Adn:=by kernel_rfl
theorem AfL : Tryd.f18.results.toList.mapM (Kp Tryd.prog) = some [(.t 4)]:=by kernel_rfl
def VR (a : (List Int) × Int) : List D:=[.sl (a.1.map JK),.int .i64 a.2]
def VQ (ds : List D) : (List Int) × Int:=((uL uI) (ds.getD 0 .top),uI (ds.getD 1 .top))
theorem Zi (a : (List Int) × Int) : VQ (VR a) = a:=by simp [VQ,VR,uI,LH (u:=uI) (en:=JK) (fun _=>rfl)]
def ZY (b : Bool) : D:=.bool b
def ZX (_b : Bool) : List D:=[]
noncomputable def XT : Dw.Spec:=Ka [] .ground VR VQ (fun a=>TP a.1 a.2) ZY ZX
set_option maxHeartbeats 4000000 in
theorem AbE : JX Tryd.prog 18 XT:=by
 refine Kl (KM) Tryd.func18 (by decide) AfK AfL (np:=2) (by decide) Zi (fun _=>r) (fun _=>r) (by decide)<|?_
 rintro ⟨s1,n2⟩
 show TrE (specs []) Adn (Kr [] .ground [(.t 4)] ZY ZX) ⟨[(0,.sl (s1.map JK)),(1,.int .i64 n2)],[],262144⟩ (TP s1 n2)
 refine Kd<|?_
 unfold Adn TP
 refine sQ<|rG<|aS r r<|nI<|xS<|sQ<|sQ<|rG<|aS r r<|nI<|xS<|bK<|lP (E:=fun (s : Int) (g : Unit)=>[(0,.sl (s1.map JK)),(1,.int .i64 n2),(5,.int .i64 s)]) (O:=fun s g=>[]) (body:=fun s=>Qj s1 n2 s) (s:=0) () ((hE ⟨rfl,r,r,trivial⟩ trivial))<|?_
 rintro i3 ⟨⟩ nn
 try dsimp only
 unfold Qj
 refine sQ<|sQ<|rG<|mV r r<|mV r r<|lS r r<|bN (v:=.bool (decide (i3 < (s1.length : Int)))) r r r r r<|nI<|xS<|cD (c:=(decide (i3 < (s1.length : Int)))) r ?_ ?_
 ·refine sK<|xS<|sQ<|bK<|sQ<|rG<|mV r r<|mV r r<|bD fun x_x4 hx_x4=>iS (en:=JK) r r r hx_x4 r<|lF (v:=.int .i64 x_x4) r r r r<|mV r r<|bN (v:=.bool (x_x4 == n2)) r r r r r<|nI<|xS<|cD (c:=(x_x4 == n2)) r ?_ ?_
  ·refine sQ<|rG<|aS r r<|nI<|xS<|rT<|bR<|xR<|lR<|bR<|xR<|JZ (b:=true) r ?_ r r ?_ r
   all_goals first|(simp;done)|(simp;omega)|rfl|(simp [JU,JQ];done)
  ·exact sK<|bM<|xS<|rG<|mV r r<|bN (v:=.int .i64 (IntKind.i64.wrap (i3 + 1))) r r r r r<|aS r r<|nI<|xL (s:=IntKind.i64.wrap (i3 + 1)) () ((hE ⟨rfl,r,r,trivial⟩ trivial))
 ·refine eT<|xE<|lE<|bH<|xS<|sQ<|rG<|aS r r<|nI<|xS<|rT<|JZ (b:=false) r ?_ r r ?_ r
  all_goals first|(simp;done)|(simp;omega)|rfl|(simp [JU,JQ];done)

def Adm : Kb:=(.seq (.reg [P 2 (.asg (.c (.bool false)) none)] false) (.seq (.seq (.reg [P 17 (.call (.c (.clo 45 [])) []),P 18 (.un .not (T 17))] false) (.cond (T 18) (.seq (.reg [P 2 (.asg (.c (.bool false)) none)] false) .ret) .skip)) (.seq (.reg [M 20 0,P 21 (.call (.c (.clo 46 [])) [(T 20)]),M 19 21,P 22 (.ext (T 19) 0),P 23 (.ext (T 19) 1),P 24 (.ext (T 19) 2),P 3 (.new (.agg [(.int .i64 0),.nils,.nils]) 3 27),P 4 (.new (.agg [.nils]) 1 30),⟨none,(.st 3 (T 3) (T 22)),none,[]⟩,⟨none,(.st 1 (T 4) (T 23)),none,[]⟩,P 5 (.asg (T 24) none)] false) (.seq (.reg [M 25 5,P 26 (.ld 3 true (T 3)),P 27 (.call (.c (.clo 26 [])) [(T 25),(T 26)]),P 6 (.new (.agg [.nils]) 1 30),⟨none,(.st 1 (T 6) (T 27)),none,[]⟩] false) (.seq (.reg [P 29 (.ld 3 true (T 3)),P 30 (.ld 1 true (T 6)),P 31 (.call (.c (.clo 47 [])) [(T 29),(T 30)]),M 28 31,P 32 (.ext (T 28) 0),P 33 (.ext (T 28) 1),⟨(some 7),(.asg (T 32) (some ⟨1,36⟩)),none,[]⟩,P 8 (.asg (T 33) none)] false) (.seq (.reg [P 35 (.ld 3 true (T 3)),P 36 (.ld 1 true (T 6)),P 37 (.call (.c (.clo 49 [])) [(T 35),(T 36)]),M 34 37,P 38 (.ext (T 34) 0),P 39 (.ext (T 34) 1),⟨(some 9),(.asg (T 38) (some ⟨1,36⟩)),none,[]⟩,P 10 (.asg (T 39) none)] false) (.seq (.seq (.reg [M 40 8,P 41 (.bin .neq (T 40) (C 0)),M 42 41,⟨(some 43),(.mv (T 10)),(some ⟨42,false⟩),[]⟩,⟨(some 44),(.bin .neq (T 43) (C 0)),(some ⟨42,false⟩),[]⟩,P 45 (.pick (T 42) (.c (.bool true)) (T 44)),M 46 45,⟨(some 47),(.mv (T 7)),(some ⟨46,false⟩),[]⟩,⟨(some 48),(.len false (T 47)),(some ⟨46,false⟩),[]⟩,⟨(some 49),(.fldA 1 (T 3)),(some ⟨46,false⟩),[]⟩,⟨(some 50),(.ld 1 false (T 49)),(some ⟨46,false⟩),[]⟩,⟨(some 51),(.len false (T 50)),(some ⟨46,false⟩),[]⟩,⟨(some 52),(.bin .neq (T 48) (T 51)),(some ⟨46,false⟩),[]⟩,P 53 (.pick (T 46) (.c (.bool true)) (T 52)),M 54 53,⟨(some 55),(.mv (T 9)),(some ⟨54,false⟩),[]⟩,⟨(some 56),(.len false (T 55)),(some ⟨54,false⟩),[]⟩,⟨(some 57),(.fldA 1 (T 3)),(some ⟨54,false⟩),[]⟩,⟨(some 58),(.ld 1 false (T 57)),(some ⟨54,false⟩),[]⟩,⟨(some 59),(.len false (T 58)),(some ⟨54,false⟩),[]⟩,⟨(some 60),(.bin .neq (T 56) (T 59)),(some ⟨54,false⟩),[]⟩,P 61 (.pick (T 54) (.c (.bool true)) (T 60))] false) (.cond (T 61) (.seq (.reg [P 2 (.asg (.c (.bool false)) none)] false) .ret) .skip)) (.seq (.reg [P 62 (.ld 3 true (T 3)),P 63 (.call (.c (.clo 51 [])) [(T 62)]),⟨(some 11),(.asg (T 63) (some ⟨2,61⟩)),none,[]⟩] false) (.seq (.seq (.reg [P 12 (.asg (C 0) none)] false) (.block 0 (.loop (.seq (.seq (.reg [M 64 12,M 65 9,P 66 (.len false (T 65)),P 67 (.bin .lss (T 64) (T 66))] false) (.cond (T 67) .skip (.exit 0))) (.seq (.block 1 (.seq (.reg [P 13 (.asg (C 0) none)] false) (.block 2 (.loop (.seq (.seq (.reg [M 70 13,M 71 9,M 72 12,P 73 (.ixA 1 (T 71) (T 72)),P 74 (.ld 1 false (T 73)),P 75 (.len false (T 74)),P 76 (.bin .lss (T 70) (T 75))] false) (.cond (T 76) .skip (.exit 2))) (.seq (.block 3 (.seq (.reg [M 79 9,M 80 12,P 81 (.ixA 1 (T 79) (T 80)),P 82 (.ld 1 false (T 81)),M 83 13,P 84 (.ixA 1 (T 82) (T 83)),P 85 (.ld 1 false (T 84)),P 14 (.asg (T 85) none)] false) (.seq (.reg [M 86 7,M 87 12,P 88 (.ixA 1 (T 86) (T 87)),P 89 (.ld 1 false (T 88)),M 90 14,P 91 (.call (.c (.clo 18 [])) [(T 89),(T 90)]),P 15 (.asg (T 91) none)] false) (.seq (.seq (.reg [P 16 (.asg (C 0) none)] false) (.block 4 (.loop (.seq (.seq (.reg [M 92 16,M 93 11,P 94 (.len false (T 93)),P 95 (.bin .lss (T 92) (T 94))] false) (.cond (T 95) .skip (.exit 4))) (.seq (.block 5 (.reg [M 98 15,M 99 98,⟨(some 100),(.mv (T 11)),(some ⟨99,false⟩),[]⟩,⟨(some 101),(.mv (T 16)),(some ⟨99,false⟩),[]⟩,⟨(some 102),(.ixA 2 (T 100) (T 101)),(some ⟨99,false⟩),[]⟩,⟨(some 103),(.ld 2 true (T 102)),(some ⟨99,false⟩),[]⟩,⟨(some 104),(.mv (T 12)),(some ⟨99,false⟩),[]⟩,⟨(some 105),(.mv (T 14)),(some ⟨99,false⟩),[]⟩,⟨(some 106),(.bld [(.int .i64 0),(.int .i64 0)] [⟨0,⟨1,(T 104)⟩⟩,⟨1,⟨1,(T 105)⟩⟩]),(some ⟨99,false⟩),[]⟩,⟨(some 107),(.eqA 2 false (T 103) (T 106)),(some ⟨99,false⟩),[]⟩,P 108 (.pick (T 99) (.c (.bool true)) (T 107)),M 109 108,⟨(some 110),(.mv (T 11)),(some ⟨109,false⟩),[]⟩,⟨(some 111),(.mv (T 16)),(some ⟨109,false⟩),[]⟩,⟨(some 112),(.ixA 2 (T 110) (T 111)),(some ⟨109,false⟩),[]⟩,⟨(some 113),(.ld 2 true (T 112)),(some ⟨109,false⟩),[]⟩,⟨(some 114),(.mv (T 14)),(some ⟨109,false⟩),[]⟩,⟨(some 115),(.mv (T 12)),(some ⟨109,false⟩),[]⟩,⟨(some 116),(.bld [(.int .i64 0),(.int .i64 0)] [⟨0,⟨1,(T 114)⟩⟩,⟨1,⟨1,(T 115)⟩⟩]),(some ⟨109,false⟩),[]⟩,⟨(some 117),(.eqA 2 false (T 113) (T 116)),(some ⟨109,false⟩),[]⟩,P 118 (.pick (T 109) (.c (.bool true)) (T 117)),P 15 (.asg (T 118) none)] false)) (.reg [M 96 16,P 97 (.bin .add (T 96) (C 1)),P 16 (.asg (T 97) none)] false)))))) (.seq (.reg [M 119 15,P 120 (.un .not (T 119))] false) (.cond (T 120) (.seq (.reg [P 2 (.asg (.c (.bool false)) none)] false) .ret) .skip)))))) (.reg [M 77 13,P 78 (.bin .add (T 77) (C 1)),P 13 (.asg (T 78) none)] false))))))) (.reg [M 68 12,P 69 (.bin .add (T 68) (C 1)),P 12 (.asg (T 69) none)] false)))))) (.seq (.reg [P 2 (.asg (.c (.bool true)) none)] false) .ret))))))))))
theorem AfI : (Tryd.f14.body.bind (Kc Tryd.prog Tryd.f14.ntmps)) = some Adm:=by kernel_rfl
theorem AfJ : Tryd.f14.results.toList.mapM (Kp Tryd.prog) = some [(.t 2)]:=by kernel_rfl
def LC (a : (List Int)) : List D:=[.sl (a.map eU8)]
def LB (ds : List D) : (List Int):=(uL uI) (ds.getD 0 .top)
theorem Ns (a : (List Int)) : LB (LC a) = a:=by simp [LB,LC,LH (u:=uI) (en:=eU8) (fun _=>rfl)]
def NI (b : Bool) : D:=.bool b
def NH (_b : Bool) : List D:=[]
noncomputable def RN : Dw.Spec:=Ka [] .ground LC LB (fun a=>Ky a) NI NH
set_option maxHeartbeats 4000000 in
theorem RC : JX Tryd.prog 14 RN:=by
 refine Kl (Kg (l:=[(45,VN),(46,VO),(26,RW),(47,SU),(49,Se),(51,Oy),(18,XT)]) (by simp [Aaz,AaA,YV,Zg,YX,Vw,AbE])) Tryd.func14 (by decide) AfI AfJ (np:=1) (by decide) Ns (fun _=>r) (fun _=>r) (by decide)<|?_
 intro codes1
 show TrE (specs [(45,VN),(46,VO),(26,RW),(47,SU),(49,Se),(51,Oy),(18,XT)]) Adm (Kr [] .ground [(.t 2)] NI NH) ⟨[(0,.sl (codes1.map eU8))],[],262144⟩ (Ky codes1)
 refine Kd<|?_
 unfold Adm Ky
 refine sQ<|rG<|aS r r<|nI<|xS<|sQ<|sQ<|rG<|bD fun r2 hr2=>cG () r r r Yf r r (by simp) r hr2 r<|uN (w:=.bool (!r2)) r r r r trivial<|nI<|xS<|cD (c:=(!r2)) r ?_ ?_
 ·refine sQ<|rG<|aS r r<|nI<|xS<|rT<|xR<|JZ (b:=false) r ?_ r r ?_ r
  all_goals first|(simp;done)|(simp;omega)|rfl|(simp [JU,JQ];done)
 ·refine sK<|xS<|sQ<|rG<|mV r r<|bD fun r3 hr3=>Aar (rs:=[Kv r3.1,Lt r3.2.1,Kk r3.2.2]) (z:=Kk r3.2.2) codes1 r r r Yg r r (by simp) r hr3 r r<|mV r r<|eX (v:=.agg [.int .i64 r3.1.Params,.sl (r3.1.Slots.map JP),.sl (r3.1.Code.map JN)]) r r r<|eX (v:=.agg [.sl (r3.2.1.Out.map (eL JK))]) r r r<|eX (v:=.optr 21 _ 0 0) r r r<|nW r<|nW r<|sV (z':=.agg [.int .i64 r3.1.Params,.sl (r3.1.Slots.map JP),.sl (r3.1.Code.map JN)]) r r r r r r r r r<|sV (z':=.agg [.sl (r3.2.1.Out.map (eL JK))]) r r r r r r r r r<|aS r r<|nI<|xS<|sQ<|rG<|mV r r<|lO (v:=.agg [.int .i64 r3.1.Params,.sl (r3.1.Slots.map JP),.sl (r3.1.Code.map JN)]) (z:=.agg [.int .i64 r3.1.Params,.sl (r3.1.Slots.map JP),.sl (r3.1.Code.map JN)]) r r r r r r<|bD fun r4 hr4=>cV (r3.2.2,r3.1) r r r Uz r r (by simp) r hr4<|nW r<|sV (z':=.agg [.sl (r4.1.Out.map (eL JK))]) r r r r r r r r r<|nI<|xS<|sQ<|rG<|lO (v:=.agg [.int .i64 r3.1.Params,.sl (r3.1.Slots.map JP),.sl (r3.1.Code.map JN)]) (z:=.agg [.int .i64 r3.1.Params,.sl (r3.1.Slots.map JP),.sl (r3.1.Code.map JN)]) r r r r r r<|lO (v:=.agg [.sl (r4.1.Out.map (eL JK))]) (z:=.agg [.sl (r4.1.Out.map (eL JK))]) r r r r r r<|bD fun r5 hr5=>cV (r3.1,r4.1) r r r Vv r r (by simp) r hr5<|mV r r<|eX (v:=.sl (r5.1.map (eL JK))) r r r<|eX (v:=.int .i64 r5.2) r r r<|aL r r<|aS r r<|nI<|xS<|sQ<|rG<|lO (v:=.agg [.int .i64 r3.1.Params,.sl (r3.1.Slots.map JP),.sl (r3.1.Code.map JN)]) (z:=.agg [.int .i64 r3.1.Params,.sl (r3.1.Slots.map JP),.sl (r3.1.Code.map JN)]) r r r r r r<|lO (v:=.agg [.sl (r4.1.Out.map (eL JK))]) (z:=.agg [.sl (r4.1.Out.map (eL JK))]) r r r r r r<|bD fun r6 hr6=>cV (r3.1,r4.1) r r r UD r r (by simp) r hr6<|mV r r<|eX (v:=.sl (r6.1.map (eL JK))) r r r<|eX (v:=.int .i64 r6.2) r r r<|aL r r<|aS r r<|nI<|xS<|sC (E:=fun (s : Unit) (g : Nat)=>[(3,.optr 3 g 0 0),(7,.sl (r5.1.map (eL JK))),(9,.sl (r6.1.map (eL JK)))]) (O:=fun s g=>[(3,some (g,⟨false,true,3,27,[.agg [.int .i64 r3.1.Params,.sl (r3.1.Slots.map JP),.sl (r3.1.Code.map JN)]]⟩))]) (j:=fun s=>KZ r3 r6 r5) ?_ ?_
  ·refine sQ<|rG<|mV r r<|bN (v:=.bool (r5.2 != 0)) r r r r r<|mV r r<|sP 42 (b:=(r5.2 != 0)) r ?_ ?_
   ·refine oF r<|oF r<|pT r r r r<|mV r r<|oF r<|oF r<|oF r<|oF r<|oF r<|oF r<|pT r r r r<|mV r r<|oF r<|oF r<|oF r<|oF r<|oF r<|oF r<|pT r r r r<|nI<|xS<|LY r<|sQ<|rG<|aS r r<|nI<|xS<|rT<|zR<|JZ (b:=false) r ?_ r r ?_ r
    all_goals first|(simp;done)|(simp;omega)|rfl|(simp [JU,JQ];done)
   ·refine mV r r<|bN (v:=.bool (r6.2 != 0)) r r r r r<|pF r r r r<|mV r r<|sP 46 (b:=(r6.2 != 0)) r ?_ ?_
    ·refine oF r<|oF r<|oF r<|oF r<|oF r<|oF r<|pT r r r r<|mV r r<|oF r<|oF r<|oF r<|oF r<|oF r<|oF r<|pT r r r r<|nI<|xS<|LY r<|sQ<|rG<|aS r r<|nI<|xS<|rT<|zR<|JZ (b:=false) r ?_ r r ?_ r
     all_goals first|(simp;done)|(simp;omega)|rfl|(simp [JU,JQ];done)
    ·refine mV r r<|lS r r<|fA r r<|lO (v:=.sl (r3.1.Slots.map JP)) (z:=.agg [.int .i64 r3.1.Params,.sl (r3.1.Slots.map JP),.sl (r3.1.Code.map JN)]) r r r r r r<|lS r r<|bN (v:=.bool ((r5.1.length : Int) != (r3.1.Slots.length : Int))) r r r r r<|pF r r r r<|mV r r<|sP 54 (b:=((r5.1.length : Int) != (r3.1.Slots.length : Int))) r ?_ ?_
     ·refine oF r<|oF r<|oF r<|oF r<|oF r<|oF r<|pT r r r r<|nI<|xS<|LY r<|sQ<|rG<|aS r r<|nI<|xS<|rT<|zR<|JZ (b:=false) r ?_ r r ?_ r
      all_goals first|(simp;done)|(simp;omega)|rfl|(simp [JU,JQ];done)
     ·refine mV r r<|lS r r<|fA r r<|lO (v:=.sl (r3.1.Slots.map JP)) (z:=.agg [.int .i64 r3.1.Params,.sl (r3.1.Slots.map JP),.sl (r3.1.Code.map JN)]) r r r r r r<|lS r r<|bN (v:=.bool ((r6.1.length : Int) != (r3.1.Slots.length : Int))) r r r r r<|pF r r r r<|nI<|xS<|cD (c:=((r6.1.length : Int) != (r3.1.Slots.length : Int))) r ?_ ?_
      ·refine sQ<|rG<|aS r r<|nI<|xS<|rT<|zR<|JZ (b:=false) r ?_ r r ?_ r
       all_goals first|(simp;done)|(simp;omega)|rfl|(simp [JU,JQ];done)
      ·exact sK<|xC (s:=()) _ ((hE ⟨rfl,r,r,trivial⟩ ⟨rfl,trivial⟩))
  ·rintro ⟨⟩ v3x1 nn
   try dsimp only
   unfold KZ
   refine sQ<|rG<|lO (v:=.agg [.int .i64 r3.1.Params,.sl (r3.1.Slots.map JP),.sl (r3.1.Code.map JN)]) (z:=.agg [.int .i64 r3.1.Params,.sl (r3.1.Slots.map JP),.sl (r3.1.Code.map JN)]) r r r r r r<|bD fun r7 hr7=>cR (l:=r7) (en:=KB) r3.1 r r r Sd r r (by simp) r hr7 r<|aO (l:=r7) (en:=KB) r r r r<|nI<|xS<|sQ<|sQ<|rG<|aS r r<|nI<|xS<|bK<|lP (E:=fun (s : Int) (g : Nat)=>[(7,.sl (r5.1.map (eL JK))),(9,.sl (r6.1.map (eL JK))),(11,.osl 11 g 0 r7.length),(12,.int .i64 s)]) (O:=fun s g=>[(11,some (g,⟨false,false,2,61,r7.map KB⟩))]) (body:=fun s=>KW r6 r5 r7 s) (s:=0) _ ((hE ⟨rfl,r,r,r,trivial⟩ ⟨rfl,trivial⟩))<|?_
   rintro x8 v11x2 nn
   try dsimp only
   unfold KW
   refine sQ<|sQ<|rG<|mV r r<|mV r r<|lS r r<|bN (v:=.bool (decide (x8 < (r6.1.length : Int)))) r r r r r<|nI<|xS<|cD (c:=(decide (x8 < (r6.1.length : Int)))) r ?_ ?_
   ·refine sK<|xS<|bC (E:=fun (s : Unit) (g : Nat)=>[(7,.sl (r5.1.map (eL JK))),(9,.sl (r6.1.map (eL JK))),(11,.osl 11 g 0 r7.length),(12,.int .i64 x8)]) (O:=fun s g=>[(11,some (g,⟨false,false,2,61,r7.map KB⟩))]) (j:=fun s=>La x8) ?_ ?_
    ·refine sQ<|rG<|aS r r<|nI<|xS<|bK<|lP (E:=fun (s : Int) (g : Nat)=>[(7,.sl (r5.1.map (eL JK))),(9,.sl (r6.1.map (eL JK))),(11,.osl 11 g 0 r7.length),(12,.int .i64 x8),(13,.int .i64 s)]) (O:=fun s g=>[(11,some (g,⟨false,false,2,61,r7.map KB⟩))]) (body:=fun s=>KX r6 x8 r5 r7 s) (s:=0) _ ((hE ⟨rfl,r,r,r,r,trivial⟩ ⟨rfl,trivial⟩))<|?_
     rintro i9 v11x3 nn
     try dsimp only
     unfold KX
     refine sQ<|sQ<|rG<|mV r r<|mV r r<|mV r r<|bD fun x_x10 hx_x10=>iS (en:=(eL JK)) r r r hx_x10 r<|lF (v:=.sl (x_x10.map JK)) r r r r<|lS r r<|bN (v:=.bool (decide (i9 < (x_x10.length : Int)))) r r r r r<|nI<|xS<|cD (c:=(decide (i9 < (x_x10.length : Int)))) r ?_ ?_
     ·refine sK<|xS<|bC (E:=fun (s : Unit) (g : Nat)=>[(7,.sl (r5.1.map (eL JK))),(9,.sl (r6.1.map (eL JK))),(11,.osl 11 g 0 r7.length),(12,.int .i64 x8),(13,.int .i64 i9)]) (O:=fun s g=>[(11,some (g,⟨false,false,2,61,r7.map KB⟩))]) (j:=fun s=>Lb i9) ?_ ?_
      ·refine sQ<|rG<|mV r r<|mV r r<|bD fun x_x11 hx_x11=>iS (en:=(eL JK)) r r r hx_x11 r<|lF (v:=.sl (x_x11.map JK)) r r r r<|mV r r<|bD fun x_x12 hx_x12=>iS (en:=JK) r r r hx_x12 r<|lF (v:=.int .i64 x_x12) r r r r<|aS r r<|nI<|xS<|sQ<|rG<|mV r r<|mV r r<|bD fun x_x13 hx_x13=>iS (en:=(eL JK)) r r r hx_x13 r<|lF (v:=.sl (x_x13.map JK)) r r r r<|mV r r<|bD fun r14 hr14=>cG (x_x13,x_x12) r r r Zi r r (by simp) r hr14 r<|aS r r<|nI<|xS<|sQ<|sQ<|rG<|aS r r<|nI<|xS<|bK<|lP (E:=fun (s : Bool × Int) (g : Nat)=>[(7,.sl (r5.1.map (eL JK))),(9,.sl (r6.1.map (eL JK))),(11,.osl 11 g 0 r7.length),(12,.int .i64 x8),(13,.int .i64 i9),(14,.int .i64 x_x12),(15,.bool s.1),(16,.int .i64 s.2)]) (O:=fun s g=>[(11,some (g,⟨false,false,2,61,r7.map KB⟩))]) (body:=fun s=>KY r7 x8 x_x12 i9 s.1 s.2) (s:=(r14,0)) _ ((hE ⟨rfl,r,r,r,r,r,r,r,trivial⟩ ⟨rfl,trivial⟩))<|?_
       rintro ⟨moved15,k16⟩ v11x4 nn
       try dsimp only
       unfold KY
       refine sQ<|sQ<|rG<|mV r r<|mV r r<|lW r r<|bN (v:=.bool (decide (k16 < (r7.length : Int)))) r r r r r<|nI<|xS<|cD (c:=(decide (k16 < (r7.length : Int)))) r ?_ ?_
       ·refine sK<|xS<|sQ<|bK<|rG<|mV r r<|mV r r<|sP 99 (b:=moved15) r ?_ ?_
        ·exact oF r<|oF r<|oF r<|oF r<|oF r<|oF r<|oF r<|oF r<|pT r r r r<|mV r r<|oF r<|oF r<|oF r<|oF r<|oF r<|oF r<|oF r<|oF r<|pT r r r r<|aS r r<|nI<|bM<|xS<|rG<|mV r r<|bN (v:=.int .i64 (IntKind.i64.wrap (k16 + 1))) r r r r r<|aS r r<|nI<|xL (s:=(true,IntKind.i64.wrap (k16 + 1))) _ ((hE ⟨rfl,r,r,r,r,r,r,r,trivial⟩ ⟨rfl,trivial⟩))
        ·refine mV r r<|mV r r<|cK fun hq=>iO (l:=r7) (en:=KB) r r r r r hq<|bD fun moves_e17 hmoves_e17=>lO (v:=.agg [.int .i64 moves_e17.a0,.int .i64 moves_e17.a1]) (z:=KB moves_e17) r r r (Mt hmoves_e17) r r<|mV r r<|mV r r<|bL (cs:=[.int .i64 x8,.int .i64 x_x12]) (ps:=[(0,1,.int .i64 x8),(1,1,.int .i64 x_x12)]) r r r r<|eA_ (p:=((moves_e17.a0 == x8) && ((moves_e17.a1 == x_x12) && true))) r r r r ⟨rfl,⟨rfl,trivial⟩⟩ r<|pF r r r r<|mV r r<|sP 109 (b:=((moves_e17.a0 == x8) && ((moves_e17.a1 == x_x12) && true))) r ?_ ?_
         ·exact oF r<|oF r<|oF r<|oF r<|oF r<|oF r<|oF r<|oF r<|pT r r r r<|aS r r<|nI<|bM<|xS<|rG<|mV r r<|bN (v:=.int .i64 (IntKind.i64.wrap (k16 + 1))) r r r r r<|aS r r<|nI<|xL (s:=(true,IntKind.i64.wrap (k16 + 1))) _ ((hE ⟨rfl,r,r,r,r,r,r,r,trivial⟩ ⟨rfl,trivial⟩))
         ·exact mV r r<|mV r r<|cK fun hq=>iO (l:=r7) (en:=KB) r r r r r hq<|bD fun moves_e18 hmoves_e18=>lO (v:=.agg [.int .i64 moves_e18.a0,.int .i64 moves_e18.a1]) (z:=KB moves_e18) r r r (Mt hmoves_e18) r r<|mV r r<|mV r r<|bL (cs:=[.int .i64 x_x12,.int .i64 x8]) (ps:=[(0,1,.int .i64 x_x12),(1,1,.int .i64 x8)]) r r r r<|eA_ (p:=((moves_e18.a0 == x_x12) && ((moves_e18.a1 == x8) && true))) r r r r ⟨rfl,⟨rfl,trivial⟩⟩ r<|pF r r r r<|aS r r<|nI<|bM<|xS<|rG<|mV r r<|bN (v:=.int .i64 (IntKind.i64.wrap (k16 + 1))) r r r r r<|aS r r<|nI<|xL (s:=(((moves_e18.a0 == x_x12) && ((moves_e18.a1 == x8) && true)),IntKind.i64.wrap (k16 + 1))) _ ((hE ⟨rfl,r,r,r,r,r,r,r,trivial⟩ ⟨rfl,trivial⟩))
       ·refine eT<|xE<|lE<|bH<|xS<|sQ<|rG<|mV r r<|uN (w:=.bool (!moved15)) r r r r trivial<|nI<|xS<|cD (c:=(!moved15)) r ?_ ?_
        ·refine sQ<|rG<|aS r r<|nI<|xS<|rT<|yR<|lR<|bR<|yR<|lR<|bR<|xR<|JZ (b:=false) r ?_ r r ?_ r
         all_goals first|(simp;done)|(simp;omega)|rfl|(simp [JU,JQ];done)
        ·exact sK<|Ng (s:=()) _ ((hE ⟨rfl,r,r,r,r,trivial⟩ ⟨rfl,trivial⟩))
      ·rintro ⟨⟩ v11x5 nn
       try dsimp only
       unfold Lb
       exact rG<|mV r r<|bN (v:=.int .i64 (IntKind.i64.wrap (i9 + 1))) r r r r r<|aS r r<|nI<|xL (s:=IntKind.i64.wrap (i9 + 1)) _ ((hE ⟨rfl,r,r,r,r,trivial⟩ ⟨rfl,trivial⟩))
     ·exact eT<|xE<|lE<|bH<|Ng (s:=()) _ ((hE ⟨rfl,r,r,r,trivial⟩ ⟨rfl,trivial⟩))
    ·rintro ⟨⟩ v11x6 nn
     try dsimp only
     unfold La
     exact rG<|mV r r<|bN (v:=.int .i64 (IntKind.i64.wrap (x8 + 1))) r r r r r<|aS r r<|nI<|xL (s:=IntKind.i64.wrap (x8 + 1)) _ ((hE ⟨rfl,r,r,r,trivial⟩ ⟨rfl,trivial⟩))
   ·refine eT<|xE<|lE<|bH<|xS<|sQ<|rG<|aS r r<|nI<|xS<|rT<|JZ (b:=true) r ?_ r r ?_ r
    all_goals first|(simp;done)|(simp;omega)|rfl|(simp [JU,JQ];done)

end Go.Proofs.YtcelninhkmhjkaaDoor
