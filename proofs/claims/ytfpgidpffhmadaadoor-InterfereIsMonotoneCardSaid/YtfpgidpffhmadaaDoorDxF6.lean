/-
  Programs on typed data, and the proofs that the code does what they say; written by a program (dx.py).
-/
import Derived.Test.YtfpgidpffhmadaaDoorProg
import Derived.Test.YtfpgidpffhmadaaDoorDc
import Derived.KernelRfl
import Derived.Test.YtfpgidpffhmadaaDoorDxP
import Derived.Test.YtfpgidpffhmadaaDoorDxF4
import Derived.Test.YtfpgidpffhmadaaDoorDxF5
namespace Go.Proofs.YtfpgidpffhmadaaDoor
open Go Go.Dw Go.Proofs
set_option maxRecDepth 100000
open Go.Dw renaming Yj → mV,VN → bN,Pu → lO,TV → bD,XC → cK,VQ → nI,VT → xS,Yl → rG,Yn → sQ,Rj → aO,VM → aS,VR → oF,VO → bS,OE → cV,MG → cG,Qo → cR,Zk → aP,Pv → sV,QP → iS,Tu → iO,QS → lS,Tv → lW,TW → fA,Zm → eX,Sy → lF,Sz → sP,Ob → pT,Nl → pF,Yk → uN,AbP → cT,VP → nW,XB → bX,Ri → aN,Xx → aL,AdB → mS,VU → cD,TY → bK,Ym → rT,VY → sK,VV → eT,VS → xC,TX → xL,PK → xR,Qq → lR,Sh → hE,Oc → lE,OG → bH,Nm → bM,PJ → bR,OH → xE,VW → lP,QT → sC,VX → bC,rf → r
def Ng (a : Jh × Jp) : List D:=[JS a.1,KL a.2,.clo 32 []]
def Nf (ds : List D) : Jh × Jp:=(Mn (ds.getD 0 .top),Px (ds.getD 1 .top))
theorem Qt (a : Jh × Jp) : Nf (Ng a) = a:=by simp [Nf,Ng]
def NW (b : (List (List Int)) × Int) : D:=.tup [.sl (b.1.map (eL Jc)),.int .i64 b.2]
def QX (_b : (List (List Int)) × Int) : List D:=[]
noncomputable def LX : Dw.Spec:=Js [] .val Ng Nf (fun a=>Lr a.1 a.2) NW QX
noncomputable def MN : Dw.Spec:=AbN (specs []) 1 [(.t 2)] AcJ
theorem UG : Jr Tryd.prog 55 MN:=AcX (JW) Tryd.func55 (by decide) AdY AdZ (by decide)
set_option maxHeartbeats 4000000 in
theorem Wo : Jr Tryd.prog 30 LX:=by
 refine JA (Jw (l:=[(23,Of),(55,MN),(56,LZ),(32,QH),(57,LG)]) (by simp [Wq,UG,Tc,Zb,Sk])) Tryd.func30 (by decide) AdW AdX (np:=3) (by decide) Qt (fun _=>r) (fun _=>r) (by decide)<|?_
 rintro ⟨f1,l2⟩
 show TrE (specs [(23,Of),(55,MN),(56,LZ),(32,QH),(57,LG)]) AcI (JH [] .val [(.t 6),(.t 7)] NW QX) ⟨[(0,.agg [.int .i64 f1.Params,.sl (f1.Slots.map Jj),.sl (f1.Code.map Jg)]),(1,.agg [.sl (l2.Out.map (eL Jc))]),(2,.clo 32 [])],[],262144⟩ (Lr f1 l2)
 refine Jv<|?_
 unfold AcI Lr
 refine sQ<|rG<|bX r r r r r<|bX r r r r r<|aN (α:=(List Int)) r (eL Jc) r<|aS r r<|nI<|xS<|sQ<|sQ<|rG<|lO (v:=.agg [.int .i64 f1.Params,.sl (f1.Slots.map Jj),.sl (f1.Code.map Jg)]) (z:=.agg [.int .i64 f1.Params,.sl (f1.Slots.map Jj),.sl (f1.Code.map Jg)]) r r r r r r<|lO (v:=.agg [.sl (l2.Out.map (eL Jc))]) (z:=.agg [.sl (l2.Out.map (eL Jc))]) r r r r r r<|bD fun r3 hr3=>cG (f1,l2) r r r Sl r r (by simp) r hr3 r<|aS r r<|nI<|xS<|sQ<|rG<|mV r r<|bN (v:=.bool (r3 != 0)) r r r r r<|nI<|xS<|cD (c:=(r3 != 0)) r ?_ ?_
 ·refine sQ<|rG<|mV r r<|aN (α:=(List Int)) r (eL Jc) r<|aS r r<|nI<|xS<|rT<|xR<|Nt (b:=(([] : List (List Int)),r3)) r ?_ r r ?_ (by first | rfl | (simp only [JC,JJ]; rfl) | simp [NW]) (by decide)
  all_goals first|(simp;done)|(simp;omega)|rfl|(simp [Jk,Ji];done)
 ·refine sK<|xS<|sQ<|rG<|fA r r<|lO (v:=.sl (f1.Slots.map Jj)) (z:=.agg [.int .i64 f1.Params,.sl (f1.Slots.map Jj),.sl (f1.Code.map Jg)]) r r r r r r<|lS r r<|AdA (E:=fun (g : Nat × Nat)=>[(2,.clo 32 []),(3,.optr 1003 g.1 0 0),(4,.optr 1004 g.2 0 0),(24,.int .i64 (f1.Slots.length : Int))]) (O:=fun g=>[(1003,some (g.1,⟨false,true,3,33,[.agg [.int .i64 f1.Params,.sl (f1.Slots.map Jj),.sl (f1.Code.map Jg)]]⟩)),(1004,some (g.2,⟨false,true,1,37,[.agg [.sl (l2.Out.map (eL Jc))]]⟩))]) (_,_) ((Zx (fun g=>bif Nat.ble 4096 g then g + 20000 else g + 1000) (by rfl) (hE ⟨rfl,r,r,r,trivial⟩ ⟨rfl,r,trivial⟩)))<|?_
  rintro ⟨v1003x1,v1004x1⟩ nn
  try dsimp only
  refine Adz (ES:=fun (s : (List (List Bool))) (g : Nat × Nat × Nat)=>[(2,.clo 32 []),(3,.optr 3 g.1 0 0),(4,.optr 4 g.2.1 0 0),(25,.osl 4697 g.2.2 0 s.length)]) (OS:=fun s g=>[(3,some (g.1,⟨false,true,3,33,[.agg [.int .i64 f1.Params,.sl (f1.Slots.map Jj),.sl (f1.Code.map Jg)]]⟩)),(4,some (g.2.1,⟨false,true,1,37,[.agg [.sl (l2.Out.map (eL Jc))]]⟩)),(4697,some (g.2.2,⟨false,false,1,43,s.map (eR 1 4 D.bool)⟩))]) (j:=fun s=>KQ f1 l2 s) (ds:=[.int .i64 (f1.Slots.length : Int)]) (caps:=[]) (E:=[(0,.int .i64 (f1.Slots.length : Int))]) r r r r r r r r ?_ ?_
  ·unfold AcJ
   refine sQ<|rG<|aN (α:=(List Bool)) r (eL D.bool) r<|nI<|xS<|sQ<|rG<|mV r r<|cK fun hq=>Tw (α:=Bool) r r r hq r<|aO (l:=List.replicate (f1.Slots.length : Int).toNat ([] : (List Bool))) (en:=(fun _=>D.nils)) r r r r<|nI<|KM (E:=[(0,.int .i64 (f1.Slots.length : Int)),(3,.osl 4099 _ 0 ((List.replicate (f1.Slots.length : Int).toNat ([] : (List Bool))).length))]) (O:=[(1003,some (v1003x1,⟨false,true,3,33,[.agg [.int .i64 f1.Params,.sl (f1.Slots.map Jj),.sl (f1.Code.map Jg)]]⟩)),(1004,some (v1004x1,⟨false,true,1,37,[.agg [.sl (l2.Out.map (eL Jc))]]⟩)),(4099,some (_,⟨false,false,1,43,(List.replicate (f1.Slots.length : Int).toNat ([] : (List Bool))).map (eR 1 4 D.bool)⟩))]) ((Zv (g:=3) (g2:=4099) r r r (Abl (l:=List.replicate (f1.Slots.length : Int).toNat ([] : (List Bool))) (s':=1) (ty':=4) D.bool (by decide) (fun _ h=>List.eq_of_mem_replicate h)) (hE ⟨rfl,r,trivial⟩ ⟨rfl,r,r,trivial⟩))) fun nn=>sQ<|sQ<|rG<|mV r r<|lW r r<|mV r r<|nI<|xS<|bK<|lP (E:=fun (s : (List (List Bool)) × Int) (g : Nat)=>[(0,.int .i64 (f1.Slots.length : Int)),(3,.osl 4099 g 0 s.1.length),(8,.int .i64 ((List.replicate (f1.Slots.length : Int).toNat ([] : (List Bool))).length : Int)),(9,.int .i64 s.2)]) (O:=fun s g=>[(1003,some (v1003x1,⟨false,true,3,33,[.agg [.int .i64 f1.Params,.sl (f1.Slots.map Jj),.sl (f1.Code.map Jg)]]⟩)),(1004,some (v1004x1,⟨false,true,1,37,[.agg [.sl (l2.Out.map (eL Jc))]]⟩)),(4099,some (g,⟨false,false,1,43,s.1.map (eR 1 4 D.bool)⟩))]) (body:=fun s=>LI f1 l2 s.1 s.2) (s:=(List.replicate (f1.Slots.length : Int).toNat ([] : (List Bool)),0)) _ ((hE ⟨rfl,r,r,r,trivial⟩ ⟨rfl,r,r,trivial⟩))<|?_
   rintro ⟨m5,x6⟩ v4099x2 nn
   try dsimp only
   unfold LI
   refine sQ<|rG<|bN (v:=.bool (decide (x6 < ((List.replicate (f1.Slots.length : Int).toNat ([] : (List Bool))).length : Int)))) r r r r r<|nI<|xS<|sQ<|cD (c:=(decide (x6 < ((List.replicate (f1.Slots.length : Int).toNat ([] : (List Bool))).length : Int)))) r ?_ ?_
   ·exact sK<|xS<|sQ<|bK<|sQ<|rG<|mV rfl rfl<|aS rfl rfl<|nI<|xS<|rG<|mV rfl rfl<|mV rfl rfl<|mV rfl rfl<|cK fun hq=>mS (q:=false) D.bool rfl rfl rfl rfl hq rfl<|cK fun hq=>iO (l:=m5) (en:=(eR 1 4 D.bool)) rfl rfl rfl rfl rfl hq<|bD fun o7 ho7=>YQ (l:=m5) (q:=o7) (q':=List.replicate (f1.Slots.length : Int).toNat false) D.bool rfl rfl rfl rfl (.inl rfl) ho7 rfl rfl ⟨⟨rfl,rfl,by simp,Aao fun _=>rfl⟩,trivial,rfl⟩ (congrArg (fun z=>[D.row _ _ z]) (Jl _ _ rfl)) rfl<|nI<|bM<|xS<|rG<|bN (v:=.int .i64 (IntKind.i64.wrap (x6 + 1))) rfl rfl rfl rfl rfl<|mV rfl rfl<|nI<|xL (s:=(m5.set x6.toNat (List.replicate (f1.Slots.length : Int).toNat false),IntKind.i64.wrap (x6 + 1))) _ ((hE ⟨rfl,(SB (q:=m5.length) rfl (by simp)),r,r,trivial⟩ ⟨rfl,r,r,trivial⟩))
   ·exact eT<|xE<|lE<|bH<|xS<|sQ<|rG<|mV r r<|Sx r r r<|nI<|xS<|rT<|Adg (d:=.osl 4099 _ 0 m5.length) (s:=m5) (_,_,_) r (by first | rfl | (simp [Ql,Ki,rdA,raw,strip,Lz,S.ge,S.go,look,AdQ,cells,LM]; done)) r ((AcR (E1:=[(2,.clo 32 []),(3,.optr 1003 v1003x1 0 0),(4,.optr 1004 v1004x1 0 0),(25,.osl 4099 _ 0 m5.length)]) (O1:=[(1003,some (v1003x1,⟨false,true,3,33,[.agg [.int .i64 f1.Params,.sl (f1.Slots.map Jj),.sl (f1.Code.map Jg)]]⟩)),(1004,some (v1004x1,⟨false,true,1,37,[.agg [.sl (l2.Out.map (eL Jc))]]⟩)),(4099,some (_,⟨false,false,1,43,m5.map (eR 1 4 D.bool)⟩))]) (hE ⟨rfl,r,r,r,trivial⟩ ⟨rfl,r,r,trivial⟩) (fun _=>Zx (fun g=>bif Nat.ble 24096 g then g - 20000 else bif (Nat.ble 1000 g && Nat.blt g 4096) then g - 1000 else bif Nat.beq g 4099 then 4697 else g) (by rfl) (hE ⟨rfl,r,r,r,trivial⟩ ⟨rfl,r,r,trivial⟩))))
  ·rintro x4 ⟨v3x3,v4x3,v4697x3⟩ nn
   try dsimp only
   unfold KQ
   refine Sx r r r<|nI<|xS<|sQ<|sQ<|rG<|fA r r<|lO (v:=.sl (f1.Code.map Jg)) (z:=.agg [.int .i64 f1.Params,.sl (f1.Slots.map Jj),.sl (f1.Code.map Jg)]) r r r r r r<|lS r r<|mV r r<|nI<|xS<|bK<|lP (E:=fun (s : (List (List Bool)) × Int) (g : Nat × Nat)=>[(2,.clo 32 []),(4,.optr 4 g.1 0 0),(9,.osl 4697 g.2 0 s.1.length),(27,.sl (f1.Code.map Jg)),(28,.int .i64 (f1.Code.length : Int)),(29,.int .i64 s.2)]) (O:=fun s g=>[(4,some (g.1,⟨false,true,1,37,[.agg [.sl (l2.Out.map (eL Jc))]]⟩)),(4697,some (g.2,⟨false,false,1,43,s.1.map (eR 1 4 D.bool)⟩))]) (body:=fun s=>LJ f1 l2 s.1 s.2) (s:=(x4,0)) (_,_) ((hE ⟨rfl,r,r,r,r,r,trivial⟩ ⟨rfl,r,trivial⟩))<|?_
   rintro ⟨x8,x9⟩ ⟨v4x4,v4697x4⟩ nn
   try dsimp only
   unfold LJ
   refine sQ<|rG<|bN (v:=.bool (decide (x9 < (f1.Code.length : Int)))) r r r r r<|nI<|xS<|sQ<|cD (c:=(decide (x9 < (f1.Code.length : Int)))) r ?_ ?_
   ·refine sK<|xS<|sQ<|bK<|sQ<|rG<|mV r r<|bD fun x_x10 hx_x10=>iS (en:=Jg) r r r hx_x10 r<|lF (v:=.agg [.int .i64 x_x10.Op,.int .i64 x_x10.A,.int .i64 x_x10.B,.int .i64 x_x10.C,.int .u64 x_x10.Imm]) r r r r<|nW r<|aS r r<|sV (z':=.agg [.int .i64 x_x10.Op,.int .i64 x_x10.A,.int .i64 x_x10.B,.int .i64 x_x10.C,.int .u64 x_x10.Imm]) r r r r r r r r r<|nI<|xS<|sQ<|rG<|lO (v:=.agg [.int .i64 x_x10.Op,.int .i64 x_x10.A,.int .i64 x_x10.B,.int .i64 x_x10.C,.int .u64 x_x10.Imm]) (z:=.agg [.int .i64 x_x10.Op,.int .i64 x_x10.A,.int .i64 x_x10.B,.int .i64 x_x10.C,.int .u64 x_x10.Imm]) r r r r r r<|bD fun r11 hr11=>cG x_x10 r r r PU r r (by simp) r hr11 r<|mV r r<|eX (v:=.int .i64 r11.1) r r r<|eX (v:=.bool r11.2) r r r<|aS r r<|aS r r<|nI<|xS<|sC (E:=fun (s : Bool × Bool) (g : Nat × Nat × Nat)=>[(2,.clo 32 []),(4,.optr 4 g.1 0 0),(9,.osl 4697 g.2.2 0 x8.length),(10,.int .i64 x9),(11,.optr 11 g.2.1 0 0),(12,.int .i64 r11.1),(27,.sl (f1.Code.map Jg)),(28,.int .i64 (f1.Code.length : Int)),(29,.int .i64 x9),(42,.optr 11 g.2.1 0 0),(43,.int .i64 x_x10.Op),(44,.bool (x_x10.Op == 17)),(45,.bool s.1),(51,.bool s.2)]) (O:=fun s g=>[(4,some (g.1,⟨false,true,1,37,[.agg [.sl (l2.Out.map (eL Jc))]]⟩)),(11,some (g.2.1,⟨false,true,5,57,[.agg [.int .i64 x_x10.Op,.int .i64 x_x10.A,.int .i64 x_x10.B,.int .i64 x_x10.C,.int .u64 x_x10.Imm]]⟩)),(4697,some (g.2.2,⟨false,false,1,43,x8.map (eR 1 4 D.bool)⟩))]) (j:=fun s=>Ks l2 x9 r11 x_x10 x8 s.1 s.2) ?_ ?_
    ·refine sQ<|rG<|mV r r<|uN (w:=.bool (!r11.2)) r r r r trivial<|mV r r<|sP 41 (b:=(!r11.2)) r ?_ ?_
     ·exact oF r<|oF r<|oF r<|oF r<|oF r<|oF r<|oF r<|oF r<|oF r<|oF r<|pT r r r r<|nI<|xS<|JX r<|eT<|NF<|bH<|xS<|rG<|bN (v:=.int .i64 (IntKind.i64.wrap (x9 + 1))) r r r r r<|mV r r<|nI<|xL (s:=(x8,IntKind.i64.wrap (x9 + 1))) (_,_) ((hE ⟨rfl,r,r,r,r,r,trivial⟩ ⟨rfl,r,trivial⟩))
     ·refine fA r r<|lO (v:=.int .i64 x_x10.Op) (z:=.agg [.int .i64 x_x10.Op,.int .i64 x_x10.A,.int .i64 x_x10.B,.int .i64 x_x10.C,.int .u64 x_x10.Imm]) r r r r r r<|bN (v:=.bool (x_x10.Op == 17)) r r r r r<|mV r r<|sP 45 (b:=(x_x10.Op == 17)) r ?_ ?_
      ·refine fA r r<|lO (v:=.int .i64 x_x10.A) (z:=.agg [.int .i64 x_x10.Op,.int .i64 x_x10.A,.int .i64 x_x10.B,.int .i64 x_x10.C,.int .u64 x_x10.Imm]) r r r r r r<|fA r r<|lO (v:=.int .i64 x_x10.B) (z:=.agg [.int .i64 x_x10.Op,.int .i64 x_x10.A,.int .i64 x_x10.B,.int .i64 x_x10.C,.int .u64 x_x10.Imm]) r r r r r r<|bN (v:=.bool (x_x10.A == x_x10.B)) r r r r r<|pT r r r r<|pF r r r r<|nI<|xS<|cD (c:=(x_x10.A == x_x10.B)) r ?_ ?_
       ·exact eT<|NF<|bH<|xS<|rG<|bN (v:=.int .i64 (IntKind.i64.wrap (x9 + 1))) r r r r r<|mV r r<|nI<|xL (s:=(x8,IntKind.i64.wrap (x9 + 1))) (_,_) ((hE ⟨rfl,r,r,r,r,r,trivial⟩ ⟨rfl,r,trivial⟩))
       ·exact sK<|xC (s:=(true,(x_x10.A == x_x10.B))) (_,_,_) ((hE ⟨rfl,r,r,r,r,r,r,r,r,r,r,r,r,r,trivial⟩ ⟨rfl,r,r,trivial⟩))
      ·exact oF r<|oF r<|oF r<|oF r<|oF r<|pF r r r r<|pF r r r r<|nI<|xS<|ML r<|sK<|xC (s:=(false,false)) (_,_,_) ((hE ⟨rfl,r,r,r,r,r,r,r,r,r,r,r,r,r,trivial⟩ ⟨rfl,r,r,trivial⟩))
    ·rintro ⟨x12,x13⟩ ⟨v4x5,v11x5,v4697x5⟩ nn
     try dsimp only
     unfold Ks
     refine sQ<|rG<|fA r r<|lO (v:=.sl (l2.Out.map (eL Jc))) (z:=.agg [.sl (l2.Out.map (eL Jc))]) r r r r r r<|mV r r<|bD fun x_x14 hx_x14=>iS (en:=(eL Jc)) r r r hx_x14 r<|lF (v:=.sl (x_x14.map Jc)) r r r r<|lS r r<|mV r r<|nI<|xS<|bK<|lP (E:=fun (s : (List (List Bool)) × Int) (g : Nat × Nat × Nat)=>[(2,.clo 32 []),(4,.optr 4 g.1 0 0),(9,.osl 4697 g.2.2 0 s.1.length),(11,.optr 11 g.2.1 0 0),(12,.int .i64 r11.1),(27,.sl (f1.Code.map Jg)),(28,.int .i64 (f1.Code.length : Int)),(29,.int .i64 x9),(42,.optr 11 g.2.1 0 0),(43,.int .i64 x_x10.Op),(44,.bool (x_x10.Op == 17)),(45,.bool x12),(51,.bool x13),(57,.sl (x_x14.map Jc)),(58,.int .i64 (x_x14.length : Int)),(59,.int .i64 s.2)]) (O:=fun s g=>[(4,some (g.1,⟨false,true,1,37,[.agg [.sl (l2.Out.map (eL Jc))]]⟩)),(11,some (g.2.1,⟨false,true,5,57,[.agg [.int .i64 x_x10.Op,.int .i64 x_x10.A,.int .i64 x_x10.B,.int .i64 x_x10.C,.int .u64 x_x10.Imm]]⟩)),(4697,some (g.2.2,⟨false,false,1,43,s.1.map (eR 1 4 D.bool)⟩))]) (body:=fun s=>LK x_x14 r11 x_x10 x9 s.1 s.2) (s:=(x8,0)) (_,_,_) ((hE ⟨rfl,r,r,r,r,r,r,r,r,r,r,r,r,r,r,r,trivial⟩ ⟨rfl,r,r,trivial⟩))<|?_
     rintro ⟨x15,x16⟩ ⟨v4x6,v11x6,v4697x6⟩ nn
     try dsimp only
     unfold LK
     refine sQ<|rG<|bN (v:=.bool (decide (x16 < (x_x14.length : Int)))) r r r r r<|nI<|xS<|sQ<|cD (c:=(decide (x16 < (x_x14.length : Int)))) r ?_ ?_
     ·refine sK<|xS<|sQ<|bK<|sQ<|rG<|bD fun x_x17 hx_x17=>iS (en:=Jc) r r r hx_x17 r<|lF (v:=.int .i64 x_x17) r r r r<|aS r r<|nI<|xS<|sC (E:=fun (s : Bool) (g : Nat × Nat × Nat)=>[(2,.clo 32 []),(4,.optr 4 g.1 0 0),(9,.osl 4697 g.2.2 0 x15.length),(11,.optr 11 g.2.1 0 0),(12,.int .i64 r11.1),(15,.int .i64 x_x17),(27,.sl (f1.Code.map Jg)),(28,.int .i64 (f1.Code.length : Int)),(29,.int .i64 x9),(42,.optr 11 g.2.1 0 0),(43,.int .i64 x_x10.Op),(44,.bool (x_x10.Op == 17)),(45,.bool x12),(51,.bool x13),(57,.sl (x_x14.map Jc)),(58,.int .i64 (x_x14.length : Int)),(59,.int .i64 x16),(72,.bool s)]) (O:=fun s g=>[(4,some (g.1,⟨false,true,1,37,[.agg [.sl (l2.Out.map (eL Jc))]]⟩)),(11,some (g.2.1,⟨false,true,5,57,[.agg [.int .i64 x_x10.Op,.int .i64 x_x10.A,.int .i64 x_x10.B,.int .i64 x_x10.C,.int .u64 x_x10.Imm]]⟩)),(4697,some (g.2.2,⟨false,false,1,43,x15.map (eR 1 4 D.bool)⟩))]) (j:=fun s=>JU x15 r11 x_x17 x16 s) ?_ ?_
      ·refine rG<|mV r r<|mV r r<|bN (v:=.bool (x_x17 != r11.1)) r r r r r<|mV r r<|sP 66 (b:=(x_x17 != r11.1)) r ?_ ?_
       ·exact mV r r<|lO (v:=.agg [.int .i64 x_x10.Op,.int .i64 x_x10.A,.int .i64 x_x10.B,.int .i64 x_x10.C,.int .u64 x_x10.Imm]) (z:=.agg [.int .i64 x_x10.Op,.int .i64 x_x10.A,.int .i64 x_x10.B,.int .i64 x_x10.C,.int .u64 x_x10.Imm]) r r r r r r<|mV r r<|bD fun r19 hr19=>cG (x_x10,x_x17) r r r Uj r r (by simp) r hr19 r<|uN (w:=.bool (!r19)) r r r r trivial<|pT r r r r<|nI<|xC (s:=(!r19)) (_,_,_) ((hE ⟨rfl,r,r,r,r,r,r,r,r,r,r,r,r,r,r,r,r,r,trivial⟩ ⟨rfl,r,r,trivial⟩))
       ·exact oF r<|oF r<|oF r<|oF r<|oF r<|pF r r r r<|nI<|xC (s:=false) (_,_,_) ((hE ⟨rfl,r,r,r,r,r,r,r,r,r,r,r,r,r,r,r,r,r,trivial⟩ ⟨rfl,r,r,trivial⟩))
      ·rintro x18 ⟨v4x7,v11x7,v4697x7⟩ nn
       try dsimp only
       unfold JU
       refine cD (c:=x18) r ?_ ?_
       ·exact AaI fun row20 hrow20=>AaI fun row21 hrow21=>Aet fun hnrow20=>AbE (E:=[(2,.clo 32 []),(4,.optr 4 _ 0 0),(9,.osl 4697 _ 0 x15.length),(11,.optr 11 _ 0 0),(12,.int .i64 r11.1),(15,.int .i64 x_x17),(27,.sl (f1.Code.map Jg)),(28,.int .i64 (f1.Code.length : Int)),(29,.int .i64 x9),(42,.optr 11 _ 0 0),(43,.int .i64 x_x10.Op),(44,.bool (x_x10.Op == 17)),(45,.bool x12),(51,.bool x13),(57,.sl (x_x14.map Jc)),(58,.int .i64 (x_x14.length : Int)),(59,.int .i64 x16)]) (O:=[(4,some (_,⟨false,true,1,37,[.agg [.sl (l2.Out.map (eL Jc))]]⟩)),(11,some (_,⟨false,true,5,57,[.agg [.int .i64 x_x10.Op,.int .i64 x_x10.A,.int .i64 x_x10.B,.int .i64 x_x10.C,.int .u64 x_x10.Imm]]⟩)),(4697,some (_,⟨false,false,1,43,((x15.map (eR 1 4 D.bool)).set r11.1.toNat (.hole 4718 _ row20.length)).set x_x17.toNat (.hole 4719 _ row21.length)⟩)),(4718,some (_,⟨false,false,1,4,row20.map D.bool⟩)),(4719,some (_,⟨false,false,1,4,row21.map D.bool⟩))]) (AbZ (g:=4697) (i:=r11.1.toNat) (j:=x_x17.toNat) (t1:=622) (t2:=623) D.bool r hrow20 hrow21 hnrow20 (hE ⟨rfl,r,r,r,r,r,r,r,r,r,r,r,r,r,r,r,r,trivial⟩ ⟨rfl,r,r,r,r,trivial⟩)) fun nn=>mV r r<|mV r r<|cK fun hq=>Tt (by simp) r r r r (by simpa using hq)<|VZ (nm:=4718) (q:=row20.length) r r r (Adv hrow20 hnrow20)<|mV r r<|mV r r<|mV r r<|cK fun hq=>Tt (by simp) r r r r (by simpa using hq)<|VZ (nm:=4719) (q:=row21.length) r r r (Adw hrow21)<|mV r r<|cK fun hq=>iO (l:=row20) (en:=D.bool) r r r r r hq<|bD fun x_o22 hx_o22=>TC (l:=row20) (en:=D.bool) (q:=x_o22) (q':=true) r r r r r hx_o22 r (fun _=>r) r r r ⟨trivial,trivial,r⟩<|cK fun hq=>iO (l:=row21) (en:=D.bool) r r r r r hq<|bD fun x_o23 hx_o23=>TC (l:=row21) (en:=D.bool) (q:=x_o23) (q':=true) r r r r r hx_o23 r (fun _=>r) r r r ⟨trivial,trivial,r⟩<|Jz (by kernel_rfl)<|bM<|KM (E:=[(2,.clo 32 []),(4,.optr 4 _ 0 0),(9,.osl 4697 _ 0 x15.length),(11,.optr 11 _ 0 0),(12,.int .i64 r11.1),(27,.sl (f1.Code.map Jg)),(28,.int .i64 (f1.Code.length : Int)),(29,.int .i64 x9),(42,.optr 11 _ 0 0),(43,.int .i64 x_x10.Op),(44,.bool (x_x10.Op == 17)),(45,.bool x12),(51,.bool x13),(57,.sl (x_x14.map Jc)),(58,.int .i64 (x_x14.length : Int)),(59,.int .i64 x16)]) (O:=[(4,some (_,⟨false,true,1,37,[.agg [.sl (l2.Out.map (eL Jc))]]⟩)),(11,some (_,⟨false,true,5,57,[.agg [.int .i64 x_x10.Op,.int .i64 x_x10.A,.int .i64 x_x10.B,.int .i64 x_x10.C,.int .u64 x_x10.Imm]]⟩)),(4697,some (_,⟨false,false,1,43,((x15.set r11.1.toNat (row20.set x_x17.toNat true)).set x_x17.toNat (row21.set r11.1.toNat true)).map (eR 1 4 D.bool)⟩))]) ((Abw (g:=4697) (g1:=4718) (g2:=4719) (l:=x15) (en:=D.bool) (i:=r11.1.toNat) (j:=x_x17.toNat) (q1:=row20) (q2:=row21) (q1':=row20.set x_x17.toNat true) (q2':=row21.set r11.1.toNat true) hrow20 hrow21 hnrow20 r r r (by simp) (by simp) (fun _=>r) (hE ⟨rfl,r,(SB (q:=x15.length) r (by simp)),r,r,r,r,r,r,r,r,r,r,r,r,r,trivial⟩ ⟨rfl,r,r,trivial⟩))) fun nn=>rG<|bN (v:=.int .i64 (IntKind.i64.wrap (x16 + 1))) r r r r r<|mV r r<|nI<|xL (s:=((x15.set r11.1.toNat (row20.set x_x17.toNat true)).set x_x17.toNat (row21.set r11.1.toNat true),IntKind.i64.wrap (x16 + 1))) (_,_,_) ((hE ⟨rfl,r,(SB (q:=x15.length) r (by simp)),r,r,r,r,r,r,r,r,r,r,r,r,r,trivial⟩ ⟨rfl,r,r,trivial⟩))
       ·exact sK<|bM<|xS<|rG<|bN (v:=.int .i64 (IntKind.i64.wrap (x16 + 1))) r r r r r<|mV r r<|nI<|xL (s:=(x15,IntKind.i64.wrap (x16 + 1))) (_,_,_) ((hE ⟨rfl,r,r,r,r,r,r,r,r,r,r,r,r,r,r,r,trivial⟩ ⟨rfl,r,r,trivial⟩))
     ·exact eT<|xE<|lE<|bH<|bM<|xS<|rG<|bN (v:=.int .i64 (IntKind.i64.wrap (x9 + 1))) r r r r r<|mV r r<|nI<|xL (s:=(x15,IntKind.i64.wrap (x9 + 1))) (_,_) ((hE ⟨rfl,r,r,r,r,r,trivial⟩ ⟨rfl,r,trivial⟩))
   ·refine eT<|xE<|lE<|bH<|KM (E:=[(9,.osl 4697 _ 0 x8.length)]) (O:=[(4697,some (_,⟨false,false,1,43,x8.map (eL D.bool)⟩))]) ((Aaj (g:=4697) r (Abm (l:=x8) D.bool (fun _=>r)) (hE ⟨rfl,trivial⟩ ⟨rfl,trivial⟩))) fun nn=>sQ<|rG<|mV r r<|bD fun r24 hr24=>cV x8 r r r Oy r r (by simp) (by first | rfl | (simp only [JC,JJ]; rfl) | simp [Lf]) hr24<|aL r r<|aS r r<|nI<|xS<|rT<|Nt (b:=(r24,0)) r ?_ r r ?_ r (by decide)
    all_goals first|(simp;done)|(simp;omega)|rfl|(simp [Jk,Ji];done)

def AeH : Jt:=(.seq (.reg [P 2 (.box (T 0) 3 33),P 3 (.box (T 1) 1 37),⟨(some 4),(.asg (.c .nils) (some ⟨1,42⟩)),none,[]⟩,P 5 (.asg (C 0) none)] false) (.seq (.reg [P 6 (.ld 3 true (T 2)),P 7 (.ld 1 true (T 3)),P 8 (.call (.c (.clo 30 [])) [(T 6),(T 7),(.c (.clo 32 []))]),P 9 (.ext (T 8) 0),P 10 (.ext (T 8) 1),⟨(some 4),(.asg (T 9) (some ⟨1,42⟩)),none,[]⟩,P 5 (.asg (T 10) none)] false) .ret))
theorem AgZ : (Tryd.f16.body.bind (Ju Tryd.prog Tryd.f16.ntmps)) = some AeH:=by kernel_rfl
theorem Aha : Tryd.f16.results.toList.mapM (JE Tryd.prog) = some [(.t 4),(.t 5)]:=by kernel_rfl
def QJ (a : Jh × Jp) : List D:=[JS a.1,KL a.2]
def QI (ds : List D) : Jh × Jp:=(Mn (ds.getD 0 .top),Px (ds.getD 1 .top))
theorem Vg (a : Jh × Jp) : QI (QJ a) = a:=by simp [QI,QJ]
def Wn (b : (List (List Int)) × Int) : D:=.tup [.sl (b.1.map (eL Jc)),.int .i64 b.2]
def Wm (_b : (List (List Int)) × Int) : List D:=[]
noncomputable def Sj : Dw.Spec:=Js [] .val QJ QI (fun a=>Nc a.1 a.2) Wn Wm
set_option maxHeartbeats 4000000 in
theorem ZZ : Jr Tryd.prog 16 Sj:=by
 refine JA (Jw (l:=[(135198,LX)]) (by simp [Wo])) Tryd.func16 (by decide) AgZ Aha (np:=2) (by decide) Vg (fun _=>r) (fun _=>r) (by decide)<|?_
 rintro ⟨f1,l2⟩
 show TrE (specs [(135198,LX)]) AeH (JH [] .val [(.t 4),(.t 5)] Wn Wm) ⟨[(0,.agg [.int .i64 f1.Params,.sl (f1.Slots.map Jj),.sl (f1.Code.map Jg)]),(1,.agg [.sl (l2.Out.map (eL Jc))])],[],262144⟩ (Nc f1 l2)
 refine Jv<|?_
 unfold AeH Nc
 refine sQ<|rG<|bX rfl rfl rfl rfl rfl<|bX rfl rfl rfl rfl rfl<|aN (α:=(List Int)) rfl (eL Jc) rfl<|aS rfl rfl<|nI<|xS<|sQ<|rG<|lO (v:=.agg [.int .i64 f1.Params,.sl (f1.Slots.map Jj),.sl (f1.Code.map Jg)]) (z:=.agg [.int .i64 f1.Params,.sl (f1.Slots.map Jj),.sl (f1.Code.map Jg)]) rfl rfl rfl rfl rfl rfl<|lO (v:=.agg [.sl (l2.Out.map (eL Jc))]) (z:=.agg [.sl (l2.Out.map (eL Jc))]) rfl rfl rfl rfl rfl rfl<|bD fun r3 hr3=>cV (f1,l2) rfl rfl (show _ = some LX from by kernel_rfl) Qt rfl rfl (by simp) r hr3<|eX (v:=.sl (r3.1.map (eL Jc))) r r r<|eX (v:=.int .i64 r3.2) r r r<|aL r r<|aS r r<|nI<|xS<|rT<|Nt (b:=(r3.1,r3.2)) r ?_ r r ?_ r (by decide)
 all_goals first|(simp;done)|(simp;omega)|rfl|(simp [Jk,Ji];done)

def Afp : Jt:=(.seq (.reg [P 4 (.asg (C 0) none)] false) (.seq (.seq (.reg [M 6 0,P 7 (.len false (T 6)),P 8 (.mv (C 0))] false) (.block 0 (.loop (.seq (.reg [P 9 (.bin .lss (T 8) (T 7))] false) (.seq (.cond (T 9) .skip (.exit 0)) (.seq (.block 1 (.seq (.reg [M 10 8,P 5 (.asg (T 10) none)] false) (.seq (.reg [M 11 1,M 12 0,M 13 5,P 14 (.ixA 1 (T 12) (T 13)),P 15 (.ld 1 false (T 14)),P 16 (.bin .eql (T 11) (T 15))] false) (.cond (T 16) (.seq (.reg [M 17 5,P 4 (.asg (T 17) none)] false) .ret) .skip)))) (.reg [P 18 (.bin .add (T 8) (C 1)),M 8 18] false))))))) (.seq (.reg [⟨(some 4),(.asg (.c (.int .i64 (-1))) none),none,[]⟩] false) .ret)))
theorem Aip : (Tryd.f59.body.bind (Ju Tryd.prog Tryd.f59.ntmps)) = some Afp:=by kernel_rfl
theorem Aiq : Tryd.f59.results.toList.mapM (JE Tryd.prog) = some [(.t 4)]:=by kernel_rfl
def OD (a : (List Int) × Int) : List D:=[.sl (a.1.map Jc),.int .i64 a.2]
def OC (ds : List D) : (List Int) × Int:=((uL uI) (ds.getD 0 .top),uI (ds.getD 1 .top))
theorem SN (a : (List Int) × Int) : OC (OD a) = a:=by simp [OC,OD,uI,KE (u:=uI) (en:=Jc) (fun _=>rfl)]
def Tq (b : Int) : D:=.int .i64 b
def Tp (_b : Int) : List D:=[]
noncomputable def PI : Dw.Spec:=Js [] .ground OD OC (fun a=>LD a.1 a.2) Tq Tp
set_option maxHeartbeats 4000000 in
theorem Yo : Jr Tryd.prog 59 PI:=by
 refine JA (JW) Tryd.func59 (by decide) Aip Aiq (np:=2) (by decide) SN (fun _=>r) (fun _=>r) (by decide)<|?_
 rintro ⟨s1,v2⟩
 show TrE (specs []) Afp (JH [] .ground [(.t 4)] Tq Tp) ⟨[(0,.sl (s1.map Jc)),(1,.int .i64 v2)],[],262144⟩ (LD s1 v2)
 refine Jv<|?_
 unfold Afp LD
 refine sQ<|rG<|aS r r<|nI<|xS<|sQ<|sQ<|rG<|mV r r<|lS r r<|mV r r<|nI<|xS<|bK<|lP (E:=fun (s : Int) (g : Unit)=>[(0,.sl (s1.map Jc)),(1,.int .i64 v2),(7,.int .i64 (s1.length : Int)),(8,.int .i64 s)]) (O:=fun s g=>[]) (body:=fun s=>KU s1 v2 s) (s:=0) () ((hE ⟨rfl,r,r,r,trivial⟩ trivial))<|?_
 rintro x3 ⟨⟩ nn
 try dsimp only
 unfold KU
 refine sQ<|rG<|bN (v:=.bool (decide (x3 < (s1.length : Int)))) r r r r r<|nI<|xS<|sQ<|cD (c:=(decide (x3 < (s1.length : Int)))) r ?_ ?_
 ·refine sK<|xS<|sQ<|bK<|sQ<|rG<|mV r r<|aS r r<|nI<|xS<|sQ<|rG<|mV r r<|mV r r<|mV r r<|bD fun x_x4 hx_x4=>iS (en:=Jc) r r r hx_x4 r<|lF (v:=.int .i64 x_x4) r r r r<|bN (v:=.bool (v2 == x_x4)) r r r r r<|nI<|xS<|cD (c:=(v2 == x_x4)) r ?_ ?_
  ·refine sQ<|rG<|mV r r<|aS r r<|nI<|xS<|rT<|bR<|xR<|lR<|bR<|xR<|Jo (b:=x3) r ?_ r r ?_ r
   all_goals first|(simp;done)|(simp;omega)|rfl|(simp [Jk,Ji];done)
  ·exact sK<|bM<|xS<|rG<|bN (v:=.int .i64 (IntKind.i64.wrap (x3 + 1))) r r r r r<|mV r r<|nI<|xL (s:=IntKind.i64.wrap (x3 + 1)) () ((hE ⟨rfl,r,r,r,trivial⟩ trivial))
 ·refine eT<|xE<|lE<|bH<|xS<|sQ<|rG<|aS r r<|nI<|xS<|rT<|Jo (b:=(-1)) r ?_ r r ?_ r
  all_goals first|(simp;done)|(simp;omega)|rfl|(simp [Jk,Ji];done)

def AeV : Jt:=(.seq (.reg [P 4 (.asg (.c (.bool false)) none)] false) (.seq (.reg [M 5 0,M 6 1,P 7 (.call (.c (.clo 59 [])) [(T 5),(T 6)]),P 8 (.bin .geq (T 7) (C 0)),P 4 (.asg (T 8) none)] false) .ret))
theorem AhB : (Tryd.f34.body.bind (Ju Tryd.prog Tryd.f34.ntmps)) = some AeV:=by kernel_rfl
theorem AhC : Tryd.f34.results.toList.mapM (JE Tryd.prog) = some [(.t 4)]:=by kernel_rfl
def NC (a : (List Int) × Int) : List D:=[.sl (a.1.map Jc),.int .i64 a.2]
def NB (ds : List D) : (List Int) × Int:=((uL uI) (ds.getD 0 .top),uI (ds.getD 1 .top))
theorem NZ (a : (List Int) × Int) : NB (NC a) = a:=by simp [NB,NC,uI,KE (u:=uI) (en:=Jc) (fun _=>rfl)]
def RR (b : Bool) : D:=.bool b
def RQ (_b : Bool) : List D:=[]
noncomputable def Ol : Dw.Spec:=Js [] .ground NC NB (fun a=>Kx a.1 a.2) RR RQ
set_option maxHeartbeats 4000000 in
theorem WQ : Jr Tryd.prog 34 Ol:=by
 refine JA (Jw (l:=[(59,PI)]) (by simp [Yo])) Tryd.func34 (by decide) AhB AhC (np:=2) (by decide) NZ (fun _=>r) (fun _=>r) (by decide)<|?_
 rintro ⟨s1,v2⟩
 show TrE (specs [(59,PI)]) AeV (JH [] .ground [(.t 4)] RR RQ) ⟨[(0,.sl (s1.map Jc)),(1,.int .i64 v2)],[],262144⟩ (Kx s1 v2)
 refine Jv<|?_
 unfold AeV Kx
 refine sQ<|rG<|aS r r<|nI<|xS<|sQ<|rG<|mV r r<|mV r r<|bD fun r3 hr3=>cG (s1,v2) r r r SN r r (by simp) r hr3 r<|bN (v:=.bool (decide (r3 ≥ 0))) r r r r r<|aS r r<|nI<|xS<|rT<|Jo (b:=(decide (r3 ≥ 0))) r ?_ r r ?_ r
 all_goals first|(simp;done)|(simp;omega)|rfl|(simp [Jk,Ji];done)

def AfG : Jt:=(.seq (.reg [P 2 (.asg (.c (.bool false)) none)] false) (.seq (.reg [M 3 0,M 4 0,P 5 (.bin .neq (T 3) (T 4)),P 2 (.asg (T 5) none)] false) .ret))
theorem AiX : (Tryd.f79.body.bind (Ju Tryd.prog Tryd.f79.ntmps)) = some AfG:=by kernel_rfl
theorem AiY : Tryd.f79.results.toList.mapM (JE Tryd.prog) = some [(.t 2)]:=by kernel_rfl
def SV (a : Int) : List D:=[.int .i64 a]
def SU (ds : List D) : Int:=uI (ds.getD 0 .top)
theorem TM (a : Int) : SU (SV a) = a:=by simp [SU,SV,uI]
def Yy (b : Bool) : D:=.bool b
def Yx (_b : Bool) : List D:=[]
noncomputable def Ux : Dw.Spec:=Js [] .ground SV SU (fun a=>OZ a) Yy Yx
set_option maxHeartbeats 4000000 in
theorem Abi : Jr Tryd.prog 79 Ux:=by
 refine JA (JW) Tryd.func79 (by decide) AiX AiY (np:=1) (by decide) TM (fun _=>r) (fun _=>r) (by decide)<|?_
 intro x1
 show TrE (specs []) AfG (JH [] .ground [(.t 2)] Yy Yx) ⟨[(0,.int .i64 x1)],[],262144⟩ (OZ x1)
 refine Jv<|?_
 unfold AfG OZ
 refine sQ<|rG<|aS r r<|nI<|xS<|sQ<|rG<|mV r r<|mV r r<|bN (v:=.bool (x1 != x1)) r r r r r<|aS r r<|nI<|xS<|rT<|Jo (b:=(x1 != x1)) r ?_ r r ?_ r
 all_goals first|(simp;done)|(simp;omega)|rfl|(simp [Jk,Ji];done)

def Afq : Jt:=(.seq (.reg [P 4 (.asg (.c (.bool false)) none)] false) (.seq (.reg [M 5 0,P 6 (.call (.c (.clo 79 [])) [(T 5)]),M 7 6,⟨(some 8),(.mv (T 1)),(some ⟨7,true⟩),[]⟩,⟨(some 9),(.call (.c (.clo 79 [])) [(T 8)]),(some ⟨7,true⟩),[]⟩,⟨(some 10),(.un .not (T 9)),(some ⟨7,true⟩),[]⟩,P 11 (.pick (T 7) (T 10) (.c (.bool false))),M 12 11,⟨(some 13),(.mv (T 0)),(some ⟨12,false⟩),[]⟩,⟨(some 14),(.mv (T 1)),(some ⟨12,false⟩),[]⟩,⟨(some 15),(.bin .lss (T 13) (T 14)),(some ⟨12,false⟩),[]⟩,P 16 (.pick (T 12) (.c (.bool true)) (T 15)),P 4 (.asg (T 16) none)] false) .ret))
theorem Air : (Tryd.f60.body.bind (Ju Tryd.prog Tryd.f60.ntmps)) = some Afq:=by kernel_rfl
theorem Ais : Tryd.f60.results.toList.mapM (JE Tryd.prog) = some [(.t 4)]:=by kernel_rfl
def TL (a : Int × Int) : List D:=[.int .i64 a.1,.int .i64 a.2]
def TK (ds : List D) : Int × Int:=(uI (ds.getD 0 .top),uI (ds.getD 1 .top))
theorem Yw (a : Int × Int) : TK (TL a) = a:=by simp [TK,TL,uI]
def YY (b : Bool) : D:=.bool b
def YX (_b : Bool) : List D:=[]
noncomputable def Vn : Dw.Spec:=Js [] .ground TL TK (fun a=>Qa a.1 a.2) YY YX
set_option maxHeartbeats 4000000 in
theorem Abr : Jr Tryd.prog 60 Vn:=by
 refine JA (Jw (l:=[(79,Ux)]) (by simp [Abi])) Tryd.func60 (by decide) Air Ais (np:=2) (by decide) Yw (fun _=>r) (fun _=>r) (by decide)<|?_
 rintro ⟨x1,y2⟩
 show TrE (specs [(79,Ux)]) Afq (JH [] .ground [(.t 4)] YY YX) ⟨[(0,.int .i64 x1),(1,.int .i64 y2)],[],262144⟩ (Qa x1 y2)
 refine Jv<|?_
 unfold Afq Qa
 refine sQ<|rG<|aS r r<|nI<|xS<|sQ<|rG<|mV r r<|bD fun r3 hr3=>cG x1 r r r TM r r (by simp) r hr3 r<|mV r r<|sP 7 (b:=r3) r ?_ ?_
 ·refine mV r r<|bD fun r4 hr4=>cG y2 r r r TM r r (by simp) r hr4 r<|uN (w:=.bool (!r4)) r r r r trivial<|pT r r r r<|mV r r<|sP 12 (b:=(!r4)) r ?_ ?_
  ·refine oF r<|oF r<|oF r<|pT r r r r<|aS r r<|nI<|xS<|rT<|Jo (b:=true) r ?_ r r ?_ r
   all_goals first|(simp;done)|(simp;omega)|rfl|(simp [Jk,Ji];done)
  ·refine mV r r<|mV r r<|bN (v:=.bool (decide (x1 < y2))) r r r r r<|pF r r r r<|aS r r<|nI<|xS<|rT<|Jo (b:=(decide (x1 < y2))) r ?_ r r ?_ r
   all_goals first|(simp;done)|(simp;omega)|rfl|(simp [Jk,Ji];done)
 ·refine oF r<|oF r<|oF r<|pF r r r r<|mV r r<|mV r r<|mV r r<|bN (v:=.bool (decide (x1 < y2))) r r r r r<|pF r r r r<|aS r r<|nI<|xS<|rT<|Jo (b:=(decide (x1 < y2))) r ?_ r r ?_ r
  all_goals first|(simp;done)|(simp;omega)|rfl|(simp [Jk,Ji];done)

def Afr : Jt:=(.seq (.reg [P 2 (.asg (.c (.bool false)) none)] false) (.seq (.reg [M 3 0,M 4 0,P 5 (.bin .neq (T 3) (T 4)),P 2 (.asg (T 5) none)] false) .ret))
theorem Ait : (Tryd.f61.body.bind (Ju Tryd.prog Tryd.f61.ntmps)) = some Afr:=by kernel_rfl
theorem Aiu : Tryd.f61.results.toList.mapM (JE Tryd.prog) = some [(.t 2)]:=by kernel_rfl
def QO (a : Int) : List D:=[.int .i64 a]
def QN (ds : List D) : Int:=uI (ds.getD 0 .top)
theorem RM (a : Int) : QN (QO a) = a:=by simp [QN,QO,uI]
def Wz (b : Bool) : D:=.bool b
def Wy (_b : Bool) : List D:=[]
noncomputable def Sw : Dw.Spec:=Js [] .ground QO QN (fun a=>Nk a) Wz Wy
set_option maxHeartbeats 4000000 in
theorem Aaa : Jr Tryd.prog 61 Sw:=by
 refine JA (JW) Tryd.func61 (by decide) Ait Aiu (np:=1) (by decide) RM (fun _=>r) (fun _=>r) (by decide)<|?_
 intro x1
 show TrE (specs []) Afr (JH [] .ground [(.t 2)] Wz Wy) ⟨[(0,.int .i64 x1)],[],262144⟩ (Nk x1)
 refine Jv<|?_
 unfold Afr Nk
 refine sQ<|rG<|aS r r<|nI<|xS<|sQ<|rG<|mV r r<|mV r r<|bN (v:=.bool (x1 != x1)) r r r r r<|aS r r<|nI<|xS<|rT<|Jo (b:=(x1 != x1)) r ?_ r r ?_ r
 all_goals first|(simp;done)|(simp;omega)|rfl|(simp [Jk,Ji];done)

def AeW : Jt:=(.seq (.reg [P 4 (.asg (C 0) none),P 5 (.asg (.c (.bool false)) none)] false) (.seq (.reg [M 10 0,P 11 (.len false (T 10)),P 6 (.asg (T 11) none)] false) (.seq (.reg [M 12 6,P 7 (.asg (C 0) none),P 8 (.asg (T 12) none)] false) (.seq (.block 0 (.loop (.seq (.seq (.reg [M 13 7,M 14 8,P 15 (.bin .lss (T 13) (T 14))] false) (.cond (T 15) .skip (.exit 0))) (.block 1 (.seq (.reg [M 16 7,M 17 8,P 18 (.bin .add (T 16) (T 17)),P 19 (.cvt .u64 (T 18)),P 20 (.bin .shr (T 19) (.c (.int .u64 1))),P 21 (.cvt .i64 (T 20)),P 9 (.asg (T 21) none)] false) (.seq (.reg [M 22 0,M 23 9,P 24 (.ixA 1 (T 22) (T 23)),P 25 (.ld 1 false (T 24)),M 26 1,P 27 (.call (.c (.clo 60 [])) [(T 25),(T 26)])] false) (.cond (T 27) (.reg [M 28 9,P 29 (.bin .add (T 28) (C 1)),P 7 (.asg (T 29) none)] false) (.reg [M 30 9,P 8 (.asg (T 30) none)] false)))))))) (.seq (.reg [M 31 7,M 32 7,M 33 6,P 34 (.bin .lss (T 32) (T 33)),M 35 34,⟨(some 36),(.mv (T 0)),(some ⟨35,true⟩),[]⟩,⟨(some 37),(.mv (T 7)),(some ⟨35,true⟩),[]⟩,⟨(some 38),(.ixA 1 (T 36) (T 37)),(some ⟨35,true⟩),[]⟩,⟨(some 39),(.ld 1 false (T 38)),(some ⟨35,true⟩),[]⟩,⟨(some 40),(.mv (T 1)),(some ⟨35,true⟩),[]⟩,⟨(some 41),(.bin .eql (T 39) (T 40)),(some ⟨35,true⟩),[]⟩,⟨(some 42),(.mv (T 41)),(some ⟨35,true⟩),[]⟩,⟨(some 43),(.mv (T 0)),(some ⟨42,false⟩),[]⟩,⟨(some 44),(.mv (T 7)),(some ⟨42,false⟩),[]⟩,⟨(some 45),(.ixA 1 (T 43) (T 44)),(some ⟨42,false⟩),[]⟩,⟨(some 46),(.ld 1 false (T 45)),(some ⟨42,false⟩),[]⟩,⟨(some 47),(.call (.c (.clo 61 [])) [(T 46)]),(some ⟨42,false⟩),[]⟩,⟨(some 48),(.mv (T 47)),(some ⟨42,false⟩),[]⟩,⟨(some 49),(.mv (T 1)),(some ⟨48,true⟩),[]⟩,⟨(some 50),(.call (.c (.clo 61 [])) [(T 49)]),(some ⟨48,true⟩),[]⟩,⟨(some 51),(.pick (T 48) (T 50) (.c (.bool false))),(some ⟨42,false⟩),[]⟩,⟨(some 52),(.pick (T 42) (.c (.bool true)) (T 51)),(some ⟨35,true⟩),[]⟩,P 53 (.pick (T 35) (T 52) (.c (.bool false))),P 4 (.asg (T 31) none),P 5 (.asg (T 53) none)] false) .ret)))))
theorem AhD : (Tryd.f35.body.bind (Ju Tryd.prog Tryd.f35.ntmps)) = some AeW:=by kernel_rfl
theorem AhE : Tryd.f35.results.toList.mapM (JE Tryd.prog) = some [(.t 4),(.t 5)]:=by kernel_rfl
def Mu (a : (List Int) × Int) : List D:=[.sl (a.1.map Jc),.int .i64 a.2]
def Mt (ds : List D) : (List Int) × Int:=((uL uI) (ds.getD 0 .top),uI (ds.getD 1 .top))
theorem Ps (a : (List Int) × Int) : Mt (Mu a) = a:=by simp [Mt,Mu,uI,KE (u:=uI) (en:=Jc) (fun _=>rfl)]
def PR (b : Int × Bool) : D:=.tup [.int .i64 b.1,.bool b.2]
def PQ (_b : Int × Bool) : List D:=[]
noncomputable def MT : Dw.Spec:=Js [] .ground Mu Mt (fun a=>Kt a.1 a.2) PR PQ
set_option maxHeartbeats 4000000 in
theorem UX : Jr Tryd.prog 35 MT:=by
 refine JA (Jw (l:=[(60,Vn),(61,Sw)]) (by simp [Abr,Aaa])) Tryd.func35 (by decide) AhD AhE (np:=2) (by decide) Ps (fun _=>r) (fun _=>r) (by decide)<|?_
 rintro ⟨x1,target2⟩
 show TrE (specs [(60,Vn),(61,Sw)]) AeW (JH [] .ground [(.t 4),(.t 5)] PR PQ) ⟨[(0,.sl (x1.map Jc)),(1,.int .i64 target2)],[],262144⟩ (Kt x1 target2)
 refine Jv<|?_
 unfold AeW Kt
 refine sQ<|rG<|aS r r<|aS r r<|nI<|xS<|sQ<|rG<|mV r r<|lS r r<|aS r r<|nI<|xS<|sQ<|rG<|mV r r<|aS r r<|aS r r<|nI<|xS<|bC (E:=fun (s : Int) (g : Unit)=>[(0,.sl (x1.map Jc)),(1,.int .i64 target2),(6,.int .i64 (x1.length : Int)),(7,.int .i64 s)]) (O:=fun s g=>[]) (j:=fun s=>Kh x1 target2 s) ?_ ?_
 ·refine lP (E:=fun (s : Int × Int) (g : Unit)=>[(0,.sl (x1.map Jc)),(1,.int .i64 target2),(6,.int .i64 (x1.length : Int)),(7,.int .i64 s.1),(8,.int .i64 s.2)]) (O:=fun s g=>[]) (body:=fun s=>JM x1 target2 s.1 s.2) (s:=(0,(x1.length : Int))) () ((hE ⟨rfl,r,r,r,r,trivial⟩ trivial))<|?_
  rintro ⟨i4,j5⟩ ⟨⟩ nn
  try dsimp only
  unfold JM
  refine sQ<|sQ<|rG<|mV r r<|mV r r<|bN (v:=.bool (decide (i4 < j5))) r r r r r<|nI<|xS<|cD (c:=(decide (i4 < j5))) r ?_ ?_
  ·refine sK<|xS<|bK<|sQ<|rG<|mV r r<|mV r r<|bN (v:=.int .i64 (IntKind.i64.wrap (i4 + j5))) r r r r r<|cT r r<|bN (v:=.int .u64 ((IntKind.u64.wrap (IntKind.i64.wrap (i4 + j5))).fdiv (2 ^ (Nat.min (1 : Int).toNat IntKind.u64.bits)))) r r r r (by decide)<|cT r r<|aS r r<|nI<|xS<|sQ<|rG<|mV r r<|mV r r<|bD fun x_x6 hx_x6=>iS (en:=Jc) r r r hx_x6 r<|lF (v:=.int .i64 x_x6) r r r r<|mV r r<|bD fun r7 hr7=>cG (x_x6,target2) r r r Yw r r (by simp) r hr7 r<|nI<|xS<|cD (c:=r7) r ?_ ?_
   ·exact rG<|mV r r<|bN (v:=.int .i64 (IntKind.i64.wrap ((IntKind.i64.wrap ((IntKind.u64.wrap (IntKind.i64.wrap (i4 + j5))).fdiv (2 ^ (Nat.min (1 : Int).toNat IntKind.u64.bits)))) + 1))) r r r r r<|aS r r<|nI<|bM<|xL (s:=(IntKind.i64.wrap ((IntKind.i64.wrap ((IntKind.u64.wrap (IntKind.i64.wrap (i4 + j5))).fdiv (2 ^ (Nat.min (1 : Int).toNat IntKind.u64.bits)))) + 1),j5)) () ((hE ⟨rfl,r,r,r,r,trivial⟩ trivial))
   ·exact rG<|mV r r<|aS r r<|nI<|bM<|xL (s:=(i4,IntKind.i64.wrap ((IntKind.u64.wrap (IntKind.i64.wrap (i4 + j5))).fdiv (2 ^ (Nat.min (1 : Int).toNat IntKind.u64.bits))))) () ((hE ⟨rfl,r,r,r,r,trivial⟩ trivial))
  ·exact eT<|xE<|lE<|ZW (s:=i4) () ((hE ⟨rfl,r,r,r,trivial⟩ trivial))
 ·rintro i3 ⟨⟩ nn
  try dsimp only
  unfold Kh
  refine sQ<|rG<|mV r r<|mV r r<|mV r r<|bN (v:=.bool (decide (i3 < (x1.length : Int)))) r r r r r<|mV r r<|sP 35 (b:=(decide (i3 < (x1.length : Int)))) r ?_ ?_
  ·refine mV r r<|mV r r<|bD fun x_x8 hx_x8=>iS (en:=Jc) r r r hx_x8 r<|lF (v:=.int .i64 x_x8) r r r r<|mV r r<|bN (v:=.bool (x_x8 == target2)) r r r r r<|mV r r<|sP 42 (b:=(x_x8 == target2)) r ?_ ?_
   ·refine oF r<|oF r<|oF r<|oF r<|oF r<|oF r<|oF r<|oF r<|oF r<|pT r r r r<|pT r r r r<|aS r r<|aS r r<|nI<|xS<|rT<|Km (b:=(i3,true)) r ?_ r r ?_ r (by decide)
    all_goals first|(simp;done)|(simp;omega)|rfl|(simp [Jk,Ji];done)
   ·refine mV r r<|mV r r<|bD fun x_x9 hx_x9=>iS (en:=Jc) r r r hx_x9 r<|lF (v:=.int .i64 x_x9) r r r r<|bD fun r10 hr10=>cG x_x9 r r r RM r r (by simp) r hr10 r<|mV r r<|sP 48 (b:=r10) r ?_ ?_
    ·refine mV r r<|bD fun r11 hr11=>cG target2 r r r RM r r (by simp) r hr11 r<|pT r r r r<|pF r r r r<|pT r r r r<|aS r r<|aS r r<|nI<|xS<|rT<|Km (b:=(i3,r11)) r ?_ r r ?_ r (by decide)
     all_goals first|(simp;done)|(simp;omega)|rfl|(simp [Jk,Ji];done)
    ·refine oF r<|oF r<|pF r r r r<|pF r r r r<|pT r r r r<|aS r r<|aS r r<|nI<|xS<|rT<|Km (b:=(i3,false)) r ?_ r r ?_ r (by decide)
     all_goals first|(simp;done)|(simp;omega)|rfl|(simp [Jk,Ji];done)
  ·refine oF r<|oF r<|oF r<|oF r<|oF r<|oF r<|oF r<|oF r<|oF r<|oF r<|oF r<|oF r<|oF r<|oF r<|oF r<|oF r<|oF r<|pF r r r r<|aS r r<|aS r r<|nI<|xS<|rT<|Km (b:=(i3,false)) r ?_ r r ?_ r (by decide)
   all_goals first|(simp;done)|(simp;omega)|rfl|(simp [Jk,Ji];done)

def AeI : Jt:=(.seq (.reg [P 4 (.asg (.c (.bool false)) none)] false) (.seq (.seq (.reg [M 13 0,P 14 (.len false (T 13)),M 15 1,P 16 (.bin .neq (T 14) (T 15))] false) (.cond (T 16) (.seq (.reg [P 4 (.asg (.c (.bool false)) none)] false) .ret) .skip)) (.seq (.seq (.reg [M 17 0,P 18 (.len false (T 17)),P 19 (.mv (C 0))] false) (.block 0 (.loop (.seq (.reg [P 20 (.bin .lss (T 19) (T 18))] false) (.seq (.cond (T 20) .skip (.exit 0)) (.seq (.block 1 (.seq (.reg [M 21 19,P 22 (.ixA 1 (T 17) (T 19)),P 23 (.ld 1 false (T 22)),P 5 (.asg (T 21) none),⟨(some 6),(.asg (T 23) (some ⟨1,3⟩)),none,[]⟩] false) (.seq (.reg [M 24 6,P 25 (.call (.c (.clo 33 [])) [(T 24)]),P 26 (.un .not (T 25)),M 27 26,⟨(some 28),(.mv (T 6)),(some ⟨27,false⟩),[]⟩,⟨(some 29),(.len false (T 28)),(some ⟨27,false⟩),[]⟩,⟨(some 30),(.bin .gtr (T 29) (C 0)),(some ⟨27,false⟩),[]⟩,⟨(some 31),(.mv (T 30)),(some ⟨27,false⟩),[]⟩,⟨(some 32),(.mv (T 6)),(some ⟨31,true⟩),[]⟩,⟨(some 33),(.mv (T 6)),(some ⟨31,true⟩),[]⟩,⟨(some 34),(.len false (T 33)),(some ⟨31,true⟩),[]⟩,⟨(some 35),(.bin .sub (T 34) (C 1)),(some ⟨31,true⟩),[]⟩,⟨(some 36),(.ixA 1 (T 32) (T 35)),(some ⟨31,true⟩),[]⟩,⟨(some 37),(.ld 1 false (T 36)),(some ⟨31,true⟩),[]⟩,⟨(some 38),(.mv (T 1)),(some ⟨31,true⟩),[]⟩,⟨(some 39),(.bin .geq (T 37) (T 38)),(some ⟨31,true⟩),[]⟩,⟨(some 40),(.pick (T 31) (T 39) (.c (.bool false))),(some ⟨27,false⟩),[]⟩,P 41 (.pick (T 27) (.c (.bool true)) (T 40)),M 42 41,⟨(some 43),(.mv (T 6)),(some ⟨42,false⟩),[]⟩,⟨(some 44),(.mv (T 5)),(some ⟨42,false⟩),[]⟩,⟨(some 45),(.call (.c (.clo 34 [])) [(T 43),(T 44)]),(some ⟨42,false⟩),[]⟩,P 46 (.pick (T 42) (.c (.bool true)) (T 45))] false) (.cond (T 46) (.seq (.reg [P 4 (.asg (.c (.bool false)) none)] false) .ret) .skip)))) (.reg [P 47 (.bin .add (T 19) (C 1)),M 19 47] false))))))) (.seq (.seq (.reg [M 48 0,P 49 (.len false (T 48)),P 50 (.mv (C 0))] false) (.block 2 (.loop (.seq (.reg [P 51 (.bin .lss (T 50) (T 49))] false) (.seq (.cond (T 51) .skip (.exit 2)) (.seq (.block 3 (.seq (.reg [M 52 50,P 53 (.ixA 1 (T 48) (T 50)),P 54 (.ld 1 false (T 53)),P 7 (.asg (T 52) none),⟨(some 8),(.asg (T 54) (some ⟨1,3⟩)),none,[]⟩] false) (.seq (.reg [M 55 8,P 56 (.len false (T 55)),P 57 (.mv (C 0))] false) (.block 4 (.loop (.seq (.reg [P 58 (.bin .lss (T 57) (T 56))] false) (.seq (.cond (T 58) .skip (.exit 4)) (.seq (.block 5 (.seq (.reg [P 59 (.ixA 1 (T 55) (T 57)),P 60 (.ld 1 false (T 59)),P 10 (.asg (T 60) none)] false) (.seq (.reg [M 62 0,M 63 10,P 64 (.ixA 1 (T 62) (T 63)),P 65 (.ld 1 false (T 64)),M 66 7,P 67 (.call (.c (.clo 35 [])) [(T 65),(T 66)]),M 61 67,P 68 (.ext (T 61) 0),P 69 (.ext (T 61) 1),P 11 (.asg (T 68) none),P 12 (.asg (T 69) none)] false) (.seq (.reg [M 70 12,P 71 (.un .not (T 70))] false) (.cond (T 71) (.seq (.reg [P 4 (.asg (.c (.bool false)) none)] false) .ret) .skip))))) (.reg [P 72 (.bin .add (T 57) (C 1)),M 57 72] false))))))))) (.reg [P 73 (.bin .add (T 50) (C 1)),M 50 73] false))))))) (.seq (.reg [P 4 (.asg (.c (.bool true)) none)] false) .ret)))))
theorem Ahb : (Tryd.f17.body.bind (Ju Tryd.prog Tryd.f17.ntmps)) = some AeI:=by kernel_rfl
theorem Ahc : Tryd.f17.results.toList.mapM (JE Tryd.prog) = some [(.t 4)]:=by kernel_rfl
def RA (a : (List (List Int)) × Int) : List D:=[.sl (a.1.map (eL Jc)),.int .i64 a.2]
def Rz (ds : List D) : (List (List Int)) × Int:=((uL (uL uI)) (ds.getD 0 .top),uI (ds.getD 1 .top))
theorem Pp (a : (List (List Int)) × Int) : Rz (RA a) = a:=by simp [Rz,RA,uI,KE (u:=(uL uI)) (en:=(eL Jc)) (KE (u:=uI) (en:=Jc) (fun _=>rfl))]
def Xi (b : Bool) : D:=.bool b
def Xh (_b : Bool) : List D:=[]
noncomputable def Td : Dw.Spec:=Js [] .ground RA Rz (fun a=>Le a.1 a.2) Xi Xh
set_option maxHeartbeats 4000000 in
theorem Aak : Jr Tryd.prog 17 Td:=by
 refine JA (Jw (l:=[(33,PV),(34,Ol),(35,MT)]) (by simp [Yq,WQ,UX])) Tryd.func17 (by decide) Ahb Ahc (np:=2) (by decide) Pp (fun _=>r) (fun _=>r) (by decide)<|?_
 rintro ⟨g1,n2⟩
 show TrE (specs [(33,PV),(34,Ol),(35,MT)]) AeI (JH [] .ground [(.t 4)] Xi Xh) ⟨[(0,.sl (g1.map (eL Jc))),(1,.int .i64 n2)],[],262144⟩ (Le g1 n2)
 refine Jv<|?_
 unfold AeI Le
 refine sQ<|rG<|aS r r<|nI<|xS<|sQ<|sQ<|rG<|mV r r<|lS r r<|mV r r<|bN (v:=.bool ((g1.length : Int) != n2)) r r r r r<|nI<|xS<|cD (c:=((g1.length : Int) != n2)) r ?_ ?_
 ·refine sQ<|rG<|aS r r<|nI<|xS<|rT<|xR<|Jo (b:=false) r ?_ r r ?_ r
  all_goals first|(simp;done)|(simp;omega)|rfl|(simp [Jk,Ji];done)
 ·refine sK<|xS<|sQ<|sQ<|rG<|mV r r<|lS r r<|mV r r<|nI<|xS<|bK<|lP (E:=fun (s : Int) (g : Unit)=>[(0,.sl (g1.map (eL Jc))),(1,.int .i64 n2),(17,.sl (g1.map (eL Jc))),(18,.int .i64 (g1.length : Int)),(19,.int .i64 s)]) (O:=fun s g=>[]) (body:=fun s=>JP g1 n2 s) (s:=0) () ((hE ⟨rfl,r,r,r,r,trivial⟩ trivial))<|?_
  rintro x3 ⟨⟩ nn
  try dsimp only
  unfold JP
  refine sQ<|rG<|bN (v:=.bool (decide (x3 < (g1.length : Int)))) r r r r r<|nI<|xS<|sQ<|cD (c:=(decide (x3 < (g1.length : Int)))) r ?_ ?_
  ·refine sK<|xS<|sQ<|bK<|sQ<|rG<|mV r r<|bD fun x_x4 hx_x4=>iS (en:=(eL Jc)) r r r hx_x4 r<|lF (v:=.sl (x_x4.map Jc)) r r r r<|aS r r<|aL r r<|nI<|xS<|sQ<|rG<|mV r r<|bD fun r5 hr5=>cG x_x4 r r r Up r r (by simp) r hr5 r<|uN (w:=.bool (!r5)) r r r r trivial<|mV r r<|sP 27 (b:=(!r5)) r ?_ ?_
   ·refine oF r<|oF r<|oF r<|oF r<|oF r<|oF r<|oF r<|oF r<|oF r<|oF r<|oF r<|oF r<|oF r<|pT r r r r<|mV r r<|oF r<|oF r<|oF r<|pT r r r r<|nI<|xS<|JX r<|sQ<|rG<|aS r r<|nI<|xS<|rT<|bR<|xR<|lR<|bR<|xR<|Jo (b:=false) r ?_ r r ?_ r
    all_goals first|(simp;done)|(simp;omega)|rfl|(simp [Jk,Ji];done)
   ·refine mV r r<|lS r r<|bN (v:=.bool (decide ((x_x4.length : Int) > 0))) r r r r r<|mV r r<|sP 31 (b:=(decide ((x_x4.length : Int) > 0))) r ?_ ?_
    ·refine mV r r<|mV r r<|lS r r<|bN (v:=.int .i64 (IntKind.i64.wrap ((x_x4.length : Int) - 1))) r r r r r<|bD fun x_x6 hx_x6=>iS (en:=Jc) r r r hx_x6 r<|lF (v:=.int .i64 x_x6) r r r r<|mV r r<|bN (v:=.bool (decide (x_x6 ≥ n2))) r r r r r<|pT r r r r<|pF r r r r<|mV r r<|sP 42 (b:=(decide (x_x6 ≥ n2))) r ?_ ?_
     ·refine oF r<|oF r<|oF r<|pT r r r r<|nI<|xS<|JX r<|sQ<|rG<|aS r r<|nI<|xS<|rT<|bR<|xR<|lR<|bR<|xR<|Jo (b:=false) r ?_ r r ?_ r
      all_goals first|(simp;done)|(simp;omega)|rfl|(simp [Jk,Ji];done)
     ·refine mV r r<|mV r r<|bD fun r7 hr7=>cG (x_x4,x3) r r r NZ r r (by simp) r hr7 r<|pF r r r r<|nI<|xS<|cD (c:=r7) r ?_ ?_
      ·refine sQ<|rG<|aS r r<|nI<|xS<|rT<|bR<|xR<|lR<|bR<|xR<|Jo (b:=false) r ?_ r r ?_ r
       all_goals first|(simp;done)|(simp;omega)|rfl|(simp [Jk,Ji];done)
      ·exact sK<|bM<|xS<|rG<|bN (v:=.int .i64 (IntKind.i64.wrap (x3 + 1))) r r r r r<|mV r r<|nI<|xL (s:=IntKind.i64.wrap (x3 + 1)) () ((hE ⟨rfl,r,r,r,r,trivial⟩ trivial))
    ·refine oF r<|oF r<|oF r<|oF r<|oF r<|oF r<|oF r<|oF r<|pF r r r r<|pF r r r r<|mV r r<|mV r r<|mV r r<|bD fun r8 hr8=>cG (x_x4,x3) r r r NZ r r (by simp) r hr8 r<|pF r r r r<|nI<|xS<|cD (c:=r8) r ?_ ?_
     ·refine sQ<|rG<|aS r r<|nI<|xS<|rT<|bR<|xR<|lR<|bR<|xR<|Jo (b:=false) r ?_ r r ?_ r
      all_goals first|(simp;done)|(simp;omega)|rfl|(simp [Jk,Ji];done)
     ·exact sK<|bM<|xS<|rG<|bN (v:=.int .i64 (IntKind.i64.wrap (x3 + 1))) r r r r r<|mV r r<|nI<|xL (s:=IntKind.i64.wrap (x3 + 1)) () ((hE ⟨rfl,r,r,r,r,trivial⟩ trivial))
  ·refine eT<|xE<|lE<|bH<|xS<|sQ<|sQ<|rG<|mV r r<|lS r r<|mV r r<|nI<|xS<|bK<|lP (E:=fun (s : Int) (g : Unit)=>[(0,.sl (g1.map (eL Jc))),(48,.sl (g1.map (eL Jc))),(49,.int .i64 (g1.length : Int)),(50,.int .i64 s)]) (O:=fun s g=>[]) (body:=fun s=>KO g1 s) (s:=0) () ((hE ⟨rfl,r,r,r,trivial⟩ trivial))<|?_
   rintro x9 ⟨⟩ nn
   try dsimp only
   unfold KO
   refine sQ<|rG<|bN (v:=.bool (decide (x9 < (g1.length : Int)))) r r r r r<|nI<|xS<|sQ<|cD (c:=(decide (x9 < (g1.length : Int)))) r ?_ ?_
   ·refine sK<|xS<|sQ<|bK<|sQ<|rG<|mV r r<|bD fun x_x10 hx_x10=>iS (en:=(eL Jc)) r r r hx_x10 r<|lF (v:=.sl (x_x10.map Jc)) r r r r<|aS r r<|aL r r<|nI<|xS<|sQ<|rG<|mV r r<|lS r r<|mV r r<|nI<|xS<|bK<|lP (E:=fun (s : Int) (g : Unit)=>[(0,.sl (g1.map (eL Jc))),(7,.int .i64 x9),(48,.sl (g1.map (eL Jc))),(49,.int .i64 (g1.length : Int)),(50,.int .i64 x9),(55,.sl (x_x10.map Jc)),(56,.int .i64 (x_x10.length : Int)),(57,.int .i64 s)]) (O:=fun s g=>[]) (body:=fun s=>KP x_x10 g1 x9 s) (s:=0) () ((hE ⟨rfl,r,r,r,r,r,r,r,trivial⟩ trivial))<|?_
    rintro x11 ⟨⟩ nn
    try dsimp only
    unfold KP
    refine sQ<|rG<|bN (v:=.bool (decide (x11 < (x_x10.length : Int)))) r r r r r<|nI<|xS<|sQ<|cD (c:=(decide (x11 < (x_x10.length : Int)))) r ?_ ?_
    ·refine sK<|xS<|sQ<|bK<|sQ<|rG<|bD fun x_x12 hx_x12=>iS (en:=Jc) r r r hx_x12 r<|lF (v:=.int .i64 x_x12) r r r r<|aS r r<|nI<|xS<|sQ<|rG<|mV r r<|mV r r<|bD fun x_x13 hx_x13=>iS (en:=(eL Jc)) r r r hx_x13 r<|lF (v:=.sl (x_x13.map Jc)) r r r r<|mV r r<|bD fun r14 hr14=>cG (x_x13,x9) r r r Ps r r (by simp) r hr14 r<|mV r r<|eX (v:=.int .i64 r14.1) r r r<|eX (v:=.bool r14.2) r r r<|aS r r<|aS r r<|nI<|xS<|sQ<|rG<|mV r r<|uN (w:=.bool (!r14.2)) r r r r trivial<|nI<|xS<|cD (c:=(!r14.2)) r ?_ ?_
     ·refine sQ<|rG<|aS r r<|nI<|xS<|rT<|bR<|xR<|lR<|bR<|bR<|xR<|lR<|bR<|xR<|Jo (b:=false) r ?_ r r ?_ r
      all_goals first|(simp;done)|(simp;omega)|rfl|(simp [Jk,Ji];done)
     ·exact sK<|bM<|xS<|rG<|bN (v:=.int .i64 (IntKind.i64.wrap (x11 + 1))) r r r r r<|mV r r<|nI<|xL (s:=IntKind.i64.wrap (x11 + 1)) () ((hE ⟨rfl,r,r,r,r,r,r,r,trivial⟩ trivial))
    ·exact eT<|xE<|lE<|bH<|bM<|xS<|rG<|bN (v:=.int .i64 (IntKind.i64.wrap (x9 + 1))) r r r r r<|mV r r<|nI<|xL (s:=IntKind.i64.wrap (x9 + 1)) () ((hE ⟨rfl,r,r,r,trivial⟩ trivial))
   ·refine eT<|xE<|lE<|bH<|xS<|sQ<|rG<|aS r r<|nI<|xS<|rT<|Jo (b:=true) r ?_ r r ?_ r
    all_goals first|(simp;done)|(simp;omega)|rfl|(simp [Jk,Ji];done)

def Afs : Jt:=(.seq (.reg [P 4 (.asg (.c (.bool false)) none)] false) (.seq (.seq (.reg [P 5 (.asg (C 0) none)] false) (.block 0 (.loop (.seq (.seq (.reg [M 6 5,M 7 0,P 8 (.len false (T 7)),P 9 (.bin .lss (T 6) (T 8))] false) (.cond (T 9) .skip (.exit 0))) (.seq (.block 1 (.seq (.reg [M 12 0,M 13 5,P 14 (.ixA 1 (T 12) (T 13)),P 15 (.ld 1 false (T 14)),M 16 1,P 17 (.bin .eql (T 15) (T 16))] false) (.cond (T 17) (.seq (.reg [P 4 (.asg (.c (.bool true)) none)] false) .ret) .skip))) (.reg [M 10 5,P 11 (.bin .add (T 10) (C 1)),P 5 (.asg (T 11) none)] false)))))) (.seq (.reg [P 4 (.asg (.c (.bool false)) none)] false) .ret)))
theorem Aiv : (Tryd.f62.body.bind (Ju Tryd.prog Tryd.f62.ntmps)) = some Afs:=by kernel_rfl
theorem Aiw : Tryd.f62.results.toList.mapM (JE Tryd.prog) = some [(.t 4)]:=by kernel_rfl
def WM (a : (List Int) × Int) : List D:=[.sl (a.1.map Jc),.int .i64 a.2]
def WL (ds : List D) : (List Int) × Int:=((uL uI) (ds.getD 0 .top),uI (ds.getD 1 .top))
theorem Aap (a : (List Int) × Int) : WL (WM a) = a:=by simp [WL,WM,uI,KE (u:=uI) (en:=Jc) (fun _=>rfl)]
def Abe (b : Bool) : D:=.bool b
def Abd (_b : Bool) : List D:=[]
noncomputable def YO : Dw.Spec:=Js [] .ground WM WL (fun a=>Um a.1 a.2) Abe Abd
set_option maxHeartbeats 4000000 in
theorem AcZ : Jr Tryd.prog 62 YO:=by
 refine JA (JW) Tryd.func62 (by decide) Aiv Aiw (np:=2) (by decide) Aap (fun _=>r) (fun _=>r) (by decide)<|?_
 rintro ⟨s1,n2⟩
 show TrE (specs []) Afs (JH [] .ground [(.t 4)] Abe Abd) ⟨[(0,.sl (s1.map Jc)),(1,.int .i64 n2)],[],262144⟩ (Um s1 n2)
 refine Jv<|?_
 unfold Afs Um
 refine sQ<|rG<|aS r r<|nI<|xS<|sQ<|sQ<|rG<|aS r r<|nI<|xS<|bK<|lP (E:=fun (s : Int) (g : Unit)=>[(0,.sl (s1.map Jc)),(1,.int .i64 n2),(5,.int .i64 s)]) (O:=fun s g=>[]) (body:=fun s=>Qj s1 n2 s) (s:=0) () ((hE ⟨rfl,r,r,trivial⟩ trivial))<|?_
 rintro i3 ⟨⟩ nn
 try dsimp only
 unfold Qj
 refine sQ<|sQ<|rG<|mV r r<|mV r r<|lS r r<|bN (v:=.bool (decide (i3 < (s1.length : Int)))) r r r r r<|nI<|xS<|cD (c:=(decide (i3 < (s1.length : Int)))) r ?_ ?_
 ·refine sK<|xS<|sQ<|bK<|sQ<|rG<|mV r r<|mV r r<|bD fun x_x4 hx_x4=>iS (en:=Jc) r r r hx_x4 r<|lF (v:=.int .i64 x_x4) r r r r<|mV r r<|bN (v:=.bool (x_x4 == n2)) r r r r r<|nI<|xS<|cD (c:=(x_x4 == n2)) r ?_ ?_
  ·refine sQ<|rG<|aS r r<|nI<|xS<|rT<|bR<|xR<|lR<|bR<|xR<|Jo (b:=true) r ?_ r r ?_ r
   all_goals first|(simp;done)|(simp;omega)|rfl|(simp [Jk,Ji];done)
  ·exact sK<|bM<|xS<|rG<|mV r r<|bN (v:=.int .i64 (IntKind.i64.wrap (i3 + 1))) r r r r r<|aS r r<|nI<|xL (s:=IntKind.i64.wrap (i3 + 1)) () ((hE ⟨rfl,r,r,trivial⟩ trivial))
 ·refine eT<|xE<|lE<|bH<|xS<|sQ<|rG<|aS r r<|nI<|xS<|rT<|Jo (b:=false) r ?_ r r ?_ r
  all_goals first|(simp;done)|(simp;omega)|rfl|(simp [Jk,Ji];done)

def AeX : Jt:=(.seq (.reg [⟨(some 4),(.asg (.c .nils) (some ⟨1,3⟩)),none,[]⟩] false) (.seq (.reg [⟨(some 5),(.asg (.c .nils) (some ⟨1,3⟩)),none,[]⟩] false) (.seq (.seq (.reg [P 6 (.asg (C 0) none)] false) (.block 0 (.loop (.seq (.seq (.reg [M 7 6,M 8 0,P 9 (.len false (T 8)),P 10 (.bin .lss (T 7) (T 9))] false) (.cond (T 10) .skip (.exit 0))) (.seq (.block 1 (.seq (.reg [M 13 1,M 14 0,M 15 6,P 16 (.ixA 1 (T 14) (T 15)),P 17 (.ld 1 false (T 16)),P 18 (.call (.c (.clo 62 [])) [(T 13),(T 17)]),P 19 (.un .not (T 18))] false) (.cond (T 19) (.reg [M 20 5,M 21 0,M 22 6,P 23 (.ixA 1 (T 21) (T 22)),P 24 (.ld 1 false (T 23)),⟨(some 25),(.bldS 1 3 (.int .i64 0) 1 [⟨0,(T 24)⟩]),none,[]⟩,P 26 (.app 1 3 8 (T 20) (T 25)),⟨(some 5),(.asg (T 26) (some ⟨1,3⟩)),none,[]⟩] false) .skip))) (.reg [M 11 6,P 12 (.bin .add (T 11) (C 1)),P 6 (.asg (T 12) none)] false)))))) (.seq (.reg [M 27 5,⟨(some 4),(.asg (T 27) (some ⟨1,3⟩)),none,[]⟩] false) .ret))))
theorem AhF : (Tryd.f36.body.bind (Ju Tryd.prog Tryd.f36.ntmps)) = some AeX:=by kernel_rfl
theorem AhG : Tryd.f36.results.toList.mapM (JE Tryd.prog) = some [(.t 4)]:=by kernel_rfl
def UO (a : (List Int) × (List Int)) : List D:=[.sl (a.1.map Jc),.sl (a.2.map Jc)]
def UN (ds : List D) : (List Int) × (List Int):=((uL uI) (ds.getD 0 .top),(uL uI) (ds.getD 1 .top))
theorem Ze (a : (List Int) × (List Int)) : UN (UO a) = a:=by simp [UN,UO,KE (u:=uI) (en:=Jc) (fun _=>rfl)]
def ZM (b : (List Int)) : D:=.sl (b.map Jc)
def ZL (_b : (List Int)) : List D:=[]
noncomputable def WN : Dw.Spec:=Js [] (.row 1 3) UO UN (fun a=>Rg a.1 a.2) ZM ZL
set_option maxHeartbeats 4000000 in
theorem AbO : Jr Tryd.prog 36 WN:=by
 refine JA (Jw (l:=[(62,YO)]) (by simp [AcZ])) Tryd.func36 (by decide) AhF AhG (np:=2) (by decide) Ze (fun _=>r) (fun _=>r) (by decide)<|?_
 rintro ⟨a1,b2⟩
 show TrE (specs [(62,YO)]) AeX (JH [] (.row 1 3) [(.t 4)] ZM ZL) ⟨[(0,.sl (a1.map Jc)),(1,.sl (b2.map Jc))],[],262144⟩ (Rg a1 b2)
 refine Jv<|?_
 unfold AeX Rg
 refine sQ<|rG<|aN (α:=Int) r Jc r<|nI<|xS<|sQ<|rG<|aN (α:=Int) r Jc r<|nI<|xS<|sQ<|sQ<|rG<|aS r r<|nI<|xS<|bK<|lP (E:=fun (s : (List Int) × Int) (g : Nat)=>[(0,.sl (a1.map Jc)),(1,.sl (b2.map Jc)),(5,.osl 5 g 0 s.1.length),(6,.int .i64 s.2)]) (O:=fun s g=>[(5,some (g,⟨false,false,1,3,s.1.map Jc⟩))]) (body:=fun s=>Nh a1 b2 s.1 s.2) (s:=(([] : List Int),0)) _ ((hE ⟨rfl,r,r,r,trivial⟩ ⟨rfl,trivial⟩))<|?_
 rintro ⟨out3,i4⟩ v5x1 nn
 try dsimp only
 unfold Nh
 refine sQ<|sQ<|rG<|mV r r<|mV r r<|lS r r<|bN (v:=.bool (decide (i4 < (a1.length : Int)))) r r r r r<|nI<|xS<|cD (c:=(decide (i4 < (a1.length : Int)))) r ?_ ?_
 ·refine sK<|xS<|sQ<|bK<|sQ<|rG<|mV r r<|mV r r<|mV r r<|bD fun x_x5 hx_x5=>iS (en:=Jc) r r r hx_x5 r<|lF (v:=.int .i64 x_x5) r r r r<|bD fun r6 hr6=>cG (b2,x_x5) r r r Aap r r (by simp) r hr6 r<|uN (w:=.bool (!r6)) r r r r trivial<|nI<|xS<|cD (c:=(!r6)) r ?_ ?_
  ·exact rG<|mV r r<|mV r r<|mV r r<|bD fun x_x7 hx_x7=>iS (en:=Jc) r r r hx_x7 r<|lF (v:=.int .i64 x_x7) r r r r<|bS ([x_x7] : List Int) Jc r r r (by simp) r r r<|cK fun hq=>aP (out3) (([x_x7] : List Int)) Jc r r r r r r r (by simp) (JI _ _ r) r r (by simp) (Jl _ _ r) (fun _=>r) r hq<|aO (l:=out3 ++ ([x_x7] : List Int)) (en:=Jc) r r r r<|nI<|bM<|xS<|rG<|mV r r<|bN (v:=.int .i64 (IntKind.i64.wrap (i4 + 1))) r r r r r<|aS r r<|nI<|xL (s:=(out3 ++ ([x_x7] : List Int),IntKind.i64.wrap (i4 + 1))) _ ((hE ⟨rfl,r,r,r,trivial⟩ ⟨rfl,trivial⟩))
  ·exact sK<|bM<|xS<|rG<|mV r r<|bN (v:=.int .i64 (IntKind.i64.wrap (i4 + 1))) r r r r r<|aS r r<|nI<|xL (s:=(out3,IntKind.i64.wrap (i4 + 1))) _ ((hE ⟨rfl,r,r,r,trivial⟩ ⟨rfl,trivial⟩))
 ·refine eT<|xE<|lE<|bH<|xS<|sQ<|rG<|mV r r<|aO (l:=out3) (en:=Jc) r r r r<|nI<|xS<|rT<|JN (b:=out3) r ?_ r r ?_ r ?_ (congrArg D.sl (Jl _ _ r)) r
  all_goals first|(simp;done)|(simp;omega)|rfl|(simp [Jk,Ji];done)

def AeJ : Jt:=(.seq (.reg [P 4 (.asg (.c (.bool false)) none)] false) (.seq (.reg [M 5 0,M 6 1,P 7 (.call (.c (.clo 36 [])) [(T 5),(T 6)]),P 8 (.len false (T 7)),P 9 (.bin .eql (T 8) (C 0)),P 4 (.asg (T 9) none)] false) .ret))
theorem Ahd : (Tryd.f18.body.bind (Ju Tryd.prog Tryd.f18.ntmps)) = some AeJ:=by kernel_rfl
theorem Ahe : Tryd.f18.results.toList.mapM (JE Tryd.prog) = some [(.t 4)]:=by kernel_rfl
def TT (a : (List Int) × (List Int)) : List D:=[.sl (a.1.map Jc),.sl (a.2.map Jc)]
def TS (ds : List D) : (List Int) × (List Int):=((uL uI) (ds.getD 0 .top),(uL uI) (ds.getD 1 .top))
theorem US (a : (List Int) × (List Int)) : TS (TT a) = a:=by simp [TS,TT,KE (u:=uI) (en:=Jc) (fun _=>rfl)]
def Zj (b : Bool) : D:=.bool b
def Zi (_b : Bool) : List D:=[]
noncomputable def Vz : Dw.Spec:=Js [] .ground TT TS (fun a=>OA a.1 a.2) Zj Zi
set_option maxHeartbeats 4000000 in
theorem Aby : Jr Tryd.prog 18 Vz:=by
 refine JA (Jw (l:=[(36,WN)]) (by simp [AbO])) Tryd.func18 (by decide) Ahd Ahe (np:=2) (by decide) US (fun _=>r) (fun _=>r) (by decide)<|?_
 rintro ⟨a1,b2⟩
 show TrE (specs [(36,WN)]) AeJ (JH [] .ground [(.t 4)] Zj Zi) ⟨[(0,.sl (a1.map Jc)),(1,.sl (b2.map Jc))],[],262144⟩ (OA a1 b2)
 refine Jv<|?_
 unfold AeJ OA
 refine sQ<|rG<|aS r r<|nI<|xS<|sQ<|rG<|mV r r<|mV r r<|bD fun r3 hr3=>cR (l:=r3) (en:=Jc) (a1,b2) r r r Ze r r (by simp) r hr3 r<|lW r r<|bN (v:=.bool ((r3.length : Int) == 0)) r r r r r<|aS r r<|nI<|xS<|rT<|Jo (b:=((r3.length : Int) == 0)) r ?_ r r ?_ r
 all_goals first|(simp;done)|(simp;omega)|rfl|(simp [Jk,Ji];done)

end Go.Proofs.YtfpgidpffhmadaaDoor
