/-
  Programs on typed data, and the proofs that the code does what they say; written by a program (dx.py).
-/
import Derived.Test.YtgebpjgohchohaaProg
import Derived.Test.YtgebpjgohchohaaDd
import Derived.KernelRfl
import Derived.Test.YtgebpjgohchohaaDxP
import Derived.Test.YtgebpjgohchohaaDxF1
import Derived.Test.YtgebpjgohchohaaDxF2
namespace Go.Proofs.Ytgebpjgohchohaa
open Go Go.Dw Go.Proofs
set_option maxRecDepth 100000
set_option maxHeartbeats 40000000
open Go.Dw renaming PE -> bD,Vy -> cD,Up -> hE,WG -> lP,Vs -> sC,Vz -> bC,rf -> r
def Pk (a : (List Int)) : List D:=[.sl (a.map eU8)]
def Pj (ds : List D) : (List Int):=(uL uI) (ds.getD 0 .top)
theorem Qr (a : (List Int)) : Pj (Pk a) = a:=by simp [Pj,Pk,QY (u:=uI) (en:=eU8) (λ_=>rfl)]
instance : PZ Pk Pj:=⟨Qr⟩
def RT (b : Bool) : D:=.bool b
noncomputable def RU : Dw.Spec:=ON [] .ground Pk Pj (λa=>Ps a) RT noE
theorem RL : OM Try.prog 5 RU:=by
 refine fn2 1 (Pe (l:=[(8,TZ),(9,Th),(11,Rr),(13,Sn),(15,Tk),(17,Tu),(18,Tl)]) (by simp [VA,UR,RY,Ta,UT,Vi,Ua])) Try.func5<|?_
 intro codes1
 unfold Ps
 refine A 8 ?_
 refine bD λr2 hr2=>?_
 refine A 4 ?_
 refine cD r ?_ ?_
 ·exact B
 ·refine A 5 ?_
  refine bD λr3 hr3=>?_
  refine A 8 ?_
  refine bD λr4 hr4=>?_
  refine A 2 ?_
  refine bD λr5 hr5=>?_
  refine A 2 ?_
  refine bD λr6 hr6=>?_
  refine A 9 ?_
  refine bD λr7 hr7=>?_
  refine A 4 ?_
  refine sC (E:=λ(_s : Unit) (g : Nat × Nat × Nat × Nat)=>[(3,.optr 3 g.1 0 0),(4,.sl (r4.map OJ)),(5,.osl 5 g.2.1 0 r5.length),(6,.osl 6 g.2.2.1 0 r6.length),(7,.osl 7 g.2.2.2 0 r7.length)]) (O:=λ_ g=>[(3,dV g.1 3 27 (OK r3)),(5,dW g.2.1 1 3 (r5.map OJ)),(6,dW g.2.2.1 2 35 (r6.map PW)),(7,dW g.2.2.2 1 4 (r7.map D.bool))]) (j:=λ_=>Pn r3 r5 r7 r4 r6) ?_ ?_
  ·exact B
  ·rintro ⟨⟩ ⟨v3x1,v5x1,v6x1,v7x1⟩ nn
   try dsimp only
   unfold Pn
   refine A 12 ?_
   refine lP (E:=λ(s : Int × Int) (g : Nat × Nat × Nat × Nat)=>[(3,.optr 3 g.1 0 0),(4,.sl (r4.map OJ)),(5,.osl 5 g.2.1 0 r5.length),(6,.osl 6 g.2.2.1 0 r6.length),(7,.osl 7 g.2.2.2 0 r7.length),(8,OH s.1),(9,OH s.2)]) (O:=λ_ g=>[(3,dV g.1 3 27 (OK r3)),(5,dW g.2.1 1 3 (r5.map OJ)),(6,dW g.2.2.1 2 35 (r6.map PW)),(7,dW g.2.2.2 1 4 (r7.map D.bool))]) (body:=λs=>OQ r3 r5 r7 r4 r6 s.1 s.2) (s:=(0,0)) (_,_,_,_) ((hE ⟨rfl,r,r,r,r,r,r,trivial⟩ ⟨rfl,r,r,r,trivial⟩))<|?_
   rintro ⟨n9,k10⟩ ⟨v3x2,v5x2,v6x2,v7x2⟩ nn
   try dsimp only
   unfold OQ
   refine A 10 ?_
   refine cD r ?_ ?_
   ·refine A 2 ?_
    refine bC (E:=λ(s : Int × Bool × Int × Bool × Bool × Int × Bool) (g : Nat × Nat × Nat × Nat)=>[(3,.optr 3 g.1 0 0),(4,.sl (r4.map OJ)),(5,.osl 5 g.2.1 0 r5.length),(6,.osl 6 g.2.2.1 0 r6.length),(7,.osl 7 g.2.2.2 0 r7.length),(8,OH s.2.2.2.2.2.1),(9,OH k10),(61,.osl 5 g.2.1 0 r5.length),(62,OH k10),(63,.optr 5 g.2.1 k10.toNat 0),(64,OH s.1),(65,.sl (r4.map OJ)),(66,OH (r4.length : Int)),(67,.bool s.2.1),(70,.osl 5 g.2.1 0 r5.length),(71,OH k10),(72,.optr 5 g.2.1 k10.toNat 0),(73,OH s.2.2.1),(74,.bool s.2.2.2.1),(75,.bool s.2.2.2.2.1),(85,.bool s.2.2.2.2.2.2)]) (O:=λ_ g=>[(3,dV g.1 3 27 (OK r3)),(5,dW g.2.1 1 3 (r5.map OJ)),(6,dW g.2.2.1 2 35 (r6.map PW)),(7,dW g.2.2.2 1 4 (r7.map D.bool))]) (j:=λs=>OW k10 s.1 s.2.1 s.2.2.1 s.2.2.2.1 s.2.2.2.2.1 s.2.2.2.2.2.1 s.2.2.2.2.2.2) ?_ ?_
    ·refine sC (E:=λ(s : Int × Bool × Int × Bool × Bool × Bool) (g : Nat × Nat × Nat × Nat)=>[(3,.optr 3 g.1 0 0),(4,.sl (r4.map OJ)),(5,.osl 5 g.2.1 0 r5.length),(6,.osl 6 g.2.2.1 0 r6.length),(7,.osl 7 g.2.2.2 0 r7.length),(8,OH n9),(9,OH k10),(61,.osl 5 g.2.1 0 r5.length),(62,OH k10),(63,.optr 5 g.2.1 k10.toNat 0),(64,OH s.1),(65,.sl (r4.map OJ)),(66,OH (r4.length : Int)),(67,.bool s.2.1),(70,.osl 5 g.2.1 0 r5.length),(71,OH k10),(72,.optr 5 g.2.1 k10.toNat 0),(73,OH s.2.2.1),(74,.bool s.2.2.2.1),(75,.bool s.2.2.2.2.1),(85,.bool s.2.2.2.2.2)]) (O:=λ_ g=>[(3,dV g.1 3 27 (OK r3)),(5,dW g.2.1 1 3 (r5.map OJ)),(6,dW g.2.2.1 2 35 (r6.map PW)),(7,dW g.2.2.2 1 4 (r7.map D.bool))]) (j:=λs=>OY k10 r7 r3 r6 r5 n9 s.1 s.2.1 s.2.2.1 s.2.2.2.1 s.2.2.2.2.1 s.2.2.2.2.2) ?_ ?_
     ·exact B
     ·rintro ⟨x18,x19,x20,x21,x22,x23⟩ ⟨v3x3,v5x3,v6x3,v7x3⟩ nn
      try dsimp only
      unfold OY
      refine sC (E:=λ(s : Int) (g : Nat × Nat × Nat × Nat)=>[(3,.optr 3 g.1 0 0),(4,.sl (r4.map OJ)),(5,.osl 5 g.2.1 0 r5.length),(6,.osl 6 g.2.2.1 0 r6.length),(7,.osl 7 g.2.2.2 0 r7.length),(8,OH s),(9,OH k10),(61,.osl 5 g.2.1 0 r5.length),(62,OH k10),(63,.optr 5 g.2.1 k10.toNat 0),(64,OH x18),(65,.sl (r4.map OJ)),(66,OH (r4.length : Int)),(67,.bool x19),(70,.osl 5 g.2.1 0 r5.length),(71,OH k10),(72,.optr 5 g.2.1 k10.toNat 0),(73,OH x20),(74,.bool x21),(75,.bool x22),(85,.bool x23)]) (O:=λ_ g=>[(3,dV g.1 3 27 (OK r3)),(5,dW g.2.1 1 3 (r5.map OJ)),(6,dW g.2.2.1 2 35 (r6.map PW)),(7,dW g.2.2.2 1 4 (r7.map D.bool))]) (j:=λs=>OZ r3 k10 r7 r6 r5 x18 x19 x20 x21 x22 x23 s) ?_ ?_
      ·exact B
      ·rintro n30 ⟨v3x4,v5x4,v6x4,v7x4⟩ nn
       try dsimp only
       unfold OZ
       refine A 4 ?_
       refine bD λr32 hr32=>?_
       refine A 10 ?_
       refine lP (E:=λ(s : Int) (g : Nat × Nat × Nat × Nat × Nat)=>[(3,.optr 3 g.1 0 0),(4,.sl (r4.map OJ)),(5,.osl 5 g.2.1 0 r5.length),(6,.osl 6 g.2.2.1 0 r6.length),(7,.osl 7 g.2.2.2.1 0 r7.length),(8,OH n30),(9,OH k10),(10,.osl 10 g.2.2.2.2 0 r32.length),(11,OH s),(61,.osl 5 g.2.1 0 r5.length),(62,OH k10),(63,.optr 5 g.2.1 k10.toNat 0),(64,OH x18),(65,.sl (r4.map OJ)),(66,OH (r4.length : Int)),(67,.bool x19),(70,.osl 5 g.2.1 0 r5.length),(71,OH k10),(72,.optr 5 g.2.1 k10.toNat 0),(73,OH x20),(74,.bool x21),(75,.bool x22),(85,.bool x23)]) (O:=λ_ g=>[(3,dV g.1 3 27 (OK r3)),(5,dW g.2.1 1 3 (r5.map OJ)),(6,dW g.2.2.1 2 35 (r6.map PW)),(7,dW g.2.2.2.1 1 4 (r7.map D.bool)),(10,dW g.2.2.2.2 1 3 (r32.map OJ))]) (body:=λs=>Pa r32 k10 r7 r6 r5 x18 x19 x20 x21 x22 n30 x23 s) (s:=0) (_,_,_,_,_) ((hE ⟨rfl,r,r,r,r,r,r,r,r,r,r,r,r,r,r,r,r,r,r,r,r,r,r,trivial⟩ ⟨rfl,r,r,r,r,trivial⟩))<|?_
       rintro i33 ⟨v3x5,v5x5,v6x5,v7x5,v10x5⟩ nn
       try dsimp only
       unfold Pa
       refine sC (E:=λ(s : Bool) (g : Nat × Nat × Nat × Nat × Nat)=>[(3,.optr 3 g.1 0 0),(4,.sl (r4.map OJ)),(5,.osl 5 g.2.1 0 r5.length),(6,.osl 6 g.2.2.1 0 r6.length),(7,.osl 7 g.2.2.2.1 0 r7.length),(8,OH n30),(9,OH k10),(10,.osl 10 g.2.2.2.2 0 r32.length),(11,OH i33),(61,.osl 5 g.2.1 0 r5.length),(62,OH k10),(63,.optr 5 g.2.1 k10.toNat 0),(64,OH x18),(65,.sl (r4.map OJ)),(66,OH (r4.length : Int)),(67,.bool x19),(70,.osl 5 g.2.1 0 r5.length),(71,OH k10),(72,.optr 5 g.2.1 k10.toNat 0),(73,OH x20),(74,.bool x21),(75,.bool x22),(85,.bool x23),(101,.osl 7 g.2.2.2.1 0 r7.length),(102,OH k10),(103,.optr 7 g.2.2.2.1 k10.toNat 0),(104,.bool s)]) (O:=λ_ g=>[(3,dV g.1 3 27 (OK r3)),(5,dW g.2.1 1 3 (r5.map OJ)),(6,dW g.2.2.1 2 35 (r6.map PW)),(7,dW g.2.2.2.1 1 4 (r7.map D.bool)),(10,dW g.2.2.2.2 1 3 (r32.map OJ))]) (j:=λs=>Pb r6 i33 r32 k10 r5 s) ?_ ?_
       ·exact B
       ·rintro x34 ⟨v3x6,v5x6,v6x6,v7x6,v10x6⟩ nn
        try dsimp only
        unfold Pb
        refine bC (E:=λ(_s : Unit) (g : Nat × Nat × Nat × Nat × Nat)=>[(3,.optr 3 g.1 0 0),(4,.sl (r4.map OJ)),(5,.osl 5 g.2.1 0 r5.length),(6,.osl 6 g.2.2.1 0 r6.length),(7,.osl 7 g.2.2.2.1 0 r7.length),(8,OH n30),(9,OH k10),(10,.osl 10 g.2.2.2.2 0 r32.length),(11,OH i33),(61,.osl 5 g.2.1 0 r5.length),(62,OH k10),(63,.optr 5 g.2.1 k10.toNat 0),(64,OH x18),(65,.sl (r4.map OJ)),(66,OH (r4.length : Int)),(67,.bool x19),(70,.osl 5 g.2.1 0 r5.length),(71,OH k10),(72,.optr 5 g.2.1 k10.toNat 0),(73,OH x20),(74,.bool x21),(75,.bool x22),(85,.bool x23),(101,.osl 7 g.2.2.2.1 0 r7.length),(102,OH k10),(103,.optr 7 g.2.2.2.1 k10.toNat 0),(104,.bool x34)]) (O:=λ_ g=>[(3,dV g.1 3 27 (OK r3)),(5,dW g.2.1 1 3 (r5.map OJ)),(6,dW g.2.2.1 2 35 (r6.map PW)),(7,dW g.2.2.2.1 1 4 (r7.map D.bool)),(10,dW g.2.2.2.2 1 3 (r32.map OJ))]) (j:=λ_=>Po i33) ?_ ?_
        ·refine A 12 ?_
         refine lP (E:=λ(s : Bool × Int) (g : Nat × Nat × Nat × Nat × Nat)=>[(3,.optr 3 g.1 0 0),(4,.sl (r4.map OJ)),(5,.osl 5 g.2.1 0 r5.length),(6,.osl 6 g.2.2.1 0 r6.length),(7,.osl 7 g.2.2.2.1 0 r7.length),(8,OH n30),(9,OH k10),(10,.osl 10 g.2.2.2.2 0 r32.length),(11,OH i33),(12,.bool s.1),(13,OH s.2),(61,.osl 5 g.2.1 0 r5.length),(62,OH k10),(63,.optr 5 g.2.1 k10.toNat 0),(64,OH x18),(65,.sl (r4.map OJ)),(66,OH (r4.length : Int)),(67,.bool x19),(70,.osl 5 g.2.1 0 r5.length),(71,OH k10),(72,.optr 5 g.2.1 k10.toNat 0),(73,OH x20),(74,.bool x21),(75,.bool x22),(85,.bool x23),(101,.osl 7 g.2.2.2.1 0 r7.length),(102,OH k10),(103,.optr 7 g.2.2.2.1 k10.toNat 0),(104,.bool x34)]) (O:=λ_ g=>[(3,dV g.1 3 27 (OK r3)),(5,dW g.2.1 1 3 (r5.map OJ)),(6,dW g.2.2.1 2 35 (r6.map PW)),(7,dW g.2.2.2.1 1 4 (r7.map D.bool)),(10,dW g.2.2.2.2 1 3 (r32.map OJ))]) (body:=λs=>Pm r6 i33 r32 k10 r5 s.1 s.2) (s:=(false,0)) (_,_,_,_,_) ((hE ⟨rfl,r,r,r,r,r,r,r,r,r,r,r,r,r,r,r,r,r,r,r,r,r,r,r,r,r,r,r,r,trivial⟩ ⟨rfl,r,r,r,r,trivial⟩))<|?_
         rintro ⟨goesBack36,j37⟩ ⟨v3x7,v5x7,v6x7,v7x7,v10x7⟩ nn
         try dsimp only
         unfold Pm
         exact B
        ·rintro ⟨⟩ ⟨v3x8,v5x8,v6x8,v7x8,v10x8⟩ nn
         try dsimp only
         unfold Po
         exact B
    ·rintro ⟨x11,x12,x13,x14,x15,n16,x17⟩ ⟨v3x9,v5x9,v6x9,v7x9⟩ nn
     try dsimp only
     unfold OW
     exact B
   ·exact B

end Go.Proofs.Ytgebpjgohchohaa
