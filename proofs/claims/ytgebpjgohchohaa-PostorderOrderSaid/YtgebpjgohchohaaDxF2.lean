/-
  Programs on typed data, and the proofs that the code does what they say; written by a program (dx.py).
-/
import Derived.Test.YtgebpjgohchohaaProg
import Derived.Test.YtgebpjgohchohaaDd
import Derived.KernelRfl
import Derived.Test.YtgebpjgohchohaaDxP
import Derived.Test.YtgebpjgohchohaaDxF1
namespace Go.Proofs.Ytgebpjgohchohaa
open Go Go.Dw Go.Proofs
open Go.IntKind (i64)
set_option maxRecDepth 100000
set_option maxHeartbeats 40000000
open Go.Dw renaming PE -> bD,OU -> cK,Vn -> bS,UD -> aP,Rm -> sE,Vw -> mS,Vy -> cD,Up -> hE,WG -> lP,Vs -> sC,Vz -> bC,rf -> r
noncomputable section
def Qz (a : Ed × OI × Int × (List Int)) : List D:=[OW a.1,OP a.2.1,OH a.2.2.1,.sl (a.2.2.2.map OJ)]
def Qy (ds : List D) : Ed × OI × Int × (List Int):=(Qu (ds.getD 0 .top),Tl (ds.getD 1 .top),uI (ds.getD 2 .top),(uL uI) (ds.getD 3 .top))
theorem Uk (a : Ed × OI × Int × (List Int)) : Qy (Qz a) = a:=by simp [Qy,Qz,uI,QY (u:=uI) (en:=OJ) (λ_=>rfl)]
instance : PZ Qz Qy:=⟨Uk⟩
def UO (b : (List Mk) × Ed) : D:=.sl (b.1.map OL)
def UN (b : (List Mk) × Ed) : List D:=[OW b.2]
def SH : Dw.Spec:=ON [(0,(2,70))] (.row 5 43) Qz Qy (λa=>QG a.1 a.2.1 a.2.2.1 a.2.2.2) UO UN
theorem Ul : OM Try.prog 44 SH:=by
 refine fn2 4 (Pe (l:=[(24,Ph),(51,SI),(45,RK)]) (by simp [Pk,Un,SC])) Try.func44<|?_
 rintro ⟨c1,f2,i3,params4⟩
 unfold QG
 refine A 9 ?_
 refine bD λr5 hr5=>?_
 refine A 15 ?_
 refine bD λr6 hr6=>?_
 refine A 4 ?_
 refine bC (E:=λ(_s : Unit) (_g : Unit)=>[(9,OH r5.1)]) (O:=λ_ _=>[(8192,dV 0 2 70 (.agg [.sl (r6.2.list.map eU8),OH r6.2.at_]))]) (j:=λ_=>Rp r5 r6) ?_ ?_
 ·refine sC (E:=λ(s : Bool) (g : Nat)=>[(0,.optr 8192 0 0 0),(2,OH i3),(3,.sl (params4.map OJ)),(5,.optr 5 g 0 0),(9,OH r5.1),(10,OH (f2.Slots.length : Int)),(11,OH r6.1),(23,.bool s)]) (O:=λ_ g=>[(5,dV g 3 27 (OP f2)),(8192,dV 0 2 70 (.agg [.sl (r6.2.list.map eU8),OH r6.2.at_]))]) (j:=λs=>PG r6 f2 r5 params4 i3 s) ?_ ?_
  ·exact B
  ·rintro x7 v5x1 nn
   try dsimp only
   unfold PG
   refine cD r ?_ ?_
   ·refine A 4 ?_
    refine bD λr8 hr8=>?_
    refine A 3 ?_
    refine bS ([(Mk.mk 16 r8.1 r5.1 0 0)] : List Mk) OL r r r (by simp) r r r<|?_
    exact B
   ·refine sC (E:=λ(s : Bool) (g : Nat)=>[(0,.optr 8192 0 0 0),(2,OH i3),(3,.sl (params4.map OJ)),(5,.optr 5 g 0 0),(9,OH r5.1),(10,OH (f2.Slots.length : Int)),(11,OH r6.1),(36,.bool s)]) (O:=λ_ g=>[(5,dV g 3 27 (OP f2)),(8192,dV 0 2 70 (.agg [.sl (r6.2.list.map eU8),OH r6.2.at_]))]) (j:=λs=>PH r6 f2 r5 params4 i3 s) ?_ ?_
    ·exact B
    ·rintro x9 v5x2 nn
     try dsimp only
     unfold PH
     refine cD r ?_ ?_
     ·refine A 5 ?_
      refine bD λr10 hr10=>?_
      refine A 2 ?_
      refine bS ([(Mk.mk 15 r5.1 r10.1 0 0)] : List Mk) OL r r r (by simp) r r r<|?_
      exact B
     ·refine sC (E:=λ(s : Bool) (g : Nat)=>[(0,.optr 8192 0 0 0),(2,OH i3),(3,.sl (params4.map OJ)),(5,.optr 5 g 0 0),(9,OH r5.1),(10,OH (f2.Slots.length : Int)),(11,OH r6.1),(49,.bool s)]) (O:=λ_ g=>[(5,dV g 3 27 (OP f2)),(8192,dV 0 2 70 (.agg [.sl (r6.2.list.map eU8),OH r6.2.at_]))]) (j:=λs=>PI r6 f2 r5 params4 i3 s) ?_ ?_
      ·exact B
      ·rintro x11 v5x3 nn
       try dsimp only
       unfold PI
       refine cD r ?_ ?_
       ·refine A 4 ?_
        refine bD λr12 hr12=>?_
        refine A 9 ?_
        refine bD λr13 hr13=>?_
        refine A 3 ?_
        refine bS ([(Mk.mk 17 r13.1 r12.1 0 0)] : List Mk) OL r r r (by simp) r r r<|?_
        exact B
       ·refine A 7 ?_
        refine cD r ?_ ?_
        ·refine A 4 ?_
         refine bD λr14 hr14=>?_
         refine A 2 ?_
         refine bS ([(Mk.mk 0 r5.1 0 0 r14.1)] : List Mk) OL r r r (by simp) r r r<|?_
         exact B
        ·refine A 7 ?_
         refine cD r ?_ ?_
         ·refine A 3 ?_
          refine bD λr15 hr15=>?_
          refine A 4 ?_
          refine bD λr16 hr16=>?_
          refine A 2 ?_
          refine bD λr17 hr17=>?_
          refine A 2 ?_
          refine bS ([(Mk.mk (i64.wrap (2 + r15.1)) r5.1 r16.1 r17.1 0)] : List Mk) OL r r r (by simp) r r r<|?_
          exact B
         ·refine A 7 ?_
          refine cD r ?_ ?_
          ·refine A 4 ?_
           refine bS ([(Mk.mk 14 r5.1 0 0 0)] : List Mk) OL r r r (by simp) r r r<|?_
           exact B
          ·refine A 7 ?_
           refine cD r ?_ ?_
           ·refine A 2 ?_
            refine bS ([13,12,1] : List Int) OJ r r r (by simp) r r r<|?_
            refine A 1 ?_
            refine bD λr18 hr18=>?_
            refine A 2 ?_
            refine bD λx_e19 hx_e19=>?_
            refine A 3 ?_
            refine bS ([(Mk.mk x_e19 r5.1 0 0 0)] : List Mk) OL r r r (by simp) r r r<|?_
            exact B
           ·refine sC (E:=λ(s : Bool) (g : Nat)=>[(0,.optr 8192 0 0 0),(2,OH i3),(3,.sl (params4.map OJ)),(5,.optr 5 g 0 0),(9,OH r5.1),(11,OH r6.1),(104,.bool s)]) (O:=λ_ g=>[(5,dV g 3 27 (OP f2)),(8192,dV 0 2 70 (.agg [.sl (r6.2.list.map eU8),OH r6.2.at_]))]) (j:=λs=>PJ r6 f2 r5 params4 i3 s) ?_ ?_
            ·exact B
            ·rintro x20 v5x4 nn
             try dsimp only
             unfold PJ
             refine cD r ?_ ?_
             ·refine A 6 ?_
              refine bD λr21 hr21=>?_
              refine A 2 ?_
              refine bS ([(Mk.mk 19 r5.1 r21.1 0 0)] : List Mk) OL r r r (by simp) r r r<|?_
              exact B
             ·refine sC (E:=λ(s : Bool) (_g : Unit)=>[(0,.optr 8192 0 0 0),(2,OH i3),(3,.sl (params4.map OJ)),(9,OH r5.1),(119,.bool s)]) (O:=λ_ _=>[(8192,dV 0 2 70 (.agg [.sl (r6.2.list.map eU8),OH r6.2.at_]))]) (j:=λs=>PK r6 params4 i3 r5 s) ?_ ?_
              ·exact B
              ·rintro x22 ⟨⟩ nn
               try dsimp only
               unfold PK
               refine cD r ?_ ?_
               ·refine A 10 ?_
                refine bD λr23 hr23=>?_
                refine A 17 ?_
                refine lP (E:=λ(s : (List Int) × Int × (List Mk) × Int) (g : Nat)=>[(0,.optr 8192 0 0 0),(3,.sl (params4.map OJ)),(13,OH (i64.wrap ((i64.wrap (i3 + 1)) + r23.1))),(14,.osl 14 g 0 s.2.2.1.length),(15,OH s.2.2.2)]) (O:=λs g=>[(14,dW g 5 43 (s.2.2.1.map OL)),(8192,dV 0 2 70 (.agg [.sl (s.1.map eU8),OH s.2.1]))]) (body:=λs=>QH params4 i3 r23 s.1 s.2.1 s.2.2.1 s.2.2.2) (s:=(r23.2.list,r23.2.at_,([] : List Mk),0)) _ ((hE ⟨rfl,r,r,r,r,trivial⟩ ⟨rfl,r,trivial⟩))<|?_
                rintro ⟨c24,c25,out26,a27⟩ v14x6 nn
                try dsimp only
                unfold QH
                refine A 6 ?_
                refine bD λx_x28 hx_x28=>?_
                refine A 5 ?_
                refine cD r ?_ ?_
                ·refine A 7 ?_
                 refine bD λr29 hr29=>?_
                 refine A 4 ?_
                 refine cD r ?_ ?_
                 ·refine A 4 ?_
                  refine bD λr30 hr30=>?_
                  refine A 2 ?_
                  refine bS ([(Mk.mk 18 a27 r30.1 0 0)] : List Mk) OL r r r (by simp) r r r<|?_
                  exact B
                 ·exact B
                ·refine A 10 ?_
                 refine bS ([(Mk.mk 22 (i64.wrap ((i64.wrap (i3 + 1)) + r23.1)) 0 0 0)] : List Mk) OL r r r (by simp) r r r<|?_
                 exact B
               ·exact B
 ·rintro ⟨⟩ ⟨⟩ nn
  try dsimp only
  unfold Rp
  refine A 4 ?_
  refine bS ([(Mk.mk 14 r5.1 0 0 0)] : List Mk) OL r r r (by simp) r r r<|?_
  exact B

def Qb (a : Ed × Int × (List Int) × Int) : List D:=[OW a.1,OH a.2.1,.sl (a.2.2.1.map OJ),OH a.2.2.2]
def Qa (ds : List D) : Ed × Int × (List Int) × Int:=(Qu (ds.getD 0 .top),uI (ds.getD 1 .top),(uL uI) (ds.getD 2 .top),uI (ds.getD 3 .top))
theorem To (a : Ed × Int × (List Int) × Int) : Qa (Qb a) = a:=by simp [Qa,Qb,uI,QY (u:=uI) (en:=OJ) (λ_=>rfl)]
instance : PZ Qb Qa:=⟨To⟩
def RY (b : OI × Ed) : D:=OP b.1
def TE (b : OI × Ed) : List D:=[OW b.2]
def RZ : Dw.Spec:=ON [(0,(2,70))] .val Qb Qa (λa=>Qe a.1 a.2.1 a.2.2.1 a.2.2.2) RY TE
theorem Tp : OM Try.prog 37 RZ:=by
 refine fn2 4 (Pe (l:=[(43,SB),(24,Ph),(44,SH),(45,RK)]) (by simp [Uc,Pk,Ul,SC])) Try.func37<|?_
 rintro ⟨c1,i2,params3,most4⟩
 unfold Qe
 refine A 9 ?_
 refine bD λx_x5 hx_x5=>?_
 refine A 3 ?_
 refine bD λr6 hr6=>?_
 refine A 18 ?_
 refine lP (E:=λ(s : (List Int) × Int × (List Mk) × Int) (g : Nat × Nat × Nat × Nat)=>[(0,.optr 8192 0 0 0),(1,OH i2),(2,.sl (params3.map OJ)),(3,OH most4),(8,.optr 8 g.1 0 0),(9,.optr 9 g.2.1 0 0),(10,.osl 10 g.2.2.1 0 s.2.2.1.length),(11,OH s.2.2.2)]) (O:=λs g=>[(8,dV g.1 3 27 (.agg [OH 0,.nils,.nils])),(9,dV g.2.1 3 27 (.agg [OH x_x5,.osl 21 g.2.2.2 0 r6.1.length,.nils])),(10,dW g.2.2.1 5 43 (s.2.2.1.map OL)),(21,dW g.2.2.2 2 89 (r6.1.map Pc)),(8192,dV 0 2 70 (.agg [.sl (s.1.map eU8),OH s.2.1]))]) (body:=λs=>Qj r6 most4 x_x5 i2 params3 s.1 s.2.1 s.2.2.1 s.2.2.2) (s:=(r6.2.list,r6.2.at_,([] : List Mk),0)) (_,_,_,_) ((hE ⟨rfl,r,r,r,r,r,r,r,trivial⟩ ⟨rfl,r,r,r,r,trivial⟩))<|?_
 rintro ⟨c7,c8,code9,s10⟩ ⟨v8x1,v9x1,v10x1,v21x1⟩ nn
 try dsimp only
 unfold Qj
 refine A 10 ?_
 refine cD r ?_ ?_
 ·refine A 7 ?_
  refine bD λr11 hr11=>?_
  refine A 4 ?_
  refine cD r ?_ ?_
  ·refine A 4 ?_
   refine bD λr12 hr12=>?_
   refine A 2 ?_
   refine bS ([(Mk.mk 16 s10 r12.1 0 0)] : List Mk) OL r r r (by simp) r r r<|?_
   exact B
  ·exact B
 ·refine A 11 ?_
  refine bD λr13 hr13=>?_
  refine A 5 ?_
  refine lP (E:=λ(s : (List Int) × Int × (List Mk) × (List Pb) × Int) (g : Nat × Nat × Nat)=>[(0,.optr 8192 0 0 0),(1,OH i2),(2,.sl (params3.map OJ)),(8,.optr 8 g.1 0 0),(9,.optr 9 g.2.1 0 0),(10,.osl 10 g.2.2 0 s.2.2.1.length),(12,OH s.2.2.2.2)]) (O:=λs g=>[(8,dV g.1 3 27 (.agg [OH 0,.nils,.nils])),(9,dV g.2.1 3 27 (.agg [OH x_x5,.sl (s.2.2.2.1.map Pc),.nils])),(10,dW g.2.2 5 43 (s.2.2.1.map OL)),(8192,dV 0 2 70 (.agg [.sl (s.1.map eU8),OH s.2.1]))]) (body:=λs=>Qk x_x5 i2 params3 s.1 s.2.1 s.2.2.1 s.2.2.2.1 s.2.2.2.2) (s:=(r13.2.list,r13.2.at_,code9,r6.1,r13.1)) (_,_,_) ((Vd [(21,some (_,⟨true,false,2,89,r6.1.map Pc⟩))] ⟨⟨_,_,r,r,r⟩,trivial⟩ ⟨(PF r),(PF r),(PF r),(PF r),(PF r),(PF r),(PF r),trivial⟩ ⟨(.inl r),(.inr ⟨_,_,_,_,r,r,r,r,TS r ⟨(SK r),(RW (l:=r6.1) (en:=Pc) r r r (by simp)),(SK r),trivial⟩⟩),(.inl r),(.inl r),trivial⟩))<|?_
  rintro ⟨c14,c15,code16,f17,n18⟩ ⟨v8x2,v9x2,v10x2⟩ nn
  try dsimp only
  unfold Qk
  refine A 7 ?_
  refine cD r ?_ ?_
  ·refine A 11 ?_
   refine bD λr19 hr19=>?_
   refine A 8 ?_
   refine bD λr20 hr20=>?_
   refine A 10 ?_
   refine cD r ?_ ?_
   ·refine A 3 ?_
    refine bD λr21 hr21=>?_
    refine A 2 ?_
    refine bS ([(Mk.mk 21 r21.1 (-1) 0 0)] : List Mk) OL r r r (by simp) r r r<|?_
    exact B
   ·refine A 6 ?_
    refine cD r ?_ ?_
    ·refine A 3 ?_
     refine bD λr22 hr22=>?_
     refine A 4 ?_
     refine cD r ?_ ?_
     ·refine A 3 ?_
      refine bS ([(Mk.mk 20 (-1) 0 0 0)] : List Mk) OL r r r (by simp) r r r<|?_
      exact B
     ·exact B
    ·exact B
  ·refine A 12 ?_
   refine sC (E:=λ(_s : (List Int) × Int × Int × Int) (g : Nat × Nat × Nat × Nat)=>[(0,.optr 8192 0 0 0),(8,.optr 8 g.1 0 0),(9,.optr 9 g.2.1 0 0),(10,.osl 10 g.2.2.1 0 code16.length),(13,.optr 13 g.2.2.2 0 0)]) (O:=λs g=>[(8,dV g.1 3 27 (.agg [OH 0,.nils,.nils])),(9,dV g.2.1 3 27 (.agg [OH x_x5,.sl (f17.map Pc),.nils])),(10,dW g.2.2.1 5 43 (code16.map OL)),(13,dV g.2.2.2 5 43 (.agg [OH s.2.2.1,OH 0,OH 0,OH 0,TT s.2.2.2])),(8192,dV 0 2 70 (.agg [.sl (s.1.map eU8),OH s.2.1]))]) (j:=λs=>Pm code16 x_x5 f17 s.1 s.2.1 s.2.2.1 s.2.2.2) ?_ ?_
   ·exact B
   ·rintro ⟨c23,c24,end25,end26⟩ ⟨v8x3,v9x3,v10x3,v13x3⟩ nn
    try dsimp only
    unfold Pm
    refine A 4 ?_
    refine bS ([(Mk.mk end25 0 0 0 end26)] : List Mk) OL r r r (by simp) r r r<|cK λhq=>aP (code16) (([(Mk.mk end25 0 0 0 end26)] : List Mk)) OL r r r r r r r (by simp) (PX _ _ r) r r (by simp) (PY _ _ r) (λ_=>r) r hq<|?_
    refine A 10 ?_
    refine lP (E:=λ(s : (List Int) × Int × (List Mk) × Int) (g : Nat × Nat × Nat)=>[(0,.optr 8192 0 0 0),(8,.optr 8 g.1 0 0),(9,.optr 9 g.2.1 0 0),(10,.osl 10 g.2.2 0 s.2.2.1.length),(14,OH s.2.2.2)]) (O:=λs g=>[(8,dV g.1 3 27 (.agg [OH 0,.nils,.nils])),(9,dV g.2.1 3 27 (.agg [OH x_x5,.sl (f17.map Pc),.nils])),(10,dW g.2.2 5 43 (s.2.2.1.map OL)),(8192,dV 0 2 70 (.agg [.sl (s.1.map eU8),OH s.2.1]))]) (body:=λs=>Py x_x5 f17 s.1 s.2.1 s.2.2.1 s.2.2.2) (s:=(c23,c24,code16 ++ ([(Mk.mk end25 0 0 0 end26)] : List Mk),0)) (_,_,_) ((hE ⟨rfl,r,r,r,r,trivial⟩ ⟨rfl,r,r,r,trivial⟩))<|?_
    rintro ⟨c29,c30,code31,k32⟩ ⟨v8x4,v9x4,v10x4⟩ nn
    try dsimp only
    unfold Py
    refine A 9 ?_
    refine cD r ?_ ?_
    ·refine A 8 ?_
     refine bD λr33 hr33=>?_
     refine A 6 ?_
     refine sC (E:=λ(s : Int) (g : Nat × Nat × Nat)=>[(0,.optr 8192 0 0 0),(8,.optr 8 g.1 0 0),(9,.optr 9 g.2.1 0 0),(10,.osl 10 g.2.2 0 code31.length),(14,OH k32),(15,OH s)]) (O:=λ_ g=>[(8,dV g.1 3 27 (.agg [OH 0,.nils,.nils])),(9,dV g.2.1 3 27 (.agg [OH x_x5,.sl (f17.map Pc),.nils])),(10,dW g.2.2 5 43 (code31.map OL)),(8192,dV 0 2 70 (.agg [.sl (r33.2.list.map eU8),OH r33.2.at_]))]) (j:=λs=>OY k32 code31 r33 s) ?_ ?_
     ·exact B
     ·rintro to34 ⟨v8x5,v9x5,v10x5⟩ nn
      try dsimp only
      unfold OY
      refine A 1 ?_
      refine sC (E:=λ(s : Bool) (g : Nat × Nat × Nat)=>[(0,.optr 8192 0 0 0),(8,.optr 8 g.1 0 0),(9,.optr 9 g.2.1 0 0),(10,.osl 10 g.2.2 0 code31.length),(14,OH k32),(15,OH to34),(107,.bool s)]) (O:=λ_ g=>[(8,dV g.1 3 27 (.agg [OH 0,.nils,.nils])),(9,dV g.2.1 3 27 (.agg [OH x_x5,.sl (f17.map Pc),.nils])),(10,dW g.2.2 5 43 (code31.map OL)),(8192,dV 0 2 70 (.agg [.sl (r33.2.list.map eU8),OH r33.2.at_]))]) (j:=λs=>Pz k32 code31 r33 to34 s) ?_ ?_
      ·exact B
      ·rintro x35 ⟨v8x6,v9x6,v10x6⟩ nn
       try dsimp only
       unfold Pz
       refine cD r ?_ ?_
       ·refine A 6 ?_
        refine bD λcode_o38 hcode_o38=>sE (l:=code31) (en:=OL) (q':=(Mk.mk code_o38.Op to34 code_o38.B code_o38.C code_o38.Imm)) r r r r r r r (by simp) hcode_o38 r r r r r<|?_
        exact B
       ·refine A 6 ?_
        refine bD λcode_e39 hcode_e39=>?_
        refine A 3 ?_
        refine UB r ?_ ?_
        ·refine A 4 ?_
         refine bD λcode_e40 hcode_e40=>?_
         refine A 6 ?_
         refine cD r ?_ ?_
         ·refine A 6 ?_
          refine bD λcode_o41 hcode_o41=>sE (l:=code31) (en:=OL) (q':=(Mk.mk code_o41.Op code_o41.A to34 code_o41.C code_o41.Imm)) r r r r r r r (by simp) hcode_o41 r r r r r<|?_
          exact B
         ·exact B
        ·exact B
    ·refine A 19 ?_
     refine WA (b:=((OI.mk x_x5 f17 code31),(Ed.mk c29 c30))) r ?_ r r ?_ (by first | rfl | (simp only [BS]; rfl) | (simp only [Lo]; rfl) | (simp only [BS,Lo]; rfl) | simp [RY,OP])
     all_goals first|(simp;done)|(simp;omega)|rfl|(simp [Pv,Pu];done)

def Qi (a : Ed × Int × Int) : List D:=[OW a.1,OH a.2.1,OH a.2.2]
def Qh (ds : List D) : Ed × Int × Int:=(Qu (ds.getD 0 .top),uI (ds.getD 1 .top),uI (ds.getD 2 .top))
theorem TC (a : Ed × Int × Int) : Qh (Qi a) = a:=by simp [Qh,Qi,uI]
instance : PZ Qi Qh:=⟨TC⟩
def TV (b : Qv × Ed) : D:=Vc b.1
def TU (b : Qv × Ed) : List D:=[OW b.2]
def Se : Dw.Spec:=ON [(0,(2,70))] .val Qi Qh (λa=>Qm a.1 a.2.1 a.2.2) TV TU
theorem TD : OM Try.prog 23 Se:=by
 refine fn2 3 (Pe (l:=[(24,Ph),(37,RZ)]) (by simp [Pk,Tp])) Try.func23<|?_
 rintro ⟨c1,funcs2,most3⟩
 unfold Qm
 refine A 16 ?_
 refine bD λr4 hr4=>?_
 refine A 5 ?_
 refine lP (E:=λ(s : (List Int) × Int × (List Int) × Int) (g : Nat × Nat)=>[(0,.optr 8192 0 0 0),(2,OH most3),(6,.optr 6 g.1 0 0),(7,.osl 7 g.2 0 s.2.2.1.length),(8,OH s.2.2.2)]) (O:=λs g=>[(6,dV g.1 1 48 (.agg [.nils])),(7,dW g.2 1 3 (s.2.2.1.map OJ)),(8192,dV 0 2 70 (.agg [.sl (s.1.map eU8),OH s.2.1]))]) (body:=λs=>Qq most3 s.1 s.2.1 s.2.2.1 s.2.2.2) (s:=(r4.2.list,r4.2.at_,([0] : List Int),r4.1)) (_,_) ((hE ⟨rfl,r,r,r,r,trivial⟩ ⟨rfl,r,r,trivial⟩))<|?_
 rintro ⟨c5,c6,params7,n8⟩ ⟨v6x1,v7x1⟩ nn
 try dsimp only
 unfold Qq
 refine A 7 ?_
 refine cD r ?_ ?_
 ·exact B
 ·refine A 17 ?_
  refine lP (E:=λ(s : (List Int) × Int × (List OI) × Int × (List Int)) (g : Nat × Nat)=>[(0,.optr 8192 0 0 0),(2,OH most3),(6,.optr 6 g.1 0 0),(7,.sl (s.2.2.2.2.map OJ)),(9,.optr 9 g.2 0 0),(10,OH s.2.2.2.1)]) (O:=λs g=>[(6,dV g.1 1 48 (.agg [.nils])),(9,dV g.2 1 48 (.agg [.sl (s.2.2.1.map OP)])),(8192,dV 0 2 70 (.agg [.sl (s.1.map eU8),OH s.2.1]))]) (body:=λs=>Qr most3 s.1 s.2.1 s.2.2.1 s.2.2.2.1 s.2.2.2.2) (s:=(c5,c6,[],0,params7)) (_,_) ((Vd [(7,some (_,⟨true,false,1,3,params7.map OJ⟩))] ⟨⟨_,_,r,r,r⟩,trivial⟩ ⟨(PF r),(PF r),(PF r),(RX (RW (l:=params7) (en:=OJ) r r r (by simp))),(PF r),(PF r),trivial⟩ ⟨(.inl r),(.inr ⟨_,_,_,_,r,r,r,r,TS r ⟨(SA OP r),trivial⟩⟩),(.inl r),trivial⟩))<|?_
  rintro ⟨c10,c11,p12,i13,params14⟩ ⟨v6x2,v9x2⟩ nn
  try dsimp only
  unfold Qr
  refine A 9 ?_
  refine cD r ?_ ?_
  ·refine A 13 ?_
   refine bD λr15 hr15=>?_
   refine A 1 ?_
   refine bS ([r15.1] : List OI) OP r r r (by simp) r r r<|?_
   refine A 16 ?_
   exact wf [11] λ_=>B
  ·exact B

def QL (a : (List Int)) : List D:=[.sl (a.map eU8)]
def QK (ds : List D) : (List Int):=(uL uI) (ds.getD 0 .top)
theorem UR (a : (List Int)) : QK (QL a) = a:=by simp [QK,QL,QY (u:=uI) (en:=eU8) (λ_=>rfl)]
instance : PZ QL QK:=⟨UR⟩
def Ve (b : OI) : D:=OP b
def SS : Dw.Spec:=ON [] .val QL QK (λa=>QW a) Ve noE
theorem US : OM Try.prog 9 SS:=by
 refine fn2 1 (Pe (l:=[(22,Vp),(23,Se),(24,Ph)]) (by simp [Ws,TD,Pk])) Try.func9<|?_
 intro a
 unfold QW
 exact B

def Wh (b : (List Int)) : D:=.sl (b.map OJ)
def Uy : Dw.Spec:=ON [] (.row 1 3) Ri Rh (λa=>RC a.1 a.2) Wh noE
theorem VP : OM Try.prog 18 Uy:=by
 refine fn2 2 (Qp) Try.func18<|?_
 rintro ⟨f1,k2⟩
 unfold RC
 refine A 6 ?_
 refine sC (E:=λ(_s : Unit) (g : Nat)=>[(1,OH k2),(2,.optr 2 g 0 0)]) (O:=λ_ g=>[(2,dV g 3 27 (OP f1))]) (j:=λ_=>RR f1 k2) ?_ ?_
 ·exact B
 ·rintro ⟨⟩ v2x1 nn
  try dsimp only
  unfold RR
  refine A 5 ?_
  refine bD λx_x3 hx_x3=>?_
  refine A 20 ?_
  refine cD r ?_ ?_
  ·exact B
  ·refine sC (E:=λ(s : Bool) (g : Nat)=>[(1,OH k2),(5,.optr 5 g 0 0),(21,OH x_x3.Op),(27,.bool s)]) (O:=λ_ g=>[(5,dV g 5 43 (OL x_x3))]) (j:=λs=>Pt x_x3 k2 s) ?_ ?_
   ·exact B
   ·rintro x4 v5x2 nn
    try dsimp only
    unfold Pt
    refine cD r ?_ ?_
    ·exact B
    ·refine A 6 ?_
     refine cD r ?_ ?_
     ·refine A 11 ?_
      refine cD r ?_ ?_
      ·refine A 6 ?_
       refine bS ([x_x3.B,i64.wrap (k2 + 1)] : List Int) OJ r r r (by simp) r r r<|?_
       exact B
      ·refine A 10 ?_
       refine cD r ?_ ?_
       ·refine A 6 ?_
        refine bS ([i64.wrap (k2 + 1),x_x3.B] : List Int) OJ r r r (by simp) r r r<|?_
        exact B
       ·exact B
     ·exact B

def PC (a : OK × Int) : List D:=[.agg [OH a.1.f.Params,.sl (a.1.f.Slots.map Pc),.sl (a.1.f.Code.map OL),.row 1 4 (a.1.seen.map D.bool),.row 1 3 (a.1.left.map OJ)],OH a.2]
def PA (ds : List D) : OK × Int:=((⟨⟨uI (cel (ds.getD 0 .top) 0),(uL SO) (cel (ds.getD 0 .top) 1),(uL Su) (cel (ds.getD 0 .top) 2)⟩,(uR uBo) (cel (ds.getD 0 .top) 3),(uR uI) (cel (ds.getD 0 .top) 4)⟩ : OK),uI (ds.getD 1 .top))
theorem Sc (a : OK × Int) : PA (PC a) = a:=by simp [PA,PC,uI,cel,QY (u:=SO) (en:=Pc) UE,WQ (u:=SO) (en:=Pc) UE,QY (u:=Su) (en:=OL) TY,WQ (u:=Su) (en:=OL) TY,QY (u:=uBo) (en:=D.bool) (λ_=>rfl),WQ (u:=uBo) (en:=D.bool) (λ_=>rfl),QY (u:=uI) (en:=OJ) (λ_=>rfl),WQ (u:=uI) (en:=OJ) (λ_=>rfl)]
instance : PZ PC PA:=⟨Sc⟩
def Sr (_b : OK) : D:=.tup []
def Sq (b : OK) : List D:=[.agg [OH b.f.Params,.sl (b.f.Slots.map Pc),.sl (b.f.Code.map OL),.row 1 4 (b.seen.map D.bool),.row 1 3 (b.left.map OJ)]]
def Ss : Dw.Spec:=ON [(0,(5,63))] .val PC PA (λa=>Ru a.1 a.2) Sr Sq
def PL (rec0 : OK -> Int -> Option (OK)) : Dw.Spec:=ON [(0,(5,63))] .val PC PA (λa=>rec0 a.1 a.2) Sr Sq
theorem Tx (rec0 : OK -> Int -> Option (OK)) (hrec : OM Try.prog 32 (PL rec0)) : OM Try.prog 32 (PL (OZ rec0)):=by
 refine fn2 2 (Pe (l:=[(18,Uy),(32,PL rec0)]) (by simp [VP,hrec])) Try.func32<|?_
 rintro ⟨s1,k2⟩
 unfold OZ
 refine A 1 ?_
 refine RG (E:=[(0,.optr 8192 0 0 0),(1,OH k2)]) (O:=[(4697,dW _ 1 4 (s1.seen.map D.bool)),(8192,dV 0 5 63 (.agg [OH s1.f.Params,.sl (s1.f.Slots.map Pc),.sl (s1.f.Code.map OL),.osl 4697 _ 0 s1.seen.length,.row 1 3 (s1.left.map OJ)]))]) ((TF (g:=8192) (off:=3) 601 (s1.seen) D.bool r r r (hE ⟨rfl,r,trivial⟩ ⟨rfl,r,trivial⟩))) λnn=>?_
 refine A 6 ?_
 refine bD λx_o3 hx_o3=>VS (l:=s1.seen) (en:=D.bool) (q:=x_o3) (q':=true) r r r r r hx_o3 r (λ_=>r) r r r ⟨trivial,trivial,r⟩<|?_
 refine A 1 ?_
 refine RO (E:=[(0,.optr 8192 0 0 0),(1,OH k2)]) (O:=[(8192,dV 0 5 63 (.agg [OH s1.f.Params,.sl (s1.f.Slots.map Pc),.sl (s1.f.Code.map OL),.row 1 4 ((s1.seen.set k2.toNat true).map D.bool),.row 1 3 (s1.left.map OJ)]))]) ((QZ (g:=8192) (i:=0) (off:=3) (g':=4697) (l:=s1.seen.set k2.toNat true) (en:=D.bool) r r r (.inr ⟨rfl,r⟩) r (by simp) (λ_=>r) r (hE ⟨rfl,r,trivial⟩ ⟨rfl,trivial⟩))) λnn=>?_
 refine A 7 ?_
 refine bD λr4 hr4=>?_
 refine A 11 ?_
 refine lP (E:=λ(s : Int × (List Pb) × (List Mk) × (List Bool) × (List Int) × Int) (g : Nat)=>[(0,.optr 8192 0 0 0),(1,OH k2),(4,.osl 4 g 0 r4.length),(5,OH s.2.2.2.2.2)]) (O:=λs g=>[(4,dW g 1 3 (r4.map OJ)),(8192,dV 0 5 63 (.agg [OH s.1,.sl (s.2.1.map Pc),.sl (s.2.2.1.map OL),.row 1 4 (s.2.2.2.1.map D.bool),.row 1 3 (s.2.2.2.2.1.map OJ)]))]) (body:=λs=>Pp r4 rec0 k2 s.1 s.2.1 s.2.2.1 s.2.2.2.1 s.2.2.2.2.1 s.2.2.2.2.2) (s:=(s1.f.Params,s1.f.Slots,s1.f.Code,s1.seen.set k2.toNat true,s1.left,0)) _ ((hE ⟨rfl,r,r,r,trivial⟩ ⟨rfl,r,trivial⟩))<|?_
 rintro ⟨s5,s6,s7,s8,s9,i10⟩ v4x1 nn
 try dsimp only
 unfold Pp
 refine A 9 ?_
 refine cD r ?_ ?_
 ·refine A 5 ?_
  refine RG (E:=[(0,.optr 8192 0 0 0),(1,OH k2),(4,.osl 4 _ 0 r4.length),(5,OH i10)]) (O:=[(4,dW _ 1 3 (r4.map OJ)),(4698,dW _ 1 4 (s8.map D.bool)),(8192,dV 0 5 63 (.agg [OH s5,.sl (s6.map Pc),.sl (s7.map OL),.osl 4698 _ 0 s8.length,.row 1 3 (s9.map OJ)]))]) ((TF (g:=8192) (off:=3) 602 (s8) D.bool r r r (hE ⟨rfl,r,r,r,trivial⟩ ⟨rfl,r,r,trivial⟩))) λnn=>?_
  refine A 7 ?_
  refine bD λl_e11 hl_e11=>?_
  refine A 2 ?_
  refine bD λx_e12 hx_e12=>?_
  refine A 3 ?_
  refine RO (E:=[(0,.optr 8192 0 0 0),(1,OH k2),(4,.osl 4 _ 0 r4.length),(5,OH i10),(34,.bool (!x_e12))]) (O:=[(4,dW _ 1 3 (r4.map OJ)),(8192,dV 0 5 63 (.agg [OH s5,.sl (s6.map Pc),.sl (s7.map OL),.row 1 4 (s8.map D.bool),.row 1 3 (s9.map OJ)]))]) ((QZ (g:=8192) (i:=0) (off:=3) (g':=4698) (l:=s8) (en:=D.bool) r r r (.inr ⟨rfl,r⟩) r r (λ_=>r) r (hE ⟨rfl,r,r,r,r,trivial⟩ ⟨rfl,r,trivial⟩))) λnn=>?_
  exact B
 ·refine A 6 ?_
  refine RG (E:=[(0,.optr 8192 0 0 0),(1,OH k2)]) (O:=[(4699,dW _ 1 3 (s9.map OJ)),(8192,dV 0 5 63 (.agg [OH s5,.sl (s6.map Pc),.sl (s7.map OL),.row 1 4 (s8.map D.bool),.osl 4699 _ 0 s9.length]))]) ((TF (g:=8192) (off:=4) 603 (s9) OJ r r r (hE ⟨rfl,r,trivial⟩ ⟨rfl,r,trivial⟩))) λnn=>?_
  refine A 6 ?_
  refine cK λhq=>WV (s9) (([k2] : List Int)) OJ r r r r r r r (by simp) (PX _ _ r) r r (by simp) (PY _ _ r) (λ_=>r) r hq (λ_=>r)<|?_
  refine A 8 ?_
  refine Vx (l:=s9 ++ ([k2] : List Int)) (en:=OJ) (z':=.agg [OH s5,.sl (s6.map Pc),.sl (s7.map OL),.row 1 4 (s8.map D.bool),.row 1 3 ((s9 ++ ([k2] : List Int)).map OJ)]) r r r r r r (λ_=>r) r r<|?_
  exact B
theorem Tw : OM Try.prog 32 (PL (Pd 0)):=fn2 2 Qp Try.func32 λ_ _ h=>by cases h
theorem RM : ∀ k,OM Try.prog 32 (PL (Pd k))
 | 0=>Tw
 | k + 1=>Tx _ (RM k)
theorem TM : OM Try.prog 32 Ss:=Xn Sc RM

def VQ (b : (List Int)) : D:=.sl (b.map OJ)
def SE : Dw.Spec:=ON [] (.row 1 3) Po Pn (λa=>Rl a) VQ noE
theorem TL : OM Try.prog 12 SE:=by
 refine fn2 1 (Pe (l:=[(32,Ss)]) (by simp [TM])) Try.func12<|?_
 intro f1
 unfold Rl
 refine A 15 ?_
 refine cD r ?_ ?_
 ·exact B
 ·refine A 15 ?_
  refine RG (E:=[(3,.optr 4112 _ 0 0)]) (O:=[(4112,dV _ 5 63 (.agg [OH f1.Params,.sl (f1.Slots.map Pc),.sl (f1.Code.map OL),.row 1 4 ((List.replicate (f1.Code.length : Int).toNat false).map D.bool),.row 1 3 (([] : List Int).map OJ)]))]) ((WL (g:=16) (g2:=4112) (es':=[.agg [OH f1.Params,.sl (f1.Slots.map Pc),.sl (f1.Code.map OL),.osl 14 _ 0 ((List.replicate (f1.Code.length : Int).toNat false).length),.row 1 3 (([] : List Int).map OJ)]]) r r r (Xv (by repeat' first | exact SQ.nil | apply SQ.same rfl | apply SQ.row (by decide))) (QZ (g:=4112) (i:=0) (off:=3) (g':=14) (l:=List.replicate (f1.Code.length : Int).toNat false) (en:=D.bool) r r r (.inr ⟨rfl,r⟩) r r (λ_=>r) r (hE ⟨rfl,trivial⟩ ⟨rfl,trivial⟩)))) λnn=>?_
  refine A 1 ?_
  refine bD λr2 hr2=>?_
  refine A 10 ?_
  refine RG (E:=[(3,.optr 4112 _ 0 0),(4,.osl 4 _ 0 (([] : List Int).length))]) (O:=[(4,dW _ 1 3 (([] : List Int).map OJ)),(4112,dV _ 5 63 (.agg [OH r2.f.Params,.sl (r2.f.Slots.map Pc),.sl (r2.f.Code.map OL),.row 1 4 (r2.seen.map D.bool),.osl 4697 _ 0 r2.left.length])),(4697,dW _ 1 3 (r2.left.map OJ))]) ((TF (g:=4112) (off:=4) 601 (r2.left) OJ r r r (hE ⟨rfl,r,trivial⟩ ⟨rfl,r,r,trivial⟩))) λnn=>?_
  refine A 8 ?_
  refine RO (E:=[(3,.optr 4112 _ 0 0),(4,.osl 4 _ 0 (([] : List Int).length)),(5,OH (i64.wrap ((r2.left.length : Int) - 1)))]) (O:=[(4,dW _ 1 3 (([] : List Int).map OJ)),(4112,dV _ 5 63 (.agg [OH r2.f.Params,.sl (r2.f.Slots.map Pc),.sl (r2.f.Code.map OL),.row 1 4 (r2.seen.map D.bool),.row 1 3 (r2.left.map OJ)]))]) ((QZ (g:=4112) (i:=0) (off:=4) (g':=4697) (l:=r2.left) (en:=OJ) r r r (.inr ⟨rfl,r⟩) r r (λ_=>r) r (hE ⟨rfl,r,r,trivial⟩ ⟨rfl,r,trivial⟩))) λnn=>?_
  refine A 1 ?_
  refine lP (E:=λ(s : (List Int) × Int) (g : Nat × Nat)=>[(3,.optr 4112 g.2 0 0),(4,.osl 4 g.1 0 s.1.length),(5,OH s.2)]) (O:=λs g=>[(4,dW g.1 1 3 (s.1.map OJ)),(4112,dV g.2 5 63 (.agg [OH r2.f.Params,.sl (r2.f.Slots.map Pc),.sl (r2.f.Code.map OL),.row 1 4 (r2.seen.map D.bool),.row 1 3 (r2.left.map OJ)]))]) (body:=λs=>RD r2 s.1 s.2) (s:=(([] : List Int),i64.wrap ((r2.left.length : Int) - 1))) (_,_) ((hE ⟨rfl,r,r,trivial⟩ ⟨rfl,r,trivial⟩))<|?_
  rintro ⟨out3,i4⟩ ⟨v4x1,v4112x1⟩ nn
  try dsimp only
  unfold RD
  refine A 7 ?_
  refine cD r ?_ ?_
  ·refine A 4 ?_
   refine RG (E:=[(3,.optr 4112 _ 0 0),(4,.osl 4 _ 0 out3.length),(5,OH i4)]) (O:=[(4,dW _ 1 3 (out3.map OJ)),(4112,dV _ 5 63 (.agg [OH r2.f.Params,.sl (r2.f.Slots.map Pc),.sl (r2.f.Code.map OL),.row 1 4 (r2.seen.map D.bool),.osl 4698 _ 0 r2.left.length])),(4698,dW _ 1 3 (r2.left.map OJ))]) ((TF (g:=4112) (off:=4) 602 (r2.left) OJ r r r (hE ⟨rfl,r,r,trivial⟩ ⟨rfl,r,r,trivial⟩))) λnn=>?_
   refine A 7 ?_
   refine bD λx_e5 hx_e5=>?_
   refine A 6 ?_
   refine RO (E:=[(3,.optr 4112 _ 0 0),(4,.osl 4 _ 0 ((out3 ++ ([x_e5] : List Int)).length)),(5,OH i4)]) (O:=[(4,dW _ 1 3 ((out3 ++ ([x_e5] : List Int)).map OJ)),(4112,dV _ 5 63 (.agg [OH r2.f.Params,.sl (r2.f.Slots.map Pc),.sl (r2.f.Code.map OL),.row 1 4 (r2.seen.map D.bool),.row 1 3 (r2.left.map OJ)]))]) ((QZ (g:=4112) (i:=0) (off:=4) (g':=4698) (l:=r2.left) (en:=OJ) r r r (.inr ⟨rfl,r⟩) r r (λ_=>r) r (hE ⟨rfl,r,r,trivial⟩ ⟨rfl,r,trivial⟩))) λnn=>?_
   exact B
  ·exact B

def RB (a : (List Int) × (List Int)) : List D:=[.sl (a.1.map OJ),.sl (a.2.map OJ)]
def RA (ds : List D) : (List Int) × (List Int):=((uL uI) (ds.getD 0 .top),(uL uI) (ds.getD 1 .top))
theorem VN (a : (List Int) × (List Int)) : RA (RB a) = a:=by simp [RA,RB,QY (u:=uI) (en:=OJ) (λ_=>rfl)]
instance : PZ RB RA:=⟨VN⟩
def Wg (b : Bool) : D:=.bool b
def Ux : Dw.Spec:=ON [] .ground RB RA (λa=>Rz a.1 a.2) Wg noE
theorem VO : OM Try.prog 10 Ux:=by
 refine fn2 2 (Qp) Try.func10<|?_
 rintro ⟨a1,b2⟩
 unfold Rz
 refine A 15 ?_
 refine cD r ?_ ?_
 ·exact B
 ·refine A 9 ?_
  refine lP (E:=λ(s : Int) (_g : Unit)=>[(0,.sl (a1.map OJ)),(1,.sl (b2.map OJ)),(5,OH s)]) (O:=λ_ _=>[]) (body:=λs=>RQ a1 b2 s) (s:=0) () ((hE ⟨rfl,r,r,trivial⟩ trivial))<|?_
  rintro i3 ⟨⟩ nn
  try dsimp only
  unfold RQ
  exact B

def Qg (a : Int × Int) : List D:=[TT a.1,TT a.2]
def Qf (ds : List D) : Int × Int:=(uI (ds.getD 0 .top),uI (ds.getD 1 .top))
theorem Us (a : Int × Int) : Qf (Qg a) = a:=by simp [Qf,Qg,uI]
instance : PZ Qg Qf:=⟨Us⟩
def UT (b : Int × Int) : D:=.tup [TT b.1,TT b.2]
def SJ : Dw.Spec:=ON [] .ground Qg Qf (λa=>QM a.1 a.2) UT noE
theorem Ut : OM Try.prog 49 SJ:=by
 refine fn2 2 (Qp) Try.func49<|?_
 intro a
 unfold QM
 exact B

def Vr (b : Int × Int) : D:=.tup [TT b.1,TT b.2]
def Tk : Dw.Spec:=ON [] .ground Qg Qf (λa=>RP a.1 a.2) Vr noE
theorem Vf : OM Try.prog 42 Tk:=by
 refine fn2 2 (Pe (l:=[(49,SJ)]) (by simp [Ut])) Try.func42<|?_
 intro a
 unfold RP
 exact B

def PO (a : (List Int) × Int) : List D:=[.sl (a.1.map OJ),OH a.2]
def PN (ds : List D) : (List Int) × Int:=((uL uI) (ds.getD 0 .top),uI (ds.getD 1 .top))
theorem Tb (a : (List Int) × Int) : PN (PO a) = a:=by simp [PN,PO,uI,QY (u:=uI) (en:=OJ) (λ_=>rfl)]
instance : PZ PO PN:=⟨Tb⟩
def Th (b : (List Int)) : D:=.sl (b.map OJ)
def RI : Dw.Spec:=ON [] (.row 1 3) PO PN (λa=>PM a.1 a.2) Th noE
theorem Tc : OM Try.prog 33 RI:=by
 refine fn2 2 (Pe (l:=[(42,Tk)]) (by simp [Vf])) Try.func33<|?_
 rintro ⟨x1,count2⟩
 unfold PM
 refine A 5 ?_
 refine sC (E:=λ(_s : Unit) (_g : Unit)=>[(0,.sl (x1.map OJ)),(1,OH count2)]) (O:=λ_ _=>[]) (j:=λ_=>PV x1 count2) ?_ ?_
 ·refine A 6 ?_
  refine cD r ?_ ?_
  ·refine A 1 ?_
   exact Vo
  ·exact B
 ·rintro ⟨⟩ ⟨⟩ nn
  try dsimp only
  unfold PV
  refine A 7 ?_
  refine bD λr3 hr3=>?_
  refine A 8 ?_
  refine sC (E:=λ(_s : Unit) (_g : Unit)=>[(0,.sl (x1.map OJ)),(6,TT r3.2)]) (O:=λ_ _=>[]) (j:=λ_=>PW r3 x1) ?_ ?_
  ·refine A 5 ?_
   refine UB r ?_ ?_
   ·refine A 7 ?_
    exact Vo
   ·refine A 5 ?_
    refine cD r ?_ ?_
    ·refine A 1 ?_
     exact Vo
    ·exact B
  ·rintro ⟨⟩ ⟨⟩ nn
   try dsimp only
   unfold PW
   refine A 4 ?_
   refine cK λhq=>mS (q:=(0 : Int)) OJ r r r r hq r<|?_
   refine A 7 ?_
   refine WD (q:=(List.replicate (i64.wrap (r3.2)).toNat (0 : Int)).length) (List.replicate (i64.wrap (r3.2)).toNat (0 : Int)) (x1) OJ r r r r r r (by first | (simp; done) | (simp; omega)) (by first | rfl | (simp [List.map_take,List.map_drop]; done)) r (λ_=>r) (λ_=>r) (by first | (simp; done) | (simp; omega) | omega)<|?_
   refine A 5 ?_
   refine lP (E:=λ(s : (List Int) × Int) (g : Nat)=>[(7,.osl 7 g 0 s.1.length),(8,OH s.2)]) (O:=λs g=>[(7,dW g 1 3 (s.1.map OJ))]) (body:=λs=>PU s.1 s.2) (s:=(QQ (List.replicate (i64.wrap (r3.2)).toNat (0 : Int)) 0 ((List.replicate (i64.wrap (r3.2)).toNat (0 : Int)).length) x1,(Nat.min ((List.replicate (i64.wrap (r3.2)).toNat (0 : Int)).length) x1.length : Int))) _ ((hE ⟨(Wz (q:=(List.replicate (i64.wrap (r3.2)).toNat (0 : Int)).length) r (by simp)),r,trivial⟩ ⟨rfl,trivial⟩))<|?_
   rintro ⟨newslice4,n5⟩ v7x3 nn
   try dsimp only
   unfold PU
   refine A 9 ?_
   refine cD r ?_ ?_
   ·refine A 7 ?_
    refine cK λhq=>Sy (l:=newslice4) r r r r r r hq<|?_
    refine A 2 ?_
    refine cK λhq=>RF (l:=newslice4) r r r r r r hq<|WD (q:=newslice4.length - n5.toNat) (newslice4) (newslice4.take n5.toNat) OJ r r r r r r (by first | (simp; done) | (simp; omega)) (by first | rfl | (simp [List.map_take,List.map_drop]; done)) r (λ_=>r) (λ_=>r) (by first | (simp; done) | (simp; omega) | omega)<|?_
    exact B
   ·exact B

def Vh (b : (List Int)) : D:=.sl (b.map OJ)
def SX : Dw.Spec:=ON [] (.row 1 3) Po Pn (λa=>QX a) Vh noE
theorem UW : OM Try.prog 13 SX:=by
 refine fn2 1 (Pe (l:=[(33,RI),(11,QT)]) (by simp [Tc,Rt])) Try.func13<|?_
 intro f1
 unfold QX
 refine A 12 ?_
 refine bD λr2 hr2=>?_
 refine A 8 ?_
 refine bD λr3 hr3=>?_
 refine A 6 ?_
 refine lP (E:=λ(s : (List Int) × Int) (g : Nat)=>[(3,.osl 3 g 0 s.1.length),(12,.sl (r3.map OJ)),(13,OH (r3.length : Int)),(14,OH s.2)]) (O:=λs g=>[(3,dW g 1 3 (s.1.map OJ))]) (body:=λs=>QU r3 s.1 s.2) (s:=(r2,0)) _ ((hE ⟨rfl,r,r,r,trivial⟩ ⟨rfl,trivial⟩))<|?_
 rintro ⟨rank4,x5⟩ v3x1 nn
 try dsimp only
 unfold QU
 exact B

def Wi (b : (List Int)) : D:=.sl (b.map OJ)
def Uz : Dw.Spec:=ON [] (.row 1 3) Po Pn (λa=>Sp a) Wi noE
theorem VR : OM Try.prog 14 Uz:=by
 refine fn2 1 (Pe (l:=[(12,SE)]) (by simp [TL])) Try.func14<|?_
 intro f1
 unfold Sp
 refine A 22 ?_
 refine lP (E:=λ(s : (List Int) × Int) (g : Nat × Nat)=>[(1,.optr 1 g.1 0 0),(3,.osl 3 g.2 0 s.1.length),(4,OH s.2)]) (O:=λs g=>[(1,dV g.1 3 27 (OP f1)),(3,dW g.2 1 3 (s.1.map OJ))]) (body:=λs=>RS f1 s.1 s.2) (s:=(List.replicate (f1.Code.length : Int).toNat (0 : Int),0)) (_,_) ((hE ⟨rfl,r,r,trivial⟩ ⟨rfl,r,trivial⟩))<|?_
 rintro ⟨out2,i3⟩ ⟨v1x1,v3x1⟩ nn
 try dsimp only
 unfold RS
 refine A 9 ?_
 refine cD r ?_ ?_
 ·exact B
 ·refine A 8 ?_
  refine bD λr5 hr5=>?_
  refine A 11 ?_
  refine lP (E:=λ(s : (List Int) × Int) (g : Nat × Nat)=>[(3,.osl 3 g.1 0 s.1.length),(5,.osl 5 g.2 0 r5.length),(6,OH s.2)]) (O:=λs g=>[(3,dW g.1 1 3 (s.1.map OJ)),(5,dW g.2 1 3 (r5.map OJ))]) (body:=λs=>RT r5 s.1 s.2) (s:=(out2,0)) (_,_) ((hE ⟨rfl,r,r,trivial⟩ ⟨rfl,r,trivial⟩))<|?_
  rintro ⟨out6,i7⟩ ⟨v3x2,v5x2⟩ nn
  try dsimp only
  unfold RT
  exact B

def PR (a : (List Int)) : List D:=[.sl (a.map eU8)]
def PQ (ds : List D) : (List Int):=(uL uI) (ds.getD 0 .top)
theorem RH (a : (List Int)) : PQ (PR a) = a:=by simp [PQ,PR,QY (u:=uI) (en:=eU8) (λ_=>rfl)]
instance : PZ PR PQ:=⟨RH⟩
def Tt (b : Bool) : D:=.bool b
def Tu : Dw.Spec:=ON [] .ground PR PQ (λa=>Qt a) Tt noE
theorem Tg : OM Try.prog 3 Tu:=by
 refine fn2 1 (Pe (l:=[(8,Ua),(9,SS),(11,QT),(12,SE),(10,Ux),(13,SX),(14,Uz)]) (by simp [Vv,US,Rt,TL,VO,UW,VR])) Try.func3<|?_
 intro a
 unfold Qt
 exact B

end
end Go.Proofs.Ytgebpjgohchohaa
