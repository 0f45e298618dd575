/-
  Programs on typed data, and the proofs that the code does what they say; written by a program (dx.py).
-/
import Derived.Test.YtgebpjgohchohaaProg
import Derived.Test.YtgebpjgohchohaaDd
import Derived.KernelRfl
import Derived.Test.YtgebpjgohchohaaDxP
import Derived.Test.YtgebpjgohchohaaDxF1
namespace Go.Proofs.Ytgebpjgohchohaa
open Go Go.Dw Go.Proofs
open Go.IntKind (i64)
set_option maxRecDepth 100000
set_option maxHeartbeats 40000000
open Go.Dw renaming PE -> bD,OU -> cK,Vn -> bS,UD -> aP,Rm -> sE,Vw -> mS,Vy -> cD,Up -> hE,WG -> lP,Vs -> sC,Vz -> bC,rf -> r
noncomputable section
def QO (a : Ed × OI × Int × (List Int)) : List D:=[Pd a.1,OK a.2.1,OH a.2.2.1,.sl (a.2.2.2.map OJ)]
def QN (ds : List D) : Ed × OI × Int × (List Int):=(QG (ds.getD 0 .top),Tw (ds.getD 1 .top),uI (ds.getD 2 .top),(uL uI) (ds.getD 3 .top))
theorem Ul (a : Ed × OI × Int × (List Int)) : QN (QO a) = a:=by simp [QN,QO,uI,QY (u:=uI) (en:=OJ) (λ_=>rfl)]
instance : PZ QO QN:=⟨Ul⟩
def UN (b : (List Mk) × Ed) : D:=.sl (b.1.map Pc)
def UM (b : (List Mk) × Ed) : List D:=[Pd b.2]
def SX : Dw.Spec:=ON [(0,(2,70))] (.row 5 43) QO QN (λa=>QW a.1 a.2.1 a.2.2.1 a.2.2.2) UN UM
theorem Um : OM Try.prog 44 SX:=by
 refine fn2 4 (Pe (l:=[(24,Pr),(51,SY),(45,Sf)]) (by simp [Pt,Us,SO])) Try.func44<|?_
 rintro ⟨c1,f2,i3,params4⟩
 unfold QW
 refine A 9 ?_
 refine bD λr5 hr5=>?_
 refine A 15 ?_
 refine bD λr6 hr6=>?_
 refine A 4 ?_
 refine bC (E:=λ(_s : Unit) (_g : Unit)=>[(9,OH r5.1)]) (O:=λ_ _=>[(8192,dV 0 2 70 (.agg [.sl (r6.2.list.map eU8),OH r6.2.at_]))]) (j:=λ_=>RM r5 r6) ?_ ?_
 ·refine sC (E:=λ(s : Bool) (g : Nat)=>[(0,.optr 8192 0 0 0),(2,OH i3),(3,.sl (params4.map OJ)),(5,.optr 5 g 0 0),(9,OH r5.1),(10,OH (f2.Slots.length : Int)),(11,OH r6.1),(23,.bool s)]) (O:=λ_ g=>[(5,dV g 3 27 (OK f2)),(8192,dV 0 2 70 (.agg [.sl (r6.2.list.map eU8),OH r6.2.at_]))]) (j:=λs=>PQ r6 f2 r5 params4 i3 s) ?_ ?_
  ·exact B
  ·rintro x7 v5x1 nn
   try dsimp only
   unfold PQ
   refine cD r ?_ ?_
   ·refine A 4 ?_
    refine bD λr8 hr8=>?_
    refine A 3 ?_
    refine bS ([(Mk.mk 16 r8.1 r5.1 0 0)] : List Mk) Pc r r r (by simp) r r r<|?_
    exact B
   ·refine sC (E:=λ(s : Bool) (g : Nat)=>[(0,.optr 8192 0 0 0),(2,OH i3),(3,.sl (params4.map OJ)),(5,.optr 5 g 0 0),(9,OH r5.1),(10,OH (f2.Slots.length : Int)),(11,OH r6.1),(36,.bool s)]) (O:=λ_ g=>[(5,dV g 3 27 (OK f2)),(8192,dV 0 2 70 (.agg [.sl (r6.2.list.map eU8),OH r6.2.at_]))]) (j:=λs=>PR r6 f2 r5 params4 i3 s) ?_ ?_
    ·exact B
    ·rintro x9 v5x2 nn
     try dsimp only
     unfold PR
     refine cD r ?_ ?_
     ·refine A 5 ?_
      refine bD λr10 hr10=>?_
      refine A 2 ?_
      refine bS ([(Mk.mk 15 r5.1 r10.1 0 0)] : List Mk) Pc r r r (by simp) r r r<|?_
      exact B
     ·refine sC (E:=λ(s : Bool) (g : Nat)=>[(0,.optr 8192 0 0 0),(2,OH i3),(3,.sl (params4.map OJ)),(5,.optr 5 g 0 0),(9,OH r5.1),(10,OH (f2.Slots.length : Int)),(11,OH r6.1),(49,.bool s)]) (O:=λ_ g=>[(5,dV g 3 27 (OK f2)),(8192,dV 0 2 70 (.agg [.sl (r6.2.list.map eU8),OH r6.2.at_]))]) (j:=λs=>PT r6 f2 r5 params4 i3 s) ?_ ?_
      ·exact B
      ·rintro x11 v5x3 nn
       try dsimp only
       unfold PT
       refine cD r ?_ ?_
       ·refine A 4 ?_
        refine bD λr12 hr12=>?_
        refine A 9 ?_
        refine bD λr13 hr13=>?_
        refine A 3 ?_
        refine bS ([(Mk.mk 17 r13.1 r12.1 0 0)] : List Mk) Pc r r r (by simp) r r r<|?_
        exact B
       ·refine A 7 ?_
        refine cD r ?_ ?_
        ·refine A 4 ?_
         refine bD λr14 hr14=>?_
         refine A 2 ?_
         refine bS ([(Mk.mk 0 r5.1 0 0 r14.1)] : List Mk) Pc r r r (by simp) r r r<|?_
         exact B
        ·refine A 7 ?_
         refine cD r ?_ ?_
         ·refine A 3 ?_
          refine bD λr15 hr15=>?_
          refine A 4 ?_
          refine bD λr16 hr16=>?_
          refine A 2 ?_
          refine bD λr17 hr17=>?_
          refine A 2 ?_
          refine bS ([(Mk.mk (i64.wrap (2 + r15.1)) r5.1 r16.1 r17.1 0)] : List Mk) Pc r r r (by simp) r r r<|?_
          exact B
         ·refine A 7 ?_
          refine cD r ?_ ?_
          ·refine A 4 ?_
           refine bS ([(Mk.mk 14 r5.1 0 0 0)] : List Mk) Pc r r r (by simp) r r r<|?_
           exact B
          ·refine A 7 ?_
           refine cD r ?_ ?_
           ·refine A 2 ?_
            refine bS ([13,12,1] : List Int) OJ r r r (by simp) r r r<|?_
            refine A 1 ?_
            refine bD λr18 hr18=>?_
            refine A 2 ?_
            refine bD λx_e19 hx_e19=>?_
            refine A 3 ?_
            refine bS ([(Mk.mk x_e19 r5.1 0 0 0)] : List Mk) Pc r r r (by simp) r r r<|?_
            exact B
           ·refine sC (E:=λ(s : Bool) (g : Nat)=>[(0,.optr 8192 0 0 0),(2,OH i3),(3,.sl (params4.map OJ)),(5,.optr 5 g 0 0),(9,OH r5.1),(11,OH r6.1),(104,.bool s)]) (O:=λ_ g=>[(5,dV g 3 27 (OK f2)),(8192,dV 0 2 70 (.agg [.sl (r6.2.list.map eU8),OH r6.2.at_]))]) (j:=λs=>PU r6 f2 r5 params4 i3 s) ?_ ?_
            ·exact B
            ·rintro x20 v5x4 nn
             try dsimp only
             unfold PU
             refine cD r ?_ ?_
             ·refine A 6 ?_
              refine bD λr21 hr21=>?_
              refine A 2 ?_
              refine bS ([(Mk.mk 19 r5.1 r21.1 0 0)] : List Mk) Pc r r r (by simp) r r r<|?_
              exact B
             ·refine sC (E:=λ(s : Bool) (_g : Unit)=>[(0,.optr 8192 0 0 0),(2,OH i3),(3,.sl (params4.map OJ)),(9,OH r5.1),(119,.bool s)]) (O:=λ_ _=>[(8192,dV 0 2 70 (.agg [.sl (r6.2.list.map eU8),OH r6.2.at_]))]) (j:=λs=>PV r6 params4 i3 r5 s) ?_ ?_
              ·exact B
              ·rintro x22 ⟨⟩ nn
               try dsimp only
               unfold PV
               refine cD r ?_ ?_
               ·refine A 10 ?_
                refine bD λr23 hr23=>?_
                refine A 17 ?_
                refine lP (E:=λ(s : (List Int) × Int × (List Mk) × Int) (g : Nat)=>[(0,.optr 8192 0 0 0),(3,.sl (params4.map OJ)),(13,OH (i64.wrap ((i64.wrap (i3 + 1)) + r23.1))),(14,.osl 14 g 0 s.2.2.1.length),(15,OH s.2.2.2)]) (O:=λs g=>[(14,dW g 5 43 (s.2.2.1.map Pc)),(8192,dV 0 2 70 (.agg [.sl (s.1.map eU8),OH s.2.1]))]) (body:=λs=>QX params4 i3 r23 s.1 s.2.1 s.2.2.1 s.2.2.2) (s:=(r23.2.list,r23.2.at_,([] : List Mk),0)) _ ((hE ⟨rfl,r,r,r,r,trivial⟩ ⟨rfl,r,trivial⟩))<|?_
                rintro ⟨c24,c25,out26,a27⟩ v14x6 nn
                try dsimp only
                unfold QX
                refine A 6 ?_
                refine bD λx_x28 hx_x28=>?_
                refine A 5 ?_
                refine cD r ?_ ?_
                ·refine A 7 ?_
                 refine bD λr29 hr29=>?_
                 refine A 4 ?_
                 refine cD r ?_ ?_
                 ·refine A 4 ?_
                  refine bD λr30 hr30=>?_
                  refine A 2 ?_
                  refine bS ([(Mk.mk 18 a27 r30.1 0 0)] : List Mk) Pc r r r (by simp) r r r<|?_
                  exact B
                 ·exact B
                ·refine A 10 ?_
                 refine bS ([(Mk.mk 22 (i64.wrap ((i64.wrap (i3 + 1)) + r23.1)) 0 0 0)] : List Mk) Pc r r r (by simp) r r r<|?_
                 exact B
               ·exact B
 ·rintro ⟨⟩ ⟨⟩ nn
  try dsimp only
  unfold RM
  refine A 4 ?_
  refine bS ([(Mk.mk 14 r5.1 0 0 0)] : List Mk) Pc r r r (by simp) r r r<|?_
  exact B

def Qj (a : Ed × Int × (List Int) × Int) : List D:=[Pd a.1,OH a.2.1,.sl (a.2.2.1.map OJ),OH a.2.2.2]
def Qi (ds : List D) : Ed × Int × (List Int) × Int:=(QG (ds.getD 0 .top),uI (ds.getD 1 .top),(uL uI) (ds.getD 2 .top),uI (ds.getD 3 .top))
theorem TA (a : Ed × Int × (List Int) × Int) : Qi (Qj a) = a:=by simp [Qi,Qj,uI,QY (u:=uI) (en:=OJ) (λ_=>rfl)]
instance : PZ Qj Qi:=⟨TA⟩
def So (b : OI × Ed) : D:=OK b.1
def TI (b : OI × Ed) : List D:=[Pd b.2]
def Sp : Dw.Spec:=ON [(0,(2,70))] .val Qj Qi (λa=>Qm a.1 a.2.1 a.2.2.1 a.2.2.2) So TI
theorem TC : OM Try.prog 37 Sp:=by
 refine fn2 4 (Pe (l:=[(43,SN),(24,Pr),(44,SX),(45,Sf)]) (by simp [Ub,Pt,Um,SO])) Try.func37<|?_
 rintro ⟨c1,i2,params3,most4⟩
 unfold Qm
 refine A 9 ?_
 refine bD λx_x5 hx_x5=>?_
 refine A 3 ?_
 refine bD λr6 hr6=>?_
 refine A 18 ?_
 refine lP (E:=λ(s : (List Int) × Int × (List Mk) × Int) (g : Nat × Nat × Nat × Nat)=>[(0,.optr 8192 0 0 0),(1,OH i2),(2,.sl (params3.map OJ)),(3,OH most4),(8,.optr 8 g.1 0 0),(9,.optr 9 g.2.1 0 0),(10,.osl 10 g.2.2.1 0 s.2.2.1.length),(11,OH s.2.2.2)]) (O:=λs g=>[(8,dV g.1 3 27 (.agg [OH 0,.nils,.nils])),(9,dV g.2.1 3 27 (.agg [OH x_x5,.osl 21 g.2.2.2 0 r6.1.length,.nils])),(10,dW g.2.2.1 5 43 (s.2.2.1.map Pc)),(21,dW g.2.2.2 2 89 (r6.1.map Rf)),(8192,dV 0 2 70 (.agg [.sl (s.1.map eU8),OH s.2.1]))]) (body:=λs=>Qu r6 most4 x_x5 i2 params3 s.1 s.2.1 s.2.2.1 s.2.2.2) (s:=(r6.2.list,r6.2.at_,([] : List Mk),0)) (_,_,_,_) ((hE ⟨rfl,r,r,r,r,r,r,r,trivial⟩ ⟨rfl,r,r,r,r,trivial⟩))<|?_
 rintro ⟨c7,c8,code9,s10⟩ ⟨v8x1,v9x1,v10x1,v21x1⟩ nn
 try dsimp only
 unfold Qu
 refine A 10 ?_
 refine cD r ?_ ?_
 ·refine A 7 ?_
  refine bD λr11 hr11=>?_
  refine A 4 ?_
  refine cD r ?_ ?_
  ·refine A 4 ?_
   refine bD λr12 hr12=>?_
   refine A 2 ?_
   refine bS ([(Mk.mk 16 s10 r12.1 0 0)] : List Mk) Pc r r r (by simp) r r r<|?_
   exact B
  ·exact B
 ·refine A 11 ?_
  refine bD λr13 hr13=>?_
  refine A 5 ?_
  refine lP (E:=λ(s : (List Int) × Int × (List Mk) × (List Pp) × Int) (g : Nat × Nat × Nat)=>[(0,.optr 8192 0 0 0),(1,OH i2),(2,.sl (params3.map OJ)),(8,.optr 8 g.1 0 0),(9,.optr 9 g.2.1 0 0),(10,.osl 10 g.2.2 0 s.2.2.1.length),(12,OH s.2.2.2.2)]) (O:=λs g=>[(8,dV g.1 3 27 (.agg [OH 0,.nils,.nils])),(9,dV g.2.1 3 27 (.agg [OH x_x5,.sl (s.2.2.2.1.map Rf),.nils])),(10,dW g.2.2 5 43 (s.2.2.1.map Pc)),(8192,dV 0 2 70 (.agg [.sl (s.1.map eU8),OH s.2.1]))]) (body:=λs=>Qv x_x5 i2 params3 s.1 s.2.1 s.2.2.1 s.2.2.2.1 s.2.2.2.2) (s:=(r13.2.list,r13.2.at_,code9,r6.1,r13.1)) (_,_,_) ((Vd [(21,some (_,⟨true,false,2,89,r6.1.map Rf⟩))] ⟨⟨_,_,r,r,r⟩,trivial⟩ ⟨(PF r),(PF r),(PF r),(PF r),(PF r),(PF r),(PF r),trivial⟩ ⟨(.inl r),(.inr ⟨_,_,_,_,r,r,r,r,TS r ⟨(SK r),(RW (l:=r6.1) (en:=Rf) r r r (by simp)),(SK r),trivial⟩⟩),(.inl r),(.inl r),trivial⟩))<|?_
  rintro ⟨c14,c15,code16,f17,n18⟩ ⟨v8x2,v9x2,v10x2⟩ nn
  try dsimp only
  unfold Qv
  refine A 7 ?_
  refine cD r ?_ ?_
  ·refine A 11 ?_
   refine bD λr19 hr19=>?_
   refine A 8 ?_
   refine bD λr20 hr20=>?_
   refine A 10 ?_
   refine cD r ?_ ?_
   ·refine A 3 ?_
    refine bD λr21 hr21=>?_
    refine A 2 ?_
    refine bS ([(Mk.mk 21 r21.1 (-1) 0 0)] : List Mk) Pc r r r (by simp) r r r<|?_
    exact B
   ·refine A 6 ?_
    refine cD r ?_ ?_
    ·refine A 3 ?_
     refine bD λr22 hr22=>?_
     refine A 4 ?_
     refine cD r ?_ ?_
     ·refine A 3 ?_
      refine bS ([(Mk.mk 20 (-1) 0 0 0)] : List Mk) Pc r r r (by simp) r r r<|?_
      exact B
     ·exact B
    ·exact B
  ·refine A 12 ?_
   refine sC (E:=λ(_s : (List Int) × Int × Int × Int) (g : Nat × Nat × Nat × Nat)=>[(0,.optr 8192 0 0 0),(8,.optr 8 g.1 0 0),(9,.optr 9 g.2.1 0 0),(10,.osl 10 g.2.2.1 0 code16.length),(13,.optr 13 g.2.2.2 0 0)]) (O:=λs g=>[(8,dV g.1 3 27 (.agg [OH 0,.nils,.nils])),(9,dV g.2.1 3 27 (.agg [OH x_x5,.sl (f17.map Rf),.nils])),(10,dW g.2.2.1 5 43 (code16.map Pc)),(13,dV g.2.2.2 5 43 (.agg [OH s.2.2.1,OH 0,OH 0,OH 0,TT s.2.2.2])),(8192,dV 0 2 70 (.agg [.sl (s.1.map eU8),OH s.2.1]))]) (j:=λs=>Px code16 x_x5 f17 s.1 s.2.1 s.2.2.1 s.2.2.2) ?_ ?_
   ·exact B
   ·rintro ⟨c23,c24,end25,end26⟩ ⟨v8x3,v9x3,v10x3,v13x3⟩ nn
    try dsimp only
    unfold Px
    refine A 4 ?_
    refine bS ([(Mk.mk end25 0 0 0 end26)] : List Mk) Pc r r r (by simp) r r r<|cK λhq=>aP (code16) (([(Mk.mk end25 0 0 0 end26)] : List Mk)) Pc r r r r r r r (by simp) (PX _ _ r) r r (by simp) (PY _ _ r) (λ_=>r) r hq<|?_
    refine A 10 ?_
    refine lP (E:=λ(s : (List Int) × Int × (List Mk) × Int) (g : Nat × Nat × Nat)=>[(0,.optr 8192 0 0 0),(8,.optr 8 g.1 0 0),(9,.optr 9 g.2.1 0 0),(10,.osl 10 g.2.2 0 s.2.2.1.length),(14,OH s.2.2.2)]) (O:=λs g=>[(8,dV g.1 3 27 (.agg [OH 0,.nils,.nils])),(9,dV g.2.1 3 27 (.agg [OH x_x5,.sl (f17.map Rf),.nils])),(10,dW g.2.2 5 43 (s.2.2.1.map Pc)),(8192,dV 0 2 70 (.agg [.sl (s.1.map eU8),OH s.2.1]))]) (body:=λs=>PM x_x5 f17 s.1 s.2.1 s.2.2.1 s.2.2.2) (s:=(c23,c24,code16 ++ ([(Mk.mk end25 0 0 0 end26)] : List Mk),0)) (_,_,_) ((hE ⟨rfl,r,r,r,r,trivial⟩ ⟨rfl,r,r,r,trivial⟩))<|?_
    rintro ⟨c29,c30,code31,k32⟩ ⟨v8x4,v9x4,v10x4⟩ nn
    try dsimp only
    unfold PM
    refine A 9 ?_
    refine cD r ?_ ?_
    ·refine A 8 ?_
     refine bD λr33 hr33=>?_
     refine A 6 ?_
     refine sC (E:=λ(s : Int) (g : Nat × Nat × Nat)=>[(0,.optr 8192 0 0 0),(8,.optr 8 g.1 0 0),(9,.optr 9 g.2.1 0 0),(10,.osl 10 g.2.2 0 code31.length),(14,OH k32),(15,OH s)]) (O:=λ_ g=>[(8,dV g.1 3 27 (.agg [OH 0,.nils,.nils])),(9,dV g.2.1 3 27 (.agg [OH x_x5,.sl (f17.map Rf),.nils])),(10,dW g.2.2 5 43 (code31.map Pc)),(8192,dV 0 2 70 (.agg [.sl (r33.2.list.map eU8),OH r33.2.at_]))]) (j:=λs=>Pg k32 code31 r33 s) ?_ ?_
     ·exact B
     ·rintro to34 ⟨v8x5,v9x5,v10x5⟩ nn
      try dsimp only
      unfold Pg
      refine A 1 ?_
      refine sC (E:=λ(s : Bool) (g : Nat × Nat × Nat)=>[(0,.optr 8192 0 0 0),(8,.optr 8 g.1 0 0),(9,.optr 9 g.2.1 0 0),(10,.osl 10 g.2.2 0 code31.length),(14,OH k32),(15,OH to34),(107,.bool s)]) (O:=λ_ g=>[(8,dV g.1 3 27 (.agg [OH 0,.nils,.nils])),(9,dV g.2.1 3 27 (.agg [OH x_x5,.sl (f17.map Rf),.nils])),(10,dW g.2.2 5 43 (code31.map Pc)),(8192,dV 0 2 70 (.agg [.sl (r33.2.list.map eU8),OH r33.2.at_]))]) (j:=λs=>PN k32 code31 r33 to34 s) ?_ ?_
      ·exact B
      ·rintro x35 ⟨v8x6,v9x6,v10x6⟩ nn
       try dsimp only
       unfold PN
       refine cD r ?_ ?_
       ·refine A 6 ?_
        refine bD λcode_o38 hcode_o38=>sE (l:=code31) (en:=Pc) (q':=(Mk.mk code_o38.Op to34 code_o38.B code_o38.C code_o38.Imm)) r r r r r r r (by simp) hcode_o38 r r r r r<|?_
        exact B
       ·refine A 6 ?_
        refine bD λcode_e39 hcode_e39=>?_
        refine A 3 ?_
        refine UB r ?_ ?_
        ·refine A 4 ?_
         refine bD λcode_e40 hcode_e40=>?_
         refine A 6 ?_
         refine cD r ?_ ?_
         ·refine A 6 ?_
          refine bD λcode_o41 hcode_o41=>sE (l:=code31) (en:=Pc) (q':=(Mk.mk code_o41.Op code_o41.A to34 code_o41.C code_o41.Imm)) r r r r r r r (by simp) hcode_o41 r r r r r<|?_
          exact B
         ·exact B
        ·exact B
    ·refine A 19 ?_
     refine WA (b:=((OI.mk x_x5 f17 code31),(Ed.mk c29 c30))) r ?_ r r ?_ (by first | rfl | (simp only [BS]; rfl) | (simp only [Lo]; rfl) | (simp only [BS,Lo]; rfl) | simp [So,OK])
     all_goals first|(simp;done)|(simp;omega)|rfl|(simp [Pv,Pu];done)

def Qt (a : Ed × Int × Int) : List D:=[Pd a.1,OH a.2.1,OH a.2.2]
def Qs (ds : List D) : Ed × Int × Int:=(QG (ds.getD 0 .top),uI (ds.getD 1 .top),uI (ds.getD 2 .top))
theorem TG (a : Ed × Int × Int) : Qs (Qt a) = a:=by simp [Qs,Qt,uI]
instance : PZ Qt Qs:=⟨TG⟩
def TV (b : QI × Ed) : D:=Va b.1
def TU (b : QI × Ed) : List D:=[Pd b.2]
def Ss : Dw.Spec:=ON [(0,(2,70))] .val Qt Qs (λa=>Qw a.1 a.2.1 a.2.2) TV TU
theorem TH : OM Try.prog 23 Ss:=by
 refine fn2 3 (Pe (l:=[(24,Pr),(37,Sp)]) (by simp [Pt,TC])) Try.func23<|?_
 rintro ⟨c1,funcs2,most3⟩
 unfold Qw
 refine A 16 ?_
 refine bD λr4 hr4=>?_
 refine A 5 ?_
 refine lP (E:=λ(s : (List Int) × Int × (List Int) × Int) (g : Nat × Nat)=>[(0,.optr 8192 0 0 0),(2,OH most3),(6,.optr 6 g.1 0 0),(7,.osl 7 g.2 0 s.2.2.1.length),(8,OH s.2.2.2)]) (O:=λs g=>[(6,dV g.1 1 48 (.agg [.nils])),(7,dW g.2 1 3 (s.2.2.1.map OJ)),(8192,dV 0 2 70 (.agg [.sl (s.1.map eU8),OH s.2.1]))]) (body:=λs=>QB most3 s.1 s.2.1 s.2.2.1 s.2.2.2) (s:=(r4.2.list,r4.2.at_,([0] : List Int),r4.1)) (_,_) ((hE ⟨rfl,r,r,r,r,trivial⟩ ⟨rfl,r,r,trivial⟩))<|?_
 rintro ⟨c5,c6,params7,n8⟩ ⟨v6x1,v7x1⟩ nn
 try dsimp only
 unfold QB
 refine A 7 ?_
 refine cD r ?_ ?_
 ·exact B
 ·refine A 17 ?_
  refine lP (E:=λ(s : (List Int) × Int × (List OI) × Int × (List Int)) (g : Nat × Nat)=>[(0,.optr 8192 0 0 0),(2,OH most3),(6,.optr 6 g.1 0 0),(7,.sl (s.2.2.2.2.map OJ)),(9,.optr 9 g.2 0 0),(10,OH s.2.2.2.1)]) (O:=λs g=>[(6,dV g.1 1 48 (.agg [.nils])),(9,dV g.2 1 48 (.agg [.sl (s.2.2.1.map OK)])),(8192,dV 0 2 70 (.agg [.sl (s.1.map eU8),OH s.2.1]))]) (body:=λs=>QC most3 s.1 s.2.1 s.2.2.1 s.2.2.2.1 s.2.2.2.2) (s:=(c5,c6,[],0,params7)) (_,_) ((Vd [(7,some (_,⟨true,false,1,3,params7.map OJ⟩))] ⟨⟨_,_,r,r,r⟩,trivial⟩ ⟨(PF r),(PF r),(PF r),(RX (RW (l:=params7) (en:=OJ) r r r (by simp))),(PF r),(PF r),trivial⟩ ⟨(.inl r),(.inr ⟨_,_,_,_,r,r,r,r,TS r ⟨(SA OK r),trivial⟩⟩),(.inl r),trivial⟩))<|?_
  rintro ⟨c10,c11,p12,i13,params14⟩ ⟨v6x2,v9x2⟩ nn
  try dsimp only
  unfold QC
  refine A 9 ?_
  refine cD r ?_ ?_
  ·refine A 13 ?_
   refine bD λr15 hr15=>?_
   refine A 1 ?_
   refine bS ([r15.1] : List OI) OK r r r (by simp) r r r<|?_
   refine A 16 ?_
   exact wf [11] λ_=>B
  ·exact B

def Ri (a : (List Int)) : List D:=[.sl (a.map eU8)]
def Rh (ds : List D) : (List Int):=(uL uI) (ds.getD 0 .top)
theorem UQ (a : (List Int)) : Rh (Ri a) = a:=by simp [Rh,Ri,QY (u:=uI) (en:=eU8) (λ_=>rfl)]
instance : PZ Ri Rh:=⟨UQ⟩
def Ve (b : OI) : D:=OK b
def Th : Dw.Spec:=ON [] .val Ri Rh (λa=>Ru a) Ve noE
theorem UR : OM Try.prog 9 Th:=by
 refine fn2 1 (Pe (l:=[(22,Vl),(23,Ss),(24,Pr)]) (by simp [Wm,TH,Pt])) Try.func9<|?_
 intro a
 unfold Ru
 exact B

def Qo (a : Int × Int) : List D:=[TT a.1,TT a.2]
def Qn (ds : List D) : Int × Int:=(uI (ds.getD 0 .top),uI (ds.getD 1 .top))
theorem Uu (a : Int × Int) : Qn (Qo a) = a:=by simp [Qn,Qo,uI]
instance : PZ Qo Qn:=⟨Uu⟩
def US (b : Int × Int) : D:=.tup [TT b.1,TT b.2]
def SZ : Dw.Spec:=ON [] .ground Qo Qn (λa=>Rj a.1 a.2) US noE
theorem Uv : OM Try.prog 49 SZ:=by
 refine fn2 2 (Qp) Try.func49<|?_
 intro a
 unfold Rj
 exact B

def Vp (b : Int × Int) : D:=.tup [TT b.1,TT b.2]
def Tt : Dw.Spec:=ON [] .ground Qo Qn (λa=>Sk a.1 a.2) Vp noE
theorem Vf : OM Try.prog 42 Tt:=by
 refine fn2 2 (Pe (l:=[(49,SZ)]) (by simp [Uv])) Try.func42<|?_
 intro a
 unfold Sk
 exact B

def Qd (a : (List Int) × Int) : List D:=[.sl (a.1.map OJ),OH a.2]
def Qc (ds : List D) : (List Int) × Int:=((uL uI) (ds.getD 0 .top),uI (ds.getD 1 .top))
theorem Tn (a : (List Int) × Int) : Qc (Qd a) = a:=by simp [Qc,Qd,uI,QY (u:=uI) (en:=OJ) (λ_=>rfl)]
instance : PZ Qd Qc:=⟨Tn⟩
def Tq (b : (List Int)) : D:=.sl (b.map OJ)
def Sd : Dw.Spec:=ON [] (.row 1 3) Qd Qc (λa=>Qa a.1 a.2) Tq noE
theorem To : OM Try.prog 33 Sd:=by
 refine fn2 2 (Pe (l:=[(42,Tt)]) (by simp [Vf])) Try.func33<|?_
 rintro ⟨x1,count2⟩
 unfold Qa
 refine A 5 ?_
 refine sC (E:=λ(_s : Unit) (_g : Unit)=>[(0,.sl (x1.map OJ)),(1,OH count2)]) (O:=λ_ _=>[]) (j:=λ_=>Qg x1 count2) ?_ ?_
 ·refine A 6 ?_
  refine cD r ?_ ?_
  ·refine A 1 ?_
   exact Vo
  ·exact B
 ·rintro ⟨⟩ ⟨⟩ nn
  try dsimp only
  unfold Qg
  refine A 7 ?_
  refine bD λr3 hr3=>?_
  refine A 8 ?_
  refine sC (E:=λ(_s : Unit) (_g : Unit)=>[(0,.sl (x1.map OJ)),(6,TT r3.2)]) (O:=λ_ _=>[]) (j:=λ_=>Qh r3 x1) ?_ ?_
  ·refine A 5 ?_
   refine UB r ?_ ?_
   ·refine A 7 ?_
    exact Vo
   ·refine A 5 ?_
    refine cD r ?_ ?_
    ·refine A 1 ?_
     exact Vo
    ·exact B
  ·rintro ⟨⟩ ⟨⟩ nn
   try dsimp only
   unfold Qh
   refine A 4 ?_
   refine cK λhq=>mS (q:=(0 : Int)) OJ r r r r hq r<|?_
   refine A 7 ?_
   refine WD (q:=(List.replicate (i64.wrap (r3.2)).toNat (0 : Int)).length) (List.replicate (i64.wrap (r3.2)).toNat (0 : Int)) (x1) OJ r r r r r r (by first | (simp; done) | (simp; omega)) (by first | rfl | (simp [List.map_take,List.map_drop]; done)) r (λ_=>r) (λ_=>r) (by first | (simp; done) | (simp; omega) | omega)<|?_
   refine A 5 ?_
   refine lP (E:=λ(s : (List Int) × Int) (g : Nat)=>[(7,.osl 7 g 0 s.1.length),(8,OH s.2)]) (O:=λs g=>[(7,dW g 1 3 (s.1.map OJ))]) (body:=λs=>Qf s.1 s.2) (s:=(QQ (List.replicate (i64.wrap (r3.2)).toNat (0 : Int)) 0 ((List.replicate (i64.wrap (r3.2)).toNat (0 : Int)).length) x1,(Nat.min ((List.replicate (i64.wrap (r3.2)).toNat (0 : Int)).length) x1.length : Int))) _ ((hE ⟨(Wz (q:=(List.replicate (i64.wrap (r3.2)).toNat (0 : Int)).length) r (by simp)),r,trivial⟩ ⟨rfl,trivial⟩))<|?_
   rintro ⟨newslice4,n5⟩ v7x3 nn
   try dsimp only
   unfold Qf
   refine A 9 ?_
   refine cD r ?_ ?_
   ·refine A 7 ?_
    refine cK λhq=>Sy (l:=newslice4) r r r r r r hq<|?_
    refine A 2 ?_
    refine cK λhq=>RF (l:=newslice4) r r r r r r hq<|WD (q:=newslice4.length - n5.toNat) (newslice4) (newslice4.take n5.toNat) OJ r r r r r r (by first | (simp; done) | (simp; omega)) (by first | rfl | (simp [List.map_take,List.map_drop]; done)) r (λ_=>r) (λ_=>r) (by first | (simp; done) | (simp; omega) | omega)<|?_
    exact B
   ·exact B

def Vh (b : (List Int)) : D:=.sl (b.map OJ)
def Sn : Dw.Spec:=ON [] (.row 1 3) PA Pz (λa=>QH a) Vh noE
theorem Ta : OM Try.prog 13 Sn:=by
 refine fn2 1 (Pe (l:=[(33,Sd),(11,Rr)]) (by simp [To,RY])) Try.func13<|?_
 intro f1
 unfold QH
 refine A 12 ?_
 refine bD λr2 hr2=>?_
 refine A 8 ?_
 refine bD λr3 hr3=>?_
 refine A 6 ?_
 refine lP (E:=λ(s : (List Int) × Int) (g : Nat)=>[(3,.osl 3 g 0 s.1.length),(12,.sl (r3.map OJ)),(13,OH (r3.length : Int)),(14,OH s.2)]) (O:=λs g=>[(3,dW g 1 3 (s.1.map OJ))]) (body:=λs=>Rs r3 s.1 s.2) (s:=(r2,0)) _ ((hE ⟨rfl,r,r,r,trivial⟩ ⟨rfl,trivial⟩))<|?_
 rintro ⟨rank4,x5⟩ v3x1 nn
 try dsimp only
 unfold Rs
 exact B

def Vg (b : (List OL)) : D:=.sl (b.map PW)
def Tk : Dw.Spec:=ON [] (.row 2 35) PA Pz (λa=>Rv a) Vg noE
theorem UT : OM Try.prog 15 Tk:=by
 refine fn2 1 (Pe (l:=[(13,Sn),(27,SL)]) (by simp [Ta,Ut])) Try.func15<|?_
 intro f1
 unfold Rv
 refine A 14 ?_
 refine bD λr2 hr2=>?_
 refine A 14 ?_
 refine lP (E:=λ(s : (List OL) × Int) (g : Nat × Nat × Nat)=>[(1,.optr 1 g.1 0 0),(3,.osl 3 g.2.1 0 s.1.length),(4,.osl 4 g.2.2 0 r2.length),(12,OH (f1.Code.length : Int)),(13,OH s.2)]) (O:=λs g=>[(1,dV g.1 3 27 (OK f1)),(3,dW g.2.1 2 35 (s.1.map PW)),(4,dW g.2.2 1 3 (r2.map OJ))]) (body:=λs=>Rq f1 r2 s.1 s.2) (s:=(([] : List OL),0)) (_,_,_) ((hE ⟨rfl,r,r,r,r,trivial⟩ ⟨rfl,r,r,trivial⟩))<|?_
 rintro ⟨l3,x4⟩ ⟨v1x1,v3x1,v4x1⟩ nn
 try dsimp only
 unfold Rq
 refine A 6 ?_
 refine cD r ?_ ?_
 ·refine A 14 ?_
  refine bD λr5 hr5=>?_
  refine A 6 ?_
  refine lP (E:=λ(s : (List OL) × Int) (g : Nat × Nat × Nat × Nat)=>[(1,.optr 1 g.1 0 0),(3,.osl 3 g.2.1 0 s.1.length),(4,.osl 4 g.2.2.1 0 r2.length),(5,OH x4),(12,OH (f1.Code.length : Int)),(13,OH x4),(18,.osl 18 g.2.2.2 0 r5.length),(19,OH (r5.length : Int)),(20,OH s.2)]) (O:=λs g=>[(1,dV g.1 3 27 (OK f1)),(3,dW g.2.1 2 35 (s.1.map PW)),(4,dW g.2.2.1 1 3 (r2.map OJ)),(18,dW g.2.2.2 1 3 (r5.map OJ))]) (body:=λs=>QF r5 x4 r2 s.1 s.2) (s:=(l3,0)) (_,_,_,_) ((hE ⟨rfl,r,r,r,r,r,r,r,r,trivial⟩ ⟨rfl,r,r,r,trivial⟩))<|?_
  rintro ⟨l6,x7⟩ ⟨v1x2,v3x2,v4x2,v18x2⟩ nn
  try dsimp only
  unfold QF
  refine A 6 ?_
  refine cD r ?_ ?_
  ·refine A 7 ?_
   refine bD λx_e8 hx_e8=>?_
   refine A 4 ?_
   refine sC (E:=λ(s : Bool) (g : Nat × Nat × Nat × Nat)=>[(1,.optr 1 g.1 0 0),(3,.osl 3 g.2.1 0 l6.length),(4,.osl 4 g.2.2.1 0 r2.length),(5,OH x4),(7,OH x_e8),(12,OH (f1.Code.length : Int)),(13,OH x4),(18,.osl 18 g.2.2.2 0 r5.length),(19,OH (r5.length : Int)),(20,OH x7),(39,.bool s)]) (O:=λ_ g=>[(1,dV g.1 3 27 (OK f1)),(3,dW g.2.1 2 35 (l6.map PW)),(4,dW g.2.2.1 1 3 (r2.map OJ)),(18,dW g.2.2.2 1 3 (r5.map OJ))]) (j:=λs=>Py l6 x4 x_e8 x7 s) ?_ ?_
   ·exact B
   ·rintro x9 ⟨v1x3,v3x3,v4x3,v18x3⟩ nn
    try dsimp only
    unfold Py
    refine cD r ?_ ?_
    ·refine A 5 ?_
     refine bS ([(OL.mk x4 x_e8)] : List OL) PW r r r (by simp) r r r<|?_
     exact B
    ·exact B
  ·exact B
 ·exact B

def VZ (b : (List Int)) : D:=.sl (b.map OJ)
def Tl : Dw.Spec:=ON [] (.row 1 3) RE RD (λa=>Sb a.1 a.2) VZ noE
theorem Ua : OM Try.prog 18 Tl:=by
 refine fn2 2 (Qp) Try.func18<|?_
 rintro ⟨f1,k2⟩
 unfold Sb
 refine A 6 ?_
 refine sC (E:=λ(_s : Unit) (g : Nat)=>[(1,OH k2),(2,.optr 2 g 0 0)]) (O:=λ_ g=>[(2,dV g 3 27 (OK f1))]) (j:=λ_=>Sl f1 k2) ?_ ?_
 ·exact B
 ·rintro ⟨⟩ v2x1 nn
  try dsimp only
  unfold Sl
  refine A 5 ?_
  refine bD λx_x3 hx_x3=>?_
  refine A 20 ?_
  refine cD r ?_ ?_
  ·exact B
  ·refine sC (E:=λ(s : Bool) (g : Nat)=>[(1,OH k2),(5,.optr 5 g 0 0),(21,OH x_x3.Op),(27,.bool s)]) (O:=λ_ g=>[(5,dV g 5 43 (Pc x_x3))]) (j:=λs=>PH x_x3 k2 s) ?_ ?_
   ·exact B
   ·rintro x4 v5x2 nn
    try dsimp only
    unfold PH
    refine cD r ?_ ?_
    ·exact B
    ·refine A 6 ?_
     refine cD r ?_ ?_
     ·refine A 11 ?_
      refine cD r ?_ ?_
      ·refine A 6 ?_
       refine bS ([x_x3.B,i64.wrap (k2 + 1)] : List Int) OJ r r r (by simp) r r r<|?_
       exact B
      ·refine A 10 ?_
       refine cD r ?_ ?_
       ·refine A 6 ?_
        refine bS ([i64.wrap (k2 + 1),x_x3.B] : List Int) OJ r r r (by simp) r r r<|?_
        exact B
       ·exact B
     ·exact B

def Vq (b : (List Bool)) : D:=.sl (b.map D.bool)
def Tu : Dw.Spec:=ON [] (.row 1 4) PA Pz (λa=>RI a) Vq noE
theorem Vi : OM Try.prog 17 Tu:=by
 refine fn2 1 (Pe (l:=[(18,Tl)]) (by simp [Ua])) Try.func17<|?_
 intro f1
 unfold RI
 refine A 15 ?_
 refine sC (E:=λ(s : (List Bool)) (g : Nat × Nat)=>[(1,.optr 1 g.1 0 0),(3,.osl 3 g.2 0 s.length)]) (O:=λs g=>[(1,dV g.1 3 27 (OK f1)),(3,dW g.2 1 4 (s.map D.bool))]) (j:=λs=>QL f1 s) ?_ ?_
 ·exact B
 ·rintro out2 ⟨v1x1,v3x1⟩ nn
  try dsimp only
  unfold QL
  refine A 7 ?_
  refine lP (E:=λ(s : (List Bool) × Bool) (g : Nat × Nat)=>[(1,.optr 1 g.1 0 0),(3,.osl 3 g.2 0 s.1.length),(4,.bool s.2)]) (O:=λs g=>[(1,dV g.1 3 27 (OK f1)),(3,dW g.2 1 4 (s.1.map D.bool))]) (body:=λs=>Rz f1 s.1 s.2) (s:=(out2,true)) (_,_) ((hE ⟨rfl,r,r,trivial⟩ ⟨rfl,r,trivial⟩))<|?_
  rintro ⟨out4,again5⟩ ⟨v1x2,v3x2⟩ nn
  try dsimp only
  unfold Rz
  refine A 6 ?_
  refine cD r ?_ ?_
  ·refine A 14 ?_
   refine lP (E:=λ(s : (List Bool) × Bool × Int) (g : Nat × Nat)=>[(1,.optr 1 g.1 0 0),(3,.osl 3 g.2 0 s.1.length),(4,.bool s.2.1),(5,OH s.2.2)]) (O:=λs g=>[(1,dV g.1 3 27 (OK f1)),(3,dW g.2 1 4 (s.1.map D.bool))]) (body:=λs=>RA f1 s.1 s.2.1 s.2.2) (s:=(out4,false,0)) (_,_) ((hE ⟨rfl,r,r,r,trivial⟩ ⟨rfl,r,trivial⟩))<|?_
   rintro ⟨out6,again7,k8⟩ ⟨v1x3,v3x3⟩ nn
   try dsimp only
   unfold RA
   refine A 10 ?_
   refine cD r ?_ ?_
   ·refine A 2 ?_
    refine bC (E:=λ(s : (List Bool) × Bool) (g : Nat × Nat)=>[(1,.optr 1 g.1 0 0),(3,.osl 3 g.2 0 s.1.length),(4,.bool s.2),(5,OH k8)]) (O:=λs g=>[(1,dV g.1 3 27 (OK f1)),(3,dW g.2 1 4 (s.1.map D.bool))]) (j:=λs=>Qq k8 s.1 s.2) ?_ ?_
    ·refine A 4 ?_
     refine bD λr11 hr11=>?_
     refine A 10 ?_
     refine lP (E:=λ(s : (List Bool) × Bool × Int) (g : Nat × Nat × Nat)=>[(1,.optr 1 g.1 0 0),(3,.osl 3 g.2.1 0 s.1.length),(4,.bool s.2.1),(5,OH k8),(6,.osl 6 g.2.2 0 r11.length),(7,OH s.2.2)]) (O:=λs g=>[(1,dV g.1 3 27 (OK f1)),(3,dW g.2.1 1 4 (s.1.map D.bool)),(6,dW g.2.2 1 3 (r11.map OJ))]) (body:=λs=>RB r11 k8 s.1 s.2.1 s.2.2) (s:=(out6,again7,0)) (_,_,_) ((hE ⟨rfl,r,r,r,r,r,trivial⟩ ⟨rfl,r,r,trivial⟩))<|?_
     rintro ⟨out12,again13,i14⟩ ⟨v1x4,v3x4,v6x4⟩ nn
     try dsimp only
     unfold RB
     refine sC (E:=λ(s : Bool) (g : Nat × Nat × Nat)=>[(1,.optr 1 g.1 0 0),(3,.osl 3 g.2.1 0 out12.length),(4,.bool again13),(5,OH k8),(6,.osl 6 g.2.2 0 r11.length),(7,OH i14),(33,.osl 3 g.2.1 0 out12.length),(34,OH k8),(35,.optr 3 g.2.1 k8.toNat 0),(36,.bool s)]) (O:=λ_ g=>[(1,dV g.1 3 27 (OK f1)),(3,dW g.2.1 1 4 (out12.map D.bool)),(6,dW g.2.2 1 3 (r11.map OJ))]) (j:=λs=>RC i14 r11 out12 again13 s) ?_ ?_
     ·exact B
     ·rintro x15 ⟨v1x5,v3x5,v6x5⟩ nn
      try dsimp only
      unfold RC
      exact B
    ·rintro ⟨out9,again10⟩ ⟨v1x6,v3x6⟩ nn
     try dsimp only
     unfold Qq
     exact B
   ·exact B
  ·exact B

end
end Go.Proofs.Ytgebpjgohchohaa
