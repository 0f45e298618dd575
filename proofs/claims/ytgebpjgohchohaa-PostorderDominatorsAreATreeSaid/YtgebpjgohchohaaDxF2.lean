/-
  Programs on typed data, and the proofs that the code does what they say; written by a program (dx.py).
-/
import Derived.Test.YtgebpjgohchohaaProg
import Derived.Test.YtgebpjgohchohaaDd
import Derived.KernelRfl
import Derived.Test.YtgebpjgohchohaaDxP
import Derived.Test.YtgebpjgohchohaaDxF1
namespace Go.Proofs.Ytgebpjgohchohaa
open Go Go.Dw Go.Proofs
open Go.IntKind (i64)
set_option maxRecDepth 100000
set_option maxHeartbeats 40000000
open Go.Dw renaming PE -> bD,OU -> cK,Vn -> bS,UD -> aP,Rm -> sE,Vw -> mS,Vy -> cD,Wo -> xL,Up -> hE,WG -> lP,Vs -> sC,Vz -> bC,XG -> mF,rf -> r
noncomputable section
def QW (a : Mk × OG × Int × (List Int)) : List D:=[Pb a.1,OL a.2.1,OH a.2.2.1,.sl (a.2.2.2.map OK)]
def QV (ds : List D) : Mk × OG × Int × (List Int):=(QK (ds.getD 0 .top),Un (ds.getD 1 .top),uI (ds.getD 2 .top),(uL uI) (ds.getD 3 .top))
theorem Vi (a : Mk × OG × Int × (List Int)) : QV (QW a) = a:=by simp [QV,QW,uI,QY (u:=uI) (en:=OK) (λ_=>rfl)]
instance : PZ QW QV:=⟨Vi⟩
def VN (b : (List OE) × Mk) : D:=.sl (b.1.map Pa)
def VM (b : (List OE) × Mk) : List D:=[Pb b.2]
def TM : Dw.Spec:=ON [(0,(2,70))] (.row 5 43) QW QV (λa=>Rn a.1 a.2.1 a.2.2.1 a.2.2.2) VN VM
theorem Vj : OM Try.prog 44 TM:=by
 refine fn2 4 (Pe (l:=[(24,Pt),(51,TO),(45,SG)]) (by simp [Px,Vl,TD])) Try.func44<|?_
 rintro ⟨c1,f2,i3,params4⟩
 unfold Rn
 refine A 9 ?_
 refine bD λr5 hr5=>?_
 refine A 15 ?_
 refine bD λr6 hr6=>?_
 refine A 4 ?_
 refine bC (E:=λ(_s : Unit) (_g : Unit)=>[(9,OH r5.1)]) (O:=λ_ _=>[(8192,dV 0 2 70 (.agg [.sl (r6.2.list.map eU8),OH r6.2.at_]))]) (j:=λ_=>Sk r5 r6) ?_ ?_
 ·refine sC (E:=λ(s : Bool) (g : Nat)=>[(0,.optr 8192 0 0 0),(2,OH i3),(3,.sl (params4.map OK)),(5,.optr 5 g 0 0),(9,OH r5.1),(10,OH (f2.Slots.length : Int)),(11,OH r6.1),(23,.bool s)]) (O:=λ_ g=>[(5,dV g 3 27 (OL f2)),(8192,dV 0 2 70 (.agg [.sl (r6.2.list.map eU8),OH r6.2.at_]))]) (j:=λs=>PV r6 f2 r5 params4 i3 s) ?_ ?_
  ·exact B
  ·rintro x7 v5x1 nn
   try dsimp only
   unfold PV
   refine cD r ?_ ?_
   ·refine A 4 ?_
    refine bD λr8 hr8=>?_
    refine A 3 ?_
    refine bS ([(OE.mk 16 r8.1 r5.1 0 0)] : List OE) Pa r r r (by simp) r r r<|?_
    exact B
   ·refine sC (E:=λ(s : Bool) (g : Nat)=>[(0,.optr 8192 0 0 0),(2,OH i3),(3,.sl (params4.map OK)),(5,.optr 5 g 0 0),(9,OH r5.1),(10,OH (f2.Slots.length : Int)),(11,OH r6.1),(36,.bool s)]) (O:=λ_ g=>[(5,dV g 3 27 (OL f2)),(8192,dV 0 2 70 (.agg [.sl (r6.2.list.map eU8),OH r6.2.at_]))]) (j:=λs=>PW r6 f2 r5 params4 i3 s) ?_ ?_
    ·exact B
    ·rintro x9 v5x2 nn
     try dsimp only
     unfold PW
     refine cD r ?_ ?_
     ·refine A 5 ?_
      refine bD λr10 hr10=>?_
      refine A 2 ?_
      refine bS ([(OE.mk 15 r5.1 r10.1 0 0)] : List OE) Pa r r r (by simp) r r r<|?_
      exact B
     ·refine sC (E:=λ(s : Bool) (g : Nat)=>[(0,.optr 8192 0 0 0),(2,OH i3),(3,.sl (params4.map OK)),(5,.optr 5 g 0 0),(9,OH r5.1),(10,OH (f2.Slots.length : Int)),(11,OH r6.1),(49,.bool s)]) (O:=λ_ g=>[(5,dV g 3 27 (OL f2)),(8192,dV 0 2 70 (.agg [.sl (r6.2.list.map eU8),OH r6.2.at_]))]) (j:=λs=>Qa r6 f2 r5 params4 i3 s) ?_ ?_
      ·exact B
      ·rintro x11 v5x3 nn
       try dsimp only
       unfold Qa
       refine cD r ?_ ?_
       ·refine A 4 ?_
        refine bD λr12 hr12=>?_
        refine A 9 ?_
        refine bD λr13 hr13=>?_
        refine A 3 ?_
        refine bS ([(OE.mk 17 r13.1 r12.1 0 0)] : List OE) Pa r r r (by simp) r r r<|?_
        exact B
       ·refine A 7 ?_
        refine cD r ?_ ?_
        ·refine A 4 ?_
         refine bD λr14 hr14=>?_
         refine A 2 ?_
         refine bS ([(OE.mk 0 r5.1 0 0 r14.1)] : List OE) Pa r r r (by simp) r r r<|?_
         exact B
        ·refine A 7 ?_
         refine cD r ?_ ?_
         ·refine A 3 ?_
          refine bD λr15 hr15=>?_
          refine A 4 ?_
          refine bD λr16 hr16=>?_
          refine A 2 ?_
          refine bD λr17 hr17=>?_
          refine A 2 ?_
          refine bS ([(OE.mk (i64.wrap (2 + r15.1)) r5.1 r16.1 r17.1 0)] : List OE) Pa r r r (by simp) r r r<|?_
          exact B
         ·refine A 7 ?_
          refine cD r ?_ ?_
          ·refine A 4 ?_
           refine bS ([(OE.mk 14 r5.1 0 0 0)] : List OE) Pa r r r (by simp) r r r<|?_
           exact B
          ·refine A 7 ?_
           refine cD r ?_ ?_
           ·refine A 2 ?_
            refine bS ([13,12,1] : List Int) OK r r r (by simp) r r r<|?_
            refine A 1 ?_
            refine bD λr18 hr18=>?_
            refine A 2 ?_
            refine bD λx_e19 hx_e19=>?_
            refine A 3 ?_
            refine bS ([(OE.mk x_e19 r5.1 0 0 0)] : List OE) Pa r r r (by simp) r r r<|?_
            exact B
           ·refine sC (E:=λ(s : Bool) (g : Nat)=>[(0,.optr 8192 0 0 0),(2,OH i3),(3,.sl (params4.map OK)),(5,.optr 5 g 0 0),(9,OH r5.1),(11,OH r6.1),(104,.bool s)]) (O:=λ_ g=>[(5,dV g 3 27 (OL f2)),(8192,dV 0 2 70 (.agg [.sl (r6.2.list.map eU8),OH r6.2.at_]))]) (j:=λs=>Qb r6 f2 r5 params4 i3 s) ?_ ?_
            ·exact B
            ·rintro x20 v5x4 nn
             try dsimp only
             unfold Qb
             refine cD r ?_ ?_
             ·refine A 6 ?_
              refine bD λr21 hr21=>?_
              refine A 2 ?_
              refine bS ([(OE.mk 19 r5.1 r21.1 0 0)] : List OE) Pa r r r (by simp) r r r<|?_
              exact B
             ·refine sC (E:=λ(s : Bool) (_g : Unit)=>[(0,.optr 8192 0 0 0),(2,OH i3),(3,.sl (params4.map OK)),(9,OH r5.1),(119,.bool s)]) (O:=λ_ _=>[(8192,dV 0 2 70 (.agg [.sl (r6.2.list.map eU8),OH r6.2.at_]))]) (j:=λs=>Qc r6 params4 i3 r5 s) ?_ ?_
              ·exact B
              ·rintro x22 ⟨⟩ nn
               try dsimp only
               unfold Qc
               refine cD r ?_ ?_
               ·refine A 10 ?_
                refine bD λr23 hr23=>?_
                refine A 17 ?_
                refine lP (E:=λ(s : (List Int) × Int × (List OE) × Int) (g : Nat)=>[(0,.optr 8192 0 0 0),(3,.sl (params4.map OK)),(13,OH (i64.wrap ((i64.wrap (i3 + 1)) + r23.1))),(14,.osl 14 g 0 s.2.2.1.length),(15,OH s.2.2.2)]) (O:=λs g=>[(14,dW g 5 43 (s.2.2.1.map Pa)),(8192,dV 0 2 70 (.agg [.sl (s.1.map eU8),OH s.2.1]))]) (body:=λs=>Rp params4 i3 r23 s.1 s.2.1 s.2.2.1 s.2.2.2) (s:=(r23.2.list,r23.2.at_,([] : List OE),0)) _ ((hE ⟨rfl,r,r,r,r,trivial⟩ ⟨rfl,r,trivial⟩))<|?_
                rintro ⟨c24,c25,out26,a27⟩ v14x6 nn
                try dsimp only
                unfold Rp
                refine A 6 ?_
                refine bD λx_x28 hx_x28=>?_
                refine A 5 ?_
                refine cD r ?_ ?_
                ·refine A 7 ?_
                 refine bD λr29 hr29=>?_
                 refine A 4 ?_
                 refine cD r ?_ ?_
                 ·refine A 4 ?_
                  refine bD λr30 hr30=>?_
                  refine A 2 ?_
                  refine bS ([(OE.mk 18 a27 r30.1 0 0)] : List OE) Pa r r r (by simp) r r r<|?_
                  exact B
                 ·exact B
                ·refine A 10 ?_
                 refine bS ([(OE.mk 22 (i64.wrap ((i64.wrap (i3 + 1)) + r23.1)) 0 0 0)] : List OE) Pa r r r (by simp) r r r<|?_
                 exact B
               ·exact B
 ·rintro ⟨⟩ ⟨⟩ nn
  try dsimp only
  unfold Sk
  refine A 4 ?_
  refine bS ([(OE.mk 14 r5.1 0 0 0)] : List OE) Pa r r r (by simp) r r r<|?_
  exact B

def Ql (a : Mk × Int × (List Int) × Int) : List D:=[Pb a.1,OH a.2.1,.sl (a.2.2.1.map OK),OH a.2.2.2]
def Qk (ds : List D) : Mk × Int × (List Int) × Int:=(QK (ds.getD 0 .top),uI (ds.getD 1 .top),(uL uI) (ds.getD 2 .top),uI (ds.getD 3 .top))
theorem Uw (a : Mk × Int × (List Int) × Int) : Qk (Ql a) = a:=by simp [Qk,Ql,uI,QY (u:=uI) (en:=OK) (λ_=>rfl)]
instance : PZ Ql Qk:=⟨Uw⟩
def SR (b : OG × Mk) : D:=OL b.1
def UH (b : OG × Mk) : List D:=[Pb b.2]
def SS : Dw.Spec:=ON [(0,(2,70))] .val Ql Qk (λa=>Qr a.1 a.2.1 a.2.2.1 a.2.2.2) SR UH
theorem Ux : OM Try.prog 37 SS:=by
 refine fn2 4 (Pe (l:=[(43,TC),(24,Pt),(44,TM),(45,SG)]) (by simp [UY,Px,Vj,TD])) Try.func37<|?_
 rintro ⟨c1,i2,params3,most4⟩
 unfold Qr
 refine A 9 ?_
 refine bD λx_x5 hx_x5=>?_
 refine A 3 ?_
 refine bD λr6 hr6=>?_
 refine A 18 ?_
 refine lP (E:=λ(s : (List Int) × Int × (List OE) × Int) (g : Nat × Nat × Nat × Nat)=>[(0,.optr 8192 0 0 0),(1,OH i2),(2,.sl (params3.map OK)),(3,OH most4),(8,.optr 8 g.1 0 0),(9,.optr 9 g.2.1 0 0),(10,.osl 10 g.2.2.1 0 s.2.2.1.length),(11,OH s.2.2.2)]) (O:=λs g=>[(8,dV g.1 3 27 (.agg [OH 0,.nils,.nils])),(9,dV g.2.1 3 27 (.agg [OH x_x5,.osl 21 g.2.2.2 0 r6.1.length,.nils])),(10,dW g.2.2.1 5 43 (s.2.2.1.map Pa)),(21,dW g.2.2.2 2 89 (r6.1.map Rs)),(8192,dV 0 2 70 (.agg [.sl (s.1.map eU8),OH s.2.1]))]) (body:=λs=>Qy r6 most4 x_x5 i2 params3 s.1 s.2.1 s.2.2.1 s.2.2.2) (s:=(r6.2.list,r6.2.at_,([] : List OE),0)) (_,_,_,_) ((hE ⟨rfl,r,r,r,r,r,r,r,trivial⟩ ⟨rfl,r,r,r,r,trivial⟩))<|?_
 rintro ⟨c7,c8,code9,s10⟩ ⟨v8x1,v9x1,v10x1,v21x1⟩ nn
 try dsimp only
 unfold Qy
 refine A 10 ?_
 refine cD r ?_ ?_
 ·refine A 7 ?_
  refine bD λr11 hr11=>?_
  refine A 4 ?_
  refine cD r ?_ ?_
  ·refine A 4 ?_
   refine bD λr12 hr12=>?_
   refine A 2 ?_
   refine bS ([(OE.mk 16 s10 r12.1 0 0)] : List OE) Pa r r r (by simp) r r r<|?_
   exact B
  ·exact B
 ·refine A 11 ?_
  refine bD λr13 hr13=>?_
  refine A 5 ?_
  refine lP (E:=λ(s : (List Int) × Int × (List OE) × (List Pp) × Int) (g : Nat × Nat × Nat)=>[(0,.optr 8192 0 0 0),(1,OH i2),(2,.sl (params3.map OK)),(8,.optr 8 g.1 0 0),(9,.optr 9 g.2.1 0 0),(10,.osl 10 g.2.2 0 s.2.2.1.length),(12,OH s.2.2.2.2)]) (O:=λs g=>[(8,dV g.1 3 27 (.agg [OH 0,.nils,.nils])),(9,dV g.2.1 3 27 (.agg [OH x_x5,.sl (s.2.2.2.1.map Rs),.nils])),(10,dW g.2.2 5 43 (s.2.2.1.map Pa)),(8192,dV 0 2 70 (.agg [.sl (s.1.map eU8),OH s.2.1]))]) (body:=λs=>Qz x_x5 i2 params3 s.1 s.2.1 s.2.2.1 s.2.2.2.1 s.2.2.2.2) (s:=(r13.2.list,r13.2.at_,code9,r6.1,r13.1)) (_,_,_) ((Vd [(21,some (_,⟨true,false,2,89,r6.1.map Rs⟩))] ⟨⟨_,_,r,r,r⟩,trivial⟩ ⟨(PF r),(PF r),(PF r),(PF r),(PF r),(PF r),(PF r),trivial⟩ ⟨(.inl r),(.inr ⟨_,_,_,_,r,r,r,r,TS r ⟨(SK r),(RW (l:=r6.1) (en:=Rs) r r r (by simp)),(SK r),trivial⟩⟩),(.inl r),(.inl r),trivial⟩))<|?_
  rintro ⟨c14,c15,code16,f17,n18⟩ ⟨v8x2,v9x2,v10x2⟩ nn
  try dsimp only
  unfold Qz
  refine A 7 ?_
  refine cD r ?_ ?_
  ·refine A 11 ?_
   refine bD λr19 hr19=>?_
   refine A 8 ?_
   refine bD λr20 hr20=>?_
   refine A 10 ?_
   refine cD r ?_ ?_
   ·refine A 3 ?_
    refine bD λr21 hr21=>?_
    refine A 2 ?_
    refine bS ([(OE.mk 21 r21.1 (-1) 0 0)] : List OE) Pa r r r (by simp) r r r<|?_
    exact B
   ·refine A 6 ?_
    refine cD r ?_ ?_
    ·refine A 3 ?_
     refine bD λr22 hr22=>?_
     refine A 4 ?_
     refine cD r ?_ ?_
     ·refine A 3 ?_
      refine bS ([(OE.mk 20 (-1) 0 0 0)] : List OE) Pa r r r (by simp) r r r<|?_
      exact B
     ·exact B
    ·exact B
  ·refine A 12 ?_
   refine sC (E:=λ(_s : (List Int) × Int × Int × Int) (g : Nat × Nat × Nat × Nat)=>[(0,.optr 8192 0 0 0),(8,.optr 8 g.1 0 0),(9,.optr 9 g.2.1 0 0),(10,.osl 10 g.2.2.1 0 code16.length),(13,.optr 13 g.2.2.2 0 0)]) (O:=λs g=>[(8,dV g.1 3 27 (.agg [OH 0,.nils,.nils])),(9,dV g.2.1 3 27 (.agg [OH x_x5,.sl (f17.map Rs),.nils])),(10,dW g.2.2.1 5 43 (code16.map Pa)),(13,dV g.2.2.2 5 43 (.agg [OH s.2.2.1,OH 0,OH 0,OH 0,TT s.2.2.2])),(8192,dV 0 2 70 (.agg [.sl (s.1.map eU8),OH s.2.1]))]) (j:=λs=>Py code16 x_x5 f17 s.1 s.2.1 s.2.2.1 s.2.2.2) ?_ ?_
   ·exact B
   ·rintro ⟨c23,c24,end25,end26⟩ ⟨v8x3,v9x3,v10x3,v13x3⟩ nn
    try dsimp only
    unfold Py
    refine A 4 ?_
    refine bS ([(OE.mk end25 0 0 0 end26)] : List OE) Pa r r r (by simp) r r r<|cK λhq=>aP (code16) (([(OE.mk end25 0 0 0 end26)] : List OE)) Pa r r r r r r r (by simp) (PX _ _ r) r r (by simp) (PY _ _ r) (λ_=>r) r hq<|?_
    refine A 10 ?_
    refine lP (E:=λ(s : (List Int) × Int × (List OE) × Int) (g : Nat × Nat × Nat)=>[(0,.optr 8192 0 0 0),(8,.optr 8 g.1 0 0),(9,.optr 9 g.2.1 0 0),(10,.osl 10 g.2.2 0 s.2.2.1.length),(14,OH s.2.2.2)]) (O:=λs g=>[(8,dV g.1 3 27 (.agg [OH 0,.nils,.nils])),(9,dV g.2.1 3 27 (.agg [OH x_x5,.sl (f17.map Rs),.nils])),(10,dW g.2.2 5 43 (s.2.2.1.map Pa)),(8192,dV 0 2 70 (.agg [.sl (s.1.map eU8),OH s.2.1]))]) (body:=λs=>PO x_x5 f17 s.1 s.2.1 s.2.2.1 s.2.2.2) (s:=(c23,c24,code16 ++ ([(OE.mk end25 0 0 0 end26)] : List OE),0)) (_,_,_) ((hE ⟨rfl,r,r,r,r,trivial⟩ ⟨rfl,r,r,r,trivial⟩))<|?_
    rintro ⟨c29,c30,code31,k32⟩ ⟨v8x4,v9x4,v10x4⟩ nn
    try dsimp only
    unfold PO
    refine A 9 ?_
    refine cD r ?_ ?_
    ·refine A 8 ?_
     refine bD λr33 hr33=>?_
     refine A 6 ?_
     refine sC (E:=λ(s : Int) (g : Nat × Nat × Nat)=>[(0,.optr 8192 0 0 0),(8,.optr 8 g.1 0 0),(9,.optr 9 g.2.1 0 0),(10,.osl 10 g.2.2 0 code31.length),(14,OH k32),(15,OH s)]) (O:=λ_ g=>[(8,dV g.1 3 27 (.agg [OH 0,.nils,.nils])),(9,dV g.2.1 3 27 (.agg [OH x_x5,.sl (f17.map Rs),.nils])),(10,dW g.2.2 5 43 (code31.map Pa)),(8192,dV 0 2 70 (.agg [.sl (r33.2.list.map eU8),OH r33.2.at_]))]) (j:=λs=>Pc k32 code31 r33 s) ?_ ?_
     ·exact B
     ·rintro to34 ⟨v8x5,v9x5,v10x5⟩ nn
      try dsimp only
      unfold Pc
      refine A 1 ?_
      refine sC (E:=λ(s : Bool) (g : Nat × Nat × Nat)=>[(0,.optr 8192 0 0 0),(8,.optr 8 g.1 0 0),(9,.optr 9 g.2.1 0 0),(10,.osl 10 g.2.2 0 code31.length),(14,OH k32),(15,OH to34),(107,.bool s)]) (O:=λ_ g=>[(8,dV g.1 3 27 (.agg [OH 0,.nils,.nils])),(9,dV g.2.1 3 27 (.agg [OH x_x5,.sl (f17.map Rs),.nils])),(10,dW g.2.2 5 43 (code31.map Pa)),(8192,dV 0 2 70 (.agg [.sl (r33.2.list.map eU8),OH r33.2.at_]))]) (j:=λs=>PQ k32 code31 r33 to34 s) ?_ ?_
      ·exact B
      ·rintro x35 ⟨v8x6,v9x6,v10x6⟩ nn
       try dsimp only
       unfold PQ
       refine cD r ?_ ?_
       ·refine A 6 ?_
        refine bD λcode_o38 hcode_o38=>sE (l:=code31) (en:=Pa) (q':=(OE.mk code_o38.Op to34 code_o38.B code_o38.C code_o38.Imm)) r r r r r r r (by simp) hcode_o38 r r r r r<|?_
        exact B
       ·refine A 6 ?_
        refine bD λcode_e39 hcode_e39=>?_
        refine A 3 ?_
        refine UB r ?_ ?_
        ·refine A 4 ?_
         refine bD λcode_e40 hcode_e40=>?_
         refine A 6 ?_
         refine cD r ?_ ?_
         ·refine A 6 ?_
          refine bD λcode_o41 hcode_o41=>sE (l:=code31) (en:=Pa) (q':=(OE.mk code_o41.Op code_o41.A to34 code_o41.C code_o41.Imm)) r r r r r r r (by simp) hcode_o41 r r r r r<|?_
          exact B
         ·exact B
        ·exact B
    ·refine A 19 ?_
     refine WA (b:=((OG.mk x_x5 f17 code31),(Mk.mk c29 c30))) r ?_ r r ?_ (by first | rfl | (simp only [BS]; rfl) | (simp only [Lo]; rfl) | (simp only [BS,Lo]; rfl) | simp [SR,OL])
     all_goals first|(simp;done)|(simp;omega)|rfl|(simp [Pv,Pu];done)

def Qx (a : Mk × Int × Int) : List D:=[Pb a.1,OH a.2.1,OH a.2.2]
def Qw (ds : List D) : Mk × Int × Int:=(QK (ds.getD 0 .top),uI (ds.getD 1 .top),uI (ds.getD 2 .top))
theorem UF (a : Mk × Int × Int) : Qw (Qx a) = a:=by simp [Qw,Qx,uI]
instance : PZ Qx Qw:=⟨UF⟩
def UQ (b : QM × Mk) : D:=Wg b.1
def UP (b : QM × Mk) : List D:=[Pb b.2]
def Tc : Dw.Spec:=ON [(0,(2,70))] .val Qx Qw (λa=>QA a.1 a.2.1 a.2.2) UQ UP
theorem UG : OM Try.prog 23 Tc:=by
 refine fn2 3 (Pe (l:=[(24,Pt),(37,SS)]) (by simp [Px,Ux])) Try.func23<|?_
 rintro ⟨c1,funcs2,most3⟩
 unfold QA
 refine A 16 ?_
 refine bD λr4 hr4=>?_
 refine A 5 ?_
 refine lP (E:=λ(s : (List Int) × Int × (List Int) × Int) (g : Nat × Nat)=>[(0,.optr 8192 0 0 0),(2,OH most3),(6,.optr 6 g.1 0 0),(7,.osl 7 g.2 0 s.2.2.1.length),(8,OH s.2.2.2)]) (O:=λs g=>[(6,dV g.1 1 48 (.agg [.nils])),(7,dW g.2 1 3 (s.2.2.1.map OK)),(8192,dV 0 2 70 (.agg [.sl (s.1.map eU8),OH s.2.1]))]) (body:=λs=>QE most3 s.1 s.2.1 s.2.2.1 s.2.2.2) (s:=(r4.2.list,r4.2.at_,([0] : List Int),r4.1)) (_,_) ((hE ⟨rfl,r,r,r,r,trivial⟩ ⟨rfl,r,r,trivial⟩))<|?_
 rintro ⟨c5,c6,params7,n8⟩ ⟨v6x1,v7x1⟩ nn
 try dsimp only
 unfold QE
 refine A 7 ?_
 refine cD r ?_ ?_
 ·exact B
 ·refine A 17 ?_
  refine lP (E:=λ(s : (List Int) × Int × (List OG) × Int × (List Int)) (g : Nat × Nat)=>[(0,.optr 8192 0 0 0),(2,OH most3),(6,.optr 6 g.1 0 0),(7,.sl (s.2.2.2.2.map OK)),(9,.optr 9 g.2 0 0),(10,OH s.2.2.2.1)]) (O:=λs g=>[(6,dV g.1 1 48 (.agg [.nils])),(9,dV g.2 1 48 (.agg [.sl (s.2.2.1.map OL)])),(8192,dV 0 2 70 (.agg [.sl (s.1.map eU8),OH s.2.1]))]) (body:=λs=>QF most3 s.1 s.2.1 s.2.2.1 s.2.2.2.1 s.2.2.2.2) (s:=(c5,c6,[],0,params7)) (_,_) ((Vd [(7,some (_,⟨true,false,1,3,params7.map OK⟩))] ⟨⟨_,_,r,r,r⟩,trivial⟩ ⟨(PF r),(PF r),(PF r),(RX (RW (l:=params7) (en:=OK) r r r (by simp))),(PF r),(PF r),trivial⟩ ⟨(.inl r),(.inr ⟨_,_,_,_,r,r,r,r,TS r ⟨(SA OL r),trivial⟩⟩),(.inl r),trivial⟩))<|?_
  rintro ⟨c10,c11,p12,i13,params14⟩ ⟨v6x2,v9x2⟩ nn
  try dsimp only
  unfold QF
  refine A 9 ?_
  refine cD r ?_ ?_
  ·refine A 13 ?_
   refine bD λr15 hr15=>?_
   refine A 1 ?_
   refine bS ([r15.1] : List OG) OL r r r (by simp) r r r<|?_
   refine A 16 ?_
   exact wf [11] λ_=>B
  ·exact B

def Ru (a : (List Int)) : List D:=[.sl (a.map eU8)]
def Rt (ds : List D) : (List Int):=(uL uI) (ds.getD 0 .top)
theorem VQ (a : (List Int)) : Rt (Ru a) = a:=by simp [Rt,Ru,QY (u:=uI) (en:=eU8) (λ_=>rfl)]
instance : PZ Ru Rt:=⟨VQ⟩
def Wi (b : OG) : D:=OL b
def Uc : Dw.Spec:=ON [] .val Ru Rt (λa=>RI a) Wi noE
theorem VR : OM Try.prog 9 Uc:=by
 refine fn2 1 (Pe (l:=[(22,Wu),(23,Tc),(24,Pt)]) (by simp [XH,UG,Px])) Try.func9<|?_
 intro a
 unfold RI
 exact B

def Qt (a : Int × Int) : List D:=[TT a.1,TT a.2]
def Qs (ds : List D) : Int × Int:=(uI (ds.getD 0 .top),uI (ds.getD 1 .top))
theorem Vp (a : Int × Int) : Qs (Qt a) = a:=by simp [Qs,Qt,uI]
instance : PZ Qt Qs:=⟨Vp⟩
def VT (b : Int × Int) : D:=.tup [TT b.1,TT b.2]
def TQ : Dw.Spec:=ON [] .ground Qt Qs (λa=>Rv a.1 a.2) VT noE
theorem Vq : OM Try.prog 49 TQ:=by
 refine fn2 2 (Qp) Try.func49<|?_
 intro a
 unfold Rv
 exact B

def Ww (b : Int × Int) : D:=.tup [TT b.1,TT b.2]
def Uk : Dw.Spec:=ON [] .ground Qt Qs (λa=>SL a.1 a.2) Ww noE
theorem Wl : OM Try.prog 42 Uk:=by
 refine fn2 2 (Pe (l:=[(49,TQ)]) (by simp [Vq])) Try.func42<|?_
 intro a
 unfold SL
 exact B

def Qe (a : (List Int) × Int) : List D:=[.sl (a.1.map OK),OH a.2]
def Qd (ds : List D) : (List Int) × Int:=((uL uI) (ds.getD 0 .top),uI (ds.getD 1 .top))
theorem Ug (a : (List Int) × Int) : Qd (Qe a) = a:=by simp [Qd,Qe,uI,QY (u:=uI) (en:=OK) (λ_=>rfl)]
instance : PZ Qe Qd:=⟨Ug⟩
def Uj (b : (List Int)) : D:=.sl (b.map OK)
def Rb : Dw.Spec:=ON [] (.row 1 3) Qe Qd (λa=>Pz a.1 a.2) Uj noE
theorem Ss : OM Try.prog 33 Rb:=by
 refine fn2 2 (Pe (l:=[(42,Uk)]) (by simp [Wl])) Try.func33<|?_
 rintro ⟨x1,count2⟩
 unfold Pz
 refine A 5 ?_
 refine sC (E:=λ(_s : Unit) (_g : Unit)=>[(0,.sl (x1.map OK)),(1,OH count2)]) (O:=λ_ _=>[]) (j:=λ_=>Qi x1 count2) ?_ ?_
 ·refine A 6 ?_
  refine cD r ?_ ?_
  ·refine A 1 ?_
   exact Vo
  ·exact B
 ·rintro ⟨⟩ ⟨⟩ nn
  try dsimp only
  unfold Qi
  refine A 7 ?_
  refine bD λr3 hr3=>?_
  refine A 8 ?_
  refine sC (E:=λ(_s : Unit) (_g : Unit)=>[(0,.sl (x1.map OK)),(6,TT r3.2)]) (O:=λ_ _=>[]) (j:=λ_=>Qj r3 x1) ?_ ?_
  ·refine A 5 ?_
   refine UB r ?_ ?_
   ·refine A 7 ?_
    exact Vo
   ·refine A 5 ?_
    refine cD r ?_ ?_
    ·refine A 1 ?_
     exact Vo
    ·exact B
  ·rintro ⟨⟩ ⟨⟩ nn
   try dsimp only
   unfold Qj
   refine A 4 ?_
   refine cK λhq=>mS (q:=(0 : Int)) OK r r r r hq r<|?_
   refine A 7 ?_
   refine WD (q:=(List.replicate (i64.wrap (r3.2)).toNat (0 : Int)).length) (List.replicate (i64.wrap (r3.2)).toNat (0 : Int)) (x1) OK r r r r r r (by first | (simp; done) | (simp; omega)) (by first | rfl | (simp [List.map_take,List.map_drop]; done)) r (λ_=>r) (λ_=>r) (by first | (simp; done) | (simp; omega) | omega)<|?_
   refine A 5 ?_
   refine lP (E:=λ(s : (List Int) × Int) (g : Nat)=>[(7,.osl 7 g 0 s.1.length),(8,OH s.2)]) (O:=λs g=>[(7,dW g 1 3 (s.1.map OK))]) (body:=λs=>Qh s.1 s.2) (s:=(QQ (List.replicate (i64.wrap (r3.2)).toNat (0 : Int)) 0 ((List.replicate (i64.wrap (r3.2)).toNat (0 : Int)).length) x1,(Nat.min ((List.replicate (i64.wrap (r3.2)).toNat (0 : Int)).length) x1.length : Int))) _ ((hE ⟨(Wz (q:=(List.replicate (i64.wrap (r3.2)).toNat (0 : Int)).length) r (by simp)),r,trivial⟩ ⟨rfl,trivial⟩))<|?_
   rintro ⟨newslice4,n5⟩ v7x3 nn
   try dsimp only
   unfold Qh
   refine A 9 ?_
   refine cD r ?_ ?_
   ·refine A 7 ?_
    refine cK λhq=>Sy (l:=newslice4) r r r r r r hq<|?_
    refine A 2 ?_
    refine cK λhq=>RF (l:=newslice4) r r r r r r hq<|WD (q:=newslice4.length - n5.toNat) (newslice4) (newslice4.take n5.toNat) OK r r r r r r (by first | (simp; done) | (simp; omega)) (by first | rfl | (simp [List.map_take,List.map_drop]; done)) r (λ_=>r) (λ_=>r) (by first | (simp; done) | (simp; omega) | omega)<|?_
    exact B
   ·exact B

def Wn (b : (List Int)) : D:=.sl (b.map OK)
def SP : Dw.Spec:=ON [] (.row 1 3) Ph Pg (λa=>QL a) Wn noE
theorem TR : OM Try.prog 13 SP:=by
 refine fn2 1 (Pe (l:=[(33,Rb),(11,RE)]) (by simp [Ss,Sq])) Try.func13<|?_
 intro f1
 unfold QL
 refine A 12 ?_
 refine bD λr2 hr2=>?_
 refine A 8 ?_
 refine bD λr3 hr3=>?_
 refine A 6 ?_
 refine lP (E:=λ(s : (List Int) × Int) (g : Nat)=>[(3,.osl 3 g 0 s.1.length),(12,.sl (r3.map OK)),(13,OH (r3.length : Int)),(14,OH s.2)]) (O:=λs g=>[(3,dW g 1 3 (s.1.map OK))]) (body:=λs=>RH r3 s.1 s.2) (s:=(r2,0)) _ ((hE ⟨rfl,r,r,r,trivial⟩ ⟨rfl,trivial⟩))<|?_
 rintro ⟨rank4,x5⟩ v3x1 nn
 try dsimp only
 unfold RH
 exact B

def Xb (b : (List (List Int))) : D:=.sl (b.map (eL OK))
def UT : Dw.Spec:=ON [] .val Ph Pg (λa=>Sf a) Xb noE
theorem WK : OM Try.prog 34 UT:=by
 refine fn2 1 (Pe (l:=[(27,Tx)]) (by simp [Vm])) Try.func34<|?_
 intro f1
 unfold Sf
 refine A 11 ?_
 refine cK λhq=>NF (α:=Int) r r r hq r<|?_
 refine A 2 ?_
 refine RO (E:=[(1,.optr 1 _ 0 0),(3,.osl 4099 _ 0 ((List.replicate (f1.Code.length : Int).toNat ([] : (List Int))).length))]) (O:=[(1,dV _ 3 27 (OL f1)),(4099,dW _ 1 30 ((List.replicate (f1.Code.length : Int).toNat ([] : (List Int))).map (eR 1 3 OK)))]) ((WL (g:=3) (g2:=4099) r r r (Of (l:=List.replicate (f1.Code.length : Int).toNat ([] : (List Int))) (s':=1) (ty':=3) OK (by decide) (λ_ h=>List.eq_of_mem_replicate h)) (hE ⟨rfl,r,trivial⟩ ⟨rfl,r,trivial⟩))) λnn=>?_
 refine A 10 ?_
 refine lP (E:=λ(s : (List (List Int)) × Int) (g : Nat × Nat)=>[(1,.optr 1 g.1 0 0),(3,.osl 4099 g.2 0 s.1.length),(13,OH (f1.Code.length : Int)),(14,OH s.2)]) (O:=λs g=>[(1,dV g.1 3 27 (OL f1)),(4099,dW g.2 1 30 (s.1.map (eR 1 3 OK)))]) (body:=λs=>Sv f1 s.1 s.2) (s:=(List.replicate (f1.Code.length : Int).toNat ([] : (List Int)),0)) (_,_) ((hE ⟨rfl,r,r,r,trivial⟩ ⟨rfl,r,trivial⟩))<|?_
 rintro ⟨l2,x3⟩ ⟨v1x1,v4099x1⟩ nn
 try dsimp only
 unfold Sv
 refine A 6 ?_
 refine cD r ?_ ?_
 ·refine A 14 ?_
  refine bD λr4 hr4=>?_
  refine A 6 ?_
  refine lP (E:=λ(s : (List (List Int)) × Int) (g : Nat × Nat × Nat)=>[(1,.optr 1 g.1 0 0),(3,.osl 4099 g.2.2 0 s.1.length),(4,OH x3),(13,OH (f1.Code.length : Int)),(14,OH x3),(19,.osl 19 g.2.1 0 r4.length),(20,OH (r4.length : Int)),(21,OH s.2)]) (O:=λs g=>[(1,dV g.1 3 27 (OL f1)),(19,dW g.2.1 1 3 (r4.map OK)),(4099,dW g.2.2 1 30 (s.1.map (eR 1 3 OK)))]) (body:=λs=>Sz r4 x3 s.1 s.2) (s:=(l2,0)) (_,_,_) ((hE ⟨rfl,r,r,r,r,r,r,r,trivial⟩ ⟨rfl,r,r,trivial⟩))<|?_
  rintro ⟨l5,x6⟩ ⟨v1x2,v19x2,v4099x2⟩ nn
  try dsimp only
  unfold Sz
  refine A 6 ?_
  refine cD r ?_ ?_
  ·refine A 7 ?_
   refine bD λx_e7 hx_e7=>?_
   refine A 10 ?_
   refine bD λl_e8 hl_e8=>Oe (q:=l_e8) OK r r r hl_e8<|?_
   refine A 2 ?_
   refine cK λhq=>WV (l_e8) (([x3] : List Int)) OK r r r r r r r (by simp) (PX _ _ r) r r (by simp) (PY _ _ r) (λ_=>r) r hq (λ_=>r)<|cK λhq=>NC (by simp) r r r r (by simpa using hq)<|NG (l:=l5) (q:=l_e8) (q':=l_e8 ++ ([x3] : List Int)) OK rfl rfl rfl rfl (.inr ⟨_,_,_,rfl⟩) hl_e8 rfl rfl ⟨⟨rfl,rfl,by simp,KG λ_=>rfl⟩,trivial,rfl⟩ (congrArg (λz=>[D.row _ _ z]) (PY _ _ rfl)) rfl<|?_
   exact B
  ·exact B
 ·refine A 4 ?_
  refine RO (E:=[(3,.osl 4099 _ 0 l2.length)]) (O:=[(4099,dW _ 1 30 (l2.map (eL OK)))]) ((NY (g:=4099) r (Oh (l:=l2) OK (λ_=>r)) (hE ⟨rfl,trivial⟩ ⟨rfl,trivial⟩))) λnn=>?_
  exact B

def Yq : Pf:=(.seq (.reg [P 6 (.asg (C 0) none)] false) (.seq (.block 0 (.loop (.seq (.seq (.reg [M 7 0,M 8 1,P 9 (.bin .neq (T 7) (T 8))] false) (.cond (T 9) .skip (.exit 0))) (.block 1 (.seq (.reg [P 10 (.ld 1 false (T 2)),M 11 0,⟨(some 12),(.ixA 1 (T 10) (T 11)),none,[0,1]⟩,⟨(some 13),(.ld 1 false (T 12)),none,[2]⟩,P 14 (.ld 1 false (T 2)),M 15 1,⟨(some 16),(.ixA 1 (T 14) (T 15)),none,[4,5]⟩,⟨(some 17),(.ld 1 false (T 16)),none,[6]⟩,⟨(some 18),(.bin .gtr (T 13) (T 17)),none,[3,7]⟩] true) (.cond (T 18) (.reg [P 19 (.ld 1 false (T 3)),M 20 0,P 21 (.ixA 1 (T 19) (T 20)),P 22 (.ld 1 false (T 21)),P 0 (.asg (T 22) none)] false) (.reg [P 23 (.ld 1 false (T 3)),M 24 1,P 25 (.ixA 1 (T 23) (T 24)),P 26 (.ld 1 false (T 25)),P 1 (.asg (T 26) none)] false))))))) (.seq (.reg [M 27 0,P 6 (.asg (T 27) none)] false) .ret)))
theorem Zh : (Try.f35.body.bind (PD Try.prog Try.f35.ntmps)) = some Yq:=by kernel_rfl
theorem Zi : Try.f35.results.toList.mapM (RJ Try.prog) = some [(.t 6)]:=by kernel_rfl

def Uy (b : (List Int)) : D:=.sl (b.map OK)
def SI : Dw.Spec:=ON [] (.row 1 3) Ph Pg (λa=>Qf a) Uy noE
def Sj : Dw.Spec:=Tv (specs []) 4 [(.t 6)] Yq
theorem TI : OM Try.prog 35 Sj:=SW (Qp) Try.func35 (by decide) Zh Zi (by decide)
theorem Ui : OM Try.prog 19 SI:=by
 refine fn2 1 (Pe (l:=[(11,RE),(13,SP),(34,UT),(33,Rb),(35,Sj)]) (by simp [Sq,TR,WK,Ss,TI])) Try.func19<|?_
 intro f1
 unfold Qf
 refine A 9 ?_
 refine bD λr2 hr2=>?_
 refine A 2 ?_
 refine bD λr3 hr3=>?_
 refine A 2 ?_
 refine bD λr4 hr4=>?_
 refine A 13 ?_
 refine bD λr5 hr5=>?_
 refine A 7 ?_
 refine mF (caps:=[.optr 4 _ 0 0,.optr 6 _ 0 0]) r r (by simp [UC])<|?_
 refine A 10 ?_
 refine lP (E:=λ(s : (List Int) × Bool) (g : Nat × Nat × Nat × Nat)=>[(3,.sl (r2.map OK)),(4,.optr 4 g.1 0 0),(5,.sl (r4.map (eL OK))),(6,.optr 6 g.2.1 0 0),(7,.clo 35 [.optr 4 g.1 0 0,.optr 6 g.2.1 0 0]),(8,.bool s.2)]) (O:=λs g=>[(4,dV g.1 1 30 (.osl 17 g.2.2.1 0 r3.length)),(6,dV g.2.1 1 30 (.osl 24 g.2.2.2 0 s.1.length)),(17,dW g.2.2.1 1 3 (r3.map OK)),(24,dW g.2.2.2 1 3 (s.1.map OK))]) (body:=λs=>Qm r2 r4 r3 s.1 s.2) (s:=(r5,true)) (_,_,_,_) ((hE ⟨rfl,r,r,r,r,r,trivial⟩ ⟨rfl,r,r,r,trivial⟩))<|?_
 rintro ⟨x6,changed7⟩ ⟨v4x1,v6x1,v17x1,v24x1⟩ nn
 try dsimp only
 unfold Qm
 refine A 6 ?_
 refine cD r ?_ ?_
 ·refine A 20 ?_
  refine lP (E:=λ(s : (List Int) × Int × Bool) (g : Nat × Nat × Nat × Nat)=>[(3,.sl (r2.map OK)),(4,.optr 4 g.1 0 0),(5,.sl (r4.map (eL OK))),(6,.optr 6 g.2.1 0 0),(7,.clo 35 [.optr 4 g.1 0 0,.optr 6 g.2.1 0 0]),(8,.bool s.2.2),(31,.sl ((r2.drop (SV 1 (r2.length : Int)).toNat).map OK)),(32,OH ((r2.drop (SV 1 (r2.length : Int)).toNat).length : Int)),(33,OH s.2.1)]) (O:=λs g=>[(4,dV g.1 1 30 (.osl 17 g.2.2.1 0 r3.length)),(6,dV g.2.1 1 30 (.osl 24 g.2.2.2 0 s.1.length)),(17,dW g.2.2.1 1 3 (r3.map OK)),(24,dW g.2.2.2 1 3 (s.1.map OK))]) (body:=λs=>PI r2 r4 r3 s.1 s.2.1 s.2.2) (s:=(x6,0,false)) (_,_,_,_) ((hE ⟨rfl,r,r,r,r,r,r,r,r,trivial⟩ ⟨rfl,r,r,r,trivial⟩))<|?_
  rintro ⟨x8,x9,changed10⟩ ⟨v4x2,v6x2,v17x2,v24x2⟩ nn
  try dsimp only
  unfold PI
  refine A 6 ?_
  refine cD r ?_ ?_
  ·refine A 6 ?_
   refine bD λx_x11 hx_x11=>?_
   refine A 15 ?_
   refine bD λx_x12 hx_x12=>?_
   refine A 7 ?_
   refine lP (E:=λ(s : Int × Int) (g : Nat × Nat × Nat × Nat)=>[(3,.sl (r2.map OK)),(4,.optr 4 g.1 0 0),(5,.sl (r4.map (eL OK))),(6,.optr 6 g.2.1 0 0),(7,.clo 35 [.optr 4 g.1 0 0,.optr 6 g.2.1 0 0]),(8,.bool changed10),(10,OH x_x11),(11,OH s.1),(31,.sl ((r2.drop (SV 1 (r2.length : Int)).toNat).map OK)),(32,OH ((r2.drop (SV 1 (r2.length : Int)).toNat).length : Int)),(33,OH x9),(40,.sl (x_x12.map OK)),(41,OH (x_x12.length : Int)),(42,OH s.2)]) (O:=λ_ g=>[(4,dV g.1 1 30 (.osl 17 g.2.2.1 0 r3.length)),(6,dV g.2.1 1 30 (.osl 24 g.2.2.2 0 x8.length)),(17,dW g.2.2.1 1 3 (r3.map OK)),(24,dW g.2.2.2 1 3 (x8.map OK))]) (body:=λs=>PJ x_x12 r3 x8 x_x11 x9 changed10 s.1 s.2) (s:=((-1),0)) (_,_,_,_) ((hE ⟨rfl,r,r,r,r,r,r,r,r,r,r,r,r,r,trivial⟩ ⟨rfl,r,r,r,trivial⟩))<|?_
   rintro ⟨d13,x14⟩ ⟨v4x3,v6x3,v17x3,v24x3⟩ nn
   try dsimp only
   unfold PJ
   refine A 6 ?_
   refine cD r ?_ ?_
   ·refine A 6 ?_
    refine bD λx_x15 hx_x15=>?_
    refine A 6 ?_
    refine sC (E:=λ(s : Bool) (g : Nat × Nat × Nat × Nat)=>[(3,.sl (r2.map OK)),(4,.optr 4 g.1 0 0),(5,.sl (r4.map (eL OK))),(6,.optr 6 g.2.1 0 0),(7,.clo 35 [.optr 4 g.1 0 0,.optr 6 g.2.1 0 0]),(8,.bool changed10),(10,OH x_x11),(11,OH d13),(13,OH x_x15),(31,.sl ((r2.drop (SV 1 (r2.length : Int)).toNat).map OK)),(32,OH ((r2.drop (SV 1 (r2.length : Int)).toNat).length : Int)),(33,OH x9),(40,.sl (x_x12.map OK)),(41,OH (x_x12.length : Int)),(42,OH x14),(50,.bool s)]) (O:=λ_ g=>[(4,dV g.1 1 30 (.osl 17 g.2.2.1 0 r3.length)),(6,dV g.2.1 1 30 (.osl 24 g.2.2.2 0 x8.length)),(17,dW g.2.2.1 1 3 (r3.map OK)),(24,dW g.2.2.2 1 3 (x8.map OK))]) (j:=λs=>OZ d13 x14 x_x15 r3 x8 s) ?_ ?_
    ·exact B
    ·rintro x16 ⟨v4x4,v6x4,v17x4,v24x4⟩ nn
     try dsimp only
     unfold OZ
     refine cD r ?_ ?_
     ·exact B
     ·refine A 7 ?_
      refine cD r ?_ ?_
      ·exact B
      ·refine A 4 ?_
       refine Sx (E:=λ(g : Nat × Nat × Nat × Nat)=>[(3,.sl (r2.map OK)),(4,.optr 1004 g.1 0 0),(5,.sl (r4.map (eL OK))),(6,.optr 1006 g.2.1 0 0),(7,.clo 35 [.optr 1004 g.1 0 0,.optr 1006 g.2.1 0 0]),(8,.bool changed10),(10,OH x_x11),(31,.sl ((r2.drop (SV 1 (r2.length : Int)).toNat).map OK)),(32,OH ((r2.drop (SV 1 (r2.length : Int)).toNat).length : Int)),(33,OH x9),(40,.sl (x_x12.map OK)),(41,OH (x_x12.length : Int)),(42,OH x14),(46,.clo 35 [.optr 1004 g.1 0 0,.optr 1006 g.2.1 0 0]),(47,OH d13),(48,OH x_x15)]) (O:=λg=>[(1004,dV g.1 1 30 (.osl 1017 g.2.2.1 0 r3.length)),(1006,dV g.2.1 1 30 (.osl 1024 g.2.2.2 0 x8.length)),(1017,dW g.2.2.1 1 3 (r3.map OK)),(1024,dW g.2.2.2 1 3 (x8.map OK))]) (_,_,_,_) ((Pq (λg=>bif Nat.ble 4096 g then g + 20000 else g + 1000) (by rfl) (hE ⟨rfl,r,r,r,r,r,r,r,r,r,r,r,r,r,r,r,trivial⟩ ⟨rfl,r,r,r,trivial⟩)))<|?_
       rintro ⟨v1004x5,v1006x5,v1017x5,v1024x5⟩ nn
       try dsimp only
       refine WC (ES:=λ(s : Int) (g : Nat × Nat × Nat × Nat)=>[(3,.sl (r2.map OK)),(4,.optr 4 g.1 0 0),(5,.sl (r4.map (eL OK))),(6,.optr 6 g.2.1 0 0),(7,.clo 35 [.optr 4 g.1 0 0,.optr 6 g.2.1 0 0]),(8,.bool changed10),(10,OH x_x11),(31,.sl ((r2.drop (SV 1 (r2.length : Int)).toNat).map OK)),(32,OH ((r2.drop (SV 1 (r2.length : Int)).toNat).length : Int)),(33,OH x9),(40,.sl (x_x12.map OK)),(41,OH (x_x12.length : Int)),(42,OH x14),(49,OH s)]) (OS:=λ_ g=>[(4,dV g.1 1 30 (.osl 17 g.2.2.1 0 r3.length)),(6,dV g.2.1 1 30 (.osl 24 g.2.2.2 0 x8.length)),(17,dW g.2.2.1 1 3 (r3.map OK)),(24,dW g.2.2.2 1 3 (x8.map OK))]) (j:=λs=>Qn x14 s) (ds:=[OH d13,OH x_x15]) (caps:=[.optr 1004 v1004x5 0 0,.optr 1006 v1006x5 0 0]) (E:=[(0,OH d13),(1,OH x_x15),(2,.optr 1004 v1004x5 0 0),(3,.optr 1006 v1006x5 0 0)]) r r r r r r r r ?_ ?_
       ·unfold Yq
        refine A 7 ?_
        refine lP (E:=λ(s : Int × Int) (_g : Unit)=>[(0,OH s.1),(1,OH s.2),(2,.optr 1004 v1004x5 0 0),(3,.optr 1006 v1006x5 0 0)]) (O:=λ_ _=>[(1004,dV v1004x5 1 30 (.osl 1017 v1017x5 0 r3.length)),(1006,dV v1006x5 1 30 (.osl 1024 v1024x5 0 x8.length)),(1017,dW v1017x5 1 3 (r3.map OK)),(1024,dW v1024x5 1 3 (x8.map OK))]) (body:=λs=>PK r3 x8 x14 s.1 s.2) (s:=(d13,x_x15)) () ((hE ⟨rfl,r,r,r,trivial⟩ ⟨rfl,r,r,r,trivial⟩))<|?_
        rintro ⟨a20,b21⟩ ⟨⟩ nn
        try dsimp only
        unfold PK
        refine A 8 ?_
        refine cD r ?_ ?_
        ·exact B
        ·refine A 12 ?_
         exact TX (d:=OH a20) (s:=a20) (_,_,_,_) r (by first | rfl | (simp [OX,OO,rdA,raw,strip,OT,cells,OR]; done) | (simp [OX,OO,rdA,raw,strip,OT,S.ge,S.go,look,Te,cells,OR]; done)) r ((QS (E1:=[(3,.sl (r2.map OK)),(4,.optr 1004 v1004x5 0 0),(5,.sl (r4.map (eL OK))),(6,.optr 1006 v1006x5 0 0),(7,.clo 35 [.optr 1004 v1004x5 0 0,.optr 1006 v1006x5 0 0]),(8,.bool changed10),(10,OH x_x11),(31,.sl ((r2.drop (SV 1 (r2.length : Int)).toNat).map OK)),(32,OH ((r2.drop (SV 1 (r2.length : Int)).toNat).length : Int)),(33,OH x9),(40,.sl (x_x12.map OK)),(41,OH (x_x12.length : Int)),(42,OH x14),(49,OH a20)]) (O1:=[(1004,dV v1004x5 1 30 (.osl 1017 v1017x5 0 r3.length)),(1006,dV v1006x5 1 30 (.osl 1024 v1024x5 0 x8.length)),(1017,dW v1017x5 1 3 (r3.map OK)),(1024,dW v1024x5 1 3 (x8.map OK))]) (hE ⟨rfl,r,r,r,r,r,r,r,r,r,r,r,r,r,trivial⟩ ⟨rfl,r,r,r,trivial⟩) (λ_=>Pq (λg=>bif Nat.ble 24096 g then g - 20000 else bif (Nat.ble 1000 g && Nat.blt g 4096) then g - 1000 else g) (by rfl) (hE ⟨rfl,r,r,r,r,r,r,r,r,r,r,r,r,r,trivial⟩ ⟨rfl,r,r,r,trivial⟩))))
       ·rintro x19 ⟨v4x7,v6x7,v17x7,v24x7⟩ nn
        try dsimp only
        unfold Qn
        exact B
   ·refine A 11 ?_
    refine bD λx_e26 hx_e26=>?_
    refine A 4 ?_
    refine cD r ?_ ?_
    ·refine A 5 ?_
     refine bD λx_o27 hx_o27=>?_
     refine A 9 ?_
     exact xL (s:=(x8.set x_x11.toNat d13,i64.wrap (x9 + 1),true)) (_,_,_,_) ((hE ⟨rfl,r,r,r,r,r,r,r,r,trivial⟩ ⟨rfl,(Eq.trans (b:=dV _ 1 30 (.osl 24 _ 0 x8.length)) r (by simp)),r,r,trivial⟩))
    ·exact B
  ·exact B
 ·exact B

def Xs (b : (List Int)) : D:=.sl (b.map OK)
def Ue : Dw.Spec:=ON [] (.row 1 3) Rh Rf (λa=>SD a.1 a.2) Xs noE
theorem UX : OM Try.prog 18 Ue:=by
 refine fn2 2 (Qp) Try.func18<|?_
 rintro ⟨f1,k2⟩
 unfold SD
 refine A 6 ?_
 refine sC (E:=λ(_s : Unit) (g : Nat)=>[(1,OH k2),(2,.optr 2 g 0 0)]) (O:=λ_ g=>[(2,dV g 3 27 (OL f1))]) (j:=λ_=>SM f1 k2) ?_ ?_
 ·exact B
 ·rintro ⟨⟩ v2x1 nn
  try dsimp only
  unfold SM
  refine A 5 ?_
  refine bD λx_x3 hx_x3=>?_
  refine A 20 ?_
  refine cD r ?_ ?_
  ·exact B
  ·refine sC (E:=λ(s : Bool) (g : Nat)=>[(1,OH k2),(5,.optr 5 g 0 0),(21,OH x_x3.Op),(27,.bool s)]) (O:=λ_ g=>[(5,dV g 5 43 (Pa x_x3))]) (j:=λs=>PH x_x3 k2 s) ?_ ?_
   ·exact B
   ·rintro x4 v5x2 nn
    try dsimp only
    unfold PH
    refine cD r ?_ ?_
    ·exact B
    ·refine A 6 ?_
     refine cD r ?_ ?_
     ·refine A 11 ?_
      refine cD r ?_ ?_
      ·refine A 6 ?_
       refine bS ([x_x3.B,i64.wrap (k2 + 1)] : List Int) OK r r r (by simp) r r r<|?_
       exact B
      ·refine A 10 ?_
       refine cD r ?_ ?_
       ·refine A 6 ?_
        refine bS ([i64.wrap (k2 + 1),x_x3.B] : List Int) OK r r r (by simp) r r r<|?_
        exact B
       ·exact B
     ·exact B

end
end Go.Proofs.Ytgebpjgohchohaa
