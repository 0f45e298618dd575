/-
  Programs on typed data, and the proofs that the code does what they say; written by a program (dx.py).
-/
import Derived.Test.YtgebpjgohchohaaProg
import Derived.Test.YtgebpjgohchohaaDd
import Derived.KernelRfl
import Derived.Test.YtgebpjgohchohaaDxP
import Derived.Test.YtgebpjgohchohaaDxF1
namespace Go.Proofs.Ytgebpjgohchohaa
open Go Go.Dw Go.Proofs
open Go.IntKind (i64)
set_option maxRecDepth 100000
set_option maxHeartbeats 40000000
open Go.Dw renaming PE -> bD,OU -> cK,Vn -> bS,UD -> aP,Rm -> sE,Vw -> mS,Vy -> cD,Up -> hE,WG -> lP,Vs -> sC,Vz -> bC,rf -> r
noncomputable section
def QJ (a : Ed × OI × Int × (List Int)) : List D:=[OY a.1,OQ a.2.1,OH a.2.2.1,.sl (a.2.2.2.map OJ)]
def QI (ds : List D) : Ed × OI × Int × (List Int):=(QD (ds.getD 0 .top),TG (ds.getD 1 .top),uI (ds.getD 2 .top),(uL uI) (ds.getD 3 .top))
theorem UI (a : Ed × OI × Int × (List Int)) : QI (QJ a) = a:=by simp [QI,QJ,uI,QY (u:=uI) (en:=OJ) (λ_=>rfl)]
instance : PZ QJ QI:=⟨UI⟩
def Vi (b : (List Mk) × Ed) : D:=.sl (b.1.map OP)
def Vh (b : (List Mk) × Ed) : List D:=[OY b.2]
def Ta : Dw.Spec:=ON [(0,(2,70))] (.row 5 43) QJ QI (λa=>QP a.1 a.2.1 a.2.2.1 a.2.2.2) Vi Vh
theorem UJ : OM Try.prog 44 Ta:=by
 refine fn2 4 (Pe (l:=[(24,Po),(51,Tb),(45,RU)]) (by simp [Pp,UL,SS])) Try.func44<|?_
 rintro ⟨c1,f2,i3,params4⟩
 unfold QP
 refine A 9 ?_
 refine bD λr5 hr5=>?_
 refine A 15 ?_
 refine bD λr6 hr6=>?_
 refine A 4 ?_
 refine bC (E:=λ(_s : Unit) (_g : Unit)=>[(9,OH r5.1)]) (O:=λ_ _=>[(8192,dV 0 2 70 (.agg [.sl (r6.2.list.map eU8),OH r6.2.at_]))]) (j:=λ_=>RE r5 r6) ?_ ?_
 ·refine sC (E:=λ(s : Bool) (g : Nat)=>[(0,.optr 8192 0 0 0),(2,OH i3),(3,.sl (params4.map OJ)),(5,.optr 5 g 0 0),(9,OH r5.1),(10,OH (f2.Slots.length : Int)),(11,OH r6.1),(23,.bool s)]) (O:=λ_ g=>[(5,dV g 3 27 (OQ f2)),(8192,dV 0 2 70 (.agg [.sl (r6.2.list.map eU8),OH r6.2.at_]))]) (j:=λs=>PJ r6 f2 r5 params4 i3 s) ?_ ?_
  ·exact B
  ·rintro x7 v5x1 nn
   try dsimp only
   unfold PJ
   refine cD r ?_ ?_
   ·refine A 4 ?_
    refine bD λr8 hr8=>?_
    refine A 3 ?_
    refine bS ([(Mk.mk 16 r8.1 r5.1 0 0)] : List Mk) OP r r r (by simp) r r r<|?_
    exact B
   ·refine sC (E:=λ(s : Bool) (g : Nat)=>[(0,.optr 8192 0 0 0),(2,OH i3),(3,.sl (params4.map OJ)),(5,.optr 5 g 0 0),(9,OH r5.1),(10,OH (f2.Slots.length : Int)),(11,OH r6.1),(36,.bool s)]) (O:=λ_ g=>[(5,dV g 3 27 (OQ f2)),(8192,dV 0 2 70 (.agg [.sl (r6.2.list.map eU8),OH r6.2.at_]))]) (j:=λs=>PK r6 f2 r5 params4 i3 s) ?_ ?_
    ·exact B
    ·rintro x9 v5x2 nn
     try dsimp only
     unfold PK
     refine cD r ?_ ?_
     ·refine A 5 ?_
      refine bD λr10 hr10=>?_
      refine A 2 ?_
      refine bS ([(Mk.mk 15 r5.1 r10.1 0 0)] : List Mk) OP r r r (by simp) r r r<|?_
      exact B
     ·refine sC (E:=λ(s : Bool) (g : Nat)=>[(0,.optr 8192 0 0 0),(2,OH i3),(3,.sl (params4.map OJ)),(5,.optr 5 g 0 0),(9,OH r5.1),(10,OH (f2.Slots.length : Int)),(11,OH r6.1),(49,.bool s)]) (O:=λ_ g=>[(5,dV g 3 27 (OQ f2)),(8192,dV 0 2 70 (.agg [.sl (r6.2.list.map eU8),OH r6.2.at_]))]) (j:=λs=>PL r6 f2 r5 params4 i3 s) ?_ ?_
      ·exact B
      ·rintro x11 v5x3 nn
       try dsimp only
       unfold PL
       refine cD r ?_ ?_
       ·refine A 4 ?_
        refine bD λr12 hr12=>?_
        refine A 9 ?_
        refine bD λr13 hr13=>?_
        refine A 3 ?_
        refine bS ([(Mk.mk 17 r13.1 r12.1 0 0)] : List Mk) OP r r r (by simp) r r r<|?_
        exact B
       ·refine A 7 ?_
        refine cD r ?_ ?_
        ·refine A 4 ?_
         refine bD λr14 hr14=>?_
         refine A 2 ?_
         refine bS ([(Mk.mk 0 r5.1 0 0 r14.1)] : List Mk) OP r r r (by simp) r r r<|?_
         exact B
        ·refine A 7 ?_
         refine cD r ?_ ?_
         ·refine A 3 ?_
          refine bD λr15 hr15=>?_
          refine A 4 ?_
          refine bD λr16 hr16=>?_
          refine A 2 ?_
          refine bD λr17 hr17=>?_
          refine A 2 ?_
          refine bS ([(Mk.mk (i64.wrap (2 + r15.1)) r5.1 r16.1 r17.1 0)] : List Mk) OP r r r (by simp) r r r<|?_
          exact B
         ·refine A 7 ?_
          refine cD r ?_ ?_
          ·refine A 4 ?_
           refine bS ([(Mk.mk 14 r5.1 0 0 0)] : List Mk) OP r r r (by simp) r r r<|?_
           exact B
          ·refine A 7 ?_
           refine cD r ?_ ?_
           ·refine A 2 ?_
            refine bS ([13,12,1] : List Int) OJ r r r (by simp) r r r<|?_
            refine A 1 ?_
            refine bD λr18 hr18=>?_
            refine A 2 ?_
            refine bD λx_e19 hx_e19=>?_
            refine A 3 ?_
            refine bS ([(Mk.mk x_e19 r5.1 0 0 0)] : List Mk) OP r r r (by simp) r r r<|?_
            exact B
           ·refine sC (E:=λ(s : Bool) (g : Nat)=>[(0,.optr 8192 0 0 0),(2,OH i3),(3,.sl (params4.map OJ)),(5,.optr 5 g 0 0),(9,OH r5.1),(11,OH r6.1),(104,.bool s)]) (O:=λ_ g=>[(5,dV g 3 27 (OQ f2)),(8192,dV 0 2 70 (.agg [.sl (r6.2.list.map eU8),OH r6.2.at_]))]) (j:=λs=>PM r6 f2 r5 params4 i3 s) ?_ ?_
            ·exact B
            ·rintro x20 v5x4 nn
             try dsimp only
             unfold PM
             refine cD r ?_ ?_
             ·refine A 6 ?_
              refine bD λr21 hr21=>?_
              refine A 2 ?_
              refine bS ([(Mk.mk 19 r5.1 r21.1 0 0)] : List Mk) OP r r r (by simp) r r r<|?_
              exact B
             ·refine sC (E:=λ(s : Bool) (_g : Unit)=>[(0,.optr 8192 0 0 0),(2,OH i3),(3,.sl (params4.map OJ)),(9,OH r5.1),(119,.bool s)]) (O:=λ_ _=>[(8192,dV 0 2 70 (.agg [.sl (r6.2.list.map eU8),OH r6.2.at_]))]) (j:=λs=>PN r6 params4 i3 r5 s) ?_ ?_
              ·exact B
              ·rintro x22 ⟨⟩ nn
               try dsimp only
               unfold PN
               refine cD r ?_ ?_
               ·refine A 10 ?_
                refine bD λr23 hr23=>?_
                refine A 17 ?_
                refine lP (E:=λ(s : (List Int) × Int × (List Mk) × Int) (g : Nat)=>[(0,.optr 8192 0 0 0),(3,.sl (params4.map OJ)),(13,OH (i64.wrap ((i64.wrap (i3 + 1)) + r23.1))),(14,.osl 14 g 0 s.2.2.1.length),(15,OH s.2.2.2)]) (O:=λs g=>[(14,dW g 5 43 (s.2.2.1.map OP)),(8192,dV 0 2 70 (.agg [.sl (s.1.map eU8),OH s.2.1]))]) (body:=λs=>QT params4 i3 r23 s.1 s.2.1 s.2.2.1 s.2.2.2) (s:=(r23.2.list,r23.2.at_,([] : List Mk),0)) _ ((hE ⟨rfl,r,r,r,r,trivial⟩ ⟨rfl,r,trivial⟩))<|?_
                rintro ⟨c24,c25,out26,a27⟩ v14x6 nn
                try dsimp only
                unfold QT
                refine A 6 ?_
                refine bD λx_x28 hx_x28=>?_
                refine A 5 ?_
                refine cD r ?_ ?_
                ·refine A 7 ?_
                 refine bD λr29 hr29=>?_
                 refine A 4 ?_
                 refine cD r ?_ ?_
                 ·refine A 4 ?_
                  refine bD λr30 hr30=>?_
                  refine A 2 ?_
                  refine bS ([(Mk.mk 18 a27 r30.1 0 0)] : List Mk) OP r r r (by simp) r r r<|?_
                  exact B
                 ·exact B
                ·refine A 10 ?_
                 refine bS ([(Mk.mk 22 (i64.wrap ((i64.wrap (i3 + 1)) + r23.1)) 0 0 0)] : List Mk) OP r r r (by simp) r r r<|?_
                 exact B
               ·exact B
 ·rintro ⟨⟩ ⟨⟩ nn
  try dsimp only
  unfold RE
  refine A 4 ?_
  refine bS ([(Mk.mk 14 r5.1 0 0 0)] : List Mk) OP r r r (by simp) r r r<|?_
  exact B

def Qd (a : Ed × Int × (List Int) × Int) : List D:=[OY a.1,OH a.2.1,.sl (a.2.2.1.map OJ),OH a.2.2.2]
def Qc (ds : List D) : Ed × Int × (List Int) × Int:=(QD (ds.getD 0 .top),uI (ds.getD 1 .top),(uL uI) (ds.getD 2 .top),uI (ds.getD 3 .top))
theorem TJ (a : Ed × Int × (List Int) × Int) : Qc (Qd a) = a:=by simp [Qc,Qd,uI,QY (u:=uI) (en:=OJ) (λ_=>rfl)]
instance : PZ Qd Qc:=⟨TJ⟩
def Sl (b : OI × Ed) : D:=OQ b.1
def TW (b : OI × Ed) : List D:=[OY b.2]
def Sm : Dw.Spec:=ON [(0,(2,70))] .val Qd Qc (λa=>Qj a.1 a.2.1 a.2.2.1 a.2.2.2) Sl TW
theorem TK : OM Try.prog 37 Sm:=by
 refine fn2 4 (Pe (l:=[(43,SR),(24,Po),(44,Ta),(45,RU)]) (by simp [Uy,Pp,UJ,SS])) Try.func37<|?_
 rintro ⟨c1,i2,params3,most4⟩
 unfold Qj
 refine A 9 ?_
 refine bD λx_x5 hx_x5=>?_
 refine A 3 ?_
 refine bD λr6 hr6=>?_
 refine A 18 ?_
 refine lP (E:=λ(s : (List Int) × Int × (List Mk) × Int) (g : Nat × Nat × Nat × Nat)=>[(0,.optr 8192 0 0 0),(1,OH i2),(2,.sl (params3.map OJ)),(3,OH most4),(8,.optr 8 g.1 0 0),(9,.optr 9 g.2.1 0 0),(10,.osl 10 g.2.2.1 0 s.2.2.1.length),(11,OH s.2.2.2)]) (O:=λs g=>[(8,dV g.1 3 27 (.agg [OH 0,.nils,.nils])),(9,dV g.2.1 3 27 (.agg [OH x_x5,.osl 21 g.2.2.2 0 r6.1.length,.nils])),(10,dW g.2.2.1 5 43 (s.2.2.1.map OP)),(21,dW g.2.2.2 2 89 (r6.1.map Pg)),(8192,dV 0 2 70 (.agg [.sl (s.1.map eU8),OH s.2.1]))]) (body:=λs=>Qo r6 most4 x_x5 i2 params3 s.1 s.2.1 s.2.2.1 s.2.2.2) (s:=(r6.2.list,r6.2.at_,([] : List Mk),0)) (_,_,_,_) ((hE ⟨rfl,r,r,r,r,r,r,r,trivial⟩ ⟨rfl,r,r,r,r,trivial⟩))<|?_
 rintro ⟨c7,c8,code9,s10⟩ ⟨v8x1,v9x1,v10x1,v21x1⟩ nn
 try dsimp only
 unfold Qo
 refine A 10 ?_
 refine cD r ?_ ?_
 ·refine A 7 ?_
  refine bD λr11 hr11=>?_
  refine A 4 ?_
  refine cD r ?_ ?_
  ·refine A 4 ?_
   refine bD λr12 hr12=>?_
   refine A 2 ?_
   refine bS ([(Mk.mk 16 s10 r12.1 0 0)] : List Mk) OP r r r (by simp) r r r<|?_
   exact B
  ·exact B
 ·refine A 11 ?_
  refine bD λr13 hr13=>?_
  refine A 5 ?_
  refine lP (E:=λ(s : (List Int) × Int × (List Mk) × (List Pd) × Int) (g : Nat × Nat × Nat)=>[(0,.optr 8192 0 0 0),(1,OH i2),(2,.sl (params3.map OJ)),(8,.optr 8 g.1 0 0),(9,.optr 9 g.2.1 0 0),(10,.osl 10 g.2.2 0 s.2.2.1.length),(12,OH s.2.2.2.2)]) (O:=λs g=>[(8,dV g.1 3 27 (.agg [OH 0,.nils,.nils])),(9,dV g.2.1 3 27 (.agg [OH x_x5,.sl (s.2.2.2.1.map Pg),.nils])),(10,dW g.2.2 5 43 (s.2.2.1.map OP)),(8192,dV 0 2 70 (.agg [.sl (s.1.map eU8),OH s.2.1]))]) (body:=λs=>Qq x_x5 i2 params3 s.1 s.2.1 s.2.2.1 s.2.2.2.1 s.2.2.2.2) (s:=(r13.2.list,r13.2.at_,code9,r6.1,r13.1)) (_,_,_) ((Vd [(21,some (_,⟨true,false,2,89,r6.1.map Pg⟩))] ⟨⟨_,_,r,r,r⟩,trivial⟩ ⟨(PF r),(PF r),(PF r),(PF r),(PF r),(PF r),(PF r),trivial⟩ ⟨(.inl r),(.inr ⟨_,_,_,_,r,r,r,r,TS r ⟨(SK r),(RW (l:=r6.1) (en:=Pg) r r r (by simp)),(SK r),trivial⟩⟩),(.inl r),(.inl r),trivial⟩))<|?_
  rintro ⟨c14,c15,code16,f17,n18⟩ ⟨v8x2,v9x2,v10x2⟩ nn
  try dsimp only
  unfold Qq
  refine A 7 ?_
  refine cD r ?_ ?_
  ·refine A 11 ?_
   refine bD λr19 hr19=>?_
   refine A 8 ?_
   refine bD λr20 hr20=>?_
   refine A 10 ?_
   refine cD r ?_ ?_
   ·refine A 3 ?_
    refine bD λr21 hr21=>?_
    refine A 2 ?_
    refine bS ([(Mk.mk 21 r21.1 (-1) 0 0)] : List Mk) OP r r r (by simp) r r r<|?_
    exact B
   ·refine A 6 ?_
    refine cD r ?_ ?_
    ·refine A 3 ?_
     refine bD λr22 hr22=>?_
     refine A 4 ?_
     refine cD r ?_ ?_
     ·refine A 3 ?_
      refine bS ([(Mk.mk 20 (-1) 0 0 0)] : List Mk) OP r r r (by simp) r r r<|?_
      exact B
     ·exact B
    ·exact B
  ·refine A 12 ?_
   refine sC (E:=λ(_s : (List Int) × Int × Int × Int) (g : Nat × Nat × Nat × Nat)=>[(0,.optr 8192 0 0 0),(8,.optr 8 g.1 0 0),(9,.optr 9 g.2.1 0 0),(10,.osl 10 g.2.2.1 0 code16.length),(13,.optr 13 g.2.2.2 0 0)]) (O:=λs g=>[(8,dV g.1 3 27 (.agg [OH 0,.nils,.nils])),(9,dV g.2.1 3 27 (.agg [OH x_x5,.sl (f17.map Pg),.nils])),(10,dW g.2.2.1 5 43 (code16.map OP)),(13,dV g.2.2.2 5 43 (.agg [OH s.2.2.1,OH 0,OH 0,OH 0,TT s.2.2.2])),(8192,dV 0 2 70 (.agg [.sl (s.1.map eU8),OH s.2.1]))]) (j:=λs=>Pr code16 x_x5 f17 s.1 s.2.1 s.2.2.1 s.2.2.2) ?_ ?_
   ·exact B
   ·rintro ⟨c23,c24,end25,end26⟩ ⟨v8x3,v9x3,v10x3,v13x3⟩ nn
    try dsimp only
    unfold Pr
    refine A 4 ?_
    refine bS ([(Mk.mk end25 0 0 0 end26)] : List Mk) OP r r r (by simp) r r r<|cK λhq=>aP (code16) (([(Mk.mk end25 0 0 0 end26)] : List Mk)) OP r r r r r r r (by simp) (PX _ _ r) r r (by simp) (PY _ _ r) (λ_=>r) r hq<|?_
    refine A 10 ?_
    refine lP (E:=λ(s : (List Int) × Int × (List Mk) × Int) (g : Nat × Nat × Nat)=>[(0,.optr 8192 0 0 0),(8,.optr 8 g.1 0 0),(9,.optr 9 g.2.1 0 0),(10,.osl 10 g.2.2 0 s.2.2.1.length),(14,OH s.2.2.2)]) (O:=λs g=>[(8,dV g.1 3 27 (.agg [OH 0,.nils,.nils])),(9,dV g.2.1 3 27 (.agg [OH x_x5,.sl (f17.map Pg),.nils])),(10,dW g.2.2 5 43 (s.2.2.1.map OP)),(8192,dV 0 2 70 (.agg [.sl (s.1.map eU8),OH s.2.1]))]) (body:=λs=>PC x_x5 f17 s.1 s.2.1 s.2.2.1 s.2.2.2) (s:=(c23,c24,code16 ++ ([(Mk.mk end25 0 0 0 end26)] : List Mk),0)) (_,_,_) ((hE ⟨rfl,r,r,r,r,trivial⟩ ⟨rfl,r,r,r,trivial⟩))<|?_
    rintro ⟨c29,c30,code31,k32⟩ ⟨v8x4,v9x4,v10x4⟩ nn
    try dsimp only
    unfold PC
    refine A 9 ?_
    refine cD r ?_ ?_
    ·refine A 8 ?_
     refine bD λr33 hr33=>?_
     refine A 6 ?_
     refine sC (E:=λ(s : Int) (g : Nat × Nat × Nat)=>[(0,.optr 8192 0 0 0),(8,.optr 8 g.1 0 0),(9,.optr 9 g.2.1 0 0),(10,.osl 10 g.2.2 0 code31.length),(14,OH k32),(15,OH s)]) (O:=λ_ g=>[(8,dV g.1 3 27 (.agg [OH 0,.nils,.nils])),(9,dV g.2.1 3 27 (.agg [OH x_x5,.sl (f17.map Pg),.nils])),(10,dW g.2.2 5 43 (code31.map OP)),(8192,dV 0 2 70 (.agg [.sl (r33.2.list.map eU8),OH r33.2.at_]))]) (j:=λs=>Pa k32 code31 r33 s) ?_ ?_
     ·exact B
     ·rintro to34 ⟨v8x5,v9x5,v10x5⟩ nn
      try dsimp only
      unfold Pa
      refine A 1 ?_
      refine sC (E:=λ(s : Bool) (g : Nat × Nat × Nat)=>[(0,.optr 8192 0 0 0),(8,.optr 8 g.1 0 0),(9,.optr 9 g.2.1 0 0),(10,.osl 10 g.2.2 0 code31.length),(14,OH k32),(15,OH to34),(107,.bool s)]) (O:=λ_ g=>[(8,dV g.1 3 27 (.agg [OH 0,.nils,.nils])),(9,dV g.2.1 3 27 (.agg [OH x_x5,.sl (f17.map Pg),.nils])),(10,dW g.2.2 5 43 (code31.map OP)),(8192,dV 0 2 70 (.agg [.sl (r33.2.list.map eU8),OH r33.2.at_]))]) (j:=λs=>PG k32 code31 r33 to34 s) ?_ ?_
      ·exact B
      ·rintro x35 ⟨v8x6,v9x6,v10x6⟩ nn
       try dsimp only
       unfold PG
       refine cD r ?_ ?_
       ·refine A 6 ?_
        refine bD λcode_o38 hcode_o38=>sE (l:=code31) (en:=OP) (q':=(Mk.mk code_o38.Op to34 code_o38.B code_o38.C code_o38.Imm)) r r r r r r r (by simp) hcode_o38 r r r r r<|?_
        exact B
       ·refine A 6 ?_
        refine bD λcode_e39 hcode_e39=>?_
        refine A 3 ?_
        refine UB r ?_ ?_
        ·refine A 4 ?_
         refine bD λcode_e40 hcode_e40=>?_
         refine A 6 ?_
         refine cD r ?_ ?_
         ·refine A 6 ?_
          refine bD λcode_o41 hcode_o41=>sE (l:=code31) (en:=OP) (q':=(Mk.mk code_o41.Op code_o41.A to34 code_o41.C code_o41.Imm)) r r r r r r r (by simp) hcode_o41 r r r r r<|?_
          exact B
         ·exact B
        ·exact B
    ·refine A 19 ?_
     refine WA (b:=((OI.mk x_x5 f17 code31),(Ed.mk c29 c30))) r ?_ r r ?_ (by first | rfl | (simp only [BS]; rfl) | (simp only [Lo]; rfl) | (simp only [BS,Lo]; rfl) | simp [Sl,OQ])
     all_goals first|(simp;done)|(simp;omega)|rfl|(simp [Pv,Pu];done)

def Qn (a : Ed × Int × Int) : List D:=[OY a.1,OH a.2.1,OH a.2.2]
def Qm (ds : List D) : Ed × Int × Int:=(QD (ds.getD 0 .top),uI (ds.getD 1 .top),uI (ds.getD 2 .top))
theorem TU (a : Ed × Int × Int) : Qm (Qn a) = a:=by simp [Qm,Qn,uI]
instance : PZ Qn Qm:=⟨TU⟩
def Um (b : QE × Ed) : D:=VD b.1
def Ul (b : QE × Ed) : List D:=[OY b.2]
def Sq : Dw.Spec:=ON [(0,(2,70))] .val Qn Qm (λa=>Qt a.1 a.2.1 a.2.2) Um Ul
theorem TV : OM Try.prog 23 Sq:=by
 refine fn2 3 (Pe (l:=[(24,Po),(37,Sm)]) (by simp [Pp,TK])) Try.func23<|?_
 rintro ⟨c1,funcs2,most3⟩
 unfold Qt
 refine A 16 ?_
 refine bD λr4 hr4=>?_
 refine A 5 ?_
 refine lP (E:=λ(s : (List Int) × Int × (List Int) × Int) (g : Nat × Nat)=>[(0,.optr 8192 0 0 0),(2,OH most3),(6,.optr 6 g.1 0 0),(7,.osl 7 g.2 0 s.2.2.1.length),(8,OH s.2.2.2)]) (O:=λs g=>[(6,dV g.1 1 48 (.agg [.nils])),(7,dW g.2 1 3 (s.2.2.1.map OJ)),(8192,dV 0 2 70 (.agg [.sl (s.1.map eU8),OH s.2.1]))]) (body:=λs=>Qx most3 s.1 s.2.1 s.2.2.1 s.2.2.2) (s:=(r4.2.list,r4.2.at_,([0] : List Int),r4.1)) (_,_) ((hE ⟨rfl,r,r,r,r,trivial⟩ ⟨rfl,r,r,trivial⟩))<|?_
 rintro ⟨c5,c6,params7,n8⟩ ⟨v6x1,v7x1⟩ nn
 try dsimp only
 unfold Qx
 refine A 7 ?_
 refine cD r ?_ ?_
 ·exact B
 ·refine A 17 ?_
  refine lP (E:=λ(s : (List Int) × Int × (List OI) × Int × (List Int)) (g : Nat × Nat)=>[(0,.optr 8192 0 0 0),(2,OH most3),(6,.optr 6 g.1 0 0),(7,.sl (s.2.2.2.2.map OJ)),(9,.optr 9 g.2 0 0),(10,OH s.2.2.2.1)]) (O:=λs g=>[(6,dV g.1 1 48 (.agg [.nils])),(9,dV g.2 1 48 (.agg [.sl (s.2.2.1.map OQ)])),(8192,dV 0 2 70 (.agg [.sl (s.1.map eU8),OH s.2.1]))]) (body:=λs=>Qy most3 s.1 s.2.1 s.2.2.1 s.2.2.2.1 s.2.2.2.2) (s:=(c5,c6,[],0,params7)) (_,_) ((Vd [(7,some (_,⟨true,false,1,3,params7.map OJ⟩))] ⟨⟨_,_,r,r,r⟩,trivial⟩ ⟨(PF r),(PF r),(PF r),(RX (RW (l:=params7) (en:=OJ) r r r (by simp))),(PF r),(PF r),trivial⟩ ⟨(.inl r),(.inr ⟨_,_,_,_,r,r,r,r,TS r ⟨(SA OQ r),trivial⟩⟩),(.inl r),trivial⟩))<|?_
  rintro ⟨c10,c11,p12,i13,params14⟩ ⟨v6x2,v9x2⟩ nn
  try dsimp only
  unfold Qy
  refine A 9 ?_
  refine cD r ?_ ?_
  ·refine A 13 ?_
   refine bD λr15 hr15=>?_
   refine A 1 ?_
   refine bS ([r15.1] : List OI) OQ r r r (by simp) r r r<|?_
   refine A 16 ?_
   exact wf [11] λ_=>B
  ·exact B

def QX (a : (List Int)) : List D:=[.sl (a.map eU8)]
def QW (ds : List D) : (List Int):=(uL uI) (ds.getD 0 .top)
theorem Vl (a : (List Int)) : QW (QX a) = a:=by simp [QW,QX,QY (u:=uI) (en:=eU8) (λ_=>rfl)]
instance : PZ QX QW:=⟨Vl⟩
def VF (b : OI) : D:=OQ b
def Tl : Dw.Spec:=ON [] .val QX QW (λa=>Rp a) VF noE
theorem Vm : OM Try.prog 9 Tl:=by
 refine fn2 1 (Pe (l:=[(22,VP),(23,Sq),(24,Po)]) (by simp [WW,TV,Pp])) Try.func9<|?_
 intro a
 unfold Rp
 exact B

def Ql (a : Int × Int) : List D:=[TT a.1,TT a.2]
def Qk (ds : List D) : Int × Int:=(uI (ds.getD 0 .top),uI (ds.getD 1 .top))
theorem UN (a : Int × Int) : Qk (Ql a) = a:=by simp [Qk,Ql,uI]
instance : PZ Ql Qk:=⟨UN⟩
def Vp (b : Int × Int) : D:=.tup [TT b.1,TT b.2]
def Tc : Dw.Spec:=ON [] .ground Ql Qk (λa=>Ra a.1 a.2) Vp noE
theorem UO : OM Try.prog 49 Tc:=by
 refine fn2 2 (Qp) Try.func49<|?_
 intro a
 unfold Ra
 exact B

def VR (b : Int × Int) : D:=.tup [TT b.1,TT b.2]
def TD : Dw.Spec:=ON [] .ground Ql Qk (λa=>Sd a.1 a.2) VR noE
theorem VG : OM Try.prog 42 TD:=by
 refine fn2 2 (Pe (l:=[(49,Tc)]) (by simp [UO])) Try.func42<|?_
 intro a
 unfold Sd
 exact B

def PT (a : (List Int) × Int) : List D:=[.sl (a.1.map OJ),OH a.2]
def PR (ds : List D) : (List Int) × Int:=((uL uI) (ds.getD 0 .top),uI (ds.getD 1 .top))
theorem Tw (a : (List Int) × Int) : PR (PT a) = a:=by simp [PR,PT,uI,QY (u:=uI) (en:=OJ) (λ_=>rfl)]
instance : PZ PT PR:=⟨Tw⟩
def TA (b : (List Int)) : D:=.sl (b.map OJ)
def RT : Dw.Spec:=ON [] (.row 1 3) PT PR (λa=>PQ a.1 a.2) TA noE
theorem Tx : OM Try.prog 33 RT:=by
 refine fn2 2 (Pe (l:=[(42,TD)]) (by simp [VG])) Try.func33<|?_
 rintro ⟨x1,count2⟩
 unfold PQ
 refine A 5 ?_
 refine sC (E:=λ(_s : Unit) (_g : Unit)=>[(0,.sl (x1.map OJ)),(1,OH count2)]) (O:=λ_ _=>[]) (j:=λ_=>PV x1 count2) ?_ ?_
 ·refine A 6 ?_
  refine cD r ?_ ?_
  ·refine A 1 ?_
   exact Vo
  ·exact B
 ·rintro ⟨⟩ ⟨⟩ nn
  try dsimp only
  unfold PV
  refine A 7 ?_
  refine bD λr3 hr3=>?_
  refine A 8 ?_
  refine sC (E:=λ(_s : Unit) (_g : Unit)=>[(0,.sl (x1.map OJ)),(6,TT r3.2)]) (O:=λ_ _=>[]) (j:=λ_=>PW r3 x1) ?_ ?_
  ·refine A 5 ?_
   refine UB r ?_ ?_
   ·refine A 7 ?_
    exact Vo
   ·refine A 5 ?_
    refine cD r ?_ ?_
    ·refine A 1 ?_
     exact Vo
    ·exact B
  ·rintro ⟨⟩ ⟨⟩ nn
   try dsimp only
   unfold PW
   refine A 4 ?_
   refine cK λhq=>mS (q:=(0 : Int)) OJ r r r r hq r<|?_
   refine A 7 ?_
   refine WD (q:=(List.replicate (i64.wrap (r3.2)).toNat (0 : Int)).length) (List.replicate (i64.wrap (r3.2)).toNat (0 : Int)) (x1) OJ r r r r r r (by first | (simp; done) | (simp; omega)) (by first | rfl | (simp [List.map_take,List.map_drop]; done)) r (λ_=>r) (λ_=>r) (by first | (simp; done) | (simp; omega) | omega)<|?_
   refine A 5 ?_
   refine lP (E:=λ(s : (List Int) × Int) (g : Nat)=>[(7,.osl 7 g 0 s.1.length),(8,OH s.2)]) (O:=λs g=>[(7,dW g 1 3 (s.1.map OJ))]) (body:=λs=>PU s.1 s.2) (s:=(QQ (List.replicate (i64.wrap (r3.2)).toNat (0 : Int)) 0 ((List.replicate (i64.wrap (r3.2)).toNat (0 : Int)).length) x1,(Nat.min ((List.replicate (i64.wrap (r3.2)).toNat (0 : Int)).length) x1.length : Int))) _ ((hE ⟨(Wz (q:=(List.replicate (i64.wrap (r3.2)).toNat (0 : Int)).length) r (by simp)),r,trivial⟩ ⟨rfl,trivial⟩))<|?_
   rintro ⟨newslice4,n5⟩ v7x3 nn
   try dsimp only
   unfold PU
   refine A 9 ?_
   refine cD r ?_ ?_
   ·refine A 7 ?_
    refine cK λhq=>Sy (l:=newslice4) r r r r r r hq<|?_
    refine A 2 ?_
    refine cK λhq=>RF (l:=newslice4) r r r r r r hq<|WD (q:=newslice4.length - n5.toNat) (newslice4) (newslice4.take n5.toNat) OJ r r r r r r (by first | (simp; done) | (simp; omega)) (by first | rfl | (simp [List.map_take,List.map_drop]; done)) r (λ_=>r) (λ_=>r) (by first | (simp; done) | (simp; omega) | omega)<|?_
    exact B
   ·exact B

def VI (b : (List Int)) : D:=.sl (b.map OJ)
def To : Dw.Spec:=ON [] (.row 1 3) Pj Ph (λa=>Rr a) VI noE
theorem Vt : OM Try.prog 13 To:=by
 refine fn2 1 (Pe (l:=[(33,RT),(11,RY)]) (by simp [Tx,SX])) Try.func13<|?_
 intro f1
 unfold Rr
 refine A 12 ?_
 refine bD λr2 hr2=>?_
 refine A 8 ?_
 refine bD λr3 hr3=>?_
 refine A 6 ?_
 refine lP (E:=λ(s : (List Int) × Int) (g : Nat)=>[(3,.osl 3 g 0 s.1.length),(12,.sl (r3.map OJ)),(13,OH (r3.length : Int)),(14,OH s.2)]) (O:=λs g=>[(3,dW g 1 3 (s.1.map OJ))]) (body:=λs=>Rl r3 s.1 s.2) (s:=(r2,0)) _ ((hE ⟨rfl,r,r,r,trivial⟩ ⟨rfl,trivial⟩))<|?_
 rintro ⟨rank4,x5⟩ v3x1 nn
 try dsimp only
 unfold Rl
 exact B

def VH (b : (List OK)) : D:=.sl (b.map Qa)
def Tn : Dw.Spec:=ON [] (.row 2 35) Pj Ph (λa=>Rq a) VH noE
theorem Vq : OM Try.prog 15 Tn:=by
 refine fn2 1 (Pe (l:=[(13,To),(27,SN)]) (by simp [Vt,UM])) Try.func15<|?_
 intro f1
 unfold Rq
 refine A 14 ?_
 refine bD λr2 hr2=>?_
 refine A 14 ?_
 refine lP (E:=λ(s : (List OK) × Int) (g : Nat × Nat × Nat)=>[(1,.optr 1 g.1 0 0),(3,.osl 3 g.2.1 0 s.1.length),(4,.osl 4 g.2.2 0 r2.length),(12,OH (f1.Code.length : Int)),(13,OH s.2)]) (O:=λs g=>[(1,dV g.1 3 27 (OQ f1)),(3,dW g.2.1 2 35 (s.1.map Qa)),(4,dW g.2.2 1 3 (r2.map OJ))]) (body:=λs=>Rj f1 r2 s.1 s.2) (s:=(([] : List OK),0)) (_,_,_) ((hE ⟨rfl,r,r,r,r,trivial⟩ ⟨rfl,r,r,trivial⟩))<|?_
 rintro ⟨l3,x4⟩ ⟨v1x1,v3x1,v4x1⟩ nn
 try dsimp only
 unfold Rj
 refine A 6 ?_
 refine cD r ?_ ?_
 ·refine A 14 ?_
  refine bD λr5 hr5=>?_
  refine A 6 ?_
  refine lP (E:=λ(s : (List OK) × Int) (g : Nat × Nat × Nat × Nat)=>[(1,.optr 1 g.1 0 0),(3,.osl 3 g.2.1 0 s.1.length),(4,.osl 4 g.2.2.1 0 r2.length),(5,OH x4),(12,OH (f1.Code.length : Int)),(13,OH x4),(18,.osl 18 g.2.2.2 0 r5.length),(19,OH (r5.length : Int)),(20,OH s.2)]) (O:=λs g=>[(1,dV g.1 3 27 (OQ f1)),(3,dW g.2.1 2 35 (s.1.map Qa)),(4,dW g.2.2.1 1 3 (r2.map OJ)),(18,dW g.2.2.2 1 3 (r5.map OJ))]) (body:=λs=>QC r5 x4 r2 s.1 s.2) (s:=(l3,0)) (_,_,_,_) ((hE ⟨rfl,r,r,r,r,r,r,r,r,trivial⟩ ⟨rfl,r,r,r,trivial⟩))<|?_
  rintro ⟨l6,x7⟩ ⟨v1x2,v3x2,v4x2,v18x2⟩ nn
  try dsimp only
  unfold QC
  refine A 6 ?_
  refine cD r ?_ ?_
  ·refine A 7 ?_
   refine bD λx_e8 hx_e8=>?_
   refine A 4 ?_
   refine sC (E:=λ(s : Bool) (g : Nat × Nat × Nat × Nat)=>[(1,.optr 1 g.1 0 0),(3,.osl 3 g.2.1 0 l6.length),(4,.osl 4 g.2.2.1 0 r2.length),(5,OH x4),(7,OH x_e8),(12,OH (f1.Code.length : Int)),(13,OH x4),(18,.osl 18 g.2.2.2 0 r5.length),(19,OH (r5.length : Int)),(20,OH x7),(39,.bool s)]) (O:=λ_ g=>[(1,dV g.1 3 27 (OQ f1)),(3,dW g.2.1 2 35 (l6.map Qa)),(4,dW g.2.2.1 1 3 (r2.map OJ)),(18,dW g.2.2.2 1 3 (r5.map OJ))]) (j:=λs=>Ps l6 x4 x_e8 x7 s) ?_ ?_
   ·exact B
   ·rintro x9 ⟨v1x3,v3x3,v4x3,v18x3⟩ nn
    try dsimp only
    unfold Ps
    refine cD r ?_ ?_
    ·refine A 5 ?_
     refine bS ([(OK.mk x4 x_e8)] : List OK) Qa r r r (by simp) r r r<|?_
     exact B
    ·exact B
  ·exact B
 ·exact B

def WI (b : (List Int)) : D:=.sl (b.map OJ)
def Tp : Dw.Spec:=ON [] (.row 1 3) Ry Rx (λa=>Rv a.1 a.2) WI noE
theorem Uv : OM Try.prog 18 Tp:=by
 refine fn2 2 (Qp) Try.func18<|?_
 rintro ⟨f1,k2⟩
 unfold Rv
 refine A 6 ?_
 refine sC (E:=λ(_s : Unit) (g : Nat)=>[(1,OH k2),(2,.optr 2 g 0 0)]) (O:=λ_ g=>[(2,dV g 3 27 (OQ f1))]) (j:=λ_=>Se f1 k2) ?_ ?_
 ·exact B
 ·rintro ⟨⟩ v2x1 nn
  try dsimp only
  unfold Se
  refine A 5 ?_
  refine bD λx_x3 hx_x3=>?_
  refine A 20 ?_
  refine cD r ?_ ?_
  ·exact B
  ·refine sC (E:=λ(s : Bool) (g : Nat)=>[(1,OH k2),(5,.optr 5 g 0 0),(21,OH x_x3.Op),(27,.bool s)]) (O:=λ_ g=>[(5,dV g 5 43 (OP x_x3))]) (j:=λs=>Py x_x3 k2 s) ?_ ?_
   ·exact B
   ·rintro x4 v5x2 nn
    try dsimp only
    unfold Py
    refine cD r ?_ ?_
    ·exact B
    ·refine A 6 ?_
     refine cD r ?_ ?_
     ·refine A 11 ?_
      refine cD r ?_ ?_
      ·refine A 6 ?_
       refine bS ([x_x3.B,i64.wrap (k2 + 1)] : List Int) OJ r r r (by simp) r r r<|?_
       exact B
      ·refine A 10 ?_
       refine cD r ?_ ?_
       ·refine A 6 ?_
        refine bS ([i64.wrap (k2 + 1),x_x3.B] : List Int) OJ r r r (by simp) r r r<|?_
        exact B
       ·exact B
     ·exact B

def PI (a : OL × Int) : List D:=[.agg [OH a.1.f.Params,.sl (a.1.f.Slots.map Pg),.sl (a.1.f.Code.map OP),.row 1 4 (a.1.seen.map D.bool),.row 1 3 (a.1.left.map OJ)],OH a.2]
def PH (ds : List D) : OL × Int:=((⟨⟨uI (cel (ds.getD 0 .top) 0),(uL Th) (cel (ds.getD 0 .top) 1),(uL SL) (cel (ds.getD 0 .top) 2)⟩,(uR uBo) (cel (ds.getD 0 .top) 3),(uR uI) (cel (ds.getD 0 .top) 4)⟩ : OL),uI (ds.getD 1 .top))
theorem So (a : OL × Int) : PH (PI a) = a:=by simp [PH,PI,uI,cel,QY (u:=Th) (en:=Pg) UW,WQ (u:=Th) (en:=Pg) UW,QY (u:=SL) (en:=OP) Us,WQ (u:=SL) (en:=OP) Us,QY (u:=uBo) (en:=D.bool) (λ_=>rfl),WQ (u:=uBo) (en:=D.bool) (λ_=>rfl),QY (u:=uI) (en:=OJ) (λ_=>rfl),WQ (u:=uI) (en:=OJ) (λ_=>rfl)]
instance : PZ PI PH:=⟨So⟩
def SI (_b : OL) : D:=.tup []
def SH (b : OL) : List D:=[.agg [OH b.f.Params,.sl (b.f.Slots.map Pg),.sl (b.f.Code.map OP),.row 1 4 (b.seen.map D.bool),.row 1 3 (b.left.map OJ)]]
def SJ : Dw.Spec:=ON [(0,(5,63))] .val PI PH (λa=>RM a.1 a.2) SI SH
def PO (rec0 : OL -> Int -> Option (OL)) : Dw.Spec:=ON [(0,(5,63))] .val PI PH (λa=>rec0 a.1 a.2) SI SH
theorem TO (rec0 : OL -> Int -> Option (OL)) (hrec : OM Try.prog 32 (PO rec0)) : OM Try.prog 32 (PO (Pb rec0)):=by
 refine fn2 2 (Pe (l:=[(18,Tp),(32,PO rec0)]) (by simp [Uv,hrec])) Try.func32<|?_
 rintro ⟨s1,k2⟩
 unfold Pb
 refine A 1 ?_
 refine RG (E:=[(0,.optr 8192 0 0 0),(1,OH k2)]) (O:=[(4697,dW _ 1 4 (s1.seen.map D.bool)),(8192,dV 0 5 63 (.agg [OH s1.f.Params,.sl (s1.f.Slots.map Pg),.sl (s1.f.Code.map OP),.osl 4697 _ 0 s1.seen.length,.row 1 3 (s1.left.map OJ)]))]) ((TF (g:=8192) (off:=3) 601 (s1.seen) D.bool r r r (hE ⟨rfl,r,trivial⟩ ⟨rfl,r,trivial⟩))) λnn=>?_
 refine A 6 ?_
 refine bD λx_o3 hx_o3=>VS (l:=s1.seen) (en:=D.bool) (q:=x_o3) (q':=true) r r r r r hx_o3 r (λ_=>r) r r r ⟨trivial,trivial,r⟩<|?_
 refine A 1 ?_
 refine RO (E:=[(0,.optr 8192 0 0 0),(1,OH k2)]) (O:=[(8192,dV 0 5 63 (.agg [OH s1.f.Params,.sl (s1.f.Slots.map Pg),.sl (s1.f.Code.map OP),.row 1 4 ((s1.seen.set k2.toNat true).map D.bool),.row 1 3 (s1.left.map OJ)]))]) ((QZ (g:=8192) (i:=0) (off:=3) (g':=4697) (l:=s1.seen.set k2.toNat true) (en:=D.bool) r r r (.inr ⟨rfl,r⟩) r (by simp) (λ_=>r) r (hE ⟨rfl,r,trivial⟩ ⟨rfl,trivial⟩))) λnn=>?_
 refine A 7 ?_
 refine bD λr4 hr4=>?_
 refine A 11 ?_
 refine lP (E:=λ(s : Int × (List Pd) × (List Mk) × (List Bool) × (List Int) × Int) (g : Nat)=>[(0,.optr 8192 0 0 0),(1,OH k2),(4,.osl 4 g 0 r4.length),(5,OH s.2.2.2.2.2)]) (O:=λs g=>[(4,dW g 1 3 (r4.map OJ)),(8192,dV 0 5 63 (.agg [OH s.1,.sl (s.2.1.map Pg),.sl (s.2.2.1.map OP),.row 1 4 (s.2.2.2.1.map D.bool),.row 1 3 (s.2.2.2.2.1.map OJ)]))]) (body:=λs=>Pt r4 rec0 k2 s.1 s.2.1 s.2.2.1 s.2.2.2.1 s.2.2.2.2.1 s.2.2.2.2.2) (s:=(s1.f.Params,s1.f.Slots,s1.f.Code,s1.seen.set k2.toNat true,s1.left,0)) _ ((hE ⟨rfl,r,r,r,trivial⟩ ⟨rfl,r,trivial⟩))<|?_
 rintro ⟨s5,s6,s7,s8,s9,i10⟩ v4x1 nn
 try dsimp only
 unfold Pt
 refine A 9 ?_
 refine cD r ?_ ?_
 ·refine A 5 ?_
  refine RG (E:=[(0,.optr 8192 0 0 0),(1,OH k2),(4,.osl 4 _ 0 r4.length),(5,OH i10)]) (O:=[(4,dW _ 1 3 (r4.map OJ)),(4698,dW _ 1 4 (s8.map D.bool)),(8192,dV 0 5 63 (.agg [OH s5,.sl (s6.map Pg),.sl (s7.map OP),.osl 4698 _ 0 s8.length,.row 1 3 (s9.map OJ)]))]) ((TF (g:=8192) (off:=3) 602 (s8) D.bool r r r (hE ⟨rfl,r,r,r,trivial⟩ ⟨rfl,r,r,trivial⟩))) λnn=>?_
  refine A 7 ?_
  refine bD λl_e11 hl_e11=>?_
  refine A 2 ?_
  refine bD λx_e12 hx_e12=>?_
  refine A 3 ?_
  refine RO (E:=[(0,.optr 8192 0 0 0),(1,OH k2),(4,.osl 4 _ 0 r4.length),(5,OH i10),(34,.bool (!x_e12))]) (O:=[(4,dW _ 1 3 (r4.map OJ)),(8192,dV 0 5 63 (.agg [OH s5,.sl (s6.map Pg),.sl (s7.map OP),.row 1 4 (s8.map D.bool),.row 1 3 (s9.map OJ)]))]) ((QZ (g:=8192) (i:=0) (off:=3) (g':=4698) (l:=s8) (en:=D.bool) r r r (.inr ⟨rfl,r⟩) r r (λ_=>r) r (hE ⟨rfl,r,r,r,r,trivial⟩ ⟨rfl,r,trivial⟩))) λnn=>?_
  exact B
 ·refine A 6 ?_
  refine RG (E:=[(0,.optr 8192 0 0 0),(1,OH k2)]) (O:=[(4699,dW _ 1 3 (s9.map OJ)),(8192,dV 0 5 63 (.agg [OH s5,.sl (s6.map Pg),.sl (s7.map OP),.row 1 4 (s8.map D.bool),.osl 4699 _ 0 s9.length]))]) ((TF (g:=8192) (off:=4) 603 (s9) OJ r r r (hE ⟨rfl,r,trivial⟩ ⟨rfl,r,trivial⟩))) λnn=>?_
  refine A 6 ?_
  refine cK λhq=>WV (s9) (([k2] : List Int)) OJ r r r r r r r (by simp) (PX _ _ r) r r (by simp) (PY _ _ r) (λ_=>r) r hq (λ_=>r)<|?_
  refine A 8 ?_
  refine Vx (l:=s9 ++ ([k2] : List Int)) (en:=OJ) (z':=.agg [OH s5,.sl (s6.map Pg),.sl (s7.map OP),.row 1 4 (s8.map D.bool),.row 1 3 ((s9 ++ ([k2] : List Int)).map OJ)]) r r r r r r (λ_=>r) r r<|?_
  exact B
theorem TM : OM Try.prog 32 (PO (Pm 0)):=fn2 2 Qp Try.func32 λ_ _ h=>by cases h
theorem Sc : ∀ k,OM Try.prog 32 (PO (Pm k))
 | 0=>TM
 | k + 1=>TO _ (Sc k)
theorem Uh : OM Try.prog 32 SJ:=Xn So Sc

def Wu (b : (List Int)) : D:=.sl (b.map OJ)
def Uw : Dw.Spec:=ON [] (.row 1 3) Pj Ph (λa=>Sb a) Wu noE
theorem VY : OM Try.prog 12 Uw:=by
 refine fn2 1 (Pe (l:=[(32,SJ)]) (by simp [Uh])) Try.func12<|?_
 intro f1
 unfold Sb
 refine A 15 ?_
 refine cD r ?_ ?_
 ·exact B
 ·refine A 15 ?_
  refine RG (E:=[(3,.optr 4112 _ 0 0)]) (O:=[(4112,dV _ 5 63 (.agg [OH f1.Params,.sl (f1.Slots.map Pg),.sl (f1.Code.map OP),.row 1 4 ((List.replicate (f1.Code.length : Int).toNat false).map D.bool),.row 1 3 (([] : List Int).map OJ)]))]) ((WL (g:=16) (g2:=4112) (es':=[.agg [OH f1.Params,.sl (f1.Slots.map Pg),.sl (f1.Code.map OP),.osl 14 _ 0 ((List.replicate (f1.Code.length : Int).toNat false).length),.row 1 3 (([] : List Int).map OJ)]]) r r r (Xv (by repeat' first | exact SQ.nil | apply SQ.same rfl | apply SQ.row (by decide))) (QZ (g:=4112) (i:=0) (off:=3) (g':=14) (l:=List.replicate (f1.Code.length : Int).toNat false) (en:=D.bool) r r r (.inr ⟨rfl,r⟩) r r (λ_=>r) r (hE ⟨rfl,trivial⟩ ⟨rfl,trivial⟩)))) λnn=>?_
  refine A 1 ?_
  refine bD λr2 hr2=>?_
  refine A 10 ?_
  refine RG (E:=[(3,.optr 4112 _ 0 0),(4,.osl 4 _ 0 (([] : List Int).length))]) (O:=[(4,dW _ 1 3 (([] : List Int).map OJ)),(4112,dV _ 5 63 (.agg [OH r2.f.Params,.sl (r2.f.Slots.map Pg),.sl (r2.f.Code.map OP),.row 1 4 (r2.seen.map D.bool),.osl 4697 _ 0 r2.left.length])),(4697,dW _ 1 3 (r2.left.map OJ))]) ((TF (g:=4112) (off:=4) 601 (r2.left) OJ r r r (hE ⟨rfl,r,trivial⟩ ⟨rfl,r,r,trivial⟩))) λnn=>?_
  refine A 8 ?_
  refine RO (E:=[(3,.optr 4112 _ 0 0),(4,.osl 4 _ 0 (([] : List Int).length)),(5,OH (i64.wrap ((r2.left.length : Int) - 1)))]) (O:=[(4,dW _ 1 3 (([] : List Int).map OJ)),(4112,dV _ 5 63 (.agg [OH r2.f.Params,.sl (r2.f.Slots.map Pg),.sl (r2.f.Code.map OP),.row 1 4 (r2.seen.map D.bool),.row 1 3 (r2.left.map OJ)]))]) ((QZ (g:=4112) (i:=0) (off:=4) (g':=4697) (l:=r2.left) (en:=OJ) r r r (.inr ⟨rfl,r⟩) r r (λ_=>r) r (hE ⟨rfl,r,r,trivial⟩ ⟨rfl,r,trivial⟩))) λnn=>?_
  refine A 1 ?_
  refine lP (E:=λ(s : (List Int) × Int) (g : Nat × Nat)=>[(3,.optr 4112 g.2 0 0),(4,.osl 4 g.1 0 s.1.length),(5,OH s.2)]) (O:=λs g=>[(4,dW g.1 1 3 (s.1.map OJ)),(4112,dV g.2 5 63 (.agg [OH r2.f.Params,.sl (r2.f.Slots.map Pg),.sl (r2.f.Code.map OP),.row 1 4 (r2.seen.map D.bool),.row 1 3 (r2.left.map OJ)]))]) (body:=λs=>RR r2 s.1 s.2) (s:=(([] : List Int),i64.wrap ((r2.left.length : Int) - 1))) (_,_) ((hE ⟨rfl,r,r,trivial⟩ ⟨rfl,r,trivial⟩))<|?_
  rintro ⟨out3,i4⟩ ⟨v4x1,v4112x1⟩ nn
  try dsimp only
  unfold RR
  refine A 7 ?_
  refine cD r ?_ ?_
  ·refine A 4 ?_
   refine RG (E:=[(3,.optr 4112 _ 0 0),(4,.osl 4 _ 0 out3.length),(5,OH i4)]) (O:=[(4,dW _ 1 3 (out3.map OJ)),(4112,dV _ 5 63 (.agg [OH r2.f.Params,.sl (r2.f.Slots.map Pg),.sl (r2.f.Code.map OP),.row 1 4 (r2.seen.map D.bool),.osl 4698 _ 0 r2.left.length])),(4698,dW _ 1 3 (r2.left.map OJ))]) ((TF (g:=4112) (off:=4) 602 (r2.left) OJ r r r (hE ⟨rfl,r,r,trivial⟩ ⟨rfl,r,r,trivial⟩))) λnn=>?_
   refine A 7 ?_
   refine bD λx_e5 hx_e5=>?_
   refine A 6 ?_
   refine RO (E:=[(3,.optr 4112 _ 0 0),(4,.osl 4 _ 0 ((out3 ++ ([x_e5] : List Int)).length)),(5,OH i4)]) (O:=[(4,dW _ 1 3 ((out3 ++ ([x_e5] : List Int)).map OJ)),(4112,dV _ 5 63 (.agg [OH r2.f.Params,.sl (r2.f.Slots.map Pg),.sl (r2.f.Code.map OP),.row 1 4 (r2.seen.map D.bool),.row 1 3 (r2.left.map OJ)]))]) ((QZ (g:=4112) (i:=0) (off:=4) (g':=4698) (l:=r2.left) (en:=OJ) r r r (.inr ⟨rfl,r⟩) r r (λ_=>r) r (hE ⟨rfl,r,r,trivial⟩ ⟨rfl,r,trivial⟩))) λnn=>?_
   exact B
  ·exact B

def WK (b : (List Int)) : D:=.sl (b.map OJ)
def UT : Dw.Spec:=ON [] (.row 1 3) Pj Ph (λa=>SG a) WK noE
theorem Wv : OM Try.prog 14 UT:=by
 refine fn2 1 (Pe (l:=[(12,Uw)]) (by simp [VY])) Try.func14<|?_
 intro f1
 unfold SG
 refine A 22 ?_
 refine lP (E:=λ(s : (List Int) × Int) (g : Nat × Nat)=>[(1,.optr 1 g.1 0 0),(3,.osl 3 g.2 0 s.1.length),(4,OH s.2)]) (O:=λs g=>[(1,dV g.1 3 27 (OQ f1)),(3,dW g.2 1 3 (s.1.map OJ))]) (body:=λs=>Sh f1 s.1 s.2) (s:=(List.replicate (f1.Code.length : Int).toNat (0 : Int),0)) (_,_) ((hE ⟨rfl,r,r,trivial⟩ ⟨rfl,r,trivial⟩))<|?_
 rintro ⟨out2,i3⟩ ⟨v1x1,v3x1⟩ nn
 try dsimp only
 unfold Sh
 refine A 9 ?_
 refine cD r ?_ ?_
 ·exact B
 ·refine A 8 ?_
  refine bD λr5 hr5=>?_
  refine A 11 ?_
  refine lP (E:=λ(s : (List Int) × Int) (g : Nat × Nat)=>[(3,.osl 3 g.1 0 s.1.length),(5,.osl 5 g.2 0 r5.length),(6,OH s.2)]) (O:=λs g=>[(3,dW g.1 1 3 (s.1.map OJ)),(5,dW g.2 1 3 (r5.map OJ))]) (body:=λs=>Sj r5 s.1 s.2) (s:=(out2,0)) (_,_) ((hE ⟨rfl,r,r,trivial⟩ ⟨rfl,r,trivial⟩))<|?_
  rintro ⟨out6,i7⟩ ⟨v3x2,v5x2⟩ nn
  try dsimp only
  unfold Sj
  exact B

end
end Go.Proofs.Ytgebpjgohchohaa
