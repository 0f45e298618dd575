/-
  Programs on typed data, and the proofs that the code does what they say; written by a program (dx.py).
-/
import Derived.Test.YtilmapojncgflaaGreatDoorProg
import Derived.Test.YtilmapojncgflaaGreatDoorDd
import Derived.KernelRfl
import Derived.Test.YtilmapojncgflaaGreatDoorSh
import Derived.Test.YtilmapojncgflaaGreatDoorCl
import Derived.Test.YtilmapojncgflaaGreatDoorDxP
import Derived.Test.YtilmapojncgflaaGreatDoorDxF1
import Derived.Test.YtilmapojncgflaaGreatDoorDxF2
import Derived.Test.YtilmapojncgflaaGreatDoorDxF4
open Nat renaming ble->aA,blt->aAA
namespace Go.Proofs.YtilmapojncgflaaGreatDoor
open Go Go.Dw Go.Proofs
open Go.IntKind (i64 u64)
set_option maxRecDepth 100000
set_option maxHeartbeats 40000000
open Go.Dw renaming Rv -> bD,AfI -> bS,YH -> cG,Ws -> sE,AdA -> cD,Afa -> xC,Abp -> xL,YX -> hE,Afb -> lP,AcG -> sC,Ahp -> bC,Ahn -> mF,rf -> r
noncomputable section
def Ql (a:(List Pa)):List D:=[.sl (a.map Pt),.clo 156 []]
def Qk (ds:List D):(List Pa):=(uL UJ) (ds.getD 0 .top)
instance:PD Ql Qk:=⟨λa=>by simp[Qk,Ql,Qo (u:=UJ) (en:=Pt) AbI]⟩
def QX:Dw.Spec:=Pd [] .ground Ql Qk (λa=>Rg a) Pf noE
theorem Wb:Pb Tryz.prog 192 QX:=by
 refine fn2 2 (Pg (l:=[(156,Aft)]) (by simp[AjS])) Tryz.func192<|?_
 intro a;unfold Rg;refine A 14 ?_;refine lP (E:=λ(s:Int) (_g:Unit)=>[(0,.sl (a.map Pt)),(1,.clo 156 []),(7,Av (a.length:Int)),(8,Av s)]) (O:=λ_ _=>[]) (body:=λs=>Qm a s) (s:=0) () ((hX))<|?_
 rintro b ⟨⟩ nn
 try dsimp only
 unfold Qm;refine A 6 ?_;refine cD r ?_ ?_
 ·refine A 15 ?_;refine bD λc d=>?_
  refine A 2 ?_;refine bD λe f=>?_
  refine A 3 ?_;refine cD r ?_ ?_
  ·exact B
  ·refine A 7 ?_;exact xL (s:=i64.wrap (b+1)) () ((hX))
 ·exact B

def QE:Dw.Spec:=Pd [] .ground Ql Qk (λa=>QU a) Pm noE
theorem Vh:Pb Tryz.prog 155 QE:=by
 refine fn2 2 (Pg (l:=[(643264,QX)]) (by simp[Wb])) Tryz.func155<|?_
 intro a;unfold QU;refine A 9 ?_;refine bD λc b=>cG a rfl rfl (show _=some QX from by kernel_rfl) PD.ok rfl rfl (by simp) r b r<|?_
 exact B

def Vb (a:(List Pa)):List D:=[.sl (a.map Pt)]
def Va (ds:List D):(List Pa):=(uL UJ) (ds.getD 0 .top)
instance:PD Vb Va:=⟨λa=>by simp[Va,Vb,Qo (u:=UJ) (en:=Pt) AbI]⟩
def Adj:Dw.Spec:=Pd [] .ground Vb Va (λa=>WZ a) Pf noE
theorem AfS:Pb Tryz.prog 120 Adj:=by
 refine fn2 1 (Pg (l:=[(643227,QE)]) (by simp[Vh])) Tryz.func120<|?_
 intro a;unfold WZ;refine A 13 ?_;refine cD r ?_ ?_
 ·exact B
 ·refine A 6 ?_;refine bD λc b=>cG a rfl rfl (show _=some QE from by kernel_rfl) PD.ok rfl rfl (by simp) r b r<|?_
  exact B

def YF:Dw.Spec:=Pd [] .ground QG QF (λa=>Rs a.1 a.2) Pm noE
theorem Aez:Pb Tryz.prog 160 YF:=by
 refine fn2 2 (Pg (l:=[(116,Wq)]) (by simp[ZM])) Tryz.func160<|?_
 intro a;unfold Rs;exact B

def AbR:Dw.Spec:=Pd [] .ground Qh Qg (λa=>Tt a) Pm noE
theorem Afm:Pb Tryz.prog 197 AbR:=by
 refine fn2 1 (Px) Tryz.func197<|?_;intro a;unfold Tt;exact B

def SM (a:Int×Int):List D:=[Av a.1,Av a.2]
def SL (ds:List D):Int×Int:=(uI (ds.getD 0 .top),uI (ds.getD 1 .top))
instance:PD SM SL:=⟨λa=>by simp[SL,SM,uI]⟩
def AgR:Dw.Spec:=Pd [] .ground SM SL (λa=>YM a.1 a.2) Pm noE
theorem Alh:Pb Tryz.prog 194 AgR:=by
 refine fn2 2 (Pg (l:=[(197,AbR)]) (by simp[Afm])) Tryz.func194<|?_
 intro a;unfold YM;exact B

def Aeh:Dw.Spec:=Pd [] .ground Qh Qg (λa=>Vi a) Pm noE
theorem AiC:Pb Tryz.prog 195 Aeh:=by
 refine fn2 1 (Px) Tryz.func195<|?_;intro a;unfold Vi;exact B

def Wx:Dw.Spec:=Pd [] .ground QG QF (λa=>Rq a.1 a.2) AaZ noE
theorem AcD:Pb Tryz.prog 161 Wx:=by
 refine fn2 2 (Pg (l:=[(194,AgR),(195,Aeh)]) (by simp[Alh,AiC])) Tryz.func161<|?_
 rintro⟨a,b⟩;unfold Rq;refine A 20 ?_;refine bC (E:=λ(s:Int) (_g:Unit)=>[(0,.sl (a.map Le)),(1,Av b),(6,Av (a.length:Int)),(7,Av s)]) (O:=λ_ _=>[]) (j:=λs=>Qs a b s) ?_ ?_
 ·refine lP (E:=λ(s:Int×Int) (_g:Unit)=>[(0,.sl (a.map Le)),(1,Av b),(6,Av (a.length:Int)),(7,Av s.1),(8,Av s.2)]) (O:=λ_ _=>[]) (body:=λs=>PL a b s.1 s.2) (s:=(0,(a.length:Int))) () ((hX))<|?_
  rintro⟨c,d⟩ ⟨⟩ nn
  try dsimp only
  unfold PL;refine A 8 ?_;refine cD r ?_ ?_
  ·refine A 18 ?_;refine bD λe f=>?_
   refine A 3 ?_;refine bD λg h=>?_
   refine A 3 ?_;refine cD r ?_ ?_
   ·refine A 6 ?_;exact xL (s:=(i64.wrap ((i64.wrap ((u64.wrap (i64.wrap (c+d))).fdiv (2 ^ (Nat.min (1:Int).toNat u64.bits))))+1),d)) () ((hX))
   ·refine A 5 ?_;exact xL (s:=(c,i64.wrap ((u64.wrap (i64.wrap (c+d))).fdiv (2 ^ (Nat.min (1:Int).toNat u64.bits))))) () ((hX))
  ·refine A 3 ?_;exact AaO (s:=c) () ((hX))
 ·rintro i ⟨⟩ nn
  try dsimp only
  unfold Qs;exact B

def Yv (a:(List (List Int))×Int):List D:=[.sl (a.1.map (eL Le)),Av a.2]
def Yu (ds:List D):(List (List Int))×Int:=((uL (uL uI)) (ds.getD 0 .top),uI (ds.getD 1 .top))
instance:PD Yv Yu:=⟨λa=>by simp[Yu,Yv,uI,Qo (u:=(uL uI)) (en:=(eL Le)) (Qo (u:=uI) (en:=Le) (λ_=>rfl))]⟩
def AeD:Dw.Spec:=Pd [] .ground Yv Yu (λa=>VN a.1 a.2) Pm noE
theorem AiW:Pb Tryz.prog 121 AeD:=by
 refine fn2 2 (Pg (l:=[(159,Ada),(160,YF),(161,Wx)]) (by simp[AfK,Aez,AcD])) Tryz.func121<|?_
 rintro⟨a,d⟩;unfold VN;refine A 14 ?_;refine cD r ?_ ?_
 ·exact B
 ·refine A 11 ?_;refine lP (E:=λ(s:Int) (_g:Unit)=>[(0,.sl (a.map (eL Le))),(1,Av d),(17,.sl (a.map (eL Le))),(18,Av (a.length:Int)),(19,Av s)]) (O:=λ_ _=>[]) (body:=λs=>PU a d s) (s:=0) () ((hX))<|?_
  rintro e ⟨⟩ nn
  try dsimp only
  unfold PU;refine A 6 ?_;refine cD r ?_ ?_
  ·refine A 7 ?_;refine bD λg h=>?_
   refine A 9 ?_;refine bD λi j=>?_
   refine A 3 ?_;refine PM r ?_ ?_
   ·exact B
   ·refine A 4 ?_;refine PM r ?_ ?_
    ·refine A 4 ?_;refine bD λk m=>?_
     refine A 7 ?_;refine PM r ?_ ?_
     ·exact B
     ·refine A 2 ?_;refine bD λo p=>?_
      refine A 4 ?_;refine cD r ?_ ?_
      ·exact B
      ·refine A 7 ?_;exact xL (s:=i64.wrap (e+1)) () ((hX))
    ·refine A 13 ?_;refine bD λq t=>?_
     refine A 4 ?_;refine cD r ?_ ?_
     ·exact B
     ·refine A 7 ?_;exact xL (s:=i64.wrap (e+1)) () ((hX))
  ·refine A 14 ?_;refine lP (E:=λ(s:Int) (_g:Unit)=>[(0,.sl (a.map (eL Le))),(48,.sl (a.map (eL Le))),(49,Av (a.length:Int)),(50,Av s)]) (O:=λ_ _=>[]) (body:=λs=>Ro a s) (s:=0) () ((hX))<|?_
   rintro b ⟨⟩ nn
   try dsimp only
   unfold Ro;refine A 6 ?_;refine cD r ?_ ?_
   ·refine A 7 ?_;refine bD λc u=>?_
    refine A 14 ?_;refine lP (E:=λ(s:Int) (_g:Unit)=>[(0,.sl (a.map (eL Le))),(7,Av b),(48,.sl (a.map (eL Le))),(49,Av (a.length:Int)),(50,Av b),(55,.sl (c.map Le)),(56,Av (c.length:Int)),(57,Av s)]) (O:=λ_ _=>[]) (body:=λs=>Rp c a b s) (s:=0) () ((hX))<|?_
    rintro f ⟨⟩ nn
    try dsimp only
    unfold Rp;refine A 6 ?_;refine cD r ?_ ?_
    ·refine A 6 ?_;refine bD λv w=>?_
     refine A 9 ?_;refine bD λx y=>?_
     refine A 3 ?_;refine bD λz aa=>?_
     refine A 14 ?_;refine cD r ?_ ?_
     ·exact B
     ·refine A 7 ?_;exact xL (s:=i64.wrap (f+1)) () ((hX))
    ·refine A 10 ?_;exact xL (s:=i64.wrap (b+1)) () ((hX))
   ·exact B

def ZO:Dw.Spec:=Pd [] .ground SM SL (λa=>Tg a.1 a.2) Pf noE
theorem AdQ:Pb Tryz.prog 165 ZO:=by
 refine fn2 2 (Pg (l:=[(197,AbR)]) (by simp[Afm])) Tryz.func165<|?_
 intro a;unfold Tg;exact B

def AiI:Dw.Spec:=Pd [] .ground Tn Tm (λa=>AbQ a) Pf noE
theorem AmI:Pb Tryz.prog 164 AiI:=by
 refine fn2 1 (Px) Tryz.func164<|?_;intro a;unfold AbQ;refine A 19 ?_;refine lP (E:=λ(s:Int) (_g:Unit)=>[(3,Av 0),(6,.sl (a.map Le)),(7,Av (a.length:Int)),(8,Av s)]) (O:=λ_ _=>[]) (body:=λs=>Aej a s) (s:=0) () ((hX))<|?_
 rintro b ⟨⟩ nn
 try dsimp only
 unfold Aej;refine A 6 ?_;refine cD r ?_ ?_
 ·refine A 6 ?_;refine bD λc d=>?_
  refine A 12 ?_;refine cD r ?_ ?_
  ·exact B
  ·refine A 7 ?_;exact xL (s:=i64.wrap (b+1)) () ((hX))
 ·exact B

def WU (a:Int×Int×(List Pa)):List D:=[Av a.1,Av a.2.1,.fptr (.sl (a.2.2.map Pt)) 0]
def WT (ds:List D):Int×Int×(List Pa):=(uI (ds.getD 0 .top),uI (ds.getD 1 .top),(uL UJ) (fpD (ds.getD 2 .top)))
instance:PD WU WT:=⟨λa=>by simp[WT,WU,uI,fpD,Qo (u:=UJ) (en:=Pt) AbI]⟩
def Yr:Dw.Spec:=Pd [] .ground WU WT (λa=>Tp a.1 a.2.1 a.2.2) Pf noE
theorem AhG:Pb Tryz.prog 163 Yr:=by
 refine fn2 3 (Pg (l:=[(165,ZO),(164,AiI)]) (by simp[AdQ,AmI])) Tryz.func163<|?_
 rintro⟨c,d,e⟩;unfold Tp;refine A 9 ?_;refine bD λf g=>?_
 refine A 5 ?_;refine bD λh i=>?_
 refine A 3 ?_;refine bD λa j=>?_
 refine A 3 ?_;refine bD λk m=>?_
 refine A 5 ?_;refine bD λo p=>?_
 refine A 3 ?_;refine bD λb q=>?_
 refine A 1 ?_;refine bS ([a,b]:List Int) Le r r r (by simp) r r r<|?_
 exact B

def ApM:PZ:=(Tryz.f162.body.bind (PS Tryz.prog Tryz.f162.ntmps)).getD .skip
theorem Atb:(Tryz.f162.body.bind (PS Tryz.prog Tryz.f162.ntmps))=some ApM:=by kernel_rfl
theorem Atc:Tryz.f162.results.toList.mapM (TH Tryz.prog)=some []:=by kernel_rfl

def ApP:PZ:=(Tryz.f196.body.bind (PS Tryz.prog Tryz.f196.ntmps)).getD .skip
theorem Ath:(Tryz.f196.body.bind (PS Tryz.prog Tryz.f196.ntmps))=some ApP:=by kernel_rfl
theorem Ati:Tryz.f196.results.toList.mapM (TH Tryz.prog)=some []:=by kernel_rfl

def Anb:PZ:=(Tryz.f211.body.bind (PS Tryz.prog Tryz.f211.ntmps)).getD .skip
theorem Atl:(Tryz.f211.body.bind (PS Tryz.prog Tryz.f211.ntmps))=some Anb:=by kernel_rfl
theorem Atm:Tryz.f211.results.toList.mapM (TH Tryz.prog)=some []:=by kernel_rfl

def AgS:Dw.Spec:=Pd [] (.row 1 3) Vb Va (λa=>YN a) PX noE
def Uu:Dw.Spec:=Vf (specs [(163,Yr)]) 4 [] Anb
theorem AiM:Pb Tryz.prog 211 Uu:=RY (Pg (l:=[(163,Yr)]) (by simp[AhG])) Tryz.func211 (by decide) Atl Atm (by decide)
def WC:Dw.Spec:=Vf (specs [(671955,Uu)]) 3 [] ApP
theorem AiL:Pb Tryz.prog 196 WC:=RY (Pg (l:=[(671955,Uu)]) (by simp[AiM])) Tryz.func196 (by decide) Ath Ati (by decide)
def ZR:Dw.Spec:=Vf (specs [(671940,WC)]) 2 [] ApM
theorem AiK:Pb Tryz.prog 162 ZR:=RY (Pg (l:=[(671940,WC)]) (by simp[AiL])) Tryz.func162 (by decide) Atb Atc (by decide)
theorem Alj:Pb Tryz.prog 122 AgS:=by
 refine fn2 1 (Pg (l:=[(671906,ZR)]) (by simp[AiK])) Tryz.func122<|?_
 intro b;unfold YN;refine A 5 ?_;refine Qp (E:=[(1,.fptr (.sl (b.map Pt)) 0)]) (O:=[]) ((hV 1 r (hY))) λnn=>?_
 refine A 14 ?_;refine lP (E:=λ(s:(List Int)×Int) (g:Nat)=>[(1,.fptr (.sl (b.map Pt)) 0),(3,.osl 3 g 0 s.1.length),(6,Av (b.length:Int)),(7,Av s.2)]) (O:=λs g=>[(3,dW g 1 3 (s.1.map Le))]) (body:=λs=>AbS b s.1 s.2) (s:=(([]:List Int),0)) _ ((hX))<|?_
 rintro⟨e,x3⟩ aq nn
 try dsimp only
 unfold AbS;refine A 6 ?_;refine cD r ?_ ?_
 ·refine A 23 ?_;exact xL (s:=(e++([x3]:List Int),i64.wrap (x3+1))) _ ((hX))
 ·refine A 8 ?_;refine mF (caps:=[.fptr (.sl (b.map Pt)) 0]) r r (by simp[UX])<|RT (E:=λ(g:Nat)=>[(3,.osl 1003 g 0 e.length),(15,.osl 1003 g 0 e.length),(16,.clo 163 [.fptr (.sl (b.map Pt)) 0])]) (O:=λg=>[(1003,dW g 1 3 (e.map Le))]) _ ((Py (λg=>bif aA 4096 g then g+20000 else g+1000) (by rfl) (hX)))<|?_
  rintro a nn
  try dsimp only
  refine Ady (ds:=[.osl 1003 a 0 e.length,.clo 163 [.fptr (.sl (b.map Pt)) 0]]) (caps:=[]) (E:=[(0,.osl 1003 a 0 e.length),(1,.clo 163 [.fptr (.sl (b.map Pt)) 0])]) rfl rfl rfl rfl rfl (show _=some ZR from by kernel_rfl) rfl rfl<|Ur (c:=ApM)<|?_
  refine A 5 ?_;refine RT (E:=λ(g:Unit)=>[(4,.osl 2003 a 0 e.length),(6,Av (e.length:Int)),(7,.clo 163 [.fptr (.sl (b.map Pt)) 0])]) (O:=λg=>[(2003,dW a 1 3 (e.map Le))]) () ((Py (λg=>bif aA 4096 g then g+20000 else g+1000) (by rfl) (hX)))<|?_
  rintro⟨⟩ nn
  try dsimp only
  refine Yh (ES:=λ(_s:(List Int)) (_g:Unit)=>[(8,.tup [])]) (OS:=λs _=>[(1003,dW a 1 3 (s.map Le))]) (j:=λs=>AbV e s) (ds:=[.osl 2003 a 0 e.length,Av (e.length:Int),.clo 163 [.fptr (.sl (b.map Pt)) 0]]) (caps:=[]) (E:=[(0,.osl 2003 a 0 e.length),(1,Av (e.length:Int)),(2,.clo 163 [.fptr (.sl (b.map Pt)) 0])]) rfl rfl rfl rfl rfl (show _=some WC from by kernel_rfl) rfl rfl ?_ ?_
  ·refine Ur (c:=ApP)<|?_;refine A 12 ?_;refine bC (E:=λ(s:(List Int)×Int) (_g:Unit)=>[(0,.osl 2003 a 0 s.1.length),(1,Av (e.length:Int)),(2,.clo 163 [.fptr (.sl (b.map Pt)) 0]),(6,Av 20),(7,Av s.2)]) (O:=λs _=>[(2003,dW a 1 3 (s.1.map Le))]) (j:=λs=>Yy e b s.1 s.2) ?_ ?_
   ·refine lP (E:=λ(s:(List Int)×Int×Int) (_g:Unit)=>[(0,.osl 2003 a 0 s.1.length),(1,Av (e.length:Int)),(2,.clo 163 [.fptr (.sl (b.map Pt)) 0]),(6,Av 20),(7,Av s.2.1),(8,Av s.2.2)]) (O:=λs _=>[(2003,dW a 1 3 (s.1.map Le))]) (body:=λs=>AaU e b s.1 s.2.1 s.2.2) (s:=(e,0,20)) () ((hX))<|?_
    rintro⟨h,i,f⟩ ⟨⟩ nn
    try dsimp only
    unfold AaU;refine A 8 ?_;refine cD r ?_ ?_
    ·refine A 9 ?_;refine RT (E:=λ(g:Unit)=>[(0,.osl 3003 a 0 h.length),(1,Av (e.length:Int)),(2,.clo 163 [.fptr (.sl (b.map Pt)) 0]),(6,Av 20),(8,Av f),(14,.osl 3003 a 0 h.length),(15,Av i),(16,Av f),(17,.clo 163 [.fptr (.sl (b.map Pt)) 0])]) (O:=λg=>[(3003,dW a 1 3 (h.map Le))]) () ((Py (λg=>bif aA 4096 g then g+20000 else g+1000) (by rfl) (hX)))<|?_
     rintro⟨⟩ nn
     try dsimp only
     refine Aif (ES:=λ(_s:(List Int)) (_g:Unit)=>[(0,.osl 2003 a 0 h.length),(1,Av (e.length:Int)),(2,.clo 163 [.fptr (.sl (b.map Pt)) 0]),(6,Av 20),(8,Av f),(18,.tup [])]) (OS:=λs _=>[(2003,dW a 1 3 (s.map Le))]) (j:=λs=>AaX h f s) (ds:=[.osl 3003 a 0 h.length,Av i,Av f,.clo 163 [.fptr (.sl (b.map Pt)) 0]]) (caps:=[]) (E:=[(0,.osl 3003 a 0 h.length),(1,Av i),(2,Av f),(3,.clo 163 [.fptr (.sl (b.map Pt)) 0])]) rfl rfl rfl rfl rfl (show _=some Uu from by kernel_rfl) rfl rfl ?_ ?_
     ·refine Ur (c:=Anb)<|?_;refine A 8 ?_;refine lP (E:=λ(s:(List Int)×Int) (_g:Unit)=>[(0,.osl 3003 a 0 s.1.length),(1,Av i),(2,Av f),(3,.clo 163 [.fptr (.sl (b.map Pt)) 0]),(8,Av s.2)]) (O:=λs _=>[(3003,dW a 1 3 (s.1.map Le))]) (body:=λs=>AaV f i b h s.1 s.2) (s:=(h,i64.wrap (i+1))) () ((hX))<|?_
      rintro⟨ab,p⟩ ⟨⟩ nn
      try dsimp only
      unfold AaV;refine A 8 ?_;refine cD r ?_ ?_
      ·refine A 2 ?_;refine bC (E:=λ(s:(List Int)) (_g:Unit)=>[(0,.osl 3003 a 0 s.length),(1,Av i),(2,Av f),(3,.clo 163 [.fptr (.sl (b.map Pt)) 0]),(8,Av p)]) (O:=λs _=>[(3003,dW a 1 3 (s.map Le))]) (j:=λs=>XD p s) ?_ ?_
       ·refine A 7 ?_;refine lP (E:=λ(s:(List Int)×Int) (_g:Unit)=>[(0,.osl 3003 a 0 s.1.length),(1,Av i),(2,Av f),(3,.clo 163 [.fptr (.sl (b.map Pt)) 0]),(8,Av p),(9,Av s.2)]) (O:=λs _=>[(3003,dW a 1 3 (s.1.map Le))]) (body:=λs=>AaW i b p s.1 s.2) (s:=(ab,p)) () ((hX))<|?_
        rintro⟨t,u⟩ ⟨⟩ nn
        try dsimp only
        unfold AaW;refine sC (E:=λ(s:Int×Int×Int×Bool) (_g:Unit)=>[(0,.osl 3003 a 0 t.length),(1,Av i),(2,Av f),(3,.clo 163 [.fptr (.sl (b.map Pt)) 0]),(8,Av p),(9,Av u),(22,.clo 163 [.fptr (.sl (b.map Pt)) 0]),(23,.osl 3003 a 0 t.length),(24,Av u),(25,.optr 3003 a u.toNat 0),(26,Av s.1),(27,.osl 3003 a 0 t.length),(28,Av u),(29,Av (i64.wrap (u-1))),(30,.optr 3003 a ((i64.wrap (u-1)).toNat) 0),(31,Av s.2.1),(32,Av s.2.2.1),(33,.bool s.2.2.2)]) (O:=λ_ _=>[(3003,dW a 1 3 (t.map Le))]) (j:=λs=>AaY u t s.1 s.2.1 s.2.2.1 s.2.2.2) ?_ ?_
        ·refine A 6 ?_;refine PM r ?_ ?_
         ·refine A 4 ?_;refine bD λah ar=>?_
          refine A 5 ?_;refine bD λai au=>?_
          refine A 1 ?_;refine bD λaf av=>?_
          refine A 5 ?_;refine cD r ?_ ?_
          ·refine A 1 ?_;exact xC (s:=(ah,ai,af,(decide (af<0)))) () ((hX))
          ·refine A 4 ?_;exact RP (s:=t) () ((hX))
         ·refine A 20 ?_;exact RP (s:=t) () ((hX))
        ·rintro⟨aw,ax,ay,az⟩ ⟨⟩ nn
         try dsimp only
         unfold AaY;exact B
       ·rintro aj ⟨⟩ nn
        try dsimp only
        unfold XD;refine A 5 ?_;exact xL (s:=(aj,i64.wrap (p+1))) () ((hX))
      ·refine A 4 ?_;exact RK (d:=.tup []) (s:=ab) () r (by first|rfl|(simp[Pv,Pz,rdA,raw,strip,PG,cells,PA];done)|(simp[Pv,Pz,rdA,raw,strip,PG,S.ge,S.go,look,Ue,cells,PA];done)) r ((Qi (E1:=[(0,.osl 3003 a 0 h.length),(1,Av (e.length:Int)),(2,.clo 163 [.fptr (.sl (b.map Pt)) 0]),(6,Av 20),(8,Av f),(18,.tup [])]) (O1:=[(3003,dW a 1 3 (ab.map Le))]) (hX) (λ_=>Py (λg=>bif aA 24096 g then g-20000 else bif (aA 1000 g&&aAA g 4096)then g-1000 else g) (by rfl) (hX))))
     ·rintro ac ⟨⟩ nn
      try dsimp only
      unfold AaX;refine AeY λz=>AeZ (E:=λ(g:Unit)=>[(0,.osl 2003 a 0 ac.length),(1,Av (e.length:Int)),(2,.clo 163 [.fptr (.sl (b.map Pt)) 0]),(6,Av 20),(8,Av f),(18,.tup [])]) (O:=λg=>[(2003,dW a 1 3 (ac.map Le))]) () (hE ⟨(QD (q:=h.length) r z),r,r,r,r,r,trivial⟩ ⟨rfl,trivial⟩)<|?_
      rintro⟨⟩ nn
      try dsimp only
      refine A 15 ?_;exact xL (s:=(ac,f,i64.wrap (f+20))) () ((hX))
    ·refine A 3 ?_;exact AaO (s:=(h,i)) () ((hX))
   ·rintro⟨k,o⟩ ⟨⟩ nn
    try dsimp only
    unfold Yy;refine A 6 ?_;refine RT (E:=λ(g:Unit)=>[(0,.osl 3003 a 0 k.length),(1,Av (e.length:Int)),(2,.clo 163 [.fptr (.sl (b.map Pt)) 0]),(6,Av 20),(23,.osl 3003 a 0 k.length),(24,Av o),(25,Av (e.length:Int)),(26,.clo 163 [.fptr (.sl (b.map Pt)) 0])]) (O:=λg=>[(3003,dW a 1 3 (k.map Le))]) () ((Py (λg=>bif aA 4096 g then g+20000 else g+1000) (by rfl) (hX)))<|?_
    rintro⟨⟩ nn
    try dsimp only
    refine Aif (ES:=λ(_s:(List Int)) (_g:Unit)=>[(0,.osl 2003 a 0 k.length),(1,Av (e.length:Int)),(2,.clo 163 [.fptr (.sl (b.map Pt)) 0]),(6,Av 20),(27,.tup [])]) (OS:=λs _=>[(2003,dW a 1 3 (s.map Le))]) (j:=λs=>AbW k e s) (ds:=[.osl 3003 a 0 k.length,Av o,Av (e.length:Int),.clo 163 [.fptr (.sl (b.map Pt)) 0]]) (caps:=[]) (E:=[(0,.osl 3003 a 0 k.length),(1,Av o),(2,Av (e.length:Int)),(3,.clo 163 [.fptr (.sl (b.map Pt)) 0])]) rfl rfl rfl rfl rfl (show _=some Uu from by kernel_rfl) rfl rfl ?_ ?_
    ·refine Ur (c:=Anb)<|?_;refine A 8 ?_;refine lP (E:=λ(s:(List Int)×Int) (_g:Unit)=>[(0,.osl 3003 a 0 s.1.length),(1,Av o),(2,Av (e.length:Int)),(3,.clo 163 [.fptr (.sl (b.map Pt)) 0]),(8,Av s.2)]) (O:=λs _=>[(3003,dW a 1 3 (s.1.map Le))]) (body:=λs=>Yx e o b k s.1 s.2) (s:=(k,i64.wrap (o+1))) () ((hX))<|?_
     rintro⟨x9,v⟩ ⟨⟩ nn
     try dsimp only
     unfold Yx;refine A 8 ?_;refine cD r ?_ ?_
     ·refine A 2 ?_;refine bC (E:=λ(s:(List Int)) (_g:Unit)=>[(0,.osl 3003 a 0 s.length),(1,Av o),(2,Av (e.length:Int)),(3,.clo 163 [.fptr (.sl (b.map Pt)) 0]),(8,Av v)]) (O:=λs _=>[(3003,dW a 1 3 (s.map Le))]) (j:=λs=>Uj v s) ?_ ?_
      ·refine A 7 ?_;refine lP (E:=λ(s:(List Int)×Int) (_g:Unit)=>[(0,.osl 3003 a 0 s.1.length),(1,Av o),(2,Av (e.length:Int)),(3,.clo 163 [.fptr (.sl (b.map Pt)) 0]),(8,Av v),(9,Av s.2)]) (O:=λs _=>[(3003,dW a 1 3 (s.1.map Le))]) (body:=λs=>AaT o b v s.1 s.2) (s:=(x9,v)) () ((hX))<|?_
       rintro⟨w,x⟩ ⟨⟩ nn
       try dsimp only
       unfold AaT;refine sC (E:=λ(s:Int×Int×Int×Bool) (_g:Unit)=>[(0,.osl 3003 a 0 w.length),(1,Av o),(2,Av (e.length:Int)),(3,.clo 163 [.fptr (.sl (b.map Pt)) 0]),(8,Av v),(9,Av x),(22,.clo 163 [.fptr (.sl (b.map Pt)) 0]),(23,.osl 3003 a 0 w.length),(24,Av x),(25,.optr 3003 a x.toNat 0),(26,Av s.1),(27,.osl 3003 a 0 w.length),(28,Av x),(29,Av (i64.wrap (x-1))),(30,.optr 3003 a ((i64.wrap (x-1)).toNat) 0),(31,Av s.2.1),(32,Av s.2.2.1),(33,.bool s.2.2.2)]) (O:=λ_ _=>[(3003,dW a 1 3 (w.map Le))]) (j:=λs=>XC x w s.1 s.2.1 s.2.2.1 s.2.2.2) ?_ ?_
       ·refine A 6 ?_;refine PM r ?_ ?_
        ·refine A 4 ?_;refine bD λak ba=>?_
         refine A 5 ?_;refine bD λao bb=>?_
         refine A 1 ?_;refine bD λag bc=>?_
         refine A 5 ?_;refine cD r ?_ ?_
         ·refine A 1 ?_;exact xC (s:=(ak,ao,ag,(decide (ag<0)))) () ((hX))
         ·refine A 4 ?_;exact RP (s:=w) () ((hX))
        ·refine A 20 ?_;exact RP (s:=w) () ((hX))
       ·rintro⟨bd,bf,bg,bh⟩ ⟨⟩ nn
        try dsimp only
        unfold XC;exact B
      ·rintro ap ⟨⟩ nn
       try dsimp only
       unfold Uj;refine A 5 ?_;exact xL (s:=(ap,i64.wrap (v+1))) () ((hX))
     ·refine A 4 ?_;exact RK (d:=.tup []) (s:=x9) () r (by first|rfl|(simp[Pv,Pz,rdA,raw,strip,PG,cells,PA];done)|(simp[Pv,Pz,rdA,raw,strip,PG,S.ge,S.go,look,Ue,cells,PA];done)) r ((Qi (E1:=[(0,.osl 3003 a 0 k.length),(1,Av (e.length:Int)),(2,.clo 163 [.fptr (.sl (b.map Pt)) 0]),(6,Av 20),(27,.tup [])]) (O1:=[(3003,dW a 1 3 (x9.map Le))]) (hX) (λ_=>Py (λg=>bif aA 24096 g then g-20000 else bif (aA 1000 g&&aAA g 4096)then g-1000 else g) (by rfl) (hX))))
    ·rintro m ⟨⟩ nn
     try dsimp only
     unfold AbW;refine AeY λz=>AeZ (E:=λ(g:Unit)=>[(0,.osl 2003 a 0 m.length),(1,Av (e.length:Int)),(2,.clo 163 [.fptr (.sl (b.map Pt)) 0]),(6,Av 20),(27,.tup [])]) (O:=λg=>[(2003,dW a 1 3 (m.map Le))]) () (hE ⟨(QD (q:=k.length) r z),r,r,r,r,trivial⟩ ⟨rfl,trivial⟩)<|?_
     rintro⟨⟩ nn
     try dsimp only
     refine A 3 ?_;refine lP (E:=λ(s:Int) (_g:Unit)=>[(0,.osl 2003 a 0 m.length),(1,Av (e.length:Int)),(2,.clo 163 [.fptr (.sl (b.map Pt)) 0]),(6,Av s)]) (O:=λ_ _=>[(2003,dW a 1 3 (m.map Le))]) (body:=λs=>AbT e m s) (s:=20) () ((hX))<|?_
     rintro y ⟨⟩ nn
     try dsimp only
     unfold AbT;refine A 8 ?_;refine cD r ?_ ?_
     ·refine A 11 ?_;refine bC (E:=λ(_s:Unit) (_g:Unit)=>[(0,.osl 2003 a 0 m.length),(1,Av (e.length:Int)),(2,.clo 163 [.fptr (.sl (b.map Pt)) 0]),(6,Av y),(7,Av 0)]) (O:=λ_ _=>[(2003,dW a 1 3 (m.map Le))]) (j:=λ_=>AbX y e) ?_ ?_
      ·refine lP (E:=λ(_s:Unit) (_g:Unit)=>[(0,.osl 2003 a 0 m.length),(1,Av (e.length:Int)),(2,.clo 163 [.fptr (.sl (b.map Pt)) 0]),(6,Av y),(7,Av 0),(8,Av (i64.wrap (2*y)))]) (O:=λ_ _=>[(2003,dW a 1 3 (m.map Le))]) (body:=λ_=>AbU y e) (s:=()) () ((hX))<|?_
       rintro⟨⟩ ⟨⟩ nn
       try dsimp only
       unfold AbU;refine A 8 ?_;refine cD r ?_ ?_
       ·refine A 12 ?_;exact Aig
       ·refine A 3 ?_;exact AaO (s:=()) () ((hX))
      ·rintro⟨⟩ ⟨⟩ nn
       try dsimp only
       unfold AbX;refine A 16 ?_;refine cD r ?_ ?_
       ·refine A 6 ?_;exact Aig
       ·refine A 8 ?_;exact xL (s:=i64.wrap (y*2)) () ((hX))
     ·refine A 4 ?_;exact RK (d:=.tup []) (s:=m) () r (by first|rfl|(simp[Pv,Pz,rdA,raw,strip,PG,cells,PA];done)|(simp[Pv,Pz,rdA,raw,strip,PG,S.ge,S.go,look,Ue,cells,PA];done)) r ((Qi (E1:=[(8,.tup [])]) (O1:=[(2003,dW a 1 3 (m.map Le))]) (hX) (λ_=>Py (λg=>bif aA 24096 g then g-20000 else bif (aA 1000 g&&aAA g 4096)then g-1000 else g) (by rfl) (hX))))
  ·rintro x4 ⟨⟩ nn
   try dsimp only
   unfold AbV;refine A 1 ?_;refine Aox (d:=.tup []) (E:=[(3,.osl 3 _ 0 e.length),(17,.tup [])]) (O:=[(3,dW _ 1 3 (x4.map Le))]) r (by first|rfl|(simp[Pv,Pz,rdA,raw,strip,PG,cells,PA];done)|(simp[Pv,Pz,rdA,raw,strip,PG,S.ge,S.go,look,Ue,cells,PA];done)) r ((Qi (E1:=[(3,.osl 1003 a 0 e.length),(17,.tup [])]) (O1:=[(1003,dW a 1 3 (x4.map Le))]) (hX) (λ_=>Py (λg=>bif aA 24096 g then g-20000 else bif (aA 1000 g&&aAA g 4096)then g-1000 else g) (by rfl) (hX)))) λnn=>AeY λz=>AeZ (E:=λ(g:Nat)=>[(3,.osl 3 g 0 x4.length),(17,.tup [])]) (O:=λg=>[(3,dW g 1 3 (x4.map Le))]) _ (hE ⟨(QD (q:=e.length) r z),r,trivial⟩ ⟨rfl,trivial⟩)<|?_
   rintro bi nn
   try dsimp only
   exact B

def Yt (a:(List Pa)×(List Int)×Int):List D:=[.sl (a.1.map Pt),.sl (a.2.1.map Le),Av a.2.2]
def Ys (ds:List D):(List Pa)×(List Int)×Int:=((uL UJ) (ds.getD 0 .top),(uL uI) (ds.getD 1 .top),uI (ds.getD 2 .top))
instance:PD Yt Ys:=⟨λa=>by simp[Ys,Yt,uI,Qo (u:=UJ) (en:=Pt) AbI,Qo (u:=uI) (en:=Le) (λ_=>rfl)]⟩
def AjO (b:OY):D:=PH b
def AeA:Dw.Spec:=Pd [] .ground Yt Ys (λa=>Yz a.1 a.2.1 a.2.2) AjO noE
theorem AiN:Pb Tryz.prog 123 AeA:=by
 refine fn2 3 (Px) Tryz.func123<|?_;intro a;unfold Yz;exact B

def Xb:Dw.Spec:=Pd [] .ground Qh Qg (λa=>SC a) Pm noE
theorem YC:Pb Tryz.prog 166 Xb:=by
 refine fn2 1 (Px) Tryz.func166<|?_;intro a;unfold SC;exact B

def XJ (a:OY):List D:=[PH a]
def XI (ds:List D):OY:=Uf (ds.getD 0 .top)
instance:PD XJ XI:=⟨λa=>by simp[XI,XJ]⟩
def Adk:Dw.Spec:=Pd [] .ground XJ XI (λa=>Xc a) Pm noE
theorem AfT:Pb Tryz.prog 169 Adk:=by
 refine fn2 1 (Pg (l:=[(166,Xb)]) (by simp[YC])) Tryz.func169<|?_
 intro a;unfold Xc;exact B

def AgW:Dw.Spec:=Pd [] .ground XJ XI (λa=>AbZ a) Pm noE
theorem Alq:Pb Tryz.prog 168 AgW:=by
 refine fn2 1 (Pg (l:=[(169,Adk)]) (by simp[AfT])) Tryz.func168<|?_
 intro a;unfold AbZ;exact B

def PW (a:(List OY)):List D:=[.sl (a.map PH),.clo 168 []]
def PV (ds:List D):(List OY):=(uL Uf) (ds.getD 0 .top)
instance:PD PW PV:=⟨λa=>by simp[PV,PW,Qo (u:=Uf) (en:=PH) AdM]⟩
def Qx:Dw.Spec:=Pd [] .ground PW PV (λa=>Qd a) Pf noE
theorem Ux:Pb Tryz.prog 198 Qx:=by
 refine fn2 2 (Pg (l:=[(168,AgW)]) (by simp[Alq])) Tryz.func198<|?_
 intro a;unfold Qd;refine A 14 ?_;refine lP (E:=λ(s:Int) (_g:Unit)=>[(0,.sl (a.map PH)),(1,.clo 168 []),(7,Av (a.length:Int)),(8,Av s)]) (O:=λ_ _=>[]) (body:=λs=>Qw a s) (s:=0) () ((hX))<|?_
 rintro b ⟨⟩ nn
 try dsimp only
 unfold Qw;refine A 6 ?_;refine cD r ?_ ?_
 ·refine A 15 ?_;refine bD λc d=>?_
  refine A 2 ?_;refine bD λe f=>?_
  refine A 3 ?_;refine cD r ?_ ?_
  ·exact B
  ·refine A 7 ?_;exact xL (s:=i64.wrap (b+1)) () ((hX))
 ·exact B

def Qq:Dw.Spec:=Pd [] .ground PW PV (λa=>PJ a) Pm noE
theorem Ud:Pb Tryz.prog 167 Qq:=by
 refine fn2 2 (Pg (l:=[(692422,Qx)]) (by simp[Ux])) Tryz.func167<|?_
 intro a;unfold PJ;refine A 9 ?_;refine bD λc b=>cG a rfl rfl (show _=some Qx from by kernel_rfl) PD.ok rfl rfl (by simp) r b r<|?_
 exact B

def Aad (a:Int):List D:=[Akt a]
def Aac (ds:List D):Int:=uI (ds.getD 0 .top)
instance:PD Aad Aac:=⟨λa=>by simp[Aac,Aad,uI]⟩
def Acl:Dw.Spec:=Pd [] .ground Aad Aac (λa=>AaF a) Pf noE
theorem AkL:Pb Tryz.prog 200 Acl:=by
 refine fn2 1 (Pg (l:=[(222,AkJ)]) (by simp[AqS])) Tryz.func200<|?_
 intro a;unfold AaF;exact B

def XH (a:OY×OY):List D:=[PH a.1,PH a.2]
def XG (ds:List D):OY×OY:=(Uf (ds.getD 0 .top),Uf (ds.getD 1 .top))
instance:PD XH XG:=⟨λa=>by simp[XG,XH]⟩
def Adf:Dw.Spec:=Pd [] .ground XH XG (λa=>YR a.1 a.2) Pf noE
theorem Alr:Pb Tryz.prog 172 Adf:=by
 refine fn2 2 (Pg (l:=[(165,ZO)]) (by simp[AdQ])) Tryz.func172<|?_
 intro a;unfold YR;exact B

def Agx:Dw.Spec:=Pd [] .ground SM SL (λa=>YU a.1 a.2) Pf noE
theorem AiT:Pb Tryz.prog 173 Agx:=by
 refine fn2 2 (Px) Tryz.func173<|?_;intro a;unfold YU;exact B

def Aii:Dw.Spec:=Pd [] .ground XH XG (λa=>Aan a.1 a.2) Pm noE
theorem AlN:Pb Tryz.prog 174 Aii:=by
 refine fn2 2 (Px) Tryz.func174<|?_;intro a;unfold Aan;exact B

def ApN:PZ:=(Tryz.f171.body.bind (PS Tryz.prog Tryz.f171.ntmps)).getD .skip
theorem Atd:(Tryz.f171.body.bind (PS Tryz.prog Tryz.f171.ntmps))=some ApN:=by kernel_rfl
theorem Ate:Tryz.f171.results.toList.mapM (TH Tryz.prog)=some []:=by kernel_rfl

def ApQ:PZ:=(Tryz.f199.body.bind (PS Tryz.prog Tryz.f199.ntmps)).getD .skip
theorem Atj:(Tryz.f199.body.bind (PS Tryz.prog Tryz.f199.ntmps))=some ApQ:=by kernel_rfl
theorem Atk:Tryz.f199.results.toList.mapM (TH Tryz.prog)=some []:=by kernel_rfl

def ApR:PZ:=(Tryz.f213.body.bind (PS Tryz.prog Tryz.f213.ntmps)).getD .skip
theorem Atn:(Tryz.f213.body.bind (PS Tryz.prog Tryz.f213.ntmps))=some ApR:=by kernel_rfl
theorem Ato:Tryz.f213.results.toList.mapM (TH Tryz.prog)=some []:=by kernel_rfl

def Adh (a:(List OY)×Int×Int×Int):List D:=[.sl (a.1.map PH),Av a.2.1,Av a.2.2.1,Av a.2.2.2]
def Adg (ds:List D):(List OY)×Int×Int×Int:=((uL Uf) (ds.getD 0 .top),uI (ds.getD 1 .top),uI (ds.getD 2 .top),uI (ds.getD 3 .top))
instance:PD Adh Adg:=⟨λa=>by simp[Adg,Adh,uI,Qo (u:=Uf) (en:=PH) AdM]⟩
def Aca (b:Int×Int):D:=.tup [Av b.1,Av b.2]
def AiS:Dw.Spec:=Pd [] .ground Adh Adg (λa=>XF a.1 a.2.1 a.2.2.1 a.2.2.2) Aca noE
def YB:Dw.Spec:=Vf (specs [(172,Adf)]) 4 [] ApR
theorem Akz:Pb Tryz.prog 213 YB:=RY (Pg (l:=[(172,Adf)]) (by simp[Alr])) Tryz.func213 (by decide) Atn Ato (by decide)
def YA:Dw.Spec:=Vf (specs [(708821,YB)]) 5 [] ApQ
theorem Aky:Pb Tryz.prog 199 YA:=RY (Pg (l:=[(708821,YB)]) (by simp[Akz])) Tryz.func199 (by decide) Atj Atk (by decide)
def Acb:Dw.Spec:=Vf (specs [(200,Acl),(708807,YA)]) 2 [] ApN
theorem Akx:Pb Tryz.prog 171 Acb:=RY (Pg (l:=[(200,Acl),(708807,YA)]) (by simp[AkL,Aky])) Tryz.func171 (by decide) Atd Ate (by decide)
theorem AmL:Pb Tryz.prog 124 AiS:=by
 refine fn2 4 (Pg (l:=[(166,Xb),(158,Zv),(692391,Qq),(170,AnD),(708779,Acb),(173,Agx),(174,Aii)]) (by simp[YC,Acd,Ud,AqA,Akx,AiT,AlN])) Tryz.func124<|?_
 rintro⟨t,h,e,f⟩;unfold XF;refine A 6 ?_;refine sC (E:=λ(_s:Unit) (_g:Unit)=>[(0,.sl (t.map PH)),(1,Av h),(2,Av e),(3,Av f)]) (O:=λ_ _=>[]) (j:=λ_=>AaC t h f e) ?_ ?_
 ·refine A 3 ?_;refine bD λak ao=>?_
  refine A 3 ?_;refine PM r ?_ ?_
  ·exact B
  ·refine A 1 ?_;refine bD λap aq=>?_
   refine A 4 ?_;refine PM r ?_ ?_
   ·exact B
   ·refine A 1 ?_;refine bD λar au=>?_
    refine A 4 ?_;refine PM r ?_ ?_
    ·exact B
    ·refine A 1 ?_;refine bD λav z=>cG t rfl rfl (show _=some Qq from by kernel_rfl) PD.ok rfl rfl (by simp) r z r<|?_
     refine A 3 ?_;refine cD r ?_ ?_
     ·exact B
     ·refine A 1 ?_;exact xC (s:=()) () ((hX))
 ·rintro⟨⟩ ⟨⟩ nn
  try dsimp only
  unfold AaC;refine A 3 ?_;refine bD λa aw=>?_
  refine A 7 ?_;refine RT (E:=λ(g:Nat)=>[(1,Av h),(2,Av e),(3,Av f),(10,.osl 1010 g 0 a.length),(33,.osl 1010 g 0 a.length)]) (O:=λg=>[(1010,dW g 2 121 (a.map PH))]) _ ((Py (λg=>bif aA 4096 g then g+20000 else g+1000) (by rfl) (hX)))<|?_
  rintro b nn
  try dsimp only
  refine Ady (ds:=[.osl 1010 b 0 a.length,.clo 172 []]) (caps:=[]) (E:=[(0,.osl 1010 b 0 a.length),(1,.clo 172 [])]) rfl rfl rfl rfl rfl (show _=some Acb from by kernel_rfl) rfl rfl<|Ur (c:=ApN)<|?_
  refine A 12 ?_;refine bD λp ax=>?_
  refine A 2 ?_;refine RT (E:=λ(g:Unit)=>[(7,.osl 2010 b 0 a.length),(8,Av (a.length:Int)),(11,Av p),(12,.clo 172 [])]) (O:=λg=>[(2010,dW b 2 121 (a.map PH))]) () ((Py (λg=>bif aA 4096 g then g+20000 else g+1000) (by rfl) (hX)))<|?_
  rintro⟨⟩ nn
  try dsimp only
  refine Yh (ES:=λ(_s:(List OY)) (_g:Unit)=>[(13,.tup [])]) (OS:=λs _=>[(1010,dW b 2 121 (s.map PH))]) (j:=λs=>Aen a h f e s) (ds:=[.osl 2010 b 0 a.length,Av 0,Av (a.length:Int),Av p,.clo 172 []]) (caps:=[]) (E:=[(0,.osl 2010 b 0 a.length),(1,Av 0),(2,Av (a.length:Int)),(3,Av p),(4,.clo 172 [])]) rfl rfl rfl rfl rfl (show _=some YA from by kernel_rfl) rfl rfl ?_ ?_
  ·refine Ur (c:=ApQ)<|?_;refine A 11 ?_;refine lP (E:=λ(_s:Unit) (_g:Unit)=>[(0,.osl 2010 b 0 a.length),(1,Av 0),(2,Av (a.length:Int)),(3,Av p),(4,.clo 172 []),(10,.bool true),(11,.bool true)]) (O:=λ_ _=>[(2010,dW b 2 121 (a.map PH))]) (body:=λ_=>AaB a h f e p) (s:=()) () ((hX))<|?_
   rintro⟨⟩ ⟨⟩ nn
   try dsimp only
   unfold AaB;refine A 16 ?_;refine cD r ?_ ?_
   ·refine A 6 ?_;refine RT (E:=λ(g:Unit)=>[(26,.osl 3010 b 0 a.length),(27,Av 0),(28,Av (a.length:Int)),(29,.clo 172 [])]) (O:=λg=>[(3010,dW b 2 121 (a.map PH))]) () ((Py (λg=>bif aA 4096 g then g+20000 else g+1000) (by rfl) (hX)))<|?_
    rintro⟨⟩ nn
    try dsimp only
    refine Yh (ES:=λ(_s:(List OY)) (_g:Unit)=>[(30,.tup [])]) (OS:=λs _=>[(2010,dW b 2 121 (s.map PH))]) (j:=λs=>Aeo a h f e s) (ds:=[.osl 3010 b 0 a.length,Av 0,Av (a.length:Int),.clo 172 []]) (caps:=[]) (E:=[(0,.osl 3010 b 0 a.length),(1,Av 0),(2,Av (a.length:Int)),(3,.clo 172 [])]) rfl rfl rfl rfl rfl (show _=some YB from by kernel_rfl) rfl rfl ?_ ?_
    ·refine Ur (c:=ApR)<|?_;refine A 8 ?_;refine lP (E:=λ(s:(List OY)×Int) (_g:Unit)=>[(0,.osl 3010 b 0 s.1.length),(1,Av 0),(2,Av (a.length:Int)),(3,.clo 172 []),(8,Av s.2)]) (O:=λs _=>[(3010,dW b 2 121 (s.1.map PH))]) (body:=λs=>Ael a h f e s.1 s.2) (s:=(a,i64.wrap (0+1))) () ((hX))<|?_
     rintro⟨u,o⟩ ⟨⟩ nn
     try dsimp only
     unfold Ael;refine A 8 ?_;refine cD r ?_ ?_
     ·refine A 2 ?_;refine bC (E:=λ(s:(List OY)) (_g:Unit)=>[(0,.osl 3010 b 0 s.length),(1,Av 0),(2,Av (a.length:Int)),(3,.clo 172 []),(8,Av o)]) (O:=λs _=>[(3010,dW b 2 121 (s.map PH))]) (j:=λs=>VC o s) ?_ ?_
      ·refine A 7 ?_;refine lP (E:=λ(s:(List OY)×Int) (_g:Unit)=>[(0,.osl 3010 b 0 s.1.length),(1,Av 0),(2,Av (a.length:Int)),(3,.clo 172 []),(8,Av o),(9,Av s.2)]) (O:=λs _=>[(3010,dW b 2 121 (s.1.map PH))]) (body:=λs=>Aem o s.1 s.2) (s:=(u,o)) () ((hX))<|?_
       rintro⟨i,k⟩ ⟨⟩ nn
       try dsimp only
       unfold Aem;refine sC (E:=λ(s:OY×OY×Int×Bool) (_g:Unit)=>[(0,.osl 3010 b 0 i.length),(1,Av 0),(2,Av (a.length:Int)),(3,.clo 172 []),(8,Av o),(9,Av k),(22,.clo 172 []),(23,.osl 3010 b 0 i.length),(24,Av k),(25,.optr 3010 b k.toNat 0),(26,.agg [Av s.1.Off,Av s.1.Size]),(27,.osl 3010 b 0 i.length),(28,Av k),(29,Av (i64.wrap (k-1))),(30,.optr 3010 b ((i64.wrap (k-1)).toNat) 0),(31,.agg [Av s.2.1.Off,Av s.2.1.Size]),(32,Av s.2.2.1),(33,.bool s.2.2.2)]) (O:=λ_ _=>[(3010,dW b 2 121 (i.map PH))]) (j:=λs=>AaD k i s.1 s.2.1 s.2.2.1 s.2.2.2) ?_ ?_
       ·refine A 6 ?_;refine PM r ?_ ?_
        ·refine A 4 ?_;refine bD λaa ay=>?_
         refine A 5 ?_;refine bD λab az=>?_
         refine A 1 ?_;refine bD λv ba=>?_
         refine A 5 ?_;refine cD r ?_ ?_
         ·refine A 1 ?_;exact xC (s:=(aa,ab,v,(decide (v<0)))) () ((hX))
         ·refine A 4 ?_;exact RP (s:=i) () ((hX))
        ·refine A 20 ?_;exact RP (s:=i) () ((hX))
       ·rintro⟨bb,bc,bd,bf⟩ ⟨⟩ nn
        try dsimp only
        unfold AaD;refine A 12 ?_;refine bD λw bg=>?_
        refine A 4 ?_;refine bD λac bh=>?_
        refine A 2 ?_;refine bD λbi ad=>sE (l:=i) (en:=PH) (q':=w) r r r r r r r (by simp) ad r r r r r<|?_
        refine A 1 ?_;refine bD λbj ae=>sE (l:=i.set k.toNat w) (en:=PH) (q':=ac) r r r r r r r (by simp) ae r r r r r<|?_
        exact B
      ·rintro af ⟨⟩ nn
       try dsimp only
       unfold VC;refine A 5 ?_;exact xL (s:=(af,i64.wrap (o+1))) () ((hX))
     ·refine A 4 ?_;exact RK (d:=.tup []) (s:=u) () r (by first|rfl|(simp[Pv,Pz,rdA,raw,strip,PG,cells,PA];done)|(simp[Pv,Pz,rdA,raw,strip,PG,S.ge,S.go,look,Ue,cells,PA];done)) r ((Qi (E1:=[(30,.tup [])]) (O1:=[(3010,dW b 2 121 (u.map PH))]) (hX) (λ_=>Py (λg=>bif aA 24096 g then g-20000 else bif (aA 1000 g&&aAA g 4096)then g-1000 else g) (by rfl) (hX))))
    ·rintro x ⟨⟩ nn
     try dsimp only
     unfold Aeo;refine A 7 ?_;exact RK (d:=.tup []) (s:=x) () r (by first|rfl|(simp[Pv,Pz,rdA,raw,strip,PG,cells,PA];done)|(simp[Pv,Pz,rdA,raw,strip,PG,S.ge,S.go,look,Ue,cells,PA];done)) r ((Qi (E1:=[(13,.tup [])]) (O1:=[(2010,dW b 2 121 (x.map PH))]) (hX) (λ_=>Py (λg=>bif aA 24096 g then g-20000 else bif (aA 1000 g&&aAA g 4096)then g-1000 else g) (by rfl) (hX))))
   ·refine A 9 ?_;refine cD r ?_ ?_
    ·refine A 6 ?_;exact Aig
    ·refine A 2 ?_;refine sC (E:=λ(_s:Unit) (_g:Unit)=>[(0,.osl 2010 b 0 a.length),(1,Av 0),(2,Av (a.length:Int)),(3,Av p),(4,.clo 172 []),(10,.bool true),(11,.bool true),(12,Av (i64.wrap ((a.length:Int)-0)))]) (O:=λ_ _=>[(2010,dW b 2 121 (a.map PH))]) (j:=λ_=>Adi) ?_ ?_
     ·refine A 8 ?_;exact xC (s:=()) () ((hX))
     ·rintro⟨⟩ ⟨⟩ nn
      try dsimp only
      unfold Adi;refine A 6 ?_;exact Aig
  ·rintro m ⟨⟩ nn
   try dsimp only
   unfold Aen;refine A 1 ?_;refine Aox (d:=.tup []) (E:=[(1,Av h),(2,Av e),(3,Av f),(10,.osl 10 _ 0 a.length),(34,.tup [])]) (O:=[(10,dW _ 2 121 (m.map PH))]) r (by first|rfl|(simp[Pv,Pz,rdA,raw,strip,PG,cells,PA];done)|(simp[Pv,Pz,rdA,raw,strip,PG,S.ge,S.go,look,Ue,cells,PA];done)) r ((Qi (E1:=[(1,Av h),(2,Av e),(3,Av f),(10,.osl 1010 b 0 a.length),(34,.tup [])]) (O1:=[(1010,dW b 2 121 (m.map PH))]) (hX) (λ_=>Py (λg=>bif aA 24096 g then g-20000 else bif (aA 1000 g&&aAA g 4096)then g-1000 else g) (by rfl) (hX)))) λnn=>AeY λag=>AeZ (E:=λ(g:Nat)=>[(1,Av h),(2,Av e),(3,Av f),(10,.osl 10 g 0 m.length),(34,.tup [])]) (O:=λg=>[(10,dW g 2 121 (m.map PH))]) _ (hE ⟨rfl,r,r,(QD (q:=a.length) r ag),r,trivial⟩ ⟨rfl,trivial⟩)<|?_
   rintro bk nn
   try dsimp only
   refine A 6 ?_;refine bD λr8 bl=>?_
   refine A 13 ?_;refine lP (E:=λ(s:Int×Int) (g:Nat)=>[(2,Av e),(3,Av f),(11,Av s.1),(38,.osl 10 g 0 m.length),(39,Av (m.length:Int)),(40,Av s.2)]) (O:=λ_ g=>[(10,dW g 2 121 (m.map PH))]) (body:=λs=>AaA m e f s.1 s.2) (s:=(r8,0)) _ ((hX))<|?_
   rintro⟨ai,y⟩ bm nn
   try dsimp only
   unfold AaA;refine A 6 ?_;refine cD r ?_ ?_
   ·refine A 7 ?_;refine bD λbn bo=>?_
    refine A 11 ?_;refine bD λbp bq=>?_
    refine A 3 ?_;refine cD r ?_ ?_
    ·refine A 7 ?_;refine bD λaj br=>?_
     refine A 9 ?_;exact xL (s:=(aj,i64.wrap (y+1))) _ ((hX))
    ·refine A 7 ?_;exact xL (s:=(ai,i64.wrap (y+1))) _ ((hX))
   ·exact B

end
end Go.Proofs.YtilmapojncgflaaGreatDoor
