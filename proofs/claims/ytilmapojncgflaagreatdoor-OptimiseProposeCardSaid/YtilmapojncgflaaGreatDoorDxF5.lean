/-
  Programs on typed data, and the proofs that the code does what they say; written by a program (dx.py).
-/
import Derived.Test.YtilmapojncgflaaGreatDoorProg
import Derived.Test.YtilmapojncgflaaGreatDoorDd
import Derived.KernelRfl
import Derived.Test.YtilmapojncgflaaGreatDoorSh
import Derived.Test.YtilmapojncgflaaGreatDoorCl
import Derived.Test.YtilmapojncgflaaGreatDoorDxP
import Derived.Test.YtilmapojncgflaaGreatDoorDxF1
import Derived.Test.YtilmapojncgflaaGreatDoorDxF2
import Derived.Test.YtilmapojncgflaaGreatDoorDxF4
open Nat renaming ble->aA,blt->aAA
namespace Go.Proofs.YtilmapojncgflaaGreatDoor
open Go Go.Dw Go.Proofs
open Go.IntKind (i64 u64)
set_option maxRecDepth 100000
set_option maxHeartbeats 40000000
open Go.Dw renaming Ra -> bD,Abn -> bS,AaF -> cG,TC -> sE,ZS -> cD,AbR -> xC,XW -> xL,YX -> hE,AbS -> lP,XE -> sC,YV -> bC,Akr -> mF,rf -> r
noncomputable section
def Qq (a:(List Pa)):List D:=[.sl (a.map Pm),.clo 156 []]
def Qp (ds:List D):(List Pa):=(uL Uy) (ds.getD 0 .top)
instance:Py Qq Qp:=⟨λa=>by simp[Qp,Qq,Qb (u:=Uy) (en:=Pm) Aei]⟩
def Rl:Dw.Spec:=OY [] .ground Qq Qp (λa=>Ru a) Pb noE
theorem XC:OW Tryz.prog 192 Rl:=by
 refine fn2 2 (OZ (l:=[(156,Ail)]) (by simp[AnA])) Tryz.func192<|?_
 intro a;unfold Ru;refine A 14 ?_;refine lP (E:=λ(s:Int) (_g:Unit)=>[(0,.sl (a.map Pm)),(1,.clo 156 []),(7,Av (a.length:Int)),(8,Av s)]) (O:=λ_ _=>[]) (body:=λs=>Qs a s) (s:=0) () ((hX))<|?_
 rintro b ⟨⟩ nn
 try dsimp only
 unfold Qs;refine A 6 ?_;refine cD r ?_ ?_
 ·refine A 15 ?_;refine bD λc d=>?_
  refine A 2 ?_;refine bD λe f=>?_
  refine A 3 ?_;refine cD r ?_ ?_
  ·exact B
  ·refine A 7 ?_;exact xL (s:=i64.wrap (b+1)) () ((hX))
 ·exact B

def QW:Dw.Spec:=OY [] .ground Qq Qp (λa=>Rh a) Pe noE
theorem VZ:OW Tryz.prog 155 QW:=by
 refine fn2 2 (OZ (l:=[(643264,Rl)]) (by simp[XC])) Tryz.func155<|?_
 intro a;unfold Rh;refine A 9 ?_;refine bD λc b=>cG a rfl rfl (show _=some Rl from by kernel_rfl) Py.ok rfl rfl (by simp) r b r<|?_
 exact B

def Sd (a:(List Pa)):List D:=[.sl (a.map Pm)]
def Sc (ds:List D):(List Pa):=(uL Uy) (ds.getD 0 .top)
instance:Py Sd Sc:=⟨λa=>by simp[Sc,Sd,Qb (u:=Uy) (en:=Pm) Aei]⟩
def Afy:Dw.Spec:=OY [] .ground Sd Sc (λa=>YC a) Pb noE
theorem AiV:OW Tryz.prog 120 Afy:=by
 refine fn2 1 (OZ (l:=[(643227,QW)]) (by simp[VZ])) Tryz.func120<|?_
 intro a;unfold YC;refine A 13 ?_;refine cD r ?_ ?_
 ·exact B
 ·refine A 6 ?_;refine bD λc b=>cG a rfl rfl (show _=some QW from by kernel_rfl) Py.ok rfl rfl (by simp) r b r<|?_
  exact B

def AaD:Dw.Spec:=OY [] .ground Qx Qw (λa=>RC a.1 a.2) Pe noE
theorem Ahk:OW Tryz.prog 160 AaD:=by
 refine fn2 2 (OZ (l:=[(116,XV)]) (by simp[AbV])) Tryz.func160<|?_
 intro a;unfold RC;exact B

def Aep:Dw.Spec:=OY [] .ground PU PT (λa=>TU a) Pe noE
theorem Aia:OW Tryz.prog 197 Aep:=by
 refine fn2 1 (Pp) Tryz.func197<|?_;intro a;unfold TU;exact B

def Sa (a:Int×Int):List D:=[Av a.1,Av a.2]
def RZ (ds:List D):Int×Int:=(uI (ds.getD 0 .top),uI (ds.getD 1 .top))
instance:Py Sa RZ:=⟨λa=>by simp[RZ,Sa,uI]⟩
def AjN:Dw.Spec:=OY [] .ground Sa RZ (λa=>AaK a.1 a.2) Pe noE
theorem AoJ:OW Tryz.prog 194 AjN:=by
 refine fn2 2 (OZ (l:=[(197,Aep)]) (by simp[Aia])) Tryz.func194<|?_
 intro a;unfold AaK;exact B

def AgR:Dw.Spec:=OY [] .ground PU PT (λa=>Wa a) Pe noE
theorem AlR:OW Tryz.prog 195 AgR:=by
 refine fn2 1 (Pp) Tryz.func195<|?_;intro a;unfold Wa;exact B

def XZ:Dw.Spec:=OY [] .ground Qx Qw (λa=>RA a.1 a.2) Adx noE
theorem Afe:OW Tryz.prog 161 XZ:=by
 refine fn2 2 (OZ (l:=[(194,AjN),(195,AgR)]) (by simp[AoJ,AlR])) Tryz.func161<|?_
 rintro⟨a,b⟩;unfold RA;refine A 20 ?_;refine bC (E:=λ(s:Int) (_g:Unit)=>[(0,.sl (a.map Le)),(1,Av b),(6,Av (a.length:Int)),(7,Av s)]) (O:=λ_ _=>[]) (j:=λs=>QA a b s) ?_ ?_
 ·refine lP (E:=λ(s:Int×Int) (_g:Unit)=>[(0,.sl (a.map Le)),(1,Av b),(6,Av (a.length:Int)),(7,Av s.1),(8,Av s.2)]) (O:=λ_ _=>[]) (body:=λs=>PR a b s.1 s.2) (s:=(0,(a.length:Int))) () ((hX))<|?_
  rintro⟨c,d⟩ ⟨⟩ nn
  try dsimp only
  unfold PR;refine A 8 ?_;refine cD r ?_ ?_
  ·refine A 18 ?_;refine bD λe f=>?_
   refine A 3 ?_;refine bD λg h=>?_
   refine A 3 ?_;refine cD r ?_ ?_
   ·refine A 6 ?_;exact xL (s:=(i64.wrap ((i64.wrap ((u64.wrap (i64.wrap (c+d))).fdiv (2 ^ (Nat.min (1:Int).toNat u64.bits))))+1),d)) () ((hX))
   ·refine A 5 ?_;exact xL (s:=(c,i64.wrap ((u64.wrap (i64.wrap (c+d))).fdiv (2 ^ (Nat.min (1:Int).toNat u64.bits))))) () ((hX))
  ·refine A 3 ?_;exact Tc (s:=c) () ((hX))
 ·rintro i ⟨⟩ nn
  try dsimp only
  unfold QA;exact B

def Wi (a:(List (List Int))×Int):List D:=[.sl (a.1.map (eL Le)),Av a.2]
def Wh (ds:List D):(List (List Int))×Int:=((uL (uL uI)) (ds.getD 0 .top),uI (ds.getD 1 .top))
instance:Py Wi Wh:=⟨λa=>by simp[Wh,Wi,uI,Qb (u:=(uL uI)) (en:=(eL Le)) (Qb (u:=uI) (en:=Le) (λ_=>rfl))]⟩
def Aht:Dw.Spec:=OY [] .ground Wi Wh (λa=>Xi a.1 a.2) Pe noE
theorem Amt:OW Tryz.prog 121 Aht:=by
 refine fn2 2 (OZ (l:=[(159,Afu),(160,AaD),(161,XZ)]) (by simp[AiN,Ahk,Afe])) Tryz.func121<|?_
 rintro⟨a,d⟩;unfold Xi;refine A 14 ?_;refine cD r ?_ ?_
 ·exact B
 ·refine A 11 ?_;refine lP (E:=λ(s:Int) (_g:Unit)=>[(0,.sl (a.map (eL Le))),(1,Av d),(17,.sl (a.map (eL Le))),(18,Av (a.length:Int)),(19,Av s)]) (O:=λ_ _=>[]) (body:=λs=>PZ a d s) (s:=0) () ((hX))<|?_
  rintro e ⟨⟩ nn
  try dsimp only
  unfold PZ;refine A 6 ?_;refine cD r ?_ ?_
  ·refine A 7 ?_;refine bD λg h=>?_
   refine A 9 ?_;refine bD λi j=>?_
   refine A 3 ?_;refine Pj r ?_ ?_
   ·exact B
   ·refine A 4 ?_;refine Pj r ?_ ?_
    ·refine A 4 ?_;refine bD λk m=>?_
     refine A 7 ?_;refine Pj r ?_ ?_
     ·exact B
     ·refine A 2 ?_;refine bD λo p=>?_
      refine A 4 ?_;refine cD r ?_ ?_
      ·exact B
      ·refine A 7 ?_;exact xL (s:=i64.wrap (e+1)) () ((hX))
    ·refine A 13 ?_;refine bD λq t=>?_
     refine A 4 ?_;refine cD r ?_ ?_
     ·exact B
     ·refine A 7 ?_;exact xL (s:=i64.wrap (e+1)) () ((hX))
  ·refine A 14 ?_;refine lP (E:=λ(s:Int) (_g:Unit)=>[(0,.sl (a.map (eL Le))),(48,.sl (a.map (eL Le))),(49,Av (a.length:Int)),(50,Av s)]) (O:=λ_ _=>[]) (body:=λs=>Rz a s) (s:=0) () ((hX))<|?_
   rintro b ⟨⟩ nn
   try dsimp only
   unfold Rz;refine A 6 ?_;refine cD r ?_ ?_
   ·refine A 7 ?_;refine bD λc u=>?_
    refine A 14 ?_;refine lP (E:=λ(s:Int) (_g:Unit)=>[(0,.sl (a.map (eL Le))),(7,Av b),(48,.sl (a.map (eL Le))),(49,Av (a.length:Int)),(50,Av b),(55,.sl (c.map Le)),(56,Av (c.length:Int)),(57,Av s)]) (O:=λ_ _=>[]) (body:=λs=>Se c a b s) (s:=0) () ((hX))<|?_
    rintro f ⟨⟩ nn
    try dsimp only
    unfold Se;refine A 6 ?_;refine cD r ?_ ?_
    ·refine A 6 ?_;refine bD λv w=>?_
     refine A 9 ?_;refine bD λx y=>?_
     refine A 3 ?_;refine bD λz aa=>?_
     refine A 14 ?_;refine cD r ?_ ?_
     ·exact B
     ·refine A 7 ?_;exact xL (s:=i64.wrap (f+1)) () ((hX))
    ·refine A 10 ?_;exact xL (s:=i64.wrap (b+1)) () ((hX))
   ·exact B

def AbX:Dw.Spec:=OY [] .ground Sa RZ (λa=>TH a.1 a.2) Pb noE
theorem Agz:OW Tryz.prog 165 AbX:=by
 refine fn2 2 (OZ (l:=[(197,Aep)]) (by simp[Aia])) Tryz.func165<|?_
 intro a;unfold TH;exact B

def AlZ:Dw.Spec:=OY [] .ground SF SE (λa=>Aeo a) Pb noE
theorem Aqq:OW Tryz.prog 164 AlZ:=by
 refine fn2 1 (Pp) Tryz.func164<|?_;intro a;unfold Aeo;refine A 19 ?_;refine lP (E:=λ(s:Int) (_g:Unit)=>[(3,Av 0),(6,.sl (a.map Le)),(7,Av (a.length:Int)),(8,Av s)]) (O:=λ_ _=>[]) (body:=λs=>AgT a s) (s:=0) () ((hX))<|?_
 rintro b ⟨⟩ nn
 try dsimp only
 unfold AgT;refine A 6 ?_;refine cD r ?_ ?_
 ·refine A 6 ?_;refine bD λc d=>?_
  refine A 12 ?_;refine cD r ?_ ?_
  ·exact B
  ·refine A 7 ?_;exact xL (s:=i64.wrap (b+1)) () ((hX))
 ·exact B

def Yw (a:Int×Int×(List Pa)):List D:=[Av a.1,Av a.2.1,.fptr (.sl (a.2.2.map Pm)) 0]
def Yv (ds:List D):Int×Int×(List Pa):=(uI (ds.getD 0 .top),uI (ds.getD 1 .top),(uL Uy) (fpD (ds.getD 2 .top)))
instance:Py Yw Yv:=⟨λa=>by simp[Yv,Yw,uI,fpD,Qb (u:=Uy) (en:=Pm) Aei]⟩
def Aab:Dw.Spec:=OY [] .ground Yw Yv (λa=>TQ a.1 a.2.1 a.2.2) Pb noE
theorem AkK:OW Tryz.prog 163 Aab:=by
 refine fn2 3 (OZ (l:=[(165,AbX),(164,AlZ)]) (by simp[Agz,Aqq])) Tryz.func163<|?_
 rintro⟨c,d,e⟩;unfold TQ;refine A 9 ?_;refine bD λf g=>?_
 refine A 5 ?_;refine bD λh i=>?_
 refine A 3 ?_;refine bD λa j=>?_
 refine A 3 ?_;refine bD λk m=>?_
 refine A 5 ?_;refine bD λo p=>?_
 refine A 3 ?_;refine bD λb q=>?_
 refine A 1 ?_;refine bS ([a,b]:List Int) Le r r r (by simp) r r r<|?_
 exact B

def AtH:Qi:=(Tryz.f162.body.bind (PY Tryz.prog Tryz.f162.ntmps)).getD .skip
theorem AwR:(Tryz.f162.body.bind (PY Tryz.prog Tryz.f162.ntmps))=some AtH:=by kernel_rfl
theorem AwS:Tryz.f162.results.toList.mapM (Ug Tryz.prog)=some []:=by kernel_rfl

def AtK:Qi:=(Tryz.f196.body.bind (PY Tryz.prog Tryz.f196.ntmps)).getD .skip
theorem AwX:(Tryz.f196.body.bind (PY Tryz.prog Tryz.f196.ntmps))=some AtK:=by kernel_rfl
theorem AwY:Tryz.f196.results.toList.mapM (Ug Tryz.prog)=some []:=by kernel_rfl

def AqQ:Qi:=(Tryz.f211.body.bind (PY Tryz.prog Tryz.f211.ntmps)).getD .skip
theorem Axb:(Tryz.f211.body.bind (PY Tryz.prog Tryz.f211.ntmps))=some AqQ:=by kernel_rfl
theorem Axc:Tryz.f211.results.toList.mapM (Ug Tryz.prog)=some []:=by kernel_rfl

def AjO:Dw.Spec:=OY [] (.row 1 3) Sd Sc (λa=>AaL a) PK noE
def Vf:Dw.Spec:=VV (specs [(163,Aab)]) 4 [] AqQ
theorem Amd:OW Tryz.prog 211 Vf:=Sg (OZ (l:=[(163,Aab)]) (by simp[AkK])) Tryz.func211 (by decide) Axb Axc (by decide)
def Yg:Dw.Spec:=VV (specs [(671955,Vf)]) 3 [] AtK
theorem Amc:OW Tryz.prog 196 Yg:=Sg (OZ (l:=[(671955,Vf)]) (by simp[Amd])) Tryz.func196 (by decide) AwX AwY (by decide)
def AbY:Dw.Spec:=VV (specs [(671940,Yg)]) 2 [] AtH
theorem Amb:OW Tryz.prog 162 AbY:=Sg (OZ (l:=[(671940,Yg)]) (by simp[Amc])) Tryz.func162 (by decide) AwR AwS (by decide)
theorem AoK:OW Tryz.prog 122 AjO:=by
 refine fn2 1 (OZ (l:=[(671906,AbY)]) (by simp[Amb])) Tryz.func122<|?_
 intro b;unfold AaL;refine A 5 ?_;refine Qg (E:=[(1,.fptr (.sl (b.map Pm)) 0)]) (O:=[]) ((hV 1 r (hY))) λnn=>?_
 refine A 14 ?_;refine lP (E:=λ(s:(List Int)×Int) (g:Nat)=>[(1,.fptr (.sl (b.map Pm)) 0),(3,.osl 3 g 0 s.1.length),(6,Av (b.length:Int)),(7,Av s.2)]) (O:=λs g=>[(3,dW g 1 3 (s.1.map Le))]) (body:=λs=>Aer b s.1 s.2) (s:=(([]:List Int),0)) _ ((hX))<|?_
 rintro⟨e,x3⟩ aq nn
 try dsimp only
 unfold Aer;refine A 6 ?_;refine cD r ?_ ?_
 ·refine A 23 ?_;exact xL (s:=(e++([x3]:List Int),i64.wrap (x3+1))) _ ((hX))
 ·refine A 8 ?_;refine mF (caps:=[.fptr (.sl (b.map Pm)) 0]) r r (by simp[VF])<|RV (E:=λ(g:Nat)=>[(3,.osl 1003 g 0 e.length),(15,.osl 1003 g 0 e.length),(16,.clo 163 [.fptr (.sl (b.map Pm)) 0])]) (O:=λg=>[(1003,dW g 1 3 (e.map Le))]) _ ((PA (λg=>bif aA 4096 g then g+20000 else g+1000) (by rfl) (hX)))<|?_
  rintro a nn
  try dsimp only
  refine Agg (ds:=[.osl 1003 a 0 e.length,.clo 163 [.fptr (.sl (b.map Pm)) 0]]) (caps:=[]) (E:=[(0,.osl 1003 a 0 e.length),(1,.clo 163 [.fptr (.sl (b.map Pm)) 0])]) rfl rfl rfl rfl rfl (show _=some AbY from by kernel_rfl) rfl rfl<|Va (c:=AtH)<|?_
  refine A 5 ?_;refine RV (E:=λ(g:Unit)=>[(4,.osl 2003 a 0 e.length),(6,Av (e.length:Int)),(7,.clo 163 [.fptr (.sl (b.map Pm)) 0])]) (O:=λg=>[(2003,dW a 1 3 (e.map Le))]) () ((PA (λg=>bif aA 4096 g then g+20000 else g+1000) (by rfl) (hX)))<|?_
  rintro⟨⟩ nn
  try dsimp only
  refine ZP (ES:=λ(_s:(List Int)) (_g:Unit)=>[(8,.tup [])]) (OS:=λs _=>[(1003,dW a 1 3 (s.map Le))]) (j:=λs=>Aeu e s) (ds:=[.osl 2003 a 0 e.length,Av (e.length:Int),.clo 163 [.fptr (.sl (b.map Pm)) 0]]) (caps:=[]) (E:=[(0,.osl 2003 a 0 e.length),(1,Av (e.length:Int)),(2,.clo 163 [.fptr (.sl (b.map Pm)) 0])]) rfl rfl rfl rfl rfl (show _=some Yg from by kernel_rfl) rfl rfl ?_ ?_
  ·refine Va (c:=AtK)<|?_;refine A 12 ?_;refine bC (E:=λ(s:(List Int)×Int) (_g:Unit)=>[(0,.osl 2003 a 0 s.1.length),(1,Av (e.length:Int)),(2,.clo 163 [.fptr (.sl (b.map Pm)) 0]),(6,Av 20),(7,Av s.2)]) (O:=λs _=>[(2003,dW a 1 3 (s.1.map Le))]) (j:=λs=>Aam e b s.1 s.2) ?_ ?_
   ·refine lP (E:=λ(s:(List Int)×Int×Int) (_g:Unit)=>[(0,.osl 2003 a 0 s.1.length),(1,Av (e.length:Int)),(2,.clo 163 [.fptr (.sl (b.map Pm)) 0]),(6,Av 20),(7,Av s.2.1),(8,Av s.2.2)]) (O:=λs _=>[(2003,dW a 1 3 (s.1.map Le))]) (body:=λs=>Adr e b s.1 s.2.1 s.2.2) (s:=(e,0,20)) () ((hX))<|?_
    rintro⟨h,i,f⟩ ⟨⟩ nn
    try dsimp only
    unfold Adr;refine A 8 ?_;refine cD r ?_ ?_
    ·refine A 9 ?_;refine RV (E:=λ(g:Unit)=>[(0,.osl 3003 a 0 h.length),(1,Av (e.length:Int)),(2,.clo 163 [.fptr (.sl (b.map Pm)) 0]),(6,Av 20),(8,Av f),(14,.osl 3003 a 0 h.length),(15,Av i),(16,Av f),(17,.clo 163 [.fptr (.sl (b.map Pm)) 0])]) (O:=λg=>[(3003,dW a 1 3 (h.map Le))]) () ((PA (λg=>bif aA 4096 g then g+20000 else g+1000) (by rfl) (hX)))<|?_
     rintro⟨⟩ nn
     try dsimp only
     refine Alh (ES:=λ(_s:(List Int)) (_g:Unit)=>[(0,.osl 2003 a 0 h.length),(1,Av (e.length:Int)),(2,.clo 163 [.fptr (.sl (b.map Pm)) 0]),(6,Av 20),(8,Av f),(18,.tup [])]) (OS:=λs _=>[(2003,dW a 1 3 (s.map Le))]) (j:=λs=>Adu h f s) (ds:=[.osl 3003 a 0 h.length,Av i,Av f,.clo 163 [.fptr (.sl (b.map Pm)) 0]]) (caps:=[]) (E:=[(0,.osl 3003 a 0 h.length),(1,Av i),(2,Av f),(3,.clo 163 [.fptr (.sl (b.map Pm)) 0])]) rfl rfl rfl rfl rfl (show _=some Vf from by kernel_rfl) rfl rfl ?_ ?_
     ·refine Va (c:=AqQ)<|?_;refine A 8 ?_;refine lP (E:=λ(s:(List Int)×Int) (_g:Unit)=>[(0,.osl 3003 a 0 s.1.length),(1,Av i),(2,Av f),(3,.clo 163 [.fptr (.sl (b.map Pm)) 0]),(8,Av s.2)]) (O:=λs _=>[(3003,dW a 1 3 (s.1.map Le))]) (body:=λs=>Ads f i b h s.1 s.2) (s:=(h,i64.wrap (i+1))) () ((hX))<|?_
      rintro⟨ab,p⟩ ⟨⟩ nn
      try dsimp only
      unfold Ads;refine A 8 ?_;refine cD r ?_ ?_
      ·refine A 2 ?_;refine bC (E:=λ(s:(List Int)) (_g:Unit)=>[(0,.osl 3003 a 0 s.length),(1,Av i),(2,Av f),(3,.clo 163 [.fptr (.sl (b.map Pm)) 0]),(8,Av p)]) (O:=λs _=>[(3003,dW a 1 3 (s.map Le))]) (j:=λs=>Zj p s) ?_ ?_
       ·refine A 7 ?_;refine lP (E:=λ(s:(List Int)×Int) (_g:Unit)=>[(0,.osl 3003 a 0 s.1.length),(1,Av i),(2,Av f),(3,.clo 163 [.fptr (.sl (b.map Pm)) 0]),(8,Av p),(9,Av s.2)]) (O:=λs _=>[(3003,dW a 1 3 (s.1.map Le))]) (body:=λs=>Adt i b p s.1 s.2) (s:=(ab,p)) () ((hX))<|?_
        rintro⟨t,u⟩ ⟨⟩ nn
        try dsimp only
        unfold Adt;refine sC (E:=λ(s:Int×Int×Int×Bool) (_g:Unit)=>[(0,.osl 3003 a 0 t.length),(1,Av i),(2,Av f),(3,.clo 163 [.fptr (.sl (b.map Pm)) 0]),(8,Av p),(9,Av u),(22,.clo 163 [.fptr (.sl (b.map Pm)) 0]),(23,.osl 3003 a 0 t.length),(24,Av u),(25,.optr 3003 a u.toNat 0),(26,Av s.1),(27,.osl 3003 a 0 t.length),(28,Av u),(29,Av (i64.wrap (u-1))),(30,.optr 3003 a ((i64.wrap (u-1)).toNat) 0),(31,Av s.2.1),(32,Av s.2.2.1),(33,.bool s.2.2.2)]) (O:=λ_ _=>[(3003,dW a 1 3 (t.map Le))]) (j:=λs=>Adv u t s.1 s.2.1 s.2.2.1 s.2.2.2) ?_ ?_
        ·refine A 6 ?_;refine Pj r ?_ ?_
         ·refine A 4 ?_;refine bD λah ar=>?_
          refine A 5 ?_;refine bD λai au=>?_
          refine A 1 ?_;refine bD λaf av=>?_
          refine A 5 ?_;refine cD r ?_ ?_
          ·refine A 1 ?_;exact xC (s:=(ah,ai,af,(decide (af<0)))) () ((hX))
          ·refine A 4 ?_;exact PS (s:=t) () ((hX))
         ·refine A 20 ?_;exact PS (s:=t) () ((hX))
        ·rintro⟨aw,ax,ay,az⟩ ⟨⟩ nn
         try dsimp only
         unfold Adv;exact B
       ·rintro aj ⟨⟩ nn
        try dsimp only
        unfold Zj;refine A 5 ?_;exact xL (s:=(aj,i64.wrap (p+1))) () ((hX))
      ·refine A 4 ?_;exact RS (d:=.tup []) (s:=ab) () r (by first|rfl|(simp[Pz,PC,rdA,raw,strip,PI,cells,PD];done)|(simp[Pz,PC,rdA,raw,strip,PI,S.ge,S.go,look,UR,cells,PD];done)) r ((Qt (E1:=[(0,.osl 3003 a 0 h.length),(1,Av (e.length:Int)),(2,.clo 163 [.fptr (.sl (b.map Pm)) 0]),(6,Av 20),(8,Av f),(18,.tup [])]) (O1:=[(3003,dW a 1 3 (ab.map Le))]) (hX) (λ_=>PA (λg=>bif aA 24096 g then g-20000 else bif (aA 1000 g&&aAA g 4096)then g-1000 else g) (by rfl) (hX))))
     ·rintro ac ⟨⟩ nn
      try dsimp only
      unfold Adu;refine AhN λz=>AhO (E:=λ(g:Unit)=>[(0,.osl 2003 a 0 ac.length),(1,Av (e.length:Int)),(2,.clo 163 [.fptr (.sl (b.map Pm)) 0]),(6,Av 20),(8,Av f),(18,.tup [])]) (O:=λg=>[(2003,dW a 1 3 (ac.map Le))]) () (hE ⟨(QV (q:=h.length) r z),r,r,r,r,r,trivial⟩ ⟨rfl,trivial⟩)<|?_
      rintro⟨⟩ nn
      try dsimp only
      refine A 15 ?_;exact xL (s:=(ac,f,i64.wrap (f+20))) () ((hX))
    ·refine A 3 ?_;exact Tc (s:=(h,i)) () ((hX))
   ·rintro⟨k,o⟩ ⟨⟩ nn
    try dsimp only
    unfold Aam;refine A 6 ?_;refine RV (E:=λ(g:Unit)=>[(0,.osl 3003 a 0 k.length),(1,Av (e.length:Int)),(2,.clo 163 [.fptr (.sl (b.map Pm)) 0]),(6,Av 20),(23,.osl 3003 a 0 k.length),(24,Av o),(25,Av (e.length:Int)),(26,.clo 163 [.fptr (.sl (b.map Pm)) 0])]) (O:=λg=>[(3003,dW a 1 3 (k.map Le))]) () ((PA (λg=>bif aA 4096 g then g+20000 else g+1000) (by rfl) (hX)))<|?_
    rintro⟨⟩ nn
    try dsimp only
    refine Alh (ES:=λ(_s:(List Int)) (_g:Unit)=>[(0,.osl 2003 a 0 k.length),(1,Av (e.length:Int)),(2,.clo 163 [.fptr (.sl (b.map Pm)) 0]),(6,Av 20),(27,.tup [])]) (OS:=λs _=>[(2003,dW a 1 3 (s.map Le))]) (j:=λs=>Aev k e s) (ds:=[.osl 3003 a 0 k.length,Av o,Av (e.length:Int),.clo 163 [.fptr (.sl (b.map Pm)) 0]]) (caps:=[]) (E:=[(0,.osl 3003 a 0 k.length),(1,Av o),(2,Av (e.length:Int)),(3,.clo 163 [.fptr (.sl (b.map Pm)) 0])]) rfl rfl rfl rfl rfl (show _=some Vf from by kernel_rfl) rfl rfl ?_ ?_
    ·refine Va (c:=AqQ)<|?_;refine A 8 ?_;refine lP (E:=λ(s:(List Int)×Int) (_g:Unit)=>[(0,.osl 3003 a 0 s.1.length),(1,Av o),(2,Av (e.length:Int)),(3,.clo 163 [.fptr (.sl (b.map Pm)) 0]),(8,Av s.2)]) (O:=λs _=>[(3003,dW a 1 3 (s.1.map Le))]) (body:=λs=>Aal e o b k s.1 s.2) (s:=(k,i64.wrap (o+1))) () ((hX))<|?_
     rintro⟨x9,v⟩ ⟨⟩ nn
     try dsimp only
     unfold Aal;refine A 8 ?_;refine cD r ?_ ?_
     ·refine A 2 ?_;refine bC (E:=λ(s:(List Int)) (_g:Unit)=>[(0,.osl 3003 a 0 s.length),(1,Av o),(2,Av (e.length:Int)),(3,.clo 163 [.fptr (.sl (b.map Pm)) 0]),(8,Av v)]) (O:=λs _=>[(3003,dW a 1 3 (s.map Le))]) (j:=λs=>UW v s) ?_ ?_
      ·refine A 7 ?_;refine lP (E:=λ(s:(List Int)×Int) (_g:Unit)=>[(0,.osl 3003 a 0 s.1.length),(1,Av o),(2,Av (e.length:Int)),(3,.clo 163 [.fptr (.sl (b.map Pm)) 0]),(8,Av v),(9,Av s.2)]) (O:=λs _=>[(3003,dW a 1 3 (s.1.map Le))]) (body:=λs=>Adq o b v s.1 s.2) (s:=(x9,v)) () ((hX))<|?_
       rintro⟨w,x⟩ ⟨⟩ nn
       try dsimp only
       unfold Adq;refine sC (E:=λ(s:Int×Int×Int×Bool) (_g:Unit)=>[(0,.osl 3003 a 0 w.length),(1,Av o),(2,Av (e.length:Int)),(3,.clo 163 [.fptr (.sl (b.map Pm)) 0]),(8,Av v),(9,Av x),(22,.clo 163 [.fptr (.sl (b.map Pm)) 0]),(23,.osl 3003 a 0 w.length),(24,Av x),(25,.optr 3003 a x.toNat 0),(26,Av s.1),(27,.osl 3003 a 0 w.length),(28,Av x),(29,Av (i64.wrap (x-1))),(30,.optr 3003 a ((i64.wrap (x-1)).toNat) 0),(31,Av s.2.1),(32,Av s.2.2.1),(33,.bool s.2.2.2)]) (O:=λ_ _=>[(3003,dW a 1 3 (w.map Le))]) (j:=λs=>Zi x w s.1 s.2.1 s.2.2.1 s.2.2.2) ?_ ?_
       ·refine A 6 ?_;refine Pj r ?_ ?_
        ·refine A 4 ?_;refine bD λak ba=>?_
         refine A 5 ?_;refine bD λao bb=>?_
         refine A 1 ?_;refine bD λag bc=>?_
         refine A 5 ?_;refine cD r ?_ ?_
         ·refine A 1 ?_;exact xC (s:=(ak,ao,ag,(decide (ag<0)))) () ((hX))
         ·refine A 4 ?_;exact PS (s:=w) () ((hX))
        ·refine A 20 ?_;exact PS (s:=w) () ((hX))
       ·rintro⟨bd,bf,bg,bh⟩ ⟨⟩ nn
        try dsimp only
        unfold Zi;exact B
      ·rintro ap ⟨⟩ nn
       try dsimp only
       unfold UW;refine A 5 ?_;exact xL (s:=(ap,i64.wrap (v+1))) () ((hX))
     ·refine A 4 ?_;exact RS (d:=.tup []) (s:=x9) () r (by first|rfl|(simp[Pz,PC,rdA,raw,strip,PI,cells,PD];done)|(simp[Pz,PC,rdA,raw,strip,PI,S.ge,S.go,look,UR,cells,PD];done)) r ((Qt (E1:=[(0,.osl 3003 a 0 k.length),(1,Av (e.length:Int)),(2,.clo 163 [.fptr (.sl (b.map Pm)) 0]),(6,Av 20),(27,.tup [])]) (O1:=[(3003,dW a 1 3 (x9.map Le))]) (hX) (λ_=>PA (λg=>bif aA 24096 g then g-20000 else bif (aA 1000 g&&aAA g 4096)then g-1000 else g) (by rfl) (hX))))
    ·rintro m ⟨⟩ nn
     try dsimp only
     unfold Aev;refine AhN λz=>AhO (E:=λ(g:Unit)=>[(0,.osl 2003 a 0 m.length),(1,Av (e.length:Int)),(2,.clo 163 [.fptr (.sl (b.map Pm)) 0]),(6,Av 20),(27,.tup [])]) (O:=λg=>[(2003,dW a 1 3 (m.map Le))]) () (hE ⟨(QV (q:=k.length) r z),r,r,r,r,trivial⟩ ⟨rfl,trivial⟩)<|?_
     rintro⟨⟩ nn
     try dsimp only
     refine A 3 ?_;refine lP (E:=λ(s:Int) (_g:Unit)=>[(0,.osl 2003 a 0 m.length),(1,Av (e.length:Int)),(2,.clo 163 [.fptr (.sl (b.map Pm)) 0]),(6,Av s)]) (O:=λ_ _=>[(2003,dW a 1 3 (m.map Le))]) (body:=λs=>Aes e m s) (s:=20) () ((hX))<|?_
     rintro y ⟨⟩ nn
     try dsimp only
     unfold Aes;refine A 8 ?_;refine cD r ?_ ?_
     ·refine A 11 ?_;refine bC (E:=λ(_s:Unit) (_g:Unit)=>[(0,.osl 2003 a 0 m.length),(1,Av (e.length:Int)),(2,.clo 163 [.fptr (.sl (b.map Pm)) 0]),(6,Av y),(7,Av 0)]) (O:=λ_ _=>[(2003,dW a 1 3 (m.map Le))]) (j:=λ_=>Aew y e) ?_ ?_
      ·refine lP (E:=λ(_s:Unit) (_g:Unit)=>[(0,.osl 2003 a 0 m.length),(1,Av (e.length:Int)),(2,.clo 163 [.fptr (.sl (b.map Pm)) 0]),(6,Av y),(7,Av 0),(8,Av (i64.wrap (2*y)))]) (O:=λ_ _=>[(2003,dW a 1 3 (m.map Le))]) (body:=λ_=>Aet y e) (s:=()) () ((hX))<|?_
       rintro⟨⟩ ⟨⟩ nn
       try dsimp only
       unfold Aet;refine A 8 ?_;refine cD r ?_ ?_
       ·refine A 12 ?_;exact Ali
       ·refine A 3 ?_;exact Tc (s:=()) () ((hX))
      ·rintro⟨⟩ ⟨⟩ nn
       try dsimp only
       unfold Aew;refine A 16 ?_;refine cD r ?_ ?_
       ·refine A 6 ?_;exact Ali
       ·refine A 8 ?_;exact xL (s:=i64.wrap (y*2)) () ((hX))
     ·refine A 4 ?_;exact RS (d:=.tup []) (s:=m) () r (by first|rfl|(simp[Pz,PC,rdA,raw,strip,PI,cells,PD];done)|(simp[Pz,PC,rdA,raw,strip,PI,S.ge,S.go,look,UR,cells,PD];done)) r ((Qt (E1:=[(8,.tup [])]) (O1:=[(2003,dW a 1 3 (m.map Le))]) (hX) (λ_=>PA (λg=>bif aA 24096 g then g-20000 else bif (aA 1000 g&&aAA g 4096)then g-1000 else g) (by rfl) (hX))))
  ·rintro x4 ⟨⟩ nn
   try dsimp only
   unfold Aeu;refine A 1 ?_;refine Asr (d:=.tup []) (E:=[(3,.osl 3 _ 0 e.length),(17,.tup [])]) (O:=[(3,dW _ 1 3 (x4.map Le))]) r (by first|rfl|(simp[Pz,PC,rdA,raw,strip,PI,cells,PD];done)|(simp[Pz,PC,rdA,raw,strip,PI,S.ge,S.go,look,UR,cells,PD];done)) r ((Qt (E1:=[(3,.osl 1003 a 0 e.length),(17,.tup [])]) (O1:=[(1003,dW a 1 3 (x4.map Le))]) (hX) (λ_=>PA (λg=>bif aA 24096 g then g-20000 else bif (aA 1000 g&&aAA g 4096)then g-1000 else g) (by rfl) (hX)))) λnn=>AhN λz=>AhO (E:=λ(g:Nat)=>[(3,.osl 3 g 0 x4.length),(17,.tup [])]) (O:=λg=>[(3,dW g 1 3 (x4.map Le))]) _ (hE ⟨(QV (q:=e.length) r z),r,trivial⟩ ⟨rfl,trivial⟩)<|?_
   rintro bi nn
   try dsimp only
   exact B

def Aad (a:(List Pa)×(List Int)×Int):List D:=[.sl (a.1.map Pm),.sl (a.2.1.map Le),Av a.2.2]
def Aac (ds:List D):(List Pa)×(List Int)×Int:=((uL Uy) (ds.getD 0 .top),(uL uI) (ds.getD 1 .top),uI (ds.getD 2 .top))
instance:Py Aad Aac:=⟨λa=>by simp[Aac,Aad,uI,Qb (u:=Uy) (en:=Pm) Aei,Qb (u:=uI) (en:=Le) (λ_=>rfl)]⟩
def Anl (b:OU):D:=Pv b
def Ahl:Dw.Spec:=OY [] .ground Aad Aac (λa=>Aan a.1 a.2.1 a.2.2) Anl noE
theorem Ame:OW Tryz.prog 123 Ahl:=by
 refine fn2 3 (Pp) Tryz.func123<|?_;intro a;unfold Aan;exact B

def YE:Dw.Spec:=OY [] .ground PU PT (λa=>SX a) Pe noE
theorem Aau:OW Tryz.prog 166 YE:=by
 refine fn2 1 (Pp) Tryz.func166<|?_;intro a;unfold SX;exact B

def VN (a:OU):List D:=[Pv a]
def VM (ds:List D):OU:=SQ (ds.getD 0 .top)
instance:Py VN VM:=⟨λa=>by simp[VM,VN]⟩
def Afz:Dw.Spec:=OY [] .ground VN VM (λa=>YF a) Pe noE
theorem AiW:OW Tryz.prog 169 Afz:=by
 refine fn2 1 (OZ (l:=[(166,YE)]) (by simp[Aau])) Tryz.func169<|?_
 intro a;unfold YF;exact B

def AjU:Dw.Spec:=OY [] .ground VN VM (λa=>Aez a) Pe noE
theorem AoR:OW Tryz.prog 168 AjU:=by
 refine fn2 1 (OZ (l:=[(169,Afz)]) (by simp[AiW])) Tryz.func168<|?_
 intro a;unfold Aez;exact B

def Qd (a:(List OU)):List D:=[.sl (a.map Pv),.clo 168 []]
def Qc (ds:List D):(List OU):=(uL SQ) (ds.getD 0 .top)
instance:Py Qd Qc:=⟨λa=>by simp[Qc,Qd,Qb (u:=SQ) (en:=Pv) AcK]⟩
def QH:Dw.Spec:=OY [] .ground Qd Qc (λa=>Qn a) Pb noE
theorem Vk:OW Tryz.prog 198 QH:=by
 refine fn2 2 (OZ (l:=[(168,AjU)]) (by simp[AoR])) Tryz.func198<|?_
 intro a;unfold Qn;refine A 14 ?_;refine lP (E:=λ(s:Int) (_g:Unit)=>[(0,.sl (a.map Pv)),(1,.clo 168 []),(7,Av (a.length:Int)),(8,Av s)]) (O:=λ_ _=>[]) (body:=λs=>QF a s) (s:=0) () ((hX))<|?_
 rintro b ⟨⟩ nn
 try dsimp only
 unfold QF;refine A 6 ?_;refine cD r ?_ ?_
 ·refine A 15 ?_;refine bD λc d=>?_
  refine A 2 ?_;refine bD λe f=>?_
  refine A 3 ?_;refine cD r ?_ ?_
  ·exact B
  ·refine A 7 ?_;exact xL (s:=i64.wrap (b+1)) () ((hX))
 ·exact B

def Qy:Dw.Spec:=OY [] .ground Qd Qc (λa=>PM a) Pe noE
theorem UQ:OW Tryz.prog 167 Qy:=by
 refine fn2 2 (OZ (l:=[(692422,QH)]) (by simp[Vk])) Tryz.func167<|?_
 intro a;unfold PM;refine A 9 ?_;refine bD λc b=>cG a rfl rfl (show _=some QH from by kernel_rfl) Py.ok rfl rfl (by simp) r b r<|?_
 exact B

def Acl (a:Int):List D:=[AkM a]
def Ack (ds:List D):Int:=uI (ds.getD 0 .top)
instance:Py Acl Ack:=⟨λa=>by simp[Ack,Acl,uI]⟩
def AeI:Dw.Spec:=OY [] .ground Acl Ack (λa=>AcV a) Pb noE
theorem Aol:OW Tryz.prog 200 AeI:=by
 refine fn2 1 (OZ (l:=[(222,Aoj)]) (by simp[AuL])) Tryz.func200<|?_
 intro a;unfold AcV;exact B

def VL (a:OU×OU):List D:=[Pv a.1,Pv a.2]
def VK (ds:List D):OU×OU:=(SQ (ds.getD 0 .top),SQ (ds.getD 1 .top))
instance:Py VL VK:=⟨λa=>by simp[VK,VL]⟩
def Afw:Dw.Spec:=OY [] .ground VL VK (λa=>AaQ a.1 a.2) Pb noE
theorem AoS:OW Tryz.prog 172 Afw:=by
 refine fn2 2 (OZ (l:=[(165,AbX)]) (by simp[Agz])) Tryz.func172<|?_
 intro a;unfold AaQ;exact B

def AjB:Dw.Spec:=OY [] .ground Sa RZ (λa=>AaT a.1 a.2) Pb noE
theorem Amq:OW Tryz.prog 173 AjB:=by
 refine fn2 2 (Pp) Tryz.func173<|?_;intro a;unfold AaT;exact B

def Alk:Dw.Spec:=OY [] .ground VL VK (λa=>Acw a.1 a.2) Pe noE
theorem Aps:OW Tryz.prog 174 Alk:=by
 refine fn2 2 (Pp) Tryz.func174<|?_;intro a;unfold Acw;exact B

def AtI:Qi:=(Tryz.f171.body.bind (PY Tryz.prog Tryz.f171.ntmps)).getD .skip
theorem AwT:(Tryz.f171.body.bind (PY Tryz.prog Tryz.f171.ntmps))=some AtI:=by kernel_rfl
theorem AwU:Tryz.f171.results.toList.mapM (Ug Tryz.prog)=some []:=by kernel_rfl

def AtL:Qi:=(Tryz.f199.body.bind (PY Tryz.prog Tryz.f199.ntmps)).getD .skip
theorem AwZ:(Tryz.f199.body.bind (PY Tryz.prog Tryz.f199.ntmps))=some AtL:=by kernel_rfl
theorem Axa:Tryz.f199.results.toList.mapM (Ug Tryz.prog)=some []:=by kernel_rfl

def AtM:Qi:=(Tryz.f213.body.bind (PY Tryz.prog Tryz.f213.ntmps)).getD .skip
theorem Axd:(Tryz.f213.body.bind (PY Tryz.prog Tryz.f213.ntmps))=some AtM:=by kernel_rfl
theorem Axe:Tryz.f213.results.toList.mapM (Ug Tryz.prog)=some []:=by kernel_rfl

def Abw (a:(List OU)×Int×Int×Int):List D:=[.sl (a.1.map Pv),Av a.2.1,Av a.2.2.1,Av a.2.2.2]
def Abv (ds:List D):(List OU)×Int×Int×Int:=((uL SQ) (ds.getD 0 .top),uI (ds.getD 1 .top),uI (ds.getD 2 .top),uI (ds.getD 3 .top))
instance:Py Abw Abv:=⟨λa=>by simp[Abv,Abw,uI,Qb (u:=SQ) (en:=Pv) AcK]⟩
def YB (b:Int×Int):D:=.tup [Av b.1,Av b.2]
def Amp:Dw.Spec:=OY [] .ground Abw Abv (λa=>Zl a.1 a.2.1 a.2.2.1 a.2.2.2) YB noE
def Aat:Dw.Spec:=VV (specs [(172,Afw)]) 4 [] AtM
theorem Aoc:OW Tryz.prog 213 Aat:=Sg (OZ (l:=[(172,Afw)]) (by simp[AoS])) Tryz.func213 (by decide) Axd Axe (by decide)
def Aas:Dw.Spec:=VV (specs [(708821,Aat)]) 5 [] AtL
theorem Aob:OW Tryz.prog 199 Aas:=Sg (OZ (l:=[(708821,Aat)]) (by simp[Aoc])) Tryz.func199 (by decide) AwZ Axa (by decide)
def AeA:Dw.Spec:=VV (specs [(200,AeI),(708807,Aas)]) 2 [] AtI
theorem Aoa:OW Tryz.prog 171 AeA:=Sg (OZ (l:=[(200,AeI),(708807,Aas)]) (by simp[Aol,Aob])) Tryz.func171 (by decide) AwT AwU (by decide)
theorem Aqt:OW Tryz.prog 124 Amp:=by
 refine fn2 4 (OZ (l:=[(166,YE),(158,Abx),(692391,Qy),(170,Arq),(708779,AeA),(173,AjB),(174,Alk)]) (by simp[Aau,AeB,UQ,Aut,Aoa,Amq,Aps])) Tryz.func124<|?_
 rintro⟨t,h,e,f⟩;unfold Zl;refine A 6 ?_;refine sC (E:=λ(_s:Unit) (_g:Unit)=>[(0,.sl (t.map Pv)),(1,Av h),(2,Av e),(3,Av f)]) (O:=λ_ _=>[]) (j:=λ_=>AcQ t h f e) ?_ ?_
 ·refine A 3 ?_;refine bD λak ao=>?_
  refine A 3 ?_;refine Pj r ?_ ?_
  ·exact B
  ·refine A 1 ?_;refine bD λap aq=>?_
   refine A 4 ?_;refine Pj r ?_ ?_
   ·exact B
   ·refine A 1 ?_;refine bD λar au=>?_
    refine A 4 ?_;refine Pj r ?_ ?_
    ·exact B
    ·refine A 1 ?_;refine bD λav z=>cG t rfl rfl (show _=some Qy from by kernel_rfl) Py.ok rfl rfl (by simp) r z r<|?_
     refine A 3 ?_;refine cD r ?_ ?_
     ·exact B
     ·refine A 1 ?_;exact xC (s:=()) () ((hX))
 ·rintro⟨⟩ ⟨⟩ nn
  try dsimp only
  unfold AcQ;refine A 3 ?_;refine bD λa aw=>?_
  refine A 7 ?_;refine RV (E:=λ(g:Nat)=>[(1,Av h),(2,Av e),(3,Av f),(10,.osl 1010 g 0 a.length),(33,.osl 1010 g 0 a.length)]) (O:=λg=>[(1010,dW g 2 121 (a.map Pv))]) _ ((PA (λg=>bif aA 4096 g then g+20000 else g+1000) (by rfl) (hX)))<|?_
  rintro b nn
  try dsimp only
  refine Agg (ds:=[.osl 1010 b 0 a.length,.clo 172 []]) (caps:=[]) (E:=[(0,.osl 1010 b 0 a.length),(1,.clo 172 [])]) rfl rfl rfl rfl rfl (show _=some AeA from by kernel_rfl) rfl rfl<|Va (c:=AtI)<|?_
  refine A 12 ?_;refine bD λp ax=>?_
  refine A 2 ?_;refine RV (E:=λ(g:Unit)=>[(7,.osl 2010 b 0 a.length),(8,Av (a.length:Int)),(11,Av p),(12,.clo 172 [])]) (O:=λg=>[(2010,dW b 2 121 (a.map Pv))]) () ((PA (λg=>bif aA 4096 g then g+20000 else g+1000) (by rfl) (hX)))<|?_
  rintro⟨⟩ nn
  try dsimp only
  refine ZP (ES:=λ(_s:(List OU)) (_g:Unit)=>[(13,.tup [])]) (OS:=λs _=>[(1010,dW b 2 121 (s.map Pv))]) (j:=λs=>AgY a h f e s) (ds:=[.osl 2010 b 0 a.length,Av 0,Av (a.length:Int),Av p,.clo 172 []]) (caps:=[]) (E:=[(0,.osl 2010 b 0 a.length),(1,Av 0),(2,Av (a.length:Int)),(3,Av p),(4,.clo 172 [])]) rfl rfl rfl rfl rfl (show _=some Aas from by kernel_rfl) rfl rfl ?_ ?_
  ·refine Va (c:=AtL)<|?_;refine A 11 ?_;refine lP (E:=λ(_s:Unit) (_g:Unit)=>[(0,.osl 2010 b 0 a.length),(1,Av 0),(2,Av (a.length:Int)),(3,Av p),(4,.clo 172 []),(10,.bool true),(11,.bool true)]) (O:=λ_ _=>[(2010,dW b 2 121 (a.map Pv))]) (body:=λ_=>AcP a h f e p) (s:=()) () ((hX))<|?_
   rintro⟨⟩ ⟨⟩ nn
   try dsimp only
   unfold AcP;refine A 16 ?_;refine cD r ?_ ?_
   ·refine A 6 ?_;refine RV (E:=λ(g:Unit)=>[(26,.osl 3010 b 0 a.length),(27,Av 0),(28,Av (a.length:Int)),(29,.clo 172 [])]) (O:=λg=>[(3010,dW b 2 121 (a.map Pv))]) () ((PA (λg=>bif aA 4096 g then g+20000 else g+1000) (by rfl) (hX)))<|?_
    rintro⟨⟩ nn
    try dsimp only
    refine ZP (ES:=λ(_s:(List OU)) (_g:Unit)=>[(30,.tup [])]) (OS:=λs _=>[(2010,dW b 2 121 (s.map Pv))]) (j:=λs=>AgZ a h f e s) (ds:=[.osl 3010 b 0 a.length,Av 0,Av (a.length:Int),.clo 172 []]) (caps:=[]) (E:=[(0,.osl 3010 b 0 a.length),(1,Av 0),(2,Av (a.length:Int)),(3,.clo 172 [])]) rfl rfl rfl rfl rfl (show _=some Aat from by kernel_rfl) rfl rfl ?_ ?_
    ·refine Va (c:=AtM)<|?_;refine A 8 ?_;refine lP (E:=λ(s:(List OU)×Int) (_g:Unit)=>[(0,.osl 3010 b 0 s.1.length),(1,Av 0),(2,Av (a.length:Int)),(3,.clo 172 []),(8,Av s.2)]) (O:=λs _=>[(3010,dW b 2 121 (s.1.map Pv))]) (body:=λs=>AgW a h f e s.1 s.2) (s:=(a,i64.wrap (0+1))) () ((hX))<|?_
     rintro⟨u,o⟩ ⟨⟩ nn
     try dsimp only
     unfold AgW;refine A 8 ?_;refine cD r ?_ ?_
     ·refine A 2 ?_;refine bC (E:=λ(s:(List OU)) (_g:Unit)=>[(0,.osl 3010 b 0 s.length),(1,Av 0),(2,Av (a.length:Int)),(3,.clo 172 []),(8,Av o)]) (O:=λs _=>[(3010,dW b 2 121 (s.map Pv))]) (j:=λs=>WK o s) ?_ ?_
      ·refine A 7 ?_;refine lP (E:=λ(s:(List OU)×Int) (_g:Unit)=>[(0,.osl 3010 b 0 s.1.length),(1,Av 0),(2,Av (a.length:Int)),(3,.clo 172 []),(8,Av o),(9,Av s.2)]) (O:=λs _=>[(3010,dW b 2 121 (s.1.map Pv))]) (body:=λs=>AgX o s.1 s.2) (s:=(u,o)) () ((hX))<|?_
       rintro⟨i,k⟩ ⟨⟩ nn
       try dsimp only
       unfold AgX;refine sC (E:=λ(s:OU×OU×Int×Bool) (_g:Unit)=>[(0,.osl 3010 b 0 i.length),(1,Av 0),(2,Av (a.length:Int)),(3,.clo 172 []),(8,Av o),(9,Av k),(22,.clo 172 []),(23,.osl 3010 b 0 i.length),(24,Av k),(25,.optr 3010 b k.toNat 0),(26,.agg [Av s.1.Off,Av s.1.Size]),(27,.osl 3010 b 0 i.length),(28,Av k),(29,Av (i64.wrap (k-1))),(30,.optr 3010 b ((i64.wrap (k-1)).toNat) 0),(31,.agg [Av s.2.1.Off,Av s.2.1.Size]),(32,Av s.2.2.1),(33,.bool s.2.2.2)]) (O:=λ_ _=>[(3010,dW b 2 121 (i.map Pv))]) (j:=λs=>AcR k i s.1 s.2.1 s.2.2.1 s.2.2.2) ?_ ?_
       ·refine A 6 ?_;refine Pj r ?_ ?_
        ·refine A 4 ?_;refine bD λaa ay=>?_
         refine A 5 ?_;refine bD λab az=>?_
         refine A 1 ?_;refine bD λv ba=>?_
         refine A 5 ?_;refine cD r ?_ ?_
         ·refine A 1 ?_;exact xC (s:=(aa,ab,v,(decide (v<0)))) () ((hX))
         ·refine A 4 ?_;exact PS (s:=i) () ((hX))
        ·refine A 20 ?_;exact PS (s:=i) () ((hX))
       ·rintro⟨bb,bc,bd,bf⟩ ⟨⟩ nn
        try dsimp only
        unfold AcR;refine A 12 ?_;refine bD λw bg=>?_
        refine A 4 ?_;refine bD λac bh=>?_
        refine A 2 ?_;refine bD λbi ad=>sE (l:=i) (en:=Pv) (q':=w) r r r r r r r (by simp) ad r r r r r<|?_
        refine A 1 ?_;refine bD λbj ae=>sE (l:=i.set k.toNat w) (en:=Pv) (q':=ac) r r r r r r r (by simp) ae r r r r r<|?_
        exact B
      ·rintro af ⟨⟩ nn
       try dsimp only
       unfold WK;refine A 5 ?_;exact xL (s:=(af,i64.wrap (o+1))) () ((hX))
     ·refine A 4 ?_;exact RS (d:=.tup []) (s:=u) () r (by first|rfl|(simp[Pz,PC,rdA,raw,strip,PI,cells,PD];done)|(simp[Pz,PC,rdA,raw,strip,PI,S.ge,S.go,look,UR,cells,PD];done)) r ((Qt (E1:=[(30,.tup [])]) (O1:=[(3010,dW b 2 121 (u.map Pv))]) (hX) (λ_=>PA (λg=>bif aA 24096 g then g-20000 else bif (aA 1000 g&&aAA g 4096)then g-1000 else g) (by rfl) (hX))))
    ·rintro x ⟨⟩ nn
     try dsimp only
     unfold AgZ;refine A 7 ?_;exact RS (d:=.tup []) (s:=x) () r (by first|rfl|(simp[Pz,PC,rdA,raw,strip,PI,cells,PD];done)|(simp[Pz,PC,rdA,raw,strip,PI,S.ge,S.go,look,UR,cells,PD];done)) r ((Qt (E1:=[(13,.tup [])]) (O1:=[(2010,dW b 2 121 (x.map Pv))]) (hX) (λ_=>PA (λg=>bif aA 24096 g then g-20000 else bif (aA 1000 g&&aAA g 4096)then g-1000 else g) (by rfl) (hX))))
   ·refine A 9 ?_;refine cD r ?_ ?_
    ·refine A 6 ?_;exact Ali
    ·refine A 2 ?_;refine sC (E:=λ(_s:Unit) (_g:Unit)=>[(0,.osl 2010 b 0 a.length),(1,Av 0),(2,Av (a.length:Int)),(3,Av p),(4,.clo 172 []),(10,.bool true),(11,.bool true),(12,Av (i64.wrap ((a.length:Int)-0)))]) (O:=λ_ _=>[(2010,dW b 2 121 (a.map Pv))]) (j:=λ_=>Afx) ?_ ?_
     ·refine A 8 ?_;exact xC (s:=()) () ((hX))
     ·rintro⟨⟩ ⟨⟩ nn
      try dsimp only
      unfold Afx;refine A 6 ?_;exact Ali
  ·rintro m ⟨⟩ nn
   try dsimp only
   unfold AgY;refine A 1 ?_;refine Asr (d:=.tup []) (E:=[(1,Av h),(2,Av e),(3,Av f),(10,.osl 10 _ 0 a.length),(34,.tup [])]) (O:=[(10,dW _ 2 121 (m.map Pv))]) r (by first|rfl|(simp[Pz,PC,rdA,raw,strip,PI,cells,PD];done)|(simp[Pz,PC,rdA,raw,strip,PI,S.ge,S.go,look,UR,cells,PD];done)) r ((Qt (E1:=[(1,Av h),(2,Av e),(3,Av f),(10,.osl 1010 b 0 a.length),(34,.tup [])]) (O1:=[(1010,dW b 2 121 (m.map Pv))]) (hX) (λ_=>PA (λg=>bif aA 24096 g then g-20000 else bif (aA 1000 g&&aAA g 4096)then g-1000 else g) (by rfl) (hX)))) λnn=>AhN λag=>AhO (E:=λ(g:Nat)=>[(1,Av h),(2,Av e),(3,Av f),(10,.osl 10 g 0 m.length),(34,.tup [])]) (O:=λg=>[(10,dW g 2 121 (m.map Pv))]) _ (hE ⟨rfl,r,r,(QV (q:=a.length) r ag),r,trivial⟩ ⟨rfl,trivial⟩)<|?_
   rintro bk nn
   try dsimp only
   refine A 6 ?_;refine bD λr8 bl=>?_
   refine A 13 ?_;refine lP (E:=λ(s:Int×Int) (g:Nat)=>[(2,Av e),(3,Av f),(11,Av s.1),(38,.osl 10 g 0 m.length),(39,Av (m.length:Int)),(40,Av s.2)]) (O:=λ_ g=>[(10,dW g 2 121 (m.map Pv))]) (body:=λs=>AcO m e f s.1 s.2) (s:=(r8,0)) _ ((hX))<|?_
   rintro⟨ai,y⟩ bm nn
   try dsimp only
   unfold AcO;refine A 6 ?_;refine cD r ?_ ?_
   ·refine A 7 ?_;refine bD λbn bo=>?_
    refine A 11 ?_;refine bD λbp bq=>?_
    refine A 3 ?_;refine cD r ?_ ?_
    ·refine A 7 ?_;refine bD λaj br=>?_
     refine A 9 ?_;exact xL (s:=(aj,i64.wrap (y+1))) _ ((hX))
    ·refine A 7 ?_;exact xL (s:=(ai,i64.wrap (y+1))) _ ((hX))
   ·exact B

end
end Go.Proofs.YtilmapojncgflaaGreatDoor
