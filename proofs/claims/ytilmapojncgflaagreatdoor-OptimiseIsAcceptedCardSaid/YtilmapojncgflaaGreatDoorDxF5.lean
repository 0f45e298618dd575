/-
  Programs on typed data, and the proofs that the code does what they say; written by a program (dx.py).
-/
import Derived.Test.YtilmapojncgflaaGreatDoorProg
import Derived.Test.YtilmapojncgflaaGreatDoorDd
import Derived.KernelRfl
import Derived.Test.YtilmapojncgflaaGreatDoorSh
import Derived.Test.YtilmapojncgflaaGreatDoorCl
import Derived.Test.YtilmapojncgflaaGreatDoorDxP
import Derived.Test.YtilmapojncgflaaGreatDoorDxF1
import Derived.Test.YtilmapojncgflaaGreatDoorDxF2
import Derived.Test.YtilmapojncgflaaGreatDoorDxF4
open Nat renaming ble->aA,blt->aAA
namespace Go.Proofs.YtilmapojncgflaaGreatDoor
open Go Go.Dw Go.Proofs
open Go.IntKind (i64 u64)
set_option maxRecDepth 100000
set_option maxHeartbeats 40000000
open Go.Dw renaming Rl -> bD,AdA -> bS,Aai -> cG,Uz -> sE,AbB -> cD,AdW -> xC,Zg -> xL,AaD -> hE,AdX -> lP,Zh -> sC,AbC -> bC,Akj -> mF,rf -> r
noncomputable section
def Qr (a:(List Pb)):List D:=[.sl (a.map Ps),.clo 156 []]
def Qq (ds:List D):(List Pb):=(uL Vs) (ds.getD 0 .top)
instance:PA Qr Qq:=⟨λa=>by simp[Qq,Qr,Qh (u:=Vs) (en:=Ps) AdZ]⟩
def Rk:Dw.Spec:=Pd [] .ground Qr Qq (λa=>Rv a) Pc noE
theorem Xq:Pa Tryz.prog 192 Rk:=by
 refine fn2 2 (Pe (l:=[(156,Aid)]) (by simp[Ant])) Tryz.func192<|?_
 intro a;unfold Rv;refine A 14 ?_;refine lP (E:=λ(s:Int) (_g:Unit)=>[(0,.sl (a.map Ps)),(1,.clo 156 []),(7,Av (a.length:Int)),(8,Av s)]) (O:=λ_ _=>[]) (body:=λs=>Qs a s) (s:=0) () ((hX))<|?_
 rintro b ⟨⟩ nn
 try dsimp only
 unfold Qs;refine A 6 ?_;refine cD r ?_ ?_
 ·refine A 15 ?_;refine bD λc d=>?_
  refine A 2 ?_;refine bD λe f=>?_
  refine A 3 ?_;refine cD r ?_ ?_
  ·exact B
  ·refine A 7 ?_;exact xL (s:=i64.wrap (b+1)) () ((hX))
 ·exact B

def QU:Dw.Spec:=Pd [] .ground Qr Qq (λa=>Rh a) Pm noE
theorem VT:Pa Tryz.prog 155 QU:=by
 refine fn2 2 (Pe (l:=[(643264,Rk)]) (by simp[Xq])) Tryz.func155<|?_
 intro a;unfold Rh;refine A 9 ?_;refine bD λc b=>cG a rfl rfl (show _=some Rk from by kernel_rfl) PA.ok rfl rfl (by simp) r b r<|?_
 exact B

def Tg (a:(List Pb)):List D:=[.sl (a.map Ps)]
def Tf (ds:List D):(List Pb):=(uL Vs) (ds.getD 0 .top)
instance:PA Tg Tf:=⟨λa=>by simp[Tf,Tg,Qh (u:=Vs) (en:=Ps) AdZ]⟩
def Aft:Dw.Spec:=Pd [] .ground Tg Tf (λa=>Yp a) Pc noE
theorem AiI:Pa Tryz.prog 120 Aft:=by
 refine fn2 1 (Pe (l:=[(643227,QU)]) (by simp[VT])) Tryz.func120<|?_
 intro a;unfold Yp;refine A 13 ?_;refine cD r ?_ ?_
 ·exact B
 ·refine A 6 ?_;refine bD λc b=>cG a rfl rfl (show _=some QU from by kernel_rfl) PA.ok rfl rfl (by simp) r b r<|?_
  exact B

def Aag:Dw.Spec:=Pd [] .ground Qw Qv (λa=>RG a.1 a.2) Pm noE
theorem Ahf:Pa Tryz.prog 160 Aag:=by
 refine fn2 2 (Pe (l:=[(116,XI)]) (by simp[AbF])) Tryz.func160<|?_
 intro a;unfold RG;exact B

def Aeh:Dw.Spec:=Pd [] .ground PU PT (λa=>TN a) Pm noE
theorem AhT:Pa Tryz.prog 197 Aeh:=by
 refine fn2 1 (Py) Tryz.func197<|?_;intro a;unfold TN;exact B

def Sb (a:Int×Int):List D:=[Av a.1,Av a.2]
def Sa (ds:List D):Int×Int:=(uI (ds.getD 0 .top),uI (ds.getD 1 .top))
instance:PA Sb Sa:=⟨λa=>by simp[Sa,Sb,uI]⟩
def AjE:Dw.Spec:=Pd [] .ground Sb Sa (λa=>Aan a.1 a.2) Pm noE
theorem Aoz:Pa Tryz.prog 194 AjE:=by
 refine fn2 2 (Pe (l:=[(197,Aeh)]) (by simp[AhT])) Tryz.func194<|?_
 intro a;unfold Aan;exact B

def AgL:Dw.Spec:=Pd [] .ground PU PT (λa=>VU a) Pm noE
theorem AlJ:Pa Tryz.prog 195 AgL:=by
 refine fn2 1 (Py) Tryz.func195<|?_;intro a;unfold VU;exact B

def XL:Dw.Spec:=Pd [] .ground Qw Qv (λa=>RE a.1 a.2) VH noE
theorem AeR:Pa Tryz.prog 161 XL:=by
 refine fn2 2 (Pe (l:=[(194,AjE),(195,AgL)]) (by simp[Aoz,AlJ])) Tryz.func161<|?_
 rintro⟨a,b⟩;unfold RE;refine A 20 ?_;refine bC (E:=λ(s:Int) (_g:Unit)=>[(0,.sl (a.map Lo)),(1,Av b),(6,Av (a.length:Int)),(7,Av s)]) (O:=λ_ _=>[]) (j:=λs=>QC a b s) ?_ ?_
 ·refine lP (E:=λ(s:Int×Int) (_g:Unit)=>[(0,.sl (a.map Lo)),(1,Av b),(6,Av (a.length:Int)),(7,Av s.1),(8,Av s.2)]) (O:=λ_ _=>[]) (body:=λs=>PO a b s.1 s.2) (s:=(0,(a.length:Int))) () ((hX))<|?_
  rintro⟨c,d⟩ ⟨⟩ nn
  try dsimp only
  unfold PO;refine A 8 ?_;refine cD r ?_ ?_
  ·refine A 18 ?_;refine bD λe f=>?_
   refine A 3 ?_;refine bD λg h=>?_
   refine A 3 ?_;refine cD r ?_ ?_
   ·refine A 6 ?_;exact xL (s:=(i64.wrap ((i64.wrap ((u64.wrap (i64.wrap (c+d))).fdiv (2 ^ (Nat.min (1:Int).toNat u64.bits))))+1),d)) () ((hX))
   ·refine A 5 ?_;exact xL (s:=(c,i64.wrap ((u64.wrap (i64.wrap (c+d))).fdiv (2 ^ (Nat.min (1:Int).toNat u64.bits))))) () ((hX))
  ·refine A 3 ?_;exact AcW (s:=c) () ((hX))
 ·rintro i ⟨⟩ nn
  try dsimp only
  unfold QC;exact B

def ZQ (a:(List (List Int))×Int):List D:=[.sl (a.1.map (eL Lo)),Av a.2]
def ZP (ds:List D):(List (List Int))×Int:=((uL (uL uI)) (ds.getD 0 .top),uI (ds.getD 1 .top))
instance:PA ZQ ZP:=⟨λa=>by simp[ZP,ZQ,uI,Qh (u:=(uL uI)) (en:=(eL Lo)) (Qh (u:=uI) (en:=Lo) (λ_=>rfl))]⟩
def Aho:Dw.Spec:=Pd [] .ground ZQ ZP (λa=>WZ a.1 a.2) Pm noE
theorem Aml:Pa Tryz.prog 121 Aho:=by
 refine fn2 2 (Pe (l:=[(159,Afk),(160,Aag),(161,XL)]) (by simp[AiB,Ahf,AeR])) Tryz.func121<|?_
 rintro⟨a,d⟩;unfold WZ;refine A 14 ?_;refine cD r ?_ ?_
 ·exact B
 ·refine A 11 ?_;refine lP (E:=λ(s:Int) (_g:Unit)=>[(0,.sl (a.map (eL Lo))),(1,Av d),(17,.sl (a.map (eL Lo))),(18,Av (a.length:Int)),(19,Av s)]) (O:=λ_ _=>[]) (body:=λs=>PY a d s) (s:=0) () ((hX))<|?_
  rintro e ⟨⟩ nn
  try dsimp only
  unfold PY;refine A 6 ?_;refine cD r ?_ ?_
  ·refine A 7 ?_;refine bD λg h=>?_
   refine A 9 ?_;refine bD λi j=>?_
   refine A 3 ?_;refine Px r ?_ ?_
   ·exact B
   ·refine A 4 ?_;refine Px r ?_ ?_
    ·refine A 4 ?_;refine bD λk m=>?_
     refine A 7 ?_;refine Px r ?_ ?_
     ·exact B
     ·refine A 2 ?_;refine bD λo p=>?_
      refine A 4 ?_;refine cD r ?_ ?_
      ·exact B
      ·refine A 7 ?_;exact xL (s:=i64.wrap (e+1)) () ((hX))
    ·refine A 13 ?_;refine bD λq t=>?_
     refine A 4 ?_;refine cD r ?_ ?_
     ·exact B
     ·refine A 7 ?_;exact xL (s:=i64.wrap (e+1)) () ((hX))
  ·refine A 14 ?_;refine lP (E:=λ(s:Int) (_g:Unit)=>[(0,.sl (a.map (eL Lo))),(48,.sl (a.map (eL Lo))),(49,Av (a.length:Int)),(50,Av s)]) (O:=λ_ _=>[]) (body:=λs=>RD a s) (s:=0) () ((hX))<|?_
   rintro b ⟨⟩ nn
   try dsimp only
   unfold RD;refine A 6 ?_;refine cD r ?_ ?_
   ·refine A 7 ?_;refine bD λc u=>?_
    refine A 14 ?_;refine lP (E:=λ(s:Int) (_g:Unit)=>[(0,.sl (a.map (eL Lo))),(7,Av b),(48,.sl (a.map (eL Lo))),(49,Av (a.length:Int)),(50,Av b),(55,.sl (c.map Lo)),(56,Av (c.length:Int)),(57,Av s)]) (O:=λ_ _=>[]) (body:=λs=>Sc c a b s) (s:=0) () ((hX))<|?_
    rintro f ⟨⟩ nn
    try dsimp only
    unfold Sc;refine A 6 ?_;refine cD r ?_ ?_
    ·refine A 6 ?_;refine bD λv w=>?_
     refine A 9 ?_;refine bD λx y=>?_
     refine A 3 ?_;refine bD λz aa=>?_
     refine A 14 ?_;refine cD r ?_ ?_
     ·exact B
     ·refine A 7 ?_;exact xL (s:=i64.wrap (f+1)) () ((hX))
    ·refine A 10 ?_;exact xL (s:=i64.wrap (b+1)) () ((hX))
   ·exact B

def AbI:Dw.Spec:=Pd [] .ground Sb Sa (λa=>TB a.1 a.2) Pc noE
theorem Agr:Pa Tryz.prog 165 AbI:=by
 refine fn2 2 (Pe (l:=[(197,Aeh)]) (by simp[AhT])) Tryz.func165<|?_
 intro a;unfold TB;exact B

def AlR:Dw.Spec:=Pd [] .ground SD SC (λa=>Aeg a) Pc noE
theorem Aqi:Pa Tryz.prog 164 AlR:=by
 refine fn2 1 (Py) Tryz.func164<|?_;intro a;unfold Aeg;refine A 19 ?_;refine lP (E:=λ(s:Int) (_g:Unit)=>[(3,Av 0),(6,.sl (a.map Lo)),(7,Av (a.length:Int)),(8,Av s)]) (O:=λ_ _=>[]) (body:=λs=>AgN a s) (s:=0) () ((hX))<|?_
 rintro b ⟨⟩ nn
 try dsimp only
 unfold AgN;refine A 6 ?_;refine cD r ?_ ?_
 ·refine A 6 ?_;refine bD λc d=>?_
  refine A 12 ?_;refine cD r ?_ ?_
  ·exact B
  ·refine A 7 ?_;exact xL (s:=i64.wrap (b+1)) () ((hX))
 ·exact B

def Yk (a:Int×Int×(List Pb)):List D:=[Av a.1,Av a.2.1,.fptr (.sl (a.2.2.map Ps)) 0]
def Yj (ds:List D):Int×Int×(List Pb):=(uI (ds.getD 0 .top),uI (ds.getD 1 .top),(uL Vs) (fpD (ds.getD 2 .top)))
instance:PA Yk Yj:=⟨λa=>by simp[Yj,Yk,uI,fpD,Qh (u:=Vs) (en:=Ps) AdZ]⟩
def ZH:Dw.Spec:=Pd [] .ground Yk Yj (λa=>TJ a.1 a.2.1 a.2.2) Pc noE
theorem AkD:Pa Tryz.prog 163 ZH:=by
 refine fn2 3 (Pe (l:=[(165,AbI),(164,AlR)]) (by simp[Agr,Aqi])) Tryz.func163<|?_
 rintro⟨c,d,e⟩;unfold TJ;refine A 9 ?_;refine bD λf g=>?_
 refine A 5 ?_;refine bD λh i=>?_
 refine A 3 ?_;refine bD λa j=>?_
 refine A 3 ?_;refine bD λk m=>?_
 refine A 5 ?_;refine bD λo p=>?_
 refine A 3 ?_;refine bD λb q=>?_
 refine A 1 ?_;refine bS ([a,b]:List Int) Lo r r r (by simp) r r r<|?_
 exact B

def AtK:Qe:=(Tryz.f162.body.bind (PX Tryz.prog Tryz.f162.ntmps)).getD .skip
theorem AwZ:(Tryz.f162.body.bind (PX Tryz.prog Tryz.f162.ntmps))=some AtK:=by kernel_rfl
theorem Axa:Tryz.f162.results.toList.mapM (Ue Tryz.prog)=some []:=by kernel_rfl

def AtN:Qe:=(Tryz.f196.body.bind (PX Tryz.prog Tryz.f196.ntmps)).getD .skip
theorem Axf:(Tryz.f196.body.bind (PX Tryz.prog Tryz.f196.ntmps))=some AtN:=by kernel_rfl
theorem Axg:Tryz.f196.results.toList.mapM (Ue Tryz.prog)=some []:=by kernel_rfl

def AqC:Qe:=(Tryz.f211.body.bind (PX Tryz.prog Tryz.f211.ntmps)).getD .skip
theorem Axj:(Tryz.f211.body.bind (PX Tryz.prog Tryz.f211.ntmps))=some AqC:=by kernel_rfl
theorem Axk:Tryz.f211.results.toList.mapM (Ue Tryz.prog)=some []:=by kernel_rfl

def AjF:Dw.Spec:=Pd [] (.row 1 3) Tg Tf (λa=>Aao a) PL noE
def Vd:Dw.Spec:=VR (specs [(163,ZH)]) 4 [] AqC
theorem AlV:Pa Tryz.prog 211 Vd:=Sf (Pe (l:=[(163,ZH)]) (by simp[AkD])) Tryz.func211 (by decide) Axj Axk (by decide)
def XP:Dw.Spec:=VR (specs [(671955,Vd)]) 3 [] AtN
theorem AlU:Pa Tryz.prog 196 XP:=Sf (Pe (l:=[(671955,Vd)]) (by simp[AlV])) Tryz.func196 (by decide) Axf Axg (by decide)
def AbL:Dw.Spec:=VR (specs [(671940,XP)]) 2 [] AtK
theorem AlT:Pa Tryz.prog 162 AbL:=Sf (Pe (l:=[(671940,XP)]) (by simp[AlU])) Tryz.func162 (by decide) AwZ Axa (by decide)
theorem AoB:Pa Tryz.prog 122 AjF:=by
 refine fn2 1 (Pe (l:=[(671906,AbL)]) (by simp[AlT])) Tryz.func122<|?_
 intro b;unfold Aao;refine A 5 ?_;refine Qx (E:=[(1,.fptr (.sl (b.map Ps)) 0)]) (O:=[]) ((hV 1 r (hY))) λnn=>?_
 refine A 14 ?_;refine lP (E:=λ(s:(List Int)×Int) (g:Nat)=>[(1,.fptr (.sl (b.map Ps)) 0),(3,.osl 3 g 0 s.1.length),(6,Av (b.length:Int)),(7,Av s.2)]) (O:=λs g=>[(3,dW g 1 3 (s.1.map Lo))]) (body:=λs=>Aej b s.1 s.2) (s:=(([]:List Int),0)) _ ((hX))<|?_
 rintro⟨e,x3⟩ aq nn
 try dsimp only
 unfold Aej;refine A 6 ?_;refine cD r ?_ ?_
 ·refine A 23 ?_;exact xL (s:=(e++([x3]:List Int),i64.wrap (x3+1))) _ ((hX))
 ·refine A 8 ?_;refine mF (caps:=[.fptr (.sl (b.map Ps)) 0]) r r (by simp[VC])<|RZ (E:=λ(g:Nat)=>[(3,.osl 1003 g 0 e.length),(15,.osl 1003 g 0 e.length),(16,.clo 163 [.fptr (.sl (b.map Ps)) 0])]) (O:=λg=>[(1003,dW g 1 3 (e.map Lo))]) _ ((PD (λg=>bif aA 4096 g then g+20000 else g+1000) (by rfl) (hX)))<|?_
  rintro a nn
  try dsimp only
  refine AfV (ds:=[.osl 1003 a 0 e.length,.clo 163 [.fptr (.sl (b.map Ps)) 0]]) (caps:=[]) (E:=[(0,.osl 1003 a 0 e.length),(1,.clo 163 [.fptr (.sl (b.map Ps)) 0])]) rfl rfl rfl rfl rfl (show _=some AbL from by kernel_rfl) rfl rfl<|UZ (c:=AtK)<|?_
  refine A 5 ?_;refine RZ (E:=λ(g:Unit)=>[(4,.osl 2003 a 0 e.length),(6,Av (e.length:Int)),(7,.clo 163 [.fptr (.sl (b.map Ps)) 0])]) (O:=λg=>[(2003,dW a 1 3 (e.map Lo))]) () ((PD (λg=>bif aA 4096 g then g+20000 else g+1000) (by rfl) (hX)))<|?_
  rintro⟨⟩ nn
  try dsimp only
  refine Zw (ES:=λ(_s:(List Int)) (_g:Unit)=>[(8,.tup [])]) (OS:=λs _=>[(1003,dW a 1 3 (s.map Lo))]) (j:=λs=>Aem e s) (ds:=[.osl 2003 a 0 e.length,Av (e.length:Int),.clo 163 [.fptr (.sl (b.map Ps)) 0]]) (caps:=[]) (E:=[(0,.osl 2003 a 0 e.length),(1,Av (e.length:Int)),(2,.clo 163 [.fptr (.sl (b.map Ps)) 0])]) rfl rfl rfl rfl rfl (show _=some XP from by kernel_rfl) rfl rfl ?_ ?_
  ·refine UZ (c:=AtN)<|?_;refine A 12 ?_;refine bC (E:=λ(s:(List Int)×Int) (_g:Unit)=>[(0,.osl 2003 a 0 s.1.length),(1,Av (e.length:Int)),(2,.clo 163 [.fptr (.sl (b.map Ps)) 0]),(6,Av 20),(7,Av s.2)]) (O:=λs _=>[(2003,dW a 1 3 (s.1.map Lo))]) (j:=λs=>ZT e b s.1 s.2) ?_ ?_
   ·refine lP (E:=λ(s:(List Int)×Int×Int) (_g:Unit)=>[(0,.osl 2003 a 0 s.1.length),(1,Av (e.length:Int)),(2,.clo 163 [.fptr (.sl (b.map Ps)) 0]),(6,Av 20),(7,Av s.2.1),(8,Av s.2.2)]) (O:=λs _=>[(2003,dW a 1 3 (s.1.map Lo))]) (body:=λs=>Adf e b s.1 s.2.1 s.2.2) (s:=(e,0,20)) () ((hX))<|?_
    rintro⟨h,i,f⟩ ⟨⟩ nn
    try dsimp only
    unfold Adf;refine A 8 ?_;refine cD r ?_ ?_
    ·refine A 9 ?_;refine RZ (E:=λ(g:Unit)=>[(0,.osl 3003 a 0 h.length),(1,Av (e.length:Int)),(2,.clo 163 [.fptr (.sl (b.map Ps)) 0]),(6,Av 20),(8,Av f),(14,.osl 3003 a 0 h.length),(15,Av i),(16,Av f),(17,.clo 163 [.fptr (.sl (b.map Ps)) 0])]) (O:=λg=>[(3003,dW a 1 3 (h.map Lo))]) () ((PD (λg=>bif aA 4096 g then g+20000 else g+1000) (by rfl) (hX)))<|?_
     rintro⟨⟩ nn
     try dsimp only
     refine Alb (ES:=λ(_s:(List Int)) (_g:Unit)=>[(0,.osl 2003 a 0 h.length),(1,Av (e.length:Int)),(2,.clo 163 [.fptr (.sl (b.map Ps)) 0]),(6,Av 20),(8,Av f),(18,.tup [])]) (OS:=λs _=>[(2003,dW a 1 3 (s.map Lo))]) (j:=λs=>Adi h f s) (ds:=[.osl 3003 a 0 h.length,Av i,Av f,.clo 163 [.fptr (.sl (b.map Ps)) 0]]) (caps:=[]) (E:=[(0,.osl 3003 a 0 h.length),(1,Av i),(2,Av f),(3,.clo 163 [.fptr (.sl (b.map Ps)) 0])]) rfl rfl rfl rfl rfl (show _=some Vd from by kernel_rfl) rfl rfl ?_ ?_
     ·refine UZ (c:=AqC)<|?_;refine A 8 ?_;refine lP (E:=λ(s:(List Int)×Int) (_g:Unit)=>[(0,.osl 3003 a 0 s.1.length),(1,Av i),(2,Av f),(3,.clo 163 [.fptr (.sl (b.map Ps)) 0]),(8,Av s.2)]) (O:=λs _=>[(3003,dW a 1 3 (s.1.map Lo))]) (body:=λs=>Adg f i b h s.1 s.2) (s:=(h,i64.wrap (i+1))) () ((hX))<|?_
      rintro⟨ab,p⟩ ⟨⟩ nn
      try dsimp only
      unfold Adg;refine A 8 ?_;refine cD r ?_ ?_
      ·refine A 2 ?_;refine bC (E:=λ(s:(List Int)) (_g:Unit)=>[(0,.osl 3003 a 0 s.length),(1,Av i),(2,Av f),(3,.clo 163 [.fptr (.sl (b.map Ps)) 0]),(8,Av p)]) (O:=λs _=>[(3003,dW a 1 3 (s.map Lo))]) (j:=λs=>YY p s) ?_ ?_
       ·refine A 7 ?_;refine lP (E:=λ(s:(List Int)×Int) (_g:Unit)=>[(0,.osl 3003 a 0 s.1.length),(1,Av i),(2,Av f),(3,.clo 163 [.fptr (.sl (b.map Ps)) 0]),(8,Av p),(9,Av s.2)]) (O:=λs _=>[(3003,dW a 1 3 (s.1.map Lo))]) (body:=λs=>Adh i b p s.1 s.2) (s:=(ab,p)) () ((hX))<|?_
        rintro⟨t,u⟩ ⟨⟩ nn
        try dsimp only
        unfold Adh;refine sC (E:=λ(s:Int×Int×Int×Bool) (_g:Unit)=>[(0,.osl 3003 a 0 t.length),(1,Av i),(2,Av f),(3,.clo 163 [.fptr (.sl (b.map Ps)) 0]),(8,Av p),(9,Av u),(22,.clo 163 [.fptr (.sl (b.map Ps)) 0]),(23,.osl 3003 a 0 t.length),(24,Av u),(25,.optr 3003 a u.toNat 0),(26,Av s.1),(27,.osl 3003 a 0 t.length),(28,Av u),(29,Av (i64.wrap (u-1))),(30,.optr 3003 a ((i64.wrap (u-1)).toNat) 0),(31,Av s.2.1),(32,Av s.2.2.1),(33,.bool s.2.2.2)]) (O:=λ_ _=>[(3003,dW a 1 3 (t.map Lo))]) (j:=λs=>Adj u t s.1 s.2.1 s.2.2.1 s.2.2.2) ?_ ?_
        ·refine A 6 ?_;refine Px r ?_ ?_
         ·refine A 4 ?_;refine bD λah ar=>?_
          refine A 5 ?_;refine bD λai au=>?_
          refine A 1 ?_;refine bD λaf av=>?_
          refine A 5 ?_;refine cD r ?_ ?_
          ·refine A 1 ?_;exact xC (s:=(ah,ai,af,(decide (af<0)))) () ((hX))
          ·refine A 4 ?_;exact Rz (s:=t) () ((hX))
         ·refine A 20 ?_;exact Rz (s:=t) () ((hX))
        ·rintro⟨aw,ax,ay,az⟩ ⟨⟩ nn
         try dsimp only
         unfold Adj;exact B
       ·rintro aj ⟨⟩ nn
        try dsimp only
        unfold YY;refine A 5 ?_;exact xL (s:=(aj,i64.wrap (p+1))) () ((hX))
      ·refine A 4 ?_;exact RW (d:=.tup []) (s:=ab) () r (by first|rfl|(simp[PC,PE,rdA,raw,strip,PJ,cells,PF];done)|(simp[PC,PE,rdA,raw,strip,PJ,S.ge,S.go,look,UO,cells,PF];done)) r ((Qp (E1:=[(0,.osl 3003 a 0 h.length),(1,Av (e.length:Int)),(2,.clo 163 [.fptr (.sl (b.map Ps)) 0]),(6,Av 20),(8,Av f),(18,.tup [])]) (O1:=[(3003,dW a 1 3 (ab.map Lo))]) (hX) (λ_=>PD (λg=>bif aA 24096 g then g-20000 else bif (aA 1000 g&&aAA g 4096)then g-1000 else g) (by rfl) (hX))))
     ·rintro ac ⟨⟩ nn
      try dsimp only
      unfold Adi;refine AhH λz=>AhI (E:=λ(g:Unit)=>[(0,.osl 2003 a 0 ac.length),(1,Av (e.length:Int)),(2,.clo 163 [.fptr (.sl (b.map Ps)) 0]),(6,Av 20),(8,Av f),(18,.tup [])]) (O:=λg=>[(2003,dW a 1 3 (ac.map Lo))]) () (hE ⟨(QT (q:=h.length) r z),r,r,r,r,r,trivial⟩ ⟨rfl,trivial⟩)<|?_
      rintro⟨⟩ nn
      try dsimp only
      refine A 15 ?_;exact xL (s:=(ac,f,i64.wrap (f+20))) () ((hX))
    ·refine A 3 ?_;exact AcW (s:=(h,i)) () ((hX))
   ·rintro⟨k,o⟩ ⟨⟩ nn
    try dsimp only
    unfold ZT;refine A 6 ?_;refine RZ (E:=λ(g:Unit)=>[(0,.osl 3003 a 0 k.length),(1,Av (e.length:Int)),(2,.clo 163 [.fptr (.sl (b.map Ps)) 0]),(6,Av 20),(23,.osl 3003 a 0 k.length),(24,Av o),(25,Av (e.length:Int)),(26,.clo 163 [.fptr (.sl (b.map Ps)) 0])]) (O:=λg=>[(3003,dW a 1 3 (k.map Lo))]) () ((PD (λg=>bif aA 4096 g then g+20000 else g+1000) (by rfl) (hX)))<|?_
    rintro⟨⟩ nn
    try dsimp only
    refine Alb (ES:=λ(_s:(List Int)) (_g:Unit)=>[(0,.osl 2003 a 0 k.length),(1,Av (e.length:Int)),(2,.clo 163 [.fptr (.sl (b.map Ps)) 0]),(6,Av 20),(27,.tup [])]) (OS:=λs _=>[(2003,dW a 1 3 (s.map Lo))]) (j:=λs=>Aen k e s) (ds:=[.osl 3003 a 0 k.length,Av o,Av (e.length:Int),.clo 163 [.fptr (.sl (b.map Ps)) 0]]) (caps:=[]) (E:=[(0,.osl 3003 a 0 k.length),(1,Av o),(2,Av (e.length:Int)),(3,.clo 163 [.fptr (.sl (b.map Ps)) 0])]) rfl rfl rfl rfl rfl (show _=some Vd from by kernel_rfl) rfl rfl ?_ ?_
    ·refine UZ (c:=AqC)<|?_;refine A 8 ?_;refine lP (E:=λ(s:(List Int)×Int) (_g:Unit)=>[(0,.osl 3003 a 0 s.1.length),(1,Av o),(2,Av (e.length:Int)),(3,.clo 163 [.fptr (.sl (b.map Ps)) 0]),(8,Av s.2)]) (O:=λs _=>[(3003,dW a 1 3 (s.1.map Lo))]) (body:=λs=>ZS e o b k s.1 s.2) (s:=(k,i64.wrap (o+1))) () ((hX))<|?_
     rintro⟨x9,v⟩ ⟨⟩ nn
     try dsimp only
     unfold ZS;refine A 8 ?_;refine cD r ?_ ?_
     ·refine A 2 ?_;refine bC (E:=λ(s:(List Int)) (_g:Unit)=>[(0,.osl 3003 a 0 s.length),(1,Av o),(2,Av (e.length:Int)),(3,.clo 163 [.fptr (.sl (b.map Ps)) 0]),(8,Av v)]) (O:=λs _=>[(3003,dW a 1 3 (s.map Lo))]) (j:=λs=>UT v s) ?_ ?_
      ·refine A 7 ?_;refine lP (E:=λ(s:(List Int)×Int) (_g:Unit)=>[(0,.osl 3003 a 0 s.1.length),(1,Av o),(2,Av (e.length:Int)),(3,.clo 163 [.fptr (.sl (b.map Ps)) 0]),(8,Av v),(9,Av s.2)]) (O:=λs _=>[(3003,dW a 1 3 (s.1.map Lo))]) (body:=λs=>Ade o b v s.1 s.2) (s:=(x9,v)) () ((hX))<|?_
       rintro⟨w,x⟩ ⟨⟩ nn
       try dsimp only
       unfold Ade;refine sC (E:=λ(s:Int×Int×Int×Bool) (_g:Unit)=>[(0,.osl 3003 a 0 w.length),(1,Av o),(2,Av (e.length:Int)),(3,.clo 163 [.fptr (.sl (b.map Ps)) 0]),(8,Av v),(9,Av x),(22,.clo 163 [.fptr (.sl (b.map Ps)) 0]),(23,.osl 3003 a 0 w.length),(24,Av x),(25,.optr 3003 a x.toNat 0),(26,Av s.1),(27,.osl 3003 a 0 w.length),(28,Av x),(29,Av (i64.wrap (x-1))),(30,.optr 3003 a ((i64.wrap (x-1)).toNat) 0),(31,Av s.2.1),(32,Av s.2.2.1),(33,.bool s.2.2.2)]) (O:=λ_ _=>[(3003,dW a 1 3 (w.map Lo))]) (j:=λs=>YX x w s.1 s.2.1 s.2.2.1 s.2.2.2) ?_ ?_
       ·refine A 6 ?_;refine Px r ?_ ?_
        ·refine A 4 ?_;refine bD λak ba=>?_
         refine A 5 ?_;refine bD λao bb=>?_
         refine A 1 ?_;refine bD λag bc=>?_
         refine A 5 ?_;refine cD r ?_ ?_
         ·refine A 1 ?_;exact xC (s:=(ak,ao,ag,(decide (ag<0)))) () ((hX))
         ·refine A 4 ?_;exact Rz (s:=w) () ((hX))
        ·refine A 20 ?_;exact Rz (s:=w) () ((hX))
       ·rintro⟨bd,bf,bg,bh⟩ ⟨⟩ nn
        try dsimp only
        unfold YX;exact B
      ·rintro ap ⟨⟩ nn
       try dsimp only
       unfold UT;refine A 5 ?_;exact xL (s:=(ap,i64.wrap (v+1))) () ((hX))
     ·refine A 4 ?_;exact RW (d:=.tup []) (s:=x9) () r (by first|rfl|(simp[PC,PE,rdA,raw,strip,PJ,cells,PF];done)|(simp[PC,PE,rdA,raw,strip,PJ,S.ge,S.go,look,UO,cells,PF];done)) r ((Qp (E1:=[(0,.osl 3003 a 0 k.length),(1,Av (e.length:Int)),(2,.clo 163 [.fptr (.sl (b.map Ps)) 0]),(6,Av 20),(27,.tup [])]) (O1:=[(3003,dW a 1 3 (x9.map Lo))]) (hX) (λ_=>PD (λg=>bif aA 24096 g then g-20000 else bif (aA 1000 g&&aAA g 4096)then g-1000 else g) (by rfl) (hX))))
    ·rintro m ⟨⟩ nn
     try dsimp only
     unfold Aen;refine AhH λz=>AhI (E:=λ(g:Unit)=>[(0,.osl 2003 a 0 m.length),(1,Av (e.length:Int)),(2,.clo 163 [.fptr (.sl (b.map Ps)) 0]),(6,Av 20),(27,.tup [])]) (O:=λg=>[(2003,dW a 1 3 (m.map Lo))]) () (hE ⟨(QT (q:=k.length) r z),r,r,r,r,trivial⟩ ⟨rfl,trivial⟩)<|?_
     rintro⟨⟩ nn
     try dsimp only
     refine A 3 ?_;refine lP (E:=λ(s:Int) (_g:Unit)=>[(0,.osl 2003 a 0 m.length),(1,Av (e.length:Int)),(2,.clo 163 [.fptr (.sl (b.map Ps)) 0]),(6,Av s)]) (O:=λ_ _=>[(2003,dW a 1 3 (m.map Lo))]) (body:=λs=>Aek e m s) (s:=20) () ((hX))<|?_
     rintro y ⟨⟩ nn
     try dsimp only
     unfold Aek;refine A 8 ?_;refine cD r ?_ ?_
     ·refine A 11 ?_;refine bC (E:=λ(_s:Unit) (_g:Unit)=>[(0,.osl 2003 a 0 m.length),(1,Av (e.length:Int)),(2,.clo 163 [.fptr (.sl (b.map Ps)) 0]),(6,Av y),(7,Av 0)]) (O:=λ_ _=>[(2003,dW a 1 3 (m.map Lo))]) (j:=λ_=>Aeo y e) ?_ ?_
      ·refine lP (E:=λ(_s:Unit) (_g:Unit)=>[(0,.osl 2003 a 0 m.length),(1,Av (e.length:Int)),(2,.clo 163 [.fptr (.sl (b.map Ps)) 0]),(6,Av y),(7,Av 0),(8,Av (i64.wrap (2*y)))]) (O:=λ_ _=>[(2003,dW a 1 3 (m.map Lo))]) (body:=λ_=>Ael y e) (s:=()) () ((hX))<|?_
       rintro⟨⟩ ⟨⟩ nn
       try dsimp only
       unfold Ael;refine A 8 ?_;refine cD r ?_ ?_
       ·refine A 12 ?_;exact Alc
       ·refine A 3 ?_;exact AcW (s:=()) () ((hX))
      ·rintro⟨⟩ ⟨⟩ nn
       try dsimp only
       unfold Aeo;refine A 16 ?_;refine cD r ?_ ?_
       ·refine A 6 ?_;exact Alc
       ·refine A 8 ?_;exact xL (s:=i64.wrap (y*2)) () ((hX))
     ·refine A 4 ?_;exact RW (d:=.tup []) (s:=m) () r (by first|rfl|(simp[PC,PE,rdA,raw,strip,PJ,cells,PF];done)|(simp[PC,PE,rdA,raw,strip,PJ,S.ge,S.go,look,UO,cells,PF];done)) r ((Qp (E1:=[(8,.tup [])]) (O1:=[(2003,dW a 1 3 (m.map Lo))]) (hX) (λ_=>PD (λg=>bif aA 24096 g then g-20000 else bif (aA 1000 g&&aAA g 4096)then g-1000 else g) (by rfl) (hX))))
  ·rintro x4 ⟨⟩ nn
   try dsimp only
   unfold Aem;refine A 1 ?_;refine Asl (d:=.tup []) (E:=[(3,.osl 3 _ 0 e.length),(17,.tup [])]) (O:=[(3,dW _ 1 3 (x4.map Lo))]) r (by first|rfl|(simp[PC,PE,rdA,raw,strip,PJ,cells,PF];done)|(simp[PC,PE,rdA,raw,strip,PJ,S.ge,S.go,look,UO,cells,PF];done)) r ((Qp (E1:=[(3,.osl 1003 a 0 e.length),(17,.tup [])]) (O1:=[(1003,dW a 1 3 (x4.map Lo))]) (hX) (λ_=>PD (λg=>bif aA 24096 g then g-20000 else bif (aA 1000 g&&aAA g 4096)then g-1000 else g) (by rfl) (hX)))) λnn=>AhH λz=>AhI (E:=λ(g:Nat)=>[(3,.osl 3 g 0 x4.length),(17,.tup [])]) (O:=λg=>[(3,dW g 1 3 (x4.map Lo))]) _ (hE ⟨(QT (q:=e.length) r z),r,trivial⟩ ⟨rfl,trivial⟩)<|?_
   rintro bi nn
   try dsimp only
   exact B

def ZJ (a:(List Pb)×(List Int)×Int):List D:=[.sl (a.1.map Ps),.sl (a.2.1.map Lo),Av a.2.2]
def ZI (ds:List D):(List Pb)×(List Int)×Int:=((uL Vs) (ds.getD 0 .top),(uL uI) (ds.getD 1 .top),uI (ds.getD 2 .top))
instance:PA ZJ ZI:=⟨λa=>by simp[ZI,ZJ,uI,Qh (u:=Vs) (en:=Ps) AdZ,Qh (u:=uI) (en:=Lo) (λ_=>rfl)]⟩
def Anf (b:OX):D:=PK b
def Ahg:Dw.Spec:=Pd [] .ground ZJ ZI (λa=>ZU a.1 a.2.1 a.2.2) Anf noE
theorem AlW:Pa Tryz.prog 123 Ahg:=by
 refine fn2 3 (Py) Tryz.func123<|?_;intro a;unfold ZU;exact B

def Yr:Dw.Spec:=Pd [] .ground PU PT (λa=>SV a) Pm noE
theorem Aab:Pa Tryz.prog 166 Yr:=by
 refine fn2 1 (Py) Tryz.func166<|?_;intro a;unfold SV;exact B

def VL (a:OX):List D:=[PK a]
def VK (ds:List D):OX:=UP (ds.getD 0 .top)
instance:PA VL VK:=⟨λa=>by simp[VK,VL]⟩
def Afu:Dw.Spec:=Pd [] .ground VL VK (λa=>Ys a) Pm noE
theorem AiJ:Pa Tryz.prog 169 Afu:=by
 refine fn2 1 (Pe (l:=[(166,Yr)]) (by simp[Aab])) Tryz.func169<|?_
 intro a;unfold Ys;exact B

def AjL:Dw.Spec:=Pd [] .ground VL VK (λa=>Aer a) Pm noE
theorem AoI:Pa Tryz.prog 168 AjL:=by
 refine fn2 1 (Pe (l:=[(169,Afu)]) (by simp[AiJ])) Tryz.func168<|?_
 intro a;unfold Aer;exact B

def Qc (a:(List OX)):List D:=[.sl (a.map PK),.clo 168 []]
def Qb (ds:List D):(List OX):=(uL UP) (ds.getD 0 .top)
instance:PA Qc Qb:=⟨λa=>by simp[Qb,Qc,Qh (u:=UP) (en:=PK) Agn]⟩
def QI:Dw.Spec:=Pd [] .ground Qc Qb (λa=>Qm a) Pc noE
theorem Vi:Pa Tryz.prog 198 QI:=by
 refine fn2 2 (Pe (l:=[(168,AjL)]) (by simp[AoI])) Tryz.func198<|?_
 intro a;unfold Qm;refine A 14 ?_;refine lP (E:=λ(s:Int) (_g:Unit)=>[(0,.sl (a.map PK)),(1,.clo 168 []),(7,Av (a.length:Int)),(8,Av s)]) (O:=λ_ _=>[]) (body:=λs=>QH a s) (s:=0) () ((hX))<|?_
 rintro b ⟨⟩ nn
 try dsimp only
 unfold QH;refine A 6 ?_;refine cD r ?_ ?_
 ·refine A 15 ?_;refine bD λc d=>?_
  refine A 2 ?_;refine bD λe f=>?_
  refine A 3 ?_;refine cD r ?_ ?_
  ·exact B
  ·refine A 7 ?_;exact xL (s:=i64.wrap (b+1)) () ((hX))
 ·exact B

def Qz:Dw.Spec:=Pd [] .ground Qc Qb (λa=>PM a) Pm noE
theorem UN:Pa Tryz.prog 167 Qz:=by
 refine fn2 2 (Pe (l:=[(692422,QI)]) (by simp[Vi])) Tryz.func167<|?_
 intro a;unfold PM;refine A 9 ?_;refine bD λc b=>cG a rfl rfl (show _=some QI from by kernel_rfl) PA.ok rfl rfl (by simp) r b r<|?_
 exact B

def AbV (a:Int):List D:=[AkE a]
def AbU (ds:List D):Int:=uI (ds.getD 0 .top)
instance:PA AbV AbU:=⟨λa=>by simp[AbU,AbV,uI]⟩
def AeA:Dw.Spec:=Pd [] .ground AbV AbU (λa=>AcH a) Pc noE
theorem Aoe:Pa Tryz.prog 200 AeA:=by
 refine fn2 1 (Pe (l:=[(222,Aoc)]) (by simp[AuR])) Tryz.func200<|?_
 intro a;unfold AcH;exact B

def VJ (a:OX×OX):List D:=[PK a.1,PK a.2]
def VI (ds:List D):OX×OX:=(UP (ds.getD 0 .top),UP (ds.getD 1 .top))
instance:PA VJ VI:=⟨λa=>by simp[VI,VJ]⟩
def Afp:Dw.Spec:=Pd [] .ground VJ VI (λa=>Aaw a.1 a.2) Pc noE
theorem AoJ:Pa Tryz.prog 172 Afp:=by
 refine fn2 2 (Pe (l:=[(165,AbI)]) (by simp[Agr])) Tryz.func172<|?_
 intro a;unfold Aaw;exact B

def Ajm:Dw.Spec:=Pd [] .ground Sb Sa (λa=>AaA a.1 a.2) Pc noE
theorem Ami:Pa Tryz.prog 173 Ajm:=by
 refine fn2 2 (Py) Tryz.func173<|?_;intro a;unfold AaA;exact B

def Ale:Dw.Spec:=Pd [] .ground VJ VI (λa=>Acj a.1 a.2) Pm noE
theorem Api:Pa Tryz.prog 174 Ale:=by
 refine fn2 2 (Py) Tryz.func174<|?_;intro a;unfold Acj;exact B

def AtL:Qe:=(Tryz.f171.body.bind (PX Tryz.prog Tryz.f171.ntmps)).getD .skip
theorem Axb:(Tryz.f171.body.bind (PX Tryz.prog Tryz.f171.ntmps))=some AtL:=by kernel_rfl
theorem Axc:Tryz.f171.results.toList.mapM (Ue Tryz.prog)=some []:=by kernel_rfl

def AtO:Qe:=(Tryz.f199.body.bind (PX Tryz.prog Tryz.f199.ntmps)).getD .skip
theorem Axh:(Tryz.f199.body.bind (PX Tryz.prog Tryz.f199.ntmps))=some AtO:=by kernel_rfl
theorem Axi:Tryz.f199.results.toList.mapM (Ue Tryz.prog)=some []:=by kernel_rfl

def AtP:Qe:=(Tryz.f213.body.bind (PX Tryz.prog Tryz.f213.ntmps)).getD .skip
theorem Axl:(Tryz.f213.body.bind (PX Tryz.prog Tryz.f213.ntmps))=some AtP:=by kernel_rfl
theorem Axm:Tryz.f213.results.toList.mapM (Ue Tryz.prog)=some []:=by kernel_rfl

def Afr (a:(List OX)×Int×Int×Int):List D:=[.sl (a.1.map PK),Av a.2.1,Av a.2.2.1,Av a.2.2.2]
def Afq (ds:List D):(List OX)×Int×Int×Int:=((uL UP) (ds.getD 0 .top),uI (ds.getD 1 .top),uI (ds.getD 2 .top),uI (ds.getD 3 .top))
instance:PA Afr Afq:=⟨λa=>by simp[Afq,Afr,uI,Qh (u:=UP) (en:=PK) Agn]⟩
def Aax (b:Int×Int):D:=.tup [Av b.1,Av b.2]
def Amh:Dw.Spec:=Pd [] .ground Afr Afq (λa=>Za a.1 a.2.1 a.2.2.1 a.2.2.2) Aax noE
def Aaa:Dw.Spec:=VR (specs [(172,Afp)]) 4 [] AtP
theorem AnW:Pa Tryz.prog 213 Aaa:=Sf (Pe (l:=[(172,Afp)]) (by simp[AoJ])) Tryz.func213 (by decide) Axl Axm (by decide)
def ZZ:Dw.Spec:=VR (specs [(708821,Aaa)]) 5 [] AtO
theorem AnV:Pa Tryz.prog 199 ZZ:=Sf (Pe (l:=[(708821,Aaa)]) (by simp[AnW])) Tryz.func199 (by decide) Axh Axi (by decide)
def Aes:Dw.Spec:=VR (specs [(200,AeA),(708807,ZZ)]) 2 [] AtL
theorem AnU:Pa Tryz.prog 171 Aes:=Sf (Pe (l:=[(200,AeA),(708807,ZZ)]) (by simp[Aoe,AnV])) Tryz.func171 (by decide) Axb Axc (by decide)
theorem Aql:Pa Tryz.prog 124 Amh:=by
 refine fn2 4 (Pe (l:=[(166,Yr),(158,Abi),(692391,Qz),(170,Ard),(708779,Aes),(173,Ajm),(174,Ale)]) (by simp[Aab,Aet,UN,Auw,AnU,Ami,Api])) Tryz.func124<|?_
 rintro⟨t,h,e,f⟩;unfold Za;refine A 6 ?_;refine sC (E:=λ(_s:Unit) (_g:Unit)=>[(0,.sl (t.map PK)),(1,Av h),(2,Av e),(3,Av f)]) (O:=λ_ _=>[]) (j:=λ_=>AcC t h f e) ?_ ?_
 ·refine A 3 ?_;refine bD λak ao=>?_
  refine A 3 ?_;refine Px r ?_ ?_
  ·exact B
  ·refine A 1 ?_;refine bD λap aq=>?_
   refine A 4 ?_;refine Px r ?_ ?_
   ·exact B
   ·refine A 1 ?_;refine bD λar au=>?_
    refine A 4 ?_;refine Px r ?_ ?_
    ·exact B
    ·refine A 1 ?_;refine bD λav z=>cG t rfl rfl (show _=some Qz from by kernel_rfl) PA.ok rfl rfl (by simp) r z r<|?_
     refine A 3 ?_;refine cD r ?_ ?_
     ·exact B
     ·refine A 1 ?_;exact xC (s:=()) () ((hX))
 ·rintro⟨⟩ ⟨⟩ nn
  try dsimp only
  unfold AcC;refine A 3 ?_;refine bD λa aw=>?_
  refine A 7 ?_;refine RZ (E:=λ(g:Nat)=>[(1,Av h),(2,Av e),(3,Av f),(10,.osl 1010 g 0 a.length),(33,.osl 1010 g 0 a.length)]) (O:=λg=>[(1010,dW g 2 121 (a.map PK))]) _ ((PD (λg=>bif aA 4096 g then g+20000 else g+1000) (by rfl) (hX)))<|?_
  rintro b nn
  try dsimp only
  refine AfV (ds:=[.osl 1010 b 0 a.length,.clo 172 []]) (caps:=[]) (E:=[(0,.osl 1010 b 0 a.length),(1,.clo 172 [])]) rfl rfl rfl rfl rfl (show _=some Aes from by kernel_rfl) rfl rfl<|UZ (c:=AtL)<|?_
  refine A 12 ?_;refine bD λp ax=>?_
  refine A 2 ?_;refine RZ (E:=λ(g:Unit)=>[(7,.osl 2010 b 0 a.length),(8,Av (a.length:Int)),(11,Av p),(12,.clo 172 [])]) (O:=λg=>[(2010,dW b 2 121 (a.map PK))]) () ((PD (λg=>bif aA 4096 g then g+20000 else g+1000) (by rfl) (hX)))<|?_
  rintro⟨⟩ nn
  try dsimp only
  refine Zw (ES:=λ(_s:(List OX)) (_g:Unit)=>[(13,.tup [])]) (OS:=λs _=>[(1010,dW b 2 121 (s.map PK))]) (j:=λs=>AgT a h f e s) (ds:=[.osl 2010 b 0 a.length,Av 0,Av (a.length:Int),Av p,.clo 172 []]) (caps:=[]) (E:=[(0,.osl 2010 b 0 a.length),(1,Av 0),(2,Av (a.length:Int)),(3,Av p),(4,.clo 172 [])]) rfl rfl rfl rfl rfl (show _=some ZZ from by kernel_rfl) rfl rfl ?_ ?_
  ·refine UZ (c:=AtO)<|?_;refine A 11 ?_;refine lP (E:=λ(_s:Unit) (_g:Unit)=>[(0,.osl 2010 b 0 a.length),(1,Av 0),(2,Av (a.length:Int)),(3,Av p),(4,.clo 172 []),(10,.bool true),(11,.bool true)]) (O:=λ_ _=>[(2010,dW b 2 121 (a.map PK))]) (body:=λ_=>AcB a h f e p) (s:=()) () ((hX))<|?_
   rintro⟨⟩ ⟨⟩ nn
   try dsimp only
   unfold AcB;refine A 16 ?_;refine cD r ?_ ?_
   ·refine A 6 ?_;refine RZ (E:=λ(g:Unit)=>[(26,.osl 3010 b 0 a.length),(27,Av 0),(28,Av (a.length:Int)),(29,.clo 172 [])]) (O:=λg=>[(3010,dW b 2 121 (a.map PK))]) () ((PD (λg=>bif aA 4096 g then g+20000 else g+1000) (by rfl) (hX)))<|?_
    rintro⟨⟩ nn
    try dsimp only
    refine Zw (ES:=λ(_s:(List OX)) (_g:Unit)=>[(30,.tup [])]) (OS:=λs _=>[(2010,dW b 2 121 (s.map PK))]) (j:=λs=>AgU a h f e s) (ds:=[.osl 3010 b 0 a.length,Av 0,Av (a.length:Int),.clo 172 []]) (caps:=[]) (E:=[(0,.osl 3010 b 0 a.length),(1,Av 0),(2,Av (a.length:Int)),(3,.clo 172 [])]) rfl rfl rfl rfl rfl (show _=some Aaa from by kernel_rfl) rfl rfl ?_ ?_
    ·refine UZ (c:=AtP)<|?_;refine A 8 ?_;refine lP (E:=λ(s:(List OX)×Int) (_g:Unit)=>[(0,.osl 3010 b 0 s.1.length),(1,Av 0),(2,Av (a.length:Int)),(3,.clo 172 []),(8,Av s.2)]) (O:=λs _=>[(3010,dW b 2 121 (s.1.map PK))]) (body:=λs=>AgR a h f e s.1 s.2) (s:=(a,i64.wrap (0+1))) () ((hX))<|?_
     rintro⟨u,o⟩ ⟨⟩ nn
     try dsimp only
     unfold AgR;refine A 8 ?_;refine cD r ?_ ?_
     ·refine A 2 ?_;refine bC (E:=λ(s:(List OX)) (_g:Unit)=>[(0,.osl 3010 b 0 s.length),(1,Av 0),(2,Av (a.length:Int)),(3,.clo 172 []),(8,Av o)]) (O:=λs _=>[(3010,dW b 2 121 (s.map PK))]) (j:=λs=>WB o s) ?_ ?_
      ·refine A 7 ?_;refine lP (E:=λ(s:(List OX)×Int) (_g:Unit)=>[(0,.osl 3010 b 0 s.1.length),(1,Av 0),(2,Av (a.length:Int)),(3,.clo 172 []),(8,Av o),(9,Av s.2)]) (O:=λs _=>[(3010,dW b 2 121 (s.1.map PK))]) (body:=λs=>AgS o s.1 s.2) (s:=(u,o)) () ((hX))<|?_
       rintro⟨i,k⟩ ⟨⟩ nn
       try dsimp only
       unfold AgS;refine sC (E:=λ(s:OX×OX×Int×Bool) (_g:Unit)=>[(0,.osl 3010 b 0 i.length),(1,Av 0),(2,Av (a.length:Int)),(3,.clo 172 []),(8,Av o),(9,Av k),(22,.clo 172 []),(23,.osl 3010 b 0 i.length),(24,Av k),(25,.optr 3010 b k.toNat 0),(26,.agg [Av s.1.Off,Av s.1.Size]),(27,.osl 3010 b 0 i.length),(28,Av k),(29,Av (i64.wrap (k-1))),(30,.optr 3010 b ((i64.wrap (k-1)).toNat) 0),(31,.agg [Av s.2.1.Off,Av s.2.1.Size]),(32,Av s.2.2.1),(33,.bool s.2.2.2)]) (O:=λ_ _=>[(3010,dW b 2 121 (i.map PK))]) (j:=λs=>AcD k i s.1 s.2.1 s.2.2.1 s.2.2.2) ?_ ?_
       ·refine A 6 ?_;refine Px r ?_ ?_
        ·refine A 4 ?_;refine bD λaa ay=>?_
         refine A 5 ?_;refine bD λab az=>?_
         refine A 1 ?_;refine bD λv ba=>?_
         refine A 5 ?_;refine cD r ?_ ?_
         ·refine A 1 ?_;exact xC (s:=(aa,ab,v,(decide (v<0)))) () ((hX))
         ·refine A 4 ?_;exact Rz (s:=i) () ((hX))
        ·refine A 20 ?_;exact Rz (s:=i) () ((hX))
       ·rintro⟨bb,bc,bd,bf⟩ ⟨⟩ nn
        try dsimp only
        unfold AcD;refine A 12 ?_;refine bD λw bg=>?_
        refine A 4 ?_;refine bD λac bh=>?_
        refine A 2 ?_;refine bD λbi ad=>sE (l:=i) (en:=PK) (q':=w) r r r r r r r (by simp) ad r r r r r<|?_
        refine A 1 ?_;refine bD λbj ae=>sE (l:=i.set k.toNat w) (en:=PK) (q':=ac) r r r r r r r (by simp) ae r r r r r<|?_
        exact B
      ·rintro af ⟨⟩ nn
       try dsimp only
       unfold WB;refine A 5 ?_;exact xL (s:=(af,i64.wrap (o+1))) () ((hX))
     ·refine A 4 ?_;exact RW (d:=.tup []) (s:=u) () r (by first|rfl|(simp[PC,PE,rdA,raw,strip,PJ,cells,PF];done)|(simp[PC,PE,rdA,raw,strip,PJ,S.ge,S.go,look,UO,cells,PF];done)) r ((Qp (E1:=[(30,.tup [])]) (O1:=[(3010,dW b 2 121 (u.map PK))]) (hX) (λ_=>PD (λg=>bif aA 24096 g then g-20000 else bif (aA 1000 g&&aAA g 4096)then g-1000 else g) (by rfl) (hX))))
    ·rintro x ⟨⟩ nn
     try dsimp only
     unfold AgU;refine A 7 ?_;exact RW (d:=.tup []) (s:=x) () r (by first|rfl|(simp[PC,PE,rdA,raw,strip,PJ,cells,PF];done)|(simp[PC,PE,rdA,raw,strip,PJ,S.ge,S.go,look,UO,cells,PF];done)) r ((Qp (E1:=[(13,.tup [])]) (O1:=[(2010,dW b 2 121 (x.map PK))]) (hX) (λ_=>PD (λg=>bif aA 24096 g then g-20000 else bif (aA 1000 g&&aAA g 4096)then g-1000 else g) (by rfl) (hX))))
   ·refine A 9 ?_;refine cD r ?_ ?_
    ·refine A 6 ?_;exact Alc
    ·refine A 2 ?_;refine sC (E:=λ(_s:Unit) (_g:Unit)=>[(0,.osl 2010 b 0 a.length),(1,Av 0),(2,Av (a.length:Int)),(3,Av p),(4,.clo 172 []),(10,.bool true),(11,.bool true),(12,Av (i64.wrap ((a.length:Int)-0)))]) (O:=λ_ _=>[(2010,dW b 2 121 (a.map PK))]) (j:=λ_=>Afs) ?_ ?_
     ·refine A 8 ?_;exact xC (s:=()) () ((hX))
     ·rintro⟨⟩ ⟨⟩ nn
      try dsimp only
      unfold Afs;refine A 6 ?_;exact Alc
  ·rintro m ⟨⟩ nn
   try dsimp only
   unfold AgT;refine A 1 ?_;refine Asl (d:=.tup []) (E:=[(1,Av h),(2,Av e),(3,Av f),(10,.osl 10 _ 0 a.length),(34,.tup [])]) (O:=[(10,dW _ 2 121 (m.map PK))]) r (by first|rfl|(simp[PC,PE,rdA,raw,strip,PJ,cells,PF];done)|(simp[PC,PE,rdA,raw,strip,PJ,S.ge,S.go,look,UO,cells,PF];done)) r ((Qp (E1:=[(1,Av h),(2,Av e),(3,Av f),(10,.osl 1010 b 0 a.length),(34,.tup [])]) (O1:=[(1010,dW b 2 121 (m.map PK))]) (hX) (λ_=>PD (λg=>bif aA 24096 g then g-20000 else bif (aA 1000 g&&aAA g 4096)then g-1000 else g) (by rfl) (hX)))) λnn=>AhH λag=>AhI (E:=λ(g:Nat)=>[(1,Av h),(2,Av e),(3,Av f),(10,.osl 10 g 0 m.length),(34,.tup [])]) (O:=λg=>[(10,dW g 2 121 (m.map PK))]) _ (hE ⟨rfl,r,r,(QT (q:=a.length) r ag),r,trivial⟩ ⟨rfl,trivial⟩)<|?_
   rintro bk nn
   try dsimp only
   refine A 6 ?_;refine bD λr8 bl=>?_
   refine A 13 ?_;refine lP (E:=λ(s:Int×Int) (g:Nat)=>[(2,Av e),(3,Av f),(11,Av s.1),(38,.osl 10 g 0 m.length),(39,Av (m.length:Int)),(40,Av s.2)]) (O:=λ_ g=>[(10,dW g 2 121 (m.map PK))]) (body:=λs=>AcA m e f s.1 s.2) (s:=(r8,0)) _ ((hX))<|?_
   rintro⟨ai,y⟩ bm nn
   try dsimp only
   unfold AcA;refine A 6 ?_;refine cD r ?_ ?_
   ·refine A 7 ?_;refine bD λbn bo=>?_
    refine A 11 ?_;refine bD λbp bq=>?_
    refine A 3 ?_;refine cD r ?_ ?_
    ·refine A 7 ?_;refine bD λaj br=>?_
     refine A 9 ?_;exact xL (s:=(aj,i64.wrap (y+1))) _ ((hX))
    ·refine A 7 ?_;exact xL (s:=(ai,i64.wrap (y+1))) _ ((hX))
   ·exact B

end
end Go.Proofs.YtilmapojncgflaaGreatDoor
