/-
  Programs on typed data, and the proofs that the code does what they say; written by a program (dx.py).
-/
import Derived.Test.YtilmapojncgflaaGreatDoorProg
import Derived.Test.YtilmapojncgflaaGreatDoorDd
import Derived.KernelRfl
import Derived.Test.YtilmapojncgflaaGreatDoorSh
import Derived.Test.YtilmapojncgflaaGreatDoorCl
import Derived.Test.YtilmapojncgflaaGreatDoorDxP
import Derived.Test.YtilmapojncgflaaGreatDoorDxF1
import Derived.Test.YtilmapojncgflaaGreatDoorDxF2
import Derived.Test.YtilmapojncgflaaGreatDoorDxF4
open Nat renaming ble->aA,blt->aAA
namespace Go.Proofs.YtilmapojncgflaaGreatDoor
open Go Go.Dw Go.Proofs
open Go.IntKind (i64 u64)
set_option maxRecDepth 100000
set_option maxHeartbeats 40000000
open Go.Dw renaming Rm -> bD,AdY -> bS,Ze -> cG,TI -> sE,Ack -> cD,Aea -> xC,ZX -> xL,ZA -> hE,Aeb -> lP,Aap -> sC,Aid -> bC,Aib -> mF,rf -> r
noncomputable section
def Qj (a:(List Pa)):List D:=[.sl (a.map Pu),.clo 156 []]
def Qi (ds:List D):(List Pa):=(uL UL) (ds.getD 0 .top)
instance:Py Qj Qi:=⟨λa=>by simp[Qi,Qj,Qf (u:=UL) (en:=Pu) Acl]⟩
def Ra:Dw.Spec:=Pe [] .ground Qj Qi (λa=>Rl a) Pg noE
theorem Wq:Pb Tryz.prog 192 Ra:=by
 refine fn2 2 (Pf (l:=[(156,Aga)]) (by simp[AkW])) Tryz.func192<|?_
 intro a;unfold Rl;refine A 14 ?_;refine lP (E:=λ(s:Int) (_g:Unit)=>[(0,.sl (a.map Pu)),(1,.clo 156 []),(7,Av (a.length:Int)),(8,Av s)]) (O:=λ_ _=>[]) (body:=λs=>Qk a s) (s:=0) () ((hX))<|?_
 rintro b ⟨⟩ nn
 try dsimp only
 unfold Qk;refine A 6 ?_;refine cD r ?_ ?_
 ·refine A 15 ?_;refine bD λc d=>?_
  refine A 2 ?_;refine bD λe f=>?_
  refine A 3 ?_;refine cD r ?_ ?_
  ·exact B
  ·refine A 7 ?_;exact xL (s:=i64.wrap (b+1)) () ((hX))
 ·exact B

def QI:Dw.Spec:=Pe [] .ground Qj Qi (λa=>QW a) Po noE
theorem Vq:Pb Tryz.prog 155 QI:=by
 refine fn2 2 (Pf (l:=[(643264,Ra)]) (by simp[Wq])) Tryz.func155<|?_
 intro a;unfold QW;refine A 9 ?_;refine bD λc b=>cG a rfl rfl (show _=some Ra from by kernel_rfl) Py.ok rfl rfl (by simp) r b r<|?_
 exact B

def Vg (a:(List Pa)):List D:=[.sl (a.map Pu)]
def Vf (ds:List D):(List Pa):=(uL UL) (ds.getD 0 .top)
instance:Py Vg Vf:=⟨λa=>by simp[Vf,Vg,Qf (u:=UL) (en:=Pu) Acl]⟩
def AdC:Dw.Spec:=Pe [] .ground Vg Vf (λa=>Xr a) Pg noE
theorem AgD:Pb Tryz.prog 120 AdC:=by
 refine fn2 1 (Pf (l:=[(643227,QI)]) (by simp[Vq])) Tryz.func120<|?_
 intro a;unfold Xr;refine A 13 ?_;refine cD r ?_ ?_
 ·exact B
 ·refine A 6 ?_;refine bD λc b=>cG a rfl rfl (show _=some QI from by kernel_rfl) Py.ok rfl rfl (by simp) r b r<|?_
  exact B

def Zc:Dw.Spec:=Pe [] .ground RF RE (λa=>Ru a.1 a.2) Po noE
theorem Afb:Pb Tryz.prog 160 Zc:=by
 refine fn2 2 (Pf (l:=[(116,WM)]) (by simp[Aas])) Tryz.func160<|?_
 intro a;unfold Ru;exact B

def Acu:Dw.Spec:=Pe [] .ground Qp Qo (λa=>Th a) Po noE
theorem AfQ:Pb Tryz.prog 197 Acu:=by
 refine fn2 1 (PD) Tryz.func197<|?_;intro a;unfold Th;exact B

def SB (a:Int×Int):List D:=[Av a.1,Av a.2]
def SA (ds:List D):Int×Int:=(uI (ds.getD 0 .top),uI (ds.getD 1 .top))
instance:Py SB SA:=⟨λa=>by simp[SA,SB,uI]⟩
def Ahy:Dw.Spec:=Pe [] .ground SB SA (λa=>Zj a.1 a.2) Po noE
theorem Amk:Pb Tryz.prog 194 Ahy:=by
 refine fn2 2 (Pf (l:=[(197,Acu)]) (by simp[AfQ])) Tryz.func194<|?_
 intro a;unfold Zj;exact B

def AeH:Dw.Spec:=Pe [] .ground Qp Qo (λa=>Vr a) Po noE
theorem Ajs:Pb Tryz.prog 195 AeH:=by
 refine fn2 1 (PD) Tryz.func195<|?_;intro a;unfold Vr;exact B

def WQ:Dw.Spec:=Pe [] .ground RF RE (λa=>Rs a.1 a.2) AfY noE
theorem Adc:Pb Tryz.prog 161 WQ:=by
 refine fn2 2 (Pf (l:=[(194,Ahy),(195,AeH)]) (by simp[Amk,Ajs])) Tryz.func161<|?_
 rintro⟨a,b⟩;unfold Rs;refine A 20 ?_;refine bC (E:=λ(s:Int) (_g:Unit)=>[(0,.sl (a.map Mk)),(1,Av b),(6,Av (a.length:Int)),(7,Av s)]) (O:=λ_ _=>[]) (j:=λs=>Qs a b s) ?_ ?_
 ·refine lP (E:=λ(s:Int×Int) (_g:Unit)=>[(0,.sl (a.map Mk)),(1,Av b),(6,Av (a.length:Int)),(7,Av s.1),(8,Av s.2)]) (O:=λ_ _=>[]) (body:=λs=>PM a b s.1 s.2) (s:=(0,(a.length:Int))) () ((hX))<|?_
  rintro⟨c,d⟩ ⟨⟩ nn
  try dsimp only
  unfold PM;refine A 8 ?_;refine cD r ?_ ?_
  ·refine A 18 ?_;refine bD λe f=>?_
   refine A 3 ?_;refine bD λg h=>?_
   refine A 3 ?_;refine cD r ?_ ?_
   ·refine A 6 ?_;exact xL (s:=(i64.wrap ((i64.wrap ((u64.wrap (i64.wrap (c+d))).fdiv (2 ^ (Nat.min (1:Int).toNat u64.bits))))+1),d)) () ((hX))
   ·refine A 5 ?_;exact xL (s:=(c,i64.wrap ((u64.wrap (i64.wrap (c+d))).fdiv (2 ^ (Nat.min (1:Int).toNat u64.bits))))) () ((hX))
  ·refine A 3 ?_;exact Abp (s:=c) () ((hX))
 ·rintro i ⟨⟩ nn
  try dsimp only
  unfold Qs;exact B

def YO (a:(List (List Int))×Int):List D:=[.sl (a.1.map (eL Mk)),Av a.2]
def YN (ds:List D):(List (List Int))×Int:=((uL (uL uI)) (ds.getD 0 .top),uI (ds.getD 1 .top))
instance:Py YO YN:=⟨λa=>by simp[YN,YO,uI,Qf (u:=(uL uI)) (en:=(eL Mk)) (Qf (u:=uI) (en:=Mk) (λ_=>rfl))]⟩
def Afk:Dw.Spec:=Pe [] .ground YO YN (λa=>We a.1 a.2) Po noE
theorem AjV:Pb Tryz.prog 121 Afk:=by
 refine fn2 2 (Pf (l:=[(159,Adu),(160,Zc),(161,WQ)]) (by simp[Agv,Afb,Adc])) Tryz.func121<|?_
 rintro⟨a,d⟩;unfold We;refine A 14 ?_;refine cD r ?_ ?_
 ·exact B
 ·refine A 11 ?_;refine lP (E:=λ(s:Int) (_g:Unit)=>[(0,.sl (a.map (eL Mk))),(1,Av d),(17,.sl (a.map (eL Mk))),(18,Av (a.length:Int)),(19,Av s)]) (O:=λ_ _=>[]) (body:=λs=>PT a d s) (s:=0) () ((hX))<|?_
  rintro e ⟨⟩ nn
  try dsimp only
  unfold PT;refine A 6 ?_;refine cD r ?_ ?_
  ·refine A 7 ?_;refine bD λg h=>?_
   refine A 9 ?_;refine bD λi j=>?_
   refine A 3 ?_;refine PI r ?_ ?_
   ·exact B
   ·refine A 4 ?_;refine PI r ?_ ?_
    ·refine A 4 ?_;refine bD λk m=>?_
     refine A 7 ?_;refine PI r ?_ ?_
     ·exact B
     ·refine A 2 ?_;refine bD λo p=>?_
      refine A 4 ?_;refine cD r ?_ ?_
      ·exact B
      ·refine A 7 ?_;exact xL (s:=i64.wrap (e+1)) () ((hX))
    ·refine A 13 ?_;refine bD λq t=>?_
     refine A 4 ?_;refine cD r ?_ ?_
     ·exact B
     ·refine A 7 ?_;exact xL (s:=i64.wrap (e+1)) () ((hX))
  ·refine A 14 ?_;refine lP (E:=λ(s:Int) (_g:Unit)=>[(0,.sl (a.map (eL Mk))),(48,.sl (a.map (eL Mk))),(49,Av (a.length:Int)),(50,Av s)]) (O:=λ_ _=>[]) (body:=λs=>Rr a s) (s:=0) () ((hX))<|?_
   rintro b ⟨⟩ nn
   try dsimp only
   unfold Rr;refine A 6 ?_;refine cD r ?_ ?_
   ·refine A 7 ?_;refine bD λc u=>?_
    refine A 14 ?_;refine lP (E:=λ(s:Int) (_g:Unit)=>[(0,.sl (a.map (eL Mk))),(7,Av b),(48,.sl (a.map (eL Mk))),(49,Av (a.length:Int)),(50,Av b),(55,.sl (c.map Mk)),(56,Av (c.length:Int)),(57,Av s)]) (O:=λ_ _=>[]) (body:=λs=>RP c a b s) (s:=0) () ((hX))<|?_
    rintro f ⟨⟩ nn
    try dsimp only
    unfold RP;refine A 6 ?_;refine cD r ?_ ?_
    ·refine A 6 ?_;refine bD λv w=>?_
     refine A 9 ?_;refine bD λx y=>?_
     refine A 3 ?_;refine bD λz aa=>?_
     refine A 14 ?_;refine cD r ?_ ?_
     ·exact B
     ·refine A 7 ?_;exact xL (s:=i64.wrap (f+1)) () ((hX))
    ·refine A 10 ?_;exact xL (s:=i64.wrap (b+1)) () ((hX))
   ·exact B

def Aau:Dw.Spec:=Pe [] .ground SB SA (λa=>SW a.1 a.2) Pg noE
theorem Aep:Pb Tryz.prog 165 Aau:=by
 refine fn2 2 (Pf (l:=[(197,Acu)]) (by simp[AfQ])) Tryz.func165<|?_
 intro a;unfold SW;exact B

def AjA:Dw.Spec:=Pe [] .ground Td Tc (λa=>Acs a) Pg noE
theorem AnK:Pb Tryz.prog 164 AjA:=by
 refine fn2 1 (PD) Tryz.func164<|?_;intro a;unfold Acs;refine A 19 ?_;refine lP (E:=λ(s:Int) (_g:Unit)=>[(3,Av 0),(6,.sl (a.map Mk)),(7,Av (a.length:Int)),(8,Av s)]) (O:=λ_ _=>[]) (body:=λs=>AeJ a s) (s:=0) () ((hX))<|?_
 rintro b ⟨⟩ nn
 try dsimp only
 unfold AeJ;refine A 6 ?_;refine cD r ?_ ?_
 ·refine A 6 ?_;refine bD λc d=>?_
  refine A 12 ?_;refine cD r ?_ ?_
  ·exact B
  ·refine A 7 ?_;exact xL (s:=i64.wrap (b+1)) () ((hX))
 ·exact B

def Xm (a:Int×Int×(List Pa)):List D:=[Av a.1,Av a.2.1,.fptr (.sl (a.2.2.map Pu)) 0]
def Xl (ds:List D):Int×Int×(List Pa):=(uI (ds.getD 0 .top),uI (ds.getD 1 .top),(uL UL) (fpD (ds.getD 2 .top)))
instance:Py Xm Xl:=⟨λa=>by simp[Xl,Xm,uI,fpD,Qf (u:=UL) (en:=Pu) Acl]⟩
def YF:Dw.Spec:=Pe [] .ground Xm Xl (λa=>Te a.1 a.2.1 a.2.2) Pg noE
theorem Aiv:Pb Tryz.prog 163 YF:=by
 refine fn2 3 (Pf (l:=[(165,Aau),(164,AjA)]) (by simp[Aep,AnK])) Tryz.func163<|?_
 rintro⟨c,d,e⟩;unfold Te;refine A 9 ?_;refine bD λf g=>?_
 refine A 5 ?_;refine bD λh i=>?_
 refine A 3 ?_;refine bD λa j=>?_
 refine A 3 ?_;refine bD λk m=>?_
 refine A 5 ?_;refine bD λo p=>?_
 refine A 3 ?_;refine bD λb q=>?_
 refine A 1 ?_;refine bS ([a,b]:List Int) Mk r r r (by simp) r r r<|?_
 exact B

def AqY:PZ:=(Tryz.f162.body.bind (PS Tryz.prog Tryz.f162.ntmps)).getD .skip
theorem Aun:(Tryz.f162.body.bind (PS Tryz.prog Tryz.f162.ntmps))=some AqY:=by kernel_rfl
theorem Auo:Tryz.f162.results.toList.mapM (Tw Tryz.prog)=some []:=by kernel_rfl

def Arb:PZ:=(Tryz.f196.body.bind (PS Tryz.prog Tryz.f196.ntmps)).getD .skip
theorem Aut:(Tryz.f196.body.bind (PS Tryz.prog Tryz.f196.ntmps))=some Arb:=by kernel_rfl
theorem Auu:Tryz.f196.results.toList.mapM (Tw Tryz.prog)=some []:=by kernel_rfl

def Aof:PZ:=(Tryz.f211.body.bind (PS Tryz.prog Tryz.f211.ntmps)).getD .skip
theorem Aux:(Tryz.f211.body.bind (PS Tryz.prog Tryz.f211.ntmps))=some Aof:=by kernel_rfl
theorem Auy:Tryz.f211.results.toList.mapM (Tw Tryz.prog)=some []:=by kernel_rfl

def Ahz:Dw.Spec:=Pe [] (.row 1 3) Vg Vf (λa=>Zm a) QX noE
def Ut:Dw.Spec:=Vm (specs [(163,YF)]) 4 [] Aof
theorem AjE:Pb Tryz.prog 211 Ut:=RR (Pf (l:=[(163,YF)]) (by simp[Aiv])) Tryz.func211 (by decide) Aux Auy (by decide)
def WV:Dw.Spec:=Vm (specs [(671955,Ut)]) 3 [] Arb
theorem AjD:Pb Tryz.prog 196 WV:=RR (Pf (l:=[(671955,Ut)]) (by simp[AjE])) Tryz.func196 (by decide) Aut Auu (by decide)
def Aax:Dw.Spec:=Vm (specs [(671940,WV)]) 2 [] AqY
theorem AjC:Pb Tryz.prog 162 Aax:=RR (Pf (l:=[(671940,WV)]) (by simp[AjD])) Tryz.func162 (by decide) Aun Auo (by decide)
theorem Amm:Pb Tryz.prog 122 Ahz:=by
 refine fn2 1 (Pf (l:=[(671906,Aax)]) (by simp[AjC])) Tryz.func122<|?_
 intro b;unfold Zm;refine A 5 ?_;refine Qn (E:=[(1,.fptr (.sl (b.map Pu)) 0)]) (O:=[]) ((hV 1 r (hY))) λnn=>?_
 refine A 14 ?_;refine lP (E:=λ(s:(List Int)×Int) (g:Nat)=>[(1,.fptr (.sl (b.map Pu)) 0),(3,.osl 3 g 0 s.1.length),(6,Av (b.length:Int)),(7,Av s.2)]) (O:=λs g=>[(3,dW g 1 3 (s.1.map Mk))]) (body:=λs=>Acw b s.1 s.2) (s:=(([]:List Int),0)) _ ((hX))<|?_
 rintro⟨e,x3⟩ aq nn
 try dsimp only
 unfold Acw;refine A 6 ?_;refine cD r ?_ ?_
 ·refine A 23 ?_;exact xL (s:=(e++([x3]:List Int),i64.wrap (x3+1))) _ ((hX))
 ·refine A 8 ?_;refine mF (caps:=[.fptr (.sl (b.map Pu)) 0]) r r (by simp[UX])<|RN (E:=λ(g:Nat)=>[(3,.osl 1003 g 0 e.length),(15,.osl 1003 g 0 e.length),(16,.clo 163 [.fptr (.sl (b.map Pu)) 0])]) (O:=λg=>[(1003,dW g 1 3 (e.map Mk))]) _ ((Pz (λg=>bif aA 4096 g then g+20000 else g+1000) (by rfl) (hX)))<|?_
  rintro a nn
  try dsimp only
  refine AdX (ds:=[.osl 1003 a 0 e.length,.clo 163 [.fptr (.sl (b.map Pu)) 0]]) (caps:=[]) (E:=[(0,.osl 1003 a 0 e.length),(1,.clo 163 [.fptr (.sl (b.map Pu)) 0])]) rfl rfl rfl rfl rfl (show _=some Aax from by kernel_rfl) rfl rfl<|Um (c:=AqY)<|?_
  refine A 5 ?_;refine RN (E:=λ(g:Unit)=>[(4,.osl 2003 a 0 e.length),(6,Av (e.length:Int)),(7,.clo 163 [.fptr (.sl (b.map Pu)) 0])]) (O:=λg=>[(2003,dW a 1 3 (e.map Mk))]) () ((Pz (λg=>bif aA 4096 g then g+20000 else g+1000) (by rfl) (hX)))<|?_
  rintro⟨⟩ nn
  try dsimp only
  refine Yu (ES:=λ(_s:(List Int)) (_g:Unit)=>[(8,.tup [])]) (OS:=λs _=>[(1003,dW a 1 3 (s.map Mk))]) (j:=λs=>Acz e s) (ds:=[.osl 2003 a 0 e.length,Av (e.length:Int),.clo 163 [.fptr (.sl (b.map Pu)) 0]]) (caps:=[]) (E:=[(0,.osl 2003 a 0 e.length),(1,Av (e.length:Int)),(2,.clo 163 [.fptr (.sl (b.map Pu)) 0])]) rfl rfl rfl rfl rfl (show _=some WV from by kernel_rfl) rfl rfl ?_ ?_
  ·refine Um (c:=Arb)<|?_;refine A 12 ?_;refine bC (E:=λ(s:(List Int)×Int) (_g:Unit)=>[(0,.osl 2003 a 0 s.1.length),(1,Av (e.length:Int)),(2,.clo 163 [.fptr (.sl (b.map Pu)) 0]),(6,Av 20),(7,Av s.2)]) (O:=λs _=>[(2003,dW a 1 3 (s.1.map Mk))]) (j:=λs=>YR e b s.1 s.2) ?_ ?_
   ·refine lP (E:=λ(s:(List Int)×Int×Int) (_g:Unit)=>[(0,.osl 2003 a 0 s.1.length),(1,Av (e.length:Int)),(2,.clo 163 [.fptr (.sl (b.map Pu)) 0]),(6,Av 20),(7,Av s.2.1),(8,Av s.2.2)]) (O:=λs _=>[(2003,dW a 1 3 (s.1.map Mk))]) (body:=λs=>Abw e b s.1 s.2.1 s.2.2) (s:=(e,0,20)) () ((hX))<|?_
    rintro⟨h,i,f⟩ ⟨⟩ nn
    try dsimp only
    unfold Abw;refine A 8 ?_;refine cD r ?_ ?_
    ·refine A 9 ?_;refine RN (E:=λ(g:Unit)=>[(0,.osl 3003 a 0 h.length),(1,Av (e.length:Int)),(2,.clo 163 [.fptr (.sl (b.map Pu)) 0]),(6,Av 20),(8,Av f),(14,.osl 3003 a 0 h.length),(15,Av i),(16,Av f),(17,.clo 163 [.fptr (.sl (b.map Pu)) 0])]) (O:=λg=>[(3003,dW a 1 3 (h.map Mk))]) () ((Pz (λg=>bif aA 4096 g then g+20000 else g+1000) (by rfl) (hX)))<|?_
     rintro⟨⟩ nn
     try dsimp only
     refine AiX (ES:=λ(_s:(List Int)) (_g:Unit)=>[(0,.osl 2003 a 0 h.length),(1,Av (e.length:Int)),(2,.clo 163 [.fptr (.sl (b.map Pu)) 0]),(6,Av 20),(8,Av f),(18,.tup [])]) (OS:=λs _=>[(2003,dW a 1 3 (s.map Mk))]) (j:=λs=>Abz h f s) (ds:=[.osl 3003 a 0 h.length,Av i,Av f,.clo 163 [.fptr (.sl (b.map Pu)) 0]]) (caps:=[]) (E:=[(0,.osl 3003 a 0 h.length),(1,Av i),(2,Av f),(3,.clo 163 [.fptr (.sl (b.map Pu)) 0])]) rfl rfl rfl rfl rfl (show _=some Ut from by kernel_rfl) rfl rfl ?_ ?_
     ·refine Um (c:=Aof)<|?_;refine A 8 ?_;refine lP (E:=λ(s:(List Int)×Int) (_g:Unit)=>[(0,.osl 3003 a 0 s.1.length),(1,Av i),(2,Av f),(3,.clo 163 [.fptr (.sl (b.map Pu)) 0]),(8,Av s.2)]) (O:=λs _=>[(3003,dW a 1 3 (s.1.map Mk))]) (body:=λs=>Abx f i b h s.1 s.2) (s:=(h,i64.wrap (i+1))) () ((hX))<|?_
      rintro⟨ab,p⟩ ⟨⟩ nn
      try dsimp only
      unfold Abx;refine A 8 ?_;refine cD r ?_ ?_
      ·refine A 2 ?_;refine bC (E:=λ(s:(List Int)) (_g:Unit)=>[(0,.osl 3003 a 0 s.length),(1,Av i),(2,Av f),(3,.clo 163 [.fptr (.sl (b.map Pu)) 0]),(8,Av p)]) (O:=λs _=>[(3003,dW a 1 3 (s.map Mk))]) (j:=λs=>XW p s) ?_ ?_
       ·refine A 7 ?_;refine lP (E:=λ(s:(List Int)×Int) (_g:Unit)=>[(0,.osl 3003 a 0 s.1.length),(1,Av i),(2,Av f),(3,.clo 163 [.fptr (.sl (b.map Pu)) 0]),(8,Av p),(9,Av s.2)]) (O:=λs _=>[(3003,dW a 1 3 (s.1.map Mk))]) (body:=λs=>Aby i b p s.1 s.2) (s:=(ab,p)) () ((hX))<|?_
        rintro⟨t,u⟩ ⟨⟩ nn
        try dsimp only
        unfold Aby;refine sC (E:=λ(s:Int×Int×Int×Bool) (_g:Unit)=>[(0,.osl 3003 a 0 t.length),(1,Av i),(2,Av f),(3,.clo 163 [.fptr (.sl (b.map Pu)) 0]),(8,Av p),(9,Av u),(22,.clo 163 [.fptr (.sl (b.map Pu)) 0]),(23,.osl 3003 a 0 t.length),(24,Av u),(25,.optr 3003 a u.toNat 0),(26,Av s.1),(27,.osl 3003 a 0 t.length),(28,Av u),(29,Av (i64.wrap (u-1))),(30,.optr 3003 a ((i64.wrap (u-1)).toNat) 0),(31,Av s.2.1),(32,Av s.2.2.1),(33,.bool s.2.2.2)]) (O:=λ_ _=>[(3003,dW a 1 3 (t.map Mk))]) (j:=λs=>AbA u t s.1 s.2.1 s.2.2.1 s.2.2.2) ?_ ?_
        ·refine A 6 ?_;refine PI r ?_ ?_
         ·refine A 4 ?_;refine bD λah ar=>?_
          refine A 5 ?_;refine bD λai au=>?_
          refine A 1 ?_;refine bD λaf av=>?_
          refine A 5 ?_;refine cD r ?_ ?_
          ·refine A 1 ?_;exact xC (s:=(ah,ai,af,(decide (af<0)))) () ((hX))
          ·refine A 4 ?_;exact So (s:=t) () ((hX))
         ·refine A 20 ?_;exact So (s:=t) () ((hX))
        ·rintro⟨aw,ax,ay,az⟩ ⟨⟩ nn
         try dsimp only
         unfold AbA;exact B
       ·rintro aj ⟨⟩ nn
        try dsimp only
        unfold XW;refine A 5 ?_;exact xL (s:=(aj,i64.wrap (p+1))) () ((hX))
      ·refine A 4 ?_;exact RK (d:=.tup []) (s:=ab) () r (by first|rfl|(simp[Px,PA,rdA,raw,strip,PG,cells,PC];done)|(simp[Px,PA,rdA,raw,strip,PG,S.ge,S.go,look,Ub,cells,PC];done)) r ((Ql (E1:=[(0,.osl 3003 a 0 h.length),(1,Av (e.length:Int)),(2,.clo 163 [.fptr (.sl (b.map Pu)) 0]),(6,Av 20),(8,Av f),(18,.tup [])]) (O1:=[(3003,dW a 1 3 (ab.map Mk))]) (hX) (λ_=>Pz (λg=>bif aA 24096 g then g-20000 else bif (aA 1000 g&&aAA g 4096)then g-1000 else g) (by rfl) (hX))))
     ·rintro ac ⟨⟩ nn
      try dsimp only
      unfold Abz;refine AfF λz=>AfG (E:=λ(g:Unit)=>[(0,.osl 2003 a 0 ac.length),(1,Av (e.length:Int)),(2,.clo 163 [.fptr (.sl (b.map Pu)) 0]),(6,Av 20),(8,Av f),(18,.tup [])]) (O:=λg=>[(2003,dW a 1 3 (ac.map Mk))]) () (hE ⟨(QH (q:=h.length) r z),r,r,r,r,r,trivial⟩ ⟨rfl,trivial⟩)<|?_
      rintro⟨⟩ nn
      try dsimp only
      refine A 15 ?_;exact xL (s:=(ac,f,i64.wrap (f+20))) () ((hX))
    ·refine A 3 ?_;exact Abp (s:=(h,i)) () ((hX))
   ·rintro⟨k,o⟩ ⟨⟩ nn
    try dsimp only
    unfold YR;refine A 6 ?_;refine RN (E:=λ(g:Unit)=>[(0,.osl 3003 a 0 k.length),(1,Av (e.length:Int)),(2,.clo 163 [.fptr (.sl (b.map Pu)) 0]),(6,Av 20),(23,.osl 3003 a 0 k.length),(24,Av o),(25,Av (e.length:Int)),(26,.clo 163 [.fptr (.sl (b.map Pu)) 0])]) (O:=λg=>[(3003,dW a 1 3 (k.map Mk))]) () ((Pz (λg=>bif aA 4096 g then g+20000 else g+1000) (by rfl) (hX)))<|?_
    rintro⟨⟩ nn
    try dsimp only
    refine AiX (ES:=λ(_s:(List Int)) (_g:Unit)=>[(0,.osl 2003 a 0 k.length),(1,Av (e.length:Int)),(2,.clo 163 [.fptr (.sl (b.map Pu)) 0]),(6,Av 20),(27,.tup [])]) (OS:=λs _=>[(2003,dW a 1 3 (s.map Mk))]) (j:=λs=>AcA k e s) (ds:=[.osl 3003 a 0 k.length,Av o,Av (e.length:Int),.clo 163 [.fptr (.sl (b.map Pu)) 0]]) (caps:=[]) (E:=[(0,.osl 3003 a 0 k.length),(1,Av o),(2,Av (e.length:Int)),(3,.clo 163 [.fptr (.sl (b.map Pu)) 0])]) rfl rfl rfl rfl rfl (show _=some Ut from by kernel_rfl) rfl rfl ?_ ?_
    ·refine Um (c:=Aof)<|?_;refine A 8 ?_;refine lP (E:=λ(s:(List Int)×Int) (_g:Unit)=>[(0,.osl 3003 a 0 s.1.length),(1,Av o),(2,Av (e.length:Int)),(3,.clo 163 [.fptr (.sl (b.map Pu)) 0]),(8,Av s.2)]) (O:=λs _=>[(3003,dW a 1 3 (s.1.map Mk))]) (body:=λs=>YQ e o b k s.1 s.2) (s:=(k,i64.wrap (o+1))) () ((hX))<|?_
     rintro⟨x9,v⟩ ⟨⟩ nn
     try dsimp only
     unfold YQ;refine A 8 ?_;refine cD r ?_ ?_
     ·refine A 2 ?_;refine bC (E:=λ(s:(List Int)) (_g:Unit)=>[(0,.osl 3003 a 0 s.length),(1,Av o),(2,Av (e.length:Int)),(3,.clo 163 [.fptr (.sl (b.map Pu)) 0]),(8,Av v)]) (O:=λs _=>[(3003,dW a 1 3 (s.map Mk))]) (j:=λs=>Ug v s) ?_ ?_
      ·refine A 7 ?_;refine lP (E:=λ(s:(List Int)×Int) (_g:Unit)=>[(0,.osl 3003 a 0 s.1.length),(1,Av o),(2,Av (e.length:Int)),(3,.clo 163 [.fptr (.sl (b.map Pu)) 0]),(8,Av v),(9,Av s.2)]) (O:=λs _=>[(3003,dW a 1 3 (s.1.map Mk))]) (body:=λs=>Abv o b v s.1 s.2) (s:=(x9,v)) () ((hX))<|?_
       rintro⟨w,x⟩ ⟨⟩ nn
       try dsimp only
       unfold Abv;refine sC (E:=λ(s:Int×Int×Int×Bool) (_g:Unit)=>[(0,.osl 3003 a 0 w.length),(1,Av o),(2,Av (e.length:Int)),(3,.clo 163 [.fptr (.sl (b.map Pu)) 0]),(8,Av v),(9,Av x),(22,.clo 163 [.fptr (.sl (b.map Pu)) 0]),(23,.osl 3003 a 0 w.length),(24,Av x),(25,.optr 3003 a x.toNat 0),(26,Av s.1),(27,.osl 3003 a 0 w.length),(28,Av x),(29,Av (i64.wrap (x-1))),(30,.optr 3003 a ((i64.wrap (x-1)).toNat) 0),(31,Av s.2.1),(32,Av s.2.2.1),(33,.bool s.2.2.2)]) (O:=λ_ _=>[(3003,dW a 1 3 (w.map Mk))]) (j:=λs=>XV x w s.1 s.2.1 s.2.2.1 s.2.2.2) ?_ ?_
       ·refine A 6 ?_;refine PI r ?_ ?_
        ·refine A 4 ?_;refine bD λak ba=>?_
         refine A 5 ?_;refine bD λao bb=>?_
         refine A 1 ?_;refine bD λag bc=>?_
         refine A 5 ?_;refine cD r ?_ ?_
         ·refine A 1 ?_;exact xC (s:=(ak,ao,ag,(decide (ag<0)))) () ((hX))
         ·refine A 4 ?_;exact So (s:=w) () ((hX))
        ·refine A 20 ?_;exact So (s:=w) () ((hX))
       ·rintro⟨bd,bf,bg,bh⟩ ⟨⟩ nn
        try dsimp only
        unfold XV;exact B
      ·rintro ap ⟨⟩ nn
       try dsimp only
       unfold Ug;refine A 5 ?_;exact xL (s:=(ap,i64.wrap (v+1))) () ((hX))
     ·refine A 4 ?_;exact RK (d:=.tup []) (s:=x9) () r (by first|rfl|(simp[Px,PA,rdA,raw,strip,PG,cells,PC];done)|(simp[Px,PA,rdA,raw,strip,PG,S.ge,S.go,look,Ub,cells,PC];done)) r ((Ql (E1:=[(0,.osl 3003 a 0 k.length),(1,Av (e.length:Int)),(2,.clo 163 [.fptr (.sl (b.map Pu)) 0]),(6,Av 20),(27,.tup [])]) (O1:=[(3003,dW a 1 3 (x9.map Mk))]) (hX) (λ_=>Pz (λg=>bif aA 24096 g then g-20000 else bif (aA 1000 g&&aAA g 4096)then g-1000 else g) (by rfl) (hX))))
    ·rintro m ⟨⟩ nn
     try dsimp only
     unfold AcA;refine AfF λz=>AfG (E:=λ(g:Unit)=>[(0,.osl 2003 a 0 m.length),(1,Av (e.length:Int)),(2,.clo 163 [.fptr (.sl (b.map Pu)) 0]),(6,Av 20),(27,.tup [])]) (O:=λg=>[(2003,dW a 1 3 (m.map Mk))]) () (hE ⟨(QH (q:=k.length) r z),r,r,r,r,trivial⟩ ⟨rfl,trivial⟩)<|?_
     rintro⟨⟩ nn
     try dsimp only
     refine A 3 ?_;refine lP (E:=λ(s:Int) (_g:Unit)=>[(0,.osl 2003 a 0 m.length),(1,Av (e.length:Int)),(2,.clo 163 [.fptr (.sl (b.map Pu)) 0]),(6,Av s)]) (O:=λ_ _=>[(2003,dW a 1 3 (m.map Mk))]) (body:=λs=>Acx e m s) (s:=20) () ((hX))<|?_
     rintro y ⟨⟩ nn
     try dsimp only
     unfold Acx;refine A 8 ?_;refine cD r ?_ ?_
     ·refine A 11 ?_;refine bC (E:=λ(_s:Unit) (_g:Unit)=>[(0,.osl 2003 a 0 m.length),(1,Av (e.length:Int)),(2,.clo 163 [.fptr (.sl (b.map Pu)) 0]),(6,Av y),(7,Av 0)]) (O:=λ_ _=>[(2003,dW a 1 3 (m.map Mk))]) (j:=λ_=>AcB y e) ?_ ?_
      ·refine lP (E:=λ(_s:Unit) (_g:Unit)=>[(0,.osl 2003 a 0 m.length),(1,Av (e.length:Int)),(2,.clo 163 [.fptr (.sl (b.map Pu)) 0]),(6,Av y),(7,Av 0),(8,Av (i64.wrap (2*y)))]) (O:=λ_ _=>[(2003,dW a 1 3 (m.map Mk))]) (body:=λ_=>Acy y e) (s:=()) () ((hX))<|?_
       rintro⟨⟩ ⟨⟩ nn
       try dsimp only
       unfold Acy;refine A 8 ?_;refine cD r ?_ ?_
       ·refine A 12 ?_;exact AiY
       ·refine A 3 ?_;exact Abp (s:=()) () ((hX))
      ·rintro⟨⟩ ⟨⟩ nn
       try dsimp only
       unfold AcB;refine A 16 ?_;refine cD r ?_ ?_
       ·refine A 6 ?_;exact AiY
       ·refine A 8 ?_;exact xL (s:=i64.wrap (y*2)) () ((hX))
     ·refine A 4 ?_;exact RK (d:=.tup []) (s:=m) () r (by first|rfl|(simp[Px,PA,rdA,raw,strip,PG,cells,PC];done)|(simp[Px,PA,rdA,raw,strip,PG,S.ge,S.go,look,Ub,cells,PC];done)) r ((Ql (E1:=[(8,.tup [])]) (O1:=[(2003,dW a 1 3 (m.map Mk))]) (hX) (λ_=>Pz (λg=>bif aA 24096 g then g-20000 else bif (aA 1000 g&&aAA g 4096)then g-1000 else g) (by rfl) (hX))))
  ·rintro x4 ⟨⟩ nn
   try dsimp only
   unfold Acz;refine A 1 ?_;refine ApI (d:=.tup []) (E:=[(3,.osl 3 _ 0 e.length),(17,.tup [])]) (O:=[(3,dW _ 1 3 (x4.map Mk))]) r (by first|rfl|(simp[Px,PA,rdA,raw,strip,PG,cells,PC];done)|(simp[Px,PA,rdA,raw,strip,PG,S.ge,S.go,look,Ub,cells,PC];done)) r ((Ql (E1:=[(3,.osl 1003 a 0 e.length),(17,.tup [])]) (O1:=[(1003,dW a 1 3 (x4.map Mk))]) (hX) (λ_=>Pz (λg=>bif aA 24096 g then g-20000 else bif (aA 1000 g&&aAA g 4096)then g-1000 else g) (by rfl) (hX)))) λnn=>AfF λz=>AfG (E:=λ(g:Nat)=>[(3,.osl 3 g 0 x4.length),(17,.tup [])]) (O:=λg=>[(3,dW g 1 3 (x4.map Mk))]) _ (hE ⟨(QH (q:=e.length) r z),r,trivial⟩ ⟨rfl,trivial⟩)<|?_
   rintro bi nn
   try dsimp only
   exact B

def YH (a:(List Pa)×(List Int)×Int):List D:=[.sl (a.1.map Pu),.sl (a.2.1.map Mk),Av a.2.2]
def YG (ds:List D):(List Pa)×(List Int)×Int:=((uL UL) (ds.getD 0 .top),(uL uI) (ds.getD 1 .top),uI (ds.getD 2 .top))
instance:Py YH YG:=⟨λa=>by simp[YG,YH,uI,Qf (u:=UL) (en:=Pu) Acl,Qf (u:=uI) (en:=Mk) (λ_=>rfl)]⟩
def AkI (b:OX):D:=PH b
def Afc:Dw.Spec:=Pe [] .ground YH YG (λa=>YS a.1 a.2.1 a.2.2) AkI noE
theorem AjF:Pb Tryz.prog 123 Afc:=by
 refine fn2 3 (PD) Tryz.func123<|?_;intro a;unfold YS;exact B

def Xt:Dw.Spec:=Pe [] .ground Qp Qo (λa=>Sv a) Po noE
theorem YZ:Pb Tryz.prog 166 Xt:=by
 refine fn2 1 (PD) Tryz.func166<|?_;intro a;unfold Sv;exact B

def Yc (a:OX):List D:=[PH a]
def Yb (ds:List D):OX:=Uc (ds.getD 0 .top)
instance:Py Yc Yb:=⟨λa=>by simp[Yb,Yc]⟩
def AdD:Dw.Spec:=Pe [] .ground Yc Yb (λa=>Xu a) Po noE
theorem AgE:Pb Tryz.prog 169 AdD:=by
 refine fn2 1 (Pf (l:=[(166,Xt)]) (by simp[YZ])) Tryz.func169<|?_
 intro a;unfold Xu;exact B

def AhG:Dw.Spec:=Pe [] .ground Yc Yb (λa=>AcE a) Po noE
theorem Amt:Pb Tryz.prog 168 AhG:=by
 refine fn2 1 (Pf (l:=[(169,AdD)]) (by simp[AgE])) Tryz.func168<|?_
 intro a;unfold AcE;exact B

def PX (a:(List OX)):List D:=[.sl (a.map PH),.clo 168 []]
def PW (ds:List D):(List OX):=(uL Uc) (ds.getD 0 .top)
instance:Py PX PW:=⟨λa=>by simp[PW,PX,Qf (u:=Uc) (en:=PH) Aem]⟩
def Qy:Dw.Spec:=Pe [] .ground PX PW (λa=>Qe a) Pg noE
theorem UC:Pb Tryz.prog 198 Qy:=by
 refine fn2 2 (Pf (l:=[(168,AhG)]) (by simp[Amt])) Tryz.func198<|?_
 intro a;unfold Qe;refine A 14 ?_;refine lP (E:=λ(s:Int) (_g:Unit)=>[(0,.sl (a.map PH)),(1,.clo 168 []),(7,Av (a.length:Int)),(8,Av s)]) (O:=λ_ _=>[]) (body:=λs=>Qx a s) (s:=0) () ((hX))<|?_
 rintro b ⟨⟩ nn
 try dsimp only
 unfold Qx;refine A 6 ?_;refine cD r ?_ ?_
 ·refine A 15 ?_;refine bD λc d=>?_
  refine A 2 ?_;refine bD λe f=>?_
  refine A 3 ?_;refine cD r ?_ ?_
  ·exact B
  ·refine A 7 ?_;exact xL (s:=i64.wrap (b+1)) () ((hX))
 ·exact B

def Qq:Dw.Spec:=Pe [] .ground PX PW (λa=>PK a) Po noE
theorem Ua:Pb Tryz.prog 167 Qq:=by
 refine fn2 2 (Pf (l:=[(692422,Qy)]) (by simp[UC])) Tryz.func167<|?_
 intro a;unfold PK;refine A 9 ?_;refine bD λc b=>cG a rfl rfl (show _=some Qy from by kernel_rfl) Py.ok rfl rfl (by simp) r b r<|?_
 exact B

def AaJ (a:Int):List D:=[AjG a]
def AaI (ds:List D):Int:=uI (ds.getD 0 .top)
instance:Py AaJ AaI:=⟨λa=>by simp[AaI,AaJ,uI]⟩
def AcO:Dw.Spec:=Pe [] .ground AaJ AaI (λa=>Abc a) Pg noE
theorem AlQ:Pb Tryz.prog 200 AcO:=by
 refine fn2 1 (Pf (l:=[(222,AlO)]) (by simp[Ase])) Tryz.func200<|?_
 intro a;unfold Abc;exact B

def Ya (a:OX×OX):List D:=[PH a.1,PH a.2]
def XZ (ds:List D):OX×OX:=(Uc (ds.getD 0 .top),Uc (ds.getD 1 .top))
instance:Py Ya XZ:=⟨λa=>by simp[XZ,Ya]⟩
def Ady:Dw.Spec:=Pe [] .ground Ya XZ (λa=>Zt a.1 a.2) Pg noE
theorem Amu:Pb Tryz.prog 172 Ady:=by
 refine fn2 2 (Pf (l:=[(165,Aau)]) (by simp[Aep])) Tryz.func172<|?_
 intro a;unfold Zt;exact B

def Ahc:Dw.Spec:=Pe [] .ground SB SA (λa=>Zw a.1 a.2) Pg noE
theorem AjS:Pb Tryz.prog 173 Ahc:=by
 refine fn2 2 (PD) Tryz.func173<|?_;intro a;unfold Zw;exact B

def Aja:Dw.Spec:=Pe [] .ground Ya XZ (λa=>AaL a.1 a.2) Po noE
theorem AmO:Pb Tryz.prog 174 Aja:=by
 refine fn2 2 (PD) Tryz.func174<|?_;intro a;unfold AaL;exact B

def AqZ:PZ:=(Tryz.f171.body.bind (PS Tryz.prog Tryz.f171.ntmps)).getD .skip
theorem Aup:(Tryz.f171.body.bind (PS Tryz.prog Tryz.f171.ntmps))=some AqZ:=by kernel_rfl
theorem Auq:Tryz.f171.results.toList.mapM (Tw Tryz.prog)=some []:=by kernel_rfl

def Arc:PZ:=(Tryz.f199.body.bind (PS Tryz.prog Tryz.f199.ntmps)).getD .skip
theorem Auv:(Tryz.f199.body.bind (PS Tryz.prog Tryz.f199.ntmps))=some Arc:=by kernel_rfl
theorem Auw:Tryz.f199.results.toList.mapM (Tw Tryz.prog)=some []:=by kernel_rfl

def Ard:PZ:=(Tryz.f213.body.bind (PS Tryz.prog Tryz.f213.ntmps)).getD .skip
theorem Auz:(Tryz.f213.body.bind (PS Tryz.prog Tryz.f213.ntmps))=some Ard:=by kernel_rfl
theorem AuA:Tryz.f213.results.toList.mapM (Tw Tryz.prog)=some []:=by kernel_rfl

def AdA (a:(List OX)×Int×Int×Int):List D:=[.sl (a.1.map PH),Av a.2.1,Av a.2.2.1,Av a.2.2.2]
def Adz (ds:List D):(List OX)×Int×Int×Int:=((uL Uc) (ds.getD 0 .top),uI (ds.getD 1 .top),uI (ds.getD 2 .top),uI (ds.getD 3 .top))
instance:Py AdA Adz:=⟨λa=>by simp[Adz,AdA,uI,Qf (u:=Uc) (en:=PH) Aem]⟩
def AcF (b:Int×Int):D:=.tup [Av b.1,Av b.2]
def AjR:Dw.Spec:=Pe [] .ground AdA Adz (λa=>XY a.1 a.2.1 a.2.2.1 a.2.2.2) AcF noE
def YY:Dw.Spec:=Vm (specs [(172,Ady)]) 4 [] Ard
theorem AlG:Pb Tryz.prog 213 YY:=RR (Pf (l:=[(172,Ady)]) (by simp[Amu])) Tryz.func213 (by decide) Auz AuA (by decide)
def YX:Dw.Spec:=Vm (specs [(708821,YY)]) 5 [] Arc
theorem AlF:Pb Tryz.prog 199 YX:=RR (Pf (l:=[(708821,YY)]) (by simp[AlG])) Tryz.func199 (by decide) Auv Auw (by decide)
def AcG:Dw.Spec:=Vm (specs [(200,AcO),(708807,YX)]) 2 [] AqZ
theorem AlE:Pb Tryz.prog 171 AcG:=RR (Pf (l:=[(200,AcO),(708807,YX)]) (by simp[AlQ,AlF])) Tryz.func171 (by decide) Aup Auq (by decide)
theorem AnN:Pb Tryz.prog 124 AjR:=by
 refine fn2 4 (Pf (l:=[(166,Xt),(158,Aad),(692391,Qq),(170,AoE),(708779,AcG),(173,Ahc),(174,Aja)]) (by simp[YZ,AcH,Ua,ArL,AlE,AjS,AmO])) Tryz.func124<|?_
 rintro⟨t,h,e,f⟩;unfold XY;refine A 6 ?_;refine sC (E:=λ(_s:Unit) (_g:Unit)=>[(0,.sl (t.map PH)),(1,Av h),(2,Av e),(3,Av f)]) (O:=λ_ _=>[]) (j:=λ_=>AaZ t h f e) ?_ ?_
 ·refine A 3 ?_;refine bD λak ao=>?_
  refine A 3 ?_;refine PI r ?_ ?_
  ·exact B
  ·refine A 1 ?_;refine bD λap aq=>?_
   refine A 4 ?_;refine PI r ?_ ?_
   ·exact B
   ·refine A 1 ?_;refine bD λar au=>?_
    refine A 4 ?_;refine PI r ?_ ?_
    ·exact B
    ·refine A 1 ?_;refine bD λav z=>cG t rfl rfl (show _=some Qq from by kernel_rfl) Py.ok rfl rfl (by simp) r z r<|?_
     refine A 3 ?_;refine cD r ?_ ?_
     ·exact B
     ·refine A 1 ?_;exact xC (s:=()) () ((hX))
 ·rintro⟨⟩ ⟨⟩ nn
  try dsimp only
  unfold AaZ;refine A 3 ?_;refine bD λa aw=>?_
  refine A 7 ?_;refine RN (E:=λ(g:Nat)=>[(1,Av h),(2,Av e),(3,Av f),(10,.osl 1010 g 0 a.length),(33,.osl 1010 g 0 a.length)]) (O:=λg=>[(1010,dW g 2 121 (a.map PH))]) _ ((Pz (λg=>bif aA 4096 g then g+20000 else g+1000) (by rfl) (hX)))<|?_
  rintro b nn
  try dsimp only
  refine AdX (ds:=[.osl 1010 b 0 a.length,.clo 172 []]) (caps:=[]) (E:=[(0,.osl 1010 b 0 a.length),(1,.clo 172 [])]) rfl rfl rfl rfl rfl (show _=some AcG from by kernel_rfl) rfl rfl<|Um (c:=AqZ)<|?_
  refine A 12 ?_;refine bD λp ax=>?_
  refine A 2 ?_;refine RN (E:=λ(g:Unit)=>[(7,.osl 2010 b 0 a.length),(8,Av (a.length:Int)),(11,Av p),(12,.clo 172 [])]) (O:=λg=>[(2010,dW b 2 121 (a.map PH))]) () ((Pz (λg=>bif aA 4096 g then g+20000 else g+1000) (by rfl) (hX)))<|?_
  rintro⟨⟩ nn
  try dsimp only
  refine Yu (ES:=λ(_s:(List OX)) (_g:Unit)=>[(13,.tup [])]) (OS:=λs _=>[(1010,dW b 2 121 (s.map PH))]) (j:=λs=>AeO a h f e s) (ds:=[.osl 2010 b 0 a.length,Av 0,Av (a.length:Int),Av p,.clo 172 []]) (caps:=[]) (E:=[(0,.osl 2010 b 0 a.length),(1,Av 0),(2,Av (a.length:Int)),(3,Av p),(4,.clo 172 [])]) rfl rfl rfl rfl rfl (show _=some YX from by kernel_rfl) rfl rfl ?_ ?_
  ·refine Um (c:=Arc)<|?_;refine A 11 ?_;refine lP (E:=λ(_s:Unit) (_g:Unit)=>[(0,.osl 2010 b 0 a.length),(1,Av 0),(2,Av (a.length:Int)),(3,Av p),(4,.clo 172 []),(10,.bool true),(11,.bool true)]) (O:=λ_ _=>[(2010,dW b 2 121 (a.map PH))]) (body:=λ_=>AaY a h f e p) (s:=()) () ((hX))<|?_
   rintro⟨⟩ ⟨⟩ nn
   try dsimp only
   unfold AaY;refine A 16 ?_;refine cD r ?_ ?_
   ·refine A 6 ?_;refine RN (E:=λ(g:Unit)=>[(26,.osl 3010 b 0 a.length),(27,Av 0),(28,Av (a.length:Int)),(29,.clo 172 [])]) (O:=λg=>[(3010,dW b 2 121 (a.map PH))]) () ((Pz (λg=>bif aA 4096 g then g+20000 else g+1000) (by rfl) (hX)))<|?_
    rintro⟨⟩ nn
    try dsimp only
    refine Yu (ES:=λ(_s:(List OX)) (_g:Unit)=>[(30,.tup [])]) (OS:=λs _=>[(2010,dW b 2 121 (s.map PH))]) (j:=λs=>AeP a h f e s) (ds:=[.osl 3010 b 0 a.length,Av 0,Av (a.length:Int),.clo 172 []]) (caps:=[]) (E:=[(0,.osl 3010 b 0 a.length),(1,Av 0),(2,Av (a.length:Int)),(3,.clo 172 [])]) rfl rfl rfl rfl rfl (show _=some YY from by kernel_rfl) rfl rfl ?_ ?_
    ·refine Um (c:=Ard)<|?_;refine A 8 ?_;refine lP (E:=λ(s:(List OX)×Int) (_g:Unit)=>[(0,.osl 3010 b 0 s.1.length),(1,Av 0),(2,Av (a.length:Int)),(3,.clo 172 []),(8,Av s.2)]) (O:=λs _=>[(3010,dW b 2 121 (s.1.map PH))]) (body:=λs=>AeM a h f e s.1 s.2) (s:=(a,i64.wrap (0+1))) () ((hX))<|?_
     rintro⟨u,o⟩ ⟨⟩ nn
     try dsimp only
     unfold AeM;refine A 8 ?_;refine cD r ?_ ?_
     ·refine A 2 ?_;refine bC (E:=λ(s:(List OX)) (_g:Unit)=>[(0,.osl 3010 b 0 s.length),(1,Av 0),(2,Av (a.length:Int)),(3,.clo 172 []),(8,Av o)]) (O:=λs _=>[(3010,dW b 2 121 (s.map PH))]) (j:=λs=>VS o s) ?_ ?_
      ·refine A 7 ?_;refine lP (E:=λ(s:(List OX)×Int) (_g:Unit)=>[(0,.osl 3010 b 0 s.1.length),(1,Av 0),(2,Av (a.length:Int)),(3,.clo 172 []),(8,Av o),(9,Av s.2)]) (O:=λs _=>[(3010,dW b 2 121 (s.1.map PH))]) (body:=λs=>AeN o s.1 s.2) (s:=(u,o)) () ((hX))<|?_
       rintro⟨i,k⟩ ⟨⟩ nn
       try dsimp only
       unfold AeN;refine sC (E:=λ(s:OX×OX×Int×Bool) (_g:Unit)=>[(0,.osl 3010 b 0 i.length),(1,Av 0),(2,Av (a.length:Int)),(3,.clo 172 []),(8,Av o),(9,Av k),(22,.clo 172 []),(23,.osl 3010 b 0 i.length),(24,Av k),(25,.optr 3010 b k.toNat 0),(26,.agg [Av s.1.Off,Av s.1.Size]),(27,.osl 3010 b 0 i.length),(28,Av k),(29,Av (i64.wrap (k-1))),(30,.optr 3010 b ((i64.wrap (k-1)).toNat) 0),(31,.agg [Av s.2.1.Off,Av s.2.1.Size]),(32,Av s.2.2.1),(33,.bool s.2.2.2)]) (O:=λ_ _=>[(3010,dW b 2 121 (i.map PH))]) (j:=λs=>Aba k i s.1 s.2.1 s.2.2.1 s.2.2.2) ?_ ?_
       ·refine A 6 ?_;refine PI r ?_ ?_
        ·refine A 4 ?_;refine bD λaa ay=>?_
         refine A 5 ?_;refine bD λab az=>?_
         refine A 1 ?_;refine bD λv ba=>?_
         refine A 5 ?_;refine cD r ?_ ?_
         ·refine A 1 ?_;exact xC (s:=(aa,ab,v,(decide (v<0)))) () ((hX))
         ·refine A 4 ?_;exact So (s:=i) () ((hX))
        ·refine A 20 ?_;exact So (s:=i) () ((hX))
       ·rintro⟨bb,bc,bd,bf⟩ ⟨⟩ nn
        try dsimp only
        unfold Aba;refine A 12 ?_;refine bD λw bg=>?_
        refine A 4 ?_;refine bD λac bh=>?_
        refine A 2 ?_;refine bD λbi ad=>sE (l:=i) (en:=PH) (q':=w) r r r r r r r (by simp) ad r r r r r<|?_
        refine A 1 ?_;refine bD λbj ae=>sE (l:=i.set k.toNat w) (en:=PH) (q':=ac) r r r r r r r (by simp) ae r r r r r<|?_
        exact B
      ·rintro af ⟨⟩ nn
       try dsimp only
       unfold VS;refine A 5 ?_;exact xL (s:=(af,i64.wrap (o+1))) () ((hX))
     ·refine A 4 ?_;exact RK (d:=.tup []) (s:=u) () r (by first|rfl|(simp[Px,PA,rdA,raw,strip,PG,cells,PC];done)|(simp[Px,PA,rdA,raw,strip,PG,S.ge,S.go,look,Ub,cells,PC];done)) r ((Ql (E1:=[(30,.tup [])]) (O1:=[(3010,dW b 2 121 (u.map PH))]) (hX) (λ_=>Pz (λg=>bif aA 24096 g then g-20000 else bif (aA 1000 g&&aAA g 4096)then g-1000 else g) (by rfl) (hX))))
    ·rintro x ⟨⟩ nn
     try dsimp only
     unfold AeP;refine A 7 ?_;exact RK (d:=.tup []) (s:=x) () r (by first|rfl|(simp[Px,PA,rdA,raw,strip,PG,cells,PC];done)|(simp[Px,PA,rdA,raw,strip,PG,S.ge,S.go,look,Ub,cells,PC];done)) r ((Ql (E1:=[(13,.tup [])]) (O1:=[(2010,dW b 2 121 (x.map PH))]) (hX) (λ_=>Pz (λg=>bif aA 24096 g then g-20000 else bif (aA 1000 g&&aAA g 4096)then g-1000 else g) (by rfl) (hX))))
   ·refine A 9 ?_;refine cD r ?_ ?_
    ·refine A 6 ?_;exact AiY
    ·refine A 2 ?_;refine sC (E:=λ(_s:Unit) (_g:Unit)=>[(0,.osl 2010 b 0 a.length),(1,Av 0),(2,Av (a.length:Int)),(3,Av p),(4,.clo 172 []),(10,.bool true),(11,.bool true),(12,Av (i64.wrap ((a.length:Int)-0)))]) (O:=λ_ _=>[(2010,dW b 2 121 (a.map PH))]) (j:=λ_=>AdB) ?_ ?_
     ·refine A 8 ?_;exact xC (s:=()) () ((hX))
     ·rintro⟨⟩ ⟨⟩ nn
      try dsimp only
      unfold AdB;refine A 6 ?_;exact AiY
  ·rintro m ⟨⟩ nn
   try dsimp only
   unfold AeO;refine A 1 ?_;refine ApI (d:=.tup []) (E:=[(1,Av h),(2,Av e),(3,Av f),(10,.osl 10 _ 0 a.length),(34,.tup [])]) (O:=[(10,dW _ 2 121 (m.map PH))]) r (by first|rfl|(simp[Px,PA,rdA,raw,strip,PG,cells,PC];done)|(simp[Px,PA,rdA,raw,strip,PG,S.ge,S.go,look,Ub,cells,PC];done)) r ((Ql (E1:=[(1,Av h),(2,Av e),(3,Av f),(10,.osl 1010 b 0 a.length),(34,.tup [])]) (O1:=[(1010,dW b 2 121 (m.map PH))]) (hX) (λ_=>Pz (λg=>bif aA 24096 g then g-20000 else bif (aA 1000 g&&aAA g 4096)then g-1000 else g) (by rfl) (hX)))) λnn=>AfF λag=>AfG (E:=λ(g:Nat)=>[(1,Av h),(2,Av e),(3,Av f),(10,.osl 10 g 0 m.length),(34,.tup [])]) (O:=λg=>[(10,dW g 2 121 (m.map PH))]) _ (hE ⟨rfl,r,r,(QH (q:=a.length) r ag),r,trivial⟩ ⟨rfl,trivial⟩)<|?_
   rintro bk nn
   try dsimp only
   refine A 6 ?_;refine bD λr8 bl=>?_
   refine A 13 ?_;refine lP (E:=λ(s:Int×Int) (g:Nat)=>[(2,Av e),(3,Av f),(11,Av s.1),(38,.osl 10 g 0 m.length),(39,Av (m.length:Int)),(40,Av s.2)]) (O:=λ_ g=>[(10,dW g 2 121 (m.map PH))]) (body:=λs=>AaX m e f s.1 s.2) (s:=(r8,0)) _ ((hX))<|?_
   rintro⟨ai,y⟩ bm nn
   try dsimp only
   unfold AaX;refine A 6 ?_;refine cD r ?_ ?_
   ·refine A 7 ?_;refine bD λbn bo=>?_
    refine A 11 ?_;refine bD λbp bq=>?_
    refine A 3 ?_;refine cD r ?_ ?_
    ·refine A 7 ?_;refine bD λaj br=>?_
     refine A 9 ?_;exact xL (s:=(aj,i64.wrap (y+1))) _ ((hX))
    ·refine A 7 ?_;exact xL (s:=(ai,i64.wrap (y+1))) _ ((hX))
   ·exact B

end
end Go.Proofs.YtilmapojncgflaaGreatDoor
