/-
 The code does what its typed programs say.
-/
import Derived.Test.YtcaoepecbgggcaaGreatDoorProg
import Derived.Test.YtcaoepecbgggcaaGreatDoorDc
import Derived.KernelRfl
import Derived.Test.YtcaoepecbgggcaaGreatDoorSh
import Derived.Test.YtcaoepecbgggcaaGreatDoorDxP
import Derived.Test.YtcaoepecbgggcaaGreatDoorDxF1
import Derived.Test.YtcaoepecbgggcaaGreatDoorDxF2
import Derived.Test.YtcaoepecbgggcaaGreatDoorDxF3
import Derived.Test.YtcaoepecbgggcaaGreatDoorDxF4
import Derived.Test.YtcaoepecbgggcaaGreatDoorDg2
import Derived.Test.YtcaoepecbgggcaaGreatDoorDxF5
open Nat renaming ble->aA
namespace Go.Proofs.YtcaoepecbgggcaaGreatDoor
open Go Go.Dw Go.Proofs
open Go.IntKind (i64)
set_option maxRecDepth 100000
set_option maxHeartbeats 40000000
open Go.Dw renaming Ql -> bD,YI -> bS,UZ -> cD,Xt -> xC,Ui -> xL,Xu -> lP,Tt -> sC,Aqe -> mF,rf -> r
noncomputable section
def Aff (a:NG×(List NR)):List D:=[Ps a.1,.sl (a.2.map Oe)]
def Afe (ds:List D):NG×(List NR):=(Rn (ds.getD 0 .top),(uL Yn) (ds.getD 1 .top))
instance:Oc Aff Afe:=⟨λa=>by simp[Afe,Aff,Oy (u:=Yn) (en:=Oe) Amt]⟩
def AcG (b:RA×Int):D:=.tup [Apm b.1,Av b.2]
def AmK:Dw.Spec:=NI [] .val Aff Afe (λa=>Agk a.1 a.2) AcG noE
def Adx:Dw.Spec:=Acj (specs [(108,Amp)]) 1 [(.t 2)] Ays
theorem Ape:ND Tryz.prog 52 Adx:=Ve (NJ (l:=[(108,Amp)]) (by simp[AuX])) Tryz.func52 (by decide) AAv AAw (by decide)
def Adz:Dw.Spec:=Acj (specs [(109,AoT),(110,AeE)]) 1 [(.t 2)] Ayt
theorem Apg:ND Tryz.prog 53 Adz:=Ve (NJ (l:=[(109,AoT),(110,AeE)]) (by simp[Azy,AmE])) Tryz.func53 (by decide) AAx AAy (by decide)
def AdB:Dw.Spec:=Acj (specs [(38,AaU),(39,Yf),(111,AdW)]) 1 [(.t 2)] Ayu
theorem Api:ND Tryz.prog 54 AdB:=Ve (NJ (l:=[(38,AaU),(39,Yf),(111,AdW)]) (by simp[Alb,Afh,AoS])) Tryz.func54 (by decide) AAz AAA (by decide)
def AdD:Dw.Spec:=Acj (specs [(12,Abp),(43,Abv),(112,Ajs)]) 3 [(.t 6)] Awu
theorem Apl:ND Tryz.prog 56 AdD:=Ve (NJ (l:=[(12,Abp),(43,Abv),(112,Ajs)]) (by simp[Akx,AkH,Asx])) Tryz.func56 (by decide) AAD AAE (by decide)
def AbS:Dw.Spec:=Acj (specs [(38,AaU),(113,Aga),(111,AdW),(114,Aba),(115,AkF)]) 1 [(.t 2)] Ayv
theorem AoJ:ND Tryz.prog 57 AbS:=Ve (NJ (l:=[(38,AaU),(113,Aga),(111,AdW),(114,Aba),(115,AkF)]) (by simp[Alb,Arc,AoS,AnA,Atv])) Tryz.func57 (by decide) AAF AAG (by decide)
def Adw:Dw.Spec:=Acj (specs [(52,Adx)]) 2 [] Ajn
theorem Apd:ND Tryz.prog 51 Adw:=Ve (NJ (l:=[(52,Adx)]) (by simp[Ape])) Tryz.func51 (by decide) AoV AoW (by decide)
def Ady:Dw.Spec:=Acj (specs [(53,Adz)]) 2 [] Ajn
theorem Apf:ND Tryz.prog 51 Ady:=Ve (NJ (l:=[(53,Adz)]) (by simp[Apg])) Tryz.func51 (by decide) AoV AoW (by decide)
def AdA:Dw.Spec:=Acj (specs [(54,AdB)]) 2 [] Ajn
theorem Aph:ND Tryz.prog 51 AdA:=Ve (NJ (l:=[(54,AdB)]) (by simp[Api])) Tryz.func51 (by decide) AoV AoW (by decide)
def AdC:Dw.Spec:=Acj (specs [(56,AdD)]) 3 [(.t 3)] Awt
theorem Apk:ND Tryz.prog 55 AdC:=Ve (NJ (l:=[(56,AdD)]) (by simp[Apl])) Tryz.func55 (by decide) AAB AAC (by decide)
def AbR:Dw.Spec:=Acj (specs [(57,AbS)]) 2 [] Ajn
theorem AoI:ND Tryz.prog 51 AbR:=Ve (NJ (l:=[(57,AbS)]) (by simp[AoJ])) Tryz.func51 (by decide) AoV AoW (by decide)
def YP:Dw.Spec:=Acj (specs [(55,AdC)]) 2 [] Ajn
theorem Apj:ND Tryz.prog 51 YP:=Ve (NJ (l:=[(55,AdC)]) (by simp[Apk])) Tryz.func51 (by decide) AoV AoW (by decide)
theorem ArL:ND Tryz.prog 17 AmK:=by
 refine fn3 50 2 2 (NJ (l:=[(16994355,Adw),(16998451,Ady),(17002547,AdA),(229427,YP),(17014835,AbR)]) (by simp[Apd,Apf,Aph,Apj,AoI])) NZ Tryz.func17 Tryz.func50<|?_
 rintro⟨a,o⟩;unfold Agk;refine A 8 ?_;refine mF (caps:=[.optr 5 _ 0 0,.optr 4 _ 0 0]) r r (by simp[SN])<|?_
 refine A 1 ?_;refine AAf (E:=λ(g:Nat×Nat×Nat)=>[(1,.sl (o.map Oe)),(2,.optr 2 g.1 0 0),(4,.optr 4 g.2.1 0 0),(5,.optr 5 g.2.2 0 0),(9,.clo 50 [.optr 5 g.2.2 0 0,.optr 4 g.2.1 0 0])]) (O:=λg=>[(2,dV g.1 1 28 (.agg [.sl (a.Funcs.map NM)])),(4,dV g.2.1 5 60 (.agg [Av 0,.nils,Av 0,.nils,.nils])),(5,dV g.2.2 1 40 (Av 0))]) (cp:=λg=>[.optr 5 g.2.2 0 0,.optr 4 g.2.1 0 0]) (_,_,_) hX (λ_=>r)<|?_
 rintro⟨cn,e,f⟩ nn
 try dsimp only
 refine A 13 ?_;refine mF (caps:=[.optr 12 _ 0 0]) r r (by simp[SN])<|Uh (E:=λ(g:Nat×Nat×Nat)=>[(1,.sl (o.map Oe)),(2,.optr 1002 g.1 0 0),(4,.optr 1004 e 0 0),(5,.optr 1005 f 0 0),(6,.optr 1006 g.2.1 0 0),(13,.optr 1012 g.2.2 0 0),(15,.clo 4148 [.optr 1012 g.2.2 0 0])]) (O:=λg=>[(1002,dV g.1 1 28 (.agg [.sl (a.Funcs.map NM)])),(1004,dV e 5 60 (.agg [Av 0,.nils,Av 0,.nils,.nils])),(1005,dV f 1 40 (Av 0)),(1006,dV g.2.1 1 98 (.optr 1012 g.2.2 0 0)),(1012,dV g.2.2 8 100 (.agg [.sl (a.Funcs.map NM),.nils,Av 0,.nils,Av 0,.nils,.nils,Av 0]))]) (_,_,_) ((PC (λg=>bif aA 4096 g then g+20000 else g+1000) (by kernel_rfl) hX))<|?_
 rintro⟨bp,bq,z⟩ nn
 try dsimp only
 refine AaW (ES:=λ(_s:Int) (g:Nat×Nat×Nat)=>[(1,.sl (o.map Oe)),(2,.optr 2 g.1 0 0),(4,.optr 4 e 0 0),(5,.optr 5 f 0 0),(6,.optr 6 g.2.1 0 0),(16,.tup [])]) (OS:=λs g=>[(2,dV g.1 1 28 (.agg [.sl (a.Funcs.map NM)])),(4,dV e 5 60 (.agg [Av 0,.nils,Av 0,.nils,.nils])),(5,dV f 1 40 (Av 0)),(6,dV g.2.1 1 98 (.optr 12 g.2.2 0 0)),(12,dV g.2.2 8 100 (.agg [.sl (a.Funcs.map NM),.nils,Av 0,.nils,Av 0,.nils,.nils,Av s]))]) (j:=λs=>XM a o s) (ds:=[.optr 1012 z 0 0,.clo 4148 [.optr 1012 z 0 0]]) (caps:=[]) (E:=[(0,.optr 1012 z 0 0),(1,.clo 4148 [.optr 1012 z 0 0])]) rfl rfl rfl rfl rfl (show _=some Adw from by kernel_rfl) rfl rfl ?_ ?_
 ·refine Zc (c:=Ajn)<|?_;refine Ac 9 ?_ ?_
  ·refine A 3 ?_;refine Uh (E:=λ(g:Unit)=>[(9,.optr 2012 z 0 0),(10,.clo 4148 [.optr 2012 z 0 0])]) (O:=λg=>[(2002,dV bp 1 28 (.agg [.sl (a.Funcs.map NM)])),(2004,dV e 5 60 (.agg [Av 0,.nils,Av 0,.nils,.nils])),(2005,dV f 1 40 (Av 0)),(2006,dV bq 1 98 (.optr 2012 z 0 0)),(2012,dV z 8 100 (.agg [.sl (a.Funcs.map NM),.nils,Av 0,.nils,Av 0,.nils,.nils,Av 0]))]) () ((PC (λg=>bif aA 4096 g then g+20000 else g+1000) (by kernel_rfl) hX))<|?_
   rintro⟨⟩ nn
   try dsimp only
   refine Ald (ds:=[]) (caps:=[.optr 2012 z 0 0]) (E:=[(0,.optr 2012 z 0 0)]) r r r r r r r r<|Zc (c:=Ays)<|?_;refine Ab 11 λax co=>?_
   refine A 5 ?_;refine Aiv (d:=Av ax) (E:=[(9,.optr 1012 z 0 0),(11,Av ax)]) (O:=[(1002,dV bp 1 28 (.agg [.sl (a.Funcs.map NM)])),(1004,dV e 5 60 (.agg [Av 0,.nils,Av 0,.nils,.nils])),(1005,dV f 1 40 (Av 0)),(1006,dV bq 1 98 (.optr 1012 z 0 0)),(1012,dV z 8 100 (.agg [.sl (a.Funcs.map NM),.nils,Av 0,.nils,Av 0,.nils,.nils,Av 0]))]) r (by first|rfl|(simp[Ol,Oq,rdA,raw,strip,Ou,cells,Oo];done)|(simp[Ol,Oq,rdA,raw,strip,Ou,S.ge,S.go,look,SX,cells,Oo];done)) r ((PN [] hX (by kernel_rfl) (λ_=>hX))) λnn=>?_
   refine A 4 ?_;exact Qv (d:=.tup []) (s:=ax) (_,_,_) r (by first|rfl|(simp[Ol,Oq,rdA,raw,strip,Ou,cells,Oo];done)|(simp[Ol,Oq,rdA,raw,strip,Ou,S.ge,S.go,look,SX,cells,Oo];done)) r ((PN [] hX (by kernel_rfl) (λ_=>hX)))
  ·refine A 1 ?_;exact Qv (d:=.tup []) (s:=0) (_,_,_) r (by first|rfl|(simp[Ol,Oq,rdA,raw,strip,Ou,cells,Oo];done)|(simp[Ol,Oq,rdA,raw,strip,Ou,S.ge,S.go,look,SX,cells,Oo];done)) r ((PN [] hX (by kernel_rfl) (λ_=>hX)))
 ·rintro x3 ⟨cq,cr,cs⟩ nn
  try dsimp only
  unfold XM;refine A 6 ?_;refine mF (caps:=[.optr 12 _ 0 0]) r r (by simp[SN])<|Uh (E:=λ(g:Nat×Nat×Nat)=>[(1,.sl (o.map Oe)),(2,.optr 1002 g.1 0 0),(4,.optr 1004 e 0 0),(5,.optr 1005 f 0 0),(6,.optr 1006 g.2.1 0 0),(17,.optr 1012 g.2.2 0 0),(19,.clo 4149 [.optr 1012 g.2.2 0 0])]) (O:=λg=>[(1002,dV g.1 1 28 (.agg [.sl (a.Funcs.map NM)])),(1004,dV e 5 60 (.agg [Av 0,.nils,Av 0,.nils,.nils])),(1005,dV f 1 40 (Av 0)),(1006,dV g.2.1 1 98 (.optr 1012 g.2.2 0 0)),(1012,dV g.2.2 8 100 (.agg [.sl (a.Funcs.map NM),.nils,Av 0,.nils,Av 0,.nils,.nils,Av x3]))]) (_,_,_) ((PC (λg=>bif aA 4096 g then g+20000 else g+1000) (by kernel_rfl) hX))<|?_
  rintro⟨ao,ap,u⟩ nn
  try dsimp only
  refine AaW (ES:=λ(_s:(List (List Int))×Int) (g:Nat×Nat×Nat)=>[(1,.sl (o.map Oe)),(2,.optr 2 g.1 0 0),(4,.optr 4 e 0 0),(5,.optr 5 f 0 0),(6,.optr 6 g.2.1 0 0),(20,.tup [])]) (OS:=λs g=>[(2,dV g.1 1 28 (.agg [.sl (a.Funcs.map NM)])),(4,dV e 5 60 (.agg [Av 0,.nils,Av 0,.nils,.nils])),(5,dV f 1 40 (Av 0)),(6,dV g.2.1 1 98 (.optr 12 g.2.2 0 0)),(12,dV g.2.2 8 100 (.agg [.sl (a.Funcs.map NM),.sl (s.1.map (eL NA)),Av 0,.nils,Av 0,.nils,.nils,Av s.2]))]) (j:=λs=>XN a o s.1 s.2) (ds:=[.optr 1012 u 0 0,.clo 4149 [.optr 1012 u 0 0]]) (caps:=[]) (E:=[(0,.optr 1012 u 0 0),(1,.clo 4149 [.optr 1012 u 0 0])]) rfl rfl rfl rfl rfl (show _=some Ady from by kernel_rfl) rfl rfl ?_ ?_
  ·refine Zc (c:=Ajn)<|?_;refine Ac 9 ?_ ?_
   ·refine A 3 ?_;refine Uh (E:=λ(g:Unit)=>[(9,.optr 2012 u 0 0),(10,.clo 4149 [.optr 2012 u 0 0])]) (O:=λg=>[(2002,dV ao 1 28 (.agg [.sl (a.Funcs.map NM)])),(2004,dV e 5 60 (.agg [Av 0,.nils,Av 0,.nils,.nils])),(2005,dV f 1 40 (Av 0)),(2006,dV ap 1 98 (.optr 2012 u 0 0)),(2012,dV u 8 100 (.agg [.sl (a.Funcs.map NM),.nils,Av 0,.nils,Av 0,.nils,.nils,Av x3]))]) () ((PC (λg=>bif aA 4096 g then g+20000 else g+1000) (by kernel_rfl) hX))<|?_
    rintro⟨⟩ nn
    try dsimp only
    refine Ald (ds:=[]) (caps:=[.optr 2012 u 0 0]) (E:=[(0,.optr 2012 u 0 0)]) r r r r r r r r<|Zc (c:=Ayt)<|?_;refine Ab 12 λbr ct=>?_
    refine Ab 12 λay cu=>?_
    refine A 15 ?_;refine Aiv (d:=Av ay.2) (E:=[(9,.optr 1012 u 0 0),(11,Av ay.2)]) (O:=[(1002,dV ao 1 28 (.agg [.sl (a.Funcs.map NM)])),(1004,dV e 5 60 (.agg [Av 0,.nils,Av 0,.nils,.nils])),(1005,dV f 1 40 (Av 0)),(1006,dV ap 1 98 (.optr 1012 u 0 0)),(1012,dV u 8 100 (.agg [.sl (a.Funcs.map NM),.sl (br.map (eL NA)),Av 0,.nils,Av 0,.nils,.nils,Av x3]))]) r (by first|rfl|(simp[Ol,Oq,rdA,raw,strip,Ou,cells,Oo];done)|(simp[Ol,Oq,rdA,raw,strip,Ou,S.ge,S.go,look,SX,cells,Oo];done)) r ((PN [] hX (by kernel_rfl) (λ_=>hX))) λnn=>?_
    refine A 4 ?_;exact Qv (d:=.tup []) (s:=(br,ay.2)) (_,_,_) r (by first|rfl|(simp[Ol,Oq,rdA,raw,strip,Ou,cells,Oo];done)|(simp[Ol,Oq,rdA,raw,strip,Ou,S.ge,S.go,look,SX,cells,Oo];done)) r ((PN [] hX (by kernel_rfl) (λ_=>hX)))
   ·refine A 1 ?_;exact Qv (d:=.tup []) (s:=([],x3)) (_,_,_) r (by first|rfl|(simp[Ol,Oq,rdA,raw,strip,Ou,cells,Oo];done)|(simp[Ol,Oq,rdA,raw,strip,Ou,S.ge,S.go,look,SX,cells,Oo];done)) r ((Aae (E1:=[(1,.sl (o.map Oe)),(2,.optr 1002 ao 0 0),(4,.optr 1004 e 0 0),(5,.optr 1005 f 0 0),(6,.optr 1006 ap 0 0),(20,.tup [])]) (O1:=[(1002,dV ao 1 28 (.agg [.sl (a.Funcs.map NM)])),(1004,dV e 5 60 (.agg [Av 0,.nils,Av 0,.nils,.nils])),(1005,dV f 1 40 (Av 0)),(1006,dV ap 1 98 (.optr 1012 u 0 0)),(1012,dV u 8 100 (.agg [.sl (a.Funcs.map NM),.nils,Av 0,.nils,Av 0,.nils,.nils,Av x3]))]) hX (λ_=>PC (λg=>bif aA 24096 g then g-20000 else bif (aA 1000 g&&Nat.blt g 4096)then g-1000 else g) (by kernel_rfl) (YB [] trivial ⟨(On r),(On r),(On r),(On r),(On r),(On r),trivial⟩ ⟨(.inl r),(.inl r),(.inl r),(.inl r),(.inr ⟨_,_,_,_,r,r,r,r,Wo r ⟨(OA r),(VT (eL NA) r),(OA r),(OA r),(OA r),(OA r),(OA r),(OA r),trivial⟩⟩),trivial⟩))))
  ·rintro⟨m,x5⟩ ⟨cv,cw,cx⟩ nn
   try dsimp only
   unfold XN;refine A 6 ?_;refine mF (caps:=[.optr 12 _ 0 0]) r r (by simp[SN])<|Uh (E:=λ(g:Nat×Nat×Nat)=>[(1,.sl (o.map Oe)),(2,.optr 1002 g.1 0 0),(4,.optr 1004 e 0 0),(5,.optr 1005 f 0 0),(6,.optr 1006 g.2.1 0 0),(21,.optr 1012 g.2.2 0 0),(23,.clo 4150 [.optr 1012 g.2.2 0 0])]) (O:=λg=>[(1002,dV g.1 1 28 (.agg [.sl (a.Funcs.map NM)])),(1004,dV e 5 60 (.agg [Av 0,.nils,Av 0,.nils,.nils])),(1005,dV f 1 40 (Av 0)),(1006,dV g.2.1 1 98 (.optr 1012 g.2.2 0 0)),(1012,dV g.2.2 8 100 (.agg [.sl (a.Funcs.map NM),.sl (m.map (eL NA)),Av 0,.nils,Av 0,.nils,.nils,Av x5]))]) (_,_,_) ((PC (λg=>bif aA 4096 g then g+20000 else g+1000) (by kernel_rfl) hX))<|?_
   rintro⟨az,ba,t⟩ nn
   try dsimp only
   refine AaW (ES:=λ(_s:Int) (g:Nat×Nat×Nat)=>[(1,.sl (o.map Oe)),(2,.optr 2 g.1 0 0),(4,.optr 4 e 0 0),(5,.optr 5 f 0 0),(6,.optr 6 g.2.1 0 0),(24,.tup [])]) (OS:=λs g=>[(2,dV g.1 1 28 (.agg [.sl (a.Funcs.map NM)])),(4,dV e 5 60 (.agg [Av 0,.nils,Av 0,.nils,.nils])),(5,dV f 1 40 (Av 0)),(6,dV g.2.1 1 98 (.optr 12 g.2.2 0 0)),(12,dV g.2.2 8 100 (.agg [.sl (a.Funcs.map NM),.sl (m.map (eL NA)),Av 0,.nils,Av 0,.nils,.nils,Av s]))]) (j:=λs=>XO a o m s) (ds:=[.optr 1012 t 0 0,.clo 4150 [.optr 1012 t 0 0]]) (caps:=[]) (E:=[(0,.optr 1012 t 0 0),(1,.clo 4150 [.optr 1012 t 0 0])]) rfl rfl rfl rfl rfl (show _=some AdA from by kernel_rfl) rfl rfl ?_ ?_
   ·refine Zc (c:=Ajn)<|?_;refine Ac 9 ?_ ?_
    ·refine A 3 ?_;refine Uh (E:=λ(g:Unit)=>[(9,.optr 2012 t 0 0),(10,.clo 4150 [.optr 2012 t 0 0])]) (O:=λg=>[(2002,dV az 1 28 (.agg [.sl (a.Funcs.map NM)])),(2004,dV e 5 60 (.agg [Av 0,.nils,Av 0,.nils,.nils])),(2005,dV f 1 40 (Av 0)),(2006,dV ba 1 98 (.optr 2012 t 0 0)),(2012,dV t 8 100 (.agg [.sl (a.Funcs.map NM),.sl (m.map (eL NA)),Av 0,.nils,Av 0,.nils,.nils,Av x5]))]) () ((PC (λg=>bif aA 4096 g then g+20000 else g+1000) (by kernel_rfl) hX))<|?_
     rintro⟨⟩ nn
     try dsimp only
     refine AaW (ES:=λ(s:Int) (_g:Unit)=>[(9,.optr 1012 t 0 0),(11,Av s)]) (OS:=λ_ _=>[(1002,dV az 1 28 (.agg [.sl (a.Funcs.map NM)])),(1004,dV e 5 60 (.agg [Av 0,.nils,Av 0,.nils,.nils])),(1005,dV f 1 40 (Av 0)),(1006,dV ba 1 98 (.optr 1012 t 0 0)),(1012,dV t 8 100 (.agg [.sl (a.Funcs.map NM),.sl (m.map (eL NA)),Av 0,.nils,Av 0,.nils,.nils,Av x5]))]) (j:=λs=>Wq a o m s) (ds:=[]) (caps:=[.optr 2012 t 0 0]) (E:=[(0,.optr 2012 t 0 0)]) r r r r r r r r ?_ ?_
     ·refine Zc (c:=Ayu)<|?_;refine A 23 ?_;refine lP (E:=λ(s:(List Int)×Int) (g:Nat)=>[(0,.optr 2012 t 0 0),(3,.osl 3 g 0 s.1.length),(14,Av (a.Funcs.length:Int)),(15,Av s.2)]) (O:=λs g=>[(3,dW g 1 3 (s.1.map NA)),(2002,dV az 1 28 (.agg [.sl (a.Funcs.map NM)])),(2004,dV e 5 60 (.agg [Av 0,.nils,Av 0,.nils,.nils])),(2005,dV f 1 40 (Av 0)),(2006,dV ba 1 98 (.optr 2012 t 0 0)),(2012,dV t 8 100 (.agg [.sl (a.Funcs.map NM),.sl (m.map (eL NA)),Av 0,.nils,Av 0,.nils,.nils,Av x5]))]) (body:=λs=>Aab a o m s.1 s.2) (s:=(([]:List Int),0)) _ hX<|?_
      rintro⟨cd,ce⟩ cy nn
      try dsimp only
      unfold Aab;refine Ac 6 ?_ ?_
      ·refine Ab 21 λcz da=>?_
       refine Ab 1 λbb db=>?_
       refine Ac 16 ?_ ?_
       ·refine A 13 ?_;exact Qv (d:=Av bb.2) (s:=bb.2) () r (by first|rfl|(simp[Ol,Oq,rdA,raw,strip,Ou,cells,Oo];done)|(simp[Ol,Oq,rdA,raw,strip,Ou,S.ge,S.go,look,SX,cells,Oo];done)) r ((PN [] hX (by kernel_rfl) (λ_=>hX)))
       ·refine A 16 ?_;exact xL (s:=(cd++([bb.1.Size]:List Int),i64.wrap (ce+1))) _ hX
      ·refine Ab 12 λbs dc=>?_
       refine A 15 ?_;exact Qv (d:=Av bs.2) (s:=bs.2) () r (by first|rfl|(simp[Ol,Oq,rdA,raw,strip,Ou,cells,Oo];done)|(simp[Ol,Oq,rdA,raw,strip,Ou,S.ge,S.go,look,SX,cells,Oo];done)) r ((PN [] hX (by kernel_rfl) (λ_=>hX)))
     ·rintro cf ⟨⟩ nn
      try dsimp only
      unfold Wq;refine A 4 ?_;exact Qv (d:=.tup []) (s:=cf) (_,_,_) r (by first|rfl|(simp[Ol,Oq,rdA,raw,strip,Ou,cells,Oo];done)|(simp[Ol,Oq,rdA,raw,strip,Ou,S.ge,S.go,look,SX,cells,Oo];done)) r ((PN [] hX (by kernel_rfl) (λ_=>hX)))
    ·refine A 1 ?_;exact Qv (d:=.tup []) (s:=x5) (_,_,_) r (by first|rfl|(simp[Ol,Oq,rdA,raw,strip,Ou,cells,Oo];done)|(simp[Ol,Oq,rdA,raw,strip,Ou,S.ge,S.go,look,SX,cells,Oo];done)) r ((PN [] hX (by kernel_rfl) (λ_=>hX)))
   ·rintro x6 ⟨dd,de,df⟩ nn
    try dsimp only
    unfold XO;refine A 12 ?_;refine lP (E:=λ(s:Int×(List OI)×(List Int)×Int) (g:Nat×Nat×Nat×Nat)=>[(1,.sl (o.map Oe)),(4,.optr 4 e 0 0),(5,.optr 5 f 0 0),(6,.optr 6 g.1 0 0),(27,Av (a.Funcs.length:Int)),(28,Av s.2.2.2)]) (O:=λs g=>[(4,dV e 5 60 (.agg [Av 0,.nils,Av 0,.nils,.nils])),(5,dV f 1 40 (Av 0)),(6,dV g.1 1 98 (.optr 12 g.2.1 0 0)),(12,dV g.2.1 8 100 (.agg [.sl (a.Funcs.map NM),.sl (m.map (eL NA)),Av 0,.osl 900 g.2.2.1 0 s.2.1.length,Av 0,.nils,.osl 901 g.2.2.2 0 s.2.2.1.length,Av s.1])),(900,dW g.2.2.1 3 75 (s.2.1.map OK)),(901,dW g.2.2.2 1 3 (s.2.2.1.map NA))]) (body:=λs=>Abn a o m s.1 s.2.1 s.2.2.1 s.2.2.2) (s:=(x6,([]:List OI),([]:List Int),0)) (_,_,_,_) ((Aca (gg:=12) (off:=3) (tt:=900) (s:=3) (tyy:=75) r r r r (Aca (gg:=12) (off:=6) (tt:=901) (s:=1) (tyy:=3) r r r r hX)))<|?_
    rintro⟨p,i,h,k⟩ ⟨dg,dh,di,dj⟩ nn
    try dsimp only
    unfold Abn;refine Ac 6 ?_ ?_
    ·refine A 10 ?_;refine Qf (E:=[(1,.sl (o.map Oe)),(4,.optr 4 e 0 0),(5,.optr 5 f 0 0),(6,.optr 6 _ 0 0),(7,.fptr (Av k) 0),(27,Av (a.Funcs.length:Int)),(28,Av k)]) (O:=[(4,dV e 5 60 (.agg [Av 0,.nils,Av 0,.nils,.nils])),(5,dV f 1 40 (Av 0)),(6,dV _ 1 98 (.optr 12 _ 0 0)),(12,dV _ 8 100 (.agg [.sl (a.Funcs.map NM),.sl (m.map (eL NA)),Av 0,.osl 900 _ 0 i.length,Av 0,.nils,.osl 901 _ 0 h.length,Av p])),(900,dW _ 3 75 (i.map OK)),(901,dW _ 1 3 (h.map NA))]) ((hV 7 r (hY))) λnn=>?_
     refine Ac 14 ?_ ?_
     ·refine Ab 3 λaa dk=>?_
      refine A 4 ?_;refine Qf (E:=[(1,.sl (o.map Oe)),(4,.optr 4 e 0 0),(5,.optr 5 f 0 0),(6,.optr 6 _ 0 0),(7,.fptr (Av k) 0),(8,.fptr (Oe aa) 0),(27,Av (a.Funcs.length:Int)),(28,Av k)]) (O:=[(4,dV e 5 60 (.agg [Av 0,.nils,Av 0,.nils,.nils])),(5,dV f 1 40 (Av 0)),(6,dV _ 1 98 (.optr 12 _ 0 0)),(12,dV _ 8 100 (.agg [.sl (a.Funcs.map NM),.sl (m.map (eL NA)),Av 0,.osl 900 _ 0 i.length,Av 0,.nils,.osl 901 _ 0 h.length,Av p])),(900,dW _ 3 75 (i.map OK)),(901,dW _ 1 3 (h.map NA))]) ((hV 8 r (hY))) λnn=>?_
      refine A 2 ?_;refine mF (caps:=[.optr 6 _ 0 0,.fptr (Av k) 0,.fptr (Oe aa) 0]) r r (by simp[SN])<|Uh (E:=λ(g:Nat×Nat×Nat×Nat)=>[(1,.sl (o.map Oe)),(4,.optr 1004 e 0 0),(5,.optr 1005 f 0 0),(6,.optr 1006 g.1 0 0),(27,Av (a.Funcs.length:Int)),(28,Av k),(39,.optr 1012 g.2.1 0 0),(40,.clo 55 [.optr 1006 g.1 0 0,.fptr (Av k) 0,.fptr (Oe aa) 0])]) (O:=λg=>[(1004,dV e 5 60 (.agg [Av 0,.nils,Av 0,.nils,.nils])),(1005,dV f 1 40 (Av 0)),(1006,dV g.1 1 98 (.optr 1012 g.2.1 0 0)),(1012,dV g.2.1 8 100 (.agg [.sl (a.Funcs.map NM),.sl (m.map (eL NA)),Av 0,.osl 1900 g.2.2.1 0 i.length,Av 0,.nils,.osl 1901 g.2.2.2 0 h.length,Av p])),(1900,dW g.2.2.1 3 75 (i.map OK)),(1901,dW g.2.2.2 1 3 (h.map NA))]) (_,_,_,_) ((PC (λg=>bif aA 4096 g then g+20000 else g+1000) (by kernel_rfl) hX))<|?_
      rintro⟨ad,v,aq,ar⟩ nn
      try dsimp only
      refine AaW (ES:=λ(_s:Int×(List OI)×(List Int)) (g:Nat×Nat×Nat×Nat)=>[(1,.sl (o.map Oe)),(4,.optr 4 e 0 0),(5,.optr 5 f 0 0),(6,.optr 6 g.1 0 0),(27,Av (a.Funcs.length:Int)),(28,Av k),(41,.tup [])]) (OS:=λs g=>[(4,dV e 5 60 (.agg [Av 0,.nils,Av 0,.nils,.nils])),(5,dV f 1 40 (Av 0)),(6,dV g.1 1 98 (.optr 12 g.2.1 0 0)),(12,dV g.2.1 8 100 (.agg [.sl (a.Funcs.map NM),.sl (m.map (eL NA)),Av 0,.osl 900 g.2.2.1 0 s.2.1.length,Av 0,.nils,.osl 901 g.2.2.2 0 s.2.2.length,Av s.1])),(900,dW g.2.2.1 3 75 (s.2.1.map OK)),(901,dW g.2.2.2 1 3 (s.2.2.map NA))]) (j:=λs=>XP k s.1 s.2.1 s.2.2) (ds:=[.optr 1012 v 0 0,.clo 55 [.optr 1006 ad 0 0,.fptr (Av k) 0,.fptr (Oe aa) 0]]) (caps:=[]) (E:=[(0,.optr 1012 v 0 0),(1,.clo 55 [.optr 1006 ad 0 0,.fptr (Av k) 0,.fptr (Oe aa) 0])]) rfl rfl rfl rfl rfl (show _=some YP from by kernel_rfl) rfl rfl ?_ ?_
      ·refine Zc (c:=Ajn)<|?_;refine Ac 9 ?_ ?_
       ·refine A 3 ?_;refine Uh (E:=λ(g:Unit)=>[(9,.optr 2012 v 0 0),(10,.clo 55 [.optr 2006 ad 0 0,.fptr (Av k) 0,.fptr (Oe aa) 0])]) (O:=λg=>[(2004,dV e 5 60 (.agg [Av 0,.nils,Av 0,.nils,.nils])),(2005,dV f 1 40 (Av 0)),(2006,dV ad 1 98 (.optr 2012 v 0 0)),(2012,dV v 8 100 (.agg [.sl (a.Funcs.map NM),.sl (m.map (eL NA)),Av 0,.osl 2900 aq 0 i.length,Av 0,.nils,.osl 2901 ar 0 h.length,Av p])),(2900,dW aq 3 75 (i.map OK)),(2901,dW ar 1 3 (h.map NA))]) () ((PC (λg=>bif aA 4096 g then g+20000 else g+1000) (by kernel_rfl) hX))<|?_
        rintro⟨⟩ nn
        try dsimp only
        refine Ald (ds:=[]) (caps:=[.optr 2006 ad 0 0,.fptr (Av k) 0,.fptr (Oe aa) 0]) (E:=[(0,.optr 2006 ad 0 0),(1,.fptr (Av k) 0),(2,.fptr (Oe aa) 0)]) r r r r r r r r<|Zc (c:=Awt)<|?_;refine A 10 ?_;refine Uh (E:=λ(g:Unit)=>[(4,.optr 3012 v 0 0),(5,Av k),(6,Oe aa)]) (O:=λg=>[(3004,dV e 5 60 (.agg [Av 0,.nils,Av 0,.nils,.nils])),(3005,dV f 1 40 (Av 0)),(3006,dV ad 1 98 (.optr 3012 v 0 0)),(3012,dV v 8 100 (.agg [.sl (a.Funcs.map NM),.sl (m.map (eL NA)),Av 0,.osl 3900 aq 0 i.length,Av 0,.nils,.osl 3901 ar 0 h.length,Av p])),(3900,dW aq 3 75 (i.map OK)),(3901,dW ar 1 3 (h.map NA))]) () ((PC (λg=>bif aA 4096 g then g+20000 else g+1000) (by kernel_rfl) hX))<|?_
        rintro⟨⟩ nn
        try dsimp only
        refine AaW (ES:=λ(s:(List OI)×(List Int)×Int) (_g:Nat×Nat)=>[(7,Av s.2.2)]) (OS:=λs g=>[(2004,dV e 5 60 (.agg [Av 0,.nils,Av 0,.nils,.nils])),(2005,dV f 1 40 (Av 0)),(2006,dV ad 1 98 (.optr 2012 v 0 0)),(2012,dV v 8 100 (.agg [.sl (a.Funcs.map NM),.sl (m.map (eL NA)),Av 0,.osl 2900 g.1 0 s.1.length,Av 0,.nils,.osl 2901 g.2 0 s.2.1.length,Av p])),(2900,dW g.1 3 75 (s.1.map OK)),(2901,dW g.2 1 3 (s.2.1.map NA))]) (j:=λs=>XQ k s.1 s.2.1 s.2.2) (ds:=[.optr 3012 v 0 0,Av k,Oe aa]) (caps:=[]) (E:=[(0,.optr 3012 v 0 0),(1,Av k),(2,Oe aa)]) r r r r r r r r ?_ ?_
        ·refine Zc (c:=Awu)<|?_;refine Ab 14 λbc dl=>?_
         refine Ac 21 ?_ ?_
         ·refine A 8 ?_;exact Qv (d:=Av bc.2.2.2) (s:=(i,h,bc.2.2.2)) (_,_) r (by first|rfl|(simp[Ol,Oq,rdA,raw,strip,Ou,cells,Oo];done)|(simp[Ol,Oq,rdA,raw,strip,Ou,S.ge,S.go,look,SX,cells,Oo];done)) r ((PN [] hX (by kernel_rfl) (λ_=>hX)))
         ·refine Ab 17 λdm dn=>?_
          refine Ab 3 λbt dp=>?_
          refine A 1 ?_;refine bS ([bt]:List OI) OK r r r (by simp) r r r<|?_
          refine A 31 ?_;exact Qv (d:=Av 0) (s:=(i++([bt]:List OI),h++([bc.2.2.1]:List Int),0)) (_,_) r (by first|rfl|(simp[Ol,Oq,rdA,raw,strip,Ou,cells,Oo];done)|(simp[Ol,Oq,rdA,raw,strip,Ou,S.ge,S.go,look,SX,cells,Oo];done)) r ((PN [(44,2900),(57,2901)] hX (by kernel_rfl) (λ_=>hX)))
        ·rintro⟨bd,bf,bg⟩ ⟨dq,dr⟩ nn
         try dsimp only
         unfold XQ;refine A 4 ?_;refine Aiv (d:=Av bg) (E:=[(9,.optr 1012 v 0 0),(11,Av bg)]) (O:=[(1004,dV e 5 60 (.agg [Av 0,.nils,Av 0,.nils,.nils])),(1005,dV f 1 40 (Av 0)),(1006,dV ad 1 98 (.optr 1012 v 0 0)),(1012,dV v 8 100 (.agg [.sl (a.Funcs.map NM),.sl (m.map (eL NA)),Av 0,.osl 1900 _ 0 bd.length,Av 0,.nils,.osl 1901 _ 0 bf.length,Av p])),(1900,dW _ 3 75 (bd.map OK)),(1901,dW _ 1 3 (bf.map NA))]) r (by first|rfl|(simp[Ol,Oq,rdA,raw,strip,Ou,cells,Oo];done)|(simp[Ol,Oq,rdA,raw,strip,Ou,S.ge,S.go,look,SX,cells,Oo];done)) r ((PN [] hX (by kernel_rfl) (λ_=>hX))) λnn=>?_
         refine A 4 ?_;exact Qv (d:=.tup []) (s:=(bg,bd,bf)) (_,_,_,_) r (by first|rfl|(simp[Ol,Oq,rdA,raw,strip,Ou,cells,Oo];done)|(simp[Ol,Oq,rdA,raw,strip,Ou,S.ge,S.go,look,SX,cells,Oo];done)) r ((PN [] hX (by kernel_rfl) (λ_=>hX)))
       ·refine A 1 ?_;exact Qv (d:=.tup []) (s:=(p,i,h)) (_,_,_,_) r (by first|rfl|(simp[Ol,Oq,rdA,raw,strip,Ou,cells,Oo];done)|(simp[Ol,Oq,rdA,raw,strip,Ou,S.ge,S.go,look,SX,cells,Oo];done)) r ((PN [] hX (by kernel_rfl) (λ_=>hX)))
      ·rintro⟨ch,ci,cj⟩ ⟨dt,du,dv,dw⟩ nn
       try dsimp only
       unfold XP;refine A 7 ?_;exact xL (s:=(ch,ci,cj,i64.wrap (k+1))) (_,_,_,_) hX
     ·refine A 4 ?_;refine mF (caps:=[.optr 6 _ 0 0,.fptr (Av k) 0,.optr 8 _ 0 0]) r r (by simp[SN])<|Uh (E:=λ(g:Nat×Nat×Nat×Nat×Nat)=>[(1,.sl (o.map Oe)),(4,.optr 1004 e 0 0),(5,.optr 1005 f 0 0),(6,.optr 1006 g.1 0 0),(27,Av (a.Funcs.length:Int)),(28,Av k),(39,.optr 1012 g.2.2.1 0 0),(40,.clo 55 [.optr 1006 g.1 0 0,.fptr (Av k) 0,.optr 1008 g.2.1 0 0])]) (O:=λg=>[(1004,dV e 5 60 (.agg [Av 0,.nils,Av 0,.nils,.nils])),(1005,dV f 1 40 (Av 0)),(1006,dV g.1 1 98 (.optr 1012 g.2.2.1 0 0)),(1008,dV g.2.1 7 50 (.agg [.nils,.nils,.nils,.nils,Av 0,Av 0,.nils])),(1012,dV g.2.2.1 8 100 (.agg [.sl (a.Funcs.map NM),.sl (m.map (eL NA)),Av 0,.osl 1900 g.2.2.2.1 0 i.length,Av 0,.nils,.osl 1901 g.2.2.2.2 0 h.length,Av p])),(1900,dW g.2.2.2.1 3 75 (i.map OK)),(1901,dW g.2.2.2.2 1 3 (h.map NA))]) (_,_,_,_,_) ((PC (λg=>bif aA 4096 g then g+20000 else g+1000) (by kernel_rfl) hX))<|?_
      rintro⟨ae,af,x,au,av⟩ nn
      try dsimp only
      refine AaW (ES:=λ(_s:Int×(List OI)×(List Int)) (g:Nat×Nat×Nat×Nat)=>[(1,.sl (o.map Oe)),(4,.optr 4 e 0 0),(5,.optr 5 f 0 0),(6,.optr 6 g.1 0 0),(27,Av (a.Funcs.length:Int)),(28,Av k),(41,.tup [])]) (OS:=λs g=>[(4,dV e 5 60 (.agg [Av 0,.nils,Av 0,.nils,.nils])),(5,dV f 1 40 (Av 0)),(6,dV g.1 1 98 (.optr 12 g.2.1 0 0)),(12,dV g.2.1 8 100 (.agg [.sl (a.Funcs.map NM),.sl (m.map (eL NA)),Av 0,.osl 900 g.2.2.1 0 s.2.1.length,Av 0,.nils,.osl 901 g.2.2.2 0 s.2.2.length,Av s.1])),(900,dW g.2.2.1 3 75 (s.2.1.map OK)),(901,dW g.2.2.2 1 3 (s.2.2.map NA))]) (j:=λs=>XR k s.1 s.2.1 s.2.2) (ds:=[.optr 1012 x 0 0,.clo 55 [.optr 1006 ae 0 0,.fptr (Av k) 0,.optr 1008 af 0 0]]) (caps:=[]) (E:=[(0,.optr 1012 x 0 0),(1,.clo 55 [.optr 1006 ae 0 0,.fptr (Av k) 0,.optr 1008 af 0 0])]) rfl rfl rfl rfl rfl (show _=some YP from by kernel_rfl) rfl rfl ?_ ?_
      ·refine Zc (c:=Ajn)<|?_;refine Ac 9 ?_ ?_
       ·refine A 3 ?_;refine Uh (E:=λ(g:Unit)=>[(9,.optr 2012 x 0 0),(10,.clo 55 [.optr 2006 ae 0 0,.fptr (Av k) 0,.optr 2008 af 0 0])]) (O:=λg=>[(2004,dV e 5 60 (.agg [Av 0,.nils,Av 0,.nils,.nils])),(2005,dV f 1 40 (Av 0)),(2006,dV ae 1 98 (.optr 2012 x 0 0)),(2008,dV af 7 50 (.agg [.nils,.nils,.nils,.nils,Av 0,Av 0,.nils])),(2012,dV x 8 100 (.agg [.sl (a.Funcs.map NM),.sl (m.map (eL NA)),Av 0,.osl 2900 au 0 i.length,Av 0,.nils,.osl 2901 av 0 h.length,Av p])),(2900,dW au 3 75 (i.map OK)),(2901,dW av 1 3 (h.map NA))]) () ((PC (λg=>bif aA 4096 g then g+20000 else g+1000) (by kernel_rfl) hX))<|?_
        rintro⟨⟩ nn
        try dsimp only
        refine Ald (ds:=[]) (caps:=[.optr 2006 ae 0 0,.fptr (Av k) 0,.optr 2008 af 0 0]) (E:=[(0,.optr 2006 ae 0 0),(1,.fptr (Av k) 0),(2,.optr 2008 af 0 0)]) r r r r r r r r<|Zc (c:=Awt)<|?_;refine A 10 ?_;refine Uh (E:=λ(g:Unit)=>[(4,.optr 3012 x 0 0),(5,Av k),(6,.agg [.nils,.nils,.nils,.nils,Av 0,Av 0,.nils])]) (O:=λg=>[(3004,dV e 5 60 (.agg [Av 0,.nils,Av 0,.nils,.nils])),(3005,dV f 1 40 (Av 0)),(3006,dV ae 1 98 (.optr 3012 x 0 0)),(3008,dV af 7 50 (.agg [.nils,.nils,.nils,.nils,Av 0,Av 0,.nils])),(3012,dV x 8 100 (.agg [.sl (a.Funcs.map NM),.sl (m.map (eL NA)),Av 0,.osl 3900 au 0 i.length,Av 0,.nils,.osl 3901 av 0 h.length,Av p])),(3900,dW au 3 75 (i.map OK)),(3901,dW av 1 3 (h.map NA))]) () ((PC (λg=>bif aA 4096 g then g+20000 else g+1000) (by kernel_rfl) hX))<|?_
        rintro⟨⟩ nn
        try dsimp only
        refine AaW (ES:=λ(s:(List OI)×(List Int)×Int) (_g:Nat×Nat)=>[(7,Av s.2.2)]) (OS:=λs g=>[(2004,dV e 5 60 (.agg [Av 0,.nils,Av 0,.nils,.nils])),(2005,dV f 1 40 (Av 0)),(2006,dV ae 1 98 (.optr 2012 x 0 0)),(2008,dV af 7 50 (.agg [.nils,.nils,.nils,.nils,Av 0,Av 0,.nils])),(2012,dV x 8 100 (.agg [.sl (a.Funcs.map NM),.sl (m.map (eL NA)),Av 0,.osl 2900 g.1 0 s.1.length,Av 0,.nils,.osl 2901 g.2 0 s.2.1.length,Av p])),(2900,dW g.1 3 75 (s.1.map OK)),(2901,dW g.2 1 3 (s.2.1.map NA))]) (j:=λs=>XS k s.1 s.2.1 s.2.2) (ds:=[.optr 3012 x 0 0,Av k,.agg [.nils,.nils,.nils,.nils,Av 0,Av 0,.nils]]) (caps:=[]) (E:=[(0,.optr 3012 x 0 0),(1,Av k),(2,.agg [.nils,.nils,.nils,.nils,Av 0,Av 0,.nils])]) r r r r r r r r ?_ ?_
        ·refine Zc (c:=Awu)<|?_;refine Ab 14 λbh dx=>?_
         refine Ac 21 ?_ ?_
         ·refine A 8 ?_;exact Qv (d:=Av bh.2.2.2) (s:=(i,h,bh.2.2.2)) (_,_) r (by first|rfl|(simp[Ol,Oq,rdA,raw,strip,Ou,cells,Oo];done)|(simp[Ol,Oq,rdA,raw,strip,Ou,S.ge,S.go,look,SX,cells,Oo];done)) r ((PN [] hX (by kernel_rfl) (λ_=>hX)))
         ·refine Ab 17 λdy dz=>?_
          refine Ab 3 λbu ea=>?_
          refine A 1 ?_;refine bS ([bu]:List OI) OK r r r (by simp) r r r<|?_
          refine A 31 ?_;exact Qv (d:=Av 0) (s:=(i++([bu]:List OI),h++([bh.2.2.1]:List Int),0)) (_,_) r (by first|rfl|(simp[Ol,Oq,rdA,raw,strip,Ou,cells,Oo];done)|(simp[Ol,Oq,rdA,raw,strip,Ou,S.ge,S.go,look,SX,cells,Oo];done)) r ((PN [(44,2900),(57,2901)] hX (by kernel_rfl) (λ_=>hX)))
        ·rintro⟨bi,bj,bk⟩ ⟨eb,ec⟩ nn
         try dsimp only
         unfold XS;refine A 4 ?_;refine Aiv (d:=Av bk) (E:=[(9,.optr 1012 x 0 0),(11,Av bk)]) (O:=[(1004,dV e 5 60 (.agg [Av 0,.nils,Av 0,.nils,.nils])),(1005,dV f 1 40 (Av 0)),(1006,dV ae 1 98 (.optr 1012 x 0 0)),(1008,dV af 7 50 (.agg [.nils,.nils,.nils,.nils,Av 0,Av 0,.nils])),(1012,dV x 8 100 (.agg [.sl (a.Funcs.map NM),.sl (m.map (eL NA)),Av 0,.osl 1900 _ 0 bi.length,Av 0,.nils,.osl 1901 _ 0 bj.length,Av p])),(1900,dW _ 3 75 (bi.map OK)),(1901,dW _ 1 3 (bj.map NA))]) r (by first|rfl|(simp[Ol,Oq,rdA,raw,strip,Ou,cells,Oo];done)|(simp[Ol,Oq,rdA,raw,strip,Ou,S.ge,S.go,look,SX,cells,Oo];done)) r ((PN [] hX (by kernel_rfl) (λ_=>hX))) λnn=>?_
         refine A 4 ?_;exact Qv (d:=.tup []) (s:=(bk,bi,bj)) (_,_,_,_) r (by first|rfl|(simp[Ol,Oq,rdA,raw,strip,Ou,cells,Oo];done)|(simp[Ol,Oq,rdA,raw,strip,Ou,S.ge,S.go,look,SX,cells,Oo];done)) r ((PN [] hX (by kernel_rfl) (λ_=>hX)))
       ·refine A 1 ?_;exact Qv (d:=.tup []) (s:=(p,i,h)) (_,_,_,_) r (by first|rfl|(simp[Ol,Oq,rdA,raw,strip,Ou,cells,Oo];done)|(simp[Ol,Oq,rdA,raw,strip,Ou,S.ge,S.go,look,SX,cells,Oo];done)) r ((PN [] hX (by kernel_rfl) (λ_=>hX)))
      ·rintro⟨ck,cl,cm⟩ ⟨ed,ee,ef,eg⟩ nn
       try dsimp only
       unfold XR;refine A 7 ?_;exact xL (s:=(ck,cl,cm,i64.wrap (k+1))) (_,_,_,_) hX
    ·refine A 9 ?_;refine mF (caps:=[.optr 12 _ 0 0]) r r (by simp[SN])<|Uh (E:=λ(g:Nat×Nat×Nat×Nat)=>[(4,.optr 1004 e 0 0),(5,.optr 1005 f 0 0),(6,.optr 1006 g.1 0 0),(43,.optr 1012 g.2.1 0 0),(45,.clo 4153 [.optr 1012 g.2.1 0 0])]) (O:=λg=>[(1004,dV e 5 60 (.agg [Av 0,.nils,Av 0,.nils,.nils])),(1005,dV f 1 40 (Av 0)),(1006,dV g.1 1 98 (.optr 1012 g.2.1 0 0)),(1012,dV g.2.1 8 100 (.agg [.sl (a.Funcs.map NM),.sl (m.map (eL NA)),Av 0,.osl 1900 g.2.2.1 0 i.length,Av 0,.nils,.osl 1901 g.2.2.2 0 h.length,Av p])),(1900,dW g.2.2.1 3 75 (i.map OK)),(1901,dW g.2.2.2 1 3 (h.map NA))]) (_,_,_,_) ((PC (λg=>bif aA 4096 g then g+20000 else g+1000) (by kernel_rfl) hX))<|?_
     rintro⟨ag,q,ab,ac⟩ nn
     try dsimp only
     refine AaW (ES:=λ(_s:Int×(List OI)×Int×(List Int)×Int) (g:Nat×Nat×Nat)=>[(4,.optr 4 e 0 0),(5,.optr 5 f 0 0),(6,.optr 6 g.1 0 0),(46,.tup [])]) (OS:=λs g=>[(4,dV e 5 60 (.agg [Av 0,.nils,Av 0,.nils,.nils])),(5,dV f 1 40 (Av 0)),(6,dV g.1 1 98 (.optr 12 g.2.1 0 0)),(12,dV g.2.1 8 100 (.agg [.sl (a.Funcs.map NM),.sl (m.map (eL NA)),Av s.1,.sl (s.2.1.map OK),Av s.2.2.1,.sl (s.2.2.2.1.map NA),.osl 901 g.2.2 0 h.length,Av s.2.2.2.2])),(901,dW g.2.2 1 3 (h.map NA))]) (j:=λs=>XT h s.1 s.2.1 s.2.2.1 s.2.2.2.1 s.2.2.2.2) (ds:=[.optr 1012 q 0 0,.clo 4153 [.optr 1012 q 0 0]]) (caps:=[]) (E:=[(0,.optr 1012 q 0 0),(1,.clo 4153 [.optr 1012 q 0 0])]) rfl rfl rfl rfl rfl (show _=some AbR from by kernel_rfl) rfl rfl ?_ ?_
     ·refine Zc (c:=Ajn)<|?_;refine Ac 9 ?_ ?_
      ·refine A 3 ?_;refine Uh (E:=λ(g:Unit)=>[(9,.optr 2012 q 0 0),(10,.clo 4153 [.optr 2012 q 0 0])]) (O:=λg=>[(2004,dV e 5 60 (.agg [Av 0,.nils,Av 0,.nils,.nils])),(2005,dV f 1 40 (Av 0)),(2006,dV ag 1 98 (.optr 2012 q 0 0)),(2012,dV q 8 100 (.agg [.sl (a.Funcs.map NM),.sl (m.map (eL NA)),Av 0,.osl 2900 ab 0 i.length,Av 0,.nils,.osl 2901 ac 0 h.length,Av p])),(2900,dW ab 3 75 (i.map OK)),(2901,dW ac 1 3 (h.map NA))]) () ((PC (λg=>bif aA 4096 g then g+20000 else g+1000) (by kernel_rfl) hX))<|?_
       rintro⟨⟩ nn
       try dsimp only
       refine AaW (ES:=λ(s:Int×Int×(List Int)×Int) (_g:Unit)=>[(9,.optr 1012 q 0 0),(11,Av s.2.2.2)]) (OS:=λs _=>[(1004,dV e 5 60 (.agg [Av 0,.nils,Av 0,.nils,.nils])),(1005,dV f 1 40 (Av 0)),(1006,dV ag 1 98 (.optr 1012 q 0 0)),(1012,dV q 8 100 (.agg [.sl (a.Funcs.map NM),.sl (m.map (eL NA)),Av s.1,.osl 1900 ab 0 i.length,Av s.2.1,.sl (s.2.2.1.map NA),.osl 1901 ac 0 h.length,Av p])),(1900,some (ab,⟨true,false,3,75,i.map OK⟩)),(1901,dW ac 1 3 (h.map NA))]) (j:=λs=>TS h i s.1 s.2.1 s.2.2.1 s.2.2.2) (ds:=[]) (caps:=[.optr 2012 q 0 0]) (E:=[(0,.optr 2012 q 0 0)]) r r r r r r r r ?_ ?_
       ·refine Zc (c:=Ayv)<|?_;refine Ab 12 λaw eh=>?_
        refine Ab 15 λei ej=>?_
        refine Ab 11 λaj ek=>?_
        refine Ac 15 ?_ ?_
        ·refine A 8 ?_;exact Qv (d:=Av aj.2) (s:=(aw,0,[],aj.2)) () r (by first|rfl|(simp[Ol,Oq,rdA,raw,strip,Ou,cells,Oo];done)|(simp[Ol,Oq,rdA,raw,strip,Ou,S.ge,S.go,look,SX,cells,Oo];done)) r ((Aae (E1:=[(9,.optr 2012 q 0 0),(11,Av aj.2)]) (O1:=[(2004,dV e 5 60 (.agg [Av 0,.nils,Av 0,.nils,.nils])),(2005,dV f 1 40 (Av 0)),(2006,dV ag 1 98 (.optr 2012 q 0 0)),(2012,dV q 8 100 (.agg [.sl (a.Funcs.map NM),.sl (m.map (eL NA)),Av aw,.osl 2900 ab 0 i.length,Av 0,.nils,.osl 2901 ac 0 h.length,Av p])),(2900,some (ab,⟨true,false,3,75,i.map OK⟩)),(2901,dW ac 1 3 (h.map NA))]) hX (λ_=>PC (λg=>bif aA 24096 g then g-20000 else bif (aA 1000 g&&Nat.blt g 4096)then g-1000 else g) (by kernel_rfl) (YB [] trivial ⟨(On r),(On r),trivial⟩ ⟨(.inl r),(.inl r),(.inl r),(.inr ⟨_,_,_,_,r,r,r,r,Wo r ⟨(OA r),(OA r),(OA r),(OA r),(OA r),(VT NA r),(OA r),(OA r),trivial⟩⟩),(.inl r),(.inl r),trivial⟩))))
        ·refine Ab 8 λbv el=>?_
         refine Ab 21 λbw em=>?_
         refine Ac 10 ?_ ?_
         ·refine A 8 ?_;exact Qv (d:=Av bw) (s:=(aw,bv,aj.1,bw)) () r (by first|rfl|(simp[Ol,Oq,rdA,raw,strip,Ou,cells,Oo];done)|(simp[Ol,Oq,rdA,raw,strip,Ou,S.ge,S.go,look,SX,cells,Oo];done)) r ((PN [] hX (by kernel_rfl) (λ_=>hX)))
         ·refine Ab 9 λbx eo=>?_
          refine A 5 ?_;exact Qv (d:=Av bx) (s:=(aw,bv,aj.1,bx)) () r (by first|rfl|(simp[Ol,Oq,rdA,raw,strip,Ou,cells,Oo];done)|(simp[Ol,Oq,rdA,raw,strip,Ou,S.ge,S.go,look,SX,cells,Oo];done)) r ((PN [] hX (by kernel_rfl) (λ_=>hX)))
       ·rintro⟨bz,ca,cb,cc⟩ ⟨⟩ nn
        try dsimp only
        unfold TS;refine A 4 ?_;exact Qv (d:=.tup []) (s:=(bz,i,ca,cb,cc)) (_,_,_) r (by first|rfl|(simp[Ol,Oq,rdA,raw,strip,Ou,cells,Oo];done)|(simp[Ol,Oq,rdA,raw,strip,Ou,S.ge,S.go,look,SX,cells,Oo];done)) r ((Aae (E1:=[(4,.optr 1004 e 0 0),(5,.optr 1005 f 0 0),(6,.optr 1006 ag 0 0),(46,.tup [])]) (O1:=[(1004,dV e 5 60 (.agg [Av 0,.nils,Av 0,.nils,.nils])),(1005,dV f 1 40 (Av 0)),(1006,dV ag 1 98 (.optr 1012 q 0 0)),(1012,dV q 8 100 (.agg [.sl (a.Funcs.map NM),.sl (m.map (eL NA)),Av bz,.osl 1900 ab 0 i.length,Av ca,.sl (cb.map NA),.osl 1901 ac 0 h.length,Av cc])),(1900,some (ab,⟨true,false,3,75,i.map OK⟩)),(1901,dW ac 1 3 (h.map NA))]) hX (λ_=>PC (λg=>bif aA 24096 g then g-20000 else bif (aA 1000 g&&Nat.blt g 4096)then g-1000 else g) (by kernel_rfl) (YB [(900,some (_,⟨true,false,3,75,i.map OK⟩))] ⟨⟨_,_,r,r,r⟩,trivial⟩ ⟨(On r),(On r),(On r),(On r),trivial⟩ ⟨(.inl r),(.inl r),(.inl r),(.inr ⟨_,_,_,_,r,r,r,r,Wo r ⟨(OA r),(OA r),(OA r),(XC (l:=i) (en:=OK) r r r (by first|(simp;done)|rfl|(simp;rfl))),(OA r),(OA r),(OA r),(OA r),trivial⟩⟩),(.inl r),trivial⟩))))
      ·refine A 1 ?_;exact Qv (d:=.tup []) (s:=(0,i,0,[],p)) (_,_,_) r (by first|rfl|(simp[Ol,Oq,rdA,raw,strip,Ou,cells,Oo];done)|(simp[Ol,Oq,rdA,raw,strip,Ou,S.ge,S.go,look,SX,cells,Oo];done)) r ((Aae (E1:=[(4,.optr 1004 e 0 0),(5,.optr 1005 f 0 0),(6,.optr 1006 ag 0 0),(46,.tup [])]) (O1:=[(1004,dV e 5 60 (.agg [Av 0,.nils,Av 0,.nils,.nils])),(1005,dV f 1 40 (Av 0)),(1006,dV ag 1 98 (.optr 1012 q 0 0)),(1012,dV q 8 100 (.agg [.sl (a.Funcs.map NM),.sl (m.map (eL NA)),Av 0,.osl 1900 ab 0 i.length,Av 0,.nils,.osl 1901 ac 0 h.length,Av p])),(1900,dW ab 3 75 (i.map OK)),(1901,dW ac 1 3 (h.map NA))]) hX (λ_=>PC (λg=>bif aA 24096 g then g-20000 else bif (aA 1000 g&&Nat.blt g 4096)then g-1000 else g) (by kernel_rfl) (YB [(900,some (_,⟨true,false,3,75,i.map OK⟩))] ⟨⟨_,_,r,r,r⟩,trivial⟩ ⟨(On r),(On r),(On r),(On r),trivial⟩ ⟨(.inl r),(.inl r),(.inl r),(.inr ⟨_,_,_,_,r,r,r,r,Wo r ⟨(OA r),(OA r),(OA r),(XC (l:=i) (en:=OK) r r r (by first|(simp;done)|rfl|(simp;rfl))),(OA r),(VT NA r),(OA r),(OA r),trivial⟩⟩),(.inl r),trivial⟩))))
     ·rintro⟨bl,bm,bn,bo,ak⟩ ⟨ep,er,es⟩ nn
      try dsimp only
      unfold XT;refine A 17 ?_;refine Azf (E:=λ(g:Nat)=>[(4,.optr 1004 e 0 0),(5,.optr 1005 f 0 0)]) (O:=λg=>[(1004,dV e 5 60 (.agg [Av bl,.sl (bm.map OK),Av bn,.sl (bo.map NA),.osl 1901 g 0 h.length])),(1005,dV f 1 40 (Av ak)),(1901,dW g 1 3 (h.map NA))]) (cp:=λg=>[.optr 1005 f 0 0,.optr 1004 e 0 0]) (E2:=λg=>[(0,.optr 1005 f 0 0),(1,.optr 1004 e 0 0)]) _ r ((PC (λg=>bif aA 4096 g then g+20000 else g+1000) (by kernel_rfl) hX)) (λ_=>r) (λ_=>r) (λ_=>r)<|?_
      rintro et nn
      try dsimp only
      refine Zc (c:=AAu)<|?_;refine Ac 6 ?_ ?_
      ·refine A 4 ?_;refine Aiv (d:=.tup []) (E:=[(4,.optr 4 e 0 0),(5,.optr 5 f 0 0)]) (O:=[(4,dV e 5 60 (.agg [Av 0,.nils,Av 0,.nils,.nils])),(5,dV f 1 40 (Av ak))]) r (by first|rfl|(simp[Ol,Oq,rdA,raw,strip,Ou,cells,Oo];done)|(simp[Ol,Oq,rdA,raw,strip,Ou,S.ge,S.go,look,SX,cells,Oo];done)) r ((PN [] hX (by kernel_rfl) (λ_=>hX))) λnn=>?_
       refine A 1 ?_;refine Pd (b:=((RA.mk (OP.mk 0 ([])) 0 ([]) ([])),ak)) r ?_ r r ?_ (by first|rfl|(simp only[NH];rfl)|(simp only[NK];rfl)|(simp only[NH,NK];rfl)|(simp[AcG,Apm];try rfl)) (by decide)
       all_goals first|(simp;done)|(simp;omega)|rfl|(simp;done)|(simp[cells];done)
      ·refine A 1 ?_;refine Aiv (d:=.tup []) (E:=[(4,.optr 4 e 0 0),(5,.optr 5 f 0 0)]) (O:=[(4,dV e 5 60 (.agg [Av bl,.sl (bm.map OK),Av bn,.sl (bo.map NA),.osl 901 _ 0 h.length])),(5,dV f 1 40 (Av ak)),(901,dW _ 1 3 (h.map NA))]) r (by first|rfl|(simp[Ol,Oq,rdA,raw,strip,Ou,cells,Oo];done)|(simp[Ol,Oq,rdA,raw,strip,Ou,S.ge,S.go,look,SX,cells,Oo];done)) r ((PN [] hX (by kernel_rfl) (λ_=>hX))) λnn=>?_
       refine A 1 ?_;refine Pd (b:=((RA.mk (OP.mk bl bm) bn bo h),ak)) r ?_ r r ?_ (by first|rfl|(simp only[NH];rfl)|(simp only[NK];rfl)|(simp only[NH,NK];rfl)|(simp[AcG,Apm];try rfl)) (by decide)
       all_goals first|(simp;done)|(simp;omega)|rfl|(simp;done)|(simp[cells];done)

def AmL:Dw.Spec:=NI [] .val Xr Xq (λa=>Agl a) AcG noE
theorem ArM:ND Tryz.prog 20 AmL:=by
 refine fn2 1 (NJ (l:=[(17,AmK)]) (by simp[ArL])) Tryz.func20<|?_
 intro a;unfold Agl;exact B

def Agr (_a:Unit):List D:=[]
def Agq (_ds:List D):Unit:=()
theorem Ast (a:Unit):Agq (Agr a)=a:=rfl
instance:Oc Agr Agq:=⟨Ast⟩
def Aod:Dw.Spec:=NI [] .ground Agr Agq (λ_a=>Aed) NW noE
theorem Asu:ND Tryz.prog 9 Aod:=by
 refine fn2 0 (NJ (l:=[(20,AmL)]) (by simp[ArM])) Tryz.func9<|?_
 intro _;unfold Aed;refine A 8 ?_;refine bS ([(Lo.mk 23 0 0 0 0)]:List Lo) NX r r r (by simp) r r r<|?_
 refine A 1 ?_;refine bS ([(Mk.mk 0 ([]) ([(Lo.mk 23 0 0 0 0)]:List Lo))]:List Mk) NM r r r (by simp) r (by simp[Abr,NM]<;>first|rfl|(rw[List.take_of_length_le (by simp)])) r<|?_
 exact B

def AcK (a:(List NR)):List D:=[.sl (a.map Oe)]
def AcJ (ds:List D):(List NR):=(uL Yn) (ds.getD 0 .top)
theorem Atr (a:(List NR)):AcJ (AcK a)=a:=by simp[AcJ,AcK,Oy (u:=Yn) (en:=Oe) Amt]
instance:Oc AcK AcJ:=⟨Atr⟩
def Apw:Dw.Spec:=NI [] .ground AcK AcJ (λa=>AcI a) NW noE
theorem Ats:ND Tryz.prog 10 Apw:=by
 refine fn2 1 (NZ) Tryz.func10<|?_;intro a;unfold AcI;refine A 19 ?_;refine lP (E:=λ(s:Int×Int) (_g:Unit)=>[(0,.sl (a.map Oe)),(3,Av s.1),(4,Av s.2)]) (O:=λ_ _=>[]) (body:=λs=>Ajr a s.1 s.2) (s:=((a.length:Int),0)) () hX<|?_
 rintro⟨b,c⟩ ⟨⟩ nn
 try dsimp only
 unfold Ajr;refine sC (E:=λ(_s:Unit) (_g:Unit)=>[(0,.sl (a.map Oe)),(3,Av b),(4,Av c),(12,Av b),(13,.bool (decide (b<=500)))]) (O:=λ_ _=>[]) (j:=λ_=>AeH a c b) ?_ ?_
 ·refine A 7 ?_;refine NS r ?_ ?_
  ·refine Ac 5 ?_ ?_
   ·refine A 1 ?_;exact xC (s:=()) () hX
   ·exact B
  ·exact B
 ·rintro⟨⟩ ⟨⟩ nn
  try dsimp only
  unfold AeH;refine Ab 6 λd i=>?_
  refine Ab 7 λe k=>?_
  refine Ab 8 λf l=>?_
  refine Ab 8 λg m=>?_
  refine Ab 8 λh o=>?_
  refine A 16 ?_;exact xL (s:=(i64.wrap (b+(i64.wrap ((i64.wrap ((i64.wrap ((i64.wrap ((d.Live.Out.length:Int)+(e.LiveAfter.Out.length:Int)))+(f.Rename.To.length:Int)))+(g.Rename.Keep.length:Int)))+(h.Layout.Off.length:Int)))),i64.wrap (c+1))) () hX

def Akw (a:(List Int)×Int):List D:=[.sl (a.1.map eU8),Av a.2]
def Akv (ds:List D):(List Int)×Int:=((uL uI) (ds.getD 0 .top),uI (ds.getD 1 .top))
instance:Oc Akw Akv:=⟨λa=>by simp[Akv,Akw,uI,Oy (u:=uI) (en:=eU8) (λ_=>rfl)]⟩
def Awx (b:BR):D:=Ow b
def ArJ:Dw.Spec:=NI [] (.ptr 2 114) Akw Akv (λa=>Aku a.1 a.2) Awx noE
theorem Avt:ND Tryz.prog 29 ArJ:=by
 refine fn2 2 (NZ) Tryz.func29<|?_;intro a;unfold Aku;exact B

def Sh (a:BR):List D:=[Ow a]
def Sg (ds:List D):BR:=RM (ds.getD 0 .top)
instance:Oc Sh Sg:=⟨λa=>by simp[Sg,Sh]⟩
def Aqn (b:Bool×BR):D:=.bool b.1
def Aqm (b:Bool×BR):List D:=[Ow b.2]
def AjK:Dw.Spec:=NI [(0,(2,114))] .val Sh Sg (λa=>Abl a) Aqn Aqm
theorem AoX:ND Tryz.prog 64 AjK:=by
 refine fn2 1 (NZ) Tryz.func64<|?_;intro a;unfold Abl;exact B

end
end Go.Proofs.YtcaoepecbgggcaaGreatDoor
