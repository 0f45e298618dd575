/-
 The code does what its typed programs say.
-/
import Derived.Test.YtcaoepecbgggcaaGreatDoorDxF16
import Derived.Test.YtcaoepecbgggcaaGreatDoorDxF17
import Derived.Test.YtcaoepecbgggcaaGreatDoorDxF18
open Nat renaming ble->aA
namespace Go.Proofs.YtcaoepecbgggcaaGreatDoor
open Go Go.Dw Go.Proofs
set_option maxRecDepth 100000
set_option maxHeartbeats 40000000
open Go.Dw renaming OO -> bD,TR -> bS,Qs -> cD,PY -> xL,QS -> lP,Adc -> mF,rf -> r
noncomputable section
abbrev Amt:=en2 PJ (eL Ob)
abbrev AvP:=de2 Rr (uL AdZ)
def Zz (b:PE×Int):D:=.tup [Aaw b.1,Nm b.2]
def Aeq:Dw.Spec:=Zl (specs [(108,Amd)]) 1 [(.t 2)] AvJ
theorem Akn:Nr Tryz.prog 52 Aeq:=UC (nK 108 Arn<|Np) Tryz.func52 (by decide) Ayz AyA (by decide)
def Aes:Dw.Spec:=Zl (specs [(109,Ane),(110,Ajg)]) 1 [(.t 2)] AvK
theorem Akp:Nr Tryz.prog 53 Aes:=UC (nK 109 Axo<|nK 110 Ahz<|Np) Tryz.func53 (by decide) AyB AyC (by decide)
def Aeu:Dw.Spec:=Zl (specs [(38,Ahl),(39,Agz),(111,AgT)]) 1 [(.t 2)] AvL
theorem Akr:Nr Tryz.prog 54 Aeu:=UC (nK 38 AfI<|nK 39 AaW<|nK 111 Aka<|Np) Tryz.func54 (by decide) AyD AyE (by decide)
def Aew:Dw.Spec:=Zl (specs [(12,Agq),(43,Agy),(112,Ajk)]) 3 [(.t 6)] AsX
theorem Aku:Nr Tryz.prog 56 Aew:=UC (nK 12 Amu<|nK 43 Afo<|nK 112 Aol<|Np) Tryz.func56 (by decide) AyH AyI (by decide)
def AdN:Dw.Spec:=Zl (specs [(38,Ahl),(113,Agl),(111,AgT),(114,Acm),(115,AkJ)]) 1 [(.t 2)] AvM
theorem AjK:Nr Tryz.prog 57 AdN:=UC (nK 38 AfI<|nK 113 Aml<|nK 111 Aka<|nK 114 AiD<|nK 115 ApE<|Np) Tryz.func57 (by decide) AyJ AyK (by decide)
def Aep:Dw.Spec:=Zl (specs [(52,Aeq)]) 2 [] Aee
theorem Akm:Nr Tryz.prog 51 Aep:=UC (nK 52 Akn<|Np) Tryz.func51 (by decide) Ake Akf (by decide)
def Aer:Dw.Spec:=Zl (specs [(53,Aes)]) 2 [] Aee
theorem Ako:Nr Tryz.prog 51 Aer:=UC (nK 53 Akp<|Np) Tryz.func51 (by decide) Ake Akf (by decide)
def Aet:Dw.Spec:=Zl (specs [(54,Aeu)]) 2 [] Aee
theorem Akq:Nr Tryz.prog 51 Aet:=UC (nK 54 Akr<|Np) Tryz.func51 (by decide) Ake Akf (by decide)
def Aev:Dw.Spec:=Zl (specs [(56,Aew)]) 3 [(.t 3)] AsW
theorem Akt:Nr Tryz.prog 55 Aev:=UC (nK 56 Aku<|Np) Tryz.func55 (by decide) AyF AyG (by decide)
def AdM:Dw.Spec:=Zl (specs [(57,AdN)]) 2 [] Aee
theorem AjJ:Nr Tryz.prog 51 AdM:=UC (nK 57 AjK<|Np) Tryz.func51 (by decide) Ake Akf (by decide)
def Aai:Dw.Spec:=Zl (specs [(55,Aev)]) 2 [] Aee
theorem Aks:Nr Tryz.prog 51 Aai:=UC (nK 55 Akt<|Np) Tryz.func51 (by decide) Ake Akf (by decide)
theorem Ago:Nr Tryz.prog 17 (fS .val Amt (λa=>SW a.1 a.2) Zz):=by
 refine fn3 50 2 2 (nK 16994355 Akm<|nK 16998451 Ako<|nK 17002547 Akq<|nK 229427 Aks<|nK 17014835 AjJ<|Np) Np Tryz.func17 Tryz.func50<|?_;rintro⟨e,t⟩;unfold SW;refine A 8 ?_;refine mF (caps:=[.optr 5 _ 0 0,.optr 4 _ 0 0]) r r (by simp[SE])<|?_
 refine A 1 ?_;refine Ayd (E:=λ(g:Nat×Nat×Nat)=>[oM 1 t Ob,oP 2 g.1,oP 4 g.2.1,oP 5 g.2.2,(9,.clo 50 [.optr 5 g.2.2 0 0,.optr 4 g.2.1 0 0])]) (O:=λg=>[(2,dV g.1 1 28 (.agg [.sl (e.Funcs.map Nz)])),(4,dV g.2.1 5 60 (.agg [Nm 0,.nils,Nm 0,.nils,.nils])),(5,dV g.2.2 1 40 (Nm 0))]) (cp:=λg=>[.optr 5 g.2.2 0 0,.optr 4 g.2.1 0 0]) (_,_,_) hX (λ_=>r)<|?_
 rintro⟨cf,f,h⟩ nn
 try dsimp only
 refine A 13 ?_;refine mF (caps:=[.optr 12 _ 0 0]) r r (by simp[SE])<|TS (E:=λ(g:Nat×Nat×Nat)=>[oM 1 t Ob,(2,.optr 1002 g.1 0 0),(4,.optr 1004 f 0 0),(5,.optr 1005 h 0 0),(6,.optr 1006 g.2.1 0 0),(13,.optr 1012 g.2.2 0 0),(15,.clo 4148 [.optr 1012 g.2.2 0 0])]) (O:=λg=>[(1002,dV g.1 1 28 (.agg [.sl (e.Funcs.map Nz)])),(1004,dV f 5 60 (.agg [Nm 0,.nils,Nm 0,.nils,.nils])),(1005,dV h 1 40 (Nm 0)),(1006,dV g.2.1 1 98 (.optr 1012 g.2.2 0 0)),(1012,dV g.2.2 8 100 (.agg [.sl (e.Funcs.map Nz),.nils,Nm 0,.nils,Nm 0,.nils,.nils,Nm 0]))]) (_,_,_) ((PR (λg=>bif aA 4096 g then g+20000 else g+1000) (by kernel_rfl) hX))<|?_
 rintro⟨bp,bq,aa⟩ nn
 try dsimp only
 refine YB (ES:=λ(_s:Int) (g:Nat×Nat×Nat)=>[oM 1 t Ob,oP 2 g.1,oP 4 f,oP 5 h,oP 6 g.2.1,(16,.tup [])]) (OS:=λs g=>[(2,dV g.1 1 28 (.agg [.sl (e.Funcs.map Nz)])),(4,dV f 5 60 (.agg [Nm 0,.nils,Nm 0,.nils,.nils])),(5,dV h 1 40 (Nm 0)),(6,dV g.2.1 1 98 (.optr 12 g.2.2 0 0)),(12,dV g.2.2 8 100 (.agg [.sl (e.Funcs.map Nz),.nils,Nm 0,.nils,Nm 0,.nils,.nils,Nm s]))]) (j:=λs=>Wn e t s) (ds:=[.optr 1012 aa 0 0,.clo 4148 [.optr 1012 aa 0 0]]) (caps:=[]) (E:=[(0,.optr 1012 aa 0 0),(1,.clo 4148 [.optr 1012 aa 0 0])]) rfl rfl rfl rfl rfl (show _=some Aep from by kernel_rfl) rfl rfl ?_ ?_
 ·refine Xa (c:=Aee)<|?_;refine Ac 9 ?_ ?_
  ·refine A 3 ?_;refine TS (E:=λ(g:Unit)=>[(9,.optr 2012 aa 0 0),(10,.clo 4148 [.optr 2012 aa 0 0])]) (O:=λg=>[(2002,dV bp 1 28 (.agg [.sl (e.Funcs.map Nz)])),(2004,dV f 5 60 (.agg [Nm 0,.nils,Nm 0,.nils,.nils])),(2005,dV h 1 40 (Nm 0)),(2006,dV bq 1 98 (.optr 2012 aa 0 0)),(2012,dV aa 8 100 (.agg [.sl (e.Funcs.map Nz),.nils,Nm 0,.nils,Nm 0,.nils,.nils,Nm 0]))]) () ((PR (λg=>bif aA 4096 g then g+20000 else g+1000) (by kernel_rfl) hX))<|?_
   rintro⟨⟩ nn
   try dsimp only
   refine AfL (ds:=[]) (caps:=[.optr 2012 aa 0 0]) (E:=[(0,.optr 2012 aa 0 0)]) r r r r r r r r<|Xa (c:=AvJ)<|?_;refine Ab 11 λay ch=>?_
   refine A 5 ?_;refine Adf (d:=Nm ay) (E:=[(9,.optr 1012 aa 0 0),oI 11 ay]) (O:=[(1002,dV bp 1 28 (.agg [.sl (e.Funcs.map Nz)])),(1004,dV f 5 60 (.agg [Nm 0,.nils,Nm 0,.nils,.nils])),(1005,dV h 1 40 (Nm 0)),(1006,dV bq 1 98 (.optr 1012 aa 0 0)),(1012,dV aa 8 100 (.agg [.sl (e.Funcs.map Nz),.nils,Nm 0,.nils,Nm 0,.nils,.nils,Nm 0]))]) r (by first|rfl|(simp[NV,NZ,rdA,raw,strip,Oe,cells,Oc];done)|(simp[NV,NZ,rdA,raw,strip,Oe,S.ge,S.go,look,SL,cells,Oc];done)) r ((PW [] hX (by kernel_rfl) (λ_=>hX))) λnn=>?_
   refine A 4 ?_;exact QC (d:=.tup []) (s:=ay) (_,_,_) r (by first|rfl|(simp[NV,NZ,rdA,raw,strip,Oe,cells,Oc];done)|(simp[NV,NZ,rdA,raw,strip,Oe,S.ge,S.go,look,SL,cells,Oc];done)) r ((PW [] hX (by kernel_rfl) (λ_=>hX)))
  ·refine A 1 ?_;exact QC (d:=.tup []) (s:=0) (_,_,_) r (by first|rfl|(simp[NV,NZ,rdA,raw,strip,Oe,cells,Oc];done)|(simp[NV,NZ,rdA,raw,strip,Oe,S.ge,S.go,look,SL,cells,Oc];done)) r ((PW [] hX (by kernel_rfl) (λ_=>hX)))
 ·rintro x3 ⟨ci,cj,ck⟩ nn;dsimp only[Wn];refine A 6 ?_;refine mF (caps:=[.optr 12 _ 0 0]) r r (by simp[SE])<|TS (E:=λ(g:Nat×Nat×Nat)=>[oM 1 t Ob,(2,.optr 1002 g.1 0 0),(4,.optr 1004 f 0 0),(5,.optr 1005 h 0 0),(6,.optr 1006 g.2.1 0 0),(17,.optr 1012 g.2.2 0 0),(19,.clo 4149 [.optr 1012 g.2.2 0 0])]) (O:=λg=>[(1002,dV g.1 1 28 (.agg [.sl (e.Funcs.map Nz)])),(1004,dV f 5 60 (.agg [Nm 0,.nils,Nm 0,.nils,.nils])),(1005,dV h 1 40 (Nm 0)),(1006,dV g.2.1 1 98 (.optr 1012 g.2.2 0 0)),(1012,dV g.2.2 8 100 (.agg [.sl (e.Funcs.map Nz),.nils,Nm 0,.nils,Nm 0,.nils,.nils,Nm x3]))]) (_,_,_) ((PR (λg=>bif aA 4096 g then g+20000 else g+1000) (by kernel_rfl) hX))<|?_
  rintro⟨ap,aq,v⟩ nn
  try dsimp only
  refine YB (ES:=λ(_s:(List (List Int))×Int) (g:Nat×Nat×Nat)=>[oM 1 t Ob,oP 2 g.1,oP 4 f,oP 5 h,oP 6 g.2.1,(20,.tup [])]) (OS:=λs g=>[(2,dV g.1 1 28 (.agg [.sl (e.Funcs.map Nz)])),(4,dV f 5 60 (.agg [Nm 0,.nils,Nm 0,.nils,.nils])),(5,dV h 1 40 (Nm 0)),(6,dV g.2.1 1 98 (.optr 12 g.2.2 0 0)),(12,dV g.2.2 8 100 (.agg [.sl (e.Funcs.map Nz),.sl (s.1.map (eL Av)),Nm 0,.nils,Nm 0,.nils,.nils,Nm s.2]))]) (j:=λs=>RY e t s.1 s.2) (ds:=[.optr 1012 v 0 0,.clo 4149 [.optr 1012 v 0 0]]) (caps:=[]) (E:=[(0,.optr 1012 v 0 0),(1,.clo 4149 [.optr 1012 v 0 0])]) rfl rfl rfl rfl rfl (show _=some Aer from by kernel_rfl) rfl rfl ?_ ?_
  ·refine Xa (c:=Aee)<|?_;refine Ac 9 ?_ ?_
   ·refine A 3 ?_;refine TS (E:=λ(g:Unit)=>[(9,.optr 2012 v 0 0),(10,.clo 4149 [.optr 2012 v 0 0])]) (O:=λg=>[(2002,dV ap 1 28 (.agg [.sl (e.Funcs.map Nz)])),(2004,dV f 5 60 (.agg [Nm 0,.nils,Nm 0,.nils,.nils])),(2005,dV h 1 40 (Nm 0)),(2006,dV aq 1 98 (.optr 2012 v 0 0)),(2012,dV v 8 100 (.agg [.sl (e.Funcs.map Nz),.nils,Nm 0,.nils,Nm 0,.nils,.nils,Nm x3]))]) () ((PR (λg=>bif aA 4096 g then g+20000 else g+1000) (by kernel_rfl) hX))<|?_
    rintro⟨⟩ nn
    try dsimp only
    refine AfL (ds:=[]) (caps:=[.optr 2012 v 0 0]) (E:=[(0,.optr 2012 v 0 0)]) r r r r r r r r<|Xa (c:=AvK)<|?_;refine Ab 12 λbr cl=>?_
    refine Ab 12 λaz cm=>?_
    refine A 15 ?_;refine Adf (d:=Nm az.2) (E:=[(9,.optr 1012 v 0 0),oI 11 az.2]) (O:=[(1002,dV ap 1 28 (.agg [.sl (e.Funcs.map Nz)])),(1004,dV f 5 60 (.agg [Nm 0,.nils,Nm 0,.nils,.nils])),(1005,dV h 1 40 (Nm 0)),(1006,dV aq 1 98 (.optr 1012 v 0 0)),(1012,dV v 8 100 (.agg [.sl (e.Funcs.map Nz),.sl (br.map (eL Av)),Nm 0,.nils,Nm 0,.nils,.nils,Nm x3]))]) r (by first|rfl|(simp[NV,NZ,rdA,raw,strip,Oe,cells,Oc];done)|(simp[NV,NZ,rdA,raw,strip,Oe,S.ge,S.go,look,SL,cells,Oc];done)) r ((PW [] hX (by kernel_rfl) (λ_=>hX))) λnn=>?_
    refine A 4 ?_;exact QC (d:=.tup []) (s:=(br,az.2)) (_,_,_) r (by first|rfl|(simp[NV,NZ,rdA,raw,strip,Oe,cells,Oc];done)|(simp[NV,NZ,rdA,raw,strip,Oe,S.ge,S.go,look,SL,cells,Oc];done)) r ((PW [] hX (by kernel_rfl) (λ_=>hX)))
   ·refine A 1 ?_;exact QC (d:=.tup []) (s:=([],x3)) (_,_,_) r (by first|rfl|(simp[NV,NZ,rdA,raw,strip,Oe,cells,Oc];done)|(simp[NV,NZ,rdA,raw,strip,Oe,S.ge,S.go,look,SL,cells,Oc];done)) r ((XQ (E1:=[oM 1 t Ob,(2,.optr 1002 ap 0 0),(4,.optr 1004 f 0 0),(5,.optr 1005 h 0 0),(6,.optr 1006 aq 0 0),(20,.tup [])]) (O1:=[(1002,dV ap 1 28 (.agg [.sl (e.Funcs.map Nz)])),(1004,dV f 5 60 (.agg [Nm 0,.nils,Nm 0,.nils,.nils])),(1005,dV h 1 40 (Nm 0)),(1006,dV aq 1 98 (.optr 1012 v 0 0)),(1012,dV v 8 100 (.agg [.sl (e.Funcs.map Nz),.nils,Nm 0,.nils,Nm 0,.nils,.nils,Nm x3]))]) hX (λ_=>PR (λg=>bif aA 24096 g then g-20000 else bif (aA 1000 g&&Nat.blt g 4096)then g-1000 else g) (by kernel_rfl) (WI [] trivial ⟨(NY r),(NY r),(NY r),(NY r),(NY r),(NY r),trivial⟩ ⟨(.inl r),(.inl r),(.inl r),(.inl r),(.inr ⟨_,_,_,_,r,r,r,r,Vq r ⟨(Ol r),(Vd (eL Av) r),(Ol r),(Ol r),(Ol r),(Ol r),(Ol r),(Ol r),trivial⟩⟩),trivial⟩))))
  ·rintro⟨o,x5⟩ ⟨cn,co,cq⟩ nn;dsimp only[RY];refine A 6 ?_;refine mF (caps:=[.optr 12 _ 0 0]) r r (by simp[SE])<|TS (E:=λ(g:Nat×Nat×Nat)=>[oM 1 t Ob,(2,.optr 1002 g.1 0 0),(4,.optr 1004 f 0 0),(5,.optr 1005 h 0 0),(6,.optr 1006 g.2.1 0 0),(21,.optr 1012 g.2.2 0 0),(23,.clo 4150 [.optr 1012 g.2.2 0 0])]) (O:=λg=>[(1002,dV g.1 1 28 (.agg [.sl (e.Funcs.map Nz)])),(1004,dV f 5 60 (.agg [Nm 0,.nils,Nm 0,.nils,.nils])),(1005,dV h 1 40 (Nm 0)),(1006,dV g.2.1 1 98 (.optr 1012 g.2.2 0 0)),(1012,dV g.2.2 8 100 (.agg [.sl (e.Funcs.map Nz),.sl (o.map (eL Av)),Nm 0,.nils,Nm 0,.nils,.nils,Nm x5]))]) (_,_,_) ((PR (λg=>bif aA 4096 g then g+20000 else g+1000) (by kernel_rfl) hX))<|?_
   rintro⟨ba,bb,u⟩ nn
   try dsimp only
   refine YB (ES:=λ(_s:Int) (g:Nat×Nat×Nat)=>[oM 1 t Ob,oP 2 g.1,oP 4 f,oP 5 h,oP 6 g.2.1,(24,.tup [])]) (OS:=λs g=>[(2,dV g.1 1 28 (.agg [.sl (e.Funcs.map Nz)])),(4,dV f 5 60 (.agg [Nm 0,.nils,Nm 0,.nils,.nils])),(5,dV h 1 40 (Nm 0)),(6,dV g.2.1 1 98 (.optr 12 g.2.2 0 0)),(12,dV g.2.2 8 100 (.agg [.sl (e.Funcs.map Nz),.sl (o.map (eL Av)),Nm 0,.nils,Nm 0,.nils,.nils,Nm s]))]) (j:=λs=>RZ e t o s) (ds:=[.optr 1012 u 0 0,.clo 4150 [.optr 1012 u 0 0]]) (caps:=[]) (E:=[(0,.optr 1012 u 0 0),(1,.clo 4150 [.optr 1012 u 0 0])]) rfl rfl rfl rfl rfl (show _=some Aet from by kernel_rfl) rfl rfl ?_ ?_
   ·refine Xa (c:=Aee)<|?_;refine Ac 9 ?_ ?_
    ·refine A 3 ?_;refine TS (E:=λ(g:Unit)=>[(9,.optr 2012 u 0 0),(10,.clo 4150 [.optr 2012 u 0 0])]) (O:=λg=>[(2002,dV ba 1 28 (.agg [.sl (e.Funcs.map Nz)])),(2004,dV f 5 60 (.agg [Nm 0,.nils,Nm 0,.nils,.nils])),(2005,dV h 1 40 (Nm 0)),(2006,dV bb 1 98 (.optr 2012 u 0 0)),(2012,dV u 8 100 (.agg [.sl (e.Funcs.map Nz),.sl (o.map (eL Av)),Nm 0,.nils,Nm 0,.nils,.nils,Nm x5]))]) () ((PR (λg=>bif aA 4096 g then g+20000 else g+1000) (by kernel_rfl) hX))<|?_
     rintro⟨⟩ nn
     try dsimp only
     refine YB (ES:=λ(s:Int) (_g:Unit)=>[(9,.optr 1012 u 0 0),oI 11 s]) (OS:=λ_ _=>[(1002,dV ba 1 28 (.agg [.sl (e.Funcs.map Nz)])),(1004,dV f 5 60 (.agg [Nm 0,.nils,Nm 0,.nils,.nils])),(1005,dV h 1 40 (Nm 0)),(1006,dV bb 1 98 (.optr 1012 u 0 0)),(1012,dV u 8 100 (.agg [.sl (e.Funcs.map Nz),.sl (o.map (eL Av)),Nm 0,.nils,Nm 0,.nils,.nils,Nm x5]))]) (j:=λs=>TE e t o s) (ds:=[]) (caps:=[.optr 2012 u 0 0]) (E:=[(0,.optr 2012 u 0 0)]) r r r r r r r r ?_ ?_
     ·refine Xa (c:=AvL)<|?_;refine A 23 ?_;refine lP (E:=λ(s:(List Int)×Int) (g:Nat)=>[(0,.optr 2012 u 0 0),oT 3 g s.1,oL 14 e.Funcs,oI 15 s.2]) (O:=λs g=>[(3,dW g 1 3 (s.1.map Av)),(2002,dV ba 1 28 (.agg [.sl (e.Funcs.map Nz)])),(2004,dV f 5 60 (.agg [Nm 0,.nils,Nm 0,.nils,.nils])),(2005,dV h 1 40 (Nm 0)),(2006,dV bb 1 98 (.optr 2012 u 0 0)),(2012,dV u 8 100 (.agg [.sl (e.Funcs.map Nz),.sl (o.map (eL Av)),Nm 0,.nils,Nm 0,.nils,.nils,Nm x5]))]) _ hX<|?_
      rintro⟨cr,cs⟩ ct nn;dsimp only[Afg];refine Ac 6 ?_ ?_
      ·refine Ab 21 λcu cv=>?_
       refine Ab 1 λbs cw=>?_
       refine Ac 16 ?_ ?_
       ·refine A 13 ?_;exact QC (d:=Nm bs.2) (s:=bs.2) () r (by first|rfl|(simp[NV,NZ,rdA,raw,strip,Oe,cells,Oc];done)|(simp[NV,NZ,rdA,raw,strip,Oe,S.ge,S.go,look,SL,cells,Oc];done)) r ((PW [] hX (by kernel_rfl) (λ_=>hX)))
       ·exact B
      ·refine Ab 12 λbt cx=>?_
       refine A 15 ?_;exact QC (d:=Nm bt.2) (s:=bt.2) () r (by first|rfl|(simp[NV,NZ,rdA,raw,strip,Oe,cells,Oc];done)|(simp[NV,NZ,rdA,raw,strip,Oe,S.ge,S.go,look,SL,cells,Oc];done)) r ((PW [] hX (by kernel_rfl) (λ_=>hX)))
     ·rintro ce ⟨⟩ nn;dsimp only[TE];refine A 4 ?_;exact QC (d:=.tup []) (s:=ce) (_,_,_) r (by first|rfl|(simp[NV,NZ,rdA,raw,strip,Oe,cells,Oc];done)|(simp[NV,NZ,rdA,raw,strip,Oe,S.ge,S.go,look,SL,cells,Oc];done)) r ((PW [] hX (by kernel_rfl) (λ_=>hX)))
    ·refine A 1 ?_;exact QC (d:=.tup []) (s:=x5) (_,_,_) r (by first|rfl|(simp[NV,NZ,rdA,raw,strip,Oe,cells,Oc];done)|(simp[NV,NZ,rdA,raw,strip,Oe,S.ge,S.go,look,SL,cells,Oc];done)) r ((PW [] hX (by kernel_rfl) (λ_=>hX)))
   ·rintro x6 ⟨cz,da,db⟩ nn;dsimp only[RZ];refine A 12 ?_;refine lP (E:=λ(s:Int×(List NX)×(List Int)×Int) (g:Nat×Nat×Nat×Nat)=>[oM 1 t Ob,oP 4 f,oP 5 h,oP 6 g.1,oL 27 e.Funcs,oI 28 s.2.2.2]) (O:=λs g=>[(4,dV f 5 60 (.agg [Nm 0,.nils,Nm 0,.nils,.nils])),(5,dV h 1 40 (Nm 0)),(6,dV g.1 1 98 (.optr 12 g.2.1 0 0)),(12,dV g.2.1 8 100 (.agg [.sl (e.Funcs.map Nz),.sl (o.map (eL Av)),Nm 0,.osl 900 g.2.2.1 0 s.2.1.length,Nm 0,.nils,.osl 901 g.2.2.2 0 s.2.2.1.length,Nm s.1])),(900,dW g.2.2.1 3 75 (s.2.1.map NW)),(901,dW g.2.2.2 1 3 (s.2.2.1.map Av))]) (_,_,_,_) ((Zg (gg:=12) (off:=3) (tt:=900) (s:=3) (tyy:=75) r r r r (Zg (gg:=12) (off:=6) (tt:=901) (s:=1) (tyy:=3) r r r r hX)))<|?_
    rintro⟨p,k,i,m⟩ ⟨dc,dd,de,df⟩ nn;dsimp only[Wm];refine Ac 6 ?_ ?_
    ·refine A 10 ?_;refine Qd (E:=[oM 1 t Ob,oP 4 f,oP 5 h,oP 6 _,(7,.fptr (Nm m) 0),oL 27 e.Funcs,oI 28 m]) (O:=[(4,dV f 5 60 (.agg [Nm 0,.nils,Nm 0,.nils,.nils])),(5,dV h 1 40 (Nm 0)),(6,dV _ 1 98 (.optr 12 _ 0 0)),(12,dV _ 8 100 (.agg [.sl (e.Funcs.map Nz),.sl (o.map (eL Av)),Nm 0,.osl 900 _ 0 k.length,Nm 0,.nils,.osl 901 _ 0 i.length,Nm p])),(900,dW _ 3 75 (k.map NW)),(901,dW _ 1 3 (i.map Av))]) ((hV 7 r (hY))) λnn=>?_
     refine Ac 14 ?_ ?_
     ·refine Ab 3 λab dg=>?_
      refine A 4 ?_;refine Qd (E:=[oM 1 t Ob,oP 4 f,oP 5 h,oP 6 _,(7,.fptr (Nm m) 0),(8,.fptr (Ob ab) 0),oL 27 e.Funcs,oI 28 m]) (O:=[(4,dV f 5 60 (.agg [Nm 0,.nils,Nm 0,.nils,.nils])),(5,dV h 1 40 (Nm 0)),(6,dV _ 1 98 (.optr 12 _ 0 0)),(12,dV _ 8 100 (.agg [.sl (e.Funcs.map Nz),.sl (o.map (eL Av)),Nm 0,.osl 900 _ 0 k.length,Nm 0,.nils,.osl 901 _ 0 i.length,Nm p])),(900,dW _ 3 75 (k.map NW)),(901,dW _ 1 3 (i.map Av))]) ((hV 8 r (hY))) λnn=>?_
      refine A 2 ?_;refine mF (caps:=[.optr 6 _ 0 0,.fptr (Nm m) 0,.fptr (Ob ab) 0]) r r (by simp[SE])<|TS (E:=λ(g:Nat×Nat×Nat×Nat)=>[oM 1 t Ob,(4,.optr 1004 f 0 0),(5,.optr 1005 h 0 0),(6,.optr 1006 g.1 0 0),oL 27 e.Funcs,oI 28 m,(39,.optr 1012 g.2.1 0 0),(40,.clo 55 [.optr 1006 g.1 0 0,.fptr (Nm m) 0,.fptr (Ob ab) 0])]) (O:=λg=>[(1004,dV f 5 60 (.agg [Nm 0,.nils,Nm 0,.nils,.nils])),(1005,dV h 1 40 (Nm 0)),(1006,dV g.1 1 98 (.optr 1012 g.2.1 0 0)),(1012,dV g.2.1 8 100 (.agg [.sl (e.Funcs.map Nz),.sl (o.map (eL Av)),Nm 0,.osl 1900 g.2.2.1 0 k.length,Nm 0,.nils,.osl 1901 g.2.2.2 0 i.length,Nm p])),(1900,dW g.2.2.1 3 75 (k.map NW)),(1901,dW g.2.2.2 1 3 (i.map Av))]) (_,_,_,_) ((PR (λg=>bif aA 4096 g then g+20000 else g+1000) (by kernel_rfl) hX))<|?_
      rintro⟨ae,x,ar,au⟩ nn
      try dsimp only
      refine YB (ES:=λ(_s:Int×(List NX)×(List Int)) (g:Nat×Nat×Nat×Nat)=>[oM 1 t Ob,oP 4 f,oP 5 h,oP 6 g.1,oL 27 e.Funcs,oI 28 m,(41,.tup [])]) (OS:=λs g=>[(4,dV f 5 60 (.agg [Nm 0,.nils,Nm 0,.nils,.nils])),(5,dV h 1 40 (Nm 0)),(6,dV g.1 1 98 (.optr 12 g.2.1 0 0)),(12,dV g.2.1 8 100 (.agg [.sl (e.Funcs.map Nz),.sl (o.map (eL Av)),Nm 0,.osl 900 g.2.2.1 0 s.2.1.length,Nm 0,.nils,.osl 901 g.2.2.2 0 s.2.2.length,Nm s.1])),(900,dW g.2.2.1 3 75 (s.2.1.map NW)),(901,dW g.2.2.2 1 3 (s.2.2.map Av))]) (j:=λs=>YH m s.1 s.2.1 s.2.2) (ds:=[.optr 1012 x 0 0,.clo 55 [.optr 1006 ae 0 0,.fptr (Nm m) 0,.fptr (Ob ab) 0]]) (caps:=[]) (E:=[(0,.optr 1012 x 0 0),(1,.clo 55 [.optr 1006 ae 0 0,.fptr (Nm m) 0,.fptr (Ob ab) 0])]) rfl rfl rfl rfl rfl (show _=some Aai from by kernel_rfl) rfl rfl ?_ ?_
      ·refine Xa (c:=Aee)<|?_;refine Ac 9 ?_ ?_
       ·refine A 3 ?_;refine TS (E:=λ(g:Unit)=>[(9,.optr 2012 x 0 0),(10,.clo 55 [.optr 2006 ae 0 0,.fptr (Nm m) 0,.fptr (Ob ab) 0])]) (O:=λg=>[(2004,dV f 5 60 (.agg [Nm 0,.nils,Nm 0,.nils,.nils])),(2005,dV h 1 40 (Nm 0)),(2006,dV ae 1 98 (.optr 2012 x 0 0)),(2012,dV x 8 100 (.agg [.sl (e.Funcs.map Nz),.sl (o.map (eL Av)),Nm 0,.osl 2900 ar 0 k.length,Nm 0,.nils,.osl 2901 au 0 i.length,Nm p])),(2900,dW ar 3 75 (k.map NW)),(2901,dW au 1 3 (i.map Av))]) () ((PR (λg=>bif aA 4096 g then g+20000 else g+1000) (by kernel_rfl) hX))<|?_
        rintro⟨⟩ nn
        try dsimp only
        refine AfL (ds:=[]) (caps:=[.optr 2006 ae 0 0,.fptr (Nm m) 0,.fptr (Ob ab) 0]) (E:=[(0,.optr 2006 ae 0 0),(1,.fptr (Nm m) 0),(2,.fptr (Ob ab) 0)]) r r r r r r r r<|Xa (c:=AsW)<|?_;refine A 10 ?_;refine TS (E:=λ(g:Unit)=>[(4,.optr 3012 x 0 0),oI 5 m,(6,Ob ab)]) (O:=λg=>[(3004,dV f 5 60 (.agg [Nm 0,.nils,Nm 0,.nils,.nils])),(3005,dV h 1 40 (Nm 0)),(3006,dV ae 1 98 (.optr 3012 x 0 0)),(3012,dV x 8 100 (.agg [.sl (e.Funcs.map Nz),.sl (o.map (eL Av)),Nm 0,.osl 3900 ar 0 k.length,Nm 0,.nils,.osl 3901 au 0 i.length,Nm p])),(3900,dW ar 3 75 (k.map NW)),(3901,dW au 1 3 (i.map Av))]) () ((PR (λg=>bif aA 4096 g then g+20000 else g+1000) (by kernel_rfl) hX))<|?_
        rintro⟨⟩ nn
        try dsimp only
        refine YB (ES:=λ(s:(List NX)×(List Int)×Int) (_g:Nat×Nat)=>[oI 7 s.2.2]) (OS:=λs g=>[(2004,dV f 5 60 (.agg [Nm 0,.nils,Nm 0,.nils,.nils])),(2005,dV h 1 40 (Nm 0)),(2006,dV ae 1 98 (.optr 2012 x 0 0)),(2012,dV x 8 100 (.agg [.sl (e.Funcs.map Nz),.sl (o.map (eL Av)),Nm 0,.osl 2900 g.1 0 s.1.length,Nm 0,.nils,.osl 2901 g.2 0 s.2.1.length,Nm p])),(2900,dW g.1 3 75 (s.1.map NW)),(2901,dW g.2 1 3 (s.2.1.map Av))]) (j:=λs=>YI m s.1 s.2.1 s.2.2) (ds:=[.optr 3012 x 0 0,Nm m,Ob ab]) (caps:=[]) (E:=[(0,.optr 3012 x 0 0),oI 1 m,(2,Ob ab)]) r r r r r r r r ?_ ?_
        ·refine Xa (c:=AsX)<|?_;refine Ab 14 λbc dh=>?_
         refine Ac 21 ?_ ?_
         ·refine A 8 ?_;exact QC (d:=Nm bc.2.2.2) (s:=(k,i,bc.2.2.2)) (_,_) r (by first|rfl|(simp[NV,NZ,rdA,raw,strip,Oe,cells,Oc];done)|(simp[NV,NZ,rdA,raw,strip,Oe,S.ge,S.go,look,SL,cells,Oc];done)) r ((PW [] hX (by kernel_rfl) (λ_=>hX)))
         ·refine Ab 17 λdi dj=>?_
          refine Ab 3 λbu dk=>?_
          refine A 1 ?_;refine bS ([bu]:List NX) NW r r r (by simp) r r r<|?_
          refine A 31 ?_;exact QC (d:=Nm 0) (s:=(k++([bu]:List NX),i++([bc.2.2.1]:List Int),0)) (_,_) r (by first|rfl|(simp[NV,NZ,rdA,raw,strip,Oe,cells,Oc];done)|(simp[NV,NZ,rdA,raw,strip,Oe,S.ge,S.go,look,SL,cells,Oc];done)) r ((PW [(44,2900),(57,2901)] hX (by kernel_rfl) (λ_=>hX)))
        ·rintro⟨bd,bf,bg⟩ ⟨dl,dm⟩ nn;dsimp only[YI];refine A 4 ?_;refine Adf (d:=Nm bg) (E:=[(9,.optr 1012 x 0 0),oI 11 bg]) (O:=[(1004,dV f 5 60 (.agg [Nm 0,.nils,Nm 0,.nils,.nils])),(1005,dV h 1 40 (Nm 0)),(1006,dV ae 1 98 (.optr 1012 x 0 0)),(1012,dV x 8 100 (.agg [.sl (e.Funcs.map Nz),.sl (o.map (eL Av)),Nm 0,.osl 1900 _ 0 bd.length,Nm 0,.nils,.osl 1901 _ 0 bf.length,Nm p])),(1900,dW _ 3 75 (bd.map NW)),(1901,dW _ 1 3 (bf.map Av))]) r (by first|rfl|(simp[NV,NZ,rdA,raw,strip,Oe,cells,Oc];done)|(simp[NV,NZ,rdA,raw,strip,Oe,S.ge,S.go,look,SL,cells,Oc];done)) r ((PW [] hX (by kernel_rfl) (λ_=>hX))) λnn=>?_
         refine A 4 ?_;exact QC (d:=.tup []) (s:=(bg,bd,bf)) (_,_,_,_) r (by first|rfl|(simp[NV,NZ,rdA,raw,strip,Oe,cells,Oc];done)|(simp[NV,NZ,rdA,raw,strip,Oe,S.ge,S.go,look,SL,cells,Oc];done)) r ((PW [] hX (by kernel_rfl) (λ_=>hX)))
       ·refine A 1 ?_;exact QC (d:=.tup []) (s:=(p,k,i)) (_,_,_,_) r (by first|rfl|(simp[NV,NZ,rdA,raw,strip,Oe,cells,Oc];done)|(simp[NV,NZ,rdA,raw,strip,Oe,S.ge,S.go,look,SL,cells,Oc];done)) r ((PW [] hX (by kernel_rfl) (λ_=>hX)))
      ·rintro⟨dn,dp,dq⟩ ⟨dr,dt,du,dv⟩ nn;dsimp only[YH];exact B
     ·refine A 4 ?_;refine mF (caps:=[.optr 6 _ 0 0,.fptr (Nm m) 0,.optr 8 _ 0 0]) r r (by simp[SE])<|TS (E:=λ(g:Nat×Nat×Nat×Nat×Nat)=>[oM 1 t Ob,(4,.optr 1004 f 0 0),(5,.optr 1005 h 0 0),(6,.optr 1006 g.1 0 0),oL 27 e.Funcs,oI 28 m,(39,.optr 1012 g.2.2.1 0 0),(40,.clo 55 [.optr 1006 g.1 0 0,.fptr (Nm m) 0,.optr 1008 g.2.1 0 0])]) (O:=λg=>[(1004,dV f 5 60 (.agg [Nm 0,.nils,Nm 0,.nils,.nils])),(1005,dV h 1 40 (Nm 0)),(1006,dV g.1 1 98 (.optr 1012 g.2.2.1 0 0)),(1008,dV g.2.1 7 50 (.agg [.nils,.nils,.nils,.nils,Nm 0,Nm 0,.nils])),(1012,dV g.2.2.1 8 100 (.agg [.sl (e.Funcs.map Nz),.sl (o.map (eL Av)),Nm 0,.osl 1900 g.2.2.2.1 0 k.length,Nm 0,.nils,.osl 1901 g.2.2.2.2 0 i.length,Nm p])),(1900,dW g.2.2.2.1 3 75 (k.map NW)),(1901,dW g.2.2.2.2 1 3 (i.map Av))]) (_,_,_,_,_) ((PR (λg=>bif aA 4096 g then g+20000 else g+1000) (by kernel_rfl) hX))<|?_
      rintro⟨af,ag,z,av,aw⟩ nn
      try dsimp only
      refine YB (ES:=λ(_s:Int×(List NX)×(List Int)) (g:Nat×Nat×Nat×Nat)=>[oM 1 t Ob,oP 4 f,oP 5 h,oP 6 g.1,oL 27 e.Funcs,oI 28 m,(41,.tup [])]) (OS:=λs g=>[(4,dV f 5 60 (.agg [Nm 0,.nils,Nm 0,.nils,.nils])),(5,dV h 1 40 (Nm 0)),(6,dV g.1 1 98 (.optr 12 g.2.1 0 0)),(12,dV g.2.1 8 100 (.agg [.sl (e.Funcs.map Nz),.sl (o.map (eL Av)),Nm 0,.osl 900 g.2.2.1 0 s.2.1.length,Nm 0,.nils,.osl 901 g.2.2.2 0 s.2.2.length,Nm s.1])),(900,dW g.2.2.1 3 75 (s.2.1.map NW)),(901,dW g.2.2.2 1 3 (s.2.2.map Av))]) (j:=λs=>YJ m s.1 s.2.1 s.2.2) (ds:=[.optr 1012 z 0 0,.clo 55 [.optr 1006 af 0 0,.fptr (Nm m) 0,.optr 1008 ag 0 0]]) (caps:=[]) (E:=[(0,.optr 1012 z 0 0),(1,.clo 55 [.optr 1006 af 0 0,.fptr (Nm m) 0,.optr 1008 ag 0 0])]) rfl rfl rfl rfl rfl (show _=some Aai from by kernel_rfl) rfl rfl ?_ ?_
      ·refine Xa (c:=Aee)<|?_;refine Ac 9 ?_ ?_
       ·refine A 3 ?_;refine TS (E:=λ(g:Unit)=>[(9,.optr 2012 z 0 0),(10,.clo 55 [.optr 2006 af 0 0,.fptr (Nm m) 0,.optr 2008 ag 0 0])]) (O:=λg=>[(2004,dV f 5 60 (.agg [Nm 0,.nils,Nm 0,.nils,.nils])),(2005,dV h 1 40 (Nm 0)),(2006,dV af 1 98 (.optr 2012 z 0 0)),(2008,dV ag 7 50 (.agg [.nils,.nils,.nils,.nils,Nm 0,Nm 0,.nils])),(2012,dV z 8 100 (.agg [.sl (e.Funcs.map Nz),.sl (o.map (eL Av)),Nm 0,.osl 2900 av 0 k.length,Nm 0,.nils,.osl 2901 aw 0 i.length,Nm p])),(2900,dW av 3 75 (k.map NW)),(2901,dW aw 1 3 (i.map Av))]) () ((PR (λg=>bif aA 4096 g then g+20000 else g+1000) (by kernel_rfl) hX))<|?_
        rintro⟨⟩ nn
        try dsimp only
        refine AfL (ds:=[]) (caps:=[.optr 2006 af 0 0,.fptr (Nm m) 0,.optr 2008 ag 0 0]) (E:=[(0,.optr 2006 af 0 0),(1,.fptr (Nm m) 0),(2,.optr 2008 ag 0 0)]) r r r r r r r r<|Xa (c:=AsW)<|?_;refine A 10 ?_;refine TS (E:=λ(g:Unit)=>[(4,.optr 3012 z 0 0),oI 5 m,(6,.agg [.nils,.nils,.nils,.nils,Nm 0,Nm 0,.nils])]) (O:=λg=>[(3004,dV f 5 60 (.agg [Nm 0,.nils,Nm 0,.nils,.nils])),(3005,dV h 1 40 (Nm 0)),(3006,dV af 1 98 (.optr 3012 z 0 0)),(3008,dV ag 7 50 (.agg [.nils,.nils,.nils,.nils,Nm 0,Nm 0,.nils])),(3012,dV z 8 100 (.agg [.sl (e.Funcs.map Nz),.sl (o.map (eL Av)),Nm 0,.osl 3900 av 0 k.length,Nm 0,.nils,.osl 3901 aw 0 i.length,Nm p])),(3900,dW av 3 75 (k.map NW)),(3901,dW aw 1 3 (i.map Av))]) () ((PR (λg=>bif aA 4096 g then g+20000 else g+1000) (by kernel_rfl) hX))<|?_
        rintro⟨⟩ nn
        try dsimp only
        refine YB (ES:=λ(s:(List NX)×(List Int)×Int) (_g:Nat×Nat)=>[oI 7 s.2.2]) (OS:=λs g=>[(2004,dV f 5 60 (.agg [Nm 0,.nils,Nm 0,.nils,.nils])),(2005,dV h 1 40 (Nm 0)),(2006,dV af 1 98 (.optr 2012 z 0 0)),(2008,dV ag 7 50 (.agg [.nils,.nils,.nils,.nils,Nm 0,Nm 0,.nils])),(2012,dV z 8 100 (.agg [.sl (e.Funcs.map Nz),.sl (o.map (eL Av)),Nm 0,.osl 2900 g.1 0 s.1.length,Nm 0,.nils,.osl 2901 g.2 0 s.2.1.length,Nm p])),(2900,dW g.1 3 75 (s.1.map NW)),(2901,dW g.2 1 3 (s.2.1.map Av))]) (j:=λs=>YK m s.1 s.2.1 s.2.2) (ds:=[.optr 3012 z 0 0,Nm m,.agg [.nils,.nils,.nils,.nils,Nm 0,Nm 0,.nils]]) (caps:=[]) (E:=[(0,.optr 3012 z 0 0),oI 1 m,(2,.agg [.nils,.nils,.nils,.nils,Nm 0,Nm 0,.nils])]) r r r r r r r r ?_ ?_
        ·refine Xa (c:=AsX)<|?_;refine Ab 14 λbh dw=>?_
         refine Ac 21 ?_ ?_
         ·refine A 8 ?_;exact QC (d:=Nm bh.2.2.2) (s:=(k,i,bh.2.2.2)) (_,_) r (by first|rfl|(simp[NV,NZ,rdA,raw,strip,Oe,cells,Oc];done)|(simp[NV,NZ,rdA,raw,strip,Oe,S.ge,S.go,look,SL,cells,Oc];done)) r ((PW [] hX (by kernel_rfl) (λ_=>hX)))
         ·refine Ab 17 λdx dy=>?_
          refine Ab 3 λbv dz=>?_
          refine A 1 ?_;refine bS ([bv]:List NX) NW r r r (by simp) r r r<|?_
          refine A 31 ?_;exact QC (d:=Nm 0) (s:=(k++([bv]:List NX),i++([bh.2.2.1]:List Int),0)) (_,_) r (by first|rfl|(simp[NV,NZ,rdA,raw,strip,Oe,cells,Oc];done)|(simp[NV,NZ,rdA,raw,strip,Oe,S.ge,S.go,look,SL,cells,Oc];done)) r ((PW [(44,2900),(57,2901)] hX (by kernel_rfl) (λ_=>hX)))
        ·rintro⟨bi,bj,bk⟩ ⟨ea,eb⟩ nn;dsimp only[YK];refine A 4 ?_;refine Adf (d:=Nm bk) (E:=[(9,.optr 1012 z 0 0),oI 11 bk]) (O:=[(1004,dV f 5 60 (.agg [Nm 0,.nils,Nm 0,.nils,.nils])),(1005,dV h 1 40 (Nm 0)),(1006,dV af 1 98 (.optr 1012 z 0 0)),(1008,dV ag 7 50 (.agg [.nils,.nils,.nils,.nils,Nm 0,Nm 0,.nils])),(1012,dV z 8 100 (.agg [.sl (e.Funcs.map Nz),.sl (o.map (eL Av)),Nm 0,.osl 1900 _ 0 bi.length,Nm 0,.nils,.osl 1901 _ 0 bj.length,Nm p])),(1900,dW _ 3 75 (bi.map NW)),(1901,dW _ 1 3 (bj.map Av))]) r (by first|rfl|(simp[NV,NZ,rdA,raw,strip,Oe,cells,Oc];done)|(simp[NV,NZ,rdA,raw,strip,Oe,S.ge,S.go,look,SL,cells,Oc];done)) r ((PW [] hX (by kernel_rfl) (λ_=>hX))) λnn=>?_
         refine A 4 ?_;exact QC (d:=.tup []) (s:=(bk,bi,bj)) (_,_,_,_) r (by first|rfl|(simp[NV,NZ,rdA,raw,strip,Oe,cells,Oc];done)|(simp[NV,NZ,rdA,raw,strip,Oe,S.ge,S.go,look,SL,cells,Oc];done)) r ((PW [] hX (by kernel_rfl) (λ_=>hX)))
       ·refine A 1 ?_;exact QC (d:=.tup []) (s:=(p,k,i)) (_,_,_,_) r (by first|rfl|(simp[NV,NZ,rdA,raw,strip,Oe,cells,Oc];done)|(simp[NV,NZ,rdA,raw,strip,Oe,S.ge,S.go,look,SL,cells,Oc];done)) r ((PW [] hX (by kernel_rfl) (λ_=>hX)))
      ·rintro⟨ec,ed,ee⟩ ⟨ef,eg,eh,ei⟩ nn;dsimp only[YJ];exact B
    ·refine A 9 ?_;refine mF (caps:=[.optr 12 _ 0 0]) r r (by simp[SE])<|TS (E:=λ(g:Nat×Nat×Nat×Nat)=>[(4,.optr 1004 f 0 0),(5,.optr 1005 h 0 0),(6,.optr 1006 g.1 0 0),(43,.optr 1012 g.2.1 0 0),(45,.clo 4153 [.optr 1012 g.2.1 0 0])]) (O:=λg=>[(1004,dV f 5 60 (.agg [Nm 0,.nils,Nm 0,.nils,.nils])),(1005,dV h 1 40 (Nm 0)),(1006,dV g.1 1 98 (.optr 1012 g.2.1 0 0)),(1012,dV g.2.1 8 100 (.agg [.sl (e.Funcs.map Nz),.sl (o.map (eL Av)),Nm 0,.osl 1900 g.2.2.1 0 k.length,Nm 0,.nils,.osl 1901 g.2.2.2 0 i.length,Nm p])),(1900,dW g.2.2.1 3 75 (k.map NW)),(1901,dW g.2.2.2 1 3 (i.map Av))]) (_,_,_,_) ((PR (λg=>bif aA 4096 g then g+20000 else g+1000) (by kernel_rfl) hX))<|?_
     rintro⟨ah,q,ac,ad⟩ nn
     try dsimp only
     refine YB (ES:=λ(_s:Int×(List NX)×Int×(List Int)×Int) (g:Nat×Nat×Nat)=>[oP 4 f,oP 5 h,oP 6 g.1,(46,.tup [])]) (OS:=λs g=>[(4,dV f 5 60 (.agg [Nm 0,.nils,Nm 0,.nils,.nils])),(5,dV h 1 40 (Nm 0)),(6,dV g.1 1 98 (.optr 12 g.2.1 0 0)),(12,dV g.2.1 8 100 (.agg [.sl (e.Funcs.map Nz),.sl (o.map (eL Av)),Nm s.1,.sl (s.2.1.map NW),Nm s.2.2.1,.sl (s.2.2.2.1.map Av),.osl 901 g.2.2 0 i.length,Nm s.2.2.2.2])),(901,dW g.2.2 1 3 (i.map Av))]) (j:=λs=>Ut i s.1 s.2.1 s.2.2.1 s.2.2.2.1 s.2.2.2.2) (ds:=[.optr 1012 q 0 0,.clo 4153 [.optr 1012 q 0 0]]) (caps:=[]) (E:=[(0,.optr 1012 q 0 0),(1,.clo 4153 [.optr 1012 q 0 0])]) rfl rfl rfl rfl rfl (show _=some AdM from by kernel_rfl) rfl rfl ?_ ?_
     ·refine Xa (c:=Aee)<|?_;refine Ac 9 ?_ ?_
      ·refine A 3 ?_;refine TS (E:=λ(g:Unit)=>[(9,.optr 2012 q 0 0),(10,.clo 4153 [.optr 2012 q 0 0])]) (O:=λg=>[(2004,dV f 5 60 (.agg [Nm 0,.nils,Nm 0,.nils,.nils])),(2005,dV h 1 40 (Nm 0)),(2006,dV ah 1 98 (.optr 2012 q 0 0)),(2012,dV q 8 100 (.agg [.sl (e.Funcs.map Nz),.sl (o.map (eL Av)),Nm 0,.osl 2900 ac 0 k.length,Nm 0,.nils,.osl 2901 ad 0 i.length,Nm p])),(2900,dW ac 3 75 (k.map NW)),(2901,dW ad 1 3 (i.map Av))]) () ((PR (λg=>bif aA 4096 g then g+20000 else g+1000) (by kernel_rfl) hX))<|?_
       rintro⟨⟩ nn
       try dsimp only
       refine YB (ES:=λ(s:Int×Int×(List Int)×Int) (_g:Unit)=>[(9,.optr 1012 q 0 0),oI 11 s.2.2.2]) (OS:=λs _=>[(1004,dV f 5 60 (.agg [Nm 0,.nils,Nm 0,.nils,.nils])),(1005,dV h 1 40 (Nm 0)),(1006,dV ah 1 98 (.optr 1012 q 0 0)),(1012,dV q 8 100 (.agg [.sl (e.Funcs.map Nz),.sl (o.map (eL Av)),Nm s.1,.osl 1900 ac 0 k.length,Nm s.2.1,.sl (s.2.2.1.map Av),.osl 1901 ad 0 i.length,Nm p])),(1900,some (ac,⟨true,false,3,75,k.map NW⟩)),(1901,dW ad 1 3 (i.map Av))]) (j:=λs=>TD i k s.1 s.2.1 s.2.2.1 s.2.2.2) (ds:=[]) (caps:=[.optr 2012 q 0 0]) (E:=[(0,.optr 2012 q 0 0)]) r r r r r r r r ?_ ?_
       ·refine Xa (c:=AvM)<|?_;refine Ab 12 λax ej=>?_
        refine Ab 15 λek el=>?_
        refine Ab 11 λak em=>?_
        refine Ac 15 ?_ ?_
        ·refine A 8 ?_;exact QC (d:=Nm ak.2) (s:=(ax,0,[],ak.2)) () r (by first|rfl|(simp[NV,NZ,rdA,raw,strip,Oe,cells,Oc];done)|(simp[NV,NZ,rdA,raw,strip,Oe,S.ge,S.go,look,SL,cells,Oc];done)) r ((XQ (E1:=[(9,.optr 2012 q 0 0),oI 11 ak.2]) (O1:=[(2004,dV f 5 60 (.agg [Nm 0,.nils,Nm 0,.nils,.nils])),(2005,dV h 1 40 (Nm 0)),(2006,dV ah 1 98 (.optr 2012 q 0 0)),(2012,dV q 8 100 (.agg [.sl (e.Funcs.map Nz),.sl (o.map (eL Av)),Nm ax,.osl 2900 ac 0 k.length,Nm 0,.nils,.osl 2901 ad 0 i.length,Nm p])),(2900,some (ac,⟨true,false,3,75,k.map NW⟩)),(2901,dW ad 1 3 (i.map Av))]) hX (λ_=>PR (λg=>bif aA 24096 g then g-20000 else bif (aA 1000 g&&Nat.blt g 4096)then g-1000 else g) (by kernel_rfl) (WI [] trivial ⟨(NY r),(NY r),trivial⟩ ⟨(.inl r),(.inl r),(.inl r),(.inr ⟨_,_,_,_,r,r,r,r,Vq r ⟨(Ol r),(Ol r),(Ol r),(Ol r),(Ol r),(Vd Av r),(Ol r),(Ol r),trivial⟩⟩),(.inl r),(.inl r),trivial⟩))))
        ·refine Ab 8 λbw eo=>?_
         refine Ab 21 λbx ep=>?_
         refine Ac 10 ?_ ?_
         ·refine A 8 ?_;exact QC (d:=Nm bx) (s:=(ax,bw,ak.1,bx)) () r (by first|rfl|(simp[NV,NZ,rdA,raw,strip,Oe,cells,Oc];done)|(simp[NV,NZ,rdA,raw,strip,Oe,S.ge,S.go,look,SL,cells,Oc];done)) r ((PW [] hX (by kernel_rfl) (λ_=>hX)))
         ·refine Ab 9 λbz er=>?_
          refine A 5 ?_;exact QC (d:=Nm bz) (s:=(ax,bw,ak.1,bz)) () r (by first|rfl|(simp[NV,NZ,rdA,raw,strip,Oe,cells,Oc];done)|(simp[NV,NZ,rdA,raw,strip,Oe,S.ge,S.go,look,SL,cells,Oc];done)) r ((PW [] hX (by kernel_rfl) (λ_=>hX)))
       ·rintro⟨ca,cb,cc,cd⟩ ⟨⟩ nn;dsimp only[TD];refine A 4 ?_;exact QC (d:=.tup []) (s:=(ca,k,cb,cc,cd)) (_,_,_) r (by first|rfl|(simp[NV,NZ,rdA,raw,strip,Oe,cells,Oc];done)|(simp[NV,NZ,rdA,raw,strip,Oe,S.ge,S.go,look,SL,cells,Oc];done)) r ((XQ (E1:=[(4,.optr 1004 f 0 0),(5,.optr 1005 h 0 0),(6,.optr 1006 ah 0 0),(46,.tup [])]) (O1:=[(1004,dV f 5 60 (.agg [Nm 0,.nils,Nm 0,.nils,.nils])),(1005,dV h 1 40 (Nm 0)),(1006,dV ah 1 98 (.optr 1012 q 0 0)),(1012,dV q 8 100 (.agg [.sl (e.Funcs.map Nz),.sl (o.map (eL Av)),Nm ca,.osl 1900 ac 0 k.length,Nm cb,.sl (cc.map Av),.osl 1901 ad 0 i.length,Nm cd])),(1900,some (ac,⟨true,false,3,75,k.map NW⟩)),(1901,dW ad 1 3 (i.map Av))]) hX (λ_=>PR (λg=>bif aA 24096 g then g-20000 else bif (aA 1000 g&&Nat.blt g 4096)then g-1000 else g) (by kernel_rfl) (WI [(900,some (_,⟨true,false,3,75,k.map NW⟩))] ⟨⟨_,_,r,r,r⟩,trivial⟩ ⟨(NY r),(NY r),(NY r),(NY r),trivial⟩ ⟨(.inl r),(.inl r),(.inl r),(.inr ⟨_,_,_,_,r,r,r,r,Vq r ⟨(Ol r),(Ol r),(Ol r),(We (l:=k) (en:=NW) r r r (by first|(simp;done)|rfl|(simp;rfl))),(Ol r),(Ol r),(Ol r),(Ol r),trivial⟩⟩),(.inl r),trivial⟩))))
      ·refine A 1 ?_;exact QC (d:=.tup []) (s:=(0,k,0,[],p)) (_,_,_) r (by first|rfl|(simp[NV,NZ,rdA,raw,strip,Oe,cells,Oc];done)|(simp[NV,NZ,rdA,raw,strip,Oe,S.ge,S.go,look,SL,cells,Oc];done)) r ((XQ (E1:=[(4,.optr 1004 f 0 0),(5,.optr 1005 h 0 0),(6,.optr 1006 ah 0 0),(46,.tup [])]) (O1:=[(1004,dV f 5 60 (.agg [Nm 0,.nils,Nm 0,.nils,.nils])),(1005,dV h 1 40 (Nm 0)),(1006,dV ah 1 98 (.optr 1012 q 0 0)),(1012,dV q 8 100 (.agg [.sl (e.Funcs.map Nz),.sl (o.map (eL Av)),Nm 0,.osl 1900 ac 0 k.length,Nm 0,.nils,.osl 1901 ad 0 i.length,Nm p])),(1900,dW ac 3 75 (k.map NW)),(1901,dW ad 1 3 (i.map Av))]) hX (λ_=>PR (λg=>bif aA 24096 g then g-20000 else bif (aA 1000 g&&Nat.blt g 4096)then g-1000 else g) (by kernel_rfl) (WI [(900,some (_,⟨true,false,3,75,k.map NW⟩))] ⟨⟨_,_,r,r,r⟩,trivial⟩ ⟨(NY r),(NY r),(NY r),(NY r),trivial⟩ ⟨(.inl r),(.inl r),(.inl r),(.inr ⟨_,_,_,_,r,r,r,r,Vq r ⟨(Ol r),(Ol r),(Ol r),(We (l:=k) (en:=NW) r r r (by first|(simp;done)|rfl|(simp;rfl))),(Ol r),(Vd Av r),(Ol r),(Ol r),trivial⟩⟩),(.inl r),trivial⟩))))
     ·rintro⟨bl,bm,bn,bo,ao⟩ ⟨es,et,eu⟩ nn;dsimp only[Ut];refine A 17 ?_;refine AwK (E:=λ(g:Nat)=>[(4,.optr 1004 f 0 0),(5,.optr 1005 h 0 0)]) (O:=λg=>[(1004,dV f 5 60 (.agg [Nm bl,.sl (bm.map NW),Nm bn,.sl (bo.map Av),.osl 1901 g 0 i.length])),(1005,dV h 1 40 (Nm ao)),(1901,dW g 1 3 (i.map Av))]) (cp:=λg=>[.optr 1005 h 0 0,.optr 1004 f 0 0]) (E2:=λg=>[(0,.optr 1005 h 0 0),(1,.optr 1004 f 0 0)]) _ r ((PR (λg=>bif aA 4096 g then g+20000 else g+1000) (by kernel_rfl) hX)) (λ_=>r) (λ_=>r) (λ_=>r)<|?_
      rintro ev nn
      try dsimp only
      refine Xa (c:=Ayy)<|?_;refine Ac 6 ?_ ?_
      ·refine A 4 ?_;refine Adf (d:=.tup []) (E:=[oP 4 f,oP 5 h]) (O:=[(4,dV f 5 60 (.agg [Nm 0,.nils,Nm 0,.nils,.nils])),(5,dV h 1 40 (Nm ao))]) r (by first|rfl|(simp[NV,NZ,rdA,raw,strip,Oe,cells,Oc];done)|(simp[NV,NZ,rdA,raw,strip,Oe,S.ge,S.go,look,SL,cells,Oc];done)) r ((PW [] hX (by kernel_rfl) (λ_=>hX))) λnn=>?_
       refine A 1 ?_;refine Po (b:=((PE.mk (Og.mk 0 ([])) 0 ([]) ([])),ao)) r ?_ r r ?_ (by first|rfl|(simp only[Nu];rfl)|(simp only[Nx];rfl)|(simp only[Nu,Nx];rfl)|(simp[Zz,Aaw];try rfl)) (by decide)
       all_goals first|(simp;done)|(simp;omega)|rfl|(simp;done)|(simp[cells];done)
      ·refine A 1 ?_;refine Adf (d:=.tup []) (E:=[oP 4 f,oP 5 h]) (O:=[(4,dV f 5 60 (.agg [Nm bl,.sl (bm.map NW),Nm bn,.sl (bo.map Av),.osl 901 _ 0 i.length])),(5,dV h 1 40 (Nm ao)),(901,dW _ 1 3 (i.map Av))]) r (by first|rfl|(simp[NV,NZ,rdA,raw,strip,Oe,cells,Oc];done)|(simp[NV,NZ,rdA,raw,strip,Oe,S.ge,S.go,look,SL,cells,Oc];done)) r ((PW [] hX (by kernel_rfl) (λ_=>hX))) λnn=>?_
       refine A 1 ?_;refine Po (b:=((PE.mk (Og.mk bl bm) bn bo i),ao)) r ?_ r r ?_ (by first|rfl|(simp only[Nu];rfl)|(simp only[Nx];rfl)|(simp only[Nu,Nx];rfl)|(simp[Zz,Aaw];try rfl)) (by decide)
       all_goals first|(simp;done)|(simp;omega)|rfl|(simp;done)|(simp[cells];done)

end
end Go.Proofs.YtcaoepecbgggcaaGreatDoor
