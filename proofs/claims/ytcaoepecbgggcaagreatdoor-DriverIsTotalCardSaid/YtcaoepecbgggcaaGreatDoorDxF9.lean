/-
 The code does what its typed programs say.
-/
import Derived.Test.YtcaoepecbgggcaaGreatDoorDxF7
import Derived.Test.YtcaoepecbgggcaaGreatDoorDxF8
open Nat renaming ble->aA
namespace Go.Proofs.YtcaoepecbgggcaaGreatDoor
open Go Go.Dw Go.Proofs
set_option maxRecDepth 100000
set_option maxHeartbeats 40000000
open Go.Dw renaming QN -> bD,Ya -> bS,Vs -> cD,UF -> xL,XG -> lP,AhY -> mF,rf -> r
noncomputable section
abbrev Amg:=en2 Pz (eL Oh)
abbrev AvF:=de2 Rp (uL AdK)
def Zz (b:PX×Int):D:=.tup [Ahp b.1,Nn b.2]
def Aec:Dw.Spec:=Zl (specs [(108,AlS)]) 1 [(.t 2)] Avz
theorem AjT:Ns Tryz.prog 52 Aec:=UC (nK 108 AqR<|Np) Tryz.func52 (by decide) Ayk Ayl (by decide)
def Aee:Dw.Spec:=Zl (specs [(109,AmR),(110,AiL)]) 1 [(.t 2)] AvA
theorem AjV:Ns Tryz.prog 53 Aee:=UC (nK 109 Axc<|nK 110 Ahh<|Np) Tryz.func53 (by decide) Aym Ayn (by decide)
def Aeg:Dw.Spec:=Zl (specs [(38,AgT),(39,Agj),(111,AgB)]) 1 [(.t 2)] AvB
theorem AjX:Ns Tryz.prog 54 Aeg:=UC (nK 38 Aft<|nK 39 AaQ<|nK 111 AjH<|Np) Tryz.func54 (by decide) Ayo Ayp (by decide)
def Aei:Dw.Spec:=Zl (specs [(12,Aga),(43,Agi),(112,AiP)]) 3 [(.t 6)] AsH
theorem Aka:Ns Tryz.prog 56 Aei:=UC (nK 12 Amh<|nK 43 Afa<|nK 112 AnT<|Np) Tryz.func56 (by decide) Ays Ayt (by decide)
def Adw:Dw.Spec:=Zl (specs [(38,AgT),(113,AfV),(111,AgB),(114,Aca),(115,Akp)]) 1 [(.t 2)] AvC
theorem Ajt:Ns Tryz.prog 57 Adw:=UC (nK 38 Aft<|nK 113 AlY<|nK 111 AjH<|nK 114 Aii<|nK 115 Aph<|Np) Tryz.func57 (by decide) Ayu Ayv (by decide)
def Aeb:Dw.Spec:=Zl (specs [(52,Aec)]) 2 [] AdP
theorem AjS:Ns Tryz.prog 51 Aeb:=UC (nK 52 AjT<|Np) Tryz.func51 (by decide) AjL AjM (by decide)
def Aed:Dw.Spec:=Zl (specs [(53,Aee)]) 2 [] AdP
theorem AjU:Ns Tryz.prog 51 Aed:=UC (nK 53 AjV<|Np) Tryz.func51 (by decide) AjL AjM (by decide)
def Aef:Dw.Spec:=Zl (specs [(54,Aeg)]) 2 [] AdP
theorem AjW:Ns Tryz.prog 51 Aef:=UC (nK 54 AjX<|Np) Tryz.func51 (by decide) AjL AjM (by decide)
def Aeh:Dw.Spec:=Zl (specs [(56,Aei)]) 3 [(.t 3)] AsG
theorem AjZ:Ns Tryz.prog 55 Aeh:=UC (nK 56 Aka<|Np) Tryz.func55 (by decide) Ayq Ayr (by decide)
def Adv:Dw.Spec:=Zl (specs [(57,Adw)]) 2 [] AdP
theorem Ajs:Ns Tryz.prog 51 Adv:=UC (nK 57 Ajt<|Np) Tryz.func51 (by decide) AjL AjM (by decide)
def Aab:Dw.Spec:=Zl (specs [(55,Aeh)]) 2 [] AdP
theorem AjY:Ns Tryz.prog 51 Aab:=UC (nK 55 AjZ<|Np) Tryz.func51 (by decide) AjL AjM (by decide)
theorem AfY:Ns Tryz.prog 17 (fS .val Amg (λa=>Ry a.1 a.2) Zz):=by
 refine fn3 50 2 2 (nK 16994355 AjS<|nK 16998451 AjU<|nK 17002547 AjW<|nK 229427 AjY<|nK 17014835 Ajs<|Np) Np Tryz.func17 Tryz.func50<|?_;rintro⟨e,t⟩;unfold Ry;refine A 8 ?_;refine mF (caps:=[.optr 5 _ 0 0,.optr 4 _ 0 0]) r r (by simp[SE])<|?_
 refine A 1 ?_;refine AxO (E:=λ(g:Nat×Nat×Nat)=>[oM 1 t Oh,oP 2 g.1,oP 4 g.2.1,oP 5 g.2.2,(9,.clo 50 [.optr 5 g.2.2 0 0,.optr 4 g.2.1 0 0])]) (O:=λg=>[(2,dV g.1 1 28 (.agg [.sl (e.Funcs.map Nz)])),(4,dV g.2.1 5 60 (.agg [Nn 0,.nils,Nn 0,.nils,.nils])),(5,dV g.2.2 1 40 (Nn 0))]) (cp:=λg=>[.optr 5 g.2.2 0 0,.optr 4 g.2.1 0 0]) (_,_,_) hX (λ_=>r)<|?_
 rintro⟨cf,f,h⟩ nn
 try dsimp only
 refine A 13 ?_;refine mF (caps:=[.optr 12 _ 0 0]) r r (by simp[SE])<|TQ (E:=λ(g:Nat×Nat×Nat)=>[oM 1 t Oh,(2,.optr 1002 g.1 0 0),(4,.optr 1004 f 0 0),(5,.optr 1005 h 0 0),(6,.optr 1006 g.2.1 0 0),(13,.optr 1012 g.2.2 0 0),(15,.clo 4148 [.optr 1012 g.2.2 0 0])]) (O:=λg=>[(1002,dV g.1 1 28 (.agg [.sl (e.Funcs.map Nz)])),(1004,dV f 5 60 (.agg [Nn 0,.nils,Nn 0,.nils,.nils])),(1005,dV h 1 40 (Nn 0)),(1006,dV g.2.1 1 98 (.optr 1012 g.2.2 0 0)),(1012,dV g.2.2 8 100 (.agg [.sl (e.Funcs.map Nz),.nils,Nn 0,.nils,Nn 0,.nils,.nils,Nn 0]))]) (_,_,_) ((PK (λg=>bif aA 4096 g then g+20000 else g+1000) (by kernel_rfl) hX))<|?_
 rintro⟨bp,bq,aa⟩ nn
 try dsimp only
 refine Yy (ES:=λ(_s:Int) (g:Nat×Nat×Nat)=>[oM 1 t Oh,oP 2 g.1,oP 4 f,oP 5 h,oP 6 g.2.1,(16,.tup [])]) (OS:=λs g=>[(2,dV g.1 1 28 (.agg [.sl (e.Funcs.map Nz)])),(4,dV f 5 60 (.agg [Nn 0,.nils,Nn 0,.nils,.nils])),(5,dV h 1 40 (Nn 0)),(6,dV g.2.1 1 98 (.optr 12 g.2.2 0 0)),(12,dV g.2.2 8 100 (.agg [.sl (e.Funcs.map Nz),.nils,Nn 0,.nils,Nn 0,.nils,.nils,Nn s]))]) (j:=λs=>Ur e t s) (ds:=[.optr 1012 aa 0 0,.clo 4148 [.optr 1012 aa 0 0]]) (caps:=[]) (E:=[(0,.optr 1012 aa 0 0),(1,.clo 4148 [.optr 1012 aa 0 0])]) rfl rfl rfl rfl rfl (show _=some Aeb from by kernel_rfl) rfl rfl ?_ ?_
 ·refine Xb (c:=AdP)<|?_;refine Ac 9 ?_ ?_
  ·refine A 3 ?_;refine TQ (E:=λ(g:Unit)=>[(9,.optr 2012 aa 0 0),(10,.clo 4148 [.optr 2012 aa 0 0])]) (O:=λg=>[(2002,dV bp 1 28 (.agg [.sl (e.Funcs.map Nz)])),(2004,dV f 5 60 (.agg [Nn 0,.nils,Nn 0,.nils,.nils])),(2005,dV h 1 40 (Nn 0)),(2006,dV bq 1 98 (.optr 2012 aa 0 0)),(2012,dV aa 8 100 (.agg [.sl (e.Funcs.map Nz),.nils,Nn 0,.nils,Nn 0,.nils,.nils,Nn 0]))]) () ((PK (λg=>bif aA 4096 g then g+20000 else g+1000) (by kernel_rfl) hX))<|?_
   rintro⟨⟩ nn
   try dsimp only
   refine Afv (ds:=[]) (caps:=[.optr 2012 aa 0 0]) (E:=[(0,.optr 2012 aa 0 0)]) r r r r r r r r<|Xb (c:=Avz)<|?_;refine Ab 11 λay ch=>?_
   refine A 5 ?_;refine AcP (d:=Nn ay) (E:=[(9,.optr 1012 aa 0 0),oI 11 ay]) (O:=[(1002,dV bp 1 28 (.agg [.sl (e.Funcs.map Nz)])),(1004,dV f 5 60 (.agg [Nn 0,.nils,Nn 0,.nils,.nils])),(1005,dV h 1 40 (Nn 0)),(1006,dV bq 1 98 (.optr 1012 aa 0 0)),(1012,dV aa 8 100 (.agg [.sl (e.Funcs.map Nz),.nils,Nn 0,.nils,Nn 0,.nils,.nils,Nn 0]))]) r (by first|rfl|(simp[Oc,Oi,rdA,raw,strip,On,cells,Oj];done)|(simp[Oc,Oi,rdA,raw,strip,On,S.ge,S.go,look,SM,cells,Oj];done)) r ((PV [] hX (by kernel_rfl) (λ_=>hX))) λnn=>?_
   refine A 4 ?_;exact Qw (d:=.tup []) (s:=ay) (_,_,_) r (by first|rfl|(simp[Oc,Oi,rdA,raw,strip,On,cells,Oj];done)|(simp[Oc,Oi,rdA,raw,strip,On,S.ge,S.go,look,SM,cells,Oj];done)) r ((PV [] hX (by kernel_rfl) (λ_=>hX)))
  ·refine A 1 ?_;exact Qw (d:=.tup []) (s:=0) (_,_,_) r (by first|rfl|(simp[Oc,Oi,rdA,raw,strip,On,cells,Oj];done)|(simp[Oc,Oi,rdA,raw,strip,On,S.ge,S.go,look,SM,cells,Oj];done)) r ((PV [] hX (by kernel_rfl) (λ_=>hX)))
 ·rintro x3 ⟨ci,cj,ck⟩ nn;dsimp only[Ur];refine A 6 ?_;refine mF (caps:=[.optr 12 _ 0 0]) r r (by simp[SE])<|TQ (E:=λ(g:Nat×Nat×Nat)=>[oM 1 t Oh,(2,.optr 1002 g.1 0 0),(4,.optr 1004 f 0 0),(5,.optr 1005 h 0 0),(6,.optr 1006 g.2.1 0 0),(17,.optr 1012 g.2.2 0 0),(19,.clo 4149 [.optr 1012 g.2.2 0 0])]) (O:=λg=>[(1002,dV g.1 1 28 (.agg [.sl (e.Funcs.map Nz)])),(1004,dV f 5 60 (.agg [Nn 0,.nils,Nn 0,.nils,.nils])),(1005,dV h 1 40 (Nn 0)),(1006,dV g.2.1 1 98 (.optr 1012 g.2.2 0 0)),(1012,dV g.2.2 8 100 (.agg [.sl (e.Funcs.map Nz),.nils,Nn 0,.nils,Nn 0,.nils,.nils,Nn x3]))]) (_,_,_) ((PK (λg=>bif aA 4096 g then g+20000 else g+1000) (by kernel_rfl) hX))<|?_
  rintro⟨ap,aq,v⟩ nn
  try dsimp only
  refine Yy (ES:=λ(_s:(List (List Int))×Int) (g:Nat×Nat×Nat)=>[oM 1 t Oh,oP 2 g.1,oP 4 f,oP 5 h,oP 6 g.2.1,(20,.tup [])]) (OS:=λs g=>[(2,dV g.1 1 28 (.agg [.sl (e.Funcs.map Nz)])),(4,dV f 5 60 (.agg [Nn 0,.nils,Nn 0,.nils,.nils])),(5,dV h 1 40 (Nn 0)),(6,dV g.2.1 1 98 (.optr 12 g.2.2 0 0)),(12,dV g.2.2 8 100 (.agg [.sl (e.Funcs.map Nz),.sl (s.1.map (eL Lo)),Nn 0,.nils,Nn 0,.nils,.nils,Nn s.2]))]) (j:=λs=>Rs e t s.1 s.2) (ds:=[.optr 1012 v 0 0,.clo 4149 [.optr 1012 v 0 0]]) (caps:=[]) (E:=[(0,.optr 1012 v 0 0),(1,.clo 4149 [.optr 1012 v 0 0])]) rfl rfl rfl rfl rfl (show _=some Aed from by kernel_rfl) rfl rfl ?_ ?_
  ·refine Xb (c:=AdP)<|?_;refine Ac 9 ?_ ?_
   ·refine A 3 ?_;refine TQ (E:=λ(g:Unit)=>[(9,.optr 2012 v 0 0),(10,.clo 4149 [.optr 2012 v 0 0])]) (O:=λg=>[(2002,dV ap 1 28 (.agg [.sl (e.Funcs.map Nz)])),(2004,dV f 5 60 (.agg [Nn 0,.nils,Nn 0,.nils,.nils])),(2005,dV h 1 40 (Nn 0)),(2006,dV aq 1 98 (.optr 2012 v 0 0)),(2012,dV v 8 100 (.agg [.sl (e.Funcs.map Nz),.nils,Nn 0,.nils,Nn 0,.nils,.nils,Nn x3]))]) () ((PK (λg=>bif aA 4096 g then g+20000 else g+1000) (by kernel_rfl) hX))<|?_
    rintro⟨⟩ nn
    try dsimp only
    refine Afv (ds:=[]) (caps:=[.optr 2012 v 0 0]) (E:=[(0,.optr 2012 v 0 0)]) r r r r r r r r<|Xb (c:=AvA)<|?_;refine Ab 12 λbr cl=>?_
    refine Ab 12 λaz cm=>?_
    refine A 15 ?_;refine AcP (d:=Nn az.2) (E:=[(9,.optr 1012 v 0 0),oI 11 az.2]) (O:=[(1002,dV ap 1 28 (.agg [.sl (e.Funcs.map Nz)])),(1004,dV f 5 60 (.agg [Nn 0,.nils,Nn 0,.nils,.nils])),(1005,dV h 1 40 (Nn 0)),(1006,dV aq 1 98 (.optr 1012 v 0 0)),(1012,dV v 8 100 (.agg [.sl (e.Funcs.map Nz),.sl (br.map (eL Lo)),Nn 0,.nils,Nn 0,.nils,.nils,Nn x3]))]) r (by first|rfl|(simp[Oc,Oi,rdA,raw,strip,On,cells,Oj];done)|(simp[Oc,Oi,rdA,raw,strip,On,S.ge,S.go,look,SM,cells,Oj];done)) r ((PV [] hX (by kernel_rfl) (λ_=>hX))) λnn=>?_
    refine A 4 ?_;exact Qw (d:=.tup []) (s:=(br,az.2)) (_,_,_) r (by first|rfl|(simp[Oc,Oi,rdA,raw,strip,On,cells,Oj];done)|(simp[Oc,Oi,rdA,raw,strip,On,S.ge,S.go,look,SM,cells,Oj];done)) r ((PV [] hX (by kernel_rfl) (λ_=>hX)))
   ·refine A 1 ?_;exact Qw (d:=.tup []) (s:=([],x3)) (_,_,_) r (by first|rfl|(simp[Oc,Oi,rdA,raw,strip,On,cells,Oj];done)|(simp[Oc,Oi,rdA,raw,strip,On,S.ge,S.go,look,SM,cells,Oj];done)) r ((WJ (E1:=[oM 1 t Oh,(2,.optr 1002 ap 0 0),(4,.optr 1004 f 0 0),(5,.optr 1005 h 0 0),(6,.optr 1006 aq 0 0),(20,.tup [])]) (O1:=[(1002,dV ap 1 28 (.agg [.sl (e.Funcs.map Nz)])),(1004,dV f 5 60 (.agg [Nn 0,.nils,Nn 0,.nils,.nils])),(1005,dV h 1 40 (Nn 0)),(1006,dV aq 1 98 (.optr 1012 v 0 0)),(1012,dV v 8 100 (.agg [.sl (e.Funcs.map Nz),.nils,Nn 0,.nils,Nn 0,.nils,.nils,Nn x3]))]) hX (λ_=>PK (λg=>bif aA 24096 g then g-20000 else bif (aA 1000 g&&Nat.blt g 4096)then g-1000 else g) (by kernel_rfl) (WI [] trivial ⟨(Og r),(Og r),(Og r),(Og r),(Og r),(Og r),trivial⟩ ⟨(.inl r),(.inl r),(.inl r),(.inl r),(.inr ⟨_,_,_,_,r,r,r,r,Vu r ⟨(Ou r),(Vi (eL Lo) r),(Ou r),(Ou r),(Ou r),(Ou r),(Ou r),(Ou r),trivial⟩⟩),trivial⟩))))
  ·rintro⟨o,x5⟩ ⟨cn,co,cq⟩ nn;dsimp only[Rs];refine A 6 ?_;refine mF (caps:=[.optr 12 _ 0 0]) r r (by simp[SE])<|TQ (E:=λ(g:Nat×Nat×Nat)=>[oM 1 t Oh,(2,.optr 1002 g.1 0 0),(4,.optr 1004 f 0 0),(5,.optr 1005 h 0 0),(6,.optr 1006 g.2.1 0 0),(21,.optr 1012 g.2.2 0 0),(23,.clo 4150 [.optr 1012 g.2.2 0 0])]) (O:=λg=>[(1002,dV g.1 1 28 (.agg [.sl (e.Funcs.map Nz)])),(1004,dV f 5 60 (.agg [Nn 0,.nils,Nn 0,.nils,.nils])),(1005,dV h 1 40 (Nn 0)),(1006,dV g.2.1 1 98 (.optr 1012 g.2.2 0 0)),(1012,dV g.2.2 8 100 (.agg [.sl (e.Funcs.map Nz),.sl (o.map (eL Lo)),Nn 0,.nils,Nn 0,.nils,.nils,Nn x5]))]) (_,_,_) ((PK (λg=>bif aA 4096 g then g+20000 else g+1000) (by kernel_rfl) hX))<|?_
   rintro⟨ba,bb,u⟩ nn
   try dsimp only
   refine Yy (ES:=λ(_s:Int) (g:Nat×Nat×Nat)=>[oM 1 t Oh,oP 2 g.1,oP 4 f,oP 5 h,oP 6 g.2.1,(24,.tup [])]) (OS:=λs g=>[(2,dV g.1 1 28 (.agg [.sl (e.Funcs.map Nz)])),(4,dV f 5 60 (.agg [Nn 0,.nils,Nn 0,.nils,.nils])),(5,dV h 1 40 (Nn 0)),(6,dV g.2.1 1 98 (.optr 12 g.2.2 0 0)),(12,dV g.2.2 8 100 (.agg [.sl (e.Funcs.map Nz),.sl (o.map (eL Lo)),Nn 0,.nils,Nn 0,.nils,.nils,Nn s]))]) (j:=λs=>RX e t o s) (ds:=[.optr 1012 u 0 0,.clo 4150 [.optr 1012 u 0 0]]) (caps:=[]) (E:=[(0,.optr 1012 u 0 0),(1,.clo 4150 [.optr 1012 u 0 0])]) rfl rfl rfl rfl rfl (show _=some Aef from by kernel_rfl) rfl rfl ?_ ?_
   ·refine Xb (c:=AdP)<|?_;refine Ac 9 ?_ ?_
    ·refine A 3 ?_;refine TQ (E:=λ(g:Unit)=>[(9,.optr 2012 u 0 0),(10,.clo 4150 [.optr 2012 u 0 0])]) (O:=λg=>[(2002,dV ba 1 28 (.agg [.sl (e.Funcs.map Nz)])),(2004,dV f 5 60 (.agg [Nn 0,.nils,Nn 0,.nils,.nils])),(2005,dV h 1 40 (Nn 0)),(2006,dV bb 1 98 (.optr 2012 u 0 0)),(2012,dV u 8 100 (.agg [.sl (e.Funcs.map Nz),.sl (o.map (eL Lo)),Nn 0,.nils,Nn 0,.nils,.nils,Nn x5]))]) () ((PK (λg=>bif aA 4096 g then g+20000 else g+1000) (by kernel_rfl) hX))<|?_
     rintro⟨⟩ nn
     try dsimp only
     refine Yy (ES:=λ(s:Int) (_g:Unit)=>[(9,.optr 1012 u 0 0),oI 11 s]) (OS:=λ_ _=>[(1002,dV ba 1 28 (.agg [.sl (e.Funcs.map Nz)])),(1004,dV f 5 60 (.agg [Nn 0,.nils,Nn 0,.nils,.nils])),(1005,dV h 1 40 (Nn 0)),(1006,dV bb 1 98 (.optr 1012 u 0 0)),(1012,dV u 8 100 (.agg [.sl (e.Funcs.map Nz),.sl (o.map (eL Lo)),Nn 0,.nils,Nn 0,.nils,.nils,Nn x5]))]) (j:=λs=>TC e t o s) (ds:=[]) (caps:=[.optr 2012 u 0 0]) (E:=[(0,.optr 2012 u 0 0)]) r r r r r r r r ?_ ?_
     ·refine Xb (c:=AvB)<|?_;refine A 23 ?_;refine lP (E:=λ(s:(List Int)×Int) (g:Nat)=>[(0,.optr 2012 u 0 0),oT 3 g s.1,oL 14 e.Funcs,oI 15 s.2]) (O:=λs g=>[(3,dW g 1 3 (s.1.map Lo)),(2002,dV ba 1 28 (.agg [.sl (e.Funcs.map Nz)])),(2004,dV f 5 60 (.agg [Nn 0,.nils,Nn 0,.nils,.nils])),(2005,dV h 1 40 (Nn 0)),(2006,dV bb 1 98 (.optr 2012 u 0 0)),(2012,dV u 8 100 (.agg [.sl (e.Funcs.map Nz),.sl (o.map (eL Lo)),Nn 0,.nils,Nn 0,.nils,.nils,Nn x5]))]) _ hX<|?_
      rintro⟨cr,cs⟩ ct nn;dsimp only[AeS];refine Ac 6 ?_ ?_
      ·refine Ab 21 λcu cv=>?_
       refine Ab 1 λbs cw=>?_
       refine Ac 16 ?_ ?_
       ·refine A 13 ?_;exact Qw (d:=Nn bs.2) (s:=bs.2) () r (by first|rfl|(simp[Oc,Oi,rdA,raw,strip,On,cells,Oj];done)|(simp[Oc,Oi,rdA,raw,strip,On,S.ge,S.go,look,SM,cells,Oj];done)) r ((PV [] hX (by kernel_rfl) (λ_=>hX)))
       ·exact B
      ·refine Ab 12 λbt cx=>?_
       refine A 15 ?_;exact Qw (d:=Nn bt.2) (s:=bt.2) () r (by first|rfl|(simp[Oc,Oi,rdA,raw,strip,On,cells,Oj];done)|(simp[Oc,Oi,rdA,raw,strip,On,S.ge,S.go,look,SM,cells,Oj];done)) r ((PV [] hX (by kernel_rfl) (λ_=>hX)))
     ·rintro ce ⟨⟩ nn;dsimp only[TC];refine A 4 ?_;exact Qw (d:=.tup []) (s:=ce) (_,_,_) r (by first|rfl|(simp[Oc,Oi,rdA,raw,strip,On,cells,Oj];done)|(simp[Oc,Oi,rdA,raw,strip,On,S.ge,S.go,look,SM,cells,Oj];done)) r ((PV [] hX (by kernel_rfl) (λ_=>hX)))
    ·refine A 1 ?_;exact Qw (d:=.tup []) (s:=x5) (_,_,_) r (by first|rfl|(simp[Oc,Oi,rdA,raw,strip,On,cells,Oj];done)|(simp[Oc,Oi,rdA,raw,strip,On,S.ge,S.go,look,SM,cells,Oj];done)) r ((PV [] hX (by kernel_rfl) (λ_=>hX)))
   ·rintro x6 ⟨cz,da,db⟩ nn;dsimp only[RX];refine A 12 ?_;refine lP (E:=λ(s:Int×(List OA)×(List Int)×Int) (g:Nat×Nat×Nat×Nat)=>[oM 1 t Oh,oP 4 f,oP 5 h,oP 6 g.1,oL 27 e.Funcs,oI 28 s.2.2.2]) (O:=λs g=>[(4,dV f 5 60 (.agg [Nn 0,.nils,Nn 0,.nils,.nils])),(5,dV h 1 40 (Nn 0)),(6,dV g.1 1 98 (.optr 12 g.2.1 0 0)),(12,dV g.2.1 8 100 (.agg [.sl (e.Funcs.map Nz),.sl (o.map (eL Lo)),Nn 0,.osl 900 g.2.2.1 0 s.2.1.length,Nn 0,.nils,.osl 901 g.2.2.2 0 s.2.2.1.length,Nn s.1])),(900,dW g.2.2.1 3 75 (s.2.1.map OI)),(901,dW g.2.2.2 1 3 (s.2.2.1.map Lo))]) (_,_,_,_) ((Zg (gg:=12) (off:=3) (tt:=900) (s:=3) (tyy:=75) r r r r (Zg (gg:=12) (off:=6) (tt:=901) (s:=1) (tyy:=3) r r r r hX)))<|?_
    rintro⟨p,k,i,m⟩ ⟨dc,dd,de,df⟩ nn;dsimp only[Wo];refine Ac 6 ?_ ?_
    ·refine A 10 ?_;refine Qc (E:=[oM 1 t Oh,oP 4 f,oP 5 h,oP 6 _,(7,.fptr (Nn m) 0),oL 27 e.Funcs,oI 28 m]) (O:=[(4,dV f 5 60 (.agg [Nn 0,.nils,Nn 0,.nils,.nils])),(5,dV h 1 40 (Nn 0)),(6,dV _ 1 98 (.optr 12 _ 0 0)),(12,dV _ 8 100 (.agg [.sl (e.Funcs.map Nz),.sl (o.map (eL Lo)),Nn 0,.osl 900 _ 0 k.length,Nn 0,.nils,.osl 901 _ 0 i.length,Nn p])),(900,dW _ 3 75 (k.map OI)),(901,dW _ 1 3 (i.map Lo))]) ((hV 7 r (hY))) λnn=>?_
     refine Ac 14 ?_ ?_
     ·refine Ab 3 λab dg=>?_
      refine A 4 ?_;refine Qc (E:=[oM 1 t Oh,oP 4 f,oP 5 h,oP 6 _,(7,.fptr (Nn m) 0),(8,.fptr (Oh ab) 0),oL 27 e.Funcs,oI 28 m]) (O:=[(4,dV f 5 60 (.agg [Nn 0,.nils,Nn 0,.nils,.nils])),(5,dV h 1 40 (Nn 0)),(6,dV _ 1 98 (.optr 12 _ 0 0)),(12,dV _ 8 100 (.agg [.sl (e.Funcs.map Nz),.sl (o.map (eL Lo)),Nn 0,.osl 900 _ 0 k.length,Nn 0,.nils,.osl 901 _ 0 i.length,Nn p])),(900,dW _ 3 75 (k.map OI)),(901,dW _ 1 3 (i.map Lo))]) ((hV 8 r (hY))) λnn=>?_
      refine A 2 ?_;refine mF (caps:=[.optr 6 _ 0 0,.fptr (Nn m) 0,.fptr (Oh ab) 0]) r r (by simp[SE])<|TQ (E:=λ(g:Nat×Nat×Nat×Nat)=>[oM 1 t Oh,(4,.optr 1004 f 0 0),(5,.optr 1005 h 0 0),(6,.optr 1006 g.1 0 0),oL 27 e.Funcs,oI 28 m,(39,.optr 1012 g.2.1 0 0),(40,.clo 55 [.optr 1006 g.1 0 0,.fptr (Nn m) 0,.fptr (Oh ab) 0])]) (O:=λg=>[(1004,dV f 5 60 (.agg [Nn 0,.nils,Nn 0,.nils,.nils])),(1005,dV h 1 40 (Nn 0)),(1006,dV g.1 1 98 (.optr 1012 g.2.1 0 0)),(1012,dV g.2.1 8 100 (.agg [.sl (e.Funcs.map Nz),.sl (o.map (eL Lo)),Nn 0,.osl 1900 g.2.2.1 0 k.length,Nn 0,.nils,.osl 1901 g.2.2.2 0 i.length,Nn p])),(1900,dW g.2.2.1 3 75 (k.map OI)),(1901,dW g.2.2.2 1 3 (i.map Lo))]) (_,_,_,_) ((PK (λg=>bif aA 4096 g then g+20000 else g+1000) (by kernel_rfl) hX))<|?_
      rintro⟨ae,x,ar,au⟩ nn
      try dsimp only
      refine Yy (ES:=λ(_s:Int×(List OA)×(List Int)) (g:Nat×Nat×Nat×Nat)=>[oM 1 t Oh,oP 4 f,oP 5 h,oP 6 g.1,oL 27 e.Funcs,oI 28 m,(41,.tup [])]) (OS:=λs g=>[(4,dV f 5 60 (.agg [Nn 0,.nils,Nn 0,.nils,.nils])),(5,dV h 1 40 (Nn 0)),(6,dV g.1 1 98 (.optr 12 g.2.1 0 0)),(12,dV g.2.1 8 100 (.agg [.sl (e.Funcs.map Nz),.sl (o.map (eL Lo)),Nn 0,.osl 900 g.2.2.1 0 s.2.1.length,Nn 0,.nils,.osl 901 g.2.2.2 0 s.2.2.length,Nn s.1])),(900,dW g.2.2.1 3 75 (s.2.1.map OI)),(901,dW g.2.2.2 1 3 (s.2.2.map Lo))]) (j:=λs=>YE m s.1 s.2.1 s.2.2) (ds:=[.optr 1012 x 0 0,.clo 55 [.optr 1006 ae 0 0,.fptr (Nn m) 0,.fptr (Oh ab) 0]]) (caps:=[]) (E:=[(0,.optr 1012 x 0 0),(1,.clo 55 [.optr 1006 ae 0 0,.fptr (Nn m) 0,.fptr (Oh ab) 0])]) rfl rfl rfl rfl rfl (show _=some Aab from by kernel_rfl) rfl rfl ?_ ?_
      ·refine Xb (c:=AdP)<|?_;refine Ac 9 ?_ ?_
       ·refine A 3 ?_;refine TQ (E:=λ(g:Unit)=>[(9,.optr 2012 x 0 0),(10,.clo 55 [.optr 2006 ae 0 0,.fptr (Nn m) 0,.fptr (Oh ab) 0])]) (O:=λg=>[(2004,dV f 5 60 (.agg [Nn 0,.nils,Nn 0,.nils,.nils])),(2005,dV h 1 40 (Nn 0)),(2006,dV ae 1 98 (.optr 2012 x 0 0)),(2012,dV x 8 100 (.agg [.sl (e.Funcs.map Nz),.sl (o.map (eL Lo)),Nn 0,.osl 2900 ar 0 k.length,Nn 0,.nils,.osl 2901 au 0 i.length,Nn p])),(2900,dW ar 3 75 (k.map OI)),(2901,dW au 1 3 (i.map Lo))]) () ((PK (λg=>bif aA 4096 g then g+20000 else g+1000) (by kernel_rfl) hX))<|?_
        rintro⟨⟩ nn
        try dsimp only
        refine Afv (ds:=[]) (caps:=[.optr 2006 ae 0 0,.fptr (Nn m) 0,.fptr (Oh ab) 0]) (E:=[(0,.optr 2006 ae 0 0),(1,.fptr (Nn m) 0),(2,.fptr (Oh ab) 0)]) r r r r r r r r<|Xb (c:=AsG)<|?_;refine A 10 ?_;refine TQ (E:=λ(g:Unit)=>[(4,.optr 3012 x 0 0),oI 5 m,(6,Oh ab)]) (O:=λg=>[(3004,dV f 5 60 (.agg [Nn 0,.nils,Nn 0,.nils,.nils])),(3005,dV h 1 40 (Nn 0)),(3006,dV ae 1 98 (.optr 3012 x 0 0)),(3012,dV x 8 100 (.agg [.sl (e.Funcs.map Nz),.sl (o.map (eL Lo)),Nn 0,.osl 3900 ar 0 k.length,Nn 0,.nils,.osl 3901 au 0 i.length,Nn p])),(3900,dW ar 3 75 (k.map OI)),(3901,dW au 1 3 (i.map Lo))]) () ((PK (λg=>bif aA 4096 g then g+20000 else g+1000) (by kernel_rfl) hX))<|?_
        rintro⟨⟩ nn
        try dsimp only
        refine Yy (ES:=λ(s:(List OA)×(List Int)×Int) (_g:Nat×Nat)=>[oI 7 s.2.2]) (OS:=λs g=>[(2004,dV f 5 60 (.agg [Nn 0,.nils,Nn 0,.nils,.nils])),(2005,dV h 1 40 (Nn 0)),(2006,dV ae 1 98 (.optr 2012 x 0 0)),(2012,dV x 8 100 (.agg [.sl (e.Funcs.map Nz),.sl (o.map (eL Lo)),Nn 0,.osl 2900 g.1 0 s.1.length,Nn 0,.nils,.osl 2901 g.2 0 s.2.1.length,Nn p])),(2900,dW g.1 3 75 (s.1.map OI)),(2901,dW g.2 1 3 (s.2.1.map Lo))]) (j:=λs=>YF m s.1 s.2.1 s.2.2) (ds:=[.optr 3012 x 0 0,Nn m,Oh ab]) (caps:=[]) (E:=[(0,.optr 3012 x 0 0),oI 1 m,(2,Oh ab)]) r r r r r r r r ?_ ?_
        ·refine Xb (c:=AsH)<|?_;refine Ab 14 λbc dh=>?_
         refine Ac 21 ?_ ?_
         ·refine A 8 ?_;exact Qw (d:=Nn bc.2.2.2) (s:=(k,i,bc.2.2.2)) (_,_) r (by first|rfl|(simp[Oc,Oi,rdA,raw,strip,On,cells,Oj];done)|(simp[Oc,Oi,rdA,raw,strip,On,S.ge,S.go,look,SM,cells,Oj];done)) r ((PV [] hX (by kernel_rfl) (λ_=>hX)))
         ·refine Ab 17 λdi dj=>?_
          refine Ab 3 λbu dk=>?_
          refine A 1 ?_;refine bS ([bu]:List OA) OI r r r (by simp) r r r<|?_
          refine A 31 ?_;exact Qw (d:=Nn 0) (s:=(k++([bu]:List OA),i++([bc.2.2.1]:List Int),0)) (_,_) r (by first|rfl|(simp[Oc,Oi,rdA,raw,strip,On,cells,Oj];done)|(simp[Oc,Oi,rdA,raw,strip,On,S.ge,S.go,look,SM,cells,Oj];done)) r ((PV [(44,2900),(57,2901)] hX (by kernel_rfl) (λ_=>hX)))
        ·rintro⟨bd,bf,bg⟩ ⟨dl,dm⟩ nn;dsimp only[YF];refine A 4 ?_;refine AcP (d:=Nn bg) (E:=[(9,.optr 1012 x 0 0),oI 11 bg]) (O:=[(1004,dV f 5 60 (.agg [Nn 0,.nils,Nn 0,.nils,.nils])),(1005,dV h 1 40 (Nn 0)),(1006,dV ae 1 98 (.optr 1012 x 0 0)),(1012,dV x 8 100 (.agg [.sl (e.Funcs.map Nz),.sl (o.map (eL Lo)),Nn 0,.osl 1900 _ 0 bd.length,Nn 0,.nils,.osl 1901 _ 0 bf.length,Nn p])),(1900,dW _ 3 75 (bd.map OI)),(1901,dW _ 1 3 (bf.map Lo))]) r (by first|rfl|(simp[Oc,Oi,rdA,raw,strip,On,cells,Oj];done)|(simp[Oc,Oi,rdA,raw,strip,On,S.ge,S.go,look,SM,cells,Oj];done)) r ((PV [] hX (by kernel_rfl) (λ_=>hX))) λnn=>?_
         refine A 4 ?_;exact Qw (d:=.tup []) (s:=(bg,bd,bf)) (_,_,_,_) r (by first|rfl|(simp[Oc,Oi,rdA,raw,strip,On,cells,Oj];done)|(simp[Oc,Oi,rdA,raw,strip,On,S.ge,S.go,look,SM,cells,Oj];done)) r ((PV [] hX (by kernel_rfl) (λ_=>hX)))
       ·refine A 1 ?_;exact Qw (d:=.tup []) (s:=(p,k,i)) (_,_,_,_) r (by first|rfl|(simp[Oc,Oi,rdA,raw,strip,On,cells,Oj];done)|(simp[Oc,Oi,rdA,raw,strip,On,S.ge,S.go,look,SM,cells,Oj];done)) r ((PV [] hX (by kernel_rfl) (λ_=>hX)))
      ·rintro⟨dn,dp,dq⟩ ⟨dr,dt,du,dv⟩ nn;dsimp only[YE];exact B
     ·refine A 4 ?_;refine mF (caps:=[.optr 6 _ 0 0,.fptr (Nn m) 0,.optr 8 _ 0 0]) r r (by simp[SE])<|TQ (E:=λ(g:Nat×Nat×Nat×Nat×Nat)=>[oM 1 t Oh,(4,.optr 1004 f 0 0),(5,.optr 1005 h 0 0),(6,.optr 1006 g.1 0 0),oL 27 e.Funcs,oI 28 m,(39,.optr 1012 g.2.2.1 0 0),(40,.clo 55 [.optr 1006 g.1 0 0,.fptr (Nn m) 0,.optr 1008 g.2.1 0 0])]) (O:=λg=>[(1004,dV f 5 60 (.agg [Nn 0,.nils,Nn 0,.nils,.nils])),(1005,dV h 1 40 (Nn 0)),(1006,dV g.1 1 98 (.optr 1012 g.2.2.1 0 0)),(1008,dV g.2.1 7 50 (.agg [.nils,.nils,.nils,.nils,Nn 0,Nn 0,.nils])),(1012,dV g.2.2.1 8 100 (.agg [.sl (e.Funcs.map Nz),.sl (o.map (eL Lo)),Nn 0,.osl 1900 g.2.2.2.1 0 k.length,Nn 0,.nils,.osl 1901 g.2.2.2.2 0 i.length,Nn p])),(1900,dW g.2.2.2.1 3 75 (k.map OI)),(1901,dW g.2.2.2.2 1 3 (i.map Lo))]) (_,_,_,_,_) ((PK (λg=>bif aA 4096 g then g+20000 else g+1000) (by kernel_rfl) hX))<|?_
      rintro⟨af,ag,z,av,aw⟩ nn
      try dsimp only
      refine Yy (ES:=λ(_s:Int×(List OA)×(List Int)) (g:Nat×Nat×Nat×Nat)=>[oM 1 t Oh,oP 4 f,oP 5 h,oP 6 g.1,oL 27 e.Funcs,oI 28 m,(41,.tup [])]) (OS:=λs g=>[(4,dV f 5 60 (.agg [Nn 0,.nils,Nn 0,.nils,.nils])),(5,dV h 1 40 (Nn 0)),(6,dV g.1 1 98 (.optr 12 g.2.1 0 0)),(12,dV g.2.1 8 100 (.agg [.sl (e.Funcs.map Nz),.sl (o.map (eL Lo)),Nn 0,.osl 900 g.2.2.1 0 s.2.1.length,Nn 0,.nils,.osl 901 g.2.2.2 0 s.2.2.length,Nn s.1])),(900,dW g.2.2.1 3 75 (s.2.1.map OI)),(901,dW g.2.2.2 1 3 (s.2.2.map Lo))]) (j:=λs=>YG m s.1 s.2.1 s.2.2) (ds:=[.optr 1012 z 0 0,.clo 55 [.optr 1006 af 0 0,.fptr (Nn m) 0,.optr 1008 ag 0 0]]) (caps:=[]) (E:=[(0,.optr 1012 z 0 0),(1,.clo 55 [.optr 1006 af 0 0,.fptr (Nn m) 0,.optr 1008 ag 0 0])]) rfl rfl rfl rfl rfl (show _=some Aab from by kernel_rfl) rfl rfl ?_ ?_
      ·refine Xb (c:=AdP)<|?_;refine Ac 9 ?_ ?_
       ·refine A 3 ?_;refine TQ (E:=λ(g:Unit)=>[(9,.optr 2012 z 0 0),(10,.clo 55 [.optr 2006 af 0 0,.fptr (Nn m) 0,.optr 2008 ag 0 0])]) (O:=λg=>[(2004,dV f 5 60 (.agg [Nn 0,.nils,Nn 0,.nils,.nils])),(2005,dV h 1 40 (Nn 0)),(2006,dV af 1 98 (.optr 2012 z 0 0)),(2008,dV ag 7 50 (.agg [.nils,.nils,.nils,.nils,Nn 0,Nn 0,.nils])),(2012,dV z 8 100 (.agg [.sl (e.Funcs.map Nz),.sl (o.map (eL Lo)),Nn 0,.osl 2900 av 0 k.length,Nn 0,.nils,.osl 2901 aw 0 i.length,Nn p])),(2900,dW av 3 75 (k.map OI)),(2901,dW aw 1 3 (i.map Lo))]) () ((PK (λg=>bif aA 4096 g then g+20000 else g+1000) (by kernel_rfl) hX))<|?_
        rintro⟨⟩ nn
        try dsimp only
        refine Afv (ds:=[]) (caps:=[.optr 2006 af 0 0,.fptr (Nn m) 0,.optr 2008 ag 0 0]) (E:=[(0,.optr 2006 af 0 0),(1,.fptr (Nn m) 0),(2,.optr 2008 ag 0 0)]) r r r r r r r r<|Xb (c:=AsG)<|?_;refine A 10 ?_;refine TQ (E:=λ(g:Unit)=>[(4,.optr 3012 z 0 0),oI 5 m,(6,.agg [.nils,.nils,.nils,.nils,Nn 0,Nn 0,.nils])]) (O:=λg=>[(3004,dV f 5 60 (.agg [Nn 0,.nils,Nn 0,.nils,.nils])),(3005,dV h 1 40 (Nn 0)),(3006,dV af 1 98 (.optr 3012 z 0 0)),(3008,dV ag 7 50 (.agg [.nils,.nils,.nils,.nils,Nn 0,Nn 0,.nils])),(3012,dV z 8 100 (.agg [.sl (e.Funcs.map Nz),.sl (o.map (eL Lo)),Nn 0,.osl 3900 av 0 k.length,Nn 0,.nils,.osl 3901 aw 0 i.length,Nn p])),(3900,dW av 3 75 (k.map OI)),(3901,dW aw 1 3 (i.map Lo))]) () ((PK (λg=>bif aA 4096 g then g+20000 else g+1000) (by kernel_rfl) hX))<|?_
        rintro⟨⟩ nn
        try dsimp only
        refine Yy (ES:=λ(s:(List OA)×(List Int)×Int) (_g:Nat×Nat)=>[oI 7 s.2.2]) (OS:=λs g=>[(2004,dV f 5 60 (.agg [Nn 0,.nils,Nn 0,.nils,.nils])),(2005,dV h 1 40 (Nn 0)),(2006,dV af 1 98 (.optr 2012 z 0 0)),(2008,dV ag 7 50 (.agg [.nils,.nils,.nils,.nils,Nn 0,Nn 0,.nils])),(2012,dV z 8 100 (.agg [.sl (e.Funcs.map Nz),.sl (o.map (eL Lo)),Nn 0,.osl 2900 g.1 0 s.1.length,Nn 0,.nils,.osl 2901 g.2 0 s.2.1.length,Nn p])),(2900,dW g.1 3 75 (s.1.map OI)),(2901,dW g.2 1 3 (s.2.1.map Lo))]) (j:=λs=>YH m s.1 s.2.1 s.2.2) (ds:=[.optr 3012 z 0 0,Nn m,.agg [.nils,.nils,.nils,.nils,Nn 0,Nn 0,.nils]]) (caps:=[]) (E:=[(0,.optr 3012 z 0 0),oI 1 m,(2,.agg [.nils,.nils,.nils,.nils,Nn 0,Nn 0,.nils])]) r r r r r r r r ?_ ?_
        ·refine Xb (c:=AsH)<|?_;refine Ab 14 λbh dw=>?_
         refine Ac 21 ?_ ?_
         ·refine A 8 ?_;exact Qw (d:=Nn bh.2.2.2) (s:=(k,i,bh.2.2.2)) (_,_) r (by first|rfl|(simp[Oc,Oi,rdA,raw,strip,On,cells,Oj];done)|(simp[Oc,Oi,rdA,raw,strip,On,S.ge,S.go,look,SM,cells,Oj];done)) r ((PV [] hX (by kernel_rfl) (λ_=>hX)))
         ·refine Ab 17 λdx dy=>?_
          refine Ab 3 λbv dz=>?_
          refine A 1 ?_;refine bS ([bv]:List OA) OI r r r (by simp) r r r<|?_
          refine A 31 ?_;exact Qw (d:=Nn 0) (s:=(k++([bv]:List OA),i++([bh.2.2.1]:List Int),0)) (_,_) r (by first|rfl|(simp[Oc,Oi,rdA,raw,strip,On,cells,Oj];done)|(simp[Oc,Oi,rdA,raw,strip,On,S.ge,S.go,look,SM,cells,Oj];done)) r ((PV [(44,2900),(57,2901)] hX (by kernel_rfl) (λ_=>hX)))
        ·rintro⟨bi,bj,bk⟩ ⟨ea,eb⟩ nn;dsimp only[YH];refine A 4 ?_;refine AcP (d:=Nn bk) (E:=[(9,.optr 1012 z 0 0),oI 11 bk]) (O:=[(1004,dV f 5 60 (.agg [Nn 0,.nils,Nn 0,.nils,.nils])),(1005,dV h 1 40 (Nn 0)),(1006,dV af 1 98 (.optr 1012 z 0 0)),(1008,dV ag 7 50 (.agg [.nils,.nils,.nils,.nils,Nn 0,Nn 0,.nils])),(1012,dV z 8 100 (.agg [.sl (e.Funcs.map Nz),.sl (o.map (eL Lo)),Nn 0,.osl 1900 _ 0 bi.length,Nn 0,.nils,.osl 1901 _ 0 bj.length,Nn p])),(1900,dW _ 3 75 (bi.map OI)),(1901,dW _ 1 3 (bj.map Lo))]) r (by first|rfl|(simp[Oc,Oi,rdA,raw,strip,On,cells,Oj];done)|(simp[Oc,Oi,rdA,raw,strip,On,S.ge,S.go,look,SM,cells,Oj];done)) r ((PV [] hX (by kernel_rfl) (λ_=>hX))) λnn=>?_
         refine A 4 ?_;exact Qw (d:=.tup []) (s:=(bk,bi,bj)) (_,_,_,_) r (by first|rfl|(simp[Oc,Oi,rdA,raw,strip,On,cells,Oj];done)|(simp[Oc,Oi,rdA,raw,strip,On,S.ge,S.go,look,SM,cells,Oj];done)) r ((PV [] hX (by kernel_rfl) (λ_=>hX)))
       ·refine A 1 ?_;exact Qw (d:=.tup []) (s:=(p,k,i)) (_,_,_,_) r (by first|rfl|(simp[Oc,Oi,rdA,raw,strip,On,cells,Oj];done)|(simp[Oc,Oi,rdA,raw,strip,On,S.ge,S.go,look,SM,cells,Oj];done)) r ((PV [] hX (by kernel_rfl) (λ_=>hX)))
      ·rintro⟨ec,ed,ee⟩ ⟨ef,eg,eh,ei⟩ nn;dsimp only[YG];exact B
    ·refine A 9 ?_;refine mF (caps:=[.optr 12 _ 0 0]) r r (by simp[SE])<|TQ (E:=λ(g:Nat×Nat×Nat×Nat)=>[(4,.optr 1004 f 0 0),(5,.optr 1005 h 0 0),(6,.optr 1006 g.1 0 0),(43,.optr 1012 g.2.1 0 0),(45,.clo 4153 [.optr 1012 g.2.1 0 0])]) (O:=λg=>[(1004,dV f 5 60 (.agg [Nn 0,.nils,Nn 0,.nils,.nils])),(1005,dV h 1 40 (Nn 0)),(1006,dV g.1 1 98 (.optr 1012 g.2.1 0 0)),(1012,dV g.2.1 8 100 (.agg [.sl (e.Funcs.map Nz),.sl (o.map (eL Lo)),Nn 0,.osl 1900 g.2.2.1 0 k.length,Nn 0,.nils,.osl 1901 g.2.2.2 0 i.length,Nn p])),(1900,dW g.2.2.1 3 75 (k.map OI)),(1901,dW g.2.2.2 1 3 (i.map Lo))]) (_,_,_,_) ((PK (λg=>bif aA 4096 g then g+20000 else g+1000) (by kernel_rfl) hX))<|?_
     rintro⟨ah,q,ac,ad⟩ nn
     try dsimp only
     refine Yy (ES:=λ(_s:Int×(List OA)×Int×(List Int)×Int) (g:Nat×Nat×Nat)=>[oP 4 f,oP 5 h,oP 6 g.1,(46,.tup [])]) (OS:=λs g=>[(4,dV f 5 60 (.agg [Nn 0,.nils,Nn 0,.nils,.nils])),(5,dV h 1 40 (Nn 0)),(6,dV g.1 1 98 (.optr 12 g.2.1 0 0)),(12,dV g.2.1 8 100 (.agg [.sl (e.Funcs.map Nz),.sl (o.map (eL Lo)),Nn s.1,.sl (s.2.1.map OI),Nn s.2.2.1,.sl (s.2.2.2.1.map Lo),.osl 901 g.2.2 0 i.length,Nn s.2.2.2.2])),(901,dW g.2.2 1 3 (i.map Lo))]) (j:=λs=>Us i s.1 s.2.1 s.2.2.1 s.2.2.2.1 s.2.2.2.2) (ds:=[.optr 1012 q 0 0,.clo 4153 [.optr 1012 q 0 0]]) (caps:=[]) (E:=[(0,.optr 1012 q 0 0),(1,.clo 4153 [.optr 1012 q 0 0])]) rfl rfl rfl rfl rfl (show _=some Adv from by kernel_rfl) rfl rfl ?_ ?_
     ·refine Xb (c:=AdP)<|?_;refine Ac 9 ?_ ?_
      ·refine A 3 ?_;refine TQ (E:=λ(g:Unit)=>[(9,.optr 2012 q 0 0),(10,.clo 4153 [.optr 2012 q 0 0])]) (O:=λg=>[(2004,dV f 5 60 (.agg [Nn 0,.nils,Nn 0,.nils,.nils])),(2005,dV h 1 40 (Nn 0)),(2006,dV ah 1 98 (.optr 2012 q 0 0)),(2012,dV q 8 100 (.agg [.sl (e.Funcs.map Nz),.sl (o.map (eL Lo)),Nn 0,.osl 2900 ac 0 k.length,Nn 0,.nils,.osl 2901 ad 0 i.length,Nn p])),(2900,dW ac 3 75 (k.map OI)),(2901,dW ad 1 3 (i.map Lo))]) () ((PK (λg=>bif aA 4096 g then g+20000 else g+1000) (by kernel_rfl) hX))<|?_
       rintro⟨⟩ nn
       try dsimp only
       refine Yy (ES:=λ(s:Int×Int×(List Int)×Int) (_g:Unit)=>[(9,.optr 1012 q 0 0),oI 11 s.2.2.2]) (OS:=λs _=>[(1004,dV f 5 60 (.agg [Nn 0,.nils,Nn 0,.nils,.nils])),(1005,dV h 1 40 (Nn 0)),(1006,dV ah 1 98 (.optr 1012 q 0 0)),(1012,dV q 8 100 (.agg [.sl (e.Funcs.map Nz),.sl (o.map (eL Lo)),Nn s.1,.osl 1900 ac 0 k.length,Nn s.2.1,.sl (s.2.2.1.map Lo),.osl 1901 ad 0 i.length,Nn p])),(1900,some (ac,⟨true,false,3,75,k.map OI⟩)),(1901,dW ad 1 3 (i.map Lo))]) (j:=λs=>TB i k s.1 s.2.1 s.2.2.1 s.2.2.2) (ds:=[]) (caps:=[.optr 2012 q 0 0]) (E:=[(0,.optr 2012 q 0 0)]) r r r r r r r r ?_ ?_
       ·refine Xb (c:=AvC)<|?_;refine Ab 12 λax ej=>?_
        refine Ab 15 λek el=>?_
        refine Ab 11 λak em=>?_
        refine Ac 15 ?_ ?_
        ·refine A 8 ?_;exact Qw (d:=Nn ak.2) (s:=(ax,0,[],ak.2)) () r (by first|rfl|(simp[Oc,Oi,rdA,raw,strip,On,cells,Oj];done)|(simp[Oc,Oi,rdA,raw,strip,On,S.ge,S.go,look,SM,cells,Oj];done)) r ((WJ (E1:=[(9,.optr 2012 q 0 0),oI 11 ak.2]) (O1:=[(2004,dV f 5 60 (.agg [Nn 0,.nils,Nn 0,.nils,.nils])),(2005,dV h 1 40 (Nn 0)),(2006,dV ah 1 98 (.optr 2012 q 0 0)),(2012,dV q 8 100 (.agg [.sl (e.Funcs.map Nz),.sl (o.map (eL Lo)),Nn ax,.osl 2900 ac 0 k.length,Nn 0,.nils,.osl 2901 ad 0 i.length,Nn p])),(2900,some (ac,⟨true,false,3,75,k.map OI⟩)),(2901,dW ad 1 3 (i.map Lo))]) hX (λ_=>PK (λg=>bif aA 24096 g then g-20000 else bif (aA 1000 g&&Nat.blt g 4096)then g-1000 else g) (by kernel_rfl) (WI [] trivial ⟨(Og r),(Og r),trivial⟩ ⟨(.inl r),(.inl r),(.inl r),(.inr ⟨_,_,_,_,r,r,r,r,Vu r ⟨(Ou r),(Ou r),(Ou r),(Ou r),(Ou r),(Vi Lo r),(Ou r),(Ou r),trivial⟩⟩),(.inl r),(.inl r),trivial⟩))))
        ·refine Ab 8 λbw eo=>?_
         refine Ab 21 λbx ep=>?_
         refine Ac 10 ?_ ?_
         ·refine A 8 ?_;exact Qw (d:=Nn bx) (s:=(ax,bw,ak.1,bx)) () r (by first|rfl|(simp[Oc,Oi,rdA,raw,strip,On,cells,Oj];done)|(simp[Oc,Oi,rdA,raw,strip,On,S.ge,S.go,look,SM,cells,Oj];done)) r ((PV [] hX (by kernel_rfl) (λ_=>hX)))
         ·refine Ab 9 λbz er=>?_
          refine A 5 ?_;exact Qw (d:=Nn bz) (s:=(ax,bw,ak.1,bz)) () r (by first|rfl|(simp[Oc,Oi,rdA,raw,strip,On,cells,Oj];done)|(simp[Oc,Oi,rdA,raw,strip,On,S.ge,S.go,look,SM,cells,Oj];done)) r ((PV [] hX (by kernel_rfl) (λ_=>hX)))
       ·rintro⟨ca,cb,cc,cd⟩ ⟨⟩ nn;dsimp only[TB];refine A 4 ?_;exact Qw (d:=.tup []) (s:=(ca,k,cb,cc,cd)) (_,_,_) r (by first|rfl|(simp[Oc,Oi,rdA,raw,strip,On,cells,Oj];done)|(simp[Oc,Oi,rdA,raw,strip,On,S.ge,S.go,look,SM,cells,Oj];done)) r ((WJ (E1:=[(4,.optr 1004 f 0 0),(5,.optr 1005 h 0 0),(6,.optr 1006 ah 0 0),(46,.tup [])]) (O1:=[(1004,dV f 5 60 (.agg [Nn 0,.nils,Nn 0,.nils,.nils])),(1005,dV h 1 40 (Nn 0)),(1006,dV ah 1 98 (.optr 1012 q 0 0)),(1012,dV q 8 100 (.agg [.sl (e.Funcs.map Nz),.sl (o.map (eL Lo)),Nn ca,.osl 1900 ac 0 k.length,Nn cb,.sl (cc.map Lo),.osl 1901 ad 0 i.length,Nn cd])),(1900,some (ac,⟨true,false,3,75,k.map OI⟩)),(1901,dW ad 1 3 (i.map Lo))]) hX (λ_=>PK (λg=>bif aA 24096 g then g-20000 else bif (aA 1000 g&&Nat.blt g 4096)then g-1000 else g) (by kernel_rfl) (WI [(900,some (_,⟨true,false,3,75,k.map OI⟩))] ⟨⟨_,_,r,r,r⟩,trivial⟩ ⟨(Og r),(Og r),(Og r),(Og r),trivial⟩ ⟨(.inl r),(.inl r),(.inl r),(.inr ⟨_,_,_,_,r,r,r,r,Vu r ⟨(Ou r),(Ou r),(Ou r),(Wg (l:=k) (en:=OI) r r r (by first|(simp;done)|rfl|(simp;rfl))),(Ou r),(Ou r),(Ou r),(Ou r),trivial⟩⟩),(.inl r),trivial⟩))))
      ·refine A 1 ?_;exact Qw (d:=.tup []) (s:=(0,k,0,[],p)) (_,_,_) r (by first|rfl|(simp[Oc,Oi,rdA,raw,strip,On,cells,Oj];done)|(simp[Oc,Oi,rdA,raw,strip,On,S.ge,S.go,look,SM,cells,Oj];done)) r ((WJ (E1:=[(4,.optr 1004 f 0 0),(5,.optr 1005 h 0 0),(6,.optr 1006 ah 0 0),(46,.tup [])]) (O1:=[(1004,dV f 5 60 (.agg [Nn 0,.nils,Nn 0,.nils,.nils])),(1005,dV h 1 40 (Nn 0)),(1006,dV ah 1 98 (.optr 1012 q 0 0)),(1012,dV q 8 100 (.agg [.sl (e.Funcs.map Nz),.sl (o.map (eL Lo)),Nn 0,.osl 1900 ac 0 k.length,Nn 0,.nils,.osl 1901 ad 0 i.length,Nn p])),(1900,dW ac 3 75 (k.map OI)),(1901,dW ad 1 3 (i.map Lo))]) hX (λ_=>PK (λg=>bif aA 24096 g then g-20000 else bif (aA 1000 g&&Nat.blt g 4096)then g-1000 else g) (by kernel_rfl) (WI [(900,some (_,⟨true,false,3,75,k.map OI⟩))] ⟨⟨_,_,r,r,r⟩,trivial⟩ ⟨(Og r),(Og r),(Og r),(Og r),trivial⟩ ⟨(.inl r),(.inl r),(.inl r),(.inr ⟨_,_,_,_,r,r,r,r,Vu r ⟨(Ou r),(Ou r),(Ou r),(Wg (l:=k) (en:=OI) r r r (by first|(simp;done)|rfl|(simp;rfl))),(Ou r),(Vi Lo r),(Ou r),(Ou r),trivial⟩⟩),(.inl r),trivial⟩))))
     ·rintro⟨bl,bm,bn,bo,ao⟩ ⟨es,et,eu⟩ nn;dsimp only[Us];refine A 17 ?_;refine AwC (E:=λ(g:Nat)=>[(4,.optr 1004 f 0 0),(5,.optr 1005 h 0 0)]) (O:=λg=>[(1004,dV f 5 60 (.agg [Nn bl,.sl (bm.map OI),Nn bn,.sl (bo.map Lo),.osl 1901 g 0 i.length])),(1005,dV h 1 40 (Nn ao)),(1901,dW g 1 3 (i.map Lo))]) (cp:=λg=>[.optr 1005 h 0 0,.optr 1004 f 0 0]) (E2:=λg=>[(0,.optr 1005 h 0 0),(1,.optr 1004 f 0 0)]) _ r ((PK (λg=>bif aA 4096 g then g+20000 else g+1000) (by kernel_rfl) hX)) (λ_=>r) (λ_=>r) (λ_=>r)<|?_
      rintro ev nn
      try dsimp only
      refine Xb (c:=Ayj)<|?_;refine Ac 6 ?_ ?_
      ·refine A 4 ?_;refine AcP (d:=.tup []) (E:=[oP 4 f,oP 5 h]) (O:=[(4,dV f 5 60 (.agg [Nn 0,.nils,Nn 0,.nils,.nils])),(5,dV h 1 40 (Nn ao))]) r (by first|rfl|(simp[Oc,Oi,rdA,raw,strip,On,cells,Oj];done)|(simp[Oc,Oi,rdA,raw,strip,On,S.ge,S.go,look,SM,cells,Oj];done)) r ((PV [] hX (by kernel_rfl) (λ_=>hX))) λnn=>?_
       refine A 1 ?_;refine Po (b:=((PX.mk (PI.mk 0 ([])) 0 ([]) ([])),ao)) r ?_ r r ?_ (by first|rfl|(simp only[Nv];rfl)|(simp only[Ny];rfl)|(simp only[Nv,Ny];rfl)|(simp[Zz,Ahp];try rfl)) (by decide)
       all_goals first|(simp;done)|(simp;omega)|rfl|(simp;done)|(simp[cells];done)
      ·refine A 1 ?_;refine AcP (d:=.tup []) (E:=[oP 4 f,oP 5 h]) (O:=[(4,dV f 5 60 (.agg [Nn bl,.sl (bm.map OI),Nn bn,.sl (bo.map Lo),.osl 901 _ 0 i.length])),(5,dV h 1 40 (Nn ao)),(901,dW _ 1 3 (i.map Lo))]) r (by first|rfl|(simp[Oc,Oi,rdA,raw,strip,On,cells,Oj];done)|(simp[Oc,Oi,rdA,raw,strip,On,S.ge,S.go,look,SM,cells,Oj];done)) r ((PV [] hX (by kernel_rfl) (λ_=>hX))) λnn=>?_
       refine A 1 ?_;refine Po (b:=((PX.mk (PI.mk bl bm) bn bo i),ao)) r ?_ r r ?_ (by first|rfl|(simp only[Nv];rfl)|(simp only[Ny];rfl)|(simp only[Nv,Ny];rfl)|(simp[Zz,Ahp];try rfl)) (by decide)
       all_goals first|(simp;done)|(simp;omega)|rfl|(simp;done)|(simp[cells];done)

end
end Go.Proofs.YtcaoepecbgggcaaGreatDoor
