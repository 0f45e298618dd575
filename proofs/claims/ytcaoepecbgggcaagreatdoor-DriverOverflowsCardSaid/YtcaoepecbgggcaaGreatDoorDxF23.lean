/-
 The code does what its typed programs say.
-/
import Derived.Test.YtcaoepecbgggcaaGreatDoorProg
import Derived.Test.YtcaoepecbgggcaaGreatDoorDc
import Derived.KernelRfl
import Derived.Test.YtcaoepecbgggcaaGreatDoorSh
import Derived.Test.YtcaoepecbgggcaaGreatDoorDxP
import Derived.Test.YtcaoepecbgggcaaGreatDoorDg2
import Derived.Test.YtcaoepecbgggcaaGreatDoorDxF6
import Derived.Test.YtcaoepecbgggcaaGreatDoorDxF13
import Derived.Test.YtcaoepecbgggcaaGreatDoorDxF15
import Derived.Test.YtcaoepecbgggcaaGreatDoorDxF16
import Derived.Test.YtcaoepecbgggcaaGreatDoorDxF17
import Derived.Test.YtcaoepecbgggcaaGreatDoorDxF18
import Derived.Test.YtcaoepecbgggcaaGreatDoorDxF19
import Derived.Test.YtcaoepecbgggcaaGreatDoorDxF20
open Nat renaming ble->aA
namespace Go.Proofs.YtcaoepecbgggcaaGreatDoor
open Go Go.Dw Go.Proofs
set_option maxRecDepth 100000
set_option maxHeartbeats 40000000
open Go.Dw renaming OQ -> bD,WO -> bS,PX -> cD,PH -> xL,Qm -> lP,Abo -> mF,rf -> r
noncomputable section
def AaK (a:NM×(List Og)):List D:=[Rk a.1,.sl (a.2.map Ow)]
def AaJ (ds:List D):NM×(List Og):=(Th (ds.getD 0 .top),(uL AdT) (ds.getD 1 .top))
instance:Od AaK AaJ:=⟨λa=>by simp[AaJ,AaK,OG (u:=AdT) (en:=Ow) Arx]⟩
def Zs (b:PT×Int):D:=.tup [Ajp b.1,Av b.2]
def AmL:Dw.Spec:=NN [] .val AaK AaJ (λa=>QY a.1 a.2) Zs noE
def Aep:Dw.Spec:=Ze (specs [(108,AkG)]) 1 [(.t 2)] AuM
theorem Ajh:NL Tryz.prog 52 Aep:=Uw (nK 108 AqA<|NG) Tryz.func52 (by decide) AwQ AwR (by decide)
def Aer:Dw.Spec:=Ze (specs [(109,AlI),(110,Ait)]) 1 [(.t 2)] AuN
theorem Ajj:NL Tryz.prog 53 Aer:=Uw (nK 109 Awa<|nK 110 Ahb<|NG) Tryz.func53 (by decide) AwS AwT (by decide)
def Aet:Dw.Spec:=Ze (specs [(38,AgI),(39,Agi),(111,Agq)]) 1 [(.t 2)] AuO
theorem Ajl:NL Tryz.prog 54 Aet:=Uw (nK 38 Afw<|nK 39 AaP<|nK 111 AiZ<|NG) Tryz.func54 (by decide) AwU AwV (by decide)
def Aev:Dw.Spec:=Ze (specs [(12,Agb),(43,Agh),(112,Aiw)]) 3 [(.t 6)] Asy
theorem Ajo:NL Tryz.prog 56 Aev:=Uw (nK 12 AkU<|nK 43 Afd<|nK 112 AmY<|NG) Tryz.func56 (by decide) AwY AwZ (by decide)
def AdF:Dw.Spec:=Ze (specs [(38,AgI),(113,AfX),(111,Agq),(114,Acr),(115,AjF)]) 1 [(.t 2)] AuP
theorem AiM:NL Tryz.prog 57 AdF:=Uw (nK 38 Afw<|nK 113 AkP<|nK 111 AiZ<|nK 114 AhW<|nK 115 Aol<|NG) Tryz.func57 (by decide) Axa Axb (by decide)
def Aeo:Dw.Spec:=Ze (specs [(52,Aep)]) 2 [] Aea
theorem Ajg:NL Tryz.prog 51 Aeo:=Uw (nK 52 Ajh<|NG) Tryz.func51 (by decide) Aje Ajf (by decide)
def Aeq:Dw.Spec:=Ze (specs [(53,Aer)]) 2 [] Aea
theorem Aji:NL Tryz.prog 51 Aeq:=Uw (nK 53 Ajj<|NG) Tryz.func51 (by decide) Aje Ajf (by decide)
def Aes:Dw.Spec:=Ze (specs [(54,Aet)]) 2 [] Aea
theorem Ajk:NL Tryz.prog 51 Aes:=Uw (nK 54 Ajl<|NG) Tryz.func51 (by decide) Aje Ajf (by decide)
def Aeu:Dw.Spec:=Ze (specs [(56,Aev)]) 3 [(.t 3)] Asx
theorem Ajn:NL Tryz.prog 55 Aeu:=Uw (nK 56 Ajo<|NG) Tryz.func55 (by decide) AwW AwX (by decide)
def AdE:Dw.Spec:=Ze (specs [(57,AdF)]) 2 [] Aea
theorem AiL:NL Tryz.prog 51 AdE:=Uw (nK 57 AiM<|NG) Tryz.func51 (by decide) Aje Ajf (by decide)
def ZS:Dw.Spec:=Ze (specs [(55,Aeu)]) 2 [] Aea
theorem Ajm:NL Tryz.prog 51 ZS:=Uw (nK 55 Ajn<|NG) Tryz.func51 (by decide) Aje Ajf (by decide)
theorem AfZ:NL Tryz.prog 17 AmL:=by
 refine fn3 50 2 2 (nK 16994355 Ajg<|nK 16998451 Aji<|nK 17002547 Ajk<|nK 229427 Ajm<|nK 17014835 AiL<|NG) NG Tryz.func17 Tryz.func50<|?_;rintro⟨a,q⟩;unfold QY;refine A 8 ?_;refine mF (caps:=[.optr 5 _ 0 0,.optr 4 _ 0 0]) r r (by simp[SB])<|?_
 refine A 1 ?_;refine Awx (E:=λ(g:Nat×Nat×Nat)=>[(1,.sl (q.map Ow)),(2,.optr 2 g.1 0 0),(4,.optr 4 g.2.1 0 0),(5,.optr 5 g.2.2 0 0),(9,.clo 50 [.optr 5 g.2.2 0 0,.optr 4 g.2.1 0 0])]) (O:=λg=>[(2,dV g.1 1 28 (.agg [.sl (a.Funcs.map NQ)])),(4,dV g.2.1 5 60 (.agg [Av 0,.nils,Av 0,.nils,.nils])),(5,dV g.2.2 1 40 (Av 0))]) (cp:=λg=>[.optr 5 g.2.2 0 0,.optr 4 g.2.1 0 0]) (_,_,_) hX (λ_=>r)<|?_
 rintro⟨ce,e,f⟩ nn
 try dsimp only
 refine A 13 ?_;refine mF (caps:=[.optr 12 _ 0 0]) r r (by simp[SB])<|TM (E:=λ(g:Nat×Nat×Nat)=>[(1,.sl (q.map Ow)),(2,.optr 1002 g.1 0 0),(4,.optr 1004 e 0 0),(5,.optr 1005 f 0 0),(6,.optr 1006 g.2.1 0 0),(13,.optr 1012 g.2.2 0 0),(15,.clo 4148 [.optr 1012 g.2.2 0 0])]) (O:=λg=>[(1002,dV g.1 1 28 (.agg [.sl (a.Funcs.map NQ)])),(1004,dV e 5 60 (.agg [Av 0,.nils,Av 0,.nils,.nils])),(1005,dV f 1 40 (Av 0)),(1006,dV g.2.1 1 98 (.optr 1012 g.2.2 0 0)),(1012,dV g.2.2 8 100 (.agg [.sl (a.Funcs.map NQ),.nils,Av 0,.nils,Av 0,.nils,.nils,Av 0]))]) (_,_,_) ((Qb (λg=>bif aA 4096 g then g+20000 else g+1000) (by kernel_rfl) hX))<|?_
 rintro⟨bo,bp,z⟩ nn
 try dsimp only
 refine Ys (ES:=λ(_s:Int) (g:Nat×Nat×Nat)=>[(1,.sl (q.map Ow)),(2,.optr 2 g.1 0 0),(4,.optr 4 e 0 0),(5,.optr 5 f 0 0),(6,.optr 6 g.2.1 0 0),(16,.tup [])]) (OS:=λs g=>[(2,dV g.1 1 28 (.agg [.sl (a.Funcs.map NQ)])),(4,dV e 5 60 (.agg [Av 0,.nils,Av 0,.nils,.nils])),(5,dV f 1 40 (Av 0)),(6,dV g.2.1 1 98 (.optr 12 g.2.2 0 0)),(12,dV g.2.2 8 100 (.agg [.sl (a.Funcs.map NQ),.nils,Av 0,.nils,Av 0,.nils,.nils,Av s]))]) (j:=λs=>Wf a q s) (ds:=[.optr 1012 z 0 0,.clo 4148 [.optr 1012 z 0 0]]) (caps:=[]) (E:=[(0,.optr 1012 z 0 0),(1,.clo 4148 [.optr 1012 z 0 0])]) rfl rfl rfl rfl rfl (show _=some Aeo from by kernel_rfl) rfl rfl ?_ ?_
 ·refine WZ (c:=Aea)<|?_;refine Ac 9 ?_ ?_
  ·refine A 3 ?_;refine TM (E:=λ(g:Unit)=>[(9,.optr 2012 z 0 0),(10,.clo 4148 [.optr 2012 z 0 0])]) (O:=λg=>[(2002,dV bo 1 28 (.agg [.sl (a.Funcs.map NQ)])),(2004,dV e 5 60 (.agg [Av 0,.nils,Av 0,.nils,.nils])),(2005,dV f 1 40 (Av 0)),(2006,dV bp 1 98 (.optr 2012 z 0 0)),(2012,dV z 8 100 (.agg [.sl (a.Funcs.map NQ),.nils,Av 0,.nils,Av 0,.nils,.nils,Av 0]))]) () ((Qb (λg=>bif aA 4096 g then g+20000 else g+1000) (by kernel_rfl) hX))<|?_
   rintro⟨⟩ nn
   try dsimp only
   refine Afy (ds:=[]) (caps:=[.optr 2012 z 0 0]) (E:=[(0,.optr 2012 z 0 0)]) r r r r r r r r<|WZ (c:=AuM)<|?_;refine Ab 11 λax cf=>?_
   refine A 5 ?_;refine Adi (d:=Av ax) (E:=[(9,.optr 1012 z 0 0),(11,Av ax)]) (O:=[(1002,dV bo 1 28 (.agg [.sl (a.Funcs.map NQ)])),(1004,dV e 5 60 (.agg [Av 0,.nils,Av 0,.nils,.nils])),(1005,dV f 1 40 (Av 0)),(1006,dV bp 1 98 (.optr 1012 z 0 0)),(1012,dV z 8 100 (.agg [.sl (a.Funcs.map NQ),.nils,Av 0,.nils,Av 0,.nils,.nils,Av 0]))]) r (by first|rfl|(simp[Oj,Om,rdA,raw,strip,Ov,cells,Ol];done)|(simp[Oj,Om,rdA,raw,strip,Ov,S.ge,S.go,look,SM,cells,Ol];done)) r ((PR [] hX (by kernel_rfl) (λ_=>hX))) λnn=>?_
   refine A 4 ?_;exact Qu (d:=.tup []) (s:=ax) (_,_,_) r (by first|rfl|(simp[Oj,Om,rdA,raw,strip,Ov,cells,Ol];done)|(simp[Oj,Om,rdA,raw,strip,Ov,S.ge,S.go,look,SM,cells,Ol];done)) r ((PR [] hX (by kernel_rfl) (λ_=>hX)))
  ·refine A 1 ?_;exact Qu (d:=.tup []) (s:=0) (_,_,_) r (by first|rfl|(simp[Oj,Om,rdA,raw,strip,Ov,cells,Ol];done)|(simp[Oj,Om,rdA,raw,strip,Ov,S.ge,S.go,look,SM,cells,Ol];done)) r ((PR [] hX (by kernel_rfl) (λ_=>hX)))
 ·rintro x3 ⟨ch,ci,cj⟩ nn;dsimp only[Wf];refine A 6 ?_;refine mF (caps:=[.optr 12 _ 0 0]) r r (by simp[SB])<|TM (E:=λ(g:Nat×Nat×Nat)=>[(1,.sl (q.map Ow)),(2,.optr 1002 g.1 0 0),(4,.optr 1004 e 0 0),(5,.optr 1005 f 0 0),(6,.optr 1006 g.2.1 0 0),(17,.optr 1012 g.2.2 0 0),(19,.clo 4149 [.optr 1012 g.2.2 0 0])]) (O:=λg=>[(1002,dV g.1 1 28 (.agg [.sl (a.Funcs.map NQ)])),(1004,dV e 5 60 (.agg [Av 0,.nils,Av 0,.nils,.nils])),(1005,dV f 1 40 (Av 0)),(1006,dV g.2.1 1 98 (.optr 1012 g.2.2 0 0)),(1012,dV g.2.2 8 100 (.agg [.sl (a.Funcs.map NQ),.nils,Av 0,.nils,Av 0,.nils,.nils,Av x3]))]) (_,_,_) ((Qb (λg=>bif aA 4096 g then g+20000 else g+1000) (by kernel_rfl) hX))<|?_
  rintro⟨ao,ap,u⟩ nn
  try dsimp only
  refine Ys (ES:=λ(_s:(List (List Int))×Int) (g:Nat×Nat×Nat)=>[(1,.sl (q.map Ow)),(2,.optr 2 g.1 0 0),(4,.optr 4 e 0 0),(5,.optr 5 f 0 0),(6,.optr 6 g.2.1 0 0),(20,.tup [])]) (OS:=λs g=>[(2,dV g.1 1 28 (.agg [.sl (a.Funcs.map NQ)])),(4,dV e 5 60 (.agg [Av 0,.nils,Av 0,.nils,.nils])),(5,dV f 1 40 (Av 0)),(6,dV g.2.1 1 98 (.optr 12 g.2.2 0 0)),(12,dV g.2.2 8 100 (.agg [.sl (a.Funcs.map NQ),.sl (s.1.map (eL Mk)),Av 0,.nils,Av 0,.nils,.nils,Av s.2]))]) (j:=λs=>RQ a q s.1 s.2) (ds:=[.optr 1012 u 0 0,.clo 4149 [.optr 1012 u 0 0]]) (caps:=[]) (E:=[(0,.optr 1012 u 0 0),(1,.clo 4149 [.optr 1012 u 0 0])]) rfl rfl rfl rfl rfl (show _=some Aeq from by kernel_rfl) rfl rfl ?_ ?_
  ·refine WZ (c:=Aea)<|?_;refine Ac 9 ?_ ?_
   ·refine A 3 ?_;refine TM (E:=λ(g:Unit)=>[(9,.optr 2012 u 0 0),(10,.clo 4149 [.optr 2012 u 0 0])]) (O:=λg=>[(2002,dV ao 1 28 (.agg [.sl (a.Funcs.map NQ)])),(2004,dV e 5 60 (.agg [Av 0,.nils,Av 0,.nils,.nils])),(2005,dV f 1 40 (Av 0)),(2006,dV ap 1 98 (.optr 2012 u 0 0)),(2012,dV u 8 100 (.agg [.sl (a.Funcs.map NQ),.nils,Av 0,.nils,Av 0,.nils,.nils,Av x3]))]) () ((Qb (λg=>bif aA 4096 g then g+20000 else g+1000) (by kernel_rfl) hX))<|?_
    rintro⟨⟩ nn
    try dsimp only
    refine Afy (ds:=[]) (caps:=[.optr 2012 u 0 0]) (E:=[(0,.optr 2012 u 0 0)]) r r r r r r r r<|WZ (c:=AuN)<|?_;refine Ab 12 λbq ck=>?_
    refine Ab 12 λay cl=>?_
    refine A 15 ?_;refine Adi (d:=Av ay.2) (E:=[(9,.optr 1012 u 0 0),(11,Av ay.2)]) (O:=[(1002,dV ao 1 28 (.agg [.sl (a.Funcs.map NQ)])),(1004,dV e 5 60 (.agg [Av 0,.nils,Av 0,.nils,.nils])),(1005,dV f 1 40 (Av 0)),(1006,dV ap 1 98 (.optr 1012 u 0 0)),(1012,dV u 8 100 (.agg [.sl (a.Funcs.map NQ),.sl (bq.map (eL Mk)),Av 0,.nils,Av 0,.nils,.nils,Av x3]))]) r (by first|rfl|(simp[Oj,Om,rdA,raw,strip,Ov,cells,Ol];done)|(simp[Oj,Om,rdA,raw,strip,Ov,S.ge,S.go,look,SM,cells,Ol];done)) r ((PR [] hX (by kernel_rfl) (λ_=>hX))) λnn=>?_
    refine A 4 ?_;exact Qu (d:=.tup []) (s:=(bq,ay.2)) (_,_,_) r (by first|rfl|(simp[Oj,Om,rdA,raw,strip,Ov,cells,Ol];done)|(simp[Oj,Om,rdA,raw,strip,Ov,S.ge,S.go,look,SM,cells,Ol];done)) r ((PR [] hX (by kernel_rfl) (λ_=>hX)))
   ·refine A 1 ?_;exact Qu (d:=.tup []) (s:=([],x3)) (_,_,_) r (by first|rfl|(simp[Oj,Om,rdA,raw,strip,Ov,cells,Ol];done)|(simp[Oj,Om,rdA,raw,strip,Ov,S.ge,S.go,look,SM,cells,Ol];done)) r ((AaL (E1:=[(1,.sl (q.map Ow)),(2,.optr 1002 ao 0 0),(4,.optr 1004 e 0 0),(5,.optr 1005 f 0 0),(6,.optr 1006 ap 0 0),(20,.tup [])]) (O1:=[(1002,dV ao 1 28 (.agg [.sl (a.Funcs.map NQ)])),(1004,dV e 5 60 (.agg [Av 0,.nils,Av 0,.nils,.nils])),(1005,dV f 1 40 (Av 0)),(1006,dV ap 1 98 (.optr 1012 u 0 0)),(1012,dV u 8 100 (.agg [.sl (a.Funcs.map NQ),.nils,Av 0,.nils,Av 0,.nils,.nils,Av x3]))]) hX (λ_=>Qb (λg=>bif aA 24096 g then g-20000 else bif (aA 1000 g&&Nat.blt g 4096)then g-1000 else g) (by kernel_rfl) (WK [] trivial ⟨(Oq r),(Oq r),(Oq r),(Oq r),(Oq r),(Oq r),trivial⟩ ⟨(.inl r),(.inl r),(.inl r),(.inl r),(.inr ⟨_,_,_,_,r,r,r,r,Vk r ⟨(Oz r),(Ua (eL Mk) r),(Oz r),(Oz r),(Oz r),(Oz r),(Oz r),(Oz r),trivial⟩⟩),trivial⟩))))
  ·rintro⟨m,x5⟩ ⟨cm,cn,co⟩ nn;dsimp only[RQ];refine A 6 ?_;refine mF (caps:=[.optr 12 _ 0 0]) r r (by simp[SB])<|TM (E:=λ(g:Nat×Nat×Nat)=>[(1,.sl (q.map Ow)),(2,.optr 1002 g.1 0 0),(4,.optr 1004 e 0 0),(5,.optr 1005 f 0 0),(6,.optr 1006 g.2.1 0 0),(21,.optr 1012 g.2.2 0 0),(23,.clo 4150 [.optr 1012 g.2.2 0 0])]) (O:=λg=>[(1002,dV g.1 1 28 (.agg [.sl (a.Funcs.map NQ)])),(1004,dV e 5 60 (.agg [Av 0,.nils,Av 0,.nils,.nils])),(1005,dV f 1 40 (Av 0)),(1006,dV g.2.1 1 98 (.optr 1012 g.2.2 0 0)),(1012,dV g.2.2 8 100 (.agg [.sl (a.Funcs.map NQ),.sl (m.map (eL Mk)),Av 0,.nils,Av 0,.nils,.nils,Av x5]))]) (_,_,_) ((Qb (λg=>bif aA 4096 g then g+20000 else g+1000) (by kernel_rfl) hX))<|?_
   rintro⟨az,ba,t⟩ nn
   try dsimp only
   refine Ys (ES:=λ(_s:Int) (g:Nat×Nat×Nat)=>[(1,.sl (q.map Ow)),(2,.optr 2 g.1 0 0),(4,.optr 4 e 0 0),(5,.optr 5 f 0 0),(6,.optr 6 g.2.1 0 0),(24,.tup [])]) (OS:=λs g=>[(2,dV g.1 1 28 (.agg [.sl (a.Funcs.map NQ)])),(4,dV e 5 60 (.agg [Av 0,.nils,Av 0,.nils,.nils])),(5,dV f 1 40 (Av 0)),(6,dV g.2.1 1 98 (.optr 12 g.2.2 0 0)),(12,dV g.2.2 8 100 (.agg [.sl (a.Funcs.map NQ),.sl (m.map (eL Mk)),Av 0,.nils,Av 0,.nils,.nils,Av s]))]) (j:=λs=>Ro a q m s) (ds:=[.optr 1012 t 0 0,.clo 4150 [.optr 1012 t 0 0]]) (caps:=[]) (E:=[(0,.optr 1012 t 0 0),(1,.clo 4150 [.optr 1012 t 0 0])]) rfl rfl rfl rfl rfl (show _=some Aes from by kernel_rfl) rfl rfl ?_ ?_
   ·refine WZ (c:=Aea)<|?_;refine Ac 9 ?_ ?_
    ·refine A 3 ?_;refine TM (E:=λ(g:Unit)=>[(9,.optr 2012 t 0 0),(10,.clo 4150 [.optr 2012 t 0 0])]) (O:=λg=>[(2002,dV az 1 28 (.agg [.sl (a.Funcs.map NQ)])),(2004,dV e 5 60 (.agg [Av 0,.nils,Av 0,.nils,.nils])),(2005,dV f 1 40 (Av 0)),(2006,dV ba 1 98 (.optr 2012 t 0 0)),(2012,dV t 8 100 (.agg [.sl (a.Funcs.map NQ),.sl (m.map (eL Mk)),Av 0,.nils,Av 0,.nils,.nils,Av x5]))]) () ((Qb (λg=>bif aA 4096 g then g+20000 else g+1000) (by kernel_rfl) hX))<|?_
     rintro⟨⟩ nn
     try dsimp only
     refine Ys (ES:=λ(s:Int) (_g:Unit)=>[(9,.optr 1012 t 0 0),(11,Av s)]) (OS:=λ_ _=>[(1002,dV az 1 28 (.agg [.sl (a.Funcs.map NQ)])),(1004,dV e 5 60 (.agg [Av 0,.nils,Av 0,.nils,.nils])),(1005,dV f 1 40 (Av 0)),(1006,dV ba 1 98 (.optr 1012 t 0 0)),(1012,dV t 8 100 (.agg [.sl (a.Funcs.map NQ),.sl (m.map (eL Mk)),Av 0,.nils,Av 0,.nils,.nils,Av x5]))]) (j:=λs=>TB a q m s) (ds:=[]) (caps:=[.optr 2012 t 0 0]) (E:=[(0,.optr 2012 t 0 0)]) r r r r r r r r ?_ ?_
     ·refine WZ (c:=AuO)<|?_;refine A 23 ?_;refine lP (E:=λ(s:(List Int)×Int) (g:Nat)=>[(0,.optr 2012 t 0 0),(3,.osl 3 g 0 s.1.length),(14,Av (a.Funcs.length:Int)),(15,Av s.2)]) (O:=λs g=>[(3,dW g 1 3 (s.1.map Mk)),(2002,dV az 1 28 (.agg [.sl (a.Funcs.map NQ)])),(2004,dV e 5 60 (.agg [Av 0,.nils,Av 0,.nils,.nils])),(2005,dV f 1 40 (Av 0)),(2006,dV ba 1 98 (.optr 2012 t 0 0)),(2012,dV t 8 100 (.agg [.sl (a.Funcs.map NQ),.sl (m.map (eL Mk)),Av 0,.nils,Av 0,.nils,.nils,Av x5]))]) _ hX<|?_
      rintro⟨cq,cr⟩ cs nn;dsimp only[AeY];refine Ac 6 ?_ ?_
      ·refine Ab 21 λct cu=>?_
       refine Ab 1 λbr cv=>?_
       refine Ac 16 ?_ ?_
       ·refine A 13 ?_;exact Qu (d:=Av br.2) (s:=br.2) () r (by first|rfl|(simp[Oj,Om,rdA,raw,strip,Ov,cells,Ol];done)|(simp[Oj,Om,rdA,raw,strip,Ov,S.ge,S.go,look,SM,cells,Ol];done)) r ((PR [] hX (by kernel_rfl) (λ_=>hX)))
       ·exact B
      ·refine Ab 12 λbs cw=>?_
       refine A 15 ?_;exact Qu (d:=Av bs.2) (s:=bs.2) () r (by first|rfl|(simp[Oj,Om,rdA,raw,strip,Ov,cells,Ol];done)|(simp[Oj,Om,rdA,raw,strip,Ov,S.ge,S.go,look,SM,cells,Ol];done)) r ((PR [] hX (by kernel_rfl) (λ_=>hX)))
     ·rintro cd ⟨⟩ nn;dsimp only[TB];refine A 4 ?_;exact Qu (d:=.tup []) (s:=cd) (_,_,_) r (by first|rfl|(simp[Oj,Om,rdA,raw,strip,Ov,cells,Ol];done)|(simp[Oj,Om,rdA,raw,strip,Ov,S.ge,S.go,look,SM,cells,Ol];done)) r ((PR [] hX (by kernel_rfl) (λ_=>hX)))
    ·refine A 1 ?_;exact Qu (d:=.tup []) (s:=x5) (_,_,_) r (by first|rfl|(simp[Oj,Om,rdA,raw,strip,Ov,cells,Ol];done)|(simp[Oj,Om,rdA,raw,strip,Ov,S.ge,S.go,look,SM,cells,Ol];done)) r ((PR [] hX (by kernel_rfl) (λ_=>hX)))
   ·rintro x6 ⟨cy,cz,da⟩ nn;dsimp only[Ro];refine A 12 ?_;refine lP (E:=λ(s:Int×(List OE)×(List Int)×Int) (g:Nat×Nat×Nat×Nat)=>[(1,.sl (q.map Ow)),(4,.optr 4 e 0 0),(5,.optr 5 f 0 0),(6,.optr 6 g.1 0 0),(27,Av (a.Funcs.length:Int)),(28,Av s.2.2.2)]) (O:=λs g=>[(4,dV e 5 60 (.agg [Av 0,.nils,Av 0,.nils,.nils])),(5,dV f 1 40 (Av 0)),(6,dV g.1 1 98 (.optr 12 g.2.1 0 0)),(12,dV g.2.1 8 100 (.agg [.sl (a.Funcs.map NQ),.sl (m.map (eL Mk)),Av 0,.osl 900 g.2.2.1 0 s.2.1.length,Av 0,.nils,.osl 901 g.2.2.2 0 s.2.2.1.length,Av s.1])),(900,dW g.2.2.1 3 75 (s.2.1.map ON)),(901,dW g.2.2.2 1 3 (s.2.2.1.map Mk))]) (_,_,_,_) ((AcF (gg:=12) (off:=3) (tt:=900) (s:=3) (tyy:=75) r r r r (AcF (gg:=12) (off:=6) (tt:=901) (s:=1) (tyy:=3) r r r r hX)))<|?_
    rintro⟨o,i,h,k⟩ ⟨db,dc,dd,de⟩ nn;dsimp only[We];refine Ac 6 ?_ ?_
    ·refine A 10 ?_;refine Qh (E:=[(1,.sl (q.map Ow)),(4,.optr 4 e 0 0),(5,.optr 5 f 0 0),(6,.optr 6 _ 0 0),(7,.fptr (Av k) 0),(27,Av (a.Funcs.length:Int)),(28,Av k)]) (O:=[(4,dV e 5 60 (.agg [Av 0,.nils,Av 0,.nils,.nils])),(5,dV f 1 40 (Av 0)),(6,dV _ 1 98 (.optr 12 _ 0 0)),(12,dV _ 8 100 (.agg [.sl (a.Funcs.map NQ),.sl (m.map (eL Mk)),Av 0,.osl 900 _ 0 i.length,Av 0,.nils,.osl 901 _ 0 h.length,Av o])),(900,dW _ 3 75 (i.map ON)),(901,dW _ 1 3 (h.map Mk))]) ((hV 7 r (hY))) λnn=>?_
     refine Ac 14 ?_ ?_
     ·refine Ab 3 λaa df=>?_
      refine A 4 ?_;refine Qh (E:=[(1,.sl (q.map Ow)),(4,.optr 4 e 0 0),(5,.optr 5 f 0 0),(6,.optr 6 _ 0 0),(7,.fptr (Av k) 0),(8,.fptr (Ow aa) 0),(27,Av (a.Funcs.length:Int)),(28,Av k)]) (O:=[(4,dV e 5 60 (.agg [Av 0,.nils,Av 0,.nils,.nils])),(5,dV f 1 40 (Av 0)),(6,dV _ 1 98 (.optr 12 _ 0 0)),(12,dV _ 8 100 (.agg [.sl (a.Funcs.map NQ),.sl (m.map (eL Mk)),Av 0,.osl 900 _ 0 i.length,Av 0,.nils,.osl 901 _ 0 h.length,Av o])),(900,dW _ 3 75 (i.map ON)),(901,dW _ 1 3 (h.map Mk))]) ((hV 8 r (hY))) λnn=>?_
      refine A 2 ?_;refine mF (caps:=[.optr 6 _ 0 0,.fptr (Av k) 0,.fptr (Ow aa) 0]) r r (by simp[SB])<|TM (E:=λ(g:Nat×Nat×Nat×Nat)=>[(1,.sl (q.map Ow)),(4,.optr 1004 e 0 0),(5,.optr 1005 f 0 0),(6,.optr 1006 g.1 0 0),(27,Av (a.Funcs.length:Int)),(28,Av k),(39,.optr 1012 g.2.1 0 0),(40,.clo 55 [.optr 1006 g.1 0 0,.fptr (Av k) 0,.fptr (Ow aa) 0])]) (O:=λg=>[(1004,dV e 5 60 (.agg [Av 0,.nils,Av 0,.nils,.nils])),(1005,dV f 1 40 (Av 0)),(1006,dV g.1 1 98 (.optr 1012 g.2.1 0 0)),(1012,dV g.2.1 8 100 (.agg [.sl (a.Funcs.map NQ),.sl (m.map (eL Mk)),Av 0,.osl 1900 g.2.2.1 0 i.length,Av 0,.nils,.osl 1901 g.2.2.2 0 h.length,Av o])),(1900,dW g.2.2.1 3 75 (i.map ON)),(1901,dW g.2.2.2 1 3 (h.map Mk))]) (_,_,_,_) ((Qb (λg=>bif aA 4096 g then g+20000 else g+1000) (by kernel_rfl) hX))<|?_
      rintro⟨ad,v,aq,ar⟩ nn
      try dsimp only
      refine Ys (ES:=λ(_s:Int×(List OE)×(List Int)) (g:Nat×Nat×Nat×Nat)=>[(1,.sl (q.map Ow)),(4,.optr 4 e 0 0),(5,.optr 5 f 0 0),(6,.optr 6 g.1 0 0),(27,Av (a.Funcs.length:Int)),(28,Av k),(41,.tup [])]) (OS:=λs g=>[(4,dV e 5 60 (.agg [Av 0,.nils,Av 0,.nils,.nils])),(5,dV f 1 40 (Av 0)),(6,dV g.1 1 98 (.optr 12 g.2.1 0 0)),(12,dV g.2.1 8 100 (.agg [.sl (a.Funcs.map NQ),.sl (m.map (eL Mk)),Av 0,.osl 900 g.2.2.1 0 s.2.1.length,Av 0,.nils,.osl 901 g.2.2.2 0 s.2.2.length,Av s.1])),(900,dW g.2.2.1 3 75 (s.2.1.map ON)),(901,dW g.2.2.2 1 3 (s.2.2.map Mk))]) (j:=λs=>Yz k s.1 s.2.1 s.2.2) (ds:=[.optr 1012 v 0 0,.clo 55 [.optr 1006 ad 0 0,.fptr (Av k) 0,.fptr (Ow aa) 0]]) (caps:=[]) (E:=[(0,.optr 1012 v 0 0),(1,.clo 55 [.optr 1006 ad 0 0,.fptr (Av k) 0,.fptr (Ow aa) 0])]) rfl rfl rfl rfl rfl (show _=some ZS from by kernel_rfl) rfl rfl ?_ ?_
      ·refine WZ (c:=Aea)<|?_;refine Ac 9 ?_ ?_
       ·refine A 3 ?_;refine TM (E:=λ(g:Unit)=>[(9,.optr 2012 v 0 0),(10,.clo 55 [.optr 2006 ad 0 0,.fptr (Av k) 0,.fptr (Ow aa) 0])]) (O:=λg=>[(2004,dV e 5 60 (.agg [Av 0,.nils,Av 0,.nils,.nils])),(2005,dV f 1 40 (Av 0)),(2006,dV ad 1 98 (.optr 2012 v 0 0)),(2012,dV v 8 100 (.agg [.sl (a.Funcs.map NQ),.sl (m.map (eL Mk)),Av 0,.osl 2900 aq 0 i.length,Av 0,.nils,.osl 2901 ar 0 h.length,Av o])),(2900,dW aq 3 75 (i.map ON)),(2901,dW ar 1 3 (h.map Mk))]) () ((Qb (λg=>bif aA 4096 g then g+20000 else g+1000) (by kernel_rfl) hX))<|?_
        rintro⟨⟩ nn
        try dsimp only
        refine Afy (ds:=[]) (caps:=[.optr 2006 ad 0 0,.fptr (Av k) 0,.fptr (Ow aa) 0]) (E:=[(0,.optr 2006 ad 0 0),(1,.fptr (Av k) 0),(2,.fptr (Ow aa) 0)]) r r r r r r r r<|WZ (c:=Asx)<|?_;refine A 10 ?_;refine TM (E:=λ(g:Unit)=>[(4,.optr 3012 v 0 0),(5,Av k),(6,Ow aa)]) (O:=λg=>[(3004,dV e 5 60 (.agg [Av 0,.nils,Av 0,.nils,.nils])),(3005,dV f 1 40 (Av 0)),(3006,dV ad 1 98 (.optr 3012 v 0 0)),(3012,dV v 8 100 (.agg [.sl (a.Funcs.map NQ),.sl (m.map (eL Mk)),Av 0,.osl 3900 aq 0 i.length,Av 0,.nils,.osl 3901 ar 0 h.length,Av o])),(3900,dW aq 3 75 (i.map ON)),(3901,dW ar 1 3 (h.map Mk))]) () ((Qb (λg=>bif aA 4096 g then g+20000 else g+1000) (by kernel_rfl) hX))<|?_
        rintro⟨⟩ nn
        try dsimp only
        refine Ys (ES:=λ(s:(List OE)×(List Int)×Int) (_g:Nat×Nat)=>[(7,Av s.2.2)]) (OS:=λs g=>[(2004,dV e 5 60 (.agg [Av 0,.nils,Av 0,.nils,.nils])),(2005,dV f 1 40 (Av 0)),(2006,dV ad 1 98 (.optr 2012 v 0 0)),(2012,dV v 8 100 (.agg [.sl (a.Funcs.map NQ),.sl (m.map (eL Mk)),Av 0,.osl 2900 g.1 0 s.1.length,Av 0,.nils,.osl 2901 g.2 0 s.2.1.length,Av o])),(2900,dW g.1 3 75 (s.1.map ON)),(2901,dW g.2 1 3 (s.2.1.map Mk))]) (j:=λs=>YA k s.1 s.2.1 s.2.2) (ds:=[.optr 3012 v 0 0,Av k,Ow aa]) (caps:=[]) (E:=[(0,.optr 3012 v 0 0),(1,Av k),(2,Ow aa)]) r r r r r r r r ?_ ?_
        ·refine WZ (c:=Asy)<|?_;refine Ab 14 λbb dg=>?_
         refine Ac 21 ?_ ?_
         ·refine A 8 ?_;exact Qu (d:=Av bb.2.2.2) (s:=(i,h,bb.2.2.2)) (_,_) r (by first|rfl|(simp[Oj,Om,rdA,raw,strip,Ov,cells,Ol];done)|(simp[Oj,Om,rdA,raw,strip,Ov,S.ge,S.go,look,SM,cells,Ol];done)) r ((PR [] hX (by kernel_rfl) (λ_=>hX)))
         ·refine Ab 17 λdh di=>?_
          refine Ab 3 λbt dj=>?_
          refine A 1 ?_;refine bS ([bt]:List OE) ON r r r (by simp) r r r<|?_
          refine A 31 ?_;exact Qu (d:=Av 0) (s:=(i++([bt]:List OE),h++([bb.2.2.1]:List Int),0)) (_,_) r (by first|rfl|(simp[Oj,Om,rdA,raw,strip,Ov,cells,Ol];done)|(simp[Oj,Om,rdA,raw,strip,Ov,S.ge,S.go,look,SM,cells,Ol];done)) r ((PR [(44,2900),(57,2901)] hX (by kernel_rfl) (λ_=>hX)))
        ·rintro⟨bc,bd,bf⟩ ⟨dk,dl⟩ nn;dsimp only[YA];refine A 4 ?_;refine Adi (d:=Av bf) (E:=[(9,.optr 1012 v 0 0),(11,Av bf)]) (O:=[(1004,dV e 5 60 (.agg [Av 0,.nils,Av 0,.nils,.nils])),(1005,dV f 1 40 (Av 0)),(1006,dV ad 1 98 (.optr 1012 v 0 0)),(1012,dV v 8 100 (.agg [.sl (a.Funcs.map NQ),.sl (m.map (eL Mk)),Av 0,.osl 1900 _ 0 bc.length,Av 0,.nils,.osl 1901 _ 0 bd.length,Av o])),(1900,dW _ 3 75 (bc.map ON)),(1901,dW _ 1 3 (bd.map Mk))]) r (by first|rfl|(simp[Oj,Om,rdA,raw,strip,Ov,cells,Ol];done)|(simp[Oj,Om,rdA,raw,strip,Ov,S.ge,S.go,look,SM,cells,Ol];done)) r ((PR [] hX (by kernel_rfl) (λ_=>hX))) λnn=>?_
         refine A 4 ?_;exact Qu (d:=.tup []) (s:=(bf,bc,bd)) (_,_,_,_) r (by first|rfl|(simp[Oj,Om,rdA,raw,strip,Ov,cells,Ol];done)|(simp[Oj,Om,rdA,raw,strip,Ov,S.ge,S.go,look,SM,cells,Ol];done)) r ((PR [] hX (by kernel_rfl) (λ_=>hX)))
       ·refine A 1 ?_;exact Qu (d:=.tup []) (s:=(o,i,h)) (_,_,_,_) r (by first|rfl|(simp[Oj,Om,rdA,raw,strip,Ov,cells,Ol];done)|(simp[Oj,Om,rdA,raw,strip,Ov,S.ge,S.go,look,SM,cells,Ol];done)) r ((PR [] hX (by kernel_rfl) (λ_=>hX)))
      ·rintro⟨dm,dn,dp⟩ ⟨dq,dr,dt,du⟩ nn;dsimp only[Yz];exact B
     ·refine A 4 ?_;refine mF (caps:=[.optr 6 _ 0 0,.fptr (Av k) 0,.optr 8 _ 0 0]) r r (by simp[SB])<|TM (E:=λ(g:Nat×Nat×Nat×Nat×Nat)=>[(1,.sl (q.map Ow)),(4,.optr 1004 e 0 0),(5,.optr 1005 f 0 0),(6,.optr 1006 g.1 0 0),(27,Av (a.Funcs.length:Int)),(28,Av k),(39,.optr 1012 g.2.2.1 0 0),(40,.clo 55 [.optr 1006 g.1 0 0,.fptr (Av k) 0,.optr 1008 g.2.1 0 0])]) (O:=λg=>[(1004,dV e 5 60 (.agg [Av 0,.nils,Av 0,.nils,.nils])),(1005,dV f 1 40 (Av 0)),(1006,dV g.1 1 98 (.optr 1012 g.2.2.1 0 0)),(1008,dV g.2.1 7 50 (.agg [.nils,.nils,.nils,.nils,Av 0,Av 0,.nils])),(1012,dV g.2.2.1 8 100 (.agg [.sl (a.Funcs.map NQ),.sl (m.map (eL Mk)),Av 0,.osl 1900 g.2.2.2.1 0 i.length,Av 0,.nils,.osl 1901 g.2.2.2.2 0 h.length,Av o])),(1900,dW g.2.2.2.1 3 75 (i.map ON)),(1901,dW g.2.2.2.2 1 3 (h.map Mk))]) (_,_,_,_,_) ((Qb (λg=>bif aA 4096 g then g+20000 else g+1000) (by kernel_rfl) hX))<|?_
      rintro⟨ae,af,x,au,av⟩ nn
      try dsimp only
      refine Ys (ES:=λ(_s:Int×(List OE)×(List Int)) (g:Nat×Nat×Nat×Nat)=>[(1,.sl (q.map Ow)),(4,.optr 4 e 0 0),(5,.optr 5 f 0 0),(6,.optr 6 g.1 0 0),(27,Av (a.Funcs.length:Int)),(28,Av k),(41,.tup [])]) (OS:=λs g=>[(4,dV e 5 60 (.agg [Av 0,.nils,Av 0,.nils,.nils])),(5,dV f 1 40 (Av 0)),(6,dV g.1 1 98 (.optr 12 g.2.1 0 0)),(12,dV g.2.1 8 100 (.agg [.sl (a.Funcs.map NQ),.sl (m.map (eL Mk)),Av 0,.osl 900 g.2.2.1 0 s.2.1.length,Av 0,.nils,.osl 901 g.2.2.2 0 s.2.2.length,Av s.1])),(900,dW g.2.2.1 3 75 (s.2.1.map ON)),(901,dW g.2.2.2 1 3 (s.2.2.map Mk))]) (j:=λs=>YB k s.1 s.2.1 s.2.2) (ds:=[.optr 1012 x 0 0,.clo 55 [.optr 1006 ae 0 0,.fptr (Av k) 0,.optr 1008 af 0 0]]) (caps:=[]) (E:=[(0,.optr 1012 x 0 0),(1,.clo 55 [.optr 1006 ae 0 0,.fptr (Av k) 0,.optr 1008 af 0 0])]) rfl rfl rfl rfl rfl (show _=some ZS from by kernel_rfl) rfl rfl ?_ ?_
      ·refine WZ (c:=Aea)<|?_;refine Ac 9 ?_ ?_
       ·refine A 3 ?_;refine TM (E:=λ(g:Unit)=>[(9,.optr 2012 x 0 0),(10,.clo 55 [.optr 2006 ae 0 0,.fptr (Av k) 0,.optr 2008 af 0 0])]) (O:=λg=>[(2004,dV e 5 60 (.agg [Av 0,.nils,Av 0,.nils,.nils])),(2005,dV f 1 40 (Av 0)),(2006,dV ae 1 98 (.optr 2012 x 0 0)),(2008,dV af 7 50 (.agg [.nils,.nils,.nils,.nils,Av 0,Av 0,.nils])),(2012,dV x 8 100 (.agg [.sl (a.Funcs.map NQ),.sl (m.map (eL Mk)),Av 0,.osl 2900 au 0 i.length,Av 0,.nils,.osl 2901 av 0 h.length,Av o])),(2900,dW au 3 75 (i.map ON)),(2901,dW av 1 3 (h.map Mk))]) () ((Qb (λg=>bif aA 4096 g then g+20000 else g+1000) (by kernel_rfl) hX))<|?_
        rintro⟨⟩ nn
        try dsimp only
        refine Afy (ds:=[]) (caps:=[.optr 2006 ae 0 0,.fptr (Av k) 0,.optr 2008 af 0 0]) (E:=[(0,.optr 2006 ae 0 0),(1,.fptr (Av k) 0),(2,.optr 2008 af 0 0)]) r r r r r r r r<|WZ (c:=Asx)<|?_;refine A 10 ?_;refine TM (E:=λ(g:Unit)=>[(4,.optr 3012 x 0 0),(5,Av k),(6,.agg [.nils,.nils,.nils,.nils,Av 0,Av 0,.nils])]) (O:=λg=>[(3004,dV e 5 60 (.agg [Av 0,.nils,Av 0,.nils,.nils])),(3005,dV f 1 40 (Av 0)),(3006,dV ae 1 98 (.optr 3012 x 0 0)),(3008,dV af 7 50 (.agg [.nils,.nils,.nils,.nils,Av 0,Av 0,.nils])),(3012,dV x 8 100 (.agg [.sl (a.Funcs.map NQ),.sl (m.map (eL Mk)),Av 0,.osl 3900 au 0 i.length,Av 0,.nils,.osl 3901 av 0 h.length,Av o])),(3900,dW au 3 75 (i.map ON)),(3901,dW av 1 3 (h.map Mk))]) () ((Qb (λg=>bif aA 4096 g then g+20000 else g+1000) (by kernel_rfl) hX))<|?_
        rintro⟨⟩ nn
        try dsimp only
        refine Ys (ES:=λ(s:(List OE)×(List Int)×Int) (_g:Nat×Nat)=>[(7,Av s.2.2)]) (OS:=λs g=>[(2004,dV e 5 60 (.agg [Av 0,.nils,Av 0,.nils,.nils])),(2005,dV f 1 40 (Av 0)),(2006,dV ae 1 98 (.optr 2012 x 0 0)),(2008,dV af 7 50 (.agg [.nils,.nils,.nils,.nils,Av 0,Av 0,.nils])),(2012,dV x 8 100 (.agg [.sl (a.Funcs.map NQ),.sl (m.map (eL Mk)),Av 0,.osl 2900 g.1 0 s.1.length,Av 0,.nils,.osl 2901 g.2 0 s.2.1.length,Av o])),(2900,dW g.1 3 75 (s.1.map ON)),(2901,dW g.2 1 3 (s.2.1.map Mk))]) (j:=λs=>YC k s.1 s.2.1 s.2.2) (ds:=[.optr 3012 x 0 0,Av k,.agg [.nils,.nils,.nils,.nils,Av 0,Av 0,.nils]]) (caps:=[]) (E:=[(0,.optr 3012 x 0 0),(1,Av k),(2,.agg [.nils,.nils,.nils,.nils,Av 0,Av 0,.nils])]) r r r r r r r r ?_ ?_
        ·refine WZ (c:=Asy)<|?_;refine Ab 14 λbg dv=>?_
         refine Ac 21 ?_ ?_
         ·refine A 8 ?_;exact Qu (d:=Av bg.2.2.2) (s:=(i,h,bg.2.2.2)) (_,_) r (by first|rfl|(simp[Oj,Om,rdA,raw,strip,Ov,cells,Ol];done)|(simp[Oj,Om,rdA,raw,strip,Ov,S.ge,S.go,look,SM,cells,Ol];done)) r ((PR [] hX (by kernel_rfl) (λ_=>hX)))
         ·refine Ab 17 λdw dx=>?_
          refine Ab 3 λbu dy=>?_
          refine A 1 ?_;refine bS ([bu]:List OE) ON r r r (by simp) r r r<|?_
          refine A 31 ?_;exact Qu (d:=Av 0) (s:=(i++([bu]:List OE),h++([bg.2.2.1]:List Int),0)) (_,_) r (by first|rfl|(simp[Oj,Om,rdA,raw,strip,Ov,cells,Ol];done)|(simp[Oj,Om,rdA,raw,strip,Ov,S.ge,S.go,look,SM,cells,Ol];done)) r ((PR [(44,2900),(57,2901)] hX (by kernel_rfl) (λ_=>hX)))
        ·rintro⟨bh,bi,bj⟩ ⟨dz,ea⟩ nn;dsimp only[YC];refine A 4 ?_;refine Adi (d:=Av bj) (E:=[(9,.optr 1012 x 0 0),(11,Av bj)]) (O:=[(1004,dV e 5 60 (.agg [Av 0,.nils,Av 0,.nils,.nils])),(1005,dV f 1 40 (Av 0)),(1006,dV ae 1 98 (.optr 1012 x 0 0)),(1008,dV af 7 50 (.agg [.nils,.nils,.nils,.nils,Av 0,Av 0,.nils])),(1012,dV x 8 100 (.agg [.sl (a.Funcs.map NQ),.sl (m.map (eL Mk)),Av 0,.osl 1900 _ 0 bh.length,Av 0,.nils,.osl 1901 _ 0 bi.length,Av o])),(1900,dW _ 3 75 (bh.map ON)),(1901,dW _ 1 3 (bi.map Mk))]) r (by first|rfl|(simp[Oj,Om,rdA,raw,strip,Ov,cells,Ol];done)|(simp[Oj,Om,rdA,raw,strip,Ov,S.ge,S.go,look,SM,cells,Ol];done)) r ((PR [] hX (by kernel_rfl) (λ_=>hX))) λnn=>?_
         refine A 4 ?_;exact Qu (d:=.tup []) (s:=(bj,bh,bi)) (_,_,_,_) r (by first|rfl|(simp[Oj,Om,rdA,raw,strip,Ov,cells,Ol];done)|(simp[Oj,Om,rdA,raw,strip,Ov,S.ge,S.go,look,SM,cells,Ol];done)) r ((PR [] hX (by kernel_rfl) (λ_=>hX)))
       ·refine A 1 ?_;exact Qu (d:=.tup []) (s:=(o,i,h)) (_,_,_,_) r (by first|rfl|(simp[Oj,Om,rdA,raw,strip,Ov,cells,Ol];done)|(simp[Oj,Om,rdA,raw,strip,Ov,S.ge,S.go,look,SM,cells,Ol];done)) r ((PR [] hX (by kernel_rfl) (λ_=>hX)))
      ·rintro⟨eb,ec,ed⟩ ⟨ee,ef,eg,eh⟩ nn;dsimp only[YB];exact B
    ·refine A 9 ?_;refine mF (caps:=[.optr 12 _ 0 0]) r r (by simp[SB])<|TM (E:=λ(g:Nat×Nat×Nat×Nat)=>[(4,.optr 1004 e 0 0),(5,.optr 1005 f 0 0),(6,.optr 1006 g.1 0 0),(43,.optr 1012 g.2.1 0 0),(45,.clo 4153 [.optr 1012 g.2.1 0 0])]) (O:=λg=>[(1004,dV e 5 60 (.agg [Av 0,.nils,Av 0,.nils,.nils])),(1005,dV f 1 40 (Av 0)),(1006,dV g.1 1 98 (.optr 1012 g.2.1 0 0)),(1012,dV g.2.1 8 100 (.agg [.sl (a.Funcs.map NQ),.sl (m.map (eL Mk)),Av 0,.osl 1900 g.2.2.1 0 i.length,Av 0,.nils,.osl 1901 g.2.2.2 0 h.length,Av o])),(1900,dW g.2.2.1 3 75 (i.map ON)),(1901,dW g.2.2.2 1 3 (h.map Mk))]) (_,_,_,_) ((Qb (λg=>bif aA 4096 g then g+20000 else g+1000) (by kernel_rfl) hX))<|?_
     rintro⟨ag,p,ab,ac⟩ nn
     try dsimp only
     refine Ys (ES:=λ(_s:Int×(List OE)×Int×(List Int)×Int) (g:Nat×Nat×Nat)=>[(4,.optr 4 e 0 0),(5,.optr 5 f 0 0),(6,.optr 6 g.1 0 0),(46,.tup [])]) (OS:=λs g=>[(4,dV e 5 60 (.agg [Av 0,.nils,Av 0,.nils,.nils])),(5,dV f 1 40 (Av 0)),(6,dV g.1 1 98 (.optr 12 g.2.1 0 0)),(12,dV g.2.1 8 100 (.agg [.sl (a.Funcs.map NQ),.sl (m.map (eL Mk)),Av s.1,.sl (s.2.1.map ON),Av s.2.2.1,.sl (s.2.2.2.1.map Mk),.osl 901 g.2.2 0 h.length,Av s.2.2.2.2])),(901,dW g.2.2 1 3 (h.map Mk))]) (j:=λs=>Uj h s.1 s.2.1 s.2.2.1 s.2.2.2.1 s.2.2.2.2) (ds:=[.optr 1012 p 0 0,.clo 4153 [.optr 1012 p 0 0]]) (caps:=[]) (E:=[(0,.optr 1012 p 0 0),(1,.clo 4153 [.optr 1012 p 0 0])]) rfl rfl rfl rfl rfl (show _=some AdE from by kernel_rfl) rfl rfl ?_ ?_
     ·refine WZ (c:=Aea)<|?_;refine Ac 9 ?_ ?_
      ·refine A 3 ?_;refine TM (E:=λ(g:Unit)=>[(9,.optr 2012 p 0 0),(10,.clo 4153 [.optr 2012 p 0 0])]) (O:=λg=>[(2004,dV e 5 60 (.agg [Av 0,.nils,Av 0,.nils,.nils])),(2005,dV f 1 40 (Av 0)),(2006,dV ag 1 98 (.optr 2012 p 0 0)),(2012,dV p 8 100 (.agg [.sl (a.Funcs.map NQ),.sl (m.map (eL Mk)),Av 0,.osl 2900 ab 0 i.length,Av 0,.nils,.osl 2901 ac 0 h.length,Av o])),(2900,dW ab 3 75 (i.map ON)),(2901,dW ac 1 3 (h.map Mk))]) () ((Qb (λg=>bif aA 4096 g then g+20000 else g+1000) (by kernel_rfl) hX))<|?_
       rintro⟨⟩ nn
       try dsimp only
       refine Ys (ES:=λ(s:Int×Int×(List Int)×Int) (_g:Unit)=>[(9,.optr 1012 p 0 0),(11,Av s.2.2.2)]) (OS:=λs _=>[(1004,dV e 5 60 (.agg [Av 0,.nils,Av 0,.nils,.nils])),(1005,dV f 1 40 (Av 0)),(1006,dV ag 1 98 (.optr 1012 p 0 0)),(1012,dV p 8 100 (.agg [.sl (a.Funcs.map NQ),.sl (m.map (eL Mk)),Av s.1,.osl 1900 ab 0 i.length,Av s.2.1,.sl (s.2.2.1.map Mk),.osl 1901 ac 0 h.length,Av o])),(1900,some (ab,⟨true,false,3,75,i.map ON⟩)),(1901,dW ac 1 3 (h.map Mk))]) (j:=λs=>TA h i s.1 s.2.1 s.2.2.1 s.2.2.2) (ds:=[]) (caps:=[.optr 2012 p 0 0]) (E:=[(0,.optr 2012 p 0 0)]) r r r r r r r r ?_ ?_
       ·refine WZ (c:=AuP)<|?_;refine Ab 12 λaw ei=>?_
        refine Ab 15 λej ek=>?_
        refine Ab 11 λaj el=>?_
        refine Ac 15 ?_ ?_
        ·refine A 8 ?_;exact Qu (d:=Av aj.2) (s:=(aw,0,[],aj.2)) () r (by first|rfl|(simp[Oj,Om,rdA,raw,strip,Ov,cells,Ol];done)|(simp[Oj,Om,rdA,raw,strip,Ov,S.ge,S.go,look,SM,cells,Ol];done)) r ((AaL (E1:=[(9,.optr 2012 p 0 0),(11,Av aj.2)]) (O1:=[(2004,dV e 5 60 (.agg [Av 0,.nils,Av 0,.nils,.nils])),(2005,dV f 1 40 (Av 0)),(2006,dV ag 1 98 (.optr 2012 p 0 0)),(2012,dV p 8 100 (.agg [.sl (a.Funcs.map NQ),.sl (m.map (eL Mk)),Av aw,.osl 2900 ab 0 i.length,Av 0,.nils,.osl 2901 ac 0 h.length,Av o])),(2900,some (ab,⟨true,false,3,75,i.map ON⟩)),(2901,dW ac 1 3 (h.map Mk))]) hX (λ_=>Qb (λg=>bif aA 24096 g then g-20000 else bif (aA 1000 g&&Nat.blt g 4096)then g-1000 else g) (by kernel_rfl) (WK [] trivial ⟨(Oq r),(Oq r),trivial⟩ ⟨(.inl r),(.inl r),(.inl r),(.inr ⟨_,_,_,_,r,r,r,r,Vk r ⟨(Oz r),(Oz r),(Oz r),(Oz r),(Oz r),(Ua Mk r),(Oz r),(Oz r),trivial⟩⟩),(.inl r),(.inl r),trivial⟩))))
        ·refine Ab 8 λbv em=>?_
         refine Ab 21 λbw eo=>?_
         refine Ac 10 ?_ ?_
         ·refine A 8 ?_;exact Qu (d:=Av bw) (s:=(aw,bv,aj.1,bw)) () r (by first|rfl|(simp[Oj,Om,rdA,raw,strip,Ov,cells,Ol];done)|(simp[Oj,Om,rdA,raw,strip,Ov,S.ge,S.go,look,SM,cells,Ol];done)) r ((PR [] hX (by kernel_rfl) (λ_=>hX)))
         ·refine Ab 9 λbx ep=>?_
          refine A 5 ?_;exact Qu (d:=Av bx) (s:=(aw,bv,aj.1,bx)) () r (by first|rfl|(simp[Oj,Om,rdA,raw,strip,Ov,cells,Ol];done)|(simp[Oj,Om,rdA,raw,strip,Ov,S.ge,S.go,look,SM,cells,Ol];done)) r ((PR [] hX (by kernel_rfl) (λ_=>hX)))
       ·rintro⟨bz,ca,cb,cc⟩ ⟨⟩ nn;dsimp only[TA];refine A 4 ?_;exact Qu (d:=.tup []) (s:=(bz,i,ca,cb,cc)) (_,_,_) r (by first|rfl|(simp[Oj,Om,rdA,raw,strip,Ov,cells,Ol];done)|(simp[Oj,Om,rdA,raw,strip,Ov,S.ge,S.go,look,SM,cells,Ol];done)) r ((AaL (E1:=[(4,.optr 1004 e 0 0),(5,.optr 1005 f 0 0),(6,.optr 1006 ag 0 0),(46,.tup [])]) (O1:=[(1004,dV e 5 60 (.agg [Av 0,.nils,Av 0,.nils,.nils])),(1005,dV f 1 40 (Av 0)),(1006,dV ag 1 98 (.optr 1012 p 0 0)),(1012,dV p 8 100 (.agg [.sl (a.Funcs.map NQ),.sl (m.map (eL Mk)),Av bz,.osl 1900 ab 0 i.length,Av ca,.sl (cb.map Mk),.osl 1901 ac 0 h.length,Av cc])),(1900,some (ab,⟨true,false,3,75,i.map ON⟩)),(1901,dW ac 1 3 (h.map Mk))]) hX (λ_=>Qb (λg=>bif aA 24096 g then g-20000 else bif (aA 1000 g&&Nat.blt g 4096)then g-1000 else g) (by kernel_rfl) (WK [(900,some (_,⟨true,false,3,75,i.map ON⟩))] ⟨⟨_,_,r,r,r⟩,trivial⟩ ⟨(Oq r),(Oq r),(Oq r),(Oq r),trivial⟩ ⟨(.inl r),(.inl r),(.inl r),(.inr ⟨_,_,_,_,r,r,r,r,Vk r ⟨(Oz r),(Oz r),(Oz r),(YT (l:=i) (en:=ON) r r r (by first|(simp;done)|rfl|(simp;rfl))),(Oz r),(Oz r),(Oz r),(Oz r),trivial⟩⟩),(.inl r),trivial⟩))))
      ·refine A 1 ?_;exact Qu (d:=.tup []) (s:=(0,i,0,[],o)) (_,_,_) r (by first|rfl|(simp[Oj,Om,rdA,raw,strip,Ov,cells,Ol];done)|(simp[Oj,Om,rdA,raw,strip,Ov,S.ge,S.go,look,SM,cells,Ol];done)) r ((AaL (E1:=[(4,.optr 1004 e 0 0),(5,.optr 1005 f 0 0),(6,.optr 1006 ag 0 0),(46,.tup [])]) (O1:=[(1004,dV e 5 60 (.agg [Av 0,.nils,Av 0,.nils,.nils])),(1005,dV f 1 40 (Av 0)),(1006,dV ag 1 98 (.optr 1012 p 0 0)),(1012,dV p 8 100 (.agg [.sl (a.Funcs.map NQ),.sl (m.map (eL Mk)),Av 0,.osl 1900 ab 0 i.length,Av 0,.nils,.osl 1901 ac 0 h.length,Av o])),(1900,dW ab 3 75 (i.map ON)),(1901,dW ac 1 3 (h.map Mk))]) hX (λ_=>Qb (λg=>bif aA 24096 g then g-20000 else bif (aA 1000 g&&Nat.blt g 4096)then g-1000 else g) (by kernel_rfl) (WK [(900,some (_,⟨true,false,3,75,i.map ON⟩))] ⟨⟨_,_,r,r,r⟩,trivial⟩ ⟨(Oq r),(Oq r),(Oq r),(Oq r),trivial⟩ ⟨(.inl r),(.inl r),(.inl r),(.inr ⟨_,_,_,_,r,r,r,r,Vk r ⟨(Oz r),(Oz r),(Oz r),(YT (l:=i) (en:=ON) r r r (by first|(simp;done)|rfl|(simp;rfl))),(Oz r),(Ua Mk r),(Oz r),(Oz r),trivial⟩⟩),(.inl r),trivial⟩))))
     ·rintro⟨bk,bl,bm,bn,ak⟩ ⟨er,es,et⟩ nn;dsimp only[Uj];refine A 17 ?_;refine AvD (E:=λ(g:Nat)=>[(4,.optr 1004 e 0 0),(5,.optr 1005 f 0 0)]) (O:=λg=>[(1004,dV e 5 60 (.agg [Av bk,.sl (bl.map ON),Av bm,.sl (bn.map Mk),.osl 1901 g 0 h.length])),(1005,dV f 1 40 (Av ak)),(1901,dW g 1 3 (h.map Mk))]) (cp:=λg=>[.optr 1005 f 0 0,.optr 1004 e 0 0]) (E2:=λg=>[(0,.optr 1005 f 0 0),(1,.optr 1004 e 0 0)]) _ r ((Qb (λg=>bif aA 4096 g then g+20000 else g+1000) (by kernel_rfl) hX)) (λ_=>r) (λ_=>r) (λ_=>r)<|?_
      rintro eu nn
      try dsimp only
      refine WZ (c:=AwP)<|?_;refine Ac 6 ?_ ?_
      ·refine A 4 ?_;refine Adi (d:=.tup []) (E:=[(4,.optr 4 e 0 0),(5,.optr 5 f 0 0)]) (O:=[(4,dV e 5 60 (.agg [Av 0,.nils,Av 0,.nils,.nils])),(5,dV f 1 40 (Av ak))]) r (by first|rfl|(simp[Oj,Om,rdA,raw,strip,Ov,cells,Ol];done)|(simp[Oj,Om,rdA,raw,strip,Ov,S.ge,S.go,look,SM,cells,Ol];done)) r ((PR [] hX (by kernel_rfl) (λ_=>hX))) λnn=>?_
       refine A 1 ?_;refine Qt (b:=((PT.mk (OU.mk 0 ([])) 0 ([]) ([])),ak)) r ?_ r r ?_ (by first|rfl|(simp only[NP];rfl)|(simp only[NR];rfl)|(simp only[NP,NR];rfl)|(simp[Zs,Ajp];try rfl)) (by decide)
       all_goals first|(simp;done)|(simp;omega)|rfl|(simp;done)|(simp[cells];done)
      ·refine A 1 ?_;refine Adi (d:=.tup []) (E:=[(4,.optr 4 e 0 0),(5,.optr 5 f 0 0)]) (O:=[(4,dV e 5 60 (.agg [Av bk,.sl (bl.map ON),Av bm,.sl (bn.map Mk),.osl 901 _ 0 h.length])),(5,dV f 1 40 (Av ak)),(901,dW _ 1 3 (h.map Mk))]) r (by first|rfl|(simp[Oj,Om,rdA,raw,strip,Ov,cells,Ol];done)|(simp[Oj,Om,rdA,raw,strip,Ov,S.ge,S.go,look,SM,cells,Ol];done)) r ((PR [] hX (by kernel_rfl) (λ_=>hX))) λnn=>?_
       refine A 1 ?_;refine Qt (b:=((PT.mk (OU.mk bk bl) bm bn h),ak)) r ?_ r r ?_ (by first|rfl|(simp only[NP];rfl)|(simp only[NR];rfl)|(simp only[NP,NR];rfl)|(simp[Zs,Ajp];try rfl)) (by decide)
       all_goals first|(simp;done)|(simp;omega)|rfl|(simp;done)|(simp[cells];done)

end
end Go.Proofs.YtcaoepecbgggcaaGreatDoor
