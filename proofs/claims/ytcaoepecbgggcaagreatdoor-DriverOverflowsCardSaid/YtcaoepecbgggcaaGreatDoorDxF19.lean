/-
 The code does what its typed programs say.
-/
import Derived.Test.YtcaoepecbgggcaaGreatDoorProg
import Derived.Test.YtcaoepecbgggcaaGreatDoorDc
import Derived.KernelRfl
import Derived.Test.YtcaoepecbgggcaaGreatDoorSh
import Derived.Test.YtcaoepecbgggcaaGreatDoorDxP
import Derived.Test.YtcaoepecbgggcaaGreatDoorDg5
import Derived.Test.YtcaoepecbgggcaaGreatDoorDxF1
import Derived.Test.YtcaoepecbgggcaaGreatDoorDxF3
import Derived.Test.YtcaoepecbgggcaaGreatDoorDxF4
import Derived.Test.YtcaoepecbgggcaaGreatDoorDxF7
import Derived.Test.YtcaoepecbgggcaaGreatDoorDxF12
import Derived.Test.YtcaoepecbgggcaaGreatDoorDxF13
import Derived.Test.YtcaoepecbgggcaaGreatDoorDxF14
import Derived.Test.YtcaoepecbgggcaaGreatDoorDxF16
import Derived.Test.YtcaoepecbgggcaaGreatDoorDxF17
import Derived.Test.YtcaoepecbgggcaaGreatDoorDxF18
namespace Go.Proofs.YtcaoepecbgggcaaGreatDoor
open Go Go.Dw Go.Proofs
set_option maxRecDepth 100000
set_option maxHeartbeats 40000000
open Go.Dw renaming OQ -> bD,PX -> cD,RJ -> xC,PH -> xL,Qm -> lP,Qd -> sC,Abo -> mF,rf -> r
noncomputable section
def Akp:Dw.Spec:=NN [] .ground Ph Pg (λa=>Um a.1 a.2) NK noE
theorem YZ:NL Tryz.prog 92 Akp:=by
 refine fn2 2 (nK 153 Acu<|nK 154 AjC<|NG) Tryz.func92<|?_;intro a;unfold Um;exact B

def Us (a:Lo×Oa×NU):List D:=[NQ a.1,SQ a.2.1,Abi a.2.2]
def Ur (ds:List D):Lo×Oa×NU:=(RX (ds.getD 0 .top),VC (ds.getD 1 .top),Abp (ds.getD 2 .top))
instance:Od Us Ur:=⟨λa=>by simp[Ur,Us]⟩
def AiQ:Dw.Spec:=NN [] .ground Us Ur (λa=>Xa a.1 a.2.1 a.2.2) WV noE
def AgN:Dw.Spec:=Ze (specs []) 3 [(.t 6)] Asw
theorem AfQ:NL Tryz.prog 157 AgN:=Uw (NG) Tryz.func157 (by decide) Awc Awd (by decide)
theorem Air:NL Tryz.prog 94 AiQ:=by
 refine fn2 3 (nK 92 YZ<|nK 93 Aba<|nK 157 AfQ<|nK 218 Abf<|NG) Tryz.func94<|?_;rintro⟨b,e,a⟩;unfold Xa;refine A 10 ?_;refine sC (E:=λ(_s:Unit) (g:Nat×Nat×Nat)=>[(3,.optr 3 g.1 0 0),(4,.optr 4 g.2.1 0 0),(5,.optr 5 g.2.2 0 0)]) (O:=λ_ g=>[(3,dV g.1 3 36 (NQ b)),(4,dV g.2.1 1 45 (.agg [.sl (e.Out.map (eL Mk))])),(5,dV g.2.2 2 48 (.agg [.sl (a.To.map Mk),.sl (a.Keep.map D.bool)]))]) (j:=λ_=>XV b a e) ?_ ?_
 ·exact B
 ·rintro⟨⟩ ⟨h,i,k⟩ nn;dsimp only[XV];refine A 5 ?_;refine TM (E:=λ(g:Nat)=>[(3,.optr 1003 g 0 0),(23,NQ b),(24,.agg [.sl (e.Out.map (eL Mk))]),(25,.agg [.sl (a.To.map Mk),.sl (a.Keep.map D.bool)])]) (O:=λg=>[(1003,dV g 3 36 (NQ b))]) _ ((Qb (λg=>bif Nat.ble 4096 g then g+20000 else g+1000) (by kernel_rfl) hX))<|?_
  rintro f nn
  try dsimp only
  refine Afy (ds:=[NQ b,.agg [.sl (e.Out.map (eL Mk))],.agg [.sl (a.To.map Mk),.sl (a.Keep.map D.bool)]]) (caps:=[]) (E:=[(0,NQ b),(1,.agg [.sl (e.Out.map (eL Mk))]),(2,.agg [.sl (a.To.map Mk),.sl (a.Keep.map D.bool)])]) r r r r r r r r<|WZ (c:=Asw)<|?_;refine A 7 ?_;refine Qh (E:=[(3,.fptr (NQ b) 0),(4,.fptr (.agg [.sl (e.Out.map (eL Mk))]) 0),(5,.fptr (.agg [.sl (a.To.map Mk),.sl (a.Keep.map D.bool)]) 0)]) (O:=[(1003,dV f 3 36 (NQ b))]) ((hV 3 r (hV 4 r (hV 5 r (hY))))) λnn=>?_
  refine A 2 ?_;refine mF (caps:=[.fptr (NQ b) 0,.fptr (.agg [.sl (a.To.map Mk),.sl (a.Keep.map D.bool)]) 0,.fptr (.agg [.sl (e.Out.map (eL Mk))]) 0]) r r (by simp[SB])<|?_
  refine A 4 ?_;refine Adi (d:=.clo 218 [.fptr (NQ b) 0,.fptr (.agg [.sl (a.To.map Mk),.sl (a.Keep.map D.bool)]) 0,.fptr (.agg [.sl (e.Out.map (eL Mk))]) 0]) (E:=[(3,.optr 3 _ 0 0),(26,.clo 218 [.fptr (NQ b) 0,.fptr (.agg [.sl (a.To.map Mk),.sl (a.Keep.map D.bool)]) 0,.fptr (.agg [.sl (e.Out.map (eL Mk))]) 0])]) (O:=[(3,dV _ 3 36 (NQ b))]) r (by first|rfl|(simp[Oj,Om,rdA,raw,strip,Ov,cells,Ol];done)|(simp[Oj,Om,rdA,raw,strip,Ov,S.ge,S.go,look,SM,cells,Ol];done)) r ((PR [] hX (by kernel_rfl) (λ_=>hX))) λnn=>?_
  refine A 13 ?_;refine lP (E:=λ(s:Int) (_g:Unit)=>[(9,.clo 218 [.fptr (NQ b) 0,.fptr (.agg [.sl (a.To.map Mk),.sl (a.Keep.map D.bool)]) 0,.fptr (.agg [.sl (e.Out.map (eL Mk))]) 0]),(29,Av (b.Code.length:Int)),(30,Av s)]) (O:=λ_ _=>[]) () hX<|?_
  rintro l ⟨⟩ nn;dsimp only[Aco];exact B

def Aly:Dw.Spec:=NN [] .ground Us Ur (λa=>Xw a.1 a.2.1 a.2.2) NK noE
theorem Akw:NL Tryz.prog 40 Aly:=by
 refine fn2 3 (nK 92 YZ<|nK 93 Aba<|nK 94 Air<|NG) Tryz.func40<|?_;intro a;unfold Xw;exact B

def Vs (a:Ou):List D:=[Qo a]
def Vr (ds:List D):Ou:=Uq (ds.getD 0 .top)
instance:Od Vs Vr:=⟨λa=>by simp[Vr,Vs]⟩
def AgB:Dw.Spec:=NN [] .ground Vs Vr (λa=>SZ a) NK noE
theorem AfI:NL Tryz.prog 162 AgB:=by
 refine fn2 1 (nK 39 AaP<|nK 88 AjO<|nK 222 Afb<|NG) Tryz.func162<|?_;intro a;unfold SZ;refine Ab 14 λb c=>?_
 refine Ac 16 ?_ ?_
 ·exact B
 ·refine A 2 ?_;refine sC (E:=λ(_s:Unit) (g:Nat×Nat)=>[(1,.optr 1 g.1 0 0),(3,.optr 3 g.2 0 0)]) (O:=λ_ g=>[(1,dV g.1 9 144 (Qo a)),(3,dV g.2 3 39 (QH b.1))]) (j:=λ_=>VI a b) ?_ ?_
  ·exact B
  ·rintro⟨⟩ ⟨d,e⟩ nn;dsimp only[VI];refine A 11 ?_;refine lP (E:=λ(s:Int) (g:Nat×Nat)=>[(1,.optr 1 g.1 0 0),(3,.optr 3 g.2 0 0),(42,Av (a.f.Slots.length:Int)),(43,Av s)]) (O:=λ_ g=>[(1,dV g.1 9 144 (Qo a)),(3,dV g.2 3 39 (QH b.1))]) (_,_) hX<|?_
   rintro h ⟨i,k⟩ nn;dsimp only[ZP];exact B

def SY (a:Ou×Oa):List D:=[Qo a.1,SQ a.2]
def SX (ds:List D):Ou×Oa:=(Uq (ds.getD 0 .top),VC (ds.getD 1 .top))
instance:Od SY SX:=⟨λa=>by simp[SX,SY]⟩
def AgA:Dw.Spec:=NN [] .ground SY SX (λa=>UL a.1 a.2) NK noE
theorem AfH:NL Tryz.prog 101 AgA:=by
 refine fn2 2 (nK 162 AfI<|nK 92 YZ<|NG) Tryz.func101<|?_;intro a;unfold UL;exact B

def Agz:Dw.Spec:=NN [] .ground SY SX (λa=>UK a.1 a.2) WV noE
theorem AfF:NL Tryz.prog 102 Agz:=by
 refine fn2 2 (nK 163 AfE<|NG) Tryz.func102<|?_;rintro⟨a,b⟩;unfold UK;refine A 20 ?_;refine lP (E:=λ(s:Int) (g:Nat×Nat)=>[(2,.optr 2 g.1 0 0),(3,.optr 3 g.2 0 0),(13,Av (a.f.Code.length:Int)),(14,Av s)]) (O:=λ_ g=>[(2,dV g.1 9 144 (Qo a)),(3,dV g.2 1 45 (.agg [.sl (b.Out.map (eL Mk))]))]) (_,_) hX<|?_
 rintro c ⟨d,e⟩ nn;dsimp only[ZO];exact B

def AaO (a:NM×Int×Int×Oa×NV):List D:=[Rk a.1,Av a.2.1,Av a.2.2.1,SQ a.2.2.2.1,QH a.2.2.2.2]
def AaN (ds:List D):NM×Int×Int×Oa×NV:=(Th (ds.getD 0 .top),uI (ds.getD 1 .top),uI (ds.getD 2 .top),VC (ds.getD 3 .top),AeM (ds.getD 4 .top))
instance:Od AaO AaN:=⟨λa=>by simp[AaN,AaO,uI]⟩
def AmX:Dw.Spec:=NN [] .ground AaO AaN (λa=>Xl a.1 a.2.1 a.2.2.1 a.2.2.2.1 a.2.2.2.2) NK noE
theorem AlU:NL Tryz.prog 42 AmX:=by
 refine fn2 5 (nK 101 AfH<|nK 102 AfF<|NG) Tryz.func42<|?_;intro a;unfold Xl;exact B

def ZU (a:NM×Int×Og):List D:=[Rk a.1,Av a.2.1,Ow a.2.2]
def ZT (ds:List D):NM×Int×Og:=(Th (ds.getD 0 .top),uI (ds.getD 1 .top),AdT (ds.getD 2 .top))
instance:Od ZU ZT:=⟨λa=>by simp[ZT,ZU,uI]⟩
def Aga (b:Lo×NV×Int×Int):D:=.tup [NQ b.1,QH b.2.1,Av b.2.2.1,Av b.2.2.2]
def Agb:Dw.Spec:=NN [] .val ZU ZT (λa=>QD a.1 a.2.1 a.2.2) Aga noE
theorem AkU:NL Tryz.prog 12 Agb:=by
 refine fn2 3 (nK 38 Afw<|nK 39 AaP<|nK 40 Akw<|nK 41 Alu<|nK 43 Afd<|nK 42 AlU<|NG) Tryz.func12<|?_;rintro⟨c,d,e⟩;unfold QD;refine Ab 13 λf k=>?_
 refine Ab 9 λa l=>?_
 refine Ac 16 ?_ ?_
 ·refine A 13 ?_;refine Qt (b:=((Lo.mk 0 ([]) ([])),(NV.mk 0 0 ([])),0,a.2)) r ?_ r r ?_ (by first|rfl|(simp only[NP];rfl)|(simp only[NR];rfl)|(simp only[NP,NR];rfl)|(simp[Aga,NQ,QH];try rfl)) (by decide)
  all_goals first|(simp;done)|(simp;omega)|rfl|(simp[Pn,Pc];done)|(simp[cells];done)
 ·refine Ab 7 λh m=>?_
  refine A 6 ?_;refine sC (E:=λ(_s:Unit) (g:Nat×Nat×Nat×Nat×Nat×Nat)=>[(1,Av d),(3,.optr 3 g.1 0 0),(5,.optr 5 g.2.1 0 0),(6,.optr 6 g.2.2.1 0 0),(7,.optr 7 g.2.2.2.1 0 0),(10,Av f),(11,.optr 11 g.2.2.2.2.1 0 0),(13,.optr 13 g.2.2.2.2.2 0 0)]) (O:=λ_ g=>[(3,dV g.1 1 28 (.agg [.sl (c.Funcs.map NQ)])),(5,dV g.2.1 7 50 (Ow e)),(6,dV g.2.2.1 3 36 (.agg [Av 0,.nils,.nils])),(7,dV g.2.2.2.1 3 39 (.agg [Av 0,Av 0,.nils])),(11,dV g.2.2.2.2.1 3 39 (QH a.1)),(13,dV g.2.2.2.2.2 3 36 (NQ h))]) (j:=λ_=>Rr c d f e h a) ?_ ?_
  ·refine Ab 7 λo p=>?_
   refine Ac 4 ?_ ?_
   ·refine Ab 5 λi q=>?_
    refine A 9 ?_;refine sC (E:=λ(s:Bool) (g:Nat×Nat×Nat×Nat×Nat×Nat×Nat)=>[(1,Av d),(3,.optr 3 g.1 0 0),(5,.optr 5 g.2.1 0 0),(6,.optr 6 g.2.2.1 0 0),(7,.optr 7 g.2.2.2.1 0 0),(10,Av f),(11,.optr 11 g.2.2.2.2.1 0 0),(13,.optr 13 g.2.2.2.2.2.1 0 0),(14,.optr 14 g.2.2.2.2.2.2 0 0),(72,.bool s)]) (O:=λ_ g=>[(3,dV g.1 1 28 (.agg [.sl (c.Funcs.map NQ)])),(5,dV g.2.1 7 50 (Ow e)),(6,dV g.2.2.1 3 36 (.agg [Av 0,.nils,.nils])),(7,dV g.2.2.2.1 3 39 (.agg [Av 0,Av 0,.nils])),(11,dV g.2.2.2.2.1 3 39 (QH a.1)),(13,dV g.2.2.2.2.2.1 3 36 (NQ h)),(14,dV g.2.2.2.2.2.2 3 36 (NQ i.1))]) (j:=λs=>QU i e c d f h a s) ?_ ?_
    ·exact B
    ·rintro t ⟨u,v,x,z,aa,ab,ac⟩ nn;dsimp only[QU];exact B
   ·exact B
  ·rintro⟨⟩ ⟨ad,ae,af,ag,ah,ai⟩ nn;dsimp only[Rr];exact B

def Acr:Dw.Spec:=NN [] .ground RK Tv (λa=>UB a.1 a.2.1 a.2.2) NK noE
theorem AhW:NL Tryz.prog 114 Acr:=by
 refine fn2 3 (nK 178 Aal<|nK 179 Asl<|NG) Tryz.func114<|?_;intro a;unfold UB;exact B

end
end Go.Proofs.YtcaoepecbgggcaaGreatDoor
