/-
 The code does what its typed programs say.
-/
import Derived.Test.YtcaoepecbgggcaaGreatDoorProg
import Derived.Test.YtcaoepecbgggcaaGreatDoorDc
import Derived.KernelRfl
import Derived.Test.YtcaoepecbgggcaaGreatDoorDxP
namespace Go.Proofs.YtcaoepecbgggcaaGreatDoor
open Go Go.Dw Go.Proofs
set_option maxRecDepth 100000
set_option maxHeartbeats 40000000
open Go.Dw renaming OQ -> bD,PQ -> cK,PX -> cD,PH -> xL,Qm -> lP,Abo -> mF,rf -> r
def Zc (a:Oa):List D:=[SQ a]
def Zb (ds:List D):Oa:=VC (ds.getD 0 .top)
instance:Od Zc Zb:=⟨λa=>by simp[Zb,Zc]⟩
def Ald (b:Oa):D:=.clo 258 [.fptr (SQ b) 0]
noncomputable def Ale:Dw.Spec:=NN [] .val Zc Zb (λa=>Zu a) Ald noE
theorem Akr:NL Tryz.prog 214 Ale:=by
 refine fn2 1 (NG) Tryz.func214<|?_;intro a;unfold Zu;refine A 5 ?_;refine Qh (E:=[(1,.fptr (.agg [.sl (a.Out.map (eL Mk))]) 0)]) (O:=[]) ((hV 1 r (hY))) λnn=>?_
 refine A 2 ?_;refine mF (caps:=[.fptr (.agg [.sl (a.Out.map (eL Mk))]) 0]) r r (by simp[SB])<|?_
 exact B

def Wa (a:Int×Int):List D:=[AmK a.1,AmK a.2]
def VZ (ds:List D):Int×Int:=(uI (ds.getD 0 .top),uI (ds.getD 1 .top))
instance:Od Wa VZ:=⟨λa=>by simp[VZ,Wa,uI]⟩
def AeT (b:Int):D:=AmK b
noncomputable def AkN:Dw.Spec:=NN [] .ground Wa VZ (λa=>Xe a.1 a.2) AeT noE
theorem Akj:NL Tryz.prog 260 AkN:=by
 refine fn2 2 (NG) Tryz.func260<|?_;intro a;unfold Xe;exact B

def SL (a:NI×NI):List D:=[NY a.1,NY a.2,.clo 260 []]
def SK (ds:List D):NI×NI:=(PM (ds.getD 0 .top),PM (ds.getD 1 .top))
instance:Od SL SK:=⟨λa=>by simp[SK,SL]⟩
def WR (b:NI×NI×NI):D:=NY b.1
def Acq (b:NI×NI×NI):List D:=[NY b.2.1,NY b.2.2]
noncomputable def WS:Dw.Spec:=NN [(0,(8,255)),(1,(8,255))] (.ptr 8 255) SL SK (λa=>RP a.1 a.2) WR Acq
theorem AbB:NL Tryz.prog 259 WS:=by
 refine fn2 3 (nK 260 Akj<|NG) Tryz.func259<|?_;rintro⟨d,e⟩;unfold RP;refine A 19 ?_;refine lP (E:=λ(s:NI×Int) (g:Nat)=>[(0,.optr 8192 0 0 0),(1,.optr 8193 1 0 0),(2,.clo 260 []),(7,.optr 10 g 0 0),(11,Av s.2)]) (O:=λs g=>[(10,dV g 8 255 (NY s.1)),(8192,dV 0 8 255 (NY d)),(8193,dV 1 8 255 (NY e))]) _ hX<|?_
 rintro⟨b,a⟩ p nn;dsimp only[Rn];refine Ac 6 ?_ ?_
 ·refine A 17 ?_;refine cK λhq=>Qw r r r hq<|bD λf h=>Qq (q:=f) (l:=d.toList) (en:=YU) (j:=a.toNat) (by simp) r r r h r (λ_=>r)<|?_
  refine A 3 ?_;refine cK λhq=>Qw r r r hq<|bD λi k=>Qq (q:=i) (l:=e.toList) (en:=YU) (j:=a.toNat) (by simp) r r r k r (λ_=>r)<|bD λc t=>?_
  refine A 2 ?_;refine cK λhq=>Qw r r r hq<|bD λm o=>Aip (q:=m) (q':=c) (l:=b.toList) (en:=YU) (j:=a.toNat) (z':=NY (b.set a.toNat c)) (by simp) r r r r r o r r (congrArg (λl=>D.agg (l.map YU)) (RF b a.toNat c).symm)<|?_
  exact B
 ·exact B

noncomputable def AkL:Dw.Spec:=NN [] .ground Wa VZ (λa=>Xd a.1 a.2) AeT noE
theorem Aki:NL Tryz.prog 261 AkL:=by
 refine fn2 2 (NG) Tryz.func261<|?_;intro a;unfold Xd;exact B

def SJ (a:NI×NI):List D:=[NY a.1,NY a.2,.clo 261 []]
def SI (ds:List D):NI×NI:=(PM (ds.getD 0 .top),PM (ds.getD 1 .top))
instance:Od SJ SI:=⟨λa=>by simp[SI,SJ]⟩
def Acp (b:NI×NI×NI):List D:=[NY b.2.1,NY b.2.2]
noncomputable def WQ:Dw.Spec:=NN [(0,(8,255)),(1,(8,255))] (.ptr 8 255) SJ SI (λa=>RO a.1 a.2) WR Acp
theorem AbA:NL Tryz.prog 259 WQ:=by
 refine fn2 3 (nK 261 Aki<|NG) Tryz.func259<|?_;rintro⟨d,e⟩;unfold RO;refine A 19 ?_;refine lP (E:=λ(s:NI×Int) (g:Nat)=>[(0,.optr 8192 0 0 0),(1,.optr 8193 1 0 0),(2,.clo 261 []),(7,.optr 10 g 0 0),(11,Av s.2)]) (O:=λs g=>[(10,dV g 8 255 (NY s.1)),(8192,dV 0 8 255 (NY d)),(8193,dV 1 8 255 (NY e))]) _ hX<|?_
 rintro⟨b,a⟩ p nn;dsimp only[Rm];refine Ac 6 ?_ ?_
 ·refine A 17 ?_;refine cK λhq=>Qw r r r hq<|bD λf h=>Qq (q:=f) (l:=d.toList) (en:=YU) (j:=a.toNat) (by simp) r r r h r (λ_=>r)<|?_
  refine A 3 ?_;refine cK λhq=>Qw r r r hq<|bD λi k=>Qq (q:=i) (l:=e.toList) (en:=YU) (j:=a.toNat) (by simp) r r r k r (λ_=>r)<|bD λc t=>?_
  refine A 2 ?_;refine cK λhq=>Qw r r r hq<|bD λm o=>Aip (q:=m) (q':=c) (l:=b.toList) (en:=YU) (j:=a.toNat) (z':=NY (b.set a.toNat c)) (by simp) r r r r r o r r (congrArg (λl=>D.agg (l.map YU)) (RF b a.toNat c).symm)<|?_
  exact B
 ·exact B

def Zx (a:OE×NH):List D:=[ON a.1,Ob a.2]
def Zw (ds:List D):OE×NH:=(AfB (ds.getD 0 .top),SE (ds.getD 1 .top))
instance:Od Zx Zw:=⟨λa=>by simp[Zw,Zx]⟩
def AjG (b:NT×Bool):D:=.tup [PN b.1,.bool b.2]
noncomputable def ApT:Dw.Spec:=NN [] .val Zx Zw (λa=>QV a.1 a.2) AjG noE
theorem Aom:NL Tryz.prog 273 ApT:=by
 refine fn2 2 (NG) Tryz.func273<|?_;intro a;unfold QV;exact B

noncomputable def Aon:Dw.Spec:=NN [] .val Zx Zw (λa=>Qr a.1 a.2) AjG noE
theorem AmZ:NL Tryz.prog 274 Aon:=by
 refine fn2 2 (NG) Tryz.func274<|?_;intro a;unfold Qr;exact B

end Go.Proofs.YtcaoepecbgggcaaGreatDoor
