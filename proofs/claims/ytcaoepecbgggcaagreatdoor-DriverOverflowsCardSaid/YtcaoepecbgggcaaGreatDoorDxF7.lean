/-
 The code does what its typed programs say.
-/
import Derived.Test.YtcaoepecbgggcaaGreatDoorProg
import Derived.Test.YtcaoepecbgggcaaGreatDoorDc
import Derived.KernelRfl
import Derived.Test.YtcaoepecbgggcaaGreatDoorDxP
import Derived.Test.YtcaoepecbgggcaaGreatDoorDxF1
import Derived.Test.YtcaoepecbgggcaaGreatDoorDxF2
import Derived.Test.YtcaoepecbgggcaaGreatDoorDxF3
import Derived.Test.YtcaoepecbgggcaaGreatDoorDxF4
namespace Go.Proofs.YtcaoepecbgggcaaGreatDoor
open Go Go.Dw Go.Proofs
open Go.IntKind (i64)
set_option maxRecDepth 100000
set_option maxHeartbeats 40000000
open Go.Dw renaming OQ -> bD,PQ -> cK,RW -> cG,PX -> cD,RJ -> xC,PH -> xL,Qm -> lP,Qd -> sC,Abo -> mF,rf -> r
def Aen (a:NM×Lo×NH):List D:=[Rk a.1,NQ a.2.1,Ob a.2.2]
def Aem (ds:List D):NM×Lo×NH:=(Th (ds.getD 0 .top),RX (ds.getD 1 .top),SE (ds.getD 2 .top))
instance:Od Aen Aem:=⟨λa=>by simp[Aem,Aen]⟩
noncomputable def Arw:Dw.Spec:=NN [] .ground Aen Aem (λa=>Wu a.1 a.2.1 a.2.2) NK noE
theorem AqB:NL Tryz.prog 229 Arw:=by
 refine fn2 3 (nK 228 AiE<|nK 266 AoY<|NG) Tryz.func229<|?_;rintro⟨h,f,e⟩;unfold Wu;refine Ab 13 λr4 af=>?_
 refine Ac 4 ?_ ?_
 ·exact B
 ·refine A 6 ?_;refine cK λhq=>AvC (kk:=228) (Tq.map λq=>SN.mk q.1 q.2.1 q.2.2.1 q.2.2.2) (λq=>cells (Aam q)) r r r hq r<|bD λd m=>AqN (q:=d) (l:=(Tq.map λq=>SN.mk q.1 q.2.1 q.2.2.1 q.2.2.2)) (c:=λq=>cells (Aam q)) (j:=e.Op.toNat) 0 100 (λ_=>r) r r r r r r m r<|?_
  refine A 34 ?_;refine lP (E:=λ(s:Int) (g:Nat×Nat×Nat×Nat×Nat×Nat)=>[(3,.optr 3 g.1 0 0),(4,.optr 4 g.2.1 0 0),(5,.optr 5 g.2.2.1 0 0),(7,.optr 7 g.2.2.2.1 0 0),(8,.optr 8 g.2.2.2.2.1 0 0),(9,.optr 9 g.2.2.2.2.2 0 0),(38,.agg [Av d.a,Av d.b,Av d.c]),(39,Av s)]) (O:=λ_ g=>[(3,dV g.1 1 28 (.agg [.sl (h.Funcs.map NQ)])),(4,dV g.2.1 3 36 (NQ f)),(5,dV g.2.2.1 5 90 (Ob e)),(7,dV g.2.2.2.1 4 259 (Aam d)),(8,dV g.2.2.2.2.1 3 261 (.agg [Av d.a,Av d.b,Av d.c])),(9,dV g.2.2.2.2.2 3 262 (.agg [Av e.A,Av e.B,Av e.C]))]) (_,_,_,_,_,_) hX<|?_
  rintro o ⟨ag,ah,ai,aj,ak,ao⟩ nn;dsimp only[Vw];refine Ac 6 ?_ ?_
  ·refine A 7 ?_;refine cK λhq=>bD λp t=>Amy (q:=p) (l:=(QE.mk d.a d.b d.c).toList) (en:=Mk) r r r hq (by exact Nat.le_refl _) t<|?_
   refine A 9 ?_;refine Tz r ?_ ?_
   ·refine A 1 ?_;refine cK λhq=>Qw r r r hq<|bD λu v=>Qq (q:=u) (l:=(QE.mk e.A e.B e.C).toList) (en:=Mk) (j:=o.toNat) (by simp) r r r v r (λ_=>r)<|?_
    exact B
   ·exact B
  ·refine A 5 ?_;refine sC (E:=λ(_s:Unit) (g:Nat×Nat×Nat×Nat×Nat)=>[(3,.optr 3 g.1 0 0),(4,.optr 4 g.2.1 0 0),(5,.optr 5 g.2.2.1 0 0),(8,.optr 8 g.2.2.2.1 0 0),(9,.optr 9 g.2.2.2.2 0 0)]) (O:=λ_ g=>[(3,dV g.1 1 28 (.agg [.sl (h.Funcs.map NQ)])),(4,dV g.2.1 3 36 (NQ f)),(5,dV g.2.2.1 5 90 (Ob e)),(8,dV g.2.2.2.1 3 261 (.agg [Av d.a,Av d.b,Av d.c])),(9,dV g.2.2.2.2 3 262 (.agg [Av e.A,Av e.B,Av e.C]))]) (j:=λ_=>Td h f d e) ?_ ?_
   ·exact B
   ·rintro⟨⟩ ⟨ap,aq,ar,au,av⟩ nn;dsimp only[Td];refine Ab 4 λi aw=>?_
    refine A 18 ?_;refine lP (E:=λ(s:Int×Int) (g:Nat×Nat×Nat×Nat)=>[(4,.optr 4 g.1 0 0),(5,.optr 5 g.2.1 0 0),(9,.optr 9 g.2.2.1 0 0),(12,.optr 12 g.2.2.2 0 0),(13,Av s.1),(63,.agg [Av d.a,Av d.b,Av d.c]),(64,Av s.2)]) (O:=λ_ g=>[(4,dV g.1 3 36 (NQ f)),(5,dV g.2.1 5 90 (Ob e)),(9,dV g.2.2.1 3 262 (.agg [Av e.A,Av e.B,Av e.C])),(12,dV g.2.2.2 7 263 (AjX i))]) (_,_,_,_) hX<|?_
    rintro⟨ax,x⟩ ⟨ay,az,ba,bb⟩ nn;dsimp only[Vx];refine Ac 6 ?_ ?_
    ·refine A 7 ?_;refine cK λhq=>bD λk z=>Amy (q:=k) (l:=(QE.mk d.a d.b d.c).toList) (en:=Mk) r r r hq (by exact Nat.le_refl _) z<|?_
     refine A 8 ?_;refine cK λhq=>Qw r r r hq<|bD λaa ab=>Qq (q:=aa) (l:=(QE.mk e.A e.B e.C).toList) (en:=Mk) (j:=x.toNat) (by simp) r r r ab r (λ_=>r)<|?_
     refine A 1 ?_;refine cK λhq=>Qw r r r hq<|bD λac ad=>Qq (q:=ac) (l:=i.toList) (en:=Mk) (j:=k.toNat) (by simp) r r r ad r (λ_=>r)<|bD λbc bd=>?_
     exact B
    ·exact B

def Rj (a:Lo×NU):List D:=[NQ a.1,Abi a.2]
def Ri (ds:List D):Lo×NU:=(RX (ds.getD 0 .top),Abp (ds.getD 1 .top))
instance:Od Rj Ri:=⟨λa=>by simp[Ri,Rj]⟩
noncomputable def Amu:Dw.Spec:=NN [] .ground Rj Ri (λa=>VX a.1 a.2) NK noE
theorem Aba:NL Tryz.prog 93 Amu:=by
 refine fn2 2 (nK 155 Akl<|nK 156 AiN<|NG) Tryz.func93<|?_;rintro⟨b,a⟩;unfold VX;refine A 7 ?_;refine sC (E:=λ(_s:Unit) (g:Nat×Nat)=>[(2,.optr 2 g.1 0 0),(3,.optr 3 g.2 0 0)]) (O:=λ_ g=>[(2,dV g.1 3 36 (NQ b)),(3,dV g.2 2 48 (.agg [.sl (a.To.map Mk),.sl (a.Keep.map D.bool)]))]) (j:=λ_=>AaZ b a) ?_ ?_
 ·exact B
 ·rintro⟨⟩ ⟨c,d⟩ nn;dsimp only[AaZ];refine A 10 ?_;refine lP (E:=λ(s:Int) (g:Nat)=>[(3,.optr 3 g 0 0),(22,.sl (b.Code.map Ob)),(23,Av (b.Code.length:Int)),(24,Av s)]) (O:=λ_ g=>[(3,dV g 2 48 (.agg [.sl (a.To.map Mk),.sl (a.Keep.map D.bool)]))]) _ hX<|?_
  rintro e f nn;dsimp only[Afu];exact B

def OY (a:(List NH)×OU×Ox):List D:=[.sl (a.1.map Ob),.clo 246 [.fptr (AcD a.2.1) 0,.fptr (Qf a.2.2) 0]]
def OX (ds:List D):(List NH)×OU×Ox:=((uL SE) (ds.getD 0 .top),Adj (fpD (AdY (ds.getD 1 .top) 0)),Yu (fpD (AdY (ds.getD 1 .top) 1)))
instance:Od OY OX:=⟨λa=>by simp[OX,OY,fpD,AdY,OG (u:=SE) (en:=Ob) Abe]⟩
noncomputable def QZ:Dw.Spec:=NN [] .ground OY OX (λa=>OM a.1 a.2.1 a.2.2) NK noE
theorem Uh:NL Tryz.prog 275 QZ:=by
 refine fn2 2 (nK 246 AdO<|NG) Tryz.func275<|?_;rintro⟨a,b,c⟩;unfold OM;refine A 14 ?_;refine lP (E:=λ(s:Int) (_g:Unit)=>[(0,.sl (a.map Ob)),(1,.clo 246 [.fptr (.agg [Av b.Align,.sl (b.Frames.map ON)]) 0,.fptr (Qf c) 0]),(7,Av (a.length:Int)),(8,Av s)]) (O:=λ_ _=>[]) () hX<|?_
 rintro d ⟨⟩ nn;dsimp only[PI];exact B

noncomputable def QN:Dw.Spec:=NN [] .ground OY OX (λa=>Pb a.1 a.2.1 a.2.2) NX noE
theorem TL:NL Tryz.prog 245 QN:=by
 refine fn2 2 (nK 1011987 Uh<|NG) Tryz.func245<|?_;rintro⟨a,b,c⟩;unfold Pb;refine A 9 ?_;refine bD λe d=>cG (a,b,c) rfl rfl (show _=some QZ from by kernel_rfl) Od.ok rfl rfl (by simp) r d r<|?_
 exact B

def XM (a:Ox×OU):List D:=[Qf a.1,AcD a.2]
def XL (ds:List D):Ox×OU:=(Yu (ds.getD 0 .top),Adj (ds.getD 1 .top))
instance:Od XM XL:=⟨λa=>by simp[XL,XM]⟩
noncomputable def AjH:Dw.Spec:=NN [] .ground XM XL (λa=>Vu a.1 a.2) NX noE
theorem AiO:NL Tryz.prog 182 AjH:=by
 refine fn2 2 (nK 1011957 TL<|NG) Tryz.func182<|?_;rintro⟨b,a⟩;unfold Vu;refine A 6 ?_;refine Qh (E:=[(2,.fptr (Qf b) 0),(3,.fptr (.agg [Av a.Align,.sl (a.Frames.map ON)]) 0)]) (O:=[]) ((hV 2 r (hV 3 r (hY)))) λnn=>?_
 refine A 5 ?_;refine mF (caps:=[.fptr (.agg [Av a.Align,.sl (a.Frames.map ON)]) 0,.fptr (Qf b) 0]) r r (by simp[SB])<|bD λd c=>cG (b.Frame.Code,a,b) rfl rfl (show _=some QN from by kernel_rfl) Od.ok rfl rfl (by simp) r c r<|?_
 exact B

noncomputable def AoU:Dw.Spec:=NN [] .ground Rj Ri (λa=>Aaw a.1 a.2) NK noE
theorem Anu:NL Tryz.prog 76 AoU:=by
 refine fn2 2 (nK 140 Anr<|nK 141 AdQ<|NG) Tryz.func76<|?_;rintro⟨b,a⟩;unfold Aaw;refine A 7 ?_;refine sC (E:=λ(_s:Unit) (g:Nat×Nat)=>[(2,.optr 2 g.1 0 0),(3,.optr 3 g.2 0 0)]) (O:=λ_ g=>[(2,dV g.1 3 36 (NQ b)),(3,dV g.2 2 48 (.agg [.sl (a.To.map Mk),.sl (a.Keep.map D.bool)]))]) (j:=λ_=>ZH b a) ?_ ?_
 ·exact B
 ·rintro⟨⟩ ⟨c,d⟩ nn;dsimp only[ZH];refine A 7 ?_;refine lP (E:=λ(s:Int) (g:Nat×Nat)=>[(2,.optr 2 g.1 0 0),(3,.optr 3 g.2 0 0),(5,Av s)]) (O:=λ_ g=>[(2,dV g.1 3 36 (NQ b)),(3,dV g.2 2 48 (.agg [.sl (a.To.map Mk),.sl (a.Keep.map D.bool)]))]) (_,_) hX<|?_
  rintro k3 ⟨e,f⟩ nn;dsimp only[Adf];exact B

def Aeg (a:(List NT)×Int×Int×Int):List D:=[.sl (a.1.map PN),Av a.2.1,Av a.2.2.1,Av a.2.2.2]
def Aef (ds:List D):(List NT)×Int×Int×Int:=((uL Ug) (ds.getD 0 .top),uI (ds.getD 1 .top),uI (ds.getD 2 .top),uI (ds.getD 3 .top))
instance:Od Aeg Aef:=⟨λa=>by simp[Aef,Aeg,uI,OG (u:=Ug) (en:=PN) AkH]⟩
noncomputable def Arp:Dw.Spec:=NN [] .ground Aeg Aef (λa=>AdP a.1 a.2.1 a.2.2.1 a.2.2.2) Vm noE
theorem Aqe:NL Tryz.prog 203 Arp:=by
 refine fn2 4 (nK 130 Zz<|nK 68 AcQ<|nK 204 AcR<|nK 83 AkE<|nK 252 Aoy<|NG) Tryz.func203<|?_;rintro⟨b,a,c,d⟩;unfold AdP;refine A 6 ?_;refine sC (E:=λ(_s:Unit) (_g:Unit)=>[(0,.sl (b.map PN)),(1,Av a),(2,Av c),(3,Av d)]) (O:=λ_ _=>[]) (j:=λ_=>Aff b d c a) ?_ ?_
 ·exact B
 ·rintro⟨⟩ ⟨⟩ nn;dsimp only[Aff];refine A 7 ?_;refine lP (E:=λ(s:Int) (_g:Unit)=>[(0,.sl (b.map PN)),(1,Av a),(2,Av c),(3,Av d),(10,Av s)]) (O:=λ_ _=>[]) () hX<|?_
  rintro k ⟨⟩ nn;dsimp only[AjP];refine Ac 9 ?_ ?_
  ·exact B
  ·refine A 18 ?_;refine lP (E:=λ(s:Int×Bool×Int) (_g:Unit)=>[(0,.sl (b.map PN)),(1,Av a),(2,Av c),(3,Av d),(11,Av s.1),(12,.bool s.2.1),(13,Av s.2.2)]) (O:=λ_ _=>[]) () hX<|?_
   rintro⟨e,f,g⟩ ⟨⟩ nn;dsimp only[AjQ];refine Ac 9 ?_ ?_
   ·refine A 10 ?_;refine sC (E:=λ(s:Int) (_g:Unit)=>[(0,.sl (b.map PN)),(1,Av a),(2,Av c),(3,Av d),(11,Av e),(12,.bool f),(13,Av g),(14,Av s)]) (O:=λ_ _=>[]) (j:=λs=>Xo d c b f g e s) ?_ ?_
    ·refine Ac 6 ?_ ?_
     ·refine Ab 4 λh l=>?_
      refine Ab 5 λi m=>?_
      refine A 7 ?_;exact xC (s:=OD a (i64.wrap (h.Off+i.Size))) () hX
     ·refine A 1 ?_;exact xC (s:=a) () hX
    ·rintro o ⟨⟩ nn;dsimp only[Xo];exact B
   ·exact B

end Go.Proofs.YtcaoepecbgggcaaGreatDoor
