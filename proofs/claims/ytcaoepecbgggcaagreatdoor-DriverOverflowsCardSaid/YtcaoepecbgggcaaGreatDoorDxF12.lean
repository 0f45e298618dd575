/-
 The code does what its typed programs say.
-/
import Derived.Test.YtcaoepecbgggcaaGreatDoorProg
import Derived.Test.YtcaoepecbgggcaaGreatDoorDc
import Derived.KernelRfl
import Derived.Test.YtcaoepecbgggcaaGreatDoorDxP
import Derived.Test.YtcaoepecbgggcaaGreatDoorDxF1
import Derived.Test.YtcaoepecbgggcaaGreatDoorDxF4
import Derived.Test.YtcaoepecbgggcaaGreatDoorDxF5
import Derived.Test.YtcaoepecbgggcaaGreatDoorDxF6
namespace Go.Proofs.YtcaoepecbgggcaaGreatDoor
open Go Go.Dw Go.Proofs
open Go.IntKind (i64)
set_option maxRecDepth 100000
set_option maxHeartbeats 40000000
open Go.Dw renaming OQ -> bD,WO -> bS,RW -> cG,PX -> cD,RJ -> xC,PH -> xL,Qm -> lP,Qd -> sC,Abo -> mF,rf -> r
def Qk (a:(List (List Int))×Lo):List D:=[.sl (a.1.map (eL Mk)),.clo 210 [.fptr (NQ a.2) 0]]
def Qj (ds:List D):(List (List Int))×Lo:=((uL (uL uI)) (ds.getD 0 .top),RX (fpD (AdY (ds.getD 1 .top) 0)))
instance:Od Qk Qj:=⟨λa=>by simp[Qj,Qk,fpD,AdY,OG (u:=(uL uI)) (en:=(eL Mk)) (OG (u:=uI) (en:=Mk) (λ_=>rfl))]⟩
noncomputable def Up:Dw.Spec:=NN [] .ground Qk Qj (λa=>QO a.1 a.2) NK noE
theorem Zn:NL Tryz.prog 255 Up:=by
 refine fn2 2 (nK 210 Afc<|NG) Tryz.func255<|?_;rintro⟨a,b⟩;unfold QO;refine A 14 ?_;refine lP (E:=λ(s:Int) (_g:Unit)=>[(0,.sl (a.map (eL Mk))),(1,.clo 210 [.fptr (NQ b) 0]),(7,Av (a.length:Int)),(8,Av s)]) (O:=λ_ _=>[]) () hX<|?_
 rintro c ⟨⟩ nn;dsimp only[Uf];exact B

noncomputable def Tx:Dw.Spec:=NN [] .ground Qk Qj (λa=>Ry a.1 a.2) NX noE
theorem Ym:NL Tryz.prog 212 Tx:=by
 refine fn2 2 (nK 864511 Zn<|NG) Tryz.func212<|?_;rintro⟨a,b⟩;unfold Ry;refine A 9 ?_;refine bD λd c=>cG (a,b) rfl rfl (show _=some Up from by kernel_rfl) Od.ok rfl rfl (by simp) r c r<|?_
 exact B

def Ph (a:Lo×Oa):List D:=[NQ a.1,SQ a.2]
def Pg (ds:List D):Lo×Oa:=(RX (ds.getD 0 .top),VC (ds.getD 1 .top))
instance:Od Ph Pg:=⟨λa=>by simp[Pg,Ph]⟩
noncomputable def AjD:Dw.Spec:=NN [] .ground Ph Pg (λa=>Vt a.1 a.2) NX noE
theorem Acu:NL Tryz.prog 153 AjD:=by
 refine fn2 2 (nK 864468 Ym<|NG) Tryz.func153<|?_;rintro⟨a,b⟩;unfold Vt;refine A 6 ?_;refine Qh (E:=[(2,.fptr (NQ a) 0),(3,.optr 3 _ 0 0)]) (O:=[(3,dV _ 1 45 (.agg [.sl (b.Out.map (eL Mk))]))]) ((hV 2 r (hY))) λnn=>?_
 refine A 2 ?_;refine mF (caps:=[.fptr (NQ a) 0]) r r (by simp[SB])<|?_
 refine A 13 ?_;refine Tz r ?_ ?_
 ·refine A 3 ?_;refine bD λd c=>cG (b.Out,a) rfl rfl (show _=some Tx from by kernel_rfl) Od.ok rfl rfl (by simp) r c r<|?_
  exact B
 ·exact B

noncomputable def Aqi:Dw.Spec:=NN [] (.row 1 3) Aaz Aay (λa=>ZB a.1 a.2) OC noE
theorem Aiz:NL Tryz.prog 248 Aqi:=by
 refine fn2 2 (NG) Tryz.func248<|?_;rintro⟨b,k2⟩;unfold ZB;refine A 6 ?_;refine sC (E:=λ(_s:Unit) (g:Nat)=>[(1,Av k2),(2,.optr 2 g 0 0)]) (O:=λ_ g=>[(2,dV g 3 36 (NQ b))]) (j:=λ_=>AaB b k2) ?_ ?_
 ·exact B
 ·rintro⟨⟩ c nn;dsimp only[AaB];refine Ab 5 λa d=>?_
  refine Ac 20 ?_ ?_
  ·exact B
  ·refine sC (E:=λ(s:Bool) (g:Nat)=>[(1,Av k2),(5,.optr 5 g 0 0),(21,Av a.Op),(27,.bool s)]) (O:=λ_ g=>[(5,dV g 5 90 (Ob a))]) (j:=λs=>Rz a k2 s) ?_ ?_
   ·exact B
   ·rintro e f nn;dsimp only[Rz];refine cD r ?_ ?_
    ·exact B
    ·refine Ac 6 ?_ ?_
     ·refine Ac 11 ?_ ?_
      ·refine A 6 ?_;refine bS ([a.B,i64.wrap (k2+1)]:List Int) Mk r r r (by simp) r r r<|?_
       exact B
      ·refine Ac 10 ?_ ?_
       ·refine A 6 ?_;refine bS ([i64.wrap (k2+1),a.B]:List Int) Mk r r r (by simp) r r r<|?_
        exact B
       ·exact B
     ·exact B

noncomputable def AoA:Dw.Spec:=NN [] (.row 1 3) Rh Rg (λa=>Aaq a.1 a.2) OC noE
theorem Anh:NL Tryz.prog 183 AoA:=by
 refine fn2 2 (nK 116 Zh<|NG) Tryz.func183<|?_;rintro⟨c,d⟩;unfold Aaq;refine A 17 ?_;refine lP (E:=λ(s:(List Int)×Int) (g:Nat)=>[(0,.sl (c.map Mk)),(1,.sl (d.map Mk)),(5,.osl 5 g 0 s.1.length),(6,Av s.2)]) (O:=λs g=>[(5,dW g 1 3 (s.1.map Mk))]) _ hX<|?_
 rintro⟨a,b⟩ f nn;dsimp only[Vf];refine Ac 9 ?_ ?_
 ·refine Ab 9 λh i=>?_
  refine Ab 2 λj k=>?_
  refine Ac 4 ?_ ?_
  ·refine Ab 4 λe l=>?_
   refine A 13 ?_;exact xL (s:=(a++([e]:List Int),i64.wrap (b+1))) _ hX
  ·refine A 8 ?_;exact xL (s:=(a,i64.wrap (b+1))) _ hX
 ·exact B

end Go.Proofs.YtcaoepecbgggcaaGreatDoor
