/-
 The code does what its typed programs say.
-/
import Derived.Test.YtcaoepecbgggcaaGreatDoorDxF6
namespace Go.Proofs.YtcaoepecbgggcaaGreatDoor
open Go Go.Dw Go.Proofs
open Go.IntKind (i64)
set_option maxRecDepth 100000
set_option maxHeartbeats 40000000
open Go.Dw renaming ON -> bD,Ts -> bS,Sj -> cG,PL -> cD,QZ -> xC,Pn -> xL,Qb -> lP,PI -> sC,Acl -> mF,rf -> r
def Qt (a:(List (List Int))×Lo):List D:=[.sl (a.1.map (eL NF)),.clo 210 [.fptr (NR a.2) 0]]
def Qs (ds:List D):(List (List Int))×Lo:=((uL (uL uI)) (ds.getD 0 .top),RD (fpD (AeV (ds.getD 1 .top) 0)))
instance:Od Qt Qs:=⟨λa=>by simp[Qs,Qt,fpD,AeV,OE (u:=(uL uI)) (en:=(eL NF)) (OE (u:=uI) (en:=NF) (λ_=>rfl))]⟩
noncomputable def UG:Dw.Spec:=NO [] .ground Qt Qs (λa=>QW a.1 a.2) NJ noE
theorem Aab:NK Tryz.prog 255 UG:=by
 refine fn2 2 (nK 210 Agf<|NG) Tryz.func255<|?_;rintro⟨a,b⟩;unfold QW;refine A 14 ?_;refine lP (E:=λ(s:Int) (_g:Unit)=>[(0,.sl (a.map (eL NF))),(1,.clo 210 [.fptr (NR b) 0]),(7,Av (a.length:Int)),(8,Av s)]) (O:=λ_ _=>[]) () hX<|?_
 rintro c ⟨⟩ nn;dsimp only[Ux];exact B

noncomputable def TN:Dw.Spec:=NO [] .ground Qt Qs (λa=>RK a.1 a.2) NX noE
theorem YO:NK Tryz.prog 212 TN:=by
 refine fn2 2 (nK 864511 Aab<|NG) Tryz.func212<|?_;rintro⟨a,b⟩;unfold RK;refine A 9 ?_;refine bD λd c=>cG (a,b) rfl rfl (show _=some UG from by kernel_rfl) Od.ok rfl rfl (by simp) r c r<|?_
 exact B

def Pl (a:Lo×Ob):List D:=[NR a.1,Td a.2]
def Pk (ds:List D):Lo×Ob:=(RD (ds.getD 0 .top),VU (ds.getD 1 .top))
instance:Od Pl Pk:=⟨λa=>by simp[Pk,Pl]⟩
noncomputable def AkT:Dw.Spec:=NO [] .ground Pl Pk (λa=>VI a.1 a.2) NX noE
theorem Adq:NK Tryz.prog 153 AkT:=by
 refine fn2 2 (nK 864468 YO<|NG) Tryz.func153<|?_;rintro⟨a,b⟩;unfold VI;refine A 6 ?_;refine Qq (E:=[(2,.fptr (NR a) 0),(3,.optr 3 _ 0 0)]) (O:=[(3,dV _ 1 45 (.agg [.sl (b.Out.map (eL NF))]))]) ((hV 2 r (hY))) λnn=>?_
 refine A 2 ?_;refine mF (caps:=[.fptr (NR a) 0]) r r (by simp[SO])<|?_
 refine A 13 ?_;refine RS r ?_ ?_
 ·refine A 3 ?_;refine bD λd c=>cG (b.Out,a) rfl rfl (show _=some TN from by kernel_rfl) Od.ok rfl rfl (by simp) r c r<|?_
  exact B
 ·exact B

noncomputable def ArO:Dw.Spec:=NO [] (.row 1 3) Abt Abs (λa=>Aap a.1 a.2) OC noE
theorem AjI:NK Tryz.prog 248 ArO:=by
 refine fn2 2 (NG) Tryz.func248<|?_;rintro⟨b,k2⟩;unfold Aap;refine A 6 ?_;refine sC (E:=λ(_s:Unit) (g:Nat)=>[(1,Av k2),(2,.optr 2 g 0 0)]) (O:=λ_ g=>[(2,dV g 3 36 (NR b))]) (j:=λ_=>Abv b k2) ?_ ?_
 ·exact B
 ·rintro⟨⟩ c nn;dsimp only[Abv];refine Ab 5 λa d=>?_
  refine Ac 20 ?_ ?_
  ·exact B
  ·refine sC (E:=λ(s:Bool) (g:Nat)=>[(1,Av k2),(5,.optr 5 g 0 0),(21,Av a.Op),(27,.bool s)]) (O:=λ_ g=>[(5,dV g 5 90 (NY a))]) (j:=λs=>RM a k2 s) ?_ ?_
   ·exact B
   ·rintro e f nn;dsimp only[RM];refine cD r ?_ ?_
    ·exact B
    ·refine Ac 6 ?_ ?_
     ·refine Ac 11 ?_ ?_
      ·refine A 6 ?_;refine bS ([a.B,i64.wrap (k2+1)]:List Int) NF r r r (by simp) r r r<|?_
       exact B
      ·refine Ac 10 ?_ ?_
       ·refine A 6 ?_;refine bS ([i64.wrap (k2+1),a.B]:List Int) NF r r r (by simp) r r r<|?_
        exact B
       ·exact B
     ·exact B

noncomputable def Aqi:Dw.Spec:=NO [] (.row 1 3) Rt Rs (λa=>Abj a.1 a.2) OC noE
theorem AoQ:NK Tryz.prog 183 Aqi:=by
 refine fn2 2 (nK 116 ZV<|NG) Tryz.func183<|?_;rintro⟨c,d⟩;unfold Abj;refine A 17 ?_;refine lP (E:=λ(s:(List Int)×Int) (g:Nat)=>[(0,.sl (c.map NF)),(1,.sl (d.map NF)),(5,.osl 5 g 0 s.1.length),(6,Av s.2)]) (O:=λs g=>[(5,dW g 1 3 (s.1.map NF))]) _ hX<|?_
 rintro⟨a,b⟩ f nn;dsimp only[Vv];refine Ac 9 ?_ ?_
 ·refine Ab 9 λh i=>?_
  refine Ab 2 λj k=>?_
  refine Ac 4 ?_ ?_
  ·refine Ab 4 λe l=>?_
   refine A 13 ?_;exact xL (s:=(a++([e]:List Int),i64.wrap (b+1))) _ hX
  ·refine A 8 ?_;exact xL (s:=(a,i64.wrap (b+1))) _ hX
 ·exact B

end Go.Proofs.YtcaoepecbgggcaaGreatDoor
