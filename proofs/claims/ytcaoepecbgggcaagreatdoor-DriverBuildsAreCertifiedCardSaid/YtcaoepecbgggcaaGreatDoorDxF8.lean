/-
 The code does what its typed programs say.
-/
import Derived.Test.YtcaoepecbgggcaaGreatDoorDxF4
import Derived.Test.YtcaoepecbgggcaaGreatDoorDxF5
namespace Go.Proofs.YtcaoepecbgggcaaGreatDoor
open Go Go.Dw Go.Proofs
open Go.IntKind (i64)
set_option maxRecDepth 100000
set_option maxHeartbeats 40000000
open Go.Dw renaming OO -> bD,TR -> bS,Tg -> cG,Qs -> cD,Rp -> xC,PY -> xL,QS -> lP,PQ -> sC,Adc -> mF,rf -> r
abbrev WZ:=en2 PJ Av
abbrev Avt:=de2 Rr uI
theorem AmU:Nr Tryz.prog 169 (fS .ground WZ (λa=>Yp a.1 a.2) Nq):=by
 refine fn2 2 (nK 228 Ajv<|nK 148 Ags<|nK 229 Aro<|nK 230 Aal<|Np) Tryz.func169<|?_;rintro⟨c,d⟩;unfold Yp;refine Ab 13 λe f=>?_
 refine Ac 4 ?_ ?_
 ·exact B
 ·refine Ab 7 λb h=>?_
  refine Ac 15 ?_ ?_
  ·exact B
  ·refine Ab 7 λi j=>?_
   refine Ac 10 ?_ ?_
   ·exact B
   ·refine Ab 7 λk l=>?_
    refine Ac 4 ?_ ?_
    ·exact B
    ·refine A 12 ?_;refine lP (E:=λ(s:Int) (g:Nat×Nat)=>[oP 2 g.1,oP 5 g.2,oM 37 b.Code NG,oL 38 b.Code,oI 39 s]) (O:=λ_ g=>[(2,dV g.1 1 28 (.agg [.sl (c.Funcs.map Nz)])),(5,dV g.2 3 36 (Nz b))]) (_,_) hX<|?_
     rintro m ⟨o,p⟩ nn;dsimp only[Abd];exact B

abbrev Yq:=en1 PJ
abbrev Aju:=de1 Rr
noncomputable def Amd:Dw.Spec:=NO [] .ground Yq Aju (λa=>Abp a) Nq noE
theorem Arn:Nr Tryz.prog 108 Amd:=by
 refine fn2 1 (nK 169 AmU<|Np) Tryz.func108<|?_;intro a;unfold Abp;refine Ac 23 ?_ ?_
 ·exact B
 ·refine Ac 7 ?_ ?_
  ·exact B
  ·refine Ab 4 λb c=>?_
   refine Ac 7 ?_ ?_
   ·exact B
   ·refine A 13 ?_;refine lP (E:=λ(s:Int) (g:Nat)=>[oP 1 g,oL 24 a.Funcs,oI 25 s]) (O:=λ_ g=>[(1,dV g 1 28 (.agg [.sl (a.Funcs.map Nz)]))]) _ hX<|?_
    rintro d e nn;dsimp only[AfJ];exact B

theorem AkO:Nr Tryz.prog 88 (fS .ground WZ (λa=>Zm a.1 a.2) Nq):=by
 refine fn2 2 (Np) Tryz.func88<|?_;rintro⟨c,d⟩;unfold Zm;refine Ab 17 λb e=>?_
 refine A 8 ?_;refine lP (E:=λ(s:Int×Int) (g:Nat)=>[oP 2 g,oI 5 s.2,oM 13 b.Code NG,oL 14 b.Code,oI 15 s.1]) (O:=λ_ g=>[(2,dV g 1 28 (.agg [.sl (c.Funcs.map Nz)]))]) _ hX<|?_
 rintro⟨f,h⟩ i nn;dsimp only[AkN];exact B

def Qq (a:(List (List Int))×Nn):List D:=[.sl (a.1.map (eL Av)),.clo 210 [.fptr (Nz a.2) 0]]
def Qp (ds:List D):(List (List Int))×Nn:=((uL (uL uI)) (ds.getD 0 .top),Rh (fpD (Aec (ds.getD 1 .top) 0)))
instance:OW Qq Qp:=⟨λa=>by simp[Qp,Qq,fpD,Aec,Qe (u:=(uL uI)) (en:=(eL Av)) (Qe (u:=uI) (en:=Av) (λ_=>rfl))]⟩
noncomputable def Uz:Dw.Spec:=NO [] .ground Qq Qp (λa=>QW a.1 a.2) Nq noE
theorem Zs:Nr Tryz.prog 255 Uz:=by
 refine fn2 2 (nK 210 Afn<|Np) Tryz.func255<|?_;rintro⟨a,b⟩;unfold QW;refine A 14 ?_;refine lP (E:=λ(s:Int) (_g:Unit)=>[(0,.sl (a.map (eL Av))),(1,.clo 210 [.fptr (Nz b) 0]),oL 7 a,oI 8 s]) (O:=λ_ _=>[]) () hX<|?_
 rintro c ⟨⟩ nn;dsimp only[Uq];exact B

noncomputable def TA:Dw.Spec:=NO [] .ground Qq Qp (λa=>RC a.1 a.2) NF noE
theorem Yr:Nr Tryz.prog 212 TA:=by
 refine fn2 2 (nK 864511 Zs<|Np) Tryz.func212<|?_;rintro⟨a,b⟩;unfold RC;refine A 9 ?_;refine bD λd c=>cG (a,b) rfl rfl (show _=some Uz from by kernel_rfl) OW.ok rfl rfl (by simp) r c r<|?_
 exact B

abbrev PX:=en2 Nz Rx
abbrev Atg:=de2 Rh Vb
theorem Acu:Nr Tryz.prog 153 (fS .ground PX (λa=>Vv a.1 a.2) NF):=by
 refine fn2 2 (nK 864468 Yr<|Np) Tryz.func153<|?_;rintro⟨b,c⟩;unfold Vv;refine A 6 ?_;refine Qd (E:=[(2,.fptr (Nz b) 0),oP 3 _]) (O:=[(3,dV _ 1 45 (.agg [.sl (c.Out.map (eL Av))]))]) ((hV 2 r (hY))) λnn=>?_
 refine A 2 ?_;refine mF (caps:=[.fptr (Nz b) 0]) r r (by simp[SE])<|?_
 refine A 13 ?_;refine QO r ?_ ?_
 ·refine A 3 ?_;refine bD λe d=>cG (c.Out,b) rfl rfl (show _=some TA from by kernel_rfl) OW.ok rfl rfl (by simp) r d r<|?_
  exact B
 ·exact B

theorem Ajy:Nr Tryz.prog 96 (fS (.row 1 3) RK (λa=>XL a.1 a.2) Oj):=by
 refine fn2 2 (Np) Tryz.func96<|?_;rintro⟨b,c⟩;unfold XL;refine A 19 ?_;refine lP (E:=λ(s:(List Int)×Int) (g:Nat)=>[oI 1 c,oT 5 g s.1,oM 8 b Av,oL 9 b,oI 10 s.2]) (O:=λs g=>[(5,dW g 1 3 (s.1.map Av))]) _ hX<|?_
 rintro⟨d,e⟩ f nn;dsimp only[Acn];exact B

theorem Ajp:Nr Tryz.prog 248 (fS (.row 1 3) Ajh (λa=>ZJ a.1 a.2) Oj):=by
 refine fn2 2 (Np) Tryz.func248<|?_;rintro⟨c,k2⟩;unfold ZJ;refine A 6 ?_;refine sC (E:=λ(_s:Unit) (g:Nat)=>[oI 1 k2,oP 2 g]) (O:=λ_ g=>[(2,dV g 3 36 (Nz c))]) (j:=λ_=>AaP c k2) ?_ ?_
 ·exact B
 ·rintro⟨⟩ d nn;dsimp only[AaP];refine Ab 5 λb e=>?_
  refine Ac 20 ?_ ?_
  ·exact B
  ·refine sC (E:=λ(s:Bool) (g:Nat)=>[oI 1 k2,oP 5 g,oI 21 b.Op,oB 27 s]) (O:=λ_ g=>[(5,dV g 5 90 (NG b))]) (j:=λs=>RF b k2 s) ?_ ?_
   ·exact B
   ·rintro f h nn;dsimp only[RF];refine cD r ?_ ?_
    ·exact B
    ·refine Ac 6 ?_ ?_
     ·refine Ac 11 ?_ ?_
      ·refine A 6 ?_;refine bS ([b.B,i64.wrap (k2+1)]:List Int) Av r r r (by simp) r r r<|?_
       exact B
      ·refine Ac 10 ?_ ?_
       ·refine A 6 ?_;refine bS ([i64.wrap (k2+1),b.B]:List Int) Av r r r (by simp) r r r<|?_
        exact B
       ·exact B
     ·exact B

theorem Aou:Nr Tryz.prog 183 (fS (.row 1 3) Tj (λa=>AaA a.1 a.2) Oj):=by
 refine fn2 2 (nK 116 Zp<|Np) Tryz.func183<|?_;rintro⟨d,e⟩;unfold AaA;refine A 17 ?_;refine lP (E:=λ(s:(List Int)×Int) (g:Nat)=>[oM 0 d Av,oM 1 e Av,oT 5 g s.1,oI 6 s.2]) (O:=λs g=>[(5,dW g 1 3 (s.1.map Av))]) _ hX<|?_
 rintro⟨b,c⟩ h nn;dsimp only[Vl];refine Ac 9 ?_ ?_
 ·refine Ab 9 λi j=>?_
  refine Ab 2 λk l=>?_
  refine Ac 4 ?_ ?_
  ·refine Ab 4 λf m=>?_
   refine A 13 ?_;exact xL (s:=(b++([f]:List Int),i64.wrap (c+1))) _ hX
  ·refine A 8 ?_;exact xL (s:=(b,i64.wrap (c+1))) _ hX
 ·exact B

theorem Aek:Nr Tryz.prog 82 (fS .ground WZ (λa=>TZ a.1 a.2) Nq):=by
 refine fn2 2 (Np) Tryz.func82<|?_;rintro⟨c,h⟩;unfold TZ;refine Ab 16 λd i=>?_
 refine A 13 ?_;refine lP (E:=λ(s:Int×Int) (g:Nat)=>[oP 2 g,oI 5 s.1,oM 6 d.Code NG,oI 7 s.2]) (O:=λ_ g=>[(2,dV g 1 28 (.agg [.sl (c.Funcs.map Nz)]))]) _ hX<|?_
 rintro⟨b,k5⟩ j nn;dsimp only[Ajs];refine Ac 9 ?_ ?_
 ·refine Ab 8 λk l=>?_
  refine Ac 12 ?_ ?_
  ·refine Ab 4 λe m=>?_
   refine A 15 ?_;exact xL (s:=(OA b (i64.wrap (e.A+1)),i64.wrap (k5+1))) _ hX
  ·refine Ac 6 ?_ ?_
   ·refine Ab 6 λo p=>?_
    refine Ab 3 λf q=>?_
    refine A 14 ?_;exact xL (s:=(OA b f.Params,i64.wrap (k5+1))) _ hX
   ·refine A 9 ?_;exact xL (s:=(b,i64.wrap (k5+1))) _ hX
 ·exact B

end Go.Proofs.YtcaoepecbgggcaaGreatDoor
