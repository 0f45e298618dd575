/-
 The code does what its typed programs say.
-/
import Derived.Test.YtcaoepecbgggcaaGreatDoorDxF4
import Derived.Test.YtcaoepecbgggcaaGreatDoorDxF5
import Derived.Test.YtcaoepecbgggcaaGreatDoorDxF6
namespace Go.Proofs.YtcaoepecbgggcaaGreatDoor
open Go Go.Dw Go.Proofs
open Go.IntKind (i64)
set_option maxRecDepth 100000
set_option maxHeartbeats 40000000
open Go.Dw renaming OO -> bD,TR -> bS,Qs -> cD,Rp -> xC,PY -> xL,AfM -> cP,QS -> lP,PQ -> sC,Adc -> mF,rf -> r
abbrev AfY:=en2 Av (fpE Rx)
abbrev ArC:=de2 uI (fpU Vb)
theorem Ahh:Nr Tryz.prog 258 (fS .val AfY (λa=>VM a.1 a.2) Oj):=by
 refine fn2 2 (Np) Tryz.func258<|?_;intro a;unfold VM;exact B

theorem Amj:Nr Tryz.prog 278 (fS .val RK (λa=>VT a.1 a.2) Oj):=by
 refine fn2 2 (nK 219 Ss<|nK 231 Xg<|nK 220 Sd<|Np) Tryz.func278<|?_;intro a;unfold VT;exact B

theorem AhI:Nr Tryz.prog 158 (fS (.row 1 3) QY (λa=>WH a) Oj):=by
 refine fn2 1 (Np) Tryz.func158<|?_;intro a;unfold WH;exact B

theorem AjX:Nr Tryz.prog 160 (fS (.row 1 3) WU (λa=>YW a) Oj):=by
 refine fn2 1 (nK 219 Ss<|nK 220 Sd<|Np) Tryz.func160<|?_;intro a;unfold YW;exact B

theorem Agk:Nr Tryz.prog 216 (fS .val Tj (λa=>Ud a.1 a.2) Oj):=by
 refine fn2 2 (nK 219 Ss<|nK 1069315 Abz<|nK 220 Sd<|Np) Tryz.func216<|?_;rintro⟨e,f⟩;unfold Ud;refine Ab 8 λb g=>?_
 refine Ab 2 λc h=>?_
 refine A 1 ?_;refine bD λi d=>cP (b,c) rfl rfl (show _=some WS from by kernel_rfl) OW.ok rfl rfl (by simp) r d<|?_
 exact B

abbrev AaM:=en2 NG (eL Av)
abbrev Ayp:=de2 RD (uL uI)
theorem AqA:Nr Tryz.prog 257 (fS .val AaM (λa=>AdO a.1 a.2) Oj):=by
 refine fn2 2 (nK 159 UK<|nK 278 Amj<|nK 158 AhI<|nK 160 AjX<|nK 216 Agk<|Np) Tryz.func257<|?_;intro a;unfold AdO;exact B

theorem Ana:Nr Tryz.prog 217 (fS .val Tj (λa=>Xd a.1 a.2) Oj):=by
 refine fn2 2 (nK 219 Ss<|nK 1073411 Aby<|nK 220 Sd<|Np) Tryz.func217<|?_;rintro⟨e,f⟩;unfold Xd;refine Ab 8 λb g=>?_
 refine Ab 2 λc h=>?_
 refine A 1 ?_;refine bD λi d=>cP (b,c) rfl rfl (show _=some WQ from by kernel_rfl) OW.ok rfl rfl (by simp) r d<|?_
 exact B

def Tv (a:(List Int)×(List Int)×NN×Int):List D:=[.sl (a.1.map Av),.sl (a.2.1.map Av),.fptr (Rx a.2.2.1) 0,.fptr (Nm a.2.2.2) 0]
def Tu (ds:List D):(List Int)×(List Int)×NN×Int:=((uL uI) (ds.getD 0 .top),(uL uI) (ds.getD 1 .top),Vb (fpD (ds.getD 2 .top)),uI (fpD (ds.getD 3 .top)))
instance:OW Tv Tu:=⟨λa=>by simp[Tu,Tv,uI,fpD,Qe (u:=uI) (en:=Av) (λ_=>rfl)]⟩
def XI (b:Bool×(List Int)):D:=.bool b.1
def AdS (b:Bool×(List Int)):List D:=[.sl (b.2.map Av)]
theorem AcE:Nr Tryz.prog 215 (NO [(1,(1,37))] .val Tv Tu (λa=>SG a.1 a.2.1 a.2.2.1 a.2.2.2) XI AdS):=by
 refine fn2 4 (nK 217 Ana<|nK 216 Agk<|Np) Tryz.func215<|?_;rintro⟨c,d,e,f⟩;unfold SG;refine Ab 12 λg h=>?_
 refine Ab 2 λj k=>?_
 refine Ab 1 λb l=>?_
 refine A 1 ?_;refine Adw (i:=0) (es':=[.sl (b.map Av)]) r r r r r r r (by first|trivial|(simp;done)|(simp;omega)) r r r r r r<|?_
 exact B

def Qo (a:Nn×Int×NN×(List Int)×NN×Int):List D:=[Nz a.1,Nm a.2.1,.clo 258 [.fptr (Rx a.2.2.1) 0],.clo 215 [.sl (a.2.2.2.1.map Av),.fptr (Rx a.2.2.2.2.1) 0,.fptr (Nm a.2.2.2.2.2) 0]]
def Rv (ds:List D):Nn×Int×NN×(List Int)×NN×Int:=(Rh (ds.getD 0 .top),uI (ds.getD 1 .top),Vb (fpD (Aec (ds.getD 2 .top) 0)),(uL uI) (Aec (ds.getD 3 .top) 0),Vb (fpD (Aec (ds.getD 3 .top) 1)),uI (fpD (Aec (ds.getD 3 .top) 2)))
instance:OW Qo Rv:=⟨λa=>by simp[Rv,Qo,uI,fpD,Aec,Qe (u:=uI) (en:=Av) (λ_=>rfl)]⟩
def ZB (b:Bool×(List Int)):List D:=[.sl (b.2.map Av)]
noncomputable def Uv:Dw.Spec:=NO [(256,(1,37))] .val Qo Rv (λa=>Qc a.1 a.2.1 a.2.2.1 a.2.2.2.1 a.2.2.2.2.1 a.2.2.2.2.2) XI ZB
theorem Zj:Nr Tryz.prog 213 Uv:=by
 refine fn2 4 (nK 256 AqF<|nK 258 Ahh<|nK 257 AqA<|nK 215 AcE<|Np) Tryz.func213<|?_;rintro⟨b,k2,c,f,d,e⟩;unfold Qc;refine Ab 11 λa h=>?_
 refine A 6 ?_;refine lP (E:=λ(s:(List Int)×Int) (g:Nat×Nat)=>[(2,.clo 258 [.fptr (.agg [.sl (c.Out.map (eL Av))]) 0]),(3,.clo 215 [.optr 8448 256 0 0,.fptr (.agg [.sl (d.Out.map (eL Av))]) 0,.fptr (Nm e) 0]),oP 4 g.1,oT 13 g.2 a,oL 14 a,oI 15 s.2]) (O:=λs g=>[(4,dV g.1 3 36 (Nz b)),(13,dW g.2 1 3 (a.map Av)),(8448,dV 256 1 37 (.sl (s.1.map Av)))]) (_,_) hX<|?_
 rintro⟨i,j⟩ ⟨k,l⟩ nn;dsimp only[PK];exact B

def Rz (b:Lo):D:=NG b
theorem AlC:Nr Tryz.prog 161 (fS .ground AaM (λa=>Xm a.1 a.2) Rz):=by
 refine fn2 2 (nK 221 Ahg<|Np) Tryz.func161<|?_;rintro⟨c,b⟩;unfold Xm;refine A 6 ?_;refine Qd (E:=[oP 2 _,(3,.fptr (.sl (b.map Av)) 0),oP 4 _]) (O:=[(2,dV _ 5 90 (NG c)),(4,dV _ 5 90 (.agg [Nm 0,Nm 0,Nm 0,Nm 0,Aoc 0]))]) ((hV 3 r (hY))) λnn=>?_
 refine A 2 ?_;refine mF (caps:=[.fptr (.sl (b.map Av)) 0]) r r (by simp[SE])<|?_
 exact B

abbrev AmR:=en3 Nz Xk (eL Av)
abbrev Awy:=de3 Rh ZW (uL uI)
def Aip (b:(List Lo)):D:=.sl (b.map NG)
theorem AgL:Nr Tryz.prog 100 (fS (.row 5 90) AmR (λa=>XB a.1 a.2.1 a.2.2) Aip):=by
 refine fn2 3 (nK 161 AlC<|Np) Tryz.func100<|?_;rintro⟨b,c,d⟩;unfold XB;refine A 22 ?_;refine lP (E:=λ(s:(List Lo)×Int) (g:Nat×Nat)=>[oM 2 d Av,oP 4 g.1,oT 7 g.2 s.1,oM 11 b.Code NG,oL 12 b.Code,oI 13 s.2]) (O:=λs g=>[(4,dV g.1 2 48 (.agg [.sl (c.To.map Av),.sl (c.Keep.map D.bool)])),(7,dW g.2 5 90 (s.1.map NG))]) (_,_) hX<|?_
 rintro⟨e,f⟩ ⟨k,l⟩ nn;dsimp only[AgK];refine Ac 6 ?_ ?_
 ·refine Ab 7 λh m=>?_
  refine A 7 ?_;refine sC (E:=λ(s:Bool) (g:Nat×Nat×Nat)=>[oM 2 d Av,oP 4 g.1,oT 7 g.2.1 e,oP 9 g.2.2,oM 11 b.Code NG,oL 12 b.Code,oI 13 f,oB 29 s]) (O:=λ_ g=>[(4,dV g.1 2 48 (.agg [.sl (c.To.map Av),.sl (c.Keep.map D.bool)])),(7,dW g.2.1 5 90 (e.map NG)),(9,dV g.2.2 5 90 (NG h))]) (j:=λs=>Wx h d e f s) ?_ ?_
  ·exact B
  ·rintro o ⟨p,q,t⟩ nn;dsimp only[Wx];refine cD r ?_ ?_
   ·refine Ab 4 λi u=>?_
    refine A 1 ?_;refine bS ([i]:List Lo) NG r r r (by simp) r r r<|?_
    exact B
   ·exact B
 ·exact B

abbrev AdX:=en1 Xk
abbrev AuH:=de1 ZW
theorem AlQ:Nr Tryz.prog 99 (fS (.row 1 3) AdX (λa=>ZU a) Oj):=by
 refine fn2 1 (Np) Tryz.func99<|?_;intro b;unfold ZU;refine A 26 ?_;refine lP (E:=λ(s:(List Int)×Int×Int) (g:Nat)=>[oT 3 g s.1,oI 4 s.2.2,(8,.sl (b.Keep.map D.bool)),oL 9 b.Keep,oI 10 s.2.1]) (O:=λs g=>[(3,dW g 1 3 (s.1.map Av))]) _ hX<|?_
 rintro⟨c,d,e⟩ f nn;dsimp only[AeC];exact B

abbrev QP:=en3 Nz Pv NG
abbrev AqS:=de3 Rh Adg RD
theorem AfZ:Nr Tryz.prog 236 (fS .ground QP (λa=>US a.1 a.2.1 a.2.2) Rz):=by
 refine fn2 3 (Np) Tryz.func236<|?_;intro a;unfold US;exact B

theorem Aga:Nr Tryz.prog 237 (fS .ground QP (λa=>UT a.1 a.2.1 a.2.2) Rz):=by
 refine fn2 3 (Np) Tryz.func237<|?_;intro a;unfold UT;exact B

theorem Agb:Nr Tryz.prog 238 (fS .ground QP (λa=>UU a.1 a.2.1 a.2.2) Rz):=by
 refine fn2 3 (Np) Tryz.func238<|?_;intro a;unfold UU;exact B

theorem Agc:Nr Tryz.prog 239 (fS .ground QP (λa=>UW a.1 a.2.1 a.2.2) Rz):=by
 refine fn2 3 (Np) Tryz.func239<|?_;intro a;unfold UW;exact B

theorem Agd:Nr Tryz.prog 240 (fS .ground QP (λa=>UX a.1 a.2.1 a.2.2) Rz):=by
 refine fn2 3 (Np) Tryz.func240<|?_;intro a;unfold UX;exact B

theorem ApD:Nr Tryz.prog 235 (fS .ground QP (λa=>AeH a.1 a.2.1 a.2.2) Rz):=by
 refine fn2 3 (Np) Tryz.func235<|?_;intro a;unfold AeH;exact B

theorem AgA:Nr Tryz.prog 206 (fS (.row 1 3) RK (λa=>Xv a.1 a.2) Oj):=by
 refine fn2 2 (Np) Tryz.func206<|?_;rintro⟨d,e⟩;unfold Xv;refine A 17 ?_;refine lP (E:=λ(s:(List Int)×Int) (g:Nat)=>[oM 0 d Av,oI 1 e,oT 5 g s.1,oI 6 s.2]) (O:=λs g=>[(5,dW g 1 3 (s.1.map Av))]) _ hX<|?_
 rintro⟨b,c⟩ h nn;dsimp only[Uw];refine Ac 9 ?_ ?_
 ·refine Ab 8 λi j=>?_
  refine Ac 6 ?_ ?_
  ·refine Ab 4 λf k=>?_
   refine A 13 ?_;exact xL (s:=(b++([f]:List Int),i64.wrap (c+1))) _ hX
  ·refine A 8 ?_;exact xL (s:=(b,i64.wrap (c+1))) _ hX
 ·exact B

theorem Ajq:Nr Tryz.prog 142 (fS (.row 1 3) QY (λa=>UZ a) Oj):=by
 refine fn2 1 (Np) Tryz.func142<|?_;intro a;unfold UZ;exact B

theorem Zn:Nr Tryz.prog 67 (fS (.row 1 3) RK (λa=>Tp a.1 a.2) Oj):=by
 refine fn2 2 (nK 125 Ajo<|Np) Tryz.func67<|?_;rintro⟨b,c⟩;unfold Tp;refine Ab 13 λh i=>?_
 refine A 12 ?_;refine lP (E:=λ(s:(List Int)×Bool×Int) (g:Nat)=>[oM 0 b Av,oI 1 c,oT 5 g s.1,oB 6 s.2.1,oI 7 s.2.2]) (O:=λs g=>[(5,dW g 1 3 (s.1.map Av))]) _ hX<|?_
 rintro⟨e,f,d⟩ k nn;dsimp only[Sl];refine Ac 9 ?_ ?_
 ·refine A 4 ?_;refine sC (E:=λ(s:(List Int)×Bool) (g:Nat)=>[oM 0 b Av,oI 1 c,oT 5 g s.1,oB 6 s.2,oI 7 d]) (O:=λs g=>[(5,dW g 1 3 (s.1.map Av))]) (j:=λs=>Tb b d s.1 s.2) ?_ ?_
  ·refine sC (E:=λ(s:Bool) (g:Nat)=>[oM 0 b Av,oI 1 c,oT 5 g e,oB 6 f,oI 7 d,oB 26 s]) (O:=λ_ g=>[(5,dW g 1 3 (e.map Av))]) (j:=λs=>Up b d c e f s) ?_ ?_
   ·exact B
   ·rintro l m nn;dsimp only[Up];exact B
  ·rintro⟨o,p⟩ q nn;dsimp only[Tb];exact B
 ·exact B

theorem ZH:Nr Tryz.prog 124 (fS (.row 1 3) Tj (λa=>TY a.1 a.2) Oj):=by
 refine fn2 2 (nK 67 Zn<|Np) Tryz.func124<|?_;rintro⟨c,b⟩;unfold TY;refine A 19 ?_;refine lP (E:=λ(s:(List Int)×Int) (g:Nat)=>[oM 1 b Av,oT 5 g s.1,oI 6 s.2]) (O:=λs g=>[(5,dW g 1 3 (s.1.map Av))]) _ hX<|?_
 rintro⟨d,e⟩ f nn;dsimp only[Xw];exact B

theorem Ama:Nr Tryz.prog 249 (fS (.row 1 3) AaM (λa=>AcQ a.1 a.2) Oj):=by
 refine fn2 2 (nK 143 XV<|nK 206 AgA<|nK 142 Ajq<|nK 124 ZH<|Np) Tryz.func249<|?_;intro a;unfold AcQ;exact B

theorem Aft:Nr Tryz.prog 81 (fS .ground AaM (λa=>VW a.1 a.2) Rz):=by
 refine fn2 2 (nK 144 AmH<|Np) Tryz.func81<|?_;intro a;unfold VW;exact B

theorem ApP:Nr Tryz.prog 77 (fS (.row 1 3) Tk (λa=>ZQ a.1 a.2) Oj):=by
 refine fn2 2 (nK 81 Aft<|nK 142 Ajq<|nK 124 ZH<|nK 143 XV<|nK 67 Zn<|Np) Tryz.func77<|?_;rintro⟨c,b⟩;unfold ZQ;refine A 19 ?_;refine lP (E:=λ(s:(List Int)×Int) (g:Nat×Nat×Nat)=>[oP 2 g.1,oP 3 g.2.1,oT 5 g.2.2 s.1,oI 6 s.2]) (O:=λs g=>[(2,dV g.1 3 36 (Nz c)),(3,dV g.2.1 2 48 (.agg [.sl (b.To.map Av),.sl (b.Keep.map D.bool)])),(5,dW g.2.2 1 3 (s.1.map Av))]) (_,_,_) hX<|?_
 rintro⟨d,k4⟩ ⟨e,f,h⟩ nn;dsimp only[Aej];refine sC (E:=λ(_s:Unit) (g:Nat×Nat×Nat)=>[oP 2 g.1,oP 3 g.2.1,oT 5 g.2.2 d,oI 6 k4,oI 16 k4,(17,.optr 3 g.2.1 0 1),(18,.sl (b.Keep.map D.bool)),oL 19 b.Keep,(20,.bool (decide (k4<(b.Keep.length:Int))))]) (O:=λ_ g=>[(2,dV g.1 3 36 (Nz c)),(3,dV g.2.1 2 48 (.agg [.sl (b.To.map Av),.sl (b.Keep.map D.bool)])),(5,dW g.2.2 1 3 (d.map Av))]) (j:=λ_=>Ym b k4 d c) ?_ ?_
 ·exact B
 ·rintro⟨⟩ ⟨i,k,l⟩ nn;dsimp only[Ym];exact B

theorem AnH:Nr Tryz.prog 80 (fS (.row 1 3) AdX (λa=>Aca a) Oj):=by
 refine fn2 1 (Np) Tryz.func80<|?_;intro b;unfold Aca;refine A 23 ?_;refine lP (E:=λ(s:(List Int)×Int×Int) (g:Nat×Nat)=>[oP 1 g.1,oT 3 g.2 s.1,oI 4 s.2.1,oI 5 s.2.2]) (O:=λs g=>[(1,dV g.1 2 48 (.agg [.sl (b.To.map Av),.sl (b.Keep.map D.bool)])),(3,dW g.2 1 3 (s.1.map Av))]) (_,_) hX<|?_
 rintro⟨c,d,k4⟩ ⟨e,f⟩ nn;dsimp only[AgE];exact B

end Go.Proofs.YtcaoepecbgggcaaGreatDoor
