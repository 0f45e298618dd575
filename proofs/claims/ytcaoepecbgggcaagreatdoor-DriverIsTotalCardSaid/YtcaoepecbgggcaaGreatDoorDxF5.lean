/-
 The code does what its typed programs say.
-/
import Derived.Test.YtcaoepecbgggcaaGreatDoorDxF3
open List renaming replicate->aA
namespace Go.Proofs.YtcaoepecbgggcaaGreatDoor
open Go Go.Dw Go.Proofs
open Go.IntKind (i64)
set_option maxRecDepth 100000
set_option maxHeartbeats 40000000
open Go.Dw renaming QN -> bD,QW -> cK,Uy -> cG,AcM -> aP,WQ -> sE,Vs -> cD,YA -> xC,UF -> xL,XG -> lP,Vg -> sC,SG -> bC,rf -> r
abbrev UO:=en2 Pz Lo
abbrev Avi:=de2 Rp uI
theorem AmH:Ns Tryz.prog 169 (fS .ground UO (λa=>UE a.1 a.2) Nr):=by
 refine fn2 2 (nK 228 Aje<|nK 148 Agc<|nK 229 AqS<|nK 230 Aaf<|Np) Tryz.func169<|?_;rintro⟨c,d⟩;unfold UE;refine Ab 13 λe f=>?_
 refine Ac 4 ?_ ?_
 ·exact B
 ·refine Ab 7 λb h=>?_
  refine Ac 15 ?_ ?_
  ·exact B
  ·refine Ab 7 λi j=>?_
   refine Ac 10 ?_ ?_
   ·exact B
   ·refine Ab 7 λk l=>?_
    refine Ac 4 ?_ ?_
    ·exact B
    ·refine A 12 ?_;refine lP (E:=λ(s:Int) (g:Nat×Nat)=>[oP 2 g.1,oP 5 g.2,oM 37 b.Code NG,oL 38 b.Code,oI 39 s]) (O:=λ_ g=>[(2,dV g.1 1 28 (.agg [.sl (c.Funcs.map Nz)])),(5,dV g.2 3 36 (Nz b))]) (_,_) hX<|?_
     rintro m ⟨o,p⟩ nn;dsimp only[Ss];exact B

abbrev Wc:=en1 Pz
abbrev Ajc:=de1 Rp
noncomputable def AlS:Dw.Spec:=NU [] .ground Wc Ajc (λa=>Wy a) Nr noE
theorem AqR:Ns Tryz.prog 108 AlS:=by
 refine fn2 1 (nK 169 AmH<|Np) Tryz.func108<|?_;intro a;unfold Wy;refine Ac 23 ?_ ?_
 ·exact B
 ·refine Ac 7 ?_ ?_
  ·exact B
  ·refine Ab 4 λb c=>?_
   refine Ac 7 ?_ ?_
   ·exact B
   ·refine A 13 ?_;refine lP (E:=λ(s:Int) (g:Nat)=>[oP 1 g,oL 24 a.Funcs,oI 25 s]) (O:=λ_ g=>[(1,dV g 1 28 (.agg [.sl (a.Funcs.map Nz)]))]) _ hX<|?_
    rintro d e nn;dsimp only[VD];exact B

noncomputable def AgT:Dw.Spec:=NU [] .ground Wc Ajc (λa=>SF a) Nr noE
theorem Aft:Ns Tryz.prog 38 AgT:=by
 refine fn2 1 (nK 87 AmY<|Np) Tryz.func38<|?_;intro a;unfold SF;refine A 21 ?_;refine lP (E:=λ(s:Int×Int) (_g:Unit)=>[oI 3 s.1,oM 7 a.Funcs Nz,oL 8 a.Funcs,oI 9 s.2]) (O:=λ_ _=>[]) () hX<|?_
 rintro⟨b,c⟩ ⟨⟩ nn;dsimp only[AkC];exact B

theorem Akv:Ns Tryz.prog 88 (fS .ground UO (λa=>Zm a.1 a.2) Nr):=by
 refine fn2 2 (Np) Tryz.func88<|?_;rintro⟨c,d⟩;unfold Zm;refine Ab 17 λb e=>?_
 refine A 8 ?_;refine lP (E:=λ(s:Int×Int) (g:Nat)=>[oP 2 g,oI 5 s.2,oM 13 b.Code NG,oL 14 b.Code,oI 15 s.1]) (O:=λ_ g=>[(2,dV g 1 28 (.agg [.sl (c.Funcs.map Nz)]))]) _ hX<|?_
 rintro⟨f,h⟩ i nn;dsimp only[Aku];exact B

abbrev Aad:=en3 Pz Lo Lo
abbrev Alu:=de3 Rp uI uI
noncomputable def Agj:Dw.Spec:=NU [] .val Aad Alu (λa=>Tp a.1 a.2.1 a.2.2) PT noE
theorem AaQ:Ns Tryz.prog 39 Agj:=by
 refine fn2 3 (nK 88 Akv<|nK 89 Ake<|nK 90 AdR<|nK 91 Apj<|Np) Tryz.func39<|?_;rintro⟨k,l,f⟩;unfold Tp;refine Ab 11 λh m=>?_
 refine Ab 19 λa o=>?_
 refine A 8 ?_;refine lP (E:=λ(s:(List Int)×Int×Int) (g:Nat×Nat×Nat×Nat)=>[oI 2 f,oP 6 g.1,oP 8 g.2.1,oI 9 s.2.2,oM 25 a.Slots Oo,oL 26 a.Slots,oI 27 s.2.1]) (O:=λs g=>[(6,dV g.1 3 39 (.agg [Nn 0,Nn 0,.osl 900 g.2.2.1 0 (([]:List Int).length)])),(8,dV g.2.1 3 39 (.agg [Nn h,Nn 0,.osl 901 g.2.2.2 0 s.1.length])),(900,dW g.2.2.1 1 3 (([]:List Int).map Lo)),(901,dW g.2.2.2 1 3 (s.1.map Lo))]) (_,_,_,_) ((Zg (gg:=6) (off:=2) (tt:=900) (s:=1) (tyy:=3) r r r r (Zg (gg:=8) (off:=2) (tt:=901) (s:=1) (tyy:=3) r r r r hX)))<|?_
 rintro⟨c,e,p⟩ ⟨q,t,u,v⟩ nn;dsimp only[Afb];refine Ac 6 ?_ ?_
 ·refine Ab 6 λx z=>?_
  refine Ab 11 λd aa=>?_
  refine A 8 ?_;refine sC (E:=λ(s:Int×Int) (g:Nat×Nat×Nat×Nat)=>[oI 2 f,oP 6 g.1,oP 8 g.2.1,oI 9 s.2,oI 12 d.1,oI 13 s.1,oM 25 a.Slots Oo,oL 26 a.Slots,oI 27 e]) (O:=λ_ g=>[(6,dV g.1 3 39 (.agg [Nn 0,Nn 0,.osl 900 g.2.2.1 0 (([]:List Int).length)])),(8,dV g.2.1 3 39 (.agg [Nn h,Nn 0,.osl 901 g.2.2.2 0 c.length])),(900,dW g.2.2.1 1 3 (([]:List Int).map Lo)),(901,dW g.2.2.2 1 3 (c.map Lo))]) (j:=λs=>XV c d e s.1 s.2) ?_ ?_
  ·exact B
  ·rintro⟨ab,i⟩ ⟨ac,ad,ae,af⟩ nn;dsimp only[XV];refine Ac 7 ?_ ?_
   ·refine A 14 ?_;refine Po (b:=((ND.mk 0 0 ([])),9)) r ?_ r r ?_ (by first|rfl|(simp only[Nv];rfl)|(simp only[Ny];rfl)|(simp only[Nv,Ny];rfl)|(simp[PT,Py];try rfl)) (by decide)
    all_goals first|(simp;done)|(simp;omega)|rfl|(simp[OQ,OJ];done)|(simp[cells];done)
   ·refine A 17 ?_;exact xL (s:=(c++([d.1]:List Int),i64.wrap (e+1),i)) (_,_,_,_) ((WJ (E1:=[oI 2 f,oP 6 _,oP 8 _,oI 9 i,oM 25 a.Slots Oo,oL 26 a.Slots,(27,Nn (i64.wrap (e+1)))]) (O1:=[(6,dV _ 3 39 (.agg [Nn 0,Nn 0,.osl 900 _ 0 (([]:List Int).length)])),(8,dV _ 3 39 (.agg [Nn h,Nn 0,.osl 54 _ 0 ((c++([d.1]:List Int)).length)])),(54,dW _ 1 3 ((c++([d.1]:List Int)).map Lo)),(900,dW _ 1 3 (([]:List Int).map Lo))]) hX (λ_=>PK (λg=>bif Nat.beq g 54 then 901 else g) (by kernel_rfl) hX)))
 ·exact B

abbrev Aiz:=en2 Qa NG
abbrev AsW:=de2 WR RR
theorem Ajw:Ns Tryz.prog 243 (fS .ground Aiz (λa=>OR a.1 a.2) Nr):=by
 refine fn2 2 (nK 244 Acv<|nK 269 AnW<|nK 270 Alr<|nK 1114345 WO<|nK 272 Ahy<|nK 209 Ajg<|nK 273 Api<|nK 274 AnU<|nK 263 AeT<|Np) Tryz.func243<|?_;rintro⟨b,c⟩;unfold OR;refine A 7 ?_;refine sC (E:=λ(_s:Unit) (g:Nat×Nat)=>[oP 2 g.1,oP 3 g.2]) (O:=λ_ g=>[(2,dV g.1 5 200 (Qa b)),(3,dV g.2 5 90 (NG c))]) (j:=λ_=>OH c b) ?_ ?_
 ·exact B
 ·rintro⟨⟩ ⟨f,h⟩ nn;dsimp only[OH];refine Ab 4 λi k=>?_
  refine Ac 3 ?_ ?_
  ·exact B
  ·refine A 2 ?_;refine sC (E:=λ(_s:Unit) (g:Nat×Nat)=>[oP 2 g.1,oP 3 g.2]) (O:=λ_ g=>[(2,dV g.1 5 200 (Qa b)),(3,dV g.2 5 90 (NG c))]) (j:=λ_=>OD c b) ?_ ?_
   ·refine Ab 3 λd l=>?_
    refine A 1 ?_;refine bD λm e=>cG d rfl rfl (show _=some So from by kernel_rfl) OZ.ok rfl rfl (by simp) (by first|rfl|(simp only[Nv];rfl)|(simp only[Ny];rfl)|(simp only[Nv,Ny];rfl)|simp[Pc]) e r<|?_
    exact B
   ·rintro⟨⟩ ⟨o,p⟩ nn;dsimp only[OD];refine sC (E:=λ(_s:Unit) (g:Nat×Nat)=>[oP 2 g.1,oP 3 g.2]) (O:=λ_ g=>[(2,dV g.1 5 200 (Qa b)),(3,dV g.2 5 90 (NG c))]) (j:=λ_=>OE b c) ?_ ?_
    ·exact B
    ·rintro⟨⟩ ⟨q,s⟩ nn;dsimp only[OE];refine Ab 5 λt u=>?_
     refine Ab 14 λv x=>?_
     refine A 9 ?_;refine sC (E:=λ(_s:Unit) (g:Nat×Nat)=>[oP 2 g.1,oP 3 g.2]) (O:=λ_ g=>[(2,dV g.1 5 200 (Qa b)),(3,dV g.2 5 90 (NG c))]) (j:=λ_=>Ot c b) ?_ ?_
     ·exact B
     ·rintro⟨⟩ ⟨z,aa⟩ nn;dsimp only[Ot];exact B

theorem Apn:Ns Tryz.prog 63 (fS .ground Tk (λa=>AbJ a.1 a.2) NH):=by
 refine fn2 2 (Np) Tryz.func63<|?_;rintro⟨b,c⟩;unfold AbJ;refine Ac 15 ?_ ?_
 ·exact B
 ·refine A 9 ?_;refine lP (E:=λ(s:Int) (_g:Unit)=>[oM 0 b Lo,oM 1 c Lo,oI 5 s]) (O:=λ_ _=>[]) () hX<|?_
  rintro d ⟨⟩ nn;dsimp only[VW];exact B

abbrev Alv:=en2 (eL (eL Lo)) (eL (eL Lo))
abbrev Avc:=de2 (uL (uL uI)) (uL (uL uI))
theorem Amu:Ns Tryz.prog 250 (fS .ground Alv (λa=>Yk a.1 a.2) NH):=by
 refine fn2 2 (nK 63 Apn<|Np) Tryz.func250<|?_;rintro⟨b,c⟩;unfold Yk;refine Ac 15 ?_ ?_
 ·exact B
 ·refine A 9 ?_;refine lP (E:=λ(s:Int) (_g:Unit)=>[(0,.sl (b.map (eL Lo))),(1,.sl (c.map (eL Lo))),oI 5 s]) (O:=λ_ _=>[]) () hX<|?_
  rintro d ⟨⟩ nn;dsimp only[TJ];exact B

abbrev Aoe:=en2 Rv Rv
abbrev AxE:=de2 Vh Vh
theorem Apo:Ns Tryz.prog 196 (fS .ground Aoe (λa=>AbL a.1 a.2) NH):=by
 refine fn2 2 (nK 250 Amu<|Np) Tryz.func196<|?_;intro a;unfold AbL;exact B

abbrev Anp:=en4 (eL (eL Lo)) (eL Lo) Lo Lo
abbrev AwV:=de4 (uL (uL uI)) (uL uI) uI uI
theorem Aol:Ns Tryz.prog 199 (fS .ground Anp (λa=>AcZ a.1 a.2.1 a.2.2.1 a.2.2.2) NH):=by
 refine fn2 4 (nK 78 Afk<|nK 116 Xx<|Np) Tryz.func199<|?_;rintro⟨d,f,h,i⟩;unfold AcZ;refine Ab 9 λb k=>?_
 refine Ab 3 λc l=>?_
 refine A 12 ?_;refine lP (E:=λ(s:Int) (g:Nat×Nat)=>[(0,.sl (d.map (eL Lo))),oT 9 g.1 b,oT 10 g.2 c,oI 11 s]) (O:=λ_ g=>[(9,dW g.1 1 3 (b.map Lo)),(10,dW g.2 1 3 (c.map Lo))]) (_,_) hX<|?_
 rintro e ⟨m,o⟩ nn;dsimp only[AhO];refine Ac 9 ?_ ?_
 ·refine A 2 ?_;refine bC (E:=λ(_s:Unit) (g:Nat×Nat)=>[(0,.sl (d.map (eL Lo))),oT 9 g.1 b,oT 10 g.2 c,oI 11 e]) (O:=λ_ g=>[(9,dW g.1 1 3 (b.map Lo)),(10,dW g.2 1 3 (c.map Lo))]) (j:=λ_=>ZJ e) ?_ ?_
  ·refine A 6 ?_;refine lP (E:=λ(s:Int) (g:Nat×Nat)=>[(0,.sl (d.map (eL Lo))),oT 9 g.1 b,oT 10 g.2 c,oI 11 e,oI 12 s]) (O:=λ_ g=>[(9,dW g.1 1 3 (b.map Lo)),(10,dW g.2 1 3 (c.map Lo))]) (_,_) hX<|?_
   rintro p ⟨q,r⟩ nn;dsimp only[AhP];exact B
  ·rintro⟨⟩ ⟨t,u⟩ nn;dsimp only[ZJ];exact B
 ·exact B

abbrev AlB:=en2 Xo (eL Lo)
abbrev Avg:=de2 ZR (uL uI)
theorem AmA:Ns Tryz.prog 79 (fS (.row 1 3) AlB (λa=>Yp a.1 a.2) Ow):=by
 refine fn2 2 (Np) Tryz.func79<|?_;rintro⟨b,c⟩;unfold Yp;refine A 18 ?_;refine lP (E:=λ(s:(List Int)×Int) (g:Nat×Nat)=>[oM 1 c Lo,oP 2 g.1,oT 5 g.2 s.1,oI 6 s.2]) (O:=λs g=>[(2,dV g.1 2 48 (.agg [.sl (b.To.map Lo),.sl (b.Keep.map D.bool)])),(5,dW g.2 1 3 (s.1.map Lo))]) (_,_) hX<|?_
 rintro⟨e,d⟩ ⟨f,h⟩ nn;dsimp only[Afl];refine Ac 10 ?_ ?_
 ·refine A 2 ?_;refine bC (E:=λ(s:(List Int)) (g:Nat×Nat)=>[oM 1 c Lo,oP 2 g.1,oT 5 g.2 s,oI 6 d]) (O:=λs g=>[(2,dV g.1 2 48 (.agg [.sl (b.To.map Lo),.sl (b.Keep.map D.bool)])),(5,dW g.2 1 3 (s.map Lo))]) (j:=λs=>XY d s) ?_ ?_
  ·refine A 12 ?_;refine lP (E:=λ(s:Int×Int) (g:Nat×Nat)=>[oM 1 c Lo,oP 2 g.1,oT 5 g.2 e,oI 6 d,oI 7 s.1,oI 8 s.2]) (O:=λ_ g=>[(2,dV g.1 2 48 (.agg [.sl (b.To.map Lo),.sl (b.Keep.map D.bool)])),(5,dW g.2 1 3 (e.map Lo))]) (_,_) hX<|?_
   rintro⟨i,k⟩ ⟨l,m⟩ nn;dsimp only[Afm];exact B
  ·rintro o ⟨p,q⟩ nn;dsimp only[XY];exact B
 ·exact B

theorem Anq:Ns Tryz.prog 80 (fS (.row 1 3) AdH (λa=>AbP a) Ow):=by
 refine fn2 1 (Np) Tryz.func80<|?_;intro b;unfold AbP;refine A 23 ?_;refine lP (E:=λ(s:(List Int)×Int×Int) (g:Nat×Nat)=>[oP 1 g.1,oT 3 g.2 s.1,oI 4 s.2.1,oI 5 s.2.2]) (O:=λs g=>[(1,dV g.1 2 48 (.agg [.sl (b.To.map Lo),.sl (b.Keep.map D.bool)])),(3,dW g.2 1 3 (s.1.map Lo))]) (_,_) hX<|?_
 rintro⟨c,d,k4⟩ ⟨e,f⟩ nn;dsimp only[Agm];exact B

theorem AdV:Ns Tryz.prog 82 (fS .ground UO (λa=>TX a.1 a.2) Nr):=by
 refine fn2 2 (Np) Tryz.func82<|?_;rintro⟨c,h⟩;unfold TX;refine Ab 16 λd i=>?_
 refine A 13 ?_;refine lP (E:=λ(s:Int×Int) (g:Nat)=>[oP 2 g,oI 5 s.1,oM 6 d.Code NG,oI 7 s.2]) (O:=λ_ g=>[(2,dV g 1 28 (.agg [.sl (c.Funcs.map Nz)]))]) _ hX<|?_
 rintro⟨b,k5⟩ j nn;dsimp only[AiW];refine Ac 9 ?_ ?_
 ·refine Ab 8 λk l=>?_
  refine Ac 12 ?_ ?_
  ·refine Ab 4 λe m=>?_
   refine A 15 ?_;exact xL (s:=(OM b (i64.wrap (e.A+1)),i64.wrap (k5+1))) _ hX
  ·refine Ac 6 ?_ ?_
   ·refine Ab 6 λo p=>?_
    refine Ab 3 λf q=>?_
    refine A 14 ?_;exact xL (s:=(OM b f.Params,i64.wrap (k5+1))) _ hX
   ·refine A 9 ?_;exact xL (s:=(b,i64.wrap (k5+1))) _ hX
 ·exact B

theorem AhD:Ns Tryz.prog 32 (fS .ground Wc (λa=>Sk a) Nr):=by
 refine fn2 1 (nK 75 Aoa<|Np) Tryz.func32<|?_;intro b;unfold Sk;refine A 18 ?_;refine lP (E:=λ(s:Int×Int) (g:Nat)=>[oP 1 g,oI 3 s.1,oI 4 s.2]) (O:=λ_ g=>[(1,dV g 1 28 (.agg [.sl (b.Funcs.map Nz)]))]) _ hX<|?_
 rintro⟨c,d⟩ e nn;dsimp only[AcE];exact B

abbrev AmD:=en4 Pz Lo Lo (eL Lo)
abbrev Awo:=de4 Rp uI uI (uL uI)
theorem Ant:Ns Tryz.prog 139 (fS .val AmD (λa=>Zq a.1 a.2.1 a.2.2.1 a.2.2.2) PT):=by
 refine fn2 4 (nK 204 AcC<|nK 82 AdV<|nK 205 AqJ<|nK 83 AgS<|Np) Tryz.func139<|?_;rintro⟨d,e,f,c⟩;unfold Zq;refine Ab 12 λh k=>?_
 refine Ac 16 ?_ ?_
 ·refine A 9 ?_;refine Po (b:=((ND.mk 0 0 ([])),13)) r ?_ r r ?_ (by first|rfl|(simp only[Nv];rfl)|(simp only[Ny];rfl)|(simp only[Nv,Ny];rfl)|(simp[PT,Py];try rfl)) (by decide)
  all_goals first|(simp;done)|(simp;omega)|rfl|(simp[OQ,OJ];done)|(simp[cells];done)
 ·refine A 9 ?_;refine lP (E:=λ(s:Int) (g:Nat×Nat)=>[oI 1 e,oI 2 f,oM 3 c Lo,oP 4 g.1,oP 8 g.2,oM 10 h.Slots Oo,oI 11 s]) (O:=λ_ g=>[(4,dV g.1 1 28 (.agg [.sl (d.Funcs.map Nz)])),(8,dV g.2 3 39 (.agg [Nn 0,Nn 0,.nils]))]) (_,_) hX<|?_
  rintro k6 ⟨l,m⟩ nn;dsimp only[Agq];refine Ac 9 ?_ ?_
  ·refine Ab 8 λo p=>?_
   refine Ab 4 λq t=>?_
   refine Ab 4 λu v=>?_
   refine Ac 4 ?_ ?_
   ·refine A 13 ?_;refine Po (b:=((ND.mk 0 0 ([])),13)) r ?_ r r ?_ (by first|rfl|(simp only[Nv];rfl)|(simp only[Ny];rfl)|(simp only[Nv,Ny];rfl)|(simp[PT,Py];try rfl)) (by decide)
    all_goals first|(simp;done)|(simp;omega)|rfl|(simp[OQ,OJ];done)|(simp[cells];done)
   ·exact B
  ·refine Ab 9 λi x=>?_
   refine Ab 9 λz aa=>?_
   refine Ab 3 λj ab=>?_
   refine A 14 ?_;refine RL r ?_ ?_
   ·refine A 15 ?_;refine Po (b:=((ND.mk 0 0 ([])),9)) r ?_ r r ?_ (by first|rfl|(simp only[Nv];rfl)|(simp only[Ny];rfl)|(simp only[Nv,Ny];rfl)|(simp[PT,Py];try rfl)) (by decide)
    all_goals first|(simp;done)|(simp;omega)|rfl|(simp[OQ,OJ];done)|(simp[cells];done)
   ·refine Ac 5 ?_ ?_
    ·refine A 9 ?_;refine Po (b:=((ND.mk 0 0 ([])),9)) r ?_ r r ?_ (by first|rfl|(simp only[Nv];rfl)|(simp only[Ny];rfl)|(simp only[Nv,Ny];rfl)|(simp[PT,Py];try rfl)) (by decide)
     all_goals first|(simp;done)|(simp;omega)|rfl|(simp[OQ,OJ];done)|(simp[cells];done)
    ·refine A 7 ?_;refine cK λhq=>aP (([]:List Int)) (c) Lo r r r r r r r (by simp) r r r (by simp) r (λ_=>r) r hq<|?_
     refine A 6 ?_;refine Po (b:=((ND.mk i j.1 (([]:List Int)++c)),0)) r ?_ r r ?_ (by first|rfl|(simp only[Nv];rfl)|(simp only[Ny];rfl)|(simp only[Nv,Ny];rfl)|(simp[PT,Py];try rfl)) (by decide)
     all_goals first|(simp;done)|(simp;omega)|rfl|(simp[OQ,OJ];done)|(simp[cells];done)

theorem Alx:Ns Tryz.prog 187 (fS .ground Ajd (λa=>Oe a.1 a.2.1 a.2.2) NH):=by
 refine fn2 3 (nK 247 Aly<|nK 120 AbK<|Np) Tryz.func187<|?_;rintro⟨c,d,b⟩;unfold Oe;refine A 16 ?_;refine sC (E:=λ(s:Bool) (g:Nat×Nat×Nat)=>[oP 3 g.1,oP 4 g.2.1,oP 5 g.2.2,oI 8 b.Op,oB 9 s]) (O:=λ_ g=>[(3,dV g.1 1 28 (.agg [.sl (c.Funcs.map Nz)])),(4,dV g.2.1 3 36 (Nz d)),(5,dV g.2.2 5 90 (NG b))]) (j:=λs=>NT b d c s) ?_ ?_
 ·exact B
 ·rintro e ⟨f,h,i⟩ nn;dsimp only[NT];refine cD r ?_ ?_
  ·exact B
  ·refine sC (E:=λ(s:Bool) (g:Nat×Nat×Nat)=>[oP 3 g.1,oP 4 g.2.1,oP 5 g.2.2,oI 8 b.Op,oB 16 s]) (O:=λ_ g=>[(3,dV g.1 1 28 (.agg [.sl (c.Funcs.map Nz)])),(4,dV g.2.1 3 36 (Nz d)),(5,dV g.2.2 5 90 (NG b))]) (j:=λs=>NV b d c s) ?_ ?_
   ·exact B
   ·rintro k ⟨l,m,o⟩ nn;dsimp only[NV];refine cD r ?_ ?_
    ·exact B
    ·refine sC (E:=λ(s:Bool) (g:Nat×Nat×Nat)=>[oP 3 g.1,oP 4 g.2.1,oP 5 g.2.2,oI 8 b.Op,oB 27 s]) (O:=λ_ g=>[(3,dV g.1 1 28 (.agg [.sl (c.Funcs.map Nz)])),(4,dV g.2.1 3 36 (Nz d)),(5,dV g.2.2 5 90 (NG b))]) (j:=λs=>NJ b d c s) ?_ ?_
     ·exact B
     ·rintro p ⟨q,t,u⟩ nn;dsimp only[NJ];exact B

def Atd (b:(List (List Int))):D:=.sl (b.map (eL Lo))
theorem ArB:Ns Tryz.prog 25 (fS (.row 1 37) Wc (λa=>Afn a) Atd):=by
 refine fn2 1 (nK 67 Zn<|Np) Tryz.func25<|?_;intro b;unfold Afn;refine A 11 ?_;refine cK λhq=>Ade (α:=Int) r r r hq r<|?_
 refine A 2 ?_;refine Qc (E:=[oP 1 _,(3,.osl 3 _ 0 ((aA (b.Funcs.length:Int).toNat ([]:(List Int))).length))]) (O:=[(1,dV _ 1 28 (.agg [.sl (b.Funcs.map Nz)])),(3,dW _ 1 37 ((aA (b.Funcs.length:Int).toNat ([]:(List Int))).map (eL Lo)))]) ((Age (g:=3) r (AiA (l:=aA (b.Funcs.length:Int).toNat ([]:(List Int))) Lo (λ_ h=>List.eq_of_mem_replicate h)) hX)) λnn=>?_
 refine A 7 ?_;refine lP (E:=λ(s:(List (List Int))×Int) (g:Nat×Nat)=>[oP 1 g.1,oT 3 g.2 s.1,oI 4 s.2]) (O:=λs g=>[(1,dV g.1 1 28 (.agg [.sl (b.Funcs.map Nz)])),(3,dW g.2 1 37 (s.1.map (eL Lo)))]) (_,_) hX<|?_
 rintro⟨k,c⟩ ⟨m,o⟩ nn;dsimp only[AlQ];refine Ac 10 ?_ ?_
 ·refine A 2 ?_;refine bC (E:=λ(s:(List (List Int))) (g:Nat×Nat)=>[oP 1 g.1,oT 3 g.2 s,oI 4 c]) (O:=λs g=>[(1,dV g.1 1 28 (.agg [.sl (b.Funcs.map Nz)])),(3,dW g.2 1 37 (s.map (eL Lo)))]) (j:=λs=>Adb c s) ?_ ?_
  ·refine Ab 5 λd p=>?_
   refine A 12 ?_;refine lP (E:=λ(s:(List (List Int))×Int) (g:Nat×Nat)=>[oP 1 g.1,oT 3 g.2 s.1,oI 4 c,oM 5 d.Code NG,oI 6 s.2]) (O:=λs g=>[(1,dV g.1 1 28 (.agg [.sl (b.Funcs.map Nz)])),(3,dW g.2 1 37 (s.1.map (eL Lo)))]) (_,_) hX<|?_
   rintro⟨e,q⟩ ⟨t,u⟩ nn;dsimp only[AlR];refine Ac 9 ?_ ?_
   ·refine Ab 8 λv x=>?_
    refine Ac 6 ?_ ?_
    ·refine Ab 6 λz aa=>?_
     refine Ab 3 λab ac=>?_
     refine Ab 3 λf ad=>?_
     refine A 2 ?_;refine bD λae i=>sE (l:=e) (en:=(eL Lo)) (q':=f) r r r r r r r (by simp) i r r r (by simp[Ps,cells,eL]) r<|?_
     exact B
    ·exact B
   ·exact B
  ·rintro af ⟨ag,ah⟩ nn;dsimp only[Adb];exact B
 ·exact B

end Go.Proofs.YtcaoepecbgggcaaGreatDoor
