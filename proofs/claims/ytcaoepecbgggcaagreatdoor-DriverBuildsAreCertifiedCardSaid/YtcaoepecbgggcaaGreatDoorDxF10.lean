/-
 The code does what its typed programs say.
-/
import Derived.Test.YtcaoepecbgggcaaGreatDoorDxF7
import Derived.Test.YtcaoepecbgggcaaGreatDoorDxF8
namespace Go.Proofs.YtcaoepecbgggcaaGreatDoor
open Go Go.Dw Go.Proofs
open Go.IntKind (i64)
set_option maxRecDepth 100000
set_option maxHeartbeats 40000000
open Go.Dw renaming OO -> bD,Qk -> cK,AfN -> cV,Abq -> aP,Vf -> sE,Qs -> cD,Rp -> xC,PY -> xL,QS -> lP,PQ -> sC,Adc -> mF,rf -> r
noncomputable def Ahl:Dw.Spec:=NO [] .ground Yq Aju (λa=>SF a) Nq noE
theorem AfI:Nr Tryz.prog 38 Ahl:=by
 refine fn2 1 (nK 87 Anl<|Np) Tryz.func38<|?_;intro a;unfold SF;refine A 21 ?_;refine lP (E:=λ(s:Int×Int) (_g:Unit)=>[oI 3 s.1,oM 7 a.Funcs Nz,oL 8 a.Funcs,oI 9 s.2]) (O:=λ_ _=>[]) () hX<|?_
 rintro⟨b,c⟩ ⟨⟩ nn;dsimp only[AkU];exact B

abbrev Aez:=en3 PJ Av Av
abbrev AlI:=de3 Rr uI uI
noncomputable def Agz:Dw.Spec:=NO [] .val Aez AlI (λa=>Tn a.1 a.2.1 a.2.2) PT noE
theorem AaW:Nr Tryz.prog 39 Agz:=by
 refine fn2 3 (nK 88 AkO<|nK 89 Aky<|nK 90 Aeg<|nK 91 ApG<|Np) Tryz.func39<|?_;rintro⟨k,l,f⟩;unfold Tn;refine Ab 11 λh m=>?_
 refine Ab 19 λa o=>?_
 refine A 8 ?_;refine lP (E:=λ(s:(List Int)×Int×Int) (g:Nat×Nat×Nat×Nat)=>[oI 2 f,oP 6 g.1,oP 8 g.2.1,oI 9 s.2.2,oM 25 a.Slots On,oL 26 a.Slots,oI 27 s.2.1]) (O:=λs g=>[(6,dV g.1 3 39 (.agg [Nm 0,Nm 0,.osl 900 g.2.2.1 0 (([]:List Int).length)])),(8,dV g.2.1 3 39 (.agg [Nm h,Nm 0,.osl 901 g.2.2.2 0 s.1.length])),(900,dW g.2.2.1 1 3 (([]:List Int).map Av)),(901,dW g.2.2.2 1 3 (s.1.map Av))]) (_,_,_,_) ((Zg (gg:=6) (off:=2) (tt:=900) (s:=1) (tyy:=3) r r r r (Zg (gg:=8) (off:=2) (tt:=901) (s:=1) (tyy:=3) r r r r hX)))<|?_
 rintro⟨c,e,p⟩ ⟨q,t,u,v⟩ nn;dsimp only[Afp];refine Ac 6 ?_ ?_
 ·refine Ab 6 λx z=>?_
  refine Ab 11 λd aa=>?_
  refine A 8 ?_;refine sC (E:=λ(s:Int×Int) (g:Nat×Nat×Nat×Nat)=>[oI 2 f,oP 6 g.1,oP 8 g.2.1,oI 9 s.2,oI 12 d.1,oI 13 s.1,oM 25 a.Slots On,oL 26 a.Slots,oI 27 e]) (O:=λ_ g=>[(6,dV g.1 3 39 (.agg [Nm 0,Nm 0,.osl 900 g.2.2.1 0 (([]:List Int).length)])),(8,dV g.2.1 3 39 (.agg [Nm h,Nm 0,.osl 901 g.2.2.2 0 c.length])),(900,dW g.2.2.1 1 3 (([]:List Int).map Av)),(901,dW g.2.2.2 1 3 (c.map Av))]) (j:=λs=>XT c d e s.1 s.2) ?_ ?_
  ·exact B
  ·rintro⟨ab,i⟩ ⟨ac,ad,ae,af⟩ nn;dsimp only[XT];refine Ac 7 ?_ ?_
   ·refine A 14 ?_;refine Po (b:=((NC.mk 0 0 ([])),9)) r ?_ r r ?_ (by first|rfl|(simp only[Nu];rfl)|(simp only[Nx];rfl)|(simp only[Nu,Nx];rfl)|(simp[PT,Pv];try rfl)) (by decide)
    all_goals first|(simp;done)|(simp;omega)|rfl|(simp[OQ,OH];done)|(simp[cells];done)
   ·refine A 17 ?_;exact xL (s:=(c++([d.1]:List Int),i64.wrap (e+1),i)) (_,_,_,_) ((XQ (E1:=[oI 2 f,oP 6 _,oP 8 _,oI 9 i,oM 25 a.Slots On,oL 26 a.Slots,(27,Nm (i64.wrap (e+1)))]) (O1:=[(6,dV _ 3 39 (.agg [Nm 0,Nm 0,.osl 900 _ 0 (([]:List Int).length)])),(8,dV _ 3 39 (.agg [Nm h,Nm 0,.osl 54 _ 0 ((c++([d.1]:List Int)).length)])),(54,dW _ 1 3 ((c++([d.1]:List Int)).map Av)),(900,dW _ 1 3 (([]:List Int).map Av))]) hX (λ_=>PR (λg=>bif Nat.beq g 54 then 901 else g) (by kernel_rfl) hX)))
 ·exact B

def WY (b:Int×Int×Bool):D:=.tup [Nm b.1,Nm b.2.1,.bool b.2.2]
theorem AkG:Nr Tryz.prog 154 (fS .ground PX (λa=>YO a.1 a.2) WY):=by
 refine fn2 2 (nK 153 Acu<|nK 214 AlF<|nK 3624939733 Zj<|Np) Tryz.func154<|?_;rintro⟨b,c⟩;unfold YO;refine A 8 ?_;refine Qd (E:=[oP 2 _,(3,.fptr (.agg [.sl (c.Out.map (eL Av))]) 0)]) (O:=[(2,dV _ 3 36 (Nz b))]) ((hV 3 r (hY))) λnn=>?_
 refine Ab 5 λh i=>?_
 refine Ac 4 ?_ ?_
 ·exact B
 ·refine A 12 ?_;refine lP (E:=λ(s:Int) (g:Nat)=>[oP 2 g,(3,.fptr (.agg [.sl (c.Out.map (eL Av))]) 0),oL 15 b.Code,oI 16 s]) (O:=λ_ g=>[(2,dV g 3 36 (Nz b))]) _ hX<|?_
  rintro d j nn;dsimp only[AdT];refine Ac 6 ?_ ?_
  ·refine A 10 ?_;refine Qd (E:=[oP 2 _,(3,.fptr (.agg [.sl (c.Out.map (eL Av))]) 0),(7,.fptr (Nm d) 0),oL 15 b.Code,oI 16 d]) (O:=[(2,dV _ 3 36 (Nz b))]) ((hV 7 r (hY))) λnn=>?_
   refine Ab 10 λe k=>?_
   refine A 1 ?_;refine mF (caps:=[.optr 8 _ 0 0,.fptr (.agg [.sl (c.Out.map (eL Av))]) 0,.fptr (Nm d) 0]) r r (by simp[SE])<|bD λl f=>cV (b,d,e,[],c,d) rfl rfl (show _=some Uv from by kernel_rfl) OW.ok rfl rfl (by simp) (by first|rfl|(simp only[Nu];rfl)|(simp only[Nx];rfl)|(simp only[Nu,Nx];rfl)|simp[Qo,Nz,Rx,Rx]) f<|?_
   exact B
  ·exact B

abbrev Ams:=en1 (eL NG)
abbrev AvO:=de1 (uL RD)
theorem Anj:Nr Tryz.prog 85 (fS (.row 5 90) Ams (λa=>AbK a) Aip):=by
 refine fn2 1 (Np) Tryz.func85<|?_;intro j;unfold AbK;refine A 19 ?_;refine lP (E:=λ(s:(List Lo)×Int) (g:Nat)=>[oT 3 g s.1,oI 4 s.2]) (O:=λs g=>[(3,dW g 5 90 (s.1.map NG))]) _ hX<|?_
 rintro⟨d,k3⟩ k nn;dsimp only[Agn];refine Ac 9 ?_ ?_
 ·refine Ab 10 λm o=>?_
  refine Ac 10 ?_ ?_
  ·refine Ab 5 λe p=>?_
   refine A 4 ?_;refine bD λb f=>sE (l:=d) (en:=NG) (q':=(Lo.mk b.Op (i64.wrap (e.A+1)) b.B b.C b.Imm)) r r r r r r r (by simp) f r r r r r<|?_
   exact B
  ·refine Ac 6 ?_ ?_
   ·refine Ab 5 λh q=>?_
    refine A 4 ?_;refine bD λc i=>sE (l:=d) (en:=NG) (q':=(Lo.mk c.Op c.A (i64.wrap (h.B+1)) c.C c.Imm)) r r r r r r r (by simp) i r r r r r<|?_
    exact B
   ·exact B
 ·exact B

theorem Aia:Nr Tryz.prog 165 (fS .ground PX (λa=>AaB a.1 a.2) NF):=by
 refine fn2 2 (nK 226 AcM<|Np) Tryz.func165<|?_;rintro⟨b,c⟩;unfold AaB;refine Ac 19 ?_ ?_
 ·exact B
 ·refine A 9 ?_;refine lP (E:=λ(s:Int) (g:Nat×Nat)=>[oP 2 g.1,oP 3 g.2,oI 5 s]) (O:=λ_ g=>[(2,dV g.1 3 36 (Nz b)),(3,dV g.2 1 45 (.agg [.sl (c.Out.map (eL Av))]))]) (_,_) hX<|?_
  rintro k3 ⟨d,e⟩ nn;dsimp only[AhZ];refine Ac 10 ?_ ?_
  ·refine Ab 10 λf h=>?_
   refine Ab 2 λi j=>?_
   refine Ac 4 ?_ ?_
   ·exact B
   ·refine Ab 7 λk l=>?_
    refine A 11 ?_;refine QO r ?_ ?_
    ·refine Ab 3 λm o=>?_
     refine Ab 4 λp q=>?_
     refine Ac 9 ?_ ?_
     ·exact B
     ·refine A 8 ?_;exact xL (s:=i64.wrap (k3+1)) (_,_) hX
    ·refine A 25 ?_;exact xL (s:=i64.wrap (k3+1)) (_,_) hX
  ·exact B

abbrev AeA:=en3 Nz Rx Av
abbrev Avp:=de3 Rh Vb uI
theorem AmI:Nr Tryz.prog 225 (fS (.row 1 3) AeA (λa=>Yl a.1 a.2.1 a.2.2) Oj):=by
 refine fn2 3 (nK 248 Ajp<|nK 249 Ama<|nK 183 Aou<|nK 124 ZH<|Np) Tryz.func225<|?_;rintro⟨c,d,k3⟩;unfold Yl;refine Ab 16 λb e=>?_
 refine A 11 ?_;refine lP (E:=λ(s:(List Int)×Int) (g:Nat×Nat×Nat×Nat)=>[oI 2 k3,oP 3 g.1,oP 4 g.2.1,oT 7 g.2.2.1 s.1,oT 8 g.2.2.2 b,oI 9 s.2]) (O:=λs g=>[(3,dV g.1 3 36 (Nz c)),(4,dV g.2.1 1 45 (.agg [.sl (d.Out.map (eL Av))])),(7,dW g.2.2.1 1 3 (s.1.map Av)),(8,dW g.2.2.2 1 3 (b.map Av))]) (_,_,_,_) hX<|?_
 rintro⟨f,h⟩ ⟨i,j,k,l⟩ nn;dsimp only[VB];exact B

theorem ApO:Nr Tryz.prog 200 (fS .ground AeA (λa=>AbZ a.1 a.2.1 a.2.2) NF):=by
 refine fn2 3 (nK 143 XV<|nK 116 Zp<|Np) Tryz.func200<|?_;intro a;unfold AbZ;exact B

abbrev AoH:=en3 Nz Rx (eL Av)
abbrev AxS:=de3 Rh Vb (uL uI)
def Arc (b:(List Bool)):D:=.sl (b.map D.bool)
theorem ApN:Nr Tryz.prog 136 (fS (.row 1 4) AoH (λa=>AbY a.1 a.2.1 a.2.2) Arc):=by
 refine fn2 3 (nK 200 ApO<|Np) Tryz.func136<|?_;rintro⟨b,c,d⟩;unfold AbY;refine A 19 ?_;refine lP (E:=λ(s:(List Bool)×Int) (g:Nat×Nat×Nat)=>[oM 2 d Av,oP 3 g.1,oP 4 g.2.1,oT 7 g.2.2 s.1,oI 8 s.2]) (O:=λs g=>[(3,dV g.1 3 36 (Nz b)),(4,dV g.2.1 1 45 (.agg [.sl (c.Out.map (eL Av))])),(7,dW g.2.2 1 4 (s.1.map D.bool))]) (_,_,_) hX<|?_
 rintro⟨e,k5⟩ ⟨f,h,i⟩ nn;dsimp only[Ajr];exact B

theorem AhU:Nr Tryz.prog 32 (fS .ground Yq (λa=>Sm a) Nq):=by
 refine fn2 1 (nK 75 Aos<|Np) Tryz.func32<|?_;intro b;unfold Sm;refine A 18 ?_;refine lP (E:=λ(s:Int×Int) (g:Nat)=>[oP 1 g,oI 3 s.1,oI 4 s.2]) (O:=λ_ g=>[(1,dV g 1 28 (.agg [.sl (b.Funcs.map Nz)]))]) _ hX<|?_
 rintro⟨c,d⟩ e nn;dsimp only[AcN];exact B

abbrev AmO:=en4 PJ Av Av (eL Av)
abbrev Awx:=de4 Rr uI uI (uL uI)
theorem AnK:Nr Tryz.prog 139 (fS .val AmO (λa=>Zq a.1 a.2.1 a.2.2.1 a.2.2.2) PT):=by
 refine fn2 4 (nK 204 ZG<|nK 82 Aek<|nK 205 Ard<|nK 83 Ahk<|Np) Tryz.func139<|?_;rintro⟨d,e,f,c⟩;unfold Zq;refine Ab 12 λh k=>?_
 refine Ac 16 ?_ ?_
 ·refine A 9 ?_;refine Po (b:=((NC.mk 0 0 ([])),13)) r ?_ r r ?_ (by first|rfl|(simp only[Nu];rfl)|(simp only[Nx];rfl)|(simp only[Nu,Nx];rfl)|(simp[PT,Pv];try rfl)) (by decide)
  all_goals first|(simp;done)|(simp;omega)|rfl|(simp[OQ,OH];done)|(simp[cells];done)
 ·refine A 9 ?_;refine lP (E:=λ(s:Int) (g:Nat×Nat)=>[oI 1 e,oI 2 f,oM 3 c Av,oP 4 g.1,oP 8 g.2,oM 10 h.Slots On,oI 11 s]) (O:=λ_ g=>[(4,dV g.1 1 28 (.agg [.sl (d.Funcs.map Nz)])),(8,dV g.2 3 39 (.agg [Nm 0,Nm 0,.nils]))]) (_,_) hX<|?_
  rintro k6 ⟨l,m⟩ nn;dsimp only[AgI];refine Ac 9 ?_ ?_
  ·refine Ab 8 λo p=>?_
   refine Ab 4 λq t=>?_
   refine Ab 4 λu v=>?_
   refine Ac 4 ?_ ?_
   ·refine A 13 ?_;refine Po (b:=((NC.mk 0 0 ([])),13)) r ?_ r r ?_ (by first|rfl|(simp only[Nu];rfl)|(simp only[Nx];rfl)|(simp only[Nu,Nx];rfl)|(simp[PT,Pv];try rfl)) (by decide)
    all_goals first|(simp;done)|(simp;omega)|rfl|(simp[OQ,OH];done)|(simp[cells];done)
   ·exact B
  ·refine Ab 9 λi x=>?_
   refine Ab 9 λz aa=>?_
   refine Ab 3 λj ab=>?_
   refine A 14 ?_;refine QO r ?_ ?_
   ·refine A 15 ?_;refine Po (b:=((NC.mk 0 0 ([])),9)) r ?_ r r ?_ (by first|rfl|(simp only[Nu];rfl)|(simp only[Nx];rfl)|(simp only[Nu,Nx];rfl)|(simp[PT,Pv];try rfl)) (by decide)
    all_goals first|(simp;done)|(simp;omega)|rfl|(simp[OQ,OH];done)|(simp[cells];done)
   ·refine Ac 5 ?_ ?_
    ·refine A 9 ?_;refine Po (b:=((NC.mk 0 0 ([])),9)) r ?_ r r ?_ (by first|rfl|(simp only[Nu];rfl)|(simp only[Nx];rfl)|(simp only[Nu,Nx];rfl)|(simp[PT,Pv];try rfl)) (by decide)
     all_goals first|(simp;done)|(simp;omega)|rfl|(simp[OQ,OH];done)|(simp[cells];done)
    ·refine A 7 ?_;refine cK λhq=>aP (([]:List Int)) (c) Av r r r r r r r (by simp) r r r (by simp) r (λ_=>r) r hq<|?_
     refine A 6 ?_;refine Po (b:=((NC.mk i j.1 (([]:List Int)++c)),0)) r ?_ r r ?_ (by first|rfl|(simp only[Nu];rfl)|(simp only[Nx];rfl)|(simp only[Nu,Nx];rfl)|(simp[PT,Pv];try rfl)) (by decide)
     all_goals first|(simp;done)|(simp;omega)|rfl|(simp[OQ,OH];done)|(simp[cells];done)

end Go.Proofs.YtcaoepecbgggcaaGreatDoor
