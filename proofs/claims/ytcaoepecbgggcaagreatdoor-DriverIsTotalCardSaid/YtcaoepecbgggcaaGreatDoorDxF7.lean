/-
 The code does what its typed programs say.
-/
import Derived.Test.YtcaoepecbgggcaaGreatDoorDg5
import Derived.Test.YtcaoepecbgggcaaGreatDoorDxF5
import Derived.Test.YtcaoepecbgggcaaGreatDoorDxF6
open List renaming replicate->aA,eq_of_mem_replicate->aAA
namespace Go.Proofs.YtcaoepecbgggcaaGreatDoor
open Go Go.Dw Go.Proofs
open Go.IntKind (i64)
set_option maxRecDepth 100000
set_option maxHeartbeats 40000000
open Go.Dw renaming QN -> bD,QW -> cK,Ya -> bS,AcM -> aP,WQ -> sE,Yz -> iO,Vs -> cD,YA -> xC,UF -> xL,Zf -> hE,XG -> lP,Vg -> sC,SG -> bC,AhY -> mF,rf -> r
theorem Zi:Ns Tryz.prog 92 (fS .ground PW (λa=>Ut a.1 a.2) Nr):=by
 refine fn2 2 (nK 153 Aci<|nK 154 Akm<|Np) Tryz.func92<|?_;intro a;unfold Ut;exact B

abbrev Abi:=en3 Nz Rv Xo
abbrev Asg:=de3 Re Vh ZR
noncomputable def AgW:Dw.Spec:=Zl (specs []) 3 [(.t 6)] AsF
theorem AfP:Ns Tryz.prog 157 AgW:=UC (Np) Tryz.func157 (by decide) Axe Axf (by decide)
theorem AiJ:Ns Tryz.prog 94 (fS .ground Abi (λa=>Xc a.1 a.2.1 a.2.2) Xa):=by
 refine fn2 3 (nK 92 Zi<|nK 93 AaW<|nK 157 AfP<|nK 218 AaX<|Np) Tryz.func94<|?_;rintro⟨e,f,b⟩;unfold Xc;refine A 10 ?_;refine sC (E:=λ(_s:Unit) (g:Nat×Nat×Nat)=>[oP 3 g.1,oP 4 g.2.1,oP 5 g.2.2]) (O:=λ_ g=>[(3,dV g.1 3 36 (Nz e)),(4,dV g.2.1 1 45 (.agg [.sl (f.Out.map (eL Lo))])),(5,dV g.2.2 2 48 (.agg [.sl (b.To.map Lo),.sl (b.Keep.map D.bool)]))]) (j:=λ_=>Yc e b f) ?_ ?_
 ·exact B
 ·rintro⟨⟩ ⟨i,k,l⟩ nn;dsimp only[Yc];refine A 5 ?_;refine TQ (E:=λ(g:Nat)=>[(3,.optr 1003 g 0 0),(23,Nz e),(24,.agg [.sl (f.Out.map (eL Lo))]),(25,.agg [.sl (b.To.map Lo),.sl (b.Keep.map D.bool)])]) (O:=λg=>[(1003,dV g 3 36 (Nz e))]) _ ((PK (λg=>bif Nat.ble 4096 g then g+20000 else g+1000) (by kernel_rfl) hX))<|?_
  rintro h nn
  try dsimp only
  refine Afv (ds:=[Nz e,.agg [.sl (f.Out.map (eL Lo))],.agg [.sl (b.To.map Lo),.sl (b.Keep.map D.bool)]]) (caps:=[]) (E:=[(0,Nz e),(1,.agg [.sl (f.Out.map (eL Lo))]),(2,.agg [.sl (b.To.map Lo),.sl (b.Keep.map D.bool)])]) r r r r r r r r<|Xb (c:=AsF)<|?_;refine A 7 ?_;refine Qc (E:=[(3,.fptr (Nz e) 0),(4,.fptr (.agg [.sl (f.Out.map (eL Lo))]) 0),(5,.fptr (.agg [.sl (b.To.map Lo),.sl (b.Keep.map D.bool)]) 0)]) (O:=[(1003,dV h 3 36 (Nz e))]) ((hV 3 r (hV 4 r (hV 5 r (hY))))) λnn=>?_
  refine A 2 ?_;refine mF (caps:=[.fptr (Nz e) 0,.fptr (.agg [.sl (b.To.map Lo),.sl (b.Keep.map D.bool)]) 0,.fptr (.agg [.sl (f.Out.map (eL Lo))]) 0]) r r (by simp[SE])<|?_
  refine A 4 ?_;refine AcP (d:=.clo 218 [.fptr (Nz e) 0,.fptr (.agg [.sl (b.To.map Lo),.sl (b.Keep.map D.bool)]) 0,.fptr (.agg [.sl (f.Out.map (eL Lo))]) 0]) (E:=[oP 3 _,(26,.clo 218 [.fptr (Nz e) 0,.fptr (.agg [.sl (b.To.map Lo),.sl (b.Keep.map D.bool)]) 0,.fptr (.agg [.sl (f.Out.map (eL Lo))]) 0])]) (O:=[(3,dV _ 3 36 (Nz e))]) r (by first|rfl|(simp[Oc,Oi,rdA,raw,strip,On,cells,Oj];done)|(simp[Oc,Oi,rdA,raw,strip,On,S.ge,S.go,look,SM,cells,Oj];done)) r ((PV [] hX (by kernel_rfl) (λ_=>hX))) λnn=>?_
  refine A 13 ?_;refine lP (E:=λ(s:Int) (_g:Unit)=>[(9,.clo 218 [.fptr (Nz e) 0,.fptr (.agg [.sl (b.To.map Lo),.sl (b.Keep.map D.bool)]) 0,.fptr (.agg [.sl (f.Out.map (eL Lo))]) 0]),oL 29 e.Code,oI 30 s]) (O:=λ_ _=>[]) () hX<|?_
  rintro m ⟨⟩ nn;dsimp only[AbX];exact B

theorem AlF:Ns Tryz.prog 40 (fS .ground Abi (λa=>XH a.1 a.2.1 a.2.2) Nr):=by
 refine fn2 3 (nK 92 Zi<|nK 93 AaW<|nK 94 AiJ<|Np) Tryz.func40<|?_;intro a;unfold XH;exact B

abbrev AeY:=en1 Qf
abbrev Aqw:=de1 Ti
theorem AfH:Ns Tryz.prog 162 (fS .ground AeY (λa=>Tc a) Nr):=by
 refine fn2 1 (nK 39 AaQ<|nK 88 Akv<|nK 222 AeX<|Np) Tryz.func162<|?_;intro b;unfold Tc;refine Ab 14 λc d=>?_
 refine Ac 16 ?_ ?_
 ·exact B
 ·refine A 2 ?_;refine sC (E:=λ(_s:Unit) (g:Nat×Nat)=>[oP 1 g.1,oP 3 g.2]) (O:=λ_ g=>[(1,dV g.1 9 144 (Qf b)),(3,dV g.2 3 39 (Py c.1))]) (j:=λ_=>VR b c) ?_ ?_
  ·exact B
  ·rintro⟨⟩ ⟨e,h⟩ nn;dsimp only[VR];refine A 11 ?_;refine lP (E:=λ(s:Int) (g:Nat×Nat)=>[oP 1 g.1,oP 3 g.2,oL 42 b.f.Slots,oI 43 s]) (O:=λ_ g=>[(1,dV g.1 9 144 (Qf b)),(3,dV g.2 3 39 (Py c.1))]) (_,_) hX<|?_
   rintro i ⟨k,l⟩ nn;dsimp only[ZW];exact B

abbrev Zh:=en2 Qf Rv
abbrev Aqv:=de2 Ti Vh
theorem AfG:Ns Tryz.prog 101 (fS .ground Zh (λa=>UW a.1 a.2) Nr):=by
 refine fn2 2 (nK 162 AfH<|nK 92 Zi<|Np) Tryz.func101<|?_;intro a;unfold UW;exact B

theorem AfF:Ns Tryz.prog 102 (fS .ground Zh (λa=>UU a.1 a.2) Xa):=by
 refine fn2 2 (nK 163 AfE<|Np) Tryz.func102<|?_;rintro⟨b,c⟩;unfold UU;refine A 20 ?_;refine lP (E:=λ(s:Int) (g:Nat×Nat)=>[oP 2 g.1,oP 3 g.2,oL 13 b.f.Code,oI 14 s]) (O:=λ_ g=>[(2,dV g.1 9 144 (Qf b)),(3,dV g.2 1 45 (.agg [.sl (c.Out.map (eL Lo))]))]) (_,_) hX<|?_
 rintro d ⟨e,h⟩ nn;dsimp only[ZV];exact B

abbrev Amk:=en5 Pz Lo Lo Rv Py
abbrev AvT:=de5 Rp uI uI Vh AcQ
theorem Ane:Ns Tryz.prog 42 (fS .ground Amk (λa=>Xt a.1 a.2.1 a.2.2.1 a.2.2.2.1 a.2.2.2.2) Nr):=by
 refine fn2 5 (nK 101 AfG<|nK 102 AfF<|Np) Tryz.func42<|?_;intro a;unfold Xt;exact B

abbrev Alk:=en3 Pz Lo Oh
abbrev Alj:=de3 Rp uI AdK
def AfZ (b:Nm×ND×Int×Int):D:=.tup [Nz b.1,Py b.2.1,Nn b.2.2.1,Nn b.2.2.2]
noncomputable def Aga:Dw.Spec:=NU [] .val Alk Alj (λa=>RG a.1 a.2.1 a.2.2) AfZ noE
theorem Amh:Ns Tryz.prog 12 Aga:=by
 refine fn2 3 (nK 38 Aft<|nK 39 AaQ<|nK 40 AlF<|nK 41 AmE<|nK 43 Afa<|nK 42 Ane<|Np) Tryz.func12<|?_;rintro⟨c,d,e⟩;unfold RG;refine Ab 13 λf k=>?_
 refine Ab 9 λa l=>?_
 refine Ac 16 ?_ ?_
 ·refine A 13 ?_;refine Po (b:=((Nm.mk 0 ([]) ([])),(ND.mk 0 0 ([])),0,a.2)) r ?_ r r ?_ (by first|rfl|(simp only[Nv];rfl)|(simp only[Ny];rfl)|(simp only[Nv,Ny];rfl)|(simp[AfZ,Nz,Py];try rfl)) (by decide)
  all_goals first|(simp;done)|(simp;omega)|rfl|(simp[OQ,OJ];done)|(simp[cells];done)
 ·refine Ab 7 λh m=>?_
  refine A 6 ?_;refine sC (E:=λ(_s:Unit) (g:Nat×Nat×Nat×Nat×Nat×Nat)=>[oI 1 d,oP 3 g.1,oP 5 g.2.1,oP 6 g.2.2.1,oP 7 g.2.2.2.1,oI 10 f,oP 11 g.2.2.2.2.1,oP 13 g.2.2.2.2.2]) (O:=λ_ g=>[(3,dV g.1 1 28 (.agg [.sl (c.Funcs.map Nz)])),(5,dV g.2.1 7 50 (Oh e)),(6,dV g.2.2.1 3 36 (.agg [Nn 0,.nils,.nils])),(7,dV g.2.2.2.1 3 39 (.agg [Nn 0,Nn 0,.nils])),(11,dV g.2.2.2.2.1 3 39 (Py a.1)),(13,dV g.2.2.2.2.2 3 36 (Nz h))]) (j:=λ_=>TD c d f e h a) ?_ ?_
  ·refine Ab 7 λo p=>?_
   refine Ac 4 ?_ ?_
   ·refine Ab 5 λi q=>?_
    refine A 9 ?_;refine sC (E:=λ(s:Bool) (g:Nat×Nat×Nat×Nat×Nat×Nat×Nat)=>[oI 1 d,oP 3 g.1,oP 5 g.2.1,oP 6 g.2.2.1,oP 7 g.2.2.2.1,oI 10 f,oP 11 g.2.2.2.2.1,oP 13 g.2.2.2.2.2.1,oP 14 g.2.2.2.2.2.2,oB 72 s]) (O:=λ_ g=>[(3,dV g.1 1 28 (.agg [.sl (c.Funcs.map Nz)])),(5,dV g.2.1 7 50 (Oh e)),(6,dV g.2.2.1 3 36 (.agg [Nn 0,.nils,.nils])),(7,dV g.2.2.2.1 3 39 (.agg [Nn 0,Nn 0,.nils])),(11,dV g.2.2.2.2.1 3 39 (Py a.1)),(13,dV g.2.2.2.2.2.1 3 36 (Nz h)),(14,dV g.2.2.2.2.2.2 3 36 (Nz i.1))]) (j:=λs=>Sq i e c d f h a s) ?_ ?_
    ·exact B
    ·rintro t ⟨u,v,x,z,aa,ab,ac⟩ nn;dsimp only[Sq];exact B
   ·exact B
  ·rintro⟨⟩ ⟨ad,ae,af,ag,ah,ai⟩ nn;dsimp only[TD];exact B

noncomputable def Aca:Dw.Spec:=NU [] .ground VO AfA (λa=>UJ a.1 a.2.1 a.2.2) Nr noE
theorem Aii:Ns Tryz.prog 114 Aca:=by
 refine fn2 3 (nK 178 Aan<|nK 179 Asr<|Np) Tryz.func114<|?_;intro a;unfold UJ;exact B

abbrev Agl:=en1 Nz
abbrev AwS:=de1 Re
theorem AhE:Ns Tryz.prog 133 (fS .val Agl (λa=>Yw a) Afg):=by
 refine fn2 1 (nK 195 Apq<|nK 196 Apo<|Np) Tryz.func133<|?_;intro b;unfold Yw;refine A 11 ?_;refine cK λhq=>Ade (α:=Int) r r r hq r<|?_
 refine A 4 ?_;refine Qc (E:=[oP 1 _,oP 2 _,oP 3 _]) (O:=[(1,dV _ 3 36 (Nz b)),(2,dV _ 1 45 (.agg [.nils])),(3,dV _ 1 45 (.agg [.osl 8 _ 0 ((aA (b.Code.length:Int).toNat ([]:(List Int))).length)])),(8,dW _ 1 37 ((aA (b.Code.length:Int).toNat ([]:(List Int))).map (eL Lo)))]) ((Age (g:=8) r (AiA (l:=aA (b.Code.length:Int).toNat ([]:(List Int))) Lo (λ_ h=>aAA h)) hX)) λnn=>?_
 refine A 1 ?_;refine lP (E:=λ(_s:(List (List Int))) (g:Nat×Nat×Nat)=>[oP 1 g.1,oP 2 g.2.1,oP 3 g.2.2]) (O:=λs g=>[(1,dV g.1 3 36 (Nz b)),(2,dV g.2.1 1 45 (.agg [.nils])),(3,dV g.2.2 1 45 (.agg [.sl (s.map (eL Lo))]))]) (_,_,_) ((WI [(8,some (_,⟨true,false,1,37,(aA (b.Code.length:Int).toNat ([]:(List Int))).map (eL Lo)⟩))] ⟨⟨_,_,r,r,r⟩,trivial⟩ ⟨(Og r),(Og r),(Og r),trivial⟩ ⟨(.inl r),(.inl r),(.inr ⟨_,_,_,_,r,r,r,r,Vu r ⟨(Wg (l:=aA (b.Code.length:Int).toNat ([]:(List Int))) (en:=(eL Lo)) r r r (by first|(simp;done)|rfl|(simp;rfl))),trivial⟩⟩),trivial⟩))<|?_
 rintro c ⟨d,e,f⟩ nn;dsimp only[AcG];exact B

theorem Aog:Ns Tryz.prog 164 (fS .ground PW (λa=>AcV a.1 a.2) Xa):=by
 refine fn2 2 (nK 165 AhH<|nK 225 Amx<|Np) Tryz.func164<|?_;rintro⟨b,c⟩;unfold AcV;refine Ab 14 λd e=>?_
 refine Ac 4 ?_ ?_
 ·exact B
 ·refine A 9 ?_;refine lP (E:=λ(s:Int) (g:Nat×Nat)=>[oP 2 g.1,oP 3 g.2,oI 7 s]) (O:=λ_ g=>[(2,dV g.1 3 36 (Nz b)),(3,dV g.2 1 45 (.agg [.sl (c.Out.map (eL Lo))]))]) (_,_) hX<|?_
  rintro k4 ⟨f,h⟩ nn;dsimp only[AhF];exact B

theorem Aof:Ns Tryz.prog 104 (fS .ground PW (λa=>AcU a.1 a.2) Nr):=by
 refine fn2 2 (nK 164 Aog<|nK 165 AhH<|Np) Tryz.func104<|?_;intro a;unfold AcU;exact B

abbrev Ano:=en3 Nz Rv D.bool
abbrev AwU:=de3 Re Vh uBo
def AdT (b:(List (List Int))×Int):D:=.tup [.sl (b.1.map (eL Lo)),Nn b.2]
theorem AhL:Ns Tryz.prog 197 (fS .val Ano (λa=>Aax a.1 a.2.1 a.2.2) AdT):=by
 refine fn2 3 (nK 104 Aof<|nK 143 XW<|nK 67 Zn<|Np) Tryz.func197<|?_;rintro⟨d,e,c⟩;unfold Aax;refine Ab 13 λv x=>?_
 refine Ac 10 ?_ ?_
 ·exact B
 ·refine A 7 ?_;refine cK λhq=>Ade (α:=Int) r r r hq r<|?_
  refine A 2 ?_;refine Qc (E:=[oB 2 c,oP 3 _,oP 4 _,(9,.osl 9 _ 0 ((aA (d.Slots.length:Int).toNat ([]:(List Int))).length))]) (O:=[(3,dV _ 3 36 (Nz d)),(4,dV _ 1 45 (.agg [.sl (e.Out.map (eL Lo))])),(9,dW _ 1 37 ((aA (d.Slots.length:Int).toNat ([]:(List Int))).map (eL Lo)))]) ((Age (g:=9) r (AiA (l:=aA (d.Slots.length:Int).toNat ([]:(List Int))) Lo (λ_ h=>aAA h)) hX)) λnn=>?_
  refine A 7 ?_;refine lP (E:=λ(s:(List (List Int))×Int) (g:Nat×Nat×Nat)=>[oB 2 c,oP 3 g.1,oP 4 g.2.1,oT 9 g.2.2 s.1,oI 10 s.2]) (O:=λs g=>[(3,dV g.1 3 36 (Nz d)),(4,dV g.2.1 1 45 (.agg [.sl (e.Out.map (eL Lo))])),(9,dW g.2.2 1 37 (s.1.map (eL Lo)))]) (_,_,_) hX<|?_
  rintro⟨m,k6⟩ ⟨z,aa,ab⟩ nn;dsimp only[AhK];refine Ac 10 ?_ ?_
  ·refine A 2 ?_;refine bC (E:=λ(s:Int×Int×Int×Int×Int×(List (List Int))) (g:Nat×Nat×Nat)=>[oB 2 c,oP 3 g.1,oP 4 g.2.1,oT 9 g.2.2 s.2.2.2.2.2,oI 10 k6]) (O:=λs g=>[(3,dV g.1 3 36 (Nz d)),(4,dV g.2.1 1 45 (.agg [.sl (e.Out.map (eL Lo))])),(9,dW g.2.2 1 37 (s.2.2.2.2.2.map (eL Lo)))]) (j:=λs=>TK k6 s.1 s.2.1 s.2.2.1 s.2.2.2.1 s.2.2.2.2.1 s.2.2.2.2.2) ?_ ?_
   ·refine Ab 5 λi ac=>?_
    refine Ab 9 λb ad=>?_
    refine A 8 ?_;refine sC (E:=λ(_s:Unit) (g:Nat×Nat×Nat×Nat)=>[oB 2 c,oP 3 g.1,oP 4 g.2.1,oT 9 g.2.2.1 m,oI 10 k6,oP 11 g.2.2.2,oI 12 b.1,oB 13 b.2]) (O:=λ_ g=>[(3,dV g.1 3 36 (Nz d)),(4,dV g.2.1 1 45 (.agg [.sl (e.Out.map (eL Lo))])),(9,dW g.2.2.1 1 37 (m.map (eL Lo))),(11,dV g.2.2.2 5 90 (NG i))]) (j:=λ_=>XD e k6 b c i m) ?_ ?_
    ·exact B
    ·rintro⟨⟩ ⟨ae,af,ag,ah⟩ nn;dsimp only[XD];refine A 6 ?_;refine lP (E:=λ(s:(List (List Int))×Int) (g:Nat×Nat×Nat×Nat)=>[oB 2 c,oP 3 g.1,oP 4 g.2.1,oT 9 g.2.2.1 s.1,oI 10 k6,oP 11 g.2.2.2,oI 12 b.1,oB 13 b.2,oI 14 s.2]) (O:=λs g=>[(3,dV g.1 3 36 (Nz d)),(4,dV g.2.1 1 45 (.agg [.sl (e.Out.map (eL Lo))])),(9,dW g.2.2.1 1 37 (s.1.map (eL Lo))),(11,dV g.2.2.2 5 90 (NG i))]) (_,_,_,_) hX<|?_
     rintro⟨f,k⟩ ⟨ai,aj,ak,ao⟩ nn;dsimp only[ZH];refine sC (E:=λ(_s:Unit) (g:Nat×Nat×Nat×Nat)=>[oB 2 c,oP 3 g.1,oP 4 g.2.1,oT 9 g.2.2.1 f,oI 10 k6,oP 11 g.2.2.2,oI 12 b.1,oB 13 b.2,oI 14 k,oB 62 b.2]) (O:=λ_ g=>[(3,dV g.1 3 36 (Nz d)),(4,dV g.2.1 1 45 (.agg [.sl (e.Out.map (eL Lo))])),(9,dW g.2.2.1 1 37 (f.map (eL Lo))),(11,dV g.2.2.2 5 90 (NG i))]) (j:=λ_=>ZI e k6 k b f c i) ?_ ?_
     ·exact B
     ·rintro⟨⟩ ⟨ap,aq,ar,au⟩ nn;dsimp only[ZI];refine Ab 7 λav aw=>?_
      refine Ab 3 λo ax=>?_
      refine A 5 ?_;refine sC (E:=λ(s:Bool×Bool×Bool×Bool) (g:Nat×Nat×Nat×Nat)=>[oB 2 c,oP 3 g.1,oP 4 g.2.1,oT 9 g.2.2.1 f,oI 10 k6,oP 11 g.2.2.2,oI 12 b.1,oB 13 b.2,oI 14 k,oI 15 o,oB 62 b.2,oB 78 c,(79,.bool (!c)),oB 80 s.1,oB 84 s.2.1,oB 85 s.2.2.1,oB 90 s.2.2.2]) (O:=λ_ g=>[(3,dV g.1 3 36 (Nz d)),(4,dV g.2.1 1 45 (.agg [.sl (e.Out.map (eL Lo))])),(9,dW g.2.2.1 1 37 (f.map (eL Lo))),(11,dV g.2.2.2 5 90 (NG i))]) (j:=λs=>SD b f o k s.1 s.2.1 s.2.2.1 s.2.2.2) ?_ ?_
      ·exact B
      ·rintro⟨ay,az,ba,bb⟩ ⟨bc,bd,bf,bg⟩ nn;dsimp only[SD];refine Ab 8 λbh bi=>?_
       refine Ab 2 λp bj=>?_
       refine Ab 4 λbk bl=>?_
       refine Ab 2 λq bm=>?_
       refine A 2 ?_;refine bD λbn t=>sE (l:=f) (en:=(eL Lo)) (q':=p) r r r r r r r (by simp) t r r r (by simp[Ps,cells,eL]) r<|?_
       refine A 1 ?_;refine bD λbo u=>sE (l:=f.set b.1.toNat p) (en:=(eL Lo)) (q':=q) r r r r r r r (by simp) u r r r (by simp[Ps,cells,eL]) r<|?_
       exact B
   ·rintro⟨x7,x8,x9,bs,bt,bu⟩ ⟨bv,bw,bx⟩ nn;dsimp only[TK];exact B
  ·exact B

theorem Aoi:Ns Tryz.prog 134 (fS .val PW (λa=>AcX a.1 a.2) AdT):=by
 refine fn2 2 (nK 197 AhL<|Np) Tryz.func134<|?_;intro a;unfold AcX;exact B

def Apr (b:(List PH)):D:=.sl (b.map TE)
theorem Aoj:Ns Tryz.prog 198 (fS (.row 2 190) Agl (λa=>Aaw a) Apr):=by
 refine fn2 1 (Np) Tryz.func198<|?_;intro d;unfold Aaw;refine A 18 ?_;refine lP (E:=λ(s:(List PH)×Int) (g:Nat×Nat)=>[oP 1 g.1,oT 3 g.2 s.1,oI 4 s.2]) (O:=λs g=>[(1,dV g.1 3 36 (Nz d)),(3,dW g.2 2 190 (s.1.map TE))]) (_,_) hX<|?_
 rintro⟨c,k3⟩ ⟨e,f⟩ nn;dsimp only[AcJ];refine Ac 10 ?_ ?_
 ·refine A 2 ?_;refine bC (E:=λ(s:(List PH)) (g:Nat×Nat)=>[oP 1 g.1,oT 3 g.2 s,oI 4 k3]) (O:=λs g=>[(1,dV g.1 3 36 (Nz d)),(3,dW g.2 2 190 (s.map TE))]) (j:=λs=>XB k3 s) ?_ ?_
  ·refine Ab 5 λb h=>?_
   refine A 17 ?_;refine sC (E:=λ(s:Bool) (g:Nat×Nat×Nat)=>[oP 1 g.1,oT 3 g.2.1 c,oI 4 k3,oP 6 g.2.2,oB 7 s]) (O:=λ_ g=>[(1,dV g.1 3 36 (Nz d)),(3,dW g.2.1 2 190 (c.map TE)),(6,dV g.2.2 2 190 (.agg [Nn b.A,Nn b.B]))]) (j:=λs=>XC c b k3 s) ?_ ?_
   ·exact B
   ·rintro i ⟨k,l,m⟩ nn;dsimp only[XC];refine A 7 ?_;refine lP (E:=λ(s:Bool×Int) (g:Nat×Nat×Nat)=>[oP 1 g.1,oT 3 g.2.1 c,oI 4 k3,oP 6 g.2.2,oB 7 s.1,oI 8 s.2]) (O:=λ_ g=>[(1,dV g.1 3 36 (Nz d)),(3,dW g.2.1 2 190 (c.map TE)),(6,dV g.2.2 2 190 (.agg [Nn b.A,Nn b.B]))]) (_,_,_) hX<|?_
    rintro⟨o,p⟩ ⟨q,t,u⟩ nn;dsimp only[AhJ];refine Ac 9 ?_ ?_
    ·exact B
    ·refine Ac 11 ?_ ?_
     ·refine A 3 ?_;refine bS ([(PH.mk b.A b.B)]:List PH) TE r r r (by simp) r r r<|?_
      exact B
     ·exact B
  ·rintro v ⟨x,z⟩ nn;dsimp only[XB];exact B
 ·exact B

abbrev AlA:=en2 Nz (eL (eL Lo))
abbrev Avf:=de2 Re (uL (uL uI))
theorem Amy:Ns Tryz.prog 135 (fS (.row 1 3) AlA (λa=>VY a.1 a.2) Ow):=by
 refine fn2 2 (nK 198 Aoj<|nK 199 Aol<|Np) Tryz.func135<|?_;rintro⟨o,c⟩;unfold VY;refine A 18 ?_;refine lP (E:=λ(s:(List Int)×Int) (g:Nat×Nat)=>[(1,.sl (c.map (eL Lo))),oP 2 g.1,oT 5 g.2 s.1,oI 6 s.2]) (O:=λs g=>[(2,dV g.1 3 36 (Nz o)),(5,dW g.2 1 3 (s.1.map Lo))]) (_,_) hX<|?_
 rintro⟨q,t⟩ ⟨u,v⟩ nn;dsimp only[Afi];refine Ac 10 ?_ ?_
 ·exact B
 ·refine Ab 8 λb x=>?_
  refine A 11 ?_;refine lP (E:=λ(s:(List Int)×Int) (g:Nat×Nat)=>[(1,.sl (c.map (eL Lo))),oT 5 g.1 s.1,oT 7 g.2 b,oI 8 s.2]) (O:=λs g=>[(5,dW g.1 1 3 (s.1.map Lo)),(7,dW g.2 2 190 (b.map TE))]) (_,_) hX<|?_
  rintro⟨i,f⟩ ⟨z,aa⟩ nn;dsimp only[AaR];refine Ac 9 ?_ ?_
  ·refine A 2 ?_;refine bC (E:=λ(s:(List Int)) (g:Nat×Nat)=>[(1,.sl (c.map (eL Lo))),oT 5 g.1 s,oT 7 g.2 b,oI 8 f]) (O:=λs g=>[(5,dW g.1 1 3 (s.map Lo)),(7,dW g.2 2 190 (b.map TE))]) (j:=λs=>RC f s) ?_ ?_
   ·refine A 6 ?_;refine QA r r r (by decide)<|bD λab ac=>?_
    refine Ab 2 λe ad=>?_
    refine A 5 ?_;refine QA r r r (by decide)<|bD λae af=>?_
    refine Ab 2 λd ag=>?_
    refine A 5 ?_;refine sC (E:=λ(s:Bool×Bool) (g:Nat×Nat)=>[(1,.sl (c.map (eL Lo))),oT 5 g.1 i,oT 7 g.2 b,oI 8 f,oI 9 e,oI 10 d,(51,.sl (c.map (eL Lo))),oS 52 5 g.1 i,oI 53 e,oI 54 d,oB 55 s.1,oB 56 s.2]) (O:=λ_ g=>[(5,dW g.1 1 3 (i.map Lo)),(7,dW g.2 2 190 (b.map TE))]) (j:=λs=>XX e d f i s.1 s.2) ?_ ?_
    ·exact B
    ·rintro⟨l,m⟩ ⟨ah,ai⟩ nn;dsimp only[XX];refine A 6 ?_;refine lP (E:=λ(s:(List Int)×Int) (g:Nat×Nat)=>[(1,.sl (c.map (eL Lo))),oT 5 g.1 s.1,oT 7 g.2 b,oI 8 f,oI 9 e,oI 10 d,oI 11 s.2,(51,.sl (c.map (eL Lo))),oS 52 5 g.1 s.1,oI 53 e,oI 54 d,oB 55 l,oB 56 m]) (O:=λs g=>[(5,dW g.1 1 3 (s.1.map Lo)),(7,dW g.2 2 190 (b.map TE))]) (_,_) hX<|?_
     rintro⟨h,k⟩ ⟨aj,ak⟩ nn;dsimp only[AaS];refine Ac 9 ?_ ?_
     ·refine A 4 ?_;refine sC (E:=λ(s:Bool) (g:Nat×Nat)=>[(1,.sl (c.map (eL Lo))),oT 5 g.1 h,oT 7 g.2 b,oI 8 f,oI 9 e,oI 10 d,oI 11 k,(51,.sl (c.map (eL Lo))),oS 52 5 g.1 h,oI 53 e,oI 54 d,oB 55 l,oB 56 m,oB 77 s]) (O:=λ_ g=>[(5,dW g.1 1 3 (h.map Lo)),(7,dW g.2 2 190 (b.map TE))]) (j:=λs=>TL k h e d s) ?_ ?_
      ·refine Ab 4 λao ap=>?_
       refine A 4 ?_;refine RL r ?_ ?_
       ·refine A 8 ?_;exact xC (s:=true) (_,_) hX
       ·refine Ab 3 λp aq=>?_
        refine A 5 ?_;exact xC (s:=(p==d)) (_,_) hX
      ·rintro ar ⟨au,av⟩ nn;dsimp only[TL];refine cD r ?_ ?_
       ·exact B
       ·refine A 8 ?_;exact xL (s:=(h,i64.wrap (k+1))) (_,_) hX
     ·exact B
   ·rintro aw ⟨ax,ay⟩ nn;dsimp only[RC];exact B
  ·exact B

theorem Ann:Ns Tryz.prog 137 (fS .val PW (λa=>Afh a.1 a.2) AdT):=by
 refine fn2 2 (nK 197 AhL<|Np) Tryz.func137<|?_;intro a;unfold Afh;exact B

abbrev Ajl:=en2 Om Nz
abbrev Ajk:=de2 Rn Re
def WZ (b:NS×Mk):D:=Rv b.1
def AkZ (b:NS×Mk):List D:=[Om b.2]
theorem AjO:Ns Tryz.prog 145 (NU [(0,(2,114))] .val Ajl Ajk (λa=>Wh a.1 a.2) WZ AkZ):=by
 refine fn2 2 (nK 133 AhE<|nK 22 OB<|nK 67 Zn<|nK 206 Agk<|nK 47 WY<|Np) Tryz.func145<|?_;rintro⟨c1,c⟩;unfold Wh;refine Ab 9 λr3 ai=>?_
 refine Ab 9 λr4 ak=>?_
 refine Ac 4 ?_ ?_
 ·exact B
 ·refine A 6 ?_;refine cK λhq=>aP (([]:List (List Int))) (r3.Out) (eL Lo) r r r r r r r (by simp) r r r (by simp) r (λ_=>r) r hq<|?_
  refine A 5 ?_;refine sC (E:=λ(_s:(List Int)×Int×(List (List Int))) (g:Nat×Nat×Nat)=>[(0,.optr 8192 0 0 0),oP 4 g.1,oP 6 g.2.1]) (O:=λs g=>[(4,dV g.1 1 45 (.agg [.nils])),(6,dV g.2.1 1 45 (.agg [.osl 19 g.2.2 0 s.2.2.length])),(19,dW g.2.2 1 37 (s.2.2.map (eL Lo))),(8192,dV 0 2 114 (.agg [.sl (s.1.map eU8),Nn s.2.1]))]) (j:=λs=>Ud s.1 s.2.1 s.2.2) ?_ ?_
  ·refine Ab 3 λao ap=>?_
   refine A 5 ?_;refine lP (E:=λ(s:(List Int)×Int×(List (List Int))×Int) (g:Nat×Nat×Nat×Nat)=>[(0,.optr 8192 0 0 0),oP 3 g.1,oP 4 g.2.1,oP 6 g.2.2.1,oI 7 s.2.2.2]) (O:=λs g=>[(3,dV g.1 3 36 (Nz c)),(4,dV g.2.1 1 45 (.agg [.nils])),(6,dV g.2.2.1 1 45 (.agg [.osl 19 g.2.2.2 0 s.2.2.1.length])),(19,dW g.2.2.2 1 37 (s.2.2.1.map (eL Lo))),(8192,dV 0 2 114 (.agg [.sl (s.1.map eU8),Nn s.2.1]))]) (_,_,_,_) hX<|?_
   rintro⟨o,p,d,f⟩ ⟨aq,ar,au,av⟩ nn;dsimp only[Adq];refine sC (E:=λ(_s:Unit) (g:Nat×Nat×Nat×Nat)=>[(0,.optr 8192 0 0 0),oP 3 g.1,oP 4 g.2.1,oP 6 g.2.2.1,oI 7 f,(26,.optr 3 g.1 0 1),oM 27 c.Slots Oo,oL 28 c.Slots,(29,.bool (decide ((c.Slots.length:Int)>0)))]) (O:=λ_ g=>[(3,dV g.1 3 36 (Nz c)),(4,dV g.2.1 1 45 (.agg [.nils])),(6,dV g.2.2.1 1 45 (.agg [.osl 19 g.2.2.2 0 d.length])),(19,dW g.2.2.2 1 37 (d.map (eL Lo))),(8192,dV 0 2 114 (.agg [.sl (o.map eU8),Nn p]))]) (j:=λ_=>YZ o p c f d) ?_ ?_
   ·exact B
   ·rintro⟨⟩ ⟨aw,ax,ay,az⟩ nn;dsimp only[YZ];refine bC (E:=λ(_s:(List Int)×Int×(List (List Int))) (g:Nat×Nat×Nat×Nat)=>[(0,.optr 8192 0 0 0),oP 3 g.1,oP 4 g.2.1,oP 6 g.2.2.1,oI 7 f,(26,.optr 3 g.1 0 1),oM 27 c.Slots Oo,oL 28 c.Slots,(29,.bool (decide ((c.Slots.length:Int)>0)))]) (O:=λs g=>[(3,dV g.1 3 36 (Nz c)),(4,dV g.2.1 1 45 (.agg [.nils])),(6,dV g.2.2.1 1 45 (.agg [.osl 19 g.2.2.2 0 s.2.2.length])),(19,dW g.2.2.2 1 37 (s.2.2.map (eL Lo))),(8192,dV 0 2 114 (.agg [.sl (s.1.map eU8),Nn s.2.1]))]) (j:=λs=>Sy f s.1 s.2.1 s.2.2) ?_ ?_
    ·refine Ab 6 λac ba=>?_
     refine Ab 8 λq bb=>?_
     refine Ac 4 ?_ ?_
     ·refine A 7 ?_;refine lP (E:=λ(s:(List (List Int))×Int) (g:Nat×Nat×Nat×Nat)=>[(0,.optr 8192 0 0 0),oP 3 g.1,oP 4 g.2.1,oP 6 g.2.2.1,oI 7 f,oI 8 ac.1,oI 9 s.2,(26,.optr 3 g.1 0 1),oM 27 c.Slots Oo,oL 28 c.Slots,(29,.bool (decide ((c.Slots.length:Int)>0)))]) (O:=λs g=>[(3,dV g.1 3 36 (Nz c)),(4,dV g.2.1 1 45 (.agg [.nils])),(6,dV g.2.2.1 1 45 (.agg [.osl 19 g.2.2.2 0 s.1.length])),(19,dW g.2.2.2 1 37 (s.1.map (eL Lo))),(8192,dV 0 2 114 (.agg [.sl (q.2.list.map eU8),Nn q.2.at_]))]) (_,_,_,_) hX<|?_
      rintro⟨k,t⟩ ⟨bc,bd,bf,bg⟩ nn;dsimp only[Adr];refine Ac 10 ?_ ?_
      ·refine Ab 12 λbh bi=>?_
       refine Ab 2 λu bj=>?_
       refine A 2 ?_;refine bD λbk ad=>sE (l:=k) (en:=(eL Lo)) (q':=u) r r r r r r r (by simp) ad r r r (by simp[Ps,cells,eL]) r<|?_
       refine A 8 ?_;exact xL (s:=(k.set t.toNat u,i64.wrap (t+1))) (_,_,_,_) ((hE ⟨rfl,r,r,r,r,r,r,r,r,r,r,trivial⟩ ⟨rfl,r,(Eq.trans (b:=dV _ 1 45 (.agg [.osl 19 _ 0 k.length])) r (by simp)),r,r,trivial⟩))
      ·exact B
     ·refine Ab 8 λv bl=>?_
      refine Ab 7 λh bm=>?_
      refine Ac 4 ?_ ?_
      ·refine Ab 8 λbn bo=>?_
       refine Ab 2 λx bp=>?_
       refine A 2 ?_;refine bD λbq ae=>sE (l:=d) (en:=(eL Lo)) (q':=x) r r r r r r r (by simp) ae r r r (by simp[Ps,cells,eL]) r<|?_
       refine A 1 ?_;exact Uz (s:=(h.2.list,h.2.at_,d.set v.1.toNat x)) (_,_,_,_) ((hE ⟨rfl,r,r,r,r,r,r,r,r,trivial⟩ ⟨rfl,r,(Eq.trans (b:=dV _ 1 45 (.agg [.osl 19 _ 0 d.length])) r (by simp)),r,r,trivial⟩))
      ·refine Ab 8 λbr bs=>?_
       refine Ab 2 λz bt=>?_
       refine A 2 ?_;refine bD λbu af=>sE (l:=d) (en:=(eL Lo)) (q':=z) r r r r r r r (by simp) af r r r (by simp[Ps,cells,eL]) r<|?_
       refine A 1 ?_;exact Uz (s:=(h.2.list,h.2.at_,d.set v.1.toNat z)) (_,_,_,_) ((hE ⟨rfl,r,r,r,r,r,r,r,r,trivial⟩ ⟨rfl,r,(Eq.trans (b:=dV _ 1 45 (.agg [.osl 19 _ 0 d.length])) r (by simp)),r,r,trivial⟩))
    ·rintro⟨bv,bw,bx⟩ ⟨bz,ca,cb,cc⟩ nn;dsimp only[Sy];exact B
  ·rintro⟨c5,c6,e⟩ ⟨ce,cf,ch⟩ nn;dsimp only[Ud];refine Ab 4 λr8 ci=>?_
   refine Ac 10 ?_ ?_
   ·refine A 3 ?_;refine cK λhq=>AcO (l:=e) r r r r r r hq<|?_
    refine A 12 ?_;refine TN (b:=((NS.mk (e.drop ((1:Int).toNat))),r8.2)) r ?_ r r ?_ (by first|rfl|(simp only;rfl)|(simp only[Ny];rfl)|(simp only[Nv,Ny];rfl)|(simp[WZ,Rv];try rfl))
    all_goals first|(simp;done)|(simp;omega)|rfl|(simp[OQ,OJ];done)|(simp[cells];done)
   ·refine Ac 6 ?_ ?_
    ·refine Ab 4 λm cj=>?_
     refine Ab 2 λi ck=>?_
     refine A 1 ?_;refine bS ([m.1,i.1]:List Int) Lo r r r (by simp) r r r<|cK λhq=>iO (l:=e) (en:=(eL Lo)) r r r r r hq<|bD λcl ag=>sE (l:=e) (en:=(eL Lo)) (q':=([m.1,i.1]:List Int)) r r r r r r r (by simp) ag r r r (by simp[Ps,cells,eL]) r<|?_
     refine A 10 ?_;refine TN (b:=((NS.mk (e.set ((0:Int).toNat) ([m.1,i.1]:List Int))),i.2)) r ?_ r r ?_ (by first|rfl|(simp only;rfl)|(simp only;rfl)|(simp only;rfl)|(simp[WZ,Rv];try rfl))
     all_goals first|(simp;done)|(simp;omega)|rfl|(simp[OQ,OJ];done)|(simp[cells];done)
    ·refine A 10 ?_;refine TN (b:=((NS.mk e),r8.2)) r ?_ r r ?_ (by first|rfl|(simp only[Nv];rfl)|(simp only[Ny];rfl)|(simp only[Nv,Ny];rfl)|(simp[WZ,Rv];try rfl))
     all_goals first|(simp;done)|(simp;omega)|rfl|(simp[OQ,OJ];done)|(simp[cells];done)

theorem AlC:Ns Tryz.prog 34 (fS .val Aad (λa=>Vr a.1 a.2.1 a.2.2) PT):=by
 refine fn2 3 (nK 82 AdV<|nK 83 AgS<|Np) Tryz.func34<|?_;rintro⟨m,o,i⟩;unfold Vr;refine Ab 11 λh p=>?_
 refine Ab 18 λe q=>?_
 refine A 13 ?_;refine lP (E:=λ(s:(List Int)×Int×Int) (g:Nat×Nat×Nat×Nat)=>[oI 2 i,oP 6 g.1,oP 8 g.2.1,oI 9 s.2.2,oM 10 e.Slots Oo,oI 11 s.2.1]) (O:=λs g=>[(6,dV g.1 3 39 (.agg [Nn 0,Nn 0,.osl 900 g.2.2.1 0 (([]:List Int).length)])),(8,dV g.2.1 3 39 (.agg [Nn h,Nn 0,.osl 901 g.2.2.2 0 s.1.length])),(900,dW g.2.2.1 1 3 (([]:List Int).map Lo)),(901,dW g.2.2.2 1 3 (s.1.map Lo))]) (_,_,_,_) ((Zg (gg:=6) (off:=2) (tt:=900) (s:=1) (tyy:=3) r r r r (Zg (gg:=8) (off:=2) (tt:=901) (s:=1) (tyy:=3) r r r r hX)))<|?_
 rintro⟨d,f,t⟩ ⟨u,v,x,z⟩ nn;dsimp only[Ael];refine Ac 9 ?_ ?_
 ·refine Ab 9 λaa ab=>?_
  refine Ab 3 λc ac=>?_
  refine A 8 ?_;refine sC (E:=λ(s:NA×NA×Int×Int×Bool) (g:Nat×Nat×Nat×Nat)=>[oI 2 i,oP 6 g.1,oP 8 g.2.1,oM 10 e.Slots Oo,oI 11 f,oI 12 c.1,oI 48 c.1,oM 49 e.Slots Oo,oI 50 f,(51,.fptr (.agg [Nn s.1.Size,Nn s.1.Align]) 0),(52,.fptr (.agg [Nn s.2.1.Size,Nn s.2.1.Align]) 0),oI 53 s.2.2.1,oI 54 s.2.2.2.1,oB 55 s.2.2.2.2]) (O:=λ_ g=>[(6,dV g.1 3 39 (.agg [Nn 0,Nn 0,.osl 900 g.2.2.1 0 (([]:List Int).length)])),(8,dV g.2.1 3 39 (.agg [Nn h,Nn 0,.osl 901 g.2.2.2 0 d.length])),(900,dW g.2.2.1 1 3 (([]:List Int).map Lo)),(901,dW g.2.2.2 1 3 (d.map Lo))]) (j:=λs=>Aae d c e f s.1 s.2.1 s.2.2.1 s.2.2.2.1 s.2.2.2.2) ?_ ?_
  ·refine A 5 ?_;refine RL r ?_ ?_
   ·refine A 26 ?_;refine Po (b:=((ND.mk 0 0 ([])),9)) r ?_ r r ?_ (by first|rfl|(simp only[Nv];rfl)|(simp only[Ny];rfl)|(simp only[Nv,Ny];rfl)|(simp[PT,Py];try rfl)) (by decide)
    all_goals first|(simp;done)|(simp;omega)|rfl|(simp[OQ,OJ];done)|(simp[cells];done)
   ·refine Ab 3 λad ae=>?_
    refine Ac 8 ?_ ?_
    ·refine A 14 ?_;refine Po (b:=((ND.mk 0 0 ([])),9)) r ?_ r r ?_ (by first|rfl|(simp only[Nv];rfl)|(simp only[Ny];rfl)|(simp only[Nv,Ny];rfl)|(simp[PT,Py];try rfl)) (by decide)
     all_goals first|(simp;done)|(simp;omega)|rfl|(simp[OQ,OJ];done)|(simp[cells];done)
    ·exact B
  ·rintro⟨af,ag,ah,ai,aj⟩ ⟨ak,ao,ap,aq⟩ nn;dsimp only[Aae];refine Ab 22 λk ar=>?_
   refine A 13 ?_;exact xL (s:=((([]:List Int)++d)++([c.1]:List Int),i64.wrap (f+1),i64.wrap (c.1+k.Size))) (_,_,_,_) ((WJ (E1:=[oI 2 i,oP 6 _,oP 8 _,(9,Nn (i64.wrap (c.1+k.Size))),oM 10 e.Slots Oo,(11,Nn (i64.wrap (f+1)))]) (O1:=[(6,dV _ 3 39 (.agg [Nn 0,Nn 0,.osl 900 _ 0 (([]:List Int).length)])),(8,dV _ 3 39 (.agg [Nn h,Nn 0,.osl 14 _ 0 (((([]:List Int)++d)++([c.1]:List Int)).length)])),(14,dW _ 1 3 (((([]:List Int)++d)++([c.1]:List Int)).map Lo)),(900,dW _ 1 3 (([]:List Int).map Lo))]) hX (λ_=>PK (λg=>bif Nat.beq g 14 then 901 else g) (by kernel_rfl) hX)))
 ·refine Ab 9 λl au=>?_
  refine A 14 ?_;refine RL r ?_ ?_
  ·refine A 15 ?_;refine Po (b:=((ND.mk 0 0 ([])),9)) r ?_ r r ?_ (by first|rfl|(simp only[Nv];rfl)|(simp only[Ny];rfl)|(simp only[Nv,Ny];rfl)|(simp[PT,Py];try rfl)) (by decide)
   all_goals first|(simp;done)|(simp;omega)|rfl|(simp[OQ,OJ];done)|(simp[cells];done)
  ·refine Ac 5 ?_ ?_
   ·refine A 9 ?_;refine Po (b:=((ND.mk 0 0 ([])),9)) r ?_ r r ?_ (by first|rfl|(simp only[Nv];rfl)|(simp only[Ny];rfl)|(simp only[Nv,Ny];rfl)|(simp[PT,Py];try rfl)) (by decide)
    all_goals first|(simp;done)|(simp;omega)|rfl|(simp[OQ,OJ];done)|(simp[cells];done)
   ·refine A 17 ?_;refine Po (b:=((ND.mk h l.1 d),0)) r ?_ r r ?_ (by first|rfl|(simp only[Nv];rfl)|(simp only[Ny];rfl)|(simp only[Nv,Ny];rfl)|(simp[PT,Py];try rfl)) (by decide)
    all_goals first|(simp;done)|(simp;omega)|rfl|(simp[OQ,OJ];done)|(simp[cells];done)

end Go.Proofs.YtcaoepecbgggcaaGreatDoor
