/-
 The code does what its typed programs say.
-/
import Derived.Test.YtcaoepecbgggcaaGreatDoorDxF9
import Derived.Test.YtcaoepecbgggcaaGreatDoorDxF10
import Derived.Test.YtcaoepecbgggcaaGreatDoorDxF12
import Derived.Test.YtcaoepecbgggcaaGreatDoorDxF15
namespace Go.Proofs.YtcaoepecbgggcaaGreatDoor
open Go Go.Dw Go.Proofs
set_option maxRecDepth 100000
set_option maxHeartbeats 40000000
open Go.Dw renaming OO -> bD,TR -> bS,Qs -> cD,Rp -> xC,PY -> xL,QS -> lP,PQ -> sC,RQ -> bC,Adc -> mF,rf -> r
theorem Zi:Nr Tryz.prog 92 (fS .ground PX (λa=>Uu a.1 a.2) Nq):=by
 refine fn2 2 (nK 153 Acu<|nK 154 AkG<|Np) Tryz.func92<|?_;intro a;unfold Uu;exact B

abbrev Abr:=en3 Nz Rx Xk
abbrev Asy:=de3 Rh Vb ZW
noncomputable def Aho:Dw.Spec:=Zl (specs []) 3 [(.t 6)] AsV
theorem Agf:Nr Tryz.prog 157 Aho:=UC (Np) Tryz.func157 (by decide) Axr Axs (by decide)
theorem Ajd:Nr Tryz.prog 94 (fS .ground Abr (λa=>Xb a.1 a.2.1 a.2.2) WY):=by
 refine fn2 3 (nK 92 Zi<|nK 93 Abc<|nK 157 Agf<|nK 218 Abe<|Np) Tryz.func94<|?_;rintro⟨e,f,b⟩;unfold Xb;refine A 10 ?_;refine sC (E:=λ(_s:Unit) (g:Nat×Nat×Nat)=>[oP 3 g.1,oP 4 g.2.1,oP 5 g.2.2]) (O:=λ_ g=>[(3,dV g.1 3 36 (Nz e)),(4,dV g.2.1 1 45 (.agg [.sl (f.Out.map (eL Av))])),(5,dV g.2.2 2 48 (.agg [.sl (b.To.map Av),.sl (b.Keep.map D.bool)]))]) (j:=λ_=>Yb e b f) ?_ ?_
 ·exact B
 ·rintro⟨⟩ ⟨i,k,l⟩ nn;dsimp only[Yb];refine A 5 ?_;refine TS (E:=λ(g:Nat)=>[(3,.optr 1003 g 0 0),(23,Nz e),(24,.agg [.sl (f.Out.map (eL Av))]),(25,.agg [.sl (b.To.map Av),.sl (b.Keep.map D.bool)])]) (O:=λg=>[(1003,dV g 3 36 (Nz e))]) _ ((PR (λg=>bif Nat.ble 4096 g then g+20000 else g+1000) (by kernel_rfl) hX))<|?_
  rintro h nn
  try dsimp only
  refine AfL (ds:=[Nz e,.agg [.sl (f.Out.map (eL Av))],.agg [.sl (b.To.map Av),.sl (b.Keep.map D.bool)]]) (caps:=[]) (E:=[(0,Nz e),(1,.agg [.sl (f.Out.map (eL Av))]),(2,.agg [.sl (b.To.map Av),.sl (b.Keep.map D.bool)])]) r r r r r r r r<|Xa (c:=AsV)<|?_;refine A 7 ?_;refine Qd (E:=[(3,.fptr (Nz e) 0),(4,.fptr (.agg [.sl (f.Out.map (eL Av))]) 0),(5,.fptr (.agg [.sl (b.To.map Av),.sl (b.Keep.map D.bool)]) 0)]) (O:=[(1003,dV h 3 36 (Nz e))]) ((hV 3 r (hV 4 r (hV 5 r (hY))))) λnn=>?_
  refine A 2 ?_;refine mF (caps:=[.fptr (Nz e) 0,.fptr (.agg [.sl (b.To.map Av),.sl (b.Keep.map D.bool)]) 0,.fptr (.agg [.sl (f.Out.map (eL Av))]) 0]) r r (by simp[SE])<|?_
  refine A 4 ?_;refine Adf (d:=.clo 218 [.fptr (Nz e) 0,.fptr (.agg [.sl (b.To.map Av),.sl (b.Keep.map D.bool)]) 0,.fptr (.agg [.sl (f.Out.map (eL Av))]) 0]) (E:=[oP 3 _,(26,.clo 218 [.fptr (Nz e) 0,.fptr (.agg [.sl (b.To.map Av),.sl (b.Keep.map D.bool)]) 0,.fptr (.agg [.sl (f.Out.map (eL Av))]) 0])]) (O:=[(3,dV _ 3 36 (Nz e))]) r (by first|rfl|(simp[NV,NZ,rdA,raw,strip,Oe,cells,Oc];done)|(simp[NV,NZ,rdA,raw,strip,Oe,S.ge,S.go,look,SL,cells,Oc];done)) r ((PW [] hX (by kernel_rfl) (λ_=>hX))) λnn=>?_
  refine A 13 ?_;refine lP (E:=λ(s:Int) (_g:Unit)=>[(9,.clo 218 [.fptr (Nz e) 0,.fptr (.agg [.sl (b.To.map Av),.sl (b.Keep.map D.bool)]) 0,.fptr (.agg [.sl (f.Out.map (eL Av))]) 0]),oL 29 e.Code,oI 30 s]) (O:=λ_ _=>[]) () hX<|?_
  rintro m ⟨⟩ nn;dsimp only[Acj];exact B

theorem AlS:Nr Tryz.prog 40 (fS .ground Abr (λa=>XD a.1 a.2.1 a.2.2) Nq):=by
 refine fn2 3 (nK 92 Zi<|nK 93 Abc<|nK 94 Ajd<|Np) Tryz.func40<|?_;intro a;unfold XD;exact B

abbrev Afm:=en1 Qf
abbrev AqP:=de1 Th
theorem AfX:Nr Tryz.prog 162 (fS .ground Afm (λa=>SZ a) Nq):=by
 refine fn2 1 (nK 39 AaW<|nK 88 AkO<|nK 222 Afl<|Np) Tryz.func162<|?_;intro b;unfold SZ;refine Ab 14 λc d=>?_
 refine Ac 16 ?_ ?_
 ·exact B
 ·refine A 2 ?_;refine sC (E:=λ(_s:Unit) (g:Nat×Nat)=>[oP 1 g.1,oP 3 g.2]) (O:=λ_ g=>[(1,dV g.1 9 144 (Qf b)),(3,dV g.2 3 39 (Pv c.1))]) (j:=λ_=>VQ b c) ?_ ?_
  ·exact B
  ·rintro⟨⟩ ⟨e,h⟩ nn;dsimp only[VQ];refine A 11 ?_;refine lP (E:=λ(s:Int) (g:Nat×Nat)=>[oP 1 g.1,oP 3 g.2,oL 42 b.f.Slots,oI 43 s]) (O:=λ_ g=>[(1,dV g.1 9 144 (Qf b)),(3,dV g.2 3 39 (Pv c.1))]) (_,_) hX<|?_
   rintro i ⟨k,l⟩ nn;dsimp only[Aab];exact B

abbrev Zh:=en2 Qf Rx
abbrev AqO:=de2 Th Vb
theorem AfW:Nr Tryz.prog 101 (fS .ground Zh (λa=>UR a.1 a.2) Nq):=by
 refine fn2 2 (nK 162 AfX<|nK 92 Zi<|Np) Tryz.func101<|?_;intro a;unfold UR;exact B

theorem AfV:Nr Tryz.prog 102 (fS .ground Zh (λa=>UQ a.1 a.2) WY):=by
 refine fn2 2 (nK 163 AfU<|Np) Tryz.func102<|?_;rintro⟨b,c⟩;unfold UQ;refine A 20 ?_;refine lP (E:=λ(s:Int) (g:Nat×Nat)=>[oP 2 g.1,oP 3 g.2,oL 13 b.f.Code,oI 14 s]) (O:=λ_ g=>[(2,dV g.1 9 144 (Qf b)),(3,dV g.2 1 45 (.agg [.sl (c.Out.map (eL Av))]))]) (_,_) hX<|?_
 rintro d ⟨e,h⟩ nn;dsimp only[Aaa];exact B

abbrev Amx:=en5 PJ Av Av Rx Pv
abbrev Awd:=de5 Rr uI uI Vb Adg
theorem Anq:Nr Tryz.prog 42 (fS .ground Amx (λa=>Xq a.1 a.2.1 a.2.2.1 a.2.2.2.1 a.2.2.2.2) Nq):=by
 refine fn2 5 (nK 101 AfW<|nK 102 AfV<|Np) Tryz.func42<|?_;intro a;unfold Xq;exact B

abbrev AlB:=en3 PJ Av Ob
abbrev AlA:=de3 Rr uI AdZ
def Agp (b:Nn×NC×Int×Int):D:=.tup [Nz b.1,Pv b.2.1,Nm b.2.2.1,Nm b.2.2.2]
noncomputable def Agq:Dw.Spec:=NO [] .val AlB AlA (λa=>RE a.1 a.2.1 a.2.2) Agp noE
theorem Amu:Nr Tryz.prog 12 Agq:=by
 refine fn2 3 (nK 38 AfI<|nK 39 AaW<|nK 40 AlS<|nK 41 AmQ<|nK 43 Afo<|nK 42 Anq<|Np) Tryz.func12<|?_;rintro⟨c,d,e⟩;unfold RE;refine Ab 13 λf k=>?_
 refine Ab 9 λa l=>?_
 refine Ac 16 ?_ ?_
 ·refine A 13 ?_;refine Po (b:=((Nn.mk 0 ([]) ([])),(NC.mk 0 0 ([])),0,a.2)) r ?_ r r ?_ (by first|rfl|(simp only[Nu];rfl)|(simp only[Nx];rfl)|(simp only[Nu,Nx];rfl)|(simp[Agp,Nz,Pv];try rfl)) (by decide)
  all_goals first|(simp;done)|(simp;omega)|rfl|(simp[OQ,OH];done)|(simp[cells];done)
 ·refine Ab 7 λh m=>?_
  refine A 6 ?_;refine sC (E:=λ(_s:Unit) (g:Nat×Nat×Nat×Nat×Nat×Nat)=>[oI 1 d,oP 3 g.1,oP 5 g.2.1,oP 6 g.2.2.1,oP 7 g.2.2.2.1,oI 10 f,oP 11 g.2.2.2.2.1,oP 13 g.2.2.2.2.2]) (O:=λ_ g=>[(3,dV g.1 1 28 (.agg [.sl (c.Funcs.map Nz)])),(5,dV g.2.1 7 50 (Ob e)),(6,dV g.2.2.1 3 36 (.agg [Nm 0,.nils,.nils])),(7,dV g.2.2.2.1 3 39 (.agg [Nm 0,Nm 0,.nils])),(11,dV g.2.2.2.2.1 3 39 (Pv a.1)),(13,dV g.2.2.2.2.2 3 36 (Nz h))]) (j:=λ_=>TF c d f e h a) ?_ ?_
  ·refine Ab 7 λo p=>?_
   refine Ac 4 ?_ ?_
   ·refine Ab 5 λi q=>?_
    refine A 9 ?_;refine sC (E:=λ(s:Bool) (g:Nat×Nat×Nat×Nat×Nat×Nat×Nat)=>[oI 1 d,oP 3 g.1,oP 5 g.2.1,oP 6 g.2.2.1,oP 7 g.2.2.2.1,oI 10 f,oP 11 g.2.2.2.2.1,oP 13 g.2.2.2.2.2.1,oP 14 g.2.2.2.2.2.2,oB 72 s]) (O:=λ_ g=>[(3,dV g.1 1 28 (.agg [.sl (c.Funcs.map Nz)])),(5,dV g.2.1 7 50 (Ob e)),(6,dV g.2.2.1 3 36 (.agg [Nm 0,.nils,.nils])),(7,dV g.2.2.2.1 3 39 (.agg [Nm 0,Nm 0,.nils])),(11,dV g.2.2.2.2.1 3 39 (Pv a.1)),(13,dV g.2.2.2.2.2.1 3 36 (Nz h)),(14,dV g.2.2.2.2.2.2 3 36 (Nz i.1))]) (j:=λs=>Su i e c d f h a s) ?_ ?_
    ·exact B
    ·rintro t ⟨u,v,x,z,aa,ab,ac⟩ nn;dsimp only[Su];exact B
   ·exact B
  ·rintro⟨⟩ ⟨ad,ae,af,ag,ah,ai⟩ nn;dsimp only[TF];exact B

theorem Aik:Nr Tryz.prog 33 (fS .val Tk (λa=>QB a.1 a.2) Ww):=by
 refine fn2 2 (nK 76 AoI<|nK 77 ApP<|nK 78 Afy<|nK 79 AmL<|nK 80 AnH<|nK 81 Aft<|Np) Tryz.func33<|?_;rintro⟨c,d⟩;unfold QB;refine Ab 13 λt z=>?_
 refine Ac 10 ?_ ?_
 ·refine A 10 ?_;refine Po (b:=((Nn.mk 0 ([]) ([])),t)) r ?_ r r ?_ (by first|rfl|(simp only[Nu];rfl)|(simp only[Nx];rfl)|(simp only[Nu,Nx];rfl)|(simp[Ww,Nz];try rfl)) (by decide)
  all_goals first|(simp;done)|(simp;omega)|rfl|(simp[OQ,OH];done)|(simp[cells];done)
 ·refine Ab 6 λf aa=>?_
  refine A 20 ?_;refine lP (E:=λ(s:(List NB)×Int) (g:Nat×Nat×Nat×Nat×Nat)=>[oP 2 g.1,oP 3 g.2.1,oP 4 g.2.2.1,oT 7 g.2.2.2.1 f,oP 8 g.2.2.2.2,oI 9 s.2]) (O:=λs g=>[(2,dV g.1 3 36 (Nz c)),(3,dV g.2.1 2 48 (.agg [.sl (d.To.map Av),.sl (d.Keep.map D.bool)])),(4,dV g.2.2.1 3 36 (.agg [Nm 0,.nils,.nils])),(7,dW g.2.2.2.1 1 3 (f.map Av)),(8,dV g.2.2.2.2 3 36 (.agg [Nm c.Params,.sl (s.1.map On),.nils]))]) (_,_,_,_,_) ((WI [] trivial ⟨(NY r),(NY r),(NY r),(NY r),(NY r),(NY r),trivial⟩ ⟨(.inl r),(.inl r),(.inl r),(.inl r),(.inr ⟨_,_,_,_,r,r,r,r,Vq r ⟨(Ol r),(Vd On r),(Ol r),trivial⟩⟩),trivial⟩))<|?_
  rintro⟨k,l⟩ ⟨ab,ac,ad,ae,af⟩ nn;dsimp only[Aij];refine Ac 9 ?_ ?_
  ·refine A 2 ?_;refine bC (E:=λ(_s:(List NB)) (g:Nat×Nat×Nat×Nat×Nat×Nat)=>[oP 2 g.1,oP 3 g.2.1,oP 4 g.2.2.1,oT 7 g.2.2.2.1 f,oP 8 g.2.2.2.2.1,oI 9 l]) (O:=λs g=>[(2,dV g.1 3 36 (Nz c)),(3,dV g.2.1 2 48 (.agg [.sl (d.To.map Av),.sl (d.Keep.map D.bool)])),(4,dV g.2.2.1 3 36 (.agg [Nm 0,.nils,.nils])),(7,dW g.2.2.2.1 1 3 (f.map Av)),(8,dV g.2.2.2.2.1 3 36 (.agg [Nm c.Params,.osl 13 g.2.2.2.2.2 0 s.length,.nils])),(13,dW g.2.2.2.2.2 2 87 (s.map On))]) (j:=λs=>XA l s) ?_ ?_
   ·refine Ab 7 λag ah=>?_
    refine Ab 1 λm ai=>?_
    refine Ab 13 λaj ak=>?_
    refine Ab 1 λo ao=>?_
    refine A 11 ?_;refine lP (E:=λ(s:Int×Int) (g:Nat×Nat×Nat×Nat×Nat×Nat×Nat)=>[oP 2 g.1,oP 3 g.2.1,oP 4 g.2.2.1,oT 7 g.2.2.2.1 f,oP 8 g.2.2.2.2.1,oI 9 l,oP 10 g.2.2.2.2.2.1,oT 11 g.2.2.2.2.2.2 o,oI 12 s.2]) (O:=λs g=>[(2,dV g.1 3 36 (Nz c)),(3,dV g.2.1 2 48 (.agg [.sl (d.To.map Av),.sl (d.Keep.map D.bool)])),(4,dV g.2.2.1 3 36 (.agg [Nm 0,.nils,.nils])),(7,dW g.2.2.2.1 1 3 (f.map Av)),(8,dV g.2.2.2.2.1 3 36 (.agg [Nm c.Params,.sl (k.map On),.nils])),(10,dV g.2.2.2.2.2.1 2 87 (.agg [Nm m.Size,Nm s.1])),(11,dW g.2.2.2.2.2.2 1 3 (o.map Av))]) (_,_,_,_,_,_,_) hX<|?_
    rintro⟨u,ap⟩ ⟨aq,ar,au,av,aw,ax,ay⟩ nn;dsimp only[ZO];refine Ac 9 ?_ ?_
    ·exact B
    ·refine A 11 ?_;refine bS ([(NB.mk m.Size u)]:List NB) On r r r (by simp) r r r<|?_
     exact B
   ·rintro az ⟨ba,bb,bc,bd,bf,bg⟩ nn;dsimp only[XA];refine A 5 ?_;exact wf [13] λ_=>B
  ·refine Ab 9 λh bh=>?_
   refine Ab 2 λi bi=>?_
   refine A 12 ?_;refine lP (E:=λ(s:(List Lo)×Int) (g:Nat×Nat×Nat×Nat×Nat×Nat)=>[oP 2 g.1,oP 3 g.2.1,oP 4 g.2.2.1,oP 8 g.2.2.2.1,oT 14 g.2.2.2.2.1 h,oT 15 g.2.2.2.2.2 i,oI 16 s.2]) (O:=λs g=>[(2,dV g.1 3 36 (Nz c)),(3,dV g.2.1 2 48 (.agg [.sl (d.To.map Av),.sl (d.Keep.map D.bool)])),(4,dV g.2.2.1 3 36 (.agg [Nm 0,.nils,.nils])),(8,dV g.2.2.2.1 3 36 (.agg [Nm c.Params,.sl (k.map On),.sl (s.1.map NG)])),(14,dW g.2.2.2.2.1 1 3 (h.map Av)),(15,dW g.2.2.2.2.2 1 3 (i.map Av))]) (_,_,_,_,_,_) ((WI [] trivial ⟨(NY r),(NY r),(NY r),(NY r),(NY r),(NY r),(NY r),trivial⟩ ⟨(.inl r),(.inl r),(.inl r),(.inr ⟨_,_,_,_,r,r,r,r,Vq r ⟨(Ol r),(Ol r),(Vd NG r),trivial⟩⟩),(.inl r),(.inl r),trivial⟩))<|?_
   rintro⟨p,q⟩ ⟨bj,bk,bl,bm,bn,bo⟩ nn;dsimp only[AcV];refine Ac 10 ?_ ?_
   ·refine Ab 10 λbp bq=>?_
    refine Ac 5 ?_ ?_
    ·exact B
    ·refine Ab 7 λbr bs=>?_
     refine Ab 3 λe bt=>?_
     refine A 5 ?_;refine sC (E:=λ(_s:Int×Int) (g:Nat×Nat×Nat×Nat×Nat×Nat×Nat)=>[oP 2 g.1,oP 3 g.2.1,oP 4 g.2.2.1,oP 8 g.2.2.2.1,oT 14 g.2.2.2.2.1 h,oT 15 g.2.2.2.2.2.1 i,oI 16 q,oP 17 g.2.2.2.2.2.2]) (O:=λs g=>[(2,dV g.1 3 36 (Nz c)),(3,dV g.2.1 2 48 (.agg [.sl (d.To.map Av),.sl (d.Keep.map D.bool)])),(4,dV g.2.2.1 3 36 (.agg [Nm 0,.nils,.nils])),(8,dV g.2.2.2.1 3 36 (.agg [Nm c.Params,.sl (k.map On),.sl (p.map NG)])),(14,dW g.2.2.2.2.1 1 3 (h.map Av)),(15,dW g.2.2.2.2.2.1 1 3 (i.map Av)),(17,dV g.2.2.2.2.2.2 5 90 (.agg [Nm e.Op,Nm s.1,Nm s.2,Nm e.C,Aoc e.Imm]))]) (j:=λs=>TO p e q s.1 s.2) ?_ ?_
     ·exact B
     ·rintro⟨v,x⟩ ⟨bu,bv,bw,bx,bz,ca,cb⟩ nn;dsimp only[TO];refine A 6 ?_;refine bS ([(Lo.mk e.Op v x e.C e.Imm)]:List Lo) NG r r r (by simp) r r r<|?_
      refine A 16 ?_;exact wf [18] λ_=>B
   ·exact B

end Go.Proofs.YtcaoepecbgggcaaGreatDoor
