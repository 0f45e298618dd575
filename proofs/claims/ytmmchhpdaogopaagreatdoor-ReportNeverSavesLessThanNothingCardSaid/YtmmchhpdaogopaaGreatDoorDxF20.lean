/-
 The code does what its typed programs say.
-/
import Derived.Test.YtmmchhpdaogopaaGreatDoorDxF16
import Derived.Test.YtmmchhpdaogopaaGreatDoorDxF19
namespace Go.Proofs.YtmmchhpdaogopaaGreatDoor
open Go Go.Dw Go.Proofs
set_option maxRecDepth 100000
set_option maxHeartbeats 40000000
open Go.Dw renaming Px -> bD,Sp -> bS,QU -> cD,RO -> xC,Qx -> xL,Rq -> lP,Qq -> sC,rf -> r
def AfT (b:Oc×Lo):D:=OB b.1
def AfS (b:Oc×Lo):List D:=[OX b.2]
theorem Afw:NM Tryz.prog 50 (Ow [(0,(2,103))] .val Aan Aam (λa=>Vx a.1 a.2.1 a.2.2) AfT AfS):=by
 refine fn2 3 (nK 76 Xu<|nK 19 Pp<|nK 79 Ail<|nK 80 Ahe<|nK 71 AbO<|nK 41 ZZ<|nK 36 YR<|nK 81 Ahb<|NK) Tryz.func50<|?_;rintro⟨m,c,d⟩;unfold Vx;refine Ab 10 λb o=>?_
 refine Ab 9 λp q=>?_
 refine Ac 4 ?_ ?_
 ·exact B
 ·refine A 2 ?_;refine sC (E:=λ(_s:(List Int)×Int×(List (List Int))) (g:Nat×Nat×Nat)=>[(0,.optr 8192 0 0 0),oI 2 d,oP 4 g.1,oP 6 g.2.1,oP 7 g.2.2]) (O:=λs g=>[(4,dV g.1 1 28 (.agg [.sl (c.Funcs.map NU)])),(6,dV g.2.1 7 67 (.agg [.nils,.nils,.nils,.nils,Mk 0,Mk 0,.nils])),(7,dV g.2.2 7 67 (.agg [.sl (s.2.2.map (eL Av)),.sl (b.Rename.To.map Av),.sl (b.Rename.Keep.map D.bool),.sl (b.LiveAfter.Out.map (eL Av)),Mk b.Layout.Args,Mk b.Layout.Size,.sl (b.Layout.Off.map Av)])),(8192,dV 0 2 103 (.agg [.sl (s.1.map eU8),Mk s.2.1]))]) (j:=λs=>Sf c d b s.1 s.2.1 s.2.2) ?_ ?_
  ·exact B
  ·rintro⟨r,t,e⟩ ⟨u,v,x⟩ nn;dsimp only[Sf];refine sC (E:=λ(_s:(List Int)×Int×(List Int)×(List Bool)) (g:Nat×Nat×Nat)=>[(0,.optr 8192 0 0 0),oI 2 d,oP 4 g.1,oP 6 g.2.1,oP 7 g.2.2]) (O:=λs g=>[(4,dV g.1 1 28 (.agg [.sl (c.Funcs.map NU)])),(6,dV g.2.1 7 67 (.agg [.nils,.nils,.nils,.nils,Mk 0,Mk 0,.nils])),(7,dV g.2.2 7 67 (.agg [.sl (e.map (eL Av)),.sl (s.2.2.1.map Av),.sl (s.2.2.2.map D.bool),.sl (b.LiveAfter.Out.map (eL Av)),Mk b.Layout.Args,Mk b.Layout.Size,.sl (b.Layout.Off.map Av)])),(8192,dV 0 2 103 (.agg [.sl (s.1.map eU8),Mk s.2.1]))]) (j:=λs=>Rl c d e b s.1 s.2.1 s.2.2.1 s.2.2.2) ?_ ?_
   ·exact B
   ·rintro⟨z,aa,f,h⟩ ⟨ab,ac,ad⟩ nn;dsimp only[Rl];refine Ab 5 λae af=>?_
    refine A 6 ?_;refine sC (E:=λ(_s:(List Int)×Int×Int×(List Og)×(List NJ)) (g:Nat×Nat×Nat×Nat)=>[(0,.optr 8192 0 0 0),oI 2 d,oP 4 g.1,oP 6 g.2.1,oP 7 g.2.2.1,oP 8 g.2.2.2]) (O:=λs g=>[(4,dV g.1 1 28 (.agg [.sl (c.Funcs.map NU)])),(6,dV g.2.1 7 67 (.agg [.nils,.nils,.nils,.nils,Mk 0,Mk 0,.nils])),(7,dV g.2.2.1 7 67 (.agg [.sl (e.map (eL Av)),.sl (f.map Av),.sl (h.map D.bool),.sl (b.LiveAfter.Out.map (eL Av)),Mk b.Layout.Args,Mk b.Layout.Size,.sl (b.Layout.Off.map Av)])),(8,dV g.2.2.2 3 57 (.agg [Mk s.2.2.1,.sl (s.2.2.2.1.map OW),.sl (s.2.2.2.2.map Oj)])),(8192,dV 0 2 103 (.agg [.sl (s.1.map eU8),Mk s.2.1]))]) (j:=λs=>Rm c d e f h b s.1 s.2.1 s.2.2.1 s.2.2.2.1 s.2.2.2.2) ?_ ?_
    ·exact B
    ·rintro⟨ag,ah,i,k,l⟩ ⟨ai,aj,ak,ao⟩ nn;dsimp only[Rm];refine sC (E:=λ(_s:(List Int)×Int×(List (List Int))) (g:Nat×Nat×Nat×Nat)=>[(0,.optr 8192 0 0 0),oI 2 d,oP 4 g.1,oP 6 g.2.1,oP 7 g.2.2.1,oP 8 g.2.2.2]) (O:=λs g=>[(4,dV g.1 1 28 (.agg [.sl (c.Funcs.map NU)])),(6,dV g.2.1 7 67 (.agg [.nils,.nils,.nils,.nils,Mk 0,Mk 0,.nils])),(7,dV g.2.2.1 7 67 (.agg [.sl (e.map (eL Av)),.sl (f.map Av),.sl (h.map D.bool),.sl (s.2.2.map (eL Av)),Mk b.Layout.Args,Mk b.Layout.Size,.sl (b.Layout.Off.map Av)])),(8,dV g.2.2.2 3 57 (.agg [Mk i,.sl (k.map OW),.sl (l.map Oj)])),(8192,dV 0 2 103 (.agg [.sl (s.1.map eU8),Mk s.2.1]))]) (j:=λs=>Sg c d i k l e f h b s.1 s.2.1 s.2.2) ?_ ?_
     ·exact B
     ·rintro⟨ap,aq,ar⟩ ⟨au,av,aw,ax⟩ nn;dsimp only[Sg];exact B

abbrev AdX:=en2 OX PQ
abbrev AdW:=de2 Rr QM
def Afy (b:(List Oc)×Lo):D:=.sl (b.1.map OB)
def Afx (b:(List Oc)×Lo):List D:=[OX b.2]
theorem Aey:NM Tryz.prog 21 (Ow [(0,(2,103))] (.row 7 67) AdX AdW (λa=>UE a.1 a.2) Afy Afx):=by
 refine fn2 2 (nK 50 Afw<|nK 19 Pp<|NK) Tryz.func21<|?_;rintro⟨d,b⟩;unfold UE;refine A 18 ?_;refine lP (E:=λ(s:(List Int)×Int×(List Oc)×Int) (g:Nat×Nat)=>[(0,.optr 8192 0 0 0),oP 3 g.1,oT 5 g.2 s.2.2.1,oI 6 s.2.2.2]) (O:=λs g=>[(3,dV g.1 1 28 (.agg [.sl (b.Funcs.map NU)])),(5,dW g.2 7 67 (s.2.2.1.map OB)),(8192,dV 0 2 103 (.agg [.sl (s.1.map eU8),Mk s.2.1]))]) (_,_) hX<|?_
 rintro⟨e,f,h,i⟩ ⟨j,k⟩ nn;dsimp only[Zj];refine Ac 10 ?_ ?_
 ·refine Ab 9 λc l=>?_
  refine A 1 ?_;refine bS ([c.1]:List Oc) OB r r r (by simp) r r r<|?_
  exact B
 ·exact B

def Yd (a:(List Int)):List D:=[.sl (a.map eU8)]
def AaP (ds:List D):(List Int):=(uL uI) (ds.getD 0 .top)
theorem Amh (a:(List Int)):AaP (Yd a)=a:=by simp[AaP,Yd,QL (u:=uI) (en:=eU8) (λ_=>rfl)]
instance:PT Yd AaP:=⟨Amh⟩
def Anz (b:NL×OQ×Int):D:=.tup [PQ b.1,XA b.2.1,Mk b.2.2]
theorem Ami:NM Tryz.prog 15 (fS .val Yd (λa=>ZG a) Anz):=by
 refine fn2 1 (nK 17 Apo<|nK 18 AfR<|nK 21 Aey<|nK 19 Pp<|nK 46 AoT<|nK 10 AgC<|NK) Tryz.func15<|?_;intro c;unfold ZG;refine Ab 10 λd e=>?_
 refine Ab 7 λb f=>?_
 refine Ab 9 λh i=>?_
 refine A 4 ?_;refine sC (E:=λ(s:(List Oc)) (g:Nat×Nat×Nat×Nat)=>[oP 2 g.1,oP 3 g.2.1,oP 6 g.2.2.1,oT 7 g.2.2.2 s]) (O:=λs g=>[(2,dV g.1 1 28 (.agg [.nils])),(3,dV g.2.1 5 40 (.agg [Mk 0,.nils,Mk 0,.nils,.nils])),(6,dV g.2.2.1 1 28 (.agg [.sl (b.1.Funcs.map NU)])),(7,dW g.2.2.2 7 67 (s.map OB))]) (j:=λs=>UZ b s) ?_ ?_
 ·exact B
 ·rintro k ⟨l,m,o,p⟩ nn;dsimp only[UZ];exact B

theorem Ale:NM Tryz.prog 12 (fS .val RV (λa=>AaJ a) RD):=by
 refine fn2 1 (nK 9 Ald<|NK) Tryz.func12<|?_;intro a;unfold AaJ;exact B

abbrev AkM:=en2 PQ XA
abbrev AtQ:=de2 QM AlU
theorem AlO:NM Tryz.prog 16 (fS .ground AkM (λa=>Xd a.1 a.2) Oy):=by
 refine fn2 2 (nK 12 Ale<|NK) Tryz.func16<|?_;intro a;unfold Xd;exact B

def Qe (a:(List Int)):List D:=[.sl (a.map eU8)]
def QW (ds:List D):(List Int):=(uL uI) (ds.getD 0 .top)
theorem SJ (a:(List Int)):QW (Qe a)=a:=by simp[QW,Qe,QL (u:=uI) (en:=eU8) (λ_=>rfl)]
instance:PT Qe QW:=⟨SJ⟩
theorem Xo:NM Tryz.prog 4 (fS .ground Qe (λa=>Qw a) Od):=by
 refine fn2 1 (nK 14 Amg<|nK 15 Ami<|nK 13 AmK<|nK 16 AlO<|NK) Tryz.func4<|?_;intro a;unfold Qw;exact B

end Go.Proofs.YtmmchhpdaogopaaGreatDoor
