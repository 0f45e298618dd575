/-
 The code does what its typed programs say.
-/
import Derived.Test.YtmmchhpdaogopaaGreatDoorDxF6
import Derived.Test.YtmmchhpdaogopaaGreatDoorDxF7
import Derived.Test.YtmmchhpdaogopaaGreatDoorDxF9
namespace Go.Proofs.YtmmchhpdaogopaaGreatDoor
open Go Go.Dw Go.Proofs
open Go.IntKind (i64)
set_option maxRecDepth 100000
set_option maxHeartbeats 40000000
open Go.Dw renaming Px -> bD,Qd -> cK,Wh -> cG,QU -> cD,RO -> xC,Qx -> xL,Rq -> lP,Qq -> sC,Qk -> bC,Ajm -> mF,rf -> r
abbrev AjL:=en2 NU (eL (eL Av))
abbrev AsQ:=de2 RP (uL (uL uI))
theorem AkB:NM Tryz.prog 128 (fS (.row 1 3) AjL (λa=>VH a.1 a.2) PN):=by
 refine fn2 2 (nK 192 Amx<|nK 193 Amz<|NK) Tryz.func128<|?_;rintro⟨o,c⟩;unfold VH;refine A 18 ?_;refine lP (E:=λ(s:(List Int)×Int) (g:Nat×Nat)=>[(1,.sl (c.map (eL Av))),oP 2 g.1,oT 5 g.2 s.1,oI 6 s.2]) (O:=λs g=>[(2,dV g.1 3 57 (NU o)),(5,dW g.2 1 3 (s.1.map Av))]) (_,_) hX<|?_
 rintro⟨q,t⟩ ⟨u,v⟩ nn;dsimp only[Aek];refine Ac 10 ?_ ?_
 ·exact B
 ·refine Ab 8 λb x=>?_
  refine A 11 ?_;refine lP (E:=λ(s:(List Int)×Int) (g:Nat×Nat)=>[(1,.sl (c.map (eL Av))),oT 5 g.1 s.1,oT 7 g.2 b,oI 8 s.2]) (O:=λs g=>[(5,dW g.1 1 3 (s.1.map Av)),(7,dW g.2 2 129 (b.map Tk))]) (_,_) hX<|?_
  rintro⟨i,f⟩ ⟨z,aa⟩ nn;dsimp only[Aaf];refine Ac 9 ?_ ?_
  ·refine A 2 ?_;refine bC (E:=λ(s:(List Int)) (g:Nat×Nat)=>[(1,.sl (c.map (eL Av))),oT 5 g.1 s,oT 7 g.2 b,oI 8 f]) (O:=λs g=>[(5,dW g.1 1 3 (s.map Av)),(7,dW g.2 2 129 (b.map Tk))]) (j:=λs=>Rz f s) ?_ ?_
   ·refine A 6 ?_;refine Sb r r r (by decide)<|bD λab ac=>?_
    refine Ab 2 λe ad=>?_
    refine A 5 ?_;refine Sb r r r (by decide)<|bD λae af=>?_
    refine Ab 2 λd ag=>?_
    refine A 5 ?_;refine sC (E:=λ(s:Bool×Bool) (g:Nat×Nat)=>[(1,.sl (c.map (eL Av))),oT 5 g.1 i,oT 7 g.2 b,oI 8 f,oI 9 e,oI 10 d,(51,.sl (c.map (eL Av))),oS 52 5 g.1 i,oI 53 e,oI 54 d,oB 55 s.1,oB 56 s.2]) (O:=λ_ g=>[(5,dW g.1 1 3 (i.map Av)),(7,dW g.2 2 129 (b.map Tk))]) (j:=λs=>Xs e d f i s.1 s.2) ?_ ?_
    ·exact B
    ·rintro⟨l,m⟩ ⟨ah,ai⟩ nn;dsimp only[Xs];refine A 6 ?_;refine lP (E:=λ(s:(List Int)×Int) (g:Nat×Nat)=>[(1,.sl (c.map (eL Av))),oT 5 g.1 s.1,oT 7 g.2 b,oI 8 f,oI 9 e,oI 10 d,oI 11 s.2,(51,.sl (c.map (eL Av))),oS 52 5 g.1 s.1,oI 53 e,oI 54 d,oB 55 l,oB 56 m]) (O:=λs g=>[(5,dW g.1 1 3 (s.1.map Av)),(7,dW g.2 2 129 (b.map Tk))]) (_,_) hX<|?_
     rintro⟨h,k⟩ ⟨aj,ak⟩ nn;dsimp only[Aag];refine Ac 9 ?_ ?_
     ·refine A 4 ?_;refine sC (E:=λ(s:Bool) (g:Nat×Nat)=>[(1,.sl (c.map (eL Av))),oT 5 g.1 h,oT 7 g.2 b,oI 8 f,oI 9 e,oI 10 d,oI 11 k,(51,.sl (c.map (eL Av))),oS 52 5 g.1 h,oI 53 e,oI 54 d,oB 55 l,oB 56 m,oB 77 s]) (O:=λ_ g=>[(5,dW g.1 1 3 (h.map Av)),(7,dW g.2 2 129 (b.map Tk))]) (j:=λs=>Tv k h e d s) ?_ ?_
      ·refine Ab 4 λao ap=>?_
       refine A 4 ?_;refine Qy r ?_ ?_
       ·refine A 8 ?_;exact xC (s:=true) (_,_) hX
       ·refine Ab 3 λp aq=>?_
        refine A 5 ?_;exact xC (s:=(p==d)) (_,_) hX
      ·rintro ar ⟨au,av⟩ nn;dsimp only[Tv];refine cD r ?_ ?_
       ·exact B
       ·refine A 8 ?_;exact xL (s:=(h,i64.wrap (k+1))) (_,_) hX
     ·exact B
   ·rintro aw ⟨ax,ay⟩ nn;dsimp only[Rz];exact B
  ·exact B

theorem Apb:NM Tryz.prog 137 (fS .ground AcN (λa=>We a.1 a.2.1 a.2.2) Oy):=by
 refine fn2 3 (nK 135 AhD<|nK 203 AnQ<|NK) Tryz.func137<|?_;rintro⟨h,f,e⟩;unfold We;refine Ab 13 λr4 af=>?_
 refine Ac 4 ?_ ?_
 ·exact B
 ·refine A 6 ?_;refine cK λhq=>Aua (kk:=135) (Ug.map λq=>RA.mk q.1 q.2.1 q.2.2.1 q.2.2.2) (λq=>cells (XN q)) r r r hq r<|bD λd m=>Aph (q:=d) (l:=(Ug.map λq=>RA.mk q.1 q.2.1 q.2.2.1 q.2.2.2)) (c:=λq=>cells (XN q)) (j:=e.Op.toNat) 0 100 (λ_=>r) r r r r r r m r<|?_
  refine A 34 ?_;refine lP (E:=λ(s:Int) (g:Nat×Nat×Nat×Nat×Nat×Nat)=>[oP 3 g.1,oP 4 g.2.1,oP 5 g.2.2.1,oP 7 g.2.2.2.1,oP 8 g.2.2.2.2.1,oP 9 g.2.2.2.2.2,(38,.agg [Mk d.a,Mk d.b,Mk d.c]),oI 39 s]) (O:=λ_ g=>[(3,dV g.1 1 28 (.agg [.sl (h.Funcs.map NU)])),(4,dV g.2.1 3 57 (NU f)),(5,dV g.2.2.1 5 53 (Oj e)),(7,dV g.2.2.2.1 4 228 (XN d)),(8,dV g.2.2.2.2.1 3 230 (.agg [Mk d.a,Mk d.b,Mk d.c])),(9,dV g.2.2.2.2.2 3 231 (.agg [Mk e.A,Mk e.B,Mk e.C]))]) (_,_,_,_,_,_) hX<|?_
  rintro o ⟨ag,ah,ai,aj,ak,ao⟩ nn;dsimp only[Uh];refine Ac 6 ?_ ?_
  ·refine A 7 ?_;refine cK λhq=>bD λp t=>AlT (q:=p) (l:=(QY.mk d.a d.b d.c).toList) (en:=Av) r r r hq (by exact Nat.le_refl _) t<|?_
   refine A 9 ?_;refine Qy r ?_ ?_
   ·refine A 1 ?_;refine cK λhq=>Sb r r r hq<|bD λu v=>RN (q:=u) (l:=(QY.mk e.A e.B e.C).toList) (en:=Av) (j:=o.toNat) (by simp) r r r v r (λ_=>r)<|?_
    exact B
   ·exact B
  ·refine A 5 ?_;refine sC (E:=λ(_s:Unit) (g:Nat×Nat×Nat×Nat×Nat)=>[oP 3 g.1,oP 4 g.2.1,oP 5 g.2.2.1,oP 8 g.2.2.2.1,oP 9 g.2.2.2.2]) (O:=λ_ g=>[(3,dV g.1 1 28 (.agg [.sl (h.Funcs.map NU)])),(4,dV g.2.1 3 57 (NU f)),(5,dV g.2.2.1 5 53 (Oj e)),(8,dV g.2.2.2.1 3 230 (.agg [Mk d.a,Mk d.b,Mk d.c])),(9,dV g.2.2.2.2 3 231 (.agg [Mk e.A,Mk e.B,Mk e.C]))]) (j:=λ_=>Uj h f d e) ?_ ?_
   ·exact B
   ·rintro⟨⟩ ⟨ap,aq,ar,au,av⟩ nn;dsimp only[Uj];refine Ab 4 λi aw=>?_
    refine A 18 ?_;refine lP (E:=λ(s:Int×Int) (g:Nat×Nat×Nat×Nat)=>[oP 4 g.1,oP 5 g.2.1,oP 9 g.2.2.1,oP 12 g.2.2.2,oI 13 s.1,(63,.agg [Mk d.a,Mk d.b,Mk d.c]),oI 64 s.2]) (O:=λ_ g=>[(4,dV g.1 3 57 (NU f)),(5,dV g.2.1 5 53 (Oj e)),(9,dV g.2.2.1 3 231 (.agg [Mk e.A,Mk e.B,Mk e.C])),(12,dV g.2.2.2 7 232 (AfV i))]) (_,_,_,_) hX<|?_
    rintro⟨ax,x⟩ ⟨ay,az,ba,bb⟩ nn;dsimp only[Ui];refine Ac 6 ?_ ?_
    ·refine A 7 ?_;refine cK λhq=>bD λk z=>AlT (q:=k) (l:=(QY.mk d.a d.b d.c).toList) (en:=Av) r r r hq (by exact Nat.le_refl _) z<|?_
     refine A 8 ?_;refine cK λhq=>Sb r r r hq<|bD λaa ab=>RN (q:=aa) (l:=(QY.mk e.A e.B e.C).toList) (en:=Av) (j:=x.toNat) (by simp) r r r ab r (λ_=>r)<|?_
     refine A 1 ?_;refine cK λhq=>Sb r r r hq<|bD λac ad=>RN (q:=ac) (l:=i.toList) (en:=Av) (j:=k.toNat) (by simp) r r r ad r (λ_=>r)<|bD λbc bd=>?_
     exact B
    ·exact B

def Qm (a:(List Int)×Oh):List D:=[.sl (a.1.map Av),.clo 144 [.fptr (.fptr (OP a.2) 0) 0]]
def Ql (ds:List D):(List Int)×Oh:=((uL uI) (ds.getD 0 .top),Re (fpD (fpD (Aok (ds.getD 1 .top) 0))))
instance:PT Qm Ql:=⟨λa=>by simp[Ql,Qm,fpD,Aok,QL (u:=uI) (en:=Av) (λ_=>rfl)]⟩
noncomputable def TD:Dw.Spec:=Ow [] .ground Qm Ql (λa=>QN a.1 a.2) Oy noE
theorem XV:NM Tryz.prog 206 TD:=by
 refine fn2 2 (nK 144 AfI<|NK) Tryz.func206<|?_;rintro⟨a,b⟩;unfold QN;refine A 14 ?_;refine lP (E:=λ(s:Int) (_g:Unit)=>[oM 0 a Av,(1,.clo 144 [.fptr (.fptr (OP b) 0) 0]),oL 7 a,oI 8 s]) (O:=λ_ _=>[]) () hX<|?_
 rintro c ⟨⟩ nn;dsimp only[Te];exact B

noncomputable def SP:Dw.Spec:=Ow [] .ground Qm Ql (λa=>Qp a.1 a.2) Od noE
theorem Xf:NM Tryz.prog 143 SP:=by
 refine fn2 2 (nK 594126 XV<|NK) Tryz.func143<|?_;rintro⟨a,b⟩;unfold Qp;refine A 9 ?_;refine bD λd c=>cG (a,b) rfl rfl (show _=some TD from by kernel_rfl) PT.ok rfl rfl (by simp) r c r<|?_
 exact B

theorem Aki:NM Tryz.prog 86 (fS .ground Wa (λa=>Xz a.1 a.2) Od):=by
 refine fn2 2 (nK 139 Aac<|nK 594063 Xf<|NK) Tryz.func86<|?_;rintro⟨c,e⟩;unfold Xz;refine Ab 8 λb f=>?_
 refine A 4 ?_;refine RE (E:=[oM 0 c Av,(5,.fptr (.fptr (OP b) 0) 0)]) (O:=[]) ((hV 7 r (hV 5 r (hY)))) λnn=>?_
 refine A 3 ?_;refine mF (caps:=[.fptr (.fptr (OP b) 0) 0]) r r (by simp[Vh])<|bD λg d=>cG (c,b) rfl rfl (show _=some SP from by kernel_rfl) PT.ok rfl rfl (by simp) r d r<|?_
 exact B

theorem AiO:NM Tryz.prog 87 (fS .ground Ve (λa=>Yz a.1 a.2) Oy):=by
 refine fn2 2 (NK) Tryz.func87<|?_;rintro⟨c,d⟩;unfold Yz;refine Ab 17 λb e=>?_
 refine A 8 ?_;refine lP (E:=λ(s:Int×Int) (g:Nat)=>[oP 2 g,oI 5 s.2,oM 13 b.Code Oj,oL 14 b.Code,oI 15 s.1]) (O:=λ_ g=>[(2,dV g 1 28 (.agg [.sl (c.Funcs.map NU)]))]) _ hX<|?_
 rintro⟨f,h⟩ i nn;dsimp only[AiN];exact B

def PC (a:(List Int)):List D:=[.sl (a.map Av),.clo 221 []]
def Qc (ds:List D):(List Int):=(uL uI) (ds.getD 0 .top)
instance:PT PC Qc:=⟨λa=>by simp[Qc,PC,QL (u:=uI) (en:=Av) (λ_=>rfl)]⟩
noncomputable def SQ:Dw.Spec:=Ow [] .ground PC Qc (λa=>PO a) Oy noE
theorem Xg:NM Tryz.prog 206 SQ:=by
 refine fn2 2 (nK 221 Agc<|NK) Tryz.func206<|?_;intro a;unfold PO;refine A 14 ?_;refine lP (E:=λ(s:Int) (_g:Unit)=>[oM 0 a Av,(1,.clo 221 []),oL 7 a,oI 8 s]) (O:=λ_ _=>[]) () hX<|?_
 rintro b ⟨⟩ nn;dsimp only[QX];exact B

noncomputable def Sm:Dw.Spec:=Ow [] .ground PC Qc (λa=>PD a) Od noE
theorem Wx:NM Tryz.prog 143 Sm:=by
 refine fn2 2 (nK 909518 Xg<|NK) Tryz.func143<|?_;intro a;unfold PD;refine A 9 ?_;refine bD λc b=>cG a rfl rfl (show _=some SQ from by kernel_rfl) PT.ok rfl rfl (by simp) r b r<|?_
 exact B

abbrev Ahh:=en2 Qh Oj
abbrev AqO:=de2 Wy Sl
theorem AhT:NM Tryz.prog 168 (fS .ground Ahh (λa=>Pm a.1 a.2) Oy):=by
 refine fn2 2 (nK 169 Aby<|nK 219 Amm<|nK 220 AjE<|nK 909455 Wx<|nK 222 Agd<|nK 202 AhF<|nK 223 AnD<|nK 224 Amk<|nK 225 Akp<|NK) Tryz.func168<|?_;rintro⟨b,c⟩;unfold Pm;refine A 7 ?_;refine sC (E:=λ(_s:Unit) (g:Nat×Nat)=>[oP 2 g.1,oP 3 g.2]) (O:=λ_ g=>[(2,dV g.1 5 149 (Qh b)),(3,dV g.2 5 53 (Oj c))]) (j:=λ_=>Pe c b) ?_ ?_
 ·exact B
 ·rintro⟨⟩ ⟨f,h⟩ nn;dsimp only[Pe];refine Ab 4 λi k=>?_
  refine Ac 3 ?_ ?_
  ·exact B
  ·refine A 2 ?_;refine sC (E:=λ(_s:Unit) (g:Nat×Nat)=>[oP 2 g.1,oP 3 g.2]) (O:=λ_ g=>[(2,dV g.1 5 149 (Qh b)),(3,dV g.2 5 53 (Oj c))]) (j:=λ_=>OY c b) ?_ ?_
   ·refine Ab 3 λd l=>?_
    refine A 1 ?_;refine bD λm e=>cG d rfl rfl (show _=some Sm from by kernel_rfl) PT.ok rfl rfl (by simp) (by first|rfl|(simp only[NN];rfl)|(simp only[NP];rfl)|(simp only[NN,NP];rfl)|simp[PC]) e r<|?_
    exact B
   ·rintro⟨⟩ ⟨o,p⟩ nn;dsimp only[OY];refine sC (E:=λ(_s:Unit) (g:Nat×Nat)=>[oP 2 g.1,oP 3 g.2]) (O:=λ_ g=>[(2,dV g.1 5 149 (Qh b)),(3,dV g.2 5 53 (Oj c))]) (j:=λ_=>OZ b c) ?_ ?_
    ·exact B
    ·rintro⟨⟩ ⟨q,s⟩ nn;dsimp only[OZ];refine Ab 5 λt u=>?_
     refine Ab 14 λv x=>?_
     refine A 9 ?_;refine sC (E:=λ(_s:Unit) (g:Nat×Nat)=>[oP 2 g.1,oP 3 g.2]) (O:=λ_ g=>[(2,dV g.1 5 149 (Qh b)),(3,dV g.2 5 53 (Oj c))]) (j:=λ_=>OM c b) ?_ ?_
     ·exact B
     ·rintro⟨⟩ ⟨z,aa⟩ nn;dsimp only[OM];exact B

end Go.Proofs.YtmmchhpdaogopaaGreatDoor
