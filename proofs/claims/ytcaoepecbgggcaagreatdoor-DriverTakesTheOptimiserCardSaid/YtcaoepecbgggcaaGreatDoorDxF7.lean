/-
 The code does what its typed programs say.
-/
import Derived.Test.YtcaoepecbgggcaaGreatDoorDxF3
import Derived.Test.YtcaoepecbgggcaaGreatDoorDxF4
namespace Go.Proofs.YtcaoepecbgggcaaGreatDoor
open Go Go.Dw Go.Proofs
open Go.IntKind (i64)
set_option maxRecDepth 100000
set_option maxHeartbeats 40000000
open Go.Dw renaming ON -> bD,Qa -> cK,Sj -> cG,PL -> cD,QZ -> xC,Pn -> xL,Qb -> lP,PI -> sC,Acl -> mF,rf -> r
def Afk (a:NM×Lo×Mk):List D:=[Rc a.1,NR a.2.1,NY a.2.2]
def Afj (ds:List D):NM×Lo×Mk:=(Tt (ds.getD 0 .top),RD (ds.getD 1 .top),SR (ds.getD 2 .top))
instance:Od Afk Afj:=⟨λa=>by simp[Afj,Afk]⟩
noncomputable def Atg:Dw.Spec:=NO [] .ground Afk Afj (λa=>WY a.1 a.2.1 a.2.2) NJ noE
theorem Asi:NK Tryz.prog 229 Atg:=by
 refine fn2 3 (nK 228 AjN<|nK 266 AqF<|NG) Tryz.func229<|?_;rintro⟨h,f,e⟩;unfold WY;refine Ab 13 λr4 af=>?_
 refine Ac 4 ?_ ?_
 ·exact B
 ·refine A 6 ?_;refine cK λhq=>Axh (kk:=228) (TB.map λq=>SZ.mk q.1 q.2.1 q.2.2.1 q.2.2.2) (λq=>cells (Abf q)) r r r hq r<|bD λd m=>Asv (q:=d) (l:=(TB.map λq=>SZ.mk q.1 q.2.1 q.2.2.1 q.2.2.2)) (c:=λq=>cells (Abf q)) (j:=e.Op.toNat) 0 100 (λ_=>r) r r r r r r m r<|?_
  refine A 34 ?_;refine lP (E:=λ(s:Int) (g:Nat×Nat×Nat×Nat×Nat×Nat)=>[(3,.optr 3 g.1 0 0),(4,.optr 4 g.2.1 0 0),(5,.optr 5 g.2.2.1 0 0),(7,.optr 7 g.2.2.2.1 0 0),(8,.optr 8 g.2.2.2.2.1 0 0),(9,.optr 9 g.2.2.2.2.2 0 0),(38,.agg [Av d.a,Av d.b,Av d.c]),(39,Av s)]) (O:=λ_ g=>[(3,dV g.1 1 28 (.agg [.sl (h.Funcs.map NR)])),(4,dV g.2.1 3 36 (NR f)),(5,dV g.2.2.1 5 90 (NY e)),(7,dV g.2.2.2.1 4 259 (Abf d)),(8,dV g.2.2.2.2.1 3 261 (.agg [Av d.a,Av d.b,Av d.c])),(9,dV g.2.2.2.2.2 3 262 (.agg [Av e.A,Av e.B,Av e.C]))]) (_,_,_,_,_,_) hX<|?_
  rintro o ⟨ag,ah,ai,aj,ak,ao⟩ nn;dsimp only[VL];refine Ac 6 ?_ ?_
  ·refine A 7 ?_;refine cK λhq=>bD λp t=>Aoj (q:=p) (l:=(QL.mk d.a d.b d.c).toList) (en:=NF) r r r hq (by exact Nat.le_refl _) t<|?_
   refine A 9 ?_;refine RS r ?_ ?_
   ·refine A 1 ?_;refine cK λhq=>QD r r r hq<|bD λu v=>Qy (q:=u) (l:=(QL.mk e.A e.B e.C).toList) (en:=NF) (j:=o.toNat) (by simp) r r r v r (λ_=>r)<|?_
    exact B
   ·exact B
  ·refine A 5 ?_;refine sC (E:=λ(_s:Unit) (g:Nat×Nat×Nat×Nat×Nat)=>[(3,.optr 3 g.1 0 0),(4,.optr 4 g.2.1 0 0),(5,.optr 5 g.2.2.1 0 0),(8,.optr 8 g.2.2.2.1 0 0),(9,.optr 9 g.2.2.2.2 0 0)]) (O:=λ_ g=>[(3,dV g.1 1 28 (.agg [.sl (h.Funcs.map NR)])),(4,dV g.2.1 3 36 (NR f)),(5,dV g.2.2.1 5 90 (NY e)),(8,dV g.2.2.2.1 3 261 (.agg [Av d.a,Av d.b,Av d.c])),(9,dV g.2.2.2.2 3 262 (.agg [Av e.A,Av e.B,Av e.C]))]) (j:=λ_=>Tm h f d e) ?_ ?_
   ·exact B
   ·rintro⟨⟩ ⟨ap,aq,ar,au,av⟩ nn;dsimp only[Tm];refine Ab 4 λi aw=>?_
    refine A 18 ?_;refine lP (E:=λ(s:Int×Int) (g:Nat×Nat×Nat×Nat)=>[(4,.optr 4 g.1 0 0),(5,.optr 5 g.2.1 0 0),(9,.optr 9 g.2.2.1 0 0),(12,.optr 12 g.2.2.2 0 0),(13,Av s.1),(63,.agg [Av d.a,Av d.b,Av d.c]),(64,Av s.2)]) (O:=λ_ g=>[(4,dV g.1 3 36 (NR f)),(5,dV g.2.1 5 90 (NY e)),(9,dV g.2.2.1 3 262 (.agg [Av e.A,Av e.B,Av e.C])),(12,dV g.2.2.2 7 263 (Alo i))]) (_,_,_,_) hX<|?_
    rintro⟨ax,x⟩ ⟨ay,az,ba,bb⟩ nn;dsimp only[VM];refine Ac 6 ?_ ?_
    ·refine A 7 ?_;refine cK λhq=>bD λk z=>Aoj (q:=k) (l:=(QL.mk d.a d.b d.c).toList) (en:=NF) r r r hq (by exact Nat.le_refl _) z<|?_
     refine A 8 ?_;refine cK λhq=>QD r r r hq<|bD λaa ab=>Qy (q:=aa) (l:=(QL.mk e.A e.B e.C).toList) (en:=NF) (j:=x.toNat) (by simp) r r r ab r (λ_=>r)<|?_
     refine A 1 ?_;refine cK λhq=>QD r r r hq<|bD λac ad=>Qy (q:=ac) (l:=i.toList) (en:=NF) (j:=k.toNat) (by simp) r r r ad r (λ_=>r)<|bD λbc bd=>?_
     exact B
    ·exact B

def Rv (a:Lo×NV):List D:=[NR a.1,Acg a.2]
def Ru (ds:List D):Lo×NV:=(RD (ds.getD 0 .top),Acm (ds.getD 1 .top))
instance:Od Rv Ru:=⟨λa=>by simp[Ru,Rv]⟩
noncomputable def Aoe:Dw.Spec:=NO [] .ground Rv Ru (λa=>Wq a.1 a.2) NJ noE
theorem AbU:NK Tryz.prog 93 Aoe:=by
 refine fn2 2 (nK 155 AlE<|nK 156 AjX<|NG) Tryz.func93<|?_;rintro⟨b,a⟩;unfold Wq;refine A 7 ?_;refine sC (E:=λ(_s:Unit) (g:Nat×Nat)=>[(2,.optr 2 g.1 0 0),(3,.optr 3 g.2 0 0)]) (O:=λ_ g=>[(2,dV g.1 3 36 (NR b)),(3,dV g.2 2 48 (.agg [.sl (a.To.map NF),.sl (a.Keep.map D.bool)]))]) (j:=λ_=>AbT b a) ?_ ?_
 ·exact B
 ·rintro⟨⟩ ⟨c,d⟩ nn;dsimp only[AbT];refine A 10 ?_;refine lP (E:=λ(s:Int) (g:Nat)=>[(3,.optr 3 g 0 0),(22,.sl (b.Code.map NY)),(23,Av (b.Code.length:Int)),(24,Av s)]) (O:=λ_ g=>[(3,dV g 2 48 (.agg [.sl (a.To.map NF),.sl (a.Keep.map D.bool)]))]) _ hX<|?_
  rintro e f nn;dsimp only[Agy];exact B

def Pa (a:(List Mk)×OW×Oz):List D:=[.sl (a.1.map NY),.clo 246 [.fptr (Adz a.2.1) 0,.fptr (Qo a.2.2) 0]]
def OZ (ds:List D):(List Mk)×OW×Oz:=((uL SR) (ds.getD 0 .top),Aed (fpD (AeV (ds.getD 1 .top) 0)),YV (fpD (AeV (ds.getD 1 .top) 1)))
instance:Od Pa OZ:=⟨λa=>by simp[OZ,Pa,fpD,AeV,OE (u:=SR) (en:=NY) AbY]⟩
noncomputable def Rk:Dw.Spec:=NO [] .ground Pa OZ (λa=>OP a.1 a.2.1 a.2.2) NJ noE
theorem Uz:NK Tryz.prog 275 Rk:=by
 refine fn2 2 (nK 246 AeL<|NG) Tryz.func275<|?_;rintro⟨a,b,c⟩;unfold OP;refine A 14 ?_;refine lP (E:=λ(s:Int) (_g:Unit)=>[(0,.sl (a.map NY)),(1,.clo 246 [.fptr (.agg [Av b.Align,.sl (b.Frames.map OQ)]) 0,.fptr (Qo c) 0]),(7,Av (a.length:Int)),(8,Av s)]) (O:=λ_ _=>[]) () hX<|?_
 rintro d ⟨⟩ nn;dsimp only[PQ];exact B

noncomputable def QV:Dw.Spec:=NO [] .ground Pa OZ (λa=>Pe a.1 a.2.1 a.2.2) NX noE
theorem Ub:NK Tryz.prog 245 QV:=by
 refine fn2 2 (nK 1011987 Uz<|NG) Tryz.func245<|?_;rintro⟨a,b,c⟩;unfold Pe;refine A 9 ?_;refine bD λe d=>cG (a,b,c) rfl rfl (show _=some Rk from by kernel_rfl) Od.ok rfl rfl (by simp) r d r<|?_
 exact B

def Yq (a:Oz×OW):List D:=[Qo a.1,Adz a.2]
def Yp (ds:List D):Oz×OW:=(YV (ds.getD 0 .top),Aed (ds.getD 1 .top))
instance:Od Yq Yp:=⟨λa=>by simp[Yp,Yq]⟩
noncomputable def AkX:Dw.Spec:=NO [] .ground Yq Yp (λa=>VJ a.1 a.2) NX noE
theorem AjY:NK Tryz.prog 182 AkX:=by
 refine fn2 2 (nK 1011957 Ub<|NG) Tryz.func182<|?_;rintro⟨b,a⟩;unfold VJ;refine A 6 ?_;refine Qq (E:=[(2,.fptr (Qo b) 0),(3,.fptr (.agg [Av a.Align,.sl (a.Frames.map OQ)]) 0)]) (O:=[]) ((hV 2 r (hV 3 r (hY)))) λnn=>?_
 refine A 5 ?_;refine mF (caps:=[.fptr (.agg [Av a.Align,.sl (a.Frames.map OQ)]) 0,.fptr (Qo b) 0]) r r (by simp[SO])<|bD λd c=>cG (b.Frame.Code,a,b) rfl rfl (show _=some QV from by kernel_rfl) Od.ok rfl rfl (by simp) r c r<|?_
 exact B

noncomputable def AqC:Dw.Spec:=NO [] .ground Rv Ru (λa=>Abp a.1 a.2) NJ noE
theorem Apb:NK Tryz.prog 76 AqC:=by
 refine fn2 2 (nK 140 AoZ<|nK 141 AeN<|NG) Tryz.func76<|?_;rintro⟨b,a⟩;unfold Abp;refine A 7 ?_;refine sC (E:=λ(_s:Unit) (g:Nat×Nat)=>[(2,.optr 2 g.1 0 0),(3,.optr 3 g.2 0 0)]) (O:=λ_ g=>[(2,dV g.1 3 36 (NR b)),(3,dV g.2 2 48 (.agg [.sl (a.To.map NF),.sl (a.Keep.map D.bool)]))]) (j:=λ_=>Aav b a) ?_ ?_
 ·exact B
 ·rintro⟨⟩ ⟨c,d⟩ nn;dsimp only[Aav];refine A 7 ?_;refine lP (E:=λ(s:Int) (g:Nat×Nat)=>[(2,.optr 2 g.1 0 0),(3,.optr 3 g.2 0 0),(5,Av s)]) (O:=λ_ g=>[(2,dV g.1 3 36 (NR b)),(3,dV g.2 2 48 (.agg [.sl (a.To.map NF),.sl (a.Keep.map D.bool)]))]) (_,_) hX<|?_
  rintro k3 ⟨e,f⟩ nn;dsimp only[AdZ];exact B

def Afc (a:(List NU)×Int×Int×Int):List D:=[.sl (a.1.map PX),Av a.2.1,Av a.2.2.1,Av a.2.2.2]
def Afb (ds:List D):(List NU)×Int×Int×Int:=((uL Uy) (ds.getD 0 .top),uI (ds.getD 1 .top),uI (ds.getD 2 .top),uI (ds.getD 3 .top))
instance:Od Afc Afb:=⟨λa=>by simp[Afb,Afc,uI,OE (u:=Uy) (en:=PX) Amq]⟩
noncomputable def AsZ:Dw.Spec:=NO [] .ground Afc Afb (λa=>AeM a.1 a.2.1 a.2.2.1 a.2.2.2) VB noE
theorem ArK:NK Tryz.prog 203 AsZ:=by
 refine fn2 4 (nK 130 Aan<|nK 68 AdM<|nK 204 AdN<|nK 83 AhL<|nK 252 Aqg<|NG) Tryz.func203<|?_;rintro⟨b,a,c,d⟩;unfold AeM;refine A 6 ?_;refine sC (E:=λ(_s:Unit) (_g:Unit)=>[(0,.sl (b.map PX)),(1,Av a),(2,Av c),(3,Av d)]) (O:=λ_ _=>[]) (j:=λ_=>Agj b d c a) ?_ ?_
 ·exact B
 ·rintro⟨⟩ ⟨⟩ nn;dsimp only[Agj];refine A 7 ?_;refine lP (E:=λ(s:Int) (_g:Unit)=>[(0,.sl (b.map PX)),(1,Av a),(2,Av c),(3,Av d),(10,Av s)]) (O:=λ_ _=>[]) () hX<|?_
  rintro k ⟨⟩ nn;dsimp only[Alf];refine Ac 9 ?_ ?_
  ·exact B
  ·refine A 18 ?_;refine lP (E:=λ(s:Int×Bool×Int) (_g:Unit)=>[(0,.sl (b.map PX)),(1,Av a),(2,Av c),(3,Av d),(11,Av s.1),(12,.bool s.2.1),(13,Av s.2.2)]) (O:=λ_ _=>[]) () hX<|?_
   rintro⟨e,f,g⟩ ⟨⟩ nn;dsimp only[Alg];refine Ac 9 ?_ ?_
   ·refine A 10 ?_;refine sC (E:=λ(s:Int) (_g:Unit)=>[(0,.sl (b.map PX)),(1,Av a),(2,Av c),(3,Av d),(11,Av e),(12,.bool f),(13,Av g),(14,Av s)]) (O:=λ_ _=>[]) (j:=λs=>XV d c b f g e s) ?_ ?_
    ·refine Ac 6 ?_ ?_
     ·refine Ab 4 λh l=>?_
      refine Ab 5 λi m=>?_
      refine A 7 ?_;exact xC (s:=OI a (i64.wrap (h.Off+i.Size))) () hX
     ·refine A 1 ?_;exact xC (s:=a) () hX
    ·rintro o ⟨⟩ nn;dsimp only[XV];exact B
   ·exact B

end Go.Proofs.YtcaoepecbgggcaaGreatDoor
