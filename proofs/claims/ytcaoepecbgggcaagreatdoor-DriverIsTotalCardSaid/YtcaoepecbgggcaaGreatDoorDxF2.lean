/-
 The code does what its typed programs say.
-/
import Derived.Test.YtcaoepecbgggcaaGreatDoorDxF1
namespace Go.Proofs.YtcaoepecbgggcaaGreatDoor
open Go Go.Dw Go.Proofs
open Go.IntKind (i64)
set_option maxRecDepth 100000
set_option maxHeartbeats 40000000
open Go.Dw renaming QN -> bD,QW -> cK,Ya -> bS,Uy -> cG,Vs -> cD,YA -> xC,UF -> xL,XG -> lP,Vg -> sC,AhY -> mF,rf -> r
noncomputable section
abbrev Vw:=en1 (eL Oo)
abbrev AvH:=de1 (uL Yb)
theorem Agc:Ns Tryz.prog 148 (fS .ground Vw (λa=>Uj a) Nr):=by
 refine fn2 1 (nK 856271 VE<|Np) Tryz.func148<|?_;intro b;unfold Uj;refine Ac 13 ?_ ?_
 ·exact B
 ·refine A 6 ?_;refine bD λd c=>cG b rfl rfl (show _=some RI from by kernel_rfl) OZ.ok rfl rfl (by simp) r c r<|?_
  exact B

abbrev Ajd:=en3 Pz Nz NG
abbrev Ayf:=de3 Rp Re RR
theorem AqS:Ns Tryz.prog 229 (fS .ground Ajd (λa=>RD a.1 a.2.1 a.2.2) Nr):=by
 refine fn2 3 (nK 228 Aje<|nK 266 Apy<|Np) Tryz.func229<|?_;rintro⟨h,f,e⟩;unfold RD;refine Ab 13 λr4 af=>?_
 refine Ac 4 ?_ ?_
 ·exact B
 ·refine A 6 ?_;refine cK λhq=>AwB (kk:=228) (Ro.map λq=>RF.mk q.1 q.2.1 q.2.2.1 q.2.2.2) (λq=>cells (Yu q)) r r r hq r<|bD λd m=>Arb (q:=d) (l:=(Ro.map λq=>RF.mk q.1 q.2.1 q.2.2.1 q.2.2.2)) (c:=λq=>cells (Yu q)) (j:=e.Op.toNat) 0 100 (λ_=>r) r r r r r r m r<|?_
  refine A 34 ?_;refine lP (E:=λ(s:Int) (g:Nat×Nat×Nat×Nat×Nat×Nat)=>[oP 3 g.1,oP 4 g.2.1,oP 5 g.2.2.1,oP 7 g.2.2.2.1,oP 8 g.2.2.2.2.1,oP 9 g.2.2.2.2.2,(38,.agg [Nn d.a,Nn d.b,Nn d.c]),oI 39 s]) (O:=λ_ g=>[(3,dV g.1 1 28 (.agg [.sl (h.Funcs.map Nz)])),(4,dV g.2.1 3 36 (Nz f)),(5,dV g.2.2.1 5 90 (NG e)),(7,dV g.2.2.2.1 4 259 (Yu d)),(8,dV g.2.2.2.2.1 3 261 (.agg [Nn d.a,Nn d.b,Nn d.c])),(9,dV g.2.2.2.2.2 3 262 (.agg [Nn e.A,Nn e.B,Nn e.C]))]) (_,_,_,_,_,_) hX<|?_
  rintro o ⟨ag,ah,ai,aj,ak,ao⟩ nn;dsimp only[QJ];refine Ac 6 ?_ ?_
  ·refine A 7 ?_;refine cK λhq=>bD λp t=>Anx (q:=p) (l:=(Qd.mk d.a d.b d.c).toList) (en:=Lo) r r r hq (by exact Nat.le_refl _) t<|?_
   refine A 9 ?_;refine RL r ?_ ?_
   ·refine A 1 ?_;refine cK λhq=>QA r r r hq<|bD λu v=>Qs (q:=u) (l:=(Qd.mk e.A e.B e.C).toList) (en:=Lo) (j:=o.toNat) (by simp) r r r v r (λ_=>r)<|?_
    exact B
   ·exact B
  ·refine A 5 ?_;refine sC (E:=λ(_s:Unit) (g:Nat×Nat×Nat×Nat×Nat)=>[oP 3 g.1,oP 4 g.2.1,oP 5 g.2.2.1,oP 8 g.2.2.2.1,oP 9 g.2.2.2.2]) (O:=λ_ g=>[(3,dV g.1 1 28 (.agg [.sl (h.Funcs.map Nz)])),(4,dV g.2.1 3 36 (Nz f)),(5,dV g.2.2.1 5 90 (NG e)),(8,dV g.2.2.2.1 3 261 (.agg [Nn d.a,Nn d.b,Nn d.c])),(9,dV g.2.2.2.2 3 262 (.agg [Nn e.A,Nn e.B,Nn e.C]))]) (j:=λ_=>QL h f d e) ?_ ?_
   ·exact B
   ·rintro⟨⟩ ⟨ap,aq,ar,au,av⟩ nn;dsimp only[QL];refine Ab 4 λi aw=>?_
    refine A 18 ?_;refine lP (E:=λ(s:Int×Int) (g:Nat×Nat×Nat×Nat)=>[oP 4 g.1,oP 5 g.2.1,oP 9 g.2.2.1,oP 12 g.2.2.2,oI 13 s.1,(63,.agg [Nn d.a,Nn d.b,Nn d.c]),oI 64 s.2]) (O:=λ_ g=>[(4,dV g.1 3 36 (Nz f)),(5,dV g.2.1 5 90 (NG e)),(9,dV g.2.2.1 3 262 (.agg [Nn e.A,Nn e.B,Nn e.C])),(12,dV g.2.2.2 7 263 (Aho i))]) (_,_,_,_) hX<|?_
    rintro⟨ax,x⟩ ⟨ay,az,ba,bb⟩ nn;dsimp only[QK];refine Ac 6 ?_ ?_
    ·refine A 7 ?_;refine cK λhq=>bD λk z=>Anx (q:=k) (l:=(Qd.mk d.a d.b d.c).toList) (en:=Lo) r r r hq (by exact Nat.le_refl _) z<|?_
     refine A 8 ?_;refine cK λhq=>QA r r r hq<|bD λaa ab=>Qs (q:=aa) (l:=(Qd.mk e.A e.B e.C).toList) (en:=Lo) (j:=x.toNat) (by simp) r r r ab r (λ_=>r)<|?_
     refine A 1 ?_;refine cK λhq=>QA r r r hq<|bD λac ad=>Qs (q:=ac) (l:=i.toList) (en:=Lo) (j:=k.toNat) (by simp) r r r ad r (λ_=>r)<|bD λbc bd=>?_
     exact B
    ·exact B

abbrev WX:=en1 (eL Lo)
abbrev Ava:=de1 (uL uI)
def AmP (b:Nu):D:=NL b
theorem Sp:Ns Tryz.prog 219 (fS (.ptr 8 255) WX (λa=>QH a) AmP):=by
 refine fn2 1 (nK 231 Xh<|Np) Tryz.func219<|?_;intro b;unfold QH;refine A 21 ?_;refine lP (E:=λ(s:Nu×Int) (g:Nat)=>[(3,.optr 7 g 0 0),oM 8 b Lo,oL 9 b,oI 10 s.2]) (O:=λs g=>[(7,dV g 8 255 (NL s.1))]) _ hX<|?_
 rintro⟨c,d⟩ e nn;dsimp only[AeN];exact B

abbrev RM:=en2 (eL Lo) Lo
abbrev AnH:=de2 (uL uI) uI
theorem Apc:Ns Tryz.prog 172 (fS .ground RM (λa=>Abo a.1 a.2) NH):=by
 refine fn2 2 (nK 219 Sp<|nK 232 Ahc<|Np) Tryz.func172<|?_;intro a;unfold Abo;exact B

def Qh (a:(List Int)×Nu):List D:=[.sl (a.1.map Lo),.clo 234 [.fptr (.fptr (NL a.2) 0) 0]]
def Qg (ds:List D):(List Int)×Nu:=((uL uI) (ds.getD 0 .top),PE (fpD (fpD (AdN (ds.getD 1 .top) 0))))
instance:OZ Qh Qg:=⟨λa=>by simp[Qg,Qh,fpD,AdN,Qe (u:=uI) (en:=Lo) (λ_=>rfl)]⟩
def TS:Dw.Spec:=NU [] .ground Qh Qg (λa=>Qz a.1 a.2) Nr noE
theorem YC:Ns Tryz.prog 267 TS:=by
 refine fn2 2 (nK 234 Ahb<|Np) Tryz.func267<|?_;rintro⟨a,b⟩;unfold Qz;refine A 14 ?_;refine lP (E:=λ(s:Int) (_g:Unit)=>[oM 0 a Lo,(1,.clo 234 [.fptr (.fptr (NL b) 0) 0]),oL 7 a,oI 8 s]) (O:=λ_ _=>[]) () hX<|?_
 rintro c ⟨⟩ nn;dsimp only[TA];exact B

def Tf:Dw.Spec:=NU [] .ground Qh Qg (λa=>Qi a.1 a.2) NH noE
theorem XI:Ns Tryz.prog 233 Tf:=by
 refine fn2 2 (nK 962827 YC<|Np) Tryz.func233<|?_;rintro⟨a,b⟩;unfold Qi;refine A 9 ?_;refine bD λd c=>cG (a,b) rfl rfl (show _=some TS from by kernel_rfl) OZ.ok rfl rfl (by simp) r c r<|?_
 exact B

abbrev Tk:=en2 (eL Lo) (eL Lo)
abbrev AuZ:=de2 (uL uI) (uL uI)
theorem AlX:Ns Tryz.prog 173 (fS .ground Tk (λa=>Yd a.1 a.2) NH):=by
 refine fn2 2 (nK 219 Sp<|nK 962793 XI<|Np) Tryz.func173<|?_;rintro⟨c,e⟩;unfold Yd;refine Ab 8 λb f=>?_
 refine A 4 ?_;refine Qc (E:=[oM 0 c Lo,(5,.fptr (.fptr (NL b) 0) 0)]) (O:=[]) ((hV 7 r (hV 5 r (hY)))) λnn=>?_
 refine A 3 ?_;refine mF (caps:=[.fptr (.fptr (NL b) 0) 0]) r r (by simp[SE])<|bD λg d=>cG (c,b) rfl rfl (show _=some Tf from by kernel_rfl) OZ.ok rfl rfl (by simp) r d r<|?_
 exact B

def Ow (b:(List Int)):D:=.sl (b.map Lo)
def AjD:Dw.Spec:=NU [] (.row 1 3) RM AnH (λa=>Abn a.1 a.2) Ow noE
theorem AiK:Ns Tryz.prog 171 AjD:=by
 refine fn2 2 (nK 219 Sp<|nK 231 Xh<|nK 220 Sd<|Np) Tryz.func171<|?_;intro a;unfold Abn;exact B

theorem AmY:Ns Tryz.prog 87 (fS .ground Vw (λa=>Xq a) Nr):=by
 refine fn2 1 (nK 148 Agc<|Np) Tryz.func87<|?_;intro b;unfold Xq;refine Ab 14 λc d=>?_
 refine Ac 4 ?_ ?_
 ·refine A 8 ?_;refine lP (E:=λ(s:Int×Int) (_g:Unit)=>[oI 3 s.2,oM 9 b Oo,oL 10 b,oI 11 s.1]) (O:=λ_ _=>[]) () hX<|?_
  rintro⟨e,f⟩ ⟨⟩ nn;dsimp only[AbB];exact B
 ·exact B

theorem Aqk:Ns Tryz.prog 152 (fS .ground TO (λa=>Ady a.1 a.2) Nr):=by
 refine fn2 2 (Np) Tryz.func152<|?_;intro a;unfold Ady;exact B

theorem Ake:Ns Tryz.prog 89 (fS .ground TO (λa=>Abe a.1 a.2) Vx):=by
 refine fn2 2 (nK 149 AbD<|nK 150 YI<|nK 152 Aqk<|nK 151 Aej<|Np) Tryz.func89<|?_;rintro⟨b,c⟩;unfold Abe;refine A 6 ?_;refine sC (E:=λ(_s:Unit) (_g:Unit)=>[oI 0 b,oI 1 c]) (O:=λ_ _=>[]) (j:=λ_=>AbC b c) ?_ ?_
 ·exact B
 ·rintro⟨⟩ ⟨⟩ nn;dsimp only[AbC];exact B

abbrev AnY:=en3 Py Lo Lo
abbrev Axy:=de3 AcQ uI uI
def PT (b:ND×Int):D:=.tup [Py b.1,Nn b.2]
theorem Apj:Ns Tryz.prog 91 (fS .val AnY (λa=>Aeu a.1 a.2.1 a.2.2) PT):=by
 refine fn2 3 (nK 89 Ake<|nK 90 AdR<|Np) Tryz.func91<|?_;rintro⟨c,e,f⟩;unfold Aeu;refine Ab 11 λd h=>?_
 refine A 8 ?_;refine sC (E:=λ(s:Int) (g:Nat×Nat)=>[oP 3 g.1,oP 6 g.2,oI 8 d.1,oI 9 s]) (O:=λ_ g=>[(3,dV g.1 3 39 (Py c)),(6,dV g.2 3 39 (.agg [Nn 0,Nn 0,.nils]))]) (j:=λs=>Yj c d s) ?_ ?_
 ·exact B
 ·rintro i ⟨k,l⟩ nn;dsimp only[Yj];refine Ac 7 ?_ ?_
  ·refine A 9 ?_;refine Po (b:=((ND.mk 0 0 ([])),9)) r ?_ r r ?_ (by first|rfl|(simp only[Nv];rfl)|(simp only[Ny];rfl)|(simp only[Nv,Ny];rfl)|(simp[PT,Py];try rfl)) (by decide)
   all_goals first|(simp;done)|(simp;omega)|rfl|(simp[OQ,OJ];done)|(simp[cells];done)
  ·exact B

theorem AfT:Ns Tryz.prog 211 (fS .ground WX (λa=>YT a) NH):=by
 refine fn2 1 (nK 254 UP<|Np) Tryz.func211<|?_;intro b;unfold YT;refine A 14 ?_;refine lP (E:=λ(s:Int) (_g:Unit)=>[oM 0 b Lo,oM 5 b Lo,oL 6 b,oI 7 s]) (O:=λ_ _=>[]) () hX<|?_
 rintro c ⟨⟩ nn;dsimp only[SU];exact B

abbrev Aeq:=en2 (eL Lo) (fpE Nz)
abbrev ApI:=de2 (uL uI) (fpU Re)
theorem AeZ:Ns Tryz.prog 210 (fS .ground Aeq (λa=>SA a.1 a.2) NH):=by
 refine fn2 2 (nK 211 AfT<|Np) Tryz.func210<|?_;intro a;unfold SA;exact B

abbrev AiM:=en2 Nz Lo
abbrev Ayb:=de2 Re uI
theorem Aql:Ns Tryz.prog 256 (fS (.row 1 3) AiM (λa=>Adz a.1 a.2) Ow):=by
 refine fn2 2 (nK 230 Aaf<|nK 276 AgU<|nK 277 Aex<|Np) Tryz.func256<|?_;rintro⟨b,k2⟩;unfold Adz;refine A 6 ?_;refine sC (E:=λ(_s:Unit) (g:Nat)=>[oI 1 k2,oP 2 g]) (O:=λ_ g=>[(2,dV g 3 36 (Nz b))]) (j:=λ_=>AbF b k2) ?_ ?_
 ·exact B
 ·rintro⟨⟩ d nn;dsimp only[AbF];refine Ab 10 λc e=>?_
  refine A 6 ?_;refine sC (E:=λ(s:(List Int)) (g:Nat×Nat)=>[oT 5 g.1 s,oP 6 g.2]) (O:=λs g=>[(5,dW g.1 1 3 (s.map Lo)),(6,dV g.2 5 90 (NG c))]) (j:=λs=>Ze c s) ?_ ?_
  ·exact B
  ·rintro f ⟨h,i⟩ nn;dsimp only[Ze];exact B

abbrev AfI:=en2 Lo (fpE Rv)
abbrev Arh:=de2 uI (fpU Vh)
theorem AgQ:Ns Tryz.prog 258 (fS .val AfI (λa=>VM a.1 a.2) Ow):=by
 refine fn2 2 (Np) Tryz.func258<|?_;intro a;unfold VM;exact B

theorem AlW:Ns Tryz.prog 278 (fS .val RM (λa=>VU a.1 a.2) Ow):=by
 refine fn2 2 (nK 219 Sp<|nK 231 Xh<|nK 220 Sd<|Np) Tryz.func278<|?_;intro a;unfold VU;exact B

theorem Ahr:Ns Tryz.prog 158 (fS (.row 1 3) QU (λa=>WH a) Ow):=by
 refine fn2 1 (Np) Tryz.func158<|?_;intro a;unfold WH;exact B

theorem AjE:Ns Tryz.prog 160 (fS (.row 1 3) WX (λa=>YU a) Ow):=by
 refine fn2 1 (nK 219 Sp<|nK 220 Sd<|Np) Tryz.func160<|?_;intro a;unfold YU;exact B

abbrev Tl:=en2 Nz Xo
abbrev Avh:=de2 Re ZR
theorem AaW:Ns Tryz.prog 93 (fS .ground Tl (λa=>Wb a.1 a.2) Nr):=by
 refine fn2 2 (nK 155 AkW<|nK 156 Aju<|Np) Tryz.func93<|?_;rintro⟨c,b⟩;unfold Wb;refine A 7 ?_;refine sC (E:=λ(_s:Unit) (g:Nat×Nat)=>[oP 2 g.1,oP 3 g.2]) (O:=λ_ g=>[(2,dV g.1 3 36 (Nz c)),(3,dV g.2 2 48 (.agg [.sl (b.To.map Lo),.sl (b.Keep.map D.bool)]))]) (j:=λ_=>AaV c b) ?_ ?_
 ·exact B
 ·rintro⟨⟩ ⟨d,e⟩ nn;dsimp only[AaV];refine A 10 ?_;refine lP (E:=λ(s:Int) (g:Nat)=>[oP 3 g,oM 22 c.Code NG,oL 23 c.Code,oI 24 s]) (O:=λ_ g=>[(3,dV g 2 48 (.agg [.sl (b.To.map Lo),.sl (b.Keep.map D.bool)]))]) _ hX<|?_
  rintro f h nn;dsimp only[Afr];exact B

def VP (a:Int×(List Int)):List D:=[Nn a.1,.fptr (.sl (a.2.map Lo)) 0]
def ZT (ds:List D):Int×(List Int):=(uI (ds.getD 0 .top),(uL uI) (fpD (ds.getD 1 .top)))
instance:OZ VP ZT:=⟨λa=>by simp[ZT,VP,uI,fpD,Qe (u:=uI) (en:=Lo) (λ_=>rfl)]⟩
theorem AgO:Ns Tryz.prog 221 (fS .ground VP (λa=>QE a.1 a.2) Nr):=by
 refine fn2 2 (Np) Tryz.func221<|?_;intro a;unfold QE;exact B

theorem Ajh:Ns Tryz.prog 96 (fS (.row 1 3) RM (λa=>XO a.1 a.2) Ow):=by
 refine fn2 2 (Np) Tryz.func96<|?_;rintro⟨b,c⟩;unfold XO;refine A 19 ?_;refine lP (E:=λ(s:(List Int)×Int) (g:Nat)=>[oI 1 c,oT 5 g s.1,oM 8 b Lo,oL 9 b,oI 10 s.2]) (O:=λs g=>[(5,dW g 1 3 (s.1.map Lo))]) _ hX<|?_
 rintro⟨d,e⟩ f nn;dsimp only[Acb];exact B

theorem AfO:Ns Tryz.prog 98 (fS .ground RM (λa=>Th a.1 a.2) Nr):=by
 refine fn2 2 (Np) Tryz.func98<|?_;rintro⟨b,c⟩;unfold Th;refine A 14 ?_;refine lP (E:=λ(s:Int) (_g:Unit)=>[oM 0 b Lo,oI 1 c,oL 7 b,oI 8 s]) (O:=λ_ _=>[]) () hX<|?_
 rintro d ⟨⟩ nn;dsimp only[Ty];exact B

abbrev AdH:=en1 Xo
abbrev Auw:=de1 ZR
theorem AlD:Ns Tryz.prog 99 (fS (.row 1 3) AdH (λa=>ZO a) Ow):=by
 refine fn2 1 (Np) Tryz.func99<|?_;intro b;unfold ZO;refine A 26 ?_;refine lP (E:=λ(s:(List Int)×Int×Int) (g:Nat)=>[oT 3 g s.1,oI 4 s.2.2,(8,.sl (b.Keep.map D.bool)),oL 9 b.Keep,oI 10 s.2.1]) (O:=λs g=>[(3,dW g 1 3 (s.1.map Lo))]) _ hX<|?_
 rintro⟨c,d,e⟩ f nn;dsimp only[Aem];exact B

abbrev Aea:=en1 Abd
abbrev AdZ:=de1 Abh
def AfV:Dw.Spec:=NU [] (.row 1 3) Aea AdZ (λa=>Ye a) Ow noE
theorem AlY:Ns Tryz.prog 113 AfV:=by
 refine fn2 1 (Np) Tryz.func113<|?_;intro a;unfold Ye;refine A 21 ?_;refine lP (E:=λ(s:(List Int)×Int) (g:Nat)=>[oT 3 g s.1,oM 7 a.Frames OI,oL 8 a.Frames,oI 9 s.2]) (O:=λs g=>[(3,dW g 1 3 (s.1.map Lo))]) _ hX<|?_
 rintro⟨b,c⟩ d nn;dsimp only[AeQ];exact B

theorem Alr:Ns Tryz.prog 270 (fS (.row 1 3) QU (λa=>PA a) Ow):=by
 refine fn2 1 (Np) Tryz.func270<|?_;intro b;unfold PA;refine A 8 ?_;refine sC (E:=λ(s:Bool) (g:Nat)=>[oP 1 g,oB 3 s]) (O:=λ_ g=>[(1,dV g 5 90 (NG b))]) (j:=λs=>OP b s) ?_ ?_
 ·exact B
 ·rintro c d nn;dsimp only[OP];refine cD r ?_ ?_
  ·refine A 8 ?_;refine bS ([b.A,b.B,b.C]:List Int) Lo r r r (by simp) r r r<|?_
   exact B
  ·refine sC (E:=λ(s:Bool) (g:Nat)=>[oP 1 g,oB 19 s]) (O:=λ_ g=>[(1,dV g 5 90 (NG b))]) (j:=λs=>OT b s) ?_ ?_
   ·exact B
   ·rintro e f nn;dsimp only[OT];refine cD r ?_ ?_
    ·refine A 6 ?_;refine bS ([b.A,b.B]:List Int) Lo r r r (by simp) r r r<|?_
     exact B
    ·refine sC (E:=λ(s:Bool) (g:Nat)=>[oP 1 g,oB 31 s]) (O:=λ_ g=>[(1,dV g 5 90 (NG b))]) (j:=λs=>OG b s) ?_ ?_
     ·exact B
     ·rintro h i nn;dsimp only[OG];exact B

def Pc (a:(List Int)):List D:=[.sl (a.map Lo),.clo 271 []]
def PR (ds:List D):(List Int):=(uL uI) (ds.getD 0 .top)
instance:OZ Pc PR:=⟨λa=>by simp[PR,Pc,Qe (u:=uI) (en:=Lo) (λ_=>rfl)]⟩
def Tg:Dw.Spec:=NU [] .ground Pc PR (λa=>Pt a) Nr noE
theorem XJ:Ns Tryz.prog 267 Tg:=by
 refine fn2 2 (nK 271 Ahx<|Np) Tryz.func267<|?_;intro a;unfold Pt;refine A 14 ?_;refine lP (E:=λ(s:Int) (_g:Unit)=>[oM 0 a Lo,(1,.clo 271 []),oL 7 a,oI 8 s]) (O:=λ_ _=>[]) () hX<|?_
 rintro b ⟨⟩ nn;dsimp only[QT];exact B

def So:Dw.Spec:=NU [] .ground Pc PR (λa=>Pd a) NH noE
theorem WO:Ns Tryz.prog 233 So:=by
 refine fn2 2 (nK 1114379 XJ<|Np) Tryz.func233<|?_;intro a;unfold Pd;refine A 9 ?_;refine bD λc b=>cG a rfl rfl (show _=some Tg from by kernel_rfl) OZ.ok rfl rfl (by simp) r b r<|?_
 exact B

def OW (a:(List Av)×PI×OL):List D:=[.sl (a.1.map NG),.clo 246 [.fptr (Abd a.2.1) 0,.fptr (Qa a.2.2) 0]]
def OV (ds:List D):(List Av)×PI×OL:=((uL RR) (ds.getD 0 .top),Abh (fpD (AdN (ds.getD 1 .top) 0)),WR (fpD (AdN (ds.getD 1 .top) 1)))
instance:OZ OW OV:=⟨λa=>by simp[OV,OW,fpD,AdN,Qe (u:=RR) (en:=NG) Zt]⟩
def Rc:Dw.Spec:=NU [] .ground OW OV (λa=>OK a.1 a.2.1 a.2.2) Nr noE
theorem Uo:Ns Tryz.prog 275 Rc:=by
 refine fn2 2 (nK 246 AdE<|Np) Tryz.func275<|?_;rintro⟨a,b,c⟩;unfold OK;refine A 14 ?_;refine lP (E:=λ(s:Int) (_g:Unit)=>[oM 0 a NG,(1,.clo 246 [.fptr (.agg [Nn b.Align,.sl (b.Frames.map OI)]) 0,.fptr (Qa c) 0]),oL 7 a,oI 8 s]) (O:=λ_ _=>[]) () hX<|?_
 rintro d ⟨⟩ nn;dsimp only[PN];exact B

def QQ:Dw.Spec:=NU [] .ground OW OV (λa=>OY a.1 a.2.1 a.2.2) NH noE
theorem TP:Ns Tryz.prog 245 QQ:=by
 refine fn2 2 (nK 1011987 Uo<|Np) Tryz.func245<|?_;rintro⟨a,b,c⟩;unfold OY;refine A 9 ?_;refine bD λe d=>cG (a,b,c) rfl rfl (show _=some Rc from by kernel_rfl) OZ.ok rfl rfl (by simp) r d r<|?_
 exact B

abbrev Aiy:=en2 Qa Abd
abbrev AsV:=de2 WR Abh
theorem Ajv:Ns Tryz.prog 182 (fS .ground Aiy (λa=>VA a.1 a.2) NH):=by
 refine fn2 2 (nK 1011957 TP<|Np) Tryz.func182<|?_;rintro⟨c,b⟩;unfold VA;refine A 6 ?_;refine Qc (E:=[(2,.fptr (Qa c) 0),(3,.fptr (.agg [Nn b.Align,.sl (b.Frames.map OI)]) 0)]) (O:=[]) ((hV 2 r (hV 3 r (hY)))) λnn=>?_
 refine A 5 ?_;refine mF (caps:=[.fptr (.agg [Nn b.Align,.sl (b.Frames.map OI)]) 0,.fptr (Qa c) 0]) r r (by simp[SE])<|bD λe d=>cG (c.Frame.Code,b,c) rfl rfl (show _=some QQ from by kernel_rfl) OZ.ok rfl rfl (by simp) r d r<|?_
 exact B

theorem Agk:Ns Tryz.prog 206 (fS (.row 1 3) RM (λa=>Xy a.1 a.2) Ow):=by
 refine fn2 2 (Np) Tryz.func206<|?_;rintro⟨d,e⟩;unfold Xy;refine A 17 ?_;refine lP (E:=λ(s:(List Int)×Int) (g:Nat)=>[oM 0 d Lo,oI 1 e,oT 5 g s.1,oI 6 s.2]) (O:=λs g=>[(5,dW g 1 3 (s.1.map Lo))]) _ hX<|?_
 rintro⟨b,c⟩ h nn;dsimp only[Uv];refine Ac 9 ?_ ?_
 ·refine Ab 8 λi j=>?_
  refine Ac 6 ?_ ?_
  ·refine Ab 4 λf k=>?_
   refine A 13 ?_;exact xL (s:=(b++([f]:List Int),i64.wrap (c+1))) _ hX
  ·refine A 8 ?_;exact xL (s:=(b,i64.wrap (c+1))) _ hX
 ·exact B

theorem AiU:Ns Tryz.prog 142 (fS (.row 1 3) QU (λa=>Vd a) Ow):=by
 refine fn2 1 (Np) Tryz.func142<|?_;intro a;unfold Vd;exact B

theorem Zn:Ns Tryz.prog 67 (fS (.row 1 3) RM (λa=>Tq a.1 a.2) Ow):=by
 refine fn2 2 (nK 125 AiS<|Np) Tryz.func67<|?_;rintro⟨b,c⟩;unfold Tq;refine Ab 13 λh i=>?_
 refine A 12 ?_;refine lP (E:=λ(s:(List Int)×Bool×Int) (g:Nat)=>[oM 0 b Lo,oI 1 c,oT 5 g s.1,oB 6 s.2.1,oI 7 s.2.2]) (O:=λs g=>[(5,dW g 1 3 (s.1.map Lo))]) _ hX<|?_
 rintro⟨e,f,d⟩ k nn;dsimp only[Sj];refine Ac 9 ?_ ?_
 ·refine A 4 ?_;refine sC (E:=λ(s:(List Int)×Bool) (g:Nat)=>[oM 0 b Lo,oI 1 c,oT 5 g s.1,oB 6 s.2,oI 7 d]) (O:=λs g=>[(5,dW g 1 3 (s.1.map Lo))]) (j:=λs=>Te b d s.1 s.2) ?_ ?_
  ·refine sC (E:=λ(s:Bool) (g:Nat)=>[oM 0 b Lo,oI 1 c,oT 5 g e,oB 6 f,oI 7 d,oB 26 s]) (O:=λ_ g=>[(5,dW g 1 3 (e.map Lo))]) (j:=λs=>Um b d c e f s) ?_ ?_
   ·exact B
   ·rintro l m nn;dsimp only[Um];exact B
  ·rintro⟨o,p⟩ q nn;dsimp only[Te];exact B
 ·exact B

theorem AhC:Ns Tryz.prog 226 (fS .ground WX (λa=>Aat a) NH):=by
 refine fn2 1 (nK 125 AiS<|Np) Tryz.func226<|?_;intro c;unfold Aat;refine A 12 ?_;refine lP (E:=λ(s:Int) (_g:Unit)=>[oM 0 c Lo,oI 3 s]) (O:=λ_ _=>[]) () hX<|?_
 rintro b ⟨⟩ nn;dsimp only[TI];refine Ac 9 ?_ ?_
 ·refine Ab 8 λd e=>?_
  refine Ab 2 λf g=>?_
  refine A 3 ?_;refine RL r ?_ ?_
  ·exact B
  ·refine A 3 ?_;refine RL r ?_ ?_
   ·refine Ab 2 λh i=>?_
    refine Ab 5 λj k=>?_
    refine Ac 7 ?_ ?_
    ·exact B
    ·refine A 8 ?_;exact xL (s:=i64.wrap (b+1)) () hX
   ·refine A 23 ?_;exact xL (s:=i64.wrap (b+1)) () hX
 ·exact B

theorem Xx:Ns Tryz.prog 116 (fS .ground RM (λa=>Vk a.1 a.2) NH):=by
 refine fn2 2 (Np) Tryz.func116<|?_;rintro⟨b,c⟩;unfold Vk;refine A 12 ?_;refine lP (E:=λ(s:Int) (_g:Unit)=>[oM 0 b Lo,oI 1 c,oI 5 s]) (O:=λ_ _=>[]) () hX<|?_
 rintro d ⟨⟩ nn;dsimp only[Zo];exact B

theorem Afk:Ns Tryz.prog 78 (fS (.row 1 3) RM (λa=>VZ a.1 a.2) Ow):=by
 refine fn2 2 (Np) Tryz.func78<|?_;rintro⟨b,c⟩;unfold VZ;refine A 17 ?_;refine lP (E:=λ(s:(List Int)×Int) (g:Nat)=>[oM 0 b Lo,oI 1 c,oT 5 g s.1,oI 6 s.2]) (O:=λs g=>[(5,dW g 1 3 (s.1.map Lo))]) _ hX<|?_
 rintro⟨d,e⟩ f nn;dsimp only[Afj];exact B

theorem Aon:Ns Tryz.prog 76 (fS .ground Tl (λa=>Aay a.1 a.2) Nr):=by
 refine fn2 2 (nK 140 Aok<|nK 141 AdG<|Np) Tryz.func76<|?_;rintro⟨c,b⟩;unfold Aay;refine A 7 ?_;refine sC (E:=λ(_s:Unit) (g:Nat×Nat)=>[oP 2 g.1,oP 3 g.2]) (O:=λ_ g=>[(2,dV g.1 3 36 (Nz c)),(3,dV g.2 2 48 (.agg [.sl (b.To.map Lo),.sl (b.Keep.map D.bool)]))]) (j:=λ_=>ZL c b) ?_ ?_
 ·exact B
 ·rintro⟨⟩ ⟨d,e⟩ nn;dsimp only[ZL];refine A 7 ?_;refine lP (E:=λ(s:Int) (g:Nat×Nat)=>[oP 2 g.1,oP 3 g.2,oI 5 s]) (O:=λ_ g=>[(2,dV g.1 3 36 (Nz c)),(3,dV g.2 2 48 (.agg [.sl (b.To.map Lo),.sl (b.Keep.map D.bool)]))]) (_,_) hX<|?_
  rintro k3 ⟨f,h⟩ nn;dsimp only[AcL];exact B

abbrev Alz:=en2 Lo (eL Lo)
abbrev Avd:=de2 uI (uL uI)
theorem Amw:Ns Tryz.prog 144 (fS .ground Alz (λa=>Ts a.1 a.2) Nr):=by
 refine fn2 2 (Np) Tryz.func144<|?_;intro a;unfold Ts;exact B

theorem AcD:Ns Tryz.prog 121 (fS .ground Vw (λa=>Vj a) Nr):=by
 refine fn2 1 (nK 185 Apk<|nK 68 AcB<|Np) Tryz.func121<|?_;intro b;unfold Vj;refine Ac 13 ?_ ?_
 ·exact B
 ·refine A 9 ?_;refine lP (E:=λ(s:Int) (_g:Unit)=>[oM 0 b Oo,oI 3 s]) (O:=λ_ _=>[]) () hX<|?_
  rintro c ⟨⟩ nn;dsimp only[AhB];refine Ac 9 ?_ ?_
  ·refine Ab 8 λd e=>?_
   refine Ab 3 λf g=>?_
   refine A 3 ?_;refine RL r ?_ ?_
   ·exact B
   ·refine Ab 2 λh i=>?_
    refine Ab 3 λj k=>?_
    refine Ac 5 ?_ ?_
    ·exact B
    ·refine A 8 ?_;exact xL (s:=i64.wrap (c+1)) () hX
  ·exact B

abbrev Apl:=en4 (eL PZ) Lo Lo Lo
abbrev Ayd:=de4 (uL Vl) uI uI uI
theorem AqH:Ns Tryz.prog 203 (fS .ground Apl (λa=>AdF a.1 a.2.1 a.2.2.1 a.2.2.2) Vx):=by
 refine fn2 4 (nK 130 ZE<|nK 68 AcB<|nK 204 AcC<|nK 83 AgS<|nK 252 Apm<|Np) Tryz.func203<|?_;rintro⟨c,b,d,e⟩;unfold AdF;refine A 6 ?_;refine sC (E:=λ(_s:Unit) (_g:Unit)=>[oM 0 c PZ,oI 1 b,oI 2 d,oI 3 e]) (O:=λ_ _=>[]) (j:=λ_=>Afd c e d b) ?_ ?_
 ·exact B
 ·rintro⟨⟩ ⟨⟩ nn;dsimp only[Afd];refine A 7 ?_;refine lP (E:=λ(s:Int) (_g:Unit)=>[oM 0 c PZ,oI 1 b,oI 2 d,oI 3 e,oI 10 s]) (O:=λ_ _=>[]) () hX<|?_
  rintro l ⟨⟩ nn;dsimp only[Akw];refine Ac 9 ?_ ?_
  ·exact B
  ·refine A 18 ?_;refine lP (E:=λ(s:Int×Bool×Int) (_g:Unit)=>[oM 0 c PZ,oI 1 b,oI 2 d,oI 3 e,oI 11 s.1,oB 12 s.2.1,oI 13 s.2.2]) (O:=λ_ _=>[]) () hX<|?_
   rintro⟨f,g,h⟩ ⟨⟩ nn;dsimp only[Akx];refine Ac 9 ?_ ?_
   ·refine A 10 ?_;refine sC (E:=λ(s:Int) (_g:Unit)=>[oM 0 c PZ,oI 1 b,oI 2 d,oI 3 e,oI 11 f,oB 12 g,oI 13 h,oI 14 s]) (O:=λ_ _=>[]) (j:=λs=>Xw e d c g h f s) ?_ ?_
    ·refine Ac 6 ?_ ?_
     ·refine Ab 4 λi m=>?_
      refine Ab 5 λk o=>?_
      refine A 7 ?_;exact xC (s:=OM b (i64.wrap (i.Off+k.Size))) () hX
     ·refine A 1 ?_;exact xC (s:=b) () hX
    ·rintro p ⟨⟩ nn;dsimp only[Xw];exact B
   ·exact B

theorem Aoa:Ns Tryz.prog 75 (fS .ground Vw (λa=>TW a) Nr):=by
 refine fn2 1 (nK 121 AcD<|Np) Tryz.func75<|?_;intro b;unfold TW;refine Ab 14 λc d=>?_
 refine Ac 4 ?_ ?_
 ·exact B
 ·refine A 9 ?_;refine lP (E:=λ(s:Int×Int) (_g:Unit)=>[oM 0 b Oo,oI 3 s.1,oI 4 s.2]) (O:=λ_ _=>[]) () hX<|?_
  rintro⟨e,f⟩ ⟨⟩ nn;dsimp only[ZD];exact B

abbrev Apv:=en2 (eL Oo) (eL Lo)
abbrev Aye:=de2 (uL Yb) (uL uI)
theorem AqJ:Ns Tryz.prog 205 (fS .ground Apv (λa=>Agp a.1 a.2) Nr):=by
 refine fn2 2 (Np) Tryz.func205<|?_;rintro⟨d,b⟩;unfold Agp;refine A 17 ?_;refine lP (E:=λ(s:Int×Int) (_g:Unit)=>[oM 0 d Oo,oM 1 b Lo,oI 5 s.1,oI 6 s.2]) (O:=λ_ _=>[]) () hX<|?_
 rintro⟨e,c⟩ ⟨⟩ nn;dsimp only[Akz];refine sC (E:=λ(_s:Unit) (_g:Unit)=>[oM 0 d Oo,oM 1 b Lo,oI 5 e,oI 6 c,oI 12 c,oM 13 b Lo,oL 14 b,(15,.bool (decide (c<(b.length:Int))))]) (O:=λ_ _=>[]) (j:=λ_=>AbS b c d e) ?_ ?_
 ·exact B
 ·rintro⟨⟩ ⟨⟩ nn;dsimp only[AbS];exact B

end
end Go.Proofs.YtcaoepecbgggcaaGreatDoor
