/-
 The code does what its typed programs say.
-/
import Derived.Test.YtcaoepecbgggcaaGreatDoorDxF2
namespace Go.Proofs.YtcaoepecbgggcaaGreatDoor
open Go Go.Dw Go.Proofs
open Go.IntKind (i64)
set_option maxRecDepth 100000
set_option maxHeartbeats 40000000
open Go.Dw renaming QN -> bD,QW -> cK,Ya -> bS,Uy -> cG,AcM -> aP,Vs -> cD,YA -> xC,UF -> xL,Afw -> cP,XG -> lP,Vg -> sC,SG -> bC,AhY -> mF,rf -> r
abbrev Abv:=en1 (eL (eL Lo))
abbrev AmV:=de1 (uL (uL uI))
def AdO (b:(List Int)×Int):D:=.tup [.sl (b.1.map Lo),Nn b.2]
noncomputable def AiL:Dw.Spec:=NU [] .val Abv AmV (λa=>SN a) AdO noE
theorem Ahh:Ns Tryz.prog 110 AiL:=by
 refine fn2 1 (nK 172 Apc<|nK 173 AlX<|nK 171 AiK<|Np) Tryz.func110<|?_;intro a;unfold SN;refine A 12 ?_;refine bC (E:=λ(s:(List Int)) (g:Nat)=>[oT 4 g s]) (O:=λs g=>[(4,dW g 1 3 (s.map Lo))]) (j:=λs=>Aco s) ?_ ?_
 ·refine lP (E:=λ(s:(List Int)×(List Int)) (g:Nat×Nat)=>[(0,.sl (a.map (eL Lo))),oT 4 g.1 s.1,oT 5 g.2 s.2]) (O:=λs g=>[(4,dW g.1 1 3 (s.1.map Lo)),(5,dW g.2 1 3 (s.2.map Lo))]) (_,_) hX<|?_
  rintro⟨b,c⟩ ⟨d,e⟩ nn;dsimp only[Zy];refine Ac 10 ?_ ?_
  ·refine A 8 ?_;refine sC (E:=λ(s:Int) (g:Nat×Nat)=>[(0,.sl (a.map (eL Lo))),oT 4 g.1 b,oT 5 g.2 c,oI 6 s]) (O:=λ_ g=>[(4,dW g.1 1 3 (b.map Lo)),(5,dW g.2 1 3 (c.map Lo))]) (j:=λs=>Vo b c s) ?_ ?_
   ·refine A 8 ?_;refine lP (E:=λ(s:Int) (g:Nat×Nat)=>[(0,.sl (a.map (eL Lo))),oT 4 g.1 b,oT 5 g.2 c,(6,Nn (-1)),(14,.sl (a.map (eL Lo))),oL 15 a,oI 16 s]) (O:=λ_ g=>[(4,dW g.1 1 3 (b.map Lo)),(5,dW g.2 1 3 (c.map Lo))]) (_,_) hX<|?_
    rintro f ⟨h,i⟩ nn;dsimp only[Sx];exact B
   ·rintro k ⟨l,m⟩ nn;dsimp only[Vo];exact B
  ·exact B
 ·rintro o p nn;dsimp only[Aco];exact B

def Qn (a:(List (List Int))×Nm):List D:=[.sl (a.1.map (eL Lo)),.clo 210 [.fptr (Nz a.2) 0]]
def Qm (ds:List D):(List (List Int))×Nm:=((uL (uL uI)) (ds.getD 0 .top),Re (fpD (AdN (ds.getD 1 .top) 0)))
instance:OZ Qn Qm:=⟨λa=>by simp[Qm,Qn,fpD,AdN,Qe (u:=(uL uI)) (en:=(eL Lo)) (Qe (u:=uI) (en:=Lo) (λ_=>rfl))]⟩
noncomputable def Ux:Dw.Spec:=NU [] .ground Qn Qm (λa=>QS a.1 a.2) Nr noE
theorem Zs:Ns Tryz.prog 255 Ux:=by
 refine fn2 2 (nK 210 AeZ<|Np) Tryz.func255<|?_;rintro⟨a,b⟩;unfold QS;refine A 14 ?_;refine lP (E:=λ(s:Int) (_g:Unit)=>[(0,.sl (a.map (eL Lo))),(1,.clo 210 [.fptr (Nz b) 0]),oL 7 a,oI 8 s]) (O:=λ_ _=>[]) () hX<|?_
 rintro c ⟨⟩ nn;dsimp only[Un];exact B

noncomputable def Tz:Dw.Spec:=NU [] .ground Qn Qm (λa=>RE a.1 a.2) NH noE
theorem Ys:Ns Tryz.prog 212 Tz:=by
 refine fn2 2 (nK 864511 Zs<|Np) Tryz.func212<|?_;rintro⟨a,b⟩;unfold RE;refine A 9 ?_;refine bD λd c=>cG (a,b) rfl rfl (show _=some Ux from by kernel_rfl) OZ.ok rfl rfl (by simp) r c r<|?_
 exact B

abbrev PW:=en2 Nz Rv
abbrev AsS:=de2 Re Vh
theorem Aci:Ns Tryz.prog 153 (fS .ground PW (λa=>Vz a.1 a.2) NH):=by
 refine fn2 2 (nK 864468 Ys<|Np) Tryz.func153<|?_;rintro⟨b,c⟩;unfold Vz;refine A 6 ?_;refine Qc (E:=[(2,.fptr (Nz b) 0),oP 3 _]) (O:=[(3,dV _ 1 45 (.agg [.sl (c.Out.map (eL Lo))]))]) ((hV 2 r (hY))) λnn=>?_
 refine A 2 ?_;refine mF (caps:=[.fptr (Nz b) 0]) r r (by simp[SE])<|?_
 refine A 13 ?_;refine RL r ?_ ?_
 ·refine A 3 ?_;refine bD λe d=>cG (c.Out,b) rfl rfl (show _=some Tz from by kernel_rfl) OZ.ok rfl rfl (by simp) r d r<|?_
  exact B
 ·exact B

abbrev Akn:=en1 Rv
abbrev Aue:=de1 Vh
def Aml (b:NS):D:=.clo 258 [.fptr (Rv b) 0]
theorem Alq:Ns Tryz.prog 214 (fS .val Akn (λa=>ZB a) Aml):=by
 refine fn2 1 (Np) Tryz.func214<|?_;intro b;unfold ZB;refine A 5 ?_;refine Qc (E:=[(1,.fptr (.agg [.sl (b.Out.map (eL Lo))]) 0)]) (O:=[]) ((hV 1 r (hY))) λnn=>?_
 refine A 2 ?_;refine mF (caps:=[.fptr (.agg [.sl (b.Out.map (eL Lo))]) 0]) r r (by simp[SE])<|?_
 exact B

abbrev Adl:=en2 XQ XQ
abbrev Atw:=de2 uI uI
def AeM (b:Int):D:=AnK b
theorem AkV:Ns Tryz.prog 260 (fS .ground Adl (λa=>Xg a.1 a.2) AeM):=by
 refine fn2 2 (Np) Tryz.func260<|?_;intro a;unfold Xg;exact B

def SL (a:Nu×Nu):List D:=[NL a.1,NL a.2,.clo 260 []]
def SK (ds:List D):Nu×Nu:=(PE (ds.getD 0 .top),PE (ds.getD 1 .top))
instance:OZ SL SK:=⟨λa=>by simp[SK,SL]⟩
def WT (b:Nu×Nu×Nu):D:=NL b.1
def AbZ (b:Nu×Nu×Nu):List D:=[NL b.2.1,NL b.2.2]
noncomputable def WU:Dw.Spec:=NU [(0,(8,255)),(1,(8,255))] (.ptr 8 255) SL SK (λa=>RW a.1 a.2) WT AbZ
theorem Abq:Ns Tryz.prog 259 WU:=by
 refine fn2 3 (nK 260 AkV<|Np) Tryz.func259<|?_;rintro⟨d,e⟩;unfold RW;refine A 19 ?_;refine lP (E:=λ(s:Nu×Int) (g:Nat)=>[(0,.optr 8192 0 0 0),(1,.optr 8193 1 0 0),(2,.clo 260 []),(7,.optr 10 g 0 0),oI 11 s.2]) (O:=λs g=>[(10,dV g 8 255 (NL s.1)),(8192,dV 0 8 255 (NL d)),(8193,dV 1 8 255 (NL e))]) _ hX<|?_
 rintro⟨b,a⟩ p nn;dsimp only[Rr];refine Ac 6 ?_ ?_
 ·refine A 17 ?_;refine cK λhq=>QA r r r hq<|bD λf h=>Qs (q:=f) (l:=d.toList) (en:=XQ) (j:=a.toNat) (by simp) r r r h r (λ_=>r)<|?_
  refine A 3 ?_;refine cK λhq=>QA r r r hq<|bD λi k=>Qs (q:=i) (l:=e.toList) (en:=XQ) (j:=a.toNat) (by simp) r r r k r (λ_=>r)<|bD λc t=>?_
  refine A 2 ?_;refine cK λhq=>QA r r r hq<|bD λm o=>AiH (q:=m) (q':=c) (l:=b.toList) (en:=XQ) (j:=a.toNat) (z':=NL (b.set a.toNat c)) (by simp) r r r r r o r r (congrArg (λl=>D.agg (l.map XQ)) (RK b a.toNat c).symm)<|?_
  exact B
 ·exact B

theorem AfU:Ns Tryz.prog 216 (fS .val Tk (λa=>Ub a.1 a.2) Ow):=by
 refine fn2 2 (nK 219 Sp<|nK 1069315 Abq<|nK 220 Sd<|Np) Tryz.func216<|?_;rintro⟨e,f⟩;unfold Ub;refine Ab 8 λb g=>?_
 refine Ab 2 λc h=>?_
 refine A 1 ?_;refine bD λi d=>cP (b,c) rfl rfl (show _=some WU from by kernel_rfl) OZ.ok rfl rfl (by simp) r d<|?_
 exact B

abbrev AaD:=en2 NG (eL Lo)
abbrev Aya:=de2 RR (uL uI)
theorem Aqf:Ns Tryz.prog 257 (fS .val AaD (λa=>Adx a.1 a.2) Ow):=by
 refine fn2 2 (nK 159 UN<|nK 278 AlW<|nK 158 Ahr<|nK 160 AjE<|nK 216 AfU<|Np) Tryz.func257<|?_;intro a;unfold Adx;exact B

theorem AkU:Ns Tryz.prog 261 (fS .ground Adl (λa=>Xf a.1 a.2) AeM):=by
 refine fn2 2 (Np) Tryz.func261<|?_;intro a;unfold Xf;exact B

def SJ (a:Nu×Nu):List D:=[NL a.1,NL a.2,.clo 261 []]
def SI (ds:List D):Nu×Nu:=(PE (ds.getD 0 .top),PE (ds.getD 1 .top))
instance:OZ SJ SI:=⟨λa=>by simp[SI,SJ]⟩
def AbY (b:Nu×Nu×Nu):List D:=[NL b.2.1,NL b.2.2]
noncomputable def WS:Dw.Spec:=NU [(0,(8,255)),(1,(8,255))] (.ptr 8 255) SJ SI (λa=>RV a.1 a.2) WT AbY
theorem Abp:Ns Tryz.prog 259 WS:=by
 refine fn2 3 (nK 261 AkU<|Np) Tryz.func259<|?_;rintro⟨d,e⟩;unfold RV;refine A 19 ?_;refine lP (E:=λ(s:Nu×Int) (g:Nat)=>[(0,.optr 8192 0 0 0),(1,.optr 8193 1 0 0),(2,.clo 261 []),(7,.optr 10 g 0 0),oI 11 s.2]) (O:=λs g=>[(10,dV g 8 255 (NL s.1)),(8192,dV 0 8 255 (NL d)),(8193,dV 1 8 255 (NL e))]) _ hX<|?_
 rintro⟨b,a⟩ p nn;dsimp only[Rq];refine Ac 6 ?_ ?_
 ·refine A 17 ?_;refine cK λhq=>QA r r r hq<|bD λf h=>Qs (q:=f) (l:=d.toList) (en:=XQ) (j:=a.toNat) (by simp) r r r h r (λ_=>r)<|?_
  refine A 3 ?_;refine cK λhq=>QA r r r hq<|bD λi k=>Qs (q:=i) (l:=e.toList) (en:=XQ) (j:=a.toNat) (by simp) r r r k r (λ_=>r)<|bD λc t=>?_
  refine A 2 ?_;refine cK λhq=>QA r r r hq<|bD λm o=>AiH (q:=m) (q':=c) (l:=b.toList) (en:=XQ) (j:=a.toNat) (z':=NL (b.set a.toNat c)) (by simp) r r r r r o r r (congrArg (λl=>D.agg (l.map XQ)) (RK b a.toNat c).symm)<|?_
  exact B
 ·exact B

theorem AmO:Ns Tryz.prog 217 (fS .val Tk (λa=>Xe a.1 a.2) Ow):=by
 refine fn2 2 (nK 219 Sp<|nK 1073411 Abp<|nK 220 Sd<|Np) Tryz.func217<|?_;rintro⟨e,f⟩;unfold Xe;refine Ab 8 λb g=>?_
 refine Ab 2 λc h=>?_
 refine A 1 ?_;refine bD λi d=>cP (b,c) rfl rfl (show _=some WS from by kernel_rfl) OZ.ok rfl rfl (by simp) r d<|?_
 exact B

def Tv (a:(List Int)×(List Int)×NS×Int):List D:=[.sl (a.1.map Lo),.sl (a.2.1.map Lo),.fptr (Rv a.2.2.1) 0,.fptr (Nn a.2.2.2) 0]
def Tu (ds:List D):(List Int)×(List Int)×NS×Int:=((uL uI) (ds.getD 0 .top),(uL uI) (ds.getD 1 .top),Vh (fpD (ds.getD 2 .top)),uI (fpD (ds.getD 3 .top)))
instance:OZ Tv Tu:=⟨λa=>by simp[Tu,Tv,uI,fpD,Qe (u:=uI) (en:=Lo) (λ_=>rfl)]⟩
def XM (b:Bool×(List Int)):D:=.bool b.1
def AdC (b:Bool×(List Int)):List D:=[.sl (b.2.map Lo)]
theorem Acs:Ns Tryz.prog 215 (NU [(1,(1,37))] .val Tv Tu (λa=>SH a.1 a.2.1 a.2.2.1 a.2.2.2) XM AdC):=by
 refine fn2 4 (nK 217 AmO<|nK 216 AfU<|Np) Tryz.func215<|?_;rintro⟨c,d,e,f⟩;unfold SH;refine Ab 12 λg h=>?_
 refine Ab 2 λj k=>?_
 refine Ab 1 λb l=>?_
 refine A 1 ?_;refine Adf (i:=0) (es':=[.sl (b.map Lo)]) r r r r r r r (by first|trivial|(simp;done)|(simp;omega)) r r r r r r<|?_
 exact B

def Ql (a:Nm×Int×NS×(List Int)×NS×Int):List D:=[Nz a.1,Nn a.2.1,.clo 258 [.fptr (Rv a.2.2.1) 0],.clo 215 [.sl (a.2.2.2.1.map Lo),.fptr (Rv a.2.2.2.2.1) 0,.fptr (Nn a.2.2.2.2.2) 0]]
def Ru (ds:List D):Nm×Int×NS×(List Int)×NS×Int:=(Re (ds.getD 0 .top),uI (ds.getD 1 .top),Vh (fpD (AdN (ds.getD 2 .top) 0)),(uL uI) (AdN (ds.getD 3 .top) 0),Vh (fpD (AdN (ds.getD 3 .top) 1)),uI (fpD (AdN (ds.getD 3 .top) 2)))
instance:OZ Ql Ru:=⟨λa=>by simp[Ru,Ql,uI,fpD,AdN,Qe (u:=uI) (en:=Lo) (λ_=>rfl)]⟩
def ZA (b:Bool×(List Int)):List D:=[.sl (b.2.map Lo)]
noncomputable def Uu:Dw.Spec:=NU [(256,(1,37))] .val Ql Ru (λa=>Qb a.1 a.2.1 a.2.2.1 a.2.2.2.1 a.2.2.2.2.1 a.2.2.2.2.2) XM ZA
theorem Zj:Ns Tryz.prog 213 Uu:=by
 refine fn2 4 (nK 256 Aql<|nK 258 AgQ<|nK 257 Aqf<|nK 215 Acs<|Np) Tryz.func213<|?_;rintro⟨b,k2,c,f,d,e⟩;unfold Qb;refine Ab 11 λa h=>?_
 refine A 6 ?_;refine lP (E:=λ(s:(List Int)×Int) (g:Nat×Nat)=>[(2,.clo 258 [.fptr (.agg [.sl (c.Out.map (eL Lo))]) 0]),(3,.clo 215 [.optr 8448 256 0 0,.fptr (.agg [.sl (d.Out.map (eL Lo))]) 0,.fptr (Nn e) 0]),oP 4 g.1,oT 13 g.2 a,oL 14 a,oI 15 s.2]) (O:=λs g=>[(4,dV g.1 3 36 (Nz b)),(13,dW g.2 1 3 (a.map Lo)),(8448,dV 256 1 37 (.sl (s.1.map Lo)))]) (_,_) hX<|?_
 rintro⟨i,j⟩ ⟨k,l⟩ nn;dsimp only[PL];exact B

def Rz (b:Av):D:=NG b
theorem Alm:Ns Tryz.prog 161 (fS .ground AaD (λa=>Xp a.1 a.2) Rz):=by
 refine fn2 2 (nK 221 AgO<|Np) Tryz.func161<|?_;rintro⟨c,b⟩;unfold Xp;refine A 6 ?_;refine Qc (E:=[oP 2 _,(3,.fptr (.sl (b.map Lo)) 0),oP 4 _]) (O:=[(2,dV _ 5 90 (NG c)),(4,dV _ 5 90 (.agg [Nn 0,Nn 0,Nn 0,Nn 0,AnK 0]))]) ((hV 3 r (hY))) λnn=>?_
 refine A 2 ?_;refine mF (caps:=[.fptr (.sl (b.map Lo)) 0]) r r (by simp[SE])<|?_
 exact B

abbrev AmF:=en3 Nz Xo (eL Lo)
abbrev Awp:=de3 Re ZR (uL uI)
def AhU (b:(List Av)):D:=.sl (b.map NG)
theorem Agt:Ns Tryz.prog 100 (fS (.row 5 90) AmF (λa=>XF a.1 a.2.1 a.2.2) AhU):=by
 refine fn2 3 (nK 161 Alm<|Np) Tryz.func100<|?_;rintro⟨b,c,d⟩;unfold XF;refine A 22 ?_;refine lP (E:=λ(s:(List Av)×Int) (g:Nat×Nat)=>[oM 2 d Lo,oP 4 g.1,oT 7 g.2 s.1,oM 11 b.Code NG,oL 12 b.Code,oI 13 s.2]) (O:=λs g=>[(4,dV g.1 2 48 (.agg [.sl (c.To.map Lo),.sl (c.Keep.map D.bool)])),(7,dW g.2 5 90 (s.1.map NG))]) (_,_) hX<|?_
 rintro⟨e,f⟩ ⟨k,l⟩ nn;dsimp only[Ags];refine Ac 6 ?_ ?_
 ·refine Ab 7 λh m=>?_
  refine A 7 ?_;refine sC (E:=λ(s:Bool) (g:Nat×Nat×Nat)=>[oM 2 d Lo,oP 4 g.1,oT 7 g.2.1 e,oP 9 g.2.2,oM 11 b.Code NG,oL 12 b.Code,oI 13 f,oB 29 s]) (O:=λ_ g=>[(4,dV g.1 2 48 (.agg [.sl (c.To.map Lo),.sl (c.Keep.map D.bool)])),(7,dW g.2.1 5 90 (e.map NG)),(9,dV g.2.2 5 90 (NG h))]) (j:=λs=>Wx h d e f s) ?_ ?_
  ·exact B
  ·rintro o ⟨p,q,t⟩ nn;dsimp only[Wx];refine cD r ?_ ?_
   ·refine Ab 4 λi u=>?_
    refine A 1 ?_;refine bS ([i]:List Av) NG r r r (by simp) r r r<|?_
    exact B
   ·exact B
 ·exact B

abbrev QI:=en3 Nz Py NG
abbrev Aqz:=de3 Re AcQ RR
theorem AfJ:Ns Tryz.prog 236 (fS .ground QI (λa=>UX a.1 a.2.1 a.2.2) Rz):=by
 refine fn2 3 (Np) Tryz.func236<|?_;intro a;unfold UX;exact B

theorem AfK:Ns Tryz.prog 237 (fS .ground QI (λa=>UY a.1 a.2.1 a.2.2) Rz):=by
 refine fn2 3 (Np) Tryz.func237<|?_;intro a;unfold UY;exact B

theorem AfL:Ns Tryz.prog 238 (fS .ground QI (λa=>UZ a.1 a.2.1 a.2.2) Rz):=by
 refine fn2 3 (Np) Tryz.func238<|?_;intro a;unfold UZ;exact B

theorem AfM:Ns Tryz.prog 239 (fS .ground QI (λa=>Va a.1 a.2.1 a.2.2) Rz):=by
 refine fn2 3 (Np) Tryz.func239<|?_;intro a;unfold Va;exact B

theorem AfN:Ns Tryz.prog 240 (fS .ground QI (λa=>Vb a.1 a.2.1 a.2.2) Rz):=by
 refine fn2 3 (Np) Tryz.func240<|?_;intro a;unfold Vb;exact B

theorem Apg:Ns Tryz.prog 235 (fS .ground QI (λa=>Aer a.1 a.2.1 a.2.2) Rz):=by
 refine fn2 3 (Np) Tryz.func235<|?_;intro a;unfold Aer;exact B

abbrev Ahw:=en2 OI NG
abbrev Axt:=de2 AdJ RR
def Akq (b:NN×Bool):D:=.tup [PZ b.1,.bool b.2]
theorem Api:Ns Tryz.prog 273 (fS .val Ahw (λa=>QZ a.1 a.2) Akq):=by
 refine fn2 2 (Np) Tryz.func273<|?_;intro a;unfold QZ;exact B

theorem AnU:Ns Tryz.prog 274 (fS .val Ahw (λa=>Qt a.1 a.2) Akq):=by
 refine fn2 2 (Np) Tryz.func274<|?_;intro a;unfold Qt;exact B

theorem AiT:Ns Tryz.prog 248 (fS (.row 1 3) AiM (λa=>ZF a.1 a.2) Ow):=by
 refine fn2 2 (Np) Tryz.func248<|?_;rintro⟨c,k2⟩;unfold ZF;refine A 6 ?_;refine sC (E:=λ(_s:Unit) (g:Nat)=>[oI 1 k2,oP 2 g]) (O:=λ_ g=>[(2,dV g 3 36 (Nz c))]) (j:=λ_=>AaG c k2) ?_ ?_
 ·exact B
 ·rintro⟨⟩ d nn;dsimp only[AaG];refine Ab 5 λb e=>?_
  refine Ac 20 ?_ ?_
  ·exact B
  ·refine sC (E:=λ(s:Bool) (g:Nat)=>[oI 1 k2,oP 5 g,oI 21 b.Op,oB 27 s]) (O:=λ_ g=>[(5,dV g 5 90 (NG b))]) (j:=λs=>RH b k2 s) ?_ ?_
   ·exact B
   ·rintro f h nn;dsimp only[RH];refine cD r ?_ ?_
    ·exact B
    ·refine Ac 6 ?_ ?_
     ·refine Ac 11 ?_ ?_
      ·refine A 6 ?_;refine bS ([b.B,i64.wrap (k2+1)]:List Int) Lo r r r (by simp) r r r<|?_
       exact B
      ·refine Ac 10 ?_ ?_
       ·refine A 6 ?_;refine bS ([i64.wrap (k2+1),b.B]:List Int) Lo r r r (by simp) r r r<|?_
        exact B
       ·exact B
     ·exact B

theorem XA:Ns Tryz.prog 124 (fS (.row 1 3) Tk (λa=>SP a.1 a.2) Ow):=by
 refine fn2 2 (nK 67 Zn<|Np) Tryz.func124<|?_;rintro⟨c,b⟩;unfold SP;refine A 19 ?_;refine lP (E:=λ(s:(List Int)×Int) (g:Nat)=>[oM 1 b Lo,oT 5 g s.1,oI 6 s.2]) (O:=λs g=>[(5,dW g 1 3 (s.1.map Lo))]) _ hX<|?_
 rintro⟨d,e⟩ f nn;dsimp only[Xz];exact B

theorem AlP:Ns Tryz.prog 249 (fS (.row 1 3) AaD (λa=>AcF a.1 a.2) Ow):=by
 refine fn2 2 (nK 143 XW<|nK 206 Agk<|nK 142 AiU<|nK 124 XA<|Np) Tryz.func249<|?_;intro a;unfold AcF;exact B

theorem Aoc:Ns Tryz.prog 183 (fS (.row 1 3) Tk (λa=>Aau a.1 a.2) Ow):=by
 refine fn2 2 (nK 116 Xx<|Np) Tryz.func183<|?_;rintro⟨d,e⟩;unfold Aau;refine A 17 ?_;refine lP (E:=λ(s:(List Int)×Int) (g:Nat)=>[oM 0 d Lo,oM 1 e Lo,oT 5 g s.1,oI 6 s.2]) (O:=λs g=>[(5,dW g 1 3 (s.1.map Lo))]) _ hX<|?_
 rintro⟨b,c⟩ h nn;dsimp only[Vp];refine Ac 9 ?_ ?_
 ·refine Ab 9 λi j=>?_
  refine Ab 2 λk l=>?_
  refine Ac 4 ?_ ?_
  ·refine Ab 4 λf m=>?_
   refine A 13 ?_;exact xL (s:=(b++([f]:List Int),i64.wrap (c+1))) _ hX
  ·refine A 8 ?_;exact xL (s:=(b,i64.wrap (c+1))) _ hX
 ·exact B

theorem Aff:Ns Tryz.prog 81 (fS .ground AaD (λa=>VX a.1 a.2) Rz):=by
 refine fn2 2 (nK 144 Amw<|Np) Tryz.func81<|?_;intro a;unfold VX;exact B

theorem Apu:Ns Tryz.prog 77 (fS (.row 1 3) Tl (λa=>ZM a.1 a.2) Ow):=by
 refine fn2 2 (nK 81 Aff<|nK 142 AiU<|nK 124 XA<|nK 143 XW<|nK 67 Zn<|Np) Tryz.func77<|?_;rintro⟨c,b⟩;unfold ZM;refine A 19 ?_;refine lP (E:=λ(s:(List Int)×Int) (g:Nat×Nat×Nat)=>[oP 2 g.1,oP 3 g.2.1,oT 5 g.2.2 s.1,oI 6 s.2]) (O:=λs g=>[(2,dV g.1 3 36 (Nz c)),(3,dV g.2.1 2 48 (.agg [.sl (b.To.map Lo),.sl (b.Keep.map D.bool)])),(5,dW g.2.2 1 3 (s.1.map Lo))]) (_,_,_) hX<|?_
 rintro⟨d,k4⟩ ⟨e,f,h⟩ nn;dsimp only[AdU];refine sC (E:=λ(_s:Unit) (g:Nat×Nat×Nat)=>[oP 2 g.1,oP 3 g.2.1,oT 5 g.2.2 d,oI 6 k4,oI 16 k4,(17,.optr 3 g.2.1 0 1),(18,.sl (b.Keep.map D.bool)),oL 19 b.Keep,(20,.bool (decide (k4<(b.Keep.length:Int))))]) (O:=λ_ g=>[(2,dV g.1 3 36 (Nz c)),(3,dV g.2.1 2 48 (.agg [.sl (b.To.map Lo),.sl (b.Keep.map D.bool)])),(5,dW g.2.2 1 3 (d.map Lo))]) (j:=λ_=>Yo b k4 d c) ?_ ?_
 ·exact B
 ·rintro⟨⟩ ⟨i,k,l⟩ nn;dsimp only[Yo];exact B

abbrev Anm:=en2 (eL (eL Lo)) Lo
abbrev AwT:=de2 (uL (uL uI)) uI
theorem Aoh:Ns Tryz.prog 201 (fS .ground Anm (λa=>AcW a.1 a.2) NH):=by
 refine fn2 2 (nK 226 AhC<|nK 116 Xx<|Np) Tryz.func201<|?_;rintro⟨c,d⟩;unfold AcW;refine Ac 14 ?_ ?_
 ·exact B
 ·refine A 9 ?_;refine lP (E:=λ(s:Int) (_g:Unit)=>[(0,.sl (c.map (eL Lo))),oI 1 d,oI 5 s]) (O:=λ_ _=>[]) () hX<|?_
  rintro b ⟨⟩ nn;dsimp only[AhI];refine Ac 8 ?_ ?_
  ·refine A 2 ?_;refine bC (E:=λ(s:(List Int)×(List Int)×Bool) (_g:Unit)=>[(0,.sl (c.map (eL Lo))),oI 1 d,oI 5 b,(24,.sl (c.map (eL Lo))),oI 25 b,(26,.fptr (.sl (s.1.map Lo)) 0),oM 27 s.2.1 Lo,oI 28 b,oB 29 s.2.2]) (O:=λ_ _=>[]) (j:=λs=>ZG b s.1 s.2.1 s.2.2) ?_ ?_
   ·refine sC (E:=λ(s:(List Int)×(List Int)×Bool) (_g:Unit)=>[(0,.sl (c.map (eL Lo))),oI 1 d,oI 5 b,(24,.sl (c.map (eL Lo))),oI 25 b,(26,.fptr (.sl (s.1.map Lo)) 0),oM 27 s.2.1 Lo,oI 28 b,oB 29 s.2.2]) (O:=λ_ _=>[]) (j:=λs=>AcI c b d s.1 s.2.1 s.2.2) ?_ ?_
    ·refine Ab 4 λl m=>?_
     refine Ab 2 λo p=>?_
     refine A 3 ?_;refine RL r ?_ ?_
     ·exact B
     ·refine Ab 2 λe q=>?_
      refine Ab 3 λi t=>?_
      refine Ac 4 ?_ ?_
      ·exact B
      ·refine A 1 ?_;exact xC (s:=(e,e,i)) () hX
    ·rintro⟨f,g,h⟩ ⟨⟩ nn;dsimp only[AcI];refine A 6 ?_;refine lP (E:=λ(s:Int) (_g:Unit)=>[(0,.sl (c.map (eL Lo))),oI 1 d,oI 5 b,oI 6 s,(24,.sl (c.map (eL Lo))),oI 25 b,(26,.fptr (.sl (f.map Lo)) 0),oM 27 g Lo,oI 28 b,oB 29 h]) (O:=λ_ _=>[]) () hX<|?_
     rintro k ⟨⟩ nn;dsimp only[AcH];refine Ab 6 λu v=>?_
     refine Ac 6 ?_ ?_
     ·refine Ab 8 λx z=>?_
      refine Ab 3 λaa ab=>?_
      refine A 11 ?_;refine RL r ?_ ?_
      ·exact B
      ·refine Ab 2 λac ad=>?_
       refine Ab 3 λae af=>?_
       refine Ac 5 ?_ ?_
       ·exact B
       ·refine A 8 ?_;exact xL (s:=i64.wrap (k+1)) () hX
     ·refine A 4 ?_;exact Uz (s:=(f,g,h)) () hX
   ·rintro⟨x4,x5,x6⟩ ⟨⟩ nn;dsimp only[ZG];exact B
  ·exact B

theorem Aoo:Ns Tryz.prog 202 (fS (.row 1 3) Vw (λa=>Ada a) Ow):=by
 refine fn2 1 (nK 251 Ans<|Np) Tryz.func202<|?_;intro d;unfold Ada;refine A 17 ?_;refine lP (E:=λ(s:(List Int)×Int) (g:Nat)=>[oM 0 d Oo,oT 3 g s.1,oI 4 s.2]) (O:=λs g=>[(3,dW g 1 3 (s.1.map Lo))]) _ hX<|?_
 rintro⟨b,c⟩ e nn;dsimp only[AhS];refine Ac 9 ?_ ?_
 ·refine A 2 ?_;refine bC (E:=λ(s:(List Int)) (g:Nat)=>[oM 0 d Oo,oT 3 g s,oI 4 c]) (O:=λs g=>[(3,dW g 1 3 (s.map Lo))]) (j:=λs=>ZN c s) ?_ ?_
  ·refine A 7 ?_;refine bC (E:=λ(s:Int) (g:Nat)=>[oM 0 d Oo,oT 3 g b,oI 4 c,oI 5 s]) (O:=λ_ g=>[(3,dW g 1 3 (b.map Lo))]) (j:=λs=>Vq b c s) ?_ ?_
   ·refine lP (E:=λ(s:Int) (g:Nat)=>[oM 0 d Oo,oT 3 g b,oI 4 c,oI 5 s]) (O:=λ_ g=>[(3,dW g 1 3 (b.map Lo))]) _ hX<|?_
    rintro k6 f nn;dsimp only[AhT];exact B
   ·rintro k5 h nn;dsimp only[Vq];refine A 4 ?_;refine cK λhq=>AcN (l:=b) r r r r r r hq<|cK λhq=>aP (([]:List Int)) (b.take k5.toNat) Lo r r r r r r r (by first|(simp;done)|(simp;omega)) (by simp[List.map_take]) r r (by simp) r (λ_=>r) r hq<|?_
    refine A 7 ?_;refine cK λhq=>aP (([]:List Int)++(b.take k5.toNat)) (([c]:List Int)) Lo r r r r r r r (by simp) (YP _ _ r) r r (by simp) (Wd _ _ r) (λ_=>r) r hq<|?_
    refine A 2 ?_;refine cK λhq=>AcO (l:=b) r r r r r r hq<|cK λhq=>aP ((([]:List Int)++(b.take k5.toNat))++([c]:List Int)) (b.drop k5.toNat) Lo r r r r r r r (by first|(simp;done)|(simp;omega)) (AkE _ _ _) r r (by simp) (Wd _ _ r) (λ_=>r) r hq<|?_
    exact B
  ·rintro i k nn;dsimp only[ZN];exact B
 ·exact B

abbrev Aop:=en4 (eL (eL Lo)) Lo Lo Lo
abbrev AxG:=de4 (uL (uL uI)) uI uI uI
theorem Apx:Ns Tryz.prog 66 (fS .ground Aop (λa=>AbU a.1 a.2.1 a.2.2.1 a.2.2.2) NH):=by
 refine fn2 4 (nK 124 XA<|nK 116 Xx<|Np) Tryz.func66<|?_;rintro⟨c,f,b,h⟩;unfold AbU;refine A 12 ?_;refine bC (E:=λ(s:(List Int)) (g:Nat)=>[oI 2 b,oT 9 g s]) (O:=λs g=>[(9,dW g 1 3 (s.map Lo))]) (j:=λs=>AaL b s) ?_ ?_
 ·refine lP (E:=λ(s:(List Int)×Int) (g:Nat)=>[(0,.sl (c.map (eL Lo))),oI 2 b,oI 3 s.2,oT 9 g s.1]) (O:=λs g=>[(9,dW g 1 3 (s.1.map Lo))]) _ hX<|?_
  rintro⟨e,d⟩ i nn;dsimp only[Aja];refine Ac 7 ?_ ?_
  ·refine A 2 ?_;refine bC (E:=λ(s:(List Int)) (g:Nat)=>[(0,.sl (c.map (eL Lo))),oI 2 b,oI 3 d,oT 9 g s]) (O:=λs g=>[(9,dW g 1 3 (s.map Lo))]) (j:=λs=>AaM d s) ?_ ?_
   ·refine A 12 ?_;refine lP (E:=λ(s:(List Int)×Int) (g:Nat×Nat)=>[(0,.sl (c.map (eL Lo))),oI 2 b,oI 3 d,oT 9 g.1 e,oT 10 g.2 s.1,oI 11 s.2]) (O:=λs g=>[(9,dW g.1 1 3 (e.map Lo)),(10,dW g.2 1 3 (s.1.map Lo))]) (_,_) hX<|?_
    rintro⟨k,l⟩ ⟨m,o⟩ nn;dsimp only[Ajb];exact B
   ·rintro p q nn;dsimp only[AaM];exact B
  ·exact B
 ·rintro r t nn;dsimp only[AaL];exact B

end Go.Proofs.YtcaoepecbgggcaaGreatDoor
