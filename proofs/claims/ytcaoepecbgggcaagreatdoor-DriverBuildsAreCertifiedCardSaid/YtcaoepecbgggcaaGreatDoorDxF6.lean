/-
 The code does what its typed programs say.
-/
import Derived.Test.YtcaoepecbgggcaaGreatDoorDxF2
import Derived.Test.YtcaoepecbgggcaaGreatDoorDxF3
namespace Go.Proofs.YtcaoepecbgggcaaGreatDoor
open Go Go.Dw Go.Proofs
set_option maxRecDepth 100000
set_option maxHeartbeats 40000000
open Go.Dw renaming OO -> bD,Qk -> cK,Tg -> cG,Qs -> cD,Rp -> xC,PY -> xL,QS -> lP,PQ -> sC,Adc -> mF,rf -> r
theorem AqE:Nr Tryz.prog 152 (fS .ground TP (λa=>AdP a.1 a.2) Nq):=by
 refine fn2 2 (Np) Tryz.func152<|?_;intro a;unfold AdP;exact B

theorem Aky:Nr Tryz.prog 89 (fS .ground TP (λa=>Abm a.1 a.2) Vt):=by
 refine fn2 2 (nK 149 AbN<|nK 150 YL<|nK 152 AqE<|nK 151 Aey<|Np) Tryz.func89<|?_;rintro⟨b,c⟩;unfold Abm;refine A 6 ?_;refine sC (E:=λ(_s:Unit) (_g:Unit)=>[oI 0 b,oI 1 c]) (O:=λ_ _=>[]) (j:=λ_=>AbM b c) ?_ ?_
 ·exact B
 ·rintro⟨⟩ ⟨⟩ nn;dsimp only[AbM];exact B

abbrev Aoq:=en3 Pv Av Av
abbrev AxL:=de3 Adg uI uI
def PT (b:NC×Int):D:=.tup [Pv b.1,Nm b.2]
theorem ApG:Nr Tryz.prog 91 (fS .val Aoq (λa=>AeK a.1 a.2.1 a.2.2) PT):=by
 refine fn2 3 (nK 89 Aky<|nK 90 Aeg<|Np) Tryz.func91<|?_;rintro⟨c,e,f⟩;unfold AeK;refine Ab 11 λd h=>?_
 refine A 8 ?_;refine sC (E:=λ(s:Int) (g:Nat×Nat)=>[oP 3 g.1,oP 6 g.2,oI 8 d.1,oI 9 s]) (O:=λ_ g=>[(3,dV g.1 3 39 (Pv c)),(6,dV g.2 3 39 (.agg [Nm 0,Nm 0,.nils]))]) (j:=λs=>Yh c d s) ?_ ?_
 ·exact B
 ·rintro i ⟨k,l⟩ nn;dsimp only[Yh];refine Ac 7 ?_ ?_
  ·refine A 9 ?_;refine Po (b:=((NC.mk 0 0 ([])),9)) r ?_ r r ?_ (by first|rfl|(simp only[Nu];rfl)|(simp only[Nx];rfl)|(simp only[Nu,Nx];rfl)|(simp[PT,Pv];try rfl)) (by decide)
   all_goals first|(simp;done)|(simp;omega)|rfl|(simp[OQ,OH];done)|(simp[cells];done)
  ·exact B

abbrev AkH:=en1 Rx
abbrev Aup:=de1 Vb
def Amy (b:NN):D:=.clo 258 [.fptr (Rx b) 0]
theorem AlF:Nr Tryz.prog 214 (fS .val AkH (λa=>ZC a) Amy):=by
 refine fn2 1 (Np) Tryz.func214<|?_;intro b;unfold ZC;refine A 5 ?_;refine Qd (E:=[(1,.fptr (.agg [.sl (b.Out.map (eL Av))]) 0)]) (O:=[]) ((hV 1 r (hY))) λnn=>?_
 refine A 2 ?_;refine mF (caps:=[.fptr (.agg [.sl (b.Out.map (eL Av))]) 0]) r r (by simp[SE])<|?_
 exact B

abbrev AdC:=en2 XN XN
abbrev AtK:=de2 uI uI
def Afa (b:Int):D:=Aoc b
theorem Alm:Nr Tryz.prog 260 (fS .ground AdC (λa=>Xf a.1 a.2) Afa):=by
 refine fn2 2 (Np) Tryz.func260<|?_;intro a;unfold Xf;exact B

def SK (a:Nt×Nt):List D:=[NI a.1,NI a.2,.clo 260 []]
def SJ (ds:List D):Nt×Nt:=(PC (ds.getD 0 .top),PC (ds.getD 1 .top))
instance:OW SK SJ:=⟨λa=>by simp[SJ,SK]⟩
def WR (b:Nt×Nt×Nt):D:=NI b.1
def Acl (b:Nt×Nt×Nt):List D:=[NI b.2.1,NI b.2.2]
noncomputable def WS:Dw.Spec:=NO [(0,(8,255)),(1,(8,255))] (.ptr 8 255) SK SJ (λa=>RX a.1 a.2) WR Acl
theorem Abz:Nr Tryz.prog 259 WS:=by
 refine fn2 3 (nK 260 Alm<|Np) Tryz.func259<|?_;rintro⟨d,e⟩;unfold RX;refine A 19 ?_;refine lP (E:=λ(s:Nt×Int) (g:Nat)=>[(0,.optr 8192 0 0 0),(1,.optr 8193 1 0 0),(2,.clo 260 []),(7,.optr 10 g 0 0),oI 11 s.2]) (O:=λs g=>[(10,dV g 8 255 (NI s.1)),(8192,dV 0 8 255 (NI d)),(8193,dV 1 8 255 (NI e))]) _ hX<|?_
 rintro⟨b,a⟩ p nn;dsimp only[Rt];refine Ac 6 ?_ ?_
 ·refine A 17 ?_;refine cK λhq=>QG r r r hq<|bD λf h=>Qv (q:=f) (l:=d.toList) (en:=XN) (j:=a.toNat) (by simp) r r r h r (λ_=>r)<|?_
  refine A 3 ?_;refine cK λhq=>QG r r r hq<|bD λi k=>Qv (q:=i) (l:=e.toList) (en:=XN) (j:=a.toNat) (by simp) r r r k r (λ_=>r)<|bD λc t=>?_
  refine A 2 ?_;refine cK λhq=>QG r r r hq<|bD λm o=>Ajb (q:=m) (q':=c) (l:=b.toList) (en:=XN) (j:=a.toNat) (z':=NI (b.set a.toNat c)) (by simp) r r r r r o r r (congrArg (λl=>D.agg (l.map XN)) (RJ b a.toNat c).symm)<|?_
  exact B
 ·exact B

theorem Alk:Nr Tryz.prog 261 (fS .ground AdC (λa=>Xe a.1 a.2) Afa):=by
 refine fn2 2 (Np) Tryz.func261<|?_;intro a;unfold Xe;exact B

def SI (a:Nt×Nt):List D:=[NI a.1,NI a.2,.clo 261 []]
def SH (ds:List D):Nt×Nt:=(PC (ds.getD 0 .top),PC (ds.getD 1 .top))
instance:OW SI SH:=⟨λa=>by simp[SH,SI]⟩
def Ack (b:Nt×Nt×Nt):List D:=[NI b.2.1,NI b.2.2]
noncomputable def WQ:Dw.Spec:=NO [(0,(8,255)),(1,(8,255))] (.ptr 8 255) SI SH (λa=>RW a.1 a.2) WR Ack
theorem Aby:Nr Tryz.prog 259 WQ:=by
 refine fn2 3 (nK 261 Alk<|Np) Tryz.func259<|?_;rintro⟨d,e⟩;unfold RW;refine A 19 ?_;refine lP (E:=λ(s:Nt×Int) (g:Nat)=>[(0,.optr 8192 0 0 0),(1,.optr 8193 1 0 0),(2,.clo 261 []),(7,.optr 10 g 0 0),oI 11 s.2]) (O:=λs g=>[(10,dV g 8 255 (NI s.1)),(8192,dV 0 8 255 (NI d)),(8193,dV 1 8 255 (NI e))]) _ hX<|?_
 rintro⟨b,a⟩ p nn;dsimp only[Rs];refine Ac 6 ?_ ?_
 ·refine A 17 ?_;refine cK λhq=>QG r r r hq<|bD λf h=>Qv (q:=f) (l:=d.toList) (en:=XN) (j:=a.toNat) (by simp) r r r h r (λ_=>r)<|?_
  refine A 3 ?_;refine cK λhq=>QG r r r hq<|bD λi k=>Qv (q:=i) (l:=e.toList) (en:=XN) (j:=a.toNat) (by simp) r r r k r (λ_=>r)<|bD λc t=>?_
  refine A 2 ?_;refine cK λhq=>QG r r r hq<|bD λm o=>Ajb (q:=m) (q':=c) (l:=b.toList) (en:=XN) (j:=a.toNat) (z':=NI (b.set a.toNat c)) (by simp) r r r r r o r r (congrArg (λl=>D.agg (l.map XN)) (RJ b a.toNat c).symm)<|?_
  exact B
 ·exact B

theorem Afl:Nr Tryz.prog 222 (fS .ground XH (λa=>SA a.1 a.2) NF):=by
 refine fn2 2 (nK 224 Yf<|nK 263 Afh<|Np) Tryz.func222<|?_;intro a;unfold SA;exact B

abbrev Afk:=en3 Qf Rx Av
abbrev AqN:=de3 Th Vb uI
theorem AfU:Nr Tryz.prog 163 (fS .ground Afk (λa=>SY a.1 a.2.1 a.2.2) XO):=by
 refine fn2 3 (nK 159 UK<|nK 224 Yf<|nK 223 AlD<|Np) Tryz.func163<|?_;rintro⟨b,d,k3⟩;unfold SY;refine Ab 14 λf h=>?_
 refine Ab 9 λc i=>?_
 refine A 8 ?_;refine sC (E:=λ(_s:Unit) (g:Nat×Nat)=>[oI 2 k3,oP 3 g.1,oP 4 g.2,oI 9 c.1]) (O:=λ_ g=>[(3,dV g.1 9 144 (Qf b)),(4,dV g.2 1 45 (.agg [.sl (d.Out.map (eL Av))]))]) (j:=λ_=>QZ d k3 c b) ?_ ?_
 ·exact B
 ·rintro⟨⟩ ⟨k,l⟩ nn;dsimp only[QZ];refine Ab 6 λe m=>?_
  refine A 7 ?_;refine lP (E:=λ(s:Int) (g:Nat)=>[oP 3 g,oI 9 c.1,oM 52 e Av,oL 53 e,oI 54 s]) (O:=λ_ g=>[(3,dV g 9 144 (Qf b))]) _ hX<|?_
  rintro o p nn;dsimp only[ZZ];exact B

def OT (a:(List Lo)×Og×OG):List D:=[.sl (a.1.map NG),.clo 246 [.fptr (Xl a.2.1) 0,.fptr (Qb a.2.2) 0]]
def OR (ds:List D):(List Lo)×Og×OG:=((uL RD) (ds.getD 0 .top),XC (fpD (Aec (ds.getD 1 .top) 0)),WO (fpD (Aec (ds.getD 1 .top) 1)))
instance:OW OT OR:=⟨λa=>by simp[OR,OT,fpD,Aec,Qe (u:=RD) (en:=NG) Zt]⟩
noncomputable def Rg:Dw.Spec:=NO [] .ground OT OR (λa=>OE a.1 a.2.1 a.2.2) Nq noE
theorem Ur:Nr Tryz.prog 275 Rg:=by
 refine fn2 2 (nK 246 AdU<|Np) Tryz.func275<|?_;rintro⟨a,b,c⟩;unfold OE;refine A 14 ?_;refine lP (E:=λ(s:Int) (_g:Unit)=>[oM 0 a NG,(1,.clo 246 [.fptr (.agg [Nm b.Align,.sl (b.Frames.map NW)]) 0,.fptr (Qb c) 0]),oL 7 a,oI 8 s]) (O:=λ_ _=>[]) () hX<|?_
 rintro d ⟨⟩ nn;dsimp only[PL];exact B

noncomputable def QV:Dw.Spec:=NO [] .ground OT OR (λa=>OV a.1 a.2.1 a.2.2) NF noE
theorem TQ:Nr Tryz.prog 245 QV:=by
 refine fn2 2 (nK 1011987 Ur<|Np) Tryz.func245<|?_;rintro⟨a,b,c⟩;unfold OV;refine A 9 ?_;refine bD λe d=>cG (a,b,c) rfl rfl (show _=some Rg from by kernel_rfl) OW.ok rfl rfl (by simp) r d r<|?_
 exact B

abbrev AiT:=en2 Qb Xl
abbrev Atj:=de2 WO XC
theorem AjM:Nr Tryz.prog 182 (fS .ground AiT (λa=>Vw a.1 a.2) NF):=by
 refine fn2 2 (nK 1011957 TQ<|Np) Tryz.func182<|?_;rintro⟨c,b⟩;unfold Vw;refine A 6 ?_;refine Qd (E:=[(2,.fptr (Qb c) 0),(3,.fptr (.agg [Nm b.Align,.sl (b.Frames.map NW)]) 0)]) (O:=[]) ((hV 2 r (hV 3 r (hY)))) λnn=>?_
 refine A 5 ?_;refine mF (caps:=[.fptr (.agg [Nm b.Align,.sl (b.Frames.map NW)]) 0,.fptr (Qb c) 0]) r r (by simp[SE])<|bD λe d=>cG (c.Frame.Code,b,c) rfl rfl (show _=some QV from by kernel_rfl) OW.ok rfl rfl (by simp) r d r<|?_
 exact B

abbrev AoO:=en4 (eL (eL Av)) (eL Av) (eL Av) Av
abbrev AxT:=de4 (uL (uL uI)) (uL uI) (uL uI) uI
theorem Ajt:Nr Tryz.prog 72 (fS .ground AoO (λa=>Wv a.1 a.2.1 a.2.2.1 a.2.2.2) Nq):=by
 refine fn2 4 (Np) Tryz.func72<|?_;rintro⟨b,c,d,e⟩;unfold Wv;refine Ab 9 λf g=>?_
 refine A 12 ?_;refine lP (E:=λ(s:Int×Int) (_g:Unit)=>[(0,.sl (b.map (eL Av))),oM 1 c Av,oM 2 d Av,oI 3 e,oI 9 s.2,oI 10 s.1]) (O:=λ_ _=>[]) () hX<|?_
 rintro⟨k6,h⟩ ⟨⟩ nn;dsimp only[Ael];exact B

end Go.Proofs.YtcaoepecbgggcaaGreatDoor
