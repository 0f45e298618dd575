/-
 The code does what its typed programs say.
-/
import Derived.Test.YtcaoepecbgggcaaGreatDoorDxF13
import Derived.Test.YtcaoepecbgggcaaGreatDoorDxF14
import Derived.Test.YtcaoepecbgggcaaGreatDoorDxF17
import Derived.Test.YtcaoepecbgggcaaGreatDoorDxF21
namespace Go.Proofs.YtcaoepecbgggcaaGreatDoor
open Go Go.Dw Go.Proofs
set_option maxRecDepth 100000
set_option maxHeartbeats 40000000
open Go.Dw renaming ON -> bD,Ts -> bS,PL -> cD,QZ -> xC,Pn -> xL,Qb -> lP,PI -> sC,Acl -> mF,rf -> r
noncomputable section
def AlY:Dw.Spec:=NO [] .ground Pl Pk (λa=>UD a.1 a.2) NJ noE
theorem ZL:NK Tryz.prog 92 AlY:=by
 refine fn2 2 (nK 153 Adq<|nK 154 AkS<|NG) Tryz.func92<|?_;intro a;unfold UD;exact B

def UJ (a:Lo×Ob×NV):List D:=[NR a.1,Td a.2.1,Acg a.2.2]
def UI (ds:List D):Lo×Ob×NV:=(RD (ds.getD 0 .top),VU (ds.getD 1 .top),Acm (ds.getD 2 .top))
instance:Od UJ UI:=⟨λa=>by simp[UI,UJ]⟩
def Aka:Dw.Spec:=NO [] .ground UJ UI (λa=>XG a.1 a.2.1 a.2.2) XA noE
def AhQ:Dw.Spec:=ZR (specs []) 3 [(.t 6)] Aue
theorem AgS:NK Tryz.prog 157 AhQ:=UM (NG) Tryz.func157 (by decide) AxG AxH (by decide)
theorem AjA:NK Tryz.prog 94 Aka:=by
 refine fn2 3 (nK 92 ZL<|nK 93 AbU<|nK 157 AgS<|nK 218 AbZ<|NG) Tryz.func94<|?_;rintro⟨b,e,a⟩;unfold XG;refine A 10 ?_;refine sC (E:=λ(_s:Unit) (g:Nat×Nat×Nat)=>[(3,.optr 3 g.1 0 0),(4,.optr 4 g.2.1 0 0),(5,.optr 5 g.2.2 0 0)]) (O:=λ_ g=>[(3,dV g.1 3 36 (NR b)),(4,dV g.2.1 1 45 (.agg [.sl (e.Out.map (eL NF))])),(5,dV g.2.2 2 48 (.agg [.sl (a.To.map NF),.sl (a.Keep.map D.bool)]))]) (j:=λ_=>Yy b a e) ?_ ?_
 ·exact B
 ·rintro⟨⟩ ⟨h,i,k⟩ nn;dsimp only[Yy];refine A 5 ?_;refine Uc (E:=λ(g:Nat)=>[(3,.optr 1003 g 0 0),(23,NR b),(24,.agg [.sl (e.Out.map (eL NF))]),(25,.agg [.sl (a.To.map NF),.sl (a.Keep.map D.bool)])]) (O:=λg=>[(1003,dV g 3 36 (NR b))]) _ ((Qe (λg=>bif Nat.ble 4096 g then g+20000 else g+1000) (by kernel_rfl) hX))<|?_
  rintro f nn
  try dsimp only
  refine AgB (ds:=[NR b,.agg [.sl (e.Out.map (eL NF))],.agg [.sl (a.To.map NF),.sl (a.Keep.map D.bool)]]) (caps:=[]) (E:=[(0,NR b),(1,.agg [.sl (e.Out.map (eL NF))]),(2,.agg [.sl (a.To.map NF),.sl (a.Keep.map D.bool)])]) r r r r r r r r<|XF (c:=Aue)<|?_;refine A 7 ?_;refine Qq (E:=[(3,.fptr (NR b) 0),(4,.fptr (.agg [.sl (e.Out.map (eL NF))]) 0),(5,.fptr (.agg [.sl (a.To.map NF),.sl (a.Keep.map D.bool)]) 0)]) (O:=[(1003,dV f 3 36 (NR b))]) ((hV 3 r (hV 4 r (hV 5 r (hY))))) λnn=>?_
  refine A 2 ?_;refine mF (caps:=[.fptr (NR b) 0,.fptr (.agg [.sl (a.To.map NF),.sl (a.Keep.map D.bool)]) 0,.fptr (.agg [.sl (e.Out.map (eL NF))]) 0]) r r (by simp[SO])<|?_
  refine A 4 ?_;refine Aec (d:=.clo 218 [.fptr (NR b) 0,.fptr (.agg [.sl (a.To.map NF),.sl (a.Keep.map D.bool)]) 0,.fptr (.agg [.sl (e.Out.map (eL NF))]) 0]) (E:=[(3,.optr 3 _ 0 0),(26,.clo 218 [.fptr (NR b) 0,.fptr (.agg [.sl (a.To.map NF),.sl (a.Keep.map D.bool)]) 0,.fptr (.agg [.sl (e.Out.map (eL NF))]) 0])]) (O:=[(3,dV _ 3 36 (NR b))]) r (by first|rfl|(simp[Ol,Oo,rdA,raw,strip,Oy,cells,On];done)|(simp[Ol,Oo,rdA,raw,strip,Oy,S.ge,S.go,look,SY,cells,On];done)) r ((Qd [] hX (by kernel_rfl) (λ_=>hX))) λnn=>?_
  refine A 13 ?_;refine lP (E:=λ(s:Int) (_g:Unit)=>[(9,.clo 218 [.fptr (NR b) 0,.fptr (.agg [.sl (a.To.map NF),.sl (a.Keep.map D.bool)]) 0,.fptr (.agg [.sl (e.Out.map (eL NF))]) 0]),(29,Av (b.Code.length:Int)),(30,Av s)]) (O:=λ_ _=>[]) () hX<|?_
  rintro l ⟨⟩ nn;dsimp only[Adk];exact B

def Anh:Dw.Spec:=NO [] .ground UJ UI (λa=>Yd a.1 a.2.1 a.2.2) NJ noE
theorem Amg:NK Tryz.prog 40 Anh:=by
 refine fn2 3 (nK 92 ZL<|nK 93 AbU<|nK 94 AjA<|NG) Tryz.func40<|?_;intro a;unfold Yd;exact B

def VH (a:Ox):List D:=[Qw a]
def VG (ds:List D):Ox:=UH (ds.getD 0 .top)
instance:Od VH VG:=⟨λa=>by simp[VG,VH]⟩
def AhD:Dw.Spec:=NO [] .ground VH VG (λa=>Ti a) NJ noE
theorem AgK:NK Tryz.prog 162 AhD:=by
 refine fn2 1 (nK 39 AbJ<|nK 88 Ale<|nK 222 Age<|NG) Tryz.func162<|?_;intro a;unfold Ti;refine Ab 14 λb c=>?_
 refine Ac 16 ?_ ?_
 ·exact B
 ·refine A 2 ?_;refine sC (E:=λ(_s:Unit) (g:Nat×Nat)=>[(1,.optr 1 g.1 0 0),(3,.optr 3 g.2 0 0)]) (O:=λ_ g=>[(1,dV g.1 9 144 (Qw a)),(3,dV g.2 3 39 (PK b.1))]) (j:=λ_=>Wb a b) ?_ ?_
  ·exact B
  ·rintro⟨⟩ ⟨d,e⟩ nn;dsimp only[Wb];refine A 11 ?_;refine lP (E:=λ(s:Int) (g:Nat×Nat)=>[(1,.optr 1 g.1 0 0),(3,.optr 3 g.2 0 0),(42,Av (a.f.Slots.length:Int)),(43,Av s)]) (O:=λ_ g=>[(1,dV g.1 9 144 (Qw a)),(3,dV g.2 3 39 (PK b.1))]) (_,_) hX<|?_
   rintro h ⟨i,k⟩ nn;dsimp only[AaF];exact B

def Th (a:Ox×Ob):List D:=[Qw a.1,Td a.2]
def Tg (ds:List D):Ox×Ob:=(UH (ds.getD 0 .top),VU (ds.getD 1 .top))
instance:Od Th Tg:=⟨λa=>by simp[Tg,Th]⟩
def AhC:Dw.Spec:=NO [] .ground Th Tg (λa=>Vc a.1 a.2) NJ noE
theorem AgJ:NK Tryz.prog 101 AhC:=by
 refine fn2 2 (nK 162 AgK<|nK 92 ZL<|NG) Tryz.func101<|?_;intro a;unfold Vc;exact B

def AhB:Dw.Spec:=NO [] .ground Th Tg (λa=>Vb a.1 a.2) XA noE
theorem AgH:NK Tryz.prog 102 AhB:=by
 refine fn2 2 (nK 163 AgG<|NG) Tryz.func102<|?_;rintro⟨a,b⟩;unfold Vb;refine A 20 ?_;refine lP (E:=λ(s:Int) (g:Nat×Nat)=>[(2,.optr 2 g.1 0 0),(3,.optr 3 g.2 0 0),(13,Av (a.f.Code.length:Int)),(14,Av s)]) (O:=λ_ g=>[(2,dV g.1 9 144 (Qw a)),(3,dV g.2 1 45 (.agg [.sl (b.Out.map (eL NF))]))]) (_,_) hX<|?_
 rintro c ⟨d,e⟩ nn;dsimp only[AaE];exact B

def AbI (a:NM×Int×Int×Ob×NT):List D:=[Rc a.1,Av a.2.1,Av a.2.2.1,Td a.2.2.2.1,PK a.2.2.2.2]
def AbH (ds:List D):NM×Int×Int×Ob×NT:=(Tt (ds.getD 0 .top),uI (ds.getD 1 .top),uI (ds.getD 2 .top),VU (ds.getD 3 .top),AfN (ds.getD 4 .top))
instance:Od AbI AbH:=⟨λa=>by simp[AbH,AbI,uI]⟩
def AoI:Dw.Spec:=NO [] .ground AbI AbH (λa=>XS a.1 a.2.1 a.2.2.1 a.2.2.2.1 a.2.2.2.2) NJ noE
theorem AnE:NK Tryz.prog 42 AoI:=by
 refine fn2 5 (nK 101 AgJ<|nK 102 AgH<|NG) Tryz.func42<|?_;intro a;unfold XS;exact B

def AaK (a:NM×Int×Oh):List D:=[Rc a.1,Av a.2.1,Oq a.2.2]
def AaJ (ds:List D):NM×Int×Oh:=(Tt (ds.getD 0 .top),uI (ds.getD 1 .top),AeQ (ds.getD 2 .top))
instance:Od AaK AaJ:=⟨λa=>by simp[AaJ,AaK,uI]⟩
def Ahb (b:Lo×NT×Int×Int):D:=.tup [NR b.1,PK b.2.1,Av b.2.2.1,Av b.2.2.2]
def Ahc:Dw.Spec:=NO [] .val AaK AaJ (λa=>QK a.1 a.2.1 a.2.2) Ahb noE
theorem AmD:NK Tryz.prog 12 Ahc:=by
 refine fn2 3 (nK 38 Agz<|nK 39 AbJ<|nK 40 Amg<|nK 41 Anc<|nK 43 Agg<|nK 42 AnE<|NG) Tryz.func12<|?_;rintro⟨c,d,e⟩;unfold QK;refine Ab 13 λf k=>?_
 refine Ab 9 λa l=>?_
 refine Ac 16 ?_ ?_
 ·refine A 13 ?_;refine Pu (b:=((Lo.mk 0 ([]) ([])),(NT.mk 0 0 ([])),0,a.2)) r ?_ r r ?_ (by first|rfl|(simp only[NN];rfl)|(simp only[NQ];rfl)|(simp only[NN,NQ];rfl)|(simp[Ahb,NR,PK];try rfl)) (by decide)
  all_goals first|(simp;done)|(simp;omega)|rfl|(simp[Pd,OU];done)|(simp[cells];done)
 ·refine Ab 7 λh m=>?_
  refine A 6 ?_;refine sC (E:=λ(_s:Unit) (g:Nat×Nat×Nat×Nat×Nat×Nat)=>[(1,Av d),(3,.optr 3 g.1 0 0),(5,.optr 5 g.2.1 0 0),(6,.optr 6 g.2.2.1 0 0),(7,.optr 7 g.2.2.2.1 0 0),(10,Av f),(11,.optr 11 g.2.2.2.2.1 0 0),(13,.optr 13 g.2.2.2.2.2 0 0)]) (O:=λ_ g=>[(3,dV g.1 1 28 (.agg [.sl (c.Funcs.map NR)])),(5,dV g.2.1 7 50 (Oq e)),(6,dV g.2.2.1 3 36 (.agg [Av 0,.nils,.nils])),(7,dV g.2.2.2.1 3 39 (.agg [Av 0,Av 0,.nils])),(11,dV g.2.2.2.2.1 3 39 (PK a.1)),(13,dV g.2.2.2.2.2 3 36 (NR h))]) (j:=λ_=>RG c d f e h a) ?_ ?_
  ·refine Ab 7 λo p=>?_
   refine Ac 4 ?_ ?_
   ·refine Ab 5 λi q=>?_
    refine A 9 ?_;refine sC (E:=λ(s:Bool) (g:Nat×Nat×Nat×Nat×Nat×Nat×Nat)=>[(1,Av d),(3,.optr 3 g.1 0 0),(5,.optr 5 g.2.1 0 0),(6,.optr 6 g.2.2.1 0 0),(7,.optr 7 g.2.2.2.1 0 0),(10,Av f),(11,.optr 11 g.2.2.2.2.1 0 0),(13,.optr 13 g.2.2.2.2.2.1 0 0),(14,.optr 14 g.2.2.2.2.2.2 0 0),(72,.bool s)]) (O:=λ_ g=>[(3,dV g.1 1 28 (.agg [.sl (c.Funcs.map NR)])),(5,dV g.2.1 7 50 (Oq e)),(6,dV g.2.2.1 3 36 (.agg [Av 0,.nils,.nils])),(7,dV g.2.2.2.1 3 39 (.agg [Av 0,Av 0,.nils])),(11,dV g.2.2.2.2.1 3 39 (PK a.1)),(13,dV g.2.2.2.2.2.1 3 36 (NR h)),(14,dV g.2.2.2.2.2.2 3 36 (NR i.1))]) (j:=λs=>Rb i e c d f h a s) ?_ ?_
    ·exact B
    ·rintro t ⟨u,v,x,z,aa,ab,ac⟩ nn;dsimp only[Rb];exact B
   ·exact B
  ·rintro⟨⟩ ⟨ad,ae,af,ag,ah,ai⟩ nn;dsimp only[RG];exact B

def Xo (a:NL×Int×Int):List D:=[PV a.1,Av a.2.1,Av a.2.2]
def Xn (ds:List D):NL×Int×Int:=(Vs (ds.getD 0 .top),uI (ds.getD 1 .top),uI (ds.getD 2 .top))
instance:Od Xo Xn:=⟨λa=>by simp[Xn,Xo,uI]⟩
def Ajo (b:NM×NL):D:=Rc b.1
def Ajn (b:NM×NL):List D:=[PV b.2]
def Ajp:Dw.Spec:=NO [(0,(2,114))] .val Xo Xn (λa=>WE a.1 a.2.1 a.2.2) Ajo Ajn
theorem Aig:NK Tryz.prog 30 Ajp:=by
 refine fn2 3 (nK 22 RF<|nK 73 Ahy<|NG) Tryz.func30<|?_;rintro⟨d,e,a⟩;unfold WE;refine Ab 16 λf h=>?_
 refine A 5 ?_;refine lP (E:=λ(s:(List Int)×Int×(List Int)×Int) (g:Nat×Nat)=>[(0,.optr 8192 0 0 0),(2,Av a),(6,.optr 6 g.1 0 0),(7,.osl 7 g.2 0 s.2.2.1.length),(8,Av s.2.2.2)]) (O:=λs g=>[(6,dV g.1 1 28 (.agg [.nils])),(7,dW g.2 1 3 (s.2.2.1.map NF)),(8192,dV 0 2 114 (.agg [.sl (s.1.map eU8),Av s.2.1]))]) (_,_) hX<|?_
 rintro⟨c5,i,b,j⟩ ⟨k,m⟩ nn;dsimp only[Ace];refine Ac 7 ?_ ?_
 ·exact B
 ·refine A 17 ?_;refine lP (E:=λ(s:(List Int)×Int×(List Lo)×Int×(List Int)) (g:Nat×Nat)=>[(0,.optr 8192 0 0 0),(2,Av a),(6,.optr 6 g.1 0 0),(7,.sl (s.2.2.2.2.map NF)),(9,.optr 9 g.2 0 0),(10,Av s.2.2.2.1)]) (O:=λs g=>[(6,dV g.1 1 28 (.agg [.nils])),(9,dV g.2 1 28 (.agg [.sl (s.2.2.1.map NR)])),(8192,dV 0 2 114 (.agg [.sl (s.1.map eU8),Av s.2.1]))]) (_,_) ((Xr [(7,some (_,⟨true,false,1,3,b.map NF⟩))] ⟨⟨_,_,r,r,r⟩,trivial⟩ ⟨(Om r),(Om r),(Om r),(Acd (WC (l:=b) (en:=NF) r r r (by first|(simp;done)|rfl|(simp;rfl)))),(Om r),(Om r),trivial⟩ ⟨(.inl r),(.inr ⟨_,_,_,_,r,r,r,r,Vz r ⟨(Vp NR r),trivial⟩⟩),(.inl r),trivial⟩))<|?_
  rintro⟨o,p,q,t,u⟩ ⟨v,x⟩ nn;dsimp only[XO];refine Ac 9 ?_ ?_
  ·refine Ab 13 λc z=>?_
   refine A 1 ?_;refine bS ([c.1]:List Lo) NR r r r (by simp) r r r<|?_
   refine A 16 ?_;exact wf [11] λ_=>B
  ·exact B

end
end Go.Proofs.YtcaoepecbgggcaaGreatDoor
