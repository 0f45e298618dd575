/-
 The code does what its typed programs say.
-/
import Derived.Test.YtcaoepecbgggcaaGreatDoorDxF6
import Derived.Test.YtcaoepecbgggcaaGreatDoorDxF7
import Derived.Test.YtcaoepecbgggcaaGreatDoorDxF8
namespace Go.Proofs.YtcaoepecbgggcaaGreatDoor
open Go Go.Dw Go.Proofs
open Go.IntKind (i64)
set_option maxRecDepth 100000
set_option maxHeartbeats 40000000
open Go.Dw renaming ON -> bD,Qa -> cK,Alu -> aP,PL -> cD,QZ -> xC,Pn -> xL,Qb -> lP,PI -> sC,Rr -> bC,rf -> r
noncomputable section
def Tx (a:NM×Int):List D:=[Rc a.1,Av a.2]
def Tw (ds:List D):NM×Int:=(Tt (ds.getD 0 .top),uI (ds.getD 1 .top))
instance:Od Tx Tw:=⟨λa=>by simp[Tw,Tx,uI]⟩
def Aoi:Dw.Spec:=NO [] .ground Tx Tw (λa=>YN a.1 a.2) NJ noE
theorem Anf:NK Tryz.prog 169 Aoi:=by
 refine fn2 2 (nK 228 AjN<|nK 148 Ahd<|nK 229 Asi<|nK 230 AaX<|NG) Tryz.func169<|?_;rintro⟨b,c⟩;unfold YN;refine Ab 13 λd e=>?_
 refine Ac 4 ?_ ?_
 ·exact B
 ·refine Ab 7 λa f=>?_
  refine Ac 15 ?_ ?_
  ·exact B
  ·refine Ab 7 λh i=>?_
   refine Ac 10 ?_ ?_
   ·exact B
   ·refine Ab 7 λj k=>?_
    refine Ac 4 ?_ ?_
    ·exact B
    ·refine A 12 ?_;refine lP (E:=λ(s:Int) (g:Nat×Nat)=>[(2,.optr 2 g.1 0 0),(5,.optr 5 g.2 0 0),(37,.sl (a.Code.map NY)),(38,Av (a.Code.length:Int)),(39,Av s)]) (O:=λ_ g=>[(2,dV g.1 1 28 (.agg [.sl (b.Funcs.map NR)])),(5,dV g.2 3 36 (NR a))]) (_,_) hX<|?_
     rintro l ⟨m,o⟩ nn;dsimp only[Yx];exact B

def UO (a:NM):List D:=[Rc a]
def UN (ds:List D):NM:=Tt (ds.getD 0 .top)
instance:Od UO UN:=⟨λa=>by simp[UN,UO]⟩
def Amp:Dw.Spec:=NO [] .ground UO UN (λa=>Ack a) NJ noE
theorem Ash:NK Tryz.prog 108 Amp:=by
 refine fn2 1 (nK 169 Anf<|NG) Tryz.func108<|?_;intro a;unfold Ack;refine Ac 23 ?_ ?_
 ·exact B
 ·refine Ac 7 ?_ ?_
  ·exact B
  ·refine Ab 4 λb c=>?_
   refine Ac 7 ?_ ?_
   ·exact B
   ·refine A 13 ?_;refine lP (E:=λ(s:Int) (g:Nat)=>[(1,.optr 1 g 0 0),(24,Av (a.Funcs.length:Int)),(25,Av s)]) (O:=λ_ g=>[(1,dV g 1 28 (.agg [.sl (a.Funcs.map NR)]))]) _ hX<|?_
    rintro d e nn;dsimp only[Adi];exact B

def AhM:Dw.Spec:=NO [] .ground UO UN (λa=>Si a) NJ noE
theorem Agz:NK Tryz.prog 38 AhM:=by
 refine fn2 1 (nK 87 Anx<|NG) Tryz.func38<|?_;intro a;unfold Si;refine A 21 ?_;refine lP (E:=λ(s:Int×Int) (_g:Unit)=>[(3,Av s.1),(7,.sl (a.Funcs.map NR)),(8,Av (a.Funcs.length:Int)),(9,Av s.2)]) (O:=λ_ _=>[]) () hX<|?_
 rintro⟨b,c⟩ ⟨⟩ nn;dsimp only[Alj];exact B

def AsU:Dw.Spec:=NO [] .ground Tx Tw (λa=>ZS a.1 a.2) NJ noE
theorem Ale:NK Tryz.prog 88 AsU:=by
 refine fn2 2 (NG) Tryz.func88<|?_;rintro⟨b,c⟩;unfold ZS;refine Ab 17 λa d=>?_
 refine A 8 ?_;refine lP (E:=λ(s:Int×Int) (g:Nat)=>[(2,.optr 2 g 0 0),(5,Av s.2),(13,.sl (a.Code.map NY)),(14,Av (a.Code.length:Int)),(15,Av s.1)]) (O:=λ_ g=>[(2,dV g 1 28 (.agg [.sl (b.Funcs.map NR)]))]) _ hX<|?_
 rintro⟨e,f⟩ h nn;dsimp only[Ald];exact B

def XC (a:NM×Int×Int):List D:=[Rc a.1,Av a.2.1,Av a.2.2]
def XB (ds:List D):NM×Int×Int:=(Tt (ds.getD 0 .top),uI (ds.getD 1 .top),uI (ds.getD 2 .top))
instance:Od XC XB:=⟨λa=>by simp[XB,XC,uI]⟩
def Ahi:Dw.Spec:=NO [] .val XC XB (λa=>Tz a.1 a.2.1 a.2.2) PZ noE
theorem AbJ:NK Tryz.prog 39 Ahi:=by
 refine fn2 3 (nK 88 Ale<|nK 89 AkJ<|nK 90 AeY<|nK 91 ApZ<|NG) Tryz.func39<|?_;rintro⟨k,l,f⟩;unfold Tz;refine Ab 11 λh m=>?_
 refine Ab 19 λa o=>?_
 refine A 8 ?_;refine lP (E:=λ(s:(List Int)×Int×Int) (g:Nat×Nat×Nat×Nat)=>[(2,Av f),(6,.optr 6 g.1 0 0),(8,.optr 8 g.2.1 0 0),(9,Av s.2.2),(25,.sl (a.Slots.map OH)),(26,Av (a.Slots.length:Int)),(27,Av s.2.1)]) (O:=λs g=>[(6,dV g.1 3 39 (.agg [Av 0,Av 0,.osl 900 g.2.2.1 0 (([]:List Int).length)])),(8,dV g.2.1 3 39 (.agg [Av h,Av 0,.osl 901 g.2.2.2 0 s.1.length])),(900,dW g.2.2.1 1 3 (([]:List Int).map NF)),(901,dW g.2.2.2 1 3 (s.1.map NF))]) (_,_,_,_) ((ZJ (gg:=6) (off:=2) (tt:=900) (s:=1) (tyy:=3) r r r r (ZJ (gg:=8) (off:=2) (tt:=901) (s:=1) (tyy:=3) r r r r hX)))<|?_
 rintro⟨c,e,p⟩ ⟨q,t,u,v⟩ nn;dsimp only[Agh];refine Ac 6 ?_ ?_
 ·refine Ab 6 λx z=>?_
  refine Ab 11 λd aa=>?_
  refine A 8 ?_;refine sC (E:=λ(s:Int×Int) (g:Nat×Nat×Nat×Nat)=>[(2,Av f),(6,.optr 6 g.1 0 0),(8,.optr 8 g.2.1 0 0),(9,Av s.2),(12,Av d.1),(13,Av s.1),(25,.sl (a.Slots.map OH)),(26,Av (a.Slots.length:Int)),(27,Av e)]) (O:=λ_ g=>[(6,dV g.1 3 39 (.agg [Av 0,Av 0,.osl 900 g.2.2.1 0 (([]:List Int).length)])),(8,dV g.2.1 3 39 (.agg [Av h,Av 0,.osl 901 g.2.2.2 0 c.length])),(900,dW g.2.2.1 1 3 (([]:List Int).map NF)),(901,dW g.2.2.2 1 3 (c.map NF))]) (j:=λs=>Yt c d e s.1 s.2) ?_ ?_
  ·exact B
  ·rintro⟨ab,i⟩ ⟨ac,ad,ae,af⟩ nn;dsimp only[Yt];refine Ac 7 ?_ ?_
   ·refine A 14 ?_;refine Pu (b:=((NT.mk 0 0 ([])),9)) r ?_ r r ?_ (by first|rfl|(simp only[NN];rfl)|(simp only[NQ];rfl)|(simp only[NN,NQ];rfl)|(simp[PZ,PK];try rfl)) (by decide)
    all_goals first|(simp;done)|(simp;omega)|rfl|(simp[Pd,OU];done)|(simp[cells];done)
   ·refine A 17 ?_;exact xL (s:=(c++([d.1]:List Int),i64.wrap (e+1),i)) (_,_,_,_) ((ZK (E1:=[(2,Av f),(6,.optr 6 _ 0 0),(8,.optr 8 _ 0 0),(9,Av i),(25,.sl (a.Slots.map OH)),(26,Av (a.Slots.length:Int)),(27,Av (i64.wrap (e+1)))]) (O1:=[(6,dV _ 3 39 (.agg [Av 0,Av 0,.osl 900 _ 0 (([]:List Int).length)])),(8,dV _ 3 39 (.agg [Av h,Av 0,.osl 54 _ 0 ((c++([d.1]:List Int)).length)])),(54,dW _ 1 3 ((c++([d.1]:List Int)).map NF)),(900,dW _ 1 3 (([]:List Int).map NF))]) hX (λ_=>Qe (λg=>bif Nat.beq g 54 then 901 else g) (by kernel_rfl) hX)))
 ·exact B

def AnV:Dw.Spec:=NO [] (.row 1 3) QO QN (λa=>Wo a.1 a.2) OC noE
theorem Agq:NK Tryz.prog 78 AnV:=by
 refine fn2 2 (NG) Tryz.func78<|?_;rintro⟨a,b⟩;unfold Wo;refine A 17 ?_;refine lP (E:=λ(s:(List Int)×Int) (g:Nat)=>[(0,.sl (a.map NF)),(1,Av b),(5,.osl 5 g 0 s.1.length),(6,Av s.2)]) (O:=λs g=>[(5,dW g 1 3 (s.1.map NF))]) _ hX<|?_
 rintro⟨c,d⟩ e nn;dsimp only[Agp];exact B

def AcW (a:(List (List Int))×(List Int)×Int×Int):List D:=[.sl (a.1.map (eL NF)),.sl (a.2.1.map NF),Av a.2.2.1,Av a.2.2.2]
def AcV (ds:List D):(List (List Int))×(List Int)×Int×Int:=((uL (uL uI)) (ds.getD 0 .top),(uL uI) (ds.getD 1 .top),uI (ds.getD 2 .top),uI (ds.getD 3 .top))
instance:Od AcW AcV:=⟨λa=>by simp[AcV,AcW,uI,OE (u:=(uL uI)) (en:=(eL NF)) (OE (u:=uI) (en:=NF) (λ_=>rfl)),OE (u:=uI) (en:=NF) (λ_=>rfl)]⟩
def Aqy:Dw.Spec:=NO [] .ground AcW AcV (λa=>Aen a.1 a.2.1 a.2.2.1 a.2.2.2) NX noE
theorem Apa:NK Tryz.prog 199 Aqy:=by
 refine fn2 4 (nK 78 Agq<|nK 116 ZV<|NG) Tryz.func199<|?_;rintro⟨c,e,f,h⟩;unfold Aen;refine Ab 9 λa i=>?_
 refine Ab 3 λb k=>?_
 refine A 12 ?_;refine lP (E:=λ(s:Int) (g:Nat×Nat)=>[(0,.sl (c.map (eL NF))),(9,.osl 9 g.1 0 a.length),(10,.osl 10 g.2 0 b.length),(11,Av s)]) (O:=λ_ g=>[(9,dW g.1 1 3 (a.map NF)),(10,dW g.2 1 3 (b.map NF))]) (_,_) hX<|?_
 rintro d ⟨l,m⟩ nn;dsimp only[AiG];refine Ac 9 ?_ ?_
 ·refine A 2 ?_;refine bC (E:=λ(_s:Unit) (g:Nat×Nat)=>[(0,.sl (c.map (eL NF))),(9,.osl 9 g.1 0 a.length),(10,.osl 10 g.2 0 b.length),(11,Av d)]) (O:=λ_ g=>[(9,dW g.1 1 3 (a.map NF)),(10,dW g.2 1 3 (b.map NF))]) (j:=λ_=>Aat d) ?_ ?_
  ·refine A 6 ?_;refine lP (E:=λ(s:Int) (g:Nat×Nat)=>[(0,.sl (c.map (eL NF))),(9,.osl 9 g.1 0 a.length),(10,.osl 10 g.2 0 b.length),(11,Av d),(12,Av s)]) (O:=λ_ g=>[(9,dW g.1 1 3 (a.map NF)),(10,dW g.2 1 3 (b.map NF))]) (_,_) hX<|?_
   rintro o ⟨p,q⟩ nn;dsimp only[AiH];exact B
  ·rintro⟨⟩ ⟨r,t⟩ nn;dsimp only[Aat];exact B
 ·exact B

def ArX:Dw.Spec:=NO [] .ground Tx Tw (λa=>WS a.1 a.2) NJ noE
theorem Afi:NK Tryz.prog 82 ArX:=by
 refine fn2 2 (NG) Tryz.func82<|?_;rintro⟨b,f⟩;unfold WS;refine Ab 16 λc h=>?_
 refine A 13 ?_;refine lP (E:=λ(s:Int×Int) (g:Nat)=>[(2,.optr 2 g 0 0),(5,Av s.1),(6,.sl (c.Code.map NY)),(7,Av s.2)]) (O:=λ_ g=>[(2,dV g 1 28 (.agg [.sl (b.Funcs.map NR)]))]) _ hX<|?_
 rintro⟨a,k5⟩ i nn;dsimp only[AjL];refine Ac 9 ?_ ?_
 ·refine Ab 8 λj k=>?_
  refine Ac 12 ?_ ?_
  ·refine Ab 4 λd l=>?_
   refine A 15 ?_;exact xL (s:=(OI a (i64.wrap (d.A+1)),i64.wrap (k5+1))) _ hX
  ·refine Ac 6 ?_ ?_
   ·refine Ab 6 λm o=>?_
    refine Ab 3 λe p=>?_
    refine A 14 ?_;exact xL (s:=(OI a e.Params,i64.wrap (k5+1))) _ hX
   ·refine A 9 ?_;exact xL (s:=(a,i64.wrap (k5+1))) _ hX
 ·exact B

def Aql:Dw.Spec:=NO [] .ground UO UN (λa=>RL a) NJ noE
theorem Aix:NK Tryz.prog 32 Aql:=by
 refine fn2 1 (nK 75 AoP<|NG) Tryz.func32<|?_;intro a;unfold RL;refine A 18 ?_;refine lP (E:=λ(s:Int×Int) (g:Nat)=>[(1,.optr 1 g 0 0),(3,Av s.1),(4,Av s.2)]) (O:=λ_ g=>[(1,dV g 1 28 (.agg [.sl (a.Funcs.map NR)]))]) _ hX<|?_
 rintro⟨b,c⟩ d nn;dsimp only[AdQ];exact B

def AbR (a:NM×Int×Int×(List Int)):List D:=[Rc a.1,Av a.2.1,Av a.2.2.1,.sl (a.2.2.2.map NF)]
def AbQ (ds:List D):NM×Int×Int×(List Int):=(Tt (ds.getD 0 .top),uI (ds.getD 1 .top),uI (ds.getD 2 .top),(uL uI) (ds.getD 3 .top))
instance:Od AbR AbQ:=⟨λa=>by simp[AbQ,AbR,uI,OE (u:=uI) (en:=NF) (λ_=>rfl)]⟩
def Apg:Dw.Spec:=NO [] .val AbR AbQ (λa=>ZZ a.1 a.2.1 a.2.2.1 a.2.2.2) PZ noE
theorem Aob:NK Tryz.prog 139 Apg:=by
 refine fn2 4 (nK 204 AdN<|nK 82 Afi<|nK 205 ArW<|nK 83 AhL<|NG) Tryz.func139<|?_;rintro⟨c,d,e,a⟩;unfold ZZ;refine Ab 12 λf j=>?_
 refine Ac 16 ?_ ?_
 ·refine A 9 ?_;refine Pu (b:=((NT.mk 0 0 ([])),13)) r ?_ r r ?_ (by first|rfl|(simp only[NN];rfl)|(simp only[NQ];rfl)|(simp only[NN,NQ];rfl)|(simp[PZ,PK];try rfl)) (by decide)
  all_goals first|(simp;done)|(simp;omega)|rfl|(simp[Pd,OU];done)|(simp[cells];done)
 ·refine A 9 ?_;refine lP (E:=λ(s:Int) (g:Nat×Nat)=>[(1,Av d),(2,Av e),(3,.sl (a.map NF)),(4,.optr 4 g.1 0 0),(8,.optr 8 g.2 0 0),(10,.sl (f.Slots.map OH)),(11,Av s)]) (O:=λ_ g=>[(4,dV g.1 1 28 (.agg [.sl (c.Funcs.map NR)])),(8,dV g.2 3 39 (.agg [Av 0,Av 0,.nils]))]) (_,_) hX<|?_
  rintro k6 ⟨k,l⟩ nn;dsimp only[Adf];refine Ac 9 ?_ ?_
  ·refine Ab 8 λm o=>?_
   refine Ab 4 λp q=>?_
   refine Ab 4 λt u=>?_
   refine Ac 4 ?_ ?_
   ·refine A 13 ?_;refine Pu (b:=((NT.mk 0 0 ([])),13)) r ?_ r r ?_ (by first|rfl|(simp only[NN];rfl)|(simp only[NQ];rfl)|(simp only[NN,NQ];rfl)|(simp[PZ,PK];try rfl)) (by decide)
    all_goals first|(simp;done)|(simp;omega)|rfl|(simp[Pd,OU];done)|(simp[cells];done)
   ·exact B
  ·refine Ab 9 λh v=>?_
   refine Ab 9 λx z=>?_
   refine Ab 3 λi aa=>?_
   refine A 14 ?_;refine RS r ?_ ?_
   ·refine A 15 ?_;refine Pu (b:=((NT.mk 0 0 ([])),9)) r ?_ r r ?_ (by first|rfl|(simp only[NN];rfl)|(simp only[NQ];rfl)|(simp only[NN,NQ];rfl)|(simp[PZ,PK];try rfl)) (by decide)
    all_goals first|(simp;done)|(simp;omega)|rfl|(simp[Pd,OU];done)|(simp[cells];done)
   ·refine Ac 5 ?_ ?_
    ·refine A 9 ?_;refine Pu (b:=((NT.mk 0 0 ([])),9)) r ?_ r r ?_ (by first|rfl|(simp only[NN];rfl)|(simp only[NQ];rfl)|(simp only[NN,NQ];rfl)|(simp[PZ,PK];try rfl)) (by decide)
     all_goals first|(simp;done)|(simp;omega)|rfl|(simp[Pd,OU];done)|(simp[cells];done)
    ·refine A 7 ?_;refine cK λhq=>aP (([]:List Int)) (a) NF r r r r r r r (by simp) r r r (by simp) r (λ_=>r) r hq<|?_
     refine A 6 ?_;refine Pu (b:=((NT.mk h i.1 (([]:List Int)++a)),0)) r ?_ r r ?_ (by first|rfl|(simp only[NN];rfl)|(simp only[NQ];rfl)|(simp only[NN,NQ];rfl)|(simp[PZ,PK];try rfl)) (by decide)
     all_goals first|(simp;done)|(simp;omega)|rfl|(simp[Pd,OU];done)|(simp[cells];done)

end
end Go.Proofs.YtcaoepecbgggcaaGreatDoor
