/-
 The code does what its typed programs say.
-/
import Derived.Test.YtcaoepecbgggcaaGreatDoorProg
import Derived.Test.YtcaoepecbgggcaaGreatDoorDc
import Derived.KernelRfl
import Derived.Test.YtcaoepecbgggcaaGreatDoorSh
import Derived.Test.YtcaoepecbgggcaaGreatDoorDxP
import Derived.Test.YtcaoepecbgggcaaGreatDoorDxF1
import Derived.Test.YtcaoepecbgggcaaGreatDoorDxF2
import Derived.Test.YtcaoepecbgggcaaGreatDoorDxF7
open List renaming replicate->aA,eq_of_mem_replicate->aAA
namespace Go.Proofs.YtcaoepecbgggcaaGreatDoor
open Go Go.Dw Go.Proofs
open Go.IntKind (i64)
set_option maxRecDepth 100000
set_option maxHeartbeats 40000000
open Go.Dw renaming Ql -> bD,Qo -> cK,YI -> bS,YJ -> sE,UZ -> cD,Xt -> xC,Ui -> xL,Xu -> lP,Tt -> sC,Wh -> bC,rf -> r
noncomputable section
def AdF (a:(List (List Int))×(List (List Int))):List D:=[.sl (a.1.map (eL NA)),.sl (a.2.map (eL NA))]
def AdE (ds:List D):(List (List Int))×(List (List Int)):=((uL (uL uI)) (ds.getD 0 .top),(uL (uL uI)) (ds.getD 1 .top))
instance:Oc AdF AdE:=⟨λa=>by simp[AdE,AdF,Oy (u:=(uL uI)) (en:=(eL NA)) (Oy (u:=uI) (en:=NA) (λ_=>rfl))]⟩
def AlM:Dw.Spec:=NI [] .ground AdF AdE (λa=>AaI a.1 a.2) NW noE
theorem Arr:ND Tryz.prog 250 AlM:=by
 refine fn2 2 (NJ (l:=[(63,ApL)]) (by simp[AtA])) Tryz.func250<|?_
 rintro⟨a,b⟩;unfold AaI;refine Ac 15 ?_ ?_
 ·exact B
 ·refine A 9 ?_;refine lP (E:=λ(s:Int) (_g:Unit)=>[(0,.sl (a.map (eL NA))),(1,.sl (b.map (eL NA))),(5,Av s)]) (O:=λ_ _=>[]) (body:=λs=>SB a b s) (s:=0) () hX<|?_
  rintro c ⟨⟩ nn
  try dsimp only
  unfold SB;refine Ac 9 ?_ ?_
  ·refine Ab 8 λd e=>?_
   refine Ab 4 λf g=>?_
   refine Ab 2 λh i=>?_
   refine Ac 4 ?_ ?_
   ·exact B
   ·refine A 8 ?_;exact xL (s:=i64.wrap (c+1)) () hX
  ·exact B

def AhV (a:NT×NT):List D:=[QP a.1,QP a.2]
def AhU (ds:List D):NT×NT:=(Va (ds.getD 0 .top),Va (ds.getD 1 .top))
instance:Oc AhV AhU:=⟨λa=>by simp[AhU,AhV]⟩
def ApM:Dw.Spec:=NI [] .ground AhV AhU (λa=>AgD a.1 a.2) NW noE
theorem AtB:ND Tryz.prog 196 ApM:=by
 refine fn2 2 (NJ (l:=[(250,AlM)]) (by simp[Arr])) Tryz.func196<|?_
 intro a;unfold AgD;exact B

def Abx (a:Mk):List D:=[NM a]
def Abw (ds:List D):Mk:=Qz (ds.getD 0 .top)
instance:Oc Abx Abw:=⟨λa=>by simp[Abw,Abx]⟩
def Ajz:Dw.Spec:=NI [] .val Abx Abw (λa=>AaS a) AkT noE
theorem Anf:ND Tryz.prog 133 Ajz:=by
 refine fn2 1 (NJ (l:=[(195,ApN),(196,ApM)]) (by simp[AtC,AtB])) Tryz.func133<|?_
 intro a;unfold AaS;refine A 11 ?_;refine cK λhq=>Amr (α:=Int) r r r hq r<|?_
 refine A 4 ?_;refine Qf (E:=[(1,.optr 1 _ 0 0),(2,.optr 2 _ 0 0),(3,.optr 3 _ 0 0)]) (O:=[(1,dV _ 3 36 (NM a)),(2,dV _ 1 45 (.agg [.nils])),(3,dV _ 1 45 (.agg [.osl 8 _ 0 ((aA (a.Code.length:Int).toNat ([]:(List Int))).length)])),(8,dW _ 1 37 ((aA (a.Code.length:Int).toNat ([]:(List Int))).map (eL NA)))]) ((Aps (g:=8) r (Arn (l:=aA (a.Code.length:Int).toNat ([]:(List Int))) NA (λ_ h=>aAA h)) hX)) λnn=>?_
 refine A 1 ?_;refine lP (E:=λ(_s:(List (List Int))) (g:Nat×Nat×Nat)=>[(1,.optr 1 g.1 0 0),(2,.optr 2 g.2.1 0 0),(3,.optr 3 g.2.2 0 0)]) (O:=λs g=>[(1,dV g.1 3 36 (NM a)),(2,dV g.2.1 1 45 (.agg [.nils])),(3,dV g.2.2 1 45 (.agg [.sl (s.map (eL NA))]))]) (body:=λs=>AcV a s) (s:=aA (a.Code.length:Int).toNat ([]:(List Int))) (_,_,_) ((YB [(8,some (_,⟨true,false,1,37,(aA (a.Code.length:Int).toNat ([]:(List Int))).map (eL NA)⟩))] ⟨⟨_,_,r,r,r⟩,trivial⟩ ⟨(On r),(On r),(On r),trivial⟩ ⟨(.inl r),(.inl r),(.inr ⟨_,_,_,_,r,r,r,r,Wo r ⟨(XC (l:=aA (a.Code.length:Int).toNat ([]:(List Int))) (en:=(eL NA)) r r r (by first|(simp;done)|rfl|(simp;rfl))),trivial⟩⟩),trivial⟩))<|?_
 rintro c ⟨d,e,f⟩ nn
 try dsimp only
 unfold AcV;refine Ab 5 λb i=>?_
 refine Ab 10 λj k=>?_
 refine Ac 3 ?_ ?_
 ·exact B
 ·refine A 7 ?_;exact xL (s:=b.Out) (_,_,_) hX

def Ajy:Dw.Spec:=NI [] .ground Tw Tv (λa=>Aes a) NW noE
theorem Ane:ND Tryz.prog 226 Ajy:=by
 refine fn2 1 (NJ (l:=[(125,AkN)]) (by simp[Aol])) Tryz.func226<|?_
 intro a;unfold Aes;refine A 12 ?_;refine lP (E:=λ(s:Int) (_g:Unit)=>[(0,.sl (a.map NA)),(3,Av s)]) (O:=λ_ _=>[]) (body:=λs=>SK a s) (s:=0) () hX<|?_
 rintro b ⟨⟩ nn
 try dsimp only
 unfold SK;refine Ac 9 ?_ ?_
 ·refine Ab 8 λc d=>?_
  refine Ab 2 λe f=>?_
  refine A 3 ?_;refine NS r ?_ ?_
  ·exact B
  ·refine A 3 ?_;refine NS r ?_ ?_
   ·refine Ab 2 λg h=>?_
    refine Ab 5 λi j=>?_
    refine Ac 7 ?_ ?_
    ·exact B
    ·refine A 8 ?_;exact xL (s:=i64.wrap (b+1)) () hX
   ·refine A 23 ?_;exact xL (s:=i64.wrap (b+1)) () hX
 ·exact B

def AjA:Dw.Spec:=NI [] .ground Pg Pf (λa=>Aeu a.1 a.2) NW noE
theorem Ang:ND Tryz.prog 165 AjA:=by
 refine fn2 2 (NJ (l:=[(226,Ajy)]) (by simp[Ane])) Tryz.func165<|?_
 rintro⟨a,b⟩;unfold Aeu;refine Ac 19 ?_ ?_
 ·exact B
 ·refine A 9 ?_;refine lP (E:=λ(s:Int) (g:Nat×Nat)=>[(2,.optr 2 g.1 0 0),(3,.optr 3 g.2 0 0),(5,Av s)]) (O:=λ_ g=>[(2,dV g.1 3 36 (NM a)),(3,dV g.2 1 45 (.agg [.sl (b.Out.map (eL NA))]))]) (body:=λs=>AhX b a s) (s:=0) (_,_) hX<|?_
  rintro c ⟨d,e⟩ nn
  try dsimp only
  unfold AhX;refine Ac 10 ?_ ?_
  ·refine Ab 10 λf h=>?_
   refine Ab 2 λi j=>?_
   refine Ac 4 ?_ ?_
   ·exact B
   ·refine Ab 7 λk m=>?_
    refine A 11 ?_;refine NS r ?_ ?_
    ·refine Ab 3 λo p=>?_
     refine Ab 4 λq t=>?_
     refine Ac 9 ?_ ?_
     ·exact B
     ·refine A 8 ?_;exact xL (s:=i64.wrap (c+1)) (_,_) hX
    ·refine A 25 ?_;exact xL (s:=i64.wrap (c+1)) (_,_) hX
  ·exact B

def YE:Dw.Spec:=NI [] .ground QC QB (λa=>VV a.1 a.2) NW noE
theorem Zv:ND Tryz.prog 116 YE:=by
 refine fn2 2 (NZ) Tryz.func116<|?_;rintro⟨a,b⟩;unfold VV;refine A 12 ?_;refine lP (E:=λ(s:Int) (_g:Unit)=>[(0,.sl (a.map NA)),(1,Av b),(5,Av s)]) (O:=λ_ _=>[]) (body:=λs=>Zu a b s) (s:=0) () hX<|?_
 rintro c ⟨⟩ nn
 try dsimp only
 unfold Zu;refine Ac 9 ?_ ?_
 ·refine Ab 8 λd e=>?_
  refine Ac 6 ?_ ?_
  ·exact B
  ·refine A 8 ?_;exact xL (s:=i64.wrap (c+1)) () hX
 ·exact B

def Aok:Dw.Spec:=NI [] (.row 1 3) Re Rc (λa=>Aet a.1 a.2) OC noE
theorem AsE:ND Tryz.prog 183 Aok:=by
 refine fn2 2 (NJ (l:=[(116,YE)]) (by simp[Zv])) Tryz.func183<|?_
 rintro⟨a,b⟩;unfold Aet;refine A 17 ?_;refine lP (E:=λ(s:(List Int)×Int) (g:Nat)=>[(0,.sl (a.map NA)),(1,.sl (b.map NA)),(5,.osl 5 g 0 s.1.length),(6,Av s.2)]) (O:=λs g=>[(5,dW g 1 3 (s.1.map NA))]) (body:=λs=>Ua a b s.1 s.2) (s:=(([]:List Int),0)) _ hX<|?_
 rintro⟨c,d⟩ f nn
 try dsimp only
 unfold Ua;refine Ac 9 ?_ ?_
 ·refine Ab 9 λh i=>?_
  refine Ab 2 λj k=>?_
  refine Ac 4 ?_ ?_
  ·refine Ab 4 λe m=>?_
   refine A 13 ?_;exact xL (s:=(c++([e]:List Int),i64.wrap (d+1))) _ hX
  ·refine A 8 ?_;exact xL (s:=(c,i64.wrap (d+1))) _ hX
 ·exact B

def YZ (a:Mk×NT×Int):List D:=[NM a.1,QP a.2.1,Av a.2.2]
def YY (ds:List D):Mk×NT×Int:=(Qz (ds.getD 0 .top),Va (ds.getD 1 .top),uI (ds.getD 2 .top))
instance:Oc YZ YY:=⟨λa=>by simp[YY,YZ,uI]⟩
def AlO:Dw.Spec:=NI [] (.row 1 3) YZ YY (λa=>AaK a.1 a.2.1 a.2.2) OC noE
theorem Art:ND Tryz.prog 225 AlO:=by
 refine fn2 3 (NJ (l:=[(248,AkQ),(249,AnU),(183,Aok),(124,AaJ)]) (by simp[Aom,AqT,AsE,AcS])) Tryz.func225<|?_
 rintro⟨b,c,d⟩;unfold AaK;refine Ab 16 λa h=>?_
 refine A 11 ?_;refine lP (E:=λ(s:(List Int)×Int) (g:Nat×Nat×Nat×Nat)=>[(2,Av d),(3,.optr 3 g.1 0 0),(4,.optr 4 g.2.1 0 0),(7,.osl 7 g.2.2.1 0 s.1.length),(8,.osl 8 g.2.2.2 0 a.length),(9,Av s.2)]) (O:=λs g=>[(3,dV g.1 3 36 (NM b)),(4,dV g.2.1 1 45 (.agg [.sl (c.Out.map (eL NA))])),(7,dW g.2.2.1 1 3 (s.1.map NA)),(8,dW g.2.2.2 1 3 (a.map NA))]) (body:=λs=>Uc a b c d s.1 s.2) (s:=(([]:List Int),0)) (_,_,_,_) hX<|?_
 rintro⟨i,e⟩ ⟨j,k,m,o⟩ nn
 try dsimp only
 unfold Uc;refine Ac 9 ?_ ?_
 ·refine Ab 9 λp q=>?_
  refine Ab 9 λr t=>?_
  refine Ab 5 λu v=>?_
  refine Ab 2 λx z=>?_
  refine Ab 4 λaa ab=>?_
  refine Ab 2 λac ad=>?_
  refine Ab 1 λf ae=>?_
  refine A 10 ?_;exact xL (s:=(f,i64.wrap (e+1))) (_,_,_,_) hX
 ·exact B

def Aoo:Dw.Spec:=NI [] .ground Pg Pf (λa=>AiD a.1 a.2) Tx noE
theorem AsF:ND Tryz.prog 164 Aoo:=by
 refine fn2 2 (NJ (l:=[(165,AjA),(225,AlO)]) (by simp[Ang,Art])) Tryz.func164<|?_
 rintro⟨a,b⟩;unfold AiD;refine Ab 14 λd e=>?_
 refine Ac 4 ?_ ?_
 ·exact B
 ·refine A 9 ?_;refine lP (E:=λ(s:Int) (g:Nat×Nat)=>[(2,.optr 2 g.1 0 0),(3,.optr 3 g.2 0 0),(7,Av s)]) (O:=λ_ g=>[(2,dV g.1 3 36 (NM a)),(3,dV g.2 1 45 (.agg [.sl (b.Out.map (eL NA))]))]) (body:=λs=>AhW a b s) (s:=0) (_,_) hX<|?_
  rintro c ⟨f,h⟩ nn
  try dsimp only
  unfold AhW;refine Ac 10 ?_ ?_
  ·refine Ab 9 λi j=>?_
   refine Ac 11 ?_ ?_
   ·exact B
   ·refine A 8 ?_;exact xL (s:=i64.wrap (c+1)) (_,_) hX
  ·exact B

def Xm:Dw.Spec:=NI [] .ground Pg Pf (λa=>VW a.1 a.2) NC noE
theorem Zz:ND Tryz.prog 104 Xm:=by
 refine fn2 2 (NJ (l:=[(164,Aoo),(165,AjA)]) (by simp[AsF,Ang])) Tryz.func104<|?_
 intro a;unfold VW;exact B

def AgI (a:Mk×NT×Bool):List D:=[NM a.1,QP a.2.1,.bool a.2.2]
def AgH (ds:List D):Mk×NT×Bool:=(Qz (ds.getD 0 .top),Va (ds.getD 1 .top),uBo (ds.getD 2 .top))
instance:Oc AgI AgH:=⟨λa=>by simp[AgH,AgI,uBo]⟩
def AjB (b:(List (List Int))×Int):D:=.tup [.sl (b.1.map (eL NA)),Av b.2]
def AjC:Dw.Spec:=NI [] .val AgI AgH (λa=>Aew a.1 a.2.1 a.2.2) AjB noE
theorem Ani:ND Tryz.prog 197 AjC:=by
 refine fn2 3 (NJ (l:=[(104,Xm),(143,Tq),(67,Aer)]) (by simp[Zz,Ub,AgA])) Tryz.func197<|?_
 rintro⟨d,f,c⟩;unfold Aew;refine Ab 13 λx z=>?_
 refine Ac 10 ?_ ?_
 ·exact B
 ·refine A 7 ?_;refine cK λhq=>Amr (α:=Int) r r r hq r<|?_
  refine A 2 ?_;refine Qf (E:=[(2,.bool c),(3,.optr 3 _ 0 0),(4,.optr 4 _ 0 0),(9,.osl 9 _ 0 ((aA (d.Slots.length:Int).toNat ([]:(List Int))).length))]) (O:=[(3,dV _ 3 36 (NM d)),(4,dV _ 1 45 (.agg [.sl (f.Out.map (eL NA))])),(9,dW _ 1 37 ((aA (d.Slots.length:Int).toNat ([]:(List Int))).map (eL NA)))]) ((Aps (g:=9) r (Arn (l:=aA (d.Slots.length:Int).toNat ([]:(List Int))) NA (λ_ h=>aAA h)) hX)) λnn=>?_
  refine A 7 ?_;refine lP (E:=λ(s:(List (List Int))×Int) (g:Nat×Nat×Nat)=>[(2,.bool c),(3,.optr 3 g.1 0 0),(4,.optr 4 g.2.1 0 0),(9,.osl 9 g.2.2 0 s.1.length),(10,Av s.2)]) (O:=λs g=>[(3,dV g.1 3 36 (NM d)),(4,dV g.2.1 1 45 (.agg [.sl (f.Out.map (eL NA))])),(9,dW g.2.2 1 37 (s.1.map (eL NA)))]) (body:=λs=>Aib d f c s.1 s.2) (s:=(aA (d.Slots.length:Int).toNat ([]:(List Int)),0)) (_,_,_) hX<|?_
  rintro⟨m,i⟩ ⟨aa,ab,ac⟩ nn
  try dsimp only
  unfold Aib;refine Ac 10 ?_ ?_
  ·refine A 2 ?_;refine bC (E:=λ(s:Int×Int×Int×Int×Int×(List (List Int))) (g:Nat×Nat×Nat)=>[(2,.bool c),(3,.optr 3 g.1 0 0),(4,.optr 4 g.2.1 0 0),(9,.osl 9 g.2.2 0 s.2.2.2.2.2.length),(10,Av i)]) (O:=λs g=>[(3,dV g.1 3 36 (NM d)),(4,dV g.2.1 1 45 (.agg [.sl (f.Out.map (eL NA))])),(9,dW g.2.2 1 37 (s.2.2.2.2.2.map (eL NA)))]) (j:=λs=>Ud i s.1 s.2.1 s.2.2.1 s.2.2.2.1 s.2.2.2.2.1 s.2.2.2.2.2) ?_ ?_
   ·refine Ab 5 λa ad=>?_
    refine Ab 9 λb ae=>?_
    refine A 8 ?_;refine sC (E:=λ(_s:Unit) (g:Nat×Nat×Nat×Nat)=>[(2,.bool c),(3,.optr 3 g.1 0 0),(4,.optr 4 g.2.1 0 0),(9,.osl 9 g.2.2.1 0 m.length),(10,Av i),(11,.optr 11 g.2.2.2 0 0),(12,Av b.1),(13,.bool b.2)]) (O:=λ_ g=>[(3,dV g.1 3 36 (NM d)),(4,dV g.2.1 1 45 (.agg [.sl (f.Out.map (eL NA))])),(9,dW g.2.2.1 1 37 (m.map (eL NA))),(11,dV g.2.2.2 5 90 (NX a))]) (j:=λ_=>ZD f i b c a m) ?_ ?_
    ·refine A 6 ?_;refine NS r ?_ ?_
     ·refine Ac 8 ?_ ?_
      ·refine A 2 ?_;exact TC (s:=(a.Op,a.A,a.B,a.C,a.Imm,m)) (_,_,_) hX
      ·refine A 1 ?_;exact xC (s:=()) (_,_,_,_) hX
     ·refine A 10 ?_;exact xC (s:=()) (_,_,_,_) hX
    ·rintro⟨⟩ ⟨af,ag,ah,ai⟩ nn
     try dsimp only
     unfold ZD;refine A 6 ?_;refine lP (E:=λ(s:(List (List Int))×Int) (g:Nat×Nat×Nat×Nat)=>[(2,.bool c),(3,.optr 3 g.1 0 0),(4,.optr 4 g.2.1 0 0),(9,.osl 9 g.2.2.1 0 s.1.length),(10,Av i),(11,.optr 11 g.2.2.2 0 0),(12,Av b.1),(13,.bool b.2),(14,Av s.2)]) (O:=λs g=>[(3,dV g.1 3 36 (NM d)),(4,dV g.2.1 1 45 (.agg [.sl (f.Out.map (eL NA))])),(9,dW g.2.2.1 1 37 (s.1.map (eL NA))),(11,dV g.2.2.2 5 90 (NX a))]) (body:=λs=>ZC f i b c a s.1 s.2) (s:=(m,0)) (_,_,_,_) hX<|?_
     rintro⟨e,k⟩ ⟨aj,ak,ao,ap⟩ nn
     try dsimp only
     unfold ZC;refine sC (E:=λ(_s:Unit) (g:Nat×Nat×Nat×Nat)=>[(2,.bool c),(3,.optr 3 g.1 0 0),(4,.optr 4 g.2.1 0 0),(9,.osl 9 g.2.2.1 0 e.length),(10,Av i),(11,.optr 11 g.2.2.2 0 0),(12,Av b.1),(13,.bool b.2),(14,Av k),(62,.bool b.2)]) (O:=λ_ g=>[(3,dV g.1 3 36 (NM d)),(4,dV g.2.1 1 45 (.agg [.sl (f.Out.map (eL NA))])),(9,dW g.2.2.1 1 37 (e.map (eL NA))),(11,dV g.2.2.2 5 90 (NX a))]) (j:=λ_=>AcZ f i k b e c a) ?_ ?_
     ·refine Ab 6 λaq ar=>?_
      refine A 5 ?_;refine NS r ?_ ?_
      ·refine Ac 4 ?_ ?_
       ·refine A 1 ?_;exact xC (s:=()) (_,_,_,_) hX
       ·refine A 4 ?_;exact Oj (s:=(a.Op,a.A,a.B,a.C,a.Imm,e)) (_,_,_) hX
      ·refine A 9 ?_;exact Oj (s:=(a.Op,a.A,a.B,a.C,a.Imm,e)) (_,_,_) hX
     ·rintro⟨⟩ ⟨au,av,aw,ax⟩ nn
      try dsimp only
      unfold AcZ;refine Ab 7 λay az=>?_
      refine Ab 3 λo ba=>?_
      refine A 5 ?_;refine sC (E:=λ(s:Bool×Bool×Bool×Bool) (g:Nat×Nat×Nat×Nat)=>[(2,.bool c),(3,.optr 3 g.1 0 0),(4,.optr 4 g.2.1 0 0),(9,.osl 9 g.2.2.1 0 e.length),(10,Av i),(11,.optr 11 g.2.2.2 0 0),(12,Av b.1),(13,.bool b.2),(14,Av k),(15,Av o),(62,.bool b.2),(78,.bool c),(79,.bool (!c)),(80,.bool s.1),(84,.bool s.2.1),(85,.bool s.2.2.1),(90,.bool s.2.2.2)]) (O:=λ_ g=>[(3,dV g.1 3 36 (NM d)),(4,dV g.2.1 1 45 (.agg [.sl (f.Out.map (eL NA))])),(9,dW g.2.2.1 1 37 (e.map (eL NA))),(11,dV g.2.2.2 5 90 (NX a))]) (j:=λs=>SL b e o k s.1 s.2.1 s.2.2.1 s.2.2.2) ?_ ?_
      ·refine A 6 ?_;refine NS r ?_ ?_
       ·refine A 26 ?_;exact xL (s:=(e,i64.wrap (k+1))) (_,_,_,_) hX
       ·refine A 3 ?_;refine NS r ?_ ?_
        ·refine A 5 ?_;refine NS r ?_ ?_
         ·refine Ac 8 ?_ ?_
          ·refine A 9 ?_;exact xL (s:=(e,i64.wrap (k+1))) (_,_,_,_) hX
          ·refine A 1 ?_;exact xC (s:=(true,(a.Op==17),true,(a.B==o))) (_,_,_,_) hX
         ·refine A 10 ?_;exact xC (s:=(true,(a.Op==17),false,false)) (_,_,_,_) hX
        ·refine A 15 ?_;exact xC (s:=(false,false,false,false)) (_,_,_,_) hX
      ·rintro⟨bb,bc,bd,bf⟩ ⟨bg,bh,bi,bj⟩ nn
       try dsimp only
       unfold SL;refine Ab 8 λbk bl=>?_
       refine Ab 2 λp bm=>?_
       refine Ab 4 λbn bo=>?_
       refine Ab 2 λq bp=>?_
       refine A 2 ?_;refine bD λbq t=>sE (l:=e) (en:=(eL NA)) (q':=p) r r r r r r r (by simp) t r r r (by simp[Pv,cells,eL]) r<|?_
       refine A 1 ?_;refine bD λbr u=>sE (l:=e.set b.1.toNat p) (en:=(eL NA)) (q':=q) r r r r r r r (by simp) u r r r (by simp[Pv,cells,eL]) r<|?_
       exact B
   ·rintro⟨x7,x8,x9,bv,bw,v⟩ ⟨bx,bz,ca⟩ nn
    try dsimp only
    unfold Ud;refine A 5 ?_;exact xL (s:=(v,i64.wrap (i+1))) (_,_,_) hX
  ·exact B

def Aoq:Dw.Spec:=NI [] .val Pg Pf (λa=>AiF a.1 a.2) AjB noE
theorem AsH:ND Tryz.prog 134 Aoq:=by
 refine fn2 2 (NJ (l:=[(197,AjC)]) (by simp[Ani])) Tryz.func134<|?_
 intro a;unfold AiF;exact B

def AtD (b:(List Ph)):D:=.sl (b.map UQ)
def Aor:Dw.Spec:=NI [] (.row 2 190) Abx Abw (λa=>Aev a) AtD noE
theorem AsI:ND Tryz.prog 198 Aor:=by
 refine fn2 1 (NZ) Tryz.func198<|?_;intro d;unfold Aev;refine A 18 ?_;refine lP (E:=λ(s:(List Ph)×Int) (g:Nat×Nat)=>[(1,.optr 1 g.1 0 0),(3,.osl 3 g.2 0 s.1.length),(4,Av s.2)]) (O:=λs g=>[(1,dV g.1 3 36 (NM d)),(3,dW g.2 2 190 (s.1.map UQ))]) (body:=λs=>AcY d s.1 s.2) (s:=(([]:List Ph),0)) (_,_) hX<|?_
 rintro⟨b,c⟩ ⟨k,l⟩ nn
 try dsimp only
 unfold AcY;refine Ac 10 ?_ ?_
 ·refine A 2 ?_;refine bC (E:=λ(s:(List Ph)) (g:Nat×Nat)=>[(1,.optr 1 g.1 0 0),(3,.osl 3 g.2 0 s.length),(4,Av c)]) (O:=λs g=>[(1,dV g.1 3 36 (NM d)),(3,dW g.2 2 190 (s.map UQ))]) (j:=λs=>ZA c s) ?_ ?_
  ·refine Ab 5 λa m=>?_
   refine A 17 ?_;refine sC (E:=λ(s:Bool) (g:Nat×Nat×Nat)=>[(1,.optr 1 g.1 0 0),(3,.osl 3 g.2.1 0 b.length),(4,Av c),(6,.optr 6 g.2.2 0 0),(7,.bool s)]) (O:=λ_ g=>[(1,dV g.1 3 36 (NM d)),(3,dW g.2.1 2 190 (b.map UQ)),(6,dV g.2.2 2 190 (.agg [Av a.A,Av a.B]))]) (j:=λs=>ZB b a c s) ?_ ?_
   ·refine A 5 ?_;refine NS r ?_ ?_
    ·refine A 8 ?_;exact xC (s:=true) (_,_,_) hX
    ·refine A 8 ?_;exact xC (s:=(a.A==a.B)) (_,_,_) hX
   ·rintro h ⟨o,p,q⟩ nn
    try dsimp only
    unfold ZB;refine A 7 ?_;refine lP (E:=λ(s:Bool×Int) (g:Nat×Nat×Nat)=>[(1,.optr 1 g.1 0 0),(3,.osl 3 g.2.1 0 b.length),(4,Av c),(6,.optr 6 g.2.2 0 0),(7,.bool s.1),(8,Av s.2)]) (O:=λ_ g=>[(1,dV g.1 3 36 (NM d)),(3,dW g.2.1 2 190 (b.map UQ)),(6,dV g.2.2 2 190 (.agg [Av a.A,Av a.B]))]) (body:=λs=>Aia b a c s.1 s.2) (s:=(h,0)) (_,_,_) hX<|?_
    rintro⟨t,e⟩ ⟨u,v,x⟩ nn
    try dsimp only
    unfold Aia;refine Ac 9 ?_ ?_
    ·refine A 7 ?_;refine NS r ?_ ?_
     ·refine A 16 ?_;exact xL (s:=(true,i64.wrap (e+1))) (_,_,_) hX
     ·refine Ab 3 λf z=>?_
      refine A 13 ?_;exact xL (s:=(((f.a0==a.A)&&((f.a1==a.B)&&true)),i64.wrap (e+1))) (_,_,_) hX
    ·refine Ac 11 ?_ ?_
     ·refine A 3 ?_;refine bS ([(Ph.mk a.A a.B)]:List Ph) UQ r r r (by simp) r r r<|?_
      refine A 3 ?_;exact Oj (s:=b++([(Ph.mk a.A a.B)]:List Ph)) (_,_) hX
     ·refine A 1 ?_;exact Oj (s:=b) (_,_) hX
  ·rintro i ⟨aa,ab⟩ nn
   try dsimp only
   unfold ZA;refine A 5 ?_;exact xL (s:=(i,i64.wrap (c+1))) (_,_) hX
 ·exact B

def AgJ:Dw.Spec:=NI [] (.row 1 3) QC QB (λa=>Xo a.1 a.2) OC noE
theorem AkV:ND Tryz.prog 78 AgJ:=by
 refine fn2 2 (NZ) Tryz.func78<|?_;rintro⟨b,c⟩;unfold Xo;refine A 17 ?_;refine lP (E:=λ(s:(List Int)×Int) (g:Nat)=>[(0,.sl (b.map NA)),(1,Av c),(5,.osl 5 g 0 s.1.length),(6,Av s.2)]) (O:=λs g=>[(5,dW g 1 3 (s.1.map NA))]) (body:=λs=>Afj b c s.1 s.2) (s:=(([]:List Int),0)) _ hX<|?_
 rintro⟨d,a⟩ e nn
 try dsimp only
 unfold Afj;refine Ac 9 ?_ ?_
 ·refine Ab 8 λf h=>?_
  refine Ac 6 ?_ ?_
  ·refine A 14 ?_;exact xL (s:=(d++([a]:List Int),i64.wrap (a+1))) _ hX
  ·refine A 8 ?_;exact xL (s:=(d,i64.wrap (a+1))) _ hX
 ·exact B

def AgL (a:(List (List Int))×(List Int)×Int×Int):List D:=[.sl (a.1.map (eL NA)),.sl (a.2.1.map NA),Av a.2.2.1,Av a.2.2.2]
def AgK (ds:List D):(List (List Int))×(List Int)×Int×Int:=((uL (uL uI)) (ds.getD 0 .top),(uL uI) (ds.getD 1 .top),uI (ds.getD 2 .top),uI (ds.getD 3 .top))
instance:Oc AgL AgK:=⟨λa=>by simp[AgK,AgL,uI,Oy (u:=(uL uI)) (en:=(eL NA)) (Oy (u:=uI) (en:=NA) (λ_=>rfl)),Oy (u:=uI) (en:=NA) (λ_=>rfl)]⟩
def Aot:Dw.Spec:=NI [] .ground AgL AgK (λa=>AiH a.1 a.2.1 a.2.2.1 a.2.2.2) NW noE
theorem AsK:ND Tryz.prog 199 Aot:=by
 refine fn2 4 (NJ (l:=[(78,AgJ),(116,YE)]) (by simp[AkV,Zv])) Tryz.func199<|?_
 rintro⟨c,f,h,i⟩;unfold AiH;refine Ab 9 λa k=>?_
 refine Ab 3 λb m=>?_
 refine A 12 ?_;refine lP (E:=λ(s:Int) (g:Nat×Nat)=>[(0,.sl (c.map (eL NA))),(9,.osl 9 g.1 0 a.length),(10,.osl 10 g.2 0 b.length),(11,Av s)]) (O:=λ_ g=>[(9,dW g.1 1 3 (a.map NA)),(10,dW g.2 1 3 (b.map NA))]) (body:=λs=>Aie a b c s) (s:=0) (_,_) hX<|?_
 rintro d ⟨o,p⟩ nn
 try dsimp only
 unfold Aie;refine Ac 9 ?_ ?_
 ·refine A 2 ?_;refine bC (E:=λ(_s:Unit) (g:Nat×Nat)=>[(0,.sl (c.map (eL NA))),(9,.osl 9 g.1 0 a.length),(10,.osl 10 g.2 0 b.length),(11,Av d)]) (O:=λ_ g=>[(9,dW g.1 1 3 (a.map NA)),(10,dW g.2 1 3 (b.map NA))]) (j:=λ_=>Ada d) ?_ ?_
  ·refine A 6 ?_;refine lP (E:=λ(s:Int) (g:Nat×Nat)=>[(0,.sl (c.map (eL NA))),(9,.osl 9 g.1 0 a.length),(10,.osl 10 g.2 0 b.length),(11,Av d),(12,Av s)]) (O:=λ_ g=>[(9,dW g.1 1 3 (a.map NA)),(10,dW g.2 1 3 (b.map NA))]) (body:=λs=>Aif b d a c s) (s:=0) (_,_) hX<|?_
   rintro e ⟨q,r⟩ nn
   try dsimp only
   unfold Aif;refine Ac 9 ?_ ?_
   ·refine Ab 10 λt u=>?_
    refine Ab 1 λv x=>?_
    refine Ab 5 λz aa=>?_
    refine Ab 1 λab ac=>?_
    refine Ac 3 ?_ ?_
    ·exact B
    ·refine A 8 ?_;exact xL (s:=i64.wrap (e+1)) (_,_) hX
   ·refine A 4 ?_;exact Oj (s:=()) (_,_) hX
  ·rintro⟨⟩ ⟨ad,ae⟩ nn
   try dsimp only
   unfold Ada;refine A 5 ?_;exact xL (s:=i64.wrap (d+1)) (_,_) hX
 ·exact B

def AdK (a:Mk×(List (List Int))):List D:=[NM a.1,.sl (a.2.map (eL NA))]
def AdJ (ds:List D):Mk×(List (List Int)):=(Qz (ds.getD 0 .top),(uL (uL uI)) (ds.getD 1 .top))
instance:Oc AdK AdJ:=⟨λa=>by simp[AdJ,AdK,Oy (u:=(uL uI)) (en:=(eL NA)) (Oy (u:=uI) (en:=NA) (λ_=>rfl))]⟩
def AlP:Dw.Spec:=NI [] (.row 1 3) AdK AdJ (λa=>Xn a.1 a.2) OC noE
theorem Aru:ND Tryz.prog 135 AlP:=by
 refine fn2 2 (NJ (l:=[(198,Aor),(199,Aot)]) (by simp[AsI,AsK])) Tryz.func135<|?_
 rintro⟨k,a⟩;unfold Xn;refine A 18 ?_;refine lP (E:=λ(s:(List Int)×Int) (g:Nat×Nat)=>[(1,.sl (a.map (eL NA))),(2,.optr 2 g.1 0 0),(5,.osl 5 g.2 0 s.1.length),(6,Av s.2)]) (O:=λs g=>[(2,dV g.1 3 36 (NM k)),(5,dW g.2 1 3 (s.1.map NA))]) (body:=λs=>Afi k a s.1 s.2) (s:=(([]:List Int),0)) (_,_) hX<|?_
 rintro⟨m,o⟩ ⟨x,z⟩ nn
 try dsimp only
 unfold Afi;refine Ac 10 ?_ ?_
 ·refine A 18 ?_;exact xL (s:=(m++([o]:List Int),i64.wrap (o+1))) (_,_) hX
 ·refine Ab 8 λb aa=>?_
  refine A 11 ?_;refine lP (E:=λ(s:(List Int)×Int) (g:Nat×Nat)=>[(1,.sl (a.map (eL NA))),(5,.osl 5 g.1 0 s.1.length),(7,.osl 7 g.2 0 b.length),(8,Av s.2)]) (O:=λs g=>[(5,dW g.1 1 3 (s.1.map NA)),(7,dW g.2 2 190 (b.map UQ))]) (body:=λs=>Aan b a s.1 s.2) (s:=(m,0)) (_,_) hX<|?_
  rintro⟨f,e⟩ ⟨ab,ac⟩ nn
  try dsimp only
  unfold Aan;refine Ac 9 ?_ ?_
  ·refine A 2 ?_;refine bC (E:=λ(s:(List Int)) (g:Nat×Nat)=>[(1,.sl (a.map (eL NA))),(5,.osl 5 g.1 0 s.length),(7,.osl 7 g.2 0 b.length),(8,Av e)]) (O:=λs g=>[(5,dW g.1 1 3 (s.map NA)),(7,dW g.2 2 190 (b.map UQ))]) (j:=λs=>RF e s) ?_ ?_
   ·refine A 6 ?_;refine Qx r r r (by decide)<|bD λad ae=>?_
    refine Ab 2 λd af=>?_
    refine A 5 ?_;refine Qx r r r (by decide)<|bD λag ah=>?_
    refine Ab 2 λc ai=>?_
    refine A 5 ?_;refine sC (E:=λ(s:Bool×Bool) (g:Nat×Nat)=>[(1,.sl (a.map (eL NA))),(5,.osl 5 g.1 0 f.length),(7,.osl 7 g.2 0 b.length),(8,Av e),(9,Av d),(10,Av c),(51,.sl (a.map (eL NA))),(52,.osl 5 g.1 0 f.length),(53,Av d),(54,Av c),(55,.bool s.1),(56,.bool s.2)]) (O:=λ_ g=>[(5,dW g.1 1 3 (f.map NA)),(7,dW g.2 2 190 (b.map UQ))]) (j:=λs=>Aap d c e f s.1 s.2) ?_ ?_
    ·refine A 6 ?_;refine NS r ?_ ?_
     ·refine A 12 ?_;exact TC (s:=f) (_,_) hX
     ·refine Ab 4 λp aj=>?_
      refine Ac 5 ?_ ?_
      ·refine A 2 ?_;exact TC (s:=f) (_,_) hX
      ·refine A 1 ?_;exact xC (s:=(p,(!p))) (_,_) hX
    ·rintro⟨q,t⟩ ⟨ak,ao⟩ nn
     try dsimp only
     unfold Aap;refine A 6 ?_;refine lP (E:=λ(s:(List Int)×Int) (g:Nat×Nat)=>[(1,.sl (a.map (eL NA))),(5,.osl 5 g.1 0 s.1.length),(7,.osl 7 g.2 0 b.length),(8,Av e),(9,Av d),(10,Av c),(11,Av s.2),(51,.sl (a.map (eL NA))),(52,.osl 5 g.1 0 s.1.length),(53,Av d),(54,Av c),(55,.bool q),(56,.bool t)]) (O:=λs g=>[(5,dW g.1 1 3 (s.1.map NA)),(7,dW g.2 2 190 (b.map UQ))]) (body:=λs=>Aao d c e s.1 s.2) (s:=(f,0)) (_,_) hX<|?_
     rintro⟨h,i⟩ ⟨ap,aq⟩ nn
     try dsimp only
     unfold Aao;refine Ac 9 ?_ ?_
     ·refine A 4 ?_;refine sC (E:=λ(s:Bool) (g:Nat×Nat)=>[(1,.sl (a.map (eL NA))),(5,.osl 5 g.1 0 h.length),(7,.osl 7 g.2 0 b.length),(8,Av e),(9,Av d),(10,Av c),(11,Av i),(51,.sl (a.map (eL NA))),(52,.osl 5 g.1 0 h.length),(53,Av d),(54,Av c),(55,.bool q),(56,.bool t),(77,.bool s)]) (O:=λ_ g=>[(5,dW g.1 1 3 (h.map NA)),(7,dW g.2 2 190 (b.map UQ))]) (j:=λs=>Ue i h d c s) ?_ ?_
      ·refine Ab 4 λar au=>?_
       refine A 4 ?_;refine NS r ?_ ?_
       ·refine A 8 ?_;exact xC (s:=true) (_,_) hX
       ·refine Ab 3 λu av=>?_
        refine A 5 ?_;exact xC (s:=(u==c)) (_,_) hX
      ·rintro aw ⟨ax,ay⟩ nn
       try dsimp only
       unfold Ue;refine cD r ?_ ?_
       ·exact B
       ·refine A 8 ?_;exact xL (s:=(h,i64.wrap (i+1))) (_,_) hX
     ·refine A 4 ?_;exact Oj (s:=h) (_,_) hX
   ·rintro v ⟨az,ba⟩ nn
    try dsimp only
    unfold RF;refine A 5 ?_;exact xL (s:=(v,i64.wrap (e+1))) (_,_) hX
  ·exact B

def ApP:Dw.Spec:=NI [] .ground YZ YY (λa=>AgN a.1 a.2.1 a.2.2) NW noE
theorem AtF:ND Tryz.prog 200 ApP:=by
 refine fn2 3 (NJ (l:=[(143,Tq),(116,YE)]) (by simp[Ub,Zv])) Tryz.func200<|?_
 intro a;unfold AgN;exact B

def Aih (a:Mk×NT×(List Int)):List D:=[NM a.1,QP a.2.1,.sl (a.2.2.map NA)]
def Aig (ds:List D):Mk×NT×(List Int):=(Qz (ds.getD 0 .top),Va (ds.getD 1 .top),(uL uI) (ds.getD 2 .top))
instance:Oc Aih Aig:=⟨λa=>by simp[Aig,Aih,Oy (u:=uI) (en:=NA) (λ_=>rfl)]⟩
def AuQ (b:(List Bool)):D:=.sl (b.map D.bool)
def ApO:Dw.Spec:=NI [] (.row 1 4) Aih Aig (λa=>AgM a.1 a.2.1 a.2.2) AuQ noE
theorem AtE:ND Tryz.prog 136 ApO:=by
 refine fn2 3 (NJ (l:=[(200,ApP)]) (by simp[AtF])) Tryz.func136<|?_
 rintro⟨c,d,e⟩;unfold AgM;refine A 19 ?_;refine lP (E:=λ(s:(List Bool)×Int) (g:Nat×Nat×Nat)=>[(2,.sl (e.map NA)),(3,.optr 3 g.1 0 0),(4,.optr 4 g.2.1 0 0),(7,.osl 7 g.2.2 0 s.1.length),(8,Av s.2)]) (O:=λs g=>[(3,dV g.1 3 36 (NM c)),(4,dV g.2.1 1 45 (.agg [.sl (d.Out.map (eL NA))])),(7,dW g.2.2 1 4 (s.1.map D.bool))]) (body:=λs=>AjD c d e s.1 s.2) (s:=(([]:List Bool),0)) (_,_,_) hX<|?_
 rintro⟨a,b⟩ ⟨i,j,k⟩ nn
 try dsimp only
 unfold AjD;refine Ac 10 ?_ ?_
 ·refine Ab 9 λm o=>?_
  refine Ab 11 λp q=>?_
  refine A 3 ?_;refine NS r ?_ ?_
  ·refine A 4 ?_;refine NS r ?_ ?_
   ·refine Ab 3 λf t=>?_
    refine Ab 5 λh u=>?_
    refine A 17 ?_;exact xL (s:=(a++([(!(f==h))]:List Bool),i64.wrap (b+1))) (_,_,_) hX
   ·refine A 25 ?_;exact xL (s:=(a++([true]:List Bool),i64.wrap (b+1))) (_,_,_) hX
  ·refine A 29 ?_;exact xL (s:=(a++([false]:List Bool),i64.wrap (b+1))) (_,_,_) hX
 ·exact B

def Aos:Dw.Spec:=NI [] .ground XB XA (λa=>AiG a.1 a.2) NW noE
theorem AsJ:ND Tryz.prog 140 Aos:=by
 refine fn2 2 (NZ) Tryz.func140<|?_;rintro⟨a,b⟩;unfold AiG;refine Ac 17 ?_ ?_
 ·exact B
 ·refine A 9 ?_;refine lP (E:=λ(s:Int) (g:Nat)=>[(1,.sl (b.map NA)),(2,.optr 2 g 0 0),(5,Av s)]) (O:=λ_ g=>[(2,dV g 3 36 (NM a))]) (body:=λs=>Aic b a s) (s:=0) _ hX<|?_
  rintro c e nn
  try dsimp only
  unfold Aic;refine Ac 9 ?_ ?_
  ·refine Ab 8 λf h=>?_
   refine A 4 ?_;refine NS r ?_ ?_
   ·exact B
   ·refine Ab 2 λi j=>?_
    refine Ac 8 ?_ ?_
    ·exact B
    ·refine A 8 ?_;exact xL (s:=i64.wrap (c+1)) _ hX
  ·refine A 12 ?_;refine lP (E:=λ(s:Int) (g:Nat)=>[(1,.sl (b.map NA)),(2,.optr 2 g 0 0),(6,Av s)]) (O:=λ_ g=>[(2,dV g 3 36 (NM a))]) (body:=λs=>Aid b a s) (s:=0) _ hX<|?_
   rintro d k nn
   try dsimp only
   unfold Aid;refine Ac 9 ?_ ?_
   ·refine Ab 10 λl m=>?_
    refine Ab 2 λo p=>?_
    refine Ab 6 λq t=>?_
    refine A 5 ?_;refine NS r ?_ ?_
    ·exact B
    ·refine Ab 3 λu v=>?_
     refine Ab 2 λx z=>?_
     refine Ab 4 λaa ab=>?_
     refine Ac 6 ?_ ?_
     ·exact B
     ·refine A 8 ?_;exact xL (s:=i64.wrap (d+1)) _ hX
   ·exact B

def AeR:Dw.Spec:=NI [] .ground Ri Rh (λa=>YF a.1 a.2) NC noE
theorem Aik:ND Tryz.prog 76 AeR:=by
 refine fn2 2 (NJ (l:=[(140,Aos),(141,AdG)]) (by simp[AsJ,Ajd])) Tryz.func76<|?_
 rintro⟨b,a⟩;unfold YF;refine A 7 ?_;refine sC (E:=λ(_s:Unit) (g:Nat×Nat)=>[(2,.optr 2 g.1 0 0),(3,.optr 3 g.2 0 0)]) (O:=λ_ g=>[(2,dV g.1 3 36 (NM b)),(3,dV g.2 2 48 (.agg [.sl (a.To.map NA),.sl (a.Keep.map D.bool)]))]) (j:=λ_=>Ade b a) ?_ ?_
 ·refine Ab 5 λd e=>?_
  refine A 3 ?_;refine NS r ?_ ?_
  ·exact B
  ·refine Ac 10 ?_ ?_
   ·exact B
   ·refine A 1 ?_;exact xC (s:=()) (_,_) hX
 ·rintro⟨⟩ ⟨f,h⟩ nn
  try dsimp only
  unfold Ade;refine A 7 ?_;refine lP (E:=λ(s:Int) (g:Nat×Nat)=>[(2,.optr 2 g.1 0 0),(3,.optr 3 g.2 0 0),(5,Av s)]) (O:=λ_ g=>[(2,dV g.1 3 36 (NM b)),(3,dV g.2 2 48 (.agg [.sl (a.To.map NA),.sl (a.Keep.map D.bool)]))]) (body:=λs=>Adc b a s) (s:=0) (_,_) hX<|?_
  rintro c ⟨i,k⟩ nn
  try dsimp only
  unfold Adc;refine Ac 10 ?_ ?_
  ·refine Ab 9 λm o=>?_
   refine A 4 ?_;refine NS r ?_ ?_
   ·refine Ab 3 λp q=>?_
    refine Ab 2 λt u=>?_
    refine Ac 5 ?_ ?_
    ·exact B
    ·refine A 8 ?_;exact xL (s:=i64.wrap (c+1)) (_,_) hX
   ·refine A 19 ?_;exact xL (s:=i64.wrap (c+1)) (_,_) hX
  ·exact B

def AdI (a:Int×(List Int)):List D:=[Av a.1,.sl (a.2.map NA)]
def AdH (ds:List D):Int×(List Int):=(uI (ds.getD 0 .top),(uL uI) (ds.getD 1 .top))
instance:Oc AdI AdH:=⟨λa=>by simp[AdH,AdI,uI,Oy (u:=uI) (en:=NA) (λ_=>rfl)]⟩
def AlN:Dw.Spec:=NI [] .ground AdI AdH (λa=>TB a.1 a.2) NC noE
theorem Ars:ND Tryz.prog 144 AlN:=by
 refine fn2 2 (NZ) Tryz.func144<|?_;intro a;unfold TB;exact B

def AgC:Dw.Spec:=NI [] .ground Xh Xg (λa=>Xj a.1 a.2) RD noE
theorem AkR:ND Tryz.prog 81 AgC:=by
 refine fn2 2 (NJ (l:=[(144,AlN)]) (by simp[Ars])) Tryz.func81<|?_
 intro a;unfold Xj;exact B

def ApQ:Dw.Spec:=NI [] (.row 1 3) Ri Rh (λa=>Adf a.1 a.2) OC noE
theorem AtG:ND Tryz.prog 77 ApQ:=by
 refine fn2 2 (NJ (l:=[(81,AgC),(142,AkS),(124,AaJ),(143,Tq),(67,Aer)]) (by simp[AkR,Aon,AcS,Ub,AgA])) Tryz.func77<|?_
 rintro⟨c,a⟩;unfold Adf;refine A 19 ?_;refine lP (E:=λ(s:(List Int)×Int) (g:Nat×Nat×Nat)=>[(2,.optr 2 g.1 0 0),(3,.optr 3 g.2.1 0 0),(5,.osl 5 g.2.2 0 s.1.length),(6,Av s.2)]) (O:=λs g=>[(2,dV g.1 3 36 (NM c)),(3,dV g.2.1 2 48 (.agg [.sl (a.To.map NA),.sl (a.Keep.map D.bool)])),(5,dW g.2.2 1 3 (s.1.map NA))]) (body:=λs=>AeT c a s.1 s.2) (s:=(([]:List Int),0)) (_,_,_) hX<|?_
 rintro⟨d,b⟩ ⟨h,i,k⟩ nn
 try dsimp only
 unfold AeT;refine sC (E:=λ(_s:Unit) (g:Nat×Nat×Nat)=>[(2,.optr 2 g.1 0 0),(3,.optr 3 g.2.1 0 0),(5,.osl 5 g.2.2 0 d.length),(6,Av b),(16,Av b),(17,.optr 3 g.2.1 0 1),(18,.sl (a.Keep.map D.bool)),(19,Av (a.Keep.length:Int)),(20,.bool (decide (b<(a.Keep.length:Int))))]) (O:=λ_ g=>[(2,dV g.1 3 36 (NM c)),(3,dV g.2.1 2 48 (.agg [.sl (a.To.map NA),.sl (a.Keep.map D.bool)])),(5,dW g.2.2 1 3 (d.map NA))]) (j:=λ_=>AaL a b d c) ?_ ?_
 ·refine A 8 ?_;refine NS r ?_ ?_
  ·refine Ac 8 ?_ ?_
   ·refine A 1 ?_;exact xC (s:=()) (_,_,_) hX
   ·exact B
  ·exact B
 ·rintro⟨⟩ ⟨m,o,p⟩ nn
  try dsimp only
  unfold AaL;refine Ab 8 λq t=>?_
  refine Ac 5 ?_ ?_
  ·refine A 9 ?_;exact xL (s:=(d,i64.wrap (b+1))) (_,_,_) hX
  ·refine Ab 7 λu v=>?_
   refine Ab 4 λx z=>?_
   refine Ab 9 λr8 ab=>?_
   refine Ab 1 λe ac=>?_
   refine Ab 7 λad ae=>?_
   refine Ac 13 ?_ ?_
   ·refine Ab 3 λf af=>?_
    refine A 10 ?_;exact xL (s:=(f,i64.wrap (b+1))) (_,_,_) hX
   ·refine A 8 ?_;exact xL (s:=(e,i64.wrap (b+1))) (_,_,_) hX

end
end Go.Proofs.YtcaoepecbgggcaaGreatDoor
