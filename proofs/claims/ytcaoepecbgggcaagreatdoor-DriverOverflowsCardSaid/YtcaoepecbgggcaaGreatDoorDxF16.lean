/-
 The code does what its typed programs say.
-/
import Derived.Test.YtcaoepecbgggcaaGreatDoorDe
import Derived.Test.YtcaoepecbgggcaaGreatDoorProg
import Derived.Test.YtcaoepecbgggcaaGreatDoorDc
import Derived.KernelRfl
import Derived.Test.YtcaoepecbgggcaaGreatDoorDxP
import Derived.Test.YtcaoepecbgggcaaGreatDoorDxF1
import Derived.Test.YtcaoepecbgggcaaGreatDoorDxF2
import Derived.Test.YtcaoepecbgggcaaGreatDoorDxF3
import Derived.Test.YtcaoepecbgggcaaGreatDoorDxF5
import Derived.Test.YtcaoepecbgggcaaGreatDoorDxF6
import Derived.Test.YtcaoepecbgggcaaGreatDoorDxF7
import Derived.Test.YtcaoepecbgggcaaGreatDoorDxF8
import Derived.Test.YtcaoepecbgggcaaGreatDoorDxF15
open List renaming replicate->aA
namespace Go.Proofs.YtcaoepecbgggcaaGreatDoor
open Go Go.Dw Go.Proofs
open Go.IntKind (i64)
set_option maxRecDepth 100000
set_option maxHeartbeats 40000000
open Go.Dw renaming OQ -> bD,WO -> bS,PX -> cD,RJ -> xC,PH -> xL,Qm -> lP,Qd -> sC,Rf -> bC,rf -> r
noncomputable def Akk:Dw.Spec:=NN [] .ground Yy Yx (λa=>Ui a) NX noE
theorem AdD:NL Tryz.prog 174 Akk:=by
 refine fn2 1 (nK 211 AfV<|NG) Tryz.func174<|?_;intro a;unfold Ui;refine A 14 ?_;refine lP (E:=λ(s:Int) (_g:Unit)=>[(0,.sl (a.map (eL Mk))),(5,.sl (a.map (eL Mk))),(6,Av (a.length:Int)),(7,Av s)]) (O:=λ_ _=>[]) () hX<|?_
 rintro b ⟨⟩ nn;dsimp only[AdC];exact B

def AdX (a:(List (List Int))×(List Int)):List D:=[.sl (a.1.map (eL Mk)),.sl (a.2.map Mk)]
def AdW (ds:List D):(List (List Int))×(List Int):=((uL (uL uI)) (ds.getD 0 .top),(uL uI) (ds.getD 1 .top))
instance:Od AdX AdW:=⟨λa=>by simp[AdW,AdX,OG (u:=(uL uI)) (en:=(eL Mk)) (OG (u:=uI) (en:=Mk) (λ_=>rfl)),OG (u:=uI) (en:=Mk) (λ_=>rfl)]⟩
noncomputable def Agq:Dw.Spec:=NN [] .val AdX AdW (λa=>Wb a.1 a.2) AdZ noE
theorem AiZ:NL Tryz.prog 111 Agq:=by
 refine fn2 2 (nK 174 AdD<|nK 110 Ahb<|nK 175 AgX<|NG) Tryz.func111<|?_;rintro⟨a,b⟩;unfold Wb;refine A 6 ?_;refine sC (E:=λ(_s:Unit) (_g:Unit)=>[(0,.sl (a.map (eL Mk))),(1,.sl (b.map Mk))]) (O:=λ_ _=>[]) (j:=λ_=>AeW b a) ?_ ?_
 ·exact B
 ·rintro⟨⟩ ⟨⟩ nn;dsimp only[AeW];refine A 9 ?_;refine lP (E:=λ(s:Int) (_g:Unit)=>[(0,.sl (a.map (eL Mk))),(1,.sl (b.map Mk)),(24,.sl (b.map Mk)),(25,Av (b.length:Int)),(26,Av s)]) (O:=λ_ _=>[]) () hX<|?_
  rintro h ⟨⟩ nn;dsimp only[AiX];refine Ac 6 ?_ ?_
  ·exact B
  ·refine Ab 9 λk m=>?_
   refine Ac 14 ?_ ?_
   ·exact B
   ·refine A 26 ?_;refine lP (E:=λ(s:(List (List Int))×(List Int)×(List Bool)×(List Int)×Int) (g:Nat)=>[(10,.optr 4150 g 0 0),(56,Av (a.length:Int)),(57,Av s.2.2.2.2)]) (O:=λs g=>[(4150,dV g 4 194 (.agg [.sl (s.1.map (eL Mk)),.sl (s.2.1.map Mk),.row 1 4 (s.2.2.1.map D.bool),.row 1 3 (s.2.2.2.1.map Mk)]))]) _ (((AsC (g:=54) (g2:=4150) (es':=[.agg [.sl (a.map (eL Mk)),.sl (b.map Mk),.osl 49 _ 0 ((aA (a.length:Int).toNat false).length),.osl 52 _ 0 ((aA (a.length:Int).toNat (0:Int)).length)]]) r r r (Awf (by repeat' first|exact AeO.nil|apply AeO.same rfl|apply AeO.row (by decide))) (Abk (g:=4150) (i:=0) (off:=2) (g':=49) (l:=aA (a.length:Int).toNat false) (en:=D.bool) r r r (.inr ⟨rfl,r⟩) r r (λ_=>r) r (Abk (g:=4150) (i:=0) (off:=3) (g':=52) (l:=aA (a.length:Int).toNat (0:Int)) (en:=Mk) r r r (.inr ⟨rfl,r⟩) r r (λ_=>r) r hX)))))<|?_
    rintro⟨d,e,f,c,o⟩ p nn;dsimp only[AiY];refine Ac 6 ?_ ?_
    ·exact B
    ·refine A 6 ?_;refine AeH (E:=[(10,.optr 4150 _ 0 0)]) (O:=[(4150,dV _ 4 194 (.agg [.sl (d.map (eL Mk)),.sl (e.map Mk),.row 1 4 (f.map D.bool),.osl 4697 _ 0 c.length])),(4697,dW _ 1 3 (c.map Mk))]) ((Ahg (g:=4150) (off:=3) 601 (c) Mk r r r hX)) λnn=>?_
     exact B

def RK (a:(List (List Int))×(List Int)×(List Int)):List D:=[.sl (a.1.map (eL Mk)),.sl (a.2.1.map Mk),.sl (a.2.2.map Mk)]
def Tv (ds:List D):(List (List Int))×(List Int)×(List Int):=((uL (uL uI)) (ds.getD 0 .top),(uL uI) (ds.getD 1 .top),(uL uI) (ds.getD 2 .top))
instance:Od RK Tv:=⟨λa=>by simp[Tv,RK,OG (u:=(uL uI)) (en:=(eL Mk)) (OG (u:=uI) (en:=Mk) (λ_=>rfl)),OG (u:=uI) (en:=Mk) (λ_=>rfl)]⟩
noncomputable def AgY:Dw.Spec:=NN [] .ground RK Tv (λa=>RY a.1 a.2.1 a.2.2) NX noE
theorem Aal:NL Tryz.prog 178 AgY:=by
 refine fn2 3 (nK 174 AdD<|nK 241 AbF<|NG) Tryz.func178<|?_;rintro⟨b,a,c⟩;unfold RY;refine A 5 ?_;refine sC (E:=λ(_s:Unit) (_g:Unit)=>[(1,.sl (a.map Mk))]) (O:=λ_ _=>[]) (j:=λ_=>Sa a) ?_ ?_
 ·exact B
 ·rintro⟨⟩ ⟨⟩ nn;dsimp only[Sa];refine A 9 ?_;refine lP (E:=λ(s:Int) (_g:Unit)=>[(26,.sl (a.map Mk)),(27,Av (a.length:Int)),(28,Av s)]) (O:=λ_ _=>[]) () hX<|?_
  rintro d ⟨⟩ nn;dsimp only[WI];exact B

def AaT (a:(List NS)×(List (List Int))×Int):List D:=[.sl (a.1.map OR),.sl (a.2.1.map (eL Mk)),Av a.2.2]
def AaS (ds:List D):(List NS)×(List (List Int))×Int:=((uL Wx) (ds.getD 0 .top),(uL (uL uI)) (ds.getD 1 .top),uI (ds.getD 2 .top))
instance:Od AaT AaS:=⟨λa=>by simp[AaS,AaT,uI,OG (u:=Wx) (en:=OR) AeN,OG (u:=(uL uI)) (en:=(eL Mk)) (OG (u:=uI) (en:=Mk) (λ_=>rfl))]⟩
noncomputable def Anw:Dw.Spec:=NN [] .val AaT AaS (λa=>Zk a.1 a.2.1 a.2.2) AdZ noE
theorem Amp:NL Tryz.prog 138 Anw:=by
 refine fn2 3 (AqJ (l:=[(121,Aox),(201,AoK),(130,Aou),(202,AoW),(116,Arr),(203,Arp)]) (by simp[Ahq,Ann,Zz,Anx,Zh,Aqe])) Tryz.func138<|?_
 rintro⟨a,c,d⟩;unfold Zk;refine Ab 10 λv x=>?_
 refine Ac 10 ?_ ?_
 ·exact B
 ·refine A 2 ?_;refine sC (E:=λ(_s:Unit) (_g:Unit)=>[(0,.sl (a.map OR)),(1,.sl (c.map (eL Mk))),(2,Av d)]) (O:=λ_ _=>[]) (j:=λ_=>YI a c d) ?_ ?_
  ·refine Ab 5 λz aa=>?_
   refine A 3 ?_;refine Tz r ?_ ?_
   ·exact B
   ·refine Ab 1 λab ac=>?_
    refine Ac 5 ?_ ?_
    ·exact B
    ·refine A 1 ?_;exact xC (s:=()) () hX
  ·rintro⟨⟩ ⟨⟩ nn
   try dsimp only
   unfold YI;refine Ab 15 λb ad=>?_
   refine A 11 ?_;refine lP (E:=λ(s:(List Bool)×(List Int)×Int) (g:Nat×Nat×Nat)=>[(0,.sl (a.map OR)),(1,.sl (c.map (eL Mk))),(2,Av d),(9,.osl 9 g.1 0 s.2.1.length),(10,.osl 10 g.2.1 0 s.1.length),(11,.osl 11 g.2.2 0 b.length),(12,Av s.2.2)]) (O:=λs g=>[(9,dW g.1 1 3 (s.2.1.map Mk)),(10,dW g.2.1 1 4 (s.1.map D.bool)),(11,dW g.2.2 1 3 (b.map Mk))]) (body:=λs=>Acd b a c d s.1 s.2.1 s.2.2) (s:=(aA (a.length:Int).toNat false,aA (a.length:Int).toNat (0:Int),0)) (_,_,_) hX<|?_
   rintro⟨h,e,f⟩ ⟨ae,af,ag⟩ nn
   try dsimp only
   unfold Acd;refine Ac 9 ?_ ?_
   ·refine A 2 ?_;refine bC (E:=λ(s:(List Bool)×(List Int)) (g:Nat×Nat×Nat)=>[(0,.sl (a.map OR)),(1,.sl (c.map (eL Mk))),(2,Av d),(9,.osl 9 g.1 0 s.2.length),(10,.osl 10 g.2.1 0 s.1.length),(11,.osl 11 g.2.2 0 b.length),(12,Av f)]) (O:=λs g=>[(9,dW g.1 1 3 (s.2.map Mk)),(10,dW g.2.1 1 4 (s.1.map D.bool)),(11,dW g.2.2 1 3 (b.map Mk))]) (j:=λs=>YJ f s.1 s.2) ?_ ?_
    ·refine Ab 5 λm ah=>?_
     refine A 16 ?_;refine lP (E:=λ(s:(List NT)×Int) (g:Nat×Nat×Nat×Nat)=>[(0,.sl (a.map OR)),(1,.sl (c.map (eL Mk))),(2,Av d),(9,.osl 9 g.1 0 e.length),(10,.osl 10 g.2.1 0 h.length),(11,.osl 11 g.2.2.1 0 b.length),(12,Av f),(13,Av m),(14,.osl 14 g.2.2.2 0 s.1.length),(15,Av s.2)]) (O:=λs g=>[(9,dW g.1 1 3 (e.map Mk)),(10,dW g.2.1 1 4 (h.map D.bool)),(11,dW g.2.2.1 1 3 (b.map Mk)),(14,dW g.2.2.2 2 186 (s.1.map PN))]) (body:=λs=>Ace a h c m e d f s.1 s.2) (s:=(([]:List NT),0)) (_,_,_,_) hX<|?_
     rintro⟨i,k⟩ ⟨ai,aj,ak,ao⟩ nn
     try dsimp only
     unfold Ace;refine Ac 9 ?_ ?_
     ·refine A 4 ?_;refine sC (E:=λ(s:Bool) (g:Nat×Nat×Nat×Nat)=>[(0,.sl (a.map OR)),(1,.sl (c.map (eL Mk))),(2,Av d),(9,.osl 9 g.1 0 e.length),(10,.osl 10 g.2.1 0 h.length),(11,.osl 11 g.2.2.1 0 b.length),(12,Av f),(13,Av m),(14,.osl 14 g.2.2.2 0 i.length),(15,Av k),(68,.bool s)]) (O:=λ_ g=>[(9,dW g.1 1 3 (e.map Mk)),(10,dW g.2.1 1 4 (h.map D.bool)),(11,dW g.2.2.1 1 3 (b.map Mk)),(14,dW g.2.2.2 2 186 (i.map PN))]) (j:=λs=>RV k e a i s) ?_ ?_
      ·refine Ab 4 λap aq=>?_
       refine A 2 ?_;refine Tz r ?_ ?_
       ·refine Ab 2 λar au=>?_
        refine Ab 3 λq av=>?_
        refine A 3 ?_;exact xC (s:=q) (_,_,_,_) hX
       ·refine A 8 ?_;exact xC (s:=false) (_,_,_,_) hX
      ·rintro aw ⟨ax,ay,az,ba⟩ nn
       try dsimp only
       unfold RV;refine cD r ?_ ?_
       ·refine Ab 5 λo bb=>?_
        refine Ab 3 λp bc=>?_
        refine A 4 ?_;refine bS ([(NT.mk o p.Size)]:List NT) PN r r r (by simp) r r r<|?_
        refine A 10 ?_;exact xL (s:=(i++([(NT.mk o p.Size)]:List NT),i64.wrap (k+1))) (_,_,_,_) hX
       ·refine A 8 ?_;exact xL (s:=(i,i64.wrap (k+1))) (_,_,_,_) hX
     ·exact zB
    ·rintro⟨t,u⟩ ⟨bd,bf,bg⟩ nn
     try dsimp only
     unfold YJ;refine A 5 ?_;exact xL (s:=(t,u,i64.wrap (f+1))) (_,_,_) hX
   ·exact B

end Go.Proofs.YtcaoepecbgggcaaGreatDoor
