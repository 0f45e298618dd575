/-
 The code does what its typed programs say.
-/
import Derived.Test.YtcaoepecbgggcaaGreatDoorDe
import Derived.Test.YtcaoepecbgggcaaGreatDoorProg
import Derived.Test.YtcaoepecbgggcaaGreatDoorDc
import Derived.KernelRfl
import Derived.Test.YtcaoepecbgggcaaGreatDoorDxP
import Derived.Test.YtcaoepecbgggcaaGreatDoorDxF1
import Derived.Test.YtcaoepecbgggcaaGreatDoorDxF4
import Derived.Test.YtcaoepecbgggcaaGreatDoorDxF10
import Derived.Test.YtcaoepecbgggcaaGreatDoorDxF12
import Derived.Test.YtcaoepecbgggcaaGreatDoorDxF13
import Derived.Test.YtcaoepecbgggcaaGreatDoorDxF14
open List renaming replicate->aA
namespace Go.Proofs.YtcaoepecbgggcaaGreatDoor
open Go Go.Dw Go.Proofs
open Go.IntKind (i64)
set_option maxRecDepth 100000
set_option maxHeartbeats 40000000
open Go.Dw renaming OQ -> bD,PQ -> cK,Yt -> sE,PX -> cD,RJ -> xC,PH -> xL,Qm -> lP,Qd -> sC,Rf -> bC,rf -> r
noncomputable def AoI:Dw.Spec:=NN [] .ground Ph Pg (λa=>Adr a.1 a.2) WV noE
theorem Anm:NL Tryz.prog 164 AoI:=by
 refine fn2 2 (nK 165 Ahu<|nK 225 Alo<|NG) Tryz.func164<|?_;rintro⟨a,b⟩;unfold Adr;refine Ab 14 λc d=>?_
 refine Ac 4 ?_ ?_
 ·exact B
 ·refine A 9 ?_;refine lP (E:=λ(s:Int) (g:Nat×Nat)=>[(2,.optr 2 g.1 0 0),(3,.optr 3 g.2 0 0),(7,Av s)]) (O:=λ_ g=>[(2,dV g.1 3 36 (NQ a)),(3,dV g.2 1 45 (.agg [.sl (b.Out.map (eL Mk))]))]) (_,_) hX<|?_
  rintro k4 ⟨e,f⟩ nn;dsimp only[Ahs];exact B

noncomputable def AoH:Dw.Spec:=NN [] .ground Ph Pg (λa=>Adq a.1 a.2) NK noE
theorem Anl:NL Tryz.prog 104 AoH:=by
 refine fn2 2 (nK 164 Anm<|nK 165 Ahu<|NG) Tryz.func104<|?_;intro a;unfold Adq;exact B

def AbW (a:Lo×Oa×Bool):List D:=[NQ a.1,SQ a.2.1,.bool a.2.2]
def AbV (ds:List D):Lo×Oa×Bool:=(RX (ds.getD 0 .top),VC (ds.getD 1 .top),uBo (ds.getD 2 .top))
instance:Od AbW AbV:=⟨λa=>by simp[AbV,AbW,uBo]⟩
def Aei (b:(List (List Int))×Int):D:=.tup [.sl (b.1.map (eL Mk)),Av b.2]
noncomputable def AoO:Dw.Spec:=NN [] .val AbW AbV (λa=>Aav a.1 a.2.1 a.2.2) Aei noE
theorem Ahx:NL Tryz.prog 197 AoO:=by
 refine fn2 3 (AqJ (l:=[(104,AoH),(143,Amf),(67,Arq)]) (by simp[Anl,XQ,Afh])) Tryz.func197<|?_
 rintro⟨d,f,c⟩;unfold Aav;refine Ab 13 λv x=>?_
 refine Ac 10 ?_ ?_
 ·exact B
 ·refine A 7 ?_;refine cK λhq=>AgL (α:=Int) r r r hq r<|?_
  refine A 2 ?_;refine Qh (E:=[(2,.bool c),(3,.optr 3 _ 0 0),(4,.optr 4 _ 0 0),(9,.osl 9 _ 0 ((aA (d.Slots.length:Int).toNat ([]:(List Int))).length))]) (O:=[(3,dV _ 3 36 (NQ d)),(4,dV _ 1 45 (.agg [.sl (f.Out.map (eL Mk))])),(9,dW _ 1 37 ((aA (d.Slots.length:Int).toNat ([]:(List Int))).map (eL Mk)))]) ((Ajx (g:=9) r (Alh (l:=aA (d.Slots.length:Int).toNat ([]:(List Int))) Mk (λ_ h=>List.eq_of_mem_replicate h)) hX)) λnn=>?_
  refine A 7 ?_;refine lP (E:=λ(s:(List (List Int))×Int) (g:Nat×Nat×Nat)=>[(2,.bool c),(3,.optr 3 g.1 0 0),(4,.optr 4 g.2.1 0 0),(9,.osl 9 g.2.2 0 s.1.length),(10,Av s.2)]) (O:=λs g=>[(3,dV g.1 3 36 (NQ d)),(4,dV g.2.1 1 45 (.agg [.sl (f.Out.map (eL Mk))])),(9,dW g.2.2 1 37 (s.1.map (eL Mk)))]) (body:=λs=>Ahw d f c s.1 s.2) (s:=(aA (d.Slots.length:Int).toNat ([]:(List Int)),0)) (_,_,_) hX<|?_
  rintro⟨k,k6⟩ ⟨z,aa,ab⟩ nn
  try dsimp only
  unfold Ahw;refine Ac 10 ?_ ?_
  ·refine A 2 ?_;refine bC (E:=λ(s:Int×Int×Int×Int×Int×(List (List Int))) (g:Nat×Nat×Nat)=>[(2,.bool c),(3,.optr 3 g.1 0 0),(4,.optr 4 g.2.1 0 0),(9,.osl 9 g.2.2 0 s.2.2.2.2.2.length),(10,Av k6)]) (O:=λs g=>[(3,dV g.1 3 36 (NQ d)),(4,dV g.2.1 1 45 (.agg [.sl (f.Out.map (eL Mk))])),(9,dW g.2.2 1 37 (s.2.2.2.2.2.map (eL Mk)))]) (j:=λs=>TI k6 s.1 s.2.1 s.2.2.1 s.2.2.2.1 s.2.2.2.2.1 s.2.2.2.2.2) ?_ ?_
   ·refine Ab 5 λa ac=>?_
    refine Ab 9 λb ad=>?_
    refine A 8 ?_;refine sC (E:=λ(_s:Unit) (g:Nat×Nat×Nat×Nat)=>[(2,.bool c),(3,.optr 3 g.1 0 0),(4,.optr 4 g.2.1 0 0),(9,.osl 9 g.2.2.1 0 k.length),(10,Av k6),(11,.optr 11 g.2.2.2 0 0),(12,Av b.1),(13,.bool b.2)]) (O:=λ_ g=>[(3,dV g.1 3 36 (NQ d)),(4,dV g.2.1 1 45 (.agg [.sl (f.Out.map (eL Mk))])),(9,dW g.2.2.1 1 37 (k.map (eL Mk))),(11,dV g.2.2.2 5 90 (Ob a))]) (j:=λ_=>Xt f k6 b c a k) ?_ ?_
    ·refine A 6 ?_;refine Tz r ?_ ?_
     ·refine Ac 8 ?_ ?_
      ·refine A 2 ?_;exact GA (s:=(a.Op,a.A,a.B,a.C,a.Imm,k)) (_,_,_) hX
      ·refine A 1 ?_;exact xC (s:=()) (_,_,_,_) hX
     ·refine A 10 ?_;exact xC (s:=()) (_,_,_,_) hX
    ·rintro⟨⟩ ⟨ae,af,ag,ah⟩ nn
     try dsimp only
     unfold Xt;refine A 6 ?_;refine lP (E:=λ(s:(List (List Int))×Int) (g:Nat×Nat×Nat×Nat)=>[(2,.bool c),(3,.optr 3 g.1 0 0),(4,.optr 4 g.2.1 0 0),(9,.osl 9 g.2.2.1 0 s.1.length),(10,Av k6),(11,.optr 11 g.2.2.2 0 0),(12,Av b.1),(13,.bool b.2),(14,Av s.2)]) (O:=λs g=>[(3,dV g.1 3 36 (NQ d)),(4,dV g.2.1 1 45 (.agg [.sl (f.Out.map (eL Mk))])),(9,dW g.2.2.1 1 37 (s.1.map (eL Mk))),(11,dV g.2.2.2 5 90 (Ob a))]) (body:=λs=>ZD f k6 b c a s.1 s.2) (s:=(k,0)) (_,_,_,_) hX<|?_
     rintro⟨e,i⟩ ⟨ai,aj,ak,ao⟩ nn
     try dsimp only
     unfold ZD;refine sC (E:=λ(_s:Unit) (g:Nat×Nat×Nat×Nat)=>[(2,.bool c),(3,.optr 3 g.1 0 0),(4,.optr 4 g.2.1 0 0),(9,.osl 9 g.2.2.1 0 e.length),(10,Av k6),(11,.optr 11 g.2.2.2 0 0),(12,Av b.1),(13,.bool b.2),(14,Av i),(62,.bool b.2)]) (O:=λ_ g=>[(3,dV g.1 3 36 (NQ d)),(4,dV g.2.1 1 45 (.agg [.sl (f.Out.map (eL Mk))])),(9,dW g.2.2.1 1 37 (e.map (eL Mk))),(11,dV g.2.2.2 5 90 (Ob a))]) (j:=λ_=>ZE f k6 i b e c a) ?_ ?_
     ·refine Ab 6 λap aq=>?_
      refine A 5 ?_;refine Tz r ?_ ?_
      ·refine Ac 4 ?_ ?_
       ·refine A 1 ?_;exact xC (s:=()) (_,_,_,_) hX
       ·refine A 4 ?_;exact Ago (s:=(a.Op,a.A,a.B,a.C,a.Imm,e)) (_,_,_) hX
      ·refine A 9 ?_;exact Ago (s:=(a.Op,a.A,a.B,a.C,a.Imm,e)) (_,_,_) hX
     ·rintro⟨⟩ ⟨ar,au,av,aw⟩ nn
      try dsimp only
      unfold ZE;refine Ab 7 λax ay=>?_
      refine Ab 3 λm az=>?_
      refine A 5 ?_;refine sC (E:=λ(s:Bool×Bool×Bool×Bool) (g:Nat×Nat×Nat×Nat)=>[(2,.bool c),(3,.optr 3 g.1 0 0),(4,.optr 4 g.2.1 0 0),(9,.osl 9 g.2.2.1 0 e.length),(10,Av k6),(11,.optr 11 g.2.2.2 0 0),(12,Av b.1),(13,.bool b.2),(14,Av i),(15,Av m),(62,.bool b.2),(78,.bool c),(79,.bool (!c)),(80,.bool s.1),(84,.bool s.2.1),(85,.bool s.2.2.1),(90,.bool s.2.2.2)]) (O:=λ_ g=>[(3,dV g.1 3 36 (NQ d)),(4,dV g.2.1 1 45 (.agg [.sl (f.Out.map (eL Mk))])),(9,dW g.2.2.1 1 37 (e.map (eL Mk))),(11,dV g.2.2.2 5 90 (Ob a))]) (j:=λs=>SA b e m i s.1 s.2.1 s.2.2.1 s.2.2.2) ?_ ?_
      ·refine A 6 ?_;refine Tz r ?_ ?_
       ·refine A 26 ?_;exact xL (s:=(e,i64.wrap (i+1))) (_,_,_,_) hX
       ·refine A 3 ?_;refine Tz r ?_ ?_
        ·refine A 5 ?_;refine Tz r ?_ ?_
         ·refine Ac 8 ?_ ?_
          ·refine A 9 ?_;exact xL (s:=(e,i64.wrap (i+1))) (_,_,_,_) hX
          ·refine A 1 ?_;exact xC (s:=(true,(a.Op==17),true,(a.B==m))) (_,_,_,_) hX
         ·refine A 10 ?_;exact xC (s:=(true,(a.Op==17),false,false)) (_,_,_,_) hX
        ·refine A 15 ?_;exact xC (s:=(false,false,false,false)) (_,_,_,_) hX
      ·rintro⟨ba,bb,bc,bd⟩ ⟨bf,bg,bh,bi⟩ nn
       try dsimp only
       unfold SA;refine Ab 8 λbj bk=>?_
       refine Ab 2 λo bl=>?_
       refine Ab 4 λbm bn=>?_
       refine Ab 2 λp bo=>?_
       refine A 2 ?_;refine bD λbp q=>sE (l:=e) (en:=(eL Mk)) (q':=o) r r r r r r r (by simp) q r r r (by simp[PS,cells,eL]) r<|?_
       refine A 1 ?_;refine bD λbq t=>sE (l:=e.set b.1.toNat o) (en:=(eL Mk)) (q':=p) r r r r r r r (by simp) t r r r (by simp[PS,cells,eL]) r<|?_
       exact zB
   ·rintro⟨x7,x8,x9,bu,bv,u⟩ ⟨bw,bx,bz⟩ nn
    try dsimp only
    unfold TI;refine A 5 ?_;exact xL (s:=(u,i64.wrap (k6+1))) (_,_,_) hX
  ·exact B

end Go.Proofs.YtcaoepecbgggcaaGreatDoor
