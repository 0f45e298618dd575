/-
 The code does what its typed programs say.
-/
import Derived.Test.YtcaoepecbgggcaaGreatDoorDxF13
import Derived.Test.YtcaoepecbgggcaaGreatDoorDxF14
import Derived.Test.YtcaoepecbgggcaaGreatDoorDxF18
open List renaming replicate->aA
namespace Go.Proofs.YtcaoepecbgggcaaGreatDoor
open Go Go.Dw Go.Proofs
set_option maxRecDepth 100000
set_option maxHeartbeats 40000000
open Go.Dw renaming ON -> bD,Qa -> cK,YU -> sE,PL -> cD,QZ -> xC,Pn -> xL,Qb -> lP,PI -> sC,Rr -> bC,rf -> r
noncomputable def Amb:Dw.Spec:=NO [] .ground Aei Aeh (λa=>WM a.1 a.2) NJ noE
theorem AkU:NK Tryz.prog 180 Amb:=by
 refine fn2 2 (nK 181 AnF<|nK 243 AjZ<|nK 230 AaX<|NG) Tryz.func180<|?_;rintro⟨b,c⟩;unfold WM;refine Ab 10 λa d=>?_
 refine Ac 18 ?_ ?_
 ·exact B
 ·refine Ac 10 ?_ ?_
  ·exact B
  ·refine A 14 ?_;refine lP (E:=λ(s:Int) (g:Nat)=>[(5,.optr 5 g 0 0),(28,.sl (a.1.Frame.Code.map NY)),(29,Av (a.1.Frame.Code.length:Int)),(30,Av s)]) (O:=λ_ g=>[(5,dV g 5 200 (Qo a.1))]) _ hX<|?_
   rintro e f nn;dsimp only[WN];exact B

noncomputable def AkV:Dw.Spec:=NO [] .ground Xz Xy (λa=>Aaj a) NJ noE
theorem ApT:NK Tryz.prog 115 AkV:=by
 refine fn2 1 (nK 150 Zl<|nK 180 AkU<|nK 181 AnF<|nK 182 AjY<|NG) Tryz.func115<|?_;intro a;unfold Aaj;refine A 6 ?_;refine sC (E:=λ(_s:Unit) (g:Nat)=>[(1,.optr 1 g 0 0)]) (O:=λ_ g=>[(1,dV g 2 58 (.agg [Av a.Align,.sl (a.Frames.map OQ)]))]) (j:=λ_=>Abu a) ?_ ?_
 ·refine Ac 16 ?_ ?_
  ·exact B
  ·refine Ac 7 ?_ ?_
   ·exact B
   ·refine sC (E:=λ(s:Bool) (g:Nat)=>[(1,.optr 1 g 0 0),(18,.bool s)]) (O:=λ_ g=>[(1,dV g 2 58 (.agg [Av a.Align,.sl (a.Frames.map OQ)]))]) (j:=λs=>YC a s) ?_ ?_
    ·exact B
    ·rintro b c nn;dsimp only[YC];exact B
 ·rintro⟨⟩ d nn;dsimp only[Abu];refine A 10 ?_;refine lP (E:=λ(s:Int) (g:Nat)=>[(1,.optr 1 g 0 0),(37,Av (a.Frames.length:Int)),(38,Av s)]) (O:=λ_ g=>[(1,dV g 2 58 (.agg [Av a.Align,.sl (a.Frames.map OQ)]))]) _ hX<|?_
  rintro e f nn;dsimp only[AjG];refine Ac 6 ?_ ?_
  ·exact B
  ·refine A 15 ?_;refine lP (E:=λ(s:Int) (g:Nat)=>[(1,.optr 1 g 0 0),(50,Av (a.Frames.length:Int)),(51,Av s)]) (O:=λ_ g=>[(1,dV g 2 58 (.agg [Av a.Align,.sl (a.Frames.map OQ)]))]) _ hX<|?_
   rintro h i nn;dsimp only[AeZ];exact B

noncomputable def Aqq:Dw.Spec:=NO [] .ground Pl Pk (λa=>Ael a.1 a.2) XA noE
theorem AoU:NK Tryz.prog 164 Aqq:=by
 refine fn2 2 (nK 165 AiA<|nK 225 AmW<|NG) Tryz.func164<|?_;rintro⟨a,b⟩;unfold Ael;refine Ab 14 λc d=>?_
 refine Ac 4 ?_ ?_
 ·exact B
 ·refine A 9 ?_;refine lP (E:=λ(s:Int) (g:Nat×Nat)=>[(2,.optr 2 g.1 0 0),(3,.optr 3 g.2 0 0),(7,Av s)]) (O:=λ_ g=>[(2,dV g.1 3 36 (NR a)),(3,dV g.2 1 45 (.agg [.sl (b.Out.map (eL NF))]))]) (_,_) hX<|?_
  rintro k4 ⟨e,f⟩ nn;dsimp only[Aiy];exact B

noncomputable def Aqp:Dw.Spec:=NO [] .ground Pl Pk (λa=>Aek a.1 a.2) NJ noE
theorem AoT:NK Tryz.prog 104 Aqp:=by
 refine fn2 2 (nK 164 AoU<|nK 165 AiA<|NG) Tryz.func104<|?_;intro a;unfold Aek;exact B

def AcU (a:Lo×Ob×Bool):List D:=[NR a.1,Td a.2.1,.bool a.2.2]
def AcT (ds:List D):Lo×Ob×Bool:=(RD (ds.getD 0 .top),VU (ds.getD 1 .top),uBo (ds.getD 2 .top))
instance:Od AcU AcT:=⟨λa=>by simp[AcT,AcU,uBo]⟩
def Afe (b:(List (List Int))×Int):D:=.tup [.sl (b.1.map (eL NF)),Av b.2]
noncomputable def Aqw:Dw.Spec:=NO [] .val AcU AcT (λa=>Abo a.1 a.2.1 a.2.2) Afe noE
theorem AiD:NK Tryz.prog 197 Aqw:=by
 refine fn2 3 (nK 104 AoT<|nK 143 Yu<|nK 67 Agl<|NG) Tryz.func197<|?_;rintro⟨c,d,b⟩;unfold Abo;refine Ab 13 λu v=>?_
 refine Ac 10 ?_ ?_
 ·exact B
 ·refine A 7 ?_;refine cK λhq=>AhP (α:=Int) r r r hq r<|?_
  refine A 2 ?_;refine Qq (E:=[(2,.bool b),(3,.optr 3 _ 0 0),(4,.optr 4 _ 0 0),(9,.osl 9 _ 0 ((aA (c.Slots.length:Int).toNat ([]:(List Int))).length))]) (O:=[(3,dV _ 3 36 (NR c)),(4,dV _ 1 45 (.agg [.sl (d.Out.map (eL NF))])),(9,dW _ 1 37 ((aA (c.Slots.length:Int).toNat ([]:(List Int))).map (eL NF)))]) ((AkN (g:=9) r (AmP (l:=aA (c.Slots.length:Int).toNat ([]:(List Int))) NF (λ_ h=>List.eq_of_mem_replicate h)) hX)) λnn=>?_
  refine A 7 ?_;refine lP (E:=λ(s:(List (List Int))×Int) (g:Nat×Nat×Nat)=>[(2,.bool b),(3,.optr 3 g.1 0 0),(4,.optr 4 g.2.1 0 0),(9,.osl 9 g.2.2 0 s.1.length),(10,Av s.2)]) (O:=λs g=>[(3,dV g.1 3 36 (NR c)),(4,dV g.2.1 1 45 (.agg [.sl (d.Out.map (eL NF))])),(9,dW g.2.2 1 37 (s.1.map (eL NF)))]) (_,_,_) hX<|?_
  rintro⟨k,k6⟩ ⟨x,z,aa⟩ nn;dsimp only[AiC];refine Ac 10 ?_ ?_
  ·refine A 2 ?_;refine bC (E:=λ(s:Int×Int×Int×Int×Int×(List (List Int))) (g:Nat×Nat×Nat)=>[(2,.bool b),(3,.optr 3 g.1 0 0),(4,.optr 4 g.2.1 0 0),(9,.osl 9 g.2.2 0 s.2.2.2.2.2.length),(10,Av k6)]) (O:=λs g=>[(3,dV g.1 3 36 (NR c)),(4,dV g.2.1 1 45 (.agg [.sl (d.Out.map (eL NF))])),(9,dW g.2.2 1 37 (s.2.2.2.2.2.map (eL NF)))]) (j:=λs=>TX k6 s.1 s.2.1 s.2.2.1 s.2.2.2.1 s.2.2.2.2.1 s.2.2.2.2.2) ?_ ?_
   ·refine Ab 5 λf ab=>?_
    refine Ab 9 λa ac=>?_
    refine A 8 ?_;refine sC (E:=λ(_s:Unit) (g:Nat×Nat×Nat×Nat)=>[(2,.bool b),(3,.optr 3 g.1 0 0),(4,.optr 4 g.2.1 0 0),(9,.osl 9 g.2.2.1 0 k.length),(10,Av k6),(11,.optr 11 g.2.2.2 0 0),(12,Av a.1),(13,.bool a.2)]) (O:=λ_ g=>[(3,dV g.1 3 36 (NR c)),(4,dV g.2.1 1 45 (.agg [.sl (d.Out.map (eL NF))])),(9,dW g.2.2.1 1 37 (k.map (eL NF))),(11,dV g.2.2.2 5 90 (NY f))]) (j:=λ_=>Ya d k6 a b f k) ?_ ?_
    ·exact B
    ·rintro⟨⟩ ⟨ad,ae,af,ag⟩ nn;dsimp only[Ya];refine A 6 ?_;refine lP (E:=λ(s:(List (List Int))×Int) (g:Nat×Nat×Nat×Nat)=>[(2,.bool b),(3,.optr 3 g.1 0 0),(4,.optr 4 g.2.1 0 0),(9,.osl 9 g.2.2.1 0 s.1.length),(10,Av k6),(11,.optr 11 g.2.2.2 0 0),(12,Av a.1),(13,.bool a.2),(14,Av s.2)]) (O:=λs g=>[(3,dV g.1 3 36 (NR c)),(4,dV g.2.1 1 45 (.agg [.sl (d.Out.map (eL NF))])),(9,dW g.2.2.1 1 37 (s.1.map (eL NF))),(11,dV g.2.2.2 5 90 (NY f))]) (_,_,_,_) hX<|?_
     rintro⟨e,i⟩ ⟨ah,ai,aj,ak⟩ nn;dsimp only[Aar];refine sC (E:=λ(_s:Unit) (g:Nat×Nat×Nat×Nat)=>[(2,.bool b),(3,.optr 3 g.1 0 0),(4,.optr 4 g.2.1 0 0),(9,.osl 9 g.2.2.1 0 e.length),(10,Av k6),(11,.optr 11 g.2.2.2 0 0),(12,Av a.1),(13,.bool a.2),(14,Av i),(62,.bool a.2)]) (O:=λ_ g=>[(3,dV g.1 3 36 (NR c)),(4,dV g.2.1 1 45 (.agg [.sl (d.Out.map (eL NF))])),(9,dW g.2.2.1 1 37 (e.map (eL NF))),(11,dV g.2.2.2 5 90 (NY f))]) (j:=λ_=>Aas d k6 i a e b f) ?_ ?_
     ·exact B
     ·rintro⟨⟩ ⟨ao,ap,aq,ar⟩ nn;dsimp only[Aas];refine Ab 7 λau av=>?_
      refine Ab 3 λm aw=>?_
      refine A 5 ?_;refine sC (E:=λ(s:Bool×Bool×Bool×Bool) (g:Nat×Nat×Nat×Nat)=>[(2,.bool b),(3,.optr 3 g.1 0 0),(4,.optr 4 g.2.1 0 0),(9,.osl 9 g.2.2.1 0 e.length),(10,Av k6),(11,.optr 11 g.2.2.2 0 0),(12,Av a.1),(13,.bool a.2),(14,Av i),(15,Av m),(62,.bool a.2),(78,.bool b),(79,.bool (!b)),(80,.bool s.1),(84,.bool s.2.1),(85,.bool s.2.2.1),(90,.bool s.2.2.2)]) (O:=λ_ g=>[(3,dV g.1 3 36 (NR c)),(4,dV g.2.1 1 45 (.agg [.sl (d.Out.map (eL NF))])),(9,dW g.2.2.1 1 37 (e.map (eL NF))),(11,dV g.2.2.2 5 90 (NY f))]) (j:=λs=>SN a e m i s.1 s.2.1 s.2.2.1 s.2.2.2) ?_ ?_
      ·exact B
      ·rintro⟨ax,ay,az,ba⟩ ⟨bb,bc,bd,bf⟩ nn;dsimp only[SN];refine Ab 8 λbg bh=>?_
       refine Ab 2 λo bi=>?_
       refine Ab 4 λbj bk=>?_
       refine Ab 2 λp bl=>?_
       refine A 2 ?_;refine bD λbm q=>sE (l:=e) (en:=(eL NF)) (q':=o) r r r r r r r (by simp) q r r r (by simp[Qf,cells,eL]) r<|?_
       refine A 1 ?_;refine bD λbn t=>sE (l:=e.set a.1.toNat o) (en:=(eL NF)) (q':=p) r r r r r r r (by simp) t r r r (by simp[Qf,cells,eL]) r<|?_
       exact B
   ·rintro⟨x7,x8,x9,br,bs,bt⟩ ⟨bu,bv,bw⟩ nn;dsimp only[TX];exact B
  ·exact B

end Go.Proofs.YtcaoepecbgggcaaGreatDoor
