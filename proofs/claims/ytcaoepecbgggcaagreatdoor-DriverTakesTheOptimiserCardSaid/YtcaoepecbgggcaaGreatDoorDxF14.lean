/-
 The code does what its typed programs say.
-/
import Derived.Test.YtcaoepecbgggcaaGreatDoorDxF11
import Derived.Test.YtcaoepecbgggcaaGreatDoorDxF12
open List renaming replicate->aA
namespace Go.Proofs.YtcaoepecbgggcaaGreatDoor
open Go Go.Dw Go.Proofs
open Go.IntKind (i64)
set_option maxRecDepth 100000
set_option maxHeartbeats 40000000
open Go.Dw renaming ON -> bD,Qa -> cK,AgD -> cV,YU -> sE,PL -> cD,Pn -> xL,AeG -> hE,Qb -> lP,Rr -> bC,Acl -> mF,rf -> r
def XA (b:Int×Int×Bool):D:=.tup [Av b.1,Av b.2.1,.bool b.2.2]
noncomputable def AlZ:Dw.Spec:=NO [] .ground Pl Pk (λa=>Zn a.1 a.2) XA noE
theorem AkS:NK Tryz.prog 154 AlZ:=by
 refine fn2 2 (nK 153 Adq<|nK 214 Ama<|nK 3624939733 ZM<|NG) Tryz.func154<|?_;rintro⟨a,b⟩;unfold Zn;refine A 8 ?_;refine Qq (E:=[(2,.optr 2 _ 0 0),(3,.fptr (.agg [.sl (b.Out.map (eL NF))]) 0)]) (O:=[(2,dV _ 3 36 (NR a))]) ((hV 3 r (hY))) λnn=>?_
 refine Ab 5 λf h=>?_
 refine Ac 4 ?_ ?_
 ·exact B
 ·refine A 12 ?_;refine lP (E:=λ(s:Int) (g:Nat)=>[(2,.optr 2 g 0 0),(3,.fptr (.agg [.sl (b.Out.map (eL NF))]) 0),(15,Av (a.Code.length:Int)),(16,Av s)]) (O:=λ_ g=>[(2,dV g 3 36 (NR a))]) _ hX<|?_
  rintro c i nn;dsimp only[AeK];refine Ac 6 ?_ ?_
  ·refine A 10 ?_;refine Qq (E:=[(2,.optr 2 _ 0 0),(3,.fptr (.agg [.sl (b.Out.map (eL NF))]) 0),(7,.fptr (Av c) 0),(15,Av (a.Code.length:Int)),(16,Av c)]) (O:=[(2,dV _ 3 36 (NR a))]) ((hV 7 r (hY))) λnn=>?_
   refine Ab 10 λd j=>?_
   refine A 1 ?_;refine mF (caps:=[.optr 8 _ 0 0,.fptr (.agg [.sl (b.Out.map (eL NF))]) 0,.fptr (Av c) 0]) r r (by simp[SO])<|bD λk e=>cV (a,c,d,[],b,c) rfl rfl (show _=some UE from by kernel_rfl) Od.ok rfl rfl (by simp) (by first|rfl|(simp only[NN];rfl)|(simp only[NQ];rfl)|(simp only[NN,NQ];rfl)|simp[Qr,NR,Td,Td]) e<|?_
   exact B
  ·exact B

def Agn (b:Ob):D:=Td b
noncomputable def ArR:Dw.Spec:=NO [] .val Pl Pk (λa=>AcQ a.1 a.2) Agn noE
theorem Aqo:NK Tryz.prog 195 ArR:=by
 refine fn2 2 (nK 248 AjI<|nK 249 Amo<|nK 124 Aao<|NG) Tryz.func195<|?_;rintro⟨a,c⟩;unfold AcQ;refine A 12 ?_;refine cK λhq=>AhP (α:=Int) r r r hq r<|?_
 refine A 4 ?_;refine Qq (E:=[(2,.optr 2 _ 0 0),(3,.optr 3 _ 0 0),(4,.optr 4 _ 0 0),(5,.optr 5 _ 0 0)]) (O:=[(2,dV _ 3 36 (NR a)),(3,dV _ 1 45 (.agg [.sl (c.Out.map (eL NF))])),(4,dV _ 1 45 (.agg [.nils])),(5,dV _ 1 45 (.agg [.osl 13 _ 0 ((aA (a.Code.length:Int).toNat ([]:(List Int))).length)])),(13,dW _ 1 37 ((aA (a.Code.length:Int).toNat ([]:(List Int))).map (eL NF)))]) ((AkN (g:=13) r (AmP (l:=aA (a.Code.length:Int).toNat ([]:(List Int))) NF (λ_ h=>List.eq_of_mem_replicate h)) hX)) λnn=>?_
 refine A 7 ?_;refine lP (E:=λ(s:(List (List Int))×Int) (g:Nat×Nat×Nat×Nat×Nat)=>[(2,.optr 2 g.1 0 0),(3,.optr 3 g.2.1 0 0),(4,.optr 4 g.2.2.1 0 0),(5,.optr 5 g.2.2.2.1 0 0),(6,Av s.2)]) (O:=λs g=>[(2,dV g.1 3 36 (NR a)),(3,dV g.2.1 1 45 (.agg [.sl (c.Out.map (eL NF))])),(4,dV g.2.2.1 1 45 (.agg [.nils])),(5,dV g.2.2.2.1 1 45 (.agg [.osl 13 g.2.2.2.2 0 s.1.length])),(13,dW g.2.2.2.2 1 37 (s.1.map (eL NF)))]) (_,_,_,_,_) hX<|?_
 rintro⟨i,k4⟩ ⟨o,p,q,t,u⟩ nn;dsimp only[YG];refine Ac 10 ?_ ?_
 ·refine A 2 ?_;refine bC (E:=λ(_s:(List (List Int))) (g:Nat×Nat×Nat×Nat×Nat)=>[(2,.optr 2 g.1 0 0),(3,.optr 3 g.2.1 0 0),(4,.optr 4 g.2.2.1 0 0),(5,.optr 5 g.2.2.2.1 0 0),(6,Av k4)]) (O:=λs g=>[(2,dV g.1 3 36 (NR a)),(3,dV g.2.1 1 45 (.agg [.sl (c.Out.map (eL NF))])),(4,dV g.2.2.1 1 45 (.agg [.nils])),(5,dV g.2.2.2.1 1 45 (.agg [.osl 13 g.2.2.2.2 0 s.length])),(13,dW g.2.2.2.2 1 37 (s.map (eL NF)))]) (j:=λs=>Abw k4 s) ?_ ?_
  ·refine Ab 4 λe v=>?_
   refine A 10 ?_;refine lP (E:=λ(s:(List (List Int))×Int) (g:Nat×Nat×Nat×Nat×Nat×Nat)=>[(2,.optr 2 g.1 0 0),(3,.optr 3 g.2.1 0 0),(4,.optr 4 g.2.2.1 0 0),(5,.optr 5 g.2.2.2.1 0 0),(6,Av k4),(7,.osl 7 g.2.2.2.2.1 0 e.length),(8,Av s.2)]) (O:=λs g=>[(2,dV g.1 3 36 (NR a)),(3,dV g.2.1 1 45 (.agg [.sl (c.Out.map (eL NF))])),(4,dV g.2.2.1 1 45 (.agg [.nils])),(5,dV g.2.2.2.1 1 45 (.agg [.osl 13 g.2.2.2.2.2 0 s.1.length])),(7,dW g.2.2.2.2.1 1 3 (e.map NF)),(13,dW g.2.2.2.2.2 1 37 (s.1.map (eL NF)))]) (_,_,_,_,_,_) hX<|?_
   rintro⟨d,k⟩ ⟨x,z,aa,ab,ac,ad⟩ nn;dsimp only[YH];refine Ac 9 ?_ ?_
   ·refine Ab 9 λae af=>?_
    refine Ab 12 λag ah=>?_
    refine Ab 4 λai aj=>?_
    refine Ab 5 λak ao=>?_
    refine Ab 2 λap aq=>?_
    refine Ab 1 λf ar=>?_
    refine A 2 ?_;refine bD λau m=>sE (l:=d) (en:=(eL NF)) (q':=f) r r r r r r r (by simp) m r r r (by simp[Qf,cells,eL]) r<|?_
    refine A 8 ?_;exact xL (s:=(d.set k4.toNat f,i64.wrap (k+1))) (_,_,_,_,_,_) ((hE ⟨rfl,r,r,r,r,r,r,trivial⟩ ⟨rfl,r,r,(Eq.trans (b:=dV _ 1 45 (.agg [.osl 13 _ 0 d.length])) r (by simp)),r,r,trivial⟩))
   ·exact B
  ·rintro x5 ⟨aw,ax,ay,az,ba⟩ nn;dsimp only[Abw];exact B
 ·refine A 12 ?_;refine Aaz (b:=(Ob.mk i)) r ?_ r r ?_ (by first|rfl|(simp only[NN];rfl)|(simp only[NQ];rfl)|(simp only[NN,NQ];rfl)|(simp[Agn,Td];try rfl))
  all_goals first|(simp;done)|(simp;omega)|rfl|(simp[Pd,OU];done)|(simp[cells];done)

def XE (a:Lo×Ob×Int):List D:=[NR a.1,Td a.2.1,Av a.2.2]
def XD (ds:List D):Lo×Ob×Int:=(RD (ds.getD 0 .top),VU (ds.getD 1 .top),uI (ds.getD 2 .top))
instance:Od XE XD:=⟨λa=>by simp[XD,XE,uI]⟩
noncomputable def AnS:Dw.Spec:=NO [] (.row 1 3) XE XD (λa=>YI a.1 a.2.1 a.2.2) OC noE
theorem AmW:NK Tryz.prog 225 AnS:=by
 refine fn2 3 (nK 248 AjI<|nK 249 Amo<|nK 183 AoQ<|nK 124 Aao<|NG) Tryz.func225<|?_;rintro⟨b,c,k3⟩;unfold YI;refine Ab 16 λa d=>?_
 refine A 11 ?_;refine lP (E:=λ(s:(List Int)×Int) (g:Nat×Nat×Nat×Nat)=>[(2,Av k3),(3,.optr 3 g.1 0 0),(4,.optr 4 g.2.1 0 0),(7,.osl 7 g.2.2.1 0 s.1.length),(8,.osl 8 g.2.2.2 0 a.length),(9,Av s.2)]) (O:=λs g=>[(3,dV g.1 3 36 (NR b)),(4,dV g.2.1 1 45 (.agg [.sl (c.Out.map (eL NF))])),(7,dW g.2.2.1 1 3 (s.1.map NF)),(8,dW g.2.2.2 1 3 (a.map NF))]) (_,_,_,_) hX<|?_
 rintro⟨e,f⟩ ⟨h,i,j,k⟩ nn;dsimp only[VK];exact B

noncomputable def ArU:Dw.Spec:=NO [] .ground XE XD (λa=>AcY a.1 a.2.1 a.2.2) NX noE
theorem AqA:NK Tryz.prog 200 ArU:=by
 refine fn2 3 (nK 143 Yu<|nK 116 ZV<|NG) Tryz.func200<|?_;intro a;unfold AcY;exact B

def AdX (a:Lo×Ob×(List Int)):List D:=[NR a.1,Td a.2.1,.sl (a.2.2.map NF)]
def AdW (ds:List D):Lo×Ob×(List Int):=(RD (ds.getD 0 .top),VU (ds.getD 1 .top),(uL uI) (ds.getD 2 .top))
instance:Od AdX AdW:=⟨λa=>by simp[AdW,AdX,OE (u:=uI) (en:=NF) (λ_=>rfl)]⟩
def ArS (b:(List Bool)):D:=.sl (b.map D.bool)
noncomputable def ArT:Dw.Spec:=NO [] (.row 1 4) AdX AdW (λa=>AcX a.1 a.2.1 a.2.2) ArS noE
theorem Aqz:NK Tryz.prog 136 ArT:=by
 refine fn2 3 (nK 200 AqA<|NG) Tryz.func136<|?_;rintro⟨a,b,c⟩;unfold AcX;refine A 19 ?_;refine lP (E:=λ(s:(List Bool)×Int) (g:Nat×Nat×Nat)=>[(2,.sl (c.map NF)),(3,.optr 3 g.1 0 0),(4,.optr 4 g.2.1 0 0),(7,.osl 7 g.2.2 0 s.1.length),(8,Av s.2)]) (O:=λs g=>[(3,dV g.1 3 36 (NR a)),(4,dV g.2.1 1 45 (.agg [.sl (b.Out.map (eL NF))])),(7,dW g.2.2 1 4 (s.1.map D.bool))]) (_,_,_) hX<|?_
 rintro⟨d,k5⟩ ⟨e,f,h⟩ nn;dsimp only[AjK];exact B

end Go.Proofs.YtcaoepecbgggcaaGreatDoor
