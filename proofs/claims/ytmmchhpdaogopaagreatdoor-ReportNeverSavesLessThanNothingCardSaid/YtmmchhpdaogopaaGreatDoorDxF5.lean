/-
 The code does what its typed programs say.
-/
import Derived.Test.YtmmchhpdaogopaaGreatDoorDxF3
open List renaming replicate->aA,eq_of_mem_replicate->aAA
namespace Go.Proofs.YtmmchhpdaogopaaGreatDoor
open Go Go.Dw Go.Proofs
open Go.IntKind (i64)
set_option maxRecDepth 100000
set_option maxHeartbeats 40000000
open Go.Dw renaming Px -> bD,Qd -> cK,UT -> sE,QU -> cD,Qx -> xL,Xh -> hE,Rq -> lP,Qk -> bC,Ajm -> mF,rf -> r
abbrev Wa:=en2 (eL Av) (eL Av)
abbrev Aur:=de2 (uL uI) (uL uI)
theorem YQ:NM Tryz.prog 183 (fS (.row 1 3) Wa (λa=>TJ a.1 a.2) PN):=by
 refine fn2 2 (nK 66 WQ<|NK) Tryz.func183<|?_;rintro⟨c,b⟩;unfold TJ;refine A 19 ?_;refine lP (E:=λ(s:(List Int)×Int) (g:Nat)=>[oM 1 b Av,oT 5 g s.1,oI 6 s.2]) (O:=λs g=>[(5,dW g 1 3 (s.1.map Av))]) _ hX<|?_
 rintro⟨d,e⟩ f nn;dsimp only[WS];exact B

abbrev AiS:=en2 Oj (eL Av)
abbrev Awm:=de2 Sl (uL uI)
theorem Aka:NM Tryz.prog 232 (fS (.row 1 3) AiS (λa=>AbI a.1 a.2) PN):=by
 refine fn2 2 (nK 185 Tt<|nK 134 AeX<|nK 184 Ahz<|nK 183 YQ<|NK) Tryz.func232<|?_;intro a;unfold AbI;exact B

abbrev Sx:=en2 NU Un
abbrev Avm:=de2 RP Yj
def Aei (b:Ox):D:=Un b
theorem AnK:NM Tryz.prog 189 (fS .val Sx (λa=>AaW a.1 a.2) Aei):=by
 refine fn2 2 (nK 231 Ahy<|nK 232 Aka<|nK 183 YQ<|NK) Tryz.func189<|?_;rintro⟨c,d⟩;unfold AaW;refine A 12 ?_;refine cK λhq=>Acq (α:=Int) r r r hq r<|?_
 refine A 4 ?_;refine RE (E:=[oP 2 _,oP 3 _,oP 4 _,oP 5 _]) (O:=[(2,dV _ 3 57 (NU c)),(3,dV _ 1 60 (.agg [.sl (d.Out.map (eL Av))])),(4,dV _ 1 60 (.agg [.nils])),(5,dV _ 1 60 (.agg [.osl 13 _ 0 ((aA (c.Code.length:Int).toNat ([]:(List Int))).length)])),(13,dW _ 1 38 ((aA (c.Code.length:Int).toNat ([]:(List Int))).map (eL Av)))]) ((AeQ (g:=13) r (Ahi (l:=aA (c.Code.length:Int).toNat ([]:(List Int))) Av (λ_ h=>aAA h)) hX)) λnn=>?_
 refine A 7 ?_;refine lP (E:=λ(s:(List (List Int))×Int) (g:Nat×Nat×Nat×Nat×Nat)=>[oP 2 g.1,oP 3 g.2.1,oP 4 g.2.2.1,oP 5 g.2.2.2.1,oI 6 s.2]) (O:=λs g=>[(2,dV g.1 3 57 (NU c)),(3,dV g.2.1 1 60 (.agg [.sl (d.Out.map (eL Av))])),(4,dV g.2.2.1 1 60 (.agg [.nils])),(5,dV g.2.2.2.1 1 60 (.agg [.osl 13 g.2.2.2.2 0 s.1.length])),(13,dW g.2.2.2.2 1 38 (s.1.map (eL Av)))]) (_,_,_,_,_) hX<|?_
 rintro⟨k,k4⟩ ⟨p,q,t,u,v⟩ nn;dsimp only[XF];refine Ac 10 ?_ ?_
 ·refine A 2 ?_;refine bC (E:=λ(_s:(List (List Int))) (g:Nat×Nat×Nat×Nat×Nat)=>[oP 2 g.1,oP 3 g.2.1,oP 4 g.2.2.1,oP 5 g.2.2.2.1,oI 6 k4]) (O:=λs g=>[(2,dV g.1 3 57 (NU c)),(3,dV g.2.1 1 60 (.agg [.sl (d.Out.map (eL Av))])),(4,dV g.2.2.1 1 60 (.agg [.nils])),(5,dV g.2.2.2.1 1 60 (.agg [.osl 13 g.2.2.2.2 0 s.length])),(13,dW g.2.2.2.2 1 38 (s.map (eL Av)))]) (j:=λs=>ZU k4 s) ?_ ?_
  ·refine Ab 4 λf x=>?_
   refine A 10 ?_;refine lP (E:=λ(s:(List (List Int))×Int) (g:Nat×Nat×Nat×Nat×Nat×Nat)=>[oP 2 g.1,oP 3 g.2.1,oP 4 g.2.2.1,oP 5 g.2.2.2.1,oI 6 k4,oT 7 g.2.2.2.2.1 f,oI 8 s.2]) (O:=λs g=>[(2,dV g.1 3 57 (NU c)),(3,dV g.2.1 1 60 (.agg [.sl (d.Out.map (eL Av))])),(4,dV g.2.2.1 1 60 (.agg [.nils])),(5,dV g.2.2.2.1 1 60 (.agg [.osl 13 g.2.2.2.2.2 0 s.1.length])),(7,dW g.2.2.2.2.1 1 3 (f.map Av)),(13,dW g.2.2.2.2.2 1 38 (s.1.map (eL Av)))]) (_,_,_,_,_,_) hX<|?_
   rintro⟨e,m⟩ ⟨z,aa,ab,ac,ad,ae⟩ nn;dsimp only[XG];refine Ac 9 ?_ ?_
   ·refine Ab 9 λaf ag=>?_
    refine Ab 12 λah ai=>?_
    refine Ab 4 λaj ak=>?_
    refine Ab 5 λao ap=>?_
    refine Ab 2 λaq ar=>?_
    refine Ab 1 λi au=>?_
    refine A 2 ?_;refine bD λav o=>sE (l:=e) (en:=(eL Av)) (q':=i) r r r r r r r (by simp) o r r r (by simp[PV,cells,eL]) r<|?_
    refine A 8 ?_;exact xL (s:=(e.set k4.toNat i,i64.wrap (m+1))) (_,_,_,_,_,_) ((hE ⟨rfl,r,r,r,r,r,r,trivial⟩ ⟨rfl,r,r,(Eq.trans (b:=dV _ 1 60 (.agg [.osl 13 _ 0 e.length])) r (by simp)),r,r,trivial⟩))
   ·exact B
  ·rintro x5 ⟨ax,ay,az,ba,bb⟩ nn;dsimp only[ZU];exact B
 ·refine A 12 ?_;refine Tz (b:=(Ox.mk k)) r ?_ r r ?_ (by first|rfl|(simp only[NN];rfl)|(simp only[NP];rfl)|(simp only[NN,NP];rfl)|(simp[Aei,Un];try rfl))
  all_goals first|(simp;done)|(simp;omega)|rfl|(simp[Pc,OT];done)|(simp[cells];done)

theorem AnI:NM Tryz.prog 44 (fS .ground Wa (λa=>AaS a.1 a.2) Od):=by
 refine fn2 2 (NK) Tryz.func44<|?_;rintro⟨b,c⟩;unfold AaS;refine Ac 15 ?_ ?_
 ·exact B
 ·refine A 9 ?_;refine lP (E:=λ(s:Int) (_g:Unit)=>[oM 0 b Av,oM 1 c Av,oI 5 s]) (O:=λ_ _=>[]) () hX<|?_
  rintro d ⟨⟩ nn;dsimp only[VF];exact B

abbrev AjG:=en2 (eL (eL Av)) (eL (eL Av))
abbrev AsN:=de2 (uL (uL uI)) (uL (uL uI))
theorem Akx:NM Tryz.prog 233 (fS .ground AjG (λa=>XE a.1 a.2) Od):=by
 refine fn2 2 (nK 44 AnI<|NK) Tryz.func233<|?_;rintro⟨b,c⟩;unfold XE;refine Ac 15 ?_ ?_
 ·exact B
 ·refine A 9 ?_;refine lP (E:=λ(s:Int) (_g:Unit)=>[(0,.sl (b.map (eL Av))),(1,.sl (c.map (eL Av))),oI 5 s]) (O:=λ_ _=>[]) () hX<|?_
  rintro d ⟨⟩ nn;dsimp only[Tq];exact B

abbrev Amt:=en2 Un Un
abbrev Avl:=de2 Yj Yj
theorem AnJ:NM Tryz.prog 190 (fS .ground Amt (λa=>AaV a.1 a.2) Od):=by
 refine fn2 2 (nK 233 Akx<|NK) Tryz.func190<|?_;intro a;unfold AaV;exact B

abbrev AeZ:=en1 NU
abbrev Aus:=de1 RP
theorem Agj:NM Tryz.prog 126 (fS .val AeZ (λa=>XR a) Aei):=by
 refine fn2 1 (nK 189 AnK<|nK 190 AnJ<|NK) Tryz.func126<|?_;intro b;unfold XR;refine A 11 ?_;refine cK λhq=>Acq (α:=Int) r r r hq r<|?_
 refine A 4 ?_;refine RE (E:=[oP 1 _,oP 2 _,oP 3 _]) (O:=[(1,dV _ 3 57 (NU b)),(2,dV _ 1 60 (.agg [.nils])),(3,dV _ 1 60 (.agg [.osl 8 _ 0 ((aA (b.Code.length:Int).toNat ([]:(List Int))).length)])),(8,dW _ 1 38 ((aA (b.Code.length:Int).toNat ([]:(List Int))).map (eL Av)))]) ((AeQ (g:=8) r (Ahi (l:=aA (b.Code.length:Int).toNat ([]:(List Int))) Av (λ_ h=>aAA h)) hX)) λnn=>?_
 refine A 1 ?_;refine lP (E:=λ(_s:(List (List Int))) (g:Nat×Nat×Nat)=>[oP 1 g.1,oP 2 g.2.1,oP 3 g.2.2]) (O:=λs g=>[(1,dV g.1 3 57 (NU b)),(2,dV g.2.1 1 60 (.agg [.nils])),(3,dV g.2.2 1 60 (.agg [.sl (s.map (eL Av))]))]) (_,_,_) ((Vm [(8,some (_,⟨true,false,1,38,(aA (b.Code.length:Int).toNat ([]:(List Int))).map (eL Av)⟩))] ⟨⟨_,_,r,r,r⟩,trivial⟩ ⟨(OA r),(OA r),(OA r),trivial⟩ ⟨(.inl r),(.inl r),(.inr ⟨_,_,_,_,r,r,r,r,Uw r ⟨(VM (l:=aA (b.Code.length:Int).toNat ([]:(List Int))) (en:=(eL Av)) r r r (by first|(simp;done)|rfl|(simp;rfl))),trivial⟩⟩),trivial⟩))<|?_
 rintro c ⟨d,e,f⟩ nn;dsimp only[AbJ];exact B

theorem Agm:NM Tryz.prog 179 (fS .ground Sx (λa=>ZJ a.1 a.2) Od):=by
 refine fn2 2 (nK 228 AbG<|NK) Tryz.func179<|?_;rintro⟨b,c⟩;unfold ZJ;refine Ac 19 ?_ ?_
 ·exact B
 ·refine A 9 ?_;refine lP (E:=λ(s:Int) (g:Nat×Nat)=>[oP 2 g.1,oP 3 g.2,oI 5 s]) (O:=λ_ g=>[(2,dV g.1 3 57 (NU b)),(3,dV g.2 1 60 (.agg [.sl (c.Out.map (eL Av))]))]) (_,_) hX<|?_
  rintro k3 ⟨d,e⟩ nn;dsimp only[Agl];refine Ac 10 ?_ ?_
  ·refine Ab 10 λf h=>?_
   refine Ab 2 λi j=>?_
   refine Ac 4 ?_ ?_
   ·exact B
   ·refine Ab 7 λk l=>?_
    refine A 11 ?_;refine Qy r ?_ ?_
    ·refine Ab 3 λm o=>?_
     refine Ab 4 λp q=>?_
     refine Ac 9 ?_ ?_
     ·exact B
     ·refine A 8 ?_;exact xL (s:=i64.wrap (k3+1)) (_,_) hX
    ·refine A 25 ?_;exact xL (s:=i64.wrap (k3+1)) (_,_) hX
  ·exact B

theorem Agi:NM Tryz.prog 110 (fS (.row 1 3) Wa (λa=>XQ a.1 a.2) PN):=by
 refine fn2 2 (nK 64 Vq<|NK) Tryz.func110<|?_;rintro⟨d,e⟩;unfold XQ;refine A 17 ?_;refine lP (E:=λ(s:(List Int)×Int) (g:Nat)=>[oM 0 d Av,oM 1 e Av,oT 5 g s.1,oI 6 s.2]) (O:=λs g=>[(5,dW g 1 3 (s.1.map Av))]) _ hX<|?_
 rintro⟨b,c⟩ h nn;dsimp only[Vb];refine Ac 9 ?_ ?_
 ·refine Ab 9 λi j=>?_
  refine Ab 2 λk l=>?_
  refine Ac 4 ?_ ?_
  ·refine Ab 4 λf m=>?_
   refine A 13 ?_;exact xL (s:=(b++([f]:List Int),i64.wrap (c+1))) _ hX
  ·refine A 8 ?_;exact xL (s:=(b,i64.wrap (c+1))) _ hX
 ·exact B

abbrev Ads:=en3 NU Un Av
abbrev AsP:=de3 RP Yj uI
theorem AkA:NM Tryz.prog 229 (fS (.row 1 3) Ads (λa=>XH a.1 a.2.1 a.2.2) PN):=by
 refine fn2 3 (nK 231 Ahy<|nK 232 Aka<|nK 110 Agi<|nK 183 YQ<|NK) Tryz.func229<|?_;rintro⟨c,d,k3⟩;unfold XH;refine Ab 16 λb e=>?_
 refine A 11 ?_;refine lP (E:=λ(s:(List Int)×Int) (g:Nat×Nat×Nat×Nat)=>[oI 2 k3,oP 3 g.1,oP 4 g.2.1,oT 7 g.2.2.1 s.1,oT 8 g.2.2.2 b,oI 9 s.2]) (O:=λs g=>[(3,dV g.1 3 57 (NU c)),(4,dV g.2.1 1 60 (.agg [.sl (d.Out.map (eL Av))])),(7,dW g.2.2.1 1 3 (s.1.map Av)),(8,dW g.2.2.2 1 3 (b.map Av))]) (_,_,_,_) hX<|?_
 rintro⟨f,h⟩ ⟨i,j,k,l⟩ nn;dsimp only[Vr];exact B

def Ade (b:Int×Int×Bool):D:=.tup [Mk b.1,Mk b.2.1,.bool b.2.2]
theorem Amu:NM Tryz.prog 178 (fS .ground Sx (λa=>Acg a.1 a.2) Ade):=by
 refine fn2 2 (nK 179 Agm<|nK 229 AkA<|NK) Tryz.func178<|?_;rintro⟨b,c⟩;unfold Acg;refine Ab 14 λd e=>?_
 refine Ac 4 ?_ ?_
 ·exact B
 ·refine A 9 ?_;refine lP (E:=λ(s:Int) (g:Nat×Nat)=>[oP 2 g.1,oP 3 g.2,oI 7 s]) (O:=λ_ g=>[(2,dV g.1 3 57 (NU b)),(3,dV g.2 1 60 (.agg [.sl (c.Out.map (eL Av))]))]) (_,_) hX<|?_
  rintro k4 ⟨f,h⟩ nn;dsimp only[Agk];exact B

theorem AnN:NM Tryz.prog 194 (fS .ground Ads (λa=>AaY a.1 a.2.1 a.2.2) Od):=by
 refine fn2 3 (nK 185 Tt<|nK 64 Vq<|NK) Tryz.func194<|?_;intro a;unfold AaY;exact B

abbrev AmA:=en3 NU Un (eL Av)
abbrev Avn:=de3 RP Yj (uL uI)
def AoQ (b:(List Bool)):D:=.sl (b.map D.bool)
theorem AnM:NM Tryz.prog 129 (fS (.row 1 4) AmA (λa=>AaX a.1 a.2.1 a.2.2) AoQ):=by
 refine fn2 3 (nK 194 AnN<|NK) Tryz.func129<|?_;rintro⟨b,c,d⟩;unfold AaX;refine A 19 ?_;refine lP (E:=λ(s:(List Bool)×Int) (g:Nat×Nat×Nat)=>[oM 2 d Av,oP 3 g.1,oP 4 g.2.1,oT 7 g.2.2 s.1,oI 8 s.2]) (O:=λs g=>[(3,dV g.1 3 57 (NU b)),(4,dV g.2.1 1 60 (.agg [.sl (c.Out.map (eL Av))])),(7,dW g.2.2 1 4 (s.1.map D.bool))]) (_,_,_) hX<|?_
 rintro⟨e,k5⟩ ⟨f,h,i⟩ nn;dsimp only[AhA];exact B

theorem Alw:NM Tryz.prog 65 (fS .ground Wa (λa=>YB a.1 a.2) Od):=by
 refine fn2 2 (nK 110 Agi<|NK) Tryz.func65<|?_;intro a;unfold YB;exact B

theorem AhR:NM Tryz.prog 207 (fS .ground Sx (λa=>Xp a.1 a.2) Od):=by
 refine fn2 2 (NK) Tryz.func207<|?_;rintro⟨b,c⟩;unfold Xp;refine A 6 ?_;refine RE (E:=[(2,.fptr (NU b) 0),oP 3 _]) (O:=[(3,dV _ 1 60 (.agg [.sl (c.Out.map (eL Av))]))]) ((hV 2 r (hY))) λnn=>?_
 refine A 2 ?_;refine mF (caps:=[.fptr (NU b) 0]) r r (by simp[Vh])<|?_
 refine A 13 ?_;refine Qy r ?_ ?_
 ·refine A 3 ?_;exact AbZ
 ·exact B

end Go.Proofs.YtmmchhpdaogopaaGreatDoor
