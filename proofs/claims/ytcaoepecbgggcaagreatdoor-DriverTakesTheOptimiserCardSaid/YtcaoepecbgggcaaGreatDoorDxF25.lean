/-
 The code does what its typed programs say.
-/
import Derived.Test.YtcaoepecbgggcaaGreatDoorDxF17
import Derived.Test.YtcaoepecbgggcaaGreatDoorDxF24
namespace Go.Proofs.YtcaoepecbgggcaaGreatDoor
open Go Go.Dw Go.Proofs
set_option maxRecDepth 100000
set_option maxHeartbeats 40000000
open Go.Dw renaming ON -> bD,Ts -> bS,PL -> cD,QZ -> xC,Pn -> xL,Qb -> lP,PI -> sC,Rr -> bC,rf -> r
noncomputable def Aqt:Dw.Spec:=NO [] .val Pl Pk (λa=>YR a.1 a.2) Afe noE
theorem AoW:NK Tryz.prog 134 Aqt:=by
 refine fn2 2 (nK 197 AiD<|NG) Tryz.func134<|?_;intro a;unfold YR;exact B

noncomputable def AqB:Dw.Spec:=NO [] .val Rv Ru (λa=>Rq a.1 a.2) WT noE
theorem AiJ:NK Tryz.prog 33 AqB:=by
 refine fn2 2 (nK 76 Apb<|nK 77 AqD<|nK 78 Agq<|nK 79 AmZ<|nK 80 AnW<|nK 81 Agm<|NG) Tryz.func33<|?_;rintro⟨a,c⟩;unfold Rq;refine Ab 13 λq x=>?_
 refine Ac 10 ?_ ?_
 ·refine A 10 ?_;refine Pu (b:=((Lo.mk 0 ([]) ([])),q)) r ?_ r r ?_ (by first|rfl|(simp only[NN];rfl)|(simp only[NQ];rfl)|(simp only[NN,NQ];rfl)|(simp[WT,NR];try rfl)) (by decide)
  all_goals first|(simp;done)|(simp;omega)|rfl|(simp[Pd,OU];done)|(simp[cells];done)
 ·refine Ab 6 λe z=>?_
  refine A 20 ?_;refine lP (E:=λ(s:(List NS)×Int) (g:Nat×Nat×Nat×Nat×Nat)=>[(2,.optr 2 g.1 0 0),(3,.optr 3 g.2.1 0 0),(4,.optr 4 g.2.2.1 0 0),(7,.osl 7 g.2.2.2.1 0 e.length),(8,.optr 8 g.2.2.2.2 0 0),(9,Av s.2)]) (O:=λs g=>[(2,dV g.1 3 36 (NR a)),(3,dV g.2.1 2 48 (.agg [.sl (c.To.map NF),.sl (c.Keep.map D.bool)])),(4,dV g.2.2.1 3 36 (.agg [Av 0,.nils,.nils])),(7,dW g.2.2.2.1 1 3 (e.map NF)),(8,dV g.2.2.2.2 3 36 (.agg [Av a.Params,.sl (s.1.map OH),.nils]))]) (_,_,_,_,_) ((Xr [] trivial ⟨(Om r),(Om r),(Om r),(Om r),(Om r),(Om r),trivial⟩ ⟨(.inl r),(.inl r),(.inl r),(.inl r),(.inr ⟨_,_,_,_,r,r,r,r,Vz r ⟨(OB r),(Vp OH r),(OB r),trivial⟩⟩),trivial⟩))<|?_
  rintro⟨i,k⟩ ⟨aa,ab,ac,ad,ae⟩ nn;dsimp only[AiI];refine Ac 9 ?_ ?_
  ·refine A 2 ?_;refine bC (E:=λ(_s:(List NS)) (g:Nat×Nat×Nat×Nat×Nat×Nat)=>[(2,.optr 2 g.1 0 0),(3,.optr 3 g.2.1 0 0),(4,.optr 4 g.2.2.1 0 0),(7,.osl 7 g.2.2.2.1 0 e.length),(8,.optr 8 g.2.2.2.2.1 0 0),(9,Av k)]) (O:=λs g=>[(2,dV g.1 3 36 (NR a)),(3,dV g.2.1 2 48 (.agg [.sl (c.To.map NF),.sl (c.Keep.map D.bool)])),(4,dV g.2.2.1 3 36 (.agg [Av 0,.nils,.nils])),(7,dW g.2.2.2.1 1 3 (e.map NF)),(8,dV g.2.2.2.2.1 3 36 (.agg [Av a.Params,.osl 13 g.2.2.2.2.2 0 s.length,.nils])),(13,dW g.2.2.2.2.2 2 87 (s.map OH))]) (j:=λs=>Yb k s) ?_ ?_
   ·refine Ab 7 λaf ag=>?_
    refine Ab 1 λl ah=>?_
    refine Ab 13 λai aj=>?_
    refine Ab 1 λm ak=>?_
    refine A 11 ?_;refine lP (E:=λ(s:Int×Int) (g:Nat×Nat×Nat×Nat×Nat×Nat×Nat)=>[(2,.optr 2 g.1 0 0),(3,.optr 3 g.2.1 0 0),(4,.optr 4 g.2.2.1 0 0),(7,.osl 7 g.2.2.2.1 0 e.length),(8,.optr 8 g.2.2.2.2.1 0 0),(9,Av k),(10,.optr 10 g.2.2.2.2.2.1 0 0),(11,.osl 11 g.2.2.2.2.2.2 0 m.length),(12,Av s.2)]) (O:=λs g=>[(2,dV g.1 3 36 (NR a)),(3,dV g.2.1 2 48 (.agg [.sl (c.To.map NF),.sl (c.Keep.map D.bool)])),(4,dV g.2.2.1 3 36 (.agg [Av 0,.nils,.nils])),(7,dW g.2.2.2.1 1 3 (e.map NF)),(8,dV g.2.2.2.2.1 3 36 (.agg [Av a.Params,.sl (i.map OH),.nils])),(10,dV g.2.2.2.2.2.1 2 87 (.agg [Av l.Size,Av s.1])),(11,dW g.2.2.2.2.2.2 1 3 (m.map NF))]) (_,_,_,_,_,_,_) hX<|?_
    rintro⟨t,ao⟩ ⟨ap,aq,ar,au,av,aw,ax⟩ nn;dsimp only[Aau];refine Ac 9 ?_ ?_
    ·exact B
    ·refine A 11 ?_;refine bS ([(NS.mk l.Size t)]:List NS) OH r r r (by simp) r r r<|?_
     exact B
   ·rintro ay ⟨az,ba,bb,bc,bd,bf⟩ nn;dsimp only[Yb];refine A 5 ?_;exact wf [13] λ_=>B
  ·refine Ab 9 λf bg=>?_
   refine Ab 2 λh bh=>?_
   refine A 12 ?_;refine lP (E:=λ(s:(List Mk)×Int) (g:Nat×Nat×Nat×Nat×Nat×Nat)=>[(2,.optr 2 g.1 0 0),(3,.optr 3 g.2.1 0 0),(4,.optr 4 g.2.2.1 0 0),(8,.optr 8 g.2.2.2.1 0 0),(14,.osl 14 g.2.2.2.2.1 0 f.length),(15,.osl 15 g.2.2.2.2.2 0 h.length),(16,Av s.2)]) (O:=λs g=>[(2,dV g.1 3 36 (NR a)),(3,dV g.2.1 2 48 (.agg [.sl (c.To.map NF),.sl (c.Keep.map D.bool)])),(4,dV g.2.2.1 3 36 (.agg [Av 0,.nils,.nils])),(8,dV g.2.2.2.1 3 36 (.agg [Av a.Params,.sl (i.map OH),.sl (s.1.map NY)])),(14,dW g.2.2.2.2.1 1 3 (f.map NF)),(15,dW g.2.2.2.2.2 1 3 (h.map NF))]) (_,_,_,_,_,_) ((Xr [] trivial ⟨(Om r),(Om r),(Om r),(Om r),(Om r),(Om r),(Om r),trivial⟩ ⟨(.inl r),(.inl r),(.inl r),(.inr ⟨_,_,_,_,r,r,r,r,Vz r ⟨(OB r),(OB r),(Vp NY r),trivial⟩⟩),(.inl r),(.inl r),trivial⟩))<|?_
   rintro⟨o,p⟩ ⟨bi,bj,bk,bl,bm,bn⟩ nn;dsimp only[AdY];refine Ac 10 ?_ ?_
   ·refine Ab 10 λbo bp=>?_
    refine Ac 5 ?_ ?_
    ·exact B
    ·refine Ab 7 λbq br=>?_
     refine Ab 3 λd bs=>?_
     refine A 5 ?_;refine sC (E:=λ(_s:Int×Int) (g:Nat×Nat×Nat×Nat×Nat×Nat×Nat)=>[(2,.optr 2 g.1 0 0),(3,.optr 3 g.2.1 0 0),(4,.optr 4 g.2.2.1 0 0),(8,.optr 8 g.2.2.2.1 0 0),(14,.osl 14 g.2.2.2.2.1 0 f.length),(15,.osl 15 g.2.2.2.2.2.1 0 h.length),(16,Av p),(17,.optr 17 g.2.2.2.2.2.2 0 0)]) (O:=λs g=>[(2,dV g.1 3 36 (NR a)),(3,dV g.2.1 2 48 (.agg [.sl (c.To.map NF),.sl (c.Keep.map D.bool)])),(4,dV g.2.2.1 3 36 (.agg [Av 0,.nils,.nils])),(8,dV g.2.2.2.1 3 36 (.agg [Av a.Params,.sl (i.map OH),.sl (o.map NY)])),(14,dW g.2.2.2.2.1 1 3 (f.map NF)),(15,dW g.2.2.2.2.2.1 1 3 (h.map NF)),(17,dV g.2.2.2.2.2.2 5 90 (.agg [Av d.Op,Av s.1,Av s.2,Av d.C,Akn d.Imm]))]) (j:=λs=>TZ o d p s.1 s.2) ?_ ?_
     ·exact B
     ·rintro⟨u,v⟩ ⟨bt,bu,bv,bw,bx,bz,ca⟩ nn;dsimp only[TZ];refine A 6 ?_;refine bS ([(Mk.mk d.Op u v d.C d.Imm)]:List Mk) NY r r r (by simp) r r r<|?_
      refine A 16 ?_;exact wf [18] λ_=>B
   ·exact B

noncomputable def AoY:Dw.Spec:=NO [] .val Pl Pk (λa=>ZX a.1 a.2) Afe noE
theorem AnT:NK Tryz.prog 137 AoY:=by
 refine fn2 2 (nK 197 AiD<|NG) Tryz.func137<|?_;intro a;unfold ZX;exact B

end Go.Proofs.YtcaoepecbgggcaaGreatDoor
