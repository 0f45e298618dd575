/-
 The code does what its typed programs say.
-/
import Derived.Test.YtcaoepecbgggcaaGreatDoorDxF21
namespace Go.Proofs.YtcaoepecbgggcaaGreatDoor
open Go Go.Dw Go.Proofs
open Go.IntKind (i64)
set_option maxRecDepth 100000
set_option maxHeartbeats 40000000
open Go.Dw renaming OO -> bD,Qk -> cK,Abq -> aP,Qs -> cD,Rp -> xC,PY -> xL,Zf -> hE,QS -> lP,PQ -> sC,rf -> r
abbrev AhB:=en4 Oh PJ Av Av
abbrev AhA:=de4 Rq Rr uI uI
def Aco (b:NC×Mk):D:=Pv b.1
def AjA (b:NC×Mk):List D:=[Oh b.2]
theorem AiP:Nr Tryz.prog 147 (NO [(0,(2,114))] .val AhB AhA (λa=>UI a.1 a.2.1 a.2.2.1 a.2.2.2) Aco AjA):=by
 refine fn2 4 (nK 34 AlP<|nK 22 OK<|nK 74 AaZ<|nK 47 Aag<|Np) Tryz.func147<|?_;rintro⟨v,x,z,aa⟩;unfold UI;refine Ab 11 λr5 ac=>?_
 refine A 9 ?_;refine sC (E:=λ(_s:(List Int)×Int×Int×Int×(List Int)) (g:Nat×Nat)=>[(0,.optr 8192 0 0 0),oP 8 g.1,oP 9 g.2]) (O:=λs g=>[(8,dV g.1 3 39 (.agg [Nm 0,Nm 0,.nils])),(9,dV g.2 3 39 (.agg [Nm s.2.2.1,Nm s.2.2.2.1,.sl (s.2.2.2.2.map Av)])),(8192,dV 0 2 114 (.agg [.sl (s.1.map eU8),Nm s.2.1]))]) (j:=λs=>Ra s.1 s.2.1 s.2.2.1 s.2.2.2.1 s.2.2.2.2) ?_ ?_
 ·exact B
 ·rintro⟨c6,c7,y8,y9,p⟩ ⟨ah,ai⟩ nn;dsimp only[Ra];refine A 4 ?_;refine cK λhq=>aP (([]:List Int)) (p) Av r r r r r r r (by simp) r r r (by simp) r (λ_=>r) r hq<|?_
  refine Ab 8 λaj ak=>?_
  refine A 5 ?_;refine lP (E:=λ(s:(List Int)×Int×(List Int)×Int×Int×Int) (g:Nat×Nat×Nat)=>[(0,.optr 8192 0 0 0),oP 8 g.1,oP 9 g.2.1,oI 12 s.2.2.2.2.2]) (O:=λs g=>[(8,dV g.1 3 39 (.agg [Nm 0,Nm 0,.nils])),(9,dV g.2.1 3 39 (.agg [Nm s.2.2.2.1,Nm s.2.2.2.2.1,.osl 39 g.2.2 0 s.2.2.1.length])),(39,dW g.2.2 1 3 (s.2.2.1.map Av)),(8192,dV 0 2 114 (.agg [.sl (s.1.map eU8),Nm s.2.1]))]) (_,_,_) hX<|?_
  rintro⟨q,t,c,d,e,f⟩ ⟨ao,ap,aq⟩ nn;dsimp only[XM];refine Ac 7 ?_ ?_
  ·refine Ab 11 λh ar=>?_
   refine Ab 7 λi au=>?_
   refine A 4 ?_;refine sC (E:=λ(s:Bool) (g:Nat×Nat×Nat)=>[(0,.optr 8192 0 0 0),oP 8 g.1,oP 9 g.2.1,oI 12 f,oI 13 h.1,oI 54 i.1,oB 55 s]) (O:=λ_ g=>[(8,dV g.1 3 39 (.agg [Nm 0,Nm 0,.nils])),(9,dV g.2.1 3 39 (.agg [Nm d,Nm e,.osl 39 g.2.2 0 c.length])),(39,dW g.2.2 1 3 (c.map Av)),(8192,dV 0 2 114 (.agg [.sl (i.2.list.map eU8),Nm i.2.at_]))]) (j:=λs=>RM h c i d e f s) ?_ ?_
   ·exact B
   ·rintro av ⟨aw,ax,ay⟩ nn;dsimp only[RM];refine cD r ?_ ?_
    ·refine Ac 9 ?_ ?_
     ·refine Ab 7 λl az=>?_
      refine Ab 4 λba bb=>?_
      refine A 10 ?_;exact xL (s:=(l.2.list,l.2.at_,c.set h.1.toNat (i64.wrap (d+(i64.wrap (8*l.1)))),d,e,i64.wrap (f-1))) (_,_,_) ((hE ⟨rfl,r,r,r,trivial⟩ ⟨rfl,(Eq.trans (b:=dV _ 3 39 (.agg [Nm d,Nm e,.osl 39 _ 0 c.length])) r (by simp)),r,r,trivial⟩))
     ·exact B
    ·refine sC (E:=λ(s:Bool) (g:Nat×Nat×Nat)=>[(0,.optr 8192 0 0 0),oP 8 g.1,oP 9 g.2.1,oI 12 f,oI 13 h.1,oI 54 i.1,oB 74 s]) (O:=λ_ g=>[(8,dV g.1 3 39 (.agg [Nm 0,Nm 0,.nils])),(9,dV g.2.1 3 39 (.agg [Nm d,Nm e,.osl 39 g.2.2 0 c.length])),(39,dW g.2.2 1 3 (c.map Av)),(8192,dV 0 2 114 (.agg [.sl (i.2.list.map eU8),Nm i.2.at_]))]) (j:=λs=>SQ h c i d e f s) ?_ ?_
     ·exact B
     ·rintro bc ⟨bd,bf,bg⟩ nn;dsimp only[SQ];refine cD r ?_ ?_
      ·refine Ac 9 ?_ ?_
       ·refine Ab 10 λo bh=>?_
        refine Ab 2 λu bi=>?_
        refine Ab 2 λbj bk=>?_
        refine A 10 ?_;exact xL (s:=(o.2.list,o.2.at_,c.set h.1.toNat u,d,e,i64.wrap (f-1))) (_,_,_) ((hE ⟨rfl,r,r,r,trivial⟩ ⟨rfl,(Eq.trans (b:=dV _ 3 39 (.agg [Nm d,Nm e,.osl 39 _ 0 c.length])) r (by simp)),r,r,trivial⟩))
       ·exact B
      ·refine Ac 6 ?_ ?_
       ·exact B
       ·refine Ac 6 ?_ ?_
        ·refine sC (E:=λ(s:(List Int)×Int×Bool) (g:Nat×Nat×Nat)=>[(0,.optr 8192 0 0 0),oP 8 g.1,oP 9 g.2.1,oI 12 f,oI 13 h.1,oB 116 s.2.2]) (O:=λs g=>[(8,dV g.1 3 39 (.agg [Nm 0,Nm 0,.nils])),(9,dV g.2.1 3 39 (.agg [Nm d,Nm e,.osl 39 g.2.2 0 c.length])),(39,dW g.2.2 1 3 (c.map Av)),(8192,dV 0 2 114 (.agg [.sl (s.1.map eU8),Nm s.2.1]))]) (j:=λs=>SR h c d e f s.1 s.2.1 s.2.2) ?_ ?_
         ·exact B
         ·rintro⟨bl,bm,bn⟩ ⟨bo,bp,bq⟩ nn;dsimp only[SR];refine cD r ?_ ?_
          ·refine Ab 5 λm br=>?_
           refine Ab 2 λbs bt=>?_
           refine A 10 ?_;exact xL (s:=(m.2.list,m.2.at_,c.set h.1.toNat m.1,d,e,i64.wrap (f-1))) (_,_,_) ((hE ⟨rfl,r,r,r,trivial⟩ ⟨rfl,(Eq.trans (b:=dV _ 3 39 (.agg [Nm d,Nm e,.osl 39 _ 0 c.length])) r (by simp)),r,r,trivial⟩))
          ·exact B
        ·refine Ac 6 ?_ ?_
         ·refine Ab 3 λbu bv=>?_
          refine Ac 10 ?_ ?_
          ·exact B
          ·refine Ac 6 ?_ ?_
           ·exact B
           ·refine Ac 6 ?_ ?_
            ·refine Ab 4 λk bw=>?_
             refine A 15 ?_;exact xL (s:=(k.2.list,k.2.at_,c++([k.1]:List Int),d,e,i64.wrap (f-1))) (_,_,_) ((XQ (E1:=[(0,.optr 8192 0 0 0),oP 8 _,oP 9 _,(12,Nm (i64.wrap (f-1)))]) (O1:=[(8,dV _ 3 39 (.agg [Nm 0,Nm 0,.nils])),(9,dV _ 3 39 (.agg [Nm d,Nm e,.osl 144 _ 0 ((c++([k.1]:List Int)).length)])),(144,dW _ 1 3 ((c++([k.1]:List Int)).map Av)),(8192,dV 0 2 114 (.agg [.sl (k.2.list.map eU8),Nm k.2.at_]))]) hX (λ_=>PR (λg=>bif Nat.beq g 144 then 39 else g) (by kernel_rfl) hX)))
            ·exact B
         ·exact B
  ·refine A 12 ?_;refine Uy (b:=((NC.mk d e c),(Mk.mk q t))) r ?_ r r ?_ (by first|rfl|(simp only[Nu];rfl)|(simp only[Nx];rfl)|(simp only[Nu,Nx];rfl)|(simp[Aco,Pv];try rfl))
   all_goals first|(simp;done)|(simp;omega)|rfl|(simp[OQ,OH];done)|(simp[cells];done)

end Go.Proofs.YtcaoepecbgggcaaGreatDoor
