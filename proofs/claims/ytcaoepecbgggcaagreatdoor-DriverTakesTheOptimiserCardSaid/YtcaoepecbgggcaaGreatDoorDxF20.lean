/-
 The code does what its typed programs say.
-/
import Derived.Test.YtcaoepecbgggcaaGreatDoorDxF19
namespace Go.Proofs.YtcaoepecbgggcaaGreatDoor
open Go Go.Dw Go.Proofs
open Go.IntKind (i64)
set_option maxRecDepth 100000
set_option maxHeartbeats 40000000
open Go.Dw renaming ON -> bD,Ts -> bS,PL -> cD,QZ -> xC,Pn -> xL,Qb -> lP,PI -> sC,Rr -> bC,rf -> r
def YY (a:NL×Lo×Int×(List Int)):List D:=[PV a.1,NR a.2.1,Av a.2.2.1,.sl (a.2.2.2.map NF)]
def YX (ds:List D):NL×Lo×Int×(List Int):=(Vs (ds.getD 0 .top),RD (ds.getD 1 .top),uI (ds.getD 2 .top),(uL uI) (ds.getD 3 .top))
instance:Od YY YX:=⟨λa=>by simp[YX,YY,uI,OE (u:=uI) (en:=NF) (λ_=>rfl)]⟩
def AlR (b:(List Mk)×NL):D:=.sl (b.1.map NY)
def AlQ (b:(List Mk)×NL):List D:=[PV b.2]
noncomputable def AlS:Dw.Spec:=NO [(0,(2,114))] (.row 5 90) YY YX (λa=>WH a.1 a.2.1 a.2.2.1 a.2.2.2) AlR AlQ
theorem Akv:NK Tryz.prog 132 AlS:=by
 refine fn2 4 (nK 22 RF<|nK 194 Akw<|nK 48 Aey<|NG) Tryz.func132<|?_;rintro⟨z,d,c,e⟩;unfold WH;refine Ab 9 λb aa=>?_
 refine Ab 15 λa ab=>?_
 refine A 4 ?_;refine bC (E:=λ(_s:Unit) (_g:Unit)=>[(9,Av b.1)]) (O:=λ_ _=>[(8192,dV 0 2 114 (.agg [.sl (a.2.list.map eU8),Av a.2.at_]))]) (j:=λ_=>ZE b a) ?_ ?_
 ·refine sC (E:=λ(s:Bool) (g:Nat)=>[(0,.optr 8192 0 0 0),(2,Av c),(3,.sl (e.map NF)),(5,.optr 5 g 0 0),(9,Av b.1),(10,Av (d.Slots.length:Int)),(11,Av a.1),(23,.bool s)]) (O:=λ_ g=>[(5,dV g 3 36 (NR d)),(8192,dV 0 2 114 (.agg [.sl (a.2.list.map eU8),Av a.2.at_]))]) (j:=λs=>Up a d b e c s) ?_ ?_
  ·exact B
  ·rintro x7 ad nn;dsimp only[Up];refine cD r ?_ ?_
   ·refine Ab 4 λh ae=>?_
    refine A 3 ?_;refine bS ([(Mk.mk 16 h.1 b.1 0 0)]:List Mk) NY r r r (by simp) r r r<|?_
    exact B
   ·refine sC (E:=λ(s:Bool) (g:Nat)=>[(0,.optr 8192 0 0 0),(2,Av c),(3,.sl (e.map NF)),(5,.optr 5 g 0 0),(9,Av b.1),(10,Av (d.Slots.length:Int)),(11,Av a.1),(36,.bool s)]) (O:=λ_ g=>[(5,dV g 3 36 (NR d)),(8192,dV 0 2 114 (.agg [.sl (a.2.list.map eU8),Av a.2.at_]))]) (j:=λs=>Uq a d b e c s) ?_ ?_
    ·exact B
    ·rintro x9 ag nn;dsimp only[Uq];refine cD r ?_ ?_
     ·refine Ab 5 λi ah=>?_
      refine A 2 ?_;refine bS ([(Mk.mk 15 b.1 i.1 0 0)]:List Mk) NY r r r (by simp) r r r<|?_
      exact B
     ·refine sC (E:=λ(s:Bool) (g:Nat)=>[(0,.optr 8192 0 0 0),(2,Av c),(3,.sl (e.map NF)),(5,.optr 5 g 0 0),(9,Av b.1),(10,Av (d.Slots.length:Int)),(11,Av a.1),(49,.bool s)]) (O:=λ_ g=>[(5,dV g 3 36 (NR d)),(8192,dV 0 2 114 (.agg [.sl (a.2.list.map eU8),Av a.2.at_]))]) (j:=λs=>Ur a d b e c s) ?_ ?_
      ·exact B
      ·rintro ai aj nn;dsimp only[Ur];refine cD r ?_ ?_
       ·refine Ab 4 λk ak=>?_
        refine Ab 9 λl ao=>?_
        refine A 3 ?_;refine bS ([(Mk.mk 17 l.1 k.1 0 0)]:List Mk) NY r r r (by simp) r r r<|?_
        exact B
       ·refine Ac 7 ?_ ?_
        ·refine Ab 4 λm ap=>?_
         refine A 2 ?_;refine bS ([(Mk.mk 0 b.1 0 0 m.1)]:List Mk) NY r r r (by simp) r r r<|?_
         exact B
        ·refine Ac 7 ?_ ?_
         ·refine Ab 3 λo aq=>?_
          refine Ab 4 λp ar=>?_
          refine Ab 2 λq au=>?_
          refine A 2 ?_;refine bS ([(Mk.mk (i64.wrap (2+o.1)) b.1 p.1 q.1 0)]:List Mk) NY r r r (by simp) r r r<|?_
          exact B
         ·refine Ac 7 ?_ ?_
          ·refine A 4 ?_;refine bS ([(Mk.mk 14 b.1 0 0 0)]:List Mk) NY r r r (by simp) r r r<|?_
           exact B
          ·refine Ac 7 ?_ ?_
           ·refine A 2 ?_;refine bS ([13,12,1]:List Int) NF r r r (by simp) r r r<|?_
            refine Ab 1 λav aw=>?_
            refine Ab 2 λt ax=>?_
            refine A 3 ?_;refine bS ([(Mk.mk t b.1 0 0 0)]:List Mk) NY r r r (by simp) r r r<|?_
            exact B
           ·refine sC (E:=λ(s:Bool) (g:Nat)=>[(0,.optr 8192 0 0 0),(2,Av c),(3,.sl (e.map NF)),(5,.optr 5 g 0 0),(9,Av b.1),(11,Av a.1),(104,.bool s)]) (O:=λ_ g=>[(5,dV g 3 36 (NR d)),(8192,dV 0 2 114 (.agg [.sl (a.2.list.map eU8),Av a.2.at_]))]) (j:=λs=>Us a d b e c s) ?_ ?_
            ·exact B
            ·rintro ay az nn;dsimp only[Us];refine cD r ?_ ?_
             ·refine Ab 6 λu ba=>?_
              refine A 2 ?_;refine bS ([(Mk.mk 19 b.1 u.1 0 0)]:List Mk) NY r r r (by simp) r r r<|?_
              exact B
             ·refine sC (E:=λ(s:Bool) (_g:Unit)=>[(0,.optr 8192 0 0 0),(2,Av c),(3,.sl (e.map NF)),(9,Av b.1),(119,.bool s)]) (O:=λ_ _=>[(8192,dV 0 2 114 (.agg [.sl (a.2.list.map eU8),Av a.2.at_]))]) (j:=λs=>Ut a e c b s) ?_ ?_
              ·exact B
              ·rintro bb ⟨⟩ nn;dsimp only[Ut];refine cD r ?_ ?_
               ·refine Ab 10 λf bc=>?_
                refine A 17 ?_;refine lP (E:=λ(s:(List Int)×Int×(List Mk)×Int) (g:Nat)=>[(0,.optr 8192 0 0 0),(3,.sl (e.map NF)),(13,Av (i64.wrap ((i64.wrap (c+1))+f.1))),(14,.osl 14 g 0 s.2.2.1.length),(15,Av s.2.2.2)]) (O:=λs g=>[(14,dW g 5 90 (s.2.2.1.map NY)),(8192,dV 0 2 114 (.agg [.sl (s.1.map eU8),Av s.2.1]))]) _ hX<|?_
                rintro⟨bd,bf,bg,v⟩ bh nn;dsimp only[ZD];refine Ab 6 λbi bj=>?_
                refine Ac 5 ?_ ?_
                ·refine Ab 7 λbk bl=>?_
                 refine Ac 4 ?_ ?_
                 ·refine Ab 4 λx bm=>?_
                  refine A 2 ?_;refine bS ([(Mk.mk 18 v x.1 0 0)]:List Mk) NY r r r (by simp) r r r<|?_
                  exact B
                 ·exact B
                ·refine A 10 ?_;refine bS ([(Mk.mk 22 (i64.wrap ((i64.wrap (c+1))+f.1)) 0 0 0)]:List Mk) NY r r r (by simp) r r r<|?_
                 exact B
               ·exact B
 ·rintro⟨⟩ ⟨⟩ nn;dsimp only[ZE];refine A 4 ?_;refine bS ([(Mk.mk 14 b.1 0 0 0)]:List Mk) NY r r r (by simp) r r r<|?_
  exact B

end Go.Proofs.YtcaoepecbgggcaaGreatDoor
