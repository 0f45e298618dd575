/-
 The code does what its typed programs say.
-/
import Derived.Test.YtmmchhpdaogopaaGreatDoorDxF14
namespace Go.Proofs.YtmmchhpdaogopaaGreatDoor
open Go Go.Dw Go.Proofs
open Go.IntKind (i64)
set_option maxRecDepth 100000
set_option maxHeartbeats 40000000
open Go.Dw renaming Px -> bD,Qd -> cK,AbY -> aP,QU -> cD,RO -> xC,Qx -> xL,Xh -> hE,Rq -> lP,Qq -> sC,rf -> r
abbrev AfQ:=en4 OX PQ Av Av
abbrev AfP:=de4 Rr QM uI uI
def Abk (b:NT×Lo):D:=OR b.1
def AhG (b:NT×Lo):List D:=[OX b.2]
theorem Ahb:NM Tryz.prog 81 (Ow [(0,(2,103))] .val AfQ AfP (λa=>UA a.1 a.2.1 a.2.2.1 a.2.2.2) Abk AhG):=by
 refine fn2 4 (nK 68 WB<|nK 19 Pp<|nK 76 Xu<|nK 22 Zm<|NK) Tryz.func81<|?_;rintro⟨v,x,z,aa⟩;unfold UA;refine Ab 11 λr5 ac=>?_
 refine A 9 ?_;refine sC (E:=λ(_s:(List Int)×Int×Int×Int×(List Int)) (g:Nat×Nat)=>[(0,.optr 8192 0 0 0),oP 8 g.1,oP 9 g.2]) (O:=λs g=>[(8,dV g.1 3 65 (.agg [Mk 0,Mk 0,.nils])),(9,dV g.2 3 65 (.agg [Mk s.2.2.1,Mk s.2.2.2.1,.sl (s.2.2.2.2.map Av)])),(8192,dV 0 2 103 (.agg [.sl (s.1.map eU8),Mk s.2.1]))]) (j:=λs=>Rb s.1 s.2.1 s.2.2.1 s.2.2.2.1 s.2.2.2.2) ?_ ?_
 ·exact B
 ·rintro⟨c6,c7,y8,y9,p⟩ ⟨ah,ai⟩ nn;dsimp only[Rb];refine A 4 ?_;refine cK λhq=>aP (([]:List Int)) (p) Av r r r r r r r (by simp) r r r (by simp) r (λ_=>r) r hq<|?_
  refine Ab 8 λaj ak=>?_
  refine A 5 ?_;refine lP (E:=λ(s:(List Int)×Int×(List Int)×Int×Int×Int) (g:Nat×Nat×Nat)=>[(0,.optr 8192 0 0 0),oP 8 g.1,oP 9 g.2.1,oI 12 s.2.2.2.2.2]) (O:=λs g=>[(8,dV g.1 3 65 (.agg [Mk 0,Mk 0,.nils])),(9,dV g.2.1 3 65 (.agg [Mk s.2.2.2.1,Mk s.2.2.2.2.1,.osl 39 g.2.2 0 s.2.2.1.length])),(39,dW g.2.2 1 3 (s.2.2.1.map Av)),(8192,dV 0 2 103 (.agg [.sl (s.1.map eU8),Mk s.2.1]))]) (_,_,_) hX<|?_
  rintro⟨q,t,c,d,e,f⟩ ⟨ao,ap,aq⟩ nn;dsimp only[Xl];refine Ac 7 ?_ ?_
  ·refine Ab 11 λh ar=>?_
   refine Ab 7 λi au=>?_
   refine A 4 ?_;refine sC (E:=λ(s:Bool) (g:Nat×Nat×Nat)=>[(0,.optr 8192 0 0 0),oP 8 g.1,oP 9 g.2.1,oI 12 f,oI 13 h.1,oI 54 i.1,oB 55 s]) (O:=λ_ g=>[(8,dV g.1 3 65 (.agg [Mk 0,Mk 0,.nils])),(9,dV g.2.1 3 65 (.agg [Mk d,Mk e,.osl 39 g.2.2 0 c.length])),(39,dW g.2.2 1 3 (c.map Av)),(8192,dV 0 2 103 (.agg [.sl (i.2.list.map eU8),Mk i.2.at_]))]) (j:=λs=>RH h c i d e f s) ?_ ?_
   ·exact B
   ·rintro av ⟨aw,ax,ay⟩ nn;dsimp only[RH];refine cD r ?_ ?_
    ·refine Ac 9 ?_ ?_
     ·refine Ab 7 λl az=>?_
      refine Ab 4 λba bb=>?_
      refine A 10 ?_;exact xL (s:=(l.2.list,l.2.at_,c.set h.1.toNat (i64.wrap (d+(i64.wrap (8*l.1)))),d,e,i64.wrap (f-1))) (_,_,_) ((hE ⟨rfl,r,r,r,trivial⟩ ⟨rfl,(Eq.trans (b:=dV _ 3 65 (.agg [Mk d,Mk e,.osl 39 _ 0 c.length])) r (by simp)),r,r,trivial⟩))
     ·exact B
    ·refine sC (E:=λ(s:Bool) (g:Nat×Nat×Nat)=>[(0,.optr 8192 0 0 0),oP 8 g.1,oP 9 g.2.1,oI 12 f,oI 13 h.1,oI 54 i.1,oB 74 s]) (O:=λ_ g=>[(8,dV g.1 3 65 (.agg [Mk 0,Mk 0,.nils])),(9,dV g.2.1 3 65 (.agg [Mk d,Mk e,.osl 39 g.2.2 0 c.length])),(39,dW g.2.2 1 3 (c.map Av)),(8192,dV 0 2 103 (.agg [.sl (i.2.list.map eU8),Mk i.2.at_]))]) (j:=λs=>SB h c i d e f s) ?_ ?_
     ·exact B
     ·rintro bc ⟨bd,bf,bg⟩ nn;dsimp only[SB];refine cD r ?_ ?_
      ·refine Ac 9 ?_ ?_
       ·refine Ab 10 λo bh=>?_
        refine Ab 2 λu bi=>?_
        refine Ab 2 λbj bk=>?_
        refine A 10 ?_;exact xL (s:=(o.2.list,o.2.at_,c.set h.1.toNat u,d,e,i64.wrap (f-1))) (_,_,_) ((hE ⟨rfl,r,r,r,trivial⟩ ⟨rfl,(Eq.trans (b:=dV _ 3 65 (.agg [Mk d,Mk e,.osl 39 _ 0 c.length])) r (by simp)),r,r,trivial⟩))
       ·exact B
      ·refine Ac 6 ?_ ?_
       ·exact B
       ·refine Ac 6 ?_ ?_
        ·refine sC (E:=λ(s:(List Int)×Int×Bool) (g:Nat×Nat×Nat)=>[(0,.optr 8192 0 0 0),oP 8 g.1,oP 9 g.2.1,oI 12 f,oI 13 h.1,oB 116 s.2.2]) (O:=λs g=>[(8,dV g.1 3 65 (.agg [Mk 0,Mk 0,.nils])),(9,dV g.2.1 3 65 (.agg [Mk d,Mk e,.osl 39 g.2.2 0 c.length])),(39,dW g.2.2 1 3 (c.map Av)),(8192,dV 0 2 103 (.agg [.sl (s.1.map eU8),Mk s.2.1]))]) (j:=λs=>SC h c d e f s.1 s.2.1 s.2.2) ?_ ?_
         ·exact B
         ·rintro⟨bl,bm,bn⟩ ⟨bo,bp,bq⟩ nn;dsimp only[SC];refine cD r ?_ ?_
          ·refine Ab 5 λm br=>?_
           refine Ab 2 λbs bt=>?_
           refine A 10 ?_;exact xL (s:=(m.2.list,m.2.at_,c.set h.1.toNat m.1,d,e,i64.wrap (f-1))) (_,_,_) ((hE ⟨rfl,r,r,r,trivial⟩ ⟨rfl,(Eq.trans (b:=dV _ 3 65 (.agg [Mk d,Mk e,.osl 39 _ 0 c.length])) r (by simp)),r,r,trivial⟩))
          ·exact B
        ·refine Ac 6 ?_ ?_
         ·refine Ab 3 λbu bv=>?_
          refine Ac 10 ?_ ?_
          ·exact B
          ·refine Ac 6 ?_ ?_
           ·exact B
           ·refine Ac 6 ?_ ?_
            ·refine Ab 4 λk bw=>?_
             refine A 15 ?_;exact xL (s:=(k.2.list,k.2.at_,c++([k.1]:List Int),d,e,i64.wrap (f-1))) (_,_,_) ((Yu (E1:=[(0,.optr 8192 0 0 0),oP 8 _,oP 9 _,(12,Mk (i64.wrap (f-1)))]) (O1:=[(8,dV _ 3 65 (.agg [Mk 0,Mk 0,.nils])),(9,dV _ 3 65 (.agg [Mk d,Mk e,.osl 144 _ 0 ((c++([k.1]:List Int)).length)])),(144,dW _ 1 3 ((c++([k.1]:List Int)).map Av)),(8192,dV 0 2 103 (.agg [.sl (k.2.list.map eU8),Mk k.2.at_]))]) hX (λ_=>Qo (λg=>bif Nat.beq g 144 then 39 else g) (by kernel_rfl) hX)))
            ·exact B
         ·exact B
  ·refine A 12 ?_;refine Tz (b:=((NT.mk d e c),(Lo.mk q t))) r ?_ r r ?_ (by first|rfl|(simp only[NN];rfl)|(simp only[NP];rfl)|(simp only[NN,NP];rfl)|(simp[Abk,OR];try rfl))
   all_goals first|(simp;done)|(simp;omega)|rfl|(simp[Pc,OT];done)|(simp[cells];done)

end Go.Proofs.YtmmchhpdaogopaaGreatDoor
