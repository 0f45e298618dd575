/-
 The code does what its typed programs say.
-/
import Derived.Test.YtcaoepecbgggcaaGreatDoorProg
import Derived.Test.YtcaoepecbgggcaaGreatDoorDc
import Derived.KernelRfl
import Derived.Test.YtcaoepecbgggcaaGreatDoorSh
import Derived.Test.YtcaoepecbgggcaaGreatDoorDxP
import Derived.Test.YtcaoepecbgggcaaGreatDoorDxF1
import Derived.Test.YtcaoepecbgggcaaGreatDoorDxF2
import Derived.Test.YtcaoepecbgggcaaGreatDoorDxF3
import Derived.Test.YtcaoepecbgggcaaGreatDoorDxF6
open List renaming replicate->aA
namespace Go.Proofs.YtcaoepecbgggcaaGreatDoor
open Go Go.Dw Go.Proofs
open Go.IntKind (i64)
set_option maxRecDepth 100000
set_option maxHeartbeats 40000000
open Go.Dw renaming Ql -> bD,Qo -> cK,YI -> bS,Aqd -> aP,YJ -> sE,AaX -> iO,UZ -> cD,Xt -> xC,Ui -> xL,AbZ -> hE,Xu -> lP,Tt -> sC,Wh -> bC,rf -> r
noncomputable section
def WM (a:BR×Int):List D:=[Ow a.1,Av a.2]
def WL (ds:List D):BR×Int:=(RM (ds.getD 0 .top),uI (ds.getD 1 .top))
instance:Oc WM WL:=⟨λa=>by simp[WL,WM,uI]⟩
def Adt (b:Int×BR):D:=Av b.1
def Aqp (b:Int×BR):List D:=[Ow b.2]
def OL:Dw.Spec:=NI [(0,(2,114))] .val WM WL (λa=>NL a.1 a.2) Adt Aqp
theorem OM:ND Tryz.prog 22 OL:=by
 refine fn2 2 (NJ (l:=[(64,AjK)]) (by simp[AoX])) Tryz.func22<|?_
 rintro⟨c,a⟩;unfold NL;refine A 5 ?_;refine sC (E:=λ(_s:(List Int)×Int) (_g:Unit)=>[(0,.optr 8192 0 0 0),(1,Av a)]) (O:=λs _=>[(8192,dV 0 2 114 (.agg [.sl (s.1.map eU8),Av s.2]))]) (j:=λs=>XG a s.1 s.2) ?_ ?_
 ·refine Ab 3 λb d=>?_
  refine A 3 ?_;refine NS r ?_ ?_
  ·exact B
  ·refine Ac 5 ?_ ?_
   ·exact B
   ·refine A 1 ?_;exact xC (s:=(b.2.list,b.2.at_)) () hX
 ·rintro⟨c3,c4⟩ ⟨⟩ nn
  try dsimp only
  unfold XG;refine Ab 10 λe f=>?_
  refine A 15 ?_;refine AiK (i:=0) (es':=[.agg [.sl (c3.map eU8),Av (i64.wrap (c4+1))]]) r r r r r r r (by first|trivial|(simp;done)|(simp;omega)) r r r r r r<|?_
  exact B

def Aqr (b:NQ×BR):D:=Ox b.1
def Aqq (b:NQ×BR):List D:=[Ow b.2]
def AjM:Dw.Spec:=NI [(0,(2,114))] .val Sh Sg (λa=>Abm a) Aqr Aqq
theorem AoZ:ND Tryz.prog 49 AjM:=by
 refine fn2 1 (NJ (l:=[(22,OL)]) (by simp[OM])) Tryz.func49<|?_
 intro a;unfold Abm;refine A 7 ?_;refine bS ([8,4,8,1,2,16,8]:List Int) NA r r r (by simp) r r r<|?_
 refine Ab 1 λb c=>?_
 refine Ab 2 λd e=>?_
 refine A 1 ?_;refine bS ([8,4,1,8,16,2,32,64]:List Int) NA r r r (by simp) r r r<|?_
 exact B

def Apb (b:(List NQ)×BR):D:=.sl (b.1.map Ox)
def Apa (b:(List NQ)×BR):List D:=[Ow b.2]
def AiR:Dw.Spec:=NI [(0,(2,114))] (.row 2 87) WM WL (λa=>Wp a.1 a.2) Apb Apa
theorem AoH:ND Tryz.prog 131 AiR:=by
 refine fn2 2 (NJ (l:=[(22,OL),(49,AjM)]) (by simp[OM,AoZ])) Tryz.func131<|?_
 rintro⟨e,f⟩;unfold Wp;refine Ab 16 λb h=>?_
 refine A 5 ?_;refine lP (E:=λ(s:(List Int)×Int×(List NQ)×Int) (g:Nat)=>[(0,.optr 8192 0 0 0),(5,.osl 5 g 0 s.2.2.1.length),(6,Av s.2.2.2)]) (O:=λs g=>[(5,dW g 2 87 (s.2.2.1.map Ox)),(8192,dV 0 2 114 (.agg [.sl (s.1.map eU8),Av s.2.1]))]) (body:=λs=>Abd s.1 s.2.1 s.2.2.1 s.2.2.2) (s:=(b.2.list,b.2.at_,([]:List NQ),b.1)) _ hX<|?_
 rintro⟨c4,c5,c,d⟩ i nn
 try dsimp only
 unfold Abd;refine Ac 7 ?_ ?_
 ·refine Ab 7 λa j=>?_
  refine A 1 ?_;refine bS ([a.1]:List NQ) Ox r r r (by simp) r r r<|?_
  refine A 10 ?_;exact xL (s:=(a.2.list,a.2.at_,c++([a.1]:List NQ),i64.wrap (d-1))) _ hX
 ·exact B

def Abh (a:BR×Mk×Int):List D:=[Ow a.1,NM a.2.1,Av a.2.2]
def Abg (ds:List D):BR×Mk×Int:=(RM (ds.getD 0 .top),Qz (ds.getD 1 .top),uI (ds.getD 2 .top))
instance:Oc Abh Abg:=⟨λa=>by simp[Abg,Abh,uI]⟩
def Aqw (b:Int×BR):List D:=[Ow b.2]
def Adv:Dw.Spec:=NI [(0,(2,114))] .val Abh Abg (λa=>XL a.1 a.2.1 a.2.2) Adt Aqw
theorem AiT:ND Tryz.prog 194 Adv:=by
 refine fn2 3 (NJ (l:=[(22,OL)]) (by simp[OM])) Tryz.func194<|?_
 rintro⟨a,c,d⟩;unfold XL;refine A 18 ?_;refine lP (E:=λ(s:(List Int)×Int) (g:Nat×Nat)=>[(0,.optr 8192 0 0 0),(2,Av d),(4,.optr 4 g.1 0 0),(7,.osl 7 g.2 0 s.1.length),(8,Av s.2)]) (O:=λs g=>[(4,dV g.1 3 36 (NM c)),(7,dW g.2 1 3 (s.1.map NA)),(8192,dV 0 2 114 (.agg [.sl (a.list.map eU8),Av a.at_]))]) (body:=λs=>AbQ c d a s.1 s.2) (s:=(([]:List Int),0)) (_,_) hX<|?_
 rintro⟨e,b⟩ ⟨f,h⟩ nn
 try dsimp only
 unfold AbQ;refine Ac 10 ?_ ?_
 ·refine Ab 9 λi j=>?_
  refine Ab 6 λk m=>?_
  refine Ac 6 ?_ ?_
  ·refine A 14 ?_;exact xL (s:=(e++([b]:List Int),i64.wrap (b+1))) (_,_) hX
  ·refine A 8 ?_;exact xL (s:=(e,i64.wrap (b+1))) (_,_) hX
 ·exact B

def Aqt (b:Int×BR):D:=AoU b.1
def Aqs (b:Int×BR):List D:=[Ow b.2]
def Adu:Dw.Spec:=NI [(0,(2,114))] .val Sh Sg (λa=>XI a) Aqt Aqs
theorem AiS:ND Tryz.prog 48 Adu:=by
 refine fn2 1 (NJ (l:=[(22,OL)]) (by simp[OM])) Tryz.func48<|?_
 intro a;unfold XI;exact B

def Abf (a:BR×Mk×Int×(List Int)):List D:=[Ow a.1,NM a.2.1,Av a.2.2.1,.sl (a.2.2.2.map NA)]
def Abe (ds:List D):BR×Mk×Int×(List Int):=(RM (ds.getD 0 .top),Qz (ds.getD 1 .top),uI (ds.getD 2 .top),(uL uI) (ds.getD 3 .top))
instance:Oc Abf Abe:=⟨λa=>by simp[Abe,Abf,uI,Oy (u:=uI) (en:=NA) (λ_=>rfl)]⟩
def Aqv (b:(List Lo)×BR):D:=.sl (b.1.map NX)
def Aqu (b:(List Lo)×BR):List D:=[Ow b.2]
def AjN:Dw.Spec:=NI [(0,(2,114))] (.row 5 90) Abf Abe (λa=>XJ a.1 a.2.1 a.2.2.1 a.2.2.2) Aqv Aqu
theorem Apc:ND Tryz.prog 132 AjN:=by
 refine fn2 4 (NJ (l:=[(22,OL),(194,Adv),(48,Adu)]) (by simp[OM,AiT,AiS])) Tryz.func132<|?_
 rintro⟨c1,c,d,e⟩;unfold XJ;refine Ab 9 λb ad=>?_
 refine Ab 15 λa ae=>?_
 refine A 4 ?_;refine bC (E:=λ(_s:Unit) (_g:Unit)=>[(9,Av b.1)]) (O:=λ_ _=>[(8192,dV 0 2 114 (.agg [.sl (a.2.list.map eU8),Av a.2.at_]))]) (j:=λ_=>AbP b a) ?_ ?_
 ·refine sC (E:=λ(s:Bool) (g:Nat)=>[(0,.optr 8192 0 0 0),(2,Av d),(3,.sl (e.map NA)),(5,.optr 5 g 0 0),(9,Av b.1),(10,Av (c.Slots.length:Int)),(11,Av a.1),(23,.bool s)]) (O:=λ_ g=>[(5,dV g 3 36 (NM c)),(8192,dV 0 2 114 (.agg [.sl (a.2.list.map eU8),Av a.2.at_]))]) (j:=λs=>Uy a c b e d s) ?_ ?_
  ·refine A 4 ?_;refine NS r ?_ ?_
   ·refine A 5 ?_;exact xC (s:=(decide ((c.Slots.length:Int)>0))) _ hX
   ·refine A 5 ?_;exact xC (s:=false) _ hX
  ·rintro x7 ag nn
   try dsimp only
   unfold Uy;refine cD r ?_ ?_
   ·refine Ab 4 λo ah=>?_
    refine A 3 ?_;refine bS ([(Lo.mk 16 o.1 b.1 0 0)]:List Lo) NX r r r (by simp) r r r<|?_
    exact B
   ·refine sC (E:=λ(s:Bool) (g:Nat)=>[(0,.optr 8192 0 0 0),(2,Av d),(3,.sl (e.map NA)),(5,.optr 5 g 0 0),(9,Av b.1),(10,Av (c.Slots.length:Int)),(11,Av a.1),(36,.bool s)]) (O:=λ_ g=>[(5,dV g 3 36 (NM c)),(8192,dV 0 2 114 (.agg [.sl (a.2.list.map eU8),Av a.2.at_]))]) (j:=λs=>Uz a c b e d s) ?_ ?_
    ·refine A 4 ?_;refine NS r ?_ ?_
     ·refine A 5 ?_;exact xC (s:=(decide ((c.Slots.length:Int)>0))) _ hX
     ·refine A 5 ?_;exact xC (s:=false) _ hX
    ·rintro x9 aj nn
     try dsimp only
     unfold Uz;refine cD r ?_ ?_
     ·refine Ab 5 λp ak=>?_
      refine A 2 ?_;refine bS ([(Lo.mk 15 b.1 p.1 0 0)]:List Lo) NX r r r (by simp) r r r<|?_
      exact B
     ·refine sC (E:=λ(s:Bool) (g:Nat)=>[(0,.optr 8192 0 0 0),(2,Av d),(3,.sl (e.map NA)),(5,.optr 5 g 0 0),(9,Av b.1),(10,Av (c.Slots.length:Int)),(11,Av a.1),(49,.bool s)]) (O:=λ_ g=>[(5,dV g 3 36 (NM c)),(8192,dV 0 2 114 (.agg [.sl (a.2.list.map eU8),Av a.2.at_]))]) (j:=λs=>UA a c b e d s) ?_ ?_
      ·refine A 4 ?_;refine NS r ?_ ?_
       ·refine A 5 ?_;exact xC (s:=(decide ((c.Slots.length:Int)>0))) _ hX
       ·refine A 5 ?_;exact xC (s:=false) _ hX
      ·rintro ao ap nn
       try dsimp only
       unfold UA;refine cD r ?_ ?_
       ·refine Ab 4 λq aq=>?_
        refine Ab 9 λt ar=>?_
        refine A 3 ?_;refine bS ([(Lo.mk 17 t.1 q.1 0 0)]:List Lo) NX r r r (by simp) r r r<|?_
        exact B
       ·refine Ac 7 ?_ ?_
        ·refine Ab 4 λu au=>?_
         refine A 2 ?_;refine bS ([(Lo.mk 0 b.1 0 0 u.1)]:List Lo) NX r r r (by simp) r r r<|?_
         exact B
        ·refine Ac 7 ?_ ?_
         ·refine Ab 3 λv av=>?_
          refine Ab 4 λx aw=>?_
          refine Ab 2 λz ax=>?_
          refine A 2 ?_;refine bS ([(Lo.mk (i64.wrap (2+v.1)) b.1 x.1 z.1 0)]:List Lo) NX r r r (by simp) r r r<|?_
          exact B
         ·refine Ac 7 ?_ ?_
          ·refine A 4 ?_;refine bS ([(Lo.mk 14 b.1 0 0 0)]:List Lo) NX r r r (by simp) r r r<|?_
           exact B
          ·refine Ac 7 ?_ ?_
           ·refine A 2 ?_;refine bS ([13,12,1]:List Int) NA r r r (by simp) r r r<|?_
            refine Ab 1 λay az=>?_
            refine Ab 2 λaa ba=>?_
            refine A 3 ?_;refine bS ([(Lo.mk aa b.1 0 0 0)]:List Lo) NX r r r (by simp) r r r<|?_
            exact B
           ·refine sC (E:=λ(s:Bool) (g:Nat)=>[(0,.optr 8192 0 0 0),(2,Av d),(3,.sl (e.map NA)),(5,.optr 5 g 0 0),(9,Av b.1),(11,Av a.1),(104,.bool s)]) (O:=λ_ g=>[(5,dV g 3 36 (NM c)),(8192,dV 0 2 114 (.agg [.sl (a.2.list.map eU8),Av a.2.at_]))]) (j:=λs=>UB a c b e d s) ?_ ?_
            ·refine A 4 ?_;refine NS r ?_ ?_
             ·refine A 6 ?_;exact xC (s:=(decide (c.Params>0))) _ hX
             ·refine A 6 ?_;exact xC (s:=false) _ hX
            ·rintro bb bc nn
             try dsimp only
             unfold UB;refine cD r ?_ ?_
             ·refine Ab 6 λab bd=>?_
              refine A 2 ?_;refine bS ([(Lo.mk 19 b.1 ab.1 0 0)]:List Lo) NX r r r (by simp) r r r<|?_
              exact B
             ·refine sC (E:=λ(s:Bool) (_g:Unit)=>[(0,.optr 8192 0 0 0),(2,Av d),(3,.sl (e.map NA)),(9,Av b.1),(119,.bool s)]) (O:=λ_ _=>[(8192,dV 0 2 114 (.agg [.sl (a.2.list.map eU8),Av a.2.at_]))]) (j:=λs=>UC a e d b s) ?_ ?_
              ·refine A 4 ?_;refine NS r ?_ ?_
               ·refine A 8 ?_;exact xC (s:=(decide ((i64.wrap (d+1))<(e.length:Int)))) () hX
               ·refine A 8 ?_;exact xC (s:=false) () hX
              ·rintro bf ⟨⟩ nn
               try dsimp only
               unfold UC;refine cD r ?_ ?_
               ·refine Ab 10 λf bg=>?_
                refine A 17 ?_;refine lP (E:=λ(s:(List Int)×Int×(List Lo)×Int) (g:Nat)=>[(0,.optr 8192 0 0 0),(3,.sl (e.map NA)),(13,Av (i64.wrap ((i64.wrap (d+1))+f.1))),(14,.osl 14 g 0 s.2.2.1.length),(15,Av s.2.2.2)]) (O:=λs g=>[(14,dW g 5 90 (s.2.2.1.map NX)),(8192,dV 0 2 114 (.agg [.sl (s.1.map eU8),Av s.2.1]))]) (body:=λs=>XK e d f s.1 s.2.1 s.2.2.1 s.2.2.2) (s:=(f.2.list,f.2.at_,([]:List Lo),0)) _ hX<|?_
                rintro⟨bh,bi,k,h⟩ bj nn
                try dsimp only
                unfold XK;refine Ab 6 λbk bl=>?_
                refine Ac 5 ?_ ?_
                ·refine Ab 7 λm bm=>?_
                 refine Ac 4 ?_ ?_
                 ·refine Ab 4 λi bn=>?_
                  refine A 2 ?_;refine bS ([(Lo.mk 18 h i.1 0 0)]:List Lo) NX r r r (by simp) r r r<|?_
                  refine A 10 ?_;exact xL (s:=(i.2.list,i.2.at_,k++([(Lo.mk 18 h i.1 0 0)]:List Lo),i64.wrap (h+1))) _ hX
                 ·refine A 8 ?_;exact xL (s:=(m.2.list,m.2.at_,k,i64.wrap (h+1))) _ hX
                ·refine A 10 ?_;refine bS ([(Lo.mk 22 (i64.wrap ((i64.wrap (d+1))+f.1)) 0 0 0)]:List Lo) NX r r r (by simp) r r r<|?_
                 exact B
               ·refine A 1 ?_;exact Oj (s:=()) () hX
 ·rintro⟨⟩ ⟨⟩ nn
  try dsimp only
  unfold AbP;refine A 4 ?_;refine bS ([(Lo.mk 14 b.1 0 0 0)]:List Lo) NX r r r (by simp) r r r<|?_
  exact B

def WY (a:BR×Int×(List Int)×Int):List D:=[Ow a.1,Av a.2.1,.sl (a.2.2.1.map NA),Av a.2.2.2]
def WX (ds:List D):BR×Int×(List Int)×Int:=(RM (ds.getD 0 .top),uI (ds.getD 1 .top),(uL uI) (ds.getD 2 .top),uI (ds.getD 3 .top))
instance:Oc WY WX:=⟨λa=>by simp[WX,WY,uI,Oy (u:=uI) (en:=NA) (λ_=>rfl)]⟩
def AfC (b:Mk×BR):D:=NM b.1
def AmI (b:Mk×BR):List D:=[Ow b.2]
def AfD:Dw.Spec:=NI [(0,(2,114))] .val WY WX (λa=>WO a.1 a.2.1 a.2.2.1 a.2.2.2) AfC AmI
theorem Amj:ND Tryz.prog 73 AfD:=by
 refine fn2 4 (NJ (l:=[(131,AiR),(22,OL),(132,AjN),(48,Adu)]) (by simp[AoH,OM,Apc,AiS])) Tryz.func73<|?_
 rintro⟨c1,k,m,ag⟩;unfold WO;refine Ab 9 λc ax=>?_
 refine Ab 3 λh ay=>?_
 refine A 18 ?_;refine lP (E:=λ(s:(List Int)×Int×(List Lo)×Int) (g:Nat×Nat×Nat×Nat)=>[(0,.optr 8192 0 0 0),(1,Av k),(2,.sl (m.map NA)),(3,Av ag),(8,.optr 8 g.1 0 0),(9,.optr 9 g.2.1 0 0),(10,.osl 10 g.2.2.1 0 s.2.2.1.length),(11,Av s.2.2.2)]) (O:=λs g=>[(8,dV g.1 3 36 (.agg [Av 0,.nils,.nils])),(9,dV g.2.1 3 36 (.agg [Av c,.osl 21 g.2.2.2 0 h.1.length,.nils])),(10,dW g.2.2.1 5 90 (s.2.2.1.map NX)),(21,dW g.2.2.2 2 87 (h.1.map Ox)),(8192,dV 0 2 114 (.agg [.sl (s.1.map eU8),Av s.2.1]))]) (body:=λs=>Yz h ag c k m s.1 s.2.1 s.2.2.1 s.2.2.2) (s:=(h.2.list,h.2.at_,([]:List Lo),0)) (_,_,_,_) hX<|?_
 rintro⟨c7,c8,ab,o⟩ ⟨bb,bc,bd,bf⟩ nn
 try dsimp only
 unfold Yz;refine Ac 10 ?_ ?_
 ·refine Ab 7 λah bg=>?_
  refine Ac 4 ?_ ?_
  ·refine Ab 4 λp bh=>?_
   refine A 2 ?_;refine bS ([(Lo.mk 16 o p.1 0 0)]:List Lo) NX r r r (by simp) r r r<|?_
   refine A 10 ?_;exact xL (s:=(p.2.list,p.2.at_,ab++([(Lo.mk 16 o p.1 0 0)]:List Lo),i64.wrap (o+1))) (_,_,_,_) hX
  ·refine A 8 ?_;exact xL (s:=(ah.2.list,ah.2.at_,ab,i64.wrap (o+1))) (_,_,_,_) hX
 ·refine Ab 11 λac bi=>?_
  refine A 5 ?_;refine lP (E:=λ(s:(List Int)×Int×(List Lo)×(List NQ)×Int) (g:Nat×Nat×Nat)=>[(0,.optr 8192 0 0 0),(1,Av k),(2,.sl (m.map NA)),(8,.optr 8 g.1 0 0),(9,.optr 9 g.2.1 0 0),(10,.osl 10 g.2.2 0 s.2.2.1.length),(12,Av s.2.2.2.2)]) (O:=λs g=>[(8,dV g.1 3 36 (.agg [Av 0,.nils,.nils])),(9,dV g.2.1 3 36 (.agg [Av c,.sl (s.2.2.2.1.map Ox),.nils])),(10,dW g.2.2 5 90 (s.2.2.1.map NX)),(8192,dV 0 2 114 (.agg [.sl (s.1.map eU8),Av s.2.1]))]) (body:=λs=>YA c k m s.1 s.2.1 s.2.2.1 s.2.2.2.1 s.2.2.2.2) (s:=(ac.2.list,ac.2.at_,ab,h.1,ac.1)) (_,_,_) ((YB [(21,some (_,⟨true,false,2,87,h.1.map Ox⟩))] ⟨⟨_,_,r,r,r⟩,trivial⟩ ⟨(On r),(On r),(On r),(On r),(On r),(On r),(On r),trivial⟩ ⟨(.inl r),(.inr ⟨_,_,_,_,r,r,r,r,Wo r ⟨(OA r),(XC (l:=h.1) (en:=Ox) r r r (by first|(simp;done)|rfl|(simp;rfl))),(OA r),trivial⟩⟩),(.inl r),(.inl r),trivial⟩))<|?_
  rintro⟨bj,bk,f,d,q⟩ ⟨bl,bm,bn⟩ nn
  try dsimp only
  unfold YA;refine Ac 7 ?_ ?_
  ·refine Ab 11 λt bo=>?_
   refine Ab 8 λai bp=>?_
   refine Ac 10 ?_ ?_
   ·refine Ab 3 λu bq=>?_
    refine A 2 ?_;refine bS ([(Lo.mk 21 u.1 (-1) 0 0)]:List Lo) NX r r r (by simp) r r r<|?_
    refine A 11 ?_;exact xL (s:=(u.2.list,u.2.at_,(f++t.1)++([(Lo.mk 21 u.1 (-1) 0 0)]:List Lo),d,i64.wrap (q-1))) (_,_,_) hX
   ·refine Ac 6 ?_ ?_
    ·refine Ab 3 λv br=>?_
     refine Ac 4 ?_ ?_
     ·refine A 3 ?_;refine bS ([(Lo.mk 20 (-1) 0 0 0)]:List Lo) NX r r r (by simp) r r r<|?_
      refine A 11 ?_;exact xL (s:=(v.2.list,v.2.at_,(f++t.1)++([(Lo.mk 20 (-1) 0 0 0)]:List Lo),d,i64.wrap (q-1))) (_,_,_) hX
     ·refine A 9 ?_;exact xL (s:=(v.2.list,v.2.at_,f++t.1,d,i64.wrap (q-1))) (_,_,_) hX
    ·refine A 9 ?_;exact xL (s:=(ai.2.list,ai.2.at_,f++t.1,d,i64.wrap (q-1))) (_,_,_) hX
  ·refine A 12 ?_;refine sC (E:=λ(_s:(List Int)×Int×Int×Int) (g:Nat×Nat×Nat×Nat)=>[(0,.optr 8192 0 0 0),(8,.optr 8 g.1 0 0),(9,.optr 9 g.2.1 0 0),(10,.osl 10 g.2.2.1 0 f.length),(13,.optr 13 g.2.2.2 0 0)]) (O:=λs g=>[(8,dV g.1 3 36 (.agg [Av 0,.nils,.nils])),(9,dV g.2.1 3 36 (.agg [Av c,.sl (d.map Ox),.nils])),(10,dW g.2.2.1 5 90 (f.map NX)),(13,dV g.2.2.2 5 90 (.agg [Av s.2.2.1,Av 0,Av 0,Av 0,AoU s.2.2.2])),(8192,dV 0 2 114 (.agg [.sl (s.1.map eU8),Av s.2.1]))]) (j:=λs=>QY f c d s.1 s.2.1 s.2.2.1 s.2.2.2) ?_ ?_
   ·refine Ab 3 λaj bs=>?_
    refine Ac 4 ?_ ?_
    ·refine Ab 2 λad bt=>?_
     refine A 4 ?_;exact xC (s:=(ad.2.list,ad.2.at_,24,ad.1)) (_,_,_,_) hX
    ·refine A 1 ?_;exact xC (s:=(aj.2.list,aj.2.at_,23,0)) (_,_,_,_) hX
   ·rintro⟨ak,ao,ae,af⟩ ⟨bu,bv,bw,bx⟩ nn
    try dsimp only
    unfold QY;refine A 4 ?_;refine bS ([(Lo.mk ae 0 0 0 af)]:List Lo) NX r r r (by simp) r r r<|cK λhq=>aP (f) (([(Lo.mk ae 0 0 0 af)]:List Lo)) NX r r r r r r r (by simp) (AbE _ _ r) r r (by simp) (Xs _ _ r) (λ_=>r) r hq<|?_
    refine A 10 ?_;refine lP (E:=λ(s:(List Int)×Int×(List Lo)×Int) (g:Nat×Nat×Nat)=>[(0,.optr 8192 0 0 0),(8,.optr 8 g.1 0 0),(9,.optr 9 g.2.1 0 0),(10,.osl 10 g.2.2 0 s.2.2.1.length),(14,Av s.2.2.2)]) (O:=λs g=>[(8,dV g.1 3 36 (.agg [Av 0,.nils,.nils])),(9,dV g.2.1 3 36 (.agg [Av c,.sl (d.map Ox),.nils])),(10,dW g.2.2 5 90 (s.2.2.1.map NX)),(8192,dV 0 2 114 (.agg [.sl (s.1.map eU8),Av s.2.1]))]) (body:=λs=>Ur c d s.1 s.2.1 s.2.2.1 s.2.2.2) (s:=(ak,ao,f++([(Lo.mk ae 0 0 0 af)]:List Lo),0)) (_,_,_) hX<|?_
    rintro⟨ap,aq,a,i⟩ ⟨bz,ca,cb⟩ nn
    try dsimp only
    unfold Ur;refine Ac 9 ?_ ?_
    ·refine Ab 8 λe cc=>?_
     refine A 6 ?_;refine sC (E:=λ(s:Int) (g:Nat×Nat×Nat)=>[(0,.optr 8192 0 0 0),(8,.optr 8 g.1 0 0),(9,.optr 9 g.2.1 0 0),(10,.osl 10 g.2.2 0 a.length),(14,Av i),(15,Av s)]) (O:=λ_ g=>[(8,dV g.1 3 36 (.agg [Av 0,.nils,.nils])),(9,dV g.2.1 3 36 (.agg [Av c,.sl (d.map Ox),.nils])),(10,dW g.2.2 5 90 (a.map NX)),(8192,dV 0 2 114 (.agg [.sl (e.2.list.map eU8),Av e.2.at_]))]) (j:=λs=>PO i a e s) ?_ ?_
     ·refine A 5 ?_;refine NS r ?_ ?_
      ·refine A 14 ?_;exact xC (s:=i64.wrap ((a.length:Int)-1)) (_,_,_) hX
      ·refine Ac 7 ?_ ?_
       ·refine A 6 ?_;exact xC (s:=i64.wrap ((a.length:Int)-1)) (_,_,_) hX
       ·refine A 1 ?_;exact xC (s:=i64.wrap ((i64.wrap (i+e.1))-2)) (_,_,_) hX
     ·rintro x ⟨cd,ce,cf⟩ nn
      try dsimp only
      unfold PO;refine A 1 ?_;refine sC (E:=λ(s:Bool) (g:Nat×Nat×Nat)=>[(0,.optr 8192 0 0 0),(8,.optr 8 g.1 0 0),(9,.optr 9 g.2.1 0 0),(10,.osl 10 g.2.2 0 a.length),(14,Av i),(15,Av x),(107,.bool s)]) (O:=λ_ g=>[(8,dV g.1 3 36 (.agg [Av 0,.nils,.nils])),(9,dV g.2.1 3 36 (.agg [Av c,.sl (d.map Ox),.nils])),(10,dW g.2.2 5 90 (a.map NX)),(8192,dV 0 2 114 (.agg [.sl (e.2.list.map eU8),Av e.2.at_]))]) (j:=λs=>Sn i a e x s) ?_ ?_
      ·refine Ab 5 λcg ch=>?_
       refine A 3 ?_;refine NS r ?_ ?_
       ·refine Ab 4 λar ci=>?_
        refine A 5 ?_;exact xC (s:=(decide (ar.A<0))) (_,_,_) hX
       ·refine A 9 ?_;exact xC (s:=false) (_,_,_) hX
      ·rintro cj ⟨ck,cl,cm⟩ nn
       try dsimp only
       unfold Sn;refine cD r ?_ ?_
       ·refine A 6 ?_;refine bD λz au=>sE (l:=a) (en:=NX) (q':=(Lo.mk z.Op x z.B z.C z.Imm)) r r r r r r r (by simp) au r r r r r<|?_
        exact B
       ·refine Ab 6 λcn co=>?_
        refine A 3 ?_;refine NS r ?_ ?_
        ·refine Ab 4 λcp cq=>?_
         refine Ac 6 ?_ ?_
         ·refine A 6 ?_;refine bD λaa av=>sE (l:=a) (en:=NX) (q':=(Lo.mk aa.Op aa.A x aa.C aa.Imm)) r r r r r r r (by simp) av r r r r r<|?_
          exact B
         ·refine A 9 ?_;exact xL (s:=(e.2.list,e.2.at_,a,i64.wrap (i+1))) (_,_,_) hX
        ·refine A 20 ?_;exact xL (s:=(e.2.list,e.2.at_,a,i64.wrap (i+1))) (_,_,_) hX
    ·refine A 19 ?_;refine UX (b:=((Mk.mk c d a),(BR.mk ap aq))) r ?_ r r ?_ (by first|rfl|(simp only[NH];rfl)|(simp only[NK];rfl)|(simp only[NH,NK];rfl)|(simp[AfC,NM];try rfl))
     all_goals first|(simp;done)|(simp;omega)|rfl|(simp[OJ,OG];done)|(simp[cells];done)

def Yy (a:BR×Int×Int):List D:=[Ow a.1,Av a.2.1,Av a.2.2]
def Yx (ds:List D):BR×Int×Int:=(RM (ds.getD 0 .top),uI (ds.getD 1 .top),uI (ds.getD 2 .top))
instance:Oc Yy Yx:=⟨λa=>by simp[Yx,Yy,uI]⟩
def Agg (b:NG×BR):D:=Ps b.1
def AnN (b:NG×BR):List D:=[Ow b.2]
def Agh:Dw.Spec:=NI [(0,(2,114))] .val Yy Yx (λa=>XH a.1 a.2.1 a.2.2) Agg AnN
theorem AmF:ND Tryz.prog 30 Agh:=by
 refine fn2 3 (NJ (l:=[(22,OL),(73,AfD)]) (by simp[OM,Amj])) Tryz.func30<|?_
 rintro⟨i,j,a⟩;unfold XH;refine Ab 16 λc k=>?_
 refine A 5 ?_;refine lP (E:=λ(s:(List Int)×Int×(List Int)×Int) (g:Nat×Nat)=>[(0,.optr 8192 0 0 0),(2,Av a),(6,.optr 6 g.1 0 0),(7,.osl 7 g.2 0 s.2.2.1.length),(8,Av s.2.2.2)]) (O:=λs g=>[(6,dV g.1 1 28 (.agg [.nils])),(7,dW g.2 1 3 (s.2.2.1.map NA)),(8192,dV 0 2 114 (.agg [.sl (s.1.map eU8),Av s.2.1]))]) (body:=λs=>Zk a s.1 s.2.1 s.2.2.1 s.2.2.2) (s:=(c.2.list,c.2.at_,([0]:List Int),c.1)) (_,_) hX<|?_
 rintro⟨c5,e,b,f⟩ ⟨m,o⟩ nn
 try dsimp only
 unfold Zk;refine Ac 7 ?_ ?_
 ·refine Ab 7 λd p=>?_
  refine A 12 ?_;exact xL (s:=(d.2.list,d.2.at_,b++([d.1]:List Int),i64.wrap (f-1))) (_,_) hX
 ·refine A 17 ?_;refine lP (E:=λ(s:(List Int)×Int×(List Mk)×Int×(List Int)) (g:Nat×Nat)=>[(0,.optr 8192 0 0 0),(2,Av a),(6,.optr 6 g.1 0 0),(7,.sl (s.2.2.2.2.map NA)),(9,.optr 9 g.2 0 0),(10,Av s.2.2.2.1)]) (O:=λs g=>[(6,dV g.1 1 28 (.agg [.nils])),(9,dV g.2 1 28 (.agg [.sl (s.2.2.1.map NM)])),(8192,dV 0 2 114 (.agg [.sl (s.1.map eU8),Av s.2.1]))]) (body:=λs=>UN a s.1 s.2.1 s.2.2.1 s.2.2.2.1 s.2.2.2.2) (s:=(c5,e,[],0,b)) (_,_) ((YB [(7,some (_,⟨true,false,1,3,b.map NA⟩))] ⟨⟨_,_,r,r,r⟩,trivial⟩ ⟨(On r),(On r),(On r),(AfA (XC (l:=b) (en:=NA) r r r (by first|(simp;done)|rfl|(simp;rfl)))),(On r),(On r),trivial⟩ ⟨(.inl r),(.inr ⟨_,_,_,_,r,r,r,r,Wo r ⟨(VT NM r),trivial⟩⟩),(.inl r),trivial⟩))<|?_
  rintro⟨q,t,u,v,x⟩ ⟨z,aa⟩ nn
  try dsimp only
  unfold UN;refine Ac 9 ?_ ?_
  ·refine Ab 13 λh ab=>?_
   refine A 1 ?_;refine bS ([h.1]:List Mk) NM r r r (by simp) r r r<|?_
   refine A 16 ?_;exact wf [11] λ_=>B
  ·exact B

def Afd (a:(List Lo)):List D:=[.sl (a.map NX)]
def Afc (ds:List D):(List Lo):=(uL QO) (ds.getD 0 .top)
instance:Oc Afd Afc:=⟨λa=>by simp[Afc,Afd,Oy (u:=QO) (en:=NX) AaA]⟩
def AmJ:Dw.Spec:=NI [] (.row 5 90) Afd Afc (λa=>Agi a) Anq noE
theorem ArK:ND Tryz.prog 85 AmJ:=by
 refine fn2 1 (NZ) Tryz.func85<|?_;intro d;unfold Agi;refine A 19 ?_;refine lP (E:=λ(s:(List Lo)×Int) (g:Nat)=>[(3,.osl 3 g 0 s.1.length),(4,Av s.2)]) (O:=λs g=>[(3,dW g 5 90 (s.1.map NX))]) (body:=λs=>Agj s.1 s.2) (s:=(([]:List Lo)++d,0)) _ hX<|?_
 rintro⟨c,e⟩ k nn
 try dsimp only
 unfold Agj;refine Ac 9 ?_ ?_
 ·refine Ab 10 λm o=>?_
  refine Ac 10 ?_ ?_
  ·refine Ab 5 λf p=>?_
   refine A 4 ?_;refine bD λa h=>sE (l:=c) (en:=NX) (q':=(Lo.mk a.Op (i64.wrap (f.A+1)) a.B a.C a.Imm)) r r r r r r r (by simp) h r r r r r<|?_
   exact B
  ·refine Ac 6 ?_ ?_
   ·refine Ab 5 λi q=>?_
    refine A 4 ?_;refine bD λb j=>sE (l:=c) (en:=NX) (q':=(Lo.mk b.Op b.A (i64.wrap (i.B+1)) b.C b.Imm)) r r r r r r r (by simp) j r r r r r<|?_
    exact B
   ·refine A 9 ?_;exact xL (s:=(c,i64.wrap (e+1))) _ hX
 ·exact B

def AlQ:Dw.Spec:=NI [] .val Vs Vr (λa=>AeS a.1 a.2.1 a.2.2) Ye noE
theorem Arv:ND Tryz.prog 84 AlQ:=by
 refine fn2 3 (NZ) Tryz.func84<|?_;rintro⟨a,d,c⟩;unfold AeS;refine A 11 ?_;refine cK λhq=>aP (([]:List Mk)) (a.Funcs) NM r r r r r r r (by simp) r r r (by simp) r (λ_=>r) r hq<|?_
 refine A 8 ?_;refine cK λhq=>iO (l:=([]:List Mk)++a.Funcs) (en:=NM) r r r r r hq<|bD λf e=>sE (l:=([]:List Mk)++a.Funcs) (en:=NM) (q':=c) r r r r r r r (by simp) e r r r r r<|?_
 refine A 10 ?_;refine UX (b:=(NG.mk ((([]:List Mk)++a.Funcs).set d.toNat c))) r ?_ r r ?_ (by first|rfl|(simp only;rfl)|(simp only;rfl)|(simp only;rfl)|(simp[Ye,Ps];try rfl))
 all_goals first|(simp;done)|(simp;omega)|rfl|(simp[OJ,OG];done)|(simp[cells];done)

def Acs:Dw.Spec:=NI [] .val Vs Vr (λa=>Yh a.1 a.2.1 a.2.2) Ye noE
theorem AeX:ND Tryz.prog 35 Acs:=by
 refine fn2 3 (NJ (l:=[(84,AlQ)]) (by simp[Arv])) Tryz.func35<|?_
 intro a;unfold Yh;exact B

def UL (a:BR×NG):List D:=[Ow a.1,Ps a.2]
def UK (ds:List D):BR×NG:=(RM (ds.getD 0 .top),Rn (ds.getD 1 .top))
instance:Oc UL UK:=⟨λa=>by simp[UK,UL]⟩
def AoE (b:NG×BR):List D:=[Ow b.2]
def Ahl:Dw.Spec:=NI [(0,(2,114))] .val UL UK (λa=>YN a.1 a.2) Agg AoE
theorem AnL:ND Tryz.prog 36 Ahl:=by
 refine fn2 2 (NJ (l:=[(22,OL),(85,AmJ),(35,Acs)]) (by simp[OM,ArK,AeX])) Tryz.func36<|?_
 rintro⟨b,c⟩;unfold YN;refine Ab 12 λd e=>?_
 refine Ab 9 λf g=>?_
 refine Ab 12 λa h=>?_
 refine A 2 ?_;refine bS ([(Lo.mk 22 a.1 0 0 0)]:List Lo) NX r r r (by simp) r r r<|?_
 exact B

def AkQ:Dw.Spec:=NI [] (.row 1 3) AeG AeF (λa=>AcU a.1 a.2) OC noE
theorem Aom:ND Tryz.prog 248 AkQ:=by
 refine fn2 2 (NZ) Tryz.func248<|?_;rintro⟨c,b⟩;unfold AcU;refine A 6 ?_;refine sC (E:=λ(_s:Unit) (g:Nat)=>[(1,Av b),(2,.optr 2 g 0 0)]) (O:=λ_ g=>[(2,dV g 3 36 (NM c))]) (j:=λ_=>AeO c b) ?_ ?_
 ·refine A 5 ?_;refine NS r ?_ ?_
  ·exact B
  ·refine Ac 8 ?_ ?_
   ·exact B
   ·refine A 1 ?_;exact xC (s:=()) _ hX
 ·rintro⟨⟩ d nn
  try dsimp only
  unfold AeO;refine Ab 5 λa e=>?_
  refine Ac 20 ?_ ?_
  ·exact B
  ·refine sC (E:=λ(s:Bool) (g:Nat)=>[(1,Av b),(5,.optr 5 g 0 0),(21,Av a.Op),(27,.bool s)]) (O:=λ_ g=>[(5,dV g 5 90 (NX a))]) (j:=λs=>RL a b s) ?_ ?_
   ·refine Ac 6 ?_ ?_
    ·refine A 1 ?_;exact xC (s:=(a.Op==23)) _ hX
    ·refine A 4 ?_;exact xC (s:=(a.Op==24)) _ hX
   ·rintro f h nn
    try dsimp only
    unfold RL;refine cD r ?_ ?_
    ·exact B
    ·refine Ac 6 ?_ ?_
     ·refine Ac 11 ?_ ?_
      ·refine A 6 ?_;refine bS ([a.B,i64.wrap (b+1)]:List Int) NA r r r (by simp) r r r<|?_
       exact B
      ·refine Ac 10 ?_ ?_
       ·refine A 6 ?_;refine bS ([i64.wrap (b+1),a.B]:List Int) NA r r r (by simp) r r r<|?_
        exact B
       ·exact B
     ·exact B

def AdG:Dw.Spec:=NI [] .ground PR PQ (λa=>Sf a) NW noE
theorem Ajd:ND Tryz.prog 141 AdG:=by
 refine fn2 1 (NZ) Tryz.func141<|?_;intro a;unfold Sf;exact B

def Tq:Dw.Spec:=NI [] .ground PR PQ (λa=>QN a) TT noE
theorem Ub:ND Tryz.prog 143 Tq:=by
 refine fn2 1 (NJ (l:=[(141,AdG)]) (by simp[Ajd])) Tryz.func143<|?_
 intro a;unfold QN;exact B

def AhR:Dw.Spec:=NI [] (.row 1 3) QC QB (λa=>Zw a.1 a.2) OC noE
theorem AlL:ND Tryz.prog 206 AhR:=by
 refine fn2 2 (NZ) Tryz.func206<|?_;rintro⟨a,b⟩;unfold Zw;refine A 17 ?_;refine lP (E:=λ(s:(List Int)×Int) (g:Nat)=>[(0,.sl (a.map NA)),(1,Av b),(5,.osl 5 g 0 s.1.length),(6,Av s.2)]) (O:=λs g=>[(5,dW g 1 3 (s.1.map NA))]) (body:=λs=>Tp a b s.1 s.2) (s:=(([]:List Int),0)) _ hX<|?_
 rintro⟨c,d⟩ f nn
 try dsimp only
 unfold Tp;refine Ac 9 ?_ ?_
 ·refine Ab 8 λh i=>?_
  refine Ac 6 ?_ ?_
  ·refine Ab 4 λe j=>?_
   refine A 13 ?_;exact xL (s:=(c++([e]:List Int),i64.wrap (d+1))) _ hX
  ·refine A 8 ?_;exact xL (s:=(c,i64.wrap (d+1))) _ hX
 ·exact B

def AkS:Dw.Spec:=NI [] (.row 1 3) PR PQ (λa=>VO a) OC noE
theorem Aon:ND Tryz.prog 142 AkS:=by
 refine fn2 1 (NZ) Tryz.func142<|?_;intro a;unfold VO;exact B

def AkN:Dw.Spec:=NI [] .ground Pq Pp (λa=>Yg a) NW noE
theorem Aol:ND Tryz.prog 125 AkN:=by
 refine fn2 1 (NZ) Tryz.func125<|?_;intro a;unfold Yg;exact B

def Aer:Dw.Spec:=NI [] (.row 1 3) QC QB (λa=>UE a.1 a.2) OC noE
theorem AgA:ND Tryz.prog 67 Aer:=by
 refine fn2 2 (NJ (l:=[(125,AkN)]) (by simp[Aol])) Tryz.func67<|?_
 rintro⟨b,a⟩;unfold UE;refine Ab 13 λf o=>?_
 refine A 12 ?_;refine lP (E:=λ(s:(List Int)×Bool×Int) (g:Nat)=>[(0,.sl (b.map NA)),(1,Av a),(5,.osl 5 g 0 s.1.length),(6,.bool s.2.1),(7,Av s.2.2)]) (O:=λs g=>[(5,dW g 1 3 (s.1.map NA))]) (body:=λs=>RE b a s.1 s.2.1 s.2.2) (s:=(([]:List Int),(!f),0)) _ hX<|?_
 rintro⟨c,e,d⟩ p nn
 try dsimp only
 unfold RE;refine Ac 9 ?_ ?_
 ·refine A 4 ?_;refine sC (E:=λ(s:(List Int)×Bool) (g:Nat)=>[(0,.sl (b.map NA)),(1,Av a),(5,.osl 5 g 0 s.1.length),(6,.bool s.2),(7,Av d)]) (O:=λs g=>[(5,dW g 1 3 (s.1.map NA))]) (j:=λs=>Tn b d s.1 s.2) ?_ ?_
  ·refine sC (E:=λ(s:Bool) (g:Nat)=>[(0,.sl (b.map NA)),(1,Av a),(5,.osl 5 g 0 c.length),(6,.bool e),(7,Av d),(26,.bool s)]) (O:=λ_ g=>[(5,dW g 1 3 (c.map NA))]) (j:=λs=>UF b d a c e s) ?_ ?_
   ·refine A 4 ?_;refine NS r ?_ ?_
    ·refine Ab 2 λh q=>?_
     refine A 6 ?_;exact xC (s:=(decide (h>=a))) _ hX
    ·refine A 8 ?_;exact xC (s:=false) _ hX
   ·rintro t u nn
    try dsimp only
    unfold UF;refine cD r ?_ ?_
    ·refine Ab 5 λv x=>?_
     refine Ac 6 ?_ ?_
     ·refine A 11 ?_;exact xC (s:=(c++([a]:List Int),true)) _ hX
     ·refine A 5 ?_;exact xC (s:=(c,true)) _ hX
    ·refine A 1 ?_;exact xC (s:=(c,e)) _ hX
  ·rintro⟨i,k⟩ z nn
   try dsimp only
   unfold Tn;refine Ab 4 λm aa=>?_
   refine A 13 ?_;exact xL (s:=(i++([m]:List Int),k,i64.wrap (d+1))) _ hX
 ·exact B

def AaJ:Dw.Spec:=NI [] (.row 1 3) Re Rc (λa=>Uv a.1 a.2) OC noE
theorem AcS:ND Tryz.prog 124 AaJ:=by
 refine fn2 2 (NJ (l:=[(67,Aer)]) (by simp[AgA])) Tryz.func124<|?_
 rintro⟨b,a⟩;unfold Uv;refine A 19 ?_;refine lP (E:=λ(s:(List Int)×Int) (g:Nat)=>[(1,.sl (a.map NA)),(5,.osl 5 g 0 s.1.length),(6,Av s.2)]) (O:=λs g=>[(5,dW g 1 3 (s.1.map NA))]) (body:=λs=>Wf a s.1 s.2) (s:=(([]:List Int)++b,0)) _ hX<|?_
 rintro⟨e,c⟩ f nn
 try dsimp only
 unfold Wf;refine Ac 9 ?_ ?_
 ·refine Ab 8 λh i=>?_
  refine Ab 2 λd j=>?_
  refine A 10 ?_;exact xL (s:=(d,i64.wrap (c+1))) _ hX
 ·exact B

def AnU:Dw.Spec:=NI [] (.row 1 3) Xh Xg (λa=>AhT a.1 a.2) OC noE
theorem AqT:ND Tryz.prog 249 AnU:=by
 refine fn2 2 (NJ (l:=[(143,Tq),(206,AhR),(142,AkS),(124,AaJ)]) (by simp[Ub,AlL,Aon,AcS])) Tryz.func249<|?_
 intro a;unfold AhT;exact B

def AkT (b:NT):D:=QP b
def ApN:Dw.Spec:=NI [] .val Pg Pf (λa=>AgE a.1 a.2) AkT noE
theorem AtC:ND Tryz.prog 195 ApN:=by
 refine fn2 2 (NJ (l:=[(248,AkQ),(249,AnU),(124,AaJ)]) (by simp[Aom,AqT,AcS])) Tryz.func195<|?_
 rintro⟨a,c⟩;unfold AgE;refine A 12 ?_;refine cK λhq=>Amr (α:=Int) r r r hq r<|?_
 refine A 4 ?_;refine Qf (E:=[(2,.optr 2 _ 0 0),(3,.optr 3 _ 0 0),(4,.optr 4 _ 0 0),(5,.optr 5 _ 0 0)]) (O:=[(2,dV _ 3 36 (NM a)),(3,dV _ 1 45 (.agg [.sl (c.Out.map (eL NA))])),(4,dV _ 1 45 (.agg [.nils])),(5,dV _ 1 45 (.agg [.osl 13 _ 0 ((aA (a.Code.length:Int).toNat ([]:(List Int))).length)])),(13,dW _ 1 37 ((aA (a.Code.length:Int).toNat ([]:(List Int))).map (eL NA)))]) ((Aps (g:=13) r (Arn (l:=aA (a.Code.length:Int).toNat ([]:(List Int))) NA (λ_ h=>List.eq_of_mem_replicate h)) hX)) λnn=>?_
 refine A 7 ?_;refine lP (E:=λ(s:(List (List Int))×Int) (g:Nat×Nat×Nat×Nat×Nat)=>[(2,.optr 2 g.1 0 0),(3,.optr 3 g.2.1 0 0),(4,.optr 4 g.2.2.1 0 0),(5,.optr 5 g.2.2.2.1 0 0),(6,Av s.2)]) (O:=λs g=>[(2,dV g.1 3 36 (NM a)),(3,dV g.2.1 1 45 (.agg [.sl (c.Out.map (eL NA))])),(4,dV g.2.2.1 1 45 (.agg [.nils])),(5,dV g.2.2.2.1 1 45 (.agg [.osl 13 g.2.2.2.2 0 s.1.length])),(13,dW g.2.2.2.2 1 37 (s.1.map (eL NA)))]) (body:=λs=>Xk a c s.1 s.2) (s:=(aA (a.Code.length:Int).toNat ([]:(List Int)),0)) (_,_,_,_,_) hX<|?_
 rintro⟨i,d⟩ ⟨q,t,u,v,x⟩ nn
 try dsimp only
 unfold Xk;refine Ac 10 ?_ ?_
 ·refine A 2 ?_;refine bC (E:=λ(_s:(List (List Int))) (g:Nat×Nat×Nat×Nat×Nat)=>[(2,.optr 2 g.1 0 0),(3,.optr 3 g.2.1 0 0),(4,.optr 4 g.2.2.1 0 0),(5,.optr 5 g.2.2.2.1 0 0),(6,Av d)]) (O:=λs g=>[(2,dV g.1 3 36 (NM a)),(3,dV g.2.1 1 45 (.agg [.sl (c.Out.map (eL NA))])),(4,dV g.2.2.1 1 45 (.agg [.nils])),(5,dV g.2.2.2.1 1 45 (.agg [.osl 13 g.2.2.2.2 0 s.length])),(13,dW g.2.2.2.2 1 37 (s.map (eL NA)))]) (j:=λs=>AeP d s) ?_ ?_
  ·refine Ab 4 λf z=>?_
   refine A 10 ?_;refine lP (E:=λ(s:(List (List Int))×Int) (g:Nat×Nat×Nat×Nat×Nat×Nat)=>[(2,.optr 2 g.1 0 0),(3,.optr 3 g.2.1 0 0),(4,.optr 4 g.2.2.1 0 0),(5,.optr 5 g.2.2.2.1 0 0),(6,Av d),(7,.osl 7 g.2.2.2.2.1 0 f.length),(8,Av s.2)]) (O:=λs g=>[(2,dV g.1 3 36 (NM a)),(3,dV g.2.1 1 45 (.agg [.sl (c.Out.map (eL NA))])),(4,dV g.2.2.1 1 45 (.agg [.nils])),(5,dV g.2.2.2.1 1 45 (.agg [.osl 13 g.2.2.2.2.2 0 s.1.length])),(7,dW g.2.2.2.2.1 1 3 (f.map NA)),(13,dW g.2.2.2.2.2 1 37 (s.1.map (eL NA)))]) (body:=λs=>Xl f d a c s.1 s.2) (s:=(i,0)) (_,_,_,_,_,_) hX<|?_
   rintro⟨e,m⟩ ⟨aa,ab,ac,ad,ae,af⟩ nn
   try dsimp only
   unfold Xl;refine Ac 9 ?_ ?_
   ·refine Ab 9 λag ah=>?_
    refine Ab 12 λai aj=>?_
    refine Ab 4 λak ao=>?_
    refine Ab 5 λap aq=>?_
    refine Ab 2 λar au=>?_
    refine Ab 1 λk av=>?_
    refine A 2 ?_;refine bD λaw o=>sE (l:=e) (en:=(eL NA)) (q':=k) r r r r r r r (by simp) o r r r (by simp[Pv,cells,eL]) r<|?_
    refine A 8 ?_;exact xL (s:=(e.set d.toNat k,i64.wrap (m+1))) (_,_,_,_,_,_) ((hE ⟨rfl,r,r,r,r,r,r,trivial⟩ ⟨rfl,r,r,(Eq.trans (b:=dV _ 1 45 (.agg [.osl 13 _ 0 e.length])) r (by simp)),r,r,trivial⟩))
   ·refine A 4 ?_;exact Oj (s:=e) (_,_,_,_,_) hX
  ·rintro p ⟨ax,ay,az,ba,bb⟩ nn
   try dsimp only
   unfold AeP;refine A 5 ?_;exact xL (s:=(p,i64.wrap (d+1))) (_,_,_,_,_) hX
 ·refine A 12 ?_;refine UX (b:=(NT.mk i)) r ?_ r r ?_ (by first|rfl|(simp only[NH];rfl)|(simp only[NK];rfl)|(simp only[NH,NK];rfl)|(simp[AkT,QP];try rfl))
  all_goals first|(simp;done)|(simp;omega)|rfl|(simp[OJ,OG];done)|(simp[cells];done)

def ApL:Dw.Spec:=NI [] .ground Re Rc (λa=>AgB a.1 a.2) NW noE
theorem AtA:ND Tryz.prog 63 ApL:=by
 refine fn2 2 (NZ) Tryz.func63<|?_;rintro⟨a,b⟩;unfold AgB;refine Ac 15 ?_ ?_
 ·exact B
 ·refine A 9 ?_;refine lP (E:=λ(s:Int) (_g:Unit)=>[(0,.sl (a.map NA)),(1,.sl (b.map NA)),(5,Av s)]) (O:=λ_ _=>[]) (body:=λs=>Vg a b s) (s:=0) () hX<|?_
  rintro c ⟨⟩ nn
  try dsimp only
  unfold Vg;refine Ac 9 ?_ ?_
  ·refine Ab 8 λd e=>?_
   refine Ab 4 λf g=>?_
   refine Ac 5 ?_ ?_
   ·exact B
   ·refine A 8 ?_;exact xL (s:=i64.wrap (c+1)) () hX
  ·exact B

end
end Go.Proofs.YtcaoepecbgggcaaGreatDoor
