/-
 The code does what its typed programs say.
-/
import Derived.Test.YtcaoepecbgggcaaGreatDoorProg
import Derived.Test.YtcaoepecbgggcaaGreatDoorDc
import Derived.KernelRfl
import Derived.Test.YtcaoepecbgggcaaGreatDoorSh
import Derived.Test.YtcaoepecbgggcaaGreatDoorDxP
import Derived.Test.YtcaoepecbgggcaaGreatDoorDxF1
import Derived.Test.YtcaoepecbgggcaaGreatDoorDxF2
import Derived.Test.YtcaoepecbgggcaaGreatDoorDxF3
import Derived.Test.YtcaoepecbgggcaaGreatDoorDxF6
import Derived.Test.YtcaoepecbgggcaaGreatDoorDxF7
import Derived.Test.YtcaoepecbgggcaaGreatDoorDxF8
namespace Go.Proofs.YtcaoepecbgggcaaGreatDoor
open Go Go.Dw Go.Proofs
open Go.IntKind (i64)
set_option maxRecDepth 100000
set_option maxHeartbeats 40000000
open Go.Dw renaming Ql -> bD,Qo -> cK,YI -> bS,Aqd -> aP,UZ -> cD,Xt -> xC,Ui -> xL,Xu -> lP,Tt -> sC,Wh -> bC,rf -> r
noncomputable section
def AdM (a:NO×(List Int)):List D:=[Xf a.1,.sl (a.2.map NA)]
def AdL (ds:List D):NO×(List Int):=(Adm (ds.getD 0 .top),(uL uI) (ds.getD 1 .top))
instance:Oc AdM AdL:=⟨λa=>by simp[AdL,AdM,Oy (u:=uI) (en:=NA) (λ_=>rfl)]⟩
def AlR:Dw.Spec:=NI [] (.row 1 3) AdM AdL (λa=>AaM a.1 a.2) OC noE
theorem Arw:ND Tryz.prog 79 AlR:=by
 refine fn2 2 (NZ) Tryz.func79<|?_;rintro⟨a,b⟩;unfold AaM;refine A 18 ?_;refine lP (E:=λ(s:(List Int)×Int) (g:Nat×Nat)=>[(1,.sl (b.map NA)),(2,.optr 2 g.1 0 0),(5,.osl 5 g.2 0 s.1.length),(6,Av s.2)]) (O:=λs g=>[(2,dV g.1 2 48 (.agg [.sl (a.To.map NA),.sl (a.Keep.map D.bool)])),(5,dW g.2 1 3 (s.1.map NA))]) (body:=λs=>Afk a b s.1 s.2) (s:=(([]:List Int),0)) (_,_) hX<|?_
 rintro⟨d,c⟩ ⟨i,k⟩ nn
 try dsimp only
 unfold Afk;refine Ac 10 ?_ ?_
 ·refine A 2 ?_;refine bC (E:=λ(s:(List Int)) (g:Nat×Nat)=>[(1,.sl (b.map NA)),(2,.optr 2 g.1 0 0),(5,.osl 5 g.2 0 s.length),(6,Av c)]) (O:=λs g=>[(2,dV g.1 2 48 (.agg [.sl (a.To.map NA),.sl (a.Keep.map D.bool)])),(5,dW g.2 1 3 (s.map NA))]) (j:=λs=>Aaq c s) ?_ ?_
  ·refine A 12 ?_;refine lP (E:=λ(s:Int×Int) (g:Nat×Nat)=>[(1,.sl (b.map NA)),(2,.optr 2 g.1 0 0),(5,.osl 5 g.2 0 d.length),(6,Av c),(7,Av s.1),(8,Av s.2)]) (O:=λ_ g=>[(2,dV g.1 2 48 (.agg [.sl (a.To.map NA),.sl (a.Keep.map D.bool)])),(5,dW g.2 1 3 (d.map NA))]) (body:=λs=>Afl b a c d s.1 s.2) (s:=(0,0)) (_,_) hX<|?_
   rintro⟨f,e⟩ ⟨l,m⟩ nn
   try dsimp only
   unfold Afl;refine Ac 9 ?_ ?_
   ·refine Ab 8 λo p=>?_
    refine Ab 5 λq r=>?_
    refine Ac 5 ?_ ?_
    ·refine A 11 ?_;exact xL (s:=(e,i64.wrap (e+1))) (_,_) hX
    ·refine A 8 ?_;exact xL (s:=(f,i64.wrap (e+1))) (_,_) hX
   ·refine A 12 ?_;exact Oj (s:=d++([f]:List Int)) (_,_) hX
  ·rintro h ⟨t,u⟩ nn
   try dsimp only
   unfold Aaq;refine A 5 ?_;exact xL (s:=(h,i64.wrap (c+1))) (_,_) hX
 ·exact B

def Anj:Dw.Spec:=NI [] (.row 1 3) Yk Yj (λa=>AgO a) OC noE
theorem ArZ:ND Tryz.prog 80 Anj:=by
 refine fn2 1 (NZ) Tryz.func80<|?_;intro b;unfold AgO;refine A 23 ?_;refine lP (E:=λ(s:(List Int)×Int×Int) (g:Nat×Nat)=>[(1,.optr 1 g.1 0 0),(3,.osl 3 g.2 0 s.1.length),(4,Av s.2.1),(5,Av s.2.2)]) (O:=λs g=>[(1,dV g.1 2 48 (.agg [.sl (b.To.map NA),.sl (b.Keep.map D.bool)])),(3,dW g.2 1 3 (s.1.map NA))]) (body:=λs=>AgP b s.1 s.2.1 s.2.2) (s:=(([]:List Int),0,0)) (_,_) hX<|?_
 rintro⟨c,a,d⟩ ⟨e,f⟩ nn
 try dsimp only
 unfold AgP;refine Ac 10 ?_ ?_
 ·refine Ab 18 λh i=>?_
  refine Ac 4 ?_ ?_
  ·refine A 12 ?_;exact xL (s:=(c++([a]:List Int),i64.wrap (a+1),i64.wrap (d+1))) (_,_) hX
  ·refine A 8 ?_;exact xL (s:=(c++([a]:List Int),a,i64.wrap (d+1))) (_,_) hX
 ·exact B

def AeQ:Dw.Spec:=NI [] .val Ri Rh (λa=>Qe a.1 a.2) Yi noE
theorem Aij:ND Tryz.prog 33 AeQ:=by
 refine fn2 2 (NJ (l:=[(76,AeR),(77,ApQ),(78,AgJ),(79,AlR),(80,Anj),(81,AgC)]) (by simp[Aik,AtG,AkV,Arw,ArZ,AkR])) Tryz.func33<|?_
 rintro⟨a,c⟩;unfold Qe;refine Ab 13 λu ad=>?_
 refine Ac 10 ?_ ?_
 ·refine A 10 ?_;refine Pd (b:=((Mk.mk 0 ([]) ([])),u)) r ?_ r r ?_ (by first|rfl|(simp only[NH];rfl)|(simp only[NK];rfl)|(simp only[NH,NK];rfl)|(simp[Yi,NM];try rfl)) (by decide)
  all_goals first|(simp;done)|(simp;omega)|rfl|(simp[OJ,OG];done)|(simp[cells];done)
 ·refine Ab 6 λe ae=>?_
  refine A 20 ?_;refine lP (E:=λ(s:(List NQ)×Int) (g:Nat×Nat×Nat×Nat×Nat)=>[(2,.optr 2 g.1 0 0),(3,.optr 3 g.2.1 0 0),(4,.optr 4 g.2.2.1 0 0),(7,.osl 7 g.2.2.2.1 0 e.length),(8,.optr 8 g.2.2.2.2 0 0),(9,Av s.2)]) (O:=λs g=>[(2,dV g.1 3 36 (NM a)),(3,dV g.2.1 2 48 (.agg [.sl (c.To.map NA),.sl (c.Keep.map D.bool)])),(4,dV g.2.2.1 3 36 (.agg [Av 0,.nils,.nils])),(7,dW g.2.2.2.1 1 3 (e.map NA)),(8,dV g.2.2.2.2 3 36 (.agg [Av a.Params,.sl (s.1.map Ox),.nils]))]) (body:=λs=>Aii e a c s.1 s.2) (s:=([],0)) (_,_,_,_,_) ((YB [] trivial ⟨(On r),(On r),(On r),(On r),(On r),(On r),trivial⟩ ⟨(.inl r),(.inl r),(.inl r),(.inl r),(.inr ⟨_,_,_,_,r,r,r,r,Wo r ⟨(OA r),(VT Ox r),(OA r),trivial⟩⟩),trivial⟩))<|?_
  rintro⟨f,m⟩ ⟨af,ag,ah,ai,aj⟩ nn
  try dsimp only
  unfold Aii;refine Ac 9 ?_ ?_
  ·refine A 2 ?_;refine bC (E:=λ(_s:(List NQ)) (g:Nat×Nat×Nat×Nat×Nat×Nat)=>[(2,.optr 2 g.1 0 0),(3,.optr 3 g.2.1 0 0),(4,.optr 4 g.2.2.1 0 0),(7,.osl 7 g.2.2.2.1 0 e.length),(8,.optr 8 g.2.2.2.2.1 0 0),(9,Av m)]) (O:=λs g=>[(2,dV g.1 3 36 (NM a)),(3,dV g.2.1 2 48 (.agg [.sl (c.To.map NA),.sl (c.Keep.map D.bool)])),(4,dV g.2.2.1 3 36 (.agg [Av 0,.nils,.nils])),(7,dW g.2.2.2.1 1 3 (e.map NA)),(8,dV g.2.2.2.2.1 3 36 (.agg [Av a.Params,.osl 13 g.2.2.2.2.2 0 s.length,.nils])),(13,dW g.2.2.2.2.2 2 87 (s.map Ox))]) (j:=λs=>ZF m s) ?_ ?_
   ·refine Ab 7 λak ao=>?_
    refine Ab 1 λh ap=>?_
    refine Ab 13 λaq ar=>?_
    refine Ab 1 λo au=>?_
    refine A 11 ?_;refine lP (E:=λ(s:Int×Int) (g:Nat×Nat×Nat×Nat×Nat×Nat×Nat)=>[(2,.optr 2 g.1 0 0),(3,.optr 3 g.2.1 0 0),(4,.optr 4 g.2.2.1 0 0),(7,.osl 7 g.2.2.2.1 0 e.length),(8,.optr 8 g.2.2.2.2.1 0 0),(9,Av m),(10,.optr 10 g.2.2.2.2.2.1 0 0),(11,.osl 11 g.2.2.2.2.2.2 0 o.length),(12,Av s.2)]) (O:=λs g=>[(2,dV g.1 3 36 (NM a)),(3,dV g.2.1 2 48 (.agg [.sl (c.To.map NA),.sl (c.Keep.map D.bool)])),(4,dV g.2.2.1 3 36 (.agg [Av 0,.nils,.nils])),(7,dW g.2.2.2.1 1 3 (e.map NA)),(8,dV g.2.2.2.2.1 3 36 (.agg [Av a.Params,.sl (f.map Ox),.nils])),(10,dV g.2.2.2.2.2.1 2 87 (.agg [Av h.Size,Av s.1])),(11,dW g.2.2.2.2.2.2 1 3 (o.map NA))]) (body:=λs=>ZE o a f h m s.1 s.2) (s:=(h.Align,0)) (_,_,_,_,_,_,_) hX<|?_
    rintro⟨p,v⟩ ⟨av,aw,ax,ay,az,ba,bb⟩ nn
    try dsimp only
    unfold ZE;refine Ac 9 ?_ ?_
    ·refine Ab 12 λbc bd=>?_
     refine Ab 1 λx bf=>?_
     refine A 14 ?_;exact xL (s:=(OX p x.Align,i64.wrap (v+1))) (_,_,_,_,_,_,_) hX
    ·refine A 11 ?_;refine bS ([(NQ.mk h.Size p)]:List NQ) Ox r r r (by simp) r r r<|?_
     refine A 9 ?_;exact Oj (s:=(([]:List NQ)++f)++([(NQ.mk h.Size p)]:List NQ)) (_,_,_,_,_,_) hX
   ·rintro bg ⟨bh,bi,bj,bk,bl,bm⟩ nn
    try dsimp only
    unfold ZF;refine A 5 ?_;exact wf [13] λ_=>B
  ·refine Ab 9 λi bn=>?_
   refine Ab 2 λk bo=>?_
   refine A 12 ?_;refine lP (E:=λ(s:(List Lo)×Int) (g:Nat×Nat×Nat×Nat×Nat×Nat)=>[(2,.optr 2 g.1 0 0),(3,.optr 3 g.2.1 0 0),(4,.optr 4 g.2.2.1 0 0),(8,.optr 8 g.2.2.2.1 0 0),(14,.osl 14 g.2.2.2.2.1 0 i.length),(15,.osl 15 g.2.2.2.2.2 0 k.length),(16,Av s.2)]) (O:=λs g=>[(2,dV g.1 3 36 (NM a)),(3,dV g.2.1 2 48 (.agg [.sl (c.To.map NA),.sl (c.Keep.map D.bool)])),(4,dV g.2.2.1 3 36 (.agg [Av 0,.nils,.nils])),(8,dV g.2.2.2.1 3 36 (.agg [Av a.Params,.sl (f.map Ox),.sl (s.1.map NX)])),(14,dW g.2.2.2.2.1 1 3 (i.map NA)),(15,dW g.2.2.2.2.2 1 3 (k.map NA))]) (body:=λs=>Adb a c i k f s.1 s.2) (s:=([],0)) (_,_,_,_,_,_) ((YB [] trivial ⟨(On r),(On r),(On r),(On r),(On r),(On r),(On r),trivial⟩ ⟨(.inl r),(.inl r),(.inl r),(.inr ⟨_,_,_,_,r,r,r,r,Wo r ⟨(OA r),(OA r),(VT NX r),trivial⟩⟩),(.inl r),(.inl r),trivial⟩))<|?_
   rintro⟨q,t⟩ ⟨bp,bq,br,bs,bt,bu⟩ nn
   try dsimp only
   unfold Adb;refine Ac 10 ?_ ?_
   ·refine Ab 10 λbv bw=>?_
    refine Ac 5 ?_ ?_
    ·refine A 9 ?_;exact xL (s:=(q,i64.wrap (t+1))) (_,_,_,_,_,_) hX
    ·refine Ab 7 λbx bz=>?_
     refine Ab 3 λd ca=>?_
     refine A 5 ?_;refine sC (E:=λ(_s:Int×Int) (g:Nat×Nat×Nat×Nat×Nat×Nat×Nat)=>[(2,.optr 2 g.1 0 0),(3,.optr 3 g.2.1 0 0),(4,.optr 4 g.2.2.1 0 0),(8,.optr 8 g.2.2.2.1 0 0),(14,.osl 14 g.2.2.2.2.1 0 i.length),(15,.osl 15 g.2.2.2.2.2.1 0 k.length),(16,Av t),(17,.optr 17 g.2.2.2.2.2.2 0 0)]) (O:=λs g=>[(2,dV g.1 3 36 (NM a)),(3,dV g.2.1 2 48 (.agg [.sl (c.To.map NA),.sl (c.Keep.map D.bool)])),(4,dV g.2.2.1 3 36 (.agg [Av 0,.nils,.nils])),(8,dV g.2.2.2.1 3 36 (.agg [Av a.Params,.sl (f.map Ox),.sl (q.map NX)])),(14,dW g.2.2.2.2.1 1 3 (i.map NA)),(15,dW g.2.2.2.2.2.1 1 3 (k.map NA)),(17,dV g.2.2.2.2.2.2 5 90 (.agg [Av d.Op,Av s.1,Av s.2,Av d.C,AoU d.Imm]))]) (j:=λs=>Uf q d t s.1 s.2) ?_ ?_
     ·refine Ac 13 ?_ ?_
      ·refine Ab 5 λz cb=>?_
       refine A 5 ?_;exact xC (s:=(z,d.B)) (_,_,_,_,_,_,_) hX
      ·refine Ac 6 ?_ ?_
       ·refine Ab 5 λaa cc=>?_
        refine A 5 ?_;exact xC (s:=(d.A,aa)) (_,_,_,_,_,_,_) hX
       ·refine A 2 ?_;exact xC (s:=(d.A,d.B)) (_,_,_,_,_,_,_) hX
     ·rintro⟨ab,ac⟩ ⟨cd,ce,cf,cg,ch,ci,cj⟩ nn
      try dsimp only
      unfold Uf;refine A 6 ?_;refine bS ([(Lo.mk d.Op ab ac d.C d.Imm)]:List Lo) NX r r r (by simp) r r r<|?_
      refine A 16 ?_;exact wf [18] λ_=>B
   ·exact B

def Anh:Dw.Spec:=NI [] .val Pg Pf (λa=>AkU a.1 a.2) AjB noE
theorem ArY:ND Tryz.prog 137 Anh:=by
 refine fn2 2 (NJ (l:=[(197,AjC)]) (by simp[Ani])) Tryz.func137<|?_
 intro a;unfold AkU;exact B

def Acq:Dw.Spec:=NI [] .ground TA Tz (λa=>Ts a.1 a.2) NC noE
theorem AeU:ND Tryz.prog 82 Acq:=by
 refine fn2 2 (NZ) Tryz.func82<|?_;rintro⟨c,h⟩;unfold Ts;refine Ab 16 λd i=>?_
 refine A 13 ?_;refine lP (E:=λ(s:Int×Int) (g:Nat)=>[(2,.optr 2 g 0 0),(5,Av s.1),(6,.sl (d.Code.map NX)),(7,Av s.2)]) (O:=λ_ g=>[(2,dV g 1 28 (.agg [.sl (c.Funcs.map NM)]))]) (body:=λs=>AjG d c s.1 s.2) (s:=(0,0)) _ hX<|?_
 rintro⟨a,b⟩ j nn
 try dsimp only
 unfold AjG;refine Ac 9 ?_ ?_
 ·refine Ab 8 λk l=>?_
  refine Ac 12 ?_ ?_
  ·refine Ab 4 λe m=>?_
   refine A 15 ?_;exact xL (s:=(OX a (i64.wrap (e.A+1)),i64.wrap (b+1))) _ hX
  ·refine Ac 6 ?_ ?_
   ·refine Ab 6 λo p=>?_
    refine Ab 3 λf q=>?_
    refine A 14 ?_;exact xL (s:=(OX a f.Params,i64.wrap (b+1))) _ hX
   ·refine A 9 ?_;exact xL (s:=(a,i64.wrap (b+1))) _ hX
 ·exact B

def ApJ:Dw.Spec:=NI [] .ground Pq Pp (λa=>VN a) NW noE
theorem Aty:ND Tryz.prog 185 ApJ:=by
 refine fn2 1 (NZ) Tryz.func185<|?_;intro a;unfold VN;exact B

def AeM:Dw.Spec:=NI [] .ground Pq Pp (λa=>RJ a) NW noE
theorem AhN:ND Tryz.prog 68 AeM:=by
 refine fn2 1 (NZ) Tryz.func68<|?_;intro a;unfold RJ;refine A 12 ?_;refine lP (E:=λ(s:Int) (_g:Unit)=>[(0,Av a),(3,Av s)]) (O:=λ_ _=>[]) (body:=λs=>Ra a s) (s:=1) () hX<|?_
 rintro b ⟨⟩ nn
 try dsimp only
 unfold Ra;refine Ac 7 ?_ ?_
 ·refine Ac 11 ?_ ?_
  ·exact B
  ·refine A 8 ?_;exact xL (s:=i64.wrap (b*2)) () hX
 ·exact B

def Ajw:Dw.Spec:=NI [] .ground SA Sz (λa=>YC a) NC noE
theorem Anc:ND Tryz.prog 121 Ajw:=by
 refine fn2 1 (NJ (l:=[(185,ApJ),(68,AeM)]) (by simp[Aty,AhN])) Tryz.func121<|?_
 intro a;unfold YC;refine Ac 13 ?_ ?_
 ·exact B
 ·refine A 9 ?_;refine lP (E:=λ(s:Int) (_g:Unit)=>[(0,.sl (a.map Ox)),(3,Av s)]) (O:=λ_ _=>[]) (body:=λs=>AhO a s) (s:=0) () hX<|?_
  rintro b ⟨⟩ nn
  try dsimp only
  unfold AhO;refine Ac 9 ?_ ?_
  ·refine Ab 8 λc d=>?_
   refine Ab 3 λe f=>?_
   refine A 3 ?_;refine NS r ?_ ?_
   ·exact B
   ·refine Ab 2 λg h=>?_
    refine Ab 3 λi j=>?_
    refine Ac 5 ?_ ?_
    ·exact B
    ·refine A 8 ?_;exact xL (s:=i64.wrap (b+1)) () hX
  ·exact B

def AgG (a:(List (List Int))×Int):List D:=[.sl (a.1.map (eL NA)),Av a.2]
def AgF (ds:List D):(List (List Int))×Int:=((uL (uL uI)) (ds.getD 0 .top),uI (ds.getD 1 .top))
instance:Oc AgG AgF:=⟨λa=>by simp[AgF,AgG,uI,Oy (u:=(uL uI)) (en:=(eL NA)) (Oy (u:=uI) (en:=NA) (λ_=>rfl))]⟩
def Aop:Dw.Spec:=NI [] .ground AgG AgF (λa=>AiE a.1 a.2) NW noE
theorem AsG:ND Tryz.prog 201 Aop:=by
 refine fn2 2 (NJ (l:=[(226,Ajy),(116,YE)]) (by simp[Ane,Zv])) Tryz.func201<|?_
 rintro⟨b,c⟩;unfold AiE;refine Ac 14 ?_ ?_
 ·exact B
 ·refine A 9 ?_;refine lP (E:=λ(s:Int) (_g:Unit)=>[(0,.sl (b.map (eL NA))),(1,Av c),(5,Av s)]) (O:=λ_ _=>[]) (body:=λs=>AhY c b s) (s:=0) () hX<|?_
  rintro a ⟨⟩ nn
  try dsimp only
  unfold AhY;refine Ac 8 ?_ ?_
  ·refine A 2 ?_;refine bC (E:=λ(s:(List Int)×(List Int)×Bool) (_g:Unit)=>[(0,.sl (b.map (eL NA))),(1,Av c),(5,Av a),(24,.sl (b.map (eL NA))),(25,Av a),(26,.fptr (.sl (s.1.map NA)) 0),(27,.sl (s.2.1.map NA)),(28,Av a),(29,.bool s.2.2)]) (O:=λ_ _=>[]) (j:=λs=>AcX a s.1 s.2.1 s.2.2) ?_ ?_
   ·refine sC (E:=λ(s:(List Int)×(List Int)×Bool) (_g:Unit)=>[(0,.sl (b.map (eL NA))),(1,Av c),(5,Av a),(24,.sl (b.map (eL NA))),(25,Av a),(26,.fptr (.sl (s.1.map NA)) 0),(27,.sl (s.2.1.map NA)),(28,Av a),(29,.bool s.2.2)]) (O:=λ_ _=>[]) (j:=λs=>AhZ b a c s.1 s.2.1 s.2.2) ?_ ?_
    ·refine Ab 4 λk m=>?_
     refine Ab 2 λo p=>?_
     refine A 3 ?_;refine NS r ?_ ?_
     ·exact B
     ·refine Ab 2 λg q=>?_
      refine Ab 3 λh t=>?_
      refine Ac 4 ?_ ?_
      ·exact B
      ·refine A 1 ?_;exact xC (s:=(g,g,h)) () hX
    ·rintro⟨d,e,f⟩ ⟨⟩ nn
     try dsimp only
     unfold AhZ;refine A 6 ?_;refine lP (E:=λ(s:Int) (_g:Unit)=>[(0,.sl (b.map (eL NA))),(1,Av c),(5,Av a),(6,Av s),(24,.sl (b.map (eL NA))),(25,Av a),(26,.fptr (.sl (d.map NA)) 0),(27,.sl (e.map NA)),(28,Av a),(29,.bool f)]) (O:=λ_ _=>[]) (body:=λs=>AcW b a c d e f s) (s:=0) () hX<|?_
     rintro i ⟨⟩ nn
     try dsimp only
     unfold AcW;refine Ab 6 λu v=>?_
     refine Ac 6 ?_ ?_
     ·refine Ab 8 λx z=>?_
      refine Ab 3 λaa ab=>?_
      refine A 11 ?_;refine NS r ?_ ?_
      ·exact B
      ·refine Ab 2 λac ad=>?_
       refine Ab 3 λae af=>?_
       refine Ac 5 ?_ ?_
       ·exact B
       ·refine A 8 ?_;exact xL (s:=i64.wrap (i+1)) () hX
     ·refine A 4 ?_;exact Oj (s:=(d,e,f)) () hX
   ·rintro⟨x4,x5,x6⟩ ⟨⟩ nn
    try dsimp only
    unfold AcX;refine A 5 ?_;exact xL (s:=i64.wrap (a+1)) () hX
  ·exact B

def AaG:Dw.Spec:=NI [] .ground Pq Pp (λa=>SZ a) NW noE
theorem AcQ:ND Tryz.prog 130 AaG:=by
 refine fn2 1 (NZ) Tryz.func130<|?_;intro a;unfold SZ;exact B

def Afp (a:NQ×NQ):List D:=[Ox a.1,Ox a.2]
def Afo (ds:List D):NQ×NQ:=(Yo (ds.getD 0 .top),Yo (ds.getD 1 .top))
instance:Oc Afp Afo:=⟨λa=>by simp[Afo,Afp]⟩
def Anl:Dw.Spec:=NI [] .ground Afp Afo (λa=>AgV a.1 a.2) NW noE
theorem Asb:ND Tryz.prog 251 Anl:=by
 refine fn2 2 (NZ) Tryz.func251<|?_;intro a;unfold AgV;exact B

def Aov:Dw.Spec:=NI [] (.row 1 3) SA Sz (λa=>AiI a) OC noE
theorem AsM:ND Tryz.prog 202 Aov:=by
 refine fn2 1 (NJ (l:=[(251,Anl)]) (by simp[Asb])) Tryz.func202<|?_
 intro c;unfold AiI;refine A 17 ?_;refine lP (E:=λ(s:(List Int)×Int) (g:Nat)=>[(0,.sl (c.map Ox)),(3,.osl 3 g 0 s.1.length),(4,Av s.2)]) (O:=λs g=>[(3,dW g 1 3 (s.1.map NA))]) (body:=λs=>Ail c s.1 s.2) (s:=(([]:List Int),0)) _ hX<|?_
 rintro⟨a,b⟩ h nn
 try dsimp only
 unfold Ail;refine Ac 9 ?_ ?_
 ·refine A 2 ?_;refine bC (E:=λ(s:(List Int)) (g:Nat)=>[(0,.sl (c.map Ox)),(3,.osl 3 g 0 s.length),(4,Av b)]) (O:=λs g=>[(3,dW g 1 3 (s.map NA))]) (j:=λs=>Adh b s) ?_ ?_
  ·refine A 7 ?_;refine bC (E:=λ(s:Int) (g:Nat)=>[(0,.sl (c.map Ox)),(3,.osl 3 g 0 a.length),(4,Av b),(5,Av s)]) (O:=λ_ g=>[(3,dW g 1 3 (a.map NA))]) (j:=λs=>Wg a b s) ?_ ?_
   ·refine lP (E:=λ(s:Int) (g:Nat)=>[(0,.sl (c.map Ox)),(3,.osl 3 g 0 a.length),(4,Av b),(5,Av s)]) (O:=λ_ g=>[(3,dW g 1 3 (a.map NA))]) (body:=λs=>Aim c b a s) (s:=(a.length:Int)) _ hX<|?_
    rintro e i nn
    try dsimp only
    unfold Aim;refine A 6 ?_;refine NS r ?_ ?_
    ·refine Ab 2 λk m=>?_
     refine Ab 7 λo p=>?_
     refine Ab 1 λq t=>?_
     refine Ab 2 λu v=>?_
     refine Ac 4 ?_ ?_
     ·refine A 9 ?_;exact xL (s:=i64.wrap (e-1)) _ hX
     ·refine A 3 ?_;exact TC (s:=e) _ hX
    ·refine A 20 ?_;exact TC (s:=e) _ hX
   ·rintro d x nn
    try dsimp only
    unfold Wg;refine A 4 ?_;refine cK λhq=>Ant (l:=a) r r r r r r hq<|cK λhq=>aP (([]:List Int)) (a.take d.toNat) NA r r r r r r r (by first|(simp;done)|(simp;omega)) (by simp[List.map_take]) r r (by simp) r (λ_=>r) r hq<|?_
    refine A 7 ?_;refine cK λhq=>aP (([]:List Int)++(a.take d.toNat)) (([b]:List Int)) NA r r r r r r r (by simp) (AbE _ _ r) r r (by simp) (Xs _ _ r) (λ_=>r) r hq<|?_
    refine A 2 ?_;refine cK λhq=>Aiu (l:=a) r r r r r r hq<|cK λhq=>aP ((([]:List Int)++(a.take d.toNat))++([b]:List Int)) (a.drop d.toNat) NA r r r r r r r (by first|(simp;done)|(simp;omega)) (ApV _ _ _) r r (by simp) (Xs _ _ r) (λ_=>r) r hq<|?_
    refine A 2 ?_;exact Oj (s:=((([]:List Int)++(a.take d.toNat))++([b]:List Int))++(a.drop d.toNat)) _ hX
  ·rintro f z nn
   try dsimp only
   unfold Adh;refine A 5 ?_;exact xL (s:=(f,i64.wrap (b+1))) _ hX
 ·exact B

def AaH:Dw.Spec:=NI [] .ground Aad Aac (λa=>Rb a) NW noE
theorem AcR:ND Tryz.prog 204 AaH:=by
 refine fn2 1 (NJ (l:=[(130,AaG)]) (by simp[AcQ])) Tryz.func204<|?_
 intro a;unfold Rb;exact B

def AjY:Dw.Spec:=NI [] .ground SQ SP (λa=>YD a.1 a.2) Ww noE
theorem Amo:ND Tryz.prog 83 AjY:=by
 refine fn2 2 (NJ (l:=[(130,AaG),(68,AeM)]) (by simp[AcQ,AhN])) Tryz.func83<|?_
 rintro⟨a,b⟩;unfold YD;refine A 6 ?_;refine sC (E:=λ(_s:Unit) (_g:Unit)=>[(0,Av a),(1,Av b)]) (O:=λ_ _=>[]) (j:=λ_=>Aeq b a) ?_ ?_
 ·refine Ab 3 λc d=>?_
  refine A 3 ?_;refine NS r ?_ ?_
  ·exact B
  ·refine Ab 1 λe f=>?_
   refine Ac 5 ?_ ?_
   ·exact B
   ·refine A 1 ?_;exact xC (s:=()) () hX
 ·rintro⟨⟩ ⟨⟩ nn
  try dsimp only
  unfold Aeq;refine A 6 ?_;refine sC (E:=λ(s:Int) (_g:Unit)=>[(6,Av s)]) (O:=λ_ _=>[]) (j:=λs=>AaR s) ?_ ?_
  ·refine Ac 8 ?_ ?_
   ·refine A 10 ?_;exact xC (s:=i64.wrap ((i64.wrap (a-(a.tmod b)))+b)) () hX
   ·refine A 1 ?_;exact xC (s:=a) () hX
  ·rintro g ⟨⟩ nn
   try dsimp only
   unfold AaR;exact B

def Agz:Dw.Spec:=NI [] .ground XX XW (λa=>Vf a.1 a.2) NW noE
theorem AkM:ND Tryz.prog 227 Agz:=by
 refine fn2 2 (NJ (l:=[(204,AaH)]) (by simp[AcR])) Tryz.func227<|?_
 intro a;unfold Vf;exact B

def AhQ (a:(List NV)×NV):List D:=[.sl (a.1.map PF),PF a.2]
def AhP (ds:List D):(List NV)×NV:=((uL UH) (ds.getD 0 .top),UH (ds.getD 1 .top))
instance:Oc AhQ AhP:=⟨λa=>by simp[AhP,AhQ,Oy (u:=UH) (en:=PF) AqW]⟩
def ApK:Dw.Spec:=NI [] .ground AhQ AhP (λa=>AjZ a.1 a.2) NW noE
theorem Atz:ND Tryz.prog 252 ApK:=by
 refine fn2 2 (NJ (l:=[(227,Agz)]) (by simp[AkM])) Tryz.func252<|?_
 rintro⟨b,a⟩;unfold AjZ;refine A 13 ?_;refine lP (E:=λ(s:Int) (g:Nat)=>[(0,.sl (b.map PF)),(3,.optr 3 g 0 0),(5,Av s)]) (O:=λ_ g=>[(3,dV g 2 186 (.agg [Av a.Off,Av a.Size]))]) (body:=λs=>Ajx b a s) (s:=0) _ hX<|?_
 rintro c d nn
 try dsimp only
 unfold Ajx;refine Ac 9 ?_ ?_
 ·refine Ab 8 λe f=>?_
  refine Ab 3 λh i=>?_
  refine Ac 3 ?_ ?_
  ·exact B
  ·refine A 8 ?_;exact xL (s:=i64.wrap (c+1)) _ hX
 ·exact B

def Ajv (a:(List NV)×Int×Int×Int):List D:=[.sl (a.1.map PF),Av a.2.1,Av a.2.2.1,Av a.2.2.2]
def Aju (ds:List D):(List NV)×Int×Int×Int:=((uL UH) (ds.getD 0 .top),uI (ds.getD 1 .top),uI (ds.getD 2 .top),uI (ds.getD 3 .top))
instance:Oc Ajv Aju:=⟨λa=>by simp[Aju,Ajv,uI,Oy (u:=UH) (en:=PF) AqW]⟩
def AqS:Dw.Spec:=NI [] .ground Ajv Aju (λa=>Ajc a.1 a.2.1 a.2.2.1 a.2.2.2) Ww noE
theorem AuP:ND Tryz.prog 203 AqS:=by
 refine fn2 4 (NJ (l:=[(130,AaG),(68,AeM),(204,AaH),(83,AjY),(252,ApK)]) (by simp[AcQ,AhN,AcR,Amo,Atz])) Tryz.func203<|?_
 rintro⟨b,a,c,d⟩;unfold Ajc;refine A 6 ?_;refine sC (E:=λ(_s:Unit) (_g:Unit)=>[(0,.sl (b.map PF)),(1,Av a),(2,Av c),(3,Av d)]) (O:=λ_ _=>[]) (j:=λ_=>AkL b d c a) ?_ ?_
 ·refine Ab 3 λo p=>?_
  refine A 3 ?_;refine NS r ?_ ?_
  ·exact B
  ·refine Ab 1 λq t=>?_
   refine A 4 ?_;refine NS r ?_ ?_
   ·exact B
   ·refine Ab 1 λu v=>?_
    refine Ac 5 ?_ ?_
    ·exact B
    ·refine A 1 ?_;exact xC (s:=()) () hX
 ·rintro⟨⟩ ⟨⟩ nn
  try dsimp only
  unfold AkL;refine A 7 ?_;refine lP (E:=λ(s:Int) (_g:Unit)=>[(0,.sl (b.map PF)),(1,Av a),(2,Av c),(3,Av d),(10,Av s)]) (O:=λ_ _=>[]) (body:=λs=>AkJ b d c a s) (s:=0) () hX<|?_
  rintro i ⟨⟩ nn
  try dsimp only
  unfold AkJ;refine Ac 9 ?_ ?_
  ·refine Ab 8 λx z=>?_
   refine Ab 2 λr7 ab=>?_
   refine Ac 4 ?_ ?_
   ·exact B
   ·refine A 8 ?_;exact xL (s:=i64.wrap (i+1)) () hX
  ·refine A 18 ?_;refine lP (E:=λ(s:Int×Bool×Int) (_g:Unit)=>[(0,.sl (b.map PF)),(1,Av a),(2,Av c),(3,Av d),(11,Av s.1),(12,.bool s.2.1),(13,Av s.2.2)]) (O:=λ_ _=>[]) (body:=λs=>AkK b d c a s.1 s.2.1 s.2.2) (s:=(0,false,(-1))) () hX<|?_
   rintro⟨f,g,e⟩ ⟨⟩ nn
   try dsimp only
   unfold AkK;refine Ac 9 ?_ ?_
   ·refine A 10 ?_;refine sC (E:=λ(s:Int) (_g:Unit)=>[(0,.sl (b.map PF)),(1,Av a),(2,Av c),(3,Av d),(11,Av f),(12,.bool g),(13,Av e),(14,Av s)]) (O:=λ_ _=>[]) (j:=λs=>Zs d c b g e f s) ?_ ?_
    ·refine Ac 6 ?_ ?_
     ·refine Ab 4 λk ac=>?_
      refine Ab 5 λm ad=>?_
      refine A 7 ?_;exact xC (s:=OX a (i64.wrap (k.Off+m.Size))) () hX
     ·refine A 1 ?_;exact xC (s:=a) () hX
    ·rintro ae ⟨⟩ nn
     try dsimp only
     unfold Zs;refine Ab 4 λh af=>?_
     refine A 22 ?_;refine NS r ?_ ?_
     ·refine Ab 1 λag ah=>?_
      refine A 3 ?_;refine NS r ?_ ?_
      ·refine Ab 2 λai aj=>?_
       refine A 3 ?_;refine NS r ?_ ?_
       ·refine A 3 ?_;refine NS r ?_ ?_
        ·refine A 20 ?_;exact xL (s:=(h.1,true,i64.wrap (e+1))) () hX
        ·refine Ac 7 ?_ ?_
         ·refine A 12 ?_;exact xL (s:=(h.1,true,i64.wrap (e+1))) () hX
         ·refine A 8 ?_;exact xL (s:=(f,g,i64.wrap (e+1))) () hX
       ·refine A 19 ?_;exact xL (s:=(f,g,i64.wrap (e+1))) () hX
      ·refine A 24 ?_;exact xL (s:=(f,g,i64.wrap (e+1))) () hX
     ·refine A 28 ?_;exact xL (s:=(f,g,i64.wrap (e+1))) () hX
   ·exact B

def Afn (a:(List NQ)×(List (List Int))×Int):List D:=[.sl (a.1.map Ox),.sl (a.2.1.map (eL NA)),Av a.2.2]
def Afm (ds:List D):(List NQ)×(List (List Int))×Int:=((uL Yo) (ds.getD 0 .top),(uL (uL uI)) (ds.getD 1 .top),uI (ds.getD 2 .top))
instance:Oc Afn Afm:=⟨λa=>by simp[Afm,Afn,uI,Oy (u:=Yo) (en:=Ox) Akj,Oy (u:=(uL uI)) (en:=(eL NA)) (Oy (u:=uI) (en:=NA) (λ_=>rfl))]⟩
def Ank:Dw.Spec:=NI [] .val Afn Afm (λa=>AgQ a.1 a.2.1 a.2.2) Ajm noE
theorem Asa:ND Tryz.prog 138 Ank:=by
 refine fn2 3 (NJ (l:=[(121,Ajw),(201,Aop),(130,AaG),(202,Aov),(116,YE),(203,AqS)]) (by simp[Anc,AsG,AcQ,AsM,Zv,AuP])) Tryz.func138<|?_
 rintro⟨a,c,d⟩;unfold AgQ;refine Ab 10 λv x=>?_
 refine Ac 10 ?_ ?_
 ·exact B
 ·refine A 2 ?_;refine sC (E:=λ(_s:Unit) (_g:Unit)=>[(0,.sl (a.map Ox)),(1,.sl (c.map (eL NA))),(2,Av d)]) (O:=λ_ _=>[]) (j:=λ_=>AgT a c d) ?_ ?_
  ·refine Ab 5 λz aa=>?_
   refine A 3 ?_;refine NS r ?_ ?_
   ·exact B
   ·refine Ab 1 λab ac=>?_
    refine Ac 5 ?_ ?_
    ·exact B
    ·refine A 1 ?_;exact xC (s:=()) () hX
  ·rintro⟨⟩ ⟨⟩ nn
   try dsimp only
   unfold AgT;refine Ab 15 λb ad=>?_
   refine A 11 ?_;refine lP (E:=λ(s:(List Bool)×(List Int)×Int) (g:Nat×Nat×Nat)=>[(0,.sl (a.map Ox)),(1,.sl (c.map (eL NA))),(2,Av d),(9,.osl 9 g.1 0 s.2.1.length),(10,.osl 10 g.2.1 0 s.1.length),(11,.osl 11 g.2.2 0 b.length),(12,Av s.2.2)]) (O:=λs g=>[(9,dW g.1 1 3 (s.2.1.map NA)),(10,dW g.2.1 1 4 (s.1.map D.bool)),(11,dW g.2.2 1 3 (b.map NA))]) (body:=λs=>AgR b a c d s.1 s.2.1 s.2.2) (s:=(List.replicate (a.length:Int).toNat false,List.replicate (a.length:Int).toNat (0:Int),0)) (_,_,_) hX<|?_
   rintro⟨h,e,f⟩ ⟨ae,af,ag⟩ nn
   try dsimp only
   unfold AgR;refine Ac 9 ?_ ?_
   ·refine A 2 ?_;refine bC (E:=λ(s:(List Bool)×(List Int)) (g:Nat×Nat×Nat)=>[(0,.sl (a.map Ox)),(1,.sl (c.map (eL NA))),(2,Av d),(9,.osl 9 g.1 0 s.2.length),(10,.osl 10 g.2.1 0 s.1.length),(11,.osl 11 g.2.2 0 b.length),(12,Av f)]) (O:=λs g=>[(9,dW g.1 1 3 (s.2.map NA)),(10,dW g.2.1 1 4 (s.1.map D.bool)),(11,dW g.2.2 1 3 (b.map NA))]) (j:=λs=>Aby f s.1 s.2) ?_ ?_
    ·refine Ab 5 λm ah=>?_
     refine A 16 ?_;refine lP (E:=λ(s:(List NV)×Int) (g:Nat×Nat×Nat×Nat)=>[(0,.sl (a.map Ox)),(1,.sl (c.map (eL NA))),(2,Av d),(9,.osl 9 g.1 0 e.length),(10,.osl 10 g.2.1 0 h.length),(11,.osl 11 g.2.2.1 0 b.length),(12,Av f),(13,Av m),(14,.osl 14 g.2.2.2 0 s.1.length),(15,Av s.2)]) (O:=λs g=>[(9,dW g.1 1 3 (e.map NA)),(10,dW g.2.1 1 4 (h.map D.bool)),(11,dW g.2.2.1 1 3 (b.map NA)),(14,dW g.2.2.2 2 186 (s.1.map PF))]) (body:=λs=>AgS a h c m e d f s.1 s.2) (s:=(([]:List NV),0)) (_,_,_,_) hX<|?_
     rintro⟨i,k⟩ ⟨ai,aj,ak,ao⟩ nn
     try dsimp only
     unfold AgS;refine Ac 9 ?_ ?_
     ·refine A 4 ?_;refine sC (E:=λ(s:Bool) (g:Nat×Nat×Nat×Nat)=>[(0,.sl (a.map Ox)),(1,.sl (c.map (eL NA))),(2,Av d),(9,.osl 9 g.1 0 e.length),(10,.osl 10 g.2.1 0 h.length),(11,.osl 11 g.2.2.1 0 b.length),(12,Av f),(13,Av m),(14,.osl 14 g.2.2.2 0 i.length),(15,Av k),(68,.bool s)]) (O:=λ_ g=>[(9,dW g.1 1 3 (e.map NA)),(10,dW g.2.1 1 4 (h.map D.bool)),(11,dW g.2.2.1 1 3 (b.map NA)),(14,dW g.2.2.2 2 186 (i.map PF))]) (j:=λs=>UT k e a i s) ?_ ?_
      ·refine Ab 4 λap aq=>?_
       refine A 2 ?_;refine NS r ?_ ?_
       ·refine Ab 2 λar au=>?_
        refine Ab 3 λq av=>?_
        refine A 3 ?_;exact xC (s:=q) (_,_,_,_) hX
       ·refine A 8 ?_;exact xC (s:=false) (_,_,_,_) hX
      ·rintro aw ⟨ax,ay,az,ba⟩ nn
       try dsimp only
       unfold UT;refine cD r ?_ ?_
       ·refine Ab 5 λo bb=>?_
        refine Ab 3 λp bc=>?_
        refine A 4 ?_;refine bS ([(NV.mk o p.Size)]:List NV) PF r r r (by simp) r r r<|?_
        refine A 10 ?_;exact xL (s:=(i++([(NV.mk o p.Size)]:List NV),i64.wrap (k+1))) (_,_,_,_) hX
       ·refine A 8 ?_;exact xL (s:=(i,i64.wrap (k+1))) (_,_,_,_) hX
     ·exact B
    ·rintro⟨t,u⟩ ⟨bd,bf,bg⟩ nn
     try dsimp only
     unfold Aby;refine A 5 ?_;exact xL (s:=(t,u,i64.wrap (f+1))) (_,_,_) hX
   ·exact B

def Aoj:Dw.Spec:=NI [] .ground SA Sz (λa=>Uu a) NC noE
theorem AsD:ND Tryz.prog 75 Aoj:=by
 refine fn2 1 (NJ (l:=[(121,Ajw)]) (by simp[Anc])) Tryz.func75<|?_
 intro a;unfold Uu;refine Ab 14 λe f=>?_
 refine Ac 4 ?_ ?_
 ·exact B
 ·refine A 9 ?_;refine lP (E:=λ(s:Int×Int) (_g:Unit)=>[(0,.sl (a.map Ox)),(3,Av s.1),(4,Av s.2)]) (O:=λ_ _=>[]) (body:=λs=>Zr a s.1 s.2) (s:=(16,0)) () hX<|?_
  rintro⟨b,c⟩ ⟨⟩ nn
  try dsimp only
  unfold Zr;refine Ac 9 ?_ ?_
  ·refine Ab 8 λd g=>?_
   refine A 13 ?_;exact xL (s:=(OX b d.Align,i64.wrap (c+1))) () hX
  ·exact B

def AeN:Dw.Spec:=NI [] .ground Xr Xq (λa=>RK a) NC noE
theorem AhS:ND Tryz.prog 32 AeN:=by
 refine fn2 1 (NJ (l:=[(75,Aoj)]) (by simp[AsD])) Tryz.func32<|?_
 intro a;unfold RK;refine A 18 ?_;refine lP (E:=λ(s:Int×Int) (g:Nat)=>[(1,.optr 1 g 0 0),(3,Av s.1),(4,Av s.2)]) (O:=λ_ g=>[(1,dV g 1 28 (.agg [.sl (a.Funcs.map NM)]))]) (body:=λs=>AcT a s.1 s.2) (s:=(16,0)) _ hX<|?_
 rintro⟨b,c⟩ e nn
 try dsimp only
 unfold AcT;refine Ac 10 ?_ ?_
 ·refine Ab 9 λf h=>?_
  refine Ab 3 λd i=>?_
  refine A 11 ?_;exact xL (s:=(OX b d,i64.wrap (c+1))) _ hX
 ·exact B

def AjF (a:(List NQ)×(List Int)):List D:=[.sl (a.1.map Ox),.sl (a.2.map NA)]
def AjE (ds:List D):(List NQ)×(List Int):=((uL Yo) (ds.getD 0 .top),(uL uI) (ds.getD 1 .top))
instance:Oc AjF AjE:=⟨λa=>by simp[AjE,AjF,Oy (u:=Yo) (en:=Ox) Akj,Oy (u:=uI) (en:=NA) (λ_=>rfl)]⟩
def AqU:Dw.Spec:=NI [] .ground AjF AjE (λa=>AlS a.1 a.2) NC noE
theorem AuR:ND Tryz.prog 205 AqU:=by
 refine fn2 2 (NZ) Tryz.func205<|?_;rintro⟨c,a⟩;unfold AlS;refine A 17 ?_;refine lP (E:=λ(s:Int×Int) (_g:Unit)=>[(0,.sl (c.map Ox)),(1,.sl (a.map NA)),(5,Av s.1),(6,Av s.2)]) (O:=λ_ _=>[]) (body:=λs=>AkY c a s.1 s.2) (s:=(0,0)) () hX<|?_
 rintro⟨d,b⟩ ⟨⟩ nn
 try dsimp only
 unfold AkY;refine sC (E:=λ(_s:Unit) (_g:Unit)=>[(0,.sl (c.map Ox)),(1,.sl (a.map NA)),(5,Av d),(6,Av b),(12,Av b),(13,.sl (a.map NA)),(14,Av (a.length:Int)),(15,.bool (decide (b<(a.length:Int))))]) (O:=λ_ _=>[]) (j:=λ_=>AgU a b c d) ?_ ?_
 ·refine A 7 ?_;refine NS r ?_ ?_
  ·refine Ac 7 ?_ ?_
   ·refine A 1 ?_;exact xC (s:=()) () hX
   ·exact B
  ·exact B
 ·rintro⟨⟩ ⟨⟩ nn
  try dsimp only
  unfold AgU;refine Ab 6 λe g=>?_
  refine Ab 4 λf h=>?_
  refine A 14 ?_;exact xL (s:=(OX d (i64.wrap (e+f.Size)),i64.wrap (b+1))) () hX

def Afr (a:NG×Int×Int×(List Int)):List D:=[Ps a.1,Av a.2.1,Av a.2.2.1,.sl (a.2.2.2.map NA)]
def Afq (ds:List D):NG×Int×Int×(List Int):=(Rn (ds.getD 0 .top),uI (ds.getD 1 .top),uI (ds.getD 2 .top),(uL uI) (ds.getD 3 .top))
instance:Oc Afr Afq:=⟨λa=>by simp[Afq,Afr,uI,Oy (u:=uI) (en:=NA) (λ_=>rfl)]⟩
def Anm:Dw.Spec:=NI [] .val Afr Afq (λa=>Acr a.1 a.2.1 a.2.2.1 a.2.2.2) PJ noE
theorem Asc:ND Tryz.prog 139 Anm:=by
 refine fn2 4 (NJ (l:=[(204,AaH),(82,Acq),(205,AqU),(83,AjY)]) (by simp[AcR,AeU,AuR,Amo])) Tryz.func139<|?_
 rintro⟨c,d,e,a⟩;unfold Acr;refine Ab 12 λf k=>?_
 refine Ac 16 ?_ ?_
 ·refine A 9 ?_;refine Pd (b:=((NN.mk 0 0 ([])),13)) r ?_ r r ?_ (by first|rfl|(simp only[NH];rfl)|(simp only[NK];rfl)|(simp only[NH,NK];rfl)|(simp[PJ,OB];try rfl)) (by decide)
  all_goals first|(simp;done)|(simp;omega)|rfl|(simp[OJ,OG];done)|(simp[cells];done)
 ·refine A 9 ?_;refine lP (E:=λ(s:Int) (g:Nat×Nat)=>[(1,Av d),(2,Av e),(3,.sl (a.map NA)),(4,.optr 4 g.1 0 0),(8,.optr 8 g.2 0 0),(10,.sl (f.Slots.map Ox)),(11,Av s)]) (O:=λ_ g=>[(4,dV g.1 1 28 (.agg [.sl (c.Funcs.map NM)])),(8,dV g.2 3 39 (.agg [Av 0,Av 0,.nils]))]) (body:=λs=>AgW f a c d e s) (s:=0) (_,_) hX<|?_
  rintro h ⟨m,o⟩ nn
  try dsimp only
  unfold AgW;refine Ac 9 ?_ ?_
  ·refine Ab 8 λp q=>?_
   refine Ab 4 λt u=>?_
   refine Ab 4 λv x=>?_
   refine Ac 4 ?_ ?_
   ·refine A 13 ?_;refine Pd (b:=((NN.mk 0 0 ([])),13)) r ?_ r r ?_ (by first|rfl|(simp only[NH];rfl)|(simp only[NK];rfl)|(simp only[NH,NK];rfl)|(simp[PJ,OB];try rfl)) (by decide)
    all_goals first|(simp;done)|(simp;omega)|rfl|(simp[OJ,OG];done)|(simp[cells];done)
   ·refine A 8 ?_;exact xL (s:=i64.wrap (h+1)) (_,_) hX
  ·refine Ab 9 λi z=>?_
   refine Ab 9 λaa ab=>?_
   refine Ab 3 λj ac=>?_
   refine A 14 ?_;refine NS r ?_ ?_
   ·refine A 15 ?_;refine Pd (b:=((NN.mk 0 0 ([])),9)) r ?_ r r ?_ (by first|rfl|(simp only[NH];rfl)|(simp only[NK];rfl)|(simp only[NH,NK];rfl)|(simp[PJ,OB];try rfl)) (by decide)
    all_goals first|(simp;done)|(simp;omega)|rfl|(simp[OJ,OG];done)|(simp[cells];done)
   ·refine Ac 5 ?_ ?_
    ·refine A 9 ?_;refine Pd (b:=((NN.mk 0 0 ([])),9)) r ?_ r r ?_ (by first|rfl|(simp only[NH];rfl)|(simp only[NK];rfl)|(simp only[NH,NK];rfl)|(simp[PJ,OB];try rfl)) (by decide)
     all_goals first|(simp;done)|(simp;omega)|rfl|(simp[OJ,OG];done)|(simp[cells];done)
    ·refine A 7 ?_;refine cK λhq=>aP (([]:List Int)) (a) NA r r r r r r r (by simp) r r r (by simp) r (λ_=>r) r hq<|?_
     refine A 6 ?_;refine Pd (b:=((NN.mk i j.1 (([]:List Int)++a)),0)) r ?_ r r ?_ (by first|rfl|(simp only[NH];rfl)|(simp only[NK];rfl)|(simp only[NH,NK];rfl)|(simp[PJ,OB];try rfl)) (by decide)
     all_goals first|(simp;done)|(simp;omega)|rfl|(simp[OJ,OG];done)|(simp[cells];done)

def Ahc (b:NR):D:=Oe b
def Abz:Dw.Spec:=NI [] .val TA Tz (λa=>Vh a.1 a.2) Ahc noE
theorem Afs:ND Tryz.prog 74 Abz:=by
 refine fn2 2 (NJ (l:=[(133,Ajz),(134,Aoq),(135,AlP),(136,ApO),(33,AeQ),(137,Anh),(82,Acq),(138,Ank),(35,Acs),(32,AeN),(139,Anm)]) (by simp[Anf,AsH,Aru,AtE,Aij,ArY,AeU,Asa,AeX,AhS,Asc])) Tryz.func74<|?_
 rintro⟨g,h⟩;unfold Vh;refine Ab 11 λi j=>?_
 refine Ab 9 λa k=>?_
 refine Ab 11 λm o=>?_
 refine Ab 12 λc p=>?_
 refine Ab 14 λd q=>?_
 refine Ab 11 λs t=>?_
 refine Ab 12 λe u=>?_
 refine Ab 10 λv x=>?_
 refine Ab 15 λz aa=>?_
 refine Ab 1 λab ac=>?_
 refine Ac 15 ?_ ?_
 ·refine A 8 ?_;refine UX (b:=(NR.mk a (NO.mk c d) e (NN.mk 0 0 ([])))) r ?_ r r ?_ (by first|rfl|(simp only[NH];rfl)|(simp only[NK];rfl)|(simp only[NH,NK];rfl)|(simp[Ahc,Oe];try rfl))
  all_goals first|(simp;done)|(simp;omega)|rfl|(simp[OJ,OG];done)|(simp[cells];done)
 ·refine Ab 7 λad ae=>?_
  refine Ab 3 λaf ag=>?_
  refine Ab 2 λf ah=>?_
  refine A 15 ?_;refine UX (b:=(NR.mk a (NO.mk c d) e f.1)) r ?_ r r ?_ (by first|rfl|(simp only[NH];rfl)|(simp only[NK];rfl)|(simp only[NH,NK];rfl)|(simp[Ahc,Oe];try rfl))
  all_goals first|(simp;done)|(simp;omega)|rfl|(simp[OJ,OG];done)|(simp[cells];done)

def Arh (b:Int×BR):List D:=[Ow b.2]
def ZW:Dw.Spec:=NI [(0,(2,114))] .val Sh Sg (λa=>QV a) Adt Arh
theorem Ads:ND Tryz.prog 47 ZW:=by
 refine fn2 1 (NJ (l:=[(22,OL)]) (by simp[OM])) Tryz.func47<|?_
 intro a;unfold QV;refine Ab 8 λb c=>?_
 refine Ac 11 ?_ ?_
 ·refine A 2 ?_;refine bS ([9223372036854775807,(-9223372036854775808),2147483648,2147483647,(-1),16777216,33554432,1048577,512,80]:List Int) NA r r r (by simp) r r r<|?_
  exact B
 ·exact B

end
end Go.Proofs.YtcaoepecbgggcaaGreatDoor
