/-
 The code does what its typed programs say.
-/
import Derived.Test.YtcaoepecbgggcaaGreatDoorProg
import Derived.Test.YtcaoepecbgggcaaGreatDoorDc
import Derived.KernelRfl
import Derived.Test.YtcaoepecbgggcaaGreatDoorSh
import Derived.Test.YtcaoepecbgggcaaGreatDoorDxP
import Derived.Test.YtcaoepecbgggcaaGreatDoorDxF1
import Derived.Test.YtcaoepecbgggcaaGreatDoorDxF2
import Derived.Test.YtcaoepecbgggcaaGreatDoorDxF3
import Derived.Test.YtcaoepecbgggcaaGreatDoorDxF6
import Derived.Test.YtcaoepecbgggcaaGreatDoorDxF7
import Derived.Test.YtcaoepecbgggcaaGreatDoorDxF8
import Derived.Test.YtcaoepecbgggcaaGreatDoorDxF9
import Derived.Test.YtcaoepecbgggcaaGreatDoorDxF10
namespace Go.Proofs.YtcaoepecbgggcaaGreatDoor
open Go Go.Dw Go.Proofs
open Go.IntKind (i64)
set_option maxRecDepth 100000
set_option maxHeartbeats 40000000
open Go.Dw renaming Ql -> bD,YI -> bS,UZ -> cD,Xt -> xC,Ui -> xL,Xu -> lP,Tt -> sC,rf -> r
noncomputable section
def AmH (b:NR×BR):D:=Oe b.1
def AmG (b:NR×BR):List D:=[Ow b.2]
def AfB:Dw.Spec:=NI [(0,(2,114))] .val UP UO (λa=>WN a.1 a.2.1 a.2.2) AmH AmG
theorem Amg:ND Tryz.prog 86 AfB:=by
 refine fn2 3 (NJ (l:=[(74,Abz),(22,OL),(145,AjL),(146,Ahp),(33,AeQ),(35,Acs),(32,AeN),(147,Ahn)]) (by simp[Afs,OM,AoY,AnO,Aij,AeX,AhS,AnM])) Tryz.func86<|?_
 rintro⟨c1,b,c⟩;unfold WN;refine Ab 10 λa ad=>?_
 refine Ab 9 λr5 af=>?_
 refine Ac 4 ?_ ?_
 ·exact B
 ·refine A 2 ?_;refine sC (E:=λ(_s:(List Int)×Int×(List (List Int))) (g:Nat×Nat×Nat)=>[(0,.optr 8192 0 0 0),(2,Av c),(4,.optr 4 g.1 0 0),(6,.optr 6 g.2.1 0 0),(7,.optr 7 g.2.2 0 0)]) (O:=λs g=>[(4,dV g.1 1 28 (.agg [.sl (b.Funcs.map NM)])),(6,dV g.2.1 7 50 (.agg [.nils,.nils,.nils,.nils,Av 0,Av 0,.nils])),(7,dV g.2.2 7 50 (.agg [.sl (s.2.2.map (eL NA)),.sl (a.Rename.To.map NA),.sl (a.Rename.Keep.map D.bool),.sl (a.LiveAfter.Out.map (eL NA)),Av a.Layout.Args,Av a.Layout.Size,.sl (a.Layout.Off.map NA)])),(8192,dV 0 2 114 (.agg [.sl (s.1.map eU8),Av s.2.1]))]) (j:=λs=>Sl b c a s.1 s.2.1 s.2.2) ?_ ?_
  ·refine Ab 3 λq ag=>?_
   refine Ac 4 ?_ ?_
   ·refine Ab 5 λah ai=>?_
    refine Ab 2 λm aj=>?_
    refine A 4 ?_;exact xC (s:=(m.2.list,m.2.at_,m.1.Out)) (_,_,_) hX
   ·refine A 1 ?_;exact xC (s:=(q.2.list,q.2.at_,a.Live.Out)) (_,_,_) hX
  ·rintro⟨c6,c7,d⟩ ⟨ap,aq,ar⟩ nn
   try dsimp only
   unfold Sl;refine sC (E:=λ(_s:(List Int)×Int×(List Int)×(List Bool)) (g:Nat×Nat×Nat)=>[(0,.optr 8192 0 0 0),(2,Av c),(4,.optr 4 g.1 0 0),(6,.optr 6 g.2.1 0 0),(7,.optr 7 g.2.2 0 0)]) (O:=λs g=>[(4,dV g.1 1 28 (.agg [.sl (b.Funcs.map NM)])),(6,dV g.2.1 7 50 (.agg [.nils,.nils,.nils,.nils,Av 0,Av 0,.nils])),(7,dV g.2.2 7 50 (.agg [.sl (d.map (eL NA)),.sl (s.2.2.1.map NA),.sl (s.2.2.2.map D.bool),.sl (a.LiveAfter.Out.map (eL NA)),Av a.Layout.Args,Av a.Layout.Size,.sl (a.Layout.Off.map NA)])),(8192,dV 0 2 114 (.agg [.sl (s.1.map eU8),Av s.2.1]))]) (j:=λs=>QW b c d a s.1 s.2.1 s.2.2.1 s.2.2.2) ?_ ?_
   ·refine Ab 3 λt au=>?_
    refine Ac 4 ?_ ?_
    ·refine Ab 4 λf av=>?_
     refine A 4 ?_;exact xC (s:=(f.2.list,f.2.at_,f.1.To,f.1.Keep)) (_,_,_) hX
    ·refine A 1 ?_;exact xC (s:=(t.2.list,t.2.at_,a.Rename.To,a.Rename.Keep)) (_,_,_) hX
   ·rintro⟨c9,ab,h,i⟩ ⟨aw,ax,ay⟩ nn
    try dsimp only
    unfold QW;refine Ab 5 λe az=>?_
    refine A 6 ?_;refine sC (E:=λ(_s:(List Int)×Int×Int×(List NQ)×(List Lo)) (g:Nat×Nat×Nat×Nat)=>[(0,.optr 8192 0 0 0),(2,Av c),(4,.optr 4 g.1 0 0),(6,.optr 6 g.2.1 0 0),(7,.optr 7 g.2.2.1 0 0),(8,.optr 8 g.2.2.2 0 0)]) (O:=λs g=>[(4,dV g.1 1 28 (.agg [.sl (b.Funcs.map NM)])),(6,dV g.2.1 7 50 (.agg [.nils,.nils,.nils,.nils,Av 0,Av 0,.nils])),(7,dV g.2.2.1 7 50 (.agg [.sl (d.map (eL NA)),.sl (h.map NA),.sl (i.map D.bool),.sl (a.LiveAfter.Out.map (eL NA)),Av a.Layout.Args,Av a.Layout.Size,.sl (a.Layout.Off.map NA)])),(8,dV g.2.2.2 3 36 (.agg [Av s.2.2.1,.sl (s.2.2.2.1.map Ox),.sl (s.2.2.2.2.map NX)])),(8192,dV 0 2 114 (.agg [.sl (s.1.map eU8),Av s.2.1]))]) (j:=λs=>QX b c d h i a s.1 s.2.1 s.2.2.1 s.2.2.2.1 s.2.2.2.2) ?_ ?_
    ·refine Ab 5 λo ba=>?_
     refine A 14 ?_;refine NS r ?_ ?_
     ·refine Ab 1 λk bb=>?_
      refine Ac 5 ?_ ?_
      ·refine A 4 ?_;exact xC (s:=(k.2.list,k.2.at_,o.1.Params,o.1.Slots,o.1.Code)) (_,_,_,_) hX
      ·refine A 1 ?_;exact xC (s:=(k.2.list,k.2.at_,e.Params,e.Slots,e.Code)) (_,_,_,_) hX
     ·refine A 8 ?_;exact xC (s:=(c9,ab,e.Params,e.Slots,e.Code)) (_,_,_,_) hX
    ·rintro⟨bc,bd,u,v,x⟩ ⟨bf,bg,bh,bi⟩ nn
     try dsimp only
     unfold QX;refine sC (E:=λ(_s:(List Int)×Int×(List (List Int))) (g:Nat×Nat×Nat×Nat)=>[(0,.optr 8192 0 0 0),(2,Av c),(4,.optr 4 g.1 0 0),(6,.optr 6 g.2.1 0 0),(7,.optr 7 g.2.2.1 0 0),(8,.optr 8 g.2.2.2 0 0)]) (O:=λs g=>[(4,dV g.1 1 28 (.agg [.sl (b.Funcs.map NM)])),(6,dV g.2.1 7 50 (.agg [.nils,.nils,.nils,.nils,Av 0,Av 0,.nils])),(7,dV g.2.2.1 7 50 (.agg [.sl (d.map (eL NA)),.sl (h.map NA),.sl (i.map D.bool),.sl (s.2.2.map (eL NA)),Av a.Layout.Args,Av a.Layout.Size,.sl (a.Layout.Off.map NA)])),(8,dV g.2.2.2 3 36 (.agg [Av u,.sl (v.map Ox),.sl (x.map NX)])),(8192,dV 0 2 114 (.agg [.sl (s.1.map eU8),Av s.2.1]))]) (j:=λs=>Sm b c u v x d h i a s.1 s.2.1 s.2.2) ?_ ?_
     ·refine Ab 3 λz bj=>?_
      refine Ac 4 ?_ ?_
      ·refine Ab 3 λp bk=>?_
       refine A 4 ?_;exact xC (s:=(p.2.list,p.2.at_,p.1.Out)) (_,_,_,_) hX
      ·refine A 1 ?_;exact xC (s:=(z.2.list,z.2.at_,a.LiveAfter.Out)) (_,_,_,_) hX
     ·rintro⟨bl,bm,bn⟩ ⟨bo,bp,bq,br⟩ nn
      try dsimp only
      unfold Sm;exact B

def Ami (b:(List NR)×BR):D:=.sl (b.1.map Oe)
def Amh (b:(List NR)×BR):List D:=[Ow b.2]
def Aea:Dw.Spec:=NI [(0,(2,114))] (.row 7 50) UL UK (λa=>VC a.1 a.2) Ami Amh
theorem Alj:ND Tryz.prog 37 Aea:=by
 refine fn2 2 (NJ (l:=[(86,AfB),(22,OL)]) (by simp[Amg,OM])) Tryz.func37<|?_
 rintro⟨b,c⟩;unfold VC;refine A 18 ?_;refine lP (E:=λ(s:(List Int)×Int×(List NR)×Int) (g:Nat×Nat)=>[(0,.optr 8192 0 0 0),(3,.optr 3 g.1 0 0),(5,.osl 5 g.2 0 s.2.2.1.length),(6,Av s.2.2.2)]) (O:=λs g=>[(3,dV g.1 1 28 (.agg [.sl (c.Funcs.map NM)])),(5,dW g.2 7 50 (s.2.2.1.map Oe)),(8192,dV 0 2 114 (.agg [.sl (s.1.map eU8),Av s.2.1]))]) (body:=λs=>WV c s.1 s.2.1 s.2.2.1 s.2.2.2) (s:=(b.list,b.at_,([]:List NR),0)) (_,_) hX<|?_
 rintro⟨c3,c4,d,e⟩ ⟨f,h⟩ nn
 try dsimp only
 unfold WV;refine Ac 10 ?_ ?_
 ·refine Ab 9 λa i=>?_
  refine A 1 ?_;refine bS ([a.1]:List NR) Oe r r r (by simp) r r r<|?_
  refine A 10 ?_;exact xL (s:=(a.2.list,a.2.at_,d++([a.1]:List NR),i64.wrap (e+1))) (_,_) hX
 ·exact B

def Abt (a:(List Int)):List D:=[.sl (a.map eU8)]
def Abs (ds:List D):(List Int):=(uL uI) (ds.getD 0 .top)
theorem Asv (a:(List Int)):Abs (Abt a)=a:=by simp[Abs,Abt,Oy (u:=uI) (en:=eU8) (λ_=>rfl)]
instance:Oc Abt Abs:=⟨Asv⟩
def Aoe (b:NG×(List NR)×BR):D:=.tup [Ps b.1,.sl (b.2.1.map Oe),Ow b.2.2]
def Aof:Dw.Spec:=NI [] (.tupPtr 2 2 114) Abt Abs (λa=>Aee a) Aoe noE
theorem Asw:ND Tryz.prog 11 Aof:=by
 refine fn2 1 (NJ (l:=[(29,ArJ),(30,Agh),(22,OL),(36,Ahl),(37,Aea)]) (by simp[Avt,AmF,OM,AnL,Alj])) Tryz.func11<|?_
 intro h;unfold Aee;refine Ab 10 λi k=>?_
 refine Ab 7 λe m=>?_
 refine A 5 ?_;refine sC (E:=λ(_s:(List Mk)×(List Int)×Int) (g:Nat×Nat×Nat)=>[(2,.optr 2 g.1 0 0),(5,.optr 8 g.2.2 0 0),(6,.optr 6 g.2.1 0 0)]) (O:=λs g=>[(2,dV g.1 1 28 (.agg [.nils])),(6,dV g.2.1 1 28 (.agg [.sl (s.1.map NM)])),(8,dV g.2.2 2 114 (.agg [.sl (s.2.1.map eU8),Av s.2.2]))]) (j:=λs=>Zn s.1 s.2.1 s.2.2) ?_ ?_
 ·refine Ab 3 λc o=>?_
  refine Ac 4 ?_ ?_
  ·refine Ab 3 λa p=>?_
   refine A 3 ?_;exact xC (s:=(a.1.Funcs,a.2.list,a.2.at_)) (_,_,_) hX
  ·refine A 1 ?_;exact xC (s:=(e.1.Funcs,c.2.list,c.2.at_)) (_,_,_) hX
 ·rintro⟨f,q,t⟩ ⟨u,v,x⟩ nn
  try dsimp only
  unfold Zn;refine Ab 5 λd z=>?_
  refine A 8 ?_;refine Ase (b:=((NG.mk f),d.1,d.2)) (by decide) (by decide) r ?_ r ?_ r ?_ r ?_ (by first|rfl|(simp only[NH];rfl)|(simp only[NK];rfl)|(simp only[NH,NK];rfl)|(simp[Aoe,Ps,Ow];try rfl)) r ?_ r
  all_goals first|(simp;done)|(simp;omega)|rfl|(simp[OJ,OG];done)|(simp[cells];done)

def Acp (a:Mk×NT×NO×Int):List D:=[NM a.1,QP a.2.1,Xf a.2.2.1,Av a.2.2.2]
def Aco (ds:List D):Mk×NT×NO×Int:=(Qz (ds.getD 0 .top),Va (ds.getD 1 .top),Adm (ds.getD 2 .top),uI (ds.getD 3 .top))
instance:Oc Acp Aco:=⟨λa=>by simp[Aco,Acp,uI]⟩
def AkX:Dw.Spec:=NI [] .ground Acp Aco (λa=>ZG a.1 a.2.1 a.2.2.1 a.2.2.2) TT noE
theorem AqF:ND Tryz.prog 166 AkX:=by
 refine fn2 4 (NJ (l:=[(143,Tq),(116,YE)]) (by simp[Ub,Zv])) Tryz.func166<|?_
 rintro⟨f,b,a,c⟩;unfold ZG;refine Ab 14 λh i=>?_
 refine Ab 9 λd k=>?_
 refine A 8 ?_;refine sC (E:=λ(_s:Unit) (g:Nat×Nat)=>[(3,Av c),(5,.optr 5 g.1 0 0),(6,.optr 6 g.2 0 0),(11,Av d.1)]) (O:=λ_ g=>[(5,dV g.1 1 45 (.agg [.sl (b.Out.map (eL NA))])),(6,dV g.2 2 48 (.agg [.sl (a.To.map NA),.sl (a.Keep.map D.bool)]))]) (j:=λ_=>Ty a c b d) ?_ ?_
 ·refine A 5 ?_;refine NS r ?_ ?_
  ·exact B
  ·refine A 4 ?_;refine NS r ?_ ?_
   ·refine Ab 4 λm o=>?_
    refine Ab 6 λp q=>?_
    refine Ac 7 ?_ ?_
    ·exact B
    ·refine A 1 ?_;exact xC (s:=()) (_,_) hX
   ·refine A 19 ?_;exact xC (s:=()) (_,_) hX
 ·rintro⟨⟩ ⟨t,u⟩ nn
  try dsimp only
  unfold Ty;refine Ab 6 λv x=>?_
  refine Ac 5 ?_ ?_
  ·exact B
  ·refine A 9 ?_;refine lP (E:=λ(s:Int) (g:Nat×Nat)=>[(3,Av c),(5,.optr 5 g.1 0 0),(6,.optr 6 g.2 0 0),(11,Av d.1),(13,Av s)]) (O:=λ_ g=>[(5,dV g.1 1 45 (.agg [.sl (b.Out.map (eL NA))])),(6,dV g.2 2 48 (.agg [.sl (a.To.map NA),.sl (a.Keep.map D.bool)]))]) (body:=λs=>Za b c d a s) (s:=0) (_,_) hX<|?_
   rintro e ⟨z,aa⟩ nn
   try dsimp only
   unfold Za;refine Ab 7 λab ac=>?_
   refine Ac 6 ?_ ?_
   ·refine Ab 9 λad ae=>?_
    refine Ab 3 λaf ag=>?_
    refine A 11 ?_;refine NS r ?_ ?_
    ·refine Ab 3 λah ai=>?_
     refine Ab 5 λaj ak=>?_
     refine Ac 6 ?_ ?_
     ·exact B
     ·refine A 8 ?_;exact xL (s:=i64.wrap (e+1)) (_,_) hX
    ·refine A 23 ?_;exact xL (s:=i64.wrap (e+1)) (_,_) hX
   ·exact B

def AkW:Dw.Spec:=NI [] .ground Ry Rx (λa=>Adg a.1 a.2.1 a.2.2) Tx noE
theorem AqE:ND Tryz.prog 105 AkW:=by
 refine fn2 3 (NJ (l:=[(104,Xm),(76,AeR),(166,AkX)]) (by simp[Zz,Aik,AqF])) Tryz.func105<|?_
 rintro⟨b,c,a⟩;unfold Adg;refine A 10 ?_;refine sC (E:=λ(_s:Unit) (g:Nat×Nat×Nat)=>[(3,.optr 3 g.1 0 0),(4,.optr 4 g.2.1 0 0),(5,.optr 5 g.2.2 0 0)]) (O:=λ_ g=>[(3,dV g.1 3 36 (NM b)),(4,dV g.2.1 1 45 (.agg [.sl (c.Out.map (eL NA))])),(5,dV g.2.2 2 48 (.agg [.sl (a.To.map NA),.sl (a.Keep.map D.bool)]))]) (j:=λ_=>AdO b c a) ?_ ?_
 ·refine Ab 4 λe f=>?_
  refine A 3 ?_;refine NS r ?_ ?_
  ·exact B
  ·refine Ab 2 λh i=>?_
   refine Ac 5 ?_ ?_
   ·exact B
   ·refine A 1 ?_;exact xC (s:=()) (_,_,_) hX
 ·rintro⟨⟩ ⟨k,m,o⟩ nn
  try dsimp only
  unfold AdO;refine A 7 ?_;refine lP (E:=λ(s:Int) (g:Nat×Nat×Nat)=>[(3,.optr 3 g.1 0 0),(4,.optr 4 g.2.1 0 0),(5,.optr 5 g.2.2 0 0),(9,Av s)]) (O:=λ_ g=>[(3,dV g.1 3 36 (NM b)),(4,dV g.2.1 1 45 (.agg [.sl (c.Out.map (eL NA))])),(5,dV g.2.2 2 48 (.agg [.sl (a.To.map NA),.sl (a.Keep.map D.bool)]))]) (body:=λs=>AdN b c a s) (s:=0) (_,_,_) hX<|?_
  rintro d ⟨p,q,t⟩ nn
  try dsimp only
  unfold AdN;refine Ac 10 ?_ ?_
  ·refine Ab 10 λu v=>?_
   refine Ac 13 ?_ ?_
   ·exact B
   ·refine A 8 ?_;exact xL (s:=i64.wrap (d+1)) (_,_,_) hX
  ·exact B

def Aou:Dw.Spec:=NI [] .ground Ry Rx (λa=>Aex a.1 a.2.1 a.2.2) NC noE
theorem AsL:ND Tryz.prog 44 Aou:=by
 refine fn2 3 (NJ (l:=[(104,Xm),(105,AkW),(76,AeR)]) (by simp[Zz,AqE,Aik])) Tryz.func44<|?_
 intro a;unfold Aex;exact B

def Anb:Dw.Spec:=NI [] .ground YT YS (λa=>Zt a.1 a.2) NW noE
theorem ArX:ND Tryz.prog 167 Anb:=by
 refine fn2 2 (NJ (l:=[(204,AaH)]) (by simp[AcR])) Tryz.func167<|?_
 intro a;unfold Zt;exact B

def AgZ (a:NG×Int×Int×NN):List D:=[Ps a.1,Av a.2.1,Av a.2.2.1,OB a.2.2.2]
def AgY (ds:List D):NG×Int×Int×NN:=(Rn (ds.getD 0 .top),uI (ds.getD 1 .top),uI (ds.getD 2 .top),AaY (ds.getD 3 .top))
instance:Oc AgZ AgY:=⟨λa=>by simp[AgY,AgZ,uI]⟩
def AjH:Dw.Spec:=NI [] .ground AgZ AgY (λa=>YG a.1 a.2.1 a.2.2.1 a.2.2.2) NC noE
theorem Ann:ND Tryz.prog 106 AjH:=by
 refine fn2 4 (NJ (l:=[(34,Aar),(82,Acq),(167,Anb)]) (by simp[AdR,AeU,ArX])) Tryz.func106<|?_
 rintro⟨f,h,a,b⟩;unfold YG;refine Ab 12 λc i=>?_
 refine Ac 16 ?_ ?_
 ·exact B
 ·refine Ab 7 λd k=>?_
  refine A 6 ?_;refine sC (E:=λ(_s:Unit) (g:Nat×Nat)=>[(2,Av a),(7,.optr 7 g.1 0 0),(9,.optr 9 g.2 0 0),(11,.sl (d.Slots.map Ox))]) (O:=λ_ g=>[(7,dV g.1 3 39 (OB b)),(9,dV g.2 3 39 (OB c.1))]) (j:=λ_=>Aiq d b a c) ?_ ?_
  ·refine Ab 6 λm o=>?_
   refine A 3 ?_;refine NS r ?_ ?_
   ·exact B
   ·refine Ac 9 ?_ ?_
    ·exact B
    ·refine A 1 ?_;exact xC (s:=()) (_,_) hX
  ·rintro⟨⟩ ⟨p,q⟩ nn
   try dsimp only
   unfold Aiq;refine A 7 ?_;refine lP (E:=λ(s:Int) (g:Nat×Nat)=>[(2,Av a),(7,.optr 7 g.1 0 0),(9,.optr 9 g.2 0 0),(11,.sl (d.Slots.map Ox)),(12,Av s)]) (O:=λ_ g=>[(7,dV g.1 3 39 (OB b)),(9,dV g.2 3 39 (OB c.1))]) (body:=λs=>Aip d b a c s) (s:=0) (_,_) hX<|?_
   rintro e ⟨t,u⟩ nn
   try dsimp only
   unfold Aip;refine Ac 9 ?_ ?_
   ·refine Ab 9 λv x=>?_
    refine A 6 ?_;refine NS r ?_ ?_
    ·exact B
    ·refine Ab 3 λz aa=>?_
     refine Ab 4 λab ac=>?_
     refine A 7 ?_;refine NS r ?_ ?_
     ·exact B
     ·refine Ab 3 λad ae=>?_
      refine Ab 4 λaf ag=>?_
      refine Ab 6 λah ai=>?_
      refine Ac 5 ?_ ?_
      ·exact B
      ·refine A 8 ?_;exact xL (s:=i64.wrap (e+1)) (_,_) hX
   ·exact B

def Ahb (a:Mk×NT×NN×Int):List D:=[NM a.1,QP a.2.1,OB a.2.2.1,Av a.2.2.2]
def Aha (ds:List D):Mk×NT×NN×Int:=(Qz (ds.getD 0 .top),Va (ds.getD 1 .top),AaY (ds.getD 2 .top),uI (ds.getD 3 .top))
instance:Oc Ahb Aha:=⟨λa=>by simp[Aha,Ahb,uI]⟩
def Aoy:Dw.Spec:=NI [] .ground Ahb Aha (λa=>Aey a.1 a.2.1 a.2.2.1 a.2.2.2) TT noE
theorem AsP:ND Tryz.prog 168 Aoy:=by
 refine fn2 4 (NJ (l:=[(143,Tq),(227,Agz)]) (by simp[Ub,AkM])) Tryz.func168<|?_
 rintro⟨a,b,c,d⟩;unfold Aey;refine Ab 14 λh i=>?_
 refine Ab 9 λe k=>?_
 refine A 8 ?_;refine sC (E:=λ(_s:Unit) (g:Nat×Nat×Nat)=>[(3,Av d),(4,.optr 4 g.1 0 0),(5,.optr 5 g.2.1 0 0),(6,.optr 6 g.2.2 0 0),(11,Av e.1)]) (O:=λ_ g=>[(4,dV g.1 3 36 (NM a)),(5,dV g.2.1 1 45 (.agg [.sl (b.Out.map (eL NA))])),(6,dV g.2.2 3 39 (OB c))]) (j:=λ_=>ZH b d e c a) ?_ ?_
 ·refine A 5 ?_;refine NS r ?_ ?_
  ·exact B
  ·refine A 4 ?_;refine NS r ?_ ?_
   ·refine Ab 4 λm o=>?_
    refine Ab 6 λp q=>?_
    refine Ac 7 ?_ ?_
    ·exact B
    ·refine A 1 ?_;exact xC (s:=()) (_,_,_) hX
   ·refine A 19 ?_;exact xC (s:=()) (_,_,_) hX
 ·rintro⟨⟩ ⟨t,u,v⟩ nn
  try dsimp only
  unfold ZH;refine A 7 ?_;refine lP (E:=λ(s:Int) (g:Nat×Nat×Nat)=>[(3,Av d),(4,.optr 4 g.1 0 0),(5,.optr 5 g.2.1 0 0),(6,.optr 6 g.2.2 0 0),(11,Av e.1),(13,Av s)]) (O:=λ_ g=>[(4,dV g.1 3 36 (NM a)),(5,dV g.2.1 1 45 (.agg [.sl (b.Out.map (eL NA))])),(6,dV g.2.2 3 39 (OB c))]) (body:=λs=>Adk b d e c a s) (s:=0) (_,_,_) hX<|?_
  rintro f ⟨x,z,aa⟩ nn
  try dsimp only
  unfold Adk;refine Ab 7 λab ac=>?_
  refine Ac 6 ?_ ?_
  ·refine Ab 9 λad ae=>?_
   refine Ab 3 λaf ag=>?_
   refine A 11 ?_;refine NS r ?_ ?_
   ·refine Ab 3 λah ai=>?_
    refine Ab 5 λaj ak=>?_
    refine Ab 7 λao ap=>?_
    refine Ab 5 λaq ar=>?_
    refine Ab 4 λau av=>?_
    refine Ac 4 ?_ ?_
    ·exact B
    ·refine A 8 ?_;exact xL (s:=i64.wrap (f+1)) (_,_,_) hX
   ·refine A 37 ?_;exact xL (s:=i64.wrap (f+1)) (_,_,_) hX
  ·exact B

def Aox:Dw.Spec:=NI [] .ground Wz Wy (λa=>AiJ a.1 a.2.1 a.2.2.1 a.2.2.2.1 a.2.2.2.2) Tx noE
theorem AsO:ND Tryz.prog 107 Aox:=by
 refine fn2 5 (NJ (l:=[(106,AjH),(104,Xm),(168,Aoy)]) (by simp[Ann,Zz,AsP])) Tryz.func107<|?_
 rintro⟨a,b,f,c,d⟩;unfold AiJ;refine A 10 ?_;refine sC (E:=λ(_s:Unit) (g:Nat×Nat×Nat)=>[(1,Av b),(5,.optr 5 g.1 0 0),(8,.optr 8 g.2.1 0 0),(9,.optr 9 g.2.2 0 0)]) (O:=λ_ g=>[(5,dV g.1 1 28 (.agg [.sl (a.Funcs.map NM)])),(8,dV g.2.1 1 45 (.agg [.sl (c.Out.map (eL NA))])),(9,dV g.2.2 3 39 (OB d))]) (j:=λ_=>Adj a b c d) ?_ ?_
 ·refine Ab 6 λh i=>?_
  refine A 3 ?_;refine NS r ?_ ?_
  ·exact B
  ·refine Ab 3 λk m=>?_
   refine Ab 3 λo p=>?_
   refine Ac 5 ?_ ?_
   ·exact B
   ·refine A 1 ?_;exact xC (s:=()) (_,_,_) hX
 ·rintro⟨⟩ ⟨q,t,u⟩ nn
  try dsimp only
  unfold Adj;refine A 7 ?_;refine lP (E:=λ(s:Int) (g:Nat×Nat×Nat)=>[(1,Av b),(5,.optr 5 g.1 0 0),(8,.optr 8 g.2.1 0 0),(9,.optr 9 g.2.2 0 0),(13,Av s)]) (O:=λ_ g=>[(5,dV g.1 1 28 (.agg [.sl (a.Funcs.map NM)])),(8,dV g.2.1 1 45 (.agg [.sl (c.Out.map (eL NA))])),(9,dV g.2.2 3 39 (OB d))]) (body:=λs=>Adi a b c d s) (s:=0) (_,_,_) hX<|?_
  rintro e ⟨v,x,z⟩ nn
  try dsimp only
  unfold Adi;refine Ab 7 λaa ab=>?_
  refine Ac 7 ?_ ?_
  ·refine Ab 9 λac ad=>?_
   refine Ab 5 λr9 af=>?_
   refine Ac 13 ?_ ?_
   ·exact B
   ·refine A 8 ?_;exact xL (s:=i64.wrap (e+1)) (_,_,_) hX
  ·exact B

def Aow:Dw.Spec:=NI [] .ground Wz Wy (λa=>AaT a.1 a.2.1 a.2.2.1 a.2.2.2.1 a.2.2.2.2) NC noE
theorem AsN:ND Tryz.prog 45 Aow:=by
 refine fn2 5 (NJ (l:=[(106,AjH),(104,Xm),(107,Aox)]) (by simp[Ann,Zz,AsO])) Tryz.func45<|?_
 intro a;unfold AaT;exact B

def Ano:Dw.Spec:=NI [] .val YR YQ (λa=>Acu a.1 a.2.1 a.2.2) Abo noE
theorem Asd:ND Tryz.prog 13 Ano:=by
 refine fn2 3 (NJ (l:=[(32,AeN),(34,Aar),(44,Aou),(33,AeQ),(35,Acs),(45,Aow)]) (by simp[AhS,AdR,AsL,Aij,AeX,AsN])) Tryz.func13<|?_
 rintro⟨d,e,c⟩;unfold Acu;refine Ab 15 λf k=>?_
 refine Ab 3 λh m=>?_
 refine Ab 11 λa o=>?_
 refine Ac 16 ?_ ?_
 ·refine A 13 ?_;refine Pd (b:=((Mk.mk 0 ([]) ([])),(NN.mk 0 0 ([])),0,a.2)) r ?_ r r ?_ (by first|rfl|(simp only[NH];rfl)|(simp only[NK];rfl)|(simp only[NH,NK];rfl)|(simp[Abo,NM,OB];try rfl)) (by decide)
  all_goals first|(simp;done)|(simp;omega)|rfl|(simp[OJ,OG];done)|(simp[cells];done)
 ·refine A 2 ?_;refine sC (E:=λ(_s:Unit) (g:Nat×Nat×Nat×Nat×Nat×Nat)=>[(1,Av e),(3,.optr 3 g.1 0 0),(5,.optr 5 g.2.1 0 0),(6,.optr 6 g.2.2.1 0 0),(7,.optr 7 g.2.2.2.1 0 0),(10,.optr 10 g.2.2.2.2.1 0 0),(11,Av h),(12,.optr 12 g.2.2.2.2.2 0 0)]) (O:=λ_ g=>[(3,dV g.1 1 28 (.agg [.sl (d.Funcs.map NM)])),(5,dV g.2.1 7 50 (Oe c)),(6,dV g.2.2.1 3 36 (.agg [Av 0,.nils,.nils])),(7,dV g.2.2.2.1 3 39 (.agg [Av 0,Av 0,.nils])),(10,dV g.2.2.2.2.1 3 36 (NM f)),(12,dV g.2.2.2.2.2 3 39 (OB a.1))]) (j:=λ_=>UU d e h c f a) ?_ ?_
  ·refine Ab 7 λp q=>?_
   refine Ac 4 ?_ ?_
   ·refine Ab 5 λi t=>?_
    refine A 9 ?_;refine sC (E:=λ(s:Bool) (g:Nat×Nat×Nat×Nat×Nat×Nat×Nat)=>[(1,Av e),(3,.optr 3 g.1 0 0),(5,.optr 5 g.2.1 0 0),(6,.optr 6 g.2.2.1 0 0),(7,.optr 7 g.2.2.2.1 0 0),(10,.optr 10 g.2.2.2.2.1 0 0),(11,Av h),(12,.optr 12 g.2.2.2.2.2.1 0 0),(14,.optr 14 g.2.2.2.2.2.2 0 0),(68,.bool s)]) (O:=λ_ g=>[(3,dV g.1 1 28 (.agg [.sl (d.Funcs.map NM)])),(5,dV g.2.1 7 50 (Oe c)),(6,dV g.2.2.1 3 36 (.agg [Av 0,.nils,.nils])),(7,dV g.2.2.2.1 3 39 (.agg [Av 0,Av 0,.nils])),(10,dV g.2.2.2.2.1 3 36 (NM f)),(12,dV g.2.2.2.2.2.1 3 39 (OB a.1)),(14,dV g.2.2.2.2.2.2 3 36 (NM i.1))]) (j:=λs=>UW i c d e h f a s) ?_ ?_
    ·refine Ab 4 λu v=>?_
     refine Ab 7 λx z=>?_
     refine A 3 ?_;refine NS r ?_ ?_
     ·refine A 8 ?_;exact xC (s:=(decide (c.Layout.Size<=a.1.Size))) (_,_,_,_,_,_,_) hX
     ·refine A 8 ?_;exact xC (s:=false) (_,_,_,_,_,_,_) hX
    ·rintro aa ⟨ab,ac,ad,ae,af,ag,ah⟩ nn
     try dsimp only
     unfold UW;refine cD r ?_ ?_
     ·exact B
     ·refine A 1 ?_;exact xC (s:=()) (_,_,_,_,_,_) hX
   ·refine A 1 ?_;exact xC (s:=()) (_,_,_,_,_,_) hX
  ·rintro⟨⟩ ⟨ai,aj,ak,ao,ap,aq⟩ nn
   try dsimp only
   unfold UU;exact B

def Acl (a:(List Lo)×(List Lo)):List D:=[.sl (a.1.map NX),.sl (a.2.map NX)]
def Ack (ds:List D):(List Lo)×(List Lo):=((uL QO) (ds.getD 0 .top),(uL QO) (ds.getD 1 .top))
instance:Oc Acl Ack:=⟨λa=>by simp[Ack,Acl,Oy (u:=QO) (en:=NX) AaA]⟩
def AkO:Dw.Spec:=NI [] .ground Acl Ack (λa=>Zx a.1 a.2) NW noE
theorem AqC:ND Tryz.prog 46 AkO:=by
 refine fn2 2 (NZ) Tryz.func46<|?_;rintro⟨a,b⟩;unfold Zx;refine Ac 15 ?_ ?_
 ·exact B
 ·refine A 9 ?_;refine lP (E:=λ(s:Int) (_g:Unit)=>[(0,.sl (a.map NX)),(1,.sl (b.map NX)),(5,Av s)]) (O:=λ_ _=>[]) (body:=λs=>Vt a b s) (s:=0) () hX<|?_
  rintro c ⟨⟩ nn
  try dsimp only
  unfold Vt;refine Ac 9 ?_ ?_
  ·refine Ab 8 λd e=>?_
   refine Ab 4 λf g=>?_
   refine Ac 5 ?_ ?_
   ·exact B
   ·refine A 8 ?_;exact xL (s:=i64.wrap (c+1)) () hX
  ·exact B

def Acn (a:Mk×Mk):List D:=[NM a.1,NM a.2]
def Acm (ds:List D):Mk×Mk:=(Qz (ds.getD 0 .top),Qz (ds.getD 1 .top))
instance:Oc Acn Acm:=⟨λa=>by simp[Acm,Acn]⟩
def AkP:Dw.Spec:=NI [] .ground Acn Acm (λa=>Zy a.1 a.2) NW noE
theorem AqD:ND Tryz.prog 14 AkP:=by
 refine fn2 2 (NJ (l:=[(46,AkO)]) (by simp[AqC])) Tryz.func14<|?_
 rintro⟨a,b⟩;unfold Zy;refine A 7 ?_;refine sC (E:=λ(_s:Unit) (g:Nat×Nat)=>[(2,.optr 2 g.1 0 0),(3,.optr 3 g.2 0 0)]) (O:=λ_ g=>[(2,dV g.1 3 36 (NM a)),(3,dV g.2 3 36 (NM b))]) (j:=λ_=>YX a b) ?_ ?_
 ·refine A 8 ?_;refine NS r ?_ ?_
  ·exact B
  ·refine A 9 ?_;refine NS r ?_ ?_
   ·exact B
   ·refine Ab 4 λd e=>?_
    refine Ac 5 ?_ ?_
    ·exact B
    ·refine A 1 ?_;exact xC (s:=()) (_,_) hX
 ·rintro⟨⟩ ⟨f,h⟩ nn
  try dsimp only
  unfold YX;refine A 7 ?_;refine lP (E:=λ(s:Int) (g:Nat×Nat)=>[(2,.optr 2 g.1 0 0),(3,.optr 3 g.2 0 0),(5,Av s)]) (O:=λ_ g=>[(2,dV g.1 3 36 (NM a)),(3,dV g.2 3 36 (NM b))]) (body:=λs=>Vu a b s) (s:=0) (_,_) hX<|?_
  rintro c ⟨i,k⟩ nn
  try dsimp only
  unfold Vu;refine Ac 10 ?_ ?_
  ·refine Ab 9 λm o=>?_
   refine Ab 5 λp q=>?_
   refine Ac 5 ?_ ?_
   ·exact B
   ·refine A 8 ?_;exact xL (s:=i64.wrap (c+1)) (_,_) hX
  ·exact B

def Aio (a:NN×NN):List D:=[OB a.1,OB a.2]
def Ain (ds:List D):NN×NN:=(AaY (ds.getD 0 .top),AaY (ds.getD 1 .top))
instance:Oc Aio Ain:=⟨λa=>by simp[Ain,Aio]⟩
def ApR:Dw.Spec:=NI [] .ground Aio Ain (λa=>AgX a.1 a.2) NW noE
theorem AtH:ND Tryz.prog 15 ApR:=by
 refine fn2 2 (NZ) Tryz.func15<|?_;rintro⟨a,b⟩;unfold AgX;refine A 7 ?_;refine sC (E:=λ(_s:Unit) (g:Nat×Nat)=>[(2,.optr 2 g.1 0 0),(3,.optr 3 g.2 0 0)]) (O:=λ_ g=>[(2,dV g.1 3 39 (OB a)),(3,dV g.2 3 39 (OB b))]) (j:=λ_=>AeW a b) ?_ ?_
 ·refine A 8 ?_;refine NS r ?_ ?_
  ·exact B
  ·refine A 7 ?_;refine NS r ?_ ?_
   ·exact B
   ·refine Ac 10 ?_ ?_
    ·exact B
    ·refine A 1 ?_;exact xC (s:=()) (_,_) hX
 ·rintro⟨⟩ ⟨d,e⟩ nn
  try dsimp only
  unfold AeW;refine A 7 ?_;refine lP (E:=λ(s:Int) (g:Nat×Nat)=>[(2,.optr 2 g.1 0 0),(3,.optr 3 g.2 0 0),(5,Av s)]) (O:=λ_ g=>[(2,dV g.1 3 39 (OB a)),(3,dV g.2 3 39 (OB b))]) (body:=λs=>AeV a b s) (s:=0) (_,_) hX<|?_
  rintro c ⟨f,h⟩ nn
  try dsimp only
  unfold AeV;refine Ac 10 ?_ ?_
  ·refine Ab 9 λi k=>?_
   refine Ab 5 λl m=>?_
   refine Ac 5 ?_ ?_
   ·exact B
   ·refine A 8 ?_;exact xL (s:=i64.wrap (c+1)) (_,_) hX
  ·exact B

def Ut (a:(List Int)×(List NR)):List D:=[.sl (a.1.map eU8),.sl (a.2.map Oe)]
def Us (ds:List D):(List Int)×(List NR):=((uL uI) (ds.getD 0 .top),(uL Yn) (ds.getD 1 .top))
theorem AfJ (a:(List Int)×(List NR)):Us (Ut a)=a:=by simp[Us,Ut,Oy (u:=uI) (en:=eU8) (λ_=>rfl),Oy (u:=Yn) (en:=Oe) Amt]
instance:Oc Ut Us:=⟨AfJ⟩
def AnP:Dw.Spec:=NI [] .ground Ut Us (λa=>XY a.1 a.2) NW noE
theorem AmV:ND Tryz.prog 3 AnP:=by
 refine fn2 2 (NJ (l:=[(9,Aod),(10,Apw),(11,Aof),(12,Abp),(13,Ano),(14,AkP),(15,ApR)]) (by simp[Asu,Ats,Asw,Akx,Asd,AqD,AtH])) Tryz.func3<|?_
 rintro⟨f,b⟩;unfold XY;refine A 5 ?_;refine sC (E:=λ(_s:Unit) (_g:Unit)=>[(0,.sl (f.map eU8)),(1,.sl (b.map Oe))]) (O:=λ_ _=>[]) (j:=λ_=>US f b) ?_ ?_
 ·refine Ab 2 λi k=>?_
  refine A 3 ?_;refine NS r ?_ ?_
  ·exact B
  ·refine Ab 1 λm o=>?_
   refine Ac 5 ?_ ?_
   ·exact B
   ·refine A 1 ?_;exact xC (s:=()) () hX
 ·rintro⟨⟩ ⟨⟩ nn
  try dsimp only
  unfold US;refine A 3 ?_;refine bD λa h=>Asi (rs:=[Ps a.1,.sl (a.2.1.map Oe),Ow a.2.2]) (z:=Ow a.2.2) f r r r Oc.ok r r (by simp) r h r r<|?_
  refine A 15 ?_;refine bS ([a.2.1,b]:List (List NR)) (eL Oe) r r r (by simp) r r r<|?_
  refine A 5 ?_;refine lP (E:=λ(s:Int) (g:Nat×Nat)=>[(5,.optr 5 g.1 0 0),(37,.osl 37 g.2 0 (([a.2.1,b]:List (List NR)).length)),(38,Av (([a.2.1,b]:List (List NR)).length:Int)),(39,Av s)]) (O:=λ_ g=>[(5,dV g.1 1 28 (.agg [.sl (a.1.Funcs.map NM)])),(37,dW g.2 1 23 (([a.2.1,b]:List (List NR)).map (eL Oe)))]) (body:=λs=>SG a b s) (s:=0) (_,_) hX<|?_
  rintro d ⟨p,q⟩ nn
  try dsimp only
  unfold SG;refine Ac 6 ?_ ?_
  ·refine Ab 7 λc t=>?_
   refine A 10 ?_;refine lP (E:=λ(s:Int) (g:Nat×Nat)=>[(5,.optr 5 g.1 0 0),(9,.sl (c.map Oe)),(10,Av s),(37,.osl 37 g.2 0 (([a.2.1,b]:List (List NR)).length)),(38,Av (([a.2.1,b]:List (List NR)).length:Int)),(39,Av d)]) (O:=λ_ g=>[(5,dV g.1 1 28 (.agg [.sl (a.1.Funcs.map NM)])),(37,dW g.2 1 23 (([a.2.1,b]:List (List NR)).map (eL Oe)))]) (body:=λs=>UR a c d s) (s:=0) (_,_) hX<|?_
   rintro e ⟨u,v⟩ nn
   try dsimp only
   unfold UR;refine sC (E:=λ(_s:Unit) (g:Nat×Nat)=>[(5,.optr 5 g.1 0 0),(9,.sl (c.map Oe)),(10,Av e),(37,.osl 37 g.2 0 (([a.2.1,b]:List (List NR)).length)),(38,Av (([a.2.1,b]:List (List NR)).length:Int)),(39,Av d),(49,Av e),(50,.sl (c.map Oe)),(51,Av (c.length:Int)),(52,.bool (decide (e<(c.length:Int))))]) (O:=λ_ g=>[(5,dV g.1 1 28 (.agg [.sl (a.1.Funcs.map NM)])),(37,dW g.2 1 23 (([a.2.1,b]:List (List NR)).map (eL Oe)))]) (j:=λ_=>SH c e a) ?_ ?_
   ·refine A 8 ?_;refine NS r ?_ ?_
    ·refine Ac 7 ?_ ?_
     ·refine A 1 ?_;exact xC (s:=()) (_,_) hX
     ·refine A 10 ?_;exact xL (s:=i64.wrap (d+1)) (_,_) hX
    ·refine A 18 ?_;exact xL (s:=i64.wrap (d+1)) (_,_) hX
   ·rintro⟨⟩ ⟨x,aa⟩ nn
    try dsimp only
    unfold SH;refine Ab 8 λab ac=>?_
    refine Ab 2 λr8 ae=>?_
    refine Ab 20 λaf ag=>?_
    refine Ab 2 λah ai=>?_
    refine A 20 ?_;refine NS r ?_ ?_
    ·exact B
    ·refine A 5 ?_;refine NS r ?_ ?_
     ·exact B
     ·refine Ab 2 λaj ak=>?_
      refine A 4 ?_;refine NS r ?_ ?_
      ·exact B
      ·refine Ab 2 λao ap=>?_
       refine Ac 5 ?_ ?_
       ·exact B
       ·refine A 8 ?_;exact xL (s:=i64.wrap (e+1)) (_,_) hX
  ·exact B

end
end Go.Proofs.YtcaoepecbgggcaaGreatDoor
