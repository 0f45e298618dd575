/-
 The code does what its typed programs say.
-/
import Derived.Test.YtcaoepecbgggcaaGreatDoorProg
import Derived.Test.YtcaoepecbgggcaaGreatDoorDc
import Derived.KernelRfl
import Derived.Test.YtcaoepecbgggcaaGreatDoorSh
import Derived.Test.YtcaoepecbgggcaaGreatDoorDxP
import Derived.Test.YtcaoepecbgggcaaGreatDoorDxF1
import Derived.Test.YtcaoepecbgggcaaGreatDoorDxF2
import Derived.Test.YtcaoepecbgggcaaGreatDoorDxF3
import Derived.Test.YtcaoepecbgggcaaGreatDoorDxF4
import Derived.Test.YtcaoepecbgggcaaGreatDoorDg5
namespace Go.Proofs.YtcaoepecbgggcaaGreatDoor
open Go Go.Dw Go.Proofs
open Go.IntKind (i64)
set_option maxRecDepth 100000
set_option maxHeartbeats 40000000
open Go.Dw renaming Ql -> bD,YI -> bS,Ym -> cG,UZ -> cD,Xt -> xC,Ui -> xL,Xu -> lP,Tt -> sC,Wh -> bC,Aqe -> mF,rf -> r
noncomputable section
def Aba:Dw.Spec:=NI [] .ground RY TI (λa=>Vk a.1 a.2.1 a.2.2) NC noE
theorem AnA:ND Tryz.prog 114 Aba:=by
 refine fn2 3 (NJ (l:=[(178,Afy),(179,AlE)]) (by simp[AdZ,Awi])) Tryz.func114<|?_
 intro a;unfold Vk;exact B

def AeL:Dw.Spec:=NI [] .ground SQ SP (λa=>RG a.1 a.2) NW noE
theorem AhF:ND Tryz.prog 244 AeL:=by
 refine fn2 2 (NZ) Tryz.func244<|?_;intro a;unfold RG;exact B

def AiB (a:OP×Int):List D:=[Ahy a.1,Av a.2]
def AiA (ds:List D):OP×Int:=(Aiw (ds.getD 0 .top),uI (ds.getD 1 .top))
instance:Oc AiB AiA:=⟨λa=>by simp[AiA,AiB,uI]⟩
def Atg (b:Oz×Bool):D:=.tup [Qd b.1,.bool b.2]
def ApD:Dw.Spec:=NI [] .val AiB AiA (λa=>Ana a.1 a.2) Atg noE
theorem ArS:ND Tryz.prog 181 ApD:=by
 refine fn2 2 (NJ (l:=[(244,AeL),(150,Zl)]) (by simp[AhF,Abq])) Tryz.func181<|?_
 rintro⟨a,c⟩;unfold Ana;refine Ab 14 λd e=>?_
 refine Ac 4 ?_ ?_
 ·refine A 9 ?_;refine Pd (b:=((Oz.mk (OI.mk 0 0 ([])) 0 0),false)) r ?_ r r ?_ (by first|rfl|(simp only[NH];rfl)|(simp only[NK];rfl)|(simp only[NH,NK];rfl)|(simp[Atg,Qd];try rfl)) (by decide)
  all_goals first|(simp;done)|(simp;omega)|rfl|(simp[OJ,OG];done)|(simp[cells];done)
 ·exact B

def Ajt:Dw.Spec:=NI [] .ground Pq Pp (λa=>Aeo a) NW noE
theorem AmZ:ND Tryz.prog 272 Ajt:=by
 refine fn2 1 (NZ) Tryz.func272<|?_;intro a;unfold Aeo;exact B

def Aoi:Dw.Spec:=NI [] .ground PR PQ (λa=>AiC a) NW noE
theorem Asz:ND Tryz.prog 269 Aoi:=by
 refine fn2 1 (NJ (l:=[(272,Ajt)]) (by simp[AmZ])) Tryz.func269<|?_
 intro a;unfold AiC;refine A 6 ?_;refine sC (E:=λ(s:Bool) (g:Nat)=>[(1,.optr 1 g 0 0),(3,.bool s)]) (O:=λ_ g=>[(1,dV g 5 90 (NX a))]) (j:=λs=>Zp a s) ?_ ?_
 ·refine A 5 ?_;refine NS r ?_ ?_
  ·refine A 6 ?_;exact xC (s:=true) _ hX
  ·refine A 6 ?_;exact xC (s:=(a.Op==24)) _ hX
 ·rintro b d nn
  try dsimp only
  unfold Zp;refine A 5 ?_;refine bC (E:=λ(s:Int) (g:Nat)=>[(1,.optr 1 g 0 0),(3,.bool b),(4,Av s)]) (O:=λ_ g=>[(1,dV g 5 90 (NX a))]) (j:=λs=>RV a b s) ?_ ?_
  ·refine sC (E:=λ(s:Bool) (g:Nat)=>[(1,.optr 1 g 0 0),(3,.bool b),(4,Av 2),(13,.bool s)]) (O:=λ_ g=>[(1,dV g 5 90 (NX a))]) (j:=λs=>We a b s) ?_ ?_
   ·refine Ab 4 λc e=>?_
    refine Ac 4 ?_ ?_
    ·refine A 1 ?_;exact xC (s:=c) _ hX
    ·refine A 5 ?_;refine NS r ?_ ?_
     ·refine A 6 ?_;exact xC (s:=(decide (a.Op<=11))) _ hX
     ·refine A 6 ?_;exact xC (s:=false) _ hX
   ·rintro f h nn
    try dsimp only
    unfold We;refine cD r ?_ ?_
    ·refine A 3 ?_;exact Oj (s:=3) _ hX
    ·refine sC (E:=λ(s:Bool) (g:Nat)=>[(1,.optr 1 g 0 0),(3,.bool b),(4,Av 2),(25,.bool s)]) (O:=λ_ g=>[(1,dV g 5 90 (NX a))]) (j:=λs=>SJ a b s) ?_ ?_
     ·refine Ac 8 ?_ ?_
      ·refine A 1 ?_;exact xC (s:=(a.Op==0)) _ hX
      ·refine Ac 8 ?_ ?_
       ·refine A 1 ?_;exact xC (s:=(a.Op==13)) _ hX
       ·refine Ac 8 ?_ ?_
        ·refine A 1 ?_;exact xC (s:=(a.Op==14)) _ hX
        ·refine Ac 8 ?_ ?_
         ·refine A 1 ?_;exact xC (s:=(a.Op==20)) _ hX
         ·refine A 6 ?_;exact xC (s:=(a.Op==22)) _ hX
     ·rintro i k nn
      try dsimp only
      unfold SJ;refine cD r ?_ ?_
      ·refine A 3 ?_;exact Oj (s:=1) _ hX
      ·refine Ac 9 ?_ ?_
       ·refine Ac 2 ?_ ?_
        ·refine A 3 ?_;exact Oj (s:=0) _ hX
        ·refine A 1 ?_;exact Oj (s:=2) _ hX
       ·refine Ac 7 ?_ ?_
        ·refine A 3 ?_;exact Oj (s:=0) _ hX
        ·refine A 1 ?_;exact Oj (s:=2) _ hX
  ·rintro m o nn
   try dsimp only
   unfold RV;exact B

def AkG:Dw.Spec:=NI [] (.row 1 3) PR PQ (λa=>AcP a) OC noE
theorem AqB:ND Tryz.prog 270 AkG:=by
 refine fn2 1 (NZ) Tryz.func270<|?_;intro a;unfold AcP;refine A 8 ?_;refine sC (E:=λ(s:Bool) (g:Nat)=>[(1,.optr 1 g 0 0),(3,.bool s)]) (O:=λ_ g=>[(1,dV g 5 90 (NX a))]) (j:=λs=>Vp a s) ?_ ?_
 ·refine A 5 ?_;refine NS r ?_ ?_
  ·refine A 6 ?_;exact xC (s:=(decide (a.Op<=11))) _ hX
  ·refine A 6 ?_;exact xC (s:=false) _ hX
 ·rintro b c nn
  try dsimp only
  unfold Vp;refine cD r ?_ ?_
  ·refine A 8 ?_;refine bS ([a.A,a.B,a.C]:List Int) NA r r r (by simp) r r r<|?_
   exact B
  ·refine sC (E:=λ(s:Bool) (g:Nat)=>[(1,.optr 1 g 0 0),(19,.bool s)]) (O:=λ_ g=>[(1,dV g 5 90 (NX a))]) (j:=λs=>Vq a s) ?_ ?_
   ·refine Ac 8 ?_ ?_
    ·refine A 1 ?_;exact xC (s:=(a.Op==1)) _ hX
    ·refine A 6 ?_;exact xC (s:=(a.Op==12)) _ hX
   ·rintro d e nn
    try dsimp only
    unfold Vq;refine cD r ?_ ?_
    ·refine A 6 ?_;refine bS ([a.A,a.B]:List Int) NA r r r (by simp) r r r<|?_
     exact B
    ·refine sC (E:=λ(s:Bool) (g:Nat)=>[(1,.optr 1 g 0 0),(31,.bool s)]) (O:=λ_ g=>[(1,dV g 5 90 (NX a))]) (j:=λs=>Rg a s) ?_ ?_
     ·refine Ac 8 ?_ ?_
      ·refine A 1 ?_;exact xC (s:=(a.Op==0)) _ hX
      ·refine Ac 8 ?_ ?_
       ·refine A 1 ?_;exact xC (s:=(a.Op==13)) _ hX
       ·refine Ac 8 ?_ ?_
        ·refine A 1 ?_;exact xC (s:=(a.Op==14)) _ hX
        ·refine Ac 8 ?_ ?_
         ·refine A 1 ?_;exact xC (s:=(a.Op==15)) _ hX
         ·refine A 6 ?_;exact xC (s:=(a.Op==21)) _ hX
     ·rintro f h nn
      try dsimp only
      unfold Rg;exact B

def Agv:Dw.Spec:=NI [] .ground Pq Pp (λa=>Yd a) NW noE
theorem AmY:ND Tryz.prog 271 Agv:=by
 refine fn2 1 (NJ (l:=[(244,AeL)]) (by simp[AhF])) Tryz.func271<|?_
 intro a;unfold Yd;exact B

def Pa (a:(List Int)):List D:=[.sl (a.map NA),.clo 271 []]
def PA (ds:List D):(List Int):=(uL uI) (ds.getD 0 .top)
instance:Oc Pa PA:=⟨λa=>by simp[PA,Pa,Oy (u:=uI) (en:=NA) (λ_=>rfl)]⟩
def QL:Dw.Spec:=NI [] .ground Pa PA (λa=>Qb a) NC noE
theorem ZL:ND Tryz.prog 267 QL:=by
 refine fn2 2 (NJ (l:=[(271,Agv)]) (by simp[AmY])) Tryz.func267<|?_
 intro a;unfold Qb;refine A 14 ?_;refine lP (E:=λ(s:Int) (_g:Unit)=>[(0,.sl (a.map NA)),(1,.clo 271 []),(7,Av (a.length:Int)),(8,Av s)]) (O:=λ_ _=>[]) (body:=λs=>PH a s) (s:=0) () hX<|?_
 rintro b ⟨⟩ nn
 try dsimp only
 unfold PH;refine Ac 6 ?_ ?_
 ·refine Ab 15 λc d=>?_
  refine Ab 2 λe f=>?_
  refine Ac 3 ?_ ?_
  ·exact B
  ·refine A 7 ?_;exact xL (s:=i64.wrap (b+1)) () hX
 ·exact B

def Qy:Dw.Spec:=NI [] .ground Pa PA (λa=>PG a) NW noE
theorem YH:ND Tryz.prog 233 Qy:=by
 refine fn2 2 (NJ (l:=[(1114379,QL)]) (by simp[ZL])) Tryz.func233<|?_
 intro a;unfold PG;refine A 9 ?_;refine bD λc b=>cG a rfl rfl (show _=some QL from by kernel_rfl) Oc.ok rfl rfl (by simp) r b r<|?_
 exact B

def AcO (a:OI×Lo):List D:=[OK a.1,NX a.2]
def AcN (ds:List D):OI×Lo:=(Alg (ds.getD 0 .top),QO (ds.getD 1 .top))
instance:Oc AcO AcN:=⟨λa=>by simp[AcN,AcO]⟩
def ApB (b:NV×Bool):D:=.tup [PF b.1,.bool b.2]
def ApC:Dw.Spec:=NI [] .val AcO AcN (λa=>AjX a.1 a.2) ApB noE
theorem Atw:ND Tryz.prog 273 ApC:=by
 refine fn2 2 (NZ) Tryz.func273<|?_;intro a;unfold AjX;exact B

def Aoh:Dw.Spec:=NI [] .val AcO AcN (λa=>Aiz a.1 a.2) ApB noE
theorem Asy:ND Tryz.prog 274 Aoh:=by
 refine fn2 2 (NZ) Tryz.func274<|?_;intro a;unfold Aiz;exact B

def Aal (a:Oz×Lo):List D:=[Qd a.1,NX a.2]
def Aak (ds:List D):Oz×Lo:=(AaZ (ds.getD 0 .top),QO (ds.getD 1 .top))
instance:Oc Aal Aak:=⟨λa=>by simp[Aak,Aal]⟩
def Aja:Dw.Spec:=NI [] .ground Aal Aak (λa=>Aaj a.1 a.2) NC noE
theorem AoM:ND Tryz.prog 243 Aja:=by
 refine fn2 2 (NJ (l:=[(244,AeL),(269,Aoi),(270,AkG),(1114345,Qy),(272,Ajt),(209,Ali),(273,ApC),(274,Aoh),(263,Agn)]) (by simp[AhF,Asz,AqB,YH,AmZ,AoC,Atw,Asy,Akz])) Tryz.func243<|?_
 rintro⟨a,b⟩;unfold Aaj;refine A 7 ?_;refine sC (E:=λ(_s:Unit) (g:Nat×Nat)=>[(2,.optr 2 g.1 0 0),(3,.optr 3 g.2 0 0)]) (O:=λ_ g=>[(2,dV g.1 5 200 (Qd a)),(3,dV g.2 5 90 (NX b))]) (j:=λ_=>WR b a) ?_ ?_
 ·refine Ab 4 λe f=>?_
  refine A 3 ?_;refine NS r ?_ ?_
  ·exact B
  ·refine A 5 ?_;refine NS r ?_ ?_
   ·exact B
   ·refine Ac 6 ?_ ?_
    ·exact B
    ·refine A 1 ?_;exact xC (s:=()) (_,_) hX
 ·rintro⟨⟩ ⟨h,i⟩ nn
  try dsimp only
  unfold WR;refine Ab 4 λk m=>?_
  refine Ac 3 ?_ ?_
  ·exact B
  ·refine A 2 ?_;refine sC (E:=λ(_s:Unit) (g:Nat×Nat)=>[(2,.optr 2 g.1 0 0),(3,.optr 3 g.2 0 0)]) (O:=λ_ g=>[(2,dV g.1 5 200 (Qd a)),(3,dV g.2 5 90 (NX b))]) (j:=λ_=>TQ b a) ?_ ?_
   ·refine Ab 3 λc o=>?_
    refine A 1 ?_;refine bD λp d=>cG c rfl rfl (show _=some Qy from by kernel_rfl) Oc.ok rfl rfl (by simp) (by first|rfl|(simp only[NH];rfl)|(simp only[NK];rfl)|(simp only[NH,NK];rfl)|simp[Pa]) d r<|?_
    refine A 1 ?_;refine NS r ?_ ?_
    ·exact B
    ·refine A 4 ?_;refine NS r ?_ ?_
     ·refine Ab 4 λq t=>?_
      refine Ac 6 ?_ ?_
      ·exact B
      ·refine A 1 ?_;exact xC (s:=()) (_,_) hX
     ·refine A 12 ?_;exact xC (s:=()) (_,_) hX
   ·rintro⟨⟩ ⟨u,v⟩ nn
    try dsimp only
    unfold TQ;refine sC (E:=λ(_s:Unit) (g:Nat×Nat)=>[(2,.optr 2 g.1 0 0),(3,.optr 3 g.2 0 0)]) (O:=λ_ g=>[(2,dV g.1 5 200 (Qd a)),(3,dV g.2 5 90 (NX b))]) (j:=λ_=>TR a b) ?_ ?_
    ·refine Ab 4 λx z=>?_
     refine A 2 ?_;refine NS r ?_ ?_
     ·refine Ab 2 λaa ab=>?_
      refine Ac 5 ?_ ?_
      ·exact B
      ·refine A 1 ?_;exact xC (s:=()) (_,_) hX
     ·refine A 9 ?_;exact xC (s:=()) (_,_) hX
    ·rintro⟨⟩ ⟨ac,ad⟩ nn
     try dsimp only
     unfold TR;refine Ab 5 λr4 af=>?_
     refine Ab 14 λr5 ah=>?_
     refine A 9 ?_;refine sC (E:=λ(_s:Unit) (g:Nat×Nat)=>[(2,.optr 2 g.1 0 0),(3,.optr 3 g.2 0 0)]) (O:=λ_ g=>[(2,dV g.1 5 200 (Qd a)),(3,dV g.2 5 90 (NX b))]) (j:=λ_=>Rl b a) ?_ ?_
     ·refine A 4 ?_;refine NS r ?_ ?_
      ·refine Ab 9 λr9 aj=>?_
       refine A 4 ?_;refine NS r ?_ ?_
       ·exact B
       ·refine A 2 ?_;refine NS r ?_ ?_
        ·refine Ab 4 λak ao=>?_
         refine Ac 6 ?_ ?_
         ·exact B
         ·refine A 1 ?_;exact xC (s:=()) (_,_) hX
        ·refine A 12 ?_;exact xC (s:=()) (_,_) hX
      ·refine A 15 ?_;refine NS r ?_ ?_
       ·refine Ab 4 λap aq=>?_
        refine Ac 6 ?_ ?_
        ·exact B
        ·refine A 1 ?_;exact xC (s:=()) (_,_) hX
       ·refine A 12 ?_;exact xC (s:=()) (_,_) hX
     ·rintro⟨⟩ ⟨ar,au⟩ nn
      try dsimp only
      unfold Rl;exact B

def AjQ:Dw.Spec:=NI [] .ground AiB AiA (λa=>Abu a.1 a.2) NC noE
theorem ApA:ND Tryz.prog 180 AjQ:=by
 refine fn2 2 (NJ (l:=[(181,ApD),(243,Aja),(230,Aay)]) (by simp[ArS,AoM,AdS])) Tryz.func180<|?_
 rintro⟨c,d⟩;unfold Abu;refine Ab 10 λa e=>?_
 refine Ac 18 ?_ ?_
 ·exact B
 ·refine Ac 10 ?_ ?_
  ·exact B
  ·refine A 14 ?_;refine lP (E:=λ(s:Int) (g:Nat)=>[(5,.optr 5 g 0 0),(28,.sl (a.1.Frame.Code.map NX)),(29,Av (a.1.Frame.Code.length:Int)),(30,Av s)]) (O:=λ_ g=>[(5,dV g 5 200 (Qd a.1))]) (body:=λs=>Yc a s) (s:=0) _ hX<|?_
   rintro b f nn
   try dsimp only
   unfold Yc;refine Ac 6 ?_ ?_
   ·refine Ab 6 λh i=>?_
    refine Ab 10 λj k=>?_
    refine Ac 10 ?_ ?_
    ·exact B
    ·refine A 7 ?_;exact xL (s:=i64.wrap (b+1)) _ hX
   ·exact B

def TY (a:Lo×OP×Oz):List D:=[NX a.1,.fptr (Ahy a.2.1) 0,.fptr (Qd a.2.2) 0]
def TX (ds:List D):Lo×OP×Oz:=(QO (ds.getD 0 .top),Aiw (fpD (ds.getD 1 .top)),AaZ (fpD (ds.getD 2 .top)))
instance:Oc TY TX:=⟨λa=>by simp[TX,TY,fpD]⟩
def AaF:Dw.Spec:=NI [] .ground TY TX (λa=>Tm a.1 a.2.1 a.2.2) NW noE
theorem AiY:ND Tryz.prog 246 AaF:=by
 refine fn2 3 (NZ) Tryz.func246<|?_;intro a;unfold Tm;exact B

def OR (a:(List Lo)×OP×Oz):List D:=[.sl (a.1.map NX),.clo 246 [.fptr (Ahy a.2.1) 0,.fptr (Qd a.2.2) 0]]
def OQ (ds:List D):(List Lo)×OP×Oz:=((uL QO) (ds.getD 0 .top),Aiw (fpD (Ajl (ds.getD 1 .top) 0)),AaZ (fpD (Ajl (ds.getD 1 .top) 1)))
instance:Oc OR OQ:=⟨λa=>by simp[OQ,OR,fpD,Ajl,Oy (u:=QO) (en:=NX) AaA]⟩
def PD:Dw.Spec:=NI [] .ground OR OQ (λa=>Pb a.1 a.2.1 a.2.2) NC noE
theorem UI:ND Tryz.prog 275 PD:=by
 refine fn2 2 (NJ (l:=[(246,AaF)]) (by simp[AiY])) Tryz.func275<|?_
 rintro⟨a,b,c⟩;unfold Pb;refine A 14 ?_;refine lP (E:=λ(s:Int) (_g:Unit)=>[(0,.sl (a.map NX)),(1,.clo 246 [.fptr (.agg [Av b.Align,.sl (b.Frames.map OK)]) 0,.fptr (Qd c) 0]),(7,Av (a.length:Int)),(8,Av s)]) (O:=λ_ _=>[]) (body:=λs=>OW a b c s) (s:=0) () hX<|?_
 rintro d ⟨⟩ nn
 try dsimp only
 unfold OW;refine Ac 6 ?_ ?_
 ·refine Ab 15 λe f=>?_
  refine Ab 2 λg h=>?_
  refine Ac 3 ?_ ?_
  ·exact B
  ·refine A 7 ?_;exact xL (s:=i64.wrap (d+1)) () hX
 ·exact B

def Pr:Dw.Spec:=NI [] .ground OR OQ (λa=>OV a.1 a.2.1 a.2.2) NW noE
theorem Ug:ND Tryz.prog 245 Pr:=by
 refine fn2 2 (NJ (l:=[(1011987,PD)]) (by simp[UI])) Tryz.func245<|?_
 rintro⟨a,b,c⟩;unfold OV;refine A 9 ?_;refine bD λe d=>cG (a,b,c) rfl rfl (show _=some PD from by kernel_rfl) Oc.ok rfl rfl (by simp) r d r<|?_
 exact B

def Aai (a:Oz×OP):List D:=[Qd a.1,Ahy a.2]
def Aah (ds:List D):Oz×OP:=(AaZ (ds.getD 0 .top),Aiw (ds.getD 1 .top))
instance:Oc Aai Aah:=⟨λa=>by simp[Aah,Aai]⟩
def AiZ:Dw.Spec:=NI [] .ground Aai Aah (λa=>Aag a.1 a.2) NW noE
theorem AoL:ND Tryz.prog 182 AiZ:=by
 refine fn2 2 (NJ (l:=[(1011957,Pr)]) (by simp[Ug])) Tryz.func182<|?_
 rintro⟨b,a⟩;unfold Aag;refine A 6 ?_;refine Qf (E:=[(2,.fptr (Qd b) 0),(3,.fptr (.agg [Av a.Align,.sl (a.Frames.map OK)]) 0)]) (O:=[]) ((hV 2 r (hV 3 r (hY)))) λnn=>?_
 refine A 5 ?_;refine mF (caps:=[.fptr (.agg [Av a.Align,.sl (a.Frames.map OK)]) 0,.fptr (Qd b) 0]) r r (by simp[SN])<|bD λd c=>cG (b.Frame.Code,a,b) rfl rfl (show _=some Pr from by kernel_rfl) Oc.ok rfl rfl (by simp) r c r<|?_
 exact B

def AkF:Dw.Spec:=NI [] .ground YM YL (λa=>Agu a) NC noE
theorem Atv:ND Tryz.prog 115 AkF:=by
 refine fn2 1 (NJ (l:=[(150,Zl),(180,AjQ),(181,ApD),(182,AiZ)]) (by simp[Abq,ApA,ArS,AoL])) Tryz.func115<|?_
 intro a;unfold Agu;refine A 6 ?_;refine sC (E:=λ(_s:Unit) (g:Nat)=>[(1,.optr 1 g 0 0)]) (O:=λ_ g=>[(1,dV g 2 58 (.agg [Av a.Align,.sl (a.Frames.map OK)]))]) (j:=λ_=>AeK a) ?_ ?_
 ·refine Ac 16 ?_ ?_
  ·exact B
  ·refine Ac 7 ?_ ?_
   ·exact B
   ·refine sC (E:=λ(s:Bool) (g:Nat)=>[(1,.optr 1 g 0 0),(18,.bool s)]) (O:=λ_ g=>[(1,dV g 2 58 (.agg [Av a.Align,.sl (a.Frames.map OK)]))]) (j:=λs=>AaE a s) ?_ ?_
    ·refine Ab 3 λd e=>?_
     refine A 3 ?_;refine NS r ?_ ?_
     ·refine A 6 ?_;exact xC (s:=true) _ hX
     ·refine A 6 ?_;exact xC (s:=(decide (a.Align<16))) _ hX
    ·rintro f h nn
     try dsimp only
     unfold AaE;refine cD r ?_ ?_
     ·exact B
     ·refine Ab 4 λi k=>?_
      refine Ac 7 ?_ ?_
      ·exact B
      ·refine A 2 ?_;exact xC (s:=()) _ hX
 ·rintro⟨⟩ m nn
  try dsimp only
  unfold AeK;refine A 10 ?_;refine lP (E:=λ(s:Int) (g:Nat)=>[(1,.optr 1 g 0 0),(37,Av (a.Frames.length:Int)),(38,Av s)]) (O:=λ_ g=>[(1,dV g 2 58 (.agg [Av a.Align,.sl (a.Frames.map OK)]))]) (body:=λs=>AeI a s) (s:=0) _ hX<|?_
  rintro b o nn
  try dsimp only
  unfold AeI;refine Ac 6 ?_ ?_
  ·refine Ab 14 λp q=>?_
   refine Ac 10 ?_ ?_
   ·exact B
   ·refine A 7 ?_;exact xL (s:=i64.wrap (b+1)) _ hX
  ·refine A 15 ?_;refine lP (E:=λ(s:Int) (g:Nat)=>[(1,.optr 1 g 0 0),(50,Av (a.Frames.length:Int)),(51,Av s)]) (O:=λ_ g=>[(1,dV g 2 58 (.agg [Av a.Align,.sl (a.Frames.map OK)]))]) (body:=λs=>AeJ a s) (s:=0) _ hX<|?_
   rintro c t nn
   try dsimp only
   unfold AeJ;refine Ac 6 ?_ ?_
   ·refine Ab 14 λu v=>?_
    refine Ab 13 λx z=>?_
    refine Ac 4 ?_ ?_
    ·exact B
    ·refine A 7 ?_;exact xL (s:=i64.wrap (c+1)) _ hX
   ·exact B

def Ajn:OU:=(Tryz.f51.body.bind (Pk Tryz.prog Tryz.f51.ntmps)).getD .skip
theorem AoV:(Tryz.f51.body.bind (Pk Tryz.prog Tryz.f51.ntmps))=some Ajn:=by kernel_rfl
theorem AoW:Tryz.f51.results.toList.mapM (VA Tryz.prog)=some []:=by kernel_rfl

def Ays:OU:=(Tryz.f52.body.bind (Pk Tryz.prog Tryz.f52.ntmps)).getD .skip
theorem AAv:(Tryz.f52.body.bind (Pk Tryz.prog Tryz.f52.ntmps))=some Ays:=by kernel_rfl
theorem AAw:Tryz.f52.results.toList.mapM (VA Tryz.prog)=some [(.t 2)]:=by kernel_rfl

def Ayt:OU:=(Tryz.f53.body.bind (Pk Tryz.prog Tryz.f53.ntmps)).getD .skip
theorem AAx:(Tryz.f53.body.bind (Pk Tryz.prog Tryz.f53.ntmps))=some Ayt:=by kernel_rfl
theorem AAy:Tryz.f53.results.toList.mapM (VA Tryz.prog)=some [(.t 2)]:=by kernel_rfl

def Ayu:OU:=(Tryz.f54.body.bind (Pk Tryz.prog Tryz.f54.ntmps)).getD .skip
theorem AAz:(Tryz.f54.body.bind (Pk Tryz.prog Tryz.f54.ntmps))=some Ayu:=by kernel_rfl
theorem AAA:Tryz.f54.results.toList.mapM (VA Tryz.prog)=some [(.t 2)]:=by kernel_rfl

def Awt:OU:=(Tryz.f55.body.bind (Pk Tryz.prog Tryz.f55.ntmps)).getD .skip
theorem AAB:(Tryz.f55.body.bind (Pk Tryz.prog Tryz.f55.ntmps))=some Awt:=by kernel_rfl
theorem AAC:Tryz.f55.results.toList.mapM (VA Tryz.prog)=some [(.t 3)]:=by kernel_rfl

def Awu:OU:=(Tryz.f56.body.bind (Pk Tryz.prog Tryz.f56.ntmps)).getD .skip
theorem AAD:(Tryz.f56.body.bind (Pk Tryz.prog Tryz.f56.ntmps))=some Awu:=by kernel_rfl
theorem AAE:Tryz.f56.results.toList.mapM (VA Tryz.prog)=some [(.t 6)]:=by kernel_rfl

def Ayv:OU:=(Tryz.f57.body.bind (Pk Tryz.prog Tryz.f57.ntmps)).getD .skip
theorem AAF:(Tryz.f57.body.bind (Pk Tryz.prog Tryz.f57.ntmps))=some Ayv:=by kernel_rfl
theorem AAG:Tryz.f57.results.toList.mapM (VA Tryz.prog)=some [(.t 2)]:=by kernel_rfl

def AAu:OU:=(Tryz.f50.body.bind (Pk Tryz.prog Tryz.f50.ntmps)).getD .skip
theorem ABY:(Tryz.f50.body.bind (Pk Tryz.prog Tryz.f50.ntmps))=some AAu:=by kernel_rfl
theorem ABZ:Tryz.f50.results.toList.mapM (VA Tryz.prog)=some []:=by kernel_rfl

end
end Go.Proofs.YtcaoepecbgggcaaGreatDoor
