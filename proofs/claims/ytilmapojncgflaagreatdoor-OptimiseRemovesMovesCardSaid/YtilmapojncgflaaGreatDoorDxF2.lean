/-
  Programs on typed data, and the proofs that the code does what they say; written by a program (dx.py).
-/
import Derived.Test.YtilmapojncgflaaGreatDoorProg
import Derived.Test.YtilmapojncgflaaGreatDoorDd
import Derived.KernelRfl
import Derived.Test.YtilmapojncgflaaGreatDoorDxP
import Derived.Test.YtilmapojncgflaaGreatDoorDxF1
open List renaming replicate->aA,eq_of_mem_replicate->aAB
open Nat renaming ble->aAA,blt->aAC,beq->aAD
namespace Go.Proofs.YtilmapojncgflaaGreatDoor
open Go Go.Dw Go.Proofs
open Go.IntKind (i64)
set_option maxRecDepth 100000
set_option maxHeartbeats 40000000
open Go.Dw renaming Rv -> bD,Qj -> cK,Zn -> cV,YH -> cG,Ws -> sE,Aav -> iO,AdA -> cD,Abp -> xL,YX -> hE,AcF -> cP,Afb -> lP,Ahn -> mF,rf -> r
noncomputable section
def Afy (b:Ph):D:=WE b
def Abb:Dw.Spec:=Pd [] .val VM VL (λa=>UP a) Afy noE
def AcQ:Dw.Spec:=Vf (specs []) 2 [] AmZ
theorem AhM:Pb Tryz.prog 100 AcQ:=RY (Px) Tryz.func100 (by decide) AsL AsM (by decide)
def AcR:Dw.Spec:=Vf (specs []) 1 [(.t 2)] ApG
theorem AhN:Pb Tryz.prog 101 AcR:=RY (Px) Tryz.func101 (by decide) AsN AsO (by decide)
def AcS:Dw.Spec:=Vf (specs [(138,Aao),(140,AdF),(139,WO)]) 3 [(.t 6)] ApH
theorem AhO:Pb Tryz.prog 102 AcS:=RY (Pg (l:=[(138,Aao),(140,AdF),(139,WO)]) (by simp[Afu,AiQ,AbM])) Tryz.func102 (by decide) AsP AsQ (by decide)
theorem AeH:Pb Tryz.prog 60 Abb:=by
 refine fn2 1 (Pg (l:=[(99,Aik),(100,AcQ),(101,AcR),(102,AcS),(103,Aau)]) (by simp[AlO,AhM,AhN,AhO,AfJ])) Tryz.func60<|?_
 intro a;unfold UP;refine A 11 ?_;refine cK λhq=>Aaw (α:=Int) r r r hq r<|?_
 refine A 4 ?_;refine Qp (E:=[(1,.optr 1 _ 0 0),(2,.optr 2 _ 0 0),(3,.optr 3 _ 0 0)]) (O:=[(1,dV _ 3 36 (Pl a)),(2,dV _ 1 40 (.agg [.nils])),(3,dV _ 1 40 (.agg [.osl 14 _ 0 ((aA (a.Code.length:Int).toNat ([]:(List Int))).length)])),(14,dW _ 1 41 ((aA (a.Code.length:Int).toNat ([]:(List Int))).map (eL Le)))]) ((AqM (g:=14) r (Ash (l:=aA (a.Code.length:Int).toNat ([]:(List Int))) Le (λ_ h=>aAB h)) (hX))) λnn=>?_
 refine A 3 ?_;refine bD λm br=>?_
 refine A 6 ?_;refine Apq λnn=>?_
 refine A 15 ?_;refine lP (E:=λ(s:(List (Int×Bool))×(List Int)×Int) (g:Nat×Nat×Nat×Nat×Nat×Nat×Nat)=>[(1,.optr 1 g.1 0 0),(2,.optr 2 g.2.1 0 0),(3,.optr 3 g.2.2.1 0 0),(4,.sl (m.map (eL Le))),(5,.optr 20 g.2.2.2.2.2.1 0 0),(23,Av (a.Code.length:Int)),(24,Av s.2.2)]) (O:=λs g=>[(1,dV g.1 3 36 (Pl a)),(2,dV g.2.1 1 40 (.agg [.nils])),(3,dV g.2.2.1 1 40 (.agg [.osl 14 g.2.2.2.1 0 ((aA (a.Code.length:Int).toNat ([]:(List Int))).length)])),(14,dW g.2.2.2.1 1 41 ((aA (a.Code.length:Int).toNat ([]:(List Int))).map (eL Le))),(18,some (g.2.2.2.2.1,⟨true,false,0,0,s.1.map (Qa D.bool)⟩)),(20,dV g.2.2.2.2.2.1 2 144 (.agg [.osl 900 g.2.2.2.2.2.2 0 s.2.1.length,.mref 18 g.2.2.2.2.1])),(900,dW g.2.2.2.2.2.2 1 3 (s.2.1.map Le))]) (body:=λs=>WG a m s.1 s.2.1 s.2.2) (s:=(([]:List (Int×Bool)),([]:List Int),0)) (_,_,_,_,_,_,_) ((AkE (gg:=20) (off:=0) (tt:=900) (s:=1) (tyy:=3) r r r r (hX)))<|?_
 rintro⟨w,u,o⟩ ⟨bs,bt,bu,bv,bw,bx,bz⟩ nn
 try dsimp only
 unfold WG;refine A 6 ?_;refine cD r ?_ ?_
 ·refine A 13 ?_;refine RT (E:=λ(g:Nat×Nat×Nat×Nat×Nat×Nat×Nat)=>[(1,.optr 1001 g.1 0 0),(2,.optr 1002 g.2.1 0 0),(3,.optr 1003 g.2.2.1 0 0),(4,.sl (m.map (eL Le))),(5,.optr 1020 g.2.2.2.2.2.1 0 0),(23,Av (a.Code.length:Int)),(24,Av o),(27,.optr 1020 g.2.2.2.2.2.1 0 0),(28,Av o)]) (O:=λg=>[(1001,dV g.1 3 36 (Pl a)),(1002,dV g.2.1 1 40 (.agg [.nils])),(1003,dV g.2.2.1 1 40 (.agg [.osl 1014 g.2.2.2.1 0 ((aA (a.Code.length:Int).toNat ([]:(List Int))).length)])),(1014,dW g.2.2.2.1 1 41 ((aA (a.Code.length:Int).toNat ([]:(List Int))).map (eL Le))),(1018,some (g.2.2.2.2.1,⟨true,false,0,0,w.map (Qa D.bool)⟩)),(1020,dV g.2.2.2.2.2.1 2 144 (.agg [.osl 1900 g.2.2.2.2.2.2 0 u.length,.mref 1018 g.2.2.2.2.1])),(1900,dW g.2.2.2.2.2.2 1 3 (u.map Le))]) (_,_,_,_,_,_,_) ((Py (λg=>bif aAA 4096 g then g+20000 else g+1000) (by rfl) (hX)))<|?_
  rintro⟨ae,af,ag,ah,ai,ab,bk⟩ nn
  try dsimp only
  refine Yh (ES:=λ(_s:(List (Int×Bool))×(List Int)) (g:Nat×Nat×Nat×Nat×Nat×Nat×Nat)=>[(1,.optr 1 g.1 0 0),(2,.optr 2 g.2.1 0 0),(3,.optr 3 g.2.2.1 0 0),(4,.sl (m.map (eL Le))),(5,.optr 20 g.2.2.2.2.2.1 0 0),(23,Av (a.Code.length:Int)),(24,Av o),(29,.tup [])]) (OS:=λs g=>[(1,dV g.1 3 36 (Pl a)),(2,dV g.2.1 1 40 (.agg [.nils])),(3,dV g.2.2.1 1 40 (.agg [.osl 14 g.2.2.2.1 0 ((aA (a.Code.length:Int).toNat ([]:(List Int))).length)])),(14,dW g.2.2.2.1 1 41 ((aA (a.Code.length:Int).toNat ([]:(List Int))).map (eL Le))),(18,some (g.2.2.2.2.1,⟨true,false,0,0,s.1.map (Qa D.bool)⟩)),(20,dV g.2.2.2.2.2.1 2 144 (.agg [.osl 601 g.2.2.2.2.2.2 0 s.2.length,.mref 18 g.2.2.2.2.1])),(601,dW g.2.2.2.2.2.2 1 3 (s.2.map Le))]) (j:=λs=>Uw o s.1 s.2) (ds:=[.optr 1020 ab 0 0,Av o]) (caps:=[]) (E:=[(0,.optr 1020 ab 0 0),(1,Av o)]) r r r r r r r r ?_ ?_
  ·refine Ur (c:=AmZ)<|?_;refine A 7 ?_;refine AkX (en:=D.bool) (l:=w) r r r r false r<|?_;refine A 3 ?_;refine cD r ?_ ?_
   ·refine A 7 ?_;refine AkY (en:=D.bool) (l:=w) r r r true r r r r<|?_;refine A 15 ?_;exact RK (d:=.tup []) (s:=(RN o true w,u++([o]:List Int))) (_,_,_,_,_,_,_) r (by first|rfl|(simp[Pv,Pz,rdA,raw,strip,PG,cells,PA];done)|(simp[Pv,Pz,rdA,raw,strip,PG,S.ge,S.go,look,Ue,cells,PA];done)) r ((Qi (E1:=[(1,.optr 1001 ae 0 0),(2,.optr 1002 af 0 0),(3,.optr 1003 ag 0 0),(4,.sl (m.map (eL Le))),(5,.optr 1020 ab 0 0),(23,Av (a.Code.length:Int)),(24,Av o),(29,.tup [])]) (O1:=[(23,dW _ 1 3 ((u++([o]:List Int)).map Le)),(1001,dV ae 3 36 (Pl a)),(1002,dV af 1 40 (.agg [.nils])),(1003,dV ag 1 40 (.agg [.osl 1014 ah 0 ((aA (a.Code.length:Int).toNat ([]:(List Int))).length)])),(1014,dW ah 1 41 ((aA (a.Code.length:Int).toNat ([]:(List Int))).map (eL Le))),(1018,some (ai,⟨true,false,0,0,(RN o true w).map (Qa D.bool)⟩)),(1020,dV ab 2 144 (.agg [.osl 23 _ 0 ((u++([o]:List Int)).length),.mref 1018 ai]))]) (hX) (λ_=>Py (λg=>bif aAA 24096 g then g-20000 else bif (aAA 1000 g&&aAC g 4096)then g-1000 else bif aAD g 23 then 601 else g) (by rfl) (hX))))
   ·refine A 1 ?_;exact RK (d:=.tup []) (s:=(w,u)) (_,_,_,_,_,_,_) r (by first|rfl|(simp[Pv,Pz,rdA,raw,strip,PG,cells,PA];done)|(simp[Pv,Pz,rdA,raw,strip,PG,S.ge,S.go,look,Ue,cells,PA];done)) r ((Qi (E1:=[(1,.optr 1001 ae 0 0),(2,.optr 1002 af 0 0),(3,.optr 1003 ag 0 0),(4,.sl (m.map (eL Le))),(5,.optr 1020 ab 0 0),(23,Av (a.Code.length:Int)),(24,Av o),(29,.tup [])]) (O1:=[(1001,dV ae 3 36 (Pl a)),(1002,dV af 1 40 (.agg [.nils])),(1003,dV ag 1 40 (.agg [.osl 1014 ah 0 ((aA (a.Code.length:Int).toNat ([]:(List Int))).length)])),(1014,dW ah 1 41 ((aA (a.Code.length:Int).toNat ([]:(List Int))).map (eL Le))),(1018,some (ai,⟨true,false,0,0,w.map (Qa D.bool)⟩)),(1020,dV ab 2 144 (.agg [.osl 1900 bk 0 u.length,.mref 1018 ai])),(1900,dW bk 1 3 (u.map Le))]) (hX) (λ_=>Py (λg=>bif aAD g 1900 then 601 else bif aAA 24096 g then g-20000 else bif (aAA 1000 g&&aAC g 4096)then g-1000 else g) (by rfl) (hX))))
  ·rintro⟨x6,x7⟩ ⟨ca,cb,cc,cd,ce,cf,cg⟩ nn
   try dsimp only
   unfold Uw;refine A 7 ?_;exact xL (s:=(x6,x7,i64.wrap (o+1))) (_,_,_,_,_,_,_) ((Qi (E1:=[(1,.optr 1 _ 0 0),(2,.optr 2 _ 0 0),(3,.optr 3 _ 0 0),(4,.sl (m.map (eL Le))),(5,.optr 20 _ 0 0),(23,Av (a.Code.length:Int)),(24,Av (i64.wrap (o+1)))]) (O1:=[(1,dV _ 3 36 (Pl a)),(2,dV _ 1 40 (.agg [.nils])),(3,dV _ 1 40 (.agg [.osl 14 _ 0 ((aA (a.Code.length:Int).toNat ([]:(List Int))).length)])),(14,dW _ 1 41 ((aA (a.Code.length:Int).toNat ([]:(List Int))).map (eL Le))),(18,some (_,⟨true,false,0,0,x6.map (Qa D.bool)⟩)),(20,dV _ 2 144 (.agg [.osl 601 _ 0 x7.length,.mref 18 _])),(601,dW _ 1 3 (x7.map Le))]) (hX) (λ_=>Py (λg=>bif aAD g 601 then 900 else g) (by rfl) (hX))))
 ·refine A 7 ?_;refine lP (E:=λ(_s:(List (List Int))×(List (Int×Bool))×(List Int)) (g:Nat×Nat×Nat×Nat×Nat×Nat×Nat)=>[(1,.optr 1 g.1 0 0),(2,.optr 2 g.2.1 0 0),(3,.optr 3 g.2.2.1 0 0),(4,.sl (m.map (eL Le))),(5,.optr 20 g.2.2.2.2.2.1 0 0)]) (O:=λs g=>[(1,dV g.1 3 36 (Pl a)),(2,dV g.2.1 1 40 (.agg [.nils])),(3,dV g.2.2.1 1 40 (.agg [.osl 14 g.2.2.2.1 0 s.1.length])),(14,dW g.2.2.2.1 1 41 (s.1.map (eL Le))),(18,some (g.2.2.2.2.1,⟨true,false,0,0,s.2.1.map (Qa D.bool)⟩)),(20,dV g.2.2.2.2.2.1 2 144 (.agg [.osl 900 g.2.2.2.2.2.2 0 s.2.2.length,.mref 18 g.2.2.2.2.1])),(900,dW g.2.2.2.2.2.2 1 3 (s.2.2.map Le))]) (body:=λs=>ZZ a m s.1 s.2.1 s.2.2) (s:=(aA (a.Code.length:Int).toNat ([]:(List Int)),w,u)) (_,_,_,_,_,_,_) ((hX))<|?_
  rintro⟨e,q,f⟩ ⟨ch,ci,cj,ck,cl,cm,cn⟩ nn
  try dsimp only
  unfold ZZ;refine A 11 ?_;refine cD r ?_ ?_
  ·refine A 6 ?_;refine RT (E:=λ(g:Nat×Nat×Nat×Nat×Nat×Nat×Nat)=>[(1,.optr 1001 g.1 0 0),(2,.optr 1002 g.2.1 0 0),(3,.optr 1003 g.2.2.1 0 0),(4,.sl (m.map (eL Le))),(5,.optr 1020 g.2.2.2.2.2.1 0 0),(37,.optr 1020 g.2.2.2.2.2.1 0 0)]) (O:=λg=>[(1001,dV g.1 3 36 (Pl a)),(1002,dV g.2.1 1 40 (.agg [.nils])),(1003,dV g.2.2.1 1 40 (.agg [.osl 1014 g.2.2.2.1 0 e.length])),(1014,dW g.2.2.2.1 1 41 (e.map (eL Le))),(1018,some (g.2.2.2.2.1,⟨true,false,0,0,q.map (Qa D.bool)⟩)),(1020,dV g.2.2.2.2.2.1 2 144 (.agg [.osl 1900 g.2.2.2.2.2.2 0 f.length,.mref 1018 g.2.2.2.2.1])),(1900,dW g.2.2.2.2.2.2 1 3 (f.map Le))]) (_,_,_,_,_,_,_) ((Py (λg=>bif aAA 4096 g then g+20000 else g+1000) (by rfl) (hX)))<|?_
   rintro⟨ba,bb,bc,aj,ak,ac,ao⟩ nn
   try dsimp only
   refine Ady (ds:=[.optr 1020 ac 0 0]) (caps:=[]) (E:=[(0,.optr 1020 ac 0 0)]) r r r r r r r r<|Ur (c:=ApG)<|?_;refine A 17 ?_;refine cK λhq=>iO (l:=f) (en:=Le) r r r r r hq<|bD λi co=>?_
   refine A 17 ?_;refine cK λhq=>Adz (l:=f) r r r r r r hq<|?_
   refine A 4 ?_;refine Qp (E:=[(0,.optr 1020 ac 0 0),(3,Av i)]) (O:=[(1001,dV ba 3 36 (Pl a)),(1002,dV bb 1 40 (.agg [.nils])),(1003,dV bc 1 40 (.agg [.osl 1014 aj 0 e.length])),(1014,dW aj 1 41 (e.map (eL Le))),(1018,some (ak,⟨true,false,0,0,q.map (Qa D.bool)⟩)),(1020,dV ac 2 144 (.agg [.osl 1900 ao 0 ((f.take ((i64.wrap ((f.length:Int)-1)).toNat)).length),.mref 1018 ak])),(1900,dW ao 1 3 ((f.take ((i64.wrap ((f.length:Int)-1)).toNat)).map Le))]) ((Aqa (gw:=1020) (off:=0) (gg:=1900) (k:=(i64.wrap ((f.length:Int)-1)).toNat) (l:=f) (en:=Le) r r r (by omega) r (hX))) λnn=>?_
   refine A 7 ?_;refine Arw (en:=D.bool) (l:=q) r r r r<|?_;refine A 9 ?_;refine AjI (d:=Av i) (E:=[(1,.optr 1 _ 0 0),(2,.optr 2 _ 0 0),(3,.optr 3 _ 0 0),(4,.sl (m.map (eL Le))),(5,.optr 20 _ 0 0),(38,Av i)]) (O:=[(1,dV _ 3 36 (Pl a)),(2,dV _ 1 40 (.agg [.nils])),(3,dV _ 1 40 (.agg [.osl 14 _ 0 e.length])),(14,dW _ 1 41 (e.map (eL Le))),(18,some (_,⟨true,false,0,0,(RX i q).map (Qa D.bool)⟩)),(20,dV _ 2 144 (.agg [.osl 900 _ 0 ((f.take ((i64.wrap ((f.length:Int)-1)).toNat)).length),.mref 18 _])),(900,dW _ 1 3 ((f.take ((i64.wrap ((f.length:Int)-1)).toNat)).map Le))]) r (by first|rfl|(simp[Pv,Pz,rdA,raw,strip,PG,cells,PA];done)|(simp[Pv,Pz,rdA,raw,strip,PG,S.ge,S.go,look,Ue,cells,PA];done)) r ((Qi (E1:=[(1,.optr 1001 ba 0 0),(2,.optr 1002 bb 0 0),(3,.optr 1003 bc 0 0),(4,.sl (m.map (eL Le))),(5,.optr 1020 ac 0 0),(38,Av i)]) (O1:=[(1001,dV ba 3 36 (Pl a)),(1002,dV bb 1 40 (.agg [.nils])),(1003,dV bc 1 40 (.agg [.osl 1014 aj 0 e.length])),(1014,dW aj 1 41 (e.map (eL Le))),(1018,some (ak,⟨true,false,0,0,(RX i q).map (Qa D.bool)⟩)),(1020,dV ac 2 144 (.agg [.osl 1900 ao 0 ((f.take ((i64.wrap ((f.length:Int)-1)).toNat)).length),.mref 1018 ak])),(1900,dW ao 1 3 ((f.take ((i64.wrap ((f.length:Int)-1)).toNat)).map Le))]) (hX) (λ_=>Py (λg=>bif aAA 24096 g then g-20000 else bif (aAA 1000 g&&aAC g 4096)then g-1000 else g) (by rfl) (hX)))) λnn=>?_
   refine A 8 ?_;refine RT (E:=λ(g:Nat×Nat×Nat×Nat×Nat×Nat×Nat)=>[(1,.optr 1001 g.1 0 0),(2,.optr 1002 g.2.1 0 0),(3,.optr 1003 g.2.2.1 0 0),(4,.sl (m.map (eL Le))),(5,.optr 1020 g.2.2.2.2.2.1 0 0),(7,Av i),(39,Pl a),(40,.agg [.osl 1014 g.2.2.2.1 0 e.length]),(41,Av i)]) (O:=λg=>[(1001,dV g.1 3 36 (Pl a)),(1002,dV g.2.1 1 40 (.agg [.nils])),(1003,dV g.2.2.1 1 40 (.agg [.osl 1014 g.2.2.2.1 0 e.length])),(1014,dW g.2.2.2.1 1 41 (e.map (eL Le))),(1018,some (g.2.2.2.2.1,⟨true,false,0,0,(RX i q).map (Qa D.bool)⟩)),(1020,dV g.2.2.2.2.2.1 2 144 (.agg [.osl 1900 g.2.2.2.2.2.2 0 ((f.take ((i64.wrap ((f.length:Int)-1)).toNat)).length),.mref 1018 g.2.2.2.2.1])),(1900,dW g.2.2.2.2.2.2 1 3 ((f.take ((i64.wrap ((f.length:Int)-1)).toNat)).map Le))]) (_,_,_,_,_,_,_) ((Py (λg=>bif aAA 4096 g then g+20000 else g+1000) (by rfl) (hX)))<|?_
   rintro⟨bd,bf,bg,z,ap,bh,aq⟩ nn
   try dsimp only
   refine Yh (ES:=λ(s:(List Int)) (g:Nat×Nat×Nat×Nat×Nat×Nat×Nat)=>[(1,.optr 1 g.1 0 0),(2,.optr 2 g.2.1 0 0),(3,.optr 3 g.2.2.1 0 0),(4,.sl (m.map (eL Le))),(5,.optr 20 g.2.2.2.2.2.1 0 0),(7,Av i),(42,.sl (s.map Le))]) (OS:=λ_ g=>[(1,dV g.1 3 36 (Pl a)),(2,dV g.2.1 1 40 (.agg [.nils])),(3,dV g.2.2.1 1 40 (.agg [.osl 14 g.2.2.2.1 0 e.length])),(14,dW g.2.2.2.1 1 41 (e.map (eL Le))),(18,some (g.2.2.2.2.1,⟨true,false,0,0,(RX i q).map (Qa D.bool)⟩)),(20,dV g.2.2.2.2.2.1 2 144 (.agg [.osl 900 g.2.2.2.2.2.2 0 ((f.take ((i64.wrap ((f.length:Int)-1)).toNat)).length),.mref 18 g.2.2.2.2.1])),(900,dW g.2.2.2.2.2.2 1 3 ((f.take ((i64.wrap ((f.length:Int)-1)).toNat)).map Le))]) (j:=λs=>Aab i e q f m s) (ds:=[Pl a,.agg [.osl 1014 z 0 e.length],Av i]) (caps:=[]) (E:=[(0,Pl a),(1,.agg [.osl 1014 z 0 e.length]),(2,Av i)]) r r r r r r r r ?_ ?_
   ·refine Ur (c:=ApH)<|?_;refine A 17 ?_;refine bD λar cp=>?_
    refine A 6 ?_;refine lP (E:=λ(s:Int×(List Int)) (g:Nat×Nat×Nat)=>[(3,.optr 3 g.1 0 0),(4,.optr 4 g.2.1 0 0),(7,.sl (s.2.map Le)),(12,.osl 12 g.2.2 0 ar.length),(13,Av (ar.length:Int)),(14,Av s.1)]) (O:=λ_ g=>[(3,dV g.1 3 36 (Pl a)),(4,dV g.2.1 1 40 (.agg [.osl 1014 z 0 e.length])),(12,dW g.2.2 1 3 (ar.map Le)),(1001,dV bd 3 36 (Pl a)),(1002,dV bf 1 40 (.agg [.nils])),(1003,dV bg 1 40 (.agg [.osl 1014 z 0 e.length])),(1014,dW z 1 41 (e.map (eL Le))),(1018,some (ap,⟨true,false,0,0,(RX i q).map (Qa D.bool)⟩)),(1020,dV bh 2 144 (.agg [.osl 1900 aq 0 ((f.take ((i64.wrap ((f.length:Int)-1)).toNat)).length),.mref 1018 ap])),(1900,dW aq 1 3 ((f.take ((i64.wrap ((f.length:Int)-1)).toNat)).map Le))]) (body:=λs=>WH ar a e i q f m s.1 s.2) (s:=(0,([]:List Int))) (_,_,_) ((AhK [(7,some (_,⟨true,false,1,3,([]:List Int).map Le⟩))] ⟨⟨_,_,r,r,r⟩,trivial⟩ ⟨(QN r),(QN r),(Abx (AdU (l:=([]:List Int)) (en:=Le) r r r (by simp))),(QN r),(QN r),(QN r),trivial⟩ ⟨(.inl r),(.inl r),(.inl r),(.inl r),(.inl r),(.inl r),(.inl r),(.inl r),(.inl r),(.inl r),trivial⟩))<|?_
    rintro⟨bo,bi⟩ ⟨cq,cr,cs⟩ nn
    try dsimp only
    unfold WH;refine A 6 ?_;refine cD r ?_ ?_
    ·refine A 7 ?_;refine bD λct cu=>?_
     refine A 9 ?_;refine bD λcv cw=>?_
     refine A 6 ?_;refine bD λcx cy=>?_
     refine A 1 ?_;refine bD λcz da=>?_
     refine A 1 ?_;refine bD λbp db=>?_
     refine A 9 ?_;exact xL (s:=(i64.wrap (bo+1),bp)) (_,_,_) ((hX))
    ·refine A 12 ?_;exact RK (d:=.sl (bi.map Le)) (s:=bi) (_,_,_,_,_,_,_) r (by first|rfl|(simp[Pv,Pz,rdA,raw,strip,PG,cells,PA];done)|(simp[Pv,Pz,rdA,raw,strip,PG,S.ge,S.go,look,Ue,cells,PA];done)) r ((Qi (E1:=[(1,.optr 1001 bd 0 0),(2,.optr 1002 bf 0 0),(3,.optr 1003 bg 0 0),(4,.sl (m.map (eL Le))),(5,.optr 1020 bh 0 0),(7,Av i),(42,.sl (bi.map Le))]) (O1:=[(1001,dV bd 3 36 (Pl a)),(1002,dV bf 1 40 (.agg [.nils])),(1003,dV bg 1 40 (.agg [.osl 1014 z 0 e.length])),(1014,dW z 1 41 (e.map (eL Le))),(1018,some (ap,⟨true,false,0,0,(RX i q).map (Qa D.bool)⟩)),(1020,dV bh 2 144 (.agg [.osl 1900 aq 0 ((f.take ((i64.wrap ((f.length:Int)-1)).toNat)).length),.mref 1018 ap])),(1900,dW aq 1 3 ((f.take ((i64.wrap ((f.length:Int)-1)).toNat)).map Le))]) (hX) (λ_=>Py (λg=>bif aAA 24096 g then g-20000 else bif (aAA 1000 g&&aAC g 4096)then g-1000 else g) (by rfl) (hX))))
   ·rintro p ⟨dc,dd,de,df,dg,dh,di⟩ nn
    try dsimp only
    unfold Aab;refine A 11 ?_;refine bD λdj dk=>?_
    refine A 1 ?_;refine bD λdl dm=>?_
    refine A 3 ?_;refine cD r ?_ ?_
    ·refine A 3 ?_;exact xL (s:=(e,RX i q,f.take ((i64.wrap ((f.length:Int)-1)).toNat))) (_,_,_,_,_,_,_) ((hX))
    ·refine A 9 ?_;refine bD λdn bq=>sE (l:=e) (en:=(eL Le)) (q':=p) r r r r r r r (by simp) bq r r r r r<|?_
     refine A 6 ?_;refine bD λt dp=>?_
     refine A 7 ?_;refine lP (E:=λ(s:(List (Int×Bool))×(List Int)×Int) (g:Nat×Nat×Nat×Nat×Nat×Nat×Nat)=>[(1,.optr 1 g.1 0 0),(2,.optr 2 g.2.1 0 0),(3,.optr 3 g.2.2.1 0 0),(4,.sl (m.map (eL Le))),(5,.optr 20 g.2.2.2.2.2.1 0 0),(58,.sl (t.map Le)),(59,Av (t.length:Int)),(60,Av s.2.2)]) (O:=λs g=>[(1,dV g.1 3 36 (Pl a)),(2,dV g.2.1 1 40 (.agg [.nils])),(3,dV g.2.2.1 1 40 (.agg [.osl 14 g.2.2.2.1 0 ((e.set i.toNat p).length)])),(14,dW g.2.2.2.1 1 41 ((e.set i.toNat p).map (eL Le))),(18,some (g.2.2.2.2.1,⟨true,false,0,0,s.1.map (Qa D.bool)⟩)),(20,dV g.2.2.2.2.2.1 2 144 (.agg [.osl 900 g.2.2.2.2.2.2 0 s.2.1.length,.mref 18 g.2.2.2.2.1])),(900,dW g.2.2.2.2.2.2 1 3 (s.2.1.map Le))]) (body:=λs=>Aaa t e i p s.1 s.2.1 s.2.2) (s:=(RX i q,f.take ((i64.wrap ((f.length:Int)-1)).toNat),0)) (_,_,_,_,_,_,_) ((hE ⟨rfl,r,r,r,r,r,r,r,trivial⟩ ⟨rfl,r,(Eq.trans (b:=dV _ 1 40 (.agg [.osl 14 _ 0 e.length])) r (by simp)),r,r,r,r,trivial⟩))<|?_
     rintro⟨x,v,aa⟩ ⟨dq,dr,dt,du,dv,dw,dx⟩ nn
     try dsimp only
     unfold Aaa;refine A 6 ?_;refine cD r ?_ ?_
     ·refine A 6 ?_;refine bD λy dy=>?_
      refine A 8 ?_;refine RT (E:=λ(g:Nat×Nat×Nat×Nat×Nat×Nat×Nat)=>[(1,.optr 1001 g.1 0 0),(2,.optr 1002 g.2.1 0 0),(3,.optr 1003 g.2.2.1 0 0),(4,.sl (m.map (eL Le))),(5,.optr 1020 g.2.2.2.2.2.1 0 0),(58,.sl (t.map Le)),(59,Av (t.length:Int)),(60,Av aa),(64,.optr 1020 g.2.2.2.2.2.1 0 0),(65,Av y)]) (O:=λg=>[(1001,dV g.1 3 36 (Pl a)),(1002,dV g.2.1 1 40 (.agg [.nils])),(1003,dV g.2.2.1 1 40 (.agg [.osl 1014 g.2.2.2.1 0 ((e.set i.toNat p).length)])),(1014,dW g.2.2.2.1 1 41 ((e.set i.toNat p).map (eL Le))),(1018,some (g.2.2.2.2.1,⟨true,false,0,0,x.map (Qa D.bool)⟩)),(1020,dV g.2.2.2.2.2.1 2 144 (.agg [.osl 1900 g.2.2.2.2.2.2 0 v.length,.mref 1018 g.2.2.2.2.1])),(1900,dW g.2.2.2.2.2.2 1 3 (v.map Le))]) (_,_,_,_,_,_,_) ((Py (λg=>bif aAA 4096 g then g+20000 else g+1000) (by rfl) (hX)))<|?_
      rintro⟨au,av,aw,ax,ay,ad,bm⟩ nn
      try dsimp only
      refine Yh (ES:=λ(_s:(List (Int×Bool))×(List Int)) (g:Nat×Nat×Nat×Nat×Nat×Nat×Nat)=>[(1,.optr 1 g.1 0 0),(2,.optr 2 g.2.1 0 0),(3,.optr 3 g.2.2.1 0 0),(4,.sl (m.map (eL Le))),(5,.optr 20 g.2.2.2.2.2.1 0 0),(58,.sl (t.map Le)),(59,Av (t.length:Int)),(60,Av aa),(66,.tup [])]) (OS:=λs g=>[(1,dV g.1 3 36 (Pl a)),(2,dV g.2.1 1 40 (.agg [.nils])),(3,dV g.2.2.1 1 40 (.agg [.osl 14 g.2.2.2.1 0 ((e.set i.toNat p).length)])),(14,dW g.2.2.2.1 1 41 ((e.set i.toNat p).map (eL Le))),(18,some (g.2.2.2.2.1,⟨true,false,0,0,s.1.map (Qa D.bool)⟩)),(20,dV g.2.2.2.2.2.1 2 144 (.agg [.osl 642 g.2.2.2.2.2.2 0 s.2.length,.mref 18 g.2.2.2.2.1])),(642,dW g.2.2.2.2.2.2 1 3 (s.2.map Le))]) (j:=λs=>Ts aa s.1 s.2) (ds:=[.optr 1020 ad 0 0,Av y]) (caps:=[]) (E:=[(0,.optr 1020 ad 0 0),(1,Av y)]) r r r r r r r r ?_ ?_
      ·refine Ur (c:=AmZ)<|?_;refine A 7 ?_;refine AkX (en:=D.bool) (l:=x) r r r r false r<|?_;refine A 3 ?_;refine cD r ?_ ?_
       ·refine A 7 ?_;refine AkY (en:=D.bool) (l:=x) r r r true r r r r<|?_;refine A 15 ?_;exact RK (d:=.tup []) (s:=(RN y true x,v++([y]:List Int))) (_,_,_,_,_,_,_) r (by first|rfl|(simp[Pv,Pz,rdA,raw,strip,PG,cells,PA];done)|(simp[Pv,Pz,rdA,raw,strip,PG,S.ge,S.go,look,Ue,cells,PA];done)) r ((Qi (E1:=[(1,.optr 1001 au 0 0),(2,.optr 1002 av 0 0),(3,.optr 1003 aw 0 0),(4,.sl (m.map (eL Le))),(5,.optr 1020 ad 0 0),(58,.sl (t.map Le)),(59,Av (t.length:Int)),(60,Av aa),(66,.tup [])]) (O1:=[(23,dW _ 1 3 ((v++([y]:List Int)).map Le)),(1001,dV au 3 36 (Pl a)),(1002,dV av 1 40 (.agg [.nils])),(1003,dV aw 1 40 (.agg [.osl 1014 ax 0 ((e.set i.toNat p).length)])),(1014,dW ax 1 41 ((e.set i.toNat p).map (eL Le))),(1018,some (ay,⟨true,false,0,0,(RN y true x).map (Qa D.bool)⟩)),(1020,dV ad 2 144 (.agg [.osl 23 _ 0 ((v++([y]:List Int)).length),.mref 1018 ay]))]) (hX) (λ_=>Py (λg=>bif aAA 24096 g then g-20000 else bif (aAA 1000 g&&aAC g 4096)then g-1000 else bif aAD g 23 then 642 else g) (by rfl) (hX))))
       ·refine A 1 ?_;exact RK (d:=.tup []) (s:=(x,v)) (_,_,_,_,_,_,_) r (by first|rfl|(simp[Pv,Pz,rdA,raw,strip,PG,cells,PA];done)|(simp[Pv,Pz,rdA,raw,strip,PG,S.ge,S.go,look,Ue,cells,PA];done)) r ((Qi (E1:=[(1,.optr 1001 au 0 0),(2,.optr 1002 av 0 0),(3,.optr 1003 aw 0 0),(4,.sl (m.map (eL Le))),(5,.optr 1020 ad 0 0),(58,.sl (t.map Le)),(59,Av (t.length:Int)),(60,Av aa),(66,.tup [])]) (O1:=[(1001,dV au 3 36 (Pl a)),(1002,dV av 1 40 (.agg [.nils])),(1003,dV aw 1 40 (.agg [.osl 1014 ax 0 ((e.set i.toNat p).length)])),(1014,dW ax 1 41 ((e.set i.toNat p).map (eL Le))),(1018,some (ay,⟨true,false,0,0,x.map (Qa D.bool)⟩)),(1020,dV ad 2 144 (.agg [.osl 1900 bm 0 v.length,.mref 1018 ay])),(1900,dW bm 1 3 (v.map Le))]) (hX) (λ_=>Py (λg=>bif aAD g 1900 then 642 else bif aAA 24096 g then g-20000 else bif (aAA 1000 g&&aAC g 4096)then g-1000 else g) (by rfl) (hX))))
      ·rintro⟨bn,bj⟩ ⟨dz,ea,eb,ec,ed,ee,ef⟩ nn
       try dsimp only
       unfold Ts;refine A 7 ?_;exact xL (s:=(bn,bj,i64.wrap (aa+1))) (_,_,_,_,_,_,_) ((Qi (E1:=[(1,.optr 1 _ 0 0),(2,.optr 2 _ 0 0),(3,.optr 3 _ 0 0),(4,.sl (m.map (eL Le))),(5,.optr 20 _ 0 0),(58,.sl (t.map Le)),(59,Av (t.length:Int)),(60,Av (i64.wrap (aa+1)))]) (O1:=[(1,dV _ 3 36 (Pl a)),(2,dV _ 1 40 (.agg [.nils])),(3,dV _ 1 40 (.agg [.osl 14 _ 0 ((e.set i.toNat p).length)])),(14,dW _ 1 41 ((e.set i.toNat p).map (eL Le))),(18,some (_,⟨true,false,0,0,bn.map (Qa D.bool)⟩)),(20,dV _ 2 144 (.agg [.osl 642 _ 0 bj.length,.mref 18 _])),(642,dW _ 1 3 (bj.map Le))]) (hX) (λ_=>Py (λg=>bif aAD g 642 then 900 else g) (by rfl) (hX))))
     ·refine A 5 ?_;exact xL (s:=(e.set i.toNat p,x,v)) (_,_,_,_,_,_,_) ((hX))
  ·refine A 12 ?_;refine Amg (b:=(Ph.mk e)) r ?_ r r ?_ (by first|rfl|(simp only[Mk];rfl)|(simp only[OV];rfl)|(simp only[Mk,OV];rfl)|(simp[Afy,WE];try rfl))
   all_goals first|(simp;done)|(simp;omega)|rfl|(simp[QY,QP];done)

def QW (a:PC):List D:=[SR a]
def RD (ds:List D):PC:=AdC (ds.getD 0 .top)
instance:PD QW RD:=⟨λa=>by simp[RD,QW]⟩
def UH (_b:PC):D:=.tup []
def AhS (b:PC):List D:=[SR b]
def Acn:Dw.Spec:=Pd [(0,(12,75))] .val QW RD (λa=>VT a) UH AhS
theorem Ahe:Pb Tryz.prog 29 Acn:=by
 refine fn2 1 (Pg (l:=[(60,Abb)]) (by simp[AeH])) Tryz.func29<|?_
 intro a;unfold VT;refine A 6 ?_;refine bD λb c=>?_
 refine A 4 ?_;refine TS (i:=0) (es':=[.agg [.sl (a.p.Funcs.map Pl),Av a.i,Av a.f.Params,.sl (a.f.Slots.map Pt),.sl (a.f.Code.map Pu),.sl (b.Out.map (eL Le)),.sl (a.x.Rename.To.map Le),.sl (a.x.Rename.Keep.map D.bool),.sl (a.x.LiveAfter.Out.map (eL Le)),Av a.x.Layout.Args,Av a.x.Layout.Size,.sl (a.x.Layout.Off.map Le)]]) r r r r r r r (by first|trivial|(simp;done)|(simp;omega)) r r r r r r<|?_
 exact B

def Ada:Dw.Spec:=Pd [] .ground Tn Tm (λa=>WJ a) Pm noE
theorem AfK:Pb Tryz.prog 159 Ada:=by
 refine fn2 1 (Pg (l:=[(193,Vj)]) (by simp[Xv])) Tryz.func159<|?_
 intro a;unfold WJ;refine A 14 ?_;refine lP (E:=λ(s:Int) (_g:Unit)=>[(0,.sl (a.map Le)),(5,.sl (a.map Le)),(6,Av (a.length:Int)),(7,Av s)]) (O:=λ_ _=>[]) (body:=λs=>Ss a s) (s:=0) () ((hX))<|?_
 rintro b ⟨⟩ nn
 try dsimp only
 unfold Ss;refine A 6 ?_;refine cD r ?_ ?_
 ·refine A 7 ?_;refine bD λc d=>?_
  refine A 9 ?_;refine bD λe f=>?_
  refine A 3 ?_;refine PM r ?_ ?_
  ·exact B
  ·refine A 3 ?_;refine PM r ?_ ?_
   ·refine A 4 ?_;refine bD λg h=>?_
    refine A 7 ?_;refine cD r ?_ ?_
    ·exact B
    ·refine A 7 ?_;exact xL (s:=i64.wrap (b+1)) () ((hX))
   ·refine A 19 ?_;exact xL (s:=i64.wrap (b+1)) () ((hX))
 ·exact B

def UF (a:(List Int)×Lo):List D:=[.sl (a.1.map Le),.fptr (Pl a.2) 0]
def UE (ds:List D):(List Int)×Lo:=((uL uI) (ds.getD 0 .top),TT (fpD (ds.getD 1 .top)))
instance:PD UF UE:=⟨λa=>by simp[UE,UF,fpD,Qo (u:=uI) (en:=Le) (λ_=>rfl)]⟩
def ZL:Dw.Spec:=Pd [] .ground UF UE (λa=>SS a.1 a.2) Pm noE
theorem Afw:Pb Tryz.prog 205 ZL:=by
 refine fn2 2 (Pg (l:=[(159,Ada)]) (by simp[AfK])) Tryz.func205<|?_
 intro a;unfold SS;exact B

def QJ (a:(List (List Int))×Lo):List D:=[.sl (a.1.map (eL Le)),.clo 205 [.fptr (Pl a.2) 0]]
def QI (ds:List D):(List (List Int))×Lo:=((uL (uL uI)) (ds.getD 0 .top),TT (fpD (Akp (ds.getD 1 .top) 0)))
instance:PD QJ QI:=⟨λa=>by simp[QI,QJ,fpD,Akp,Qo (u:=(uL uI)) (en:=(eL Le)) (Qo (u:=uI) (en:=Le) (λ_=>rfl))]⟩
def Pf (b:Int):D:=Av b
def Sl:Dw.Spec:=Pd [] .ground QJ QI (λa=>Rk a.1 a.2) Pf noE
theorem Zl:Pb Tryz.prog 231 Sl:=by
 refine fn2 2 (Pg (l:=[(205,ZL)]) (by simp[Afw])) Tryz.func231<|?_
 rintro⟨a,b⟩;unfold Rk;refine A 14 ?_;refine lP (E:=λ(s:Int) (_g:Unit)=>[(0,.sl (a.map (eL Le))),(1,.clo 205 [.fptr (Pl b) 0]),(7,Av (a.length:Int)),(8,Av s)]) (O:=λ_ _=>[]) (body:=λs=>Sc a b s) (s:=0) () ((hX))<|?_
 rintro c ⟨⟩ nn
 try dsimp only
 unfold Sc;refine A 6 ?_;refine cD r ?_ ?_
 ·refine A 15 ?_;refine bD λd e=>?_
  refine A 2 ?_;refine bD λf g=>?_
  refine A 3 ?_;refine cD r ?_ ?_
  ·exact B
  ·refine A 7 ?_;exact xL (s:=i64.wrap (c+1)) () ((hX))
 ·exact B

def RJ:Dw.Spec:=Pd [] .ground QJ QI (λa=>Sb a.1 a.2) Pm noE
theorem Yd:Pb Tryz.prog 206 RJ:=by
 refine fn2 2 (Pg (l:=[(844007,Sl)]) (by simp[Zl])) Tryz.func206<|?_
 rintro⟨a,b⟩;unfold Sb;refine A 9 ?_;refine bD λd c=>cG (a,b) rfl rfl (show _=some Sl from by kernel_rfl) PD.ok rfl rfl (by simp) r c r<|?_
 exact B

def QS (a:Lo×Ph):List D:=[Pl a.1,WE a.2]
def QQ (ds:List D):Lo×Ph:=(TT (ds.getD 0 .top),AcI (ds.getD 1 .top))
instance:PD QS QQ:=⟨λa=>by simp[QQ,QS]⟩
def Zc:Dw.Spec:=Pd [] .ground QS QQ (λa=>Ve a.1 a.2) Pm noE
theorem AcP:Pb Tryz.prog 186 Zc:=by
 refine fn2 2 (Pg (l:=[(843982,RJ)]) (by simp[Yd])) Tryz.func186<|?_
 rintro⟨a,b⟩;unfold Ve;refine A 6 ?_;refine Qp (E:=[(2,.fptr (Pl a) 0),(3,.optr 3 _ 0 0)]) (O:=[(3,dV _ 1 40 (.agg [.sl (b.Out.map (eL Le))]))]) ((hV 2 r (hY))) λnn=>?_
 refine A 2 ?_;refine mF (caps:=[.fptr (Pl a) 0]) r r (by simp[UX])<|?_
 refine A 13 ?_;refine PM r ?_ ?_
 ·refine A 3 ?_;refine bD λd c=>cG (b.Out,a) rfl rfl (show _=some RJ from by kernel_rfl) PD.ok rfl rfl (by simp) r c r<|?_
  exact B
 ·exact B

def Ze (a:Ph):List D:=[WE a]
def Zd (ds:List D):Ph:=AcI (ds.getD 0 .top)
instance:PD Ze Zd:=⟨λa=>by simp[Zd,Ze]⟩
def AkK (b:Ph):D:=.clo 232 [.fptr (WE b) 0]
def Afx:Dw.Spec:=Pd [] .val Ze Zd (λa=>Zz a) AkK noE
theorem AjV:Pb Tryz.prog 208 Afx:=by
 refine fn2 1 (Px) Tryz.func208<|?_;intro a;unfold Zz;refine A 5 ?_;refine Qp (E:=[(1,.fptr (.agg [.sl (a.Out.map (eL Le))]) 0)]) (O:=[]) ((hV 1 r (hY))) λnn=>?_
 refine A 2 ?_;refine mF (caps:=[.fptr (.agg [.sl (a.Out.map (eL Le))]) 0]) r r (by simp[UX])<|?_
 exact B

def Vy (a:Int×Ph):List D:=[Av a.1,.fptr (WE a.2) 0]
def Vx (ds:List D):Int×Ph:=(uI (ds.getD 0 .top),AcI (fpD (ds.getD 1 .top)))
instance:PD Vy Vx:=⟨λa=>by simp[Vx,Vy,uI,fpD]⟩
def AbD:Dw.Spec:=Pd [] .val Vy Vx (λa=>Vn a.1 a.2) PX noE
theorem Agy:Pb Tryz.prog 232 AbD:=by
 refine fn2 2 (Px) Tryz.func232<|?_;intro a;unfold Vn;exact B

def Afh:Dw.Spec:=Pd [] .ground VH VG (λa=>WM a.1 a.2) Afi noE
theorem AjL:Pb Tryz.prog 233 Afh:=by
 refine fn2 2 (Px) Tryz.func233<|?_;intro a;unfold WM;exact B

def SZ (a:OW×OW):List D:=[Pq a.1,Pq a.2,.clo 233 []]
def SY (ds:List D):OW×OW:=(Rx (ds.getD 0 .top),Rx (ds.getD 1 .top))
instance:PD SZ SY:=⟨λa=>by simp[SY,SZ]⟩
def AcJ (b:OW×OW×OW):List D:=[Pq b.2.1,Pq b.2.2]
def Tx:Dw.Spec:=Pd [(0,(8,201)),(1,(8,201))] (.ptr 8 201) SZ SY (λa=>Su a.1 a.2) Wu AcJ
theorem AbO:Pb Tryz.prog 182 Tx:=by
 refine fn2 3 (Pg (l:=[(233,Afh)]) (by simp[AjL])) Tryz.func182<|?_
 rintro⟨d,e⟩;unfold Su;refine A 19 ?_;refine lP (E:=λ(s:OW×Int) (g:Nat)=>[(0,.optr 8192 0 0 0),(1,.optr 8193 1 0 0),(2,.clo 233 []),(7,.optr 10 g 0 0),(11,Av s.2)]) (O:=λs g=>[(10,dV g 8 201 (Pq s.1)),(8192,dV 0 8 201 (Pq d)),(8193,dV 1 8 201 (Pq e))]) (body:=λs=>QL d e s.1 s.2) (s:=((OW.mk 0 0 0 0 0 0 0 0),0)) _ ((hX))<|?_
 rintro⟨b,a⟩ p nn
 try dsimp only
 unfold QL;refine A 6 ?_;refine cD r ?_ ?_
 ·refine A 17 ?_;refine cK λhq=>Uq r r r hq<|bD λf h=>Wd (q:=f) (l:=d.toList) (en:=ZU) (j:=a.toNat) (by simp) r r r h r (λ_=>r)<|?_
  refine A 3 ?_;refine cK λhq=>Uq r r r hq<|bD λi k=>Wd (q:=i) (l:=e.toList) (en:=ZU) (j:=a.toNat) (by simp) r r r k r (λ_=>r)<|bD λc t=>?_
  refine A 2 ?_;refine cK λhq=>Uq r r r hq<|bD λm o=>AlH (q:=m) (q':=c) (l:=b.toList) (en:=ZU) (j:=a.toNat) (z':=Pq (b.set a.toNat c)) (by simp) r r r r r o r r (congrArg (λl=>D.agg (l.map ZU)) (Sh b a.toNat c).symm)<|?_
  refine A 7 ?_;exact xL (s:=((b.set a.toNat c),i64.wrap (a+1))) _ ((hX))
 ·exact B

def AgN:Dw.Spec:=Pd [] .val TG TF (λa=>WK a.1 a.2) PX noE
theorem Alc:Pb Tryz.prog 210 AgN:=by
 refine fn2 2 (Pg (l:=[(181,Ug),(958646,Tx),(184,SQ)]) (by simp[UY,AbO,TO])) Tryz.func210<|?_
 rintro⟨d,e⟩;unfold WK;refine A 8 ?_;refine bD λa f=>?_
 refine A 2 ?_;refine bD λb g=>?_
 refine A 1 ?_;refine bD λh c=>cP (a,b) rfl rfl (show _=some Tx from by kernel_rfl) PD.ok rfl rfl (by simp) r c<|?_
 exact B

def TA (a:(List Int)×(List Int)×Ph×Int):List D:=[.sl (a.1.map Le),.sl (a.2.1.map Le),.fptr (WE a.2.2.1) 0,.fptr (Av a.2.2.2) 0]
def Tz (ds:List D):(List Int)×(List Int)×Ph×Int:=((uL uI) (ds.getD 0 .top),(uL uI) (ds.getD 1 .top),AcI (fpD (ds.getD 2 .top)),uI (fpD (ds.getD 3 .top)))
instance:PD TA Tz:=⟨λa=>by simp[Tz,TA,uI,fpD,Qo (u:=uI) (en:=Le) (λ_=>rfl)]⟩
def Xr (b:Bool×(List Int)):D:=.bool b.1
def Aeb (b:Bool×(List Int)):List D:=[.sl (b.2.map Le)]
def Xs:Dw.Spec:=Pd [(1,(1,41))] .val TA Tz (λa=>SW a.1 a.2.1 a.2.2.1 a.2.2.2) Xr Aeb
theorem Adn:Pb Tryz.prog 209 Xs:=by
 refine fn2 4 (Pg (l:=[(210,AgN),(139,WO)]) (by simp[Alc,AbM])) Tryz.func209<|?_
 rintro⟨b,c,d,e⟩;unfold SW;refine A 12 ?_;refine bD λf g=>?_
 refine A 2 ?_;refine bD λh j=>?_
 refine A 1 ?_;refine bD λa k=>?_
 refine A 1 ?_;refine TS (i:=0) (es':=[.sl (a.map Le)]) r r r r r r r (by first|trivial|(simp;done)|(simp;omega)) r r r r r r<|?_
 exact B

def QH (a:Lo×Int×Ph×(List Int)×Ph×Int):List D:=[Pl a.1,Av a.2.1,.clo 232 [.fptr (WE a.2.2.1) 0],.clo 209 [.sl (a.2.2.2.1.map Le),.fptr (WE a.2.2.2.2.1) 0,.fptr (Av a.2.2.2.2.2) 0]]
def RQ (ds:List D):Lo×Int×Ph×(List Int)×Ph×Int:=(TT (ds.getD 0 .top),uI (ds.getD 1 .top),AcI (fpD (Akp (ds.getD 2 .top) 0)),(uL uI) (Akp (ds.getD 3 .top) 0),AcI (fpD (Akp (ds.getD 3 .top) 1)),uI (fpD (Akp (ds.getD 3 .top) 2)))
instance:PD QH RQ:=⟨λa=>by simp[RQ,QH,uI,fpD,Akp,Qo (u:=uI) (en:=Le) (λ_=>rfl)]⟩
def Zy (b:Bool×(List Int)):List D:=[.sl (b.2.map Le)]
def Si:Dw.Spec:=Pd [(256,(1,41))] .val QH RQ (λa=>Qy a.1 a.2.1 a.2.2.1 a.2.2.2.1 a.2.2.2.2.1 a.2.2.2.2.2) Xr Zy
theorem Zb:Pb Tryz.prog 207 Si:=by
 refine fn2 4 (Pg (l:=[(138,Aao),(232,AbD),(140,AdF),(209,Xs)]) (by simp[Afu,Agy,AiQ,Adn])) Tryz.func207<|?_
 rintro⟨b,j,c,f,d,e⟩;unfold Qy;refine A 11 ?_;refine bD λa k=>?_
 refine A 6 ?_;refine lP (E:=λ(s:(List Int)×Int) (g:Nat×Nat)=>[(2,.clo 232 [.fptr (.agg [.sl (c.Out.map (eL Le))]) 0]),(3,.clo 209 [.optr 8448 256 0 0,.fptr (.agg [.sl (d.Out.map (eL Le))]) 0,.fptr (Av e) 0]),(4,.optr 4 g.1 0 0),(13,.osl 13 g.2 0 a.length),(14,Av (a.length:Int)),(15,Av s.2)]) (O:=λs g=>[(4,dV g.1 3 36 (Pl b)),(13,dW g.2 1 3 (a.map Le)),(8448,dV 256 1 41 (.sl (s.1.map Le)))]) (body:=λs=>PY a b c d e s.1 s.2) (s:=(f,0)) (_,_) ((hX))<|?_
 rintro⟨m,h⟩ ⟨o,p⟩ nn
 try dsimp only
 unfold PY;refine A 6 ?_;refine cD r ?_ ?_
 ·refine A 7 ?_;refine bD λq t=>?_
  refine A 10 ?_;refine bD λu v=>?_
  refine A 4 ?_;refine bD λw x=>?_
  refine A 1 ?_;refine bD λy z=>?_
  refine A 1 ?_;refine bD λi aa=>?_
  refine A 4 ?_;refine cD r ?_ ?_
  ·exact B
  ·refine A 7 ?_;exact xL (s:=(i.2,i64.wrap (h+1))) (_,_) ((hX))
 ·exact B

def AjU (b:Int×Int×Bool):D:=.tup [Av b.1,Av b.2.1,.bool b.2.2]
def AeG:Dw.Spec:=Pd [] .ground QS QQ (λa=>YD a.1 a.2) AjU noE
theorem Ajb:Pb Tryz.prog 187 AeG:=by
 refine fn2 2 (Pg (l:=[(186,Zc),(208,Afx),(3524169935,Si)]) (by simp[AcP,AjV,Zb])) Tryz.func187<|?_
 rintro⟨a,b⟩;unfold YD;refine A 8 ?_;refine Qp (E:=[(2,.optr 2 _ 0 0),(3,.fptr (.agg [.sl (b.Out.map (eL Le))]) 0)]) (O:=[(2,dV _ 3 36 (Pl a))]) ((hV 3 r (hY))) λnn=>?_
 refine A 5 ?_;refine bD λf h=>?_
 refine A 4 ?_;refine cD r ?_ ?_
 ·exact B
 ·refine A 12 ?_;refine lP (E:=λ(s:Int) (g:Nat)=>[(2,.optr 2 g 0 0),(3,.fptr (.agg [.sl (b.Out.map (eL Le))]) 0),(15,Av (a.Code.length:Int)),(16,Av s)]) (O:=λ_ g=>[(2,dV g 3 36 (Pl a))]) (body:=λs=>Za a b s) (s:=0) _ ((hX))<|?_
  rintro c i nn
  try dsimp only
  unfold Za;refine A 6 ?_;refine cD r ?_ ?_
  ·refine A 10 ?_;refine Qp (E:=[(2,.optr 2 _ 0 0),(3,.fptr (.agg [.sl (b.Out.map (eL Le))]) 0),(7,.fptr (Av c) 0),(15,Av (a.Code.length:Int)),(16,Av c)]) (O:=[(2,dV _ 3 36 (Pl a))]) ((hV 7 r (hY))) λnn=>?_
   refine A 10 ?_;refine bD λd j=>?_
   refine A 1 ?_;refine mF (caps:=[.optr 8 _ 0 0,.fptr (.agg [.sl (b.Out.map (eL Le))]) 0,.fptr (Av c) 0]) r r (by simp[UX])<|bD λk e=>cV (a,c,d,[],b,c) rfl rfl (show _=some Si from by kernel_rfl) PD.ok rfl rfl (by simp) (by first|rfl|(simp only[Mk];rfl)|(simp only[OV];rfl)|(simp only[Mk,OV];rfl)|simp[QH,Pl,WE,WE]) e<|?_
   refine A 9 ?_;refine cD r ?_ ?_
   ·exact B
   ·refine A 7 ?_;exact xL (s:=i64.wrap (c+1)) _ ((hX))
  ·exact B

def ZY:Dw.Spec:=Pd [] .ground QS QQ (λa=>VR a.1 a.2) Pf noE
theorem Aea:Pb Tryz.prog 141 ZY:=by
 refine fn2 2 (Pg (l:=[(186,Zc),(187,AeG)]) (by simp[AcP,Ajb])) Tryz.func141<|?_
 intro a;unfold VR;exact B

def Um (a:OX×Int):List D:=[Pu a.1,Av a.2]
def Ul (ds:List D):OX×Int:=(AcH (ds.getD 0 .top),uI (ds.getD 1 .top))
instance:PD Um Ul:=⟨λa=>by simp[Ul,Um,uI]⟩
def AcO:Dw.Spec:=Pd [] .ground Um Ul (λa=>Uv a.1 a.2) Pm noE
theorem AhL:Pb Tryz.prog 105 AcO:=by
 refine fn2 2 (Px) Tryz.func105<|?_;intro a;unfold Uv;exact B

def UD (a:(List (List Bool))):List D:=[.sl (a.map (eL D.bool))]
def UC (ds:List D):(List (List Bool)):=(uL (uL uBo)) (ds.getD 0 .top)
instance:PD UD UC:=⟨λa=>by simp[UC,UD,Qo (u:=(uL uBo)) (en:=(eL D.bool)) (Qo (u:=uBo) (en:=D.bool) (λ_=>rfl))]⟩
def Vw:Dw.Spec:=Pd [] .val UD UC (λa=>RS a) Aij noE
theorem YY:Pb Tryz.prog 144 Vw:=by
 refine fn2 1 (Px) Tryz.func144<|?_;intro a;unfold RS;refine A 9 ?_;refine cK λhq=>Aaw (α:=Int) r r r hq r<|?_
 refine A 2 ?_;refine Qp (E:=[(0,.sl (a.map (eL D.bool))),(3,.osl 4099 _ 0 ((aA (a.length:Int).toNat ([]:(List Int))).length))]) (O:=[(4099,dW _ 1 41 ((aA (a.length:Int).toNat ([]:(List Int))).map (eR 1 3 Le)))]) ((AeM (g:=3) (g2:=4099) r r r (AhI (l:=aA (a.length:Int).toNat ([]:(List Int))) (s':=1) (ty':=3) Le (by decide) (λ_ h=>aAB h)) (hX))) λnn=>?_
 refine A 9 ?_;refine lP (E:=λ(s:(List (List Int))×Int) (g:Nat)=>[(3,.osl 4099 g 0 s.1.length),(11,.sl (a.map (eL D.bool))),(12,Av (a.length:Int)),(13,Av s.2)]) (O:=λs g=>[(4099,dW g 1 41 (s.1.map (eR 1 3 Le)))]) (body:=λs=>Th a s.1 s.2) (s:=(aA (a.length:Int).toNat ([]:(List Int)),0)) _ ((hX))<|?_
 rintro⟨b,c⟩ k nn
 try dsimp only
 unfold Th;refine A 6 ?_;refine cD r ?_ ?_
 ·refine A 7 ?_;refine bD λe m=>?_
  refine A 14 ?_;refine lP (E:=λ(s:(List (List Int))×Int) (g:Nat)=>[(3,.osl 4099 g 0 s.1.length),(4,Av c),(11,.sl (a.map (eL D.bool))),(12,Av (a.length:Int)),(13,Av c),(18,.sl (e.map D.bool)),(19,Av (e.length:Int)),(20,Av s.2)]) (O:=λs g=>[(4099,dW g 1 41 (s.1.map (eR 1 3 Le)))]) (body:=λs=>Ti e c s.1 s.2) (s:=(b,0)) _ ((hX))<|?_
  rintro⟨f,i⟩ o nn
  try dsimp only
  unfold Ti;refine A 6 ?_;refine cD r ?_ ?_
  ·refine A 7 ?_;refine bD λp t=>?_
   refine A 11 ?_;refine cD r ?_ ?_
   ·refine A 6 ?_;refine bD λd j=>AmE (q:=d) Le r r r j<|?_
    refine A 2 ?_;refine cK λhq=>AmD (d) (([i]:List Int)) Le r r r r r r r (by simp) (Uo _ _ r) r r (by simp) (RA _ _ r) (λ_=>r) r hq (λ_=>r)<|cK λhq=>Yi (by simp) r r r r (by simpa using hq)<|AdK (l:=f) (q:=d) (q':=d++([i]:List Int)) Le rfl rfl rfl rfl (.inr ⟨_,_,_,rfl⟩) j rfl rfl ⟨⟨rfl,rfl,by simp,Zh λ_=>rfl⟩,trivial,rfl⟩ (congrArg (λz=>[D.row _ _ z]) (RA _ _ rfl)) rfl<|?_
    exact B
   ·refine A 7 ?_;exact xL (s:=(f,i64.wrap (i+1))) _ ((hX))
  ·refine A 10 ?_;exact xL (s:=(f,i64.wrap (c+1))) _ ((hX))
 ·refine A 4 ?_;refine Qp (E:=[(3,.osl 4099 _ 0 b.length)]) (O:=[(4099,dW _ 1 41 (b.map (eL Le)))]) ((AbC (g:=4099) r (AhJ (l:=b) Le (λ_=>r)) (hX))) λnn=>?_
  exact B

def Alm:PZ:=(Tryz.f142.body.bind (PS Tryz.prog Tryz.f142.ntmps)).getD .skip
theorem Apb:(Tryz.f142.body.bind (PS Tryz.prog Tryz.f142.ntmps))=some Alm:=by kernel_rfl
theorem Apc:Tryz.f142.results.toList.mapM (TH Tryz.prog)=some [(.t 2)]:=by kernel_rfl

end
end Go.Proofs.YtilmapojncgflaaGreatDoor
