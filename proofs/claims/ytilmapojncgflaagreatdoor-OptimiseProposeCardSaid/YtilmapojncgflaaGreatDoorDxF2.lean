/-
  Programs on typed data, and the proofs that the code does what they say; written by a program (dx.py).
-/
import Derived.Test.YtilmapojncgflaaGreatDoorProg
import Derived.Test.YtilmapojncgflaaGreatDoorDd
import Derived.KernelRfl
import Derived.Test.YtilmapojncgflaaGreatDoorDxP
import Derived.Test.YtilmapojncgflaaGreatDoorDxF1
open List renaming replicate->aA,eq_of_mem_replicate->aAB
open Nat renaming ble->aAA,blt->aAC,beq->aAD
namespace Go.Proofs.YtilmapojncgflaaGreatDoor
open Go Go.Dw Go.Proofs
open Go.IntKind (i64)
set_option maxRecDepth 100000
set_option maxHeartbeats 40000000
open Go.Dw renaming Ra -> bD,Qe -> cK,Abo -> cV,AaF -> cG,TC -> sE,ZR -> iO,ZS -> cD,XW -> xL,YX -> hE,Afg -> cP,AbS -> lP,Akr -> mF,rf -> r
noncomputable section
def VU (b:Pg):D:=Uu b
def AdA:Dw.Spec:=OY [] .val TJ TI (λa=>VC a) VU noE
def Afn:Dw.Spec:=VV (specs []) 2 [] AqO
theorem AkT:OW Tryz.prog 100 Afn:=Sg (Pp) Tryz.func100 (by decide) AwB AwC (by decide)
def Afo:Dw.Spec:=VV (specs []) 1 [(.t 2)] AtB
theorem AkU:OW Tryz.prog 101 Afo:=Sg (Pp) Tryz.func101 (by decide) AwD AwE (by decide)
def Afp:Dw.Spec:=VV (specs [(138,Acy),(140,Agm),(139,Yr)]) 3 [(.t 6)] AtC
theorem AkV:OW Tryz.prog 102 Afp:=Sg (OZ (l:=[(138,Acy),(140,Agm),(139,Yr)]) (by simp[Aim,Amn,Aek])) Tryz.func102 (by decide) AwF AwG (by decide)
theorem Ahz:OW Tryz.prog 60 AdA:=by
 refine fn2 1 (OZ (l:=[(99,Aln),(100,Afn),(101,Afo),(102,Afp),(103,AcJ)]) (by simp[Apu,AkT,AkU,AkV,AiM])) Tryz.func60<|?_
 intro a;unfold VC;refine A 11 ?_;refine cK λhq=>Vz (α:=Int) r r r hq r<|?_
 refine A 4 ?_;refine Qg (E:=[(1,.optr 1 _ 0 0),(2,.optr 2 _ 0 0),(3,.optr 3 _ 0 0)]) (O:=[(1,dV _ 3 36 (Pf a)),(2,dV _ 1 40 (.agg [.nils])),(3,dV _ 1 40 (.agg [.osl 14 _ 0 ((aA (a.Code.length:Int).toNat ([]:(List Int))).length)])),(14,dW _ 1 41 ((aA (a.Code.length:Int).toNat ([]:(List Int))).map (eL Le)))]) ((AiX (g:=14) r (AkX (l:=aA (a.Code.length:Int).toNat ([]:(List Int))) Le (λ_ h=>aAB h)) (hX))) λnn=>?_
 refine A 3 ?_;refine bD λm br=>?_
 refine A 6 ?_;refine Atl λnn=>?_
 refine A 15 ?_;refine lP (E:=λ(s:(List (Int×Bool))×(List Int)×Int) (g:Nat×Nat×Nat×Nat×Nat×Nat×Nat)=>[(1,.optr 1 g.1 0 0),(2,.optr 2 g.2.1 0 0),(3,.optr 3 g.2.2.1 0 0),(4,.sl (m.map (eL Le))),(5,.optr 20 g.2.2.2.2.2.1 0 0),(23,Av (a.Code.length:Int)),(24,Av s.2.2)]) (O:=λs g=>[(1,dV g.1 3 36 (Pf a)),(2,dV g.2.1 1 40 (.agg [.nils])),(3,dV g.2.2.1 1 40 (.agg [.osl 14 g.2.2.2.1 0 ((aA (a.Code.length:Int).toNat ([]:(List Int))).length)])),(14,dW g.2.2.2.1 1 41 ((aA (a.Code.length:Int).toNat ([]:(List Int))).map (eL Le))),(18,some (g.2.2.2.2.1,⟨true,false,0,0,s.1.map (Qj D.bool)⟩)),(20,dV g.2.2.2.2.2.1 2 144 (.agg [.osl 900 g.2.2.2.2.2.2 0 s.2.1.length,.mref 18 g.2.2.2.2.1])),(900,dW g.2.2.2.2.2.2 1 3 (s.2.1.map Le))]) (body:=λs=>Yj a m s.1 s.2.1 s.2.2) (s:=(([]:List (Int×Bool)),([]:List Int),0)) (_,_,_,_,_,_,_) ((Aog (gg:=20) (off:=0) (tt:=900) (s:=1) (tyy:=3) r r r r (hX)))<|?_
 rintro⟨w,u,o⟩ ⟨bs,bt,bu,bv,bw,bx,bz⟩ nn
 try dsimp only
 unfold Yj;refine A 6 ?_;refine cD r ?_ ?_
 ·refine A 13 ?_;refine RV (E:=λ(g:Nat×Nat×Nat×Nat×Nat×Nat×Nat)=>[(1,.optr 1001 g.1 0 0),(2,.optr 1002 g.2.1 0 0),(3,.optr 1003 g.2.2.1 0 0),(4,.sl (m.map (eL Le))),(5,.optr 1020 g.2.2.2.2.2.1 0 0),(23,Av (a.Code.length:Int)),(24,Av o),(27,.optr 1020 g.2.2.2.2.2.1 0 0),(28,Av o)]) (O:=λg=>[(1001,dV g.1 3 36 (Pf a)),(1002,dV g.2.1 1 40 (.agg [.nils])),(1003,dV g.2.2.1 1 40 (.agg [.osl 1014 g.2.2.2.1 0 ((aA (a.Code.length:Int).toNat ([]:(List Int))).length)])),(1014,dW g.2.2.2.1 1 41 ((aA (a.Code.length:Int).toNat ([]:(List Int))).map (eL Le))),(1018,some (g.2.2.2.2.1,⟨true,false,0,0,w.map (Qj D.bool)⟩)),(1020,dV g.2.2.2.2.2.1 2 144 (.agg [.osl 1900 g.2.2.2.2.2.2 0 u.length,.mref 1018 g.2.2.2.2.1])),(1900,dW g.2.2.2.2.2.2 1 3 (u.map Le))]) (_,_,_,_,_,_,_) ((PA (λg=>bif aAA 4096 g then g+20000 else g+1000) (by rfl) (hX)))<|?_
  rintro⟨ae,af,ag,ah,ai,ab,bk⟩ nn
  try dsimp only
  refine ZP (ES:=λ(_s:(List (Int×Bool))×(List Int)) (g:Nat×Nat×Nat×Nat×Nat×Nat×Nat)=>[(1,.optr 1 g.1 0 0),(2,.optr 2 g.2.1 0 0),(3,.optr 3 g.2.2.1 0 0),(4,.sl (m.map (eL Le))),(5,.optr 20 g.2.2.2.2.2.1 0 0),(23,Av (a.Code.length:Int)),(24,Av o),(29,.tup [])]) (OS:=λs g=>[(1,dV g.1 3 36 (Pf a)),(2,dV g.2.1 1 40 (.agg [.nils])),(3,dV g.2.2.1 1 40 (.agg [.osl 14 g.2.2.2.1 0 ((aA (a.Code.length:Int).toNat ([]:(List Int))).length)])),(14,dW g.2.2.2.1 1 41 ((aA (a.Code.length:Int).toNat ([]:(List Int))).map (eL Le))),(18,some (g.2.2.2.2.1,⟨true,false,0,0,s.1.map (Qj D.bool)⟩)),(20,dV g.2.2.2.2.2.1 2 144 (.agg [.osl 601 g.2.2.2.2.2.2 0 s.2.length,.mref 18 g.2.2.2.2.1])),(601,dW g.2.2.2.2.2.2 1 3 (s.2.map Le))]) (j:=λs=>Vh o s.1 s.2) (ds:=[.optr 1020 ab 0 0,Av o]) (caps:=[]) (E:=[(0,.optr 1020 ab 0 0),(1,Av o)]) r r r r r r r r ?_ ?_
  ·refine Va (c:=AqO)<|?_;refine A 7 ?_;refine Aoz (en:=D.bool) (l:=w) r r r r false r<|?_;refine A 3 ?_;refine cD r ?_ ?_
   ·refine A 7 ?_;refine AoA (en:=D.bool) (l:=w) r r r true r r r r<|?_;refine A 15 ?_;exact RS (d:=.tup []) (s:=(RT o true w,u++([o]:List Int))) (_,_,_,_,_,_,_) r (by first|rfl|(simp[Pz,PC,rdA,raw,strip,PI,cells,PD];done)|(simp[Pz,PC,rdA,raw,strip,PI,S.ge,S.go,look,UR,cells,PD];done)) r ((Qt (E1:=[(1,.optr 1001 ae 0 0),(2,.optr 1002 af 0 0),(3,.optr 1003 ag 0 0),(4,.sl (m.map (eL Le))),(5,.optr 1020 ab 0 0),(23,Av (a.Code.length:Int)),(24,Av o),(29,.tup [])]) (O1:=[(23,dW _ 1 3 ((u++([o]:List Int)).map Le)),(1001,dV ae 3 36 (Pf a)),(1002,dV af 1 40 (.agg [.nils])),(1003,dV ag 1 40 (.agg [.osl 1014 ah 0 ((aA (a.Code.length:Int).toNat ([]:(List Int))).length)])),(1014,dW ah 1 41 ((aA (a.Code.length:Int).toNat ([]:(List Int))).map (eL Le))),(1018,some (ai,⟨true,false,0,0,(RT o true w).map (Qj D.bool)⟩)),(1020,dV ab 2 144 (.agg [.osl 23 _ 0 ((u++([o]:List Int)).length),.mref 1018 ai]))]) (hX) (λ_=>PA (λg=>bif aAA 24096 g then g-20000 else bif (aAA 1000 g&&aAC g 4096)then g-1000 else bif aAD g 23 then 601 else g) (by rfl) (hX))))
   ·refine A 1 ?_;exact RS (d:=.tup []) (s:=(w,u)) (_,_,_,_,_,_,_) r (by first|rfl|(simp[Pz,PC,rdA,raw,strip,PI,cells,PD];done)|(simp[Pz,PC,rdA,raw,strip,PI,S.ge,S.go,look,UR,cells,PD];done)) r ((Qt (E1:=[(1,.optr 1001 ae 0 0),(2,.optr 1002 af 0 0),(3,.optr 1003 ag 0 0),(4,.sl (m.map (eL Le))),(5,.optr 1020 ab 0 0),(23,Av (a.Code.length:Int)),(24,Av o),(29,.tup [])]) (O1:=[(1001,dV ae 3 36 (Pf a)),(1002,dV af 1 40 (.agg [.nils])),(1003,dV ag 1 40 (.agg [.osl 1014 ah 0 ((aA (a.Code.length:Int).toNat ([]:(List Int))).length)])),(1014,dW ah 1 41 ((aA (a.Code.length:Int).toNat ([]:(List Int))).map (eL Le))),(1018,some (ai,⟨true,false,0,0,w.map (Qj D.bool)⟩)),(1020,dV ab 2 144 (.agg [.osl 1900 bk 0 u.length,.mref 1018 ai])),(1900,dW bk 1 3 (u.map Le))]) (hX) (λ_=>PA (λg=>bif aAD g 1900 then 601 else bif aAA 24096 g then g-20000 else bif (aAA 1000 g&&aAC g 4096)then g-1000 else g) (by rfl) (hX))))
  ·rintro⟨x6,x7⟩ ⟨ca,cb,cc,cd,ce,cf,cg⟩ nn
   try dsimp only
   unfold Vh;refine A 7 ?_;exact xL (s:=(x6,x7,i64.wrap (o+1))) (_,_,_,_,_,_,_) ((Qt (E1:=[(1,.optr 1 _ 0 0),(2,.optr 2 _ 0 0),(3,.optr 3 _ 0 0),(4,.sl (m.map (eL Le))),(5,.optr 20 _ 0 0),(23,Av (a.Code.length:Int)),(24,Av (i64.wrap (o+1)))]) (O1:=[(1,dV _ 3 36 (Pf a)),(2,dV _ 1 40 (.agg [.nils])),(3,dV _ 1 40 (.agg [.osl 14 _ 0 ((aA (a.Code.length:Int).toNat ([]:(List Int))).length)])),(14,dW _ 1 41 ((aA (a.Code.length:Int).toNat ([]:(List Int))).map (eL Le))),(18,some (_,⟨true,false,0,0,x6.map (Qj D.bool)⟩)),(20,dV _ 2 144 (.agg [.osl 601 _ 0 x7.length,.mref 18 _])),(601,dW _ 1 3 (x7.map Le))]) (hX) (λ_=>PA (λg=>bif aAD g 601 then 900 else g) (by rfl) (hX))))
 ·refine A 7 ?_;refine lP (E:=λ(_s:(List (List Int))×(List (Int×Bool))×(List Int)) (g:Nat×Nat×Nat×Nat×Nat×Nat×Nat)=>[(1,.optr 1 g.1 0 0),(2,.optr 2 g.2.1 0 0),(3,.optr 3 g.2.2.1 0 0),(4,.sl (m.map (eL Le))),(5,.optr 20 g.2.2.2.2.2.1 0 0)]) (O:=λs g=>[(1,dV g.1 3 36 (Pf a)),(2,dV g.2.1 1 40 (.agg [.nils])),(3,dV g.2.2.1 1 40 (.agg [.osl 14 g.2.2.2.1 0 s.1.length])),(14,dW g.2.2.2.1 1 41 (s.1.map (eL Le))),(18,some (g.2.2.2.2.1,⟨true,false,0,0,s.2.1.map (Qj D.bool)⟩)),(20,dV g.2.2.2.2.2.1 2 144 (.agg [.osl 900 g.2.2.2.2.2.2 0 s.2.2.length,.mref 18 g.2.2.2.2.1])),(900,dW g.2.2.2.2.2.2 1 3 (s.2.2.map Le))]) (body:=λs=>Ach a m s.1 s.2.1 s.2.2) (s:=(aA (a.Code.length:Int).toNat ([]:(List Int)),w,u)) (_,_,_,_,_,_,_) ((hX))<|?_
  rintro⟨e,q,f⟩ ⟨ch,ci,cj,ck,cl,cm,cn⟩ nn
  try dsimp only
  unfold Ach;refine A 11 ?_;refine cD r ?_ ?_
  ·refine A 6 ?_;refine RV (E:=λ(g:Nat×Nat×Nat×Nat×Nat×Nat×Nat)=>[(1,.optr 1001 g.1 0 0),(2,.optr 1002 g.2.1 0 0),(3,.optr 1003 g.2.2.1 0 0),(4,.sl (m.map (eL Le))),(5,.optr 1020 g.2.2.2.2.2.1 0 0),(37,.optr 1020 g.2.2.2.2.2.1 0 0)]) (O:=λg=>[(1001,dV g.1 3 36 (Pf a)),(1002,dV g.2.1 1 40 (.agg [.nils])),(1003,dV g.2.2.1 1 40 (.agg [.osl 1014 g.2.2.2.1 0 e.length])),(1014,dW g.2.2.2.1 1 41 (e.map (eL Le))),(1018,some (g.2.2.2.2.1,⟨true,false,0,0,q.map (Qj D.bool)⟩)),(1020,dV g.2.2.2.2.2.1 2 144 (.agg [.osl 1900 g.2.2.2.2.2.2 0 f.length,.mref 1018 g.2.2.2.2.1])),(1900,dW g.2.2.2.2.2.2 1 3 (f.map Le))]) (_,_,_,_,_,_,_) ((PA (λg=>bif aAA 4096 g then g+20000 else g+1000) (by rfl) (hX)))<|?_
   rintro⟨ba,bb,bc,aj,ak,ac,ao⟩ nn
   try dsimp only
   refine Agg (ds:=[.optr 1020 ac 0 0]) (caps:=[]) (E:=[(0,.optr 1020 ac 0 0)]) r r r r r r r r<|Va (c:=AtB)<|?_;refine A 17 ?_;refine cK λhq=>iO (l:=f) (en:=Le) r r r r r hq<|bD λi co=>?_
   refine A 17 ?_;refine cK λhq=>AbQ (l:=f) r r r r r r hq<|?_
   refine A 4 ?_;refine Qg (E:=[(0,.optr 1020 ac 0 0),(3,Av i)]) (O:=[(1001,dV ba 3 36 (Pf a)),(1002,dV bb 1 40 (.agg [.nils])),(1003,dV bc 1 40 (.agg [.osl 1014 aj 0 e.length])),(1014,dW aj 1 41 (e.map (eL Le))),(1018,some (ak,⟨true,false,0,0,q.map (Qj D.bool)⟩)),(1020,dV ac 2 144 (.agg [.osl 1900 ao 0 ((f.take ((i64.wrap ((f.length:Int)-1)).toNat)).length),.mref 1018 ak])),(1900,dW ao 1 3 ((f.take ((i64.wrap ((f.length:Int)-1)).toNat)).map Le))]) ((AtV (gw:=1020) (off:=0) (gg:=1900) (k:=(i64.wrap ((f.length:Int)-1)).toNat) (l:=f) (en:=Le) r r r (by omega) r (hX))) λnn=>?_
   refine A 7 ?_;refine Avm (en:=D.bool) (l:=q) r r r r<|?_;refine A 9 ?_;refine Anf (d:=Av i) (E:=[(1,.optr 1 _ 0 0),(2,.optr 2 _ 0 0),(3,.optr 3 _ 0 0),(4,.sl (m.map (eL Le))),(5,.optr 20 _ 0 0),(38,Av i)]) (O:=[(1,dV _ 3 36 (Pf a)),(2,dV _ 1 40 (.agg [.nils])),(3,dV _ 1 40 (.agg [.osl 14 _ 0 e.length])),(14,dW _ 1 41 (e.map (eL Le))),(18,some (_,⟨true,false,0,0,(Sf i q).map (Qj D.bool)⟩)),(20,dV _ 2 144 (.agg [.osl 900 _ 0 ((f.take ((i64.wrap ((f.length:Int)-1)).toNat)).length),.mref 18 _])),(900,dW _ 1 3 ((f.take ((i64.wrap ((f.length:Int)-1)).toNat)).map Le))]) r (by first|rfl|(simp[Pz,PC,rdA,raw,strip,PI,cells,PD];done)|(simp[Pz,PC,rdA,raw,strip,PI,S.ge,S.go,look,UR,cells,PD];done)) r ((Qt (E1:=[(1,.optr 1001 ba 0 0),(2,.optr 1002 bb 0 0),(3,.optr 1003 bc 0 0),(4,.sl (m.map (eL Le))),(5,.optr 1020 ac 0 0),(38,Av i)]) (O1:=[(1001,dV ba 3 36 (Pf a)),(1002,dV bb 1 40 (.agg [.nils])),(1003,dV bc 1 40 (.agg [.osl 1014 aj 0 e.length])),(1014,dW aj 1 41 (e.map (eL Le))),(1018,some (ak,⟨true,false,0,0,(Sf i q).map (Qj D.bool)⟩)),(1020,dV ac 2 144 (.agg [.osl 1900 ao 0 ((f.take ((i64.wrap ((f.length:Int)-1)).toNat)).length),.mref 1018 ak])),(1900,dW ao 1 3 ((f.take ((i64.wrap ((f.length:Int)-1)).toNat)).map Le))]) (hX) (λ_=>PA (λg=>bif aAA 24096 g then g-20000 else bif (aAA 1000 g&&aAC g 4096)then g-1000 else g) (by rfl) (hX)))) λnn=>?_
   refine A 8 ?_;refine RV (E:=λ(g:Nat×Nat×Nat×Nat×Nat×Nat×Nat)=>[(1,.optr 1001 g.1 0 0),(2,.optr 1002 g.2.1 0 0),(3,.optr 1003 g.2.2.1 0 0),(4,.sl (m.map (eL Le))),(5,.optr 1020 g.2.2.2.2.2.1 0 0),(7,Av i),(39,Pf a),(40,.agg [.osl 1014 g.2.2.2.1 0 e.length]),(41,Av i)]) (O:=λg=>[(1001,dV g.1 3 36 (Pf a)),(1002,dV g.2.1 1 40 (.agg [.nils])),(1003,dV g.2.2.1 1 40 (.agg [.osl 1014 g.2.2.2.1 0 e.length])),(1014,dW g.2.2.2.1 1 41 (e.map (eL Le))),(1018,some (g.2.2.2.2.1,⟨true,false,0,0,(Sf i q).map (Qj D.bool)⟩)),(1020,dV g.2.2.2.2.2.1 2 144 (.agg [.osl 1900 g.2.2.2.2.2.2 0 ((f.take ((i64.wrap ((f.length:Int)-1)).toNat)).length),.mref 1018 g.2.2.2.2.1])),(1900,dW g.2.2.2.2.2.2 1 3 ((f.take ((i64.wrap ((f.length:Int)-1)).toNat)).map Le))]) (_,_,_,_,_,_,_) ((PA (λg=>bif aAA 4096 g then g+20000 else g+1000) (by rfl) (hX)))<|?_
   rintro⟨bd,bf,bg,z,ap,bh,aq⟩ nn
   try dsimp only
   refine ZP (ES:=λ(s:(List Int)) (g:Nat×Nat×Nat×Nat×Nat×Nat×Nat)=>[(1,.optr 1 g.1 0 0),(2,.optr 2 g.2.1 0 0),(3,.optr 3 g.2.2.1 0 0),(4,.sl (m.map (eL Le))),(5,.optr 20 g.2.2.2.2.2.1 0 0),(7,Av i),(42,.sl (s.map Le))]) (OS:=λ_ g=>[(1,dV g.1 3 36 (Pf a)),(2,dV g.2.1 1 40 (.agg [.nils])),(3,dV g.2.2.1 1 40 (.agg [.osl 14 g.2.2.2.1 0 e.length])),(14,dW g.2.2.2.1 1 41 (e.map (eL Le))),(18,some (g.2.2.2.2.1,⟨true,false,0,0,(Sf i q).map (Qj D.bool)⟩)),(20,dV g.2.2.2.2.2.1 2 144 (.agg [.osl 900 g.2.2.2.2.2.2 0 ((f.take ((i64.wrap ((f.length:Int)-1)).toNat)).length),.mref 18 g.2.2.2.2.1])),(900,dW g.2.2.2.2.2.2 1 3 ((f.take ((i64.wrap ((f.length:Int)-1)).toNat)).map Le))]) (j:=λs=>Acj i e q f m s) (ds:=[Pf a,.agg [.osl 1014 z 0 e.length],Av i]) (caps:=[]) (E:=[(0,Pf a),(1,.agg [.osl 1014 z 0 e.length]),(2,Av i)]) r r r r r r r r ?_ ?_
   ·refine Va (c:=AtC)<|?_;refine A 17 ?_;refine bD λar cp=>?_
    refine A 6 ?_;refine lP (E:=λ(s:Int×(List Int)) (g:Nat×Nat×Nat)=>[(3,.optr 3 g.1 0 0),(4,.optr 4 g.2.1 0 0),(7,.sl (s.2.map Le)),(12,.osl 12 g.2.2 0 ar.length),(13,Av (ar.length:Int)),(14,Av s.1)]) (O:=λ_ g=>[(3,dV g.1 3 36 (Pf a)),(4,dV g.2.1 1 40 (.agg [.osl 1014 z 0 e.length])),(12,dW g.2.2 1 3 (ar.map Le)),(1001,dV bd 3 36 (Pf a)),(1002,dV bf 1 40 (.agg [.nils])),(1003,dV bg 1 40 (.agg [.osl 1014 z 0 e.length])),(1014,dW z 1 41 (e.map (eL Le))),(1018,some (ap,⟨true,false,0,0,(Sf i q).map (Qj D.bool)⟩)),(1020,dV bh 2 144 (.agg [.osl 1900 aq 0 ((f.take ((i64.wrap ((f.length:Int)-1)).toNat)).length),.mref 1018 ap])),(1900,dW aq 1 3 ((f.take ((i64.wrap ((f.length:Int)-1)).toNat)).map Le))]) (body:=λs=>Yk ar a e i q f m s.1 s.2) (s:=(0,([]:List Int))) (_,_,_) ((Adz [(7,some (_,⟨true,false,1,3,([]:List Int).map Le⟩))] ⟨⟨_,_,r,r,r⟩,trivial⟩ ⟨(PL r),(PL r),(AaN (YW (l:=([]:List Int)) (en:=Le) r r r (by simp))),(PL r),(PL r),(PL r),trivial⟩ ⟨(.inl r),(.inl r),(.inl r),(.inl r),(.inl r),(.inl r),(.inl r),(.inl r),(.inl r),(.inl r),trivial⟩))<|?_
    rintro⟨bo,bi⟩ ⟨cq,cr,cs⟩ nn
    try dsimp only
    unfold Yk;refine A 6 ?_;refine cD r ?_ ?_
    ·refine A 7 ?_;refine bD λct cu=>?_
     refine A 9 ?_;refine bD λcv cw=>?_
     refine A 6 ?_;refine bD λcx cy=>?_
     refine A 1 ?_;refine bD λcz da=>?_
     refine A 1 ?_;refine bD λbp db=>?_
     refine A 9 ?_;exact xL (s:=(i64.wrap (bo+1),bp)) (_,_,_) ((hX))
    ·refine A 12 ?_;exact RS (d:=.sl (bi.map Le)) (s:=bi) (_,_,_,_,_,_,_) r (by first|rfl|(simp[Pz,PC,rdA,raw,strip,PI,cells,PD];done)|(simp[Pz,PC,rdA,raw,strip,PI,S.ge,S.go,look,UR,cells,PD];done)) r ((Qt (E1:=[(1,.optr 1001 bd 0 0),(2,.optr 1002 bf 0 0),(3,.optr 1003 bg 0 0),(4,.sl (m.map (eL Le))),(5,.optr 1020 bh 0 0),(7,Av i),(42,.sl (bi.map Le))]) (O1:=[(1001,dV bd 3 36 (Pf a)),(1002,dV bf 1 40 (.agg [.nils])),(1003,dV bg 1 40 (.agg [.osl 1014 z 0 e.length])),(1014,dW z 1 41 (e.map (eL Le))),(1018,some (ap,⟨true,false,0,0,(Sf i q).map (Qj D.bool)⟩)),(1020,dV bh 2 144 (.agg [.osl 1900 aq 0 ((f.take ((i64.wrap ((f.length:Int)-1)).toNat)).length),.mref 1018 ap])),(1900,dW aq 1 3 ((f.take ((i64.wrap ((f.length:Int)-1)).toNat)).map Le))]) (hX) (λ_=>PA (λg=>bif aAA 24096 g then g-20000 else bif (aAA 1000 g&&aAC g 4096)then g-1000 else g) (by rfl) (hX))))
   ·rintro p ⟨dc,dd,de,df,dg,dh,di⟩ nn
    try dsimp only
    unfold Acj;refine A 11 ?_;refine bD λdj dk=>?_
    refine A 1 ?_;refine bD λdl dm=>?_
    refine A 3 ?_;refine cD r ?_ ?_
    ·refine A 3 ?_;exact xL (s:=(e,Sf i q,f.take ((i64.wrap ((f.length:Int)-1)).toNat))) (_,_,_,_,_,_,_) ((hX))
    ·refine A 9 ?_;refine bD λdn bq=>sE (l:=e) (en:=(eL Le)) (q':=p) r r r r r r r (by simp) bq r r r r r<|?_
     refine A 6 ?_;refine bD λt dp=>?_
     refine A 7 ?_;refine lP (E:=λ(s:(List (Int×Bool))×(List Int)×Int) (g:Nat×Nat×Nat×Nat×Nat×Nat×Nat)=>[(1,.optr 1 g.1 0 0),(2,.optr 2 g.2.1 0 0),(3,.optr 3 g.2.2.1 0 0),(4,.sl (m.map (eL Le))),(5,.optr 20 g.2.2.2.2.2.1 0 0),(58,.sl (t.map Le)),(59,Av (t.length:Int)),(60,Av s.2.2)]) (O:=λs g=>[(1,dV g.1 3 36 (Pf a)),(2,dV g.2.1 1 40 (.agg [.nils])),(3,dV g.2.2.1 1 40 (.agg [.osl 14 g.2.2.2.1 0 ((e.set i.toNat p).length)])),(14,dW g.2.2.2.1 1 41 ((e.set i.toNat p).map (eL Le))),(18,some (g.2.2.2.2.1,⟨true,false,0,0,s.1.map (Qj D.bool)⟩)),(20,dV g.2.2.2.2.2.1 2 144 (.agg [.osl 900 g.2.2.2.2.2.2 0 s.2.1.length,.mref 18 g.2.2.2.2.1])),(900,dW g.2.2.2.2.2.2 1 3 (s.2.1.map Le))]) (body:=λs=>Aci t e i p s.1 s.2.1 s.2.2) (s:=(Sf i q,f.take ((i64.wrap ((f.length:Int)-1)).toNat),0)) (_,_,_,_,_,_,_) ((hE ⟨rfl,r,r,r,r,r,r,r,trivial⟩ ⟨rfl,r,(Eq.trans (b:=dV _ 1 40 (.agg [.osl 14 _ 0 e.length])) r (by simp)),r,r,r,r,trivial⟩))<|?_
     rintro⟨x,v,aa⟩ ⟨dq,dr,dt,du,dv,dw,dx⟩ nn
     try dsimp only
     unfold Aci;refine A 6 ?_;refine cD r ?_ ?_
     ·refine A 6 ?_;refine bD λy dy=>?_
      refine A 8 ?_;refine RV (E:=λ(g:Nat×Nat×Nat×Nat×Nat×Nat×Nat)=>[(1,.optr 1001 g.1 0 0),(2,.optr 1002 g.2.1 0 0),(3,.optr 1003 g.2.2.1 0 0),(4,.sl (m.map (eL Le))),(5,.optr 1020 g.2.2.2.2.2.1 0 0),(58,.sl (t.map Le)),(59,Av (t.length:Int)),(60,Av aa),(64,.optr 1020 g.2.2.2.2.2.1 0 0),(65,Av y)]) (O:=λg=>[(1001,dV g.1 3 36 (Pf a)),(1002,dV g.2.1 1 40 (.agg [.nils])),(1003,dV g.2.2.1 1 40 (.agg [.osl 1014 g.2.2.2.1 0 ((e.set i.toNat p).length)])),(1014,dW g.2.2.2.1 1 41 ((e.set i.toNat p).map (eL Le))),(1018,some (g.2.2.2.2.1,⟨true,false,0,0,x.map (Qj D.bool)⟩)),(1020,dV g.2.2.2.2.2.1 2 144 (.agg [.osl 1900 g.2.2.2.2.2.2 0 v.length,.mref 1018 g.2.2.2.2.1])),(1900,dW g.2.2.2.2.2.2 1 3 (v.map Le))]) (_,_,_,_,_,_,_) ((PA (λg=>bif aAA 4096 g then g+20000 else g+1000) (by rfl) (hX)))<|?_
      rintro⟨au,av,aw,ax,ay,ad,bm⟩ nn
      try dsimp only
      refine ZP (ES:=λ(_s:(List (Int×Bool))×(List Int)) (g:Nat×Nat×Nat×Nat×Nat×Nat×Nat)=>[(1,.optr 1 g.1 0 0),(2,.optr 2 g.2.1 0 0),(3,.optr 3 g.2.2.1 0 0),(4,.sl (m.map (eL Le))),(5,.optr 20 g.2.2.2.2.2.1 0 0),(58,.sl (t.map Le)),(59,Av (t.length:Int)),(60,Av aa),(66,.tup [])]) (OS:=λs g=>[(1,dV g.1 3 36 (Pf a)),(2,dV g.2.1 1 40 (.agg [.nils])),(3,dV g.2.2.1 1 40 (.agg [.osl 14 g.2.2.2.1 0 ((e.set i.toNat p).length)])),(14,dW g.2.2.2.1 1 41 ((e.set i.toNat p).map (eL Le))),(18,some (g.2.2.2.2.1,⟨true,false,0,0,s.1.map (Qj D.bool)⟩)),(20,dV g.2.2.2.2.2.1 2 144 (.agg [.osl 642 g.2.2.2.2.2.2 0 s.2.length,.mref 18 g.2.2.2.2.1])),(642,dW g.2.2.2.2.2.2 1 3 (s.2.map Le))]) (j:=λs=>TS aa s.1 s.2) (ds:=[.optr 1020 ad 0 0,Av y]) (caps:=[]) (E:=[(0,.optr 1020 ad 0 0),(1,Av y)]) r r r r r r r r ?_ ?_
      ·refine Va (c:=AqO)<|?_;refine A 7 ?_;refine Aoz (en:=D.bool) (l:=x) r r r r false r<|?_;refine A 3 ?_;refine cD r ?_ ?_
       ·refine A 7 ?_;refine AoA (en:=D.bool) (l:=x) r r r true r r r r<|?_;refine A 15 ?_;exact RS (d:=.tup []) (s:=(RT y true x,v++([y]:List Int))) (_,_,_,_,_,_,_) r (by first|rfl|(simp[Pz,PC,rdA,raw,strip,PI,cells,PD];done)|(simp[Pz,PC,rdA,raw,strip,PI,S.ge,S.go,look,UR,cells,PD];done)) r ((Qt (E1:=[(1,.optr 1001 au 0 0),(2,.optr 1002 av 0 0),(3,.optr 1003 aw 0 0),(4,.sl (m.map (eL Le))),(5,.optr 1020 ad 0 0),(58,.sl (t.map Le)),(59,Av (t.length:Int)),(60,Av aa),(66,.tup [])]) (O1:=[(23,dW _ 1 3 ((v++([y]:List Int)).map Le)),(1001,dV au 3 36 (Pf a)),(1002,dV av 1 40 (.agg [.nils])),(1003,dV aw 1 40 (.agg [.osl 1014 ax 0 ((e.set i.toNat p).length)])),(1014,dW ax 1 41 ((e.set i.toNat p).map (eL Le))),(1018,some (ay,⟨true,false,0,0,(RT y true x).map (Qj D.bool)⟩)),(1020,dV ad 2 144 (.agg [.osl 23 _ 0 ((v++([y]:List Int)).length),.mref 1018 ay]))]) (hX) (λ_=>PA (λg=>bif aAA 24096 g then g-20000 else bif (aAA 1000 g&&aAC g 4096)then g-1000 else bif aAD g 23 then 642 else g) (by rfl) (hX))))
       ·refine A 1 ?_;exact RS (d:=.tup []) (s:=(x,v)) (_,_,_,_,_,_,_) r (by first|rfl|(simp[Pz,PC,rdA,raw,strip,PI,cells,PD];done)|(simp[Pz,PC,rdA,raw,strip,PI,S.ge,S.go,look,UR,cells,PD];done)) r ((Qt (E1:=[(1,.optr 1001 au 0 0),(2,.optr 1002 av 0 0),(3,.optr 1003 aw 0 0),(4,.sl (m.map (eL Le))),(5,.optr 1020 ad 0 0),(58,.sl (t.map Le)),(59,Av (t.length:Int)),(60,Av aa),(66,.tup [])]) (O1:=[(1001,dV au 3 36 (Pf a)),(1002,dV av 1 40 (.agg [.nils])),(1003,dV aw 1 40 (.agg [.osl 1014 ax 0 ((e.set i.toNat p).length)])),(1014,dW ax 1 41 ((e.set i.toNat p).map (eL Le))),(1018,some (ay,⟨true,false,0,0,x.map (Qj D.bool)⟩)),(1020,dV ad 2 144 (.agg [.osl 1900 bm 0 v.length,.mref 1018 ay])),(1900,dW bm 1 3 (v.map Le))]) (hX) (λ_=>PA (λg=>bif aAD g 1900 then 642 else bif aAA 24096 g then g-20000 else bif (aAA 1000 g&&aAC g 4096)then g-1000 else g) (by rfl) (hX))))
      ·rintro⟨bn,bj⟩ ⟨dz,ea,eb,ec,ed,ee,ef⟩ nn
       try dsimp only
       unfold TS;refine A 7 ?_;exact xL (s:=(bn,bj,i64.wrap (aa+1))) (_,_,_,_,_,_,_) ((Qt (E1:=[(1,.optr 1 _ 0 0),(2,.optr 2 _ 0 0),(3,.optr 3 _ 0 0),(4,.sl (m.map (eL Le))),(5,.optr 20 _ 0 0),(58,.sl (t.map Le)),(59,Av (t.length:Int)),(60,Av (i64.wrap (aa+1)))]) (O1:=[(1,dV _ 3 36 (Pf a)),(2,dV _ 1 40 (.agg [.nils])),(3,dV _ 1 40 (.agg [.osl 14 _ 0 ((e.set i.toNat p).length)])),(14,dW _ 1 41 ((e.set i.toNat p).map (eL Le))),(18,some (_,⟨true,false,0,0,bn.map (Qj D.bool)⟩)),(20,dV _ 2 144 (.agg [.osl 642 _ 0 bj.length,.mref 18 _])),(642,dW _ 1 3 (bj.map Le))]) (hX) (λ_=>PA (λg=>bif aAD g 642 then 900 else g) (by rfl) (hX))))
     ·refine A 5 ?_;exact xL (s:=(e.set i.toNat p,x,v)) (_,_,_,_,_,_,_) ((hX))
  ·refine A 12 ?_;refine Aeg (b:=(Pg.mk e)) r ?_ r r ?_ (by first|rfl|(simp only[Lo];rfl)|(simp only[OQ];rfl)|(simp only[Lo,OQ];rfl)|(simp[VU,Uu];try rfl))
   all_goals first|(simp;done)|(simp;omega)|rfl|(simp[Qr,Qm];done)

def Rj (a:PE):List D:=[Ti a]
def RH (ds:List D):PE:=Agj (ds.getD 0 .top)
instance:Py Rj RH:=⟨λa=>by simp[RH,Rj]⟩
def Vt (_b:PE):D:=.tup []
def Ala (b:PE):List D:=[Ti b]
def AeL:Dw.Spec:=OY [(0,(12,75))] .val Rj RH (λa=>Xr a) Vt Ala
theorem Akd:OW Tryz.prog 29 AeL:=by
 refine fn2 1 (OZ (l:=[(60,AdA)]) (by simp[Ahz])) Tryz.func29<|?_
 intro a;unfold Xr;refine A 6 ?_;refine bD λb c=>?_
 refine A 4 ?_;refine TD (i:=0) (es':=[.agg [.sl (a.p.Funcs.map Pf),Av a.i,Av a.f.Params,.sl (a.f.Slots.map Pm),.sl (a.f.Code.map Ph),.sl (b.Out.map (eL Le)),.sl (a.x.Rename.To.map Le),.sl (a.x.Rename.Keep.map D.bool),.sl (a.x.LiveAfter.Out.map (eL Le)),Av a.x.Layout.Args,Av a.x.Layout.Size,.sl (a.x.Layout.Off.map Le)]]) r r r r r r r (by first|trivial|(simp;done)|(simp;omega)) r r r r r r<|?_
 exact B

def Afu:Dw.Spec:=OY [] .ground SF SE (λa=>AaH a) Pe noE
theorem AiN:OW Tryz.prog 159 Afu:=by
 refine fn2 1 (OZ (l:=[(193,Wb)]) (by simp[Zd])) Tryz.func159<|?_
 intro a;unfold AaH;refine A 14 ?_;refine lP (E:=λ(s:Int) (_g:Unit)=>[(0,.sl (a.map Le)),(5,.sl (a.map Le)),(6,Av (a.length:Int)),(7,Av s)]) (O:=λ_ _=>[]) (body:=λs=>SH a s) (s:=0) () ((hX))<|?_
 rintro b ⟨⟩ nn
 try dsimp only
 unfold SH;refine A 6 ?_;refine cD r ?_ ?_
 ·refine A 7 ?_;refine bD λc d=>?_
  refine A 9 ?_;refine bD λe f=>?_
  refine A 3 ?_;refine Pj r ?_ ?_
  ·exact B
  ·refine A 3 ?_;refine Pj r ?_ ?_
   ·refine A 4 ?_;refine bD λg h=>?_
    refine A 7 ?_;refine cD r ?_ ?_
    ·exact B
    ·refine A 7 ?_;exact xL (s:=i64.wrap (b+1)) () ((hX))
   ·refine A 19 ?_;exact xL (s:=i64.wrap (b+1)) () ((hX))
 ·exact B

def Vs (a:(List Int)×Mk):List D:=[.sl (a.1.map Le),.fptr (Pf a.2) 0]
def Vr (ds:List D):(List Int)×Mk:=((uL uI) (ds.getD 0 .top),Td (fpD (ds.getD 1 .top)))
instance:Py Vs Vr:=⟨λa=>by simp[Vr,Vs,fpD,Qb (u:=uI) (en:=Le) (λ_=>rfl)]⟩
def AbU:Dw.Spec:=OY [] .ground Vs Vr (λa=>Tl a.1 a.2) Pe noE
theorem Air:OW Tryz.prog 205 AbU:=by
 refine fn2 2 (OZ (l:=[(159,Afu)]) (by simp[AiN])) Tryz.func205<|?_
 intro a;unfold Tl;exact B

def QZ (a:(List (List Int))×Mk):List D:=[.sl (a.1.map (eL Le)),.clo 205 [.fptr (Pf a.2) 0]]
def QY (ds:List D):(List (List Int))×Mk:=((uL (uL uI)) (ds.getD 0 .top),Td (fpD (AnU (ds.getD 1 .top) 0)))
instance:Py QZ QY:=⟨λa=>by simp[QY,QZ,fpD,AnU,Qb (u:=(uL uI)) (en:=(eL Le)) (Qb (u:=uI) (en:=Le) (λ_=>rfl))]⟩
def Pb (b:Int):D:=Av b
def Sy:Dw.Spec:=OY [] .ground QZ QY (λa=>Rv a.1 a.2) Pb noE
theorem Abl:OW Tryz.prog 231 Sy:=by
 refine fn2 2 (OZ (l:=[(205,AbU)]) (by simp[Air])) Tryz.func231<|?_
 rintro⟨a,b⟩;unfold Rv;refine A 14 ?_;refine lP (E:=λ(s:Int) (_g:Unit)=>[(0,.sl (a.map (eL Le))),(1,.clo 205 [.fptr (Pf b) 0]),(7,Av (a.length:Int)),(8,Av s)]) (O:=λ_ _=>[]) (body:=λs=>Sm a b s) (s:=0) () ((hX))<|?_
 rintro c ⟨⟩ nn
 try dsimp only
 unfold Sm;refine A 6 ?_;refine cD r ?_ ?_
 ·refine A 15 ?_;refine bD λd e=>?_
  refine A 2 ?_;refine bD λf g=>?_
  refine A 3 ?_;refine cD r ?_ ?_
  ·exact B
  ·refine A 7 ?_;exact xL (s:=i64.wrap (c+1)) () ((hX))
 ·exact B

def RR:Dw.Spec:=OY [] .ground QZ QY (λa=>Sl a.1 a.2) Pe noE
theorem ZJ:OW Tryz.prog 206 RR:=by
 refine fn2 2 (OZ (l:=[(844007,Sy)]) (by simp[Abl])) Tryz.func206<|?_
 rintro⟨a,b⟩;unfold Sl;refine A 9 ?_;refine bD λd c=>cG (a,b) rfl rfl (show _=some Sy from by kernel_rfl) Py.ok rfl rfl (by simp) r c r<|?_
 exact B

def PQ (a:Mk×Pg):List D:=[Pf a.1,Uu a.2]
def PO (ds:List D):Mk×Pg:=(Td (ds.getD 0 .top),Zs (ds.getD 1 .top))
instance:Py PQ PO:=⟨λa=>by simp[PO,PQ]⟩
def Abc:Dw.Spec:=OY [] .ground PQ PO (λa=>VT a.1 a.2) Pe noE
theorem Afm:OW Tryz.prog 186 Abc:=by
 refine fn2 2 (OZ (l:=[(843982,RR)]) (by simp[ZJ])) Tryz.func186<|?_
 rintro⟨a,b⟩;unfold VT;refine A 6 ?_;refine Qg (E:=[(2,.fptr (Pf a) 0),(3,.optr 3 _ 0 0)]) (O:=[(3,dV _ 1 40 (.agg [.sl (b.Out.map (eL Le))]))]) ((hV 2 r (hY))) λnn=>?_
 refine A 2 ?_;refine mF (caps:=[.fptr (Pf a) 0]) r r (by simp[VF])<|?_
 refine A 13 ?_;refine Pj r ?_ ?_
 ·refine A 3 ?_;refine bD λd c=>cG (b.Out,a) rfl rfl (show _=some RR from by kernel_rfl) Py.ok rfl rfl (by simp) r c r<|?_
  exact B
 ·exact B

def Abe (a:Pg):List D:=[Uu a]
def Abd (ds:List D):Pg:=Zs (ds.getD 0 .top)
instance:Py Abe Abd:=⟨λa=>by simp[Abd,Abe]⟩
def Aok (b:Pg):D:=.clo 232 [.fptr (Uu b) 0]
def Ais:Dw.Spec:=OY [] .val Abe Abd (λa=>AbA a) Aok noE
theorem AnB:OW Tryz.prog 208 Ais:=by
 refine fn2 1 (Pp) Tryz.func208<|?_;intro a;unfold AbA;refine A 5 ?_;refine Qg (E:=[(1,.fptr (.agg [.sl (a.Out.map (eL Le))]) 0)]) (O:=[]) ((hV 1 r (hY))) λnn=>?_
 refine A 2 ?_;refine mF (caps:=[.fptr (.agg [.sl (a.Out.map (eL Le))]) 0]) r r (by simp[VF])<|?_
 exact B

def WC (a:Int×Pg):List D:=[Av a.1,.fptr (Uu a.2) 0]
def WB (ds:List D):Int×Pg:=(uI (ds.getD 0 .top),Zs (fpD (ds.getD 1 .top)))
instance:Py WC WB:=⟨λa=>by simp[WB,WC,uI,fpD]⟩
def Aed:Dw.Spec:=OY [] .val WC WB (λa=>Wl a.1 a.2) PK noE
theorem AjC:OW Tryz.prog 232 Aed:=by
 refine fn2 2 (Pp) Tryz.func232<|?_;intro a;unfold Wl;exact B

def AhV:Dw.Spec:=OY [] .ground WV WU (λa=>Yp a.1 a.2) AhW noE
theorem Ani:OW Tryz.prog 233 AhV:=by
 refine fn2 2 (Pp) Tryz.func233<|?_;intro a;unfold Yp;exact B

def Tw (a:OT×OT):List D:=[Ps a.1,Ps a.2,.clo 233 []]
def Tv (ds:List D):OT×OT:=(RD (ds.getD 0 .top),RD (ds.getD 1 .top))
instance:Py Tw Tv:=⟨λa=>by simp[Tv,Tw]⟩
def Afi (b:OT×OT×OT):List D:=[Ps b.2.1,Ps b.2.2]
def TX:Dw.Spec:=OY [(0,(8,201)),(1,(8,201))] (.ptr 8 201) Tw Tv (λa=>SI a.1 a.2) XX Afi
theorem Aem:OW Tryz.prog 182 TX:=by
 refine fn2 3 (OZ (l:=[(233,AhV)]) (by simp[Ani])) Tryz.func182<|?_
 rintro⟨d,e⟩;unfold SI;refine A 19 ?_;refine lP (E:=λ(s:OT×Int) (g:Nat)=>[(0,.optr 8192 0 0 0),(1,.optr 8193 1 0 0),(2,.clo 233 []),(7,.optr 10 g 0 0),(11,Av s.2)]) (O:=λs g=>[(10,dV g 8 201 (Ps s.1)),(8192,dV 0 8 201 (Ps d)),(8193,dV 1 8 201 (Ps e))]) (body:=λs=>Rc d e s.1 s.2) (s:=((OT.mk 0 0 0 0 0 0 0 0),0)) _ ((hX))<|?_
 rintro⟨b,a⟩ p nn
 try dsimp only
 unfold Rc;refine A 6 ?_;refine cD r ?_ ?_
 ·refine A 17 ?_;refine cK λhq=>TT r r r hq<|bD λf h=>XD (q:=f) (l:=d.toList) (en:=Acd) (j:=a.toNat) (by simp) r r r h r (λ_=>r)<|?_
  refine A 3 ?_;refine cK λhq=>TT r r r hq<|bD λi k=>XD (q:=i) (l:=e.toList) (en:=Acd) (j:=a.toNat) (by simp) r r r k r (λ_=>r)<|bD λc t=>?_
  refine A 2 ?_;refine cK λhq=>TT r r r hq<|bD λm o=>Apm (q:=m) (q':=c) (l:=b.toList) (en:=Acd) (j:=a.toNat) (z':=Ps (b.set a.toNat c)) (by simp) r r r r r o r r (congrArg (λl=>D.agg (l.map Acd)) (Ss b a.toNat c).symm)<|?_
  refine A 7 ?_;exact xL (s:=((b.set a.toNat c),i64.wrap (a+1))) _ ((hX))
 ·exact B

def AjJ:Dw.Spec:=OY [] .val RY RX (λa=>Yo a.1 a.2) PK noE
theorem AoE:OW Tryz.prog 210 AjJ:=by
 refine fn2 2 (OZ (l:=[(181,US),(958646,TX),(184,Th)]) (by simp[VH,Aem,Us])) Tryz.func210<|?_
 rintro⟨d,e⟩;unfold Yo;refine A 8 ?_;refine bD λa f=>?_
 refine A 2 ?_;refine bD λb g=>?_
 refine A 1 ?_;refine bD λh c=>cP (a,b) rfl rfl (show _=some TX from by kernel_rfl) Py.ok rfl rfl (by simp) r c<|?_
 exact B

def Ua (a:(List Int)×(List Int)×Pg×Int):List D:=[.sl (a.1.map Le),.sl (a.2.1.map Le),.fptr (Uu a.2.2.1) 0,.fptr (Av a.2.2.2) 0]
def TZ (ds:List D):(List Int)×(List Int)×Pg×Int:=((uL uI) (ds.getD 0 .top),(uL uI) (ds.getD 1 .top),Zs (fpD (ds.getD 2 .top)),uI (fpD (ds.getD 3 .top)))
instance:Py Ua TZ:=⟨λa=>by simp[TZ,Ua,uI,fpD,Qb (u:=uI) (en:=Le) (λ_=>rfl)]⟩
def YY (b:Bool×(List Int)):D:=.bool b.1
def AgK (b:Bool×(List Int)):List D:=[.sl (b.2.map Le)]
def YZ:Dw.Spec:=OY [(1,(1,41))] .val Ua TZ (λa=>Tu a.1 a.2.1 a.2.2.1 a.2.2.2) YY AgK
theorem AfD:OW Tryz.prog 209 YZ:=by
 refine fn2 4 (OZ (l:=[(210,AjJ),(139,Yr)]) (by simp[AoE,Aek])) Tryz.func209<|?_
 rintro⟨b,c,d,e⟩;unfold Tu;refine A 12 ?_;refine bD λf g=>?_
 refine A 2 ?_;refine bD λh j=>?_
 refine A 1 ?_;refine bD λa k=>?_
 refine A 1 ?_;refine TD (i:=0) (es':=[.sl (a.map Le)]) r r r r r r r (by first|trivial|(simp;done)|(simp;omega)) r r r r r r<|?_
 exact B

def QX (a:Mk×Int×Pg×(List Int)×Pg×Int):List D:=[Pf a.1,Av a.2.1,.clo 232 [.fptr (Uu a.2.2.1) 0],.clo 209 [.sl (a.2.2.2.1.map Le),.fptr (Uu a.2.2.2.2.1) 0,.fptr (Av a.2.2.2.2.2) 0]]
def RU (ds:List D):Mk×Int×Pg×(List Int)×Pg×Int:=(Td (ds.getD 0 .top),uI (ds.getD 1 .top),Zs (fpD (AnU (ds.getD 2 .top) 0)),(uL uI) (AnU (ds.getD 3 .top) 0),Zs (fpD (AnU (ds.getD 3 .top) 1)),uI (fpD (AnU (ds.getD 3 .top) 2)))
instance:Py QX RU:=⟨λa=>by simp[RU,QX,uI,fpD,AnU,Qb (u:=uI) (en:=Le) (λ_=>rfl)]⟩
def Abz (b:Bool×(List Int)):List D:=[.sl (b.2.map Le)]
def Sv:Dw.Spec:=OY [(256,(1,41))] .val QX RU (λa=>QK a.1 a.2.1 a.2.2.1 a.2.2.2.1 a.2.2.2.2.1 a.2.2.2.2.2) YY Abz
theorem Abb:OW Tryz.prog 207 Sv:=by
 refine fn2 4 (OZ (l:=[(138,Acy),(232,Aed),(140,Agm),(209,YZ)]) (by simp[Aim,AjC,Amn,AfD])) Tryz.func207<|?_
 rintro⟨b,j,c,f,d,e⟩;unfold QK;refine A 11 ?_;refine bD λa k=>?_
 refine A 6 ?_;refine lP (E:=λ(s:(List Int)×Int) (g:Nat×Nat)=>[(2,.clo 232 [.fptr (.agg [.sl (c.Out.map (eL Le))]) 0]),(3,.clo 209 [.optr 8448 256 0 0,.fptr (.agg [.sl (d.Out.map (eL Le))]) 0,.fptr (Av e) 0]),(4,.optr 4 g.1 0 0),(13,.osl 13 g.2 0 a.length),(14,Av (a.length:Int)),(15,Av s.2)]) (O:=λs g=>[(4,dV g.1 3 36 (Pf b)),(13,dW g.2 1 3 (a.map Le)),(8448,dV 256 1 41 (.sl (s.1.map Le)))]) (body:=λs=>Qh a b c d e s.1 s.2) (s:=(f,0)) (_,_) ((hX))<|?_
 rintro⟨m,h⟩ ⟨o,p⟩ nn
 try dsimp only
 unfold Qh;refine A 6 ?_;refine cD r ?_ ?_
 ·refine A 7 ?_;refine bD λq t=>?_
  refine A 10 ?_;refine bD λu v=>?_
  refine A 4 ?_;refine bD λw x=>?_
  refine A 1 ?_;refine bD λy z=>?_
  refine A 1 ?_;refine bD λi aa=>?_
  refine A 4 ?_;refine cD r ?_ ?_
  ·exact B
  ·refine A 7 ?_;exact xL (s:=(i.2,i64.wrap (h+1))) (_,_) ((hX))
 ·exact B

def Ahx (b:Int×Int×Bool):D:=.tup [Av b.1,Av b.2.1,.bool b.2.2]
def Ahy:Dw.Spec:=OY [] .ground PQ PO (λa=>Aaw a.1 a.2) Ahx noE
theorem Amx:OW Tryz.prog 187 Ahy:=by
 refine fn2 2 (OZ (l:=[(186,Abc),(208,Ais),(3524169935,Sv)]) (by simp[Afm,AnB,Abb])) Tryz.func187<|?_
 rintro⟨a,b⟩;unfold Aaw;refine A 8 ?_;refine Qg (E:=[(2,.optr 2 _ 0 0),(3,.fptr (.agg [.sl (b.Out.map (eL Le))]) 0)]) (O:=[(2,dV _ 3 36 (Pf a))]) ((hV 3 r (hY))) λnn=>?_
 refine A 5 ?_;refine bD λf h=>?_
 refine A 4 ?_;refine cD r ?_ ?_
 ·exact B
 ·refine A 12 ?_;refine lP (E:=λ(s:Int) (g:Nat)=>[(2,.optr 2 g 0 0),(3,.fptr (.agg [.sl (b.Out.map (eL Le))]) 0),(15,Av (a.Code.length:Int)),(16,Av s)]) (O:=λ_ g=>[(2,dV g 3 36 (Pf a))]) (body:=λs=>Aba a b s) (s:=0) _ ((hX))<|?_
  rintro c i nn
  try dsimp only
  unfold Aba;refine A 6 ?_;refine cD r ?_ ?_
  ·refine A 10 ?_;refine Qg (E:=[(2,.optr 2 _ 0 0),(3,.fptr (.agg [.sl (b.Out.map (eL Le))]) 0),(7,.fptr (Av c) 0),(15,Av (a.Code.length:Int)),(16,Av c)]) (O:=[(2,dV _ 3 36 (Pf a))]) ((hV 7 r (hY))) λnn=>?_
   refine A 10 ?_;refine bD λd j=>?_
   refine A 1 ?_;refine mF (caps:=[.optr 8 _ 0 0,.fptr (.agg [.sl (b.Out.map (eL Le))]) 0,.fptr (Av c) 0]) r r (by simp[VF])<|bD λk e=>cV (a,c,d,[],b,c) rfl rfl (show _=some Sv from by kernel_rfl) Py.ok rfl rfl (by simp) (by first|rfl|(simp only[Lo];rfl)|(simp only[OQ];rfl)|(simp only[Lo,OQ];rfl)|simp[QX,Pf,Uu,Uu]) e<|?_
   refine A 9 ?_;refine cD r ?_ ?_
   ·exact B
   ·refine A 7 ?_;exact xL (s:=i64.wrap (c+1)) _ ((hX))
  ·exact B

def Acg:Dw.Spec:=OY [] .ground PQ PO (λa=>Xm a.1 a.2) Pb noE
theorem AgJ:OW Tryz.prog 141 Acg:=by
 refine fn2 2 (OZ (l:=[(186,Abc),(187,Ahy)]) (by simp[Afm,Amx])) Tryz.func141<|?_
 intro a;unfold Xm;exact B

def UZ (a:OP×Int):List D:=[Ph a.1,Av a.2]
def UY (ds:List D):OP×Int:=(Afh (ds.getD 0 .top),uI (ds.getD 1 .top))
instance:Py UZ UY:=⟨λa=>by simp[UY,UZ,uI]⟩
def Afl:Dw.Spec:=OY [] .ground UZ UY (λa=>Vg a.1 a.2) Pe noE
theorem AkR:OW Tryz.prog 105 Afl:=by
 refine fn2 2 (Pp) Tryz.func105<|?_;intro a;unfold Vg;exact B

def Vq (a:(List (List Bool))):List D:=[.sl (a.map (eL D.bool))]
def Vp (ds:List D):(List (List Bool)):=(uL (uL uBo)) (ds.getD 0 .top)
instance:Py Vq Vp:=⟨λa=>by simp[Vp,Vq,Qb (u:=(uL uBo)) (en:=(eL D.bool)) (Qb (u:=uBo) (en:=D.bool) (λ_=>rfl))]⟩
def WA:Dw.Spec:=OY [] .val Vq Vp (λa=>Tj a) Alm noE
theorem AaX:OW Tryz.prog 144 WA:=by
 refine fn2 1 (Pp) Tryz.func144<|?_;intro a;unfold Tj;refine A 9 ?_;refine cK λhq=>Vz (α:=Int) r r r hq r<|?_
 refine A 2 ?_;refine Qg (E:=[(0,.sl (a.map (eL D.bool))),(3,.osl 4099 _ 0 ((aA (a.length:Int).toNat ([]:(List Int))).length))]) (O:=[(4099,dW _ 1 41 ((aA (a.length:Int).toNat ([]:(List Int))).map (eR 1 3 Le)))]) ((AhD (g:=3) (g2:=4099) r r r (AkP (l:=aA (a.length:Int).toNat ([]:(List Int))) (s':=1) (ty':=3) Le (by decide) (λ_ h=>aAB h)) (hX))) λnn=>?_
 refine A 9 ?_;refine lP (E:=λ(s:(List (List Int))×Int) (g:Nat)=>[(3,.osl 4099 g 0 s.1.length),(11,.sl (a.map (eL D.bool))),(12,Av (a.length:Int)),(13,Av s.2)]) (O:=λs g=>[(4099,dW g 1 41 (s.1.map (eR 1 3 Le)))]) (body:=λs=>VQ a s.1 s.2) (s:=(aA (a.length:Int).toNat ([]:(List Int)),0)) _ ((hX))<|?_
 rintro⟨b,c⟩ k nn
 try dsimp only
 unfold VQ;refine A 6 ?_;refine cD r ?_ ?_
 ·refine A 7 ?_;refine bD λe m=>?_
  refine A 14 ?_;refine lP (E:=λ(s:(List (List Int))×Int) (g:Nat)=>[(3,.osl 4099 g 0 s.1.length),(4,Av c),(11,.sl (a.map (eL D.bool))),(12,Av (a.length:Int)),(13,Av c),(18,.sl (e.map D.bool)),(19,Av (e.length:Int)),(20,Av s.2)]) (O:=λs g=>[(4099,dW g 1 41 (s.1.map (eR 1 3 Le)))]) (body:=λs=>VR e c s.1 s.2) (s:=(b,0)) _ ((hX))<|?_
  rintro⟨f,i⟩ o nn
  try dsimp only
  unfold VR;refine A 6 ?_;refine cD r ?_ ?_
  ·refine A 7 ?_;refine bD λp t=>?_
   refine A 11 ?_;refine cD r ?_ ?_
   ·refine A 6 ?_;refine bD λd j=>Aqn (q:=d) Le r r r j<|?_
    refine A 2 ?_;refine cK λhq=>Aqm (d) (([i]:List Int)) Le r r r r r r r (by simp) (SP _ _ r) r r (by simp) (QO _ _ r) (λ_=>r) r hq (λ_=>r)<|cK λhq=>ZQ (by simp) r r r r (by simpa using hq)<|Agu (l:=f) (q:=d) (q':=d++([i]:List Int)) Le rfl rfl rfl rfl (.inr ⟨_,_,_,rfl⟩) j rfl rfl ⟨⟨rfl,rfl,by simp,Abf λ_=>rfl⟩,trivial,rfl⟩ (congrArg (λz=>[D.row _ _ z]) (QO _ _ rfl)) rfl<|?_
    exact B
   ·refine A 7 ?_;exact xL (s:=(f,i64.wrap (i+1))) _ ((hX))
  ·refine A 10 ?_;exact xL (s:=(f,i64.wrap (c+1))) _ ((hX))
 ·refine A 4 ?_;refine Qg (E:=[(3,.osl 4099 _ 0 b.length)]) (O:=[(4099,dW _ 1 41 (b.map (eL Le)))]) ((Aeb (g:=4099) r (AkQ (l:=b) Le (λ_=>r)) (hX))) λnn=>?_
  exact B

def AoM:Qi:=(Tryz.f142.body.bind (PY Tryz.prog Tryz.f142.ntmps)).getD .skip
theorem AsX:(Tryz.f142.body.bind (PY Tryz.prog Tryz.f142.ntmps))=some AoM:=by kernel_rfl
theorem AsY:Tryz.f142.results.toList.mapM (Ug Tryz.prog)=some [(.t 2)]:=by kernel_rfl

end
end Go.Proofs.YtilmapojncgflaaGreatDoor
