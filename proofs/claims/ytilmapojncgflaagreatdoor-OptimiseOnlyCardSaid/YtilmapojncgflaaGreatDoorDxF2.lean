/-
  Programs on typed data, and the proofs that the code does what they say; written by a program (dx.py).
-/
import Derived.Test.YtilmapojncgflaaGreatDoorProg
import Derived.Test.YtilmapojncgflaaGreatDoorDd
import Derived.KernelRfl
import Derived.Test.YtilmapojncgflaaGreatDoorDxP
import Derived.Test.YtilmapojncgflaaGreatDoorDxF1
open List renaming replicate->aA,eq_of_mem_replicate->aAB
open Nat renaming ble->aAA,blt->aAC,beq->aAD
namespace Go.Proofs.YtilmapojncgflaaGreatDoor
open Go Go.Dw Go.Proofs
open Go.IntKind (i64)
set_option maxRecDepth 100000
set_option maxHeartbeats 40000000
open Go.Dw renaming Rm -> bD,Qa -> cK,ZW -> cV,Ze -> cG,TI -> sE,Yw -> iO,Ack -> cD,ZX -> xL,ZA -> hE,Adf -> cP,Aeb -> lP,Aib -> mF,rf -> r
noncomputable section
def Agg (b:Pj):D:=WY b
def AbC:Dw.Spec:=Pe [] .val Wd Wc (λa=>US a) Agg noE
def Adm:Dw.Spec:=Vm (specs []) 2 [] Aod
theorem AiF:Pb Tryz.prog 100 Adm:=RR (PD) Tryz.func100 (by decide) AtX AtY (by decide)
def Adn:Dw.Spec:=Vm (specs []) 1 [(.t 2)] AqS
theorem AiG:Pb Tryz.prog 101 Adn:=RR (PD) Tryz.func101 (by decide) AtZ Aua (by decide)
def Ado:Dw.Spec:=Vm (specs [(138,AaN),(140,Aef),(139,Xh)]) 3 [(.t 6)] AqT
theorem AiH:Pb Tryz.prog 102 Ado:=RR (Pf (l:=[(138,AaN),(140,Aef),(139,Xh)]) (by simp[Agb,AjP,Aco])) Tryz.func102 (by decide) Aub Auc (by decide)
theorem Afo:Pb Tryz.prog 60 AbC:=by
 refine fn2 1 (Pf (l:=[(99,Ajc),(100,Adm),(101,Adn),(102,Ado),(103,AaQ)]) (by simp[AmP,AiF,AiG,AiH,Agu])) Tryz.func60<|?_
 intro a;unfold US;refine A 11 ?_;refine cK λhq=>AaR (α:=Int) r r r hq r<|?_
 refine A 4 ?_;refine Qn (E:=[(1,.optr 1 _ 0 0),(2,.optr 2 _ 0 0),(3,.optr 3 _ 0 0)]) (O:=[(1,dV _ 3 36 (Pk a)),(2,dV _ 1 40 (.agg [.nils])),(3,dV _ 1 40 (.agg [.osl 14 _ 0 ((aA (a.Code.length:Int).toNat ([]:(List Int))).length)])),(14,dW _ 1 41 ((aA (a.Code.length:Int).toNat ([]:(List Int))).map (eL Mk)))]) ((ArX (g:=14) r (Atr (l:=aA (a.Code.length:Int).toNat ([]:(List Int))) Mk (λ_ h=>aAB h)) (hX))) λnn=>?_
 refine A 3 ?_;refine bD λm br=>?_
 refine A 6 ?_;refine AqC λnn=>?_
 refine A 15 ?_;refine lP (E:=λ(s:(List (Int×Bool))×(List Int)×Int) (g:Nat×Nat×Nat×Nat×Nat×Nat×Nat)=>[(1,.optr 1 g.1 0 0),(2,.optr 2 g.2.1 0 0),(3,.optr 3 g.2.2.1 0 0),(4,.sl (m.map (eL Mk))),(5,.optr 20 g.2.2.2.2.2.1 0 0),(23,Av (a.Code.length:Int)),(24,Av s.2.2)]) (O:=λs g=>[(1,dV g.1 3 36 (Pk a)),(2,dV g.2.1 1 40 (.agg [.nils])),(3,dV g.2.2.1 1 40 (.agg [.osl 14 g.2.2.2.1 0 ((aA (a.Code.length:Int).toNat ([]:(List Int))).length)])),(14,dW g.2.2.2.1 1 41 ((aA (a.Code.length:Int).toNat ([]:(List Int))).map (eL Mk))),(18,some (g.2.2.2.2.1,⟨true,false,0,0,s.1.map (Qb D.bool)⟩)),(20,dV g.2.2.2.2.2.1 2 144 (.agg [.osl 900 g.2.2.2.2.2.2 0 s.2.1.length,.mref 18 g.2.2.2.2.1])),(900,dW g.2.2.2.2.2.2 1 3 (s.2.1.map Mk))]) (body:=λs=>Xa a m s.1 s.2.1 s.2.2) (s:=(([]:List (Int×Bool)),([]:List Int),0)) (_,_,_,_,_,_,_) ((AlK (gg:=20) (off:=0) (tt:=900) (s:=1) (tyy:=3) r r r r (hX)))<|?_
 rintro⟨w,u,o⟩ ⟨bs,bt,bu,bv,bw,bx,bz⟩ nn
 try dsimp only
 unfold Xa;refine A 6 ?_;refine cD r ?_ ?_
 ·refine A 13 ?_;refine RN (E:=λ(g:Nat×Nat×Nat×Nat×Nat×Nat×Nat)=>[(1,.optr 1001 g.1 0 0),(2,.optr 1002 g.2.1 0 0),(3,.optr 1003 g.2.2.1 0 0),(4,.sl (m.map (eL Mk))),(5,.optr 1020 g.2.2.2.2.2.1 0 0),(23,Av (a.Code.length:Int)),(24,Av o),(27,.optr 1020 g.2.2.2.2.2.1 0 0),(28,Av o)]) (O:=λg=>[(1001,dV g.1 3 36 (Pk a)),(1002,dV g.2.1 1 40 (.agg [.nils])),(1003,dV g.2.2.1 1 40 (.agg [.osl 1014 g.2.2.2.1 0 ((aA (a.Code.length:Int).toNat ([]:(List Int))).length)])),(1014,dW g.2.2.2.1 1 41 ((aA (a.Code.length:Int).toNat ([]:(List Int))).map (eL Mk))),(1018,some (g.2.2.2.2.1,⟨true,false,0,0,w.map (Qb D.bool)⟩)),(1020,dV g.2.2.2.2.2.1 2 144 (.agg [.osl 1900 g.2.2.2.2.2.2 0 u.length,.mref 1018 g.2.2.2.2.1])),(1900,dW g.2.2.2.2.2.2 1 3 (u.map Mk))]) (_,_,_,_,_,_,_) ((Pz (λg=>bif aAA 4096 g then g+20000 else g+1000) (by rfl) (hX)))<|?_
  rintro⟨ae,af,ag,ah,ai,ab,bk⟩ nn
  try dsimp only
  refine Yu (ES:=λ(_s:(List (Int×Bool))×(List Int)) (g:Nat×Nat×Nat×Nat×Nat×Nat×Nat)=>[(1,.optr 1 g.1 0 0),(2,.optr 2 g.2.1 0 0),(3,.optr 3 g.2.2.1 0 0),(4,.sl (m.map (eL Mk))),(5,.optr 20 g.2.2.2.2.2.1 0 0),(23,Av (a.Code.length:Int)),(24,Av o),(29,.tup [])]) (OS:=λs g=>[(1,dV g.1 3 36 (Pk a)),(2,dV g.2.1 1 40 (.agg [.nils])),(3,dV g.2.2.1 1 40 (.agg [.osl 14 g.2.2.2.1 0 ((aA (a.Code.length:Int).toNat ([]:(List Int))).length)])),(14,dW g.2.2.2.1 1 41 ((aA (a.Code.length:Int).toNat ([]:(List Int))).map (eL Mk))),(18,some (g.2.2.2.2.1,⟨true,false,0,0,s.1.map (Qb D.bool)⟩)),(20,dV g.2.2.2.2.2.1 2 144 (.agg [.osl 601 g.2.2.2.2.2.2 0 s.2.length,.mref 18 g.2.2.2.2.1])),(601,dW g.2.2.2.2.2.2 1 3 (s.2.map Mk))]) (j:=λs=>Uv o s.1 s.2) (ds:=[.optr 1020 ab 0 0,Av o]) (caps:=[]) (E:=[(0,.optr 1020 ab 0 0),(1,Av o)]) r r r r r r r r ?_ ?_
  ·refine Um (c:=Aod)<|?_;refine A 7 ?_;refine AlZ (en:=D.bool) (l:=w) r r r r false r<|?_;refine A 3 ?_;refine cD r ?_ ?_
   ·refine A 7 ?_;refine Ama (en:=D.bool) (l:=w) r r r true r r r r<|?_;refine A 15 ?_;exact RK (d:=.tup []) (s:=(RL o true w,u++([o]:List Int))) (_,_,_,_,_,_,_) r (by first|rfl|(simp[Px,PA,rdA,raw,strip,PG,cells,PC];done)|(simp[Px,PA,rdA,raw,strip,PG,S.ge,S.go,look,Ub,cells,PC];done)) r ((Ql (E1:=[(1,.optr 1001 ae 0 0),(2,.optr 1002 af 0 0),(3,.optr 1003 ag 0 0),(4,.sl (m.map (eL Mk))),(5,.optr 1020 ab 0 0),(23,Av (a.Code.length:Int)),(24,Av o),(29,.tup [])]) (O1:=[(23,dW _ 1 3 ((u++([o]:List Int)).map Mk)),(1001,dV ae 3 36 (Pk a)),(1002,dV af 1 40 (.agg [.nils])),(1003,dV ag 1 40 (.agg [.osl 1014 ah 0 ((aA (a.Code.length:Int).toNat ([]:(List Int))).length)])),(1014,dW ah 1 41 ((aA (a.Code.length:Int).toNat ([]:(List Int))).map (eL Mk))),(1018,some (ai,⟨true,false,0,0,(RL o true w).map (Qb D.bool)⟩)),(1020,dV ab 2 144 (.agg [.osl 23 _ 0 ((u++([o]:List Int)).length),.mref 1018 ai]))]) (hX) (λ_=>Pz (λg=>bif aAA 24096 g then g-20000 else bif (aAA 1000 g&&aAC g 4096)then g-1000 else bif aAD g 23 then 601 else g) (by rfl) (hX))))
   ·refine A 1 ?_;exact RK (d:=.tup []) (s:=(w,u)) (_,_,_,_,_,_,_) r (by first|rfl|(simp[Px,PA,rdA,raw,strip,PG,cells,PC];done)|(simp[Px,PA,rdA,raw,strip,PG,S.ge,S.go,look,Ub,cells,PC];done)) r ((Ql (E1:=[(1,.optr 1001 ae 0 0),(2,.optr 1002 af 0 0),(3,.optr 1003 ag 0 0),(4,.sl (m.map (eL Mk))),(5,.optr 1020 ab 0 0),(23,Av (a.Code.length:Int)),(24,Av o),(29,.tup [])]) (O1:=[(1001,dV ae 3 36 (Pk a)),(1002,dV af 1 40 (.agg [.nils])),(1003,dV ag 1 40 (.agg [.osl 1014 ah 0 ((aA (a.Code.length:Int).toNat ([]:(List Int))).length)])),(1014,dW ah 1 41 ((aA (a.Code.length:Int).toNat ([]:(List Int))).map (eL Mk))),(1018,some (ai,⟨true,false,0,0,w.map (Qb D.bool)⟩)),(1020,dV ab 2 144 (.agg [.osl 1900 bk 0 u.length,.mref 1018 ai])),(1900,dW bk 1 3 (u.map Mk))]) (hX) (λ_=>Pz (λg=>bif aAD g 1900 then 601 else bif aAA 24096 g then g-20000 else bif (aAA 1000 g&&aAC g 4096)then g-1000 else g) (by rfl) (hX))))
  ·rintro⟨x6,x7⟩ ⟨ca,cb,cc,cd,ce,cf,cg⟩ nn
   try dsimp only
   unfold Uv;refine A 7 ?_;exact xL (s:=(x6,x7,i64.wrap (o+1))) (_,_,_,_,_,_,_) ((Ql (E1:=[(1,.optr 1 _ 0 0),(2,.optr 2 _ 0 0),(3,.optr 3 _ 0 0),(4,.sl (m.map (eL Mk))),(5,.optr 20 _ 0 0),(23,Av (a.Code.length:Int)),(24,Av (i64.wrap (o+1)))]) (O1:=[(1,dV _ 3 36 (Pk a)),(2,dV _ 1 40 (.agg [.nils])),(3,dV _ 1 40 (.agg [.osl 14 _ 0 ((aA (a.Code.length:Int).toNat ([]:(List Int))).length)])),(14,dW _ 1 41 ((aA (a.Code.length:Int).toNat ([]:(List Int))).map (eL Mk))),(18,some (_,⟨true,false,0,0,x6.map (Qb D.bool)⟩)),(20,dV _ 2 144 (.agg [.osl 601 _ 0 x7.length,.mref 18 _])),(601,dW _ 1 3 (x7.map Mk))]) (hX) (λ_=>Pz (λg=>bif aAD g 601 then 900 else g) (by rfl) (hX))))
 ·refine A 7 ?_;refine lP (E:=λ(_s:(List (List Int))×(List (Int×Bool))×(List Int)) (g:Nat×Nat×Nat×Nat×Nat×Nat×Nat)=>[(1,.optr 1 g.1 0 0),(2,.optr 2 g.2.1 0 0),(3,.optr 3 g.2.2.1 0 0),(4,.sl (m.map (eL Mk))),(5,.optr 20 g.2.2.2.2.2.1 0 0)]) (O:=λs g=>[(1,dV g.1 3 36 (Pk a)),(2,dV g.2.1 1 40 (.agg [.nils])),(3,dV g.2.2.1 1 40 (.agg [.osl 14 g.2.2.2.1 0 s.1.length])),(14,dW g.2.2.2.1 1 41 (s.1.map (eL Mk))),(18,some (g.2.2.2.2.1,⟨true,false,0,0,s.2.1.map (Qb D.bool)⟩)),(20,dV g.2.2.2.2.2.1 2 144 (.agg [.osl 900 g.2.2.2.2.2.2 0 s.2.2.length,.mref 18 g.2.2.2.2.1])),(900,dW g.2.2.2.2.2.2 1 3 (s.2.2.map Mk))]) (body:=λs=>AaF a m s.1 s.2.1 s.2.2) (s:=(aA (a.Code.length:Int).toNat ([]:(List Int)),w,u)) (_,_,_,_,_,_,_) ((hX))<|?_
  rintro⟨e,q,f⟩ ⟨ch,ci,cj,ck,cl,cm,cn⟩ nn
  try dsimp only
  unfold AaF;refine A 11 ?_;refine cD r ?_ ?_
  ·refine A 6 ?_;refine RN (E:=λ(g:Nat×Nat×Nat×Nat×Nat×Nat×Nat)=>[(1,.optr 1001 g.1 0 0),(2,.optr 1002 g.2.1 0 0),(3,.optr 1003 g.2.2.1 0 0),(4,.sl (m.map (eL Mk))),(5,.optr 1020 g.2.2.2.2.2.1 0 0),(37,.optr 1020 g.2.2.2.2.2.1 0 0)]) (O:=λg=>[(1001,dV g.1 3 36 (Pk a)),(1002,dV g.2.1 1 40 (.agg [.nils])),(1003,dV g.2.2.1 1 40 (.agg [.osl 1014 g.2.2.2.1 0 e.length])),(1014,dW g.2.2.2.1 1 41 (e.map (eL Mk))),(1018,some (g.2.2.2.2.1,⟨true,false,0,0,q.map (Qb D.bool)⟩)),(1020,dV g.2.2.2.2.2.1 2 144 (.agg [.osl 1900 g.2.2.2.2.2.2 0 f.length,.mref 1018 g.2.2.2.2.1])),(1900,dW g.2.2.2.2.2.2 1 3 (f.map Mk))]) (_,_,_,_,_,_,_) ((Pz (λg=>bif aAA 4096 g then g+20000 else g+1000) (by rfl) (hX)))<|?_
   rintro⟨ba,bb,bc,aj,ak,ac,ao⟩ nn
   try dsimp only
   refine AdX (ds:=[.optr 1020 ac 0 0]) (caps:=[]) (E:=[(0,.optr 1020 ac 0 0)]) r r r r r r r r<|Um (c:=AqS)<|?_;refine A 17 ?_;refine cK λhq=>iO (l:=f) (en:=Mk) r r r r r hq<|bD λi co=>?_
   refine A 17 ?_;refine cK λhq=>AdZ (l:=f) r r r r r r hq<|?_
   refine A 4 ?_;refine Qn (E:=[(0,.optr 1020 ac 0 0),(3,Av i)]) (O:=[(1001,dV ba 3 36 (Pk a)),(1002,dV bb 1 40 (.agg [.nils])),(1003,dV bc 1 40 (.agg [.osl 1014 aj 0 e.length])),(1014,dW aj 1 41 (e.map (eL Mk))),(1018,some (ak,⟨true,false,0,0,q.map (Qb D.bool)⟩)),(1020,dV ac 2 144 (.agg [.osl 1900 ao 0 ((f.take ((i64.wrap ((f.length:Int)-1)).toNat)).length),.mref 1018 ak])),(1900,dW ao 1 3 ((f.take ((i64.wrap ((f.length:Int)-1)).toNat)).map Mk))]) ((Arm (gw:=1020) (off:=0) (gg:=1900) (k:=(i64.wrap ((f.length:Int)-1)).toNat) (l:=f) (en:=Mk) r r r (by omega) r (hX))) λnn=>?_
   refine A 7 ?_;refine AsH (en:=D.bool) (l:=q) r r r r<|?_;refine A 9 ?_;refine AkC (d:=Av i) (E:=[(1,.optr 1 _ 0 0),(2,.optr 2 _ 0 0),(3,.optr 3 _ 0 0),(4,.sl (m.map (eL Mk))),(5,.optr 20 _ 0 0),(38,Av i)]) (O:=[(1,dV _ 3 36 (Pk a)),(2,dV _ 1 40 (.agg [.nils])),(3,dV _ 1 40 (.agg [.osl 14 _ 0 e.length])),(14,dW _ 1 41 (e.map (eL Mk))),(18,some (_,⟨true,false,0,0,(RQ i q).map (Qb D.bool)⟩)),(20,dV _ 2 144 (.agg [.osl 900 _ 0 ((f.take ((i64.wrap ((f.length:Int)-1)).toNat)).length),.mref 18 _])),(900,dW _ 1 3 ((f.take ((i64.wrap ((f.length:Int)-1)).toNat)).map Mk))]) r (by first|rfl|(simp[Px,PA,rdA,raw,strip,PG,cells,PC];done)|(simp[Px,PA,rdA,raw,strip,PG,S.ge,S.go,look,Ub,cells,PC];done)) r ((Ql (E1:=[(1,.optr 1001 ba 0 0),(2,.optr 1002 bb 0 0),(3,.optr 1003 bc 0 0),(4,.sl (m.map (eL Mk))),(5,.optr 1020 ac 0 0),(38,Av i)]) (O1:=[(1001,dV ba 3 36 (Pk a)),(1002,dV bb 1 40 (.agg [.nils])),(1003,dV bc 1 40 (.agg [.osl 1014 aj 0 e.length])),(1014,dW aj 1 41 (e.map (eL Mk))),(1018,some (ak,⟨true,false,0,0,(RQ i q).map (Qb D.bool)⟩)),(1020,dV ac 2 144 (.agg [.osl 1900 ao 0 ((f.take ((i64.wrap ((f.length:Int)-1)).toNat)).length),.mref 1018 ak])),(1900,dW ao 1 3 ((f.take ((i64.wrap ((f.length:Int)-1)).toNat)).map Mk))]) (hX) (λ_=>Pz (λg=>bif aAA 24096 g then g-20000 else bif (aAA 1000 g&&aAC g 4096)then g-1000 else g) (by rfl) (hX)))) λnn=>?_
   refine A 8 ?_;refine RN (E:=λ(g:Nat×Nat×Nat×Nat×Nat×Nat×Nat)=>[(1,.optr 1001 g.1 0 0),(2,.optr 1002 g.2.1 0 0),(3,.optr 1003 g.2.2.1 0 0),(4,.sl (m.map (eL Mk))),(5,.optr 1020 g.2.2.2.2.2.1 0 0),(7,Av i),(39,Pk a),(40,.agg [.osl 1014 g.2.2.2.1 0 e.length]),(41,Av i)]) (O:=λg=>[(1001,dV g.1 3 36 (Pk a)),(1002,dV g.2.1 1 40 (.agg [.nils])),(1003,dV g.2.2.1 1 40 (.agg [.osl 1014 g.2.2.2.1 0 e.length])),(1014,dW g.2.2.2.1 1 41 (e.map (eL Mk))),(1018,some (g.2.2.2.2.1,⟨true,false,0,0,(RQ i q).map (Qb D.bool)⟩)),(1020,dV g.2.2.2.2.2.1 2 144 (.agg [.osl 1900 g.2.2.2.2.2.2 0 ((f.take ((i64.wrap ((f.length:Int)-1)).toNat)).length),.mref 1018 g.2.2.2.2.1])),(1900,dW g.2.2.2.2.2.2 1 3 ((f.take ((i64.wrap ((f.length:Int)-1)).toNat)).map Mk))]) (_,_,_,_,_,_,_) ((Pz (λg=>bif aAA 4096 g then g+20000 else g+1000) (by rfl) (hX)))<|?_
   rintro⟨bd,bf,bg,z,ap,bh,aq⟩ nn
   try dsimp only
   refine Yu (ES:=λ(s:(List Int)) (g:Nat×Nat×Nat×Nat×Nat×Nat×Nat)=>[(1,.optr 1 g.1 0 0),(2,.optr 2 g.2.1 0 0),(3,.optr 3 g.2.2.1 0 0),(4,.sl (m.map (eL Mk))),(5,.optr 20 g.2.2.2.2.2.1 0 0),(7,Av i),(42,.sl (s.map Mk))]) (OS:=λ_ g=>[(1,dV g.1 3 36 (Pk a)),(2,dV g.2.1 1 40 (.agg [.nils])),(3,dV g.2.2.1 1 40 (.agg [.osl 14 g.2.2.2.1 0 e.length])),(14,dW g.2.2.2.1 1 41 (e.map (eL Mk))),(18,some (g.2.2.2.2.1,⟨true,false,0,0,(RQ i q).map (Qb D.bool)⟩)),(20,dV g.2.2.2.2.2.1 2 144 (.agg [.osl 900 g.2.2.2.2.2.2 0 ((f.take ((i64.wrap ((f.length:Int)-1)).toNat)).length),.mref 18 g.2.2.2.2.1])),(900,dW g.2.2.2.2.2.2 1 3 ((f.take ((i64.wrap ((f.length:Int)-1)).toNat)).map Mk))]) (j:=λs=>AaH i e q f m s) (ds:=[Pk a,.agg [.osl 1014 z 0 e.length],Av i]) (caps:=[]) (E:=[(0,Pk a),(1,.agg [.osl 1014 z 0 e.length]),(2,Av i)]) r r r r r r r r ?_ ?_
   ·refine Um (c:=AqT)<|?_;refine A 17 ?_;refine bD λar cp=>?_
    refine A 6 ?_;refine lP (E:=λ(s:Int×(List Int)) (g:Nat×Nat×Nat)=>[(3,.optr 3 g.1 0 0),(4,.optr 4 g.2.1 0 0),(7,.sl (s.2.map Mk)),(12,.osl 12 g.2.2 0 ar.length),(13,Av (ar.length:Int)),(14,Av s.1)]) (O:=λ_ g=>[(3,dV g.1 3 36 (Pk a)),(4,dV g.2.1 1 40 (.agg [.osl 1014 z 0 e.length])),(12,dW g.2.2 1 3 (ar.map Mk)),(1001,dV bd 3 36 (Pk a)),(1002,dV bf 1 40 (.agg [.nils])),(1003,dV bg 1 40 (.agg [.osl 1014 z 0 e.length])),(1014,dW z 1 41 (e.map (eL Mk))),(1018,some (ap,⟨true,false,0,0,(RQ i q).map (Qb D.bool)⟩)),(1020,dV bh 2 144 (.agg [.osl 1900 aq 0 ((f.take ((i64.wrap ((f.length:Int)-1)).toNat)).length),.mref 1018 ap])),(1900,dW aq 1 3 ((f.take ((i64.wrap ((f.length:Int)-1)).toNat)).map Mk))]) (body:=λs=>Xb ar a e i q f m s.1 s.2) (s:=(0,([]:List Int))) (_,_,_) ((AiC [(7,some (_,⟨true,false,1,3,([]:List Int).map Mk⟩))] ⟨⟨_,_,r,r,r⟩,trivial⟩ ⟨(Rf r),(Rf r),(Zo (Zn (l:=([]:List Int)) (en:=Mk) r r r (by simp))),(Rf r),(Rf r),(Rf r),trivial⟩ ⟨(.inl r),(.inl r),(.inl r),(.inl r),(.inl r),(.inl r),(.inl r),(.inl r),(.inl r),(.inl r),trivial⟩))<|?_
    rintro⟨bo,bi⟩ ⟨cq,cr,cs⟩ nn
    try dsimp only
    unfold Xb;refine A 6 ?_;refine cD r ?_ ?_
    ·refine A 7 ?_;refine bD λct cu=>?_
     refine A 9 ?_;refine bD λcv cw=>?_
     refine A 6 ?_;refine bD λcx cy=>?_
     refine A 1 ?_;refine bD λcz da=>?_
     refine A 1 ?_;refine bD λbp db=>?_
     refine A 9 ?_;exact xL (s:=(i64.wrap (bo+1),bp)) (_,_,_) ((hX))
    ·refine A 12 ?_;exact RK (d:=.sl (bi.map Mk)) (s:=bi) (_,_,_,_,_,_,_) r (by first|rfl|(simp[Px,PA,rdA,raw,strip,PG,cells,PC];done)|(simp[Px,PA,rdA,raw,strip,PG,S.ge,S.go,look,Ub,cells,PC];done)) r ((Ql (E1:=[(1,.optr 1001 bd 0 0),(2,.optr 1002 bf 0 0),(3,.optr 1003 bg 0 0),(4,.sl (m.map (eL Mk))),(5,.optr 1020 bh 0 0),(7,Av i),(42,.sl (bi.map Mk))]) (O1:=[(1001,dV bd 3 36 (Pk a)),(1002,dV bf 1 40 (.agg [.nils])),(1003,dV bg 1 40 (.agg [.osl 1014 z 0 e.length])),(1014,dW z 1 41 (e.map (eL Mk))),(1018,some (ap,⟨true,false,0,0,(RQ i q).map (Qb D.bool)⟩)),(1020,dV bh 2 144 (.agg [.osl 1900 aq 0 ((f.take ((i64.wrap ((f.length:Int)-1)).toNat)).length),.mref 1018 ap])),(1900,dW aq 1 3 ((f.take ((i64.wrap ((f.length:Int)-1)).toNat)).map Mk))]) (hX) (λ_=>Pz (λg=>bif aAA 24096 g then g-20000 else bif (aAA 1000 g&&aAC g 4096)then g-1000 else g) (by rfl) (hX))))
   ·rintro p ⟨dc,dd,de,df,dg,dh,di⟩ nn
    try dsimp only
    unfold AaH;refine A 11 ?_;refine bD λdj dk=>?_
    refine A 1 ?_;refine bD λdl dm=>?_
    refine A 3 ?_;refine cD r ?_ ?_
    ·refine A 3 ?_;exact xL (s:=(e,RQ i q,f.take ((i64.wrap ((f.length:Int)-1)).toNat))) (_,_,_,_,_,_,_) ((hX))
    ·refine A 9 ?_;refine bD λdn bq=>sE (l:=e) (en:=(eL Mk)) (q':=p) r r r r r r r (by simp) bq r r r r r<|?_
     refine A 6 ?_;refine bD λt dp=>?_
     refine A 7 ?_;refine lP (E:=λ(s:(List (Int×Bool))×(List Int)×Int) (g:Nat×Nat×Nat×Nat×Nat×Nat×Nat)=>[(1,.optr 1 g.1 0 0),(2,.optr 2 g.2.1 0 0),(3,.optr 3 g.2.2.1 0 0),(4,.sl (m.map (eL Mk))),(5,.optr 20 g.2.2.2.2.2.1 0 0),(58,.sl (t.map Mk)),(59,Av (t.length:Int)),(60,Av s.2.2)]) (O:=λs g=>[(1,dV g.1 3 36 (Pk a)),(2,dV g.2.1 1 40 (.agg [.nils])),(3,dV g.2.2.1 1 40 (.agg [.osl 14 g.2.2.2.1 0 ((e.set i.toNat p).length)])),(14,dW g.2.2.2.1 1 41 ((e.set i.toNat p).map (eL Mk))),(18,some (g.2.2.2.2.1,⟨true,false,0,0,s.1.map (Qb D.bool)⟩)),(20,dV g.2.2.2.2.2.1 2 144 (.agg [.osl 900 g.2.2.2.2.2.2 0 s.2.1.length,.mref 18 g.2.2.2.2.1])),(900,dW g.2.2.2.2.2.2 1 3 (s.2.1.map Mk))]) (body:=λs=>AaG t e i p s.1 s.2.1 s.2.2) (s:=(RQ i q,f.take ((i64.wrap ((f.length:Int)-1)).toNat),0)) (_,_,_,_,_,_,_) ((hE ⟨rfl,r,r,r,r,r,r,r,trivial⟩ ⟨rfl,r,(Eq.trans (b:=dV _ 1 40 (.agg [.osl 14 _ 0 e.length])) r (by simp)),r,r,r,r,trivial⟩))<|?_
     rintro⟨x,v,aa⟩ ⟨dq,dr,dt,du,dv,dw,dx⟩ nn
     try dsimp only
     unfold AaG;refine A 6 ?_;refine cD r ?_ ?_
     ·refine A 6 ?_;refine bD λy dy=>?_
      refine A 8 ?_;refine RN (E:=λ(g:Nat×Nat×Nat×Nat×Nat×Nat×Nat)=>[(1,.optr 1001 g.1 0 0),(2,.optr 1002 g.2.1 0 0),(3,.optr 1003 g.2.2.1 0 0),(4,.sl (m.map (eL Mk))),(5,.optr 1020 g.2.2.2.2.2.1 0 0),(58,.sl (t.map Mk)),(59,Av (t.length:Int)),(60,Av aa),(64,.optr 1020 g.2.2.2.2.2.1 0 0),(65,Av y)]) (O:=λg=>[(1001,dV g.1 3 36 (Pk a)),(1002,dV g.2.1 1 40 (.agg [.nils])),(1003,dV g.2.2.1 1 40 (.agg [.osl 1014 g.2.2.2.1 0 ((e.set i.toNat p).length)])),(1014,dW g.2.2.2.1 1 41 ((e.set i.toNat p).map (eL Mk))),(1018,some (g.2.2.2.2.1,⟨true,false,0,0,x.map (Qb D.bool)⟩)),(1020,dV g.2.2.2.2.2.1 2 144 (.agg [.osl 1900 g.2.2.2.2.2.2 0 v.length,.mref 1018 g.2.2.2.2.1])),(1900,dW g.2.2.2.2.2.2 1 3 (v.map Mk))]) (_,_,_,_,_,_,_) ((Pz (λg=>bif aAA 4096 g then g+20000 else g+1000) (by rfl) (hX)))<|?_
      rintro⟨au,av,aw,ax,ay,ad,bm⟩ nn
      try dsimp only
      refine Yu (ES:=λ(_s:(List (Int×Bool))×(List Int)) (g:Nat×Nat×Nat×Nat×Nat×Nat×Nat)=>[(1,.optr 1 g.1 0 0),(2,.optr 2 g.2.1 0 0),(3,.optr 3 g.2.2.1 0 0),(4,.sl (m.map (eL Mk))),(5,.optr 20 g.2.2.2.2.2.1 0 0),(58,.sl (t.map Mk)),(59,Av (t.length:Int)),(60,Av aa),(66,.tup [])]) (OS:=λs g=>[(1,dV g.1 3 36 (Pk a)),(2,dV g.2.1 1 40 (.agg [.nils])),(3,dV g.2.2.1 1 40 (.agg [.osl 14 g.2.2.2.1 0 ((e.set i.toNat p).length)])),(14,dW g.2.2.2.1 1 41 ((e.set i.toNat p).map (eL Mk))),(18,some (g.2.2.2.2.1,⟨true,false,0,0,s.1.map (Qb D.bool)⟩)),(20,dV g.2.2.2.2.2.1 2 144 (.agg [.osl 642 g.2.2.2.2.2.2 0 s.2.length,.mref 18 g.2.2.2.2.1])),(642,dW g.2.2.2.2.2.2 1 3 (s.2.map Mk))]) (j:=λs=>Tg aa s.1 s.2) (ds:=[.optr 1020 ad 0 0,Av y]) (caps:=[]) (E:=[(0,.optr 1020 ad 0 0),(1,Av y)]) r r r r r r r r ?_ ?_
      ·refine Um (c:=Aod)<|?_;refine A 7 ?_;refine AlZ (en:=D.bool) (l:=x) r r r r false r<|?_;refine A 3 ?_;refine cD r ?_ ?_
       ·refine A 7 ?_;refine Ama (en:=D.bool) (l:=x) r r r true r r r r<|?_;refine A 15 ?_;exact RK (d:=.tup []) (s:=(RL y true x,v++([y]:List Int))) (_,_,_,_,_,_,_) r (by first|rfl|(simp[Px,PA,rdA,raw,strip,PG,cells,PC];done)|(simp[Px,PA,rdA,raw,strip,PG,S.ge,S.go,look,Ub,cells,PC];done)) r ((Ql (E1:=[(1,.optr 1001 au 0 0),(2,.optr 1002 av 0 0),(3,.optr 1003 aw 0 0),(4,.sl (m.map (eL Mk))),(5,.optr 1020 ad 0 0),(58,.sl (t.map Mk)),(59,Av (t.length:Int)),(60,Av aa),(66,.tup [])]) (O1:=[(23,dW _ 1 3 ((v++([y]:List Int)).map Mk)),(1001,dV au 3 36 (Pk a)),(1002,dV av 1 40 (.agg [.nils])),(1003,dV aw 1 40 (.agg [.osl 1014 ax 0 ((e.set i.toNat p).length)])),(1014,dW ax 1 41 ((e.set i.toNat p).map (eL Mk))),(1018,some (ay,⟨true,false,0,0,(RL y true x).map (Qb D.bool)⟩)),(1020,dV ad 2 144 (.agg [.osl 23 _ 0 ((v++([y]:List Int)).length),.mref 1018 ay]))]) (hX) (λ_=>Pz (λg=>bif aAA 24096 g then g-20000 else bif (aAA 1000 g&&aAC g 4096)then g-1000 else bif aAD g 23 then 642 else g) (by rfl) (hX))))
       ·refine A 1 ?_;exact RK (d:=.tup []) (s:=(x,v)) (_,_,_,_,_,_,_) r (by first|rfl|(simp[Px,PA,rdA,raw,strip,PG,cells,PC];done)|(simp[Px,PA,rdA,raw,strip,PG,S.ge,S.go,look,Ub,cells,PC];done)) r ((Ql (E1:=[(1,.optr 1001 au 0 0),(2,.optr 1002 av 0 0),(3,.optr 1003 aw 0 0),(4,.sl (m.map (eL Mk))),(5,.optr 1020 ad 0 0),(58,.sl (t.map Mk)),(59,Av (t.length:Int)),(60,Av aa),(66,.tup [])]) (O1:=[(1001,dV au 3 36 (Pk a)),(1002,dV av 1 40 (.agg [.nils])),(1003,dV aw 1 40 (.agg [.osl 1014 ax 0 ((e.set i.toNat p).length)])),(1014,dW ax 1 41 ((e.set i.toNat p).map (eL Mk))),(1018,some (ay,⟨true,false,0,0,x.map (Qb D.bool)⟩)),(1020,dV ad 2 144 (.agg [.osl 1900 bm 0 v.length,.mref 1018 ay])),(1900,dW bm 1 3 (v.map Mk))]) (hX) (λ_=>Pz (λg=>bif aAD g 1900 then 642 else bif aAA 24096 g then g-20000 else bif (aAA 1000 g&&aAC g 4096)then g-1000 else g) (by rfl) (hX))))
      ·rintro⟨bn,bj⟩ ⟨dz,ea,eb,ec,ed,ee,ef⟩ nn
       try dsimp only
       unfold Tg;refine A 7 ?_;exact xL (s:=(bn,bj,i64.wrap (aa+1))) (_,_,_,_,_,_,_) ((Ql (E1:=[(1,.optr 1 _ 0 0),(2,.optr 2 _ 0 0),(3,.optr 3 _ 0 0),(4,.sl (m.map (eL Mk))),(5,.optr 20 _ 0 0),(58,.sl (t.map Mk)),(59,Av (t.length:Int)),(60,Av (i64.wrap (aa+1)))]) (O1:=[(1,dV _ 3 36 (Pk a)),(2,dV _ 1 40 (.agg [.nils])),(3,dV _ 1 40 (.agg [.osl 14 _ 0 ((e.set i.toNat p).length)])),(14,dW _ 1 41 ((e.set i.toNat p).map (eL Mk))),(18,some (_,⟨true,false,0,0,bn.map (Qb D.bool)⟩)),(20,dV _ 2 144 (.agg [.osl 642 _ 0 bj.length,.mref 18 _])),(642,dW _ 1 3 (bj.map Mk))]) (hX) (λ_=>Pz (λg=>bif aAD g 642 then 900 else g) (by rfl) (hX))))
     ·refine A 5 ?_;exact xL (s:=(e.set i.toNat p,x,v)) (_,_,_,_,_,_,_) ((hX))
  ·refine A 12 ?_;refine AhZ (b:=(Pj.mk e)) r ?_ r r ?_ (by first|rfl|(simp only[OT];rfl)|(simp only[OV];rfl)|(simp only[OT,OV];rfl)|(simp[Agg,WY];try rfl))
   all_goals first|(simp;done)|(simp;omega)|rfl|(simp[QS,QJ];done)

def QZ (a:PE):List D:=[SE a]
def RB (ds:List D):PE:=Aec (ds.getD 0 .top)
instance:Py QZ RB:=⟨λa=>by simp[RB,QZ]⟩
def UJ (_b:PE):D:=.tup []
def AiL (b:PE):List D:=[SE b]
def AcR:Dw.Spec:=Pe [(0,(12,75))] .val QZ RB (λa=>Wm a) UJ AiL
theorem AhQ:Pb Tryz.prog 29 AcR:=by
 refine fn2 1 (Pf (l:=[(60,AbC)]) (by simp[Afo])) Tryz.func29<|?_
 intro a;unfold Wm;refine A 6 ?_;refine bD λb c=>?_
 refine A 4 ?_;refine SR (i:=0) (es':=[.agg [.sl (a.p.Funcs.map Pk),Av a.i,Av a.f.Params,.sl (a.f.Slots.map Pu),.sl (a.f.Code.map Pl),.sl (b.Out.map (eL Mk)),.sl (a.x.Rename.To.map Mk),.sl (a.x.Rename.Keep.map D.bool),.sl (a.x.LiveAfter.Out.map (eL Mk)),Av a.x.Layout.Args,Av a.x.Layout.Size,.sl (a.x.Layout.Off.map Mk)]]) r r r r r r r (by first|trivial|(simp;done)|(simp;omega)) r r r r r r<|?_
 exact B

def Adu:Dw.Spec:=Pe [] .ground Td Tc (λa=>Zg a) Po noE
theorem Agv:Pb Tryz.prog 159 Adu:=by
 refine fn2 1 (Pf (l:=[(193,Vs)]) (by simp[XO])) Tryz.func159<|?_
 intro a;unfold Zg;refine A 14 ?_;refine lP (E:=λ(s:Int) (_g:Unit)=>[(0,.sl (a.map Mk)),(5,.sl (a.map Mk)),(6,Av (a.length:Int)),(7,Av s)]) (O:=λ_ _=>[]) (body:=λs=>Sh a s) (s:=0) () ((hX))<|?_
 rintro b ⟨⟩ nn
 try dsimp only
 unfold Sh;refine A 6 ?_;refine cD r ?_ ?_
 ·refine A 7 ?_;refine bD λc d=>?_
  refine A 9 ?_;refine bD λe f=>?_
  refine A 3 ?_;refine PI r ?_ ?_
  ·exact B
  ·refine A 3 ?_;refine PI r ?_ ?_
   ·refine A 4 ?_;refine bD λg h=>?_
    refine A 7 ?_;refine cD r ?_ ?_
    ·exact B
    ·refine A 7 ?_;exact xL (s:=i64.wrap (b+1)) () ((hX))
   ·refine A 19 ?_;exact xL (s:=i64.wrap (b+1)) () ((hX))
 ·exact B

def UI (a:(List Int)×Le):List D:=[.sl (a.1.map Mk),.fptr (Pk a.2) 0]
def UH (ds:List D):(List Int)×Le:=((uL uI) (ds.getD 0 .top),Sz (fpD (ds.getD 1 .top)))
instance:Py UI UH:=⟨λa=>by simp[UH,UI,fpD,Qf (u:=uI) (en:=Mk) (λ_=>rfl)]⟩
def Aar:Dw.Spec:=Pe [] .ground UI UH (λa=>SG a.1 a.2) Po noE
theorem Age:Pb Tryz.prog 205 Aar:=by
 refine fn2 2 (Pf (l:=[(159,Adu)]) (by simp[Agv])) Tryz.func205<|?_
 intro a;unfold SG;exact B

def QM (a:(List (List Int))×Le):List D:=[.sl (a.1.map (eL Mk)),.clo 205 [.fptr (Pk a.2) 0]]
def QL (ds:List D):(List (List Int))×Le:=((uL (uL uI)) (ds.getD 0 .top),Sz (fpD (Alw (ds.getD 1 .top) 0)))
instance:Py QM QL:=⟨λa=>by simp[QL,QM,fpD,Alw,Qf (u:=(uL uI)) (en:=(eL Mk)) (Qf (u:=uI) (en:=Mk) (λ_=>rfl))]⟩
def Pg (b:Int):D:=Av b
def Sa:Dw.Spec:=Pe [] .ground QM QL (λa=>Ro a.1 a.2) Pg noE
theorem ZU:Pb Tryz.prog 231 Sa:=by
 refine fn2 2 (Pf (l:=[(205,Aar)]) (by simp[Age])) Tryz.func231<|?_
 rintro⟨a,b⟩;unfold Ro;refine A 14 ?_;refine lP (E:=λ(s:Int) (_g:Unit)=>[(0,.sl (a.map (eL Mk))),(1,.clo 205 [.fptr (Pk b) 0]),(7,Av (a.length:Int)),(8,Av s)]) (O:=λ_ _=>[]) (body:=λs=>RT a b s) (s:=0) () ((hX))<|?_
 rintro c ⟨⟩ nn
 try dsimp only
 unfold RT;refine A 6 ?_;refine cD r ?_ ?_
 ·refine A 15 ?_;refine bD λd e=>?_
  refine A 2 ?_;refine bD λf g=>?_
  refine A 3 ?_;refine cD r ?_ ?_
  ·exact B
  ·refine A 7 ?_;exact xL (s:=i64.wrap (c+1)) () ((hX))
 ·exact B

def RJ:Dw.Spec:=Pe [] .ground QM QL (λa=>RS a.1 a.2) Po noE
theorem Ym:Pb Tryz.prog 206 RJ:=by
 refine fn2 2 (Pf (l:=[(844007,Sa)]) (by simp[ZU])) Tryz.func206<|?_
 rintro⟨a,b⟩;unfold RS;refine A 9 ?_;refine bD λd c=>cG (a,b) rfl rfl (show _=some Sa from by kernel_rfl) Py.ok rfl rfl (by simp) r c r<|?_
 exact B

def QU (a:Le×Pj):List D:=[Pk a.1,WY a.2]
def QT (ds:List D):Le×Pj:=(Sz (ds.getD 0 .top),Adg (ds.getD 1 .top))
instance:Py QU QT:=⟨λa=>by simp[QT,QU]⟩
def ZF:Dw.Spec:=Pe [] .ground QU QT (λa=>Vl a.1 a.2) Po noE
theorem Adl:Pb Tryz.prog 186 ZF:=by
 refine fn2 2 (Pf (l:=[(843982,RJ)]) (by simp[Ym])) Tryz.func186<|?_
 rintro⟨a,b⟩;unfold Vl;refine A 6 ?_;refine Qn (E:=[(2,.fptr (Pk a) 0),(3,.optr 3 _ 0 0)]) (O:=[(3,dV _ 1 40 (.agg [.sl (b.Out.map (eL Mk))]))]) ((hV 2 r (hY))) λnn=>?_
 refine A 2 ?_;refine mF (caps:=[.fptr (Pk a) 0]) r r (by simp[UX])<|?_
 refine A 13 ?_;refine PI r ?_ ?_
 ·refine A 3 ?_;refine bD λd c=>cG (b.Out,a) rfl rfl (show _=some RJ from by kernel_rfl) Py.ok rfl rfl (by simp) r c r<|?_
  exact B
 ·exact B

def ZH (a:Pj):List D:=[WY a]
def ZG (ds:List D):Pj:=Adg (ds.getD 0 .top)
instance:Py ZH ZG:=⟨λa=>by simp[ZG,ZH]⟩
def AlP (b:Pj):D:=.clo 232 [.fptr (WY b) 0]
def Agf:Dw.Spec:=Pe [] .val ZH ZG (λa=>Aag a) AlP noE
theorem AkZ:Pb Tryz.prog 208 Agf:=by
 refine fn2 1 (PD) Tryz.func208<|?_;intro a;unfold Aag;refine A 5 ?_;refine Qn (E:=[(1,.fptr (.agg [.sl (a.Out.map (eL Mk))]) 0)]) (O:=[]) ((hV 1 r (hY))) λnn=>?_
 refine A 2 ?_;refine mF (caps:=[.fptr (.agg [.sl (a.Out.map (eL Mk))]) 0]) r r (by simp[UX])<|?_
 exact B

def VO (a:Int×Pj):List D:=[Av a.1,.fptr (WY a.2) 0]
def VN (ds:List D):Int×Pj:=(uI (ds.getD 0 .top),Adg (fpD (ds.getD 1 .top)))
instance:Py VO VN:=⟨λa=>by simp[VN,VO,uI,fpD]⟩
def Acg:Dw.Spec:=Pe [] .val VO VN (λa=>Vz a.1 a.2) QX noE
theorem Ahd:Pb Tryz.prog 232 Acg:=by
 refine fn2 2 (PD) Tryz.func232<|?_;intro a;unfold Vz;exact B

def AfL:Dw.Spec:=Pe [] .ground VW VV (λa=>Xf a.1 a.2) AfM noE
theorem AkF:Pb Tryz.prog 233 AfL:=by
 refine fn2 2 (PD) Tryz.func233<|?_;intro a;unfold Xf;exact B

def SO (a:OW×OW):List D:=[Ps a.1,Ps a.2,.clo 233 []]
def SN (ds:List D):OW×OW:=(Rx (ds.getD 0 .top),Rx (ds.getD 1 .top))
instance:Py SO SN:=⟨λa=>by simp[SN,SO]⟩
def Adh (b:OW×OW×OW):List D:=[Ps b.2.1,Ps b.2.2]
def Tl:Dw.Spec:=Pe [(0,(8,201)),(1,(8,201))] (.ptr 8 201) SO SN (λa=>Si a.1 a.2) WN Adh
theorem Acq:Pb Tryz.prog 182 Tl:=by
 refine fn2 3 (Pf (l:=[(233,AfL)]) (by simp[AkF])) Tryz.func182<|?_
 rintro⟨d,e⟩;unfold Si;refine A 19 ?_;refine lP (E:=λ(s:OW×Int) (g:Nat)=>[(0,.optr 8192 0 0 0),(1,.optr 8193 1 0 0),(2,.clo 233 []),(7,.optr 10 g 0 0),(11,Av s.2)]) (O:=λs g=>[(10,dV g 8 201 (Ps s.1)),(8192,dV 0 8 201 (Ps d)),(8193,dV 1 8 201 (Ps e))]) (body:=λs=>QO d e s.1 s.2) (s:=((OW.mk 0 0 0 0 0 0 0 0),0)) _ ((hX))<|?_
 rintro⟨b,a⟩ p nn
 try dsimp only
 unfold QO;refine A 6 ?_;refine cD r ?_ ?_
 ·refine A 17 ?_;refine cK λhq=>Ul r r r hq<|bD λf h=>Ws (q:=f) (l:=d.toList) (en:=AaB) (j:=a.toNat) (by simp) r r r h r (λ_=>r)<|?_
  refine A 3 ?_;refine cK λhq=>Ul r r r hq<|bD λi k=>Ws (q:=i) (l:=e.toList) (en:=AaB) (j:=a.toNat) (by simp) r r r k r (λ_=>r)<|bD λc t=>?_
  refine A 2 ?_;refine cK λhq=>Ul r r r hq<|bD λm o=>AmJ (q:=m) (q':=c) (l:=b.toList) (en:=AaB) (j:=a.toNat) (z':=Ps (b.set a.toNat c)) (by simp) r r r r r o r r (congrArg (λl=>D.agg (l.map AaB)) (RW b a.toNat c).symm)<|?_
  refine A 7 ?_;exact xL (s:=((b.set a.toNat c),i64.wrap (a+1))) _ ((hX))
 ·exact B

def Ahu:Dw.Spec:=Pe [] .val Vb Va (λa=>Xe a.1 a.2) QX noE
theorem Amf:Pb Tryz.prog 210 Ahu:=by
 refine fn2 2 (Pf (l:=[(181,Ud),(958646,Tl),(184,SD)]) (by simp[Vc,Acq,TD])) Tryz.func210<|?_
 rintro⟨d,e⟩;unfold Xe;refine A 8 ?_;refine bD λa f=>?_
 refine A 2 ?_;refine bD λb g=>?_
 refine A 1 ?_;refine bD λh c=>cP (a,b) rfl rfl (show _=some Tl from by kernel_rfl) Py.ok rfl rfl (by simp) r c<|?_
 exact B

def Tp (a:(List Int)×(List Int)×Pj×Int):List D:=[.sl (a.1.map Mk),.sl (a.2.1.map Mk),.fptr (WY a.2.2.1) 0,.fptr (Av a.2.2.2) 0]
def Tn (ds:List D):(List Int)×(List Int)×Pj×Int:=((uL uI) (ds.getD 0 .top),(uL uI) (ds.getD 1 .top),Adg (fpD (ds.getD 2 .top)),uI (fpD (ds.getD 3 .top)))
instance:Py Tp Tn:=⟨λa=>by simp[Tn,Tp,uI,fpD,Qf (u:=uI) (en:=Mk) (λ_=>rfl)]⟩
def XJ (b:Bool×(List Int)):D:=.bool b.1
def AeB (b:Bool×(List Int)):List D:=[.sl (b.2.map Mk)]
def XK:Dw.Spec:=Pe [(1,(1,41))] .val Tp Tn (λa=>SL a.1 a.2.1 a.2.2.1 a.2.2.2) XJ AeB
theorem AdH:Pb Tryz.prog 209 XK:=by
 refine fn2 4 (Pf (l:=[(210,Ahu),(139,Xh)]) (by simp[Amf,Aco])) Tryz.func209<|?_
 rintro⟨b,c,d,e⟩;unfold SL;refine A 12 ?_;refine bD λf g=>?_
 refine A 2 ?_;refine bD λh j=>?_
 refine A 1 ?_;refine bD λa k=>?_
 refine A 1 ?_;refine SR (i:=0) (es':=[.sl (a.map Mk)]) r r r r r r r (by first|trivial|(simp;done)|(simp;omega)) r r r r r r<|?_
 exact B

def QK (a:Le×Int×Pj×(List Int)×Pj×Int):List D:=[Pk a.1,Av a.2.1,.clo 232 [.fptr (WY a.2.2.1) 0],.clo 209 [.sl (a.2.2.2.1.map Mk),.fptr (WY a.2.2.2.2.1) 0,.fptr (Av a.2.2.2.2.2) 0]]
def RM (ds:List D):Le×Int×Pj×(List Int)×Pj×Int:=(Sz (ds.getD 0 .top),uI (ds.getD 1 .top),Adg (fpD (Alw (ds.getD 2 .top) 0)),(uL uI) (Alw (ds.getD 3 .top) 0),Adg (fpD (Alw (ds.getD 3 .top) 1)),uI (fpD (Alw (ds.getD 3 .top) 2)))
instance:Py QK RM:=⟨λa=>by simp[RM,QK,uI,fpD,Alw,Qf (u:=uI) (en:=Mk) (λ_=>rfl)]⟩
def Aaf (b:Bool×(List Int)):List D:=[.sl (b.2.map Mk)]
def RX:Dw.Spec:=Pe [(256,(1,41))] .val QK RM (λa=>QB a.1 a.2.1 a.2.2.1 a.2.2.2.1 a.2.2.2.2.1 a.2.2.2.2.2) XJ Aaf
theorem ZE:Pb Tryz.prog 207 RX:=by
 refine fn2 4 (Pf (l:=[(138,AaN),(232,Acg),(140,Aef),(209,XK)]) (by simp[Agb,Ahd,AjP,AdH])) Tryz.func207<|?_
 rintro⟨b,j,c,f,d,e⟩;unfold QB;refine A 11 ?_;refine bD λa k=>?_
 refine A 6 ?_;refine lP (E:=λ(s:(List Int)×Int) (g:Nat×Nat)=>[(2,.clo 232 [.fptr (.agg [.sl (c.Out.map (eL Mk))]) 0]),(3,.clo 209 [.optr 8448 256 0 0,.fptr (.agg [.sl (d.Out.map (eL Mk))]) 0,.fptr (Av e) 0]),(4,.optr 4 g.1 0 0),(13,.osl 13 g.2 0 a.length),(14,Av (a.length:Int)),(15,Av s.2)]) (O:=λs g=>[(4,dV g.1 3 36 (Pk b)),(13,dW g.2 1 3 (a.map Mk)),(8448,dV 256 1 41 (.sl (s.1.map Mk)))]) (body:=λs=>PY a b c d e s.1 s.2) (s:=(f,0)) (_,_) ((hX))<|?_
 rintro⟨m,h⟩ ⟨o,p⟩ nn
 try dsimp only
 unfold PY;refine A 6 ?_;refine cD r ?_ ?_
 ·refine A 7 ?_;refine bD λq t=>?_
  refine A 10 ?_;refine bD λu v=>?_
  refine A 4 ?_;refine bD λw x=>?_
  refine A 1 ?_;refine bD λy z=>?_
  refine A 1 ?_;refine bD λi aa=>?_
  refine A 4 ?_;refine cD r ?_ ?_
  ·exact B
  ·refine A 7 ?_;exact xL (s:=(i.2,i64.wrap (h+1))) (_,_) ((hX))
 ·exact B

def AkY (b:Int×Int×Bool):D:=.tup [Av b.1,Av b.2.1,.bool b.2.2]
def Afn:Dw.Spec:=Pe [] .ground QU QT (λa=>Zb a.1 a.2) AkY noE
theorem AjZ:Pb Tryz.prog 187 Afn:=by
 refine fn2 2 (Pf (l:=[(186,ZF),(208,Agf),(3524169935,RX)]) (by simp[Adl,AkZ,ZE])) Tryz.func187<|?_
 rintro⟨a,b⟩;unfold Zb;refine A 8 ?_;refine Qn (E:=[(2,.optr 2 _ 0 0),(3,.fptr (.agg [.sl (b.Out.map (eL Mk))]) 0)]) (O:=[(2,dV _ 3 36 (Pk a))]) ((hV 3 r (hY))) λnn=>?_
 refine A 5 ?_;refine bD λf h=>?_
 refine A 4 ?_;refine cD r ?_ ?_
 ·exact B
 ·refine A 12 ?_;refine lP (E:=λ(s:Int) (g:Nat)=>[(2,.optr 2 g 0 0),(3,.fptr (.agg [.sl (b.Out.map (eL Mk))]) 0),(15,Av (a.Code.length:Int)),(16,Av s)]) (O:=λ_ g=>[(2,dV g 3 36 (Pk a))]) (body:=λs=>ZD a b s) (s:=0) _ ((hX))<|?_
  rintro c i nn
  try dsimp only
  unfold ZD;refine A 6 ?_;refine cD r ?_ ?_
  ·refine A 10 ?_;refine Qn (E:=[(2,.optr 2 _ 0 0),(3,.fptr (.agg [.sl (b.Out.map (eL Mk))]) 0),(7,.fptr (Av c) 0),(15,Av (a.Code.length:Int)),(16,Av c)]) (O:=[(2,dV _ 3 36 (Pk a))]) ((hV 7 r (hY))) λnn=>?_
   refine A 10 ?_;refine bD λd j=>?_
   refine A 1 ?_;refine mF (caps:=[.optr 8 _ 0 0,.fptr (.agg [.sl (b.Out.map (eL Mk))]) 0,.fptr (Av c) 0]) r r (by simp[UX])<|bD λk e=>cV (a,c,d,[],b,c) rfl rfl (show _=some RX from by kernel_rfl) Py.ok rfl rfl (by simp) (by first|rfl|(simp only[OT];rfl)|(simp only[OV];rfl)|(simp only[OT,OV];rfl)|simp[QK,Pk,WY,WY]) e<|?_
   refine A 9 ?_;refine cD r ?_ ?_
   ·exact B
   ·refine A 7 ?_;exact xL (s:=i64.wrap (c+1)) _ ((hX))
  ·exact B

def AaE:Dw.Spec:=Pe [] .ground QU QT (λa=>Wi a.1 a.2) Pg noE
theorem AeA:Pb Tryz.prog 141 AaE:=by
 refine fn2 2 (Pf (l:=[(186,ZF),(187,Afn)]) (by simp[Adl,AjZ])) Tryz.func141<|?_
 intro a;unfold Wi;exact B

def Uj (a:Lo×Int):List D:=[Pl a.1,Av a.2]
def Ui (ds:List D):Lo×Int:=(Yo (ds.getD 0 .top),uI (ds.getD 1 .top))
instance:Py Uj Ui:=⟨λa=>by simp[Ui,Uj,uI]⟩
def Adk:Dw.Spec:=Pe [] .ground Uj Ui (λa=>Uu a.1 a.2) Po noE
theorem AiD:Pb Tryz.prog 105 Adk:=by
 refine fn2 2 (PD) Tryz.func105<|?_;intro a;unfold Uu;exact B

def UG (a:(List (List Bool))):List D:=[.sl (a.map (eL D.bool))]
def UF (ds:List D):(List (List Bool)):=(uL (uL uBo)) (ds.getD 0 .top)
instance:Py UG UF:=⟨λa=>by simp[UF,UG,Qf (u:=(uL uBo)) (en:=(eL D.bool)) (Qf (u:=uBo) (en:=D.bool) (λ_=>rfl))]⟩
def VM:Dw.Spec:=Pe [] .val UG UF (λa=>SF a) Ajb noE
theorem ZB:Pb Tryz.prog 144 VM:=by
 refine fn2 1 (PD) Tryz.func144<|?_;intro a;unfold SF;refine A 9 ?_;refine cK λhq=>AaR (α:=Int) r r r hq r<|?_
 refine A 2 ?_;refine Qn (E:=[(0,.sl (a.map (eL D.bool))),(3,.osl 4099 _ 0 ((aA (a.length:Int).toNat ([]:(List Int))).length))]) (O:=[(4099,dW _ 1 41 ((aA (a.length:Int).toNat ([]:(List Int))).map (eR 1 3 Mk)))]) ((Aft (g:=3) (g2:=4099) r r r (AiA (l:=aA (a.length:Int).toNat ([]:(List Int))) (s':=1) (ty':=3) Mk (by decide) (λ_ h=>aAB h)) (hX))) λnn=>?_
 refine A 9 ?_;refine lP (E:=λ(s:(List (List Int))×Int) (g:Nat)=>[(3,.osl 4099 g 0 s.1.length),(11,.sl (a.map (eL D.bool))),(12,Av (a.length:Int)),(13,Av s.2)]) (O:=λs g=>[(4099,dW g 1 41 (s.1.map (eR 1 3 Mk)))]) (body:=λs=>Vj a s.1 s.2) (s:=(aA (a.length:Int).toNat ([]:(List Int)),0)) _ ((hX))<|?_
 rintro⟨b,c⟩ k nn
 try dsimp only
 unfold Vj;refine A 6 ?_;refine cD r ?_ ?_
 ·refine A 7 ?_;refine bD λe m=>?_
  refine A 14 ?_;refine lP (E:=λ(s:(List (List Int))×Int) (g:Nat)=>[(3,.osl 4099 g 0 s.1.length),(4,Av c),(11,.sl (a.map (eL D.bool))),(12,Av (a.length:Int)),(13,Av c),(18,.sl (e.map D.bool)),(19,Av (e.length:Int)),(20,Av s.2)]) (O:=λs g=>[(4099,dW g 1 41 (s.1.map (eR 1 3 Mk)))]) (body:=λs=>Vk e c s.1 s.2) (s:=(b,0)) _ ((hX))<|?_
  rintro⟨f,i⟩ o nn
  try dsimp only
  unfold Vk;refine A 6 ?_;refine cD r ?_ ?_
  ·refine A 7 ?_;refine bD λp t=>?_
   refine A 11 ?_;refine cD r ?_ ?_
   ·refine A 6 ?_;refine bD λd j=>AnG (q:=d) Mk r r r j<|?_
    refine A 2 ?_;refine cK λhq=>AnF (d) (([i]:List Int)) Mk r r r r r r r (by simp) (Tb _ _ r) r r (by simp) (Rj _ _ r) (λ_=>r) r hq (λ_=>r)<|cK λhq=>Yv (by simp) r r r r (by simpa using hq)<|Aek (l:=f) (q:=d) (q':=d++([i]:List Int)) Mk rfl rfl rfl rfl (.inr ⟨_,_,_,rfl⟩) j rfl rfl ⟨⟨rfl,rfl,by simp,ZJ λ_=>rfl⟩,trivial,rfl⟩ (congrArg (λz=>[D.row _ _ z]) (Rj _ _ rfl)) rfl<|?_
    exact B
   ·refine A 7 ?_;exact xL (s:=(f,i64.wrap (i+1))) _ ((hX))
  ·refine A 10 ?_;exact xL (s:=(f,i64.wrap (c+1))) _ ((hX))
 ·refine A 4 ?_;refine Qn (E:=[(3,.osl 4099 _ 0 b.length)]) (O:=[(4099,dW _ 1 41 (b.map (eL Mk)))]) ((Acd (g:=4099) r (AiB (l:=b) Mk (λ_=>r)) (hX))) λnn=>?_
  exact B

def Amo:PZ:=(Tryz.f142.body.bind (PS Tryz.prog Tryz.f142.ntmps)).getD .skip
theorem Aqn:(Tryz.f142.body.bind (PS Tryz.prog Tryz.f142.ntmps))=some Amo:=by kernel_rfl
theorem Aqo:Tryz.f142.results.toList.mapM (Tw Tryz.prog)=some [(.t 2)]:=by kernel_rfl

end
end Go.Proofs.YtilmapojncgflaaGreatDoor
