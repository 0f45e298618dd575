/-
  Programs on typed data, and the proofs that the code does what they say; written by a program (dx.py).
-/
import Derived.Test.YtilmapojncgflaaGreatDoorProg
import Derived.Test.YtilmapojncgflaaGreatDoorDd
import Derived.KernelRfl
import Derived.Test.YtilmapojncgflaaGreatDoorDxP
import Derived.Test.YtilmapojncgflaaGreatDoorDxF1
open List renaming replicate->aA,eq_of_mem_replicate->aAB
open Nat renaming ble->aAA,blt->aAC,beq->aAD
namespace Go.Proofs.YtilmapojncgflaaGreatDoor
open Go Go.Dw Go.Proofs
open Go.IntKind (i64)
set_option maxRecDepth 100000
set_option maxHeartbeats 40000000
open Go.Dw renaming Rl -> bD,Qf -> cK,Abc -> cV,Aai -> cG,Uz -> sE,Zy -> iO,AbB -> cD,Zg -> xL,AaD -> hE,AeT -> cP,AdX -> lP,Akj -> mF,rf -> r
noncomputable section
def Aik (b:Pj):D:=Uu b
def Adl:Dw.Spec:=Pd [] .val WY WX (λa=>Vy a) Aik noE
def Afb:Dw.Spec:=VR (specs []) 2 [] AqA
theorem AkL:Pa Tryz.prog 100 Afb:=Sf (Py) Tryz.func100 (by decide) AwJ AwK (by decide)
def Afc:Dw.Spec:=VR (specs []) 1 [(.t 2)] AtE
theorem AkM:Pa Tryz.prog 101 Afc:=Sf (Py) Tryz.func101 (by decide) AwL AwM (by decide)
def Afd:Dw.Spec:=VR (specs [(138,Acl),(140,AfZ),(139,Yf)]) 3 [(.t 6)] AtF
theorem AkN:Pa Tryz.prog 102 Afd:=Sf (Pe (l:=[(138,Acl),(140,AfZ),(139,Yf)]) (by simp[Aie,Amf,Aec])) Tryz.func102 (by decide) AwN AwO (by decide)
theorem Ahs:Pa Tryz.prog 60 Adl:=by
 refine fn2 1 (Pe (l:=[(99,Alg),(100,Afb),(101,Afc),(102,Afd),(103,Acu)]) (by simp[Apj,AkL,AkM,AkN,AiA])) Tryz.func60<|?_
 intro a;unfold Vy;refine A 11 ?_;refine cK λhq=>Acv (α:=Int) r r r hq r<|?_
 refine A 4 ?_;refine Qx (E:=[(1,.optr 1 _ 0 0),(2,.optr 2 _ 0 0),(3,.optr 3 _ 0 0)]) (O:=[(1,dV _ 3 36 (Pl a)),(2,dV _ 1 40 (.agg [.nils])),(3,dV _ 1 40 (.agg [.osl 14 _ 0 ((aA (a.Code.length:Int).toNat ([]:(List Int))).length)])),(14,dW _ 1 41 ((aA (a.Code.length:Int).toNat ([]:(List Int))).map (eL Lo)))]) ((AuJ (g:=14) r (Awe (l:=aA (a.Code.length:Int).toNat ([]:(List Int))) Lo (λ_ h=>aAB h)) (hX))) λnn=>?_
 refine A 3 ?_;refine bD λm br=>?_
 refine A 6 ?_;refine Ato λnn=>?_
 refine A 15 ?_;refine lP (E:=λ(s:(List (Int×Bool))×(List Int)×Int) (g:Nat×Nat×Nat×Nat×Nat×Nat×Nat)=>[(1,.optr 1 g.1 0 0),(2,.optr 2 g.2.1 0 0),(3,.optr 3 g.2.2.1 0 0),(4,.sl (m.map (eL Lo))),(5,.optr 20 g.2.2.2.2.2.1 0 0),(23,Av (a.Code.length:Int)),(24,Av s.2.2)]) (O:=λs g=>[(1,dV g.1 3 36 (Pl a)),(2,dV g.2.1 1 40 (.agg [.nils])),(3,dV g.2.2.1 1 40 (.agg [.osl 14 g.2.2.2.1 0 ((aA (a.Code.length:Int).toNat ([]:(List Int))).length)])),(14,dW g.2.2.2.1 1 41 ((aA (a.Code.length:Int).toNat ([]:(List Int))).map (eL Lo))),(18,some (g.2.2.2.2.1,⟨true,false,0,0,s.1.map (Qg D.bool)⟩)),(20,dV g.2.2.2.2.2.1 2 144 (.agg [.osl 900 g.2.2.2.2.2.2 0 s.2.1.length,.mref 18 g.2.2.2.2.1])),(900,dW g.2.2.2.2.2.2 1 3 (s.2.1.map Lo))]) (body:=λs=>XV a m s.1 s.2.1 s.2.2) (s:=(([]:List (Int×Bool)),([]:List Int),0)) (_,_,_,_,_,_,_) ((Aif (gg:=20) (off:=0) (tt:=900) (s:=1) (tyy:=3) r r r r (hX)))<|?_
 rintro⟨w,u,o⟩ ⟨bs,bt,bu,bv,bw,bx,bz⟩ nn
 try dsimp only
 unfold XV;refine A 6 ?_;refine cD r ?_ ?_
 ·refine A 13 ?_;refine RZ (E:=λ(g:Nat×Nat×Nat×Nat×Nat×Nat×Nat)=>[(1,.optr 1001 g.1 0 0),(2,.optr 1002 g.2.1 0 0),(3,.optr 1003 g.2.2.1 0 0),(4,.sl (m.map (eL Lo))),(5,.optr 1020 g.2.2.2.2.2.1 0 0),(23,Av (a.Code.length:Int)),(24,Av o),(27,.optr 1020 g.2.2.2.2.2.1 0 0),(28,Av o)]) (O:=λg=>[(1001,dV g.1 3 36 (Pl a)),(1002,dV g.2.1 1 40 (.agg [.nils])),(1003,dV g.2.2.1 1 40 (.agg [.osl 1014 g.2.2.2.1 0 ((aA (a.Code.length:Int).toNat ([]:(List Int))).length)])),(1014,dW g.2.2.2.1 1 41 ((aA (a.Code.length:Int).toNat ([]:(List Int))).map (eL Lo))),(1018,some (g.2.2.2.2.1,⟨true,false,0,0,w.map (Qg D.bool)⟩)),(1020,dV g.2.2.2.2.2.1 2 144 (.agg [.osl 1900 g.2.2.2.2.2.2 0 u.length,.mref 1018 g.2.2.2.2.1])),(1900,dW g.2.2.2.2.2.2 1 3 (u.map Lo))]) (_,_,_,_,_,_,_) ((PD (λg=>bif aAA 4096 g then g+20000 else g+1000) (by rfl) (hX)))<|?_
  rintro⟨ae,af,ag,ah,ai,ab,bk⟩ nn
  try dsimp only
  refine Zw (ES:=λ(_s:(List (Int×Bool))×(List Int)) (g:Nat×Nat×Nat×Nat×Nat×Nat×Nat)=>[(1,.optr 1 g.1 0 0),(2,.optr 2 g.2.1 0 0),(3,.optr 3 g.2.2.1 0 0),(4,.sl (m.map (eL Lo))),(5,.optr 20 g.2.2.2.2.2.1 0 0),(23,Av (a.Code.length:Int)),(24,Av o),(29,.tup [])]) (OS:=λs g=>[(1,dV g.1 3 36 (Pl a)),(2,dV g.2.1 1 40 (.agg [.nils])),(3,dV g.2.2.1 1 40 (.agg [.osl 14 g.2.2.2.1 0 ((aA (a.Code.length:Int).toNat ([]:(List Int))).length)])),(14,dW g.2.2.2.1 1 41 ((aA (a.Code.length:Int).toNat ([]:(List Int))).map (eL Lo))),(18,some (g.2.2.2.2.1,⟨true,false,0,0,s.1.map (Qg D.bool)⟩)),(20,dV g.2.2.2.2.2.1 2 144 (.agg [.osl 601 g.2.2.2.2.2.2 0 s.2.length,.mref 18 g.2.2.2.2.1])),(601,dW g.2.2.2.2.2.2 1 3 (s.2.map Lo))]) (j:=λs=>Vf o s.1 s.2) (ds:=[.optr 1020 ab 0 0,Av o]) (caps:=[]) (E:=[(0,.optr 1020 ab 0 0),(1,Av o)]) r r r r r r r r ?_ ?_
  ·refine UZ (c:=AqA)<|?_;refine A 7 ?_;refine Aop (en:=D.bool) (l:=w) r r r r false r<|?_;refine A 3 ?_;refine cD r ?_ ?_
   ·refine A 7 ?_;refine Aoq (en:=D.bool) (l:=w) r r r true r r r r<|?_;refine A 15 ?_;exact RW (d:=.tup []) (s:=(RX o true w,u++([o]:List Int))) (_,_,_,_,_,_,_) r (by first|rfl|(simp[PC,PE,rdA,raw,strip,PJ,cells,PF];done)|(simp[PC,PE,rdA,raw,strip,PJ,S.ge,S.go,look,UO,cells,PF];done)) r ((Qp (E1:=[(1,.optr 1001 ae 0 0),(2,.optr 1002 af 0 0),(3,.optr 1003 ag 0 0),(4,.sl (m.map (eL Lo))),(5,.optr 1020 ab 0 0),(23,Av (a.Code.length:Int)),(24,Av o),(29,.tup [])]) (O1:=[(23,dW _ 1 3 ((u++([o]:List Int)).map Lo)),(1001,dV ae 3 36 (Pl a)),(1002,dV af 1 40 (.agg [.nils])),(1003,dV ag 1 40 (.agg [.osl 1014 ah 0 ((aA (a.Code.length:Int).toNat ([]:(List Int))).length)])),(1014,dW ah 1 41 ((aA (a.Code.length:Int).toNat ([]:(List Int))).map (eL Lo))),(1018,some (ai,⟨true,false,0,0,(RX o true w).map (Qg D.bool)⟩)),(1020,dV ab 2 144 (.agg [.osl 23 _ 0 ((u++([o]:List Int)).length),.mref 1018 ai]))]) (hX) (λ_=>PD (λg=>bif aAA 24096 g then g-20000 else bif (aAA 1000 g&&aAC g 4096)then g-1000 else bif aAD g 23 then 601 else g) (by rfl) (hX))))
   ·refine A 1 ?_;exact RW (d:=.tup []) (s:=(w,u)) (_,_,_,_,_,_,_) r (by first|rfl|(simp[PC,PE,rdA,raw,strip,PJ,cells,PF];done)|(simp[PC,PE,rdA,raw,strip,PJ,S.ge,S.go,look,UO,cells,PF];done)) r ((Qp (E1:=[(1,.optr 1001 ae 0 0),(2,.optr 1002 af 0 0),(3,.optr 1003 ag 0 0),(4,.sl (m.map (eL Lo))),(5,.optr 1020 ab 0 0),(23,Av (a.Code.length:Int)),(24,Av o),(29,.tup [])]) (O1:=[(1001,dV ae 3 36 (Pl a)),(1002,dV af 1 40 (.agg [.nils])),(1003,dV ag 1 40 (.agg [.osl 1014 ah 0 ((aA (a.Code.length:Int).toNat ([]:(List Int))).length)])),(1014,dW ah 1 41 ((aA (a.Code.length:Int).toNat ([]:(List Int))).map (eL Lo))),(1018,some (ai,⟨true,false,0,0,w.map (Qg D.bool)⟩)),(1020,dV ab 2 144 (.agg [.osl 1900 bk 0 u.length,.mref 1018 ai])),(1900,dW bk 1 3 (u.map Lo))]) (hX) (λ_=>PD (λg=>bif aAD g 1900 then 601 else bif aAA 24096 g then g-20000 else bif (aAA 1000 g&&aAC g 4096)then g-1000 else g) (by rfl) (hX))))
  ·rintro⟨x6,x7⟩ ⟨ca,cb,cc,cd,ce,cf,cg⟩ nn
   try dsimp only
   unfold Vf;refine A 7 ?_;exact xL (s:=(x6,x7,i64.wrap (o+1))) (_,_,_,_,_,_,_) ((Qp (E1:=[(1,.optr 1 _ 0 0),(2,.optr 2 _ 0 0),(3,.optr 3 _ 0 0),(4,.sl (m.map (eL Lo))),(5,.optr 20 _ 0 0),(23,Av (a.Code.length:Int)),(24,Av (i64.wrap (o+1)))]) (O1:=[(1,dV _ 3 36 (Pl a)),(2,dV _ 1 40 (.agg [.nils])),(3,dV _ 1 40 (.agg [.osl 14 _ 0 ((aA (a.Code.length:Int).toNat ([]:(List Int))).length)])),(14,dW _ 1 41 ((aA (a.Code.length:Int).toNat ([]:(List Int))).map (eL Lo))),(18,some (_,⟨true,false,0,0,x6.map (Qg D.bool)⟩)),(20,dV _ 2 144 (.agg [.osl 601 _ 0 x7.length,.mref 18 _])),(601,dW _ 1 3 (x7.map Lo))]) (hX) (λ_=>PD (λg=>bif aAD g 601 then 900 else g) (by rfl) (hX))))
 ·refine A 7 ?_;refine lP (E:=λ(_s:(List (List Int))×(List (Int×Bool))×(List Int)) (g:Nat×Nat×Nat×Nat×Nat×Nat×Nat)=>[(1,.optr 1 g.1 0 0),(2,.optr 2 g.2.1 0 0),(3,.optr 3 g.2.2.1 0 0),(4,.sl (m.map (eL Lo))),(5,.optr 20 g.2.2.2.2.2.1 0 0)]) (O:=λs g=>[(1,dV g.1 3 36 (Pl a)),(2,dV g.2.1 1 40 (.agg [.nils])),(3,dV g.2.2.1 1 40 (.agg [.osl 14 g.2.2.2.1 0 s.1.length])),(14,dW g.2.2.2.1 1 41 (s.1.map (eL Lo))),(18,some (g.2.2.2.2.1,⟨true,false,0,0,s.2.1.map (Qg D.bool)⟩)),(20,dV g.2.2.2.2.2.1 2 144 (.agg [.osl 900 g.2.2.2.2.2.2 0 s.2.2.length,.mref 18 g.2.2.2.2.1])),(900,dW g.2.2.2.2.2.2 1 3 (s.2.2.map Lo))]) (body:=λs=>AbR a m s.1 s.2.1 s.2.2) (s:=(aA (a.Code.length:Int).toNat ([]:(List Int)),w,u)) (_,_,_,_,_,_,_) ((hX))<|?_
  rintro⟨e,q,f⟩ ⟨ch,ci,cj,ck,cl,cm,cn⟩ nn
  try dsimp only
  unfold AbR;refine A 11 ?_;refine cD r ?_ ?_
  ·refine A 6 ?_;refine RZ (E:=λ(g:Nat×Nat×Nat×Nat×Nat×Nat×Nat)=>[(1,.optr 1001 g.1 0 0),(2,.optr 1002 g.2.1 0 0),(3,.optr 1003 g.2.2.1 0 0),(4,.sl (m.map (eL Lo))),(5,.optr 1020 g.2.2.2.2.2.1 0 0),(37,.optr 1020 g.2.2.2.2.2.1 0 0)]) (O:=λg=>[(1001,dV g.1 3 36 (Pl a)),(1002,dV g.2.1 1 40 (.agg [.nils])),(1003,dV g.2.2.1 1 40 (.agg [.osl 1014 g.2.2.2.1 0 e.length])),(1014,dW g.2.2.2.1 1 41 (e.map (eL Lo))),(1018,some (g.2.2.2.2.1,⟨true,false,0,0,q.map (Qg D.bool)⟩)),(1020,dV g.2.2.2.2.2.1 2 144 (.agg [.osl 1900 g.2.2.2.2.2.2 0 f.length,.mref 1018 g.2.2.2.2.1])),(1900,dW g.2.2.2.2.2.2 1 3 (f.map Lo))]) (_,_,_,_,_,_,_) ((PD (λg=>bif aAA 4096 g then g+20000 else g+1000) (by rfl) (hX)))<|?_
   rintro⟨ba,bb,bc,aj,ak,ac,ao⟩ nn
   try dsimp only
   refine AfV (ds:=[.optr 1020 ac 0 0]) (caps:=[]) (E:=[(0,.optr 1020 ac 0 0)]) r r r r r r r r<|UZ (c:=AtE)<|?_;refine A 17 ?_;refine cK λhq=>iO (l:=f) (en:=Lo) r r r r r hq<|bD λi co=>?_
   refine A 17 ?_;refine cK λhq=>AfW (l:=f) r r r r r r hq<|?_
   refine A 4 ?_;refine Qx (E:=[(0,.optr 1020 ac 0 0),(3,Av i)]) (O:=[(1001,dV ba 3 36 (Pl a)),(1002,dV bb 1 40 (.agg [.nils])),(1003,dV bc 1 40 (.agg [.osl 1014 aj 0 e.length])),(1014,dW aj 1 41 (e.map (eL Lo))),(1018,some (ak,⟨true,false,0,0,q.map (Qg D.bool)⟩)),(1020,dV ac 2 144 (.agg [.osl 1900 ao 0 ((f.take ((i64.wrap ((f.length:Int)-1)).toNat)).length),.mref 1018 ak])),(1900,dW ao 1 3 ((f.take ((i64.wrap ((f.length:Int)-1)).toNat)).map Lo))]) ((AtY (gw:=1020) (off:=0) (gg:=1900) (k:=(i64.wrap ((f.length:Int)-1)).toNat) (l:=f) (en:=Lo) r r r (by omega) r (hX))) λnn=>?_
   refine A 7 ?_;refine Avs (en:=D.bool) (l:=q) r r r r<|?_;refine A 9 ?_;refine AmY (d:=Av i) (E:=[(1,.optr 1 _ 0 0),(2,.optr 2 _ 0 0),(3,.optr 3 _ 0 0),(4,.sl (m.map (eL Lo))),(5,.optr 20 _ 0 0),(38,Av i)]) (O:=[(1,dV _ 3 36 (Pl a)),(2,dV _ 1 40 (.agg [.nils])),(3,dV _ 1 40 (.agg [.osl 14 _ 0 e.length])),(14,dW _ 1 41 (e.map (eL Lo))),(18,some (_,⟨true,false,0,0,(Se i q).map (Qg D.bool)⟩)),(20,dV _ 2 144 (.agg [.osl 900 _ 0 ((f.take ((i64.wrap ((f.length:Int)-1)).toNat)).length),.mref 18 _])),(900,dW _ 1 3 ((f.take ((i64.wrap ((f.length:Int)-1)).toNat)).map Lo))]) r (by first|rfl|(simp[PC,PE,rdA,raw,strip,PJ,cells,PF];done)|(simp[PC,PE,rdA,raw,strip,PJ,S.ge,S.go,look,UO,cells,PF];done)) r ((Qp (E1:=[(1,.optr 1001 ba 0 0),(2,.optr 1002 bb 0 0),(3,.optr 1003 bc 0 0),(4,.sl (m.map (eL Lo))),(5,.optr 1020 ac 0 0),(38,Av i)]) (O1:=[(1001,dV ba 3 36 (Pl a)),(1002,dV bb 1 40 (.agg [.nils])),(1003,dV bc 1 40 (.agg [.osl 1014 aj 0 e.length])),(1014,dW aj 1 41 (e.map (eL Lo))),(1018,some (ak,⟨true,false,0,0,(Se i q).map (Qg D.bool)⟩)),(1020,dV ac 2 144 (.agg [.osl 1900 ao 0 ((f.take ((i64.wrap ((f.length:Int)-1)).toNat)).length),.mref 1018 ak])),(1900,dW ao 1 3 ((f.take ((i64.wrap ((f.length:Int)-1)).toNat)).map Lo))]) (hX) (λ_=>PD (λg=>bif aAA 24096 g then g-20000 else bif (aAA 1000 g&&aAC g 4096)then g-1000 else g) (by rfl) (hX)))) λnn=>?_
   refine A 8 ?_;refine RZ (E:=λ(g:Nat×Nat×Nat×Nat×Nat×Nat×Nat)=>[(1,.optr 1001 g.1 0 0),(2,.optr 1002 g.2.1 0 0),(3,.optr 1003 g.2.2.1 0 0),(4,.sl (m.map (eL Lo))),(5,.optr 1020 g.2.2.2.2.2.1 0 0),(7,Av i),(39,Pl a),(40,.agg [.osl 1014 g.2.2.2.1 0 e.length]),(41,Av i)]) (O:=λg=>[(1001,dV g.1 3 36 (Pl a)),(1002,dV g.2.1 1 40 (.agg [.nils])),(1003,dV g.2.2.1 1 40 (.agg [.osl 1014 g.2.2.2.1 0 e.length])),(1014,dW g.2.2.2.1 1 41 (e.map (eL Lo))),(1018,some (g.2.2.2.2.1,⟨true,false,0,0,(Se i q).map (Qg D.bool)⟩)),(1020,dV g.2.2.2.2.2.1 2 144 (.agg [.osl 1900 g.2.2.2.2.2.2 0 ((f.take ((i64.wrap ((f.length:Int)-1)).toNat)).length),.mref 1018 g.2.2.2.2.1])),(1900,dW g.2.2.2.2.2.2 1 3 ((f.take ((i64.wrap ((f.length:Int)-1)).toNat)).map Lo))]) (_,_,_,_,_,_,_) ((PD (λg=>bif aAA 4096 g then g+20000 else g+1000) (by rfl) (hX)))<|?_
   rintro⟨bd,bf,bg,z,ap,bh,aq⟩ nn
   try dsimp only
   refine Zw (ES:=λ(s:(List Int)) (g:Nat×Nat×Nat×Nat×Nat×Nat×Nat)=>[(1,.optr 1 g.1 0 0),(2,.optr 2 g.2.1 0 0),(3,.optr 3 g.2.2.1 0 0),(4,.sl (m.map (eL Lo))),(5,.optr 20 g.2.2.2.2.2.1 0 0),(7,Av i),(42,.sl (s.map Lo))]) (OS:=λ_ g=>[(1,dV g.1 3 36 (Pl a)),(2,dV g.2.1 1 40 (.agg [.nils])),(3,dV g.2.2.1 1 40 (.agg [.osl 14 g.2.2.2.1 0 e.length])),(14,dW g.2.2.2.1 1 41 (e.map (eL Lo))),(18,some (g.2.2.2.2.1,⟨true,false,0,0,(Se i q).map (Qg D.bool)⟩)),(20,dV g.2.2.2.2.2.1 2 144 (.agg [.osl 900 g.2.2.2.2.2.2 0 ((f.take ((i64.wrap ((f.length:Int)-1)).toNat)).length),.mref 18 g.2.2.2.2.1])),(900,dW g.2.2.2.2.2.2 1 3 ((f.take ((i64.wrap ((f.length:Int)-1)).toNat)).map Lo))]) (j:=λs=>AbT i e q f m s) (ds:=[Pl a,.agg [.osl 1014 z 0 e.length],Av i]) (caps:=[]) (E:=[(0,Pl a),(1,.agg [.osl 1014 z 0 e.length]),(2,Av i)]) r r r r r r r r ?_ ?_
   ·refine UZ (c:=AtF)<|?_;refine A 17 ?_;refine bD λar cp=>?_
    refine A 6 ?_;refine lP (E:=λ(s:Int×(List Int)) (g:Nat×Nat×Nat)=>[(3,.optr 3 g.1 0 0),(4,.optr 4 g.2.1 0 0),(7,.sl (s.2.map Lo)),(12,.osl 12 g.2.2 0 ar.length),(13,Av (ar.length:Int)),(14,Av s.1)]) (O:=λ_ g=>[(3,dV g.1 3 36 (Pl a)),(4,dV g.2.1 1 40 (.agg [.osl 1014 z 0 e.length])),(12,dW g.2.2 1 3 (ar.map Lo)),(1001,dV bd 3 36 (Pl a)),(1002,dV bf 1 40 (.agg [.nils])),(1003,dV bg 1 40 (.agg [.osl 1014 z 0 e.length])),(1014,dW z 1 41 (e.map (eL Lo))),(1018,some (ap,⟨true,false,0,0,(Se i q).map (Qg D.bool)⟩)),(1020,dV bh 2 144 (.agg [.osl 1900 aq 0 ((f.take ((i64.wrap ((f.length:Int)-1)).toNat)).length),.mref 1018 ap])),(1900,dW aq 1 3 ((f.take ((i64.wrap ((f.length:Int)-1)).toNat)).map Lo))]) (body:=λs=>XW ar a e i q f m s.1 s.2) (s:=(0,([]:List Int))) (_,_,_) ((Afy [(7,some (_,⟨true,false,1,3,([]:List Int).map Lo⟩))] ⟨⟨_,_,r,r,r⟩,trivial⟩ ⟨(PS r),(PS r),(Aar (Aaq (l:=([]:List Int)) (en:=Lo) r r r (by simp))),(PS r),(PS r),(PS r),trivial⟩ ⟨(.inl r),(.inl r),(.inl r),(.inl r),(.inl r),(.inl r),(.inl r),(.inl r),(.inl r),(.inl r),trivial⟩))<|?_
    rintro⟨bo,bi⟩ ⟨cq,cr,cs⟩ nn
    try dsimp only
    unfold XW;refine A 6 ?_;refine cD r ?_ ?_
    ·refine A 7 ?_;refine bD λct cu=>?_
     refine A 9 ?_;refine bD λcv cw=>?_
     refine A 6 ?_;refine bD λcx cy=>?_
     refine A 1 ?_;refine bD λcz da=>?_
     refine A 1 ?_;refine bD λbp db=>?_
     refine A 9 ?_;exact xL (s:=(i64.wrap (bo+1),bp)) (_,_,_) ((hX))
    ·refine A 12 ?_;exact RW (d:=.sl (bi.map Lo)) (s:=bi) (_,_,_,_,_,_,_) r (by first|rfl|(simp[PC,PE,rdA,raw,strip,PJ,cells,PF];done)|(simp[PC,PE,rdA,raw,strip,PJ,S.ge,S.go,look,UO,cells,PF];done)) r ((Qp (E1:=[(1,.optr 1001 bd 0 0),(2,.optr 1002 bf 0 0),(3,.optr 1003 bg 0 0),(4,.sl (m.map (eL Lo))),(5,.optr 1020 bh 0 0),(7,Av i),(42,.sl (bi.map Lo))]) (O1:=[(1001,dV bd 3 36 (Pl a)),(1002,dV bf 1 40 (.agg [.nils])),(1003,dV bg 1 40 (.agg [.osl 1014 z 0 e.length])),(1014,dW z 1 41 (e.map (eL Lo))),(1018,some (ap,⟨true,false,0,0,(Se i q).map (Qg D.bool)⟩)),(1020,dV bh 2 144 (.agg [.osl 1900 aq 0 ((f.take ((i64.wrap ((f.length:Int)-1)).toNat)).length),.mref 1018 ap])),(1900,dW aq 1 3 ((f.take ((i64.wrap ((f.length:Int)-1)).toNat)).map Lo))]) (hX) (λ_=>PD (λg=>bif aAA 24096 g then g-20000 else bif (aAA 1000 g&&aAC g 4096)then g-1000 else g) (by rfl) (hX))))
   ·rintro p ⟨dc,dd,de,df,dg,dh,di⟩ nn
    try dsimp only
    unfold AbT;refine A 11 ?_;refine bD λdj dk=>?_
    refine A 1 ?_;refine bD λdl dm=>?_
    refine A 3 ?_;refine cD r ?_ ?_
    ·refine A 3 ?_;exact xL (s:=(e,Se i q,f.take ((i64.wrap ((f.length:Int)-1)).toNat))) (_,_,_,_,_,_,_) ((hX))
    ·refine A 9 ?_;refine bD λdn bq=>sE (l:=e) (en:=(eL Lo)) (q':=p) r r r r r r r (by simp) bq r r r r r<|?_
     refine A 6 ?_;refine bD λt dp=>?_
     refine A 7 ?_;refine lP (E:=λ(s:(List (Int×Bool))×(List Int)×Int) (g:Nat×Nat×Nat×Nat×Nat×Nat×Nat)=>[(1,.optr 1 g.1 0 0),(2,.optr 2 g.2.1 0 0),(3,.optr 3 g.2.2.1 0 0),(4,.sl (m.map (eL Lo))),(5,.optr 20 g.2.2.2.2.2.1 0 0),(58,.sl (t.map Lo)),(59,Av (t.length:Int)),(60,Av s.2.2)]) (O:=λs g=>[(1,dV g.1 3 36 (Pl a)),(2,dV g.2.1 1 40 (.agg [.nils])),(3,dV g.2.2.1 1 40 (.agg [.osl 14 g.2.2.2.1 0 ((e.set i.toNat p).length)])),(14,dW g.2.2.2.1 1 41 ((e.set i.toNat p).map (eL Lo))),(18,some (g.2.2.2.2.1,⟨true,false,0,0,s.1.map (Qg D.bool)⟩)),(20,dV g.2.2.2.2.2.1 2 144 (.agg [.osl 900 g.2.2.2.2.2.2 0 s.2.1.length,.mref 18 g.2.2.2.2.1])),(900,dW g.2.2.2.2.2.2 1 3 (s.2.1.map Lo))]) (body:=λs=>AbS t e i p s.1 s.2.1 s.2.2) (s:=(Se i q,f.take ((i64.wrap ((f.length:Int)-1)).toNat),0)) (_,_,_,_,_,_,_) ((hE ⟨rfl,r,r,r,r,r,r,r,trivial⟩ ⟨rfl,r,(Eq.trans (b:=dV _ 1 40 (.agg [.osl 14 _ 0 e.length])) r (by simp)),r,r,r,r,trivial⟩))<|?_
     rintro⟨x,v,aa⟩ ⟨dq,dr,dt,du,dv,dw,dx⟩ nn
     try dsimp only
     unfold AbS;refine A 6 ?_;refine cD r ?_ ?_
     ·refine A 6 ?_;refine bD λy dy=>?_
      refine A 8 ?_;refine RZ (E:=λ(g:Nat×Nat×Nat×Nat×Nat×Nat×Nat)=>[(1,.optr 1001 g.1 0 0),(2,.optr 1002 g.2.1 0 0),(3,.optr 1003 g.2.2.1 0 0),(4,.sl (m.map (eL Lo))),(5,.optr 1020 g.2.2.2.2.2.1 0 0),(58,.sl (t.map Lo)),(59,Av (t.length:Int)),(60,Av aa),(64,.optr 1020 g.2.2.2.2.2.1 0 0),(65,Av y)]) (O:=λg=>[(1001,dV g.1 3 36 (Pl a)),(1002,dV g.2.1 1 40 (.agg [.nils])),(1003,dV g.2.2.1 1 40 (.agg [.osl 1014 g.2.2.2.1 0 ((e.set i.toNat p).length)])),(1014,dW g.2.2.2.1 1 41 ((e.set i.toNat p).map (eL Lo))),(1018,some (g.2.2.2.2.1,⟨true,false,0,0,x.map (Qg D.bool)⟩)),(1020,dV g.2.2.2.2.2.1 2 144 (.agg [.osl 1900 g.2.2.2.2.2.2 0 v.length,.mref 1018 g.2.2.2.2.1])),(1900,dW g.2.2.2.2.2.2 1 3 (v.map Lo))]) (_,_,_,_,_,_,_) ((PD (λg=>bif aAA 4096 g then g+20000 else g+1000) (by rfl) (hX)))<|?_
      rintro⟨au,av,aw,ax,ay,ad,bm⟩ nn
      try dsimp only
      refine Zw (ES:=λ(_s:(List (Int×Bool))×(List Int)) (g:Nat×Nat×Nat×Nat×Nat×Nat×Nat)=>[(1,.optr 1 g.1 0 0),(2,.optr 2 g.2.1 0 0),(3,.optr 3 g.2.2.1 0 0),(4,.sl (m.map (eL Lo))),(5,.optr 20 g.2.2.2.2.2.1 0 0),(58,.sl (t.map Lo)),(59,Av (t.length:Int)),(60,Av aa),(66,.tup [])]) (OS:=λs g=>[(1,dV g.1 3 36 (Pl a)),(2,dV g.2.1 1 40 (.agg [.nils])),(3,dV g.2.2.1 1 40 (.agg [.osl 14 g.2.2.2.1 0 ((e.set i.toNat p).length)])),(14,dW g.2.2.2.1 1 41 ((e.set i.toNat p).map (eL Lo))),(18,some (g.2.2.2.2.1,⟨true,false,0,0,s.1.map (Qg D.bool)⟩)),(20,dV g.2.2.2.2.2.1 2 144 (.agg [.osl 642 g.2.2.2.2.2.2 0 s.2.length,.mref 18 g.2.2.2.2.1])),(642,dW g.2.2.2.2.2.2 1 3 (s.2.map Lo))]) (j:=λs=>TL aa s.1 s.2) (ds:=[.optr 1020 ad 0 0,Av y]) (caps:=[]) (E:=[(0,.optr 1020 ad 0 0),(1,Av y)]) r r r r r r r r ?_ ?_
      ·refine UZ (c:=AqA)<|?_;refine A 7 ?_;refine Aop (en:=D.bool) (l:=x) r r r r false r<|?_;refine A 3 ?_;refine cD r ?_ ?_
       ·refine A 7 ?_;refine Aoq (en:=D.bool) (l:=x) r r r true r r r r<|?_;refine A 15 ?_;exact RW (d:=.tup []) (s:=(RX y true x,v++([y]:List Int))) (_,_,_,_,_,_,_) r (by first|rfl|(simp[PC,PE,rdA,raw,strip,PJ,cells,PF];done)|(simp[PC,PE,rdA,raw,strip,PJ,S.ge,S.go,look,UO,cells,PF];done)) r ((Qp (E1:=[(1,.optr 1001 au 0 0),(2,.optr 1002 av 0 0),(3,.optr 1003 aw 0 0),(4,.sl (m.map (eL Lo))),(5,.optr 1020 ad 0 0),(58,.sl (t.map Lo)),(59,Av (t.length:Int)),(60,Av aa),(66,.tup [])]) (O1:=[(23,dW _ 1 3 ((v++([y]:List Int)).map Lo)),(1001,dV au 3 36 (Pl a)),(1002,dV av 1 40 (.agg [.nils])),(1003,dV aw 1 40 (.agg [.osl 1014 ax 0 ((e.set i.toNat p).length)])),(1014,dW ax 1 41 ((e.set i.toNat p).map (eL Lo))),(1018,some (ay,⟨true,false,0,0,(RX y true x).map (Qg D.bool)⟩)),(1020,dV ad 2 144 (.agg [.osl 23 _ 0 ((v++([y]:List Int)).length),.mref 1018 ay]))]) (hX) (λ_=>PD (λg=>bif aAA 24096 g then g-20000 else bif (aAA 1000 g&&aAC g 4096)then g-1000 else bif aAD g 23 then 642 else g) (by rfl) (hX))))
       ·refine A 1 ?_;exact RW (d:=.tup []) (s:=(x,v)) (_,_,_,_,_,_,_) r (by first|rfl|(simp[PC,PE,rdA,raw,strip,PJ,cells,PF];done)|(simp[PC,PE,rdA,raw,strip,PJ,S.ge,S.go,look,UO,cells,PF];done)) r ((Qp (E1:=[(1,.optr 1001 au 0 0),(2,.optr 1002 av 0 0),(3,.optr 1003 aw 0 0),(4,.sl (m.map (eL Lo))),(5,.optr 1020 ad 0 0),(58,.sl (t.map Lo)),(59,Av (t.length:Int)),(60,Av aa),(66,.tup [])]) (O1:=[(1001,dV au 3 36 (Pl a)),(1002,dV av 1 40 (.agg [.nils])),(1003,dV aw 1 40 (.agg [.osl 1014 ax 0 ((e.set i.toNat p).length)])),(1014,dW ax 1 41 ((e.set i.toNat p).map (eL Lo))),(1018,some (ay,⟨true,false,0,0,x.map (Qg D.bool)⟩)),(1020,dV ad 2 144 (.agg [.osl 1900 bm 0 v.length,.mref 1018 ay])),(1900,dW bm 1 3 (v.map Lo))]) (hX) (λ_=>PD (λg=>bif aAD g 1900 then 642 else bif aAA 24096 g then g-20000 else bif (aAA 1000 g&&aAC g 4096)then g-1000 else g) (by rfl) (hX))))
      ·rintro⟨bn,bj⟩ ⟨dz,ea,eb,ec,ed,ee,ef⟩ nn
       try dsimp only
       unfold TL;refine A 7 ?_;exact xL (s:=(bn,bj,i64.wrap (aa+1))) (_,_,_,_,_,_,_) ((Qp (E1:=[(1,.optr 1 _ 0 0),(2,.optr 2 _ 0 0),(3,.optr 3 _ 0 0),(4,.sl (m.map (eL Lo))),(5,.optr 20 _ 0 0),(58,.sl (t.map Lo)),(59,Av (t.length:Int)),(60,Av (i64.wrap (aa+1)))]) (O1:=[(1,dV _ 3 36 (Pl a)),(2,dV _ 1 40 (.agg [.nils])),(3,dV _ 1 40 (.agg [.osl 14 _ 0 ((e.set i.toNat p).length)])),(14,dW _ 1 41 ((e.set i.toNat p).map (eL Lo))),(18,some (_,⟨true,false,0,0,bn.map (Qg D.bool)⟩)),(20,dV _ 2 144 (.agg [.osl 642 _ 0 bj.length,.mref 18 _])),(642,dW _ 1 3 (bj.map Lo))]) (hX) (λ_=>PD (λg=>bif aAD g 642 then 900 else g) (by rfl) (hX))))
     ·refine A 5 ?_;exact xL (s:=(e.set i.toNat p,x,v)) (_,_,_,_,_,_,_) ((hX))
  ·refine A 12 ?_;refine Akg (b:=(Pj.mk e)) r ?_ r r ?_ (by first|rfl|(simp only[Mk];rfl)|(simp only[OV];rfl)|(simp only[Mk,OV];rfl)|(simp[Aik,Uu];try rfl))
   all_goals first|(simp;done)|(simp;omega)|rfl|(simp[QA,Qu];done)

def Ri (a:PG):List D:=[Ti a]
def RN (ds:List D):PG:=AfX (ds.getD 0 .top)
instance:PA Ri RN:=⟨λa=>by simp[RN,Ri]⟩
def Vp (_b:PG):D:=.tup []
def AkR (b:PG):List D:=[Ti b]
def AeC:Dw.Spec:=Pd [(0,(12,75))] .val Ri RN (λa=>Xg a) Vp AkR
theorem AjT:Pa Tryz.prog 29 AeC:=by
 refine fn2 1 (Pe (l:=[(60,Adl)]) (by simp[Ahs])) Tryz.func29<|?_
 intro a;unfold Xg;refine A 6 ?_;refine bD λb c=>?_
 refine A 4 ?_;refine Ty (i:=0) (es':=[.agg [.sl (a.p.Funcs.map Pl),Av a.i,Av a.f.Params,.sl (a.f.Slots.map Ps),.sl (a.f.Code.map Pp),.sl (b.Out.map (eL Lo)),.sl (a.x.Rename.To.map Lo),.sl (a.x.Rename.Keep.map D.bool),.sl (a.x.LiveAfter.Out.map (eL Lo)),Av a.x.Layout.Args,Av a.x.Layout.Size,.sl (a.x.Layout.Off.map Lo)]]) r r r r r r r (by first|trivial|(simp;done)|(simp;omega)) r r r r r r<|?_
 exact B

def Afk:Dw.Spec:=Pd [] .ground SD SC (λa=>Aak a) Pm noE
theorem AiB:Pa Tryz.prog 159 Afk:=by
 refine fn2 1 (Pe (l:=[(193,VV)]) (by simp[YQ])) Tryz.func159<|?_
 intro a;unfold Aak;refine A 14 ?_;refine lP (E:=λ(s:Int) (_g:Unit)=>[(0,.sl (a.map Lo)),(5,.sl (a.map Lo)),(6,Av (a.length:Int)),(7,Av s)]) (O:=λ_ _=>[]) (body:=λs=>SF a s) (s:=0) () ((hX))<|?_
 rintro b ⟨⟩ nn
 try dsimp only
 unfold SF;refine A 6 ?_;refine cD r ?_ ?_
 ·refine A 7 ?_;refine bD λc d=>?_
  refine A 9 ?_;refine bD λe f=>?_
  refine A 3 ?_;refine Px r ?_ ?_
  ·exact B
  ·refine A 3 ?_;refine Px r ?_ ?_
   ·refine A 4 ?_;refine bD λg h=>?_
    refine A 7 ?_;refine cD r ?_ ?_
    ·exact B
    ·refine A 7 ?_;exact xL (s:=i64.wrap (b+1)) () ((hX))
   ·refine A 19 ?_;exact xL (s:=i64.wrap (b+1)) () ((hX))
 ·exact B

def Vo (a:(List Int)×Le):List D:=[.sl (a.1.map Lo),.fptr (Pl a.2) 0]
def Vn (ds:List D):(List Int)×Le:=((uL uI) (ds.getD 0 .top),Sz (fpD (ds.getD 1 .top)))
instance:PA Vo Vn:=⟨λa=>by simp[Vn,Vo,fpD,Qh (u:=uI) (en:=Lo) (λ_=>rfl)]⟩
def AbE:Dw.Spec:=Pd [] .ground Vo Vn (λa=>Tk a.1 a.2) Pm noE
theorem Aii:Pa Tryz.prog 205 AbE:=by
 refine fn2 2 (Pe (l:=[(159,Afk)]) (by simp[AiB])) Tryz.func205<|?_
 intro a;unfold Tk;exact B

def QX (a:(List (List Int))×Le):List D:=[.sl (a.1.map (eL Lo)),.clo 205 [.fptr (Pl a.2) 0]]
def QW (ds:List D):(List (List Int))×Le:=((uL (uL uI)) (ds.getD 0 .top),Sz (fpD (AnN (ds.getD 1 .top) 0)))
instance:PA QX QW:=⟨λa=>by simp[QW,QX,fpD,AnN,Qh (u:=(uL uI)) (en:=(eL Lo)) (Qh (u:=uI) (en:=Lo) (λ_=>rfl))]⟩
def Pc (b:Int):D:=Av b
def Sv:Dw.Spec:=Pd [] .ground QX QW (λa=>Ry a.1 a.2) Pc noE
theorem Aba:Pa Tryz.prog 231 Sv:=by
 refine fn2 2 (Pe (l:=[(205,AbE)]) (by simp[Aii])) Tryz.func231<|?_
 rintro⟨a,b⟩;unfold Ry;refine A 14 ?_;refine lP (E:=λ(s:Int) (_g:Unit)=>[(0,.sl (a.map (eL Lo))),(1,.clo 205 [.fptr (Pl b) 0]),(7,Av (a.length:Int)),(8,Av s)]) (O:=λ_ _=>[]) (body:=λs=>Sj a b s) (s:=0) () ((hX))<|?_
 rintro c ⟨⟩ nn
 try dsimp only
 unfold Sj;refine A 6 ?_;refine cD r ?_ ?_
 ·refine A 15 ?_;refine bD λd e=>?_
  refine A 2 ?_;refine bD λf g=>?_
  refine A 3 ?_;refine cD r ?_ ?_
  ·exact B
  ·refine A 7 ?_;exact xL (s:=i64.wrap (c+1)) () ((hX))
 ·exact B

def RV:Dw.Spec:=Pd [] .ground QX QW (λa=>Si a.1 a.2) Pm noE
theorem Zt:Pa Tryz.prog 206 RV:=by
 refine fn2 2 (Pe (l:=[(844007,Sv)]) (by simp[Aba])) Tryz.func206<|?_
 rintro⟨a,b⟩;unfold Si;refine A 9 ?_;refine bD λd c=>cG (a,b) rfl rfl (show _=some Sv from by kernel_rfl) PA.ok rfl rfl (by simp) r c r<|?_
 exact B

def Ql (a:Le×Pj):List D:=[Pl a.1,Uu a.2]
def Qk (ds:List D):Le×Pj:=(Sz (ds.getD 0 .top),XY (ds.getD 1 .top))
instance:PA Ql Qk:=⟨λa=>by simp[Qk,Ql]⟩
def AaI:Dw.Spec:=Pd [] .ground Ql Qk (λa=>VQ a.1 a.2) Pm noE
theorem Afa:Pa Tryz.prog 186 AaI:=by
 refine fn2 2 (Pe (l:=[(843982,RV)]) (by simp[Zt])) Tryz.func186<|?_
 rintro⟨a,b⟩;unfold VQ;refine A 6 ?_;refine Qx (E:=[(2,.fptr (Pl a) 0),(3,.optr 3 _ 0 0)]) (O:=[(3,dV _ 1 40 (.agg [.sl (b.Out.map (eL Lo))]))]) ((hV 2 r (hY))) λnn=>?_
 refine A 2 ?_;refine mF (caps:=[.fptr (Pl a) 0]) r r (by simp[VC])<|?_
 refine A 13 ?_;refine Px r ?_ ?_
 ·refine A 3 ?_;refine bD λd c=>cG (b.Out,a) rfl rfl (show _=some RV from by kernel_rfl) PA.ok rfl rfl (by simp) r c r<|?_
  exact B
 ·exact B

def AaK (a:Pj):List D:=[Uu a]
def AaJ (ds:List D):Pj:=XY (ds.getD 0 .top)
instance:PA AaK AaJ:=⟨λa=>by simp[AaJ,AaK]⟩
def Aod (b:Pj):D:=.clo 232 [.fptr (Uu b) 0]
def Aij:Dw.Spec:=Pd [] .val AaK AaJ (λa=>Abl a) Aod noE
theorem Anv:Pa Tryz.prog 208 Aij:=by
 refine fn2 1 (Py) Tryz.func208<|?_;intro a;unfold Abl;refine A 5 ?_;refine Qx (E:=[(1,.fptr (.agg [.sl (a.Out.map (eL Lo))]) 0)]) (O:=[]) ((hV 1 r (hY))) λnn=>?_
 refine A 2 ?_;refine mF (caps:=[.fptr (.agg [.sl (a.Out.map (eL Lo))]) 0]) r r (by simp[VC])<|?_
 exact B

def Wu (a:Int×Pj):List D:=[Av a.1,.fptr (Uu a.2) 0]
def Ws (ds:List D):Int×Pj:=(uI (ds.getD 0 .top),XY (fpD (ds.getD 1 .top)))
instance:PA Wu Ws:=⟨λa=>by simp[Ws,Wu,uI,fpD]⟩
def AdR:Dw.Spec:=Pd [] .val Wu Ws (λa=>Wc a.1 a.2) PL noE
theorem Ajn:Pa Tryz.prog 232 AdR:=by
 refine fn2 2 (Py) Tryz.func232<|?_;intro a;unfold Wc;exact B

def AhO:Dw.Spec:=Pd [] .ground WK WJ (λa=>Yd a.1 a.2) AhP noE
theorem Anb:Pa Tryz.prog 233 AhO:=by
 refine fn2 2 (Py) Tryz.func233<|?_;intro a;unfold Yd;exact B

def Tt (a:OW×OW):List D:=[Pu a.1,Pu a.2,.clo 233 []]
def Ts (ds:List D):OW×OW:=(RI (ds.getD 0 .top),RI (ds.getD 1 .top))
instance:PA Tt Ts:=⟨λa=>by simp[Ts,Tt]⟩
def AeV (b:OW×OW×OW):List D:=[Pu b.2.1,Pu b.2.2]
def TT:Dw.Spec:=Pd [(0,(8,201)),(1,(8,201))] (.ptr 8 201) Tt Ts (λa=>SG a.1 a.2) XJ AeV
theorem Aee:Pa Tryz.prog 182 TT:=by
 refine fn2 3 (Pe (l:=[(233,AhO)]) (by simp[Anb])) Tryz.func182<|?_
 rintro⟨d,e⟩;unfold SG;refine A 19 ?_;refine lP (E:=λ(s:OW×Int) (g:Nat)=>[(0,.optr 8192 0 0 0),(1,.optr 8193 1 0 0),(2,.clo 233 []),(7,.optr 10 g 0 0),(11,Av s.2)]) (O:=λs g=>[(10,dV g 8 201 (Pu s.1)),(8192,dV 0 8 201 (Pu d)),(8193,dV 1 8 201 (Pu e))]) (body:=λs=>Rb d e s.1 s.2) (s:=((OW.mk 0 0 0 0 0 0 0 0),0)) _ ((hX))<|?_
 rintro⟨b,a⟩ p nn
 try dsimp only
 unfold Rb;refine A 6 ?_;refine cD r ?_ ?_
 ·refine A 17 ?_;refine cK λhq=>UY r r r hq<|bD λf h=>Xr (q:=f) (l:=d.toList) (en:=AbP) (j:=a.toNat) (by simp) r r r h r (λ_=>r)<|?_
  refine A 3 ?_;refine cK λhq=>UY r r r hq<|bD λi k=>Xr (q:=i) (l:=e.toList) (en:=AbP) (j:=a.toNat) (by simp) r r r k r (λ_=>r)<|bD λc t=>?_
  refine A 2 ?_;refine cK λhq=>UY r r r hq<|bD λm o=>Apd (q:=m) (q':=c) (l:=b.toList) (en:=AbP) (j:=a.toNat) (z':=Pu (b.set a.toNat c)) (by simp) r r r r r o r r (congrArg (λl=>D.agg (l.map AbP)) (So b a.toNat c).symm)<|?_
  refine A 7 ?_;exact xL (s:=((b.set a.toNat c),i64.wrap (a+1))) _ ((hX))
 ·exact B

def AjA:Dw.Spec:=Pd [] .val Td Tc (λa=>Yc a.1 a.2) PL noE
theorem Aou:Pa Tryz.prog 210 AjA:=by
 refine fn2 2 (Pe (l:=[(181,UQ),(958646,TT),(184,Th)]) (by simp[VE,Aee,Us])) Tryz.func210<|?_
 rintro⟨d,e⟩;unfold Yc;refine A 8 ?_;refine bD λa f=>?_
 refine A 2 ?_;refine bD λb g=>?_
 refine A 1 ?_;refine bD λh c=>cP (a,b) rfl rfl (show _=some TT from by kernel_rfl) PA.ok rfl rfl (by simp) r c<|?_
 exact B

def TW (a:(List Int)×(List Int)×Pj×Int):List D:=[.sl (a.1.map Lo),.sl (a.2.1.map Lo),.fptr (Uu a.2.2.1) 0,.fptr (Av a.2.2.2) 0]
def TV (ds:List D):(List Int)×(List Int)×Pj×Int:=((uL uI) (ds.getD 0 .top),(uL uI) (ds.getD 1 .top),XY (fpD (ds.getD 2 .top)),uI (fpD (ds.getD 3 .top)))
instance:PA TW TV:=⟨λa=>by simp[TV,TW,uI,fpD,Qh (u:=uI) (en:=Lo) (λ_=>rfl)]⟩
def YK (b:Bool×(List Int)):D:=.bool b.1
def AgE (b:Bool×(List Int)):List D:=[.sl (b.2.map Lo)]
def YL:Dw.Spec:=Pd [(1,(1,41))] .val TW TV (λa=>Tq a.1 a.2.1 a.2.2.1 a.2.2.2) YK AgE
theorem Afz:Pa Tryz.prog 209 YL:=by
 refine fn2 4 (Pe (l:=[(210,AjA),(139,Yf)]) (by simp[Aou,Aec])) Tryz.func209<|?_
 rintro⟨b,c,d,e⟩;unfold Tq;refine A 12 ?_;refine bD λf g=>?_
 refine A 2 ?_;refine bD λh j=>?_
 refine A 1 ?_;refine bD λa k=>?_
 refine A 1 ?_;refine Ty (i:=0) (es':=[.sl (a.map Lo)]) r r r r r r r (by first|trivial|(simp;done)|(simp;omega)) r r r r r r<|?_
 exact B

def QV (a:Le×Int×Pj×(List Int)×Pj×Int):List D:=[Pl a.1,Av a.2.1,.clo 232 [.fptr (Uu a.2.2.1) 0],.clo 209 [.sl (a.2.2.2.1.map Lo),.fptr (Uu a.2.2.2.2.1) 0,.fptr (Av a.2.2.2.2.2) 0]]
def RY (ds:List D):Le×Int×Pj×(List Int)×Pj×Int:=(Sz (ds.getD 0 .top),uI (ds.getD 1 .top),XY (fpD (AnN (ds.getD 2 .top) 0)),(uL uI) (AnN (ds.getD 3 .top) 0),XY (fpD (AnN (ds.getD 3 .top) 1)),uI (fpD (AnN (ds.getD 3 .top) 2)))
instance:PA QV RY:=⟨λa=>by simp[RY,QV,uI,fpD,AnN,Qh (u:=uI) (en:=Lo) (λ_=>rfl)]⟩
def Abk (b:Bool×(List Int)):List D:=[.sl (b.2.map Lo)]
def Sr:Dw.Spec:=Pd [(256,(1,41))] .val QV RY (λa=>QL a.1 a.2.1 a.2.2.1 a.2.2.2.1 a.2.2.2.2.1 a.2.2.2.2.2) YK Abk
theorem AaH:Pa Tryz.prog 207 Sr:=by
 refine fn2 4 (Pe (l:=[(138,Acl),(232,AdR),(140,AfZ),(209,YL)]) (by simp[Aie,Ajn,Amf,Afz])) Tryz.func207<|?_
 rintro⟨b,j,c,f,d,e⟩;unfold QL;refine A 11 ?_;refine bD λa k=>?_
 refine A 6 ?_;refine lP (E:=λ(s:(List Int)×Int) (g:Nat×Nat)=>[(2,.clo 232 [.fptr (.agg [.sl (c.Out.map (eL Lo))]) 0]),(3,.clo 209 [.optr 8448 256 0 0,.fptr (.agg [.sl (d.Out.map (eL Lo))]) 0,.fptr (Av e) 0]),(4,.optr 4 g.1 0 0),(13,.osl 13 g.2 0 a.length),(14,Av (a.length:Int)),(15,Av s.2)]) (O:=λs g=>[(4,dV g.1 3 36 (Pl b)),(13,dW g.2 1 3 (a.map Lo)),(8448,dV 256 1 41 (.sl (s.1.map Lo)))]) (body:=λs=>Qd a b c d e s.1 s.2) (s:=(f,0)) (_,_) ((hX))<|?_
 rintro⟨m,h⟩ ⟨o,p⟩ nn
 try dsimp only
 unfold Qd;refine A 6 ?_;refine cD r ?_ ?_
 ·refine A 7 ?_;refine bD λq t=>?_
  refine A 10 ?_;refine bD λu v=>?_
  refine A 4 ?_;refine bD λw x=>?_
  refine A 1 ?_;refine bD λy z=>?_
  refine A 1 ?_;refine bD λi aa=>?_
  refine A 4 ?_;refine cD r ?_ ?_
  ·exact B
  ·refine A 7 ?_;exact xL (s:=(i.2,i64.wrap (h+1))) (_,_) ((hX))
 ·exact B

def XU (b:Int×Int×Bool):D:=.tup [Av b.1,Av b.2.1,.bool b.2.2]
def Ahr:Dw.Spec:=Pd [] .ground Ql Qk (λa=>Aad a.1 a.2) XU noE
theorem Amp:Pa Tryz.prog 187 Ahr:=by
 refine fn2 2 (Pe (l:=[(186,AaI),(208,Aij),(3524169935,Sr)]) (by simp[Afa,Anv,AaH])) Tryz.func187<|?_
 rintro⟨a,b⟩;unfold Aad;refine A 8 ?_;refine Qx (E:=[(2,.optr 2 _ 0 0),(3,.fptr (.agg [.sl (b.Out.map (eL Lo))]) 0)]) (O:=[(2,dV _ 3 36 (Pl a))]) ((hV 3 r (hY))) λnn=>?_
 refine A 5 ?_;refine bD λf h=>?_
 refine A 4 ?_;refine cD r ?_ ?_
 ·exact B
 ·refine A 12 ?_;refine lP (E:=λ(s:Int) (g:Nat)=>[(2,.optr 2 g 0 0),(3,.fptr (.agg [.sl (b.Out.map (eL Lo))]) 0),(15,Av (a.Code.length:Int)),(16,Av s)]) (O:=λ_ g=>[(2,dV g 3 36 (Pl a))]) (body:=λs=>AaG a b s) (s:=0) _ ((hX))<|?_
  rintro c i nn
  try dsimp only
  unfold AaG;refine A 6 ?_;refine cD r ?_ ?_
  ·refine A 10 ?_;refine Qx (E:=[(2,.optr 2 _ 0 0),(3,.fptr (.agg [.sl (b.Out.map (eL Lo))]) 0),(7,.fptr (Av c) 0),(15,Av (a.Code.length:Int)),(16,Av c)]) (O:=[(2,dV _ 3 36 (Pl a))]) ((hV 7 r (hY))) λnn=>?_
   refine A 10 ?_;refine bD λd j=>?_
   refine A 1 ?_;refine mF (caps:=[.optr 8 _ 0 0,.fptr (.agg [.sl (b.Out.map (eL Lo))]) 0,.fptr (Av c) 0]) r r (by simp[VC])<|bD λk e=>cV (a,c,d,[],b,c) rfl rfl (show _=some Sr from by kernel_rfl) PA.ok rfl rfl (by simp) (by first|rfl|(simp only[Mk];rfl)|(simp only[OV];rfl)|(simp only[Mk,OV];rfl)|simp[QV,Pl,Uu,Uu]) e<|?_
   refine A 9 ?_;refine cD r ?_ ?_
   ·exact B
   ·refine A 7 ?_;exact xL (s:=i64.wrap (c+1)) _ ((hX))
  ·exact B

def AbQ:Dw.Spec:=Pd [] .ground Ql Qk (λa=>Xd a.1 a.2) Pc noE
theorem AgD:Pa Tryz.prog 141 AbQ:=by
 refine fn2 2 (Pe (l:=[(186,AaI),(187,Ahr)]) (by simp[Afa,Amp])) Tryz.func141<|?_
 intro a;unfold Xd;exact B

def UX (a:OT×Int):List D:=[Pp a.1,Av a.2]
def UW (ds:List D):OT×Int:=(AeU (ds.getD 0 .top),uI (ds.getD 1 .top))
instance:PA UX UW:=⟨λa=>by simp[UW,UX,uI]⟩
def AeZ:Dw.Spec:=Pd [] .ground UX UW (λa=>Ve a.1 a.2) Pm noE
theorem AkJ:Pa Tryz.prog 105 AeZ:=by
 refine fn2 2 (Py) Tryz.func105<|?_;intro a;unfold Ve;exact B

def Vm (a:(List (List Bool))):List D:=[.sl (a.map (eL D.bool))]
def Vl (ds:List D):(List (List Bool)):=(uL (uL uBo)) (ds.getD 0 .top)
instance:PA Vm Vl:=⟨λa=>by simp[Vl,Vm,Qh (u:=(uL uBo)) (en:=(eL D.bool)) (Qh (u:=uBo) (en:=D.bool) (λ_=>rfl))]⟩
def Wq:Dw.Spec:=Pd [] .val Vm Vl (λa=>Tj a) Alf noE
theorem AaE:Pa Tryz.prog 144 Wq:=by
 refine fn2 1 (Py) Tryz.func144<|?_;intro a;unfold Tj;refine A 9 ?_;refine cK λhq=>Acv (α:=Int) r r r hq r<|?_
 refine A 2 ?_;refine Qx (E:=[(0,.sl (a.map (eL D.bool))),(3,.osl 4099 _ 0 ((aA (a.length:Int).toNat ([]:(List Int))).length))]) (O:=[(4099,dW _ 1 41 ((aA (a.length:Int).toNat ([]:(List Int))).map (eR 1 3 Lo)))]) ((Ahw (g:=3) (g2:=4099) r r r (AkH (l:=aA (a.length:Int).toNat ([]:(List Int))) (s':=1) (ty':=3) Lo (by decide) (λ_ h=>aAB h)) (hX))) λnn=>?_
 refine A 9 ?_;refine lP (E:=λ(s:(List (List Int))×Int) (g:Nat)=>[(3,.osl 4099 g 0 s.1.length),(11,.sl (a.map (eL D.bool))),(12,Av (a.length:Int)),(13,Av s.2)]) (O:=λs g=>[(4099,dW g 1 41 (s.1.map (eR 1 3 Lo)))]) (body:=λs=>VO a s.1 s.2) (s:=(aA (a.length:Int).toNat ([]:(List Int)),0)) _ ((hX))<|?_
 rintro⟨b,c⟩ k nn
 try dsimp only
 unfold VO;refine A 6 ?_;refine cD r ?_ ?_
 ·refine A 7 ?_;refine bD λe m=>?_
  refine A 14 ?_;refine lP (E:=λ(s:(List (List Int))×Int) (g:Nat)=>[(3,.osl 4099 g 0 s.1.length),(4,Av c),(11,.sl (a.map (eL D.bool))),(12,Av (a.length:Int)),(13,Av c),(18,.sl (e.map D.bool)),(19,Av (e.length:Int)),(20,Av s.2)]) (O:=λs g=>[(4099,dW g 1 41 (s.1.map (eR 1 3 Lo)))]) (body:=λs=>VP e c s.1 s.2) (s:=(b,0)) _ ((hX))<|?_
  rintro⟨f,i⟩ o nn
  try dsimp only
  unfold VP;refine A 6 ?_;refine cD r ?_ ?_
  ·refine A 7 ?_;refine bD λp t=>?_
   refine A 11 ?_;refine cD r ?_ ?_
   ·refine A 6 ?_;refine bD λd j=>Aqe (q:=d) Lo r r r j<|?_
    refine A 2 ?_;refine cK λhq=>Aqd (d) (([i]:List Int)) Lo r r r r r r r (by simp) (TI _ _ r) r r (by simp) (Rt _ _ r) (λ_=>r) r hq (λ_=>r)<|cK λhq=>Zx (by simp) r r r r (by simpa using hq)<|Agl (l:=f) (q:=d) (q':=d++([i]:List Int)) Lo rfl rfl rfl rfl (.inr ⟨_,_,_,rfl⟩) j rfl rfl ⟨⟨rfl,rfl,by simp,AaO λ_=>rfl⟩,trivial,rfl⟩ (congrArg (λz=>[D.row _ _ z]) (Rt _ _ rfl)) rfl<|?_
    exact B
   ·refine A 7 ?_;exact xL (s:=(f,i64.wrap (i+1))) _ ((hX))
  ·refine A 10 ?_;exact xL (s:=(f,i64.wrap (c+1))) _ ((hX))
 ·refine A 4 ?_;refine Qx (E:=[(3,.osl 4099 _ 0 b.length)]) (O:=[(4099,dW _ 1 41 (b.map (eL Lo)))]) ((AdP (g:=4099) r (AkI (l:=b) Lo (λ_=>r)) (hX))) λnn=>?_
  exact B

def AoD:Qe:=(Tryz.f142.body.bind (PX Tryz.prog Tryz.f142.ntmps)).getD .skip
theorem AsX:(Tryz.f142.body.bind (PX Tryz.prog Tryz.f142.ntmps))=some AoD:=by kernel_rfl
theorem AsY:Tryz.f142.results.toList.mapM (Ue Tryz.prog)=some [(.t 2)]:=by kernel_rfl

end
end Go.Proofs.YtilmapojncgflaaGreatDoor
