/-
  Programs on typed data, and the proofs that the code does what they say; written by a program (dx.py).
-/
import Derived.Test.YtgebpjgohchohaaProg
import Derived.Test.YtgebpjgohchohaaDd
import Derived.KernelRfl
import Derived.Test.YtgebpjgohchohaaSh
import Derived.Test.YtgebpjgohchohaaDxP
namespace Go.Proofs.Ytgebpjgohchohaa
open Go Go.Dw Go.Proofs
open Go.IntKind (i64)
set_option maxRecDepth 100000
set_option maxHeartbeats 40000000
open Go.Dw renaming PE -> bD,OU -> cK,Vn -> bS,UD -> aP,Rm -> sE,Tz -> iO,Vw -> mS,Vy -> cD,WE -> xC,Wo -> xL,Up -> hE,WG -> lP,Vs -> sC,XG -> mF,rf -> r
noncomputable section
def RD (a : Int) : List D:=[OH a]
def RC (ds : List D) : Int:=uI (ds.getD 0 .top)
theorem VY (a : Int) : RC (RD a) = a:=by simp [RC,RD,uI]
instance : PZ RD RC:=⟨VY⟩
def Ws (b : Bool) : D:=.bool b
def Uf : Dw.Spec:=ON [] .ground RD RC (λa=>SE a) Ws noE
theorem VZ : OM Try.prog 39 Uf:=by
 refine fn2 1 (Qp) Try.func39<|?_
 intro a
 unfold SE
 exact B

def Rh (a : OG × Int) : List D:=[OL a.1,OH a.2]
def Rf (ds : List D) : OG × Int:=(Un (ds.getD 0 .top),uI (ds.getD 1 .top))
theorem Xp (a : OG × Int) : Rf (Rh a) = a:=by simp [Rf,Rh,uI]
instance : PZ Rh Rf:=⟨Xp⟩
def XJ (b : (List Int)) : D:=.sl (b.map OK)
def Tx : Dw.Spec:=ON [] (.row 1 3) Rh Rf (λa=>Sn a.1 a.2) XJ noE
theorem Vm : OM Try.prog 27 Tx:=by
 refine fn2 2 (Pe (l:=[(39,Uf),(40,SZ),(41,Sr)]) (by simp [VZ,Uz,TY])) Try.func27<|?_
 rintro ⟨f1,k2⟩
 unfold Sn
 refine A 6 ?_
 refine sC (E:=λ(_s : Unit) (g : Nat)=>[(1,OH k2),(2,.optr 2 g 0 0)]) (O:=λ_ g=>[(2,dV g 3 27 (OL f1))]) (j:=λ_=>Th f1 k2) ?_ ?_
 ·exact B
 ·rintro ⟨⟩ v2x1 nn
  try dsimp only
  unfold Th
  refine A 10 ?_
  refine bD λx_x3 hx_x3=>?_
  refine A 6 ?_
  refine sC (E:=λ(s : (List Int)) (g : Nat × Nat)=>[(5,.osl 5 g.1 0 s.length),(6,.optr 6 g.2 0 0)]) (O:=λs g=>[(5,dW g.1 1 3 (s.map OK)),(6,dV g.2 5 43 (Pa x_x3))]) (j:=λs=>So x_x3 s) ?_ ?_
  ·exact B
  ·rintro l4 ⟨v5x2,v6x2⟩ nn
   try dsimp only
   unfold So
   exact B

def XV : Pf:=(.seq (.reg [M 5 0,P 6 (.ld 1 false (T 1)),P 7 (.len false (T 6)),P 8 (.bin .lss (T 5) (T 7)),M 9 8,⟨(some 10),(.ld 1 false (T 1)),(some ⟨9,true⟩),[]⟩,⟨(some 11),(.mv (T 0)),(some ⟨9,true⟩),[]⟩,⟨(some 12),(.ixA 1 (T 10) (T 11)),(some ⟨9,true⟩),[]⟩,⟨(some 13),(.ld 1 false (T 12)),(some ⟨9,true⟩),[]⟩,⟨(some 14),(.un .not (T 13)),(some ⟨9,true⟩),[]⟩,P 15 (.pick (T 9) (T 14) (.c (.bool false)))] false) (.cond (T 15) (.seq (.reg [P 16 (.ld 1 false (T 1)),M 17 0,P 18 (.ixA 1 (T 16) (T 17)),⟨none,(.st 1 (T 18) (.c (.bool true))),none,[]⟩] false) (.reg [M 19 0,P 20 (.ld 3 true (T 3)),M 21 0,P 22 (.call (.c (.clo 27 [])) [(T 20),(T 21)]),⟨(some 23),(.bld [(OH 0),.nils] [⟨0,⟨1,(T 19)⟩⟩,⟨1,⟨1,(T 22)⟩⟩]),none,[]⟩,P 24 (.call (.c (.clo 26 [])) [(T 2),(T 23)])] false)) .skip))
theorem YX : (Try.f25.body.bind (PD Try.prog Try.f25.ntmps)) = some XV:=by kernel_rfl
theorem YY : Try.f25.results.toList.mapM (RJ Try.prog) = some []:=by kernel_rfl

def XW : Pf:=(.seq (.reg [P 3 (.box (T 1) 2 56)] false) (.reg [M 4 0,M 5 0,⟨(some 6),(.nilck (T 5)),none,[1]⟩,⟨(some 7),(.fldA 0 (T 6)),none,[2]⟩,⟨(some 8),(.ld 1 false (T 7)),none,[3]⟩,P 9 (.ld 2 true (T 3)),⟨(some 10),(.bldS 2 56 (.agg [(OH 0),(.sl [])]) 1 [⟨0,(T 9)⟩]),none,[5]⟩,⟨(some 11),(.app 2 56 32 (T 8) (T 10)),none,[4,6]⟩,⟨(some 12),(.nilck (T 4)),none,[0,0,1,2,3,4,5,6,7]⟩,⟨(some 13),(.fldA 0 (T 12)),none,[8,0,1,2,3,4,5,6,7]⟩,⟨none,(.st 1 (T 13) (T 11)),none,[9,7,7,0,1,2,3,4,5,6,7]⟩] true))
theorem YZ : (Try.f26.body.bind (PD Try.prog Try.f26.ntmps)) = some XW:=by kernel_rfl
theorem Za : Try.f26.results.toList.mapM (RJ Try.prog) = some []:=by kernel_rfl

def Yn : Pf:=(.seq (.reg [P 2 (.asg (.c (.bool false)) none)] false) (.seq (.reg [M 3 0,P 4 (.nilck (T 3)),P 5 (.fldA 0 (T 4)),P 6 (.ld 1 false (T 5)),P 7 (.len false (T 6)),P 8 (.bin .eql (T 7) (C 0)),P 2 (.asg (T 8) none)] false) .ret))
theorem Zb : (Try.f28.body.bind (PD Try.prog Try.f28.ntmps)) = some Yn:=by kernel_rfl
theorem Zc : Try.f28.results.toList.mapM (RJ Try.prog) = some [(.t 2)]:=by kernel_rfl

def Yo : Pf:=(.seq (.reg [P 2 (.asg (.c .top) none)] false) (.seq (.reg [M 3 0,⟨(some 4),(.nilck (T 3)),none,[0]⟩,⟨(some 5),(.fldA 0 (T 4)),none,[1]⟩,⟨(some 6),(.ld 1 false (T 5)),none,[2]⟩,M 7 0,⟨(some 8),(.nilck (T 7)),none,[4]⟩,⟨(some 9),(.fldA 0 (T 8)),none,[5]⟩,⟨(some 10),(.ld 1 false (T 9)),none,[6]⟩,⟨(some 11),(.len false (T 10)),none,[7]⟩,⟨(some 12),(.bin .sub (T 11) (C 1)),none,[8]⟩,⟨(some 13),(.ixA 2 (T 6) (T 12)),none,[3,9]⟩,⟨(some 2),(.asg (T 13) none),none,[10,0,1,2,3,4,5,6,7,8,9,10]⟩] true) .ret))
theorem Zd : (Try.f29.body.bind (PD Try.prog Try.f29.ntmps)) = some Yo:=by kernel_rfl
theorem Ze : Try.f29.results.toList.mapM (RJ Try.prog) = some [(.t 2)]:=by kernel_rfl

def Yp : Pf:=(.reg [M 2 0,M 3 0,⟨(some 4),(.nilck (T 3)),none,[1]⟩,⟨(some 5),(.fldA 0 (T 4)),none,[2]⟩,⟨(some 6),(.ld 1 false (T 5)),none,[3]⟩,M 7 0,⟨(some 8),(.nilck (T 7)),none,[5]⟩,⟨(some 9),(.fldA 0 (T 8)),none,[6]⟩,⟨(some 10),(.ld 1 false (T 9)),none,[7]⟩,⟨(some 11),(.len false (T 10)),none,[8]⟩,⟨(some 12),(.bin .sub (T 11) (C 1)),none,[9]⟩,⟨(some 13),(.slc 2 (T 6) none (some (T 12))),none,[4,10]⟩,⟨(some 14),(.nilck (T 2)),none,[0,0,1,2,3,4,5,6,7,8,9,10,11]⟩,⟨(some 15),(.fldA 0 (T 14)),none,[12,0,1,2,3,4,5,6,7,8,9,10,11]⟩,⟨none,(.st 1 (T 15) (T 13)),none,[13,11,0,1,2,3,4,5,6,7,8,9,10,11]⟩] true)
theorem Zf : (Try.f30.body.bind (PD Try.prog Try.f30.ntmps)) = some Yp:=by kernel_rfl
theorem Zg : Try.f30.results.toList.mapM (RJ Try.prog) = some []:=by kernel_rfl

def Ph (a : OG) : List D:=[OL a]
def Pg (ds : List D) : OG:=Un (ds.getD 0 .top)
theorem Vu (a : OG) : Pg (Ph a) = a:=by simp [Pg,Ph]
instance : PZ Ph Pg:=⟨Vu⟩
def VW (b : (List Int)) : D:=.sl (b.map OK)
def RE : Dw.Spec:=ON [] .val Ph Pg (λa=>Qg a) VW noE
def RQ : Dw.Spec:=Tv (specs []) 2 [] XW
theorem UJ : OM Try.prog 26 RQ:=SW (Qp) Try.func26 (by decide) YZ Za (by decide)
def Tm : Dw.Spec:=Tv (specs []) 1 [(.t 2)] Yn
theorem UK : OM Try.prog 28 Tm:=SW (Qp) Try.func28 (by decide) Zb Zc (by decide)
def Tn : Dw.Spec:=Tv (specs []) 1 [(.t 2)] Yo
theorem UL : OM Try.prog 29 Tn:=SW (Qp) Try.func29 (by decide) Zd Ze (by decide)
def To : Dw.Spec:=Tv (specs []) 1 [] Yp
theorem UM : OM Try.prog 30 To:=SW (Qp) Try.func30 (by decide) Zf Zg (by decide)
def Tl : Dw.Spec:=Tv (specs [(27,Tx),(26,RQ)]) 4 [] XV
theorem UI : OM Try.prog 25 Tl:=SW (Pe (l:=[(27,Tx),(26,RQ)]) (by simp [Vm,UJ])) Try.func25 (by decide) YX YY (by decide)
theorem Sq : OM Try.prog 11 RE:=by
 refine fn2 1 (Pe (l:=[(25,Tl),(28,Tm),(29,Tn),(30,To),(31,Su)]) (by simp [UI,UK,UL,UM,TZ])) Try.func11<|?_
 intro f1
 unfold Qg
 refine A 5 ?_
 refine RO (E:=[(1,.fptr (OL f1) 0)]) (O:=[]) ((Xc (g:=1) r (by first | rfl | (simp [cells,frp,Sw,Pv]; done)) (hE ⟨(by first | rfl | (simp [PS,frp]; done) | (simp [PS,frp,Sw]; done) | (simp [PS,frp,Sw,nbq]; done) | (simp [PS,lkO,frp,Sw,frO]; done) | (simp [PS,lkO,frp,Sw,frO]; rfl) | (simp [PS,lkO,frp,Sw,frO,nbq]; done)),trivial⟩ trivial))) λnn=>?_
 refine A 5 ?_
 refine cK λhq=>mS (q:=false) D.bool r r r r hq r<|?_
 refine A 16 ?_
 refine mF (caps:=[.optr 3 _ 0 0,.optr 5 _ 0 0,.fptr (OL f1) 0]) r r (by simp [UC])<|?_
 refine A 7 ?_
 refine Sx (E:=λ(g : Nat × Nat × Nat × Nat × Nat)=>[(4,.osl 1004 g.2.1 0 (([] : List Int).length)),(5,.optr 1005 g.2.2.1 0 0),(6,.clo 25 [.optr 1003 g.1 0 0,.optr 1005 g.2.2.1 0 0,.fptr (OL f1) 0]),(14,.clo 25 [.optr 1003 g.1 0 0,.optr 1005 g.2.2.1 0 0,.fptr (OL f1) 0])]) (O:=λg=>[(1003,dV g.1 1 36 (.osl 1012 g.2.2.2.1 0 ((List.replicate (f1.Code.length : Int).toNat false).length))),(1004,dW g.2.1 1 3 (([] : List Int).map OK)),(1005,dV g.2.2.1 1 53 (.agg [.osl 1900 g.2.2.2.2 0 (([] : List Ed).length)])),(1012,dW g.2.2.2.1 1 4 ((List.replicate (f1.Code.length : Int).toNat false).map D.bool)),(1900,dW g.2.2.2.2 2 56 (([] : List Ed).map OI))]) (_,_,_,_,_) ((Xd (gg:=5) (off:=0) (tt:=900) (s:=2) (tyy:=56) r r r r (Pq (λg=>bif Nat.ble 4096 g then g + 20000 else g + 1000) (by rfl) (hE ⟨rfl,r,r,r,trivial⟩ ⟨rfl,r,r,r,r,trivial⟩))))<|?_
 rintro ⟨v1003x1,v1004x1,v1005x1,v1012x1,v1900x1⟩ nn
 try dsimp only
 refine WC (ES:=λ(_s : (List Bool) × (List Ed)) (g : Nat × Nat × Nat × Nat × Nat)=>[(4,.osl 4 g.2.1 0 (([] : List Int).length)),(5,.optr 5 g.2.2.1 0 0),(6,.clo 25 [.optr 3 g.1 0 0,.optr 5 g.2.2.1 0 0,.fptr (OL f1) 0]),(15,.tup [])]) (OS:=λs g=>[(3,dV g.1 1 36 (.osl 12 g.2.2.2.1 0 s.1.length)),(4,dW g.2.1 1 3 (([] : List Int).map OK)),(5,dV g.2.2.1 1 53 (.agg [.osl 602 g.2.2.2.2 0 s.2.length])),(12,dW g.2.2.2.1 1 4 (s.1.map D.bool)),(602,dW g.2.2.2.2 2 56 (s.2.map OI))]) (j:=λs=>PC f1 s.1 s.2) (ds:=[OH 0]) (caps:=[.optr 1003 v1003x1 0 0,.optr 1005 v1005x1 0 0,.fptr (OL f1) 0]) (E:=[(0,OH 0),(1,.optr 1003 v1003x1 0 0),(2,.optr 1005 v1005x1 0 0),(3,.fptr (OL f1) 0)]) r r r r r r r r ?_ ?_
 ·unfold XV
  refine sC (E:=λ(s : Bool) (_g : Unit)=>[(0,OH 0),(1,.optr 1003 v1003x1 0 0),(2,.optr 1005 v1005x1 0 0),(3,.fptr (OL f1) 0),(15,.bool s)]) (O:=λ_ _=>[(1003,dV v1003x1 1 36 (.osl 1012 v1012x1 0 ((List.replicate (f1.Code.length : Int).toNat false).length))),(1004,dW v1004x1 1 3 (([] : List Int).map OK)),(1005,dV v1005x1 1 53 (.agg [.osl 1900 v1900x1 0 (([] : List Ed).length)])),(1012,dW v1012x1 1 4 ((List.replicate (f1.Code.length : Int).toNat false).map D.bool)),(1900,dW v1900x1 2 56 (([] : List Ed).map OI))]) (j:=λs=>QC f1 s) ?_ ?_
  ·exact B
  ·rintro x4 ⟨⟩ nn
   try dsimp only
   unfold QC
   refine cD r ?_ ?_
   ·refine A 5 ?_
    refine bD λx_o6 hx_o6=>?_
    refine A 7 ?_
    refine bD λr7 hr7=>?_
    refine A 2 ?_
    refine Sx (E:=λ(g : Nat)=>[(2,.optr 2005 v1005x1 0 0),(23,.agg [OH 0,.osl 1022 g 0 r7.length])]) (O:=λg=>[(1022,dW g 1 3 (r7.map OK)),(2003,dV v1003x1 1 36 (.osl 2012 v1012x1 0 ((List.replicate (f1.Code.length : Int).toNat false).length))),(2004,dW v1004x1 1 3 (([] : List Int).map OK)),(2005,dV v1005x1 1 53 (.agg [.osl 2900 v1900x1 0 (([] : List Ed).length)])),(2012,dW v1012x1 1 4 (((List.replicate (f1.Code.length : Int).toNat false).set ((0 : Int).toNat) true).map D.bool)),(2900,dW v1900x1 2 56 (([] : List Ed).map OI))]) _ ((Pq (λg=>bif Nat.ble 4096 g then g + 20000 else g + 1000) (by rfl) (hE ⟨rfl,r,trivial⟩ ⟨rfl,(Eq.trans (b:=dV _ 1 36 (.osl 2012 _ 0 ((List.replicate (f1.Code.length : Int).toNat false).length))) r (by simp)),r,r,r,r,trivial⟩)))<|?_
    rintro v1022x3 nn
    try dsimp only
    refine Td (ds:=[.optr 2005 v1005x1 0 0,.agg [OH 0,.osl 1022 v1022x3 0 r7.length]]) (caps:=[]) (E:=[(0,.optr 2005 v1005x1 0 0),(1,.agg [OH 0,.osl 1022 v1022x3 0 r7.length])]) r r r r r r r r<|?_
    unfold XW
    refine A 12 ?_
    refine bS ([(Ed.mk 0 r7)] : List Ed) OI r r r (by simp) r (by simp [Rc,OI] <;> rfl) r<|?_
    refine A 5 ?_
    refine TN (d:=.tup []) (E:=[(24,.tup [])]) (O:=[(621,dW _ 2 56 ((([] : List Ed) ++ ([(Ed.mk 0 r7)] : List Ed)).map OI)),(1003,dV v1003x1 1 36 (.osl 1012 v1012x1 0 ((List.replicate (f1.Code.length : Int).toNat false).length))),(1004,dW v1004x1 1 3 (([] : List Int).map OK)),(1005,dV v1005x1 1 53 (.agg [.osl 621 _ 0 ((([] : List Ed) ++ ([(Ed.mk 0 r7)] : List Ed)).length)])),(1012,dW v1012x1 1 4 (((List.replicate (f1.Code.length : Int).toNat false).set ((0 : Int).toNat) true).map D.bool))]) r (by first | rfl | (simp [OX,OO,rdA,raw,strip,OT,cells,OR]; done) | (simp [OX,OO,rdA,raw,strip,OT,S.ge,S.go,look,Te,cells,OR]; done)) r ((QS (E1:=[(24,.tup [])]) (O1:=[(11,dW _ 2 56 ((([] : List Ed) ++ ([(Ed.mk 0 r7)] : List Ed)).map OI)),(2003,dV v1003x1 1 36 (.osl 2012 v1012x1 0 ((List.replicate (f1.Code.length : Int).toNat false).length))),(2004,dW v1004x1 1 3 (([] : List Int).map OK)),(2005,dV v1005x1 1 53 (.agg [.osl 11 _ 0 ((([] : List Ed) ++ ([(Ed.mk 0 r7)] : List Ed)).length)])),(2012,dW v1012x1 1 4 (((List.replicate (f1.Code.length : Int).toNat false).set ((0 : Int).toNat) true).map D.bool))]) (hE ⟨rfl,trivial⟩ ⟨rfl,(Eq.trans (b:=dV _ 1 36 (.osl 2012 _ 0 ((List.replicate (f1.Code.length : Int).toNat false).length))) r (by simp)),r,r,r,trivial⟩) (λ_=>Pq (λg=>bif Nat.ble 24096 g then g - 20000 else bif (Nat.ble 1000 g && Nat.blt g 4096) then g - 1000 else bif Nat.beq g 11 then 621 else g) (by rfl) (hE ⟨rfl,trivial⟩ ⟨rfl,(Eq.trans (b:=dV _ 1 36 (.osl 1012 _ 0 ((List.replicate (f1.Code.length : Int).toNat false).length))) r (by simp)),r,r,r,trivial⟩)))) λnn=>?_
    refine A 1 ?_
    exact TX (d:=.tup []) (s:=((List.replicate (f1.Code.length : Int).toNat false).set ((0 : Int).toNat) true,([] : List Ed) ++ ([(Ed.mk 0 r7)] : List Ed))) (_,_,_,_,_) r (by first | rfl | (simp [OX,OO,rdA,raw,strip,OT,cells,OR]; done) | (simp [OX,OO,rdA,raw,strip,OT,S.ge,S.go,look,Te,cells,OR]; done)) r ((QS (E1:=[(4,.osl 1004 v1004x1 0 (([] : List Int).length)),(5,.optr 1005 v1005x1 0 0),(6,.clo 25 [.optr 1003 v1003x1 0 0,.optr 1005 v1005x1 0 0,.fptr (OL f1) 0]),(15,.tup [])]) (O1:=[(621,dW _ 2 56 ((([] : List Ed) ++ ([(Ed.mk 0 r7)] : List Ed)).map OI)),(1003,dV v1003x1 1 36 (.osl 1012 v1012x1 0 ((List.replicate (f1.Code.length : Int).toNat false).length))),(1004,dW v1004x1 1 3 (([] : List Int).map OK)),(1005,dV v1005x1 1 53 (.agg [.osl 621 _ 0 ((([] : List Ed) ++ ([(Ed.mk 0 r7)] : List Ed)).length)])),(1012,dW v1012x1 1 4 (((List.replicate (f1.Code.length : Int).toNat false).set ((0 : Int).toNat) true).map D.bool))]) (hE ⟨rfl,r,r,r,trivial⟩ ⟨rfl,(Eq.trans (b:=dV _ 1 36 (.osl 1012 _ 0 ((List.replicate (f1.Code.length : Int).toNat false).length))) r (by simp)),r,r,r,trivial⟩) (λ_=>Pq (λg=>bif Nat.ble 24096 g then g - 20000 else bif (Nat.ble 1000 g && Nat.blt g 4096) then g - 1000 else bif Nat.beq g 621 then 602 else g) (by rfl) (hE ⟨rfl,r,r,r,trivial⟩ ⟨(Eq.trans (b:=dV _ 1 36 (.osl 12 _ 0 ((List.replicate (f1.Code.length : Int).toNat false).length))) r (by simp)),r,r,r,r,trivial⟩))))
   ·refine A 1 ?_
    exact TX (d:=.tup []) (s:=(List.replicate (f1.Code.length : Int).toNat false,([] : List Ed))) (_,_,_,_,_) r (by first | rfl | (simp [OX,OO,rdA,raw,strip,OT,cells,OR]; done) | (simp [OX,OO,rdA,raw,strip,OT,S.ge,S.go,look,Te,cells,OR]; done)) r ((QS (E1:=[(4,.osl 1004 v1004x1 0 (([] : List Int).length)),(5,.optr 1005 v1005x1 0 0),(6,.clo 25 [.optr 1003 v1003x1 0 0,.optr 1005 v1005x1 0 0,.fptr (OL f1) 0]),(15,.tup [])]) (O1:=[(1003,dV v1003x1 1 36 (.osl 1012 v1012x1 0 ((List.replicate (f1.Code.length : Int).toNat false).length))),(1004,dW v1004x1 1 3 (([] : List Int).map OK)),(1005,dV v1005x1 1 53 (.agg [.osl 1900 v1900x1 0 (([] : List Ed).length)])),(1012,dW v1012x1 1 4 ((List.replicate (f1.Code.length : Int).toNat false).map D.bool)),(1900,dW v1900x1 2 56 (([] : List Ed).map OI))]) (hE ⟨rfl,r,r,r,trivial⟩ ⟨rfl,r,r,r,r,trivial⟩) (λ_=>Pq (λg=>bif Nat.beq g 1900 then 602 else bif Nat.ble 24096 g then g - 20000 else bif (Nat.ble 1000 g && Nat.blt g 4096) then g - 1000 else g) (by rfl) (hE ⟨rfl,r,r,r,trivial⟩ ⟨rfl,r,r,r,r,trivial⟩))))
 ·rintro ⟨x2,x3⟩ ⟨v3x4,v4x4,v5x4,v12x4,v602x4⟩ nn
  try dsimp only
  unfold PC
  refine A 3 ?_
  refine lP (E:=λ(s : (List Bool) × (List Int) × (List Ed)) (g : Nat × Nat × Nat × Nat × Nat)=>[(4,.osl 4 g.2.1 0 s.2.1.length),(5,.optr 5 g.2.2.1 0 0),(6,.clo 25 [.optr 3 g.1 0 0,.optr 5 g.2.2.1 0 0,.fptr (OL f1) 0])]) (O:=λs g=>[(3,dV g.1 1 36 (.osl 12 g.2.2.2.1 0 s.1.length)),(4,dW g.2.1 1 3 (s.2.1.map OK)),(5,dV g.2.2.1 1 53 (.agg [.osl 602 g.2.2.2.2 0 s.2.2.length])),(12,dW g.2.2.2.1 1 4 (s.1.map D.bool)),(602,dW g.2.2.2.2 2 56 (s.2.2.map OI))]) (body:=λs=>Rx f1 s.1 s.2.1 s.2.2) (s:=(x2,([] : List Int),x3)) (_,_,_,_,_) ((hE ⟨rfl,r,r,trivial⟩ ⟨rfl,r,r,r,r,trivial⟩))<|?_
  rintro ⟨x8,out9,x10⟩ ⟨v3x5,v4x5,v5x5,v12x5,v602x5⟩ nn
  try dsimp only
  unfold Rx
  refine A 3 ?_
  refine Sx (E:=λ(g : Nat × Nat × Nat × Nat × Nat)=>[(4,.osl 1004 g.2.1 0 out9.length),(5,.optr 1005 g.2.2.1 0 0),(6,.clo 25 [.optr 1003 g.1 0 0,.optr 1005 g.2.2.1 0 0,.fptr (OL f1) 0])]) (O:=λg=>[(1003,dV g.1 1 36 (.osl 1012 g.2.2.2.1 0 x8.length)),(1004,dW g.2.1 1 3 (out9.map OK)),(1005,dV g.2.2.1 1 53 (.agg [.osl 1602 g.2.2.2.2 0 x10.length])),(1012,dW g.2.2.2.1 1 4 (x8.map D.bool)),(1602,dW g.2.2.2.2 2 56 (x10.map OI))]) (_,_,_,_,_) ((Pq (λg=>bif Nat.ble 4096 g then g + 20000 else g + 1000) (by rfl) (hE ⟨rfl,r,r,trivial⟩ ⟨rfl,r,r,r,r,trivial⟩)))<|?_
  rintro ⟨v1003x6,v1004x6,v1005x6,v1012x6,v1602x6⟩ nn
  try dsimp only
  refine Td (ds:=[.optr 1005 v1005x6 0 0]) (caps:=[]) (E:=[(0,.optr 1005 v1005x6 0 0)]) r r r r r r r r<|?_
  unfold Yn
  refine A 17 ?_
  refine TN (d:=.bool ((x10.length : Int) == 0)) (E:=[(4,.osl 4 _ 0 out9.length),(5,.optr 5 _ 0 0),(6,.clo 25 [.optr 3 _ 0 0,.optr 5 _ 0 0,.fptr (OL f1) 0]),(16,.bool ((x10.length : Int) == 0))]) (O:=[(3,dV _ 1 36 (.osl 12 _ 0 x8.length)),(4,dW _ 1 3 (out9.map OK)),(5,dV _ 1 53 (.agg [.osl 602 _ 0 x10.length])),(12,dW _ 1 4 (x8.map D.bool)),(602,dW _ 2 56 (x10.map OI))]) r (by first | rfl | (simp [OX,OO,rdA,raw,strip,OT,cells,OR]; done) | (simp [OX,OO,rdA,raw,strip,OT,S.ge,S.go,look,Te,cells,OR]; done)) r ((QS (E1:=[(4,.osl 1004 v1004x6 0 out9.length),(5,.optr 1005 v1005x6 0 0),(6,.clo 25 [.optr 1003 v1003x6 0 0,.optr 1005 v1005x6 0 0,.fptr (OL f1) 0]),(16,.bool ((x10.length : Int) == 0))]) (O1:=[(1003,dV v1003x6 1 36 (.osl 1012 v1012x6 0 x8.length)),(1004,dW v1004x6 1 3 (out9.map OK)),(1005,dV v1005x6 1 53 (.agg [.osl 1602 v1602x6 0 x10.length])),(1012,dW v1012x6 1 4 (x8.map D.bool)),(1602,dW v1602x6 2 56 (x10.map OI))]) (hE ⟨rfl,r,r,r,trivial⟩ ⟨rfl,r,r,r,r,trivial⟩) (λ_=>Pq (λg=>bif Nat.ble 24096 g then g - 20000 else bif (Nat.ble 1000 g && Nat.blt g 4096) then g - 1000 else g) (by rfl) (hE ⟨rfl,r,r,r,trivial⟩ ⟨rfl,r,r,r,r,trivial⟩)))) λnn=>?_
  refine A 3 ?_
  refine cD r ?_ ?_
  ·refine A 5 ?_
   refine Sx (E:=λ(g : Nat × Nat × Nat × Nat × Nat)=>[(4,.osl 1004 g.2.1 0 out9.length),(5,.optr 1005 g.2.2.1 0 0),(6,.clo 25 [.optr 1003 g.1 0 0,.optr 1005 g.2.2.1 0 0,.fptr (OL f1) 0])]) (O:=λg=>[(1003,dV g.1 1 36 (.osl 1012 g.2.2.2.1 0 x8.length)),(1004,dW g.2.1 1 3 (out9.map OK)),(1005,dV g.2.2.1 1 53 (.agg [.osl 1602 g.2.2.2.2 0 x10.length])),(1012,dW g.2.2.2.1 1 4 (x8.map D.bool)),(1602,dW g.2.2.2.2 2 56 (x10.map OI))]) (_,_,_,_,_) ((Pq (λg=>bif Nat.ble 4096 g then g + 20000 else g + 1000) (by rfl) (hE ⟨rfl,r,r,trivial⟩ ⟨rfl,r,r,r,r,trivial⟩)))<|?_
   rintro ⟨v1003x7,v1004x7,v1005x7,v1012x7,v1602x7⟩ nn
   try dsimp only
   refine Td (ds:=[.optr 1005 v1005x7 0 0]) (caps:=[]) (E:=[(0,.optr 1005 v1005x7 0 0)]) r r r r r r r r<|?_
   unfold Yo
   refine A 17 ?_
   refine cK λhq=>iO (l:=x10) (en:=OI) r r r r r hq<|?_
   refine A 4 ?_
   refine TN (d:=.optr 1602 v1602x7 ((i64.wrap ((x10.length : Int) - 1)).toNat) 0) (E:=[(4,.osl 4 _ 0 out9.length),(5,.optr 5 _ 0 0),(6,.clo 25 [.optr 3 _ 0 0,.optr 5 _ 0 0,.fptr (OL f1) 0]),(18,.optr 602 _ ((i64.wrap ((x10.length : Int) - 1)).toNat) 0)]) (O:=[(3,dV _ 1 36 (.osl 12 _ 0 x8.length)),(4,dW _ 1 3 (out9.map OK)),(5,dV _ 1 53 (.agg [.osl 602 _ 0 x10.length])),(12,dW _ 1 4 (x8.map D.bool)),(602,dW _ 2 56 (x10.map OI))]) r (by first | rfl | (simp [OX,OO,rdA,raw,strip,OT,cells,OR]; done) | (simp [OX,OO,rdA,raw,strip,OT,S.ge,S.go,look,Te,cells,OR]; done)) r ((QS (E1:=[(4,.osl 1004 v1004x7 0 out9.length),(5,.optr 1005 v1005x7 0 0),(6,.clo 25 [.optr 1003 v1003x7 0 0,.optr 1005 v1005x7 0 0,.fptr (OL f1) 0]),(18,.optr 1602 v1602x7 ((i64.wrap ((x10.length : Int) - 1)).toNat) 0)]) (O1:=[(1003,dV v1003x7 1 36 (.osl 1012 v1012x7 0 x8.length)),(1004,dW v1004x7 1 3 (out9.map OK)),(1005,dV v1005x7 1 53 (.agg [.osl 1602 v1602x7 0 x10.length])),(1012,dW v1012x7 1 4 (x8.map D.bool)),(1602,dW v1602x7 2 56 (x10.map OI))]) (hE ⟨rfl,r,r,r,trivial⟩ ⟨rfl,r,r,r,r,trivial⟩) (λ_=>Pq (λg=>bif Nat.ble 24096 g then g - 20000 else bif (Nat.ble 1000 g && Nat.blt g 4096) then g - 1000 else g) (by rfl) (hE ⟨rfl,r,r,r,trivial⟩ ⟨rfl,r,r,r,r,trivial⟩)))) λnn=>?_
   refine A 9 ?_
   refine bD λx_e11 hx_e11=>?_
   refine A 5 ?_
   refine cD r ?_ ?_
   ·refine A 6 ?_
    refine bD λx_e12 hx_e12=>?_
    refine A 2 ?_
    refine cK λhq=>aP (out9) (([x_e12.k] : List Int)) OK r r r r r r r (by simp) (PX _ _ r) r r (by simp) (PY _ _ r) (λ_=>r) r hq<|?_
    refine A 5 ?_
    refine Sx (E:=λ(g : Nat × Nat × Nat × Nat × Nat)=>[(4,.osl 1004 g.2.1 0 ((out9 ++ ([x_e12.k] : List Int)).length)),(5,.optr 1005 g.2.2.1 0 0),(6,.clo 25 [.optr 1003 g.1 0 0,.optr 1005 g.2.2.1 0 0,.fptr (OL f1) 0])]) (O:=λg=>[(1003,dV g.1 1 36 (.osl 1012 g.2.2.2.1 0 x8.length)),(1004,dW g.2.1 1 3 ((out9 ++ ([x_e12.k] : List Int)).map OK)),(1005,dV g.2.2.1 1 53 (.agg [.osl 1602 g.2.2.2.2 0 x10.length])),(1012,dW g.2.2.2.1 1 4 (x8.map D.bool)),(1602,dW g.2.2.2.2 2 56 (x10.map OI))]) (_,_,_,_,_) ((Pq (λg=>bif Nat.ble 4096 g then g + 20000 else g + 1000) (by rfl) (hE ⟨rfl,r,r,trivial⟩ ⟨rfl,r,r,r,r,trivial⟩)))<|?_
    rintro ⟨v1003x8,v1004x8,v1005x8,v1012x8,v1602x8⟩ nn
    try dsimp only
    refine Td (ds:=[.optr 1005 v1005x8 0 0]) (caps:=[]) (E:=[(0,.optr 1005 v1005x8 0 0)]) r r r r r r r r<|?_
    unfold Yp
    refine A 12 ?_
    refine cK λhq=>RF (l:=x10) r r r r r r hq<|?_
    refine A 4 ?_
    refine TN (d:=.tup []) (E:=[(4,.osl 4 _ 0 ((out9 ++ ([x_e12.k] : List Int)).length)),(5,.optr 5 _ 0 0),(6,.clo 25 [.optr 3 _ 0 0,.optr 5 _ 0 0,.fptr (OL f1) 0]),(32,.tup [])]) (O:=[(3,dV _ 1 36 (.osl 12 _ 0 x8.length)),(4,dW _ 1 3 ((out9 ++ ([x_e12.k] : List Int)).map OK)),(5,dV _ 1 53 (.agg [.osl 602 _ 0 ((x10.take ((i64.wrap ((x10.length : Int) - 1)).toNat)).length)])),(12,dW _ 1 4 (x8.map D.bool)),(602,dW _ 2 56 ((x10.take ((i64.wrap ((x10.length : Int) - 1)).toNat)).map OI))]) r (by first | rfl | (simp [OX,OO,rdA,raw,strip,OT,cells,OR]; done) | (simp [OX,OO,rdA,raw,strip,OT,S.ge,S.go,look,Te,cells,OR]; done)) r ((WM (gw:=1005) (off:=0) (gg:=1602) (k:=(i64.wrap ((x10.length : Int) - 1)).toNat) (l:=x10) (en:=OI) r r r (by omega) r (QS (E1:=[(4,.osl 1004 v1004x8 0 ((out9 ++ ([x_e12.k] : List Int)).length)),(5,.optr 1005 v1005x8 0 0),(6,.clo 25 [.optr 1003 v1003x8 0 0,.optr 1005 v1005x8 0 0,.fptr (OL f1) 0]),(32,.tup [])]) (O1:=[(1003,dV v1003x8 1 36 (.osl 1012 v1012x8 0 x8.length)),(1004,dW v1004x8 1 3 ((out9 ++ ([x_e12.k] : List Int)).map OK)),(1005,dV v1005x8 1 53 (.agg [.osl 1602 v1602x8 0 ((x10.take ((i64.wrap ((x10.length : Int) - 1)).toNat)).length)])),(1012,dW v1012x8 1 4 (x8.map D.bool)),(1602,dW v1602x8 2 56 ((x10.take ((i64.wrap ((x10.length : Int) - 1)).toNat)).map OI))]) (hE ⟨rfl,r,r,r,trivial⟩ ⟨rfl,r,r,r,r,trivial⟩) (λ_=>Pq (λg=>bif Nat.ble 24096 g then g - 20000 else bif (Nat.ble 1000 g && Nat.blt g 4096) then g - 1000 else g) (by rfl) (hE ⟨rfl,r,r,r,trivial⟩ ⟨rfl,r,r,r,r,trivial⟩))))) λnn=>?_
    exact B
   ·refine A 7 ?_
    refine bD λx_e13 hx_e13=>?_
    refine A 1 ?_
    refine bD λx_x14 hx_x14=>?_
    refine A 11 ?_
    refine bD λx_e15 hx_e15=>?_
    refine A 4 ?_
    refine bD λx_o16 hx_o16=>sE (l:=x10) (en:=OI) (q':=(Ed.mk x_o16.k (x_e15.rest.drop (1 : Int).toNat))) r r r r r r r (by simp) hx_o16 r r r r r<|?_
    refine A 5 ?_
    refine Sx (E:=λ(g : Nat × Nat × Nat × Nat × Nat)=>[(4,.osl 1004 g.2.1 0 out9.length),(5,.optr 1005 g.2.2.1 0 0),(6,.clo 25 [.optr 1003 g.1 0 0,.optr 1005 g.2.2.1 0 0,.fptr (OL f1) 0]),(47,.clo 25 [.optr 1003 g.1 0 0,.optr 1005 g.2.2.1 0 0,.fptr (OL f1) 0]),(48,OH x_x14)]) (O:=λg=>[(1003,dV g.1 1 36 (.osl 1012 g.2.2.2.1 0 x8.length)),(1004,dW g.2.1 1 3 (out9.map OK)),(1005,dV g.2.2.1 1 53 (.agg [.osl 1602 g.2.2.2.2 0 x10.length])),(1012,dW g.2.2.2.1 1 4 (x8.map D.bool)),(1602,dW g.2.2.2.2 2 56 ((x10.set ((i64.wrap ((x10.length : Int) - 1)).toNat) (Ed.mk x_o16.k (x_e15.rest.drop (1 : Int).toNat))).map OI))]) (_,_,_,_,_) ((Pq (λg=>bif Nat.ble 4096 g then g + 20000 else g + 1000) (by rfl) (hE ⟨rfl,r,r,r,r,trivial⟩ ⟨rfl,r,(Eq.trans (b:=dV _ 1 53 (.agg [.osl 1602 _ 0 x10.length])) r (by simp)),r,r,trivial⟩)))<|?_
    rintro ⟨v1003x9,v1004x9,v1005x9,v1012x9,v1602x9⟩ nn
    try dsimp only
    refine WC (ES:=λ(_s : (List Bool) × (List Ed)) (g : Nat × Nat × Nat × Nat × Nat)=>[(4,.osl 4 g.2.1 0 out9.length),(5,.optr 5 g.2.2.1 0 0),(6,.clo 25 [.optr 3 g.1 0 0,.optr 5 g.2.2.1 0 0,.fptr (OL f1) 0]),(49,.tup [])]) (OS:=λs g=>[(3,dV g.1 1 36 (.osl 12 g.2.2.2.1 0 s.1.length)),(4,dW g.2.1 1 3 (out9.map OK)),(5,dV g.2.2.1 1 53 (.agg [.osl 624 g.2.2.2.2 0 s.2.length])),(12,dW g.2.2.2.1 1 4 (s.1.map D.bool)),(624,dW g.2.2.2.2 2 56 (s.2.map OI))]) (j:=λs=>PG out9 s.1 s.2) (ds:=[OH x_x14]) (caps:=[.optr 1003 v1003x9 0 0,.optr 1005 v1005x9 0 0,.fptr (OL f1) 0]) (E:=[(0,OH x_x14),(1,.optr 1003 v1003x9 0 0),(2,.optr 1005 v1005x9 0 0),(3,.fptr (OL f1) 0)]) r r r r r r r r ?_ ?_
    ·unfold XV
     refine sC (E:=λ(s : Bool) (_g : Unit)=>[(0,OH x_x14),(1,.optr 1003 v1003x9 0 0),(2,.optr 1005 v1005x9 0 0),(3,.fptr (OL f1) 0),(15,.bool s)]) (O:=λ_ _=>[(1003,dV v1003x9 1 36 (.osl 1012 v1012x9 0 x8.length)),(1004,dW v1004x9 1 3 (out9.map OK)),(1005,dV v1005x9 1 53 (.agg [.osl 1602 v1602x9 0 ((x10.set ((i64.wrap ((x10.length : Int) - 1)).toNat) (Ed.mk x_o16.k (x_e15.rest.drop (1 : Int).toNat))).length)])),(1012,dW v1012x9 1 4 (x8.map D.bool)),(1602,dW v1602x9 2 56 ((x10.set ((i64.wrap ((x10.length : Int) - 1)).toNat) (Ed.mk x_o16.k (x_e15.rest.drop (1 : Int).toNat))).map OI))]) (j:=λs=>QD x_x14 x8 f1 x10 x_o16 x_e15 out9 s) ?_ ?_
     ·refine A 6 ?_
      refine UB r ?_ ?_
      ·refine A 3 ?_
       refine bD λx_e20 hx_e20=>?_
       refine A 4 ?_
       exact xC (s:=(!x_e20)) () ((hE ⟨rfl,r,r,r,r,trivial⟩ ⟨rfl,r,(Eq.trans (b:=dV _ 1 53 (.agg [.osl 1602 _ 0 x10.length])) r (by simp)),r,r,trivial⟩))
      ·refine A 7 ?_
       exact xC (s:=false) () ((hE ⟨rfl,r,r,r,r,trivial⟩ ⟨rfl,r,(Eq.trans (b:=dV _ 1 53 (.agg [.osl 1602 _ 0 x10.length])) r (by simp)),r,r,trivial⟩))
     ·rintro x19 ⟨⟩ nn
      try dsimp only
      unfold QD
      refine cD r ?_ ?_
      ·refine A 5 ?_
       refine bD λx_o21 hx_o21=>?_
       refine A 7 ?_
       refine bD λr22 hr22=>?_
       refine A 2 ?_
       refine Sx (E:=λ(g : Nat)=>[(2,.optr 2005 v1005x9 0 0),(23,.agg [OH x_x14,.osl 1022 g 0 r22.length])]) (O:=λg=>[(1022,dW g 1 3 (r22.map OK)),(2003,dV v1003x9 1 36 (.osl 2012 v1012x9 0 x8.length)),(2004,dW v1004x9 1 3 (out9.map OK)),(2005,dV v1005x9 1 53 (.agg [.osl 2602 v1602x9 0 ((x10.set ((i64.wrap ((x10.length : Int) - 1)).toNat) (Ed.mk x_o16.k (x_e15.rest.drop (1 : Int).toNat))).length)])),(2012,dW v1012x9 1 4 ((x8.set x_x14.toNat true).map D.bool)),(2602,dW v1602x9 2 56 ((x10.set ((i64.wrap ((x10.length : Int) - 1)).toNat) (Ed.mk x_o16.k (x_e15.rest.drop (1 : Int).toNat))).map OI))]) _ ((Pq (λg=>bif Nat.ble 4096 g then g + 20000 else g + 1000) (by rfl) (hE ⟨rfl,r,trivial⟩ ⟨rfl,(Eq.trans (b:=dV _ 1 36 (.osl 2012 _ 0 x8.length)) r (by simp)),r,r,r,r,trivial⟩)))<|?_
       rintro v1022x11 nn
       try dsimp only
       refine Td (ds:=[.optr 2005 v1005x9 0 0,.agg [OH x_x14,.osl 1022 v1022x11 0 r22.length]]) (caps:=[]) (E:=[(0,.optr 2005 v1005x9 0 0),(1,.agg [OH x_x14,.osl 1022 v1022x11 0 r22.length])]) r r r r r r r r<|?_
       unfold XW
       refine A 12 ?_
       refine bS ([(Ed.mk x_x14 r22)] : List Ed) OI r r r (by simp) r (by simp [Rc,OI] <;> rfl) r<|?_
       refine A 5 ?_
       refine TN (d:=.tup []) (E:=[(24,.tup [])]) (O:=[(643,dW _ 2 56 (((x10.set ((i64.wrap ((x10.length : Int) - 1)).toNat) (Ed.mk x_o16.k (x_e15.rest.drop (1 : Int).toNat))) ++ ([(Ed.mk x_x14 r22)] : List Ed)).map OI)),(1003,dV v1003x9 1 36 (.osl 1012 v1012x9 0 x8.length)),(1004,dW v1004x9 1 3 (out9.map OK)),(1005,dV v1005x9 1 53 (.agg [.osl 643 _ 0 (((x10.set ((i64.wrap ((x10.length : Int) - 1)).toNat) (Ed.mk x_o16.k (x_e15.rest.drop (1 : Int).toNat))) ++ ([(Ed.mk x_x14 r22)] : List Ed)).length)])),(1012,dW v1012x9 1 4 ((x8.set x_x14.toNat true).map D.bool))]) r (by first | rfl | (simp [OX,OO,rdA,raw,strip,OT,cells,OR]; done) | (simp [OX,OO,rdA,raw,strip,OT,S.ge,S.go,look,Te,cells,OR]; done)) r ((QS (E1:=[(24,.tup [])]) (O1:=[(11,dW _ 2 56 (((x10.set ((i64.wrap ((x10.length : Int) - 1)).toNat) (Ed.mk x_o16.k (x_e15.rest.drop (1 : Int).toNat))) ++ ([(Ed.mk x_x14 r22)] : List Ed)).map OI)),(2003,dV v1003x9 1 36 (.osl 2012 v1012x9 0 x8.length)),(2004,dW v1004x9 1 3 (out9.map OK)),(2005,dV v1005x9 1 53 (.agg [.osl 11 _ 0 (((x10.set ((i64.wrap ((x10.length : Int) - 1)).toNat) (Ed.mk x_o16.k (x_e15.rest.drop (1 : Int).toNat))) ++ ([(Ed.mk x_x14 r22)] : List Ed)).length)])),(2012,dW v1012x9 1 4 ((x8.set x_x14.toNat true).map D.bool))]) (hE ⟨rfl,trivial⟩ ⟨rfl,(Eq.trans (b:=dV _ 1 36 (.osl 2012 _ 0 x8.length)) r (by simp)),r,r,r,trivial⟩) (λ_=>Pq (λg=>bif Nat.ble 24096 g then g - 20000 else bif (Nat.ble 1000 g && Nat.blt g 4096) then g - 1000 else bif Nat.beq g 11 then 643 else g) (by rfl) (hE ⟨rfl,trivial⟩ ⟨rfl,(Eq.trans (b:=dV _ 1 36 (.osl 1012 _ 0 x8.length)) r (by simp)),r,r,r,trivial⟩)))) λnn=>?_
       refine A 1 ?_
       exact TX (d:=.tup []) (s:=(x8.set x_x14.toNat true,(x10.set ((i64.wrap ((x10.length : Int) - 1)).toNat) (Ed.mk x_o16.k (x_e15.rest.drop (1 : Int).toNat))) ++ ([(Ed.mk x_x14 r22)] : List Ed))) (_,_,_,_,_) r (by first | rfl | (simp [OX,OO,rdA,raw,strip,OT,cells,OR]; done) | (simp [OX,OO,rdA,raw,strip,OT,S.ge,S.go,look,Te,cells,OR]; done)) r ((QS (E1:=[(4,.osl 1004 v1004x9 0 out9.length),(5,.optr 1005 v1005x9 0 0),(6,.clo 25 [.optr 1003 v1003x9 0 0,.optr 1005 v1005x9 0 0,.fptr (OL f1) 0]),(49,.tup [])]) (O1:=[(643,dW _ 2 56 (((x10.set ((i64.wrap ((x10.length : Int) - 1)).toNat) (Ed.mk x_o16.k (x_e15.rest.drop (1 : Int).toNat))) ++ ([(Ed.mk x_x14 r22)] : List Ed)).map OI)),(1003,dV v1003x9 1 36 (.osl 1012 v1012x9 0 x8.length)),(1004,dW v1004x9 1 3 (out9.map OK)),(1005,dV v1005x9 1 53 (.agg [.osl 643 _ 0 (((x10.set ((i64.wrap ((x10.length : Int) - 1)).toNat) (Ed.mk x_o16.k (x_e15.rest.drop (1 : Int).toNat))) ++ ([(Ed.mk x_x14 r22)] : List Ed)).length)])),(1012,dW v1012x9 1 4 ((x8.set x_x14.toNat true).map D.bool))]) (hE ⟨rfl,r,r,r,trivial⟩ ⟨rfl,(Eq.trans (b:=dV _ 1 36 (.osl 1012 _ 0 x8.length)) r (by simp)),r,r,r,trivial⟩) (λ_=>Pq (λg=>bif Nat.ble 24096 g then g - 20000 else bif (Nat.ble 1000 g && Nat.blt g 4096) then g - 1000 else bif Nat.beq g 643 then 624 else g) (by rfl) (hE ⟨rfl,r,r,r,trivial⟩ ⟨(Eq.trans (b:=dV _ 1 36 (.osl 12 _ 0 x8.length)) r (by simp)),r,r,r,r,trivial⟩))))
      ·refine A 1 ?_
       exact TX (d:=.tup []) (s:=(x8,x10.set ((i64.wrap ((x10.length : Int) - 1)).toNat) (Ed.mk x_o16.k (x_e15.rest.drop (1 : Int).toNat)))) (_,_,_,_,_) r (by first | rfl | (simp [OX,OO,rdA,raw,strip,OT,cells,OR]; done) | (simp [OX,OO,rdA,raw,strip,OT,S.ge,S.go,look,Te,cells,OR]; done)) r ((QS (E1:=[(4,.osl 1004 v1004x9 0 out9.length),(5,.optr 1005 v1005x9 0 0),(6,.clo 25 [.optr 1003 v1003x9 0 0,.optr 1005 v1005x9 0 0,.fptr (OL f1) 0]),(49,.tup [])]) (O1:=[(1003,dV v1003x9 1 36 (.osl 1012 v1012x9 0 x8.length)),(1004,dW v1004x9 1 3 (out9.map OK)),(1005,dV v1005x9 1 53 (.agg [.osl 1602 v1602x9 0 ((x10.set ((i64.wrap ((x10.length : Int) - 1)).toNat) (Ed.mk x_o16.k (x_e15.rest.drop (1 : Int).toNat))).length)])),(1012,dW v1012x9 1 4 (x8.map D.bool)),(1602,dW v1602x9 2 56 ((x10.set ((i64.wrap ((x10.length : Int) - 1)).toNat) (Ed.mk x_o16.k (x_e15.rest.drop (1 : Int).toNat))).map OI))]) (hE ⟨rfl,r,r,r,trivial⟩ ⟨rfl,r,r,r,r,trivial⟩) (λ_=>Pq (λg=>bif Nat.beq g 1602 then 624 else bif Nat.ble 24096 g then g - 20000 else bif (Nat.ble 1000 g && Nat.blt g 4096) then g - 1000 else g) (by rfl) (hE ⟨rfl,r,r,r,trivial⟩ ⟨rfl,r,r,r,r,trivial⟩))))
    ·rintro ⟨x17,x18⟩ ⟨v3x12,v4x12,v5x12,v12x12,v624x12⟩ nn
     try dsimp only
     unfold PG
     refine A 2 ?_
     exact xL (s:=(x17,out9,x18)) (_,_,_,_,_) ((QS (E1:=[(4,.osl 4 _ 0 out9.length),(5,.optr 5 _ 0 0),(6,.clo 25 [.optr 3 _ 0 0,.optr 5 _ 0 0,.fptr (OL f1) 0])]) (O1:=[(3,dV _ 1 36 (.osl 12 _ 0 x17.length)),(4,dW _ 1 3 (out9.map OK)),(5,dV _ 1 53 (.agg [.osl 624 _ 0 x18.length])),(12,dW _ 1 4 (x17.map D.bool)),(624,dW _ 2 56 (x18.map OI))]) (hE ⟨rfl,r,r,trivial⟩ ⟨rfl,r,r,r,r,trivial⟩) (λ_=>Pq (λg=>bif Nat.beq g 624 then 602 else g) (by rfl) (hE ⟨rfl,r,r,trivial⟩ ⟨rfl,r,r,r,r,trivial⟩))))
  ·exact B

def Tk (_a : Unit) : List D:=[]
def Tj (_ds : List D) : Unit:=()
theorem WN (a : Unit) : Tj (Tk a) = a:=rfl
instance : PZ Tk Tj:=⟨WN⟩
def Xg (b : Bool) : D:=.bool b
def UU : Dw.Spec:=ON [] .ground Tk Tj (λa=>SH) Xg noE
theorem WO : OM Try.prog 8 UU:=by
 refine fn2 0 (Pe (l:=[(11,RE)]) (by simp [Sq])) Try.func8<|?_
 intro _
 unfold SH
 refine A 9 ?_
 refine bS ([(OE.mk 20 1 0 0 0),(OE.mk 23 0 0 0 0)] : List OE) Pa r r r (by simp) r r r<|?_
 exact B

def Tg (a : (List Int) × Int) : List D:=[.sl (a.1.map eU8),OH a.2]
def Tf (ds : List D) : (List Int) × Int:=((uL uI) (ds.getD 0 .top),uI (ds.getD 1 .top))
theorem XF (a : (List Int) × Int) : Tf (Tg a) = a:=by simp [Tf,Tg,uI,QY (u:=uI) (en:=eU8) (λ_=>rfl)]
instance : PZ Tg Tf:=⟨XF⟩
def XX (b : Mk) : D:=Pb b
def Wu : Dw.Spec:=ON [] (.ptr 2 70) Tg Tf (λa=>Ub a.1 a.2) XX noE
theorem XH : OM Try.prog 22 Wu:=by
 refine fn2 2 (Qp) Try.func22<|?_
 intro a
 unfold Ub
 exact B

def PN (a : Mk) : List D:=[Pb a]
def PM (ds : List D) : Mk:=QK (ds.getD 0 .top)
theorem Va (a : Mk) : PM (PN a) = a:=by simp [PM,PN]
instance : PZ PN PM:=⟨Va⟩
def VF (b : Bool × Mk) : D:=.bool b.1
def VE (b : Bool × Mk) : List D:=[Pb b.2]
def TK : Dw.Spec:=ON [(0,(2,70))] .val PN PM (λa=>Sh a) VF VE
theorem Vc : OM Try.prog 38 TK:=by
 refine fn2 1 (Qp) Try.func38<|?_
 intro a
 unfold Sh
 exact B

def Qq (a : Mk × Int) : List D:=[Pb a.1,OH a.2]
def Qo (ds : List D) : Mk × Int:=(QK (ds.getD 0 .top),uI (ds.getD 1 .top))
theorem Ve (a : Mk × Int) : Qo (Qq a) = a:=by simp [Qo,Qq,uI]
instance : PZ Qq Qo:=⟨Ve⟩
def VH (b : Int × Mk) : D:=OH b.1
def VG (b : Int × Mk) : List D:=[Pb b.2]
def Pt : Dw.Spec:=ON [(0,(2,70))] .val Qq Qo (λa=>OJ a.1 a.2) VH VG
theorem Px : OM Try.prog 24 Pt:=by
 refine fn2 2 (Pe (l:=[(38,TK)]) (by simp [Vc])) Try.func24<|?_
 rintro ⟨c1,n2⟩
 unfold OJ
 refine A 5 ?_
 refine sC (E:=λ(_s : (List Int) × Int) (_g : Unit)=>[(0,.optr 8192 0 0 0),(1,OH n2)]) (O:=λs _=>[(8192,dV 0 2 70 (.agg [.sl (s.1.map eU8),OH s.2]))]) (j:=λs=>Rj n2 s.1 s.2) ?_ ?_
 ·exact B
 ·rintro ⟨c3,c4⟩ ⟨⟩ nn
  try dsimp only
  unfold Rj
  refine A 10 ?_
  refine bD λx_x6 hx_x6=>?_
  refine A 15 ?_
  refine RN (i:=0) (es':=[.agg [.sl (c3.map eU8),OH (i64.wrap (c4 + 1))]]) r r r r r r r (by first | trivial | (simp; done) | (simp; omega)) r r r r r r<|?_
  exact B

def VJ (b : Pp × Mk) : D:=Rs b.1
def VI (b : Pp × Mk) : List D:=[Pb b.2]
def TL : Dw.Spec:=ON [(0,(2,70))] .val PN PM (λa=>Rl a) VJ VI
theorem Vf : OM Try.prog 50 TL:=by
 refine fn2 1 (Pe (l:=[(24,Pt)]) (by simp [Px])) Try.func50<|?_
 intro c1
 unfold Rl
 refine A 7 ?_
 refine bS ([8,4,8,1,2,16,8] : List Int) OK r r r (by simp) r r r<|?_
 refine A 1 ?_
 refine bD λr2 hr2=>?_
 refine A 2 ?_
 refine bD λx_e3 hx_e3=>?_
 refine A 1 ?_
 refine bS ([8,4,1,8,16,2,32,64] : List Int) OK r r r (by simp) r r r<|?_
 exact B

def Vh (b : (List Pp) × Mk) : D:=.sl (b.1.map Rs)
def Vg (b : (List Pp) × Mk) : List D:=[Pb b.2]
def TC : Dw.Spec:=ON [(0,(2,70))] (.row 2 89) Qq Qo (λa=>QN a.1 a.2) Vh Vg
theorem UY : OM Try.prog 43 TC:=by
 refine fn2 2 (Pe (l:=[(24,Pt),(50,TL)]) (by simp [Px,Vf])) Try.func43<|?_
 rintro ⟨c1,most2⟩
 unfold QN
 refine A 16 ?_
 refine bD λr3 hr3=>?_
 refine A 5 ?_
 refine lP (E:=λ(s : (List Int) × Int × (List Pp) × Int) (g : Nat)=>[(0,.optr 8192 0 0 0),(5,.osl 5 g 0 s.2.2.1.length),(6,OH s.2.2.2)]) (O:=λs g=>[(5,dW g 2 89 (s.2.2.1.map Rs)),(8192,dV 0 2 70 (.agg [.sl (s.1.map eU8),OH s.2.1]))]) (body:=λs=>QU s.1 s.2.1 s.2.2.1 s.2.2.2) (s:=(r3.2.list,r3.2.at_,([] : List Pp),r3.1)) _ ((hE ⟨rfl,r,r,trivial⟩ ⟨rfl,r,trivial⟩))<|?_
 rintro ⟨c4,c5,l6,n7⟩ v5x1 nn
 try dsimp only
 unfold QU
 refine A 7 ?_
 refine cD r ?_ ?_
 ·refine A 7 ?_
  refine bD λr8 hr8=>?_
  refine A 1 ?_
  refine bS ([r8.1] : List Pp) Rs r r r (by simp) r r r<|?_
  exact B
 ·exact B

def Ra (a : Mk × OG × Int) : List D:=[Pb a.1,OL a.2.1,OH a.2.2]
def QX (ds : List D) : Mk × OG × Int:=(QK (ds.getD 0 .top),Un (ds.getD 1 .top),uI (ds.getD 2 .top))
theorem Vk (a : Mk × OG × Int) : QX (Ra a) = a:=by simp [QX,Ra,uI]
instance : PZ Ra QX:=⟨Vk⟩
def VP (b : Int × Mk) : D:=OH b.1
def VO (b : Int × Mk) : List D:=[Pb b.2]
def TO : Dw.Spec:=ON [(0,(2,70))] .val Ra QX (λa=>Rq a.1 a.2.1 a.2.2) VP VO
theorem Vl : OM Try.prog 51 TO:=by
 refine fn2 3 (Pe (l:=[(24,Pt)]) (by simp [Px])) Try.func51<|?_
 rintro ⟨c1,f2,s3⟩
 unfold Rq
 refine A 18 ?_
 refine lP (E:=λ(s : (List Int) × Int) (g : Nat × Nat)=>[(0,.optr 8192 0 0 0),(2,OH s3),(4,.optr 4 g.1 0 0),(7,.osl 7 g.2 0 s.1.length),(8,OH s.2)]) (O:=λs g=>[(4,dV g.1 3 27 (OL f2)),(7,dW g.2 1 3 (s.1.map OK)),(8192,dV 0 2 70 (.agg [.sl (c1.list.map eU8),OH c1.at_]))]) (body:=λs=>Rr f2 s3 c1 s.1 s.2) (s:=(([] : List Int),0)) (_,_) ((hE ⟨rfl,r,r,r,r,trivial⟩ ⟨rfl,r,r,trivial⟩))<|?_
 rintro ⟨l4,k5⟩ ⟨v4x1,v7x1⟩ nn
 try dsimp only
 unfold Rr
 exact B

def VL (b : Int × Mk) : D:=TT b.1
def VK (b : Int × Mk) : List D:=[Pb b.2]
def SG : Dw.Spec:=ON [(0,(2,70))] .val PN PM (λa=>QG a) VL VK
theorem TD : OM Try.prog 45 SG:=by
 refine fn2 1 (Pe (l:=[(24,Pt)]) (by simp [Px])) Try.func45<|?_
 intro a
 unfold QG
 exact B

end
end Go.Proofs.Ytgebpjgohchohaa
