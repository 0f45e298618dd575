/-
  Programs on typed data, and the proofs that the code does what they say; written by a program (dx.py).
-/
import Derived.Test.YtjjmcedpoolghaaDoorProg
import Derived.Test.YtjjmcedpoolghaaDoorDc
import Derived.KernelRfl
import Derived.Test.YtjjmcedpoolghaaDoorSh
import Derived.Test.YtjjmcedpoolghaaDoorDxP
namespace Go.Proofs.YtjjmcedpoolghaaDoor
open Go Go.Dw Go.Proofs
set_option maxRecDepth 100000
open Go.Dw renaming Wt → mV,UR → bN,Qd → lO,TY → bD,UU → cK,UX → nI,Va → xS,Ww → rG,Wy → sQ,QB → aO,UQ → aS,UY → oF,US → bL,Vt → bS,PQ → cV,Ps → cG,PO → cR,UP → aP,Qe → sV,RD → iS,QC → iO,RF → lS,QD → lW,TZ → fA,XF → eX,XN → nC,Ub → lF,SH → sP,OR → pT,Oy → pF,Xu → uN,YO → cT,UW → nW,UT → bX,Sn → aN,Xs → aL,Vb → cD,Uf → bK,Wx → rT,Ve → sK,Vc → eT,UZ → xC,Ud → xL,Sr → xR,UD → zR,Ue → lR,SD → hE,OT → lE,PR → bH,Oz → bM,Sq → bR,PS → xE,Ws → cP,Vd → lP,RG → sC,rf → r
def Aak : KH:=(.seq (.reg [P 2 (.asg (.c (.bool false)) none)] false) (.seq (.reg [M 3 0,P 4 (.bin .eql (T 3) (C 20)),M 5 4,⟨(some 6),(.mv (T 0)),(some ⟨5,false⟩),[]⟩,⟨(some 7),(.bin .eql (T 6) (C 23)),(some ⟨5,false⟩),[]⟩,P 8 (.pick (T 5) (.c (.bool true)) (T 7)),M 9 8,⟨(some 10),(.mv (T 0)),(some ⟨9,false⟩),[]⟩,⟨(some 11),(.bin .eql (T 10) (C 24)),(some ⟨9,false⟩),[]⟩,P 12 (.pick (T 9) (.c (.bool true)) (T 11)),P 2 (.asg (T 12) none)] false) .ret))
theorem AcE : (Tryd.f35.body.bind (KJ Tryd.prog Tryd.f35.ntmps)) = some Aak:=by kernel_rfl
theorem AcF : Tryd.f35.results.toList.mapM (KY Tryd.prog) = some [(.t 2)]:=by kernel_rfl
def PN (a : Int) : List D:=[.int .i64 a]
def PM (ds : List D) : Int:=uI (ds.getD 0 .top)
theorem Tp (a : Int) : PM (PN a) = a:=by simp [PM,PN,uI]
def TX (b : Bool) : D:=.bool b
def TW (_b : Bool) : List D:=[]
noncomputable def QU : Dw.Spec:=KI [] .ground PN PM (fun a=>Ow a) TX TW
set_option maxHeartbeats 4000000 in
theorem WE : KF Tryd.prog 35 QU:=by
 refine Lc (LD) Tryd.func35 (by decide) AcE AcF (np:=1) (by decide) Tp (fun _=>r) (fun _=>r) (by decide)<|?_
 intro op1
 show TrE (specs []) Aak (Ld [] .ground [(.t 2)] TX TW) ⟨[(0,.int .i64 op1)],[],262144⟩ (Ow op1)
 refine KQ<|?_
 unfold Aak Ow
 refine sQ<|rG<|aS r r<|nI<|xS<|sQ<|rG<|mV r r<|bN (v:=.bool (op1 == 20)) r r r r r<|mV r r<|sP 5 (b:=(op1 == 20)) r ?_ ?_
 ·refine oF r<|oF r<|pT r r r r<|mV r r<|oF r<|oF r<|pT r r r r<|aS r r<|nI<|xS<|rT<|KN (b:=true) r ?_ r r ?_ r
  all_goals first|(simp;done)|(simp;omega)|rfl|(simp [KB,Kx];done)
 ·refine mV r r<|bN (v:=.bool (op1 == 23)) r r r r r<|pF r r r r<|mV r r<|sP 9 (b:=(op1 == 23)) r ?_ ?_
  ·refine oF r<|oF r<|pT r r r r<|aS r r<|nI<|xS<|rT<|KN (b:=true) r ?_ r r ?_ r
   all_goals first|(simp;done)|(simp;omega)|rfl|(simp [KB,Kx];done)
  ·refine mV r r<|bN (v:=.bool (op1 == 24)) r r r r r<|pF r r r r<|aS r r<|nI<|xS<|rT<|KN (b:=(op1 == 24)) r ?_ r r ?_ r
   all_goals first|(simp;done)|(simp;omega)|rfl|(simp [KB,Kx];done)

def Aaa : KH:=(.seq (.reg [P 2 (.box (T 0) 3 27),⟨(some 4),(.asg (.c .nils) (some ⟨1,3⟩)),none,[]⟩] false) (.seq (.seq (.reg [M 7 1,P 8 (.bin .lss (T 7) (C 0)),M 9 8,⟨(some 10),(.mv (T 1)),(some ⟨9,false⟩),[]⟩,⟨(some 11),(.fldA 2 (T 2)),(some ⟨9,false⟩),[]⟩,⟨(some 12),(.ld 1 false (T 11)),(some ⟨9,false⟩),[]⟩,⟨(some 13),(.len false (T 12)),(some ⟨9,false⟩),[]⟩,⟨(some 14),(.bin .geq (T 10) (T 13)),(some ⟨9,false⟩),[]⟩,P 15 (.pick (T 9) (.c (.bool true)) (T 14))] false) (.cond (T 15) (.seq (.reg [⟨(some 4),(.asg (.c .nils) (some ⟨1,3⟩)),none,[]⟩] false) .ret) .skip)) (.seq (.reg [⟨(some 5),(.asg (.c .nils) (some ⟨1,3⟩)),none,[]⟩] false) (.seq (.reg [P 16 (.fldA 2 (T 2)),P 17 (.ld 1 false (T 16)),M 18 1,P 19 (.ixA 5 (T 17) (T 18)),P 20 (.ld 5 true (T 19)),P 6 (.new (.agg [(.int .i64 0),(.int .i64 0),(.int .i64 0),(.int .i64 0),(.int .u64 0)]) 5 43),⟨none,(.st 5 (T 6) (T 20)),none,[]⟩] false) (.seq (.seq (.reg [P 21 (.fldA 0 (T 6)),P 22 (.ld 1 false (T 21)),P 23 (.call (.c (.clo 35 [])) [(T 22)]),P 24 (.un .not (T 23))] false) (.cond (T 24) (.reg [M 25 5,M 26 1,P 27 (.bin .add (T 26) (C 1)),⟨(some 28),(.bldS 1 3 (.int .i64 0) 1 [⟨0,(T 27)⟩]),none,[]⟩,P 29 (.app 1 3 8 (T 25) (T 28)),⟨(some 5),(.asg (T 29) (some ⟨1,3⟩)),none,[]⟩] false) .skip)) (.seq (.seq (.reg [P 30 (.fldA 0 (T 6)),P 31 (.ld 1 false (T 30))] false) (.block 0 (.seq (.reg [P 33 (.bin .eql (T 31) (C 20)),P 32 (.asg (T 33) none)] false) (.cond (T 32) (.reg [M 34 5,P 35 (.fldA 1 (T 6)),P 36 (.ld 1 false (T 35)),⟨(some 37),(.bldS 1 3 (.int .i64 0) 1 [⟨0,(T 36)⟩]),none,[]⟩,P 38 (.app 1 3 8 (T 34) (T 37)),⟨(some 5),(.asg (T 38) (some ⟨1,3⟩)),none,[]⟩] false) (.seq (.reg [P 40 (.bin .eql (T 31) (C 21)),P 39 (.asg (T 40) none)] false) (.cond (T 39) (.reg [M 41 5,P 42 (.fldA 2 (T 6)),P 43 (.ld 1 false (T 42)),⟨(some 44),(.bldS 1 3 (.int .i64 0) 1 [⟨0,(T 43)⟩]),none,[]⟩,P 45 (.app 1 3 8 (T 41) (T 44)),⟨(some 5),(.asg (T 45) (some ⟨1,3⟩)),none,[]⟩] false) .skip)))))) (.seq (.reg [M 46 5,P 47 (.call (.c (.clo 36 [])) [(T 46)])] false) (.seq (.reg [M 48 5,P 49 (.call (.c (.clo 37 [])) [(T 48)]),⟨(some 4),(.asg (T 49) (some ⟨1,3⟩)),none,[]⟩] false) .ret))))))))
theorem Acj : (Tryd.f25.body.bind (KJ Tryd.prog Tryd.f25.ntmps)) = some Aaa:=by kernel_rfl
theorem Ack : Tryd.f25.results.toList.mapM (KY Tryd.prog) = some [(.t 4)]:=by kernel_rfl
def SR (a : Ku × Int) : List D:=[Lm a.1,.int .i64 a.2]
def SQ (ds : List D) : Ku × Int:=(Pu (ds.getD 0 .top),uI (ds.getD 1 .top))
theorem TH (a : Ku × Int) : SQ (SR a) = a:=by simp [SQ,SR,uI]
def WR (b : (List Int)) : D:=.sl (b.map Kp)
def WQ (_b : (List Int)) : List D:=[]
noncomputable def Qw : Dw.Spec:=KI [] (.row 1 3) SR SQ (fun a=>PE a.1 a.2) WR WQ
set_option maxHeartbeats 4000000 in
theorem VW : KF Tryd.prog 25 Qw:=by
 refine Lc (KW (l:=[(35,QU),(36,Ox),(37,Nr)]) (by simp [WE,UA,Tt])) Tryd.func25 (by decide) Acj Ack (np:=2) (by decide) TH (fun _=>r) (fun _=>r) (by decide)<|?_
 rintro ⟨f1,k2⟩
 show TrE (specs [(35,QU),(36,Ox),(37,Nr)]) Aaa (Ld [] (.row 1 3) [(.t 4)] WR WQ) ⟨[(0,.agg [.int .i64 f1.Params,.sl (f1.Slots.map Kv),.sl (f1.Code.map Kr)]),(1,.int .i64 k2)],[],262144⟩ (PE f1 k2)
 refine KQ<|?_
 unfold Aaa PE
 refine sQ<|rG<|bX r r r r r<|aN (α:=Int) r Kp r<|nI<|xS<|sC (E:=fun (s : Unit) (g : Nat)=>[(1,.int .i64 k2),(2,.optr 2 g 0 0)]) (O:=fun s g=>[(2,some (g,⟨false,true,3,27,[.agg [.int .i64 f1.Params,.sl (f1.Slots.map Kv),.sl (f1.Code.map Kr)]]⟩))]) (j:=fun s=>Rr f1 k2) ?_ ?_
 ·refine sQ<|rG<|mV r r<|bN (v:=.bool (decide (k2 < 0))) r r r r r<|mV r r<|sP 9 (b:=(decide (k2 < 0))) r ?_ ?_
  ·refine oF r<|oF r<|oF r<|oF r<|oF r<|pT r r r r<|nI<|xS<|OA r<|sQ<|rG<|aN (α:=Int) r Kp r<|nI<|xS<|rT<|zR<|KV (b:=([] : List Int)) r ?_ r r ?_ r ?_ (congrArg D.sl (Kt _ _ r)) r
   all_goals first|(simp;done)|(simp;omega)|rfl|(simp [KB,Kx];done)
  ·refine mV r r<|fA r r<|lO (v:=.sl (f1.Code.map Kr)) (z:=.agg [.int .i64 f1.Params,.sl (f1.Slots.map Kv),.sl (f1.Code.map Kr)]) r r r r r r<|lS r r<|bN (v:=.bool (decide (k2 ≥ (f1.Code.length : Int)))) r r r r r<|pF r r r r<|nI<|xS<|cD (c:=(decide (k2 ≥ (f1.Code.length : Int)))) r ?_ ?_
   ·refine sQ<|rG<|aN (α:=Int) r Kp r<|nI<|xS<|rT<|zR<|KV (b:=([] : List Int)) r ?_ r r ?_ r ?_ (congrArg D.sl (Kt _ _ r)) r
    all_goals first|(simp;done)|(simp;omega)|rfl|(simp [KB,Kx];done)
   ·exact sK<|xC (s:=()) _ ((hE ⟨rfl,r,trivial⟩ ⟨rfl,trivial⟩))
 ·rintro ⟨⟩ v2x1 nn
  try dsimp only
  unfold Rr
  refine sQ<|rG<|aN (α:=Int) r Kp r<|nI<|xS<|sQ<|rG<|fA r r<|lO (v:=.sl (f1.Code.map Kr)) (z:=.agg [.int .i64 f1.Params,.sl (f1.Slots.map Kv),.sl (f1.Code.map Kr)]) r r r r r r<|mV r r<|bD fun x_x3 hx_x3=>iS (en:=Kr) r r r hx_x3 r<|lF (v:=.agg [.int .i64 x_x3.Op,.int .i64 x_x3.A,.int .i64 x_x3.B,.int .i64 x_x3.C,.int .u64 x_x3.Imm]) r r r r<|nW r<|sV (z':=.agg [.int .i64 x_x3.Op,.int .i64 x_x3.A,.int .i64 x_x3.B,.int .i64 x_x3.C,.int .u64 x_x3.Imm]) r r r r r r r r r<|nI<|xS<|sC (E:=fun (s : (List Int)) (g : Nat × Nat)=>[(5,.osl 5 g.1 0 s.length),(6,.optr 6 g.2 0 0)]) (O:=fun s g=>[(5,some (g.1,⟨false,false,1,3,s.map Kp⟩)),(6,some (g.2,⟨false,true,5,43,[.agg [.int .i64 x_x3.Op,.int .i64 x_x3.A,.int .i64 x_x3.B,.int .i64 x_x3.C,.int .u64 x_x3.Imm]]⟩))]) (j:=fun s=>PF x_x3 s) ?_ ?_
  ·refine sQ<|rG<|fA r r<|lO (v:=.int .i64 x_x3.Op) (z:=.agg [.int .i64 x_x3.Op,.int .i64 x_x3.A,.int .i64 x_x3.B,.int .i64 x_x3.C,.int .u64 x_x3.Imm]) r r r r r r<|bD fun r5 hr5=>cG x_x3.Op r r r Tp r r (by simp) r hr5 r<|uN (w:=.bool (!r5)) r r r r trivial<|nI<|xS<|cD (c:=(!r5)) r ?_ ?_
   ·exact rG<|mV r r<|mV r r<|bN (v:=.int .i64 (IntKind.i64.wrap (k2 + 1))) r r r r r<|bS ([IntKind.i64.wrap (k2 + 1)] : List Int) Kp r r r (by simp) r r r<|cK fun hq=>aP (([] : List Int)) (([IntKind.i64.wrap (k2 + 1)] : List Int)) Kp r r r r r r r (by simp) (KG _ _ r) r r (by simp) (Kt _ _ r) (fun _=>r) r hq<|aO (l:=([] : List Int) ++ ([IntKind.i64.wrap (k2 + 1)] : List Int)) (en:=Kp) r r r r<|nI<|xC (s:=([] : List Int) ++ ([IntKind.i64.wrap (k2 + 1)] : List Int)) (_,_) ((hE ⟨rfl,r,trivial⟩ ⟨rfl,r,trivial⟩))
   ·exact sK<|xC (s:=([] : List Int)) (_,_) ((hE ⟨rfl,r,trivial⟩ ⟨rfl,r,trivial⟩))
  ·rintro l4 ⟨v5x2,v6x2⟩ nn
   try dsimp only
   unfold PF
   refine sQ<|sQ<|rG<|fA r r<|lO (v:=.int .i64 x_x3.Op) (z:=.agg [.int .i64 x_x3.Op,.int .i64 x_x3.A,.int .i64 x_x3.B,.int .i64 x_x3.C,.int .u64 x_x3.Imm]) r r r r r r<|nI<|xS<|bK<|sQ<|rG<|bN (v:=.bool (x_x3.Op == 20)) r r r r r<|aS r r<|nI<|xS<|cD (c:=(x_x3.Op == 20)) r ?_ ?_
   ·refine rG<|mV r r<|fA r r<|lO (v:=.int .i64 x_x3.A) (z:=.agg [.int .i64 x_x3.Op,.int .i64 x_x3.A,.int .i64 x_x3.B,.int .i64 x_x3.C,.int .u64 x_x3.Imm]) r r r r r r<|bS ([x_x3.A] : List Int) Kp r r r (by simp) r r r<|cK fun hq=>aP (l4) (([x_x3.A] : List Int)) Kp r r r r r r r (by simp) (KG _ _ r) r r (by simp) (Kt _ _ r) (fun _=>r) r hq<|aO (l:=l4 ++ ([x_x3.A] : List Int)) (en:=Kp) r r r r<|nI<|bM<|xS<|sQ<|rG<|mV r r<|cK fun hq=>Vu (l:=l4 ++ ([x_x3.A] : List Int)) (l':=LL (l4 ++ ([x_x3.A] : List Int))) r r r r r r r hq r<|nI<|xS<|sQ<|rG<|mV r r<|cK fun hq=>Ua (l:=LL (l4 ++ ([x_x3.A] : List Int))) (l':=Lib.compact (LL (l4 ++ ([x_x3.A] : List Int)))) r r r r r (by simp) r hq (RO _) r<|aO (l:=Lib.compact (LL (l4 ++ ([x_x3.A] : List Int)))) (en:=Kp) r r r r<|nI<|xS<|rT<|KV (b:=Lib.compact (LL (l4 ++ ([x_x3.A] : List Int)))) r ?_ r r ?_ r ?_ (congrArg D.sl (Kt _ _ r)) r
    all_goals first|(simp;done)|(simp;omega)|rfl|(simp [KB,Kx];done)
   ·refine sQ<|rG<|bN (v:=.bool (x_x3.Op == 21)) r r r r r<|aS r r<|nI<|xS<|cD (c:=(x_x3.Op == 21)) r ?_ ?_
    ·refine rG<|mV r r<|fA r r<|lO (v:=.int .i64 x_x3.B) (z:=.agg [.int .i64 x_x3.Op,.int .i64 x_x3.A,.int .i64 x_x3.B,.int .i64 x_x3.C,.int .u64 x_x3.Imm]) r r r r r r<|bS ([x_x3.B] : List Int) Kp r r r (by simp) r r r<|cK fun hq=>aP (l4) (([x_x3.B] : List Int)) Kp r r r r r r r (by simp) (KG _ _ r) r r (by simp) (Kt _ _ r) (fun _=>r) r hq<|aO (l:=l4 ++ ([x_x3.B] : List Int)) (en:=Kp) r r r r<|nI<|bM<|xS<|sQ<|rG<|mV r r<|cK fun hq=>Vu (l:=l4 ++ ([x_x3.B] : List Int)) (l':=LL (l4 ++ ([x_x3.B] : List Int))) r r r r r r r hq r<|nI<|xS<|sQ<|rG<|mV r r<|cK fun hq=>Ua (l:=LL (l4 ++ ([x_x3.B] : List Int))) (l':=Lib.compact (LL (l4 ++ ([x_x3.B] : List Int)))) r r r r r (by simp) r hq (RO _) r<|aO (l:=Lib.compact (LL (l4 ++ ([x_x3.B] : List Int)))) (en:=Kp) r r r r<|nI<|xS<|rT<|KV (b:=Lib.compact (LL (l4 ++ ([x_x3.B] : List Int)))) r ?_ r r ?_ r ?_ (congrArg D.sl (Kt _ _ r)) r
     all_goals first|(simp;done)|(simp;omega)|rfl|(simp [KB,Kx];done)
    ·refine sK<|bM<|xS<|sQ<|rG<|mV r r<|cK fun hq=>Vu (l:=l4) (l':=LL l4) r r r r r r r hq r<|nI<|xS<|sQ<|rG<|mV r r<|cK fun hq=>Ua (l:=LL l4) (l':=Lib.compact (LL l4)) r r r r r (by simp) r hq (RO _) r<|aO (l:=Lib.compact (LL l4)) (en:=Kp) r r r r<|nI<|xS<|rT<|KV (b:=Lib.compact (LL l4)) r ?_ r r ?_ r ?_ (congrArg D.sl (Kt _ _ r)) r
     all_goals first|(simp;done)|(simp;omega)|rfl|(simp [KB,Kx];done)

def ZP : KH:=(.seq (.reg [P 1 (.box (T 0) 3 27),⟨(some 2),(.asg (.c .nils) (some ⟨1,36⟩)),none,[]⟩] false) (.seq (.reg [P 7 (.fldA 2 (T 1)),P 8 (.ld 1 false (T 7)),P 9 (.len false (T 8)),P 10 (.mkS 1 36 24 .nils (T 9) (T 9)),⟨(some 3),(.asg (T 10) (some ⟨1,36⟩)),none,[]⟩] false) (.seq (.seq (.reg [P 11 (.fldA 2 (T 1)),P 12 (.ld 1 false (T 11)),P 13 (.len false (T 12)),P 14 (.mv (C 0))] false) (.block 0 (.loop (.seq (.reg [P 15 (.bin .lss (T 14) (T 13))] false) (.seq (.cond (T 15) .skip (.exit 0)) (.seq (.block 1 (.seq (.reg [M 16 14,P 4 (.asg (T 16) none)] false) (.seq (.reg [P 17 (.ld 3 true (T 1)),M 18 4,P 19 (.call (.c (.clo 25 [])) [(T 17),(T 18)]),P 20 (.len false (T 19)),P 21 (.mv (C 0))] false) (.block 2 (.loop (.seq (.reg [P 22 (.bin .lss (T 21) (T 20))] false) (.seq (.cond (T 22) .skip (.exit 2)) (.seq (.block 3 (.seq (.reg [P 23 (.ixA 1 (T 19) (T 21)),P 24 (.ld 1 false (T 23)),P 6 (.asg (T 24) none)] false) (.reg [M 25 3,M 26 6,M 27 3,M 28 6,P 29 (.ixA 1 (T 27) (T 28)),P 30 (.ld 1 false (T 29)),M 31 4,⟨(some 32),(.bldS 1 3 (.int .i64 0) 1 [⟨0,(T 31)⟩]),none,[]⟩,P 33 (.app 1 3 8 (T 30) (T 32)),P 34 (.ixA 1 (T 25) (T 26)),⟨none,(.st 1 (T 34) (T 33)),none,[]⟩] false))) (.reg [P 35 (.bin .add (T 21) (C 1)),M 21 35] false))))))))) (.reg [P 36 (.bin .add (T 14) (C 1)),M 14 36] false))))))) (.seq (.reg [M 37 3,⟨(some 2),(.asg (T 37) (some ⟨1,36⟩)),none,[]⟩] false) .ret))))
theorem AbK : (Tryd.f13.body.bind (KJ Tryd.prog Tryd.f13.ntmps)) = some ZP:=by kernel_rfl
theorem AbL : Tryd.f13.results.toList.mapM (KY Tryd.prog) = some [(.t 2)]:=by kernel_rfl
def Rq (a : Ku) : List D:=[Lm a]
def Rp (ds : List D) : Ku:=Pu (ds.getD 0 .top)
theorem UI (a : Ku) : Rp (Rq a) = a:=by simp [Rp,Rq]
def SO (b : (List (List Int))) : D:=.sl (b.map (eL Kp))
def Vy (_b : (List (List Int))) : List D:=[]
noncomputable def SP : Dw.Spec:=KI [] .val Rq Rp (fun a=>Ob a) SO Vy
set_option maxHeartbeats 4000000 in
theorem Xz : KF Tryd.prog 13 SP:=by
 refine Lc (KW (l:=[(25,Qw)]) (by simp [VW])) Tryd.func13 (by decide) AbK AbL (np:=1) (by decide) UI (fun _=>r) (fun _=>r) (by decide)<|?_
 intro f1
 show TrE (specs [(25,Qw)]) ZP (Ld [] .val [(.t 2)] SO Vy) ⟨[(0,.agg [.int .i64 f1.Params,.sl (f1.Slots.map Kv),.sl (f1.Code.map Kr)])],[],262144⟩ (Ob f1)
 refine KQ<|?_
 unfold ZP Ob
 refine sQ<|rG<|bX r r r r r<|aN (α:=(List Int)) r (eL Kp) r<|nI<|xS<|sQ<|rG<|fA r r<|lO (v:=.sl (f1.Code.map Kr)) (z:=.agg [.int .i64 f1.Params,.sl (f1.Slots.map Kv),.sl (f1.Code.map Kr)]) r r r r r r<|lS r r<|cK fun hq=>So (α:=Int) r r r hq r<|aO (l:=List.replicate (f1.Code.length : Int).toNat ([] : (List Int))) (en:=(fun _=>D.nils)) r r r r<|nI<|OY (E:=[(1,.optr 1 _ 0 0),(3,.osl 4099 _ 0 ((List.replicate (f1.Code.length : Int).toNat ([] : (List Int))).length))]) (O:=[(1,some (_,⟨false,true,3,27,[.agg [.int .i64 f1.Params,.sl (f1.Slots.map Kv),.sl (f1.Code.map Kr)]]⟩)),(4099,some (_,⟨false,false,1,36,(List.replicate (f1.Code.length : Int).toNat ([] : (List Int))).map (eR 1 3 Kp)⟩))]) ((YV (g:=3) (g2:=4099) r r r (AaD (l:=List.replicate (f1.Code.length : Int).toNat ([] : (List Int))) (s':=1) (ty':=3) Kp (by decide) (fun _ h=>List.eq_of_mem_replicate h)) (hE ⟨rfl,r,trivial⟩ ⟨rfl,r,trivial⟩))) fun nn=>sQ<|sQ<|rG<|fA r r<|lO (v:=.sl (f1.Code.map Kr)) (z:=.agg [.int .i64 f1.Params,.sl (f1.Slots.map Kv),.sl (f1.Code.map Kr)]) r r r r r r<|lS r r<|mV r r<|nI<|xS<|bK<|lP (E:=fun (s : (List (List Int)) × Int) (g : Nat × Nat)=>[(1,.optr 1 g.1 0 0),(3,.osl 4099 g.2 0 s.1.length),(13,.int .i64 (f1.Code.length : Int)),(14,.int .i64 s.2)]) (O:=fun s g=>[(1,some (g.1,⟨false,true,3,27,[.agg [.int .i64 f1.Params,.sl (f1.Slots.map Kv),.sl (f1.Code.map Kr)]]⟩)),(4099,some (g.2,⟨false,false,1,36,s.1.map (eR 1 3 Kp)⟩))]) (body:=fun s=>PU f1 s.1 s.2) (s:=(List.replicate (f1.Code.length : Int).toNat ([] : (List Int)),0)) (_,_) ((hE ⟨rfl,r,r,r,trivial⟩ ⟨rfl,r,trivial⟩))<|?_
 rintro ⟨l2,x3⟩ ⟨v1x1,v4099x1⟩ nn
 try dsimp only
 unfold PU
 refine sQ<|rG<|bN (v:=.bool (decide (x3 < (f1.Code.length : Int)))) r r r r r<|nI<|xS<|sQ<|cD (c:=(decide (x3 < (f1.Code.length : Int)))) r ?_ ?_
 ·refine sK<|xS<|sQ<|bK<|sQ<|rG<|mV r r<|aS r r<|nI<|xS<|sQ<|rG<|lO (v:=.agg [.int .i64 f1.Params,.sl (f1.Slots.map Kv),.sl (f1.Code.map Kr)]) (z:=.agg [.int .i64 f1.Params,.sl (f1.Slots.map Kv),.sl (f1.Code.map Kr)]) r r r r r r<|mV r r<|bD fun r4 hr4=>cR (l:=r4) (en:=Kp) (f1,x3) r r r TH r r (by simp) r hr4 r<|lW r r<|mV r r<|nI<|xS<|bK<|lP (E:=fun (s : (List (List Int)) × Int) (g : Nat × Nat × Nat)=>[(1,.optr 1 g.1 0 0),(3,.osl 4099 g.2.2 0 s.1.length),(4,.int .i64 x3),(13,.int .i64 (f1.Code.length : Int)),(14,.int .i64 x3),(19,.osl 19 g.2.1 0 r4.length),(20,.int .i64 (r4.length : Int)),(21,.int .i64 s.2)]) (O:=fun s g=>[(1,some (g.1,⟨false,true,3,27,[.agg [.int .i64 f1.Params,.sl (f1.Slots.map Kv),.sl (f1.Code.map Kr)]]⟩)),(19,some (g.2.1,⟨false,false,1,3,r4.map Kp⟩)),(4099,some (g.2.2,⟨false,false,1,36,s.1.map (eR 1 3 Kp)⟩))]) (body:=fun s=>PV r4 x3 s.1 s.2) (s:=(l2,0)) (_,_,_) ((hE ⟨rfl,r,r,r,r,r,r,r,trivial⟩ ⟨rfl,r,r,trivial⟩))<|?_
  rintro ⟨l5,x6⟩ ⟨v1x2,v19x2,v4099x2⟩ nn
  try dsimp only
  unfold PV
  refine sQ<|rG<|bN (v:=.bool (decide (x6 < (r4.length : Int)))) r r r r r<|nI<|xS<|sQ<|cD (c:=(decide (x6 < (r4.length : Int)))) r ?_ ?_
  ·exact sK<|xS<|sQ<|bK<|sQ<|rG<|cK fun hq=>iO (l:=r4) (en:=Kp) r r r r r hq<|bD fun x_e7 hx_e7=>lO (v:=.int .i64 x_e7) (z:=Kp x_e7) r r r (Ma hx_e7) r r<|aS r r<|nI<|xS<|rG<|mV r r<|mV r r<|mV r r<|mV r r<|cK fun hq=>iO (l:=l5) (en:=(eR 1 3 Kp)) r r r r r hq<|bD fun l_e8 hl_e8=>Zy (q:=l_e8) Kp r r r hl_e8<|mV r r<|bS ([x3] : List Int) Kp r r r (by simp) r r r<|cK fun hq=>Zw (l_e8) (([x3] : List Int)) Kp r r r r r r r (by simp) (KG _ _ r) r r (by simp) (Kt _ _ r) (fun _=>r) r hq (fun _=>r)<|cK fun hq=>YK (by simp) r r r r (by simpa using hq)<|YL (l:=l5) (q:=l_e8) (q':=l_e8 ++ ([x3] : List Int)) Kp rfl rfl rfl rfl (.inr ⟨_,_,_,rfl⟩) hl_e8 rfl rfl ⟨⟨rfl,rfl,by simp,Zt fun _=>rfl⟩,trivial,rfl⟩ (congrArg (fun z=>[D.row _ _ z]) (Kt _ _ rfl)) rfl<|nI<|bM<|xS<|rG<|bN (v:=.int .i64 (IntKind.i64.wrap (x6 + 1))) rfl rfl rfl rfl rfl<|mV rfl rfl<|nI<|xL (s:=(l5.set x_e7.toNat (l_e8 ++ ([x3] : List Int)),IntKind.i64.wrap (x6 + 1))) (_,_,_) ((hE ⟨rfl,(Tw (q:=l5.length) rfl (by simp)),r,r,r,r,r,r,trivial⟩ ⟨rfl,r,r,trivial⟩))
  ·exact eT<|xE<|lE<|bH<|bM<|xS<|rG<|bN (v:=.int .i64 (IntKind.i64.wrap (x3 + 1))) r r r r r<|mV r r<|nI<|xL (s:=(l5,IntKind.i64.wrap (x3 + 1))) (_,_) ((hE ⟨rfl,r,r,r,trivial⟩ ⟨rfl,r,trivial⟩))
 ·refine eT<|xE<|lE<|bH<|OY (E:=[(3,.osl 4099 _ 0 l2.length)]) (O:=[(4099,some (_,⟨false,false,1,36,l2.map (eL Kp)⟩))]) ((Zo (g:=4099) r (AaG (l:=l2) Kp (fun _=>r)) (hE ⟨rfl,trivial⟩ ⟨rfl,trivial⟩))) fun nn=>sQ<|rG<|mV r r<|Yx r r r<|nI<|xS<|rT<|LF (b:=l2) r ?_ r r ?_ (by first | rfl | (simp only [KA]; rfl) | (simp only [KC]; rfl) | (simp only [KA,KC]; rfl) | simp [SO])
  all_goals first|(simp;done)|(simp;omega)|rfl|(simp [KB,Kx];done)

def Aap : KH:=(.seq (.reg [P 1 (.box (T 0) 5 43),P 2 (.asg (C 0) none),P 3 (.asg (.c (.bool false)) none)] false) (.seq (.seq (.reg [P 4 (.fldA 0 (T 1)),P 5 (.ld 1 false (T 4))] false) (.block 0 (.seq (.seq (.reg [P 7 (.bin .eql (T 5) (C 16)),P 6 (.asg (T 7) none)] false) (.cond (T 6) .skip (.reg [P 8 (.bin .eql (T 5) (C 17)),P 6 (.asg (T 8) none)] false))) (.cond (T 6) (.seq (.reg [P 9 (.fldA 1 (T 1)),P 10 (.ld 1 false (T 9)),P 2 (.asg (T 10) none),P 3 (.asg (.c (.bool true)) none)] false) .ret) .skip)))) (.seq (.reg [P 2 (.asg (C 0) none),P 3 (.asg (.c (.bool false)) none)] false) .ret)))
theorem AcO : (Tryd.f42.body.bind (KJ Tryd.prog Tryd.f42.ntmps)) = some Aap:=by kernel_rfl
theorem AcP : Tryd.f42.results.toList.mapM (KY Tryd.prog) = some [(.t 2),(.t 3)]:=by kernel_rfl
def PD (a : Kq) : List D:=[Kr a]
def PC (ds : List D) : Kq:=PT (ds.getD 0 .top)
theorem Tl (a : Kq) : PC (PD a) = a:=by simp [PC,PD]
def TG (b : Int × Bool) : D:=.tup [.int .i64 b.1,.bool b.2]
def TF (_b : Int × Bool) : List D:=[]
noncomputable def QO : Dw.Spec:=KI [] .ground PD PC (fun a=>Nk a) TG TF
set_option maxHeartbeats 4000000 in
theorem WD : KF Tryd.prog 42 QO:=by
 refine Lc (LD) Tryd.func42 (by decide) AcO AcP (np:=1) (by decide) Tl (fun _=>r) (fun _=>r) (by decide)<|?_
 intro x1
 show TrE (specs []) Aap (Ld [] .ground [(.t 2),(.t 3)] TG TF) ⟨[(0,.agg [.int .i64 x1.Op,.int .i64 x1.A,.int .i64 x1.B,.int .i64 x1.C,.int .u64 x1.Imm])],[],262144⟩ (Nk x1)
 refine KQ<|?_
 unfold Aap Nk
 refine sQ<|rG<|bX r r r r r<|aS r r<|aS r r<|nI<|xS<|sQ<|sQ<|rG<|fA r r<|lO (v:=.int .i64 x1.Op) (z:=.agg [.int .i64 x1.Op,.int .i64 x1.A,.int .i64 x1.B,.int .i64 x1.C,.int .u64 x1.Imm]) r r r r r r<|nI<|xS<|bK<|sQ<|sQ<|rG<|bN (v:=.bool (x1.Op == 16)) r r r r r<|aS r r<|nI<|xS<|cD (c:=(x1.Op == 16)) r ?_ ?_
 ·refine sK<|xS<|cD (c:=(x1.Op == 16)) r ?_ ?_
  ·refine sQ<|rG<|fA r r<|lO (v:=.int .i64 x1.A) (z:=.agg [.int .i64 x1.Op,.int .i64 x1.A,.int .i64 x1.B,.int .i64 x1.C,.int .u64 x1.Imm]) r r r r r r<|aS r r<|aS r r<|nI<|xS<|rT<|bR<|xR<|Nm (b:=(x1.A,true)) r ?_ r r ?_ r (by decide)
   all_goals first|(simp;done)|(simp;omega)|rfl|(simp [KB,Kx];done)
  ·refine sK<|bM<|xS<|sQ<|rG<|aS r r<|aS r r<|nI<|xS<|rT<|Nm (b:=(0,false)) r ?_ r r ?_ r (by decide)
   all_goals first|(simp;done)|(simp;omega)|rfl|(simp [KB,Kx];done)
 ·refine rG<|bN (v:=.bool (x1.Op == 17)) r r r r r<|aS r r<|nI<|xS<|cD (c:=(x1.Op == 17)) r ?_ ?_
  ·refine sQ<|rG<|fA r r<|lO (v:=.int .i64 x1.A) (z:=.agg [.int .i64 x1.Op,.int .i64 x1.A,.int .i64 x1.B,.int .i64 x1.C,.int .u64 x1.Imm]) r r r r r r<|aS r r<|aS r r<|nI<|xS<|rT<|bR<|xR<|Nm (b:=(x1.A,true)) r ?_ r r ?_ r (by decide)
   all_goals first|(simp;done)|(simp;omega)|rfl|(simp [KB,Kx];done)
  ·refine sK<|bM<|xS<|sQ<|rG<|aS r r<|aS r r<|nI<|xS<|rT<|Nm (b:=(0,false)) r ?_ r r ?_ r (by decide)
   all_goals first|(simp;done)|(simp;omega)|rfl|(simp [KB,Kx];done)

def AaB : KH:=(.seq (.reg [P 2 (.asg (.c (.bool false)) none)] false) (.seq (.reg [M 3 0,P 4 (.bin .geq (T 3) (C 0)),M 5 4,⟨(some 6),(.mv (T 0)),(some ⟨5,true⟩),[]⟩,⟨(some 7),(.bin .lss (T 6) (C 512)),(some ⟨5,true⟩),[]⟩,P 8 (.pick (T 5) (T 7) (.c (.bool false))),P 2 (.asg (T 8) none)] false) .ret))
theorem Adn : (Tryd.f68.body.bind (KJ Tryd.prog Tryd.f68.ntmps)) = some AaB:=by kernel_rfl
theorem Ado : Tryd.f68.results.toList.mapM (KY Tryd.prog) = some [(.t 2)]:=by kernel_rfl
def On (a : Int) : List D:=[.int .i64 a]
def Om (ds : List D) : Int:=uI (ds.getD 0 .top)
theorem Rk (a : Int) : Om (On a) = a:=by simp [Om,On,uI]
def RI (b : Bool) : D:=.bool b
def RH (_b : Bool) : List D:=[]
noncomputable def OZ : Dw.Spec:=KI [] .ground On Om (fun a=>Mz a) RI RH
set_option maxHeartbeats 4000000 in
theorem Vk : KF Tryd.prog 68 OZ:=by
 refine Lc (LD) Tryd.func68 (by decide) Adn Ado (np:=1) (by decide) Rk (fun _=>r) (fun _=>r) (by decide)<|?_
 intro n1
 show TrE (specs []) AaB (Ld [] .ground [(.t 2)] RI RH) ⟨[(0,.int .i64 n1)],[],262144⟩ (Mz n1)
 refine KQ<|?_
 unfold AaB Mz
 refine sQ<|rG<|aS r r<|nI<|xS<|sQ<|rG<|mV r r<|bN (v:=.bool (decide (n1 ≥ 0))) r r r r r<|mV r r<|sP 5 (b:=(decide (n1 ≥ 0))) r ?_ ?_
 ·refine mV r r<|bN (v:=.bool (decide (n1 < 512))) r r r r r<|pT r r r r<|aS r r<|nI<|xS<|rT<|KN (b:=(decide (n1 < 512))) r ?_ r r ?_ r
  all_goals first|(simp;done)|(simp;omega)|rfl|(simp [KB,Kx];done)
 ·refine oF r<|oF r<|pF r r r r<|aS r r<|nI<|xS<|rT<|KN (b:=false) r ?_ r r ?_ r
  all_goals first|(simp;done)|(simp;omega)|rfl|(simp [KB,Kx];done)

def Aay : KH:=(.seq (.reg [M 7 1,P 8 (.cvt .u64 (T 7)),P 9 (.bin .rem (T 8) (.c (.int .u64 64))),P 10 (.bin .shl (.c (.int .u64 1)) (T 9)),P 6 (.asg (T 10) none)] false) (.block 0 (.seq (.reg [M 22 1,P 23 (.call (.c (.clo 68 [])) [(T 22)]),P 24 (.un .not (T 23)),P 21 (.asg (T 24) none)] false) (.cond (T 21) .skip (.seq (.reg [M 26 2,P 25 (.asg (T 26) none)] false) (.cond (T 25) (.reg [M 27 0,M 28 1,⟨(some 29),(.bin .quo (T 28) (C 64)),none,[1]⟩,⟨(some 30),(.nilck (T 27)),none,[0]⟩,⟨(some 31),(.ixP 1 8 (T 30) (T 29)),none,[3,2]⟩,⟨(some 32),(.ld 1 false (T 31)),none,[4]⟩,M 33 6,⟨(some 34),(.bin .or (T 32) (T 33)),none,[5,6]⟩,⟨(some 35),(.nilck (T 27)),none,[0]⟩,⟨(some 36),(.ixP 1 8 (T 35) (T 29)),none,[8,2,0,1,2,3,4,5,6,7]⟩,⟨none,(.st 1 (T 36) (T 34)),none,[9,7,0,1,2,3,4,5,6,7]⟩] true) (.reg [M 11 0,M 12 1,⟨(some 13),(.bin .quo (T 12) (C 64)),none,[1]⟩,⟨(some 14),(.nilck (T 11)),none,[0]⟩,⟨(some 15),(.ixP 1 8 (T 14) (T 13)),none,[3,2]⟩,⟨(some 16),(.ld 1 false (T 15)),none,[4]⟩,M 17 6,⟨(some 18),(.bin .andNot (T 16) (T 17)),none,[5,6]⟩,⟨(some 19),(.nilck (T 11)),none,[0]⟩,⟨(some 20),(.ixP 1 8 (T 19) (T 13)),none,[8,2,0,1,2,3,4,5,6,7]⟩,⟨none,(.st 1 (T 20) (T 18)),none,[9,7,0,1,2,3,4,5,6,7]⟩] true)))))))
theorem Adh : (Tryd.f53.body.bind (KJ Tryd.prog Tryd.f53.ntmps)) = some Aay:=by kernel_rfl
theorem Adi : Tryd.f53.results.toList.mapM (KY Tryd.prog) = some []:=by kernel_rfl
def NX (a : Ks × Int × Bool) : List D:=[Li a.1,.int .i64 a.2.1,.bool a.2.2]
def NW (ds : List D) : Ks × Int × Bool:=(MI (ds.getD 0 .top),uI (ds.getD 1 .top),uBo (ds.getD 2 .top))
theorem Ol (a : Ks × Int × Bool) : NW (NX a) = a:=by simp [NW,NX,uI,uBo]
def Ri (b : Ks) : D:=.tup []
def Rh (b : Ks) : List D:=[Li b]
noncomputable def Mu : Dw.Spec:=KI [(0,(8,91))] .val NX NW (fun a=>LN a.1 a.2.1 a.2.2) Ri Rh
set_option maxHeartbeats 4000000 in
theorem QX : KF Tryd.prog 53 Mu:=by
 refine Lc (KW (l:=[(68,OZ)]) (by simp [Vk])) Tryd.func53 (by decide) Adh Adi (np:=3) (by decide) Ol (fun _=>r) (fun _=>r) (by decide)<|?_
 rintro ⟨s1,n2,in3⟩
 show TrE (specs [(68,OZ)]) Aay (Ld [(0,(8,91))] .val [] Ri Rh) ⟨[(0,.optr 8192 0 0 0),(1,.int .i64 n2),(2,.bool in3)],[(8192,some (0,⟨false,true,8,91,[.agg [.int .u64 s1.a0,.int .u64 s1.a1,.int .u64 s1.a2,.int .u64 s1.a3,.int .u64 s1.a4,.int .u64 s1.a5,.int .u64 s1.a6,.int .u64 s1.a7]]⟩))],262144⟩ (LN s1 n2 in3)
 refine KQ<|?_
 unfold Aay LN
 refine sQ<|rG<|mV r r<|cT r r<|bN (v:=.int .u64 ((IntKind.u64.wrap (n2)).tmod 64)) r r r r ⟨rfl,(by decide)⟩<|cK fun hq=>bN (v:=.int .u64 (IntKind.u64.wrap (1 * 2 ^ (Nat.min ((IntKind.u64.wrap (n2)).tmod 64).toNat IntKind.u64.bits)))) r r r r hq<|aS r r<|nI<|xS<|bK<|sQ<|rG<|mV r r<|bD fun r4 hr4=>cG n2 r r r Rk r r (by simp) r hr4 r<|uN (w:=.bool (!r4)) r r r r trivial<|aS r r<|nI<|xS<|cD (c:=(!r4)) r ?_ ?_
 ·refine sK<|bM<|Uz (b:=s1) r ?_ r r ?_ r (by decide)
  all_goals first|(simp;done)|(simp;omega)|rfl|(simp [KB,Kx];done)
 ·refine sQ<|rG<|mV r r<|aS r r<|nI<|xS<|cD (c:=in3) r ?_ ?_
  ·refine rG<|mV r r<|mV r r<|bN (v:=.int .i64 (IntKind.i64.wrap (n2.tdiv 64))) r r r r ⟨rfl,(by decide)⟩<|nC r r r<|cK fun hq=>Rc r r r hq<|bD fun s_e5 hs_e5=>RE (q:=s_e5) (l:=s1.toList) (en:=TE) (j:=(IntKind.i64.wrap (n2.tdiv 64)).toNat) (by simp) r r r hs_e5 r (fun _=>r)<|mV r r<|bN (v:=.int .u64 (IntKind.u64.wrap ((BitVec.ofInt IntKind.u64.bits s_e5 ||| BitVec.ofInt IntKind.u64.bits (IntKind.u64.wrap (1 * 2 ^ (Nat.min ((IntKind.u64.wrap (n2)).tmod 64).toNat IntKind.u64.bits)))).toNat))) r r r r r<|nC r r r<|cK fun hq=>Rc r r r hq<|bD fun s_o6 hs_o6=>Us (q:=s_o6) (q':=IntKind.u64.wrap ((BitVec.ofInt IntKind.u64.bits s_e5 ||| BitVec.ofInt IntKind.u64.bits (IntKind.u64.wrap (1 * 2 ^ (Nat.min ((IntKind.u64.wrap (n2)).tmod 64).toNat IntKind.u64.bits)))).toNat)) (l:=s1.toList) (en:=TE) (j:=(IntKind.i64.wrap (n2.tdiv 64)).toNat) (z':=.agg [.int .u64 ((s1.set ((IntKind.i64.wrap (n2.tdiv 64)).toNat) (IntKind.u64.wrap ((BitVec.ofInt IntKind.u64.bits s_e5 ||| BitVec.ofInt IntKind.u64.bits (IntKind.u64.wrap (1 * 2 ^ (Nat.min ((IntKind.u64.wrap (n2)).tmod 64).toNat IntKind.u64.bits)))).toNat))).a0),.int .u64 ((s1.set ((IntKind.i64.wrap (n2.tdiv 64)).toNat) (IntKind.u64.wrap ((BitVec.ofInt IntKind.u64.bits s_e5 ||| BitVec.ofInt IntKind.u64.bits (IntKind.u64.wrap (1 * 2 ^ (Nat.min ((IntKind.u64.wrap (n2)).tmod 64).toNat IntKind.u64.bits)))).toNat))).a1),.int .u64 ((s1.set ((IntKind.i64.wrap (n2.tdiv 64)).toNat) (IntKind.u64.wrap ((BitVec.ofInt IntKind.u64.bits s_e5 ||| BitVec.ofInt IntKind.u64.bits (IntKind.u64.wrap (1 * 2 ^ (Nat.min ((IntKind.u64.wrap (n2)).tmod 64).toNat IntKind.u64.bits)))).toNat))).a2),.int .u64 ((s1.set ((IntKind.i64.wrap (n2.tdiv 64)).toNat) (IntKind.u64.wrap ((BitVec.ofInt IntKind.u64.bits s_e5 ||| BitVec.ofInt IntKind.u64.bits (IntKind.u64.wrap (1 * 2 ^ (Nat.min ((IntKind.u64.wrap (n2)).tmod 64).toNat IntKind.u64.bits)))).toNat))).a3),.int .u64 ((s1.set ((IntKind.i64.wrap (n2.tdiv 64)).toNat) (IntKind.u64.wrap ((BitVec.ofInt IntKind.u64.bits s_e5 ||| BitVec.ofInt IntKind.u64.bits (IntKind.u64.wrap (1 * 2 ^ (Nat.min ((IntKind.u64.wrap (n2)).tmod 64).toNat IntKind.u64.bits)))).toNat))).a4),.int .u64 ((s1.set ((IntKind.i64.wrap (n2.tdiv 64)).toNat) (IntKind.u64.wrap ((BitVec.ofInt IntKind.u64.bits s_e5 ||| BitVec.ofInt IntKind.u64.bits (IntKind.u64.wrap (1 * 2 ^ (Nat.min ((IntKind.u64.wrap (n2)).tmod 64).toNat IntKind.u64.bits)))).toNat))).a5),.int .u64 ((s1.set ((IntKind.i64.wrap (n2.tdiv 64)).toNat) (IntKind.u64.wrap ((BitVec.ofInt IntKind.u64.bits s_e5 ||| BitVec.ofInt IntKind.u64.bits (IntKind.u64.wrap (1 * 2 ^ (Nat.min ((IntKind.u64.wrap (n2)).tmod 64).toNat IntKind.u64.bits)))).toNat))).a6),.int .u64 ((s1.set ((IntKind.i64.wrap (n2.tdiv 64)).toNat) (IntKind.u64.wrap ((BitVec.ofInt IntKind.u64.bits s_e5 ||| BitVec.ofInt IntKind.u64.bits (IntKind.u64.wrap (1 * 2 ^ (Nat.min ((IntKind.u64.wrap (n2)).tmod 64).toNat IntKind.u64.bits)))).toNat))).a7)]) (by simp) r r r r r hs_o6 r r (congrArg (fun l=>D.agg (l.map TE)) (Mq s1 ((IntKind.i64.wrap (n2.tdiv 64)).toNat) (IntKind.u64.wrap ((BitVec.ofInt IntKind.u64.bits s_e5 ||| BitVec.ofInt IntKind.u64.bits (IntKind.u64.wrap (1 * 2 ^ (Nat.min ((IntKind.u64.wrap (n2)).tmod 64).toNat IntKind.u64.bits)))).toNat))).symm) r r<|KX (by kernel_rfl)<|bM<|Uz (b:=(s1.set ((IntKind.i64.wrap (n2.tdiv 64)).toNat) (IntKind.u64.wrap ((BitVec.ofInt IntKind.u64.bits s_e5 ||| BitVec.ofInt IntKind.u64.bits (IntKind.u64.wrap (1 * 2 ^ (Nat.min ((IntKind.u64.wrap (n2)).tmod 64).toNat IntKind.u64.bits)))).toNat)))) r ?_ r r ?_ r (by decide)
   all_goals first|(simp;done)|(simp;omega)|rfl|(simp [KB,Kx];done)
  ·refine rG<|mV r r<|mV r r<|bN (v:=.int .i64 (IntKind.i64.wrap (n2.tdiv 64))) r r r r ⟨rfl,(by decide)⟩<|nC r r r<|cK fun hq=>Rc r r r hq<|bD fun s_e7 hs_e7=>RE (q:=s_e7) (l:=s1.toList) (en:=TE) (j:=(IntKind.i64.wrap (n2.tdiv 64)).toNat) (by simp) r r r hs_e7 r (fun _=>r)<|mV r r<|bN (v:=.int .u64 (IntKind.u64.wrap ((BitVec.ofInt IntKind.u64.bits s_e7 &&& ~~~ BitVec.ofInt IntKind.u64.bits (IntKind.u64.wrap (1 * 2 ^ (Nat.min ((IntKind.u64.wrap (n2)).tmod 64).toNat IntKind.u64.bits)))).toNat))) r r r r r<|nC r r r<|cK fun hq=>Rc r r r hq<|bD fun s_o8 hs_o8=>Us (q:=s_o8) (q':=IntKind.u64.wrap ((BitVec.ofInt IntKind.u64.bits s_e7 &&& ~~~ BitVec.ofInt IntKind.u64.bits (IntKind.u64.wrap (1 * 2 ^ (Nat.min ((IntKind.u64.wrap (n2)).tmod 64).toNat IntKind.u64.bits)))).toNat)) (l:=s1.toList) (en:=TE) (j:=(IntKind.i64.wrap (n2.tdiv 64)).toNat) (z':=.agg [.int .u64 ((s1.set ((IntKind.i64.wrap (n2.tdiv 64)).toNat) (IntKind.u64.wrap ((BitVec.ofInt IntKind.u64.bits s_e7 &&& ~~~ BitVec.ofInt IntKind.u64.bits (IntKind.u64.wrap (1 * 2 ^ (Nat.min ((IntKind.u64.wrap (n2)).tmod 64).toNat IntKind.u64.bits)))).toNat))).a0),.int .u64 ((s1.set ((IntKind.i64.wrap (n2.tdiv 64)).toNat) (IntKind.u64.wrap ((BitVec.ofInt IntKind.u64.bits s_e7 &&& ~~~ BitVec.ofInt IntKind.u64.bits (IntKind.u64.wrap (1 * 2 ^ (Nat.min ((IntKind.u64.wrap (n2)).tmod 64).toNat IntKind.u64.bits)))).toNat))).a1),.int .u64 ((s1.set ((IntKind.i64.wrap (n2.tdiv 64)).toNat) (IntKind.u64.wrap ((BitVec.ofInt IntKind.u64.bits s_e7 &&& ~~~ BitVec.ofInt IntKind.u64.bits (IntKind.u64.wrap (1 * 2 ^ (Nat.min ((IntKind.u64.wrap (n2)).tmod 64).toNat IntKind.u64.bits)))).toNat))).a2),.int .u64 ((s1.set ((IntKind.i64.wrap (n2.tdiv 64)).toNat) (IntKind.u64.wrap ((BitVec.ofInt IntKind.u64.bits s_e7 &&& ~~~ BitVec.ofInt IntKind.u64.bits (IntKind.u64.wrap (1 * 2 ^ (Nat.min ((IntKind.u64.wrap (n2)).tmod 64).toNat IntKind.u64.bits)))).toNat))).a3),.int .u64 ((s1.set ((IntKind.i64.wrap (n2.tdiv 64)).toNat) (IntKind.u64.wrap ((BitVec.ofInt IntKind.u64.bits s_e7 &&& ~~~ BitVec.ofInt IntKind.u64.bits (IntKind.u64.wrap (1 * 2 ^ (Nat.min ((IntKind.u64.wrap (n2)).tmod 64).toNat IntKind.u64.bits)))).toNat))).a4),.int .u64 ((s1.set ((IntKind.i64.wrap (n2.tdiv 64)).toNat) (IntKind.u64.wrap ((BitVec.ofInt IntKind.u64.bits s_e7 &&& ~~~ BitVec.ofInt IntKind.u64.bits (IntKind.u64.wrap (1 * 2 ^ (Nat.min ((IntKind.u64.wrap (n2)).tmod 64).toNat IntKind.u64.bits)))).toNat))).a5),.int .u64 ((s1.set ((IntKind.i64.wrap (n2.tdiv 64)).toNat) (IntKind.u64.wrap ((BitVec.ofInt IntKind.u64.bits s_e7 &&& ~~~ BitVec.ofInt IntKind.u64.bits (IntKind.u64.wrap (1 * 2 ^ (Nat.min ((IntKind.u64.wrap (n2)).tmod 64).toNat IntKind.u64.bits)))).toNat))).a6),.int .u64 ((s1.set ((IntKind.i64.wrap (n2.tdiv 64)).toNat) (IntKind.u64.wrap ((BitVec.ofInt IntKind.u64.bits s_e7 &&& ~~~ BitVec.ofInt IntKind.u64.bits (IntKind.u64.wrap (1 * 2 ^ (Nat.min ((IntKind.u64.wrap (n2)).tmod 64).toNat IntKind.u64.bits)))).toNat))).a7)]) (by simp) r r r r r hs_o8 r r (congrArg (fun l=>D.agg (l.map TE)) (Mq s1 ((IntKind.i64.wrap (n2.tdiv 64)).toNat) (IntKind.u64.wrap ((BitVec.ofInt IntKind.u64.bits s_e7 &&& ~~~ BitVec.ofInt IntKind.u64.bits (IntKind.u64.wrap (1 * 2 ^ (Nat.min ((IntKind.u64.wrap (n2)).tmod 64).toNat IntKind.u64.bits)))).toNat))).symm) r r<|KX (by kernel_rfl)<|bM<|Uz (b:=(s1.set ((IntKind.i64.wrap (n2.tdiv 64)).toNat) (IntKind.u64.wrap ((BitVec.ofInt IntKind.u64.bits s_e7 &&& ~~~ BitVec.ofInt IntKind.u64.bits (IntKind.u64.wrap (1 * 2 ^ (Nat.min ((IntKind.u64.wrap (n2)).tmod 64).toNat IntKind.u64.bits)))).toNat)))) r ?_ r r ?_ r (by decide)
   all_goals first|(simp;done)|(simp;omega)|rfl|(simp [KB,Kx];done)

def Aal : KH:=(.seq (.reg [P 2 (.asg (.c .top) none)] false) (.seq (.reg [P 6 (.bld [(.int .u64 0),(.int .u64 0),(.int .u64 0),(.int .u64 0),(.int .u64 0),(.int .u64 0),(.int .u64 0),(.int .u64 0)] []),P 7 (.box (T 6) 8 91),P 3 (.asg (T 7) none)] false) (.seq (.seq (.reg [M 8 0,P 9 (.len false (T 8)),P 10 (.mv (C 0))] false) (.block 0 (.loop (.seq (.reg [P 11 (.bin .lss (T 10) (T 9))] false) (.seq (.cond (T 11) .skip (.exit 0)) (.seq (.block 1 (.seq (.reg [P 12 (.ixA 1 (T 8) (T 10)),P 13 (.ld 1 false (T 12)),P 5 (.asg (T 13) none)] false) (.reg [M 14 3,M 15 5,P 16 (.call (.c (.clo 53 [])) [(T 14),(T 15),(.c (.bool true))])] false))) (.reg [P 17 (.bin .add (T 10) (C 1)),M 10 17] false))))))) (.seq (.reg [M 18 3,P 2 (.asg (T 18) none)] false) .ret))))
theorem AcG : (Tryd.f38.body.bind (KJ Tryd.prog Tryd.f38.ntmps)) = some Aal:=by kernel_rfl
theorem AcH : Tryd.f38.results.toList.mapM (KY Tryd.prog) = some [(.t 2)]:=by kernel_rfl
def Qj (a : (List Int)) : List D:=[.sl (a.map Kp)]
def Qi (ds : List D) : (List Int):=(uL uI) (ds.getD 0 .top)
theorem Np (a : (List Int)) : Qi (Qj a) = a:=by simp [Qi,Qj,Nd (u:=uI) (en:=Kp) (fun _=>rfl)]
def Ul (b : Ks) : D:=Li b
def Uk (_b : Ks) : List D:=[]
noncomputable def Mt : Dw.Spec:=KI [] (.ptr 8 91) Qj Qi (fun a=>Mf a) Ul Uk
set_option maxHeartbeats 4000000 in
theorem QN : KF Tryd.prog 38 Mt:=by
 refine Lc (KW (l:=[(53,Mu)]) (by simp [QX])) Tryd.func38 (by decide) AcG AcH (np:=1) (by decide) Np (fun _=>r) (fun _=>r) (by decide)<|?_
 intro l1
 show TrE (specs [(53,Mu)]) Aal (Ld [] (.ptr 8 91) [(.t 2)] Ul Uk) ⟨[(0,.sl (l1.map Kp))],[],262144⟩ (Mf l1)
 refine KQ<|?_
 unfold Aal Mf
 refine sQ<|rG<|aS r r<|nI<|xS<|sQ<|rG<|bL (cs:=[.int .u64 0,.int .u64 0,.int .u64 0,.int .u64 0,.int .u64 0,.int .u64 0,.int .u64 0,.int .u64 0]) (ps:=[]) r r r r<|bX r r r r r<|aS r r<|nI<|xS<|sQ<|sQ<|rG<|mV r r<|lS r r<|mV r r<|nI<|xS<|bK<|lP (E:=fun (s : Ks × Int) (g : Nat)=>[(3,.optr 7 g 0 0),(8,.sl (l1.map Kp)),(9,.int .i64 (l1.length : Int)),(10,.int .i64 s.2)]) (O:=fun s g=>[(7,some (g,⟨false,true,8,91,[.agg [.int .u64 s.1.a0,.int .u64 s.1.a1,.int .u64 s.1.a2,.int .u64 s.1.a3,.int .u64 s.1.a4,.int .u64 s.1.a5,.int .u64 s.1.a6,.int .u64 s.1.a7]]⟩))]) (body:=fun s=>OG l1 s.1 s.2) (s:=((Ks.mk 0 0 0 0 0 0 0 0),0)) _ ((hE ⟨rfl,r,r,r,trivial⟩ ⟨rfl,trivial⟩))<|?_
 rintro ⟨x2,x3⟩ v7x1 nn
 try dsimp only
 unfold OG
 refine sQ<|rG<|bN (v:=.bool (decide (x3 < (l1.length : Int)))) r r r r r<|nI<|xS<|sQ<|cD (c:=(decide (x3 < (l1.length : Int)))) r ?_ ?_
 ·exact sK<|xS<|sQ<|bK<|sQ<|rG<|bD fun x_x4 hx_x4=>iS (en:=Kp) r r r hx_x4 r<|lF (v:=.int .i64 x_x4) r r r r<|aS r r<|nI<|xS<|rG<|mV r r<|mV r r<|bD fun r5 hr5=>cV (x2,x_x4,true) r r r Ol r r (by simp) r hr5<|nI<|bM<|xS<|rG<|bN (v:=.int .i64 (IntKind.i64.wrap (x3 + 1))) r r r r r<|mV r r<|nI<|xL (s:=(r5,IntKind.i64.wrap (x3 + 1))) _ ((hE ⟨rfl,r,r,r,trivial⟩ ⟨rfl,trivial⟩))
 ·refine eT<|xE<|lE<|bH<|xS<|sQ<|rG<|mV r r<|aS r r<|nI<|xS<|rT<|XD (b:=x2) r ?_ r ?_ r r ?_ r
  all_goals first|(simp;done)|(simp;omega)|rfl|(simp [KB,Kx];done)

def Aao : KH:=(.seq (.reg [⟨(some 2),(.asg (.c .nils) (some ⟨1,3⟩)),none,[]⟩] false) (.seq (.reg [⟨(some 3),(.asg (.c .nils) (some ⟨1,3⟩)),none,[]⟩] false) (.seq (.seq (.reg [M 6 0,P 7 (.mv (C 0))] false) (.block 0 (.loop (.seq (.reg [P 8 (.bin .lss (T 7) (C 8))] false) (.seq (.cond (T 8) .skip (.exit 0)) (.seq (.block 1 (.seq (.reg [M 9 7,P 10 (.nilck (T 6)),⟨(some 11),(.ixP 1 8 (T 10) (T 7)),none,[1]⟩,⟨(some 12),(.ld 1 false (T 11)),none,[2]⟩,⟨(some 4),(.asg (T 9) none),none,[0,0]⟩,⟨(some 5),(.asg (T 12) none),none,[3,4,0,1,2,3,4]⟩] true) (.block 2 (.loop (.seq (.seq (.reg [M 13 5,P 14 (.bin .neq (T 13) (.c (.int .u64 0)))] false) (.cond (T 14) .skip (.exit 2))) (.seq (.block 3 (.reg [M 19 3,M 20 4,P 21 (.bin .mul (C 64) (T 20)),M 22 5,P 23 (.call (.c (.clo 54 [])) [(T 22)]),P 24 (.bin .add (T 21) (T 23)),⟨(some 25),(.bldS 1 3 (.int .i64 0) 1 [⟨0,(T 24)⟩]),none,[]⟩,P 26 (.app 1 3 8 (T 19) (T 25)),⟨(some 3),(.asg (T 26) (some ⟨1,3⟩)),none,[]⟩] false)) (.reg [M 15 5,M 16 5,P 17 (.bin .sub (T 16) (.c (.int .u64 1))),P 18 (.bin .and (T 15) (T 17)),P 5 (.asg (T 18) none)] false))))))) (.reg [P 27 (.bin .add (T 7) (C 1)),M 7 27] false))))))) (.seq (.reg [M 28 3,⟨(some 2),(.asg (T 28) (some ⟨1,3⟩)),none,[]⟩] false) .ret))))
theorem AcM : (Tryd.f41.body.bind (KJ Tryd.prog Tryd.f41.ntmps)) = some Aao:=by kernel_rfl
theorem AcN : Tryd.f41.results.toList.mapM (KY Tryd.prog) = some [(.t 2)]:=by kernel_rfl
def NB (a : Ks) : List D:=[Li a]
def NA (ds : List D) : Ks:=MI (ds.getD 0 .top)
theorem ML (a : Ks) : NA (NB a) = a:=by simp [NA,NB]
def QW (b : (List Int) × Ks) : D:=.sl (b.1.map Kp)
def QV (b : (List Int) × Ks) : List D:=[Li b.2]
noncomputable def Ly : Dw.Spec:=KI [(0,(8,91))] (.row 1 3) NB NA (fun a=>Lx a) QW QV
set_option maxHeartbeats 4000000 in
theorem NV : KF Tryd.prog 41 Ly:=by
 refine Lc (KW (l:=[(54,Xv)]) (by simp [Abt])) Tryd.func41 (by decide) AcM AcN (np:=1) (by decide) ML (fun _=>r) (fun _=>r) (by decide)<|?_
 intro s1
 show TrE (specs [(54,Xv)]) Aao (Ld [(0,(8,91))] (.row 1 3) [(.t 2)] QW QV) ⟨[(0,.optr 8192 0 0 0)],[(8192,some (0,⟨false,true,8,91,[.agg [.int .u64 s1.a0,.int .u64 s1.a1,.int .u64 s1.a2,.int .u64 s1.a3,.int .u64 s1.a4,.int .u64 s1.a5,.int .u64 s1.a6,.int .u64 s1.a7]]⟩))],262144⟩ (Lx s1)
 refine KQ<|?_
 unfold Aao Lx
 refine sQ<|rG<|aN (α:=Int) r Kp r<|nI<|xS<|sQ<|rG<|aN (α:=Int) r Kp r<|nI<|xS<|sQ<|sQ<|rG<|mV r r<|mV r r<|nI<|xS<|bK<|lP (E:=fun (s : (List Int) × Int) (g : Nat)=>[(3,.osl 3 g 0 s.1.length),(6,.optr 8192 0 0 0),(7,.int .i64 s.2)]) (O:=fun s g=>[(3,some (g,⟨false,false,1,3,s.1.map Kp⟩)),(8192,some (0,⟨false,true,8,91,[.agg [.int .u64 s1.a0,.int .u64 s1.a1,.int .u64 s1.a2,.int .u64 s1.a3,.int .u64 s1.a4,.int .u64 s1.a5,.int .u64 s1.a6,.int .u64 s1.a7]]⟩))]) (body:=fun s=>MJ s1 s.1 s.2) (s:=(([] : List Int),0)) _ ((hE ⟨rfl,r,r,trivial⟩ ⟨rfl,r,trivial⟩))<|?_
 rintro ⟨l2,x3⟩ v3x1 nn
 try dsimp only
 unfold MJ
 refine sQ<|rG<|bN (v:=.bool (decide (x3 < 8))) r r r r r<|nI<|xS<|sQ<|cD (c:=(decide (x3 < 8))) r ?_ ?_
 ·refine sK<|xS<|sQ<|bK<|sQ<|rG<|mV r r<|nC r r r<|cK fun hq=>Rc r r r hq<|bD fun s_e4 hs_e4=>RE (q:=s_e4) (l:=s1.toList) (en:=TE) (j:=x3.toNat) (by simp) r r r hs_e4 r (fun _=>r)<|aS r r<|aS r r<|KX (by kernel_rfl)<|xS<|bK<|lP (E:=fun (s : (List Int) × Int) (g : Nat)=>[(3,.osl 3 g 0 s.1.length),(4,.int .i64 x3),(5,.int .u64 s.2),(6,.optr 8192 0 0 0),(7,.int .i64 x3)]) (O:=fun s g=>[(3,some (g,⟨false,false,1,3,s.1.map Kp⟩)),(8192,some (0,⟨false,true,8,91,[.agg [.int .u64 s1.a0,.int .u64 s1.a1,.int .u64 s1.a2,.int .u64 s1.a3,.int .u64 s1.a4,.int .u64 s1.a5,.int .u64 s1.a6,.int .u64 s1.a7]]⟩))]) (body:=fun s=>MK x3 s.1 s.2) (s:=(l2,s_e4)) _ ((hE ⟨rfl,r,r,r,r,trivial⟩ ⟨rfl,r,trivial⟩))<|?_
  rintro ⟨l5,x6⟩ v3x2 nn
  try dsimp only
  unfold MK
  refine sQ<|sQ<|rG<|mV r r<|bN (v:=.bool (x6 != 0)) r r r r r<|nI<|xS<|cD (c:=(x6 != 0)) r ?_ ?_
  ·exact sK<|xS<|sQ<|bK<|rG<|mV r r<|mV r r<|bN (v:=.int .i64 (IntKind.i64.wrap (64 * x3))) r r r r r<|mV r r<|bD fun r7 hr7=>cG x6 r r r YP r r (by simp) r hr7 r<|bN (v:=.int .i64 (IntKind.i64.wrap ((IntKind.i64.wrap (64 * x3)) + r7))) r r r r r<|bS ([IntKind.i64.wrap ((IntKind.i64.wrap (64 * x3)) + r7)] : List Int) Kp r r r (by simp) r r r<|cK fun hq=>aP (l5) (([IntKind.i64.wrap ((IntKind.i64.wrap (64 * x3)) + r7)] : List Int)) Kp r r r r r r r (by simp) (KG _ _ r) r r (by simp) (Kt _ _ r) (fun _=>r) r hq<|aO (l:=l5 ++ ([IntKind.i64.wrap ((IntKind.i64.wrap (64 * x3)) + r7)] : List Int)) (en:=Kp) r r r r<|nI<|bM<|xS<|rG<|mV r r<|mV r r<|bN (v:=.int .u64 (IntKind.u64.wrap (x6 - 1))) r r r r r<|bN (v:=.int .u64 (IntKind.u64.wrap ((BitVec.ofInt IntKind.u64.bits x6 &&& BitVec.ofInt IntKind.u64.bits (IntKind.u64.wrap (x6 - 1))).toNat))) r r r r r<|aS r r<|nI<|xL (s:=(l5 ++ ([IntKind.i64.wrap ((IntKind.i64.wrap (64 * x3)) + r7)] : List Int),IntKind.u64.wrap ((BitVec.ofInt IntKind.u64.bits x6 &&& BitVec.ofInt IntKind.u64.bits (IntKind.u64.wrap (x6 - 1))).toNat))) _ ((hE ⟨rfl,r,r,r,r,trivial⟩ ⟨rfl,r,trivial⟩))
  ·exact eT<|xE<|lE<|bH<|bM<|xS<|rG<|bN (v:=.int .i64 (IntKind.i64.wrap (x3 + 1))) r r r r r<|mV r r<|nI<|xL (s:=(l5,IntKind.i64.wrap (x3 + 1))) _ ((hE ⟨rfl,r,r,trivial⟩ ⟨rfl,r,trivial⟩))
 ·refine eT<|xE<|lE<|bH<|xS<|sQ<|rG<|mV r r<|aO (l:=l2) (en:=Kp) r r r r<|nI<|xS<|rT<|KV (b:=(l2,s1)) r ?_ r r ?_ r ?_ (congrArg D.sl (Kt _ _ r)) r
  all_goals first|(simp;done)|(simp;omega)|rfl|(simp [KB,Kx];done)

def Aaq : KH:=(.seq (.reg [⟨(some 4),(.asg (.c .nils) (some ⟨1,3⟩)),none,[]⟩] false) (.seq (.reg [M 6 0,P 7 (.call (.c (.clo 38 [])) [(T 6)]),P 5 (.asg (T 7) none)] false) (.seq (.reg [M 8 5,M 9 1,P 10 (.call (.c (.clo 53 [])) [(T 8),(T 9),(.c (.bool false))])] false) (.seq (.reg [M 11 5,P 12 (.call (.c (.clo 41 [])) [(T 11)]),⟨(some 4),(.asg (T 12) (some ⟨1,3⟩)),none,[]⟩] false) .ret))))
theorem AcQ : (Tryd.f43.body.bind (KJ Tryd.prog Tryd.f43.ntmps)) = some Aaq:=by kernel_rfl
theorem AcR : Tryd.f43.results.toList.mapM (KY Tryd.prog) = some [(.t 4)]:=by kernel_rfl
def Qh (a : (List Int) × Int) : List D:=[.sl (a.1.map Kp),.int .i64 a.2]
def Qg (ds : List D) : (List Int) × Int:=((uL uI) (ds.getD 0 .top),uI (ds.getD 1 .top))
theorem Ty (a : (List Int) × Int) : Qg (Qh a) = a:=by simp [Qg,Qh,uI,Nd (u:=uI) (en:=Kp) (fun _=>rfl)]
def Rf (b : (List Int)) : D:=.sl (b.map Kp)
def Ui (_b : (List Int)) : List D:=[]
noncomputable def Rg : Dw.Spec:=KI [] .val Qh Qg (fun a=>Na a.1 a.2) Rf Ui
set_option maxHeartbeats 4000000 in
theorem Xb : KF Tryd.prog 43 Rg:=by
 refine Lc (KW (l:=[(38,Mt),(53,Mu),(41,Ly)]) (by simp [QN,QX,NV])) Tryd.func43 (by decide) AcQ AcR (np:=2) (by decide) Ty (fun _=>r) (fun _=>r) (by decide)<|?_
 rintro ⟨s1,n2⟩
 show TrE (specs [(38,Mt),(53,Mu),(41,Ly)]) Aaq (Ld [] .val [(.t 4)] Rf Ui) ⟨[(0,.sl (s1.map Kp)),(1,.int .i64 n2)],[],262144⟩ (Na s1 n2)
 refine KQ<|?_
 unfold Aaq Na
 refine sQ<|rG<|aN (α:=Int) r Kp r<|nI<|xS<|sQ<|rG<|mV r r<|bD fun r3 hr3=>cP s1 r r r Np r r (by simp) r hr3<|aS r r<|nI<|xS<|sQ<|rG<|mV r r<|mV r r<|bD fun r4 hr4=>cV (r3,n2,false) r r r Ol r r (by simp) r hr4<|nI<|xS<|sQ<|rG<|mV r r<|bD fun r5 hr5=>cR (l:=r5.1) (en:=Kp) r4 r r r ML r r (by simp) r hr5 r<|aO (l:=r5.1) (en:=Kp) r r r r<|nI<|xS<|rT<|LF (b:=r5.1) r ?_ r r ?_ (by first | rfl | (simp only [KA]; rfl) | (simp only [KC]; rfl) | (simp only [KA,KC]; rfl) | simp [Rf])
 all_goals first|(simp;done)|(simp;omega)|rfl|(simp [KB,Kx];done)

def Aas : KH:=(.seq (.reg [P 1 (.box (T 0) 5 43),⟨(some 2),(.asg (.c .nils) (some ⟨1,3⟩)),none,[]⟩] false) (.seq (.seq (.reg [P 3 (.fldA 0 (T 1)),P 4 (.ld 1 false (T 3))] false) (.block 0 (.seq (.seq (.reg [P 6 (.bin .eql (T 4) (C 15)),P 5 (.asg (T 6) none)] false) (.cond (T 5) .skip (.reg [P 7 (.bin .eql (T 4) (C 17)),P 5 (.asg (T 7) none)] false))) (.cond (T 5) (.seq (.reg [P 8 (.fldA 2 (T 1)),P 9 (.ld 1 false (T 8)),⟨(some 10),(.bldS 1 3 (.int .i64 0) 1 [⟨0,(T 9)⟩]),none,[]⟩,⟨(some 2),(.asg (T 10) (some ⟨1,3⟩)),none,[]⟩] false) .ret) .skip)))) (.seq (.reg [⟨(some 2),(.asg (.c .nils) (some ⟨1,3⟩)),none,[]⟩] false) .ret)))
theorem AcU : (Tryd.f45.body.bind (KJ Tryd.prog Tryd.f45.ntmps)) = some Aas:=by kernel_rfl
theorem AcV : Tryd.f45.results.toList.mapM (KY Tryd.prog) = some [(.t 2)]:=by kernel_rfl
def Ro (a : Kq) : List D:=[Kr a]
def Rn (ds : List D) : Kq:=PT (ds.getD 0 .top)
theorem RQ (a : Kq) : Rn (Ro a) = a:=by simp [Rn,Ro]
def Vx (b : (List Int)) : D:=.sl (b.map Kp)
def Vw (_b : (List Int)) : List D:=[]
noncomputable def SN : Dw.Spec:=KI [] (.row 1 3) Ro Rn (fun a=>Oa a) Vx Vw
set_option maxHeartbeats 4000000 in
theorem Xy : KF Tryd.prog 45 SN:=by
 refine Lc (LD) Tryd.func45 (by decide) AcU AcV (np:=1) (by decide) RQ (fun _=>r) (fun _=>r) (by decide)<|?_
 intro x1
 show TrE (specs []) Aas (Ld [] (.row 1 3) [(.t 2)] Vx Vw) ⟨[(0,.agg [.int .i64 x1.Op,.int .i64 x1.A,.int .i64 x1.B,.int .i64 x1.C,.int .u64 x1.Imm])],[],262144⟩ (Oa x1)
 refine KQ<|?_
 unfold Aas Oa
 refine sQ<|rG<|bX r r r r r<|aN (α:=Int) r Kp r<|nI<|xS<|sQ<|sQ<|rG<|fA r r<|lO (v:=.int .i64 x1.Op) (z:=.agg [.int .i64 x1.Op,.int .i64 x1.A,.int .i64 x1.B,.int .i64 x1.C,.int .u64 x1.Imm]) r r r r r r<|nI<|xS<|bK<|sQ<|sQ<|rG<|bN (v:=.bool (x1.Op == 15)) r r r r r<|aS r r<|nI<|xS<|cD (c:=(x1.Op == 15)) r ?_ ?_
 ·refine sK<|xS<|cD (c:=(x1.Op == 15)) r ?_ ?_
  ·refine sQ<|rG<|fA r r<|lO (v:=.int .i64 x1.B) (z:=.agg [.int .i64 x1.Op,.int .i64 x1.A,.int .i64 x1.B,.int .i64 x1.C,.int .u64 x1.Imm]) r r r r r r<|bS ([x1.B] : List Int) Kp r r r (by simp) r r r<|aO (l:=([x1.B] : List Int)) (en:=Kp) r r r r<|nI<|xS<|rT<|bR<|xR<|KV (b:=([x1.B] : List Int)) r ?_ r r ?_ r ?_ (congrArg D.sl (Kt _ _ r)) r
   all_goals first|(simp;done)|(simp;omega)|rfl|(simp [KB,Kx];done)
  ·refine sK<|bM<|xS<|sQ<|rG<|aN (α:=Int) r Kp r<|nI<|xS<|rT<|KV (b:=([] : List Int)) r ?_ r r ?_ r ?_ (congrArg D.sl (Kt _ _ r)) r
   all_goals first|(simp;done)|(simp;omega)|rfl|(simp [KB,Kx];done)
 ·refine rG<|bN (v:=.bool (x1.Op == 17)) r r r r r<|aS r r<|nI<|xS<|cD (c:=(x1.Op == 17)) r ?_ ?_
  ·refine sQ<|rG<|fA r r<|lO (v:=.int .i64 x1.B) (z:=.agg [.int .i64 x1.Op,.int .i64 x1.A,.int .i64 x1.B,.int .i64 x1.C,.int .u64 x1.Imm]) r r r r r r<|bS ([x1.B] : List Int) Kp r r r (by simp) r r r<|aO (l:=([x1.B] : List Int)) (en:=Kp) r r r r<|nI<|xS<|rT<|bR<|xR<|KV (b:=([x1.B] : List Int)) r ?_ r r ?_ r ?_ (congrArg D.sl (Kt _ _ r)) r
   all_goals first|(simp;done)|(simp;omega)|rfl|(simp [KB,Kx];done)
  ·refine sK<|bM<|xS<|sQ<|rG<|aN (α:=Int) r Kp r<|nI<|xS<|rT<|KV (b:=([] : List Int)) r ?_ r r ?_ r ?_ (congrArg D.sl (Kt _ _ r)) r
   all_goals first|(simp;done)|(simp;omega)|rfl|(simp [KB,Kx];done)

def Aar : KH:=(.seq (.reg [⟨(some 2),(.asg (.c .nils) (some ⟨1,3⟩)),none,[]⟩] false) (.seq (.reg [M 3 0,P 4 (.call (.c (.clo 38 [])) [(T 3)]),P 5 (.call (.c (.clo 41 [])) [(T 4)]),⟨(some 2),(.asg (T 5) (some ⟨1,3⟩)),none,[]⟩] false) .ret))
theorem AcS : (Tryd.f44.body.bind (KJ Tryd.prog Tryd.f44.ntmps)) = some Aar:=by kernel_rfl
theorem AcT : Tryd.f44.results.toList.mapM (KY Tryd.prog) = some [(.t 2)]:=by kernel_rfl
def OO (a : (List Int)) : List D:=[.sl (a.map Kp)]
def SJ (ds : List D) : (List Int):=(uL uI) (ds.getD 0 .top)
theorem Tx (a : (List Int)) : SJ (OO a) = a:=by simp [SJ,OO,Nd (u:=uI) (en:=Kp) (fun _=>rfl)]
def WI (b : (List Int)) : D:=.sl (b.map Kp)
def WH (_b : (List Int)) : List D:=[]
noncomputable def Uu : Dw.Spec:=KI [] (.row 1 3) OO SJ (fun a=>OB a) WI WH
set_option maxHeartbeats 4000000 in
theorem Ye : KF Tryd.prog 44 Uu:=by
 refine Lc (KW (l:=[(38,Mt),(41,Ly)]) (by simp [QN,NV])) Tryd.func44 (by decide) AcS AcT (np:=1) (by decide) Tx (fun _=>r) (fun _=>r) (by decide)<|?_
 intro l1
 show TrE (specs [(38,Mt),(41,Ly)]) Aar (Ld [] (.row 1 3) [(.t 2)] WI WH) ⟨[(0,.sl (l1.map Kp))],[],262144⟩ (OB l1)
 refine KQ<|?_
 unfold Aar OB
 refine sQ<|rG<|aN (α:=Int) r Kp r<|nI<|xS<|sQ<|rG<|mV r r<|bD fun r2 hr2=>cP l1 r r r Np r r (by simp) r hr2<|bD fun r3 hr3=>cR (l:=r3.1) (en:=Kp) r2 r r r ML r r (by simp) r hr3 r<|aO (l:=r3.1) (en:=Kp) r r r r<|nI<|xS<|rT<|KV (b:=r3.1) r ?_ r r ?_ r ?_ (congrArg D.sl (Kt _ _ r)) r
 all_goals first|(simp;done)|(simp;omega)|rfl|(simp [KB,Kx];done)

def Aan : KH:=(.seq (.reg [P 4 (.asg (.c (.int .u64 0)) none)] false) (.seq (.reg [M 5 0,M 6 1,P 7 (.bin .or (T 5) (T 6)),P 4 (.asg (T 7) none)] false) .ret))
theorem AcK : (Tryd.f40.body.bind (KJ Tryd.prog Tryd.f40.ntmps)) = some Aan:=by kernel_rfl
theorem AcL : Tryd.f40.results.toList.mapM (KY Tryd.prog) = some [(.t 4)]:=by kernel_rfl
def Pw (a : Int × Int) : List D:=[.int .u64 a.1,.int .u64 a.2]
def Pv (ds : List D) : Int × Int:=(uI (ds.getD 0 .top),uI (ds.getD 1 .top))
theorem SY (a : Int × Int) : Pv (Pw a) = a:=by simp [Pv,Pw,uI]
def TA (b : Int) : D:=.int .u64 b
def Tz (_b : Int) : List D:=[]
noncomputable def QL : Dw.Spec:=KI [] .ground Pw Pv (fun a=>Nj a.1 a.2) TA Tz
set_option maxHeartbeats 4000000 in
theorem WC : KF Tryd.prog 40 QL:=by
 refine Lc (LD) Tryd.func40 (by decide) AcK AcL (np:=2) (by decide) SY (fun _=>r) (fun _=>r) (by decide)<|?_
 rintro ⟨x1,y2⟩
 show TrE (specs []) Aan (Ld [] .ground [(.t 4)] TA Tz) ⟨[(0,.int .u64 x1),(1,.int .u64 y2)],[],262144⟩ (Nj x1 y2)
 refine KQ<|?_
 unfold Aan Nj
 refine sQ<|rG<|aS r r<|nI<|xS<|sQ<|rG<|mV r r<|mV r r<|bN (v:=.int .u64 (IntKind.u64.wrap ((BitVec.ofInt IntKind.u64.bits x1 ||| BitVec.ofInt IntKind.u64.bits y2).toNat))) r r r r r<|aS r r<|nI<|xS<|rT<|KN (b:=IntKind.u64.wrap ((BitVec.ofInt IntKind.u64.bits x1 ||| BitVec.ofInt IntKind.u64.bits y2).toNat)) r ?_ r r ?_ r
 all_goals first|(simp;done)|(simp;omega)|rfl|(simp [KB,Kx];done)

def Aam : KH:=(.seq (.reg [P 6 (.asg (.c .top) none)] false) (.seq (.reg [P 9 (.bld [(.int .u64 0),(.int .u64 0),(.int .u64 0),(.int .u64 0),(.int .u64 0),(.int .u64 0),(.int .u64 0),(.int .u64 0)] []),P 10 (.box (T 9) 8 91),P 7 (.asg (T 10) none)] false) (.seq (.seq (.reg [P 11 (.mv (C 0))] false) (.block 0 (.loop (.seq (.reg [P 12 (.bin .lss (T 11) (C 8))] false) (.seq (.cond (T 12) .skip (.exit 0)) (.seq (.block 1 (.seq (.reg [M 13 11,P 8 (.asg (T 13) none)] false) (.reg [M 14 7,M 15 8,M 16 2,M 17 0,M 18 8,⟨(some 19),(.nilck (T 17)),none,[3]⟩,⟨(some 20),(.ixP 1 8 (T 19) (T 18)),none,[5,4]⟩,⟨(some 21),(.ld 1 false (T 20)),none,[6]⟩,M 22 1,M 23 8,⟨(some 24),(.nilck (T 22)),none,[8]⟩,⟨(some 25),(.ixP 1 8 (T 24) (T 23)),none,[10,9]⟩,⟨(some 26),(.ld 1 false (T 25)),none,[11]⟩,⟨(some 27),(.call (T 16) [(T 21),(T 26)]),none,[2,7,12]⟩,⟨(some 28),(.nilck (T 14)),none,[0]⟩,⟨(some 29),(.ixP 1 8 (T 28) (T 15)),none,[14,1,0,1,2,3,4,5,6,7,8,9,10,11,12,13]⟩,⟨none,(.st 1 (T 29) (T 27)),none,[15,13,13,0,1,2,3,4,5,6,7,8,9,10,11,12,13]⟩] true))) (.reg [P 30 (.bin .add (T 11) (C 1)),M 11 30] false))))))) (.seq (.reg [M 31 7,P 6 (.asg (T 31) none)] false) .ret))))
theorem AcI : (Tryd.f39.body.bind (KJ Tryd.prog Tryd.f39.ntmps)) = some Aam:=by kernel_rfl
theorem AcJ : Tryd.f39.results.toList.mapM (KY Tryd.prog) = some [(.t 6)]:=by kernel_rfl
def Mp (a : Ks × Ks) : List D:=[Li a.1,Li a.2,.clo 40 []]
def Mo (ds : List D) : Ks × Ks:=(MI (ds.getD 0 .top),MI (ds.getD 1 .top))
theorem NM (a : Ks × Ks) : Mo (Mp a) = a:=by simp [Mo,Mp]
def Oe (b : Ks × Ks × Ks) : D:=Li b.1
def Od (b : Ks × Ks × Ks) : List D:=[Li b.2.1,Li b.2.2]
noncomputable def LM : Dw.Spec:=KI [(0,(8,91)),(1,(8,91))] (.ptr 8 91) Mp Mo (fun a=>Lr a.1 a.2) Oe Od
set_option maxHeartbeats 4000000 in
theorem Rj : KF Tryd.prog 39 LM:=by
 refine Lc (KW (l:=[(40,QL)]) (by simp [WC])) Tryd.func39 (by decide) AcI AcJ (np:=3) (by decide) NM (fun _=>r) (fun _=>r) (by decide)<|?_
 rintro ⟨s1,t2⟩
 show TrE (specs [(40,QL)]) Aam (Ld [(0,(8,91)),(1,(8,91))] (.ptr 8 91) [(.t 6)] Oe Od) ⟨[(0,.optr 8192 0 0 0),(1,.optr 8193 1 0 0),(2,.clo 40 [])],[(8192,some (0,⟨false,true,8,91,[.agg [.int .u64 s1.a0,.int .u64 s1.a1,.int .u64 s1.a2,.int .u64 s1.a3,.int .u64 s1.a4,.int .u64 s1.a5,.int .u64 s1.a6,.int .u64 s1.a7]]⟩)),(8193,some (1,⟨false,true,8,91,[.agg [.int .u64 t2.a0,.int .u64 t2.a1,.int .u64 t2.a2,.int .u64 t2.a3,.int .u64 t2.a4,.int .u64 t2.a5,.int .u64 t2.a6,.int .u64 t2.a7]]⟩))],262144⟩ (Lr s1 t2)
 refine KQ<|?_
 unfold Aam Lr
 refine sQ<|rG<|aS r r<|nI<|xS<|sQ<|rG<|bL (cs:=[.int .u64 0,.int .u64 0,.int .u64 0,.int .u64 0,.int .u64 0,.int .u64 0,.int .u64 0,.int .u64 0]) (ps:=[]) r r r r<|bX r r r r r<|aS r r<|nI<|xS<|sQ<|sQ<|rG<|mV r r<|nI<|xS<|bK<|lP (E:=fun (s : Ks × Int) (g : Nat)=>[(0,.optr 8192 0 0 0),(1,.optr 8193 1 0 0),(2,.clo 40 []),(7,.optr 10 g 0 0),(11,.int .i64 s.2)]) (O:=fun s g=>[(10,some (g,⟨false,true,8,91,[.agg [.int .u64 s.1.a0,.int .u64 s.1.a1,.int .u64 s.1.a2,.int .u64 s.1.a3,.int .u64 s.1.a4,.int .u64 s.1.a5,.int .u64 s.1.a6,.int .u64 s.1.a7]]⟩)),(8192,some (0,⟨false,true,8,91,[.agg [.int .u64 s1.a0,.int .u64 s1.a1,.int .u64 s1.a2,.int .u64 s1.a3,.int .u64 s1.a4,.int .u64 s1.a5,.int .u64 s1.a6,.int .u64 s1.a7]]⟩)),(8193,some (1,⟨false,true,8,91,[.agg [.int .u64 t2.a0,.int .u64 t2.a1,.int .u64 t2.a2,.int .u64 t2.a3,.int .u64 t2.a4,.int .u64 t2.a5,.int .u64 t2.a6,.int .u64 t2.a7]]⟩))]) (body:=fun s=>Ls s1 t2 s.1 s.2) (s:=((Ks.mk 0 0 0 0 0 0 0 0),0)) _ ((hE ⟨rfl,r,r,r,r,trivial⟩ ⟨rfl,r,r,trivial⟩))<|?_
 rintro ⟨x3,x4⟩ v10x1 nn
 try dsimp only
 unfold Ls
 refine sQ<|rG<|bN (v:=.bool (decide (x4 < 8))) r r r r r<|nI<|xS<|sQ<|cD (c:=(decide (x4 < 8))) r ?_ ?_
 ·exact sK<|xS<|sQ<|bK<|sQ<|rG<|mV r r<|aS r r<|nI<|xS<|rG<|mV r r<|mV r r<|mV r r<|mV r r<|mV r r<|nC r r r<|cK fun hq=>Rc r r r hq<|bD fun s_e5 hs_e5=>RE (q:=s_e5) (l:=s1.toList) (en:=TE) (j:=x4.toNat) (by simp) r r r hs_e5 r (fun _=>r)<|mV r r<|mV r r<|nC r r r<|cK fun hq=>Rc r r r hq<|bD fun t_e6 ht_e6=>RE (q:=t_e6) (l:=t2.toList) (en:=TE) (j:=x4.toNat) (by simp) r r r ht_e6 r (fun _=>r)<|bD fun r7 hr7=>cG (s_e5,t_e6) r r r SY r r (by simp) r hr7 r<|nC r r r<|cK fun hq=>Rc r r r hq<|bD fun x_o8 hx_o8=>Zd (q:=x_o8) (q':=r7) (l:=x3.toList) (en:=TE) (j:=x4.toNat) (z':=.agg [.int .u64 ((x3.set x4.toNat r7).a0),.int .u64 ((x3.set x4.toNat r7).a1),.int .u64 ((x3.set x4.toNat r7).a2),.int .u64 ((x3.set x4.toNat r7).a3),.int .u64 ((x3.set x4.toNat r7).a4),.int .u64 ((x3.set x4.toNat r7).a5),.int .u64 ((x3.set x4.toNat r7).a6),.int .u64 ((x3.set x4.toNat r7).a7)]) (by simp) r r r r r hx_o8 r r (congrArg (fun l=>D.agg (l.map TE)) (Mq x3 x4.toNat r7).symm)<|KX (by kernel_rfl)<|bM<|xS<|rG<|bN (v:=.int .i64 (IntKind.i64.wrap (x4 + 1))) r r r r r<|mV r r<|nI<|xL (s:=((x3.set x4.toNat r7),IntKind.i64.wrap (x4 + 1))) _ ((hE ⟨rfl,r,r,r,r,trivial⟩ ⟨rfl,r,r,trivial⟩))
 ·refine eT<|xE<|lE<|bH<|xS<|sQ<|rG<|mV r r<|aS r r<|nI<|xS<|rT<|XD (b:=(x3,s1,t2)) r ?_ r ?_ r r ?_ r
  all_goals first|(simp;done)|(simp;omega)|rfl|(simp [KB,Kx];done)

def Aab : KH:=(.seq (.reg [⟨(some 4),(.asg (.c .nils) (some ⟨1,3⟩)),none,[]⟩] false) (.seq (.reg [M 5 0,P 6 (.call (.c (.clo 38 [])) [(T 5)]),M 7 1,P 8 (.call (.c (.clo 38 [])) [(T 7)]),P 9 (.call (.c (.clo 39 [])) [(T 6),(T 8),(.c (.clo 40 []))]),P 10 (.call (.c (.clo 41 [])) [(T 9)]),⟨(some 4),(.asg (T 10) (some ⟨1,3⟩)),none,[]⟩] false) .ret))
theorem Acl : (Tryd.f26.body.bind (KJ Tryd.prog Tryd.f26.ntmps)) = some Aab:=by kernel_rfl
theorem Acm : Tryd.f26.results.toList.mapM (KY Tryd.prog) = some [(.t 4)]:=by kernel_rfl
def Nn (a : (List Int) × (List Int)) : List D:=[.sl (a.1.map Kp),.sl (a.2.map Kp)]
def QM (ds : List D) : (List Int) × (List Int):=((uL uI) (ds.getD 0 .top),(uL uI) (ds.getD 1 .top))
theorem Pr (a : (List Int) × (List Int)) : QM (Nn a) = a:=by simp [QM,Nn,Nd (u:=uI) (en:=Kp) (fun _=>rfl)]
def RN (b : (List Int)) : D:=.sl (b.map Kp)
def UF (_b : (List Int)) : List D:=[]
noncomputable def Ok : Dw.Spec:=KI [] .val Nn QM (fun a=>Mr a.1 a.2) RN UF
set_option maxHeartbeats 4000000 in
theorem Uj : KF Tryd.prog 26 Ok:=by
 refine Lc (KW (l:=[(38,Mt),(167975,LM),(41,Ly)]) (by simp [QN,Rj,NV])) Tryd.func26 (by decide) Acl Acm (np:=2) (by decide) Pr (fun _=>r) (fun _=>r) (by decide)<|?_
 rintro ⟨a1,b2⟩
 show TrE (specs [(38,Mt),(167975,LM),(41,Ly)]) Aab (Ld [] .val [(.t 4)] RN UF) ⟨[(0,.sl (a1.map Kp)),(1,.sl (b2.map Kp))],[],262144⟩ (Mr a1 b2)
 refine KQ<|?_
 unfold Aab Mr
 refine sQ<|rG<|aN (α:=Int) r Kp r<|nI<|xS<|sQ<|rG<|mV r r<|bD fun r3 hr3=>cP a1 r r r Np r r (by simp) r hr3<|mV r r<|bD fun r4 hr4=>cP b2 r r r Np r r (by simp) rfl hr4<|bD fun r5 hr5=>cP (r3,r4) rfl rfl (show _ = some LM from by kernel_rfl) NM rfl rfl (by simp) r hr5<|bD fun r6 hr6=>cR (l:=r6.1) (en:=Kp) r5.1 r r r ML r r (by simp) r hr6 r<|aO (l:=r6.1) (en:=Kp) r r r r<|nI<|xS<|rT<|LF (b:=r6.1) r ?_ r r ?_ (by first | rfl | (simp only [KA]; rfl) | (simp only [KC]; rfl) | (simp only [KA,KC]; rfl) | simp [RN])
 all_goals first|(simp;done)|(simp;omega)|rfl|(simp [KB,Kx];done)

def Aac : KH:=(.seq (.reg [P 2 (.box (T 0) 5 43),⟨(some 4),(.asg (.c .nils) (some ⟨1,3⟩)),none,[]⟩] false) (.seq (.seq (.reg [P 8 (.ld 5 true (T 2)),P 9 (.call (.c (.clo 42 [])) [(T 8)]),M 7 9,P 10 (.ext (T 7) 0),P 11 (.ext (T 7) 1),P 5 (.asg (T 10) none),P 6 (.asg (T 11) none)] false) (.seq (.reg [M 12 6] false) (.cond (T 12) (.reg [M 13 1,M 14 5,P 15 (.call (.c (.clo 43 [])) [(T 13),(T 14)]),⟨(some 1),(.asg (T 15) (some ⟨1,3⟩)),none,[]⟩] false) .skip))) (.seq (.reg [M 16 1,P 17 (.ld 5 true (T 2)),P 18 (.call (.c (.clo 45 [])) [(T 17)]),P 19 (.call (.c (.clo 44 [])) [(T 18)]),P 20 (.call (.c (.clo 26 [])) [(T 16),(T 19)]),⟨(some 4),(.asg (T 20) (some ⟨1,3⟩)),none,[]⟩] false) .ret)))
theorem Acn : (Tryd.f27.body.bind (KJ Tryd.prog Tryd.f27.ntmps)) = some Aac:=by kernel_rfl
theorem Aco : Tryd.f27.results.toList.mapM (KY Tryd.prog) = some [(.t 4)]:=by kernel_rfl
def SM (a : Kq × (List Int)) : List D:=[Kr a.1,.sl (a.2.map Kp)]
def SL (ds : List D) : Kq × (List Int):=(PT (ds.getD 0 .top),(uL uI) (ds.getD 1 .top))
theorem VV (a : Kq × (List Int)) : SL (SM a) = a:=by simp [SL,SM,Nd (u:=uI) (en:=Kp) (fun _=>rfl)]
def WO (b : (List Int)) : D:=.sl (b.map Kp)
def WN (_b : (List Int)) : List D:=[]
noncomputable def Uy : Dw.Spec:=KI [] .val SM SL (fun a=>Rb a.1 a.2) WO WN
set_option maxHeartbeats 4000000 in
theorem Yi : KF Tryd.prog 27 Uy:=by
 refine Lc (KW (l:=[(42,QO),(43,Rg),(45,SN),(44,Uu),(26,Ok)]) (by simp [WD,Xb,Xy,Ye,Uj])) Tryd.func27 (by decide) Acn Aco (np:=2) (by decide) VV (fun _=>r) (fun _=>r) (by decide)<|?_
 rintro ⟨x1,out2⟩
 show TrE (specs [(42,QO),(43,Rg),(45,SN),(44,Uu),(26,Ok)]) Aac (Ld [] .val [(.t 4)] WO WN) ⟨[(0,.agg [.int .i64 x1.Op,.int .i64 x1.A,.int .i64 x1.B,.int .i64 x1.C,.int .u64 x1.Imm]),(1,.sl (out2.map Kp))],[],262144⟩ (Rb x1 out2)
 refine KQ<|?_
 unfold Aac Rb
 refine sQ<|rG<|bX r r r r r<|aN (α:=Int) r Kp r<|nI<|xS<|sQ<|sQ<|rG<|lO (v:=.agg [.int .i64 x1.Op,.int .i64 x1.A,.int .i64 x1.B,.int .i64 x1.C,.int .u64 x1.Imm]) (z:=.agg [.int .i64 x1.Op,.int .i64 x1.A,.int .i64 x1.B,.int .i64 x1.C,.int .u64 x1.Imm]) r r r r r r<|bD fun r3 hr3=>cG x1 r r r Tl r r (by simp) r hr3 r<|mV r r<|eX (v:=.int .i64 r3.1) r r r<|eX (v:=.bool r3.2) r r r<|aS r r<|aS r r<|nI<|xS<|sQ<|rG<|mV r r<|nI<|xS<|cD (c:=r3.2) r ?_ ?_
 ·refine rG<|mV r r<|mV r r<|bD fun r4 hr4=>cV (out2,r3.1) r r r Ty r r (by simp) r hr4<|aL r r<|nI<|xS<|sQ<|rG<|mV r r<|lO (v:=.agg [.int .i64 x1.Op,.int .i64 x1.A,.int .i64 x1.B,.int .i64 x1.C,.int .u64 x1.Imm]) (z:=.agg [.int .i64 x1.Op,.int .i64 x1.A,.int .i64 x1.B,.int .i64 x1.C,.int .u64 x1.Imm]) r r r r r r<|bD fun r5 hr5=>cR (l:=r5) (en:=Kp) x1 r r r RQ r r (by simp) r hr5 r<|bD fun r6 hr6=>cR (l:=r6) (en:=Kp) r5 r r r Tx r r (by simp) (by first | rfl | (simp only [KA]; rfl) | (simp only [KC]; rfl) | (simp only [KA,KC]; rfl) | simp [OO]) hr6 r<|bD fun r7 hr7=>cV (r4,r6) r r r Pr r r (by simp) (by first | rfl | (simp only [KA]; rfl) | (simp only [KC]; rfl) | (simp only [KA,KC]; rfl) | simp [Nn]) hr7<|aL r r<|nI<|xS<|rT<|LF (b:=r7) r ?_ r r ?_ r
  all_goals first|(simp;done)|(simp;omega)|rfl|(simp [KB,Kx];done)
 ·refine sK<|xS<|sQ<|rG<|mV r r<|lO (v:=.agg [.int .i64 x1.Op,.int .i64 x1.A,.int .i64 x1.B,.int .i64 x1.C,.int .u64 x1.Imm]) (z:=.agg [.int .i64 x1.Op,.int .i64 x1.A,.int .i64 x1.B,.int .i64 x1.C,.int .u64 x1.Imm]) r r r r r r<|bD fun r8 hr8=>cR (l:=r8) (en:=Kp) x1 r r r RQ r r (by simp) r hr8 r<|bD fun r9 hr9=>cR (l:=r9) (en:=Kp) r8 r r r Tx r r (by simp) (by first | rfl | (simp only [KA]; rfl) | (simp only [KC]; rfl) | (simp only [KA,KC]; rfl) | simp [OO]) hr9 r<|bD fun r10 hr10=>cV (out2,r9) r r r Pr r r (by simp) (by first | rfl | (simp only [KA]; rfl) | (simp only [KC]; rfl) | (simp only [KA,KC]; rfl) | simp [Nn]) hr10<|aL r r<|nI<|xS<|rT<|LF (b:=r10) r ?_ r r ?_ r
  all_goals first|(simp;done)|(simp;omega)|rfl|(simp [KB,Kx];done)

def ZS : KH:=(.seq (.reg [P 4 (.asg (.c (.bool false)) none)] false) (.seq (.seq (.reg [M 6 0,P 7 (.len false (T 6)),M 8 1,P 9 (.len false (T 8)),P 10 (.bin .neq (T 7) (T 9))] false) (.cond (T 10) (.seq (.reg [P 4 (.asg (.c (.bool false)) none)] false) .ret) .skip)) (.seq (.seq (.reg [M 11 0,P 12 (.len false (T 11)),P 13 (.mv (C 0))] false) (.block 0 (.loop (.seq (.reg [P 14 (.bin .lss (T 13) (T 12))] false) (.seq (.cond (T 14) .skip (.exit 0)) (.seq (.block 1 (.seq (.reg [M 15 13,P 5 (.asg (T 15) none)] false) (.seq (.reg [M 16 0,M 17 5,⟨(some 18),(.ixA 1 (T 16) (T 17)),none,[0,1]⟩,⟨(some 19),(.ld 1 false (T 18)),none,[2]⟩,M 20 1,M 21 5,⟨(some 22),(.ixA 1 (T 20) (T 21)),none,[4,5]⟩,⟨(some 23),(.ld 1 false (T 22)),none,[6]⟩,⟨(some 24),(.bin .neq (T 19) (T 23)),none,[3,7]⟩] true) (.cond (T 24) (.seq (.reg [P 4 (.asg (.c (.bool false)) none)] false) .ret) .skip)))) (.reg [P 25 (.bin .add (T 13) (C 1)),M 13 25] false))))))) (.seq (.reg [P 4 (.asg (.c (.bool true)) none)] false) .ret))))
theorem AbS : (Tryd.f17.body.bind (KJ Tryd.prog Tryd.f17.ntmps)) = some ZS:=by kernel_rfl
theorem AbT : Tryd.f17.results.toList.mapM (KY Tryd.prog) = some [(.t 4)]:=by kernel_rfl
def Nt (a : (List Int) × (List Int)) : List D:=[.sl (a.1.map Kp),.sl (a.2.map Kp)]
def Ns (ds : List D) : (List Int) × (List Int):=((uL uI) (ds.getD 0 .top),(uL uI) (ds.getD 1 .top))
theorem Qf (a : (List Int) × (List Int)) : Ns (Nt a) = a:=by simp [Ns,Nt,Nd (u:=uI) (en:=Kp) (fun _=>rfl)]
def QA (b : Bool) : D:=.bool b
def Qz (_b : Bool) : List D:=[]
noncomputable def Oc : Dw.Spec:=KI [] .ground Nt Ns (fun a=>LX a.1 a.2) QA Qz
set_option maxHeartbeats 4000000 in
theorem Uh : KF Tryd.prog 17 Oc:=by
 refine Lc (LD) Tryd.func17 (by decide) AbS AbT (np:=2) (by decide) Qf (fun _=>r) (fun _=>r) (by decide)<|?_
 rintro ⟨s11,s22⟩
 show TrE (specs []) ZS (Ld [] .ground [(.t 4)] QA Qz) ⟨[(0,.sl (s11.map Kp)),(1,.sl (s22.map Kp))],[],262144⟩ (LX s11 s22)
 refine KQ<|?_
 unfold ZS LX
 refine sQ<|rG<|aS r r<|nI<|xS<|sQ<|sQ<|rG<|mV r r<|lS r r<|mV r r<|lS r r<|bN (v:=.bool ((s11.length : Int) != (s22.length : Int))) r r r r r<|nI<|xS<|cD (c:=((s11.length : Int) != (s22.length : Int))) r ?_ ?_
 ·refine sQ<|rG<|aS r r<|nI<|xS<|rT<|xR<|KN (b:=false) r ?_ r r ?_ r
  all_goals first|(simp;done)|(simp;omega)|rfl|(simp [KB,Kx];done)
 ·refine sK<|xS<|sQ<|sQ<|rG<|mV r r<|lS r r<|mV r r<|nI<|xS<|bK<|lP (E:=fun (s : Int) (g : Unit)=>[(0,.sl (s11.map Kp)),(1,.sl (s22.map Kp)),(12,.int .i64 (s11.length : Int)),(13,.int .i64 s)]) (O:=fun s g=>[]) (body:=fun s=>LY s11 s22 s) (s:=0) () ((hE ⟨rfl,r,r,r,trivial⟩ trivial))<|?_
  rintro x3 ⟨⟩ nn
  try dsimp only
  unfold LY
  refine sQ<|rG<|bN (v:=.bool (decide (x3 < (s11.length : Int)))) r r r r r<|nI<|xS<|sQ<|cD (c:=(decide (x3 < (s11.length : Int)))) r ?_ ?_
  ·refine sK<|xS<|sQ<|bK<|sQ<|rG<|mV r r<|aS r r<|nI<|xS<|sQ<|rG<|mV r r<|mV r r<|bD fun x_x4 hx_x4=>iS (en:=Kp) r r r hx_x4 r<|lF (v:=.int .i64 x_x4) r r r r<|mV r r<|mV r r<|bD fun x_x5 hx_x5=>iS (en:=Kp) r r r hx_x5 r<|lF (v:=.int .i64 x_x5) r r r r<|bN (v:=.bool (x_x4 != x_x5)) r r r r r<|KX (by kernel_rfl)<|xS<|cD (c:=(x_x4 != x_x5)) r ?_ ?_
   ·refine sQ<|rG<|aS r r<|nI<|xS<|rT<|bR<|xR<|lR<|bR<|xR<|KN (b:=false) r ?_ r r ?_ r
    all_goals first|(simp;done)|(simp;omega)|rfl|(simp [KB,Kx];done)
   ·exact sK<|bM<|xS<|rG<|bN (v:=.int .i64 (IntKind.i64.wrap (x3 + 1))) r r r r r<|mV r r<|nI<|xL (s:=IntKind.i64.wrap (x3 + 1)) () ((hE ⟨rfl,r,r,r,trivial⟩ trivial))
  ·refine eT<|xE<|lE<|bH<|xS<|sQ<|rG<|aS r r<|nI<|xS<|rT<|KN (b:=true) r ?_ r r ?_ r
   all_goals first|(simp;done)|(simp;omega)|rfl|(simp [KB,Kx];done)

def YT : KH:=(.seq (.reg [M 4 0,P 5 (.nilck (T 4)),P 6 (.fldA 1 (T 5)),P 7 (.ld 1 false (T 6)),M 8 1,P 9 (.mget (.bool false) (T 7) (T 8)),P 10 (.un .not (T 9))] false) (.cond (T 10) (.seq (.reg [M 11 0,P 12 (.nilck (T 11)),P 13 (.fldA 1 (T 12)),P 14 (.ld 1 false (T 13)),M 15 1,⟨none,(.mset (T 14) (T 15) (.c (.bool true))),none,[]⟩] false) (.reg [M 16 0,M 17 0,P 18 (.nilck (T 17)),P 19 (.fldA 0 (T 18)),P 20 (.ld 1 false (T 19)),M 21 1,⟨(some 22),(.bldS 1 3 (.int .i64 0) 1 [⟨0,(T 21)⟩]),none,[]⟩,P 23 (.app 1 3 8 (T 20) (T 22)),P 24 (.nilck (T 16)),P 25 (.fldA 0 (T 24)),⟨none,(.st 1 (T 25) (T 23)),none,[]⟩] false)) .skip))
theorem AbM : (Tryd.f14.body.bind (KJ Tryd.prog Tryd.f14.ntmps)) = some YT:=by kernel_rfl
theorem AbN : Tryd.f14.results.toList.mapM (KY Tryd.prog) = some []:=by kernel_rfl

def ZQ : KH:=(.seq (.reg [P 2 (.asg (C 0) none)] false) (.seq (.reg [M 4 0,⟨(some 5),(.nilck (T 4)),none,[0]⟩,⟨(some 6),(.fldA 0 (T 5)),none,[1]⟩,⟨(some 7),(.ld 1 false (T 6)),none,[2]⟩,M 8 0,⟨(some 9),(.nilck (T 8)),none,[4]⟩,⟨(some 10),(.fldA 0 (T 9)),none,[5]⟩,⟨(some 11),(.ld 1 false (T 10)),none,[6]⟩,⟨(some 12),(.len false (T 11)),none,[7]⟩,⟨(some 13),(.bin .sub (T 12) (C 1)),none,[8]⟩,⟨(some 14),(.ixA 1 (T 7) (T 13)),none,[3,9]⟩,⟨(some 15),(.ld 1 false (T 14)),none,[10]⟩,⟨(some 3),(.asg (T 15) none),none,[11,0,1,2,3,4,5,6,7,8,9,10,11]⟩] true) (.seq (.reg [M 16 0,M 17 0,⟨(some 18),(.nilck (T 17)),none,[1]⟩,⟨(some 19),(.fldA 0 (T 18)),none,[2]⟩,⟨(some 20),(.ld 1 false (T 19)),none,[3]⟩,M 21 0,⟨(some 22),(.nilck (T 21)),none,[5]⟩,⟨(some 23),(.fldA 0 (T 22)),none,[6]⟩,⟨(some 24),(.ld 1 false (T 23)),none,[7]⟩,⟨(some 25),(.len false (T 24)),none,[8]⟩,⟨(some 26),(.bin .sub (T 25) (C 1)),none,[9]⟩,⟨(some 27),(.slc 1 (T 20) none (some (T 26))),none,[4,10]⟩,⟨(some 28),(.nilck (T 16)),none,[0,0,1,2,3,4,5,6,7,8,9,10,11]⟩,⟨(some 29),(.fldA 0 (T 28)),none,[12,0,1,2,3,4,5,6,7,8,9,10,11]⟩,⟨none,(.st 1 (T 29) (T 27)),none,[13,11,0,1,2,3,4,5,6,7,8,9,10,11]⟩] true) (.seq (.reg [M 30 0,P 31 (.nilck (T 30)),P 32 (.fldA 1 (T 31)),P 33 (.ld 1 false (T 32)),M 34 3,⟨none,(.mdel (T 33) (T 34)),none,[]⟩] false) (.seq (.reg [M 35 3,P 2 (.asg (T 35) none)] false) .ret)))))
theorem AbO : (Tryd.f15.body.bind (KJ Tryd.prog Tryd.f15.ntmps)) = some ZQ:=by kernel_rfl
theorem AbP : Tryd.f15.results.toList.mapM (KY Tryd.prog) = some [(.t 2)]:=by kernel_rfl

def ZR : KH:=(.seq (.reg [P 3 (.box (T 0) 3 27),P 4 (.box (T 1) 1 30),⟨(some 6),(.asg (.c .nils) (some ⟨1,3⟩)),none,[]⟩] false) (.seq (.reg [⟨(some 7),(.asg (.c .nils) (some ⟨1,3⟩)),none,[]⟩] false) (.seq (.seq (.reg [P 10 (.ld 3 true (T 3)),M 11 2,P 12 (.call (.c (.clo 25 [])) [(T 10),(T 11)]),P 13 (.len false (T 12)),P 14 (.mv (C 0))] false) (.block 0 (.loop (.seq (.reg [P 15 (.bin .lss (T 14) (T 13))] false) (.seq (.cond (T 15) .skip (.exit 0)) (.seq (.block 1 (.seq (.reg [P 16 (.ixA 1 (T 12) (T 14)),P 17 (.ld 1 false (T 16)),P 9 (.asg (T 17) none)] false) (.reg [M 18 7,P 19 (.fldA 2 (T 3)),⟨(some 20),(.ld 1 false (T 19)),none,[1]⟩,M 21 9,⟨(some 22),(.ixA 5 (T 20) (T 21)),none,[2,3]⟩,⟨(some 23),(.ld 5 true (T 22)),none,[4]⟩,P 24 (.fldA 0 (T 4)),⟨(some 25),(.ld 1 false (T 24)),none,[6]⟩,M 26 9,⟨(some 27),(.ixA 1 (T 25) (T 26)),none,[7,8]⟩,⟨(some 28),(.ld 1 false (T 27)),none,[9]⟩,⟨(some 29),(.call (.c (.clo 27 [])) [(T 23),(T 28)]),none,[5,10]⟩,⟨(some 30),(.call (.c (.clo 26 [])) [(T 18),(T 29)]),none,[0,11,11]⟩,⟨(some 7),(.asg (T 30) (some ⟨1,3⟩)),none,[12,12,0,1,2,3,4,5,6,7,8,9,10,11,12]⟩] true))) (.reg [P 31 (.bin .add (T 14) (C 1)),M 14 31] false))))))) (.seq (.reg [M 32 7,⟨(some 6),(.asg (T 32) (some ⟨1,3⟩)),none,[]⟩] false) .ret))))
theorem AbQ : (Tryd.f16.body.bind (KJ Tryd.prog Tryd.f16.ntmps)) = some ZR:=by kernel_rfl
theorem AbR : Tryd.f16.results.toList.mapM (KY Tryd.prog) = some [(.t 6)]:=by kernel_rfl

end Go.Proofs.YtjjmcedpoolghaaDoor
