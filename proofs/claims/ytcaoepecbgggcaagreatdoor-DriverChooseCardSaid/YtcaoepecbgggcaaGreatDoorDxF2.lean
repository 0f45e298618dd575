/-
 The code does what its typed programs say.
-/
import Derived.Test.YtcaoepecbgggcaaGreatDoorProg
import Derived.Test.YtcaoepecbgggcaaGreatDoorDc
import Derived.KernelRfl
import Derived.Test.YtcaoepecbgggcaaGreatDoorSh
import Derived.Test.YtcaoepecbgggcaaGreatDoorDxP
import Derived.Test.YtcaoepecbgggcaaGreatDoorDxF1
open List renaming replicate->aA
namespace Go.Proofs.YtcaoepecbgggcaaGreatDoor
open Go Go.Dw Go.Proofs
open Go.IntKind (i64)
set_option maxRecDepth 100000
set_option maxHeartbeats 40000000
open Go.Dw renaming Ql -> bD,Qo -> cK,YI -> bS,Alf -> cV,Ym -> cG,UZ -> cD,Xt -> xC,Ui -> xL,Ale -> cP,Xu -> lP,Tt -> sC,Aqe -> mF,rf -> r
noncomputable section
def Uq (a:Om×Int):List D:=[.agg [.sl (a.1.g.map (eL NA)),.sl (a.1.w.map NA),.row 1 4 (a.1.known.map D.bool),.row 1 3 (a.1.of.map NA)],Av a.2]
def Up (ds:List D):Om×Int:=((⟨(uL (uL uI)) (cel (ds.getD 0 .top) 0),(uL uI) (cel (ds.getD 0 .top) 1),(uR uBo) (cel (ds.getD 0 .top) 2),(uR uI) (cel (ds.getD 0 .top) 3)⟩:Om),uI (ds.getD 1 .top))
instance:Oc Uq Up:=⟨λa=>by simp[Up,Uq,uI,cel,Oy (u:=(uL uI)) (en:=(eL NA)) (Oy (u:=uI) (en:=NA) (λ_=>rfl)),Oy (u:=uI) (en:=NA) (λ_=>rfl),Azh (u:=uI) (en:=NA) (λ_=>rfl),Azh (u:=uBo) (en:=D.bool) (λ_=>rfl)]⟩
def Agc (b:Int×Int×Om):D:=.tup [Av b.1,Av b.2.1]
def Agb (b:Int×Int×Om):List D:=[.agg [.sl (b.2.2.g.map (eL NA)),.sl (b.2.2.w.map NA),.row 1 4 (b.2.2.known.map D.bool),.row 1 3 (b.2.2.of.map NA)]]
def Agd:Dw.Spec:=NI [(0,(4,194))] .val Uq Up (λa=>AbM a.1 a.2) Agc Agb
def SC (b:Om->Int->Option (Int×Int×Om)):Dw.Spec:=NI [(0,(4,194))] .val Uq Up (λa=>b a.1 a.2) Agc Agb
theorem Amc (h:Om->Int->Option (Int×Int×Om)) (hrec:ND Tryz.prog 175 (SC h)):ND Tryz.prog 175 (SC (QT h)):=by
 refine fn2 2 (NJ (l:=[(175,SC h),(90,Agm)]) (by simp[hrec,Ajq])) Tryz.func175<|?_
 rintro⟨a,b⟩;unfold QT;refine A 8 ?_;refine Akd (E:=[(0,.optr 8192 0 0 0),(1,Av b)]) (O:=[(4697,dW _ 1 4 (a.known.map D.bool)),(8192,dV 0 4 194 (.agg [.sl (a.g.map (eL NA)),.sl (a.w.map NA),.osl 4697 _ 0 a.known.length,.row 1 3 (a.of.map NA)]))]) ((AmR (g:=8192) (off:=2) 601 (a.known) D.bool r r r hX)) λnn=>?_
 refine Ab 6 λo ab=>?_
 refine A 2 ?_;refine Qf (E:=[(0,.optr 8192 0 0 0),(1,Av b),(19,.bool o)]) (O:=[(8192,dV 0 4 194 (.agg [.sl (a.g.map (eL NA)),.sl (a.w.map NA),.row 1 4 (a.known.map D.bool),.row 1 3 (a.of.map NA)]))]) ((AfI (g:=8192) (i:=0) (off:=2) (g':=4697) (l:=a.known) (en:=D.bool) r r r (.inr ⟨rfl,r⟩) r r (λ_=>r) r hX)) λnn=>cD r ?_ ?_
 ·refine A 1 ?_;refine Akd (E:=[(0,.optr 8192 0 0 0),(1,Av b)]) (O:=[(4698,dW _ 1 3 (a.of.map NA)),(8192,dV 0 4 194 (.agg [.sl (a.g.map (eL NA)),.sl (a.w.map NA),.row 1 4 (a.known.map D.bool),.osl 4698 _ 0 a.of.length]))]) ((AmR (g:=8192) (off:=3) 602 (a.of) NA r r r hX)) λnn=>?_
  refine Ab 6 λp ac=>?_
  refine A 4 ?_;refine Qf (E:=[(4,Av p),(5,Av 0)]) (O:=[(8192,dV 0 4 194 (.agg [.sl (a.g.map (eL NA)),.sl (a.w.map NA),.row 1 4 (a.known.map D.bool),.row 1 3 (a.of.map NA)]))]) ((AfI (g:=8192) (i:=0) (off:=3) (g':=4698) (l:=a.of) (en:=NA) r r r (.inr ⟨rfl,r⟩) r r (λ_=>r) r hX)) λnn=>?_
  exact B
 ·refine Ab 15 λj ad=>?_
  refine A 7 ?_;refine lP (E:=λ(s:(List (List Int))×(List Int)×(List Bool)×(List Int)×Int×Int) (_g:Unit)=>[(0,.optr 8192 0 0 0),(1,Av b),(6,Av s.2.2.2.2.2),(33,.sl (j.map NA)),(34,Av (j.length:Int)),(35,Av s.2.2.2.2.1)]) (O:=λs _=>[(8192,dV 0 4 194 (.agg [.sl (s.1.map (eL NA)),.sl (s.2.1.map NA),.row 1 4 (s.2.2.1.map D.bool),.row 1 3 (s.2.2.2.1.map NA)]))]) (body:=λs=>SD j h b s.1 s.2.1 s.2.2.1 s.2.2.2.1 s.2.2.2.2.1 s.2.2.2.2.2) (s:=(a.g,a.w,a.known,a.of,0,0)) () hX<|?_
  rintro⟨k,m,c,d,t,u⟩ ⟨⟩ nn
  try dsimp only
  unfold SD;refine Ac 6 ?_ ?_
  ·refine Ab 6 λae af=>?_
   refine Ab 9 λe ag=>?_
   refine Ac 15 ?_ ?_
   ·exact B
   ·refine A 14 ?_;exact xL (s:=(e.2.2.g,e.2.2.w,e.2.2.known,e.2.2.of,i64.wrap (t+1),OX u e.1)) () hX
  ·refine Ab 12 λah ai=>?_
   refine Ab 3 λf aj=>?_
   refine Ac 15 ?_ ?_
   ·exact B
   ·refine A 3 ?_;refine Akd (E:=[(0,.optr 8192 0 0 0),(1,Av b),(11,Av f.1)]) (O:=[(4699,dW _ 1 3 (d.map NA)),(4700,dW _ 1 4 (c.map D.bool)),(8192,dV 0 4 194 (.agg [.sl (k.map (eL NA)),.sl (m.map NA),.osl 4700 _ 0 c.length,.osl 4699 _ 0 d.length]))]) ((AmR (g:=8192) (off:=3) 603 (d) NA r r r (AmR (g:=8192) (off:=2) 604 (c) D.bool r r r hX))) λnn=>?_
    refine A 12 ?_;refine bD λv x=>AoA (l:=d) (en:=NA) (q:=v) (q':=f.1) r r r r r x r (λ_=>r) r r r ⟨trivial,trivial,r⟩<|?_
    refine A 1 ?_;refine bD λz aa=>AoA (l:=c) (en:=D.bool) (q:=z) (q':=true) r r r r r aa r (λ_=>r) r r r ⟨trivial,trivial,r⟩<|?_
    refine A 1 ?_;refine Qf (E:=[(11,Av f.1)]) (O:=[(8192,dV 0 4 194 (.agg [.sl (k.map (eL NA)),.sl (m.map NA),.row 1 4 ((c.set b.toNat true).map D.bool),.row 1 3 ((d.set b.toNat f.1).map NA)]))]) ((AfI (g:=8192) (i:=0) (off:=2) (g':=4700) (l:=c.set b.toNat true) (en:=D.bool) r r r (.inr ⟨rfl,r⟩) r (by simp) (λ_=>r) r (AfI (g:=8192) (i:=0) (off:=3) (g':=4699) (l:=d.set b.toNat f.1) (en:=NA) r r r (.inr ⟨rfl,r⟩) r (by simp) (λ_=>r) r hX))) λnn=>?_
    exact B
theorem Amb:ND Tryz.prog 175 (SC (QH 0)):=fn2 2 NZ Tryz.func175 λ_ _ h=>by cases h
theorem AdX:∀ k,ND Tryz.prog 175 (SC (QH k))
 | 0=>Amb
 | k+1=>Amc _ (AdX k)
theorem AmB:ND Tryz.prog 175 Agd:=Azc Oc.ok AdX

def Ajk (a:(List (List Int))×(List Int)):List D:=[.sl (a.1.map (eL NA)),.sl (a.2.map NA)]
def Ajj (ds:List D):(List (List Int))×(List Int):=((uL (uL uI)) (ds.getD 0 .top),(uL uI) (ds.getD 1 .top))
instance:Oc Ajk Ajj:=⟨λa=>by simp[Ajj,Ajk,Oy (u:=(uL uI)) (en:=(eL NA)) (Oy (u:=uI) (en:=NA) (λ_=>rfl)),Oy (u:=uI) (en:=NA) (λ_=>rfl)]⟩
def AdW:Dw.Spec:=NI [] .val Ajk Ajj (λa=>Afx a.1 a.2) Ajm noE
theorem AoS:ND Tryz.prog 111 AdW:=by
 refine fn2 2 (NJ (l:=[(174,Adq),(110,AeE),(175,Agd)]) (by simp[AiP,AmE,AmB])) Tryz.func111<|?_
 rintro⟨a,b⟩;unfold Afx;refine A 6 ?_;refine sC (E:=λ(_s:Unit) (_g:Unit)=>[(0,.sl (a.map (eL NA))),(1,.sl (b.map NA))]) (O:=λ_ _=>[]) (j:=λ_=>AfZ b a) ?_ ?_
 ·refine Ab 3 λo p=>?_
  refine A 3 ?_;refine NS r ?_ ?_
  ·exact B
  ·refine Ac 8 ?_ ?_
   ·exact B
   ·refine A 1 ?_;exact xC (s:=()) () hX
 ·rintro⟨⟩ ⟨⟩ nn
  try dsimp only
  unfold AfZ;refine A 9 ?_;refine lP (E:=λ(s:Int) (_g:Unit)=>[(0,.sl (a.map (eL NA))),(1,.sl (b.map NA)),(24,.sl (b.map NA)),(25,Av (b.length:Int)),(26,Av s)]) (O:=λ_ _=>[]) (body:=λs=>AfX b a s) (s:=0) () hX<|?_
  rintro e ⟨⟩ nn
  try dsimp only
  unfold AfX;refine Ac 6 ?_ ?_
  ·refine Ab 6 λq t=>?_
   refine A 10 ?_;refine NS r ?_ ?_
   ·exact B
   ·refine Ac 5 ?_ ?_
    ·exact B
    ·refine A 7 ?_;exact xL (s:=i64.wrap (e+1)) () hX
  ·refine Ab 9 λu v=>?_
   refine Ac 14 ?_ ?_
   ·exact B
   ·refine A 26 ?_;refine lP (E:=λ(s:(List (List Int))×(List Int)×(List Bool)×(List Int)×Int) (g:Nat)=>[(10,.optr 4150 g 0 0),(56,Av (a.length:Int)),(57,Av s.2.2.2.2)]) (O:=λs g=>[(4150,dV g 4 194 (.agg [.sl (s.1.map (eL NA)),.sl (s.2.1.map NA),.row 1 4 (s.2.2.1.map D.bool),.row 1 3 (s.2.2.2.1.map NA)]))]) (body:=λs=>AfY a s.1 s.2.1 s.2.2.1 s.2.2.2.1 s.2.2.2.2) (s:=(a,b,aA (a.length:Int).toNat false,aA (a.length:Int).toNat (0:Int),0)) _ (((AwC (g:=54) (g2:=4150) (es':=[.agg [.sl (a.map (eL NA)),.sl (b.map NA),.osl 49 _ 0 ((aA (a.length:Int).toNat false).length),.osl 52 _ 0 ((aA (a.length:Int).toNat (0:Int)).length)]]) r r r (AzD (by repeat' first|exact Akk.nil|apply Akk.same rfl|apply Akk.row (by decide))) (AfI (g:=4150) (i:=0) (off:=2) (g':=49) (l:=aA (a.length:Int).toNat false) (en:=D.bool) r r r (.inr ⟨rfl,r⟩) r r (λ_=>r) r (AfI (g:=4150) (i:=0) (off:=3) (g':=52) (l:=aA (a.length:Int).toNat (0:Int)) (en:=NA) r r r (.inr ⟨rfl,r⟩) r r (λ_=>r) r hX)))))<|?_
    rintro⟨f,h,k,d,m⟩ x nn
    try dsimp only
    unfold AfY;refine Ac 6 ?_ ?_
    ·refine Ab 14 λc z=>?_
     refine Ac 14 ?_ ?_
     ·exact B
     ·refine A 7 ?_;exact xL (s:=(c.2.2.g,c.2.2.w,c.2.2.known,c.2.2.of,i64.wrap (m+1))) _ hX
    ·refine A 6 ?_;refine Akd (E:=[(10,.optr 4150 _ 0 0)]) (O:=[(4150,dV _ 4 194 (.agg [.sl (f.map (eL NA)),.sl (h.map NA),.row 1 4 (k.map D.bool),.osl 4697 _ 0 d.length])),(4697,dW _ 1 3 (d.map NA))]) ((AmR (g:=4150) (off:=3) 601 (d) NA r r r hX)) λnn=>?_
     exact B

def VF (a:(List Int)×Mk):List D:=[.sl (a.1.map NA),.fptr (NM a.2) 0]
def VE (ds:List D):(List Int)×Mk:=((uL uI) (ds.getD 0 .top),Qz (fpD (ds.getD 1 .top)))
instance:Oc VF VE:=⟨λa=>by simp[VE,VF,fpD,Oy (u:=uI) (en:=NA) (λ_=>rfl)]⟩
def Adp:Dw.Spec:=NI [] .ground VF VE (λa=>Rv a.1 a.2) NW noE
theorem AkD:ND Tryz.prog 210 Adp:=by
 refine fn2 2 (NJ (l:=[(211,Ahv)]) (by simp[AlA])) Tryz.func210<|?_
 intro a;unfold Rv;exact B

def Qj (a:(List (List Int))×Mk):List D:=[.sl (a.1.map (eL NA)),.clo 210 [.fptr (NM a.2) 0]]
def Qi (ds:List D):(List (List Int))×Mk:=((uL (uL uI)) (ds.getD 0 .top),Qz (fpD (Ajl (ds.getD 1 .top) 0)))
instance:Oc Qj Qi:=⟨λa=>by simp[Qi,Qj,fpD,Ajl,Oy (u:=(uL uI)) (en:=(eL NA)) (Oy (u:=uI) (en:=NA) (λ_=>rfl))]⟩
def RW:Dw.Spec:=NI [] .ground Qj Qi (λa=>PS a.1 a.2) NC noE
theorem Acx:ND Tryz.prog 255 RW:=by
 refine fn2 2 (NJ (l:=[(210,Adp)]) (by simp[AkD])) Tryz.func255<|?_
 rintro⟨a,b⟩;unfold PS;refine A 14 ?_;refine lP (E:=λ(s:Int) (_g:Unit)=>[(0,.sl (a.map (eL NA))),(1,.clo 210 [.fptr (NM b) 0]),(7,Av (a.length:Int)),(8,Av s)]) (O:=λ_ _=>[]) (body:=λs=>Qr a b s) (s:=0) () hX<|?_
 rintro c ⟨⟩ nn
 try dsimp only
 unfold Qr;refine Ac 6 ?_ ?_
 ·refine Ab 15 λd e=>?_
  refine Ab 2 λf g=>?_
  refine Ac 3 ?_ ?_
  ·exact B
  ·refine A 7 ?_;exact xL (s:=i64.wrap (c+1)) () hX
 ·exact B

def Rm:Dw.Spec:=NI [] .ground Qj Qi (λa=>Qq a.1 a.2) NW noE
theorem AaN:ND Tryz.prog 212 Rm:=by
 refine fn2 2 (NJ (l:=[(864511,RW)]) (by simp[Acx])) Tryz.func212<|?_
 rintro⟨a,b⟩;unfold Qq;refine A 9 ?_;refine bD λd c=>cG (a,b) rfl rfl (show _=some RW from by kernel_rfl) Oc.ok rfl rfl (by simp) r c r<|?_
 exact B

def Pg (a:Mk×NT):List D:=[NM a.1,QP a.2]
def Pf (ds:List D):Mk×NT:=(Qz (ds.getD 0 .top),Va (ds.getD 1 .top))
instance:Oc Pg Pf:=⟨λa=>by simp[Pf,Pg]⟩
def Acf:Dw.Spec:=NI [] .ground Pg Pf (λa=>TW a.1 a.2) NW noE
theorem Ahq:ND Tryz.prog 153 Acf:=by
 refine fn2 2 (NJ (l:=[(864468,Rm)]) (by simp[AaN])) Tryz.func153<|?_
 rintro⟨a,b⟩;unfold TW;refine A 6 ?_;refine Qf (E:=[(2,.fptr (NM a) 0),(3,.optr 3 _ 0 0)]) (O:=[(3,dV _ 1 45 (.agg [.sl (b.Out.map (eL NA))]))]) ((hV 2 r (hY))) λnn=>?_
 refine A 2 ?_;refine mF (caps:=[.fptr (NM a) 0]) r r (by simp[SN])<|?_
 refine A 13 ?_;refine NS r ?_ ?_
 ·refine A 3 ?_;refine bD λd c=>cG (b.Out,a) rfl rfl (show _=some Rm from by kernel_rfl) Oc.ok rfl rfl (by simp) r c r<|?_
  exact B
 ·exact B

def Ach (a:NT):List D:=[QP a]
def Acg (ds:List D):NT:=Va (ds.getD 0 .top)
instance:Oc Ach Acg:=⟨λa=>by simp[Acg,Ach]⟩
def Ark (b:NT):D:=.clo 258 [.fptr (QP b) 0]
def AkE:Dw.Spec:=NI [] .val Ach Acg (λa=>Zo a) Ark noE
theorem AqA:ND Tryz.prog 214 AkE:=by
 refine fn2 1 (NZ) Tryz.func214<|?_;intro a;unfold Zo;refine A 5 ?_;refine Qf (E:=[(1,.fptr (.agg [.sl (a.Out.map (eL NA))]) 0)]) (O:=[]) ((hV 1 r (hY))) λnn=>?_
 refine A 2 ?_;refine mF (caps:=[.fptr (.agg [.sl (a.Out.map (eL NA))]) 0]) r r (by simp[SN])<|?_
 exact B

def AeG (a:Mk×Int):List D:=[NM a.1,Av a.2]
def AeF (ds:List D):Mk×Int:=(Qz (ds.getD 0 .top),uI (ds.getD 1 .top))
instance:Oc AeG AeF:=⟨λa=>by simp[AeF,AeG,uI]⟩
def AqM:Dw.Spec:=NI [] (.row 1 3) AeG AeF (λa=>AfH a.1 a.2) OC noE
theorem Aux:ND Tryz.prog 256 AqM:=by
 refine fn2 2 (NJ (l:=[(230,Aay),(276,AfM),(277,Acw)]) (by simp[AdS,Amq,Akb])) Tryz.func256<|?_
 rintro⟨b,a⟩;unfold AfH;refine A 6 ?_;refine sC (E:=λ(_s:Unit) (g:Nat)=>[(1,Av a),(2,.optr 2 g 0 0)]) (O:=λ_ g=>[(2,dV g 3 36 (NM b))]) (j:=λ_=>AbY b a) ?_ ?_
 ·refine A 5 ?_;refine NS r ?_ ?_
  ·exact B
  ·refine Ac 8 ?_ ?_
   ·exact B
   ·refine A 1 ?_;exact xC (s:=()) _ hX
 ·rintro⟨⟩ d nn
  try dsimp only
  unfold AbY;refine Ab 10 λc e=>?_
  refine A 6 ?_;refine sC (E:=λ(s:(List Int)) (g:Nat×Nat)=>[(5,.osl 5 g.1 0 s.length),(6,.optr 6 g.2 0 0)]) (O:=λs g=>[(5,dW g.1 1 3 (s.map NA)),(6,dV g.2 5 90 (NX c))]) (j:=λs=>Zm c s) ?_ ?_
  ·refine Ab 4 λf h=>?_
   refine Ac 4 ?_ ?_
   ·refine A 8 ?_;exact xC (s:=([]:List Int)++([i64.wrap (a+1)]:List Int)) (_,_) hX
   ·refine A 1 ?_;exact xC (s:=([]:List Int)) (_,_) hX
  ·rintro i ⟨k,m⟩ nn
   try dsimp only
   unfold Zm;exact B

def Xc (a:Int×NT):List D:=[Av a.1,.fptr (QP a.2) 0]
def Xb (ds:List D):Int×NT:=(uI (ds.getD 0 .top),Va (fpD (ds.getD 1 .top)))
instance:Oc Xc Xb:=⟨λa=>by simp[Xb,Xc,uI,fpD]⟩
def AfK:Dw.Spec:=NI [] .val Xc Xb (λa=>TP a.1 a.2) OC noE
theorem Amm:ND Tryz.prog 258 AfK:=by
 refine fn2 2 (NZ) Tryz.func258<|?_;intro a;unfold TP;exact B

def PR (a:Lo):List D:=[NX a]
def PQ (ds:List D):Lo:=QO (ds.getD 0 .top)
instance:Oc PR PQ:=⟨λa=>by simp[PQ,PR]⟩
def TT (b:Int×Bool):D:=.tup [Av b.1,.bool b.2]
def TU:Dw.Spec:=NI [] .ground PR PQ (λa=>QZ a) TT noE
theorem Vo:ND Tryz.prog 159 TU:=by
 refine fn2 1 (NZ) Tryz.func159<|?_;intro a;unfold QZ;exact B

def AlB:Dw.Spec:=NI [] .val QC QB (λa=>Vd a.1 a.2) OC noE
theorem Ara:ND Tryz.prog 278 AlB:=by
 refine fn2 2 (NJ (l:=[(219,Sb),(231,Vy),(220,Rt)]) (by simp[Sw,Zg,Sj])) Tryz.func278<|?_
 intro a;unfold Vd;exact B

def Ajp:Dw.Spec:=NI [] (.row 1 3) PR PQ (λa=>VU a) OC noE
theorem AmN:ND Tryz.prog 158 Ajp:=by
 refine fn2 1 (NZ) Tryz.func158<|?_;intro a;unfold VU;exact B

def Ama:Dw.Spec:=NI [] (.row 1 3) Tw Tv (λa=>ZM a) OC noE
theorem AoR:ND Tryz.prog 160 Ama:=by
 refine fn2 1 (NJ (l:=[(219,Sb),(220,Rt)]) (by simp[Sw,Sj])) Tryz.func160<|?_
 intro a;unfold ZM;exact B

def Xw (a:Int×Int):List D:=[AoU a.1,AoU a.2]
def Xv (ds:List D):Int×Int:=(uI (ds.getD 0 .top),uI (ds.getD 1 .top))
instance:Oc Xw Xv:=⟨λa=>by simp[Xv,Xw,uI]⟩
def Akp (b:Int):D:=AoU b
def Akq:Dw.Spec:=NI [] .ground Xw Xv (λa=>VZ a.1 a.2) Akp noE
theorem Aqk:ND Tryz.prog 260 Akq:=by
 refine fn2 2 (NZ) Tryz.func260<|?_;intro a;unfold VZ;exact B

def SV (a:NB×NB):List D:=[Ob a.1,Ob a.2,.clo 260 []]
def SU (ds:List D):NB×NB:=(PE (ds.getD 0 .top),PE (ds.getD 1 .top))
instance:Oc SV SU:=⟨λa=>by simp[SU,SV]⟩
def YK (b:NB×NB×NB):D:=Ob b.1
def Ahj (b:NB×NB×NB):List D:=[Ob b.2.1,Ob b.2.2]
def TE:Dw.Spec:=NI [(0,(8,255)),(1,(8,255))] (.ptr 8 255) SV SU (λa=>QF a.1 a.2) YK Ahj
theorem AfW:ND Tryz.prog 259 TE:=by
 refine fn2 3 (NJ (l:=[(260,Akq)]) (by simp[Aqk])) Tryz.func259<|?_
 rintro⟨d,e⟩;unfold QF;refine A 19 ?_;refine lP (E:=λ(s:NB×Int) (g:Nat)=>[(0,.optr 8192 0 0 0),(1,.optr 8193 1 0 0),(2,.clo 260 []),(7,.optr 10 g 0 0),(11,Av s.2)]) (O:=λs g=>[(10,dV g 8 255 (Ob s.1)),(8192,dV 0 8 255 (Ob d)),(8193,dV 1 8 255 (Ob e))]) (body:=λs=>Py d e s.1 s.2) (s:=((NB.mk 0 0 0 0 0 0 0 0),0)) _ hX<|?_
 rintro⟨b,a⟩ p nn
 try dsimp only
 unfold Py;refine Ac 6 ?_ ?_
 ·refine A 17 ?_;refine cK λhq=>Qx r r r hq<|bD λf h=>Qs (q:=f) (l:=d.toList) (en:=AbT) (j:=a.toNat) (by simp) r r r h r (λ_=>r)<|?_
  refine A 3 ?_;refine cK λhq=>Qx r r r hq<|bD λi k=>Qs (q:=i) (l:=e.toList) (en:=AbT) (j:=a.toNat) (by simp) r r r k r (λ_=>r)<|bD λc t=>?_
  refine A 2 ?_;refine cK λhq=>Qx r r r hq<|bD λm o=>AnY (q:=m) (q':=c) (l:=b.toList) (en:=AbT) (j:=a.toNat) (z':=Ob (b.set a.toNat c)) (by simp) r r r r r o r r (congrArg (λl=>D.agg (l.map AbT)) (RN b a.toNat c).symm)<|?_
  refine A 7 ?_;exact xL (s:=((b.set a.toNat c),i64.wrap (a+1))) _ hX
 ·exact B

def Ahw:Dw.Spec:=NI [] .val Re Rc (λa=>Ta a.1 a.2) OC noE
theorem AlC:ND Tryz.prog 216 Ahw:=by
 refine fn2 2 (NJ (l:=[(219,Sb),(1069315,TE),(220,Rt)]) (by simp[Sw,AfW,Sj])) Tryz.func216<|?_
 rintro⟨d,e⟩;unfold Ta;refine Ab 8 λa f=>?_
 refine Ab 2 λb g=>?_
 refine A 1 ?_;refine bD λh c=>cP (a,b) rfl rfl (show _=some TE from by kernel_rfl) Oc.ok rfl rfl (by simp) r c<|?_
 exact B

def Xh (a:Lo×(List Int)):List D:=[NX a.1,.sl (a.2.map NA)]
def Xg (ds:List D):Lo×(List Int):=(QO (ds.getD 0 .top),(uL uI) (ds.getD 1 .top))
instance:Oc Xh Xg:=⟨λa=>by simp[Xg,Xh,Oy (u:=uI) (en:=NA) (λ_=>rfl)]⟩
def AqK:Dw.Spec:=NI [] .val Xh Xg (λa=>AfE a.1 a.2) OC noE
theorem Aur:ND Tryz.prog 257 AqK:=by
 refine fn2 2 (NJ (l:=[(159,TU),(278,AlB),(158,Ajp),(160,Ama),(216,Ahw)]) (by simp[Vo,Ara,AmN,AoR,AlC])) Tryz.func257<|?_
 intro a;unfold AfE;exact B

def Ako:Dw.Spec:=NI [] .ground Xw Xv (λa=>VY a.1 a.2) Akp noE
theorem Aqj:ND Tryz.prog 261 Ako:=by
 refine fn2 2 (NZ) Tryz.func261<|?_;intro a;unfold VY;exact B

def SS (a:NB×NB):List D:=[Ob a.1,Ob a.2,.clo 261 []]
def SR (ds:List D):NB×NB:=(PE (ds.getD 0 .top),PE (ds.getD 1 .top))
instance:Oc SS SR:=⟨λa=>by simp[SR,SS]⟩
def Ahi (b:NB×NB×NB):List D:=[Ob b.2.1,Ob b.2.2]
def TD:Dw.Spec:=NI [(0,(8,255)),(1,(8,255))] (.ptr 8 255) SS SR (λa=>QE a.1 a.2) YK Ahi
theorem AfV:ND Tryz.prog 259 TD:=by
 refine fn2 3 (NJ (l:=[(261,Ako)]) (by simp[Aqj])) Tryz.func259<|?_
 rintro⟨d,e⟩;unfold QE;refine A 19 ?_;refine lP (E:=λ(s:NB×Int) (g:Nat)=>[(0,.optr 8192 0 0 0),(1,.optr 8193 1 0 0),(2,.clo 261 []),(7,.optr 10 g 0 0),(11,Av s.2)]) (O:=λs g=>[(10,dV g 8 255 (Ob s.1)),(8192,dV 0 8 255 (Ob d)),(8193,dV 1 8 255 (Ob e))]) (body:=λs=>Px d e s.1 s.2) (s:=((NB.mk 0 0 0 0 0 0 0 0),0)) _ hX<|?_
 rintro⟨b,a⟩ p nn
 try dsimp only
 unfold Px;refine Ac 6 ?_ ?_
 ·refine A 17 ?_;refine cK λhq=>Qx r r r hq<|bD λf h=>Qs (q:=f) (l:=d.toList) (en:=AbT) (j:=a.toNat) (by simp) r r r h r (λ_=>r)<|?_
  refine A 3 ?_;refine cK λhq=>Qx r r r hq<|bD λi k=>Qs (q:=i) (l:=e.toList) (en:=AbT) (j:=a.toNat) (by simp) r r r k r (λ_=>r)<|bD λc t=>?_
  refine A 2 ?_;refine cK λhq=>Qx r r r hq<|bD λm o=>AnY (q:=m) (q':=c) (l:=b.toList) (en:=AbT) (j:=a.toNat) (z':=Ob (b.set a.toNat c)) (by simp) r r r r r o r r (congrArg (λl=>D.agg (l.map AbT)) (RN b a.toNat c).symm)<|?_
  refine A 7 ?_;exact xL (s:=((b.set a.toNat c),i64.wrap (a+1))) _ hX
 ·exact B

def Amw:Dw.Spec:=NI [] .val Re Rc (λa=>Wm a.1 a.2) OC noE
theorem ArF:ND Tryz.prog 217 Amw:=by
 refine fn2 2 (NJ (l:=[(219,Sb),(1073411,TD),(220,Rt)]) (by simp[Sw,AfV,Sj])) Tryz.func217<|?_
 rintro⟨d,e⟩;unfold Wm;refine Ab 8 λa f=>?_
 refine Ab 2 λb g=>?_
 refine A 1 ?_;refine bD λh c=>cP (a,b) rfl rfl (show _=some TD from by kernel_rfl) Oc.ok rfl rfl (by simp) r c<|?_
 exact B

def TG (a:(List Int)×(List Int)×NT×Int):List D:=[.sl (a.1.map NA),.sl (a.2.1.map NA),.fptr (QP a.2.2.1) 0,.fptr (Av a.2.2.2) 0]
def TF (ds:List D):(List Int)×(List Int)×NT×Int:=((uL uI) (ds.getD 0 .top),(uL uI) (ds.getD 1 .top),Va (fpD (ds.getD 2 .top)),uI (fpD (ds.getD 3 .top)))
instance:Oc TG TF:=⟨λa=>by simp[TF,TG,uI,fpD,Oy (u:=uI) (en:=NA) (λ_=>rfl)]⟩
def ZO (b:Bool×(List Int)):D:=.bool b.1
def AiX (b:Bool×(List Int)):List D:=[.sl (b.2.map NA)]
def ZP:Dw.Spec:=NI [(1,(1,37))] .val TG TF (λa=>Rp a.1 a.2.1 a.2.2.1 a.2.2.2) ZO AiX
theorem AhE:ND Tryz.prog 215 ZP:=by
 refine fn2 4 (NJ (l:=[(217,Amw),(216,Ahw)]) (by simp[ArF,AlC])) Tryz.func215<|?_
 rintro⟨b,c,d,e⟩;unfold Rp;refine Ab 12 λf g=>?_
 refine Ab 2 λh j=>?_
 refine Ab 1 λa k=>?_
 refine A 1 ?_;refine AiK (i:=0) (es':=[.sl (a.map NA)]) r r r r r r r (by first|trivial|(simp;done)|(simp;omega)) r r r r r r<|?_
 exact B

def Qh (a:Mk×Int×NT×(List Int)×NT×Int):List D:=[NM a.1,Av a.2.1,.clo 258 [.fptr (QP a.2.2.1) 0],.clo 215 [.sl (a.2.2.2.1.map NA),.fptr (QP a.2.2.2.2.1) 0,.fptr (Av a.2.2.2.2.2) 0]]
def Rq (ds:List D):Mk×Int×NT×(List Int)×NT×Int:=(Qz (ds.getD 0 .top),uI (ds.getD 1 .top),Va (fpD (Ajl (ds.getD 2 .top) 0)),(uL uI) (Ajl (ds.getD 3 .top) 0),Va (fpD (Ajl (ds.getD 3 .top) 1)),uI (fpD (Ajl (ds.getD 3 .top) 2)))
instance:Oc Qh Rq:=⟨λa=>by simp[Rq,Qh,uI,fpD,Ajl,Oy (u:=uI) (en:=NA) (λ_=>rfl)]⟩
def AcL (b:Bool×(List Int)):List D:=[.sl (b.2.map NA)]
def RU:Dw.Spec:=NI [(256,(1,37))] .val Qh Rq (λa=>Pj a.1 a.2.1 a.2.2.1 a.2.2.2.1 a.2.2.2.2.1 a.2.2.2.2.2) ZO AcL
theorem Ace:ND Tryz.prog 213 RU:=by
 refine fn2 4 (NJ (l:=[(256,AqM),(258,AfK),(257,AqK),(215,ZP)]) (by simp[Aux,Amm,Aur,AhE])) Tryz.func213<|?_
 rintro⟨b,j,c,f,d,e⟩;unfold Pj;refine Ab 11 λa k=>?_
 refine A 6 ?_;refine lP (E:=λ(s:(List Int)×Int) (g:Nat×Nat)=>[(2,.clo 258 [.fptr (.agg [.sl (c.Out.map (eL NA))]) 0]),(3,.clo 215 [.optr 8448 256 0 0,.fptr (.agg [.sl (d.Out.map (eL NA))]) 0,.fptr (Av e) 0]),(4,.optr 4 g.1 0 0),(13,.osl 13 g.2 0 a.length),(14,Av (a.length:Int)),(15,Av s.2)]) (O:=λs g=>[(4,dV g.1 3 36 (NM b)),(13,dW g.2 1 3 (a.map NA)),(8448,dV 256 1 37 (.sl (s.1.map NA)))]) (body:=λs=>ON a b c d e s.1 s.2) (s:=(f,0)) (_,_) hX<|?_
 rintro⟨m,h⟩ ⟨o,p⟩ nn
 try dsimp only
 unfold ON;refine Ac 6 ?_ ?_
 ·refine Ab 7 λq r=>?_
  refine Ab 10 λt u=>?_
  refine Ab 4 λv x=>?_
  refine Ab 1 λz aa=>?_
  refine Ab 1 λi ab=>?_
  refine Ac 4 ?_ ?_
  ·exact B
  ·refine A 7 ?_;exact xL (s:=(i.2,i64.wrap (h+1))) (_,_) hX
 ·exact B

def Tx (b:Int×Int×Bool):D:=.tup [Av b.1,Av b.2.1,.bool b.2.2]
def AjP:Dw.Spec:=NI [] .ground Pg Pf (λa=>XZ a.1 a.2) Tx noE
theorem Apy:ND Tryz.prog 154 AjP:=by
 refine fn2 2 (NJ (l:=[(153,Acf),(214,AkE),(3624939733,RU)]) (by simp[Ahq,AqA,Ace])) Tryz.func154<|?_
 rintro⟨a,b⟩;unfold XZ;refine A 8 ?_;refine Qf (E:=[(2,.optr 2 _ 0 0),(3,.fptr (.agg [.sl (b.Out.map (eL NA))]) 0)]) (O:=[(2,dV _ 3 36 (NM a))]) ((hV 3 r (hY))) λnn=>?_
 refine Ab 5 λf h=>?_
 refine Ac 4 ?_ ?_
 ·exact B
 ·refine A 12 ?_;refine lP (E:=λ(s:Int) (g:Nat)=>[(2,.optr 2 g 0 0),(3,.fptr (.agg [.sl (b.Out.map (eL NA))]) 0),(15,Av (a.Code.length:Int)),(16,Av s)]) (O:=λ_ g=>[(2,dV g 3 36 (NM a))]) (body:=λs=>Ya a b s) (s:=0) _ hX<|?_
  rintro c i nn
  try dsimp only
  unfold Ya;refine Ac 6 ?_ ?_
  ·refine A 10 ?_;refine Qf (E:=[(2,.optr 2 _ 0 0),(3,.fptr (.agg [.sl (b.Out.map (eL NA))]) 0),(7,.fptr (Av c) 0),(15,Av (a.Code.length:Int)),(16,Av c)]) (O:=[(2,dV _ 3 36 (NM a))]) ((hV 7 r (hY))) λnn=>?_
   refine Ab 10 λd j=>?_
   refine A 1 ?_;refine mF (caps:=[.optr 8 _ 0 0,.fptr (.agg [.sl (b.Out.map (eL NA))]) 0,.fptr (Av c) 0]) r r (by simp[SN])<|bD λk e=>cV (a,c,d,[],b,c) rfl rfl (show _=some RU from by kernel_rfl) Oc.ok rfl rfl (by simp) (by first|rfl|(simp only[NH];rfl)|(simp only[NK];rfl)|(simp only[NH,NK];rfl)|simp[Qh,NM,QP,QP]) e<|?_
   refine Ac 9 ?_ ?_
   ·exact B
   ·refine A 7 ?_;exact xL (s:=i64.wrap (c+1)) _ hX
  ·exact B

def YU:Dw.Spec:=NI [] .ground Pg Pf (λa=>Se a.1 a.2) NC noE
theorem Acd:ND Tryz.prog 92 YU:=by
 refine fn2 2 (NJ (l:=[(153,Acf),(154,AjP)]) (by simp[Ahq,Apy])) Tryz.func92<|?_
 intro a;unfold Se;exact B

def XB (a:Mk×(List Int)):List D:=[NM a.1,.sl (a.2.map NA)]
def XA (ds:List D):Mk×(List Int):=(Qz (ds.getD 0 .top),(uL uI) (ds.getD 1 .top))
instance:Oc XB XA:=⟨λa=>by simp[XA,XB,Oy (u:=uI) (en:=NA) (λ_=>rfl)]⟩
def Akt:Dw.Spec:=NI [] .ground XB XA (λa=>Wa a.1 a.2) NW noE
theorem Aql:ND Tryz.prog 155 Akt:=by
 refine fn2 2 (NZ) Tryz.func155<|?_;rintro⟨b,a⟩;unfold Wa;refine Ac 17 ?_ ?_
 ·exact B
 ·refine A 11 ?_;refine lP (E:=λ(s:Int) (g:Nat)=>[(1,.sl (a.map NA)),(2,.optr 2 g 0 0),(13,.sl (a.map NA)),(14,Av (a.length:Int)),(15,Av s)]) (O:=λ_ g=>[(2,dV g 3 36 (NM b))]) (body:=λs=>Vl a b s) (s:=0) _ hX<|?_
  rintro c d nn
  try dsimp only
  unfold Vl;refine Ac 6 ?_ ?_
  ·refine Ab 7 λe f=>?_
   refine A 11 ?_;refine NS r ?_ ?_
   ·exact B
   ·refine A 6 ?_;refine NS r ?_ ?_
    ·exact B
    ·refine Ab 3 λh i=>?_
     refine Ab 6 λj k=>?_
     refine A 6 ?_;refine NS r ?_ ?_
     ·exact B
     ·refine Ab 2 λl m=>?_
      refine Ac 7 ?_ ?_
      ·exact B
      ·refine A 7 ?_;exact xL (s:=i64.wrap (c+1)) _ hX
  ·exact B

def AiU:Dw.Spec:=NI [] .ground PR PQ (λa=>Ws a) NW noE
theorem AoK:ND Tryz.prog 156 AiU:=by
 refine fn2 1 (NJ (l:=[(159,TU)]) (by simp[Vo])) Tryz.func156<|?_
 intro a;unfold Ws;exact B

def Ri (a:Mk×NO):List D:=[NM a.1,Xf a.2]
def Rh (ds:List D):Mk×NO:=(Qz (ds.getD 0 .top),Adm (ds.getD 1 .top))
instance:Oc Ri Rh:=⟨λa=>by simp[Rh,Ri]⟩
def AbA:Dw.Spec:=NI [] .ground Ri Rh (λa=>Vi a.1 a.2) NC noE
theorem Aft:ND Tryz.prog 93 AbA:=by
 refine fn2 2 (NJ (l:=[(155,Akt),(156,AiU)]) (by simp[Aql,AoK])) Tryz.func93<|?_
 rintro⟨b,a⟩;unfold Vi;refine A 7 ?_;refine sC (E:=λ(_s:Unit) (g:Nat×Nat)=>[(2,.optr 2 g.1 0 0),(3,.optr 3 g.2 0 0)]) (O:=λ_ g=>[(2,dV g.1 3 36 (NM b)),(3,dV g.2 2 48 (.agg [.sl (a.To.map NA),.sl (a.Keep.map D.bool)]))]) (j:=λ_=>Aaw b a) ?_ ?_
 ·refine Ab 5 λd e=>?_
  refine A 3 ?_;refine NS r ?_ ?_
  ·exact B
  ·refine Ac 10 ?_ ?_
   ·exact B
   ·refine A 1 ?_;exact xC (s:=()) (_,_) hX
 ·rintro⟨⟩ ⟨f,h⟩ nn
  try dsimp only
  unfold Aaw;refine A 10 ?_;refine lP (E:=λ(s:Int) (g:Nat)=>[(3,.optr 3 g 0 0),(22,.sl (b.Code.map NX)),(23,Av (b.Code.length:Int)),(24,Av s)]) (O:=λ_ g=>[(3,dV g 2 48 (.agg [.sl (a.To.map NA),.sl (a.Keep.map D.bool)]))]) (body:=λs=>Aav b a s) (s:=0) _ hX<|?_
  rintro c i nn
  try dsimp only
  unfold Aav;refine Ac 6 ?_ ?_
  ·refine Ab 7 λk m=>?_
   refine Ab 12 λo p=>?_
   refine A 4 ?_;refine NS r ?_ ?_
   ·refine Ab 1 λq t=>?_
    refine Ac 5 ?_ ?_
    ·exact B
    ·refine A 7 ?_;exact xL (s:=i64.wrap (c+1)) _ hX
   ·refine A 14 ?_;exact xL (s:=i64.wrap (c+1)) _ hX
  ·exact B

def Sr (a:Int×Mk×NO×NT):List D:=[Av a.1,.fptr (NM a.2.1) 0,.fptr (Xf a.2.2.1) 0,.fptr (QP a.2.2.2) 0]
def Sq (ds:List D):Int×Mk×NO×NT:=(uI (ds.getD 0 .top),Qz (fpD (ds.getD 1 .top)),Adm (fpD (ds.getD 2 .top)),Va (fpD (ds.getD 3 .top)))
instance:Oc Sr Sq:=⟨λa=>by simp[Sq,Sr,uI,fpD]⟩
def WS:Dw.Spec:=NI [] .ground Sr Sq (λa=>PL a.1 a.2.1 a.2.2.1 a.2.2.2) TT noE
theorem Afw:ND Tryz.prog 218 WS:=by
 refine fn2 4 (NJ (l:=[(159,TU)]) (by simp[Vo])) Tryz.func218<|?_
 rintro⟨b,g,a,e⟩;unfold PL;refine Ab 11 λh i=>?_
 refine Ab 9 λc k=>?_
 refine A 8 ?_;refine sC (E:=λ(_s:Unit) (_g:Unit)=>[(0,Av b),(2,.fptr (.agg [.sl (a.To.map NA),.sl (a.Keep.map D.bool)]) 0),(3,.fptr (.agg [.sl (e.Out.map (eL NA))]) 0),(8,Av c.1)]) (O:=λ_ _=>[]) (j:=λ_=>OY e b a c) ?_ ?_
 ·refine A 5 ?_;refine NS r ?_ ?_
  ·exact B
  ·refine A 4 ?_;refine NS r ?_ ?_
   ·refine Ab 4 λm o=>?_
    refine Ab 6 λp q=>?_
    refine Ac 7 ?_ ?_
    ·exact B
    ·refine A 1 ?_;exact xC (s:=()) () hX
   ·refine A 19 ?_;exact xC (s:=()) () hX
 ·rintro⟨⟩ ⟨⟩ nn
  try dsimp only
  unfold OY;refine Ab 6 λd t=>?_
  refine A 7 ?_;refine lP (E:=λ(s:Int) (_g:Unit)=>[(0,Av b),(2,.fptr (.agg [.sl (a.To.map NA),.sl (a.Keep.map D.bool)]) 0),(8,Av c.1),(48,.sl (d.map NA)),(49,Av (d.length:Int)),(50,Av s)]) (O:=λ_ _=>[]) (body:=λs=>QM d a b c s) (s:=0) () hX<|?_
  rintro f ⟨⟩ nn
  try dsimp only
  unfold QM;refine Ac 6 ?_ ?_
  ·refine Ab 6 λu v=>?_
   refine Ab 10 λx z=>?_
   refine A 7 ?_;refine NS r ?_ ?_
   ·refine Ab 3 λaa ab=>?_
    refine Ab 5 λac ad=>?_
    refine Ac 6 ?_ ?_
    ·exact B
    ·refine A 7 ?_;exact xL (s:=i64.wrap (f+1)) () hX
   ·refine A 22 ?_;exact xL (s:=i64.wrap (f+1)) () hX
  ·exact B

def Aws:OU:=(Tryz.f157.body.bind (Pk Tryz.prog Tryz.f157.ntmps)).getD .skip
theorem AzA:(Tryz.f157.body.bind (Pk Tryz.prog Tryz.f157.ntmps))=some Aws:=by kernel_rfl
theorem AzB:Tryz.f157.results.toList.mapM (VA Tryz.prog)=some [(.t 6)]:=by kernel_rfl

def Ry (a:Mk×NT×NO):List D:=[NM a.1,QP a.2.1,Xf a.2.2]
def Rx (ds:List D):Mk×NT×NO:=(Qz (ds.getD 0 .top),Va (ds.getD 1 .top),Adm (ds.getD 2 .top))
instance:Oc Ry Rx:=⟨λa=>by simp[Rx,Ry]⟩
def Ahr:Dw.Spec:=NI [] .ground Ry Rx (λa=>Vv a.1 a.2.1 a.2.2) Tx noE
def AeB:Dw.Spec:=Acj (specs []) 3 [(.t 6)] Aws
theorem Alx:ND Tryz.prog 157 AeB:=Ve (NZ) Tryz.func157 (by decide) AzA AzB (by decide)
theorem AnZ:ND Tryz.prog 94 Ahr:=by
 refine fn2 3 (NJ (l:=[(92,YU),(93,AbA),(157,AeB),(218,WS)]) (by simp[Acd,Aft,Alx,Afw])) Tryz.func94<|?_
 rintro⟨b,e,a⟩;unfold Vv;refine A 10 ?_;refine sC (E:=λ(_s:Unit) (g:Nat×Nat×Nat)=>[(3,.optr 3 g.1 0 0),(4,.optr 4 g.2.1 0 0),(5,.optr 5 g.2.2 0 0)]) (O:=λ_ g=>[(3,dV g.1 3 36 (NM b)),(4,dV g.2.1 1 45 (.agg [.sl (e.Out.map (eL NA))])),(5,dV g.2.2 2 48 (.agg [.sl (a.To.map NA),.sl (a.Keep.map D.bool)]))]) (j:=λ_=>VS b a e) ?_ ?_
 ·refine Ab 4 λi k=>?_
  refine A 3 ?_;refine NS r ?_ ?_
  ·exact B
  ·refine Ab 2 λm o=>?_
   refine Ac 5 ?_ ?_
   ·exact B
   ·refine A 1 ?_;exact xC (s:=()) (_,_,_) hX
 ·rintro⟨⟩ ⟨p,q,t⟩ nn
  try dsimp only
  unfold VS;refine A 5 ?_;refine Uh (E:=λ(g:Nat)=>[(3,.optr 1003 g 0 0),(23,NM b),(24,.agg [.sl (e.Out.map (eL NA))]),(25,.agg [.sl (a.To.map NA),.sl (a.Keep.map D.bool)])]) (O:=λg=>[(1003,dV g 3 36 (NM b))]) _ ((PC (λg=>bif Nat.ble 4096 g then g+20000 else g+1000) (by kernel_rfl) hX))<|?_
  rintro f nn
  try dsimp only
  refine Ald (ds:=[NM b,.agg [.sl (e.Out.map (eL NA))],.agg [.sl (a.To.map NA),.sl (a.Keep.map D.bool)]]) (caps:=[]) (E:=[(0,NM b),(1,.agg [.sl (e.Out.map (eL NA))]),(2,.agg [.sl (a.To.map NA),.sl (a.Keep.map D.bool)])]) r r r r r r r r<|Zc (c:=Aws)<|?_;refine A 7 ?_;refine Qf (E:=[(3,.fptr (NM b) 0),(4,.fptr (.agg [.sl (e.Out.map (eL NA))]) 0),(5,.fptr (.agg [.sl (a.To.map NA),.sl (a.Keep.map D.bool)]) 0)]) (O:=[(1003,dV f 3 36 (NM b))]) ((hV 3 r (hV 4 r (hV 5 r (hY))))) λnn=>?_
  refine A 2 ?_;refine mF (caps:=[.fptr (NM b) 0,.fptr (.agg [.sl (a.To.map NA),.sl (a.Keep.map D.bool)]) 0,.fptr (.agg [.sl (e.Out.map (eL NA))]) 0]) r r (by simp[SN])<|?_
  refine A 4 ?_;refine Aiv (d:=.clo 218 [.fptr (NM b) 0,.fptr (.agg [.sl (a.To.map NA),.sl (a.Keep.map D.bool)]) 0,.fptr (.agg [.sl (e.Out.map (eL NA))]) 0]) (E:=[(3,.optr 3 _ 0 0),(26,.clo 218 [.fptr (NM b) 0,.fptr (.agg [.sl (a.To.map NA),.sl (a.Keep.map D.bool)]) 0,.fptr (.agg [.sl (e.Out.map (eL NA))]) 0])]) (O:=[(3,dV _ 3 36 (NM b))]) r (by first|rfl|(simp[Ol,Oq,rdA,raw,strip,Ou,cells,Oo];done)|(simp[Ol,Oq,rdA,raw,strip,Ou,S.ge,S.go,look,SX,cells,Oo];done)) r ((PN [] hX (by kernel_rfl) (λ_=>hX))) λnn=>?_
  refine A 13 ?_;refine lP (E:=λ(s:Int) (_g:Unit)=>[(9,.clo 218 [.fptr (NM b) 0,.fptr (.agg [.sl (a.To.map NA),.sl (a.Keep.map D.bool)]) 0,.fptr (.agg [.sl (e.Out.map (eL NA))]) 0]),(29,Av (b.Code.length:Int)),(30,Av s)]) (O:=λ_ _=>[]) (body:=λs=>VR b a e s) (s:=0) () hX<|?_
  rintro h ⟨⟩ nn
  try dsimp only
  unfold VR;refine Ac 6 ?_ ?_
  ·refine Ab 14 λu v=>?_
   refine Ac 13 ?_ ?_
   ·exact B
   ·refine A 7 ?_;exact xL (s:=i64.wrap (h+1)) () hX
  ·exact B

def Alh:Dw.Spec:=NI [] .ground Ry Rx (λa=>Uj a.1 a.2.1 a.2.2) NC noE
theorem AqH:ND Tryz.prog 40 Alh:=by
 refine fn2 3 (NJ (l:=[(92,YU),(93,AbA),(94,Ahr)]) (by simp[Acd,Aft,AnZ])) Tryz.func40<|?_
 intro a;unfold Uj;exact B

def Xa (a:Int×(List Int)):List D:=[Av a.1,.fptr (.sl (a.2.map NA)) 0]
def WZ (ds:List D):Int×(List Int):=(uI (ds.getD 0 .top),(uL uI) (fpD (ds.getD 1 .top)))
instance:Oc Xa WZ:=⟨λa=>by simp[WZ,Xa,uI,fpD,Oy (u:=uI) (en:=NA) (λ_=>rfl)]⟩
def AfF:Dw.Spec:=NI [] .ground Xa WZ (λa=>PY a.1 a.2) NC noE
theorem Amk:ND Tryz.prog 221 AfF:=by
 refine fn2 2 (NZ) Tryz.func221<|?_;intro a;unfold PY;exact B

def RD (b:Lo):D:=NX b
def Aky:Dw.Spec:=NI [] .ground Xh Xg (λa=>Wb a.1 a.2) RD noE
theorem Aqx:ND Tryz.prog 161 Aky:=by
 refine fn2 2 (NJ (l:=[(221,AfF)]) (by simp[Amk])) Tryz.func161<|?_
 rintro⟨b,a⟩;unfold Wb;refine A 6 ?_;refine Qf (E:=[(2,.optr 2 _ 0 0),(3,.fptr (.sl (a.map NA)) 0),(4,.optr 4 _ 0 0)]) (O:=[(2,dV _ 5 90 (NX b)),(4,dV _ 5 90 (.agg [Av 0,Av 0,Av 0,Av 0,AoU 0]))]) ((hV 3 r (hY))) λnn=>?_
 refine A 2 ?_;refine mF (caps:=[.fptr (.sl (a.map NA)) 0]) r r (by simp[SN])<|?_
 exact B

def Afv (a:Mk×NO×(List Int)):List D:=[NM a.1,Xf a.2.1,.sl (a.2.2.map NA)]
def Afu (ds:List D):Mk×NO×(List Int):=(Qz (ds.getD 0 .top),Adm (ds.getD 1 .top),(uL uI) (ds.getD 2 .top))
instance:Oc Afv Afu:=⟨λa=>by simp[Afu,Afv,Oy (u:=uI) (en:=NA) (λ_=>rfl)]⟩
def Anq (b:(List Lo)):D:=.sl (b.map NX)
def Air:Dw.Spec:=NI [] (.row 5 90) Afv Afu (λa=>WI a.1 a.2.1 a.2.2) Anq noE
theorem AlU:ND Tryz.prog 100 Air:=by
 refine fn2 3 (NJ (l:=[(161,Aky)]) (by simp[Aqx])) Tryz.func100<|?_
 rintro⟨a,b,d⟩;unfold WI;refine A 22 ?_;refine lP (E:=λ(s:(List Lo)×Int) (g:Nat×Nat)=>[(2,.sl (d.map NA)),(4,.optr 4 g.1 0 0),(7,.osl 7 g.2 0 s.1.length),(11,.sl (a.Code.map NX)),(12,Av (a.Code.length:Int)),(13,Av s.2)]) (O:=λs g=>[(4,dV g.1 2 48 (.agg [.sl (b.To.map NA),.sl (b.Keep.map D.bool)])),(7,dW g.2 5 90 (s.1.map NX))]) (body:=λs=>AbC a b d s.1 s.2) (s:=(([]:List Lo),0)) (_,_) hX<|?_
 rintro⟨c,e⟩ ⟨k,m⟩ nn
 try dsimp only
 unfold AbC;refine Ac 6 ?_ ?_
 ·refine Ab 7 λf o=>?_
  refine A 7 ?_;refine sC (E:=λ(s:Bool) (g:Nat×Nat×Nat)=>[(2,.sl (d.map NA)),(4,.optr 4 g.1 0 0),(7,.osl 7 g.2.1 0 c.length),(9,.optr 9 g.2.2 0 0),(11,.sl (a.Code.map NX)),(12,Av (a.Code.length:Int)),(13,Av e),(29,.bool s)]) (O:=λ_ g=>[(4,dV g.1 2 48 (.agg [.sl (b.To.map NA),.sl (b.Keep.map D.bool)])),(7,dW g.2.1 5 90 (c.map NX)),(9,dV g.2.2 5 90 (NX f))]) (j:=λs=>UY f d c e s) ?_ ?_
  ·refine A 7 ?_;refine NS r ?_ ?_
   ·refine Ab 3 λi p=>?_
    refine A 4 ?_;exact xC (s:=i) (_,_,_) hX
   ·refine A 7 ?_;exact xC (s:=false) (_,_,_) hX
  ·rintro q ⟨t,u,v⟩ nn
   try dsimp only
   unfold UY;refine cD r ?_ ?_
   ·refine Ab 4 λh x=>?_
    refine A 1 ?_;refine bS ([h]:List Lo) NX r r r (by simp) r r r<|?_
    refine A 9 ?_;exact xL (s:=(c++([h]:List Lo),i64.wrap (e+1))) (_,_) hX
   ·refine A 7 ?_;exact xL (s:=(c,i64.wrap (e+1))) (_,_) hX
 ·exact B

end
end Go.Proofs.YtcaoepecbgggcaaGreatDoor
