/-
 The code does what its typed programs say.
-/
import Derived.Test.YtcaoepecbgggcaaGreatDoorSh
import Derived.Test.YtcaoepecbgggcaaGreatDoorDxP
open BitVec renaming ofInt->aA
open Nat renaming min->aAA
namespace Go.Proofs.YtcaoepecbgggcaaGreatDoor
open Go Go.Dw Go.Proofs
open Go.IntKind (i64 u64)
set_option maxRecDepth 100000
set_option maxHeartbeats 40000000
open Go.Dw renaming QN -> bD,QW -> cK,Uy -> cG,Vs -> cD,YA -> xC,UF -> xL,XG -> lP,Vg -> sC,SG -> bC,rf -> r
abbrev TO:=en2 Lo Lo
abbrev Aor:=de2 uI uI
def NH (b:Bool):D:=.bool b
theorem Aje:Ns Tryz.prog 228 (fS .ground TO (λa=>Rt a.1 a.2) NH):=by
 refine fn2 2 (Np) Tryz.func228<|?_;intro a;unfold Rt;exact B

abbrev Pj:=en1 Lo
abbrev AxW:=de1 uI
theorem Ajg:Ns Tryz.prog 209 (fS .ground Pj (λa=>WA a) NH):=by
 refine fn2 1 (Np) Tryz.func209<|?_;intro a;unfold WA;exact B

theorem YI:Ns Tryz.prog 150 (fS .ground Pj (λa=>Qq a) NH):=by
 refine fn2 1 (Np) Tryz.func150<|?_;intro a;unfold Qq;exact B

abbrev Akd:=en1 Oo
abbrev AtV:=de1 Yb
theorem Alp:Ns Tryz.prog 208 (fS .ground Akd (λa=>TF a) NH):=by
 refine fn2 1 (nK 209 Ajg<|nK 150 YI<|Np) Tryz.func208<|?_;intro a;unfold TF;exact B

def Pr (a:(List NA)):List D:=[.sl (a.map Oo),.clo 208 []]
def Pq (ds:List D):(List NA):=(uL Yb) (ds.getD 0 .top)
instance:OZ Pr Pq:=⟨λa=>by simp[Pq,Pr,Qe (u:=Yb) (en:=Oo) AkS]⟩
def Nr (b:Int):D:=Nn b
noncomputable def Sl:Dw.Spec:=NU [] .ground Pr Pq (λa=>PQ a) Nr noE
theorem Wz:Ns Tryz.prog 253 Sl:=by
 refine fn2 2 (nK 208 Alp<|Np) Tryz.func253<|?_;intro a;unfold PQ;refine A 14 ?_;refine lP (E:=λ(s:Int) (_g:Unit)=>[oM 0 a Oo,(1,.clo 208 []),oL 7 a,oI 8 s]) (O:=λ_ _=>[]) () hX<|?_
 rintro b ⟨⟩ nn;dsimp only[Pv];exact B

noncomputable def RI:Dw.Spec:=NU [] .ground Pr Pq (λa=>Pu a) NH noE
theorem VE:Ns Tryz.prog 207 RI:=by
 refine fn2 2 (nK 856317 Wz<|Np) Tryz.func207<|?_;intro a;unfold Pu;refine A 9 ?_;refine bD λc b=>cG a rfl rfl (show _=some Sl from by kernel_rfl) OZ.ok rfl rfl (by simp) r b r<|?_
 exact B

abbrev Aoq:=en2 Pz Nz
abbrev AxK:=de2 Rp Re
def AqT (b:Oq):D:=Aho b
theorem Apy:Ns Tryz.prog 266 (fS .ground Aoq (λa=>Ve a.1 a.2) AqT):=by
 refine fn2 2 (Np) Tryz.func266<|?_;intro a;unfold Ve;exact B

theorem Aaf:Ns Tryz.prog 230 (fS .ground Pj (λa=>PD a) NH):=by
 refine fn2 1 (Np) Tryz.func230<|?_;intro a;unfold PD;exact B

theorem UP:Ns Tryz.prog 254 (fS .ground Pj (λa=>Qj a) NH):=by
 refine fn2 1 (Np) Tryz.func254<|?_;intro a;unfold Qj;exact B

abbrev AgA:=en3 NL Lo D.bool
abbrev Agz:=de3 PE uI uBo
def Aig (_b:Nu):D:=.tup []
def Aif (b:Nu):List D:=[NL b]
theorem Xh:Ns Tryz.prog 231 (NU [(0,(8,255))] .val AgA Agz (λa=>Sv a.1 a.2.1 a.2.2) Aig Aif):=by
 refine fn2 3 (nK 254 UP<|Np) Tryz.func231<|?_;rintro⟨c,b,o⟩;unfold Sv;refine Ab 13 λp s=>?_
 refine Ac 5 ?_ ?_
 ·exact B
 ·refine Ac 6 ?_ ?_
  ·refine A 5 ?_;refine cK λhq=>QA r r r hq<|bD λd f=>Qs (q:=d) (l:=c.toList) (en:=XQ) (j:=(i64.wrap (b.tdiv 64)).toNat) (by simp) r r r f r (λ_=>r)<|?_
   refine A 3 ?_;refine cK λhq=>QA r r r hq<|bD λg h=>Agu (q:=g) (q':=u64.wrap ((aA u64.bits d ||| aA u64.bits (u64.wrap (1*2 ^ (aAA ((u64.wrap (b)).tmod 64).toNat u64.bits)))).toNat)) (l:=c.toList) (en:=XQ) (j:=(i64.wrap (b.tdiv 64)).toNat) (z':=NL (c.set ((i64.wrap (b.tdiv 64)).toNat) (u64.wrap ((aA u64.bits d ||| aA u64.bits (u64.wrap (1*2 ^ (aAA ((u64.wrap (b)).tmod 64).toNat u64.bits)))).toNat)))) (by simp) r r r r r h r r (congrArg (λl=>D.agg (l.map XQ)) (RK c ((i64.wrap (b.tdiv 64)).toNat) (u64.wrap ((aA u64.bits d ||| aA u64.bits (u64.wrap (1*2 ^ (aAA ((u64.wrap (b)).tmod 64).toNat u64.bits)))).toNat))).symm) r r<|?_
   exact B
  ·refine A 5 ?_;refine cK λhq=>QA r r r hq<|bD λe i=>Qs (q:=e) (l:=c.toList) (en:=XQ) (j:=(i64.wrap (b.tdiv 64)).toNat) (by simp) r r r i r (λ_=>r)<|?_
   refine A 3 ?_;refine cK λhq=>QA r r r hq<|bD λk m=>Agu (q:=k) (q':=u64.wrap ((aA u64.bits e &&& ~~~ aA u64.bits (u64.wrap (1*2 ^ (aAA ((u64.wrap (b)).tmod 64).toNat u64.bits)))).toNat)) (l:=c.toList) (en:=XQ) (j:=(i64.wrap (b.tdiv 64)).toNat) (z':=NL (c.set ((i64.wrap (b.tdiv 64)).toNat) (u64.wrap ((aA u64.bits e &&& ~~~ aA u64.bits (u64.wrap (1*2 ^ (aAA ((u64.wrap (b)).tmod 64).toNat u64.bits)))).toNat)))) (by simp) r r r r r m r r (congrArg (λl=>D.agg (l.map XQ)) (RK c ((i64.wrap (b.tdiv 64)).toNat) (u64.wrap ((aA u64.bits e &&& ~~~ aA u64.bits (u64.wrap (1*2 ^ (aAA ((u64.wrap (b)).tmod 64).toNat u64.bits)))).toNat))).symm) r r<|?_
   exact B

abbrev Agy:=en2 NL Lo
abbrev Agx:=de2 PE uI
def Aie (b:Bool×Nu):D:=.bool b.1
def Aid (b:Bool×Nu):List D:=[NL b.2]
theorem Ahc:Ns Tryz.prog 232 (NU [(0,(8,255))] .val Agy Agx (λa=>Rx a.1 a.2) Aie Aid):=by
 refine fn2 2 (nK 254 UP<|Np) Tryz.func232<|?_;rintro⟨b,c⟩;unfold Rx;refine Ab 8 λf g=>?_
 refine A 2 ?_;refine RL r ?_ ?_
 ·refine A 4 ?_;refine cK λhq=>QA r r r hq<|bD λd e=>Qs (q:=d) (l:=b.toList) (en:=XQ) (j:=(i64.wrap (c.tdiv 64)).toNat) (by simp) r r r e r (λ_=>r)<|?_
  exact B
 ·exact B

abbrev Aeo:=en2 (fpE NL) Lo
abbrev ApG:=de2 (fpU PE) uI
theorem AeO:Ns Tryz.prog 232 (fS .ground Aeo (λa=>Su a.1 a.2) NH):=by
 refine fn2 2 (nK 254 UP<|Np) Tryz.func232<|?_;rintro⟨b,c⟩;unfold Su;refine Ab 8 λf g=>?_
 refine A 2 ?_;refine RL r ?_ ?_
 ·refine A 4 ?_;refine cK λhq=>AuK r r r hq<|bD λd e=>Ara (q:=d) (l:=b.toList) (en:=XQ) (j:=(i64.wrap (c.tdiv 64)).toNat) (by simp) r r e (λ_=>r)<|?_
  exact B
 ·exact B

def WD (a:Int×Nu):List D:=[Nn a.1,.fptr (.fptr (NL a.2) 0) 0]
def Aaj (ds:List D):Int×Nu:=(uI (ds.getD 0 .top),PE (fpD (fpD (ds.getD 1 .top))))
instance:OZ WD Aaj:=⟨λa=>by simp[Aaj,WD,uI,fpD]⟩
theorem Ahb:Ns Tryz.prog 234 (fS .ground WD (λa=>Uc a.1 a.2) NH):=by
 refine fn2 2 (nK 232 AeO<|Np) Tryz.func234<|?_;intro a;unfold Uc;exact B

abbrev Afz:=en1 NL
abbrev Afy:=de1 PE
def Ahe (b:(List Int)×Nu):D:=.sl (b.1.map Lo)
def Ahd (b:(List Int)×Nu):List D:=[NL b.2]
theorem Sd:Ns Tryz.prog 220 (NU [(0,(8,255))] (.row 1 3) Afz Afy (λa=>QD a) Ahe Ahd):=by
 refine fn2 1 (nK 262 AxR<|Np) Tryz.func220<|?_;intro b;unfold QD;refine A 18 ?_;refine lP (E:=λ(s:(List Int)×Int) (g:Nat)=>[oT 3 g s.1,(6,.optr 8192 0 0 0),oI 7 s.2]) (O:=λs g=>[(3,dW g 1 3 (s.1.map Lo)),(8192,dV 0 8 255 (NL b))]) _ hX<|?_
 rintro⟨f,c⟩ h nn;dsimp only[Aak];refine Ac 6 ?_ ?_
 ·refine A 8 ?_;refine cK λhq=>QA r r r hq<|bD λd e=>Qs (q:=d) (l:=b.toList) (en:=XQ) (j:=c.toNat) (by simp) r r r e r (λ_=>r)<|?_
  refine A 5 ?_;refine lP (E:=λ(s:(List Int)×Int) (g:Nat)=>[oT 3 g s.1,oI 4 c,(5,AnK s.2),(6,.optr 8192 0 0 0),oI 7 c]) (O:=λs g=>[(3,dW g 1 3 (s.1.map Lo)),(8192,dV 0 8 255 (NL b))]) _ hX<|?_
  rintro⟨i,k⟩ m nn;dsimp only[Aal];exact B
 ·exact B

theorem AbD:Ns Tryz.prog 149 (fS .ground Pj (λa=>Ta a) NH):=by
 refine fn2 1 (Np) Tryz.func149<|?_;intro a;unfold Ta;exact B

def Vx (b:Int×Int):D:=.tup [Nn b.1,Nn b.2]
theorem Aej:Ns Tryz.prog 151 (fS .ground Pj (λa=>TG a) Vx):=by
 refine fn2 1 (Np) Tryz.func151<|?_;intro a;unfold TG;exact B

noncomputable def Akc:Dw.Spec:=NU [] .ground TO Aor (λa=>UT a.1 a.2) Vx noE
theorem AdR:Ns Tryz.prog 90 Akc:=by
 refine fn2 2 (nK 149 AbD<|nK 151 Aej<|Np) Tryz.func90<|?_;rintro⟨a,b⟩;unfold UT;refine A 6 ?_;refine sC (E:=λ(_s:Unit) (_g:Unit)=>[oI 0 a,oI 1 b]) (O:=λ_ _=>[]) (j:=λ_=>Yf a b) ?_ ?_
 ·exact B
 ·rintro⟨⟩ ⟨⟩ nn;dsimp only[Yf];exact B

def TV (a:NY×Int):List D:=[.agg [.sl (a.1.g.map (eL Lo)),.sl (a.1.w.map Lo),.row 1 4 (a.1.known.map D.bool),.row 1 3 (a.1.of.map Lo)],Nn a.2]
def TU (ds:List D):NY×Int:=((⟨(uL (uL uI)) (cel (ds.getD 0 .top) 0),(uL uI) (cel (ds.getD 0 .top) 1),(uR uBo) (cel (ds.getD 0 .top) 2),(uR uI) (cel (ds.getD 0 .top) 3)⟩:NY),uI (ds.getD 1 .top))
instance:OZ TV TU:=⟨λa=>by simp[TU,TV,uI,cel,Qe (u:=(uL uI)) (en:=(eL Lo)) (Qe (u:=uI) (en:=Lo) (λ_=>rfl)),Qe (u:=uI) (en:=Lo) (λ_=>rfl),AwF (u:=uI) (en:=Lo) (λ_=>rfl),AwF (u:=uBo) (en:=D.bool) (λ_=>rfl)]⟩
def Abs (b:Int×Int×NY):D:=.tup [Nn b.1,Nn b.2.1]
def Abr (b:Int×Int×NY):List D:=[.agg [.sl (b.2.2.g.map (eL Lo)),.sl (b.2.2.w.map Lo),.row 1 4 (b.2.2.known.map D.bool),.row 1 3 (b.2.2.of.map Lo)]]
noncomputable def Aih:Dw.Spec:=NU [(0,(4,194))] .val TV TU (λa=>YV a.1 a.2) Abs Abr
noncomputable def Sw (b:NY->Int->Option (Int×Int×NY)):Dw.Spec:=NU [(0,(4,194))] .val TV TU (λa=>b a.1 a.2) Abs Abr
theorem AgD (h:NY->Int->Option (Int×Int×NY)) (hrec:Ns Tryz.prog 175 (Sw h)):Ns Tryz.prog 175 (Sw (Rg h)):=by
 refine fn2 2 (AqX (l:=[(175,Sw h),(90,Akc)]) (by simp[hrec,AdR])) Tryz.func175<|?_
 rintro⟨a,b⟩;unfold Rg;refine A 8 ?_;refine Aez (E:=[(0,.optr 8192 0 0 0),oI 1 b]) (O:=[(4697,dW _ 1 4 (a.known.map D.bool)),(8192,dV 0 4 194 (.agg [.sl (a.g.map (eL Lo)),.sl (a.w.map Lo),.osl 4697 _ 0 a.known.length,.row 1 3 (a.of.map Lo)]))]) ((Aht (g:=8192) (off:=2) 601 (a.known) D.bool r r r hX)) λnn=>?_
 refine Ab 6 λo ab=>?_
 refine A 2 ?_;refine Qc (E:=[(0,.optr 8192 0 0 0),oI 1 b,oB 19 o]) (O:=[(8192,dV 0 4 194 (.agg [.sl (a.g.map (eL Lo)),.sl (a.w.map Lo),.row 1 4 (a.known.map D.bool),.row 1 3 (a.of.map Lo)]))]) ((Abf (g:=8192) (i:=0) (off:=2) (g':=4697) (l:=a.known) (en:=D.bool) r r r (.inr ⟨rfl,r⟩) r r (λ_=>r) r hX)) λnn=>cD r ?_ ?_
 ·refine A 1 ?_;refine Aez (E:=[(0,.optr 8192 0 0 0),oI 1 b]) (O:=[(4698,dW _ 1 3 (a.of.map Lo)),(8192,dV 0 4 194 (.agg [.sl (a.g.map (eL Lo)),.sl (a.w.map Lo),.row 1 4 (a.known.map D.bool),.osl 4698 _ 0 a.of.length]))]) ((Aht (g:=8192) (off:=3) 602 (a.of) Lo r r r hX)) λnn=>?_
  refine Ab 6 λp ac=>?_
  refine A 4 ?_;refine Qc (E:=[oI 4 p,oI 5 0]) (O:=[(8192,dV 0 4 194 (.agg [.sl (a.g.map (eL Lo)),.sl (a.w.map Lo),.row 1 4 (a.known.map D.bool),.row 1 3 (a.of.map Lo)]))]) ((Abf (g:=8192) (i:=0) (off:=3) (g':=4698) (l:=a.of) (en:=Lo) r r r (.inr ⟨rfl,r⟩) r r (λ_=>r) r hX)) λnn=>?_
  exact B
 ·refine Ab 15 λj ad=>?_
  refine A 7 ?_;refine lP (E:=λ(s:(List (List Int))×(List Int)×(List Bool)×(List Int)×Int×Int) (_g:Unit)=>[(0,.optr 8192 0 0 0),oI 1 b,oI 6 s.2.2.2.2.2,oM 33 j Lo,oL 34 j,oI 35 s.2.2.2.2.1]) (O:=λs _=>[(8192,dV 0 4 194 (.agg [.sl (s.1.map (eL Lo)),.sl (s.2.1.map Lo),.row 1 4 (s.2.2.1.map D.bool),.row 1 3 (s.2.2.2.1.map Lo)]))]) (body:=λs=>Xi j h b s.1 s.2.1 s.2.2.1 s.2.2.2.1 s.2.2.2.2.1 s.2.2.2.2.2) (s:=(a.g,a.w,a.known,a.of,0,0)) () hX<|?_
  rintro⟨k,m,c,d,t,u⟩ ⟨⟩ nn
  try dsimp only
  unfold Xi;refine Ac 6 ?_ ?_
  ·refine Ab 6 λae af=>?_
   refine Ab 9 λe ag=>?_
   refine Ac 15 ?_ ?_
   ·exact B
   ·refine A 14 ?_;exact xL (s:=(e.2.2.g,e.2.2.w,e.2.2.known,e.2.2.of,i64.wrap (t+1),OM u e.1)) () hX
  ·refine Ab 12 λah ai=>?_
   refine Ab 3 λf aj=>?_
   refine Ac 15 ?_ ?_
   ·exact B
   ·refine A 3 ?_;refine Aez (E:=[(0,.optr 8192 0 0 0),oI 1 b,oI 11 f.1]) (O:=[(4699,dW _ 1 3 (d.map Lo)),(4700,dW _ 1 4 (c.map D.bool)),(8192,dV 0 4 194 (.agg [.sl (k.map (eL Lo)),.sl (m.map Lo),.osl 4700 _ 0 c.length,.osl 4699 _ 0 d.length]))]) ((Aht (g:=8192) (off:=3) 603 (d) Lo r r r (Aht (g:=8192) (off:=2) 604 (c) D.bool r r r hX))) λnn=>?_
    refine A 12 ?_;refine bD λv x=>Ajf (l:=d) (en:=Lo) (q:=v) (q':=f.1) r r r r r x r (λ_=>r) r r r ⟨trivial,trivial,r⟩<|?_
    refine A 1 ?_;refine bD λz aa=>Ajf (l:=c) (en:=D.bool) (q:=z) (q':=true) r r r r r aa r (λ_=>r) r r r ⟨trivial,trivial,r⟩<|?_
    refine A 1 ?_;refine Qc (E:=[oI 11 f.1]) (O:=[(8192,dV 0 4 194 (.agg [.sl (k.map (eL Lo)),.sl (m.map Lo),.row 1 4 ((c.set b.toNat true).map D.bool),.row 1 3 ((d.set b.toNat f.1).map Lo)]))]) ((Abf (g:=8192) (i:=0) (off:=2) (g':=4700) (l:=c.set b.toNat true) (en:=D.bool) r r r (.inr ⟨rfl,r⟩) r (by simp) (λ_=>r) r (Abf (g:=8192) (i:=0) (off:=3) (g':=4699) (l:=d.set b.toNat f.1) (en:=Lo) r r r (.inr ⟨rfl,r⟩) r (by simp) (λ_=>r) r hX))) λnn=>?_
    exact B
theorem AgC:Ns Tryz.prog 175 (Sw (Qp 0)):=fn2 2 Np Tryz.func175 λ_ _ h=>by cases h
theorem Aam:∀ k,Ns Tryz.prog 175 (Sw (Qp k))
 | 0=>AgC
 | k+1=>AgD _ (Aam k)
theorem Ahf:Ns Tryz.prog 175 Aih:=Awz OZ.ok Aam

abbrev QU:=en1 NG
abbrev AtQ:=de1 RR
def XR (b:Int×Bool):D:=.tup [Nn b.1,.bool b.2]
theorem UN:Ns Tryz.prog 159 (fS .ground QU (λa=>RP a) XR):=by
 refine fn2 1 (Np) Tryz.func159<|?_;intro a;unfold RP;exact B

abbrev Ado:=en2 Nz (eL Lo)
abbrev AtL:=de2 Re (uL uI)
theorem AkW:Ns Tryz.prog 155 (fS .ground Ado (λa=>Xj a.1 a.2) NH):=by
 refine fn2 2 (Np) Tryz.func155<|?_;rintro⟨c,b⟩;unfold Xj;refine Ac 17 ?_ ?_
 ·exact B
 ·refine A 11 ?_;refine lP (E:=λ(s:Int) (g:Nat)=>[oM 1 b Lo,oP 2 g,oM 13 b Lo,oL 14 b,oI 15 s]) (O:=λ_ g=>[(2,dV g 3 36 (Nz c))]) _ hX<|?_
  rintro d e nn;dsimp only[ZZ];exact B

theorem Aju:Ns Tryz.prog 156 (fS .ground QU (λa=>XS a) NH):=by
 refine fn2 1 (nK 159 UN<|Np) Tryz.func156<|?_;intro a;unfold XS;exact B

abbrev AaA:=en4 Lo (fpE Nz) (fpE Xo) (fpE Rv)
abbrev AlT:=de4 uI (fpU Re) (fpU ZR) (fpU Vh)
theorem AaX:Ns Tryz.prog 218 (fS .ground AaA (λa=>QB a.1 a.2.1 a.2.2.1 a.2.2.2) XR):=by
 refine fn2 4 (nK 159 UN<|Np) Tryz.func218<|?_;rintro⟨k1,f,b,d⟩;unfold QB;refine Ab 11 λg h=>?_
 refine Ab 9 λc i=>?_
 refine A 8 ?_;refine sC (E:=λ(_s:Unit) (_g:Unit)=>[oI 0 k1,(2,.fptr (.agg [.sl (b.To.map Lo),.sl (b.Keep.map D.bool)]) 0),(3,.fptr (.agg [.sl (d.Out.map (eL Lo))]) 0),oI 8 c.1]) (O:=λ_ _=>[]) (j:=λ_=>PF d k1 b c) ?_ ?_
 ·exact B
 ·rintro⟨⟩ ⟨⟩ nn;dsimp only[PF];refine Ab 6 λe k=>?_
  refine A 7 ?_;refine lP (E:=λ(s:Int) (_g:Unit)=>[oI 0 k1,(2,.fptr (.agg [.sl (b.To.map Lo),.sl (b.Keep.map D.bool)]) 0),oI 8 c.1,oM 48 e Lo,oL 49 e,oI 50 s]) (O:=λ_ _=>[]) () hX<|?_
  rintro l ⟨⟩ nn;dsimp only[VF];exact B

abbrev XL:=en2 Qf Lo
abbrev AoM:=de2 Ti uI
def Aep (b:NN):D:=PZ b
theorem Yh:Ns Tryz.prog 224 (fS .ground XL (λa=>PS a.1 a.2) Aep):=by
 refine fn2 2 (Np) Tryz.func224<|?_;intro a;unfold PS;exact B

abbrev AeU:=en1 PZ
abbrev AvI:=de1 Vl
theorem Agd:Ns Tryz.prog 264 (fS .ground AeU (λa=>Vy a) NH):=by
 refine fn2 1 (nK 149 AbD<|Np) Tryz.func264<|?_;intro a;unfold Vy;exact B

abbrev Aln:=en2 PZ Lo
abbrev Avb:=de2 Vl uI
theorem AeT:Ns Tryz.prog 263 (fS .ground Aln (λa=>Sm a.1 a.2) NH):=by
 refine fn2 2 (nK 264 Agd<|Np) Tryz.func263<|?_;intro a;unfold Sm;exact B

theorem AeX:Ns Tryz.prog 222 (fS .ground XL (λa=>Sz a.1 a.2) NH):=by
 refine fn2 2 (nK 224 Yh<|nK 263 AeT<|Np) Tryz.func222<|?_;intro a;unfold Sz;exact B

abbrev AbE:=en2 PZ PZ
abbrev AwM:=de2 Vl Vl
theorem AnM:Ns Tryz.prog 265 (fS .ground AbE (λa=>AcS a.1 a.2) NH):=by
 refine fn2 2 (Np) Tryz.func265<|?_;intro a;unfold AcS;exact B

theorem Alo:Ns Tryz.prog 223 (fS .ground AbE (λa=>Xr a.1 a.2) NH):=by
 refine fn2 2 (nK 264 Agd<|nK 265 AnM<|Np) Tryz.func223<|?_;intro a;unfold Xr;exact B

abbrev AeW:=en3 Qf Rv Lo
abbrev Aqu:=de3 Ti Vh uI
theorem AfE:Ns Tryz.prog 163 (fS .ground AeW (λa=>Tb a.1 a.2.1 a.2.2) XR):=by
 refine fn2 3 (nK 159 UN<|nK 224 Yh<|nK 223 Alo<|Np) Tryz.func163<|?_;rintro⟨b,d,k3⟩;unfold Tb;refine Ab 14 λf h=>?_
 refine Ab 9 λc i=>?_
 refine A 8 ?_;refine sC (E:=λ(_s:Unit) (g:Nat×Nat)=>[oI 2 k3,oP 3 g.1,oP 4 g.2,oI 9 c.1]) (O:=λ_ g=>[(3,dV g.1 9 144 (Qf b)),(4,dV g.2 1 45 (.agg [.sl (d.Out.map (eL Lo))]))]) (j:=λ_=>QV d k3 c b) ?_ ?_
 ·exact B
 ·rintro⟨⟩ ⟨k,l⟩ nn;dsimp only[QV];refine Ab 6 λe m=>?_
  refine A 7 ?_;refine lP (E:=λ(s:Int) (g:Nat)=>[oP 3 g,oI 9 c.1,oM 52 e Lo,oL 53 e,oI 54 s]) (O:=λ_ g=>[(3,dV g 9 144 (Qf b))]) _ hX<|?_
  rintro o p nn;dsimp only[ZU];exact B

theorem Abu:Ns Tryz.prog 241 (fS .ground Pj (λa=>RS a) NH):=by
 refine fn2 1 (Np) Tryz.func241<|?_;intro a;unfold RS;exact B

theorem Acv:Ns Tryz.prog 244 (fS .ground TO (λa=>Rl a.1 a.2) NH):=by
 refine fn2 2 (Np) Tryz.func244<|?_;intro a;unfold Rl;exact B

abbrev AlM:=en2 Abd Lo
abbrev AyY:=de2 Abh uI
def AoO (b:OL×Bool):D:=.tup [Qa b.1,.bool b.2]
theorem Ani:Ns Tryz.prog 181 (fS .val AlM (λa=>AeF a.1 a.2) AoO):=by
 refine fn2 2 (nK 244 Acv<|nK 150 YI<|Np) Tryz.func181<|?_;rintro⟨c,d⟩;unfold AeF;refine Ab 14 λe f=>?_
 refine Ac 4 ?_ ?_
 ·refine A 9 ?_;refine Po (b:=((OL.mk (OA.mk 0 0 ([])) 0 0),false)) r ?_ r r ?_ (by first|rfl|(simp only[Nv];rfl)|(simp only[Ny];rfl)|(simp only[Nv,Ny];rfl)|(simp[AoO,Qa];try rfl)) (by decide)
  all_goals first|(simp;done)|(simp;omega)|rfl|(simp[OQ,OJ];done)|(simp[cells];done)
 ·exact B

theorem Ahy:Ns Tryz.prog 272 (fS .ground Pj (λa=>Qk a) NH):=by
 refine fn2 1 (Np) Tryz.func272<|?_;intro a;unfold Qk;exact B

theorem AnW:Ns Tryz.prog 269 (fS .ground QU (λa=>Qu a) NH):=by
 refine fn2 1 (nK 272 Ahy<|Np) Tryz.func269<|?_;intro b;unfold Qu;refine A 6 ?_;refine sC (E:=λ(s:Bool) (g:Nat)=>[oP 1 g,oB 3 s]) (O:=λ_ g=>[(1,dV g 5 90 (NG b))]) (j:=λs=>Ph b s) ?_ ?_
 ·exact B
 ·rintro c d nn;dsimp only[Ph];refine A 5 ?_;refine bC (E:=λ(s:Int) (g:Nat)=>[oP 1 g,oB 3 c,oI 4 s]) (O:=λ_ g=>[(1,dV g 5 90 (NG b))]) (j:=λs=>ON b c s) ?_ ?_
  ·refine sC (E:=λ(s:Bool) (g:Nat)=>[oP 1 g,oB 3 c,oI 4 2,oB 13 s]) (O:=λ_ g=>[(1,dV g 5 90 (NG b))]) (j:=λs=>Pb b c s) ?_ ?_
   ·exact B
   ·rintro e f nn;dsimp only[Pb];refine cD r ?_ ?_
    ·exact B
    ·refine sC (E:=λ(s:Bool) (g:Nat)=>[oP 1 g,oB 3 c,oI 4 2,oB 25 s]) (O:=λ_ g=>[(1,dV g 5 90 (NG b))]) (j:=λs=>PC b c s) ?_ ?_
     ·exact B
     ·rintro h i nn;dsimp only[PC];exact B
  ·rintro k l nn;dsimp only[ON];exact B

theorem Ahx:Ns Tryz.prog 271 (fS .ground Pj (λa=>Ul a) NH):=by
 refine fn2 1 (nK 244 Acv<|Np) Tryz.func271<|?_;intro a;unfold Ul;exact B

abbrev Acu:=en3 NG (fpE Abd) (fpE Qa)
abbrev AnV:=de3 RR (fpU Abh) (fpU WR)
theorem AdE:Ns Tryz.prog 246 (fS .ground Acu (λa=>RA a.1 a.2.1 a.2.2) NH):=by
 refine fn2 3 (Np) Tryz.func246<|?_;intro a;unfold RA;exact B

theorem AdG:Ns Tryz.prog 141 (fS .ground QU (λa=>RZ a) NH):=by
 refine fn2 1 (Np) Tryz.func141<|?_;intro a;unfold RZ;exact B

theorem XW:Ns Tryz.prog 143 (fS .ground QU (λa=>Sn a) XR):=by
 refine fn2 1 (nK 141 AdG<|Np) Tryz.func143<|?_;intro a;unfold Sn;exact B

theorem AiS:Ns Tryz.prog 125 (fS .ground Pj (λa=>Wv a) NH):=by
 refine fn2 1 (Np) Tryz.func125<|?_;intro a;unfold Wv;exact B

theorem Aok:Ns Tryz.prog 140 (fS .ground Ado (λa=>AcY a.1 a.2) NH):=by
 refine fn2 2 (Np) Tryz.func140<|?_;rintro⟨b,c⟩;unfold AcY;refine Ac 17 ?_ ?_
 ·exact B
 ·refine A 9 ?_;refine lP (E:=λ(s:Int) (g:Nat)=>[oM 1 c Lo,oP 2 g,oI 5 s]) (O:=λ_ g=>[(2,dV g 3 36 (Nz b))]) _ hX<|?_
  rintro d f nn;dsimp only[AhM];refine Ac 9 ?_ ?_
  ·refine Ab 8 λh i=>?_
   refine A 4 ?_;refine RL r ?_ ?_
   ·exact B
   ·refine Ab 2 λj k=>?_
    refine Ac 8 ?_ ?_
    ·exact B
    ·refine A 8 ?_;exact xL (s:=i64.wrap (d+1)) _ hX
  ·refine A 12 ?_;refine lP (E:=λ(s:Int) (g:Nat)=>[oM 1 c Lo,oP 2 g,oI 6 s]) (O:=λ_ g=>[(2,dV g 3 36 (Nz b))]) _ hX<|?_
   rintro e l nn;dsimp only[AhN];refine Ac 9 ?_ ?_
   ·refine Ab 10 λm o=>?_
    refine Ab 2 λp q=>?_
    refine Ab 6 λt u=>?_
    refine A 5 ?_;refine RL r ?_ ?_
    ·exact B
    ·refine Ab 3 λv x=>?_
     refine Ab 2 λz aa=>?_
     refine Ab 4 λab ac=>?_
     refine Ac 6 ?_ ?_
     ·exact B
     ·refine A 8 ?_;exact xL (s:=i64.wrap (e+1)) _ hX
   ·exact B

theorem Apk:Ns Tryz.prog 185 (fS .ground Pj (λa=>Td a) NH):=by
 refine fn2 1 (Np) Tryz.func185<|?_;intro a;unfold Td;exact B

theorem AcB:Ns Tryz.prog 68 (fS .ground Pj (λa=>QP a) NH):=by
 refine fn2 1 (Np) Tryz.func68<|?_;intro b;unfold QP;refine A 12 ?_;refine lP (E:=λ(s:Int) (_g:Unit)=>[oI 0 b,oI 3 s]) (O:=λ_ _=>[]) () hX<|?_
 rintro k2 ⟨⟩ nn;dsimp only[RQ];exact B

theorem ZE:Ns Tryz.prog 130 (fS .ground Pj (λa=>SO a) NH):=by
 refine fn2 1 (Np) Tryz.func130<|?_;intro a;unfold SO;exact B

abbrev AmC:=en2 Oo Oo
abbrev Awn:=de2 Yb Yb
theorem Ans:Ns Tryz.prog 251 (fS .ground AmC (λa=>AbT a.1 a.2) NH):=by
 refine fn2 2 (Np) Tryz.func251<|?_;intro a;unfold AbT;exact B

theorem AcC:Ns Tryz.prog 204 (fS .ground AeU (λa=>Rm a) NH):=by
 refine fn2 1 (nK 130 ZE<|Np) Tryz.func204<|?_;intro a;unfold Rm;exact B

theorem AgS:Ns Tryz.prog 83 (fS .ground TO (λa=>WM a.1 a.2) Vx):=by
 refine fn2 2 (nK 130 ZE<|nK 68 AcB<|Np) Tryz.func83<|?_;rintro⟨b,c⟩;unfold WM;refine A 6 ?_;refine sC (E:=λ(_s:Unit) (_g:Unit)=>[oI 0 b,oI 1 c]) (O:=λ_ _=>[]) (j:=λ_=>Aas c b) ?_ ?_
 ·exact B
 ·rintro⟨⟩ ⟨⟩ nn;dsimp only[Aas];refine A 6 ?_;refine sC (E:=λ(s:Int) (_g:Unit)=>[oI 6 s]) (O:=λ_ _=>[]) (j:=λs=>Yv s) ?_ ?_
  ·exact B
  ·rintro d ⟨⟩ nn;dsimp only[Yv];exact B

theorem Amt:Ns Tryz.prog 227 (fS .ground AbE (λa=>AaF a.1 a.2) NH):=by
 refine fn2 2 (nK 204 AcC<|Np) Tryz.func227<|?_;intro a;unfold AaF;exact B

abbrev Aob:=en2 (eL PZ) PZ
abbrev AxD:=de2 (uL Vl) Vl
theorem Apm:Ns Tryz.prog 252 (fS .ground Aob (λa=>Aev a.1 a.2) NH):=by
 refine fn2 2 (nK 227 Amt<|Np) Tryz.func252<|?_;rintro⟨c,b⟩;unfold Aev;refine A 13 ?_;refine lP (E:=λ(s:Int) (g:Nat)=>[oM 0 c PZ,oP 3 g,oI 5 s]) (O:=λ_ g=>[(3,dV g 2 186 (.agg [Nn b.Off,Nn b.Size]))]) _ hX<|?_
 rintro d e nn;dsimp only[AiR];exact B

theorem AbK:Ns Tryz.prog 120 (fS .ground TO (λa=>PM a.1 a.2) NH):=by
 refine fn2 2 (Np) Tryz.func120<|?_;intro a;unfold PM;exact B

def Amv (b:Bool×Bool×Bool×Bool):D:=.tup [.bool b.1,.bool b.2.1,.bool b.2.2.1,.bool b.2.2.2]
theorem Alw:Ns Tryz.prog 186 (fS .ground Pj (λa=>Od a) Amv):=by
 refine fn2 1 (Np) Tryz.func186<|?_;intro b;unfold Od;refine Ac 21 ?_ ?_
 ·exact B
 ·refine sC (E:=λ(s:Bool) (_g:Unit)=>[oI 6 b,oB 9 s]) (O:=λ_ _=>[]) (j:=λs=>NK b s) ?_ ?_
  ·exact B
  ·rintro c ⟨⟩ nn;dsimp only[NK];refine cD r ?_ ?_
   ·exact B
   ·refine sC (E:=λ(s:Bool) (_g:Unit)=>[oI 6 b,oB 18 s]) (O:=λ_ _=>[]) (j:=λs=>NI b s) ?_ ?_
    ·exact B
    ·rintro d ⟨⟩ nn;dsimp only[NI];refine cD r ?_ ?_
     ·exact B
     ·refine sC (E:=λ(s:Bool) (_g:Unit)=>[oI 6 b,oB 29 s]) (O:=λ_ _=>[]) (j:=λs=>NR b s) ?_ ?_
      ·exact B
      ·rintro e ⟨⟩ nn;dsimp only[NR];exact B

theorem Aly:Ns Tryz.prog 247 (fS .ground Pj (λa=>PO a) NH):=by
 refine fn2 1 (Np) Tryz.func247<|?_;intro a;unfold PO;exact B

theorem Ajy:Ns Tryz.prog 123 (fS .ground Pj (λa=>Sr a) NH):=by
 refine fn2 1 (Np) Tryz.func123<|?_;intro a;unfold Sr;exact B

end Go.Proofs.YtcaoepecbgggcaaGreatDoor
