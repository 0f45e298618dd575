/-
 The code does what its typed programs say.
-/
import Derived.Test.YtcaoepecbgggcaaGreatDoorProg
import Derived.Test.YtcaoepecbgggcaaGreatDoorDc
import Derived.KernelRfl
import Derived.Test.YtcaoepecbgggcaaGreatDoorSh
import Derived.Test.YtcaoepecbgggcaaGreatDoorDxP
open BitVec renaming ofInt->aA
open Nat renaming min->aAA
namespace Go.Proofs.YtcaoepecbgggcaaGreatDoor
open Go Go.Dw Go.Proofs
open Go.IntKind (i64 u64)
set_option maxRecDepth 100000
set_option maxHeartbeats 40000000
open Go.Dw renaming Ql -> bD,Qo -> cK,Ym -> cG,UZ -> cD,Xt -> xC,Ui -> xL,Xu -> lP,Tt -> sC,Wh -> bC,Aqe -> mF,rf -> r
noncomputable section
def SQ (a:Int×Int):List D:=[Av a.1,Av a.2]
def SP (ds:List D):Int×Int:=(uI (ds.getD 0 .top),uI (ds.getD 1 .top))
instance:Oc SQ SP:=⟨λa=>by simp[SP,SQ,uI]⟩
def NW (b:Bool):D:=.bool b
def Alc:Dw.Spec:=NI [] .ground SQ SP (λa=>Aaz a.1 a.2) NW noE
theorem Aoz:ND Tryz.prog 228 Alc:=by
 refine fn2 2 (NZ) Tryz.func228<|?_;intro a;unfold Aaz;exact B

def Pq (a:Int):List D:=[Av a]
def Pp (ds:List D):Int:=uI (ds.getD 0 .top)
instance:Oc Pq Pp:=⟨λa=>by simp[Pp,Pq,uI]⟩
def Ali:Dw.Spec:=NI [] .ground Pq Pp (λa=>Yp a) NW noE
theorem AoC:ND Tryz.prog 209 Ali:=by
 refine fn2 1 (NZ) Tryz.func209<|?_;intro a;unfold Yp;exact B

def Zl:Dw.Spec:=NI [] .ground Pq Pp (λa=>PV a) NW noE
theorem Abq:ND Tryz.prog 150 Zl:=by
 refine fn2 1 (NZ) Tryz.func150<|?_;intro a;unfold PV;exact B

def AbV (a:NQ):List D:=[Ox a]
def AbU (ds:List D):NQ:=Yo (ds.getD 0 .top)
instance:Oc AbV AbU:=⟨λa=>by simp[AbU,AbV]⟩
def AkB:Dw.Spec:=NI [] .ground AbV AbU (λa=>Wd a) NW noE
theorem Aqz:ND Tryz.prog 208 AkB:=by
 refine fn2 1 (NJ (l:=[(209,Ali),(150,Zl)]) (by simp[AoC,Abq])) Tryz.func208<|?_
 intro a;unfold Wd;exact B

def Pn (a:(List NQ)):List D:=[.sl (a.map Ox),.clo 208 []]
def Pm (ds:List D):(List NQ):=(uL Yo) (ds.getD 0 .top)
instance:Oc Pn Pm:=⟨λa=>by simp[Pm,Pn,Oy (u:=Yo) (en:=Ox) Akj]⟩
def NC (b:Int):D:=Av b
def Qt:Dw.Spec:=NI [] .ground Pn Pm (λa=>Pz a) NC noE
theorem Yl:ND Tryz.prog 253 Qt:=by
 refine fn2 2 (NJ (l:=[(208,AkB)]) (by simp[Aqz])) Tryz.func253<|?_
 intro a;unfold Pz;refine A 14 ?_;refine lP (E:=λ(s:Int) (_g:Unit)=>[(0,.sl (a.map Ox)),(1,.clo 208 []),(7,Av (a.length:Int)),(8,Av s)]) (O:=λ_ _=>[]) (body:=λs=>OT a s) (s:=0) () hX<|?_
 rintro b ⟨⟩ nn
 try dsimp only
 unfold OT;refine Ac 6 ?_ ?_
 ·refine Ab 15 λc d=>?_
  refine Ab 2 λe f=>?_
  refine Ac 3 ?_ ?_
  ·exact B
  ·refine A 7 ?_;exact xL (s:=i64.wrap (b+1)) () hX
 ·exact B

def Qc:Dw.Spec:=NI [] .ground Pn Pm (λa=>Po a) NW noE
theorem WJ:ND Tryz.prog 207 Qc:=by
 refine fn2 2 (NJ (l:=[(856317,Qt)]) (by simp[Yl])) Tryz.func207<|?_
 intro a;unfold Po;refine A 9 ?_;refine bD λc b=>cG a rfl rfl (show _=some Qt from by kernel_rfl) Oc.ok rfl rfl (by simp) r b r<|?_
 exact B

def SA (a:(List NQ)):List D:=[.sl (a.map Ox)]
def Sz (ds:List D):(List NQ):=(uL Yo) (ds.getD 0 .top)
instance:Oc SA Sz:=⟨λa=>by simp[Sz,SA,Oy (u:=Yo) (en:=Ox) Akj]⟩
def Ahz:Dw.Spec:=NI [] .ground SA Sz (λa=>Wv a) NC noE
theorem AlG:ND Tryz.prog 148 Ahz:=by
 refine fn2 1 (NJ (l:=[(856271,Qc)]) (by simp[WJ])) Tryz.func148<|?_
 intro a;unfold Wv;refine Ac 13 ?_ ?_
 ·exact B
 ·refine A 6 ?_;refine bD λc b=>cG a rfl rfl (show _=some Qc from by kernel_rfl) Oc.ok rfl rfl (by simp) r b r<|?_
  exact B

def Ait (a:NG×Mk):List D:=[Ps a.1,NM a.2]
def Ais (ds:List D):NG×Mk:=(Rn (ds.getD 0 .top),Qz (ds.getD 1 .top))
instance:Oc Ait Ais:=⟨λa=>by simp[Ais,Ait]⟩
def AuZ (b:Tu):D:=Aqa b
def ApU:Dw.Spec:=NI [] .ground Ait Ais (λa=>Aka a.1 a.2) AuZ noE
theorem AtK:ND Tryz.prog 266 ApU:=by
 refine fn2 2 (NZ) Tryz.func266<|?_;intro a;unfold Aka;exact B

def AjJ (a:NG×Mk×Lo):List D:=[Ps a.1,NM a.2.1,NX a.2.2]
def AjI (ds:List D):NG×Mk×Lo:=(Rn (ds.getD 0 .top),Qz (ds.getD 1 .top),QO (ds.getD 2 .top))
instance:Oc AjJ AjI:=⟨λa=>by simp[AjI,AjJ]⟩
def AqV:Dw.Spec:=NI [] .ground AjJ AjI (λa=>AlW a.1 a.2.1 a.2.2) NC noE
theorem AuY:ND Tryz.prog 229 AqV:=by
 refine fn2 3 (NJ (l:=[(228,Alc),(266,ApU)]) (by simp[Aoz,AtK])) Tryz.func229<|?_
 rintro⟨h,f,e⟩;unfold AlW;refine Ab 13 λr4 ag=>?_
 refine Ac 4 ?_ ?_
 ·exact B
 ·refine A 6 ?_;refine cK λhq=>Aze (kk:=228) (ZR.map λq=>SY.mk q.1 q.2.1 q.2.2.1 q.2.2.2) (λq=>cells (Aeb q)) r r r hq r<|bD λd p=>Avf (q:=d) (l:=(ZR.map λq=>SY.mk q.1 q.2.1 q.2.2.1 q.2.2.2)) (c:=λq=>cells (Aeb q)) (j:=e.Op.toNat) 0 100 (λ_=>r) r r r r r r p r<|?_
  refine A 34 ?_;refine lP (E:=λ(s:Int) (g:Nat×Nat×Nat×Nat×Nat×Nat)=>[(3,.optr 3 g.1 0 0),(4,.optr 4 g.2.1 0 0),(5,.optr 5 g.2.2.1 0 0),(7,.optr 7 g.2.2.2.1 0 0),(8,.optr 8 g.2.2.2.2.1 0 0),(9,.optr 9 g.2.2.2.2.2 0 0),(38,.agg [Av d.a,Av d.b,Av d.c]),(39,Av s)]) (O:=λ_ g=>[(3,dV g.1 1 28 (.agg [.sl (h.Funcs.map NM)])),(4,dV g.2.1 3 36 (NM f)),(5,dV g.2.2.1 5 90 (NX e)),(7,dV g.2.2.2.1 4 259 (Aeb d)),(8,dV g.2.2.2.2.1 3 261 (.agg [Av d.a,Av d.b,Av d.c])),(9,dV g.2.2.2.2.2 3 262 (.agg [Av e.A,Av e.B,Av e.C]))]) (body:=λs=>Ahg d e h f s) (s:=0) (_,_,_,_,_,_) hX<|?_
  rintro i ⟨ah,ai,aj,ak,ao,ap⟩ nn
  try dsimp only
  unfold Ahg;refine Ac 6 ?_ ?_
  ·refine A 7 ?_;refine cK λhq=>bD λt u=>Asj (q:=t) (l:=(Rs.mk d.a d.b d.c).toList) (en:=NA) r r r hq (by exact Nat.le_refl _) u<|?_
   refine A 9 ?_;refine NS r ?_ ?_
   ·refine A 1 ?_;refine cK λhq=>Qx r r r hq<|bD λv x=>Qs (q:=v) (l:=(Rs.mk e.A e.B e.C).toList) (en:=NA) (j:=i.toNat) (by simp) r r r x r (λ_=>r)<|?_
    refine Ac 4 ?_ ?_
    ·exact B
    ·refine A 7 ?_;exact xL (s:=i64.wrap (i+1)) (_,_,_,_,_,_) hX
   ·refine A 15 ?_;exact xL (s:=i64.wrap (i+1)) (_,_,_,_,_,_) hX
  ·refine A 5 ?_;refine sC (E:=λ(_s:Unit) (g:Nat×Nat×Nat×Nat×Nat)=>[(3,.optr 3 g.1 0 0),(4,.optr 4 g.2.1 0 0),(5,.optr 5 g.2.2.1 0 0),(8,.optr 8 g.2.2.2.1 0 0),(9,.optr 9 g.2.2.2.2 0 0)]) (O:=λ_ g=>[(3,dV g.1 1 28 (.agg [.sl (h.Funcs.map NM)])),(4,dV g.2.1 3 36 (NM f)),(5,dV g.2.2.1 5 90 (NX e)),(8,dV g.2.2.2.1 3 261 (.agg [Av d.a,Av d.b,Av d.c])),(9,dV g.2.2.2.2 3 262 (.agg [Av e.A,Av e.B,Av e.C]))]) (j:=λ_=>Acv h f d e) ?_ ?_
   ·refine A 6 ?_;refine NS r ?_ ?_
    ·refine Ac 6 ?_ ?_
     ·exact B
     ·refine A 1 ?_;exact xC (s:=()) (_,_,_,_,_) hX
    ·refine A 8 ?_;exact xC (s:=()) (_,_,_,_,_) hX
   ·rintro⟨⟩ ⟨aq,ar,au,av,aw⟩ nn
    try dsimp only
    unfold Acv;refine Ab 4 λk ax=>?_
    refine A 18 ?_;refine lP (E:=λ(s:Int×Int) (g:Nat×Nat×Nat×Nat)=>[(4,.optr 4 g.1 0 0),(5,.optr 5 g.2.1 0 0),(9,.optr 9 g.2.2.1 0 0),(12,.optr 12 g.2.2.2 0 0),(13,Av s.1),(63,.agg [Av d.a,Av d.b,Av d.c]),(64,Av s.2)]) (O:=λ_ g=>[(4,dV g.1 3 36 (NM f)),(5,dV g.2.1 5 90 (NX e)),(9,dV g.2.2.1 3 262 (.agg [Av e.A,Av e.B,Av e.C])),(12,dV g.2.2.2 7 263 (Aqa k))]) (body:=λs=>Ahh d e k f s.1 s.2) (s:=(0,0)) (_,_,_,_) hX<|?_
    rintro⟨z,m⟩ ⟨ay,az,ba,bb⟩ nn
    try dsimp only
    unfold Ahh;refine Ac 6 ?_ ?_
    ·refine A 7 ?_;refine cK λhq=>bD λo aa=>Asj (q:=o) (l:=(Rs.mk d.a d.b d.c).toList) (en:=NA) r r r hq (by exact Nat.le_refl _) aa<|?_
     refine A 8 ?_;refine cK λhq=>Qx r r r hq<|bD λab ac=>Qs (q:=ab) (l:=(Rs.mk e.A e.B e.C).toList) (en:=NA) (j:=m.toNat) (by simp) r r r ac r (λ_=>r)<|?_
     refine A 1 ?_;refine cK λhq=>Qx r r r hq<|bD λad ae=>Qs (q:=ad) (l:=k.toList) (en:=NA) (j:=o.toNat) (by simp) r r r ae r (λ_=>r)<|bD λbc bd=>?_
     refine Ac 4 ?_ ?_
     ·refine A 8 ?_;exact xL (s:=(z,i64.wrap (m+1))) (_,_,_,_) hX
     ·refine Ac 7 ?_ ?_
      ·exact B
      ·refine A 10 ?_;exact xL (s:=(6,i64.wrap (m+1))) (_,_,_,_) hX
    ·exact B

def Aay:Dw.Spec:=NI [] .ground Pq Pp (λa=>SO a) NW noE
theorem AdS:ND Tryz.prog 230 Aay:=by
 refine fn2 1 (NZ) Tryz.func230<|?_;intro a;unfold SO;exact B

def TA (a:NG×Int):List D:=[Ps a.1,Av a.2]
def Tz (ds:List D):NG×Int:=(Rn (ds.getD 0 .top),uI (ds.getD 1 .top))
instance:Oc TA Tz:=⟨λa=>by simp[Tz,TA,uI]⟩
def AlV:Dw.Spec:=NI [] .ground TA Tz (λa=>AeY a.1 a.2) NC noE
theorem Arz:ND Tryz.prog 169 AlV:=by
 refine fn2 2 (NJ (l:=[(228,Alc),(148,Ahz),(229,AqV),(230,Aay)]) (by simp[Aoz,AlG,AuY,AdS])) Tryz.func169<|?_
 rintro⟨b,d⟩;unfold AeY;refine Ab 13 λe f=>?_
 refine Ac 4 ?_ ?_
 ·exact B
 ·refine Ab 7 λa h=>?_
  refine Ac 15 ?_ ?_
  ·exact B
  ·refine Ab 7 λi j=>?_
   refine Ac 10 ?_ ?_
   ·exact B
   ·refine Ab 7 λk m=>?_
    refine Ac 4 ?_ ?_
    ·exact B
    ·refine A 12 ?_;refine lP (E:=λ(s:Int) (g:Nat×Nat)=>[(2,.optr 2 g.1 0 0),(5,.optr 5 g.2 0 0),(37,.sl (a.Code.map NX)),(38,Av (a.Code.length:Int)),(39,Av s)]) (O:=λ_ g=>[(2,dV g.1 1 28 (.agg [.sl (b.Funcs.map NM)])),(5,dV g.2 3 36 (NM a))]) (body:=λs=>Aax a b s) (s:=0) (_,_) hX<|?_
     rintro c ⟨o,p⟩ nn
     try dsimp only
     unfold Aax;refine Ac 6 ?_ ?_
     ·refine Ab 6 λq r=>?_
      refine Ab 11 λt u=>?_
      refine Ac 10 ?_ ?_
      ·exact B
      ·refine A 7 ?_;exact xL (s:=i64.wrap (c+1)) (_,_) hX
     ·exact B

def Xr (a:NG):List D:=[Ps a]
def Xq (ds:List D):NG:=Rn (ds.getD 0 .top)
instance:Oc Xr Xq:=⟨λa=>by simp[Xq,Xr]⟩
def Amp:Dw.Spec:=NI [] .ground Xr Xq (λa=>Ajf a) NC noE
theorem AuX:ND Tryz.prog 108 Amp:=by
 refine fn2 1 (NJ (l:=[(169,AlV)]) (by simp[Arz])) Tryz.func108<|?_
 intro a;unfold Ajf;refine Ac 23 ?_ ?_
 ·exact B
 ·refine Ac 7 ?_ ?_
  ·exact B
  ·refine Ab 4 λc d=>?_
   refine Ac 7 ?_ ?_
   ·exact B
   ·refine A 13 ?_;refine lP (E:=λ(s:Int) (g:Nat)=>[(1,.optr 1 g 0 0),(24,Av (a.Funcs.length:Int)),(25,Av s)]) (O:=λ_ g=>[(1,dV g 1 28 (.agg [.sl (a.Funcs.map NM)]))]) (body:=λs=>Ahf a s) (s:=0) _ hX<|?_
    rintro b e nn
    try dsimp only
    unfold Ahf;refine Ac 6 ?_ ?_
    ·refine Ab 14 λf h=>?_
     refine Ac 10 ?_ ?_
     ·exact B
     ·refine A 7 ?_;exact xL (s:=i64.wrap (b+1)) _ hX
    ·exact B

def TO:Dw.Spec:=NI [] .ground Pq Pp (λa=>PI a) NW noE
theorem Vz:ND Tryz.prog 254 TO:=by
 refine fn2 1 (NZ) Tryz.func254<|?_;intro a;unfold PI;exact B

def Yw (a:NB×Int×Bool):List D:=[Ob a.1,Av a.2.1,.bool a.2.2]
def Yv (ds:List D):NB×Int×Bool:=(PE (ds.getD 0 .top),uI (ds.getD 1 .top),uBo (ds.getD 2 .top))
instance:Oc Yw Yv:=⟨λa=>by simp[Yv,Yw,uI,uBo]⟩
def Anz (_b:NB):D:=.tup []
def Anx (b:NB):List D:=[Ob b]
def Vy:Dw.Spec:=NI [(0,(8,255))] .val Yw Yv (λa=>RB a.1 a.2.1 a.2.2) Anz Anx
theorem Zg:ND Tryz.prog 231 Vy:=by
 refine fn2 3 (NJ (l:=[(254,TO)]) (by simp[Vz])) Tryz.func231<|?_
 rintro⟨b,a,m⟩;unfold RB;refine Ab 13 λo p=>?_
 refine Ac 5 ?_ ?_
 ·exact B
 ·refine Ac 6 ?_ ?_
  ·refine A 5 ?_;refine cK λhq=>Qx r r r hq<|bD λc e=>Qs (q:=c) (l:=b.toList) (en:=AbT) (j:=(i64.wrap (a.tdiv 64)).toNat) (by simp) r r r e r (λ_=>r)<|?_
   refine A 3 ?_;refine cK λhq=>Qx r r r hq<|bD λf g=>AlX (q:=f) (q':=u64.wrap ((aA u64.bits c ||| aA u64.bits (u64.wrap (1*2 ^ (aAA ((u64.wrap (a)).tmod 64).toNat u64.bits)))).toNat)) (l:=b.toList) (en:=AbT) (j:=(i64.wrap (a.tdiv 64)).toNat) (z':=Ob (b.set ((i64.wrap (a.tdiv 64)).toNat) (u64.wrap ((aA u64.bits c ||| aA u64.bits (u64.wrap (1*2 ^ (aAA ((u64.wrap (a)).tmod 64).toNat u64.bits)))).toNat)))) (by simp) r r r r r g r r (congrArg (λl=>D.agg (l.map AbT)) (RN b ((i64.wrap (a.tdiv 64)).toNat) (u64.wrap ((aA u64.bits c ||| aA u64.bits (u64.wrap (1*2 ^ (aAA ((u64.wrap (a)).tmod 64).toNat u64.bits)))).toNat))).symm) r r<|?_
   exact B
  ·refine A 5 ?_;refine cK λhq=>Qx r r r hq<|bD λd h=>Qs (q:=d) (l:=b.toList) (en:=AbT) (j:=(i64.wrap (a.tdiv 64)).toNat) (by simp) r r r h r (λ_=>r)<|?_
   refine A 3 ?_;refine cK λhq=>Qx r r r hq<|bD λi k=>AlX (q:=i) (q':=u64.wrap ((aA u64.bits d &&& ~~~ aA u64.bits (u64.wrap (1*2 ^ (aAA ((u64.wrap (a)).tmod 64).toNat u64.bits)))).toNat)) (l:=b.toList) (en:=AbT) (j:=(i64.wrap (a.tdiv 64)).toNat) (z':=Ob (b.set ((i64.wrap (a.tdiv 64)).toNat) (u64.wrap ((aA u64.bits d &&& ~~~ aA u64.bits (u64.wrap (1*2 ^ (aAA ((u64.wrap (a)).tmod 64).toNat u64.bits)))).toNat)))) (by simp) r r r r r k r r (congrArg (λl=>D.agg (l.map AbT)) (RN b ((i64.wrap (a.tdiv 64)).toNat) (u64.wrap ((aA u64.bits d &&& ~~~ aA u64.bits (u64.wrap (1*2 ^ (aAA ((u64.wrap (a)).tmod 64).toNat u64.bits)))).toNat))).symm) r r<|?_
   exact B

def Tw (a:(List Int)):List D:=[.sl (a.map NA)]
def Tv (ds:List D):(List Int):=(uL uI) (ds.getD 0 .top)
instance:Oc Tw Tv:=⟨λa=>by simp[Tv,Tw,Oy (u:=uI) (en:=NA) (λ_=>rfl)]⟩
def ArG (b:NB):D:=Ob b
def Sb:Dw.Spec:=NI [] (.ptr 8 255) Tw Tv (λa=>Qm a) ArG noE
theorem Sw:ND Tryz.prog 219 Sb:=by
 refine fn2 1 (NJ (l:=[(231,Vy)]) (by simp[Zg])) Tryz.func219<|?_
 intro a;unfold Qm;refine A 21 ?_;refine lP (E:=λ(s:NB×Int) (g:Nat)=>[(3,.optr 7 g 0 0),(8,.sl (a.map NA)),(9,Av (a.length:Int)),(10,Av s.2)]) (O:=λs g=>[(7,dV g 8 255 (Ob s.1))]) (body:=λs=>ZU a s.1 s.2) (s:=((NB.mk 0 0 0 0 0 0 0 0),0)) _ hX<|?_
 rintro⟨d,b⟩ e nn
 try dsimp only
 unfold ZU;refine Ac 6 ?_ ?_
 ·refine Ab 6 λf h=>?_
  refine Ab 8 λc i=>?_
  refine A 8 ?_;exact xL (s:=(c,i64.wrap (b+1))) _ hX
 ·exact B

def Yu (a:NB×Int):List D:=[Ob a.1,Av a.2]
def Yt (ds:List D):NB×Int:=(PE (ds.getD 0 .top),uI (ds.getD 1 .top))
instance:Oc Yu Yt:=⟨λa=>by simp[Yt,Yu,uI]⟩
def Anw (b:Bool×NB):D:=.bool b.1
def Anv (b:Bool×NB):List D:=[Ob b.2]
def AfU:Dw.Spec:=NI [(0,(8,255))] .val Yu Yt (λa=>Xy a.1 a.2) Anw Anv
theorem Amy:ND Tryz.prog 232 AfU:=by
 refine fn2 2 (NJ (l:=[(254,TO)]) (by simp[Vz])) Tryz.func232<|?_
 rintro⟨a,b⟩;unfold Xy;refine Ab 8 λe f=>?_
 refine A 2 ?_;refine NS r ?_ ?_
 ·refine A 4 ?_;refine cK λhq=>Qx r r r hq<|bD λc d=>Qs (q:=c) (l:=a.toList) (en:=AbT) (j:=(i64.wrap (b.tdiv 64)).toNat) (by simp) r r r d r (λ_=>r)<|?_
  exact B
 ·exact B

def QC (a:(List Int)×Int):List D:=[.sl (a.1.map NA),Av a.2]
def QB (ds:List D):(List Int)×Int:=((uL uI) (ds.getD 0 .top),uI (ds.getD 1 .top))
instance:Oc QC QB:=⟨λa=>by simp[QB,QC,uI,Oy (u:=uI) (en:=NA) (λ_=>rfl)]⟩
def AoQ:Dw.Spec:=NI [] .ground QC QB (λa=>AjU a.1 a.2) NW noE
theorem Atq:ND Tryz.prog 172 AoQ:=by
 refine fn2 2 (NJ (l:=[(219,Sb),(232,AfU)]) (by simp[Sw,Amy])) Tryz.func172<|?_
 intro a;unfold AjU;exact B

def Vx (a:NB×Int):List D:=[.fptr (Ob a.1) 0,Av a.2]
def Vw (ds:List D):NB×Int:=(PE (fpD (ds.getD 0 .top)),uI (ds.getD 1 .top))
instance:Oc Vx Vw:=⟨λa=>by simp[Vw,Vx,uI,fpD]⟩
def Adn:Dw.Spec:=NI [] .ground Vx Vw (λa=>UJ a.1 a.2) NW noE
theorem Akr:ND Tryz.prog 232 Adn:=by
 refine fn2 2 (NJ (l:=[(254,TO)]) (by simp[Vz])) Tryz.func232<|?_
 rintro⟨a,b⟩;unfold UJ;refine Ab 8 λe f=>?_
 refine A 2 ?_;refine NS r ?_ ?_
 ·refine A 4 ?_;refine cK λhq=>AxZ r r r hq<|bD λc d=>Ave (q:=c) (l:=a.toList) (en:=AbT) (j:=(i64.wrap (b.tdiv 64)).toNat) (by simp) r r d (λ_=>r)<|?_
  exact B
 ·exact B

def Ys (a:Int×NB):List D:=[Av a.1,.fptr (.fptr (Ob a.2) 0) 0]
def Yr (ds:List D):Int×NB:=(uI (ds.getD 0 .top),PE (fpD (fpD (ds.getD 1 .top))))
instance:Oc Ys Yr:=⟨λa=>by simp[Yr,Ys,uI,fpD]⟩
def AfT:Dw.Spec:=NI [] .ground Ys Yr (λa=>Xx a.1 a.2) NW noE
theorem Amx:ND Tryz.prog 234 AfT:=by
 refine fn2 2 (NJ (l:=[(232,Adn)]) (by simp[Akr])) Tryz.func234<|?_
 intro a;unfold Xx;exact B

def PU (a:(List Int)×NB):List D:=[.sl (a.1.map NA),.clo 234 [.fptr (.fptr (Ob a.2) 0) 0]]
def PT (ds:List D):(List Int)×NB:=((uL uI) (ds.getD 0 .top),PE (fpD (fpD (Ajl (ds.getD 1 .top) 0))))
instance:Oc PU PT:=⟨λa=>by simp[PT,PU,fpD,Ajl,Oy (u:=uI) (en:=NA) (λ_=>rfl)]⟩
def Rr:Dw.Spec:=NI [] .ground PU PT (λa=>Qw a.1 a.2) NC noE
theorem Abi:ND Tryz.prog 267 Rr:=by
 refine fn2 2 (NJ (l:=[(234,AfT)]) (by simp[Amx])) Tryz.func267<|?_
 rintro⟨a,b⟩;unfold Qw;refine A 14 ?_;refine lP (E:=λ(s:Int) (_g:Unit)=>[(0,.sl (a.map NA)),(1,.clo 234 [.fptr (.fptr (Ob b) 0) 0]),(7,Av (a.length:Int)),(8,Av s)]) (O:=λ_ _=>[]) (body:=λs=>Qa a b s) (s:=0) () hX<|?_
 rintro c ⟨⟩ nn
 try dsimp only
 unfold Qa;refine Ac 6 ?_ ?_
 ·refine Ab 15 λd e=>?_
  refine Ab 2 λf g=>?_
  refine Ac 3 ?_ ?_
  ·exact B
  ·refine A 7 ?_;exact xL (s:=i64.wrap (c+1)) () hX
 ·exact B

def QK:Dw.Spec:=NI [] .ground PU PT (λa=>PZ a.1 a.2) NW noE
theorem ZK:ND Tryz.prog 233 QK:=by
 refine fn2 2 (NJ (l:=[(962827,Rr)]) (by simp[Abi])) Tryz.func233<|?_
 rintro⟨a,b⟩;unfold PZ;refine A 9 ?_;refine bD λd c=>cG (a,b) rfl rfl (show _=some Rr from by kernel_rfl) Oc.ok rfl rfl (by simp) r c r<|?_
 exact B

def Re (a:(List Int)×(List Int)):List D:=[.sl (a.1.map NA),.sl (a.2.map NA)]
def Rc (ds:List D):(List Int)×(List Int):=((uL uI) (ds.getD 0 .top),(uL uI) (ds.getD 1 .top))
instance:Oc Re Rc:=⟨λa=>by simp[Rc,Re,Oy (u:=uI) (en:=NA) (λ_=>rfl)]⟩
def AlD:Dw.Spec:=NI [] .ground Re Rc (λa=>AeD a.1 a.2) NW noE
theorem Arb:ND Tryz.prog 173 AlD:=by
 refine fn2 2 (NJ (l:=[(219,Sb),(962793,QK)]) (by simp[Sw,ZK])) Tryz.func173<|?_
 rintro⟨b,d⟩;unfold AeD;refine Ab 8 λa e=>?_
 refine A 4 ?_;refine Qf (E:=[(0,.sl (b.map NA)),(5,.fptr (.fptr (Ob a) 0) 0)]) (O:=[]) ((hV 7 r (hV 5 r (hY)))) λnn=>?_
 refine A 3 ?_;refine mF (caps:=[.fptr (.fptr (Ob a) 0) 0]) r r (by simp[SN])<|bD λf c=>cG (b,a) rfl rfl (show _=some QK from by kernel_rfl) Oc.ok rfl rfl (by simp) r c r<|?_
 exact B

def WU (a:NB):List D:=[Ob a]
def WT (ds:List D):NB:=PE (ds.getD 0 .top)
instance:Oc WU WT:=⟨λa=>by simp[WT,WU]⟩
def AmA (b:(List Int)×NB):D:=.sl (b.1.map NA)
def Amz (b:(List Int)×NB):List D:=[Ob b.2]
def Rt:Dw.Spec:=NI [(0,(8,255))] (.row 1 3) WU WT (λa=>PX a) AmA Amz
theorem Sj:ND Tryz.prog 220 Rt:=by
 refine fn2 1 (NJ (l:=[(262,Avg)]) (by simp[AAi])) Tryz.func220<|?_
 intro b;unfold PX;refine A 18 ?_;refine lP (E:=λ(s:(List Int)×Int) (g:Nat)=>[(3,.osl 3 g 0 s.1.length),(6,.optr 8192 0 0 0),(7,Av s.2)]) (O:=λs g=>[(3,dW g 1 3 (s.1.map NA)),(8192,dV 0 8 255 (Ob b))]) (body:=λs=>Un b s.1 s.2) (s:=(([]:List Int),0)) _ hX<|?_
 rintro⟨f,a⟩ k nn
 try dsimp only
 unfold Un;refine Ac 6 ?_ ?_
 ·refine A 8 ?_;refine cK λhq=>Qx r r r hq<|bD λc h=>Qs (q:=c) (l:=b.toList) (en:=AbT) (j:=a.toNat) (by simp) r r r h r (λ_=>r)<|?_
  refine A 5 ?_;refine lP (E:=λ(s:(List Int)×Int) (g:Nat)=>[(3,.osl 3 g 0 s.1.length),(4,Av a),(5,AoU s.2),(6,.optr 8192 0 0 0),(7,Av a)]) (O:=λs g=>[(3,dW g 1 3 (s.1.map NA)),(8192,dV 0 8 255 (Ob b))]) (body:=λs=>Uo a s.1 s.2) (s:=(f,c)) _ hX<|?_
  rintro⟨d,e⟩ m nn
  try dsimp only
  unfold Uo;refine Ac 7 ?_ ?_
  ·refine Ab 9 λi o=>?_
   refine A 15 ?_;exact xL (s:=(d++([i64.wrap ((i64.wrap (64*a))+i)]:List Int),u64.wrap ((aA u64.bits e &&& aA u64.bits (u64.wrap (e-1))).toNat))) _ hX
  ·refine A 10 ?_;exact xL (s:=(d,i64.wrap (a+1))) _ hX
 ·exact B

def OC (b:(List Int)):D:=.sl (b.map NA)
def Akn:Dw.Spec:=NI [] (.row 1 3) QC QB (λa=>AcB a.1 a.2) OC noE
theorem Aoa:ND Tryz.prog 171 Akn:=by
 refine fn2 2 (NJ (l:=[(219,Sb),(231,Vy),(220,Rt)]) (by simp[Sw,Zg,Sj])) Tryz.func171<|?_
 intro a;unfold AcB;exact B

def Abk (a:(List (List Int))):List D:=[.sl (a.map (eL NA))]
def Abj (ds:List D):(List (List Int)):=(uL (uL uI)) (ds.getD 0 .top)
instance:Oc Abk Abj:=⟨λa=>by simp[Abj,Abk,Oy (u:=(uL uI)) (en:=(eL NA)) (Oy (u:=uI) (en:=NA) (λ_=>rfl))]⟩
def Ajm (b:(List Int)×Int):D:=.tup [.sl (b.1.map NA),Av b.2]
def AeE:Dw.Spec:=NI [] .val Abk Abj (λa=>AaP a) Ajm noE
theorem AmE:ND Tryz.prog 110 AeE:=by
 refine fn2 1 (NJ (l:=[(172,AoQ),(173,AlD),(171,Akn)]) (by simp[Atq,Arb,Aoa])) Tryz.func110<|?_
 intro b;unfold AaP;refine A 12 ?_;refine bC (E:=λ(s:(List Int)) (g:Nat)=>[(4,.osl 4 g 0 s.length)]) (O:=λs g=>[(4,dW g 1 3 (s.map NA))]) (j:=λs=>AcF s) ?_ ?_
 ·refine lP (E:=λ(s:(List Int)×(List Int)) (g:Nat×Nat)=>[(0,.sl (b.map (eL NA))),(4,.osl 4 g.1 0 s.1.length),(5,.osl 5 g.2 0 s.2.length)]) (O:=λs g=>[(4,dW g.1 1 3 (s.1.map NA)),(5,dW g.2 1 3 (s.2.map NA))]) (body:=λs=>AcD b s.1 s.2) (s:=(([]:List Int),([]:List Int))) (_,_) hX<|?_
  rintro⟨a,c⟩ ⟨h,i⟩ nn
  try dsimp only
  unfold AcD;refine Ac 10 ?_ ?_
  ·refine A 8 ?_;refine sC (E:=λ(s:Int) (g:Nat×Nat)=>[(0,.sl (b.map (eL NA))),(4,.osl 4 g.1 0 a.length),(5,.osl 5 g.2 0 c.length),(6,Av s)]) (O:=λ_ g=>[(4,dW g.1 1 3 (a.map NA)),(5,dW g.2 1 3 (c.map NA))]) (j:=λs=>Zh a c s) ?_ ?_
   ·refine A 8 ?_;refine lP (E:=λ(s:Int) (g:Nat×Nat)=>[(0,.sl (b.map (eL NA))),(4,.osl 4 g.1 0 a.length),(5,.osl 5 g.2 0 c.length),(6,Av (-1)),(14,.sl (b.map (eL NA))),(15,Av (b.length:Int)),(16,Av s)]) (O:=λ_ g=>[(4,dW g.1 1 3 (a.map NA)),(5,dW g.2 1 3 (c.map NA))]) (body:=λs=>AcE b c a s) (s:=0) (_,_) hX<|?_
    rintro d ⟨k,m⟩ nn
    try dsimp only
    unfold AcE;refine Ac 6 ?_ ?_
    ·refine Ab 7 λo p=>?_
     refine Ab 10 λq t=>?_
     refine A 3 ?_;refine NS r ?_ ?_
     ·refine Ab 2 λu v=>?_
      refine Ac 4 ?_ ?_
      ·refine A 11 ?_;exact xC (s:=d) (_,_) hX
      ·refine A 7 ?_;exact xL (s:=i64.wrap (d+1)) (_,_) hX
     ·refine A 14 ?_;exact xL (s:=i64.wrap (d+1)) (_,_) hX
    ·refine A 4 ?_;exact xC (s:=(-1)) (_,_) hX
   ·rintro e ⟨x,z⟩ nn
    try dsimp only
    unfold Zh;refine Ac 7 ?_ ?_
    ·exact B
    ·refine Ab 9 λf aa=>?_
     refine A 5 ?_;exact xL (s:=(a++([e]:List Int),f)) (_,_) hX
  ·refine A 3 ?_;exact TC (s:=a) _ hX
 ·rintro ab ac nn
  try dsimp only
  unfold AcF;exact B

def AmO:Dw.Spec:=NI [] .ground SA Sz (λa=>Wu a) NC noE
theorem ArN:ND Tryz.prog 87 AmO:=by
 refine fn2 1 (NJ (l:=[(148,Ahz)]) (by simp[AlG])) Tryz.func87<|?_
 intro a;unfold Wu;refine Ab 14 λe f=>?_
 refine Ac 4 ?_ ?_
 ·refine A 8 ?_;refine lP (E:=λ(s:Int×Int) (_g:Unit)=>[(3,Av s.2),(9,.sl (a.map Ox)),(10,Av (a.length:Int)),(11,Av s.1)]) (O:=λ_ _=>[]) (body:=λs=>XV a s.1 s.2) (s:=(0,16)) () hX<|?_
  rintro⟨b,c⟩ ⟨⟩ nn
  try dsimp only
  unfold XV;refine Ac 6 ?_ ?_
  ·refine Ab 6 λd g=>?_
   refine A 19 ?_;exact xL (s:=(i64.wrap (b+1),OX c d.Align)) () hX
  ·exact B
 ·exact B

def AaU:Dw.Spec:=NI [] .ground Xr Xq (λa=>UG a) NC noE
theorem Alb:ND Tryz.prog 38 AaU:=by
 refine fn2 1 (NJ (l:=[(87,AmO)]) (by simp[ArN])) Tryz.func38<|?_
 intro a;unfold UG;refine A 21 ?_;refine lP (E:=λ(s:Int×Int) (_g:Unit)=>[(3,Av s.1),(7,.sl (a.Funcs.map NM)),(8,Av (a.Funcs.length:Int)),(9,Av s.2)]) (O:=λ_ _=>[]) (body:=λs=>Ahe a s.1 s.2) (s:=(16,0)) () hX<|?_
 rintro⟨b,c⟩ ⟨⟩ nn
 try dsimp only
 unfold Ahe;refine Ac 6 ?_ ?_
 ·refine Ab 6 λe f=>?_
  refine Ab 10 λd g=>?_
  refine A 10 ?_;exact xL (s:=(OX b d,i64.wrap (c+1))) () hX
 ·exact B

def Amn:Dw.Spec:=NI [] .ground TA Tz (λa=>ZQ a.1 a.2) NC noE
theorem ApH:ND Tryz.prog 88 Amn:=by
 refine fn2 2 (NZ) Tryz.func88<|?_;rintro⟨d,h⟩;unfold ZQ;refine Ab 17 λa i=>?_
 refine A 8 ?_;refine lP (E:=λ(s:Int×Int) (g:Nat)=>[(2,.optr 2 g 0 0),(5,Av s.2),(13,.sl (a.Code.map NX)),(14,Av (a.Code.length:Int)),(15,Av s.1)]) (O:=λ_ g=>[(2,dV g 1 28 (.agg [.sl (d.Funcs.map NM)]))]) (body:=λs=>Agx a d s.1 s.2) (s:=(0,0)) _ hX<|?_
 rintro⟨b,c⟩ j nn
 try dsimp only
 unfold Agx;refine Ac 6 ?_ ?_
 ·refine Ab 6 λe k=>?_
  refine Ac 19 ?_ ?_
  ·refine A 15 ?_;exact xL (s:=(i64.wrap (b+1),OX c (i64.wrap (e.A+1)))) _ hX
  ·refine Ac 6 ?_ ?_
   ·refine Ab 6 λf l=>?_
    refine A 13 ?_;exact xL (s:=(i64.wrap (b+1),OX c f.Params)) _ hX
   ·refine A 8 ?_;exact xL (s:=(i64.wrap (b+1),c)) _ hX
 ·exact B

def AcH:Dw.Spec:=NI [] .ground Pq Pp (λa=>Th a) NW noE
theorem Ago:ND Tryz.prog 149 AcH:=by
 refine fn2 1 (NZ) Tryz.func149<|?_;intro a;unfold Th;exact B

def AqL:Dw.Spec:=NI [] .ground SQ SP (λa=>AfG a.1 a.2) NC noE
theorem Auv:ND Tryz.prog 152 AqL:=by
 refine fn2 2 (NZ) Tryz.func152<|?_;intro a;unfold AfG;exact B

def Ww (b:Int×Int):D:=.tup [Av b.1,Av b.2]
def Afg:Dw.Spec:=NI [] .ground Pq Pp (λa=>TV a) Ww noE
theorem AjO:ND Tryz.prog 151 Afg:=by
 refine fn2 1 (NZ) Tryz.func151<|?_;intro a;unfold TV;exact B

def Aml:Dw.Spec:=NI [] .ground SQ SP (λa=>AbW a.1 a.2) Ww noE
theorem Apo:ND Tryz.prog 89 Aml:=by
 refine fn2 2 (NJ (l:=[(149,AcH),(150,Zl),(152,AqL),(151,Afg)]) (by simp[Ago,Abq,Auv,AjO])) Tryz.func89<|?_
 rintro⟨a,b⟩;unfold AbW;refine A 6 ?_;refine sC (E:=λ(_s:Unit) (_g:Unit)=>[(0,Av a),(1,Av b)]) (O:=λ_ _=>[]) (j:=λ_=>AbX a b) ?_ ?_
 ·refine Ab 3 λc d=>?_
  refine A 3 ?_;refine NS r ?_ ?_
  ·exact B
  ·refine Ab 1 λe f=>?_
   refine Ac 5 ?_ ?_
   ·exact B
   ·refine A 1 ?_;exact xC (s:=()) () hX
 ·rintro⟨⟩ ⟨⟩ nn
  try dsimp only
  unfold AbX;exact B

def Agm:Dw.Spec:=NI [] .ground SQ SP (λa=>XU a.1 a.2) Ww noE
theorem Ajq:ND Tryz.prog 90 Agm:=by
 refine fn2 2 (NJ (l:=[(149,AcH),(151,Afg)]) (by simp[Ago,AjO])) Tryz.func90<|?_
 rintro⟨a,b⟩;unfold XU;refine A 6 ?_;refine sC (E:=λ(_s:Unit) (_g:Unit)=>[(0,Av a),(1,Av b)]) (O:=λ_ _=>[]) (j:=λ_=>AaC a b) ?_ ?_
 ·refine Ab 3 λc d=>?_
  refine A 3 ?_;refine NS r ?_ ?_
  ·exact B
  ·refine Ab 1 λe f=>?_
   refine Ac 5 ?_ ?_
   ·exact B
   ·refine A 1 ?_;exact xC (s:=()) () hX
 ·rintro⟨⟩ ⟨⟩ nn
  try dsimp only
  unfold AaC;exact B

def AhL (a:NN×Int×Int):List D:=[OB a.1,Av a.2.1,Av a.2.2]
def AhK (ds:List D):NN×Int×Int:=(AaY (ds.getD 0 .top),uI (ds.getD 1 .top),uI (ds.getD 2 .top))
instance:Oc AhL AhK:=⟨λa=>by simp[AhK,AhL,uI]⟩
def PJ (b:NN×Int):D:=.tup [OB b.1,Av b.2]
def ApI:Dw.Spec:=NI [] .val AhL AhK (λa=>Agy a.1 a.2.1 a.2.2) PJ noE
theorem Atx:ND Tryz.prog 91 ApI:=by
 refine fn2 3 (NJ (l:=[(89,Aml),(90,Agm)]) (by simp[Apo,Ajq])) Tryz.func91<|?_
 rintro⟨c,e,f⟩;unfold Agy;refine Ab 11 λa h=>?_
 refine A 8 ?_;refine sC (E:=λ(s:Int) (g:Nat×Nat)=>[(3,.optr 3 g.1 0 0),(6,.optr 6 g.2 0 0),(8,Av a.1),(9,Av s)]) (O:=λ_ g=>[(3,dV g.1 3 39 (OB c)),(6,dV g.2 3 39 (.agg [Av 0,Av 0,.nils]))]) (j:=λs=>Xi c a s) ?_ ?_
 ·refine Ac 6 ?_ ?_
  ·refine Ab 2 λd i=>?_
   refine A 6 ?_;exact xC (s:=d.2) (_,_) hX
  ·refine A 1 ?_;exact xC (s:=a.2) (_,_) hX
 ·rintro k ⟨m,o⟩ nn
  try dsimp only
  unfold Xi;refine Ac 7 ?_ ?_
  ·refine A 9 ?_;refine Pd (b:=((NN.mk 0 0 ([])),9)) r ?_ r r ?_ (by first|rfl|(simp only[NH];rfl)|(simp only[NK];rfl)|(simp only[NH,NK];rfl)|(simp[PJ,OB];try rfl)) (by decide)
   all_goals first|(simp;done)|(simp;omega)|rfl|(simp[OJ,OG];done)|(simp[cells];done)
  ·exact B

def YW (a:NG×Int×Int):List D:=[Ps a.1,Av a.2.1,Av a.2.2]
def YV (ds:List D):NG×Int×Int:=(Rn (ds.getD 0 .top),uI (ds.getD 1 .top),uI (ds.getD 2 .top))
instance:Oc YW YV:=⟨λa=>by simp[YV,YW,uI]⟩
def Yf:Dw.Spec:=NI [] .val YW YV (λa=>RI a.1 a.2.1 a.2.2) PJ noE
theorem Afh:ND Tryz.prog 39 Yf:=by
 refine fn2 3 (NJ (l:=[(88,Amn),(89,Aml),(90,Agm),(91,ApI)]) (by simp[ApH,Apo,Ajq,Atx])) Tryz.func39<|?_
 rintro⟨o,p,f⟩;unfold RI;refine Ab 11 λe q=>?_
 refine Ab 19 λa t=>?_
 refine A 8 ?_;refine lP (E:=λ(s:(List Int)×Int×Int) (g:Nat×Nat×Nat×Nat)=>[(2,Av f),(6,.optr 6 g.1 0 0),(8,.optr 8 g.2.1 0 0),(9,Av s.2.2),(25,.sl (a.Slots.map Ox)),(26,Av (a.Slots.length:Int)),(27,Av s.2.1)]) (O:=λs g=>[(6,dV g.1 3 39 (.agg [Av 0,Av 0,.osl 900 g.2.2.1 0 (([]:List Int).length)])),(8,dV g.2.1 3 39 (.agg [Av e,Av 0,.osl 901 g.2.2.2 0 s.1.length])),(900,dW g.2.2.1 1 3 (([]:List Int).map NA)),(901,dW g.2.2.2 1 3 (s.1.map NA))]) (body:=λs=>Aam a e f s.1 s.2.1 s.2.2) (s:=(([]:List Int),0,e)) (_,_,_,_) ((Aca (gg:=6) (off:=2) (tt:=900) (s:=1) (tyy:=3) r r r r (Aca (gg:=8) (off:=2) (tt:=901) (s:=1) (tyy:=3) r r r r hX)))<|?_
 rintro⟨c,h,m⟩ ⟨u,v,x,z⟩ nn
 try dsimp only
 unfold Aam;refine Ac 6 ?_ ?_
 ·refine Ab 6 λaa ab=>?_
  refine Ab 11 λd ac=>?_
  refine A 8 ?_;refine sC (E:=λ(s:Int×Int) (g:Nat×Nat×Nat×Nat)=>[(2,Av f),(6,.optr 6 g.1 0 0),(8,.optr 8 g.2.1 0 0),(9,Av s.2),(12,Av d.1),(13,Av s.1),(25,.sl (a.Slots.map Ox)),(26,Av (a.Slots.length:Int)),(27,Av h)]) (O:=λ_ g=>[(6,dV g.1 3 39 (.agg [Av 0,Av 0,.osl 900 g.2.2.1 0 (([]:List Int).length)])),(8,dV g.2.1 3 39 (.agg [Av e,Av 0,.osl 901 g.2.2.2 0 c.length])),(900,dW g.2.2.1 1 3 (([]:List Int).map NA)),(901,dW g.2.2.2 1 3 (c.map NA))]) (j:=λs=>WG c d h s.1 s.2) ?_ ?_
  ·refine Ac 6 ?_ ?_
   ·refine Ab 4 λi ad=>?_
    refine A 7 ?_;exact xC (s:=(i.2,i.1)) (_,_,_,_) hX
   ·refine A 1 ?_;exact xC (s:=(d.2,m)) (_,_,_,_) hX
  ·rintro⟨ae,k⟩ ⟨af,ag,ah,ai⟩ nn
   try dsimp only
   unfold WG;refine Ac 7 ?_ ?_
   ·refine A 14 ?_;refine Pd (b:=((NN.mk 0 0 ([])),9)) r ?_ r r ?_ (by first|rfl|(simp only[NH];rfl)|(simp only[NK];rfl)|(simp only[NH,NK];rfl)|(simp[PJ,OB];try rfl)) (by decide)
    all_goals first|(simp;done)|(simp;omega)|rfl|(simp[OJ,OG];done)|(simp[cells];done)
   ·refine A 17 ?_;exact xL (s:=(c++([d.1]:List Int),i64.wrap (h+1),k)) (_,_,_,_) ((Aae (E1:=[(2,Av f),(6,.optr 6 _ 0 0),(8,.optr 8 _ 0 0),(9,Av k),(25,.sl (a.Slots.map Ox)),(26,Av (a.Slots.length:Int)),(27,Av (i64.wrap (h+1)))]) (O1:=[(6,dV _ 3 39 (.agg [Av 0,Av 0,.osl 900 _ 0 (([]:List Int).length)])),(8,dV _ 3 39 (.agg [Av e,Av 0,.osl 54 _ 0 ((c++([d.1]:List Int)).length)])),(54,dW _ 1 3 ((c++([d.1]:List Int)).map NA)),(900,dW _ 1 3 (([]:List Int).map NA))]) hX (λ_=>PC (λg=>bif Nat.beq g 54 then 901 else g) (by kernel_rfl) hX)))
 ·exact B

def Ahv:Dw.Spec:=NI [] .ground Tw Tv (λa=>Zf a) NW noE
theorem AlA:ND Tryz.prog 211 Ahv:=by
 refine fn2 1 (NJ (l:=[(254,TO)]) (by simp[Vz])) Tryz.func211<|?_
 intro a;unfold Zf;refine A 14 ?_;refine lP (E:=λ(s:Int) (_g:Unit)=>[(0,.sl (a.map NA)),(5,.sl (a.map NA)),(6,Av (a.length:Int)),(7,Av s)]) (O:=λ_ _=>[]) (body:=λs=>Ro a s) (s:=0) () hX<|?_
 rintro b ⟨⟩ nn
 try dsimp only
 unfold Ro;refine Ac 6 ?_ ?_
 ·refine Ab 7 λc d=>?_
  refine Ab 9 λe f=>?_
  refine A 3 ?_;refine NS r ?_ ?_
  ·exact B
  ·refine A 3 ?_;refine NS r ?_ ?_
   ·refine Ab 4 λg h=>?_
    refine Ac 7 ?_ ?_
    ·exact B
    ·refine A 7 ?_;exact xL (s:=i64.wrap (b+1)) () hX
   ·refine A 19 ?_;exact xL (s:=i64.wrap (b+1)) () hX
 ·exact B

def Adq:Dw.Spec:=NI [] .ground Abk Abj (λa=>Tb a) NW noE
theorem AiP:ND Tryz.prog 174 Adq:=by
 refine fn2 1 (NJ (l:=[(211,Ahv)]) (by simp[AlA])) Tryz.func174<|?_
 intro a;unfold Tb;refine A 14 ?_;refine lP (E:=λ(s:Int) (_g:Unit)=>[(0,.sl (a.map (eL NA))),(5,.sl (a.map (eL NA))),(6,Av (a.length:Int)),(7,Av s)]) (O:=λ_ _=>[]) (body:=λs=>Xz a s) (s:=0) () hX<|?_
 rintro b ⟨⟩ nn
 try dsimp only
 unfold Xz;refine Ac 6 ?_ ?_
 ·refine Ab 6 λc d=>?_
  refine Ab 8 λe f=>?_
  refine A 3 ?_;refine NS r ?_ ?_
  ·exact B
  ·refine A 4 ?_;refine NS r ?_ ?_
   ·refine Ab 4 λg h=>?_
    refine Ac 9 ?_ ?_
    ·exact B
    ·refine A 7 ?_;exact xL (s:=i64.wrap (b+1)) () hX
   ·refine A 21 ?_;exact xL (s:=i64.wrap (b+1)) () hX
 ·exact B

end
end Go.Proofs.YtcaoepecbgggcaaGreatDoor
