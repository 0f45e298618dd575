/-
 The code does what its typed programs say.
-/
import Derived.Test.YtcaoepecbgggcaaGreatDoorProg
import Derived.Test.YtcaoepecbgggcaaGreatDoorDc
import Derived.KernelRfl
import Derived.Test.YtcaoepecbgggcaaGreatDoorSh
import Derived.Test.YtcaoepecbgggcaaGreatDoorCl
import Derived.Test.YtcaoepecbgggcaaGreatDoorDxP
import Derived.Test.YtcaoepecbgggcaaGreatDoorDxF1
import Derived.Test.YtcaoepecbgggcaaGreatDoorDxF2
import Derived.Test.YtcaoepecbgggcaaGreatDoorDxF4
import Derived.Test.YtcaoepecbgggcaaGreatDoorDxF5
import Derived.Test.YtcaoepecbgggcaaGreatDoorDxF6
import Derived.Test.YtcaoepecbgggcaaGreatDoorDxF9
namespace Go.Proofs.YtcaoepecbgggcaaGreatDoor
open Go Go.Dw Go.Proofs
set_option maxRecDepth 100000
set_option maxHeartbeats 40000000
open Go.Dw renaming OQ -> bD,PQ -> cK,RW -> cG,Akc -> aP,Yt -> sE,Adw -> iO,PX -> cD,RJ -> xC,PH -> xL,Qm -> lP,Qd -> sC,Rf -> bC,rf -> r
noncomputable section
def Asw:Pa:=(Tryz.f157.body.bind (Pp Tryz.prog Tryz.f157.ntmps)).getD .skip
theorem Awc:(Tryz.f157.body.bind (Pp Tryz.prog Tryz.f157.ntmps))=some Asw:=by kernel_rfl
theorem Awd:Tryz.f157.results.toList.mapM (UI Tryz.prog)=some [(.t 6)]:=by kernel_rfl

def UE (a:NM×Int×Lo):List D:=[Rk a.1,Av a.2.1,NQ a.2.2]
def UD (ds:List D):NM×Int×Lo:=(Th (ds.getD 0 .top),uI (ds.getD 1 .top),RX (ds.getD 2 .top))
instance:Od UE UD:=⟨λa=>by simp[UD,UE,uI]⟩
def Wl (b:NM):D:=Rk b
def Agh:Dw.Spec:=NN [] .val UE UD (λa=>Tm a.1 a.2.1 a.2.2) Wl noE
theorem Afd:NL Tryz.prog 43 Agh:=by
 refine fn2 3 (nK 103 Ati<|NG) Tryz.func43<|?_;rintro⟨f,d,c⟩;unfold Tm;refine Ab 11 λa g=>?_
 refine A 12 ?_;refine cK λhq=>iO (l:=a) (en:=NQ) r r r r r hq<|bD λh e=>sE (l:=a) (en:=NQ) (q':=c) r r r r r r r (by simp) e r r r r r<|?_
 refine A 9 ?_;refine Abm (b:=(NM.mk (a.set d.toNat c))) r ?_ r r ?_ (by first|rfl|(simp only;rfl)|(simp only;rfl)|(simp only;rfl)|(simp[Wl,Rk];try rfl))
 all_goals first|(simp;done)|(simp;omega)|rfl|(simp[Pn,Pc];done)|(simp[cells];done)

def XO (a:Ox×NH):List D:=[Qf a.1,Ob a.2]
def XN (ds:List D):Ox×NH:=(Yu (ds.getD 0 .top),SE (ds.getD 1 .top))
instance:Od XO XN:=⟨λa=>by simp[XN,XO]⟩
def AjI:Dw.Spec:=NN [] .ground XO XN (λa=>OV a.1 a.2) NK noE
theorem AiP:NL Tryz.prog 243 AjI:=by
 refine fn2 2 (nK 244 AcI<|nK 269 Ana<|nK 270 Akt<|nK 1114345 WN<|nK 272 Ahl<|nK 209 AiH<|nK 273 Aom<|nK 274 AmZ<|nK 263 AeZ<|NG) Tryz.func243<|?_;rintro⟨a,b⟩;unfold OV;refine A 7 ?_;refine sC (E:=λ(_s:Unit) (g:Nat×Nat)=>[(2,.optr 2 g.1 0 0),(3,.optr 3 g.2 0 0)]) (O:=λ_ g=>[(2,dV g.1 5 200 (Qf a)),(3,dV g.2 5 90 (Ob b))]) (j:=λ_=>OL b a) ?_ ?_
 ·exact B
 ·rintro⟨⟩ ⟨e,f⟩ nn;dsimp only[OL];refine Ab 4 λh i=>?_
  refine Ac 3 ?_ ?_
  ·exact B
  ·refine A 2 ?_;refine sC (E:=λ(_s:Unit) (g:Nat×Nat)=>[(2,.optr 2 g.1 0 0),(3,.optr 3 g.2 0 0)]) (O:=λ_ g=>[(2,dV g.1 5 200 (Qf a)),(3,dV g.2 5 90 (Ob b))]) (j:=λ_=>OH b a) ?_ ?_
   ·refine Ab 3 λc k=>?_
    refine A 1 ?_;refine bD λl d=>cG c rfl rfl (show _=some Sn from by kernel_rfl) Od.ok rfl rfl (by simp) (by first|rfl|(simp only[NP];rfl)|(simp only[NR];rfl)|(simp only[NP,NR];rfl)|simp[Pe]) d r<|?_
    exact B
   ·rintro⟨⟩ ⟨m,o⟩ nn;dsimp only[OH];refine sC (E:=λ(_s:Unit) (g:Nat×Nat)=>[(2,.optr 2 g.1 0 0),(3,.optr 3 g.2 0 0)]) (O:=λ_ g=>[(2,dV g.1 5 200 (Qf a)),(3,dV g.2 5 90 (Ob b))]) (j:=λ_=>OI a b) ?_ ?_
    ·exact B
    ·rintro⟨⟩ ⟨p,q⟩ nn;dsimp only[OI];refine Ab 5 λs t=>?_
     refine Ab 14 λu v=>?_
     refine A 9 ?_;refine sC (E:=λ(_s:Unit) (g:Nat×Nat)=>[(2,.optr 2 g.1 0 0),(3,.optr 3 g.2 0 0)]) (O:=λ_ g=>[(2,dV g.1 5 200 (Qf a)),(3,dV g.2 5 90 (Ob b))]) (j:=λ_=>Oy b a) ?_ ?_
     ·exact B
     ·rintro⟨⟩ ⟨x,z⟩ nn;dsimp only[Oy];exact B

def Aea:Pa:=(Tryz.f51.body.bind (Pp Tryz.prog Tryz.f51.ntmps)).getD .skip
theorem Aje:(Tryz.f51.body.bind (Pp Tryz.prog Tryz.f51.ntmps))=some Aea:=by kernel_rfl
theorem Ajf:Tryz.f51.results.toList.mapM (UI Tryz.prog)=some []:=by kernel_rfl

def AuM:Pa:=(Tryz.f52.body.bind (Pp Tryz.prog Tryz.f52.ntmps)).getD .skip
theorem AwQ:(Tryz.f52.body.bind (Pp Tryz.prog Tryz.f52.ntmps))=some AuM:=by kernel_rfl
theorem AwR:Tryz.f52.results.toList.mapM (UI Tryz.prog)=some [(.t 2)]:=by kernel_rfl

def AuN:Pa:=(Tryz.f53.body.bind (Pp Tryz.prog Tryz.f53.ntmps)).getD .skip
theorem AwS:(Tryz.f53.body.bind (Pp Tryz.prog Tryz.f53.ntmps))=some AuN:=by kernel_rfl
theorem AwT:Tryz.f53.results.toList.mapM (UI Tryz.prog)=some [(.t 2)]:=by kernel_rfl

def AuO:Pa:=(Tryz.f54.body.bind (Pp Tryz.prog Tryz.f54.ntmps)).getD .skip
theorem AwU:(Tryz.f54.body.bind (Pp Tryz.prog Tryz.f54.ntmps))=some AuO:=by kernel_rfl
theorem AwV:Tryz.f54.results.toList.mapM (UI Tryz.prog)=some [(.t 2)]:=by kernel_rfl

def Asx:Pa:=(Tryz.f55.body.bind (Pp Tryz.prog Tryz.f55.ntmps)).getD .skip
theorem AwW:(Tryz.f55.body.bind (Pp Tryz.prog Tryz.f55.ntmps))=some Asx:=by kernel_rfl
theorem AwX:Tryz.f55.results.toList.mapM (UI Tryz.prog)=some [(.t 3)]:=by kernel_rfl

def Asy:Pa:=(Tryz.f56.body.bind (Pp Tryz.prog Tryz.f56.ntmps)).getD .skip
theorem AwY:(Tryz.f56.body.bind (Pp Tryz.prog Tryz.f56.ntmps))=some Asy:=by kernel_rfl
theorem AwZ:Tryz.f56.results.toList.mapM (UI Tryz.prog)=some [(.t 6)]:=by kernel_rfl

def AuP:Pa:=(Tryz.f57.body.bind (Pp Tryz.prog Tryz.f57.ntmps)).getD .skip
theorem Axa:(Tryz.f57.body.bind (Pp Tryz.prog Tryz.f57.ntmps))=some AuP:=by kernel_rfl
theorem Axb:Tryz.f57.results.toList.mapM (UI Tryz.prog)=some [(.t 2)]:=by kernel_rfl

def AwP:Pa:=(Tryz.f50.body.bind (Pp Tryz.prog Tryz.f50.ntmps)).getD .skip
theorem Ayg:(Tryz.f50.body.bind (Pp Tryz.prog Tryz.f50.ntmps))=some AwP:=by kernel_rfl
theorem Ayh:Tryz.f50.results.toList.mapM (UI Tryz.prog)=some []:=by kernel_rfl

def Aqg:Dw.Spec:=NN [] .ground Rh Rg (λa=>AbQ a.1 a.2) NX noE
theorem AoB:NL Tryz.prog 63 Aqg:=by
 refine fn2 2 (NG) Tryz.func63<|?_;rintro⟨a,b⟩;unfold AbQ;refine Ac 15 ?_ ?_
 ·exact B
 ·refine A 9 ?_;refine lP (E:=λ(s:Int) (_g:Unit)=>[(0,.sl (a.map Mk)),(1,.sl (b.map Mk)),(5,Av s)]) (O:=λ_ _=>[]) () hX<|?_
  rintro c ⟨⟩ nn;dsimp only[VS];exact B

def Aaa (a:(List (List Int))×(List (List Int))):List D:=[.sl (a.1.map (eL Mk)),.sl (a.2.map (eL Mk))]
def ZZ (ds:List D):(List (List Int))×(List (List Int)):=((uL (uL uI)) (ds.getD 0 .top),(uL (uL uI)) (ds.getD 1 .top))
instance:Od Aaa ZZ:=⟨λa=>by simp[ZZ,Aaa,OG (u:=(uL uI)) (en:=(eL Mk)) (OG (u:=uI) (en:=Mk) (λ_=>rfl))]⟩
def Ame:Dw.Spec:=NN [] .ground Aaa ZZ (λa=>Yd a.1 a.2) NX noE
theorem Alm:NL Tryz.prog 250 Ame:=by
 refine fn2 2 (nK 63 AoB<|NG) Tryz.func250<|?_;rintro⟨a,b⟩;unfold Yd;refine Ac 15 ?_ ?_
 ·exact B
 ·refine A 9 ?_;refine lP (E:=λ(s:Int) (_g:Unit)=>[(0,.sl (a.map (eL Mk))),(1,.sl (b.map (eL Mk))),(5,Av s)]) (O:=λ_ _=>[]) () hX<|?_
  rintro c ⟨⟩ nn;dsimp only[TH];exact B

def AcY (a:Oa×Oa):List D:=[SQ a.1,SQ a.2]
def AcX (ds:List D):Oa×Oa:=(VC (ds.getD 0 .top),VC (ds.getD 1 .top))
instance:Od AcY AcX:=⟨λa=>by simp[AcX,AcY]⟩
def Aqk:Dw.Spec:=NN [] .ground AcY AcX (λa=>AbR a.1 a.2) NX noE
theorem AoE:NL Tryz.prog 196 Aqk:=by
 refine fn2 2 (nK 250 Alm<|NG) Tryz.func196<|?_;intro a;unfold AbR;exact B

def Aag (a:NU×(List Int)):List D:=[Abi a.1,.sl (a.2.map Mk)]
def Aaf (ds:List D):NU×(List Int):=(Abp (ds.getD 0 .top),(uL uI) (ds.getD 1 .top))
instance:Od Aag Aaf:=⟨λa=>by simp[Aaf,Aag,OG (u:=uI) (en:=Mk) (λ_=>rfl)]⟩
def Amo:Dw.Spec:=NN [] (.row 1 3) Aag Aaf (λa=>Yi a.1 a.2) OC noE
theorem Alr:NL Tryz.prog 79 Amo:=by
 refine fn2 2 (NG) Tryz.func79<|?_;rintro⟨a,b⟩;unfold Yi;refine A 18 ?_;refine lP (E:=λ(s:(List Int)×Int) (g:Nat×Nat)=>[(1,.sl (b.map Mk)),(2,.optr 2 g.1 0 0),(5,.osl 5 g.2 0 s.1.length),(6,Av s.2)]) (O:=λs g=>[(2,dV g.1 2 48 (.agg [.sl (a.To.map Mk),.sl (a.Keep.map D.bool)])),(5,dW g.2 1 3 (s.1.map Mk))]) (_,_) hX<|?_
 rintro⟨d,c⟩ ⟨e,f⟩ nn;dsimp only[Afn];refine Ac 10 ?_ ?_
 ·refine A 2 ?_;refine bC (E:=λ(s:(List Int)) (g:Nat×Nat)=>[(1,.sl (b.map Mk)),(2,.optr 2 g.1 0 0),(5,.osl 5 g.2 0 s.length),(6,Av c)]) (O:=λs g=>[(2,dV g.1 2 48 (.agg [.sl (a.To.map Mk),.sl (a.Keep.map D.bool)])),(5,dW g.2 1 3 (s.map Mk))]) (j:=λs=>XS c s) ?_ ?_
  ·refine A 12 ?_;refine lP (E:=λ(s:Int×Int) (g:Nat×Nat)=>[(1,.sl (b.map Mk)),(2,.optr 2 g.1 0 0),(5,.osl 5 g.2 0 d.length),(6,Av c),(7,Av s.1),(8,Av s.2)]) (O:=λ_ g=>[(2,dV g.1 2 48 (.agg [.sl (a.To.map Mk),.sl (a.Keep.map D.bool)])),(5,dW g.2 1 3 (d.map Mk))]) (_,_) hX<|?_
   rintro⟨h,i⟩ ⟨k,l⟩ nn;dsimp only[Afo];exact B
  ·rintro m ⟨o,p⟩ nn;dsimp only[XS];exact B
 ·exact B

def Anv:Dw.Spec:=NN [] (.row 1 3) Wq Wp (λa=>Acb a) OC noE
theorem Amm:NL Tryz.prog 80 Anv:=by
 refine fn2 1 (NG) Tryz.func80<|?_;intro a;unfold Acb;refine A 23 ?_;refine lP (E:=λ(s:(List Int)×Int×Int) (g:Nat×Nat)=>[(1,.optr 1 g.1 0 0),(3,.osl 3 g.2 0 s.1.length),(4,Av s.2.1),(5,Av s.2.2)]) (O:=λs g=>[(1,dV g.1 2 48 (.agg [.sl (a.To.map Mk),.sl (a.Keep.map D.bool)])),(3,dW g.2 1 3 (s.1.map Mk))]) (_,_) hX<|?_
 rintro⟨b,c,k4⟩ ⟨d,e⟩ nn;dsimp only[Agj];exact B

def Amn:Dw.Spec:=NN [] .val UE UD (λa=>AaD a.1 a.2.1 a.2.2) Wl noE
theorem Alq:NL Tryz.prog 84 Amn:=by
 refine fn2 3 (NG) Tryz.func84<|?_;rintro⟨a,d,c⟩;unfold AaD;refine A 11 ?_;refine cK λhq=>aP (([]:List Lo)) (a.Funcs) NQ r r r r r r r (by simp) r r r (by simp) r (λ_=>r) r hq<|?_
 refine A 8 ?_;refine cK λhq=>iO (l:=([]:List Lo)++a.Funcs) (en:=NQ) r r r r r hq<|bD λf e=>sE (l:=([]:List Lo)++a.Funcs) (en:=NQ) (q':=c) r r r r r r r (by simp) e r r r r r<|?_
 refine A 10 ?_;refine Abm (b:=(NM.mk ((([]:List Lo)++a.Funcs).set d.toNat c))) r ?_ r r ?_ (by first|rfl|(simp only;rfl)|(simp only;rfl)|(simp only;rfl)|(simp[Wl,Rk];try rfl))
 all_goals first|(simp;done)|(simp;omega)|rfl|(simp[Pn,Pc];done)|(simp[cells];done)

def Aqt:Dw.Spec:=NN [] .val UE UD (λa=>Aci a.1 a.2.1 a.2.2) Wl noE
theorem AoX:NL Tryz.prog 35 Aqt:=by
 refine fn2 3 (nK 84 Alq<|NG) Tryz.func35<|?_;intro a;unfold Aci;exact B

end
end Go.Proofs.YtcaoepecbgggcaaGreatDoor
