/-
 The code does what its typed programs say.
-/
import Derived.Test.YtmmchhpdaogopaaGreatDoorCl
import Derived.Test.YtmmchhpdaogopaaGreatDoorDxF3
import Derived.Test.YtmmchhpdaogopaaGreatDoorDxF4
namespace Go.Proofs.YtmmchhpdaogopaaGreatDoor
open Go Go.Dw Go.Proofs
open Go.IntKind (i64)
set_option maxRecDepth 100000
set_option maxHeartbeats 40000000
open Go.Dw renaming Px -> bD,Qd -> cK,AbY -> aP,UT -> sE,ZQ -> iO,QU -> cD,RO -> xC,Qx -> xL,Rq -> lP,Qq -> sC,Qk -> bC,rf -> r
abbrev AlB:=en4 (eL (eL Av)) (eL Av) Av Av
abbrev Auw:=de4 (uL (uL uI)) (uL uI) uI uI
theorem Amz:NM Tryz.prog 193 (fS .ground AlB (λa=>Ack a.1 a.2.1 a.2.2.1 a.2.2.2) Od):=by
 refine fn2 4 (nK 120 Aem<|nK 64 Vq<|NK) Tryz.func193<|?_;rintro⟨d,f,h,i⟩;unfold Ack;refine Ab 9 λb k=>?_
 refine Ab 3 λc l=>?_
 refine A 12 ?_;refine lP (E:=λ(s:Int) (g:Nat×Nat)=>[(0,.sl (d.map (eL Av))),oT 9 g.1 b,oT 10 g.2 c,oI 11 s]) (O:=λ_ g=>[(9,dW g.1 1 3 (b.map Av)),(10,dW g.2 1 3 (c.map Av))]) (_,_) hX<|?_
 rintro e ⟨m,o⟩ nn;dsimp only[Agt];refine Ac 9 ?_ ?_
 ·refine A 2 ?_;refine bC (E:=λ(_s:Unit) (g:Nat×Nat)=>[(0,.sl (d.map (eL Av))),oT 9 g.1 b,oT 10 g.2 c,oI 11 e]) (O:=λ_ g=>[(9,dW g.1 1 3 (b.map Av)),(10,dW g.2 1 3 (c.map Av))]) (j:=λ_=>YW e) ?_ ?_
  ·refine A 6 ?_;refine lP (E:=λ(s:Int) (g:Nat×Nat)=>[(0,.sl (d.map (eL Av))),oT 9 g.1 b,oT 10 g.2 c,oI 11 e,oI 12 s]) (O:=λ_ g=>[(9,dW g.1 1 3 (b.map Av)),(10,dW g.2 1 3 (c.map Av))]) (_,_) hX<|?_
   rintro p ⟨q,r⟩ nn;dsimp only[Agu];exact B
  ·rintro⟨⟩ ⟨t,u⟩ nn;dsimp only[YW];exact B
 ·exact B

abbrev Alx:=en2 (eL (eL Av)) Av
abbrev Aut:=de2 (uL (uL uI)) uI
theorem Amv:NM Tryz.prog 195 (fS .ground Alx (λa=>Ach a.1 a.2) Od):=by
 refine fn2 2 (nK 228 AbG<|nK 64 Vq<|NK) Tryz.func195<|?_;rintro⟨c,d⟩;unfold Ach;refine Ac 14 ?_ ?_
 ·exact B
 ·refine A 9 ?_;refine lP (E:=λ(s:Int) (_g:Unit)=>[(0,.sl (c.map (eL Av))),oI 1 d,oI 5 s]) (O:=λ_ _=>[]) () hX<|?_
  rintro b ⟨⟩ nn;dsimp only[Agn];refine Ac 8 ?_ ?_
  ·refine A 2 ?_;refine bC (E:=λ(s:(List Int)×(List Int)×Bool) (_g:Unit)=>[(0,.sl (c.map (eL Av))),oI 1 d,oI 5 b,(24,.sl (c.map (eL Av))),oI 25 b,(26,.fptr (.sl (s.1.map Av)) 0),oM 27 s.2.1 Av,oI 28 b,oB 29 s.2.2]) (O:=λ_ _=>[]) (j:=λs=>YT b s.1 s.2.1 s.2.2) ?_ ?_
   ·refine sC (E:=λ(s:(List Int)×(List Int)×Bool) (_g:Unit)=>[(0,.sl (c.map (eL Av))),oI 1 d,oI 5 b,(24,.sl (c.map (eL Av))),oI 25 b,(26,.fptr (.sl (s.1.map Av)) 0),oM 27 s.2.1 Av,oI 28 b,oB 29 s.2.2]) (O:=λ_ _=>[]) (j:=λs=>AbL c b d s.1 s.2.1 s.2.2) ?_ ?_
    ·refine Ab 4 λl m=>?_
     refine Ab 2 λo p=>?_
     refine A 3 ?_;refine Qy r ?_ ?_
     ·exact B
     ·refine Ab 2 λe q=>?_
      refine Ab 3 λi t=>?_
      refine Ac 4 ?_ ?_
      ·exact B
      ·refine A 1 ?_;exact xC (s:=(e,e,i)) () hX
    ·rintro⟨f,g,h⟩ ⟨⟩ nn;dsimp only[AbL];refine A 6 ?_;refine lP (E:=λ(s:Int) (_g:Unit)=>[(0,.sl (c.map (eL Av))),oI 1 d,oI 5 b,oI 6 s,(24,.sl (c.map (eL Av))),oI 25 b,(26,.fptr (.sl (f.map Av)) 0),oM 27 g Av,oI 28 b,oB 29 h]) (O:=λ_ _=>[]) () hX<|?_
     rintro k ⟨⟩ nn;dsimp only[AbK];refine Ab 6 λu v=>?_
     refine Ac 6 ?_ ?_
     ·refine Ab 8 λx z=>?_
      refine Ab 3 λaa ab=>?_
      refine A 11 ?_;refine Qy r ?_ ?_
      ·exact B
      ·refine Ab 2 λac ad=>?_
       refine Ab 3 λae af=>?_
       refine Ac 5 ?_ ?_
       ·exact B
       ·refine A 8 ?_;exact xL (s:=i64.wrap (k+1)) () hX
     ·refine A 4 ?_;exact Uu (s:=(f,g,h)) () hX
   ·rintro⟨x4,x5,x6⟩ ⟨⟩ nn;dsimp only[YT];exact B
  ·exact B

abbrev Zq:=en3 PQ Av NU
abbrev AjM:=de3 QM uI RP
def Wc (b:NL):D:=PQ b
theorem AkD:NM Tryz.prog 74 (fS .val Zq (λa=>ZV a.1 a.2.1 a.2.2) Wc):=by
 refine fn2 3 (NK) Tryz.func74<|?_;rintro⟨c,e,d⟩;unfold ZV;refine A 11 ?_;refine cK λhq=>aP (([]:List NI)) (c.Funcs) NU r r r r r r r (by simp) r r r (by simp) r (λ_=>r) r hq<|?_
 refine A 8 ?_;refine cK λhq=>iO (l:=([]:List NI)++c.Funcs) (en:=NU) r r r r r hq<|bD λg f=>sE (l:=([]:List NI)++c.Funcs) (en:=NU) (q':=d) r r r r r r r (by simp) f r r r r r<|?_
 refine A 10 ?_;refine Tz (b:=(NL.mk ((([]:List NI)++c.Funcs).set e.toNat d))) r ?_ r r ?_ (by first|rfl|(simp only;rfl)|(simp only;rfl)|(simp only;rfl)|(simp[Wc,PQ];try rfl))
 all_goals first|(simp;done)|(simp;omega)|rfl|(simp[Pc,OT];done)|(simp[cells];done)

theorem ZZ:NM Tryz.prog 41 (fS .val Zq (λa=>TL a.1 a.2.1 a.2.2) Wc):=by
 refine fn2 3 (nK 74 AkD<|NK) Tryz.func41<|?_;intro a;unfold TL;exact B

abbrev AiT:=en4 NU Un XM Av
abbrev Asm:=de4 RP Yj Aas uI
theorem AjP:NM Tryz.prog 180 (fS .ground AiT (λa=>WZ a.1 a.2.1 a.2.2.1 a.2.2.2) AaU):=by
 refine fn2 4 (nK 185 Tt<|nK 64 Vq<|NK) Tryz.func180<|?_;rintro⟨f,c,b,k4⟩;unfold WZ;refine Ab 14 λh i=>?_
 refine Ab 9 λd k=>?_
 refine A 8 ?_;refine sC (E:=λ(_s:Unit) (g:Nat×Nat)=>[oI 3 k4,oP 5 g.1,oP 6 g.2,oI 11 d.1]) (O:=λ_ g=>[(5,dV g.1 1 60 (.agg [.sl (c.Out.map (eL Av))])),(6,dV g.2 2 63 (.agg [.sl (b.To.map Av),.sl (b.Keep.map D.bool)]))]) (j:=λ_=>SS b k4 c d) ?_ ?_
 ·exact B
 ·rintro⟨⟩ ⟨l,m⟩ nn;dsimp only[SS];refine Ab 6 λo p=>?_
  refine Ac 5 ?_ ?_
  ·exact B
  ·refine A 9 ?_;refine lP (E:=λ(s:Int) (g:Nat×Nat)=>[oI 3 k4,oP 5 g.1,oP 6 g.2,oI 11 d.1,oI 13 s]) (O:=λ_ g=>[(5,dV g.1 1 60 (.agg [.sl (c.Out.map (eL Av))])),(6,dV g.2 2 63 (.agg [.sl (b.To.map Av),.sl (b.Keep.map D.bool)]))]) (_,_) hX<|?_
   rintro e ⟨q,t⟩ nn;dsimp only[Zs];refine Ab 7 λu v=>?_
   refine Ac 6 ?_ ?_
   ·refine Ab 9 λx z=>?_
    refine Ab 3 λaa ab=>?_
    refine A 11 ?_;refine Qy r ?_ ?_
    ·refine Ab 3 λac ad=>?_
     refine Ab 5 λae af=>?_
     refine Ac 6 ?_ ?_
     ·exact B
     ·refine A 8 ?_;exact xL (s:=i64.wrap (e+1)) (_,_) hX
    ·refine A 23 ?_;exact xL (s:=i64.wrap (e+1)) (_,_) hX
   ·exact B

abbrev AmL:=en2 PQ NU
abbrev Avs:=de2 QM RP
def Apc (b:OU):D:=AfV b
theorem AnQ:NM Tryz.prog 203 (fS .ground AmL (λa=>AdE a.1 a.2) Apc):=by
 refine fn2 2 (NK) Tryz.func203<|?_;intro a;unfold AdE;exact B

def AkX (b:Oh):D:=OP b
theorem Aac:NM Tryz.prog 139 (fS (.ptr 8 235) AaR (λa=>VC a) AkX):=by
 refine fn2 1 (nK 140 Aai<|NK) Tryz.func139<|?_;intro b;unfold VC;refine A 21 ?_;refine lP (E:=λ(s:Oh×Int) (g:Nat)=>[(3,.optr 7 g 0 0),oM 8 b Av,oL 9 b,oI 10 s.2]) (O:=λs g=>[(7,dV g 8 235 (OP s.1))]) _ hX<|?_
 rintro⟨c,d⟩ e nn;dsimp only[AdT];exact B

theorem Anx:NM Tryz.prog 85 (fS .ground Tp (λa=>AaB a.1 a.2) Od):=by
 refine fn2 2 (nK 139 Aac<|nK 142 AfJ<|NK) Tryz.func85<|?_;intro a;unfold AaB;exact B

noncomputable def Aib:Dw.Spec:=Ow [] (.row 1 3) Tp Akw (λa=>Aaz a.1 a.2) PN noE
theorem Ahs:NM Tryz.prog 84 Aib:=by
 refine fn2 2 (nK 139 Aac<|nK 140 Aai<|nK 141 Afn<|NK) Tryz.func84<|?_;intro a;unfold Aaz;exact B

def TF (a:OE×Int):List D:=[.agg [.sl (a.1.g.map (eL Av)),.sl (a.1.w.map Av),.row 1 4 (a.1.known.map D.bool),.row 1 3 (a.1.of.map Av)],Mk a.2]
def TE (ds:List D):OE×Int:=((⟨(uL (uL uI)) (cel (ds.getD 0 .top) 0),(uL uI) (cel (ds.getD 0 .top) 1),(uR uBo) (cel (ds.getD 0 .top) 2),(uR uI) (cel (ds.getD 0 .top) 3)⟩:OE),uI (ds.getD 1 .top))
instance:PT TF TE:=⟨λa=>by simp[TE,TF,uI,cel,QL (u:=(uL uI)) (en:=(eL Av)) (QL (u:=uI) (en:=Av) (λ_=>rfl)),QL (u:=uI) (en:=Av) (λ_=>rfl),Aue (u:=uI) (en:=Av) (λ_=>rfl),Aue (u:=uBo) (en:=D.bool) (λ_=>rfl)]⟩
def AaD (b:Int×Int×OE):D:=.tup [Mk b.1,Mk b.2.1]
def AaC (b:Int×Int×OE):List D:=[.agg [.sl (b.2.2.g.map (eL Av)),.sl (b.2.2.w.map Av),.row 1 4 (b.2.2.known.map D.bool),.row 1 3 (b.2.2.of.map Av)]]
noncomputable def AgP:Dw.Spec:=Ow [(0,(4,137))] .val TF TE (λa=>Yn a.1 a.2) AaD AaC
noncomputable def Sr (b:OE->Int->Option (Int×Int×OE)):Dw.Spec:=Ow [(0,(4,137))] .val TF TE (λa=>b a.1 a.2) AaD AaC
theorem Afs (h:OE->Int->Option (Int×Int×OE)) (hrec:NM Tryz.prog 93 (Sr h)):NM Tryz.prog 93 (Sr (Rk h)):=by
 refine fn2 2 (Ape (l:=[(93,Sr h),(89,AiA)]) (by simp[hrec,Adb])) Tryz.func93<|?_
 rintro⟨a,b⟩;unfold Rk;refine A 8 ?_;refine AdH (E:=[(0,.optr 8192 0 0 0),oI 1 b]) (O:=[(4697,dW _ 1 4 (a.known.map D.bool)),(8192,dV 0 4 137 (.agg [.sl (a.g.map (eL Av)),.sl (a.w.map Av),.osl 4697 _ 0 a.known.length,.row 1 3 (a.of.map Av)]))]) ((AfX (g:=8192) (off:=2) 601 (a.known) D.bool r r r hX)) λnn=>?_
 refine Ab 6 λo ab=>?_
 refine A 2 ?_;refine RE (E:=[(0,.optr 8192 0 0 0),oI 1 b,oB 19 o]) (O:=[(8192,dV 0 4 137 (.agg [.sl (a.g.map (eL Av)),.sl (a.w.map Av),.row 1 4 (a.known.map D.bool),.row 1 3 (a.of.map Av)]))]) ((Aar (g:=8192) (i:=0) (off:=2) (g':=4697) (l:=a.known) (en:=D.bool) r r r (.inr ⟨rfl,r⟩) r r (λ_=>r) r hX)) λnn=>cD r ?_ ?_
 ·refine A 1 ?_;refine AdH (E:=[(0,.optr 8192 0 0 0),oI 1 b]) (O:=[(4698,dW _ 1 3 (a.of.map Av)),(8192,dV 0 4 137 (.agg [.sl (a.g.map (eL Av)),.sl (a.w.map Av),.row 1 4 (a.known.map D.bool),.osl 4698 _ 0 a.of.length]))]) ((AfX (g:=8192) (off:=3) 602 (a.of) Av r r r hX)) λnn=>?_
  refine Ab 6 λp ac=>?_
  refine A 4 ?_;refine RE (E:=[oI 4 p,oI 5 0]) (O:=[(8192,dV 0 4 137 (.agg [.sl (a.g.map (eL Av)),.sl (a.w.map Av),.row 1 4 (a.known.map D.bool),.row 1 3 (a.of.map Av)]))]) ((Aar (g:=8192) (i:=0) (off:=3) (g':=4698) (l:=a.of) (en:=Av) r r r (.inr ⟨rfl,r⟩) r r (λ_=>r) r hX)) λnn=>?_
  exact B
 ·refine Ab 15 λj ad=>?_
  refine A 7 ?_;refine lP (E:=λ(s:(List (List Int))×(List Int)×(List Bool)×(List Int)×Int×Int) (_g:Unit)=>[(0,.optr 8192 0 0 0),oI 1 b,oI 6 s.2.2.2.2.2,oM 33 j Av,oL 34 j,oI 35 s.2.2.2.2.1]) (O:=λs _=>[(8192,dV 0 4 137 (.agg [.sl (s.1.map (eL Av)),.sl (s.2.1.map Av),.row 1 4 (s.2.2.1.map D.bool),.row 1 3 (s.2.2.2.1.map Av)]))]) (body:=λs=>WE j h b s.1 s.2.1 s.2.2.1 s.2.2.2.1 s.2.2.2.2.1 s.2.2.2.2.2) (s:=(a.g,a.w,a.known,a.of,0,0)) () hX<|?_
  rintro⟨k,m,c,d,t,u⟩ ⟨⟩ nn
  try dsimp only
  unfold WE;refine Ac 6 ?_ ?_
  ·refine Ab 6 λae af=>?_
   refine Ab 9 λe ag=>?_
   refine Ac 15 ?_ ?_
   ·exact B
   ·refine A 14 ?_;exact xL (s:=(e.2.2.g,e.2.2.w,e.2.2.known,e.2.2.of,i64.wrap (t+1),Ph u e.1)) () hX
  ·refine Ab 12 λah ai=>?_
   refine Ab 3 λf aj=>?_
   refine Ac 15 ?_ ?_
   ·exact B
   ·refine A 3 ?_;refine AdH (E:=[(0,.optr 8192 0 0 0),oI 1 b,oI 11 f.1]) (O:=[(4699,dW _ 1 3 (d.map Av)),(4700,dW _ 1 4 (c.map D.bool)),(8192,dV 0 4 137 (.agg [.sl (k.map (eL Av)),.sl (m.map Av),.osl 4700 _ 0 c.length,.osl 4699 _ 0 d.length]))]) ((AfX (g:=8192) (off:=3) 603 (d) Av r r r (AfX (g:=8192) (off:=2) 604 (c) D.bool r r r hX))) λnn=>?_
    refine A 12 ?_;refine bD λv x=>AhE (l:=d) (en:=Av) (q:=v) (q':=f.1) r r r r r x r (λ_=>r) r r r ⟨trivial,trivial,r⟩<|?_
    refine A 1 ?_;refine bD λz aa=>AhE (l:=c) (en:=D.bool) (q:=z) (q':=true) r r r r r aa r (λ_=>r) r r r ⟨trivial,trivial,r⟩<|?_
    refine A 1 ?_;refine RE (E:=[oI 11 f.1]) (O:=[(8192,dV 0 4 137 (.agg [.sl (k.map (eL Av)),.sl (m.map Av),.row 1 4 ((c.set b.toNat true).map D.bool),.row 1 3 ((d.set b.toNat f.1).map Av)]))]) ((Aar (g:=8192) (i:=0) (off:=2) (g':=4700) (l:=c.set b.toNat true) (en:=D.bool) r r r (.inr ⟨rfl,r⟩) r (by simp) (λ_=>r) r (Aar (g:=8192) (i:=0) (off:=3) (g':=4699) (l:=d.set b.toNat f.1) (en:=Av) r r r (.inr ⟨rfl,r⟩) r (by simp) (λ_=>r) r hX))) λnn=>?_
    exact B
theorem Afr:NM Tryz.prog 93 (Sr (QC 0)):=fn2 2 NK Tryz.func93 λ_ _ h=>by cases h
theorem ZB:∀ k,NM Tryz.prog 93 (Sr (QC k))
 | 0=>Afr
 | k+1=>Afs _ (ZB k)
theorem AfM:NM Tryz.prog 93 AgP:=AtY PT.ok ZB

noncomputable def AeU:Dw.Spec:=Ow [] .val Zq AjM (λa=>SW a.1 a.2.1 a.2.2) Wc noE
theorem Akt:NM Tryz.prog 59 AeU:=by
 refine fn2 3 (nK 99 ArB<|NK) Tryz.func59<|?_;rintro⟨f,d,c⟩;unfold SW;refine Ab 11 λa g=>?_
 refine A 12 ?_;refine cK λhq=>iO (l:=a) (en:=NU) r r r r r hq<|bD λh e=>sE (l:=a) (en:=NU) (q':=c) r r r r r r r (by simp) e r r r r r<|?_
 refine A 9 ?_;refine Tz (b:=(NL.mk (a.set d.toNat c))) r ?_ r r ?_ (by first|rfl|(simp only;rfl)|(simp only;rfl)|(simp only;rfl)|(simp[Wc,PQ];try rfl))
 all_goals first|(simp;done)|(simp;omega)|rfl|(simp[Pc,OT];done)|(simp[cells];done)

abbrev Agb:=en2 OV Oj
abbrev AuX:=de2 AcS Sl
def AiK (b:On×Bool):D:=.tup [Qr b.1,.bool b.2]
theorem AnD:NM Tryz.prog 223 (fS .val Agb (λa=>Rc a.1 a.2) AiK):=by
 refine fn2 2 (NK) Tryz.func223<|?_;intro a;unfold Rc;exact B

theorem Amk:NM Tryz.prog 224 (fS .val Agb (λa=>QH a.1 a.2) AiK):=by
 refine fn2 2 (NK) Tryz.func224<|?_;intro a;unfold QH;exact B

end Go.Proofs.YtmmchhpdaogopaaGreatDoor
