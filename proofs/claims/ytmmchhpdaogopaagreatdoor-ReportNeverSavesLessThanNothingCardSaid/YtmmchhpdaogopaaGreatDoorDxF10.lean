/-
 The code does what its typed programs say.
-/
import Derived.Test.YtmmchhpdaogopaaGreatDoorCl
import Derived.Test.YtmmchhpdaogopaaGreatDoorTrl
import Derived.Test.YtmmchhpdaogopaaGreatDoorDxF6
namespace Go.Proofs.YtmmchhpdaogopaaGreatDoor
open Go Go.Dw Go.Proofs
open Go.IntKind (i64)
set_option maxRecDepth 100000
set_option maxHeartbeats 40000000
open Go.Dw renaming Px -> bD,Qd -> cK,Sp -> bS,UT -> sE,ZQ -> iO,QU -> cD,RO -> xC,Qx -> xL,Xh -> hE,Rq -> lP,Qq -> sC,Qk -> bC,rf -> r
def RX (b:NJ):D:=Oj b
theorem Aeh:NM Tryz.prog 123 (fS .ground AiS (λa=>VG a.1 a.2) RX):=by
 refine fn2 2 (nK 186 Akz<|NK) Tryz.func123<|?_;intro a;unfold VG;exact B

theorem AnO:NM Tryz.prog 119 (fS (.row 1 3) AaZ (λa=>YZ a.1 a.2) PN):=by
 refine fn2 2 (nK 123 Aeh<|nK 184 Ahz<|nK 183 YQ<|nK 185 Tt<|nK 66 WQ<|NK) Tryz.func119<|?_;rintro⟨c,b⟩;unfold YZ;refine A 19 ?_;refine lP (E:=λ(s:(List Int)×Int) (g:Nat×Nat×Nat)=>[oP 2 g.1,oP 3 g.2.1,oT 5 g.2.2 s.1,oI 6 s.2]) (O:=λs g=>[(2,dV g.1 3 57 (NU c)),(3,dV g.2.1 2 63 (.agg [.sl (b.To.map Av),.sl (b.Keep.map D.bool)])),(5,dW g.2.2 1 3 (s.1.map Av))]) (_,_,_) hX<|?_
 rintro⟨d,k4⟩ ⟨e,f,h⟩ nn;dsimp only[Adg];refine sC (E:=λ(_s:Unit) (g:Nat×Nat×Nat)=>[oP 2 g.1,oP 3 g.2.1,oT 5 g.2.2 d,oI 6 k4,oI 16 k4,(17,.optr 3 g.2.1 0 1),(18,.sl (b.Keep.map D.bool)),oL 19 b.Keep,(20,.bool (decide (k4<(b.Keep.length:Int))))]) (O:=λ_ g=>[(2,dV g.1 3 57 (NU c)),(3,dV g.2.1 2 63 (.agg [.sl (b.To.map Av),.sl (b.Keep.map D.bool)])),(5,dW g.2.2 1 3 (d.map Av))]) (j:=λ_=>XI b k4 d c) ?_ ?_
 ·exact B
 ·rintro⟨⟩ ⟨i,k,l⟩ nn;dsimp only[XI];exact B

def AhB (b:NI×Int):D:=.tup [NU b.1,Mk b.2]
theorem AbO:NM Tryz.prog 71 (fS .val AaZ (λa=>QJ a.1 a.2) AhB):=by
 refine fn2 2 (nK 118 AbQ<|nK 119 AnO<|nK 120 Aem<|nK 121 AkE<|nK 122 AlC<|nK 123 Aeh<|NK) Tryz.func71<|?_;rintro⟨c,d⟩;unfold QJ;refine Ab 13 λt z=>?_
 refine Ac 10 ?_ ?_
 ·refine A 10 ?_;refine Pu (b:=((NI.mk 0 ([]) ([])),t)) r ?_ r r ?_ (by first|rfl|(simp only[NN];rfl)|(simp only[NP];rfl)|(simp only[NN,NP];rfl)|(simp[AhB,NU];try rfl)) (by decide)
  all_goals first|(simp;done)|(simp;omega)|rfl|(simp[Pc,OT];done)|(simp[cells];done)
 ·refine Ab 6 λf aa=>?_
  refine A 20 ?_;refine lP (E:=λ(s:(List Og)×Int) (g:Nat×Nat×Nat×Nat×Nat)=>[oP 2 g.1,oP 3 g.2.1,oP 4 g.2.2.1,oT 7 g.2.2.2.1 f,oP 8 g.2.2.2.2,oI 9 s.2]) (O:=λs g=>[(2,dV g.1 3 57 (NU c)),(3,dV g.2.1 2 63 (.agg [.sl (d.To.map Av),.sl (d.Keep.map D.bool)])),(4,dV g.2.2.1 3 57 (.agg [Mk 0,.nils,.nils])),(7,dW g.2.2.2.1 1 3 (f.map Av)),(8,dV g.2.2.2.2 3 57 (.agg [Mk c.Params,.sl (s.1.map OW),.nils]))]) (_,_,_,_,_) ((Vm [] trivial ⟨(OA r),(OA r),(OA r),(OA r),(OA r),(OA r),trivial⟩ ⟨(.inl r),(.inl r),(.inl r),(.inl r),(.inr ⟨_,_,_,_,r,r,r,r,Uw r ⟨(OJ r),(SU OW r),(OJ r),trivial⟩⟩),trivial⟩))<|?_
  rintro⟨k,l⟩ ⟨ab,ac,ad,ae,af⟩ nn;dsimp only[Agv];refine Ac 9 ?_ ?_
  ·refine A 2 ?_;refine bC (E:=λ(_s:(List Og)) (g:Nat×Nat×Nat×Nat×Nat×Nat)=>[oP 2 g.1,oP 3 g.2.1,oP 4 g.2.2.1,oT 7 g.2.2.2.1 f,oP 8 g.2.2.2.2.1,oI 9 l]) (O:=λs g=>[(2,dV g.1 3 57 (NU c)),(3,dV g.2.1 2 63 (.agg [.sl (d.To.map Av),.sl (d.Keep.map D.bool)])),(4,dV g.2.2.1 3 57 (.agg [Mk 0,.nils,.nils])),(7,dW g.2.2.2.1 1 3 (f.map Av)),(8,dV g.2.2.2.2.1 3 57 (.agg [Mk c.Params,.osl 13 g.2.2.2.2.2 0 s.length,.nils])),(13,dW g.2.2.2.2.2 2 75 (s.map OW))]) (j:=λs=>WY l s) ?_ ?_
   ·refine Ab 7 λag ah=>?_
    refine Ab 1 λm ai=>?_
    refine Ab 13 λaj ak=>?_
    refine Ab 1 λo ao=>?_
    refine A 11 ?_;refine lP (E:=λ(s:Int×Int) (g:Nat×Nat×Nat×Nat×Nat×Nat×Nat)=>[oP 2 g.1,oP 3 g.2.1,oP 4 g.2.2.1,oT 7 g.2.2.2.1 f,oP 8 g.2.2.2.2.1,oI 9 l,oP 10 g.2.2.2.2.2.1,oT 11 g.2.2.2.2.2.2 o,oI 12 s.2]) (O:=λs g=>[(2,dV g.1 3 57 (NU c)),(3,dV g.2.1 2 63 (.agg [.sl (d.To.map Av),.sl (d.Keep.map D.bool)])),(4,dV g.2.2.1 3 57 (.agg [Mk 0,.nils,.nils])),(7,dW g.2.2.2.1 1 3 (f.map Av)),(8,dV g.2.2.2.2.1 3 57 (.agg [Mk c.Params,.sl (k.map OW),.nils])),(10,dV g.2.2.2.2.2.1 2 75 (.agg [Mk m.Size,Mk s.1])),(11,dW g.2.2.2.2.2.2 1 3 (o.map Av))]) (_,_,_,_,_,_,_) hX<|?_
    rintro⟨u,ap⟩ ⟨aq,ar,au,av,aw,ax,ay⟩ nn;dsimp only[YX];refine Ac 9 ?_ ?_
    ·exact B
    ·refine A 11 ?_;refine bS ([(Og.mk m.Size u)]:List Og) OW r r r (by simp) r r r<|?_
     exact B
   ·rintro az ⟨ba,bb,bc,bd,bf,bg⟩ nn;dsimp only[WY];refine A 5 ?_;exact wf [13] λ_=>B
  ·refine Ab 9 λh bh=>?_
   refine Ab 2 λi bi=>?_
   refine A 12 ?_;refine lP (E:=λ(s:(List NJ)×Int) (g:Nat×Nat×Nat×Nat×Nat×Nat)=>[oP 2 g.1,oP 3 g.2.1,oP 4 g.2.2.1,oP 8 g.2.2.2.1,oT 14 g.2.2.2.2.1 h,oT 15 g.2.2.2.2.2 i,oI 16 s.2]) (O:=λs g=>[(2,dV g.1 3 57 (NU c)),(3,dV g.2.1 2 63 (.agg [.sl (d.To.map Av),.sl (d.Keep.map D.bool)])),(4,dV g.2.2.1 3 57 (.agg [Mk 0,.nils,.nils])),(8,dV g.2.2.2.1 3 57 (.agg [Mk c.Params,.sl (k.map OW),.sl (s.1.map Oj)])),(14,dW g.2.2.2.2.1 1 3 (h.map Av)),(15,dW g.2.2.2.2.2 1 3 (i.map Av))]) (_,_,_,_,_,_) ((Vm [] trivial ⟨(OA r),(OA r),(OA r),(OA r),(OA r),(OA r),(OA r),trivial⟩ ⟨(.inl r),(.inl r),(.inl r),(.inr ⟨_,_,_,_,r,r,r,r,Uw r ⟨(OJ r),(OJ r),(SU Oj r),trivial⟩⟩),(.inl r),(.inl r),trivial⟩))<|?_
   rintro⟨p,q⟩ ⟨bj,bk,bl,bm,bn,bo⟩ nn;dsimp only[AbN];refine Ac 10 ?_ ?_
   ·refine Ab 10 λbp bq=>?_
    refine Ac 5 ?_ ?_
    ·exact B
    ·refine Ab 7 λbr bs=>?_
     refine Ab 3 λe bt=>?_
     refine A 5 ?_;refine sC (E:=λ(_s:Int×Int) (g:Nat×Nat×Nat×Nat×Nat×Nat×Nat)=>[oP 2 g.1,oP 3 g.2.1,oP 4 g.2.2.1,oP 8 g.2.2.2.1,oT 14 g.2.2.2.2.1 h,oT 15 g.2.2.2.2.2.1 i,oI 16 q,oP 17 g.2.2.2.2.2.2]) (O:=λs g=>[(2,dV g.1 3 57 (NU c)),(3,dV g.2.1 2 63 (.agg [.sl (d.To.map Av),.sl (d.Keep.map D.bool)])),(4,dV g.2.2.1 3 57 (.agg [Mk 0,.nils,.nils])),(8,dV g.2.2.2.1 3 57 (.agg [Mk c.Params,.sl (k.map OW),.sl (p.map Oj)])),(14,dW g.2.2.2.2.1 1 3 (h.map Av)),(15,dW g.2.2.2.2.2.1 1 3 (i.map Av)),(17,dV g.2.2.2.2.2.2 5 53 (.agg [Mk e.Op,Mk s.1,Mk s.2,Mk e.C,Aqz e.Imm]))]) (j:=λs=>Tw p e q s.1 s.2) ?_ ?_
     ·exact B
     ·rintro⟨v,x⟩ ⟨bu,bv,bw,bx,bz,ca,cb⟩ nn;dsimp only[Tw];refine A 6 ?_;refine bS ([(NJ.mk e.Op v x e.C e.Imm)]:List NJ) Oj r r r (by simp) r r r<|?_
      refine A 16 ?_;exact wf [18] λ_=>B
   ·exact B

abbrev SO:=en3 NU OR Oj
abbrev AuB:=de3 RP Zh Sl
theorem AmH:NM Tryz.prog 73 (fS .ground SO (λa=>Pt a.1 a.2.1 a.2.2) RX):=by
 refine fn2 3 (NK) Tryz.func73<|?_;intro a;unfold Pt;exact B

abbrev Aff:=en3 PQ Av OR
abbrev AlI:=de3 QM uI Zh
def ZX (b:OD):D:=OV b
theorem AmG:NM Tryz.prog 40 (fS .val Aff (λa=>UR a.1 a.2.1 a.2.2) ZX):=by
 refine fn2 3 (nK 73 AmH<|NK) Tryz.func40<|?_;rintro⟨h,i,c⟩;unfold UR;refine Ab 12 λd j=>?_
 refine A 18 ?_;refine lP (E:=λ(s:(List NJ)×Int) (g:Nat×Nat×Nat×Nat)=>[oP 5 g.1,oP 6 g.2.1,oP 7 g.2.2.1,oT 8 g.2.2.2 s.1,oI 9 s.2]) (O:=λs g=>[(5,dV g.1 3 65 (OR c)),(6,dV g.2.1 3 95 (.agg [Mk 0,Mk 0,.nils])),(7,dV g.2.2.1 3 57 (NU d)),(8,dW g.2.2.2 5 53 (s.1.map Oj))]) (_,_,_,_) hX<|?_
 rintro⟨e,k6⟩ ⟨k,l,m,o⟩ nn;dsimp only[AbU];refine Ac 10 ?_ ?_
 ·refine Ab 11 λp q=>?_
  refine Ab 2 λf t=>?_
  refine A 1 ?_;refine bS ([f]:List NJ) Oj r r r (by simp) r r r<|?_
  exact B
 ·refine A 17 ?_;refine Tz (b:=(OD.mk d.Params c.Size e)) r ?_ r r ?_ (by first|rfl|(simp only[NN];rfl)|(simp only[NP];rfl)|(simp only[NN,NP];rfl)|(simp[ZX,OV];try rfl))
  all_goals first|(simp;done)|(simp;omega)|rfl|(simp[Pc,OT];done)|(simp[cells];done)

theorem Aor:NM Tryz.prog 147 (fS .ground Ud (λa=>AcF a.1 a.2) Oy):=by
 refine fn2 2 (NK) Tryz.func147<|?_;intro a;unfold AcF;exact B

theorem AiC:NM Tryz.prog 88 (fS .ground Ud (λa=>Aaq a.1 a.2) YP):=by
 refine fn2 2 (nK 145 AaM<|nK 102 Yc<|nK 147 Aor<|nK 146 Adr<|NK) Tryz.func88<|?_;rintro⟨b,c⟩;unfold Aaq;refine A 6 ?_;refine sC (E:=λ(_s:Unit) (_g:Unit)=>[oI 0 b,oI 1 c]) (O:=λ_ _=>[]) (j:=λ_=>AaL b c) ?_ ?_
 ·exact B
 ·rintro⟨⟩ ⟨⟩ nn;dsimp only[AaL];exact B

theorem AeD:NM Tryz.prog 161 (fS .ground SO (λa=>UH a.1 a.2.1 a.2.2) RX):=by
 refine fn2 3 (NK) Tryz.func161<|?_;intro a;unfold UH;exact B

theorem AeE:NM Tryz.prog 162 (fS .ground SO (λa=>UI a.1 a.2.1 a.2.2) RX):=by
 refine fn2 3 (NK) Tryz.func162<|?_;intro a;unfold UI;exact B

theorem AeF:NM Tryz.prog 163 (fS .ground SO (λa=>UJ a.1 a.2.1 a.2.2) RX):=by
 refine fn2 3 (NK) Tryz.func163<|?_;intro a;unfold UJ;exact B

theorem AeG:NM Tryz.prog 164 (fS .ground SO (λa=>UK a.1 a.2.1 a.2.2) RX):=by
 refine fn2 3 (NK) Tryz.func164<|?_;intro a;unfold UK;exact B

theorem AeH:NM Tryz.prog 165 (fS .ground SO (λa=>UL a.1 a.2.1 a.2.2) RX):=by
 refine fn2 3 (NK) Tryz.func165<|?_;intro a;unfold UL;exact B

theorem AnB:NM Tryz.prog 160 (fS .ground SO (λa=>Adz a.1 a.2.1 a.2.2) RX):=by
 refine fn2 3 (NK) Tryz.func160<|?_;intro a;unfold Adz;exact B

noncomputable def Ahu:Dw.Spec:=Ow [] .val Aff AlI (λa=>TG a.1 a.2.1 a.2.2) ZX noE
theorem Amj:NM Tryz.prog 58 Ahu:=by
 refine fn2 3 (nK 97 ArE<|nK 98 Aga<|nK 161 AeD<|nK 162 AeE<|nK 163 AeF<|nK 164 AeG<|nK 165 AeH<|nK 160 AnB<|NK) Tryz.func58<|?_;rintro⟨p1,i2,d⟩;unfold TG;refine Ab 12 λe ak=>?_
 refine Ab 14 λr5 ao=>?_
 refine Ab 8 λr6 aq=>?_
 refine A 15 ?_;refine lP (E:=λ(s:(List NJ)×Int) (g:Nat×Nat×Nat×Nat×Nat×Nat)=>[oP 5 g.1,oP 6 g.2.1,oP 7 g.2.2.1,oP 8 g.2.2.2.1,oP 9 g.2.2.2.2.1,oS 27 23 g.2.2.2.2.2 s.1,oL 28 r5,oI 29 s.2]) (O:=λs g=>[(5,dV g.1 3 65 (OR d)),(6,dV g.2.1 3 95 (.agg [Mk 0,Mk 0,.nils])),(7,dV g.2.2.1 3 57 (NU e)),(8,dV g.2.2.2.1 3 95 (.agg [Mk e.Params,Mk d.Size,.osl 23 g.2.2.2.2.2 0 s.1.length])),(9,dV g.2.2.2.2.1 25 140 (.agg (Zl.map AgT))),(23,dW g.2.2.2.2.2 5 53 (s.1.map Oj))]) (_,_,_,_,_,_) hX<|?_
 rintro⟨a,c⟩ ⟨ar,au,av,aw,ax,ay⟩ nn;dsimp only[WL];refine Ac 6 ?_ ?_
 ·refine A 7 ?_;refine cK λhq=>iO (l:=a) (en:=Oj) r r r r r hq<|bD λf az=>?_
  refine A 12 ?_;refine cK λhq=>Sb r r r hq<|AgF (λh=>?_) (λh=>?_)
  ·refine RN (q:=161) (l:=Zl) (en:=AgT) (j:=f.Op.toNat) (by simp) r r r (AgE (k:=15) h r) r (λ_=>r)<|?_
   refine Ab 3 λi ba=>?_
   refine A 2 ?_;refine bD λbb ac=>sE (l:=a) (en:=Oj) (q':=i) r r r r r r r (by simp) ac r r r r r<|?_
   refine A 7 ?_;exact xL (s:=(a.set c.toNat i,i64.wrap (c+1))) (_,_,_,_,_,_) ((hE ⟨rfl,r,r,r,r,(AbB (q:=a.length) r (by simp)),r,r,trivial⟩ ⟨rfl,r,r,(Eq.trans (b:=dV _ 3 95 (.agg [Mk e.Params,Mk d.Size,.osl 23 _ 0 a.length])) r (by simp)),r,r,trivial⟩))
  ·refine AgF (λm=>?_) (λm=>?_)
   ·refine RN (q:=162) (l:=Zl) (en:=AgT) (j:=f.Op.toNat) (by simp) r r r (AgE (k:=16) m r) r (λ_=>r)<|?_
    refine Ab 3 λo bc=>?_
    refine A 2 ?_;refine bD λbd ad=>sE (l:=a) (en:=Oj) (q':=o) r r r r r r r (by simp) ad r r r r r<|?_
    refine A 7 ?_;exact xL (s:=(a.set c.toNat o,i64.wrap (c+1))) (_,_,_,_,_,_) ((hE ⟨rfl,r,r,r,r,(AbB (q:=a.length) r (by simp)),r,r,trivial⟩ ⟨rfl,r,r,(Eq.trans (b:=dV _ 3 95 (.agg [Mk e.Params,Mk d.Size,.osl 23 _ 0 a.length])) r (by simp)),r,r,trivial⟩))
   ·refine AgF (λp=>?_) (λp=>?_)
    ·refine RN (q:=163) (l:=Zl) (en:=AgT) (j:=f.Op.toNat) (by simp) r r r (AgE (k:=17) p r) r (λ_=>r)<|?_
     refine Ab 3 λt bf=>?_
     refine A 2 ?_;refine bD λbg ae=>sE (l:=a) (en:=Oj) (q':=t) r r r r r r r (by simp) ae r r r r r<|?_
     refine A 7 ?_;exact xL (s:=(a.set c.toNat t,i64.wrap (c+1))) (_,_,_,_,_,_) ((hE ⟨rfl,r,r,r,r,(AbB (q:=a.length) r (by simp)),r,r,trivial⟩ ⟨rfl,r,r,(Eq.trans (b:=dV _ 3 95 (.agg [Mk e.Params,Mk d.Size,.osl 23 _ 0 a.length])) r (by simp)),r,r,trivial⟩))
    ·refine AgF (λu=>?_) (λu=>?_)
     ·refine RN (q:=164) (l:=Zl) (en:=AgT) (j:=f.Op.toNat) (by simp) r r r (AgE (k:=18) u r) r (λ_=>r)<|?_
      refine Ab 3 λv bh=>?_
      refine A 2 ?_;refine bD λbi af=>sE (l:=a) (en:=Oj) (q':=v) r r r r r r r (by simp) af r r r r r<|?_
      refine A 7 ?_;exact xL (s:=(a.set c.toNat v,i64.wrap (c+1))) (_,_,_,_,_,_) ((hE ⟨rfl,r,r,r,r,(AbB (q:=a.length) r (by simp)),r,r,trivial⟩ ⟨rfl,r,r,(Eq.trans (b:=dV _ 3 95 (.agg [Mk e.Params,Mk d.Size,.osl 23 _ 0 a.length])) r (by simp)),r,r,trivial⟩))
     ·refine AgF (λx=>?_) (λx=>?_)
      ·refine RN (q:=165) (l:=Zl) (en:=AgT) (j:=f.Op.toNat) (by simp) r r r (AgE (k:=19) x r) r (λ_=>r)<|?_
       refine Ab 3 λz bj=>?_
       refine A 2 ?_;refine bD λbk ag=>sE (l:=a) (en:=Oj) (q':=z) r r r r r r r (by simp) ag r r r r r<|?_
       refine A 7 ?_;exact xL (s:=(a.set c.toNat z,i64.wrap (c+1))) (_,_,_,_,_,_) ((hE ⟨rfl,r,r,r,r,(AbB (q:=a.length) r (by simp)),r,r,trivial⟩ ⟨rfl,r,r,(Eq.trans (b:=dV _ 3 95 (.agg [Mk e.Params,Mk d.Size,.osl 23 _ 0 a.length])) r (by simp)),r,r,trivial⟩))
      ·refine RN (q:=160) (l:=Zl) (en:=AgT) (j:=f.Op.toNat) (by simp) r r r (Avv [15,16,17,18,19] (by assumption) (by simp_all) (by decide)) r (λ_=>r)<|?_
       refine Ab 3 λaa bl=>?_
       refine A 2 ?_;refine bD λbm ah=>sE (l:=a) (en:=Oj) (q':=aa) r r r r r r r (by simp) ah r r r r r<|?_
       refine A 7 ?_;exact xL (s:=(a.set c.toNat aa,i64.wrap (c+1))) (_,_,_,_,_,_) ((hE ⟨rfl,r,r,r,r,(AbB (q:=a.length) r (by simp)),r,r,trivial⟩ ⟨rfl,r,r,(Eq.trans (b:=dV _ 3 95 (.agg [Mk e.Params,Mk d.Size,.osl 23 _ 0 a.length])) r (by simp)),r,r,trivial⟩))
 ·refine A 12 ?_;refine Tz (b:=(OD.mk e.Params d.Size a)) r ?_ r r ?_ (by first|rfl|(simp only[NN];rfl)|(simp only[NP];rfl)|(simp only[NN,NP];rfl)|(simp[ZX,OV];try rfl))
  all_goals first|(simp;done)|(simp;omega)|rfl|(simp[Pc,OT];done)|(simp[cells];done)

end Go.Proofs.YtmmchhpdaogopaaGreatDoor
