/-
 The code does what its typed programs say.
-/
import Derived.Test.YtcaoepecbgggcaaGreatDoorCl
import Derived.Test.YtcaoepecbgggcaaGreatDoorTrl
import Derived.Test.YtcaoepecbgggcaaGreatDoorDxF3
open List renaming replicate->aA
namespace Go.Proofs.YtcaoepecbgggcaaGreatDoor
open Go Go.Dw Go.Proofs
open Go.IntKind (i64)
set_option maxRecDepth 100000
set_option maxHeartbeats 40000000
open Go.Dw renaming QN -> bD,QW -> cK,Ya -> bS,Afx -> cV,WQ -> sE,Yz -> iO,Vs -> cD,YA -> xC,UF -> xL,Zf -> hE,XG -> lP,Vg -> sC,SG -> bC,AhY -> mF,rf -> r
theorem Adn:Ns Tryz.prog 174 (fS .ground Abv (λa=>Up a) NH):=by
 refine fn2 1 (nK 211 AfT<|Np) Tryz.func174<|?_;intro b;unfold Up;refine A 14 ?_;refine lP (E:=λ(s:Int) (_g:Unit)=>[(0,.sl (b.map (eL Lo))),(5,.sl (b.map (eL Lo))),oL 6 b,oI 7 s]) (O:=λ_ _=>[]) () hX<|?_
 rintro c ⟨⟩ nn;dsimp only[Adm];exact B

abbrev Ape:=en2 (eL (eL Lo)) (eL Lo)
abbrev Apd:=de2 (uL (uL uI)) (uL uI)
noncomputable def AgB:Dw.Spec:=NU [] .val Ape Apd (λa=>Wf a.1 a.2) AdO noE
theorem AjH:Ns Tryz.prog 111 AgB:=by
 refine fn2 2 (nK 174 Adn<|nK 110 Ahh<|nK 175 Ahf<|Np) Tryz.func111<|?_;rintro⟨a,b⟩;unfold Wf;refine A 6 ?_;refine sC (E:=λ(_s:Unit) (_g:Unit)=>[(0,.sl (a.map (eL Lo))),oM 1 b Lo]) (O:=λ_ _=>[]) (j:=λ_=>AeP b a) ?_ ?_
 ·exact B
 ·rintro⟨⟩ ⟨⟩ nn;dsimp only[AeP];refine A 9 ?_;refine lP (E:=λ(s:Int) (_g:Unit)=>[(0,.sl (a.map (eL Lo))),oM 1 b Lo,oM 24 b Lo,oL 25 b,oI 26 s]) (O:=λ_ _=>[]) () hX<|?_
  rintro h ⟨⟩ nn;dsimp only[AjF];refine Ac 6 ?_ ?_
  ·exact B
  ·refine Ab 9 λk m=>?_
   refine Ac 14 ?_ ?_
   ·exact B
   ·refine A 26 ?_;refine lP (E:=λ(s:(List (List Int))×(List Int)×(List Bool)×(List Int)×Int) (g:Nat)=>[(10,.optr 4150 g 0 0),oL 56 a,oI 57 s.2.2.2.2]) (O:=λs g=>[(4150,dV g 4 194 (.agg [.sl (s.1.map (eL Lo)),.sl (s.2.1.map Lo),.row 1 4 (s.2.2.1.map D.bool),.row 1 3 (s.2.2.2.1.map Lo)]))]) _ (((AsN (g:=54) (g2:=4150) (es':=[.agg [.sl (a.map (eL Lo)),.sl (b.map Lo),.osl 49 _ 0 ((aA (a.length:Int).toNat false).length),.osl 52 _ 0 ((aA (a.length:Int).toNat (0:Int)).length)]]) r r r (Axh (by repeat' first|exact AeG.nil|apply AeG.same rfl|apply AeG.row (by decide))) (Abf (g:=4150) (i:=0) (off:=2) (g':=49) (l:=aA (a.length:Int).toNat false) (en:=D.bool) r r r (.inr ⟨rfl,r⟩) r r (λ_=>r) r (Abf (g:=4150) (i:=0) (off:=3) (g':=52) (l:=aA (a.length:Int).toNat (0:Int)) (en:=Lo) r r r (.inr ⟨rfl,r⟩) r r (λ_=>r) r hX)))))<|?_
    rintro⟨d,e,f,c,o⟩ p nn;dsimp only[AjG];refine Ac 6 ?_ ?_
    ·exact B
    ·refine A 6 ?_;refine Aez (E:=[(10,.optr 4150 _ 0 0)]) (O:=[(4150,dV _ 4 194 (.agg [.sl (d.map (eL Lo)),.sl (e.map Lo),.row 1 4 (f.map D.bool),.osl 4697 _ 0 c.length])),(4697,dW _ 1 3 (c.map Lo))]) ((Aht (g:=4150) (off:=3) 601 (c) Lo r r r hX)) λnn=>?_
     exact B

def Xa (b:Int×Int×Bool):D:=.tup [Nn b.1,Nn b.2.1,.bool b.2.2]
theorem Akm:Ns Tryz.prog 154 (fS .ground PW (λa=>YL a.1 a.2) Xa):=by
 refine fn2 2 (nK 153 Aci<|nK 214 Alq<|nK 3624939733 Zj<|Np) Tryz.func154<|?_;rintro⟨b,c⟩;unfold YL;refine A 8 ?_;refine Qc (E:=[oP 2 _,(3,.fptr (.agg [.sl (c.Out.map (eL Lo))]) 0)]) (O:=[(2,dV _ 3 36 (Nz b))]) ((hV 3 r (hY))) λnn=>?_
 refine Ab 5 λh i=>?_
 refine Ac 4 ?_ ?_
 ·exact B
 ·refine A 12 ?_;refine lP (E:=λ(s:Int) (g:Nat)=>[oP 2 g,(3,.fptr (.agg [.sl (c.Out.map (eL Lo))]) 0),oL 15 b.Code,oI 16 s]) (O:=λ_ g=>[(2,dV g 3 36 (Nz b))]) _ hX<|?_
  rintro d j nn;dsimp only[AdD];refine Ac 6 ?_ ?_
  ·refine A 10 ?_;refine Qc (E:=[oP 2 _,(3,.fptr (.agg [.sl (c.Out.map (eL Lo))]) 0),(7,.fptr (Nn d) 0),oL 15 b.Code,oI 16 d]) (O:=[(2,dV _ 3 36 (Nz b))]) ((hV 7 r (hY))) λnn=>?_
   refine Ab 10 λe k=>?_
   refine A 1 ?_;refine mF (caps:=[.optr 8 _ 0 0,.fptr (.agg [.sl (c.Out.map (eL Lo))]) 0,.fptr (Nn d) 0]) r r (by simp[SE])<|bD λl f=>cV (b,d,e,[],c,d) rfl rfl (show _=some Uu from by kernel_rfl) OZ.ok rfl rfl (by simp) (by first|rfl|(simp only[Nv];rfl)|(simp only[Ny];rfl)|(simp only[Nv,Ny];rfl)|simp[Ql,Nz,Rv,Rv]) f<|?_
   exact B
  ·exact B

theorem Anu:Ns Tryz.prog 95 (fS (.row 1 3) Tl (λa=>Zr a.1 a.2) Ow):=by
 refine fn2 2 (nK 100 Agt<|nK 158 Ahr<|nK 159 UN<|nK 160 AjE<|Np) Tryz.func95<|?_;rintro⟨c,d⟩;unfold Zr;refine Ab 19 λb e=>?_
 refine A 6 ?_;refine lP (E:=λ(s:(List Int)×Int) (g:Nat×Nat)=>[oT 5 g.1 s.1,oT 14 g.2 b,oL 15 b,oI 16 s.2]) (O:=λs g=>[(5,dW g.1 1 3 (s.1.map Lo)),(14,dW g.2 5 90 (b.map NG))]) (_,_) hX<|?_
 rintro⟨f,h⟩ ⟨i,j⟩ nn;dsimp only[Agr];exact B

def Ww (b:Nm×Int):D:=.tup [Nz b.1,Nn b.2]
theorem AmE:Ns Tryz.prog 41 (fS .val Tl (λa=>Yr a.1 a.2) Ww):=by
 refine fn2 2 (nK 93 AaW<|nK 95 Anu<|nK 96 Ajh<|nK 97 AtG<|nK 98 AfO<|nK 99 AlD<|nK 100 Agt<|Np) Tryz.func41<|?_;rintro⟨d,f⟩;unfold Yr;refine Ab 13 λx ad=>?_
 refine Ac 10 ?_ ?_
 ·refine A 10 ?_;refine Po (b:=((Nm.mk 0 ([]) ([])),x)) r ?_ r r ?_ (by first|rfl|(simp only[Nv];rfl)|(simp only[Ny];rfl)|(simp only[Nv,Ny];rfl)|(simp[Ww,Nz];try rfl)) (by decide)
  all_goals first|(simp;done)|(simp;omega)|rfl|(simp[OQ,OJ];done)|(simp[cells];done)
 ·refine Ab 15 λc ae=>?_
  refine A 13 ?_;refine lP (E:=λ(s:(List NA)×Int) (g:Nat×Nat×Nat×Nat×Nat×Nat×Nat)=>[oP 2 g.1,oP 3 g.2.1,oP 4 g.2.2.1,oP 7 g.2.2.2.1,oT 8 g.2.2.2.2.1 c,oS 33 8 g.2.2.2.2.1 c,oL 34 c,oI 35 s.2]) (O:=λs g=>[(2,dV g.1 3 36 (Nz d)),(3,dV g.2.1 2 48 (.agg [.sl (f.To.map Lo),.sl (f.Keep.map D.bool)])),(4,dV g.2.2.1 3 36 (.agg [Nn 0,.nils,.nils])),(7,dV g.2.2.2.1 3 36 (.agg [Nn d.Params,.osl 900 g.2.2.2.2.2.1 0 s.1.length,.osl 901 g.2.2.2.2.2.2 0 (([]:List Av).length)])),(8,dW g.2.2.2.2.1 1 3 (c.map Lo)),(900,dW g.2.2.2.2.2.1 2 87 (s.1.map Oo)),(901,dW g.2.2.2.2.2.2 5 90 (([]:List Av).map NG))]) (_,_,_,_,_,_,_) ((Zg (gg:=7) (off:=1) (tt:=900) (s:=2) (tyy:=87) r r r r (Zg (gg:=7) (off:=2) (tt:=901) (s:=5) (tyy:=90) r r r r hX)))<|?_
  rintro⟨e,p⟩ ⟨af,ag,ah,ai,aj,ak,ao⟩ nn;dsimp only[Afo];refine Ac 6 ?_ ?_
  ·refine Ab 7 λap aq=>?_
   refine Ab 9 λk ar=>?_
   refine Ab 12 λq au=>?_
   refine A 6 ?_;refine lP (E:=λ(s:Int×Int) (g:Nat×Nat×Nat×Nat×Nat×Nat×Nat×Nat×Nat)=>[oP 2 g.1,oP 3 g.2.1,oP 4 g.2.2.1,oP 7 g.2.2.2.1,oT 8 g.2.2.2.2.1 c,oP 11 g.2.2.2.2.2.1,oS 33 8 g.2.2.2.2.1 c,oL 34 c,oI 35 p,oT 47 g.2.2.2.2.2.2.1 q,oL 48 q,oI 49 s.2]) (O:=λs g=>[(2,dV g.1 3 36 (Nz d)),(3,dV g.2.1 2 48 (.agg [.sl (f.To.map Lo),.sl (f.Keep.map D.bool)])),(4,dV g.2.2.1 3 36 (.agg [Nn 0,.nils,.nils])),(7,dV g.2.2.2.1 3 36 (.agg [Nn d.Params,.osl 900 g.2.2.2.2.2.2.2.1 0 e.length,.osl 901 g.2.2.2.2.2.2.2.2 0 (([]:List Av).length)])),(8,dW g.2.2.2.2.1 1 3 (c.map Lo)),(11,dV g.2.2.2.2.2.1 2 87 (.agg [Nn k.Size,Nn s.1])),(47,dW g.2.2.2.2.2.2.1 1 3 (q.map Lo)),(900,dW g.2.2.2.2.2.2.2.1 2 87 (e.map Oo)),(901,dW g.2.2.2.2.2.2.2.2 5 90 (([]:List Av).map NG))]) (_,_,_,_,_,_,_,_,_) hX<|?_
   rintro⟨m,av⟩ ⟨aw,ax,ay,az,ba,bb,bc,bd,bf⟩ nn;dsimp only[Afp];refine Ac 6 ?_ ?_
   ·exact B
   ·refine A 9 ?_;refine bS ([(NA.mk k.Size m)]:List NA) Oo r r r (by simp) r r r<|?_
    refine A 10 ?_;exact xL (s:=(e++([(NA.mk k.Size m)]:List NA),i64.wrap (p+1))) (_,_,_,_,_,_,_) ((WJ (E1:=[oP 2 _,oP 3 _,oP 4 _,oP 7 _,oT 8 _ c,oS 33 8 _ c,oL 34 c,(35,Nn (i64.wrap (p+1)))]) (O1:=[(2,dV _ 3 36 (Nz d)),(3,dV _ 2 48 (.agg [.sl (f.To.map Lo),.sl (f.Keep.map D.bool)])),(4,dV _ 3 36 (.agg [Nn 0,.nils,.nils])),(7,dV _ 3 36 (.agg [Nn d.Params,.osl 68 _ 0 ((e++([(NA.mk k.Size m)]:List NA)).length),.osl 901 _ 0 (([]:List Av).length)])),(8,dW _ 1 3 (c.map Lo)),(68,dW _ 2 87 ((e++([(NA.mk k.Size m)]:List NA)).map Oo)),(901,dW _ 5 90 (([]:List Av).map NG))]) hX (λ_=>PK (λg=>bif Nat.beq g 68 then 900 else g) (by kernel_rfl) hX)))
  ·refine Ab 9 λz bg=>?_
   refine A 13 ?_;refine lP (E:=λ(s:(List Int)×Int) (g:Nat×Nat×Nat×Nat×Nat×Nat×Nat×Nat)=>[oP 2 g.1,oP 3 g.2.1,oP 4 g.2.2.1,oP 7 g.2.2.2.1,oT 8 g.2.2.2.2.1 c,oT 14 g.2.2.2.2.2.1 s.1,oS 74 14 g.2.2.2.2.2.1 s.1,oL 75 z,oI 76 s.2]) (O:=λs g=>[(2,dV g.1 3 36 (Nz d)),(3,dV g.2.1 2 48 (.agg [.sl (f.To.map Lo),.sl (f.Keep.map D.bool)])),(4,dV g.2.2.1 3 36 (.agg [Nn 0,.nils,.nils])),(7,dV g.2.2.2.1 3 36 (.agg [Nn d.Params,.osl 900 g.2.2.2.2.2.2.1 0 e.length,.osl 901 g.2.2.2.2.2.2.2 0 (([]:List Av).length)])),(8,dW g.2.2.2.2.1 1 3 (c.map Lo)),(14,dW g.2.2.2.2.2.1 1 3 (s.1.map Lo)),(900,dW g.2.2.2.2.2.2.1 2 87 (e.map Oo)),(901,dW g.2.2.2.2.2.2.2 5 90 (([]:List Av).map NG))]) (_,_,_,_,_,_,_,_) hX<|?_
   rintro⟨bh,bi⟩ ⟨bj,bk,bl,bm,bn,bo,bp,bq⟩ nn;dsimp only[Afq];refine Ac 6 ?_ ?_
   ·exact B
   ·refine Ab 8 λt br=>?_
    refine Ab 9 λaa bs=>?_
    refine A 15 ?_;refine lP (E:=λ(s:(List Av)×Int) (g:Nat×Nat×Nat×Nat×Nat)=>[oP 4 g.1,oP 7 g.2.1,oT 17 g.2.2.1 t,oL 97 aa,oI 98 s.2]) (O:=λs g=>[(4,dV g.1 3 36 (.agg [Nn 0,.nils,.nils])),(7,dV g.2.1 3 36 (.agg [Nn d.Params,.osl 900 g.2.2.2.2 0 e.length,.osl 93 g.2.2.2.1 0 s.1.length])),(17,dW g.2.2.1 1 3 (t.map Lo)),(93,dW g.2.2.2.1 5 90 (s.1.map NG)),(900,dW g.2.2.2.2 2 87 (e.map Oo))]) (_,_,_,_,_) hX<|?_
    rintro⟨j,o⟩ ⟨bt,bu,bv,bw,bx⟩ nn;dsimp only[AaU];refine Ac 6 ?_ ?_
    ·refine Ab 24 λbz ca=>?_
     refine Ac 10 ?_ ?_
     ·refine Ab 6 λcb cc=>?_
      refine Ab 2 λu cd=>?_
      refine A 3 ?_;refine bD λh ab=>sE (l:=j) (en:=NG) (q':=(Av.mk h.Op u h.B h.C h.Imm)) r r r r r r r (by simp) ab r r r r r<|?_
      refine A 8 ?_;exact xL (s:=(j.set o.toNat (Av.mk h.Op u h.B h.C h.Imm),i64.wrap (o+1))) (_,_,_,_,_) ((hE ⟨rfl,r,r,r,r,trivial⟩ ⟨rfl,(Eq.trans (b:=dV _ 3 36 (.agg [Nn d.Params,.osl 900 _ 0 e.length,.osl 93 _ 0 j.length])) r (by simp)),r,r,r,trivial⟩))
     ·refine Ac 6 ?_ ?_
      ·refine Ab 6 λce cf=>?_
       refine Ab 2 λv ch=>?_
       refine A 3 ?_;refine bD λi ac=>sE (l:=j) (en:=NG) (q':=(Av.mk i.Op i.A v i.C i.Imm)) r r r r r r r (by simp) ac r r r r r<|?_
       refine A 8 ?_;exact xL (s:=(j.set o.toNat (Av.mk i.Op i.A v i.C i.Imm),i64.wrap (o+1))) (_,_,_,_,_) ((hE ⟨rfl,r,r,r,r,trivial⟩ ⟨rfl,(Eq.trans (b:=dV _ 3 36 (.agg [Nn d.Params,.osl 900 _ 0 e.length,.osl 93 _ 0 j.length])) r (by simp)),r,r,r,trivial⟩))
      ·exact B
    ·refine A 13 ?_;refine Po (b:=((Nm.mk d.Params e j),0)) r ?_ r r ?_ (by first|rfl|(simp only[Nv];rfl)|(simp only[Ny];rfl)|(simp only[Nv,Ny];rfl)|(simp[Ww,Nz];try rfl)) (by decide)
     all_goals first|(simp;done)|(simp;omega)|rfl|(simp[OQ,OJ];done)|(simp[cells];done)

abbrev Ang:=en3 Pz Lo Py
abbrev Anf:=de3 Rp uI AcQ
def AiO (b:OA):D:=OI b
noncomputable def AiP:Dw.Spec:=NU [] .val Ang Anf (λa=>WL a.1 a.2.1 a.2.2) AiO noE
theorem AnT:Ns Tryz.prog 112 AiP:=by
 refine fn2 3 (nK 176 AtI<|nK 177 Ahv<|nK 236 AfJ<|nK 237 AfK<|nK 238 AfL<|nK 239 AfM<|nK 240 AfN<|nK 235 Apg<|Np) Tryz.func112<|?_;rintro⟨p1,i2,d⟩;unfold WL;refine Ab 12 λe ak=>?_
 refine Ab 14 λr5 ao=>?_
 refine Ab 8 λr6 aq=>?_
 refine A 15 ?_;refine lP (E:=λ(s:(List Av)×Int) (g:Nat×Nat×Nat×Nat×Nat×Nat)=>[oP 5 g.1,oP 6 g.2.1,oP 7 g.2.2.1,oP 8 g.2.2.2.1,oP 9 g.2.2.2.2.1,oS 27 23 g.2.2.2.2.2 s.1,oL 28 r5,oI 29 s.2]) (O:=λs g=>[(5,dV g.1 3 39 (Py d)),(6,dV g.2.1 3 75 (.agg [Nn 0,Nn 0,.nils])),(7,dV g.2.2.1 3 36 (Nz e)),(8,dV g.2.2.2.1 3 75 (.agg [Nn e.Params,Nn d.Size,.osl 23 g.2.2.2.2.2 0 s.1.length])),(9,dV g.2.2.2.2.1 25 196 (.agg (ZY.map Ail))),(23,dW g.2.2.2.2.2 5 90 (s.1.map NG))]) (_,_,_,_,_,_) hX<|?_
 rintro⟨a,c⟩ ⟨ar,au,av,aw,ax,ay⟩ nn;dsimp only[Xu];refine Ac 6 ?_ ?_
 ·refine A 7 ?_;refine cK λhq=>iO (l:=a) (en:=NG) r r r r r hq<|bD λf az=>?_
  refine A 12 ?_;refine cK λhq=>QA r r r hq<|AhX (λh=>?_) (λh=>?_)
  ·refine Qs (q:=236) (l:=ZY) (en:=Ail) (j:=f.Op.toNat) (by simp) r r r (AhW (k:=15) h r) r (λ_=>r)<|?_
   refine Ab 3 λi ba=>?_
   refine A 2 ?_;refine bD λbb ac=>sE (l:=a) (en:=NG) (q':=i) r r r r r r r (by simp) ac r r r r r<|?_
   refine A 7 ?_;exact xL (s:=(a.set c.toNat i,i64.wrap (c+1))) (_,_,_,_,_,_) ((hE ⟨rfl,r,r,r,r,(Acy (q:=a.length) r (by simp)),r,r,trivial⟩ ⟨rfl,r,r,(Eq.trans (b:=dV _ 3 75 (.agg [Nn e.Params,Nn d.Size,.osl 23 _ 0 a.length])) r (by simp)),r,r,trivial⟩))
  ·refine AhX (λm=>?_) (λm=>?_)
   ·refine Qs (q:=237) (l:=ZY) (en:=Ail) (j:=f.Op.toNat) (by simp) r r r (AhW (k:=16) m r) r (λ_=>r)<|?_
    refine Ab 3 λo bc=>?_
    refine A 2 ?_;refine bD λbd ad=>sE (l:=a) (en:=NG) (q':=o) r r r r r r r (by simp) ad r r r r r<|?_
    refine A 7 ?_;exact xL (s:=(a.set c.toNat o,i64.wrap (c+1))) (_,_,_,_,_,_) ((hE ⟨rfl,r,r,r,r,(Acy (q:=a.length) r (by simp)),r,r,trivial⟩ ⟨rfl,r,r,(Eq.trans (b:=dV _ 3 75 (.agg [Nn e.Params,Nn d.Size,.osl 23 _ 0 a.length])) r (by simp)),r,r,trivial⟩))
   ·refine AhX (λp=>?_) (λp=>?_)
    ·refine Qs (q:=238) (l:=ZY) (en:=Ail) (j:=f.Op.toNat) (by simp) r r r (AhW (k:=17) p r) r (λ_=>r)<|?_
     refine Ab 3 λt bf=>?_
     refine A 2 ?_;refine bD λbg ae=>sE (l:=a) (en:=NG) (q':=t) r r r r r r r (by simp) ae r r r r r<|?_
     refine A 7 ?_;exact xL (s:=(a.set c.toNat t,i64.wrap (c+1))) (_,_,_,_,_,_) ((hE ⟨rfl,r,r,r,r,(Acy (q:=a.length) r (by simp)),r,r,trivial⟩ ⟨rfl,r,r,(Eq.trans (b:=dV _ 3 75 (.agg [Nn e.Params,Nn d.Size,.osl 23 _ 0 a.length])) r (by simp)),r,r,trivial⟩))
    ·refine AhX (λu=>?_) (λu=>?_)
     ·refine Qs (q:=239) (l:=ZY) (en:=Ail) (j:=f.Op.toNat) (by simp) r r r (AhW (k:=18) u r) r (λ_=>r)<|?_
      refine Ab 3 λv bh=>?_
      refine A 2 ?_;refine bD λbi af=>sE (l:=a) (en:=NG) (q':=v) r r r r r r r (by simp) af r r r r r<|?_
      refine A 7 ?_;exact xL (s:=(a.set c.toNat v,i64.wrap (c+1))) (_,_,_,_,_,_) ((hE ⟨rfl,r,r,r,r,(Acy (q:=a.length) r (by simp)),r,r,trivial⟩ ⟨rfl,r,r,(Eq.trans (b:=dV _ 3 75 (.agg [Nn e.Params,Nn d.Size,.osl 23 _ 0 a.length])) r (by simp)),r,r,trivial⟩))
     ·refine AhX (λx=>?_) (λx=>?_)
      ·refine Qs (q:=240) (l:=ZY) (en:=Ail) (j:=f.Op.toNat) (by simp) r r r (AhW (k:=19) x r) r (λ_=>r)<|?_
       refine Ab 3 λz bj=>?_
       refine A 2 ?_;refine bD λbk ag=>sE (l:=a) (en:=NG) (q':=z) r r r r r r r (by simp) ag r r r r r<|?_
       refine A 7 ?_;exact xL (s:=(a.set c.toNat z,i64.wrap (c+1))) (_,_,_,_,_,_) ((hE ⟨rfl,r,r,r,r,(Acy (q:=a.length) r (by simp)),r,r,trivial⟩ ⟨rfl,r,r,(Eq.trans (b:=dV _ 3 75 (.agg [Nn e.Params,Nn d.Size,.osl 23 _ 0 a.length])) r (by simp)),r,r,trivial⟩))
      ·refine Qs (q:=235) (l:=ZY) (en:=Ail) (j:=f.Op.toNat) (by simp) r r r (AxN [15,16,17,18,19] (by assumption) (by simp_all) (by decide)) r (λ_=>r)<|?_
       refine Ab 3 λaa bl=>?_
       refine A 2 ?_;refine bD λbm ah=>sE (l:=a) (en:=NG) (q':=aa) r r r r r r r (by simp) ah r r r r r<|?_
       refine A 7 ?_;exact xL (s:=(a.set c.toNat aa,i64.wrap (c+1))) (_,_,_,_,_,_) ((hE ⟨rfl,r,r,r,r,(Acy (q:=a.length) r (by simp)),r,r,trivial⟩ ⟨rfl,r,r,(Eq.trans (b:=dV _ 3 75 (.agg [Nn e.Params,Nn d.Size,.osl 23 _ 0 a.length])) r (by simp)),r,r,trivial⟩))
 ·refine A 12 ?_;refine TN (b:=(OA.mk e.Params d.Size a)) r ?_ r r ?_ (by first|rfl|(simp only[Nv];rfl)|(simp only[Ny];rfl)|(simp only[Nv,Ny];rfl)|(simp[AiO,OI];try rfl))
  all_goals first|(simp;done)|(simp;omega)|rfl|(simp[OQ,OJ];done)|(simp[cells];done)

abbrev VO:=en3 (eL (eL Lo)) (eL Lo) (eL Lo)
abbrev AfA:=de3 (uL (uL uI)) (uL uI) (uL uI)
theorem Aan:Ns Tryz.prog 178 (fS .ground VO (λa=>Sa a.1 a.2.1 a.2.2) NH):=by
 refine fn2 3 (nK 174 Adn<|nK 241 Abu<|Np) Tryz.func178<|?_;rintro⟨c,b,d⟩;unfold Sa;refine A 5 ?_;refine sC (E:=λ(_s:Unit) (_g:Unit)=>[oM 1 b Lo]) (O:=λ_ _=>[]) (j:=λ_=>Se b) ?_ ?_
 ·exact B
 ·rintro⟨⟩ ⟨⟩ nn;dsimp only[Se];refine A 9 ?_;refine lP (E:=λ(s:Int) (_g:Unit)=>[oM 26 b Lo,oL 27 b,oI 28 s]) (O:=λ_ _=>[]) () hX<|?_
  rintro e ⟨⟩ nn;dsimp only[WE];exact B

abbrev Amf:=en1 (eL NG)
abbrev AvE:=de1 (uL RR)
theorem AmW:Ns Tryz.prog 85 (fS (.row 5 90) Amf (λa=>AbA a) AhU):=by
 refine fn2 1 (Np) Tryz.func85<|?_;intro j;unfold AbA;refine A 19 ?_;refine lP (E:=λ(s:(List Av)×Int) (g:Nat)=>[oT 3 g s.1,oI 4 s.2]) (O:=λs g=>[(3,dW g 5 90 (s.1.map NG))]) _ hX<|?_
 rintro⟨d,k3⟩ k nn;dsimp only[AfX];refine Ac 9 ?_ ?_
 ·refine Ab 10 λm o=>?_
  refine Ac 10 ?_ ?_
  ·refine Ab 5 λe p=>?_
   refine A 4 ?_;refine bD λb f=>sE (l:=d) (en:=NG) (q':=(Av.mk b.Op (i64.wrap (e.A+1)) b.B b.C b.Imm)) r r r r r r r (by simp) f r r r r r<|?_
   exact B
  ·refine Ac 6 ?_ ?_
   ·refine Ab 5 λh q=>?_
    refine A 4 ?_;refine bD λc i=>sE (l:=d) (en:=NG) (q':=(Av.mk c.Op c.A (i64.wrap (h.B+1)) c.C c.Imm)) r r r r r r r (by simp) i r r r r r<|?_
    exact B
   ·exact B
 ·exact B

def Afg (b:NS):D:=Rv b
theorem Apq:Ns Tryz.prog 195 (fS .val PW (λa=>AbM a.1 a.2) Afg):=by
 refine fn2 2 (nK 248 AiT<|nK 249 AlP<|nK 124 XA<|Np) Tryz.func195<|?_;rintro⟨c,d⟩;unfold AbM;refine A 12 ?_;refine cK λhq=>Ade (α:=Int) r r r hq r<|?_
 refine A 4 ?_;refine Qc (E:=[oP 2 _,oP 3 _,oP 4 _,oP 5 _]) (O:=[(2,dV _ 3 36 (Nz c)),(3,dV _ 1 45 (.agg [.sl (d.Out.map (eL Lo))])),(4,dV _ 1 45 (.agg [.nils])),(5,dV _ 1 45 (.agg [.osl 13 _ 0 ((aA (c.Code.length:Int).toNat ([]:(List Int))).length)])),(13,dW _ 1 37 ((aA (c.Code.length:Int).toNat ([]:(List Int))).map (eL Lo)))]) ((Age (g:=13) r (AiA (l:=aA (c.Code.length:Int).toNat ([]:(List Int))) Lo (λ_ h=>List.eq_of_mem_replicate h)) hX)) λnn=>?_
 refine A 7 ?_;refine lP (E:=λ(s:(List (List Int))×Int) (g:Nat×Nat×Nat×Nat×Nat)=>[oP 2 g.1,oP 3 g.2.1,oP 4 g.2.2.1,oP 5 g.2.2.2.1,oI 6 s.2]) (O:=λs g=>[(2,dV g.1 3 36 (Nz c)),(3,dV g.2.1 1 45 (.agg [.sl (d.Out.map (eL Lo))])),(4,dV g.2.2.1 1 45 (.agg [.nils])),(5,dV g.2.2.2.1 1 45 (.agg [.osl 13 g.2.2.2.2 0 s.1.length])),(13,dW g.2.2.2.2 1 37 (s.1.map (eL Lo)))]) (_,_,_,_,_) hX<|?_
 rintro⟨k,k4⟩ ⟨p,q,t,u,v⟩ nn;dsimp only[Yl];refine Ac 10 ?_ ?_
 ·refine A 2 ?_;refine bC (E:=λ(_s:(List (List Int))) (g:Nat×Nat×Nat×Nat×Nat)=>[oP 2 g.1,oP 3 g.2.1,oP 4 g.2.2.1,oP 5 g.2.2.2.1,oI 6 k4]) (O:=λs g=>[(2,dV g.1 3 36 (Nz c)),(3,dV g.2.1 1 45 (.agg [.sl (d.Out.map (eL Lo))])),(4,dV g.2.2.1 1 45 (.agg [.nils])),(5,dV g.2.2.2.1 1 45 (.agg [.osl 13 g.2.2.2.2 0 s.length])),(13,dW g.2.2.2.2 1 37 (s.map (eL Lo)))]) (j:=λs=>AaH k4 s) ?_ ?_
  ·refine Ab 4 λf x=>?_
   refine A 10 ?_;refine lP (E:=λ(s:(List (List Int))×Int) (g:Nat×Nat×Nat×Nat×Nat×Nat)=>[oP 2 g.1,oP 3 g.2.1,oP 4 g.2.2.1,oP 5 g.2.2.2.1,oI 6 k4,oT 7 g.2.2.2.2.1 f,oI 8 s.2]) (O:=λs g=>[(2,dV g.1 3 36 (Nz c)),(3,dV g.2.1 1 45 (.agg [.sl (d.Out.map (eL Lo))])),(4,dV g.2.2.1 1 45 (.agg [.nils])),(5,dV g.2.2.2.1 1 45 (.agg [.osl 13 g.2.2.2.2.2 0 s.1.length])),(7,dW g.2.2.2.2.1 1 3 (f.map Lo)),(13,dW g.2.2.2.2.2 1 37 (s.1.map (eL Lo)))]) (_,_,_,_,_,_) hX<|?_
   rintro⟨e,m⟩ ⟨z,aa,ab,ac,ad,ae⟩ nn;dsimp only[Ym];refine Ac 9 ?_ ?_
   ·refine Ab 9 λaf ag=>?_
    refine Ab 12 λah ai=>?_
    refine Ab 4 λaj ak=>?_
    refine Ab 5 λao ap=>?_
    refine Ab 2 λaq ar=>?_
    refine Ab 1 λi au=>?_
    refine A 2 ?_;refine bD λav o=>sE (l:=e) (en:=(eL Lo)) (q':=i) r r r r r r r (by simp) o r r r (by simp[Ps,cells,eL]) r<|?_
    refine A 8 ?_;exact xL (s:=(e.set k4.toNat i,i64.wrap (m+1))) (_,_,_,_,_,_) ((hE ⟨rfl,r,r,r,r,r,r,trivial⟩ ⟨rfl,r,r,(Eq.trans (b:=dV _ 1 45 (.agg [.osl 13 _ 0 e.length])) r (by simp)),r,r,trivial⟩))
   ·exact B
  ·rintro x5 ⟨ax,ay,az,ba,bb⟩ nn;dsimp only[AaH];exact B
 ·refine A 12 ?_;refine TN (b:=(NS.mk k)) r ?_ r r ?_ (by first|rfl|(simp only[Nv];rfl)|(simp only[Ny];rfl)|(simp only[Nv,Ny];rfl)|(simp[Afg,Rv];try rfl))
  all_goals first|(simp;done)|(simp;omega)|rfl|(simp[OQ,OJ];done)|(simp[cells];done)

theorem AhH:Ns Tryz.prog 165 (fS .ground PW (λa=>Aav a.1 a.2) NH):=by
 refine fn2 2 (nK 226 AhC<|Np) Tryz.func165<|?_;rintro⟨b,c⟩;unfold Aav;refine Ac 19 ?_ ?_
 ·exact B
 ·refine A 9 ?_;refine lP (E:=λ(s:Int) (g:Nat×Nat)=>[oP 2 g.1,oP 3 g.2,oI 5 s]) (O:=λ_ g=>[(2,dV g.1 3 36 (Nz b)),(3,dV g.2 1 45 (.agg [.sl (c.Out.map (eL Lo))]))]) (_,_) hX<|?_
  rintro k3 ⟨d,e⟩ nn;dsimp only[AhG];refine Ac 10 ?_ ?_
  ·refine Ab 10 λf h=>?_
   refine Ab 2 λi j=>?_
   refine Ac 4 ?_ ?_
   ·exact B
   ·refine Ab 7 λk l=>?_
    refine A 11 ?_;refine RL r ?_ ?_
    ·refine Ab 3 λm o=>?_
     refine Ab 4 λp q=>?_
     refine Ac 9 ?_ ?_
     ·exact B
     ·refine A 8 ?_;exact xL (s:=i64.wrap (k3+1)) (_,_) hX
    ·refine A 25 ?_;exact xL (s:=i64.wrap (k3+1)) (_,_) hX
  ·exact B

abbrev Aek:=en3 Nz Rv Lo
abbrev Ave:=de3 Re Vh uI
theorem Amx:Ns Tryz.prog 225 (fS (.row 1 3) Aek (λa=>Yn a.1 a.2.1 a.2.2) Ow):=by
 refine fn2 3 (nK 248 AiT<|nK 249 AlP<|nK 183 Aoc<|nK 124 XA<|Np) Tryz.func225<|?_;rintro⟨c,d,k3⟩;unfold Yn;refine Ab 16 λb e=>?_
 refine A 11 ?_;refine lP (E:=λ(s:(List Int)×Int) (g:Nat×Nat×Nat×Nat)=>[oI 2 k3,oP 3 g.1,oP 4 g.2.1,oT 7 g.2.2.1 s.1,oT 8 g.2.2.2 b,oI 9 s.2]) (O:=λs g=>[(3,dV g.1 3 36 (Nz c)),(4,dV g.2.1 1 45 (.agg [.sl (d.Out.map (eL Lo))])),(7,dW g.2.2.1 1 3 (s.1.map Lo)),(8,dW g.2.2.2 1 3 (b.map Lo))]) (_,_,_,_) hX<|?_
 rintro⟨f,h⟩ ⟨i,j,k,l⟩ nn;dsimp only[VC];exact B

theorem Apt:Ns Tryz.prog 200 (fS .ground Aek (λa=>AbO a.1 a.2.1 a.2.2) NH):=by
 refine fn2 3 (nK 143 XW<|nK 116 Xx<|Np) Tryz.func200<|?_;intro a;unfold AbO;exact B

abbrev Aom:=en3 Nz Rv (eL Lo)
abbrev AxF:=de3 Re Vh (uL uI)
def AqI (b:(List Bool)):D:=.sl (b.map D.bool)
theorem Aps:Ns Tryz.prog 136 (fS (.row 1 4) Aom (λa=>AbN a.1 a.2.1 a.2.2) AqI):=by
 refine fn2 3 (nK 200 Apt<|Np) Tryz.func136<|?_;rintro⟨b,c,d⟩;unfold AbN;refine A 19 ?_;refine lP (E:=λ(s:(List Bool)×Int) (g:Nat×Nat×Nat)=>[oM 2 d Lo,oP 3 g.1,oP 4 g.2.1,oT 7 g.2.2 s.1,oI 8 s.2]) (O:=λs g=>[(3,dV g.1 3 36 (Nz b)),(4,dV g.2.1 1 45 (.agg [.sl (c.Out.map (eL Lo))])),(7,dW g.2.2 1 4 (s.1.map D.bool))]) (_,_,_) hX<|?_
 rintro⟨e,k5⟩ ⟨f,h,i⟩ nn;dsimp only[AiV];exact B

abbrev AmB:=en3 (eL Oo) (eL (eL Lo)) Lo
abbrev Awm:=de3 (uL Yb) (uL (uL uI)) uI
theorem Anr:Ns Tryz.prog 138 (fS .val AmB (λa=>AbQ a.1 a.2.1 a.2.2) AdO):=by
 refine fn2 3 (nK 121 AcD<|nK 201 Aoh<|nK 130 ZE<|nK 202 Aoo<|nK 116 Xx<|nK 203 AqH<|Np) Tryz.func138<|?_;rintro⟨c,d,e⟩;unfold AbQ;refine Ab 10 λq t=>?_
 refine Ac 10 ?_ ?_
 ·exact B
 ·refine A 2 ?_;refine sC (E:=λ(_s:Unit) (_g:Unit)=>[oM 0 c Oo,(1,.sl (d.map (eL Lo))),oI 2 e]) (O:=λ_ _=>[]) (j:=λ_=>AbR c d e) ?_ ?_
  ·exact B
  ·rintro⟨⟩ ⟨⟩ nn;dsimp only[AbR];refine Ab 15 λb u=>?_
   refine A 11 ?_;refine lP (E:=λ(s:(List Bool)×(List Int)×Int) (g:Nat×Nat×Nat)=>[oM 0 c Oo,(1,.sl (d.map (eL Lo))),oI 2 e,oT 9 g.1 s.2.1,oT 10 g.2.1 s.1,oT 11 g.2.2 b,oI 12 s.2.2]) (O:=λs g=>[(9,dW g.1 1 3 (s.2.1.map Lo)),(10,dW g.2.1 1 4 (s.1.map D.bool)),(11,dW g.2.2 1 3 (b.map Lo))]) (_,_,_) hX<|?_
   rintro⟨h,f,i⟩ ⟨v,x,z⟩ nn;dsimp only[Agn];refine Ac 9 ?_ ?_
   ·refine A 2 ?_;refine bC (E:=λ(s:(List Bool)×(List Int)) (g:Nat×Nat×Nat)=>[oM 0 c Oo,(1,.sl (d.map (eL Lo))),oI 2 e,oT 9 g.1 s.2,oT 10 g.2.1 s.1,oT 11 g.2.2 b,oI 12 i]) (O:=λs g=>[(9,dW g.1 1 3 (s.2.map Lo)),(10,dW g.2.1 1 4 (s.1.map D.bool)),(11,dW g.2.2 1 3 (b.map Lo))]) (j:=λs=>YM i s.1 s.2) ?_ ?_
    ·refine Ab 5 λl aa=>?_
     refine A 16 ?_;refine lP (E:=λ(s:(List NN)×Int) (g:Nat×Nat×Nat×Nat)=>[oM 0 c Oo,(1,.sl (d.map (eL Lo))),oI 2 e,oT 9 g.1 f,oT 10 g.2.1 h,oT 11 g.2.2.1 b,oI 12 i,oI 13 l,oT 14 g.2.2.2 s.1,oI 15 s.2]) (O:=λs g=>[(9,dW g.1 1 3 (f.map Lo)),(10,dW g.2.1 1 4 (h.map D.bool)),(11,dW g.2.2.1 1 3 (b.map Lo)),(14,dW g.2.2.2 2 186 (s.1.map PZ))]) (_,_,_,_) hX<|?_
     rintro⟨k,m⟩ ⟨ab,ac,ad,ae⟩ nn;dsimp only[Ago];refine Ac 9 ?_ ?_
     ·refine A 4 ?_;refine sC (E:=λ(s:Bool) (g:Nat×Nat×Nat×Nat)=>[oM 0 c Oo,(1,.sl (d.map (eL Lo))),oI 2 e,oT 9 g.1 f,oT 10 g.2.1 h,oT 11 g.2.2.1 b,oI 12 i,oI 13 l,oT 14 g.2.2.2 k,oI 15 m,oB 68 s]) (O:=λ_ g=>[(9,dW g.1 1 3 (f.map Lo)),(10,dW g.2.1 1 4 (h.map D.bool)),(11,dW g.2.2.1 1 3 (b.map Lo)),(14,dW g.2.2.2 2 186 (k.map PZ))]) (j:=λs=>Uw m f c k s) ?_ ?_
      ·exact B
      ·rintro af ⟨ag,ah,ai,aj⟩ nn;dsimp only[Uw];refine cD r ?_ ?_
       ·refine Ab 5 λo ak=>?_
        refine Ab 3 λp ao=>?_
        refine A 4 ?_;refine bS ([(NN.mk o p.Size)]:List NN) PZ r r r (by simp) r r r<|?_
        exact B
       ·exact B
     ·exact B
    ·rintro⟨ap,aq⟩ ⟨ar,au,av⟩ nn;dsimp only[YM];exact B
   ·exact B

def AqK (b:(List Int)×Bool):D:=.tup [.sl (b.1.map Lo),.bool b.2]
theorem Apw:Ns Tryz.prog 24 (fS .val Abv (λa=>Aew a) AqK):=by
 refine fn2 1 (nK 66 Apx<|Np) Tryz.func24<|?_;intro b;unfold Aew;refine A 13 ?_;refine lP (E:=λ(s:Int) (_g:Unit)=>[(0,.sl (b.map (eL Lo))),oI 4 s]) (O:=λ_ _=>[]) () hX<|?_
 rintro c ⟨⟩ nn;dsimp only[AiX];refine Ac 9 ?_ ?_
 ·refine A 2 ?_;refine bC (E:=λ(_s:Unit) (_g:Unit)=>[(0,.sl (b.map (eL Lo))),oI 4 c]) (O:=λ_ _=>[]) (j:=λ_=>AaJ c) ?_ ?_
  ·refine A 6 ?_;refine lP (E:=λ(s:Int) (_g:Unit)=>[(0,.sl (b.map (eL Lo))),oI 4 c,oI 5 s]) (O:=λ_ _=>[]) () hX<|?_
   rintro e ⟨⟩ nn;dsimp only[AiY];refine Ac 9 ?_ ?_
   ·refine A 2 ?_;refine bC (E:=λ(_s:Unit) (_g:Unit)=>[(0,.sl (b.map (eL Lo))),oI 4 c,oI 5 e]) (O:=λ_ _=>[]) (j:=λ_=>AaK e) ?_ ?_
    ·refine Ab 7 λi k=>?_
     refine Ac 4 ?_ ?_
     ·exact B
     ·refine A 18 ?_;refine lP (E:=λ(s:(List Int)×Int) (g:Nat)=>[(0,.sl (b.map (eL Lo))),oI 4 c,oT 6 g s.1,oI 7 s.2]) (O:=λs g=>[(6,dW g 1 3 (s.1.map Lo))]) _ hX<|?_
      rintro⟨f,d⟩ l nn;dsimp only[AiZ];refine Ac 7 ?_ ?_
      ·refine A 2 ?_;refine bC (E:=λ(s:(List Int)) (g:Nat)=>[(0,.sl (b.map (eL Lo))),oI 4 c,oT 6 g s,oI 7 d]) (O:=λs g=>[(6,dW g 1 3 (s.map Lo))]) (j:=λs=>Yq d s) ?_ ?_
       ·refine Ab 8 λm o=>?_
        refine Ab 1 λh p=>?_
        refine A 11 ?_;refine lP (E:=λ(s:Int) (g:Nat)=>[(0,.sl (b.map (eL Lo))),oI 4 c,oT 6 g f,oI 7 d,oM 8 h Lo,oI 9 s]) (O:=λ_ g=>[(6,dW g 1 3 (f.map Lo))]) _ hX<|?_
        rintro q r nn;dsimp only[AdW];exact B
       ·rintro t u nn;dsimp only[Yq];exact B
      ·exact B
    ·rintro⟨⟩ ⟨⟩ nn;dsimp only[AaK];exact B
   ·exact B
  ·rintro⟨⟩ ⟨⟩ nn;dsimp only[AaJ];exact B
 ·exact B

end Go.Proofs.YtcaoepecbgggcaaGreatDoor
