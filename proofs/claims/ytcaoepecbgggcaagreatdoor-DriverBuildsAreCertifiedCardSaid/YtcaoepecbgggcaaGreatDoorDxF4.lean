/-
 The code does what its typed programs say.
-/
import Derived.Test.YtcaoepecbgggcaaGreatDoorDxF2
import Derived.Test.YtcaoepecbgggcaaGreatDoorDxF3
namespace Go.Proofs.YtcaoepecbgggcaaGreatDoor
open Go Go.Dw Go.Proofs
open Go.IntKind (i64)
set_option maxRecDepth 100000
set_option maxHeartbeats 40000000
open Go.Dw renaming OO -> bD,Qk -> cK,Tg -> cG,Qs -> cD,Rp -> xC,PY -> xL,QS -> lP,PQ -> sC,Adc -> mF,rf -> r
abbrev ApR:=en3 PJ Nz NG
abbrev Ayu:=de3 Rr Rh RD
theorem Aro:Nr Tryz.prog 229 (fS .ground ApR (λa=>Wy a.1 a.2.1 a.2.2) Nq):=by
 refine fn2 3 (nK 228 Ajv<|nK 266 ApS<|Np) Tryz.func229<|?_;rintro⟨h,f,e⟩;unfold Wy;refine Ab 13 λr4 af=>?_
 refine Ac 4 ?_ ?_
 ·exact B
 ·refine A 6 ?_;refine cK λhq=>AwJ (kk:=228) (Ts.map λq=>SM.mk q.1 q.2.1 q.2.2.1 q.2.2.2) (λq=>cells (Yt q)) r r r hq r<|bD λd m=>Arx (q:=d) (l:=(Ts.map λq=>SM.mk q.1 q.2.1 q.2.2.1 q.2.2.2)) (c:=λq=>cells (Yt q)) (j:=e.Op.toNat) 0 100 (λ_=>r) r r r r r r m r<|?_
  refine A 34 ?_;refine lP (E:=λ(s:Int) (g:Nat×Nat×Nat×Nat×Nat×Nat)=>[oP 3 g.1,oP 4 g.2.1,oP 5 g.2.2.1,oP 7 g.2.2.2.1,oP 8 g.2.2.2.2.1,oP 9 g.2.2.2.2.2,(38,.agg [Nm d.a,Nm d.b,Nm d.c]),oI 39 s]) (O:=λ_ g=>[(3,dV g.1 1 28 (.agg [.sl (h.Funcs.map Nz)])),(4,dV g.2.1 3 36 (Nz f)),(5,dV g.2.2.1 5 90 (NG e)),(7,dV g.2.2.2.1 4 259 (Yt d)),(8,dV g.2.2.2.2.1 3 261 (.agg [Nm d.a,Nm d.b,Nm d.c])),(9,dV g.2.2.2.2.2 3 262 (.agg [Nm e.A,Nm e.B,Nm e.C]))]) (_,_,_,_,_,_) hX<|?_
  rintro o ⟨ag,ah,ai,aj,ak,ao⟩ nn;dsimp only[VC];refine Ac 6 ?_ ?_
  ·refine A 7 ?_;refine cK λhq=>bD λp t=>AnP (q:=p) (l:=(QN.mk d.a d.b d.c).toList) (en:=Av) r r r hq (by exact Nat.le_refl _) t<|?_
   refine A 9 ?_;refine QO r ?_ ?_
   ·refine A 1 ?_;refine cK λhq=>QG r r r hq<|bD λu v=>Qv (q:=u) (l:=(QN.mk e.A e.B e.C).toList) (en:=Av) (j:=o.toNat) (by simp) r r r v r (λ_=>r)<|?_
    exact B
   ·exact B
  ·refine A 5 ?_;refine sC (E:=λ(_s:Unit) (g:Nat×Nat×Nat×Nat×Nat)=>[oP 3 g.1,oP 4 g.2.1,oP 5 g.2.2.1,oP 8 g.2.2.2.1,oP 9 g.2.2.2.2]) (O:=λ_ g=>[(3,dV g.1 1 28 (.agg [.sl (h.Funcs.map Nz)])),(4,dV g.2.1 3 36 (Nz f)),(5,dV g.2.2.1 5 90 (NG e)),(8,dV g.2.2.2.1 3 261 (.agg [Nm d.a,Nm d.b,Nm d.c])),(9,dV g.2.2.2.2 3 262 (.agg [Nm e.A,Nm e.B,Nm e.C]))]) (j:=λ_=>Tc h f d e) ?_ ?_
   ·exact B
   ·rintro⟨⟩ ⟨ap,aq,ar,au,av⟩ nn;dsimp only[Tc];refine Ab 4 λi aw=>?_
    refine A 18 ?_;refine lP (E:=λ(s:Int×Int) (g:Nat×Nat×Nat×Nat)=>[oP 4 g.1,oP 5 g.2.1,oP 9 g.2.2.1,oP 12 g.2.2.2,oI 13 s.1,(63,.agg [Nm d.a,Nm d.b,Nm d.c]),oI 64 s.2]) (O:=λ_ g=>[(4,dV g.1 3 36 (Nz f)),(5,dV g.2.1 5 90 (NG e)),(9,dV g.2.2.1 3 262 (.agg [Nm e.A,Nm e.B,Nm e.C])),(12,dV g.2.2.2 7 263 (AhG i))]) (_,_,_,_) hX<|?_
    rintro⟨ax,x⟩ ⟨ay,az,ba,bb⟩ nn;dsimp only[VD];refine Ac 6 ?_ ?_
    ·refine A 7 ?_;refine cK λhq=>bD λk z=>AnP (q:=k) (l:=(QN.mk d.a d.b d.c).toList) (en:=Av) r r r hq (by exact Nat.le_refl _) z<|?_
     refine A 8 ?_;refine cK λhq=>QG r r r hq<|bD λaa ab=>Qv (q:=aa) (l:=(QN.mk e.A e.B e.C).toList) (en:=Av) (j:=x.toNat) (by simp) r r r ab r (λ_=>r)<|?_
     refine A 1 ?_;refine cK λhq=>QG r r r hq<|bD λac ad=>Qv (q:=ac) (l:=i.toList) (en:=Av) (j:=k.toNat) (by simp) r r r ad r (λ_=>r)<|bD λbc bd=>?_
     exact B
    ·exact B

abbrev WU:=en1 (eL Av)
abbrev Avl:=de1 (uL uI)
def Anb (b:Nt):D:=NI b
theorem Ss:Nr Tryz.prog 219 (fS (.ptr 8 255) WU (λa=>QM a) Anb):=by
 refine fn2 1 (nK 231 Xg<|Np) Tryz.func219<|?_;intro b;unfold QM;refine A 21 ?_;refine lP (E:=λ(s:Nt×Int) (g:Nat)=>[(3,.optr 7 g 0 0),oM 8 b Av,oL 9 b,oI 10 s.2]) (O:=λs g=>[(7,dV g 8 255 (NI s.1))]) _ hX<|?_
 rintro⟨c,d⟩ e nn;dsimp only[Afb];exact B

abbrev RK:=en2 (eL Av) Av
abbrev AnZ:=de2 (uL uI) uI
theorem ApA:Nr Tryz.prog 172 (fS .ground RK (λa=>Abx a.1 a.2) NF):=by
 refine fn2 2 (nK 219 Ss<|nK 232 Ahu<|Np) Tryz.func172<|?_;intro a;unfold Abx;exact B

abbrev AeE:=en2 (fpE NI) Av
abbrev Aqb:=de2 (fpU PC) uI
theorem Afc:Nr Tryz.prog 232 (fS .ground AeE (λa=>Sv a.1 a.2) NF):=by
 refine fn2 2 (nK 254 UM<|Np) Tryz.func232<|?_;rintro⟨b,c⟩;unfold Sv;refine Ab 8 λf g=>?_
 refine A 2 ?_;refine QO r ?_ ?_
 ·refine A 4 ?_;refine cK λhq=>AuU r r r hq<|bD λd e=>Arw (q:=d) (l:=b.toList) (en:=XN) (j:=(i64.wrap (c.tdiv 64)).toNat) (by simp) r r e (λ_=>r)<|?_
  exact B
 ·exact B

def WD (a:Int×Nt):List D:=[Nm a.1,.fptr (.fptr (NI a.2) 0) 0]
def Aap (ds:List D):Int×Nt:=(uI (ds.getD 0 .top),PC (fpD (fpD (ds.getD 1 .top))))
instance:OW WD Aap:=⟨λa=>by simp[Aap,WD,uI,fpD]⟩
theorem Aht:Nr Tryz.prog 234 (fS .ground WD (λa=>Ue a.1 a.2) NF):=by
 refine fn2 2 (nK 232 Afc<|Np) Tryz.func234<|?_;intro a;unfold Ue;exact B

def Qh (a:(List Int)×Nt):List D:=[.sl (a.1.map Av),.clo 234 [.fptr (.fptr (NI a.2) 0) 0]]
def Qg (ds:List D):(List Int)×Nt:=((uL uI) (ds.getD 0 .top),PC (fpD (fpD (Aec (ds.getD 1 .top) 0))))
instance:OW Qh Qg:=⟨λa=>by simp[Qg,Qh,fpD,Aec,Qe (u:=uI) (en:=Av) (λ_=>rfl)]⟩
noncomputable def TT:Dw.Spec:=NO [] .ground Qh Qg (λa=>QF a.1 a.2) Nq noE
theorem YE:Nr Tryz.prog 267 TT:=by
 refine fn2 2 (nK 234 Aht<|Np) Tryz.func267<|?_;rintro⟨a,b⟩;unfold QF;refine A 14 ?_;refine lP (E:=λ(s:Int) (_g:Unit)=>[oM 0 a Av,(1,.clo 234 [.fptr (.fptr (NI b) 0) 0]),oL 7 a,oI 8 s]) (O:=λ_ _=>[]) () hX<|?_
 rintro c ⟨⟩ nn;dsimp only[TB];exact B

noncomputable def Td:Dw.Spec:=NO [] .ground Qh Qg (λa=>Qj a.1 a.2) NF noE
theorem XE:Nr Tryz.prog 233 Td:=by
 refine fn2 2 (nK 962827 YE<|Np) Tryz.func233<|?_;rintro⟨a,b⟩;unfold Qj;refine A 9 ?_;refine bD λd c=>cG (a,b) rfl rfl (show _=some TT from by kernel_rfl) OW.ok rfl rfl (by simp) r c r<|?_
 exact B

abbrev Tj:=en2 (eL Av) (eL Av)
abbrev Avk:=de2 (uL uI) (uL uI)
theorem Amk:Nr Tryz.prog 173 (fS .ground Tj (λa=>Yc a.1 a.2) NF):=by
 refine fn2 2 (nK 219 Ss<|nK 962793 XE<|Np) Tryz.func173<|?_;rintro⟨c,e⟩;unfold Yc;refine Ab 8 λb f=>?_
 refine A 4 ?_;refine Qd (E:=[oM 0 c Av,(5,.fptr (.fptr (NI b) 0) 0)]) (O:=[]) ((hV 7 r (hV 5 r (hY)))) λnn=>?_
 refine A 3 ?_;refine mF (caps:=[.fptr (.fptr (NI b) 0) 0]) r r (by simp[SE])<|bD λg d=>cG (c,b) rfl rfl (show _=some Td from by kernel_rfl) OW.ok rfl rfl (by simp) r d r<|?_
 exact B

def Oj (b:(List Int)):D:=.sl (b.map Av)
noncomputable def AjW:Dw.Spec:=NO [] (.row 1 3) RK AnZ (λa=>Abw a.1 a.2) Oj noE
theorem Aje:Nr Tryz.prog 171 AjW:=by
 refine fn2 2 (nK 219 Ss<|nK 231 Xg<|nK 220 Sd<|Np) Tryz.func171<|?_;intro a;unfold Abw;exact B

theorem Agj:Nr Tryz.prog 211 (fS .ground WU (λa=>YV a) NF):=by
 refine fn2 1 (nK 254 UM<|Np) Tryz.func211<|?_;intro b;unfold YV;refine A 14 ?_;refine lP (E:=λ(s:Int) (_g:Unit)=>[oM 0 b Av,oM 5 b Av,oL 6 b,oI 7 s]) (O:=λ_ _=>[]) () hX<|?_
 rintro c ⟨⟩ nn;dsimp only[SP];exact B

abbrev AeG:=en2 (eL Av) (fpE Nz)
abbrev Aqd:=de2 (uL uI) (fpU Rh)
theorem Afn:Nr Tryz.prog 210 (fS .ground AeG (λa=>SB a.1 a.2) NF):=by
 refine fn2 2 (nK 211 Agj<|Np) Tryz.func210<|?_;intro a;unfold SB;exact B

abbrev Ajh:=en2 Nz Av
abbrev Ayq:=de2 Rh uI
theorem AqF:Nr Tryz.prog 256 (fS (.row 1 3) Ajh (λa=>AdQ a.1 a.2) Oj):=by
 refine fn2 2 (nK 230 Aal<|nK 276 Ahm<|nK 277 AeM<|Np) Tryz.func256<|?_;rintro⟨b,k2⟩;unfold AdQ;refine A 6 ?_;refine sC (E:=λ(_s:Unit) (g:Nat)=>[oI 1 k2,oP 2 g]) (O:=λ_ g=>[(2,dV g 3 36 (Nz b))]) (j:=λ_=>AbP b k2) ?_ ?_
 ·exact B
 ·rintro⟨⟩ d nn;dsimp only[AbP];refine Ab 10 λc e=>?_
  refine A 6 ?_;refine sC (E:=λ(s:(List Int)) (g:Nat×Nat)=>[oT 5 g.1 s,oP 6 g.2]) (O:=λs g=>[(5,dW g.1 1 3 (s.map Av)),(6,dV g.2 5 90 (NG c))]) (j:=λs=>Ze c s) ?_ ?_
  ·exact B
  ·rintro f ⟨h,i⟩ nn;dsimp only[Ze];exact B

def VP (a:Int×(List Int)):List D:=[Nm a.1,.fptr (.sl (a.2.map Av)) 0]
def ZY (ds:List D):Int×(List Int):=(uI (ds.getD 0 .top),(uL uI) (fpD (ds.getD 1 .top)))
instance:OW VP ZY:=⟨λa=>by simp[ZY,VP,uI,fpD,Qe (u:=uI) (en:=Av) (λ_=>rfl)]⟩
theorem Ahg:Nr Tryz.prog 221 (fS .ground VP (λa=>QJ a.1 a.2) Nq):=by
 refine fn2 2 (Np) Tryz.func221<|?_;intro a;unfold QJ;exact B

theorem Age:Nr Tryz.prog 98 (fS .ground RK (λa=>Tf a.1 a.2) Nq):=by
 refine fn2 2 (Np) Tryz.func98<|?_;rintro⟨b,c⟩;unfold Tf;refine A 14 ?_;refine lP (E:=λ(s:Int) (_g:Unit)=>[oM 0 b Av,oI 1 c,oL 7 b,oI 8 s]) (O:=λ_ _=>[]) () hX<|?_
 rintro d ⟨⟩ nn;dsimp only[Tx];exact B

def Pb (a:(List Int)):List D:=[.sl (a.map Av),.clo 271 []]
def PO (ds:List D):(List Int):=(uL uI) (ds.getD 0 .top)
instance:OW Pb PO:=⟨λa=>by simp[PO,Pb,Qe (u:=uI) (en:=Av) (λ_=>rfl)]⟩
noncomputable def Te:Dw.Spec:=NO [] .ground Pb PO (λa=>Ps a) Nq noE
theorem XF:Nr Tryz.prog 267 Te:=by
 refine fn2 2 (nK 271 AhO<|Np) Tryz.func267<|?_;intro a;unfold Ps;refine A 14 ?_;refine lP (E:=λ(s:Int) (_g:Unit)=>[oM 0 a Av,(1,.clo 271 []),oL 7 a,oI 8 s]) (O:=λ_ _=>[]) () hX<|?_
 rintro b ⟨⟩ nn;dsimp only[QX];exact B

noncomputable def Sr:Dw.Spec:=NO [] .ground Pb PO (λa=>Pd a) NF noE
theorem WN:Nr Tryz.prog 233 Sr:=by
 refine fn2 2 (nK 1114379 XF<|Np) Tryz.func233<|?_;intro a;unfold Pd;refine A 9 ?_;refine bD λc b=>cG a rfl rfl (show _=some Te from by kernel_rfl) OW.ok rfl rfl (by simp) r b r<|?_
 exact B

theorem AcM:Nr Tryz.prog 226 (fS .ground WU (λa=>Yv a) NF):=by
 refine fn2 1 (nK 125 Ajo<|Np) Tryz.func226<|?_;intro c;unfold Yv;refine A 12 ?_;refine lP (E:=λ(s:Int) (_g:Unit)=>[oM 0 c Av,oI 3 s]) (O:=λ_ _=>[]) () hX<|?_
 rintro b ⟨⟩ nn;dsimp only[TK];refine Ac 9 ?_ ?_
 ·refine Ab 8 λd e=>?_
  refine Ab 2 λf g=>?_
  refine A 3 ?_;refine QO r ?_ ?_
  ·exact B
  ·refine A 3 ?_;refine QO r ?_ ?_
   ·refine Ab 2 λh i=>?_
    refine Ab 5 λj k=>?_
    refine Ac 7 ?_ ?_
    ·exact B
    ·refine A 8 ?_;exact xL (s:=i64.wrap (b+1)) () hX
   ·refine A 23 ?_;exact xL (s:=i64.wrap (b+1)) () hX
 ·exact B

theorem Zp:Nr Tryz.prog 116 (fS .ground RK (λa=>Ws a.1 a.2) NF):=by
 refine fn2 2 (Np) Tryz.func116<|?_;rintro⟨b,c⟩;unfold Ws;refine A 12 ?_;refine lP (E:=λ(s:Int) (_g:Unit)=>[oM 0 b Av,oI 1 c,oI 5 s]) (O:=λ_ _=>[]) () hX<|?_
 rintro d ⟨⟩ nn;dsimp only[Zo];exact B

abbrev ApQ:=en2 (eL On) (eL Av)
abbrev Ayt:=de2 (uL Ya) (uL uI)
theorem Ard:Nr Tryz.prog 205 (fS .ground ApQ (λa=>AgH a.1 a.2) Nq):=by
 refine fn2 2 (Np) Tryz.func205<|?_;rintro⟨d,b⟩;unfold AgH;refine A 17 ?_;refine lP (E:=λ(s:Int×Int) (_g:Unit)=>[oM 0 d On,oM 1 b Av,oI 5 s.1,oI 6 s.2]) (O:=λ_ _=>[]) () hX<|?_
 rintro⟨e,c⟩ ⟨⟩ nn;dsimp only[AkR];refine sC (E:=λ(_s:Unit) (_g:Unit)=>[oM 0 d On,oM 1 b Av,oI 5 e,oI 6 c,oI 12 c,oM 13 b Av,oL 14 b,(15,.bool (decide (c<(b.length:Int))))]) (O:=λ_ _=>[]) (j:=λ_=>Ace b c d e) ?_ ?_
 ·exact B
 ·rintro⟨⟩ ⟨⟩ nn;dsimp only[Ace];exact B

end Go.Proofs.YtcaoepecbgggcaaGreatDoor
