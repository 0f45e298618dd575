/-
 The code does what its typed programs say.
-/
import Derived.Test.YtcaoepecbgggcaaGreatDoorDxF4
import Derived.Test.YtcaoepecbgggcaaGreatDoorDxF5
import Derived.Test.YtcaoepecbgggcaaGreatDoorDxF6
namespace Go.Proofs.YtcaoepecbgggcaaGreatDoor
open Go Go.Dw Go.Proofs
open Go.IntKind (i64)
set_option maxRecDepth 100000
set_option maxHeartbeats 40000000
open Go.Dw renaming QN -> bD,QW -> cK,Ya -> bS,AcM -> aP,WQ -> sE,Yz -> iO,Vs -> cD,YA -> xC,UF -> xL,Zf -> hE,XG -> lP,Vg -> sC,SG -> bC,rf -> r
theorem Ako:Ns Tryz.prog 180 (fS .ground AlM (λa=>Wp a.1 a.2) Nr):=by
 refine fn2 2 (nK 181 Ani<|nK 243 Ajw<|nK 230 Aaf<|Np) Tryz.func180<|?_;rintro⟨c,d⟩;unfold Wp;refine Ab 10 λb e=>?_
 refine Ac 18 ?_ ?_
 ·exact B
 ·refine Ac 10 ?_ ?_
  ·exact B
  ·refine A 14 ?_;refine lP (E:=λ(s:Int) (g:Nat)=>[oP 5 g,oM 28 b.1.Frame.Code NG,oL 29 b.1.Frame.Code,oI 30 s]) (O:=λ_ g=>[(5,dV g 5 200 (Qa b.1))]) _ hX<|?_
   rintro f h nn;dsimp only[Wq];exact B

noncomputable def Akp:Dw.Spec:=NU [] .ground Aea AdZ (λa=>ZC a) Nr noE
theorem Aph:Ns Tryz.prog 115 Akp:=by
 refine fn2 1 (nK 150 YI<|nK 180 Ako<|nK 181 Ani<|nK 182 Ajv<|Np) Tryz.func115<|?_;intro a;unfold ZC;refine A 6 ?_;refine sC (E:=λ(_s:Unit) (g:Nat)=>[oP 1 g]) (O:=λ_ g=>[(1,dV g 2 58 (.agg [Nn a.Align,.sl (a.Frames.map OI)]))]) (j:=λ_=>AaE a) ?_ ?_
 ·refine Ac 16 ?_ ?_
  ·exact B
  ·refine Ac 7 ?_ ?_
   ·exact B
   ·refine sC (E:=λ(s:Bool) (g:Nat)=>[oP 1 g,oB 18 s]) (O:=λ_ g=>[(1,dV g 2 58 (.agg [Nn a.Align,.sl (a.Frames.map OI)]))]) (j:=λs=>Yi a s) ?_ ?_
    ·exact B
    ·rintro b c nn;dsimp only[Yi];exact B
 ·rintro⟨⟩ d nn;dsimp only[AaE];refine A 10 ?_;refine lP (E:=λ(s:Int) (g:Nat)=>[oP 1 g,oL 37 a.Frames,oI 38 s]) (O:=λ_ g=>[(1,dV g 2 58 (.agg [Nn a.Align,.sl (a.Frames.map OI)]))]) _ hX<|?_
  rintro e f nn;dsimp only[AiQ];refine Ac 6 ?_ ?_
  ·exact B
  ·refine A 15 ?_;refine lP (E:=λ(s:Int) (g:Nat)=>[oP 1 g,oL 50 a.Frames,oI 51 s]) (O:=λ_ g=>[(1,dV g 2 58 (.agg [Nn a.Align,.sl (a.Frames.map OI)]))]) _ hX<|?_
   rintro h i nn;dsimp only[AdS];exact B

abbrev AgJ:=en3 Om Lo Lo
abbrev AgI:=de3 Rn uI uI
def UR (b:Nq×Mk):D:=Pz b.1
def Aiv (b:Nq×Mk):List D:=[Om b.2]
theorem Ahk:Ns Tryz.prog 30 (NU [(0,(2,114))] .val AgJ AgI (λa=>Wj a.1 a.2.1 a.2.2) UR Aiv):=by
 refine fn2 3 (nK 22 OB<|nK 73 AgN<|Np) Tryz.func30<|?_;rintro⟨e,f,b⟩;unfold Wj;refine Ab 16 λh i=>?_
 refine A 5 ?_;refine lP (E:=λ(s:(List Int)×Int×(List Int)×Int) (g:Nat×Nat)=>[(0,.optr 8192 0 0 0),oI 2 b,oP 6 g.1,oT 7 g.2 s.2.2.1,oI 8 s.2.2.2]) (O:=λs g=>[(6,dV g.1 1 28 (.agg [.nils])),(7,dW g.2 1 3 (s.2.2.1.map Lo)),(8192,dV 0 2 114 (.agg [.sl (s.1.map eU8),Nn s.2.1]))]) (_,_) hX<|?_
 rintro⟨c5,j,c,k⟩ ⟨m,o⟩ nn;dsimp only[AaZ];refine Ac 7 ?_ ?_
 ·exact B
 ·refine A 17 ?_;refine lP (E:=λ(s:(List Int)×Int×(List Nm)×Int×(List Int)) (g:Nat×Nat)=>[(0,.optr 8192 0 0 0),oI 2 b,oP 6 g.1,oM 7 s.2.2.2.2 Lo,oP 9 g.2,oI 10 s.2.2.2.1]) (O:=λs g=>[(6,dV g.1 1 28 (.agg [.nils])),(9,dV g.2 1 28 (.agg [.sl (s.2.2.1.map Nz)])),(8192,dV 0 2 114 (.agg [.sl (s.1.map eU8),Nn s.2.1]))]) (_,_) ((WI [(7,some (_,⟨true,false,1,3,c.map Lo⟩))] ⟨⟨_,_,r,r,r⟩,trivial⟩ ⟨(Og r),(Og r),(Og r),(Adp (Wg (l:=c) (en:=Lo) r r r (by first|(simp;done)|rfl|(simp;rfl)))),(Og r),(Og r),trivial⟩ ⟨(.inl r),(.inr ⟨_,_,_,_,r,r,r,r,Vu r ⟨(Vi Nz r),trivial⟩⟩),(.inl r),trivial⟩))<|?_
  rintro⟨p,q,t,u,v⟩ ⟨x,z⟩ nn;dsimp only[Xn];refine Ac 9 ?_ ?_
  ·refine Ab 13 λd aa=>?_
   refine A 1 ?_;refine bS ([d.1]:List Nm) Nz r r r (by simp) r r r<|?_
   refine A 16 ?_;exact wf [11] λ_=>B
  ·exact B

abbrev Xl:=en2 Om Pz
abbrev Xk:=de2 Rn Rp
def Aji (b:Nq×Mk):List D:=[Om b.2]
theorem Ait:Ns Tryz.prog 36 (NU [(0,(2,114))] .val Xl Xk (λa=>UK a.1 a.2) UR Aji):=by
 refine fn2 2 (nK 22 OB<|nK 85 AmW<|nK 35 AdX<|Np) Tryz.func36<|?_;rintro⟨c,d⟩;unfold UK;refine Ab 12 λe f=>?_
 refine Ab 9 λg h=>?_
 refine Ab 12 λb i=>?_
 refine A 2 ?_;refine bS ([(Av.mk 22 b.1 0 0 0)]:List Av) NG r r r (by simp) r r r<|?_
 exact B

theorem AhR:Ns Tryz.prog 33 (fS .val Tl (λa=>Qv a.1 a.2) Ww):=by
 refine fn2 2 (nK 76 Aon<|nK 77 Apu<|nK 78 Afk<|nK 79 AmA<|nK 80 Anq<|nK 81 Aff<|Np) Tryz.func33<|?_;rintro⟨c,d⟩;unfold Qv;refine Ab 13 λt z=>?_
 refine Ac 10 ?_ ?_
 ·refine A 10 ?_;refine Po (b:=((Nm.mk 0 ([]) ([])),t)) r ?_ r r ?_ (by first|rfl|(simp only[Nv];rfl)|(simp only[Ny];rfl)|(simp only[Nv,Ny];rfl)|(simp[Ww,Nz];try rfl)) (by decide)
  all_goals first|(simp;done)|(simp;omega)|rfl|(simp[OQ,OJ];done)|(simp[cells];done)
 ·refine Ab 6 λf aa=>?_
  refine A 20 ?_;refine lP (E:=λ(s:(List NA)×Int) (g:Nat×Nat×Nat×Nat×Nat)=>[oP 2 g.1,oP 3 g.2.1,oP 4 g.2.2.1,oT 7 g.2.2.2.1 f,oP 8 g.2.2.2.2,oI 9 s.2]) (O:=λs g=>[(2,dV g.1 3 36 (Nz c)),(3,dV g.2.1 2 48 (.agg [.sl (d.To.map Lo),.sl (d.Keep.map D.bool)])),(4,dV g.2.2.1 3 36 (.agg [Nn 0,.nils,.nils])),(7,dW g.2.2.2.1 1 3 (f.map Lo)),(8,dV g.2.2.2.2 3 36 (.agg [Nn c.Params,.sl (s.1.map Oo),.nils]))]) (_,_,_,_,_) ((WI [] trivial ⟨(Og r),(Og r),(Og r),(Og r),(Og r),(Og r),trivial⟩ ⟨(.inl r),(.inl r),(.inl r),(.inl r),(.inr ⟨_,_,_,_,r,r,r,r,Vu r ⟨(Ou r),(Vi Oo r),(Ou r),trivial⟩⟩),trivial⟩))<|?_
  rintro⟨k,l⟩ ⟨ab,ac,ad,ae,af⟩ nn;dsimp only[AhQ];refine Ac 9 ?_ ?_
  ·refine A 2 ?_;refine bC (E:=λ(_s:(List NA)) (g:Nat×Nat×Nat×Nat×Nat×Nat)=>[oP 2 g.1,oP 3 g.2.1,oP 4 g.2.2.1,oT 7 g.2.2.2.1 f,oP 8 g.2.2.2.2.1,oI 9 l]) (O:=λs g=>[(2,dV g.1 3 36 (Nz c)),(3,dV g.2.1 2 48 (.agg [.sl (d.To.map Lo),.sl (d.Keep.map D.bool)])),(4,dV g.2.2.1 3 36 (.agg [Nn 0,.nils,.nils])),(7,dW g.2.2.2.1 1 3 (f.map Lo)),(8,dV g.2.2.2.2.1 3 36 (.agg [Nn c.Params,.osl 13 g.2.2.2.2.2 0 s.length,.nils])),(13,dW g.2.2.2.2.2 2 87 (s.map Oo))]) (j:=λs=>XE l s) ?_ ?_
   ·refine Ab 7 λag ah=>?_
    refine Ab 1 λm ai=>?_
    refine Ab 13 λaj ak=>?_
    refine Ab 1 λo ao=>?_
    refine A 11 ?_;refine lP (E:=λ(s:Int×Int) (g:Nat×Nat×Nat×Nat×Nat×Nat×Nat)=>[oP 2 g.1,oP 3 g.2.1,oP 4 g.2.2.1,oT 7 g.2.2.2.1 f,oP 8 g.2.2.2.2.1,oI 9 l,oP 10 g.2.2.2.2.2.1,oT 11 g.2.2.2.2.2.2 o,oI 12 s.2]) (O:=λs g=>[(2,dV g.1 3 36 (Nz c)),(3,dV g.2.1 2 48 (.agg [.sl (d.To.map Lo),.sl (d.Keep.map D.bool)])),(4,dV g.2.2.1 3 36 (.agg [Nn 0,.nils,.nils])),(7,dW g.2.2.2.1 1 3 (f.map Lo)),(8,dV g.2.2.2.2.1 3 36 (.agg [Nn c.Params,.sl (k.map Oo),.nils])),(10,dV g.2.2.2.2.2.1 2 87 (.agg [Nn m.Size,Nn s.1])),(11,dW g.2.2.2.2.2.2 1 3 (o.map Lo))]) (_,_,_,_,_,_,_) hX<|?_
    rintro⟨u,ap⟩ ⟨aq,ar,au,av,aw,ax,ay⟩ nn;dsimp only[ZK];refine Ac 9 ?_ ?_
    ·exact B
    ·refine A 11 ?_;refine bS ([(NA.mk m.Size u)]:List NA) Oo r r r (by simp) r r r<|?_
     exact B
   ·rintro az ⟨ba,bb,bc,bd,bf,bg⟩ nn;dsimp only[XE];refine A 5 ?_;exact wf [13] λ_=>B
  ·refine Ab 9 λh bh=>?_
   refine Ab 2 λi bi=>?_
   refine A 12 ?_;refine lP (E:=λ(s:(List Av)×Int) (g:Nat×Nat×Nat×Nat×Nat×Nat)=>[oP 2 g.1,oP 3 g.2.1,oP 4 g.2.2.1,oP 8 g.2.2.2.1,oT 14 g.2.2.2.2.1 h,oT 15 g.2.2.2.2.2 i,oI 16 s.2]) (O:=λs g=>[(2,dV g.1 3 36 (Nz c)),(3,dV g.2.1 2 48 (.agg [.sl (d.To.map Lo),.sl (d.Keep.map D.bool)])),(4,dV g.2.2.1 3 36 (.agg [Nn 0,.nils,.nils])),(8,dV g.2.2.2.1 3 36 (.agg [Nn c.Params,.sl (k.map Oo),.sl (s.1.map NG)])),(14,dW g.2.2.2.2.1 1 3 (h.map Lo)),(15,dW g.2.2.2.2.2 1 3 (i.map Lo))]) (_,_,_,_,_,_) ((WI [] trivial ⟨(Og r),(Og r),(Og r),(Og r),(Og r),(Og r),(Og r),trivial⟩ ⟨(.inl r),(.inl r),(.inl r),(.inr ⟨_,_,_,_,r,r,r,r,Vu r ⟨(Ou r),(Ou r),(Vi NG r),trivial⟩⟩),(.inl r),(.inl r),trivial⟩))<|?_
   rintro⟨p,q⟩ ⟨bj,bk,bl,bm,bn,bo⟩ nn;dsimp only[AcK];refine Ac 10 ?_ ?_
   ·refine Ab 10 λbp bq=>?_
    refine Ac 5 ?_ ?_
    ·exact B
    ·refine Ab 7 λbr bs=>?_
     refine Ab 3 λe bt=>?_
     refine A 5 ?_;refine sC (E:=λ(_s:Int×Int) (g:Nat×Nat×Nat×Nat×Nat×Nat×Nat)=>[oP 2 g.1,oP 3 g.2.1,oP 4 g.2.2.1,oP 8 g.2.2.2.1,oT 14 g.2.2.2.2.1 h,oT 15 g.2.2.2.2.2.1 i,oI 16 q,oP 17 g.2.2.2.2.2.2]) (O:=λs g=>[(2,dV g.1 3 36 (Nz c)),(3,dV g.2.1 2 48 (.agg [.sl (d.To.map Lo),.sl (d.Keep.map D.bool)])),(4,dV g.2.2.1 3 36 (.agg [Nn 0,.nils,.nils])),(8,dV g.2.2.2.1 3 36 (.agg [Nn c.Params,.sl (k.map Oo),.sl (p.map NG)])),(14,dW g.2.2.2.2.1 1 3 (h.map Lo)),(15,dW g.2.2.2.2.2.1 1 3 (i.map Lo)),(17,dV g.2.2.2.2.2.2 5 90 (.agg [Nn e.Op,Nn s.1,Nn s.2,Nn e.C,AnK e.Imm]))]) (j:=λs=>TM p e q s.1 s.2) ?_ ?_
     ·exact B
     ·rintro⟨v,x⟩ ⟨bu,bv,bw,bx,bz,ca,cb⟩ nn;dsimp only[TM];refine A 6 ?_;refine bS ([(Av.mk e.Op v x e.C e.Imm)]:List Av) NG r r r (by simp) r r r<|?_
      refine A 16 ?_;exact wf [18] λ_=>B
   ·exact B

def Ame (b:Nq×Mk):List D:=[Om b.2]
theorem Alb:Ns Tryz.prog 16 (NU [(0,(2,114))] .val Xl Xk (λa=>Xm a.1 a.2) UR Ame):=by
 refine fn2 2 (nK 22 OB<|nK 47 WY<|nK 48 Za<|nK 49 Ads<|Np) Tryz.func16<|?_;rintro⟨c1,d⟩;unfold Xm;refine A 10 ?_;refine cK λhq=>aP (([]:List Nm)) (d.Funcs) Nz r r r r r r r (by simp) r r r (by simp) r (λ_=>r) r hq<|?_
 refine Ab 8 λq aw=>?_
 refine A 8 ?_;refine cK λhq=>iO (l:=([]:List Nm)++d.Funcs) (en:=Nz) r r r r r hq<|bD λc ax=>?_
 refine Ac 14 ?_ ?_
 ·exact B
 ·refine A 6 ?_;refine cK λhq=>aP (([]:List Av)) (c.Code) NG r r r r r r r (by simp) r r r (by simp) r (λ_=>r) r hq<|?_
  refine A 2 ?_;refine cK λhq=>aP (([]:List NA)) (c.Slots) Oo r r r r r r r (by simp) r r r (by simp) r (λ_=>r) r hq<|?_
  refine Ab 12 λp ay=>?_
  refine A 4 ?_;refine sC (E:=λ(_s:(List Int)×Int×(List Av)×(List NA)×Int) (g:Nat×Nat×Nat×Nat×Nat)=>[oP 4 g.1,(5,.osl 5 g.2.1 0 ((([]:List Nm)++d.Funcs).length)),oI 6 q.1,oP 7 g.2.2.1]) (O:=λs g=>[(4,dV g.1 1 28 (.agg [.nils])),(5,dW g.2.1 3 36 ((([]:List Nm)++d.Funcs).map Nz)),(7,dV g.2.2.1 3 36 (.agg [Nn s.2.2.2.2,.osl 30 g.2.2.2.2 0 s.2.2.2.1.length,.osl 27 g.2.2.2.1 0 s.2.2.1.length])),(27,dW g.2.2.2.1 5 90 (s.2.2.1.map NG)),(30,dW g.2.2.2.2 2 87 (s.2.2.2.1.map Oo)),(8192,dV 0 2 114 (.agg [.sl (s.1.map eU8),Nn s.2.1]))]) (j:=λs=>OO q d s.1 s.2.1 s.2.2.1 s.2.2.2.1 s.2.2.2.2) ?_ ?_
  ·refine Ab 3 λac az=>?_
   refine Ac 10 ?_ ?_
   ·refine Ab 5 λt ba=>?_
    refine A 4 ?_;refine bD λe ag=>sE (l:=([]:List Av)++c.Code) (en:=NG) (q':=(Av.mk (i64.wrap (t.1-1)) e.A e.B e.C e.Imm)) r r r r r r r (by simp) ag r r r r r<|?_
    refine A 2 ?_;exact xC (s:=(t.2.list,t.2.at_,(([]:List Av)++c.Code).set p.1.toNat (Av.mk (i64.wrap (t.1-1)) e.A e.B e.C e.Imm),([]:List NA)++c.Slots,c.Params)) (_,_,_,_,_) ((hE ⟨rfl,r,r,r,trivial⟩ ⟨rfl,r,(Eq.trans (b:=dV _ 3 36 (.agg [Nn c.Params,.osl 30 _ 0 ((([]:List NA)++c.Slots).length),.osl 27 _ 0 ((([]:List Av)++c.Code).length)])) r (by simp)),r,r,r,trivial⟩))
   ·refine Ac 6 ?_ ?_
    ·refine Ab 5 λu bb=>?_
     refine A 3 ?_;refine bD λf ah=>sE (l:=([]:List Av)++c.Code) (en:=NG) (q':=(Av.mk f.Op u.1 f.B f.C f.Imm)) r r r r r r r (by simp) ah r r r r r<|?_
     refine A 2 ?_;exact xC (s:=(u.2.list,u.2.at_,(([]:List Av)++c.Code).set p.1.toNat (Av.mk f.Op u.1 f.B f.C f.Imm),([]:List NA)++c.Slots,c.Params)) (_,_,_,_,_) ((hE ⟨rfl,r,r,r,trivial⟩ ⟨rfl,r,(Eq.trans (b:=dV _ 3 36 (.agg [Nn c.Params,.osl 30 _ 0 ((([]:List NA)++c.Slots).length),.osl 27 _ 0 ((([]:List Av)++c.Code).length)])) r (by simp)),r,r,r,trivial⟩))
    ·refine Ac 6 ?_ ?_
     ·refine Ab 5 λv bc=>?_
      refine A 3 ?_;refine bD λh ai=>sE (l:=([]:List Av)++c.Code) (en:=NG) (q':=(Av.mk h.Op h.A v.1 h.C h.Imm)) r r r r r r r (by simp) ai r r r r r<|?_
      refine A 2 ?_;exact xC (s:=(v.2.list,v.2.at_,(([]:List Av)++c.Code).set p.1.toNat (Av.mk h.Op h.A v.1 h.C h.Imm),([]:List NA)++c.Slots,c.Params)) (_,_,_,_,_) ((hE ⟨rfl,r,r,r,trivial⟩ ⟨rfl,r,(Eq.trans (b:=dV _ 3 36 (.agg [Nn c.Params,.osl 30 _ 0 ((([]:List NA)++c.Slots).length),.osl 27 _ 0 ((([]:List Av)++c.Code).length)])) r (by simp)),r,r,r,trivial⟩))
     ·refine Ac 6 ?_ ?_
      ·refine Ab 5 λx bd=>?_
       refine A 3 ?_;refine bD λi aj=>sE (l:=([]:List Av)++c.Code) (en:=NG) (q':=(Av.mk i.Op i.A i.B x.1 i.Imm)) r r r r r r r (by simp) aj r r r r r<|?_
       refine A 2 ?_;exact xC (s:=(x.2.list,x.2.at_,(([]:List Av)++c.Code).set p.1.toNat (Av.mk i.Op i.A i.B x.1 i.Imm),([]:List NA)++c.Slots,c.Params)) (_,_,_,_,_) ((hE ⟨rfl,r,r,r,trivial⟩ ⟨rfl,r,(Eq.trans (b:=dV _ 3 36 (.agg [Nn c.Params,.osl 30 _ 0 ((([]:List NA)++c.Slots).length),.osl 27 _ 0 ((([]:List Av)++c.Code).length)])) r (by simp)),r,r,r,trivial⟩))
      ·refine Ac 6 ?_ ?_
       ·refine Ab 5 λz bf=>?_
        refine A 3 ?_;refine bD λm ak=>sE (l:=([]:List Av)++c.Code) (en:=NG) (q':=(Av.mk m.Op m.A m.B m.C z.1)) r r r r r r r (by simp) ak r r r r r<|?_
        refine A 2 ?_;exact xC (s:=(z.2.list,z.2.at_,(([]:List Av)++c.Code).set p.1.toNat (Av.mk m.Op m.A m.B m.C z.1),([]:List NA)++c.Slots,c.Params)) (_,_,_,_,_) ((hE ⟨rfl,r,r,r,trivial⟩ ⟨rfl,r,(Eq.trans (b:=dV _ 3 36 (.agg [Nn c.Params,.osl 30 _ 0 ((([]:List NA)++c.Slots).length),.osl 27 _ 0 ((([]:List Av)++c.Code).length)])) r (by simp)),r,r,r,trivial⟩))
       ·refine Ac 6 ?_ ?_
        ·exact B
        ·refine Ac 6 ?_ ?_
         ·refine Ab 4 λaa bg=>?_
          refine Ab 2 λo bh=>?_
          refine A 2 ?_;refine bS ([(NA.mk aa.1 o.1)]:List NA) Oo r r r (by simp) r r r<|?_
          refine A 5 ?_;exact xC (s:=(o.2.list,o.2.at_,([]:List Av)++c.Code,(([]:List NA)++c.Slots)++([(NA.mk aa.1 o.1)]:List NA),c.Params)) (_,_,_,_,_) ((WJ (E1:=[oP 4 _,(5,.osl 5 _ 0 ((([]:List Nm)++d.Funcs).length)),oI 6 q.1,oP 7 _]) (O1:=[(4,dV _ 1 28 (.agg [.nils])),(5,dW _ 3 36 ((([]:List Nm)++d.Funcs).map Nz)),(7,dV _ 3 36 (.agg [Nn c.Params,.osl 101 _ 0 (((([]:List NA)++c.Slots)++([(NA.mk aa.1 o.1)]:List NA)).length),.osl 27 _ 0 ((([]:List Av)++c.Code).length)])),(27,dW _ 5 90 ((([]:List Av)++c.Code).map NG)),(101,dW _ 2 87 (((([]:List NA)++c.Slots)++([(NA.mk aa.1 o.1)]:List NA)).map Oo)),(8192,dV 0 2 114 (.agg [.sl (o.2.list.map eU8),Nn o.2.at_]))]) hX (λ_=>PK (λg=>bif Nat.beq g 101 then 30 else g) (by kernel_rfl) hX)))
         ·refine Ac 6 ?_ ?_
          ·refine A 4 ?_;refine cK λhq=>AcN (l:=([]:List Av)++c.Code) r r r r r r hq<|?_
           refine A 4 ?_;exact xC (s:=(ac.2.list,ac.2.at_,(([]:List Av)++c.Code).take p.1.toNat,([]:List NA)++c.Slots,c.Params)) (_,_,_,_,_) ((AsO (gw:=7) (off:=2) (gg:=27) (k:=p.1.toNat) (l:=([]:List Av)++c.Code) (en:=NG) r r r (by omega) r hX))
          ·refine Ac 6 ?_ ?_
           ·refine Ac 8 ?_ ?_
            ·refine Ab 7 λao bi=>?_
             refine Ab 2 λab bj=>?_
             refine A 2 ?_;refine bD λbk ap=>sE (l:=([]:List NA)++c.Slots) (en:=Oo) (q':=ab.1) r r r r r r r (by simp) ap r r r r r<|?_
             refine A 2 ?_;exact xC (s:=(ab.2.list,ab.2.at_,([]:List Av)++c.Code,(([]:List NA)++c.Slots).set ao.1.toNat ab.1,c.Params)) (_,_,_,_,_) ((hE ⟨rfl,r,r,r,trivial⟩ ⟨rfl,r,(Eq.trans (b:=dV _ 3 36 (.agg [Nn c.Params,.osl 30 _ 0 ((([]:List NA)++c.Slots).length),.osl 27 _ 0 ((([]:List Av)++c.Code).length)])) r (by simp)),r,r,r,trivial⟩))
            ·exact B
           ·exact B
  ·rintro⟨c6,c7,x8,x9,af⟩ ⟨bl,bm,bn,bo,bp⟩ nn;dsimp only[OO];refine A 5 ?_;refine cK λhq=>iO (l:=([]:List Nm)++d.Funcs) (en:=Nz) r r r r r hq<|bD λbq au=>sE (l:=([]:List Nm)++d.Funcs) (en:=Nz) (q':=(Nm.mk af x9 x8)) r r r r r r r (by simp) au r r r (by simp[Ps,cells,setAt,Nz]) r<|?_
   refine A 10 ?_;refine TN (b:=((Nq.mk ((([]:List Nm)++d.Funcs).set q.1.toNat (Nm.mk af x9 x8))),(Mk.mk c6 c7))) r ?_ r r ?_ (by first|rfl|(simp only;rfl)|(simp only;rfl)|(simp only;rfl)|(simp[UR,Pz];try rfl))
   all_goals first|(simp;done)|(simp;omega)|rfl|(simp[OQ,OJ];done)|(simp[cells];done)

theorem Ajx:Ns Tryz.prog 122 (fS .ground Aad (λa=>RB a.1 a.2.1 a.2.2) Nr):=by
 refine fn2 3 (nK 120 AbK<|nK 186 Alw<|nK 187 Alx<|Np) Tryz.func122<|?_;rintro⟨b,e,k3⟩;unfold RB;refine A 6 ?_;refine sC (E:=λ(_s:Unit) (g:Nat)=>[oI 1 e,oI 2 k3,oP 3 g]) (O:=λ_ g=>[(3,dV g 1 28 (.agg [.sl (b.Funcs.map Nz)]))]) (j:=λ_=>Sb b e k3) ?_ ?_
 ·exact B
 ·rintro⟨⟩ f nn;dsimp only[Sb];refine Ab 5 λc h=>?_
  refine Ab 11 λd i=>?_
  refine Ab 11 λk l=>?_
  refine Ac 4 ?_ ?_
  ·exact B
  ·refine Ab 6 λm o=>?_
   refine A 12 ?_;refine sC (E:=λ(_s:Unit) (g:Nat×Nat×Nat)=>[oP 3 g.1,oP 7 g.2.1,oP 8 g.2.2]) (O:=λ_ g=>[(3,dV g.1 1 28 (.agg [.sl (b.Funcs.map Nz)])),(7,dV g.2.1 3 36 (Nz c)),(8,dV g.2.2 5 90 (NG d))]) (j:=λ_=>NC b c d) ?_ ?_
   ·exact B
   ·rintro⟨⟩ ⟨p,q,r⟩ nn;dsimp only[NC];refine Ab 6 λs t=>?_
    refine Ac 4 ?_ ?_
    ·exact B
    ·refine A 2 ?_;refine sC (E:=λ(_s:Unit) (g:Nat×Nat)=>[oP 7 g.1,oP 8 g.2]) (O:=λ_ g=>[(7,dV g.1 3 36 (Nz c)),(8,dV g.2 5 90 (NG d))]) (j:=λ_=>NP d c) ?_ ?_
     ·exact B
     ·rintro⟨⟩ ⟨u,v⟩ nn;dsimp only[NP];exact B

theorem Aky:Ns Tryz.prog 65 (fS .ground UO (λa=>RY a.1 a.2) Nr):=by
 refine fn2 2 (nK 120 AbK<|nK 121 AcD<|nK 122 Ajx<|nK 123 Ajy<|Np) Tryz.func65<|?_;rintro⟨b,c⟩;unfold RY;refine Ab 13 λe f=>?_
 refine Ac 4 ?_ ?_
 ·exact B
 ·refine Ab 7 λd h=>?_
  refine Ac 15 ?_ ?_
  ·exact B
  ·refine Ab 7 λi k=>?_
   refine Ac 10 ?_ ?_
   ·exact B
   ·refine A 2 ?_;refine sC (E:=λ(_s:Unit) (g:Nat×Nat)=>[oI 1 c,oP 2 g.1,oP 5 g.2]) (O:=λ_ g=>[(2,dV g.1 1 28 (.agg [.sl (b.Funcs.map Nz)])),(5,dV g.2 3 36 (Nz d))]) (j:=λ_=>Zp d b c) ?_ ?_
    ·exact B
    ·rintro⟨⟩ ⟨l,m⟩ nn;dsimp only[Zp];refine A 7 ?_;refine lP (E:=λ(s:Int) (g:Nat×Nat)=>[oI 1 c,oP 2 g.1,oP 5 g.2,oI 7 s]) (O:=λ_ g=>[(2,dV g.1 1 28 (.agg [.sl (b.Funcs.map Nz)])),(5,dV g.2 3 36 (Nz d))]) (_,_) hX<|?_
     rintro k6 ⟨o,p⟩ nn;dsimp only[Qr];exact B

theorem Aod:Ns Tryz.prog 23 (fS .ground Wc (λa=>WN a) Nr):=by
 refine fn2 1 (nK 65 Aky<|Np) Tryz.func23<|?_;intro b;unfold WN;refine Ac 15 ?_ ?_
 ·exact B
 ·refine Ac 11 ?_ ?_
  ·exact B
  ·refine Ab 7 λc d=>?_
   refine Ac 6 ?_ ?_
   ·exact B
   ·refine A 9 ?_;refine lP (E:=λ(s:Int) (g:Nat)=>[oP 1 g,oI 3 s]) (O:=λ_ g=>[(1,dV g 1 28 (.agg [.sl (b.Funcs.map Nz)]))]) _ hX<|?_
    rintro e f nn;dsimp only[SC];exact B

end Go.Proofs.YtcaoepecbgggcaaGreatDoor
