/-
 The code does what its typed programs say.
-/
import Derived.Test.YtcaoepecbgggcaaGreatDoorProg
import Derived.Test.YtcaoepecbgggcaaGreatDoorDc
import Derived.KernelRfl
import Derived.Test.YtcaoepecbgggcaaGreatDoorSh
import Derived.Test.YtcaoepecbgggcaaGreatDoorDxP
import Derived.Test.YtcaoepecbgggcaaGreatDoorDxF1
import Derived.Test.YtcaoepecbgggcaaGreatDoorDxF2
import Derived.Test.YtcaoepecbgggcaaGreatDoorCl
namespace Go.Proofs.YtcaoepecbgggcaaGreatDoor
open Go Go.Dw Go.Proofs
open Go.IntKind (i64)
set_option maxRecDepth 100000
set_option maxHeartbeats 40000000
open Go.Dw renaming Ql -> bD,Qo -> cK,YI -> bS,YJ -> sE,AaX -> iO,UZ -> cD,Xt -> xC,Ui -> xL,AbZ -> hE,Xu -> lP,Tt -> sC,rf -> r
noncomputable section
def Anp:Dw.Spec:=NI [] (.row 1 3) Ri Rh (λa=>ZJ a.1 a.2) OC noE
theorem Asf:ND Tryz.prog 95 Anp:=by
 refine fn2 2 (NJ (l:=[(100,Air),(158,Ajp),(159,TU),(160,Ama)]) (by simp[AlU,AmN,Vo,AoR])) Tryz.func95<|?_
 rintro⟨f,h⟩;unfold ZJ;refine Ab 19 λa i=>?_
 refine A 6 ?_;refine lP (E:=λ(s:(List Int)×Int) (g:Nat×Nat)=>[(5,.osl 5 g.1 0 s.1.length),(14,.osl 14 g.2 0 a.length),(15,Av (a.length:Int)),(16,Av s.2)]) (O:=λs g=>[(5,dW g.1 1 3 (s.1.map NA)),(14,dW g.2 5 90 (a.map NX))]) (body:=λs=>AbB a s.1 s.2) (s:=(([]:List Int),0)) (_,_) hX<|?_
 rintro⟨b,c⟩ ⟨j,k⟩ nn
 try dsimp only
 unfold AbB;refine Ac 6 ?_ ?_
 ·refine Ab 7 λm o=>?_
  refine Ab 9 λd p=>?_
  refine Ab 8 λe q=>?_
  refine Ac 13 ?_ ?_
  ·refine A 13 ?_;exact xL (s:=((b++d)++([e.1]:List Int),i64.wrap (c+1))) (_,_) hX
  ·refine A 7 ?_;exact xL (s:=(b++d,i64.wrap (c+1))) (_,_) hX
 ·exact B

def AiQ:Dw.Spec:=NI [] (.row 1 3) QC QB (λa=>Wn a.1 a.2) OC noE
theorem AoD:ND Tryz.prog 96 AiQ:=by
 refine fn2 2 (NZ) Tryz.func96<|?_;rintro⟨a,c⟩;unfold Wn;refine A 19 ?_;refine lP (E:=λ(s:(List Int)×Int) (g:Nat)=>[(1,Av c),(5,.osl 5 g 0 s.1.length),(8,.sl (a.map NA)),(9,Av (a.length:Int)),(10,Av s.2)]) (O:=λs g=>[(5,dW g 1 3 (s.1.map NA))]) (body:=λs=>WK a c s.1 s.2) (s:=(([]:List Int),0)) _ hX<|?_
 rintro⟨d,b⟩ e nn
 try dsimp only
 unfold WK;refine Ac 6 ?_ ?_
 ·refine Ab 7 λf h=>?_
  refine Ac 13 ?_ ?_
  ·refine A 13 ?_;exact xL (s:=(d++([b]:List Int),i64.wrap (b+1))) _ hX
  ·refine A 7 ?_;exact xL (s:=(d,i64.wrap (b+1))) _ hX
 ·exact B

def Aez:Dw.Spec:=NI [] .ground QC QB (λa=>RX a.1 a.2) NC noE
theorem Alw:ND Tryz.prog 98 Aez:=by
 refine fn2 2 (NZ) Tryz.func98<|?_;rintro⟨a,b⟩;unfold RX;refine A 14 ?_;refine lP (E:=λ(s:Int) (_g:Unit)=>[(0,.sl (a.map NA)),(1,Av b),(7,Av (a.length:Int)),(8,Av s)]) (O:=λ_ _=>[]) (body:=λs=>QG a b s) (s:=0) () hX<|?_
 rintro c ⟨⟩ nn
 try dsimp only
 unfold QG;refine Ac 6 ?_ ?_
 ·refine Ab 15 λd e=>?_
  refine Ac 5 ?_ ?_
  ·exact B
  ·refine A 7 ?_;exact xL (s:=i64.wrap (c+1)) () hX
 ·exact B

def Yk (a:NO):List D:=[Xf a]
def Yj (ds:List D):NO:=Adm (ds.getD 0 .top)
instance:Oc Yk Yj:=⟨λa=>by simp[Yj,Yk]⟩
def AkZ:Dw.Spec:=NI [] (.row 1 3) Yk Yj (λa=>ZI a) OC noE
theorem AqG:ND Tryz.prog 99 AkZ:=by
 refine fn2 1 (NZ) Tryz.func99<|?_;intro b;unfold ZI;refine A 26 ?_;refine lP (E:=λ(s:(List Int)×Int×Int) (g:Nat)=>[(3,.osl 3 g 0 s.1.length),(4,Av s.2.2),(8,.sl (b.Keep.map D.bool)),(9,Av (b.Keep.length:Int)),(10,Av s.2.1)]) (O:=λs g=>[(3,dW g 1 3 (s.1.map NA))]) (body:=λs=>Zb b s.1 s.2.1 s.2.2) (s:=(([]:List Int),0,0)) _ hX<|?_
 rintro⟨c,d,a⟩ e nn
 try dsimp only
 unfold Zb;refine Ac 6 ?_ ?_
 ·refine Ab 6 λf h=>?_
  refine Ac 19 ?_ ?_
  ·refine A 11 ?_;exact xL (s:=(c++([a]:List Int),i64.wrap (d+1),i64.wrap (a+1))) _ hX
  ·refine A 7 ?_;exact xL (s:=(c++([a]:List Int),i64.wrap (d+1),a)) _ hX
 ·exact B

def Yi (b:Mk×Int):D:=.tup [NM b.1,Av b.2]
def AlT:Dw.Spec:=NI [] .val Ri Rh (λa=>Xp a.1 a.2) Yi noE
theorem Arx:ND Tryz.prog 41 AlT:=by
 refine fn2 2 (NJ (l:=[(93,AbA),(95,Anp),(96,AiQ),(97,Aul),(98,Aez),(99,AkZ),(100,Air)]) (by simp[Aft,Asf,AoD,Axm,Alw,AqG,AlU])) Tryz.func41<|?_
 rintro⟨a,e⟩;unfold Xp;refine Ab 13 λz ae=>?_
 refine Ac 10 ?_ ?_
 ·refine A 10 ?_;refine Pd (b:=((Mk.mk 0 ([]) ([])),z)) r ?_ r r ?_ (by first|rfl|(simp only[NH];rfl)|(simp only[NK];rfl)|(simp only[NH,NK];rfl)|(simp[Yi,NM];try rfl)) (by decide)
  all_goals first|(simp;done)|(simp;omega)|rfl|(simp[OJ,OG];done)|(simp[cells];done)
 ·refine Ab 15 λc af=>?_
  refine A 13 ?_;refine lP (E:=λ(s:(List NQ)×Int) (g:Nat×Nat×Nat×Nat×Nat×Nat×Nat)=>[(2,.optr 2 g.1 0 0),(3,.optr 3 g.2.1 0 0),(4,.optr 4 g.2.2.1 0 0),(7,.optr 7 g.2.2.2.1 0 0),(8,.osl 8 g.2.2.2.2.1 0 c.length),(33,.osl 8 g.2.2.2.2.1 0 c.length),(34,Av (c.length:Int)),(35,Av s.2)]) (O:=λs g=>[(2,dV g.1 3 36 (NM a)),(3,dV g.2.1 2 48 (.agg [.sl (e.To.map NA),.sl (e.Keep.map D.bool)])),(4,dV g.2.2.1 3 36 (.agg [Av 0,.nils,.nils])),(7,dV g.2.2.2.1 3 36 (.agg [Av a.Params,.osl 900 g.2.2.2.2.2.1 0 s.1.length,.osl 901 g.2.2.2.2.2.2 0 (([]:List Lo).length)])),(8,dW g.2.2.2.2.1 1 3 (c.map NA)),(900,dW g.2.2.2.2.2.1 2 87 (s.1.map Ox)),(901,dW g.2.2.2.2.2.2 5 90 (([]:List Lo).map NX))]) (body:=λs=>Aas c a e s.1 s.2) (s:=(([]:List NQ),0)) (_,_,_,_,_,_,_) ((Aca (gg:=7) (off:=1) (tt:=900) (s:=2) (tyy:=87) r r r r (Aca (gg:=7) (off:=2) (tt:=901) (s:=5) (tyy:=90) r r r r hX)))<|?_
  rintro⟨d,o⟩ ⟨ag,ah,ai,aj,ak,ao,ap⟩ nn
  try dsimp only
  unfold Aas;refine Ac 6 ?_ ?_
  ·refine Ab 7 λaq ar=>?_
   refine Ab 9 λj au=>?_
   refine Ab 12 λp av=>?_
   refine A 6 ?_;refine lP (E:=λ(s:Int×Int) (g:Nat×Nat×Nat×Nat×Nat×Nat×Nat×Nat×Nat)=>[(2,.optr 2 g.1 0 0),(3,.optr 3 g.2.1 0 0),(4,.optr 4 g.2.2.1 0 0),(7,.optr 7 g.2.2.2.1 0 0),(8,.osl 8 g.2.2.2.2.1 0 c.length),(11,.optr 11 g.2.2.2.2.2.1 0 0),(33,.osl 8 g.2.2.2.2.1 0 c.length),(34,Av (c.length:Int)),(35,Av o),(47,.osl 47 g.2.2.2.2.2.2.1 0 p.length),(48,Av (p.length:Int)),(49,Av s.2)]) (O:=λs g=>[(2,dV g.1 3 36 (NM a)),(3,dV g.2.1 2 48 (.agg [.sl (e.To.map NA),.sl (e.Keep.map D.bool)])),(4,dV g.2.2.1 3 36 (.agg [Av 0,.nils,.nils])),(7,dV g.2.2.2.1 3 36 (.agg [Av a.Params,.osl 900 g.2.2.2.2.2.2.2.1 0 d.length,.osl 901 g.2.2.2.2.2.2.2.2 0 (([]:List Lo).length)])),(8,dW g.2.2.2.2.1 1 3 (c.map NA)),(11,dV g.2.2.2.2.2.1 2 87 (.agg [Av j.Size,Av s.1])),(47,dW g.2.2.2.2.2.2.1 1 3 (p.map NA)),(900,dW g.2.2.2.2.2.2.2.1 2 87 (d.map Ox)),(901,dW g.2.2.2.2.2.2.2.2 5 90 (([]:List Lo).map NX))]) (body:=λs=>Aat p a d j o s.1 s.2) (s:=(j.Align,0)) (_,_,_,_,_,_,_,_,_) hX<|?_
   rintro⟨k,aa⟩ ⟨aw,ax,ay,az,ba,bb,bc,bd,bf⟩ nn
   try dsimp only
   unfold Aat;refine Ac 6 ?_ ?_
   ·refine Ab 7 λbg bh=>?_
    refine Ab 10 λab bi=>?_
    refine A 13 ?_;exact xL (s:=(OX k ab.Align,i64.wrap (aa+1))) (_,_,_,_,_,_,_,_,_) hX
   ·refine A 9 ?_;refine bS ([(NQ.mk j.Size k)]:List NQ) Ox r r r (by simp) r r r<|?_
    refine A 10 ?_;exact xL (s:=(d++([(NQ.mk j.Size k)]:List NQ),i64.wrap (o+1))) (_,_,_,_,_,_,_) ((Aae (E1:=[(2,.optr 2 _ 0 0),(3,.optr 3 _ 0 0),(4,.optr 4 _ 0 0),(7,.optr 7 _ 0 0),(8,.osl 8 _ 0 c.length),(33,.osl 8 _ 0 c.length),(34,Av (c.length:Int)),(35,Av (i64.wrap (o+1)))]) (O1:=[(2,dV _ 3 36 (NM a)),(3,dV _ 2 48 (.agg [.sl (e.To.map NA),.sl (e.Keep.map D.bool)])),(4,dV _ 3 36 (.agg [Av 0,.nils,.nils])),(7,dV _ 3 36 (.agg [Av a.Params,.osl 68 _ 0 ((d++([(NQ.mk j.Size k)]:List NQ)).length),.osl 901 _ 0 (([]:List Lo).length)])),(8,dW _ 1 3 (c.map NA)),(68,dW _ 2 87 ((d++([(NQ.mk j.Size k)]:List NQ)).map Ox)),(901,dW _ 5 90 (([]:List Lo).map NX))]) hX (λ_=>PC (λg=>bif Nat.beq g 68 then 900 else g) (by kernel_rfl) hX)))
  ·refine Ab 9 λq bj=>?_
   refine A 13 ?_;refine lP (E:=λ(s:(List Int)×Int) (g:Nat×Nat×Nat×Nat×Nat×Nat×Nat×Nat)=>[(2,.optr 2 g.1 0 0),(3,.optr 3 g.2.1 0 0),(4,.optr 4 g.2.2.1 0 0),(7,.optr 7 g.2.2.2.1 0 0),(8,.osl 8 g.2.2.2.2.1 0 c.length),(14,.osl 14 g.2.2.2.2.2.1 0 s.1.length),(74,.osl 14 g.2.2.2.2.2.1 0 s.1.length),(75,Av (q.length:Int)),(76,Av s.2)]) (O:=λs g=>[(2,dV g.1 3 36 (NM a)),(3,dV g.2.1 2 48 (.agg [.sl (e.To.map NA),.sl (e.Keep.map D.bool)])),(4,dV g.2.2.1 3 36 (.agg [Av 0,.nils,.nils])),(7,dV g.2.2.2.1 3 36 (.agg [Av a.Params,.osl 900 g.2.2.2.2.2.2.1 0 d.length,.osl 901 g.2.2.2.2.2.2.2 0 (([]:List Lo).length)])),(8,dW g.2.2.2.2.1 1 3 (c.map NA)),(14,dW g.2.2.2.2.2.1 1 3 (s.1.map NA)),(900,dW g.2.2.2.2.2.2.1 2 87 (d.map Ox)),(901,dW g.2.2.2.2.2.2.2 5 90 (([]:List Lo).map NX))]) (body:=λs=>Aau q c e a d s.1 s.2) (s:=(q,0)) (_,_,_,_,_,_,_,_) hX<|?_
   rintro⟨bk,bl⟩ ⟨bm,bn,bo,bp,bq,br,bs,bt⟩ nn
   try dsimp only
   unfold Aau;refine Ac 6 ?_ ?_
   ·exact B
   ·refine Ab 8 λt bu=>?_
    refine Ab 9 λu bv=>?_
    refine A 15 ?_;refine lP (E:=λ(s:(List Lo)×Int) (g:Nat×Nat×Nat×Nat×Nat)=>[(4,.optr 4 g.1 0 0),(7,.optr 7 g.2.1 0 0),(17,.osl 17 g.2.2.1 0 t.length),(97,Av (u.length:Int)),(98,Av s.2)]) (O:=λs g=>[(4,dV g.1 3 36 (.agg [Av 0,.nils,.nils])),(7,dV g.2.1 3 36 (.agg [Av a.Params,.osl 900 g.2.2.2.2 0 d.length,.osl 93 g.2.2.2.1 0 s.1.length])),(17,dW g.2.2.1 1 3 (t.map NA)),(93,dW g.2.2.2.1 5 90 (s.1.map NX)),(900,dW g.2.2.2.2 2 87 (d.map Ox))]) (body:=λs=>WH u t a d s.1 s.2) (s:=(u,0)) (_,_,_,_,_) hX<|?_
    rintro⟨f,m⟩ ⟨bw,bx,bz,ca,cb⟩ nn
    try dsimp only
    unfold WH;refine Ac 6 ?_ ?_
    ·refine Ab 24 λcc cd=>?_
     refine Ac 10 ?_ ?_
     ·refine Ab 6 λce cf=>?_
      refine Ab 2 λv cg=>?_
      refine A 3 ?_;refine bD λh ac=>sE (l:=f) (en:=NX) (q':=(Lo.mk h.Op v h.B h.C h.Imm)) r r r r r r r (by simp) ac r r r r r<|?_
      refine A 8 ?_;exact xL (s:=(f.set m.toNat (Lo.mk h.Op v h.B h.C h.Imm),i64.wrap (m+1))) (_,_,_,_,_) ((hE ⟨rfl,r,r,r,r,trivial⟩ ⟨rfl,(Eq.trans (b:=dV _ 3 36 (.agg [Av a.Params,.osl 900 _ 0 d.length,.osl 93 _ 0 f.length])) r (by simp)),r,r,r,trivial⟩))
     ·refine Ac 6 ?_ ?_
      ·refine Ab 6 λch ci=>?_
       refine Ab 2 λx cj=>?_
       refine A 3 ?_;refine bD λi ad=>sE (l:=f) (en:=NX) (q':=(Lo.mk i.Op i.A x i.C i.Imm)) r r r r r r r (by simp) ad r r r r r<|?_
       refine A 8 ?_;exact xL (s:=(f.set m.toNat (Lo.mk i.Op i.A x i.C i.Imm),i64.wrap (m+1))) (_,_,_,_,_) ((hE ⟨rfl,r,r,r,r,trivial⟩ ⟨rfl,(Eq.trans (b:=dV _ 3 36 (.agg [Av a.Params,.osl 900 _ 0 d.length,.osl 93 _ 0 f.length])) r (by simp)),r,r,r,trivial⟩))
      ·refine A 8 ?_;exact xL (s:=(f,i64.wrap (m+1))) (_,_,_,_,_) hX
    ·refine A 13 ?_;refine Pd (b:=((Mk.mk a.Params d f),0)) r ?_ r r ?_ (by first|rfl|(simp only[NH];rfl)|(simp only[NK];rfl)|(simp only[NH,NK];rfl)|(simp[Yi,NM];try rfl)) (by decide)
     all_goals first|(simp;done)|(simp;omega)|rfl|(simp[OJ,OG];done)|(simp[cells];done)

def Vs (a:NG×Int×Mk):List D:=[Ps a.1,Av a.2.1,NM a.2.2]
def Vr (ds:List D):NG×Int×Mk:=(Rn (ds.getD 0 .top),uI (ds.getD 1 .top),Qz (ds.getD 2 .top))
instance:Oc Vs Vr:=⟨λa=>by simp[Vr,Vs,uI]⟩
def Ye (b:NG):D:=Ps b
def Abv:Dw.Spec:=NI [] .val Vs Vr (λa=>RH a.1 a.2.1 a.2.2) Ye noE
theorem AkH:ND Tryz.prog 43 Abv:=by
 refine fn2 3 (NJ (l:=[(103,Auj)]) (by simp[Axk])) Tryz.func43<|?_
 rintro⟨f,d,c⟩;unfold RH;refine Ab 11 λa g=>?_
 refine A 12 ?_;refine cK λhq=>iO (l:=a) (en:=NM) r r r r r hq<|bD λh e=>sE (l:=a) (en:=NM) (q':=c) r r r r r r r (by simp) e r r r r r<|?_
 refine A 9 ?_;refine UX (b:=(NG.mk (a.set d.toNat c))) r ?_ r r ?_ (by first|rfl|(simp only;rfl)|(simp only;rfl)|(simp only;rfl)|(simp[Ye,Ps];try rfl))
 all_goals first|(simp;done)|(simp;omega)|rfl|(simp[OJ,OG];done)|(simp[cells];done)

def Sd (a:Ot×Int):List D:=[Qp a.1,Av a.2]
def Sc (ds:List D):Ot×Int:=(Vb (ds.getD 0 .top),uI (ds.getD 1 .top))
instance:Oc Sd Sc:=⟨λa=>by simp[Sc,Sd,uI]⟩
def AjV (b:NV):D:=PF b
def VD:Dw.Spec:=NI [] .ground Sd Sc (λa=>Pl a.1 a.2) AjV noE
theorem AaD:ND Tryz.prog 224 VD:=by
 refine fn2 2 (NZ) Tryz.func224<|?_;intro a;unfold Pl;exact B

def Aad (a:NV):List D:=[PF a]
def Aac (ds:List D):NV:=UH (ds.getD 0 .top)
instance:Oc Aad Aac:=⟨λa=>by simp[Aac,Aad]⟩
def AhA:Dw.Spec:=NI [] .ground Aad Aac (λa=>UD a) NW noE
theorem AlH:ND Tryz.prog 264 AhA:=by
 refine fn2 1 (NJ (l:=[(149,AcH)]) (by simp[Ago])) Tryz.func264<|?_
 intro a;unfold UD;exact B

def YT (a:NV×Int):List D:=[PF a.1,Av a.2]
def YS (ds:List D):NV×Int:=(UH (ds.getD 0 .top),uI (ds.getD 1 .top))
instance:Oc YT YS:=⟨λa=>by simp[YS,YT,uI]⟩
def Agn:Dw.Spec:=NI [] .ground YT YS (λa=>Sv a.1 a.2) NW noE
theorem Akz:ND Tryz.prog 263 Agn:=by
 refine fn2 2 (NJ (l:=[(264,AhA)]) (by simp[AlH])) Tryz.func263<|?_
 intro a;unfold Sv;exact B

def Ado:Dw.Spec:=NI [] .ground Sd Sc (λa=>Ru a.1 a.2) NW noE
theorem AkC:ND Tryz.prog 222 Ado:=by
 refine fn2 2 (NJ (l:=[(224,VD),(263,Agn)]) (by simp[AaD,Akz])) Tryz.func222<|?_
 intro a;unfold Ru;exact B

def WD (a:Ot):List D:=[Qp a]
def WC (ds:List D):Ot:=Vb (ds.getD 0 .top)
instance:Oc WD WC:=⟨λa=>by simp[WC,WD]⟩
def Aei:Dw.Spec:=NI [] .ground WD WC (λa=>RT a) NC noE
theorem Alp:ND Tryz.prog 162 Aei:=by
 refine fn2 1 (NJ (l:=[(39,Yf),(88,Amn),(222,Ado)]) (by simp[Afh,ApH,AkC])) Tryz.func162<|?_
 intro a;unfold RT;refine Ab 14 λb d=>?_
 refine Ac 16 ?_ ?_
 ·exact B
 ·refine A 2 ?_;refine sC (E:=λ(_s:Unit) (g:Nat×Nat)=>[(1,.optr 1 g.1 0 0),(3,.optr 3 g.2 0 0)]) (O:=λ_ g=>[(1,dV g.1 9 144 (Qp a)),(3,dV g.2 3 39 (OB b.1))]) (j:=λ_=>TM a b) ?_ ?_
  ·refine Ab 9 λe h=>?_
   refine A 3 ?_;refine NS r ?_ ?_
   ·exact B
   ·refine Ac 12 ?_ ?_
    ·exact B
    ·refine A 1 ?_;exact xC (s:=()) (_,_) hX
  ·rintro⟨⟩ ⟨i,k⟩ nn
   try dsimp only
   unfold TM;refine A 11 ?_;refine lP (E:=λ(s:Int) (g:Nat×Nat)=>[(1,.optr 1 g.1 0 0),(3,.optr 3 g.2 0 0),(42,Av (a.f.Slots.length:Int)),(43,Av s)]) (O:=λ_ g=>[(1,dV g.1 9 144 (Qp a)),(3,dV g.2 3 39 (OB b.1))]) (body:=λs=>TL a b s) (s:=0) (_,_) hX<|?_
   rintro c ⟨m,o⟩ nn
   try dsimp only
   unfold TL;refine Ac 6 ?_ ?_
   ·refine Ab 14 λp q=>?_
    refine Ac 4 ?_ ?_
    ·exact B
    ·refine A 7 ?_;exact xL (s:=i64.wrap (c+1)) (_,_) hX
   ·exact B

def Tl (a:Ot×NT):List D:=[Qp a.1,QP a.2]
def Tk (ds:List D):Ot×NT:=(Vb (ds.getD 0 .top),Va (ds.getD 1 .top))
instance:Oc Tl Tk:=⟨λa=>by simp[Tk,Tl]⟩
def Aeh:Dw.Spec:=NI [] .ground Tl Tk (λa=>Tj a.1 a.2) NC noE
theorem Alo:ND Tryz.prog 101 Aeh:=by
 refine fn2 2 (NJ (l:=[(162,Aei),(92,YU)]) (by simp[Alp,Acd])) Tryz.func101<|?_
 intro a;unfold Tj;exact B

def XX (a:NV×NV):List D:=[PF a.1,PF a.2]
def XW (ds:List D):NV×NV:=(UH (ds.getD 0 .top),UH (ds.getD 1 .top))
instance:Oc XX XW:=⟨λa=>by simp[XW,XX]⟩
def Aoc:Dw.Spec:=NI [] .ground XX XW (λa=>Aec a.1 a.2) NW noE
theorem Asr:ND Tryz.prog 265 Aoc:=by
 refine fn2 2 (NZ) Tryz.func265<|?_;intro a;unfold Aec;exact B

def AkA:Dw.Spec:=NI [] .ground XX XW (λa=>Wc a.1 a.2) NW noE
theorem Aqy:ND Tryz.prog 223 AkA:=by
 refine fn2 2 (NJ (l:=[(264,AhA),(265,Aoc)]) (by simp[AlH,Asr])) Tryz.func223<|?_
 intro a;unfold Wc;exact B

def WB (a:Ot×NT×Int):List D:=[Qp a.1,QP a.2.1,Av a.2.2]
def WA (ds:List D):Ot×NT×Int:=(Vb (ds.getD 0 .top),Va (ds.getD 1 .top),uI (ds.getD 2 .top))
instance:Oc WB WA:=⟨λa=>by simp[WA,WB,uI]⟩
def Aef:Dw.Spec:=NI [] .ground WB WA (λa=>RS a.1 a.2.1 a.2.2) TT noE
theorem Alm:ND Tryz.prog 163 Aef:=by
 refine fn2 3 (NJ (l:=[(159,TU),(224,VD),(223,AkA)]) (by simp[Vo,AaD,Aqy])) Tryz.func163<|?_
 rintro⟨a,d,e⟩;unfold RS;refine Ab 14 λh i=>?_
 refine Ab 9 λb k=>?_
 refine A 8 ?_;refine sC (E:=λ(_s:Unit) (g:Nat×Nat)=>[(2,Av e),(3,.optr 3 g.1 0 0),(4,.optr 4 g.2 0 0),(9,Av b.1)]) (O:=λ_ g=>[(3,dV g.1 9 144 (Qp a)),(4,dV g.2 1 45 (.agg [.sl (d.Out.map (eL NA))]))]) (j:=λ_=>Qk d e b a) ?_ ?_
 ·refine A 5 ?_;refine NS r ?_ ?_
  ·exact B
  ·refine A 4 ?_;refine NS r ?_ ?_
   ·refine Ab 5 λm o=>?_
    refine Ab 7 λp q=>?_
    refine Ac 7 ?_ ?_
    ·exact B
    ·refine A 1 ?_;exact xC (s:=()) (_,_) hX
   ·refine A 21 ?_;exact xC (s:=()) (_,_) hX
 ·rintro⟨⟩ ⟨t,u⟩ nn
  try dsimp only
  unfold Qk;refine Ab 6 λc v=>?_
  refine A 7 ?_;refine lP (E:=λ(s:Int) (g:Nat)=>[(3,.optr 3 g 0 0),(9,Av b.1),(52,.sl (c.map NA)),(53,Av (c.length:Int)),(54,Av s)]) (O:=λ_ g=>[(3,dV g 9 144 (Qp a))]) (body:=λs=>TJ c b a s) (s:=0) _ hX<|?_
  rintro f x nn
  try dsimp only
  unfold TJ;refine Ac 6 ?_ ?_
  ·refine Ab 6 λz aa=>?_
   refine A 11 ?_;refine NS r ?_ ?_
   ·refine Ab 2 λr9 ac=>?_
    refine Ab 3 λad ae=>?_
    refine Ab 1 λaf ag=>?_
    refine Ac 4 ?_ ?_
    ·exact B
    ·refine A 7 ?_;exact xL (s:=i64.wrap (f+1)) _ hX
   ·refine A 18 ?_;exact xL (s:=i64.wrap (f+1)) _ hX
  ·exact B

def Aeg:Dw.Spec:=NI [] .ground Tl Tk (λa=>Ti a.1 a.2) Tx noE
theorem Aln:ND Tryz.prog 102 Aeg:=by
 refine fn2 2 (NJ (l:=[(163,Aef)]) (by simp[Alm])) Tryz.func102<|?_
 rintro⟨a,b⟩;unfold Ti;refine A 20 ?_;refine lP (E:=λ(s:Int) (g:Nat×Nat)=>[(2,.optr 2 g.1 0 0),(3,.optr 3 g.2 0 0),(13,Av (a.f.Code.length:Int)),(14,Av s)]) (O:=λ_ g=>[(2,dV g.1 9 144 (Qp a)),(3,dV g.2 1 45 (.agg [.sl (b.Out.map (eL NA))]))]) (body:=λs=>TK a b s) (s:=0) (_,_) hX<|?_
 rintro c ⟨d,e⟩ nn
 try dsimp only
 unfold TK;refine Ac 6 ?_ ?_
 ·refine Ab 15 λh i=>?_
  refine Ac 13 ?_ ?_
  ·exact B
  ·refine A 7 ?_;exact xL (s:=i64.wrap (c+1)) (_,_) hX
 ·exact B

def Wz (a:NG×Int×Int×NT×NN):List D:=[Ps a.1,Av a.2.1,Av a.2.2.1,QP a.2.2.2.1,OB a.2.2.2.2]
def Wy (ds:List D):NG×Int×Int×NT×NN:=(Rn (ds.getD 0 .top),uI (ds.getD 1 .top),uI (ds.getD 2 .top),Va (ds.getD 3 .top),AaY (ds.getD 4 .top))
instance:Oc Wz Wy:=⟨λa=>by simp[Wy,Wz,uI]⟩
def AmW:Dw.Spec:=NI [] .ground Wz Wy (λa=>Sp a.1 a.2.1 a.2.2.1 a.2.2.2.1 a.2.2.2.2) NC noE
theorem ArQ:ND Tryz.prog 42 AmW:=by
 refine fn2 5 (NJ (l:=[(101,Aeh),(102,Aeg)]) (by simp[Alo,Aln])) Tryz.func42<|?_
 intro a;unfold Sp;exact B

def YR (a:NG×Int×NR):List D:=[Ps a.1,Av a.2.1,Oe a.2.2]
def YQ (ds:List D):NG×Int×NR:=(Rn (ds.getD 0 .top),uI (ds.getD 1 .top),Yn (ds.getD 2 .top))
instance:Oc YR YQ:=⟨λa=>by simp[YQ,YR,uI]⟩
def Abo (b:Mk×NN×Int×Int):D:=.tup [NM b.1,OB b.2.1,Av b.2.2.1,Av b.2.2.2]
def Abp:Dw.Spec:=NI [] .val YR YQ (λa=>Su a.1 a.2.1 a.2.2) Abo noE
theorem Akx:ND Tryz.prog 12 Abp:=by
 refine fn2 3 (NJ (l:=[(38,AaU),(39,Yf),(40,Alh),(41,AlT),(43,Abv),(42,AmW)]) (by simp[Alb,Afh,AqH,Arx,AkH,ArQ])) Tryz.func12<|?_
 rintro⟨c,d,e⟩;unfold Su;refine Ab 13 λf m=>?_
 refine Ab 9 λa o=>?_
 refine Ac 16 ?_ ?_
 ·refine A 13 ?_;refine Pd (b:=((Mk.mk 0 ([]) ([])),(NN.mk 0 0 ([])),0,a.2)) r ?_ r r ?_ (by first|rfl|(simp only[NH];rfl)|(simp only[NK];rfl)|(simp only[NH,NK];rfl)|(simp[Abo,NM,OB];try rfl)) (by decide)
  all_goals first|(simp;done)|(simp;omega)|rfl|(simp[OJ,OG];done)|(simp[cells];done)
 ·refine Ab 7 λh p=>?_
  refine A 6 ?_;refine sC (E:=λ(_s:Unit) (g:Nat×Nat×Nat×Nat×Nat×Nat)=>[(1,Av d),(3,.optr 3 g.1 0 0),(5,.optr 5 g.2.1 0 0),(6,.optr 6 g.2.2.1 0 0),(7,.optr 7 g.2.2.2.1 0 0),(10,Av f),(11,.optr 11 g.2.2.2.2.1 0 0),(13,.optr 13 g.2.2.2.2.2 0 0)]) (O:=λ_ g=>[(3,dV g.1 1 28 (.agg [.sl (c.Funcs.map NM)])),(5,dV g.2.1 7 50 (Oe e)),(6,dV g.2.2.1 3 36 (.agg [Av 0,.nils,.nils])),(7,dV g.2.2.2.1 3 39 (.agg [Av 0,Av 0,.nils])),(11,dV g.2.2.2.2.1 3 39 (OB a.1)),(13,dV g.2.2.2.2.2 3 36 (NM h))]) (j:=λ_=>Sx c d f e h a) ?_ ?_
  ·refine Ab 7 λq t=>?_
   refine Ac 4 ?_ ?_
   ·refine Ab 5 λi u=>?_
    refine A 9 ?_;refine sC (E:=λ(s:Bool) (g:Nat×Nat×Nat×Nat×Nat×Nat×Nat)=>[(1,Av d),(3,.optr 3 g.1 0 0),(5,.optr 5 g.2.1 0 0),(6,.optr 6 g.2.2.1 0 0),(7,.optr 7 g.2.2.2.1 0 0),(10,Av f),(11,.optr 11 g.2.2.2.2.1 0 0),(13,.optr 13 g.2.2.2.2.2.1 0 0),(14,.optr 14 g.2.2.2.2.2.2 0 0),(72,.bool s)]) (O:=λ_ g=>[(3,dV g.1 1 28 (.agg [.sl (c.Funcs.map NM)])),(5,dV g.2.1 7 50 (Oe e)),(6,dV g.2.2.1 3 36 (.agg [Av 0,.nils,.nils])),(7,dV g.2.2.2.1 3 39 (.agg [Av 0,Av 0,.nils])),(11,dV g.2.2.2.2.1 3 39 (OB a.1)),(13,dV g.2.2.2.2.2.1 3 36 (NM h)),(14,dV g.2.2.2.2.2.2 3 36 (NM i.1))]) (j:=λs=>Sy i e c d f h a s) ?_ ?_
    ·refine A 4 ?_;refine NS r ?_ ?_
     ·refine A 8 ?_;refine NS r ?_ ?_
      ·refine Ab 3 λv x=>?_
       refine Ab 7 λk z=>?_
       refine A 4 ?_;exact xC (s:=(k==0)) (_,_,_,_,_,_,_) hX
      ·refine A 14 ?_;exact xC (s:=false) (_,_,_,_,_,_,_) hX
     ·refine A 22 ?_;exact xC (s:=false) (_,_,_,_,_,_,_) hX
    ·rintro aa ⟨ab,ac,ad,ae,af,ag,ah⟩ nn
     try dsimp only
     unfold Sy;refine cD r ?_ ?_
     ·exact B
     ·refine A 1 ?_;exact xC (s:=()) (_,_,_,_,_,_) hX
   ·refine A 1 ?_;exact xC (s:=()) (_,_,_,_,_,_) hX
  ·rintro⟨⟩ ⟨ai,aj,ak,ao,ap,aq⟩ nn
   try dsimp only
   unfold Sx;exact B

def Pu (a:Mk×NN×Lo):List D:=[NM a.1,OB a.2.1,NX a.2.2]
def Pt (ds:List D):Mk×NN×Lo:=(Qz (ds.getD 0 .top),AaY (ds.getD 1 .top),QO (ds.getD 2 .top))
instance:Oc Pu Pt:=⟨λa=>by simp[Pt,Pu]⟩
def Aej:Dw.Spec:=NI [] .ground Pu Pt (λa=>VG a.1 a.2.1 a.2.2) RD noE
theorem Alq:ND Tryz.prog 236 Aej:=by
 refine fn2 3 (NZ) Tryz.func236<|?_;intro a;unfold VG;exact B

def Aek:Dw.Spec:=NI [] .ground Pu Pt (λa=>VH a.1 a.2.1 a.2.2) RD noE
theorem Alr:ND Tryz.prog 237 Aek:=by
 refine fn2 3 (NZ) Tryz.func237<|?_;intro a;unfold VH;exact B

def Ael:Dw.Spec:=NI [] .ground Pu Pt (λa=>VI a.1 a.2.1 a.2.2) RD noE
theorem Als:ND Tryz.prog 238 Ael:=by
 refine fn2 3 (NZ) Tryz.func238<|?_;intro a;unfold VI;exact B

def Aem:Dw.Spec:=NI [] .ground Pu Pt (λa=>VJ a.1 a.2.1 a.2.2) RD noE
theorem Alu:ND Tryz.prog 239 Aem:=by
 refine fn2 3 (NZ) Tryz.func239<|?_;intro a;unfold VJ;exact B

def Aen:Dw.Spec:=NI [] .ground Pu Pt (λa=>VK a.1 a.2.1 a.2.2) RD noE
theorem Alv:ND Tryz.prog 240 Aen:=by
 refine fn2 3 (NZ) Tryz.func240<|?_;intro a;unfold VK;exact B

def Apz:Dw.Spec:=NI [] .ground Pu Pt (λa=>AjW a.1 a.2.1 a.2.2) RD noE
theorem Atu:ND Tryz.prog 235 Apz:=by
 refine fn2 3 (NZ) Tryz.func235<|?_;intro a;unfold AjW;exact B

end
end Go.Proofs.YtcaoepecbgggcaaGreatDoor
